/-
  DERIVED: THE SHELF's CONTRACTS AT THIS DUMP, IN PLAIN WORDS (tools/lay-plain.mjs out of 'LxShBN.lean', which tools/lay-shelf.mjs wrote): THE SAME DECLARATIONS UNDER THE SAME NAMES: 'import', 'namespace', 'open', 'def', 'theorem' AND NOTHING ELSE: no command of the shelf's: FOR A HAND-IN. Each laying: the table of numbers ('.._ren') and one theorem, a field a fact of the dump's own or the kernel's comparison; each contract: ONE APPLICATION.
-/
import Derived.Shelf.Strings.Trim
import Derived.Shelf.Small.Wraps
import Derived.Shelf.Strings.BuilderF
import Derived.Shelf.Strconv.Itoa4
import Derived.Shelf.Strconv.ErrVarAll
import Derived.Shelf.Strconv.ParseUintEmpty
import Derived.Shelf.Unicode.Decode
import Derived.Shelf.Strings.IndexAnyAll
import Derived.Shelf.Strings.FuncGrows
import Derived.Shelf.Slices.SearchI
import Derived.Shelf.Slices.Cells
import Derived.Shelf.SlicesE.Reverse
import Derived.Shelf.Spec.TrailingZeros
import Derived.Shelf.Unicode.ValidAny
import Derived.Test.YtaghbedfogiopaaGreatDoorLxM
set_option linter.unusedSimpArgs false
set_option linter.unusedVariables false
set_option linter.unusedSectionVars false
set_option linter.unnecessarySimpa false
namespace Go.Proofs
open Go.Shelf
def Tryz_lays137_renX:Go.Shelf.Ren:=⟨fun | 137=>190 | 217=>217 | 266=>246 | n=>n,fun | 9=>9 | 5=>5 | 3=>3 | n=>n,fun | n=>n⟩
theorem J38:Go.Proofs.Lays.n137 Tryz.prog Tryz_lays137_renX:={
 mixed:=by kernel_rfl
 f137:=Tryz.func190.trans (congrArg some (by kernel_rfl))
 f217:=Tryz.func217.trans (congrArg some (by kernel_rfl))
 f266:=Tryz.func246.trans (congrArg some (by kernel_rfl))
 t3:=Tryz.underlying3
 a3:=Tryz.isAgg3
 z3:=Tryz.sizeOf3
 v3:=Tryz.zeroValue3
 t5:=Tryz.underlying5
 a5:=Tryz.isAgg5
 z5:=Tryz.sizeOf5
 v5:=Tryz.zeroValue5
 t9:=Tryz.underlying9
 a9:=Tryz.isAgg9
 z9:=Tryz.sizeOf9
 v9:=Tryz.zeroValue9 }
open Go.RowKit in
theorem Tryz.strings_IndexByte (s:ByteArray) (c:Int) (w:World) :
  Calls Tryz.prog 190 #[.string s,.int .u8 c] w fun e w'=>e=.returned (.int .i64 (Lib.indexByte s.data.toList c.toNat.toUInt8))/\w'=w:=Any.strings_IndexByte J38 s c w
def Tryz_laysM171_renX:Go.Shelf.Ren:=⟨fun | 171=>91 | 243=>141 | 246=>177 | 283=>202 | 284=>203 | 285=>204 | 286=>205 | 129=>231 | 317=>237 | 318=>238 | 319=>239 | 320=>240 | 337=>261 | 338=>262 | n=>n,fun | 3=>3 | 9=>9 | 2=>2 | 4=>4 | 171=>199 | 0=>0 | 53=>191 | 37=>121 | 5=>5 | 173=>202 | 212=>229 | 51=>224 | 20=>20 | 213=>230 | 46=>165 | 232=>259 | 233=>260 | n=>n,fun | 17=>2 | 18=>6 | 19=>7 | n=>n⟩
theorem J3s:Go.Proofs.LaysM.n171 Tryz.prog Tryz_laysM171_renX:={
 mixed:=by kernel_rfl
 f129:=Tryz.func231.trans (congrArg some (by kernel_rfl))
 f171:=Tryz.func91.trans (congrArg some (by kernel_rfl))
 f243:=Tryz.func141.trans (congrArg some (by kernel_rfl))
 f246:=Tryz.func177.trans (congrArg some (by kernel_rfl))
 f283:=Tryz.func202.trans (congrArg some (by kernel_rfl))
 f284:=Tryz.func203.trans (congrArg some (by kernel_rfl))
 f285:=Tryz.func204.trans (congrArg some (by kernel_rfl))
 f286:=Tryz.func205.trans (congrArg some (by kernel_rfl))
 f317:=Tryz.func237.trans (congrArg some (by kernel_rfl))
 f318:=Tryz.func238.trans (congrArg some (by kernel_rfl))
 f319:=Tryz.func239.trans (congrArg some (by kernel_rfl))
 f320:=Tryz.func240.trans (congrArg some (by kernel_rfl))
 f337:=Tryz.func261.trans (congrArg some (by kernel_rfl))
 f338:=Tryz.func262.trans (congrArg some (by kernel_rfl))
 t0:=Tryz.underlying0
 a0:=Tryz.isAgg0
 z0:=Tryz.sizeOf0
 v0:=Tryz.zeroValue0
 t2:=Tryz.underlying2
 a2:=Tryz.isAgg2
 z2:=Tryz.sizeOf2
 v2:=Tryz.zeroValue2
 t3:=Tryz.underlying3
 a3:=Tryz.isAgg3
 z3:=Tryz.sizeOf3
 v3:=Tryz.zeroValue3
 t4:=Tryz.underlying4
 a4:=Tryz.isAgg4
 z4:=Tryz.sizeOf4
 v4:=Tryz.zeroValue4
 t5:=Tryz.underlying5
 a5:=Tryz.isAgg5
 z5:=Tryz.sizeOf5
 v5:=Tryz.zeroValue5
 t9:=Tryz.underlying9
 a9:=Tryz.isAgg9
 z9:=Tryz.sizeOf9
 v9:=Tryz.zeroValue9
 t20:=Tryz.underlying20
 a20:=Tryz.isAgg20
 z20:=Tryz.sizeOf20
 v20:=Tryz.zeroValue20
 t37:=Tryz.underlying121
 a37:=Tryz.isAgg121
 z37:=Tryz.sizeOf121
 v37:=Tryz.zeroValue121
 t46:=Tryz.underlying165
 a46:=Tryz.isAgg165
 z46:=Tryz.sizeOf165
 v46:=Tryz.zeroValue165
 t51:=Tryz.underlying224
 a51:=Tryz.isAgg224
 z51:=Tryz.sizeOf224
 v51:=Tryz.zeroValue224
 t53:=Tryz.underlying191
 a53:=Tryz.isAgg191
 z53:=Tryz.sizeOf191
 v53:=Tryz.zeroValue191
 t171:=Tryz.underlying199
 a171:=Tryz.isAgg199
 z171:=Tryz.sizeOf199
 v171:=Tryz.zeroValue199
 t173:=Tryz.underlying202
 a173:=Tryz.isAgg202
 z173:=Tryz.sizeOf202
 v173:=Tryz.zeroValue202
 t212:=Tryz.underlying229
 a212:=Tryz.isAgg229
 z212:=Tryz.sizeOf229
 v212:=Tryz.zeroValue229
 t213:=Tryz.underlying230
 a213:=Tryz.isAgg230
 z213:=Tryz.sizeOf230
 t232:=Tryz.underlying259
 a232:=Tryz.isAgg259
 z232:=Tryz.sizeOf259
 v232:=Tryz.zeroValue259
 t233:=Tryz.underlying260
 a233:=Tryz.isAgg260
 z233:=Tryz.sizeOf260
 v233:=Tryz.zeroValue260
 g17:=by kernel_rfl
 g18:=by kernel_rfl
 g19:=by kernel_rfl
 i0:=by kernel_rfl
 i2:=by kernel_rfl
 i3:=by kernel_rfl
 i4:=by kernel_rfl
 i5:=by kernel_rfl
 i9:=by kernel_rfl
 i20:=by kernel_rfl
 i37:=by kernel_rfl
 i46:=by kernel_rfl
 i51:=by kernel_rfl
 i53:=by kernel_rfl
 i171:=by kernel_rfl
 i173:=by kernel_rfl
 i212:=by kernel_rfl
 i232:=by kernel_rfl
 i233:=by kernel_rfl
 m17:=by kernel_rfl
 m18:=by kernel_rfl
 m19:=by kernel_rfl }
open Go.RowKit Go.Sort Go.Lib in
theorem Tryz.strconv_Itoa (n:Int) (h0:-9223372036854775808<=n) (h1:n<=9223372036854775807) (w:World) (htab:Lib.TabIs Tryz.prog w "internal/strconv.uint64pow10" .u64 Lib.pow10Tab) :
  Calls Tryz.prog 91 #[.int .i64 n] w fun e w'=>e=.returned (.string ⟨(Lib.itoa n).toArray⟩)/\∃ k os,w'=grow (w.drewN k) os:=Any.strconv_Itoa J3s n h0 h1 w htab
def Tryz_laysC245_renX:Go.Shelf.Ren:=⟨fun | 245=>219 | 279=>248 | 280=>249 | 281=>250 | 282=>251 | 316=>268 | 171=>91 | 205=>269 | 243=>141 | 246=>177 | 283=>202 | 284=>203 | 285=>204 | 286=>205 | 129=>231 | 317=>237 | 318=>238 | 319=>239 | 320=>240 | 337=>261 | 338=>262 | n=>n,fun | 9=>9 | 3=>3 | 75=>187 | 167=>236 | 4=>4 | 168=>239 | 210=>255 | 37=>121 | 0=>0 | 127=>231 | 145=>264 | 143=>262 | 2=>2 | 171=>199 | 53=>191 | 5=>5 | 173=>202 | 212=>229 | 51=>224 | 20=>20 | 213=>230 | 46=>165 | 232=>259 | 233=>260 | 80=>207 | n=>n,fun | 15=>4 | 16=>5 | 17=>2 | 18=>6 | 19=>7 | n=>n⟩
theorem J2n:Go.Proofs.LaysC.n245 Tryz.prog Tryz_laysC245_renX:={
 mixed:=by kernel_rfl
 f129:=Tryz.func231.trans (congrArg some (by kernel_rfl))
 f171:=Tryz.func91.trans (congrArg some (by kernel_rfl))
 f205:=Tryz.func269.trans (congrArg some (by kernel_rfl))
 f243:=Tryz.func141.trans (congrArg some (by kernel_rfl))
 f245:=Tryz.func219.trans (congrArg some (by kernel_rfl))
 f246:=Tryz.func177.trans (congrArg some (by kernel_rfl))
 f279:=Tryz.func248.trans (congrArg some (by kernel_rfl))
 f280:=Tryz.func249.trans (congrArg some (by kernel_rfl))
 f281:=Tryz.func250.trans (congrArg some (by kernel_rfl))
 f282:=Tryz.func251.trans (congrArg some (by kernel_rfl))
 f283:=Tryz.func202.trans (congrArg some (by kernel_rfl))
 f284:=Tryz.func203.trans (congrArg some (by kernel_rfl))
 f285:=Tryz.func204.trans (congrArg some (by kernel_rfl))
 f286:=Tryz.func205.trans (congrArg some (by kernel_rfl))
 f316:=Tryz.func268.trans (congrArg some (by kernel_rfl))
 f317:=Tryz.func237.trans (congrArg some (by kernel_rfl))
 f318:=Tryz.func238.trans (congrArg some (by kernel_rfl))
 f319:=Tryz.func239.trans (congrArg some (by kernel_rfl))
 f320:=Tryz.func240.trans (congrArg some (by kernel_rfl))
 f337:=Tryz.func261.trans (congrArg some (by kernel_rfl))
 f338:=Tryz.func262.trans (congrArg some (by kernel_rfl))
 t0:=Tryz.underlying0
 a0:=Tryz.isAgg0
 z0:=Tryz.sizeOf0
 v0:=Tryz.zeroValue0
 t2:=Tryz.underlying2
 a2:=Tryz.isAgg2
 z2:=Tryz.sizeOf2
 v2:=Tryz.zeroValue2
 t3:=Tryz.underlying3
 a3:=Tryz.isAgg3
 z3:=Tryz.sizeOf3
 v3:=Tryz.zeroValue3
 t4:=Tryz.underlying4
 a4:=Tryz.isAgg4
 z4:=Tryz.sizeOf4
 v4:=Tryz.zeroValue4
 t5:=Tryz.underlying5
 a5:=Tryz.isAgg5
 z5:=Tryz.sizeOf5
 v5:=Tryz.zeroValue5
 t9:=Tryz.underlying9
 a9:=Tryz.isAgg9
 z9:=Tryz.sizeOf9
 v9:=Tryz.zeroValue9
 t20:=Tryz.underlying20
 a20:=Tryz.isAgg20
 z20:=Tryz.sizeOf20
 v20:=Tryz.zeroValue20
 t37:=Tryz.underlying121
 a37:=Tryz.isAgg121
 z37:=Tryz.sizeOf121
 v37:=Tryz.zeroValue121
 t46:=Tryz.underlying165
 a46:=Tryz.isAgg165
 z46:=Tryz.sizeOf165
 v46:=Tryz.zeroValue165
 t51:=Tryz.underlying224
 a51:=Tryz.isAgg224
 z51:=Tryz.sizeOf224
 v51:=Tryz.zeroValue224
 t53:=Tryz.underlying191
 a53:=Tryz.isAgg191
 z53:=Tryz.sizeOf191
 v53:=Tryz.zeroValue191
 t75:=Tryz.underlying187
 a75:=Tryz.isAgg187
 z75:=Tryz.sizeOf187
 v75:=Tryz.zeroValue187
 t127:=Tryz.underlying231
 a127:=Tryz.isAgg231
 z127:=Tryz.sizeOf231
 v127:=Tryz.zeroValue231
 t143:=Tryz.underlying262
 a143:=Tryz.isAgg262
 z143:=Tryz.sizeOf262
 v143:=Tryz.zeroValue262
 t145:=Tryz.underlying264
 a145:=Tryz.isAgg264
 z145:=Tryz.sizeOf264
 v145:=Tryz.zeroValue264
 t167:=Tryz.underlying236
 a167:=Tryz.isAgg236
 z167:=Tryz.sizeOf236
 v167:=Tryz.zeroValue236
 t168:=Tryz.underlying239
 a168:=Tryz.isAgg239
 z168:=Tryz.sizeOf239
 v168:=Tryz.zeroValue239
 t171:=Tryz.underlying199
 a171:=Tryz.isAgg199
 z171:=Tryz.sizeOf199
 v171:=Tryz.zeroValue199
 t173:=Tryz.underlying202
 a173:=Tryz.isAgg202
 z173:=Tryz.sizeOf202
 v173:=Tryz.zeroValue202
 t210:=Tryz.underlying255
 a210:=Tryz.isAgg255
 z210:=Tryz.sizeOf255
 v210:=Tryz.zeroValue255
 t212:=Tryz.underlying229
 a212:=Tryz.isAgg229
 z212:=Tryz.sizeOf229
 v212:=Tryz.zeroValue229
 t213:=Tryz.underlying230
 a213:=Tryz.isAgg230
 z213:=Tryz.sizeOf230
 t232:=Tryz.underlying259
 a232:=Tryz.isAgg259
 z232:=Tryz.sizeOf259
 v232:=Tryz.zeroValue259
 t233:=Tryz.underlying260
 a233:=Tryz.isAgg260
 z233:=Tryz.sizeOf260
 v233:=Tryz.zeroValue260
 g15:=by kernel_rfl
 g16:=by kernel_rfl
 g17:=by kernel_rfl
 g18:=by kernel_rfl
 g19:=by kernel_rfl
 t80:=Tryz.underlying207
 a80:=Tryz.isAgg207
 z80:=Tryz.sizeOf207
 v80:=Tryz.zeroValue207
 i0:=by kernel_rfl
 i2:=by kernel_rfl
 i3:=by kernel_rfl
 i4:=by kernel_rfl
 i5:=by kernel_rfl
 i9:=by kernel_rfl
 i20:=by kernel_rfl
 i37:=by kernel_rfl
 i46:=by kernel_rfl
 i51:=by kernel_rfl
 i53:=by kernel_rfl
 i75:=by kernel_rfl
 i80:=by kernel_rfl
 i127:=by kernel_rfl
 i143:=by kernel_rfl
 i145:=by kernel_rfl
 i167:=by kernel_rfl
 i168:=by kernel_rfl
 i171:=by kernel_rfl
 i173:=by kernel_rfl
 i210:=by kernel_rfl
 i212:=by kernel_rfl
 i232:=by kernel_rfl
 i233:=by kernel_rfl
 m15:=by kernel_rfl
 m16:=by kernel_rfl
 m17:=by kernel_rfl
 m18:=by kernel_rfl
 m19:=by kernel_rfl
 c0:=by kernel_rfl
 c2:=by kernel_rfl
 c3:=by kernel_rfl
 c4:=by kernel_rfl
 c5:=by kernel_rfl
 c9:=by kernel_rfl
 c20:=by kernel_rfl
 c37:=by kernel_rfl
 c46:=by kernel_rfl
 c51:=by kernel_rfl
 c53:=by kernel_rfl
 c75:=by kernel_rfl
 c80:=by kernel_rfl
 c127:=by kernel_rfl
 c143:=by kernel_rfl
 c145:=by kernel_rfl
 c167:=by kernel_rfl
 c168:=by kernel_rfl
 c171:=by kernel_rfl
 c173:=by kernel_rfl
 c210:=by kernel_rfl
 c212:=by kernel_rfl
 c213:=by kernel_rfl
 c232:=by kernel_rfl
 c233:=by kernel_rfl }
open Go.RowKit in
theorem Tryz.strconv_toError_syntax (fn s:ByteArray) (base bits:Int) (ev:Value) (w:World) (hlim:s.size<=281474976710656) (hv:w.cell? ⟨4,0,none⟩=some ev) (hev:ev=.nilIface\/∃ te pe,ev=.iface te pe) :
  Calls Tryz.prog 219 #[.string fn,.string s,.int .i64 base,.int .i64 bits,.iface 236 (.int .i64 2)] w fun e w'=>∃ N,e=.returned (.iface 239 (.pointer (some ⟨N,0,none⟩)))/\w.heap.size<=N/\w'.heap[N]? = some (.cells #[.string fn,.string s,ev] 255 (0,0))/\Below w.heap.size w w':=Any.strconv_toError_syntax J2n fn s base bits ev w hlim hv hev
open Go.RowKit in
def Tryz_laysC172_renX:Go.Shelf.Ren:=⟨fun | 172=>191 | 244=>218 | 245=>219 | 247=>247 | 279=>248 | 280=>249 | 281=>250 | 282=>251 | 287=>267 | 316=>268 | 171=>91 | 205=>269 | 321=>273 | 322=>274 | 243=>141 | 246=>177 | 283=>202 | 284=>203 | 285=>204 | 286=>205 | 129=>231 | 317=>237 | 318=>238 | 319=>239 | 320=>240 | 337=>261 | 338=>262 | n=>n,fun | 9=>9 | 3=>3 | 75=>187 | 76=>188 | 4=>4 | 5=>5 | 167=>236 | 37=>121 | 0=>0 | 85=>237 | 2=>2 | 168=>239 | 53=>191 | 175=>250 | 46=>165 | 210=>255 | 127=>231 | 145=>264 | 143=>262 | 21=>21 | 171=>199 | 173=>202 | 212=>229 | 51=>224 | 20=>20 | 213=>230 | 232=>259 | 233=>260 | 80=>207 | n=>n,fun | 15=>4 | 16=>5 | 17=>2 | 18=>6 | 19=>7 | n=>n⟩
theorem Juq:Go.Proofs.LaysC.n172 Tryz.prog Tryz_laysC172_renX:={
 mixed:=by kernel_rfl
 f129:=Tryz.func231.trans (congrArg some (by kernel_rfl))
 f171:=Tryz.func91.trans (congrArg some (by kernel_rfl))
 f172:=Tryz.func191.trans (congrArg some (by kernel_rfl))
 f205:=Tryz.func269.trans (congrArg some (by kernel_rfl))
 f243:=Tryz.func141.trans (congrArg some (by kernel_rfl))
 f244:=Tryz.func218.trans (congrArg some (by kernel_rfl))
 f245:=Tryz.func219.trans (congrArg some (by kernel_rfl))
 f246:=Tryz.func177.trans (congrArg some (by kernel_rfl))
 f247:=Tryz.func247.trans (congrArg some (by kernel_rfl))
 f279:=Tryz.func248.trans (congrArg some (by kernel_rfl))
 f280:=Tryz.func249.trans (congrArg some (by kernel_rfl))
 f281:=Tryz.func250.trans (congrArg some (by kernel_rfl))
 f282:=Tryz.func251.trans (congrArg some (by kernel_rfl))
 f283:=Tryz.func202.trans (congrArg some (by kernel_rfl))
 f284:=Tryz.func203.trans (congrArg some (by kernel_rfl))
 f285:=Tryz.func204.trans (congrArg some (by kernel_rfl))
 f286:=Tryz.func205.trans (congrArg some (by kernel_rfl))
 f287:=Tryz.func267.trans (congrArg some (by kernel_rfl))
 f316:=Tryz.func268.trans (congrArg some (by kernel_rfl))
 f317:=Tryz.func237.trans (congrArg some (by kernel_rfl))
 f318:=Tryz.func238.trans (congrArg some (by kernel_rfl))
 f319:=Tryz.func239.trans (congrArg some (by kernel_rfl))
 f320:=Tryz.func240.trans (congrArg some (by kernel_rfl))
 f321:=Tryz.func273.trans (congrArg some (by kernel_rfl))
 f322:=Tryz.func274.trans (congrArg some (by kernel_rfl))
 f337:=Tryz.func261.trans (congrArg some (by kernel_rfl))
 f338:=Tryz.func262.trans (congrArg some (by kernel_rfl))
 t0:=Tryz.underlying0
 a0:=Tryz.isAgg0
 z0:=Tryz.sizeOf0
 v0:=Tryz.zeroValue0
 t2:=Tryz.underlying2
 a2:=Tryz.isAgg2
 z2:=Tryz.sizeOf2
 v2:=Tryz.zeroValue2
 t3:=Tryz.underlying3
 a3:=Tryz.isAgg3
 z3:=Tryz.sizeOf3
 v3:=Tryz.zeroValue3
 t4:=Tryz.underlying4
 a4:=Tryz.isAgg4
 z4:=Tryz.sizeOf4
 v4:=Tryz.zeroValue4
 t5:=Tryz.underlying5
 a5:=Tryz.isAgg5
 z5:=Tryz.sizeOf5
 v5:=Tryz.zeroValue5
 t9:=Tryz.underlying9
 a9:=Tryz.isAgg9
 z9:=Tryz.sizeOf9
 v9:=Tryz.zeroValue9
 t20:=Tryz.underlying20
 a20:=Tryz.isAgg20
 z20:=Tryz.sizeOf20
 v20:=Tryz.zeroValue20
 t21:=Tryz.underlying21
 a21:=Tryz.isAgg21
 z21:=Tryz.sizeOf21
 v21:=Tryz.zeroValue21
 t37:=Tryz.underlying121
 a37:=Tryz.isAgg121
 z37:=Tryz.sizeOf121
 v37:=Tryz.zeroValue121
 t46:=Tryz.underlying165
 a46:=Tryz.isAgg165
 z46:=Tryz.sizeOf165
 v46:=Tryz.zeroValue165
 t51:=Tryz.underlying224
 a51:=Tryz.isAgg224
 z51:=Tryz.sizeOf224
 v51:=Tryz.zeroValue224
 t53:=Tryz.underlying191
 a53:=Tryz.isAgg191
 z53:=Tryz.sizeOf191
 v53:=Tryz.zeroValue191
 t75:=Tryz.underlying187
 a75:=Tryz.isAgg187
 z75:=Tryz.sizeOf187
 v75:=Tryz.zeroValue187
 t76:=Tryz.underlying188
 a76:=Tryz.isAgg188
 z76:=Tryz.sizeOf188
 v76:=Tryz.zeroValue188
 t85:=Tryz.underlying237
 a85:=Tryz.isAgg237
 z85:=Tryz.sizeOf237
 v85:=Tryz.zeroValue237
 t127:=Tryz.underlying231
 a127:=Tryz.isAgg231
 z127:=Tryz.sizeOf231
 v127:=Tryz.zeroValue231
 t143:=Tryz.underlying262
 a143:=Tryz.isAgg262
 z143:=Tryz.sizeOf262
 v143:=Tryz.zeroValue262
 t145:=Tryz.underlying264
 a145:=Tryz.isAgg264
 z145:=Tryz.sizeOf264
 v145:=Tryz.zeroValue264
 t167:=Tryz.underlying236
 a167:=Tryz.isAgg236
 z167:=Tryz.sizeOf236
 v167:=Tryz.zeroValue236
 t168:=Tryz.underlying239
 a168:=Tryz.isAgg239
 z168:=Tryz.sizeOf239
 v168:=Tryz.zeroValue239
 t171:=Tryz.underlying199
 a171:=Tryz.isAgg199
 z171:=Tryz.sizeOf199
 v171:=Tryz.zeroValue199
 t173:=Tryz.underlying202
 a173:=Tryz.isAgg202
 z173:=Tryz.sizeOf202
 v173:=Tryz.zeroValue202
 t175:=Tryz.underlying250
 a175:=Tryz.isAgg250
 z175:=Tryz.sizeOf250
 v175:=Tryz.zeroValue250
 t210:=Tryz.underlying255
 a210:=Tryz.isAgg255
 z210:=Tryz.sizeOf255
 v210:=Tryz.zeroValue255
 t212:=Tryz.underlying229
 a212:=Tryz.isAgg229
 z212:=Tryz.sizeOf229
 v212:=Tryz.zeroValue229
 t213:=Tryz.underlying230
 a213:=Tryz.isAgg230
 z213:=Tryz.sizeOf230
 t232:=Tryz.underlying259
 a232:=Tryz.isAgg259
 z232:=Tryz.sizeOf259
 v232:=Tryz.zeroValue259
 t233:=Tryz.underlying260
 a233:=Tryz.isAgg260
 z233:=Tryz.sizeOf260
 v233:=Tryz.zeroValue260
 g15:=by kernel_rfl
 g16:=by kernel_rfl
 g17:=by kernel_rfl
 g18:=by kernel_rfl
 g19:=by kernel_rfl
 t80:=Tryz.underlying207
 a80:=Tryz.isAgg207
 z80:=Tryz.sizeOf207
 v80:=Tryz.zeroValue207
 i0:=by kernel_rfl
 i2:=by kernel_rfl
 i3:=by kernel_rfl
 i4:=by kernel_rfl
 i5:=by kernel_rfl
 i9:=by kernel_rfl
 i20:=by kernel_rfl
 i21:=by kernel_rfl
 i37:=by kernel_rfl
 i46:=by kernel_rfl
 i51:=by kernel_rfl
 i53:=by kernel_rfl
 i75:=by kernel_rfl
 i76:=by kernel_rfl
 i80:=by kernel_rfl
 i85:=by kernel_rfl
 i127:=by kernel_rfl
 i143:=by kernel_rfl
 i145:=by kernel_rfl
 i167:=by kernel_rfl
 i168:=by kernel_rfl
 i171:=by kernel_rfl
 i173:=by kernel_rfl
 i175:=by kernel_rfl
 i210:=by kernel_rfl
 i212:=by kernel_rfl
 i232:=by kernel_rfl
 i233:=by kernel_rfl
 m15:=by kernel_rfl
 m16:=by kernel_rfl
 m17:=by kernel_rfl
 m18:=by kernel_rfl
 m19:=by kernel_rfl
 c0:=by kernel_rfl
 c2:=by kernel_rfl
 c3:=by kernel_rfl
 c4:=by kernel_rfl
 c5:=by kernel_rfl
 c9:=by kernel_rfl
 c20:=by kernel_rfl
 c21:=by kernel_rfl
 c37:=by kernel_rfl
 c46:=by kernel_rfl
 c51:=by kernel_rfl
 c53:=by kernel_rfl
 c75:=by kernel_rfl
 c76:=by kernel_rfl
 c80:=by kernel_rfl
 c85:=by kernel_rfl
 c127:=by kernel_rfl
 c143:=by kernel_rfl
 c145:=by kernel_rfl
 c167:=by kernel_rfl
 c168:=by kernel_rfl
 c171:=by kernel_rfl
 c173:=by kernel_rfl
 c175:=by kernel_rfl
 c210:=by kernel_rfl
 c212:=by kernel_rfl
 c213:=by kernel_rfl
 c232:=by kernel_rfl
 c233:=by kernel_rfl }
open Go.RowKit in
theorem Tryz.strconv_Atoi_ok (s:ByteArray) (hmax:s.size<=9223372036854775806) (v:Int) (h:Lib.atoiAll s.data.toList=.ok v) (w:World) :
  Calls Tryz.prog 191 #[.string s] w fun e w'=>e=.returned (.tuple #[.int .i64 v,.nilIface])/\(w'=w\/∃ t,w'=Lib.bytesWorld w 5 t):=Any.strconv_Atoi_ok Juq s hmax v h w
open Go.RowKit in
open Go.RowKit in
theorem Tryz.strconv_Atoi_range (s:ByteArray) (hlim:s.size<=281474976710656) (h:Lib.atoiAll s.data.toList=.range) (ev:Value) (w:World) (hv:w.cell? ⟨5,0,none⟩=some ev) (hev:ev=.nilIface\/∃ te pe,ev=.iface te pe) :
  Calls Tryz.prog 191 #[.string s] w fun e w'=>∃ N,e=.returned (.tuple #[.int .i64 (Lib.atoiSat s.data.toList),.iface 239 (.pointer (some ⟨N,0,none⟩))])/\w.heap.size<=N/\w'.heap[N]? = some (.cells #[.string ⟨#[65,116,111,105]⟩,.string s,ev] 255 (0,0))/\Below w.heap.size w w':=Any.strconv_Atoi_range Juq s hlim h ev w hv hev
def Tryz_lays197_renX:Go.Shelf.Ren:=⟨fun | 197=>199 | 260=>234 | n=>n,fun | 9=>9 | 21=>21 | 3=>3 | 4=>4 | 5=>5 | 105=>196 | 119=>161 | 0=>0 | 46=>165 | 139=>164 | 138=>163 | n=>n,fun | 3=>0 | 4=>1 | n=>n⟩
theorem J4b:Go.Proofs.Lays.n197 Tryz.prog Tryz_lays197_renX:={
 mixed:=by kernel_rfl
 f197:=Tryz.func199.trans (congrArg some (by kernel_rfl))
 f260:=Tryz.func234.trans (congrArg some (by kernel_rfl))
 t0:=Tryz.underlying0
 a0:=Tryz.isAgg0
 z0:=Tryz.sizeOf0
 v0:=Tryz.zeroValue0
 t3:=Tryz.underlying3
 a3:=Tryz.isAgg3
 z3:=Tryz.sizeOf3
 v3:=Tryz.zeroValue3
 t4:=Tryz.underlying4
 a4:=Tryz.isAgg4
 z4:=Tryz.sizeOf4
 v4:=Tryz.zeroValue4
 t5:=Tryz.underlying5
 a5:=Tryz.isAgg5
 z5:=Tryz.sizeOf5
 v5:=Tryz.zeroValue5
 t9:=Tryz.underlying9
 a9:=Tryz.isAgg9
 z9:=Tryz.sizeOf9
 v9:=Tryz.zeroValue9
 t21:=Tryz.underlying21
 a21:=Tryz.isAgg21
 z21:=Tryz.sizeOf21
 v21:=Tryz.zeroValue21
 t46:=Tryz.underlying165
 a46:=Tryz.isAgg165
 z46:=Tryz.sizeOf165
 v46:=Tryz.zeroValue165
 t105:=Tryz.underlying196
 a105:=Tryz.isAgg196
 z105:=Tryz.sizeOf196
 v105:=Tryz.zeroValue196
 t119:=Tryz.underlying161
 a119:=Tryz.isAgg161
 z119:=Tryz.sizeOf161
 t138:=Tryz.underlying163
 a138:=Tryz.isAgg163
 z138:=Tryz.sizeOf163
 v138:=Tryz.zeroValue163
 t139:=Tryz.underlying164
 a139:=Tryz.isAgg164
 z139:=Tryz.sizeOf164
 v139:=Tryz.zeroValue164
 g3:=by kernel_rfl
 g4:=by kernel_rfl }
open Go.RowKit Go.Lib in
theorem Tryz.utf8_DecodeRuneInString (s:ByteArray) (w:World) (hT:Lib.Utf8Tabs 0 1 w) :
  Calls Tryz.prog 199 #[.string s] w fun e w'=>e=.returned (.tuple #[.int .i32 (Lib.decodeGo s).1,.int .i64 (Lib.decodeGo s).2])/\Below w.heap.size w w':=Any.utf8_DecodeRuneInString J4b s w hT
def Tryz_lays7_27_renX:Go.Shelf.Ren:=⟨fun | 27=>240 | 28=>261 | 29=>262 | n=>n,fun | 25=>165 | 3=>3 | 27=>224 | 22=>191 | 4=>4 | 53=>259 | 0=>0 | 5=>5 | 54=>260 | n=>n,fun | 0=>6 | 1=>7 | n=>n⟩
theorem J2g:Go.Proofs.Lays7.n27 Tryz.prog Tryz_lays7_27_renX:={
 mixed:=by kernel_rfl
 f27:=Tryz.func240.trans (congrArg some (by kernel_rfl))
 f28:=Tryz.func261.trans (congrArg some (by kernel_rfl))
 f29:=Tryz.func262.trans (congrArg some (by kernel_rfl))
 t0:=Tryz.underlying0
 a0:=Tryz.isAgg0
 z0:=Tryz.sizeOf0
 v0:=Tryz.zeroValue0
 i0:=by kernel_rfl
 t3:=Tryz.underlying3
 a3:=Tryz.isAgg3
 z3:=Tryz.sizeOf3
 v3:=Tryz.zeroValue3
 i3:=by kernel_rfl
 t4:=Tryz.underlying4
 a4:=Tryz.isAgg4
 z4:=Tryz.sizeOf4
 v4:=Tryz.zeroValue4
 i4:=by kernel_rfl
 t5:=Tryz.underlying5
 a5:=Tryz.isAgg5
 z5:=Tryz.sizeOf5
 v5:=Tryz.zeroValue5
 i5:=by kernel_rfl
 t22:=Tryz.underlying191
 a22:=Tryz.isAgg191
 z22:=Tryz.sizeOf191
 v22:=Tryz.zeroValue191
 i22:=by kernel_rfl
 t25:=Tryz.underlying165
 a25:=Tryz.isAgg165
 z25:=Tryz.sizeOf165
 v25:=Tryz.zeroValue165
 i25:=by kernel_rfl
 t27:=Tryz.underlying224
 a27:=Tryz.isAgg224
 z27:=Tryz.sizeOf224
 v27:=Tryz.zeroValue224
 i27:=by kernel_rfl
 t53:=Tryz.underlying259
 a53:=Tryz.isAgg259
 z53:=Tryz.sizeOf259
 v53:=Tryz.zeroValue259
 i53:=by kernel_rfl
 t54:=Tryz.underlying260
 a54:=Tryz.isAgg260
 z54:=Tryz.sizeOf260
 g0:=by kernel_rfl
 g1:=by kernel_rfl }
end Go.Proofs
set_option maxRecDepth 100000
namespace Go.LX
open Go Go.RowKit Go.Proofs
def Jk8 (g:Nat) (w:World):Prop:=∃ te pe,w.cell? ⟨g,0,none⟩=some (.iface te pe)
theorem gPow:Tryz.prog.globalNamed "internal/strconv.uint64pow10" = some 2:=kr
structure QuoteG (w:World) (Im:Nat->Prop):Prop where
 tabs:Lib.Utf8Tabs 0 1 w
 syn:Jk8 4 w
 rng:Jk8 5 w
 tz:TabAt 7 Lib.deBruijn64tab w
 pow:Lib.TabIs Tryz.prog w "internal/strconv.uint64pow10" .u64 Lib.pow10Tab
 i1:Im 0
 i2:Im 1
 i3:Im 4
 i4:Im 5
 i5:Im 7
 i6:Im 2
theorem QuoteG.mono {w w':World} {Im Im':Nat->Prop} (hk:Keeps w Im w' Im') (h:QuoteG w Im):QuoteG w' Im' where
 tabs:=by
  refine ⟨fun c hc=>(hk.cell (a:=⟨_,c,none⟩) h.i1).trans (h.tabs.1 c hc),fun i hi=>⟨(hk.cell (a:=⟨_,_,none⟩) h.i2).trans (h.tabs.2 i hi).1,(hk.cell (a:=⟨_,_,none⟩) h.i2).trans (h.tabs.2 i hi).2⟩⟩
 syn:=by obtain ⟨te,pe,e⟩:=h.syn;exact ⟨te,pe,(hk.cell (a:=⟨_,0,none⟩) h.i3).trans e⟩
 rng:=by obtain ⟨te,pe,e⟩:=h.rng;exact ⟨te,pe,(hk.cell (a:=⟨_,0,none⟩) h.i4).trans e⟩
 tz:=fun j hj=>(hk.cell (a:=⟨_,j,none⟩) h.i5).trans (h.tz j hj)
 pow:=by
  have:=h.pow;unfold Lib.TabIs World.var? at this ⊢;rw [gPow] at this ⊢;simp only [Option.bind_some] at this ⊢;rw [hk.block _ h.i6];exact this
 i1:=hk.im _ h.i1
 i2:=hk.im _ h.i2
 i3:=hk.im _ h.i3
 i4:=hk.im _ h.i4
 i5:=hk.im _ h.i5
 i6:=hk.im _ h.i6
def Kfa (f:Nat):Nat:=if f=245 then 1 else if f=266 then 1 else if f=265 then 2 else if f=142 then 1 else if f=180 then 3 else if f=182 then 3 else if f=143 then 1 else if f=144 then 1 else if f=166 then 1 else if f=97 then 1 else if f=98 then 1 else if f=70 then 1 else 0
noncomputable def cx:Cx:=⟨Tryz.prog,QuoteG,QuoteG.mono,Kfa,fun _=>false⟩
@[go_sem] theorem cx_P:cx.P=Tryz.prog:=(rfl)
@[go_sem] theorem cx_kind {f:Nat}:cx.kind f=if f=245 then 1 else if f=266 then 1 else if f=265 then 2 else if f=142 then 1 else if f=180 then 3 else if f=182 then 3 else if f=143 then 1 else if f=144 then 1 else if f=166 then 1 else if f=97 then 1 else if f=98 then 1 else if f=70 then 1 else 0:=(rfl)
@[go_sem] theorem cx_keep {t:Nat}:cx.keep t=false:=(rfl)
theorem Jbj {w:World} {Im:Nat->Prop} (h:cx.G w Im):QuoteG w Im:=h
theorem bgoR {f:FuncId} {fn:Func} {c:Code} {args:List L} {rs:Regs} {Post:L->Regs->Prop} (own:Bool) (rn:List (Nat×Nat)) (hf:cx.P.funcs[f]? = some fn)
  (h:lwp cx none c (Jed cx.P own rn fn.results.toList (rs.map (·.1)) Post) ⟨Ba fn.ntmps (argW 0 args),rs⟩) (hrn:∀ x∈rn,x.2<1000\/500000<=x.2:=by simp) (hname:(fn.name == "runtime.NumGoroutine")=false:=by kernel_rfl) (hb:fn.body=some c:=by rfl)
  (hn:args.length<=fn.ntmps:=by exact Nat.le_of_ble_eq_true rfl) (h900:900 ∉ rs.map (·.1):=by simp):Al cx f args rs Post:=Jvz own rn hf (Ae hm c _ _ h) hrn hname hb hn h900
theorem bgo {f:FuncId} {fn:Func} {c:Code} {args:List L} {rs:Regs} {Post:L->Regs->Prop} (hf:cx.P.funcs[f]? = some fn)
  (h:lwp cx none c (Jed cx.P false [] fn.results.toList (rs.map (·.1)) Post) ⟨Ba fn.ntmps (argW 0 args),rs⟩) (hname:(fn.name == "runtime.NumGoroutine")=false:=by kernel_rfl) (hb:fn.body=some c:=by rfl)
  (hn:args.length<=fn.ntmps:=by exact Nat.le_of_ble_eq_true rfl) (h900:900 ∉ rs.map (·.1):=by simp):Al cx f args rs Post:=bgoR false [] hf h sm hname hb hn h900
theorem lws {ro:Option Nat} {c:Code} {Q:Ex->St->Prop} {s:St} (h:lwp cx ro c Q s):SWP cx ro c Q s:=Ae hm c Q s h
theorem Jqm {ro:Option Nat} {id:Nat} {ops:Array Oper} {Q:Ex->St->Prop} {s:St} (h:Jf cx (ops.toList.map (·.dst)) ops.toList (Q .normal) s) (h0:Jd9 ops.toList=true:=by rfl) (hB:Region.lexB .any ops=true:=by kernel_rfl):SWP cx ro (.region id ops true) Q s:=J51 hm h h0 hB
attribute [go_sem] Tryz.ntmps12 Tryz.results12 Tryz.ntmps13 Tryz.results13 Tryz.ntmps14 Tryz.results14 Tryz.ntmps16 Tryz.results16 Tryz.ntmps17 Tryz.results17 Tryz.ntmps18 Tryz.results18 Tryz.ntmps19 Tryz.results19 Tryz.ntmps20 Tryz.results20 Tryz.ntmps21 Tryz.results21 Tryz.ntmps22 Tryz.results22 Tryz.ntmps23 Tryz.results23 Tryz.ntmps24 Tryz.results24 Tryz.ntmps27 Tryz.results27 Tryz.ntmps28 Tryz.results28 Tryz.ntmps29 Tryz.results29 Tryz.ntmps30 Tryz.results30 Tryz.ntmps31 Tryz.results31 Tryz.ntmps32 Tryz.results32 Tryz.ntmps33 Tryz.results33 Tryz.ntmps34 Tryz.results34 Tryz.ntmps35 Tryz.results35 Tryz.ntmps36 Tryz.results36 Tryz.ntmps37 Tryz.results37 Tryz.ntmps39 Tryz.results39 Tryz.ntmps41 Tryz.results41 Tryz.ntmps42 Tryz.results42 Tryz.ntmps43 Tryz.results43 Tryz.ntmps44 Tryz.results44 Tryz.ntmps45 Tryz.results45 Tryz.ntmps46 Tryz.results46 Tryz.ntmps47 Tryz.results47 Tryz.ntmps48 Tryz.results48 Tryz.ntmps49 Tryz.results49 Tryz.ntmps50 Tryz.results50 Tryz.ntmps51 Tryz.results51 Tryz.ntmps52 Tryz.results52 Tryz.ntmps53 Tryz.results53 Tryz.ntmps54 Tryz.results54 Tryz.ntmps55 Tryz.results55 Tryz.ntmps56 Tryz.results56 Tryz.ntmps57 Tryz.results57 Tryz.ntmps58 Tryz.results58 Tryz.ntmps59 Tryz.results59 Tryz.ntmps60 Tryz.results60 Tryz.ntmps61 Tryz.results61 Tryz.ntmps62 Tryz.results62 Tryz.ntmps63 Tryz.results63 Tryz.ntmps64 Tryz.results64 Tryz.ntmps65 Tryz.results65 Tryz.ntmps66 Tryz.results66 Tryz.ntmps67 Tryz.results67 Tryz.ntmps68 Tryz.results68 Tryz.ntmps69 Tryz.results69 Tryz.ntmps71 Tryz.results71 Tryz.ntmps72 Tryz.results72 Tryz.ntmps73 Tryz.results73 Tryz.ntmps74 Tryz.results74 Tryz.ntmps75 Tryz.results75 Tryz.ntmps76 Tryz.results76 Tryz.ntmps77 Tryz.results77 Tryz.ntmps78 Tryz.results78 Tryz.ntmps79 Tryz.results79 Tryz.ntmps80 Tryz.results80 Tryz.ntmps81 Tryz.results81 Tryz.ntmps82 Tryz.results82 Tryz.ntmps83 Tryz.results83 Tryz.ntmps84 Tryz.results84 Tryz.ntmps85 Tryz.results85 Tryz.ntmps86 Tryz.results86 Tryz.ntmps89 Tryz.results89 Tryz.ntmps90 Tryz.results90 Tryz.ntmps92 Tryz.results92 Tryz.ntmps93 Tryz.results93 Tryz.ntmps94 Tryz.results94 Tryz.ntmps95 Tryz.results95 Tryz.ntmps99 Tryz.results99 Tryz.ntmps100 Tryz.results100 Tryz.ntmps101 Tryz.results101 Tryz.ntmps102 Tryz.results102 Tryz.ntmps103 Tryz.results103 Tryz.ntmps104 Tryz.results104 Tryz.ntmps105 Tryz.results105 Tryz.ntmps106 Tryz.results106 Tryz.ntmps107 Tryz.results107 Tryz.ntmps108 Tryz.results108 Tryz.ntmps109 Tryz.results109 Tryz.ntmps110 Tryz.results110 Tryz.ntmps111 Tryz.results111 Tryz.ntmps112 Tryz.results112 Tryz.ntmps113 Tryz.results113 Tryz.ntmps114 Tryz.results114 Tryz.ntmps115 Tryz.results115 Tryz.ntmps116 Tryz.results116 Tryz.ntmps117 Tryz.results117 Tryz.ntmps118 Tryz.results118 Tryz.ntmps119 Tryz.results119 Tryz.ntmps120 Tryz.results120 Tryz.ntmps121 Tryz.results121 Tryz.ntmps122 Tryz.results122 Tryz.ntmps123 Tryz.results123 Tryz.ntmps124 Tryz.results124 Tryz.ntmps125 Tryz.results125 Tryz.ntmps126 Tryz.results126 Tryz.ntmps127 Tryz.results127 Tryz.ntmps128 Tryz.results128 Tryz.ntmps129 Tryz.results129 Tryz.ntmps130 Tryz.results130 Tryz.ntmps131 Tryz.results131 Tryz.ntmps132 Tryz.ntmps133 Tryz.results133 Tryz.ntmps135 Tryz.results135 Tryz.ntmps136 Tryz.results136 Tryz.ntmps137 Tryz.results137 Tryz.ntmps140 Tryz.results140 Tryz.ntmps142 Tryz.results142 Tryz.ntmps143 Tryz.results143 Tryz.ntmps144 Tryz.results144 Tryz.ntmps145 Tryz.results145 Tryz.ntmps146 Tryz.results146 Tryz.ntmps147 Tryz.results147 Tryz.ntmps148 Tryz.results148 Tryz.ntmps149 Tryz.results149 Tryz.ntmps150 Tryz.results150 Tryz.ntmps151 Tryz.results151 Tryz.ntmps152 Tryz.results152 Tryz.ntmps153 Tryz.results153 Tryz.ntmps154 Tryz.results154 Tryz.ntmps155 Tryz.results155 Tryz.ntmps156 Tryz.results156 Tryz.ntmps157 Tryz.ntmps158 Tryz.results158 Tryz.ntmps159 Tryz.results159 Tryz.ntmps160 Tryz.results160 Tryz.ntmps161 Tryz.results161 Tryz.ntmps162 Tryz.results162 Tryz.ntmps163 Tryz.results163 Tryz.ntmps165 Tryz.results165 Tryz.ntmps167 Tryz.ntmps169 Tryz.results169 Tryz.ntmps177 Tryz.results177 Tryz.ntmps178 Tryz.results178 Tryz.ntmps179 Tryz.results179 Tryz.ntmps184 Tryz.results184 Tryz.ntmps185 Tryz.results185 Tryz.ntmps186 Tryz.results186 Tryz.ntmps187 Tryz.results187 Tryz.ntmps188 Tryz.results188 Tryz.ntmps189 Tryz.results189 Tryz.ntmps192 Tryz.results192 Tryz.ntmps193 Tryz.results193 Tryz.ntmps205 Tryz.results205 Tryz.ntmps208 Tryz.results208 Tryz.ntmps209 Tryz.results209 Tryz.ntmps210 Tryz.results210 Tryz.ntmps211 Tryz.results211 Tryz.ntmps212 Tryz.results212 Tryz.ntmps213 Tryz.results213 Tryz.ntmps214 Tryz.results214 Tryz.ntmps215 Tryz.results215 Tryz.ntmps216 Tryz.results216 Tryz.ntmps220 Tryz.results220 Tryz.ntmps221 Tryz.results221 Tryz.ntmps235 Tryz.results235 Tryz.ntmps239 Tryz.results239 Tryz.ntmps242 Tryz.results242 Tryz.ntmps243 Tryz.results243 Tryz.ntmps244 Tryz.results244 Tryz.ntmps245 Tryz.results245 Tryz.ntmps252 Tryz.results252 Tryz.ntmps258 Tryz.results258 Tryz.ntmps263 Tryz.results263 Tryz.ntmps264 Tryz.results264 Tryz.ntmps266 Tryz.results266 Tryz.ntmps267 Tryz.results267 Tryz.ntmps270 Tryz.results270 Tryz.ntmps272 Tryz.results272 Tryz.ntmps273 Tryz.results273 Tryz.ntmps275 Tryz.results275 Tryz.ntmps276 Tryz.results276 Tryz.ntmps277 Tryz.results277
end Go.LX
namespace Go.LX
open Go
structure Node where
 kind:Int
 many:Int
 name:List UInt8
 s:List UInt8
 neg:Bool
 e:Int
def Node.cells (n:Node):List PV:=[.int .i64 n.kind,.int .i64 n.many,.str n.name,.str n.s,.bool n.neg,.int .i64 n.e]
def valL (v:List Node):List (List PV):=v.map Node.cells
mutual
inductive Tree where
 | mk (kind:Int) (s:List UInt8) (neg:Bool) (e:Int) (kids:Forest)
inductive Forest where
 | nil
 | cons (name:List UInt8) (t:Tree) (rest:Forest)
end
def Forest.len:Forest->Nat
 | .nil=>0
 | .cons _ _ r=>r.len+1
mutual
def Tree.enc (name:List UInt8):Tree->List Node
 | .mk k s g e kids=>⟨k,kids.len,name,s,g,e⟩ :: kids.enc
def Forest.enc:Forest->List Node
 | .nil=>[]
 | .cons nm t r=>t.enc nm ++ r.enc
end
def Forest.app:Forest->Forest->Forest
 | .nil,g=>g
 | .cons nm t r,g=>.cons nm t (r.app g)
theorem Jrz:∀ f g:Forest,(f.app g).len=f.len+g.len
 | .nil,g=>by simp [Forest.app,Forest.len]
 | .cons nm t r,g=>by simp only [Forest.app,Forest.len,Jrz r g];omega
theorem Jqk:∀ f g:Forest,(f.app g).enc=f.enc ++ g.enc
 | .nil,g=>by simp [Forest.app,Forest.enc]
 | .cons nm t r,g=>by simp only [Forest.app,Forest.enc,Jqk r g,Ea2]
theorem A6 {name:List UInt8} {k:Int} {s:List UInt8} {g:Bool} {e:Int} {kids:Forest}:(Tree.mk k s g e kids).enc name=⟨k,kids.len,name,s,g,e⟩ :: kids.enc:=by rw [Tree.enc]
theorem A0 {nm:List UInt8} {t:Tree} {r:Forest}:(Forest.cons nm t r).enc=t.enc nm ++ r.enc:=by rw [Forest.enc]
theorem Bl:Forest.nil.enc=[]:=by rw [Forest.enc]
theorem Et (t:Tree) (nm:List UInt8):1<=(t.enc nm).length:=by
 cases t;rw [A6];simp
theorem Jqi:∀ f:Forest,f.len<=f.enc.length
 | .nil=>by simp [Forest.len]
 | .cons nm t r=>by
  have:=Et t nm;have:=Jqi r;rw [A0,Eac,Forest.len];omega
@[simp] theorem A7 (v:List Node):(valL v).length=v.length:=by simp [valL]
theorem Nh (n:Node) (v:List Node):valL (n :: v)=n.cells :: valL v:=rfl
theorem Jjy:valL []=[]:=rfl
theorem Ji (a b:List Node):valL (a ++ b)=valL a ++ valL b:=by simp [valL]
theorem C9 {k m:Int} {nm s:List UInt8} {g:Bool} {e:Int}:Node.cells ⟨k,m,nm,s,g,e⟩=[.int .i64 k,.int .i64 m,.str nm,.str s,.bool g,.int .i64 e]:=rfl
theorem E7 (v:List Node):∀ q∈valL v,q.length=6:=by
 intro q hq;obtain ⟨n,_,rfl⟩:=Eap.1 hq;rfl
theorem Tf {v:List Node} {i:Nat} {a b:List Node} (h:v.drop i=a ++ b):((valL v).drop i).take a.length=valL a:=by
 have:(valL v).drop i=valL a ++ valL b:=by rw [<- Ji,<- h];simp [valL,Edg]
 rw [this];simp
theorem D5 {v:List Node} {i:Nat} {n:Node} {b:List Node} (h:v.drop i=n :: b):(valL v)[i]? = some n.cells:=by
 have:v[i]? = some n:=by
  have:=congrArg (·[0]?) h;simpa using this
 simp [valL,this]
theorem L9 {v:List Node} {i:Nat} {a:List Node} (h:v.drop i=a) (ha:a≠[]):i+a.length=v.length:=by
 have:=congrArg List.length h;simp at this;have:1<=a.length:=by cases a <;> simp_all
 omega
def Forest.list:Forest->List (List UInt8×Tree)
 | .nil=>[]
 | .cons nm t r=>(nm,t) :: r.list
theorem Jqh:∀ f:Forest,f.list.length=f.len
 | .nil=>rfl
 | .cons _ _ r=>by simp [Forest.list,Forest.len,Jqh r]
def Tree.kids:Tree->Forest
 | .mk _ _ _ _ k=>k
def Tree.kind:Tree->Int
 | .mk k _ _ _ _=>k
end Go.LX
set_option maxHeartbeats 2000000
namespace Go.LX
open Go Go.RowKit Go.Proofs
attribute [local irreducible] Al SWP Bi
theorem wj1 {i:Nat} (h:i<=3000000000000000):IntKind.i64.wrap ((i:Int)+1)=((i+1:Nat):Int):=by rw [Aa omg omg];omega
theorem Hp (v:List Node):Det cx 125 [.p (.sl (valL v))] [] (.fn 157 [900]) [(900,.var 25 [.p (.sl (valL v))])]:=by
 (refine bgoR true [(1,900)] Tryz.func125 ?_;simp only [go_sem,simprocAttr])
theorem F2 {nm:List UInt8} {t:Tree} {r:Forest}:(Forest.cons nm t r).len=r.len+1:=rfl
theorem Zu (v:List Node) (i:Nat) (nm:List UInt8) (t:Tree) (rest:List Node) (hv:v.length<=1500000000000) (h:v.drop i=t.enc nm ++ rest):Det cx 158 [.p (.sl (valL v)),.p (.int .i64 i)] [] (.p (.int .i64 (i+(t.enc nm).length:Nat))) []:=by
 (refine bgo Tryz.func158 ?_;simp only [go_sem,simprocAttr]);have hp:=Et t nm;have hb:=L9 h (fun e=>by have e2:(t.enc nm ++ rest).length=0:=(by rw [e];rfl);rw [Eac] at e2;omega);rw [Eac] at hb;refine SWP.loop (fun x:Nat×Nat×Forest=>⟨Ba 19 [(0,.p (.sl (valL v))),(1,.p (.int .i64 x.1)),(5,.p (.int .i64 x.2.1))],[]⟩) (fun x=>x.2.1=x.2.2.len/\v.drop x.1=x.2.2.enc ++ rest/\x.1+x.2.2.enc.length=i+(t.enc nm).length) (fun x=>x.2.2.enc.length) (i,1,.cons nm t .nil) Jqc ⟨rfl,by simp [A0,Bl,h],by simp [A0,Bl]⟩ ?_;rintro ⟨j,left,F⟩ ⟨h0,h1,h2⟩;simp only at h0 h1 h2
 match F,h0,h1,h2 with
 | .nil,h0,h1,h2 =>
  rw [Bl] at h2;simp only [Forest.len] at h0;subst h0;(refine lws ?_;simp only [go_sem,simprocAttr]);simp only [List.length_nil] at h2;omega
 | .cons nm' (.mk k s g e kids) r,h0,h1,h2 =>
  rw [F2] at h0;rw [A0,A6] at h1 h2;have hg:=D5 h1;rw [C9] at hg;simp only [List.length_cons,Eac] at h2;have hl1:=Jqi kids;have hl2:=Jqi r;have w0:IntKind.i64.wrap ((kids.len:Int) - 1)=(kids.len:Int) - 1:=Aa omg omg;have w1:IntKind.i64.wrap ((left:Int)+((kids.len:Int) - 1))=((r.len+kids.len:Nat):Int):=by rw [Aa omg omg];omega
  (refine lws ?_;simp only [go_sem,simprocAttr,wj1 (i:=j) omg,hg,w0,w1]);(repeat' (first|(apply iteI<;>intro h)|(exfalso;omega)))
  ·exact ⟨(j+1,r.len+kids.len,kids.app r),⟨by simp only [Jrz];omega,by
    simp only [Jqk];rw [<- Ebg,h1];simp,by simp only [Jqk,Eac];omega⟩,by simp only [Jqk,A0,A6,Eac,List.length_cons];omega,Jqc⟩
theorem Jdc (c:List PV) (cs:List (List PV)) (h6:∀ q∈c :: cs,q.length=6) (hl:cs.length<=1500000000000):Det cx 159 [.p (.sl (c :: cs))] [] (.own 900 0 (cs.length+1)) [(900,.row 36 6 (c :: cs))]:=by
 (refine bgoR true [(7,900)] Tryz.func159 ?_;simp only [go_sem,simprocAttr]);(repeat' (first|refine Jqj ?_|fail));omega
def Dp (f:Forest):List (List PV):=f.list.map fun p=>[.str p.1,.sl (valL (p.2.enc []))]
theorem E4 (f:Forest):(Dp f).length=f.len:=by simp [Dp,Jqh]
theorem Rt (nm:List UInt8) (kd:Int) (s:List UInt8) (g:Bool) (e:Int) (kids:Forest) (hv:kids.enc.length<=1499999999999):Tb cx 157 [.eptr [.sl (valL ((Tree.mk kd s g e kids).enc nm))]] (Dp kids):=by
 have hl:=Jqi kids;generalize hvv:(Tree.mk kd s g e kids).enc nm=v;have h0:v.drop 0=⟨kd,kids.len,nm,s,g,e⟩ :: kids.enc:=by rw [<- hvv,A6];rfl
 have hg0:=D5 h0;rw [C9] at hg0;have hvl:v.length=kids.enc.length+1:=by rw [<- hvv,A6];rfl
 (refine Juw (X:=cx) Tryz.func157 kr rfl kr (by simp only [List.length_cons,List.length_nil,Tryz.ntmps157];decide) fun l=>?_;refine N9 _ _ _ _ ?_;simp only [Tryz.ntmps157,go_sem,simprocAttr,hg0]);refine JWP.loop (fun x:Nat×Nat×Forest=>(some x.1,⟨Ba 34 [(0,.yld l),(1,.eptr [.sl (valL v)]),(3,.p (.int .i64 x.2.1)),(9,.p (.int .i64 kids.len)),(10,.p (.int .i64 x.1))],[]⟩)) (fun x=>x.1+x.2.2.len=kids.len/\v.drop x.2.1=x.2.2.enc/\x.2.1+x.2.2.enc.length=v.length/\(Dp kids).drop x.1=Dp x.2.2) (fun x=>x.2.2.enc.length) (0,1,kids) rfl Jqc ⟨by simp,by rw [<- hvv,A6];rfl,by simp only;omega,rfl⟩ ?_;rintro ⟨k,j,F⟩ ⟨h1,h2,h3,h4⟩;simp only at h1 h2 h3 h4 ⊢
 match F,h1,h2,h3,h4 with
 | .nil,h1,h2,h3,h4 =>
  simp only [Forest.len] at h1;(refine N9 _ _ _ _ ?_;simp only [go_sem,simprocAttr]);(repeat' (first|(apply iteI<;>intro h)|(exfalso;omega)));rw [E4];exact .inl (by congr 1)
 | .cons nm' (.mk k' s' g' e' kids') r,h1,h2,h3,h4 =>
  rw [F2] at h1;rw [A0] at h2 h3;rw [Eac] at h3;have hs:=Tf h2;rw [A6] at h3;simp only [List.length_cons] at h3;have hs':((valL v).drop j).take (j+((Tree.mk k' s' g' e' kids').enc nm').length - j)=[.int .i64 k',.int .i64 kids'.len,.str nm',.str s',.bool g',.int .i64 e'] :: valL kids'.enc:=by
   rw [Ecp,hs,A6,Nh,C9]
  have h2':=h2;rw [A6] at h2';have hg:=D5 h2';rw [C9] at hg;have hel:((Tree.mk k' s' g' e' kids').enc nm').length=kids'.enc.length+1:=by rw [A6];rfl
  have h6:∀ q∈[.int .i64 k',.int .i64 kids'.len,.str nm',.str s',.bool g',.int .i64 e'] :: valL kids'.enc,q.length=6:=fun q hq=>E7 ((Tree.mk k' s' g' e' kids').enc nm') q (by rw [A6];exact hq)
  have htk:(valL kids'.enc).take kids'.enc.length=valL kids'.enc:=Ead sm;(refine N9 _ _ _ _ ?_;simp only [go_sem,simprocAttr,wj1 (i:=k) omg]);(repeat' (first|(refine And.intro (E7 _) ?_)|(apply iteI<;>intro h)|refine Jqj ?_|((first|(refine Jqa (Zu v j nm' (.mk k' s' g' e' kids') r.enc omg h2) ?_)|(refine Jqa (Jdc _ _ h6 (by rw [A7];omega)) ?_));simp only [go_sem,simprocAttr,htk,Eai,hg,hs',A7,wj1 (i:=k) omg])|(exfalso;omega)));refine ⟨?_,⟨(k+1,j+((Tree.mk k' s' g' e' kids').enc nm').length,r),⟨by simp only;omega,by simp only;rw [<- Ebg,h2,Ec4],by simp only;omega,by simp only;rw [<- Ebg,h4];rfl⟩,by simp only [A0,Eac];omega,rfl,Jqc⟩,.inr trivial⟩;have:=congrArg (·[0]?) h4;simp only [Ecg,Nat.add_zero] at this;rw [this];simp [Dp,Forest.list,A6,Nh,C9]
def A4 (l:List (List UInt8×Tree)):List (List PV):=l.map fun p=>[.sl (valL (p.2.enc []))]
@[simp] theorem Jen:A4 []=[]:=rfl
theorem Gs {l:List (List UInt8×Tree)} {k:Nat} {p:List UInt8×Tree} (h:l[k]? = some p):A4 (l.take (k+1))=A4 (l.take k) ++ [[.sl (valL (p.2.enc []))]]:=by
 rw [Ea8,h];simp [A4]
theorem Fq {f:Forest} {k:Nat} {x:List PV} (h:(Dp f)[k]? = some x):∃ p,f.list[k]? = some p/\x=[.str p.1,.sl (valL (p.2.enc []))]:=by
 unfold Dp at h;rw [Eam] at h;obtain ⟨p,h1,h2⟩:=Eak.1 h;exact ⟨p,h1,h2.symm⟩
theorem Fn {f:Forest} {x:List PV} (h:x∈Dp f):x.length=2:=by
 obtain ⟨p,_,rfl⟩:=Eap.1 h;rfl
theorem A5 (l:List (List UInt8×Tree)):(A4 l).length=l.length:=by simp [A4]
theorem Px (nm:List UInt8) (kd:Int) (s:List UInt8) (g:Bool) (e:Int) (kids:Forest) (hv:kids.enc.length<=1499999999999):Det cx 68 [.p (.sl (valL ((Tree.mk kd s g e kids).enc nm)))] [] (.p (.sl (A4 kids.list))) []:=by
 (refine bgo Tryz.func68 ?_;simp only [go_sem,simprocAttr]);(repeat' (first|((refine Jqa (Hp _) ?_);simp only [go_sem,simprocAttr])|fail));(refine SWP.range (Dp kids) 15 [(13,900)] sm _ _ _ _ _ (fun k R=>R=if k=0 then [(1000,.var 53 [.p .snil])] else [(900,.row 25 1 (A4 (kids.list.take k))),(1000,.var 53 [.own 900 0 k])]) (fun _ _=>False) (by rfl) (by rfl) (by rfl) (Rt nm kd s g e kids hv) (by simp only [go_sem,simprocAttr] <;> rfl) (by first | rfl | simp [Cg]) sm ?hps (by simp only [go_sem,simprocAttr] <;> rfl) (by simp only [go_sem,simprocAttr] <;> rfl) (by simp only [go_sem,simprocAttr] <;> rfl) ?h0 ?hkI ?hkS ?hSn ?round ?done ?stop)
 case hps=>exact fun x hx=>Fn hx
 case h0=>rfl
 case hkI=>rintro k R rfl;split <;> simp [Hg,findKey]
 case hkS=>exact fun _ _ h=>h.elim
 case hSn=>exact fun _ h=>h
 case stop=>exact fun _ _ h=>h.elim
 case round =>
  rintro k x R l hx rfl;obtain ⟨p,hp,rfl⟩:=Fq hx;by_cases hk:k=0
  ·subst hk;rw [if_pos rfl];simp only [go_sem,simprocAttr];(refine lws ?_;simp only [go_sem,simprocAttr]);refine ⟨by simp,_,rfl,?_⟩;rw [Gs hp];exact (Jqt (by simp only [Ar]) (by simp (disch:=omega) [Az,A3,Aw,Am,Af,Ai,Au,Aa]) (by simp [Ay]))
  ·rw [if_neg hk];have hkl:=(Eab.1 hp).1;rw [Jqh] at hkl;have hll:=Jqi kids;simp only [go_sem,simprocAttr];(refine lws ?_;simp only [go_sem,simprocAttr]);refine ⟨by simp,by rw [A5,Eaw,Jqh];omega,by omega,by omega,_,rfl,?_⟩;rw [Gs hp];exact (Jqt (by simp only [Ar]) (by simp (disch:=omega) [Az,A3,Aw,Am,Af,Ai,Au,Aa]) (by simp [Ay]))
 case done =>
  rintro R rfl;rw [E4];have hll:=Jqh kids;by_cases hk:kids.len=0
  ·rw [if_pos hk];have hnil:kids.list=[]:=Eal omg;rw [hnil];simp only [go_sem,simprocAttr];refine ⟨⟨Ba 15 [(3,.ptr 3 0 0)],[(3,.var 53 [.p (.sl [])])]⟩,Jqc,?_⟩;simp only [go_sem,simprocAttr];rfl
  ·rw [if_neg hk];have htk:kids.list.take kids.len=kids.list:=Ead omg;rw [htk];have hpl:(kids.len<=(A4 kids.list).length)=True:=eq_true (by rw [A5];omega);have hpt:(A4 kids.list).take kids.len=A4 kids.list:=Ead (by rw [A5];omega);simp only [go_sem,simprocAttr];refine ⟨_,St.Le.refl _,?_⟩;simp only [go_sem,simprocAttr,hpl,hpt]
def Bd (l:List (List UInt8×Tree)):List (List PV):=l.map fun p=>[.str p.1]
@[simp] theorem Jet:Bd []=[]:=rfl
theorem A9 (l:List (List UInt8×Tree)):(Bd l).length=l.length:=by simp [Bd]
theorem Lr {l:List (List UInt8×Tree)} {k:Nat} {p:List UInt8×Tree} (h:l[k]? = some p):Bd (l.take (k+1))=Bd (l.take k) ++ [[.str p.1]]:=by
 rw [Ea8,h];simp [Bd]
theorem Cc (nm:List UInt8) (kd:Int) (s:List UInt8) (g:Bool) (e:Int) (kids:Forest):(valL ((Tree.mk kd s g e kids).enc nm))[0]? = some [.int .i64 kd,.int .i64 kids.len,.str nm,.str s,.bool g,.int .i64 e]:=by
 rw [A6];rfl
theorem J56 (nm:List UInt8) (s:List UInt8) (g:Bool) (e:Int) (kids:Forest) (hv:kids.enc.length<=1499999999999):Det cx 86 [.p (.sl (valL ((Tree.mk 6 s g e kids).enc nm)))] [] (.p (.sl (Bd kids.list))) []:=by
 (refine bgo Tryz.func86 ?_;simp only [go_sem,simprocAttr,Cc]);(repeat' (first|((refine Jqa (Hp _) ?_);simp only [go_sem,simprocAttr])|fail));(refine SWP.range (Dp kids) 19 [(17,900)] sm _ _ _ _ _ (fun k R=>R=if k=0 then [(1000,.var 61 [.p .snil])] else [(900,.row 9 1 (Bd (kids.list.take k))),(1000,.var 61 [.own 900 0 k])]) (fun _ _=>False) (by rfl) (by rfl) (by rfl) (Rt nm 6 s g e kids hv) (by simp only [go_sem,simprocAttr] <;> rfl) (by first | rfl | simp [Cg]) sm ?hps (by simp only [go_sem,simprocAttr] <;> rfl) (by simp only [go_sem,simprocAttr] <;> rfl) (by simp only [go_sem,simprocAttr] <;> rfl) ?h0 ?hkI ?hkS ?hSn ?round ?done ?stop)
 case hps=>exact fun x hx=>Fn hx
 case h0=>rfl
 case hkI=>rintro k R rfl;split <;> simp [Hg,findKey]
 case hkS=>exact fun _ _ h=>h.elim
 case hSn=>exact fun _ h=>h
 case stop=>exact fun _ _ h=>h.elim
 case round =>
  rintro k x R l hx rfl;obtain ⟨p,hp,rfl⟩:=Fq hx;by_cases hk:k=0
  ·subst hk;rw [if_pos rfl];simp only [go_sem,simprocAttr];(refine lws ?_;simp only [go_sem,simprocAttr]);refine ⟨by simp,_,rfl,?_⟩;rw [Lr hp];exact (Jqt (by simp only [Ar]) (by simp (disch:=omega) [Az,A3,Aw,Am,Af,Ai,Au,Aa]) (by simp [Ay]))
  ·rw [if_neg hk];have hkl:=(Eab.1 hp).1;rw [Jqh] at hkl;have hll:=Jqi kids;simp only [go_sem,simprocAttr];(refine lws ?_;simp only [go_sem,simprocAttr]);refine ⟨by simp,by rw [A9,Eaw,Jqh];omega,by omega,by omega,_,rfl,?_⟩;rw [Lr hp];exact (Jqt (by simp only [Ar]) (by simp (disch:=omega) [Az,A3,Aw,Am,Af,Ai,Au,Aa]) (by simp [Ay]))
 case done =>
  rintro R rfl;rw [E4];have hll:=Jqh kids;by_cases hk:kids.len=0
  ·rw [if_pos hk];have hnil:kids.list=[]:=Eal omg;rw [hnil];simp only [go_sem,simprocAttr];refine ⟨⟨Ba 19 [(3,.ptr 3 0 0)],[(3,.var 61 [.p (.sl [])])]⟩,Jqc,?_⟩;simp only [go_sem,simprocAttr];rfl
  ·rw [if_neg hk];have htk:kids.list.take kids.len=kids.list:=Ead omg;rw [htk];have hpl:(kids.len<=(Bd kids.list).length)=True:=eq_true (by rw [A9];omega);have hpt:(Bd kids.list).take kids.len=Bd kids.list:=Ead (by rw [A9];omega);simp only [go_sem,simprocAttr];refine ⟨_,St.Le.refl _,?_⟩;simp only [go_sem,simprocAttr,hpl,hpt]
def Ch (name:List UInt8) (l:List (List UInt8×Tree)):Option Tree:=match l with
 | []=>none
 | p :: l=>if p.1=name then some p.2 else Ch name l
theorem Ls {name:List UInt8}:∀ {l:List (List UInt8×Tree)},(∀ p∈l,p.1≠name)->Ch name l=none
 | [],_=>rfl
 | p :: l,h=>by
  rw [Ch,if_neg (h p Eaf)];exact Ls fun q hq=>h q (Eag _ hq)
theorem Li {name:List UInt8}:∀ {l:List (List UInt8×Tree)} {k:Nat} {p:List UInt8×Tree},l[k]? = some p->p.1=name->(∀ q∈l.take k,q.1≠name)->Ch name l=some p.2
 | [],k,p,h,_,_=>by simp at h
 | q :: l,0,p,h,hn,_=>by
  simp at h;subst h;rw [Ch,if_pos hn]
 | q :: l,k+1,p,h,hn,ht=>by
  rw [List.take_succ_cons] at ht;rw [Ch,if_neg (ht q Eaf)];exact Li (by simpa using h) hn fun x hx=>ht x (Eag _ hx)
def Oo:Option Tree->L
 | some t=>.tup [.sl (valL (t.enc [])),.bool true]
 | none=>.tup [.snil,.bool false]
theorem Jdk (nm:List UInt8) (s:List UInt8) (g:Bool) (e:Int) (kids:Forest) (name:List UInt8) (hv:kids.enc.length<=1499999999999):Det cx 92 [.p (.sl (valL ((Tree.mk 6 s g e kids).enc nm))),.p (.str name)] [] (Oo (Ch name kids.list)) []:=by
 (refine bgo Tryz.func92 ?_;simp only [go_sem,simprocAttr,Cc]);(repeat' (first|((refine Jqa (Hp _) ?_);simp only [go_sem,simprocAttr])|fail));(refine SWP.range (Dp kids) 21 [] sm _ _ _ _ _ (fun k R=>R=[(1000,.var 4 [.p (.bool false)]),(1001,.var 25 [.p .snil]),(1002,.var 9 [.p (.str name)])]/\∀ p∈kids.list.take k,p.1≠name) (fun x R=>x=.ret/\∃ t,Ch name kids.list=some t/\R=[(1000,.var 4 [.p (.bool true)]),(1001,.var 25 [.p (.sl (valL (t.enc [])))])]) (by rfl) (by rfl) (by rfl) (Rt nm 6 s g e kids hv) (by simp only [go_sem,simprocAttr] <;> rfl) (by first | rfl | simp [Cg]) sm ?hps (by simp only [go_sem,simprocAttr] <;> rfl) (by simp only [go_sem,simprocAttr] <;> rfl) (by simp only [go_sem,simprocAttr] <;> rfl) ?h0 ?hkI ?hkS ?hSn ?round ?done ?stop)
 case hps=>exact fun x hx=>Fn hx
 case h0=>exact ⟨rfl,by simp⟩
 case hkI=>rintro k R ⟨rfl,_⟩;simp [Hg,findKey]
 case hkS=>rintro x R ⟨_,t,_,rfl⟩;simp [Hg,findKey]
 case hSn=>rintro R ⟨h,_⟩;cases h
 case stop =>
  rintro x R ⟨rfl,t,ht,rfl⟩;rw [ht];simp only [go_sem,simprocAttr];refine ⟨_,St.Le.refl _,?_⟩;simp only [go_sem,simprocAttr];rfl
 case done =>
  rintro R ⟨rfl,hno⟩;rw [E4,Ead (by rw [Jqh];exact Eai _)] at hno;rw [Ls hno];simp only [go_sem,simprocAttr];refine ⟨_,St.Le.refl _,?_⟩;simp only [go_sem,simprocAttr];rfl
 case round =>
  rintro k x R l hx ⟨rfl,hno⟩;obtain ⟨p,hp,rfl⟩:=Fq hx;simp only [go_sem,simprocAttr];(refine lws ?_;simp only [go_sem,simprocAttr]);(repeat' (apply iteI <;> intro h))
  ·exact ⟨_,⟨p.2,Li hp (by assumption) hno,rfl⟩,(Jqt (by simp only [Ar]) (by simp (disch:=omega) [Az,A3,Aw,Am,Af,Ai,Au,Aa]) (by simp [Ay]))⟩
  ·refine ⟨_,⟨rfl,fun q hq=>?_⟩,(Jqt (by simp only [Ar]) (by simp (disch:=omega) [Az,A3,Aw,Am,Af,Ai,Au,Aa]) (by simp [Ay]))⟩;rw [Ea8,hp] at hq;rcases Eau.1 hq with hq | hq
   ·exact hno q hq
   ·simp at hq;subst hq;assumption
def A1 (l:List (List UInt8×Tree)):Forest:=match l with
 | []=>.nil
 | p :: l=>.cons p.1 p.2 (A1 l)
theorem G1:∀ f:Forest,A1 f.list=f
 | .nil=>rfl
 | .cons nm t r=>by simp only [Forest.list,A1,G1 r]
theorem Hz:∀ a b:List (List UInt8×Tree),A1 (a ++ b)=(A1 a).app (A1 b)
 | [],b=>rfl
 | p :: a,b=>by simp only [List.cons_append,A1,Forest.app,Hz a b]
theorem Ca:∀ l:List (List UInt8×Tree),(A1 l).len=l.length
 | []=>rfl
 | p :: l=>by simp only [A1,Forest.len,Ca l,List.length_cons]
theorem Hd:∀ l:List (List UInt8×Tree),(A1 l).list=l
 | []=>rfl
 | p :: l=>by simp only [A1,Forest.list,Hd l]
def hdR (n:Nat):List PV:=[.int .i64 6,.int .i64 n,.str [],.str [],.bool false,.int .i64 0]
theorem Jkg (l:List (List UInt8×Tree)) (hv:(A1 l).enc.length<=1499999999999):Det cx 127 [.p (.sl (Bd l)),.p (.sl (A4 l))] [] (.p (.sl (valL ((Tree.mk 6 [] false 0 (A1 l)).enc [])))) []:=by
 have hll:=Jqi (A1 l);rw [Ca] at hll;(refine bgo Tryz.func127 ?_;simp only [go_sem,simprocAttr,A5,wj1 (i:=0) omg]);refine SWP.loop (fun x:Nat×Nat×List (List PV)=>⟨Ba 35 [(0,.p (.sl (Bd l))),(5,.own 12 0 x.2.1),(13,.p (.sl (A4 l))),(14,.p (.int .i64 l.length)),(15,.p (.int .i64 x.1))],[(12,.row 36 6 x.2.2)]⟩) (fun x=>x.1<=l.length/\x.2.1=(A1 (l.take x.1)).enc.length+1/\x.2.2=hdR l.length :: valL (A1 (l.take x.1)).enc) (fun x=>l.length - x.1) (0,1,[hdR l.length]) (by unfold hdR;exact Jqc) ⟨Eav _,rfl,rfl⟩ ?_;rintro ⟨k,m,es⟩ ⟨hk,hm',hes⟩;simp only at hk hm' hes;by_cases hlt:¬ k<l.length
 ·have hml:es.length=m:=by rw [hes,hm'];simp
  have htk:es.take m=es:=Ead omg;have htl:l.take k=l:=Ead omg;rw [htl] at hes hm';have hkl:((k:Int)<(l.length:Int))=False:=eq_false omg;(refine lws ?_;simp only [go_sem,simprocAttr,wj1 (i:=0) omg,hkl,hml,htk,Eai]);rw [hes,A6,Ca];rfl
 ·have hlt:=Ea1.1 hlt;obtain ⟨p,hp⟩:∃ p,l[k]? = some p:=⟨_,Eaa hlt⟩
  have hml:es.length=m:=by rw [hes,hm'];simp
  have htk:es.take m=es:=Ead omg;have hpl:(A4 l)[k]? = some [.sl (valL (p.2.enc []))]:=by simp [A4,hp]
  have hnl:(Bd l)[k]? = some [.str p.1]:=by simp [Bd,hp]
  obtain ⟨⟨nm',t⟩,rfl⟩:∃ q,q=p:=⟨p,rfl⟩
  cases t with
  | mk kd' s' g' e' kids' =>
  have hge:(es ++ valL ((Tree.mk kd' s' g' e' kids').enc []))[m]? = some [.int .i64 kd',.int .i64 kids'.len,.str [],.str s',.bool g',.int .i64 e']:=by
   rw [Ean omg,hml,Nat.sub_self,A6];rfl
  have hkl:((k:Int)<(l.length:Int))=True:=eq_true omg;have htk1:A1 (l.take (k+1))=(A1 (l.take k)).app (.cons nm' (.mk kd' s' g' e' kids') .nil):=by
   rw [Ea8,hp,Hz];rfl
  have hsum:(A1 (l.take (k+1))).enc.length<=(A1 l).enc.length:=by
   have e1:A1 l=(A1 (l.take (k+1))).app (A1 (l.drop (k+1))):=by rw [<- Hz,Ebl]
   rw [e1,Jqk,Eac];omega
  rw [htk1,Jqk,Eac,A0,Bl,Eaz,A6,List.length_cons] at hsum;have h6:=E7 ((Tree.mk kd' s' g' e' kids').enc []);have hvl:((Tree.mk kd' s' g' e' kids').enc []).length=kids'.enc.length+1:=by rw [A6];rfl
  have hsp:(es ++ valL ((Tree.mk kd' s' g' e' kids').enc [])).set m [.int .i64 kd',.int .i64 kids'.len,.str nm',.str s',.bool g',.int .i64 e']=es ++ valL ((Tree.mk kd' s' g' e' kids').enc nm'):=by
   rw [List.set_append_right _ _ omg,hml,Nat.sub_self,A6,A6];rfl
  (refine lws ?_;simp only [go_sem,simprocAttr,wj1 (i:=0) omg,hkl,hml,hkl,hml,hpl,hnl,hge,hsp,A7,hvl,wj1 (i:=k) omg]);refine ⟨h6,by omega,by omega,by omega,(k+1,m+(kids'.enc.length+1),es ++ valL ((Tree.mk kd' s' g' e' kids').enc nm')),⟨by simp only;omega,?_,?_⟩,by simp only;omega,?_⟩
  ·simp only;rw [htk1,Jqk,Eac,A0,Bl,Eaz,A6,List.length_cons];omega
  ·simp only;rw [htk1,Jqk,Ji,A0,Bl,Eaz,<- List.cons_append,<- hes]
  ·refine St.Le.trans (B1 [(24,12)] _ sm) ?_;simp only [go_sem,simprocAttr,wj1 (i:=0) omg,wj1 (i:=k) omg];exact Jqc
end Go.LX
