/- Where strings.TrimFunc leaves nothing of a text: where all are Jqp. -/
import Derived.Test.YtpaiiekgdgjjnaaGreatDoorLxK
import Derived.Shelf.Strings.FuncGrows
import Derived.Lib.TrimUEq
import Derived.Lib.TrimAscii
import Derived.Test.YtpaiiekgdgjjnaaGreatDoorLxS
import Derived.Test.YtpaiiekgdgjjnaaGreatDoorLxM
import Derived.Lib.ItoaNum
import Derived.Lib.Repeat
import Derived.Lib.Bytealg
import Derived.Shelf.Strings.Builder1
import Derived.Shelf.Strings.Trim
import Derived.Shelf.Small.Utf8
import Derived.Shelf.Small.Bits
import Derived.Shelf.Small.Strs
import Derived.Shelf.Small.Wraps
import Derived.Shelf.Strings.BuilderF
import Derived.Shelf.Strconv.Atoi
import Derived.Shelf.Strconv.Itoa0
import Derived.Shelf.Strconv.Itoa1
import Derived.Shelf.LaysM
import Derived.Shelf.Strconv.Itoa2
import Derived.Shelf.Strconv.Itoa3
import Derived.Shelf.Strconv.Itoa4
import Derived.Shelf.Strconv.AtoiErrFast
import Derived.Shelf.Strconv.ParseIntEmpty
import Derived.Shelf.Strconv.AtoiFail
import Derived.Shelf.Strconv.Clone
import Derived.Shelf.Strconv.SyntaxError
import Derived.Shelf.LaysC
import Derived.Shelf.Strconv.ToError
import Derived.Shelf.Strconv.Lower
import Derived.Shelf.Strconv.ParseUint10
import Derived.Shelf.Strconv.ParseUint10Empty
import Derived.Shelf.Strconv.ParseUint10Any
import Derived.Shelf.Strconv.ParseInt10
import Derived.Shelf.Strconv.AtoiLong
import Derived.Shelf.Strconv.AtoiInnerAll
import Derived.Shelf.Strconv.RangeError
import Derived.Shelf.Strconv.ToErrorRange
import Derived.Shelf.Strconv.AtoiAll
import Derived.Shelf.Strconv.ErrVarAll
import Derived.Shelf.Strconv.ParseUintEmpty
import Derived.Shelf.Strings.Search1
import Derived.Shelf.GgClosure.StringsIndexFunc
import Derived.Shelf.GgClosure.StringsTrimFunc
import Derived.Shelf.Strings.Prefix
import Derived.Shelf.Unicode.Decode
import Derived.Shelf.Strings.Runes
import Derived.Shelf.Strings.IndexAny
import Derived.Shelf.Strings.AsciiSet
import Derived.Shelf.Strings.IndexAnyAll
import Derived.Shelf.Unicode.DecodeSlow
import Derived.Shelf.Unicode.DecodeAny
import Derived.Shelf.Unicode.DecodeLast
import Derived.Ground.Names2Prog
import Derived.Shelf.Slices.ReverseS
import Derived.Shelf.Slices.SearchI
import Derived.Shelf.Slices.Cells
import Derived.Ground.SlgnProg
import Derived.Shelf.SlicesE.Reverse
import Derived.Test.YtpaiiekgdgjjnaaGreatDoorProg
import Derived.Test.YtpaiiekgdgjjnaaGreatDoorLxR
set_option linter.unusedSimpArgs false
set_option linter.unusedVariables false
set_option linter.unusedSectionVars false
set_option linter.unnecessarySimpa false
namespace Go.LX
open Go Go.RowKit Go.Proofs Go.Lib
def J5i (c:UInt8):Bool:=decide (48≤c.toNat) && decide (c.toNat≤57)
def Jqp (s:List UInt8):Bool:=s.all J5i
def figR (r:Nat):Bool:=decide (48≤r) && decide (r≤57)
theorem Jzx {n b0 b1 b2 b3:Nat} (h:128≤b0):128≤(decodeN n b0 b1 b2 b3).1:=by
 unfold decodeN
 repeat' split
 all_goals first | omega | (simp_all;done)|(simp_all;omega)
theorem J41 {s:ByteArray} {pos:Nat} (h:figR (Utf8.decode s pos).1=true):figR (s.data.toList.getD pos 0).toNat=true∧(Utf8.decode s pos).2=1:=by
 rw [decode_N] at h ⊢;by_cases hb:(s.data.toList.getD pos 0).toNat<128
 ·rw [decodeN_ascii _ _ _ _ _ hb] at h ⊢;exact ⟨h,rfl⟩
 ·have:=Jzx (n:=s.data.toList.length - pos) (b1:=(s.data.toList.getD (pos+1) 0).toNat) (b2:=(s.data.toList.getD (pos+2) 0).toNat) (b3:=(s.data.toList.getD (pos+3) 0).toNat) (by omega:128≤(s.data.toList.getD pos 0).toNat);simp only [figR,Bool.and_eq_true,decide_eq_true_eq] at h;omega
theorem J5m {s:ByteArray} {pos:Nat} (h:figR (s.data.toList.getD pos 0).toNat=true):Utf8.decode s pos=((s.data.toList.getD pos 0).toNat,1):=by
 rw [decode_N,decodeN_ascii];simp only [figR,Bool.and_eq_true,decide_eq_true_eq] at h;omega
theorem J3p {s:ByteArray}:∀ (f pos:Nat),s.size≤pos+f→idxFuncFrom figR false s f pos = -1→∀ j,pos≤j→j<s.size→figR (s.data.toList.getD j 0).toNat=true
 | 0,pos,hf,_,j,h1,h2=>by omega
 | f+1,pos,hf,h,j,h1,h2=>by
  unfold idxFuncFrom at h;rw [if_pos omg] at h;split at h
  ·omega
  ·rename_i hp;have hp':figR (Utf8.decode s pos).1=true:=by simpa using hp
   obtain ⟨g1,g2⟩:=J41 hp';by_cases hj:j=pos
   ·subst hj;exact g1
   ·rw [g2] at h;exact J3p f (pos+1) omg h j omg h2
theorem J4j {s:ByteArray}:∀ (f pos k:Nat),idxFuncFrom figR false s f pos=(k:Int)→k<s.size∧figR (s.data.toList.getD k 0).toNat=false
 | 0,pos,k,h=>by simp [idxFuncFrom] at h
 | f+1,pos,k,h=>by
  unfold idxFuncFrom at h;split at h
  ·rename_i hlt;split at h
   ·rename_i hp;have hk:pos=k:=by omega
    subst hk;refine ⟨hlt,?_⟩;cases hb:figR (s.data.toList.getD pos 0).toNat with
    | false=>rfl
    | true =>
     rw [J5m hb] at hp;simp only at hp;rw [hb] at hp;cases hp
   ·exact J4j f _ k h
  ·omega
theorem J0r {l:List UInt8} (hl:l≠[]) (h:figR (decodeLastL l).1=true):figR (l.getD (l.length - 1) 0).toNat=true∧(decodeLastL l).2=1:=by
 unfold decodeLastL at h ⊢;rw [if_neg hl] at h ⊢;split
 ·rename_i hb;rw [if_pos hb] at h;exact ⟨h,rfl⟩
 ·rename_i hb;rw [if_neg hb] at h;simp only at h;split at h
  ·rename_i hd;exfalso;have hlen:0<l.length:=List.length_pos_iff.2 hl;have hfig:(decodeL (l.drop (lastStart l))).1<128:=by simp [figR] at h;omega
   generalize hq:l.drop (lastStart l)=q at hfig hd;cases q with
   | nil =>
    have:=congrArg List.length hq;simp only [List.length_drop,List.length_nil] at this;rw [show (decodeL []).2=1 from by decide] at hd;omega
   | cons c r =>
    have hc:c.toNat<128:=by
     by_cases hc:c.toNat<128
     ·exact hc
     ·exfalso;simp only [decodeL] at hfig;rw [decode_N] at hfig;simp only [List.getD_cons_zero] at hfig;have:=fun n b1 b2 b3=>Jzx (n:=n) (b1:=b1) (b2:=b2) (b3:=b3) (by omega:128≤c.toNat)
      exact absurd hfig (Nat.not_lt.2 (this _ _ _ _))
    rw [decodeL_ascii c r hc] at hd;simp only at hd;have hlr:r=[]:=by
     have:=congrArg List.length hq;simp at this;exact List.eq_nil_of_length_eq_zero omg
    subst hlr;have e:l.getD (l.length - 1) 0=c:=by
     have h1:l[lastStart l]? = some c:=by
      have:=congrArg (fun x=>x[0]?) hq;simpa using this
     have h2:l.length - 1=lastStart l:=by omega
     rw [h2];simp [List.getD_eq_getElem?_getD,h1]
    rw [e] at hb;exact hb hc
  ·exfalso;simp [figR,Utf8.runeError] at h
theorem J2f {s:ByteArray}:∀ (f i:Nat),i≤f→i≤s.size→lastIdxFuncFrom figR false s f i = -1→∀ j,j<i→figR (s.data.toList.getD j 0).toNat=true
 | 0,i,hf,_,h,j,hj=>by omega
 | f+1,i,hf,hs,h,j,hj=>by
  unfold lastIdxFuncFrom at h;rw [if_pos omg] at h;split at h
  ·omega
  ·rename_i hp;have hsz:s.data.toList.length=s.size:=by simp
   have hl:(s.data.toList.take i).length=i:=by rw [List.length_take];omega
   have hp':figR (decodeLastL (s.data.toList.take i)).1=true:=by simpa using hp
   obtain ⟨g1,g2⟩:=J0r (by intro hn;rw [hn] at hl;simp at hl;omega) hp';rw [hl] at g1;rw [g2] at h;by_cases hji:j=i - 1
   ·subst hji;have:(s.data.toList.take i).getD (i - 1) 0=s.data.toList.getD (i - 1) 0:=by
     simp [List.getD_eq_getElem?_getD,List.getElem?_take,show i - 1<i by omega]
    rw [← this];exact g1
   ·exact J2f f (i - 1) omg omg h j omg
theorem Jyi {l:List UInt8}:Jqp l=true ↔ ∀ j,j<l.length→figR (l.getD j 0).toNat=true:=by
 simp only [Jqp,List.all_eq_true];constructor
 ·intro h j hj;have:=h l[j] (List.getElem_mem hj);simpa [List.getD_eq_getElem?_getD,hj,figR,J5i] using this
 ·intro h x hx;obtain ⟨j,hj,rfl⟩:=List.getElem_of_mem hx;simpa [List.getD_eq_getElem?_getD,hj,figR,J5i] using h j hj
theorem Jts (s:ByteArray):s.data.toList.length=s.size:=by simp
theorem J08 (s:ByteArray):((trimF figR s).data.toList == [])=Jqp s.data.toList:=by
 unfold trimF;by_cases hk:idxFunc figR false s = -1
 ·have h1:Jqp s.data.toList=true:=by
   rw [Jyi];intro j hj;rw [Jts] at hj;exact J3p s.size 0 omg hk j (Nat.zero_le _) hj
  rw [h1];unfold trimLeftF;rw [if_pos hk];unfold trimRightF;simp [ByteArray.data_extract]
 ·obtain ⟨k,hk2⟩:∃ k:Nat,idxFunc figR false s=k:=by
   rcases idxFunc_range figR false s with h | ⟨h,_⟩
   ·exact absurd h hk
   ·exact ⟨_,(Int.toNat_of_nonneg h).symm⟩
  obtain ⟨h1,h2⟩:=J4j _ _ _ hk2;have h3:Jqp s.data.toList=false:=by
   cases hf:Jqp s.data.toList with
   | false=>rfl
   | true =>
    rw [Jyi] at hf;rw [hf k (by rw [Jts];exact h1)] at h2;cases h2
  rw [h3];have ht:trimLeftF figR s=s.extract k s.size:=by
   unfold trimLeftF;rw [if_neg hk,hk2];simp
  rw [ht];generalize hte:s.extract k s.size=t;have htl:t.data.toList=s.data.toList.drop k:=by
   rw [← hte];simp [ByteArray.data_extract,Array.toList_extract];rw [List.take_of_length_le sm]
  have hts:t.size=s.size - k:=by rw [← Jts,htl,List.length_drop,Jts]
  have h0:figR (t.data.toList.getD 0 0).toNat=false:=by
   rw [htl];simpa [List.getD_eq_getElem?_getD,List.getElem?_drop] using h2
  have hlast:0≤lastIdxFunc figR false t:=by
   rcases lastIdxFuncFrom_range figR false t t.size t.size with h | ⟨h,_⟩
   ·have:=J2f t.size t.size (Nat.le_refl _) (Nat.le_refl _) h 0 omg;rw [h0] at this;cases this
   ·exact h
  have hpos:1≤rightEndF figR t:=by
   unfold rightEndF;rw [if_pos hlast];unfold decodeGoB;by_cases hz:(lastIdxFunc figR false t).toNat=0
   ·rw [hz];have hsz:(t.extract 0 t.size).size=t.size:=by simp
    rw [if_neg (by rw [hsz];omega)];have:=decodeN_ge1;rw [decode_N];have:=this ((t.extract 0 t.size).data.toList.length - 0) ((t.extract 0 t.size).data.toList.getD 0 0).toNat ((t.extract 0 t.size).data.toList.getD (0+1) 0).toNat ((t.extract 0 t.size).data.toList.getD (0+2) 0).toNat ((t.extract 0 t.size).data.toList.getD (0+3) 0).toNat;omega
   ·omega
  have:(trimRightF figR t).data.toList≠[]:=by
   intro hn;unfold trimRightF at hn;have e:(t.extract 0 (rightEndF figR t)).data.toList=t.data.toList.take (rightEndF figR t):=by simp [ByteArray.data_extract,Array.toList_extract]
   rw [e] at hn;have hl:=congrArg List.length hn;rw [List.length_take,Jts] at hl;simp only [List.length_nil] at hl;omega
  simpa using this
end Go.LX
namespace Go.LX
end Go.LX
namespace Go.LX
open Go Go.Proofs
abbrev Node.pv (n:Node):List PV:=n.cells
theorem Js3 (n:Node):n.pv=[.int .i64 n.kind,.int .i64 n.many,.str n.name,.str n.s,.bool n.neg,.int .i64 n.e]:=(rfl)
def Jy3 (many e:Int):Bool:=decide (-1000≤e) && decide (e≤1000) && decide (many+e≤1000)
theorem Jvk {m e:Int}:Jy3 m e=false ↔ e < -1000∨1000<e∨1000<m+e:=by
 simp only [Jy3];by_cases h1:-1000≤e <;> by_cases h2:e≤1000 <;> by_cases h3:m+e≤1000 <;> simp [h1,h2,h3] <;> omega
def Jrk (n:Node):Bool :=
 if ¬ n.kind=3 then false else if ¬ n.many=0 then false else if ¬ n.name.length=0 then false else if Jqp n.s=false then false else if 100<(n.s.length:Int) then false else
 if n.e < -1000 then false else if 1000<n.e then false else if 1000<(n.s.length:Int)+n.e then false else
 if n.s.length=0 then (if n.neg=false then n.e == 0 else false) else (if ¬ (at_ n.s 0:Int)=48 then ((at_ n.s (n.s.length - 1):Int) != 48) else false)
def cmpI (a b:Int):Int:=if a<b then -1 else if b<a then 1 else 0
def cmpS (a b:List UInt8):Int:=if Op.bytesLess a b=true then -1 else if (Op.bytesLess a b || a == b)=false then 1 else 0
def Jth:Node:=⟨0,0,[],[],false,0⟩
def make (neg:Bool) (s:List UInt8) (e:Int):Node×Int :=
 if Jqp s=false then (Jth,4) else
 if (Jqy s).length=0 then ({ Jth with kind:=3 },0) else
 if e < -100000000 then (Jth,2) else if 100000000<e then (Jth,2) else
 let t:=Jr9 (Jqy s);let e':=e+((Jqy s).length - t.length)
 if 100<(t.length:Int) then (Jth,2) else if e' < -1000 then (Jth,2) else if 1000<(t.length:Int)+e' then (Jth,2) else
 ({ Jth with kind:=3,s:=t,neg:=neg,e:=e' },0)
def Jvj (a b:Node):Int :=
 if a.s.length=0 then cmpI a.s.length b.s.length else if b.s.length=0 then cmpI a.s.length b.s.length else
 if ¬ cmpI (a.s.length+a.e) (b.s.length+b.e)=0 then cmpI (a.s.length+a.e) (b.s.length+b.e) else cmpS a.s b.s
def Juo (a b:Node):Int :=
 if a.neg=true∧b.neg=false then -1 else if b.neg=true∧a.neg=false then 1 else if a.neg=true then Jvj b a else Jvj a b
structure Node.small (n:Node):Prop where
 s:n.s.length≤1000000
 e1:-1000000≤n.e
 e2:n.e≤1000000
def Jsj (n:Node) (p:Int):Int :=
 let i:=(n.s.length:Int) - 1 - (p - n.e)
 if i<0 then 0 else if (n.s.length:Int)≤i then 0 else ((at_ n.s i.toNat:Int) - 48) % 256
def Jsv (f g:Int→Int) (side:Int):Nat→Int→Int
 | 0,_=>0
 | n+1,p=>if f p<g p then -side else if g p<f p then side else Jsv f g side n (p - 1)
def Jtf (a b:Node):Int :=
 let side:=if a.neg=true then -1 else 1
 if a.neg != b.neg then side else
 let top:=max ((a.s.length:Int)+a.e) (b.s.length+b.e)
 Jsv (Jsj a) (Jsj b) side (top - min a.e b.e+1).toNat top
def val (l:List UInt8):Int:=l.foldl (fun n c=>n * 10+((c.toNat:Int) - 48)) 0
end Go.LX
namespace Go.Proofs
open Go.Shelf
def Tryz_lays160_renX:Go.Shelf.Ren:=⟨fun | 160=>321 | 232=>275 | 231=>271 | 227=>272 | 234=>276 | 233=>273 | 236=>277 | 235=>274 | 228=>308 | 271=>310 | 151=>309 | 197=>253 | 120=>343 | 152=>342 | 260=>290 | 137=>215 | 119=>358 | 224=>359 | 225=>360 | 217=>261 | 266=>295 | n=>n,fun | 9=>9 | 4=>4 | 3=>3 | 5=>5 | 117=>245 | 116=>244 | 0=>0 | 124=>248 | 21=>21 | 105=>222 | 46=>238 | 119=>234 | 139=>237 | 138=>236 | n=>n,fun | 3=>0 | 4=>1 | n=>n⟩
theorem J1h:Go.Proofs.Lays.n160 Tryz.prog Tryz_lays160_renX:={
 mixed:=by kernel_rfl
 f119:=Tryz.func358.trans (congrArg some (by kernel_rfl))
 f120:=Tryz.func343.trans (congrArg some (by kernel_rfl))
 f137:=Tryz.func215.trans (congrArg some (by kernel_rfl))
 f151:=Tryz.func309.trans (congrArg some (by kernel_rfl))
 f152:=Tryz.func342.trans (congrArg some (by kernel_rfl))
 f160:=Tryz.func321.trans (congrArg some (by kernel_rfl))
 f197:=Tryz.func253.trans (congrArg some (by kernel_rfl))
 f217:=Tryz.func261.trans (congrArg some (by kernel_rfl))
 f224:=Tryz.func359.trans (congrArg some (by kernel_rfl))
 f225:=Tryz.func360.trans (congrArg some (by kernel_rfl))
 f227:=Tryz.func272.trans (congrArg some (by kernel_rfl))
 f228:=Tryz.func308.trans (congrArg some (by kernel_rfl))
 f231:=Tryz.func271.trans (congrArg some (by kernel_rfl))
 f232:=Tryz.func275.trans (congrArg some (by kernel_rfl))
 f233:=Tryz.func273.trans (congrArg some (by kernel_rfl))
 f234:=Tryz.func276.trans (congrArg some (by kernel_rfl))
 f235:=Tryz.func274.trans (congrArg some (by kernel_rfl))
 f236:=Tryz.func277.trans (congrArg some (by kernel_rfl))
 f260:=Tryz.func290.trans (congrArg some (by kernel_rfl))
 f266:=Tryz.func295.trans (congrArg some (by kernel_rfl))
 f271:=Tryz.func310.trans (congrArg some (by kernel_rfl))
 t0:=Tryz.underlying0
 a0:=Tryz.isAgg0
 z0:=Tryz.sizeOf0
 v0:=Tryz.zeroValue0
 t3:=Tryz.underlying3
 a3:=Tryz.isAgg3
 z3:=Tryz.sizeOf3
 v3:=Tryz.zeroValue3
 t4:=Tryz.underlying4
 a4:=Tryz.isAgg4
 z4:=Tryz.sizeOf4
 v4:=Tryz.zeroValue4
 t5:=Tryz.underlying5
 a5:=Tryz.isAgg5
 z5:=Tryz.sizeOf5
 v5:=Tryz.zeroValue5
 t9:=Tryz.underlying9
 a9:=Tryz.isAgg9
 z9:=Tryz.sizeOf9
 v9:=Tryz.zeroValue9
 t21:=Tryz.underlying21
 a21:=Tryz.isAgg21
 z21:=Tryz.sizeOf21
 v21:=Tryz.zeroValue21
 t46:=Tryz.underlying238
 a46:=Tryz.isAgg238
 z46:=Tryz.sizeOf238
 v46:=Tryz.zeroValue238
 t105:=Tryz.underlying222
 a105:=Tryz.isAgg222
 z105:=Tryz.sizeOf222
 v105:=Tryz.zeroValue222
 t116:=Tryz.underlying244
 a116:=Tryz.isAgg244
 z116:=Tryz.sizeOf244
 t117:=Tryz.underlying245
 a117:=Tryz.isAgg245
 z117:=Tryz.sizeOf245
 v117:=Tryz.zeroValue245
 t119:=Tryz.underlying234
 a119:=Tryz.isAgg234
 z119:=Tryz.sizeOf234
 t124:=Tryz.underlying248
 a124:=Tryz.isAgg248
 z124:=Tryz.sizeOf248
 v124:=Tryz.zeroValue248
 t138:=Tryz.underlying236
 a138:=Tryz.isAgg236
 z138:=Tryz.sizeOf236
 v138:=Tryz.zeroValue236
 t139:=Tryz.underlying237
 a139:=Tryz.isAgg237
 z139:=Tryz.sizeOf237
 v139:=Tryz.zeroValue237
 g3:=by kernel_rfl
 g4:=by kernel_rfl }
open Go.RowKit in
theorem Tryz.strings_Trim_one (s:ByteArray) (c:UInt8) (hc:c.toNat<128) (w:World) (hs:s.size≤9223372036854775807) :
  Calls Tryz.prog 321 #[.string s,.string ⟨#[c]⟩] w fun e w'=>e=.returned (.string ⟨(Lib.trimB s.data.toList c).toArray⟩)∧(w'=w∨w'=w.drew):=Any.strings_Trim_one J1h s c hc w hs
def Tryz_lays237_renX:Go.Shelf.Ren:=⟨fun | 237=>269 | 272=>307 | 238=>306 | 315=>341 | 273=>340 | 197=>253 | 271=>310 | 260=>290 | 120=>343 | n=>n,fun | 9=>9 | 40=>241 | 4=>4 | 3=>3 | 105=>222 | 21=>21 | 0=>0 | 5=>5 | 119=>234 | 46=>238 | 139=>237 | 138=>236 | n=>n,fun | 3=>0 | 4=>1 | n=>n⟩
theorem J1a:Go.Proofs.Lays.n237 Tryz.prog Tryz_lays237_renX:={
 mixed:=by kernel_rfl
 f120:=Tryz.func343.trans (congrArg some (by kernel_rfl))
 f197:=Tryz.func253.trans (congrArg some (by kernel_rfl))
 f237:=Tryz.func269.trans (congrArg some (by kernel_rfl))
 f238:=Tryz.func306.trans (congrArg some (by kernel_rfl))
 f260:=Tryz.func290.trans (congrArg some (by kernel_rfl))
 f271:=Tryz.func310.trans (congrArg some (by kernel_rfl))
 f272:=Tryz.func307.trans (congrArg some (by kernel_rfl))
 f273:=Tryz.func340.trans (congrArg some (by kernel_rfl))
 f315:=Tryz.func341.trans (congrArg some (by kernel_rfl))
 t0:=Tryz.underlying0
 a0:=Tryz.isAgg0
 z0:=Tryz.sizeOf0
 v0:=Tryz.zeroValue0
 t3:=Tryz.underlying3
 a3:=Tryz.isAgg3
 z3:=Tryz.sizeOf3
 v3:=Tryz.zeroValue3
 t4:=Tryz.underlying4
 a4:=Tryz.isAgg4
 z4:=Tryz.sizeOf4
 v4:=Tryz.zeroValue4
 t5:=Tryz.underlying5
 a5:=Tryz.isAgg5
 z5:=Tryz.sizeOf5
 v5:=Tryz.zeroValue5
 t9:=Tryz.underlying9
 a9:=Tryz.isAgg9
 z9:=Tryz.sizeOf9
 v9:=Tryz.zeroValue9
 t21:=Tryz.underlying21
 a21:=Tryz.isAgg21
 z21:=Tryz.sizeOf21
 v21:=Tryz.zeroValue21
 t40:=Tryz.underlying241
 a40:=Tryz.isAgg241
 z40:=Tryz.sizeOf241
 v40:=Tryz.zeroValue241
 t46:=Tryz.underlying238
 a46:=Tryz.isAgg238
 z46:=Tryz.sizeOf238
 v46:=Tryz.zeroValue238
 t105:=Tryz.underlying222
 a105:=Tryz.isAgg222
 z105:=Tryz.sizeOf222
 v105:=Tryz.zeroValue222
 t119:=Tryz.underlying234
 a119:=Tryz.isAgg234
 z119:=Tryz.sizeOf234
 t138:=Tryz.underlying236
 a138:=Tryz.isAgg236
 z138:=Tryz.sizeOf236
 v138:=Tryz.zeroValue236
 t139:=Tryz.underlying237
 a139:=Tryz.isAgg237
 z139:=Tryz.sizeOf237
 v139:=Tryz.zeroValue237
 g3:=by kernel_rfl
 g4:=by kernel_rfl }
open Go.RowKit Go.Lib in
theorem Tryz.strings_TrimFunc_grows (g:Nat) (lb:Array Value) (eg:∀ args w,(callFunc g args).run Tryz.prog w=.ok (.enter g args) w) (p:Nat→Bool) (s:ByteArray) (w:World) (hs:s.size≤9223372036854775807) (hT:Lib.Utf8Tabs 0 1 w) (hp:PredGrows Tryz.prog g lb p w) :
  Calls Tryz.prog 269 #[.string s,.func (.func g) #[] lb] w fun e w'=>e=.returned (.string (Lib.trimF p s))∧Below w.heap.size w w':=Any.strings_TrimFunc_grows J1a g lb eg p s w hs hT hp
end Go.Proofs
set_option maxRecDepth 100000
set_option maxHeartbeats 2000000
namespace Go.LX
open Go Go.RowKit Go.Proofs
attribute [local irreducible] Al SWP Bi
theorem J8k (m e:Int) (hm1:0≤m) (hm2:m≤1000000):Det cx 226 [.p (.int .i64 m),.p (.int .i64 e)] [] (.p (.bool (Jy3 m e))) []:=by
 (refine bgo Tryz.func226 ?_;simp only [go_sem,simprocAttr])
 (repeat' (first | (split) | fail)) <;> simp (disch:=omega) [Jy3,Aa, *] <;> omega
theorem J4f (c:Nat):Det cx 270 [.p (.int .i32 c)] [] (.p (.bool (decide (48≤c) && decide (c≤57)))) []:=by
 (refine bgo Tryz.func270 ?_;simp only [go_sem,simprocAttr])
 (repeat' (first | (split) | fail)) <;> (rw [Bool.eq_iff_iff];first | omega | (simp [-List.length_eq_zero_iff,Ac, *];done)|(simp [-List.length_eq_zero_iff,Ac, *];omega))
theorem J8o (s:List UInt8) (hs:s.length≤9223372036854775807):Det cx 240 [.p (.str s)] [] (.p (.bool (Jqp s))) []:=Jj5 s hs
theorem J4t (a:Int):Det cx 235 [.p (.int .i64 a)] [] (.p (.bool false)) []:=by
 (refine bgo Tryz.func235 ?_;simp only [go_sem,simprocAttr])
theorem J5b (a:List UInt8):Det cx 237 [.p (.str a)] [] (.p (.bool false)) []:=by
 (refine bgo Tryz.func237 ?_;simp only [go_sem,simprocAttr])
theorem Jwa (a b:Int):Det cx 183 [.p (.int .i64 a),.p (.int .i64 b)] [] (.p (.int .i64 (cmpI a b))) []:=by
 (refine bgo Tryz.func183 ?_;simp only [go_sem,simprocAttr]);(repeat' (first | (apply iteI <;> intro h)|((refine Jqa (J4t _) ?_);simp only [go_sem,simprocAttr]) | fail))
 all_goals simp [cmpI, *]
theorem J6j (a b:List UInt8):Det cx 185 [.p (.str a),.p (.str b)] [] (.p (.int .i64 (cmpS a b))) []:=by
 (refine bgo Tryz.func185 ?_;simp only [go_sem,simprocAttr]);(repeat' (first | (apply iteI <;> intro h)|((refine Jqa (J5b _) ?_);simp only [go_sem,simprocAttr]) | fail))
 all_goals simp_all [cmpS]
theorem nm_eta (x:ByteArray):(⟨⟨x.data.toList⟩⟩:ByteArray)=x:=by rcases x with ⟨⟨l⟩⟩;rfl
theorem J6k (s:List UInt8) (hs:s.length≤9223372036854775807):Det cx 269 [.p (.str s),.fn 270 []] [] (.p (.str (Lib.trimF figR ⟨⟨s⟩⟩).data.toList)) []:=by
 have he:Enters cx.P 270:=enters_of Tryz.func270 krf rfl;refine Jrl (v:=.string (Lib.trimF figR ⟨⟨s⟩⟩)) (enters_of Tryz.func269 krf rfl) rfl (fun β w Im=>?_) fun β Im w vs hg hf=>?_
 ·have:=PRep.str (w:=w) (Im:=Im) (Lib.trimF figR ⟨⟨s⟩⟩).data.toList;rw [nm_eta] at this;exact this
 ·obtain ⟨v,u,rfl,h1,h2⟩:=fit2 hf;cases Ks h1;cases rep_fn0 h2;refine Tryz.strings_TrimFunc_grows 270 #[] he figR ⟨⟨s⟩⟩ w hs (Jbj hg).tabs fun W x hx hb=>?_
  have hi:∀ b,Im b→b<W.heap.size:=fun b hb'=>Nat.lt_of_lt_of_le (hf.im b hb') hb.size
  exact (J4f x).calls_below (w:=W) (Im:=Im) (cx.mono ⟨fun _ h=>h,fun b hb'=>hb.block b (hf.im b hb')⟩ hg) hi (vs:=[.int .i32 x]) rfl
   (fun i v a hv ha=>by cases i with | zero=>simp at hv ha;subst hv;subst ha;exact PRep.int _ _ | succ i=>simp at hv) (fun β w' Im' u hu=>Na hu)
theorem J4e (s:List UInt8) (hs:s.length≤9223372036854775807):Det cx 223 [.p (.str s)] [] (.p (.bool (Jqp s))) []:=by
 (refine bgo Tryz.func223 ?_;simp only [go_sem,simprocAttr]);(repeat' (first | ((refine Jqa (J6k s hs) ?_);simp only [go_sem,simprocAttr]) | fail));exact J08 ⟨⟨s⟩⟩
theorem d_Trim (s:List UInt8) (hs:s.length≤9223372036854775807):Det cx 321 [.p (.str s),.p (.str [48])] [] (.p (.str (Jqy (Jr9 s)))) []:=by
 refine Jrl (v:=.string ⟨⟨Jqy (Jr9 s)⟩⟩) (enters_of Tryz.func321 krf rfl) rfl (fun β w Im=>PRep.str _) fun β Im w vs hg hf=>?_
 obtain ⟨v,u,rfl,h1,h2⟩:=fit2 hf;cases Ks h1;cases Ks h2;refine (Tryz.strings_Trim_one ⟨⟨s⟩⟩ 48 de w hs).mono fun e w' ⟨h,hw⟩=>⟨h,?_⟩
 rcases hw with rfl | rfl
 ·exact Below.refl _ _
 ·exact (Below.refl _ _).drew
theorem J7p (neg:Bool) (s:List UInt8) (e:Int) (hs:s.length≤1000000) :
  Det cx 320 [.p (.bool neg),.p (.str s),.p (.int .i64 e)] [] (.tup [.agg (make neg s e).1.pv,.int .i64 (make neg s e).2]) []:=by
 (refine bgo Tryz.func320 ?_;simp only [go_sem,simprocAttr]);(repeat' (first | (apply iteI <;> intro h)|((refine Jqa (J8o _ omg) ?_);simp only [go_sem,simprocAttr]) | fail))
 ·simp [make, *,Jth,Js3]
 refine Jze (fun u:List UInt8=>⟨Ba 64 [(0,.p (.bool neg)),(1,.p (.str u)),(2,.p (.int .i64 e)),(6,.ptr 6 0 0)],[(6,.var 29 [.junk,.junk,.junk,.junk,.junk,.junk])]⟩)
  (fun u=>Jqy u=Jqy s∧u.length≤s.length) (fun u=>u.length) s 0
  (fun u:List UInt8=>⟨Ba 64 [(0,.p (.bool neg)),(1,.p (.str u)),(2,.p (.int .i64 e)),(6,.ptr 6 0 0)],[(6,.var 29 [.junk,.junk,.junk,.junk,.junk,.junk])]⟩)
  (fun u=>u=Jqy s) Jqb ⟨rfl,by omega⟩ ?_ ?_
 ·rintro u ⟨h1,h2⟩;(refine lws ?_;simp only [go_sem,simprocAttr]);(repeat' (first | (apply iteI <;> intro h)|(refine Jqe ?_) | fail))
  ·exact ⟨u.drop 1,⟨(J4p omg omg).trans h1,by simp;omega⟩,by simp;omega,Jqb⟩
  ·exact ⟨u,by rw [← h1,Jyl omg],Jqb⟩
  ·exact ⟨u,by rw [← h1,J3v omg],Jqb⟩
 ·rintro u rfl;have hl:(Jqy s).length≤s.length:=Jz0 s;simp only [go_sem,simprocAttr];(repeat' (apply iteI <;> intro h))
  ·simp [make, *,Jth,Js3]
  ·simp [make, *,Jth,Js3]
  ·simp [make, *,Jth,Js3]
  have hd:=Jyn s omg;have hp:=J0z _ _ rfl omg hd;have hr:=Jzv (Jqy s);refine Jze (fun u:List UInt8=>⟨Ba 64 [(0,.p (.bool neg)),(1,.p (.str u)),(2,.p (.int .i64 (e+((Jqy s).length - u.length)))),(6,.ptr 6 0 0)],[(6,.var 29 [.junk,.junk,.junk,.junk,.junk,.junk])]⟩)
   (fun u=>Jr9 u=Jr9 (Jqy s)∧u.length≤(Jqy s).length∧0<u.length∧at_ u 0≠48) (fun u=>u.length) (Jqy s) 2
   (fun u:List UInt8=>⟨Ba 64 [(0,.p (.bool neg)),(1,.p (.str u)),(2,.p (.int .i64 (e+((Jqy s).length - u.length)))),(6,.ptr 6 0 0)],[(6,.var 29 [.junk,.junk,.junk,.junk,.junk,.junk])]⟩)
   (fun u=>u=Jr9 (Jqy s)) Jqb ⟨rfl,by omega,by omega,hd⟩ ?_ ?_
  ·rintro u ⟨h1,h2,h3,h4⟩;(refine lws ?_;simp only [go_sem,simprocAttr]);(repeat' (first | (apply iteI <;> intro h)|(refine Jqe ?_) | fail))
   all_goals (try simp (disch:=omega) only [Aa,Qs,Ab,Jlh,Mf,Ja0,Jcc,Ja7,Jak] at *)
   ·exact ⟨u.take (u.length - 1),⟨(Ju4 h3 omg).trans h1,by simp;omega,by
     have:u.length≠1:=by intro h;simp [h] at *;omega
     simp;omega,by rw [J16 (by have:u.length≠1:=(by intro h;simp [h] at *;omega);omega)];exact h4⟩,by simp;omega,Jqb⟩
   ·exact ⟨u,by rw [← h1,Jt6 h3 omg],Jqb⟩
  ·rintro u rfl;simp only [go_sem,simprocAttr];(repeat' (apply iteI <;> intro h))
   all_goals (try simp (disch:=omega) only [Aa,Qs,Ab,Jlh,Mf,Ja0,Jcc,Ja7,Jak] at *)
   all_goals simp [make, *,Jth,Js3]
theorem J5t (n:Node) (hs:n.s.length≤1000000):Det cx 288 [.p (.agg n.pv)] [] (.p (.bool (Jrk n))) []:=by
 (refine bgo Tryz.func288 ?_;simp only [go_sem,simprocAttr,Js3]);(repeat' (first | (apply iteI <;> intro h)|((first | (refine Jqk ?_)|(refine Jqa (J4e _ omg) ?_)|(refine Jqa (J8k _ _ omg omg) ?_)|(refine Jqd (d_Trim _ omg) ?_));simp only [go_sem,simprocAttr]) | fail))
 all_goals (try simp (disch:=omega) only [Aa,Qs,Ab,Jlh,Mf,Ja0,Jcc,Ja7,Jak] at *)
 ·simp [-List.length_eq_zero_iff,Ac,Jrk, *]
 ·simp [-List.length_eq_zero_iff,Ac,Jrk, *]
 ·simp [-List.length_eq_zero_iff,Ac,Jrk, *]
 ·simp [-List.length_eq_zero_iff,Ac,Jrk, *]
 ·rw [Jvk] at h;rw [Bool.eq_iff_iff];simp [-List.length_eq_zero_iff,Ac,Jrk]
  intros
  omega
 ·simp [-List.length_eq_zero_iff,Ac,Jrk, *]
 ·rename_i hP _ _;rw [Jvk] at hP;have c1:¬ n.e < -1000:=by omega
  have c2:¬ 1000<n.e:=by omega
  have c3:¬ 1000<(n.s.length:Int)+n.e:=by omega
  simp [-List.length_eq_zero_iff,Ac,Jrk, *]
 ·rename_i hP _ _;rw [Jvk] at hP;have c1:¬ n.e < -1000:=by omega
  have c2:¬ 1000<n.e:=by omega
  have c3:¬ 1000<(n.s.length:Int)+n.e:=by omega
  simp [-List.length_eq_zero_iff,Ac,Jrk, *]
 ·rename_i hP _;rw [Jvk] at hP;have c1:¬ n.e < -1000:=by omega
  have c2:¬ 1000<n.e:=by omega
  have c3:¬ 1000<(n.s.length:Int)+n.e:=by omega
  rw [Bool.eq_iff_iff,beq_iff_eq,trim_eq omg];simp [-List.length_eq_zero_iff,Ac,Jrk, *];omega
end Go.LX
set_option maxRecDepth 100000
set_option maxHeartbeats 2000000
namespace Go.LX
open Go Go.RowKit Go.Proofs
attribute [local irreducible] Al SWP Bi
theorem d_size (a b:Node) (ha:a.small) (hb:b.small):Det cx 236 [.p (.agg a.pv),.p (.agg b.pv)] [] (.p (.int .i64 (Jvj a b))) []:=by
 obtain ⟨a1,a2,a3⟩:=ha;obtain ⟨b1,b2,b3⟩:=hb;(refine bgo Tryz.func236 ?_;simp only [go_sem,simprocAttr,Js3]);simp (disch:=omega) only [Aa];(repeat' (first | (apply iteI <;> intro h)|((first | (refine Jqa (Jwa _ _) ?_)|(refine Jqa (J6j _ _) ?_));simp only [go_sem,simprocAttr]) | fail))
 all_goals simp_all [Jvj]
theorem J9o (a b:Node) (ha:a.small) (hb:b.small):Det cx 184 [.p (.agg a.pv),.p (.agg b.pv)] [] (.p (.int .i64 (Juo a b))) []:=by
 (refine bgo Tryz.func184 ?_;simp only [go_sem,simprocAttr,Js3]);(repeat' (first | (apply iteI <;> intro h)|((first | (refine Jqa (d_size a b ha hb) ?_)|(refine Jqa (d_size b a hb ha) ?_));simp only [go_sem,simprocAttr]) | fail))
 all_goals simp_all [Juo]
theorem Jyz (n:Node) (p:Int) (hn:n.small) (h1:-10000000≤p) (h2:p≤10000000):Det cx 238 [.p (.agg n.pv),.p (.int .i64 p)] [] (.p (.int .i64 (Jsj n p))) []:=by
 obtain ⟨a1,a2,a3⟩:=hn;(refine bgo Tryz.func238 ?_;simp only [go_sem,simprocAttr,Js3]);simp (disch:=omega) only [Aa];(repeat' (first | (apply iteI <;> intro h)|(refine Jqe ?_) | fail))
 all_goals (try simp only [Be] at *)
 all_goals (try rw [Aa omg omg])
 all_goals simp [Jsj, *]
theorem d_refCmp (a b:Node) (ha:a.small) (hb:b.small):Det cx 189 [.p (.agg a.pv),.p (.agg b.pv)] [] (.p (.int .i64 (Jtf a b))) []:=by
 obtain ⟨a1,a2,a3⟩:=ha;obtain ⟨b1,b2,b3⟩:=hb;(refine bgo Tryz.func189 ?_;simp only [go_sem,simprocAttr,Js3]);simp (disch:=omega) only [Aa];(repeat' (apply iteI <;> intro h))
 ·simp_all [Jtf]
 ·refine SWP.loop (fun p:Int=>⟨Ba 56 [(2,.ptr 2 0 0),(3,.ptr 3 0 0),(5,.p (.int .i64 (-1))),(7,.p (.int .i64 p))],[(2,.var 29 (a.pv.map .p)),(3,.var 29 (b.pv.map .p))]⟩)
   (fun p=>min a.e b.e - 1≤p∧p≤max ((a.s.length:Int)+a.e) (b.s.length+b.e)∧Jtf a b=Jsv (Jsj a) (Jsj b) (if a.neg=true then -1 else 1) (p - min a.e b.e+1).toNat p)
   (fun p=>(p - min a.e b.e+1).toNat) (max ((a.s.length:Int)+a.e) (b.s.length+b.e)) (Jqw (by simp only [Ap,Ar,Ao,Aj,Af,Nat.reduceEqDiff,reduceIte,Nat.reduceLT,Nat.reduceLeDiff];simp [Ai,Au]) (by simp [Az,A3,Aw,Am,Ai,Js3]) (by simp [Ay])) ⟨by omega,by omega,by simp_all [Jtf]⟩ ?_
  rintro p ⟨g1,g2,g3⟩;have key:min a.e b.e≤p→Jtf a b=if Jsj a p<Jsj b p then -(if a.neg=true then -1 else 1) else if Jsj b p<Jsj a p then (if a.neg=true then -1 else 1) else Jsv (Jsj a) (Jsj b) (if a.neg=true then -1 else 1) (p - 1 - min a.e b.e+1).toNat (p - 1):=by
   intro h;rw [g3,show (p - min a.e b.e+1).toNat=(p - 1 - min a.e b.e+1).toNat+1 by omega,Jsv]
  (refine lws ?_;simp only [go_sem,simprocAttr,Js3]);(repeat' (first | (apply iteI <;> intro h)|((first | (refine Jqk ?_)|(refine Jqd (Jyz a p ⟨a1,a2,a3⟩ omg omg) ?_)|(refine Jqd (Jyz b p ⟨b1,b2,b3⟩ omg omg) ?_));simp only [go_sem,simprocAttr]) | fail))
  all_goals (try simp (disch:=omega) only [Aa,Qs,Ab,Jlh,Mf,Ja0,Jcc,Ja7,Jak] at *)
  ·(have hk:=key (by assumption);clear key g3;rw [hk];clear hk;simp_all <;> omega)
  ·(have hk:=key (by assumption);clear key g3;rw [hk];clear hk;simp_all <;> omega)
  ·exact ⟨p - 1,⟨by omega,by omega,by (have hk:=key (by assumption);clear key g3;rw [hk];clear hk;simp_all <;> omega)⟩,by omega,(Jqw (by simp only [Ap,Ar,Ao,Aj,Af,Nat.reduceEqDiff,reduceIte,Nat.reduceLT,Nat.reduceLeDiff];simp [Ai,Au]) (by simp [Az,A3,Aw,Am,Ai,Js3]) (by simp [Ay]))⟩
  ·rw [g3,show (p - min a.e b.e+1).toNat=0 by omega];rfl
 ·simp_all [Jtf]
 ·refine SWP.loop (fun p:Int=>⟨Ba 56 [(2,.ptr 2 0 0),(3,.ptr 3 0 0),(5,.p (.int .i64 1)),(7,.p (.int .i64 p))],[(2,.var 29 (a.pv.map .p)),(3,.var 29 (b.pv.map .p))]⟩)
   (fun p=>min a.e b.e - 1≤p∧p≤max ((a.s.length:Int)+a.e) (b.s.length+b.e)∧Jtf a b=Jsv (Jsj a) (Jsj b) (if a.neg=true then -1 else 1) (p - min a.e b.e+1).toNat p)
   (fun p=>(p - min a.e b.e+1).toNat) (max ((a.s.length:Int)+a.e) (b.s.length+b.e)) (Jqw (by simp only [Ap,Ar,Ao,Aj,Af,Nat.reduceEqDiff,reduceIte,Nat.reduceLT,Nat.reduceLeDiff];simp [Ai,Au]) (by simp [Az,A3,Aw,Am,Ai,Js3]) (by simp [Ay])) ⟨by omega,by omega,by simp_all [Jtf]⟩ ?_
  rintro p ⟨g1,g2,g3⟩;have key:min a.e b.e≤p→Jtf a b=if Jsj a p<Jsj b p then -(if a.neg=true then -1 else 1) else if Jsj b p<Jsj a p then (if a.neg=true then -1 else 1) else Jsv (Jsj a) (Jsj b) (if a.neg=true then -1 else 1) (p - 1 - min a.e b.e+1).toNat (p - 1):=by
   intro h;rw [g3,show (p - min a.e b.e+1).toNat=(p - 1 - min a.e b.e+1).toNat+1 by omega,Jsv]
  (refine lws ?_;simp only [go_sem,simprocAttr,Js3]);(repeat' (first | (apply iteI <;> intro h)|((first | (refine Jqk ?_)|(refine Jqd (Jyz a p ⟨a1,a2,a3⟩ omg omg) ?_)|(refine Jqd (Jyz b p ⟨b1,b2,b3⟩ omg omg) ?_));simp only [go_sem,simprocAttr]) | fail))
  all_goals (try simp (disch:=omega) only [Aa,Qs,Ab,Jlh,Mf,Ja0,Jcc,Ja7,Jak] at *)
  ·(have hk:=key (by assumption);clear key g3;rw [hk];clear hk;simp_all <;> omega)
  ·(have hk:=key (by assumption);clear key g3;rw [hk];clear hk;simp_all <;> omega)
  ·exact ⟨p - 1,⟨by omega,by omega,by (have hk:=key (by assumption);clear key g3;rw [hk];clear hk;simp_all <;> omega)⟩,by omega,(Jqw (by simp only [Ap,Ar,Ao,Aj,Af,Nat.reduceEqDiff,reduceIte,Nat.reduceLT,Nat.reduceLeDiff];simp [Ai,Au]) (by simp [Az,A3,Aw,Am,Ai,Js3]) (by simp [Ay]))⟩
  ·rw [g3,show (p - min a.e b.e+1).toNat=0 by omega];rfl
end Go.LX
namespace Go.LX
open Go Go.Proofs
def dig (s:List UInt8):Nat:=s.foldl (fun n c=>n * 10+(c.toNat - 48)) 0
def digF (n:Nat) (s:List UInt8):Nat:=s.foldl (fun n c=>n * 10+(c.toNat - 48)) n
theorem Jy4:∀ (s:List UInt8) (n:Nat),digF n s=n * 10 ^ s.length+dig s
 | [],n=>by simp [digF,dig]
 | c :: s,n=>by
  have h1:=Jy4 s (n * 10+(c.toNat - 48));have h2:=Jy4 s (0 * 10+(c.toNat - 48));have e:dig (c :: s)=digF (0 * 10+(c.toNat - 48)) s:=rfl;have e':digF n (c :: s)=digF (n * 10+(c.toNat - 48)) s:=rfl;rw [e,e',h1,h2,List.length_cons,Nat.pow_succ];have:(n * 10+(c.toNat - 48)) * 10 ^ s.length=n * (10 ^ s.length * 10)+(c.toNat - 48) * 10 ^ s.length:=by
   rw [Nat.add_mul,Nat.mul_assoc,Nat.mul_comm 10]
  rw [this];simp;omega
theorem Juf (c:UInt8) (s:List UInt8):dig (c :: s)=(c.toNat - 48) * 10 ^ s.length+dig s:=by
 have e:dig (c :: s)=digF (0 * 10+(c.toNat - 48)) s:=rfl;rw [e,Jy4];simp
theorem Jwl (s t:List UInt8):dig (s ++ t)=dig s * 10 ^ t.length+dig t:=by
 have:dig (s ++ t)=digF (dig s) t:=by simp [dig,digF,List.foldl_append]
 rw [this,Jy4]
theorem Jsg {c:UInt8} {s:List UInt8}:Jqp (c :: s)=true ↔ (48≤c.toNat∧c.toNat≤57)∧Jqp s=true:=by
 simp [Jqp,J5i]
theorem Jr8 {s t:List UInt8}:Jqp (s ++ t)=true ↔ Jqp s=true∧Jqp t=true:=by
 simp [Jqp,List.all_append]
theorem Jwb:∀ {s:List UInt8},Jqp s=true→dig s<10 ^ s.length
 | [],_=>by simp [dig]
 | c :: s,h=>by
  rw [Jsg] at h;have:=Jwb h.2;rw [Juf,List.length_cons,Nat.pow_succ];have h9:(c.toNat - 48)≤9:=by omega
  have:=Nat.mul_le_mul_right (10 ^ s.length) h9;omega
theorem dig_ge {c:UInt8} {s:List UInt8} (h:Jqp (c :: s)=true) (hc:c.toNat≠48):10 ^ s.length≤dig (c :: s):=by
 rw [Jsg] at h;rw [Juf];have:1≤c.toNat - 48:=by omega
 have:=Nat.mul_le_mul_right (10 ^ s.length) this;omega
theorem J45 {s:List UInt8} (h0:0<s.length) (hf:Jqp s=true) (hl:at_ s (s.length - 1)≠48):0<dig s∧dig s % 10≠0:=by
 obtain ⟨l,c,rfl⟩:=J2y h0;rw [Jr8] at hf;have hc:=(Jsg.1 hf.2).1;have e:(l ++ [c]).length - 1=l.length:=by simp
 rw [e,J22] at hl;rw [Jwl];have:dig [c]=c.toNat - 48:=by simp [dig]
 rw [this];simp only [List.length_cons,List.length_nil,Nat.zero_add,Nat.pow_one];omega
structure RightN (n:Node):Prop where
 kind:n.kind=3
 many:n.many=0
 name:n.name=[]
 figs:Jqp n.s=true
 len:n.s.length≤100
 e1:-1000≤n.e
 e2:n.e≤1000
 top:(n.s.length:Int)+n.e≤1000
 zero:n.s.length=0→n.neg=false∧n.e=0
 head:0<n.s.length→at_ n.s 0≠48
 last:0<n.s.length→at_ n.s (n.s.length - 1)≠48
theorem J56 (n:Node):Jrk n=true ↔ RightN n:=by
 constructor
 ·intro h;unfold Jrk at h;split at h
  ·cases h
  split at h
  ·cases h
  split at h
  ·cases h
  split at h
  ·cases h
  split at h
  ·cases h
  split at h
  ·cases h
  split at h
  ·cases h
  split at h
  ·cases h
  rename_i h1 h2 h3 h4 h5 h6 h7 h8;have hn:n.name=[]:=List.eq_nil_of_length_eq_zero omg;have hf:Jqp n.s=true:=by simpa using h4
  split at h
  ·split at h
   ·exact ⟨by omega,by omega,hn,hf,by omega,by omega,by omega,by omega,fun _=>⟨by assumption,by simpa using h⟩,fun h=>by omega,fun h=>by omega⟩
   ·cases h
  ·split at h
   ·exact ⟨by omega,by omega,hn,hf,by omega,by omega,by omega,by omega,fun h=>by omega,fun _=>by omega,fun _ hh=>by simp [hh] at h⟩
   ·cases h
 ·intro h;obtain ⟨g1,g2,g3,g4,g5,g6,g7,g8,g9,g10,g11⟩:=h;unfold Jrk;rw [if_neg omg,if_neg omg,if_neg (by simp [g3]),if_neg (by simp [g4]),if_neg omg,if_neg omg,if_neg omg,if_neg omg];split
  ·rename_i h0;obtain ⟨k1,k2⟩:=g9 h0;rw [if_pos k1];simp [k2]
  ·rename_i h0;have k1:=g10 omg;have k2:=g11 omg;rw [if_pos omg];simp;omega
theorem RightN.small {n:Node} (h:RightN n):n.small:=⟨by have:=h.len;omega,by have:=h.e1;omega,by have:=h.e2;omega⟩
def mag (n:Node):Nat:=dig n.s * 10 ^ (n.e+1000).toNat
def sv (n:Node):Int:=if n.neg=true then -(mag n:Int) else mag n
theorem Jx3 {n:Node} (h:RightN n):mag n<10 ^ (n.s.length+n.e+1000).toNat:=by
 have e:(n.s.length+n.e+1000).toNat=n.s.length+(n.e+1000).toNat:=by have:=h.e1;omega
 rw [e,Nat.pow_add];exact Nat.mul_lt_mul_of_pos_right (Jwb h.figs) (Nat.pow_pos de)
theorem Jzo {n:Node} (h:RightN n) (h0:0<n.s.length):10 ^ (n.s.length+n.e+999).toNat≤mag n:=by
 have e:(n.s.length+n.e+999).toNat=(n.s.length - 1)+(n.e+1000).toNat:=by have:=h.e1;omega
 rw [e,Nat.pow_add];refine Nat.mul_le_mul_right _ ?_;have hh:=h.head h0;have hf:=h.figs;cases hs:n.s with
 | nil=>rw [hs] at h0;simp at h0
 | cons c s =>
  rw [hs] at hh hf;rw [Jy0] at hh;simpa using dig_ge hf hh
theorem Js7 {n:Node} (h:RightN n) (h0:0<n.s.length):0<mag n:=Nat.lt_of_lt_of_le (Nat.pow_pos de) (Jzo h h0)
theorem Jvc {n:Node} (h0:n.s.length=0):mag n=0:=by
 have:n.s=[]:=List.eq_nil_of_length_eq_zero h0;simp [mag,this,dig]
theorem J4h:∀ (M:Nat) (x y:List UInt8),Jqp x=true→Jqp y=true→x.length≤M→y.length≤M→(0<y.length→at_ y (y.length - 1)≠48)→Op.bytesLess x y=true→dig x * 10 ^ (M - x.length)<dig y * 10 ^ (M - y.length)
 | M,x,[],_,_,_,_,_,h=>by cases x <;> simp [Op.bytesLess] at h
 | M,[],d :: y,_,hy,_,_,hl,_=>by
  have:=(J45 sm hy (hl sm)).1;simp only [dig,List.foldl_nil,Nat.zero_mul];exact Nat.mul_pos this (Nat.pow_pos de)
 | M,c :: x,d :: y,hx,hy,h1,h2,hl,h=>by
  rw [Jsg] at hx hy;simp only [List.length_cons] at h1 h2;obtain ⟨m,rfl⟩:∃ m,M=m+1:=⟨M - 1,by omega⟩
  rw [Juf,Juf,List.length_cons,List.length_cons,Nat.add_sub_add_right,Nat.add_sub_add_right,Nat.add_mul,Nat.add_mul,Nat.mul_assoc,Nat.mul_assoc,← Nat.pow_add,← Nat.pow_add,
   show x.length+(m - x.length)=m by omega,show y.length+(m - y.length)=m by omega]
  simp only [Op.bytesLess,Bool.or_eq_true,decide_eq_true_eq,Bool.and_eq_true,beq_iff_eq] at h;have bx:dig x * 10 ^ (m - x.length)<10 ^ m:=by
   have:=Nat.mul_lt_mul_of_pos_right (Jwb hx.2) (Nat.pow_pos (n:=m - x.length) (show 0<10 by decide))
   rwa [← Nat.pow_add,show x.length+(m - x.length)=m by omega] at this
  rcases h with h | ⟨h,h'⟩
  ·have hcd:c.toNat<d.toNat:=h;have:(c.toNat - 48+1)≤d.toNat - 48:=by omega
   have:=Nat.mul_le_mul_right (10 ^ m) this;rw [Nat.add_mul] at this;omega
  ·subst h;have hl':0<y.length→at_ y (y.length - 1)≠48:=fun hp=>by
    have:=hl sm;cases y with
    | nil=>simp at hp
    | cons a l=>simpa [at_] using this
   have:=J4h m x y hx.2 hy.2 omg omg hl' h';omega
theorem Jyh:∀ (x y:List UInt8),Op.bytesLess x y=true∨x=y∨Op.bytesLess y x=true
 | [],[]=>.inr (.inl rfl)
 | [],_ :: _=>.inl rfl
 | _ :: _,[]=>.inr (.inr rfl)
 | a :: x,b :: y=>by
  simp only [Op.bytesLess,Bool.or_eq_true,decide_eq_true_eq,Bool.and_eq_true,beq_iff_eq,List.cons.injEq];rcases Nat.lt_trichotomy a.toNat b.toNat with h | h | h
  ·exact .inl (.inl h)
  ·have:a=b:=UInt8.toNat_inj.1 h;subst this;rcases Jyh x y with h | h | h
   ·exact .inl (.inr ⟨rfl,h⟩)
   ·exact .inr (.inl ⟨rfl,h⟩)
   ·exact .inr (.inr (.inr ⟨rfl,h⟩))
  ·exact .inr (.inr (.inl h))
theorem Js4:∀ (x:List UInt8),Op.bytesLess x x=false
 | []=>rfl
 | a :: x=>by simp [Op.bytesLess,Js4 x]
theorem J83 (a:Int):cmpI a a=0:=by simp [cmpI]
theorem Jtm {a b:Int} (h:a<b):cmpI a b = -1:=by simp [cmpI,h]
theorem Jtj {a b:Int} (h:b<a):cmpI a b=1:=by simp [cmpI,h];omega
theorem J0e {a b:Node} (ha:RightN a) (hb:RightN b):Jvj a b=cmpI (mag a) (mag b):=by
 unfold Jvj;by_cases a0:a.s.length=0
 ·rw [if_pos a0,Jvc a0];by_cases b0:b.s.length=0
  ·rw [Jvc b0,a0,b0]
  ·have:=Js7 hb omg;rw [Jtm omg,Jtm omg]
 ·rw [if_neg a0];have pa:=Js7 ha omg;by_cases b0:b.s.length=0
  ·rw [if_pos b0,Jvc b0,Jtj omg,Jtj omg]
  ·rw [if_neg b0];have la:=Jx3 ha;have lb:=Jx3 hb;have ga:=Jzo ha omg;have gb:=Jzo hb omg;have ea:=ha.e1;have eb:=hb.e1;rcases Int.lt_trichotomy (a.s.length+a.e) (b.s.length+b.e) with h | h | h
   ·rw [Jtm h,if_pos de];have:10 ^ (a.s.length+a.e+1000).toNat≤10 ^ (b.s.length+b.e+999).toNat:=Nat.pow_le_pow_right de omg;rw [Jtm omg]
   ·rw [h,J83,if_neg de];let M:=max a.s.length b.s.length;let E:=min a.e b.e;have key:∀ {x y:Node},RightN x→RightN y→x.s.length+x.e=y.s.length+y.e→0<y.s.length→Op.bytesLess x.s y.s=true→mag x<mag y:=by
     intro x y hx hy hxy h0 hl;have:=J4h (max x.s.length y.s.length) x.s y.s hx.figs hy.figs omg omg hy.last hl;unfold mag;have e1:=hx.e1;have e2:=hy.e1;have q1:(x.e+1000).toNat=(max x.s.length y.s.length - x.s.length)+(min x.e y.e+1000).toNat:=by omega
     have q2:(y.e+1000).toNat=(max x.s.length y.s.length - y.s.length)+(min x.e y.e+1000).toNat:=by omega
     rw [q1,q2,Nat.pow_add,Nat.pow_add,← Nat.mul_assoc,← Nat.mul_assoc];exact Nat.mul_lt_mul_of_pos_right this (Nat.pow_pos de)
    unfold cmpS;rcases Jyh a.s b.s with g | g | g
    ·rw [if_pos g,Jtm (by have:=key ha hb h omg g;omega)]
    ·have e:a.e=b.e:=by rw [g] at h;omega
     rw [g,Js4];simp [mag,g,e,cmpI]
    ·have n1:Op.bytesLess a.s b.s=false:=by
      cases hh:Op.bytesLess a.s b.s with
      | false=>rfl
      | true =>
       have:=key ha hb h omg hh;have:=key hb ha h.symm omg g;omega
     have n2:(a.s == b.s)=false:=by
      rw [beq_eq_false_iff_ne];intro hh;rw [hh,Js4] at g;cases g
     rw [n1,n2,Jtj (by have:=key hb ha h.symm omg g;omega)];simp
   ·rw [Jtj h,if_pos de];have:10 ^ (b.s.length+b.e+1000).toNat≤10 ^ (a.s.length+a.e+999).toNat:=Nat.pow_le_pow_right de omg;rw [Jtj omg]
theorem RightN.neg_len {n:Node} (h:RightN n) (hn:n.neg=true):0<n.s.length:=by
 by_cases h0:n.s.length=0
 ·rw [(h.zero h0).1] at hn;cases hn
 ·omega
theorem J1x {a b:Node} (ha:RightN a) (hb:RightN b):Juo a b=cmpI (sv a) (sv b):=by
 unfold Juo sv;cases na:a.neg <;> cases nb:b.neg <;> simp only [Bool.false_eq_true,false_and,and_false,and_self,and_true,↓reduceIte,Bool.true_eq_false]
 ·exact J0e ha hb
 ·have:=Js7 hb (hb.neg_len nb);rw [Jtj omg]
 ·have:=Js7 ha (ha.neg_len na);rw [Jtm omg]
 ·rw [J0e hb ha];unfold cmpI;split <;> split <;> (first | rfl | omega | skip)
  all_goals (split <;> first | rfl | omega | skip)
  all_goals (split <;> first | rfl | omega)
theorem J74 {s:List UInt8} (hf:Jqp s=true) (k:Nat):dig s / 10 ^ k % 10=if k<s.length then at_ s (s.length - 1 - k) - 48 else 0:=by
 split
 ·rename_i hk;have h1:s=s.take (s.length - 1 - k) ++ ([s[s.length - 1 - k]] ++ s.drop (s.length - k)):=by
   have e:s.length - k=(s.length - 1 - k)+1:=by omega
   rw [e,List.singleton_append,← List.drop_eq_getElem_cons,List.take_append_drop]
  have hl:(s.drop (s.length - k)).length=k:=by simp;omega
  have hv:Jqp (s.drop (s.length - k))=true:=by
   rw [h1] at hf;exact (Jr8.1 (Jr8.1 hf).2).2
  have hc:48≤s[s.length - 1 - k].toNat∧s[s.length - 1 - k].toNat≤57:=by
   rw [h1] at hf;exact (Jsg.1 (Jr8.1 (Jr8.1 hf).2).1).1
  have hd:=Jwb hv;rw [hl] at hd
  conv=>lhs;rw [h1]
  rw [Jwl,Jwl,List.length_append,hl];have e1:dig [s[s.length - 1 - k]]=s[s.length - 1 - k].toNat - 48:=by simp [dig]
  rw [e1,Ql (show s.length - 1 - k<s.length by omega)];have:dig (s.take (s.length - 1 - k)) * 10 ^ ([s[s.length - 1 - k]].length+k)+((s[s.length - 1 - k].toNat - 48) * 10 ^ k+dig (s.drop (s.length - k)))=(dig (s.take (s.length - 1 - k)) * 10+(s[s.length - 1 - k].toNat - 48)) * 10 ^ k+dig (s.drop (s.length - k)):=by
   simp only [List.length_cons,List.length_nil];rw [Nat.zero_add,Nat.pow_add,Nat.pow_one,Nat.add_mul,Nat.mul_assoc];omega
  rw [this,Nat.add_comm,Nat.add_mul_div_right _ _ (Nat.pow_pos de),Nat.div_eq_of_lt hd];omega
 ·rename_i hk;have:dig s<10 ^ k:=Nat.lt_of_lt_of_le (Jwb hf) (Nat.pow_le_pow_right de omg);rw [Nat.div_eq_of_lt this]
theorem J7s {s:List UInt8} (hf:Jqp s=true) {i:Nat} (h:i<s.length):48≤at_ s i∧at_ s i≤57:=by
 rw [Ql h];simp only [Jqp,List.all_eq_true] at hf;have:=hf _ (List.getElem_mem h);simpa [J5i] using this
theorem J37 {n:Node} (hf:Jqp n.s=true) (he:-1000≤n.e) (k:Nat):Jsj n ((k:Int) - 1000)=((mag n / 10 ^ k % 10:Nat):Int):=by
 unfold Jsj mag;simp only;by_cases hp:(k:Int) - 1000<n.e
 ·have e:(n.e+1000).toNat=((n.e+1000).toNat - k - 1)+1+k:=by omega
  rw [e,Nat.pow_add,← Nat.mul_assoc,Nat.mul_div_cancel _ (Nat.pow_pos de),Nat.pow_succ,← Nat.mul_assoc,Nat.mul_mod_left];by_cases h1:(n.s.length:Int) - 1 - (k - 1000 - n.e)<0
  ·rw [if_pos h1];rfl
  ·rw [if_neg h1,if_pos omg];rfl
 ·have e:k=(n.e+1000).toNat+(k - (n.e+1000).toNat):=by omega
  have e2:dig n.s * 10 ^ (n.e+1000).toNat / 10 ^ k=dig n.s / 10 ^ (k - (n.e+1000).toNat):=by
   conv=>lhs;rw [e,Nat.pow_add,← Nat.div_div_eq_div_mul,Nat.mul_div_cancel _ (Nat.pow_pos de)]
  rw [e2,J74 hf];by_cases h1:k - (n.e+1000).toNat<n.s.length
  ·rw [if_neg omg,if_neg omg,if_pos h1];have e3:((n.s.length:Int) - 1 - (k - 1000 - n.e)).toNat=n.s.length - 1 - (k - (n.e+1000).toNat):=by omega
   rw [e3];have:=J7s hf (show n.s.length - 1 - (k - (n.e+1000).toNat)<n.s.length by omega);omega
  ·rw [if_pos omg,if_neg h1];rfl
def cmp3 (side:Int) (x y:Nat):Int:=if x<y then -side else if y<x then side else 0
theorem Jy7 {f g:Int→Int} {A B:Nat} (side:Int) (hf:∀ k:Nat,f ((k:Int) - 1000)=((A / 10 ^ k % 10:Nat):Int)) (hg:∀ k:Nat,g ((k:Int) - 1000)=((B / 10 ^ k % 10:Nat):Int)) (k:Nat) :
  ∀ m,A / 10 ^ (k+m)=B / 10 ^ (k+m)→Jsv f g side m ((k:Int)+m - 1 - 1000)=cmp3 side (A / 10 ^ k) (B / 10 ^ k)
 | 0,h=>by simp only [Nat.add_zero] at h;simp [Jsv,cmp3,h]
 | m+1,h=>by
  have hp:((k:Int)+(m+1:Nat) - 1 - 1000)=((k+m:Nat):Int) - 1000:=by omega
  have hp2:((k+m:Nat):Int) - 1000 - 1=(k:Int)+m - 1 - 1000:=by omega
  rw [hp,Jsv,hf,hg,hp2];have d1:A / 10 ^ (k+(m+1))=A / 10 ^ (k+m) / 10:=by rw [← Nat.add_assoc,Nat.pow_succ,Nat.div_div_eq_div_mul]
  have d2:B / 10 ^ (k+(m+1))=B / 10 ^ (k+m) / 10:=by rw [← Nat.add_assoc,Nat.pow_succ,Nat.div_div_eq_div_mul]
  rw [d1,d2] at h;have a1:A / 10 ^ (k+m)=A / 10 ^ k / 10 ^ m:=by rw [Nat.pow_add,Nat.div_div_eq_div_mul]
  have a2:B / 10 ^ (k+m)=B / 10 ^ k / 10 ^ m:=by rw [Nat.pow_add,Nat.div_div_eq_div_mul]
  have mono:∀ {x y:Nat},x / 10 ^ m<y / 10 ^ m→x<y:=fun {x y} hh=>by
   apply Classical.byContradiction;intro hc;have:=Nat.div_le_div_right (c:=10 ^ m) (show y≤x by omega);omega
  by_cases c1:A / 10 ^ (k+m) % 10<B / 10 ^ (k+m) % 10
  ·rw [if_pos omg];have:A / 10 ^ k<B / 10 ^ k:=mono omg;simp [cmp3,this]
  ·rw [if_neg omg];by_cases c2:B / 10 ^ (k+m) % 10<A / 10 ^ (k+m) % 10
   ·rw [if_pos omg];have:B / 10 ^ k<A / 10 ^ k:=mono omg;simp only [cmp3];rw [if_neg omg,if_pos this]
   ·rw [if_neg omg];exact Jy7 side hf hg k m omg
theorem J66 {n:Node} {k:Nat} (h:(k:Int)≤n.e+1000):10 ^ k ∣ mag n:=by
 unfold mag;exact Nat.dvd_trans (Nat.pow_dvd_pow 10 (show k≤(n.e+1000).toNat by omega)) (Nat.dvd_mul_left _ _)
theorem J8u {a b:Node} (ha:RightN a) (hb:RightN b):Jtf a b=cmpI (sv a) (sv b):=by
 unfold Jtf;simp only;by_cases hn:a.neg=b.neg
 ·rw [if_neg (by simp [hn])];have e1:=ha.e1;have e2:=hb.e1;generalize hs:(if a.neg=true then (-1:Int) else 1)=side;have ta:=Jx3 ha;have tb:=Jx3 hb;obtain ⟨k,hk⟩:∃ k:Nat,(k:Int)=min a.e b.e+1000:=⟨(min a.e b.e+1000).toNat,by omega⟩
  obtain ⟨m,hm⟩:∃ m:Nat,(m:Int)=max ((a.s.length:Int)+a.e) (b.s.length+b.e) - min a.e b.e+1:=⟨(max ((a.s.length:Int)+a.e) (b.s.length+b.e) - min a.e b.e+1).toNat,by omega⟩
  have g1:(max ((a.s.length:Int)+a.e) (b.s.length+b.e) - min a.e b.e+1).toNat=m:=by omega
  have g2:max ((a.s.length:Int)+a.e) (b.s.length+b.e)=(k:Int)+m - 1 - 1000:=by omega
  rw [g1,g2,Jy7 side (J37 ha.figs e1) (J37 hb.figs e2) k m (by
   rw [Nat.div_eq_of_lt (Nat.lt_of_lt_of_le ta (Nat.pow_le_pow_right de omg)),Nat.div_eq_of_lt (Nat.lt_of_lt_of_le tb (Nat.pow_le_pow_right de omg))])]
  obtain ⟨x,hx⟩:=J66 (n:=a) (k:=k) omg;obtain ⟨y,hy⟩:=J66 (n:=b) (k:=k) omg;have hpos:0<10 ^ k:=Nat.pow_pos de;have q1:mag a / 10 ^ k=x:=by rw [hx];exact Nat.mul_div_cancel_left _ hpos
  have q2:mag b / 10 ^ k=y:=by rw [hy];exact Nat.mul_div_cancel_left _ hpos
  rw [q1,q2];have lt:∀ {u v:Nat},u<v→10 ^ k * u<10 ^ k * v:=fun h=>Nat.mul_lt_mul_of_pos_left h hpos
  unfold cmp3 sv;rw [← hn];rcases Nat.lt_trichotomy x y with h | h | h
  ·rw [if_pos h];have:=lt h;rw [← hx,← hy] at this;cases na:a.neg <;> simp only [na,Bool.false_eq_true,↓reduceIte] at hs ⊢
   ·rw [Jtm omg];omega
   ·rw [Jtj omg];omega
  ·rw [if_neg omg,if_neg omg,hx,hy,h];simp [cmpI]
  ·rw [if_neg omg,if_pos h];have:=lt h;rw [← hx,← hy] at this;cases na:a.neg <;> simp only [na,Bool.false_eq_true,↓reduceIte] at hs ⊢
   ·rw [Jtj omg];omega
   ·rw [Jtm omg];omega
 ·rw [if_pos (by simpa using hn)];unfold sv;cases na:a.neg <;> cases nb:b.neg <;> simp only [na,nb,Bool.false_eq_true,↓reduceIte,not_true_eq_false] at hn ⊢
  ·have:=Js7 hb (hb.neg_len nb);rw [Jtj omg]
  ·have:=Js7 ha (ha.neg_len na);rw [Jtm omg]
theorem J7h:∀ (s t:List UInt8),Jqp s=true→Jqp t=true→s.length=t.length→dig s=dig t→s=t
 | [],[],_,_,_,_=>rfl
 | [],_ :: _,_,_,h,_=>by simp at h
 | _ :: _,[],_,_,h,_=>by simp at h
 | c :: s,d :: t,hs,ht,hl,h=>by
  rw [Jsg] at hs ht;have hl':s.length=t.length:=by simpa using hl
  rw [Juf,Juf,hl'] at h;have b1:=Jwb hs.2;have b2:=Jwb ht.2;rw [hl'] at b1;have hc:c.toNat - 48=d.toNat - 48:=by
   have e1:((c.toNat - 48) * 10 ^ t.length+dig s) / 10 ^ t.length=((d.toNat - 48) * 10 ^ t.length+dig t) / 10 ^ t.length:=by rw [h]
   rwa [Nat.add_comm,Nat.add_mul_div_right _ _ (Nat.pow_pos de),Nat.div_eq_of_lt b1,Nat.add_comm _ (dig t),Nat.add_mul_div_right _ _ (Nat.pow_pos de),Nat.div_eq_of_lt b2,Nat.zero_add,Nat.zero_add] at e1
  rw [hc] at h;have:c=d:=UInt8.toNat_inj.1 omg;rw [this,J7h s t hs.2 ht.2 hl' omg]
theorem mag_inj {a b:Node} (ha:RightN a) (hb:RightN b) (h:mag a=mag b):a.s=b.s∧a.e=b.e:=by
 by_cases a0:a.s.length=0
 ·by_cases b0:b.s.length=0
  ·exact ⟨by rw [List.eq_nil_of_length_eq_zero a0,List.eq_nil_of_length_eq_zero b0],by rw [(ha.zero a0).2,(hb.zero b0).2]⟩
  ·have:=Js7 hb omg;rw [Jvc a0] at h;omega
 ·by_cases b0:b.s.length=0
  ·have:=Js7 ha omg;rw [Jvc b0] at h;omega
  ·have e1:=ha.e1;have e2:=hb.e1;have he:a.e=b.e:=by
    have key:∀ {x y:Node},RightN x→RightN y→0<x.s.length→mag x=mag y→¬ x.e<y.e:=by
     intro x y hx hy x0 hxy hlt;have f1:=hx.e1;have:=(J45 x0 hx.figs (hx.last x0)).2;unfold mag at hxy;have e:(y.e+1000).toNat=((y.e+1000).toNat - (x.e+1000).toNat - 1)+1+(x.e+1000).toNat:=by omega
     rw [e,Nat.pow_add,← Nat.mul_assoc] at hxy;have q:=Nat.eq_of_mul_eq_mul_right (Nat.pow_pos de) hxy;rw [q,Nat.pow_succ,← Nat.mul_assoc,Nat.mul_mod_left] at this;omega
    have:=key ha hb omg h;have:=key hb ha omg h.symm;omega
   have hl:a.s.length=b.s.length:=by
    have l1:=Jx3 ha;have l2:=Jx3 hb;have g1:=Jzo ha omg;have g2:=Jzo hb omg;rcases Nat.lt_trichotomy a.s.length b.s.length with hh | hh | hh
    ·have:10 ^ (a.s.length+a.e+1000).toNat≤10 ^ (b.s.length+b.e+999).toNat:=Nat.pow_le_pow_right de omg;omega
    ·exact hh
    ·have:10 ^ (b.s.length+b.e+1000).toNat≤10 ^ (a.s.length+a.e+999).toNat:=Nat.pow_le_pow_right de omg;omega
   refine ⟨J7h _ _ ha.figs hb.figs hl ?_,he⟩;unfold mag at h;rw [he] at h;exact Nat.eq_of_mul_eq_mul_right (Nat.pow_pos de) h
theorem sv_inj {a b:Node} (ha:RightN a) (hb:RightN b) (h:sv a=sv b):a=b:=by
 have hm:mag a=mag b∧a.neg=b.neg:=by
  unfold sv at h;cases na:a.neg <;> cases nb:b.neg <;> simp only [na,nb,Bool.false_eq_true,↓reduceIte] at h
  ·exact ⟨by omega,rfl⟩
  ·have:=Js7 hb (hb.neg_len nb);omega
  ·have:=Js7 ha (ha.neg_len na);omega
  ·exact ⟨by omega,rfl⟩
 obtain ⟨h1,h2⟩:=mag_inj ha hb hm.1;obtain ⟨k1,m1,n1,s1,g1,e1⟩:=a;obtain ⟨k2,m2,n2,s2,g2,e2⟩:=b;simp only at h1 h2 hm;have:=ha.kind;have:=hb.kind;have:=ha.many;have:=hb.many;have:=ha.name;have:=hb.name;simp_all
def Node.flip (n:Node):Node:={ n with neg:=!n.neg && (n.s != []) }
theorem RightN.flip {n:Node} (h:RightN n):RightN n.flip:=by
 obtain ⟨g1,g2,g3,g4,g5,g6,g7,g8,g9,g10,g11⟩:=h;refine ⟨g1,g2,g3,g4,g5,g6,g7,g8,fun h0=>⟨?_,(g9 h0).2⟩,g10,g11⟩;have:n.s=[]:=List.eq_nil_of_length_eq_zero h0;simp [Node.flip,this]
theorem J7q (a b:Int):cmpI b a = -cmpI a b:=by unfold cmpI;split <;> split <;> (try split) <;> omega
theorem J87 (a b:Int):cmpI a b=0 ↔ a=b:=by unfold cmpI;split <;> (try split) <;> omega
theorem J8y (a b:Int):cmpI a b<0 ↔ a<b:=by unfold cmpI;split <;> (try split) <;> omega
end Go.LX
