/- Filters: turned twice, sorted twice, entries and back. -/
import Derived.Test.YtaghbedfogiopaaGreatDoorLxZ
set_option linter.unusedSimpArgs false
set_option linter.unusedVariables false
set_option linter.unusedSectionVars false
set_option linter.unnecessarySimpa false
set_option maxRecDepth 100000
set_option maxHeartbeats 2000000
namespace Go.LX
open Go Go.RowKit Go.Proofs
attribute [local irreducible] Al SWP Bi
attribute [go_sem] Tryz.ntmps7 Tryz.results7
end Go.LX
namespace Go.Proofs
open Go.Shelf
open Go.RowKit in
open Go.RowKit Go.Sort Go.Lib in
open Go.RowKit in
open Go.RowKit in
open Go.RowKit in
open Go.RowKit in
open Go.RowKit in
open Go.RowKit Go.Lib in
def Tryz_lays196_renX:Go.Shelf.Ren:=⟨fun | 196=>134 | 259=>164 | n=>n,fun | 9=>9 | 4=>4 | 3=>3 | 5=>5 | 12=>12 | 119=>161 | 0=>0 | 46=>165 | 139=>164 | 138=>163 | 53=>191 | n=>n,fun | 3=>0 | 4=>1 | n=>n⟩
theorem J34:Go.Proofs.Lays.n196 Tryz.prog Tryz_lays196_renX:={
 mixed:=by kernel_rfl
 f196:=Tryz.func134.trans (congrArg some (by kernel_rfl))
 f259:=Tryz.func164.trans (congrArg some (by kernel_rfl))
 t0:=Tryz.underlying0
 a0:=Tryz.isAgg0
 z0:=Tryz.sizeOf0
 v0:=Tryz.zeroValue0
 t3:=Tryz.underlying3
 a3:=Tryz.isAgg3
 z3:=Tryz.sizeOf3
 v3:=Tryz.zeroValue3
 t4:=Tryz.underlying4
 a4:=Tryz.isAgg4
 z4:=Tryz.sizeOf4
 v4:=Tryz.zeroValue4
 t5:=Tryz.underlying5
 a5:=Tryz.isAgg5
 z5:=Tryz.sizeOf5
 v5:=Tryz.zeroValue5
 t9:=Tryz.underlying9
 a9:=Tryz.isAgg9
 z9:=Tryz.sizeOf9
 v9:=Tryz.zeroValue9
 t12:=Tryz.underlying12
 a12:=Tryz.isAgg12
 z12:=Tryz.sizeOf12
 v12:=Tryz.zeroValue12
 t46:=Tryz.underlying165
 a46:=Tryz.isAgg165
 z46:=Tryz.sizeOf165
 v46:=Tryz.zeroValue165
 t53:=Tryz.underlying191
 a53:=Tryz.isAgg191
 z53:=Tryz.sizeOf191
 v53:=Tryz.zeroValue191
 t119:=Tryz.underlying161
 a119:=Tryz.isAgg161
 z119:=Tryz.sizeOf161
 t138:=Tryz.underlying163
 a138:=Tryz.isAgg163
 z138:=Tryz.sizeOf163
 v138:=Tryz.zeroValue163
 t139:=Tryz.underlying164
 a139:=Tryz.isAgg164
 z139:=Tryz.sizeOf164
 v139:=Tryz.zeroValue164
 g3:=by kernel_rfl
 g4:=by kernel_rfl }
end Go.Proofs
set_option maxRecDepth 100000
set_option maxHeartbeats 2000000
namespace Go.LX
open Go Go.RowKit Go.Proofs
attribute [local irreducible] Al SWP Bi
theorem R6 (s:List UInt8) (hs:s.length<=9223372036854775807):Det cx 134 [.p (.str s)] [] (.p (.bool (Lib.validD s))) []:=by
 refine Jr1 (v:=.bool (Lib.validD s)) (enters_of Tryz.func134 kr rfl) rfl (fun _ _ _=>.bool _) fun β Im w vs hg hf=>?_
 obtain ⟨v,rfl,h1⟩:=fit1 hf;cases Ks h1;exact Any.utf8_ValidString J34 ⟨⟨s⟩⟩ w hs (Jbj hg).tabs
theorem Yj (s:List UInt8) (i:Nat):Lib.decodeL (s.drop i)=dec s i:=by
 show dec (s.drop i) 0=dec s i;rw [Qy,Nat.add_zero]
theorem Te:∀ (f:Nat) (s:List UInt8) (i:Nat),s.length<i+f->vF s f i=Lib.validD (s.drop i)
 | 0,s,i,h=>by rw [Ear omg];rfl
 | f+1,s,i,h=>by
  rw [vF];by_cases hi:i<s.length
  ·rw [if_pos hi];have hne:s.drop i≠[]:=fun e=>by have:=congrArg List.length e;simp at this;omega
   rw [Lib.validD_step _ hne,Yj,F1];by_cases hr:rlen s i=0
   ·rw [if_pos hr,if_pos hr,if_pos ⟨rfl,rfl⟩]
   ·rw [if_neg hr,if_neg hr];have hc:¬ (code s i=65533/\rlen s i=1):=fun ⟨c1,c2⟩=>by
     rcases Fd s i with e | ⟨e,g⟩ | ⟨e,_⟩ | ⟨e,_⟩ | ⟨e,_⟩
     ·exact hr e
     ·have:code s i=at_ s i:=by unfold code;rw [if_pos g]
      omega
     ·omega
     ·omega
     ·omega
    rw [if_neg hc,Ebg];exact Te f s _ omg
  ·rw [if_neg hi,Ear omg];rfl
theorem Fi (s:List UInt8) (hs:s.length<=9223372036854775807):Det cx 134 [.p (.str s)] [] (.p (.bool (valid s))) []:=by
 have h:=R6 s hs;have e:Lib.validD s=valid s:=by unfold valid;rw [Te _ s 0 omg,Ebi]
 rw [e] at h;exact h
end Go.LX
namespace Go.LX
open Go Go.RowKit Go.Proofs
attribute [local irreducible] Al SWP Bi
theorem Xk:∀ (k m:Nat),m<10 ^ (k+1)->(Lib.decDigits m).length<=k+1
 | 0,m,h=>by
  rw [Fv,if_pos (by simpa using h)];simp
 | k+1,m,h=>by
  rw [Fv];split
  ·simp
  ·have:=Xk k (m / 10) (by rw [Nat.pow_succ] at h;omega);rw [Eac];simp;omega
end Go.LX
namespace Go.Proofs
open Go.Shelf
def Tryz_lays237_renX:Go.Shelf.Ren:=⟨fun | 237=>168 | 272=>197 | 238=>196 | 315=>233 | 273=>232 | 197=>199 | 271=>201 | 260=>234 | 120=>236 | n=>n,fun | 9=>9 | 40=>168 | 4=>4 | 3=>3 | 105=>196 | 21=>21 | 0=>0 | 5=>5 | 119=>161 | 46=>165 | 139=>164 | 138=>163 | n=>n,fun | 3=>0 | 4=>1 | n=>n⟩
theorem J39:Go.Proofs.Lays.n237 Tryz.prog Tryz_lays237_renX:={
 mixed:=by kernel_rfl
 f120:=Tryz.func236.trans (congrArg some (by kernel_rfl))
 f197:=Tryz.func199.trans (congrArg some (by kernel_rfl))
 f237:=Tryz.func168.trans (congrArg some (by kernel_rfl))
 f238:=Tryz.func196.trans (congrArg some (by kernel_rfl))
 f260:=Tryz.func234.trans (congrArg some (by kernel_rfl))
 f271:=Tryz.func201.trans (congrArg some (by kernel_rfl))
 f272:=Tryz.func197.trans (congrArg some (by kernel_rfl))
 f273:=Tryz.func232.trans (congrArg some (by kernel_rfl))
 f315:=Tryz.func233.trans (congrArg some (by kernel_rfl))
 t0:=Tryz.underlying0
 a0:=Tryz.isAgg0
 z0:=Tryz.sizeOf0
 v0:=Tryz.zeroValue0
 t3:=Tryz.underlying3
 a3:=Tryz.isAgg3
 z3:=Tryz.sizeOf3
 v3:=Tryz.zeroValue3
 t4:=Tryz.underlying4
 a4:=Tryz.isAgg4
 z4:=Tryz.sizeOf4
 v4:=Tryz.zeroValue4
 t5:=Tryz.underlying5
 a5:=Tryz.isAgg5
 z5:=Tryz.sizeOf5
 v5:=Tryz.zeroValue5
 t9:=Tryz.underlying9
 a9:=Tryz.isAgg9
 z9:=Tryz.sizeOf9
 v9:=Tryz.zeroValue9
 t21:=Tryz.underlying21
 a21:=Tryz.isAgg21
 z21:=Tryz.sizeOf21
 v21:=Tryz.zeroValue21
 t40:=Tryz.underlying168
 a40:=Tryz.isAgg168
 z40:=Tryz.sizeOf168
 v40:=Tryz.zeroValue168
 t46:=Tryz.underlying165
 a46:=Tryz.isAgg165
 z46:=Tryz.sizeOf165
 v46:=Tryz.zeroValue165
 t105:=Tryz.underlying196
 a105:=Tryz.isAgg196
 z105:=Tryz.sizeOf196
 v105:=Tryz.zeroValue196
 t119:=Tryz.underlying161
 a119:=Tryz.isAgg161
 z119:=Tryz.sizeOf161
 t138:=Tryz.underlying163
 a138:=Tryz.isAgg163
 z138:=Tryz.sizeOf163
 v138:=Tryz.zeroValue163
 t139:=Tryz.underlying164
 a139:=Tryz.isAgg164
 z139:=Tryz.sizeOf164
 v139:=Tryz.zeroValue164
 g3:=by kernel_rfl
 g4:=by kernel_rfl }
open Go.RowKit Go.Lib in
theorem Tryz.strings_TrimFunc_grows (g:Nat) (lb:Array Value) (eg:∀ args w,(callFunc g args).run Tryz.prog w=.ok (.enter g args) w) (p:Nat->Bool) (s:ByteArray) (w:World) (hs:s.size<=9223372036854775807) (hT:Lib.Utf8Tabs 0 1 w) (hp:PredGrows Tryz.prog g lb p w) :
  Calls Tryz.prog 168 #[.string s,.func (.func g) #[] lb] w fun e w'=>e=.returned (.string (Lib.trimF p s))/\Below w.heap.size w w':=Any.strings_TrimFunc_grows J39 g lb eg p s w hs hT hp
end Go.Proofs
set_option maxRecDepth 100000
set_option maxHeartbeats 2000000
namespace Go.LX
open Go Go.RowKit Go.Proofs
attribute [local irreducible] Al SWP Bi
theorem J4a (s:List UInt8):Jqr s=Pk s:=rfl
theorem Kcv (m e:Int) (hm1:0<=m) (hm2:m<=1000000):Det cx 140 [.p (.int .i64 m),.p (.int .i64 e)] [] (.p (.bool (J1b m e))) []:=by
 (refine bgo Tryz.func140 ?_;simp only [go_sem,simprocAttr])
 (repeat' (first|(split)|fail)) <;> simp (disch:=omega) [J1b,Aa, *] <;> omega
theorem J7l (c:Nat):Det cx 169 [.p (.int .i32 c)] [] (.p (.bool (decide (48<=c) && decide (c<=57)))) []:=by
 (refine bgo Tryz.func169 ?_;simp only [go_sem,simprocAttr])
 (repeat' (first|(split)|fail)) <;> (rw [Ea0];first | omega | (simp [-List.length_eq_zero_iff,Ac, *];done)|(simp [-List.length_eq_zero_iff,Ac, *];omega))
theorem nm_eta (x:ByteArray):(⟨⟨x.data.toList⟩⟩:ByteArray)=x:=by rcases x with ⟨⟨l⟩⟩;rfl
theorem J9z (s:List UInt8) (hs:s.length<=9223372036854775807):Det cx 168 [.p (.str s),.fn 169 []] [] (.p (.str (Lib.trimF figR ⟨⟨s⟩⟩).data.toList)) []:=by
 have he:Enters cx.P 169:=enters_of Tryz.func169 kr rfl;refine Jr1 (v:=.string (Lib.trimF figR ⟨⟨s⟩⟩)) (enters_of Tryz.func168 kr rfl) rfl (fun β w Im=>?_) fun β Im w vs hg hf=>?_
 ·have:=PRep.str (w:=w) (Im:=Im) (Lib.trimF figR ⟨⟨s⟩⟩).data.toList;rw [nm_eta] at this;exact this
 ·obtain ⟨v,u,rfl,h1,h2⟩:=fit2 hf;cases Ks h1;cases Kgm h2;refine Tryz.strings_TrimFunc_grows 169 #[] he figR ⟨⟨s⟩⟩ w hs (Jbj hg).tabs fun W x hx hb=>?_
  have hi:∀ b,Im b->b<W.heap.size:=fun b hb'=>Ebd (hf.im b hb') hb.size
  exact (J7l x).calls_below (w:=W) (Im:=Im) (cx.mono ⟨fun _ h=>h,fun b hb'=>hb.block b (hf.im b hb')⟩ hg) hi (vs:=[.int .i32 x]) rfl
   (fun i v a hv ha=>by cases i with | zero=>simp at hv ha;subst hv;subst ha;exact PRep.int _ _ | succ i=>simp at hv) (fun β w' Im' u hu=>Na hu)
theorem J78 (s:List UInt8) (hs:s.length<=9223372036854775807):Det cx 137 [.p (.str s)] [] (.p (.bool (Jqr s))) []:=by
 (refine bgo Tryz.func137 ?_;simp only [go_sem,simprocAttr]);(repeat' (first|((refine Jqa (J9z s hs) ?_);simp only [go_sem,simprocAttr])|fail));exact J36 ⟨⟨s⟩⟩
end Go.LX
namespace Go.LX
open Go Go.RowKit Go.Proofs
attribute [local irreducible] Al SWP Bi
theorem Kib:∀ {l:List Tree},Kfp l=true ↔ ∀ (i:Nat) (a b:Tree),l[i]? = some a->l[i+1]? = some b->0<=cmpT b a
 | []=>by simp [Kfp]
 | [a]=>by
  simp only [Kfp,true_iff];intro i x y hx hy;simp at hy
 | a :: b :: l=>by
  rw [Kfp,Ebb,decide_eq_true_eq,Kib (l:=b :: l)];constructor
  ·rintro ⟨h1,h2⟩ i x y hx hy;cases i with
   | zero=>simp at hx hy;subst hx;subst hy;exact h1
   | succ i=>exact h2 i x y (by simpa using hx) (by simpa using hy)
  ·intro h;exact ⟨h 0 a b rfl rfl,fun i x y hx hy=>h (i+1) x y (by simpa using hx) (by simpa using hy)⟩
theorem Kig {a b c:Tree} (h:okT a) (h':okT b) (h'':okT c) (e:cmpT a b<=0) (e':cmpT b c<=0):cmpT a c<=0:=by
 by_cases x:cmpT a b=0
 ·rw [Jzv h h' x];exact e'
 ·by_cases y:cmpT b c=0
  ·rw [<- Jzv h' h'' y];exact e
  ·have:=J1v h h' h'' omg omg;omega
theorem Kid {l:List Tree} (h:l.Pairwise fun a b=>cmpT a b<=0) (ho:okK l):Kfp l=true:=by
 rw [Kib];intro i a b ha hb;obtain ⟨i1,rfl⟩:=Eab.1 ha;obtain ⟨i2,rfl⟩:=Eab.1 hb;have:=(Eca.1 h) i (i+1) i1 i2 omg;rw [J0g (ho _ (Ebq i1)) (ho _ (Ebq i2))];omega
theorem Khu:∀ {l:List Tree},okK l->Kfp l=true->l.Pairwise fun a b=>cmpT a b<=0
 | [],_,_=>.nil
 | [a],_,_=>by simp
 | a :: b :: l,ho,h=>by
  rw [Kfp,Ebb,decide_eq_true_eq] at h;have oa:=ho a Eaf;have ob:=ho b (Eag _ Eaf);have ih:=Khu (l:=b :: l) (fun t ht=>ho t (Eag _ ht)) h.2;have hab:cmpT a b<=0:=by rw [J0g ob oa];omega
  refine Eba.2 ⟨fun c hc=>?_,ih⟩;rcases Eaj.1 hc with rfl | hc
  ·exact hab
  ·exact Kig oa ob (ho c (Eag _ (Eag _ hc))) hab ((Eba.1 ih).1 c hc)
theorem Kiq {ks:List Tree} (h:okK ks):Kfp (Jqo ks (Jra ks))=true:=by
 refine Kid ?_ (fun t ht=>?_)
 ·unfold Jqo;rw [Ec7];refine (Jz2 h).imp fun {a b} e=>?_
  unfold ltB at e;rw [decide_eq_true_eq] at e;omega
 ·obtain ⟨i,_,rfl⟩:=Eap.1 ht;exact Jtb h i
theorem Kiu {ks:List Tree} (h:okK ks) (hr:Kfp ks=true):Jra ks=List.range ks.length:=by
 symm;refine J53 h (fun i=>List.mem_range) ?_;rw [Eca];intro i j hi hj hij;rw [List.length_range] at hi hj;rw [List.getElem_range,List.getElem_range];unfold ltB;rw [decide_eq_true_eq];have:=Eca.1 (Khu h hr) i j hi hj hij;rw [Jrq (Eaa hi),Jrq (Eaa hj)];omega
def Jyj (t:Tree) (name:List UInt8):Option Tree:=if t.kind=6 then Ch name t.kids.list else none
theorem J2v (t:Tree) (name:List UInt8) (hv:(t.enc []).length<=1500000000000):Det cx 92 [.p (.sl (valL (t.enc []))),.p (.str name)] [] (Oo (Jyj t name)) []:=by
 cases t with
 | mk k s g e kids =>
 rw [A6,List.length_cons] at hv;by_cases hk:k=6
 ·subst hk;exact Jdk [] s g e kids name omg
 ·have hf:Jyj (.mk k s g e kids) name=none:=if_neg hk;have hg:=Cc [] k s g e kids;have c1:(k=6)=False:=eq_false hk;rw [hf,Oo];(refine bgo Tryz.func92 ?_;simp only [go_sem,simprocAttr,hg,c1,not_false_eq_true])
  skip
theorem Kjh {k:Int} {s:List UInt8} {g:Bool} {e:Int} {kids:Forest}:entK (.mk k s g e kids)=if k=6/\kids.len=2 then (match Ch sKey kids.list,Ch sVal kids.list with
  | some (.mk k' s' _ _ _),some x=>if k'=4 then some (s',x) else none
  | _,_=>none) else none:=rfl
theorem Jzf {k:Int} {s:List UInt8} {g:Bool} {e:Int} {kids:Forest}:entR (.mk k s g e kids)=if k=6 then (match Ch sKey kids.list with
  | some (.mk k' s' _ _ _)=>if k'=4 then some (s',(Ch sVal kids.list).getD nilT) else none
  | none=>none) else none:=rfl
theorem Ki9 (k:List UInt8) (x:Tree):entK (Jso (strT k) x)=some (k,x):=by
 unfold Jso strT;rw [Kjh];have h1:sVal≠sKey:=by decide
 simp [Forest.list,Forest.len,Ch,h1.symm]
theorem Kj1 {t:Tree} {p:List UInt8×Tree} (h:entK t=some p):entR t=some p:=by
 obtain ⟨k,s,g,e,kids⟩:=t;rw [Kjh] at h;rw [Jzf];split at h
 ·rename_i hk;rw [if_pos hk.1];split at h
  ·rename_i h1 h2;rw [h1];split at h
   ·rename_i h4;cases h;simp only [h4,if_true,h2,Option.getD_some]
   ·cases h
  ·cases h
 ·cases h
theorem Kik {name:List UInt8}:∀ {l:List KT},(∀ p∈l,p.1≠name)->A8 name l=l
 | [],_=>rfl
 | p :: l,h=>by rw [A8,if_neg (h p Eaf),Kik fun q hq=>h q (Eag _ hq)]
theorem Kjg {name:List UInt8} {t:Tree}:∀ {l:List KT},(∀ p∈l,Op.bytesLess p.1 name=true)->putL name t l=l ++ [(name,t)]
 | [],_=>rfl
 | p :: l,h=>by rw [putL,if_pos (h p Eaf),Kjg fun q hq=>h q (Eag _ hq)];rfl
theorem Kce:Jrb .nil=[]:=by rw [Jrb]
theorem Kan {nm:List UInt8} {t:RT} {r:RF}:Jrb (.cons nm t r)=Jrf t :: Jrb r:=by rw [Jrb]
theorem Jtr:∀ f:RF,Jrb f=f.list.map fun p=>Jrf p.2
 | .nil=>by rw [Kce];rfl
 | .cons nm t r=>by rw [Kan,Jtr r];rfl
theorem Kcl:Jqp .nil=[]:=by rw [Jqp]
theorem J9p {nm:List UInt8} {t:RT} {r:RF}:Jqp (.cons nm t r)=Jql t :: Jqp r:=by rw [Jqp]
theorem Jrs:∀ f:RF,Jqp f=f.list.map fun p=>Jql p.2
 | .nil=>by rw [Kcl];rfl
 | .cons nm t r=>by rw [J9p,Jrs r];rfl
theorem Jv8 {n:Nat} (h:n≠0):0<(Jqy (Lib.decDigits n)).length:=by
 refine J3k _ _ rfl (Ecb.2 (U6 n)) ?_;cases hd:Lib.decDigits n with
 | nil=>exact absurd hd (U6 n)
 | cons c r =>
  rw [Jy3];intro e;exact h (Jg0 n c r hd e).2
theorem Jzs:∀ {l:List KT} {i k:Nat} {p:KT},l[k]? = some p->(Jr3 i l)[k]? = some (Jso (numV (i+k)) p.2)
 | [],i,k,p,h=>by cases h
 | q :: l,i,0,p,h=>by cases h;rfl
 | q :: l,i,k+1,p,h=>by
  have:=Jzs (l:=l) (i:=i+1) (k:=k) (p:=p) (by simpa using h);rw [Jr3,List.getElem?_cons_succ,this,Nat.add_right_comm,Ebx]
theorem J0a:∀ {l:List KT} {i:Nat},(Jr3 i l).length=l.length
 | [],_=>rfl
 | q :: l,i=>by rw [Jr3,List.length_cons,J0a,List.length_cons]
theorem J5m (key x:Tree):((Jso key x).enc []).length=1+(key.enc []).length+(x.enc []).length:=by
 unfold Jso;rw [A6,List.length_cons,A0,A0,Bl,Eac,Eac,G7 key,G7 x];simp;omega
theorem J5s (n:Nat):((numV n).enc []).length=1:=by
 unfold numV;split <;> rw [A6,Bl] <;> rfl
theorem Jvu:∀ l:List KT,Jqn (Jr6 l)=2 * l.length+Jqn (l.map (·.2))
 | []=>rfl
 | p :: l=>by
  rw [show Jr6 (p :: l)=Jso (strT p.1) p.2 :: Jr6 l from rfl,Jq8,J5m,Jy8,Jvu l,Eat,Jq8,List.length_cons];omega
theorem Jwj:∀ (l:List KT) (i:Nat),Jqn (Jr3 i l)=2 * l.length+Jqn (l.map (·.2))
 | [],_=>rfl
 | p :: l,i=>by
  rw [Jr3,Jq8,J5m,J5s,Jwj l,Eat,Jq8,List.length_cons];omega
theorem J1c {k:Int} {s:List UInt8} {g:Bool} {e:Int} {kids:Forest} (h:okT (.mk k s g e kids)):0<=k/\k<=6:=by
 have h1:=(Lu.1 h).1;unfold G3 at h1;by_cases a:k=0\/k=1\/k=2
 ·omega
 ·by_cases b:k=3
  ·omega
  ·by_cases c:k=4
   ·omega
   ·by_cases d:k=5\/k=6
    ·omega
    ·rw [if_neg a,if_neg b,if_neg c,if_neg d] at h1;exact h1.elim
theorem J2a {t:Tree} {l:List Tree} {out:List KT}:Jt2 (t :: l) out=match entR t with
  | none=>none
  | some p=>Jt2 l (putL p.1 p.2 (A8 p.1 out)):=by rw [Jt2] <;> rfl
theorem J1u (name:List UInt8) (l:List KT):(A1 (A8 name l)).enc.length<=(A1 l).enc.length:=by
 have:=El name (A1 l);rw [Hd] at this;exact this
theorem J4w {l:List Tree} {i:Nat} {t:Tree} (h:l[i]? = some t):Jqn (l.take (i+1))=Jqn (l.take i)+(t.enc []).length:=by
 rw [Jry h,Jtk];simp [Jqn]
theorem Jzg (l:List Tree) (i:Nat):Jqn (l.take i)<=Jqn l:=by
 conv=>rhs;rw [<- Ebl i l,Jtk]
 omega
theorem J8k {k:Int} {s:List UInt8} {g:Bool} {e:Int} {kids:Forest} (h:¬ k=6):entR (.mk k s g e kids)=none:=by rw [Jzf,if_neg h]
theorem J4x {s:List UInt8} {g:Bool} {e:Int} {kids:Forest} (h:Ch sKey kids.list=none):entR (.mk 6 s g e kids)=none:=by rw [Jzf,if_pos rfl,h]
theorem Ka8 {s:List UInt8} {g:Bool} {e:Int} {kids:Forest} {k':Int} {s':List UInt8} {g':Bool} {e':Int} {kids':Forest} (h:Ch sKey kids.list=some (.mk k' s' g' e' kids')) (hk:¬ k'=4):entR (.mk 6 s g e kids)=none:=by
 rw [Jzf,if_pos rfl,h];simp only [if_neg hk]
theorem J76 {s:List UInt8} {g:Bool} {e:Int} {kids:Forest} {s':List UInt8} {g':Bool} {e':Int} {kids':Forest} (h:Ch sKey kids.list=some (.mk 4 s' g' e' kids')):entR (.mk 6 s g e kids)=some (s',(Ch sVal kids.list).getD nilT):=by
 rw [Jzf,if_pos rfl,h];simp only [if_pos]
theorem J24:∀ (f:Nat) (s:List UInt8) (i:Nat),s.length<i+f->(Jub s f i).flatten=s.drop i
 | 0,s,i,h=>by rw [Jub,Ear omg];rfl
 | f+1,s,i,h=>by
  rw [Jub];split
  ·rw [List.flatten_cons,J24 f s _ omg,<- Ebg,Ebl]
  ·rw [Ear omg];rfl
theorem Jvx:∀ R:List (List UInt8),R.reverse.flatten.length=R.flatten.length
 | []=>rfl
 | r :: R=>by rw [List.reverse_cons,Edb,Eac,Jvx R,List.flatten_cons,Eac];simp;omega
theorem Ju7 (s:List UInt8):(Jrx s).flatten=s:=by
 unfold Jrx;rw [J24 _ s 0 omg,Ebi]
theorem J2x (s:List UInt8):valL ((strT s).enc [])=[[.int .i64 4,.int .i64 0,.str [],.str s,.bool false,.int .i64 0]]:=by unfold strT;rw [A6,Bl];rfl
theorem J5u (s:List UInt8):Det cx 85 [.p (.str s)] [] (.p (.sl (valL ((strT s).enc [])))) []:=by
 rw [J2x];(refine bgo Tryz.func85 ?_;simp only [go_sem,simprocAttr])
 skip
end Go.LX
namespace Go.Proofs
open Go.Shelf
def Tryz_laysE35v_renX:Go.Shelf.Ren:=⟨fun | 35=>98 | n=>n,fun | 22=>53 | 23=>25 | 3=>3 | 4=>4 | 0=>0 | n=>n,fun | n=>n⟩
theorem Jwv:Go.Proofs.SlLaysE.n35 Tryz.prog Tryz_laysE35v_renX:={
 mixed:=by kernel_rfl
 f35:=⟨Tryz.f98.name,by decide,Tryz.func98.trans (congrArg some (by kernel_rfl))⟩
 t0:=Tryz.underlying0
 a0:=Tryz.isAgg0
 z0:=Tryz.sizeOf0
 v0:=Tryz.zeroValue0
 t3:=Tryz.underlying3
 a3:=Tryz.isAgg3
 z3:=Tryz.sizeOf3
 v3:=Tryz.zeroValue3
 t4:=Tryz.underlying4
 a4:=Tryz.isAgg4
 z4:=Tryz.sizeOf4
 v4:=Tryz.zeroValue4
 t22:=Tryz.underlying53
 a22:=Tryz.isAgg53
 z22:=Tryz.sizeOf53
 v22:=Tryz.zeroValue53
 a23:=Tryz.isAgg25
 z23:=Tryz.sizeOf25 }
def Tryz_laysE35r_renX:Go.Shelf.Ren:=⟨fun | 35=>97 | n=>n,fun | 22=>93 | 23=>21 | 3=>3 | 4=>4 | 0=>0 | n=>n,fun | n=>n⟩
theorem Jw6:Go.Proofs.SlLaysE.n35 Tryz.prog Tryz_laysE35r_renX:={
 mixed:=by kernel_rfl
 f35:=⟨Tryz.f97.name,by decide,Tryz.func97.trans (congrArg some (by kernel_rfl))⟩
 t0:=Tryz.underlying0
 a0:=Tryz.isAgg0
 z0:=Tryz.sizeOf0
 v0:=Tryz.zeroValue0
 t3:=Tryz.underlying3
 a3:=Tryz.isAgg3
 z3:=Tryz.sizeOf3
 v3:=Tryz.zeroValue3
 t4:=Tryz.underlying4
 a4:=Tryz.isAgg4
 z4:=Tryz.sizeOf4
 v4:=Tryz.zeroValue4
 t22:=Tryz.underlying93
 a22:=Tryz.isAgg93
 z22:=Tryz.sizeOf93
 v22:=Tryz.zeroValue93
 a23:=Tryz.isAgg21
 z23:=Tryz.sizeOf21 }
end Go.Proofs
set_option maxRecDepth 100000
set_option maxHeartbeats 2000000
namespace Go.LX
open Go Go.RowKit Go.Proofs
attribute [local irreducible] Al SWP Bi
theorem Kb5 (es:List (List PV)) (n:Nat) (hn:es.length=n) (hb:n<=1500000000000):Det cx 98 [.own 1000 0 n] [(1000,.row 25 1 es)] (.tup []) [(1000,.row 25 1 es.reverse)]:=by
 unfold Det Al;refine ⟨enters_of Tryz.func98 kr rfl,fun β Im w vs hg hf=>?_⟩;obtain ⟨v,rfl,hv⟩:=fit1 hf;rcases Jy9 hf hv hn with ⟨rfl,rfl⟩ | ⟨loc,cap,d,hβ,rfl,hc,hdl,hnc,hcm,hH,hd⟩
 ·have he:es=[]:=Eal hn;subst he;have h:Calls Tryz.prog 98 #[.slice none 0 0] w fun e w'=>e=.returned (.tuple #[])/\w'=w:=AnyE.slices_Reverse_empty Jwv none 0 w
  refine h.mono ?_;rintro e w' ⟨rfl,rfl⟩;exact ⟨_,_,_,β,Im,rfl,⟨rfl,rfl⟩,⟨[],rfl,rfl,by simp⟩,J0f hf⟩
 ·subst hdl;have h:Calls Tryz.prog 98 #[.slice (some ⟨loc.blk,0,none⟩) d.length cap] w fun e w'=>e=.returned (.tuple #[])/\∃ q,w'=Sort.putRow v1 (Sort.ahead w q) loc.blk 0 d.reverse.toArray:=AnyE.slices_Reverse Jwv v1 Kak loc.blk 0 cap d w hH omg
  refine h.mono ?_;rintro e w' ⟨rfl,q,rfl⟩;refine ⟨_,_,_,β,Im,rfl,⟨rfl,rfl⟩,⟨[],rfl,rfl,by simp⟩,Jy7 hf hβ (k:=q) (os:=#[]) (d:=d.reverse) (by rw [Sort.grow_empty]) (by rw [Eb3];omega) (by rw [Eb3,Eb3];omega) fun i x e hx he=>?_⟩;have hil:=(Eab.1 hx).1;rw [Eb3] at hil;rw [List.getElem?_reverse omg] at hx;rw [List.getElem?_reverse omg,hn] at he;exact hd _ x e hx he
end Go.LX
namespace Go.LX
open Go Go.RowKit Go.Proofs
attribute [local irreducible] Al SWP Bi
theorem str_ok {s:List UInt8} (h:valid s=true):okT (strT s):=by
 unfold strT;rw [Lu];exact ⟨by simp [G3,h,Forest.len],Sb 4,I6⟩
theorem Kgd {s:List UInt8} (h:s.length<=1000000):FitT (strT s):=by
 intro n hn;unfold strT at hn;rw [A6,Bl] at hn;simp only [Eaj,Ebc,or_false] at hn;subst hn;exact ⟨h,Eav _,(by decide:(-9223372036854775808:Int)<=0),(by decide:(0:Int)<=9223372036854775807)⟩
theorem Kaj {s:List UInt8} (hv:valid s=true) (hs:s.length<=1000000):GT (strT s):=⟨str_ok hv,Kgd hs⟩
theorem J0p:∀ (n:Nat) (u:List UInt8),u.length=n->∃ k,u=Jqy u ++ List.replicate k 48
 | 0,u,h=>⟨0,by have:u=[]:=Eal h;subst this;rfl⟩
 | n+1,u,h=>by
  obtain ⟨b,c,rfl⟩:∃ b c,u=b ++ [c]:=⟨u.dropLast,u.getLast (List.ne_nil_of_length_pos omg),(Ece _).symm⟩
  rw [Jtd];by_cases hc:c=48
  ·rw [if_pos hc];obtain ⟨k,hk⟩:=J0p n b (by simpa using h);refine ⟨k+1,?_⟩
   conv=>lhs;rw [hk]
   rw [hc,List.replicate_succ',<- Ea2]
  ·rw [if_neg hc];exact ⟨0,by simp⟩
theorem J3h:∀ (n:Nat) (u:List UInt8),u.length=n->0<(Jqy u).length->at_ (Jqy u) ((Jqy u).length - 1)≠48
 | 0,u,h,h'=>by have:u=[]:=Eal h;subst this;exact absurd h' de
 | n+1,u,h,h'=>by
  obtain ⟨b,c,rfl⟩:∃ b c,u=b ++ [c]:=⟨u.dropLast,u.getLast (List.ne_nil_of_length_pos omg),(Ece _).symm⟩
  rw [Jtd] at h' ⊢;by_cases hc:c=48
  ·rw [if_pos hc] at h' ⊢;exact J3h n b (by simpa using h) h'
  ·rw [if_neg hc];rw [Eac,List.length_singleton,Nat.add_sub_cancel,Jyx];exact fun e=>hc (Jwn.1 e)
theorem gt_num {i:Nat} (h:i<10 ^ 20):GT (numV i):=by
 have hfit:∀ (s:List UInt8) (e:Int),s.length<=1000->0<=e->e<=1000->FitT (.mk 3 s false e .nil):=fun s e h1 h2 h3 n hn=>by
  rw [A6,Bl] at hn;simp only [Eaj,Ebc,or_false] at hn;subst hn;exact ⟨by show s.length<=_;omega,Eav _,by show _<=e;omega,by show e<=_;omega⟩
 unfold numV;split
 ·refine ⟨?_,hfit [] 0 sm omg omg⟩;rw [Lu];exact ⟨by decide,Sb 3,I6⟩
 ·rename_i h0;have hl:=Xk 19 i omg;have hsl:=Jx4 (Lib.decDigits i);have hp:=Jv8 h0;obtain ⟨k,hk⟩:=J0p _ (Lib.decDigits i) rfl;have hlast:=J3h _ (Lib.decDigits i) rfl hp;have hall:Pk (Jqy (Lib.decDigits i))=true:=by
   unfold Pk;rw [Ebw];intro c hc;have:=Jmj i c (by rw [hk];exact Eb7 _ hc);unfold isDg at this;simp [Ja8,this.1,this.2]
  have hhead:at_ (Jqy (Lib.decDigits i)) 0≠48:=by
   cases hs:Jqy (Lib.decDigits i) with
   | nil=>rw [hs] at hp;exact absurd hp de
   | cons c r =>
    rw [Jy3];intro e;rw [hs] at hk;exact h0 (Jg0 i c _ hk e).2
  refine ⟨?_,hfit _ _ omg omg omg⟩;rw [Lu];refine ⟨?_,Sb 3,I6⟩;have hne:Jqy (Lib.decDigits i)≠[]:=Ecb.1 hp;simp only [G3,Forest.len];refine ⟨rfl,hall,by omega,by omega,by omega,by omega,?_⟩;rw [if_neg hne];exact ⟨hhead,hlast⟩
theorem J63 {key x:Tree} (hk:GT key) (hx:GT x):GT (Jso key x):=by
 have hlt:Op.bytesLess sKey sVal=true:=by decide
 show GT (nd 6 [(sKey,key),(sVal,x)]);refine J49 (Eba.2 ⟨fun q hq=>by simp only [Eaj,Ebc,or_false] at hq;subst hq;exact hlt,by simp⟩) fun p hp=>?_
 simp only [Eaj,Ebc,or_false] at hp;rcases hp with rfl | rfl
 ·exact ⟨(by decide:valid sKey=true),(by decide:sKey.length<=1000000),hk⟩
 ·exact ⟨(by decide:valid sVal=true),(by decide:sVal.length<=1000000),hx⟩
theorem Jya {p:RKT} {kids:RF} (hp:p∈kids.list):(p.2.enc p.1).length<=kids.enc.length:=by
 rw [<- Jt5 kids,Js7];have:∀ l:List RKT,p∈l->(p.2.enc p.1).length<=(l.flatMap fun q=>q.2.enc q.1).length:=by
  intro l
  induction l with
  | nil=>intro h;cases h
  | cons a l ih =>
   intro h;rw [List.flatMap_cons,Eac];rcases Eaj.1 h with rfl | h
   ·omega
   ·have:=ih h;omega
 exact this _ hp
theorem Jvh:∀ (n:Nat) (f:RT) (v:Tree) (e:Nat),(f.enc []).length<=n->Jrf f v=.error e->e=5
 | 0,f,v,e,h,_=>by have:=Jsi f [];omega
 | n+1,.mk op s m c kids,v,e,h,hh=>by
  rw [Jqs,List.length_cons] at h;rw [Jwx] at hh;have hkid:∀ p∈kids.list,∀ v e,Jrf p.2 v=.error e->e=5:=fun p hp v e he=>by
   have hl:(p.2.enc p.1).length<=kids.enc.length:=Jya hp;rw [Jvw p.2 p.1] at hl;exact Jvh n p.2 v e omg he
  unfold J15 at hh;split at hh
  ·split at hh
   ·rename_i h1;cases hh;exact Jsp h1
   ·cases hh
  ·rw [Jtr] at hh;cases hks:kids.list with
   | nil=>rw [hks] at hh;cases hh
   | cons p r =>
    rw [hks] at hh;simp only [Eat] at hh;have hp:=hkid p (by rw [hks];exact Eaf);split at hh
    ·rename_i h1;cases hh;exact hp v _ h1
    ·split at hh
     ·cases hh
     ·split at hh
      ·cases hh
      ·cases r with
       | nil=>cases hh
       | cons q r=>exact hkid q (by rw [hks];exact Eag _ Eaf) v e hh
theorem J12:∀ (rs:List Int) (s:List UInt8) (f i:Nat),AllR rs->s.drop i=utfs rs->s.length<i+f->Jub s f i=rs.map utf
 | [],s,0,i,_,_,_=>rfl
 | r :: rs,s,0,i,ha,h,hf=>by
  have:=congrArg List.length h;rw [Ea4,Ki,Eac] at this;have:=I4 r;omega
 | [],s,f+1,i,_,h,_=>by
  have hl:=congrArg List.length h;simp [utfs] at hl;rw [Jub,if_neg omg];rfl
 | r :: rs,s,f+1,i,ha,h,hf=>by
  rw [Ki] at h;obtain ⟨h1,_⟩:=Rp ha.head (utfs rs);rw [<- h,Ny,Nat.add_zero] at h1;have hp:=I4 r;have hd:s.drop (i+rlen s i)=utfs rs:=by
   rw [<- Ebg,h,h1,Ec4]
  have hlt:i<s.length:=by
   have:=congrArg List.length h;rw [Ea4,Eac] at this;omega
  rw [Jub,if_pos hlt,show max (rlen s i) 1=rlen s i by omega,J12 rs s f _ ha.tail hd omg,h,h1,List.take_left];rfl
theorem Ju4 {rs:List Int} (h:AllR rs):Jrx (utfs rs)=rs.map utf:=J12 rs _ _ 0 h rfl omg
theorem J4r (rs:List Int):(rs.map utf).flatten=utfs rs:=rfl
theorem Kci {s:List UInt8} (h:valid s=true):valid (Jrx s).reverse.flatten=true:=by
 obtain ⟨rs,ha,rfl⟩:=Jb.1 h;rw [Ju4 ha,<- Edc,J4r];exact Jb.2 ⟨_,fun r hr=>ha r (List.mem_reverse.1 hr),rfl⟩
theorem Kj3 {s:List UInt8} (h:valid s=true):(Jrx (Jrx s).reverse.flatten).reverse.flatten=s:=by
 obtain ⟨rs,ha,rfl⟩:=Jb.1 h;rw [Ju4 ha,<- Edc,J4r,Ju4 (fun r hr=>ha r (List.mem_reverse.1 hr)),<- Edc,J4r,List.reverse_reverse]
theorem Kdf {es:List (Tree->Except Nat Tree)} (h:∀ f∈es,∀ v e,f v=.error e->e=5\/e=6) (v:Tree) (e:Nat) (he:(es.headD fun _=>.error 5) v=.error e):e=5\/e=6:=by
 cases es with
 | nil=>cases he;exact .inl rfl
 | cons f fs=>exact h f Eaf v e he
theorem Kd3 {es:List (Tree->Except Nat Tree)} (h:∀ f∈es,∀ v e,f v=.error e->e=5\/e=6) (v:Tree) (e:Nat) (he:(es.getD 1 fun _=>.error 5) v=.error e):e=5\/e=6:=by
 rw [Eah] at he;cases hf:es[1]? with
 | none=>rw [hf] at he;cases he;exact .inl rfl
 | some f=>rw [hf] at he;exact h f (Eae hf) v e he
theorem J2b {f:Tree->Except Nat Tree}:∀ {l:List Tree} {e:Nat},mapE f l=.error e->e=5
 | [],e,h=>by cases h
 | t :: l,e,h=>by
  rw [mapE] at h;cases hf:f t with
  | error e' =>
   rw [hf] at h;simp only at h;split at h
   ·cases h;rfl
   ·exact J2b h
  | ok u =>
   rw [hf] at h;cases hk:mapE f l with
   | error e'=>rw [hk] at h;cases h;exact J2b hk
   | ok us=>rw [hk] at h;cases h
theorem J2o {f:Tree->Except Nat Tree}:∀ {l:List KT} {e:Nat},mapN f l=.error e->e=5
 | [],e,h=>by cases h
 | t :: l,e,h=>by
  rw [mapN] at h;cases hf:f t.2 with
  | error e' =>
   rw [hf] at h;simp only at h;split at h
   ·cases h;rfl
   ·exact J2o h
  | ok u =>
   rw [hf] at h;cases hk:mapN f l with
   | error e'=>rw [hk] at h;cases h;exact J2o hk
   | ok us=>rw [hk] at h;cases h
theorem Kag {f:Tree->Except Nat Tree} {b:Bool} {v:Tree} {e:Nat} (h:Jr7 f b v=.error e):e=5:=by
 unfold Jr7 at h;split at h
 ·split at h
  ·split at h
   ·rename_i h1;cases h;exact J2o h1
   ·cases h
  ·split at h
   ·rename_i h1;cases h;exact J2b h1
   ·cases h
 ·cases h;rfl
theorem Jx1 {obj:Bool} {v:Tree}:∀ {fs:List (Tree->Except Nat Tree)} {e:Nat},(∀ f∈fs,∀ v e,f v=.error e->e=5\/e=6)->Jrn obj v fs=.error e->e=5\/e=6
 | [],e,_,h=>by cases h
 | f :: fs,e,hf,h=>by
  rw [Jrn] at h;cases hv:f v with
  | error e' =>
   rw [hv] at h;simp only at h;split at h
   ·cases h;exact hf f Eaf v _ hv
   ·exact Jx1 (fun g hg=>hf g (Eag _ hg)) h
  | ok u =>
   rw [hv] at h;cases hk:Jrn obj v fs with
   | error e'=>rw [hk] at h;cases h;exact Jx1 (fun g hg=>hf g (Eag _ hg)) hk
   | ok us=>rw [hk] at h;cases h
theorem J8h {p:List Step}:∀ {l:List Tree} {e:Nat},Jru p l=.error e->e=5
 | [],e,h=>by cases h
 | t :: l,e,h=>by
  rw [Jru] at h;cases hf:Jrd p t with
  | error e'=>rw [hf] at h;cases h;exact Jsp hf
  | ok u =>
   rw [hf] at h;cases hk:Jru p l with
   | error e'=>rw [hk] at h;cases h;exact J8h hk
   | ok us=>rw [hk] at h;cases h
theorem Jy4:∀ (n:Nat) (f:RT) (v:Tree) (e:Nat),(f.enc []).length<=n->Jql f v=.error e->e=5\/e=6
 | 0,f,v,e,h,_=>by have:=Jsi f [];omega
 | n+1,.mk op s m c kids,v,e,hl,h=>by
  rw [Jqs,List.length_cons] at hl;have hkid:∀ f∈Jqp kids,∀ v e,f v=.error e->e=5\/e=6:=fun f hf v e he=>by
   rw [Jrs] at hf;obtain ⟨p,hp,rfl⟩:=Eap.1 hf;have:=Jya hp;rw [Jvw p.2 p.1] at this;exact Jy4 n p.2 v e omg he
  rw [Jww] at h;unfold Jrv at h;by_cases o0:op=0
  ·rw [if_pos o0] at h;cases h
  rw [if_neg o0] at h;by_cases o1:op=1
  ·rw [if_pos o1] at h;exact .inl (Juj h)
  rw [if_neg o1] at h;by_cases o2:op=2
  ·rw [if_pos o2] at h;exact .inl (Juj h)
  rw [if_neg o2] at h;by_cases o3:op=3
  ·rw [if_pos o3] at h;obtain ⟨k,a,b,c',d⟩:=v;have h:(if k=0 then (.ok nilT:Except Nat Tree) else if k=5 then .ok (listT ((d.list.map (·.2)).drop m.toNat)) else if k=4 then .ok (strT ((Jrx a).drop m.toNat).flatten) else .error 5)=.error e:=h;split at h
   ·cases h
   ·split at h
    ·cases h
    ·split at h
     ·cases h
     ·cases h;exact .inl rfl
  rw [if_neg o3] at h;by_cases o5:op=5\/op=6
  ·rw [if_pos o5] at h;exact .inl (Kag h)
  rw [if_neg o5] at h;by_cases o8:op=8\/op=9
  ·rw [if_pos o8] at h;unfold Jrr at h;split at h
   ·rename_i h1;cases h;exact Jx1 hkid h1
   ·cases h
  rw [if_neg o8] at h;by_cases o10:op=10
  ·rw [if_pos o10] at h;unfold toE at h;split at h
   ·cases h
   ·split at h
    ·cases h
    ·cases h;exact .inl rfl
  rw [if_neg o10] at h;by_cases o11:op=11
  ·rw [if_pos o11] at h;unfold Jud at h;split at h
   ·split at h
    ·cases h
    ·cases h;exact .inl rfl
   ·cases h;exact .inl rfl
  rw [if_neg o11] at h;by_cases o12:op=12\/op=13
  ·rw [if_pos o12] at h;unfold Jte at h;split at h
   ·split at h
    ·rename_i h1;cases h;exact .inl (J8h h1)
    ·cases h
   ·cases h;exact .inl rfl
  rw [if_neg o12] at h;by_cases o14:op=14
  ·rw [if_pos o14] at h;obtain ⟨k,a,b,c',d⟩:=v;have h:(if k=0 then (.ok (listT []):Except Nat Tree) else if k=5 then .ok (listT (d.list.map (·.2)).reverse) else if k=4 then .ok (strT (Jrx a).reverse.flatten) else .error 5)=.error e:=h;split at h
   ·cases h
   ·split at h
    ·cases h
    ·split at h
     ·cases h
     ·cases h;exact .inl rfl
  rw [if_neg o14] at h;by_cases o15:op=15
  ·rw [if_pos o15] at h;exact .inl (Jy1 h)
  rw [if_neg o15] at h;by_cases o7:op=7
  ·rw [if_pos o7,Jtr] at h;cases hks:kids.list with
   | nil=>rw [hks] at h;cases h;exact .inl rfl
   | cons p r =>
    rw [hks] at h;simp only [Eat,List.headD_cons] at h;cases hh:Jrf p.2 v with
    | error er =>
     rw [hh] at h;cases h;exact .inl (Jvh _ p.2 v _ (Eai _) hh)
    | ok b =>
     rw [hh] at h;cases b with
     | true=>cases h
     | false=>cases h;exact .inr rfl
  rw [if_neg o7] at h;cases hh:(Jqp kids).headD (fun _=>.error 5) v with
  | error er=>rw [hh] at h;cases h;exact Kdf hkid v _ hh
  | ok b=>rw [hh] at h;exact Kd3 hkid _ _ h
theorem Jyv {k:Int} {s:List UInt8} {g:Bool} {e:Int} {kids:Forest} (h:GT (.mk k s g e kids)):s.length<=1000000/\(k=4->valid s=true):=by
 refine ⟨(h.2 ⟨k,kids.len,[],s,g,e⟩ (by rw [A6];exact Eaf)).s,fun h4=>?_⟩;have:=(Lu.1 h.1).1;subst h4;simp [G3] at this;exact this.1
theorem toE_gt {t u:Tree} (ht:GT t) (hb:(t.enc []).length<=10 ^ 18) (h:toE t=.ok u):GW 3 t u:=by
 have hsz:=Jq1 t;have hll:=Jrh (Jqe t);obtain ⟨k,s,g,e,kids⟩:=t;have hkl:(Jqe (.mk k s g e kids)).length=kids.list.length:=Ea9 ..
 have hsk:Jqn (kids.list.map (·.2))=Jqn (Jqe (.mk k s g e kids)):=rfl;unfold toE at h;split at h
 ·cases h;refine ⟨Jti fun x hx=>?_,?_⟩
  ·obtain ⟨p,hp,rfl⟩:=Eap.1 hx;have hg:=Jt9 ht hp;exact J63 (Kaj hg.1 hg.2.1) hg.2.2
  ·rw [Jsb];have:Jqn (Jr6 kids.list)=2 * kids.list.length+Jqn (Jqe (.mk k s g e kids)):=Jvu kids.list;show Jqn (Jr6 kids.list)+1<=_;omega
 ·split at h
  ·cases h;have hall:∀ (l:List KT) (i:Nat),(∀ p∈l,GT p.2)->i+l.length<10 ^ 20->∀ x∈Jr3 i l,GT x:=by
    intro l
    induction l with
    | nil=>intro i _ _ x hx;cases hx
    | cons p l ih =>
     intro i hl hi x hx;rw [Jr3] at hx;rw [List.length_cons] at hi;rcases Eaj.1 hx with rfl | hx
     ·exact J63 (gt_num omg) (hl p Eaf)
     ·exact ih (i+1) (fun q hq=>hl q (Eag _ hq)) omg x hx
   refine ⟨Jti (hall _ 0 (fun p hp=>(Jt9 ht hp).2.2) (by show 0+kids.list.length<_;omega)),?_⟩;rw [Jsb];have:Jqn (Jr3 0 kids.list)=2 * kids.list.length+Jqn (Jqe (.mk k s g e kids)):=Jwj kids.list 0;show Jqn (Jr3 0 kids.list)+1<=_;omega
  ·cases h
theorem Kgv {t u:Tree} (ht:GT t) (h:revE t=.ok u):GW 1 t u:=by
 have hsz:=Jq1 t;have hk:=Jtw ht;have hpos:=Et t [];obtain ⟨k,s,g,e,kids⟩:=t;have htx:=Jyv ht;have h:(if k=0 then (.ok (listT []):Except Nat Tree) else if k=5 then .ok (listT (Jqe (.mk k s g e kids)).reverse) else if k=4 then .ok (strT (Jrx s).reverse.flatten) else .error 5)=.ok u:=h;split at h
 ·cases h;exact ⟨Jti fun x hx=>(by cases hx),by rw [Jsb,J3y];omega⟩
 ·split at h
  ·cases h;refine ⟨Jti fun x hx=>hk x (List.mem_reverse.1 hx),?_⟩;have:Jqn (Jqe (.mk k s g e kids)).reverse=Jqn (Jqe (.mk k s g e kids)):=by
    unfold Jqn;rw [Edc,List.sum_reverse]
   rw [Jsb];omega
  ·split at h
   ·rename_i k4;cases h;refine ⟨Kaj (Kci (htx.2 k4)) ?_,by rw [Jy8];omega⟩;rw [Jvx,Ju7];exact htx.1
   ·cases h
theorem J9f:Det cx 69 [.p .snil] [] (.p (.sl (valL ((listT []).enc [])))) []:=by
 have:=Jtp [] de;exact J04 (by simp [Aw,LLe,J0h]) this
theorem Kat (es:List (List PV)) (n:Nat) (hn:es.length=n) (hb:n<=1500000000000):Det cx 97 [.own 1000 0 n] [(1000,.row 21 1 es)] (.tup []) [(1000,.row 21 1 es.reverse)]:=by
 unfold Det Al;refine ⟨enters_of Tryz.func97 kr rfl,fun β Im w vs hg hf=>?_⟩;obtain ⟨v,rfl,hv⟩:=fit1 hf;rcases Jy9 hf hv hn with ⟨rfl,rfl⟩ | ⟨loc,cap,d,hβ,rfl,hc,hdl,hnc,hcm,hH,hd⟩
 ·have he:es=[]:=Eal hn;subst he;have h:Calls Tryz.prog 97 #[.slice none 0 0] w fun e w'=>e=.returned (.tuple #[])/\w'=w:=AnyE.slices_Reverse_empty Jw6 none 0 w
  refine h.mono ?_;rintro e w' ⟨rfl,rfl⟩;exact ⟨_,_,_,β,Im,rfl,⟨rfl,rfl⟩,⟨[],rfl,rfl,by simp⟩,J0f hf⟩
 ·subst hdl;have h:Calls Tryz.prog 97 #[.slice (some ⟨loc.blk,0,none⟩) d.length cap] w fun e w'=>e=.returned (.tuple #[])/\∃ q,w'=Sort.putRow v1 (Sort.ahead w q) loc.blk 0 d.reverse.toArray:=AnyE.slices_Reverse Jw6 v1 Kak loc.blk 0 cap d w hH omg
  refine h.mono ?_;rintro e w' ⟨rfl,q,rfl⟩;refine ⟨_,_,_,β,Im,rfl,⟨rfl,rfl⟩,⟨[],rfl,rfl,by simp⟩,Jy7 hf hβ (k:=q) (os:=#[]) (d:=d.reverse) (by rw [Sort.grow_empty]) (by rw [Eb3];omega) (by rw [Eb3,Eb3];omega) fun i x e hx he=>?_⟩;have hil:=(Eab.1 hx).1;rw [Eb3] at hil;rw [List.getElem?_reverse omg] at hx;rw [List.getElem?_reverse omg,hn] at he;exact hd _ x e hx he
theorem J0t:∀ (rs:List Int) (s:List UInt8) (b i:Nat),AllR rs->s.drop i=utfs rs->s.length<=i+b->Jtv ⟨⟨s⟩⟩ b i=rs
 | [],s,0,i,_,_,_=>rfl
 | r :: rs,s,0,i,ha,h,hf=>by
  have:=congrArg List.length h;rw [Ea4,Ki,Eac] at this;have:=I4 r;omega
 | [],s,b+1,i,_,h,_=>by
  have hl:=congrArg List.length h;simp [utfs] at hl;rw [Jtv,if_neg (show ¬ i<ByteArray.size ⟨⟨s⟩⟩ from by show ¬ i<s.length;omega)]
 | r :: rs,s,b+1,i,ha,h,hf=>by
  rw [Ki] at h;obtain ⟨h1,h2⟩:=Rp ha.head (utfs rs);have hp:=I4 r;have hd:dec s i=(code (utf r ++ utfs rs) 0,(utf r).length):=by
   have:=Qy s i 0;rw [Nat.add_zero] at this;rw [<- this,h,F1,if_neg (by rw [h1];omega),h1]
  have hlt:i<s.length:=by
   have:=congrArg List.length h;rw [Ea4,Eac] at this;omega
  have hdr:s.drop (i+(utf r).length)=utfs rs:=by rw [<- Ebg,h,Ec4]
  rw [Jtv,if_pos (show i<ByteArray.size ⟨⟨s⟩⟩ from hlt),H6,hd];simp only;rw [J0t rs s b _ ha.tail hdr omg];congr 1
theorem J2e {rs:List Int} (h:AllR rs):Jwm (utfs rs)=rs.map fun n=>[.int .i32 n]:=by
 unfold Jwm;rw [J0t rs (utfs rs) _ 0 h rfl omg]
theorem J7k (rs:List Int):rs.length<=(utfs rs).length:=by
 induction rs with
 | nil=>exact Eai _
 | cons r rs ih=>rw [Ki,Eac,List.length_cons];have:=I4 r;omega
theorem Kfb (rs:List Int):(runR rs).reverse=runR rs.reverse:=by simp [runR]
theorem Ka7 (rs:List Int):∀ q∈runR rs,q.length=1:=fun q hq=>by
 obtain ⟨n,_,rfl⟩:=Eap.1 hq;rfl
theorem J7v (v:Tree) (ok:okT v) (hf:FitT v) (hv:(v.enc []).length<=1350000000000):Det cx 44 [.p (.sl (valL (v.enc [])))] [] (getR (revE v)) []:=by
 have hP:=J87 v omg;have hsz:=Jq1 v;have hsl:=Jrh (Jqe v);obtain ⟨k,s,g,e,kids⟩:=v;have hgv:=Cc [] k s g e kids;have hgx:=Jyv (⟨ok,hf⟩:GT (.mk k s g e kids));by_cases k0:k=0
 ·subst k0;rw [show revE (.mk 0 s g e kids)=.ok (listT []) from rfl,getR];generalize valL ((Tree.mk 0 s g e kids).enc [])=V at *
  (refine bgo Tryz.func44 ?_;simp only [go_sem,simprocAttr,hgv]);(repeat' (first|((refine Jqa J9f ?_);simp only [go_sem,simprocAttr])|fail))
 ·by_cases k5:k=5
  ·subst k5;have hrs:Jqn (Jqe (.mk 5 s g e kids)).reverse=Jqn (Jqe (.mk 5 s g e kids)):=by
    unfold Jqn;rw [Edc,List.sum_reverse]
   have hL:=Jtp (Jqe (.mk 5 s g e kids)).reverse omg;have hR:=Kb5 (Jqd (Jqe (.mk 5 s g e kids))) (Jqe (.mk 5 s g e kids)).length sm omg;have hrv:(Jqd (Jqe (.mk 5 s g e kids))).reverse=Jqd (Jqe (.mk 5 s g e kids)).reverse:=by simp [Jqd]
   rw [hrv] at hR;have htk:(Jqd (Jqe (.mk 5 s g e kids)).reverse).take (Jqe (.mk 5 s g e kids)).length=Jqd (Jqe (.mk 5 s g e kids)).reverse:=Ead sm;have hel:=Jvr (Jqe (.mk 5 s g e kids)).reverse;rw [show revE (.mk 5 s g e kids)=.ok (listT (Jqe (.mk 5 s g e kids)).reverse) from rfl,getR];generalize valL ((Tree.mk 5 s g e kids).enc [])=V at *
   generalize Jqe (.mk 5 s g e kids)=K at *
   (refine bgo Tryz.func44 ?_;simp only [go_sem,simprocAttr,hgv]);(repeat' (first|((first|refine Jqa hP ?_|refine Jqa hR ?_|refine Jqa hL ?_);simp only [go_sem,simprocAttr,htk,Jqf,Eb3,Eai])|fail))
  ·by_cases k4:k=4
   ·subst k4;obtain ⟨rs,hrs,rfl⟩:=Jb.1 (hgx.2 rfl);have hul:=J7k rs;have hR:=Kat (runR rs) rs.length sm omg;rw [Kfb] at hR;have hT:=J5u (utfs rs.reverse);have hrl:Jwm (utfs rs)=runR rs:=J2e hrs;have hfl:(Jrx (utfs rs)).reverse.flatten=utfs rs.reverse:=by rw [Ju4 hrs,<- Edc];rfl
    have htk:(runR rs.reverse).take rs.length=runR rs.reverse:=Ead sm;have hel:=Ka7 rs.reverse;rw [show revE (.mk 4 (utfs rs) g e kids)=.ok (strT (Jrx (utfs rs)).reverse.flatten) from rfl,getR,hfl];have hsl8:(utfs rs).length<=70368744177664:=by omega
    generalize valL ((Tree.mk 4 (utfs rs) g e kids).enc [])=V at *
    (refine bgo Tryz.func44 ?_;simp only [go_sem,simprocAttr,hgv,hrl,Jyw]);(repeat' (first|refine Jqj ?_|((first|refine Jqa hR ?_|refine Jqa hT ?_);simp only [go_sem,simprocAttr,Ka4,J7d,htk,Jyw,Eb3,Eai])|fail))
   ·have e0:=eq_false k0;have e5:=eq_false k5;have e4:=eq_false k4;rw [show revE (.mk k s g e kids)=.error 5 by simp only [revE,if_neg k0,if_neg k5,if_neg k4],getR];(refine bgo Tryz.func44 ?_;simp only [go_sem,simprocAttr,hgv,e0,e5,e4])
    all_goals rfl
theorem J5v (v:Tree) (ok:okT v) (hfit:FitT v) (hv:(v.enc []).length<=150000000000):Det cx 42 [.p (.sl (valL (v.enc [])))] [] (getR (Jud v)) []:=by
 have hsz:=Jq1 v;have hP:=Jwu v omg;by_cases hk:v.kind=5
 ·obtain ⟨r,hg0⟩:=row0 v;rw [hk] at hg0;have hkids:∀ t∈Jqe v,okT t/\FitT t/\(t.enc []).length<=150000000000:=fun t ht=>by
   refine ⟨Jyu ok t ht,?_,by have:=Jr0 ht;omega⟩;obtain ⟨k,s',g,e,kids⟩:=v;obtain ⟨p,hp,rfl⟩:=Eap.1 ht;exact (Mg hfit hp).2
  have hfe:Jud v=match Jt2 (Jqe v) [] with
   | some l=>.ok (nd 6 l)
   | none=>.error 5:=by unfold Jud;rw [if_pos hk] <;> rfl
  rw [hfe];have hlen:=Jrh (Jqe v);have hnil:valL ((nd 6 []).enc [])=[[.int .i64 6,.int .i64 0,.str [],.str [],.bool false,.int .i64 0]]:=by
   unfold nd;rw [A6,show A1 []=.nil from rfl,Bl];rfl
  generalize valL (v.enc [])=V at *
  generalize Jqe v=l at *
  (refine bgo Tryz.func42 ?_;simp only [go_sem,simprocAttr,hg0]);(repeat' (first|((refine Jqa hP ?_);simp only [go_sem,simprocAttr,Jqf])|fail));refine Jqg (Jty _ (d:=16)) ?_;simp only [go_sem,simprocAttr];refine SWP.loop (fun x:Nat×List KT=>⟨Ba 55 [(4,.p (.sl (valL ((nd 6 x.2).enc [])))),(18,.p (.sl (Jqd l))),(19,.p (.int .i64 l.length)),(20,.p (.int .i64 x.1))],[]⟩) (fun x=>x.1<=l.length/\Jt2 l []=Jt2 (l.drop x.1) x.2/\Rise x.2/\(∀ p∈x.2,valid p.1=true/\p.1.length<=1000000)/\(A1 x.2).enc.length<=Jqn (l.take x.1)) (fun x=>l.length - x.1) (0,[]) (by simp only;rw [hnil];exact Jqc) ⟨Eav _,rfl,.nil,by simp,by rw [show A1 []=.nil from rfl,Bl];exact Eav _⟩ ?_;rintro ⟨i,out⟩ ⟨hi,h2,h3,h4,h5⟩;simp only at hi h2 h3 h4 h5 ⊢;by_cases hlt:i<l.length
  ·have c1:((i:Int)<(l.length:Int))=True:=eq_true omg;obtain ⟨t,ht⟩:∃ t,l[i]? = some t:=⟨_,Eaa hlt⟩
   have hg:=Jq5 ht;obtain ⟨okt,fitt,lent⟩:=hkids t (Eae ht);have hd:l.drop i=t :: l.drop (i+1):=by rw [Eax hlt];congr 1;rw [Eaa hlt] at ht;exact Ea3 ht
   rw [hd,J2a] at h2;have hts:=J4w ht;have htl:=Jzg l (i+1);have hF1:=J2v t sKey omg;have hF2:=J2v t sVal omg;obtain ⟨tk,ts,tg,te,tkids⟩:=t;by_cases k6:tk=6
   ·subst k6;have hlk:tkids.enc.length<=150000000000:=by rw [A6,List.length_cons] at lent;omega
    rw [show Jyj (.mk 6 ts tg te tkids) sKey=Ch sKey tkids.list from rfl] at hF1;rw [show Jyj (.mk 6 ts tg te tkids) sVal=Ch sVal tkids.list from rfl] at hF2;cases f1:Ch sKey tkids.list with
    | none =>
     rw [J4x f1] at h2;simp only at h2;rw [f1] at hF1;unfold Oo at hF1;rw [h2];(refine lws ?_;simp only [go_sem,simprocAttr,c1,hg]);(repeat' (first|((refine Jqa hF1 ?_);simp only [go_sem,simprocAttr])|fail))
     all_goals rfl
    | some key =>
     obtain ⟨kk,ks,kg,ke,kkids⟩:=key;have hgk:=Cc [] kk ks kg ke kkids;obtain ⟨pk,mk1,ek,_⟩:=H2 f1;have okk:=Jvb okt mk1;have fitk:=(Mg fitt mk1).2;rw [ek] at okk fitk;have hksl:1000000 ≥ ks.length:=(fitk ⟨kk,kkids.len,[],ks,kg,ke⟩ (by rw [A6];exact Eaf)).s;rw [f1] at hF1;unfold Oo at hF1;by_cases k4:kk=4
     ·subst k4;rw [J76 f1] at h2;simp only at h2;have hvk:valid ks=true:=by
       have:=(Lu.1 okk).1;simp [G3] at this;exact this.1
      have hkle:=J1u ks out;have hW:∀ x:Tree,(x.enc []).length<=150000000000->Det cx 93 [.p (.sl (valL ((nd 6 out).enc []))),.p (.str ks),.p (.sl (valL (x.enc [])))] [] (.p (.sl (valL ((nd 6 (putL ks x (A8 ks out))).enc [])))) []:=fun x hx=>by
       have hw:=Kel [] [] false 0 (A1 out) ks x omg omg (by rw [Hd];exact h3.kept ks);rw [Hd] at hw;exact hw
      have hnext:∀ x:Tree,(x.enc []).length<=((Tree.mk 6 ts tg te tkids).enc []).length->Rise (putL ks x (A8 ks out))/\(∀ p∈putL ks x (A8 ks out),valid p.1=true/\p.1.length<=1000000)/\(A1 (putL ks x (A8 ks out))).enc.length<=Jqn (l.take (i+1)):=fun x hx=>by
       refine ⟨Kh (h3.kept ks) fun p hp=>(Jto hp).2,fun p hp=>?_,?_⟩
       ·have:=(Hv ks x (A8 ks out)).mem_iff.1 hp;rcases Eaj.1 this with rfl | h
        ·exact ⟨hvk,hksl⟩
        ·exact h4 p (Jto h).1
       ·rw [Iv,hts];omega
      cases f2:Ch sVal tkids.list with
      | none =>
       rw [f2] at hF2 h2;unfold Oo at hF2;rw [Option.getD_none] at h2;have hWx:=hW nilT (by rw [Jt1];decide);obtain ⟨n1,n2,n3⟩:=hnext nilT (by rw [Jt1];exact Et _ _);(refine lws ?_;simp only [go_sem,simprocAttr,c1,hg,wj1 (i:=i) omg]);(repeat' (first|((first|refine Jqa hF1 ?_|refine Jqa hF2 ?_|refine Jqa J1a ?_|refine Jqa hWx ?_);simp only [go_sem,simprocAttr,hgk,wj1 (i:=i) omg])|fail))
       all_goals exact ⟨(i+1,putL ks nilT (A8 ks out)),⟨by simp only;omega,h2,n1,n2,n3⟩,by simp only;omega,Jqc⟩
      | some x =>
       rw [f2] at hF2 h2;unfold Oo at hF2;rw [Option.getD_some] at h2;obtain ⟨px,mx,ex,_⟩:=H2 f2;have hxl:=Jd7 mx;rw [ex] at hxl;have hWx:=hW x omg;obtain ⟨n1,n2,n3⟩:=hnext x (by rw [A6,List.length_cons];omega);(refine lws ?_;simp only [go_sem,simprocAttr,c1,hg,wj1 (i:=i) omg]);(repeat' (first|((first|refine Jqa hF1 ?_|refine Jqa hF2 ?_|refine Jqa hWx ?_);simp only [go_sem,simprocAttr,hgk,wj1 (i:=i) omg])|fail))
       all_goals exact ⟨(i+1,putL ks x (A8 ks out)),⟨by simp only;omega,h2,n1,n2,n3⟩,by simp only;omega,Jqc⟩
     ·rw [Ka8 f1 k4] at h2;simp only at h2;rw [h2];have c4:=eq_false k4;(refine lws ?_;simp only [go_sem,simprocAttr,c1,hg]);(repeat' (first|((refine Jqa hF1 ?_);simp only [go_sem,simprocAttr,hgk,c4])|fail))
      all_goals rfl
   ·rw [show Jyj (.mk tk ts tg te tkids) sKey=none from if_neg k6] at hF1;rw [J8k k6] at h2;simp only at h2;rw [h2];unfold Oo at hF1;(refine lws ?_;simp only [go_sem,simprocAttr,c1,hg]);(repeat' (first|((refine Jqa hF1 ?_);simp only [go_sem,simprocAttr])|fail))
    all_goals rfl
  ·obtain rfl:i=l.length:=by omega
   have c1:((l.length:Int)<(l.length:Int))=False:=eq_false omg;rw [Ear (Eai _),Jt2] at h2;rw [h2];(refine lws ?_;simp only [go_sem,simprocAttr,c1])
   all_goals rfl
 ·rw [show Jud v=.error 5 by unfold Jud;rw [if_neg hk],getR];obtain ⟨k,s',g,e,kids⟩:=v;have c1:(k=5)=False:=eq_false hk;(refine bgo Tryz.func42 ?_;simp only [go_sem,simprocAttr,Cc,c1,not_false_eq_true])
  all_goals rfl
end Go.LX
