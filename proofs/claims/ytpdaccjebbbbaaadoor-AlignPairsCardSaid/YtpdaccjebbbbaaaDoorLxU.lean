/- Alignment, the program: by keys: what the first loop leaves is a map that is read. -/
import Derived.Test.YtpdaccjebbbbaaaDoorLxT
import Derived.Test.YtpdaccjebbbbaaaDoorLxR
import Derived.Test.YtpdaccjebbbbaaaDoorLxP
import Derived.Test.YtpdaccjebbbbaaaDoorLxS
import Derived.OpenShut
set_option linter.unusedSimpArgs false
set_option linter.unusedVariables false
set_option linter.unusedSectionVars false
set_option linter.unnecessarySimpa false
set_option maxRecDepth 100000
set_option maxHeartbeats 2000000
namespace Go.LX
open Go Go.RowKit Go.Proofs
attribute [local irreducible] Al SWP Bi
open Go.Maps Go.WideElems Go.ChangeShapes
structure MapIs (es:List (PV×PV)) (f:List UInt8→List Int):Prop where
 fn:MapF isStrKey es
 val:∀ p∈es,∃ s,p=(.str s,.sl (Jqb (f s)))
 all:∀ s,f s≠[]→(PV.str s,PV.sl (Jqb (f s)))∈es
def J1e:Value→List UInt8
 | .string s=>s.data.toList
 | _=>[]
theorem J4m {w:World} {base:Nat} {v:Value} {zs:List Int} {Im:Nat→Prop} (h:w.ownsInts base 3 .i64 v zs) (him:∀ g,v.ownBlock=some g→Im g):PRep w Im v (.sl (Jqb zs)):=by
 have h1:=h.1;rcases h1.2 with ⟨rfl,h0⟩ | ⟨g,cap,cur,rfl,hg,hh,hn,hcap,hs,ht⟩
 ·have:zs=[]:=List.eq_nil_of_length_eq_zero h0;subst this;exact .slNil
 ·have hc:=h1.cells (g:=g) rfl;have:=PRep.sl (w:=w) (Im:=Im) g 0 cap 1 (Jqb zs) (by simpa using hn) (him g rfl) (fun i j=>.int .i64 (zs.getD i 0)) (Jrh _) (fun e he p hp=>by
   obtain ⟨z,_,rfl⟩:=List.mem_map.1 he;simp at hp;subst hp;rfl) (fun i hi j hj=>by
   have hj0:j=0:=by omega
   subst hj0;rw [Jqc] at hi;have hz:zs[i]? = some zs[i]:=List.getElem?_eq_getElem hi;have:=hc i (.int .i64 zs[i]) (by rw [List.getElem?_map,hz];rfl);have ha:(⟨g,0,none⟩:Addr).add i=⟨g,0+i * 1+0,none⟩:=by unfold Addr.add;simp;omega
   rw [ha] at this;rw [this,List.getD_eq_getElem?_getD,hz];rfl) (fun i e j p he hp=>by
   rw [Jqb,List.getElem?_map] at he;obtain ⟨z,hz,rfl⟩:=Option.map_eq_some_iff.1 he;cases j with
   | zero=>simp at hp;subst hp;rw [List.getD_eq_getElem?_getD,hz];exact .int _ _
   | succ j=>simp at hp)
  rw [Jqc] at this;exact this
theorem Jwg {α β:Type} {f:α→β}:∀ {l:List α},(l.map f).Nodup→∀ {a b:α},a∈l→b∈l→f a=f b→a=b
 | [],_,a,b,h,_,_=>by cases h
 | x :: l,hn,a,b,ha,hb,e=>by
  have h:=List.nodup_cons.1 hn;rcases List.mem_cons.1 ha with rfl | ha'
  ·rcases List.mem_cons.1 hb with rfl | hb'
   ·rfl
   ·exact absurd (List.mem_map.2 ⟨b,hb',e.symm⟩) h.1
  ·rcases List.mem_cons.1 hb with rfl | hb'
   ·exact absurd (List.mem_map.2 ⟨a,ha',e⟩) h.1
   ·exact Jwg h.2 ha' hb' e
theorem J1w {B n:Nat} {keys:List (List UInt8)} {w:World} {Im:Nat→Prop} (hkl:∀ t∈keys,t.length≤1000000000) (hil:∀ b,Im b→b<w.heap.size) (h:GJ B keys n w Im):∃ es ents cl Im',w.heap[B]? = some (.map ⟨ents⟩ cl)∧(∀ b,Im b→Im' b)∧(∀ b,Im' b→Im b∨B<b)∧(∀ b,Im' b→b<w.heap.size)∧¬ Im' B∧MRep w Im' ents cl es∧MapIs es (fun s=>occ1 keys s n):=by
 obtain ⟨D,hown,hsh,hB,hG⟩:=h;obtain ⟨⟨ents⟩,cl,hb,F,hs,hD,hbb,hlen,hap⟩:=hown;simp only at *
 obtain ⟨s1,s2,s3⟩:=F.stamped;have hmx:maxLen=9223372036854775807:=by decide
 have entry:∀ x∈ents,∃ s:List UInt8,x.key=.string ⟨⟨s⟩⟩∧s.length≤9223372036854775807∧w.ownsInts (B+1) 3 .i64 x.val (occ1 keys s n):=by
  intro x hx;obtain ⟨y,hy⟩:=F.reads x hx;have hk:=rd_key hy;obtain ⟨z,hz,_⟩:=rd_val hy;obtain ⟨zs,ho,rfl⟩:=rowElem_inv hz;obtain ⟨s,hxs,hsl⟩:∃ s:List UInt8,x.key=.string ⟨⟨s⟩⟩∧s.length≤9223372036854775807:=by
   obtain ⟨s,h1,_,h3⟩:=Go.WideMaps.string_of_keyOf Tryd.underlying9 hk;have e:(⟨⟨s.data.toList⟩⟩:ByteArray)=s:=by rcases s with ⟨⟨l⟩⟩;rfl
   refine ⟨s.data.toList,by rw [e];exact h1,?_⟩;have:s.data.toList.length=s.size:=by simp
   omega
  refine ⟨s,hxs,hsl,?_⟩;have hsz:(⟨⟨s⟩⟩:ByteArray).size≤maxLen:=by
   have:(⟨⟨s⟩⟩:ByteArray).size=s.length:=rfl;omega
  have hkl:keyOf Tryd.prog 9 (.string ⟨⟨s⟩⟩)=some (.string s):=Go.WideMaps.keyOf_string_mk Tryd.underlying9 hsz;rcases Maps.fit_look false kStr Tryd.underlying46 (gZs w) hb F hkl with ⟨_,hno,_⟩ | ⟨e0,y0,hm0,hk0,_,hR,hat,_⟩
  ·exact absurd hxs (hno x hx)
  ·have hex:e0=x:=by
    have hm0':e0∈ents:=hm0;exact Jwg s3 hm0' hx (hk0.trans hxs.symm)
   subst hex;rw [rowElem_mk ho] at hR;cases hR;have:=hat .nil;rw [← hD] at this;have key:zs=occ1 keys s n:=by
    rcases hG s hsl with ⟨h1,h2⟩ | h1
    ·rw [h1] at this;rcases ho.datum (H:=Unit) with ⟨_,h3⟩ | h3
     ·rw [h2,h3]
     ·rw [h3] at this;cases this
    ·rw [h1] at this;rcases ho.datum (H:=Unit) with ⟨h3,_⟩ | h3
     ·rw [h3] at this;cases this
     ·rw [h3] at this;injection this with this _
      unfold lits at this;exact ((List.map_inj_right (fun a b hab=>by simpa using hab)).1 this).symm
   rw [← key];exact ho
 have hso:∀ x∈ents,x.key=.string ⟨⟨J1e x.key⟩⟩∧w.ownsInts (B+1) 3 .i64 x.val (occ1 keys (J1e x.key) n):=fun x hx=>by
  obtain ⟨s,h1,_,h3⟩:=entry x hx;have:J1e x.key=s:=by rw [h1];rfl
  rw [this];exact ⟨h1,h3⟩
 refine ⟨ents.map fun x=>(.str (J1e x.key),.sl (Jqb (occ1 keys (J1e x.key) n))),ents,cl,fun b=>Im b∨∃ x∈ents,x.val.ownBlock=some b,hb,fun b h=>.inl h,fun b h=>?_,fun b h=>?_,fun h=>?_,⟨by simp,s2,s1,fun i x p hi hp=>?_⟩,⟨⟨fun p hp=>?_,?_⟩,fun p hp=>?_,fun s hs=>?_⟩⟩
 ·rcases h with h | ⟨x,hx,h⟩
  ·exact .inl h
  ·have:=((hso x hx).2.1.lt b h).1;exact .inr omg
 ·rcases h with h | ⟨x,hx,h⟩
  ·exact hil b h
  ·exact ((hso x hx).2.1.lt b h).2
 ·rcases h with h | ⟨x,hx,h⟩
  ·exact hB h
  ·have:=((hso x hx).2.1.lt B h).1;omega
 ·rw [List.getElem?_map,hi] at hp;obtain rfl:=Option.some.inj hp;have hx:=List.mem_of_getElem? hi;obtain ⟨h1,h2⟩:=hso x hx;refine ⟨?_,J4m h2 fun g hg=>.inr ⟨x,hx,hg⟩⟩;simp only;rw [h1];exact PRep.str _
 ·obtain ⟨x,_,rfl⟩:=List.mem_map.1 hp;exact ⟨_,rfl⟩
 ·rw [List.map_map,List.Nodup,List.pairwise_map];refine (List.pairwise_map.1 s3).imp_of_mem fun {a b} ha hb hne he=>hne ?_
  rw [(hso a ha).1,(hso b hb).1];simp only [Function.comp,PV.str.injEq] at he;rw [he]
 ·obtain ⟨x,_,rfl⟩:=List.mem_map.1 hp;exact ⟨_,rfl⟩
 ·have hsk:s∈keys:=by
   cases ho:occ1 keys s n with
   | nil=>exact absurd ho hs
   | cons z l =>
    have hz:z∈occ1 keys s n:=by rw [ho];exact List.mem_cons_self
    obtain ⟨i,hi,_⟩:=List.mem_map.1 hz;have:=(List.mem_filter.1 hi).2;simp only [decide_eq_true_eq] at this;exact List.mem_of_getElem? this
  have hsl:=hkl s hsk;have hsz:(⟨⟨s⟩⟩:ByteArray).size≤maxLen:=by
   have:(⟨⟨s⟩⟩:ByteArray).size=s.length:=rfl;omega
  have hkl:keyOf Tryd.prog 9 (.string ⟨⟨s⟩⟩)=some (.string s):=Go.WideMaps.keyOf_string_mk Tryd.underlying9 hsz;rcases Maps.fit_look false kStr Tryd.underlying46 (gZs w) hb F hkl with ⟨_,_,hat⟩ | ⟨e0,y0,hm0,hk0,_⟩
  ·have:=hat .nil;rw [← hD] at this;rcases hG s omg with ⟨_,h2⟩ | h1
   ·exact absurd h2 hs
   ·rw [h1] at this;cases this
  ·refine List.mem_map.2 ⟨e0,hm0,?_⟩;rw [hk0];rfl
theorem Jqq {n i:Nat} {l:L} {ws:List (Nat×L)} (hi:i<n) (h:(Ba n ws).getD i .junk=l):(Ba n ws)[i]? = some l:=by
 rw [List.getD_eq_getElem?_getD,List.getElem?_eq_getElem (by rw [Cg];exact hi)] at h;rw [List.getElem?_eq_getElem (by rw [Cg];exact hi)];exact congrArg some h
theorem J1x {Γ:Base} (hGG:Γ.G=cx.G) {B n m d:Nat} (hd:d<1000) (hB:Γ.W0.heap.size≤B) {keys:List (List UInt8)} {ws:List (Nat×PV)} {a:Act} {w:World} (hkl:∀ t∈keys,t.length≤1000000000) (h:KI cx Γ m ws 5 B (GJ B keys n) a w) :
  ∃ es,MapIs es (fun s=>occ1 keys s n)∧RR Γ ⟨Ba m ((5,.mref d) :: ws.map fun x=>(x.1,.p x.2)),[(d,.obj (.mp es))]⟩ a w:=by
 obtain ⟨hdf,hsz,Im,h1,h2,h3,h4,h5,h6⟩:=h;obtain ⟨es,ents,cl,Im',q1,q2,q3,q4,q5,q6,q7⟩:=J1w hkl h3 h4;have hkp:Keeps w Im w Im':=⟨q2,fun _ _=>rfl⟩
 refine ⟨es,q7,[],hdf,fun e=>if e=d then some ⟨B,1,1⟩ else Γ.β0 e,Im',?_⟩;have hBl:B<w.heap.size:=(Array.getElem?_eq_some_iff.1 q1).1;refine {
     fit:={ size:=by rw [hsz,Cg],tmps:=fun i l hl=>?_,regs:=fun e r hr=>?_,nodup:=by simp,live:=fun e r loc hr hl=>?_,apart:=fun e r e' r' l1 l2 hr hr' hne=>?_,im:=q4 }
     os:=h1.os,tape:=h1.tape,output:=h1.output,size:=h1.size,block:=h1.block,imin:=fun b hb=>q2 b (h1.imin b hb),imnew:=fun b hb=>?_,regnew:=fun e r loc hr hl=>?_,fixed:=fun e he _=>by rw [if_neg omg];rfl
     glob:=by show Γ.G w Im';rw [hGG];exact cx.mono hkp h2
     marks:=fun D hD=>(by cases hD),mnod:=.nil }
 ·rcases Jvx hl with rfl | hm
  ·trivial
  ·rcases List.mem_cons.1 hm with hm | hm
   ·cases hm;exact ⟨⟨B,1,1⟩,by simp,h5⟩
   ·obtain ⟨x,hx,e⟩:=List.mem_map.1 hm;cases e;exact PRep.mono hkp (h6 x hx)
 ·rw [List.mem_singleton] at hr;cases hr;exact ⟨⟨B,1,1⟩,by simp,ents,cl,q1,q6⟩
 ·rw [List.mem_singleton] at hr;cases hr;simp only [if_true,Option.some.injEq] at hl;subst hl;exact ⟨hBl,q5⟩
 ·rw [List.mem_singleton] at hr hr';cases hr;cases hr';exact absurd rfl hne
 ·rcases q3 b hb with h | h
  ·exact h1.imnew b h
  ·exact .inr (.inl (by show Γ.W0.heap.size≤b;omega))
 ·rw [List.mem_singleton] at hr;cases hr;simp only [if_true,Option.some.injEq] at hl;subst hl;exact .inl hB
end Go.LX
namespace Go.LX
open Go Go.RowKit Go.Proofs
attribute [local irreducible] Al SWP Bi
open Go.Maps Go.WideElems Go.ChangeShapes
def encs (ts:List Tree):List (List Node):=ts.map fun t=>t.enc []
@[simp] theorem Jri (ts:List Tree):(encs ts).length=ts.length:=by simp [encs]
theorem Ju5 {ts:List Tree} {i:Nat} {t:Tree} (h:ts[i]? = some t):(encs ts)[i]? = some (t.enc []):=by simp [encs,h]
theorem J0q {t u:Tree} (ht:okT t) (hu:okT u):Jqf t=Jqf u ↔ t.enc []=u.enc [] :=
 ⟨fun h=>by rw [J4j ht hu h],fun h=>by rw [(Jmz h).2]⟩
theorem J4q {olds:List Tree} {u:Tree} (ho:∀ t∈olds,okT t) (hu:okT u):occ1 (olds.map Jqf) (Jqf u) olds.length=(posL (u.enc []) (encs olds)).map fun i:Nat=>(i:Int):=by
 unfold occ1 posL;rw [Jri];congr 1;refine List.filter_congr fun i hi=>?_
 have hi:=List.mem_range.1 hi;have h1:olds[i]? = some olds[i]:=List.getElem?_eq_getElem hi;rw [Ju5 h1,List.getElem?_map,h1];simp only [Option.map_some,Option.some.injEq];exact decide_eq_decide.2 (J0q (ho _ (List.getElem_mem hi)) hu)
theorem Jxc {α β γ:Type} [DecidableEq β] [DecidableEq γ] {f:α→β} {g:α→γ} {a:α}:∀ {l:List α},(∀ b∈l,f b=f a ↔ g b=g a)→cntD (f a) (l.map f)=cntD (g a) (l.map g)
 | [],_=>rfl
 | b :: l,h=>by
  have ih:=Jxc (f:=f) (g:=g) (a:=a) (l:=l) fun c hc=>h c (List.mem_cons_of_mem _ hc)
  rw [List.map_cons,List.map_cons,Jsk,Jsk,ih];have:=h b List.mem_cons_self;by_cases e:f b=f a
  ·rw [if_pos e,if_pos (this.1 e)]
  ·rw [if_neg e,if_neg fun h=>e (this.2 h)]
theorem J13 {es:List (PV×PV)} {f:List UInt8→List Int} (h:MapIs es f) (s:List UInt8):(Cl (.str s) es 0=some none∧f s=[])∨∃ j,Cl (.str s) es 0=some (some (j,.sl (Jqb (f s))))∧es[j]? = some (.str s,.sl (Jqb (f s))):=by
 rcases Gk J6k ⟨s,rfl⟩ es 0 h.fn with ⟨h1,h2⟩ | ⟨j,v,h1,h2⟩
 ·refine .inl ⟨h1,?_⟩;cases hf:f s with
  | nil=>rfl
  | cons z l=>exact absurd (h.all s (by rw [hf];simp)) (h2 _)
 ·obtain ⟨s',e⟩:=h.val _ (List.mem_of_getElem? h2);injection e with e1 e2
  injection e1 with e1
  subst e1 e2;rw [Nat.zero_add] at h1;exact .inr ⟨j,h1,h2⟩
theorem J27 {es:List (PV×PV)} {f:List UInt8→List Int} (h:MapIs es f) {s:List UInt8} {j:Nat} {x:PV} (hj:es[j]? = some (.str s,x)) (z:List Int):MapIs (es.set j (.str s,.sl (Jqb z))) (fun s'=>if s'=s then z else f s'):=by
 have hjl:=(List.getElem?_eq_some_iff.1 hj).1;have hk:(es.set j (.str s,.sl (Jqb z))).map (·.1)=es.map (·.1):=by
  rw [List.map_set];apply List.ext_getElem?;intro i;rw [List.getElem?_set];split
  ·rename_i e;subst e;rw [List.getElem?_map,hj];simp [hjl]
  ·rfl
 have key:∀ (i:Nat) (p:PV×PV),es[i]? = some p→i≠j→∃ s',s'≠s∧p=(.str s',.sl (Jqb (f s'))):=fun i p hi hne=>by
  obtain ⟨s',rfl⟩:=h.val p (List.mem_of_getElem? hi);refine ⟨s',fun e=>hne (Jmm h.fn hi hj (by rw [e])),rfl⟩
 refine ⟨⟨fun p hp=>?_,by rw [hk];exact h.fn.nodup⟩,fun p hp=>?_,fun s' hs'=>?_⟩
 ·rcases List.mem_or_eq_of_mem_set hp with hp | rfl
  ·exact h.fn.keys p hp
  ·exact ⟨s,rfl⟩
 ·obtain ⟨i,hi⟩:=List.getElem?_of_mem hp;rw [List.getElem?_set] at hi;by_cases e:j=i
  ·rw [if_pos e,if_pos omg] at hi;cases hi;exact ⟨s,by simp⟩
  ·rw [if_neg e] at hi;obtain ⟨s',h1,rfl⟩:=key i p hi (fun h=>e h.symm);exact ⟨s',by rw [if_neg h1]⟩
 ·by_cases e:s'=s
  ·subst e;rw [if_pos rfl];exact List.mem_of_getElem? (i:=j) (by rw [List.getElem?_set,if_pos rfl,if_pos hjl])
  ·rw [if_neg e] at hs' ⊢;obtain ⟨i,hi⟩:=List.getElem?_of_mem (h.all s' hs');have hne:j≠i:=fun e2=>by
    subst e2;rw [hj] at hi;have e3:=Option.some.inj hi;injection e3 with e3 _
    injection e3 with e3
    exact e e3.symm
   exact List.mem_of_getElem? (i:=i) (by rw [List.getElem?_set,if_neg hne];exact hi)
theorem Jzh {Γ:Base} (hGG:Γ.G=cx.G) (hmay:∀ b,¬ Γ.may b) {d m:Nat} {s:St} {keys:List (List UInt8)} {ws:List (Nat×PV)} {a:Act} {w:World} (hm':s.tmps.length=m) (h5:s.tmps[5]? = some (.mref d)) (hw:∀ x∈ws,s.tmps[x.1]? = some (.p x.2)) (hr:Am d s.regs=some (.obj (.mp []))) (h:RRm Γ [] s a w) :
  ∃ B,Γ.W0.heap.size≤B∧KI cx Γ m ws 5 B (GJ B keys 0) a w:=by
 obtain ⟨hd,β,Im,hx⟩:=h;have hmem:=Ax hr;obtain ⟨loc,h1,ents,cl,hb,hM⟩:=hx.fit.regs d _ hmem;obtain ⟨loc',h1',hv⟩:=hx.fit.tmps 5 _ h5;rw [h1] at h1';cases h1';have hnil:ents=[]:=List.eq_nil_of_length_eq_zero (by simpa using hM.1);subst hnil;have hsz:Γ.W0.heap.size≤loc.blk:=(hx.regnew d _ loc hmem h1).elim id fun h=>absurd h (hmay _)
 refine ⟨loc.blk,hsz,hd,hx.fit.size.trans hm',Im,⟨hx.os,hx.tape,hx.output,hx.size,hx.block,hx.imin,hx.imnew⟩,?_,hx.fit.im,?_,hv,fun x hx'=>hx.fit.tmps x.1 _ (hw x hx')⟩
 ·have:=hx.glob;show cx.G w Im;rw [← hGG];exact this
 ·refine ⟨.map [],⟨#[],cl,hb,⟨by simp,MapKept.stamped_empty cl,by simp⟩,Nat.le_refl _,rfl,Nat.lt_succ_self _,by simp,by simp⟩,fun es cl' hb' x hx'=>?_,(hx.fit.live d _ loc hmem h1).2,fun s _=>.inl ⟨rfl,rfl⟩⟩;rw [hb] at hb';cases hb';simp at hx'
def outK (O N:List (List Node)) (i:Nat):List Int:=(keyP O N).take i ++ List.replicate (N.length - i) 0
def outS (O N:List (List Node)) (i:Nat) (v:Int):List Int:=(keyP O N).take i ++ v :: List.replicate (N.length - (i+1)) 0
section
variable {O N:List (List Node)} {i:Nat}
theorem Jxj (h:i≤N.length):((keyP O N).take i).length=i:=by rw [List.length_take,Jrc];omega
theorem outK_S (h:i<N.length):outK O N i=outS O N i 0:=by
 unfold outK outS;rw [show N.length - i=(N.length - (i+1))+1 by omega,List.replicate_succ]
theorem J0h (h:i<N.length) (v:Int):(Jqb (outS O N i v))[i]? = some [.int .i64 v]:=by
 refine Jqg ?_;unfold outS;rw [List.getElem?_append_right (by rw [Jxj omg];exact Nat.le_refl _),Jxj omg,Nat.sub_self];rfl
theorem J1k (h:i<N.length) (v u:Int):(Jqb (outS O N i v)).set i [.int .i64 u]=Jqb (outS O N i u):=by
 rw [Jrg];congr 1;unfold outS;have:i=((keyP O N).take i).length:=(Jxj omg).symm
 conv=>lhs;rw [show ∀ (l:List Int),l.set i u=l.set ((keyP O N).take i).length u from fun l=>by rw [← this]]
 rw [List.set_append_right _ _ (Nat.le_refl _),Nat.sub_self];rfl
theorem J30 (h:i<N.length):outS O N i (keyE O N i)=outK O N (i+1):=by
 unfold outS outK;rw [Jyb h,List.append_assoc];rfl
theorem J4r:outK O N N.length=keyP O N:=by
 unfold outK;rw [Nat.sub_self,List.take_of_length_le (by rw [Jrc];exact Nat.le_refl _)];simp
theorem J26:outK O N 0=List.replicate N.length 0:=by simp [outK]
end
def fB (olds nows:List Tree) (i:Nat) (s:List UInt8):List Int:=(occ1 (olds.map Jqf) s olds.length).drop (cntD s ((nows.map Jqf).take i))
theorem J6f {olds nows:List Tree} {i:Nat} {u:Tree} (hu:nows[i]? = some u) (s:List UInt8):fB olds nows (i+1) s=if s=Jqf u then (fB olds nows i s).tail else fB olds nows i s:=by
 unfold fB;have:(nows.map Jqf).take (i+1)=(nows.map Jqf).take i ++ [Jqf u]:=by rw [List.take_add_one,List.getElem?_map,hu];rfl
 rw [this,Jxu,Jsk,Jtr];by_cases e:s=Jqf u
 ·subst e;rw [if_pos rfl,if_pos rfl,List.tail_drop]
 ·rw [if_neg e,if_neg (fun h=>e h.symm)];rfl
theorem fB_at {olds nows:List Tree} {i:Nat} {u:Tree} (hu:nows[i]? = some u) (ho:∀ t∈olds,okT t) (hn:∀ t∈nows,okT t):keyE (encs olds) (encs nows) i=match fB olds nows i (Jqf u) with
  | []=>-1
  | z :: _=>z:=by
 have hum:=List.mem_of_getElem? hu;have hok:=hn u hum;have hc:cntD (Jqf u) ((nows.map Jqf).take i)=cntD (u.enc []) ((encs nows).take i):=by
  unfold encs;rw [← List.map_take,← List.map_take];exact Jxc (f:=Jqf) (g:=fun t:Tree=>t.enc []) (a:=u) fun b hb=>J0q (hn b (List.mem_of_mem_take hb)) hok
 rw [J5g (Ju5 hu)];unfold fB;rw [J4q ho hok,hc,← List.map_drop];cases (posL (u.enc []) (encs olds)).drop (cntD (u.enc []) ((encs nows).take i)) <;> rfl
end Go.LX
namespace Go.LX
open Go Go.RowKit Go.Proofs
attribute [local irreducible] Al SWP Bi
open Go.Maps Go.WideElems Go.ChangeShapes
structure TreeOK (t:Tree):Prop where
 ok:okT t
 sh:Jqu (t.enc [])
 len:(t.enc []).length≤300000
def wsB (olds nows:List Tree) (k:Nat):List (Nat×PV):=[(1,.sl (Jqe (encs nows))),(15,.sl (Jqe (encs olds))),(16,.int .i64 olds.length),(17,.int .i64 k)]
theorem Jt2 (olds nows:List Tree) (hlo:olds.length≤100000) (hln:nows.length≤100000) (ho:∀ t∈olds,TreeOK t) (hn:∀ t∈nows,TreeOK t):Det cx 12 [.p (.sl (Jqe (encs olds))),.p (.sl (Jqe (encs nows)))] [] (.p (.sl (Jqb (keyP (encs olds) (encs nows))))) []:=by
 refine Js4 false [] sm Tryd.func12 kr rfl sm fun Γ a w hG hmay hr=>?_
 rw [Rx (by simp only [go_sem,simprocAttr,Tryd.ntmps12])] at hr;refine (show SWPx cx Γ _ _ _ from ?_) a w hr;clear hr a w;simp only [go_sem,simprocAttr,Tryd.ntmps12,Tryd.results12];refine Jqv hG.1 ?_;simp only [go_sem,simprocAttr];refine Jqv hG.1 ?_;simp only [go_sem,simprocAttr];refine SWPx.seq ?_;refine Jqv hG.1 ?_;simp only [go_sem,simprocAttr,Ht,Jri];refine SWPx.block ?_;intro a w hr;have hkl:∀ t∈olds.map Jqf,t.length≤1000000000:=fun t ht=>by
  obtain ⟨u,hu,rfl⟩:=List.mem_map.1 ht;have:=Jsc u [] (ho u hu).ok (ho u hu).sh;have:=(ho u hu).len;omega
 obtain ⟨B,hB,hK⟩:=Jzh (keys:=olds.map Jqf) hG.1 (hmay rfl) (d:=14) (m:=68) (ws:=wsB olds nows 0) (Cg _ _) (Jqq de (by simp only [go_sem,simprocAttr])) (fun x hx=>by
  simp only [wsB,List.mem_cons,List.not_mem_nil,or_false] at hx;rcases hx with rfl | rfl | rfl | rfl
  ·exact Jqq (i:=1) de (by simp only [go_sem,simprocAttr])
  ·exact Jqq (i:=15) de (by simp only [go_sem,simprocAttr])
  ·exact Jqq (i:=16) de (by simp only [go_sem,simprocAttr])
  ·exact Jqq (i:=17) de (by simp only [go_sem,simprocAttr])) rfl hr
 refine J5z (KI:=fun k=>KI cx Γ 68 (wsB olds nows k) 5 B (GJ B (olds.map Jqf) k)) (n:=olds.length) (fun k a' w' hk hI=>?_) 0 a w (Nat.zero_le _) hK;clear hr hK a w;obtain ⟨Im,hO,hJ,hil,hrr⟩:=hI.into;refine (show SWPx cx (Jus cx w' Im B) _ _ _ from ?_) a' w' hrr;have hgrow:∀ w2 Im2,Grow w' Im w2 Im2→GJ B (olds.map Jqf) k w2 Im2:=fun w2 Im2 g=>J2x hJ g
 clear hrr;by_cases hlt:k<olds.length
 ·have c1:((k:Int)<(olds.length:Int))=True:=eq_true omg;obtain ⟨t,ht⟩:∃ t,olds[k]? = some t:=⟨_,List.getElem?_eq_getElem hlt⟩
  have htm:=ho t (List.mem_of_getElem? ht);have hC:=Jyo t htm.ok htm.sh htm.len;have hg:=Jqj (Ju5 ht);have w1:IntKind.i64.wrap ((k:Int)+1)=((k+1:Nat):Int):=wj1 omg;simp only [Jwt,wsB,List.map_cons,List.map_nil];refine Jqv rfl ?_;simp only [go_sem,simprocAttr,c1];refine SWPx.seq (SWPx.cond ?_);simp only [go_sem,simprocAttr,O0];refine SWPx.skip fun a2 w2 hr2=>?_
  refine (show SWPx cx (Jus cx w' Im B) _ _ _ from ?_) a2 w2 hr2;clear hr2 a2 w2;refine SWPx.seq (SWPx.block (Jqv rfl ?_));simp only [go_sem,simprocAttr,hg];refine Jqv rfl ?_;simp only [go_sem,simprocAttr];(repeat' (first | ((refine Jqa (hC) ?_);simp only [go_sem,simprocAttr]) | fail));intro a3 w3 hr3;have hkey:(olds.map Jqf)[k]? = some (Jqf t):=by rw [List.getElem?_map,ht];rfl
  have htl:=hkl _ (List.mem_map.2 ⟨t,List.mem_of_getElem? ht,rfl⟩);refine Jzu (Γ:=Γ) (B:=B) (k:=k) (keys:=olds.map Jqf) (t:=Jqf t) (ws:=wsB olds nows k) ⟨rfl,rfl,rfl⟩ ⟨rfl,rfl,rfl⟩ ⟨rfl,rfl,rfl⟩ ⟨rfl,rfl,rfl⟩ ⟨rfl,rfl,rfl⟩ ⟨rfl,rfl,rfl⟩ ⟨rfl,rfl,rfl⟩ ⟨rfl,rfl,rfl⟩ ⟨rfl,rfl,rfl⟩ hB omg hkey htl (fun x hx=>by
   simp only [wsB,List.mem_cons,List.not_mem_nil,or_false] at hx;rcases hx with rfl | rfl | rfl | rfl <;> simp) (Jv4 hO hgrow (Cg _ _) (Jqq de (by simp only [go_sem,simprocAttr])) (fun x hx=>by
   simp only [wsB,List.mem_cons,List.not_mem_nil,or_false] at hx;rcases hx with rfl | rfl | rfl | rfl | rfl | rfl
   ·exact Jqq (i:=6) de (by simp only [go_sem,simprocAttr])
   ·exact Jqq (i:=8) de (by simp only [go_sem,simprocAttr])
   ·exact Jqq (i:=1) de (by simp only [go_sem,simprocAttr])
   ·exact Jqq (i:=15) de (by simp only [go_sem,simprocAttr])
   ·exact Jqq (i:=16) de (by simp only [go_sem,simprocAttr])
   ·exact Jqq (i:=17) de (by simp only [go_sem,simprocAttr])) hr3) (fun a4 w4 hI4=>?_)
  obtain ⟨Im4,hO4,hJ4,hil4,hr4⟩:=hI4.into;refine (show SWPx cx (Jus cx w4 Im4 B) _ _ _ from ?_) a4 w4 hr4;simp only [Jwt,wsB,List.map_cons,List.map_nil];refine SWPx.region rfl ?_;simp only [go_sem,simprocAttr,w1];intro a5 w5 hr5;have hfin:KI cx Γ 68 (wsB olds nows (k+1)) 5 B (GJ B (olds.map Jqf) (k+1)) a5 w5:=Jv4 hO4 (fun w2 Im2 g=>J2x hJ4 g) (Cg _ _) (Jqq de (by simp only [go_sem,simprocAttr])) (fun x hx=>by
   simp only [wsB,List.mem_cons,List.not_mem_nil,or_false] at hx;rcases hx with rfl | rfl | rfl | rfl
   ·exact Jqq (i:=1) de (by simp only [go_sem,simprocAttr])
   ·exact Jqq (i:=15) de (by simp only [go_sem,simprocAttr])
   ·exact Jqq (i:=16) de (by simp only [go_sem,simprocAttr])
   ·exact Jqq (i:=17) de (by simp only [go_sem,simprocAttr])) hr5
  first | exact .inl ⟨rfl,hlt,hfin⟩ | exact .inl ⟨hlt,hfin⟩ | exact .inl hfin
 ·have hkn:k=olds.length:=by omega
  subst hkn;have c1:((olds.length:Int)<(olds.length:Int))=False:=eq_false omg;simp only [Jwt,wsB,List.map_cons,List.map_nil];refine Jqv rfl ?_;simp only [go_sem,simprocAttr,c1];refine SWPx.seq (SWPx.cond ?_);simp only [go_sem,simprocAttr,O0];refine SWPx.exit fun a2 w2 hr2=>?_
  refine .inr ⟨⟨0,rfl⟩,?_⟩;have hI2:KI cx Γ 68 (wsB olds nows olds.length) 5 B (GJ B (olds.map Jqf) olds.length) a2 w2:=Jv4 hO hgrow (Cg _ _) (Jqq de (by simp only [go_sem,simprocAttr])) (fun x hx=>by
   simp only [wsB,List.mem_cons,List.not_mem_nil,or_false] at hx;rcases hx with rfl | rfl | rfl | rfl
   ·exact Jqq (i:=1) de (by simp only [go_sem,simprocAttr])
   ·exact Jqq (i:=15) de (by simp only [go_sem,simprocAttr])
   ·exact Jqq (i:=16) de (by simp only [go_sem,simprocAttr])
   ·exact Jqq (i:=17) de (by simp only [go_sem,simprocAttr])) hr2
  clear hr2 hgrow hJ hO hil hI;obtain ⟨es,hes,hrr⟩:=J1x hG.1 (d:=14) de hB hkl hI2;simp only [wsB,List.map_cons,List.map_nil] at hrr;simp only [↓reduceIte];refine SWP.run hG hrr ?_;clear hrr hI2 a2 w2;have hzr:List.replicate nows.length [PV.int .i64 0]=Jqb (List.replicate nows.length 0):=Jrn _ _;(refine lws ?_;simp only [go_sem,simprocAttr,Ht,Jri,hzr]);(repeat' (first | (refine Jqs ?_) | fail));have ho':∀ t∈olds,okT t:=fun t h=>(ho t h).ok
  have hn':∀ t∈nows,okT t:=fun t h=>(hn t h).ok
  have h0:MapIs es (fB olds nows 0):=by
   have:fB olds nows 0=fun s=>occ1 (olds.map Jqf) s olds.length:=by funext s;simp [fB,cntD]
   rw [this];exact hes
  have hO0:List.replicate nows.length 0=outK (encs olds) (encs nows) 0:=by rw [J26,Jri]
  rw [hO0];clear hes;refine SWP.loop (fun x:Nat×List (PV×PV)=>⟨Ba 68 [(5,.mref 14),(9,.own 35 0 nows.length),(36,.p (.sl (Jqe (encs nows)))),(37,.p (.int .i64 nows.length)),(38,.p (.int .i64 x.1))],[(35,.row 3 1 (Jqb (outK (encs olds) (encs nows) x.1))),(14,.obj (.mp x.2))]⟩) (fun x=>x.1≤nows.length∧MapIs x.2 (fB olds nows x.1)) (fun x=>nows.length - x.1) (0,es) Jqd ⟨Nat.zero_le _,h0⟩ ?_;clear h0 hO0 es;rintro ⟨i,es⟩ ⟨i1,hes⟩;simp only at i1 hes;by_cases hin:i<nows.length
  ·have c2:((i:Int)<(nows.length:Int))=True:=eq_true omg;obtain ⟨u,hu⟩:∃ u,nows[i]? = some u:=⟨_,List.getElem?_eq_getElem hin⟩
   have hut:=hn u (List.mem_of_getElem? hu);have hC:=Jyo u hut.ok hut.sh hut.len;have hg:=Jqj (Ju5 hu);have w1:IntKind.i64.wrap ((i:Int)+1)=((i+1:Nat):Int):=wj1 omg;have hin':i<(encs nows).length:=by rw [Jri];exact hin
   have hkE:=fB_at hu ho' hn';have hnx:=J30 (O:=encs olds) hin';rw [outK_S hin'];have g0:=J0h (O:=encs olds) hin' 0;have g1:=J0h (O:=encs olds) hin' (-1);have t0:=J1k (O:=encs olds) hin' 0 (-1);have hst:=J6f (olds:=olds) hu;have skip2:fB olds nows i (Jqf u)=[]→fB olds nows (i+1)=fB olds nows i:=fun h=>by
    funext s;rw [hst s];by_cases e:s=Jqf u
    ·subst e;rw [if_pos rfl,h];rfl
    ·rw [if_neg e]
   rcases J13 hes (Jqf u) with ⟨m1,m2⟩ | ⟨j,m1,m2⟩
   ·rw [m2] at hkE;simp only at hkE;rw [hkE] at hnx;(refine lws ?_;simp only [go_sem,simprocAttr,O0,c2,hg]);(repeat' (first | ((refine Jqa (hC) ?_);simp only [go_sem,simprocAttr,O0,c2,w1,g0,t0,m1]) | fail));exact ⟨(i+1,es),⟨by simp only;omega,by simp only;rw [skip2 m2];exact hes⟩,by simp only;omega,by simp only;rw [← hnx];exact Jqd⟩
   ·cases hf:fB olds nows i (Jqf u) with
    | nil =>
     rw [hf] at hkE m1;simp only at hkE;rw [hkE] at hnx;have hn0:Jqb []=[]:=rfl;(refine lws ?_;simp only [go_sem,simprocAttr,O0,c2,hg]);(repeat' (first | ((refine Jqa (hC) ?_);simp only [go_sem,simprocAttr,O0,c2,w1,g0,t0,m1,hn0]) | fail));exact ⟨(i+1,es),⟨by simp only;omega,by simp only;rw [skip2 hf];exact hes⟩,by simp only;omega,by simp only;rw [← hnx];exact Jqd⟩
    | cons z rest =>
     rw [hf] at hkE m1 m2;simp only at hkE;rw [hkE] at hnx;have t1:=J1k (O:=encs olds) hin' (-1) z;have hcl:Jqb (z :: rest)=[.int .i64 z] :: Jqb rest:=rfl;have hpos:((0:Int)<((rest.length+1:Nat):Int))=True:=eq_true omg;have htk:List.take (rest.length+1 - 1) (Jqb rest)=Jqb rest:=List.take_of_length_le sm;rw [hcl] at m1 m2;have hms:MapIs (es.set j (.str (Jqf u),.sl (Jqb rest))) (fB olds nows (i+1)):=by
      have h:=J27 hes m2 rest;have e:(fun s'=>if s'=Jqf u then rest else fB olds nows i s')=fB olds nows (i+1):=by
       funext s;rw [hst s];by_cases e:s=Jqf u
       ·subst e;rw [if_pos rfl,if_pos rfl,hf];rfl
       ·rw [if_neg e,if_neg e]
      rw [e] at h;exact h
     (refine lws ?_;simp only [go_sem,simprocAttr,O0,c2,hg,Jqc]);(repeat' (first | ((refine Jqa (hC) ?_);simp only [go_sem,simprocAttr,O0,c2,w1,g0,t0,m1,hpos,Jqc]) | fail));refine SWP.at ⟨Ba 68 [(5,.mref 14),(9,.own 35 0 nows.length),(36,.p (.sl (Jqe (encs nows)))),(37,.p (.int .i64 nows.length)),(38,.p (.int .i64 i))],[(35,.row 3 1 (Jqb (outS (encs olds) (encs nows) i z))),(14,.obj (.mp (es.set j (.str (Jqf u),.sl (Jqb rest)))))]⟩ ?_ ?_
     ·refine Jvi (qi 10 12 13) [1,3,4,5,6,7,8] (.node 0 (.node 2 (.node 9 (.node 10 (.node 11 (.node 12 (.node 13 .leaf .nil) .nil) .nil) .nil) .nil) (.node 9 (.node 2 (.node 10 (.node 11 (.node 12 (.node 13 .leaf .nil) .nil) .nil) .nil) (.node 10 (.node 2 (.node 11 (.node 12 (.node 13 .leaf .nil) .nil) .nil) .nil) .nil)) .nil)) (.node 2 (.node 0 (.node 9 (.node 10 (.node 11 (.node 12 (.node 13 .leaf .nil) .nil) .nil) .nil) .nil) .nil) .nil)) 7 hm rfl kr kr ?_;simp only [go_sem,simprocAttr,c2,g1,m1,t1,m2,Jqc];(repeat' (first | (exact Jqd)|(omega)|(refine And.intro ?_ ?_)|(exact Jrh (z :: rest))|(intro _) | fail))
     ·simp only [go_sem,simprocAttr,w1];exact ⟨(i+1,es.set j (.str (Jqf u),.sl (Jqb rest))),⟨by simp only;omega,hms⟩,by simp only;omega,by simp only;rw [← hnx];exact Jqd⟩
  ·have hni:i=nows.length:=by omega
   subst hni;have c2:((nows.length:Int)<(nows.length:Int))=False:=eq_false omg;have he:=J4r (O:=encs olds) (N:=encs nows);rw [Jri] at he;have hol:(nows.length≤(Jqb (keyP (encs olds) (encs nows))).length)=True:=eq_true (by rw [Jqc,Jrc,Jri];exact Nat.le_refl _);have htk:List.take nows.length (Jqb (keyP (encs olds) (encs nows)))=Jqb (keyP (encs olds) (encs nows)):=List.take_of_length_le (by rw [Jqc,Jrc,Jri];exact Nat.le_refl _);rw [he];(refine lws ?_;simp only [go_sem,simprocAttr,O0,c2,hol,htk])
   skip
end Go.LX
namespace Go.LX
open Go Go.RowKit Go.Proofs
attribute [local irreducible] Al SWP Bi
attribute [go_sem] Tryd.ntmps9 Tryd.results9 Tryd.ntmps10 Tryd.results10 Tryd.ntmps18 Tryd.results18
structure ValsFit (ls:List (List Node)):Prop where
 len:ls.length≤140737488355328
 each:∀ v∈ls,ValFit v
structure Given (vs:List (List Node)) (ts:List Tree):Prop where
 eq:vs=encs ts
 ok:∀ t∈ts,TreeOK t
 n:vs.length≤60
 m:ts.length≤60
 each:∀ v∈vs,v.length≤60
theorem Jq6:∀ {vs:List (List Node)},ValsFit vs→allB vs 60=true→∃ ts,Given vs ts:=by
 intro vs hf h;obtain ⟨h1,h2⟩:=Rv.1 h;have key:∀ l:List (List Node),(∀ v∈l,ValFit v∧fewB v 60=true)→∃ ts:List Tree,l=encs ts∧(∀ t∈ts,TreeOK t)∧∀ v∈l,v.length≤60:=by
  intro l
  induction l with
  | nil=>exact fun _=>⟨[],rfl,fun t ht=>(by cases ht),fun v hv=>(by cases hv)⟩
  | cons v l ih =>
   intro hl;obtain ⟨ts,e,g,q⟩:=ih fun u hu=>hl u (List.mem_cons_of_mem _ hu)
   obtain ⟨hv,hw⟩:=hl v List.mem_cons_self;obtain ⟨t,k1,k2,k3,_⟩:=Fw hv hw;refine ⟨t :: ts,by rw [e,k2];rfl,fun u hu=>?_,fun u hu=>?_⟩
   ·rcases List.mem_cons.1 hu with rfl | hu
    ·refine ⟨k1,?_,by omega⟩;have:=(Jnl.1 hw).2.1;rw [k2] at this;exact this
    ·exact g u hu
   ·rcases List.mem_cons.1 hu with rfl | hu
    ·rw [k2];exact k3
    ·exact q u hu
 obtain ⟨ts,e,g,q⟩:=key vs fun v hv=>⟨hf.each v hv,h2 v hv⟩
 have hl:vs.length=ts.length:=by rw [e,Jri]
 exact ⟨ts,e,g,by omega,by omega,q⟩
theorem Jt4 (vs us:List (List Node)) (hv:ValsFit vs) (hu:ValsFit us):Det cx 9 [.p (.sl (Jqe vs)),.p (.sl (Jqe us))] [] (.p (.bool (allB vs 60 && allB us 60))) []:=by
 have h1:=J2s vs 60 omg hv.len fun v h=>⟨(hv.each v h).len,(hv.each v h).node⟩
 have h2:=J2s us 60 omg hu.len fun v h=>⟨(hu.each v h).len,(hu.each v h).node⟩
 cases hb:allB vs 60
 ·rw [hb] at h1;(refine bgo Tryd.func9 ?_;simp only [go_sem,simprocAttr]);(repeat' (first | ((refine Jqa (h1) ?_);simp only [go_sem,simprocAttr]) | fail))
 ·rw [hb] at h1;(refine bgo Tryd.func9 ?_;simp only [go_sem,simprocAttr]);(repeat' (first | ((first | (refine Jqa (h1) ?_)|(refine Jqa (h2) ?_));simp only [go_sem,simprocAttr]) | fail))
def vA:List Node:=[⟨0,0,[],[],false,0⟩]
def vB:List Node:=[⟨1,0,[],[],false,0⟩]
def vC:List Node:=[⟨2,0,[],[],false,0⟩]
def vD:List Node:=[⟨4,0,[],[],false,0⟩]
theorem orderA:Jqn [vA,vB,vC] [vB,vD]=[1,2]:=by
 have h1:¬ vA=vB:=by decide
 have h2:¬ vA=vD:=by decide
 have h3:¬ vB=vD:=by decide
 have h4:¬ vC=vB:=by decide
 have h5:¬ vC=vD:=by decide
 simp [Jqn,Jrd,Jre,Jru,Jsb,h1,h2,h3,h4,h5,Jqo]
theorem keyA:keyP [vA,vB,vA] [vA,vA,vA,vB]=[0,2,-1,1]:=by
 decide
theorem rowsA:Jqe [vA,vB,vC]=[[.sl [[.int .i64 0,.int .i64 0,.str [],.str [],.bool false,.int .i64 0]]],[.sl [[.int .i64 1,.int .i64 0,.str [],.str [],.bool false,.int .i64 0]]],[.sl [[.int .i64 2,.int .i64 0,.str [],.str [],.bool false,.int .i64 0]]]]:=rfl
theorem rowsB:Jqe [vB,vD]=[[.sl [[.int .i64 1,.int .i64 0,.str [],.str [],.bool false,.int .i64 0]]],[.sl [[.int .i64 4,.int .i64 0,.str [],.str [],.bool false,.int .i64 0]]]]:=rfl
theorem rowsC:Jqe [vA,vB,vA]=[[.sl [[.int .i64 0,.int .i64 0,.str [],.str [],.bool false,.int .i64 0]]],[.sl [[.int .i64 1,.int .i64 0,.str [],.str [],.bool false,.int .i64 0]]],[.sl [[.int .i64 0,.int .i64 0,.str [],.str [],.bool false,.int .i64 0]]]]:=rfl
theorem rowsD:Jqe [vA,vA,vA,vB]=[[.sl [[.int .i64 0,.int .i64 0,.str [],.str [],.bool false,.int .i64 0]]],[.sl [[.int .i64 0,.int .i64 0,.str [],.str [],.bool false,.int .i64 0]]],[.sl [[.int .i64 0,.int .i64 0,.str [],.str [],.bool false,.int .i64 0]]],[.sl [[.int .i64 1,.int .i64 0,.str [],.str [],.bool false,.int .i64 0]]]]:=rfl
theorem rowsE:Jqe [vA,vB,vC,vD]=[[.sl [[.int .i64 0,.int .i64 0,.str [],.str [],.bool false,.int .i64 0]]],[.sl [[.int .i64 1,.int .i64 0,.str [],.str [],.bool false,.int .i64 0]]],[.sl [[.int .i64 2,.int .i64 0,.str [],.str [],.bool false,.int .i64 0]]],[.sl [[.int .i64 4,.int .i64 0,.str [],.str [],.bool false,.int .i64 0]]]]:=rfl
def tA:Tree:=.mk 0 [] false 0 .nil
def tB:Tree:=.mk 1 [] false 0 .nil
theorem encA:encs [tA,tB,tA]=[vA,vB,vA]:=rfl
theorem encB:encs [tA,tA,tA,tB]=[vA,vA,vA,vB]:=rfl
theorem treeA:TreeOK tA:=by
 refine ⟨?_,?_,by decide⟩
 ·unfold tA;rw [Lu];exact ⟨by decide,Sb _,I6⟩
 ·rw [show tA.enc []=vA from rfl];intro n hn;rw [List.mem_singleton.1 hn];decide
theorem treeB:TreeOK tB:=by
 refine ⟨?_,?_,by decide⟩
 ·unfold tB;rw [Lu];exact ⟨by decide,Sb _,I6⟩
 ·rw [show tB.enc []=vB from rfl];intro n hn;rw [List.mem_singleton.1 hn];decide
theorem Jqr:Det cx 10 [] [] (.p (.bool true)) []:=by
 have hO:=Jr1 [vA,vB,vC] [vB,vD] de de de de;rw [orderA,rowsA,rowsB] at hO;have hK:=Jt2 [tA,tB,tA] [tA,tA,tA,tB] de de (by intro t ht;simp only [List.mem_cons,List.not_mem_nil,or_false] at ht;rcases ht with rfl | rfl | rfl <;> first | exact treeA | exact treeB) (by intro t ht;simp only [List.mem_cons,List.not_mem_nil,or_false] at ht;rcases ht with rfl | rfl | rfl | rfl <;> first | exact treeA | exact treeB);rw [encA,encB,keyA,rowsC,rowsD] at hK;have hL:=Jq4 [vA,vB,vC,vD] [vA,vB,vC,vD] de de de de;rw [Jxn,rowsE] at hL;have hI:=Jv3 [1,2] [1,2] de de;rw [decide_eq_true rfl] at hI;have hJ:=Jv3 [0,2,-1,1] [0,2,-1,1] de de;rw [decide_eq_true rfl] at hJ;have q1:Jqb [1,2]=[[.int .i64 1],[.int .i64 2]]:=rfl;have q2:Jqb [0,2,-1,1]=[[.int .i64 0],[.int .i64 2],[.int .i64 (-1)],[.int .i64 1]]:=rfl;rw [q1] at hI hO;rw [q2] at hJ hK;(refine bgo Tryd.func10 ?_;simp only [go_sem,simprocAttr]);refine Jq8 (Jq7 _ (d:=12)) ?_;simp only [go_sem,simprocAttr];(repeat' (first | (refine And.intro (by first | (simp;done)|(simp;omega)) ?_)|((first | (refine Jqy ?_)|(refine Jqh (hO) ?_)|(refine Jqh (hK) ?_)|(refine Jqa (hL) ?_)|(refine Jqa (hI) ?_)|(refine Jqa (hJ) ?_));simp only [go_sem,simprocAttr]) | fail))
def Jsy (m:Nat) (l:List Int) (k:Nat):List (List PV):=(List.range m).map fun j:Nat=>[.bool (decide ((j:Int)∈l.take k))]
attribute [go_sem] Tryd.ntmps7 Tryd.results7
theorem Jt6 (a b:List (List Node)):Jqe (a ++ b)=Jqe a ++ Jqe b:=by simp [Jqe]
theorem Jvz (l:List (List Node)):∀ q∈Jqe l,q.length=1:=fun q hq=>by
 obtain ⟨z,_,rfl⟩:=List.mem_map.1 hq;rfl
def Js2 (l:List (List Node)) (r:Nat):List (List Node):=(l.drop r).reverse
attribute [go_sem] Tryd.ntmps8 Tryd.results8
section
variable {α:Type}
def Jq5 (d:α) (vs:List α) (S:List Nat):List α:=S.map fun s=>vs.getD s d
theorem Js6 {d:α} {vs:List α} {S:List Nat} (hS:∀ s∈S,s<vs.length) {i s:Nat} (h:S[i]? = some s):∃ y,vs[s]? = some y∧(Jq5 d vs S)[i]? = some y:=by
 have hs:=hS s (List.mem_of_getElem? h);refine ⟨vs[s],List.getElem?_eq_getElem hs,?_⟩;unfold Jq5;rw [List.getElem?_map,h];simp [List.getD_eq_getElem?_getD,hs]
theorem Jrl (d:α) (vs:List α) (S:List Nat):(Jq5 d vs S).length=S.length:=by simp [Jq5]
end
section
variable {α:Type} [DecidableEq α]
theorem J3c {l:List α} {y:α} (h:y ∉ l):cntD y l=0:=List.count_eq_zero.2 h
theorem J4x {l:List α} {y:α} (h:y∈l):0<cntD y l:=List.count_pos_iff.2 h
theorem J0c {vs:List α} {y:α} {i:Nat} (h:vs[i]? = some y) (hc:cntD y vs=1):cntD y (vs.take i)=0:=by
 have hi:=(List.getElem?_eq_some_iff.1 h).1;have e1:vs.drop i=y :: vs.drop (i+1):=by rw [List.drop_eq_getElem_cons hi];congr 1;rw [List.getElem?_eq_getElem hi] at h;exact Option.some.inj h
 have e2:=congrArg (cntD y) (List.take_append_drop i vs);rw [Jxu,e1,Jsk,if_pos rfl,hc] at e2;omega
theorem J54 {vs:List α} (hd:∀ (j:Nat) (y:α),vs[j]? = some y→cntD y vs=1) {p q:Nat} {y:α} (hp:vs[p]? = some y) (hq:vs[q]? = some y):p=q:=by
 have key:∀ {p q:Nat},vs[p]? = some y→vs[q]? = some y→¬ p<q:=fun {p q} hp hq h=>by
  have h1:=J0c hq (hd q y hq);have h2:=J4x (l:=vs.take q) (y:=y) (List.mem_of_getElem? (i:=p) (by rw [List.getElem?_take,if_pos h,hp]));omega
 have:=key hp hq;have:=key hq hp;omega
theorem J37 {d:α} {vs:List α} {S:List Nat} (hd:∀ (j:Nat) (y:α),vs[j]? = some y→cntD y vs=1) (hS:∀ s∈S,s<vs.length) (hN:S.Nodup):keyP vs (Jq5 d vs S)=S.map fun s:Nat=>(s:Int):=by
 refine List.ext_getElem? fun i=>?_
 by_cases hi:i<S.length
 ·obtain ⟨s,hs⟩:∃ s,S[i]? = some s:=⟨_,List.getElem?_eq_getElem hi⟩
  obtain ⟨y,h1,h2⟩:=Js6 (d:=d) hS hs;rw [Jr9 (by rw [Jrl];exact hi),List.getElem?_map,hs];simp only [Option.map_some];congr 1;refine (Jtv h2).2 ⟨h1,?_⟩;have e1:cntD y (vs.take s)=0:=J0c h1 (hd s y h1);have e2:cntD y ((Jq5 d vs S).take i)=0:=J3c fun hm=>by
   obtain ⟨j,hj⟩:=List.getElem?_of_mem hm;rw [List.getElem?_take] at hj;split at hj
   ·rename_i hji;obtain ⟨s',hs'⟩:∃ s,S[j]? = some s:=⟨_,List.getElem?_eq_getElem omg⟩
    obtain ⟨y',g1,g2⟩:=Js6 (d:=d) hS hs';rw [g2] at hj;cases hj;have:=J54 hd g1 h1;subst this;have h5:=(List.getElem?_eq_some_iff.1 hs).2;have h6:=(List.getElem?_eq_some_iff.1 hs').2;exact List.pairwise_iff_getElem.1 hN j i omg hi hji (h6.trans h5.symm)
   ·cases hj
  exact e1.trans e2.symm
 ·rw [List.getElem?_eq_none (by rw [Jrc,Jrl];omega),List.getElem?_eq_none (by simp;omega)]
theorem J50 {d:α} {vs:List α} {S:List Nat} (hS:∀ s∈S,s<vs.length):min 1 S.length≤lcsP vs (Jq5 d vs S):=by
 cases S with
 | nil=>simp
 | cons s S =>
  obtain ⟨y,h1,h2⟩:=Js6 (d:=d) (i:=0) hS rfl;have:=Jss (zs:=[y]) (List.singleton_sublist.2 (List.mem_of_getElem? h1)) (List.singleton_sublist.2 (List.mem_of_getElem? h2));simp only [List.length_singleton] at this;omega
end
def memR (n:Nat) (S:List Nat):List (List PV):=(List.range n).map fun j=>[.bool (decide (j∈S))]
theorem Jut (n:Nat) (S:List Nat):(memR n S).length=n:=by simp [memR]
theorem Jtx {n j:Nat} {S:List Nat} (h:j<n):(memR n S)[j]? = some [.bool (decide (j∈S))]:=by simp [memR,h]
theorem J5j (n:Nat):memR n []=List.replicate n [.bool false]:=by
 refine List.ext_getElem? fun j=>?_
 by_cases hj:j<n
 ·rw [Jtx hj,List.getElem?_replicate,if_pos hj];simp
 ·rw [List.getElem?_eq_none (by rw [Jut];omega),List.getElem?_eq_none (by simp;omega)]
theorem J4t {n j:Nat} {S:List Nat} (h:j<n):(memR n S).set j [.bool true]=memR n (S ++ [j]):=by
 refine List.ext_getElem? fun i=>?_
 rw [List.getElem?_set];by_cases hi:i<n
 ·by_cases e:j=i
  ·subst e;rw [if_pos rfl,if_pos (by rw [Jut];exact h),Jtx hi];simp
  ·rw [if_neg e,Jtx hi,Jtx hi];have:¬ i=j:=fun q=>e q.symm
   simp [this]
 ·rw [if_neg omg,List.getElem?_eq_none (by rw [Jut];omega),List.getElem?_eq_none (by rw [Jut];omega)]
def u8L (l:List Nat):List (List PV):=l.map fun n:Nat=>[.int .u8 n]
@[simp] theorem Jt1 (l:List Nat):(u8L l).length=l.length:=by simp [u8L]
theorem J5s {l:List Nat} {i n:Nat} (h:l[i]? = some n):(u8L l)[i]? = some [.int .u8 n]:=by simp [u8L,h]
def Jsg (S:List Nat):List Int:=S.map fun s:Nat=>(s:Int)
theorem J24 (S:List Nat):(Jsg S).length=S.length:=by simp [Jsg]
theorem Jyk {S:List Nat} {i s:Nat} (h:S[i]? = some s):(Jsg S)[i]? = some (s:Int):=by simp [Jsg,h]
structure BytesFit (l:List Nat):Prop where
 len:l.length≤140737488355328
 each:∀ n∈l,n≤255
theorem J3w {ts:List Tree} {S:List Nat} (hS:∀ s∈S,s<ts.length):encs (Jq5 tA ts S)=Jq5 [] (encs ts) S:=by
 unfold encs Jq5;rw [List.map_map];refine List.map_congr_left fun s hs=>?_
 have:=hS s hs;simp [List.getD_eq_getElem?_getD,this]
theorem Jy7 (vs:List (List Node)) (bs:List Nat) (hv:ValsFit vs) (hbs:BytesFit bs):Det cx 8 [.p (.sl (Jqe vs)),.p (.sl (u8L bs))] [] (.p (.bool true)) []:=by
 have hA:=J2s vs 60 omg hv.len fun v h=>⟨(hv.each v h).len,(hv.each v h).node⟩
 have hbl:=hbs.len;cases hb:allB vs 60 with
 | false =>
  rw [hb] at hA;(refine bgo Tryd.func8 ?_;simp only [go_sem,simprocAttr]);(repeat' (first | ((first | (refine Jqa (hA) ?_)|(refine Jqa (Jqr) ?_));simp only [go_sem,simprocAttr]) | fail))
 | true =>
  rw [hb] at hA;by_cases hb2:bs.length≤100
  ·have c0:((100:Int)<(bs.length:Int))=False:=eq_false omg;obtain ⟨ts,a⟩:=Jq6 hv hb;have hvo:∀ v∈vs,v.length≤1000000:=fun v h=>by have:=a.each v h;omega
   have l1:=a.n;have l2:=a.m;have hln:ts.length=vs.length:=by rw [a.eq,Jri]
   have hr0:List.replicate vs.length [PV.bool false]=memR vs.length []:=(J5j _).symm;(refine bgo Tryd.func8 ?_;simp only [go_sem,simprocAttr]);(repeat' (first | ((refine Jqa (hA) ?_);simp only [go_sem,simprocAttr,Jt1,c0]) | fail));refine SWP.loop (fun i:Nat=>⟨Ba 120 [(0,.p (.sl (Jqe vs))),(1,.p (.sl (u8L bs))),(5,.p (.int .i64 i))],[]⟩) (fun i=>i≤vs.length∧∀ (j:Nat) (y:List Node),j<i→vs[j]? = some y→cntD y vs=1) (fun i=>vs.length - i) 0 Jqd ⟨Nat.zero_le _,fun j y hj=>by omega⟩ ?_;rintro i ⟨i1,i2⟩;by_cases hi:i<vs.length
   ·have c1:((i:Int)<(vs.length:Int))=True:=eq_true omg;obtain ⟨y,hy⟩:∃ y,vs[i]? = some y:=⟨_,List.getElem?_eq_getElem hi⟩
    have g1:=Jqj hy;have hM:=J2i vs y omg hvo (hvo y (List.mem_of_getElem? hy));have w1:IntKind.i64.wrap ((i:Int)+1)=((i+1:Nat):Int):=wj1 omg;by_cases h1:cntD y vs=1
    ·rw [h1] at hM;(refine lws ?_;simp only [go_sem,simprocAttr,Ht,c1,g1]);(repeat' (first | ((refine Jqa (hM) ?_);simp only [go_sem,simprocAttr,w1]) | fail));refine ⟨i+1,⟨hi,fun j z hj hz=>?_⟩,by omega,Jqd⟩;by_cases hji:j=i
     ·subst hji;rw [hy] at hz;cases hz;exact h1
     ·exact i2 j z omg hz
    ·have c2:(((cntD y vs:Nat):Int)=1)=False:=eq_false omg;(refine lws ?_;simp only [go_sem,simprocAttr,Ht,c1,g1]);(repeat' (first | ((first | (refine Jqa (hM) ?_)|(refine Jqa (Jqr) ?_));simp only [go_sem,simprocAttr,c2]) | fail))
   ·have c1:((i:Int)<(vs.length:Int))=False:=eq_false omg;have hd:∀ (j:Nat) (y:List Node),vs[j]? = some y→cntD y vs=1:=fun j y h=>i2 j y (by have:=(List.getElem?_eq_some_iff.1 h).1;omega) h
    (refine lws ?_;simp only [go_sem,simprocAttr,Ht,hr0,c1]);(repeat' (first | (refine Jqs ?_) | fail));refine Jq8 (B1 [(36,68),(37,75)] _ sm) ?_;simp only [go_sem,simprocAttr];refine SWP.loop (fun x:Nat×List Nat=>⟨Ba 120 [(0,.p (.sl (Jqe vs))),(1,.p (.sl (u8L bs))),(6,.own 68 0 x.2.length),(7,.own 75 0 x.2.length),(8,.own 40 0 vs.length),(9,.p (.int .i64 x.1))],[(68,.row 3 1 (Jqb (Jsg x.2))),(75,.row 32 1 (Jqe (Jq5 [] vs x.2))),(40,.row 4 1 (memR vs.length x.2))]⟩) (fun x=>x.1≤bs.length∧x.2.length≤x.1∧(∀ s∈x.2,s<vs.length)∧x.2.Nodup) (fun x=>bs.length - x.1) (0,[]) (by rw [show Jqb (Jsg [])=[] from rfl,show Jqe (Jq5 [] vs [])=[] from rfl];exact Jqd) ⟨Nat.zero_le _,Nat.le_refl _,fun s hs=>(by cases hs),List.nodup_nil⟩ ?_;clear i1 i2;rintro ⟨i,S⟩ ⟨i1,i2,i3,i4⟩;simp only at i1 i2 i3 i4;have hpl:(Jq5 [] vs S).length=S.length:=Jrl _ _ _;have hnl:=J24 S;by_cases hgo:i<bs.length∧0<vs.length
    ·have c1:((i:Int)<(bs.length:Int))=True:=eq_true omg;have c2:((0:Int)<(vs.length:Int))=True:=eq_true omg;obtain ⟨n,hn⟩:∃ n,bs[i]? = some n:=⟨_,List.getElem?_eq_getElem hgo.1⟩
     have hn2:=hbs.each n (List.mem_of_getElem? hn);have g1:=J5s hn;obtain ⟨s,hs⟩:∃ s,s=n % vs.length:=⟨_,rfl⟩
     have hsl:s<vs.length:=by have:=Nat.mod_lt n hgo.2;omega
     have tm:(n:Int).tmod (vs.length:Int)=(s:Int):=by subst hs;rfl
     have w1:IntKind.i64.wrap ((i:Int)+1)=((i+1:Nat):Int):=wj1 omg;have w2:IntKind.i64.wrap (n:Int)=(n:Int):=Aa omg omg;have g2:=Jtx (S:=S) hsl;obtain ⟨y,hy⟩:∃ y,vs[s]? = some y:=⟨_,List.getElem?_eq_getElem hsl⟩
     have g3:=Jqj hy;have hv0:((vs.length:Int)=0)=False:=eq_false omg;by_cases hm:s∈S
     ·rw [decide_eq_true hm] at g2;(refine lws ?_;simp only [go_sem,simprocAttr,Ht,Jt1,c1,c1,c2,g1,tm,w1,w2,g2,hv0]);(repeat' (first | (refine And.intro (by first | omega | (simp;done)|(simp;omega)) ?_) | fail));exact ⟨(i+1,S),⟨hgo.1,by simp only;omega,i3,i4⟩,by simp only;omega,Jqd⟩
     ·rw [decide_eq_false hm] at g2;have a1:Jqb (Jsg S) ++ [[.int .i64 (s:Int)]]=Jqb (Jsg (S ++ [s])):=by unfold Jsg;rw [List.map_append,Jrf];rfl
      have a2:Jqe (Jq5 [] vs S) ++ [[.sl (valL y)]]=Jqe (Jq5 [] vs (S ++ [s])):=by
       unfold Jq5;rw [List.map_append,Jt6];simp [Jqe,hy,List.getD_eq_getElem?_getD]
      have a3:=J4t (S:=S) hsl;(refine lws ?_;simp only [go_sem,simprocAttr,Ht,Jqc,Jt1,c1,c1,c2,g1,tm,w1,w2,g2,g3,hv0,hpl,hnl,a1,a2,a3]);(repeat' (first | (refine And.intro (by first | omega | (simp;done)|(simp;omega)) ?_) | fail));refine ⟨(i+1,S ++ [s]),⟨hgo.1,by simp;omega,fun x hx=>?_,?_⟩,by simp only;omega,?_⟩
      ·rcases List.mem_append.1 hx with hx | hx
       ·exact i3 x hx
       ·rw [List.mem_singleton.1 hx];exact hsl
      ·exact List.nodup_append.2 ⟨i4,by simp,fun a ha b hb q=>hm (by rw [List.mem_singleton.1 hb] at q;rw [← q];exact ha)⟩
      ·simp only [List.length_append,List.length_singleton];exact Jqd
    ·have hK:=Jt2 ts (Jq5 tA ts S) omg (by rw [Jrl];omega) a.ok (fun t h=>by
      obtain ⟨j,hj⟩:=List.getElem?_of_mem h;have hjl:=(List.getElem?_eq_some_iff.1 hj).1;rw [Jrl] at hjl;obtain ⟨y,g1,g2⟩:=Js6 (d:=tA) (vs:=ts) (S:=S) (fun s hs=>by rw [hln];exact i3 s hs) (List.getElem?_eq_getElem hjl);rw [g2] at hj;cases hj;exact a.ok _ (List.mem_of_getElem? g1))
     rw [J3w (fun s hs=>by rw [hln];exact i3 s hs),← a.eq,J37 hd i3 i4] at hK;have hL:=Jq4 vs (Jq5 [] vs S) omg (by rw [Jrl];omega) hvo (fun v h=>by
      obtain ⟨j,hj⟩:=List.getElem?_of_mem h;have hjl:=(List.getElem?_eq_some_iff.1 hj).1;rw [Jrl] at hjl;obtain ⟨y,g1,g2⟩:=Js6 (d:=[]) (vs:=vs) (S:=S) i3 (List.getElem?_eq_getElem hjl);rw [g2] at hj;cases hj;exact hvo _ (List.mem_of_getElem? g1))
     have hlr:=J03 vs (Jq5 [] vs S);rw [Jrl] at hlr;have hlo:=J50 (d:=[]) i3;have ol:(S.length≤S.length)=True:=eq_true (Nat.le_refl _);have ot1:(Jqb (Jsg S)).take S.length=Jqb (Jsg S):=List.take_of_length_le (by rw [Jqc,hnl];exact Nat.le_refl _);have ot2:(Jqe (Jq5 [] vs S)).take S.length=Jqe (Jq5 [] vs S):=List.take_of_length_le (by rw [Ht,hpl];exact Nat.le_refl _);have f1:(((lcsP vs (Jq5 [] vs S):Nat):Int)≤(S.length:Int))=True:=eq_true omg;have f2:(min 1 (S.length:Int)≤((lcsP vs (Jq5 [] vs S):Nat):Int))=True:=eq_true omg;have hni:S.map (fun s:Nat=>(s:Int))=Jsg S:=rfl;rw [hni] at hK;refine Jq8 ((Jq7 _ (d:=68)).trans (Jq7 _ (d:=75))) ?_;simp only [go_sem,simprocAttr,Ht,Jqc,hpl,hnl,ol,ot1,ot2];by_cases hx:i<bs.length
     ·have c1:((i:Int)<(bs.length:Int))=True:=eq_true omg;have c2:((0:Int)<(vs.length:Int))=False:=eq_false omg;(refine lws ?_;simp only [go_sem,simprocAttr,Ht,Jt1,c1,c1,c2]);(repeat' (first | ((refine Jqa (hK) ?_);simp only [go_sem,simprocAttr,Jqc,hnl]) | fail));refine SWP.loop (fun j:Nat=>⟨Ba 120 [(0,.p (.sl (Jqe vs))),(6,.p (.sl (Jqb (Jsg S)))),(7,.p (.sl (Jqe (Jq5 [] vs S)))),(11,.p (.sl (Jqb (Jsg S)))),(12,.p (.int .i64 j))],[]⟩) (fun j=>j≤S.length) (fun j=>S.length - j) 0 Jqd (Nat.zero_le _) ?_;rintro j j1;by_cases hj:j<S.length
      ·have d1:((j:Int)<(S.length:Int))=True:=eq_true omg;obtain ⟨s,hs⟩:∃ s,S[j]? = some s:=⟨_,List.getElem?_eq_getElem hj⟩
       have q1:=Jqg (Jyk hs);have w1:IntKind.i64.wrap ((j:Int)+1)=((j+1:Nat):Int):=wj1 omg;(refine lws ?_;simp only [go_sem,simprocAttr,Jqc,hnl,d1]);(repeat' (first | ((refine Jqy ?_);simp only [go_sem,simprocAttr,q1,w1]) | fail));exact ⟨j+1,hj,by omega,Jqd⟩
      ·have d1:((j:Int)<(S.length:Int))=False:=eq_false omg;(refine lws ?_;simp only [go_sem,simprocAttr,Jqc,hnl,d1]);(repeat' (first | ((first | (refine Jqa (hL) ?_)|(refine Jqa (Jqr) ?_));simp only [go_sem,simprocAttr,Ht,hpl,f1,f2]) | fail))
     ·have c1:((i:Int)<(bs.length:Int))=False:=eq_false omg;(refine lws ?_;simp only [go_sem,simprocAttr,Jt1,c1,c1]);(repeat' (first | ((refine Jqa (hK) ?_);simp only [go_sem,simprocAttr,Jqc,hnl]) | fail));refine SWP.loop (fun j:Nat=>⟨Ba 120 [(0,.p (.sl (Jqe vs))),(6,.p (.sl (Jqb (Jsg S)))),(7,.p (.sl (Jqe (Jq5 [] vs S)))),(11,.p (.sl (Jqb (Jsg S)))),(12,.p (.int .i64 j))],[]⟩) (fun j=>j≤S.length) (fun j=>S.length - j) 0 Jqd (Nat.zero_le _) ?_;rintro j j1;by_cases hj:j<S.length
      ·have d1:((j:Int)<(S.length:Int))=True:=eq_true omg;obtain ⟨s,hs⟩:∃ s,S[j]? = some s:=⟨_,List.getElem?_eq_getElem hj⟩
       have q1:=Jqg (Jyk hs);have w1:IntKind.i64.wrap ((j:Int)+1)=((j+1:Nat):Int):=wj1 omg;(refine lws ?_;simp only [go_sem,simprocAttr,Jqc,hnl,d1]);(repeat' (first | ((refine Jqy ?_);simp only [go_sem,simprocAttr,q1,w1]) | fail));exact ⟨j+1,hj,by omega,Jqd⟩
      ·have d1:((j:Int)<(S.length:Int))=False:=eq_false omg;(refine lws ?_;simp only [go_sem,simprocAttr,Jqc,hnl,d1]);(repeat' (first | ((first | (refine Jqa (hL) ?_)|(refine Jqa (Jqr) ?_));simp only [go_sem,simprocAttr,Ht,hpl,f1,f2]) | fail))
  ·have c0:((100:Int)<(bs.length:Int))=True:=eq_true omg;(refine bgo Tryd.func8 ?_;simp only [go_sem,simprocAttr]);(repeat' (first | ((first | (refine Jqa (hA) ?_)|(refine Jqa (Jqr) ?_));simp only [go_sem,simprocAttr,c0,Jt1]) | fail))
attribute [go_sem] Tryd.ntmps6 Tryd.results6
def b2L (ps:List (Nat×Nat)):List (List PV):=ps.map fun p:Nat×Nat=>[.int .u8 p.1,.int .u8 p.2]
@[simp] theorem Jr6 (ps:List (Nat×Nat)):(b2L ps).length=ps.length:=by simp [b2L]
end Go.LX
namespace Go.LX
open Go Go.Proofs Go.RowKit Go.ChangeShapes Go.WideShapes Go.ChangeAt Go.Lib
open Go.Proofs.YtpdaccjebbbbaaaDoor
theorem bVal1:0<Tryd.prog.bytesOf 32:=by decide +kernel
theorem cVal1:Tryd.prog.cellsOf 32=1:=kr
theorem Jr4 {H:Type} {enc:TypeId×Value→H} {w:World} {b:Nat} {v:Value} {d:DataW H} {q:List MemPlace} {ts:List TypeId} {ds:List (DataW H)} (hok:Value.okWide Tryd.prog w .any b 22 v) (h:DataW.Trod enc Tryd.prog w 0 (fun _=>true) true 22 v d q)
  (hz:(DataW.weightsEach Tryd.prog ts ds).all (· ≤ reachBytes)=true) {j:Nat} (h1:ts[j]? = some 22) (h2:ds[j]? = some d):∃ ls:List (List Node),ValsFit ls∧PRep w (Ja w) v (.sl (Jqe ls)):=by
 simp only [Value.okWide,Tryd.underlying22] at hok;obtain ⟨fuel,h⟩:=h;rw [Jkh Tryd.underlying22 hok] at h;obtain ⟨v',ls,e1,g1,g2,g3⟩:=J33 Node.vals Node.cells EFit Tryd.underlying22 cVal1 bVal1 Tryd.underlying32 J49 de bNode (fun _=>rfl) (fun _=>rfl) (fun x p hp=>by simp [Node.cells] at hp;rcases hp with rfl | rfl | rfl | rfl | rfl | rfl <;> rfl) (fun x j p _ h=>Ji6 w _ x j p h) Jly h (J0 hz h1 h2);cases e1;exact ⟨ls,⟨g1,fun l hl=>⟨(g2 l hl).1,(g2 l hl).2⟩⟩,g3⟩
theorem cU8:Tryd.prog.cellsOf 5=1:=kr
theorem J48 {n:Int} (h:(Lit.int .u8 n).wf=true):∃ k:Nat,n=k∧k≤255:=by
 have e1:IntKind.u8.min=0:=by decide
 have e2:IntKind.u8.max=255:=by decide
 simp only [Lit.wf,Bool.and_eq_true,decide_eq_true_eq,e1,e2] at h;exact ⟨n.toNat,by omega,by omega⟩
theorem alG {W:World} (h:laidMetH Tryd.prog Rows.alignTellsRow.laid W):QuoteG W (Ja W):=Jdp h
end Go.LX
