/- Maps, places in strings and in maps: making them, going on. -/
import Derived.Test.YtmejkfclabmijaaGreatDoorPathTextsLxB
import Derived.Maps.RangeRun
import Derived.Lib.UnsafeStr
import Derived.ChangeMaps4
import Derived.Shelf.Abstract
import Derived.Laws.CopyRow
import Derived.Laws.IdiomCopy
import Derived.Lib.ConvBytes
import Derived.Lib.Builder
import Derived.Still
set_option linter.unusedSimpArgs false
set_option linter.unusedVariables false
set_option linter.unusedSectionVars false
set_option linter.unnecessarySimpa false
namespace Go.LX
open Go Go.RowKit
section
variable {P:Program} {Γ:Base} {β:Env} {w:World} {Im:Nat→Prop}
theorem RRx.newObj {s:St} {tmps:Array Value} (h:RRx Γ β Im s tmps w) {d:Nat} (hd:d<1000) {ob:Obj} {o:PObj} (ho:ORep w Im w.heap.size (some ob) o) :
  RRx Γ (Env.upd β d (some ⟨w.heap.size,1,1⟩)) Im (s.newReg d (.obj o)) tmps (w.alloc ob)∧(w.alloc ob).heap[w.heap.size]? = some ob:=by
 have hb:(w.alloc ob).heap[w.heap.size]? = some ob:=Array.getElem?_push_size
 have g:=Grow.alloc (w:=w) (Im:=Im) h.fit.im ob
 refine ⟨h.newReg hd g (fun loc hl=>by cases hl;exact ⟨Nat.le_refl _,by show w.heap.size<(w.heap.push ob).size;rw [Array.size_push];exact Nat.lt_succ_self _⟩) ⟨_,Jv,?_⟩,hb⟩
 rw [hb]
 exact ho.mono (g.keeps h.fit.im)
def X3 (d:Nat) (s:St) (K:St→Prop):Prop:=d<1000∧K ((s.newReg d (.obj (.mp []))).put (some d) (.mref d))
theorem Jdc {s:St} {a:Act} (h:RRx Γ β Im s a.tmps w) {d:Nat} {T:TypeId} {K:St→Prop} (hl:X3 d s K):Wp Γ a d ((Instr.makeMap T none).run P w) K:=by
 obtain ⟨hd,hK⟩:=hl
 obtain ⟨h1,h2⟩:=h.newObj hd (ob:=.map #[] 0) (o:=.mp []) ⟨[],0,rfl,rfl,by simp,by simp,fun i e p he=>by simp at he⟩
 exact ⟨.map (some w.heap.size),w.alloc (.map #[] 0),_,Im,_,.mref d,by simp [Instr.makeMap],h1,⟨_,Jv,rfl⟩,hK⟩
def Jjc (P:Program) (d:Nat) (t:TypeId) (s:St) (x:Operand) (K:St→Prop):Prop :=
 d<1000∧match P.underlying t,s.get x with
 | some .string,.p (.str u)=>K ((s.newReg d (.obj (.sit u 0))).put (some d) (.ptr d 0 0))
 | some (.map _ _),.p .nmap=>K ((s.newReg d (.obj (.mit [] []))).put (some d) (.ptr d 0 0))
 | some (.map _ _),.p (.mp es)=>K ((s.newReg d (.obj (.mit es []))).put (some d) (.ptr d 0 0))
 | _,_=>False
theorem Jjj {s:St} {a:Act} (h:RRx Γ β Im s a.tmps w) {d:Nat} {t:TypeId} {x:Operand} {K:St→Prop} (hl:Jjc P d t s x K):Wp Γ a d ((Instr.range t (a.eval x)).run P w) K:=by
 obtain ⟨hd,hl⟩:=hl
 have hr:=Ec h.fit x
 split at hl
 ·rename_i u ht hx
  rw [hx] at hr
  cases hv:a.eval x <;> rw [hv] at hr <;> cases hr
  obtain ⟨h1,h2⟩:=h.newObj hd (ob:=.stringIter ⟨⟨u⟩⟩ 0) (o:=.sit u 0) rfl
  exact ⟨.pointer (some ⟨w.heap.size,0,none⟩),w.alloc (.stringIter ⟨⟨u⟩⟩ 0),_,Im,_,.ptr d 0 0,by simp [Instr.range,run_underlying ht],h1,⟨_,Jv,rfl⟩,hl⟩
 ·rename_i k e ht hx
  rw [hx] at hr
  cases hv:a.eval x <;> rw [hv] at hr <;> cases hr
  obtain ⟨h1,h2⟩:=h.newObj hd (ob:=.mapIter none 0 #[] 0) (o:=.mit [] []) (.inl ⟨rfl,rfl⟩)
  exact ⟨.pointer (some ⟨w.heap.size,0,none⟩),w.alloc (.mapIter none 0 #[] 0),_,Im,_,.ptr d 0 0,by simp [Instr.range,run_underlying ht],h1,⟨_,Jv,rfl⟩,hl⟩
 ·rename_i k e es ht hx
  rw [hx] at hr
  cases hv:a.eval x <;> rw [hv] at hr <;> cases hr
  rename_i r cl ents hIm hw hn hb hlen hk hv2
  obtain ⟨h1,h2⟩:=h.newObj hd (ob:=.mapIter (some r) cl #[] cl) (o:=.mit es []) (.inr ⟨r,ents,cl,hIm,hw,⟨hlen,hn,hb,fun i e p he hp=>⟨hk i e p he hp,hv2 i e p he hp⟩⟩,rfl,by simp⟩)
  exact ⟨.pointer (some ⟨w.heap.size,0,none⟩),w.alloc (.mapIter (some r) cl #[] cl),_,Im,_,.ptr d 0 0,by simp [Instr.range,run_underlying ht,show (getObj r).run P w=.ok (.map ⟨ents⟩ cl) w by simp [getObj,Sem.run,hw]],h1,⟨_,Jv,rfl⟩,hl⟩
 ·exact hl.elim
theorem Jnj {r:Nat} {x:ByteArray} {p:Nat} (o:Obj) (hb:w.heap[r]? = some (.stringIter x p)):(setObj r o).run P w=.ok () { w with heap:=w.heap.setIfInBounds r o }:=by
 simp [setObj,Sem.run,hb]
theorem Jdm {r:Nat} {x:ByteArray} {p:Nat} (hb:w.heap[r]? = some (.stringIter x p)):(getObj r).run P w=.ok (.stringIter x p) w:=by
 simp [getObj,Sem.run,hb]
theorem Jem {r:Nat} {m:Option Nat} {a c:Nat} {q:Array Nat} (hb:w.heap[r]? = some (.mapIter m a q c)):(getObj r).run P w=.ok (.mapIter m a q c) w:=by
 simp [getObj,Sem.run,hb]
theorem RRx.setObj {s:St} {tmps:Array Value} (h:RRx Γ β Im s tmps w) {d:Nat} {r:Reg} {o:PObj} {loc:Loc} (hd:(d,r)∈s.regs) (hl:β d=some loc) (ob:Obj) (ho:ORep w Im loc.blk (some ob) o) :
  RRx Γ β Im { s with regs:=Iy d (.obj o) s.regs } tmps { w with heap:=w.heap.setIfInBounds loc.blk ob }:=by
 have hlive:=h.fit.live d r loc hd hl
 have hk:Keeps w Im { w with heap:=w.heap.setIfInBounds loc.blk ob } Im:=⟨fun _ h=>h,fun b hb'=>by
  have:loc.blk≠b:=fun e=>hlive.2 (e ▸ hb')
  simp [Array.getElem?_setIfInBounds,this]⟩
 refine h.store hd hl rfl rfl rfl (by simp) (fun k hk'=>by simp [Array.getElem?_setIfInBounds,Ne.symm hk']) ⟨loc,hl,?_⟩
 have:({ w with heap:=w.heap.setIfInBounds loc.blk ob }:World).heap[loc.blk]? = some ob:=by simp [Array.getElem?_setIfInBounds,hlive.1]
 rw [this]
 exact ho.mono hk
def Jkh (s:St) (it:Operand) (isS:Bool) (K:St→L→Prop):Prop :=
 match s.get it with
 | .ptr d 0 0=>match Bj d s.regs,isS with
  | some (.obj (.sit u pos)),true=>(pos<u.length→K { s with regs:=Iy d (.obj (.sit u (pos+(Utf8.decode ⟨⟨u⟩⟩ pos).2))) s.regs } (.tup [.bool true,.int .i64 pos,.int .i32 (Utf8.decode ⟨⟨u⟩⟩ pos).1])) ∧
    (¬ pos<u.length→K s (.tup [.bool false]))
  | some (.obj (.mit es seen)),false=>(∀ i p,es[i]? = some p→i ∉ seen→K { s with regs:=Iy d (.obj (.mit es (seen ++ [i]))) s.regs } (.tup [.bool true,p.1,p.2])) ∧
    ((∀ i,i<es.length→i∈seen)→K s (.tup [.bool false]))
  | _,_=>False
 | _=>False
theorem tup1 {v:Value} {p:PV} (h:PRep w Im v p):LRep β w Im (.tuple #[v]) (.tup [p]):=⟨[v],rfl,rfl,fun i x q hi hq=>by
 cases i with
 | zero=>simp at hi hq;subst hi;subst hq;exact h
 | succ i=>simp at hi⟩
theorem tup3 {v u x:Value} {p q r:PV} (h1:PRep w Im v p) (h2:PRep w Im u q) (h3:PRep w Im x r):LRep β w Im (.tuple #[v,u,x]) (.tup [p,q,r]):=⟨[v,u,x],rfl,rfl,fun i y z hi hz=>by
 match i,hi,hz with
 | 0,hi,hz=>simp at hi hz;subst hi;subst hz;exact h1
 | 1,hi,hz=>simp at hi hz;subst hi;subst hz;exact h2
 | 2,hi,hz=>simp at hi hz;subst hi;subst hz;exact h3
 | i+3,hi,hz=>simp at hi⟩
theorem Jld {s:St} {a:Act} (h:RRx Γ β Im s a.tmps w) {it:Operand} {isS:Bool} {ty:TypeId} {K:St→L→Prop} (hl:Jkh s it isS K) :
  ∃ v w' s' l,(Instr.next (a.eval it) isS ty).run P w=.ok v w'∧RRx Γ β Im s' a.tmps w'∧LRep β w' Im v l∧K s' l:=by
 unfold Jkh at hl
 have hr:=Ec h.fit it
 split at hl
 ·rename_i d hg
  rw [hg] at hr
  obtain ⟨loc,hβ,hv⟩:=hr
  have hz:(0:Nat) * loc.sz+0=0:=by simp
  rw [hz] at hv
  rw [hv]
  split at hl
  ·rename_i u pos hf
   obtain ⟨loc',hβ',ho⟩:=h.fit.regs d _ (Dj hf)
   rw [hβ] at hβ';cases hβ'
   by_cases hp:pos<u.length
   ·have hs:=h.setObj (Dj hf) hβ (.stringIter ⟨⟨u⟩⟩ (pos+(Utf8.decode ⟨⟨u⟩⟩ pos).2)) (o:=.sit u (pos+(Utf8.decode ⟨⟨u⟩⟩ pos).2)) rfl
    refine ⟨_,_,_,_,?_,hs,tup3 (.bool true) (.int .i64 pos) (.int .i32 _),hl.1 hp⟩
    have hsz:pos<(⟨⟨u⟩⟩:ByteArray).size:=hp
    simp only [Instr.next,Sem.run_bind,Jdm ho,Result.andThen_ok,if_pos hsz,Jnj _ ho,Sem.run_pure]
    rfl
   ·refine ⟨_,_,s,_,?_,h,tup1 (.bool false),hl.2 hp⟩
    have hsz:¬ pos<(⟨⟨u⟩⟩:ByteArray).size:=hp
    simp only [Instr.next,Sem.run_bind,Jdm ho,Result.andThen_ok,if_neg hsz,Sem.run_pure]
  ·rename_i es seen hf
   obtain ⟨loc',hβ',ho⟩:=h.fit.regs d _ (Dj hf)
   rw [hβ] at hβ';cases hβ'
   rcases ho with ⟨rfl,ho⟩ | ⟨m,ents,cl,hm,hmw,hM,ho,hsn⟩
   ·refine ⟨_,_,s,_,?_,h,tup1 (.bool false),hl.2 (fun i hi=>absurd hi (Nat.not_lt_zero i))⟩
    simp only [Instr.next,Sem.run_bind,Jem ho,Result.andThen_ok,Sem.run_pure]
   ·have hold:∀ x∈(⟨ents⟩:Array MapEntry).toList,x.born<cl:=fun x hx=>hM.2.2.1 x hx
    have hbo:∀ i (e:MapEntry),ents[i]? = some e→Sj ents i=e.born:=fun i e he=>by simp [Sj,List.getD,he]
    rcases run_next_at (P:=P) w ty loc.blk m cl cl ⟨seen.map (Sj ents)⟩ ⟨ents⟩ cl ho hmw hold (Nat.le_refl _) with ⟨h0,hr⟩ | ⟨e,he,w1,hw1,hr⟩
    ·refine ⟨_,_,s,_,hr,h,tup1 (.bool false),hl.2 (fun i hi=>?_)⟩
     have hi':i<ents.length:=hM.1 ▸ hi
     have hmem:ents[i]∈ents:=List.getElem_mem hi'
     have hnl:ents[i] ∉ (leftOf ⟨ents⟩ ⟨seen.map (Sj ents)⟩).toList:=by
      rw [Array.eq_empty_of_size_eq_zero h0];simp
     simp only [leftOf,Array.toList_filter,List.mem_filter,hmem,true_and,Bool.not_eq_true',Bool.not_eq_false,Array.contains_eq_mem,List.mem_toArray,decide_eq_true_eq,List.mem_map,decide_eq_false_iff_not,Classical.not_not] at hnl
     obtain ⟨j,hj,hje⟩:=hnl
     have hjl:j<ents.length:=hM.1 ▸ hsn j hj
     rw [hbo j ents[j] (List.getElem?_eq_getElem hjl)] at hje
     have:=(List.getElem_inj (i:=j) (j:=i) (h₀:=by simpa using hjl) (h₁:=by simpa using hi') hM.2.1).1 (by simpa using hje)
     exact this ▸ hj
    ·have hg:RRx Γ β Im s a.tmps w1∧w1.heap=w.heap:=by
      rcases hw1 with rfl | rfl
      ·exact ⟨h,rfl⟩
      ·exact ⟨h.grow (Grow.drew h.fit.im),rfl⟩
     obtain ⟨h1,hheap⟩:=hg
     simp only [leftOf,Array.toList_filter,List.mem_filter,Bool.not_eq_true',Array.contains_eq_mem,List.mem_toArray,List.mem_map,decide_eq_false_iff_not,List.mem_toArray] at he
     obtain ⟨he1,he2⟩:=he
     obtain ⟨i,hi,rfl⟩:=List.mem_iff_getElem.1 he1
     have hp:es[i]? = some (es[i]'(hM.1 ▸ hi)):=List.getElem?_eq_getElem _
     have hns:i ∉ seen:=fun hc=>he2 ⟨i,hc,hbo i _ (List.getElem?_eq_getElem hi)⟩
     have hlive:=h1.fit.live d _ loc (Dj hf) hβ
     have hk:Keeps w Im (ChangeMaps.setBlock w1 loc.blk (.mapIter (some m) cl ((⟨seen.map (Sj ents)⟩:Array Nat).push ents[i].born) cl)) Im:=⟨fun _ h=>h,fun b hb'=>by
      have:loc.blk≠b:=fun e=>hlive.2 (e ▸ hb')
      simp [ChangeMaps.setBlock,Array.getElem?_setIfInBounds,this,hheap]⟩
     have hs:=h1.setObj (Dj hf) hβ (.mapIter (some m) cl ((⟨seen.map (Sj ents)⟩:Array Nat).push ents[i].born) cl) (o:=.mit es (seen ++ [i]))
      (.inr ⟨m,ents,cl,hm,by rw [hheap];exact hmw,hM.mono ⟨fun _ h=>h,fun b _=>by rw [hheap]⟩,by simp [hbo i _ (List.getElem?_eq_getElem hi)],fun j hj=>by
       rcases List.mem_append.1 hj with hj | hj
       ·exact hsn j hj
       ·simp at hj;subst hj;exact hM.1 ▸ hi⟩)
     obtain ⟨hpk,hpv⟩:=hM.2.2.2 i _ _ (List.getElem?_eq_getElem hi) hp
     exact ⟨_,_,_,_,hr,hs,tup3 (.bool true) (hpk.mono hk) (hpv.mono hk),hl.1 i _ hp hns⟩
  ·exact hl.elim
 ·exact hl.elim
def mput (k v:PV) (es:List (PV×PV)):Option (List (PV×PV)) :=
 match K2 k es 0 with
 | some (some (i,_))=>some (es.set i (k,v))
 | some none=>some (es ++ [(k,v)])
 | none=>none
def mdel (k:PV) (es:List (PV×PV)):Option (List (PV×PV)) :=
 match K2 k es 0 with
 | some (some (i,_))=>some (es.eraseIdx i)
 | some none=>some es
 | none=>none
def Ns (P:Program) (t:TypeId) (s:St) (m k v:Operand) (K:St→Prop):Prop :=
 match (s.freezeOps [v]).get m with
 | .mref d=>match Bj d (s.freezeOps [v]).regs,mapT P t,(s.freezeOps [v]).get k,(s.freezeOps [v]).get v with
  | some (.obj (.mp es)),some (kt,_),.p kp,.p vp=>Ml P kt kp=true∧∃ es',mput kp vp es=some es'∧K { (s.freezeOps [v]) with regs:=Iy d (.obj (.mp es')) (s.freezeOps [v]).regs }
  | _,_,_,_=>False
 | _=>False
def V4 (P:Program) (t:TypeId) (s:St) (m k:Operand) (K:St→Prop):Prop :=
 match s.get m with
 | .mref d=>match Bj d s.regs,mapT P t,s.get k with
  | some (.obj (.mp es)),some (kt,_),.p kp=>Ml P kt kp=true∧∃ es',mdel kp es=some es'∧K { s with regs:=Iy d (.obj (.mp es')) s.regs }
  | _,_,_=>False
 | _=>False
theorem Jez {P:Program} {kt:TypeId} {d:TypeDesc} {k:PV} {u:Value} (hd:P.underlying kt=some d) (h:Ml P kt k=true) (hu:PRep w Im u k):MapKept.IsKey d u:=by
 unfold Ml at h
 rw [hd] at h
 unfold kfit at h
 simp only at h
 split at h
 ·rename_i q q' n;cases hu;simp only [beq_iff_eq] at h;subst h;rfl
 ·cases hu;trivial
 ·cases hu;trivial
 ·cases h
theorem Jlt {k:PV}:∀ {es:List (PV×PV)} {i j:Nat} {x:PV},K2 k es i=some (some (j,x))→i≤j
 | [],i,j,x,h=>by simp [K2] at h
 | (y,v) :: es,i,j,x,h=>by
  simp only [K2] at h
  split at h
  ·cases h;exact Nat.le_refl _
  ·have:=Jlt h;omega
  ·cases h
theorem Jhe {k:PV}:∀ {es:List (PV×PV)} {i j:Nat} {x:PV} {q:PV×PV},K2 k es i=some (some (j,x))→es[j - i]? = some q→Ww k q.1=some true
 | [],i,j,x,q,h,_=>by simp [K2] at h
 | (y,v) :: es,i,j,x,q,h,hq=>by
  simp only [K2] at h
  split at h
  ·rename_i hk
   cases h
   simp at hq
   subst hq
   exact hk
  ·have hle:=Jlt h
   have e:j - i=(j - (i+1))+1:=by omega
   rw [e] at hq
   exact Jhe h (by simpa using hq)
  ·cases h
theorem Jrb {k x:PV} {u v:Value} (hu:PRep w Im u k) (hv:PRep w Im v x) (h:Ww k x=some true):v=u:=by
 unfold Ww at h
 split at h
 ·split at h
  ·rename_i hk;subst hk;cases hu;cases hv;simp at h;rw [h]
  ·cases h
 ·cases hu;cases hv;simp at h;rw [h]
 ·cases hu;cases hv;simp at h;rw [h]
 ·cases h
theorem Sa {kt:TypeId} {d:TypeDesc} (hk:P.underlying kt=some d) (hd:(∃ q,d=.int q)∨d=.string∨d=.bool) {k:PV} {u:Value} (hu:PRep w Im u k) (hf:Ml P kt k=true) {ents:List MapEntry} {es:List (PV×PV)} {cl:Nat} (hM:MRep w Im ents cl es) {r:Option (Nat×PV)} (hr:K2 k es 0=some r) :
  (r=none∧(Instr.findKey kt u ents).run P w=.ok none w)∨∃ j x v e,r=some (j,x)∧es[j]? = some (v,x)∧ents[j]? = some e∧(Instr.findKey kt u ents).run P w=.ok (some (j,e.val)) w:=by
 have hf':kfit d k=true:=by unfold Ml at hf;rw [hk] at hf;exact hf
 rcases Sm (w:=w) (Im:=Im) hd hu hf' ents es 0 r hM.1 (fun j e p he hp=>(hM.2.2.2 j e p he hp).1) hr with ⟨h1,h2⟩ | ⟨j,x,kv,e,h1,h2,h3,h4⟩
 ·exact .inl ⟨h1,by simp [Instr.findKey,run_underlying hk,h2]⟩
 ·rw [Nat.zero_add] at h1 h4
  exact .inr ⟨j,x,kv,e,h1,h2,h3,by simp [Instr.findKey,run_underlying hk,h4]⟩
theorem S0 {s:St} {a:Act} (h:RRx Γ β Im s a.tmps w) {t:TypeId} {m k v:Operand} {K:St→Prop} (hl:Ns P t s m k v K) :
  ∃ w' s' Im',(Instr.mapUpdate t (a.eval m) (a.eval k) (a.eval v)).run P w=.ok () w'∧K s'∧RRx Γ β Im' s' a.tmps w':=by
 unfold Ns at hl
 obtain ⟨Im',h'⟩:=RRx.freezeOps (s:=s) [v] h
 have rm:=Ec h'.fit m
 have rk:=Ec h'.fit k
 have rv:=Ec h'.fit v
 split at hl <;> first | exact hl.elim | skip
 rename_i d hg
 rw [hg] at rm
 obtain ⟨loc,hβ,hv⟩:=rm
 split at hl <;> first | exact hl.elim | skip
 rename_i es kt et kp vp hr hT hgk hgv
 obtain ⟨hfit,es',hput,hK⟩:=hl
 rw [hgk] at rk
 rw [hgv] at rv
 obtain ⟨ht,dd,hk,hd⟩:=Z1 hT
 have hmem:=Dj hr
 obtain ⟨loc',hβ',ents,cl,ho,hM⟩:=h'.fit.regs d _ hmem
 rw [hβ] at hβ';cases hβ'
 have hgo:(getObj loc.blk).run P w=.ok (.map ⟨ents⟩ cl) w:=by simp [getObj,Sem.run,ho]
 have hset:∀ o,(setObj loc.blk o).run P w=.ok () { w with heap:=w.heap.setIfInBounds loc.blk o }:=fun o=>by simp [setObj,Sem.run,ho]
 have hkey:=Jez (w:=w) (Im:=Im') hk hfit rk
 have hstay:(Instr.keyThatStays (a.eval k) (a.eval k)).run P w=.ok (a.eval k) w:=MapKept.run_keyThatStays hkey
 unfold mput at hput
 split at hput <;> first | (cases hput;done) | skip
 ·rename_i i x0 hfi
  cases hput
  rcases Sa (P:=P) hk hd rk hfit hM hfi with ⟨h0,_⟩ | ⟨j,x,kv,e,h1,h2,h3,h4⟩
  ·cases h0
  ·cases h1
   have hlt:i<ents.length:=(List.getElem?_eq_some_iff.1 h3).1
   have hsame:e.key=a.eval k:=by
    have h5:=(hM.2.2.2 i e _ h3 h2).1
    have:=Jhe hfi h2
    exact Jrb rk h5 this
   have hst:(Instr.keyThatStays e.key (a.eval k)).run P w=.ok (a.eval k) w:=by rw [hsame];exact hstay
   have hM':MRep w Im' (ents.set i { e with key:=a.eval k,val:=a.eval v }) cl (es.set i (kp,vp)):=by
    obtain ⟨m1,m2,m3,m4⟩:=hM
    have hb:(ents.set i { e with key:=a.eval k,val:=a.eval v }).map (·.born)=ents.map (·.born):=by
     apply List.ext_getElem?
     intro q
     simp only [List.getElem?_map,List.getElem?_set]
     split
     ·rename_i hq;subst hq
      have h5:ents[i]=e:=by simpa [List.getElem?_eq_getElem hlt] using h3
      simp [hlt,h5]
     ·rfl
    refine ⟨by simpa using m1,by rw [hb];exact m2,fun e' he'=>?_,fun q e' p he' hp=>?_⟩
    ·rcases List.mem_or_eq_of_mem_set he' with he' | rfl
     ·exact m3 e' he'
     ·exact m3 e (List.mem_of_getElem? h3)
    ·rw [List.getElem?_set] at he' hp
     by_cases hq:i=q
     ·subst hq
      simp only [if_true,hlt,(m1 ▸ hlt:i<es.length)] at he' hp
      cases he';cases hp
      exact ⟨rk,rv⟩
     ·simp only [hq,if_false] at he' hp
      exact m4 q e' p he' hp
   refine ⟨_,_,Im',?_,hK,h'.setObj hmem hβ (.map ⟨ents.set i { e with key:=a.eval k,val:=a.eval v }⟩ cl) ⟨_,cl,rfl,hM'⟩⟩
   have hmod:(⟨ents⟩:Array MapEntry).modify i (fun x=>{ x with key:=a.eval k,val:=a.eval v })=⟨ents.set i { e with key:=a.eval k,val:=a.eval v }⟩:=by
    rw [← Array.toList_inj]
    simp only [Array.toList_modify]
    apply List.ext_getElem?
    intro q
    simp only [List.getElem?_modify,List.getElem?_set]
    by_cases hq:i=q
    ·subst hq
     have h5:ents[i]=e:=by simpa [List.getElem?_eq_getElem hlt] using h3
     simp [hlt,h5]
    ·simp [hq]
   have hgete:((⟨ents⟩:Array MapEntry)[i]?)=some e:=by simpa using h3
   rw [hv]
   simp only [Instr.mapUpdate,Sem.run_bind,run_underlying ht,Result.andThen_ok,hgo,Hx hk hd,h4,hgete,Option.map_some,Option.getD_some,hst,hmod,hset]
 ·rename_i hfi
  cases hput
  rcases Sa (P:=P) hk hd rk hfit hM hfi with ⟨_,h4⟩ | ⟨j,x,kv,e,h1,_⟩
  ·have hM':MRep w Im' (ents ++ [{ key:=a.eval k,val:=a.eval v,born:=cl }]) (cl+1) (es ++ [(kp,vp)]):=by
    obtain ⟨m1,m2,m3,m4⟩:=hM
    refine ⟨by simp [m1],?_,fun e' he'=>?_,fun q e' p he' hp=>?_⟩
    ·rw [List.map_append,List.nodup_append]
     refine ⟨m2,by simp,fun x hx y hy=>?_⟩
     simp at hy;subst hy
     obtain ⟨e',he',rfl⟩:=List.mem_map.1 hx
     exact Nat.ne_of_lt (m3 e' he')
    ·rcases List.mem_append.1 he' with he' | he'
     ·exact Nat.lt_succ_of_lt (m3 e' he')
     ·simp at he';subst he';exact Nat.lt_succ_self _
    ·by_cases hq:q<ents.length
     ·rw [List.getElem?_append_left hq] at he'
      rw [List.getElem?_append_left (m1 ▸ hq)] at hp
      exact m4 q e' p he' hp
     ·rw [List.getElem?_append_right (by omega)] at he'
      rw [List.getElem?_append_right (by omega)] at hp
      rw [m1] at he'
      cases hqq:q - es.length with
      | zero=>rw [hqq] at he' hp;simp at he' hp;subst he';subst hp;exact ⟨rk,rv⟩
      | succ n=>rw [hqq] at he';simp at he'
   refine ⟨_,_,Im',?_,hK,h'.setObj hmem hβ (.map ⟨ents ++ [{ key:=a.eval k,val:=a.eval v,born:=cl }]⟩ (cl+1)) ⟨_,cl+1,rfl,hM'⟩⟩
   have hpush:(⟨ents⟩:Array MapEntry).push { key:=a.eval k,val:=a.eval v,born:=cl } = ⟨ents ++ [{ key:=a.eval k,val:=a.eval v,born:=cl }]⟩:=by simp
   rw [hv]
   simp only [Instr.mapUpdate,Sem.run_bind,run_underlying ht,Result.andThen_ok,hgo,Hx hk hd,h4,hpush,hset]
  ·cases h1
theorem Jfn {s:St} {a:Act} (h:RRx Γ β Im s a.tmps w) {t ty:TypeId} {ts:List TypeId} {m k:Operand} {K:St→Prop} (hl:V4 P t s m k K) :
  ∃ w' s',(Builtin.delete_ ⟨t :: ts⟩ ty #[a.eval m,a.eval k]).run P w=.ok (.tuple #[]) w'∧K s'∧RRx Γ β Im s' a.tmps w':=by
 unfold V4 at hl
 have rm:=Ec h.fit m
 have rk:=Ec h.fit k
 split at hl <;> first | exact hl.elim | skip
 rename_i d hg
 rw [hg] at rm
 obtain ⟨loc,hβ,hv⟩:=rm
 split at hl <;> first | exact hl.elim | skip
 rename_i es kt et kp hr hT hgk
 obtain ⟨hfit,es',hput,hK⟩:=hl
 rw [hgk] at rk
 obtain ⟨ht,dd,hk,hd⟩:=Z1 hT
 have hmem:=Dj hr
 obtain ⟨loc',hβ',ents,cl,ho,hM⟩:=h.fit.regs d _ hmem
 rw [hβ] at hβ';cases hβ'
 have hgo:(getObj loc.blk).run P w=.ok (.map ⟨ents⟩ cl) w:=by simp [getObj,Sem.run,ho]
 have hset:∀ o,(setObj loc.blk o).run P w=.ok () { w with heap:=w.heap.setIfInBounds loc.blk o }:=fun o=>by simp [setObj,Sem.run,ho]
 unfold mdel at hput
 split at hput <;> first | (cases hput;done) | skip
 ·rename_i i x0 hfi
  cases hput
  rcases Sa (P:=P) hk hd rk hfit hM hfi with ⟨h0,_⟩ | ⟨j,x,kv,e,h1,h2,h3,h4⟩
  ·cases h0
  ·cases h1
   have hlt:i<ents.length:=(List.getElem?_eq_some_iff.1 h3).1
   have hM':MRep w Im (ents.eraseIdx i) cl (es.eraseIdx i):=by
    obtain ⟨m1,m2,m3,m4⟩:=hM
    refine ⟨by simp [List.length_eraseIdx,m1],?_,fun e' he'=>m3 e' (List.mem_of_mem_eraseIdx he'),fun q e' p he' hp=>?_⟩
    ·rw [ChangeMaps.map_eraseIdx];exact m2.sublist (List.eraseIdx_sublist _ _)
    ·rw [List.getElem?_eraseIdx] at he' hp
     split at he'
     ·rename_i hq;rw [if_pos hq] at hp;exact m4 q e' p he' hp
     ·rename_i hq;rw [if_neg hq] at hp;exact m4 (q+1) e' p he' hp
   refine ⟨_,_,?_,hK,h.setObj hmem hβ (.map ⟨ents.eraseIdx i⟩ cl) ⟨_,cl,rfl,hM'⟩⟩
   have her:(⟨ents⟩:Array MapEntry).eraseIdxIfInBounds i=⟨ents.eraseIdx i⟩:=by
    rw [← Array.toList_inj];simp
   rw [hv]
   simp only [Builtin.delete_,Sem.run_bind,List.getElem?_toArray,List.getElem?_cons_zero,run_underlying ht,Result.andThen_ok,hgo,Hx hk hd,h4,her,hset]
   simp [run_underlying ht,hgo,Hx hk hd,h4,her,hset]
 ·rename_i hfi
  cases hput
  rcases Sa (P:=P) hk hd rk hfit hM hfi with ⟨_,h4⟩ | ⟨j,x,kv,e,h1,_⟩
  ·refine ⟨_,_,?_,hK,h.setObj hmem hβ (.map ⟨ents⟩ cl) ⟨_,cl,rfl,hM⟩⟩
   rw [hv]
   simp [Builtin.delete_,run_underlying ht,hgo,Hx hk hd,h4,hset]
  ·cases h1
def Jdq (s:St) (it:Operand) (K:L→Prop):Prop :=
 match s.get it with
 | .ptr d 0 0=>match Bj d s.regs with
  | some (.obj (.mit es seen))=>∃ i,seen.getLast? = some i∧∃ p,es[i]? = some p∧K (.tup [p.1,p.2])
  | _=>False
 | _=>False
theorem Jie {s:St} {a:Act} (hf:Fit β w Im s a.tmps) {it:Operand} {K:L→Prop} (hl:Jdq s it K):∃ v l,(Instr.entry (a.eval it)).run P w=.ok v w∧LRep β w Im v l∧K l:=by
 unfold Jdq at hl
 have hr:=Ec hf it
 split at hl <;> first | exact hl.elim | skip
 rename_i d hg
 rw [hg] at hr
 obtain ⟨loc,hβ,hv⟩:=hr
 have hz:(0:Nat) * loc.sz+0=0:=by simp
 rw [hz] at hv
 split at hl <;> first | exact hl.elim | skip
 rename_i es seen hfr
 obtain ⟨i,hi,p,hp,hK⟩:=hl
 obtain ⟨loc',hβ',ho⟩:=hf.regs d _ (Dj hfr)
 rw [hβ] at hβ';cases hβ'
 rcases ho with ⟨rfl,ho⟩ | ⟨m,ents,cl,hm,hmw,hM,ho,hsn⟩
 ·simp at hp
 ·obtain ⟨hlt,rfl⟩:=List.getElem?_eq_some_iff.1 hp
  have hlt':i<ents.length:=hM.1 ▸ hlt
  have he:ents[i]? = some ents[i]:=List.getElem?_eq_getElem hlt'
  have hb:Sj ents i=ents[i].born:=by simp [Sj,List.getD,he]
  have hback:((⟨seen.map (Sj ents)⟩:Array Nat).back?)=some ents[i].born:=by
   rw [← hb,Array.back?_eq_getElem?]
   rw [List.getLast?_eq_getElem?] at hi
   simp [hi]
  have hfind:ents.find? (fun e=>e.born == ents[i].born)=some ents[i]:=by
   rw [List.find?_eq_some_iff_getElem]
   refine ⟨by simp,i,hlt',rfl,fun j hj=>?_⟩
   simp only [Bool.not_eq_true',beq_eq_false_iff_ne]
   intro hc
   have:=(List.getElem_inj (i:=j) (j:=i) (h₀:=by simp;omega) (h₁:=by simpa using hlt') hM.2.1).1 (by simpa using hc)
   omega
  obtain ⟨hpk,hpv⟩:=hM.2.2.2 i _ _ he hp
  refine ⟨.tuple #[ents[i].key,ents[i].val],_,?_,tup2 hpk hpv,hK⟩
  have hgm:(getObj m).run P w=.ok (.map ⟨ents⟩ cl) w:=by simp [getObj,Sem.run,hmw]
  rw [hv]
  simp [Instr.entry,Jem ho,hback,hgm,hfind]
def Rl (P:Program) (t:TypeId) (s:St) (x y:Operand) (K:St→L→Prop):Prop :=
 match s.get x,s.get y with
 | .ptr d 0 0,.p (.int .i64 n)=>match Bj d s.regs with
  | some (.row T 1 es)=>P.underlying t=some (.pointer T)∧P.cellsOf T=1∧∃ bs,Lk es=some bs∧n=bs.length∧bs≠[]∧bs.length≤9223372036854775807 ∧
    K (s.forget d) (.p (.str bs))
  | _=>False
 | _,_=>False
theorem Jag {s:St} {a:Act} (h:RRx Γ β Im s a.tmps w) {t it ty:TypeId} {x y:Operand} {K:St→L→Prop} (hl:Rl P t s x y K) :
  ∃ v w' s' l,(Builtin.unsafeString_ #[t,it] ty #[a.eval x,a.eval y]).run P w=.ok v w'∧RRx Γ β Im s' a.tmps w'∧LRep β w' Im v l∧K s' l:=by
 unfold Rl at hl
 have rx:=Ec h.fit x
 have ry:=Ec h.fit y
 split at hl <;> first | exact hl.elim | skip
 rename_i d n hg hg2
 rw [hg] at rx
 rw [hg2] at ry
 obtain ⟨loc,hβ,hv⟩:=rx
 have hv2:a.eval y=.int .i64 n:=by generalize a.eval y=v at ry;cases ry;rfl
 split at hl <;> first | exact hl.elim | skip
 rename_i T es hr
 obtain ⟨hp,hc,bs,hbs,rfl,hne,h63,hK⟩:=hl
 have hmem:=Dj hr
 rcases h.fit.regs d _ hmem with ⟨hn,_⟩ | ⟨loc',cur,hβ',hsz,hb,hcl,hle,hml,hel,hcell⟩
 ·rw [hβ] at hn;cases hn
 rw [hβ] at hβ';cases hβ'
 obtain ⟨b1,b2⟩:=Ub hbs
 have hz:(0:Nat) * loc.sz+0=0:=by simp
 rw [hz] at hv
 have hrun:=Lib.run_unsafeString_row (P:=P) (w:=w) t it ty T hp hc loc.blk cur.length (by simp [World.shape?,hb]) bs hne (by omega) h63 (fun j x hx=>by
  obtain ⟨e,he⟩:=getElem?_of_length b1 hx
  obtain ⟨b,hb',hbe⟩:=b2 j e he
  rw [hx] at hb';cases hb'
  subst hbe
  obtain ⟨v,hv',hp'⟩:=hcell j _ 0 _ he rfl
  cases hp'
  rw [Ko,Nat.zero_add,Om hb]
  simpa using hv')
 have hf:(w.freeze ⟨loc.blk,0,none⟩ bs.length).os=w.os∧(w.freeze ⟨loc.blk,0,none⟩ bs.length).tape=w.tape∧(w.freeze ⟨loc.blk,0,none⟩ bs.length).output=w.output∧(w.freeze ⟨loc.blk,0,none⟩ bs.length).heap.size=w.heap.size ∧
   ∀ k,k≠loc.blk→(w.freeze ⟨loc.blk,0,none⟩ bs.length).heap[k]? = w.heap[k]?:=by
  unfold World.freeze
  split
  ·exact ⟨rfl,rfl,rfl,rfl,fun _ _=>rfl⟩
  ·refine ⟨rfl,rfl,rfl,by simp,fun k hk=>by simp [Array.getElem?_modify,Ne.symm hk]⟩
 refine ⟨_,_,s.forget d,.p (.str bs),by rw [hv,hv2];exact hrun,?_,PRep.str bs,hK⟩
 exact h.spoil hmem hf.1 hf.2.1 hf.2.2.1 (Nat.le_of_eq hf.2.2.2.1.symm) fun k _ hne=>hf.2.2.2.2 k (hne loc hβ)
end
end Go.LX
namespace Go.LX
open Go Go.RowKit Go.Proofs
abbrev Regs:=List (Nat×Reg)
structure CallStep (β:Env) (w:World) (Im:Nat→Prop) (rs:Regs) (β':Env) (w':World) (Im':Nat→Prop) (rs':Regs):Prop where
 os:w'.os=w.os
 tape:w'.tape=w.tape
 output:w'.output=w.output
 size:w.heap.size≤w'.heap.size
 block:∀ k,k<w.heap.size→(∀ d r loc,(d,r)∈rs→β d=some loc→loc.blk≠k)→w'.heap[k]? = w.heap[k]?
 imin:∀ b,Im b→Im' b
 imnew:∀ b,Im' b→Im b∨w.heap.size≤b∨∃ d r loc,(d,r)∈rs∧β d=some loc∧loc.blk=b
 env:∀ d,1000≤d→d<500000→β' d=β d
 keys:∀ d r,(d,r)∈rs'→d=900∨∃ r0,(d,r0)∈rs
 regnew:∀ d r loc,(d,r)∈rs'→β' d=some loc→w.heap.size≤loc.blk∨∃ d r loc',(d,r)∈rs∧β d=some loc'∧loc'.blk=loc.blk
 fit:Fit β' w' Im' ⟨[],rs'⟩ #[]
def B2 (X:Cx) (f:FuncId) (args:List L) (rs:Regs) (Post:L→Regs→Prop):Prop :=
 Enters X.P f∧∀ (β:Env) (Im:Nat→Prop) (w:World) (vs:List Value),X.G w Im→Fit β w Im ⟨args,rs⟩ ⟨vs⟩ →
  Calls X.P f ⟨vs⟩ w fun e w'=>∃ v l rs' β' Im',e=.returned v∧Post l rs'∧LRep β' w' Im' v l∧CallStep β w Im rs β' w' Im' rs'
theorem B2.mono {X:Cx} {f:FuncId} {args:List L} {rs:Regs} {Post Post':L→Regs→Prop} (h:B2 X f args rs Post) (hp:∀ l rs',Post l rs'→Post' l rs'):B2 X f args rs Post' :=
 ⟨h.1,fun β Im w vs hg hf=>(h.2 β Im w vs hg hf).mono fun _ _ ⟨v,l,rs',β',Im',he,hP,hr⟩=>⟨v,l,rs',β',Im',he,hp _ _ hP,hr⟩⟩
abbrev Ren:=List (Nat×Nat)
def upId:Ren→Nat→Option Nat
 | [],_=>none
 | (d,n) :: ρ,e=>if d=e then some n else upId ρ e
def dnId:Ren→Nat→Option Nat
 | [],_=>none
 | (d,n) :: ρ,m=>if n=m then some d else dnId ρ m
def L.ptrO (o:Option Nat) (i j:Nat):L:=match o with | some n=>.ptr n i j | none=>.junk
def L.ownO (o:Option Nat) (off len:Nat):L:=match o with | some n=>.own n off len | none=>.junk
def L.mrefO (o:Option Nat):L:=match o with | some n=>.mref n | none=>.junk
def L.fnO (f:FuncId) (o:Option (List Nat)):L:=match o with | some ns=>.fn f ns | none=>.junk
def L.cfnO (f:FuncId) (o:Option (List Nat)):L:=match o with | some ns=>.cfn f ns | none=>.junk
def L.map (f:Nat→Option Nat):L→L
 | .ptr d i j=>L.ptrO (f d) i j
 | .own d off len=>L.ownO (f d) off len
 | .fn g ds=>L.fnO g (Gv f ds)
 | .cfn g ds=>L.cfnO g (Gv f ds)
 | .mref d=>L.mrefO (f d)
 | l=>l
def Reg.map (f:Nat→Option Nat):Reg→Reg
 | .var T cs=>.var T (cs.map (L.map f))
 | .row T sz es=>.row T sz es
 | .lrow T sz fu es=>.lrow T sz fu (es.map fun e=>e.map (L.map f))
 | .obj o=>.obj o
theorem LRep.map {β β':Env} {w:World} {Im:Nat→Prop} {f:Nat→Option Nat} (hf:∀ d n,f d=some n→β' n=β d) {v:Value} {l:L} (h:LRep β w Im v l):LRep β' w Im v (l.map f):=by
 have fn:∀ (vs:List Value) (ds ns:List Nat),Gv f ds=some ns→vs.length=ds.length→(∀ (i:Nat) (x:Value) (d:Nat),vs[i]? = some x→ds[i]? = some d→∃ loc,β d=some loc∧x=.pointer (some ⟨loc.blk,0,none⟩)) →
   vs.length=ns.length∧∀ (i:Nat) (x:Value) (d:Nat),vs[i]? = some x→ns[i]? = some d→∃ loc,β' d=some loc∧x=.pointer (some ⟨loc.blk,0,none⟩):=by
  intro vs ds ns ha hl hx
  obtain ⟨h1,h2⟩:=Ha ha
  refine ⟨hl.trans h1,fun i x n hi hn=>?_⟩
  obtain ⟨d,hd⟩:=getElem?_of_length h1 hn
  obtain ⟨loc,h3,h4⟩:=hx i x d hi hd
  exact ⟨loc,by rw [hf d n (h2 i d n hd hn)];exact h3,h4⟩
 cases l with
 | ptr d i j =>
  simp only [L.map]
  cases hd:f d with
  | none=>trivial
  | some n=>simpa only [L.ptrO,LRep,hf d n hd] using h
 | own d off len =>
  simp only [L.map]
  cases hd:f d with
  | none=>trivial
  | some n=>simpa only [L.ownO,LRep,hf d n hd] using h
 | mref d =>
  simp only [L.map]
  cases hd:f d with
  | none=>trivial
  | some n=>simpa only [L.mrefO,LRep,hf d n hd] using h
 | fn g ds =>
  simp only [L.map]
  cases hd:Gv f ds with
  | none=>trivial
  | some ns =>
   obtain ⟨vs,hv,hl,hx⟩:=h
   obtain ⟨h1,h2⟩:=fn vs ds ns hd hl hx
   exact ⟨vs,hv,h1,h2⟩
 | cfn g ds =>
  simp only [L.map]
  cases hd:Gv f ds with
  | none=>trivial
  | some ns =>
   obtain ⟨vs,hv,hl,hx⟩:=h
   obtain ⟨h1,h2⟩:=fn vs ds ns hd hl hx
   exact ⟨vs,hv,h1,h2⟩
 | p x=>exact h
 | eptr cs=>exact h
 | yld l=>exact h
 | tup xs=>exact h
 | junk=>trivial
theorem map_cell (f:Nat→Option Nat) (l:L) (h:l.cellOK=true∨l=.junk):(l.map f).cellOK=true∨l.map f=.junk:=by
 rcases h with h | rfl
 ·cases l with
  | ptr d i j=>simp only [L.map];cases f d <;> first | exact .inl rfl | exact .inr rfl
  | own d i j=>simp only [L.map];cases f d <;> first | exact .inl rfl | exact .inr rfl
  | mref d=>simp only [L.map];cases f d <;> first | exact .inl rfl | exact .inr rfl
  | fn g ds=>simp only [L.map];cases Gv f ds <;> first | exact .inl rfl | exact .inr rfl
  | cfn g ds=>simp only [L.map];cases Gv f ds <;> first | exact .inl rfl | exact .inr rfl
  | _=>exact .inl h
 ·exact .inr rfl
theorem K5.map {β β':Env} {w:World} {Im:Nat→Prop} {f:Nat→Option Nat} (hf:∀ d n,f d=some n→β' n=β d) {d n:Nat} (hd:β' n=β d) {r:Reg} (h:K5 β w Im d r):K5 β' w Im n (r.map f):=by
 cases r with
 | var T cs =>
  obtain ⟨loc,cur,h1,h2,h3,h4,h5,h6⟩:=h
  refine ⟨loc,cur,by rw [hd];exact h1,by simpa using h2,h3,h4,by simpa using h5,fun j v l hv hl=>?_⟩
  rw [List.getElem?_map] at hl
  obtain ⟨l',hl2,rfl⟩:=Option.map_eq_some_iff.1 hl
  exact ⟨(h6 j v l' hv hl2).1.map hf,map_cell f l' (h6 j v l' hv hl2).2⟩
 | row T sz es =>
  rcases h with ⟨h1,h2⟩ | ⟨loc,cur,h1,h2⟩
  ·exact .inl ⟨by rw [hd];exact h1,h2⟩
  ·exact .inr ⟨loc,cur,by rw [hd];exact h1,h2⟩
 | lrow T sz fu es =>
  rcases h with ⟨h1,h2⟩ | ⟨loc,cur,h1,h2,h3,h4,h5,h6,h7,h8,h9⟩
  ·exact .inl ⟨by rw [hd];exact h1,by simp [h2]⟩
  ·refine .inr ⟨loc,cur,by rw [hd];exact h1,h2,h3,h4,by simpa using h5,by simpa using h6,h7,fun x hx=>?_,Je6 (fun v l hl=>hl.map hf) (map_cell f) h9⟩
   obtain ⟨y,hy,rfl⟩:=List.mem_map.1 hx
   simpa using h8 y hy
 | obj o =>
  obtain ⟨loc,h1,h2⟩:=h
  exact ⟨loc,by rw [hd];exact h1,h2⟩
structure RenOK (ρ:Ren):Prop where
 inj:∀ d d' n,upId ρ d=some n→upId ρ d'=some n→d=d'
 ge:∀ d n,upId ρ d=some n→1000≤n
 fix:∀ d n,upId ρ d=some n→1000≤d→d<500000→n<500000
 back:∀ n d,dnId ρ n=some d ↔ upId ρ d=some n
def Lq (ρ:Ren):Regs→Regs
 | []=>[]
 | (d,r) :: rs=>match upId ρ d with
  | some n=>(n,r.map (upId ρ)) :: Lq ρ rs
  | none=>Lq ρ rs
theorem Mt {ρ:Ren} {n:Nat} {q:Reg}:∀ {rs:Regs},(n,q)∈Lq ρ rs→∃ d r,(d,r)∈rs∧upId ρ d=some n∧q=r.map (upId ρ)
 | [],h=>by cases h
 | (d,r) :: rs,h=>by
  simp only [Lq] at h
  split at h
  ·rename_i m hm
   rcases List.mem_cons.1 h with h | h
   ·cases h;exact ⟨d,r,List.mem_cons_self,hm,rfl⟩
   ·obtain ⟨d',r',h1,h2,h3⟩:=Mt h;exact ⟨d',r',List.mem_cons_of_mem _ h1,h2,h3⟩
  ·obtain ⟨d',r',h1,h2,h3⟩:=Mt h;exact ⟨d',r',List.mem_cons_of_mem _ h1,h2,h3⟩
theorem Ug {ρ:Ren} (hρ:RenOK ρ):∀ {rs:Regs},(rs.map (·.1)).Nodup→((Lq ρ rs).map (·.1)).Nodup
 | [],_=>.nil
 | (d,r) :: rs,h=>by
  simp only [List.map_cons,List.nodup_cons] at h
  simp only [Lq]
  split
  ·rename_i n hn
   simp only [List.map_cons,List.nodup_cons]
   refine ⟨fun hm=>?_,Ug hρ h.2⟩
   obtain ⟨⟨n',q⟩,hq,he⟩:=List.mem_map.1 hm
   simp only at he
   subst he
   obtain ⟨d',r',h1,h2,_⟩:=Mt hq
   exact h.1 (List.mem_map.2 ⟨(d',r'),h1,(hρ.inj d' d n' h2 hn)⟩)
  ·exact Ug hρ h.2
def Wu (ρ:Ren) (β:Env):Env:=fun n=>match dnId ρ n with | some d=>β d | none=>none
theorem Nj {ρ:Ren} (hρ:RenOK ρ) {β:Env} {d n:Nat} (h:upId ρ d=some n):Wu ρ β n=β d:=by
 simp only [Wu,(hρ.back n d).2 h]
section
variable {β:Env} {w:World} {Im:Nat→Prop}
theorem Fit.call {s:St} {tmps:Array Value} (h:Fit β w Im s tmps) {ρ:Ren} (hρ:RenOK ρ) {args:List L} {vs:List Value} (hl:vs.length=args.length) (ha:∀ (i:Nat) (v:Value) (l:L),vs[i]? = some v→args[i]? = some l→LRep β w Im v l) :
  Fit (Wu ρ β) w Im ⟨args.map (L.map (upId ρ)),Lq ρ s.regs⟩ ⟨vs⟩ where
 size:=by simpa using hl
 tmps i l hl':=by
  simp only [List.getElem?_map] at hl'
  obtain ⟨l',hl2,rfl⟩:=Option.map_eq_some_iff.1 hl'
  obtain ⟨v,hv⟩:=getElem?_of_length hl hl2
  have:(⟨vs⟩:Array Value).getD i undef=v:=by simp [Array.getD_eq_getD_getElem?,hv]
  rw [this]
  exact (ha i v l' hv hl2).map fun d n hd=>Nj hρ hd
 regs n q hq:=by
  obtain ⟨d,r,h1,h2,rfl⟩:=Mt hq
  exact (h.regs d r h1).map (fun d n hd=>Nj hρ hd) (Nj hρ h2)
 nodup:=Ug hρ h.nodup
 live n q loc hq hl:=by
  obtain ⟨d,r,h1,h2,rfl⟩:=Mt hq
  rw [Nj hρ h2] at hl
  exact h.live d r loc h1 hl
 apart n q n' q' loc loc' hq hq' hne hl hl':=by
  obtain ⟨d,r,h1,h2,rfl⟩:=Mt hq
  obtain ⟨d',r',h1',h2',rfl⟩:=Mt hq'
  rw [Nj hρ h2] at hl
  rw [Nj hρ h2'] at hl'
  exact h.apart d r d' r' loc loc' h1 h1' (fun e=>hne (by subst e;rw [h2] at h2';exact Option.some.inj h2')) hl hl'
 im:=h.im
def findKey (d:Nat):Regs→Bool
 | []=>false
 | (e,_) :: rest=>if e=d then true else findKey d rest
theorem U8 {d:Nat}:∀ {rs:Regs},findKey d rs=true ↔ ∃ r,(d,r)∈rs
 | []=>by simp [findKey]
 | (e,q) :: rs=>by
  simp only [findKey]
  split
  ·rename_i h;subst h;simp only [true_iff];exact ⟨q,List.mem_cons_self⟩
  ·rename_i h
   rw [U8]
   constructor
   ·rintro ⟨r,hr⟩;exact ⟨r,List.mem_cons_of_mem _ hr⟩
   ·rintro ⟨r,hr⟩
    rcases List.mem_cons.1 hr with hr | hr
    ·cases hr;exact absurd rfl h
    ·exact ⟨r,hr⟩
def Md (ρ:Ren) (nw:Option Nat) (n:Nat):Option Nat :=
 match nw with
 | none=>dnId ρ n
 | some d=>if n=900 then some d else match dnId ρ n with
  | some e=>if e=d then none else some e
  | none=>none
def L3 (bad:List Nat) (d:Nat):Option Nat:=if bad.contains d=true then none else some d
def Mc (ρ:Ren) (nw:Option Nat):List Nat :=
 match nw with
 | none=>(ρ.filter fun x=>decide (500000≤x.2)).map (·.1)
 | some d=>d :: (ρ.filter fun x=>decide (500000≤x.2)).map (·.1)
def Zd (nw:Option Nat) (e:Nat):Bool :=
 match nw with
 | none=>true
 | some d=>decide (e≠d)
def L0 (ρ:Ren) (nw:Option Nat) (bad:List Nat) (rs':Regs):Regs→Regs
 | []=>[]
 | (e,q) :: rs=>if Zd nw e=true then match upId ρ e with
   | some n=>match Bj n rs' with
    | some r=>(e,r.map (Md ρ nw)) :: L0 ρ nw bad rs' rs
    | none=>L0 ρ nw bad rs' rs
   | none=>(e,q.map (L3 bad)) :: L0 ρ nw bad rs' rs
  else L0 ρ nw bad rs' rs
def Ra (ρ:Ren) (nw:Option Nat) (rs':Regs):Regs :=
 match nw with
 | none=>[]
 | some d=>match Bj 900 rs' with
  | some r=>[(d,r.map (Md ρ nw))]
  | none=>[]
def St.after (ρ:Ren) (nw:Option Nat) (rs':Regs) (s:St):St:=⟨s.tmps.map (L.map (L3 (Mc ρ nw))),Ra ρ nw rs' ++ L0 ρ nw (Mc ρ nw) rs' s.regs⟩
def L1 (ρ:Ren) (nw:Option Nat) (β β':Env):Env:=fun e =>
 if nw=some e then β' 900 else match upId ρ e with
 | some n=>β' n
 | none=>β e
theorem Nk {ρ:Ren} {nw:Option Nat} {bad:List Nat} {rs':Regs} {e:Nat} {q:Reg}:∀ {rs:Regs},(e,q)∈L0 ρ nw bad rs' rs→nw≠some e ∧
  ((∃ n r r0,upId ρ e=some n∧(n,r)∈rs'∧(e,r0)∈rs∧q=r.map (Md ρ nw))∨(upId ρ e=none∧∃ r0,(e,r0)∈rs∧q=r0.map (L3 bad)))
 | [],h=>by cases h
 | (e',q') :: rs,h=>by
  have lift:(nw≠some e∧((∃ n r r0,upId ρ e=some n∧(n,r)∈rs'∧(e,r0)∈rs∧q=r.map (Md ρ nw))∨(upId ρ e=none∧∃ r0,(e,r0)∈rs∧q=r0.map (L3 bad)))) →
    nw≠some e∧((∃ n r r0,upId ρ e=some n∧(n,r)∈rs'∧(e,r0)∈(e',q') :: rs∧q=r.map (Md ρ nw))∨(upId ρ e=none∧∃ r0,(e,r0)∈(e',q') :: rs∧q=r0.map (L3 bad))):=by
   rintro ⟨h1,h2⟩
   refine ⟨h1,h2.imp ?_ ?_⟩
   ·rintro ⟨n,r,r0,a,b,c,d⟩;exact ⟨n,r,r0,a,b,List.mem_cons_of_mem _ c,d⟩
   ·rintro ⟨a,r0,b,c⟩;exact ⟨a,r0,List.mem_cons_of_mem _ b,c⟩
  simp only [L0] at h
  split at h
  ·rename_i hk
   have hne:nw≠some e':=by
    intro e;subst e;simp [Zd] at hk
   split at h
   ·rename_i n hn
    split at h
    ·rename_i r hr
     rcases List.mem_cons.1 h with h | h
     ·cases h;exact ⟨hne,.inl ⟨n,r,q',hn,Dj hr,List.mem_cons_self,rfl⟩⟩
     ·exact lift (Nk h)
    ·exact lift (Nk h)
   ·rename_i hn
    rcases List.mem_cons.1 h with h | h
    ·cases h;exact ⟨hne,.inr ⟨hn,q',List.mem_cons_self,rfl⟩⟩
    ·exact lift (Nk h)
  ·exact lift (Nk h)
theorem Pj {ρ:Ren} {nw:Option Nat} {bad:List Nat} {rs':Regs}:∀ (rs:Regs),((L0 ρ nw bad rs' rs).map (·.1)).Sublist (rs.map (·.1))
 | []=>.slnil
 | (e,q) :: rs=>by
  simp only [L0]
  split
  ·split
   ·split
    ·exact (Pj rs).cons_cons e
    ·exact (Pj rs).cons e
   ·exact (Pj rs).cons_cons e
  ·exact (Pj rs).cons e
theorem Vt {ρ:Ren} {nw:Option Nat} {rs':Regs} {e:Nat} {q:Reg} (h:(e,q)∈Ra ρ nw rs'):nw=some e∧∃ r,(900,r)∈rs'∧q=r.map (Md ρ nw):=by
 unfold Ra at h
 split at h
 ·cases h
 ·split at h
  ·rename_i d r hr
   simp only [List.mem_singleton,Prod.mk.injEq] at h
   obtain ⟨rfl,rfl⟩:=h
   exact ⟨rfl,r,Dj hr,rfl⟩
  ·cases h
theorem RRx.called {Γ:Base} {s:St} {tmps:Array Value} (h:RRx Γ β Im s tmps w) {ρ:Ren} (hρ:RenOK ρ) {nw:Option Nat} (hnw:∀ d,nw=some d→d<1000) {β':Env} {w':World} {Im':Nat→Prop} {rs':Regs} (h900:nw=none→findKey 900 rs'=false)
  (c:CallStep (Wu ρ β) w Im (Lq ρ s.regs) β' w' Im' rs'):RRx Γ (L1 ρ nw β β') Im' (s.after ρ nw rs') tmps w':=by
 have hpass:∀ k,(∃ n r loc,(n,r)∈Lq ρ s.regs∧Wu ρ β n=some loc∧loc.blk=k)→∃ d r loc,(d,r)∈s.regs∧(∃ n,upId ρ d=some n)∧β d=some loc∧loc.blk=k:=by
  rintro k ⟨n,q,loc,h1,h2,h3⟩
  obtain ⟨d,r,g1,g2,_⟩:=Mt h1
  rw [Nj hρ g2] at h2
  exact ⟨d,r,loc,g1,⟨n,g2⟩,h2,h3⟩
 have hblk:∀ k,k<w.heap.size→(∀ d r loc,(d,r)∈s.regs→(∃ n,upId ρ d=some n)→β d=some loc→loc.blk≠k)→w'.heap[k]? = w.heap[k]?:=by
  intro k hk hne
  refine c.block k hk fun n q loc hq hl e=>?_
  obtain ⟨d,r,loc',g1,g2,g3,g4⟩:=hpass k ⟨n,q,loc,hq,hl,e⟩
  exact hne d r loc' g1 g2 g3 g4
 have hkeeps:Keeps w Im w' Im':=⟨c.imin,fun b hb=>hblk b (h.fit.im b hb) fun d r loc h1 _ h3 e=>(h.fit.live d r loc h1 h3).2 (e ▸ hb)⟩
 have hstay:∀ d n,L3 (Mc ρ nw) d=some n→L1 ρ nw β β' n=β d:=by
  intro d n hd
  unfold L3 at hd
  split at hd
  ·cases hd
  ·rename_i hb
   cases hd
   have hnd:nw≠some d:=by
    intro e;subst e;exact hb (by simp [Mc])
   unfold L1
   rw [if_neg hnd]
   split
   ·rename_i m hm
    have hm5:m<500000:=by
     rcases Nat.lt_or_ge m 500000 with h' | h'
     ·exact h'
     ·refine absurd ?_ hb
      have hmem:∀ {ρ:Ren},upId ρ d=some m→(d,m)∈ρ:=by
       intro ρ
       induction ρ with
       | nil=>intro h;cases h
       | cons x ρ ih =>
        obtain ⟨a,b⟩:=x
        intro h
        simp only [upId] at h
        split at h
        ·rename_i e;subst e;cases h;exact List.mem_cons_self
        ·exact List.mem_cons_of_mem _ (ih h)
      have:d∈(ρ.filter fun x=>decide (500000≤x.2)).map (·.1):=List.mem_map.2 ⟨(d,m),List.mem_filter.2 ⟨hmem hm,by simpa using h'⟩,rfl⟩
      unfold Mc
      cases nw with
      | none=>simpa using this
      | some x=>simp only [List.contains_cons,Bool.or_eq_true];exact .inr (by simpa using this)
    rw [c.env m (hρ.ge d m hm) hm5,Nj hρ hm]
   ·rfl
 have hback:∀ n d,Md ρ nw n=some d→L1 ρ nw β β' d=β' n:=by
  intro n d hd
  unfold Md at hd
  unfold L1
  cases nw with
  | none =>
   have:=(hρ.back n d).1 hd
   simp [this]
  | some x =>
   simp only at hd
   split at hd
   ·rename_i h9;cases hd;subst h9;simp
   ·split at hd
    ·rename_i e he
     split at hd
     ·cases hd
     ·rename_i hne
      cases hd
      have:=(hρ.back n d).1 he
      rw [if_neg (by intro hc;exact hne (Option.some.inj hc).symm),this]
    ·cases hd
 have hsrc:∀ n r loc,(n,r)∈rs'→β' n=some loc→w.heap.size≤loc.blk∨∃ d r0 loc',(d,r0)∈s.regs∧(∃ n,upId ρ d=some n)∧β d=some loc'∧loc'.blk=loc.blk:=by
  intro n r loc hr hl
  rcases c.regnew n r loc hr hl with g | g
  ·exact .inl g
  ·exact .inr (hpass _ g)
 have hreg:∀ e q,(e,q)∈(s.after ρ nw rs').regs→(∃ n r,(n,r)∈rs'∧L1 ρ nw β β' e=β' n∧q=r.map (Md ρ nw)∧(n=900∧nw=some e∨upId ρ e=some n∧nw≠some e)) ∨
   (upId ρ e=none∧nw≠some e∧L1 ρ nw β β' e=β e∧∃ r0,(e,r0)∈s.regs∧q=r0.map (L3 (Mc ρ nw))):=by
  intro e q hq
  rcases List.mem_append.1 hq with hq | hq
  ·obtain ⟨rfl,r,h1,rfl⟩:=Vt hq
   exact .inl ⟨900,r,h1,by simp [L1],rfl,.inl ⟨rfl,rfl⟩⟩
  ·obtain ⟨hne,hq⟩:=Nk hq
   rcases hq with ⟨n,r,r0,h1,h2,h3,rfl⟩ | ⟨h1,r0,h2,rfl⟩
   ·exact .inl ⟨n,r,h2,by simp [L1,hne,h1],rfl,.inr ⟨h1,hne⟩⟩
   ·exact .inr ⟨h1,hne,by simp [L1,hne,h1],r0,h2,rfl⟩
 have h900':∀ r,(900,r)∈rs'→nw≠none:=by
  intro r hr e
  have h1:findKey 900 rs'=true:=U8.2 ⟨r,hr⟩
  rw [h900 e] at h1;cases h1
 have fit:Fit (L1 ρ nw β β') w' Im' (s.after ρ nw rs') tmps:=by
  refine { size:=by simpa [St.after] using h.fit.size,tmps:=fun i l hl=>?_,regs:=fun e q hq=>?_,nodup:=?_,live:=fun e q loc hq hl=>?_,apart:=fun e q e' q' l1 l2 hq hq' hne h1 h2=>?_,im:=fun b hb=>c.fit.im b hb }
  ·simp only [St.after,List.getElem?_map] at hl
   obtain ⟨l',hl',rfl⟩:=Option.map_eq_some_iff.1 hl
   exact ((h.fit.tmps i l' hl').mono' hkeeps).map hstay
  ·rcases hreg e q hq with ⟨n,r,h1,h2,rfl,_⟩ | ⟨h1,h2,h3,r0,h4,rfl⟩
   ·exact (c.fit.regs n r h1).map (fun a b hab=>hback a b hab) h2
   ·have:=(h.fit.regs e r0 h4).mono (β':=β) hkeeps rfl (fun _ _=>rfl) fun loc hl=>hblk _ (h.fit.live e r0 loc h4 hl).1 fun d r loc' g1 g2 g3=>by
     obtain ⟨n,g2⟩:=g2
     refine h.fit.apart d r e r0 loc' loc g1 h4 (fun hc=>?_) g3 hl
     subst hc;rw [h1] at g2;cases g2
    exact this.map (fun a b hab=>hstay a b hab) h3
  ·simp only [St.after,List.map_append]
   refine List.nodup_append.2 ⟨?_,(Pj _).nodup h.fit.nodup,fun a ha b hb hab=>?_⟩
   ·unfold Ra
    split
    ·exact .nil
    ·split <;> simp
   ·subst hab
    obtain ⟨⟨e,q⟩,hq,rfl⟩:=List.mem_map.1 ha
    obtain ⟨⟨e',q'⟩,hq',he⟩:=List.mem_map.1 hb
    simp only at he
    subst he
    exact (Nk hq').1 (Vt hq).1
  ·rcases hreg e q hq with ⟨n,r,h1,h2,rfl,_⟩ | ⟨h1,h2,h3,r0,h4,rfl⟩
   ·rw [h2] at hl;exact c.fit.live n r loc h1 hl
   ·rw [h3] at hl
    obtain ⟨g1,g2⟩:=h.fit.live e r0 loc h4 hl
    refine ⟨Nat.lt_of_lt_of_le g1 c.size,fun hi=>?_⟩
    rcases c.imnew _ hi with g | g | g
    ·exact g2 g
    ·omega
    ·obtain ⟨d,r,loc',k1,⟨n,k2⟩,k3,k4⟩:=hpass _ g
     exact h.fit.apart d r e r0 loc' loc k1 h4 (fun hc=>by subst hc;rw [h1] at k2;cases k2) k3 hl k4
  ·
   have new_old:∀ n r e r0 l1 l2,(n,r)∈rs'→β' n=some l1→(e,r0)∈s.regs→upId ρ e=none→β e=some l2→l1.blk≠l2.blk:=by
    intro n r e r0 l1 l2 g1 g2 g3 g4 g5
    rcases hsrc n r l1 g1 g2 with g | ⟨d,r1,loc',k1,⟨m,k2⟩,k3,k4⟩
    ·have:=(h.fit.live e r0 l2 g3 g5).1;omega
    ·rw [← k4]
     exact h.fit.apart d r1 e r0 loc' l2 k1 g3 (fun hc=>by subst hc;rw [g4] at k2;cases k2) k3 g5
   rcases hreg e q hq with ⟨n,r,g1,g2,rfl,g4⟩ | ⟨g1,g2,g3,r0,g4,rfl⟩ <;> rcases hreg e' q' hq' with ⟨n',r',k1,k2,rfl,k4⟩ | ⟨k1,k2,k3,r0',k4,rfl⟩
   ·rw [g2] at h1;rw [k2] at h2
    refine c.fit.apart n r n' r' l1 l2 g1 k1 (fun hc=>?_) h1 h2
    subst hc
    rcases g4 with ⟨g5,g6⟩ | ⟨g5,g6⟩ <;> rcases k4 with ⟨k5,k6⟩ | ⟨k5,k6⟩
    ·rw [g6] at k6;exact hne (Option.some.inj k6)
    ·have:=hρ.ge e' n k5;omega
    ·have:=hρ.ge e n g5;omega
    ·exact hne (hρ.inj e e' n g5 k5)
   ·rw [g2] at h1;rw [k3] at h2
    exact new_old n r e' r0' l1 l2 g1 h1 k4 k1 h2
   ·rw [g3] at h1;rw [k2] at h2
    exact Ne.symm (new_old n' r' e r0 l2 l1 k1 h2 g4 g1 h1)
   ·rw [g3] at h1;rw [k3] at h2
    exact h.fit.apart e r0 e' r0' l1 l2 g4 k4 hne h1 h2
 refine { fit:=fit,os:=c.os.trans h.os,tape:=c.tape.trans h.tape,output:=c.output.trans h.output,size:=Nat.le_trans h.size c.size,block:=fun k hk hm=>?_,imin:=fun b hb=>c.imin b (h.imin b hb),imnew:=fun b hb=>?_,regnew:=fun e q loc hq hl=>?_,fixed:=fun d hd hd'=>?_,glob:=Γ.mono hkeeps h.glob,mnod:=h.mnod,marks:=fun D hD=>?_ }
 ·rw [hblk k (Nat.lt_of_lt_of_le hk h.size) fun d r loc h1 _ h3 e=>?_]
  ·exact h.block k hk hm
  ·rcases h.regnew d r loc h1 h3 with g | g
   ·omega
   ·exact hm (e ▸ g)
 ·rcases c.imnew b hb with g | g | g
  ·exact h.imnew b g
  ·exact .inr (.inl (Nat.le_trans h.size g))
  ·obtain ⟨d,r,loc,k1,_,k3,k4⟩:=hpass _ g
   rcases h.regnew d r loc k1 k3 with g | g
   ·exact .inr (.inl (k4 ▸ g))
   ·exact .inr (.inr (k4 ▸ g))
 ·rcases hreg e q hq with ⟨n,r,g1,g2,rfl,g4⟩ | ⟨g1,g2,g3,r0,g4,rfl⟩
  ·rw [g2] at hl
   rcases hsrc n r loc g1 hl with g | ⟨d,r1,loc',k1,_,k3,k4⟩
   ·exact .inl (Nat.le_trans h.size g)
   ·rw [← k4];exact h.regnew d r1 loc' k1 k3
  ·rw [g3] at hl;exact h.regnew e r0 loc g4 hl
 ·rw [← h.fixed d hd hd']
  unfold L1
  rw [if_neg (fun hc=>by have:=hnw d hc;omega)]
  split
  ·rename_i n hn
   rw [c.env n (hρ.ge d n hn) (hρ.fix d n hn hd hd'),Nj hρ hn]
  ·rfl
 ·obtain ⟨m1,m2,m3,m4⟩:=h.marks D hD
  have hlt:=(Array.getElem?_eq_some_iff.1 m1).1
  refine ⟨(hblk D hlt fun d r loc h1 _ h3 e=>m4 d r loc h1 h3 e).trans m1,fun hi=>?_,m3,fun e q loc hq hl=>?_⟩
  ·rcases c.imnew D hi with g | g | g
   ·exact m2 g
   ·omega
   ·obtain ⟨d,r,loc,k1,_,k3,k4⟩:=hpass _ g
    exact m4 d r loc k1 k3 k4
  ·rcases hreg e q hq with ⟨n,r,g1,g2,rfl,g4⟩ | ⟨g1,g2,g3,r0,g4,rfl⟩
   ·rw [g2] at hl
    rcases hsrc n r loc g1 hl with g | ⟨d,r1,loc',k1,_,k3,k4⟩
    ·omega
    ·rw [← k4];exact m4 d r1 loc' k1 k3
   ·rw [g3] at hl;exact m4 e r0 loc g4 hl
def L.ids:L→List Nat
 | .ptr d _ _=>[d]
 | .own d _ _=>[d]
 | .fn _ ds=>ds
 | .cfn _ ds=>ds
 | .mref d=>[d]
 | _=>[]
def Reg.ids:Reg→List Nat
 | .var _ cs=>cs.flatMap L.ids
 | .row ..=>[]
 | .lrow _ _ _ es=>es.flatMap fun e=>e.flatMap L.ids
 | .obj _=>[]
def Mu (old:List Nat):List Nat→List Nat
 | []=>[]
 | d :: ds=>if old.contains d=true then Mu old ds else d :: Mu (d :: old) ds
def Qn (ids:List Nat):Regs→List Nat
 | []=>[]
 | (d,r) :: rest=>if ids.contains d=true then r.ids ++ Qn ids rest else Qn ids rest
def Rz (k:Nat):List Nat→Ren
 | []=>[]
 | d :: ds=>if k<400000 then (d,1000+k) :: Rz (k+1) ds else []
def Px (k:Nat):List Nat→Ren
 | []=>[]
 | d :: ds=>if k<400000 then (d,if 1000≤d∧d<500000 then 1000+k else 500000+k) :: Px (k+1) ds else []
def Jce (D I:List Nat):Ren:=Rz 0 D ++ Px D.length I
def Z8 (D:List Nat) (rs:Regs):List Nat:=Mu D (Qn D rs)
def Jia (D I:List Nat) (rs:Regs):List Nat:=I ++ Mu (D ++ I) (Qn I rs)
def Jd2 (D:List Nat) (rs:Regs):Ren:=match D with
 | []=>[]
 | _=>Jce D (Jia D (Z8 D rs) rs)
def Jbr (k:Nat):Ren→Prop
 | []=>True
 | (d,n) :: ρ=>(n=1000+k∧k<400000∨(n=500000+k∧¬ (1000≤d∧d<500000)∧k<400000))∧Jbr (k+1) ρ
theorem Joh:∀ (ds:List Nat) (k:Nat),Jbr k (Px k ds)
 | [],_=>trivial
 | d :: ds,k=>by
  simp only [Px]
  split
  ·rename_i hk
   refine ⟨?_,Joh ds (k+1)⟩
   split
   ·exact .inl ⟨rfl,hk⟩
   ·rename_i h;exact .inr ⟨rfl,h,hk⟩
  ·trivial
theorem Jok:∀ (ds es:List Nat) (k:Nat),Jbr k (Rz k ds ++ Px (k+ds.length) es)
 | [],es,k=>by simpa [Rz] using Joh es k
 | d :: ds,es,k=>by
  simp only [Rz]
  split
  ·rename_i hk
   have:=Jok ds es (k+1)
   rw [Nat.add_assoc,Nat.add_comm 1] at this
   exact ⟨.inl ⟨rfl,hk⟩,this⟩
  ·rename_i hk
   have:Px (k+(d :: ds).length) es=[]:=by
    cases es with
    | nil=>rfl
    | cons=>simp only [Px];rw [if_neg (by simp;omega)]
   rw [this];trivial
theorem Vd:∀ {ρ:Ren} {k:Nat},Jbr k ρ→∀ d n,upId ρ d=some n→1000≤n∧(n<500000→1000+k≤n)∧(500000≤n→500000+k≤n)∧(1000≤d→d<500000→n<500000)
 | [],_,_,d,n,h=>by cases h
 | (e,m) :: ρ,k,hk,d,n,h=>by
  simp only [upId] at h
  split at h
  ·rename_i he;subst he;cases h
   rcases hk.1 with ⟨h1,h2⟩ | ⟨h1,h2,h3⟩
   ·exact ⟨by omega,by omega,by omega,by omega⟩
   ·exact ⟨by omega,by omega,by omega,fun a b=>absurd ⟨a,b⟩ h2⟩
  ·obtain ⟨h1,h2,h3,h4⟩:=Vd hk.2 d n h
   exact ⟨h1,by omega,by omega,h4⟩
theorem Jbe:∀ {ρ:Ren} {k:Nat},Jbr (k+1) ρ→k<400000→∀ d,upId ρ d≠some (1000+k)∧upId ρ d≠some (500000+k):=by
 intro ρ k h hk d
 constructor
 ·intro hc
  obtain ⟨_,h2,_⟩:=Vd h d _ hc
  have:=h2 (by omega)
  omega
 ·intro hc
  obtain ⟨_,_,h3,_⟩:=Vd h d _ hc
  have:=h3 (by omega)
  omega
theorem Jpy:∀ {ρ:Ren} {k:Nat},Jbr k ρ→(ρ.map (·.1)).Nodup→∀ n d,dnId ρ n=some d ↔ upId ρ d=some n
 | [],_,_,_,n,d=>by simp [dnId,upId]
 | (e,m) :: ρ,k,hk,hn,n,d=>by
  simp only [List.map_cons,List.nodup_cons] at hn
  simp only [dnId,upId]
  have hin:∀ {ρ:Ren} {a b},upId ρ a=some b→a∈ρ.map (·.1):=by
   intro ρ
   induction ρ with
   | nil=>intro a b h;cases h
   | cons x ρ ih =>
    intro a b h
    simp only [upId] at h
    split at h
    ·rename_i he;subst he;exact List.mem_cons_self
    ·exact List.mem_cons_of_mem _ (ih h)
  have hm:∀ d,upId ρ d≠some m:=by
   intro d
   rcases hk.1 with ⟨h1,h2⟩ | ⟨h1,_,h2⟩
   ·rw [h1];exact (Jbe hk.2 h2 d).1
   ·rw [h1];exact (Jbe hk.2 h2 d).2
  split
  ·rename_i h;subst h
   constructor
   ·intro h;cases h;simp
   ·intro h
    split at h
    ·rename_i he;rw [he]
    ·exact absurd h (hm d)
  ·rename_i h
   rw [Jpy hk.2 hn.2 n d]
   split
   ·rename_i he;subst he
    constructor
    ·intro h';exact absurd (hin h') hn.1
    ·intro h';cases h';exact absurd rfl h
   ·exact Iff.rfl
theorem Jgh {ρ:Ren} {k:Nat} (h:Jbr k ρ) (hn:(ρ.map (·.1)).Nodup):RenOK ρ where
 inj d d' n h1 h2:=by
  have e1:=(Jpy h hn n d).2 h1
  have e2:=(Jpy h hn n d').2 h2
  rw [e1] at e2;exact Option.some.inj e2
 ge d n hd:=(Vd h d n hd).1
 fix d n hd h1 h2:=(Vd h d n hd).2.2.2 h1 h2
 back:=Jpy h hn
theorem Rh:∀ (ds old:List Nat),(Mu old ds).Nodup∧∀ d∈Mu old ds,d ∉ old
 | [],_=>⟨.nil,fun d h=>by cases h⟩
 | d :: ds,old=>by
  simp only [Mu]
  split
  ·exact Rh ds old
  ·rename_i hd
   obtain ⟨h1,h2⟩:=Rh ds (d :: old)
   refine ⟨List.nodup_cons.2 ⟨fun h=>h2 d h List.mem_cons_self,h1⟩,fun e he=>?_⟩
   rcases List.mem_cons.1 he with rfl | he
   ·simpa using hd
   ·exact fun h=>h2 e he (List.mem_cons_of_mem _ h)
theorem Jbi:∀ (ds:List Nat) (k:Nat),((Rz k ds).map (·.1)).Sublist ds
 | [],_=>.slnil
 | d :: ds,k=>by
  simp only [Rz]
  split
  ·exact (Jbi ds (k+1)).cons_cons d
  ·exact List.nil_sublist _
theorem Jbc:∀ (ds:List Nat) (k:Nat),((Px k ds).map (·.1)).Sublist ds
 | [],_=>.slnil
 | d :: ds,k=>by
  simp only [Px]
  split
  ·exact (Jbc ds (k+1)).cons_cons d
  ·exact List.nil_sublist _
theorem canon_ok (ids:List Nat) (rs:Regs):RenOK (Jd2 (Mu [] ids) rs):=by
 have nil:RenOK [] :=
  {
   inj:=fun d d' n h=>nomatch h
   ge:=fun d n h=>nomatch h
   fix:=fun d n h=>nomatch h
   back:=fun n d=>by simp [dnId,upId] }
 unfold Jd2
 split
 ·exact nil
 ·refine Jgh (k:=0) ?_ ?_
  ·have:=Jok (Mu [] ids) (Jia (Mu [] ids) (Z8 (Mu [] ids) rs) rs) 0
   rwa [Nat.zero_add] at this
  ·unfold Jce
   rw [List.map_append]
   refine List.Nodup.sublist ((Jbi _ _).append (Jbc _ _)) ?_
   obtain ⟨a1,a2⟩:=Rh ids []
   obtain ⟨b1,b2⟩:=Rh (Qn (Mu [] ids) rs) (Mu [] ids)
   obtain ⟨c1,c2⟩:=Rh (Qn (Z8 (Mu [] ids) rs) rs) (Mu [] ids ++ Z8 (Mu [] ids) rs)
   refine List.nodup_append.2 ⟨a1,List.nodup_append.2 ⟨b1,c1,fun x hx y hy e=>?_⟩,fun x hx y hy e=>?_⟩
   ·subst e;exact c2 x hy (List.mem_append_right _ hx)
   ·subst e
    rcases List.mem_append.1 hy with hy | hy
    ·exact b2 x hy hx
    ·exact c2 x hy (List.mem_append_left _ hx)
end
end Go.LX
namespace Go.LX
open Go Go.RowKit Go.Proofs
section
variable {P:Program} {Γ:Base} {β:Env} {w:World} {Im:Nat→Prop}
def srcM (s:St) (m:Nat):L→Option (List (List PV))
 | .own d off len=>match Bj d s.regs with
  | some (.lrow _ _ _ es)=>if off+len≤es.length then Kr ((es.drop off).take (min len m)) else none
  | _=>(R2 s (.own d off len)).map (List.take m)
 | x=>(R2 s x).map (List.take m)
theorem Jq3 {s:St} {m:Nat} {tmps:Array Value} (hf:Fit β w Im s tmps) {v:Value} {x:L} {es:List (List PV)} (hx:LRep β w Im v x) (hs:srcM s m x=some es) (hsz:∀ e∈es,e.length=1)
  (hsz0:∀ es0,R2 s x=some es0→∀ e∈es0,e.length=1) :
  ∃
   (ad:Option Addr) (sl c:Nat),v=.slice ad sl c∧es.length=min sl m∧(es=[]∨∃ (b o:Nat) (news:List Value),ad=some ⟨b,o,none⟩∧news.length=es.length∧(∀ (j:Nat) (u:Value),news[j]? = some u→w.cell? ⟨b,o+j,none⟩=some u)∧(∀ u∈news,u.oneCell'=true) ∧
   (∀ (i:Nat) (e:List PV) (p:PV),es[i]? = some e→e[0]? = some p→∃ u,news[i]? = some u∧PRep w Im u p)∧∀ e∈es,∀ p∈e,p.scalar=true):=by
 have old:(R2 s x).map (List.take m)=some es→∃ (ad:Option Addr) (sl c:Nat),v=.slice ad sl c∧es.length=min sl m∧(es=[]∨∃ (b o:Nat) (news:List Value),ad=some ⟨b,o,none⟩∧news.length=es.length∧(∀ (j:Nat) (u:Value),news[j]? = some u→w.cell? ⟨b,o+j,none⟩=some u)∧(∀ u∈news,u.oneCell'=true) ∧
   (∀ (i:Nat) (e:List PV) (p:PV),es[i]? = some e→e[0]? = some p→∃ u,news[i]? = some u∧PRep w Im u p)∧∀ e∈es,∀ p∈e,p.scalar=true):=fun h=>by
  obtain ⟨es0,h0,rfl⟩:=Option.map_eq_some_iff.1 h
  rcases Jdv hf (by decide:(1:Nat)≠0) hx h0 (hsz0 es0 h0) with ⟨h1,rfl⟩ | ⟨b,o,c,news,h1,h2,h3,h4,h5,h6⟩
  ·exact ⟨none,0,0,h1,by simp,.inl (by simp)⟩
  ·refine ⟨_,es0.length,c,h1,by rw [List.length_take,Nat.min_comm],.inr ⟨b,o,news.take m,rfl,by rw [List.length_take,List.length_take,h2,Nat.mul_one],fun j u hu=>?_,fun u hu=>h4 u (List.mem_of_mem_take hu),fun i e p hi hj=>?_,fun e he=>h6 e (List.mem_of_mem_take he)⟩⟩
   ·rw [List.getElem?_take] at hu
    split at hu
    ·exact h3 j u hu
    ·cases hu
   ·rw [List.getElem?_take] at hi ⊢
    split at hi
    ·rename_i hlt
     obtain ⟨u,hu,hp⟩:=h5 i e 0 p hi hj
     exact ⟨u,by rw [if_pos hlt];simpa using hu,hp⟩
    ·cases hi
 unfold srcM at hs
 split at hs
 ·rename_i d off len
  split at hs
  ·rename_i T sz full es0 hr
   split at hs
   ·rename_i hle
    obtain ⟨pl,pp⟩:=Ny hs
    have hlen:es.length=min len m:=by rw [← pl,List.length_take,List.length_drop];omega
    rcases hx with ⟨loc,cap,ad,hβ,hcap,hl,hao,rfl⟩ | ⟨hβ,rfl,rfl,rfl⟩
    ·rcases hf.regs d _ (Dj hr) with ⟨hn,_⟩ | ⟨loc',cur,hβ',hsz',hb,hcl,hle',hfu,hml,hel,hcell⟩
     ·rw [hβ] at hn;cases hn
     ·rw [hβ] at hβ';cases hβ'
      refine ⟨_,len,cap,rfl,hlen,?_⟩
      by_cases h0:min len m=0
      ·exact .inl (List.eq_nil_of_length_eq_zero (by omega))
      have key:∀ (i:Nat) (e:List PV),es[i]? = some e→∃ p u,e=[p]∧cur[off+i]? = some u∧PRep w Im u p∧p.scalar=true∧loc.sz=1:=by
       intro i e hi
       obtain ⟨e0,he0,ha⟩:=pp i e hi
       have he1:es0[off+i]? = some e0:=by
        rw [List.getElem?_take] at he0
        split at he0
        ·simpa using he0
        ·cases he0
       obtain ⟨al,ag⟩:=Ha ha
       have e1:=hsz e (List.mem_of_getElem? hi)
       have e2:=hel e0 (List.mem_of_getElem? he1)
       match e,e1,al,ag with
       | [p],_,al,ag =>
        obtain ⟨l,hl'⟩:=getElem?_of_length (i:=0) (b:=p) al (by simp)
        have h1:=ag 0 l p hl' rfl
        obtain ⟨u,hu,hrep,hco⟩:=hcell (off+i) e0 0 l he1 hl'
        have s1:sz=1:=by rw [← e2,al];rfl
        cases l <;> simp [L.pure?] at h1
        subst h1
        refine ⟨_,u,rfl,by simpa [s1] using hu,hrep,?_,hsz'.trans s1⟩
        rcases hco with hco | hco
        ·exact hco
        ·cases hco
      have hs1:loc.sz=1:=by
       obtain ⟨e,he⟩:∃ e,es[0]? = some e:=⟨_,List.getElem?_eq_getElem (by omega)⟩
       obtain ⟨_,_,_,_,_,_,h⟩:=key 0 e he
       exact h
      right
      refine ⟨loc.blk,ad,(cur.drop off).take (min len m),rfl,?_,fun j u hu=>?_,fun u hu=>?_,fun i e p hi hj=>?_,fun e he p hp=>?_⟩
      ·rw [List.length_take,List.length_drop,hcl,hlen]
       have:=hsz'.symm.trans hs1
       rw [this];omega
      ·rw [List.getElem?_take] at hu
       split at hu
       ·rw [Om hb,hao (.inl (by omega)),hs1,Nat.mul_one]
        simpa using hu
       ·cases hu
      ·obtain ⟨j,hj,rfl⟩:=List.getElem_of_mem hu
       have hjl:j<es.length:=by simp at hj;omega
       obtain ⟨p,u,_,h2,h3,h4,_⟩:=key j _ (List.getElem?_eq_getElem hjl)
       have:((cur.drop off).take (min len m))[j]=u:=by
        have:=(List.getElem?_eq_some_iff.1 h2).2
        simpa using this
       rw [this]
       exact h3.one h4
      ·obtain ⟨p',u,rfl,h2,h3,_,_⟩:=key i e hi
       simp at hj;subst hj
       have hi1:=(List.getElem?_eq_some_iff.1 hi).1
       exact ⟨u,by rw [List.getElem?_take,if_pos (by omega)];simpa using h2,h3⟩
      ·obtain ⟨i,hi,rfl⟩:=List.getElem_of_mem he
       obtain ⟨p',u,h1,_,_,h4,_⟩:=key i _ (List.getElem?_eq_getElem hi)
       rw [h1] at hp;simp at hp;subst hp;exact h4
    ·exact ⟨none,0,0,rfl,hlen,.inl (List.eq_nil_of_length_eq_zero (by rw [hlen];simp))⟩
   ·cases hs
  ·exact old hs
 ·exact old hs
def Jaw (s:St) (x:L):Prop:=match R2 s x with
 | some es=>∀ e∈es,e.length=1
 | none=>True
def Jgz (P:Program) (t t':TypeId) (s:St) (x y:Operand) (K:St→L→Prop):Prop :=
 match slE P t with
 | some (_,sz)=>sz=1∧t=t'∧match s.get x with
  | .own d off len=>∃ es',srcM s len (s.get y)=some es'∧(∀ q∈es',q.length=1)∧Jaw s (s.get y)∧if es'.length=0 then K s (.p (.int .i64 0)) else match Bj d s.regs with
   | some (.row T sz' es)=>sz'=1∧off+es'.length≤es.length ∧
     K { s with regs:=Iy d (.row T 1 (es.take off ++ es' ++ es.drop (off+es'.length))) s.regs } (.p (.int .i64 (es'.length:Nat)))
   | some (.lrow T sz' f es)=>sz'=1∧off+es'.length≤es.length ∧
     K { s with regs:=Iy d (.lrow T 1 f (es.take off ++ es'.map (List.map L.p) ++ es.drop (off+es'.length))) s.regs } (.p (.int .i64 (es'.length:Nat)))
   | _=>False
  | _=>False
 | none=>False
theorem Jl7 {s:St} {a:Act} (h:RRx Γ β Im s a.tmps w) {t t' ty:Nat} {x y:Operand} {K:St→L→Prop} (hl:Jgz P t t' s x y K) :
  ∃ v w' s' l,(Builtin.copy_ #[t,t'] ty #[a.eval x,a.eval y]).run P w=.ok v w'∧RRx Γ β Im s' a.tmps w'∧LRep β w' Im v l∧K s' l:=by
 unfold Jgz at hl
 have rx:=Ec h.fit x
 split at hl
 ·rename_i e sz hsl
  obtain ⟨rfl,rfl,hl⟩:=hl
  obtain ⟨ht,hcs,h0⟩:=Na hsl
  have hs1:(P.info? e).map (·.size)=some 1:=by
   unfold Program.cellsOf at hcs
   cases hi:P.info? e with
   | none=>simp [hi] at hcs
   | some i=>simp [hi] at hcs;simp [hcs]
  split at hl
  ·rename_i d off len hg
   obtain ⟨es',hsrc,hsz,hone,hl⟩:=hl
   obtain ⟨ad,sl,c,hyv,hmn,S⟩:=Jq3 h.fit (Ec h.fit y) hsrc hsz (fun es0 h0=>by unfold Jaw at hone;rw [h0] at hone;exact hone)
   rw [hg] at rx
   have hxv:∃ ad c,a.eval x=.slice ad len c:=by
    rcases rx with ⟨loc,cap,o,_,_,_,_,hv⟩ | ⟨_,_,rfl,hv⟩
    ·exact ⟨_,_,hv⟩
    ·exact ⟨_,_,hv⟩
   split at hl
   ·rename_i hm
    obtain ⟨ad2,c2,hxv⟩:=hxv
    exact ⟨_,w,s,.p (.int .i64 0),by rw [hxv,hyv];exact run_copy_none w t t ty e ad2 ad len c2 sl c ht hs1 (by show min sl len=0;omega),h,PRep.int _ _,hl⟩
   ·rename_i hm
    generalize hmm:es'.length=m at *
    rcases S with rfl | ⟨bk,o2,news,rfl,hnl,hncell,hn1,hn2,hn3⟩
    ·simp at hmm;omega
    have hcn:news.length=m:=hnl
    have hcc:news.length=Nat.min sl len:=by rw [hcn];exact hmn
    have main:∀ (loc:Loc) (cur:List Value) (T:TypeId),β d=some loc→loc.sz=1→w.heap[loc.blk]? = some (.cells ⟨cur⟩ T (0,0))→off+m≤cur.length →
      (Builtin.copy_ #[t,t] ty #[a.eval x,a.eval y]).run P w=.ok (goInt m) (w.setRow loc.blk (cur.take off ++ news ++ cur.drop (off+m)).toArray):=by
     intro loc cur T hβ hlz hbk hfit
     rcases rx with ⟨loc',cap,o,hβ',hcap,hlc,ho,hv⟩ | ⟨hn,_⟩
     ·rw [hβ] at hβ';cases hβ'
      have ho':o=off:=by rw [ho (.inl (by omega)),hlz,Nat.mul_one]
      subst ho'
      rw [hv,hyv]
      have:=run_copy_row P w t t ty e loc.blk o len cap ⟨bk,o2,none⟩ sl c ⟨cur⟩ T (news) ht hs1 hbk hcc (fun j v hj=>by rw [Ko];exact hncell j v hj) (by rw [hcn];exact hfit) hn1
      rw [hcn] at this
      exact this
     ·rw [hβ] at hn;cases hn
    split at hl
    ·rename_i T sz' es hr
     obtain ⟨rfl,hle,hK⟩:=hl
     have hmem:=Dj hr
     rcases h.fit.regs d _ hmem with ⟨_,rfl⟩ | ⟨loc,cur,hβ,hlz,hbk,hcl,hle',hml,hel,hcell⟩
     ·simp at hle;omega
     have hfit:off+m≤cur.length:=by rw [hcl];omega
     have hk:Keeps w Im (w.setRow loc.blk (cur.take off ++ news ++ cur.drop (off+m)).toArray) Im :=
      ⟨fun _ h=>h,fun b hb'=>Ke _ _ _ _ fun e=>(h.fit.live d _ loc hmem hβ).2 (e ▸ hb')⟩
     have hm2:es'.length=m:=hmm
     refine ⟨_,_,{ s with regs:=Iy d (.row T 1 (es.take off ++ es' ++ es.drop (off+m))) s.regs },.p (.int .i64 m),main loc cur T hβ hlz hbk hfit,h.store hmem hβ rfl rfl rfl (by simp [World.setRow]) (fun k hk=>Ke _ _ _ _ hk) (.inr ?_),PRep.int _ _,hK⟩
     refine ⟨loc,_,hβ,hlz,setRow_heap w loc.blk _ _ _ _ hbk,by have:=Jp cur (news) off (by rw [hcn];exact hfit);rw [hcn] at this;rw [this];exact hcl,by have:=Jp es es' off (by rw [hm2];exact hle);rw [hm2] at this;rw [this];exact hle',hml,fun x hx=>?_,fun i q j p hi hj=>?_⟩
     ·rcases List.mem_append.1 hx with hx | hx
      ·rcases List.mem_append.1 hx with hx | hx
       ·exact hel x (List.mem_of_mem_take hx)
       ·exact ⟨hsz x hx,hn3 x hx⟩
      ·exact hel x (List.mem_of_mem_drop hx)
     ·have A:=getElem?_splice es es' off i (by rw [hm2];exact hle)
      have B:=getElem?_splice cur (news) off (i * 1+j) (by rw [hcn];exact hfit)
      rw [hm2] at A
      rw [hcn] at B
      rw [A] at hi
      rw [B]
      by_cases g1:i<off
      ·rw [if_pos g1] at hi
       have hj0:j=0:=by have:=(hel q (List.mem_of_getElem? hi)).1;have:=(List.getElem?_eq_some_iff.1 hj).1;omega
       subst hj0
       rw [if_pos (by omega)]
       obtain ⟨u,hu,hp⟩:=hcell i q 0 p hi hj
       exact ⟨u,hu,hp.mono hk⟩
      ·rw [if_neg g1] at hi
       by_cases g2:i<off+m
       ·rw [if_pos g2] at hi
        have hj0:j=0:=by have:=hsz q (List.mem_of_getElem? hi);have:=(List.getElem?_eq_some_iff.1 hj).1;omega
        subst hj0
        rw [if_neg (by omega),if_pos (by omega)]
        obtain ⟨u,hu,hp⟩:=hn2 _ q p hi hj
        exact ⟨u,by rw [← hu];congr 1;omega,hp.mono hk⟩
       ·rw [if_neg g2] at hi
        have hj0:j=0:=by have:=(hel q (List.mem_of_getElem? hi)).1;have:=(List.getElem?_eq_some_iff.1 hj).1;omega
        subst hj0
        rw [if_neg (by omega),if_neg (by omega)]
        obtain ⟨u,hu,hp⟩:=hcell i q 0 p hi hj
        exact ⟨u,hu,hp.mono hk⟩
    ·rename_i T sz' f es hr
     obtain ⟨rfl,hle,hK⟩:=hl
     have hmem:=Dj hr
     rcases h.fit.regs d _ hmem with ⟨_,rfl⟩ | ⟨loc,cur,hβ,hlz,hbk,hcl,hle',hfu,hml,hel,hcell⟩
     ·simp at hle;omega
     have hfit:off+m≤cur.length:=by rw [hcl];omega
     have hk:Keeps w Im (w.setRow loc.blk (cur.take off ++ news ++ cur.drop (off+m)).toArray) Im :=
      ⟨fun _ h=>h,fun b hb'=>Ke _ _ _ _ fun e=>(h.fit.live d _ loc hmem hβ).2 (e ▸ hb')⟩
     have hm2:(es'.map (List.map L.p)).length=m:=by rw [List.length_map];exact hmm
     have hsl2:=Jp es (es'.map (List.map L.p)) off (by rw [hm2];exact hle)
     rw [hm2] at hsl2
     refine ⟨_,_,{ s with regs:=Iy d (.lrow T 1 f (es.take off ++ es'.map (List.map L.p) ++ es.drop (off+m))) s.regs },.p (.int .i64 m),main loc cur T hβ hlz hbk hfit,h.store hmem hβ rfl rfl rfl (by simp [World.setRow]) (fun k hk=>Ke _ _ _ _ hk) (.inr ?_),PRep.int _ _,hK⟩
     refine ⟨loc,_,hβ,hlz,setRow_heap w loc.blk _ _ _ _ hbk,by have:=Jp cur (news) off (by rw [hcn];exact hfit);rw [hcn] at this;rw [this];exact hcl,by rw [hsl2];exact hle',fun hf=>by rw [hsl2];exact hfu hf,hml,fun x hx=>?_,fun i q j p hi hj=>?_⟩
     ·rcases List.mem_append.1 hx with hx | hx
      ·rcases List.mem_append.1 hx with hx | hx
       ·exact hel x (List.mem_of_mem_take hx)
       ·obtain ⟨q,hq,rfl⟩:=List.mem_map.1 hx
        rw [List.length_map]
        exact hsz q hq
      ·exact hel x (List.mem_of_mem_drop hx)
     ·have A:=getElem?_splice es (es'.map (List.map L.p)) off i (by rw [hm2];exact hle)
      have B:=getElem?_splice cur (news) off (i * 1+j) (by rw [hcn];exact hfit)
      rw [hm2] at A
      rw [hcn] at B
      rw [A] at hi
      rw [B]
      by_cases g1:i<off
      ·rw [if_pos g1] at hi
       have hj0:j=0:=by have:=hel q (List.mem_of_getElem? hi);have:=(List.getElem?_eq_some_iff.1 hj).1;omega
       subst hj0
       rw [if_pos (by omega)]
       obtain ⟨u,hu,hp,hco⟩:=hcell i q 0 p hi hj
       exact ⟨u,hu,hp.mono' hk,hco⟩
      ·rw [if_neg g1] at hi
       by_cases g2:i<off+m
       ·rw [if_pos g2] at hi
        rw [List.getElem?_map] at hi
        obtain ⟨q0,hi0,rfl⟩:=Option.map_eq_some_iff.1 hi
        rw [List.getElem?_map] at hj
        obtain ⟨p0,hj0',rfl⟩:=Option.map_eq_some_iff.1 hj
        have hj0:j=0:=by have:=hsz q0 (List.mem_of_getElem? hi0);have:=(List.getElem?_eq_some_iff.1 hj0').1;omega
        subst hj0
        rw [if_neg (by omega),if_pos (by omega)]
        obtain ⟨u,hu,hp⟩:=hn2 _ q0 p0 hi0 hj0'
        exact ⟨u,by rw [← hu];congr 1;omega,PRep.mono hk hp,.inl (hn3 q0 (List.mem_of_getElem? hi0) p0 (List.mem_of_getElem? hj0'))⟩
       ·rw [if_neg g2] at hi
        have hj0:j=0:=by have:=hel q (List.mem_of_getElem? hi);have:=(List.getElem?_eq_some_iff.1 hj).1;omega
        subst hj0
        rw [if_neg (by omega),if_neg (by omega)]
        obtain ⟨u,hu,hp,hco⟩:=hcell i q 0 p hi hj
        exact ⟨u,hu,hp.mono' hk,hco⟩
    ·exact hl.elim
  ·exact hl.elim
 ·exact hl.elim
end
end Go.LX
namespace Go.LX
open Go Go.RowKit Go.Proofs
def F0 (r:Option Nat):Fence:={ fn:=fun _=>True,depth:=none,alive:=false,round:=r }
theorem Jj2 {r:Option Nat} {n:Nat} {P:Program} {f:FuncId} {args:Array Value} {w:World} {R:Ending→World→Prop} (h:Calls P f args w R):CallsIn (F0 r) n P f args w R :=
 show CallsIn Fence.wide n P f args w R from callsIn_wide.2 h
def Er (X:Cx) (g:FuncId) (args:List L) (l:L):Prop:=∀ (β:Env) (Im:Nat→Prop) (w:World) (vs:List Value),vs.length=args.length→(∀ (i:Nat) (v:Value) (a:L),vs[i]? = some v→args[i]? = some a→LRep β w Im v a) →
 ∃ v,(callFunc g ⟨vs⟩).run X.P w=.ok (.value v) w∧LRep β w Im v l
def Oi (dst:Option Tmp) (rs':Regs):Option Nat :=
 match findKey 900 rs' with
 | true=>some (match dst with | some d=>if d<900 then d else 990 | none=>990)
 | false=>none
def Jer (args:List L):List Nat:=args.flatMap L.ids
def Jgm (ρ:Ren) (dst:Option Tmp) (K:St→Prop) (s:St) (l:L) (rs':Regs):Prop:=K ((s.after ρ (Oi dst rs') rs').put dst (l.map (Md ρ (Oi dst rs'))))
def Jal (X:Cx) (g:FuncId) (args:List L) (s:St) (ρ:Ren) (dst:Option Tmp) (K:St→Prop):Prop :=
 B2 X g (args.map (L.map (upId ρ))) (Lq ρ s.regs) (Jgm ρ dst K s)
def Xd (X:Cx) (g:FuncId) (args:List L) (s:St) (dst:Option Tmp) (K:St→Prop):Prop :=
 Jal X g args s (Jd2 (Mu [] (Jer args)) s.regs) dst K
def lext (X:Cx) (g:FuncId) (args:List L) (s:St) (dst:Option Tmp) (K:St→Prop):Prop:=∃ l,Er X g args l∧K (s.put dst l)
def Dp (X:Cx) (g:FuncId) (args:List L) (rs:Regs) (l:L):Prop:=∀ (β:Env) (Im:Nat→Prop) (w:World) (vs:List Value),Fit β w Im ⟨args,rs⟩ ⟨vs⟩ →
 ∃ v,(callFunc g ⟨vs⟩).run X.P w=.ok (.value v) w∧LRep β w Im v l
def lextR (X:Cx) (g:FuncId) (args:List L) (s:St) (dst:Option Tmp) (K:St→Prop):Prop:=∃ l,Dp X g args s.regs l∧K (s.put dst l)
def Vk (X:Cx) (k:Nat) (g:FuncId) (ds:List Nat) (args:List Operand) (s:St) (dst:Option Tmp) (K:St→Prop):Prop :=
 match k with
 | 0=>Xd X g (args.map (s.freezeOps args).get ++ ds.map fun d=>L.ptr d 0 0) (s.freezeOps args) dst K
 | 1=>Xd X g (args.map s.get ++ ds.map fun d=>L.ptr d 0 0) s dst K
 | 3=>ds=[]∧lextR X g (args.map s.get) s dst K
 | _=>ds=[]∧lext X g (args.map s.get) s dst K
def Jo8 (X:Cx) (s:St) (f:Operand) (args:List Operand) (dst:Option Tmp) (K:St→Prop):Prop :=
 match s.get f with
 | .fn g ds=>Vk X (X.kind g) g ds args s dst K
 | _=>False
def kput (dst:Option Tmp) (K:St→Prop) (s:St) (l:L):Prop:=K (s.put dst l)
def Qy (dst:Option Tmp) (K:St→Prop) (s:St):Prop:=K (s.put dst (.tup []))
def Y7 (P:Program) (a b:TypeId) (d j:Nat) (r:Option Reg) (K:L→Prop):Prop :=
 match r,P.underlying a,P.underlying b with
 | some (.var _ cs),some (.pointer t),some .unsafePointer=>P.cellsOf t≠0∧j<cs.length∧K (.ptr d 0 j)
 | some (.var T cs),some .unsafePointer,some (.pointer u)=>liesAt P P.depth T (cs.length / P.cellsOf T) j u 1=true∧(P.info? u).isSome=true∧K (.ptr d 0 j)
 | _,_,_=>False
def Jaa (P:Program) (a b:TypeId) (u:List UInt8) (s:St) (dst:Option Tmp) (K:St→Prop):Prop :=
 match P.underlying b with
 | some (.slice e)=>(P.underlying a).isSome=true∧P.underlying e=some (.int .u8)∧kput dst K s (.p (.sl (u.map fun c=>[.int .u8 c.toNat])))
 | _=>Vq P a b (.p (.str u)) (kput dst K s)
def lconvG (P:Program) (a b:TypeId) (s:St) (x:Operand) (dst:Option Tmp) (K:St→Prop):Prop :=
 match s.get x with
 | .ptr d 0 j=>Y7 P a b d j (Bj d s.regs) (kput dst K s)
 | .p (.str u)=>Jaa P a b u s dst K
 | _=>Vq P a b ((s.freezeOps [x]).get x) (kput dst K (s.freezeOps [x]))
def Jou (X:Cx) (o:Oper) (dst:Option Tmp) (args:List Operand) (ts:List TypeId) (s:St) (K:St→Prop):Prop :=
 match args,ts with
 | [x,y],[t,_]=>match s.get x with
  | .p .nptr=>lq X.P s.regs s.get o.op (kput dst K s)
  | _=>Rl X.P t s x y (kput dst K)
 | _,_=>False
def larr (P:Program) (t:TypeId) (s:St) (d:Nat) (lo hi:Option Operand) (N:St→L→Prop) (q:Option Reg):Prop :=
 match q,arE P t with
 | some (.var _ cs),some (n,_,sz)=>sz=1∧n=cs.length∧∃ ps,Gv L.pure? cs=some ps∧∃ l h,Nc s.get 0 lo=some l∧Nc s.get n hi=some h∧0≤l∧l≤h∧h≤n ∧
   N (N6 d (some .gone) s) (.p (.sl (((ps.map fun p=>[p]).drop l.toNat).take (h.toNat - l.toNat))))
 | _,_=>False
def lslG (P:Program) (o:Oper) (t:TypeId) (x:Operand) (lo hi:Option Operand) (dst:Option Tmp) (K:St→Prop) (s:St):Prop :=
 match s.get x with
 | .ptr d 0 0=>larr P t s d lo hi (kput dst K) (Bj d s.regs)
 | _=>lq P s.regs s.get o.op (kput dst K s)
def lop (X:Cx) (o:Oper) (K:St→Prop) (s:St):Prop :=
 match o.op,o.dst with
 | .alloc T,some d=>Jh8 X.P d T s K
 | .box T x,some d=>lbox d T s x K
 | .buildSlice t n parts,some d=>Qh X.P d t n s parts.toList K
 | .makeSlice t l c,some d=>R4 X.P d t s l c K
 | .makeMap _ none,some d=>X3 d s K
 | .range t x,some d=>Jjc X.P d t s x K
 | .next it b,dst=>Jkh s it b (kput dst K)
 | .entry it,dst=>Jdq s it (kput dst K s)
 | .mapUpdate t m k v,dst=>Ns X.P t s m k v (Qy dst K)
 | .insert t m k v,dst=>Ns X.P t s m k v (Qy dst K)
 | .store t a x,dst=>Zh X.P t s a x (Qy dst K)
 | .call { callee:=.builtin .append,args,argTypes },some d=>match args.toList,argTypes.toList with
  | [x,y],[t,t']=>We X.P d t t' s x y K
  | _,_=>False
 | .call { callee:=.builtin .copy,args,argTypes },dst=>match args.toList,argTypes.toList with
  | [x,y],[t,t']=>Jgz X.P t t' s x y (kput dst K)
  | _,_=>False
 | .call { callee:=.builtin .delete,args,argTypes },dst=>match args.toList,argTypes.toList with
  | [m,k],t :: _=>V4 X.P t s m k (Qy dst K)
  | _,_=>False
 | .call { callee:=.builtin .unsafeString,args,argTypes },dst=>Jou X o dst args.toList argTypes.toList s K
 | .call { callee:=.value f,args,argTypes:=_ },dst=>Jo8 X s f args.toList dst K
 | .convert a b x,dst=>lconvG X.P a b s x dst K
 | .slice t x lo hi none,dst=>lslG X.P o t x lo hi dst K s
 | op,dst=>lq X.P s.regs s.get op (kput dst K s)
def Qt (ds:List (Option Tmp)) (g:Option (Nat×Bool)) (A B:St→Prop) (s:St):Prop :=
 match g with
 | none=>A s
 | some (j,want)=>match ds.getD j none with
  | some dj=>match s.tmps.getD dj .junk with
   | .p (.bool c)=>(c=want→A (s.put (some dj) (.p (.bool want))))∧(c=(!want)→B (s.put (some dj) (.p (.bool (!want)))))
   | .tup []=>B s
   | _=>False
  | none=>False
def lops (X:Cx) (ds:List (Option Tmp)):List Oper→(St→Prop)→St→Prop
 | [],K,s=>K s
 | o :: rest,K,s=>Qt ds o.guard (lop X o (lops X ds rest K)) (Qy o.dst (lops X ds rest K)) s
section
variable {P:Program} {X:Cx} {Γ:Base} {ro:Option Nat}
theorem Yo {o:Oper} (ρ:Operand→Value) (h:∀ c,o.op≠.defer c):o.semAt (F0 ro).round ρ=execOp ρ o:=Oper.semAt_eq _ _ _ h
theorem J3 {o:Oper} {a:Act} {w w':World} {v:Value} {next:Act→World→Prop} {Q:Exit→Act→World→Prop} {n:Nat} (hd:∀ c,o.op≠.defer c) (hr:(execOp a.eval o).run P w=.ok (.value v) w') (h:next (a.put o.dst v) w') :
  o.wpIn (F0 ro) n P a w next Q:=by
 refine ⟨fun _ _=>trivial,?_⟩
 rw [Yo _ hd,hr]
 exact h
theorem T7 {o:Oper} {a:Act} {w w':World} {next:Act→World→Prop} {Q:Exit→Act→World→Prop} {n:Nat} (hd:∀ c,o.op≠.defer c) (hr:(execOp a.eval o).run P w=.ok .skip w') (h:next (a.put o.dst undef) w') :
  o.wpIn (F0 ro) n P a w next Q:=by
 refine ⟨fun _ _=>trivial,?_⟩
 rw [Yo _ hd,hr]
 exact h
theorem Jdk {o:Oper} {a:Act} {w w':World} {f:FuncId} {args:Array Value} {next:Act→World→Prop} {Q:Exit→Act→World→Prop} {n:Nat} (hd:∀ c,o.op≠.defer c) (hr:(execOp a.eval o).run P w=.ok (.enter f args) w')
  (h:Calls P f args w' fun e w''=>∃ v,e=.returned v∧next (a.put o.dst v) w''):o.wpIn (F0 ro) n P a w next Q:=by
 refine ⟨fun _ _=>trivial,?_⟩
 rw [Yo _ hd,hr]
 refine ⟨fun h=>by simp [F0] at h,?_⟩
 refine Jj2 (h.mono fun e w'' ⟨v,he,hn⟩=>?_)
 subst he
 exact hn
def RRm (Γ:Base) (ms:List Nat) (s:St) (a:Act) (w:World):Prop:=a.defers=ms.map Qw∧∃ β Im,RRx (Γ.wm ms) β Im s a.tmps w
theorem RRm.rr {s:St} {a:Act} {w:World} {ms:List Nat} (h:RRm Γ ms s a w):RR Γ s a w:=⟨ms,h.1,h.2⟩
theorem Wp.oper {a:Act} {d:Tmp} {r:Sem Value} {K:St→Prop} {w:World} {o:Oper} {Q:Exit→Act→World→Prop} {n:Nat} {ms:List Nat} (h:Wp (Γ.wm ms) a d (r.run P w) K) (hd:∀ c,o.op≠.defer c) (ho:execOp a.eval o=(do pure (Next.value (← r)):Sem Next)) (hdst:o.dst=some d) (hdef:a.defers=ms.map Qw) :
  o.wpIn (F0 ro) n P a w (fun a' w'=>∃ s,K s∧RRm Γ ms s a' w') Q:=by
 obtain ⟨v,w',β',Im',s',l,hr,h1,h2,hK⟩:=h
 refine J3 hd (v:=v) (w':=w') (by rw [ho];simp [hr]) ⟨_,hK,?_,β',Im',?_⟩
 ·rw [hdst];exact hdef
 ·rw [hdst];exact h1.put (some d) h2
theorem Qz {s:St} {β:Env} {Im:Nat→Prop} {w:World} {a:Act} {ms:List Nat} (hdef:a.defers=ms.map Qw) (h:RRx (Γ.wm ms) β Im s a.tmps w):RRm Γ ms s a w:=⟨hdef,β,Im,h⟩
theorem Gi {a:Act} {dst:Option Tmp} {v:Value} {ds:List Deferred} (h:a.defers=ds):(a.put dst v).defers=ds:=by cases dst <;> exact h
theorem Jej {β:Env} {w:World} {Im:Nat→Prop} {s:St} {tmps:Array Value} (hf:Fit β w Im s tmps) {a b:TypeId} {d j:Nat} {u:Value} {K:L→Prop} (hx:LRep β w Im u (.ptr d 0 j)) (hl:Y7 P a b d j (Bj d s.regs) K):Lp β Im w ((convert a b u).run P w) K:=by
 have hx':=hx
 obtain ⟨loc,hβ,rfl⟩:=hx'
 have hz:(0:Nat) * loc.sz+j=j:=by simp
 rw [hz]
 unfold Y7 at hl
 split at hl
 ·rename_i T cs t hr ha hb
  obtain ⟨hc,hj,hK⟩:=hl
  obtain ⟨loc',cur,hβ',h2,h3,h4,h5,h6⟩:=hf.regs d _ (Dj hr)
  rw [hβ] at hβ';cases hβ'
  cases hi:P.info? t with
  | none=>exact absurd (by simp [Program.cellsOf,hi]) hc
  | some inf =>
   have hs:inf.size≠0:=by simpa [Program.cellsOf,hi] using hc
   refine ⟨_,_,Lib.run_to_unsafe (P:=P) w ⟨loc.blk,j,none⟩ ha hb hi hs (e:=T) (cells:=cur.length) (by simp [World.shape?,h4]) (by simpa [h5] using hj),?_,hK⟩
   exact ⟨loc,hβ,by rw [hz]⟩
 ·rename_i T cs u' hr ha hb
  obtain ⟨hlies,hi,hK⟩:=hl
  obtain ⟨loc',cur,hβ',h2,h3,h4,h5,h6⟩:=hf.regs d _ (Dj hr)
  rw [hβ] at hβ';cases hβ'
  obtain ⟨inf,hi⟩:=Option.isSome_iff_exists.1 hi
  refine ⟨_,_,Lib.run_from_unsafe (P:=P) w ⟨loc.blk,j,none⟩ ha hb hi (e:=T) (cells:=cur.length) (by simp [World.shape?,h4]) (by rw [h5];exact hlies),?_,hK⟩
  exact ⟨loc,hβ,by rw [hz]⟩
 ·exact hl.elim
theorem Ji4 {s:St} {a:Act} {w:World} {o:Oper} {K:St→Prop} {Q:Exit→Act→World→Prop} {n:Nat} {β:Env} {Im:Nat→Prop} {ms:List Nat} (hdef:a.defers=ms.map Qw) (hx:RRx (Γ.wm ms) β Im s a.tmps w) (hl:lq P s.regs s.get o.op (kput o.dst K s)) :
  o.wpIn (F0 ro) n P a w (fun a' w'=>∃ s,K s∧RRm Γ ms s a' w') Q:=by
 obtain ⟨v,l,hr,hrep,hK⟩:=Jlh (P:=P) hx.fit (o:=o) hl
 refine J3 (v:=v) (w':=w) (fun c hc=>?_) hr ⟨_,hK,Qz (Gi hdef) (hx.put _ hrep)⟩
 rw [hc] at hl;simp [lq,lqv] at hl
theorem X7 {s:St} {a:Act} {w:World} {o:Oper} {K:St→Prop} {Q:Exit→Act→World→Prop} {n:Nat} {β:Env} {Im:Nat→Prop} {ms:List Nat} (hG:Γ.G=X.G) (hdef:a.defers=ms.map Qw) (hx:RRx (Γ.wm ms) β Im s a.tmps w)
  {g:FuncId} {ls:List L} {vs:List Value} (hd:∀ c,o.op≠.defer c) (hlen:vs.length=ls.length) (hrep:∀ (i:Nat) (v:Value) (l:L),vs[i]? = some v→ls[i]? = some l→LRep β w Im v l)
  (hr:(execOp a.eval o).run X.P w=(callFunc g ⟨vs⟩).run X.P w) (hl:Xd X g ls s o.dst K):o.wpIn (F0 ro) n X.P a w (fun a' w'=>∃ s,K s∧RRm Γ ms s a' w') Q:=by
 unfold Xd Jal at hl
 have hρ:=canon_ok (Jer ls) s.regs
 generalize Jd2 (Mu [] (Jer ls)) s.regs=ρ at hl hρ
 obtain ⟨hent,hl⟩:=hl
 refine Jdk (f:=g) (args:=⟨vs⟩) (w':=w) hd (by rw [hr];exact hent _ _) ?_
 refine (hl (Wu ρ β) Im w vs (hG ▸ hx.glob) (hx.fit.call hρ hlen hrep)).mono fun e w' ⟨v,l,rs',β',Im2,he,hP,hrp,hstep⟩=>⟨v,he,_,hP,Qz (Gi hdef) ((hx.called hρ (nw:=Oi o.dst rs') ?_ ?_ hstep).put _ ?_)⟩
 ·intro d hd
  unfold Oi at hd
  split at hd
  ·cases hdst:o.dst with
   | none=>rw [hdst] at hd;have:=Option.some.inj hd;subst this;decide
   | some d0 =>
    rw [hdst] at hd
    have:=Option.some.inj hd
    subst this
    dsimp only
    by_cases h9:d0<900
    ·rw [if_pos h9];exact Nat.lt_of_lt_of_le h9 (by decide)
    ·rw [if_neg h9];decide
  ·cases hd
 ·intro hn
  unfold Oi at hn
  split at hn
  ·cases hn
  ·assumption
 ·refine hrp.map fun n d hd=>?_
  unfold Md at hd
  unfold L1
  cases hnw:Oi o.dst rs' with
  | none =>
   rw [hnw] at hd
   have:=(hρ.back n d).1 hd
   simp [this]
  | some x =>
   rw [hnw] at hd
   simp only at hd
   split at hd
   ·rename_i h9;cases hd;subst h9;simp
   ·split at hd
    ·rename_i e he
     split at hd
     ·cases hd
     ·rename_i hne
      cases hd
      have:=(hρ.back n d).1 he
      rw [if_neg (by intro hc;exact hne (Option.some.inj hc).symm),this]
    ·cases hd
theorem Ji6 {s:St} {a:Act} {w:World} {β:Env} {Im:Nat→Prop} {ms:List Nat} (hx:RRx (Γ.wm ms) β Im s a.tmps w) {ta tb:TypeId} {u:List UInt8} {v0:Value} {dst:Option Tmp} {K:St→Prop} (hv0:LRep β w Im v0 (.p (.str u)))
  (hl:Jaa P ta tb u s dst K):∃ v w' Im' l,(convert ta tb v0).run P w=.ok v w'∧RRx (Γ.wm ms) β Im' s a.tmps w'∧LRep β w' Im' v l∧K (s.put dst l):=by
 unfold Jaa at hl
 split at hl
 ·rename_i e hb
  obtain ⟨ha,he,hK⟩:=hl
  obtain ⟨ua,ha⟩:=Option.isSome_iff_exists.1 ha
  have hv:v0=.string ⟨⟨u⟩⟩:=by cases hv0;rfl
  subst hv
  have hrun:=Lib.run_convert_string_bytes (P:=P) w ta tb e ⟨⟨u⟩⟩ ha hb he
  have g:Grow w Im (Lib.bytesWorld w e ⟨⟨u⟩⟩) (fun b=>Im b∨b=w.heap.size) :=
   {
    os:=rfl,tape:=rfl,output:=rfl,size:=by rw [Lib.bytesWorld_size];omega,block:=fun k hk=>Lib.bytesWorld_at_old w e _ k hk,im:=fun b hb=>.inl hb,
    new:=fun b hb=>hb.elim .inl fun h=>.inr (by omega),lt:=fun b hb=>by rw [Lib.bytesWorld_size];rcases hb with hb | rfl;exact Nat.lt_succ_of_lt (hx.fit.im b hb);exact Nat.lt_succ_self _ }
  have hsz:(⟨⟨u⟩⟩:ByteArray).size=u.length:=rfl
  have hlen:(u.map fun c=>[PV.int .u8 c.toNat]).length=u.length:=by simp
  refine ⟨_,_,_,_,hrun,hx.grow g,?_,hK⟩
  show PRep _ _ (.slice (some ⟨w.heap.size,0,none⟩) (⟨⟨u⟩⟩:ByteArray).size _) (.sl (u.map fun c=>[PV.int .u8 c.toNat]))
  have e1:(⟨⟨u⟩⟩:ByteArray).size=(u.map fun c=>[PV.int .u8 c.toNat]).length:=by rw [hlen];rfl
  rw [e1]
  refine PRep.sl w.heap.size 0 _ 1 _ (grownCap_ge w _ 0 e) (.inr rfl) (fun i _=>.int .u8 (u.getD i 0).toNat) (fun x hx=>?_) (fun x hx p hp=>?_) (fun i hi j hj=>?_) (fun i x j p hi hj=>?_)
  ·obtain ⟨c,_,rfl⟩:=List.mem_map.1 hx;rfl
  ·obtain ⟨c,_,rfl⟩:=List.mem_map.1 hx;simp at hp;subst hp;rfl
  ·have hj0:j=0:=by omega
   subst hj0
   rw [show 0+i * 1+0=i by omega]
   exact Lib.bytesWorld_cell w e ⟨⟨u⟩⟩ i (by rw [hsz];rw [hlen] at hi;exact hi)
  ·rw [List.getElem?_map] at hi
   obtain ⟨c,hc,rfl⟩:=Option.map_eq_some_iff.1 hi
   cases j with
   | zero =>
    simp at hj;subst hj
    have:u.getD i 0=c:=by simp [List.getD_eq_getElem?_getD,hc]
    rw [this]
    exact .int _ _
   | succ j=>simp at hj
 ·obtain ⟨v,l,hr,hrep,hK⟩:=U3 (P:=P) hv0 hl
  exact ⟨v,w,Im,l,hr,hx,hrep,hK⟩
theorem Jne {s:St} {a:Act} {w:World} {β:Env} {Im:Nat→Prop} {ms:List Nat} (hx:RRx (Γ.wm ms) β Im s a.tmps w) {t:TypeId} {x:Operand} {lo hi:Option Operand} {d:Nat} {N:St→L→Prop} (hg:s.get x=.ptr d 0 0)
  (hl:larr P t s d lo hi N (Bj d s.regs)):∃ v s' l Im',(Instr.sliceAt t (a.eval x) (lo.map a.eval) (hi.map a.eval) none).run P w=.ok v w∧RRx (Γ.wm ms) β Im' s' a.tmps w∧LRep β w Im' v l∧N s' l:=by
 unfold larr at hl
 split at hl
 ·rename_i T cs n e sz hr ha
  obtain ⟨rfl,rfl,ps,hps,l,hh,hlo,hhi,h0,h1,h2,hN⟩:=hl
  obtain ⟨ht,hc1,_⟩:=Jdo ha
  have hxr:=Ec hx.fit x
  rw [hg] at hxr
  obtain ⟨loc,hβ,hv⟩:=hxr
  obtain ⟨loc',cur,hβ',g2,g3,g4,g5,g6⟩:=hx.fit.regs d _ (Dj hr)
  rw [hβ] at hβ';cases hβ'
  have hb:=Pv (P:=P) (w:=w) false cs.length cs.length _ _ l hh (K7 hx.fit hlo) (K7 hx.fit hhi) h0 h1 h2
  have hz:(0:Nat) * loc.sz+0=0:=by simp
  have hrun:(Instr.sliceAt t (a.eval x) (lo.map a.eval) (hi.map a.eval) none).run P w=.ok (.slice (some (if cs.length=l.toNat then ⟨loc.blk,0,none⟩ else ⟨loc.blk,l.toNat,none⟩)) (hh.toNat - l.toNat) (cs.length - l.toNat)) w:=by
   rw [hv,hz]
   simp only [Instr.sliceAt,Sem.run_bind,run_underlying ht,Result.andThen_ok,Instr.sureAddr,hb,Hg (P:=P) (t:=e) rfl (by omega),Sem.run_pure,hc1]
   split
   ·simp
   ·simp [Addr.add];omega
  have hfz:=hx.freezeZ d .gone trivial _ (Dj hr)
  refine ⟨_,_,_,_,hrun,hfz,?_,hN⟩
  obtain ⟨hlen,hsp⟩:=Ha hps
  have hl1:(((ps.map fun p=>[p]).drop l.toNat).take (hh.toNat - l.toNat)).length=hh.toNat - l.toNat:=by simp;omega
  show PRep w _ _ _
  have hbi:(Im loc.blk∨∃ loc',β d=some loc'∧loc.blk=loc'.blk):=.inr ⟨loc,hβ,rfl⟩
  by_cases hcl:cs.length=l.toNat
  ·have he:((ps.map fun p=>[p]).drop l.toNat).take (hh.toNat - l.toNat)=[]:=List.eq_nil_of_length_eq_zero (by rw [hl1];omega)
   rw [he,if_pos hcl,show hh.toNat - l.toNat=0 by omega]
   exact PRep.sl loc.blk 0 _ 1 [] (Nat.zero_le _) hbi (fun _ _=>undef) (fun x hx=>by cases hx) (fun x hx=>by cases hx) (fun i hi=>by simp at hi) (fun i x j p hi=>by simp at hi)
  ·rw [if_neg hcl]
   conv=>arg 3;rw [← hl1]
   have key:∀ (i:Nat) (p:PV),ps[i]? = some p→∃ v,cur[i]? = some v∧PRep w Im v p∧p.scalar=true:=by
    intro i p hp
    obtain ⟨c,hc⟩:=getElem?_of_length hlen hp
    obtain ⟨v,hv'⟩:=getElem?_of_length g5 hc
    have h1:=hsp i c p hc hp
    obtain ⟨r1,r2⟩:=g6 i v c hv' hc
    cases c with
    | p q =>
     simp only [L.pure?] at h1;cases h1
     refine ⟨v,hv',r1,?_⟩
     rcases r2 with r2 | r2
     ·exact r2
     ·cases r2
    | _=>simp [L.pure?] at h1
   have hmem:∀ y∈((ps.map fun p=>[p]).drop l.toNat).take (hh.toNat - l.toNat),∃ p∈ps,y=[p]:=fun y hy=>by
    have:=List.mem_of_mem_drop (List.mem_of_mem_take hy)
    obtain ⟨p,hp,rfl⟩:=List.mem_map.1 this
    exact ⟨p,hp,rfl⟩
   have hk:Keeps w Im w (fun b=>Im b∨∃ loc,β d=some loc∧b=loc.blk):=⟨fun b hb=>.inl hb,fun _ _=>rfl⟩
   refine PRep.sl loc.blk l.toNat (cs.length - l.toNat) 1 _ (by rw [hl1];omega) hbi (fun i j=>cur.getD (l.toNat+i) undef) (fun y hy=>?_) (fun y hy p hp=>?_) (fun i hi j hj=>?_) (fun i y j p hi hj=>?_)
   ·obtain ⟨p,_,rfl⟩:=hmem y hy;rfl
   ·obtain ⟨q,hq,rfl⟩:=hmem y hy
    have:p=q:=by simpa using hp
    subst this
    obtain ⟨i,hi,he⟩:=List.getElem_of_mem hq
    obtain ⟨_,_,_,h3⟩:=key i p (by rw [List.getElem?_eq_getElem hi,he])
    exact h3
   ·rw [hl1] at hi
    have hj0:j=0:=by omega
    subst hj0
    rw [Om g4]
    have hlt:l.toNat+i<cur.length:=by omega
    rw [show l.toNat+i * 1+0=l.toNat+i by omega,List.getElem?_eq_getElem hlt]
    simp [List.getD_eq_getElem?_getD,hlt]
   ·rw [List.getElem?_take] at hi
    split at hi
    ·rw [List.getElem?_drop,List.getElem?_map] at hi
     obtain ⟨q,hq,rfl⟩:=Option.map_eq_some_iff.1 hi
     cases j with
     | zero =>
      simp at hj;subst hj
      obtain ⟨v,hv',hp',_⟩:=key _ _ hq
      have:cur.getD (l.toNat+i) undef=v:=by simp [List.getD_eq_getElem?_getD,hv']
      rw [this]
      exact hp'.mono hk
     | succ j=>simp at hj
    ·cases hi
 ·exact hl.elim
theorem Xs {s:St} {ms:List Nat} {a:Act} {w:World} {o:Oper} {K:St→Prop} {Q:Exit→Act→World→Prop} {n:Nat} (hG:Γ.G=X.G) (h:RRm Γ ms s a w) (hl:lop X o K s):o.wpIn (F0 ro) n X.P a w (fun a' w'=>∃ s,K s∧RRm Γ ms s a' w') Q:=by
 obtain ⟨hdef,β,Im,hx⟩:=h
 unfold lop at hl
 split at hl
 ·rename_i T d ho hdst
  exact (Jjg hx hl).oper (by rw [ho];simp) (by unfold execOp;rw [ho]) hdst hdef
 ·rename_i T x d ho hdst
  exact (Jnd (P:=X.P) hx hl).oper (by rw [ho];simp) (by unfold execOp;rw [ho]) hdst hdef
 ·rename_i t m parts d ho hdst
  have:=Yf hx hl
  have e:(parts.map fun (i,x)=>(i,a.eval x))=⟨parts.toList.map fun (i,x)=>(i,a.eval x)⟩:=by rw [← Array.toList_inj];simp
  rw [← e] at this
  exact this.oper (by rw [ho];simp) (by unfold execOp;rw [ho]) hdst hdef
 ·rename_i t l c d ho hdst
  exact (Jav hx hl).oper (by rw [ho];simp) (by unfold execOp;rw [ho]) hdst hdef
 ·rename_i t d ho hdst
  exact (Jdc (P:=X.P) (T:=t) hx hl).oper (by rw [ho];simp) (by unfold execOp;rw [ho];rfl) hdst hdef
 ·rename_i t x d ho hdst
  exact (Jjj hx hl).oper (by rw [ho];simp) (by unfold execOp;rw [ho]) hdst hdef
 ·rename_i it b ho
  obtain ⟨v,w',s',l,hr,hx',hrep,hK⟩:=Jld (P:=X.P) (ty:=o.type) hx hl
  exact J3 (v:=v) (w':=w') (by rw [ho];simp) (by unfold execOp;rw [ho];simp [hr]) ⟨_,hK,Qz (Gi hdef) (hx'.put _ hrep)⟩
 ·rename_i it ho
  obtain ⟨v,l,hr,hrep,hK⟩:=Jie (P:=X.P) hx.fit hl
  exact J3 (v:=v) (w':=w) (by rw [ho];simp) (by unfold execOp;rw [ho];simp [hr]) ⟨_,hK,Qz (Gi hdef) (hx.put _ hrep)⟩
 ·rename_i t m k v ho
  obtain ⟨w',s',Im',hr,hK,h'⟩:=S0 hx hl
  exact T7 (w':=w') (by rw [ho];simp) (by unfold execOp;rw [ho];simp [hr]) ⟨_,hK,Qz (Gi hdef) (h'.put _ ⟨[],rfl,rfl,fun i x p h=>by simp at h⟩)⟩
 ·rename_i t m k v ho
  obtain ⟨w',s',Im',hr,hK,h'⟩:=S0 hx hl
  exact T7 (w':=w') (by rw [ho];simp) (by unfold execOp;rw [ho];simp [hr]) ⟨_,hK,Qz (Gi hdef) (h'.put _ ⟨[],rfl,rfl,fun i x p h=>by simp at h⟩)⟩
 ·rename_i t x y ho
  obtain ⟨w',s',Im',hr,hK,h'⟩:=Jif hx hl
  exact T7 (w':=w') (by rw [ho];simp) (by unfold execOp;rw [ho];simp [hr]) ⟨_,hK,Qz (Gi hdef) (h'.put _ ⟨[],rfl,rfl,fun i x p h=>by simp at h⟩)⟩
 ·rename_i args ts d ho hdst
  split at hl
  ·rename_i x y t t' ha ht
   have:=Jfo (ty:=o.type) hx hl
   refine this.oper (by rw [ho];simp) ?_ hdst hdef
   unfold execOp
   rw [ho]
   obtain ⟨la⟩:=args
   obtain ⟨lt⟩:=ts
   simp only at ha ht
   subst ha;subst ht
   simp [resolve,invoke,builtin]
  ·exact hl.elim
 ·rename_i args ts ho
  split at hl
  ·rename_i x y t t' ha ht
   obtain ⟨la⟩:=args
   obtain ⟨lt⟩:=ts
   simp only at ha ht
   subst ha;subst ht
   obtain ⟨v,w',s',l,hr,h',hrep,hK⟩:=Jl7 (P:=X.P) (ty:=o.type) hx hl
   exact J3 (v:=v) (w':=w') (by rw [ho];simp) (by unfold execOp;rw [ho];simp [resolve,invoke,builtin,hr]) ⟨_,hK,Qz (Gi hdef) (h'.put _ hrep)⟩
  ·exact hl.elim
 ·rename_i args ts ho
  split at hl
  ·rename_i m k t ts' ha ht
   obtain ⟨la⟩:=args
   obtain ⟨lt⟩:=ts
   simp only at ha ht
   subst ha;subst ht
   obtain ⟨w',s',hr,hK,h'⟩:=Jfn (P:=X.P) (ty:=o.type) (ts:=ts') hx hl
   exact J3 (v:=.tuple #[]) (w':=w') (by rw [ho];simp) (by unfold execOp;rw [ho];simp [resolve,invoke,builtin,hr]) ⟨_,hK,Qz (Gi hdef) (h'.put _ ⟨[],rfl,rfl,fun i x p h=>by simp at h⟩)⟩
  ·exact hl.elim
 ·rename_i args ts ho
  unfold Jou at hl
  split at hl
  ·rename_i x y t it ha ht
   split at hl
   ·exact Ji4 hdef hx hl
   ·obtain ⟨la⟩:=args
    obtain ⟨lt⟩:=ts
    simp only at ha ht
    subst ha;subst ht
    obtain ⟨v,w',s',l,hr,h',hrep,hK⟩:=Jag (P:=X.P) (it:=it) (ty:=o.type) hx hl
    exact J3 (v:=v) (w':=w') (by rw [ho];simp) (by unfold execOp;rw [ho];simp [resolve,invoke,builtin,hr]) ⟨_,hK,Qz (Gi hdef) (h'.put _ hrep)⟩
  ·exact hl.elim
 ·rename_i f args ts ho
  unfold Jo8 at hl
  split at hl
  ·rename_i g ds hg
   have hrf:=Ec hx.fit f
   rw [hg] at hrf
   obtain ⟨cs,hv,hcl,hcs⟩:=hrf
   have hrun:(execOp a.eval o).run X.P w=(callFunc g ⟨args.toList.map a.eval ++ cs⟩).run X.P w:=by
    unfold execOp
    rw [ho]
    have e:args.map a.eval ++ (⟨cs⟩:Array Value)=⟨args.toList.map a.eval ++ cs⟩:=by rw [← Array.toList_inj];simp
    simp only [resolve,Sem.run_bind,hv,Deferred.ofValue,Sem.run_pure,Result.andThen_ok,invoke,Array.empty_append,e]
   have hargs:∀ {s':St} {Im':Nat→Prop},RRx (Γ.wm ms) β Im' s' a.tmps w→∀ (i:Nat) (v:Value) (l:L),(args.toList.map a.eval ++ cs)[i]? = some v→(args.toList.map s'.get ++ ds.map fun d=>L.ptr d 0 0)[i]? = some l→LRep β w Im' v l:=by
    intro s' Im' hx' i v l hi hl'
    by_cases hlt:i<args.toList.length
    ·rw [List.getElem?_append_left (by simpa using hlt),List.getElem?_map] at hi hl'
     obtain ⟨q,hq,rfl⟩:=Option.map_eq_some_iff.1 hi
     rw [hq] at hl'
     cases hl'
     exact Ec hx'.fit q
    ·rw [List.getElem?_append_right (by simpa using hlt)] at hi hl'
     simp only [List.length_map] at hi hl'
     rw [List.getElem?_map] at hl'
     obtain ⟨d,hd,rfl⟩:=Option.map_eq_some_iff.1 hl'
     obtain ⟨loc,h1,h2⟩:=hcs _ v d hi hd
     exact ⟨loc,h1,by simpa using h2⟩
   unfold Vk at hl
   split at hl
   ·obtain ⟨Im',hx'⟩:=RRx.freezeOps args.toList hx
    exact X7 hG hdef hx' (by rw [ho];simp) (by simp [hcl]) (hargs hx') hrun hl
   ·exact X7 hG hdef hx (by rw [ho];simp) (by simp [hcl]) (hargs hx) hrun hl
   ·obtain ⟨rfl,l,hX,hK⟩:=hl
    have hc0:cs=[]:=by simpa using hcl
    subst hc0
    have hfit:Fit β w Im ⟨args.toList.map s.get,s.regs⟩ ⟨args.toList.map a.eval⟩ :=
     {
      size:=by simp,tmps:=fun i l hl'=>by
       rw [List.getElem?_map] at hl'
       obtain ⟨q,hq,rfl⟩:=Option.map_eq_some_iff.1 hl'
       have e:(⟨args.toList.map a.eval⟩:Array Value).getD i undef=a.eval q:=by
        rw [Array.getD_eq_getD_getElem?,List.getElem?_toArray,List.getElem?_map,hq];rfl
       rw [e];exact Ec hx.fit q
      regs:=hx.fit.regs,nodup:=hx.fit.nodup,live:=hx.fit.live,apart:=hx.fit.apart,im:=hx.fit.im }
    obtain ⟨v,hr,hrep⟩:=hX β Im w _ hfit
    exact J3 (v:=v) (w':=w) (by rw [ho];simp) (by rw [hrun];simpa using hr) ⟨_,hK,Qz (Gi hdef) (hx.put _ hrep)⟩
   ·obtain ⟨rfl,l,hX,hK⟩:=hl
    have hc0:cs=[]:=by simpa using hcl
    subst hc0
    obtain ⟨v,hr,hrep⟩:=hX β Im w (args.toList.map a.eval ++ []) (by simp) (fun i v l hi hl'=>hargs hx i v l hi (by simpa using hl'))
    exact J3 (v:=v) (w':=w) (by rw [ho];simp) (by rw [hrun,hr]) ⟨_,hK,Qz (Gi hdef) (hx.put _ hrep)⟩
  ·exact hl.elim
 ·rename_i a1 b1 x ho
  unfold lconvG at hl
  split at hl
  ·rename_i d j hg
   have hr:=Ec hx.fit x
   rw [hg] at hr
   obtain ⟨v,l,hr,hrep,hK⟩:=Jej (P:=X.P) hx.fit hr hl
   exact J3 (v:=v) (w':=w) (by rw [ho];simp) (by unfold execOp;rw [ho];simp [hr]) ⟨_,hK,Qz (Gi hdef) (hx.put _ hrep)⟩
  ·rename_i u hg
   have hr:=Ec hx.fit x
   rw [hg] at hr
   obtain ⟨v,w',Im',l,hr,hx',hrep,hK⟩:=Ji6 (P:=X.P) hx hr hl
   exact J3 (v:=v) (w':=w') (by rw [ho];simp) (by unfold execOp;rw [ho];simp [hr]) ⟨_,hK,Qz (Gi hdef) (hx'.put _ hrep)⟩
  ·obtain ⟨Im',hx'⟩:=RRx.freezeOps [x] hx
   obtain ⟨v,l,hr,hrep,hK⟩:=U3 (P:=X.P) (Ec hx'.fit x) hl
   exact J3 (v:=v) (w':=w) (by rw [ho];simp) (by unfold execOp;rw [ho];simp [hr]) ⟨_,hK,Qz (Gi hdef) (hx'.put _ hrep)⟩
 ·rename_i t x lo hi ho
  unfold lslG at hl
  split at hl
  ·rename_i d hg
   obtain ⟨v,s',l,Im',hr,hx',hrep,hK⟩:=Jne (P:=X.P) hx hg hl
   exact J3 (v:=v) (w':=w) (by rw [ho];simp) (by unfold execOp;rw [ho];simp [hr]) ⟨_,hK,Qz (Gi hdef) (hx'.put _ hrep)⟩
  ·exact Ji4 hdef hx hl
 ·exact Ji4 hdef hx hl
theorem Jgy {s:St} {a:Act} {w:World} {o:Oper} {K:St→Prop} {Q:Exit→Act→World→Prop} {n:Nat} (hG:Γ.G=X.G) (h:RR Γ s a w) (hl:lop X o K s):o.wpIn (F0 ro) n X.P a w (fun a' w'=>∃ s,K s∧RR Γ s a' w') Q:=by
 obtain ⟨ms,hdef,hh⟩:=h
 exact Oper.wpIn_mono (fun a' w' ⟨s',h1,h2⟩=>⟨s',h1,h2.rr⟩) (Xs (ms:=ms) hG ⟨hdef,hh⟩ hl)
theorem Q8 {s:St} {a:Act} {w:World} {ops:Array Oper} {g:Option (Nat×Bool)} {A B:St→Prop} (h:RR Γ s a w) (hl:Qt (ops.toList.map (·.dst)) g A B s) :
  ∃ s',RR Γ s' a w∧((A s'∧∀ o:Oper,o.guard=g→Region.wanted o (yielded ops a.tmps)=true)∨(B s'∧∀ o:Oper,o.guard=g→Region.wanted o (yielded ops a.tmps)=false)):=by
 unfold Qt at hl
 split at hl
 ·exact ⟨s,h,.inl ⟨hl,fun o ho=>by simp [Region.wanted,ho]⟩⟩
 ·rename_i j want
  split at hl
  ·rename_i dj hdj
   obtain ⟨ms,hdef,β,Im,hx⟩:=h
   have hlook:(ops[j]?).bind (·.dst)=some dj:=by
    rw [List.getD_eq_getElem?_getD,List.getElem?_map] at hdj
    cases hj:ops[j]? with
    | none=>simp [hj] at hdj
    | some o=>simpa [hj] using hdj
   split at hl
   ·rename_i c hc
    have hlt:s.tmps[dj]? = some (.p (.bool c)):=by
     rw [List.getD_eq_getElem?_getD] at hc
     cases hs:s.tmps[dj]? with
     | none=>rw [hs] at hc;simp at hc
     | some l=>rw [hs] at hc;simp at hc;rw [hc]
    have hrep:=hx.fit.tmps dj _ hlt
    have hsz:dj<a.tmps.size:=by rw [hx.fit.size];exact (List.getElem?_eq_some_iff.1 hlt).1
    have hv:a.tmps[dj]? = some (.bool c):=by
     have e1:a.tmps.getD dj undef=a.tmps[dj]:=by simp [Array.getD_eq_getD_getElem?,hsz]
     rw [e1] at hrep
     cases hvv:a.tmps[dj] with
     | bool b=>rw [hvv] at hrep;cases hrep;simp [hsz,hvv]
     | _=>rw [hvv] at hrep;cases hrep
    have hy:yielded ops a.tmps j=some c:=by simp [yielded,hlook,hv]
    have same:∀ c',c=c'→RR Γ (s.put (some dj) (.p (.bool c'))) a w:=by
     rintro c' rfl
     have e:s.put (some dj) (.p (.bool c))=s:=by
      simp only [St.put]
      congr 1
      obtain ⟨hl1,hl2⟩:=List.getElem?_eq_some_iff.1 hlt
      rw [← hl2]
      exact List.set_getElem_self hl1
     rw [e]
     exact ⟨ms,hdef,β,Im,hx⟩
    by_cases hcw:c=want
    ·exact ⟨_,same want hcw,.inl ⟨hl.1 hcw,fun o ho=>by simp [Region.wanted,ho,hy,hcw]⟩⟩
    ·have hcw':c = !want:=by cases c <;> cases want <;> simp_all
     exact ⟨_,same (!want) hcw',.inr ⟨hl.2 hcw',fun o ho=>by simp [Region.wanted,ho,hy,hcw]⟩⟩
   ·rename_i hc
    have hlt:s.tmps[dj]? = some (.tup []):=by
     rw [List.getD_eq_getElem?_getD] at hc
     cases hs:s.tmps[dj]? with
     | none=>rw [hs] at hc;simp at hc
     | some l=>rw [hs] at hc;simp at hc;rw [hc]
    have hrep:=hx.fit.tmps dj _ hlt
    have hsz:dj<a.tmps.size:=by rw [hx.fit.size];exact (List.getElem?_eq_some_iff.1 hlt).1
    have e1:a.tmps.getD dj undef=a.tmps[dj]:=by simp [Array.getD_eq_getD_getElem?,hsz]
    rw [e1] at hrep
    obtain ⟨vs,hv,_⟩:=hrep
    have hy:yielded ops a.tmps j=none:=by simp [yielded,hlook,hsz,hv]
    exact ⟨s,⟨ms,hdef,β,Im,hx⟩,.inr ⟨hl,fun o ho=>by simp [Region.wanted,ho,hy]⟩⟩
   ·exact hl.elim
  ·exact hl.elim
theorem Sx {β:Env} {w:World} {Im:Nat→Prop}:LRep β w Im undef (.tup []):=⟨[],rfl,rfl,fun i x p h=>by simp at h⟩
theorem W5 {ops:Array Oper} {K:St→Prop} {Q:Exit→Act→World→Prop} {n:Nat} (hG:Γ.G=X.G) (hQ:∀ s a w,K s→RR Γ s a w→Q .normal a w):∀ (l:List Oper) (k:Nat),(∀ j,l[j]? = ops[k+j]?)→∀ (s:St) (a:Act) (w:World),RR Γ s a w →
  lops X (ops.toList.map (·.dst)) l K s→wpOpsIn (F0 ro) n X.P ops Q (List.range' k l.length) a w
 | [],k,_,s,a,w,h,hl=>by simpa [wpOpsIn] using hQ s a w hl h
 | o :: l,k,hk,s,a,w,h,hl=>by
  have h0:ops[k]? = some o:=by simpa using (hk 0).symm
  have hk':∀ j,l[j]? = ops[k+1+j]?:=fun j=>by have:=hk (j+1);simpa [Nat.add_assoc,Nat.add_comm 1 j] using this
  simp only [List.length_cons,List.range'_succ,wpOpsIn,h0]
  simp only [lops] at hl
  obtain ⟨s',h',hc⟩:=Q8 h hl
  rcases hc with ⟨hA,hw⟩ | ⟨hB,hw⟩
  ·rw [if_pos (hw o rfl)]
   exact Oper.wpIn_mono (fun a' w' ⟨s2,hs2,hr2⟩=>W5 hG hQ l (k+1) hk' s2 a' w' hr2 hs2) (Jgy hG h' hA)
  ·rw [if_neg (by rw [hw o rfl];simp)]
   obtain ⟨ms,hdef,β,Im,hx⟩:=h'
   exact ⟨fun _ _=>trivial,W5 hG hQ l (k+1) hk' _ _ w ⟨ms,Gi hdef,β,Im,hx.put o.dst Sx⟩ hB⟩
end
end Go.LX
namespace Go.LX
open Go Go.RowKit Go.Proofs
def L.retOK:L→Bool
 | .p _=>true
 | .tup _=>true
 | _=>false
def lqbs (P:Program) (s:St) (t:TypeId) (n:Nat) (parts:List (Nat×Operand)) (K:L→Prop):Prop :=
 ∃
  e sz,slE P t=some (e,sz)∧n * sz≤16777216∧(∃ zs,Jf P e=some zs∧zs.length=sz)∧parts.length=n∧U9 0 (parts.map fun (i,x)=>(i,s.get x))=true ∧
  ∃ es,M6 sz (parts.map fun (i,x)=>(i,s.get x))=some es∧K (.p (.sl es))
def lqc (X:Cx) (s:St) (o:Oper) (K:L→Prop):Prop :=
 match o.op with
 | .call { callee:=.value f,args,argTypes:=_ }=>match s.get f with
  | .fn g []=>∃ l,(B2 X g (args.toList.map s.get) [] (fun m _=>m=l)∧l.retOK=true)∧K l
  | _=>False
 | .buildSlice t n parts=>lqbs X.P s t n parts.toList K
 | op=>lq X.P s.regs s.get op K
def kq (X:Cx) (o:Oper) (K:St→Prop) (s:St):Prop:=lqc X s o (kput o.dst K s)
def Uj (X:Cx) (ds:List (Option Tmp)):List Oper→(St→Prop)→St→Prop
 | [],K,s=>K s
 | o :: rest,K,s=>Qt ds o.guard (kq X o (Uj X ds rest K)) (Qy o.dst (Uj X ds rest K)) s
def YS (X:Cx) (ds:List (Option Tmp)) (s:St) (o:Oper) (K:L→Prop):Prop :=
 match o.guard with
 | none=>lqc X s o K
 | some (j,want)=>match ds.getD j none with
  | some dj=>match s.tmps.getD dj .junk with
   | .p (.bool c)=>if c=want then lqc X s o K else K (.tup [])
   | .tup []=>K (.tup [])
   | _=>False
  | none=>False
def Jo4 (X:Cx) (ds:List (Option Tmp)) (K:St→Prop):List Oper→St→Prop
 | [],s=>K s
 | o :: rest,s=>YS X ds s o fun l=>Jo4 X ds K rest (s.put o.dst l)
section
variable {X:Cx} {Γ:Base} {ro:Option Nat} {ops:Array Oper} {md:Region.Mode}
theorem Ya {s:St} {o:Oper} {K K':L→Prop} (h:∀ l,K l→K' l) (hl:lqc X s o K):lqc X s o K':=by
 unfold lqc at hl ⊢
 split at hl
 ·split at hl
  ·obtain ⟨l,h1,h2⟩:=hl;exact ⟨l,h1,h l h2⟩
  ·exact hl.elim
 ·obtain ⟨e,sz,h1,h2,h3,h4,h5,es,h6,h7⟩:=hl
  exact ⟨e,sz,h1,h2,h3,h4,h5,es,h6,h _ h7⟩
 ·exact lq_mono h hl
theorem Jga {s:St} {o:Oper} {K:L→Prop} (hl:lqc X s o K):∃ l,lqc X s o (fun m=>m=l)∧K l:=by
 unfold lqc at hl ⊢
 split at hl
 ·split at hl
  ·obtain ⟨l,h1,h2⟩:=hl;exact ⟨l,⟨l,h1,rfl⟩,h2⟩
  ·exact hl.elim
 ·obtain ⟨e,sz,h1,h2,h3,h4,h5,es,h6,h7⟩:=hl
  exact ⟨_,⟨e,sz,h1,h2,h3,h4,h5,es,h6,rfl⟩,h7⟩
 ·exact Js3 hl
theorem Jgd {s s':St} {o:Oper} {K:L→Prop} (hr:s'.regs=s.regs) (hρ:∀ x∈o.op.operands.toList,s'.get x=s.get x) (hl:lqc X s o K):lqc X s' o K:=by
 unfold lqc at hl ⊢
 split at hl
 ·rename_i f args ts ho
  have e1:s'.get f=s.get f:=hρ f (by rw [ho];simp [Op.operands,Call.operands])
  have e2:args.toList.map s'.get=args.toList.map s.get:=List.map_congr_left fun x hm=>hρ x (by rw [ho];simp [Op.operands,Call.operands];exact .inr (by simpa using hm))
  rw [e1,e2]
  exact hl
 ·rename_i t n parts ho
  have e2:(parts.toList.map fun (i,x)=>(i,s'.get x))=parts.toList.map fun (i,x)=>(i,s.get x):=List.map_congr_left fun x hm=>by
   have:=hρ x.2 (by rw [ho];simp [Op.operands];exact ⟨x.1,by simpa using hm⟩)
   simp only [this]
  unfold lqbs at hl ⊢
  rw [e2]
  exact hl
 ·rw [hr];exact Jsl hρ hl
theorem Wj {ds:List (Option Tmp)} {s:St} {o:Oper} {K K':L→Prop} (h:∀ l,K l→K' l) (hl:YS X ds s o K):YS X ds s o K':=by
 unfold YS at hl ⊢
 split at hl
 ·exact Ya h hl
 ·split at hl
  ·split at hl
   ·split at hl
    ·rename_i hc;rw [if_pos hc];exact Ya h hl
    ·rename_i hc;rw [if_neg hc];exact h _ hl
   ·exact h _ hl
   ·exact hl.elim
  ·exact hl.elim
theorem Jle {ds:List (Option Tmp)} {s:St} {o:Oper} {K:L→Prop} (hl:YS X ds s o K):∃ l,YS X ds s o (fun m=>m=l)∧K l:=by
 unfold YS at hl ⊢
 split at hl
 ·exact Jga hl
 ·split at hl
  ·split at hl
   ·split at hl
    ·rename_i hc;simp only [if_pos hc];exact Jga hl
    ·rename_i hc;simp only [if_neg hc];exact ⟨_,rfl,hl⟩
   ·exact ⟨_,rfl,hl⟩
   ·exact hl.elim
  ·exact hl.elim
theorem get_put {s:St} {dst:Option Tmp} {l:L} {x:Operand} (h:∀ d,dst=some d→x≠.tmp d):(s.put dst l).get x=s.get x:=by
 cases dst with
 | none=>rfl
 | some d =>
  cases x with
  | tmp t =>
   have:d≠t:=fun e=>h d rfl (by rw [e])
   simp [St.get,St.put,List.getD_eq_getElem?_getD,this]
  | const v=>rfl
  | global g=>rfl
  | func f=>rfl
theorem Jsr (j:Nat):(ops.toList.map (·.dst)).getD j none=(ops[j]?).bind (·.dst):=by
 rw [List.getD_eq_getElem?_getD,List.getElem?_map]
 cases h:ops[j]? <;> simp [h]
theorem Jho {s:St} {o:Oper} {K:L→Prop} {dst:Option Tmp} {l:L} (h:∀ d,dst=some d→d ∉ o.looksAt ops) (hl:YS X (ops.toList.map (·.dst)) s o K):YS X (ops.toList.map (·.dst)) (s.put dst l) o K:=by
 have hop:∀ x∈o.op.operands.toList,(s.put dst l).get x=s.get x:=fun x hx=>get_put fun d hd hxd=>h d hd (by
  subst hxd
  exact List.mem_append_left _ (List.mem_filterMap.2 ⟨.tmp d,by simpa using hx,rfl⟩))
 have hreg:(s.put dst l).regs=s.regs:=by cases dst <;> rfl
 unfold YS at hl ⊢
 split at hl
 ·exact Jgd hreg hop hl
 ·rename_i j want hg
  split at hl
  ·rename_i dj hdj
   have hdj':(ops[j]?).bind (·.dst)=some dj:=by rw [← Jsr];exact hdj
   have hslot:(s.put dst l).tmps.getD dj .junk=s.tmps.getD dj .junk:=by
    cases dst with
    | none=>rfl
    | some d =>
     have:d≠dj:=fun e=>h d rfl (by
      subst e
      unfold Oper.looksAt
      refine List.mem_append_right _ ?_
      rw [hg]
      simp only [hdj']
      simp)
     simp [St.put,List.getD_eq_getElem?_getD,this]
   rw [hslot]
   split at hl
   ·split at hl
    ·rename_i hc;rw [if_pos hc];exact Jgd hreg hop hl
    ·rename_i hc;rw [if_neg hc];exact hl
   ·exact hl
   ·exact hl.elim
  ·exact hl.elim
theorem St.put_comm (s:St) {x y:Option Tmp} (v u:L) (h:∀ d,x=some d→y≠some d):(s.put x v).put y u=(s.put y u).put x v:=by
 cases x with
 | none=>rfl
 | some d=>cases y with
  | none=>rfl
  | some e =>
   have:d≠e:=fun h'=>h d rfl (by rw [h'])
   simp only [St.put]
   congr 1
   exact List.set_comm _ _ this
theorem Jjk {s:St} {o:Oper} {K:L→Prop} {dst:Option Tmp} {l:L} (h:∀ d,dst=some d→d ∉ o.looksAt ops) (hl:YS X (ops.toList.map (·.dst)) (s.put dst l) o K):YS X (ops.toList.map (·.dst)) s o K:=by
 cases dst with
 | none=>exact hl
 | some d =>
  cases hd:s.tmps[d]? with
  | none =>
   have:s.put (some d) l=s:=by
    simp only [St.put]
    congr 1
    exact List.set_eq_of_length_le (by rw [List.getElem?_eq_none_iff] at hd;exact hd)
   rw [this] at hl;exact hl
  | some l0 =>
   have:=Jho (ops:=ops) (dst:=some d) (l:=l0) h hl
   have e:(s.put (some d) l).put (some d) l0=s:=by
    simp only [St.put,List.set_set]
    congr 1
    obtain ⟨h1,h2⟩:=List.getElem?_eq_some_iff.1 hd
    rw [← h2];exact List.set_getElem_self h1
   rw [e] at this;exact this
def lAny (X:Cx) (md:Region.Mode) (ops:Array Oper) (K:St→Prop):Nat→Array Bool→St→Prop
 | 0,listed,s=>Region.ready md ops listed=[]∧K s
 | fuel+1,listed,s=>(Region.ready md ops listed=[]→K s) ∧
  ∀ i∈Region.ready md ops listed,∀ o,ops[i]? = some o→YS X (ops.toList.map (·.dst)) s o fun l=>lAny X md ops K fuel (listed.setIfInBounds i true) (s.put o.dst l)
theorem Jmd {K:St→Prop} {i:Nat} {oi:Oper} {v:L} (hi:ops[i]? = some oi):∀ (fuel:Nat) (listed:Array Bool) (s:St),
   (∀ j oj,ops[j]? = some oj→j≠i→listed.getD j true=false→(∀ e∈oj.after,Region.binds md e=true→e.on≠i)→oi.apart ops oj=true) →
   i∈Region.ready md ops listed→YS X (ops.toList.map (·.dst)) s oi (fun m=>m=v) →
   lAny X md ops K fuel (listed.setIfInBounds i true) (s.put oi.dst v)→lAny X md ops K (fuel+1) listed s:=by
 intro fuel
 induction fuel with
 | zero =>
  intro listed s _ hr hy H
  refine ⟨fun h=>(by rw [h] at hr;cases hr),fun j hj oj hoj=>?_⟩
  by_cases hji:j=i
  ·subst hji;rw [hi] at hoj;cases hoj;exact Wj (fun l hl=>by rw [hl];exact H) hy
  ·have:=ready_mono hj hji
   rw [H.1] at this
   cases this
 | succ fuel ih =>
  intro listed s hfree hr hy H
  refine ⟨fun h=>(by rw [h] at hr;cases hr),fun j hj oj hoj=>?_⟩
  by_cases hji:j=i
  ·subst hji;rw [hi] at hoj;cases hoj;exact Wj (fun l hl=>by rw [hl];exact H) hy
  ·have h1:=H.2 j (ready_mono hj hji) oj hoj
   obtain ⟨hjun,oj',hoj',hall⟩:=mem_ready.1 hj
   rw [hoj] at hoj';cases hoj'
   have hnot:∀ e∈oj.after,Region.binds md e=true→e.on≠i:=fun e he hb heq=>by
    have h1:=hall e he hb
    have h0:=(mem_ready.1 hr).1
    rw [heq] at h1
    rcases Nat.lt_or_ge i listed.size with h' | h'
    ·simp [h'] at h0 h1;rw [h0] at h1;cases h1
    ·simp [Array.getElem?_eq_none h'] at h1
   obtain ⟨a1,a2,a3⟩:=Oper.apart_spec (hfree j oj hoj hji hjun hnot)
   have hfree':∀ k ok,ops[k]? = some ok→k≠i→(listed.setIfInBounds j true).getD k true=false →
     (∀ e∈ok.after,Region.binds md e=true→e.on≠i)→oi.apart ops ok=true:=fun k ok hk hki hun hno=>by
    refine hfree k ok hk hki ?_ hno
    by_cases hjk:j=k
    ·subst hjk;exact hjun
    ·rw [getD_set_ne true hjk] at hun;exact hun
   refine Wj (fun l hl=>?_) (Jjk a1 h1)
   refine ih (listed.setIfInBounds j true) (s.put oj.dst l) hfree' (ready_mono hr (Ne.symm hji)) (Jho a3 hy) ?_
   rw [Array.setIfInBounds_comm _ _ hji]
   rw [← St.put_comm s v l a2]
   exact hl
theorem Jko {K:St→Prop}:∀ (l:List Oper) (k:Nat) (listed:Array Bool) (s:St),(∀ j,l[j]? = ops[k+j]?) →
  Region.lexFrom md ops l.length k listed=true→Jo4 X (ops.toList.map (·.dst)) K l s→lAny X md ops K l.length listed s
 | [],_,_,_,_,hB,h=>⟨by simpa [Region.lexFrom] using hB,h⟩
 | o :: l,k,listed,s,hl,hB,h=>by
  have h0:ops[k]? = some o:=by simpa using (hl 0).symm
  simp only [List.length_cons,Region.lexFrom,Bool.and_eq_true] at hB
  obtain ⟨⟨hr,hf⟩,hB'⟩:=hB
  obtain ⟨v,hy,hK⟩:=Jle (X:=X) (show YS X _ s o _ from h)
  exact Jmd h0 l.length listed s (Region.free_spec h0 hf) (by simpa using hr) hy
   (Jko l (k+1) _ _ (fun j=>by have:=hl (j+1);simpa [Nat.add_assoc,Nat.add_comm 1 j] using this) hB' hK)
theorem Jq5 {s:St} {a:Act} {w:World} {o:Oper} {K:L→Prop} {Q:Exit→Act→World→Prop} {n:Nat} (hG:Γ.G=X.G) (h:RR Γ s a w) (hl:lqc X s o K) :
  o.wpIn (F0 ro) n X.P a w (fun a' w'=>∃ l,K l∧RR Γ (s.put o.dst l) a' w') Q:=by
 obtain ⟨ms,hdef,β,Im,hx⟩:=h
 unfold lqc at hl
 split at hl
 ·rename_i f args ts ho
  split at hl
  ·rename_i g hg
   obtain ⟨l,⟨⟨hent,hl⟩,hret⟩,hK⟩:=hl
   have hrf:=Ec hx.fit f
   rw [hg] at hrf
   obtain ⟨cs,hv,hcl,hcs⟩:=hrf
   have:cs=[]:=List.eq_nil_of_length_eq_zero (by simpa using hcl)
   subst this
   have hfit:Fit β w Im ⟨args.toList.map s.get,[]⟩ ⟨args.toList.map a.eval⟩:=by
    refine { size:=by simp,tmps:=fun i l hl'=>?_,regs:=fun d r h=>(by cases h),nodup:=.nil,live:=fun d r loc h=>(by cases h),apart:=fun d r d' r' l1 l2 h=>(by cases h),im:=hx.fit.im }
    simp only [List.getElem?_map] at hl'
    obtain ⟨q,hq,rfl⟩:=Option.map_eq_some_iff.1 hl'
    have e1:(⟨args.toList.map a.eval⟩:Array Value).getD i undef=a.eval q:=by simp only [Array.getD_eq_getD_getElem?,List.getElem?_toArray,List.getElem?_map,hq];rfl
    rw [e1]
    exact Ec hx.fit q
   refine Jdk (f:=g) (args:=⟨args.toList.map a.eval⟩) (w':=w) (by rw [ho];simp) ?_ ?_
   ·unfold execOp
    rw [ho]
    have e:args.map a.eval ++ (⟨[]⟩:Array Value)=⟨args.toList.map a.eval⟩:=by rw [← Array.toList_inj];simp
    simp only [resolve,Sem.run_bind,hv,Deferred.ofValue,Sem.run_pure,Result.andThen_ok,invoke,Array.empty_append,e]
    exact hent _ _
   ·refine (hl β Im w _ (hG ▸ hx.glob) hfit).mono fun e w' ⟨v,m,rs',β',Im2,he,hP,hrep,hstep⟩=>⟨v,he,l,hK,ms,Gi hdef,β,Im2,?_⟩
    subst hP
    have g:Grow w Im w' Im2:=⟨hstep.os,hstep.tape,hstep.output,hstep.size,fun k hk=>hstep.block k hk fun d r loc h=>(by cases h),hstep.imin,fun b hb=>(hstep.imnew b hb).imp id fun h=>h.elim id fun ⟨d,r,loc,h,_⟩=>(by cases h),hstep.fit.im⟩
    refine (hx.grow g).put _ ?_
    cases m <;> first | exact hrep | cases hret
  ·exact hl.elim
 ·rename_i t m parts ho
  obtain ⟨e,sz,h1,h2,h3,h4,h5,es,h6,h7⟩:=hl
  obtain ⟨v,w',Im',hr,hg,hp⟩:=Jbx hx h1 h2 h3 h4 h5 h6
  have e1:(parts.map fun (i,x)=>(i,a.eval x))=⟨parts.toList.map fun (i,x)=>(i,a.eval x)⟩:=by rw [← Array.toList_inj];simp
  rw [← e1] at hr
  refine J3 (v:=v) (w':=w') (by rw [ho];simp) (by unfold execOp;rw [ho];simp [hr]) ⟨_,h7,ms,Gi hdef,β,Im',(hx.grow hg).put _ hp⟩
 ·have hq:=Jlh (P:=X.P) hx.fit (o:=o) hl
  obtain ⟨v,l,hr,hrep,hK⟩:=hq
  refine J3 (v:=v) (w':=w) (fun c hc=>?_) hr ⟨_,hK,ms,Gi hdef,β,Im,hx.put _ hrep⟩
  rw [hc] at hl;simp [lq,lqv] at hl
theorem Jsh {s:St} {a:Act} {w:World} (h:RR Γ s a w) {j dj:Nat} {c:Bool} (hdj:(ops[j]?).bind (·.dst)=some dj) (hc:s.tmps.getD dj .junk=.p (.bool c)):yielded ops a.tmps j=some c:=by
 obtain ⟨ms,hdef,β,Im,hx⟩:=h
 have hlt:s.tmps[dj]? = some (.p (.bool c)):=by
  rw [List.getD_eq_getElem?_getD] at hc
  cases hs:s.tmps[dj]? with
  | none=>rw [hs] at hc;simp at hc
  | some l=>rw [hs] at hc;simp at hc;rw [hc]
 have hrep:=hx.fit.tmps dj _ hlt
 have hsz:dj<a.tmps.size:=by rw [hx.fit.size];exact (List.getElem?_eq_some_iff.1 hlt).1
 have e1:a.tmps.getD dj undef=a.tmps[dj]:=by simp [Array.getD_eq_getD_getElem?,hsz]
 rw [e1] at hrep
 cases hvv:a.tmps[dj] with
 | bool b=>rw [hvv] at hrep;cases hrep;simp [yielded,hdj,hsz,hvv]
 | _=>rw [hvv] at hrep;cases hrep
theorem Jm4 {s:St} {a:Act} {w:World} (h:RR Γ s a w) {j dj:Nat} (hdj:(ops[j]?).bind (·.dst)=some dj) (hc:s.tmps.getD dj .junk=.tup []):yielded ops a.tmps j=none:=by
 obtain ⟨ms,hdef,β,Im,hx⟩:=h
 have hlt:s.tmps[dj]? = some (.tup []):=by
  rw [List.getD_eq_getElem?_getD] at hc
  cases hs:s.tmps[dj]? with
  | none=>rw [hs] at hc;simp at hc
  | some l=>rw [hs] at hc;simp at hc;rw [hc]
 have hrep:=hx.fit.tmps dj _ hlt
 have hsz:dj<a.tmps.size:=by rw [hx.fit.size];exact (List.getElem?_eq_some_iff.1 hlt).1
 have e1:a.tmps.getD dj undef=a.tmps[dj]:=by simp [Array.getD_eq_getD_getElem?,hsz]
 rw [e1] at hrep
 obtain ⟨vs,hv,_⟩:=hrep
 simp [yielded,hdj,hsz,hv]
theorem Jkc {s:St} {a:Act} {w:World} {i:Nat} {o:Oper} {K:L→Prop} {K':Act→World→Prop} {Q:Exit→Act→World→Prop} {n:Nat} (hi:ops[i]? = some o) (hG:Γ.G=X.G) (h:RR Γ s a w) (hl:YS X (ops.toList.map (·.dst)) s o K)
  (hK:∀ l a' w',K l→RR Γ (s.put o.dst l) a' w'→K' a' w'):wpOpIn (F0 ro) n X.P ops Q i K' a w:=by
 unfold wpOpIn
 simp only [hi]
 have run:∀ {K:L→Prop},lqc X s o K→(∀ l a' w',K l→RR Γ (s.put o.dst l) a' w'→K' a' w')→o.wpIn (F0 ro) n X.P a w K' Q:=fun hl hK =>
  Oper.wpIn_mono (fun a' w' ⟨l,h1,h2⟩=>hK l a' w' h1 h2) (Jq5 hG h hl)
 have skip:∀ {K:L→Prop},K (.tup [])→(∀ l a' w',K l→RR Γ (s.put o.dst l) a' w'→K' a' w')→K' (a.put o.dst undef) w:=fun h1 hK=>by
  obtain ⟨ms,hdef,β,Im,hx⟩:=h
  exact hK _ _ _ h1 ⟨ms,Gi hdef,β,Im,hx.put _ Sx⟩
 unfold YS at hl
 split at hl
 ·rename_i hg
  rw [if_pos (by simp [Region.wanted,hg])]
  exact run hl hK
 ·rename_i j want hg
  split at hl
  ·rename_i dj hdj
   rw [Jsr] at hdj
   split at hl
   ·rename_i c hc
    have hy:=Jsh h hdj hc
    split at hl
    ·rename_i hcw
     rw [if_pos (by simp [Region.wanted,hg,hy,hcw])]
     exact run hl hK
    ·rename_i hcw
     rw [if_neg (by simp [Region.wanted,hg,hy,hcw])]
     exact ⟨fun _ _=>trivial,skip hl hK⟩
   ·rename_i hc
    have hy:=Jm4 h hdj hc
    rw [if_neg (by simp [Region.wanted,hg,hy])]
    exact ⟨fun _ _=>trivial,skip hl hK⟩
   ·exact hl.elim
  ·exact hl.elim
theorem Wn {K:St→Prop} {Q:Exit→Act→World→Prop} {n:Nat} (hG:Γ.G=X.G) (hQ:∀ s a w,K s→RR Γ s a w→Q .normal a w):∀ (fuel:Nat) (listed:Array Bool) (s:St) (a:Act) (w:World),RR Γ s a w →
  lAny X md ops K fuel listed s→wpAnyIn (F0 ro) n X.P md ops Q fuel listed a w
 | 0,_,s,a,w,h,hl=>⟨hl.1,hQ s a w hl.2 h⟩
 | fuel+1,_,s,a,w,h,hl=>⟨fun h0=>hQ s a w (hl.1 h0) h,fun i hi=>by
   obtain ⟨_,o,ho,_⟩:=mem_ready.1 hi
   exact Jkc ho hG h (hl.2 i hi o ho) fun l a' w' h1 h2=>Wn hG hQ fuel _ _ a' w' h2 h1⟩
theorem R0 {K:St→Prop} {ds:List (Option Tmp)}:∀ (l:List Oper) (s:St),Uj X ds l K s→Jo4 X ds K l s
 | [],s,h=>h
 | o :: l,s,h=>by
  have self:∀ (dj:Nat) (c:Bool),s.tmps.getD dj .junk=.p (.bool c)→s.put (some dj) (.p (.bool c))=s:=by
   intro dj c hc
   rw [List.getD_eq_getElem?_getD] at hc
   cases hs:s.tmps[dj]? with
   | none=>rw [hs] at hc;simp at hc
   | some x =>
    rw [hs] at hc;simp at hc
    simp only [St.put]
    congr 1
    obtain ⟨h1,h2⟩:=List.getElem?_eq_some_iff.1 hs
    rw [← hc,← h2];exact List.set_getElem_self h1
  simp only [Uj] at h
  simp only [Jo4]
  unfold Qt at h
  unfold YS
  cases hg:o.guard with
  | none =>
   rw [hg] at h
   exact Ya (fun m hm=>R0 l _ hm) h
  | some jw =>
   obtain ⟨j,want⟩:=jw
   rw [hg] at h
   simp only at h ⊢
   cases hdj:ds.getD j none with
   | none=>rw [hdj] at h;exact h.elim
   | some dj =>
    rw [hdj] at h
    simp only at h ⊢
    split at h
    ·rename_i c hc
     try rw [hc]
     try simp only
     by_cases hcw:c=want
     ·rw [if_pos hcw]
      have h1:=h.1 hcw
      subst hcw
      rw [self _ _ hc] at h1
      exact Ya (fun m hm=>R0 l _ hm) h1
     ·rw [if_neg hcw]
      have hcw':c = !want:=by cases c <;> cases want <;> simp_all
      have h1:=h.2 hcw'
      rw [← hcw',self _ _ hc] at h1
      exact R0 l _ h1
    ·rename_i hc
     try rw [hc]
     exact R0 l _ h
    ·exact h.elim
theorem Jlz {id:Nat} {s:St} {a:Act} {w:World} {K:St→Prop} {Q:Exit→Act→World→Prop} {n:Nat} (hG:Γ.G=X.G) (hm:X.P.follows .mixedOrders=true) (hB:Region.lexB .any ops=true) (hQ:∀ s a w,K s→RR Γ s a w→Q .normal a w) (h:RR Γ s a w)
  (hl:Uj X (ops.toList.map (·.dst)) ops.toList K s):(Code.region id ops true).wpIn (F0 ro) n X.P Q a w:=by
 simp only [Region.lexB,Bool.and_eq_true] at hB
 have h':RR Γ s a { w with drawn:=w.drawn+1 }:=by
  obtain ⟨ms,hdef,β,Im,hx⟩:=h
  exact ⟨ms,hdef,β,Im,hx.grow (Grow.drew hx.fit.im)⟩
 refine wpIn_region_any hm (Wn hG hQ _ _ s a _ h' ?_)
 have:=Jko (X:=X) (K:=K) (md:=.any) ops.toList 0 (Array.replicate ops.size false) s (by simp) (by simpa using hB.2) (R0 ops.toList s hl)
 simpa using this
end
end Go.LX
namespace Go.LX
open Go Go.RowKit Go.Proofs
inductive Ex where
 | normal
 | exit (id:Nat)
 | ret
def QQ (Γ:Base) (Q:Ex→St→Prop):Exit→Act→World→Prop
 | .normal,a,w=>∃ s,Q .normal s∧RR Γ s a w
 | .exit id,a,w=>∃ s,Q (.exit id) s∧RR Γ s a w
 | .ret,a,w=>∃ s,Q .ret s∧RR Γ s a w
 | _,_,_=>False
def SWP (X:Cx) (ro:Option Nat) (c:Code) (Q:Ex→St→Prop) (s:St):Prop:=∀ Γ a w,Γ.G=X.G→RR Γ s a w→c.wpIn (F0 ro) 1 X.P (QQ Γ Q) a w
def kseq (B:(Ex→St→Prop)→St→Prop) (Q:Ex→St→Prop):Ex→St→Prop
 | .normal,s=>B Q s
 | .exit id,s=>Q (.exit id) s
 | .ret,s=>Q .ret s
def Jap (id:Nat) (Q:Ex→St→Prop):Ex→St→Prop
 | .normal,s=>Q .normal s
 | .exit id',s=>if id'=id then Q .normal s else Q (.exit id') s
 | .ret,s=>Q .ret s
def Jbm (l:L) (A B:St→Prop) (s:St):Prop :=
 match l with
 | .p (.bool t)=>(t=true→A s)∧(t=false→B s)
 | _=>False
def lwp (X:Cx) (ro:Option Nat):Code→(Ex→St→Prop)→St→Prop
 | .skip,Q,s=>Q .normal s
 | .region id ops draw,Q,s=>match draw with
  | false=>lops X (ops.toList.map (·.dst)) ops.toList (Q .normal) s
  | true=>SWP X ro (.region id ops true) Q s
 | .seq a b,Q,s=>lwp X ro a (kseq (lwp X ro b) Q) s
 | .cond c a b,Q,s=>Jbm (s.get c) (lwp X ro a Q) (lwp X ro b Q) s
 | .block id c,Q,s=>lwp X ro c (Jap id Q) s
 | .loop c,Q,s=>SWP X ro (.loop c) Q s
 | .exit id,Q,s=>Q (.exit id) s
 | .ret,Q,s=>Q .ret s
 | .label _,Q,s=>Q .normal s
 | .scope c,Q,s=>lwp X ro c Q s
 | c,Q,s=>SWP X ro c Q s
theorem U4 {P:Program} {b:Frame} {a:Act} {k:List Item} {cs:List Frame} {w:World} {c:Code}:step P (lone (b.atR a (.code (.scope c) :: k)) cs w)=.next (lone (b.atR a (.code c :: .inScope c :: k)) cs w) :=
 step_lone_go (by simp [stepG,stepG.exec,Frame.atR])
theorem Jft {P:Program} {b:Frame} {a:Act} {k:List Item} {cs:List Frame} {w:World} {c:Code}:step P (lone (b.atR a (.inScope c :: k)) cs w)=.next (lone (b.atR a k) cs w) :=
 step_lone_go (by simp [stepG,stepG.exec,Frame.atR])
section
variable {X:Cx} {ro:Option Nat}
theorem Ax (hm:X.P.follows .mixedOrders=true):∀ (c:Code) (Q:Ex→St→Prop) (s:St),lwp X ro c Q s→SWP X ro c Q s:=by
 intro c
 induction c with
 | skip=>exact fun Q s h Γ a w hG hr=>wpIn_skip ⟨s,h,hr⟩
 | region id ops draw =>
  intro Q s h Γ a w hG hr
  cases draw with
  | false =>
   simp only [lwp] at h
   refine wpIn_region ?_
   have:=W5 (X:=X) (Γ:=Γ) (ro:=ro) (n:=1) (ops:=ops) (K:=Q .normal) (Q:=QQ Γ Q) hG (fun s a w h1 h2=>⟨s,h1,h2⟩) ops.toList 0 (by simp) s a w hr h
   rw [Array.length_toList] at this
   rw [List.range_eq_range']
   exact this
  | true =>
   exact h Γ a w hG hr
 | seq x y ihx ihy =>
  intro Q s h Γ a w hG hr
  simp only [lwp] at h
  refine wpIn_seq (wpIn_mono (ihx _ s h Γ a w hG hr) fun e a w hq=>?_)
  cases e with
  | normal=>obtain ⟨s',h1,h2⟩:=hq;exact ihy Q s' h1 Γ a w hG h2
  | exit id=>exact hq
  | ret=>exact hq
  | goto l=>exact hq.elim
  | panic c=>exact hq.elim
  | outgrown=>exact hq.elim
 | cond c x y ihx ihy =>
  intro Q s h Γ a w hG hr
  simp only [lwp,Jbm] at h
  have hr':=hr
  obtain ⟨ms,hdef,β,Im,hx⟩:=hr'
  have hc:=Ec hx.fit c
  split at h
  ·rename_i t hg
   rw [hg] at hc
   cases hv:a.eval c <;> rw [hv] at hc <;> cases hc
   exact wpIn_cond_split hv (fun ht=>ihx Q s (h.1 ht) Γ a w hG hr) (fun ht=>ihy Q s (h.2 ht) Γ a w hG hr)
  ·exact h.elim
 | block id c ih =>
  intro Q s h Γ a w hG hr
  simp only [lwp] at h
  refine wpIn_block (wpIn_mono (ih _ s h Γ a w hG hr) fun e a w hq=>?_)
  cases e with
  | normal=>exact hq
  | exit id' =>
   obtain ⟨s',h1,h2⟩:=hq
   simp only [Jap] at h1
   simp only [Exit.inBlock]
   split at h1
   ·rename_i he;rw [if_pos he];exact ⟨s',h1,h2⟩
   ·rename_i he;rw [if_neg he];exact ⟨s',h1,h2⟩
  | ret=>exact hq
  | goto l=>exact hq.elim
  | panic c=>exact hq.elim
  | outgrown=>exact hq.elim
 | loop c _=>exact fun Q s h=>h
 | exit id=>exact fun Q s h Γ a w hG hr=>wpIn_exit ⟨s,h,hr⟩
 | ret=>exact fun Q s h Γ a w hG hr=>wpIn_ret ⟨s,h,hr⟩
 | label l=>exact fun Q s h Γ a w hG hr=>wpIn_label ⟨s,h,hr⟩
 | rangeFunc f ps asg c _ _=>exact fun Q s h=>h
 | scope c ih =>
  intro Q s h Γ a w hG hr
  simp only [lwp] at h
  intro b k cs hro hb hroom
  obtain ⟨e,a₁,w₁,hq,harr⟩:=ih Q s h Γ a w hG hr b (.inScope c :: k) cs hro hb hroom
  cases e with
  | normal=>exact ⟨.normal,a₁,w₁,hq,.of_steps (.one (fenced_calm hb hroom rfl) U4) (StepsIn.trans harr (.one (fenced_calm hb hroom rfl) Jft))⟩
  | exit id =>
   have hx:∀ id (k:List Item),exitTo id (Item.inScope c :: k)=exitTo id k:=fun id k=>by simp [exitTo]
   exact ⟨.exit id,a₁,w₁,hq,.of_steps (.one (fenced_calm hb hroom rfl) U4) ⟨fun k' hk=>harr.1 k' (by rw [hx];exact hk),fun hr hk=>harr.2 hr (by rw [hx];exact hk)⟩⟩
  | ret=>exact ⟨.ret,a₁,w₁,hq,.of_steps (.one (fenced_calm hb hroom rfl) U4) harr⟩
  | goto l=>exact hq.elim
  | panic ch=>exact hq.elim
  | outgrown=>exact hq.elim
 | goto l=>exact fun Q s h=>h
 | refuse why=>exact fun Q s h=>h
def calmOp:Op→Bool
 | .alloc _ | .box .. | .store .. | .makeSlice .. | .mapUpdate .. | .makeMap .. | .insert .. | .next .. | .range ..=>false
 | .call { callee:=.builtin .append,.. }=>false
 | .call { callee:=.builtin .delete,.. }=>false
 | _=>true
def Jp2:List Oper→Bool
 | []=>true
 | o :: l=>match calmOp o.op with
  | true=>Jp2 l
  | false=>false
theorem Ba {id:Nat} {ops:Array Oper} {Q:Ex→St→Prop} {s:St} (hm:X.P.follows .mixedOrders=true) (_:Jp2 ops.toList=true) (hB:Region.lexB .any ops=true) (h:Uj X (ops.toList.map (·.dst)) ops.toList (Q .normal) s):SWP X ro (.region id ops true) Q s :=
 fun Γ a w hG hr=>Jlz hG hm hB (K:=Q .normal) (Q:=QQ Γ Q) (fun s _ _ h1 h2=>⟨s,h1,h2⟩) hr h
inductive Ord where
 | leaf
 | nil
 | bad
 | node (i:Nat) (sub next:Ord)
def Jcn (ops:Array Oper):Nat→Array Bool→Ord
 | 0,listed=>match Region.ready .any ops listed with
  | []=>.leaf
  | _=>.bad
 | f+1,listed=>match Region.ready .any ops listed with
  | []=>.leaf
  | is=>is.foldr (fun i acc=>.node i (Jcn ops f (listed.setIfInBounds i true)) acc) .nil
def lAt (X:Cx) (ds:List (Option Tmp)) (ops:List Oper) (i:Nat) (C:St→Prop) (s:St):Prop :=
 match ops[i]? with
 | some o=>Qt ds o.guard (lop X o C) (Qy o.dst C) s
 | none=>False
def lOrd (X:Cx) (ds:List (Option Tmp)) (ops:List Oper) (K:St→Prop):Ord→St→Prop
 | .leaf,s=>K s
 | .nil,_=>True
 | .bad,_=>False
 | .node i sub next,s=>lAt X ds ops i (lOrd X ds ops K sub) s∧lOrd X ds ops K next s
theorem Jhf {ops:Array Oper} {K:St→Prop} {f:Nat} {listed:Array Bool} {s:St}:∀ (is:List Nat),lOrd X (ops.toList.map (·.dst)) ops.toList K (is.foldr (fun i acc=>.node i (Jcn ops f (listed.setIfInBounds i true)) acc) .nil) s →
  ∀ i∈is,lAt X (ops.toList.map (·.dst)) ops.toList i (lOrd X (ops.toList.map (·.dst)) ops.toList K (Jcn ops f (listed.setIfInBounds i true))) s
 | [],_,i,hi=>by cases hi
 | j :: is,h,i,hi=>by
  simp only [List.foldr_cons,lOrd] at h
  rcases List.mem_cons.1 hi with rfl | hi
  ·exact h.1
  ·exact Jhf is h.2 i hi
theorem Jg6 {Γ:Base} {ops:Array Oper} {i:Nat} {C:St→Prop} {s:St} {a:Act} {w:World} {Q:Exit→Act→World→Prop} {n:Nat} (hG:Γ.G=X.G) (hr:RR Γ s a w) (h:lAt X (ops.toList.map (·.dst)) ops.toList i C s) :
  wpOpIn (F0 ro) n X.P ops Q i (fun a' w'=>∃ s',C s'∧RR Γ s' a' w') a w:=by
 unfold lAt at h
 rw [Array.getElem?_toList] at h
 unfold wpOpIn
 split at h
 ·rename_i o ho
  simp only [ho]
  obtain ⟨s',h',hc⟩:=Q8 hr h
  rcases hc with ⟨hA,hw⟩ | ⟨hB,hw⟩
  ·rw [if_pos (hw o rfl)]
   exact Jgy hG h' hA
  ·rw [if_neg (by rw [hw o rfl];simp)]
   obtain ⟨ms,hdef,β,Im,hx⟩:=h'
   exact ⟨fun _ _=>trivial,_,hB,ms,Gi hdef,β,Im,hx.put o.dst Sx⟩
 ·exact h.elim
theorem X8 {Γ:Base} {ops:Array Oper} {K:St→Prop} {Q:Exit→Act→World→Prop} {n:Nat} (hG:Γ.G=X.G) (hQ:∀ s a w,K s→RR Γ s a w→Q .normal a w):∀ (f:Nat) (listed:Array Bool) (s:St) (a:Act) (w:World),RR Γ s a w →
  lOrd X (ops.toList.map (·.dst)) ops.toList K (Jcn ops f listed) s→wpAnyIn (F0 ro) n X.P .any ops Q f listed a w
 | 0,listed,s,a,w,hr,h=>by
  unfold Jcn at h
  split at h
  ·rename_i h0;exact ⟨h0,hQ s a w h hr⟩
  ·exact h.elim
 | f+1,listed,s,a,w,hr,h=>by
  unfold Jcn at h
  split at h
  ·rename_i h0
   exact ⟨fun _=>hQ s a w h hr,fun i hi=>by rw [h0] at hi;cases hi⟩
  ·rename_i h0
   refine ⟨fun h1=>absurd h1 h0,fun i hi=>?_⟩
   exact wpOpIn_mono (fun a' w' ⟨s',hs,hr'⟩=>X8 hG hQ f _ s' a' w' hr' hs) (Jg6 hG hr (Jhf _ h i hi))
theorem Jqb {id:Nat} {ops:Array Oper} {Q:Ex→St→Prop} {s:St} (T:Ord) (s0:St) (hm:X.P.follows .mixedOrders=true) (hT:Jcn ops ops.size (Array.replicate ops.size false)=T)
  (h:lOrd X (ops.toList.map (·.dst)) ops.toList (fun s=>∀ Γ a w,RR Γ s a w→RR Γ s0 a w) T s) (hK:Q .normal s0):SWP X ro (.region id ops true) Q s:=fun Γ a w hG hr=>by
 have h':RR Γ s a { w with drawn:=w.drawn+1 }:=by
  obtain ⟨ms,hdef,β,Im,hx⟩:=hr
  exact ⟨ms,hdef,β,Im,hx.grow (Grow.drew hx.fit.im)⟩
 subst hT
 exact wpIn_region_any hm (X8 hG (K:=fun s=>∀ Γ a w,RR Γ s a w→RR Γ s0 a w) (fun s a w h1 h2=>⟨s0,hK,h1 Γ a w h2⟩) _ _ s a _ h' h)
def St.Le (s s':St):Prop:=∀ Γ a w,RR Γ s a w→RR Γ s' a w
theorem St.Le.refl (s:St):s.Le s:=fun _ _ _ h=>h
theorem St.Le.trans {s s' s'':St} (h:s.Le s') (k:s'.Le s''):s.Le s'':=fun Γ a w hr=>k Γ a w (h Γ a w hr)
theorem SWP.of_le {c:Code} {Q:Ex→St→Prop} {s s':St} (hle:s.Le s') (h:SWP X ro c Q s'):SWP X ro c Q s:=fun Γ a w hG hr=>h Γ a w hG (hle Γ a w hr)
def Dy {ι:Type} (I:ι→St) (Pre:ι→Prop) (μ:ι→Nat) (x:ι) (Q:Ex→St→Prop):Ex→St→Prop
 | .normal,s=>∃ y,Pre y∧μ y<μ x∧s.Le (I y)
 | .exit id,s=>Q (.exit id) s
 | .ret,s=>Q .ret s
theorem SWP.loop {ι:Type} (I:ι→St) (Pre:ι→Prop) (μ:ι→Nat) (x0:ι) {c:Code} {Q:Ex→St→Prop} {s:St} (hs:s.Le (I x0)) (h0:Pre x0) (round:∀ x,Pre x→SWP X ro c (Dy I Pre μ x Q) (I x)) :
  SWP X ro (.loop c) Q s:=by
 intro Γ a w hG hr
 have key:∀ n x,μ x=n→Pre x→∀ a w,RR Γ (I x) a w→∀ (b:Frame) (k:List Item) (cs:List Frame),b.roundOf=(F0 ro).round→(F0 ro).fn b.fn→(F0 ro).room (cs.length+1+1) →
   ∃ e a' w',QQ Γ Q e a' w'∧ArrivesIn (Machine.fenced X.P (F0 ro)) X.P (lone (b.atR a (.code c :: .inLoop c :: k)) cs w) b k cs e a' w':=by
  intro n
  induction n using Nat.strongRecOn with
  | _ n ih =>
   intro x hn hP a w hr b k cs hro hb hroom
   obtain ⟨e,a₁,w₁,hq,harr⟩:=round x hP Γ a w hG hr b (.inLoop c :: k) cs hro hb hroom
   cases e with
   | normal =>
    obtain ⟨s',⟨y,hy,hlt,hle⟩,h2⟩:=hq
    obtain ⟨e₂,a₂,w₂,hq₂,harr₂⟩:=ih (μ y) (hn ▸ hlt) y rfl hy a₁ w₁ (hle Γ a₁ w₁ h2) b k cs hro hb hroom
    exact ⟨e₂,a₂,w₂,hq₂,.of_steps (StepsIn.trans harr (.one (fenced_calm hb hroom rfl) stepR_inLoop)) harr₂⟩
   | exit id =>
    obtain ⟨s',h1,h2⟩:=hq
    exact ⟨.exit id,a₁,w₁,⟨s',h1,h2⟩,.pass (x:=.inLoop c) rfl (fun _ _=>.inl (by simp)) harr⟩
   | ret =>
    obtain ⟨s',h1,h2⟩:=hq
    exact ⟨.ret,a₁,w₁,⟨s',h1,h2⟩,.pass (x:=.inLoop c) rfl (fun _ _=>.inl (by simp)) harr⟩
   | goto l=>exact hq.elim
   | panic ch=>exact hq.elim
   | outgrown=>exact hq.elim
 intro b k cs hro hb hroom
 obtain ⟨e,a',w',hq,harr⟩:=key _ x0 rfl h0 a w (hs Γ a w hr) b k cs hro hb hroom
 exact ⟨e,a',w',hq,.of_steps (.one (fenced_calm hb hroom rfl) stepR_loop) harr⟩
theorem pure?_spec {l:L} {p:PV} (h:l.pure? = some p):l=.p p:=by
 cases l <;> simp [L.pure?] at h
 rw [h]
end
end Go.LX
