/- Maps, places in strings and in maps: making them, going on. -/
import Derived.Test.YtaghbedfogiopaaGreatDoorLxE
import Derived.Maps.RangeRun
import Derived.WideKeyEntry
import Derived.Shelf.Abstract
set_option linter.unusedSimpArgs false
set_option linter.unusedVariables false
set_option linter.unusedSectionVars false
set_option linter.unnecessarySimpa false
namespace Go.LX
open Go Go.RowKit
section
variable {P:Program} {Γ:Base} {β:Env} {w:World} {Im:Nat->Prop}
theorem RRx.newObj {s:St} {tmps:Array Value} (h:RRx Γ β Im s tmps w) {d:Nat} (hd:d<1000) {ob:Obj} {o:PObj} (ho:ORep w Im w.heap.size (some ob) o) :
  RRx Γ (Jqu β d (some ⟨w.heap.size,1,1⟩)) Im (s.newReg d (.obj o)) tmps (w.alloc ob)/\(w.alloc ob).heap[w.heap.size]? = some ob:=by
 have hb:(w.alloc ob).heap[w.heap.size]? = some ob:=Array.getElem?_push_size;have g:=Grow.alloc (w:=w) (Im:=Im) h.fit.im ob;refine ⟨h.newReg hd g (fun loc hl=>by cases hl;exact ⟨Eai _,by show w.heap.size<(w.heap.push ob).size;rw [Array.size_push];exact Nat.lt_succ_self _⟩) ⟨_,B4,?_⟩,hb⟩;rw [hb];exact ho.mono (g.keeps h.fit.im)
def Mk (d:Nat) (s:St) (K:St->Prop):Prop:=d<1000/\K ((s.newReg d (.obj (.mp []))).put (some d) (.mref d))
theorem P9 {s:St} {a:Act} (h:RRx Γ β Im s a.tmps w) {d:Nat} {T:TypeId} {K:St->Prop} (hl:Mk d s K):Lb Γ a d ((Instr.makeMap T none).run P w) K:=by
 obtain ⟨hd,hK⟩:=hl;obtain ⟨h1,h2⟩:=h.newObj hd (ob:=.map #[] 0) (o:=.mp []) ⟨[],0,rfl,rfl,by simp,by simp,fun i e p he=>by simp at he⟩;exact ⟨.map (some w.heap.size),w.alloc (.map #[] 0),_,Im,_,.mref d,by simp [Instr.makeMap],h1,⟨_,B4,rfl⟩,hK⟩
def Wr (P:Program) (d:Nat) (t:TypeId) (s:St) (x:Operand) (K:St->Prop):Prop :=
 d<1000/\match P.underlying t,s.get x with
 | some .string,.p (.str u)=>K ((s.newReg d (.obj (.sit u 0))).put (some d) (.ptr d 0 0))
 | some (.map _ _),.p .nmap=>K ((s.newReg d (.obj (.mit [] []))).put (some d) (.ptr d 0 0))
 | some (.map _ _),.p (.mp es)=>K ((s.newReg d (.obj (.mit es []))).put (some d) (.ptr d 0 0))
 | _,_=>False
theorem Wl {s:St} {a:Act} (h:RRx Γ β Im s a.tmps w) {d:Nat} {t:TypeId} {x:Operand} {K:St->Prop} (hl:Wr P d t s x K):Lb Γ a d ((Instr.range t (a.eval x)).run P w) K:=by
 obtain ⟨hd,hl⟩:=hl;have hr:=A2 h.fit x;split at hl
 ·rename_i u ht hx;rw [hx] at hr;cases hv:a.eval x <;> rw [hv] at hr <;> cases hr;obtain ⟨h1,h2⟩:=h.newObj hd (ob:=.stringIter ⟨⟨u⟩⟩ 0) (o:=.sit u 0) rfl;exact ⟨.pointer (some ⟨w.heap.size,0,none⟩),w.alloc (.stringIter ⟨⟨u⟩⟩ 0),_,Im,_,.ptr d 0 0,by simp [Instr.range,run_underlying ht],h1,⟨_,B4,rfl⟩,hl⟩
 ·rename_i k e ht hx;rw [hx] at hr;cases hv:a.eval x <;> rw [hv] at hr <;> cases hr;obtain ⟨h1,h2⟩:=h.newObj hd (ob:=.mapIter none 0 #[] 0) (o:=.mit [] []) (.inl ⟨rfl,rfl⟩);exact ⟨.pointer (some ⟨w.heap.size,0,none⟩),w.alloc (.mapIter none 0 #[] 0),_,Im,_,.ptr d 0 0,by simp [Instr.range,run_underlying ht],h1,⟨_,B4,rfl⟩,hl⟩
 ·rename_i k e es ht hx;rw [hx] at hr;cases hv:a.eval x <;> rw [hv] at hr <;> cases hr;rename_i r cl ents hIm hw hn hb hlen hk hv2;obtain ⟨h1,h2⟩:=h.newObj hd (ob:=.mapIter (some r) cl #[] cl) (o:=.mit es []) (.inr ⟨r,ents,cl,hIm,hw,⟨hlen,hn,hb,fun i e p he hp=>⟨hk i e p he hp,hv2 i e p he hp⟩⟩,rfl,by simp⟩);exact ⟨.pointer (some ⟨w.heap.size,0,none⟩),w.alloc (.mapIter (some r) cl #[] cl),_,Im,_,.ptr d 0 0,by simp [Instr.range,run_underlying ht,show (getObj r).run P w=.ok (.map ⟨ents⟩ cl) w by simp [getObj,Sem.run,hw]],h1,⟨_,B4,rfl⟩,hl⟩
 ·exact hl.elim
theorem Jcg {r:Nat} {x:ByteArray} {p:Nat} (o:Obj) (hb:w.heap[r]? = some (.stringIter x p)):(setObj r o).run P w=.ok () { w with heap:=w.heap.setIfInBounds r o }:=by
 simp [setObj,Sem.run,hb]
theorem Rk {r:Nat} {x:ByteArray} {p:Nat} (hb:w.heap[r]? = some (.stringIter x p)):(getObj r).run P w=.ok (.stringIter x p) w:=by
 simp [getObj,Sem.run,hb]
theorem Si {r:Nat} {m:Option Nat} {a c:Nat} {q:Array Nat} (hb:w.heap[r]? = some (.mapIter m a q c)):(getObj r).run P w=.ok (.mapIter m a q c) w:=by
 simp [getObj,Sem.run,hb]
theorem RRx.setObj {s:St} {tmps:Array Value} (h:RRx Γ β Im s tmps w) {d:Nat} {r:Reg} {o:PObj} {loc:Loc} (hd:(d,r)∈s.regs) (hl:β d=some loc) (ob:Obj) (ho:ORep w Im loc.blk (some ob) o) :
  RRx Γ β Im { s with regs:=Bs d (.obj o) s.regs } tmps { w with heap:=w.heap.setIfInBounds loc.blk ob }:=by
 have hlive:=h.fit.live d r loc hd hl;have hk:Keeps w Im { w with heap:=w.heap.setIfInBounds loc.blk ob } Im:=⟨fun _ h=>h,fun b hb'=>by
  have:loc.blk≠b:=fun e=>hlive.2 (e ▸ hb')
  simp [Eb2,this]⟩
 refine h.store hd hl rfl rfl rfl sm (fun k hk'=>by simp [Eb2,Ne.symm hk']) ⟨loc,hl,?_⟩;have:({ w with heap:=w.heap.setIfInBounds loc.blk ob }:World).heap[loc.blk]? = some ob:=by simp [Eb2,hlive.1]
 rw [this];exact ho.mono hk
def Wv (s:St) (it:Operand) (isS:Bool) (K:St->L->Prop):Prop :=
 match s.get it with
 | .ptr d 0 0=>match Am d s.regs,isS with
  | some (.obj (.sit u pos)),true=>(pos<u.length->K { s with regs:=Bs d (.obj (.sit u (pos+(Utf8.decode ⟨⟨u⟩⟩ pos).2))) s.regs } (.tup [.bool true,.int .i64 pos,.int .i32 (Utf8.decode ⟨⟨u⟩⟩ pos).1])) /\
    (¬ pos<u.length->K s (.tup [.bool false]))
  | some (.obj (.mit es seen)),false=>(∀ i p,es[i]? = some p->i ∉ seen->K { s with regs:=Bs d (.obj (.mit es (seen ++ [i]))) s.regs } (.tup [.bool true,p.1,p.2])) /\
    ((∀ i,i<es.length->i∈seen)->K s (.tup [.bool false]))
  | _,_=>False
 | _=>False
theorem tup1 {v:Value} {p:PV} (h:PRep w Im v p):LRep β w Im (.tuple #[v]) (.tup [p]):=⟨[v],rfl,rfl,fun i x q hi hq=>by
 cases i with
 | zero=>simp at hi hq;subst hi;subst hq;exact h
 | succ i=>simp at hi⟩
theorem tup3 {v u x:Value} {p q r:PV} (h1:PRep w Im v p) (h2:PRep w Im u q) (h3:PRep w Im x r):LRep β w Im (.tuple #[v,u,x]) (.tup [p,q,r]):=⟨[v,u,x],rfl,rfl,fun i y z hi hz=>by
 match i,hi,hz with
 | 0,hi,hz=>simp at hi hz;subst hi;subst hz;exact h1
 | 1,hi,hz=>simp at hi hz;subst hi;subst hz;exact h2
 | 2,hi,hz=>simp at hi hz;subst hi;subst hz;exact h3
 | i+3,hi,hz=>simp at hi⟩
theorem Zv {s:St} {a:Act} (h:RRx Γ β Im s a.tmps w) {it:Operand} {isS:Bool} {ty:TypeId} {K:St->L->Prop} (hl:Wv s it isS K) :
  ∃ v w' s' l,(Instr.next (a.eval it) isS ty).run P w=.ok v w'/\RRx Γ β Im s' a.tmps w'/\LRep β w' Im v l/\K s' l:=by
 unfold Wv at hl;have hr:=A2 h.fit it;split at hl
 ·rename_i d hg;rw [hg] at hr;obtain ⟨loc,hβ,hv⟩:=hr;have hz:(0:Nat) * loc.sz+0=0:=by simp
  rw [hz] at hv;rw [hv];split at hl
  ·rename_i u pos hf;obtain ⟨loc',hβ',ho⟩:=h.fit.regs d _ (Ax hf);rw [hβ] at hβ';cases hβ';by_cases hp:pos<u.length
   ·have hs:=h.setObj (Ax hf) hβ (.stringIter ⟨⟨u⟩⟩ (pos+(Utf8.decode ⟨⟨u⟩⟩ pos).2)) (o:=.sit u (pos+(Utf8.decode ⟨⟨u⟩⟩ pos).2)) rfl;refine ⟨_,_,_,_,?_,hs,tup3 (.bool true) (.int .i64 pos) (.int .i32 _),hl.1 hp⟩;have hsz:pos<(⟨⟨u⟩⟩:ByteArray).size:=hp;simp only [Instr.next,Sem.run_bind,Rk ho,Result.andThen_ok,if_pos hsz,Jcg _ ho,Sem.run_pure];rfl
   ·refine ⟨_,_,s,_,?_,h,tup1 (.bool false),hl.2 hp⟩;have hsz:¬ pos<(⟨⟨u⟩⟩:ByteArray).size:=hp;simp only [Instr.next,Sem.run_bind,Rk ho,Result.andThen_ok,if_neg hsz,Sem.run_pure]
  ·rename_i es seen hf;obtain ⟨loc',hβ',ho⟩:=h.fit.regs d _ (Ax hf);rw [hβ] at hβ';cases hβ';rcases ho with ⟨rfl,ho⟩ | ⟨m,ents,cl,hm,hmw,hM,ho,hsn⟩
   ·refine ⟨_,_,s,_,?_,h,tup1 (.bool false),hl.2 (fun i hi=>absurd hi (Nat.not_lt_zero i))⟩;simp only [Instr.next,Sem.run_bind,Si ho,Result.andThen_ok,Sem.run_pure]
   ·have hold:∀ x∈(⟨ents⟩:Array MapEntry).toList,x.born<cl:=fun x hx=>hM.2.2.1 x hx
    have hbo:∀ i (e:MapEntry),ents[i]? = some e->Ho ents i=e.born:=fun i e he=>by simp [Ho,List.getD,he]
    rcases run_next_at (P:=P) w ty loc.blk m cl cl ⟨seen.map (Ho ents)⟩ ⟨ents⟩ cl ho hmw hold (Eai _) with ⟨h0,hr⟩ | ⟨e,he,w1,hw1,hr⟩
    ·refine ⟨_,_,s,_,hr,h,tup1 (.bool false),hl.2 (fun i hi=>?_)⟩;have hi':i<ents.length:=hM.1 ▸ hi;have hmem:ents[i]∈ents:=Ebq hi';have hnl:ents[i] ∉ (leftOf ⟨ents⟩ ⟨seen.map (Ho ents)⟩).toList:=by
      rw [Array.eq_empty_of_size_eq_zero h0];simp
     simp only [leftOf,Array.toList_filter,List.mem_filter,hmem,true_and,Ec9,Bool.not_eq_false,Array.contains_eq_mem,Edd,decide_eq_true_eq,Eap,decide_eq_false_iff_not,Classical.not_not] at hnl;obtain ⟨j,hj,hje⟩:=hnl;have hjl:j<ents.length:=hM.1 ▸ hsn j hj;rw [hbo j ents[j] (Eaa hjl)] at hje;have:=(List.getElem_inj (i:=j) (j:=i) (h₀:=by simpa using hjl) (h₁:=by simpa using hi') hM.2.1).1 (by simpa using hje);exact this ▸ hj
    ·have hg:RRx Γ β Im s a.tmps w1/\w1.heap=w.heap:=by
      rcases hw1 with rfl | rfl
      ·exact ⟨h,rfl⟩
      ·exact ⟨h.grow (Grow.drew h.fit.im),rfl⟩
     obtain ⟨h1,hheap⟩:=hg;simp only [leftOf,Array.toList_filter,List.mem_filter,Ec9,Array.contains_eq_mem,Edd,Eap,decide_eq_false_iff_not,Edd] at he;obtain ⟨he1,he2⟩:=he;obtain ⟨i,hi,rfl⟩:=List.mem_iff_getElem.1 he1;have hp:es[i]? = some (es[i]'(hM.1 ▸ hi)):=Eaa _;have hns:i ∉ seen:=fun hc=>he2 ⟨i,hc,hbo i _ (Eaa hi)⟩
     have hlive:=h1.fit.live d _ loc (Ax hf) hβ;have hk:Keeps w Im (ChangeMaps.setBlock w1 loc.blk (.mapIter (some m) cl ((⟨seen.map (Ho ents)⟩:Array Nat).push ents[i].born) cl)) Im:=⟨fun _ h=>h,fun b hb'=>by
      have:loc.blk≠b:=fun e=>hlive.2 (e ▸ hb')
      simp [ChangeMaps.setBlock,Eb2,this,hheap]⟩
     have hs:=h1.setObj (Ax hf) hβ (.mapIter (some m) cl ((⟨seen.map (Ho ents)⟩:Array Nat).push ents[i].born) cl) (o:=.mit es (seen ++ [i]))
      (.inr ⟨m,ents,cl,hm,by rw [hheap];exact hmw,hM.mono ⟨fun _ h=>h,fun b _=>by rw [hheap]⟩,by simp [hbo i _ (Eaa hi)],fun j hj=>by
       rcases Eau.1 hj with hj | hj
       ·exact hsn j hj
       ·simp at hj;subst hj;exact hM.1 ▸ hi⟩)
     obtain ⟨hpk,hpv⟩:=hM.2.2.2 i _ _ (Eaa hi) hp;exact ⟨_,_,_,_,hr,hs,tup3 (.bool true) (hpk.mono hk) (hpv.mono hk),hl.1 i _ hp hns⟩
  ·exact hl.elim
 ·exact hl.elim
def mput (k v:PV) (es:List (PV×PV)):Option (List (PV×PV)) :=
 match Cl k es 0 with
 | some (some (i,_))=>some (es.set i (k,v))
 | some none=>some (es ++ [(k,v)])
 | none=>none
def mdel (k:PV) (es:List (PV×PV)):Option (List (PV×PV)) :=
 match Cl k es 0 with
 | some (some (i,_))=>some (es.eraseIdx i)
 | some none=>some es
 | none=>none
def Dq (P:Program) (t:TypeId) (s:St) (m k v:Operand) (K:St->Prop):Prop :=
 match (s.freezeOps [v]).get m with
 | .mref d=>match Am d (s.freezeOps [v]).regs,mapT P t,(s.freezeOps [v]).get k,(s.freezeOps [v]).get v with
  | some (.obj (.mp es)),some (kt,_),.p kp,.p vp=>De P kt kp=true/\∃ es',mput kp vp es=some es'/\K { (s.freezeOps [v]) with regs:=Bs d (.obj (.mp es')) (s.freezeOps [v]).regs }
  | _,_,_,_=>False
 | _=>False
def Kq (P:Program) (t:TypeId) (s:St) (m k:Operand) (K:St->Prop):Prop :=
 match s.get m with
 | .mref d=>match Am d s.regs,mapT P t,s.get k with
  | some (.obj (.mp es)),some (kt,_),.p kp=>De P kt kp=true/\∃ es',mdel kp es=some es'/\K { s with regs:=Bs d (.obj (.mp es')) s.regs }
  | _,_,_=>False
 | _=>False
theorem Q2 {P:Program} {kt:TypeId} {d:TypeDesc} {k:PV} {u:Value} (hd:P.underlying kt=some d) (h:De P kt k=true) (hu:PRep w Im u k):MapKept.IsKey d u:=by
 unfold De at h;rw [hd] at h;unfold kfit at h;simp only at h;split at h
 ·rename_i q q' n;cases hu;simp only [beq_iff_eq] at h;subst h;rfl
 ·cases hu;trivial
 ·cases hu;trivial
 ·cases h
theorem Yg {k:PV}:∀ {es:List (PV×PV)} {i j:Nat} {x:PV},Cl k es i=some (some (j,x))->i<=j
 | [],i,j,x,h=>by simp [Cl] at h
 | (y,v) :: es,i,j,x,h=>by
  simp only [Cl] at h;split at h
  ·cases h;exact Eai _
  ·have:=Yg h;omega
  ·cases h
theorem S5 {k:PV}:∀ {es:List (PV×PV)} {i j:Nat} {x:PV} {q:PV×PV},Cl k es i=some (some (j,x))->es[j - i]? = some q->Lc k q.1=some true
 | [],i,j,x,q,h,_=>by simp [Cl] at h
 | (y,v) :: es,i,j,x,q,h,hq=>by
  simp only [Cl] at h;split at h
  ·rename_i hk;cases h;simp at hq;subst hq;exact hk
  ·have hle:=Yg h;have e:j - i=(j - (i+1))+1:=by omega
   rw [e] at hq;exact S5 h (by simpa using hq)
  ·cases h
theorem Jfj {k x:PV} {u v:Value} (hu:PRep w Im u k) (hv:PRep w Im v x) (h:Lc k x=some true):v=u:=by
 unfold Lc at h;split at h
 ·split at h
  ·rename_i hk;subst hk;cases hu;cases hv;simp at h;rw [h]
  ·cases h
 ·cases hu;cases hv;simp at h;rw [h]
 ·cases hu;cases hv;simp at h;rw [h]
 ·cases h
theorem G5 {kt:TypeId} {d:TypeDesc} (hk:P.underlying kt=some d) (hd:(∃ q,d=.int q)\/d=.string\/d=.bool) {k:PV} {u:Value} (hu:PRep w Im u k) (hf:De P kt k=true) {ents:List MapEntry} {es:List (PV×PV)} {cl:Nat} (hM:MRep w Im ents cl es) {r:Option (Nat×PV)} (hr:Cl k es 0=some r) :
  (r=none/\(Instr.findKey kt u ents).run P w=.ok none w)\/∃ j x v e,r=some (j,x)/\es[j]? = some (v,x)/\ents[j]? = some e/\(Instr.findKey kt u ents).run P w=.ok (some (j,e.val)) w:=by
 have hf':kfit d k=true:=by unfold De at hf;rw [hk] at hf;exact hf
 rcases Hh (w:=w) (Im:=Im) hd hu hf' ents es 0 r hM.1 (fun j e p he hp=>(hM.2.2.2 j e p he hp).1) hr with ⟨h1,h2⟩ | ⟨j,x,kv,e,h1,h2,h3,h4⟩
 ·exact .inl ⟨h1,by simp [Instr.findKey,run_underlying hk,h2]⟩
 ·rw [Ebk] at h1 h4;exact .inr ⟨j,x,kv,e,h1,h2,h3,by simp [Instr.findKey,run_underlying hk,h4]⟩
theorem Hw {s:St} {a:Act} (h:RRx Γ β Im s a.tmps w) {t:TypeId} {m k v:Operand} {K:St->Prop} (hl:Dq P t s m k v K) :
  ∃ w' s' Im',(Instr.mapUpdate t (a.eval m) (a.eval k) (a.eval v)).run P w=.ok () w'/\K s'/\RRx Γ β Im' s' a.tmps w':=by
 unfold Dq at hl;obtain ⟨Im',h'⟩:=RRx.freezeOps (s:=s) [v] h;have rm:=A2 h'.fit m;have rk:=A2 h'.fit k;have rv:=A2 h'.fit v;split at hl <;> first | exact hl.elim | skip
 rename_i d hg;rw [hg] at rm;obtain ⟨loc,hβ,hv⟩:=rm;split at hl <;> first | exact hl.elim | skip
 rename_i es kt et kp vp hr hT hgk hgv;obtain ⟨hfit,es',hput,hK⟩:=hl;rw [hgk] at rk;rw [hgv] at rv;obtain ⟨ht,dd,hk,hd⟩:=Oq hT;have hmem:=Ax hr;obtain ⟨loc',hβ',ents,cl,ho,hM⟩:=h'.fit.regs d _ hmem;rw [hβ] at hβ';cases hβ';have hgo:(getObj loc.blk).run P w=.ok (.map ⟨ents⟩ cl) w:=by simp [getObj,Sem.run,ho]
 have hset:∀ o,(setObj loc.blk o).run P w=.ok () { w with heap:=w.heap.setIfInBounds loc.blk o }:=fun o=>by simp [setObj,Sem.run,ho]
 have hkey:=Q2 (w:=w) (Im:=Im') hk hfit rk;have hstay:(Instr.keyThatStays (a.eval k) (a.eval k)).run P w=.ok (a.eval k) w:=MapKept.run_keyThatStays hkey;unfold mput at hput;split at hput <;> first|(cases hput;done) | skip
 ·rename_i i x0 hfi;cases hput;rcases G5 (P:=P) hk hd rk hfit hM hfi with ⟨h0,_⟩ | ⟨j,x,kv,e,h1,h2,h3,h4⟩
  ·cases h0
  ·cases h1;have hlt:i<ents.length:=(Eab.1 h3).1;have hsame:e.key=a.eval k:=by
    have h5:=(hM.2.2.2 i e _ h3 h2).1;have:=S5 hfi h2;exact Jfj rk h5 this
   have hst:(Instr.keyThatStays e.key (a.eval k)).run P w=.ok (a.eval k) w:=by rw [hsame];exact hstay
   have hM':MRep w Im' (ents.set i { e with key:=a.eval k,val:=a.eval v }) cl (es.set i (kp,vp)):=by
    obtain ⟨m1,m2,m3,m4⟩:=hM;have hb:(ents.set i { e with key:=a.eval k,val:=a.eval v }).map (·.born)=ents.map (·.born):=by
     apply Eb9;intro q;simp only [Eam,Ebn];split
     ·rename_i hq;subst hq;have h5:ents[i]=e:=by simpa [Eaa hlt] using h3
      simp [hlt,h5]
     ·rfl
    refine ⟨by simpa using m1,by rw [hb];exact m2,fun e' he'=>?_,fun q e' p he' hp=>?_⟩
    ·rcases Eby he' with he' | rfl
     ·exact m3 e' he'
     ·exact m3 e (Eae h3)
    ·rw [Ebn] at he' hp;by_cases hq:i=q
     ·subst hq;simp only [if_true,hlt,(m1 ▸ hlt:i<es.length)] at he' hp;cases he';cases hp;exact ⟨rk,rv⟩
     ·simp only [hq,if_false] at he' hp;exact m4 q e' p he' hp
   refine ⟨_,_,Im',?_,hK,h'.setObj hmem hβ (.map ⟨ents.set i { e with key:=a.eval k,val:=a.eval v }⟩ cl) ⟨_,cl,rfl,hM'⟩⟩;have hmod:(⟨ents⟩:Array MapEntry).modify i (fun x=>{ x with key:=a.eval k,val:=a.eval v })=⟨ents.set i { e with key:=a.eval k,val:=a.eval v }⟩:=by
    rw [<- Ebj];simp only [Array.toList_modify];apply Eb9;intro q;simp only [List.getElem?_modify,Ebn];by_cases hq:i=q
    ·subst hq;have h5:ents[i]=e:=by simpa [Eaa hlt] using h3
     simp [hlt,h5]
    ·simp [hq]
   have hgete:((⟨ents⟩:Array MapEntry)[i]?)=some e:=by simpa using h3
   rw [hv];simp only [Instr.mapUpdate,Sem.run_bind,run_underlying ht,Result.andThen_ok,hgo,Bm hk hd,h4,hgete,Option.map_some,Option.getD_some,hst,hmod,hset]
 ·rename_i hfi;cases hput;rcases G5 (P:=P) hk hd rk hfit hM hfi with ⟨_,h4⟩ | ⟨j,x,kv,e,h1,_⟩
  ·have hM':MRep w Im' (ents ++ [{ key:=a.eval k,val:=a.eval v,born:=cl }]) (cl+1) (es ++ [(kp,vp)]):=by
    obtain ⟨m1,m2,m3,m4⟩:=hM;refine ⟨by simp [m1],?_,fun e' he'=>?_,fun q e' p he' hp=>?_⟩
    ·rw [Ebu,Ecc];refine ⟨m2,by simp,fun x hx y hy=>?_⟩;simp at hy;subst hy;obtain ⟨e',he',rfl⟩:=Eap.1 hx;exact Nat.ne_of_lt (m3 e' he')
    ·rcases Eau.1 he' with he' | he'
     ·exact Nat.lt_succ_of_lt (m3 e' he')
     ·simp at he';subst he';exact Nat.lt_succ_self _
    ·by_cases hq:q<ents.length
     ·rw [Eaq hq] at he';rw [Eaq (m1 ▸ hq)] at hp;exact m4 q e' p he' hp
     ·rw [Ean omg] at he';rw [Ean omg] at hp;rw [m1] at he';cases hqq:q - es.length with
      | zero=>rw [hqq] at he' hp;simp at he' hp;subst he';subst hp;exact ⟨rk,rv⟩
      | succ n=>rw [hqq] at he';simp at he'
   refine ⟨_,_,Im',?_,hK,h'.setObj hmem hβ (.map ⟨ents ++ [{ key:=a.eval k,val:=a.eval v,born:=cl }]⟩ (cl+1)) ⟨_,cl+1,rfl,hM'⟩⟩;have hpush:(⟨ents⟩:Array MapEntry).push { key:=a.eval k,val:=a.eval v,born:=cl } = ⟨ents ++ [{ key:=a.eval k,val:=a.eval v,born:=cl }]⟩:=by simp
   rw [hv];simp only [Instr.mapUpdate,Sem.run_bind,run_underlying ht,Result.andThen_ok,hgo,Bm hk hd,h4,hpush,hset]
  ·cases h1
def Jxc (P:Program) (t:TypeId) (s:St) (m k:Operand) (K:St->L->Prop):Prop :=
 match s.get m with
 | .mref d=>match Am d s.regs,mapT P t,s.get k with
  | some (.obj (.mp es)),some (kt,_),.p kp=>De P kt kp=true/\∃ j x,Cl kp es 0=some (some (j,x))/\∀ n:Int,K { s with regs:=Bs d (.obj (.mpe es j n)) s.regs } (.tup [x,.int .i64 n])
  | _,_,_=>False
 | _=>False
def Ju5 (s:St) (m e v:Operand) (K:St->Prop):Prop :=
 match (s.freezeOps [v]).get m with
 | .mref d=>match Am d (s.freezeOps [v]).regs,(s.freezeOps [v]).get e,(s.freezeOps [v]).get v with
  | some (.obj (.mpe es j n)),.p (.int .i64 n'),.p vp=>n'=n/\∃ q,es[j]? = some q/\K { (s.freezeOps [v]) with regs:=Bs d (.obj (.mp (es.set j (q.1,vp)))) (s.freezeOps [v]).regs }
  | _,_,_=>False
 | _=>False
theorem J09 {s:St} {a:Act} (h:RRx Γ β Im s a.tmps w) {t:TypeId} {m k:Operand} {K:St->L->Prop} (hl:Jxc P t s m k K) :
  ∃ v w' s' l,(Instr.mapEntry t (a.eval m) (a.eval k)).run P w=.ok v w'/\RRx Γ β Im s' a.tmps w'/\LRep β w' Im v l/\K s' l:=by
 unfold Jxc at hl;have rm:=A2 h.fit m;have rk:=A2 h.fit k;split at hl <;> first | exact hl.elim | skip
 rename_i d hg;rw [hg] at rm;obtain ⟨loc,hβ,hv⟩:=rm;split at hl <;> first | exact hl.elim | skip
 rename_i es kt et kp hr hT hgk;obtain ⟨hfit,j,x,hfi,hK⟩:=hl;rw [hgk] at rk;obtain ⟨ht,dd,hk,hd⟩:=Oq hT;have hmem:=Ax hr;obtain ⟨loc',hβ',ents,cl,ho,hM⟩:=h.fit.regs d _ hmem;rw [hβ] at hβ';cases hβ';have hgo:(getObj loc.blk).run P w=.ok (.map ⟨ents⟩ cl) w:=by simp [getObj,Sem.run,ho]
 have hset:∀ o,(setObj loc.blk o).run P w=.ok () { w with heap:=w.heap.setIfInBounds loc.blk o }:=fun o=>by simp [setObj,Sem.run,ho]
 have hkey:=Q2 (w:=w) (Im:=Im) hk hfit rk;have hstay:(Instr.keyThatStays (a.eval k) (a.eval k)).run P w=.ok (a.eval k) w:=MapKept.run_keyThatStays hkey;rcases G5 (P:=P) hk hd rk hfit hM hfi with ⟨h0,_⟩ | ⟨j',x',kv,e,h1,h2,h3,h4⟩
 ·cases h0
 ·cases h1;have hlt:j<ents.length:=(Eab.1 h3).1;obtain ⟨h5,h6⟩:=hM.2.2.2 j e _ h3 h2;have hsame:e.key=a.eval k:=Jfj rk h5 (S5 hfi h2);have hst:(Instr.keyThatStays e.key (a.eval k)).run P w=.ok (a.eval k) w:=by rw [hsame];exact hstay
  have hmod:(⟨ents⟩:Array MapEntry).modify j (fun x=>{ x with key:=a.eval k })=⟨ents⟩:=by
   rw [<- Ebj];simp only [Array.toList_modify];apply Eb9;intro q;rw [List.getElem?_modify];by_cases hq:j=q
   ·subst hq;rw [h3];simp [<- hsame]
   ·simp [hq]
  have hgete:((⟨ents⟩:Array MapEntry)[j]?)=some e:=by simpa using h3
  have hborn:Ho ents j=e.born:=by simp [Ho,List.getD,h3]
  have hlive:=h.fit.live d _ loc hmem hβ;have hkp:Keeps w Im { w with heap:=w.heap.setIfInBounds loc.blk (.map ⟨ents⟩ cl) } Im:=⟨fun _ h=>h,fun b hb'=>by
   have:loc.blk≠b:=fun e=>hlive.2 (e ▸ hb')
   simp [Eb2,this]⟩
  refine ⟨.tuple #[e.val,goInt e.born],_,_,_,?_,h.setObj hmem hβ (.map ⟨ents⟩ cl) (o:=.mpe es j e.born) ⟨ents,cl,rfl,hM,hlt,by rw [hborn]⟩,tup2 (h6.mono hkp) (.int .i64 e.born),hK e.born⟩;rw [hv];simp only [Instr.mapEntry,Sem.run_bind,run_underlying ht,Result.andThen_ok,hgo,Bm hk hd,h4,hgete,Option.map_some,Option.getD_some,hst,hmod,hset,Sem.run_pure]
theorem Jzh {s:St} {a:Act} (h:RRx Γ β Im s a.tmps w) {t:TypeId} {m e v:Operand} {K:St->Prop} (hl:Ju5 s m e v K) :
  ∃ w' s' Im',(Instr.entryStore t (a.eval m) (a.eval e) (a.eval v)).run P w=.ok () w'/\K s'/\RRx Γ β Im' s' a.tmps w':=by
 unfold Ju5 at hl;obtain ⟨Im',h'⟩:=RRx.freezeOps (s:=s) [v] h;have rm:=A2 h'.fit m;have re:=A2 h'.fit e;have rv:=A2 h'.fit v;split at hl <;> first | exact hl.elim | skip
 rename_i d hg;rw [hg] at rm;obtain ⟨loc,hβ,hv⟩:=rm;split at hl <;> first | exact hl.elim | skip
 rename_i es j n n' vp hr hge hgv;obtain ⟨rfl,q,hq,hK⟩:=hl;rw [hge] at re;rw [hgv] at rv;have hmem:=Ax hr;obtain ⟨loc',hβ',ents,cl,ho,hM,hlt,hborn⟩:=h'.fit.regs d _ hmem;rw [hβ] at hβ';cases hβ';obtain ⟨e0,he0⟩:∃ e0,ents[j]? = some e0:=⟨_,Eaa hlt⟩
 have hb0:Ho ents j=e0.born:=by simp [Ho,List.getD,he0]
 have hgo:(getObj loc.blk).run P w=.ok (.map ⟨ents⟩ cl) w:=by simp [getObj,Sem.run,ho]
 have hset:∀ o,(setObj loc.blk o).run P w=.ok () { w with heap:=w.heap.setIfInBounds loc.blk o }:=fun o=>by simp [setObj,Sem.run,ho]
 have hev:a.eval e=.int .i64 e0.born:=by
  cases hh:a.eval e <;> rw [hh] at re <;> cases re;rw [<- hborn,hb0]
 have hidx:(⟨ents⟩:Array MapEntry).findIdx? (fun x=>((x.born:Nat):Int) == ((e0.born:Nat):Int))=some j:=by
  rw [WideElems.findIdx_arr];exact WideElems.findIdx_born hM.2.1 he0
 have hM':MRep w Im' (ents.set j { e0 with val:=a.eval v }) cl (es.set j (q.1,vp)):=by
  obtain ⟨m1,m2,m3,m4⟩:=hM;have hb:(ents.set j { e0 with val:=a.eval v }).map (·.born)=ents.map (·.born):=by
   apply Eb9;intro q;simp only [Eam,Ebn];split
   ·rename_i hq;subst hq;have h5:ents[j]=e0:=by simpa [Eaa hlt] using he0
    simp [hlt,h5]
   ·rfl
  refine ⟨by simpa using m1,by rw [hb];exact m2,fun e' he'=>?_,fun i e' p he' hp=>?_⟩
  ·rcases Eby he' with he' | rfl
   ·exact m3 e' he'
   ·exact m3 e0 (Eae he0)
  ·rw [Ebn] at he' hp;by_cases hi:j=i
   ·subst hi;simp only [if_true,hlt,(m1 ▸ hlt:j<es.length)] at he' hp;cases he';cases hp;exact ⟨(m4 j e0 q he0 hq).1,rv⟩
   ·simp only [hi,if_false] at he' hp;exact m4 i e' p he' hp
 refine ⟨_,_,Im',?_,hK,h'.setObj hmem hβ (.map ⟨ents.set j { e0 with val:=a.eval v }⟩ cl) ⟨_,cl,rfl,hM'⟩⟩;have hmod:(⟨ents⟩:Array MapEntry).modify j (fun x=>{ x with val:=a.eval v })=⟨ents.set j { e0 with val:=a.eval v }⟩:=by
  rw [<- Ebj];simp only [Array.toList_modify];apply Eb9;intro q;simp only [List.getElem?_modify,Ebn];by_cases hq:j=q
  ·subst hq;have h5:ents[j]=e0:=by simpa [Eaa hlt] using he0
   simp [hlt,h5]
  ·simp [hq]
 rw [hv,hev];simp only [Instr.entryStore,Sem.run_bind,Result.andThen_ok,hgo,asInt,asIntOf,Sem.run_pure,hidx,hmod,hset]
theorem S2 {s:St} {a:Act} (h:RRx Γ β Im s a.tmps w) {t ty:TypeId} {ts:List TypeId} {m k:Operand} {K:St->Prop} (hl:Kq P t s m k K) :
  ∃ w' s',(Builtin.delete_ ⟨t :: ts⟩ ty #[a.eval m,a.eval k]).run P w=.ok (.tuple #[]) w'/\K s'/\RRx Γ β Im s' a.tmps w':=by
 unfold Kq at hl;have rm:=A2 h.fit m;have rk:=A2 h.fit k;split at hl <;> first | exact hl.elim | skip
 rename_i d hg;rw [hg] at rm;obtain ⟨loc,hβ,hv⟩:=rm;split at hl <;> first | exact hl.elim | skip
 rename_i es kt et kp hr hT hgk;obtain ⟨hfit,es',hput,hK⟩:=hl;rw [hgk] at rk;obtain ⟨ht,dd,hk,hd⟩:=Oq hT;have hmem:=Ax hr;obtain ⟨loc',hβ',ents,cl,ho,hM⟩:=h.fit.regs d _ hmem;rw [hβ] at hβ';cases hβ';have hgo:(getObj loc.blk).run P w=.ok (.map ⟨ents⟩ cl) w:=by simp [getObj,Sem.run,ho]
 have hset:∀ o,(setObj loc.blk o).run P w=.ok () { w with heap:=w.heap.setIfInBounds loc.blk o }:=fun o=>by simp [setObj,Sem.run,ho]
 unfold mdel at hput;split at hput <;> first|(cases hput;done) | skip
 ·rename_i i x0 hfi;cases hput;rcases G5 (P:=P) hk hd rk hfit hM hfi with ⟨h0,_⟩ | ⟨j,x,kv,e,h1,h2,h3,h4⟩
  ·cases h0
  ·cases h1;have hlt:i<ents.length:=(Eab.1 h3).1;have hM':MRep w Im (ents.eraseIdx i) cl (es.eraseIdx i):=by
    obtain ⟨m1,m2,m3,m4⟩:=hM;refine ⟨by simp [Ec5,m1],?_,fun e' he'=>m3 e' (List.mem_of_mem_eraseIdx he'),fun q e' p he' hp=>?_⟩
    ·rw [ChangeMaps.map_eraseIdx];exact m2.sublist (List.eraseIdx_sublist _ _)
    ·rw [List.getElem?_eraseIdx] at he' hp;split at he'
     ·rename_i hq;rw [if_pos hq] at hp;exact m4 q e' p he' hp
     ·rename_i hq;rw [if_neg hq] at hp;exact m4 (q+1) e' p he' hp
   refine ⟨_,_,?_,hK,h.setObj hmem hβ (.map ⟨ents.eraseIdx i⟩ cl) ⟨_,cl,rfl,hM'⟩⟩;have her:(⟨ents⟩:Array MapEntry).eraseIdxIfInBounds i=⟨ents.eraseIdx i⟩:=by
    rw [<- Ebj];simp
   rw [hv];simp only [Builtin.delete_,Sem.run_bind,Ec3,List.getElem?_cons_zero,run_underlying ht,Result.andThen_ok,hgo,Bm hk hd,h4,her,hset];simp [run_underlying ht,hgo,Bm hk hd,h4,her,hset]
 ·rename_i hfi;cases hput;rcases G5 (P:=P) hk hd rk hfit hM hfi with ⟨_,h4⟩ | ⟨j,x,kv,e,h1,_⟩
  ·refine ⟨_,_,?_,hK,h.setObj hmem hβ (.map ⟨ents⟩ cl) ⟨_,cl,rfl,hM⟩⟩;rw [hv];simp [Builtin.delete_,run_underlying ht,hgo,Bm hk hd,h4,hset]
  ·cases h1
def Ri (s:St) (it:Operand) (K:L->Prop):Prop :=
 match s.get it with
 | .ptr d 0 0=>match Am d s.regs with
  | some (.obj (.mit es seen))=>∃ i,seen.getLast? = some i/\∃ p,es[i]? = some p/\K (.tup [p.1,p.2])
  | _=>False
 | _=>False
theorem Vx {s:St} {a:Act} (hf:Fit β w Im s a.tmps) {it:Operand} {K:L->Prop} (hl:Ri s it K):∃ v l,(Instr.entry (a.eval it)).run P w=.ok v w/\LRep β w Im v l/\K l:=by
 unfold Ri at hl;have hr:=A2 hf it;split at hl <;> first | exact hl.elim | skip
 rename_i d hg;rw [hg] at hr;obtain ⟨loc,hβ,hv⟩:=hr;have hz:(0:Nat) * loc.sz+0=0:=by simp
 rw [hz] at hv;split at hl <;> first | exact hl.elim | skip
 rename_i es seen hfr;obtain ⟨i,hi,p,hp,hK⟩:=hl;obtain ⟨loc',hβ',ho⟩:=hf.regs d _ (Ax hfr);rw [hβ] at hβ';cases hβ';rcases ho with ⟨rfl,ho⟩ | ⟨m,ents,cl,hm,hmw,hM,ho,hsn⟩
 ·simp at hp
 ·obtain ⟨hlt,rfl⟩:=Eab.1 hp;have hlt':i<ents.length:=hM.1 ▸ hlt;have he:ents[i]? = some ents[i]:=Eaa hlt';have hb:Ho ents i=ents[i].born:=by simp [Ho,List.getD,he]
  have hback:((⟨seen.map (Ho ents)⟩:Array Nat).back?)=some ents[i].born:=by
   rw [<- hb,Array.back?_eq_getElem?];rw [List.getLast?_eq_getElem?] at hi;simp [hi]
  have hfind:ents.find? (fun e=>e.born == ents[i].born)=some ents[i]:=by
   rw [List.find?_eq_some_iff_getElem];refine ⟨by simp,i,hlt',rfl,fun j hj=>?_⟩;simp only [Ec9,beq_eq_false_iff_ne];intro hc;have:=(List.getElem_inj (i:=j) (j:=i) (h₀:=by simp;omega) (h₁:=by simpa using hlt') hM.2.1).1 (by simpa using hc);omega
  obtain ⟨hpk,hpv⟩:=hM.2.2.2 i _ _ he hp;refine ⟨.tuple #[ents[i].key,ents[i].val],_,?_,tup2 hpk hpv,hK⟩;have hgm:(getObj m).run P w=.ok (.map ⟨ents⟩ cl) w:=by simp [getObj,Sem.run,hmw]
  rw [hv];simp [Instr.entry,Si ho,hback,hgm,hfind]
def Gn (P:Program) (t:TypeId) (s:St) (x y:Operand) (K:St->L->Prop):Prop :=
 match s.get x,s.get y with
 | .ptr d 0 0,.p (.int .i64 n)=>match Am d s.regs with
  | some (.row T 1 es)=>P.underlying t=some (.pointer T)/\P.cellsOf T=1/\∃ bs,Cw es=some bs/\n=bs.length/\bs≠[]/\bs.length<=9223372036854775807 /\
    K (s.forget d) (.p (.str bs))
  | _=>False
 | _,_=>False
theorem Ni {s:St} {a:Act} (h:RRx Γ β Im s a.tmps w) {t it ty:TypeId} {x y:Operand} {K:St->L->Prop} (hl:Gn P t s x y K) :
  ∃ v w' s' l,(Builtin.unsafeString_ #[t,it] ty #[a.eval x,a.eval y]).run P w=.ok v w'/\RRx Γ β Im s' a.tmps w'/\LRep β w' Im v l/\K s' l:=by
 unfold Gn at hl;have rx:=A2 h.fit x;have ry:=A2 h.fit y;split at hl <;> first | exact hl.elim | skip
 rename_i d n hg hg2;rw [hg] at rx;rw [hg2] at ry;obtain ⟨loc,hβ,hv⟩:=rx;have hv2:a.eval y=.int .i64 n:=by generalize a.eval y=v at ry;cases ry;rfl
 split at hl <;> first | exact hl.elim | skip
 rename_i T es hr;obtain ⟨hp,hc,bs,hbs,rfl,hne,h63,hK⟩:=hl;have hmem:=Ax hr;rcases h.fit.regs d _ hmem with ⟨hn,_⟩ | ⟨loc',cur,hβ',hsz,hb,hcl,hle,hml,hel,hcell⟩
 ·rw [hβ] at hn;cases hn
 rw [hβ] at hβ';cases hβ';obtain ⟨b1,b2⟩:=Io hbs;have hz:(0:Nat) * loc.sz+0=0:=by simp
 rw [hz] at hv;have hrun:=Lib.run_unsafeString_row (P:=P) (w:=w) t it ty T hp hc loc.blk cur.length (by simp [World.shape?,hb]) bs hne omg h63 (fun j x hx=>by
  obtain ⟨e,he⟩:=getElem?_of_length b1 hx;obtain ⟨b,hb',hbe⟩:=b2 j e he;rw [hx] at hb';cases hb';subst hbe;obtain ⟨v,hv',hp'⟩:=hcell j _ 0 _ he rfl;cases hp';rw [Cd,Ebk,D7 hb];simpa using hv')
 have hf:(w.freeze ⟨loc.blk,0,none⟩ bs.length).os=w.os/\(w.freeze ⟨loc.blk,0,none⟩ bs.length).tape=w.tape/\(w.freeze ⟨loc.blk,0,none⟩ bs.length).output=w.output/\(w.freeze ⟨loc.blk,0,none⟩ bs.length).heap.size=w.heap.size /\
   ∀ k,k≠loc.blk->(w.freeze ⟨loc.blk,0,none⟩ bs.length).heap[k]? = w.heap[k]?:=by
  unfold World.freeze;split
  ·exact ⟨rfl,rfl,rfl,rfl,fun _ _=>rfl⟩
  ·refine ⟨rfl,rfl,rfl,by simp,fun k hk=>by simp [Array.getElem?_modify,Ne.symm hk]⟩
 refine ⟨_,_,s.forget d,.p (.str bs),by rw [hv,hv2];exact hrun,?_,PRep.str bs,hK⟩;exact h.spoil hmem hf.1 hf.2.1 hf.2.2.1 (Nat.le_of_eq hf.2.2.2.1.symm) fun k _ hne=>hf.2.2.2.2 k (hne loc hβ)
end
end Go.LX
namespace Go.LX
open Go Go.RowKit Go.Proofs
abbrev Regs:=List (Nat×Reg)
structure CallStep (β:Env) (w:World) (Im:Nat->Prop) (rs:Regs) (β':Env) (w':World) (Im':Nat->Prop) (rs':Regs):Prop where
 os:w'.os=w.os
 tape:w'.tape=w.tape
 output:w'.output=w.output
 size:w.heap.size<=w'.heap.size
 block:∀ k,k<w.heap.size->(∀ d r loc,(d,r)∈rs->β d=some loc->loc.blk≠k)->w'.heap[k]? = w.heap[k]?
 imin:∀ b,Im b->Im' b
 imnew:∀ b,Im' b->Im b\/w.heap.size<=b\/∃ d r loc,(d,r)∈rs/\β d=some loc/\loc.blk=b
 env:∀ d,1000<=d->d<500000->β' d=β d
 keys:∀ d r,(d,r)∈rs'->d=900\/∃ r0,(d,r0)∈rs
 regnew:∀ d r loc,(d,r)∈rs'->β' d=some loc->w.heap.size<=loc.blk\/∃ d r loc',(d,r)∈rs/\β d=some loc'/\loc'.blk=loc.blk
 fit:Fit β' w' Im' ⟨[],rs'⟩ #[]
def Al (X:Cx) (f:FuncId) (args:List L) (rs:Regs) (Post:L->Regs->Prop):Prop :=
 Enters X.P f/\∀ (β:Env) (Im:Nat->Prop) (w:World) (vs:List Value),X.G w Im->Fit β w Im ⟨args,rs⟩ ⟨vs⟩ ->
  Calls X.P f ⟨vs⟩ w fun e w'=>∃ v l rs' β' Im',e=.returned v/\Post l rs'/\LRep β' w' Im' v l/\CallStep β w Im rs β' w' Im' rs'
theorem Al.mono {X:Cx} {f:FuncId} {args:List L} {rs:Regs} {Post Post':L->Regs->Prop} (h:Al X f args rs Post) (hp:∀ l rs',Post l rs'->Post' l rs'):Al X f args rs Post' :=
 ⟨h.1,fun β Im w vs hg hf=>(h.2 β Im w vs hg hf).mono fun _ _ ⟨v,l,rs',β',Im',he,hP,hr⟩=>⟨v,l,rs',β',Im',he,hp _ _ hP,hr⟩⟩
abbrev Ren:=List (Nat×Nat)
def upId:Ren->Nat->Option Nat
 | [],_=>none
 | (d,n) :: ρ,e=>if d=e then some n else upId ρ e
def dnId:Ren->Nat->Option Nat
 | [],_=>none
 | (d,n) :: ρ,m=>if n=m then some d else dnId ρ m
def Jyi (o:Option Nat) (i j:Nat):L:=match o with | some n=>.ptr n i j | none=>.junk
def Jxj (o:Option Nat) (off len:Nat):L:=match o with | some n=>.own n off len | none=>.junk
def Jwt (o:Option Nat):L:=match o with | some n=>.mref n | none=>.junk
def J3a (f:FuncId) (o:Option (List Nat)):L:=match o with | some ns=>.fn f ns | none=>.junk
def J54 (f:FuncId) (o:Option (List Nat)):L:=match o with | some ns=>.cfn f ns | none=>.junk
def L.map (f:Nat->Option Nat):L->L
 | .ptr d i j=>Jyi (f d) i j
 | .own d off len=>Jxj (f d) off len
 | .fn g ds=>J3a g (Bg f ds)
 | .cfn g ds=>J54 g (Bg f ds)
 | .mref d=>Jwt (f d)
 | l=>l
def Reg.map (f:Nat->Option Nat):Reg->Reg
 | .var T cs=>.var T (cs.map (L.map f))
 | .row T sz es=>.row T sz es
 | .lrow T sz fu es=>.lrow T sz fu (es.map fun e=>e.map (L.map f))
 | .obj o=>.obj o
theorem LRep.map {β β':Env} {w:World} {Im:Nat->Prop} {f:Nat->Option Nat} (hf:∀ d n,f d=some n->β' n=β d) {v:Value} {l:L} (h:LRep β w Im v l):LRep β' w Im v (l.map f):=by
 have fn:∀ (vs:List Value) (ds ns:List Nat),Bg f ds=some ns->vs.length=ds.length->(∀ (i:Nat) (x:Value) (d:Nat),vs[i]? = some x->ds[i]? = some d->∃ loc,β d=some loc/\x=.pointer (some ⟨loc.blk,0,none⟩)) ->
   vs.length=ns.length/\∀ (i:Nat) (x:Value) (d:Nat),vs[i]? = some x->ns[i]? = some d->∃ loc,β' d=some loc/\x=.pointer (some ⟨loc.blk,0,none⟩):=by
  intro vs ds ns ha hl hx;obtain ⟨h1,h2⟩:=Bh ha;refine ⟨hl.trans h1,fun i x n hi hn=>?_⟩;obtain ⟨d,hd⟩:=getElem?_of_length h1 hn;obtain ⟨loc,h3,h4⟩:=hx i x d hi hd;exact ⟨loc,by rw [hf d n (h2 i d n hd hn)];exact h3,h4⟩
 cases l with
 | ptr d i j =>
  simp only [L.map];cases hd:f d with
  | none=>trivial
  | some n=>simpa only [Jyi,LRep,hf d n hd] using h
 | own d off len =>
  simp only [L.map];cases hd:f d with
  | none=>trivial
  | some n=>simpa only [Jxj,LRep,hf d n hd] using h
 | mref d =>
  simp only [L.map];cases hd:f d with
  | none=>trivial
  | some n=>simpa only [Jwt,LRep,hf d n hd] using h
 | fn g ds =>
  simp only [L.map];cases hd:Bg f ds with
  | none=>trivial
  | some ns =>
   obtain ⟨vs,hv,hl,hx⟩:=h;obtain ⟨h1,h2⟩:=fn vs ds ns hd hl hx;exact ⟨vs,hv,h1,h2⟩
 | cfn g ds =>
  simp only [L.map];cases hd:Bg f ds with
  | none=>trivial
  | some ns =>
   obtain ⟨vs,hv,hl,hx⟩:=h;obtain ⟨h1,h2⟩:=fn vs ds ns hd hl hx;exact ⟨vs,hv,h1,h2⟩
 | p x=>exact h
 | eptr cs=>exact h
 | yld l=>exact h
 | tup xs=>exact h
 | junk=>trivial
theorem J8n (f:Nat->Option Nat) (l:L) (h:l.cellOK=true\/l=.junk):(l.map f).cellOK=true\/l.map f=.junk:=by
 rcases h with h | rfl
 ·cases l with
  | ptr d i j=>simp only [L.map];cases f d <;> first | exact .inl rfl | exact .inr rfl
  | own d i j=>simp only [L.map];cases f d <;> first | exact .inl rfl | exact .inr rfl
  | mref d=>simp only [L.map];cases f d <;> first | exact .inl rfl | exact .inr rfl
  | fn g ds=>simp only [L.map];cases Bg f ds <;> first | exact .inl rfl | exact .inr rfl
  | cfn g ds=>simp only [L.map];cases Bg f ds <;> first | exact .inl rfl | exact .inr rfl
  | _=>exact .inl h
 ·exact .inr rfl
theorem Ci.map {β β':Env} {w:World} {Im:Nat->Prop} {f:Nat->Option Nat} (hf:∀ d n,f d=some n->β' n=β d) {d n:Nat} (hd:β' n=β d) {r:Reg} (h:Ci β w Im d r):Ci β' w Im n (r.map f):=by
 cases r with
 | var T cs =>
  obtain ⟨loc,cur,h1,h2,h3,h4,h5,h6⟩:=h;refine ⟨loc,cur,by rw [hd];exact h1,by simpa using h2,h3,h4,by simpa using h5,fun j v l hv hl=>?_⟩;rw [Eam] at hl;obtain ⟨l',hl2,rfl⟩:=Eak.1 hl;exact ⟨(h6 j v l' hv hl2).1.map hf,J8n f l' (h6 j v l' hv hl2).2⟩
 | row T sz es =>
  rcases h with ⟨h1,h2⟩ | ⟨loc,cur,h1,h2⟩
  ·exact .inl ⟨by rw [hd];exact h1,h2⟩
  ·exact .inr ⟨loc,cur,by rw [hd];exact h1,h2⟩
 | lrow T sz fu es =>
  rcases h with ⟨h1,h2⟩ | ⟨loc,cur,h1,h2,h3,h4,h5,h6,h7,h8,h9⟩
  ·exact .inl ⟨by rw [hd];exact h1,by simp [h2]⟩
  ·refine .inr ⟨loc,cur,by rw [hd];exact h1,h2,h3,h4,by simpa using h5,by simpa using h6,h7,fun x hx=>?_,R4 (fun v l hl=>hl.map hf) (J8n f) h9⟩;obtain ⟨y,hy,rfl⟩:=Eap.1 hx;simpa using h8 y hy
 | obj o =>
  obtain ⟨loc,h1,h2⟩:=h;exact ⟨loc,by rw [hd];exact h1,h2⟩
structure RenOK (ρ:Ren):Prop where
 inj:∀ d d' n,upId ρ d=some n->upId ρ d'=some n->d=d'
 ge:∀ d n,upId ρ d=some n->1000<=n
 fix:∀ d n,upId ρ d=some n->1000<=d->d<500000->n<500000
 back:∀ n d,dnId ρ n=some d ↔ upId ρ d=some n
def Cz (ρ:Ren):Regs->Regs
 | []=>[]
 | (d,r) :: rs=>match upId ρ d with
  | some n=>(n,r.map (upId ρ)) :: Cz ρ rs
  | none=>Cz ρ rs
theorem Dd {ρ:Ren} {n:Nat} {q:Reg}:∀ {rs:Regs},(n,q)∈Cz ρ rs->∃ d r,(d,r)∈rs/\upId ρ d=some n/\q=r.map (upId ρ)
 | [],h=>by cases h
 | (d,r) :: rs,h=>by
  simp only [Cz] at h;split at h
  ·rename_i m hm;rcases Eaj.1 h with h | h
   ·cases h;exact ⟨d,r,Eaf,hm,rfl⟩
   ·obtain ⟨d',r',h1,h2,h3⟩:=Dd h;exact ⟨d',r',Eag _ h1,h2,h3⟩
  ·obtain ⟨d',r',h1,h2,h3⟩:=Dd h;exact ⟨d',r',Eag _ h1,h2,h3⟩
theorem I9 {ρ:Ren} (hρ:RenOK ρ):∀ {rs:Regs},(rs.map (·.1)).Nodup->((Cz ρ rs).map (·.1)).Nodup
 | [],_=>.nil
 | (d,r) :: rs,h=>by
  simp only [Eat,Eb0] at h;simp only [Cz];split
  ·rename_i n hn;simp only [Eat,Eb0];refine ⟨fun hm=>?_,I9 hρ h.2⟩;obtain ⟨⟨n',q⟩,hq,he⟩:=Eap.1 hm;simp only at he;subst he;obtain ⟨d',r',h1,h2,_⟩:=Dd hq;exact h.1 (Eap.2 ⟨(d',r'),h1,(hρ.inj d' d n' h2 hn)⟩)
  ·exact I9 hρ h.2
def Ky (ρ:Ren) (β:Env):Env:=fun n=>match dnId ρ n with | some d=>β d | none=>none
theorem D1 {ρ:Ren} (hρ:RenOK ρ) {β:Env} {d n:Nat} (h:upId ρ d=some n):Ky ρ β n=β d:=by
 simp only [Ky,(hρ.back n d).2 h]
section
variable {β:Env} {w:World} {Im:Nat->Prop}
theorem Fit.call {s:St} {tmps:Array Value} (h:Fit β w Im s tmps) {ρ:Ren} (hρ:RenOK ρ) {args:List L} {vs:List Value} (hl:vs.length=args.length) (ha:∀ (i:Nat) (v:Value) (l:L),vs[i]? = some v->args[i]? = some l->LRep β w Im v l) :
  Fit (Ky ρ β) w Im ⟨args.map (L.map (upId ρ)),Cz ρ s.regs⟩ ⟨vs⟩ where
 size:=by simpa using hl
 tmps i l hl':=by
  simp only [Eam] at hl';obtain ⟨l',hl2,rfl⟩:=Eak.1 hl';obtain ⟨v,hv⟩:=getElem?_of_length hl hl2;have:(⟨vs⟩:Array Value).getD i undef=v:=by simp [Eas,hv]
  rw [this];exact (ha i v l' hv hl2).map fun d n hd=>D1 hρ hd
 regs n q hq:=by
  obtain ⟨d,r,h1,h2,rfl⟩:=Dd hq;exact (h.regs d r h1).map (fun d n hd=>D1 hρ hd) (D1 hρ h2)
 nodup:=I9 hρ h.nodup
 live n q loc hq hl:=by
  obtain ⟨d,r,h1,h2,rfl⟩:=Dd hq;rw [D1 hρ h2] at hl;exact h.live d r loc h1 hl
 apart n q n' q' loc loc' hq hq' hne hl hl':=by
  obtain ⟨d,r,h1,h2,rfl⟩:=Dd hq;obtain ⟨d',r',h1',h2',rfl⟩:=Dd hq';rw [D1 hρ h2] at hl;rw [D1 hρ h2'] at hl';exact h.apart d r d' r' loc loc' h1 h1' (fun e=>hne (by subst e;rw [h2] at h2';exact Ea3 h2')) hl hl'
 im:=h.im
def findKey (d:Nat):Regs->Bool
 | []=>false
 | (e,_) :: rest=>if e=d then true else findKey d rest
theorem Jn {d:Nat}:∀ {rs:Regs},findKey d rs=true ↔ ∃ r,(d,r)∈rs
 | []=>by simp [findKey]
 | (e,q) :: rs=>by
  simp only [findKey];split
  ·rename_i h;subst h;simp only [true_iff];exact ⟨q,Eaf⟩
  ·rename_i h;rw [Jn];constructor
   ·rintro ⟨r,hr⟩;exact ⟨r,Eag _ hr⟩
   ·rintro ⟨r,hr⟩;rcases Eaj.1 hr with hr | hr
    ·cases hr;exact absurd rfl h
    ·exact ⟨r,hr⟩
def C6 (ρ:Ren) (nw:Option Nat) (n:Nat):Option Nat :=
 match nw with
 | none=>dnId ρ n
 | some d=>if n=900 then some d else match dnId ρ n with
  | some e=>if e=d then none else some e
  | none=>none
def C5 (bad:List Nat) (d:Nat):Option Nat:=if bad.contains d=true then none else some d
def Da (ρ:Ren) (nw:Option Nat):List Nat :=
 match nw with
 | none=>(ρ.filter fun x=>decide (500000<=x.2)).map (·.1)
 | some d=>d :: (ρ.filter fun x=>decide (500000<=x.2)).map (·.1)
def N7 (nw:Option Nat) (e:Nat):Bool :=
 match nw with
 | none=>true
 | some d=>decide (e≠d)
def C1 (ρ:Ren) (nw:Option Nat) (bad:List Nat) (rs':Regs):Regs->Regs
 | []=>[]
 | (e,q) :: rs=>if N7 nw e=true then match upId ρ e with
   | some n=>match Am n rs' with
    | some r=>(e,r.map (C6 ρ nw)) :: C1 ρ nw bad rs' rs
    | none=>C1 ρ nw bad rs' rs
   | none=>(e,q.map (C5 bad)) :: C1 ρ nw bad rs' rs
  else C1 ρ nw bad rs' rs
def Gc (ρ:Ren) (nw:Option Nat) (rs':Regs):Regs :=
 match nw with
 | none=>[]
 | some d=>match Am 900 rs' with
  | some r=>[(d,r.map (C6 ρ nw))]
  | none=>[]
def St.after (ρ:Ren) (nw:Option Nat) (rs':Regs) (s:St):St:=⟨s.tmps.map (L.map (C5 (Da ρ nw))),Gc ρ nw rs' ++ C1 ρ nw (Da ρ nw) rs' s.regs⟩
def C3 (ρ:Ren) (nw:Option Nat) (β β':Env):Env:=fun e =>
 if nw=some e then β' 900 else match upId ρ e with
 | some n=>β' n
 | none=>β e
theorem Dt {ρ:Ren} {nw:Option Nat} {bad:List Nat} {rs':Regs} {e:Nat} {q:Reg}:∀ {rs:Regs},(e,q)∈C1 ρ nw bad rs' rs->nw≠some e /\
  ((∃ n r r0,upId ρ e=some n/\(n,r)∈rs'/\(e,r0)∈rs/\q=r.map (C6 ρ nw))\/(upId ρ e=none/\∃ r0,(e,r0)∈rs/\q=r0.map (C5 bad)))
 | [],h=>by cases h
 | (e',q') :: rs,h=>by
  have lift:(nw≠some e/\((∃ n r r0,upId ρ e=some n/\(n,r)∈rs'/\(e,r0)∈rs/\q=r.map (C6 ρ nw))\/(upId ρ e=none/\∃ r0,(e,r0)∈rs/\q=r0.map (C5 bad)))) ->
    nw≠some e/\((∃ n r r0,upId ρ e=some n/\(n,r)∈rs'/\(e,r0)∈(e',q') :: rs/\q=r.map (C6 ρ nw))\/(upId ρ e=none/\∃ r0,(e,r0)∈(e',q') :: rs/\q=r0.map (C5 bad))):=by
   rintro ⟨h1,h2⟩;refine ⟨h1,h2.imp ?_ ?_⟩
   ·rintro ⟨n,r,r0,a,b,c,d⟩;exact ⟨n,r,r0,a,b,Eag _ c,d⟩
   ·rintro ⟨a,r0,b,c⟩;exact ⟨a,r0,Eag _ b,c⟩
  simp only [C1] at h;split at h
  ·rename_i hk;have hne:nw≠some e':=by
    intro e;subst e;simp [N7] at hk
   split at h
   ·rename_i n hn;split at h
    ·rename_i r hr;rcases Eaj.1 h with h | h
     ·cases h;exact ⟨hne,.inl ⟨n,r,q',hn,Ax hr,Eaf,rfl⟩⟩
     ·exact lift (Dt h)
    ·exact lift (Dt h)
   ·rename_i hn;rcases Eaj.1 h with h | h
    ·cases h;exact ⟨hne,.inr ⟨hn,q',Eaf,rfl⟩⟩
    ·exact lift (Dt h)
  ·exact lift (Dt h)
theorem E8 {ρ:Ren} {nw:Option Nat} {bad:List Nat} {rs':Regs}:∀ (rs:Regs),((C1 ρ nw bad rs' rs).map (·.1)).Sublist (rs.map (·.1))
 | []=>.slnil
 | (e,q) :: rs=>by
  simp only [C1];split
  ·split
   ·split
    ·exact (E8 rs).cons_cons e
    ·exact (E8 rs).cons e
   ·exact (E8 rs).cons_cons e
  ·exact (E8 rs).cons e
theorem J5 {ρ:Ren} {nw:Option Nat} {rs':Regs} {e:Nat} {q:Reg} (h:(e,q)∈Gc ρ nw rs'):nw=some e/\∃ r,(900,r)∈rs'/\q=r.map (C6 ρ nw):=by
 unfold Gc at h;split at h
 ·cases h
 ·split at h
  ·rename_i d r hr;simp only [Eay,Ec2] at h;obtain ⟨rfl,rfl⟩:=h;exact ⟨rfl,r,Ax hr,rfl⟩
  ·cases h
theorem RRx.called {Γ:Base} {s:St} {tmps:Array Value} (h:RRx Γ β Im s tmps w) {ρ:Ren} (hρ:RenOK ρ) {nw:Option Nat} (hnw:∀ d,nw=some d->d<1000) {β':Env} {w':World} {Im':Nat->Prop} {rs':Regs} (h900:nw=none->findKey 900 rs'=false)
  (c:CallStep (Ky ρ β) w Im (Cz ρ s.regs) β' w' Im' rs'):RRx Γ (C3 ρ nw β β') Im' (s.after ρ nw rs') tmps w':=by
 have hpass:∀ k,(∃ n r loc,(n,r)∈Cz ρ s.regs/\Ky ρ β n=some loc/\loc.blk=k)->∃ d r loc,(d,r)∈s.regs/\(∃ n,upId ρ d=some n)/\β d=some loc/\loc.blk=k:=by
  rintro k ⟨n,q,loc,h1,h2,h3⟩;obtain ⟨d,r,g1,g2,_⟩:=Dd h1;rw [D1 hρ g2] at h2;exact ⟨d,r,loc,g1,⟨n,g2⟩,h2,h3⟩
 have hblk:∀ k,k<w.heap.size->(∀ d r loc,(d,r)∈s.regs->(∃ n,upId ρ d=some n)->β d=some loc->loc.blk≠k)->w'.heap[k]? = w.heap[k]?:=by
  intro k hk hne;refine c.block k hk fun n q loc hq hl e=>?_
  obtain ⟨d,r,loc',g1,g2,g3,g4⟩:=hpass k ⟨n,q,loc,hq,hl,e⟩;exact hne d r loc' g1 g2 g3 g4
 have hkeeps:Keeps w Im w' Im':=⟨c.imin,fun b hb=>hblk b (h.fit.im b hb) fun d r loc h1 _ h3 e=>(h.fit.live d r loc h1 h3).2 (e ▸ hb)⟩
 have hstay:∀ d n,C5 (Da ρ nw) d=some n->C3 ρ nw β β' n=β d:=by
  intro d n hd;unfold C5 at hd;split at hd
  ·cases hd
  ·rename_i hb;cases hd;have hnd:nw≠some d:=by
    intro e;subst e;exact hb (by simp [Da])
   unfold C3;rw [if_neg hnd];split
   ·rename_i m hm;have hm5:m<500000:=by
     rcases Edk m 500000 with h' | h'
     ·exact h'
     ·refine absurd ?_ hb;have hmem:∀ {ρ:Ren},upId ρ d=some m->(d,m)∈ρ:=by
       intro ρ
       induction ρ with
       | nil=>intro h;cases h
       | cons x ρ ih =>
        obtain ⟨a,b⟩:=x;intro h;simp only [upId] at h;split at h
        ·rename_i e;subst e;cases h;exact Eaf
        ·exact Eag _ (ih h)
      have:d∈(ρ.filter fun x=>decide (500000<=x.2)).map (·.1):=Eap.2 ⟨(d,m),List.mem_filter.2 ⟨hmem hm,by simpa using h'⟩,rfl⟩;unfold Da;cases nw with
      | none=>simpa using this
      | some x=>simp only [List.contains_cons,Eb4];exact .inr (by simpa using this)
    rw [c.env m (hρ.ge d m hm) hm5,D1 hρ hm]
   ·rfl
 have hback:∀ n d,C6 ρ nw n=some d->C3 ρ nw β β' d=β' n:=by
  intro n d hd;unfold C6 at hd;unfold C3;cases nw with
  | none =>
   have:=(hρ.back n d).1 hd;simp [this]
  | some x =>
   simp only at hd;split at hd
   ·rename_i h9;cases hd;subst h9;simp
   ·split at hd
    ·rename_i e he;split at hd
     ·cases hd
     ·rename_i hne;cases hd;have:=(hρ.back n d).1 he;rw [if_neg (by intro hc;exact hne (Ea3 hc).symm),this]
    ·cases hd
 have hsrc:∀ n r loc,(n,r)∈rs'->β' n=some loc->w.heap.size<=loc.blk\/∃ d r0 loc',(d,r0)∈s.regs/\(∃ n,upId ρ d=some n)/\β d=some loc'/\loc'.blk=loc.blk:=by
  intro n r loc hr hl;rcases c.regnew n r loc hr hl with g | g
  ·exact .inl g
  ·exact .inr (hpass _ g)
 have hreg:∀ e q,(e,q)∈(s.after ρ nw rs').regs->(∃ n r,(n,r)∈rs'/\C3 ρ nw β β' e=β' n/\q=r.map (C6 ρ nw)/\(n=900/\nw=some e\/upId ρ e=some n/\nw≠some e)) \/
   (upId ρ e=none/\nw≠some e/\C3 ρ nw β β' e=β e/\∃ r0,(e,r0)∈s.regs/\q=r0.map (C5 (Da ρ nw))):=by
  intro e q hq;rcases Eau.1 hq with hq | hq
  ·obtain ⟨rfl,r,h1,rfl⟩:=J5 hq;exact .inl ⟨900,r,h1,by simp [C3],rfl,.inl ⟨rfl,rfl⟩⟩
  ·obtain ⟨hne,hq⟩:=Dt hq;rcases hq with ⟨n,r,r0,h1,h2,h3,rfl⟩ | ⟨h1,r0,h2,rfl⟩
   ·exact .inl ⟨n,r,h2,by simp [C3,hne,h1],rfl,.inr ⟨h1,hne⟩⟩
   ·exact .inr ⟨h1,hne,by simp [C3,hne,h1],r0,h2,rfl⟩
 have h900':∀ r,(900,r)∈rs'->nw≠none:=by
  intro r hr e;have h1:findKey 900 rs'=true:=Jn.2 ⟨r,hr⟩;rw [h900 e] at h1;cases h1
 have fit:Fit (C3 ρ nw β β') w' Im' (s.after ρ nw rs') tmps:=by
  refine { size:=by simpa [St.after] using h.fit.size,tmps:=fun i l hl=>?_,regs:=fun e q hq=>?_,nodup:=?_,live:=fun e q loc hq hl=>?_,apart:=fun e q e' q' l1 l2 hq hq' hne h1 h2=>?_,im:=fun b hb=>c.fit.im b hb }
  ·simp only [St.after,Eam] at hl;obtain ⟨l',hl',rfl⟩:=Eak.1 hl;exact ((h.fit.tmps i l' hl').mono' hkeeps).map hstay
  ·rcases hreg e q hq with ⟨n,r,h1,h2,rfl,_⟩ | ⟨h1,h2,h3,r0,h4,rfl⟩
   ·exact (c.fit.regs n r h1).map (fun a b hab=>hback a b hab) h2
   ·have:=(h.fit.regs e r0 h4).mono (β':=β) hkeeps rfl (fun _ _=>rfl) fun loc hl=>hblk _ (h.fit.live e r0 loc h4 hl).1 fun d r loc' g1 g2 g3=>by
     obtain ⟨n,g2⟩:=g2;refine h.fit.apart d r e r0 loc' loc g1 h4 (fun hc=>?_) g3 hl;subst hc;rw [h1] at g2;cases g2
    exact this.map (fun a b hab=>hstay a b hab) h3
  ·simp only [St.after,Ebu];refine Ecc.2 ⟨?_,(E8 _).nodup h.fit.nodup,fun a ha b hb hab=>?_⟩
   ·unfold Gc;split
    ·exact .nil
    ·split <;> simp
   ·subst hab;obtain ⟨⟨e,q⟩,hq,rfl⟩:=Eap.1 ha;obtain ⟨⟨e',q'⟩,hq',he⟩:=Eap.1 hb;simp only at he;subst he;exact (Dt hq').1 (J5 hq).1
  ·rcases hreg e q hq with ⟨n,r,h1,h2,rfl,_⟩ | ⟨h1,h2,h3,r0,h4,rfl⟩
   ·rw [h2] at hl;exact c.fit.live n r loc h1 hl
   ·rw [h3] at hl;obtain ⟨g1,g2⟩:=h.fit.live e r0 loc h4 hl;refine ⟨Ebd g1 c.size,fun hi=>?_⟩;rcases c.imnew _ hi with g | g | g
    ·exact g2 g
    ·omega
    ·obtain ⟨d,r,loc',k1,⟨n,k2⟩,k3,k4⟩:=hpass _ g;exact h.fit.apart d r e r0 loc' loc k1 h4 (fun hc=>by subst hc;rw [h1] at k2;cases k2) k3 hl k4
  ·
   have new_old:∀ n r e r0 l1 l2,(n,r)∈rs'->β' n=some l1->(e,r0)∈s.regs->upId ρ e=none->β e=some l2->l1.blk≠l2.blk:=by
    intro n r e r0 l1 l2 g1 g2 g3 g4 g5;rcases hsrc n r l1 g1 g2 with g | ⟨d,r1,loc',k1,⟨m,k2⟩,k3,k4⟩
    ·have:=(h.fit.live e r0 l2 g3 g5).1;omega
    ·rw [<- k4];exact h.fit.apart d r1 e r0 loc' l2 k1 g3 (fun hc=>by subst hc;rw [g4] at k2;cases k2) k3 g5
   rcases hreg e q hq with ⟨n,r,g1,g2,rfl,g4⟩ | ⟨g1,g2,g3,r0,g4,rfl⟩ <;> rcases hreg e' q' hq' with ⟨n',r',k1,k2,rfl,k4⟩ | ⟨k1,k2,k3,r0',k4,rfl⟩
   ·rw [g2] at h1;rw [k2] at h2;refine c.fit.apart n r n' r' l1 l2 g1 k1 (fun hc=>?_) h1 h2;subst hc;rcases g4 with ⟨g5,g6⟩ | ⟨g5,g6⟩ <;> rcases k4 with ⟨k5,k6⟩ | ⟨k5,k6⟩
    ·rw [g6] at k6;exact hne (Ea3 k6)
    ·have:=hρ.ge e' n k5;omega
    ·have:=hρ.ge e n g5;omega
    ·exact hne (hρ.inj e e' n g5 k5)
   ·rw [g2] at h1;rw [k3] at h2;exact new_old n r e' r0' l1 l2 g1 h1 k4 k1 h2
   ·rw [g3] at h1;rw [k2] at h2;exact Ne.symm (new_old n' r' e r0 l2 l1 k1 h2 g4 g1 h1)
   ·rw [g3] at h1;rw [k3] at h2;exact h.fit.apart e r0 e' r0' l1 l2 g4 k4 hne h1 h2
 refine { fit:=fit,os:=c.os.trans h.os,tape:=c.tape.trans h.tape,output:=c.output.trans h.output,size:=Nat.le_trans h.size c.size,block:=fun k hk hm=>?_,imin:=fun b hb=>c.imin b (h.imin b hb),imnew:=fun b hb=>?_,regnew:=fun e q loc hq hl=>?_,fixed:=fun d hd hd'=>?_,glob:=Γ.mono hkeeps h.glob,mnod:=h.mnod,marks:=fun D hD=>?_ }
 ·rw [hblk k (Ebd hk h.size) fun d r loc h1 _ h3 e=>?_]
  ·exact h.block k hk hm
  ·rcases h.regnew d r loc h1 h3 with g | g
   ·omega
   ·exact hm (e ▸ g)
 ·rcases c.imnew b hb with g | g | g
  ·exact h.imnew b g
  ·exact .inr (.inl (Nat.le_trans h.size g))
  ·obtain ⟨d,r,loc,k1,_,k3,k4⟩:=hpass _ g;rcases h.regnew d r loc k1 k3 with g | g
   ·exact .inr (.inl (k4 ▸ g))
   ·exact .inr (.inr (k4 ▸ g))
 ·rcases hreg e q hq with ⟨n,r,g1,g2,rfl,g4⟩ | ⟨g1,g2,g3,r0,g4,rfl⟩
  ·rw [g2] at hl;rcases hsrc n r loc g1 hl with g | ⟨d,r1,loc',k1,_,k3,k4⟩
   ·exact .inl (Nat.le_trans h.size g)
   ·rw [<- k4];exact h.regnew d r1 loc' k1 k3
  ·rw [g3] at hl;exact h.regnew e r0 loc g4 hl
 ·rw [<- h.fixed d hd hd'];unfold C3;rw [if_neg (fun hc=>by have:=hnw d hc;omega)];split
  ·rename_i n hn;rw [c.env n (hρ.ge d n hn) (hρ.fix d n hn hd hd'),D1 hρ hn]
  ·rfl
 ·obtain ⟨m1,m2,m3,m4⟩:=h.marks D hD;have hlt:=(Ea5.1 m1).1;refine ⟨(hblk D hlt fun d r loc h1 _ h3 e=>m4 d r loc h1 h3 e).trans m1,fun hi=>?_,m3,fun e q loc hq hl=>?_⟩
  ·rcases c.imnew D hi with g | g | g
   ·exact m2 g
   ·omega
   ·obtain ⟨d,r,loc,k1,_,k3,k4⟩:=hpass _ g;exact m4 d r loc k1 k3 k4
  ·rcases hreg e q hq with ⟨n,r,g1,g2,rfl,g4⟩ | ⟨g1,g2,g3,r0,g4,rfl⟩
   ·rw [g2] at hl;rcases hsrc n r loc g1 hl with g | ⟨d,r1,loc',k1,_,k3,k4⟩
    ·omega
    ·rw [<- k4];exact m4 d r1 loc' k1 k3
   ·rw [g3] at hl;exact m4 e r0 loc g4 hl
def L.ids:L->List Nat
 | .ptr d _ _=>[d]
 | .own d _ _=>[d]
 | .fn _ ds=>ds
 | .cfn _ ds=>ds
 | .mref d=>[d]
 | _=>[]
def Reg.ids:Reg->List Nat
 | .var _ cs=>cs.flatMap L.ids
 | .row ..=>[]
 | .lrow _ _ _ es=>es.flatMap fun e=>e.flatMap L.ids
 | .obj _=>[]
def Dj (old:List Nat):List Nat->List Nat
 | []=>[]
 | d :: ds=>if old.contains d=true then Dj old ds else d :: Dj (d :: old) ds
def F3 (ids:List Nat):Regs->List Nat
 | []=>[]
 | (d,r) :: rest=>if ids.contains d=true then r.ids ++ F3 ids rest else F3 ids rest
def Gw (k:Nat):List Nat->Ren
 | []=>[]
 | d :: ds=>if k<400000 then (d,1000+k) :: Gw (k+1) ds else []
def Ff (k:Nat):List Nat->Ren
 | []=>[]
 | d :: ds=>if k<400000 then (d,if 1000<=d/\d<500000 then 1000+k else 500000+k) :: Ff (k+1) ds else []
def P0 (D I:List Nat):Ren:=Gw 0 D ++ Ff D.length I
def Nr (D:List Nat) (rs:Regs):List Nat:=Dj D (F3 D rs)
def Ve (D I:List Nat) (rs:Regs):List Nat:=I ++ Dj (D ++ I) (F3 I rs)
def Ra (D:List Nat) (rs:Regs):Ren:=match D with
 | []=>[]
 | _=>P0 D (Ve D (Nr D rs) rs)
def O3 (k:Nat):Ren->Prop
 | []=>True
 | (d,n) :: ρ=>(n=1000+k/\k<400000\/(n=500000+k/\¬ (1000<=d/\d<500000)/\k<400000))/\O3 (k+1) ρ
theorem Jc2:∀ (ds:List Nat) (k:Nat),O3 k (Ff k ds)
 | [],_=>trivial
 | d :: ds,k=>by
  simp only [Ff];split
  ·rename_i hk;refine ⟨?_,Jc2 ds (k+1)⟩;split
   ·exact .inl ⟨rfl,hk⟩
   ·rename_i h;exact .inr ⟨rfl,h,hk⟩
  ·trivial
theorem Jdd:∀ (ds es:List Nat) (k:Nat),O3 k (Gw k ds ++ Ff (k+ds.length) es)
 | [],es,k=>by simpa [Gw] using Jc2 es k
 | d :: ds,es,k=>by
  simp only [Gw];split
  ·rename_i hk;have:=Jdd ds es (k+1);rw [Ebx,Ecr 1] at this;exact ⟨.inl ⟨rfl,hk⟩,this⟩
  ·rename_i hk;have:Ff (k+(d :: ds).length) es=[]:=by
    cases es with
    | nil=>rfl
    | cons=>simp only [Ff];rw [if_neg (by simp;omega)]
   rw [this];trivial
theorem Ka:∀ {ρ:Ren} {k:Nat},O3 k ρ->∀ d n,upId ρ d=some n->1000<=n/\(n<500000->1000+k<=n)/\(500000<=n->500000+k<=n)/\(1000<=d->d<500000->n<500000)
 | [],_,_,d,n,h=>by cases h
 | (e,m) :: ρ,k,hk,d,n,h=>by
  simp only [upId] at h;split at h
  ·rename_i he;subst he;cases h;rcases hk.1 with ⟨h1,h2⟩ | ⟨h1,h2,h3⟩
   ·exact ⟨by omega,by omega,by omega,by omega⟩
   ·exact ⟨by omega,by omega,by omega,fun a b=>absurd ⟨a,b⟩ h2⟩
  ·obtain ⟨h1,h2,h3,h4⟩:=Ka hk.2 d n h;exact ⟨h1,by omega,by omega,h4⟩
theorem O9:∀ {ρ:Ren} {k:Nat},O3 (k+1) ρ->k<400000->∀ d,upId ρ d≠some (1000+k)/\upId ρ d≠some (500000+k):=by
 intro ρ k h hk d;constructor
 ·intro hc;obtain ⟨_,h2,_⟩:=Ka h d _ hc;have:=h2 omg;omega
 ·intro hc;obtain ⟨_,_,h3,_⟩:=Ka h d _ hc;have:=h3 omg;omega
theorem Jc7:∀ {ρ:Ren} {k:Nat},O3 k ρ->(ρ.map (·.1)).Nodup->∀ n d,dnId ρ n=some d ↔ upId ρ d=some n
 | [],_,_,_,n,d=>by simp [dnId,upId]
 | (e,m) :: ρ,k,hk,hn,n,d=>by
  simp only [Eat,Eb0] at hn;simp only [dnId,upId];have hin:∀ {ρ:Ren} {a b},upId ρ a=some b->a∈ρ.map (·.1):=by
   intro ρ
   induction ρ with
   | nil=>intro a b h;cases h
   | cons x ρ ih =>
    intro a b h;simp only [upId] at h;split at h
    ·rename_i he;subst he;exact Eaf
    ·exact Eag _ (ih h)
  have hm:∀ d,upId ρ d≠some m:=by
   intro d;rcases hk.1 with ⟨h1,h2⟩ | ⟨h1,_,h2⟩
   ·rw [h1];exact (O9 hk.2 h2 d).1
   ·rw [h1];exact (O9 hk.2 h2 d).2
  split
  ·rename_i h;subst h;constructor
   ·intro h;cases h;simp
   ·intro h;split at h
    ·rename_i he;rw [he]
    ·exact absurd h (hm d)
  ·rename_i h;rw [Jc7 hk.2 hn.2 n d];split
   ·rename_i he;subst he;constructor
    ·intro h';exact absurd (hin h') hn.1
    ·intro h';cases h';exact absurd rfl h
   ·exact Iff.rfl
theorem Tc {ρ:Ren} {k:Nat} (h:O3 k ρ) (hn:(ρ.map (·.1)).Nodup):RenOK ρ where
 inj d d' n h1 h2:=by
  have e1:=(Jc7 h hn n d).2 h1;have e2:=(Jc7 h hn n d').2 h2;rw [e1] at e2;exact Ea3 e2
 ge d n hd:=(Ka h d n hd).1
 fix d n hd h1 h2:=(Ka h d n hd).2.2.2 h1 h2
 back:=Jc7 h hn
theorem G4:∀ (ds old:List Nat),(Dj old ds).Nodup/\∀ d∈Dj old ds,d ∉ old
 | [],_=>⟨.nil,fun d h=>by cases h⟩
 | d :: ds,old=>by
  simp only [Dj];split
  ·exact G4 ds old
  ·rename_i hd;obtain ⟨h1,h2⟩:=G4 ds (d :: old);refine ⟨Eb0.2 ⟨fun h=>h2 d h Eaf,h1⟩,fun e he=>?_⟩;rcases Eaj.1 he with rfl | he
   ·simpa using hd
   ·exact fun h=>h2 e he (Eag _ h)
theorem Pn:∀ (ds:List Nat) (k:Nat),((Gw k ds).map (·.1)).Sublist ds
 | [],_=>.slnil
 | d :: ds,k=>by
  simp only [Gw];split
  ·exact (Pn ds (k+1)).cons_cons d
  ·exact List.nil_sublist _
theorem Pd:∀ (ds:List Nat) (k:Nat),((Ff k ds).map (·.1)).Sublist ds
 | [],_=>.slnil
 | d :: ds,k=>by
  simp only [Ff];split
  ·exact (Pd ds (k+1)).cons_cons d
  ·exact List.nil_sublist _
theorem Jki (ids:List Nat) (rs:Regs):RenOK (Ra (Dj [] ids) rs):=by
 have nil:RenOK [] :=
  {
   inj:=fun d d' n h=>nomatch h
   ge:=fun d n h=>nomatch h
   fix:=fun d n h=>nomatch h
   back:=fun n d=>by simp [dnId,upId] }
 unfold Ra;split
 ·exact nil
 ·refine Tc (k:=0) ?_ ?_
  ·have:=Jdd (Dj [] ids) (Ve (Dj [] ids) (Nr (Dj [] ids) rs) rs) 0
   rwa [Ebk] at this
  ·unfold P0;rw [Ebu];refine List.Nodup.sublist ((Pn _ _).append (Pd _ _)) ?_;obtain ⟨a1,a2⟩:=G4 ids [];obtain ⟨b1,b2⟩:=G4 (F3 (Dj [] ids) rs) (Dj [] ids);obtain ⟨c1,c2⟩:=G4 (F3 (Nr (Dj [] ids) rs) rs) (Dj [] ids ++ Nr (Dj [] ids) rs);refine Ecc.2 ⟨a1,Ecc.2 ⟨b1,c1,fun x hx y hy e=>?_⟩,fun x hx y hy e=>?_⟩
   ·subst e;exact c2 x hy (Eb8 _ hx)
   ·subst e;rcases Eau.1 hy with hy | hy
    ·exact b2 x hy hx
    ·exact c2 x hy (Eb7 _ hx)
end
end Go.LX
