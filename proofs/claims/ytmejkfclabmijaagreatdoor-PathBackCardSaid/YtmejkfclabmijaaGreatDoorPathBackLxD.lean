/- States that say less; names of regions changed. -/
import Derived.Test.YtmejkfclabmijaaGreatDoorPathBackLxC
import Derived.Test.YtmejkfclabmijaaGreatDoorProg
import Derived.RangeFuncLeaves
import Derived.RangeFuncRecord
set_option linter.unusedSimpArgs false
set_option linter.unusedVariables false
set_option linter.unusedSectionVars false
set_option linter.unnecessarySimpa false
namespace Go.LX
open Go Go.RowKit Go.Proofs
def LLe (l l':L):Prop:=l'=.junk∨l=l'∨(l=.p .snil∧l'=.p (.sl []))
def Dg:List L→List L→Prop
 | [],[]=>True
 | l :: r,l' :: r'=>LLe l l'∧Dg r r'
 | _,_=>False
def Jms:List (List L)→List (List L)→Prop
 | [],[]=>True
 | e :: r,e' :: r'=>Dg e e'∧Jms r r'
 | _,_=>False
def Eo:Reg→Reg→Prop
 | .var T cs,.var T' cs'=>T=T'∧Dg cs cs'
 | .row T sz es,.row T' sz' es'=>T=T'∧sz=sz'∧es=es'
 | .row T sz es,.lrow T' sz' f es'=>T=T'∧sz=sz'∧f=false∧es'=es.map fun e=>e.map L.p
 | .lrow T sz f es,.lrow T' sz' f' es'=>T=T'∧sz=sz'∧(f'=true→f=true)∧Jms es es'
 | .lrow T sz _ es,.row T' sz' es'=>T=T'∧sz=sz'∧J0 es=some es'
 | .obj o,.obj o'=>o=o'
 | _,_=>False
def Dj (rs:Regs):Regs→Prop
 | []=>True
 | (d,r') :: rest=>(match Bh d rs with | some r=>Eo r r' | none=>False)∧Dj rs rest
def Dk:Regs→Prop
 | []=>True
 | (d,_) :: rest=>d ∉ rest.map (·.1)∧Dk rest
theorem Au (l:L):LLe l .junk:=.inl rfl
theorem Bc (l:L):LLe l l:=.inr (.inl rfl)
theorem Cq (x y:PV):LLe (.p x) (.p y) ↔ (x=y∨(x=.snil∧y=.sl [])):=by
 simp [LLe]
theorem LLe.rep {β:Env} {w:World} {Im:Nat→Prop} {v:Value} {l l':L} (h:LLe l l') (hr:LRep β w Im v l):LRep β w Im v l':=by
 rcases h with rfl | rfl | ⟨rfl,rfl⟩
 ·trivial
 ·exact hr
 ·cases hr;exact PRep.slNil
theorem Pk:∀ {a b:List L},Dg a b→a.length=b.length∧∀ (i:Nat) (l':L),b[i]? = some l'→∃ l,a[i]? = some l∧LLe l l'
 | [],[],_=>⟨rfl,fun i l' h=>by simp at h⟩
 | x :: a,y :: b,h=>by
  obtain ⟨h1,h2⟩:=h
  obtain ⟨h3,h4⟩:=Pk h2
  refine ⟨by simp [h3],fun i l' hl=>?_⟩
  cases i with
  | zero=>simp at hl;subst hl;exact ⟨x,rfl,h1⟩
  | succ i=>simp at hl;simpa using h4 i l' hl
 | [],_ :: _,h=>h.elim
 | _ :: _,[],h=>h.elim
theorem LLe.cell {l l':L} (h:LLe l l') (hc:l.cellOK=true∨l=.junk):l'.cellOK=true∨l'=.junk:=by
 rcases h with rfl | rfl | ⟨rfl,rfl⟩
 ·exact .inr rfl
 ·exact hc
 ·exact .inl rfl
theorem Jai:∀ {a b:List (List L)},Jms a b→a.length=b.length∧∀ (i:Nat) (e':List L),b[i]? = some e'→∃ e,a[i]? = some e∧Dg e e'
 | [],[],_=>⟨rfl,fun i l' h=>by simp at h⟩
 | x :: a,y :: b,h=>by
  obtain ⟨h1,h2⟩:=h
  obtain ⟨h3,h4⟩:=Jai h2
  refine ⟨by simp [h3],fun i l' hl=>?_⟩
  cases i with
  | zero=>simp at hl;subst hl;exact ⟨x,rfl,h1⟩
  | succ i=>simp at hl;simpa using h4 i l' hl
 | [],_ :: _,h=>h.elim
 | _ :: _,[],h=>h.elim
theorem Eo.rep {β:Env} {w:World} {Im:Nat→Prop} {d:Nat} {r r':Reg} (h:Eo r r') (hr:Kc β w Im d r):Kc β w Im d r':=by
 cases r <;> cases r' <;> simp only [Eo] at h
 ·obtain ⟨rfl,h⟩:=h
  obtain ⟨h1,h2⟩:=Pk h
  obtain ⟨loc,cur,g1,g2,g3,g4,g5,g6⟩:=hr
  refine ⟨loc,cur,g1,by rw [← h1];exact g2,g3,g4,by rw [← h1];exact g5,fun j v l hv hl=>?_⟩
  obtain ⟨l0,hl0,hle⟩:=h2 j l hl
  exact ⟨hle.rep (g6 j v l0 hv hl0).1,hle.cell (g6 j v l0 hv hl0).2⟩
 ·obtain ⟨rfl,rfl,rfl⟩:=h
  exact hr
 ·obtain ⟨rfl,rfl,rfl,rfl⟩:=h
  rcases hr with ⟨g1,g2⟩ | ⟨loc,cur,g1,g2,g3,g4,g5,g6,g7,g8⟩
  ·exact .inl ⟨g1,by simp [g2]⟩
  ·refine .inr ⟨loc,cur,g1,g2,g3,g4,by simpa using g5,fun h=>(by cases h),g6,fun e he=>?_,fun i e j l hi hj=>?_⟩
   ·obtain ⟨x,hx,rfl⟩:=List.mem_map.1 he
    simpa using (g7 x hx).1
   ·rw [List.getElem?_map] at hi
    obtain ⟨x,hx,rfl⟩:=Option.map_eq_some_iff.1 hi
    rw [List.getElem?_map] at hj
    obtain ⟨p,hp,rfl⟩:=Option.map_eq_some_iff.1 hj
    obtain ⟨v,hv,hpr⟩:=g8 i x j p hx hp
    exact ⟨v,hv,hpr,.inl ((g7 x (List.mem_of_getElem? hx)).2 p (List.mem_of_getElem? hp))⟩
 ·obtain ⟨rfl,rfl,h⟩:=h
  obtain ⟨h1,h2⟩:=M7 h
  rcases hr with ⟨g1,g2⟩ | ⟨loc,cur,g1,g2,g3,g4,g5,g6,g7,g8,g9⟩
  ·subst g2
   exact .inl ⟨g1,List.eq_nil_of_length_eq_zero (by simpa using h1.symm)⟩
  ·have key:∀ (i:Nat) (q:List PV) (j:Nat) (p:PV),‹List (List PV)›[i]? = some q→q[j]? = some p→∃ e,‹List (List L)›[i]? = some e∧e[j]? = some (.p p)∧e.length=q.length:=by
    intro i q j p hi hj
    obtain ⟨e,he,ha⟩:=h2 i q hi
    obtain ⟨k1,k2⟩:=Gk ha
    obtain ⟨l,hl⟩:=getElem?_of_length k1 hj
    have:=pure?_spec (k2 j l p hl hj)
    subst this
    exact ⟨e,he,hl,k1⟩
   refine .inr ⟨loc,cur,g1,g2,g3,g4,by rw [← h1];exact g5,g7,fun q hq=>?_,fun i q j p hi hj=>?_⟩
   ·obtain ⟨i,hi,rfl⟩:=List.getElem_of_mem hq
    obtain ⟨e,he,ha⟩:=h2 i _ (List.getElem?_eq_getElem hi)
    obtain ⟨k1,k2⟩:=Gk ha
    refine ⟨by rw [← k1];exact g8 e (List.mem_of_getElem? he),fun p hp=>?_⟩
    obtain ⟨j,hj,rfl⟩:=List.getElem_of_mem hp
    obtain ⟨e',he',hl',_⟩:=key i _ j _ (List.getElem?_eq_getElem hi) (List.getElem?_eq_getElem hj)
    obtain ⟨v,_,_,hc⟩:=g9 i e' j _ he' hl'
    rcases hc with hc | hc
    ·exact hc
    ·cases hc
   ·obtain ⟨e',he',hl',_⟩:=key i q j p hi hj
    obtain ⟨v,hv,hp,_⟩:=g9 i e' j _ he' hl'
    exact ⟨v,hv,hp⟩
 ·obtain ⟨rfl,rfl,hf,h⟩:=h
  obtain ⟨h1,h2⟩:=Jai h
  rcases hr with ⟨g1,g2⟩ | ⟨loc,cur,g1,g2,g3,g4,g5,g6,g7,g8,g9⟩
  ·subst g2
   exact .inl ⟨g1,List.eq_nil_of_length_eq_zero (by simpa using h1.symm)⟩
  ·refine .inr ⟨loc,cur,g1,g2,g3,g4,by rw [← h1];exact g5,fun h=>by rw [← h1];exact g6 (hf h),g7,fun q hq=>?_,fun i q j l hi hj=>?_⟩
   ·obtain ⟨i,hi,rfl⟩:=List.getElem_of_mem hq
    obtain ⟨e,he,hle⟩:=h2 i _ (List.getElem?_eq_getElem hi)
    rw [← (Pk hle).1]
    exact g8 e (List.mem_of_getElem? he)
   ·obtain ⟨e,he,hle⟩:=h2 i q hi
    obtain ⟨l0,hl0,hl⟩:=(Pk hle).2 j l hj
    obtain ⟨v,hv,hr,hc⟩:=g9 i e j l0 he hl0
    exact ⟨v,hv,hl.rep hr,hl.cell hc⟩
 ·subst h
  exact hr
theorem Mr {rs:Regs}:∀ {rs':Regs},Dj rs rs'→∀ d r',(d,r')∈rs'→∃ r,(d,r)∈rs∧Eo r r'
 | [],_,d,r',h=>by cases h
 | (e,q) :: rest,h,d,r',hm=>by
  obtain ⟨h1,h2⟩:=h
  rcases List.mem_cons.1 hm with hm | hm
  ·cases hm
   split at h1
   ·rename_i r hr;exact ⟨r,C3 hr,h1⟩
   ·exact h1.elim
  ·exact Mr h2 d r' hm
theorem Xz:∀ {rs:Regs},Dk rs→(rs.map (·.1)).Nodup
 | [],_=>.nil
 | (d,r) :: rest,h=>by simp only [List.map_cons,List.nodup_cons];exact ⟨h.1,Xz h.2⟩
theorem St.le_of {s s':St} (ht:Dg s.tmps s'.tmps) (hr:Dj s.regs s'.regs) (hk:Dk s'.regs):s.Le s':=by
 rintro Γ a w ⟨ms,hdef,β,Im,hx⟩
 obtain ⟨h1,h2⟩:=Pk ht
 refine ⟨ms,hdef,β,Im,{ hx with fit:={ size:=by rw [← h1];exact hx.fit.size,tmps:=fun i l hl=>?_,regs:=fun d r hd=>?_,nodup:=Xz hk,live:=fun d r loc hd hl=>?_,apart:=fun d r d' r' l1 l2 hd hd' hne hl hl'=>?_,im:=hx.fit.im },regnew:=fun d r loc hd hl=>?_,marks:=fun D hD=>?_ }⟩
 ·obtain ⟨l0,hl0,hle⟩:=h2 i l hl
  exact hle.rep (hx.fit.tmps i l0 hl0)
 ·obtain ⟨r0,h3,h4⟩:=Mr hr d r hd
  exact h4.rep (hx.fit.regs d r0 h3)
 ·obtain ⟨r0,h3,h4⟩:=Mr hr d r hd
  exact hx.fit.live d r0 loc h3 hl
 ·obtain ⟨r0,h3,_⟩:=Mr hr d r hd
  obtain ⟨r1,h4,_⟩:=Mr hr d' r' hd'
  exact hx.fit.apart d r0 d' r1 l1 l2 h3 h4 hne hl hl'
 ·obtain ⟨r0,h3,h4⟩:=Mr hr d r hd
  exact hx.regnew d r0 loc h3 hl
 ·obtain ⟨m1,m2,m3,m4⟩:=hx.marks D hD
  refine ⟨m1,m2,m3,fun d r loc hd hl=>?_⟩
  obtain ⟨r0,h3,_⟩:=Mr hr d r hd
  exact m4 d r0 loc h3 hl
def O3 (d d' e:Nat):Option Nat:=if e=d then some d' else if e=d' then none else some e
def N5 (d d':Nat):Regs→Regs
 | []=>[]
 | (e,r) :: rest=>match O3 d d' e with
  | some n=>(n,r.map (O3 d d')) :: N5 d d' rest
  | none=>N5 d d' rest
def St.ren (d d':Nat) (s:St):St:=⟨s.tmps.map (L.map (O3 d d')),N5 d d' s.regs⟩
theorem Lf {d d' n:Nat} {q:Reg}:∀ {rs:Regs},(n,q)∈N5 d d' rs→∃ e r,(e,r)∈rs∧O3 d d' e=some n∧q=r.map (O3 d d')
 | [],h=>by cases h
 | (e,r) :: rest,h=>by
  simp only [N5] at h
  split at h
  ·rename_i m hm
   rcases List.mem_cons.1 h with h | h
   ·cases h;exact ⟨e,r,List.mem_cons_self,hm,rfl⟩
   ·obtain ⟨e',r',h1,h2,h3⟩:=Lf h;exact ⟨e',r',List.mem_cons_of_mem _ h1,h2,h3⟩
  ·obtain ⟨e',r',h1,h2,h3⟩:=Lf h;exact ⟨e',r',List.mem_cons_of_mem _ h1,h2,h3⟩
theorem Jpr {d d' e e' n:Nat} (h:O3 d d' e=some n) (h':O3 d d' e'=some n):e=e':=by
 unfold O3 at h h'
 split at h <;> split at h'
 ·omega
 ·split at h' <;> simp_all
 ·split at h <;> simp_all
 ·split at h <;> split at h' <;> simp_all
theorem Sa {d d':Nat}:∀ {rs:Regs},(rs.map (·.1)).Nodup→((N5 d d' rs).map (·.1)).Nodup
 | [],_=>.nil
 | (e,r) :: rest,h=>by
  simp only [List.map_cons,List.nodup_cons] at h
  simp only [N5]
  split
  ·rename_i n hn
   simp only [List.map_cons,List.nodup_cons]
   refine ⟨fun hm=>?_,Sa h.2⟩
   obtain ⟨⟨n',q⟩,hq,he⟩:=List.mem_map.1 hm
   simp only at he
   subst he
   obtain ⟨e',r',h1,h2,_⟩:=Lf hq
   exact h.1 (List.mem_map.2 ⟨(e',r'),h1,Jpr h2 hn⟩)
  ·exact Sa h.2
theorem St.le_ren (s:St) {d d':Nat} (hd':d'<1000∨500000≤d'):s.Le (s.ren d d'):=by
 rintro Γ a w ⟨ms,hdef,β,Im,hx⟩
 have hf:∀ e n,O3 d d' e=some n→Env.upd β d' (β d) n=β e:=by
  intro e n h
  unfold O3 at h
  split at h
  ·rename_i he;subst he;cases h;exact I8
  ·split at h
   ·cases h
   ·rename_i h1 h2;cases h;exact Ys h2
 refine ⟨ms,hdef,Env.upd β d' (β d),Im,{ hx with fit:={ size:=by simpa [St.ren] using hx.fit.size,tmps:=fun i l hl=>?_,regs:=fun n q hm=>?_,nodup:=Sa hx.fit.nodup,live:=fun n q loc hm hl=>?_,apart:=fun n q n' q' l1 l2 hm hm' hne hl hl'=>?_,im:=hx.fit.im },regnew:=fun n q loc hm hl=>?_,fixed:=fun e he he'=>by rw [Ys (by omega)];exact hx.fixed e he he',marks:=fun D hD=>?_ }⟩
 ·simp only [St.ren,List.getElem?_map] at hl
  obtain ⟨l1,hl1,rfl⟩:=Option.map_eq_some_iff.1 hl
  exact (hx.fit.tmps i l1 hl1).map hf
 ·obtain ⟨e,r,h1,h2,rfl⟩:=Lf hm
  exact (hx.fit.regs e r h1).map hf (hf e n h2)
 ·obtain ⟨e,r,h1,h2,rfl⟩:=Lf hm
  rw [hf e n h2] at hl
  exact hx.fit.live e r loc h1 hl
 ·obtain ⟨e,r,h1,h2,rfl⟩:=Lf hm
  obtain ⟨e',r',k1,k2,rfl⟩:=Lf hm'
  rw [hf e n h2] at hl
  rw [hf e' n' k2] at hl'
  exact hx.fit.apart e r e' r' l1 l2 h1 k1 (fun hc=>hne (by subst hc;rw [h2] at k2;exact Option.some.inj k2)) hl hl'
 ·obtain ⟨e,r,h1,h2,rfl⟩:=Lf hm
  rw [hf e n h2] at hl
  exact hx.regnew e r loc h1 hl
 ·obtain ⟨m1,m2,m3,m4⟩:=hx.marks D hD
  refine ⟨m1,m2,m3,fun n q loc hm hl=>?_⟩
  obtain ⟨e,r,h1,h2,rfl⟩:=Lf hm
  rw [hf e n h2] at hl
  exact m4 e r loc h1 hl
def St.nilReg (d:Nat) (T:TypeId) (sz:Nat) (s:St):St:=⟨s.tmps.map (L.forget d),(d,.row T sz []) :: Kz d s.regs⟩
theorem RRx.nilReg {Γ:Base} {β:Env} {Im:Nat→Prop} {s:St} {tmps:Array Value} {w:World} (h:RRx Γ β Im s tmps w) {d:Nat} (hd:d<1000∨500000≤d) (T:TypeId) (sz:Nat):RRx Γ (Env.upd β d none) Im (s.nilReg d T sz) tmps w:=by
 have hβ:∀ e,e≠d→Env.upd β d none e=β e:=fun e he=>Ys he
 have h2:=h.fit.forget (d:=d) hβ
 refine { h with fit:={ h2 with regs:=fun e q hq=>?_,nodup:=?_,live:=fun e q loc hq hl=>?_,apart:=fun e q e' q' loc loc' hq hq' hne hl hl'=>?_ },regnew:=fun e q loc hq hl=>?_,fixed:=fun e he he'=>by rw [hβ e (by omega)];exact h.fixed e he he',marks:=fun D hD=>?_ }
 ·rcases List.mem_cons.1 hq with hq | hq
  ·cases hq;exact .inl ⟨I8,rfl⟩
  ·exact h2.regs e q hq
 ·simp only [St.nilReg,List.map_cons,List.nodup_cons]
  refine ⟨fun hm=>?_,h2.nodup⟩
  obtain ⟨⟨e,q⟩,hq,he⟩:=List.mem_map.1 hm
  exact (Hj hq).1 he
 ·rcases List.mem_cons.1 hq with hq | hq
  ·cases hq;rw [I8] at hl;cases hl
  ·exact h2.live e q loc hq hl
 ·rcases List.mem_cons.1 hq with hq | hq
  ·cases hq;rw [I8] at hl;cases hl
  ·rcases List.mem_cons.1 hq' with hq' | hq'
   ·cases hq';rw [I8] at hl';cases hl'
   ·exact h2.apart e q e' q' loc loc' hq hq' hne hl hl'
 ·rcases List.mem_cons.1 hq with hq | hq
  ·cases hq;rw [I8] at hl;cases hl
  ·obtain ⟨h3,q',h4,rfl⟩:=Hj hq
   rw [hβ e h3] at hl
   exact h.regnew e q' loc h4 hl
 ·obtain ⟨m1,m2,m3,m4⟩:=h.marks D hD
  refine ⟨m1,m2,m3,fun e q loc hq hl=>?_⟩
  rcases List.mem_cons.1 hq with hq | hq
  ·cases hq;rw [I8] at hl;cases hl
  ·obtain ⟨h3,q',h4,rfl⟩:=Hj hq
   rw [hβ e h3] at hl
   exact m4 e q' loc h4 hl
def St.nilOwn (i d:Nat) (T:TypeId) (sz:Nat) (s:St):St:=(s.nilReg d T sz).put (some i) (.own d 0 0)
theorem St.le_nilOwn (s:St) {i d:Nat} (T:TypeId) (sz:Nat) (hd:d<1000∨500000≤d) (hi:s.tmps[i]? = some (.p .snil)):s.Le (s.nilOwn i d T sz):=by
 rintro Γ a w ⟨ms,hdef,β,Im,hx⟩
 have h1:=hx.nilReg hd T sz
 have hrep:=hx.fit.tmps i _ hi
 have hlt:=(List.getElem?_eq_some_iff.1 hi).1
 have hv:a.tmps.getD i undef=.slice none 0 0:=by generalize a.tmps.getD i undef=v at hrep;cases hrep;rfl
 have h2:RRx (Γ.wm ms) (Env.upd β d none) Im (s.nilOwn i d T sz) (a.put (some i) (.slice none 0 0)).tmps w:=h1.put (some i) (l:=.own d 0 0) (.inr ⟨I8,rfl,rfl,rfl⟩)
 have e:(a.put (some i) (.slice none 0 0)).tmps=a.tmps:=by
  simp only [Act.put]
  have hsz:i<a.tmps.size:=by rw [hx.fit.size];exact hlt
  have:a.tmps[i]=.slice none 0 0:=by rw [← hv];simp [Array.getD_eq_getD_getElem?,hsz]
  rw [← Array.toList_inj]
  simp only [Array.toList_setIfInBounds]
  rw [← this]
  exact List.set_getElem_self (by simpa using hsz)
 rw [e] at h2
 exact ⟨ms,hdef,_,_,h2⟩
def X9 (j:Nat) (l:L):Reg→Reg
 | .var T cs=>.var T (cs.set j l)
 | r=>r
def St.nilCell (b j d:Nat) (T:TypeId) (sz:Nat) (s:St):St :=
 match Bh b (s.nilReg d T sz).regs with
 | some r=>{ (s.nilReg d T sz) with regs:=H6 b (X9 j (.own d 0 0) r) (s.nilReg d T sz).regs }
 | none=>s.nilReg d T sz
theorem St.le_nilCell (s:St) {b j d:Nat} (T:TypeId) (sz:Nat) (hd:d<1000∨500000≤d) {T':TypeId} {cs:List L} (hb:Bh b (s.nilReg d T sz).regs=some (.var T' cs)) (hj:cs[j]? = some (.p .snil)):s.Le (s.nilCell b j d T sz):=by
 rintro Γ a w ⟨ms,hdef,β,Im,hx⟩
 have h1:=hx.nilReg hd T sz
 have hmem:=C3 hb
 obtain ⟨loc,cur,g1,g2,g3,g4,g5,g6⟩:=h1.fit.regs b _ hmem
 have hreg:Kc (Env.upd β d none) w Im b (.var T' (cs.set j (.own d 0 0))):=by
  refine ⟨loc,cur,g1,by simpa using g2,g3,g4,by simpa using g5,fun k v l hv hl=>?_⟩
  rw [List.getElem?_set] at hl
  split at hl
  ·rename_i hk
   subst hk
   split at hl
   ·cases hl
    obtain ⟨h3,_⟩:=g6 j v _ hv hj
    refine ⟨?_,.inl rfl⟩
    have h3':PRep w Im v .snil:=h3
    cases h3'
    exact .inr ⟨I8,rfl,rfl,rfl⟩
   ·cases hl
  ·exact g6 k v l hv hl
 refine ⟨ms,hdef,Env.upd β d none,Im,?_⟩
 have:=h1.store hmem g1 (w':=w) rfl rfl rfl rfl (fun _ _=>rfl) hreg
 simp only [St.nilCell,hb,X9]
 exact this
end Go.LX
namespace Go.LX
open Go Go.RowKit Go.Proofs
def cvF (P:Program) (a b:TypeId) (x:Operand) (dst:Option Tmp) (K:St→Prop) (s:St):Prop:=Ui P a b (s.get x) (kput dst K s)
def cvG (P:Program) (a b:TypeId) (s:St) (x:Operand) (dst:Option Tmp) (K:St→Prop) (l:L):Prop :=
 match l with
 | .ptr d 0 j=>Xi P a b d j (Bh d s.regs) (kput dst K s)
 | .p (.str u)=>Y3 P a b u s dst K
 | _=>cvF P a b x dst K (s.freezeOps [x])
def lnil (l:L) (K:L→Prop):Prop :=
 match l with
 | .ptr d i j=>K (.ptr d i j)
 | .eptr cs=>K (.eptr cs)
 | .fn f ds=>K (.fn f ds)
 | _=>False
def Jcx (l:L) (i:Nat) (K:L→Prop):Prop :=
 match l with
 | .tup xs=>∃ c,xs[i]? = some c∧K (.p c)
 | _=>False
def Joj (l a b:L) (K:L→Prop):Prop :=
 match l with
 | .p (.bool t)=>(t=true→K a)∧(t=false→K b)
 | _=>False
def Jqv (f:FuncId) (cs:List L) (K:L→Prop):Prop:=∃ ds,R3 cs=some ds∧K (.fn f ds)
def Gm (X:Cx) (f:FuncId) (args:List L) (K:L→Prop):Prop:=∃ l,(Bz X f args [] (fun m _=>m=l)∧l.retOK=true)∧K l
def lqvK (P:Program) (r:Regs) (s:St) (op:Op) (K:L→Prop):Prop:=∃ l,lqv P r s.get op l∧K l
section
variable {X:Cx} {ro:Option Nat} {Q:Ex→St→Prop} {K:St→Prop} {t:List L} {r:Regs} {ds:List (Option Tmp)} {rest:List Oper} {ty:TypeId} {ps:String} {af:Array Edge} {dst:Option Tmp}
theorem Dm {c:Code}:lwp X ro (.scope c) Q ⟨t,r⟩=lwp X ro c Q ⟨t,r⟩:=(rfl)
theorem Ch:lwp X ro .skip Q ⟨t,r⟩=Q .normal ⟨t,r⟩:=(rfl)
theorem Ah {id:Nat} {ops:Array Oper}:lwp X ro (.region id ops false) Q ⟨t,r⟩=lops X (ops.toList.map (·.dst)) ops.toList (Q .normal) ⟨t,r⟩:=(rfl)
theorem Bn {a b:Code}:lwp X ro (a.seq b) Q ⟨t,r⟩=lwp X ro a (kseq (lwp X ro b) Q) ⟨t,r⟩:=(rfl)
theorem Bs {c:Operand} {a b:Code}:lwp X ro (.cond c a b) Q ⟨t,r⟩=Jan ((St.mk t r).get c) (lwp X ro a Q) (lwp X ro b Q) ⟨t,r⟩:=(rfl)
theorem Ci {id:Nat} {c:Code}:lwp X ro (.block id c) Q ⟨t,r⟩=lwp X ro c (Zv id Q) ⟨t,r⟩:=(rfl)
theorem H9 {c:Code}:lwp X ro (.loop c) Q ⟨t,r⟩=SWP X ro (.loop c) Q ⟨t,r⟩:=(rfl)
theorem Fd {id:Nat}:lwp X ro (.exit id) Q ⟨t,r⟩=Q (.exit id) ⟨t,r⟩:=(rfl)
theorem Cn:lwp X ro .ret Q ⟨t,r⟩=Q .ret ⟨t,r⟩:=(rfl)
theorem Jn0 {l:Nat}:lwp X ro (.label l) Q ⟨t,r⟩=Q .normal ⟨t,r⟩:=(rfl)
theorem Ab {B:(Ex→St→Prop)→St→Prop}:kseq B Q .normal ⟨t,r⟩=B Q ⟨t,r⟩:=(rfl)
theorem Co {B:(Ex→St→Prop)→St→Prop} {id:Nat}:kseq B Q (.exit id) ⟨t,r⟩=Q (.exit id) ⟨t,r⟩:=(rfl)
theorem Cf {B:(Ex→St→Prop)→St→Prop}:kseq B Q .ret ⟨t,r⟩=Q .ret ⟨t,r⟩:=(rfl)
theorem Bo {id:Nat}:Zv id Q .normal ⟨t,r⟩=Q .normal ⟨t,r⟩:=(rfl)
theorem B4 {id id':Nat}:Zv id Q (.exit id') ⟨t,r⟩=if id'=id then Q .normal ⟨t,r⟩ else Q (.exit id') ⟨t,r⟩:=(rfl)
theorem Ei {id:Nat}:Zv id Q .ret ⟨t,r⟩=Q .ret ⟨t,r⟩:=(rfl)
theorem Bd:lops X ds [] K ⟨t,r⟩=K ⟨t,r⟩:=(rfl)
theorem A0 {op:Op}:lops X ds (⟨dst,op,ty,ps,af,none⟩ :: rest) K ⟨t,r⟩=lop X ⟨dst,op,ty,ps,af,none⟩ (lops X ds rest K) ⟨t,r⟩:=(rfl)
theorem Dq {op:Op} {g:Nat×Bool}:lops X ds (⟨dst,op,ty,ps,af,some g⟩ :: rest) K ⟨t,r⟩=P5 ds (some g) (lop X ⟨dst,op,ty,ps,af,some g⟩ (lops X ds rest K)) (P8 dst (lops X ds rest K)) ⟨t,r⟩:=(rfl)
theorem Nc:Tz X ds [] K ⟨t,r⟩=K ⟨t,r⟩:=(rfl)
theorem J6 {op:Op}:Tz X ds (⟨dst,op,ty,ps,af,none⟩ :: rest) K ⟨t,r⟩=lqc X ⟨t,r⟩ ⟨dst,op,ty,ps,af,none⟩ (kput dst (Tz X ds rest K) ⟨t,r⟩):=(rfl)
theorem N6 {op:Op} {g:Nat×Bool}:Tz X ds (⟨dst,op,ty,ps,af,some g⟩ :: rest) K ⟨t,r⟩=P5 ds (some g) (kq X ⟨dst,op,ty,ps,af,some g⟩ (Tz X ds rest K)) (P8 dst (Tz X ds rest K)) ⟨t,r⟩:=(rfl)
theorem Jhx {o:Oper}:kq X o K ⟨t,r⟩=lqc X ⟨t,r⟩ o (kput o.dst K ⟨t,r⟩):=(rfl)
theorem Bb {d:Tmp} {l:L}:kput (some d) K ⟨t,r⟩ l=K ⟨t.set d l,r⟩:=(rfl)
theorem Ep {d:Tmp}:P8 (some d) K ⟨t,r⟩=K ⟨t.set d (.tup []),r⟩:=(rfl)
theorem Dd:P8 none K ⟨t,r⟩=K ⟨t,r⟩:=(rfl)
theorem Cs {d:Tmp} {l:L}:(St.mk t r).put (some d) l=⟨t.set d l,r⟩:=(rfl)
theorem Jh6:(St.mk t r).tmps=t:=(rfl)
theorem Jhy:(St.mk t r).regs=r:=(rfl)
theorem Be {i:Nat}:(St.mk t r).get (.tmp i)=t.getD i .junk:=(rfl)
theorem Az {v:Value}:(St.mk t r).get (.const v)=Rq v:=(rfl)
theorem Ce {f:FuncId}:(St.mk t r).get (.func f)=.fn f []:=(rfl)
theorem C0 {b:Bool}:Rq (.bool b)=.p (.bool b):=(rfl)
theorem Cb {k:IntKind} {n:Int}:Rq (.int k n)=.p (.int k n):=(rfl)
theorem Hc {a:Array UInt8}:Rq (.string ⟨a⟩)=.p (.str a.toList):=(rfl)
theorem E1:Rq (.slice none 0 0)=.p .snil:=(rfl)
theorem Jlo:Rq (.pointer none)=.p .nptr:=(rfl)
theorem Jmt:Rq (.map none)=.p .nmap:=(rfl)
theorem Ko:Rq .nilIface=.p .nifc:=(rfl)
theorem v_nfn:Rq .nilFunc=.p .nfn:=(rfl)
variable {g:Option (Nat×Bool)} {d:Tmp}
theorem Ba {x:Operand}:lop X ⟨dst,.move x,ty,ps,af,g⟩ K ⟨t,r⟩=kput dst K ⟨t,r⟩ ((St.mk t r).get x):=by cases dst <;> exact (rfl)
theorem Ai {x:Operand}:lop X ⟨dst,.assign x,ty,ps,af,g⟩ K ⟨t,r⟩=kput dst K ⟨t,r⟩ ((St.mk t r).get x):=by cases dst <;> exact (rfl)
theorem B8 {op:BinOp} {tx ty':TypeId} {x y:Operand}:lop X ⟨dst,.binOp op tx x y ty',ty,ps,af,g⟩ K ⟨t,r⟩=lbin X.P op tx (M5 x || M5 y) ((St.mk t r).get x) ((St.mk t r).get y) (kput dst K ⟨t,r⟩):=by cases dst <;> exact (rfl)
theorem Oo {op:UnOp} {tx:TypeId} {x:Operand}:lop X ⟨dst,.unOp op tx x,ty,ps,af,g⟩ K ⟨t,r⟩=lun op ((St.mk t r).get x) (kput dst K ⟨t,r⟩):=by cases dst <;> exact (rfl)
theorem Kq {a b:TypeId} {x:Operand}:lop X ⟨dst,.convert a b x,ty,ps,af,g⟩ K ⟨t,r⟩=cvG X.P a b ⟨t,r⟩ x dst K ((St.mk t r).get x):=by cases dst <;> exact (rfl)
theorem Em {c a b:Operand}:lop X ⟨dst,.pick c a b,ty,ps,af,g⟩ K ⟨t,r⟩=Joj ((St.mk t r).get c) ((St.mk t r).get a) ((St.mk t r).get b) (kput dst K ⟨t,r⟩):=by cases dst <;> exact (rfl)
theorem Wc {x:Operand}:lop X ⟨dst,.nilCheck x,ty,ps,af,g⟩ K ⟨t,r⟩=lnil ((St.mk t r).get x) (kput dst K ⟨t,r⟩):=by cases dst <;> exact (rfl)
theorem D5 {tx:TypeId} {x:Operand}:lop X ⟨dst,.load tx x,ty,ps,af,g⟩ K ⟨t,r⟩=T5 X.P r tx ((St.mk t r).get x) (kput dst K ⟨t,r⟩):=by cases dst <;> exact (rfl)
theorem Gn {tx:TypeId} {a x:Operand}:lop X ⟨dst,.store tx a x,ty,ps,af,g⟩ K ⟨t,r⟩=Zm X.P tx ⟨t,r⟩ a x (P8 dst K):=by cases dst <;> exact (rfl)
theorem C2 {tx:TypeId} {x:Operand} {f:Nat}:lop X ⟨dst,.fieldAddr tx x f,ty,ps,af,g⟩ K ⟨t,r⟩=Mv X.P tx ((St.mk t r).get x) f (kput dst K ⟨t,r⟩):=by cases dst <;> exact (rfl)
theorem Cp {tx:TypeId} {x i:Operand}:lop X ⟨dst,.indexAddr tx x i,ty,ps,af,g⟩ K ⟨t,r⟩=Lx X.P r tx ((St.mk t r).get x) ((St.mk t r).get i) (kput dst K ⟨t,r⟩):=by cases dst <;> exact (rfl)
theorem Qe {tx:TypeId} {x i:Operand}:lop X ⟨dst,.index tx x i,ty,ps,af,g⟩ K ⟨t,r⟩=Tu X.P tx ((St.mk t r).get x) ((St.mk t r).get i) (kput dst K ⟨t,r⟩):=by cases dst <;> exact (rfl)
def slG (P:Program) (o:Oper) (tx:TypeId) (x:Operand) (lo hi:Option Operand) (dst:Option Tmp) (K:St→Prop) (s:St) (l:L):Prop :=
 match l with
 | .ptr d 0 0=>larr P tx s d lo hi (kput dst K) (Bh d s.regs)
 | _=>Qy P s.regs tx s.get x lo hi none (kput dst K s)
theorem Ft {tx:TypeId} {x:Operand} {lo hi:Option Operand}:lop X ⟨dst,.slice tx x lo hi none,ty,ps,af,g⟩ K ⟨t,r⟩=slG X.P ⟨dst,.slice tx x lo hi none,ty,ps,af,g⟩ tx x lo hi dst K ⟨t,r⟩ ((St.mk t r).get x):=by cases dst <;> exact (rfl)
theorem Es {x:Operand} {i:Nat}:lop X ⟨dst,.extract x i,ty,ps,af,g⟩ K ⟨t,r⟩=Jcx ((St.mk t r).get x) i (kput dst K ⟨t,r⟩):=by cases dst <;> exact (rfl)
theorem N0 {tx:TypeId} {pt:Array (Nat×Operand)}:lop X ⟨dst,.build tx pt,ty,ps,af,g⟩ K ⟨t,r⟩=Jhm X.P tx (pt.toList.map fun (i,x)=>(i,(St.mk t r).get x)) (kput dst K ⟨t,r⟩):=by cases dst <;> exact (rfl)
theorem Jbm {f:FuncId} {caps:Array Operand}:lop X ⟨dst,.makeFunc (.func f) #[] caps,ty,ps,af,g⟩ K ⟨t,r⟩=Jqv f (caps.toList.map (St.mk t r).get) (kput dst K ⟨t,r⟩):=by cases dst <;> simp only [lop,lq,Jqv,true_and]
theorem Eg {x:Operand} {tx:TypeId}:lop X ⟨dst,.call { callee:=.builtin .len,args:=#[x],argTypes:=#[tx] },ty,ps,af,g⟩ K ⟨t,r⟩=llen X.P tx ((St.mk t r).get x) (kput dst K ⟨t,r⟩):=by cases dst <;> exact (rfl)
theorem p_min {args:Array Operand} {ats:Array TypeId}:lop X ⟨dst,.call { callee:=.builtin .min,args:=args,argTypes:=ats },ty,ps,af,g⟩ K ⟨t,r⟩=Pd false (args.toList.map (St.mk t r).get) (kput dst K ⟨t,r⟩):=by cases dst <;> exact (rfl)
theorem H2 {T:TypeId}:lop X ⟨some d,.alloc T,ty,ps,af,g⟩ K ⟨t,r⟩=Jho X.P d T ⟨t,r⟩ K:=(rfl)
theorem T0 {T:TypeId} {x:Operand}:lop X ⟨some d,.box T x,ty,ps,af,g⟩ K ⟨t,r⟩=lbox d T ⟨t,r⟩ x K:=(rfl)
theorem Di {tx:TypeId} {n:Nat} {pt:Array (Nat×Operand)}:lop X ⟨some d,.buildSlice tx n pt,ty,ps,af,g⟩ K ⟨t,r⟩=Ps X.P d tx n ⟨t,r⟩ pt.toList K:=(rfl)
theorem Jac {tx:TypeId} {l c:Operand}:lop X ⟨some d,.makeSlice tx l c,ty,ps,af,g⟩ K ⟨t,r⟩=Qt X.P d tx ⟨t,r⟩ l c K:=(rfl)
theorem Ws {x y:Operand} {t1 t2:TypeId}:lop X ⟨dst,.call { callee:=.builtin .copy,args:=#[x,y],argTypes:=#[t1,t2] },ty,ps,af,g⟩ K ⟨t,r⟩=Jfi X.P t1 t2 ⟨t,r⟩ x y (kput dst K):=(rfl)
theorem Fy {x y:Operand} {t1 t2:TypeId}:lop X ⟨some d,.call { callee:=.builtin .append,args:=#[x,y],argTypes:=#[t1,t2] },ty,ps,af,g⟩ K ⟨t,r⟩=Vx X.P d t1 t2 ⟨t,r⟩ x y K:=(rfl)
theorem Cc {f:Operand} {args:Array Operand} {ats:Array TypeId}:lop X ⟨dst,.call { callee:=.value f,args:=args,argTypes:=ats },ty,ps,af,g⟩ K ⟨t,r⟩=Jnf X ⟨t,r⟩ f args.toList dst K:=by cases dst <;> exact (rfl)
theorem Ym {tx:TypeId}:lop X ⟨some d,.makeMap tx none,ty,ps,af,g⟩ K ⟨t,r⟩=X6 d ⟨t,r⟩ K:=(rfl)
theorem Vu {tx:TypeId} {x:Operand}:lop X ⟨some d,.range tx x,ty,ps,af,g⟩ K ⟨t,r⟩=Jhq X.P d tx ⟨t,r⟩ x K:=(rfl)
theorem Vg {it:Operand} {b:Bool}:lop X ⟨dst,.next it b,ty,ps,af,g⟩ K ⟨t,r⟩=Jj5 ⟨t,r⟩ it b (kput dst K):=by cases dst <;> exact (rfl)
theorem Jn1 {it:Operand}:lop X ⟨dst,.entry it,ty,ps,af,g⟩ K ⟨t,r⟩=Jdg ⟨t,r⟩ it (kput dst K ⟨t,r⟩):=by cases dst <;> exact (rfl)
theorem Jao {tx:TypeId} {m k v:Operand}:lop X ⟨dst,.mapUpdate tx m k v,ty,ps,af,g⟩ K ⟨t,r⟩=Mn X.P tx ⟨t,r⟩ m k v (P8 dst K):=by cases dst <;> exact (rfl)
theorem Jko {tx:TypeId} {m k v:Operand}:lop X ⟨dst,.insert tx m k v,ty,ps,af,g⟩ K ⟨t,r⟩=Mn X.P tx ⟨t,r⟩ m k v (P8 dst K):=by cases dst <;> exact (rfl)
theorem Jkd {m k:Operand} {t1 t2:TypeId}:lop X ⟨dst,.call { callee:=.builtin .delete,args:=#[m,k],argTypes:=#[t1,t2] },ty,ps,af,g⟩ K ⟨t,r⟩=Vk X.P t1 ⟨t,r⟩ m k (P8 dst K):=by cases dst <;> exact (rfl)
def usR (P:Program) (o:Option TypeDesc) (d:Nat) (n:Int) (s:St) (N:St→L→Prop) (q:Option Reg):Prop :=
 match q with
 | some (.row T 1 es)=>o=some (.pointer T)∧P.cellsOf T=1∧∃ bs,K0 es=some bs∧n=bs.length∧bs≠[]∧bs.length≤9223372036854775807∧N (s.forget d) (.p (.str bs))
 | _=>False
def usT (P:Program) (o:Option TypeDesc) (d:Nat) (s:St) (N:St→L→Prop) (ly:L):Prop :=
 match ly with
 | .p (.int .i64 n)=>usR P o d n s N (Bh d s.regs)
 | _=>False
def Jor (X:Cx) (t1:TypeId) (dst:Option Tmp) (y:Operand) (K:St→Prop) (s:St) (l:L):Prop :=
 match l with
 | .p .nptr=>(∃ k,s.get y=.p (.int k 0))∧K (s.put dst (.p (.str [])))
 | .ptr d 0 0=>usT X.P (X.P.underlying t1) d s (kput dst K) (s.get y)
 | _=>False
theorem Jm1 {x y:Operand} {t1 t2:TypeId}:lop X ⟨dst,.call { callee:=.builtin .unsafeString,args:=#[x,y],argTypes:=#[t1,t2] },ty,ps,af,g⟩ K ⟨t,r⟩=Jor X t1 dst y K ⟨t,r⟩ ((St.mk t r).get x):=by
 have h:lop X ⟨dst,.call { callee:=.builtin .unsafeString,args:=#[x,y],argTypes:=#[t1,t2] },ty,ps,af,g⟩ K ⟨t,r⟩=Jnl X ⟨dst,.call { callee:=.builtin .unsafeString,args:=#[x,y],argTypes:=#[t1,t2] },ty,ps,af,g⟩ dst [x,y] [t1,t2] ⟨t,r⟩ K:=by cases dst <;> exact (rfl)
 rw [h]
 unfold Jnl Jor
 simp only
 split
 ·rename_i hx
  rw [hx]
  apply propext
  constructor
  ·rintro ⟨l,⟨_,h1,rfl⟩,hK⟩;exact ⟨h1,hK⟩
  ·rintro ⟨h1,hK⟩;exact ⟨_,⟨hx,h1,rfl⟩,hK⟩
 ·rename_i hx
  split
  ·rename_i hy;exact absurd hy hx
  ·rename_i d hy
   unfold Q9 usT usR
   rw [hy]
   cases hq:(St.mk t r).get y with
   | p v =>
    cases v with
    | int k n=>cases k <;> rfl
    | _=>rfl
   | _=>rfl
  ·rename_i h1 h2
   unfold Q9
   cases hq:(St.mk t r).get x with
   | ptr d i j =>
    cases i with
    | zero=>cases j with
     | zero=>exact absurd hq (h2 d)
     | succ j=>rfl
    | succ i=>rfl
   | _=>rfl
theorem Jbe {tx:TypeId} {x:Operand}:lop X ⟨dst,.makeInterface tx x,ty,ps,af,g⟩ K ⟨t,r⟩=lqvK X.P r ⟨t,r⟩ (.makeInterface tx x) (kput dst K ⟨t,r⟩):=by cases dst <;> exact (rfl)
theorem Yi {tx:TypeId} {x i:Operand} {b:Bool}:lop X ⟨dst,.lookup tx x i b,ty,ps,af,g⟩ K ⟨t,r⟩=lqvK X.P r ⟨t,r⟩ (.lookup tx x i b) (kput dst K ⟨t,r⟩):=by cases dst <;> exact (rfl)
theorem Jcy {x:Operand} {tx:TypeId}:lop X ⟨dst,.call { callee:=.builtin .cap,args:=#[x],argTypes:=#[tx] },ty,ps,af,g⟩ K ⟨t,r⟩=lqvK X.P r ⟨t,r⟩ (.call { callee:=.builtin .cap,args:=#[x],argTypes:=#[tx] }) (kput dst K ⟨t,r⟩):=by cases dst <;> exact (rfl)
variable {C:L→Prop}
theorem Je {x:Operand}:lqc X ⟨t,r⟩ ⟨dst,.move x,ty,ps,af,g⟩ C=C ((St.mk t r).get x):=(rfl)
theorem Sn {x:Operand}:lqc X ⟨t,r⟩ ⟨dst,.assign x,ty,ps,af,g⟩ C=C ((St.mk t r).get x):=(rfl)
theorem Nq {op:BinOp} {tx ty':TypeId} {x y:Operand}:lqc X ⟨t,r⟩ ⟨dst,.binOp op tx x y ty',ty,ps,af,g⟩ C=lbin X.P op tx (M5 x || M5 y) ((St.mk t r).get x) ((St.mk t r).get y) C:=(rfl)
theorem Jev {op:UnOp} {tx:TypeId} {x:Operand}:lqc X ⟨t,r⟩ ⟨dst,.unOp op tx x,ty,ps,af,g⟩ C=lun op ((St.mk t r).get x) C:=(rfl)
theorem Py {c a b:Operand}:lqc X ⟨t,r⟩ ⟨dst,.pick c a b,ty,ps,af,g⟩ C=Joj ((St.mk t r).get c) ((St.mk t r).get a) ((St.mk t r).get b) C:=(rfl)
theorem W4 {x:Operand}:lqc X ⟨t,r⟩ ⟨dst,.nilCheck x,ty,ps,af,g⟩ C=lnil ((St.mk t r).get x) C:=(rfl)
theorem L2 {tx:TypeId} {x:Operand}:lqc X ⟨t,r⟩ ⟨dst,.load tx x,ty,ps,af,g⟩ C=T5 X.P r tx ((St.mk t r).get x) C:=(rfl)
theorem Od {tx:TypeId} {x:Operand} {f:Nat}:lqc X ⟨t,r⟩ ⟨dst,.fieldAddr tx x f,ty,ps,af,g⟩ C=Mv X.P tx ((St.mk t r).get x) f C:=(rfl)
theorem Ig {tx:TypeId} {x i:Operand}:lqc X ⟨t,r⟩ ⟨dst,.indexAddr tx x i,ty,ps,af,g⟩ C=Lx X.P r tx ((St.mk t r).get x) ((St.mk t r).get i) C:=(rfl)
theorem Jbk {tx:TypeId} {x i:Operand}:lqc X ⟨t,r⟩ ⟨dst,.index tx x i,ty,ps,af,g⟩ C=Tu X.P tx ((St.mk t r).get x) ((St.mk t r).get i) C:=(rfl)
theorem Qd {tx:TypeId} {x:Operand} {lo hi mx:Option Operand}:lqc X ⟨t,r⟩ ⟨dst,.slice tx x lo hi mx,ty,ps,af,g⟩ C=Qy X.P r tx (St.mk t r).get x lo hi mx C:=(rfl)
theorem Y8 {x:Operand} {i:Nat}:lqc X ⟨t,r⟩ ⟨dst,.extract x i,ty,ps,af,g⟩ C=Jcx ((St.mk t r).get x) i C:=(rfl)
theorem Jfo {x:Operand} {tx:TypeId}:lqc X ⟨t,r⟩ ⟨dst,.call { callee:=.builtin .len,args:=#[x],argTypes:=#[tx] },ty,ps,af,g⟩ C=llen X.P tx ((St.mk t r).get x) C:=(rfl)
theorem Jc1 {tx:TypeId} {x i:Operand} {b:Bool}:lqc X ⟨t,r⟩ ⟨dst,.lookup tx x i b,ty,ps,af,g⟩ C=lqvK X.P r ⟨t,r⟩ (.lookup tx x i b) C:=(rfl)
theorem q_usd {x:Operand} {tx:TypeId}:lqc X ⟨t,r⟩ ⟨dst,.call { callee:=.builtin .unsafeSliceData,args:=#[x],argTypes:=#[tx] },ty,ps,af,g⟩ C=lqvK X.P r ⟨t,r⟩ (.call { callee:=.builtin .unsafeSliceData,args:=#[x],argTypes:=#[tx] }) C:=(rfl)
theorem O6 {f:FuncId} {args:Array Operand} {ats:Array TypeId}:lqc X ⟨t,r⟩ ⟨dst,.call { callee:=.value (.func f),args:=args,argTypes:=ats },ty,ps,af,g⟩ C=Gm X f (args.toList.map (St.mk t r).get) C:=(rfl)
end
end Go.LX
namespace Go.LX
open Go Go.Proofs
theorem f_u2:Tryz.prog.underlying 2=some (.int .i64):=by kernel_rfl
theorem Jdn:Tryz.prog.underlying 3=some (.int .i64):=by kernel_rfl
theorem Om:I6 Tryz.prog 3=some false:=by kernel_rfl
theorem Mj:Tryz.prog.cellsOf 3=1:=by kernel_rfl
theorem O9:I6 Tryz.prog 4=some false:=by kernel_rfl
theorem Nr:Tryz.prog.cellsOf 4=1:=by kernel_rfl
theorem f_z4:Ik Tryz.prog 4=some [.bool false]:=by kernel_rfl
theorem f_b4:Hu Tryz.prog 4=some 1:=by kernel_rfl
theorem T8:Tryz.prog.underlying 5=some (.int .u8):=by kernel_rfl
theorem f_a5:I6 Tryz.prog 5=some false:=by kernel_rfl
theorem f_c5:Tryz.prog.cellsOf 5=1:=by kernel_rfl
theorem Jgt:Ik Tryz.prog 5=some [.int .u8 0]:=by kernel_rfl
theorem Je7:O2 Tryz.prog 5=some (.int .u8 0):=by kernel_rfl
theorem Jgx:Hu Tryz.prog 5=some 1:=by kernel_rfl
theorem Ja:Tryz.prog.underlying 9=some (.string):=by kernel_rfl
theorem L9:I6 Tryz.prog 9=some false:=by kernel_rfl
theorem Kw:Tryz.prog.cellsOf 9=1:=by kernel_rfl
theorem Wn:Ik Tryz.prog 9=some [.str []]:=by kernel_rfl
theorem Jey:Hu Tryz.prog 9=some 16:=by kernel_rfl
theorem Qc:Tryz.prog.underlying 21=some (.int .i32):=by kernel_rfl
theorem Jlv:O2 Tryz.prog 21=some (.int .i32 0):=by kernel_rfl
theorem I9:Tryz.prog.underlying 23=some (.slice 47):=by kernel_rfl
theorem Kl:slE Tryz.prog 23=some (47,3):=by kernel_rfl
theorem Qb:Tryz.prog.underlying 34=some (.slice 53):=by kernel_rfl
theorem Qa:I6 Tryz.prog 34=some false:=by kernel_rfl
theorem Mx:Tryz.prog.cellsOf 34=1:=by kernel_rfl
theorem Jk:slE Tryz.prog 34=some (53,6):=by kernel_rfl
theorem O1:Ik Tryz.prog 34=some [.snil]:=by kernel_rfl
theorem Ty:Hu Tryz.prog 34=some 24:=by kernel_rfl
theorem O4:Tryz.prog.underlying 44=some (.slice 34):=by kernel_rfl
theorem Jar:I6 Tryz.prog 44=some false:=by kernel_rfl
theorem Jad:Tryz.prog.cellsOf 44=1:=by kernel_rfl
theorem Ld:slE Tryz.prog 44=some (34,1):=by kernel_rfl
theorem Jop:Ik Tryz.prog 44=some [.snil]:=by kernel_rfl
theorem Lm:I6 Tryz.prog 47=some true:=by kernel_rfl
theorem Kk:Tryz.prog.cellsOf 47=3:=by kernel_rfl
theorem Jq:fld Tryz.prog 47 0=some (0,4):=by kernel_rfl
theorem J4:fld Tryz.prog 47 1=some (1,9):=by kernel_rfl
theorem Na:fld Tryz.prog 47 2=some (2,3):=by kernel_rfl
theorem Va:N9 Tryz.prog 47=true:=by kernel_rfl
theorem f_t47:Jdr Tryz.prog 47=some [.bool,.str,.int]:=by kernel_rfl
theorem Lk:Ik Tryz.prog 47=some [.bool false,.str [],.int .i64 0]:=by kernel_rfl
theorem Jc3:Hu Tryz.prog 47=some 32:=by kernel_rfl
theorem Jom:I6 Tryz.prog 53=some true:=by kernel_rfl
theorem Jfx:Tryz.prog.cellsOf 53=6:=by kernel_rfl
theorem K1:fld Tryz.prog 53 0=some (0,3):=by kernel_rfl
theorem Kj:fld Tryz.prog 53 1=some (1,3):=by kernel_rfl
theorem Tb:fld Tryz.prog 53 2=some (2,9):=by kernel_rfl
theorem Yj:N9 Tryz.prog 53=true:=by kernel_rfl
theorem f_t53:Jdr Tryz.prog 53=some [.int,.int,.str,.str,.bool,.int]:=by kernel_rfl
theorem Rr:Ik Tryz.prog 53=some [.int .i64 0,.int .i64 0,.str [],.str [],.bool false,.int .i64 0]:=by kernel_rfl
theorem Xa:Hu Tryz.prog 53=some 64:=by kernel_rfl
theorem Mi:Tryz.prog.underlying 67=some (.slice 9):=by kernel_rfl
theorem Jnw:I6 Tryz.prog 67=some false:=by kernel_rfl
theorem Jn2:Tryz.prog.cellsOf 67=1:=by kernel_rfl
theorem K2:slE Tryz.prog 67=some (9,1):=by kernel_rfl
theorem Jq8:Ik Tryz.prog 67=some [.snil]:=by kernel_rfl
theorem W7:Tryz.prog.underlying 113=some (.interface #[("Error",129)]):=by kernel_rfl
theorem Jib:Tryz.prog.underlying 122=some (.int .u64):=by kernel_rfl
theorem Jgs:Tryz.prog.underlying 125=some (.pointer 128):=by kernel_rfl
theorem Jl7:I6 Tryz.prog 125=some false:=by kernel_rfl
theorem Jgn:Tryz.prog.cellsOf 125=1:=by kernel_rfl
theorem Um:Tryz.prog.underlying 126=some (.slice 5):=by kernel_rfl
theorem Td:I6 Tryz.prog 126=some false:=by kernel_rfl
theorem Tj:Tryz.prog.cellsOf 126=1:=by kernel_rfl
theorem Ry:slE Tryz.prog 126=some (5,1):=by kernel_rfl
theorem Jg4:Tryz.prog.cellsOf 128=2:=by kernel_rfl
theorem Xl:fld Tryz.prog 128 0=some (0,125):=by kernel_rfl
theorem O0:fld Tryz.prog 128 1=some (1,126):=by kernel_rfl
theorem Jg5:Ik Tryz.prog 128=some [.nptr,.snil]:=by kernel_rfl
theorem Jq2:(Tryz.prog.info? 128).isSome=true:=by kernel_rfl
theorem Ul:slE Tryz.prog 176=some (4,1):=by kernel_rfl
theorem Jb7:mapT Tryz.prog 181=some (21,5):=by kernel_rfl
theorem Yq:Tryz.prog.underlying 189=some (.int .u64):=by kernel_rfl
theorem f_u191:Tryz.prog.underlying 191=some (.pointer 5):=by kernel_rfl
theorem f_u210:Tryz.prog.underlying 210=some (.map 5 21):=by kernel_rfl
theorem Jh2:mapT Tryz.prog 210=some (5,21):=by kernel_rfl
theorem Jg3:Tryz.prog.underlying 213=some (.int .i64):=by kernel_rfl
theorem Jm2:Tryz.prog.underlying 221=some (.unsafePointer):=by kernel_rfl
theorem Jek:Tryz.prog.underlying 237=some (.int .u32):=by kernel_rfl
theorem Jg9:arE Tryz.prog 253=some (65,5,1):=by kernel_rfl
theorem hm:Tryz.prog.follows .mixedOrders=true:=by kernel_rfl
end Go.LX
namespace Go.LX
open Go Go.RowKit Go.Proofs
def Det (X:Cx) (f:FuncId) (args:List L) (rs:Regs) (l:L) (rs':Regs):Prop:=Bz X f args rs fun m q=>m=l∧q=rs'
theorem Det.use {X:Cx} {f:FuncId} {args:List L} {rs:Regs} {l:L} {rs':Regs} {Post:L→Regs→Prop} (h:Det X f args rs l rs') (hp:Post l rs'):Bz X f args rs Post :=
 h.mono fun m q ⟨h1,h2⟩=>by subst h1;subst h2;exact hp
theorem Det.useQ {X:Cx} {f:FuncId} {args:List L} {l:L} {C:L→Prop} (h:Det X f args [] l []) (hp:C l) (hr:l.retOK=true:=by rfl):Gm X f args C:=⟨l,⟨h.mono fun _ _ h=>h.1,hr⟩,hp⟩
theorem C7.use {X:Cx} {g:FuncId} {args:List L} {l:L} {s:St} {dst:Option Tmp} {K:St→Prop} (h:C7 X g args s.regs l) (hK:K (s.put dst l)):lextR X g args s dst K:=⟨l,h,hK⟩
theorem Ec.use {X:Cx} {g:FuncId} {args:List L} {l:L} {s:St} {dst:Option Tmp} {K:St→Prop} (h:Ec X g args l) (hK:K (s.put dst l)):lext X g args s dst K:=⟨l,h,hK⟩
theorem Aa {n:Int} (h1:-9223372036854775808≤n) (h2:n≤9223372036854775807):IntKind.i64.wrap n=n:=by
 have e:IntKind.i64.wrap n=if n % 18446744073709551616 ≥ 9223372036854775808 then n % 18446744073709551616 - 18446744073709551616 else n % 18446744073709551616:=by
  simp [IntKind.wrap,IntKind.signed,IntKind.bits]
 rw [e];split <;> omega
theorem Jiq {n:Int} (h1:-2147483648≤n) (h2:n≤2147483647):IntKind.i32.wrap n=n:=by
 have e:IntKind.i32.wrap n=if n % 4294967296 ≥ 2147483648 then n % 4294967296 - 4294967296 else n % 4294967296:=by
  simp [IntKind.wrap,IntKind.signed,IntKind.bits]
 rw [e];split <;> omega
theorem Fr (n:Int):IntKind.u8.wrap n=n % 256:=by simp [IntKind.wrap,IntKind.signed,IntKind.bits]
theorem Ol (n:Int):IntKind.u32.wrap n=n % 4294967296:=by simp [IntKind.wrap,IntKind.signed,IntKind.bits]
theorem Je4 (n:Int):IntKind.u64.wrap n=n % 18446744073709551616:=by simp [IntKind.wrap,IntKind.signed,IntKind.bits]
theorem Ak {n:Int} (h1:0≤n) (h2:n≤255):IntKind.u8.wrap n=n:=by rw [Fr];omega
theorem Jbs {n:Int} (h1:0≤n) (h2:n≤18446744073709551615):IntKind.u64.wrap n=n:=by rw [Je4];omega
theorem ex_map {α γ:Type} {l:List α} {f:α→γ} {i:Nat} {Q:γ→Prop}:(∃ e,(l.map f)[i]? = some e∧Q e) = ∃ a,l[i]? = some a∧Q (f a):=by
 rw [List.getElem?_map]
 apply propext
 constructor
 ·rintro ⟨e,he,hq⟩
  obtain ⟨a,ha,rfl⟩:=Option.map_eq_some_iff.1 he
  exact ⟨a,ha,hq⟩
 ·rintro ⟨a,ha,hq⟩
  exact ⟨f a,by rw [ha];rfl,hq⟩
theorem imp_tt {A:Prop}:(true=true→A)=A:=by simp
theorem imp_tf {A:Prop}:(true=false→A)=True:=by simp
theorem imp_ft {A:Prop}:(false=true→A)=True:=by simp
theorem imp_ff {A:Prop}:(false=false→A)=A:=by simp
end Go.LX
namespace Go.LX
open Go Go.RowKit Go.Proofs
def Jdj (K:PV→Prop) (m:L):Prop :=
 match m with
 | .p x=>K x
 | _=>False
def Sy (P:Program) (s:St):List ResultVar→(List PV→Prop)→Prop
 | [],K=>K []
 | .tmp t :: l,K=>Jdj (fun x=>Sy P s l fun xs=>K (x :: xs)) (s.tmps.getD t .junk)
 | .cell t T :: l,K=>T5 P s.regs T (s.tmps.getD t .junk) (Jdj fun x=>Sy P s l fun xs=>K (x :: xs))
def Rf:List ResultVar→List Operand
 | []=>[]
 | .tmp t :: l=>.tmp t :: Rf l
 | .cell _ _ :: l=>Rf l
def Jd3:List PV→L
 | [x]=>.p x
 | xs=>.tup xs
def Kp:List Nat→Regs→Regs
 | [],_=>[]
 | d :: ds,rs=>match Bh d rs with
  | some r=>(d,r) :: Kp ds rs
  | none=>Kp ds rs
def kres (keys:List Nat) (Post:L→Regs→Prop) (rs:Regs) (xs:List PV):Prop:=Post (Jd3 xs) (Kp (900 :: keys) rs)
def Jni (keys:List Nat) (Post:L→Regs→Prop) (rs:Regs) (l:L):Prop:=Post l (Kp (900 :: keys) rs)
def lretF (P:Program) (rvs:List ResultVar) (keys:List Nat) (Post:L→Regs→Prop) (s:St):Prop :=
 Sy P (s.freezeOps (Rf rvs)) rvs (kres keys Post (s.freezeOps (Rf rvs)).regs)
def Jn7 (P:Program) (rvs:List ResultVar) (keys:List Nat) (Post:L→Regs→Prop) (s:St):Prop :=
 match rvs with
 | [.tmp t]=>Jni keys Post s.regs (s.tmps.getD t .junk)
 | [.cell t T]=>T5 P s.regs T (s.tmps.getD t .junk) (Jni keys Post s.regs)
 | _=>False
def Jjv (d n:Nat) (s:St):St :=
 match findKey d s.regs with
 | true=>s.ren d n
 | false=>s
def Ms:List (Nat×Nat)→St→St
 | [],s=>s
 | (d,n) :: l,s=>Ms l (Jjv d n s)
def Jaz (P:Program) (own:Bool) (rvs:List ResultVar) (keys:List Nat) (Post:L→Regs→Prop) (s:St):Prop :=
 match own with
 | false=>lretF P rvs keys Post s
 | true=>Jn7 P rvs keys Post s
def Jn8 (P:Program) (own:Bool) (rn:List (Nat×Nat)) (rvs:List ResultVar) (keys:List Nat) (Post:L→Regs→Prop):Ex→St→Prop
 | .normal,s=>Jaz P own rvs keys Post (Ms rn s)
 | .ret,s=>Jaz P own rvs keys Post (Ms rn s)
 | .exit _,_=>False
theorem J2 {d:Nat} {r:Reg}:∀ {ds:List Nat} {rs:Regs},(d,r)∈Kp ds rs→d∈ds∧(d,r)∈rs
 | [],_,h=>by cases h
 | e :: ds,rs,h=>by
  simp only [Kp] at h
  split at h
  ·rename_i q hq
   rcases List.mem_cons.1 h with h | h
   ·cases h;exact ⟨List.mem_cons_self,C3 hq⟩
   ·exact ⟨List.mem_cons_of_mem _ (J2 h).1,(J2 h).2⟩
  ·exact ⟨List.mem_cons_of_mem _ (J2 h).1,(J2 h).2⟩
theorem R0:∀ (ds:List Nat) (rs:Regs),((Kp ds rs).map (·.1)).Sublist ds
 | [],_=>.slnil
 | e :: ds,rs=>by
  simp only [Kp]
  split
  ·exact (R0 ds rs).cons_cons e
  ·exact (R0 ds rs).cons e
theorem Ix:∀ (l:List (Nat×Nat)) (s:St),(∀ x∈l,x.2<1000∨500000≤x.2)→s.Le (Ms l s)
 | [],s,_=>St.Le.refl s
 | (d,n) :: l,s,h=>by
  simp only [Ms]
  refine St.Le.trans ?_ (Ix l _ fun x hx=>h x (List.mem_cons_of_mem _ hx))
  unfold Jjv
  split
  ·exact St.le_ren s (h _ List.mem_cons_self)
  ·exact St.Le.refl s
theorem Jay {P:Program} {t:TypeId} {u v:Value} {w:World} (h:(Instr.loadAt t u).run P w=.ok v w):(do loadVar t (← asAddr u):Sem Value).run P w=.ok v w:=by
 unfold Instr.loadAt Instr.sureAddr at h
 cases u <;> simp_all [asAddr]
 rename_i a
 cases a <;> simp_all
theorem Tg {P:Program} {β:Env} {w:World} {Im:Nat→Prop} {s:St} {a:Act} (hf:Fit β w Im s a.tmps) (g:ResultVar→Sem Value) (hg1:∀ t,g (.tmp t)=pure (a.tmps.getD t undef)) (hg2:∀ t T,g (.cell t T)=do loadVar T (← asAddr (a.tmps.getD t undef))) :
  ∀ (rvs:List ResultVar) (K:List PV→Prop),Sy P s rvs K→∃ vs xs,(rvs.mapM g).run P w=.ok vs w∧K xs∧vs.length=xs.length∧∀ (i:Nat) (v:Value) (x:PV),vs[i]? = some v→xs[i]? = some x→PRep w Im v x
 | [],K,h=>⟨[],[],by simp,h,rfl,fun i v x hv=>by simp at hv⟩
 | .tmp t :: l,K,h=>by
  simp only [Sy] at h
  unfold Jdj at h
  split at h
  ·rename_i x hx
   obtain ⟨vs,xs,h1,h2,h3,h4⟩:=Tg hf g hg1 hg2 l _ h
   refine ⟨a.tmps.getD t undef :: vs,x :: xs,?_,h2,by simp [h3],fun i v y hv hy=>?_⟩
   ·simp only [List.mapM_cons,hg1,Sem.run_bind,Sem.run_pure,Result.andThen_ok,h1]
   ·cases i with
    | zero =>
     simp at hv hy;subst hv;subst hy
     have:=Dw hf (.tmp t)
     simp only [St.get,hx] at this
     simpa [LRep,Act.eval,Array.getD_eq_getD_getElem?] using this
    | succ i=>simp at hv hy;exact h4 i v y hv hy
  ·exact h.elim
 | .cell t T :: l,K,h=>by
  simp only [Sy] at h
  have hr:=Dw hf (.tmp t)
  obtain ⟨v,m,hv,hm,hK⟩:=Vi hf hr h
  unfold Jdj at hK
  split at hK
  ·rename_i x
   obtain ⟨vs,xs,h1,h2,h3,h4⟩:=Tg hf g hg1 hg2 l _ hK
   refine ⟨v :: vs,x :: xs,?_,h2,by simp [h3],fun i u y hu hy=>?_⟩
   ·have:=Jay hv
    have e:a.eval (.tmp t)=a.tmps.getD t undef:=rfl
    rw [e] at this
    rw [List.mapM_cons]
    simp only [Sem.run_bind,hg2] at this ⊢
    rw [this]
    simp only [Result.andThen_ok,h1,Sem.run_pure]
   ·cases i with
    | zero=>simp at hu hy;subst hu;subst hy;exact hm
    | succ i=>simp at hu hy;exact h4 i u y hu hy
  ·exact hK.elim
def Jeh (tmps:Array Value):ResultVar→Sem Value
 | .tmp t=>pure (tmps.getD t undef)
 | .cell b T=>do loadVar T (← asAddr (tmps.getD b undef))
theorem Rk {P:Program} {fn:Func} {tmps:Array Value} {w:World} {vs:List Value} (h:(fn.results.toList.mapM (Jeh tmps)).run P w=.ok vs w) :
  (results fn tmps).run P w=.ok (if h:vs.length=1 then vs[0] else .tuple ⟨vs⟩) w:=by
 have e:results fn tmps=(do
   let vs ← fn.results.mapM (Jeh tmps)
   pure (if h:vs.size=1 then vs[0] else .tuple vs)):=by
  unfold results
  congr 1
 rw [e,Array.mapM_eq_mapM_toList]
 simp only [Sem.run_bind,Sem.run_map,h,Result.andThen_ok,Sem.run_pure]
 rfl
theorem RRx.shut {Γ:Base} {β:Env} {Im:Nat→Prop} {s:St} {tmps:Array Value} {w:World} {D:Nat} {ms:List Nat} (h:RRx (Γ.wm (D :: ms)) β Im s tmps w):RRx (Γ.wm ms) β Im s tmps (w.putObj D (.deferred none)):=by
 obtain ⟨m1,m2,m3,m4⟩:=h.marks D List.mem_cons_self
 have hlt:=(Array.getElem?_eq_some_iff.1 m1).1
 have hnd:D ∉ ms∧ms.Nodup:=List.nodup_cons.1 h.mnod
 have hoth:∀ k,k≠D→(w.putObj D (.deferred none)).heap[k]? = w.heap[k]?:=fun k hk=>World.putObj_heap_other hk
 have hk:Keeps w Im (w.putObj D (.deferred none)) Im:=⟨fun _ h=>h,fun b hb=>hoth b fun e=>m2 (e ▸ hb)⟩
 refine {
     fit:={ size:=h.fit.size,tmps:=fun i l hl=>(h.fit.tmps i l hl).mono' hk,regs:=fun d r hr=>(h.fit.regs d r hr).mono hk rfl (fun _ _=>rfl) fun loc hl=>hoth _ (m4 d r loc hr hl),nodup:=h.fit.nodup,live:=fun d r loc hr hl=>by rw [World.putObj_size];exact h.fit.live d r loc hr hl,apart:=h.fit.apart,im:=fun b hb=>by rw [World.putObj_size];exact h.fit.im b hb }
     os:=h.os,tape:=h.tape,output:=h.output,size:=by rw [World.putObj_size];exact h.size,block:=fun k hk' hm=>?_,imin:=h.imin,imnew:=h.imnew,regnew:=h.regnew,fixed:=h.fixed,glob:=Γ.mono hk h.glob,mnod:=hnd.2,marks:=fun E hE=>?_ }
 ·have m3':Γ.W0.heap.size≤D:=m3
  have hk2:k<Γ.W0.heap.size:=hk'
  rw [hoth k (by omega)];exact h.block k hk' hm
 ·obtain ⟨n1,n2,n3,n4⟩:=h.marks E (List.mem_cons_of_mem _ hE)
  exact ⟨(hoth E fun e=>hnd.1 (e ▸ hE)).trans n1,n2,n3,n4⟩
theorem Tv {F:Fence} {n:Nat} {P:Program} {fn:Func} {R:Ending→World→Prop} {Γ:Base} {β:Env} {Im:Nat→Prop} {s:St} {tmps:Array Value}:∀ (ms:List Nat) (w:World),RRx (Γ.wm ms) β Im s tmps w →
  (∀ w',RRx (Γ.wm []) β Im s tmps w'→∃ v,(results fn tmps).run P w'=.ok v w'∧R (.returned v) w')→LeavesInM F n P fn tmps R (ms.map P1) .returning w
 | [],w,h,hf=>hf w h
 | D :: ms,w,h,hf=>by
  obtain ⟨m1,_⟩:=h.marks D List.mem_cons_self
  exact ⟨by simp,.inl ⟨D,_,rfl,run_takeDeferred m1,Tv ms _ h.shut hf⟩⟩
theorem Bz.of_body2 {X:Cx} {f:FuncId} {fn:Func} {c:Code} {args:List L} {rs:Regs} {Post:L→Regs→Prop} (own:Bool) (rn:List (Nat×Nat)) (hrn:∀ x∈rn,x.2<1000∨500000≤x.2) (hf:X.P.funcs[f]? = some fn) (hname:(fn.name == "runtime.NumGoroutine")=false) (hb:fn.body=some c)
  (h900:900 ∉ rs.map (·.1)) (h:SWP X none c (Jn8 X.P own rn fn.results.toList (rs.map (·.1)) Post) ⟨args ++ List.replicate (fn.ntmps - args.length) .junk,rs⟩):Bz X f args rs Post:=by
 refine ⟨enters_of hf hname hb,fun β Im w vs hglob hfit=>?_⟩
 have hvl:vs.length=args.length:=by simpa using hfit.size
 refine callsIn_wide.1 (callsIn_of_wp_marks (n:=1) (F:=Fence.wide) hf hb trivial ?_)
 let Γ:Base:=⟨w,β,Im,fun k=>∃ d r loc,(d,r)∈rs∧β d=some loc∧loc.blk=k,[],X.G,X.mono⟩
 have hr0:RR Γ ⟨args ++ List.replicate (fn.ntmps - args.length) .junk,rs⟩ { tmps:=(⟨vs⟩:Array Value) ++ Array.replicate (fn.ntmps - (⟨vs⟩:Array Value).size) undef,defers:=[] } w:=by
  refine ⟨[],rfl,β,Im,{ fit:={ size:=?_,tmps:=fun i l hl=>?_,regs:=hfit.regs,nodup:=hfit.nodup,live:=hfit.live,apart:=hfit.apart,im:=hfit.im },os:=rfl,tape:=rfl,output:=rfl,size:=Nat.le_refl _,block:=fun _ _ _=>rfl,imin:=fun _ h=>h,imnew:=fun _ h=>.inl h,regnew:=fun d r loc hd hl=>.inr ⟨d,r,loc,hd,hl,rfl⟩,fixed:=fun _ _ _=>rfl,glob:=hglob,mnod:=.nil,marks:=fun D hD=>(by cases hD) }⟩
  ·simp [hvl]
  ·by_cases hi:i<args.length
   ·simp only at hl
    rw [List.getElem?_append_left hi] at hl
    have:=hfit.tmps i l hl
    have e:((⟨vs⟩:Array Value) ++ Array.replicate (fn.ntmps - (⟨vs⟩:Array Value).size) undef).getD i undef=(⟨vs⟩:Array Value).getD i undef:=by
     simp only [Array.getD_eq_getD_getElem?]
     rw [Array.getElem?_append_left (by simp;omega)]
    rw [e];exact this
   ·simp only at hl
    rw [List.getElem?_append_right (by omega),List.getElem?_replicate] at hl
    split at hl
    ·cases hl;trivial
    ·cases hl
 have hw:=h Γ _ w rfl hr0
 refine wpIn_mono (show c.wpIn Fence.wide 1 X.P _ _ _ from hw) fun e a w' hq=>?_
 have step:∀ {β':Env} {Im':Nat→Prop} {s:St} {tmps:Array Value} {w':World},RRx (Γ.wm []) β' Im' s tmps w'→CallStep β w Im rs β' w' Im' (Kp (900 :: rs.map (·.1)) s.regs):=by
  intro β' Im' s tmps w' hx
  refine { os:=hx.os,tape:=hx.tape,output:=hx.output,size:=hx.size,block:=fun k hk' hne=>hx.block k hk' (fun ⟨d,r,loc,h1,h2,h3⟩=>hne d r loc h1 h2 h3),imin:=hx.imin,imnew:=hx.imnew,env:=hx.fixed,keys:=fun d r hd=>?_,regnew:=fun d r loc hd hl=>hx.regnew d r loc (J2 hd).2 hl,fit:=?_ }
  ·rcases List.mem_cons.1 (J2 hd).1 with h | h
   ·exact .inl h
   ·obtain ⟨⟨d',r'⟩,h1,rfl⟩:=List.mem_map.1 h
    exact .inr ⟨r',h1⟩
  ·exact { size:=rfl,tmps:=fun i l h=>by simp at h,regs:=fun d r hd=>hx.fit.regs d r (J2 hd).2,nodup:=(R0 _ _).nodup (List.nodup_cons.2 ⟨h900,hfit.nodup⟩),live:=fun d r loc hd hl=>hx.fit.live d r loc (J2 hd).2 hl,apart:=fun d r d' r' l1 l2 hd hd' hne h1 h2=>hx.fit.apart d r d' r' l1 l2 (J2 hd).2 (J2 hd').2 hne h1 h2,im:=hx.fit.im }
 have fin:∀ s,Jaz X.P own fn.results.toList (rs.map (·.1)) Post (Ms rn s)→RR Γ s a w'→LeavesInM Fence.wide 1 X.P fn a.tmps (fun e w'=>∃ v l rs' β' Im',e=.returned v∧Post l rs'∧LRep β' w' Im' v l∧CallStep β w Im rs β' w' Im' rs') a.defers .returning w':=by
  intro s hl hr
  obtain ⟨ms,hdef,β',Im0,hx0⟩:=Ix rn s hrn Γ a w' hr
  generalize Ms rn s=s at hl hx0
  rw [hdef]
  unfold Jaz at hl
  split at hl
  ·obtain ⟨Im',hx⟩:=RRx.freezeOps (Rf fn.results.toList) hx0
   unfold lretF at hl
   refine Tv ms _ hx fun w2 hx2=>?_
   obtain ⟨vs,xs,h1,hP,h3,h4⟩:=Tg (P:=X.P) hx2.fit (a:={ tmps:=a.tmps,defers:=[] }) (Jeh a.tmps) (fun _=>rfl) (fun _ _=>rfl) _ _ hl
   have hrun:=Rk (P:=X.P) (fn:=fn) h1
   refine ⟨_,hrun,_,Jd3 xs,_,β',Im',rfl,hP,?_,step hx2⟩
   split
   ·rename_i h
    match vs,xs,h,h3,h4 with
    | [v],[x],_,_,h4=>exact h4 0 v x rfl rfl
   ·rename_i h
    have:Jd3 xs=.tup xs:=by
     match xs with
     | []=>rfl
     | [x]=>exact absurd h3 h
     | _ :: _ :: _=>rfl
    rw [this]
    exact ⟨vs,rfl,h3,h4⟩
  ·refine Tv ms _ hx0 fun w2 hx2=>?_
   unfold Jn7 at hl
   split at hl
   ·rename_i t hres
    have h1:(fn.results.toList.mapM (Jeh a.tmps)).run X.P w2=.ok [a.tmps.getD t undef] w2:=by rw [hres];simp [Jeh]
    have hrun:=Rk (P:=X.P) (fn:=fn) h1
    have hrep:=Dw (a:={ tmps:=a.tmps,defers:=[] }) hx2.fit (.tmp t)
    exact ⟨_,hrun,_,_,_,β',Im0,rfl,hl,hrep,step hx2⟩
   ·rename_i t T hres
    have hrep:=Dw (a:={ tmps:=a.tmps,defers:=[] }) hx2.fit (.tmp t)
    obtain ⟨v,m,hv,hm,hK⟩:=Vi (P:=X.P) (a:={ tmps:=a.tmps,defers:=[] }) hx2.fit hrep hl
    have h1:(fn.results.toList.mapM (Jeh a.tmps)).run X.P w2=.ok [v] w2:=by
     rw [hres]
     have:=Jay hv
     simp only [List.mapM_cons,List.mapM_nil,Jeh,Sem.run_bind] at this ⊢
     have e:({ tmps:=a.tmps,defers:=[] }:Act).eval (.tmp t)=a.tmps.getD t undef:=rfl
     rw [e] at this
     rw [this]
     simp
    have hrun:=Rk (P:=X.P) (fn:=fn) h1
    exact ⟨_,hrun,_,m,_,β',Im0,rfl,hK,hm,step hx2⟩
   ·exact hl.elim
 cases e with
 | normal=>obtain ⟨s,h1,h2⟩:=hq;exact fin s h1 h2
 | ret=>obtain ⟨s,h1,h2⟩:=hq;exact fin s h1 h2
 | exit id=>obtain ⟨s,h1,h2⟩:=hq;exact h1.elim
 | goto l=>exact hq.elim
 | panic c=>exact hq.elim
 | outgrown=>exact hq.elim
section
variable {P:Program} {rvs:List ResultVar} {keys:List Nat} {Post:L→Regs→Prop} {t:List L} {r:Regs} {own:Bool} {rn:List (Nat×Nat)}
theorem Tp:Jn8 P own rn rvs keys Post .normal ⟨t,r⟩=Jaz P own rvs keys Post (Ms rn ⟨t,r⟩):=(rfl)
theorem A2:Jn8 P own rn rvs keys Post .ret ⟨t,r⟩=Jaz P own rvs keys Post (Ms rn ⟨t,r⟩):=(rfl)
end
end Go.LX
namespace Go.LX
open Go Go.RowKit Go.Proofs
def Fo (n:Nat):List (Nat×L)→List L
 | []=>List.replicate n .junk
 | (i,l) :: ws=>(Fo n ws).set i l
theorem Jz (n:Nat):∀ ws,(Fo n ws).length=n
 | []=>by simp [Fo]
 | (i,l) :: ws=>by simp [Fo,Jz n ws]
theorem Ad {n i:Nat} {l:L} {ws:List (Nat×L)}:(Fo n ws).set i l=Fo n ((i,l) :: ws):=(rfl)
theorem Ac {n i j:Nat} {l:L} {ws:List (Nat×L)}:(Fo n ((i,l) :: ws)).getD j .junk=if i=j then (if i<n then l else .junk) else (Fo n ws).getD j .junk:=by
 simp only [Fo,List.getD_eq_getElem?_getD,List.getElem?_set,Jz]
 split
 ·rename_i h;subst h;split <;> rfl
 ·rfl
theorem Bj {n j:Nat}:(Fo n []).getD j .junk=.junk:=by
 simp only [Fo,List.getD_eq_getElem?_getD,List.getElem?_replicate]
 split <;> rfl
def mapW (f:L→L):List (Nat×L)→List (Nat×L)
 | []=>[]
 | (i,l) :: ws=>(i,f l) :: mapW f ws
theorem Vj {f:L→L} (h:f .junk=.junk) {n:Nat}:∀ {ws:List (Nat×L)},(Fo n ws).map f=Fo n (mapW f ws)
 | []=>by simp [Fo,mapW,h]
 | (i,l) :: ws=>by simp only [Fo,mapW,List.map_set,Vj h]
theorem Bl {d n:Nat} {ws:List (Nat×L)}:(Fo n ws).map (L.forget d)=Fo n (mapW (L.forget d) ws):=Vj rfl
theorem Dc {d n:Nat} {es:Fz} {ws:List (Nat×L)}:(Fo n ws).map (L.freeze d es)=Fo n (mapW (L.freeze d es) ws):=Vj rfl
theorem Cg {f:Nat→Option Nat} {n:Nat} {ws:List (Nat×L)}:(Fo n ws).map (L.map f)=Fo n (mapW (L.map f) ws):=Vj rfl
theorem Bf {f:L→L}:mapW f []=[]:=(rfl)
theorem A6 {f:L→L} {i:Nat} {l:L} {ws:List (Nat×L)}:mapW f ((i,l) :: ws)=(i,f l) :: mapW f ws:=(rfl)
def argW:Nat→List L→List (Nat×L)
 | _,[]=>[]
 | k,l :: ls=>(k,l) :: argW (k+1) ls
theorem Jff {n:Nat}:∀ (k:Nat) (ls:List L) (i:Nat),k+ls.length≤n→(Fo n (argW k ls))[i]? = if i<n then (if k≤i then (ls[i - k]?).orElse fun _=>some .junk else some .junk) else none
 | k,[],i,h=>by
  simp only [argW,Fo,List.getElem?_replicate]
  split
  ·split <;> simp
  ·rfl
 | k,l :: ls,i,h=>by
  simp only [List.length_cons] at h
  have ih:=Jff (n:=n) (k+1) ls i (by omega)
  simp only [argW,Fo,List.getElem?_set,Jz,ih]
  by_cases h1:k=i
  ·subst h1;simp
  ·simp only [if_neg h1]
   by_cases h2:i<n
   ·simp only [if_pos h2]
    by_cases h3:k+1≤i
    ·simp only [if_pos h3,if_pos (show k≤i by omega)]
     have:i - k=(i - (k+1))+1:=by omega
     rw [this,List.getElem?_cons_succ]
    ·simp only [if_neg h3,if_neg (show ¬ k≤i by omega)]
   ·simp only [if_neg h2]
theorem Jcg {n:Nat} {ls:List L} (h:ls.length≤n):ls ++ List.replicate (n - ls.length) .junk=Fo n (argW 0 ls):=by
 apply List.ext_getElem?
 intro i
 rw [Jff 0 ls i (by omega)]
 by_cases h1:i<ls.length
 ·rw [List.getElem?_append_left h1,if_pos (by omega),if_pos (Nat.zero_le _)]
  simp [h1]
 ·rw [List.getElem?_append_right (by omega),List.getElem?_replicate]
  by_cases h2:i<n
  ·rw [if_pos (by omega),if_pos h2,if_pos (Nat.zero_le _)]
   simp [h1]
  ·rw [if_neg (by omega),if_neg h2]
def wsLe (n:Nat) (ws:List (Nat×L)):List (Nat×L)→Prop
 | []=>True
 | (i,l) :: rest=>LLe ((Fo n ws).getD i .junk) l∧wsLe n ws rest
theorem Cm {n:Nat} {ws:List (Nat×L)}:wsLe n ws []=True:=(rfl)
theorem Ck {n i:Nat} {l:L} {ws rest:List (Nat×L)}:wsLe n ws ((i,l) :: rest)=(LLe ((Fo n ws).getD i .junk) l∧wsLe n ws rest):=(rfl)
theorem Jcj:∀ {a b:List L},a.length=b.length→(∀ i,LLe (a.getD i .junk) (b.getD i .junk))→Dg a b
 | [],[],_,_=>trivial
 | x :: a,y :: b,h,hi=>⟨by simpa using hi 0,Jcj (by simpa using h) fun i=>by simpa using hi (i+1)⟩
 | [],_ :: _,h,_=>by simp at h
 | _ :: _,[],h,_=>by simp at h
theorem Ji7 {n:Nat} {ws:List (Nat×L)}:∀ {rest:List (Nat×L)},wsLe n ws rest→∀ i,LLe ((Fo n ws).getD i .junk) ((Fo n rest).getD i .junk)
 | [],_,i=>by rw [Bj];exact .inl rfl
 | (j,l) :: rest,h,i=>by
  rw [Ac]
  split
  ·rename_i hj;subst hj
   split
   ·exact h.1
   ·exact .inl rfl
  ·exact Ji7 h.2 i
theorem St.le_slots {n:Nat} {ws ws':List (Nat×L)} {r r':Regs} (ht:wsLe n ws ws') (hr:Dj r r') (hk:Dk r'):St.Le ⟨Fo n ws,r⟩ ⟨Fo n ws',r'⟩ :=
 St.le_of (Jcj (by simp [Jz]) (Ji7 ht)) hr hk
theorem Bz.of_code {X:Cx} {f:FuncId} {fn:Func} {c:Code} {args:List L} {rs:Regs} {Post:L→Regs→Prop} (own:Bool) (rn:List (Nat×Nat)) (hrn:∀ x∈rn,x.2<1000∨500000≤x.2) (hf:X.P.funcs[f]? = some fn) (hname:(fn.name == "runtime.NumGoroutine")=false) (hb:fn.body=some c) (hn:args.length≤fn.ntmps)
  (h900:900 ∉ rs.map (·.1)) (h:SWP X none c (Jn8 X.P own rn fn.results.toList (rs.map (·.1)) Post) ⟨Fo fn.ntmps (argW 0 args),rs⟩):Bz X f args rs Post :=
 Bz.of_body2 own rn hrn hf hname hb h900 (by rw [Jcg hn];exact h)
end Go.LX
