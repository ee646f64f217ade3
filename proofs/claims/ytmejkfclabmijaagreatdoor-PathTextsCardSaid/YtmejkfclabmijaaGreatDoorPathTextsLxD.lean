/- States that say less; names of regions changed. -/
import Derived.Test.YtmejkfclabmijaaGreatDoorPathTextsLxC
import Derived.Test.YtmejkfclabmijaaGreatDoorProg
import Derived.RangeFuncLeaves
import Derived.RangeFuncRecord
set_option linter.unusedSimpArgs false
set_option linter.unusedVariables false
set_option linter.unusedSectionVars false
set_option linter.unnecessarySimpa false
namespace Go.LX
open Go Go.RowKit Go.Proofs
def LLe (l l':L):Prop:=l'=.junk∨l=l'∨(l=.p .snil∧l'=.p (.sl []))
def C9:List L→List L→Prop
 | [],[]=>True
 | l :: r,l' :: r'=>LLe l l'∧C9 r r'
 | _,_=>False
def Jm7:List (List L)→List (List L)→Prop
 | [],[]=>True
 | e :: r,e' :: r'=>C9 e e'∧Jm7 r r'
 | _,_=>False
def Ee:Reg→Reg→Prop
 | .var T cs,.var T' cs'=>T=T'∧C9 cs cs'
 | .row T sz es,.row T' sz' es'=>T=T'∧sz=sz'∧es=es'
 | .row T sz es,.lrow T' sz' f es'=>T=T'∧sz=sz'∧f=false∧es'=es.map fun e=>e.map L.p
 | .lrow T sz f es,.lrow T' sz' f' es'=>T=T'∧sz=sz'∧(f'=true→f=true)∧Jm7 es es'
 | .lrow T sz _ es,.row T' sz' es'=>T=T'∧sz=sz'∧Kr es=some es'
 | .obj o,.obj o'=>o=o'
 | _,_=>False
def Dc (rs:Regs):Regs→Prop
 | []=>True
 | (d,r') :: rest=>(match Bj d rs with | some r=>Ee r r' | none=>False)∧Dc rs rest
def De:Regs→Prop
 | []=>True
 | (d,_) :: rest=>d ∉ rest.map (·.1)∧De rest
theorem Aq (l:L):LLe l .junk:=.inl rfl
theorem A8 (l:L):LLe l l:=.inr (.inl rfl)
theorem Cm (x y:PV):LLe (.p x) (.p y) ↔ (x=y∨(x=.snil∧y=.sl [])):=by
 simp [LLe]
theorem LLe.rep {β:Env} {w:World} {Im:Nat→Prop} {v:Value} {l l':L} (h:LLe l l') (hr:LRep β w Im v l):LRep β w Im v l':=by
 rcases h with rfl | rfl | ⟨rfl,rfl⟩
 ·trivial
 ·exact hr
 ·cases hr;exact PRep.slNil
theorem Ql:∀ {a b:List L},C9 a b→a.length=b.length∧∀ (i:Nat) (l':L),b[i]? = some l'→∃ l,a[i]? = some l∧LLe l l'
 | [],[],_=>⟨rfl,fun i l' h=>by simp at h⟩
 | x :: a,y :: b,h=>by
  obtain ⟨h1,h2⟩:=h
  obtain ⟨h3,h4⟩:=Ql h2
  refine ⟨by simp [h3],fun i l' hl=>?_⟩
  cases i with
  | zero=>simp at hl;subst hl;exact ⟨x,rfl,h1⟩
  | succ i=>simp at hl;simpa using h4 i l' hl
 | [],_ :: _,h=>h.elim
 | _ :: _,[],h=>h.elim
theorem LLe.cell {l l':L} (h:LLe l l') (hc:l.cellOK=true∨l=.junk):l'.cellOK=true∨l'=.junk:=by
 rcases h with rfl | rfl | ⟨rfl,rfl⟩
 ·exact .inr rfl
 ·exact hc
 ·exact .inl rfl
theorem Jbn:∀ {a b:List (List L)},Jm7 a b→a.length=b.length∧∀ (i:Nat) (e':List L),b[i]? = some e'→∃ e,a[i]? = some e∧C9 e e'
 | [],[],_=>⟨rfl,fun i l' h=>by simp at h⟩
 | x :: a,y :: b,h=>by
  obtain ⟨h1,h2⟩:=h
  obtain ⟨h3,h4⟩:=Jbn h2
  refine ⟨by simp [h3],fun i l' hl=>?_⟩
  cases i with
  | zero=>simp at hl;subst hl;exact ⟨x,rfl,h1⟩
  | succ i=>simp at hl;simpa using h4 i l' hl
 | [],_ :: _,h=>h.elim
 | _ :: _,[],h=>h.elim
theorem Ee.rep {β:Env} {w:World} {Im:Nat→Prop} {d:Nat} {r r':Reg} (h:Ee r r') (hr:K5 β w Im d r):K5 β w Im d r':=by
 cases r <;> cases r' <;> simp only [Ee] at h
 ·obtain ⟨rfl,h⟩:=h
  obtain ⟨h1,h2⟩:=Ql h
  obtain ⟨loc,cur,g1,g2,g3,g4,g5,g6⟩:=hr
  refine ⟨loc,cur,g1,by rw [← h1];exact g2,g3,g4,by rw [← h1];exact g5,fun j v l hv hl=>?_⟩
  obtain ⟨l0,hl0,hle⟩:=h2 j l hl
  exact ⟨hle.rep (g6 j v l0 hv hl0).1,hle.cell (g6 j v l0 hv hl0).2⟩
 ·obtain ⟨rfl,rfl,rfl⟩:=h
  exact hr
 ·obtain ⟨rfl,rfl,rfl,rfl⟩:=h
  rcases hr with ⟨g1,g2⟩ | ⟨loc,cur,g1,g2,g3,g4,g5,g6,g7,g8⟩
  ·exact .inl ⟨g1,by simp [g2]⟩
  ·refine .inr ⟨loc,cur,g1,g2,g3,g4,by simpa using g5,fun h=>(by cases h),g6,fun e he=>?_,fun i e j l hi hj=>?_⟩
   ·obtain ⟨x,hx,rfl⟩:=List.mem_map.1 he
    simpa using (g7 x hx).1
   ·rw [List.getElem?_map] at hi
    obtain ⟨x,hx,rfl⟩:=Option.map_eq_some_iff.1 hi
    rw [List.getElem?_map] at hj
    obtain ⟨p,hp,rfl⟩:=Option.map_eq_some_iff.1 hj
    obtain ⟨v,hv,hpr⟩:=g8 i x j p hx hp
    exact ⟨v,hv,hpr,.inl ((g7 x (List.mem_of_getElem? hx)).2 p (List.mem_of_getElem? hp))⟩
 ·obtain ⟨rfl,rfl,h⟩:=h
  obtain ⟨h1,h2⟩:=Ny h
  rcases hr with ⟨g1,g2⟩ | ⟨loc,cur,g1,g2,g3,g4,g5,g6,g7,g8,g9⟩
  ·subst g2
   exact .inl ⟨g1,List.eq_nil_of_length_eq_zero (by simpa using h1.symm)⟩
  ·have key:∀ (i:Nat) (q:List PV) (j:Nat) (p:PV),‹List (List PV)›[i]? = some q→q[j]? = some p→∃ e,‹List (List L)›[i]? = some e∧e[j]? = some (.p p)∧e.length=q.length:=by
    intro i q j p hi hj
    obtain ⟨e,he,ha⟩:=h2 i q hi
    obtain ⟨k1,k2⟩:=Ha ha
    obtain ⟨l,hl⟩:=getElem?_of_length k1 hj
    have:=pure?_spec (k2 j l p hl hj)
    subst this
    exact ⟨e,he,hl,k1⟩
   refine .inr ⟨loc,cur,g1,g2,g3,g4,by rw [← h1];exact g5,g7,fun q hq=>?_,fun i q j p hi hj=>?_⟩
   ·obtain ⟨i,hi,rfl⟩:=List.getElem_of_mem hq
    obtain ⟨e,he,ha⟩:=h2 i _ (List.getElem?_eq_getElem hi)
    obtain ⟨k1,k2⟩:=Ha ha
    refine ⟨by rw [← k1];exact g8 e (List.mem_of_getElem? he),fun p hp=>?_⟩
    obtain ⟨j,hj,rfl⟩:=List.getElem_of_mem hp
    obtain ⟨e',he',hl',_⟩:=key i _ j _ (List.getElem?_eq_getElem hi) (List.getElem?_eq_getElem hj)
    obtain ⟨v,_,_,hc⟩:=g9 i e' j _ he' hl'
    rcases hc with hc | hc
    ·exact hc
    ·cases hc
   ·obtain ⟨e',he',hl',_⟩:=key i q j p hi hj
    obtain ⟨v,hv,hp,_⟩:=g9 i e' j _ he' hl'
    exact ⟨v,hv,hp⟩
 ·obtain ⟨rfl,rfl,hf,h⟩:=h
  obtain ⟨h1,h2⟩:=Jbn h
  rcases hr with ⟨g1,g2⟩ | ⟨loc,cur,g1,g2,g3,g4,g5,g6,g7,g8,g9⟩
  ·subst g2
   exact .inl ⟨g1,List.eq_nil_of_length_eq_zero (by simpa using h1.symm)⟩
  ·refine .inr ⟨loc,cur,g1,g2,g3,g4,by rw [← h1];exact g5,fun h=>by rw [← h1];exact g6 (hf h),g7,fun q hq=>?_,fun i q j l hi hj=>?_⟩
   ·obtain ⟨i,hi,rfl⟩:=List.getElem_of_mem hq
    obtain ⟨e,he,hle⟩:=h2 i _ (List.getElem?_eq_getElem hi)
    rw [← (Ql hle).1]
    exact g8 e (List.mem_of_getElem? he)
   ·obtain ⟨e,he,hle⟩:=h2 i q hi
    obtain ⟨l0,hl0,hl⟩:=(Ql hle).2 j l hj
    obtain ⟨v,hv,hr,hc⟩:=g9 i e j l0 he hl0
    exact ⟨v,hv,hl.rep hr,hl.cell hc⟩
 ·subst h
  exact hr
theorem Nb {rs:Regs}:∀ {rs':Regs},Dc rs rs'→∀ d r',(d,r')∈rs'→∃ r,(d,r)∈rs∧Ee r r'
 | [],_,d,r',h=>by cases h
 | (e,q) :: rest,h,d,r',hm=>by
  obtain ⟨h1,h2⟩:=h
  rcases List.mem_cons.1 hm with hm | hm
  ·cases hm
   split at h1
   ·rename_i r hr;exact ⟨r,Dj hr,h1⟩
   ·exact h1.elim
  ·exact Nb h2 d r' hm
theorem Yh:∀ {rs:Regs},De rs→(rs.map (·.1)).Nodup
 | [],_=>.nil
 | (d,r) :: rest,h=>by simp only [List.map_cons,List.nodup_cons];exact ⟨h.1,Yh h.2⟩
theorem St.le_of {s s':St} (ht:C9 s.tmps s'.tmps) (hr:Dc s.regs s'.regs) (hk:De s'.regs):s.Le s':=by
 rintro Γ a w ⟨ms,hdef,β,Im,hx⟩
 obtain ⟨h1,h2⟩:=Ql ht
 refine ⟨ms,hdef,β,Im,{ hx with fit:={ size:=by rw [← h1];exact hx.fit.size,tmps:=fun i l hl=>?_,regs:=fun d r hd=>?_,nodup:=Yh hk,live:=fun d r loc hd hl=>?_,apart:=fun d r d' r' l1 l2 hd hd' hne hl hl'=>?_,im:=hx.fit.im },regnew:=fun d r loc hd hl=>?_,marks:=fun D hD=>?_ }⟩
 ·obtain ⟨l0,hl0,hle⟩:=h2 i l hl
  exact hle.rep (hx.fit.tmps i l0 hl0)
 ·obtain ⟨r0,h3,h4⟩:=Nb hr d r hd
  exact h4.rep (hx.fit.regs d r0 h3)
 ·obtain ⟨r0,h3,h4⟩:=Nb hr d r hd
  exact hx.fit.live d r0 loc h3 hl
 ·obtain ⟨r0,h3,_⟩:=Nb hr d r hd
  obtain ⟨r1,h4,_⟩:=Nb hr d' r' hd'
  exact hx.fit.apart d r0 d' r1 l1 l2 h3 h4 hne hl hl'
 ·obtain ⟨r0,h3,h4⟩:=Nb hr d r hd
  exact hx.regnew d r0 loc h3 hl
 ·obtain ⟨m1,m2,m3,m4⟩:=hx.marks D hD
  refine ⟨m1,m2,m3,fun d r loc hd hl=>?_⟩
  obtain ⟨r0,h3,_⟩:=Nb hr d r hd
  exact m4 d r0 loc h3 hl
def Pt (d d' e:Nat):Option Nat:=if e=d then some d' else if e=d' then none else some e
def Oo (d d':Nat):Regs→Regs
 | []=>[]
 | (e,r) :: rest=>match Pt d d' e with
  | some n=>(n,r.map (Pt d d')) :: Oo d d' rest
  | none=>Oo d d' rest
def St.ren (d d':Nat) (s:St):St:=⟨s.tmps.map (L.map (Pt d d')),Oo d d' s.regs⟩
theorem Lz {d d' n:Nat} {q:Reg}:∀ {rs:Regs},(n,q)∈Oo d d' rs→∃ e r,(e,r)∈rs∧Pt d d' e=some n∧q=r.map (Pt d d')
 | [],h=>by cases h
 | (e,r) :: rest,h=>by
  simp only [Oo] at h
  split at h
  ·rename_i m hm
   rcases List.mem_cons.1 h with h | h
   ·cases h;exact ⟨e,r,List.mem_cons_self,hm,rfl⟩
   ·obtain ⟨e',r',h1,h2,h3⟩:=Lz h;exact ⟨e',r',List.mem_cons_of_mem _ h1,h2,h3⟩
  ·obtain ⟨e',r',h1,h2,h3⟩:=Lz h;exact ⟨e',r',List.mem_cons_of_mem _ h1,h2,h3⟩
theorem Jqk {d d' e e' n:Nat} (h:Pt d d' e=some n) (h':Pt d d' e'=some n):e=e':=by
 unfold Pt at h h'
 split at h <;> split at h'
 ·omega
 ·split at h' <;> simp_all
 ·split at h <;> simp_all
 ·split at h <;> split at h' <;> simp_all
theorem Sr {d d':Nat}:∀ {rs:Regs},(rs.map (·.1)).Nodup→((Oo d d' rs).map (·.1)).Nodup
 | [],_=>.nil
 | (e,r) :: rest,h=>by
  simp only [List.map_cons,List.nodup_cons] at h
  simp only [Oo]
  split
  ·rename_i n hn
   simp only [List.map_cons,List.nodup_cons]
   refine ⟨fun hm=>?_,Sr h.2⟩
   obtain ⟨⟨n',q⟩,hq,he⟩:=List.mem_map.1 hm
   simp only at he
   subst he
   obtain ⟨e',r',h1,h2,_⟩:=Lz hq
   exact h.1 (List.mem_map.2 ⟨(e',r'),h1,Jqk h2 hn⟩)
  ·exact Sr h.2
theorem St.le_ren (s:St) {d d':Nat} (hd':d'<1000∨500000≤d'):s.Le (s.ren d d'):=by
 rintro Γ a w ⟨ms,hdef,β,Im,hx⟩
 have hf:∀ e n,Pt d d' e=some n→Env.upd β d' (β d) n=β e:=by
  intro e n h
  unfold Pt at h
  split at h
  ·rename_i he;subst he;cases h;exact Jv
  ·split at h
   ·cases h
   ·rename_i h1 h2;cases h;exact Z7 h2
 refine ⟨ms,hdef,Env.upd β d' (β d),Im,{ hx with fit:={ size:=by simpa [St.ren] using hx.fit.size,tmps:=fun i l hl=>?_,regs:=fun n q hm=>?_,nodup:=Sr hx.fit.nodup,live:=fun n q loc hm hl=>?_,apart:=fun n q n' q' l1 l2 hm hm' hne hl hl'=>?_,im:=hx.fit.im },regnew:=fun n q loc hm hl=>?_,fixed:=fun e he he'=>by rw [Z7 (by omega)];exact hx.fixed e he he',marks:=fun D hD=>?_ }⟩
 ·simp only [St.ren,List.getElem?_map] at hl
  obtain ⟨l1,hl1,rfl⟩:=Option.map_eq_some_iff.1 hl
  exact (hx.fit.tmps i l1 hl1).map hf
 ·obtain ⟨e,r,h1,h2,rfl⟩:=Lz hm
  exact (hx.fit.regs e r h1).map hf (hf e n h2)
 ·obtain ⟨e,r,h1,h2,rfl⟩:=Lz hm
  rw [hf e n h2] at hl
  exact hx.fit.live e r loc h1 hl
 ·obtain ⟨e,r,h1,h2,rfl⟩:=Lz hm
  obtain ⟨e',r',k1,k2,rfl⟩:=Lz hm'
  rw [hf e n h2] at hl
  rw [hf e' n' k2] at hl'
  exact hx.fit.apart e r e' r' l1 l2 h1 k1 (fun hc=>hne (by subst hc;rw [h2] at k2;exact Option.some.inj k2)) hl hl'
 ·obtain ⟨e,r,h1,h2,rfl⟩:=Lz hm
  rw [hf e n h2] at hl
  exact hx.regnew e r loc h1 hl
 ·obtain ⟨m1,m2,m3,m4⟩:=hx.marks D hD
  refine ⟨m1,m2,m3,fun n q loc hm hl=>?_⟩
  obtain ⟨e,r,h1,h2,rfl⟩:=Lz hm
  rw [hf e n h2] at hl
  exact m4 e r loc h1 hl
def St.nilReg (d:Nat) (T:TypeId) (sz:Nat) (s:St):St:=⟨s.tmps.map (L.forget d),(d,.row T sz []) :: Ll d s.regs⟩
theorem RRx.nilReg {Γ:Base} {β:Env} {Im:Nat→Prop} {s:St} {tmps:Array Value} {w:World} (h:RRx Γ β Im s tmps w) {d:Nat} (hd:d<1000∨500000≤d) (T:TypeId) (sz:Nat):RRx Γ (Env.upd β d none) Im (s.nilReg d T sz) tmps w:=by
 have hβ:∀ e,e≠d→Env.upd β d none e=β e:=fun e he=>Z7 he
 have h2:=h.fit.forget (d:=d) hβ
 refine { h with fit:={ h2 with regs:=fun e q hq=>?_,nodup:=?_,live:=fun e q loc hq hl=>?_,apart:=fun e q e' q' loc loc' hq hq' hne hl hl'=>?_ },regnew:=fun e q loc hq hl=>?_,fixed:=fun e he he'=>by rw [hβ e (by omega)];exact h.fixed e he he',marks:=fun D hD=>?_ }
 ·rcases List.mem_cons.1 hq with hq | hq
  ·cases hq;exact .inl ⟨Jv,rfl⟩
  ·exact h2.regs e q hq
 ·simp only [St.nilReg,List.map_cons,List.nodup_cons]
  refine ⟨fun hm=>?_,h2.nodup⟩
  obtain ⟨⟨e,q⟩,hq,he⟩:=List.mem_map.1 hm
  exact (H0 hq).1 he
 ·rcases List.mem_cons.1 hq with hq | hq
  ·cases hq;rw [Jv] at hl;cases hl
  ·exact h2.live e q loc hq hl
 ·rcases List.mem_cons.1 hq with hq | hq
  ·cases hq;rw [Jv] at hl;cases hl
  ·rcases List.mem_cons.1 hq' with hq' | hq'
   ·cases hq';rw [Jv] at hl';cases hl'
   ·exact h2.apart e q e' q' loc loc' hq hq' hne hl hl'
 ·rcases List.mem_cons.1 hq with hq | hq
  ·cases hq;rw [Jv] at hl;cases hl
  ·obtain ⟨h3,q',h4,rfl⟩:=H0 hq
   rw [hβ e h3] at hl
   exact h.regnew e q' loc h4 hl
 ·obtain ⟨m1,m2,m3,m4⟩:=h.marks D hD
  refine ⟨m1,m2,m3,fun e q loc hq hl=>?_⟩
  rcases List.mem_cons.1 hq with hq | hq
  ·cases hq;rw [Jv] at hl;cases hl
  ·obtain ⟨h3,q',h4,rfl⟩:=H0 hq
   rw [hβ e h3] at hl
   exact m4 e q' loc h4 hl
def St.nilOwn (i d:Nat) (T:TypeId) (sz:Nat) (s:St):St:=(s.nilReg d T sz).put (some i) (.own d 0 0)
theorem St.le_nilOwn (s:St) {i d:Nat} (T:TypeId) (sz:Nat) (hd:d<1000∨500000≤d) (hi:s.tmps[i]? = some (.p .snil)):s.Le (s.nilOwn i d T sz):=by
 rintro Γ a w ⟨ms,hdef,β,Im,hx⟩
 have h1:=hx.nilReg hd T sz
 have hrep:=hx.fit.tmps i _ hi
 have hlt:=(List.getElem?_eq_some_iff.1 hi).1
 have hv:a.tmps.getD i undef=.slice none 0 0:=by generalize a.tmps.getD i undef=v at hrep;cases hrep;rfl
 have h2:RRx (Γ.wm ms) (Env.upd β d none) Im (s.nilOwn i d T sz) (a.put (some i) (.slice none 0 0)).tmps w:=h1.put (some i) (l:=.own d 0 0) (.inr ⟨Jv,rfl,rfl,rfl⟩)
 have e:(a.put (some i) (.slice none 0 0)).tmps=a.tmps:=by
  simp only [Act.put]
  have hsz:i<a.tmps.size:=by rw [hx.fit.size];exact hlt
  have:a.tmps[i]=.slice none 0 0:=by rw [← hv];simp [Array.getD_eq_getD_getElem?,hsz]
  rw [← Array.toList_inj]
  simp only [Array.toList_setIfInBounds]
  rw [← this]
  exact List.set_getElem_self (by simpa using hsz)
 rw [e] at h2
 exact ⟨ms,hdef,_,_,h2⟩
def X0 (j:Nat) (l:L):Reg→Reg
 | .var T cs=>.var T (cs.set j l)
 | r=>r
def St.nilCell (b j d:Nat) (T:TypeId) (sz:Nat) (s:St):St :=
 match Bj b (s.nilReg d T sz).regs with
 | some r=>{ (s.nilReg d T sz) with regs:=Iy b (X0 j (.own d 0 0) r) (s.nilReg d T sz).regs }
 | none=>s.nilReg d T sz
theorem St.le_nilCell (s:St) {b j d:Nat} (T:TypeId) (sz:Nat) (hd:d<1000∨500000≤d) {T':TypeId} {cs:List L} (hb:Bj b (s.nilReg d T sz).regs=some (.var T' cs)) (hj:cs[j]? = some (.p .snil)):s.Le (s.nilCell b j d T sz):=by
 rintro Γ a w ⟨ms,hdef,β,Im,hx⟩
 have h1:=hx.nilReg hd T sz
 have hmem:=Dj hb
 obtain ⟨loc,cur,g1,g2,g3,g4,g5,g6⟩:=h1.fit.regs b _ hmem
 have hreg:K5 (Env.upd β d none) w Im b (.var T' (cs.set j (.own d 0 0))):=by
  refine ⟨loc,cur,g1,by simpa using g2,g3,g4,by simpa using g5,fun k v l hv hl=>?_⟩
  rw [List.getElem?_set] at hl
  split at hl
  ·rename_i hk
   subst hk
   split at hl
   ·cases hl
    obtain ⟨h3,_⟩:=g6 j v _ hv hj
    refine ⟨?_,.inl rfl⟩
    have h3':PRep w Im v .snil:=h3
    cases h3'
    exact .inr ⟨Jv,rfl,rfl,rfl⟩
   ·cases hl
  ·exact g6 k v l hv hl
 refine ⟨ms,hdef,Env.upd β d none,Im,?_⟩
 have:=h1.store hmem g1 (w':=w) rfl rfl rfl rfl (fun _ _=>rfl) hreg
 simp only [St.nilCell,hb,X0]
 exact this
end Go.LX
namespace Go.LX
open Go Go.RowKit Go.Proofs
def cvF (P:Program) (a b:TypeId) (x:Operand) (dst:Option Tmp) (K:St→Prop) (s:St):Prop:=Vq P a b (s.get x) (kput dst K s)
def cvG (P:Program) (a b:TypeId) (s:St) (x:Operand) (dst:Option Tmp) (K:St→Prop) (l:L):Prop :=
 match l with
 | .ptr d 0 j=>Y7 P a b d j (Bj d s.regs) (kput dst K s)
 | .p (.str u)=>Jaa P a b u s dst K
 | _=>cvF P a b x dst K (s.freezeOps [x])
def lnil (l:L) (K:L→Prop):Prop :=
 match l with
 | .ptr d i j=>K (.ptr d i j)
 | .eptr cs=>K (.eptr cs)
 | .fn f ds=>K (.fn f ds)
 | _=>False
def Jcs (l:L) (i:Nat) (K:L→Prop):Prop :=
 match l with
 | .tup xs=>∃ c,xs[i]? = some c∧K (.p c)
 | _=>False
def Jpt (l a b:L) (K:L→Prop):Prop :=
 match l with
 | .p (.bool t)=>(t=true→K a)∧(t=false→K b)
 | _=>False
def Jtm (f:FuncId) (cs:List L) (K:L→Prop):Prop:=∃ ds,Ss cs=some ds∧K (.fn f ds)
def Hb (X:Cx) (f:FuncId) (args:List L) (K:L→Prop):Prop:=∃ l,(B2 X f args [] (fun m _=>m=l)∧l.retOK=true)∧K l
def lqvK (P:Program) (r:Regs) (s:St) (op:Op) (K:L→Prop):Prop:=∃ l,lqv P r s.get op l∧K l
section
variable {X:Cx} {ro:Option Nat} {Q:Ex→St→Prop} {K:St→Prop} {t:List L} {r:Regs} {ds:List (Option Tmp)} {rest:List Oper} {ty:TypeId} {ps:String} {af:Array Edge} {dst:Option Tmp}
theorem Dh {c:Code}:lwp X ro (.scope c) Q ⟨t,r⟩=lwp X ro c Q ⟨t,r⟩:=(rfl)
theorem Cb:lwp X ro .skip Q ⟨t,r⟩=Q .normal ⟨t,r⟩:=(rfl)
theorem Ah {id:Nat} {ops:Array Oper}:lwp X ro (.region id ops false) Q ⟨t,r⟩=lops X (ops.toList.map (·.dst)) ops.toList (Q .normal) ⟨t,r⟩:=(rfl)
theorem Bm {a b:Code}:lwp X ro (a.seq b) Q ⟨t,r⟩=lwp X ro a (kseq (lwp X ro b) Q) ⟨t,r⟩:=(rfl)
theorem Br {c:Operand} {a b:Code}:lwp X ro (.cond c a b) Q ⟨t,r⟩=Jbm ((St.mk t r).get c) (lwp X ro a Q) (lwp X ro b Q) ⟨t,r⟩:=(rfl)
theorem Ce {id:Nat} {c:Code}:lwp X ro (.block id c) Q ⟨t,r⟩=lwp X ro c (Jap id Q) ⟨t,r⟩:=(rfl)
theorem He {c:Code}:lwp X ro (.loop c) Q ⟨t,r⟩=SWP X ro (.loop c) Q ⟨t,r⟩:=(rfl)
theorem Eh {id:Nat}:lwp X ro (.exit id) Q ⟨t,r⟩=Q (.exit id) ⟨t,r⟩:=(rfl)
theorem Cn:lwp X ro .ret Q ⟨t,r⟩=Q .ret ⟨t,r⟩:=(rfl)
theorem Jof {l:Nat}:lwp X ro (.label l) Q ⟨t,r⟩=Q .normal ⟨t,r⟩:=(rfl)
theorem Ab {B:(Ex→St→Prop)→St→Prop}:kseq B Q .normal ⟨t,r⟩=B Q ⟨t,r⟩:=(rfl)
theorem Ci {B:(Ex→St→Prop)→St→Prop} {id:Nat}:kseq B Q (.exit id) ⟨t,r⟩=Q (.exit id) ⟨t,r⟩:=(rfl)
theorem B3 {B:(Ex→St→Prop)→St→Prop}:kseq B Q .ret ⟨t,r⟩=Q .ret ⟨t,r⟩:=(rfl)
theorem Bk {id:Nat}:Jap id Q .normal ⟨t,r⟩=Q .normal ⟨t,r⟩:=(rfl)
theorem B0 {id id':Nat}:Jap id Q (.exit id') ⟨t,r⟩=if id'=id then Q .normal ⟨t,r⟩ else Q (.exit id') ⟨t,r⟩:=(rfl)
theorem Ea {id:Nat}:Jap id Q .ret ⟨t,r⟩=Q .ret ⟨t,r⟩:=(rfl)
theorem Bd:lops X ds [] K ⟨t,r⟩=K ⟨t,r⟩:=(rfl)
theorem A1 {op:Op}:lops X ds (⟨dst,op,ty,ps,af,none⟩ :: rest) K ⟨t,r⟩=lop X ⟨dst,op,ty,ps,af,none⟩ (lops X ds rest K) ⟨t,r⟩:=(rfl)
theorem Da {op:Op} {g:Nat×Bool}:lops X ds (⟨dst,op,ty,ps,af,some g⟩ :: rest) K ⟨t,r⟩=Qt ds (some g) (lop X ⟨dst,op,ty,ps,af,some g⟩ (lops X ds rest K)) (Qy dst (lops X ds rest K)) ⟨t,r⟩:=(rfl)
theorem Mv:Uj X ds [] K ⟨t,r⟩=K ⟨t,r⟩:=(rfl)
theorem Kf {op:Op}:Uj X ds (⟨dst,op,ty,ps,af,none⟩ :: rest) K ⟨t,r⟩=lqc X ⟨t,r⟩ ⟨dst,op,ty,ps,af,none⟩ (kput dst (Uj X ds rest K) ⟨t,r⟩):=(rfl)
theorem M3 {op:Op} {g:Nat×Bool}:Uj X ds (⟨dst,op,ty,ps,af,some g⟩ :: rest) K ⟨t,r⟩=Qt ds (some g) (kq X ⟨dst,op,ty,ps,af,some g⟩ (Uj X ds rest K)) (Qy dst (Uj X ds rest K)) ⟨t,r⟩:=(rfl)
theorem Jep {o:Oper}:kq X o K ⟨t,r⟩=lqc X ⟨t,r⟩ o (kput o.dst K ⟨t,r⟩):=(rfl)
theorem Bc {d:Tmp} {l:L}:kput (some d) K ⟨t,r⟩ l=K ⟨t.set d l,r⟩:=(rfl)
theorem D9 {d:Tmp}:Qy (some d) K ⟨t,r⟩=K ⟨t.set d (.tup []),r⟩:=(rfl)
theorem C1:Qy none K ⟨t,r⟩=K ⟨t,r⟩:=(rfl)
theorem Ct {d:Tmp} {l:L}:(St.mk t r).put (some d) l=⟨t.set d l,r⟩:=(rfl)
theorem Jhl:(St.mk t r).tmps=t:=(rfl)
theorem Jhu:(St.mk t r).regs=r:=(rfl)
theorem Bf {i:Nat}:(St.mk t r).get (.tmp i)=t.getD i .junk:=(rfl)
theorem A0 {v:Value}:(St.mk t r).get (.const v)=Sb v:=(rfl)
theorem Ch {f:FuncId}:(St.mk t r).get (.func f)=.fn f []:=(rfl)
theorem Cw {b:Bool}:Sb (.bool b)=.p (.bool b):=(rfl)
theorem Ca {k:IntKind} {n:Int}:Sb (.int k n)=.p (.int k n):=(rfl)
theorem F6 {a:Array UInt8}:Sb (.string ⟨a⟩)=.p (.str a.toList):=(rfl)
theorem E4:Sb (.slice none 0 0)=.p .snil:=(rfl)
theorem Jny:Sb (.pointer none)=.p .nptr:=(rfl)
theorem Jn3:Sb (.map none)=.p .nmap:=(rfl)
theorem Lf:Sb .nilIface=.p .nifc:=(rfl)
theorem v_nfn:Sb .nilFunc=.p .nfn:=(rfl)
variable {g:Option (Nat×Bool)} {d:Tmp}
theorem A9 {x:Operand}:lop X ⟨dst,.move x,ty,ps,af,g⟩ K ⟨t,r⟩=kput dst K ⟨t,r⟩ ((St.mk t r).get x):=by cases dst <;> exact (rfl)
theorem Aj {x:Operand}:lop X ⟨dst,.assign x,ty,ps,af,g⟩ K ⟨t,r⟩=kput dst K ⟨t,r⟩ ((St.mk t r).get x):=by cases dst <;> exact (rfl)
theorem B8 {op:BinOp} {tx ty':TypeId} {x y:Operand}:lop X ⟨dst,.binOp op tx x y ty',ty,ps,af,g⟩ K ⟨t,r⟩=lbin X.P op tx (Nv x || Nv y) ((St.mk t r).get x) ((St.mk t r).get y) (kput dst K ⟨t,r⟩):=by cases dst <;> exact (rfl)
theorem N7 {op:UnOp} {tx:TypeId} {x:Operand}:lop X ⟨dst,.unOp op tx x,ty,ps,af,g⟩ K ⟨t,r⟩=lun op ((St.mk t r).get x) (kput dst K ⟨t,r⟩):=by cases dst <;> exact (rfl)
theorem Kb {a b:TypeId} {x:Operand}:lop X ⟨dst,.convert a b x,ty,ps,af,g⟩ K ⟨t,r⟩=cvG X.P a b ⟨t,r⟩ x dst K ((St.mk t r).get x):=by cases dst <;> exact (rfl)
theorem D0 {c a b:Operand}:lop X ⟨dst,.pick c a b,ty,ps,af,g⟩ K ⟨t,r⟩=Jpt ((St.mk t r).get c) ((St.mk t r).get a) ((St.mk t r).get b) (kput dst K ⟨t,r⟩):=by cases dst <;> exact (rfl)
theorem Wr {x:Operand}:lop X ⟨dst,.nilCheck x,ty,ps,af,g⟩ K ⟨t,r⟩=lnil ((St.mk t r).get x) (kput dst K ⟨t,r⟩):=by cases dst <;> exact (rfl)
theorem Ed {tx:TypeId} {x:Operand}:lop X ⟨dst,.load tx x,ty,ps,af,g⟩ K ⟨t,r⟩=Uo X.P r tx ((St.mk t r).get x) (kput dst K ⟨t,r⟩):=by cases dst <;> exact (rfl)
theorem Fk {tx:TypeId} {a x:Operand}:lop X ⟨dst,.store tx a x,ty,ps,af,g⟩ K ⟨t,r⟩=Zh X.P tx ⟨t,r⟩ a x (Qy dst K):=by cases dst <;> exact (rfl)
theorem C8 {tx:TypeId} {x:Operand} {f:Nat}:lop X ⟨dst,.fieldAddr tx x f,ty,ps,af,g⟩ K ⟨t,r⟩=Nt X.P tx ((St.mk t r).get x) f (kput dst K ⟨t,r⟩):=by cases dst <;> exact (rfl)
theorem Cv {tx:TypeId} {x i:Operand}:lop X ⟨dst,.indexAddr tx x i,ty,ps,af,g⟩ K ⟨t,r⟩=Mr X.P r tx ((St.mk t r).get x) ((St.mk t r).get i) (kput dst K ⟨t,r⟩):=by cases dst <;> exact (rfl)
theorem I7 {tx:TypeId} {x i:Operand}:lop X ⟨dst,.index tx x i,ty,ps,af,g⟩ K ⟨t,r⟩=Ui X.P tx ((St.mk t r).get x) ((St.mk t r).get i) (kput dst K ⟨t,r⟩):=by cases dst <;> exact (rfl)
def slG (P:Program) (o:Oper) (tx:TypeId) (x:Operand) (lo hi:Option Operand) (dst:Option Tmp) (K:St→Prop) (s:St) (l:L):Prop :=
 match l with
 | .ptr d 0 0=>larr P tx s d lo hi (kput dst K) (Bj d s.regs)
 | _=>R1 P s.regs tx s.get x lo hi none (kput dst K s)
theorem E7 {tx:TypeId} {x:Operand} {lo hi:Option Operand}:lop X ⟨dst,.slice tx x lo hi none,ty,ps,af,g⟩ K ⟨t,r⟩=slG X.P ⟨dst,.slice tx x lo hi none,ty,ps,af,g⟩ tx x lo hi dst K ⟨t,r⟩ ((St.mk t r).get x):=by cases dst <;> exact (rfl)
theorem Ek {x:Operand} {i:Nat}:lop X ⟨dst,.extract x i,ty,ps,af,g⟩ K ⟨t,r⟩=Jcs ((St.mk t r).get x) i (kput dst K ⟨t,r⟩):=by cases dst <;> exact (rfl)
theorem Ka {tx:TypeId} {pt:Array (Nat×Operand)}:lop X ⟨dst,.build tx pt,ty,ps,af,g⟩ K ⟨t,r⟩=Ji7 X.P tx (pt.toList.map fun (i,x)=>(i,(St.mk t r).get x)) (kput dst K ⟨t,r⟩):=by cases dst <;> exact (rfl)
theorem Jd0 {f:FuncId} {caps:Array Operand}:lop X ⟨dst,.makeFunc (.func f) #[] caps,ty,ps,af,g⟩ K ⟨t,r⟩=Jtm f (caps.toList.map (St.mk t r).get) (kput dst K ⟨t,r⟩):=by cases dst <;> simp only [lop,lq,Jtm,true_and]
theorem Dw {x:Operand} {tx:TypeId}:lop X ⟨dst,.call { callee:=.builtin .len,args:=#[x],argTypes:=#[tx] },ty,ps,af,g⟩ K ⟨t,r⟩=llen X.P tx ((St.mk t r).get x) (kput dst K ⟨t,r⟩):=by cases dst <;> exact (rfl)
theorem p_min {args:Array Operand} {ats:Array TypeId}:lop X ⟨dst,.call { callee:=.builtin .min,args:=args,argTypes:=ats },ty,ps,af,g⟩ K ⟨t,r⟩=P7 false (args.toList.map (St.mk t r).get) (kput dst K ⟨t,r⟩):=by cases dst <;> exact (rfl)
theorem Hv {T:TypeId}:lop X ⟨some d,.alloc T,ty,ps,af,g⟩ K ⟨t,r⟩=Jh8 X.P d T ⟨t,r⟩ K:=(rfl)
theorem Un {T:TypeId} {x:Operand}:lop X ⟨some d,.box T x,ty,ps,af,g⟩ K ⟨t,r⟩=lbox d T ⟨t,r⟩ x K:=(rfl)
theorem Df {tx:TypeId} {n:Nat} {pt:Array (Nat×Operand)}:lop X ⟨some d,.buildSlice tx n pt,ty,ps,af,g⟩ K ⟨t,r⟩=Qh X.P d tx n ⟨t,r⟩ pt.toList K:=(rfl)
theorem Jbf {tx:TypeId} {l c:Operand}:lop X ⟨some d,.makeSlice tx l c,ty,ps,af,g⟩ K ⟨t,r⟩=R4 X.P d tx ⟨t,r⟩ l c K:=(rfl)
theorem Xo {x y:Operand} {t1 t2:TypeId}:lop X ⟨dst,.call { callee:=.builtin .copy,args:=#[x,y],argTypes:=#[t1,t2] },ty,ps,af,g⟩ K ⟨t,r⟩=Jgz X.P t1 t2 ⟨t,r⟩ x y (kput dst K):=(rfl)
theorem F8 {x y:Operand} {t1 t2:TypeId}:lop X ⟨some d,.call { callee:=.builtin .append,args:=#[x,y],argTypes:=#[t1,t2] },ty,ps,af,g⟩ K ⟨t,r⟩=We X.P d t1 t2 ⟨t,r⟩ x y K:=(rfl)
theorem Cg {f:Operand} {args:Array Operand} {ats:Array TypeId}:lop X ⟨dst,.call { callee:=.value f,args:=args,argTypes:=ats },ty,ps,af,g⟩ K ⟨t,r⟩=Jo8 X ⟨t,r⟩ f args.toList dst K:=by cases dst <;> exact (rfl)
theorem Zp {tx:TypeId}:lop X ⟨some d,.makeMap tx none,ty,ps,af,g⟩ K ⟨t,r⟩=X3 d ⟨t,r⟩ K:=(rfl)
theorem V1 {tx:TypeId} {x:Operand}:lop X ⟨some d,.range tx x,ty,ps,af,g⟩ K ⟨t,r⟩=Jjc X.P d tx ⟨t,r⟩ x K:=(rfl)
theorem Vl {it:Operand} {b:Bool}:lop X ⟨dst,.next it b,ty,ps,af,g⟩ K ⟨t,r⟩=Jkh ⟨t,r⟩ it b (kput dst K):=by cases dst <;> exact (rfl)
theorem Jph {it:Operand}:lop X ⟨dst,.entry it,ty,ps,af,g⟩ K ⟨t,r⟩=Jdq ⟨t,r⟩ it (kput dst K ⟨t,r⟩):=by cases dst <;> exact (rfl)
theorem Ja8 {tx:TypeId} {m k v:Operand}:lop X ⟨dst,.mapUpdate tx m k v,ty,ps,af,g⟩ K ⟨t,r⟩=Ns X.P tx ⟨t,r⟩ m k v (Qy dst K):=by cases dst <;> exact (rfl)
theorem Jl3 {tx:TypeId} {m k v:Operand}:lop X ⟨dst,.insert tx m k v,ty,ps,af,g⟩ K ⟨t,r⟩=Ns X.P tx ⟨t,r⟩ m k v (Qy dst K):=by cases dst <;> exact (rfl)
theorem Jlo {m k:Operand} {t1 t2:TypeId}:lop X ⟨dst,.call { callee:=.builtin .delete,args:=#[m,k],argTypes:=#[t1,t2] },ty,ps,af,g⟩ K ⟨t,r⟩=V4 X.P t1 ⟨t,r⟩ m k (Qy dst K):=by cases dst <;> exact (rfl)
def usR (P:Program) (o:Option TypeDesc) (d:Nat) (n:Int) (s:St) (N:St→L→Prop) (q:Option Reg):Prop :=
 match q with
 | some (.row T 1 es)=>o=some (.pointer T)∧P.cellsOf T=1∧∃ bs,Lk es=some bs∧n=bs.length∧bs≠[]∧bs.length≤9223372036854775807∧N (s.forget d) (.p (.str bs))
 | _=>False
def usT (P:Program) (o:Option TypeDesc) (d:Nat) (s:St) (N:St→L→Prop) (ly:L):Prop :=
 match ly with
 | .p (.int .i64 n)=>usR P o d n s N (Bj d s.regs)
 | _=>False
def Joj (X:Cx) (t1:TypeId) (dst:Option Tmp) (y:Operand) (K:St→Prop) (s:St) (l:L):Prop :=
 match l with
 | .p .nptr=>(∃ k,s.get y=.p (.int k 0))∧K (s.put dst (.p (.str [])))
 | .ptr d 0 0=>usT X.P (X.P.underlying t1) d s (kput dst K) (s.get y)
 | _=>False
theorem Jnh {x y:Operand} {t1 t2:TypeId}:lop X ⟨dst,.call { callee:=.builtin .unsafeString,args:=#[x,y],argTypes:=#[t1,t2] },ty,ps,af,g⟩ K ⟨t,r⟩=Joj X t1 dst y K ⟨t,r⟩ ((St.mk t r).get x):=by
 have h:lop X ⟨dst,.call { callee:=.builtin .unsafeString,args:=#[x,y],argTypes:=#[t1,t2] },ty,ps,af,g⟩ K ⟨t,r⟩=Jou X ⟨dst,.call { callee:=.builtin .unsafeString,args:=#[x,y],argTypes:=#[t1,t2] },ty,ps,af,g⟩ dst [x,y] [t1,t2] ⟨t,r⟩ K:=by cases dst <;> exact (rfl)
 rw [h]
 unfold Jou Joj
 simp only
 split
 ·rename_i hx
  rw [hx]
  apply propext
  constructor
  ·rintro ⟨l,⟨_,h1,rfl⟩,hK⟩;exact ⟨h1,hK⟩
  ·rintro ⟨h1,hK⟩;exact ⟨_,⟨hx,h1,rfl⟩,hK⟩
 ·rename_i hx
  split
  ·rename_i hy;exact absurd hy hx
  ·rename_i d hy
   unfold Rl usT usR
   rw [hy]
   cases hq:(St.mk t r).get y with
   | p v =>
    cases v with
    | int k n=>cases k <;> rfl
    | _=>rfl
   | _=>rfl
  ·rename_i h1 h2
   unfold Rl
   cases hq:(St.mk t r).get x with
   | ptr d i j =>
    cases i with
    | zero=>cases j with
     | zero=>exact absurd hq (h2 d)
     | succ j=>rfl
    | succ i=>rfl
   | _=>rfl
theorem Jca {tx:TypeId} {x:Operand}:lop X ⟨dst,.makeInterface tx x,ty,ps,af,g⟩ K ⟨t,r⟩=lqvK X.P r ⟨t,r⟩ (.makeInterface tx x) (kput dst K ⟨t,r⟩):=by cases dst <;> exact (rfl)
theorem Xx {tx:TypeId} {x i:Operand} {b:Bool}:lop X ⟨dst,.lookup tx x i b,ty,ps,af,g⟩ K ⟨t,r⟩=lqvK X.P r ⟨t,r⟩ (.lookup tx x i b) (kput dst K ⟨t,r⟩):=by cases dst <;> exact (rfl)
theorem Jc0 {x:Operand} {tx:TypeId}:lop X ⟨dst,.call { callee:=.builtin .cap,args:=#[x],argTypes:=#[tx] },ty,ps,af,g⟩ K ⟨t,r⟩=lqvK X.P r ⟨t,r⟩ (.call { callee:=.builtin .cap,args:=#[x],argTypes:=#[tx] }) (kput dst K ⟨t,r⟩):=by cases dst <;> exact (rfl)
variable {C:L→Prop}
theorem Jn {x:Operand}:lqc X ⟨t,r⟩ ⟨dst,.move x,ty,ps,af,g⟩ C=C ((St.mk t r).get x):=(rfl)
theorem S1 {x:Operand}:lqc X ⟨t,r⟩ ⟨dst,.assign x,ty,ps,af,g⟩ C=C ((St.mk t r).get x):=(rfl)
theorem M7 {op:BinOp} {tx ty':TypeId} {x y:Operand}:lqc X ⟨t,r⟩ ⟨dst,.binOp op tx x y ty',ty,ps,af,g⟩ C=lbin X.P op tx (Nv x || Nv y) ((St.mk t r).get x) ((St.mk t r).get y) C:=(rfl)
theorem Jby {op:UnOp} {tx:TypeId} {x:Operand}:lqc X ⟨t,r⟩ ⟨dst,.unOp op tx x,ty,ps,af,g⟩ C=lun op ((St.mk t r).get x) C:=(rfl)
theorem Pd {c a b:Operand}:lqc X ⟨t,r⟩ ⟨dst,.pick c a b,ty,ps,af,g⟩ C=Jpt ((St.mk t r).get c) ((St.mk t r).get a) ((St.mk t r).get b) C:=(rfl)
theorem Xl {x:Operand}:lqc X ⟨t,r⟩ ⟨dst,.nilCheck x,ty,ps,af,g⟩ C=lnil ((St.mk t r).get x) C:=(rfl)
theorem Mq {tx:TypeId} {x:Operand}:lqc X ⟨t,r⟩ ⟨dst,.load tx x,ty,ps,af,g⟩ C=Uo X.P r tx ((St.mk t r).get x) C:=(rfl)
theorem O2 {tx:TypeId} {x:Operand} {f:Nat}:lqc X ⟨t,r⟩ ⟨dst,.fieldAddr tx x f,ty,ps,af,g⟩ C=Nt X.P tx ((St.mk t r).get x) f C:=(rfl)
theorem I4 {tx:TypeId} {x i:Operand}:lqc X ⟨t,r⟩ ⟨dst,.indexAddr tx x i,ty,ps,af,g⟩ C=Mr X.P r tx ((St.mk t r).get x) ((St.mk t r).get i) C:=(rfl)
theorem Xw {tx:TypeId} {x i:Operand}:lqc X ⟨t,r⟩ ⟨dst,.index tx x i,ty,ps,af,g⟩ C=Ui X.P tx ((St.mk t r).get x) ((St.mk t r).get i) C:=(rfl)
theorem Pn {tx:TypeId} {x:Operand} {lo hi mx:Option Operand}:lqc X ⟨t,r⟩ ⟨dst,.slice tx x lo hi mx,ty,ps,af,g⟩ C=R1 X.P r tx (St.mk t r).get x lo hi mx C:=(rfl)
theorem Zq {x:Operand} {i:Nat}:lqc X ⟨t,r⟩ ⟨dst,.extract x i,ty,ps,af,g⟩ C=Jcs ((St.mk t r).get x) i C:=(rfl)
theorem Jfx {x:Operand} {tx:TypeId}:lqc X ⟨t,r⟩ ⟨dst,.call { callee:=.builtin .len,args:=#[x],argTypes:=#[tx] },ty,ps,af,g⟩ C=llen X.P tx ((St.mk t r).get x) C:=(rfl)
theorem Je2 {tx:TypeId} {x i:Operand} {b:Bool}:lqc X ⟨t,r⟩ ⟨dst,.lookup tx x i b,ty,ps,af,g⟩ C=lqvK X.P r ⟨t,r⟩ (.lookup tx x i b) C:=(rfl)
theorem q_usd {x:Operand} {tx:TypeId}:lqc X ⟨t,r⟩ ⟨dst,.call { callee:=.builtin .unsafeSliceData,args:=#[x],argTypes:=#[tx] },ty,ps,af,g⟩ C=lqvK X.P r ⟨t,r⟩ (.call { callee:=.builtin .unsafeSliceData,args:=#[x],argTypes:=#[tx] }) C:=(rfl)
theorem Ot {f:FuncId} {args:Array Operand} {ats:Array TypeId}:lqc X ⟨t,r⟩ ⟨dst,.call { callee:=.value (.func f),args:=args,argTypes:=ats },ty,ps,af,g⟩ C=Hb X f (args.toList.map (St.mk t r).get) C:=(rfl)
end
end Go.LX
namespace Go.LX
open Go Go.Proofs
theorem f_u2:Tryz.prog.underlying 2=some (.int .i64):=by kernel_rfl
theorem Uq:Tryz.prog.underlying 3=some (.int .i64):=by kernel_rfl
theorem Ox:Ju Tryz.prog 3=some false:=by kernel_rfl
theorem Mm:Tryz.prog.cellsOf 3=1:=by kernel_rfl
theorem f_u4:Tryz.prog.underlying 4=some (.bool):=by kernel_rfl
theorem Pa:Ju Tryz.prog 4=some false:=by kernel_rfl
theorem M1:Tryz.prog.cellsOf 4=1:=by kernel_rfl
theorem f_z4:Jf Tryz.prog 4=some [.bool false]:=by kernel_rfl
theorem f_b4:Ic Tryz.prog 4=some 1:=by kernel_rfl
theorem Qs:Tryz.prog.underlying 5=some (.int .u8):=by kernel_rfl
theorem f_a5:Ju Tryz.prog 5=some false:=by kernel_rfl
theorem f_c5:Tryz.prog.cellsOf 5=1:=by kernel_rfl
theorem Jac:Jf Tryz.prog 5=some [.int .u8 0]:=by kernel_rfl
theorem Jg4:Pe Tryz.prog 5=some (.int .u8 0):=by kernel_rfl
theorem Jit:Ic Tryz.prog 5=some 1:=by kernel_rfl
theorem Hi:Tryz.prog.underlying 9=some (.string):=by kernel_rfl
theorem L5:Ju Tryz.prog 9=some false:=by kernel_rfl
theorem Kg:Tryz.prog.cellsOf 9=1:=by kernel_rfl
theorem W6:Jf Tryz.prog 9=some [.str []]:=by kernel_rfl
theorem Jfr:Ic Tryz.prog 9=some 16:=by kernel_rfl
theorem Q0:Tryz.prog.underlying 21=some (.int .i32):=by kernel_rfl
theorem Jni:Pe Tryz.prog 21=some (.int .i32 0):=by kernel_rfl
theorem Ir:Tryz.prog.underlying 23=some (.slice 47):=by kernel_rfl
theorem J8:slE Tryz.prog 23=some (47,3):=by kernel_rfl
theorem Qx:Tryz.prog.underlying 34=some (.slice 53):=by kernel_rfl
theorem Q1:Ju Tryz.prog 34=some false:=by kernel_rfl
theorem Ng:Tryz.prog.cellsOf 34=1:=by kernel_rfl
theorem Kc:slE Tryz.prog 34=some (53,6):=by kernel_rfl
theorem Ph:Jf Tryz.prog 34=some [.snil]:=by kernel_rfl
theorem Ul:Ic Tryz.prog 34=some 24:=by kernel_rfl
theorem Ps:Tryz.prog.underlying 44=some (.slice 34):=by kernel_rfl
theorem Ja9:Ju Tryz.prog 44=some false:=by kernel_rfl
theorem Ja6:Tryz.prog.cellsOf 44=1:=by kernel_rfl
theorem Lx:slE Tryz.prog 44=some (34,1):=by kernel_rfl
theorem Jpb:Jf Tryz.prog 44=some [.snil]:=by kernel_rfl
theorem J0:Ju Tryz.prog 47=some true:=by kernel_rfl
theorem Jm:Tryz.prog.cellsOf 47=3:=by kernel_rfl
theorem Jj:fld Tryz.prog 47 0=some (0,4):=by kernel_rfl
theorem Iq:fld Tryz.prog 47 1=some (1,9):=by kernel_rfl
theorem L6:fld Tryz.prog 47 2=some (2,3):=by kernel_rfl
theorem L8:Ou Tryz.prog 47=true:=by kernel_rfl
theorem f_t47:Jd7 Tryz.prog 47=some [.bool,.str,.int]:=by kernel_rfl
theorem Jy:Jf Tryz.prog 47=some [.bool false,.str [],.int .i64 0]:=by kernel_rfl
theorem Wq:Ic Tryz.prog 47=some 32:=by kernel_rfl
theorem Jpu:Ju Tryz.prog 53=some true:=by kernel_rfl
theorem Jg0:Tryz.prog.cellsOf 53=6:=by kernel_rfl
theorem Lm:fld Tryz.prog 53 0=some (0,3):=by kernel_rfl
theorem Lb:fld Tryz.prog 53 1=some (1,3):=by kernel_rfl
theorem Tr:fld Tryz.prog 53 2=some (2,9):=by kernel_rfl
theorem Z5:Ou Tryz.prog 53=true:=by kernel_rfl
theorem f_t53:Jd7 Tryz.prog 53=some [.int,.int,.str,.str,.bool,.int]:=by kernel_rfl
theorem Sd:Jf Tryz.prog 53=some [.int .i64 0,.int .i64 0,.str [],.str [],.bool false,.int .i64 0]:=by kernel_rfl
theorem Yv:Ic Tryz.prog 53=some 64:=by kernel_rfl
theorem M4:Tryz.prog.underlying 67=some (.slice 9):=by kernel_rfl
theorem Joz:Ju Tryz.prog 67=some false:=by kernel_rfl
theorem Jow:Tryz.prog.cellsOf 67=1:=by kernel_rfl
theorem Ln:slE Tryz.prog 67=some (9,1):=by kernel_rfl
theorem f_z67:Jf Tryz.prog 67=some [.snil]:=by kernel_rfl
theorem Xn:Tryz.prog.underlying 113=some (.interface #[("Error",129)]):=by kernel_rfl
theorem Jhr:Tryz.prog.underlying 122=some (.int .u64):=by kernel_rfl
theorem Jil:Tryz.prog.underlying 125=some (.pointer 128):=by kernel_rfl
theorem Jmx:Ju Tryz.prog 125=some false:=by kernel_rfl
theorem Jiq:Tryz.prog.cellsOf 125=1:=by kernel_rfl
theorem Qu:Tryz.prog.underlying 126=some (.slice 5):=by kernel_rfl
theorem Ts:Ju Tryz.prog 126=some false:=by kernel_rfl
theorem Tw:Tryz.prog.cellsOf 126=1:=by kernel_rfl
theorem Pq:slE Tryz.prog 126=some (5,1):=by kernel_rfl
theorem Jhy:Tryz.prog.cellsOf 128=2:=by kernel_rfl
theorem X1:fld Tryz.prog 128 0=some (0,125):=by kernel_rfl
theorem Pi:fld Tryz.prog 128 1=some (1,126):=by kernel_rfl
theorem Jhm:Jf Tryz.prog 128=some [.nptr,.snil]:=by kernel_rfl
theorem Jsp:(Tryz.prog.info? 128).isSome=true:=by kernel_rfl
theorem Va:slE Tryz.prog 176=some (4,1):=by kernel_rfl
theorem Jds:mapT Tryz.prog 181=some (21,5):=by kernel_rfl
theorem Jan:Tryz.prog.underlying 189=some (.int .u64):=by kernel_rfl
theorem f_u191:Tryz.prog.underlying 191=some (.pointer 5):=by kernel_rfl
theorem Jr2:Tryz.prog.underlying 210=some (.map 5 21):=by kernel_rfl
theorem Jh4:mapT Tryz.prog 210=some (5,21):=by kernel_rfl
theorem Jix:Tryz.prog.underlying 213=some (.int .i64):=by kernel_rfl
theorem Jma:Tryz.prog.underlying 221=some (.unsafePointer):=by kernel_rfl
theorem Jey:Tryz.prog.underlying 237=some (.int .u32):=by kernel_rfl
theorem Jhv:arE Tryz.prog 253=some (65,5,1):=by kernel_rfl
theorem hm:Tryz.prog.follows .mixedOrders=true:=by kernel_rfl
end Go.LX
namespace Go.LX
open Go Go.RowKit Go.Proofs
def Det (X:Cx) (f:FuncId) (args:List L) (rs:Regs) (l:L) (rs':Regs):Prop:=B2 X f args rs fun m q=>m=l∧q=rs'
theorem Det.use {X:Cx} {f:FuncId} {args:List L} {rs:Regs} {l:L} {rs':Regs} {Post:L→Regs→Prop} (h:Det X f args rs l rs') (hp:Post l rs'):B2 X f args rs Post :=
 h.mono fun m q ⟨h1,h2⟩=>by subst h1;subst h2;exact hp
theorem Det.useQ {X:Cx} {f:FuncId} {args:List L} {l:L} {C:L→Prop} (h:Det X f args [] l []) (hp:C l) (hr:l.retOK=true:=by rfl):Hb X f args C:=⟨l,⟨h.mono fun _ _ h=>h.1,hr⟩,hp⟩
theorem Dp.use {X:Cx} {g:FuncId} {args:List L} {l:L} {s:St} {dst:Option Tmp} {K:St→Prop} (h:Dp X g args s.regs l) (hK:K (s.put dst l)):lextR X g args s dst K:=⟨l,h,hK⟩
theorem Er.use {X:Cx} {g:FuncId} {args:List L} {l:L} {s:St} {dst:Option Tmp} {K:St→Prop} (h:Er X g args l) (hK:K (s.put dst l)):lext X g args s dst K:=⟨l,h,hK⟩
theorem Aa {n:Int} (h1:-9223372036854775808≤n) (h2:n≤9223372036854775807):IntKind.i64.wrap n=n:=by
 have e:IntKind.i64.wrap n=if n % 18446744073709551616 ≥ 9223372036854775808 then n % 18446744073709551616 - 18446744073709551616 else n % 18446744073709551616:=by
  simp [IntKind.wrap,IntKind.signed,IntKind.bits]
 rw [e];split <;> omega
theorem Jlf {n:Int} (h1:-2147483648≤n) (h2:n≤2147483647):IntKind.i32.wrap n=n:=by
 have e:IntKind.i32.wrap n=if n % 4294967296 ≥ 2147483648 then n % 4294967296 - 4294967296 else n % 4294967296:=by
  simp [IntKind.wrap,IntKind.signed,IntKind.bits]
 rw [e];split <;> omega
theorem F9 (n:Int):IntKind.u8.wrap n=n % 256:=by simp [IntKind.wrap,IntKind.signed,IntKind.bits]
theorem O5 (n:Int):IntKind.u32.wrap n=n % 4294967296:=by simp [IntKind.wrap,IntKind.signed,IntKind.bits]
theorem Jg5 (n:Int):IntKind.u64.wrap n=n % 18446744073709551616:=by simp [IntKind.wrap,IntKind.signed,IntKind.bits]
theorem Ak {n:Int} (h1:0≤n) (h2:n≤255):IntKind.u8.wrap n=n:=by rw [F9];omega
theorem Jc6 {n:Int} (h1:0≤n) (h2:n≤18446744073709551615):IntKind.u64.wrap n=n:=by rw [Jg5];omega
theorem ex_map {α γ:Type} {l:List α} {f:α→γ} {i:Nat} {Q:γ→Prop}:(∃ e,(l.map f)[i]? = some e∧Q e) = ∃ a,l[i]? = some a∧Q (f a):=by
 rw [List.getElem?_map]
 apply propext
 constructor
 ·rintro ⟨e,he,hq⟩
  obtain ⟨a,ha,rfl⟩:=Option.map_eq_some_iff.1 he
  exact ⟨a,ha,hq⟩
 ·rintro ⟨a,ha,hq⟩
  exact ⟨f a,by rw [ha];rfl,hq⟩
theorem imp_tt {A:Prop}:(true=true→A)=A:=by simp
theorem imp_tf {A:Prop}:(true=false→A)=True:=by simp
theorem imp_ft {A:Prop}:(false=true→A)=True:=by simp
theorem imp_ff {A:Prop}:(false=false→A)=A:=by simp
end Go.LX
namespace Go.LX
open Go Go.RowKit Go.Proofs
def Jc8 (K:PV→Prop) (m:L):Prop :=
 match m with
 | .p x=>K x
 | _=>False
def S2 (P:Program) (s:St):List ResultVar→(List PV→Prop)→Prop
 | [],K=>K []
 | .tmp t :: l,K=>Jc8 (fun x=>S2 P s l fun xs=>K (x :: xs)) (s.tmps.getD t .junk)
 | .cell t T :: l,K=>Uo P s.regs T (s.tmps.getD t .junk) (Jc8 fun x=>S2 P s l fun xs=>K (x :: xs))
def Rj:List ResultVar→List Operand
 | []=>[]
 | .tmp t :: l=>.tmp t :: Rj l
 | .cell _ _ :: l=>Rj l
def Jdy:List PV→L
 | [x]=>.p x
 | xs=>.tup xs
def Li:List Nat→Regs→Regs
 | [],_=>[]
 | d :: ds,rs=>match Bj d rs with
  | some r=>(d,r) :: Li ds rs
  | none=>Li ds rs
def kres (keys:List Nat) (Post:L→Regs→Prop) (rs:Regs) (xs:List PV):Prop:=Post (Jdy xs) (Li (900 :: keys) rs)
def Jol (keys:List Nat) (Post:L→Regs→Prop) (rs:Regs) (l:L):Prop:=Post l (Li (900 :: keys) rs)
def lretF (P:Program) (rvs:List ResultVar) (keys:List Nat) (Post:L→Regs→Prop) (s:St):Prop :=
 S2 P (s.freezeOps (Rj rvs)) rvs (kres keys Post (s.freezeOps (Rj rvs)).regs)
def Jp0 (P:Program) (rvs:List ResultVar) (keys:List Nat) (Post:L→Regs→Prop) (s:St):Prop :=
 match rvs with
 | [.tmp t]=>Jol keys Post s.regs (s.tmps.getD t .junk)
 | [.cell t T]=>Uo P s.regs T (s.tmps.getD t .junk) (Jol keys Post s.regs)
 | _=>False
def Jkf (d n:Nat) (s:St):St :=
 match findKey d s.regs with
 | true=>s.ren d n
 | false=>s
def Np:List (Nat×Nat)→St→St
 | [],s=>s
 | (d,n) :: l,s=>Np l (Jkf d n s)
def Jbj (P:Program) (own:Bool) (rvs:List ResultVar) (keys:List Nat) (Post:L→Regs→Prop) (s:St):Prop :=
 match own with
 | false=>lretF P rvs keys Post s
 | true=>Jp0 P rvs keys Post s
def Jo2 (P:Program) (own:Bool) (rn:List (Nat×Nat)) (rvs:List ResultVar) (keys:List Nat) (Post:L→Regs→Prop):Ex→St→Prop
 | .normal,s=>Jbj P own rvs keys Post (Np rn s)
 | .ret,s=>Jbj P own rvs keys Post (Np rn s)
 | .exit _,_=>False
theorem Ku {d:Nat} {r:Reg}:∀ {ds:List Nat} {rs:Regs},(d,r)∈Li ds rs→d∈ds∧(d,r)∈rs
 | [],_,h=>by cases h
 | e :: ds,rs,h=>by
  simp only [Li] at h
  split at h
  ·rename_i q hq
   rcases List.mem_cons.1 h with h | h
   ·cases h;exact ⟨List.mem_cons_self,Dj hq⟩
   ·exact ⟨List.mem_cons_of_mem _ (Ku h).1,(Ku h).2⟩
  ·exact ⟨List.mem_cons_of_mem _ (Ku h).1,(Ku h).2⟩
theorem Su:∀ (ds:List Nat) (rs:Regs),((Li ds rs).map (·.1)).Sublist ds
 | [],_=>.slnil
 | e :: ds,rs=>by
  simp only [Li]
  split
  ·exact (Su ds rs).cons_cons e
  ·exact (Su ds rs).cons e
theorem Jh:∀ (l:List (Nat×Nat)) (s:St),(∀ x∈l,x.2<1000∨500000≤x.2)→s.Le (Np l s)
 | [],s,_=>St.Le.refl s
 | (d,n) :: l,s,h=>by
  simp only [Np]
  refine St.Le.trans ?_ (Jh l _ fun x hx=>h x (List.mem_cons_of_mem _ hx))
  unfold Jkf
  split
  ·exact St.le_ren s (h _ List.mem_cons_self)
  ·exact St.Le.refl s
theorem Jbg {P:Program} {t:TypeId} {u v:Value} {w:World} (h:(Instr.loadAt t u).run P w=.ok v w):(do loadVar t (← asAddr u):Sem Value).run P w=.ok v w:=by
 unfold Instr.loadAt Instr.sureAddr at h
 cases u <;> simp_all [asAddr]
 rename_i a
 cases a <;> simp_all
theorem T0 {P:Program} {β:Env} {w:World} {Im:Nat→Prop} {s:St} {a:Act} (hf:Fit β w Im s a.tmps) (g:ResultVar→Sem Value) (hg1:∀ t,g (.tmp t)=pure (a.tmps.getD t undef)) (hg2:∀ t T,g (.cell t T)=do loadVar T (← asAddr (a.tmps.getD t undef))) :
  ∀ (rvs:List ResultVar) (K:List PV→Prop),S2 P s rvs K→∃ vs xs,(rvs.mapM g).run P w=.ok vs w∧K xs∧vs.length=xs.length∧∀ (i:Nat) (v:Value) (x:PV),vs[i]? = some v→xs[i]? = some x→PRep w Im v x
 | [],K,h=>⟨[],[],by simp,h,rfl,fun i v x hv=>by simp at hv⟩
 | .tmp t :: l,K,h=>by
  simp only [S2] at h
  unfold Jc8 at h
  split at h
  ·rename_i x hx
   obtain ⟨vs,xs,h1,h2,h3,h4⟩:=T0 hf g hg1 hg2 l _ h
   refine ⟨a.tmps.getD t undef :: vs,x :: xs,?_,h2,by simp [h3],fun i v y hv hy=>?_⟩
   ·simp only [List.mapM_cons,hg1,Sem.run_bind,Sem.run_pure,Result.andThen_ok,h1]
   ·cases i with
    | zero =>
     simp at hv hy;subst hv;subst hy
     have:=Ec hf (.tmp t)
     simp only [St.get,hx] at this
     simpa [LRep,Act.eval,Array.getD_eq_getD_getElem?] using this
    | succ i=>simp at hv hy;exact h4 i v y hv hy
  ·exact h.elim
 | .cell t T :: l,K,h=>by
  simp only [S2] at h
  have hr:=Ec hf (.tmp t)
  obtain ⟨v,m,hv,hm,hK⟩:=U7 hf hr h
  unfold Jc8 at hK
  split at hK
  ·rename_i x
   obtain ⟨vs,xs,h1,h2,h3,h4⟩:=T0 hf g hg1 hg2 l _ hK
   refine ⟨v :: vs,x :: xs,?_,h2,by simp [h3],fun i u y hu hy=>?_⟩
   ·have:=Jbg hv
    have e:a.eval (.tmp t)=a.tmps.getD t undef:=rfl
    rw [e] at this
    rw [List.mapM_cons]
    simp only [Sem.run_bind,hg2] at this ⊢
    rw [this]
    simp only [Result.andThen_ok,h1,Sem.run_pure]
   ·cases i with
    | zero=>simp at hu hy;subst hu;subst hy;exact hm
    | succ i=>simp at hu hy;exact h4 i u y hu hy
  ·exact hK.elim
def Jdn (tmps:Array Value):ResultVar→Sem Value
 | .tmp t=>pure (tmps.getD t undef)
 | .cell b T=>do loadVar T (← asAddr (tmps.getD b undef))
theorem Sh {P:Program} {fn:Func} {tmps:Array Value} {w:World} {vs:List Value} (h:(fn.results.toList.mapM (Jdn tmps)).run P w=.ok vs w) :
  (results fn tmps).run P w=.ok (if h:vs.length=1 then vs[0] else .tuple ⟨vs⟩) w:=by
 have e:results fn tmps=(do
   let vs ← fn.results.mapM (Jdn tmps)
   pure (if h:vs.size=1 then vs[0] else .tuple vs)):=by
  unfold results
  congr 1
 rw [e,Array.mapM_eq_mapM_toList]
 simp only [Sem.run_bind,Sem.run_map,h,Result.andThen_ok,Sem.run_pure]
 rfl
theorem RRx.shut {Γ:Base} {β:Env} {Im:Nat→Prop} {s:St} {tmps:Array Value} {w:World} {D:Nat} {ms:List Nat} (h:RRx (Γ.wm (D :: ms)) β Im s tmps w):RRx (Γ.wm ms) β Im s tmps (w.putObj D (.deferred none)):=by
 obtain ⟨m1,m2,m3,m4⟩:=h.marks D List.mem_cons_self
 have hlt:=(Array.getElem?_eq_some_iff.1 m1).1
 have hnd:D ∉ ms∧ms.Nodup:=List.nodup_cons.1 h.mnod
 have hoth:∀ k,k≠D→(w.putObj D (.deferred none)).heap[k]? = w.heap[k]?:=fun k hk=>World.putObj_heap_other hk
 have hk:Keeps w Im (w.putObj D (.deferred none)) Im:=⟨fun _ h=>h,fun b hb=>hoth b fun e=>m2 (e ▸ hb)⟩
 refine {
     fit:={ size:=h.fit.size,tmps:=fun i l hl=>(h.fit.tmps i l hl).mono' hk,regs:=fun d r hr=>(h.fit.regs d r hr).mono hk rfl (fun _ _=>rfl) fun loc hl=>hoth _ (m4 d r loc hr hl),nodup:=h.fit.nodup,live:=fun d r loc hr hl=>by rw [World.putObj_size];exact h.fit.live d r loc hr hl,apart:=h.fit.apart,im:=fun b hb=>by rw [World.putObj_size];exact h.fit.im b hb }
     os:=h.os,tape:=h.tape,output:=h.output,size:=by rw [World.putObj_size];exact h.size,block:=fun k hk' hm=>?_,imin:=h.imin,imnew:=h.imnew,regnew:=h.regnew,fixed:=h.fixed,glob:=Γ.mono hk h.glob,mnod:=hnd.2,marks:=fun E hE=>?_ }
 ·have m3':Γ.W0.heap.size≤D:=m3
  have hk2:k<Γ.W0.heap.size:=hk'
  rw [hoth k (by omega)];exact h.block k hk' hm
 ·obtain ⟨n1,n2,n3,n4⟩:=h.marks E (List.mem_cons_of_mem _ hE)
  exact ⟨(hoth E fun e=>hnd.1 (e ▸ hE)).trans n1,n2,n3,n4⟩
theorem T5 {F:Fence} {n:Nat} {P:Program} {fn:Func} {R:Ending→World→Prop} {Γ:Base} {β:Env} {Im:Nat→Prop} {s:St} {tmps:Array Value}:∀ (ms:List Nat) (w:World),RRx (Γ.wm ms) β Im s tmps w →
  (∀ w',RRx (Γ.wm []) β Im s tmps w'→∃ v,(results fn tmps).run P w'=.ok v w'∧R (.returned v) w')→LeavesInM F n P fn tmps R (ms.map Qw) .returning w
 | [],w,h,hf=>hf w h
 | D :: ms,w,h,hf=>by
  obtain ⟨m1,_⟩:=h.marks D List.mem_cons_self
  exact ⟨by simp,.inl ⟨D,_,rfl,run_takeDeferred m1,T5 ms _ h.shut hf⟩⟩
theorem B2.of_body2 {X:Cx} {f:FuncId} {fn:Func} {c:Code} {args:List L} {rs:Regs} {Post:L→Regs→Prop} (own:Bool) (rn:List (Nat×Nat)) (hrn:∀ x∈rn,x.2<1000∨500000≤x.2) (hf:X.P.funcs[f]? = some fn) (hname:(fn.name == "runtime.NumGoroutine")=false) (hb:fn.body=some c)
  (h900:900 ∉ rs.map (·.1)) (h:SWP X none c (Jo2 X.P own rn fn.results.toList (rs.map (·.1)) Post) ⟨args ++ List.replicate (fn.ntmps - args.length) .junk,rs⟩):B2 X f args rs Post:=by
 refine ⟨enters_of hf hname hb,fun β Im w vs hglob hfit=>?_⟩
 have hvl:vs.length=args.length:=by simpa using hfit.size
 refine callsIn_wide.1 (callsIn_of_wp_marks (n:=1) (F:=Fence.wide) hf hb trivial ?_)
 let Γ:Base:=⟨w,β,Im,fun k=>∃ d r loc,(d,r)∈rs∧β d=some loc∧loc.blk=k,[],X.G,X.mono⟩
 have hr0:RR Γ ⟨args ++ List.replicate (fn.ntmps - args.length) .junk,rs⟩ { tmps:=(⟨vs⟩:Array Value) ++ Array.replicate (fn.ntmps - (⟨vs⟩:Array Value).size) undef,defers:=[] } w:=by
  refine ⟨[],rfl,β,Im,{ fit:={ size:=?_,tmps:=fun i l hl=>?_,regs:=hfit.regs,nodup:=hfit.nodup,live:=hfit.live,apart:=hfit.apart,im:=hfit.im },os:=rfl,tape:=rfl,output:=rfl,size:=Nat.le_refl _,block:=fun _ _ _=>rfl,imin:=fun _ h=>h,imnew:=fun _ h=>.inl h,regnew:=fun d r loc hd hl=>.inr ⟨d,r,loc,hd,hl,rfl⟩,fixed:=fun _ _ _=>rfl,glob:=hglob,mnod:=.nil,marks:=fun D hD=>(by cases hD) }⟩
  ·simp [hvl]
  ·by_cases hi:i<args.length
   ·simp only at hl
    rw [List.getElem?_append_left hi] at hl
    have:=hfit.tmps i l hl
    have e:((⟨vs⟩:Array Value) ++ Array.replicate (fn.ntmps - (⟨vs⟩:Array Value).size) undef).getD i undef=(⟨vs⟩:Array Value).getD i undef:=by
     simp only [Array.getD_eq_getD_getElem?]
     rw [Array.getElem?_append_left (by simp;omega)]
    rw [e];exact this
   ·simp only at hl
    rw [List.getElem?_append_right (by omega),List.getElem?_replicate] at hl
    split at hl
    ·cases hl;trivial
    ·cases hl
 have hw:=h Γ _ w rfl hr0
 refine wpIn_mono (show c.wpIn Fence.wide 1 X.P _ _ _ from hw) fun e a w' hq=>?_
 have step:∀ {β':Env} {Im':Nat→Prop} {s:St} {tmps:Array Value} {w':World},RRx (Γ.wm []) β' Im' s tmps w'→CallStep β w Im rs β' w' Im' (Li (900 :: rs.map (·.1)) s.regs):=by
  intro β' Im' s tmps w' hx
  refine { os:=hx.os,tape:=hx.tape,output:=hx.output,size:=hx.size,block:=fun k hk' hne=>hx.block k hk' (fun ⟨d,r,loc,h1,h2,h3⟩=>hne d r loc h1 h2 h3),imin:=hx.imin,imnew:=hx.imnew,env:=hx.fixed,keys:=fun d r hd=>?_,regnew:=fun d r loc hd hl=>hx.regnew d r loc (Ku hd).2 hl,fit:=?_ }
  ·rcases List.mem_cons.1 (Ku hd).1 with h | h
   ·exact .inl h
   ·obtain ⟨⟨d',r'⟩,h1,rfl⟩:=List.mem_map.1 h
    exact .inr ⟨r',h1⟩
  ·exact { size:=rfl,tmps:=fun i l h=>by simp at h,regs:=fun d r hd=>hx.fit.regs d r (Ku hd).2,nodup:=(Su _ _).nodup (List.nodup_cons.2 ⟨h900,hfit.nodup⟩),live:=fun d r loc hd hl=>hx.fit.live d r loc (Ku hd).2 hl,apart:=fun d r d' r' l1 l2 hd hd' hne h1 h2=>hx.fit.apart d r d' r' l1 l2 (Ku hd).2 (Ku hd').2 hne h1 h2,im:=hx.fit.im }
 have fin:∀ s,Jbj X.P own fn.results.toList (rs.map (·.1)) Post (Np rn s)→RR Γ s a w'→LeavesInM Fence.wide 1 X.P fn a.tmps (fun e w'=>∃ v l rs' β' Im',e=.returned v∧Post l rs'∧LRep β' w' Im' v l∧CallStep β w Im rs β' w' Im' rs') a.defers .returning w':=by
  intro s hl hr
  obtain ⟨ms,hdef,β',Im0,hx0⟩:=Jh rn s hrn Γ a w' hr
  generalize Np rn s=s at hl hx0
  rw [hdef]
  unfold Jbj at hl
  split at hl
  ·obtain ⟨Im',hx⟩:=RRx.freezeOps (Rj fn.results.toList) hx0
   unfold lretF at hl
   refine T5 ms _ hx fun w2 hx2=>?_
   obtain ⟨vs,xs,h1,hP,h3,h4⟩:=T0 (P:=X.P) hx2.fit (a:={ tmps:=a.tmps,defers:=[] }) (Jdn a.tmps) (fun _=>rfl) (fun _ _=>rfl) _ _ hl
   have hrun:=Sh (P:=X.P) (fn:=fn) h1
   refine ⟨_,hrun,_,Jdy xs,_,β',Im',rfl,hP,?_,step hx2⟩
   split
   ·rename_i h
    match vs,xs,h,h3,h4 with
    | [v],[x],_,_,h4=>exact h4 0 v x rfl rfl
   ·rename_i h
    have:Jdy xs=.tup xs:=by
     match xs with
     | []=>rfl
     | [x]=>exact absurd h3 h
     | _ :: _ :: _=>rfl
    rw [this]
    exact ⟨vs,rfl,h3,h4⟩
  ·refine T5 ms _ hx0 fun w2 hx2=>?_
   unfold Jp0 at hl
   split at hl
   ·rename_i t hres
    have h1:(fn.results.toList.mapM (Jdn a.tmps)).run X.P w2=.ok [a.tmps.getD t undef] w2:=by rw [hres];simp [Jdn]
    have hrun:=Sh (P:=X.P) (fn:=fn) h1
    have hrep:=Ec (a:={ tmps:=a.tmps,defers:=[] }) hx2.fit (.tmp t)
    exact ⟨_,hrun,_,_,_,β',Im0,rfl,hl,hrep,step hx2⟩
   ·rename_i t T hres
    have hrep:=Ec (a:={ tmps:=a.tmps,defers:=[] }) hx2.fit (.tmp t)
    obtain ⟨v,m,hv,hm,hK⟩:=U7 (P:=X.P) (a:={ tmps:=a.tmps,defers:=[] }) hx2.fit hrep hl
    have h1:(fn.results.toList.mapM (Jdn a.tmps)).run X.P w2=.ok [v] w2:=by
     rw [hres]
     have:=Jbg hv
     simp only [List.mapM_cons,List.mapM_nil,Jdn,Sem.run_bind] at this ⊢
     have e:({ tmps:=a.tmps,defers:=[] }:Act).eval (.tmp t)=a.tmps.getD t undef:=rfl
     rw [e] at this
     rw [this]
     simp
    have hrun:=Sh (P:=X.P) (fn:=fn) h1
    exact ⟨_,hrun,_,m,_,β',Im0,rfl,hK,hm,step hx2⟩
   ·exact hl.elim
 cases e with
 | normal=>obtain ⟨s,h1,h2⟩:=hq;exact fin s h1 h2
 | ret=>obtain ⟨s,h1,h2⟩:=hq;exact fin s h1 h2
 | exit id=>obtain ⟨s,h1,h2⟩:=hq;exact h1.elim
 | goto l=>exact hq.elim
 | panic c=>exact hq.elim
 | outgrown=>exact hq.elim
section
variable {P:Program} {rvs:List ResultVar} {keys:List Nat} {Post:L→Regs→Prop} {t:List L} {r:Regs} {own:Bool} {rn:List (Nat×Nat)}
theorem Uf:Jo2 P own rn rvs keys Post .normal ⟨t,r⟩=Jbj P own rvs keys Post (Np rn ⟨t,r⟩):=(rfl)
theorem A2:Jo2 P own rn rvs keys Post .ret ⟨t,r⟩=Jbj P own rvs keys Post (Np rn ⟨t,r⟩):=(rfl)
end
end Go.LX
namespace Go.LX
open Go Go.RowKit Go.Proofs
def Fp (n:Nat):List (Nat×L)→List L
 | []=>List.replicate n .junk
 | (i,l) :: ws=>(Fp n ws).set i l
theorem Kv (n:Nat):∀ ws,(Fp n ws).length=n
 | []=>by simp [Fp]
 | (i,l) :: ws=>by simp [Fp,Kv n ws]
theorem Ad {n i:Nat} {l:L} {ws:List (Nat×L)}:(Fp n ws).set i l=Fp n ((i,l) :: ws):=(rfl)
theorem Ac {n i j:Nat} {l:L} {ws:List (Nat×L)}:(Fp n ((i,l) :: ws)).getD j .junk=if i=j then (if i<n then l else .junk) else (Fp n ws).getD j .junk:=by
 simp only [Fp,List.getD_eq_getElem?_getD,List.getElem?_set,Kv]
 split
 ·rename_i h;subst h;split <;> rfl
 ·rfl
theorem Be {n j:Nat}:(Fp n []).getD j .junk=.junk:=by
 simp only [Fp,List.getD_eq_getElem?_getD,List.getElem?_replicate]
 split <;> rfl
def mapW (f:L→L):List (Nat×L)→List (Nat×L)
 | []=>[]
 | (i,l) :: ws=>(i,f l) :: mapW f ws
theorem V9 {f:L→L} (h:f .junk=.junk) {n:Nat}:∀ {ws:List (Nat×L)},(Fp n ws).map f=Fp n (mapW f ws)
 | []=>by simp [Fp,mapW,h]
 | (i,l) :: ws=>by simp only [Fp,mapW,List.map_set,V9 h]
theorem Bn {d n:Nat} {ws:List (Nat×L)}:(Fp n ws).map (L.forget d)=Fp n (mapW (L.forget d) ws):=V9 rfl
theorem C6 {d n:Nat} {es:Fz} {ws:List (Nat×L)}:(Fp n ws).map (L.freeze d es)=Fp n (mapW (L.freeze d es) ws):=V9 rfl
theorem Cq {f:Nat→Option Nat} {n:Nat} {ws:List (Nat×L)}:(Fp n ws).map (L.map f)=Fp n (mapW (L.map f) ws):=V9 rfl
theorem Bg {f:L→L}:mapW f []=[]:=(rfl)
theorem Bb {f:L→L} {i:Nat} {l:L} {ws:List (Nat×L)}:mapW f ((i,l) :: ws)=(i,f l) :: mapW f ws:=(rfl)
def argW:Nat→List L→List (Nat×L)
 | _,[]=>[]
 | k,l :: ls=>(k,l) :: argW (k+1) ls
theorem Jge {n:Nat}:∀ (k:Nat) (ls:List L) (i:Nat),k+ls.length≤n→(Fp n (argW k ls))[i]? = if i<n then (if k≤i then (ls[i - k]?).orElse fun _=>some .junk else some .junk) else none
 | k,[],i,h=>by
  simp only [argW,Fp,List.getElem?_replicate]
  split
  ·split <;> simp
  ·rfl
 | k,l :: ls,i,h=>by
  simp only [List.length_cons] at h
  have ih:=Jge (n:=n) (k+1) ls i (by omega)
  simp only [argW,Fp,List.getElem?_set,Kv,ih]
  by_cases h1:k=i
  ·subst h1;simp
  ·simp only [if_neg h1]
   by_cases h2:i<n
   ·simp only [if_pos h2]
    by_cases h3:k+1≤i
    ·simp only [if_pos h3,if_pos (show k≤i by omega)]
     have:i - k=(i - (k+1))+1:=by omega
     rw [this,List.getElem?_cons_succ]
    ·simp only [if_neg h3,if_neg (show ¬ k≤i by omega)]
   ·simp only [if_neg h2]
theorem Jen {n:Nat} {ls:List L} (h:ls.length≤n):ls ++ List.replicate (n - ls.length) .junk=Fp n (argW 0 ls):=by
 apply List.ext_getElem?
 intro i
 rw [Jge 0 ls i (by omega)]
 by_cases h1:i<ls.length
 ·rw [List.getElem?_append_left h1,if_pos (by omega),if_pos (Nat.zero_le _)]
  simp [h1]
 ·rw [List.getElem?_append_right (by omega),List.getElem?_replicate]
  by_cases h2:i<n
  ·rw [if_pos (by omega),if_pos h2,if_pos (Nat.zero_le _)]
   simp [h1]
  ·rw [if_neg (by omega),if_neg h2]
def wsLe (n:Nat) (ws:List (Nat×L)):List (Nat×L)→Prop
 | []=>True
 | (i,l) :: rest=>LLe ((Fp n ws).getD i .junk) l∧wsLe n ws rest
theorem Ck {n:Nat} {ws:List (Nat×L)}:wsLe n ws []=True:=(rfl)
theorem Cd {n i:Nat} {l:L} {ws rest:List (Nat×L)}:wsLe n ws ((i,l) :: rest)=(LLe ((Fp n ws).getD i .junk) l∧wsLe n ws rest):=(rfl)
theorem Jdi:∀ {a b:List L},a.length=b.length→(∀ i,LLe (a.getD i .junk) (b.getD i .junk))→C9 a b
 | [],[],_,_=>trivial
 | x :: a,y :: b,h,hi=>⟨by simpa using hi 0,Jdi (by simpa using h) fun i=>by simpa using hi (i+1)⟩
 | [],_ :: _,h,_=>by simp at h
 | _ :: _,[],h,_=>by simp at h
theorem Jlc {n:Nat} {ws:List (Nat×L)}:∀ {rest:List (Nat×L)},wsLe n ws rest→∀ i,LLe ((Fp n ws).getD i .junk) ((Fp n rest).getD i .junk)
 | [],_,i=>by rw [Be];exact .inl rfl
 | (j,l) :: rest,h,i=>by
  rw [Ac]
  split
  ·rename_i hj;subst hj
   split
   ·exact h.1
   ·exact .inl rfl
  ·exact Jlc h.2 i
theorem St.le_slots {n:Nat} {ws ws':List (Nat×L)} {r r':Regs} (ht:wsLe n ws ws') (hr:Dc r r') (hk:De r'):St.Le ⟨Fp n ws,r⟩ ⟨Fp n ws',r'⟩ :=
 St.le_of (Jdi (by simp [Kv]) (Jlc ht)) hr hk
theorem B2.of_code {X:Cx} {f:FuncId} {fn:Func} {c:Code} {args:List L} {rs:Regs} {Post:L→Regs→Prop} (own:Bool) (rn:List (Nat×Nat)) (hrn:∀ x∈rn,x.2<1000∨500000≤x.2) (hf:X.P.funcs[f]? = some fn) (hname:(fn.name == "runtime.NumGoroutine")=false) (hb:fn.body=some c) (hn:args.length≤fn.ntmps)
  (h900:900 ∉ rs.map (·.1)) (h:SWP X none c (Jo2 X.P own rn fn.results.toList (rs.map (·.1)) Post) ⟨Fp fn.ntmps (argW 0 args),rs⟩):B2 X f args rs Post :=
 B2.of_body2 own rn hrn hf hname hb h900 (by rw [Jen hn];exact h)
end Go.LX
