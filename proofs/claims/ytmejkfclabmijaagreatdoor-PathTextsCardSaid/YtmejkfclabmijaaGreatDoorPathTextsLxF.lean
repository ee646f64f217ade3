/- Ranges over functions: the loop, and its rounds. -/
import Derived.Test.YtmejkfclabmijaaGreatDoorPathTextsLxE
set_option linter.unusedSimpArgs false
set_option linter.unusedVariables false
set_option linter.unusedSectionVars false
set_option linter.unnecessarySimpa false
namespace Go.LX
open Go Go.RowKit Go.Proofs
def Jmu (d:Nat):Reg→Bool
 | .var _ _=>true
 | .obj _=>true
 | _=>decide (1000≤d∧d<500000)
def rnOf (k:Nat):Regs→Ren
 | []=>[]
 | (d,r) :: rest=>(d,if Jmu d r=true then 1000+k else 500000+k) :: rnOf (k+1) rest
theorem Jgu:∀ (rs:Regs) (k:Nat),(rnOf k rs).map (·.1)=rs.map (·.1)
 | [],_=>rfl
 | (d,r) :: rs,k=>by simp [rnOf,Jgu rs (k+1)]
theorem Jog:∀ (rs:Regs) (k:Nat),k+rs.length≤1000→Jbr k (rnOf k rs)
 | [],_,_=>trivial
 | (d,r) :: rs,k,h=>by
  simp only [List.length_cons] at h
  refine ⟨?_,Jog rs (k+1) (by omega)⟩
  split
  ·exact .inl ⟨rfl,by omega⟩
  ·rename_i hf
   refine .inr ⟨rfl,fun hd=>hf ?_,by omega⟩
   cases r <;> simp [Jmu,hd]
theorem Jss {rs:Regs} (h:rs.length≤1000) (hn:(rs.map (·.1)).Nodup):RenOK (rnOf 0 rs) :=
 Jgh (Jog rs 0 (by omega)) (by rw [Jgu];exact hn)
def Zc (ρ:Ren) (d:Nat):Option Nat:=match upId ρ d with
 | some n=>if n<500000 then some n else none
 | none=>none
theorem Jj3 {ρ:Ren} {d n:Nat} (h:Zc ρ d=some n):upId ρ d=some n∧n<500000:=by
 unfold Zc at h
 split at h
 ·rename_i m hm
  split at h
  ·cases h;exact ⟨hm,by assumption⟩
  ·cases h
 ·cases h
theorem Jig {f:Nat→Option Nat} {l:L} {n:Nat} (h:(l.map f).mentions n=true):∃ d,f d=some n:=by
 have fnc:∀ ds ns,Gv f ds=some ns→ns.contains n=true→∃ d,f d=some n:=by
  intro ds ns ha hc
  obtain ⟨h1,h2⟩:=Ha ha
  have hm:n∈ns:=by simpa using hc
  obtain ⟨i,hi⟩:=List.getElem?_of_mem hm
  obtain ⟨d,hd⟩:=getElem?_of_length h1 hi
  exact ⟨d,h2 i d n hd hi⟩
 cases l with
 | ptr d i j=>simp only [L.map] at h;cases hd:f d <;> rw [hd] at h <;> simp [L.ptrO,L.mentions] at h;exact ⟨d,by rw [hd,h]⟩
 | own d i j=>simp only [L.map] at h;cases hd:f d <;> rw [hd] at h <;> simp [L.ownO,L.mentions] at h;exact ⟨d,by rw [hd,h]⟩
 | mref d=>simp only [L.map] at h;cases hd:f d <;> rw [hd] at h <;> simp [L.mrefO,L.mentions] at h;exact ⟨d,by rw [hd,h]⟩
 | fn g ds=>simp only [L.map] at h;cases hd:Gv f ds <;> rw [hd] at h <;> simp only [L.fnO,L.mentions,Bool.false_eq_true] at h;exact fnc _ _ hd h
 | cfn g ds=>simp only [L.map] at h;cases hd:Gv f ds <;> rw [hd] at h <;> simp only [L.cfnO,L.mentions,Bool.false_eq_true] at h;exact fnc _ _ hd h
 | p x=>simp [L.map,L.mentions] at h
 | eptr cs=>simp [L.map,L.mentions] at h
 | yld l=>simp [L.map,L.mentions] at h
 | tup xs=>simp [L.map,L.mentions] at h
 | junk=>simp [L.map,L.mentions] at h
structure Trans (l:Nat) (β:Env) (w:World) (Im:Nat→Prop) (rs:Regs) (β':Env) (w':World) (Im':Nat→Prop) (rs':Regs):Prop where
 os:w'.os=w.os
 tape:w'.tape=w.tape
 output:w'.output=w.output
 size:w.heap.size≤w'.heap.size
 block:∀ k,k<w.heap.size→k≠l→(∀ d r loc,(d,r)∈rs→β d=some loc→loc.blk≠k)→w'.heap[k]? = w.heap[k]?
 imin:∀ b,Im b→Im' b
 imnew:∀ b,Im' b→Im b∨w.heap.size≤b∨∃ d r loc,(d,r)∈rs∧β d=some loc∧loc.blk=b
 env:∀ d,1000≤d→d<500000→β' d=β d
 regnew:∀ d r loc,(d,r)∈rs'→β' d=some loc→w.heap.size≤loc.blk∨∃ d r loc',(d,r)∈rs∧β d=some loc'∧loc'.blk=loc.blk
 fit:Fit β' w' Im' ⟨[],rs'⟩ #[]
structure Off (l:Nat) (β:Env) (w:World) (Im:Nat→Prop) (rs:Regs):Prop where
 lt:l<w.heap.size
 im:¬ Im l
 reg:∀ d r loc,(d,r)∈rs→β d=some loc→loc.blk≠l
section
variable {l:Nat} {β β1 β2:Env} {w w1 w2:World} {Im Im1 Im2:Nat→Prop} {rs rs1 rs2:Regs}
theorem Fit.regsOnly {s:St} {t:Array Value} (h:Fit β w Im s t):Fit β w Im ⟨[],s.regs⟩ #[] :=
 { size:=rfl,tmps:=fun i m hm=>by simp at hm,regs:=h.regs,nodup:=h.nodup,live:=h.live,apart:=h.apart,im:=h.im }
theorem Trans.refl (h:Fit β w Im ⟨[],rs⟩ #[]):Trans l β w Im rs β w Im rs where
 os:=rfl
 tape:=rfl
 output:=rfl
 size:=Nat.le_refl _
 block _ _ _ _:=rfl
 imin _ h:=h
 imnew _ h:=.inl h
 env _ _ _:=rfl
 regnew d r loc hd hl:=.inr ⟨d,r,loc,hd,hl,rfl⟩
 fit:=h
theorem Trans.trans (h:Trans l β w Im rs β1 w1 Im1 rs1) (k:Trans l β1 w1 Im1 rs1 β2 w2 Im2 rs2):Trans l β w Im rs β2 w2 Im2 rs2 where
 os:=k.os.trans h.os
 tape:=k.tape.trans h.tape
 output:=k.output.trans h.output
 size:=Nat.le_trans h.size k.size
 block b hb hl hn:=by
  refine (k.block b (Nat.lt_of_lt_of_le hb h.size) hl fun d r loc hd hβ=>?_).trans (h.block b hb hl hn)
  rcases h.regnew d r loc hd hβ with g | ⟨d',r',loc',h1,h2,h3⟩
  ·omega
  ·rw [← h3];exact hn d' r' loc' h1 h2
 imin b hb:=k.imin b (h.imin b hb)
 imnew b hb:=by
  rcases k.imnew b hb with g | g | ⟨d,r,loc,h1,h2,h3⟩
  ·exact h.imnew b g
  ·exact .inr (.inl (Nat.le_trans h.size g))
  ·rcases h.regnew d r loc h1 h2 with g | ⟨d',r',loc',g1,g2,g3⟩
   ·exact .inr (.inl (h3 ▸ g))
   ·exact .inr (.inr ⟨d',r',loc',g1,g2,g3.trans h3⟩)
 env d h1 h2:=(k.env d h1 h2).trans (h.env d h1 h2)
 regnew d r loc hd hl:=by
  rcases k.regnew d r loc hd hl with g | ⟨d',r',loc',h1,h2,h3⟩
  ·exact .inl (Nat.le_trans h.size g)
  ·rcases h.regnew d' r' loc' h1 h2 with g | ⟨d2,r2,loc2,g1,g2,g3⟩
   ·exact .inl (h3 ▸ g)
   ·exact .inr ⟨d2,r2,loc2,g1,g2,g3.trans h3⟩
 fit:=k.fit
theorem Trans.off (h:Trans l β w Im rs β1 w1 Im1 rs1) (o:Off l β w Im rs):Off l β1 w1 Im1 rs1 where
 lt:=Nat.lt_of_lt_of_le o.lt h.size
 im hi:=by
  rcases h.imnew l hi with g | g | ⟨d,r,loc,h1,h2,h3⟩
  ·exact o.im g
  ·have:=o.lt;omega
  ·exact o.reg d r loc h1 h2 h3
 reg d r loc hd hl:=by
  rcases h.regnew d r loc hd hl with g | ⟨d',r',loc',h1,h2,h3⟩
  ·have:=o.lt;omega
  ·rw [← h3];exact o.reg d' r' loc' h1 h2
theorem Fit.putOff {s:St} {t:Array Value} (h:Fit β w Im s t) (o:Off l β w Im s.regs) (x:Obj):Fit β (w.putObj l x) Im s t:=by
 have hoth:∀ k,k≠l→(w.putObj l x).heap[k]? = w.heap[k]?:=fun k hk=>World.putObj_heap_other hk
 have hk:Keeps w Im (w.putObj l x) Im:=⟨fun _ h=>h,fun b hb=>hoth b fun e=>o.im (e ▸ hb)⟩
 exact {
     size:=h.size,tmps:=fun i m hm=>(h.tmps i m hm).mono' hk,regs:=fun d r hr=>(h.regs d r hr).mono hk rfl (fun _ _=>rfl) fun loc hl=>hoth _ (o.reg d r loc hr hl),nodup:=h.nodup
     live:=fun d r loc hr hl=>by rw [World.putObj_size];exact h.live d r loc hr hl,apart:=h.apart,im:=fun b hb=>by rw [World.putObj_size];exact h.im b hb }
theorem Trans.put (h:Fit β w Im ⟨[],rs⟩ #[]) (o:Off l β w Im rs) (x:Obj):Trans l β w Im rs β (w.putObj l x) Im rs where
 os:=rfl
 tape:=rfl
 output:=rfl
 size:=by rw [World.putObj_size];exact Nat.le_refl _
 block k _ hk _:=World.putObj_heap_other hk
 imin _ h:=h
 imnew _ h:=.inl h
 env _ _ _:=rfl
 regnew d r loc hd hl:=.inr ⟨d,r,loc,hd,hl,rfl⟩
 fit:=h.putOff o x
theorem Trans.ofGrow (h:Fit β w Im ⟨[],rs⟩ #[]) (g:Grow w Im w1 Im1):Trans l β w Im rs β w1 Im1 rs where
 os:=g.os
 tape:=g.tape
 output:=g.output
 size:=g.size
 block k hk _ _:=g.block k hk
 imin:=g.im
 imnew b hb:=(g.new b hb).imp id .inl
 env _ _ _:=rfl
 regnew d r loc hd hl:=.inr ⟨d,r,loc,hd,hl,rfl⟩
 fit:=h.grow g
theorem Trans.ofRRx {Γ:Base} {s:St} {t:Array Value} (h:RRx Γ β1 Im1 s t w1) (hm:∀ k,Γ.may k→∃ d r loc,(d,r)∈rs∧Γ.β0 d=some loc∧loc.blk=k):Trans l Γ.β0 Γ.W0 Γ.Im0 rs β1 w1 Im1 s.regs where
 os:=h.os
 tape:=h.tape
 output:=h.output
 size:=h.size
 block k hk _ hn:=h.block k hk fun hk=>by obtain ⟨d,r,loc,h1,h2,h3⟩:=hm k hk;exact hn d r loc h1 h2 h3
 imin:=h.imin
 imnew b hb:=(h.imnew b hb).imp id fun h=>h.imp id (hm b)
 env:=h.fixed
 regnew d r loc hd hl:=(h.regnew d r loc hd hl).imp id (hm _)
 fit:=h.fit.regsOnly
theorem Off.same {Γ:Base} {s:St} {t:Array Value} (o:Off l Γ.β0 Γ.W0 Γ.Im0 rs) (h:RRx Γ β1 Im1 s t w1) (hm:∀ k,Γ.may k→∃ d r loc,(d,r)∈rs∧Γ.β0 d=some loc∧loc.blk=k):w1.heap[l]? = Γ.W0.heap[l]? :=
 h.block l o.lt fun hk=>by obtain ⟨d,r,loc,h1,h2,h3⟩:=hm l hk;exact o.reg d r loc h1 h2 h3
theorem Trans.keeps (h:Trans l β w Im rs β1 w1 Im1 rs1) (o:Off l β w Im rs) (hf:Fit β w Im ⟨[],rs⟩ #[]):Keeps w Im w1 Im1 :=
 ⟨h.imin,fun b hb=>h.block b (hf.im b hb) (fun e=>o.im (e ▸ hb)) fun d r loc hd hl e=>(hf.live d r loc hd hl).2 (e ▸ hb)⟩
theorem Trans.ykeep (h:Trans l β w Im rs β1 w1 Im1 rs1) (o:Off l β w Im rs) (hf:Fit β w Im ⟨[],rs⟩ #[]):YKeep w Im w1 Im1 :=
 ⟨h.os,h.tape,h.output,h.size,h.imin,(h.keeps o hf).block,h.fit.im⟩
theorem Trans.step (h:Trans l β w Im rs β1 w1 Im1 rs1) (hl:w1.heap[l]? = w.heap[l]?) (hk:∀ d r,(d,r)∈rs1→d=900∨∃ r0,(d,r0)∈rs):CallStep β w Im rs β1 w1 Im1 rs1 where
 os:=h.os
 tape:=h.tape
 output:=h.output
 size:=h.size
 block k hk hn:=by
  by_cases e:k=l
  ·subst e;exact hl
  ·exact h.block k hk e hn
 imin:=h.imin
 imnew:=h.imnew
 env:=h.env
 keys:=hk
 regnew:=h.regnew
 fit:=h.fit
theorem RRx.putOff {Γ:Base} {s:St} {t:Array Value} (h:RRx Γ β Im s t w) (o:Off l β w Im s.regs) (h0:Γ.W0.heap.size≤l) (hm:l ∉ Γ.marks) (x:Obj):RRx Γ β Im s t (w.putObj l x):=by
 have hoth:∀ k,k≠l→(w.putObj l x).heap[k]? = w.heap[k]?:=fun k hk=>World.putObj_heap_other hk
 have hk:Keeps w Im (w.putObj l x) Im:=⟨fun _ h=>h,fun b hb=>hoth b fun e=>o.im (e ▸ hb)⟩
 exact {
     fit:=h.fit.putOff o x,os:=h.os,tape:=h.tape,output:=h.output,size:=by rw [World.putObj_size];exact h.size,block:=fun k hk' hn=>(hoth k (by omega)).trans (h.block k hk' hn),imin:=h.imin,imnew:=h.imnew,regnew:=h.regnew,fixed:=h.fixed
     glob:=Γ.mono hk h.glob,mnod:=h.mnod,marks:=fun D hD=>by obtain ⟨m1,m2,m3,m4⟩:=h.marks D hD;exact ⟨(hoth D fun e=>hm (e ▸ hD)).trans m1,m2,m3,m4⟩ }
end
def TFit (β:Env) (w:World) (Im:Nat→Prop) (ls:List L) (t:Array Value):Prop:=t.size=ls.length∧∀ i m,ls[i]? = some m→LRep β w Im (t.getD i undef) m
def setPs:List Tmp→List PV→List L→List L
 | p :: ps,x :: xs,t=>setPs ps xs (t.set p (.p x))
 | _,_,t=>t
theorem TFit.set {β:Env} {w:World} {Im:Nat→Prop} {ls:List L} {t:Array Value} (h:TFit β w Im ls t) (p:Tmp) {v:Value} {x:PV} (hv:PRep w Im v x):TFit β w Im (ls.set p (.p x)) (t.setIfInBounds p v):=by
 refine ⟨by simp [h.1],fun i m hm=>?_⟩
 rw [List.getElem?_set] at hm
 by_cases hd:p=i
 ·subst hd
  rw [if_pos rfl] at hm
  split at hm
  ·cases hm
   rename_i hlt
   have:p<t.size:=by rw [h.1];exact hlt
   simp [Array.getD_eq_getD_getElem?,this]
   exact hv
  ·cases hm
 ·rw [if_neg hd] at hm
  have:=h.2 i m hm
  simpa [Array.getD_eq_getD_getElem?,Array.getElem?_setIfInBounds,hd] using this
theorem TFit.setPs {β:Env} {w:World} {Im:Nat→Prop}:∀ (ps:List Tmp) (xs:List PV) (us:List Value) (ls:List L) (t:Array Value),TFit β w Im ls t→Jte w Im us xs→TFit β w Im (setPs ps xs ls) ((ps.zip us).foldl (fun t (p,v)=>t.setIfInBounds p v) t)
 | [],_,_,ls,t,h,_=>h
 | p :: ps,[],us,ls,t,h,hv=>by
  have:us=[]:=List.eq_nil_of_length_eq_zero (by simpa using hv.1)
  subst this
  exact h
 | p :: ps,x :: xs,us,ls,t,h,hv=>by
  match us,hv with
  | u :: us,hv =>
   exact TFit.setPs ps xs us _ _ (h.set p (hv.2 0 u x rfl rfl)) ⟨by simpa using hv.1,fun i v p h1 h2=>hv.2 (i+1) v p h1 h2⟩
theorem Fit.ofT {β:Env} {w:World} {Im:Nat→Prop} {ls:List L} {t:Array Value} {rs:Regs} (h:TFit β w Im ls t) (k:Fit β w Im ⟨[],rs⟩ #[]):Fit β w Im ⟨ls,rs⟩ t :=
 { k with size:=h.1,tmps:=h.2 }
def lwpA (X:Cx):Code→(St→Prop)→St→Prop
 | .skip,K,s=>K s
 | .region _ ops draw,K,s=>match draw with
  | false=>lops X (ops.toList.map (·.dst)) ops.toList K s
  | true=>False
 | .seq a b,K,s=>lwpA X a (lwpA X b K) s
 | _,_,_=>False
section
variable {X:Cx} {Γ:Base} {ro:Option Nat}
theorem Ur {ms:List Nat} {ops:Array Oper} {K:St→Prop} {Q:Exit→Act→World→Prop} {n:Nat} (hG:Γ.G=X.G) (hQ:∀ s a w,K s→RRm Γ ms s a w→Q .normal a w):∀ (os:List Oper) (i:Nat),(∀ j,os[j]? = ops[i+j]?)→∀ (s:St) (a:Act) (w:World),RRm Γ ms s a w →
  lops X (ops.toList.map (·.dst)) os K s→wpOpsIn (F0 ro) n X.P ops Q (List.range' i os.length) a w
 | [],i,_,s,a,w,h,hl=>by simpa [wpOpsIn] using hQ s a w hl h
 | o :: os,i,hi,s,a,w,h,hl=>by
  have h0:ops[i]? = some o:=by simpa using (hi 0).symm
  have hi':∀ j,os[j]? = ops[i+1+j]?:=fun j=>by have:=hi (j+1);simpa [Nat.add_assoc,Nat.add_comm 1 j] using this
  simp only [List.length_cons,List.range'_succ,wpOpsIn,h0]
  simp only [lops] at hl
  obtain ⟨s',h',hc⟩:=Q8 h.rr hl
  have hm:RRm Γ ms s' a w:=by
   obtain ⟨ms',h1,h2⟩:=h'
   have:ms'=ms:=by
    have e:=h1.symm.trans h.1
    have inj:∀ (x y:List Nat),x.map Qw=y.map Qw→x=y:=by
     intro x
     induction x with
     | nil=>intro y hy;cases y <;> first | rfl | cases hy
     | cons a x ih =>
      intro y hy
      cases y with
      | nil=>cases hy
      | cons b y =>
       simp only [List.map_cons,List.cons.injEq] at hy
       have e1:a=b:=by
        have:=congrArg Deferred.target hy.1
        simpa [Qw] using this
       rw [e1,ih y hy.2]
    exact inj _ _ e
   subst this
   exact ⟨h1,h2⟩
  rcases hc with ⟨hA,hw⟩ | ⟨hB,hw⟩
  ·rw [if_pos (hw o rfl)]
   exact Oper.wpIn_mono (fun a' w' ⟨s2,hs2,hr2⟩=>Ur hG hQ os (i+1) hi' s2 a' w' hr2 hs2) (Xs hG hm hA)
  ·rw [if_neg (by rw [hw o rfl];simp)]
   obtain ⟨hdef,β,Im,hx⟩:=hm
   exact ⟨fun _ _=>trivial,Ur hG hQ os (i+1) hi' _ _ w ⟨Gi hdef,β,Im,hx.put o.dst Sx⟩ hB⟩
theorem Xu {ms:List Nat} (hG:Γ.G=X.G):∀ (c:Code) (K:St→Prop) (s:St) (a:Act) (w:World),RRm Γ ms s a w→lwpA X c K s→c.wpIn (F0 ro) 1 X.P (Exit.then (fun a w=>∃ s,K s∧RRm Γ ms s a w) (fun _ _ _=>False)) a w
 | .skip,K,s,a,w,hr,h=>wpIn_skip ⟨s,h,hr⟩
 | .region id ops false,K,s,a,w,hr,h=>by
  refine wpIn_region ?_
  have:=Ur (X:=X) (Γ:=Γ) (ro:=ro) (n:=1) (ops:=ops) (K:=K) (Q:=Exit.then (fun a w=>∃ s,K s∧RRm Γ ms s a w) (fun _ _ _=>False)) hG (fun s a w h1 h2=>⟨s,h1,h2⟩) ops.toList 0 (by simp) s a w hr h
  rw [Array.length_toList] at this
  rw [List.range_eq_range']
  exact this
 | .region id ops true,K,s,a,w,hr,h=>h.elim
 | .seq x y,K,s,a,w,hr,h=>by
  simp only [lwpA] at h
  refine wpIn_seq (wpIn_mono (Xu hG x _ s a w hr h) fun e a w hq=>?_)
  cases e with
  | normal=>obtain ⟨s',h1,h2⟩:=hq;exact Xu hG y K s' a w h2 h1
  | exit id=>exact hq.elim
  | ret=>exact hq.elim
  | goto l=>exact hq.elim
  | panic c=>exact hq.elim
  | outgrown=>exact hq.elim
 | .cond ..,_,_,_,_,_,h=>h.elim
 | .block ..,_,_,_,_,_,h=>h.elim
 | .loop ..,_,_,_,_,_,h=>h.elim
 | .exit ..,_,_,_,_,_,h=>h.elim
 | .ret,_,_,_,_,_,h=>h.elim
 | .label ..,_,_,_,_,_,h=>h.elim
 | .rangeFunc ..,_,_,_,_,_,h=>h.elim
 | .scope ..,_,_,_,_,_,h=>h.elim
 | .goto ..,_,_,_,_,_,h=>h.elim
 | .refuse ..,_,_,_,_,_,h=>h.elim
end
end Go.LX
namespace Go.LX
open Go Go.RowKit Go.Proofs
def Jip (n:Nat) (rn:List (Nat×Nat)) (Inv:Nat→Regs→Prop) (Stop:Ex→Regs→Prop) (k:Nat):Ex→St→Prop
 | .normal,s=>∃ R,Inv (k+1) R∧(Np rn s).Le ⟨Fp n [],R⟩
 | .exit id,s=>∃ R,Stop (.exit id) R∧(Np rn s).Le ⟨Fp n [],R⟩
 | .ret,s=>∃ R,Stop .ret R∧(Np rn s).Le ⟨Fp n [],R⟩
def codeOf:Ex→Option Code
 | .normal=>none
 | .exit id=>some (.exit id)
 | .ret=>some .ret
section
variable {X:Cx}
theorem RoundIn.room {l n m:Nat} {P:Program} {f:FuncId} {tmps:Array Value} {assign body:Code} {w:World} {R:Ending→World→Prop} (h:RoundIn (F0 none) n P l f tmps assign body w R):RoundIn (F0 none) m P l f tmps assign body w R :=
 ⟨h.1,fun c cs _=>h.2 c cs fun d hd=>by simp [F0] at hd⟩
theorem Jis {w:World} {l:Nat} {x y:Obj}:(w.putObj l x).putObj l y=w.putObj l y:=by
 unfold World.putObj
 simp
theorem Jjv {Γ:Base} {β:Env} {Im:Nat→Prop} {s:St} {tmps:Array Value} {w:World} (h:RRx Γ β Im s tmps w) {d:Nat} {T:TypeId} {cs:List L} {ps:List PV} {loc:Loc} (hd:Bj d s.regs=some (.var T cs)) (hp:Gv L.pure? cs=some ps) (hβ:β d=some loc) :
  LRep (fun _=>none) w (fun b=>Im b∨∃ loc,β d=some loc∧b=loc.blk) (.pointer (some ⟨loc.blk,0,none⟩)) (.eptr ps):=by
 obtain ⟨loc',cur,hβ',g2,g3,g4,g5,g6⟩:=h.fit.regs d _ (Dj hd)
 rw [hβ] at hβ';cases hβ'
 obtain ⟨hlen,hsp⟩:=Ha hp
 have hk:Keeps w Im w (fun b=>Im b∨∃ loc,β d=some loc∧b=loc.blk):=⟨fun b hb=>.inl hb,fun _ _=>rfl⟩
 refine ⟨loc.blk,0,.inr ⟨loc,hβ,rfl⟩,rfl,fun j=>cur.getD j undef,fun j hj=>?_,fun j p hj=>?_⟩
 ·have hjc:j<cur.length:=by omega
  have e:w.heap[loc.blk]? = some (.cells ⟨cur⟩ T (0,0)):=g4
  simp [World.cell?,e,hjc]
 ·obtain ⟨c,hc⟩:=getElem?_of_length hlen hj
  obtain ⟨v,hv⟩:=getElem?_of_length g5 hc
  have h1:=hsp j c p hc hj
  have h2:=pure?_spec h1
  subst h2
  obtain ⟨r1,r2⟩:=g6 j v _ hv hc
  refine ⟨?_,?_⟩
  ·have:cur.getD j undef=v:=by simp [List.getD_eq_getElem?_getD,hv]
   show PRep w _ (cur.getD j undef) p
   rw [this]
   exact PRep.mono hk r1
  ·rcases r2 with r2 | r2
   ·exact r2
   ·cases r2
theorem SWP.rangeFunc {g:Operand} {ps:Array Tmp} {assign body:Code} {Q:Ex→St→Prop} {s s1:St} {f d:Nat} {T:TypeId} {cs:List L} {pcs:List PV} (xs:List (List PV)) (n:Nat) (rn:List (Nat×Nat)) (hrn:∀ x∈rn,x.2<1000∨500000≤x.2) (Inv:Nat→Regs→Prop) (Stop:Ex→Regs→Prop)
  (hg:s.get g=.fn f [d]) (hd:Bj d s.regs=some (.var T cs)) (hp:Gv L.pure? cs=some pcs) (hi:Jf3 X f [.eptr pcs] xs) (hs1:N6 d (some .gone) s=s1)
  (hn:s1.tmps.length=n) (hsm:s1.regs.length≤1000) (hps:∀ x∈xs,x.length=ps.size)
  (h0:Inv 0 (Lq (rnOf 0 s1.regs) s1.regs))
  (hkI:∀ k R,Inv k R→∀ e r,(e,r)∈R→e=900∨findKey e (Lq (rnOf 0 s1.regs) s1.regs)=true) (hkS:∀ x R,Stop x R→∀ e r,(e,r)∈R→e=900∨findKey e (Lq (rnOf 0 s1.regs) s1.regs)=true) (hSn:∀ R,¬ Stop .normal R)
  (round:∀ k x R l,xs[k]? = some x→Inv k R→lwpA X assign (fun s2=>SWP X (some l) body (Jip n rn Inv Stop k) s2) ⟨setPs ps.toList x (s1.tmps.map (L.map (Zc (rnOf 0 s1.regs)))),R⟩)
  (done:∀ R,Inv xs.length R→Q .normal (s1.after (rnOf 0 s1.regs) (Oi none R) R))
  (stop:∀ x R,Stop x R→Q x (s1.after (rnOf 0 s1.regs) (Oi none R) R)):SWP X none (.rangeFunc g ps assign body) Q s:=by
 intro Γ a w hG hr
 obtain ⟨ms,hdef,β,Im,hx⟩:=hr
 have hgv:=Ec hx.fit g
 rw [hg] at hgv
 obtain ⟨vs,hgv,hvl,hvs⟩:=hgv
 obtain ⟨v,rfl⟩:∃ v,vs=[v]:=by
  match vs,hvl with
  | [v],_=>exact ⟨v,rfl⟩
 obtain ⟨loc,hβ,rfl⟩:=hvs 0 v d rfl rfl
 have hx1:=hx.freezeZ d .gone trivial _ (Dj hd)
 rw [hs1] at hx1
 have hcap:=Jjv hx hd hp hβ
 generalize (fun b=>Im b∨∃ loc,β d=some loc∧b=loc.blk)=I1 at hx1 hcap
 have hρ:=Jss hsm hx1.fit.nodup
 generalize hρe:rnOf 0 s1.regs=ρ at *
 obtain ⟨D,hD⟩:∃ D,D=w.heap.size:=⟨_,rfl⟩
 obtain ⟨l,hl⟩:∃ l,l=w.heap.size+1:=⟨_,rfl⟩
 refine wpIn_rangeFunc fun fn hfn=>?_
 obtain ⟨rec,hrec⟩:∃ rec:LoopState→Option Code→Loop,rec=fun st pe=>{ state:=st,pending:=pe,fn,tmps:=a.tmps,params:=ps,assign,body,defers:=D }:=⟨_,rfl⟩
 obtain ⟨W1,hW1⟩:∃ W1,(w.alloc (.deferred (some []))).alloc (.loop (rec .ready none))=W1:=⟨_,rfl⟩
 have gr:Grow w I1 W1 I1:=by
  rw [← hW1]
  have g1:=Grow.alloc (w:=w) (Im:=I1) hx1.fit.im (.deferred (some []))
  exact g1.trans (Grow.alloc (w:=w.alloc (.deferred (some []))) (Im:=I1) g1.lt _)
 have hlW:W1.heap[l]? = some (.loop (rec .ready none)):=by
  rw [← hW1,hl]
  have:=World.alloc_heap_new (w.alloc (.deferred (some []))) (.loop (rec .ready none))
  rwa [World.size_alloc] at this
 have hDW:W1.heap[D]? = some (.deferred (some [])):=by
  rw [← hW1,hD]
  exact (Below.heap_alloc _ _ _ (by simp)).trans (World.alloc_heap_new w _)
 have hx2:=hx1.grow gr
 have hlive:∀ e r loc,(e,r)∈s1.regs→β e=some loc→loc.blk<w.heap.size:=fun e r loc h1 h2=>(hx1.fit.live e r loc h1 h2).1
 have hx3:RRx (Γ.wm (D :: ms)) β I1 s1 a.tmps W1:=by
  have hDms:D ∉ ms:=fun h=>by
   have:=(Array.getElem?_eq_some_iff.1 (hx1.marks D h).1).1
   omega
  refine { fit:=hx2.fit,os:=hx2.os,tape:=hx2.tape,output:=hx2.output,size:=hx2.size,block:=hx2.block,imin:=hx2.imin,imnew:=hx2.imnew,regnew:=hx2.regnew,fixed:=hx2.fixed,glob:=hx2.glob,mnod:=List.nodup_cons.2 ⟨hDms,hx2.mnod⟩,marks:=fun E hE=>?_ }
  rcases List.mem_cons.1 hE with rfl | hE
  ·exact ⟨hDW,fun h=>by have:=hx1.fit.im _ h;omega,by rw [hD];exact hx1.size,fun e r loc h1 h2=>by have:=hlive e r loc h1 h2;omega⟩
  ·exact hx2.marks E hE
 obtain ⟨rs0,hrs0⟩:∃ rs0,rs0=Lq ρ s1.regs:=⟨_,rfl⟩
 rw [← hrs0] at h0 hkI hkS
 have fit0:Fit (Wu ρ β) W1 I1 ⟨[],rs0⟩ #[]:=by
  have:=hx2.fit.call hρ (args:=[]) (vs:=[]) rfl (fun i v m h=>by simp at h)
  rw [hrs0];exact this
 have tf0:TFit (Wu ρ β) W1 I1 (s1.tmps.map (L.map (Zc ρ))) a.tmps:=by
  refine ⟨by simp [hx2.fit.size],fun i m hm=>?_⟩
  rw [List.getElem?_map] at hm
  obtain ⟨m',h1,rfl⟩:=Option.map_eq_some_iff.1 hm
  exact (hx2.fit.tmps i m' h1).map fun d n hd=>Nj hρ (Jj3 hd).1
 have off0:Off l (Wu ρ β) W1 I1 rs0:=by
  refine ⟨(Array.getElem?_eq_some_iff.1 hlW).1,fun h=>by have:=hx1.fit.im _ h;omega,fun e r loc h1 h2=>?_⟩
  rw [hrs0] at h1
  obtain ⟨e',r',g1,g2,_⟩:=Mt h1
  rw [Nj hρ g2] at h2
  have:=hlive e' r' loc g1 h2
  omega
 generalize hβ0:Wu ρ β=β0 at *
 obtain ⟨J,hJe⟩:∃ J:Gh,J=fun k w' I'=>match k with
  | some k=>∃ β' R,Inv k R∧Trans l β0 W1 I1 rs0 β' w' I' R∧w'.heap[l]? = some (.loop (rec .ready none))
  | none=>∃ β' R x c,Stop x R∧codeOf x=some c∧Trans l β0 W1 I1 rs0 β' w' I' R∧w'.heap[l]? = some (.loop (rec .done (some c))):=⟨_,rfl⟩
 have hJ:JOK J:=by
  intro k w' I' w2 I2 hlt hj hg'
  subst hJe
  cases k with
  | some k =>
   obtain ⟨β',R,h1,h2,h3⟩:=hj
   exact ⟨β',R,h1,h2.trans (Trans.ofGrow h2.fit hg'),(hg'.block l (Array.getElem?_eq_some_iff.1 h3).1).trans h3⟩
  | none =>
   obtain ⟨β',R,x,c,h1,hc,h2,h3⟩:=hj
   exact ⟨β',R,x,c,h1,hc,h2.trans (Trans.ofGrow h2.fit hg'),(hg'.block l (Array.getElem?_eq_some_iff.1 h3).1).trans h3⟩
 have hY:YOK X l J xs:=by
  intro k x hk w' I' us hj hglob hlt hrep
  have hj':=hj
  subst hJe
  obtain ⟨β',R,hInv,hT,hl'⟩:=hj'
  have hxl:x.length=ps.size:=hps x (List.mem_of_getElem? hk)
  have hy:=run_yield (P:=X.P) (args:=(⟨us⟩:Array Value)) hl' (by rw [hrec];simp only [List.size_toArray];rw [hrep.1];exact hxl)
  rw [hrec] at hy
  have off1:=hT.off off0
  have hkp:=hT.keeps off0 fit0
  have tf1:TFit β' w' I' (s1.tmps.map (L.map (Zc ρ))) a.tmps:=by
   refine ⟨tf0.1,fun i m hm=>(tf0.2 i m hm).mono hkp fun e he=>?_⟩
   rw [List.getElem?_map] at hm
   obtain ⟨m',h1,rfl⟩:=Option.map_eq_some_iff.1 hm
   obtain ⟨e',he'⟩:=Jig he
   obtain ⟨u1,u2⟩:=Jj3 he'
   exact hT.env e (hρ.ge e' e u1) u2
  have tf2:=TFit.setPs ps.toList x us _ _ tf1 hrep
  refine ⟨fn,_,assign,body,hy,RoundIn.room (n:=1) (roundIn_of_wpIn hfn ?_)⟩
  have hr1:RRm ⟨w',β',I',fun k=>∃ d r loc,(d,r)∈R∧β' d=some loc∧loc.blk=k,[],X.G,X.mono⟩ [] ⟨setPs ps.toList x (s1.tmps.map (L.map (Zc ρ))),R⟩ { tmps:=(ps.zip ⟨us⟩).foldl (fun t (p,v)=>t.setIfInBounds p v) a.tmps,defers:=[] } w':=by
   have e:(ps.zip ⟨us⟩).foldl (fun t (p,v)=>t.setIfInBounds p v) a.tmps=(ps.toList.zip us).foldl (fun t (p,v)=>t.setIfInBounds p v) a.tmps:=by
    rw [← Array.foldl_toList,Array.toList_zip]
   refine ⟨rfl,β',I',?_⟩
   simp only [e]
   exact {
       fit:=Fit.ofT tf2 hT.fit,os:=rfl,tape:=rfl,output:=rfl,size:=Nat.le_refl _,block:=fun _ _ _=>rfl,imin:=fun _ h=>h,imnew:=fun _ h=>.inl h,regnew:=fun d r loc hd hl=>.inr ⟨d,r,loc,hd,hl,rfl⟩,fixed:=fun _ _ _=>rfl
       glob:=hglob,marks:=fun D hD=>(by cases hD),mnod:=.nil }
  refine wpIn_mono (show assign.wpIn (F0 (some l)) 1 X.P _ _ _ from Xu (Γ:=⟨w',β',I',fun k=>∃ d r loc,(d,r)∈R∧β' d=some loc∧loc.blk=k,[],X.G,X.mono⟩) rfl assign _ _ _ _ hr1 (round k x R l hk hInv)) fun e a1 w1 hq=>?_
  cases e with
  | exit id=>exact hq.elim
  | ret=>exact hq.elim
  | goto l=>exact hq.elim
  | panic c=>exact hq.elim
  | outgrown=>exact hq.elim
  | normal =>
  obtain ⟨s2,hb2,hd1,β1,Ia,hxa⟩:=hq
  have T1:Trans l β' w' I' R β1 w1 Ia s2.regs:=by have:=Trans.ofRRx (l:=l) (rs:=R) hxa (fun _ h=>h);exact this
  have hl1:w1.heap[l]? = some (.loop (rec .ready none)):=(Off.same (rs:=R) off1 hxa (fun _ h=>h)).trans hl'
  have off2:=T1.off off1
  have hlt1:=off2.lt
  refine ⟨_,run_beginRound hl1 (by rw [hrec]),?_⟩
  obtain ⟨w2,hw2⟩:∃ w2,w1.putObj l (.loop { rec .ready none with state:=.busy })=w2:=⟨_,rfl⟩
  rw [hw2]
  have hl2:w2.heap[l]? = some (.loop { rec .ready none with state:=.busy }):=by rw [← hw2];exact World.putObj_heap_same hlt1
  have T2:Trans l β1 w1 Ia s2.regs β1 w2 Ia s2.regs:=by rw [← hw2];exact Trans.put hxa.fit.regsOnly off2 _
  have off3:=T2.off off2
  have hr2:RR ⟨w2,β1,Ia,fun k=>∃ d r loc,(d,r)∈s2.regs∧β1 d=some loc∧loc.blk=k,[],X.G,X.mono⟩ s2 a1 w2:=by
   refine ⟨[],hd1,β1,Ia,?_⟩
   exact {
       fit:=by rw [← hw2];exact hxa.fit.putOff off2 _,os:=rfl,tape:=rfl,output:=rfl,size:=Nat.le_refl _,block:=fun _ _ _=>rfl,imin:=fun _ h=>h,imnew:=fun _ h=>.inl h,regnew:=fun d r loc hd hl=>.inr ⟨d,r,loc,hd,hl,rfl⟩,fixed:=fun _ _ _=>rfl
       glob:=X.mono (T2.keeps off2 hxa.fit.regsOnly) hxa.glob,marks:=fun D hD=>(by cases hD),mnod:=.nil }
  refine wpIn_mono (show body.wpIn (F0 (some l)) 1 X.P _ _ _ from hb2 _ a1 w2 rfl hr2) fun e a3 w3 hq=>?_
  have fin:∀ (R':Regs) (jump:Option Code) (s3:St),s3.Le ⟨Fp n [],R'⟩→RR ⟨w2,β1,Ia,fun k=>∃ d r loc,(d,r)∈s2.regs∧β1 d=some loc∧loc.blk=k,[],X.G,X.mono⟩ s3 a3 w3 →
    ∃
     β3 I3,(Instr.endRound l jump).run X.P w3=.ok (.bool jump.isNone) (w3.putObj l (.loop (rec (if jump.isNone then .ready else .done) jump)))∧YKeep w' I' (w3.putObj l (.loop (rec (if jump.isNone then .ready else .done) jump))) I3 ∧
     Trans l β0 W1 I1 rs0 β3 (w3.putObj l (.loop (rec (if jump.isNone then .ready else .done) jump))) I3 R'∧(w3.putObj l (.loop (rec (if jump.isNone then .ready else .done) jump))).heap[l]? = some (.loop (rec (if jump.isNone then .ready else .done) jump)):=by
   intro R' jump s3 hle hr3
   obtain ⟨ms3,_,β3,I3,hx3'⟩:=hle _ _ _ hr3
   have T3:Trans l β1 w2 Ia s2.regs β3 w3 I3 R':=by have:=Trans.ofRRx (l:=l) (rs:=s2.regs) hx3' (fun _ h=>h);exact this
   have hl3:w3.heap[l]? = some (.loop { rec .ready none with state:=.busy }):=(Off.same (rs:=s2.regs) off3 hx3' (fun _ h=>h)).trans hl2
   have off4:=T3.off off3
   have T4:=Trans.put T3.fit off4 (.loop (rec (if jump.isNone then .ready else .done) jump))
   have Tall:=T1.trans (T2.trans (T3.trans T4))
   refine ⟨β3,I3,?_,Tall.ykeep off1 hT.fit,hT.trans Tall,World.putObj_heap_same off4.lt⟩
   have:=run_endRound (P:=X.P) jump hl3
   rw [hrec] at this ⊢
   exact this
  cases e with
  | normal =>
   obtain ⟨s3,⟨R',hI',hle⟩,hr3⟩:=hq
   obtain ⟨β3,I3,g1,g2,g3,g4⟩:=fin R' none s3 ((Jh rn s3 hrn).trans hle) hr3
   exact ⟨_,_,g1,I3,g2,.inl ⟨rfl,β3,R',hI',g3,g4⟩⟩
  | exit id =>
   obtain ⟨s3,⟨R',hI',hle⟩,hr3⟩:=hq
   obtain ⟨β3,I3,g1,g2,g3,g4⟩:=fin R' (some (.exit id)) s3 ((Jh rn s3 hrn).trans hle) hr3
   exact ⟨_,_,g1,I3,g2,.inr ⟨rfl,β3,R',.exit id,.exit id,hI',rfl,g3,g4⟩⟩
  | ret =>
   obtain ⟨s3,⟨R',hI',hle⟩,hr3⟩:=hq
   obtain ⟨β3,I3,g1,g2,g3,g4⟩:=fin R' (some .ret) s3 ((Jh rn s3 hrn).trans hle) hr3
   exact ⟨_,_,g1,I3,g2,.inr ⟨rfl,β3,R',.ret,.ret,hI',rfl,g3,g4⟩⟩
  | goto l=>exact hq.elim
  | panic c=>exact hq.elim
  | outgrown=>exact hq.elim
 have back:∀ (R:Regs) (β':Env) (w3:World) (I3:Nat→Prop),(∀ e r,(e,r)∈R→e=900∨findKey e rs0=true)→Trans l β0 W1 I1 rs0 β' w3 I3 R→w3.heap[l]? = some (.loop (rec .ready none)) →
   ∀ o,RR Γ (s1.after ρ (Oi none R) R) { a with defers:=[Qw D] ++ a.defers } (w3.putObj l o):=by
  intro R β' w3 I3 hk hT hl3 o
  have hstep:CallStep β0 W1 I1 rs0 β' w3 I3 R:=hT.step (hl3.trans hlW.symm) fun e r he=>(hk e r he).imp id fun h=>U8.1 h
  rw [hrs0,← hβ0] at hstep
  have hcalled:=hx3.called hρ (nw:=Oi none R) (fun e he=>by
    unfold Oi at he
    split at he
    ·cases he;decide
    ·cases he) (fun he=>by
    unfold Oi at he
    split at he
    ·cases he
    ·assumption) hstep
  have hlD:l ∉ D :: ms:=by
   intro h
   rcases List.mem_cons.1 h with h | h
   ·omega
   ·have:=(hx1.marks l h).1
    have:=(Array.getElem?_eq_some_iff.1 this).1
    omega
  have hoff:Off l (L1 ρ (Oi none R) β β') w3 I3 (s1.after ρ (Oi none R) R).regs:=by
   have o3:=hT.off off0
   refine ⟨o3.lt,o3.im,fun e r loc h1 h2=>?_⟩
   intro e'
   have hRep:=hcalled.fit.regs e r h1
   have h3:w3.heap[loc.blk]? = some (.loop (rec .ready none)):=by rw [e'];exact hl3
   rcases List.mem_append.1 h1 with h1 | h1
   ·obtain ⟨hne,r9,h9,rfl⟩:=Vt h1
    have:β' 900=some loc:=by simpa [L1,hne] using h2
    exact o3.reg 900 r9 loc h9 this e'
   ·obtain ⟨hne,hq⟩:=Nk h1
    rcases hq with ⟨m,r',r0,k1,k2,k3,rfl⟩ | ⟨k1,r0,k2,rfl⟩
    ·have:β' m=some loc:=by simpa [L1,hne,k1] using h2
     exact o3.reg m r' loc k2 this e'
    ·have:β e=some loc:=by simpa [L1,hne,k1] using h2
     have:=hlive e r0 loc k2 this
     omega
  exact ⟨D :: ms,by simp [hdef,Qw],_,_,hcalled.putOff hoff (by rw [hl];exact Nat.le_trans hx1.size (Nat.le_succ _)) hlD o⟩
 refine ⟨l,[{ target:=.collected D,args:=#[] }],W1,{ target:=.fn (.func f) ⟨[.pointer (some ⟨loc.blk,0,none⟩)]⟩,args:=#[.func (.yield l) #[] #[]] },W1,f,#[.func (.yield l) #[] #[]] ++ ⟨[.pointer (some ⟨loc.blk,0,none⟩)]⟩,W1,?_,?_,?_,?_,fun h=>by simp [F0] at h,?_⟩
 ·rw [← hW1,hrec,hl,hD];exact run_enterLoop_outer _ _ _ _ _
 ·simp only [resolve,hgv]
  simp [go_sem]
 ·intro f' hf';trivial
 ·simp [invoke,hi.1 _ _]
 ·refine Jj2 (Calls.mono (hi.2 l J hJ hY I1 W1 [.pointer (some ⟨loc.blk,0,none⟩)] (hG ▸ hx2.glob) hx2.fit.im (by subst hJe;exact ⟨β0,rs0,h0,Trans.refl fit0,hlW⟩) rfl (fun i v m h1 h2=>by
   match i,h1,h2 with
   | 0,h1,h2=>cases h1;cases h2;exact hcap.mono' ⟨fun _ h=>h,fun b hb=>gr.block b (hx1.fit.im b hb)⟩
   | i+1,h1,h2=>simp at h1)) fun e w3 ⟨v,I3,he,_,hj⟩=>?_)
  subst he
  rcases hj with hj | hj
  ·subst hJe
   obtain ⟨β',R,hInv,hT,hl3⟩:=hj
   have hend:=run_endLoop (P:=X.P) hl3 (by rw [hrec];simp)
   refine ⟨_,_,hend,?_⟩
   rw [hrec]
   exact ⟨_,done R hInv,back R β' w3 I3 (hkI _ R hInv) hT hl3 _⟩
  ·subst hJe
   obtain ⟨β',R,x,c,hSt,hc,hT,hl3⟩:=hj
   have hend:=run_endLoop (P:=X.P) hl3 (by rw [hrec];simp)
   refine ⟨_,_,hend,?_⟩
   have off3:=hT.off off0
   have T4:=hT.trans (Trans.put hT.fit off3 (.loop (rec .ready none)))
   have hb:=back R β' (w3.putObj l (.loop (rec .ready none))) I3 (hkS x R hSt) T4 (World.putObj_heap_same off3.lt) (.loop { rec .done (some c) with state:=.exhausted })
   rw [Jis] at hb
   have hq:=stop x R hSt
   rw [hrec] at hb ⊢
   cases x with
   | normal=>exact absurd hSt (hSn R)
   | exit id=>cases hc;exact wpIn_exit ⟨_,hq,hb⟩
   | ret=>cases hc;exact wpIn_ret ⟨_,hq,hb⟩
end
end Go.LX
