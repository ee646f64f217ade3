/- The run of a quiet operation yields what 'lq' says: slices, structs, and all together. -/
import Derived.Test.YtaghbedfogiopaaGreatDoorLxB
set_option linter.unusedSimpArgs false
set_option linter.unusedVariables false
set_option linter.unusedSectionVars false
set_option linter.unnecessarySimpa false
namespace Go.LX
open Go Go.RowKit
section
variable {P:Program} {β:Env} {w:World} {Im:Nat->Prop}
theorem Co {s:St} {a:Act} (hf:Fit β w Im s a.tmps) {d l:Int} {o:Option Operand} (h:Dr s.get d o=some l) :
  (o.map a.eval=none/\l=d)\/∃ k,o.map a.eval=some (.int k l):=by
 cases o with
 | none=>simp [Dr] at h;exact .inl ⟨rfl,h.symm⟩
 | some x =>
  simp only [Dr] at h;have hr:=A2 hf x;split at h
  ·rename_i k n hg;cases h;rw [hg] at hr;cases hx:a.eval x <;> rw [hx] at hr <;> cases hr;exact .inr ⟨k,by simp [hx]⟩
  ·cases h
theorem Fe (isSlice:Bool) (len cap:Nat) (vl vh:Option Value) (l h:Int) (hl:(vl=none/\l=0)\/∃ k,vl=some (.int k l)) (hh:(vh=none/\h=len)\/∃ k,vh=some (.int k h))
  (h0:0<=l) (h1:l<=h) (h2:h<=cap):(Instr.sliceBounds isSlice len cap vl vh none).run P w=.ok (l.toNat,h.toNat,cap) w:=by
 have eh:(h.toNat:Int)=h:=Int.toNat_of_nonneg omg;rcases hl with ⟨rfl,rfl⟩ | ⟨kl,rfl⟩ <;> rcases hh with ⟨rfl,rfl⟩ | ⟨kh,rfl⟩
 ·simp [Instr.sliceBounds]
 ·simp [Instr.sliceBounds,run_sliceBound,(by omega:0<=h),h2]
 ·simp [Instr.sliceBounds,run_sliceBound,h0,h1]
 ·simp [Instr.sliceBounds,run_sliceBound,h0,h1,h2,eh,(by omega:0<=h)]
theorem Jbz (s:List UInt8) (l h:Nat):(⟨⟨s⟩⟩:ByteArray).extract l h=⟨⟨(s.drop l).take (h - l)⟩⟩:=by
 apply ByteArray.ext;rw [ByteArray.data_extract];simp
theorem Jwh {v:Value} {es:List (List PV)} (h:PRep w Im v (.sl es)):((∃ oa,v=.slice oa 0 0)/\es=[])\/∃ (b off cap sz:Nat) (f:Nat->Nat->Value),v=.slice (some ⟨b,off,none⟩) es.length cap/\es.length<=cap/\Im b /\
  (∀ e∈es,e.length=sz)/\(∀ e∈es,∀ p∈e,p.scalar=true)/\(∀ i,i<es.length->∀ j,j<sz->w.cell? ⟨b,off+i * sz+j,none⟩=some (f i j)) /\
  ∀ (i:Nat) (e:List PV) (j:Nat) (p:PV),es[i]? = some e->e[j]? = some p->PRep w Im (f i j) p:=by
 cases h with
 | slNil=>exact .inl ⟨⟨_,rfl⟩,rfl⟩
 | sl b off cap sz _ hcap hb f hsz hsc hc hp=>exact .inr ⟨b,off,cap,sz,f,rfl,hcap,hb,hsz,hsc,hc,hp⟩
theorem V5 {s:St} {a:Act} (hf:Fit β w Im s a.tmps) {t:TypeId} {x:Operand} {lo hi mx:Option Operand} {K:L->Prop} (h:G2 P s.regs t s.get x lo hi mx K) :
  C0 β Im w ((Instr.sliceAt t (a.eval x) (lo.map a.eval) (hi.map a.eval) (mx.map a.eval)).run P w) K:=by
 obtain ⟨rfl,h⟩:=h;have hx:=A2 hf x;split at h
 ·rename_i str ht hg;obtain ⟨l,hh,hl,hhi,h0,h1,h2,hK⟩:=h;rw [hg] at hx;cases hv:a.eval x <;> rw [hv] at hx <;> cases hx;refine X2 hK ?_;rw [run_sliceAt_string _ _ _ _ _ _ ht];have hb:=Fe (P:=P) (w:=w) false str.length str.length _ _ l hh (Co hf hl) (Co hf hhi) h0 h1 h2;have hsz:(⟨⟨str⟩⟩:ByteArray).size=str.length:=rfl;simp only [Instr.slice,Sem.run_bind,run_underlying ht,Result.andThen_ok,Option.map_none,Option.isSome_none,Ebv,if_false,hsz,hb,Sem.run_pure,Jbz]
 ·rename_i e es ht hg;obtain ⟨hpos,hall,l,hh,hl,hhi,h0,h1,h2,hK⟩:=h;rw [hg] at hx;have hx':=hx;obtain ⟨ad,cap,hv,hcap,hnil⟩:=Jvq hx';have hb:=Fe (P:=P) (w:=w) true es.length cap _ _ l hh (Co hf hl) (Co hf hhi) h0 h1 omg;have hel:=Hk ht;have hrun:(Instr.sliceAt t (a.eval x) (lo.map a.eval) (hi.map a.eval) none).run P w=.ok (.slice (if cap=l.toNat then ad else ad.map (·.add (l.toNat * P.cellsOf e))) (hh.toNat - l.toNat) (cap - l.toNat)) w:=by
   rw [run_sliceAt_slice _ _ _ _ _ _ (by rw [hel];exact ht),hv];simp only [Instr.slice,Sem.run_bind,run_underlying ht,Result.andThen_ok,hb,Bk (P:=P) (t:=e) rfl omg,Sem.run_pure]
  have hlen:((es.drop l.toNat).take (hh.toNat - l.toNat)).length=hh.toNat - l.toNat:=by simp;omega
  refine y_p _ hK hrun ?_;rcases Jwh hx with ⟨⟨oa,hv2⟩,rfl⟩ | ⟨b,off,cap',sz,f,hv2,hcap',hbi,hsz,hsc,hc,hp⟩
  ·rw [hv] at hv2;cases hv2;simp at h2;have:l=0:=by omega
   have:hh=0:=by omega
   subst_vars
   exact .slNil
  ·rw [hv] at hv2;cases hv2;by_cases hcl:cap=l.toNat
   ·have he:(es.drop l.toNat).take (hh.toNat - l.toNat)=[]:=Eal (by rw [hlen];omega);rw [he,if_pos hcl,show hh.toNat - l.toNat=0 by omega];exact PRep.sl b off (cap - l.toNat) sz [] (Eav _) hbi f (fun x hx=>by cases hx) (fun x hx=>by cases hx) (fun i hi=>by simp at hi) (fun i x j p hi=>by simp at hi)
   ·rw [if_neg hcl];simp only [Option.map_some,Cd]
    conv=>arg 3;rw [<- hlen]
    have hmem:∀ x∈(es.drop l.toNat).take (hh.toNat - l.toNat),x∈es:=fun x hx=>Ea7 (Ebm hx)
    refine PRep.sl b _ (cap - l.toNat) (P.cellsOf e) _ (by rw [hlen];omega) hbi (fun i=>f (l.toNat+i)) (fun x hx=>hall x (hmem x hx)) (fun x hx=>hsc x (hmem x hx)) (fun i hi j hj=>?_) (fun i x j p hi hj=>?_)
    ·have hne:l.toNat+i<es.length:=by rw [hlen] at hi;omega
     have hs:sz=P.cellsOf e:=by rw [<- hsz _ (Ebq hne),hall _ (Ebq hne)]
     have:=hc (l.toNat+i) hne j (by rw [hs];exact hj);rw [hs,Ebo] at this;rw [<- this];congr 2;omega
    ·rw [Eao] at hi;split at hi
     ·exact hp (l.toNat+i) x j p (by simpa using hi) hj
     ·cases hi
 ·rename_i e ht hg;obtain ⟨hpos,l,hh,hl,hhi,rfl,rfl,hK⟩:=h;rw [hg] at hx;have hv:a.eval x=.slice none 0 0:=by generalize a.eval x=v at hx;cases hx;rfl
  have hb:=Fe (P:=P) (w:=w) true 0 0 _ _ 0 0 (Co hf hl) (Co hf hhi) (Edi 0) (Edi 0) (Edi 0);have hel:=Hk ht;refine y_p (v:=.slice none 0 0) _ hK ?_ .snil;rw [run_sliceAt_slice _ _ _ _ _ _ (by rw [hel];exact ht),hv];simp only [Instr.slice,Sem.run_bind,run_underlying ht,Result.andThen_ok,hb,Option.map_none,Bk (P:=P) (t:=e) rfl omg,Sem.run_pure];simp
 ·rename_i e d off len ht hg;obtain ⟨hpos,hrs,l,hh,hl,hhi,h0,h1,h2,hK⟩:=h;rw [hg] at hx;have hel:=Hk ht;rcases hx with ⟨loc,cap,o,hβ,hcap,hlc,ho,hv⟩ | ⟨hβ,rfl,rfl,hv⟩
  ·have hroom:Gx s.regs d<=loc.tot/\loc.sz=P.cellsOf e:=by
    unfold Pa at hrs;split at hrs
    ·rename_i T sz es hr;rw [Gx,hr];cases hrs;rcases hf.regs d _ (Ax hr) with ⟨hn,_⟩ | ⟨loc',cur,hβ',hsz,_,_,hle,_⟩
     ·rw [hβ] at hn;cases hn
     ·rw [hβ] at hβ';cases hβ';exact ⟨hle,hsz⟩
    ·rename_i T sz full es hr;rw [Gx,hr];cases hrs;rcases hf.regs d _ (Ax hr) with ⟨hn,_⟩ | ⟨loc',cur,hβ',hsz,_,_,hle,_⟩
     ·rw [hβ] at hn;cases hn
     ·rw [hβ] at hβ';cases hβ';exact ⟨hle,hsz⟩
    ·cases hrs
   obtain ⟨hroom,hsz⟩:=hroom;have hb:=Fe (P:=P) (w:=w) true len cap _ _ l hh (Co hf hl) (Co hf hhi) h0 h1 omg;have hrun:(Instr.sliceAt t (a.eval x) (lo.map a.eval) (hi.map a.eval) none).run P w=.ok (.slice (some (if cap=l.toNat then ⟨loc.blk,o,none⟩ else ⟨loc.blk,o+l.toNat * P.cellsOf e,none⟩)) (hh.toNat - l.toNat) (cap - l.toNat)) w:=by
    rw [run_sliceAt_slice _ _ _ _ _ _ (by rw [hel];exact ht),hv];simp only [Instr.slice,Sem.run_bind,run_underlying ht,Result.andThen_ok,hb,Bk (P:=P) (t:=e) rfl omg,Sem.run_pure];split <;> simp [Cd]
   have hle:hh.toNat<=cap:=by omega
   by_cases hc:cap=l.toNat
   ·rw [if_pos hc] at hrun;refine Wh _ hK hrun (.inl ⟨loc,cap - l.toNat,o,hβ,by omega,by omega,fun h=>?_,rfl⟩);rcases h with h | h
    ·omega
    ·have:l.toNat=0:=by omega
     have:off=0:=by omega
     subst this;rw [ho (.inr rfl)];simp [*]
   ·rw [if_neg hc] at hrun;refine Wh _ hK hrun (.inl ⟨loc,cap - l.toNat,_,hβ,by omega,by omega,fun _=>?_,rfl⟩);rw [ho (.inl omg),hsz,Ebo]
  ·have hh0:hh=0/\l=0:=by
    have:Gx s.regs d=0:=by
     unfold Pa at hrs;split at hrs
     ·rename_i T sz es hr;rw [Gx,hr];rcases hf.regs d _ (Ax hr) with ⟨_,h⟩ | ⟨loc',cur,hβ',_⟩
      ·simp [h]
      ·rw [hβ] at hβ';cases hβ'
     ·rename_i T sz full es hr;rw [Gx,hr];rcases hf.regs d _ (Ax hr) with ⟨_,h⟩ | ⟨loc',cur,hβ',_⟩
      ·simp [h]
      ·rw [hβ] at hβ';cases hβ'
     ·cases hrs
    omega
   obtain ⟨rfl,rfl⟩:=hh0;have hb:=Fe (P:=P) (w:=w) true 0 0 _ _ 0 0 (Co hf hl) (Co hf hhi) (Edi 0) (Edi 0) (Edi 0);refine Wh (v:=.slice none 0 0) _ hK ?_ (.inr ⟨hβ,rfl,rfl,rfl⟩);rw [run_sliceAt_slice _ _ _ _ _ _ (by rw [hel];exact ht),hv];simp only [Instr.slice,Sem.run_bind,run_underlying ht,Result.andThen_ok,Option.map_none,Bk (P:=P) (t:=e) rfl omg,Sem.run_pure];simp only [Int.toNat_zero] at hb
   erw [hb]
   simp
 ·exact h.elim
theorem Jg4 (l:List Value):(Value.agg ⟨l⟩).cells=⟨l⟩:=rfl
theorem PRep.cells_scalar {v:Value} {p:PV} (h:PRep w Im v p) (hs:p.scalar=true):v.cells = #[v]:=by
 cases h <;> first | rfl | simp [PV.scalar] at hs
theorem J7z {β:Env} {v:Value} {g:FuncId} {ps:List PV} (h:PRep w Im v (.clo g ps)):∃ b o,v=.func (.func g) #[] #[.pointer (some ⟨b,o,none⟩)]/\LRep β w Im (.pointer (some ⟨b,o,none⟩)) (.eptr ps):=by
 cases h with
 | clo _ b o _ hb f hsc hc hp=>exact ⟨b,o,rfl,b,o,hb,rfl,f,hc,fun j p hj=>⟨hp j p hj,hsc p (Eae hj)⟩⟩
theorem PRep.one {v:Value} {p:PV} (h:PRep w Im v p) (hs:p.scalar=true):v.oneCell'=true:=by
 cases h <;> first | rfl | simp [PV.scalar] at hs
theorem Row.append {cs ds:List Value} {ps qs:List PV} (h:Row w Im cs ps) (h':Row w Im ds qs):Row w Im (cs ++ ds) (ps ++ qs):=by
 refine ⟨by simp [h.1,h'.1],fun i v p hv hp=>?_⟩;by_cases hi:i<cs.length
 ·rw [Eaq hi] at hv;rw [Eaq (by rw [<- h.1];exact hi)] at hp;exact h.2 i v p hv hp
 ·rw [Ean omg] at hv;rw [Ean (by rw [<- h.1];omega),<- h.1] at hp;exact h'.2 _ v p hv hp
theorem Ns (off:Nat):∀ (vs:List Value) (k:Nat) (cs:List Value),off+k+vs.length<=cs.length ->
  (vs.zipIdx k).foldl (fun (cs:Array Value) (x:Value×Nat)=>cs.setIfInBounds (off+x.2) x.1) (⟨cs⟩:Array Value)=⟨cs.take (off+k) ++ vs ++ cs.drop (off+k+vs.length)⟩
 | [],k,cs,_=>by simp
 | v :: vs,k,cs,h=>by
  simp only [List.zipIdx_cons,List.foldl_cons];rw [show (⟨cs⟩:Array Value).setIfInBounds (off+k) v=⟨cs.set (off+k) v⟩ by simp];rw [Ns off vs (k+1) (cs.set (off+k) v) (by simp at h ⊢;omega)];have h1:off+k<cs.length:=by simp at h;omega
  rw [<- Ebj];simp only;simp only [List.length_cons] at h;have e1:(cs.set (off+k) v).take (off+(k+1))=cs.take (off+k) ++ [v]:=by
   rw [<- Ebx,List.take_succ_eq_append_getElem (by simpa using h1),List.take_set_of_le (Eai _)];simp
  have e2:(cs.set (off+k) v).drop (off+(k+1)+vs.length)=cs.drop (off+k+(vs.length+1)):=by
   rw [List.drop_set_of_lt omg];congr 1;omega
  rw [e1,e2];simp
theorem Lk {t:TypeId} {fs:Array Field} (ht:P.underlying t=some (.struct fs)) (places:Array (Nat×Nat)) (hpl:∀ (i:Nat) (f:Field),fs[i]? = some f->places[i]? = some (f.offset,P.cellsOf f.type)) :
  ∀
   (parts:List (Nat×Value)) (ls:List (Nat×L)) (cs:List Value) (z r:List PV),parts.length=ls.length ->
   (∀ (i:Nat) (u:Nat×Value) (x:Nat×L),parts[i]? = some u->ls[i]? = some x->u.1=x.1/\LRep β w Im u.2 x.2)->Row w Im cs z->(∀ p∈z,p.scalar=true)->Ef P t z ls=some r ->
   ∃ cs',Instr.fill (places[·]?) ⟨cs⟩ parts=some ⟨cs'⟩/\Row w Im cs' r/\∀ p∈r,p.scalar=true
 | [],[],cs,z,r,_,_,hr,hs,hfill=>by
  simp [Ef] at hfill;subst hfill;exact ⟨cs,by simp [Instr.fill],hr,hs⟩
 | (i,v) :: parts,(i',x) :: ls,cs,z,r,hl,hrep,hr,hs,hfill=>by
  obtain ⟨e1,e2⟩:=hrep 0 _ _ rfl rfl;simp only at e1 e2;subst e1;have hrest:∀ (j:Nat) (u:Nat×Value) (x:Nat×L),parts[j]? = some u->ls[j]? = some x->u.1=x.1/\LRep β w Im u.2 x.2:=fun j u x hu hx=>hrep (j+1) u x (by simpa using hu) (by simpa using hx)
  simp only [Ef] at hfill;split at hfill
  ·rename_i off ft xs hfld;obtain ⟨fs',fd,ht',hfd,ho,hft,hn⟩:=J9 hfld;rw [ht] at ht';cases ht';split at hfill
   ·rename_i hc;cases e2 with
    | agg vs _ hvl hvs hvp =>
    have hlc:off+vs.length<=cs.length:=by rw [hr.1,hvl];exact hc.2
    have hrow:Row w Im (cs.take off ++ vs ++ cs.drop (off+vs.length)) (z.take off ++ xs ++ z.drop (off+xs.length)):=by
     rw [<- hvl];exact ((hr.take off).append ⟨hvl,hvp⟩).append (hr.drop _)
    obtain ⟨cs',h1,h2,h3⟩:=Lk ht places hpl parts ls _ _ r (by simpa using hl) hrest hrow (by
     intro p hp;rcases Eau.1 hp with hp | hp
     ·rcases Eau.1 hp with hp | hp
      ·exact hs p (Ebm hp)
      ·exact hvs p hp
     ·exact hs p (Ea7 hp)) hfill
    refine ⟨cs',?_,h2,h3⟩;have hf0:=Ns off vs 0 cs omg;simp only [Nat.add_zero] at hf0;have hp0:=hpl i fd hfd;simp only [Instr.fill,hp0,ho,hft,Jg4];refine (if_neg (by simp;omega)).trans ?_;have e0:(⟨vs⟩:Array Value).zipIdx=⟨vs.zipIdx⟩:=by simp
    have e3:Array.foldl (fun (cs:Array Value) (x:Value×Nat)=>cs.setIfInBounds (off+x.2) x.1) (⟨cs⟩:Array Value) (⟨vs⟩:Array Value).zipIdx=⟨cs.take off ++ vs ++ cs.drop (off+vs.length)⟩:=by
     rw [e0,<- Array.foldl_toList];exact hf0
    exact (congrArg (fun x=>Instr.fill (fun x=>places[x]?) x parts) e3).trans h1
   ·cases hfill
  ·rename_i off ft p hnotagg hfld;obtain ⟨fs',fd,ht',hfd,ho,hft,hn⟩:=J9 hfld;rw [ht] at ht';cases ht';split at hfill
   ·rename_i hc;have hps:p.scalar=true:=by cases p <;> first | rfl | exact (hnotagg _ rfl).elim
    have hp':PRep w Im v p:=e2;have hcells:=hp'.cells_scalar hps;have hlt:off<cs.length:=by rw [hr.1];omega
    have hrow:Row w Im (cs.set off v) (z.set off p):=by
     refine ⟨by simp [hr.1],fun j u q hu hq=>?_⟩;rw [Ebn] at hu hq;by_cases hj:off=j
     ·rw [if_pos hj] at hu hq;rw [if_pos hlt] at hu;rw [if_pos omg] at hq;cases hu;cases hq;exact hp'
     ·rw [if_neg hj] at hu hq;exact hr.2 j u q hu hq
    obtain ⟨cs',h1,h2,h3⟩:=Lk ht places hpl parts ls _ _ r (by simpa using hl) hrest hrow (by
     intro q hq;rcases Eby hq with hq | rfl
     ·exact hs q hq
     ·exact hps) hfill
    refine ⟨cs',?_,h2,h3⟩;have hp0:=hpl i fd hfd;simp only [Instr.fill,hp0,ho,hft,hcells];refine (if_neg (by simp;omega)).trans ?_;simpa using h1
   ·cases hfill
  ·cases hfill
theorem Wx {fs:Array Field} (hsz:∀ f∈fs.toList,P.cellsOf f.type≠0) (w:World) :
  (fs.mapM fun f=>(do pure (f.offset,<- sizeOf f.type):Sem (Nat×Nat))).run P w=.ok ⟨fs.toList.map fun f=>(f.offset,P.cellsOf f.type)⟩ w:=by
 obtain ⟨l⟩:=fs;rw [Array.mapM_eq_mapM_toList];simp only [Sem.run_map];have:∀ (l:List Field),(∀ f∈l,P.cellsOf f.type≠0)->(l.mapM fun f=>(do pure (f.offset,<- sizeOf f.type):Sem (Nat×Nat))).run P w=.ok (l.map fun f=>(f.offset,P.cellsOf f.type)) w:=by
  intro l
  induction l with
  | nil=>intro _;simp
  | cons f l ih =>
   intro h;have h0:=h f Eaf;simp only [List.mapM_cons,Sem.run_bind,Bk (P:=P) (t:=f.type) rfl h0,Result.andThen_ok,Sem.run_pure,ih (fun g hg=>h g (Eag _ hg)),Eat]
 rw [this l hsz];rfl
theorem J32 {t:TypeId} {parts:List (Nat×Value)} {ls:List (Nat×L)} {K:L->Prop} (hl:parts.length=ls.length)
  (hrep:∀ (i:Nat) (u:Nat×Value) (x:Nat×L),parts[i]? = some u->ls[i]? = some x->u.1=x.1/\LRep β w Im u.2 x.2) (h:J6c P t ls K) :
  C0 β Im w ((Instr.build t ⟨parts⟩).run P w) K:=by
 obtain ⟨z,hz,hfull,cs,hcs,hK⟩:=h;obtain ⟨fs,ht⟩:∃ fs,P.underlying t=some (.struct fs):=by
  unfold Ez at hfull;split at hfull
  ·rename_i fs ht;exact ⟨fs,ht⟩
  ·cases hfull
 unfold Bu at hz;split at hz <;> first|(cases hz;done) | skip
 rename_i inf hinf;split at hz <;> first|(cases hz;done) | skip
 rename_i zv hzv;have hzrun:(zeroValue t).run P w=.ok zv w:=by simp [zeroValue,typeInfo,hinf,hzv]
 obtain ⟨hz1,hz2⟩:=Bh hz;have hzrow:Row w Im zv.cells.toList z:=⟨hz1,fun i v p hv hp=>(E6 (hz2 i v p hv hp)).1⟩
 have hzs:∀ p∈z,p.scalar=true:=Dl hz;have hne:∀ f∈fs.toList,P.cellsOf f.type≠0:=by
  intro f hf;simp only [Ez,ht,Ebw,bne_iff_ne] at hfull;exact hfull f hf
 obtain ⟨cs',h1,h2,h3⟩:=Lk ht ⟨fs.toList.map fun f=>(f.offset,P.cellsOf f.type)⟩ (fun i f hf=>by
  have:fs.toList[i]? = some f:=by simpa using hf
  simp [this]) parts ls zv.cells.toList z cs hl hrep hzrow hzs hcs
 refine y_p _ hK (v:=.agg ⟨cs'⟩) ?_ (PRep.agg cs' cs h2.1 h3 h2.2);have hm:=Wx (P:=P) hne w;have h1':Instr.fill (fun x=>(⟨fs.toList.map fun f=>(f.offset,P.cellsOf f.type)⟩:Array (Nat×Nat))[x]?) zv.cells parts=some ⟨cs'⟩:=h1;simp only [Instr.build,Sem.run_bind,hzrun,Result.andThen_ok,run_underlying ht,hm,h1',Sem.run_pure]
theorem J8v:∀ (parts:List (Nat×Value)) (ls:List (Nat×L)) (k:Nat) (cs:List Value) (vs:List PV),parts.length=ls.length ->
  (∀ (i:Nat) (u:Nat×Value) (x:Nat×L),parts[i]? = some u->ls[i]? = some x->u.1=x.1/\LRep β w Im u.2 x.2)->Jw8 k ls=some vs->k+parts.length=cs.length ->
  ∃ news,Instr.fill (fun i=>some (i * 1,1)) ⟨cs⟩ parts=some ⟨cs.take k ++ news⟩/\news.length=vs.length/\∀ (j:Nat) (u:Value) (p:PV),news[j]? = some u->vs[j]? = some p->PRep w Im u p/\p.scalar=true
 | [],ls,k,cs,vs,hl,_,hv,hk=>by
  cases ls with
  | cons=>simp at hl
  | nil =>
   simp [Jw8] at hv;subst hv;refine ⟨[],?_,rfl,by simp⟩;simp only [Instr.fill,Eaz];rw [Ead (by simp at hk;omega)]
 | (i,v) :: parts,ls,k,cs,vs,hl,hrep,hv,hk=>by
  cases ls with
  | nil=>simp at hl
  | cons x ls =>
  obtain ⟨i',x⟩:=x;obtain ⟨e1,e2⟩:=hrep 0 _ _ rfl rfl;simp only at e1 e2;subst e1;cases x with
  | p q =>
   simp only [Jw8] at hv;split at hv
   ·rename_i hc;obtain ⟨rfl,hq⟩:=hc;split at hv
    ·rename_i r hr;cases hv;have hp':PRep w Im v q:=e2;have hcells:=hp'.cells_scalar hq;simp only [List.length_cons] at hk hl;obtain ⟨news,h1,h2,h3⟩:=J8v parts ls (i+1) (cs.set i v) r omg (fun j u x hu hx=>hrep (j+1) u x (by simpa using hu) (by simpa using hx)) hr (by rw [List.length_set];omega);refine ⟨v :: news,?_,by simp [h2],fun j u p hu hp=>?_⟩
     ·simp only [Instr.fill,hcells];refine (if_neg (by simp;omega)).trans ?_;have e3:(Array.foldl (fun (cs:Array Value) (x:Value×Nat)=>cs.setIfInBounds (i * 1+x.2) x.1) (⟨cs⟩:Array Value) (#[v]:Array Value).zipIdx)=⟨cs.set i v⟩:=by simp
      refine (congrArg (fun x=>Instr.fill (fun i=>some (i * 1,1)) x parts) e3).trans (h1.trans ?_);congr 2;have e4:(cs.set i v).take (i+1)=cs.take i ++ [v]:=by
       have hil:(cs.take i).length=i:=by rw [Eaw];omega
       rw [List.set_eq_take_append_cons_drop,if_pos omg,List.take_append,hil,Ead omg,Ecp];rfl
      rw [e4,Ea2];rfl
     ·cases j with
      | zero=>simp at hu hp;subst hu;subst hp;exact ⟨hp',hq⟩
      | succ j=>exact h3 j u p (by simpa using hu) (by simpa using hp)
    ·cases hv
   ·cases hv
  | _=>simp [Jw8] at hv
theorem Up {t:TypeId} {parts:List (Nat×Value)} {ls:List (Nat×L)} {K:L->Prop} (hl:parts.length=ls.length)
  (hrep:∀ (i:Nat) (u:Nat×Value) (x:Nat×L),parts[i]? = some u->ls[i]? = some x->u.1=x.1/\LRep β w Im u.2 x.2) (h:Vf P t ls K) :
  C0 β Im w ((Instr.build t ⟨parts⟩).run P w) K:=by
 rcases J59 h with ⟨n,e,ht,hc,hn,⟨z,hz,hzl⟩,cs,hcs,hK⟩ | h
 ·unfold Bu at hz;split at hz <;> first|(cases hz;done) | skip
  rename_i inf hinf;split at hz <;> first|(cases hz;done) | skip
  rename_i zv hzv;have hzrun:(zeroValue t).run P w=.ok zv w:=by simp [zeroValue,typeInfo,hinf,hzv]
  obtain ⟨hz1,_⟩:=Bh hz;obtain ⟨news,h1,h2,h3⟩:=J8v parts ls 0 zv.cells.toList cs hl hrep hcs (by rw [hz1,hzl,hn,hl];simp);rw [List.take_zero,List.nil_append] at h1;refine y_p _ hK (v:=.agg ⟨news⟩) ?_ (PRep.agg news cs h2 (fun p hp=>?_) (fun i v p hv hp=>(h3 i v p hv hp).1))
  ·simp only [Instr.build,Sem.run_bind,hzrun,Result.andThen_ok,run_underlying ht,Bk (P:=P) (t:=e) hc de,h1,Sem.run_pure]
  ·obtain ⟨j,hj⟩:=Ebt hp;have hjl:=(Eab.1 hj).1;exact (h3 j _ p (Eaa omg) hj).2
 ·exact J32 hl hrep h
theorem Ow:∀ {ls:List L} {ds:List Nat},Hq ls=some ds->ls=ds.map fun d=>.ptr d 0 0
 | [],ds,h=>by simp [Hq] at h;subst h;rfl
 | l :: ls,ds,h=>by
  unfold Hq at h;split at h
  ·rename_i heq;cases heq
  ·rename_i d l' heq;cases heq;split at h
   ·rename_i ds' hds;cases h;simp [Ow hds]
   ·cases h
  ·cases h
end
section
variable {P:Program} {β:Env} {w:World} {Im:Nat->Prop}
def Jd3 (P:Program) (β:Env) (Im:Nat->Prop) (w:World) (a:Act) (o:Oper) (K:L->Prop):Prop :=
 ∃ v l,(execOp a.eval o).run P w=.ok (.value v) w/\LRep β w Im v l/\K l
theorem C0.oper {r:Sem Value} {K:L->Prop} (h:C0 β Im w (r.run P w) K):∃ v l,((do pure (Next.value (<- r))):Sem Next).run P w=.ok (.value v) w/\LRep β w Im v l/\K l:=by
 obtain ⟨v,l,hr,hl,hK⟩:=h;exact ⟨v,l,by simp [hr],hl,hK⟩
theorem Je5 (x y:List UInt8):((⟨⟨x⟩⟩:ByteArray) == ⟨⟨y⟩⟩)=(x == y):=by
 show ((⟨x⟩:Array UInt8) == ⟨y⟩)=(x == y)
 simp
theorem O5 {k x:PV} {u v:Value} {d:TypeDesc} {b:Bool} (hd:(∃ q,d=.int q)\/d=.string\/d=.bool) (hu:PRep w Im u k) (hv:PRep w Im v x) (hf:kfit d k=true) (h:Lc k x=some b) :
  Instr.sameNow d u v=some b:=by
 unfold Lc at h;split at h
 ·cases hu;cases hv;rcases hd with ⟨q,rfl⟩ | rfl | rfl
  ·split at h
   ·rename_i hk;subst hk;cases h;simp [Instr.sameNow]
   ·cases h
  ·simp [kfit] at hf
  ·simp [kfit] at hf
 ·cases hu;cases hv;cases h;rcases hd with ⟨q,rfl⟩ | rfl | rfl
  ·simp [kfit] at hf
  ·simp only [Instr.sameNow,Je5]
  ·simp [kfit] at hf
 ·cases hu;cases hv;cases h;rcases hd with ⟨q,rfl⟩ | rfl | rfl
  ·simp [kfit] at hf
  ·simp [kfit] at hf
  ·simp [Instr.sameNow]
 ·cases h
theorem Oq {t kt et:TypeId} (h:mapT P t=some (kt,et)):P.underlying t=some (.map kt et)/\∃ d,P.underlying kt=some d/\((∃ q,d=.int q)\/d=.string\/d=.bool):=by
 unfold mapT at h;split at h
 ·rename_i k e ht;split at h <;> first|(cases h;done) | skip
  all_goals (rename_i hk;cases h;refine ⟨ht,_,hk,?_⟩)
  ·exact .inl ⟨_,rfl⟩
  ·exact .inr (.inl rfl)
  ·exact .inr (.inr rfl)
 ·cases h
theorem Hh {d:TypeDesc} (hd:(∃ q,d=.int q)\/d=.string\/d=.bool) {k:PV} {u:Value} (hu:PRep w Im u k) (hf:kfit d k=true) :
  ∀
   (ents:List MapEntry) (es:List (PV×PV)) (i:Nat) (r:Option (Nat×PV)),ents.length=es.length->(∀ (j:Nat) (e:MapEntry) (p:PV×PV),ents[j]? = some e->es[j]? = some p->PRep w Im e.key p.1)->Cl k es i=some r ->
   (r=none/\Instr.findNow d u ents i=some none)\/∃ j x v e,r=some (i+j,x)/\es[j]? = some (v,x)/\ents[j]? = some e/\Instr.findNow d u ents i=some (some (i+j,e.val))
 | [],es,i,r,hl,_,h=>by
  cases es with
  | nil=>simp [Cl] at h;subst h;exact .inl ⟨rfl,rfl⟩
  | cons=>simp at hl
 | e :: ents,es,i,r,hl,hk,h=>by
  cases es with
  | nil=>simp at hl
  | cons p es =>
  obtain ⟨x,v⟩:=p;simp only [Cl] at h;have h0:=hk 0 e (x,v) rfl rfl;split at h
  ·rename_i hq;cases h;have:=O5 hd hu h0 hf hq;exact .inr ⟨0,v,x,e,rfl,rfl,rfl,by simp [Instr.findNow,this]⟩
  ·rename_i hq;have:=O5 hd hu h0 hf hq;rcases Hh hd hu hf ents es (i+1) r (by simpa using hl) (fun j e p he hp=>hk (j+1) e p (by simpa using he) (by simpa using hp)) h with ⟨h1,h2⟩ | ⟨j,y,z,e',h1,h2,h3,h4⟩
   ·exact .inl ⟨h1,by simp [Instr.findNow,this,h2]⟩
   ·exact .inr ⟨j+1,y,z,e',by rw [h1];congr 2;omega,by simpa using h2,by simpa using h3,by simp only [Instr.findNow,this,h4];congr 3;omega⟩
  ·cases h
theorem Bm {kt:TypeId} {d:TypeDesc} (hk:P.underlying kt=some d) (hd:(∃ q,d=.int q)\/d=.string\/d=.bool) (b:Bool) (v:Value):(Instr.checkKey b 10000 kt v).run P w=.ok () w:=by
 have:∀ n,(Instr.checkKey b (n+1) kt v).run P w=.ok () w:=fun n=>by
  rcases hd with ⟨q,rfl⟩ | rfl | rfl <;> simp [Instr.checkKey,run_underlying hk]
 exact this 9999
theorem D0 {T:TypeId} {zs:List PV} (h:Bu P T=some zs):∃ zv,(∀ w,(zeroValue T).run P w=.ok zv w)/\(∃ i,P.info? T=some i/\i.zero=some zv)/\zv.cells.toList.length=zs.length /\
  (∀ w (Im:Nat->Prop) (i:Nat) (v:Value) (p:PV),zv.cells.toList[i]? = some v->zs[i]? = some p->PRep w Im v p)/\∀ p∈zs,p.scalar=true:=by
 unfold Bu at h;split at h <;> first|(cases h;done) | skip
 rename_i inf hinf;split at h <;> first|(cases h;done) | skip
 rename_i zv hzv;obtain ⟨h1,h2⟩:=Bh h;exact ⟨zv,fun w=>by simp [zeroValue,typeInfo,hinf,hzv],⟨inf,hinf,hzv⟩,h1,fun w Im i v p hv hp=>(E6 (h2 i v p hv hp)).1,Dl h⟩
theorem Wp {t:TypeId} {z:PV} (h:E5 P t=some z):∃ zv,(zeroValue t).run P w=.ok zv w/\PRep w Im zv z:=by
 unfold E5 at h;split at h <;> first|(cases h;done) | skip
 rename_i v zs hv hz;obtain ⟨zv,h1,⟨inf,hi,hzi⟩,h3,h4,h5⟩:=D0 hz;have e:v=zv:=by rw [hi] at hv;simp [hzi] at hv;exact hv.symm
 subst e;refine ⟨v,h1 w,?_⟩;split at h
 ·rename_i hag;cases h;cases v <;> simp [Jh9] at hag;exact PRep.agg _ _ h3 h5 (fun i v p hv hp=>h4 w Im i v p hv hp)
 ·rename_i hag;split at h <;> first|(cases h;done) | skip
  cases h;have e:v.cells = #[v]:=by cases v <;> first | rfl | (exact absurd rfl hag)
  exact h4 w Im 0 v z (by rw [e];rfl) rfl
theorem Jbi {s:St} {a:Act} (hf:Fit β w Im s a.tmps) {v:Value} {x:L} {es:List (PV×PV)} (hx:LRep β w Im v x) (h:Tz s.regs x=some es) :
  (v=.map none/\es=[])\/∃ r cl ents,v=.map (some r)/\w.heap[r]? = some (.map ⟨ents⟩ cl)/\MRep w Im ents cl es:=by
 unfold Tz at h;split at h
 ·cases hx;cases h;exact .inl ⟨rfl,rfl⟩
 ·cases h;cases hx with
  | mp r cl ents es hr hw hl hn hb hk hv=>exact .inr ⟨r,cl,ents,rfl,hw,hl,hn,hb,fun i e p he hp=>⟨hk i e p he hp,hv i e p he hp⟩⟩
 ·obtain ⟨loc,hβ,rfl⟩:=hx;split at h
  ·rename_i hr;cases h;obtain ⟨loc',hβ',ents,cl,ho,hM⟩:=hf.regs _ _ (Ax hr);rw [hβ] at hβ';cases hβ';exact .inr ⟨_,cl,ents,rfl,ho,hM⟩
  ·cases h
 ·cases h
theorem tup2 {v u:Value} {p q:PV} (h1:PRep w Im v p) (h2:PRep w Im u q):LRep β w Im (.tuple #[v,u]) (.tup [p,q]):=⟨[v,u],rfl,rfl,fun i y z hi hz=>by
 match i,hi,hz with
 | 0,hi,hz=>simp at hi hz;subst hi;subst hz;exact h1
 | 1,hi,hz=>simp at hi hz;subst hi;subst hz;exact h2
 | i+2,hi,hz=>simp at hi⟩
theorem Ym {s:St} {a:Act} (hf:Fit β w Im s a.tmps) {t:TypeId} {u v:Value} {x ix l:L} {ok:Bool} (hx:LRep β w Im u x) (hi:LRep β w Im v ix) (h:Yc P s.regs t x ix ok l):∃ r,(Instr.lookup t u v ok).run P w=.ok r w/\LRep β w Im r l:=by
 unfold Yc at h;split at h
 ·rename_i kt et es k hT hm;obtain ⟨hkf,r,hr,z,hz,rfl⟩:=h;obtain ⟨ht,d,hk,hd⟩:=Oq hT;obtain ⟨zv,hzr,hzp⟩:=Wp (w:=w) (Im:=Im) hz;have hkf':kfit d k=true:=by
   unfold De at hkf;rw [hk] at hkf;exact hkf
  have fin:∀ (ents:List MapEntry),ents.length=es.length->(∀ (j:Nat) (e:MapEntry) (p:PV×PV),ents[j]? = some e->es[j]? = some p->PRep w Im e.key p.1/\PRep w Im e.val p.2) ->
    ∃ x y,(Instr.findKey kt v ents).run P w=.ok x w/\((x=none/\r=none)\/∃ i e p,x=some (i,e)/\r=some (i,p)/\PRep w Im e p)/\y=x:=by
   intro ents hl hke;rcases Hh (w:=w) (Im:=Im) hd hi hkf' ents es 0 r hl (fun j e p he hp=>(hke j e p he hp).1) hr with ⟨h1,h2⟩ | ⟨j,x,kv,e,h1,h2,h3,h4⟩
   ·exact ⟨none,_,by simp [Instr.findKey,run_underlying hk,h2],.inl ⟨rfl,h1⟩,rfl⟩
   ·exact ⟨some (0+j,e.val),_,by simp [Instr.findKey,run_underlying hk,h4],.inr ⟨0+j,e.val,x,rfl,h1,(hke j e (kv,x) h3 h2).2⟩,rfl⟩
  rcases Jbi hf hx hm with ⟨rfl,rfl⟩ | ⟨r0,cl,ents,rfl,hw,hM⟩
  ·simp [Cl] at hr;subst hr;cases ok
   ·exact ⟨zv,by simp [Instr.lookup,run_underlying ht,Bm hk hd,Instr.findKey,run_underlying hk,Instr.findNow,hzr],hzp⟩
   ·exact ⟨.tuple #[zv,.bool false],by simp [Instr.lookup,run_underlying ht,Bm hk hd,Instr.findKey,run_underlying hk,Instr.findNow,hzr],tup2 hzp (.bool false)⟩
  ·obtain ⟨x,_,hx1,hx2,_⟩:=fin ents hM.1 hM.2.2.2;have hgo:(getObj r0).run P w=.ok (.map ⟨ents⟩ cl) w:=by simp [getObj,Sem.run,hw]
   rcases hx2 with ⟨rfl,rfl⟩ | ⟨i,e,p,rfl,rfl,hp⟩
   ·cases ok
    ·exact ⟨zv,by simp [Instr.lookup,run_underlying ht,hgo,Bm hk hd,hx1,hzr],hzp⟩
    ·exact ⟨.tuple #[zv,.bool false],by simp [Instr.lookup,run_underlying ht,hgo,Bm hk hd,hx1,hzr],tup2 hzp (.bool false)⟩
   ·cases ok
    ·exact ⟨e,by simp [Instr.lookup,run_underlying ht,hgo,Bm hk hd,hx1],hp⟩
    ·exact ⟨.tuple #[e,.bool true],by simp [Instr.lookup,run_underlying ht,hgo,Bm hk hd,hx1],tup2 hp (.bool true)⟩
 ·exact h.elim
theorem Z9 {t:TypeId} {v:Value} {l:L} (h:LRep β w Im v l):LRep β w Im (.iface t v) (.p (M8 t l)):=by
 unfold M8;split
 ·cases h;exact PRep.ifi _ _ _
 ·exact PRep.ifc _ _
theorem Jhw {s:St} {a:Act} (hf:Fit β w Im s a.tmps) {o:Oper} {l:L} (h:lqv P s.regs s.get o.op l):∃ v,(execOp a.eval o).run P w=.ok (.value v) w/\LRep β w Im v l:=by
 unfold execOp;unfold lqv at h;split at h
 ·rename_i t x ho;rw [ho];obtain ⟨⟨d,hd,hn⟩,rfl⟩:=h;refine ⟨.iface t (a.eval x),?_,Z9 (A2 hf x)⟩;cases d <;> first|(exact absurd rfl (hn _)) | simp [Instr.makeInterface,run_underlying hd]
 ·rename_i t x ix ok ho;rw [ho];obtain ⟨r,h1,h2⟩:=Ym hf (A2 hf x) (A2 hf ix) h;exact ⟨r,by simp [h1],h2⟩
 ·rename_i args ts ho;rw [ho];obtain ⟨la⟩:=args;obtain ⟨lt⟩:=ts;simp only at h;split at h <;> first | exact h.elim | skip
  rename_i x t;obtain ⟨⟨e,ht⟩,h⟩:=h;have hx:=A2 hf x;split at h
  ·rename_i hg;subst h;rw [hg] at hx;have hv:a.eval x=.slice none 0 0:=by generalize a.eval x=v at hx;cases hx;rfl
   exact ⟨.int .i64 0,by simp [resolve,invoke,builtin,Builtin.cap_,hv,run_underlying ht,goInt],PRep.int _ _⟩
  ·rename_i d off n hg;rw [hg] at hx;split at h
   ·rename_i T sz es hr;subst h;have hreg:=hf.regs d _ (Ax hr);rcases hx with ⟨loc,cap,o,hβ,hcap,hlc,ho',hv⟩ | ⟨hβ,rfl,rfl,hv⟩
    ·rcases hreg with ⟨hn,_⟩ | ⟨loc',cur,hβ',hsz,hb,hcl,hle,hfu,_⟩
     ·rw [hβ] at hn;cases hn
     ·rw [hβ] at hβ';cases hβ';have hfu:=hfu rfl;have e1:es.length - off=cap:=by omega
      rw [e1];exact ⟨.int .i64 cap,by simp [resolve,invoke,builtin,Builtin.cap_,hv,run_underlying ht,goInt],PRep.int _ _⟩
    ·rcases hreg with ⟨_,rfl⟩ | ⟨loc',cur,hβ',_⟩
     ·exact ⟨.int .i64 0,by simp [resolve,invoke,builtin,Builtin.cap_,hv,run_underlying ht,goInt],PRep.int _ _⟩
     ·rw [hβ] at hβ';cases hβ'
   ·exact h.elim
  ·exact h.elim
 ·rename_i args ts ho;rw [ho];obtain ⟨la⟩:=args;simp only at h;split at h <;> first | exact h.elim | skip
  rename_i x;have hx:=A2 hf x;split at h
  ·rename_i hg;subst h;rw [hg] at hx;have hv:a.eval x=.slice none 0 0:=by generalize a.eval x=v at hx;cases hx;rfl
   exact ⟨.pointer none,by
    have e:∀ ts ty,(Builtin.unsafeSliceData_ ts ty #[.slice none 0 0]).run P w=.ok (.pointer none) w:=fun _ _=>rfl
    simp [resolve,invoke,builtin,hv,e],PRep.nptr⟩
  ·rename_i d off n hg;obtain ⟨h0,rfl⟩:=h;rw [hg] at hx;rcases hx with ⟨loc,cap,o,hβ,hcap,hlc,ho',hv⟩ | ⟨hβ,rfl,rfl,hv⟩
   ·have hc:cap≠0:=by omega
    have e:∀ ts ty,(Builtin.unsafeSliceData_ ts ty #[.slice (some ⟨loc.blk,o,none⟩) n cap]).run P w=.ok (.pointer (some ⟨loc.blk,o,none⟩)) w:=fun ts ty=>by
     show (if cap≠0 then pure (.pointer (some ⟨loc.blk,o,none⟩)) else _:Sem Value).run P w=_;rw [if_pos hc];rfl
    refine ⟨.pointer (some ⟨loc.blk,o,none⟩),by simp [resolve,invoke,builtin,hv,e],loc,hβ,?_⟩;rw [ho' (.inl omg),Nat.add_zero]
   ·omega
  ·exact h.elim
 ·rename_i args ts ho;rw [ho];obtain ⟨la⟩:=args;obtain ⟨lt⟩:=ts;simp only at h;split at h <;> first | exact h.elim | skip
  rename_i x y t ts;obtain ⟨hg,⟨k,hg2⟩,rfl⟩:=h;have hx:=A2 hf x;have hy:=A2 hf y;rw [hg] at hx;rw [hg2] at hy;have hv:a.eval x=.pointer none:=by generalize a.eval x=v at hx;cases hx;rfl
  have hv2:a.eval y=.int k 0:=by generalize a.eval y=v at hy;cases hy;rfl
  refine ⟨.string .empty,?_,PRep.str []⟩;have e:∀ ty,(Builtin.unsafeString_ ⟨t :: ts⟩ ty #[.pointer none,.int k 0]).run P w=.ok (.string .empty) w:=fun ty=>rfl
  simp [resolve,invoke,builtin,hv,hv2,e]
 ·exact h.elim
theorem X5 {s:St} {a:Act} (hf:Fit β w Im s a.tmps) {o:Oper} {K:L->Prop} (h:lq P s.regs s.get o.op K):Jd3 P β Im w a o K:=by
 unfold Jd3;unfold execOp;unfold lq at h;split at h
 ·rename_i x ho;rw [ho];exact ⟨_,_,rfl,A2 hf x,h⟩
 ·rename_i x ho;rw [ho];exact ⟨_,_,rfl,A2 hf x,h⟩
 ·rename_i c x y ho;rw [ho];have hc:=A2 hf c;split at h
  ·rename_i t hg;rw [hg] at hc;cases hv:a.eval c <;> rw [hv] at hc <;> cases hc;cases t
   ·exact ⟨_,_,by simp [hv,asBool],A2 hf y,h.2 rfl⟩
   ·exact ⟨_,_,by simp [hv,asBool],A2 hf x,h.1 rfl⟩
  ·exact h.elim
 ·rename_i op t x y yt ho;rw [ho];exact (Jah x y (A2 hf x) (A2 hf y) h).oper
 ·rename_i op t x ho;rw [ho];exact (Jf0 (A2 hf x) h).oper
 ·rename_i src dst x ho;rw [ho];exact (Jl (A2 hf x) h).oper
 ·rename_i x ho;rw [ho];have hx:=A2 hf x;split at h
  ·rename_i d i j hg;rw [hg] at hx;have hx':=hx;obtain ⟨loc,hβ,hv⟩:=hx';exact ⟨a.eval x,_,by simp [hv],hx,h⟩
  ·rename_i cs hg;rw [hg] at hx;have hx':=hx;obtain ⟨b,o',hb,hv,_⟩:=hx';exact ⟨a.eval x,_,by simp [hv],hx,h⟩
  ·rename_i f ds hg;rw [hg] at hx;have hx':=hx;obtain ⟨vs,hv,_⟩:=hx';exact ⟨a.eval x,_,by simp [hv],hx,h⟩
  ·exact h.elim
 ·rename_i t x ho;rw [ho];exact (Jk hf (A2 hf x) h).oper
 ·rename_i t x f ho;rw [ho];exact (Nm (A2 hf x) h).oper
 ·rename_i t x f ho;rw [ho];exact (U1 (A2 hf x) h).oper
 ·rename_i t x ix ho;rw [ho];exact (Nl hf (A2 hf x) (A2 hf ix) h).oper
 ·rename_i t x ix ho;rw [ho];exact (V0 (A2 hf x) (A2 hf ix) h).oper
 ·rename_i t x lo hi mx ho;rw [ho];exact (V5 hf h).oper
 ·rename_i x i ho;rw [ho];have hx:=A2 hf x;split at h
  ·rename_i xs hg;obtain ⟨c,hc,hK⟩:=h;rw [hg] at hx;obtain ⟨vs,hv,hl,hp⟩:=hx;obtain ⟨v,hvi⟩:=getElem?_of_length hl hc;exact ⟨v,.p c,by simp [Instr.extract,hv,hvi],hp i v c hvi hc,hK⟩
  ·exact h.elim
 ·rename_i t parts ho;rw [ho];have:=Up (P:=P) (β:=β) (w:=w) (Im:=Im) (t:=t) (parts:=parts.toList.map fun (i,x)=>(i,a.eval x)) (ls:=parts.toList.map fun (i,x)=>(i,s.get x)) (K:=K) sm (fun i u x hu hx=>by
   rw [Eam] at hu hx;obtain ⟨q,hq,rfl⟩:=Eak.1 hu;obtain ⟨q',hq',rfl⟩:=Eak.1 hx;rw [hq] at hq';cases hq';exact ⟨rfl,A2 hf _⟩) h
  have e:(parts.map fun (i,x)=>(i,a.eval x))=⟨parts.toList.map fun (i,x)=>(i,a.eval x)⟩:=by
   rw [<- Ebj];simp
  simp only [e];exact this.oper
 ·rename_i f first caps ho
  rw [ho];obtain ⟨rfl,h⟩:=h;unfold Jmn at h;split at h
  ·rename_i ps hps;have hps:=J64 hps;obtain ⟨c,hc,hcp⟩:∃ c,caps.toList=[c]/\s.get c=.eptr ps:=by
    cases hl:caps.toList with
    | nil=>rw [hl] at hps;cases hps
    | cons c l =>
     rw [hl] at hps;simp only [Eat,Ecu,List.map_eq_nil_iff] at hps;exact ⟨c,by rw [hps.2],hps.1⟩
   have hr:=A2 hf c;rw [hcp] at hr;obtain ⟨b,o,hb,hv,f',hcl,hp⟩:=hr;refine ⟨.func (.func f) #[] #[a.eval c],.p (.clo f ps),?_,?_,h⟩
   ·have e:caps = #[c]:=by rw [<- Ebj,hc]
    simp [Instr.makeFunc,e]
   ·rw [hv];exact PRep.clo f b o ps hb f' (fun p hp'=>by obtain ⟨j,hj⟩:=Ebt hp';exact (hp j p hj).2) hcl fun j p hj=>(hp j p hj).1
  obtain ⟨ds,hds,hK⟩:=h;have hcs:=Ow hds;refine ⟨.func (.func f) #[] ⟨caps.toList.map a.eval⟩,.fn f ds,?_,⟨caps.toList.map a.eval,rfl,?_,fun i x d hi hd=>?_⟩,hK⟩
  ·have e:caps.map a.eval=⟨caps.toList.map a.eval⟩:=by rw [<- Ebj];simp
   simp [Instr.makeFunc,e]
  ·have:=congrArg List.length hcs;simpa using this
  ·rw [Eam] at hi;obtain ⟨c,hc,rfl⟩:=Eak.1 hi;have h1:(caps.toList.map s.get)[i]? = some (s.get c):=by rw [Eam,hc];rfl
   rw [hcs,Eam,hd] at h1;simp at h1;have hr:=A2 hf c;rw [<- h1] at hr;obtain ⟨loc,hβ,hv⟩:=hr;exact ⟨loc,hβ,by simpa using hv⟩
 ·rename_i args ts ho;rw [ho];obtain ⟨la⟩:=args;obtain ⟨lt⟩:=ts;simp only at h;split at h <;> first | exact h.elim | skip
  rename_i x t;obtain ⟨v,l,hr,hl,hK'⟩:=Jb9 (P:=P) (ty:=o.type) (A2 hf x) h;exact ⟨v,l,by simp [resolve,invoke,builtin,hr],hl,hK'⟩
 ·rename_i args ts ho;rw [ho];obtain ⟨la⟩:=args;obtain ⟨v,l,hr,hl,hK'⟩:=K6 (P:=P) (β:=β) (w:=w) (Im:=Im) (b:=true) (ts:=ts) (t:=o.type) (vs:=la.map a.eval) sm (fun i u x hu hx=>by
   rw [Eam] at hu hx;obtain ⟨q,hq,rfl⟩:=Eak.1 hu;obtain ⟨q',hq',rfl⟩:=Eak.1 hx;simp at hq';rw [hq] at hq';cases hq';exact A2 hf _) h
  exact ⟨v,l,by simp [resolve,invoke,builtin];simp at hr;simp [hr],hl,hK'⟩
 ·rename_i args ts ho;rw [ho];obtain ⟨la⟩:=args;obtain ⟨v,l,hr,hl,hK'⟩:=K6 (P:=P) (β:=β) (w:=w) (Im:=Im) (b:=false) (ts:=ts) (t:=o.type) (vs:=la.map a.eval) sm (fun i u x hu hx=>by
   rw [Eam] at hu hx;obtain ⟨q,hq,rfl⟩:=Eak.1 hu;obtain ⟨q',hq',rfl⟩:=Eak.1 hx;simp at hq';rw [hq] at hq';cases hq';exact A2 hf _) h
  exact ⟨v,l,by simp [resolve,invoke,builtin];simp at hr;simp [hr],hl,hK'⟩
 ·obtain ⟨l,h1,hK⟩:=h;obtain ⟨v,h2,h3⟩:=Jhw hf h1;exact ⟨v,l,by unfold execOp at h2;exact h2,h3,hK⟩
theorem Jcn {op:BinOp} {k k':IntKind} {a b:Int} {K:L->Prop} (h:lint op k a k' b K):∃ l,lint op k a k' b (fun m=>m=l)/\K l:=by
 cases op <;> simp only [lint] at h ⊢
 case quo=>exact ⟨_,⟨h.1,h.2.1,rfl⟩,h.2.2⟩
 case rem=>exact ⟨_,⟨h.1,h.2.1,rfl⟩,h.2.2⟩
 all_goals exact ⟨_,⟨h.1,rfl⟩,h.2⟩
theorem Jbg {op:BinOp} {a b:List UInt8} {K:L->Prop} (h:lstr op a b K):∃ l,lstr op a b (fun m=>m=l)/\K l:=by
 cases op <;> simp only [lstr] at h ⊢
 case add=>exact ⟨_,⟨h.1,rfl⟩,h.2⟩
 all_goals first | exact h.elim | exact ⟨_,rfl,h⟩
theorem Jax {op:BinOp} {t:TypeId} {c:Bool} {x y:L} {K:L->Prop} (h:lbin P op t c x y K):∃ l,lbin P op t c x y (fun m=>m=l)/\K l:=by
 unfold lbin at h ⊢;split at h
 ·exact Jcn h
 ·exact Jbg h
 ·obtain ⟨ht,h⟩:=h;cases op <;> simp only at h ⊢ <;> first | exact h.elim | exact ⟨_,⟨ht,rfl⟩,h⟩
 ·obtain ⟨ts,hts,r,hr,h⟩:=h;cases op <;> simp only at h ⊢ <;> first | exact h.elim | exact ⟨_,⟨ts,hts,r,hr,rfl⟩,h⟩
 ·unfold Db at h ⊢;split at h <;> first | exact h.elim | exact ⟨_,rfl,h⟩
theorem Jis {regs:List (Nat×Reg)} {ρ:Operand->L} {op:Op} {K:L->Prop} (h:lq P regs ρ op K):∃ l,lq P regs ρ op (fun m=>m=l)/\K l:=by
 unfold lq at h ⊢;split at h
 ·exact ⟨_,rfl,h⟩
 ·exact ⟨_,rfl,h⟩
 ·split at h
  ·rename_i t _;cases t
   ·exact ⟨_,⟨(fun h=>by cases h),fun _=>rfl⟩,h.2 rfl⟩
   ·exact ⟨_,⟨fun _=>rfl,(fun h=>by cases h)⟩,h.1 rfl⟩
  ·exact h.elim
 ·exact Jax h
 ·simp only [lun] at h ⊢;split at h
  ·exact ⟨_,rfl,h⟩
  ·exact ⟨_,rfl,h⟩
  ·exact h.elim
 ·simp only [J1] at h ⊢;split at h
  ·exact ⟨_,⟨h.1,rfl⟩,h.2⟩
  ·exact ⟨_,⟨h.1,h.2.1,rfl⟩,h.2.2⟩
  ·exact ⟨_,⟨h.1,h.2.1,rfl⟩,h.2.2⟩
  ·obtain ⟨h1,bs,h2,h3⟩:=h;exact ⟨_,⟨h1,bs,h2,rfl⟩,h3⟩
  ·exact h.elim
 ·split at h
  ·exact ⟨_,rfl,h⟩
  ·exact ⟨_,rfl,h⟩
  ·exact ⟨_,rfl,h⟩
  ·exact h.elim
 ·simp only [Jc] at h ⊢;split at h
  ·obtain ⟨c,hc,h⟩:=h;exact ⟨_,⟨c,hc,rfl⟩,h⟩
  ·exact ⟨_,⟨h.1,h.2.1,rfl⟩,h.2.2⟩
  ·split at h
   ·obtain ⟨h0,c,hc,h⟩:=h;exact ⟨_,⟨h0,c,hc,rfl⟩,h⟩
   ·obtain ⟨e,he,c,hc,h⟩:=h;exact ⟨_,⟨e,he,c,hc,rfl⟩,h⟩
   ·obtain ⟨e,he,c,hc,h⟩:=h;exact ⟨_,⟨e,he,c,hc,rfl⟩,h⟩
   ·exact h.elim
   ·exact h.elim
  ·split at h
   ·obtain ⟨h0,h1,h2,ps,hps,h⟩:=h;exact ⟨_,⟨h0,h1,h2,ps,hps,rfl⟩,h⟩
   ·obtain ⟨e,he,h1,h2,h⟩:=h;exact ⟨_,⟨e,he,h1,h2,rfl⟩,h⟩
   ·obtain ⟨e,he,h1,h2,ps,h3,h⟩:=h;exact ⟨_,⟨e,he,h1,h2,ps,h3,rfl⟩,h⟩
   ·exact h.elim
   ·exact h.elim
  ·exact h.elim
 ·simp only [D2] at h ⊢;split at h
  ·exact ⟨_,⟨h.1,rfl⟩,h.2⟩
  ·exact ⟨_,rfl,h⟩
  ·exact h.elim
 ·simp only [Q5] at h ⊢;split at h
  ·split at h
   ·exact ⟨_,⟨h.1,rfl⟩,h.2⟩
   ·obtain ⟨h0,c,hc,h⟩:=h;exact ⟨_,⟨h0,c,hc,rfl⟩,h⟩
   ·exact h.elim
  ·exact h.elim
 ·simp only [Dg] at h ⊢;split at h
  ·split at h
   ·obtain ⟨h0,e,he,hl,h⟩:=h;exact ⟨_,⟨h0,e,he,hl,rfl⟩,h⟩
   ·exact h.elim
  ·split at h
   ·exact ⟨_,⟨h.1,h.2.1,h.2.2.1,rfl⟩,h.2.2.2⟩
   ·exact ⟨_,⟨h.1,h.2.1,h.2.2.1,rfl⟩,h.2.2.2⟩
   ·exact h.elim
  ·split at h
   ·exact ⟨_,⟨h.1,h.2.1,rfl⟩,h.2.2⟩
   ·exact h.elim
  ·split at h
   ·exact ⟨_,⟨h.1,h.2.1,h.2.2.1,rfl⟩,h.2.2.2⟩
   ·exact h.elim
  ·exact h.elim
 ·simp only [Ix] at h ⊢;split at h
  ·obtain ⟨h0,c,hc,h⟩:=h;exact ⟨_,⟨h0,c,hc,rfl⟩,h⟩
  ·obtain ⟨h0,h1,h2,h3,c,hc,h⟩:=h;exact ⟨_,⟨h0,h1,h2,h3,c,hc,rfl⟩,h⟩
  ·exact h.elim
 ·simp only [G2] at h ⊢;obtain ⟨hm,h⟩:=h;split at h
  ·obtain ⟨l,hh,h1,h2,h3,h4,h5,h⟩:=h;exact ⟨_,⟨hm,l,hh,h1,h2,h3,h4,h5,rfl⟩,h⟩
  ·obtain ⟨hp,ha,l,hh,h1,h2,h3,h4,h5,h⟩:=h;exact ⟨_,⟨hm,hp,ha,l,hh,h1,h2,h3,h4,h5,rfl⟩,h⟩
  ·obtain ⟨hp,l,hh,h1,h2,h3,h4,h⟩:=h;exact ⟨_,⟨hm,hp,l,hh,h1,h2,h3,h4,rfl⟩,h⟩
  ·obtain ⟨hp,ha,l,hh,h1,h2,h3,h4,h5,h⟩:=h;exact ⟨_,⟨hm,hp,ha,l,hh,h1,h2,h3,h4,h5,rfl⟩,h⟩
  ·exact h.elim
 ·split at h
  ·obtain ⟨c,hc,h⟩:=h;exact ⟨_,⟨c,hc,rfl⟩,h⟩
  ·exact h.elim
 ·exact J58 h
 ·obtain ⟨h0,h⟩:=h;obtain ⟨l,h1,h2⟩:=J82 h;exact ⟨l,⟨h0,h1⟩,h2⟩
 ·split at h
  ·simp only [llen] at h ⊢;split at h <;> first | exact h.elim | exact ⟨_,rfl,h⟩
  ·exact h.elim
 ·simp only [Fj] at h ⊢;split at h
  ·simp only [if_true] at h ⊢;exact ⟨_,rfl,h⟩
  ·exact h.elim
 ·simp only [Fj] at h ⊢;split at h
  ·simp only [Ebv,if_false] at h ⊢;exact ⟨_,rfl,h⟩
  ·exact h.elim
 ·obtain ⟨l,h1,h⟩:=h;exact ⟨l,⟨l,h1,rfl⟩,h⟩
theorem Jg9 {op:BinOp} {k k':IntKind} {a b:Int} {K K':L->Prop} (hK:∀ l,K l->K' l) (h:lint op k a k' b K):lint op k a k' b K':=by
 cases op <;> simp only [lint] at h ⊢
 case quo=>exact ⟨h.1,h.2.1,hK _ h.2.2⟩
 case rem=>exact ⟨h.1,h.2.1,hK _ h.2.2⟩
 all_goals exact ⟨h.1,hK _ h.2⟩
theorem Jfz {op:BinOp} {a b:List UInt8} {K K':L->Prop} (hK:∀ l,K l->K' l) (h:lstr op a b K):lstr op a b K':=by
 cases op <;> simp only [lstr] at h ⊢
 case add=>exact ⟨h.1,hK _ h.2⟩
 all_goals first | exact h.elim | exact hK _ h
theorem Jg2 {op:BinOp} {t:TypeId} {c:Bool} {x y:L} {K K':L->Prop} (hK:∀ l,K l->K' l) (h:lbin P op t c x y K):lbin P op t c x y K':=by
 unfold lbin at h ⊢;split at h
 ·exact Jg9 hK h
 ·exact Jfz hK h
 ·obtain ⟨ht,h⟩:=h;cases op <;> simp only at h ⊢ <;> first | exact h.elim | exact ⟨ht,hK _ h⟩
 ·obtain ⟨ts,hts,r,hr,h⟩:=h;cases op <;> simp only at h ⊢ <;> first | exact h.elim | exact ⟨ts,hts,r,hr,hK _ h⟩
 ·unfold Db at h ⊢;split at h <;> first | exact h.elim | exact hK _ h
theorem Jpx {regs:List (Nat×Reg)} {ρ:Operand->L} {op:Op} {K K':L->Prop} (hK:∀ l,K l->K' l) (h:lq P regs ρ op K):lq P regs ρ op K':=by
 unfold lq at h ⊢;split at h
 ·exact hK _ h
 ·exact hK _ h
 ·split at h
  ·exact ⟨fun t=>hK _ (h.1 t),fun t=>hK _ (h.2 t)⟩
  ·exact h.elim
 ·exact Jg2 hK h
 ·simp only [lun] at h ⊢;split at h
  ·exact hK _ h
  ·exact hK _ h
  ·exact h.elim
 ·simp only [J1] at h ⊢;split at h
  ·exact ⟨h.1,hK _ h.2⟩
  ·exact ⟨h.1,h.2.1,hK _ h.2.2⟩
  ·exact ⟨h.1,h.2.1,hK _ h.2.2⟩
  ·obtain ⟨h1,bs,h2,h3⟩:=h;exact ⟨h1,bs,h2,hK _ h3⟩
  ·exact h.elim
 ·split at h
  ·exact hK _ h
  ·exact hK _ h
  ·exact hK _ h
  ·exact h.elim
 ·simp only [Jc] at h ⊢;split at h
  ·obtain ⟨c,hc,h⟩:=h;exact ⟨c,hc,hK _ h⟩
  ·exact ⟨h.1,h.2.1,hK _ h.2.2⟩
  ·split at h
   ·obtain ⟨h0,c,hc,h⟩:=h;exact ⟨h0,c,hc,hK _ h⟩
   ·obtain ⟨e,he,c,hc,h⟩:=h;exact ⟨e,he,c,hc,hK _ h⟩
   ·obtain ⟨e,he,c,hc,h⟩:=h;exact ⟨e,he,c,hc,hK _ h⟩
   ·exact h.elim
   ·exact h.elim
  ·split at h
   ·obtain ⟨h0,h1,h2,ps,hps,h⟩:=h;exact ⟨h0,h1,h2,ps,hps,hK _ h⟩
   ·obtain ⟨e,he,h1,h2,h⟩:=h;exact ⟨e,he,h1,h2,hK _ h⟩
   ·obtain ⟨e,he,h1,h2,ps,h3,h⟩:=h;exact ⟨e,he,h1,h2,ps,h3,hK _ h⟩
   ·exact h.elim
   ·exact h.elim
  ·exact h.elim
 ·simp only [D2] at h ⊢;split at h
  ·exact ⟨h.1,hK _ h.2⟩
  ·exact hK _ h
  ·exact h.elim
 ·simp only [Q5] at h ⊢;split at h
  ·split at h
   ·exact ⟨h.1,hK _ h.2⟩
   ·obtain ⟨h0,c,hc,h⟩:=h;exact ⟨h0,c,hc,hK _ h⟩
   ·exact h.elim
  ·exact h.elim
 ·simp only [Dg] at h ⊢;split at h
  ·split at h
   ·obtain ⟨h0,e,he,hl,h⟩:=h;exact ⟨h0,e,he,hl,hK _ h⟩
   ·exact h.elim
  ·split at h
   ·exact ⟨h.1,h.2.1,h.2.2.1,hK _ h.2.2.2⟩
   ·exact ⟨h.1,h.2.1,h.2.2.1,hK _ h.2.2.2⟩
   ·exact h.elim
  ·split at h
   ·exact ⟨h.1,h.2.1,hK _ h.2.2⟩
   ·exact h.elim
  ·split at h
   ·exact ⟨h.1,h.2.1,h.2.2.1,hK _ h.2.2.2⟩
   ·exact h.elim
  ·exact h.elim
 ·simp only [Ix] at h ⊢;split at h
  ·obtain ⟨h0,c,hc,h⟩:=h;exact ⟨h0,c,hc,hK _ h⟩
  ·obtain ⟨h0,h1,h2,h3,c,hc,h⟩:=h;exact ⟨h0,h1,h2,h3,c,hc,hK _ h⟩
  ·exact h.elim
 ·simp only [G2] at h ⊢;obtain ⟨hm,h⟩:=h;split at h
  ·obtain ⟨l,hh,h1,h2,h3,h4,h5,h⟩:=h;exact ⟨hm,l,hh,h1,h2,h3,h4,h5,hK _ h⟩
  ·obtain ⟨hp,ha,l,hh,h1,h2,h3,h4,h5,h⟩:=h;exact ⟨hm,hp,ha,l,hh,h1,h2,h3,h4,h5,hK _ h⟩
  ·obtain ⟨hp,l,hh,h1,h2,h3,h4,h⟩:=h;exact ⟨hm,hp,l,hh,h1,h2,h3,h4,hK _ h⟩
  ·obtain ⟨hp,ha,l,hh,h1,h2,h3,h4,h5,h⟩:=h;exact ⟨hm,hp,ha,l,hh,h1,h2,h3,h4,h5,hK _ h⟩
  ·exact h.elim
 ·split at h
  ·obtain ⟨c,hc,h⟩:=h;exact ⟨c,hc,hK _ h⟩
  ·exact h.elim
 ·exact Kal (fun c h=>hK _ h) h
 ·obtain ⟨h0,h⟩:=h;exact ⟨h0,J9i hK h⟩
 ·split at h
  ·simp only [llen] at h ⊢;split at h <;> first | exact h.elim | exact hK _ h
  ·exact h.elim
 ·simp only [Fj] at h ⊢;split at h
  ·simp only [if_true] at h ⊢;exact hK _ h
  ·exact h.elim
 ·simp only [Fj] at h ⊢;split at h
  ·simp only [Ebv,if_false] at h ⊢;exact hK _ h
  ·exact h.elim
 ·obtain ⟨l,h1,h⟩:=h;exact ⟨l,h1,hK _ h⟩
theorem Jfx {regs:List (Nat×Reg)} {ρ ρ':Operand->L} {op:Op} {l:L} (hρ:∀ x∈op.operands.toList,ρ' x=ρ x) (h1:lqv P regs ρ op l):lqv P regs ρ' op l:=by
 unfold lqv at h1 ⊢;split at h1
 ·rename_i t x;rw [hρ x (by simp [Op.operands])];exact h1
 ·rename_i t x ix ok;rw [hρ x (by simp [Op.operands]),hρ ix (by simp [Op.operands])];exact h1
 ·rename_i args ts;split at h1 <;> first | exact h1.elim | skip
  rename_i x t hx ht;rw [hρ x (by
        simp [Op.operands,Call.operands];have:x∈args.toList:=by rw [hx];exact Eay.2 rfl
        simpa using this)]
  exact h1
 ·rename_i args ts;split at h1 <;> first | exact h1.elim | skip
  rename_i x hx;rw [hρ x (by
        simp [Op.operands,Call.operands];have:x∈args.toList:=by rw [hx];exact Eay.2 rfl
        simpa using this)]
  exact h1
 ·rename_i args ts;split at h1 <;> first | exact h1.elim | skip
  rename_i x y t ts' hx ht;rw [hρ x (by
        simp [Op.operands,Call.operands];have:x∈args.toList:=by rw [hx];simp
        simpa using this),hρ y (by
                      simp [Op.operands,Call.operands];have:y∈args.toList:=by rw [hx];simp
                      simpa using this)]
  exact h1
 ·exact h1.elim
theorem Jj8 {regs:List (Nat×Reg)} {ρ ρ':Operand->L} {op:Op} {K:L->Prop} (hρ:∀ x∈op.operands.toList,ρ' x=ρ x) (h:lq P regs ρ op K):lq P regs ρ' op K:=by
 unfold lq at h ⊢;split at h
 case h_1 x=>rw [hρ x (by simp [Op.operands])];exact h
 case h_2 x=>rw [hρ x (by simp [Op.operands])];exact h
 case h_3 c x y=>rw [hρ c (by simp [Op.operands]),hρ x (by simp [Op.operands]),hρ y (by simp [Op.operands])];exact h
 case h_4=>rename_i x y _;rw [hρ x (by simp [Op.operands]),hρ y (by simp [Op.operands])];exact h
 case h_5=>rename_i x;rw [hρ x (by simp [Op.operands])];exact h
 case h_6=>rename_i x;rw [hρ x (by simp [Op.operands])];exact h
 case h_7 x=>rw [hρ x (by simp [Op.operands])];exact h
 case h_8=>rename_i x;rw [hρ x (by simp [Op.operands])];exact h
 case h_9=>rename_i x f;rw [hρ x (by simp [Op.operands])];exact h
 case h_10=>rename_i x f;rw [hρ x (by simp [Op.operands])];exact h
 case h_11=>rename_i x y;rw [hρ x (by simp [Op.operands]),hρ y (by simp [Op.operands])];exact h
 case h_12=>rename_i x y;rw [hρ x (by simp [Op.operands]),hρ y (by simp [Op.operands])];exact h
 case h_13 t x lo hi mx =>
  have e1:∀ d,Dr ρ' d lo=Dr ρ d lo:=fun d=>by
   cases lo with
   | none=>rfl
   | some o=>simp only [Dr];rw [hρ o (by simp [Op.operands])]
  have e2:∀ d,Dr ρ' d hi=Dr ρ d hi:=fun d=>by
   cases hi with
   | none=>rfl
   | some o=>simp only [Dr];rw [hρ o (by simp [Op.operands])]
  simp only [G2,e1,e2,hρ x (by simp [Op.operands])] at h ⊢;exact h
 case h_14 x i=>rw [hρ x (by simp [Op.operands])];exact h
 case h_15 t parts =>
  have e:(parts.toList.map fun (i,x)=>(i,ρ' x))=parts.toList.map fun (i,x)=>(i,ρ x):=by
   apply Ebh;rintro ⟨i,x⟩ hm;simp only;rw [hρ x (by simp [Op.operands];exact ⟨i,by simpa using hm⟩)]
  rw [e];exact h
 case h_16 f first caps =>
  have e:caps.toList.map ρ'=caps.toList.map ρ:=Ebh fun x hm=>hρ x (by simp [Op.operands];exact .inr (by simpa using hm))
  rw [e];exact h
 case h_17 args ts =>
  split at h
  ·rename_i x t hx ht;rw [hρ x (by
         simp [Op.operands,Call.operands];have:x∈args.toList:=by rw [hx];exact Eay.2 rfl
         simpa using this)]
   exact h
  ·exact h.elim
 case h_18 args ts =>
  have e:args.toList.map ρ'=args.toList.map ρ:=Ebh fun x hm=>hρ x (by simp [Op.operands,Call.operands];simpa using hm)
  rw [e];exact h
 case h_19 args ts =>
  have e:args.toList.map ρ'=args.toList.map ρ:=Ebh fun x hm=>hρ x (by simp [Op.operands,Call.operands];simpa using hm)
  rw [e];exact h
 case h_20 =>
  obtain ⟨l,h1,hK⟩:=h;exact ⟨l,Jfx hρ h1,hK⟩
end
end Go.LX
