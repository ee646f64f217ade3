/- The run of a quiet operation yields what 'lq' says: the operations that read memory; and all of them together. -/
import Derived.Test.YtpaiiekgdgjjnaaGreatDoorLxA
set_option linter.unusedSimpArgs false
set_option linter.unusedVariables false
set_option linter.unusedSectionVars false
set_option linter.unnecessarySimpa false
namespace Go.LX
open Go Go.RowKit
section
variable {P:Program} {β:Env} {w:World} {Im:Nat→Prop}
theorem Cd (b o n:Nat):(⟨b,o,none⟩:Addr).add n=⟨b,o+n,none⟩:=by
 unfold Addr.add;split <;> simp_all
theorem Dw {t e sz:Nat} (h:slE P t=some (e,sz)):P.underlying t=some (.slice e)∧P.cellsOf e=sz∧sz≠0:=by
 unfold slE at h;split at h
 ·rename_i e' ht;split at h
  ·cases h
  ·rename_i h0;cases h;exact ⟨ht,rfl,h0⟩
 ·cases h
theorem Rh {t n e sz:Nat} (h:arE P t=some (n,e,sz)):P.underlying t=some (.array n e)∧P.cellsOf e=sz∧sz≠0:=by
 unfold arE at h;split at h
 ·rename_i n' e' ht;split at h
  ·cases h
  ·rename_i h0;cases h;exact ⟨ht,rfl,h0⟩
 ·cases h
theorem Ip {t e sz:Nat} (h:slE P t=some (e,sz)) (b o len cap:Nat) (k:IntKind) (i:Int) (h0:0≤i) (h1:i<len) (w:World) :
  (Instr.indexAt t (.slice (some ⟨b,o,none⟩) len cap) (.int k i)).run P w=.ok (.pointer (some ⟨b,o+i.toNat * sz,none⟩)) w:=by
 obtain ⟨ht,hs,hn⟩:=Dw h;simp [Instr.indexAt,run_underlying ht,asIntOf,h0,h1,Bk hs hn,Cd]
theorem PRep.eptr {v:Value} {es:List (List PV)} {i:Nat} {e:List PV} (h:PRep w Im v (.sl es)) (he:es[i]? = some e) :
  ∃ b o cap,v=.slice (some ⟨b,o,none⟩) es.length cap∧LRep β w Im (.pointer (some ⟨b,o+i * e.length,none⟩)) (.eptr e):=by
 cases h with
 | slNil=>simp at he
 | sl b o cap sz _ hcap hb f hsz hsc hc hp =>
  have hm:=List.mem_of_getElem? he;have hs:=hsz e hm;refine ⟨b,o,cap,rfl,b,o+i * e.length,hb,rfl,f i,fun j hj=>?_,fun j p hj=>⟨hp i e j p he hj,hsc e hm p (List.mem_of_getElem? hj)⟩⟩;rw [hs];exact hc i (List.getElem?_eq_some_iff.1 he).1 j omg
theorem Nl {s:St} {a:Act} (hf:Fit β w Im s a.tmps) {t:TypeId} {u v:Value} {x ix:L} {K:L→Prop} (hx:LRep β w Im u x) (hi:LRep β w Im v ix) (h:Dg P s.regs t x ix K) :
  C0 β Im w ((Instr.indexAt t u v).run P w) K:=by
 unfold Dg at h;split at h
 ·rename_i es k i;split at h
  ·rename_i e0 sz hsl;obtain ⟨h0,e,he,hl,hK⟩:=h;cases hi;obtain ⟨b,o,cap,rfl,hr⟩:=PRep.eptr (β:=β) hx he;subst hl;have hlt:=(List.getElem?_eq_some_iff.1 he).1;exact ⟨_,_,Ip hsl b o es.length cap k i h0 omg w,hr,hK⟩
  ·exact h.elim
 ·rename_i d off len k i;split at h
  ·rename_i T sz es e sz' hr hsl;obtain ⟨rfl,h0,h1,hK⟩:=h;cases hi;rcases hx with ⟨loc,cap,o,hβ,hcap,hlen,ho,rfl⟩ | ⟨_,_,rfl,_⟩
   ·have hreg:=hf.regs d _ (Ax hr);rcases hreg with ⟨hn,_⟩ | ⟨loc',cur,hβ',hsz,_⟩
    ·rw [hβ] at hn;cases hn
    ·rw [hβ] at hβ';cases hβ';refine Wh (.ptr d (off+i.toNat) 0) hK (Ip hsl _ _ len cap k i h0 h1 w) ⟨loc,hβ,?_⟩;rw [ho (.inl omg),hsz,Nat.add_zero,Nat.add_mul]
   ·omega
  ·rename_i T sz full es e sz' hr hsl;obtain ⟨rfl,h0,h1,hK⟩:=h;cases hi;rcases hx with ⟨loc,cap,o,hβ,hcap,hlen,ho,rfl⟩ | ⟨_,_,rfl,_⟩
   ·have hreg:=hf.regs d _ (Ax hr);rcases hreg with ⟨hn,_⟩ | ⟨loc',cur,hβ',hsz,_⟩
    ·rw [hβ] at hn;cases hn
    ·rw [hβ] at hβ';cases hβ';refine Wh (.ptr d (off+i.toNat) 0) hK (Ip hsl _ _ len cap k i h0 h1 w) ⟨loc,hβ,?_⟩;rw [ho (.inl omg),hsz,Nat.add_zero,Nat.add_mul]
   ·omega
  ·exact h.elim
 ·rename_i d a' b' k i;split at h
  ·rename_i n e sz har;obtain ⟨h0,h1,hK⟩:=h;cases hi;obtain ⟨loc,hβ,rfl⟩:=hx;obtain ⟨ht,hs,hn⟩:=Rh har;refine Wh (v:=.pointer (some ⟨loc.blk,a' * loc.sz+b'+i.toNat * sz,none⟩)) (.ptr d a' (b'+i.toNat * sz)) hK ?_ ⟨loc,hβ,by rw [Nat.add_assoc]⟩;simp [Instr.indexAt,run_underlying ht,asIntOf,Instr.sureAddr,h0,h1,Bk hs hn,Cd]
  ·exact h.elim
 ·rename_i cs k i;split at h
  ·rename_i n e sz har;obtain ⟨h0,h1,h2,hK⟩:=h;cases hi;obtain ⟨b,o,hb,rfl,g,hc,hp⟩:=hx;obtain ⟨ht,hs,hn⟩:=Rh har;refine Wh (v:=.pointer (some ⟨b,o+i.toNat * sz,none⟩)) (.eptr (cs.drop (i.toNat * sz))) hK ?_ ⟨b,o+i.toNat * sz,hb,rfl,fun j=>g (i.toNat * sz+j),fun j hj=>?_,fun j p hj=>?_⟩
   ·simp [Instr.indexAt,run_underlying ht,asIntOf,Instr.sureAddr,h0,h1,Bk hs hn,Cd]
   ·have:=hc (i.toNat * sz+j) (by simp at hj;omega)
    rwa [← Nat.add_assoc] at this
   ·exact hp (i.toNat * sz+j) p (by simpa using hj)
  ·exact h.elim
 ·exact h.elim
theorem V0 {t:TypeId} {u v:Value} {x ix:L} {K:L→Prop} (hx:LRep β w Im u x) (hi:LRep β w Im v ix) (h:Ix P t x ix K):C0 β Im w ((Instr.index t u v).run P w) K:=by
 unfold Ix at h;split at h
 ·rename_i s k i ht;obtain ⟨h0,b,hb,hK⟩:=h;cases hx;cases hi;refine Dz hK ?_;have hg:(⟨⟨s⟩⟩:ByteArray)[i.toNat]? = some b:=by
   have hlt:=(List.getElem?_eq_some_iff.1 hb).1;rw [ByteArray.getElem?_lt' _ _ hlt];congr 1;exact (List.getElem?_eq_some_iff.1 hb).2
  simp [Instr.index,asIntOf,run_underlying ht,h0,hg]
 ·rename_i n e cs k i ht;obtain ⟨hag,hc1,h0,h1,c,hc,hK⟩:=h;cases hi;cases hx with
  | agg vs _ hl hs hp =>
  have hlt:=(List.getElem?_eq_some_iff.1 hc).1;have hp1:=Hs (P:=P) hag hc1 omg (fun _=>rfl) vs i.toNat omg w;refine ⟨Jg false ((vs.drop i.toNat).take 1),.p c,?_,?_,hK⟩
  ·simp [Instr.index,asIntOf,run_underlying ht,h0,h1,Bk hc1,hp1]
  ·have hv:vs[i.toNat]? = some (vs[i.toNat]'omg):=List.getElem?_eq_getElem _;have:=hp _ _ _ hv hc;simpa [Jg,List.getD_eq_getElem?_getD,hv,LRep] using this
 ·exact h.elim
theorem J9 {t i off ft:Nat} (h:fld P t i=some (off,ft)):∃ fs f,P.underlying t=some (.struct fs)∧fs[i]? = some f∧f.offset=off∧f.type=ft∧P.cellsOf ft≠0:=by
 unfold fld at h;split at h
 ·rename_i fs ht;cases hf:fs[i]? with
  | none=>simp [hf] at h
  | some f =>
   simp only [hf,Option.bind_some] at h;split at h
   ·cases h
   ·rename_i h0;cases h;exact ⟨fs,f,ht,hf,rfl,rfl,h0⟩
 ·cases h
theorem Nm {t f:Nat} {u:Value} {x:L} {K:L→Prop} (hx:LRep β w Im u x) (h:D2 P t x f K):C0 β Im w ((Instr.fieldAt t u f).run P w) K:=by
 unfold D2 at h;split at h
 ·rename_i off ft cs hfld;obtain ⟨fs,fd,ht,hfd,ho,hft,hn⟩:=J9 hfld;obtain ⟨b,o,hb,rfl,g,hc,hp⟩:=hx;refine Wh (v:=.pointer (some ⟨b,o+off,none⟩)) (.eptr (cs.drop off)) h.2 ?_ ⟨b,o+off,hb,rfl,fun j=>g (off+j),fun j hj=>?_,fun j p hj=>?_⟩
  ·simp [Instr.fieldAt,run_underlying ht,hfd,Instr.sureAddr,fieldPlace,Bk (P:=P) (t:=fd.type) rfl (by rw [hft];exact hn),ho,Cd];intro hz;rw [hft] at hz;exact absurd hz hn
  ·have:=hc (off+j) (by simp at hj;omega)
   rwa [← Nat.add_assoc] at this
  ·exact hp (off+j) p (by simpa using hj)
 ·rename_i off ft d i j hfld;obtain ⟨fs,fd,ht,hfd,ho,hft,hn⟩:=J9 hfld;obtain ⟨loc,hβ,rfl⟩:=hx;refine Wh (v:=.pointer (some ⟨loc.blk,i * loc.sz+j+off,none⟩)) (.ptr d i (j+off)) h ?_ ⟨loc,hβ,by rw [Nat.add_assoc]⟩;simp [Instr.fieldAt,run_underlying ht,hfd,Instr.sureAddr,fieldPlace,Bk (P:=P) (t:=fd.type) rfl (by rw [hft];exact hn),ho,Cd];intro hz;rw [hft] at hz;exact absurd hz hn
 ·exact h.elim
theorem PRep.sub {vs:List Value} {cs:List PV} (hl:vs.length=cs.length) (hs:∀ p∈cs,p.scalar=true)
  (hp:∀ (i:Nat) (v:Value) (p:PV),vs[i]? = some v→cs[i]? = some p→PRep w Im v p) (off n:Nat):PRep w Im (.agg ⟨(vs.drop off).take n⟩) (.agg ((cs.drop off).take n)):=by
 have hr:Row w Im vs cs:=⟨hl,hp⟩
 have:=(hr.drop off).take n;exact .agg _ _ this.1 (fun p hpm=>hs p (List.mem_of_mem_drop (List.mem_of_mem_take hpm))) this.2
theorem U1 {t f:Nat} {u:Value} {x:L} {K:L→Prop} (hx:LRep β w Im u x) (h:Q5 P t x f K):C0 β Im w ((Instr.field t u f).run P w) K:=by
 unfold Q5 at h;split at h
 ·rename_i off ft cs hfld;obtain ⟨fs,fd,ht,hfd,ho,hft,hn⟩:=J9 hfld;cases hx with
  | agg vs _ hl hs hp =>
  split at h
  ·rename_i hag;have hp1:=Hs (P:=P) (t:=ft) (n:=P.cellsOf ft) hag rfl hn sm vs off omg w;refine y_p _ h.2 ?_ (PRep.sub hl hs hp off (P.cellsOf ft));simp only [Instr.field,Sem.run_bind,run_underlying ht,Result.andThen_ok,hfd,asAgg,Sem.run_pure,hft,ho,hp1,Jg,if_true]
  ·rename_i hag;obtain ⟨h1,c,hc,hK⟩:=h;have hlt:=(List.getElem?_eq_some_iff.1 hc).1;have hp1:=Hs (P:=P) (t:=ft) hag h1 omg (fun _=>rfl) vs off omg w;have hv:vs[off]? = some (vs[off]'omg):=List.getElem?_eq_getElem _;refine ⟨Jg false ((vs.drop off).take 1),.p c,?_,?_,hK⟩
   ·simp only [Instr.field,Sem.run_bind,run_underlying ht,Result.andThen_ok,hfd,asAgg,Sem.run_pure,hft,ho,hp1]
   ·have:=hp _ _ _ hv hc;simpa [Jg,List.getD_eq_getElem?_getD,hv,LRep] using this
  ·exact h.elim
 ·exact h.elim
theorem D7 {b o:Nat} {cs:List Value} {T:TypeId} (h:w.heap[b]? = some (.cells ⟨cs⟩ T (0,0))):w.cell? ⟨b,o,none⟩=cs[o]?:=by
 rw [cell_of_row w b o _ T (0,0) h];simp
theorem Df {t:TypeId} (hag:B2 P t=some false) {a:Addr} {v:Value} (h:w.cell? a=some v):(loadVar t a).run P w=.ok v w:=by
 simp [loadVar,Iu hag,run_load,h]
theorem Ew {t:TypeId} {n:Nat} (hag:B2 P t=some true) (hn:P.cellsOf t=n) (h0:n≠0) {b o:Nat} {cs:List Value} (hl:cs.length=n) (h:∀ (j:Nat) (v:Value),cs[j]? = some v→w.cell? ⟨b,o+j,none⟩=some v) :
  (loadVar t ⟨b,o,none⟩).run P w=.ok (.agg ⟨cs⟩) w:=by
 have:=run_loadCells_list (P:=P) w ⟨b,o,none⟩ cs (fun j v hv=>by rw [Cd];exact h j v hv);rw [hl] at this;simp [loadVar,Iu hag,Bk hn h0,this]
theorem Jk {s:St} {a:Act} (hf:Fit β w Im s a.tmps) {t:TypeId} {u:Value} {x:L} {K:L→Prop} (hx:LRep β w Im u x) (h:Jc P s.regs t x K) :
  C0 β Im w ((Instr.loadAt t u).run P w) K:=by
 unfold Jc at h;split at h
 ·rename_i cs hag;obtain ⟨c,hc,hK⟩:=h;obtain ⟨b,o,hb,rfl,g,hg,hp⟩:=hx;have hlt:=(List.getElem?_eq_some_iff.1 hc).1;exact y_p c hK (by simpa [Instr.loadAt,Instr.sureAddr] using Df hag (hg 0 hlt)) (hp 0 c hc).1
 ·rename_i cs hag;obtain ⟨h0,hle,hK⟩:=h;obtain ⟨b,o,hb,rfl,g,hg,hp⟩:=hx;have hl:((List.range (P.cellsOf t)).map g).length=P.cellsOf t:=by simp
  refine y_p _ hK (v:=.agg ⟨(List.range (P.cellsOf t)).map g⟩) ?_ (PRep.agg _ _ (by simp;omega) (fun p hpm=>?_) (fun i v p hv hpi=>?_))
  ·simp only [Instr.loadAt,Instr.sureAddr,Sem.run_bind,Sem.run_pure,Result.andThen_ok];refine Ew hag rfl omg hl fun j v hv=>?_
   rw [List.getElem?_map] at hv;obtain ⟨k,hk,rfl⟩:=Option.map_eq_some_iff.1 hv;obtain ⟨hk1,rfl⟩:=List.getElem?_eq_some_iff.1 hk;simp at hk1 ⊢;exact hg j omg
  ·obtain ⟨i,hi,rfl⟩:=List.getElem_of_mem (List.mem_of_mem_take hpm);exact (hp i _ (List.getElem?_eq_getElem hi)).2
  ·rw [List.getElem?_take] at hpi;split at hpi
   ·rw [List.getElem?_map] at hv;obtain ⟨k,hk,rfl⟩:=Option.map_eq_some_iff.1 hv;obtain ⟨hk1,rfl⟩:=List.getElem?_eq_some_iff.1 hk;simp;exact (hp i p hpi).1
   ·cases hpi
 ·rename_i d i j hag;obtain ⟨loc,hβ,rfl⟩:=hx;split at h
  ·rename_i T cs hr;obtain ⟨rfl,c,hc,hK⟩:=h;obtain ⟨loc',cur,hβ',hsz,htot,hb,hlen,hcell⟩:=hf.regs d _ (Ax hr);rw [hβ] at hβ';cases hβ';obtain ⟨v,hv⟩:=getElem?_of_length hlen hc;refine ⟨v,c,?_,(hcell j v c hv hc).1,hK⟩;simp only [Instr.loadAt,Instr.sureAddr,Sem.run_bind,Sem.run_pure,Result.andThen_ok];exact Df hag (by rw [D7 hb];simpa using hv)
  ·rename_i T sz es hr;obtain ⟨e,he,c,hc,hK⟩:=h;rcases hf.regs d _ (Ax hr) with ⟨_,rfl⟩ | ⟨loc',cur,hβ',hsz,hb,hcl,hle,hml,hel,hcell⟩
   ·simp at he
   ·rw [hβ] at hβ';cases hβ';obtain ⟨v,hv,hp⟩:=hcell i e j c he hc;refine y_p _ hK ?_ hp;simp only [Instr.loadAt,Instr.sureAddr,Sem.run_bind,Sem.run_pure,Result.andThen_ok];exact Df hag (by rw [D7 hb,hsz];exact hv)
  ·rename_i T sz full es hr;obtain ⟨e,he,c,hc,hK⟩:=h;rcases hf.regs d _ (Ax hr) with ⟨_,rfl⟩ | ⟨loc',cur,hβ',hsz,hb,hcl,hle,hfu,hml,hel,hcell⟩
   ·simp at he
   ·rw [hβ] at hβ';cases hβ';obtain ⟨v,hv,hp,_⟩:=hcell i e j c he hc;refine ⟨v,c,?_,hp,hK⟩;simp only [Instr.loadAt,Instr.sureAddr,Sem.run_bind,Sem.run_pure,Result.andThen_ok];exact Df hag (by rw [D7 hb,hsz];exact hv)
  ·exact h.elim
  ·exact h.elim
 ·rename_i d i j hag;obtain ⟨loc,hβ,rfl⟩:=hx;split at h
  ·rename_i T cs hr;obtain ⟨rfl,h0,hle,ps,hps,hK⟩:=h;obtain ⟨loc',cur,hβ',hsz,htot,hb,hlen,hcell⟩:=hf.regs d _ (Ax hr);rw [hβ] at hβ';cases hβ';obtain ⟨hpl,hps'⟩:=Bh hps;have hcl:((cur.drop j).take (P.cellsOf t)).length=P.cellsOf t:=by simp;omega
   have hpl':ps.length=P.cellsOf t:=by rw [← hpl];simp;omega
   have key:∀ (k:Nat) (v:Value) (p:PV),((cur.drop j).take (P.cellsOf t))[k]? = some v→ps[k]? = some p→PRep w Im v p∧p.scalar=true:=by
    intro k v p hv hp;obtain ⟨l,hl⟩:=getElem?_of_length hpl hp;have h1:=hps' k l p hl hp;cases l <;> simp [L.pure?] at h1;subst h1;rw [List.getElem?_take] at hv hl;split at hv
    ·rename_i hk;rw [if_pos hk] at hl;have:=hcell (j+k) v _ (by simpa using hv) (by simpa using hl);exact ⟨this.1,by rcases this.2 with h2 | h2;exact h2;cases h2⟩
    ·cases hv
   refine y_p _ hK (v:=.agg ⟨(cur.drop j).take (P.cellsOf t)⟩) ?_ (PRep.agg _ _ (by rw [hcl,hpl']) (fun p hpm=>?_) (fun k v p hv hp=>(key k v p hv hp).1))
   ·simp only [Instr.loadAt,Instr.sureAddr,Sem.run_bind,Sem.run_pure,Result.andThen_ok];refine Ew hag rfl omg hcl fun k v hv=>?_
    rw [List.getElem?_take] at hv;split at hv
    ·rw [D7 hb];simpa using hv
    ·cases hv
   ·obtain ⟨k,hk,rfl⟩:=List.getElem_of_mem hpm;obtain ⟨v,hv⟩:=getElem?_of_length (hcl.trans hpl'.symm) (List.getElem?_eq_getElem hk);exact (key k v _ hv (List.getElem?_eq_getElem hk)).2
  ·rename_i T sz es hr;obtain ⟨e,he,h0,hle,hK⟩:=h;rcases hf.regs d _ (Ax hr) with ⟨_,rfl⟩ | ⟨loc',cur,hβ',hsz,hb,hcl,hle',hml,hel,hcell⟩
   ·simp at he
   ·rw [hβ] at hβ';cases hβ';have hem:=hel e (List.mem_of_getElem? he);have hin:∀ k,k<e.length→i * sz+k<cur.length:=by
     intro k hk;obtain ⟨v,hv,_⟩:=hcell i e k _ he (List.getElem?_eq_getElem hk);exact (List.getElem?_eq_some_iff.1 hv).1
    have hil:((cur.drop (i * sz+j)).take (P.cellsOf t)).length=P.cellsOf t:=by
     have:=hin (j+P.cellsOf t - 1) omg;simp;omega
    have key:∀ (k:Nat) (v:Value) (p:PV),((cur.drop (i * sz+j)).take (P.cellsOf t))[k]? = some v→((e.drop j).take (P.cellsOf t))[k]? = some p→PRep w Im v p:=by
     intro k v p hv hp;rw [List.getElem?_take] at hv hp;split at hv
     ·rename_i hk;rw [if_pos hk] at hp;obtain ⟨v',hv',hp'⟩:=hcell i e (j+k) p he (by simpa using hp);have:v'=v:=by
       have h1:cur[i * sz+j+k]? = some v:=by simpa using hv
       rw [Nat.add_assoc] at h1;rw [hv'] at h1;exact Option.some.inj h1
      rw [← this];exact hp'
     ·cases hv
    refine y_p _ hK (v:=.agg ⟨(cur.drop (i * sz+j)).take (P.cellsOf t)⟩) ?_ (PRep.agg _ _ (by rw [hil];simp;omega) (fun p hpm=>hem.2 p (List.mem_of_mem_drop (List.mem_of_mem_take hpm))) key);simp only [Instr.loadAt,Instr.sureAddr,Sem.run_bind,Sem.run_pure,Result.andThen_ok];refine Ew hag rfl omg hil fun k v hv=>?_
    rw [List.getElem?_take] at hv;split at hv
    ·rw [D7 hb,hsz];simpa using hv
    ·cases hv
  ·rename_i T sz full es hr;obtain ⟨e,he,h0,hle,ps,hps,hK⟩:=h;rcases hf.regs d _ (Ax hr) with ⟨_,rfl⟩ | ⟨loc',cur,hβ',hsz,hb,hcl,hle',hfu,hml,hel,hcell⟩
   ·simp at he
   ·rw [hβ] at hβ';cases hβ';have hem:=hel e (List.mem_of_getElem? he);obtain ⟨hpl,hps'⟩:=Bh hps;have hin:∀ k,k<e.length→i * sz+k<cur.length:=by
     intro k hk;obtain ⟨v,hv,_⟩:=hcell i e k _ he (List.getElem?_eq_getElem hk);exact (List.getElem?_eq_some_iff.1 hv).1
    have hil:((cur.drop (i * sz+j)).take (P.cellsOf t)).length=P.cellsOf t:=by
     have:=hin (j+P.cellsOf t - 1) omg;simp;omega
    have hpl':ps.length=P.cellsOf t:=by rw [← hpl];simp;omega
    have key:∀ (k:Nat) (v:Value) (p:PV),((cur.drop (i * sz+j)).take (P.cellsOf t))[k]? = some v→ps[k]? = some p→PRep w Im v p∧p.scalar=true:=by
     intro k v p hv hp;obtain ⟨l,hl⟩:=getElem?_of_length hpl hp;have h1:=hps' k l p hl hp;cases l <;> simp [L.pure?] at h1;subst h1;rw [List.getElem?_take] at hv hl;split at hv
     ·rename_i hk;rw [if_pos hk] at hl;obtain ⟨v',hv',hp',hco⟩:=hcell i e (j+k) _ he (by simpa using hl);have:v'=v:=by
       have h1:cur[i * sz+j+k]? = some v:=by simpa using hv
       rw [Nat.add_assoc] at h1;rw [hv'] at h1;exact Option.some.inj h1
      rw [← this];exact ⟨hp',by rcases hco with h2 | h2;exact h2;cases h2⟩
     ·cases hv
    refine y_p _ hK (v:=.agg ⟨(cur.drop (i * sz+j)).take (P.cellsOf t)⟩) ?_ (PRep.agg _ _ (by rw [hil,hpl']) (fun p hpm=>?_) (fun k v p hv hp=>(key k v p hv hp).1))
    ·simp only [Instr.loadAt,Instr.sureAddr,Sem.run_bind,Sem.run_pure,Result.andThen_ok];refine Ew hag rfl omg hil fun k v hv=>?_
     rw [List.getElem?_take] at hv;split at hv
     ·rw [D7 hb,hsz];simpa using hv
     ·cases hv
    ·obtain ⟨k,hk,rfl⟩:=List.getElem_of_mem hpm;obtain ⟨v,hv⟩:=getElem?_of_length (hil.trans hpl'.symm) (List.getElem?_eq_getElem hk);exact (key k v _ hv (List.getElem?_eq_getElem hk)).2
  ·exact h.elim
  ·exact h.elim
 ·exact h.elim
end
section
variable {P:Program} {β:Env} {w:World} {Im:Nat→Prop}
theorem Co {s:St} {a:Act} (hf:Fit β w Im s a.tmps) {d l:Int} {o:Option Operand} (h:Dr s.get d o=some l) :
  (o.map a.eval=none∧l=d)∨∃ k,o.map a.eval=some (.int k l):=by
 cases o with
 | none=>simp [Dr] at h;exact .inl ⟨rfl,h.symm⟩
 | some x =>
  simp only [Dr] at h;have hr:=A2 hf x;split at h
  ·rename_i k n hg;cases h;rw [hg] at hr;cases hx:a.eval x <;> rw [hx] at hr <;> cases hr;exact .inr ⟨k,by simp [hx]⟩
  ·cases h
theorem Fe (isSlice:Bool) (len cap:Nat) (vl vh:Option Value) (l h:Int) (hl:(vl=none∧l=0)∨∃ k,vl=some (.int k l)) (hh:(vh=none∧h=len)∨∃ k,vh=some (.int k h))
  (h0:0≤l) (h1:l≤h) (h2:h≤cap):(Instr.sliceBounds isSlice len cap vl vh none).run P w=.ok (l.toNat,h.toNat,cap) w:=by
 have eh:(h.toNat:Int)=h:=Int.toNat_of_nonneg omg;rcases hl with ⟨rfl,rfl⟩ | ⟨kl,rfl⟩ <;> rcases hh with ⟨rfl,rfl⟩ | ⟨kh,rfl⟩
 ·simp [Instr.sliceBounds]
 ·simp [Instr.sliceBounds,run_sliceBound,(by omega:0≤h),h2]
 ·simp [Instr.sliceBounds,run_sliceBound,h0,h1]
 ·simp [Instr.sliceBounds,run_sliceBound,h0,h1,h2,eh,(by omega:0≤h)]
theorem Jbz (s:List UInt8) (l h:Nat):(⟨⟨s⟩⟩:ByteArray).extract l h=⟨⟨(s.drop l).take (h - l)⟩⟩:=by
 apply ByteArray.ext;rw [ByteArray.data_extract];simp
theorem Jxf {v:Value} {es:List (List PV)} (h:PRep w Im v (.sl es)):(v=.slice none 0 0∧es=[])∨∃ (b off cap sz:Nat) (f:Nat→Nat→Value),v=.slice (some ⟨b,off,none⟩) es.length cap∧es.length≤cap∧Im b ∧
  (∀ e∈es,e.length=sz)∧(∀ e∈es,∀ p∈e,p.scalar=true)∧(∀ i,i<es.length→∀ j,j<sz→w.cell? ⟨b,off+i * sz+j,none⟩=some (f i j)) ∧
  ∀ (i:Nat) (e:List PV) (j:Nat) (p:PV),es[i]? = some e→e[j]? = some p→PRep w Im (f i j) p:=by
 cases h with
 | slNil=>exact .inl ⟨rfl,rfl⟩
 | sl b off cap sz _ hcap hb f hsz hsc hc hp=>exact .inr ⟨b,off,cap,sz,f,rfl,hcap,hb,hsz,hsc,hc,hp⟩
theorem V5 {s:St} {a:Act} (hf:Fit β w Im s a.tmps) {t:TypeId} {x:Operand} {lo hi mx:Option Operand} {K:L→Prop} (h:G2 P s.regs t s.get x lo hi mx K) :
  C0 β Im w ((Instr.sliceAt t (a.eval x) (lo.map a.eval) (hi.map a.eval) (mx.map a.eval)).run P w) K:=by
 obtain ⟨rfl,h⟩:=h;have hx:=A2 hf x;split at h
 ·rename_i str ht hg;obtain ⟨l,hh,hl,hhi,h0,h1,h2,hK⟩:=h;rw [hg] at hx;cases hv:a.eval x <;> rw [hv] at hx <;> cases hx;refine X2 hK ?_;rw [run_sliceAt_string _ _ _ _ _ _ ht];have hb:=Fe (P:=P) (w:=w) false str.length str.length _ _ l hh (Co hf hl) (Co hf hhi) h0 h1 h2;have hsz:(⟨⟨str⟩⟩:ByteArray).size=str.length:=rfl;simp only [Instr.slice,Sem.run_bind,run_underlying ht,Result.andThen_ok,Option.map_none,Option.isSome_none,Bool.false_eq_true,if_false,hsz,hb,Sem.run_pure,Jbz]
 ·rename_i e es ht hg;obtain ⟨hpos,hall,l,hh,hl,hhi,h0,h1,h2,hK⟩:=h;rw [hg] at hx;have hx':=hx;obtain ⟨ad,cap,hv,hcap,hnil⟩:=Juc hx';have hb:=Fe (P:=P) (w:=w) true es.length cap _ _ l hh (Co hf hl) (Co hf hhi) h0 h1 omg;have hel:=Hk ht;have hrun:(Instr.sliceAt t (a.eval x) (lo.map a.eval) (hi.map a.eval) none).run P w=.ok (.slice (if cap=l.toNat then ad else ad.map (·.add (l.toNat * P.cellsOf e))) (hh.toNat - l.toNat) (cap - l.toNat)) w:=by
   rw [run_sliceAt_slice _ _ _ _ _ _ (by rw [hel];exact ht),hv];simp only [Instr.slice,Sem.run_bind,run_underlying ht,Result.andThen_ok,hb,Bk (P:=P) (t:=e) rfl omg,Sem.run_pure]
  have hlen:((es.drop l.toNat).take (hh.toNat - l.toNat)).length=hh.toNat - l.toNat:=by simp;omega
  refine y_p _ hK hrun ?_;rcases Jxf hx with ⟨hv2,rfl⟩ | ⟨b,off,cap',sz,f,hv2,hcap',hbi,hsz,hsc,hc,hp⟩
  ·rw [hv] at hv2;cases hv2;simp at h2;have:l=0:=by omega
   have:hh=0:=by omega
   subst_vars
   exact .slNil
  ·rw [hv] at hv2;cases hv2;by_cases hcl:cap=l.toNat
   ·have he:(es.drop l.toNat).take (hh.toNat - l.toNat)=[]:=List.eq_nil_of_length_eq_zero (by rw [hlen];omega);rw [he,if_pos hcl,show hh.toNat - l.toNat=0 by omega];exact PRep.sl b off (cap - l.toNat) sz [] (Nat.zero_le _) hbi f (fun x hx=>by cases hx) (fun x hx=>by cases hx) (fun i hi=>by simp at hi) (fun i x j p hi=>by simp at hi)
   ·rw [if_neg hcl];simp only [Option.map_some,Cd]
    conv=>arg 3;rw [← hlen]
    have hmem:∀ x∈(es.drop l.toNat).take (hh.toNat - l.toNat),x∈es:=fun x hx=>List.mem_of_mem_drop (List.mem_of_mem_take hx)
    refine PRep.sl b _ (cap - l.toNat) (P.cellsOf e) _ (by rw [hlen];omega) hbi (fun i=>f (l.toNat+i)) (fun x hx=>hall x (hmem x hx)) (fun x hx=>hsc x (hmem x hx)) (fun i hi j hj=>?_) (fun i x j p hi hj=>?_)
    ·have hne:l.toNat+i<es.length:=by rw [hlen] at hi;omega
     have hs:sz=P.cellsOf e:=by rw [← hsz _ (List.getElem_mem hne),hall _ (List.getElem_mem hne)]
     have:=hc (l.toNat+i) hne j (by rw [hs];exact hj);rw [hs,Nat.add_mul] at this;rw [← this];congr 2;omega
    ·rw [List.getElem?_take] at hi;split at hi
     ·exact hp (l.toNat+i) x j p (by simpa using hi) hj
     ·cases hi
 ·rename_i e ht hg;obtain ⟨hpos,l,hh,hl,hhi,rfl,rfl,hK⟩:=h;rw [hg] at hx;have hv:a.eval x=.slice none 0 0:=by generalize a.eval x=v at hx;cases hx;rfl
  have hb:=Fe (P:=P) (w:=w) true 0 0 _ _ 0 0 (Co hf hl) (Co hf hhi) (Int.le_refl 0) (Int.le_refl 0) (Int.le_refl 0);have hel:=Hk ht;refine y_p (v:=.slice none 0 0) _ hK ?_ .snil;rw [run_sliceAt_slice _ _ _ _ _ _ (by rw [hel];exact ht),hv];simp only [Instr.slice,Sem.run_bind,run_underlying ht,Result.andThen_ok,hb,Option.map_none,Bk (P:=P) (t:=e) rfl omg,Sem.run_pure];simp
 ·rename_i e d off len ht hg;obtain ⟨hpos,hrs,l,hh,hl,hhi,h0,h1,h2,hK⟩:=h;rw [hg] at hx;have hel:=Hk ht;rcases hx with ⟨loc,cap,o,hβ,hcap,hlc,ho,hv⟩ | ⟨hβ,rfl,rfl,hv⟩
  ·have hroom:Gx s.regs d≤loc.tot∧loc.sz=P.cellsOf e:=by
    unfold Pa at hrs;split at hrs
    ·rename_i T sz es hr;rw [Gx,hr];cases hrs;rcases hf.regs d _ (Ax hr) with ⟨hn,_⟩ | ⟨loc',cur,hβ',hsz,_,_,hle,_⟩
     ·rw [hβ] at hn;cases hn
     ·rw [hβ] at hβ';cases hβ';exact ⟨hle,hsz⟩
    ·rename_i T sz full es hr;rw [Gx,hr];cases hrs;rcases hf.regs d _ (Ax hr) with ⟨hn,_⟩ | ⟨loc',cur,hβ',hsz,_,_,hle,_⟩
     ·rw [hβ] at hn;cases hn
     ·rw [hβ] at hβ';cases hβ';exact ⟨hle,hsz⟩
    ·cases hrs
   obtain ⟨hroom,hsz⟩:=hroom;have hb:=Fe (P:=P) (w:=w) true len cap _ _ l hh (Co hf hl) (Co hf hhi) h0 h1 omg;have hrun:(Instr.sliceAt t (a.eval x) (lo.map a.eval) (hi.map a.eval) none).run P w=.ok (.slice (some (if cap=l.toNat then ⟨loc.blk,o,none⟩ else ⟨loc.blk,o+l.toNat * P.cellsOf e,none⟩)) (hh.toNat - l.toNat) (cap - l.toNat)) w:=by
    rw [run_sliceAt_slice _ _ _ _ _ _ (by rw [hel];exact ht),hv];simp only [Instr.slice,Sem.run_bind,run_underlying ht,Result.andThen_ok,hb,Bk (P:=P) (t:=e) rfl omg,Sem.run_pure];split <;> simp [Cd]
   have hle:hh.toNat≤cap:=by omega
   by_cases hc:cap=l.toNat
   ·rw [if_pos hc] at hrun;refine Wh _ hK hrun (.inl ⟨loc,cap - l.toNat,o,hβ,by omega,by omega,fun h=>?_,rfl⟩);rcases h with h | h
    ·omega
    ·have:l.toNat=0:=by omega
     have:off=0:=by omega
     subst this;rw [ho (.inr rfl)];simp [*]
   ·rw [if_neg hc] at hrun;refine Wh _ hK hrun (.inl ⟨loc,cap - l.toNat,_,hβ,by omega,by omega,fun _=>?_,rfl⟩);rw [ho (.inl omg),hsz,Nat.add_mul]
  ·have hh0:hh=0∧l=0:=by
    have:Gx s.regs d=0:=by
     unfold Pa at hrs;split at hrs
     ·rename_i T sz es hr;rw [Gx,hr];rcases hf.regs d _ (Ax hr) with ⟨_,h⟩ | ⟨loc',cur,hβ',_⟩
      ·simp [h]
      ·rw [hβ] at hβ';cases hβ'
     ·rename_i T sz full es hr;rw [Gx,hr];rcases hf.regs d _ (Ax hr) with ⟨_,h⟩ | ⟨loc',cur,hβ',_⟩
      ·simp [h]
      ·rw [hβ] at hβ';cases hβ'
     ·cases hrs
    omega
   obtain ⟨rfl,rfl⟩:=hh0;have hb:=Fe (P:=P) (w:=w) true 0 0 _ _ 0 0 (Co hf hl) (Co hf hhi) (Int.le_refl 0) (Int.le_refl 0) (Int.le_refl 0);refine Wh (v:=.slice none 0 0) _ hK ?_ (.inr ⟨hβ,rfl,rfl,rfl⟩);rw [run_sliceAt_slice _ _ _ _ _ _ (by rw [hel];exact ht),hv];simp only [Instr.slice,Sem.run_bind,run_underlying ht,Result.andThen_ok,Option.map_none,Bk (P:=P) (t:=e) rfl omg,Sem.run_pure];simp only [Int.toNat_zero] at hb
   erw [hb]
   simp
 ·exact h.elim
theorem Jg4 (l:List Value):(Value.agg ⟨l⟩).cells=⟨l⟩:=rfl
theorem PRep.cells_scalar {v:Value} {p:PV} (h:PRep w Im v p) (hs:p.scalar=true):v.cells = #[v]:=by
 cases h <;> first | rfl | simp [PV.scalar] at hs
theorem PRep.one {v:Value} {p:PV} (h:PRep w Im v p) (hs:p.scalar=true):v.oneCell'=true:=by
 cases h <;> first | rfl | simp [PV.scalar] at hs
theorem Row.append {cs ds:List Value} {ps qs:List PV} (h:Row w Im cs ps) (h':Row w Im ds qs):Row w Im (cs ++ ds) (ps ++ qs):=by
 refine ⟨by simp [h.1,h'.1],fun i v p hv hp=>?_⟩;by_cases hi:i<cs.length
 ·rw [List.getElem?_append_left hi] at hv;rw [List.getElem?_append_left (by rw [← h.1];exact hi)] at hp;exact h.2 i v p hv hp
 ·rw [List.getElem?_append_right omg] at hv;rw [List.getElem?_append_right (by rw [← h.1];omega),← h.1] at hp;exact h'.2 _ v p hv hp
theorem Ns (off:Nat):∀ (vs:List Value) (k:Nat) (cs:List Value),off+k+vs.length≤cs.length →
  (vs.zipIdx k).foldl (fun (cs:Array Value) (x:Value×Nat)=>cs.setIfInBounds (off+x.2) x.1) (⟨cs⟩:Array Value)=⟨cs.take (off+k) ++ vs ++ cs.drop (off+k+vs.length)⟩
 | [],k,cs,_=>by simp
 | v :: vs,k,cs,h=>by
  simp only [List.zipIdx_cons,List.foldl_cons];rw [show (⟨cs⟩:Array Value).setIfInBounds (off+k) v=⟨cs.set (off+k) v⟩ by simp];rw [Ns off vs (k+1) (cs.set (off+k) v) (by simp at h ⊢;omega)];have h1:off+k<cs.length:=by simp at h;omega
  rw [← Array.toList_inj];simp only;simp only [List.length_cons] at h;have e1:(cs.set (off+k) v).take (off+(k+1))=cs.take (off+k) ++ [v]:=by
   rw [← Nat.add_assoc,List.take_succ_eq_append_getElem (by simpa using h1),List.take_set_of_le (Nat.le_refl _)];simp
  have e2:(cs.set (off+k) v).drop (off+(k+1)+vs.length)=cs.drop (off+k+(vs.length+1)):=by
   rw [List.drop_set_of_lt omg];congr 1;omega
  rw [e1,e2];simp
theorem Lk {t:TypeId} {fs:Array Field} (ht:P.underlying t=some (.struct fs)) (places:Array (Nat×Nat)) (hpl:∀ (i:Nat) (f:Field),fs[i]? = some f→places[i]? = some (f.offset,P.cellsOf f.type)) :
  ∀
   (parts:List (Nat×Value)) (ls:List (Nat×L)) (cs:List Value) (z r:List PV),parts.length=ls.length →
   (∀ (i:Nat) (u:Nat×Value) (x:Nat×L),parts[i]? = some u→ls[i]? = some x→u.1=x.1∧LRep β w Im u.2 x.2)→Row w Im cs z→(∀ p∈z,p.scalar=true)→Ef P t z ls=some r →
   ∃ cs',Instr.fill (places[·]?) ⟨cs⟩ parts=some ⟨cs'⟩∧Row w Im cs' r∧∀ p∈r,p.scalar=true
 | [],[],cs,z,r,_,_,hr,hs,hfill=>by
  simp [Ef] at hfill;subst hfill;exact ⟨cs,by simp [Instr.fill],hr,hs⟩
 | (i,v) :: parts,(i',x) :: ls,cs,z,r,hl,hrep,hr,hs,hfill=>by
  obtain ⟨e1,e2⟩:=hrep 0 _ _ rfl rfl;simp only at e1 e2;subst e1;have hrest:∀ (j:Nat) (u:Nat×Value) (x:Nat×L),parts[j]? = some u→ls[j]? = some x→u.1=x.1∧LRep β w Im u.2 x.2:=fun j u x hu hx=>hrep (j+1) u x (by simpa using hu) (by simpa using hx)
  simp only [Ef] at hfill;split at hfill
  ·rename_i off ft xs hfld;obtain ⟨fs',fd,ht',hfd,ho,hft,hn⟩:=J9 hfld;rw [ht] at ht';cases ht';split at hfill
   ·rename_i hc;cases e2 with
    | agg vs _ hvl hvs hvp =>
    have hlc:off+vs.length≤cs.length:=by rw [hr.1,hvl];exact hc.2
    have hrow:Row w Im (cs.take off ++ vs ++ cs.drop (off+vs.length)) (z.take off ++ xs ++ z.drop (off+xs.length)):=by
     rw [← hvl];exact ((hr.take off).append ⟨hvl,hvp⟩).append (hr.drop _)
    obtain ⟨cs',h1,h2,h3⟩:=Lk ht places hpl parts ls _ _ r (by simpa using hl) hrest hrow (by
     intro p hp;rcases List.mem_append.1 hp with hp | hp
     ·rcases List.mem_append.1 hp with hp | hp
      ·exact hs p (List.mem_of_mem_take hp)
      ·exact hvs p hp
     ·exact hs p (List.mem_of_mem_drop hp)) hfill
    refine ⟨cs',?_,h2,h3⟩;have hf0:=Ns off vs 0 cs omg;simp only [Nat.add_zero] at hf0;have hp0:=hpl i fd hfd;simp only [Instr.fill,hp0,ho,hft,Jg4];refine (if_neg (by simp;omega)).trans ?_;have e0:(⟨vs⟩:Array Value).zipIdx=⟨vs.zipIdx⟩:=by simp
    have e3:Array.foldl (fun (cs:Array Value) (x:Value×Nat)=>cs.setIfInBounds (off+x.2) x.1) (⟨cs⟩:Array Value) (⟨vs⟩:Array Value).zipIdx=⟨cs.take off ++ vs ++ cs.drop (off+vs.length)⟩:=by
     rw [e0,← Array.foldl_toList];exact hf0
    exact (congrArg (fun x=>Instr.fill (fun x=>places[x]?) x parts) e3).trans h1
   ·cases hfill
  ·rename_i off ft p hnotagg hfld;obtain ⟨fs',fd,ht',hfd,ho,hft,hn⟩:=J9 hfld;rw [ht] at ht';cases ht';split at hfill
   ·rename_i hc;have hps:p.scalar=true:=by cases p <;> first | rfl | exact (hnotagg _ rfl).elim
    have hp':PRep w Im v p:=e2;have hcells:=hp'.cells_scalar hps;have hlt:off<cs.length:=by rw [hr.1];omega
    have hrow:Row w Im (cs.set off v) (z.set off p):=by
     refine ⟨by simp [hr.1],fun j u q hu hq=>?_⟩;rw [List.getElem?_set] at hu hq;by_cases hj:off=j
     ·rw [if_pos hj] at hu hq;rw [if_pos hlt] at hu;rw [if_pos omg] at hq;cases hu;cases hq;exact hp'
     ·rw [if_neg hj] at hu hq;exact hr.2 j u q hu hq
    obtain ⟨cs',h1,h2,h3⟩:=Lk ht places hpl parts ls _ _ r (by simpa using hl) hrest hrow (by
     intro q hq;rcases List.mem_or_eq_of_mem_set hq with hq | rfl
     ·exact hs q hq
     ·exact hps) hfill
    refine ⟨cs',?_,h2,h3⟩;have hp0:=hpl i fd hfd;simp only [Instr.fill,hp0,ho,hft,hcells];refine (if_neg (by simp;omega)).trans ?_;simpa using h1
   ·cases hfill
  ·cases hfill
theorem Wx {fs:Array Field} (hsz:∀ f∈fs.toList,P.cellsOf f.type≠0) (w:World) :
  (fs.mapM fun f=>(do pure (f.offset,← sizeOf f.type):Sem (Nat×Nat))).run P w=.ok ⟨fs.toList.map fun f=>(f.offset,P.cellsOf f.type)⟩ w:=by
 obtain ⟨l⟩:=fs;rw [Array.mapM_eq_mapM_toList];simp only [Sem.run_map];have:∀ (l:List Field),(∀ f∈l,P.cellsOf f.type≠0)→(l.mapM fun f=>(do pure (f.offset,← sizeOf f.type):Sem (Nat×Nat))).run P w=.ok (l.map fun f=>(f.offset,P.cellsOf f.type)) w:=by
  intro l
  induction l with
  | nil=>intro _;simp
  | cons f l ih =>
   intro h;have h0:=h f List.mem_cons_self;simp only [List.mapM_cons,Sem.run_bind,Bk (P:=P) (t:=f.type) rfl h0,Result.andThen_ok,Sem.run_pure,ih (fun g hg=>h g (List.mem_cons_of_mem _ hg)),List.map_cons]
 rw [this l hsz];rfl
theorem Up {t:TypeId} {parts:List (Nat×Value)} {ls:List (Nat×L)} {K:L→Prop} (hl:parts.length=ls.length)
  (hrep:∀ (i:Nat) (u:Nat×Value) (x:Nat×L),parts[i]? = some u→ls[i]? = some x→u.1=x.1∧LRep β w Im u.2 x.2) (h:Vf P t ls K) :
  C0 β Im w ((Instr.build t ⟨parts⟩).run P w) K:=by
 obtain ⟨z,hz,hfull,cs,hcs,hK⟩:=h;obtain ⟨fs,ht⟩:∃ fs,P.underlying t=some (.struct fs):=by
  unfold Ez at hfull;split at hfull
  ·rename_i fs ht;exact ⟨fs,ht⟩
  ·cases hfull
 unfold Bu at hz;split at hz <;> first | (cases hz;done) | skip
 rename_i inf hinf;split at hz <;> first | (cases hz;done) | skip
 rename_i zv hzv;have hzrun:(zeroValue t).run P w=.ok zv w:=by simp [zeroValue,typeInfo,hinf,hzv]
 obtain ⟨hz1,hz2⟩:=Bh hz;have hzrow:Row w Im zv.cells.toList z:=⟨hz1,fun i v p hv hp=>(E6 (hz2 i v p hv hp)).1⟩
 have hzs:∀ p∈z,p.scalar=true:=Dl hz;have hne:∀ f∈fs.toList,P.cellsOf f.type≠0:=by
  intro f hf;simp only [Ez,ht,List.all_eq_true,bne_iff_ne] at hfull;exact hfull f hf
 obtain ⟨cs',h1,h2,h3⟩:=Lk ht ⟨fs.toList.map fun f=>(f.offset,P.cellsOf f.type)⟩ (fun i f hf=>by
  have:fs.toList[i]? = some f:=by simpa using hf
  simp [this]) parts ls zv.cells.toList z cs hl hrep hzrow hzs hcs
 refine y_p _ hK (v:=.agg ⟨cs'⟩) ?_ (PRep.agg cs' cs h2.1 h3 h2.2);have hm:=Wx (P:=P) hne w;have h1':Instr.fill (fun x=>(⟨fs.toList.map fun f=>(f.offset,P.cellsOf f.type)⟩:Array (Nat×Nat))[x]?) zv.cells parts=some ⟨cs'⟩:=h1;simp only [Instr.build,Sem.run_bind,hzrun,Result.andThen_ok,run_underlying ht,hm,h1',Sem.run_pure]
theorem Ow:∀ {ls:List L} {ds:List Nat},Hq ls=some ds→ls=ds.map fun d=>.ptr d 0 0
 | [],ds,h=>by simp [Hq] at h;subst h;rfl
 | l :: ls,ds,h=>by
  unfold Hq at h;split at h
  ·rename_i heq;cases heq
  ·rename_i d l' heq;cases heq;split at h
   ·rename_i ds' hds;cases h;simp [Ow hds]
   ·cases h
  ·cases h
end
end Go.LX
