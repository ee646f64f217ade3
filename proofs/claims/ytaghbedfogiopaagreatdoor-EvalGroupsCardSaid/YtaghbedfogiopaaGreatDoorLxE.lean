/- make and append. -/
import Derived.Test.YtaghbedfogiopaaGreatDoorLxD
import Derived.Lib.AppendZerosOnto
set_option linter.unusedSimpArgs false
set_option linter.unusedVariables false
set_option linter.unusedSectionVars false
set_option linter.unnecessarySimpa false
namespace Go.LX
open Go Go.RowKit
section
variable {P:Program} {Γ:Base} {β:Env} {w:World} {Im:Nat->Prop}
def Gl (P:Program) (d:Nat) (t:TypeId) (s:St) (l c:Operand) (K:St->Prop):Prop :=
 d<1000/\match slE P t,s.get l,s.get c with
 | some (e,sz),.p (.int _ l),.p (.int _ c)=>0<=l/\l<=c/\(∃ b,Bo P e=some b/\(b:Int) * c<=281474976710656)/\c<=9223372036854775807 /\
   ∃ zs,Bu P e=some zs/\zs.length=sz/\K ((s.newReg d (.row e sz (List.replicate l.toNat zs))).put (some d) (.own d 0 l.toNat))
 | _,_,_=>False
theorem Sv (z:List Value) (n sz:Nat) (hz:z.length=sz) (i j:Nat) (v:Value) (hi:i<n) (hv:z[j]? = some v):(madeCells ⟨z⟩ (n * sz)).toList[i * sz+j]? = some v:=by
 have hj:j<sz:=by rw [<- hz];exact (Eab.1 hv).1
 have hlt:i * sz+j<n * sz:=by
  have:(i+1) * sz<=n * sz:=Ebf _ hi;rw [Ebo,Ecv] at this;omega
 have hmod:(i * sz+j) % sz=j:=by rw [Nat.mul_comm,Nat.mul_add_mod,Nat.mod_eq_of_lt hj]
 have e:=(Eab.1 hv).2;simp [madeCells,hlt,hz,hmod,hj,e]
theorem Nj {s:St} {a:Act} (h:RRx Γ β Im s a.tmps w) {d t:Nat} {l c:Operand} {K:St->Prop} (hl:Gl P d t s l c K) :
  Lb Γ a d ((Instr.makeSlice t (a.eval l) (a.eval c)).run P w) K:=by
 obtain ⟨hd,hl⟩:=hl;have r1:=A2 h.fit l;have r2:=A2 h.fit c;split at hl
 ·rename_i e sz kl li kc ci hsl g1 g2;obtain ⟨h0,hlc,⟨b,hb,hbytes⟩,h63,zs,hz,hzl,hK⟩:=hl;rw [g1] at r1;rw [g2] at r2;obtain ⟨ht,hcs,hn⟩:=Dw hsl;obtain ⟨zv,hzrun,⟨inf,hinf,hzi⟩,hzlen,hrep,hsc⟩:=D0 hz;have hinf2:inf.size=sz:=by simpa [Program.cellsOf,hinf] using hcs
  have hinf3:inf.bytes=b:=by simpa [Bo,hinf] using hb
  cases hv1:a.eval l <;> rw [hv1] at r1 <;> cases r1;cases hv2:a.eval c <;> rw [hv2] at r2 <;> cases r2;have hrun:=run_make (P:=P) w t e inf zv ht hinf hzi kl kc li ci h0 hlc (by rw [hinf3];exact hbytes) h63;rw [hinf2] at hrun;have g:=Grow.alloc (w:=w) (Im:=Im) h.fit.im (.cells (madeCells zv.cells (ci.toNat * sz)) e);have hzl':zv.cells.toList.length=sz:=hzlen.trans hzl;obtain ⟨k1,k2⟩:=h.newRow hd (T:=e) (sz:=sz) (tot:=ci.toNat) (cur:=(madeCells zv.cells (ci.toNat * sz)).toList) (es:=List.replicate li.toNat zs) g sm (heap_alloc_new w _) (by simp [size_madeCells]) (by simp;omega) (by unfold maxLen;omega)
   (fun x hx=>by rw [List.eq_of_mem_replicate hx];exact ⟨hzl,hsc⟩) (fun i x j p hi hj=>by
    obtain ⟨hi1,rfl⟩:=Eab.1 hi;simp at hi1 hj;obtain ⟨u,hu⟩:=getElem?_of_length hzlen hj;exact ⟨u,Sv zv.cells.toList ci.toNat sz hzl' i j u omg hu,hrep w Im j u p hu hj⟩)
  simp only [Ebz] at k2;exact ⟨_,_,_,Im,_,_,hrun,k1,k2,hK⟩
 ·exact hl.elim
def Gj (s:St):L->Option (List (List PV))
 | .p (.sl es)=>some es
 | .p .snil=>some []
 | .own d off len=>match Am d s.regs with
  | some (.row _ _ es)=>if off+len<=es.length then some ((es.drop off).take len) else none
  | _=>none
 | _=>none
theorem Jes (sz n:Nat) (h0:sz≠0) (f:Nat->Nat->Value):((List.range (n * sz)).map fun k=>f (k / sz) (k % sz)).length=n * sz /\
  (∀ k u,((List.range (n * sz)).map fun k=>f (k / sz) (k % sz))[k]? = some u->∃ i j,i<n/\j<sz/\k=i * sz+j/\u=f i j)/\∀ i j,i<n->j<sz->((List.range (n * sz)).map fun k=>f (k / sz) (k % sz))[i * sz+j]? = some (f i j):=by
 refine ⟨by simp,fun k u hu=>?_,fun i j hi hj=>?_⟩
 ·rw [Eam] at hu;obtain ⟨q,hq,rfl⟩:=Eak.1 hu;obtain ⟨hq1,rfl⟩:=Eab.1 hq;simp at hq1;have hpos:0<sz:=by omega
  refine ⟨k / sz,k % sz,by rw [Nat.div_lt_iff_lt_mul hpos];exact hq1,Nat.mod_lt _ hpos,?_,by simp⟩;rw [Nat.mul_comm];exact (Nat.div_add_mod k sz).symm
 ·have hpos:0<sz:=by omega
  have hlt:i * sz+j<n * sz:=by
   have:(i+1) * sz<=n * sz:=Ebf _ hi;rw [Ebo,Ecv] at this;omega
  have hmod:(i * sz+j) % sz=j:=by rw [Nat.mul_comm,Nat.mul_add_mod,Nat.mod_eq_of_lt hj]
  have hdiv:(i * sz+j) / sz=i:=by rw [Nat.mul_comm,Nat.mul_add_div hpos,Nat.div_eq_of_lt hj,Nat.add_zero]
  simp [hlt,hmod,hdiv]
theorem R5 {s:St} {tmps:Array Value} (hf:Fit β w Im s tmps) {v:Value} {x:L} {es:List (List PV)} {sz:Nat} (h0:sz≠0) (hx:LRep β w Im v x) (hs:Gj s x=some es) (hsz:∀ e∈es,e.length=sz) :
  ((
   ∃ oa,v=.slice oa 0 0)/\es=[])\/∃ (b o c:Nat) (news:List Value),v=.slice (some ⟨b,o,none⟩) es.length c/\news.length=es.length * sz/\(∀ (j:Nat) (u:Value),news[j]? = some u->w.cell? ⟨b,o+j,none⟩=some u)/\(∀ u∈news,u.oneCell'=true) /\
   (∀ (i:Nat) (e:List PV) (j:Nat) (p:PV),es[i]? = some e->e[j]? = some p->∃ u,news[i * sz+j]? = some u/\PRep w Im u p)/\∀ e∈es,∀ p∈e,p.scalar=true:=by
 have mk:∀ (b o c:Nat) (f:Nat->Nat->Value),(∀ e∈es,∀ p∈e,p.scalar=true)->(∀ i,i<es.length->∀ j,j<sz->w.cell? ⟨b,o+(i * sz+j),none⟩=some (f i j))->(∀ (i:Nat) (e:List PV) (j:Nat) (p:PV),es[i]? = some e->e[j]? = some p->PRep w Im (f i j) p) ->
   ∃ (b' o' c':Nat) (news:List Value),Value.slice (some ⟨b,o,none⟩) es.length c=.slice (some ⟨b',o',none⟩) es.length c'/\news.length=es.length * sz/\(∀ (j:Nat) (u:Value),news[j]? = some u->w.cell? ⟨b',o'+j,none⟩=some u)/\(∀ u∈news,u.oneCell'=true) /\
   (∀ (i:Nat) (e:List PV) (j:Nat) (p:PV),es[i]? = some e->e[j]? = some p->∃ u,news[i * sz+j]? = some u/\PRep w Im u p)/\∀ e∈es,∀ p∈e,p.scalar=true:=by
  intro b o c f hsc hc hp;obtain ⟨k1,k2,k3⟩:=Jes sz es.length h0 f;have hsc':=hsc;refine ⟨b,o,c,_,rfl,k1,fun j u hu=>?_,fun u hu=>?_,fun i e j p hi hj=>?_,hsc'⟩
  ·obtain ⟨i,q,hi,hq,rfl,rfl⟩:=k2 j u hu;exact hc i hi q hq
  ·obtain ⟨q,hq,rfl⟩:=Ea6 hu;obtain ⟨i,j,hi,hj,_,e⟩:=k2 q _ (Eaa hq);rw [e];have hm:=Ebq hi;have hje:j<(es[i]).length:=by rw [hsz _ hm];exact hj
   exact (hp i _ j _ (Eaa hi) (Eaa hje)).one (hsc _ hm _ (Ebq hje))
  ·have hi1:=(Eab.1 hi).1;have hj1:j<sz:=by rw [<- hsz e (Eae hi)];exact (Eab.1 hj).1
   exact ⟨_,k3 i j hi1 hj1,hp i e j p hi hj⟩
 unfold Gj at hs;split at hs
 ·cases hs;rcases Jwh hx with ⟨hv,he⟩ | ⟨b,off,cap,sz',f,hv,hcap,hb,hsz',hsc,hc,hp⟩
  ·exact .inl ⟨hv,he⟩
  ·right;rw [hv];refine mk b off cap f hsc (fun i hi j hj=>?_) hp;have e:sz'=sz:=by rw [<- hsz' _ (Ebq hi),hsz _ (Ebq hi)]
   have:=hc i hi j (by rw [e];exact hj);rw [e] at this;rw [<- Ebx];exact this
 ·cases hs;cases hx;exact .inl ⟨⟨_,rfl⟩,rfl⟩
 ·rename_i d off len;split at hs
  ·rename_i T sz' es' hr;split at hs
   ·rename_i hle;cases hs;rcases hx with ⟨loc,cap,ad,hβ,hcap,hl,hao,rfl⟩ | ⟨hβ,rfl,rfl,rfl⟩
    ·rcases hf.regs d _ (Ax hr) with ⟨hn,_⟩ | ⟨loc',cur,hβ',hsz',hb,hcl,hle',hml,hel,hcell⟩
     ·rw [hβ] at hn;cases hn
     ·rw [hβ] at hβ';cases hβ';right;have hlen:((es'.drop off).take len).length=len:=by simp;omega
      have hmem:∀ x∈(es'.drop off).take len,x∈es':=fun x hx=>Ea7 (Ebm hx)
      conv=>enter [1,b,1,o,1,c,1,news,1];rw [show Value.slice (some ⟨loc.blk,ad,none⟩) len cap=Value.slice (some ⟨loc.blk,ad,none⟩) ((es'.drop off).take len).length cap by rw [hlen]]
      refine mk loc.blk ad cap (fun i j=>cur.getD ((off+i) * sz+j) undef) (fun e he=>(hel e (hmem e he)).2) (fun i hi j hj=>?_) (fun i e j p hi hj=>?_)
      ·have hie:off+i<es'.length:=by rw [hlen] at hi;omega
       have hx:=hel _ (Ebq hie);have e:sz'=sz:=by
        have h1:=hsz _ (Ebq hi);have h2:((es'.drop off).take len)[i]=es'[off+i]:=by simp
        rw [h2,hx.1] at h1;exact h1
       subst e;obtain ⟨u,hu,_⟩:=hcell (off+i) _ j _ (Eaa hie) (Eaa (by rw [hx.1];exact hj));rw [D7 hb,hao (.inl (by rw [hlen] at hi;omega)),hsz',<- Ebx,<- Ebo,hu];simp [Eah,hu]
      ·have hi':=hi;rw [Eao] at hi';split at hi'
       ·have hi2:es'[off+i]? = some e:=by simpa using hi'
        obtain ⟨u,hu,hp⟩:=hcell (off+i) e j p hi2 hj;have e':sz'=sz:=by rw [<- (hel e (Eae hi2)).1,hsz e (Eae hi)]
        subst e';have:cur.getD ((off+i) * sz'+j) undef=u:=by simp [Eah,hu]
        rw [this];exact hp
       ·cases hi'
    ·exact .inl ⟨⟨_,rfl⟩,by simp⟩
   ·cases hs
  ·cases hs
 ·cases hs
def Gp (P:Program) (t t':TypeId) (e:TypeId) (s:St) (y:L):Option (List (List PV)) :=
 match y with
 | .p (.str bs)=>match P.underlying t',P.underlying e,Bo P e,E5 P e with
  | some .string,some (.int .u8),some 1,some (.int .u8 0)=>some (bs.map fun c=>[.int .u8 c.toNat])
  | _,_,_,_=>none
 | y=>if t=t' then Gj s y else none
def Cb:List (List L)->Option (List (List PV))
 | []=>some []
 | e :: es=>match Bg L.pure? e with
  | some p=>match Cb es with
   | some ps=>some (p :: ps)
   | none=>none
  | none=>none
theorem Dh:∀ {es:List (List L)} {ps:List (List PV)},Cb es=some ps->es.length=ps.length/\∀ (i:Nat) (p:List PV),ps[i]? = some p->∃ e,es[i]? = some e/\Bg L.pure? e=some p
 | [],ps,h=>by simp [Cb] at h;subst h;exact ⟨rfl,fun i p h=>by simp at h⟩
 | e :: es,ps,h=>by
  simp only [Cb] at h;split at h <;> first|(cases h;done) | skip
  rename_i p hp;split at h <;> first|(cases h;done) | skip
  rename_i ps' hps;cases h;obtain ⟨h1,h2⟩:=Dh hps;refine ⟨by simp [h1],fun i q hq=>?_⟩;cases i with
  | zero=>simp at hq;subst hq;exact ⟨e,rfl,hp⟩
  | succ i=>simp at hq;simpa using h2 i q hq
def Fx (P:Program) (d e sz:Nat) (s:St) (n:Nat) (es:List (List L)) (es':List (List PV)) (K:St->Prop):Prop :=
 n
  <= es.length/\0<es.length/\es.length<n+es'.length/\∃ ps,Cb (es.take n)=some ps/\(∃ b,Bo P e=some b/\(n+es'.length) * b<=140737488355328)/\n+es'.length<=9223372036854775807 /\
  K ((s.newReg d (.row e sz (ps ++ es'))).put (some d) (.own d 0 (n+es'.length)))
def Yk (P:Program) (d t' e sz:Nat) (s:St) (lx:L) (m:Int) (K:St->Prop):Prop :=
 (∃ k,P.underlying t'=some (.int k))/\0<m/\∃ zs,Bu P e=some zs/\match lx with
  | .own d0 0 n=>sz=1/\zs.length=1/\match Am d0 s.regs with
   | some (.lrow T sz' true es)=>T=e/\sz'=sz/\Fx P d e sz s n es (List.replicate m.toNat zs) K
   | _=>False
  | .p .snil=>zs.length=sz/\(∃ b,Bo P e=some b/\m.toNat * b<=140737488355328)/\m<=9223372036854775807/\K ((s.newReg d (.row e sz [])).put (some d) (.own d 0 m.toNat))
  | _=>False
def Qe (P:Program) (d:Nat) (t t':TypeId) (s:St) (x y:Operand) (K:St->Prop):Prop :=
 d<1000/\match slE P t with
 | some (e,sz)=>(∃ zs,Bu P e=some zs/\zs.length=sz)/\∃ es',Gp P t t' e s (s.get y)=some es'/\(∀ q∈es',q.length=sz)/\match s.get x with
  | .own d0 0 n=>match Am d0 s.regs with
   | some (.row T sz' es)=>T=e/\sz'=sz/\es.length=n/\(∃ b,Bo P e=some b/\(n+es'.length) * b<=140737488355328)/\n+es'.length<=9223372036854775807 /\
     K (((s.forget d0).newReg d (.row e sz (es ++ es'))).put (some d) (.own d 0 (n+es'.length)))
   | some (.lrow T sz' true es)=>T=e/\sz'=sz/\t=t'/\Fx P d e sz s n es es' K
   | _=>False
  | .p .snil=>(∃ b,Bo P e=some b/\es'.length * b<=140737488355328)/\es'.length<=9223372036854775807/\K ((s.newReg d (.row e sz es')).put (some d) (.own d 0 es'.length))
  | _=>False
 | none=>False
def Kk (P:Program) (d:Nat) (t t':TypeId) (s:St) (x y:Operand) (K:St->Prop):Prop :=
 match s.get y with
 | .p (.int _ m)=>d<1000/\match slE P t with
  | some (e,sz)=>Yk P d t' e sz s (s.get x) m K
  | none=>False
 | _=>Qe P d t t' s x y K
theorem Jd {t ty e sz:Nat} {oa:Option Addr} (hsl:slE P t=some (e,sz)) (b:Option Addr) (n c:Nat) (hnc:n<=c):(Builtin.append_ #[t,t] ty #[.slice b n c,.slice oa 0 0]).run P w=.ok (.slice b n c) w:=by
 obtain ⟨ht,hcs,h0⟩:=Dw hsl;cases oa with
 | none =>
  cases b with
  | none=>simp [Builtin.append_,run_underlying ht,Bk hcs h0,Builtin.lenOf,hnc,Builtin.firstCells]
  | some a=>simp [Builtin.append_,run_underlying ht,Bk hcs h0,Builtin.lenOf,hnc,Builtin.firstCells,storeCells]
 | some a' =>
  cases b with
  | none=>simp [Builtin.append_,run_underlying ht,Bk hcs h0,Builtin.lenOf,hnc,Builtin.firstCells,loadCells,loadCellsFrom]
  | some a=>simp [Builtin.append_,run_underlying ht,Bk hcs h0,Builtin.lenOf,hnc,Builtin.firstCells,storeCells,loadCells,loadCellsFrom]
theorem Jt7 {d:Nat} {e sz:Nat} {es es':List (List PV)} {w':World} {base:Nat} {v:Value} {xs news:List Value} {n:Nat} {Im':Nat->Prop} (hn:n=es.length) (how:w'.ownsRow base e sz v (n+es'.length) (xs ++ news))
  (hel:∀ q∈es ++ es',q.length=sz/\∀ p∈q,p.scalar=true) (hxl:xs.length=n * sz)
  (h1:∀ (i:Nat) (q:List PV) (j:Nat) (p:PV),es[i]? = some q->q[j]? = some p->∃ u,xs[i * sz+j]? = some u/\PRep w' Im' u p)
  (h2:∀ (i:Nat) (q:List PV) (j:Nat) (p:PV),es'[i]? = some q->q[j]? = some p->∃ u,news[i * sz+j]? = some u/\PRep w' Im' u p) :
  ∃ x:Option Loc,Ci (Jqu β d x) w' Im' d (.row e sz (es ++ es'))/\LRep (Jqu β d x) w' Im' v (.own d 0 (n+es'.length))/\(∀ loc,x=some loc->v.ownBlock=some loc.blk/\loc.blk<w'.heap.size):=by
 subst hn;have hlt:=how.lt;obtain ⟨hl,how⟩:=how;rcases how with ⟨rfl,hz⟩ | ⟨g,cap,cur,rfl,hbase,hb,hnc,hcm,hcs,htake⟩
 ·have e1:es=[]:=Eal omg;have e2:es'=[]:=Eal omg;subst e1;subst e2;exact ⟨none,.inl ⟨B4,rfl⟩,.inr ⟨B4,rfl,rfl,rfl⟩,fun loc h=>by cases h⟩
 ·refine ⟨some ⟨g,sz,cap⟩,.inr ⟨_,cur.toList,B4,rfl,by simpa using hb,by simpa using hcs,by simpa using hnc,hcm,hel,fun i q j p hi hj=>?_⟩,.inl ⟨_,cap,0,B4,by simp,hnc,by simp,rfl⟩,fun loc h=>by cases h;exact ⟨rfl,(hlt g rfl).2⟩⟩;have get:∀ (k:Nat) (u:Value),(xs ++ news)[k]? = some u->cur.toList[k]? = some u:=by
   intro k u hu;rw [<- htake,Eao] at hu;split at hu
   ·exact hu
   ·cases hu
  by_cases hie:i<es.length
  ·rw [Eaq hie] at hi;obtain ⟨u,hu,hp⟩:=h1 i q j p hi hj;have:=(Eab.1 hu).1;exact ⟨u,get _ _ (by rw [Eaq this];exact hu),hp⟩
  ·rw [Ean omg] at hi;obtain ⟨u,hu,hp⟩:=h2 (i - es.length) q j p hi hj;refine ⟨u,get _ _ ?_,hp⟩;have e:i * sz=es.length * sz+(i - es.length) * sz:=by rw [<- Ebo];congr 1;omega
   rw [Ean (by rw [hxl,e];omega),hxl,<- hu];congr 1;omega
structure Src (P:Program) (w:World) (t t' e sz b:Nat) (vy:Value) (m:Nat) (news:List Value):Prop where
 len:news.length=m * sz
 own:∀ (base:Nat) (ty:TypeId) (v:Value) (n:Nat) (xs:List Value),w.ownsRow base e sz v n xs->base<=w.heap.size->n+m<=maxLen->(n+m) * b<=140737488355328 ->
  ∃ v' w',(Builtin.append_ #[t,t'] ty #[v,vy]).run P w=.ok v' w'/\w'.ownsRow base e sz v' (n+m) (xs ++ news)/\w.grownBy w' v.ownBlock
 blk:∀ (ty:TypeId) (v:Value) (n:Nat) (xs:List Value) (v':Value) (w':World),w.ownsRow 0 e sz v n xs->n+m<=maxLen->(n+m) * b<=140737488355328->(Builtin.append_ #[t,t'] ty #[v,vy]).run P w=.ok v' w' ->
  ∀ k,v'.ownBlock=some k->w.heap.size<=k\/v.ownBlock=some k
theorem Src.nil {t e sz b:Nat} {oa:Option Addr} (hsl:slE P t=some (e,sz)):Src P w t t e sz b (.slice oa 0 0) 0 []:=by
 have hrun:∀ (base:Nat) (ty:TypeId) (v:Value) (n:Nat) (xs:List Value),w.ownsRow base e sz v n xs->(Builtin.append_ #[t,t] ty #[v,.slice oa 0 0]).run P w=.ok v w:=by
  intro base ty v n xs how;rcases how.2 with ⟨hv,_⟩ | ⟨g,cap,cur,hv,_,_,hnc,_⟩
  ·rw [hv];exact Jd hsl _ _ _ (Eai _)
  ·rw [hv];exact Jd hsl _ _ _ hnc
 refine ⟨by simp,fun base ty v n xs how _ _ _=>⟨v,w,hrun base ty v n xs how,by simpa using how,⟨rfl,rfl,rfl,Eai _,fun _ _ _=>rfl⟩⟩,fun ty v n xs v' w' how _ _ hr k hk=>?_⟩;rw [hrun 0 ty v n xs how] at hr;cases hr;exact .inr hk
theorem Src.cells {t e sz b:Nat} {inf:TypeInfo} {zv:Value} (hsl:slE P t=some (e,sz)) (hinf:P.info? e=some inf) (hzi:inf.zero=some zv) (hinf2:inf.size=sz) (hinf3:inf.bytes=b) (hzsz:zv.cells.size=sz)
  {bk o c m:Nat} {news:List Value} (hnl:news.length=m * sz) (hncell:∀ (j:Nat) (u:Value),news[j]? = some u->w.cell? ⟨bk,o+j,none⟩=some u) (hn1:∀ u∈news,u.oneCell'=true) :
  Src P w t t e sz b (.slice (some ⟨bk,o,none⟩) m c) m news:=by
 obtain ⟨ht,hcs,h0⟩:=Dw hsl;have hown:∀ (base:Nat) (ty:TypeId) (v:Value) (n:Nat) (xs:List Value),w.ownsRow base e sz v n xs->base<=w.heap.size->n+m<=maxLen->(n+m) * b<=140737488355328 ->
   ∃ v' w',(Builtin.append_ #[t,t] ty #[v,.slice (some ⟨bk,o,none⟩) m c]).run P w=.ok v' w'/\w'.ownsRow base e sz v' (n+m) (xs ++ news)/\w.grownBy w' v.ownBlock:=by
  intro base ty v n xs how hb h63 hby;obtain ⟨v',w',h1,h2,h3,_⟩:=run_append_own (P:=P) w base t ty e inf zv sz b ht hinf hzi hinf2 hinf3 hzsz omg v n xs how ⟨bk,o,none⟩ m c news hnl (fun j u hu=>by rw [Cd];exact hncell j u hu) hn1 h63 hby hb;exact ⟨v',w',h1,h2,h3⟩
 refine ⟨hnl,hown,fun ty v n xs v' w' how h63 hby hrun k hk'=>?_⟩;rcases how.2 with ⟨hv,hn0⟩ | ⟨g,cap,cur,hv,_,hgb,hnc,_,hcs',htk⟩
 ·obtain ⟨v2,w2,hrun2,how2,_⟩:=hown w.heap.size ty v n xs ⟨how.1,.inl ⟨hv,hn0⟩⟩ (Eai _) h63 hby;rw [hrun] at hrun2;cases hrun2;exact .inl (how2.lt k hk').1
 ·by_cases hroom:n+m<=cap
  ·have hr2:=run_append_room (P:=P) w t ty e inf ht hinf g n cap cur hgb ⟨bk,o,none⟩ m c news (by rw [hinf2];exact hnl) (fun j u hu=>by rw [Cd];exact hncell j u hu) hn1 hroom (by rw [hinf2,hnl,hcs',<- Ebo];exact Ebf _ hroom);rw [<- hv,hrun] at hr2;cases hr2;right;rw [hv];exact hk'
  ·have hr2:=run_append_grow (P:=P) w t ty e inf zv ht hinf hzi ⟨g,0,none⟩ n cap xs (by rw [hinf2];exact how.1) (fun j u hu=>by
    rw [<- htk,Eao] at hu;split at hu
    ·rw [Cd,Ebk,cell_of_row w g j cur e (0,0) hgb];simpa using hu
    ·cases hu) ⟨bk,o,none⟩ m c news (by rw [hinf2];exact hnl) (fun j u hu=>by rw [Cd];exact hncell j u hu) omg (by unfold maxLen at h63;omega) (growslice_fits omg (by rw [hinf3];exact hby))
   rw [<- hv,hrun] at hr2;cases hr2;simp [Value.ownBlock] at hk';exact .inl omg
theorem Src.str {t t' e:Nat} {inf:TypeInfo} (ht:P.underlying t=some (.slice e)) (hu:P.underlying t'=some .string) (hinf:P.info? e=some inf) (hzi:inf.zero=some (.int .u8 0)) (hinf2:inf.size=1) (hinf3:inf.bytes=1) (bs:List UInt8) :
  Src P w t t' e 1 1 (.string ⟨⟨bs⟩⟩) bs.length (Lib.strCells ⟨⟨bs⟩⟩):=by
 have hsz:(⟨⟨bs⟩⟩:ByteArray).size=bs.length:=rfl;have hown:∀ (base:Nat) (ty:TypeId) (v:Value) (n:Nat) (xs:List Value),w.ownsRow base e 1 v n xs->base<=w.heap.size->n+bs.length<=maxLen->(n+bs.length) * 1<=140737488355328 ->
   ∃ v' w',(Builtin.append_ #[t,t'] ty #[v,.string ⟨⟨bs⟩⟩]).run P w=.ok v' w'/\w'.ownsRow base e 1 v' (n+bs.length) (xs ++ Lib.strCells ⟨⟨bs⟩⟩)/\w.grownBy w' v.ownBlock:=by
  intro base ty v n xs how hb h63 hby;obtain ⟨v',w',h1,h2,h3,_⟩:=Lib.run_append_own_string (P:=P) w base t t' ty e inf ht hu hinf hzi hinf2 hinf3 v n xs how ⟨⟨bs⟩⟩ (by rw [hsz];exact h63) (by rw [hsz];omega) hb;exact ⟨v',w',h1,h2,h3⟩
 refine ⟨by rw [Lib.strCells_length,hsz,Ecn],hown,fun ty v n xs v' w' how h63 hby hrun k hk'=>?_⟩;rcases how.2 with ⟨hv,hn0⟩ | ⟨g,cap,cur,hv,_,hgb,hnc,_,hcs',htk⟩
 ·obtain ⟨v2,w2,hrun2,how2,_⟩:=hown w.heap.size ty v n xs ⟨how.1,.inl ⟨hv,hn0⟩⟩ (Eai _) h63 hby;rw [hrun] at hrun2;cases hrun2;exact .inl (how2.lt k hk').1
 ·by_cases hroom:n+bs.length<=cap
  ·have hr2:=Lib.run_append_room_string (P:=P) w t t' ty e inf ht hu hinf hinf2 g n cap cur hgb ⟨⟨bs⟩⟩ (by rw [hsz];exact hroom) (by rw [hsz];omega);rw [<- hv,hrun] at hr2;cases hr2;right;rw [hv];exact hk'
  ·have hr2:=Lib.run_append_grow_string (P:=P) w t t' ty e inf (.int .u8 0) ht hu hinf hzi ⟨g,0,none⟩ n cap xs (by rw [hinf2];exact how.1) (fun j u hu=>by
    rw [<- htk,Eao] at hu;split at hu
    ·rw [Cd,Ebk,cell_of_row w g j cur e (0,0) hgb];simpa using hu
    ·cases hu) ⟨⟨bs⟩⟩ (by rw [hsz];omega) (by rw [hsz];unfold maxLen at h63;omega) (growslice_fits (by rw [hsz];omega) (by rw [hinf3,hsz];exact hby))
   rw [<- hv,hrun] at hr2;cases hr2;simp [Value.ownBlock] at hk';exact .inl omg
theorem Jo1 {e:Nat} {inf:TypeInfo} {zv:Value} (hinf:P.info? e=some inf) (hzi:inf.zero=some zv) (h:E5 P e=some (.int .u8 0)):zv=.int .u8 0:=by
 unfold E5 at h;split at h <;> first|(cases h;done) | skip
 rename_i v zs hv hz;have e0:v=zv:=by rw [hinf] at hv;simp [hzi] at hv;exact hv.symm
 subst e0;split at h
 ·cases h
 ·rename_i hag;split at h <;> first|(cases h;done) | skip
  cases h;unfold Bu at hz;rw [hinf] at hz;simp only [hzi] at hz;have e1:v.cells = #[v]:=by cases v <;> first | rfl | (exact absurd rfl hag)
  rw [e1] at hz;simp only [Bg] at hz;split at hz <;> first|(cases hz;done) | skip
  rename_i b hb;cases hz;unfold Gr at hb;split at hb <;> cases hb;rfl
theorem Pg {s:St} {a:Act} (hf:Fit β w Im s a.tmps) {t t' e sz b:Nat} {inf:TypeInfo} {zv:Value} (hsl:slE P t=some (e,sz)) (hinf:P.info? e=some inf) (hzi:inf.zero=some zv) (hinf2:inf.size=sz) (hinf3:inf.bytes=b) (hzsz:zv.cells.size=sz)
  {y:Operand} {zs:List PV} {es':List (List PV)} (hs:Gp P t t' e s (s.get y)=some es') (hsz:∀ q∈es',q.length=sz) (hz:Bu P e=some zs) (hbb:Bo P e=some b) :
  ∃ news,Src P w t t' e sz b (a.eval y) es'.length news/\(∀ (i:Nat) (q:List PV) (j:Nat) (p:PV),es'[i]? = some q->q[j]? = some p->∃ u,news[i * sz+j]? = some u/\PRep w Im u p)/\∀ q∈es',∀ p∈q,p.scalar=true:=by
 have ry:=A2 hf y;obtain ⟨ht,hcs,h0⟩:=Dw hsl;unfold Gp at hs;split at hs
 ·rename_i bs hg;split at hs <;> first|(cases hs;done) | skip
  rename_i hu he hb1 hz1;cases hs;rw [hbb] at hb1;cases hb1;obtain rfl:zv=.int .u8 0:=Jo1 hinf hzi hz1;have h2:sz=1:=by rw [<- hzsz];rfl
  subst h2;rw [hg] at ry;have hv:a.eval y=.string ⟨⟨bs⟩⟩:=by generalize a.eval y=v at ry;cases ry;rfl
  rw [hv,Ea9];refine ⟨_,Src.str ht hu hinf hzi hinf2 hinf3 bs,fun i q j p hi hj=>?_,fun q hq p hp=>?_⟩
  ·rw [Eam] at hi;obtain ⟨c,hc,rfl⟩:=Eak.1 hi;cases j with
   | zero =>
    simp at hj;subst hj;exact ⟨.int .u8 c.toNat,by simp [Lib.strCells,hc],PRep.int _ _⟩
   | succ j=>simp at hj
  ·obtain ⟨c,_,rfl⟩:=Eap.1 hq;simp at hp;subst hp;rfl
 ·rename_i hg;split at hs
  ·rename_i htt;subst htt;rcases R5 hf h0 ry hs hsz with ⟨⟨oa,hy⟩,rfl⟩ | ⟨bk,o,c,news,hy,hnl,hncell,hn1,hn2,hn3⟩
   ·rw [hy];exact ⟨[],Src.nil hsl,by simp,by simp⟩
   ·rw [hy];exact ⟨news,Src.cells hsl hinf hzi hinf2 hinf3 hzsz hnl hncell hn1,hn2,hn3⟩
  ·cases hs
theorem R7 {s:St} {a:Act} (h:RRx Γ β Im s a.tmps w) {d t t' ty:Nat} {x y:Operand} {K:St->Prop} (hl:Qe P d t t' s x y K) :
  Lb Γ a d ((Builtin.append_ #[t,t'] ty #[a.eval x,a.eval y]).run P w) K:=by
 obtain ⟨hd,hl⟩:=hl;split at hl
 ·rename_i e sz hsl;obtain ⟨⟨zs,hz,hzl⟩,es',hsrc,hsz,hl⟩:=hl;obtain ⟨ht,hcs,h0⟩:=Dw hsl;obtain ⟨zv,hzrun,⟨inf,hinf,hzi⟩,hzlen,hzrep,hzsc⟩:=D0 hz;have hinf2:inf.size=sz:=by simpa [Program.cellsOf,hinf] using hcs
  have hzsz:zv.cells.size=sz:=by rw [<- hzl,<- hzlen];simp
  have rx:=A2 h.fit x;split at hl
  ·rename_i d0 n hg;split at hl
   ·rename_i T sz' es hr;obtain ⟨rfl,rfl,hen,⟨b,hb,hbytes⟩,h63,hK⟩:=hl;have hinf3:inf.bytes=b:=by simpa [Bo,hinf] using hb
    have hmem:=Ax hr;rw [hg] at rx;obtain ⟨xs,how,hxl,hx1,hxs,hloc⟩:∃ xs,w.ownsRow 0 T sz' (a.eval x) n xs/\xs.length=n * sz' /\
      (∀ (i:Nat) (q:List PV) (j:Nat) (p:PV),es[i]? = some q->q[j]? = some p->∃ u,xs[i * sz'+j]? = some u/\PRep w Im u p)/\(∀ q∈es,q.length=sz'/\∀ p∈q,p.scalar=true) /\
      (∀ k,(a.eval x).ownBlock=some k->∃ loc,β d0=some loc/\loc.blk=k):=by
     rcases h.fit.regs d0 _ hmem with ⟨hn,rfl⟩ | ⟨loc,cur,hβ,hls,hbk,hcl,hle,hml,hel,hcell⟩
     ·rcases rx with ⟨loc,cap,o,hβ,_⟩ | ⟨_,_,hn0,hv⟩
      ·rw [hβ] at hn;cases hn
      ·subst hn0;rw [hv];exact ⟨[],World.ownsRow_nil _ _ _ _,by simp,by simp,by simp,fun k hk=>by simp [Value.ownBlock] at hk⟩
     ·rcases rx with ⟨loc',cap,o,hβ',hcap,hlc,ho,hv⟩ | ⟨hn,_⟩
      ·rw [hβ] at hβ';cases hβ';simp only [Ebk] at hcap;rw [hv,ho (.inr rfl)];simp only [Ecs];subst hcap;refine ⟨cur.take (n * sz'),⟨?_,.inr ⟨loc.blk,loc.tot,⟨cur⟩,rfl,Eav _,hbk,hlc,hml,by simpa using hcl,by simp⟩⟩,?_,fun i q j p hi hj=>?_,hel,fun k hk=>⟨loc,hβ,by simpa [Value.ownBlock] using hk⟩⟩
       ·rw [Eaw,hcl];exact Ec8 (Ebf _ hlc)
       ·rw [Eaw,hcl];exact Ec8 (Ebf _ hlc)
       ·obtain ⟨u,hu,hp⟩:=hcell i q j p hi hj;have hi1:=(Eab.1 hi).1;have hj1:j<sz':=by rw [<- (hel q (Eae hi)).1];exact (Eab.1 hj).1
        have hlt:i * sz'+j<n * sz':=by
         have:(i+1) * sz'<=n * sz':=Ebf _ omg;rw [Ebo,Ecv] at this;omega
        exact ⟨u,by rw [Eao,if_pos hlt];exact hu,hp⟩
      ·rw [hβ] at hn;cases hn
    have h63':n+es'.length<=maxLen:=by unfold maxLen;omega
    obtain ⟨news,src,hn2,hn3⟩:=Pg h.fit hsl hinf hzi hinf2 hinf3 hzsz hsrc hsz hz hb;obtain ⟨v',w',hrun,how',hgr⟩:=src.own 0 ty (a.eval x) n xs how (Eav _) h63' hbytes;have hk:Keeps w Im w' Im:=⟨fun _ h=>h,fun b hb'=>hgr.block b (h.fit.im b hb') fun e=>by
     obtain ⟨loc,hβ,rfl⟩:=hloc b e.symm;exact (h.fit.live d0 _ loc hmem hβ).2 hb'⟩
    obtain ⟨x',k1,k2,k3⟩:=Jt7 (β:=β) (d:=d) (e:=T) (sz:=sz') (es:=es) (es':=es') (w':=w') (base:=0) (v:=v') (xs:=xs) (news:=news) (n:=n) (Im':=Im) hen.symm how'
     (fun q hq=>(Eau.1 hq).elim (hxs q) fun hq=>⟨hsz q hq,hn3 q hq⟩) hxl (fun i q j p hi hj=>by obtain ⟨u,hu,hp⟩:=hx1 i q j p hi hj;exact ⟨u,hu,hp.mono hk⟩)
     (fun i q j p hi hj=>by obtain ⟨u,hu,hp⟩:=hn2 i q j p hi hj;exact ⟨u,hu,hp.mono hk⟩)
    have:=h.replace hd hmem (w':=w') (x:=x') hgr.os hgr.tape hgr.output hgr.size (fun k hk' hne=>hgr.block k hk' fun e=>by
      obtain ⟨loc,hβ,hb'⟩:=hloc k e.symm;exact hne loc hβ hb'.symm)
     (fun loc hl=>⟨(k3 loc hl).2,(src.blk ty _ n xs v' w' how h63' hbytes hrun _ (k3 loc hl).1).imp id fun h'=>hloc _ h'⟩) k1
    exact ⟨_,w',_,Im,_,_,hrun,this,k2,hK⟩
   ·rename_i T sz' es hr;obtain ⟨rfl,rfl,htt,hnl,hel0,hgt,ps,hps,⟨b,hb,hbytes⟩,h63,hK⟩:=hl;subst htt;have hinf3:inf.bytes=b:=by simpa [Bo,hinf] using hb
    have hmem:=Ax hr;rw [hg] at rx;have hsrc':Gj s (s.get y)=some es':=by
     unfold Gp at hsrc;split at hsrc
     ·split at hsrc <;> first|(cases hsrc;done) | skip
      rename_i hu _ _ _;rw [ht] at hu;cases hu
     ·rwa [if_pos rfl] at hsrc
    have hPR:∃ v' w' x',(Builtin.append_ #[t,t] ty #[a.eval x,a.eval y]).run P w=.ok v' w'/\Grow w Im w' Im/\(∀ loc,x'=some loc->w.heap.size<=loc.blk/\loc.blk<w'.heap.size) /\
      Ci (Jqu β d x') w' Im d (.row T sz' (ps ++ es'))/\LRep (Jqu β d x') w' Im v' (.own d 0 (n+es'.length)):=by
     rcases h.fit.regs d0 _ hmem with ⟨_,rfl⟩ | ⟨loc,cur,hβ,hls,hbk,hcl,hle,hfu,hml,hel,hcell⟩
     ·simp at hel0
     rcases rx with ⟨loc',cap,o,hβ',hcap,hlc,ho,hv⟩ | ⟨hn,_⟩
     rotate_left
     ·rw [hβ] at hn;cases hn
     rw [hβ] at hβ';cases hβ';have hfu:=hfu rfl;have ho0:o=0:=by rw [ho (.inr rfl)];simp
     subst ho0;obtain ⟨pl,pp⟩:=Dh hps;rw [Eaw,Ec8 hnl] at pl;have hxl:(cur.take (n * sz')).length=n * sz':=by rw [Eaw,hcl];exact Ec8 (Ebf _ omg)
     have how:w.ownsRow 0 T sz' (.slice (some ⟨loc.blk,0,none⟩) n cap) n (cur.take (n * sz')):=⟨hxl,.inr ⟨loc.blk,cap,⟨cur⟩,rfl,Eav _,hbk,hlc,by omega,by
      show cur.length=cap * sz';rw [hcl];congr 1;omega,by simp⟩⟩
     have h63':n+es'.length<=maxLen:=by unfold maxLen;omega
     have hE:∀ (i:Nat) (q:List PV),ps[i]? = some q->q.length=sz'/\∀ p∈q,p.scalar=true:=by
      intro i q hq;obtain ⟨e,he,ha⟩:=pp i q hq;have he':es[i]? = some e:=by
       rw [Eao] at he;split at he
       ·exact he
       ·cases he
      obtain ⟨al,ag⟩:=Bh ha;refine ⟨by rw [<- hel e (Eae he')];exact al.symm,fun p hp=>?_⟩;obtain ⟨j,hj,rfl⟩:=Ea6 hp;obtain ⟨l,hl'⟩:=getElem?_of_length al (Eaa hj);have h1:=ag j l _ hl' (Eaa hj);obtain ⟨v,hv',hrep,hco⟩:=hcell i e j l he' hl';cases l <;> simp [L.pure?] at h1;subst h1;rcases hco with hco | hco
      ·exact hco
      ·cases hco
     have hX:∀ (i:Nat) (q:List PV) (j:Nat) (p:PV),ps[i]? = some q->q[j]? = some p->∃ u,(cur.take (n * sz'))[i * sz'+j]? = some u/\PRep w Im u p:=by
      intro i q j p hi hj;obtain ⟨e,he,ha⟩:=pp i q hi;have he':es[i]? = some e:=by
       rw [Eao] at he;split at he
       ·exact he
       ·cases he
      obtain ⟨al,ag⟩:=Bh ha;obtain ⟨l,hl'⟩:=getElem?_of_length al hj;have h1:=ag j l p hl' hj;obtain ⟨v,hv',hrep,hco⟩:=hcell i e j l he' hl';cases l <;> simp [L.pure?] at h1;subst h1;have hi1:=(Eab.1 hi).1;have hj1:j<sz':=by rw [<- (hE i q hi).1];exact (Eab.1 hj).1
      have hlt:i * sz'+j<n * sz':=by
       have:(i+1) * sz'<=n * sz':=Ebf _ omg;rw [Ebo,Ecv] at this;omega
      exact ⟨v,by rw [Eao,if_pos hlt];exact hv',hrep⟩
     rcases R5 h.fit h0 (A2 h.fit y) hsrc' hsz with ⟨_,rfl⟩ | ⟨bk,o2,c,news,hy,hnl2,hncell,hn1,hn2,hn3⟩
     ·simp at hgt;omega
     have hrun:=run_append_grow (P:=P) w t ty T inf zv ht hinf hzi ⟨loc.blk,0,none⟩ n cap (cur.take (n * sz')) (by rw [hinf2];exact hxl) (fun j u hu=>by
      rw [Eao] at hu;split at hu
      ·rw [Cd,Ebk,cell_of_row w loc.blk j ⟨cur⟩ T (0,0) hbk];simpa using hu
      ·cases hu) ⟨bk,o2,none⟩ es'.length c news (by rw [hinf2];exact hnl2) (fun j u hu=>by rw [Cd];exact hncell j u hu) omg omg (growslice_fits omg (by rw [hinf3];exact hbytes))
     have src:=Src.cells (P:=P) hsl hinf hzi hinf2 hinf3 hzsz (c:=c) hnl2 hncell hn1;obtain ⟨v',w',hrun2,how',hgr⟩:=src.own 0 ty _ n _ how (Eav _) h63' hbytes;rw [hrun] at hrun2;have g:Grow w Im w' Im:=by
      cases hrun2;exact (Grow.drew h.fit.im).trans (Grow.alloc (w:=w.drew) h.fit.im _)
     obtain ⟨x',k1,k2,k3⟩:=Jt7 (β:=β) (d:=d) (e:=T) (sz:=sz') (es:=ps) (es':=es') (w':=w') (base:=0) (v:=v') (xs:=cur.take (n * sz')) (news:=news) (n:=n) (Im':=Im) pl how'
      (fun q hq=>(Eau.1 hq).elim (fun hq=>by obtain ⟨i,hi,rfl⟩:=Ea6 hq;exact hE i _ (Eaa hi)) fun hq=>⟨hsz q hq,hn3 q hq⟩) hxl
      (fun i q j p hi hj=>by obtain ⟨u,hu,hp⟩:=hX i q j p hi hj;exact ⟨u,hu,hp.mono (g.keeps h.fit.im)⟩)
      (fun i q j p hi hj=>by obtain ⟨u,hu,hp⟩:=hn2 i q j p hi hj;exact ⟨u,hu,hp.mono (g.keeps h.fit.im)⟩)
     refine ⟨v',w',x',by rw [hv,hy,hrun,hrun2],g,fun loc2 hl2=>?_,k1,k2⟩;obtain ⟨e1,e2⟩:=k3 loc2 hl2;refine ⟨?_,e2⟩;cases hrun2;simp [Value.ownBlock] at e1;omega
    obtain ⟨v',w',x',hrun,g,hx',k1,k2⟩:=hPR;have:=h.newReg hd (r:=.row T sz' (ps ++ es')) (x:=x') g hx' k1;exact ⟨_,w',_,Im,_,_,hrun,this,k2,hK⟩
   ·exact hl.elim
  ·rename_i hg;obtain ⟨⟨b,hb,hbytes⟩,h63,hK⟩:=hl;have hinf3:inf.bytes=b:=by simpa [Bo,hinf] using hb
   rw [hg] at rx;have hvx:a.eval x=.slice none 0 0:=by cases hv:a.eval x <;> rw [hv] at rx <;> cases rx;rfl
   have h63':0+es'.length<=maxLen:=by unfold maxLen;omega
   obtain ⟨news,src,hn2,hn3⟩:=Pg h.fit hsl hinf hzi hinf2 hinf3 hzsz hsrc hsz hz hb;obtain ⟨v',w',hrun,how',hgr⟩:=src.own w.heap.size ty (a.eval x) 0 [] (by rw [hvx];exact World.ownsRow_nil _ _ _ _) (Eai _) h63' (by rw [Ebk];exact hbytes);have g:Grow w Im w' Im:=⟨hgr.os,hgr.tape,hgr.output,hgr.size,fun k hk=>hgr.block k hk (by simp [hvx,Value.ownBlock]),fun _ h=>h,fun _ h=>.inl h,fun b hb'=>Ebd (h.fit.im b hb') hgr.size⟩
   have hlt:=how'.lt;obtain ⟨x',k1,k2,k3⟩:=Jt7 (β:=β) (d:=d) (e:=e) (sz:=sz) (es:=[]) (es':=es') (w':=w') (base:=w.heap.size) (v:=v') (xs:=[]) (news:=news) (n:=0) (Im':=Im) rfl how'
    (fun q hq=>⟨hsz q (by simpa using hq),hn3 q (by simpa using hq)⟩) sm sm
    (fun i q j p hi hj=>by obtain ⟨u,hu,hp⟩:=hn2 i q j p hi hj;exact ⟨u,hu,hp.mono (g.keeps h.fit.im)⟩)
   rw [List.nil_append] at k1;rw [Ebk] at k2;have:=h.newReg hd (r:=.row e sz es') (x:=x') g (fun loc hl=>⟨(hlt _ (k3 loc hl).1).1,(k3 loc hl).2⟩) k1;exact ⟨_,w',_,Im,_,_,hrun,this,k2,hK⟩
  ·exact hl.elim
 ·exact hl.elim
theorem Qu (z:Value) (hz:z.cells.size=1) (k:Nat):(Builtin.zeroCells z.cells k).toList.length=k/\∀ i,i<k->(Builtin.zeroCells z.cells k).toList[i]? = some (z.cells.toList.getD 0 undef):=by
 unfold Builtin.zeroCells;have e:∀ i,z.cells[i % z.cells.size]! = z.cells.toList.getD 0 undef:=by
  intro i;rw [hz,Nat.mod_one];generalize z.cells=c at hz ⊢;obtain ⟨l⟩:=c;rcases l with _ | ⟨u,_ | ⟨v,l⟩⟩
  ·simp at hz
  ·rfl
  ·simp at hz
 refine ⟨by simp [hz],fun i hi=>?_⟩;simp only [Array.toList_map,e];rw [Eam,Array.toList_range,List.getElem?_range (by rw [hz];omega)];rfl
theorem Sz {s:St} {a:Act} (h:RRx Γ β Im s a.tmps w) {d t t' ty:Nat} {x y:Operand} {K:St->Prop} (hl:Kk P d t t' s x y K) :
  Lb Γ a d ((Builtin.append_ #[t,t'] ty #[a.eval x,a.eval y]).run P w) K:=by
 unfold Kk at hl;split at hl
 ·rename_i kq m hgy;obtain ⟨hd,hl⟩:=hl;split at hl
  ·rename_i e sz hsl;obtain ⟨⟨kn,htn⟩,hm,zs,hz,hl⟩:=hl;obtain ⟨ht,hcs,h0⟩:=Dw hsl;obtain ⟨zv,hzrun,⟨inf,hinf,hzi⟩,hzlen,hzrep,hzsc⟩:=D0 hz;have rx:=A2 h.fit x;have ry:=A2 h.fit y;rw [hgy] at ry;have hv2:a.eval y=.int kq m:=by generalize a.eval y=v at ry;cases ry;rfl
   split at hl
   ·rename_i d0 n hg;obtain ⟨rfl,hzl1,hl⟩:=hl;have hinf2:inf.size=1:=by simpa [Program.cellsOf,hinf] using hcs
    split at hl
    ·rename_i T sz' es hr;obtain ⟨rfl,rfl,hnl,hel0,hgt,ps,hps,⟨b,hb,hbytes⟩,h63,hK⟩:=hl;rw [Ebz] at hgt hbytes h63 hK;have hinf3:inf.bytes=b:=by simpa [Bo,hinf] using hb
     have hmem:=Ax hr;rw [hg] at rx;rcases h.fit.regs d0 _ hmem with ⟨_,rfl⟩ | ⟨loc,cur,hβ,hls,hbk,hcl,hle,hfu,hml,hel,hcell⟩
     ·simp at hel0
     rcases rx with ⟨loc',cap,o,hβ',hcap,hlc,ho,hv⟩ | ⟨hn,_⟩
     rotate_left
     ·rw [hβ] at hn;cases hn
     rw [hβ] at hβ';cases hβ';have hfu:=hfu rfl;have ho0:o=0:=by rw [ho (.inr rfl)];simp
     subst ho0;have hzs1:zv.cells.size=1:=by rw [<- hzl1,<- hzlen];simp
     obtain ⟨pl,pp⟩:=Dh hps;rw [Eaw,Ec8 hnl] at pl;have hxl:(cur.take n).length=n:=by rw [Eaw,hcl];omega
     have hE:∀ (i:Nat) (q:List PV),ps[i]? = some q->q.length=1/\∀ p∈q,p.scalar=true:=by
      intro i q hq;obtain ⟨e,he,ha⟩:=pp i q hq;have he':es[i]? = some e:=by
       rw [Eao] at he;split at he
       ·exact he
       ·cases he
      obtain ⟨al,ag⟩:=Bh ha;refine ⟨by rw [<- hel e (Eae he')];exact al.symm,fun p hp=>?_⟩;obtain ⟨j,hj,rfl⟩:=Ea6 hp;obtain ⟨l,hl'⟩:=getElem?_of_length al (Eaa hj);have h1:=ag j l _ hl' (Eaa hj);obtain ⟨v,hv',hrep,hco⟩:=hcell i e j l he' hl';cases l <;> simp [L.pure?] at h1;subst h1;rcases hco with hco | hco
      ·exact hco
      ·cases hco
     have hX:∀ (i:Nat) (q:List PV) (j:Nat) (p:PV),ps[i]? = some q->q[j]? = some p->∃ u,(cur.take n)[i * 1+j]? = some u/\PRep w Im u p:=by
      intro i q j p hi hj;obtain ⟨e,he,ha⟩:=pp i q hi;have he':es[i]? = some e:=by
       rw [Eao] at he;split at he
       ·exact he
       ·cases he
      obtain ⟨al,ag⟩:=Bh ha;obtain ⟨l,hl'⟩:=getElem?_of_length al hj;have h1:=ag j l p hl' hj;obtain ⟨v,hv',hrep,hco⟩:=hcell i e j l he' hl';cases l <;> simp [L.pure?] at h1;subst h1;have hi1:=(Eab.1 hi).1;have hj1:j<1:=by rw [<- (hE i q hi).1];exact (Eab.1 hj).1
      exact ⟨v,by rw [Eao,if_pos omg];exact hv',hrep⟩
     obtain ⟨k,rfl⟩:∃ k:Nat,m=k:=⟨m.toNat,by omega⟩
     simp only [Int.toNat_natCast] at hgt hbytes h63 hK;have h63':n+k<=maxLen:=by unfold maxLen;omega
     have hkb:k * b<=(n+k) * b:=Ebf _ omg;have hfc:(Builtin.firstCells inf.size n (.slice (some ⟨loc.blk,0,none⟩) n cap)).run P w.drew=.ok (cur.take n).toArray w.drew:=by
      have:=run_firstCells_some (P:=P) w.drew inf.size n ⟨loc.blk,0,none⟩ n cap (cur.take n) (by rw [hinf2,hxl];omega) (fun j u hu=>by
       rw [Eao] at hu;split at hu
       ·rw [Cd,Ebk];show w.cell? _=_;rw [cell_of_row w loc.blk j ⟨cur⟩ T (0,0) hbk];simpa using hu
       ·cases hu)
      simpa using this
     have hrun:=Lib.run_append_grow_zeros (P:=P) w t t' ty T inf zv kq kn ht htn hinf hzi (some ⟨loc.blk,0,none⟩) n cap (cur.take n) hfc k omg omg omg omg (by rw [hinf3];omega) (growslice_fits omg (by rw [hinf3];exact hbytes));obtain ⟨z1,z2⟩:=Qu zv hzs1 k;obtain ⟨z3,_⟩:=Qu zv hzs1 (grownCap w (n+k) cap T - (n+k));have hge:=grownCap_ge w (n+k) cap T;have hcm:grownCap w (n+k) cap T<=maxLen:=grownCap_le_maxLen w (n+k) cap T h63';have g:Grow w Im (w.drew.alloc (.cells ((cur.take n).toArray ++ Builtin.zeroCells zv.cells k ++ Builtin.zeroCells zv.cells (grownCap w (n+k) cap T - (n+k))) T)) Im:=(Grow.drew h.fit.im).trans (Grow.alloc (w:=w.drew) h.fit.im _);obtain ⟨k1,k2⟩:=h.newRow hd (T:=T) (sz:=1) (tot:=grownCap w (n+k) cap T) (cur:=((cur.take n).toArray ++ Builtin.zeroCells zv.cells k ++ Builtin.zeroCells zv.cells (grownCap w (n+k) cap T - (n+k))).toList) (es:=ps ++ List.replicate k zs) g (by show w.heap.size<(w.heap.push _).size;simp) (heap_alloc_new w.drew _)
      (by simp only [Ecx,Eac,z1,z3,hxl];omega) (by simp only [Eac,Ebz];omega) hcm
      (fun q hq=>(Eau.1 hq).elim (fun hq=>by obtain ⟨i,hi,rfl⟩:=Ea6 hq;exact hE i _ (Eaa hi)) fun hq=>by
       rw [List.eq_of_mem_replicate hq];exact ⟨by rw [<- hzlen];simpa using hzs1,hzsc⟩)
      (fun i q j p hi hj=>by
       by_cases hlt:i<ps.length
       ·rw [Eaq hlt] at hi;obtain ⟨u,hu,hp⟩:=hX i q j p hi hj;have hul:=(Eab.1 hu).1;exact ⟨u,by rw [Ecx,Ecx,Ea2,Eaq (by simpa using hul)];exact hu,hp⟩
       ·rw [Ean omg] at hi;obtain ⟨hi1,rfl⟩:=Eab.1 hi;simp only [Ebz] at hi1;simp only [List.getElem_replicate] at hj;have hj0:j=0:=by have h1:=(Eab.1 hj).1;rw [<- hzlen] at h1;simp [hzs1] at h1;exact h1
        subst hj0;refine ⟨zv.cells.toList.getD 0 undef,?_,?_⟩
        ·rw [Ecx,Ecx,Ea2,Ean (by simp;omega),Eaq (by rw [z1];simp;omega)];exact z2 _ (by simp;omega)
        ·exact hzrep w Im 0 _ p (by rw [Eah];cases hq:zv.cells.toList[0]? with
          | none=>simp [hzs1] at hq
          | some u=>rfl) hj)
     have hk2:(ps ++ List.replicate k zs).length=n+k:=by simp [<- pl]
     rw [hk2] at k2;exact ⟨_,_,_,Im,_,_,by rw [hv,hv2];exact hrun,k1,k2,hK⟩
    ·exact hl.elim
   ·rename_i hg;obtain ⟨hzl,⟨b,hb,hbytes⟩,h63,hK⟩:=hl;have hinf2:inf.size=sz:=by simpa [Program.cellsOf,hinf] using hcs
    have hinf3:inf.bytes=b:=by simpa [Bo,hinf] using hb
    rw [hg] at rx;have hvx:a.eval x=.slice none 0 0:=by generalize a.eval x=v at rx;cases rx;rfl
    obtain ⟨k,rfl⟩:∃ k:Nat,m=k:=⟨m.toNat,by omega⟩
    simp only [Int.toNat_natCast] at hbytes hK;have hrun:=Lib.run_append_nil_zeros (P:=P) w t t' ty e inf zv kq kn ht htn hinf hzi k omg omg omg (by rw [hinf3];omega);have hge:=grownCap_ge w k 0 e;have hcm:grownCap w k 0 e<=maxLen:=grownCap_le_maxLen w k 0 e (by unfold maxLen;omega);have hzs:zv.cells.size=sz:=by rw [<- hzl,<- hzlen];simp
    have zl:∀ j,(Builtin.zeroCells zv.cells j).toList.length=j * sz:=fun j=>by simp [Builtin.zeroCells,hzs]
    have g:Grow w Im (w.drew.alloc (.cells (Builtin.zeroCells zv.cells k ++ Builtin.zeroCells zv.cells (grownCap w k 0 e - k)) e)) Im:=(Grow.drew h.fit.im).trans (Grow.alloc (w:=w.drew) h.fit.im _);obtain ⟨k1,_⟩:=h.newRow hd (T:=e) (sz:=sz) (tot:=grownCap w k 0 e) (cur:=(Builtin.zeroCells zv.cells k ++ Builtin.zeroCells zv.cells (grownCap w k 0 e - k)).toList) (es:=[]) g (by show w.heap.size<(w.heap.push _).size;simp) (heap_alloc_new w.drew _)
     (by rw [Ecx,Eac,zl,zl,<- Ebo];congr 1;omega) (Eav _) hcm (fun q hq=>by cases hq) (fun i q j p hi=>by simp at hi)
    have k2:LRep (Jqu β d (some ⟨w.heap.size,sz,grownCap w k 0 e⟩)) (w.drew.alloc (.cells (Builtin.zeroCells zv.cells k ++ Builtin.zeroCells zv.cells (grownCap w k 0 e - k)) e)) Im (.slice (some ⟨w.heap.size,0,none⟩) k (grownCap w k 0 e)) (.own d 0 k):=.inl ⟨_,grownCap w k 0 e,0,B4,by simp,hge,by simp,rfl⟩;exact ⟨_,_,_,Im,_,_,by rw [hvx,hv2];exact hrun,k1,k2,hK⟩
   ·exact hl.elim
  ·exact hl.elim
 ·exact R7 h hl
end
end Go.LX
