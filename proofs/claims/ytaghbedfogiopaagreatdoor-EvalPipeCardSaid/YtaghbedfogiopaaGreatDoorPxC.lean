/- make and append. -/
import Derived.Test.YtaghbedfogiopaaGreatDoorPxB
import Derived.Lib.AppendZerosOnto
import Derived.Maps.RangeRun
import Derived.WideKeyEntry
import Derived.Shelf.Abstract
set_option linter.unusedSimpArgs false
set_option linter.unusedVariables false
set_option linter.unusedSectionVars false
set_option linter.unnecessarySimpa false
namespace Go.LX
open Go Go.RowKit
section
variable {P:Program} {Γ:Base} {β:Env} {w:World} {Im:Nat->Prop}
def Gl (P:Program) (d:Nat) (t:TypeId) (s:St) (l c:Operand) (K:St->Prop):Prop :=
 d<1000/\match slE P t,s.get l,s.get c with
 | some (e,sz),.p (.int _ l),.p (.int _ c)=>0<=l/\l<=c/\(∃ b,Bo P e=some b/\(b:Int) * c<=281474976710656)/\c<=9223372036854775807 /\
   ∃ zs,Bu P e=some zs/\zs.length=sz/\K ((s.newReg d (.row e sz (List.replicate l.toNat zs))).put (some d) (.own d 0 l.toNat))
 | _,_,_=>False
theorem Sv (z:List Value) (n sz:Nat) (hz:z.length=sz) (i j:Nat) (v:Value) (hi:i<n) (hv:z[j]? = some v):(madeCells ⟨z⟩ (n * sz)).toList[i * sz+j]? = some v:=by
 have hj:j<sz:=by rw[<- hz];exact (Eab.1 hv).1
 have hlt:i * sz+j<n * sz:=by
  have:(i+1) * sz<=n * sz:=Ea3 _ hi;rw[Ebl,Ec0] at this;omega
 have hmod:(i * sz+j) % sz=j:=by rw[Ecg,Nat.mul_add_mod,Nat.mod_eq_of_lt hj]
 have e:=(Eab.1 hv).2;simp[madeCells,hlt,hz,hmod,hj,e]
theorem Nj {s:St} {a:Act} (h:RRx Γ β Im s a.tmps w) {d t:Nat} {l c:Operand} {K:St->Prop} (hl:Gl P d t s l c K) :
  Lb Γ a d ((Instr.makeSlice t (a.eval l) (a.eval c)).run P w) K:=by
 obtain ⟨hd,hl⟩:=hl;have r1:=A2 h.fit l;have r2:=A2 h.fit c;split at hl
 ·rename_i e sz kl li kc ci hsl g1 g2;obtain ⟨h0,hlc,⟨b,hb,hbytes⟩,h63,zs,hz,hzl,hK⟩:=hl;rw[g1] at r1;rw[g2] at r2;obtain ⟨ht,hcs,hn⟩:=Dw hsl;obtain ⟨zv,hzrun,⟨inf,hinf,hzi⟩,hzlen,hrep,hsc⟩:=D0 hz;have hinf2:inf.size=sz:=by simpa[Program.cellsOf,hinf] using hcs
  have hinf3:inf.bytes=b:=by simpa[Bo,hinf] using hb
  cases hv1:a.eval l<;>rw[hv1] at r1<;>cases r1;cases hv2:a.eval c<;>rw[hv2] at r2<;>cases r2;have hrun:=run_make (P:=P) w t e inf zv ht hinf hzi kl kc li ci h0 hlc (by rw[hinf3];exact hbytes) h63;rw[hinf2] at hrun;have g:=Grow.alloc (w:=w) (Im:=Im) h.fit.im (.cells (madeCells zv.cells (ci.toNat * sz)) e);have hzl':zv.cells.toList.length=sz:=hzlen.trans hzl;obtain ⟨k1,k2⟩:=h.newRow hd (T:=e) (sz:=sz) (tot:=ci.toNat) (cur:=(madeCells zv.cells (ci.toNat * sz)).toList) (es:=List.replicate li.toNat zs) g sm (heap_alloc_new w _) (by simp[size_madeCells]) (by simp;omega) (by unfold maxLen;omega)
   (fun x hx=>by rw[List.eq_of_mem_replicate hx];exact ⟨hzl,hsc⟩) (fun i x j p hi hj=>by
    obtain ⟨hi1,rfl⟩:=Eab.1 hi;simp at hi1 hj;obtain ⟨u,hu⟩:=getElem?_of_length hzlen hj;exact ⟨u,Sv zv.cells.toList ci.toNat sz hzl' i j u omg hu,hrep w Im j u p hu hj⟩)
  simp only[Eb4] at k2;exact ⟨_,_,_,Im,_,_,hrun,k1,k2,hK⟩
 ·exact hl.elim
def Gj (s:St):L->Option (List (List PV))
 | .p (.sl es)=>some es
 | .p .snil=>some []
 | .own d off len=>match Am d s.regs with
  | some (.row _ _ es)=>if off+len<=es.length then some ((es.drop off).take len) else none
  | _=>none
 | _=>none
theorem Jes (sz n:Nat) (h0:sz≠0) (f:Nat->Nat->Value):((List.range (n * sz)).map fun k=>f (k / sz) (k % sz)).length=n * sz /\
  (∀ k u,((List.range (n * sz)).map fun k=>f (k / sz) (k % sz))[k]? = some u->∃ i j,i<n/\j<sz/\k=i * sz+j/\u=f i j)/\∀ i j,i<n->j<sz->((List.range (n * sz)).map fun k=>f (k / sz) (k % sz))[i * sz+j]? = some (f i j):=by
 refine ⟨by simp,fun k u hu=>?_,fun i j hi hj=>?_⟩
 ·rw[Eam] at hu;obtain ⟨q,hq,rfl⟩:=Eal.1 hu;obtain ⟨hq1,rfl⟩:=Eab.1 hq;simp at hq1;have hpos:0<sz:=by omega
  refine ⟨k / sz,k % sz,by rw[Nat.div_lt_iff_lt_mul hpos];exact hq1,Nat.mod_lt _ hpos,?_,by simp⟩;rw[Ecg];exact (Nat.div_add_mod k sz).symm
 ·have hpos:0<sz:=by omega
  have hlt:i * sz+j<n * sz:=by
   have:(i+1) * sz<=n * sz:=Ea3 _ hi;rw[Ebl,Ec0] at this;omega
  have hmod:(i * sz+j) % sz=j:=by rw[Ecg,Nat.mul_add_mod,Nat.mod_eq_of_lt hj]
  have hdiv:(i * sz+j) / sz=i:=by rw[Ecg,Nat.mul_add_div hpos,Nat.div_eq_of_lt hj,Nat.add_zero]
  simp[hlt,hmod,hdiv]
theorem R5 {s:St} {tmps:Array Value} (hf:Fit β w Im s tmps) {v:Value} {x:L} {es:List (List PV)} {sz:Nat} (h0:sz≠0) (hx:LRep β w Im v x) (hs:Gj s x=some es) (hsz:∀ e∈es,e.length=sz) :
  ((
   ∃ oa,v=.slice oa 0 0)/\es=[])\/∃ (b o c:Nat) (news:List Value),v=.slice (some ⟨b,o,none⟩) es.length c/\news.length=es.length * sz/\(∀ (j:Nat) (u:Value),news[j]? = some u->w.cell? ⟨b,o+j,none⟩=some u)/\(∀ u∈news,u.oneCell'=true) /\
   (∀ (i:Nat) (e:List PV) (j:Nat) (p:PV),es[i]? = some e->e[j]? = some p->∃ u,news[i * sz+j]? = some u/\PRep w Im u p)/\∀ e∈es,∀ p∈e,p.scalar=true:=by
 have mk:∀ (b o c:Nat) (f:Nat->Nat->Value),(∀ e∈es,∀ p∈e,p.scalar=true)->(∀ i,i<es.length->∀ j,j<sz->w.cell? ⟨b,o+(i * sz+j),none⟩=some (f i j))->(∀ (i:Nat) (e:List PV) (j:Nat) (p:PV),es[i]? = some e->e[j]? = some p->PRep w Im (f i j) p) ->
   ∃ (b' o' c':Nat) (news:List Value),Value.slice (some ⟨b,o,none⟩) es.length c=.slice (some ⟨b',o',none⟩) es.length c'/\news.length=es.length * sz/\(∀ (j:Nat) (u:Value),news[j]? = some u->w.cell? ⟨b',o'+j,none⟩=some u)/\(∀ u∈news,u.oneCell'=true) /\
   (∀ (i:Nat) (e:List PV) (j:Nat) (p:PV),es[i]? = some e->e[j]? = some p->∃ u,news[i * sz+j]? = some u/\PRep w Im u p)/\∀ e∈es,∀ p∈e,p.scalar=true:=by
  intro b o c f hsc hc hp;obtain ⟨k1,k2,k3⟩:=Jes sz es.length h0 f;have hsc':=hsc;refine ⟨b,o,c,_,rfl,k1,fun j u hu=>?_,fun u hu=>?_,fun i e j p hi hj=>?_,hsc'⟩
  ·obtain ⟨i,q,hi,hq,rfl,rfl⟩:=k2 j u hu;exact hc i hi q hq
  ·obtain ⟨q,hq,rfl⟩:=Eba hu;obtain ⟨i,j,hi,hj,_,e⟩:=k2 q _ (Eaa hq);rw[e];have hm:=Eb1 hi;have hje:j<(es[i]).length:=by rw[hsz _ hm];exact hj
   exact (hp i _ j _ (Eaa hi) (Eaa hje)).one (hsc _ hm _ (Eb1 hje))
  ·have hi1:=(Eab.1 hi).1;have hj1:j<sz:=by rw[<- hsz e (Eag hi)];exact (Eab.1 hj).1
   exact ⟨_,k3 i j hi1 hj1,hp i e j p hi hj⟩
 unfold Gj at hs;split at hs
 ·cases hs;rcases Jwh hx with ⟨hv,he⟩ | ⟨b,off,cap,sz',f,hv,hcap,hb,hsz',hsc,hc,hp⟩
  ·exact .inl ⟨hv,he⟩
  ·right;rw[hv];refine mk b off cap f hsc (fun i hi j hj=>?_) hp;have e:sz'=sz:=by rw[<- hsz' _ (Eb1 hi),hsz _ (Eb1 hi)]
   have:=hc i hi j (by rw[e];exact hj);rw[e] at this;rw[<- Eb2];exact this
 ·cases hs;cases hx;exact .inl ⟨⟨_,rfl⟩,rfl⟩
 ·rename_i d off len;split at hs
  ·rename_i T sz' es' hr;split at hs
   ·rename_i hle;cases hs;rcases hx with ⟨loc,cap,ad,hβ,hcap,hl,hao,rfl⟩ | ⟨hβ,rfl,rfl,rfl⟩
    ·rcases hf.regs d _ (Ax hr) with ⟨hn,_⟩ | ⟨loc',cur,hβ',hsz',hb,hcl,hle',hml,hel,hcell⟩
     ·rw[hβ] at hn;cases hn
     ·rw[hβ] at hβ';cases hβ';right;have hlen:((es'.drop off).take len).length=len:=by simp;omega
      have hmem:∀ x∈(es'.drop off).take len,x∈es':=fun x hx=>Ea6 (Ebq hx)
      conv=>enter [1,b,1,o,1,c,1,news,1];rw[show Value.slice (some ⟨loc.blk,ad,none⟩) len cap=Value.slice (some ⟨loc.blk,ad,none⟩) ((es'.drop off).take len).length cap by rw[hlen]]
      refine mk loc.blk ad cap (fun i j=>cur.getD ((off+i) * sz+j) undef) (fun e he=>(hel e (hmem e he)).2) (fun i hi j hj=>?_) (fun i e j p hi hj=>?_)
      ·have hie:off+i<es'.length:=by rw[hlen] at hi;omega
       have hx:=hel _ (Eb1 hie);have e:sz'=sz:=by
        have h1:=hsz _ (Eb1 hi);have h2:((es'.drop off).take len)[i]=es'[off+i]:=by simp
        rw[h2,hx.1] at h1;exact h1
       subst e;obtain ⟨u,hu,_⟩:=hcell (off+i) _ j _ (Eaa hie) (Eaa (by rw[hx.1];exact hj));rw[D7 hb,hao (.inl (by rw[hlen] at hi;omega)),hsz',<- Eb2,<- Ebl,hu];simp[Eaj,hu]
      ·have hi':=hi;rw[Eas] at hi';split at hi'
       ·have hi2:es'[off+i]? = some e:=by simpa using hi'
        obtain ⟨u,hu,hp⟩:=hcell (off+i) e j p hi2 hj;have e':sz'=sz:=by rw[<- (hel e (Eag hi2)).1,hsz e (Eag hi)]
        subst e';have:cur.getD ((off+i) * sz'+j) undef=u:=by simp[Eaj,hu]
        rw[this];exact hp
       ·cases hi'
    ·exact .inl ⟨⟨_,rfl⟩,by simp⟩
   ·cases hs
  ·cases hs
 ·cases hs
def Gp (P:Program) (t t':TypeId) (e:TypeId) (s:St) (y:L):Option (List (List PV)) :=
 match y with
 | .p (.str bs)=>match P.underlying t',P.underlying e,Bo P e,E5 P e with
  | some .string,some (.int .u8),some 1,some (.int .u8 0)=>some (bs.map fun c=>[.int .u8 c.toNat])
  | _,_,_,_=>none
 | y=>if t=t' then Gj s y else none
def Cb:List (List L)->Option (List (List PV))
 | []=>some []
 | e :: es=>match Bg L.pure? e with
  | some p=>match Cb es with
   | some ps=>some (p :: ps)
   | none=>none
  | none=>none
theorem Dh:∀ {es:List (List L)} {ps:List (List PV)},Cb es=some ps->es.length=ps.length/\∀ (i:Nat) (p:List PV),ps[i]? = some p->∃ e,es[i]? = some e/\Bg L.pure? e=some p
 | [],ps,h=>by simp[Cb] at h;subst h;exact ⟨rfl,fun i p h=>by simp at h⟩
 | e :: es,ps,h=>by
  simp only[Cb] at h;split at h<;>first|(cases h;done) | skip
  rename_i p hp;split at h<;>first|(cases h;done) | skip
  rename_i ps' hps;cases h;obtain ⟨h1,h2⟩:=Dh hps;refine ⟨by simp[h1],fun i q hq=>?_⟩;cases i with
  | zero=>simp at hq;subst hq;exact ⟨e,rfl,hp⟩
  | succ i=>simp at hq;simpa using h2 i q hq
def Fx (P:Program) (d e sz:Nat) (s:St) (n:Nat) (es:List (List L)) (es':List (List PV)) (K:St->Prop):Prop :=
 n
  <= es.length/\0<es.length/\es.length<n+es'.length/\∃ ps,Cb (es.take n)=some ps/\(∃ b,Bo P e=some b/\(n+es'.length) * b<=140737488355328)/\n+es'.length<=9223372036854775807 /\
  K ((s.newReg d (.row e sz (ps ++ es'))).put (some d) (.own d 0 (n+es'.length)))
def Yk (P:Program) (d t' e sz:Nat) (s:St) (lx:L) (m:Int) (K:St->Prop):Prop :=
 (∃ k,P.underlying t'=some (.int k))/\0<m/\∃ zs,Bu P e=some zs/\match lx with
  | .own d0 0 n=>sz=1/\zs.length=1/\match Am d0 s.regs with
   | some (.lrow T sz' true es)=>T=e/\sz'=sz/\Fx P d e sz s n es (List.replicate m.toNat zs) K
   | _=>False
  | .p .snil=>zs.length=sz/\(∃ b,Bo P e=some b/\m.toNat * b<=140737488355328)/\m<=9223372036854775807/\K ((s.newReg d (.row e sz [])).put (some d) (.own d 0 m.toNat))
  | _=>False
def Qe (P:Program) (d:Nat) (t t':TypeId) (s:St) (x y:Operand) (K:St->Prop):Prop :=
 d<1000/\match slE P t with
 | some (e,sz)=>(∃ zs,Bu P e=some zs/\zs.length=sz)/\∃ es',Gp P t t' e s (s.get y)=some es'/\(∀ q∈es',q.length=sz)/\match s.get x with
  | .own d0 0 n=>match Am d0 s.regs with
   | some (.row T sz' es)=>T=e/\sz'=sz/\es.length=n/\(∃ b,Bo P e=some b/\(n+es'.length) * b<=140737488355328)/\n+es'.length<=9223372036854775807 /\
     K (((s.forget d0).newReg d (.row e sz (es ++ es'))).put (some d) (.own d 0 (n+es'.length)))
   | some (.lrow T sz' true es)=>T=e/\sz'=sz/\t=t'/\Fx P d e sz s n es es' K
   | _=>False
  | .p .snil=>(∃ b,Bo P e=some b/\es'.length * b<=140737488355328)/\es'.length<=9223372036854775807/\K ((s.newReg d (.row e sz es')).put (some d) (.own d 0 es'.length))
  | _=>False
 | none=>False
def Kk (P:Program) (d:Nat) (t t':TypeId) (s:St) (x y:Operand) (K:St->Prop):Prop :=
 match s.get y with
 | .p (.int _ m)=>d<1000/\match slE P t with
  | some (e,sz)=>Yk P d t' e sz s (s.get x) m K
  | none=>False
 | _=>Qe P d t t' s x y K
theorem Jd {t ty e sz:Nat} {oa:Option Addr} (hsl:slE P t=some (e,sz)) (b:Option Addr) (n c:Nat) (hnc:n<=c):(Builtin.append_ #[t,t] ty #[.slice b n c,.slice oa 0 0]).run P w=.ok (.slice b n c) w:=by
 obtain ⟨ht,hcs,h0⟩:=Dw hsl;cases oa with
 | none =>
  cases b with
  | none=>simp[Builtin.append_,run_underlying ht,Bk hcs h0,Builtin.lenOf,hnc,Builtin.firstCells]
  | some a=>simp[Builtin.append_,run_underlying ht,Bk hcs h0,Builtin.lenOf,hnc,Builtin.firstCells,storeCells]
 | some a' =>
  cases b with
  | none=>simp[Builtin.append_,run_underlying ht,Bk hcs h0,Builtin.lenOf,hnc,Builtin.firstCells,loadCells,loadCellsFrom]
  | some a=>simp[Builtin.append_,run_underlying ht,Bk hcs h0,Builtin.lenOf,hnc,Builtin.firstCells,storeCells,loadCells,loadCellsFrom]
theorem Jt7 {d:Nat} {e sz:Nat} {es es':List (List PV)} {w':World} {base:Nat} {v:Value} {xs news:List Value} {n:Nat} {Im':Nat->Prop} (hn:n=es.length) (how:w'.ownsRow base e sz v (n+es'.length) (xs ++ news))
  (hel:∀ q∈es ++ es',q.length=sz/\∀ p∈q,p.scalar=true) (hxl:xs.length=n * sz)
  (h1:∀ (i:Nat) (q:List PV) (j:Nat) (p:PV),es[i]? = some q->q[j]? = some p->∃ u,xs[i * sz+j]? = some u/\PRep w' Im' u p)
  (h2:∀ (i:Nat) (q:List PV) (j:Nat) (p:PV),es'[i]? = some q->q[j]? = some p->∃ u,news[i * sz+j]? = some u/\PRep w' Im' u p) :
  ∃ x:Option Loc,Ci (Jqu β d x) w' Im' d (.row e sz (es ++ es'))/\LRep (Jqu β d x) w' Im' v (.own d 0 (n+es'.length))/\(∀ loc,x=some loc->v.ownBlock=some loc.blk/\loc.blk<w'.heap.size):=by
 subst hn;have hlt:=how.lt;obtain ⟨hl,how⟩:=how;rcases how with ⟨rfl,hz⟩ | ⟨g,cap,cur,rfl,hbase,hb,hnc,hcm,hcs,htake⟩
 ·have e1:es=[]:=Ean omg;have e2:es'=[]:=Ean omg;subst e1;subst e2;exact ⟨none,.inl ⟨B4,rfl⟩,.inr ⟨B4,rfl,rfl,rfl⟩,fun loc h=>by cases h⟩
 ·refine ⟨some ⟨g,sz,cap⟩,.inr ⟨_,cur.toList,B4,rfl,by simpa using hb,by simpa using hcs,by simpa using hnc,hcm,hel,fun i q j p hi hj=>?_⟩,.inl ⟨_,cap,0,B4,by simp,hnc,by simp,rfl⟩,fun loc h=>by cases h;exact ⟨rfl,(hlt g rfl).2⟩⟩;have get:∀ (k:Nat) (u:Value),(xs ++ news)[k]? = some u->cur.toList[k]? = some u:=by
   intro k u hu;rw[<- htake,Eas] at hu;split at hu
   ·exact hu
   ·cases hu
  by_cases hie:i<es.length
  ·rw[Eat hie] at hi;obtain ⟨u,hu,hp⟩:=h1 i q j p hi hj;have:=(Eab.1 hu).1;exact ⟨u,get _ _ (by rw[Eat this];exact hu),hp⟩
  ·rw[Ear omg] at hi;obtain ⟨u,hu,hp⟩:=h2 (i - es.length) q j p hi hj;refine ⟨u,get _ _ ?_,hp⟩;have e:i * sz=es.length * sz+(i - es.length) * sz:=by rw[<- Ebl];congr 1;omega
   rw[Ear (by rw[hxl,e];omega),hxl,<- hu];congr 1;omega
structure Src (P:Program) (w:World) (t t' e sz b:Nat) (vy:Value) (m:Nat) (news:List Value):Prop where
 len:news.length=m * sz
 own:∀ (base:Nat) (ty:TypeId) (v:Value) (n:Nat) (xs:List Value),w.ownsRow base e sz v n xs->base<=w.heap.size->n+m<=maxLen->(n+m) * b<=140737488355328 ->
  ∃ v' w',(Builtin.append_ #[t,t'] ty #[v,vy]).run P w=.ok v' w'/\w'.ownsRow base e sz v' (n+m) (xs ++ news)/\w.grownBy w' v.ownBlock
 blk:∀ (ty:TypeId) (v:Value) (n:Nat) (xs:List Value) (v':Value) (w':World),w.ownsRow 0 e sz v n xs->n+m<=maxLen->(n+m) * b<=140737488355328->(Builtin.append_ #[t,t'] ty #[v,vy]).run P w=.ok v' w' ->
  ∀ k,v'.ownBlock=some k->w.heap.size<=k\/v.ownBlock=some k
theorem Src.nil {t e sz b:Nat} {oa:Option Addr} (hsl:slE P t=some (e,sz)):Src P w t t e sz b (.slice oa 0 0) 0 []:=by
 have hrun:∀ (base:Nat) (ty:TypeId) (v:Value) (n:Nat) (xs:List Value),w.ownsRow base e sz v n xs->(Builtin.append_ #[t,t] ty #[v,.slice oa 0 0]).run P w=.ok v w:=by
  intro base ty v n xs how;rcases how.2 with ⟨hv,_⟩ | ⟨g,cap,cur,hv,_,_,hnc,_⟩
  ·rw[hv];exact Jd hsl _ _ _ (Eah _)
  ·rw[hv];exact Jd hsl _ _ _ hnc
 refine ⟨by simp,fun base ty v n xs how _ _ _=>⟨v,w,hrun base ty v n xs how,by simpa using how,⟨rfl,rfl,rfl,Eah _,fun _ _ _=>rfl⟩⟩,fun ty v n xs v' w' how _ _ hr k hk=>?_⟩;rw[hrun 0 ty v n xs how] at hr;cases hr;exact .inr hk
theorem Src.cells {t e sz b:Nat} {inf:TypeInfo} {zv:Value} (hsl:slE P t=some (e,sz)) (hinf:P.info? e=some inf) (hzi:inf.zero=some zv) (hinf2:inf.size=sz) (hinf3:inf.bytes=b) (hzsz:zv.cells.size=sz)
  {bk o c m:Nat} {news:List Value} (hnl:news.length=m * sz) (hncell:∀ (j:Nat) (u:Value),news[j]? = some u->w.cell? ⟨bk,o+j,none⟩=some u) (hn1:∀ u∈news,u.oneCell'=true) :
  Src P w t t e sz b (.slice (some ⟨bk,o,none⟩) m c) m news:=by
 obtain ⟨ht,hcs,h0⟩:=Dw hsl;have hown:∀ (base:Nat) (ty:TypeId) (v:Value) (n:Nat) (xs:List Value),w.ownsRow base e sz v n xs->base<=w.heap.size->n+m<=maxLen->(n+m) * b<=140737488355328 ->
   ∃ v' w',(Builtin.append_ #[t,t] ty #[v,.slice (some ⟨bk,o,none⟩) m c]).run P w=.ok v' w'/\w'.ownsRow base e sz v' (n+m) (xs ++ news)/\w.grownBy w' v.ownBlock:=by
  intro base ty v n xs how hb h63 hby;obtain ⟨v',w',h1,h2,h3,_⟩:=run_append_own (P:=P) w base t ty e inf zv sz b ht hinf hzi hinf2 hinf3 hzsz omg v n xs how ⟨bk,o,none⟩ m c news hnl (fun j u hu=>by rw[Cd];exact hncell j u hu) hn1 h63 hby hb;exact ⟨v',w',h1,h2,h3⟩
 refine ⟨hnl,hown,fun ty v n xs v' w' how h63 hby hrun k hk'=>?_⟩;rcases how.2 with ⟨hv,hn0⟩ | ⟨g,cap,cur,hv,_,hgb,hnc,_,hcs',htk⟩
 ·obtain ⟨v2,w2,hrun2,how2,_⟩:=hown w.heap.size ty v n xs ⟨how.1,.inl ⟨hv,hn0⟩⟩ (Eah _) h63 hby;rw[hrun] at hrun2;cases hrun2;exact .inl (how2.lt k hk').1
 ·by_cases hroom:n+m<=cap
  ·have hr2:=run_append_room (P:=P) w t ty e inf ht hinf g n cap cur hgb ⟨bk,o,none⟩ m c news (by rw[hinf2];exact hnl) (fun j u hu=>by rw[Cd];exact hncell j u hu) hn1 hroom (by rw[hinf2,hnl,hcs',<- Ebl];exact Ea3 _ hroom);rw[<- hv,hrun] at hr2;cases hr2;right;rw[hv];exact hk'
  ·have hr2:=run_append_grow (P:=P) w t ty e inf zv ht hinf hzi ⟨g,0,none⟩ n cap xs (by rw[hinf2];exact how.1) (fun j u hu=>by
    rw[<- htk,Eas] at hu;split at hu
    ·rw[Cd,Ebo,cell_of_row w g j cur e (0,0) hgb];simpa using hu
    ·cases hu) ⟨bk,o,none⟩ m c news (by rw[hinf2];exact hnl) (fun j u hu=>by rw[Cd];exact hncell j u hu) omg (by unfold maxLen at h63;omega) (growslice_fits omg (by rw[hinf3];exact hby))
   rw[<- hv,hrun] at hr2;cases hr2;simp[Value.ownBlock] at hk';exact .inl omg
theorem Src.str {t t' e:Nat} {inf:TypeInfo} (ht:P.underlying t=some (.slice e)) (hu:P.underlying t'=some .string) (hinf:P.info? e=some inf) (hzi:inf.zero=some (.int .u8 0)) (hinf2:inf.size=1) (hinf3:inf.bytes=1) (bs:List UInt8) :
  Src P w t t' e 1 1 (.string ⟨⟨bs⟩⟩) bs.length (Lib.strCells ⟨⟨bs⟩⟩):=by
 have hsz:(⟨⟨bs⟩⟩:ByteArray).size=bs.length:=rfl;have hown:∀ (base:Nat) (ty:TypeId) (v:Value) (n:Nat) (xs:List Value),w.ownsRow base e 1 v n xs->base<=w.heap.size->n+bs.length<=maxLen->(n+bs.length) * 1<=140737488355328 ->
   ∃ v' w',(Builtin.append_ #[t,t'] ty #[v,.string ⟨⟨bs⟩⟩]).run P w=.ok v' w'/\w'.ownsRow base e 1 v' (n+bs.length) (xs ++ Lib.strCells ⟨⟨bs⟩⟩)/\w.grownBy w' v.ownBlock:=by
  intro base ty v n xs how hb h63 hby;obtain ⟨v',w',h1,h2,h3,_⟩:=Lib.run_append_own_string (P:=P) w base t t' ty e inf ht hu hinf hzi hinf2 hinf3 v n xs how ⟨⟨bs⟩⟩ (by rw[hsz];exact h63) (by rw[hsz];omega) hb;exact ⟨v',w',h1,h2,h3⟩
 refine ⟨by rw[Lib.strCells_length,hsz,Ect],hown,fun ty v n xs v' w' how h63 hby hrun k hk'=>?_⟩;rcases how.2 with ⟨hv,hn0⟩ | ⟨g,cap,cur,hv,_,hgb,hnc,_,hcs',htk⟩
 ·obtain ⟨v2,w2,hrun2,how2,_⟩:=hown w.heap.size ty v n xs ⟨how.1,.inl ⟨hv,hn0⟩⟩ (Eah _) h63 hby;rw[hrun] at hrun2;cases hrun2;exact .inl (how2.lt k hk').1
 ·by_cases hroom:n+bs.length<=cap
  ·have hr2:=Lib.run_append_room_string (P:=P) w t t' ty e inf ht hu hinf hinf2 g n cap cur hgb ⟨⟨bs⟩⟩ (by rw[hsz];exact hroom) (by rw[hsz];omega);rw[<- hv,hrun] at hr2;cases hr2;right;rw[hv];exact hk'
  ·have hr2:=Lib.run_append_grow_string (P:=P) w t t' ty e inf (.int .u8 0) ht hu hinf hzi ⟨g,0,none⟩ n cap xs (by rw[hinf2];exact how.1) (fun j u hu=>by
    rw[<- htk,Eas] at hu;split at hu
    ·rw[Cd,Ebo,cell_of_row w g j cur e (0,0) hgb];simpa using hu
    ·cases hu) ⟨⟨bs⟩⟩ (by rw[hsz];omega) (by rw[hsz];unfold maxLen at h63;omega) (growslice_fits (by rw[hsz];omega) (by rw[hinf3,hsz];exact hby))
   rw[<- hv,hrun] at hr2;cases hr2;simp[Value.ownBlock] at hk';exact .inl omg
theorem Jo1 {e:Nat} {inf:TypeInfo} {zv:Value} (hinf:P.info? e=some inf) (hzi:inf.zero=some zv) (h:E5 P e=some (.int .u8 0)):zv=.int .u8 0:=by
 unfold E5 at h;split at h<;>first|(cases h;done) | skip
 rename_i v zs hv hz;have e0:v=zv:=by rw[hinf] at hv;simp[hzi] at hv;exact hv.symm
 subst e0;split at h
 ·cases h
 ·rename_i hag;split at h<;>first|(cases h;done) | skip
  cases h;unfold Bu at hz;rw[hinf] at hz;simp only[hzi] at hz;have e1:v.cells = #[v]:=by cases v<;>first|rfl | (exact absurd rfl hag)
  rw[e1] at hz;simp only[Bg] at hz;split at hz<;>first|(cases hz;done) | skip
  rename_i b hb;cases hz;unfold Gr at hb;split at hb<;>cases hb;rfl
theorem Pg {s:St} {a:Act} (hf:Fit β w Im s a.tmps) {t t' e sz b:Nat} {inf:TypeInfo} {zv:Value} (hsl:slE P t=some (e,sz)) (hinf:P.info? e=some inf) (hzi:inf.zero=some zv) (hinf2:inf.size=sz) (hinf3:inf.bytes=b) (hzsz:zv.cells.size=sz)
  {y:Operand} {zs:List PV} {es':List (List PV)} (hs:Gp P t t' e s (s.get y)=some es') (hsz:∀ q∈es',q.length=sz) (hz:Bu P e=some zs) (hbb:Bo P e=some b) :
  ∃ news,Src P w t t' e sz b (a.eval y) es'.length news/\(∀ (i:Nat) (q:List PV) (j:Nat) (p:PV),es'[i]? = some q->q[j]? = some p->∃ u,news[i * sz+j]? = some u/\PRep w Im u p)/\∀ q∈es',∀ p∈q,p.scalar=true:=by
 have ry:=A2 hf y;obtain ⟨ht,hcs,h0⟩:=Dw hsl;unfold Gp at hs;split at hs
 ·rename_i bs hg;split at hs<;>first|(cases hs;done) | skip
  rename_i hu he hb1 hz1;cases hs;rw[hbb] at hb1;cases hb1;obtain rfl:zv=.int .u8 0:=Jo1 hinf hzi hz1;have h2:sz=1:=by rw[<- hzsz];rfl
  subst h2;rw[hg] at ry;have hv:a.eval y=.string ⟨⟨bs⟩⟩:=by generalize a.eval y=v at ry;cases ry;rfl
  rw[hv,Ea1];refine ⟨_,Src.str ht hu hinf hzi hinf2 hinf3 bs,fun i q j p hi hj=>?_,fun q hq p hp=>?_⟩
  ·rw[Eam] at hi;obtain ⟨c,hc,rfl⟩:=Eal.1 hi;cases j with
   | zero =>
    simp at hj;subst hj;exact ⟨.int .u8 c.toNat,by simp[Lib.strCells,hc],PRep.int _ _⟩
   | succ j=>simp at hj
  ·obtain ⟨c,_,rfl⟩:=Eap.1 hq;simp at hp;subst hp;rfl
 ·rename_i hg;split at hs
  ·rename_i htt;subst htt;rcases R5 hf h0 ry hs hsz with ⟨⟨oa,hy⟩,rfl⟩ | ⟨bk,o,c,news,hy,hnl,hncell,hn1,hn2,hn3⟩
   ·rw[hy];exact ⟨[],Src.nil hsl,by simp,by simp⟩
   ·rw[hy];exact ⟨news,Src.cells hsl hinf hzi hinf2 hinf3 hzsz hnl hncell hn1,hn2,hn3⟩
  ·cases hs
theorem R7 {s:St} {a:Act} (h:RRx Γ β Im s a.tmps w) {d t t' ty:Nat} {x y:Operand} {K:St->Prop} (hl:Qe P d t t' s x y K) :
  Lb Γ a d ((Builtin.append_ #[t,t'] ty #[a.eval x,a.eval y]).run P w) K:=by
 obtain ⟨hd,hl⟩:=hl;split at hl
 ·rename_i e sz hsl;obtain ⟨⟨zs,hz,hzl⟩,es',hsrc,hsz,hl⟩:=hl;obtain ⟨ht,hcs,h0⟩:=Dw hsl;obtain ⟨zv,hzrun,⟨inf,hinf,hzi⟩,hzlen,hzrep,hzsc⟩:=D0 hz;have hinf2:inf.size=sz:=by simpa[Program.cellsOf,hinf] using hcs
  have hzsz:zv.cells.size=sz:=by rw[<- hzl,<- hzlen];simp
  have rx:=A2 h.fit x;split at hl
  ·rename_i d0 n hg;split at hl
   ·rename_i T sz' es hr;obtain ⟨rfl,rfl,hen,⟨b,hb,hbytes⟩,h63,hK⟩:=hl;have hinf3:inf.bytes=b:=by simpa[Bo,hinf] using hb
    have hmem:=Ax hr;rw[hg] at rx;obtain ⟨xs,how,hxl,hx1,hxs,hloc⟩:∃ xs,w.ownsRow 0 T sz' (a.eval x) n xs/\xs.length=n * sz' /\
      (∀ (i:Nat) (q:List PV) (j:Nat) (p:PV),es[i]? = some q->q[j]? = some p->∃ u,xs[i * sz'+j]? = some u/\PRep w Im u p)/\(∀ q∈es,q.length=sz'/\∀ p∈q,p.scalar=true) /\
      (∀ k,(a.eval x).ownBlock=some k->∃ loc,β d0=some loc/\loc.blk=k):=by
     rcases h.fit.regs d0 _ hmem with ⟨hn,rfl⟩ | ⟨loc,cur,hβ,hls,hbk,hcl,hle,hml,hel,hcell⟩
     ·rcases rx with ⟨loc,cap,o,hβ,_⟩ | ⟨_,_,hn0,hv⟩
      ·rw[hβ] at hn;cases hn
      ·subst hn0;rw[hv];exact ⟨[],World.ownsRow_nil _ _ _ _,by simp,by simp,by simp,fun k hk=>by simp[Value.ownBlock] at hk⟩
     ·rcases rx with ⟨loc',cap,o,hβ',hcap,hlc,ho,hv⟩ | ⟨hn,_⟩
      ·rw[hβ] at hβ';cases hβ';simp only[Ebo] at hcap;rw[hv,ho (.inr rfl)];simp only[Edf];subst hcap;refine ⟨cur.take (n * sz'),⟨?_,.inr ⟨loc.blk,loc.tot,⟨cur⟩,rfl,Eau _,hbk,hlc,hml,by simpa using hcl,by simp⟩⟩,?_,fun i q j p hi hj=>?_,hel,fun k hk=>⟨loc,hβ,by simpa[Value.ownBlock] using hk⟩⟩
       ·rw[Eay,hcl];exact Ecx (Ea3 _ hlc)
       ·rw[Eay,hcl];exact Ecx (Ea3 _ hlc)
       ·obtain ⟨u,hu,hp⟩:=hcell i q j p hi hj;have hi1:=(Eab.1 hi).1;have hj1:j<sz':=by rw[<- (hel q (Eag hi)).1];exact (Eab.1 hj).1
        have hlt:i * sz'+j<n * sz':=by
         have:(i+1) * sz'<=n * sz':=Ea3 _ omg;rw[Ebl,Ec0] at this;omega
        exact ⟨u,by rw[Eas,if_pos hlt];exact hu,hp⟩
      ·rw[hβ] at hn;cases hn
    have h63':n+es'.length<=maxLen:=by unfold maxLen;omega
    obtain ⟨news,src,hn2,hn3⟩:=Pg h.fit hsl hinf hzi hinf2 hinf3 hzsz hsrc hsz hz hb;obtain ⟨v',w',hrun,how',hgr⟩:=src.own 0 ty (a.eval x) n xs how (Eau _) h63' hbytes;have hk:Keeps w Im w' Im:=⟨fun _ h=>h,fun b hb'=>hgr.block b (h.fit.im b hb') fun e=>by
     obtain ⟨loc,hβ,rfl⟩:=hloc b e.symm;exact (h.fit.live d0 _ loc hmem hβ).2 hb'⟩
    obtain ⟨x',k1,k2,k3⟩:=Jt7 (β:=β) (d:=d) (e:=T) (sz:=sz') (es:=es) (es':=es') (w':=w') (base:=0) (v:=v') (xs:=xs) (news:=news) (n:=n) (Im':=Im) hen.symm how'
     (fun q hq=>(Eax.1 hq).elim (hxs q) fun hq=>⟨hsz q hq,hn3 q hq⟩) hxl (fun i q j p hi hj=>by obtain ⟨u,hu,hp⟩:=hx1 i q j p hi hj;exact ⟨u,hu,hp.mono hk⟩)
     (fun i q j p hi hj=>by obtain ⟨u,hu,hp⟩:=hn2 i q j p hi hj;exact ⟨u,hu,hp.mono hk⟩)
    have:=h.replace hd hmem (w':=w') (x:=x') hgr.os hgr.tape hgr.output hgr.size (fun k hk' hne=>hgr.block k hk' fun e=>by
      obtain ⟨loc,hβ,hb'⟩:=hloc k e.symm;exact hne loc hβ hb'.symm)
     (fun loc hl=>⟨(k3 loc hl).2,(src.blk ty _ n xs v' w' how h63' hbytes hrun _ (k3 loc hl).1).imp id fun h'=>hloc _ h'⟩) k1
    exact ⟨_,w',_,Im,_,_,hrun,this,k2,hK⟩
   ·rename_i T sz' es hr;obtain ⟨rfl,rfl,htt,hnl,hel0,hgt,ps,hps,⟨b,hb,hbytes⟩,h63,hK⟩:=hl;subst htt;have hinf3:inf.bytes=b:=by simpa[Bo,hinf] using hb
    have hmem:=Ax hr;rw[hg] at rx;have hsrc':Gj s (s.get y)=some es':=by
     unfold Gp at hsrc;split at hsrc
     ·split at hsrc<;>first|(cases hsrc;done) | skip
      rename_i hu _ _ _;rw[ht] at hu;cases hu
     ·rwa[if_pos rfl] at hsrc
    have hPR:∃ v' w' x',(Builtin.append_ #[t,t] ty #[a.eval x,a.eval y]).run P w=.ok v' w'/\Grow w Im w' Im/\(∀ loc,x'=some loc->w.heap.size<=loc.blk/\loc.blk<w'.heap.size) /\
      Ci (Jqu β d x') w' Im d (.row T sz' (ps ++ es'))/\LRep (Jqu β d x') w' Im v' (.own d 0 (n+es'.length)):=by
     rcases h.fit.regs d0 _ hmem with ⟨_,rfl⟩ | ⟨loc,cur,hβ,hls,hbk,hcl,hle,hfu,hml,hel,hcell⟩
     ·simp at hel0
     rcases rx with ⟨loc',cap,o,hβ',hcap,hlc,ho,hv⟩ | ⟨hn,_⟩
     rotate_left
     ·rw[hβ] at hn;cases hn
     rw[hβ] at hβ';cases hβ';have hfu:=hfu rfl;have ho0:o=0:=by rw[ho (.inr rfl)];simp
     subst ho0;obtain ⟨pl,pp⟩:=Dh hps;rw[Eay,Ecx hnl] at pl;have hxl:(cur.take (n * sz')).length=n * sz':=by rw[Eay,hcl];exact Ecx (Ea3 _ omg)
     have how:w.ownsRow 0 T sz' (.slice (some ⟨loc.blk,0,none⟩) n cap) n (cur.take (n * sz')):=⟨hxl,.inr ⟨loc.blk,cap,⟨cur⟩,rfl,Eau _,hbk,hlc,omg,by
      show cur.length=cap * sz';rw[hcl];congr 1;omega,by simp⟩⟩
     have h63':n+es'.length<=maxLen:=by unfold maxLen;omega
     have hE:∀ (i:Nat) (q:List PV),ps[i]? = some q->q.length=sz'/\∀ p∈q,p.scalar=true:=by
      intro i q hq;obtain ⟨e,he,ha⟩:=pp i q hq;have he':es[i]? = some e:=by
       rw[Eas] at he;split at he
       ·exact he
       ·cases he
      obtain ⟨al,ag⟩:=Bh ha;refine ⟨by rw[<- hel e (Eag he')];exact al.symm,fun p hp=>?_⟩;obtain ⟨j,hj,rfl⟩:=Eba hp;obtain ⟨l,hl'⟩:=getElem?_of_length al (Eaa hj);have h1:=ag j l _ hl' (Eaa hj);obtain ⟨v,hv',hrep,hco⟩:=hcell i e j l he' hl';cases l<;>simp[L.pure?] at h1;subst h1;rcases hco with hco | hco
      ·exact hco
      ·cases hco
     have hX:∀ (i:Nat) (q:List PV) (j:Nat) (p:PV),ps[i]? = some q->q[j]? = some p->∃ u,(cur.take (n * sz'))[i * sz'+j]? = some u/\PRep w Im u p:=by
      intro i q j p hi hj;obtain ⟨e,he,ha⟩:=pp i q hi;have he':es[i]? = some e:=by
       rw[Eas] at he;split at he
       ·exact he
       ·cases he
      obtain ⟨al,ag⟩:=Bh ha;obtain ⟨l,hl'⟩:=getElem?_of_length al hj;have h1:=ag j l p hl' hj;obtain ⟨v,hv',hrep,hco⟩:=hcell i e j l he' hl';cases l<;>simp[L.pure?] at h1;subst h1;have hi1:=(Eab.1 hi).1;have hj1:j<sz':=by rw[<- (hE i q hi).1];exact (Eab.1 hj).1
      have hlt:i * sz'+j<n * sz':=by
       have:(i+1) * sz'<=n * sz':=Ea3 _ omg;rw[Ebl,Ec0] at this;omega
      exact ⟨v,by rw[Eas,if_pos hlt];exact hv',hrep⟩
     rcases R5 h.fit h0 (A2 h.fit y) hsrc' hsz with ⟨_,rfl⟩ | ⟨bk,o2,c,news,hy,hnl2,hncell,hn1,hn2,hn3⟩
     ·simp at hgt;omega
     have hrun:=run_append_grow (P:=P) w t ty T inf zv ht hinf hzi ⟨loc.blk,0,none⟩ n cap (cur.take (n * sz')) (by rw[hinf2];exact hxl) (fun j u hu=>by
      rw[Eas] at hu;split at hu
      ·rw[Cd,Ebo,cell_of_row w loc.blk j ⟨cur⟩ T (0,0) hbk];simpa using hu
      ·cases hu) ⟨bk,o2,none⟩ es'.length c news (by rw[hinf2];exact hnl2) (fun j u hu=>by rw[Cd];exact hncell j u hu) omg omg (growslice_fits omg (by rw[hinf3];exact hbytes))
     have src:=Src.cells (P:=P) hsl hinf hzi hinf2 hinf3 hzsz (c:=c) hnl2 hncell hn1;obtain ⟨v',w',hrun2,how',hgr⟩:=src.own 0 ty _ n _ how (Eau _) h63' hbytes;rw[hrun] at hrun2;have g:Grow w Im w' Im:=by
      cases hrun2;exact (Grow.drew h.fit.im).trans (Grow.alloc (w:=w.drew) h.fit.im _)
     obtain ⟨x',k1,k2,k3⟩:=Jt7 (β:=β) (d:=d) (e:=T) (sz:=sz') (es:=ps) (es':=es') (w':=w') (base:=0) (v:=v') (xs:=cur.take (n * sz')) (news:=news) (n:=n) (Im':=Im) pl how'
      (fun q hq=>(Eax.1 hq).elim (fun hq=>by obtain ⟨i,hi,rfl⟩:=Eba hq;exact hE i _ (Eaa hi)) fun hq=>⟨hsz q hq,hn3 q hq⟩) hxl
      (fun i q j p hi hj=>by obtain ⟨u,hu,hp⟩:=hX i q j p hi hj;exact ⟨u,hu,hp.mono (g.keeps h.fit.im)⟩)
      (fun i q j p hi hj=>by obtain ⟨u,hu,hp⟩:=hn2 i q j p hi hj;exact ⟨u,hu,hp.mono (g.keeps h.fit.im)⟩)
     refine ⟨v',w',x',by rw[hv,hy,hrun,hrun2],g,fun loc2 hl2=>?_,k1,k2⟩;obtain ⟨e1,e2⟩:=k3 loc2 hl2;refine ⟨?_,e2⟩;cases hrun2;simp[Value.ownBlock] at e1;omega
    obtain ⟨v',w',x',hrun,g,hx',k1,k2⟩:=hPR;have:=h.newReg hd (r:=.row T sz' (ps ++ es')) (x:=x') g hx' k1;exact ⟨_,w',_,Im,_,_,hrun,this,k2,hK⟩
   ·exact hl.elim
  ·rename_i hg;obtain ⟨⟨b,hb,hbytes⟩,h63,hK⟩:=hl;have hinf3:inf.bytes=b:=by simpa[Bo,hinf] using hb
   rw[hg] at rx;have hvx:a.eval x=.slice none 0 0:=by cases hv:a.eval x<;>rw[hv] at rx<;>cases rx;rfl
   have h63':0+es'.length<=maxLen:=by unfold maxLen;omega
   obtain ⟨news,src,hn2,hn3⟩:=Pg h.fit hsl hinf hzi hinf2 hinf3 hzsz hsrc hsz hz hb;obtain ⟨v',w',hrun,how',hgr⟩:=src.own w.heap.size ty (a.eval x) 0 [] (by rw[hvx];exact World.ownsRow_nil _ _ _ _) (Eah _) h63' (by rw[Ebo];exact hbytes);have g:Grow w Im w' Im:=⟨hgr.os,hgr.tape,hgr.output,hgr.size,fun k hk=>hgr.block k hk (by simp[hvx,Value.ownBlock]),fun _ h=>h,fun _ h=>.inl h,fun b hb'=>Ebe (h.fit.im b hb') hgr.size⟩
   have hlt:=how'.lt;obtain ⟨x',k1,k2,k3⟩:=Jt7 (β:=β) (d:=d) (e:=e) (sz:=sz) (es:=[]) (es':=es') (w':=w') (base:=w.heap.size) (v:=v') (xs:=[]) (news:=news) (n:=0) (Im':=Im) rfl how'
    (fun q hq=>⟨hsz q (by simpa using hq),hn3 q (by simpa using hq)⟩) sm sm
    (fun i q j p hi hj=>by obtain ⟨u,hu,hp⟩:=hn2 i q j p hi hj;exact ⟨u,hu,hp.mono (g.keeps h.fit.im)⟩)
   rw[List.nil_append] at k1;rw[Ebo] at k2;have:=h.newReg hd (r:=.row e sz es') (x:=x') g (fun loc hl=>⟨(hlt _ (k3 loc hl).1).1,(k3 loc hl).2⟩) k1;exact ⟨_,w',_,Im,_,_,hrun,this,k2,hK⟩
  ·exact hl.elim
 ·exact hl.elim
theorem Qu (z:Value) (hz:z.cells.size=1) (k:Nat):(Builtin.zeroCells z.cells k).toList.length=k/\∀ i,i<k->(Builtin.zeroCells z.cells k).toList[i]? = some (z.cells.toList.getD 0 undef):=by
 unfold Builtin.zeroCells;have e:∀ i,z.cells[i % z.cells.size]! = z.cells.toList.getD 0 undef:=by
  intro i;rw[hz,Nat.mod_one];generalize z.cells=c at hz ⊢;obtain ⟨l⟩:=c;rcases l with _ | ⟨u,_ | ⟨v,l⟩⟩
  ·simp at hz
  ·rfl
  ·simp at hz
 refine ⟨by simp[hz],fun i hi=>?_⟩;simp only[Array.toList_map,e];rw[Eam,Array.toList_range,List.getElem?_range (by rw[hz];omega)];rfl
theorem Sz {s:St} {a:Act} (h:RRx Γ β Im s a.tmps w) {d t t' ty:Nat} {x y:Operand} {K:St->Prop} (hl:Kk P d t t' s x y K) :
  Lb Γ a d ((Builtin.append_ #[t,t'] ty #[a.eval x,a.eval y]).run P w) K:=by
 unfold Kk at hl;split at hl
 ·rename_i kq m hgy;obtain ⟨hd,hl⟩:=hl;split at hl
  ·rename_i e sz hsl;obtain ⟨⟨kn,htn⟩,hm,zs,hz,hl⟩:=hl;obtain ⟨ht,hcs,h0⟩:=Dw hsl;obtain ⟨zv,hzrun,⟨inf,hinf,hzi⟩,hzlen,hzrep,hzsc⟩:=D0 hz;have rx:=A2 h.fit x;have ry:=A2 h.fit y;rw[hgy] at ry;have hv2:a.eval y=.int kq m:=by generalize a.eval y=v at ry;cases ry;rfl
   split at hl
   ·rename_i d0 n hg;obtain ⟨rfl,hzl1,hl⟩:=hl;have hinf2:inf.size=1:=by simpa[Program.cellsOf,hinf] using hcs
    split at hl
    ·rename_i T sz' es hr;obtain ⟨rfl,rfl,hnl,hel0,hgt,ps,hps,⟨b,hb,hbytes⟩,h63,hK⟩:=hl;rw[Eb4] at hgt hbytes h63 hK;have hinf3:inf.bytes=b:=by simpa[Bo,hinf] using hb
     have hmem:=Ax hr;rw[hg] at rx;rcases h.fit.regs d0 _ hmem with ⟨_,rfl⟩ | ⟨loc,cur,hβ,hls,hbk,hcl,hle,hfu,hml,hel,hcell⟩
     ·simp at hel0
     rcases rx with ⟨loc',cap,o,hβ',hcap,hlc,ho,hv⟩ | ⟨hn,_⟩
     rotate_left
     ·rw[hβ] at hn;cases hn
     rw[hβ] at hβ';cases hβ';have hfu:=hfu rfl;have ho0:o=0:=by rw[ho (.inr rfl)];simp
     subst ho0;have hzs1:zv.cells.size=1:=by rw[<- hzl1,<- hzlen];simp
     obtain ⟨pl,pp⟩:=Dh hps;rw[Eay,Ecx hnl] at pl;have hxl:(cur.take n).length=n:=by rw[Eay,hcl];omega
     have hE:∀ (i:Nat) (q:List PV),ps[i]? = some q->q.length=1/\∀ p∈q,p.scalar=true:=by
      intro i q hq;obtain ⟨e,he,ha⟩:=pp i q hq;have he':es[i]? = some e:=by
       rw[Eas] at he;split at he
       ·exact he
       ·cases he
      obtain ⟨al,ag⟩:=Bh ha;refine ⟨by rw[<- hel e (Eag he')];exact al.symm,fun p hp=>?_⟩;obtain ⟨j,hj,rfl⟩:=Eba hp;obtain ⟨l,hl'⟩:=getElem?_of_length al (Eaa hj);have h1:=ag j l _ hl' (Eaa hj);obtain ⟨v,hv',hrep,hco⟩:=hcell i e j l he' hl';cases l<;>simp[L.pure?] at h1;subst h1;rcases hco with hco | hco
      ·exact hco
      ·cases hco
     have hX:∀ (i:Nat) (q:List PV) (j:Nat) (p:PV),ps[i]? = some q->q[j]? = some p->∃ u,(cur.take n)[i * 1+j]? = some u/\PRep w Im u p:=by
      intro i q j p hi hj;obtain ⟨e,he,ha⟩:=pp i q hi;have he':es[i]? = some e:=by
       rw[Eas] at he;split at he
       ·exact he
       ·cases he
      obtain ⟨al,ag⟩:=Bh ha;obtain ⟨l,hl'⟩:=getElem?_of_length al hj;have h1:=ag j l p hl' hj;obtain ⟨v,hv',hrep,hco⟩:=hcell i e j l he' hl';cases l<;>simp[L.pure?] at h1;subst h1;have hi1:=(Eab.1 hi).1;have hj1:j<1:=by rw[<- (hE i q hi).1];exact (Eab.1 hj).1
      exact ⟨v,by rw[Eas,if_pos omg];exact hv',hrep⟩
     obtain ⟨k,rfl⟩:∃ k:Nat,m=k:=⟨m.toNat,omg⟩
     simp only[Int.toNat_natCast] at hgt hbytes h63 hK;have h63':n+k<=maxLen:=by unfold maxLen;omega
     have hkb:k * b<=(n+k) * b:=Ea3 _ omg;have hfc:(Builtin.firstCells inf.size n (.slice (some ⟨loc.blk,0,none⟩) n cap)).run P w.drew=.ok (cur.take n).toArray w.drew:=by
      have:=run_firstCells_some (P:=P) w.drew inf.size n ⟨loc.blk,0,none⟩ n cap (cur.take n) (by rw[hinf2,hxl];omega) (fun j u hu=>by
       rw[Eas] at hu;split at hu
       ·rw[Cd,Ebo];show w.cell? _=_;rw[cell_of_row w loc.blk j ⟨cur⟩ T (0,0) hbk];simpa using hu
       ·cases hu)
      simpa using this
     have hrun:=Lib.run_append_grow_zeros (P:=P) w t t' ty T inf zv kq kn ht htn hinf hzi (some ⟨loc.blk,0,none⟩) n cap (cur.take n) hfc k omg omg omg omg (by rw[hinf3];omega) (growslice_fits omg (by rw[hinf3];exact hbytes));obtain ⟨z1,z2⟩:=Qu zv hzs1 k;obtain ⟨z3,_⟩:=Qu zv hzs1 (grownCap w (n+k) cap T - (n+k));have hge:=grownCap_ge w (n+k) cap T;have hcm:grownCap w (n+k) cap T<=maxLen:=grownCap_le_maxLen w (n+k) cap T h63';have g:Grow w Im (w.drew.alloc (.cells ((cur.take n).toArray ++ Builtin.zeroCells zv.cells k ++ Builtin.zeroCells zv.cells (grownCap w (n+k) cap T - (n+k))) T)) Im:=(Grow.drew h.fit.im).trans (Grow.alloc (w:=w.drew) h.fit.im _);obtain ⟨k1,k2⟩:=h.newRow hd (T:=T) (sz:=1) (tot:=grownCap w (n+k) cap T) (cur:=((cur.take n).toArray ++ Builtin.zeroCells zv.cells k ++ Builtin.zeroCells zv.cells (grownCap w (n+k) cap T - (n+k))).toList) (es:=ps ++ List.replicate k zs) g (by show w.heap.size<(w.heap.push _).size;simp) (heap_alloc_new w.drew _)
      (by simp only[Ec8,Eac,z1,z3,hxl];omega) (by simp only[Eac,Eb4];omega) hcm
      (fun q hq=>(Eax.1 hq).elim (fun hq=>by obtain ⟨i,hi,rfl⟩:=Eba hq;exact hE i _ (Eaa hi)) fun hq=>by
       rw[List.eq_of_mem_replicate hq];exact ⟨by rw[<- hzlen];simpa using hzs1,hzsc⟩)
      (fun i q j p hi hj=>by
       by_cases hlt:i<ps.length
       ·rw[Eat hlt] at hi;obtain ⟨u,hu,hp⟩:=hX i q j p hi hj;have hul:=(Eab.1 hu).1;exact ⟨u,by rw[Ec8,Ec8,Ea2,Eat (by simpa using hul)];exact hu,hp⟩
       ·rw[Ear omg] at hi;obtain ⟨hi1,rfl⟩:=Eab.1 hi;simp only[Eb4] at hi1;simp only[List.getElem_replicate] at hj;have hj0:j=0:=by have h1:=(Eab.1 hj).1;rw[<- hzlen] at h1;simp[hzs1] at h1;exact h1
        subst hj0;refine ⟨zv.cells.toList.getD 0 undef,?_,?_⟩
        ·rw[Ec8,Ec8,Ea2,Ear (by simp;omega),Eat (by rw[z1];simp;omega)];exact z2 _ (by simp;omega)
        ·exact hzrep w Im 0 _ p (by rw[Eaj];cases hq:zv.cells.toList[0]? with
          | none=>simp[hzs1] at hq
          | some u=>rfl) hj)
     have hk2:(ps ++ List.replicate k zs).length=n+k:=by simp[<- pl]
     rw[hk2] at k2;exact ⟨_,_,_,Im,_,_,by rw[hv,hv2];exact hrun,k1,k2,hK⟩
    ·exact hl.elim
   ·rename_i hg;obtain ⟨hzl,⟨b,hb,hbytes⟩,h63,hK⟩:=hl;have hinf2:inf.size=sz:=by simpa[Program.cellsOf,hinf] using hcs
    have hinf3:inf.bytes=b:=by simpa[Bo,hinf] using hb
    rw[hg] at rx;have hvx:a.eval x=.slice none 0 0:=by generalize a.eval x=v at rx;cases rx;rfl
    obtain ⟨k,rfl⟩:∃ k:Nat,m=k:=⟨m.toNat,omg⟩
    simp only[Int.toNat_natCast] at hbytes hK;have hrun:=Lib.run_append_nil_zeros (P:=P) w t t' ty e inf zv kq kn ht htn hinf hzi k omg omg omg (by rw[hinf3];omega);have hge:=grownCap_ge w k 0 e;have hcm:grownCap w k 0 e<=maxLen:=grownCap_le_maxLen w k 0 e (by unfold maxLen;omega);have hzs:zv.cells.size=sz:=by rw[<- hzl,<- hzlen];simp
    have zl:∀ j,(Builtin.zeroCells zv.cells j).toList.length=j * sz:=fun j=>by simp[Builtin.zeroCells,hzs]
    have g:Grow w Im (w.drew.alloc (.cells (Builtin.zeroCells zv.cells k ++ Builtin.zeroCells zv.cells (grownCap w k 0 e - k)) e)) Im:=(Grow.drew h.fit.im).trans (Grow.alloc (w:=w.drew) h.fit.im _);obtain ⟨k1,_⟩:=h.newRow hd (T:=e) (sz:=sz) (tot:=grownCap w k 0 e) (cur:=(Builtin.zeroCells zv.cells k ++ Builtin.zeroCells zv.cells (grownCap w k 0 e - k)).toList) (es:=[]) g (by show w.heap.size<(w.heap.push _).size;simp) (heap_alloc_new w.drew _)
     (by rw[Ec8,Eac,zl,zl,<- Ebl];congr 1;omega) (Eau _) hcm (fun q hq=>by cases hq) (fun i q j p hi=>by simp at hi)
    have k2:LRep (Jqu β d (some ⟨w.heap.size,sz,grownCap w k 0 e⟩)) (w.drew.alloc (.cells (Builtin.zeroCells zv.cells k ++ Builtin.zeroCells zv.cells (grownCap w k 0 e - k)) e)) Im (.slice (some ⟨w.heap.size,0,none⟩) k (grownCap w k 0 e)) (.own d 0 k):=.inl ⟨_,grownCap w k 0 e,0,B4,by simp,hge,by simp,rfl⟩;exact ⟨_,_,_,Im,_,_,by rw[hvx,hv2];exact hrun,k1,k2,hK⟩
   ·exact hl.elim
  ·exact hl.elim
 ·exact R7 h hl
end
section
variable {P:Program} {Γ:Base} {β:Env} {w:World} {Im:Nat->Prop}
theorem RRx.newObj {s:St} {tmps:Array Value} (h:RRx Γ β Im s tmps w) {d:Nat} (hd:d<1000) {ob:Obj} {o:PObj} (ho:ORep w Im w.heap.size (some ob) o) :
  RRx Γ (Jqu β d (some ⟨w.heap.size,1,1⟩)) Im (s.newReg d (.obj o)) tmps (w.alloc ob)/\(w.alloc ob).heap[w.heap.size]? = some ob:=by
 have hb:(w.alloc ob).heap[w.heap.size]? = some ob:=Array.getElem?_push_size;have g:=Grow.alloc (w:=w) (Im:=Im) h.fit.im ob;refine ⟨h.newReg hd g (fun loc hl=>by cases hl;exact ⟨Eah _,by show w.heap.size<(w.heap.push ob).size;rw[Array.size_push];exact Nat.lt_succ_self _⟩) ⟨_,B4,?_⟩,hb⟩;rw[hb];exact ho.mono (g.keeps h.fit.im)
def Mk (d:Nat) (s:St) (K:St->Prop):Prop:=d<1000/\K ((s.newReg d (.obj (.mp []))).put (some d) (.mref d))
theorem P9 {s:St} {a:Act} (h:RRx Γ β Im s a.tmps w) {d:Nat} {T:TypeId} {K:St->Prop} (hl:Mk d s K):Lb Γ a d ((Instr.makeMap T none).run P w) K:=by
 obtain ⟨hd,hK⟩:=hl;obtain ⟨h1,h2⟩:=h.newObj hd (ob:=.map #[] 0) (o:=.mp []) ⟨[],0,rfl,rfl,by simp,by simp,fun i e p he=>by simp at he⟩;exact ⟨.map (some w.heap.size),w.alloc (.map #[] 0),_,Im,_,.mref d,by simp[Instr.makeMap],h1,⟨_,B4,rfl⟩,hK⟩
def Wr (P:Program) (d:Nat) (t:TypeId) (s:St) (x:Operand) (K:St->Prop):Prop :=
 d<1000/\match P.underlying t,s.get x with
 | some .string,.p (.str u)=>K ((s.newReg d (.obj (.sit u 0))).put (some d) (.ptr d 0 0))
 | some (.map _ _),.p .nmap=>K ((s.newReg d (.obj (.mit [] []))).put (some d) (.ptr d 0 0))
 | some (.map _ _),.p (.mp es)=>K ((s.newReg d (.obj (.mit es []))).put (some d) (.ptr d 0 0))
 | _,_=>False
theorem Wl {s:St} {a:Act} (h:RRx Γ β Im s a.tmps w) {d:Nat} {t:TypeId} {x:Operand} {K:St->Prop} (hl:Wr P d t s x K):Lb Γ a d ((Instr.range t (a.eval x)).run P w) K:=by
 obtain ⟨hd,hl⟩:=hl;have hr:=A2 h.fit x;split at hl
 ·rename_i u ht hx;rw[hx] at hr;cases hv:a.eval x<;>rw[hv] at hr<;>cases hr;obtain ⟨h1,h2⟩:=h.newObj hd (ob:=.stringIter ⟨⟨u⟩⟩ 0) (o:=.sit u 0) rfl;exact ⟨.pointer (some ⟨w.heap.size,0,none⟩),w.alloc (.stringIter ⟨⟨u⟩⟩ 0),_,Im,_,.ptr d 0 0,by simp[Instr.range,run_underlying ht],h1,⟨_,B4,rfl⟩,hl⟩
 ·rename_i k e ht hx;rw[hx] at hr;cases hv:a.eval x<;>rw[hv] at hr<;>cases hr;obtain ⟨h1,h2⟩:=h.newObj hd (ob:=.mapIter none 0 #[] 0) (o:=.mit [] []) (.inl ⟨rfl,rfl⟩);exact ⟨.pointer (some ⟨w.heap.size,0,none⟩),w.alloc (.mapIter none 0 #[] 0),_,Im,_,.ptr d 0 0,by simp[Instr.range,run_underlying ht],h1,⟨_,B4,rfl⟩,hl⟩
 ·rename_i k e es ht hx;rw[hx] at hr;cases hv:a.eval x<;>rw[hv] at hr<;>cases hr;rename_i r cl ents hIm hw hn hb hlen hk hv2;obtain ⟨h1,h2⟩:=h.newObj hd (ob:=.mapIter (some r) cl #[] cl) (o:=.mit es []) (.inr ⟨r,ents,cl,hIm,hw,⟨hlen,hn,hb,fun i e p he hp=>⟨hk i e p he hp,hv2 i e p he hp⟩⟩,rfl,by simp⟩);exact ⟨.pointer (some ⟨w.heap.size,0,none⟩),w.alloc (.mapIter (some r) cl #[] cl),_,Im,_,.ptr d 0 0,by simp[Instr.range,run_underlying ht,show (getObj r).run P w=.ok (.map ⟨ents⟩ cl) w by simp[getObj,Sem.run,hw]],h1,⟨_,B4,rfl⟩,hl⟩
 ·exact hl.elim
theorem Jcg {r:Nat} {x:ByteArray} {p:Nat} (o:Obj) (hb:w.heap[r]? = some (.stringIter x p)):(setObj r o).run P w=.ok () { w with heap:=w.heap.setIfInBounds r o }:=by
 simp[setObj,Sem.run,hb]
theorem Rk {r:Nat} {x:ByteArray} {p:Nat} (hb:w.heap[r]? = some (.stringIter x p)):(getObj r).run P w=.ok (.stringIter x p) w:=by
 simp[getObj,Sem.run,hb]
theorem Si {r:Nat} {m:Option Nat} {a c:Nat} {q:Array Nat} (hb:w.heap[r]? = some (.mapIter m a q c)):(getObj r).run P w=.ok (.mapIter m a q c) w:=by
 simp[getObj,Sem.run,hb]
theorem RRx.setObj {s:St} {tmps:Array Value} (h:RRx Γ β Im s tmps w) {d:Nat} {r:Reg} {o:PObj} {loc:Loc} (hd:(d,r)∈s.regs) (hl:β d=some loc) (ob:Obj) (ho:ORep w Im loc.blk (some ob) o) :
  RRx Γ β Im { s with regs:=Bs d (.obj o) s.regs } tmps { w with heap:=w.heap.setIfInBounds loc.blk ob }:=by
 have hlive:=h.fit.live d r loc hd hl;have hk:Keeps w Im { w with heap:=w.heap.setIfInBounds loc.blk ob } Im:=⟨fun _ h=>h,fun b hb'=>by
  have:loc.blk≠b:=fun e=>hlive.2 (e ▸ hb')
  simp[Eb8,this]⟩
 refine h.store hd hl rfl rfl rfl sm (fun k hk'=>by simp[Eb8,Ne.symm hk']) ⟨loc,hl,?_⟩;have:({ w with heap:=w.heap.setIfInBounds loc.blk ob }:World).heap[loc.blk]? = some ob:=by simp[Eb8,hlive.1]
 rw[this];exact ho.mono hk
def Wv (s:St) (it:Operand) (isS:Bool) (K:St->L->Prop):Prop :=
 match s.get it with
 | .ptr d 0 0=>match Am d s.regs,isS with
  | some (.obj (.sit u pos)),true=>(pos<u.length->K { s with regs:=Bs d (.obj (.sit u (pos+(Utf8.decode ⟨⟨u⟩⟩ pos).2))) s.regs } (.tup [.bool true,.int .i64 pos,.int .i32 (Utf8.decode ⟨⟨u⟩⟩ pos).1])) /\
    (¬ pos<u.length->K s (.tup [.bool false]))
  | some (.obj (.mit es seen)),false=>(∀ i p,es[i]? = some p->i ∉ seen->K { s with regs:=Bs d (.obj (.mit es (seen ++ [i]))) s.regs } (.tup [.bool true,p.1,p.2])) /\
    ((∀ i,i<es.length->i∈seen)->K s (.tup [.bool false]))
  | _,_=>False
 | _=>False
theorem tup1 {v:Value} {p:PV} (h:PRep w Im v p):LRep β w Im (.tuple #[v]) (.tup [p]):=⟨[v],rfl,rfl,fun i x q hi hq=>by
 cases i with
 | zero=>simp at hi hq;subst hi;subst hq;exact h
 | succ i=>simp at hi⟩
theorem tup3 {v u x:Value} {p q r:PV} (h1:PRep w Im v p) (h2:PRep w Im u q) (h3:PRep w Im x r):LRep β w Im (.tuple #[v,u,x]) (.tup [p,q,r]):=⟨[v,u,x],rfl,rfl,fun i y z hi hz=>by
 match i,hi,hz with
 | 0,hi,hz=>simp at hi hz;subst hi;subst hz;exact h1
 | 1,hi,hz=>simp at hi hz;subst hi;subst hz;exact h2
 | 2,hi,hz=>simp at hi hz;subst hi;subst hz;exact h3
 | i+3,hi,hz=>simp at hi⟩
theorem Zv {s:St} {a:Act} (h:RRx Γ β Im s a.tmps w) {it:Operand} {isS:Bool} {ty:TypeId} {K:St->L->Prop} (hl:Wv s it isS K) :
  ∃ v w' s' l,(Instr.next (a.eval it) isS ty).run P w=.ok v w'/\RRx Γ β Im s' a.tmps w'/\LRep β w' Im v l/\K s' l:=by
 unfold Wv at hl;have hr:=A2 h.fit it;split at hl
 ·rename_i d hg;rw[hg] at hr;obtain ⟨loc,hβ,hv⟩:=hr;have hz:(0:Nat) * loc.sz+0=0:=by simp
  rw[hz] at hv;rw[hv];split at hl
  ·rename_i u pos hf;obtain ⟨loc',hβ',ho⟩:=h.fit.regs d _ (Ax hf);rw[hβ] at hβ';cases hβ';by_cases hp:pos<u.length
   ·have hs:=h.setObj (Ax hf) hβ (.stringIter ⟨⟨u⟩⟩ (pos+(Utf8.decode ⟨⟨u⟩⟩ pos).2)) (o:=.sit u (pos+(Utf8.decode ⟨⟨u⟩⟩ pos).2)) rfl;refine ⟨_,_,_,_,?_,hs,tup3 (.bool true) (.int .i64 pos) (.int .i32 _),hl.1 hp⟩;have hsz:pos<(⟨⟨u⟩⟩:ByteArray).size:=hp;simp only[Instr.next,Sem.run_bind,Rk ho,Result.andThen_ok,if_pos hsz,Jcg _ ho,Sem.run_pure];rfl
   ·refine ⟨_,_,s,_,?_,h,tup1 (.bool false),hl.2 hp⟩;have hsz:¬ pos<(⟨⟨u⟩⟩:ByteArray).size:=hp;simp only[Instr.next,Sem.run_bind,Rk ho,Result.andThen_ok,if_neg hsz,Sem.run_pure]
  ·rename_i es seen hf;obtain ⟨loc',hβ',ho⟩:=h.fit.regs d _ (Ax hf);rw[hβ] at hβ';cases hβ';rcases ho with ⟨rfl,ho⟩ | ⟨m,ents,cl,hm,hmw,hM,ho,hsn⟩
   ·refine ⟨_,_,s,_,?_,h,tup1 (.bool false),hl.2 (fun i hi=>absurd hi (Nat.not_lt_zero i))⟩;simp only[Instr.next,Sem.run_bind,Si ho,Result.andThen_ok,Sem.run_pure]
   ·have hold:∀ x∈(⟨ents⟩:Array MapEntry).toList,x.born<cl:=fun x hx=>hM.2.2.1 x hx
    have hbo:∀ i (e:MapEntry),ents[i]? = some e->Ho ents i=e.born:=fun i e he=>by simp[Ho,List.getD,he]
    rcases run_next_at (P:=P) w ty loc.blk m cl cl ⟨seen.map (Ho ents)⟩ ⟨ents⟩ cl ho hmw hold (Eah _) with ⟨h0,hr⟩ | ⟨e,he,w1,hw1,hr⟩
    ·refine ⟨_,_,s,_,hr,h,tup1 (.bool false),hl.2 (fun i hi=>?_)⟩;have hi':i<ents.length:=hM.1 ▸ hi;have hmem:ents[i]∈ents:=Eb1 hi';have hnl:ents[i] ∉ (leftOf ⟨ents⟩ ⟨seen.map (Ho ents)⟩).toList:=by
      rw[Array.eq_empty_of_size_eq_zero h0];simp
     simp only[leftOf,Array.toList_filter,List.mem_filter,hmem,true_and,Edn,Bool.not_eq_false,Array.contains_eq_mem,List.mem_toArray,decide_eq_true_eq,Eap,decide_eq_false_iff_not,Classical.not_not] at hnl;obtain ⟨j,hj,hje⟩:=hnl;have hjl:j<ents.length:=hM.1 ▸ hsn j hj;rw[hbo j ents[j] (Eaa hjl)] at hje;have:=(List.getElem_inj (i:=j) (j:=i) (h₀:=by simpa using hjl) (h₁:=by simpa using hi') hM.2.1).1 (by simpa using hje);exact this ▸ hj
    ·have hg:RRx Γ β Im s a.tmps w1/\w1.heap=w.heap:=by
      rcases hw1 with rfl | rfl
      ·exact ⟨h,rfl⟩
      ·exact ⟨h.grow (Grow.drew h.fit.im),rfl⟩
     obtain ⟨h1,hheap⟩:=hg;simp only[leftOf,Array.toList_filter,List.mem_filter,Edn,Array.contains_eq_mem,List.mem_toArray,Eap,decide_eq_false_iff_not,List.mem_toArray] at he;obtain ⟨he1,he2⟩:=he;obtain ⟨i,hi,rfl⟩:=List.mem_iff_getElem.1 he1;have hp:es[i]? = some (es[i]'(hM.1 ▸ hi)):=Eaa _;have hns:i ∉ seen:=fun hc=>he2 ⟨i,hc,hbo i _ (Eaa hi)⟩
     have hlive:=h1.fit.live d _ loc (Ax hf) hβ;have hk:Keeps w Im (ChangeMaps.setBlock w1 loc.blk (.mapIter (some m) cl ((⟨seen.map (Ho ents)⟩:Array Nat).push ents[i].born) cl)) Im:=⟨fun _ h=>h,fun b hb'=>by
      have:loc.blk≠b:=fun e=>hlive.2 (e ▸ hb')
      simp[ChangeMaps.setBlock,Eb8,this,hheap]⟩
     have hs:=h1.setObj (Ax hf) hβ (.mapIter (some m) cl ((⟨seen.map (Ho ents)⟩:Array Nat).push ents[i].born) cl) (o:=.mit es (seen ++ [i]))
      (.inr ⟨m,ents,cl,hm,by rw[hheap];exact hmw,hM.mono ⟨fun _ h=>h,fun b _=>by rw[hheap]⟩,by simp[hbo i _ (Eaa hi)],fun j hj=>by
       rcases Eax.1 hj with hj | hj
       ·exact hsn j hj
       ·simp at hj;subst hj;exact hM.1 ▸ hi⟩)
     obtain ⟨hpk,hpv⟩:=hM.2.2.2 i _ _ (Eaa hi) hp;exact ⟨_,_,_,_,hr,hs,tup3 (.bool true) (hpk.mono hk) (hpv.mono hk),hl.1 i _ hp hns⟩
  ·exact hl.elim
 ·exact hl.elim
def mput (k v:PV) (es:List (PV×PV)):Option (List (PV×PV)) :=
 match Cl k es 0 with
 | some (some (i,_))=>some (es.set i (k,v))
 | some none=>some (es ++ [(k,v)])
 | none=>none
def mdel (k:PV) (es:List (PV×PV)):Option (List (PV×PV)) :=
 match Cl k es 0 with
 | some (some (i,_))=>some (es.eraseIdx i)
 | some none=>some es
 | none=>none
def Dq (P:Program) (t:TypeId) (s:St) (m k v:Operand) (K:St->Prop):Prop :=
 match (s.freezeOps [v]).get m with
 | .mref d=>match Am d (s.freezeOps [v]).regs,mapT P t,(s.freezeOps [v]).get k,(s.freezeOps [v]).get v with
  | some (.obj (.mp es)),some (kt,_),.p kp,.p vp=>De P kt kp=true/\∃ es',mput kp vp es=some es'/\K { (s.freezeOps [v]) with regs:=Bs d (.obj (.mp es')) (s.freezeOps [v]).regs }
  | _,_,_,_=>False
 | _=>False
def Kq (P:Program) (t:TypeId) (s:St) (m k:Operand) (K:St->Prop):Prop :=
 match s.get m with
 | .mref d=>match Am d s.regs,mapT P t,s.get k with
  | some (.obj (.mp es)),some (kt,_),.p kp=>De P kt kp=true/\∃ es',mdel kp es=some es'/\K { s with regs:=Bs d (.obj (.mp es')) s.regs }
  | _,_,_=>False
 | _=>False
theorem Q2 {P:Program} {kt:TypeId} {d:TypeDesc} {k:PV} {u:Value} (hd:P.underlying kt=some d) (h:De P kt k=true) (hu:PRep w Im u k):MapKept.IsKey d u:=by
 unfold De at h;rw[hd] at h;unfold kfit at h;simp only at h;split at h
 ·rename_i q q' n;cases hu;simp only[beq_iff_eq] at h;subst h;rfl
 ·cases hu;trivial
 ·cases hu;trivial
 ·cases h
theorem Yg {k:PV}:∀ {es:List (PV×PV)} {i j:Nat} {x:PV},Cl k es i=some (some (j,x))->i<=j
 | [],i,j,x,h=>by simp[Cl] at h
 | (y,v) :: es,i,j,x,h=>by
  simp only[Cl] at h;split at h
  ·cases h;exact Eah _
  ·have:=Yg h;omega
  ·cases h
theorem S5 {k:PV}:∀ {es:List (PV×PV)} {i j:Nat} {x:PV} {q:PV×PV},Cl k es i=some (some (j,x))->es[j - i]? = some q->Lc k q.1=some true
 | [],i,j,x,q,h,_=>by simp[Cl] at h
 | (y,v) :: es,i,j,x,q,h,hq=>by
  simp only[Cl] at h;split at h
  ·rename_i hk;cases h;simp at hq;subst hq;exact hk
  ·have hle:=Yg h;have e:j - i=(j - (i+1))+1:=by omega
   rw[e] at hq;exact S5 h (by simpa using hq)
  ·cases h
theorem Jfj {k x:PV} {u v:Value} (hu:PRep w Im u k) (hv:PRep w Im v x) (h:Lc k x=some true):v=u:=by
 unfold Lc at h;split at h
 ·split at h
  ·rename_i hk;subst hk;cases hu;cases hv;simp at h;rw[h]
  ·cases h
 ·cases hu;cases hv;simp at h;rw[h]
 ·cases hu;cases hv;simp at h;rw[h]
 ·cases h
theorem G5 {kt:TypeId} {d:TypeDesc} (hk:P.underlying kt=some d) (hd:(∃ q,d=.int q)\/d=.string\/d=.bool) {k:PV} {u:Value} (hu:PRep w Im u k) (hf:De P kt k=true) {ents:List MapEntry} {es:List (PV×PV)} {cl:Nat} (hM:MRep w Im ents cl es) {r:Option (Nat×PV)} (hr:Cl k es 0=some r) :
  (r=none/\(Instr.findKey kt u ents).run P w=.ok none w)\/∃ j x v e,r=some (j,x)/\es[j]? = some (v,x)/\ents[j]? = some e/\(Instr.findKey kt u ents).run P w=.ok (some (j,e.val)) w:=by
 have hf':kfit d k=true:=by unfold De at hf;rw[hk] at hf;exact hf
 rcases Hh (w:=w) (Im:=Im) hd hu hf' ents es 0 r hM.1 (fun j e p he hp=>(hM.2.2.2 j e p he hp).1) hr with ⟨h1,h2⟩ | ⟨j,x,kv,e,h1,h2,h3,h4⟩
 ·exact .inl ⟨h1,by simp[Instr.findKey,run_underlying hk,h2]⟩
 ·rw[Ebo] at h1 h4;exact .inr ⟨j,x,kv,e,h1,h2,h3,by simp[Instr.findKey,run_underlying hk,h4]⟩
theorem Hw {s:St} {a:Act} (h:RRx Γ β Im s a.tmps w) {t:TypeId} {m k v:Operand} {K:St->Prop} (hl:Dq P t s m k v K) :
  ∃ w' s' Im',(Instr.mapUpdate t (a.eval m) (a.eval k) (a.eval v)).run P w=.ok () w'/\K s'/\RRx Γ β Im' s' a.tmps w':=by
 unfold Dq at hl;obtain ⟨Im',h'⟩:=RRx.freezeOps (s:=s) [v] h;have rm:=A2 h'.fit m;have rk:=A2 h'.fit k;have rv:=A2 h'.fit v;split at hl<;>first|exact hl.elim | skip
 rename_i d hg;rw[hg] at rm;obtain ⟨loc,hβ,hv⟩:=rm;split at hl<;>first|exact hl.elim | skip
 rename_i es kt et kp vp hr hT hgk hgv;obtain ⟨hfit,es',hput,hK⟩:=hl;rw[hgk] at rk;rw[hgv] at rv;obtain ⟨ht,dd,hk,hd⟩:=Oq hT;have hmem:=Ax hr;obtain ⟨loc',hβ',ents,cl,ho,hM⟩:=h'.fit.regs d _ hmem;rw[hβ] at hβ';cases hβ';have hgo:(getObj loc.blk).run P w=.ok (.map ⟨ents⟩ cl) w:=by simp[getObj,Sem.run,ho]
 have hset:∀ o,(setObj loc.blk o).run P w=.ok () { w with heap:=w.heap.setIfInBounds loc.blk o }:=fun o=>by simp[setObj,Sem.run,ho]
 have hkey:=Q2 (w:=w) (Im:=Im') hk hfit rk;have hstay:(Instr.keyThatStays (a.eval k) (a.eval k)).run P w=.ok (a.eval k) w:=MapKept.run_keyThatStays hkey;unfold mput at hput;split at hput<;>first|(cases hput;done) | skip
 ·rename_i i x0 hfi;cases hput;rcases G5 (P:=P) hk hd rk hfit hM hfi with ⟨h0,_⟩ | ⟨j,x,kv,e,h1,h2,h3,h4⟩
  ·cases h0
  ·cases h1;have hlt:i<ents.length:=(Eab.1 h3).1;have hsame:e.key=a.eval k:=by
    have h5:=(hM.2.2.2 i e _ h3 h2).1;have:=S5 hfi h2;exact Jfj rk h5 this
   have hst:(Instr.keyThatStays e.key (a.eval k)).run P w=.ok (a.eval k) w:=by rw[hsame];exact hstay
   have hM':MRep w Im' (ents.set i { e with key:=a.eval k,val:=a.eval v }) cl (es.set i (kp,vp)):=by
    obtain ⟨m1,m2,m3,m4⟩:=hM;have hb:(ents.set i { e with key:=a.eval k,val:=a.eval v }).map (·.born)=ents.map (·.born):=by
     apply Ech;intro q;simp only[Eam,Ebr];split
     ·rename_i hq;subst hq;have h5:ents[i]=e:=by simpa[Eaa hlt] using h3
      simp[hlt,h5]
     ·rfl
    refine ⟨by simpa using m1,by rw[hb];exact m2,fun e' he'=>?_,fun q e' p he' hp=>?_⟩
    ·rcases Eb3 he' with he' | rfl
     ·exact m3 e' he'
     ·exact m3 e (Eag h3)
    ·rw[Ebr] at he' hp;by_cases hq:i=q
     ·subst hq;simp only[if_true,hlt,(m1 ▸ hlt:i<es.length)] at he' hp;cases he';cases hp;exact ⟨rk,rv⟩
     ·simp only[hq,if_false] at he' hp;exact m4 q e' p he' hp
   refine ⟨_,_,Im',?_,hK,h'.setObj hmem hβ (.map ⟨ents.set i { e with key:=a.eval k,val:=a.eval v }⟩ cl) ⟨_,cl,rfl,hM'⟩⟩;have hmod:(⟨ents⟩:Array MapEntry).modify i (fun x=>{ x with key:=a.eval k,val:=a.eval v })=⟨ents.set i { e with key:=a.eval k,val:=a.eval v }⟩:=by
    rw[<- Ebt];simp only[Array.toList_modify];apply Ech;intro q;simp only[List.getElem?_modify,Ebr];by_cases hq:i=q
    ·subst hq;have h5:ents[i]=e:=by simpa[Eaa hlt] using h3
     simp[hlt,h5]
    ·simp[hq]
   have hgete:((⟨ents⟩:Array MapEntry)[i]?)=some e:=by simpa using h3
   rw[hv];simp only[Instr.mapUpdate,Sem.run_bind,run_underlying ht,Result.andThen_ok,hgo,Bm hk hd,h4,hgete,Option.map_some,Option.getD_some,hst,hmod,hset]
 ·rename_i hfi;cases hput;rcases G5 (P:=P) hk hd rk hfit hM hfi with ⟨_,h4⟩ | ⟨j,x,kv,e,h1,_⟩
  ·have hM':MRep w Im' (ents ++ [{ key:=a.eval k,val:=a.eval v,born:=cl }]) (cl+1) (es ++ [(kp,vp)]):=by
    obtain ⟨m1,m2,m3,m4⟩:=hM;refine ⟨by simp[m1],?_,fun e' he'=>?_,fun q e' p he' hp=>?_⟩
    ·rw[Ebm,Eck];refine ⟨m2,by simp,fun x hx y hy=>?_⟩;simp at hy;subst hy;obtain ⟨e',he',rfl⟩:=Eap.1 hx;exact Nat.ne_of_lt (m3 e' he')
    ·rcases Eax.1 he' with he' | he'
     ·exact Nat.lt_succ_of_lt (m3 e' he')
     ·simp at he';subst he';exact Nat.lt_succ_self _
    ·by_cases hq:q<ents.length
     ·rw[Eat hq] at he';rw[Eat (m1 ▸ hq)] at hp;exact m4 q e' p he' hp
     ·rw[Ear omg] at he';rw[Ear omg] at hp;rw[m1] at he';cases hqq:q - es.length with
      | zero=>rw[hqq] at he' hp;simp at he' hp;subst he';subst hp;exact ⟨rk,rv⟩
      | succ n=>rw[hqq] at he';simp at he'
   refine ⟨_,_,Im',?_,hK,h'.setObj hmem hβ (.map ⟨ents ++ [{ key:=a.eval k,val:=a.eval v,born:=cl }]⟩ (cl+1)) ⟨_,cl+1,rfl,hM'⟩⟩;have hpush:(⟨ents⟩:Array MapEntry).push { key:=a.eval k,val:=a.eval v,born:=cl } = ⟨ents ++ [{ key:=a.eval k,val:=a.eval v,born:=cl }]⟩:=by simp
   rw[hv];simp only[Instr.mapUpdate,Sem.run_bind,run_underlying ht,Result.andThen_ok,hgo,Bm hk hd,h4,hpush,hset]
  ·cases h1
def Jxc (P:Program) (t:TypeId) (s:St) (m k:Operand) (K:St->L->Prop):Prop :=
 match s.get m with
 | .mref d=>match Am d s.regs,mapT P t,s.get k with
  | some (.obj (.mp es)),some (kt,_),.p kp=>De P kt kp=true/\∃ j x,Cl kp es 0=some (some (j,x))/\∀ n:Int,K { s with regs:=Bs d (.obj (.mpe es j n)) s.regs } (.tup [x,.int .i64 n])
  | _,_,_=>False
 | _=>False
def Ju5 (s:St) (m e v:Operand) (K:St->Prop):Prop :=
 match (s.freezeOps [v]).get m with
 | .mref d=>match Am d (s.freezeOps [v]).regs,(s.freezeOps [v]).get e,(s.freezeOps [v]).get v with
  | some (.obj (.mpe es j n)),.p (.int .i64 n'),.p vp=>n'=n/\∃ q,es[j]? = some q/\K { (s.freezeOps [v]) with regs:=Bs d (.obj (.mp (es.set j (q.1,vp)))) (s.freezeOps [v]).regs }
  | _,_,_=>False
 | _=>False
theorem J09 {s:St} {a:Act} (h:RRx Γ β Im s a.tmps w) {t:TypeId} {m k:Operand} {K:St->L->Prop} (hl:Jxc P t s m k K) :
  ∃ v w' s' l,(Instr.mapEntry t (a.eval m) (a.eval k)).run P w=.ok v w'/\RRx Γ β Im s' a.tmps w'/\LRep β w' Im v l/\K s' l:=by
 unfold Jxc at hl;have rm:=A2 h.fit m;have rk:=A2 h.fit k;split at hl<;>first|exact hl.elim | skip
 rename_i d hg;rw[hg] at rm;obtain ⟨loc,hβ,hv⟩:=rm;split at hl<;>first|exact hl.elim | skip
 rename_i es kt et kp hr hT hgk;obtain ⟨hfit,j,x,hfi,hK⟩:=hl;rw[hgk] at rk;obtain ⟨ht,dd,hk,hd⟩:=Oq hT;have hmem:=Ax hr;obtain ⟨loc',hβ',ents,cl,ho,hM⟩:=h.fit.regs d _ hmem;rw[hβ] at hβ';cases hβ';have hgo:(getObj loc.blk).run P w=.ok (.map ⟨ents⟩ cl) w:=by simp[getObj,Sem.run,ho]
 have hset:∀ o,(setObj loc.blk o).run P w=.ok () { w with heap:=w.heap.setIfInBounds loc.blk o }:=fun o=>by simp[setObj,Sem.run,ho]
 have hkey:=Q2 (w:=w) (Im:=Im) hk hfit rk;have hstay:(Instr.keyThatStays (a.eval k) (a.eval k)).run P w=.ok (a.eval k) w:=MapKept.run_keyThatStays hkey;rcases G5 (P:=P) hk hd rk hfit hM hfi with ⟨h0,_⟩ | ⟨j',x',kv,e,h1,h2,h3,h4⟩
 ·cases h0
 ·cases h1;have hlt:j<ents.length:=(Eab.1 h3).1;obtain ⟨h5,h6⟩:=hM.2.2.2 j e _ h3 h2;have hsame:e.key=a.eval k:=Jfj rk h5 (S5 hfi h2);have hst:(Instr.keyThatStays e.key (a.eval k)).run P w=.ok (a.eval k) w:=by rw[hsame];exact hstay
  have hmod:(⟨ents⟩:Array MapEntry).modify j (fun x=>{ x with key:=a.eval k })=⟨ents⟩:=by
   rw[<- Ebt];simp only[Array.toList_modify];apply Ech;intro q;rw[List.getElem?_modify];by_cases hq:j=q
   ·subst hq;rw[h3];simp[<- hsame]
   ·simp[hq]
  have hgete:((⟨ents⟩:Array MapEntry)[j]?)=some e:=by simpa using h3
  have hborn:Ho ents j=e.born:=by simp[Ho,List.getD,h3]
  have hlive:=h.fit.live d _ loc hmem hβ;have hkp:Keeps w Im { w with heap:=w.heap.setIfInBounds loc.blk (.map ⟨ents⟩ cl) } Im:=⟨fun _ h=>h,fun b hb'=>by
   have:loc.blk≠b:=fun e=>hlive.2 (e ▸ hb')
   simp[Eb8,this]⟩
  refine ⟨.tuple #[e.val,goInt e.born],_,_,_,?_,h.setObj hmem hβ (.map ⟨ents⟩ cl) (o:=.mpe es j e.born) ⟨ents,cl,rfl,hM,hlt,by rw[hborn]⟩,tup2 (h6.mono hkp) (.int .i64 e.born),hK e.born⟩;rw[hv];simp only[Instr.mapEntry,Sem.run_bind,run_underlying ht,Result.andThen_ok,hgo,Bm hk hd,h4,hgete,Option.map_some,Option.getD_some,hst,hmod,hset,Sem.run_pure]
theorem Jzh {s:St} {a:Act} (h:RRx Γ β Im s a.tmps w) {t:TypeId} {m e v:Operand} {K:St->Prop} (hl:Ju5 s m e v K) :
  ∃ w' s' Im',(Instr.entryStore t (a.eval m) (a.eval e) (a.eval v)).run P w=.ok () w'/\K s'/\RRx Γ β Im' s' a.tmps w':=by
 unfold Ju5 at hl;obtain ⟨Im',h'⟩:=RRx.freezeOps (s:=s) [v] h;have rm:=A2 h'.fit m;have re:=A2 h'.fit e;have rv:=A2 h'.fit v;split at hl<;>first|exact hl.elim | skip
 rename_i d hg;rw[hg] at rm;obtain ⟨loc,hβ,hv⟩:=rm;split at hl<;>first|exact hl.elim | skip
 rename_i es j n n' vp hr hge hgv;obtain ⟨rfl,q,hq,hK⟩:=hl;rw[hge] at re;rw[hgv] at rv;have hmem:=Ax hr;obtain ⟨loc',hβ',ents,cl,ho,hM,hlt,hborn⟩:=h'.fit.regs d _ hmem;rw[hβ] at hβ';cases hβ';obtain ⟨e0,he0⟩:∃ e0,ents[j]? = some e0:=⟨_,Eaa hlt⟩
 have hb0:Ho ents j=e0.born:=by simp[Ho,List.getD,he0]
 have hgo:(getObj loc.blk).run P w=.ok (.map ⟨ents⟩ cl) w:=by simp[getObj,Sem.run,ho]
 have hset:∀ o,(setObj loc.blk o).run P w=.ok () { w with heap:=w.heap.setIfInBounds loc.blk o }:=fun o=>by simp[setObj,Sem.run,ho]
 have hev:a.eval e=.int .i64 e0.born:=by
  cases hh:a.eval e<;>rw[hh] at re<;>cases re;rw[<- hborn,hb0]
 have hidx:(⟨ents⟩:Array MapEntry).findIdx? (fun x=>((x.born:Nat):Int) == ((e0.born:Nat):Int))=some j:=by
  rw[WideElems.findIdx_arr];exact WideElems.findIdx_born hM.2.1 he0
 have hM':MRep w Im' (ents.set j { e0 with val:=a.eval v }) cl (es.set j (q.1,vp)):=by
  obtain ⟨m1,m2,m3,m4⟩:=hM;have hb:(ents.set j { e0 with val:=a.eval v }).map (·.born)=ents.map (·.born):=by
   apply Ech;intro q;simp only[Eam,Ebr];split
   ·rename_i hq;subst hq;have h5:ents[j]=e0:=by simpa[Eaa hlt] using he0
    simp[hlt,h5]
   ·rfl
  refine ⟨by simpa using m1,by rw[hb];exact m2,fun e' he'=>?_,fun i e' p he' hp=>?_⟩
  ·rcases Eb3 he' with he' | rfl
   ·exact m3 e' he'
   ·exact m3 e0 (Eag he0)
  ·rw[Ebr] at he' hp;by_cases hi:j=i
   ·subst hi;simp only[if_true,hlt,(m1 ▸ hlt:j<es.length)] at he' hp;cases he';cases hp;exact ⟨(m4 j e0 q he0 hq).1,rv⟩
   ·simp only[hi,if_false] at he' hp;exact m4 i e' p he' hp
 refine ⟨_,_,Im',?_,hK,h'.setObj hmem hβ (.map ⟨ents.set j { e0 with val:=a.eval v }⟩ cl) ⟨_,cl,rfl,hM'⟩⟩;have hmod:(⟨ents⟩:Array MapEntry).modify j (fun x=>{ x with val:=a.eval v })=⟨ents.set j { e0 with val:=a.eval v }⟩:=by
  rw[<- Ebt];simp only[Array.toList_modify];apply Ech;intro q;simp only[List.getElem?_modify,Ebr];by_cases hq:j=q
  ·subst hq;have h5:ents[j]=e0:=by simpa[Eaa hlt] using he0
   simp[hlt,h5]
  ·simp[hq]
 rw[hv,hev];simp only[Instr.entryStore,Sem.run_bind,Result.andThen_ok,hgo,asInt,asIntOf,Sem.run_pure,hidx,hmod,hset]
theorem Kkk {s:St} {a:Act} (h:RRx Γ β Im s a.tmps w) {t ty:TypeId} {ts:List TypeId} {m k:Operand} {K:St->Prop} (hl:Kq P t s m k K) :
  ∃ w' s',(Builtin.delete_ ⟨t :: ts⟩ ty #[a.eval m,a.eval k]).run P w=.ok (.tuple #[]) w'/\K s'/\RRx Γ β Im s' a.tmps w':=by
 unfold Kq at hl;have rm:=A2 h.fit m;have rk:=A2 h.fit k;split at hl<;>first|exact hl.elim | skip
 rename_i d hg;rw[hg] at rm;obtain ⟨loc,hβ,hv⟩:=rm;split at hl<;>first|exact hl.elim | skip
 rename_i es kt et kp hr hT hgk;obtain ⟨hfit,es',hput,hK⟩:=hl;rw[hgk] at rk;obtain ⟨ht,dd,hk,hd⟩:=Oq hT;have hmem:=Ax hr;obtain ⟨loc',hβ',ents,cl,ho,hM⟩:=h.fit.regs d _ hmem;rw[hβ] at hβ';cases hβ';have hgo:(getObj loc.blk).run P w=.ok (.map ⟨ents⟩ cl) w:=by simp[getObj,Sem.run,ho]
 have hset:∀ o,(setObj loc.blk o).run P w=.ok () { w with heap:=w.heap.setIfInBounds loc.blk o }:=fun o=>by simp[setObj,Sem.run,ho]
 unfold mdel at hput;split at hput<;>first|(cases hput;done) | skip
 ·rename_i i x0 hfi;cases hput;rcases G5 (P:=P) hk hd rk hfit hM hfi with ⟨h0,_⟩ | ⟨j,x,kv,e,h1,h2,h3,h4⟩
  ·cases h0
  ·cases h1;have hlt:i<ents.length:=(Eab.1 h3).1;have hM':MRep w Im (ents.eraseIdx i) cl (es.eraseIdx i):=by
    obtain ⟨m1,m2,m3,m4⟩:=hM;refine ⟨by simp[Edl,m1],?_,fun e' he'=>m3 e' (List.mem_of_mem_eraseIdx he'),fun q e' p he' hp=>?_⟩
    ·rw[ChangeMaps.map_eraseIdx];exact m2.sublist (List.eraseIdx_sublist _ _)
    ·rw[List.getElem?_eraseIdx] at he' hp;split at he'
     ·rename_i hq;rw[if_pos hq] at hp;exact m4 q e' p he' hp
     ·rename_i hq;rw[if_neg hq] at hp;exact m4 (q+1) e' p he' hp
   refine ⟨_,_,?_,hK,h.setObj hmem hβ (.map ⟨ents.eraseIdx i⟩ cl) ⟨_,cl,rfl,hM'⟩⟩;have her:(⟨ents⟩:Array MapEntry).eraseIdxIfInBounds i=⟨ents.eraseIdx i⟩:=by
    rw[<- Ebt];simp
   rw[hv];simp only[Builtin.delete_,Sem.run_bind,Edg,List.getElem?_cons_zero,run_underlying ht,Result.andThen_ok,hgo,Bm hk hd,h4,her,hset];simp[run_underlying ht,hgo,Bm hk hd,h4,her,hset]
 ·rename_i hfi;cases hput;rcases G5 (P:=P) hk hd rk hfit hM hfi with ⟨_,h4⟩ | ⟨j,x,kv,e,h1,_⟩
  ·refine ⟨_,_,?_,hK,h.setObj hmem hβ (.map ⟨ents⟩ cl) ⟨_,cl,rfl,hM⟩⟩;rw[hv];simp[Builtin.delete_,run_underlying ht,hgo,Bm hk hd,h4,hset]
  ·cases h1
def Ri (s:St) (it:Operand) (K:L->Prop):Prop :=
 match s.get it with
 | .ptr d 0 0=>match Am d s.regs with
  | some (.obj (.mit es seen))=>∃ i,seen.getLast? = some i/\∃ p,es[i]? = some p/\K (.tup [p.1,p.2])
  | _=>False
 | _=>False
theorem Vx {s:St} {a:Act} (hf:Fit β w Im s a.tmps) {it:Operand} {K:L->Prop} (hl:Ri s it K):∃ v l,(Instr.entry (a.eval it)).run P w=.ok v w/\LRep β w Im v l/\K l:=by
 unfold Ri at hl;have hr:=A2 hf it;split at hl<;>first|exact hl.elim | skip
 rename_i d hg;rw[hg] at hr;obtain ⟨loc,hβ,hv⟩:=hr;have hz:(0:Nat) * loc.sz+0=0:=by simp
 rw[hz] at hv;split at hl<;>first|exact hl.elim | skip
 rename_i es seen hfr;obtain ⟨i,hi,p,hp,hK⟩:=hl;obtain ⟨loc',hβ',ho⟩:=hf.regs d _ (Ax hfr);rw[hβ] at hβ';cases hβ';rcases ho with ⟨rfl,ho⟩ | ⟨m,ents,cl,hm,hmw,hM,ho,hsn⟩
 ·simp at hp
 ·obtain ⟨hlt,rfl⟩:=Eab.1 hp;have hlt':i<ents.length:=hM.1 ▸ hlt;have he:ents[i]? = some ents[i]:=Eaa hlt';have hb:Ho ents i=ents[i].born:=by simp[Ho,List.getD,he]
  have hback:((⟨seen.map (Ho ents)⟩:Array Nat).back?)=some ents[i].born:=by
   rw[<- hb,Array.back?_eq_getElem?];rw[List.getLast?_eq_getElem?] at hi;simp[hi]
  have hfind:ents.find? (fun e=>e.born == ents[i].born)=some ents[i]:=by
   rw[List.find?_eq_some_iff_getElem];refine ⟨by simp,i,hlt',rfl,fun j hj=>?_⟩;simp only[Edn,beq_eq_false_iff_ne];intro hc;have:=(List.getElem_inj (i:=j) (j:=i) (h₀:=by simp;omega) (h₁:=by simpa using hlt') hM.2.1).1 (by simpa using hc);omega
  obtain ⟨hpk,hpv⟩:=hM.2.2.2 i _ _ he hp;refine ⟨.tuple #[ents[i].key,ents[i].val],_,?_,tup2 hpk hpv,hK⟩;have hgm:(getObj m).run P w=.ok (.map ⟨ents⟩ cl) w:=by simp[getObj,Sem.run,hmw]
  rw[hv];simp[Instr.entry,Si ho,hback,hgm,hfind]
def Gn (P:Program) (t:TypeId) (s:St) (x y:Operand) (K:St->L->Prop):Prop :=
 match s.get x,s.get y with
 | .ptr d 0 0,.p (.int .i64 n)=>match Am d s.regs with
  | some (.row T 1 es)=>P.underlying t=some (.pointer T)/\P.cellsOf T=1/\∃ bs,Cw es=some bs/\n=bs.length/\bs≠[]/\bs.length<=9223372036854775807 /\
    K (s.forget d) (.p (.str bs))
  | _=>False
 | _,_=>False
theorem Ni {s:St} {a:Act} (h:RRx Γ β Im s a.tmps w) {t it ty:TypeId} {x y:Operand} {K:St->L->Prop} (hl:Gn P t s x y K) :
  ∃ v w' s' l,(Builtin.unsafeString_ #[t,it] ty #[a.eval x,a.eval y]).run P w=.ok v w'/\RRx Γ β Im s' a.tmps w'/\LRep β w' Im v l/\K s' l:=by
 unfold Gn at hl;have rx:=A2 h.fit x;have ry:=A2 h.fit y;split at hl<;>first|exact hl.elim | skip
 rename_i d n hg hg2;rw[hg] at rx;rw[hg2] at ry;obtain ⟨loc,hβ,hv⟩:=rx;have hv2:a.eval y=.int .i64 n:=by generalize a.eval y=v at ry;cases ry;rfl
 split at hl<;>first|exact hl.elim | skip
 rename_i T es hr;obtain ⟨hp,hc,bs,hbs,rfl,hne,h63,hK⟩:=hl;have hmem:=Ax hr;rcases h.fit.regs d _ hmem with ⟨hn,_⟩ | ⟨loc',cur,hβ',hsz,hb,hcl,hle,hml,hel,hcell⟩
 ·rw[hβ] at hn;cases hn
 rw[hβ] at hβ';cases hβ';obtain ⟨b1,b2⟩:=Io hbs;have hz:(0:Nat) * loc.sz+0=0:=by simp
 rw[hz] at hv;have hrun:=Lib.run_unsafeString_row (P:=P) (w:=w) t it ty T hp hc loc.blk cur.length (by simp[World.shape?,hb]) bs hne omg h63 (fun j x hx=>by
  obtain ⟨e,he⟩:=getElem?_of_length b1 hx;obtain ⟨b,hb',hbe⟩:=b2 j e he;rw[hx] at hb';cases hb';subst hbe;obtain ⟨v,hv',hp'⟩:=hcell j _ 0 _ he rfl;cases hp';rw[Cd,Ebo,D7 hb];simpa using hv')
 have hf:(w.freeze ⟨loc.blk,0,none⟩ bs.length).os=w.os/\(w.freeze ⟨loc.blk,0,none⟩ bs.length).tape=w.tape/\(w.freeze ⟨loc.blk,0,none⟩ bs.length).output=w.output/\(w.freeze ⟨loc.blk,0,none⟩ bs.length).heap.size=w.heap.size /\
   ∀ k,k≠loc.blk->(w.freeze ⟨loc.blk,0,none⟩ bs.length).heap[k]? = w.heap[k]?:=by
  unfold World.freeze;split
  ·exact ⟨rfl,rfl,rfl,rfl,fun _ _=>rfl⟩
  ·refine ⟨rfl,rfl,rfl,by simp,fun k hk=>by simp[Array.getElem?_modify,Ne.symm hk]⟩
 refine ⟨_,_,s.forget d,.p (.str bs),by rw[hv,hv2];exact hrun,?_,PRep.str bs,hK⟩;exact h.spoil hmem hf.1 hf.2.1 hf.2.2.1 (Nat.le_of_eq hf.2.2.2.1.symm) fun k _ hne=>hf.2.2.2.2 k (hne loc hβ)
end
end Go.LX
namespace Go.LX
open Go Go.RowKit Go.Proofs
abbrev Regs:=List (Nat×Reg)
structure CallStep (β:Env) (w:World) (Im:Nat->Prop) (rs:Regs) (β':Env) (w':World) (Im':Nat->Prop) (rs':Regs):Prop where
 os:w'.os=w.os
 tape:w'.tape=w.tape
 output:w'.output=w.output
 size:w.heap.size<=w'.heap.size
 block:∀ k,k<w.heap.size->(∀ d r loc,(d,r)∈rs->β d=some loc->loc.blk≠k)->w'.heap[k]? = w.heap[k]?
 imin:∀ b,Im b->Im' b
 imnew:∀ b,Im' b->Im b\/w.heap.size<=b\/∃ d r loc,(d,r)∈rs/\β d=some loc/\loc.blk=b
 env:∀ d,1000<=d->d<500000->β' d=β d
 keys:∀ d r,(d,r)∈rs'->d=900\/∃ r0,(d,r0)∈rs
 regnew:∀ d r loc,(d,r)∈rs'->β' d=some loc->w.heap.size<=loc.blk\/∃ d r loc',(d,r)∈rs/\β d=some loc'/\loc'.blk=loc.blk
 fit:Fit β' w' Im' ⟨[],rs'⟩ #[]
def Al (X:Cx) (f:FuncId) (args:List L) (rs:Regs) (Post:L->Regs->Prop):Prop :=
 Enters X.P f/\∀ (β:Env) (Im:Nat->Prop) (w:World) (vs:List Value),X.G w Im->Fit β w Im ⟨args,rs⟩ ⟨vs⟩ ->
  Calls X.P f ⟨vs⟩ w fun e w'=>∃ v l rs' β' Im',e=.returned v/\Post l rs'/\LRep β' w' Im' v l/\CallStep β w Im rs β' w' Im' rs'
theorem Al.mono {X:Cx} {f:FuncId} {args:List L} {rs:Regs} {Post Post':L->Regs->Prop} (h:Al X f args rs Post) (hp:∀ l rs',Post l rs'->Post' l rs'):Al X f args rs Post' :=
 ⟨h.1,fun β Im w vs hg hf=>(h.2 β Im w vs hg hf).mono fun _ _ ⟨v,l,rs',β',Im',he,hP,hr⟩=>⟨v,l,rs',β',Im',he,hp _ _ hP,hr⟩⟩
abbrev Ren:=List (Nat×Nat)
def upId:Ren->Nat->Option Nat
 | [],_=>none
 | (d,n) :: ρ,e=>if d=e then some n else upId ρ e
def dnId:Ren->Nat->Option Nat
 | [],_=>none
 | (d,n) :: ρ,m=>if n=m then some d else dnId ρ m
def Jyi (o:Option Nat) (i j:Nat):L:=match o with | some n=>.ptr n i j | none=>.junk
def Jxj (o:Option Nat) (off len:Nat):L:=match o with | some n=>.own n off len | none=>.junk
def Jwt (o:Option Nat):L:=match o with | some n=>.mref n | none=>.junk
def J3a (f:FuncId) (o:Option (List Nat)):L:=match o with | some ns=>.fn f ns | none=>.junk
def J54 (f:FuncId) (o:Option (List Nat)):L:=match o with | some ns=>.cfn f ns | none=>.junk
def L.map (f:Nat->Option Nat):L->L
 | .ptr d i j=>Jyi (f d) i j
 | .own d off len=>Jxj (f d) off len
 | .fn g ds=>J3a g (Bg f ds)
 | .cfn g ds=>J54 g (Bg f ds)
 | .mref d=>Jwt (f d)
 | l=>l
def Reg.map (f:Nat->Option Nat):Reg->Reg
 | .var T cs=>.var T (cs.map (L.map f))
 | .row T sz es=>.row T sz es
 | .lrow T sz fu es=>.lrow T sz fu (es.map fun e=>e.map (L.map f))
 | .obj o=>.obj o
theorem LRep.map {β β':Env} {w:World} {Im:Nat->Prop} {f:Nat->Option Nat} (hf:∀ d n,f d=some n->β' n=β d) {v:Value} {l:L} (h:LRep β w Im v l):LRep β' w Im v (l.map f):=by
 have fn:∀ (vs:List Value) (ds ns:List Nat),Bg f ds=some ns->vs.length=ds.length->(∀ (i:Nat) (x:Value) (d:Nat),vs[i]? = some x->ds[i]? = some d->∃ loc,β d=some loc/\x=.pointer (some ⟨loc.blk,0,none⟩)) ->
   vs.length=ns.length/\∀ (i:Nat) (x:Value) (d:Nat),vs[i]? = some x->ns[i]? = some d->∃ loc,β' d=some loc/\x=.pointer (some ⟨loc.blk,0,none⟩):=by
  intro vs ds ns ha hl hx;obtain ⟨h1,h2⟩:=Bh ha;refine ⟨hl.trans h1,fun i x n hi hn=>?_⟩;obtain ⟨d,hd⟩:=getElem?_of_length h1 hn;obtain ⟨loc,h3,h4⟩:=hx i x d hi hd;exact ⟨loc,by rw[hf d n (h2 i d n hd hn)];exact h3,h4⟩
 cases l with
 | ptr d i j =>
  simp only[L.map];cases hd:f d with
  | none=>trivial
  | some n=>simpa only [Jyi,LRep,hf d n hd] using h
 | own d off len =>
  simp only[L.map];cases hd:f d with
  | none=>trivial
  | some n=>simpa only [Jxj,LRep,hf d n hd] using h
 | mref d =>
  simp only[L.map];cases hd:f d with
  | none=>trivial
  | some n=>simpa only [Jwt,LRep,hf d n hd] using h
 | fn g ds =>
  simp only[L.map];cases hd:Bg f ds with
  | none=>trivial
  | some ns =>
   obtain ⟨vs,hv,hl,hx⟩:=h;obtain ⟨h1,h2⟩:=fn vs ds ns hd hl hx;exact ⟨vs,hv,h1,h2⟩
 | cfn g ds =>
  simp only[L.map];cases hd:Bg f ds with
  | none=>trivial
  | some ns =>
   obtain ⟨vs,hv,hl,hx⟩:=h;obtain ⟨h1,h2⟩:=fn vs ds ns hd hl hx;exact ⟨vs,hv,h1,h2⟩
 | p x=>exact h
 | eptr cs=>exact h
 | yld l=>exact h
 | tup xs=>exact h
 | junk=>trivial
theorem J8n (f:Nat->Option Nat) (l:L) (h:l.cellOK=true\/l=.junk):(l.map f).cellOK=true\/l.map f=.junk:=by
 rcases h with h | rfl
 ·cases l with
  | ptr d i j=>simp only[L.map];cases f d<;>first|exact .inl rfl | exact .inr rfl
  | own d i j=>simp only[L.map];cases f d<;>first|exact .inl rfl | exact .inr rfl
  | mref d=>simp only[L.map];cases f d<;>first|exact .inl rfl | exact .inr rfl
  | fn g ds=>simp only[L.map];cases Bg f ds<;>first|exact .inl rfl | exact .inr rfl
  | cfn g ds=>simp only[L.map];cases Bg f ds<;>first|exact .inl rfl | exact .inr rfl
  | _=>exact .inl h
 ·exact .inr rfl
theorem Ci.map {β β':Env} {w:World} {Im:Nat->Prop} {f:Nat->Option Nat} (hf:∀ d n,f d=some n->β' n=β d) {d n:Nat} (hd:β' n=β d) {r:Reg} (h:Ci β w Im d r):Ci β' w Im n (r.map f):=by
 cases r with
 | var T cs =>
  obtain ⟨loc,cur,h1,h2,h3,h4,h5,h6⟩:=h;refine ⟨loc,cur,by rw[hd];exact h1,by simpa using h2,h3,h4,by simpa using h5,fun j v l hv hl=>?_⟩;rw[Eam] at hl;obtain ⟨l',hl2,rfl⟩:=Eal.1 hl;exact ⟨(h6 j v l' hv hl2).1.map hf,J8n f l' (h6 j v l' hv hl2).2⟩
 | row T sz es =>
  rcases h with ⟨h1,h2⟩ | ⟨loc,cur,h1,h2⟩
  ·exact .inl ⟨by rw[hd];exact h1,h2⟩
  ·exact .inr ⟨loc,cur,by rw[hd];exact h1,h2⟩
 | lrow T sz fu es =>
  rcases h with ⟨h1,h2⟩ | ⟨loc,cur,h1,h2,h3,h4,h5,h6,h7,h8,h9⟩
  ·exact .inl ⟨by rw[hd];exact h1,by simp[h2]⟩
  ·refine .inr ⟨loc,cur,by rw[hd];exact h1,h2,h3,h4,by simpa using h5,by simpa using h6,h7,fun x hx=>?_,R4 (fun v l hl=>hl.map hf) (J8n f) h9⟩;obtain ⟨y,hy,rfl⟩:=Eap.1 hx;simpa using h8 y hy
 | obj o =>
  obtain ⟨loc,h1,h2⟩:=h;exact ⟨loc,by rw[hd];exact h1,h2⟩
structure RenOK (ρ:Ren):Prop where
 inj:∀ d d' n,upId ρ d=some n->upId ρ d'=some n->d=d'
 ge:∀ d n,upId ρ d=some n->1000<=n
 fix:∀ d n,upId ρ d=some n->1000<=d->d<500000->n<500000
 back:∀ n d,dnId ρ n=some d ↔ upId ρ d=some n
def Cz (ρ:Ren):Regs->Regs
 | []=>[]
 | (d,r) :: rs=>match upId ρ d with
  | some n=>(n,r.map (upId ρ)) :: Cz ρ rs
  | none=>Cz ρ rs
theorem Dd {ρ:Ren} {n:Nat} {q:Reg}:∀ {rs:Regs},(n,q)∈Cz ρ rs->∃ d r,(d,r)∈rs/\upId ρ d=some n/\q=r.map (upId ρ)
 | [],h=>by cases h
 | (d,r) :: rs,h=>by
  simp only[Cz] at h;split at h
  ·rename_i m hm;rcases Eak.1 h with h | h
   ·cases h;exact ⟨d,r,Eaf,hm,rfl⟩
   ·obtain ⟨d',r',h1,h2,h3⟩:=Dd h;exact ⟨d',r',Eai _ h1,h2,h3⟩
  ·obtain ⟨d',r',h1,h2,h3⟩:=Dd h;exact ⟨d',r',Eai _ h1,h2,h3⟩
theorem I9 {ρ:Ren} (hρ:RenOK ρ):∀ {rs:Regs},(rs.map (·.1)).Nodup->((Cz ρ rs).map (·.1)).Nodup
 | [],_=>.nil
 | (d,r) :: rs,h=>by
  simp only[Eaq,Eb5] at h;simp only[Cz];split
  ·rename_i n hn;simp only[Eaq,Eb5];refine ⟨fun hm=>?_,I9 hρ h.2⟩;obtain ⟨⟨n',q⟩,hq,he⟩:=Eap.1 hm;simp only at he;subst he;obtain ⟨d',r',h1,h2,_⟩:=Dd hq;exact h.1 (Eap.2 ⟨(d',r'),h1,(hρ.inj d' d n' h2 hn)⟩)
  ·exact I9 hρ h.2
def Ky (ρ:Ren) (β:Env):Env:=fun n=>match dnId ρ n with | some d=>β d | none=>none
theorem Kj6 {ρ:Ren} (hρ:RenOK ρ) {β:Env} {d n:Nat} (h:upId ρ d=some n):Ky ρ β n=β d:=by
 simp only[Ky,(hρ.back n d).2 h]
section
variable {β:Env} {w:World} {Im:Nat->Prop}
theorem Fit.call {s:St} {tmps:Array Value} (h:Fit β w Im s tmps) {ρ:Ren} (hρ:RenOK ρ) {args:List L} {vs:List Value} (hl:vs.length=args.length) (ha:∀ (i:Nat) (v:Value) (l:L),vs[i]? = some v->args[i]? = some l->LRep β w Im v l) :
  Fit (Ky ρ β) w Im ⟨args.map (L.map (upId ρ)),Cz ρ s.regs⟩ ⟨vs⟩ where
 size:=by simpa using hl
 tmps i l hl':=by
  simp only[Eam] at hl';obtain ⟨l',hl2,rfl⟩:=Eal.1 hl';obtain ⟨v,hv⟩:=getElem?_of_length hl hl2;have:(⟨vs⟩:Array Value).getD i undef=v:=by simp[Eav,hv]
  rw[this];exact (ha i v l' hv hl2).map fun d n hd=>Kj6 hρ hd
 regs n q hq:=by
  obtain ⟨d,r,h1,h2,rfl⟩:=Dd hq;exact (h.regs d r h1).map (fun d n hd=>Kj6 hρ hd) (Kj6 hρ h2)
 nodup:=I9 hρ h.nodup
 live n q loc hq hl:=by
  obtain ⟨d,r,h1,h2,rfl⟩:=Dd hq;rw[Kj6 hρ h2] at hl;exact h.live d r loc h1 hl
 apart n q n' q' loc loc' hq hq' hne hl hl':=by
  obtain ⟨d,r,h1,h2,rfl⟩:=Dd hq;obtain ⟨d',r',h1',h2',rfl⟩:=Dd hq';rw[Kj6 hρ h2] at hl;rw[Kj6 hρ h2'] at hl';exact h.apart d r d' r' loc loc' h1 h1' (fun e=>hne (by subst e;rw[h2] at h2';exact Ebd h2')) hl hl'
 im:=h.im
def findKey (d:Nat):Regs->Bool
 | []=>false
 | (e,_) :: rest=>if e=d then true else findKey d rest
theorem Jn {d:Nat}:∀ {rs:Regs},findKey d rs=true ↔ ∃ r,(d,r)∈rs
 | []=>by simp[findKey]
 | (e,q) :: rs=>by
  simp only[findKey];split
  ·rename_i h;subst h;simp only[true_iff];exact ⟨q,Eaf⟩
  ·rename_i h;rw[Jn];constructor
   ·rintro ⟨r,hr⟩;exact ⟨r,Eai _ hr⟩
   ·rintro ⟨r,hr⟩;rcases Eak.1 hr with hr | hr
    ·cases hr;exact absurd rfl h
    ·exact ⟨r,hr⟩
def C6 (ρ:Ren) (nw:Option Nat) (n:Nat):Option Nat :=
 match nw with
 | none=>dnId ρ n
 | some d=>if n=900 then some d else match dnId ρ n with
  | some e=>if e=d then none else some e
  | none=>none
def C5 (bad:List Nat) (d:Nat):Option Nat:=if bad.contains d=true then none else some d
def Da (ρ:Ren) (nw:Option Nat):List Nat :=
 match nw with
 | none=>(ρ.filter fun x=>decide (500000<=x.2)).map (·.1)
 | some d=>d :: (ρ.filter fun x=>decide (500000<=x.2)).map (·.1)
def N7 (nw:Option Nat) (e:Nat):Bool :=
 match nw with
 | none=>true
 | some d=>decide (e≠d)
def C1 (ρ:Ren) (nw:Option Nat) (bad:List Nat) (rs':Regs):Regs->Regs
 | []=>[]
 | (e,q) :: rs=>if N7 nw e=true then match upId ρ e with
   | some n=>match Am n rs' with
    | some r=>(e,r.map (C6 ρ nw)) :: C1 ρ nw bad rs' rs
    | none=>C1 ρ nw bad rs' rs
   | none=>(e,q.map (C5 bad)) :: C1 ρ nw bad rs' rs
  else C1 ρ nw bad rs' rs
def Gc (ρ:Ren) (nw:Option Nat) (rs':Regs):Regs :=
 match nw with
 | none=>[]
 | some d=>match Am 900 rs' with
  | some r=>[(d,r.map (C6 ρ nw))]
  | none=>[]
def St.after (ρ:Ren) (nw:Option Nat) (rs':Regs) (s:St):St:=⟨s.tmps.map (L.map (C5 (Da ρ nw))),Gc ρ nw rs' ++ C1 ρ nw (Da ρ nw) rs' s.regs⟩
def C3 (ρ:Ren) (nw:Option Nat) (β β':Env):Env:=fun e =>
 if nw=some e then β' 900 else match upId ρ e with
 | some n=>β' n
 | none=>β e
theorem Dt {ρ:Ren} {nw:Option Nat} {bad:List Nat} {rs':Regs} {e:Nat} {q:Reg}:∀ {rs:Regs},(e,q)∈C1 ρ nw bad rs' rs->nw≠some e /\
  ((∃ n r r0,upId ρ e=some n/\(n,r)∈rs'/\(e,r0)∈rs/\q=r.map (C6 ρ nw))\/(upId ρ e=none/\∃ r0,(e,r0)∈rs/\q=r0.map (C5 bad)))
 | [],h=>by cases h
 | (e',q') :: rs,h=>by
  have lift:(nw≠some e/\((∃ n r r0,upId ρ e=some n/\(n,r)∈rs'/\(e,r0)∈rs/\q=r.map (C6 ρ nw))\/(upId ρ e=none/\∃ r0,(e,r0)∈rs/\q=r0.map (C5 bad)))) ->
    nw≠some e/\((∃ n r r0,upId ρ e=some n/\(n,r)∈rs'/\(e,r0)∈(e',q') :: rs/\q=r.map (C6 ρ nw))\/(upId ρ e=none/\∃ r0,(e,r0)∈(e',q') :: rs/\q=r0.map (C5 bad))):=by
   rintro ⟨h1,h2⟩;refine ⟨h1,h2.imp ?_ ?_⟩
   ·rintro ⟨n,r,r0,a,b,c,d⟩;exact ⟨n,r,r0,a,b,Eai _ c,d⟩
   ·rintro ⟨a,r0,b,c⟩;exact ⟨a,r0,Eai _ b,c⟩
  simp only[C1] at h;split at h
  ·rename_i hk;have hne:nw≠some e':=by
    intro e;subst e;simp[N7] at hk
   split at h
   ·rename_i n hn;split at h
    ·rename_i r hr;rcases Eak.1 h with h | h
     ·cases h;exact ⟨hne,.inl ⟨n,r,q',hn,Ax hr,Eaf,rfl⟩⟩
     ·exact lift (Dt h)
    ·exact lift (Dt h)
   ·rename_i hn;rcases Eak.1 h with h | h
    ·cases h;exact ⟨hne,.inr ⟨hn,q',Eaf,rfl⟩⟩
    ·exact lift (Dt h)
  ·exact lift (Dt h)
theorem E8 {ρ:Ren} {nw:Option Nat} {bad:List Nat} {rs':Regs}:∀ (rs:Regs),((C1 ρ nw bad rs' rs).map (·.1)).Sublist (rs.map (·.1))
 | []=>.slnil
 | (e,q) :: rs=>by
  simp only[C1];split
  ·split
   ·split
    ·exact (E8 rs).cons_cons e
    ·exact (E8 rs).cons e
   ·exact (E8 rs).cons_cons e
  ·exact (E8 rs).cons e
theorem J5 {ρ:Ren} {nw:Option Nat} {rs':Regs} {e:Nat} {q:Reg} (h:(e,q)∈Gc ρ nw rs'):nw=some e/\∃ r,(900,r)∈rs'/\q=r.map (C6 ρ nw):=by
 unfold Gc at h;split at h
 ·cases h
 ·split at h
  ·rename_i d r hr;simp only[Ea0,Ede] at h;obtain ⟨rfl,rfl⟩:=h;exact ⟨rfl,r,Ax hr,rfl⟩
  ·cases h
theorem RRx.called {Γ:Base} {s:St} {tmps:Array Value} (h:RRx Γ β Im s tmps w) {ρ:Ren} (hρ:RenOK ρ) {nw:Option Nat} (hnw:∀ d,nw=some d->d<1000) {β':Env} {w':World} {Im':Nat->Prop} {rs':Regs} (h900:nw=none->findKey 900 rs'=false)
  (c:CallStep (Ky ρ β) w Im (Cz ρ s.regs) β' w' Im' rs'):RRx Γ (C3 ρ nw β β') Im' (s.after ρ nw rs') tmps w':=by
 have hpass:∀ k,(∃ n r loc,(n,r)∈Cz ρ s.regs/\Ky ρ β n=some loc/\loc.blk=k)->∃ d r loc,(d,r)∈s.regs/\(∃ n,upId ρ d=some n)/\β d=some loc/\loc.blk=k:=by
  rintro k ⟨n,q,loc,h1,h2,h3⟩;obtain ⟨d,r,g1,g2,_⟩:=Dd h1;rw[Kj6 hρ g2] at h2;exact ⟨d,r,loc,g1,⟨n,g2⟩,h2,h3⟩
 have hblk:∀ k,k<w.heap.size->(∀ d r loc,(d,r)∈s.regs->(∃ n,upId ρ d=some n)->β d=some loc->loc.blk≠k)->w'.heap[k]? = w.heap[k]?:=by
  intro k hk hne;refine c.block k hk fun n q loc hq hl e=>?_
  obtain ⟨d,r,loc',g1,g2,g3,g4⟩:=hpass k ⟨n,q,loc,hq,hl,e⟩;exact hne d r loc' g1 g2 g3 g4
 have hkeeps:Keeps w Im w' Im':=⟨c.imin,fun b hb=>hblk b (h.fit.im b hb) fun d r loc h1 _ h3 e=>(h.fit.live d r loc h1 h3).2 (e ▸ hb)⟩
 have hstay:∀ d n,C5 (Da ρ nw) d=some n->C3 ρ nw β β' n=β d:=by
  intro d n hd;unfold C5 at hd;split at hd
  ·cases hd
  ·rename_i hb;cases hd;have hnd:nw≠some d:=by
    intro e;subst e;exact hb (by simp[Da])
   unfold C3;rw[if_neg hnd];split
   ·rename_i m hm;have hm5:m<500000:=by
     rcases Eds m 500000 with h' | h'
     ·exact h'
     ·refine absurd ?_ hb;have hmem:∀ {ρ:Ren},upId ρ d=some m->(d,m)∈ρ:=by
       intro ρ
       induction ρ with
       | nil=>intro h;cases h
       | cons x ρ ih =>
        obtain ⟨a,b⟩:=x;intro h;simp only[upId] at h;split at h
        ·rename_i e;subst e;cases h;exact Eaf
        ·exact Eai _ (ih h)
      have:d∈(ρ.filter fun x=>decide (500000<=x.2)).map (·.1):=Eap.2 ⟨(d,m),List.mem_filter.2 ⟨hmem hm,by simpa using h'⟩,rfl⟩;unfold Da;cases nw with
      | none=>simpa using this
      | some x=>simp only[List.contains_cons,Ecf];exact .inr (by simpa using this)
    rw[c.env m (hρ.ge d m hm) hm5,Kj6 hρ hm]
   ·rfl
 have hback:∀ n d,C6 ρ nw n=some d->C3 ρ nw β β' d=β' n:=by
  intro n d hd;unfold C6 at hd;unfold C3;cases nw with
  | none =>
   have:=(hρ.back n d).1 hd;simp[this]
  | some x =>
   simp only at hd;split at hd
   ·rename_i h9;cases hd;subst h9;simp
   ·split at hd
    ·rename_i e he;split at hd
     ·cases hd
     ·rename_i hne;cases hd;have:=(hρ.back n d).1 he;rw[if_neg (by intro hc;exact hne (Ebd hc).symm),this]
    ·cases hd
 have hsrc:∀ n r loc,(n,r)∈rs'->β' n=some loc->w.heap.size<=loc.blk\/∃ d r0 loc',(d,r0)∈s.regs/\(∃ n,upId ρ d=some n)/\β d=some loc'/\loc'.blk=loc.blk:=by
  intro n r loc hr hl;rcases c.regnew n r loc hr hl with g | g
  ·exact .inl g
  ·exact .inr (hpass _ g)
 have hreg:∀ e q,(e,q)∈(s.after ρ nw rs').regs->(∃ n r,(n,r)∈rs'/\C3 ρ nw β β' e=β' n/\q=r.map (C6 ρ nw)/\(n=900/\nw=some e\/upId ρ e=some n/\nw≠some e)) \/
   (upId ρ e=none/\nw≠some e/\C3 ρ nw β β' e=β e/\∃ r0,(e,r0)∈s.regs/\q=r0.map (C5 (Da ρ nw))):=by
  intro e q hq;rcases Eax.1 hq with hq | hq
  ·obtain ⟨rfl,r,h1,rfl⟩:=J5 hq;exact .inl ⟨900,r,h1,by simp[C3],rfl,.inl ⟨rfl,rfl⟩⟩
  ·obtain ⟨hne,hq⟩:=Dt hq;rcases hq with ⟨n,r,r0,h1,h2,h3,rfl⟩ | ⟨h1,r0,h2,rfl⟩
   ·exact .inl ⟨n,r,h2,by simp[C3,hne,h1],rfl,.inr ⟨h1,hne⟩⟩
   ·exact .inr ⟨h1,hne,by simp[C3,hne,h1],r0,h2,rfl⟩
 have h900':∀ r,(900,r)∈rs'->nw≠none:=by
  intro r hr e;have h1:findKey 900 rs'=true:=Jn.2 ⟨r,hr⟩;rw[h900 e] at h1;cases h1
 have fit:Fit (C3 ρ nw β β') w' Im' (s.after ρ nw rs') tmps:=by
  refine { size:=by simpa[St.after] using h.fit.size,tmps:=fun i l hl=>?_,regs:=fun e q hq=>?_,nodup:=?_,live:=fun e q loc hq hl=>?_,apart:=fun e q e' q' l1 l2 hq hq' hne h1 h2=>?_,im:=fun b hb=>c.fit.im b hb }
  ·simp only[St.after,Eam] at hl;obtain ⟨l',hl',rfl⟩:=Eal.1 hl;exact ((h.fit.tmps i l' hl').mono' hkeeps).map hstay
  ·rcases hreg e q hq with ⟨n,r,h1,h2,rfl,_⟩ | ⟨h1,h2,h3,r0,h4,rfl⟩
   ·exact (c.fit.regs n r h1).map (fun a b hab=>hback a b hab) h2
   ·have:=(h.fit.regs e r0 h4).mono (β':=β) hkeeps rfl (fun _ _=>rfl) fun loc hl=>hblk _ (h.fit.live e r0 loc h4 hl).1 fun d r loc' g1 g2 g3=>by
     obtain ⟨n,g2⟩:=g2;refine h.fit.apart d r e r0 loc' loc g1 h4 (fun hc=>?_) g3 hl;subst hc;rw[h1] at g2;cases g2
    exact this.map (fun a b hab=>hstay a b hab) h3
  ·simp only[St.after,Ebm];refine Eck.2 ⟨?_,(E8 _).nodup h.fit.nodup,fun a ha b hb hab=>?_⟩
   ·unfold Gc;split
    ·exact .nil
    ·split<;>simp
   ·subst hab;obtain ⟨⟨e,q⟩,hq,rfl⟩:=Eap.1 ha;obtain ⟨⟨e',q'⟩,hq',he⟩:=Eap.1 hb;simp only at he;subst he;exact (Dt hq').1 (J5 hq).1
  ·rcases hreg e q hq with ⟨n,r,h1,h2,rfl,_⟩ | ⟨h1,h2,h3,r0,h4,rfl⟩
   ·rw[h2] at hl;exact c.fit.live n r loc h1 hl
   ·rw[h3] at hl;obtain ⟨g1,g2⟩:=h.fit.live e r0 loc h4 hl;refine ⟨Ebe g1 c.size,fun hi=>?_⟩;rcases c.imnew _ hi with g | g | g
    ·exact g2 g
    ·omega
    ·obtain ⟨d,r,loc',k1,⟨n,k2⟩,k3,k4⟩:=hpass _ g;exact h.fit.apart d r e r0 loc' loc k1 h4 (fun hc=>by subst hc;rw[h1] at k2;cases k2) k3 hl k4
  ·
   have new_old:∀ n r e r0 l1 l2,(n,r)∈rs'->β' n=some l1->(e,r0)∈s.regs->upId ρ e=none->β e=some l2->l1.blk≠l2.blk:=by
    intro n r e r0 l1 l2 g1 g2 g3 g4 g5;rcases hsrc n r l1 g1 g2 with g | ⟨d,r1,loc',k1,⟨m,k2⟩,k3,k4⟩
    ·have:=(h.fit.live e r0 l2 g3 g5).1;omega
    ·rw[<- k4];exact h.fit.apart d r1 e r0 loc' l2 k1 g3 (fun hc=>by subst hc;rw[g4] at k2;cases k2) k3 g5
   rcases hreg e q hq with ⟨n,r,g1,g2,rfl,g4⟩ | ⟨g1,g2,g3,r0,g4,rfl⟩<;>rcases hreg e' q' hq' with ⟨n',r',k1,k2,rfl,k4⟩ | ⟨k1,k2,k3,r0',k4,rfl⟩
   ·rw[g2] at h1;rw[k2] at h2;refine c.fit.apart n r n' r' l1 l2 g1 k1 (fun hc=>?_) h1 h2;subst hc;rcases g4 with ⟨g5,g6⟩ | ⟨g5,g6⟩<;>rcases k4 with ⟨k5,k6⟩ | ⟨k5,k6⟩
    ·rw[g6] at k6;exact hne (Ebd k6)
    ·have:=hρ.ge e' n k5;omega
    ·have:=hρ.ge e n g5;omega
    ·exact hne (hρ.inj e e' n g5 k5)
   ·rw[g2] at h1;rw[k3] at h2;exact new_old n r e' r0' l1 l2 g1 h1 k4 k1 h2
   ·rw[g3] at h1;rw[k2] at h2;exact Ne.symm (new_old n' r' e r0 l2 l1 k1 h2 g4 g1 h1)
   ·rw[g3] at h1;rw[k3] at h2;exact h.fit.apart e r0 e' r0' l1 l2 g4 k4 hne h1 h2
 refine { fit:=fit,os:=c.os.trans h.os,tape:=c.tape.trans h.tape,output:=c.output.trans h.output,size:=Nat.le_trans h.size c.size,block:=fun k hk hm=>?_,imin:=fun b hb=>c.imin b (h.imin b hb),imnew:=fun b hb=>?_,regnew:=fun e q loc hq hl=>?_,fixed:=fun d hd hd'=>?_,glob:=Γ.mono hkeeps h.glob,mnod:=h.mnod,marks:=fun D hD=>?_ }
 ·rw[hblk k (Ebe hk h.size) fun d r loc h1 _ h3 e=>?_]
  ·exact h.block k hk hm
  ·rcases h.regnew d r loc h1 h3 with g | g
   ·omega
   ·exact hm (e ▸ g)
 ·rcases c.imnew b hb with g | g | g
  ·exact h.imnew b g
  ·exact .inr (.inl (Nat.le_trans h.size g))
  ·obtain ⟨d,r,loc,k1,_,k3,k4⟩:=hpass _ g;rcases h.regnew d r loc k1 k3 with g | g
   ·exact .inr (.inl (k4 ▸ g))
   ·exact .inr (.inr (k4 ▸ g))
 ·rcases hreg e q hq with ⟨n,r,g1,g2,rfl,g4⟩ | ⟨g1,g2,g3,r0,g4,rfl⟩
  ·rw[g2] at hl;rcases hsrc n r loc g1 hl with g | ⟨d,r1,loc',k1,_,k3,k4⟩
   ·exact .inl (Nat.le_trans h.size g)
   ·rw[<- k4];exact h.regnew d r1 loc' k1 k3
  ·rw[g3] at hl;exact h.regnew e r0 loc g4 hl
 ·rw[<- h.fixed d hd hd'];unfold C3;rw[if_neg (fun hc=>by have:=hnw d hc;omega)];split
  ·rename_i n hn;rw[c.env n (hρ.ge d n hn) (hρ.fix d n hn hd hd'),Kj6 hρ hn]
  ·rfl
 ·obtain ⟨m1,m2,m3,m4⟩:=h.marks D hD;have hlt:=(Ea7.1 m1).1;refine ⟨(hblk D hlt fun d r loc h1 _ h3 e=>m4 d r loc h1 h3 e).trans m1,fun hi=>?_,m3,fun e q loc hq hl=>?_⟩
  ·rcases c.imnew D hi with g | g | g
   ·exact m2 g
   ·omega
   ·obtain ⟨d,r,loc,k1,_,k3,k4⟩:=hpass _ g;exact m4 d r loc k1 k3 k4
  ·rcases hreg e q hq with ⟨n,r,g1,g2,rfl,g4⟩ | ⟨g1,g2,g3,r0,g4,rfl⟩
   ·rw[g2] at hl;rcases hsrc n r loc g1 hl with g | ⟨d,r1,loc',k1,_,k3,k4⟩
    ·omega
    ·rw[<- k4];exact m4 d r1 loc' k1 k3
   ·rw[g3] at hl;exact m4 e r0 loc g4 hl
def L.ids:L->List Nat
 | .ptr d _ _=>[d]
 | .own d _ _=>[d]
 | .fn _ ds=>ds
 | .cfn _ ds=>ds
 | .mref d=>[d]
 | _=>[]
def Reg.ids:Reg->List Nat
 | .var _ cs=>cs.flatMap L.ids
 | .row ..=>[]
 | .lrow _ _ _ es=>es.flatMap fun e=>e.flatMap L.ids
 | .obj _=>[]
def Dj (old:List Nat):List Nat->List Nat
 | []=>[]
 | d :: ds=>if old.contains d=true then Dj old ds else d :: Dj (d :: old) ds
def F3 (ids:List Nat):Regs->List Nat
 | []=>[]
 | (d,r) :: rest=>if ids.contains d=true then r.ids ++ F3 ids rest else F3 ids rest
def Gw (k:Nat):List Nat->Ren
 | []=>[]
 | d :: ds=>if k<400000 then (d,1000+k) :: Gw (k+1) ds else []
def Ff (k:Nat):List Nat->Ren
 | []=>[]
 | d :: ds=>if k<400000 then (d,if 1000<=d/\d<500000 then 1000+k else 500000+k) :: Ff (k+1) ds else []
def P0 (D I:List Nat):Ren:=Gw 0 D ++ Ff D.length I
def Nr (D:List Nat) (rs:Regs):List Nat:=Dj D (F3 D rs)
def Ve (D I:List Nat) (rs:Regs):List Nat:=I ++ Dj (D ++ I) (F3 I rs)
def Ra (D:List Nat) (rs:Regs):Ren:=match D with
 | []=>[]
 | _=>P0 D (Ve D (Nr D rs) rs)
def O3 (k:Nat):Ren->Prop
 | []=>True
 | (d,n) :: ρ=>(n=1000+k/\k<400000\/(n=500000+k/\¬ (1000<=d/\d<500000)/\k<400000))/\O3 (k+1) ρ
theorem Jc2:∀ (ds:List Nat) (k:Nat),O3 k (Ff k ds)
 | [],_=>trivial
 | d :: ds,k=>by
  simp only[Ff];split
  ·rename_i hk;refine ⟨?_,Jc2 ds (k+1)⟩;split
   ·exact .inl ⟨rfl,hk⟩
   ·rename_i h;exact .inr ⟨rfl,h,hk⟩
  ·trivial
theorem Jdd:∀ (ds es:List Nat) (k:Nat),O3 k (Gw k ds ++ Ff (k+ds.length) es)
 | [],es,k=>by simpa[Gw] using Jc2 es k
 | d :: ds,es,k=>by
  simp only[Gw];split
  ·rename_i hk;have:=Jdd ds es (k+1);rw[Eb2,Ecw 1] at this;exact ⟨.inl ⟨rfl,hk⟩,this⟩
  ·rename_i hk;have:Ff (k+(d :: ds).length) es=[]:=by
    cases es with
    | nil=>rfl
    | cons=>simp only[Ff];rw[if_neg (by simp;omega)]
   rw[this];trivial
theorem Ka:∀ {ρ:Ren} {k:Nat},O3 k ρ->∀ d n,upId ρ d=some n->1000<=n/\(n<500000->1000+k<=n)/\(500000<=n->500000+k<=n)/\(1000<=d->d<500000->n<500000)
 | [],_,_,d,n,h=>by cases h
 | (e,m) :: ρ,k,hk,d,n,h=>by
  simp only[upId] at h;split at h
  ·rename_i he;subst he;cases h;rcases hk.1 with ⟨h1,h2⟩ | ⟨h1,h2,h3⟩
   ·exact ⟨omg,omg,omg,omg⟩
   ·exact ⟨omg,omg,omg,fun a b=>absurd ⟨a,b⟩ h2⟩
  ·obtain ⟨h1,h2,h3,h4⟩:=Ka hk.2 d n h;exact ⟨h1,omg,omg,h4⟩
theorem O9:∀ {ρ:Ren} {k:Nat},O3 (k+1) ρ->k<400000->∀ d,upId ρ d≠some (1000+k)/\upId ρ d≠some (500000+k):=by
 intro ρ k h hk d;constructor
 ·intro hc;obtain ⟨_,h2,_⟩:=Ka h d _ hc;have:=h2 omg;omega
 ·intro hc;obtain ⟨_,_,h3,_⟩:=Ka h d _ hc;have:=h3 omg;omega
theorem Jc7:∀ {ρ:Ren} {k:Nat},O3 k ρ->(ρ.map (·.1)).Nodup->∀ n d,dnId ρ n=some d ↔ upId ρ d=some n
 | [],_,_,_,n,d=>by simp[dnId,upId]
 | (e,m) :: ρ,k,hk,hn,n,d=>by
  simp only[Eaq,Eb5] at hn;simp only[dnId,upId];have hin:∀ {ρ:Ren} {a b},upId ρ a=some b->a∈ρ.map (·.1):=by
   intro ρ
   induction ρ with
   | nil=>intro a b h;cases h
   | cons x ρ ih =>
    intro a b h;simp only[upId] at h;split at h
    ·rename_i he;subst he;exact Eaf
    ·exact Eai _ (ih h)
  have hm:∀ d,upId ρ d≠some m:=by
   intro d;rcases hk.1 with ⟨h1,h2⟩ | ⟨h1,_,h2⟩
   ·rw[h1];exact (O9 hk.2 h2 d).1
   ·rw[h1];exact (O9 hk.2 h2 d).2
  split
  ·rename_i h;subst h;constructor
   ·intro h;cases h;simp
   ·intro h;split at h
    ·rename_i he;rw[he]
    ·exact absurd h (hm d)
  ·rename_i h;rw[Jc7 hk.2 hn.2 n d];split
   ·rename_i he;subst he;constructor
    ·intro h';exact absurd (hin h') hn.1
    ·intro h';cases h';exact absurd rfl h
   ·exact Iff.rfl
theorem Tc {ρ:Ren} {k:Nat} (h:O3 k ρ) (hn:(ρ.map (·.1)).Nodup):RenOK ρ where
 inj d d' n h1 h2:=by
  have e1:=(Jc7 h hn n d).2 h1;have e2:=(Jc7 h hn n d').2 h2;rw[e1] at e2;exact Ebd e2
 ge d n hd:=(Ka h d n hd).1
 fix d n hd h1 h2:=(Ka h d n hd).2.2.2 h1 h2
 back:=Jc7 h hn
theorem G4:∀ (ds old:List Nat),(Dj old ds).Nodup/\∀ d∈Dj old ds,d ∉ old
 | [],_=>⟨.nil,fun d h=>by cases h⟩
 | d :: ds,old=>by
  simp only[Dj];split
  ·exact G4 ds old
  ·rename_i hd;obtain ⟨h1,h2⟩:=G4 ds (d :: old);refine ⟨Eb5.2 ⟨fun h=>h2 d h Eaf,h1⟩,fun e he=>?_⟩;rcases Eak.1 he with rfl | he
   ·simpa using hd
   ·exact fun h=>h2 e he (Eai _ h)
theorem Pn:∀ (ds:List Nat) (k:Nat),((Gw k ds).map (·.1)).Sublist ds
 | [],_=>.slnil
 | d :: ds,k=>by
  simp only[Gw];split
  ·exact (Pn ds (k+1)).cons_cons d
  ·exact List.nil_sublist _
theorem Pd:∀ (ds:List Nat) (k:Nat),((Ff k ds).map (·.1)).Sublist ds
 | [],_=>.slnil
 | d :: ds,k=>by
  simp only[Ff];split
  ·exact (Pd ds (k+1)).cons_cons d
  ·exact List.nil_sublist _
theorem Jki (ids:List Nat) (rs:Regs):RenOK (Ra (Dj [] ids) rs):=by
 have nil:RenOK [] :=
  {
   inj:=fun d d' n h=>nomatch h
   ge:=fun d n h=>nomatch h
   fix:=fun d n h=>nomatch h
   back:=fun n d=>by simp[dnId,upId] }
 unfold Ra;split
 ·exact nil
 ·refine Tc (k:=0) ?_ ?_
  ·have:=Jdd (Dj [] ids) (Ve (Dj [] ids) (Nr (Dj [] ids) rs) rs) 0
   rwa[Ebo] at this
  ·unfold P0;rw[Ebm];refine List.Nodup.sublist ((Pn _ _).append (Pd _ _)) ?_;obtain ⟨a1,a2⟩:=G4 ids [];obtain ⟨b1,b2⟩:=G4 (F3 (Dj [] ids) rs) (Dj [] ids);obtain ⟨c1,c2⟩:=G4 (F3 (Nr (Dj [] ids) rs) rs) (Dj [] ids ++ Nr (Dj [] ids) rs);refine Eck.2 ⟨a1,Eck.2 ⟨b1,c1,fun x hx y hy e=>?_⟩,fun x hx y hy e=>?_⟩
   ·subst e;exact c2 x hy (Ecb _ hx)
   ·subst e;rcases Eax.1 hy with hy | hy
    ·exact b2 x hy hx
    ·exact c2 x hy (Eb9 _ hx)
end
section
variable {P:Program} {Γ:Base} {β:Env} {w:World} {Im:Nat->Prop}
def srcM (s:St) (m:Nat):L->Option (List (List PV))
 | .own d off len=>match Am d s.regs with
  | some (.lrow _ _ _ es)=>if off+len<=es.length then Cb ((es.drop off).take (min len m)) else none
  | _=>(Gj s (.own d off len)).map (List.take m)
 | x=>(Gj s x).map (List.take m)
theorem Jfs {s:St} {m:Nat} {tmps:Array Value} (hf:Fit β w Im s tmps) {v:Value} {x:L} {es:List (List PV)} (hx:LRep β w Im v x) (hs:srcM s m x=some es) (hsz:∀ e∈es,e.length=1)
  (hsz0:∀ es0,Gj s x=some es0->∀ e∈es0,e.length=1) :
  ∃
   (ad:Option Addr) (sl c:Nat),v=.slice ad sl c/\es.length=min sl m/\(es=[]\/∃ (b o:Nat) (news:List Value),ad=some ⟨b,o,none⟩/\news.length=es.length/\(∀ (j:Nat) (u:Value),news[j]? = some u->w.cell? ⟨b,o+j,none⟩=some u)/\(∀ u∈news,u.oneCell'=true) /\
   (∀ (i:Nat) (e:List PV) (p:PV),es[i]? = some e->e[0]? = some p->∃ u,news[i]? = some u/\PRep w Im u p)/\∀ e∈es,∀ p∈e,p.scalar=true):=by
 have old:(Gj s x).map (List.take m)=some es->∃ (ad:Option Addr) (sl c:Nat),v=.slice ad sl c/\es.length=min sl m/\(es=[]\/∃ (b o:Nat) (news:List Value),ad=some ⟨b,o,none⟩/\news.length=es.length/\(∀ (j:Nat) (u:Value),news[j]? = some u->w.cell? ⟨b,o+j,none⟩=some u)/\(∀ u∈news,u.oneCell'=true) /\
   (∀ (i:Nat) (e:List PV) (p:PV),es[i]? = some e->e[0]? = some p->∃ u,news[i]? = some u/\PRep w Im u p)/\∀ e∈es,∀ p∈e,p.scalar=true):=fun h=>by
  obtain ⟨es0,h0,rfl⟩:=Eal.1 h;rcases R5 hf (by decide:(1:Nat)≠0) hx h0 (hsz0 es0 h0) with ⟨⟨oa,h1⟩,rfl⟩ | ⟨b,o,c,news,h1,h2,h3,h4,h5,h6⟩
  ·exact ⟨oa,0,0,h1,by simp,.inl sm⟩
  ·refine ⟨_,es0.length,c,h1,by rw[Eay,Nat.min_comm],.inr ⟨b,o,news.take m,rfl,by rw[Eay,Eay,h2,Ect],fun j u hu=>?_,fun u hu=>h4 u (Ebq hu),fun i e p hi hj=>?_,fun e he=>h6 e (Ebq he)⟩⟩
   ·rw[Eas] at hu;split at hu
    ·exact h3 j u hu
    ·cases hu
   ·rw[Eas] at hi ⊢;split at hi
    ·rename_i hlt;obtain ⟨u,hu,hp⟩:=h5 i e 0 p hi hj;exact ⟨u,by rw[if_pos hlt];simpa using hu,hp⟩
    ·cases hi
 unfold srcM at hs;split at hs
 ·rename_i d off len;split at hs
  ·rename_i T sz full es0 hr;split at hs
   ·rename_i hle;obtain ⟨pl,pp⟩:=Dh hs;have hlen:es.length=min len m:=by rw[<- pl,Eay,Ea5];omega
    rcases hx with ⟨loc,cap,ad,hβ,hcap,hl,hao,rfl⟩ | ⟨hβ,rfl,rfl,rfl⟩
    ·rcases hf.regs d _ (Ax hr) with ⟨hn,_⟩ | ⟨loc',cur,hβ',hsz',hb,hcl,hle',hfu,hml,hel,hcell⟩
     ·rw[hβ] at hn;cases hn
     ·rw[hβ] at hβ';cases hβ';refine ⟨_,len,cap,rfl,hlen,?_⟩;by_cases h0:min len m=0
      ·exact .inl (Ean omg)
      have key:∀ (i:Nat) (e:List PV),es[i]? = some e->∃ p u,e=[p]/\cur[off+i]? = some u/\PRep w Im u p/\p.scalar=true/\loc.sz=1:=by
       intro i e hi;obtain ⟨e0,he0,ha⟩:=pp i e hi;have he1:es0[off+i]? = some e0:=by
        rw[Eas] at he0;split at he0
        ·simpa using he0
        ·cases he0
       obtain ⟨al,ag⟩:=Bh ha;have e1:=hsz e (Eag hi);have e2:=hel e0 (Eag he1)
       match e,e1,al,ag with
       | [p],_,al,ag =>
        obtain ⟨l,hl'⟩:=getElem?_of_length (i:=0) (b:=p) al sm;have h1:=ag 0 l p hl' rfl;obtain ⟨u,hu,hrep,hco⟩:=hcell (off+i) e0 0 l he1 hl';have s1:sz=1:=by rw[<- e2,al];rfl
        cases l<;>simp[L.pure?] at h1;subst h1;refine ⟨_,u,rfl,by simpa[s1] using hu,hrep,?_,hsz'.trans s1⟩;rcases hco with hco | hco
        ·exact hco
        ·cases hco
      have hs1:loc.sz=1:=by
       obtain ⟨e,he⟩:∃ e,es[0]? = some e:=⟨_,Eaa omg⟩
       obtain ⟨_,_,_,_,_,_,h⟩:=key 0 e he;exact h
      right;refine ⟨loc.blk,ad,(cur.drop off).take (min len m),rfl,?_,fun j u hu=>?_,fun u hu=>?_,fun i e p hi hj=>?_,fun e he p hp=>?_⟩
      ·rw[Eay,Ea5,hcl,hlen];have:=hsz'.symm.trans hs1;rw[this];omega
      ·rw[Eas] at hu;split at hu
       ·rw[D7 hb,hao (.inl omg),hs1,Ect];simpa using hu
       ·cases hu
      ·obtain ⟨j,hj,rfl⟩:=Eba hu;have hjl:j<es.length:=by simp at hj;omega
       obtain ⟨p,u,_,h2,h3,h4,_⟩:=key j _ (Eaa hjl);have:((cur.drop off).take (min len m))[j]=u:=by
        have:=(Eab.1 h2).2;simpa using this
       rw[this];exact h3.one h4
      ·obtain ⟨p',u,rfl,h2,h3,_,_⟩:=key i e hi;simp at hj;subst hj;have hi1:=(Eab.1 hi).1;exact ⟨u,by rw[Eas,if_pos omg];simpa using h2,h3⟩
      ·obtain ⟨i,hi,rfl⟩:=Eba he;obtain ⟨p',u,h1,_,_,h4,_⟩:=key i _ (Eaa hi);rw[h1] at hp;simp at hp;subst hp;exact h4
    ·exact ⟨none,0,0,rfl,hlen,.inl (Ean (by rw[hlen];simp))⟩
   ·cases hs
  ·exact old hs
 ·exact old hs
def N6 (s:St) (x:L):Prop:=match Gj s x with
 | some es=>∀ e∈es,e.length=1
 | none=>True
def Tv (P:Program) (t t':TypeId) (s:St) (x y:Operand) (K:St->L->Prop):Prop :=
 match slE P t with
 | some (_,sz)=>sz=1/\t=t'/\match s.get x with
  | .own d off len=>∃ es',srcM s len (s.get y)=some es'/\(∀ q∈es',q.length=1)/\N6 s (s.get y)/\if es'.length=0 then K s (.p (.int .i64 0)) else match Am d s.regs with
   | some (.row T sz' es)=>sz'=1/\off+es'.length<=es.length /\
     K { s with regs:=Bs d (.row T 1 (es.take off ++ es' ++ es.drop (off+es'.length))) s.regs } (.p (.int .i64 (es'.length:Nat)))
   | some (.lrow T sz' f es)=>sz'=1/\off+es'.length<=es.length /\
     K { s with regs:=Bs d (.lrow T 1 f (es.take off ++ es'.map (List.map L.p) ++ es.drop (off+es'.length))) s.regs } (.p (.int .i64 (es'.length:Nat)))
   | _=>False
  | _=>False
 | none=>False
theorem Z6 {s:St} {a:Act} (h:RRx Γ β Im s a.tmps w) {t t' ty:Nat} {x y:Operand} {K:St->L->Prop} (hl:Tv P t t' s x y K) :
  ∃ v w' s' l,(Builtin.copy_ #[t,t'] ty #[a.eval x,a.eval y]).run P w=.ok v w'/\RRx Γ β Im s' a.tmps w'/\LRep β w' Im v l/\K s' l:=by
 unfold Tv at hl;have rx:=A2 h.fit x;split at hl
 ·rename_i e sz hsl;obtain ⟨rfl,rfl,hl⟩:=hl;obtain ⟨ht,hcs,h0⟩:=Dw hsl;have hs1:(P.info? e).map (·.size)=some 1:=by
   unfold Program.cellsOf at hcs;cases hi:P.info? e with
   | none=>simp[hi] at hcs
   | some i=>simp[hi] at hcs;simp[hcs]
  split at hl
  ·rename_i d off len hg;obtain ⟨es',hsrc,hsz,hone,hl⟩:=hl;obtain ⟨ad,sl,c,hyv,hmn,S⟩:=Jfs h.fit (A2 h.fit y) hsrc hsz (fun es0 h0=>by unfold N6 at hone;rw[h0] at hone;exact hone);rw[hg] at rx;have hxv:∃ ad c,a.eval x=.slice ad len c:=by
    rcases rx with ⟨loc,cap,o,_,_,_,_,hv⟩ | ⟨_,_,rfl,hv⟩
    ·exact ⟨_,_,hv⟩
    ·exact ⟨_,_,hv⟩
   split at hl
   ·rename_i hm;obtain ⟨ad2,c2,hxv⟩:=hxv;exact ⟨_,w,s,.p (.int .i64 0),by rw[hxv,hyv];exact run_copy_none w t t ty e ad2 ad len c2 sl c ht hs1 (by show min sl len=0;omega),h,PRep.int _ _,hl⟩
   ·rename_i hm;generalize hmm:es'.length=m at *
    rcases S with rfl | ⟨bk,o2,news,rfl,hnl,hncell,hn1,hn2,hn3⟩
    ·simp at hmm;omega
    have hcn:news.length=m:=hnl;have hcc:news.length=Nat.min sl len:=by rw[hcn];exact hmn
    have main:∀ (loc:Loc) (cur:List Value) (T:TypeId),β d=some loc->loc.sz=1->w.heap[loc.blk]? = some (.cells ⟨cur⟩ T (0,0))->off+m<=cur.length ->
      (Builtin.copy_ #[t,t] ty #[a.eval x,a.eval y]).run P w=.ok (goInt m) (w.setRow loc.blk (cur.take off ++ news ++ cur.drop (off+m)).toArray):=by
     intro loc cur T hβ hlz hbk hfit;rcases rx with ⟨loc',cap,o,hβ',hcap,hlc,ho,hv⟩ | ⟨hn,_⟩
     ·rw[hβ] at hβ';cases hβ';have ho':o=off:=by rw[ho (.inl omg),hlz,Ect]
      subst ho';rw[hv,hyv];have:=run_copy_row P w t t ty e loc.blk o len cap ⟨bk,o2,none⟩ sl c ⟨cur⟩ T (news) ht hs1 hbk hcc (fun j v hj=>by rw[Cd];exact hncell j v hj) (by rw[hcn];exact hfit) hn1;rw[hcn] at this;exact this
     ·rw[hβ] at hn;cases hn
    split at hl
    ·rename_i T sz' es hr;obtain ⟨rfl,hle,hK⟩:=hl;have hmem:=Ax hr;rcases h.fit.regs d _ hmem with ⟨_,rfl⟩ | ⟨loc,cur,hβ,hlz,hbk,hcl,hle',hml,hel,hcell⟩
     ·simp at hle;omega
     have hfit:off+m<=cur.length:=by rw[hcl];omega
     have hk:Keeps w Im (w.setRow loc.blk (cur.take off ++ news ++ cur.drop (off+m)).toArray) Im :=
      ⟨fun _ h=>h,fun b hb'=>B6 _ _ _ _ fun e=>(h.fit.live d _ loc hmem hβ).2 (e ▸ hb')⟩
     have hm2:es'.length=m:=hmm;refine ⟨_,_,{ s with regs:=Bs d (.row T 1 (es.take off ++ es' ++ es.drop (off+m))) s.regs },.p (.int .i64 m),main loc cur T hβ hlz hbk hfit,h.store hmem hβ rfl rfl rfl (by simp[World.setRow]) (fun k hk=>B6 _ _ _ _ hk) (.inr ?_),PRep.int _ _,hK⟩;refine ⟨loc,_,hβ,hlz,setRow_heap w loc.blk _ _ _ _ hbk,by have:=Bz cur (news) off (by rw[hcn];exact hfit);rw[hcn] at this;rw[this];exact hcl,by have:=Bz es es' off (by rw[hm2];exact hle);rw[hm2] at this;rw[this];exact hle',hml,fun x hx=>?_,fun i q j p hi hj=>?_⟩
     ·rcases Eax.1 hx with hx | hx
      ·rcases Eax.1 hx with hx | hx
       ·exact hel x (Ebq hx)
       ·exact ⟨hsz x hx,hn3 x hx⟩
      ·exact hel x (Ea6 hx)
     ·have A:=getElem?_splice es es' off i (by rw[hm2];exact hle);have B:=getElem?_splice cur (news) off (i * 1+j) (by rw[hcn];exact hfit);rw[hm2] at A;rw[hcn] at B;rw[A] at hi;rw[B];by_cases g1:i<off
      ·rw[if_pos g1] at hi;have hj0:j=0:=by have:=(hel q (Eag hi)).1;have:=(Eab.1 hj).1;omega
       subst hj0;rw[if_pos omg];obtain ⟨u,hu,hp⟩:=hcell i q 0 p hi hj;exact ⟨u,hu,hp.mono hk⟩
      ·rw[if_neg g1] at hi;by_cases g2:i<off+m
       ·rw[if_pos g2] at hi;have hj0:j=0:=by have:=hsz q (Eag hi);have:=(Eab.1 hj).1;omega
        subst hj0;rw[if_neg omg,if_pos omg];obtain ⟨u,hu,hp⟩:=hn2 _ q p hi hj;exact ⟨u,by rw[<- hu];congr 1;omega,hp.mono hk⟩
       ·rw[if_neg g2] at hi;have hj0:j=0:=by have:=(hel q (Eag hi)).1;have:=(Eab.1 hj).1;omega
        subst hj0;rw[if_neg omg,if_neg omg];obtain ⟨u,hu,hp⟩:=hcell i q 0 p hi hj;exact ⟨u,hu,hp.mono hk⟩
    ·rename_i T sz' f es hr;obtain ⟨rfl,hle,hK⟩:=hl;have hmem:=Ax hr;rcases h.fit.regs d _ hmem with ⟨_,rfl⟩ | ⟨loc,cur,hβ,hlz,hbk,hcl,hle',hfu,hml,hel,hcell⟩
     ·simp at hle;omega
     have hfit:off+m<=cur.length:=by rw[hcl];omega
     have hk:Keeps w Im (w.setRow loc.blk (cur.take off ++ news ++ cur.drop (off+m)).toArray) Im :=
      ⟨fun _ h=>h,fun b hb'=>B6 _ _ _ _ fun e=>(h.fit.live d _ loc hmem hβ).2 (e ▸ hb')⟩
     have hm2:(es'.map (List.map L.p)).length=m:=by rw[Ea1];exact hmm
     have hsl2:=Bz es (es'.map (List.map L.p)) off (by rw[hm2];exact hle);rw[hm2] at hsl2;refine ⟨_,_,{ s with regs:=Bs d (.lrow T 1 f (es.take off ++ es'.map (List.map L.p) ++ es.drop (off+m))) s.regs },.p (.int .i64 m),main loc cur T hβ hlz hbk hfit,h.store hmem hβ rfl rfl rfl (by simp[World.setRow]) (fun k hk=>B6 _ _ _ _ hk) (.inr ?_),PRep.int _ _,hK⟩;refine ⟨loc,_,hβ,hlz,setRow_heap w loc.blk _ _ _ _ hbk,by have:=Bz cur (news) off (by rw[hcn];exact hfit);rw[hcn] at this;rw[this];exact hcl,by rw[hsl2];exact hle',fun hf=>by rw[hsl2];exact hfu hf,hml,fun x hx=>?_,fun i q j p hi hj=>?_⟩
     ·rcases Eax.1 hx with hx | hx
      ·rcases Eax.1 hx with hx | hx
       ·exact hel x (Ebq hx)
       ·obtain ⟨q,hq,rfl⟩:=Eap.1 hx;rw[Ea1];exact hsz q hq
      ·exact hel x (Ea6 hx)
     ·have A:=getElem?_splice es (es'.map (List.map L.p)) off i (by rw[hm2];exact hle);have B:=getElem?_splice cur (news) off (i * 1+j) (by rw[hcn];exact hfit);rw[hm2] at A;rw[hcn] at B;rw[A] at hi;rw[B];by_cases g1:i<off
      ·rw[if_pos g1] at hi;have hj0:j=0:=by have:=hel q (Eag hi);have:=(Eab.1 hj).1;omega
       subst hj0;rw[if_pos omg];obtain ⟨u,hu,hp,hco⟩:=hcell i q 0 p hi hj;exact ⟨u,hu,hp.mono' hk,hco⟩
      ·rw[if_neg g1] at hi;by_cases g2:i<off+m
       ·rw[if_pos g2] at hi;rw[Eam] at hi;obtain ⟨q0,hi0,rfl⟩:=Eal.1 hi;rw[Eam] at hj;obtain ⟨p0,hj0',rfl⟩:=Eal.1 hj;have hj0:j=0:=by have:=hsz q0 (Eag hi0);have:=(Eab.1 hj0').1;omega
        subst hj0;rw[if_neg omg,if_pos omg];obtain ⟨u,hu,hp⟩:=hn2 _ q0 p0 hi0 hj0';exact ⟨u,by rw[<- hu];congr 1;omega,PRep.mono hk hp,.inl (hn3 q0 (Eag hi0) p0 (Eag hj0'))⟩
       ·rw[if_neg g2] at hi;have hj0:j=0:=by have:=hel q (Eag hi);have:=(Eab.1 hj).1;omega
        subst hj0;rw[if_neg omg,if_neg omg];obtain ⟨u,hu,hp,hco⟩:=hcell i q 0 p hi hj;exact ⟨u,hu,hp.mono' hk,hco⟩
    ·exact hl.elim
  ·exact hl.elim
 ·exact hl.elim
end
end Go.LX
namespace Go.LX
open Go Go.RowKit
variable {P:Program} {Γ:Base} {β:Env} {w:World} {Im:Nat->Prop}
theorem LRep.one {v:Value} {l:L} (h:LRep β w Im v l) (hc:l.cellOK=true):v.oneCell'=true:=by
 cases l with
 | p x=>exact PRep.one h hc
 | ptr d i j=>obtain ⟨loc,_,rfl⟩:=h;rfl
 | own d off len=>rcases h with ⟨loc,cap,o,_,_,_,_,rfl⟩ | ⟨_,_,_,rfl⟩<;>rfl
 | eptr cs=>obtain ⟨b,o,_,rfl,_⟩:=h;rfl
 | fn f ds=>obtain ⟨vs,rfl,_⟩:=h;rfl
 | cfn f ds=>obtain ⟨vs,rfl,_⟩:=h;rfl
 | yld l=>cases h;rfl
 | tup xs=>cases hc
 | mref d=>obtain ⟨loc,_,rfl⟩:=h;rfl
 | junk=>cases hc
theorem Kcg {v:Value} (h:v.oneCell'=true):v.cells = #[v]:=by cases v<;>simp_all[Value.oneCell',Value.cells]
def Jvk (d:Nat) (es:List (List L)):Bool:=es.all fun e=>e.all fun l=>!l.mentions d
theorem J9e {d:Nat} {es:List (List L)} (h:Jvk d es=true) {e:List L} (he:e∈es) {l:L} (hl:l∈e):l.mentions d=false:=by
 have:=Eby.1 (Eby.1 h e he) l hl;simpa using this
def Jvj (P:Program) (d t:Nat) (s:St) (parts:List (Nat×Operand)) (K:St->Prop):Prop :=
 d<1000/\match parts with
 | [(0,y)]=>∃ e,slE P t=some (e,1)/\(∃ zs,Bu P e=some zs/\zs.length=1)/\(s.get y).cellOK=true/\(s.get y).mentions d=false/\K ((s.newReg d (.lrow e 1 false [[s.get y]])).put (some d) (.own d 0 1))
 | _=>False
theorem J05 {s:St} {a:Act} (h:RRx Γ β Im s a.tmps w) {d t n:Nat} {parts:List (Nat×Operand)} (hn:n=parts.length) {K:St->Prop} (hl:Jvj P d t s parts K) :
  Lb Γ a d ((Instr.buildSlice t n ⟨parts.map fun (i,x)=>(i,a.eval x)⟩).run P w) K:=by
 obtain ⟨hd,hl⟩:=hl;split at hl
 ·rename_i y;obtain ⟨e,hsl,⟨zs,hz,hzl⟩,hc,hm,hK⟩:=hl;obtain ⟨ht,hcs,h0⟩:=Dw hsl;obtain ⟨zv,hzrun,_,hzlen,_,_⟩:=D0 hz;have hzs:zv.cells.size=1:=by rw[<- hzl,<- hzlen];simp
  have hy:=A2 h.fit y;have h1:=hy.one hc;have hcell:=Kcg h1;subst hn;have g:=Grow.alloc (w:=w) (Im:=Im) h.fit.im (.cells ⟨[a.eval y]⟩ e);have hsz:w.heap.size<(w.alloc (.cells ⟨[a.eval y]⟩ e)).heap.size:=by simp
  have hb:=heap_alloc_new w (.cells ⟨[a.eval y]⟩ e);have r1:=h.newReg hd (r:=.lrow e 1 false [[s.get y]]) (x:=some ⟨w.heap.size,1,1⟩) g (fun loc hl=>by cases hl;exact ⟨Eah _,hsz⟩)
   (.inr ⟨_,[a.eval y],B4,rfl,hb,rfl,Eah _,fun h=>(by cases h),(by show 1<=maxLen;unfold maxLen;omega),fun q hq=>by simp at hq;subst hq;rfl,fun i q j l hi hj=>by
    cases i with
    | zero =>
     simp at hi;subst hi;cases j with
     | zero =>
      simp at hj;subst hj;exact ⟨_,rfl,hy.mono (g.keeps h.fit.im) (fun x hx=>Oa (fun e'=>by rw[e',hm] at hx;cases hx)),.inl hc⟩
     | succ j=>simp at hj
    | succ i=>simp at hi⟩)
  refine ⟨.slice (some ⟨w.heap.size,0,none⟩) 1 1,_,_,Im,_,_,?_,r1,(show LRep _ _ _ _ (L.own d 0 1) from Or.inl ⟨_,1,0,B4,rfl,Eah _,by simp,rfl⟩),hK⟩;have hr:((Array.range (1 * 1)).map fun x=>zv.cells[x % zv.cells.size]!) = #[zv.cells[0]!]:=by
   rw[hzs,show Array.range (1 * 1) = #[0] from by decide];simp
  simp only[Instr.buildSlice,Ebs,Sem.run_bind,run_underlying ht,Result.andThen_ok,Bk hcs h0,Sem.run_ite,if_neg (by decide:¬ 1 * 1 > 2 ^ 24),Sem.run_pure,if_neg (by decide:¬ 1 * 1=0),hzrun,hr,Eaq,Eca,Instr.fill,hcell];show (newRow e _ >>= fun (ad:Addr)=>(pure (Value.slice (some ad) 1 1):Sem Value)).run P w=_;simp[Go.newRow,run_newObj]
 ·exact hl.elim
def Jxb (P:Program) (d t:Nat) (s:St) (x y:Operand) (K:St->Prop):Prop :=
 d
  < 1000/\∃ e b,slE P t=some (e,1)/\(∃ zs,Bu P e=some zs/\zs.length=1)/\Bo P e=some b/\match s.get y with
  | .own d1 0 m=>match Am d1 s.regs with
   | some (.lrow T1 1 _ es')=>T1=e/\es'.length=m/\0<m/\(es'.all fun q=>q.all L.cellOK)=true/\Jvk d es'=true/\match s.get x with
    | .p .snil=>m * b<=140737488355328/\m<=9223372036854775807/\K ((s.newReg d (.lrow e 1 false es')).put (some d) (.own d 0 m))
    | .own d0 0 n=>match Am d0 s.regs with
     | some (.lrow T0 1 _ es)=>T0=e/\es.length=n/\Jvk d es=true/\(n+m) * b<=140737488355328/\n+m<=9223372036854775807/\K (((s.forget d0).newReg d (.lrow e 1 false (es ++ es'))).put (some d) (.own d 0 (n+m)))
     | _=>False
    | _=>False
   | _=>False
  | _=>False
theorem J4d {s:St} {a:Act} (h:RRx Γ β Im s a.tmps w) {d n:Nat} {e:TypeId} {fu:Bool} {es:List (List L)} {v:Value} (hr:Am d s.regs=some (.lrow e 1 fu es)) (hv:LRep β w Im v (.own d 0 n)) (hn:es.length=n) :
  ∃
   xs,w.ownsRow 0 e 1 v n xs/\xs.length=n/\(∀ (i:Nat) (q:List L),es[i]? = some q->∃ l u,q=[l]/\xs[i]? = some u/\LRep β w Im u l/\(l.cellOK=true\/l=.junk)) /\
   (∀ k,v.ownBlock=some k->∃ loc,β d=some loc/\loc.blk=k)/\((v=.slice none 0 0/\n=0)\/∃ bk cap,v=.slice (some ⟨bk,0,none⟩) n cap/\∀ (j:Nat) (u:Value),xs[j]? = some u->w.cell? ⟨bk,0+j,none⟩=some u):=by
 have hmem:=Ax hr;rcases h.fit.regs d _ hmem with ⟨hb,rfl⟩ | ⟨loc,cur,hβ,hls,hbk,hcl,hle,_,hml,hel,hcell⟩
 ·rcases hv with ⟨loc,cap,o,hβ,_⟩ | ⟨_,_,hn0,rfl⟩
  ·rw[hβ] at hb;cases hb
  ·exact ⟨[],by subst hn0;exact World.ownsRow_nil _ _ _ _,by rw[hn0];rfl,by simp,fun k hk=>by simp[Value.ownBlock] at hk,.inl ⟨rfl,hn0⟩⟩
 ·rcases hv with ⟨loc',cap,o,hβ',hcap,hlc,ho,rfl⟩ | ⟨hb,_⟩
  ·rw[hβ] at hβ';cases hβ';rw[Ebo] at hcap;subst hcap;have ho0:o=0:=by rw[ho (.inr rfl),Edf]
   subst ho0;rw[Ect] at hcl;have hxl:(cur.take n).length=n:=by rw[Eay];omega
   refine ⟨cur.take n,⟨by rw[Ect];exact hxl,.inr ⟨loc.blk,loc.tot,⟨cur⟩,rfl,Eau _,hbk,hlc,hml,by simpa using hcl,by simp⟩⟩,hxl,fun i q hi=>?_,fun k hk=>⟨loc,hβ,by simpa[Value.ownBlock] using hk⟩,.inr ⟨loc.blk,loc.tot,rfl,fun j u hu=>?_⟩⟩
   ·have hq:=hel q (Eag hi);have hin:=(Eab.1 hi).1;obtain ⟨l,rfl⟩:∃ l,q=[l]:=by
     cases q with
     | nil=>simp at hq
     | cons l r=>cases r with
      | nil=>exact ⟨l,rfl⟩
      | cons=>simp at hq
    obtain ⟨u,hu,hl,hc⟩:=hcell i _ 0 l hi rfl;rw[Ect,Nat.add_zero] at hu;exact ⟨l,u,rfl,by rw[Eas,if_pos omg];exact hu,hl,hc⟩
   ·rw[Eas] at hu;split at hu
    ·rw[Ebo,cell_of_row w loc.blk j ⟨cur⟩ e (0,0) hbk];simpa using hu
    ·cases hu
  ·rw[hβ] at hb;cases hb
theorem J3n {d:Nat} {e:TypeId} {es:List (List L)} {w':World} {v:Value} {zs:List Value} {n base:Nat} (hn:es.length=n) (how:w'.ownsRow base e 1 v n zs) (haw:Jvk d es=true)
  (hc:∀ (i:Nat) (q:List L),es[i]? = some q->∃ l u,q=[l]/\zs[i]? = some u/\LRep β w' Im u l/\(l.cellOK=true\/l=.junk)) :
  ∃ x:Option Loc,Ci (Jqu β d x) w' Im d (.lrow e 1 false es)/\LRep (Jqu β d x) w' Im v (.own d 0 n)/\(∀ loc,x=some loc->v.ownBlock=some loc.blk/\loc.blk<w'.heap.size):=by
 have hlt:=how.lt;obtain ⟨hl,how⟩:=how;rcases how with ⟨rfl,hz⟩ | ⟨g,cap,cur,rfl,hbase,hb,hnc,hcm,hcs,htake⟩
 ·have e1:es=[]:=Ean omg;subst e1;simp only[Ea8] at hn;exact ⟨none,.inl ⟨B4,rfl⟩,.inr ⟨B4,rfl,hn.symm,rfl⟩,fun loc h=>by cases h⟩
 ·refine ⟨some ⟨g,1,cap⟩,.inr ⟨_,cur.toList,B4,rfl,by simpa using hb,by simpa using hcs,(by show es.length<=cap;omega),fun h=>(by cases h),hcm,fun q hq=>?_,fun i q j l hi hj=>?_⟩,.inl ⟨_,cap,0,B4,by simp,hnc,by simp,rfl⟩,fun loc h=>by cases h;exact ⟨rfl,(hlt g rfl).2⟩⟩
  ·obtain ⟨i,hi⟩:=Ebz hq;obtain ⟨l,u,rfl,_⟩:=hc i q hi;rfl
  ·obtain ⟨l',u,rfl,hu,hr,ho⟩:=hc i q hi;cases j with
   | succ j=>simp at hj
   | zero =>
    simp at hj;subst hj;refine ⟨u,?_,hr.mono ⟨fun _ h=>h,fun _ _=>rfl⟩ fun x hx=>Oa fun e=>?_,ho⟩
    ·rw[<- htake,Eas] at hu;split at hu
     ·rw[Ect,Nat.add_zero];exact hu
     ·cases hu
    ·have:=J9e haw (Eag hi) (Ea0.2 rfl);rw[e,this] at hx;cases hx
theorem J2u {s:St} {a:Act} (h:RRx Γ β Im s a.tmps w) {d t ty:Nat} {x y:Operand} {K:St->Prop} (hl:Jxb P d t s x y K) :
  Lb Γ a d ((Builtin.append_ #[t,t] ty #[a.eval x,a.eval y]).run P w) K:=by
 obtain ⟨hd,e,b,hsl,⟨zs,hz,hzl⟩,hb,hl⟩:=hl;obtain ⟨ht,hcs,h0⟩:=Dw hsl;obtain ⟨zv,hzrun,⟨inf,hinf,hzi⟩,hzlen,hzrep,hzsc⟩:=D0 hz;have hinf2:inf.size=1:=by simpa[Program.cellsOf,hinf] using hcs
 have hinf3:inf.bytes=b:=by simpa[Bo,hinf] using hb
 have hzsz:zv.cells.size=1:=by rw[<- hzl,<- hzlen];simp
 have ry:=A2 h.fit y;have rx:=A2 h.fit x;split at hl
 ·rename_i d1 m hgy;split at hl
  ·rename_i T1 fu es' hry;obtain ⟨rfl,hem,hm0,hok,haw,hl⟩:=hl;rw[hgy] at ry;obtain ⟨ys,hyo,hyl,hyc,_,hyv⟩:=J4d h hry ry hem;rcases hyv with ⟨_,hm⟩ | ⟨bk,c,hyv,hncell⟩
   ·omega
   have hn1:∀ u∈ys,u.oneCell'=true:=by
    intro u hu;obtain ⟨i,hi⟩:=Ebz hu;have hil:=(Eab.1 hi).1;have hq:es'[i]? = some es'[i]:=Eaa omg;obtain ⟨l,u',hql,hu',hr,_⟩:=hyc i _ hq;rw[hi] at hu';cases hu';refine hr.one ?_;have:=Eby.1 (Eby.1 hok _ (Eag hq)) l (by rw[hql];exact Ea0.2 rfl);exact this
   have src:Src P w t t T1 1 b (a.eval y) m ys:=by
    rw[hyv];exact Src.cells hsl hinf hzi hinf2 hinf3 hzsz (by rw[hyl,Ect]) hncell hn1
   split at hl
   ·rename_i hgx;obtain ⟨hbytes,h63,hK⟩:=hl;rw[hgx] at rx;have hvx:a.eval x=.slice none 0 0:=by generalize a.eval x=v at rx;cases rx;rfl
    have h63':0+m<=maxLen:=by unfold maxLen;omega
    have how0:w.ownsRow w.heap.size T1 1 (a.eval x) 0 []:=by rw[hvx];exact World.ownsRow_nil _ _ _ _
    obtain ⟨v',w',hrun,how',hgr⟩:=src.own w.heap.size ty (a.eval x) 0 [] how0 (Eah _) h63' (by rw[Ebo];exact hbytes);rw[Ebo,List.nil_append] at how';have hg:Grow w Im w' Im:=by
     refine ⟨hgr.os,hgr.tape,hgr.output,hgr.size,fun k hk=>hgr.block k hk fun e=>?_,fun _ h=>h,fun _ h=>.inl h,fun b' hb'=>Ebe (h.fit.im b' hb') hgr.size⟩;rw[hvx] at e;simp[Value.ownBlock] at e
    obtain ⟨x',k1,k2,k3⟩:=J3n (β:=β) (Im:=Im) (d:=d) hem how' haw fun i q hi=>by
     obtain ⟨l,u,e1,e2,e3,e4⟩:=hyc i q hi;exact ⟨l,u,e1,e2,e3.mono' (hg.keeps h.fit.im),e4⟩
    have:=h.newReg hd hg (fun loc hl=>⟨(how'.lt _ (k3 loc hl).1).1,(k3 loc hl).2⟩) k1;exact ⟨_,w',_,Im,_,_,hrun,this,k2,hK⟩
   ·rename_i d0 n hgx;split at hl
    ·rename_i T0 fu0 es hrx;obtain ⟨rfl,hen,haw0,hbytes,h63,hK⟩:=hl;rw[hgx] at rx;obtain ⟨xs,how,hxl,hxc,hloc,_⟩:=J4d h hrx rx hen;have hmem:=Ax hrx;have h63':n+m<=maxLen:=by unfold maxLen;omega
     obtain ⟨v',w',hrun,how',hgr⟩:=src.own 0 ty (a.eval x) n xs how (Eau _) h63' hbytes;have hk:Keeps w Im w' Im:=⟨fun _ h=>h,fun b hb'=>hgr.block b (h.fit.im b hb') fun e=>by
      obtain ⟨loc,hβ,rfl⟩:=hloc b e.symm;exact (h.fit.live d0 _ loc hmem hβ).2 hb'⟩
     have haw2:Jvk d (es ++ es')=true:=by
      unfold Jvk at haw haw0 ⊢;rw[List.all_append,haw0,haw];rfl
     obtain ⟨x',k1,k2,k3⟩:=J3n (β:=β) (Im:=Im) (d:=d) (es:=es ++ es') (by rw[Eac,hen,hem]) how' haw2 fun i q hi=>by
      by_cases hlt:i<es.length
      ·rw[Eat hlt] at hi;obtain ⟨l,u,e1,e2,e3,e4⟩:=hxc i q hi;exact ⟨l,u,e1,by rw[Eat omg];exact e2,e3.mono' hk,e4⟩
      ·rw[Ear omg] at hi;obtain ⟨l,u,e1,e2,e3,e4⟩:=hyc _ q hi;exact ⟨l,u,e1,by rw[Ear omg,hxl,<- hen];exact e2,e3.mono' hk,e4⟩
     have:=h.replace hd hmem (w':=w') (x:=x') hgr.os hgr.tape hgr.output hgr.size (fun k hk' hne=>hgr.block k hk' fun e=>by
       obtain ⟨loc,hβ,hb'⟩:=hloc k e.symm;exact hne loc hβ hb'.symm)
      (fun loc hl=>⟨(k3 loc hl).2,(src.blk ty _ n xs v' w' how h63' hbytes hrun _ (k3 loc hl).1).imp id fun h'=>hloc _ h'⟩) k1
     exact ⟨_,w',_,Im,_,_,hrun,this,k2,hK⟩
    ·exact hl.elim
   ·exact hl.elim
  ·exact hl.elim
 ·exact hl.elim
end Go.LX
