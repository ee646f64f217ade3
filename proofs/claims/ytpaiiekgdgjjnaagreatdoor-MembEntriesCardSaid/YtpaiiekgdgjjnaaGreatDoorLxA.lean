/- Logical values, logical states, and how they are represented in a world of the model. -/
import Derived.WalkKit
import Derived.OrdersIn
import Derived.CallsIn
import Derived.LaidEqlPtr
import Derived.Lib.SlBytesRow
import Derived.Lib.BufferRead
set_option linter.unusedSimpArgs false
set_option linter.unusedVariables false
set_option linter.unusedSectionVars false
set_option linter.unnecessarySimpa false
namespace Go.LX
open Go Go.RowKit
theorem omg {p:Prop} (h:p:=by omega):p:=h
theorem krf {p:Prop} (h:p:=by kernel_rfl):p:=h
theorem de {p:Prop} (h:p:=by decide):p:=h
theorem sm {p:Prop} (h:p:=by simp):p:=h
inductive PV where
 | bool (b:Bool)
 | int (k:IntKind) (n:Int)
 | str (s:List UInt8)
 | agg (cs:List PV)
 | sl (es:List (List PV))
 | snil
 | nptr
 | nmap
 | nfn
 | nifc
 | ifc
 | ifi (t:TypeId) (k:IntKind) (n:Int)
 | mp (es:List (PV×PV))
def PV.scalar:PV→Bool
 | .agg _=>false
 | _=>true
inductive L where
 | p (x:PV)
 | ptr (d i j:Nat)
 | own (d off len:Nat)
 | eptr (cs:List PV)
 | fn (f:FuncId) (ds:List Nat)
 | cfn (f:FuncId) (ds:List Nat)
 | yld (l:Nat)
 | tup (xs:List PV)
 | mref (d:Nat)
 | junk
inductive PObj where
 | mp (es:List (PV×PV))
 | sit (s:List UInt8) (pos:Nat)
 | mit (es:List (PV×PV)) (seen:List Nat)
 | loop (l:Nat) (r:Loop)
def L.cellOK:L→Bool
 | .p x=>x.scalar
 | .tup _=>false
 | .junk=>false
 | _=>true
structure Loc where
 blk:Nat
 sz:Nat
 tot:Nat
inductive Reg where
 | var (T:TypeId) (cs:List L)
 | row (T:TypeId) (sz:Nat) (es:List (List PV))
 | lrow (T:TypeId) (sz:Nat) (full:Bool) (es:List (List L))
 | obj (o:PObj)
structure St where
 tmps:List L
 regs:List (Nat×Reg)
abbrev Env:=Nat→Option Loc
inductive PRep (w:World) (Im:Nat→Prop):Value→PV→Prop
 | bool (b:Bool):PRep w Im (.bool b) (.bool b)
 | int (k:IntKind) (n:Int):PRep w Im (.int k n) (.int k n)
 | str (s:List UInt8):PRep w Im (.string ⟨⟨s⟩⟩) (.str s)
 | agg (cs:List Value) (ps:List PV) (hl:cs.length=ps.length) (hs:∀ p∈ps,p.scalar=true)
   (h:∀ (i:Nat) (v:Value) (p:PV),cs[i]? = some v→ps[i]? = some p→PRep w Im v p):PRep w Im (.agg ⟨cs⟩) (.agg ps)
 | snil:PRep w Im (.slice none 0 0) .snil
 | nptr:PRep w Im (.pointer none) .nptr
 | nmap:PRep w Im (.map none) .nmap
 | nfn:PRep w Im .nilFunc .nfn
 | nifc:PRep w Im .nilIface .nifc
 | ifc (t:TypeId) (v:Value):PRep w Im (.iface t v) .ifc
 | ifi (t:TypeId) (k:IntKind) (n:Int):PRep w Im (.iface t (.int k n)) (.ifi t k n)
 | mp (r cl:Nat) (ents:List MapEntry) (es:List (PV×PV)) (hr:Im r) (hw:w.heap[r]? = some (.map ⟨ents⟩ cl)) (hl:ents.length=es.length)
   (hn:(ents.map (·.born)).Nodup) (hb:∀ e∈ents,e.born<cl)
   (hk:∀ (i:Nat) (e:MapEntry) (p:PV×PV),ents[i]? = some e→es[i]? = some p→PRep w Im e.key p.1)
   (hv:∀ (i:Nat) (e:MapEntry) (p:PV×PV),ents[i]? = some e→es[i]? = some p→PRep w Im e.val p.2):PRep w Im (.map (some r)) (.mp es)
 | slNil:PRep w Im (.slice none 0 0) (.sl [])
 | sl (b off cap sz:Nat) (es:List (List PV)) (hcap:es.length≤cap) (hb:Im b) (f:Nat→Nat→Value)
   (hsz:∀ e∈es,e.length=sz) (hsc:∀ e∈es,∀ p∈e,p.scalar=true)
   (hc:∀ i,i<es.length→∀ j,j<sz→w.cell? ⟨b,off+i * sz+j,none⟩=some (f i j))
   (h:∀ (i:Nat) (e:List PV) (j:Nat) (p:PV),es[i]? = some e→e[j]? = some p→PRep w Im (f i j) p):PRep w Im (.slice (some ⟨b,off,none⟩) es.length cap) (.sl es)
def MRep (w:World) (Im:Nat→Prop) (ents:List MapEntry) (cl:Nat) (es:List (PV×PV)):Prop :=
 ents.length=es.length∧(ents.map (·.born)).Nodup∧(∀ e∈ents,e.born<cl) ∧
  ∀ (i:Nat) (e:MapEntry) (p:PV×PV),ents[i]? = some e→es[i]? = some p→PRep w Im e.key p.1∧PRep w Im e.val p.2
def Ho (ents:List MapEntry) (i:Nat):Nat:=(ents.getD i ⟨undef,undef,0⟩).born
def ORep (w:World) (Im:Nat→Prop) (blk:Nat) (b:Option Obj):PObj→Prop
 | .mp es=>∃ ents cl,b=some (.map ⟨ents⟩ cl)∧MRep w Im ents cl es
 | .sit s pos=>b=some (.stringIter ⟨⟨s⟩⟩ pos)
 | .mit es seen=>(es=[]∧b=some (.mapIter none 0 #[] 0)) ∨
   ∃ m ents cl,Im m∧w.heap[m]? = some (.map ⟨ents⟩ cl)∧MRep w Im ents cl es∧b=some (.mapIter (some m) cl ⟨seen.map (Ho ents)⟩ cl)∧∀ j∈seen,j<es.length
 | .loop l r=>blk=l∧b=some (.loop r)
def LRep (β:Env) (w:World) (Im:Nat→Prop) (v:Value):L→Prop
 | .p x=>PRep w Im v x
 | .ptr d i j=>∃ loc,β d=some loc∧v=.pointer (some ⟨loc.blk,i * loc.sz+j,none⟩)
 | .own d off len=>(∃ loc cap o,β d=some loc∧off+cap=loc.tot∧len≤cap∧(0<cap∨off=0→o=off * loc.sz)∧v=.slice (some ⟨loc.blk,o,none⟩) len cap) ∨
   (β d=none∧off=0∧len=0∧v=.slice none 0 0)
 | .eptr cs=>∃ b o,Im b∧v=.pointer (some ⟨b,o,none⟩)∧∃ f:Nat→Value,(∀ j,j<cs.length→w.cell? ⟨b,o+j,none⟩=some (f j)) ∧
   ∀ (j:Nat) (p:PV),cs[j]? = some p→PRep w Im (f j) p∧p.scalar=true
 | .fn f ds=>∃ vs:List Value,v=.func (.func f) #[] ⟨vs⟩∧vs.length=ds.length ∧
   ∀ (i:Nat) (x:Value) (d:Nat),vs[i]? = some x→ds[i]? = some d→∃ loc,β d=some loc∧x=.pointer (some ⟨loc.blk,0,none⟩)
 | .cfn f ds=>∃ vs:List Value,v=.func (.func f) #[] ⟨vs⟩∧vs.length=ds.length ∧
   ∀ (i:Nat) (x:Value) (d:Nat),vs[i]? = some x→ds[i]? = some d→∃ loc,β d=some loc∧x=.pointer (some ⟨loc.blk,0,none⟩)
 | .yld l=>v=.func (.yield l) #[] #[]
 | .tup xs=>∃ vs:List Value,v=.tuple ⟨vs⟩∧vs.length=xs.length∧∀ (i:Nat) (x:Value) (p:PV),vs[i]? = some x→xs[i]? = some p→PRep w Im x p
 | .mref d=>∃ loc,β d=some loc∧v=.map (some loc.blk)
 | .junk=>True
def Ci (β:Env) (w:World) (Im:Nat→Prop) (d:Nat):Reg→Prop
 | .var T cs=>∃ loc cur,β d=some loc∧loc.sz=cs.length∧loc.tot=1∧w.heap[loc.blk]? = some (.cells ⟨cur⟩ T (0,0))∧cur.length=cs.length ∧
   ∀ (j:Nat) (v:Value) (l:L),cur[j]? = some v→cs[j]? = some l→LRep β w Im v l∧(l.cellOK=true∨l=.junk)
 | .row T sz es=>(β d=none∧es=[])∨∃ loc cur,β d=some loc∧loc.sz=sz∧w.heap[loc.blk]? = some (.cells ⟨cur⟩ T (0,0)) ∧
   cur.length=loc.tot * sz∧es.length≤loc.tot∧loc.tot≤maxLen∧(∀ e∈es,e.length=sz∧∀ p∈e,p.scalar=true) ∧
   ∀ (i:Nat) (e:List PV) (j:Nat) (p:PV),es[i]? = some e→e[j]? = some p→∃ v,cur[i * sz+j]? = some v∧PRep w Im v p
 | .lrow T sz full es=>(β d=none∧es=[])∨∃ loc cur,β d=some loc∧loc.sz=sz∧w.heap[loc.blk]? = some (.cells ⟨cur⟩ T (0,0)) ∧
   cur.length=loc.tot * sz∧es.length≤loc.tot∧(full=true→es.length=loc.tot)∧loc.tot≤maxLen∧(∀ e∈es,e.length=sz) ∧
   ∀ (i:Nat) (e:List L) (j:Nat) (l:L),es[i]? = some e→e[j]? = some l→∃ v,cur[i * sz+j]? = some v∧LRep β w Im v l∧(l.cellOK=true∨l=.junk)
 | .obj o=>∃ loc,β d=some loc∧ORep w Im loc.blk w.heap[loc.blk]? o
structure Keeps (w:World) (Im:Nat→Prop) (w':World) (Im':Nat→Prop):Prop where
 im:∀ b,Im b→Im' b
 block:∀ b,Im b→w'.heap[b]? = w.heap[b]?
theorem Keeps.cell {w w':World} {Im Im':Nat→Prop} (h:Keeps w Im w' Im') {a:Addr} (hb:Im a.block):w'.cell? a=w.cell? a :=
 World.cell?_of_block (w:=w) (h.block _ hb)
theorem PRep.mono {w w':World} {Im Im':Nat→Prop} (hk:Keeps w Im w' Im') {v:Value} {x:PV} (h:PRep w Im v x):PRep w' Im' v x:=by
 induction h with
 | bool b=>exact .bool b
 | int k n=>exact .int k n
 | str s=>exact .str s
 | agg cs ps hl hs _ ih=>exact .agg cs ps hl hs ih
 | snil=>exact .snil
 | nptr=>exact .nptr
 | nmap=>exact .nmap
 | nfn=>exact .nfn
 | nifc=>exact .nifc
 | ifc t v=>exact .ifc t v
 | ifi t k n=>exact .ifi t k n
 | mp r cl ents es hr hw hl hn hb _ _ ihk ihv=>exact .mp r cl ents es (hk.im r hr) ((hk.block r hr).trans hw) hl hn hb ihk ihv
 | slNil=>exact .slNil
 | sl b off cap sz es hcap hb f hsz hsc hc _ ih =>
  exact .sl b off cap sz es hcap (hk.im b hb) f hsz hsc (fun i hi j hj=>(hk.cell (a:=⟨b,off+i * sz+j,none⟩) hb).trans (hc i hi j hj)) ih
theorem MRep.mono {w w':World} {Im Im':Nat→Prop} (hk:Keeps w Im w' Im') {ents:List MapEntry} {cl:Nat} {es:List (PV×PV)} (h:MRep w Im ents cl es):MRep w' Im' ents cl es :=
 ⟨h.1,h.2.1,h.2.2.1,fun i e p he hp=>⟨(h.2.2.2 i e p he hp).1.mono hk,(h.2.2.2 i e p he hp).2.mono hk⟩⟩
theorem ORep.mono {w w':World} {Im Im':Nat→Prop} (hk:Keeps w Im w' Im') {blk:Nat} {b:Option Obj} {o:PObj} (h:ORep w Im blk b o):ORep w' Im' blk b o:=by
 cases o with
 | mp es=>obtain ⟨ents,cl,h1,h2⟩:=h;exact ⟨ents,cl,h1,h2.mono hk⟩
 | sit s pos=>exact h
 | mit es seen =>
  rcases h with h | ⟨m,ents,cl,h1,h2,h3,h4⟩
  ·exact .inl h
  ·exact .inr ⟨m,ents,cl,hk.im m h1,(hk.block m h1).trans h2,h3.mono hk,h4⟩
 | loop l r=>exact h
structure Cx where
 P:Program
 G:World→(Nat→Prop)→Prop
 mono:∀ {w w':World} {Im Im':Nat→Prop},Keeps w Im w' Im'→G w Im→G w' Im'
 kind:Nat→Nat
def L.mentions (d:Nat):L→Bool
 | .ptr e _ _=>e == d
 | .own e _ _=>e == d
 | .fn _ ds=>ds.contains d
 | .cfn _ ds=>ds.contains d
 | .mref e=>e == d
 | _=>false
theorem LRep.mono {β β':Env} {w w':World} {Im Im':Nat→Prop} (hk:Keeps w Im w' Im') {v:Value} {l:L}
  (hβ:∀ d,l.mentions d=true→β' d=β d) (h:LRep β w Im v l):LRep β' w' Im' v l:=by
 cases l with
 | p x=>exact PRep.mono hk h
 | ptr d i j =>
  obtain ⟨loc,h1,h2⟩:=h;exact ⟨loc,by rw [hβ d (by simp [L.mentions])];exact h1,h2⟩
 | own d off len =>
  have e:=hβ d (by simp [L.mentions]);simp only [LRep,e] at h ⊢;exact h
 | eptr cs =>
  obtain ⟨b,o,hb,hv,f,hc,hp⟩:=h;exact ⟨b,o,hk.im b hb,hv,f,fun j hj=>(hk.cell (a:=⟨b,o+j,none⟩) hb).trans (hc j hj),fun j p hj=>⟨(hp j p hj).1.mono hk,(hp j p hj).2⟩⟩
 | fn f ds =>
  obtain ⟨vs,hv,hl,hx⟩:=h;refine ⟨vs,hv,hl,fun i x d hi hd=>?_⟩;obtain ⟨loc,h1,h2⟩:=hx i x d hi hd;exact ⟨loc,by rw [hβ d (by simp [L.mentions];exact List.mem_of_getElem? hd)];exact h1,h2⟩
 | cfn f ds =>
  obtain ⟨vs,hv,hl,hx⟩:=h;refine ⟨vs,hv,hl,fun i x d hi hd=>?_⟩;obtain ⟨loc,h1,h2⟩:=hx i x d hi hd;exact ⟨loc,by rw [hβ d (by simp [L.mentions];exact List.mem_of_getElem? hd)];exact h1,h2⟩
 | yld l=>exact h
 | tup xs =>
  obtain ⟨vs,hv,hl,hx⟩:=h;exact ⟨vs,hv,hl,fun i x p hi hp=>(hx i x p hi hp).mono hk⟩
 | mref d =>
  obtain ⟨loc,h1,h2⟩:=h;exact ⟨loc,by rw [hβ d (by simp [L.mentions])];exact h1,h2⟩
 | junk=>trivial
theorem LRep.mono' {β:Env} {w w':World} {Im Im':Nat→Prop} (hk:Keeps w Im w' Im') {v:Value} {l:L} (h:LRep β w Im v l):LRep β w' Im' v l :=
 h.mono hk fun _ _=>rfl
def Reg.mentions (d:Nat):Reg→Bool
 | .var _ cs=>cs.any (L.mentions d)
 | .row ..=>false
 | .lrow _ _ _ es=>es.any fun e=>e.any (L.mentions d)
 | .obj _=>false
theorem Ci.mono {β β':Env} {w w':World} {Im Im':Nat→Prop} (hk:Keeps w Im w' Im') {d:Nat} {r:Reg} (hd:β' d=β d)
  (hβ:∀ e,r.mentions e=true→β' e=β e) (hb:∀ loc,β d=some loc→w'.heap[loc.blk]? = w.heap[loc.blk]?) (h:Ci β w Im d r):Ci β' w' Im' d r:=by
 cases r with
 | var T cs =>
  obtain ⟨loc,cur,h1,h2,h3,h4,h5,h6⟩:=h;refine ⟨loc,cur,by rw [hd];exact h1,h2,h3,by rw [hb loc h1];exact h4,h5,fun j v l hv hl=>⟨(h6 j v l hv hl).1.mono hk (fun e he=>hβ e ?_),(h6 j v l hv hl).2⟩⟩;simp only [Reg.mentions,List.any_eq_true];exact ⟨l,List.mem_of_getElem? hl,he⟩
 | row T sz es =>
  rcases h with ⟨h1,h2⟩ | ⟨loc,cur,h1,h2,h3,h4,h5,h6,h7,h8⟩
  ·exact .inl ⟨by rw [hd];exact h1,h2⟩
  ·refine .inr ⟨loc,cur,by rw [hd];exact h1,h2,by rw [hb loc h1];exact h3,h4,h5,h6,h7,fun i e j p hi hj=>?_⟩;obtain ⟨v,hv,hp⟩:=h8 i e j p hi hj;exact ⟨v,hv,hp.mono hk⟩
 | lrow T sz full es =>
  rcases h with ⟨h1,h2⟩ | ⟨loc,cur,h1,h2,h3,h4,h5,h6,h7,h8,h9⟩
  ·exact .inl ⟨by rw [hd];exact h1,h2⟩
  ·refine .inr ⟨loc,cur,by rw [hd];exact h1,h2,by rw [hb loc h1];exact h3,h4,h5,h6,h7,h8,fun i e j l hi hj=>?_⟩;obtain ⟨v,hv,hl,hc⟩:=h9 i e j l hi hj;refine ⟨v,hv,hl.mono hk (fun x hx=>hβ x ?_),hc⟩;simp only [Reg.mentions,List.any_eq_true];exact ⟨e,List.mem_of_getElem? hi,l,List.mem_of_getElem? hj,hx⟩
 | obj o =>
  obtain ⟨loc,h1,h2⟩:=h;exact ⟨loc,by rw [hd];exact h1,by rw [hb loc h1];exact h2.mono hk⟩
structure Fit (β:Env) (w:World) (Im:Nat→Prop) (s:St) (tmps:Array Value):Prop where
 size:tmps.size=s.tmps.length
 tmps:∀ i l,s.tmps[i]? = some l→LRep β w Im (tmps.getD i undef) l
 regs:∀ d r,(d,r)∈s.regs→Ci β w Im d r
 nodup:(s.regs.map (·.1)).Nodup
 live:∀ d r loc,(d,r)∈s.regs→β d=some loc→loc.blk<w.heap.size∧¬ Im loc.blk
 apart:∀ d r d' r' loc loc',(d,r)∈s.regs→(d',r')∈s.regs→d≠d'→β d=some loc→β d'=some loc'→loc.blk≠loc'.blk
 im:∀ b,Im b→b<w.heap.size
structure Grow (w:World) (Im:Nat→Prop) (w':World) (Im':Nat→Prop):Prop where
 os:w'.os=w.os
 tape:w'.tape=w.tape
 output:w'.output=w.output
 size:w.heap.size≤w'.heap.size
 block:∀ k,k<w.heap.size→w'.heap[k]? = w.heap[k]?
 im:∀ b,Im b→Im' b
 new:∀ b,Im' b→Im b∨w.heap.size≤b
 lt:∀ b,Im' b→b<w'.heap.size
theorem Grow.refl {w:World} {Im:Nat→Prop} (h:∀ b,Im b→b<w.heap.size):Grow w Im w Im :=
 ⟨rfl,rfl,rfl,Nat.le_refl _,fun _ _=>rfl,fun _ h=>h,fun _ h=>.inl h,h⟩
theorem Grow.keeps {w w':World} {Im Im':Nat→Prop} (h:Grow w Im w' Im') (hi:∀ b,Im b→b<w.heap.size):Keeps w Im w' Im' :=
 ⟨h.im,fun b hb=>h.block b (hi b hb)⟩
theorem Fit.grow {β:Env} {w w':World} {Im Im':Nat→Prop} {s:St} {tmps:Array Value} (h:Fit β w Im s tmps) (g:Grow w Im w' Im'):Fit β w' Im' s tmps where
 size:=h.size
 tmps i l hl:=(h.tmps i l hl).mono' (g.keeps h.im)
 regs d r hr:=(h.regs d r hr).mono (g.keeps h.im) rfl (fun _ _=>rfl) fun loc hl=>g.block _ (h.live d r loc hr hl).1
 nodup:=h.nodup
 live d r loc hr hl:=⟨Nat.lt_of_lt_of_le (h.live d r loc hr hl).1 g.size,fun hi=>(g.new _ hi).elim (h.live d r loc hr hl).2 fun h'=>by have:=(h.live d r loc hr hl).1;omega⟩
 apart:=h.apart
 im:=g.lt
def St.put (s:St) (dst:Option Tmp) (l:L):St :=
 match dst with
 | some d=>{ s with tmps:=s.tmps.set d l }
 | none=>s
theorem Fit.put {β:Env} {w:World} {Im:Nat→Prop} {s:St} {a:Act} (h:Fit β w Im s a.tmps) (dst:Option Tmp) {v:Value} {l:L} (hl:LRep β w Im v l) :
  Fit β w Im (s.put dst l) (a.put dst v).tmps:=by
 cases dst with
 | none=>exact h
 | some d =>
  refine { h with size:=by simp [St.put,Act.put,h.size],tmps:=fun i l' hi=>?_ };simp only [St.put,Act.put] at hi ⊢;rw [List.getElem?_set] at hi;by_cases hd:d=i
  ·subst hd;rw [if_pos rfl] at hi;split at hi
   ·cases hi;rename_i hlt;have:d<a.tmps.size:=by rw [h.size];exact hlt
    simp [Array.getD_eq_getD_getElem?,this];exact hl
   ·cases hi
  ·rw [if_neg hd] at hi;have:=h.tmps i l' hi;simpa [Array.getD_eq_getD_getElem?,Array.getElem?_setIfInBounds,hd] using this
def B2 (P:Program) (t:TypeId):Option Bool :=
 match P.underlying t with
 | some (.struct _)=>some true
 | some (.array _ _)=>some true
 | some _=>some false
 | none=>none
def slE (P:Program) (t:TypeId):Option (TypeId×Nat) :=
 match P.underlying t with
 | some (.slice e)=>if P.cellsOf e=0 then none else some (e,P.cellsOf e)
 | _=>none
def arE (P:Program) (t:TypeId):Option (Nat×TypeId×Nat) :=
 match P.underlying t with
 | some (.array n e)=>if P.cellsOf e=0 then none else some (n,e,P.cellsOf e)
 | _=>none
def fld (P:Program) (t:TypeId) (i:Nat):Option (Nat×TypeId) :=
 match P.underlying t with
 | some (.struct fs)=>(fs[i]?).bind fun f=>if P.cellsOf f.type=0 then none else some (f.offset,f.type)
 | _=>none
def Gr:Value→Option PV
 | .bool b=>some (.bool b)
 | .int k n=>some (.int k n)
 | .string s=>some (.str s.data.toList)
 | .slice none 0 0=>some .snil
 | .pointer none=>some .nptr
 | .map none=>some .nmap
 | .nilFunc=>some .nfn
 | .nilIface=>some .nifc
 | _=>none
def Bg {α β:Type} (f:α→Option β):List α→Option (List β)
 | []=>some []
 | a :: l=>match f a with
  | some b=>match Bg f l with
   | some bs=>some (b :: bs)
   | none=>none
  | none=>none
def Bu (P:Program) (t:TypeId):Option (List PV) :=
 match P.info? t with
 | some i=>match i.zero with
  | some v=>Bg Gr v.cells.toList
  | none=>none
 | none=>none
def G6:Value→L
 | .tuple vs=>if vs.size=0 then .tup [] else .junk
 | .agg cs=>match Bg Gr cs.toList with
  | some ps=>.p (.agg ps)
  | none=>.junk
 | v=>match Gr v with
  | some x=>.p x
  | none=>.junk
def St.get (s:St):Operand→L
 | .tmp t=>s.tmps.getD t .junk
 | .const v=>G6 v
 | .global _=>.junk
 | .func f=>.fn f []
def Am (d:Nat):List (Nat×Reg)→Option Reg
 | []=>none
 | (e,r) :: rest=>if e=d then some r else Am d rest
theorem Ax {d:Nat} {r:Reg}:∀ {l:List (Nat×Reg)},Am d l=some r→(d,r)∈l
 | (e,r') :: rest,h=>by
  simp only [Am] at h;split at h
  ·rename_i he;cases h;subst he;exact List.mem_cons_self
  ·exact List.mem_cons_of_mem _ (Ax h)
def lint (op:BinOp) (k:IntKind) (a:Int) (k':IntKind) (b:Int) (K:L→Prop):Prop :=
 match op with
 | .shl=>0≤b∧K (.p (.int k (k.wrap (a * 2 ^ min b.toNat k.bits))))
 | .shr=>0≤b∧K (.p (.int k (a.fdiv (2 ^ min b.toNat k.bits))))
 | .add=>k=k'∧K (.p (.int k (k.wrap (a+b))))
 | .sub=>k=k'∧K (.p (.int k (k.wrap (a - b))))
 | .mul=>k=k'∧K (.p (.int k (k.wrap (a * b))))
 | .quo=>k=k'∧b≠0∧K (.p (.int k (k.wrap (a.tdiv b))))
 | .rem=>k=k'∧b≠0∧K (.p (.int k (a.tmod b)))
 | .and=>k=k'∧K (.p (.int k (k.wrap (BitVec.ofInt k.bits a &&& BitVec.ofInt k.bits b).toNat)))
 | .or=>k=k'∧K (.p (.int k (k.wrap (BitVec.ofInt k.bits a ||| BitVec.ofInt k.bits b).toNat)))
 | .xor=>k=k'∧K (.p (.int k (k.wrap (BitVec.ofInt k.bits a ^^^ BitVec.ofInt k.bits b).toNat)))
 | .andNot=>k=k'∧K (.p (.int k (k.wrap (BitVec.ofInt k.bits a &&& ~~~ BitVec.ofInt k.bits b).toNat)))
 | .eql=>k=k'∧K (.p (.bool (a == b)))
 | .neq=>k=k'∧K (.p (.bool (a != b)))
 | .lss=>k=k'∧K (.p (.bool (decide (a<b))))
 | .leq=>k=k'∧K (.p (.bool (decide (a≤b))))
 | .gtr=>k=k'∧K (.p (.bool (decide (b<a))))
 | .geq=>k=k'∧K (.p (.bool (decide (b≤a))))
def lstr (op:BinOp) (a b:List UInt8) (K:L→Prop):Prop :=
 match op with
 | .add=>a.length+b.length≤9223372036854775807∧K (.p (.str (a ++ b)))
 | .eql=>K (.p (.bool (a == b)))
 | .neq=>K (.p (.bool (!(a == b))))
 | .lss=>K (.p (.bool (Op.bytesLess a b)))
 | .leq=>K (.p (.bool (Op.bytesLess a b || a == b)))
 | .gtr=>K (.p (.bool (!(Op.bytesLess a b || a == b))))
 | .geq=>K (.p (.bool (!(Op.bytesLess a b))))
 | _=>False
inductive Tag where
 | bool
 | int
 | str
def Bt:List Tag→List PV→List PV→Option Bool
 | [],[],[]=>some true
 | .bool :: ts,.bool a :: l,.bool b :: r=>match Bt ts l r with
  | some x=>some ((a == b) && x)
  | none=>none
 | .int :: ts,.int k a :: l,.int k' b :: r=>if k=k' then match Bt ts l r with
  | some x=>some ((a == b) && x)
  | none=>none else none
 | .str :: ts,.str a :: l,.str b :: r=>match Bt ts l r with
  | some x=>some ((a == b) && x)
  | none=>none
 | _,_,_=>none
mutual
def L1 (P:Program):Nat→TypeId→Option (List Tag)
 | 0,_=>none
 | m+1,t=>match P.underlying t with
  | some .bool=>some [.bool]
  | some (.int _)=>some [.int]
  | some .string=>some [.str]
  | some (.struct fs)=>if P.stoodInHeld t=true then none else Lw P m 0 fs.toList
  | _=>none
def Lw (P:Program):Nat→Nat→List Field→Option (List Tag)
 | _,_,[]=>some []
 | 0,_,_ :: _=>none
 | m+1,n,f :: fs=>match L1 P m f.type with
  | some a=>if f.offset=n∧f.name ≠ "_" ∧ P.cellsOf f.type=a.length∧a.length≠0 then match Lw P m (n+a.length) fs with
   | some b=>some (a ++ b)
   | none=>none else none
  | none=>none
end
def Nt (P:Program) (t:TypeId):Option (List Tag) :=
 if B2 P t=some true∧P.eqGuardType P.depth t=false then L1 P 100 t else none
def Fy (P:Program) (t:TypeId) (cst:Bool) (x y:L):Option Bool :=
 match P.underlying t,x,y with
 | some (.pointer _),.p .nptr,.p .nptr=>some true
 | some (.pointer _),.ptr _ _ _,.p .nptr=>some false
 | some (.pointer _),.eptr _,.p .nptr=>some false
 | some (.pointer e),.ptr d i j,.ptr d' i' j'=>if d=d'∧i=i'∧j=j'∧P.cellsOf e≠0 then some true else none
 | some (.interface _),.p .nifc,.p .nifc=>if cst=true then some true else none
 | some (.interface _),.p .ifc,.p .nifc=>some false
 | some (.interface _),.p .nifc,.p .ifc=>some false
 | some (.interface _),.p (.ifi _ _ _),.p .nifc=>some false
 | some (.interface _),.p .nifc,.p (.ifi _ _ _)=>some false
 | some (.slice _),.p .snil,.p .snil=>some true
 | some (.slice _),.p (.sl (_ :: _)),.p .snil=>some false
 | some (.slice _),.own _ _ (_+1),.p .snil=>some false
 | some (.map _ _),.p .nmap,.p .nmap=>some true
 | some (.map _ _),.mref _,.p .nmap=>some false
 | some (.map _ _),.p (.mp _),.p .nmap=>some false
 | some (.func _ _ _),.p .nfn,.p .nfn=>some true
 | some (.func _ _ _),.fn _ _,.p .nfn=>some false
 | some (.func _ _ _),.cfn _ _,.p .nfn=>some false
 | _,_,_=>none
def Db (o:Option Bool) (op:BinOp) (K:L→Prop):Prop :=
 match o,op with
 | some r,.eql=>K (.p (.bool r))
 | some r,.neq=>K (.p (.bool (!r)))
 | _,_=>False
def D8:Operand→Bool
 | .const _=>true
 | _=>false
def lbin (P:Program) (op:BinOp) (t:TypeId) (cst:Bool) (x y:L) (K:L→Prop):Prop :=
 match x,y with
 | .p (.int k a),.p (.int k' b)=>lint op k a k' b K
 | .p (.str a),.p (.str b)=>lstr op a b K
 | .p (.bool a),.p (.bool b)=>P.underlying t=some .bool∧match op with
  | .eql=>K (.p (.bool (a == b)))
  | .neq=>K (.p (.bool (!(a == b))))
  | _=>False
 | .p (.agg a),.p (.agg b)=>∃ ts,Nt P t=some ts∧∃ r,Bt ts a b=some r∧match op with
  | .eql=>K (.p (.bool r))
  | .neq=>K (.p (.bool (!r)))
  | _=>False
 | x,y=>Db (Fy P t cst x y) op K
def lun (op:UnOp) (x:L) (K:L→Prop):Prop :=
 match op,x with
 | .neg,.p (.int k n)=>K (.p (.int k (k.wrap (0 - n))))
 | .not,.p (.bool b)=>K (.p (.bool (!b)))
 | _,_=>False
def Cw:List (List PV)→Option (List UInt8)
 | []=>some []
 | [.int .u8 n] :: l=>if 0≤n∧n<256 then match Cw l with
  | some bs=>some (UInt8.ofNat n.toNat :: bs)
  | none=>none else none
 | _=>none
def J1 (P:Program) (src dst:TypeId) (x:L) (K:L→Prop):Prop :=
 match P.underlying dst,x with
 | some (.int k),.p (.int _ n)=>(P.underlying src).isSome=true∧K (.p (.int k (k.wrap n)))
 | some .string,.p (.str s)=>(P.underlying src).isSome=true∧(∀ e,P.underlying src≠some (.slice e))∧K (.p (.str s))
 | some .string,.p (.int _ n)=>(P.underlying src).isSome=true∧(∀ e,P.underlying src≠some (.slice e))∧K (.p (.str (Utf8.encode n).data.toList))
 | some .string,.p (.sl es)=>(∃ e,P.underlying src=some (.slice e)∧P.underlying e=some (.int .u8))∧∃ bs,Cw es=some bs∧K (.p (.str bs))
 | _,_=>False
def llen (P:Program) (t:TypeId) (x:L) (K:L→Prop):Prop :=
 match P.underlying t,x with
 | some .string,.p (.str s)=>K (.p (.int .i64 s.length))
 | some (.slice _),.p (.sl es)=>K (.p (.int .i64 es.length))
 | some (.slice _),.p .snil=>K (.p (.int .i64 0))
 | some (.slice _),.own _ _ len=>K (.p (.int .i64 len))
 | some (.map _ _),.p .nmap=>K (.p (.int .i64 0))
 | some (.map _ _),.p (.mp es)=>K (.p (.int .i64 es.length))
 | _,_=>False
def Dg (P:Program) (regs:List (Nat×Reg)) (t:TypeId) (x ix:L) (K:L→Prop):Prop :=
 match x,ix with
 | .p (.sl es),.p (.int _ i)=>match slE P t with
  | some (_,sz)=>0≤i∧∃ e,es[i.toNat]? = some e∧e.length=sz∧K (.eptr e)
  | none=>False
 | .own d off len,.p (.int _ i)=>match Am d regs,slE P t with
  | some (.row _ sz _),some (_,sz')=>sz=sz'∧0≤i∧i<len∧K (.ptr d (off+i.toNat) 0)
  | some (.lrow _ sz _ _),some (_,sz')=>sz=sz'∧0≤i∧i<len∧K (.ptr d (off+i.toNat) 0)
  | _,_=>False
 | .ptr d a b,.p (.int _ i)=>match arE P t with
  | some (n,_,sz)=>0≤i∧i<n∧K (.ptr d a (b+i.toNat * sz))
  | none=>False
 | .eptr cs,.p (.int _ i)=>match arE P t with
  | some (n,_,sz)=>0≤i∧i<n∧i.toNat * sz≤cs.length∧K (.eptr (cs.drop (i.toNat * sz)))
  | none=>False
 | _,_=>False
def Ix (P:Program) (t:TypeId) (x ix:L) (K:L→Prop):Prop :=
 match P.underlying t,x,ix with
 | some .string,.p (.str s),.p (.int _ i)=>0≤i∧∃ b,s[i.toNat]? = some b∧K (.p (.int .u8 b.toNat))
 | some (.array n e),.p (.agg cs),.p (.int _ i)=>B2 P e=some false∧P.cellsOf e=1∧0≤i∧i<n∧∃ c,cs[i.toNat]? = some c∧K (.p c)
 | _,_,_=>False
def D2 (P:Program) (t:TypeId) (x:L) (f:Nat) (K:L→Prop):Prop :=
 match fld P t f,x with
 | some (off,_),.eptr cs=>off≤cs.length∧K (.eptr (cs.drop off))
 | some (off,_),.ptr d i j=>K (.ptr d i (j+off))
 | _,_=>False
def Q5 (P:Program) (t:TypeId) (x:L) (f:Nat) (K:L→Prop):Prop :=
 match fld P t f,x with
 | some (off,ft),.p (.agg cs)=>match B2 P ft with
  | some true=>off+P.cellsOf ft≤cs.length∧K (.p (.agg ((cs.drop off).take (P.cellsOf ft))))
  | some false=>P.cellsOf ft=1∧∃ c,cs[off]? = some c∧K (.p c)
  | none=>False
 | _,_=>False
def L.pure? : L→Option PV
 | .p x=>some x
 | _=>none
def Jc (P:Program) (regs:List (Nat×Reg)) (t:TypeId) (x:L) (K:L→Prop):Prop :=
 match B2 P t,x with
 | some false,.eptr cs=>∃ c,cs[0]? = some c∧K (.p c)
 | some true,.eptr cs=>0<P.cellsOf t∧P.cellsOf t≤cs.length∧K (.p (.agg (cs.take (P.cellsOf t))))
 | some false,.ptr d i j=>match Am d regs with
  | some (.var _ cs)=>i=0∧∃ c,cs[j]? = some c∧K c
  | some (.row _ _ es)=>∃ e,es[i]? = some e∧∃ c,e[j]? = some c∧K (.p c)
  | some (.lrow _ _ _ es)=>∃ e,es[i]? = some e∧∃ c,e[j]? = some c∧K c
  | some (.obj _)=>False
  | none=>False
 | some true,.ptr d i j=>match Am d regs with
  | some (.var _ cs)=>i=0∧0<P.cellsOf t∧j+P.cellsOf t≤cs.length∧∃ ps,Bg L.pure? ((cs.drop j).take (P.cellsOf t))=some ps∧K (.p (.agg ps))
  | some (.row _ _ es)=>∃ e,es[i]? = some e∧0<P.cellsOf t∧j+P.cellsOf t≤e.length∧K (.p (.agg ((e.drop j).take (P.cellsOf t))))
  | some (.lrow _ _ _ es)=>∃ e,es[i]? = some e∧0<P.cellsOf t∧j+P.cellsOf t≤e.length∧∃ ps,Bg L.pure? ((e.drop j).take (P.cellsOf t))=some ps∧K (.p (.agg ps))
  | some (.obj _)=>False
  | none=>False
 | _,_=>False
def Dr (ρ:Operand→L) (d:Int):Option Operand→Option Int
 | none=>some d
 | some o=>match ρ o with
  | .p (.int _ n)=>some n
  | _=>none
def Gx (regs:List (Nat×Reg)) (d:Nat):Nat :=
 match Am d regs with
 | some (.row _ _ es)=>es.length
 | some (.lrow _ _ _ es)=>es.length
 | _=>0
def Pa (regs:List (Nat×Reg)) (d:Nat):Option Nat :=
 match Am d regs with
 | some (.row _ sz _)=>some sz
 | some (.lrow _ sz _ _)=>some sz
 | _=>none
def G2 (P:Program) (regs:List (Nat×Reg)) (t:TypeId) (ρ:Operand→L) (x:Operand) (lo hi mx:Option Operand) (K:L→Prop):Prop :=
 mx=none∧match P.underlying t,ρ x with
 | some .string,.p (.str s)=>∃ l h,Dr ρ 0 lo=some l∧Dr ρ s.length hi=some h∧0≤l∧l≤h∧h≤s.length∧K (.p (.str ((s.drop l.toNat).take (h.toNat - l.toNat))))
 | some (.slice e),.p (.sl es)=>0<P.cellsOf e∧(∀ x∈es,x.length=P.cellsOf e)∧∃ l h,Dr ρ 0 lo=some l∧Dr ρ es.length hi=some h∧0≤l∧l≤h∧h≤es.length∧K (.p (.sl ((es.drop l.toNat).take (h.toNat - l.toNat))))
 | some (.slice e),.p .snil=>0<P.cellsOf e∧∃ l h,Dr ρ 0 lo=some l∧Dr ρ 0 hi=some h∧l=0∧h=0∧K (.p .snil)
 | some (.slice e),.own d off len=>0<P.cellsOf e∧Pa regs d=some (P.cellsOf e)∧∃ l h,Dr ρ 0 lo=some l∧Dr ρ len hi=some h∧0≤l∧l≤h∧h≤(max len (Gx regs d - off):Nat)∧K (.own d (off+l.toNat) (h.toNat - l.toNat))
 | _,_=>False
def Fj (isMax:Bool) (xs:List L) (K:L→Prop):Prop :=
 match xs with
 | [.p (.int k a),.p (.int _ b)]=>if isMax then K (.p (.int k (max a b))) else K (.p (.int k (min a b)))
 | _=>False
def Ef (P:Program) (t:TypeId):List PV→List (Nat×L)→Option (List PV)
 | cs,[]=>some cs
 | cs,(i,x) :: rest=>match fld P t i,x with
  | some (off,ft),.p (.agg xs)=>if xs.length=P.cellsOf ft∧off+xs.length≤cs.length then Ef P t (cs.take off ++ xs ++ cs.drop (off+xs.length)) rest else none
  | some (off,ft),.p v=>if 1=P.cellsOf ft∧off+1≤cs.length then Ef P t (cs.set off v) rest else none
  | _,_=>none
def Ez (P:Program) (t:TypeId):Bool :=
 match P.underlying t with
 | some (.struct fs)=>fs.toList.all fun f=>P.cellsOf f.type != 0
 | _=>false
def Vf (P:Program) (t:TypeId) (parts:List (Nat×L)) (K:L→Prop):Prop :=
 ∃ z,Bu P t=some z∧Ez P t=true∧∃ cs,Ef P t z parts=some cs∧K (.p (.agg cs))
def Hq:List L→Option (List Nat)
 | []=>some []
 | .ptr d 0 0 :: l=>match Hq l with
  | some ds=>some (d :: ds)
  | none=>none
 | _=>none
def Lc:PV→PV→Option Bool
 | .int k a,.int k' b=>if k=k' then some (a == b) else none
 | .str a,.str b=>some (a == b)
 | .bool a,.bool b=>some (a == b)
 | _,_=>none
def Cl (k:PV):List (PV×PV)→Nat→Option (Option (Nat×PV))
 | [],_=>some none
 | (x,v) :: es,i=>match Lc k x with
  | some true=>some (some (i,v))
  | some false=>Cl k es (i+1)
  | none=>none
def mapT (P:Program) (t:TypeId):Option (TypeId×TypeId) :=
 match P.underlying t with
 | some (.map k e)=>match P.underlying k with
  | some (.int _)=>some (k,e)
  | some .string=>some (k,e)
  | some .bool=>some (k,e)
  | _=>none
 | _=>none
def kfit (d:TypeDesc) (k:PV):Bool :=
 match d,k with
 | .int q,.int q' _=>q == q'
 | .string,.str _=>true
 | .bool,.bool _=>true
 | _,_=>false
def De (P:Program) (t:TypeId) (k:PV):Bool :=
 match P.underlying t with
 | some d=>kfit d k
 | none=>false
def Jh9:Value→Bool
 | .agg _=>true
 | _=>false
def E5 (P:Program) (t:TypeId):Option PV :=
 match (P.info? t).bind (·.zero),Bu P t with
 | some v,some zs=>if Jh9 v=true then some (.agg zs) else match zs with
  | [z]=>some z
  | _=>none
 | _,_=>none
def Tz (regs:List (Nat×Reg)) (x:L):Option (List (PV×PV)) :=
 match x with
 | .p .nmap=>some []
 | .p (.mp es)=>some es
 | .mref d=>match Am d regs with
  | some (.obj (.mp es))=>some es
  | _=>none
 | _=>none
def Yc (P:Program) (regs:List (Nat×Reg)) (t:TypeId) (x ix:L) (ok:Bool) (l:L):Prop :=
 match mapT P t,Tz regs x,ix with
 | some (kt,et),some es,.p k=>De P kt k=true∧∃ r,Cl k es 0=some r∧∃ z,E5 P et=some z ∧
   l
    = (match r,ok with
    | some (_,v),true=>.tup [v,.bool true]
    | none,true=>.tup [z,.bool false]
    | some (_,v),false=>.p v
    | none,false=>.p z)
 | _,_,_=>False
def M8 (t:TypeId):L→PV
 | .p (.int k n)=>.ifi t k n
 | _=>.ifc
def lqv (P:Program) (regs:List (Nat×Reg)) (ρ:Operand→L) (op:Op) (l:L):Prop :=
 match op with
 | .makeInterface t x=>(∃ d,P.underlying t=some d∧∀ ms,d≠.interface ms)∧l=.p (M8 t (ρ x))
 | .lookup t x ix ok=>Yc P regs t (ρ x) (ρ ix) ok l
 | .call { callee:=.builtin .cap,args,argTypes }=>match args.toList,argTypes.toList with
  | [x],[t]=>(∃ e,P.underlying t=some (.slice e))∧match ρ x with
   | .p .snil=>l=.p (.int .i64 0)
   | .own d off _=>match Am d regs with
    | some (.lrow _ _ true es)=>l=.p (.int .i64 (es.length - off:Nat))
    | _=>False
   | _=>False
  | _,_=>False
 | .call { callee:=.builtin .unsafeSliceData,args,.. }=>match args.toList with
  | [x]=>match ρ x with
   | .p .snil=>l=.p .nptr
   | .own d off n=>0<n∧l=.ptr d off 0
   | _=>False
  | _=>False
 | .call { callee:=.builtin .unsafeString,args,argTypes }=>match args.toList,argTypes.toList with
  | [x,y],_ :: _=>ρ x=.p .nptr∧(∃ k,ρ y=.p (.int k 0))∧l=.p (.str [])
  | _,_=>False
 | _=>False
def lq (P:Program) (regs:List (Nat×Reg)) (ρ:Operand→L) (op:Op) (K:L→Prop):Prop :=
 match op with
 | .move x=>K (ρ x)
 | .assign x=>K (ρ x)
 | .pick c a b=>match ρ c with
  | .p (.bool t)=>(t=true→K (ρ a))∧(t=false→K (ρ b))
  | _=>False
 | .binOp op t x y _=>lbin P op t (D8 x || D8 y) (ρ x) (ρ y) K
 | .unOp op _ x=>lun op (ρ x) K
 | .convert src dst x=>J1 P src dst (ρ x) K
 | .nilCheck x=>match ρ x with
  | .ptr d i j=>K (.ptr d i j)
  | .eptr cs=>K (.eptr cs)
  | .fn f ds=>K (.fn f ds)
  | _=>False
 | .load t a=>Jc P regs t (ρ a) K
 | .fieldAddr t x f=>D2 P t (ρ x) f K
 | .field t x f=>Q5 P t (ρ x) f K
 | .indexAddr t x ix=>Dg P regs t (ρ x) (ρ ix) K
 | .index t x ix=>Ix P t (ρ x) (ρ ix) K
 | .slice t x lo hi mx=>G2 P regs t ρ x lo hi mx K
 | .extract x i=>match ρ x with
  | .tup xs=>∃ c,xs[i]? = some c∧K (.p c)
  | _=>False
 | .build t parts=>Vf P t (parts.toList.map fun (i,x)=>(i,ρ x)) K
 | .makeFunc (.func f) first caps=>first = #[]∧∃ ds,Hq (caps.toList.map ρ)=some ds∧K (.fn f ds)
 | .call { callee:=.builtin .len,args,argTypes }=>match args.toList,argTypes.toList with
  | [x],[t]=>llen P t (ρ x) K
  | _,_=>False
 | .call { callee:=.builtin .max,args,.. }=>Fj true (args.toList.map ρ) K
 | .call { callee:=.builtin .min,args,.. }=>Fj false (args.toList.map ρ) K
 | op=>∃ l,lqv P regs ρ op l∧K l
section
variable {P:Program} {β:Env} {w:World} {Im:Nat→Prop}
theorem E6 {v:Value} {x:PV} (h:Gr v=some x):PRep w Im v x∧x.scalar=true:=by
 unfold Gr at h;split at h <;> cases h
 ·exact ⟨.bool _,rfl⟩
 ·exact ⟨.int _ _,rfl⟩
 ·rename_i s;exact ⟨.str s.data.toList,rfl⟩
 ·exact ⟨.snil,rfl⟩
 ·exact ⟨.nptr,rfl⟩
 ·exact ⟨.nmap,rfl⟩
 ·exact ⟨.nfn,rfl⟩
 ·exact ⟨.nifc,rfl⟩
theorem Bh {α γ:Type} {f:α→Option γ}:∀ {l:List α} {bs:List γ},Bg f l=some bs→l.length=bs.length∧∀ (i:Nat) (a:α) (b:γ),l[i]? = some a→bs[i]? = some b→f a=some b
 | [],bs,h=>by simp only [Bg] at h;cases h;exact ⟨rfl,fun i a b ha=>by simp at ha⟩
 | a :: l,bs,h=>by
  simp only [Bg] at h;split at h
  ·rename_i b hb;split at h
   ·rename_i bs' hbs;cases h;obtain ⟨h1,h2⟩:=Bh hbs;refine ⟨by simp [h1],fun i x y hx hy=>?_⟩;cases i with
    | zero=>simp at hx hy;subst hx hy;exact hb
    | succ i=>simp at hx hy;exact h2 i x y hx hy
   ·cases h
  ·cases h
theorem getElem?_of_length {α γ:Type} {l:List α} {r:List γ} (h:l.length=r.length) {i:Nat} {b:γ} (hb:r[i]? = some b):∃ a,l[i]? = some a:=by
 have:=(List.getElem?_eq_some_iff.1 hb).1;exact ⟨l[i]'omg,List.getElem?_eq_getElem _⟩
theorem Dl {l:List Value} {ps:List PV} (h:Bg Gr l=some ps):∀ p∈ps,p.scalar=true:=by
 intro p hp;obtain ⟨i,hi,rfl⟩:=List.getElem_of_mem hp;obtain ⟨h1,h2⟩:=Bh h;obtain ⟨a,ha⟩:=getElem?_of_length h1 (List.getElem?_eq_getElem hi);exact (E6 (w:=default) (Im:=fun _=>True) (h2 i a _ ha (List.getElem?_eq_getElem hi))).2
theorem Jgw (v:Value):LRep β w Im v (G6 v):=by
 cases v with
 | tuple vs =>
  obtain ⟨l⟩:=vs;simp only [G6];split
  ·rename_i h;have:l=[]:=by simpa using h
   subst this;exact ⟨[],rfl,rfl,fun i x p h=>by simp at h⟩
  ·trivial
 | agg cs =>
  obtain ⟨l⟩:=cs;simp only [G6];split
  ·rename_i ps h;obtain ⟨h1,h2⟩:=Bh h;exact .agg l ps h1 (Dl h) fun i v p hv hp=>(E6 (h2 i v p hv hp)).1
  ·trivial
 | _ =>
  simp only [G6];split
  ·rename_i h;exact (E6 h).1
  ·trivial
theorem A2 {s:St} {a:Act} (hf:Fit β w Im s a.tmps) (x:Operand):LRep β w Im (a.eval x) (s.get x):=by
 cases x with
 | tmp t =>
  simp only [St.get,Act.eval,List.getD_eq_getElem?_getD];cases h:s.tmps[t]? with
  | none=>trivial
  | some l=>exact hf.tmps t l h
 | const v=>exact Jgw v
 | global g=>trivial
 | func f=>exact ⟨[],rfl,rfl,fun i x d h=>by simp at h⟩
theorem Bk {t n:Nat} (h:P.cellsOf t=n) (hn:n≠0) (w:World):(sizeOf t).run P w=.ok n w:=by
 unfold Program.cellsOf at h;unfold sizeOf typeInfo;cases hi:P.info? t with
 | none=>rw [hi] at h;simp at h;omega
 | some i =>
  rw [hi] at h;simp at h;simp [hi,h]
theorem Iu {t:TypeId} {b:Bool} (h:B2 P t=some b) (w:World):(isAgg t).run P w=.ok b w:=by
 unfold B2 at h;unfold isAgg;split at h
 ·rename_i ht;cases h;simp [run_underlying ht]
 ·rename_i ht;cases h;simp [run_underlying ht]
 ·rename_i d h1 h2 ht;cases h;simp only [Sem.run_bind,run_underlying ht,Result.andThen_ok];cases d <;> first | rfl | (exfalso;first | exact h1 _ ht | exact h2 _ _ ht)
 ·cases h
theorem Hk {t e:TypeId} (h:P.underlying t=some (.slice e)):P.elem t=e:=by simp [Program.elem,h]
theorem Juc {v:Value} {es:List (List PV)} (h:PRep w Im v (.sl es)):∃ a cap,v=.slice a es.length cap∧es.length≤cap∧(a=none→es=[]∧cap=0):=by
 cases h with
 | slNil=>exact ⟨none,0,rfl,Nat.le_refl _,fun _=>⟨rfl,rfl⟩⟩
 | sl b off cap sz es hcap=>exact ⟨_,cap,rfl,hcap,fun h=>by cases h⟩
def C0 (β:Env) (Im:Nat→Prop) (w:World) (r:Result Value) (K:L→Prop):Prop:=∃ v l,r=.ok v w∧LRep β w Im v l∧K l
theorem Dz {r:Result Value} {K:L→Prop} {k:IntKind} {n:Int} (h:K (.p (.int k n))) (hr:r=.ok (.int k n) w):C0 β Im w r K:=⟨_,.p (.int k n),hr,PRep.int k n,h⟩
theorem I5 {r:Result Value} {K:L→Prop} {b:Bool} (h:K (.p (.bool b))) (hr:r=.ok (.bool b) w):C0 β Im w r K:=⟨_,.p (.bool b),hr,PRep.bool b,h⟩
theorem X2 {r:Result Value} {K:L→Prop} {s:List UInt8} (h:K (.p (.str s))) (hr:r=.ok (.string ⟨⟨s⟩⟩) w):C0 β Im w r K:=⟨_,.p (.str s),hr,PRep.str s,h⟩
theorem Wh {r:Result Value} {K:L→Prop} {v:Value} (l:L) (h:K l) (hr:r=.ok v w) (hl:LRep β w Im v l):C0 β Im w r K:=⟨v,l,hr,hl,h⟩
theorem y_p {r:Result Value} {K:L→Prop} {v:Value} (x:PV) (h:K (.p x)) (hr:r=.ok v w) (hl:PRep w Im v x):C0 β Im w r K:=⟨v,.p x,hr,hl,h⟩
theorem Jbu {op:BinOp} {k k':IntKind} {a b:Int} {K:L→Prop} (t:TypeId) (x y:Operand) (h:lint op k a k' b K) :
  C0 β Im w ((do eqGuard op t x y (.int k a) (.int k' b);binOp op t (.int k a) (.int k' b):Sem Value).run P w) K:=by
 cases op <;> simp only [lint] at h
 case shl=>exact Dz h.2 (by simp [eqGuard_at_int,binOp,Op.shift];omega)
 case shr=>exact Dz h.2 (by simp [eqGuard_at_int,binOp,Op.shift];omega)
 case quo=>obtain ⟨rfl,h0,h⟩:=h;exact Dz h (by simp [eqGuard_at_int,binOp,Op.intDiv,h0])
 case rem=>obtain ⟨rfl,h0,h⟩:=h;exact Dz h (by simp [eqGuard_at_int,binOp,Op.intDiv,h0])
 case add=>obtain ⟨rfl,h⟩:=h;exact Dz h (by simp [eqGuard_at_int,binOp,Op.intArith])
 case sub=>obtain ⟨rfl,h⟩:=h;exact Dz h (by simp [eqGuard_at_int,binOp,Op.intArith])
 case mul=>obtain ⟨rfl,h⟩:=h;exact Dz h (by simp [eqGuard_at_int,binOp,Op.intArith])
 case and=>obtain ⟨rfl,h⟩:=h;exact Dz h (by simp [eqGuard_at_int,binOp,Op.intBits])
 case or=>obtain ⟨rfl,h⟩:=h;exact Dz h (by simp [eqGuard_at_int,binOp,Op.intBits])
 case xor=>obtain ⟨rfl,h⟩:=h;exact Dz h (by simp [eqGuard_at_int,binOp,Op.intBits])
 case andNot=>obtain ⟨rfl,h⟩:=h;exact Dz h (by simp [eqGuard_at_int,binOp,Op.intBits])
 all_goals (obtain ⟨rfl,h⟩:=h;exact I5 h (by simp [eqGuard_at_int,binOp,Op.intCmp]))
theorem Qr (l:List UInt8):(ByteArray.mk ⟨l⟩).toList=l:=by rw [ByteArray.toList_eq]
theorem Jaz {op:BinOp} {a b:List UInt8} {K:L→Prop} (t:TypeId) (x y:Operand) (h:lstr op a b K) :
  C0 β Im w ((do eqGuard op t x y (.string ⟨⟨a⟩⟩) (.string ⟨⟨b⟩⟩);binOp op t (.string ⟨⟨a⟩⟩) (.string ⟨⟨b⟩⟩):Sem Value).run P w) K:=by
 cases op <;> simp only [lstr] at h
 case add =>
  refine X2 h.2 ?_;simp only [eqGuard_at_string,binOp,Op.stringOp,pure_bind];rw [if_neg]
  ·simp only [Sem.run_pure];congr 2
  ·show ¬ (((a.length+b.length:Nat):Int) > IntKind.i64.max);have:IntKind.i64.max=9223372036854775807:=by decide
   omega
 all_goals first | exact h.elim | exact I5 h (by simp [eqGuard_at_string,binOp,Op.stringOp])
theorem Ep:∀ {ts:List Tag} {a b:List PV} {r:Bool},Bt ts a b=some r→a.length=ts.length∧b.length=ts.length:=by
 intro ts
 induction ts with
 | nil=>intro a b r h;cases a <;> cases b <;> simp [Bt] at h ⊢
 | cons t ts ih =>
  intro a b r h;unfold Bt at h;split at h <;> first | (cases h;done) | skip
  all_goals (rename_i heq;cases heq)
  all_goals first
   | (
    split at h <;> first | (cases h;done) | skip
    rename_i hx;have:=ih hx;simp;omega)
   | (
    split at h <;> first | (cases h;done) | skip
    split at h <;> first | (cases h;done) | skip
    rename_i hx;have:=ih hx;simp;omega)
theorem Fg:∀ {ts us:List Tag} {a b:List PV} {r:Bool},Bt (ts ++ us) a b=some r →
  ∃ r1 r2,Bt ts (a.take ts.length) (b.take ts.length)=some r1∧Bt us (a.drop ts.length) (b.drop ts.length)=some r2∧r=(r1 && r2)
 | [],us,a,b,r,h=>⟨true,r,by simp [Bt],by simpa using h,by simp⟩
 | t :: ts,us,a,b,r,h=>by
  simp only [List.cons_append] at h;unfold Bt at h;split at h <;> first | (cases h;done) | skip
  all_goals (rename_i heq;cases heq)
  ·split at h <;> cases h;rename_i hx;obtain ⟨r1,r2,h3,h4,h5⟩:=Fg hx;exact ⟨_,r2,by simp [Bt,h3];rfl,by simpa using h4,by rw [h5,Bool.and_assoc]⟩
  ·split at h
   ·rename_i hk;split at h <;> cases h;rename_i hx;obtain ⟨r1,r2,h3,h4,h5⟩:=Fg hx;exact ⟨_,r2,by simp only [List.length_cons,List.take_succ_cons,Bt,h3,hk,if_true];rfl,by simpa using h4,by rw [h5,Bool.and_assoc]⟩
   ·cases h
  ·split at h <;> cases h;rename_i hx;obtain ⟨r1,r2,h3,h4,h5⟩:=Fg hx;exact ⟨_,r2,by simp [Bt,h3];rfl,by simpa using h4,by rw [h5,Bool.and_assoc]⟩
def Row (w:World) (Im:Nat→Prop) (cs:List Value) (ps:List PV):Prop :=
 cs.length=ps.length∧∀ (i:Nat) (v:Value) (p:PV),cs[i]? = some v→ps[i]? = some p→PRep w Im v p
theorem Row.drop {cs:List Value} {ps:List PV} (h:Row w Im cs ps) (n:Nat):Row w Im (cs.drop n) (ps.drop n) :=
 ⟨by simp [h.1],fun i v p hv hp=>h.2 (n+i) v p (by simpa using hv) (by simpa using hp)⟩
theorem Row.take {cs:List Value} {ps:List PV} (h:Row w Im cs ps) (n:Nat):Row w Im (cs.take n) (ps.take n) :=
 ⟨by simp [h.1],fun i v p hv hp=>by
  rw [List.getElem?_take] at hv hp;split at hv
  ·rename_i hl;rw [if_pos hl] at hp;exact h.2 i v p hv hp
  ·cases hv⟩
def Jg (agg:Bool) (cs:List Value):Value:=if agg then .agg ⟨cs⟩ else cs.getD 0 undef
theorem Hs {t:TypeId} {b:Bool} {n:Nat} (hb:B2 P t=some b) (hn:P.cellsOf t=n) (h0:n≠0) (h1:b=false→n=1) (cs:List Value) (off:Nat) (hl:off+n≤cs.length) (w:World) :
  (part t ⟨cs⟩ off).run P w=.ok (Jg b ((cs.drop off).take n)) w:=by
 unfold part;cases b with
 | true =>
  simp only [Sem.run_bind,Iu hb,Result.andThen_ok,if_true,Bk hn h0,Sem.run_pure,Jg];congr 2;rw [← Array.toList_inj];simp
 | false =>
  simp only [Sem.run_bind,Iu hb,Result.andThen_ok,Bool.false_eq_true,if_false,Jg];have h2:=h1 rfl;subst h2;have:off<cs.length:=by omega
  simp [this,List.getD_eq_getElem?_getD]
theorem N5 {t:TypeId} {d:TypeDesc} (h:P.underlying t=some d) (h1:∀ fs,d≠.struct fs) (h2:∀ n e,d≠.array n e):B2 P t=some false:=by
 unfold B2;rw [h];cases d <;> first | rfl | (exfalso;first | exact h1 _ rfl | exact h2 _ _ rfl)
theorem Row.nil_of {cs:List Value} {ps:List PV} {p:PV} (h:Row w Im cs (p :: ps)):∃ v vs,cs=v :: vs∧PRep w Im v p∧Row w Im vs ps:=by
 obtain ⟨h1,h2⟩:=h;cases cs with
 | nil=>simp at h1
 | cons v vs=>exact ⟨v,vs,rfl,h2 0 v p rfl rfl,by simpa using h1,fun i v p hv hp=>h2 (i+1) v p (by simpa using hv) (by simpa using hp)⟩
theorem L4 (d:Nat) (xs ys:Array Value):(Op.eqFields d xs ys []).run P w=.ok true w:=by simp [Op.eqFields]
theorem Jlq:∀ (m:Nat),(∀ (t:TypeId) (ts:List Tag) (b:Bool) (d:Nat) (xs ys:List Value) (p q:List PV) (r:Bool),L1 P m t=some ts→B2 P t=some b→(b=false→ts.length=1)→m≤d→Row w Im xs p→Row w Im ys q→Bt ts p q=some r →
   (Op.equalIn (d+1) t (Jg b xs) (Jg b ys)).run P w=.ok r w) ∧
  (∀ (fs:List Field) (ts:List Tag) (n d:Nat) (xs ys:List Value) (p q:List PV) (r:Bool),Lw P m n fs=some ts→m≤d→Row w Im xs p→Row w Im ys q→p.length=n+ts.length→Bt ts (p.drop n) (q.drop n)=some r →
   (Op.eqFields d ⟨xs⟩ ⟨ys⟩ fs).run P w=.ok r w):=by
 intro m
 induction m with
 | zero =>
  refine ⟨fun t ts b d xs ys p q r h=>by simp [L1] at h,fun fs ts n d xs ys p q r h _ _ _ _ he=>?_⟩;cases fs with
  | nil =>
   simp [Lw] at h;subst h;cases hp:p.drop n <;> cases hq:q.drop n <;> rw [hp,hq] at he <;> simp [Bt] at he;subst he;exact L4 d _ _
  | cons f fs=>simp [Lw] at h
 | succ m ih =>
  refine ⟨fun t ts b d xs ys p q r h hb hb1 hd hx hy he=>?_,fun fs ts n d xs ys p q r h hd hx hy hlen he=>?_⟩
  ·simp only [L1] at h;split at h
   ·rename_i ht;cases h;have:B2 P t=some false:=N5 ht sm sm;rw [this] at hb;cases hb;obtain ⟨hl1,hl2⟩:=Ep he
    match p,q,hl1,hl2,he with
    | [x],[y],_,_,he =>
     obtain ⟨u,us,rfl,hu,_⟩:=hx.nil_of;obtain ⟨v,vs,rfl,hv,_⟩:=hy.nil_of;unfold Bt at he;split at he <;> first | (cases he;done) | skip
     all_goals (rename_i heq1 heq2 heq3;cases heq1;try (cases heq2;cases heq3))
     cases hu;cases hv;simp [Bt] at he;subst he;exact run_equalIn_bool' _ _ _ _ _ ht
   ·rename_i k ht;cases h;have:B2 P t=some false:=N5 ht sm sm;rw [this] at hb;cases hb;obtain ⟨hl1,hl2⟩:=Ep he
    match p,q,hl1,hl2,he with
    | [x],[y],_,_,he =>
     obtain ⟨u,us,rfl,hu,_⟩:=hx.nil_of;obtain ⟨v,vs,rfl,hv,_⟩:=hy.nil_of;unfold Bt at he;split at he <;> first | (cases he;done) | skip
     all_goals (rename_i heq1 heq2 heq3;cases heq1;try (cases heq2;cases heq3))
     cases hu;cases hv;split at he <;> first | (cases he;done) | skip
     rename_i hk;subst hk;simp [Bt] at he;subst he;exact run_equalIn_int _ _ _ _ _ _ _ ht
   ·rename_i ht;cases h;have:B2 P t=some false:=N5 ht sm sm;rw [this] at hb;cases hb;obtain ⟨hl1,hl2⟩:=Ep he
    match p,q,hl1,hl2,he with
    | [x],[y],_,_,he =>
     obtain ⟨u,us,rfl,hu,_⟩:=hx.nil_of;obtain ⟨v,vs,rfl,hv,_⟩:=hy.nil_of;unfold Bt at he;split at he <;> first | (cases he;done) | skip
     all_goals (rename_i heq1 heq2 heq3;cases heq1;try (cases heq2;cases heq3))
     cases hu;cases hv;simp [Bt] at he;subst he;show (Op.equalIn (d+1) t (.string _) (.string _)).run P w=_;rw [run_equalIn_string _ _ _ _ _ ht,Qr,Qr]
   ·rename_i fs ht;split at h
    ·cases h
    ·rename_i hs;have:B2 P t=some true:=by simp [B2,ht]
     rw [this] at hb;cases hb;have hfs:P.fieldsOf t=fs:=by simp [Program.fieldsOf,ht]
     simp only [Jg,if_true];rw [run_equalIn_struct w d t _ _ (by rw [hfs];exact ht) (by simpa using hs),hfs];obtain ⟨hl1,hl2⟩:=Ep he;exact ih.2 fs.toList ts 0 d xs ys p q r h omg hx hy (by simpa using hl1) (by simpa using he)
   ·cases h
  ·cases fs with
   | nil =>
    simp [Lw] at h;subst h;cases hp:p.drop n <;> cases hq:q.drop n <;> rw [hp,hq] at he <;> simp [Bt] at he;subst he;exact L4 d _ _
   | cons f fs =>
    simp only [Lw] at h;split at h
    ·rename_i a ha;split at h
     ·rename_i hc;obtain ⟨hc1,hc2,hc3,hc4⟩:=hc;split at h
      ·rename_i bts hbt;cases h;obtain ⟨r1,r2,e1,e2,rfl⟩:=Fg he;obtain ⟨d,rfl⟩:∃ e,d=e+1:=⟨d - 1,by omega⟩
       simp only [List.length_append] at hlen;have hlq:q.length=p.length:=by
        obtain ⟨h1,h2⟩:=Ep he;simp at h1 h2;omega
       obtain ⟨bb,hbb⟩:∃ bb,B2 P f.type=some bb:=by
        cases m with
        | zero=>simp [L1] at ha
        | succ m =>
         unfold L1 at ha;unfold B2;split at ha <;> first | (cases ha;done)|(rename_i ht;rw [ht];exact ⟨_,rfl⟩)
       have hb1:bb=false→a.length=1:=by
        intro hbf;cases m with
        | zero=>simp [L1] at ha
        | succ m =>
         unfold L1 at ha;unfold B2 at hbb;split at ha <;> first | (cases ha;done)|(cases ha;rfl)|(rename_i ht;rw [ht] at hbb;simp at hbb;rw [hbf] at hbb;cases hbb)
       have hp1:=Hs (P:=P) hbb hc3 hc4 hb1 xs n (by rw [hx.1];omega) w;have hp2:=Hs (P:=P) hbb hc3 hc4 hb1 ys n (by rw [hy.1];omega) w;have he1:=ih.1 f.type a bb d _ _ _ _ r1 ha hbb hb1 omg ((hx.drop n).take a.length) ((hy.drop n).take a.length) e1;have he2:=ih.2 fs bts (n+a.length) (d+1) xs ys p q r2 hbt omg hx hy omg (by simpa [List.drop_drop] using e2);simp only [Op.eqFields,if_pos hc2,Sem.run_bind,hc1,hp1,hp2,Result.andThen_ok,he1];cases r1
       ·simp
       ·simp only [Bool.not_true,Bool.false_eq_true,if_false,Bool.true_and];exact he2
      ·cases h
     ·cases h
    ·cases h
def Jiv:Value→Bool
 | .int _ _ | .string _ | .bool _ | .float _ _ | .complex _ _ _=>false
 | _=>true
theorem Ov {t:TypeId} {xo yo:Operand} {u v:Value} {x y:L} {r:Bool} (hx:LRep β w Im u x) (hy:LRep β w Im v y) (h:Fy P t (D8 xo || D8 yo) x y=some r) :
  (∀ op,(op=.eql∨op=.neq)→(eqGuard op t xo yo u v).run P w=.ok () w)∧(∀ d,(Op.equalIn (d+1) t u v).run P w=.ok r w)∧Jiv u=true:=by
 have gd:∀ (u v:Value),(u≠.nilIface∨v≠.nilIface)→(∀ a,u≠.agg a)→∀ op,(op=.eql∨op=.neq)→(eqGuard op t xo yo u v).run P w=.ok () w:=by
  intro u v h1 h2 op ho;cases u <;> first | (exact absurd rfl (h2 _))|(rcases ho with rfl | rfl <;> rfl)|(cases v <;> first | (rcases ho with rfl | rfl <;> rfl)|(rcases h1 with h1 | h1 <;> exact absurd rfl h1))
 unfold Fy at h;split at h <;> first | (cases h;done) | skip
 ·rename_i ht;cases hx;cases hy;cases h;exact ⟨gd _ _ (.inl sm) sm,fun d=>by simp [Op.equalIn,run_underlying ht],rfl⟩
 ·rename_i ht;obtain ⟨loc,_,rfl⟩:=hx;cases hy;cases h;exact ⟨gd _ _ (.inl sm) sm,fun d=>by simp [Op.equalIn,run_underlying ht],rfl⟩
 ·rename_i ht;obtain ⟨b,o,_,rfl,_⟩:=hx;cases hy;cases h;exact ⟨gd _ _ (.inl sm) sm,fun d=>by simp [Op.equalIn,run_underlying ht],rfl⟩
 ·rename_i e _ _ _ _ _ _ ht;split at h
  ·rename_i hc;obtain ⟨rfl,rfl,rfl,h0⟩:=hc;obtain ⟨loc,hβ,rfl⟩:=hx;obtain ⟨loc',hβ',rfl⟩:=hy;rw [hβ] at hβ';cases hβ';cases h;exact ⟨gd _ _ (.inl sm) sm,fun d=>by simp [Op.equalIn,run_underlying ht,Bk (P:=P) (t:=e) rfl h0,h0,run_sameAddr_same],rfl⟩
  ·cases h
 ·rename_i ht;split at h
  ·rename_i hc;cases hx;cases hy;cases h;refine ⟨fun op ho=>?_,fun d=>by simp [Op.equalIn,run_underlying ht],rfl⟩;cases xo <;> cases yo <;> simp [D8] at hc <;> rcases ho with rfl | rfl <;> simp [eqGuard]
  ·cases h
 ·rename_i ht;cases hx;cases hy;cases h;exact ⟨gd _ _ (.inl sm) sm,fun d=>by simp [Op.equalIn,run_underlying ht],rfl⟩
 ·rename_i ht;cases hx;cases hy;cases h;exact ⟨gd _ _ (.inr sm) sm,fun d=>by simp [Op.equalIn,run_underlying ht],rfl⟩
 ·rename_i ht;cases hx;cases hy;cases h;exact ⟨gd _ _ (.inl sm) sm,fun d=>by simp [Op.equalIn,run_underlying ht],rfl⟩
 ·rename_i ht;cases hx;cases hy;cases h;exact ⟨gd _ _ (.inr sm) sm,fun d=>by simp [Op.equalIn,run_underlying ht],rfl⟩
 ·rename_i ht;cases hx;cases hy;cases h;exact ⟨gd _ _ (.inl sm) sm,fun d=>by simp [Op.equalIn,run_underlying ht],rfl⟩
 ·rename_i ht;cases hx;cases hy;cases h;exact ⟨gd _ _ (.inl sm) sm,fun d=>by simp [Op.equalIn,run_underlying ht],rfl⟩
 ·rename_i ht;rcases hx with ⟨loc,cap,o,_,_,_,_,rfl⟩ | ⟨_,_,h0,_⟩
  ·cases hy;cases h;exact ⟨gd _ _ (.inl sm) sm,fun d=>by simp [Op.equalIn,run_underlying ht],rfl⟩
  ·cases h0
 ·rename_i ht;cases hx;cases hy;cases h;exact ⟨gd _ _ (.inl sm) sm,fun d=>by simp [Op.equalIn,run_underlying ht],rfl⟩
 ·rename_i ht;obtain ⟨loc,_,rfl⟩:=hx;cases hy;cases h;exact ⟨gd _ _ (.inl sm) sm,fun d=>by simp [Op.equalIn,run_underlying ht],rfl⟩
 ·rename_i ht;cases hx;cases hy;cases h;exact ⟨gd _ _ (.inl sm) sm,fun d=>by simp [Op.equalIn,run_underlying ht],rfl⟩
 ·rename_i ht;cases hx;cases hy;cases h;exact ⟨gd _ _ (.inl sm) sm,fun d=>by simp [Op.equalIn,run_underlying ht],rfl⟩
 ·rename_i ht;obtain ⟨vs,rfl,_⟩:=hx;cases hy;cases h;exact ⟨gd _ _ (.inl sm) sm,fun d=>by simp [Op.equalIn,run_underlying ht],rfl⟩
 ·rename_i ht;obtain ⟨vs,rfl,_⟩:=hx;cases hy;cases h;exact ⟨gd _ _ (.inl sm) sm,fun d=>by simp [Op.equalIn,run_underlying ht],rfl⟩
theorem L5 {t:TypeId} {u v:Value} {r:Bool} (h:∀ d,(Op.equalIn (d+1) t u v).run P w=.ok r w) (h1:Jiv u=true) :
  (binOp .eql t u v).run P w=.ok (.bool r) w∧(binOp .neq t u v).run P w=.ok (.bool (!r)) w:=by
 have he:(Op.equal t u v).run P w=.ok r w:=h 9999;cases u <;> first | (cases h1;done)|(constructor <;> simp [binOp,he])
theorem Jah {op:BinOp} {t:TypeId} (xo yo:Operand) {u v:Value} {x y:L} {K:L→Prop} (hx:LRep β w Im u x) (hy:LRep β w Im v y) (h:lbin P op t (D8 xo || D8 yo) x y K) :
  C0 β Im w ((do eqGuard op t xo yo u v;binOp op t u v:Sem Value).run P w) K:=by
 unfold lbin at h;split at h
 ·cases hx;cases hy;exact Jbu t xo yo h
 ·cases hx;cases hy;exact Jaz t xo yo h
 ·cases hx;cases hy;obtain ⟨ht,h⟩:=h;split at h
  ·refine I5 h ?_;rw [eqGuard_at_bool];simp only [pure_bind];exact run_eql_bool _ _ _ _ ht
  ·refine I5 h ?_;rw [eqGuard_at_bool];simp only [pure_bind];exact run_neq_bool _ _ _ _ ht
  ·exact h.elim
 ·obtain ⟨ts,hts,r,hr,h⟩:=h;simp only [Nt] at hts;split at hts
  ·rename_i hc;cases hx with
   | agg cs ps hl hs hp =>
   cases hy with
   | agg ds qs hl' hs' hq =>
   have he:=(Jlq (P:=P) (w:=w) (Im:=Im) 100).1 t ts true 9999 cs ds _ _ r hts hc.1 sm omg ⟨hl,hp⟩ ⟨hl',hq⟩ hr;simp only [Jg,if_true] at he;split at h
   ·refine I5 h ?_;simp only [Sem.run_bind,run_eqGuard_agg w _ _ _ _ _ _ hc.2,Result.andThen_ok,run_eql_struct,he]
   ·refine I5 h ?_;simp only [Sem.run_bind,run_eqGuard_agg w _ _ _ _ _ _ hc.2,Result.andThen_ok,run_neq_struct,he]
   ·exact h.elim
  ·cases hts
 ·unfold Db at h;split at h
  ·rename_i r _ _ hn;obtain ⟨h1,h2,h3⟩:=Ov hx hy hn;refine I5 h ?_;simp only [Sem.run_bind,h1 .eql (.inl rfl),Result.andThen_ok,(L5 h2 h3).1]
  ·rename_i r _ _ hn;obtain ⟨h1,h2,h3⟩:=Ov hx hy hn;refine I5 h ?_;simp only [Sem.run_bind,h1 .neq (.inr rfl),Result.andThen_ok,(L5 h2 h3).2]
  ·exact h.elim
theorem Jf0 {op:UnOp} {u:Value} {x:L} {K:L→Prop} (hx:LRep β w Im u x) (h:lun op x K):C0 β Im w ((Op.unary op u).run P w) K:=by
 unfold lun at h;split at h
 ·cases hx;exact Dz h (by simp [Op.unary,Op.intArith])
 ·cases hx;exact I5 h (by simp [Op.unary])
 ·exact h.elim
theorem Io:∀ {es:List (List PV)} {bs:List UInt8},Cw es=some bs→es.length=bs.length∧∀ (i:Nat) (e:List PV),es[i]? = some e→∃ b,bs[i]? = some b∧e=[.int .u8 (b.toNat:Int)]
 | [],bs,h=>by simp only [Cw] at h;cases h;exact ⟨rfl,fun i e he=>by simp at he⟩
 | x :: l,bs,h=>by
  unfold Cw at h;split at h
  ·rename_i heq;cases heq
  ·rename_i n l' heq;cases heq;split at h
   ·rename_i hn;split at h
    ·rename_i bs' hbs;cases h;obtain ⟨h1,h2⟩:=Io hbs;refine ⟨by simp [h1],fun i e he=>?_⟩;cases i with
     | zero =>
      simp at he;subst he;refine ⟨_,rfl,?_⟩;congr 2;simp;omega
     | succ i=>simp at he;simpa using h2 i e he
    ·cases h
   ·cases h
  ·cases h
theorem Xm {src dst e:TypeId} {u:Value} {es:List (List PV)} {bs:List UInt8} (hd:P.underlying dst=some .string) (hs:P.underlying src=some (.slice e)) (he:P.underlying e=some (.int .u8)) (hx:PRep w Im u (.sl es)) (hb:Cw es=some bs) :
  (convert src dst u).run P w=.ok (.string ⟨⟨bs⟩⟩) w:=by
 obtain ⟨h1,h2⟩:=Io hb;cases hx with
 | slNil =>
  have:bs=[]:=List.eq_nil_of_length_eq_zero (by rw [← h1];rfl);subst this;exact Go.Lib.run_convert_nil_bytes w src dst e 0 hs he hd
 | sl b off cap sz es hcap hbI f hsz hsc hc hp =>
  have hbytes:Go.Lib.Bytes w b off ⟨⟨bs⟩⟩:=by
   intro i hi;have hi':i<bs.length:=hi;have hie:i<es.length:=by omega
   obtain ⟨c,hc1,hc2⟩:=h2 i es[i] (List.getElem?_eq_getElem hie);have hs1:sz=1:=by rw [← hsz _ (List.getElem_mem hie),hc2];rfl
   subst hs1;have hcell:=hc i hie 0 omg;have hpr:=hp i es[i] 0 (.int .u8 (c.toNat:Int)) (List.getElem?_eq_getElem hie) (by rw [hc2];rfl);generalize f i 0=v at hcell hpr;cases hpr;have e1:(⟨⟨bs⟩⟩:ByteArray)[i]=c:=by
    have:bs[i]? = some bs[i]:=List.getElem?_eq_getElem hi';rw [this] at hc1;cases hc1;rfl
   rw [e1];simpa using hcell
  have:=Go.Lib.run_convert_whole (P:=P) w src e dst hs he hd b off ⟨⟨bs⟩⟩ hbytes cap;have e2:(⟨⟨bs⟩⟩:ByteArray).size=es.length:=h1.symm;rw [e2] at this;exact this
theorem Jl {src dst:TypeId} {u:Value} {x:L} {K:L→Prop} (hx:LRep β w Im u x) (h:J1 P src dst x K):C0 β Im w ((convert src dst u).run P w) K:=by
 unfold J1 at h;split at h
 ·rename_i hd;cases hx;obtain ⟨h1,h2⟩:=h;obtain ⟨ds,hs⟩:=Option.isSome_iff_exists.1 h1;refine Dz h2 ?_;simp only [convert,Sem.run_bind,run_underlying hs,run_underlying hd,Result.andThen_ok,Conv.intToInt];rfl
 ·rename_i hd;cases hx;obtain ⟨h1,h2,h3⟩:=h;obtain ⟨ds,hs⟩:=Option.isSome_iff_exists.1 h1;refine X2 h3 ?_;simp only [convert,Sem.run_bind,run_underlying hs,run_underlying hd,Result.andThen_ok];cases ds <;> first | rfl | exact absurd hs (h2 _)
 ·rename_i hd;cases hx;obtain ⟨h1,h2,h3⟩:=h;obtain ⟨ds,hs⟩:=Option.isSome_iff_exists.1 h1;refine X2 h3 ?_;simp only [convert,Sem.run_bind,run_underlying hs,run_underlying hd,Result.andThen_ok,Conv.intToString];cases ds <;> first | rfl | exact absurd hs (h2 _)
 ·rename_i hd;obtain ⟨⟨e,hs,he⟩,bs,hb,hK⟩:=h;exact X2 hK (Xm hd hs he hx hb)
 ·exact h.elim
theorem Jb9 {t ty:TypeId} {u:Value} {x:L} {K:L→Prop} (hx:LRep β w Im u x) (h:llen P t x K):C0 β Im w ((Builtin.len_ #[t] ty #[u]).run P w) K:=by
 unfold llen at h;split at h
 ·rename_i ht;cases hx;refine Dz h ?_;rw [run_len_string _ _ _ _ ht];rfl
 ·rename_i ht;obtain ⟨a,cap,rfl,_⟩:=Juc hx;refine Dz h ?_;simp [Builtin.len_,run_underlying ht,goInt]
 ·rename_i ht;cases hx;refine Dz h ?_;simp [Builtin.len_,run_underlying ht,goInt]
 ·rename_i ht;rcases hx with ⟨loc,cap,o,_,_,_,_,rfl⟩ | ⟨_,_,rfl,rfl⟩
  ·refine Dz h ?_;simp [Builtin.len_,run_underlying ht,goInt]
  ·refine Dz h ?_;simp [Builtin.len_,run_underlying ht,goInt]
 ·rename_i ht;cases hx;refine Dz h ?_;simp [Builtin.len_,run_underlying ht,goInt]
 ·rename_i ht;cases hx;rename_i r cl ents hr hw hn hb hl hk hv;refine Dz h ?_;simp [Builtin.len_,run_underlying ht,goInt,getObj,Sem.run,hw,hl,Result.andThen]
 ·exact h.elim
theorem K6 {b:Bool} {ts:Array TypeId} {t:TypeId} {xs:List L} {vs:List Value} {K:L→Prop} (hl:vs.length=xs.length) (hv:∀ (i:Nat) (v:Value) (x:L),vs[i]? = some v→xs[i]? = some x→LRep β w Im v x)
  (h:Fj b xs K):C0 β Im w ((if b then Builtin.max_ ts t ⟨vs⟩ else Builtin.min_ ts t ⟨vs⟩).run P w) K:=by
 unfold Fj at h;split at h
 ·rename_i k a k' c
  match vs,hl with
  | [u,v],_ =>
   have h0:=hv 0 u _ rfl rfl;have h1:=hv 1 v _ rfl rfl;cases h0;cases h1;cases b
   ·refine Dz h ?_;simp only [Bool.false_eq_true,if_false];refine (run_min_int2 _ _ _ _ _ _ _).trans ?_;congr 2;by_cases hc:c<a
    ·rw [if_pos hc];omega
    ·rw [if_neg hc];omega
   ·refine Dz h ?_;simp only [if_true];refine (run_max_int2 _ _ _ _ _ _ _).trans ?_;congr 2;by_cases hc:c > a
    ·rw [if_pos hc];omega
    ·rw [if_neg hc];omega
 ·exact h.elim
end
end Go.LX
