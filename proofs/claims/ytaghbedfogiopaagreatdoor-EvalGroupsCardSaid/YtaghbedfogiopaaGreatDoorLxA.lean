/- Logical values, logical states, and how they are represented in a world of the model. -/
import Derived.WalkKit
import Derived.OrdersIn
set_option linter.unusedSimpArgs false
set_option linter.unusedVariables false
set_option linter.unusedSectionVars false
set_option linter.unnecessarySimpa false
namespace Go.LX
open Go Go.RowKit
theorem Eaa:type_of% @List.getElem?_eq_getElem:=@List.getElem?_eq_getElem
theorem Eab:type_of% @List.getElem?_eq_some_iff:=@List.getElem?_eq_some_iff
theorem Eac:type_of% @List.length_append:=@List.length_append
theorem Ead:type_of% @List.take_of_length_le:=@List.take_of_length_le
theorem Eae:type_of% @List.mem_of_getElem?:=@List.mem_of_getElem?
theorem Eaf:type_of% @List.mem_cons_self:=@List.mem_cons_self
theorem Eag:type_of% @List.mem_cons_of_mem:=@List.mem_cons_of_mem
theorem Eah:type_of% @List.getD_eq_getElem?_getD:=@List.getD_eq_getElem?_getD
theorem Eai:type_of% @Nat.le_refl:=@Nat.le_refl
theorem Eaj:type_of% @List.mem_cons:=@List.mem_cons
theorem Eak:type_of% @Option.map_eq_some_iff:=@Option.map_eq_some_iff
theorem Eal:type_of% @List.eq_nil_of_length_eq_zero:=@List.eq_nil_of_length_eq_zero
theorem Eam:type_of% @List.getElem?_map:=@List.getElem?_map
theorem Ean:type_of% @List.getElem?_append_right:=@List.getElem?_append_right
theorem Eao:type_of% @List.getElem?_take:=@List.getElem?_take
theorem Eap:type_of% @List.mem_map:=@List.mem_map
theorem Eaq:type_of% @List.getElem?_append_left:=@List.getElem?_append_left
theorem Ear:type_of% @List.drop_eq_nil_of_le:=@List.drop_eq_nil_of_le
theorem Eas:type_of% @Array.getD_eq_getD_getElem?:=@Array.getD_eq_getD_getElem?
theorem Eat:type_of% @List.map_cons:=@List.map_cons
theorem Eau:type_of% @List.mem_append:=@List.mem_append
theorem Eav:type_of% @Nat.zero_le:=@Nat.zero_le
theorem Eaw:type_of% @List.length_take:=@List.length_take
theorem Eax:type_of% @List.drop_eq_getElem_cons:=@List.drop_eq_getElem_cons
theorem Eay:type_of% @List.mem_singleton:=@List.mem_singleton
theorem Eaz:type_of% @List.append_nil:=@List.append_nil
theorem Ea0:type_of% @Bool.eq_iff_iff:=@Bool.eq_iff_iff
theorem Ea1:type_of% @Decidable.not_not:=@Decidable.not_not
theorem Ea2:type_of% @List.append_assoc:=@List.append_assoc
theorem Ea3:type_of% @Option.some.inj:=@Option.some.inj
theorem Ea4:type_of% @List.length_drop:=@List.length_drop
theorem Ea5:type_of% @Array.getElem?_eq_some_iff:=@Array.getElem?_eq_some_iff
theorem Ea6:type_of% @List.getElem_of_mem:=@List.getElem_of_mem
theorem Ea7:type_of% @List.mem_of_mem_drop:=@List.mem_of_mem_drop
theorem Ea8:type_of% @List.take_add_one:=@List.take_add_one
theorem Ea9:type_of% @List.length_map:=@List.length_map
theorem Eba:type_of% @List.pairwise_cons:=@List.pairwise_cons
theorem Ebb:type_of% @Bool.and_eq_true:=@Bool.and_eq_true
theorem Ebc:type_of% @List.not_mem_nil:=@List.not_mem_nil
theorem Ebd:type_of% @Nat.lt_of_lt_of_le:=@Nat.lt_of_lt_of_le
theorem Ebe:type_of% @Bool.not_true:=@Bool.not_true
theorem Ebf:type_of% @Nat.mul_le_mul_right:=@Nat.mul_le_mul_right
theorem Ebg:type_of% @List.drop_drop:=@List.drop_drop
theorem Ebh:type_of% @List.map_congr_left:=@List.map_congr_left
theorem Ebi:type_of% @List.drop_zero:=@List.drop_zero
theorem Ebj:type_of% @Array.toList_inj:=@Array.toList_inj
theorem Ebk:type_of% @Nat.zero_add:=@Nat.zero_add
theorem Ebl:type_of% @List.take_append_drop:=@List.take_append_drop
theorem Ebm:type_of% @List.mem_of_mem_take:=@List.mem_of_mem_take
theorem Ebn:type_of% @List.getElem?_set:=@List.getElem?_set
theorem Ebo:type_of% @Nat.add_mul:=@Nat.add_mul
theorem Ebp:type_of% @Decidable.byContradiction:=@Decidable.byContradiction
theorem Ebq:type_of% @List.getElem_mem:=@List.getElem_mem
theorem Ebr:type_of% @List.take_append_of_le_length:=@List.take_append_of_le_length
theorem Ebs:type_of% @List.map_map:=@List.map_map
theorem Ebt:type_of% @List.getElem?_of_mem:=@List.getElem?_of_mem
theorem Ebu:type_of% @List.map_append:=@List.map_append
theorem Ebv:type_of% @Bool.false_eq_true:=@Bool.false_eq_true
theorem Ebw:type_of% @List.all_eq_true:=@List.all_eq_true
theorem Ebx:type_of% @Nat.add_assoc:=@Nat.add_assoc
theorem Eby:type_of% @List.mem_or_eq_of_mem_set:=@List.mem_or_eq_of_mem_set
theorem Ebz:type_of% @List.length_replicate:=@List.length_replicate
theorem Eb0:type_of% @List.nodup_cons:=@List.nodup_cons
theorem Eb1:type_of% @List.drop_succ_cons:=@List.drop_succ_cons
theorem Eb2:type_of% @Array.getElem?_setIfInBounds:=@Array.getElem?_setIfInBounds
theorem Eb3:type_of% @List.length_reverse:=@List.length_reverse
theorem Eb4:type_of% @Bool.or_eq_true:=@Bool.or_eq_true
theorem Eb5:type_of% @List.map_nil:=@List.map_nil
theorem Eb6:type_of% @List.pairwise_append:=@List.pairwise_append
theorem Eb7:type_of% @List.mem_append_left:=@List.mem_append_left
theorem Eb8:type_of% @List.mem_append_right:=@List.mem_append_right
theorem Eb9:type_of% @List.ext_getElem?:=@List.ext_getElem?
theorem Eca:type_of% @List.pairwise_iff_getElem:=@List.pairwise_iff_getElem
theorem Ecb:type_of% @List.length_pos_iff:=@List.length_pos_iff
theorem Ecc:type_of% @List.nodup_append:=@List.nodup_append
theorem Ecd:type_of% @Array.getElem?_toList:=@Array.getElem?_toList
theorem Ece:type_of% @List.dropLast_concat_getLast:=@List.dropLast_concat_getLast
theorem Ecf:type_of% @Bool.false_bne:=@Bool.false_bne
theorem Ecg:type_of% @List.getElem?_drop:=@List.getElem?_drop
theorem Ech:type_of% @List.getElem?_replicate:=@List.getElem?_replicate
theorem Eci:type_of% @Int.eq_ofNat_of_zero_le:=@Int.eq_ofNat_of_zero_le
theorem Ecj:type_of% @Int.fdiv_eq_ediv_of_nonneg:=@Int.fdiv_eq_ediv_of_nonneg
theorem Eck:type_of% @Bool.true_bne:=@Bool.true_bne
theorem Ecl:type_of% @List.getElem?_take_of_lt:=@List.getElem?_take_of_lt
theorem Ecm:type_of% @Option.isSome_iff_exists:=@Option.isSome_iff_exists
theorem Ecn:type_of% @Nat.mul_one:=@Nat.mul_one
theorem Eco:type_of% @Nat.pow_le_pow_right:=@Nat.pow_le_pow_right
theorem Ecp:type_of% @Nat.add_sub_cancel_left:=@Nat.add_sub_cancel_left
theorem Ecq:type_of% @List.map_take:=@List.map_take
theorem Ecr:type_of% @Nat.add_comm:=@Nat.add_comm
theorem Ecs:type_of% @Nat.zero_mul:=@Nat.zero_mul
theorem Ect:type_of% @Bool.not_false:=@Bool.not_false
theorem Ecu:type_of% @List.cons.injEq:=@List.cons.injEq
theorem Ecv:type_of% @Nat.one_mul:=@Nat.one_mul
theorem Ecw:type_of% @Prod.mk.inj:=@Prod.mk.inj
theorem Ecx:type_of% @Array.toList_append:=@Array.toList_append
theorem Ecy:type_of% @Int.tdiv_eq_ediv_of_nonneg:=@Int.tdiv_eq_ediv_of_nonneg
theorem Ecz:type_of% @Int.tmod_eq_emod_of_nonneg:=@Int.tmod_eq_emod_of_nonneg
theorem Ec0:type_of% @Array.getElem?_append_left:=@Array.getElem?_append_left
theorem Ec1:type_of% @List.getElem?_eq_none:=@List.getElem?_eq_none
theorem Ec2:type_of% @Prod.mk.injEq:=@Prod.mk.injEq
theorem Ec3:type_of% @List.getElem?_toArray:=@List.getElem?_toArray
theorem Ec4:type_of% @List.drop_left:=@List.drop_left
theorem Ec5:type_of% @List.length_eraseIdx:=@List.length_eraseIdx
theorem Ec6:type_of% @List.range_succ:=@List.range_succ
theorem Ec7:type_of% @List.pairwise_map:=@List.pairwise_map
theorem Ec8:type_of% @Nat.min_eq_left:=@Nat.min_eq_left
theorem Ec9:type_of% @Bool.not_eq_true':=@Bool.not_eq_true'
theorem Eda:type_of% @Nat.mul_assoc:=@Nat.mul_assoc
theorem Edb:type_of% @List.flatten_append:=@List.flatten_append
theorem Edc:type_of% @List.map_reverse:=@List.map_reverse
theorem Edd:type_of% @List.mem_toArray:=@List.mem_toArray
theorem Ede:type_of% @Array.empty_append:=@Array.empty_append
theorem Edf:type_of% @Nat.pow_pos:=@Nat.pow_pos
theorem Edg:type_of% @List.map_drop:=@List.map_drop
theorem Edh:type_of% @Nat.pow_add:=@Nat.pow_add
theorem Edi:type_of% @Int.le_refl:=@Int.le_refl
theorem Edj:type_of% @List.map_set:=@List.map_set
theorem Edk:type_of% @Nat.lt_or_ge:=@Nat.lt_or_ge
theorem omg {p:Prop} (h:p:=by omega):p:=h
theorem kr {p:Prop} (h:p:=by kernel_rfl):p:=h
theorem de {p:Prop} (h:p:=by decide):p:=h
theorem sm {p:Prop} (h:p:=by simp):p:=h
inductive PV where
 | bool (b:Bool)
 | int (k:IntKind) (n:Int)
 | str (s:List UInt8)
 | agg (cs:List PV)
 | sl (es:List (List PV))
 | snil
 | nptr
 | nmap
 | nfn
 | nifc
 | ifc
 | ifi (t:TypeId) (k:IntKind) (n:Int)
 | mp (es:List (PV×PV))
 | clo (f:FuncId) (cs:List PV)
def PV.scalar:PV->Bool
 | .agg _=>false
 | _=>true
inductive L where
 | p (x:PV)
 | ptr (d i j:Nat)
 | own (d off len:Nat)
 | eptr (cs:List PV)
 | fn (f:FuncId) (ds:List Nat)
 | cfn (f:FuncId) (ds:List Nat)
 | yld (l:Nat)
 | tup (xs:List PV)
 | mref (d:Nat)
 | junk
inductive PObj where
 | mp (es:List (PV×PV))
 | sit (s:List UInt8) (pos:Nat)
 | mit (es:List (PV×PV)) (seen:List Nat)
 | mpe (es:List (PV×PV)) (j:Nat) (n:Int)
 | loop (l:Nat) (r:Loop)
def L.cellOK:L->Bool
 | .p x=>x.scalar
 | .tup _=>false
 | .junk=>false
 | _=>true
structure Loc where
 blk:Nat
 sz:Nat
 tot:Nat
inductive Reg where
 | var (T:TypeId) (cs:List L)
 | row (T:TypeId) (sz:Nat) (es:List (List PV))
 | lrow (T:TypeId) (sz:Nat) (full:Bool) (es:List (List L))
 | obj (o:PObj)
structure St where
 tmps:List L
 regs:List (Nat×Reg)
abbrev Env:=Nat->Option Loc
inductive PRep (w:World) (Im:Nat->Prop):Value->PV->Prop
 | bool (b:Bool):PRep w Im (.bool b) (.bool b)
 | int (k:IntKind) (n:Int):PRep w Im (.int k n) (.int k n)
 | str (s:List UInt8):PRep w Im (.string ⟨⟨s⟩⟩) (.str s)
 | agg (cs:List Value) (ps:List PV) (hl:cs.length=ps.length) (hs:∀ p∈ps,p.scalar=true)
   (h:∀ (i:Nat) (v:Value) (p:PV),cs[i]? = some v->ps[i]? = some p->PRep w Im v p):PRep w Im (.agg ⟨cs⟩) (.agg ps)
 | snil:PRep w Im (.slice none 0 0) .snil
 | nptr:PRep w Im (.pointer none) .nptr
 | nmap:PRep w Im (.map none) .nmap
 | nfn:PRep w Im .nilFunc .nfn
 | nifc:PRep w Im .nilIface .nifc
 | ifc (t:TypeId) (v:Value):PRep w Im (.iface t v) .ifc
 | ifi (t:TypeId) (k:IntKind) (n:Int):PRep w Im (.iface t (.int k n)) (.ifi t k n)
 | mp (r cl:Nat) (ents:List MapEntry) (es:List (PV×PV)) (hr:Im r) (hw:w.heap[r]? = some (.map ⟨ents⟩ cl)) (hl:ents.length=es.length)
   (hn:(ents.map (·.born)).Nodup) (hb:∀ e∈ents,e.born<cl)
   (hk:∀ (i:Nat) (e:MapEntry) (p:PV×PV),ents[i]? = some e->es[i]? = some p->PRep w Im e.key p.1)
   (hv:∀ (i:Nat) (e:MapEntry) (p:PV×PV),ents[i]? = some e->es[i]? = some p->PRep w Im e.val p.2):PRep w Im (.map (some r)) (.mp es)
 | clo (g:FuncId) (b o:Nat) (ps:List PV) (hb:Im b) (f:Nat->Value) (hsc:∀ p∈ps,p.scalar=true)
   (hc:∀ j,j<ps.length->w.cell? ⟨b,o+j,none⟩=some (f j))
   (h:∀ (j:Nat) (p:PV),ps[j]? = some p->PRep w Im (f j) p):PRep w Im (.func (.func g) #[] #[.pointer (some ⟨b,o,none⟩)]) (.clo g ps)
 | slNil {oa:Option Addr}:PRep w Im (.slice oa 0 0) (.sl [])
 | sl (b off cap sz:Nat) (es:List (List PV)) (hcap:es.length<=cap) (hb:Im b) (f:Nat->Nat->Value)
   (hsz:∀ e∈es,e.length=sz) (hsc:∀ e∈es,∀ p∈e,p.scalar=true)
   (hc:∀ i,i<es.length->∀ j,j<sz->w.cell? ⟨b,off+i * sz+j,none⟩=some (f i j))
   (h:∀ (i:Nat) (e:List PV) (j:Nat) (p:PV),es[i]? = some e->e[j]? = some p->PRep w Im (f i j) p):PRep w Im (.slice (some ⟨b,off,none⟩) es.length cap) (.sl es)
def MRep (w:World) (Im:Nat->Prop) (ents:List MapEntry) (cl:Nat) (es:List (PV×PV)):Prop :=
 ents.length=es.length/\(ents.map (·.born)).Nodup/\(∀ e∈ents,e.born<cl) /\
  ∀ (i:Nat) (e:MapEntry) (p:PV×PV),ents[i]? = some e->es[i]? = some p->PRep w Im e.key p.1/\PRep w Im e.val p.2
def Ho (ents:List MapEntry) (i:Nat):Nat:=(ents.getD i ⟨undef,undef,0⟩).born
def ORep (w:World) (Im:Nat->Prop) (blk:Nat) (b:Option Obj):PObj->Prop
 | .mp es=>∃ ents cl,b=some (.map ⟨ents⟩ cl)/\MRep w Im ents cl es
 | .sit s pos=>b=some (.stringIter ⟨⟨s⟩⟩ pos)
 | .mit es seen=>(es=[]/\b=some (.mapIter none 0 #[] 0)) \/
   ∃ m ents cl,Im m/\w.heap[m]? = some (.map ⟨ents⟩ cl)/\MRep w Im ents cl es/\b=some (.mapIter (some m) cl ⟨seen.map (Ho ents)⟩ cl)/\∀ j∈seen,j<es.length
 | .mpe es j n=>∃ ents cl,b=some (.map ⟨ents⟩ cl)/\MRep w Im ents cl es/\j<ents.length/\(Ho ents j:Int)=n
 | .loop l r=>blk=l/\b=some (.loop r)
def LRep (β:Env) (w:World) (Im:Nat->Prop) (v:Value):L->Prop
 | .p x=>PRep w Im v x
 | .ptr d i j=>∃ loc,β d=some loc/\v=.pointer (some ⟨loc.blk,i * loc.sz+j,none⟩)
 | .own d off len=>(∃ loc cap o,β d=some loc/\off+cap=loc.tot/\len<=cap/\(0<cap\/off=0->o=off * loc.sz)/\v=.slice (some ⟨loc.blk,o,none⟩) len cap) \/
   (β d=none/\off=0/\len=0/\v=.slice none 0 0)
 | .eptr cs=>∃ b o,Im b/\v=.pointer (some ⟨b,o,none⟩)/\∃ f:Nat->Value,(∀ j,j<cs.length->w.cell? ⟨b,o+j,none⟩=some (f j)) /\
   ∀ (j:Nat) (p:PV),cs[j]? = some p->PRep w Im (f j) p/\p.scalar=true
 | .fn f ds=>∃ vs:List Value,v=.func (.func f) #[] ⟨vs⟩/\vs.length=ds.length /\
   ∀ (i:Nat) (x:Value) (d:Nat),vs[i]? = some x->ds[i]? = some d->∃ loc,β d=some loc/\x=.pointer (some ⟨loc.blk,0,none⟩)
 | .cfn f ds=>∃ vs:List Value,v=.func (.func f) #[] ⟨vs⟩/\vs.length=ds.length /\
   ∀ (i:Nat) (x:Value) (d:Nat),vs[i]? = some x->ds[i]? = some d->∃ loc,β d=some loc/\x=.pointer (some ⟨loc.blk,0,none⟩)
 | .yld l=>v=.func (.yield l) #[] #[]
 | .tup xs=>∃ vs:List Value,v=.tuple ⟨vs⟩/\vs.length=xs.length/\∀ (i:Nat) (x:Value) (p:PV),vs[i]? = some x->xs[i]? = some p->PRep w Im x p
 | .mref d=>∃ loc,β d=some loc/\v=.map (some loc.blk)
 | .junk=>True
def Ci (β:Env) (w:World) (Im:Nat->Prop) (d:Nat):Reg->Prop
 | .var T cs=>∃ loc cur,β d=some loc/\loc.sz=cs.length/\loc.tot=1/\w.heap[loc.blk]? = some (.cells ⟨cur⟩ T (0,0))/\cur.length=cs.length /\
   ∀ (j:Nat) (v:Value) (l:L),cur[j]? = some v->cs[j]? = some l->LRep β w Im v l/\(l.cellOK=true\/l=.junk)
 | .row T sz es=>(β d=none/\es=[])\/∃ loc cur,β d=some loc/\loc.sz=sz/\w.heap[loc.blk]? = some (.cells ⟨cur⟩ T (0,0)) /\
   cur.length=loc.tot * sz/\es.length<=loc.tot/\loc.tot<=maxLen/\(∀ e∈es,e.length=sz/\∀ p∈e,p.scalar=true) /\
   ∀ (i:Nat) (e:List PV) (j:Nat) (p:PV),es[i]? = some e->e[j]? = some p->∃ v,cur[i * sz+j]? = some v/\PRep w Im v p
 | .lrow T sz full es=>(β d=none/\es=[])\/∃ loc cur,β d=some loc/\loc.sz=sz/\w.heap[loc.blk]? = some (.cells ⟨cur⟩ T (0,0)) /\
   cur.length=loc.tot * sz/\es.length<=loc.tot/\(full=true->es.length=loc.tot)/\loc.tot<=maxLen/\(∀ e∈es,e.length=sz) /\
   ∀ (i:Nat) (e:List L) (j:Nat) (l:L),es[i]? = some e->e[j]? = some l->∃ v,cur[i * sz+j]? = some v/\LRep β w Im v l/\(l.cellOK=true\/l=.junk)
 | .obj o=>∃ loc,β d=some loc/\ORep w Im loc.blk w.heap[loc.blk]? o
structure Keeps (w:World) (Im:Nat->Prop) (w':World) (Im':Nat->Prop):Prop where
 im:∀ b,Im b->Im' b
 block:∀ b,Im b->w'.heap[b]? = w.heap[b]?
theorem Keeps.cell {w w':World} {Im Im':Nat->Prop} (h:Keeps w Im w' Im') {a:Addr} (hb:Im a.block):w'.cell? a=w.cell? a :=
 World.cell?_of_block (w:=w) (h.block _ hb)
theorem PRep.mono {w w':World} {Im Im':Nat->Prop} (hk:Keeps w Im w' Im') {v:Value} {x:PV} (h:PRep w Im v x):PRep w' Im' v x:=by
 induction h with
 | bool b=>exact .bool b
 | int k n=>exact .int k n
 | str s=>exact .str s
 | agg cs ps hl hs _ ih=>exact .agg cs ps hl hs ih
 | snil=>exact .snil
 | nptr=>exact .nptr
 | nmap=>exact .nmap
 | nfn=>exact .nfn
 | nifc=>exact .nifc
 | ifc t v=>exact .ifc t v
 | ifi t k n=>exact .ifi t k n
 | mp r cl ents es hr hw hl hn hb _ _ ihk ihv=>exact .mp r cl ents es (hk.im r hr) ((hk.block r hr).trans hw) hl hn hb ihk ihv
 | clo g b o ps hb f hsc hc _ ih=>exact .clo g b o ps (hk.im b hb) f hsc (fun j hj=>(hk.cell (a:=⟨b,o+j,none⟩) hb).trans (hc j hj)) ih
 | slNil=>exact .slNil
 | sl b off cap sz es hcap hb f hsz hsc hc _ ih =>
  exact .sl b off cap sz es hcap (hk.im b hb) f hsz hsc (fun i hi j hj=>(hk.cell (a:=⟨b,off+i * sz+j,none⟩) hb).trans (hc i hi j hj)) ih
theorem MRep.mono {w w':World} {Im Im':Nat->Prop} (hk:Keeps w Im w' Im') {ents:List MapEntry} {cl:Nat} {es:List (PV×PV)} (h:MRep w Im ents cl es):MRep w' Im' ents cl es :=
 ⟨h.1,h.2.1,h.2.2.1,fun i e p he hp=>⟨(h.2.2.2 i e p he hp).1.mono hk,(h.2.2.2 i e p he hp).2.mono hk⟩⟩
theorem ORep.mono {w w':World} {Im Im':Nat->Prop} (hk:Keeps w Im w' Im') {blk:Nat} {b:Option Obj} {o:PObj} (h:ORep w Im blk b o):ORep w' Im' blk b o:=by
 cases o with
 | mp es=>obtain ⟨ents,cl,h1,h2⟩:=h;exact ⟨ents,cl,h1,h2.mono hk⟩
 | sit s pos=>exact h
 | mit es seen =>
  rcases h with h | ⟨m,ents,cl,h1,h2,h3,h4⟩
  ·exact .inl h
  ·exact .inr ⟨m,ents,cl,hk.im m h1,(hk.block m h1).trans h2,h3.mono hk,h4⟩
 | mpe es j n=>obtain ⟨ents,cl,h1,h2,h3⟩:=h;exact ⟨ents,cl,h1,h2.mono hk,h3⟩
 | loop l r=>exact h
structure Cx where
 P:Program
 G:World->(Nat->Prop)->Prop
 mono:∀ {w w':World} {Im Im':Nat->Prop},Keeps w Im w' Im'->G w Im->G w' Im'
 kind:Nat->Nat
 keep:Nat->Bool
def L.mentions (d:Nat):L->Bool
 | .ptr e _ _=>e == d
 | .own e _ _=>e == d
 | .fn _ ds=>ds.contains d
 | .cfn _ ds=>ds.contains d
 | .mref e=>e == d
 | _=>false
theorem LRep.mono {β β':Env} {w w':World} {Im Im':Nat->Prop} (hk:Keeps w Im w' Im') {v:Value} {l:L}
  (hβ:∀ d,l.mentions d=true->β' d=β d) (h:LRep β w Im v l):LRep β' w' Im' v l:=by
 cases l with
 | p x=>exact PRep.mono hk h
 | ptr d i j =>
  obtain ⟨loc,h1,h2⟩:=h;exact ⟨loc,by rw [hβ d (by simp [L.mentions])];exact h1,h2⟩
 | own d off len =>
  have e:=hβ d (by simp [L.mentions]);simp only [LRep,e] at h ⊢;exact h
 | eptr cs =>
  obtain ⟨b,o,hb,hv,f,hc,hp⟩:=h;exact ⟨b,o,hk.im b hb,hv,f,fun j hj=>(hk.cell (a:=⟨b,o+j,none⟩) hb).trans (hc j hj),fun j p hj=>⟨(hp j p hj).1.mono hk,(hp j p hj).2⟩⟩
 | fn f ds =>
  obtain ⟨vs,hv,hl,hx⟩:=h;refine ⟨vs,hv,hl,fun i x d hi hd=>?_⟩;obtain ⟨loc,h1,h2⟩:=hx i x d hi hd;exact ⟨loc,by rw [hβ d (by simp [L.mentions];exact Eae hd)];exact h1,h2⟩
 | cfn f ds =>
  obtain ⟨vs,hv,hl,hx⟩:=h;refine ⟨vs,hv,hl,fun i x d hi hd=>?_⟩;obtain ⟨loc,h1,h2⟩:=hx i x d hi hd;exact ⟨loc,by rw [hβ d (by simp [L.mentions];exact Eae hd)];exact h1,h2⟩
 | yld l=>exact h
 | tup xs =>
  obtain ⟨vs,hv,hl,hx⟩:=h;exact ⟨vs,hv,hl,fun i x p hi hp=>(hx i x p hi hp).mono hk⟩
 | mref d =>
  obtain ⟨loc,h1,h2⟩:=h;exact ⟨loc,by rw [hβ d (by simp [L.mentions])];exact h1,h2⟩
 | junk=>trivial
theorem LRep.mono' {β:Env} {w w':World} {Im Im':Nat->Prop} (hk:Keeps w Im w' Im') {v:Value} {l:L} (h:LRep β w Im v l):LRep β w' Im' v l :=
 h.mono hk fun _ _=>rfl
def Reg.mentions (d:Nat):Reg->Bool
 | .var _ cs=>cs.any (L.mentions d)
 | .row ..=>false
 | .lrow _ _ _ es=>es.any fun e=>e.any (L.mentions d)
 | .obj _=>false
theorem Ci.mono {β β':Env} {w w':World} {Im Im':Nat->Prop} (hk:Keeps w Im w' Im') {d:Nat} {r:Reg} (hd:β' d=β d)
  (hβ:∀ e,r.mentions e=true->β' e=β e) (hb:∀ loc,β d=some loc->w'.heap[loc.blk]? = w.heap[loc.blk]?) (h:Ci β w Im d r):Ci β' w' Im' d r:=by
 cases r with
 | var T cs =>
  obtain ⟨loc,cur,h1,h2,h3,h4,h5,h6⟩:=h;refine ⟨loc,cur,by rw [hd];exact h1,h2,h3,by rw [hb loc h1];exact h4,h5,fun j v l hv hl=>⟨(h6 j v l hv hl).1.mono hk (fun e he=>hβ e ?_),(h6 j v l hv hl).2⟩⟩;simp only [Reg.mentions,List.any_eq_true];exact ⟨l,Eae hl,he⟩
 | row T sz es =>
  rcases h with ⟨h1,h2⟩ | ⟨loc,cur,h1,h2,h3,h4,h5,h6,h7,h8⟩
  ·exact .inl ⟨by rw [hd];exact h1,h2⟩
  ·refine .inr ⟨loc,cur,by rw [hd];exact h1,h2,by rw [hb loc h1];exact h3,h4,h5,h6,h7,fun i e j p hi hj=>?_⟩;obtain ⟨v,hv,hp⟩:=h8 i e j p hi hj;exact ⟨v,hv,hp.mono hk⟩
 | lrow T sz full es =>
  rcases h with ⟨h1,h2⟩ | ⟨loc,cur,h1,h2,h3,h4,h5,h6,h7,h8,h9⟩
  ·exact .inl ⟨by rw [hd];exact h1,h2⟩
  ·refine .inr ⟨loc,cur,by rw [hd];exact h1,h2,by rw [hb loc h1];exact h3,h4,h5,h6,h7,h8,fun i e j l hi hj=>?_⟩;obtain ⟨v,hv,hl,hc⟩:=h9 i e j l hi hj;refine ⟨v,hv,hl.mono hk (fun x hx=>hβ x ?_),hc⟩;simp only [Reg.mentions,List.any_eq_true];exact ⟨e,Eae hi,l,Eae hj,hx⟩
 | obj o =>
  obtain ⟨loc,h1,h2⟩:=h;exact ⟨loc,by rw [hd];exact h1,by rw [hb loc h1];exact h2.mono hk⟩
structure Fit (β:Env) (w:World) (Im:Nat->Prop) (s:St) (tmps:Array Value):Prop where
 size:tmps.size=s.tmps.length
 tmps:∀ i l,s.tmps[i]? = some l->LRep β w Im (tmps.getD i undef) l
 regs:∀ d r,(d,r)∈s.regs->Ci β w Im d r
 nodup:(s.regs.map (·.1)).Nodup
 live:∀ d r loc,(d,r)∈s.regs->β d=some loc->loc.blk<w.heap.size/\¬ Im loc.blk
 apart:∀ d r d' r' loc loc',(d,r)∈s.regs->(d',r')∈s.regs->d≠d'->β d=some loc->β d'=some loc'->loc.blk≠loc'.blk
 im:∀ b,Im b->b<w.heap.size
structure Grow (w:World) (Im:Nat->Prop) (w':World) (Im':Nat->Prop):Prop where
 os:w'.os=w.os
 tape:w'.tape=w.tape
 output:w'.output=w.output
 size:w.heap.size<=w'.heap.size
 block:∀ k,k<w.heap.size->w'.heap[k]? = w.heap[k]?
 im:∀ b,Im b->Im' b
 new:∀ b,Im' b->Im b\/w.heap.size<=b
 lt:∀ b,Im' b->b<w'.heap.size
theorem Grow.refl {w:World} {Im:Nat->Prop} (h:∀ b,Im b->b<w.heap.size):Grow w Im w Im :=
 ⟨rfl,rfl,rfl,Eai _,fun _ _=>rfl,fun _ h=>h,fun _ h=>.inl h,h⟩
theorem Grow.keeps {w w':World} {Im Im':Nat->Prop} (h:Grow w Im w' Im') (hi:∀ b,Im b->b<w.heap.size):Keeps w Im w' Im' :=
 ⟨h.im,fun b hb=>h.block b (hi b hb)⟩
theorem Fit.grow {β:Env} {w w':World} {Im Im':Nat->Prop} {s:St} {tmps:Array Value} (h:Fit β w Im s tmps) (g:Grow w Im w' Im'):Fit β w' Im' s tmps where
 size:=h.size
 tmps i l hl:=(h.tmps i l hl).mono' (g.keeps h.im)
 regs d r hr:=(h.regs d r hr).mono (g.keeps h.im) rfl (fun _ _=>rfl) fun loc hl=>g.block _ (h.live d r loc hr hl).1
 nodup:=h.nodup
 live d r loc hr hl:=⟨Ebd (h.live d r loc hr hl).1 g.size,fun hi=>(g.new _ hi).elim (h.live d r loc hr hl).2 fun h'=>by have:=(h.live d r loc hr hl).1;omega⟩
 apart:=h.apart
 im:=g.lt
def St.put (s:St) (dst:Option Tmp) (l:L):St :=
 match dst with
 | some d=>{ s with tmps:=s.tmps.set d l }
 | none=>s
theorem Fit.put {β:Env} {w:World} {Im:Nat->Prop} {s:St} {a:Act} (h:Fit β w Im s a.tmps) (dst:Option Tmp) {v:Value} {l:L} (hl:LRep β w Im v l) :
  Fit β w Im (s.put dst l) (a.put dst v).tmps:=by
 cases dst with
 | none=>exact h
 | some d =>
  refine { h with size:=by simp [St.put,Act.put,h.size],tmps:=fun i l' hi=>?_ };simp only [St.put,Act.put] at hi ⊢;rw [Ebn] at hi;by_cases hd:d=i
  ·subst hd;rw [if_pos rfl] at hi;split at hi
   ·cases hi;rename_i hlt;have:d<a.tmps.size:=by rw [h.size];exact hlt
    simp [Eas,this];exact hl
   ·cases hi
  ·rw [if_neg hd] at hi;have:=h.tmps i l' hi;simpa [Eas,Eb2,hd] using this
def B2 (P:Program) (t:TypeId):Option Bool :=
 match P.underlying t with
 | some (.struct _)=>some true
 | some (.array _ _)=>some true
 | some _=>some false
 | none=>none
def slE (P:Program) (t:TypeId):Option (TypeId×Nat) :=
 match P.underlying t with
 | some (.slice e)=>if P.cellsOf e=0 then none else some (e,P.cellsOf e)
 | _=>none
def arE (P:Program) (t:TypeId):Option (Nat×TypeId×Nat) :=
 match P.underlying t with
 | some (.array n e)=>if P.cellsOf e=0 then none else some (n,e,P.cellsOf e)
 | _=>none
def fld (P:Program) (t:TypeId) (i:Nat):Option (Nat×TypeId) :=
 match P.underlying t with
 | some (.struct fs)=>(fs[i]?).bind fun f=>if P.cellsOf f.type=0 then none else some (f.offset,f.type)
 | _=>none
def Gr:Value->Option PV
 | .bool b=>some (.bool b)
 | .int k n=>some (.int k n)
 | .string s=>some (.str s.data.toList)
 | .slice none 0 0=>some .snil
 | .pointer none=>some .nptr
 | .map none=>some .nmap
 | .nilFunc=>some .nfn
 | .nilIface=>some .nifc
 | _=>none
def Bg {α β:Type} (f:α->Option β):List α->Option (List β)
 | []=>some []
 | a :: l=>match f a with
  | some b=>match Bg f l with
   | some bs=>some (b :: bs)
   | none=>none
  | none=>none
def Bu (P:Program) (t:TypeId):Option (List PV) :=
 match P.info? t with
 | some i=>match i.zero with
  | some v=>Bg Gr v.cells.toList
  | none=>none
 | none=>none
def G6:Value->L
 | .tuple vs=>if vs.size=0 then .tup [] else .junk
 | .agg cs=>match Bg Gr cs.toList with
  | some ps=>.p (.agg ps)
  | none=>.junk
 | v=>match Gr v with
  | some x=>.p x
  | none=>.junk
def St.get (s:St):Operand->L
 | .tmp t=>s.tmps.getD t .junk
 | .const v=>G6 v
 | .global _=>.junk
 | .func f=>.fn f []
def Am (d:Nat):List (Nat×Reg)->Option Reg
 | []=>none
 | (e,r) :: rest=>if e=d then some r else Am d rest
theorem Ax {d:Nat} {r:Reg}:∀ {l:List (Nat×Reg)},Am d l=some r->(d,r)∈l
 | (e,r') :: rest,h=>by
  simp only [Am] at h;split at h
  ·rename_i he;cases h;subst he;exact Eaf
  ·exact Eag _ (Ax h)
def lint (op:BinOp) (k:IntKind) (a:Int) (k':IntKind) (b:Int) (K:L->Prop):Prop :=
 match op with
 | .shl=>0<=b/\K (.p (.int k (k.wrap (a * 2 ^ min b.toNat k.bits))))
 | .shr=>0<=b/\K (.p (.int k (a.fdiv (2 ^ min b.toNat k.bits))))
 | .add=>k=k'/\K (.p (.int k (k.wrap (a+b))))
 | .sub=>k=k'/\K (.p (.int k (k.wrap (a - b))))
 | .mul=>k=k'/\K (.p (.int k (k.wrap (a * b))))
 | .quo=>k=k'/\b≠0/\K (.p (.int k (k.wrap (a.tdiv b))))
 | .rem=>k=k'/\b≠0/\K (.p (.int k (a.tmod b)))
 | .and=>k=k'/\K (.p (.int k (k.wrap (BitVec.ofInt k.bits a &&& BitVec.ofInt k.bits b).toNat)))
 | .or=>k=k'/\K (.p (.int k (k.wrap (BitVec.ofInt k.bits a ||| BitVec.ofInt k.bits b).toNat)))
 | .xor=>k=k'/\K (.p (.int k (k.wrap (BitVec.ofInt k.bits a ^^^ BitVec.ofInt k.bits b).toNat)))
 | .andNot=>k=k'/\K (.p (.int k (k.wrap (BitVec.ofInt k.bits a &&& ~~~ BitVec.ofInt k.bits b).toNat)))
 | .eql=>k=k'/\K (.p (.bool (a == b)))
 | .neq=>k=k'/\K (.p (.bool (a != b)))
 | .lss=>k=k'/\K (.p (.bool (decide (a<b))))
 | .leq=>k=k'/\K (.p (.bool (decide (a<=b))))
 | .gtr=>k=k'/\K (.p (.bool (decide (b<a))))
 | .geq=>k=k'/\K (.p (.bool (decide (b<=a))))
def lstr (op:BinOp) (a b:List UInt8) (K:L->Prop):Prop :=
 match op with
 | .add=>a.length+b.length<=9223372036854775807/\K (.p (.str (a ++ b)))
 | .eql=>K (.p (.bool (a == b)))
 | .neq=>K (.p (.bool (!(a == b))))
 | .lss=>K (.p (.bool (Op.bytesLess a b)))
 | .leq=>K (.p (.bool (Op.bytesLess a b || a == b)))
 | .gtr=>K (.p (.bool (!(Op.bytesLess a b || a == b))))
 | .geq=>K (.p (.bool (!(Op.bytesLess a b))))
 | _=>False
inductive Tag where
 | bool
 | int
 | str
def Bt:List Tag->List PV->List PV->Option Bool
 | [],[],[]=>some true
 | .bool :: ts,.bool a :: l,.bool b :: r=>match Bt ts l r with
  | some x=>some ((a == b) && x)
  | none=>none
 | .int :: ts,.int k a :: l,.int k' b :: r=>if k=k' then match Bt ts l r with
  | some x=>some ((a == b) && x)
  | none=>none else none
 | .str :: ts,.str a :: l,.str b :: r=>match Bt ts l r with
  | some x=>some ((a == b) && x)
  | none=>none
 | _,_,_=>none
mutual
def L1 (P:Program):Nat->TypeId->Option (List Tag)
 | 0,_=>none
 | m+1,t=>match P.underlying t with
  | some .bool=>some [.bool]
  | some (.int _)=>some [.int]
  | some .string=>some [.str]
  | some (.struct fs)=>if P.stoodInHeld t=true then none else Lw P m 0 fs.toList
  | _=>none
def Lw (P:Program):Nat->Nat->List Field->Option (List Tag)
 | _,_,[]=>some []
 | 0,_,_ :: _=>none
 | m+1,n,f :: fs=>match L1 P m f.type with
  | some a=>if f.offset=n/\f.name ≠ "_" /\ P.cellsOf f.type=a.length/\a.length≠0 then match Lw P m (n+a.length) fs with
   | some b=>some (a ++ b)
   | none=>none else none
  | none=>none
end
def Nt (P:Program) (t:TypeId):Option (List Tag) :=
 if B2 P t=some true/\P.eqGuardType P.depth t=false then L1 P 100 t else none
def Fy (P:Program) (t:TypeId) (cst:Bool) (x y:L):Option Bool :=
 match P.underlying t,x,y with
 | some (.pointer _),.p .nptr,.p .nptr=>some true
 | some (.pointer _),.ptr _ _ _,.p .nptr=>some false
 | some (.pointer _),.eptr _,.p .nptr=>some false
 | some (.pointer e),.ptr d i j,.ptr d' i' j'=>if d=d'/\i=i'/\j=j'/\P.cellsOf e≠0 then some true else none
 | some (.interface _),.p .nifc,.p .nifc=>if cst=true then some true else none
 | some (.interface _),.p .ifc,.p .nifc=>some false
 | some (.interface _),.p .nifc,.p .ifc=>some false
 | some (.interface _),.p (.ifi _ _ _),.p .nifc=>some false
 | some (.interface _),.p .nifc,.p (.ifi _ _ _)=>some false
 | some (.slice _),.p .snil,.p .snil=>some true
 | some (.slice _),.p (.sl (_ :: _)),.p .snil=>some false
 | some (.slice _),.own _ _ (_+1),.p .snil=>some false
 | some (.map _ _),.p .nmap,.p .nmap=>some true
 | some (.map _ _),.mref _,.p .nmap=>some false
 | some (.map _ _),.p (.mp _),.p .nmap=>some false
 | some (.func _ _ _),.p .nfn,.p .nfn=>some true
 | some (.func _ _ _),.fn _ _,.p .nfn=>some false
 | some (.func _ _ _),.cfn _ _,.p .nfn=>some false
 | _,_,_=>none
def Db (o:Option Bool) (op:BinOp) (K:L->Prop):Prop :=
 match o,op with
 | some r,.eql=>K (.p (.bool r))
 | some r,.neq=>K (.p (.bool (!r)))
 | _,_=>False
def D8:Operand->Bool
 | .const _=>true
 | _=>false
def lbin (P:Program) (op:BinOp) (t:TypeId) (cst:Bool) (x y:L) (K:L->Prop):Prop :=
 match x,y with
 | .p (.int k a),.p (.int k' b)=>lint op k a k' b K
 | .p (.str a),.p (.str b)=>lstr op a b K
 | .p (.bool a),.p (.bool b)=>P.underlying t=some .bool/\match op with
  | .eql=>K (.p (.bool (a == b)))
  | .neq=>K (.p (.bool (!(a == b))))
  | _=>False
 | .p (.agg a),.p (.agg b)=>∃ ts,Nt P t=some ts/\∃ r,Bt ts a b=some r/\match op with
  | .eql=>K (.p (.bool r))
  | .neq=>K (.p (.bool (!r)))
  | _=>False
 | x,y=>Db (Fy P t cst x y) op K
def lun (op:UnOp) (x:L) (K:L->Prop):Prop :=
 match op,x with
 | .neg,.p (.int k n)=>K (.p (.int k (k.wrap (0 - n))))
 | .not,.p (.bool b)=>K (.p (.bool (!b)))
 | _,_=>False
def Cw:List (List PV)->Option (List UInt8)
 | []=>some []
 | [.int .u8 n] :: l=>if 0<=n/\n<256 then match Cw l with
  | some bs=>some (UInt8.ofNat n.toNat :: bs)
  | none=>none else none
 | _=>none
def J1 (P:Program) (src dst:TypeId) (x:L) (K:L->Prop):Prop :=
 match P.underlying dst,x with
 | some (.int k),.p (.int _ n)=>(P.underlying src).isSome=true/\K (.p (.int k (k.wrap n)))
 | some .string,.p (.str s)=>(P.underlying src).isSome=true/\(∀ e,P.underlying src≠some (.slice e))/\K (.p (.str s))
 | some .string,.p (.int _ n)=>(P.underlying src).isSome=true/\(∀ e,P.underlying src≠some (.slice e))/\K (.p (.str (Utf8.encode n).data.toList))
 | some .string,.p (.sl es)=>(∃ e,P.underlying src=some (.slice e)/\P.underlying e=some (.int .u8))/\∃ bs,Cw es=some bs/\K (.p (.str bs))
 | _,_=>False
def llen (P:Program) (t:TypeId) (x:L) (K:L->Prop):Prop :=
 match P.underlying t,x with
 | some .string,.p (.str s)=>K (.p (.int .i64 s.length))
 | some (.slice _),.p (.sl es)=>K (.p (.int .i64 es.length))
 | some (.slice _),.p .snil=>K (.p (.int .i64 0))
 | some (.slice _),.own _ _ len=>K (.p (.int .i64 len))
 | some (.map _ _),.p .nmap=>K (.p (.int .i64 0))
 | some (.map _ _),.p (.mp es)=>K (.p (.int .i64 es.length))
 | _,_=>False
def Dg (P:Program) (regs:List (Nat×Reg)) (t:TypeId) (x ix:L) (K:L->Prop):Prop :=
 match x,ix with
 | .p (.sl es),.p (.int _ i)=>match slE P t with
  | some (_,sz)=>0<=i/\∃ e,es[i.toNat]? = some e/\e.length=sz/\K (.eptr e)
  | none=>False
 | .own d off len,.p (.int _ i)=>match Am d regs,slE P t with
  | some (.row _ sz _),some (_,sz')=>sz=sz'/\0<=i/\i<len/\K (.ptr d (off+i.toNat) 0)
  | some (.lrow _ sz _ _),some (_,sz')=>sz=sz'/\0<=i/\i<len/\K (.ptr d (off+i.toNat) 0)
  | _,_=>False
 | .ptr d a b,.p (.int _ i)=>match arE P t with
  | some (n,_,sz)=>0<=i/\i<n/\K (.ptr d a (b+i.toNat * sz))
  | none=>False
 | .eptr cs,.p (.int _ i)=>match arE P t with
  | some (n,_,sz)=>0<=i/\i<n/\i.toNat * sz<=cs.length/\K (.eptr (cs.drop (i.toNat * sz)))
  | none=>False
 | _,_=>False
def Ix (P:Program) (t:TypeId) (x ix:L) (K:L->Prop):Prop :=
 match P.underlying t,x,ix with
 | some .string,.p (.str s),.p (.int _ i)=>0<=i/\∃ b,s[i.toNat]? = some b/\K (.p (.int .u8 b.toNat))
 | some (.array n e),.p (.agg cs),.p (.int _ i)=>B2 P e=some false/\P.cellsOf e=1/\0<=i/\i<n/\∃ c,cs[i.toNat]? = some c/\K (.p c)
 | _,_,_=>False
def D2 (P:Program) (t:TypeId) (x:L) (f:Nat) (K:L->Prop):Prop :=
 match fld P t f,x with
 | some (off,_),.eptr cs=>off<=cs.length/\K (.eptr (cs.drop off))
 | some (off,_),.ptr d i j=>K (.ptr d i (j+off))
 | _,_=>False
def Q5 (P:Program) (t:TypeId) (x:L) (f:Nat) (K:L->Prop):Prop :=
 match fld P t f,x with
 | some (off,ft),.p (.agg cs)=>match B2 P ft with
  | some true=>off+P.cellsOf ft<=cs.length/\K (.p (.agg ((cs.drop off).take (P.cellsOf ft))))
  | some false=>P.cellsOf ft=1/\∃ c,cs[off]? = some c/\K (.p c)
  | none=>False
 | _,_=>False
def L.pure? : L->Option PV
 | .p x=>some x
 | _=>none
def Jc (P:Program) (regs:List (Nat×Reg)) (t:TypeId) (x:L) (K:L->Prop):Prop :=
 match B2 P t,x with
 | some false,.eptr cs=>∃ c,cs[0]? = some c/\K (.p c)
 | some true,.eptr cs=>0<P.cellsOf t/\P.cellsOf t<=cs.length/\K (.p (.agg (cs.take (P.cellsOf t))))
 | some false,.ptr d i j=>match Am d regs with
  | some (.var _ cs)=>i=0/\∃ c,cs[j]? = some c/\K c
  | some (.row _ _ es)=>∃ e,es[i]? = some e/\∃ c,e[j]? = some c/\K (.p c)
  | some (.lrow _ _ _ es)=>∃ e,es[i]? = some e/\∃ c,e[j]? = some c/\K c
  | some (.obj _)=>False
  | none=>False
 | some true,.ptr d i j=>match Am d regs with
  | some (.var _ cs)=>i=0/\0<P.cellsOf t/\j+P.cellsOf t<=cs.length/\∃ ps,Bg L.pure? ((cs.drop j).take (P.cellsOf t))=some ps/\K (.p (.agg ps))
  | some (.row _ _ es)=>∃ e,es[i]? = some e/\0<P.cellsOf t/\j+P.cellsOf t<=e.length/\K (.p (.agg ((e.drop j).take (P.cellsOf t))))
  | some (.lrow _ _ _ es)=>∃ e,es[i]? = some e/\0<P.cellsOf t/\j+P.cellsOf t<=e.length/\∃ ps,Bg L.pure? ((e.drop j).take (P.cellsOf t))=some ps/\K (.p (.agg ps))
  | some (.obj _)=>False
  | none=>False
 | _,_=>False
def Dr (ρ:Operand->L) (d:Int):Option Operand->Option Int
 | none=>some d
 | some o=>match ρ o with
  | .p (.int _ n)=>some n
  | _=>none
def Gx (regs:List (Nat×Reg)) (d:Nat):Nat :=
 match Am d regs with
 | some (.row _ _ es)=>es.length
 | some (.lrow _ _ _ es)=>es.length
 | _=>0
def Pa (regs:List (Nat×Reg)) (d:Nat):Option Nat :=
 match Am d regs with
 | some (.row _ sz _)=>some sz
 | some (.lrow _ sz _ _)=>some sz
 | _=>none
def G2 (P:Program) (regs:List (Nat×Reg)) (t:TypeId) (ρ:Operand->L) (x:Operand) (lo hi mx:Option Operand) (K:L->Prop):Prop :=
 mx=none/\match P.underlying t,ρ x with
 | some .string,.p (.str s)=>∃ l h,Dr ρ 0 lo=some l/\Dr ρ s.length hi=some h/\0<=l/\l<=h/\h<=s.length/\K (.p (.str ((s.drop l.toNat).take (h.toNat - l.toNat))))
 | some (.slice e),.p (.sl es)=>0<P.cellsOf e/\(∀ x∈es,x.length=P.cellsOf e)/\∃ l h,Dr ρ 0 lo=some l/\Dr ρ es.length hi=some h/\0<=l/\l<=h/\h<=es.length/\K (.p (.sl ((es.drop l.toNat).take (h.toNat - l.toNat))))
 | some (.slice e),.p .snil=>0<P.cellsOf e/\∃ l h,Dr ρ 0 lo=some l/\Dr ρ 0 hi=some h/\l=0/\h=0/\K (.p .snil)
 | some (.slice e),.own d off len=>0<P.cellsOf e/\Pa regs d=some (P.cellsOf e)/\∃ l h,Dr ρ 0 lo=some l/\Dr ρ len hi=some h/\0<=l/\l<=h/\h<=(max len (Gx regs d - off):Nat)/\K (.own d (off+l.toNat) (h.toNat - l.toNat))
 | _,_=>False
def Fj (isMax:Bool) (xs:List L) (K:L->Prop):Prop :=
 match xs with
 | [.p (.int k a),.p (.int _ b)]=>if isMax then K (.p (.int k (max a b))) else K (.p (.int k (min a b)))
 | _=>False
def Ef (P:Program) (t:TypeId):List PV->List (Nat×L)->Option (List PV)
 | cs,[]=>some cs
 | cs,(i,x) :: rest=>match fld P t i,x with
  | some (off,ft),.p (.agg xs)=>if xs.length=P.cellsOf ft/\off+xs.length<=cs.length then Ef P t (cs.take off ++ xs ++ cs.drop (off+xs.length)) rest else none
  | some (off,ft),.p v=>if 1=P.cellsOf ft/\off+1<=cs.length then Ef P t (cs.set off v) rest else none
  | _,_=>none
def Ez (P:Program) (t:TypeId):Bool :=
 match P.underlying t with
 | some (.struct fs)=>fs.toList.all fun f=>P.cellsOf f.type != 0
 | _=>false
def Jw8:Nat->List (Nat×L)->Option (List PV)
 | _,[]=>some []
 | k,(i,.p v) :: rest=>if i=k/\v.scalar=true then (match Jw8 (k+1) rest with
  | some r=>some (v :: r)
  | none=>none) else none
 | _,_ :: _=>none
def J6c (P:Program) (t:TypeId) (parts:List (Nat×L)) (K:L->Prop):Prop :=
 ∃ z,Bu P t=some z/\Ez P t=true/\∃ cs,Ef P t z parts=some cs/\K (.p (.agg cs))
def Kbi (P:Program) (t n e:Nat) (parts:List (Nat×L)) (K:L->Prop):Prop :=
 P.cellsOf e=1/\n=parts.length/\(∃ z,Bu P t=some z/\z.length=n)/\∃ cs,Jw8 0 parts=some cs/\K (.p (.agg cs))
def Vf (P:Program) (t:TypeId) (parts:List (Nat×L)) (K:L->Prop):Prop :=
 match P.underlying t with
 | some (.array n e)=>Kbi P t n e parts K
 | _=>J6c P t parts K
theorem J59 {P:Program} {t:TypeId} {parts:List (Nat×L)} {K:L->Prop} (h:Vf P t parts K):(∃ n e,P.underlying t=some (.array n e)/\Kbi P t n e parts K)\/J6c P t parts K:=by
 unfold Vf at h;split at h
 ·rename_i n e he;exact .inl ⟨n,e,he,h⟩
 ·exact .inr h
theorem Kal {P:Program} {t:TypeId} {parts:List (Nat×L)} {K K':L->Prop} (hK:∀ c,K (.p (.agg c))->K' (.p (.agg c))) (h:Vf P t parts K):Vf P t parts K':=by
 unfold Vf at h ⊢;split
 ·rename_i n e he;rw [he] at h;obtain ⟨h1,h2,h3,cs,h4,h5⟩:=h;exact ⟨h1,h2,h3,cs,h4,hK _ h5⟩
 ·rename_i hne;split at h
  ·rename_i n e he;exact (hne n e he).elim
  ·obtain ⟨z,h1,h2,cs,h3,h4⟩:=h;exact ⟨z,h1,h2,cs,h3,hK _ h4⟩
theorem J58 {P:Program} {t:TypeId} {parts:List (Nat×L)} {K:L->Prop} (h:Vf P t parts K):∃ l,Vf P t parts (fun m=>m=l)/\K l:=by
 unfold Vf at h;unfold Vf;split at h
 ·obtain ⟨h1,h2,h3,cs,h4,h5⟩:=h;exact ⟨_,⟨h1,h2,h3,cs,h4,rfl⟩,h5⟩
 ·obtain ⟨z,h1,h2,cs,h3,h4⟩:=h;exact ⟨_,⟨z,h1,h2,cs,h3,rfl⟩,h4⟩
def Hq:List L->Option (List Nat)
 | []=>some []
 | .ptr d 0 0 :: l=>match Hq l with
  | some ds=>some (d :: ds)
  | none=>none
 | _=>none
def J3q:List L->Option (List PV)
 | [.eptr ps]=>some ps
 | _=>none
def Jmn (f:FuncId) (cs:List L) (K:L->Prop):Prop:=match J3q cs with
 | some ps=>K (.p (.clo f ps))
 | none=>∃ ds,Hq cs=some ds/\K (.fn f ds)
theorem J64 {cs:List L} {ps:List PV} (h:J3q cs=some ps):cs=[.eptr ps]:=by
 unfold J3q at h;split at h
 ·cases h;rfl
 ·cases h
theorem J9i {f:FuncId} {cs:List L} {K K':L->Prop} (hK:∀ l,K l->K' l) (h:Jmn f cs K):Jmn f cs K':=by
 unfold Jmn at h ⊢;cases he:J3q cs with
 | some ps=>rw [he] at h;exact hK _ h
 | none=>rw [he] at h;obtain ⟨ds,hd,h⟩:=h;exact ⟨ds,hd,hK _ h⟩
theorem J82 {f:FuncId} {cs:List L} {K:L->Prop} (h:Jmn f cs K):∃ l,Jmn f cs (fun m=>m=l)/\K l:=by
 unfold Jmn at h ⊢;cases he:J3q cs with
 | some ps=>rw [he] at h;exact ⟨_,rfl,h⟩
 | none=>rw [he] at h;obtain ⟨ds,hd,h⟩:=h;exact ⟨_,⟨ds,hd,rfl⟩,h⟩
def Lc:PV->PV->Option Bool
 | .int k a,.int k' b=>if k=k' then some (a == b) else none
 | .str a,.str b=>some (a == b)
 | .bool a,.bool b=>some (a == b)
 | _,_=>none
def Cl (k:PV):List (PV×PV)->Nat->Option (Option (Nat×PV))
 | [],_=>some none
 | (x,v) :: es,i=>match Lc k x with
  | some true=>some (some (i,v))
  | some false=>Cl k es (i+1)
  | none=>none
def mapT (P:Program) (t:TypeId):Option (TypeId×TypeId) :=
 match P.underlying t with
 | some (.map k e)=>match P.underlying k with
  | some (.int _)=>some (k,e)
  | some .string=>some (k,e)
  | some .bool=>some (k,e)
  | _=>none
 | _=>none
def kfit (d:TypeDesc) (k:PV):Bool :=
 match d,k with
 | .int q,.int q' _=>q == q'
 | .string,.str _=>true
 | .bool,.bool _=>true
 | _,_=>false
def De (P:Program) (t:TypeId) (k:PV):Bool :=
 match P.underlying t with
 | some d=>kfit d k
 | none=>false
def Jh9:Value->Bool
 | .agg _=>true
 | _=>false
def E5 (P:Program) (t:TypeId):Option PV :=
 match (P.info? t).bind (·.zero),Bu P t with
 | some v,some zs=>if Jh9 v=true then some (.agg zs) else match zs with
  | [z]=>some z
  | _=>none
 | _,_=>none
def Tz (regs:List (Nat×Reg)) (x:L):Option (List (PV×PV)) :=
 match x with
 | .p .nmap=>some []
 | .p (.mp es)=>some es
 | .mref d=>match Am d regs with
  | some (.obj (.mp es))=>some es
  | _=>none
 | _=>none
def Yc (P:Program) (regs:List (Nat×Reg)) (t:TypeId) (x ix:L) (ok:Bool) (l:L):Prop :=
 match mapT P t,Tz regs x,ix with
 | some (kt,et),some es,.p k=>De P kt k=true/\∃ r,Cl k es 0=some r/\∃ z,E5 P et=some z /\
   l
    = (match r,ok with
    | some (_,v),true=>.tup [v,.bool true]
    | none,true=>.tup [z,.bool false]
    | some (_,v),false=>.p v
    | none,false=>.p z)
 | _,_,_=>False
def M8 (t:TypeId):L->PV
 | .p (.int k n)=>.ifi t k n
 | _=>.ifc
def lqv (P:Program) (regs:List (Nat×Reg)) (ρ:Operand->L) (op:Op) (l:L):Prop :=
 match op with
 | .makeInterface t x=>(∃ d,P.underlying t=some d/\∀ ms,d≠.interface ms)/\l=.p (M8 t (ρ x))
 | .lookup t x ix ok=>Yc P regs t (ρ x) (ρ ix) ok l
 | .call { callee:=.builtin .cap,args,argTypes }=>match args.toList,argTypes.toList with
  | [x],[t]=>(∃ e,P.underlying t=some (.slice e))/\match ρ x with
   | .p .snil=>l=.p (.int .i64 0)
   | .own d off _=>match Am d regs with
    | some (.lrow _ _ true es)=>l=.p (.int .i64 (es.length - off:Nat))
    | _=>False
   | _=>False
  | _,_=>False
 | .call { callee:=.builtin .unsafeSliceData,args,.. }=>match args.toList with
  | [x]=>match ρ x with
   | .p .snil=>l=.p .nptr
   | .own d off n=>0<n/\l=.ptr d off 0
   | _=>False
  | _=>False
 | .call { callee:=.builtin .unsafeString,args,argTypes }=>match args.toList,argTypes.toList with
  | [x,y],_ :: _=>ρ x=.p .nptr/\(∃ k,ρ y=.p (.int k 0))/\l=.p (.str [])
  | _,_=>False
 | _=>False
def lq (P:Program) (regs:List (Nat×Reg)) (ρ:Operand->L) (op:Op) (K:L->Prop):Prop :=
 match op with
 | .move x=>K (ρ x)
 | .assign x=>K (ρ x)
 | .pick c a b=>match ρ c with
  | .p (.bool t)=>(t=true->K (ρ a))/\(t=false->K (ρ b))
  | _=>False
 | .binOp op t x y _=>lbin P op t (D8 x || D8 y) (ρ x) (ρ y) K
 | .unOp op _ x=>lun op (ρ x) K
 | .convert src dst x=>J1 P src dst (ρ x) K
 | .nilCheck x=>match ρ x with
  | .ptr d i j=>K (.ptr d i j)
  | .eptr cs=>K (.eptr cs)
  | .fn f ds=>K (.fn f ds)
  | _=>False
 | .load t a=>Jc P regs t (ρ a) K
 | .fieldAddr t x f=>D2 P t (ρ x) f K
 | .field t x f=>Q5 P t (ρ x) f K
 | .indexAddr t x ix=>Dg P regs t (ρ x) (ρ ix) K
 | .index t x ix=>Ix P t (ρ x) (ρ ix) K
 | .slice t x lo hi mx=>G2 P regs t ρ x lo hi mx K
 | .extract x i=>match ρ x with
  | .tup xs=>∃ c,xs[i]? = some c/\K (.p c)
  | _=>False
 | .build t parts=>Vf P t (parts.toList.map fun (i,x)=>(i,ρ x)) K
 | .makeFunc (.func f) first caps=>first = #[]/\Jmn f (caps.toList.map ρ) K
 | .call { callee:=.builtin .len,args,argTypes }=>match args.toList,argTypes.toList with
  | [x],[t]=>llen P t (ρ x) K
  | _,_=>False
 | .call { callee:=.builtin .max,args,.. }=>Fj true (args.toList.map ρ) K
 | .call { callee:=.builtin .min,args,.. }=>Fj false (args.toList.map ρ) K
 | op=>∃ l,lqv P regs ρ op l/\K l
end Go.LX
