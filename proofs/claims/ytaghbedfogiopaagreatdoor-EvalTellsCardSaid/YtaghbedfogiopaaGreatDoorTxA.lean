/- Logical values, logical states, and how they are represented in a world of the model. -/
import Derived.OrdersIn
import Derived.Lib.SlBytesRow
import Derived.Lib.BufferRead
set_option linter.all false
namespace Go.LX
open Go Go.RowKit
variable {p:Prop}{α:Type}(w:World){w':World}{Im:Nat->Prop}{v u:Value}(d:Nat)(P:Program){op:BinOp}{t:TypeId}{f:FuncId}{cs vs:List Value}{i n:Nat}{a:Act}{b:Bool}{r:Result Value}{k:IntKind}
def AA:type_of% @if_neg:=@if_neg
def AB:type_of% @if_pos:=@if_pos
def AD:type_of% @eq_false:=@eq_false
def AE:type_of% @eq_true:=@eq_true
def AF:type_of% @decide_eq_true_eq:=@decide_eq_true_eq
def AG:type_of% @decide_eq_true:=@decide_eq_true
def AH:type_of% @decide_eq_false:=@decide_eq_false
def AI:type_of% @decide_eq_false_iff_not:=@decide_eq_false_iff_not
def AJ:type_of% @not_false_eq_true:=@not_false_eq_true
def AK:type_of% @beq_iff_eq:=@beq_iff_eq
def AL:type_of% @beq_eq_false_iff_ne:=@beq_eq_false_iff_ne
def AM:type_of% @bne_self_eq_false:=@bne_self_eq_false
def C':type_of% @List.getElem?_eq_getElem:=@List.getElem?_eq_getElem
def DK:type_of% @List.take_of_length_le:=@List.take_of_length_le
def DX:type_of% @List.getElem?_eq_some_iff:=@List.getElem?_eq_some_iff
def DC:type_of% @List.length_append:=@List.length_append
def DH:type_of% @List.length_cons:=@List.length_cons
def D4:type_of% @List.mem_of_getElem?:=@List.mem_of_getElem?
def DQ:type_of% @List.mem_cons_self:=@List.mem_cons_self
def CS:type_of% @Nat.le_refl:=@Nat.le_refl
def EW:type_of% @List.mem_cons_of_mem:=@List.mem_cons_of_mem
def GU:type_of% @List.getD_eq_getElem?_getD:=@List.getD_eq_getElem?_getD
def DN:type_of% @List.mem_cons:=@List.mem_cons
def HF:type_of% @Option.map_eq_some_iff:=@Option.map_eq_some_iff
def Eam:type_of% @List.getElem?_map:=@List.getElem?_map
def KH:type_of% @List.eq_nil_of_length_eq_zero:=@List.eq_nil_of_length_eq_zero
def GF:type_of% @List.length_take:=@List.length_take
def EK:type_of% @Nat.zero_le:=@Nat.zero_le
def FB:type_of% @List.mem_map:=@List.mem_map
def JD:type_of% @List.drop_eq_nil_of_le:=@List.drop_eq_nil_of_le
def Fc:type_of% @List.map_cons:=@List.map_cons
def Mr:type_of% @List.getElem?_append_right:=@List.getElem?_append_right
def IQ:type_of% @List.getElem?_take:=@List.getElem?_take
def HM:type_of% @List.length_map:=@List.length_map
def Mx:type_of% @List.drop_eq_getElem_cons:=@List.drop_eq_getElem_cons
def OQ:type_of% @Array.getD_eq_getD_getElem?:=@Array.getD_eq_getD_getElem?
def NZ:type_of% @List.getElem?_append_left:=@List.getElem?_append_left
def H':type_of% @List.mem_append:=@List.mem_append
def ID:type_of% @List.append_nil:=@List.append_nil
def JK:type_of% @Decidable.not_not:=@Decidable.not_not
def KI:type_of% @List.mem_singleton:=@List.mem_singleton
def KJ:type_of% @List.append_assoc:=@List.append_assoc
def M':type_of% @Nat.mul_le_mul_right:=@Nat.mul_le_mul_right
def KO:type_of% @List.length_drop:=@List.length_drop
def Rw:type_of% @Array.getElem?_eq_some_iff:=@Array.getElem?_eq_some_iff
def KA:type_of% @Bool.eq_iff_iff:=@Bool.eq_iff_iff
def KM:type_of% @List.length_nil:=@List.length_nil
def OR:type_of% @List.mem_of_mem_drop:=@List.mem_of_mem_drop
def JO:type_of% @List.drop_drop:=@List.drop_drop
def NA:type_of% @List.take_add_one:=@List.take_add_one
def L':type_of% @Option.some.inj:=@Option.some.inj
def OS:type_of% @Bool.and_eq_true:=@Bool.and_eq_true
def NB:type_of% @Nat.lt_of_lt_of_le:=@Nat.lt_of_lt_of_le
def PN:type_of% @List.getElem_of_mem:=@List.getElem_of_mem
def Ry:type_of% @List.map_append:=@List.map_append
def NC:type_of% @List.pairwise_cons:=@List.pairwise_cons
def PO:type_of% @List.take_append_drop:=@List.take_append_drop
def Ebj:type_of% @List.not_mem_nil:=@List.not_mem_nil
def PQ:type_of% @List.cons_append:=@List.cons_append
def ME:type_of% @Nat.add_mul:=@Nat.add_mul
def JL:type_of% @Bool.not_true:=@Bool.not_true
def OB:type_of% @List.drop_zero:=@List.drop_zero
def UL:type_of% @List.mem_of_mem_take:=@List.mem_of_mem_take
def MF:type_of% @Nat.zero_add:=@Nat.zero_add
def UM:type_of% @List.map_congr_left:=@List.map_congr_left
def WD:type_of% @List.length_singleton:=@List.length_singleton
def SO:type_of% @List.getElem?_set:=@List.getElem?_set
def VM:type_of% @Bool.false_eq_true:=@Bool.false_eq_true
def WE:type_of% @List.getElem?_of_mem:=@List.getElem?_of_mem
def QN:type_of% @List.take_zero:=@List.take_zero
def SP:type_of% @Array.toList_inj:=@Array.toList_inj
def SQ:type_of% @List.all_eq_true:=@List.all_eq_true
def aJ:type_of% @Decidable.byContradiction:=@Decidable.byContradiction
def XQ:type_of% @List.take_succ_cons:=@List.take_succ_cons
def OT:type_of% @List.map_map:=@List.map_map
def cZ:type_of% @Array.getElem?_toList:=@Array.getElem?_toList
def YK:type_of% @List.take_append_of_le_length:=@List.take_append_of_le_length
def UN:type_of% @List.getElem_mem:=@List.getElem_mem
def QO:type_of% @Nat.add_assoc:=@Nat.add_assoc
def Qm:type_of% @Nat.mul_assoc:=@Nat.mul_assoc
def UO:type_of% @List.nodup_cons:=@List.nodup_cons
def cc:type_of% @List.mem_or_eq_of_mem_set:=@List.mem_or_eq_of_mem_set
def aK:type_of% @List.length_replicate:=@List.length_replicate
def ZT:type_of% @Nat.mul_le_mul_left:=@Nat.mul_le_mul_left
def aL:type_of% @List.mem_append_left:=@List.mem_append_left
def WG:type_of% @Bool.or_eq_true:=@Bool.or_eq_true
def aM:type_of% @List.length_reverse:=@List.length_reverse
def gO:type_of% @Array.getElem?_setIfInBounds:=@Array.getElem?_setIfInBounds
def UA:type_of% @Nat.mul_comm:=@Nat.mul_comm
def SR:type_of% @List.map_nil:=@List.map_nil
def cf:type_of% @List.mem_append_right:=@List.mem_append_right
def cg:type_of% @List.drop_succ_cons:=@List.drop_succ_cons
def aN:type_of% @List.ext_getElem?:=@List.ext_getElem?
def cj:type_of% @Nat.pow_le_pow_right:=@Nat.pow_le_pow_right
def nG:type_of% @List.dropLast_concat_getLast:=@List.dropLast_concat_getLast
def gP:type_of% @Array.setIfInBounds_comm:=@Array.setIfInBounds_comm
def YL:type_of% @List.drop_left:=@List.drop_left
def gQ:type_of% @Nat.le_mul_of_pos_right:=@Nat.le_mul_of_pos_right
def bw:type_of% @List.nodup_append:=@List.nodup_append
def fE:type_of% @List.pairwise_append:=@List.pairwise_append
def cm:type_of% @List.getElem?_drop:=@List.getElem?_drop
def bz:type_of% @List.take_length:=@List.take_length
def fF:type_of% @Nat.pow_add:=@Nat.pow_add
def VN:type_of% @List.length_pos_iff:=@List.length_pos_iff
def gR:type_of% @List.getElem?_eq_none:=@List.getElem?_eq_none
def aO:type_of% @Bool.false_bne:=@Bool.false_bne
def nH:type_of% @List.map_drop:=@List.map_drop
def nI:type_of% @Nat.add_sub_cancel_left:=@Nat.add_sub_cancel_left
def ZU:type_of% @Int.eq_ofNat_of_zero_le:=@Int.eq_ofNat_of_zero_le
def b4:type_of% @Nat.min_eq_left:=@Nat.min_eq_left
def nJ:type_of% @List.getElem?_replicate:=@List.getElem?_replicate
def YM:type_of% @Nat.add_comm:=@Nat.add_comm
def oX:type_of% @Int.fdiv_eq_ediv_of_nonneg:=@Int.fdiv_eq_ediv_of_nonneg
def fG:type_of% @List.pairwise_map:=@List.pairwise_map
def XR:type_of% @Nat.mul_one:=@Nat.mul_one
def aP:type_of% @List.map_take:=@List.map_take
def aQ:type_of% @Bool.true_bne:=@Bool.true_bne
def cn:type_of% @List.range_succ:=@List.range_succ
def oY:type_of% @List.getElem?_take_of_lt:=@List.getElem?_take_of_lt
def oZ:type_of% @Option.isSome_iff_exists:=@Option.isSome_iff_exists
def YN:type_of% @Nat.pow_pos:=@Nat.pow_pos
def YO:type_of% @Nat.one_mul:=@Nat.one_mul
def nK:type_of% @List.length_eraseIdx:=@List.length_eraseIdx
def nL:type_of% @List.flatMap_cons:=@List.flatMap_cons
def gS:type_of% @List.cons.injEq:=@List.cons.injEq
def nM:type_of% @List.flatten_append:=@List.flatten_append
def nN:type_of% @Array.toList_append:=@Array.toList_append
def nO:type_of% @List.flatMap_append:=@List.flatMap_append
def oc:type_of% @Nat.div_div_eq_div_mul:=@Nat.div_div_eq_div_mul
def vj:type_of% @Int.tdiv_eq_ediv_of_nonneg:=@Int.tdiv_eq_ediv_of_nonneg
def vk:type_of% @Int.tmod_eq_emod_of_nonneg:=@Int.tmod_eq_emod_of_nonneg
def vm:type_of% @Array.getElem?_append_left:=@Array.getElem?_append_left
def gT:type_of% @Nat.div_eq_of_lt:=@Nat.div_eq_of_lt
def og:type_of% @Nat.zero_mul:=@Nat.zero_mul
def b6:type_of% @List.getElem?_reverse:=@List.getElem?_reverse
def cp:type_of% @Prod.mk.injEq:=@Prod.mk.injEq
def Edq:type_of% @List.getElem?_toArray:=@List.getElem?_toArray
def gU:type_of% @Prod.mk.inj:=@Prod.mk.inj
def aR:type_of% @Bool.not_false:=@Bool.not_false
def nP:type_of% @Nat.lt_trichotomy:=@Nat.lt_trichotomy
def oh:type_of% @Bool.not_eq_true':=@Bool.not_eq_true'
def nQ:type_of% @List.drop_length:=@List.drop_length
def oo:type_of% @List.mem_filterMap:=@List.mem_filterMap
def oq:type_of% @Array.empty_append:=@Array.empty_append
def fH:type_of% @List.map_set:=@List.map_set
def fI:type_of% @Nat.lt_or_ge:=@Nat.lt_or_ge
def nR:type_of% @List.length_set:=@List.length_set
def fJ:type_of% @Int.le_refl:=@Int.le_refl
def gV:type_of% @Nat.sub_self:=@Nat.sub_self
def omg(h:p:=by omega):p:=h
def kr(h:p:=by kernel_rfl):p:=h
def AO{a b:α}(h:a=b:=by kernel_rfl):some a=some b:=congrArg some h
def AN(h:p:=by assumption):p:=h
def de(h:p:=by decide):p:=h
def sm(h:p:=by simp):p:=h
inductive PV where
 |bool (b:Bool)
 |int (k:IntKind) (n:Int)
 |str (s:List UInt8)
 |agg (cs:List PV)
 |sl (es:List (List PV))
 |snil
 |nptr
 |nmap
 |nfn
 |nifc
 |ifc
 |ifi (t:TypeId) (k:IntKind) (n:Int)
 |mp (es:List (PV×PV))
 |clo (f:FuncId) (cs:List PV)
variable {ps:List PV}{es:List (List PV)}
def PV.scalar:PV->Bool|.agg _=>false|_=>true
inductive L where
 |p (x:PV)
 |ptr (d i j:Nat)
 |own (d By len:Nat)
 |eptr (cs:List PV)
 |fn (f:FuncId) (ds:List Nat)
 |cfn (f:FuncId) (ds:List Nat)
 |yld (l:Nat)
 |tup (xs:List PV)
 |mref (d:Nat)
 |junk
variable {x:L}{K:L->Prop}{ls:List (Nat×L)}
inductive UP where
 |mp (es:List (PV×PV))
 |sit (s:List UInt8) (pos:Nat)
 |mit (es:List (PV×PV)) (seen:List Nat)
 |mpe (es:List (PV×PV)) (j:Nat) (n:Int)
 |loop (l:Nat) (r:Loop)
def L.cellOK:L->Bool|.p x=>x.scalar|.tup _=>false|.junk=>false|_=>true
structure Loc where
 blk:Nat
 sz:Nat
 tot:Nat
inductive DG where
 |var (T:TypeId) (cs:List L)
 |row (T:TypeId) (sz:Nat) (es:List (List PV))
 |lrow (T:TypeId) (sz:Nat) (SS:Bool) (es:List (List L))
 |obj (o:UP)
variable (regs:List (Nat×DG))
structure St where
 tmps:List L
 regs:List (Nat×DG)
variable {s:St}
abbrev ET:=Nat->Option Loc
variable (β:ET)
inductive BW (w:World) (Im:Nat->Prop):Value->PV->Prop
 |bool (b:Bool):BW w Im (.bool b) (.bool b)
 |int (k:IntKind) (n:Int):BW w Im (.int k n) (.int k n)
 |str (s:List UInt8):BW w Im (.string ⟨⟨s⟩⟩) (.str s)
 |agg (cs:List Value) (ps:List PV) (hl:cs.length=ps.length) (hs:∀p∈ps,p.scalar=true)
   (h:∀(i:Nat) (v:Value) (p:PV),cs[i]?=some v->ps[i]?=some p->BW w Im v p):BW w Im (.agg ⟨cs⟩) (.agg ps)
 |snil:BW w Im (.slice none 0 0) .snil
 |nptr:BW w Im (.pointer none) .nptr
 |nmap:BW w Im (.map none) .nmap
 |nfn:BW w Im .nilFunc .nfn
 |nifc:BW w Im .nilIface .nifc
 |ifc (t:TypeId) (v:Value):BW w Im (.iface t v) .ifc
 |ifi (t:TypeId) (k:IntKind) (n:Int):BW w Im (.iface t (.int k n)) (.ifi t k n)
 |mp (r cl:Nat) (B':List MapEntry) (es:List (PV×PV)) (hr:Im r) (hw:w.heap[r]?=some (.map ⟨B'⟩ cl)) (hl:B'.length=es.length)
   (hn:(B'.map (·.born)).Nodup) (hb:∀e∈B',e.born<cl)
   (hk:∀(i:Nat) (e:MapEntry) (p:PV×PV),B'[i]?=some e->es[i]?=some p->BW w Im e.key p.1)
   (hv:∀(i:Nat) (e:MapEntry) (p:PV×PV),B'[i]?=some e->es[i]?=some p->BW w Im e.val p.2):BW w Im (.map (some r)) (.mp es)
 |clo (g:FuncId) (b o:Nat) (ps:List PV) (hb:Im b) (f:Nat->Value) (LI:∀p∈ps,p.scalar=true)
   (hc:∀j,j<ps.length->w.cell? ⟨b,o+j,none⟩=some (f j))
   (h:∀(j:Nat) (p:PV),ps[j]?=some p->BW w Im (f j) p):BW w Im (.func (.func g) #[] #[.pointer (some ⟨b,o,none⟩)]) (.clo g ps)
 |slNil {oa:Option Addr}:BW w Im (.slice oa 0 0) (.sl [])
 |sl (b By cap sz:Nat) (es:List (List PV)) (GP:es.length<=cap) (hb:Im b) (f:Nat->Nat->Value)
   (DI:∀e∈es,e.length=sz) (LI:∀e∈es,∀p∈e,p.scalar=true)
   (hc:∀i,i<es.length->∀j,j<sz->w.cell? ⟨b,By+i*sz+j,none⟩=some (f i j))
   (h:∀(i:Nat) (e:List PV) (j:Nat) (p:PV),es[i]?=some e->e[j]?=some p->BW w Im (f i j) p):BW w Im (.slice (some ⟨b,By,none⟩) es.length cap) (.sl es)
def PA(Im:Nat->Prop)(B':List MapEntry)(cl:Nat)(es:List (PV×PV)):Prop:=
 B'.length=es.length/\(B'.map (·.born)).Nodup/\(∀e∈B',e.born<cl) /\
  ∀(i:Nat) (e:MapEntry) (p:PV×PV),B'[i]?=some e->es[i]?=some p->BW w Im e.key p.1/\BW w Im e.val p.2
def Ho(B':List MapEntry)(i:Nat):Nat:=(B'.getD i ⟨undef,undef,0⟩).born
def YP(Im:Nat->Prop)(blk:Nat)(b:Option Obj):UP->Prop
 |.mp es=>∃B' cl,b=some (.map ⟨B'⟩ cl)/\PA w Im B' cl es
 |.sit s pos=>b=some (.stringIter ⟨⟨s⟩⟩ pos)
 |.mit es seen=>(es=[]/\b=some (.mapIter none 0 #[] 0)) \/
   ∃m B' cl,Im m/\w.heap[m]?=some (.map ⟨B'⟩ cl)/\PA w Im B' cl es/\b=some (.mapIter (some m) cl ⟨seen.map (Ho B')⟩ cl)/\∀j∈seen,j<es.length
 |.mpe es j n=>∃B' cl,b=some (.map ⟨B'⟩ cl)/\PA w Im B' cl es/\j<B'.length/\(Ho B' j:Int)=n
 |.loop l r=>blk=l/\b=some (.loop r)
def CE(w:World)(Im:Nat->Prop)(v:Value):L->Prop
 |.p x=>BW w Im v x
 |.ptr d i j=>∃loc,β d=some loc/\v=.pointer (some ⟨loc.blk,i*loc.sz+j,none⟩)
 |.own d By len=>(∃loc cap o,β d=some loc/\By+cap=loc.tot/\len<=cap/\(0<cap\/By=0->o=By*loc.sz)/\v=.slice (some ⟨loc.blk,o,none⟩) len cap) \/
   (β d=none/\By=0/\len=0/\v=.slice none 0 0)
 |.eptr cs=>∃b o,Im b/\v=.pointer (some ⟨b,o,none⟩)/\∃f:Nat->Value,(∀j,j<cs.length->w.cell? ⟨b,o+j,none⟩=some (f j)) /\
   ∀(j:Nat) (p:PV),cs[j]?=some p->BW w Im (f j) p/\p.scalar=true
 |.fn f ds=>∃vs:List Value,v=.func (.func f) #[] ⟨vs⟩/\vs.length=ds.length /\
   ∀(i:Nat) (x:Value) (d:Nat),vs[i]?=some x->ds[i]?=some d->∃loc,β d=some loc/\x=.pointer (some ⟨loc.blk,0,none⟩)
 |.cfn f ds=>∃vs:List Value,v=.func (.func f) #[] ⟨vs⟩/\vs.length=ds.length /\
   ∀(i:Nat) (x:Value) (d:Nat),vs[i]?=some x->ds[i]?=some d->∃loc,β d=some loc/\x=.pointer (some ⟨loc.blk,0,none⟩)
 |.yld l=>v=.func (.yield l) #[] #[]
 |.tup xs=>∃vs:List Value,v=.tuple ⟨vs⟩/\vs.length=xs.length/\∀(i:Nat) (x:Value) (p:PV),vs[i]?=some x->xs[i]?=some p->BW w Im x p
 |.mref d=>∃loc,β d=some loc/\v=.map (some loc.blk)
 |.junk=>True
def Ci(w:World)(Im:Nat->Prop)(d:Nat):DG->Prop
 |.var T cs=>∃loc cur,β d=some loc/\loc.sz=cs.length/\loc.tot=1/\w.heap[loc.blk]?=some (.cells ⟨cur⟩ T (0,0))/\cur.length=cs.length /\
   ∀(j:Nat) (v:Value) (l:L),cur[j]?=some v->cs[j]?=some l->CE β w Im v l/\(l.cellOK=true\/l=.junk)
 |.row T sz es=>(β d=none/\es=[])\/∃loc cur,β d=some loc/\loc.sz=sz/\w.heap[loc.blk]?=some (.cells ⟨cur⟩ T (0,0)) /\
   cur.length=loc.tot*sz/\es.length<=loc.tot/\loc.tot<=maxLen/\(∀e∈es,e.length=sz/\∀p∈e,p.scalar=true) /\
   ∀(i:Nat) (e:List PV) (j:Nat) (p:PV),es[i]?=some e->e[j]?=some p->∃v,cur[i*sz+j]?=some v/\BW w Im v p
 |.lrow T sz SS es=>(β d=none/\es=[])\/∃loc cur,β d=some loc/\loc.sz=sz/\w.heap[loc.blk]?=some (.cells ⟨cur⟩ T (0,0)) /\
   cur.length=loc.tot*sz/\es.length<=loc.tot/\(SS=true->es.length=loc.tot)/\loc.tot<=maxLen/\(∀e∈es,e.length=sz) /\
   ∀(i:Nat) (e:List L) (j:Nat) (l:L),es[i]?=some e->e[j]?=some l->∃v,cur[i*sz+j]?=some v/\CE β w Im v l/\(l.cellOK=true\/l=.junk)
 |.obj o=>∃loc,β d=some loc/\YP w Im loc.blk w.heap[loc.blk]? o
structure ED (w:World) (Im:Nat->Prop) (w':World) (CX:Nat->Prop):Prop where
 im:∀b,Im b->CX b
 block:∀b,Im b->w'.heap[b]?=w.heap[b]?
def ED.cell{w w':World}{Im CX:Nat->Prop}(h:ED w Im w' CX){a:Addr}(hb:Im a.block):w'.cell? a=w.cell? a:=
 World.cell?_of_block (w:=w) (h.block _ hb)
def BW.mono{w:World}{CX:Nat->Prop}(hk:ED w Im w' CX){x:PV}(h:BW w Im v x):BW w' CX v x:=by
 induction h with
 |bool b=>exact .bool b
 |int k n=>exact .int k n
 |str s=>exact .str s
 |agg cs ps hl hs _ ih=>exact .agg cs ps hl hs ih
 |snil=>exact .snil
 |nptr=>exact .nptr
 |nmap=>exact .nmap
 |nfn=>exact .nfn
 |nifc=>exact .nifc
 |ifc t v=>exact .ifc t v
 |ifi t k n=>exact .ifi t k n
 |mp r cl B' es hr hw hl hn hb _ _ ihk ihv=>exact .mp r cl B' es (hk.im r hr) ((hk.block r hr).trans hw) hl hn hb ihk ihv
 |clo g b o ps hb f LI hc _ ih=>exact .clo g b o ps (hk.im b hb) f LI (fun j hj=>(hk.cell (a:=⟨b,o+j,none⟩) hb).trans (hc j hj)) ih
 |slNil=>exact .slNil
 |sl b By cap sz es GP hb f DI LI hc _ ih =>
  exact .sl b By cap sz es GP (hk.im b hb) f DI LI (fun i hi j hj=>(hk.cell (a:=⟨b,By+i*sz+j,none⟩) hb).trans (hc i hi j hj)) ih
def PA.mono{w w':World}{Im CX:Nat->Prop}(hk:ED w Im w' CX){B':List MapEntry}{cl:Nat}{es:List (PV×PV)}(h:PA w Im B' cl es):PA w' CX B' cl es:=
 ⟨h.1,h.2.1,h.2.2.1,fun i e p he hp=>⟨(h.2.2.2 i e p he hp).1.mono hk,(h.2.2.2 i e p he hp).2.mono hk⟩⟩
def YP.mono{w w':World}{Im CX:Nat->Prop}(hk:ED w Im w' CX){blk:Nat}{b:Option Obj}{o:UP}(h:YP w Im blk b o):YP w' CX blk b o:=by
 cases o with
 |mp es=>obtain⟨B',cl,h1,h2⟩:=h;exact⟨B',cl,h1,h2.mono hk⟩
 |sit s pos=>exact h
 |mit es seen =>
  rcases h with h|⟨m,B',cl,h1,h2,h3,h4⟩
  ·exact .inl h
  ·exact .inr ⟨m,B',cl,hk.im m h1,(hk.block m h1).trans h2,h3.mono hk,h4⟩
 |mpe es j n=>obtain⟨B',cl,h1,h2,h3⟩:=h;exact⟨B',cl,h1,h2.mono hk,h3⟩
 |loop l r=>exact h
structure Cx where
 P:Program
 G:World->(Nat->Prop)->Prop
 mono:∀{w w':World} {Im CX:Nat->Prop},ED w Im w' CX->G w Im->G w' CX
 kind:Nat->Nat
 keep:Nat->Bool
def L.mentions:L->Bool|.ptr e _ _=>e==d|.own e _ _=>e==d|.fn _ ds=>ds.contains d|.cfn _ ds=>ds.contains d|.mref e=>e==d|_=>false
def CE.mono{β β':ET}{w w':World}{Im CX:Nat->Prop}(hk:ED w Im w' CX){v:Value}{l:L}(CM:∀d,l.mentions d=true->β' d=β d)(h:CE β w Im v l):CE β' w' CX v l:=by
 cases l with
 |p x=>exact BW.mono hk h
 |ptr d i j =>
  obtain⟨loc,h1,h2⟩:=h;exact⟨loc,by rw[CM d (by simp[L.mentions])];exact h1,h2⟩
 |own d By len =>
  have e:=CM d (by simp[L.mentions]);simp only[CE,e]at h⊢;exact h
 |eptr cs =>
  obtain⟨b,o,hb,hv,f,hc,hp⟩:=h;exact⟨b,o,hk.im b hb,hv,f,fun j hj=>(hk.cell (a:=⟨b,o+j,none⟩) hb).trans (hc j hj),fun j p hj=>⟨(hp j p hj).1.mono hk,(hp j p hj).2⟩⟩
 |fn f ds =>
  obtain⟨vs,hv,hl,hx⟩:=h;refine⟨vs,hv,hl,fun i x d hi hd=>?_⟩;obtain⟨loc,h1,h2⟩:=hx i x d hi hd;exact⟨loc,by rw[CM d (by simp[L.mentions];exact D4 hd)];exact h1,h2⟩
 |cfn f ds =>
  obtain⟨vs,hv,hl,hx⟩:=h;refine⟨vs,hv,hl,fun i x d hi hd=>?_⟩;obtain⟨loc,h1,h2⟩:=hx i x d hi hd;exact⟨loc,by rw[CM d (by simp[L.mentions];exact D4 hd)];exact h1,h2⟩
 |yld l=>exact h
 |tup xs =>
  obtain⟨vs,hv,hl,hx⟩:=h;exact⟨vs,hv,hl,fun i x p hi hp=>(hx i x p hi hp).mono hk⟩
 |mref d =>
  obtain⟨loc,h1,h2⟩:=h;exact⟨loc,by rw[CM d (by simp[L.mentions])];exact h1,h2⟩
 |junk=>trivial
def CE.mono'{β:ET}{w:World}{CX:Nat->Prop}(hk:ED w Im w' CX){l:L}(h:CE β w Im v l):CE β w' CX v l:=
 h.mono hk fun _ _=>rfl
def DG.mentions(d:Nat):DG->Bool
 |.var _ cs=>cs.any (L.mentions d)
 |.row ..=>false
 |.lrow _ _ _ es=>es.any fun e=>e.any (L.mentions d)
 |.obj _=>false
def Ci.mono{β β':ET}{w w':World}{Im CX:Nat->Prop}(hk:ED w Im w' CX){d:Nat}{r:DG}(hd:β' d=β d)(CM:∀e,r.mentions e=true->β' e=β e)(hb:∀loc,β d=some loc->w'.heap[loc.blk]?=w.heap[loc.blk]?)(h:Ci β w Im d r):Ci β' w' CX d r:=by
 cases r with
 |var T cs =>
  obtain⟨loc,cur,h1,h2,h3,h4,h5,h6⟩:=h;refine⟨loc,cur,by rw[hd];exact h1,h2,h3,by rw[hb loc h1];exact h4,h5,fun j v l hv hl=>⟨(h6 j v l hv hl).1.mono hk (fun e he=>CM e ?_),(h6 j v l hv hl).2⟩⟩;simp only[DG.mentions,List.any_eq_true];exact⟨l,D4 hl,he⟩
 |row T sz es =>
  rcases h with⟨h1,h2⟩|⟨loc,cur,h1,h2,h3,h4,h5,h6,h7,h8⟩
  ·exact .inl ⟨by rw[hd];exact h1,h2⟩
  ·refine .inr ⟨loc,cur,by rw[hd];exact h1,h2,by rw[hb loc h1];exact h3,h4,h5,h6,h7,fun i e j p hi hj=>?_⟩;obtain⟨v,hv,hp⟩:=h8 i e j p hi hj;exact⟨v,hv,hp.mono hk⟩
 |lrow T sz SS es =>
  rcases h with⟨h1,h2⟩|⟨loc,cur,h1,h2,h3,h4,h5,h6,h7,h8,h9⟩
  ·exact .inl ⟨by rw[hd];exact h1,h2⟩
  ·refine .inr ⟨loc,cur,by rw[hd];exact h1,h2,by rw[hb loc h1];exact h3,h4,h5,h6,h7,h8,fun i e j l hi hj=>?_⟩;obtain⟨v,hv,hl,hc⟩:=h9 i e j l hi hj;refine⟨v,hv,hl.mono hk (fun x hx=>CM x ?_),hc⟩;simp only[DG.mentions,List.any_eq_true];exact⟨e,D4 hi,l,D4 hj,hx⟩
 |obj o =>
  obtain⟨loc,h1,h2⟩:=h;exact⟨loc,by rw[hd];exact h1,by rw[hb loc h1];exact h2.mono hk⟩
structure Fit (β:ET) (w:World) (Im:Nat->Prop) (s:St) (tmps:Array Value):Prop where
 size:tmps.size=s.tmps.length
 tmps:∀i l,s.tmps[i]?=some l->CE β w Im (tmps.getD i undef) l
 regs:∀d r,(d,r)∈s.regs->Ci β w Im d r
 nodup:(s.regs.map (·.1)).Nodup
 live:∀d r loc,(d,r)∈s.regs->β d=some loc->loc.blk<w.heap.size/\¬Im loc.blk
 apart:∀d r d' r' loc CO,(d,r)∈s.regs->(d',r')∈s.regs->d≠d'->β d=some loc->β d'=some CO->loc.blk≠CO.blk
 im:∀b,Im b->b<w.heap.size
structure DY (w:World) (Im:Nat->Prop) (w':World) (CX:Nat->Prop):Prop where
 os:w'.os=w.os
 tape:w'.tape=w.tape
 output:w'.output=w.output
 size:w.heap.size<=w'.heap.size
 block:∀k,k<w.heap.size->w'.heap[k]?=w.heap[k]?
 im:∀b,Im b->CX b
 new:∀b,CX b->Im b\/w.heap.size<=b
 lt:∀b,CX b->b<w'.heap.size
def DY.refl{w:World}(h:∀b,Im b->b<w.heap.size):DY w Im w Im:=
 ⟨rfl,rfl,rfl,CS _,fun _ _=>rfl,fun _ h=>h,fun _ h=>.inl h,h⟩
def DY.keeps{w:World}{CX:Nat->Prop}(h:DY w Im w' CX)(hi:∀b,Im b->b<w.heap.size):ED w Im w' CX:=
 ⟨h.im,fun b hb=>h.block b (hi b hb)⟩
def Fit.grow{β:ET}{w:World}{CX:Nat->Prop}{tmps:Array Value}(h:Fit β w Im s tmps)(g:DY w Im w' CX):Fit β w' CX s tmps where
 size:=h.size
 tmps i l hl:=(h.tmps i l hl).mono' (g.keeps h.im)
 regs d r hr:=(h.regs d r hr).mono (g.keeps h.im) rfl (fun _ _=>rfl) fun loc hl=>g.block _ (h.live d r loc hr hl).1
 nodup:=h.nodup
 live d r loc hr hl:=⟨NB (h.live d r loc hr hl).1 g.size,fun hi=>(g.new _ hi).elim (h.live d r loc hr hl).2 fun h'=>by have:=(h.live d r loc hr hl).1;omega⟩
 apart:=h.apart
 im:=g.lt
def St.put(s:St)(dst:Option Tmp)(l:L):St:=match dst with|some d=>{ s with tmps:=s.tmps.set d l }|none=>s
def Fit.put{β:ET}{w:World}{Im:Nat->Prop}{s:St}{a:Act}(h:Fit β w Im s a.tmps)(dst:Option Tmp){v:Value}{l:L}(hl:CE β w Im v l) :
  Fit β w Im (s.put dst l) (a.put dst v).tmps:=by
 cases dst with
 |none=>exact h
 |some d =>
  refine{ h with size:=by simp[St.put,Act.put,h.size],tmps:=fun i l' hi=>?_ };simp only[St.put,Act.put]at hi⊢;rw[SO]at hi;by_cases hd:d=i
  ·subst hd;rw[AB rfl]at hi;split at hi
   ·cases hi;rename_i BZ;have:d<a.tmps.size:=by rw[h.size];exact BZ
    simp[OQ,this];exact hl
   ·cases hi
  ·rw[AA hd]at hi;have:=h.tmps i l' hi;simpa[OQ,gO,hd]using this
def B2(t:TypeId):Option Bool:=match P.underlying t with|some (.struct _)=>some true|some (.array _ _)=>some true|some _=>some false|none=>none
def IW(t:TypeId):Option (TypeId×Nat):=match P.underlying t with|some (.slice e)=>if P.cellsOf e=0 then none else some (e,P.cellsOf e)|_=>none
def cq(t:TypeId):Option (Nat×TypeId×Nat):=match P.underlying t with|some (.array n e)=>if P.cellsOf e=0 then none else some (n,e,P.cellsOf e)|_=>none
def PR(t:TypeId)(i:Nat):Option (Nat×TypeId):=match P.underlying t with|some (.struct fs)=>(fs[i]?).bind fun f=>if P.cellsOf f.type=0 then none else some (f.offset,f.type)|_=>none
def Gr:Value->Option PV|.bool b=>some (.bool b)|.int k n=>some (.int k n)|.string s=>some (.str s.data.toList)|.slice none 0 0=>some .snil|.pointer none=>some .nptr|.map none=>some .nmap|.nilFunc=>some .nfn|.nilIface=>some .nifc|_=>none
def Bg{α β:Type}(f:α->Option β):List α->Option (List β)
 |[]=>some []
 |a::l=>match f a with
  |some b=>match Bg f l with
   |some bs=>some (b::bs)
   |none=>none
  |none=>none
def Bu(t:TypeId):Option (List PV):=
 match P.info? t with
 |some i=>match i.zero with
  |some v=>Bg Gr v.cells.toList
  |none=>none
 |none=>none
def G6:Value->L
 |.tuple vs=>if vs.size=0 then .tup []else .junk
 |.agg cs=>match Bg Gr cs.toList with
  |some ps=>.p (.agg ps)
  |none=>.junk
 |v=>match Gr v with
  |some x=>.p x
  |none=>.junk
def St.get(s:St):Operand->L|.tmp t=>s.tmps.getD t .junk|.const v=>G6 v|.global _=>.junk|.func f=>.fn f []
def Am(d:Nat):List (Nat×DG)->Option DG|[]=>none|(e,r)::BR=>if e=d then some r else Am d BR
def Ax{d:Nat}{r:DG}:∀{l:List (Nat×DG)},Am d l=some r->(d,r)∈l
 |(e,r')::BR,h=>by
  simp only[Am]at h;split at h
  ·rename_i he;cases h;subst he;exact DQ
  ·exact EW _ (Ax h)
def FP(op:BinOp)(k:IntKind)(a:Int)(k':IntKind)(b:Int)(K:L->Prop):Prop:=match op with|.shl=>0<=b/\K (.p (.int k (k.wrap (a*2^min b.toNat k.bits))))|.shr=>0<=b/\K (.p (.int k (a.fdiv (2^min b.toNat k.bits))))|.add=>k=k'/\K (.p (.int k (k.wrap (a+b))))|.sub=>k=k'/\K (.p (.int k (k.wrap (a-b))))|.mul=>k=k'/\K (.p (.int k (k.wrap (a*b))))|.quo=>k=k'/\b≠0/\K (.p (.int k (k.wrap (a.tdiv b))))|.rem=>k=k'/\b≠0/\K (.p (.int k (a.tmod b)))|.and=>k=k'/\K (.p (.int k (k.wrap (BitVec.ofInt k.bits a &&& BitVec.ofInt k.bits b).toNat)))|.or=>k=k'/\K (.p (.int k (k.wrap (BitVec.ofInt k.bits a||| BitVec.ofInt k.bits b).toNat)))|.xor=>k=k'/\K (.p (.int k (k.wrap (BitVec.ofInt k.bits a ^^^ BitVec.ofInt k.bits b).toNat)))|.andNot=>k=k'/\K (.p (.int k (k.wrap (BitVec.ofInt k.bits a &&& ~~~ BitVec.ofInt k.bits b).toNat)))|.eql=>k=k'/\K (.p (.bool (a==b)))|.neq=>k=k'/\K (.p (.bool (a != b)))|.lss=>k=k'/\K (.p (.bool (decide (a<b))))|.leq=>k=k'/\K (.p (.bool (decide (a<=b))))|.gtr=>k=k'/\K (.p (.bool (decide (b<a))))|.geq=>k=k'/\K (.p (.bool (decide (b<=a))))
def LK(op:BinOp)(a b:List UInt8)(K:L->Prop):Prop:=match op with|.add=>a.length+b.length<=9223372036854775807/\K (.p (.str (a++b)))|.eql=>K (.p (.bool (a==b)))|.neq=>K (.p (.bool (!(a==b))))|.lss=>K (.p (.bool (Op.bytesLess a b)))|.leq=>K (.p (.bool (Op.bytesLess a b|| a==b)))|.gtr=>K (.p (.bool (!(Op.bytesLess a b|| a==b))))|.geq=>K (.p (.bool (!(Op.bytesLess a b))))|_=>False
inductive YQ where
 |bool
 |int
 |str
def Bt:List YQ->List PV->List PV->Option Bool
 |[],[],[]=>some true
 |.bool::ts,.bool a::l,.bool b::r=>match Bt ts l r with
  |some x=>some ((a==b)&&x)
  |none=>none
 |.int::ts,.int k a::l,.int k' b::r=>if k=k' then match Bt ts l r with
  |some x=>some ((a==b)&&x)
  |none=>none else none
 |.str::ts,.str a::l,.str b::r=>match Bt ts l r with
  |some x=>some ((a==b)&&x)
  |none=>none
 |_,_,_=>none
mutual
def L1(P:Program):Nat->TypeId->Option (List YQ)
 |0,_=>none
 |m+1,t=>match P.underlying t with
  |some .bool=>some [.bool]
  |some (.int _)=>some [.int]
  |some .string=>some [.str]
  |some (.struct fs)=>if P.stoodInHeld t=true then none else Lw P m 0 fs.toList
  |_=>none
def Lw(P:Program):Nat->Nat->List Field->Option (List YQ)
 |_,_,[]=>some []
 |0,_,_::_=>none
 |m+1,n,f::fs=>match L1 P m f.type with
  |some a=>if f.offset=n/\f.name ≠ "_" /\ P.cellsOf f.type=a.length/\a.length≠0 then match Lw P m (n+a.length) fs with
   |some b=>some (a++b)
   |none=>none else none
  |none=>none
end
def Nt(t:TypeId):Option (List YQ) := if B2 P t=some true/\P.eqGuardType P.depth t=false then L1 P 100 t else none
def Fy(t:TypeId)(PS:Bool)(x y:L):Option Bool:=match P.underlying t,x,y with|some (.pointer _),.p .nptr,.p .nptr=>some true|some (.pointer _),.ptr _ _ _,.p .nptr=>some false|some (.pointer _),.eptr _,.p .nptr=>some false|some (.pointer e),.ptr d i j,.ptr d' i' j'=>if d=d'/\i=i'/\j=j'/\P.cellsOf e≠0 then some true else none|some (.interface _),.p .nifc,.p .nifc=>if PS=true then some true else none|some (.interface _),.p .ifc,.p .nifc=>some false|some (.interface _),.p .nifc,.p .ifc=>some false|some (.interface _),.p (.ifi _ _ _),.p .nifc=>some false|some (.interface _),.p .nifc,.p (.ifi _ _ _)=>some false|some (.slice _),.p .snil,.p .snil=>some true|some (.slice _),.p (.sl (_::_)),.p .snil=>some false|some (.slice _),.own _ _ (_+1),.p .snil=>some false|some (.map _ _),.p .nmap,.p .nmap=>some true|some (.map _ _),.mref _,.p .nmap=>some false|some (.map _ _),.p (.mp _),.p .nmap=>some false|some (.func _ _ _),.p .nfn,.p .nfn=>some true|some (.func _ _ _),.fn _ _,.p .nfn=>some false|some (.func _ _ _),.cfn _ _,.p .nfn=>some false|_,_,_=>none
def Db(o:Option Bool)(op:BinOp)(K:L->Prop):Prop:=match o,op with|some r,.eql=>K (.p (.bool r))|some r,.neq=>K (.p (.bool (!r)))|_,_=>False
def D8:Operand->Bool|.const _=>true|_=>false
def HX(op:BinOp)(t:TypeId)(PS:Bool)(x y:L)(K:L->Prop):Prop:=
 match x,y with
 |.p (.int k a),.p (.int k' b)=>FP op k a k' b K
 |.p (.str a),.p (.str b)=>LK op a b K
 |.p (.bool a),.p (.bool b)=>P.underlying t=some .bool/\match op with
  |.eql=>K (.p (.bool (a==b)))
  |.neq=>K (.p (.bool (!(a==b))))
  |_=>False
 |.p (.agg a),.p (.agg b)=>∃ts,Nt P t=some ts/\∃r,Bt ts a b=some r/\match op with
  |.eql=>K (.p (.bool r))
  |.neq=>K (.p (.bool (!r)))
  |_=>False
 |x,y=>Db (Fy P t PS x y) op K
def cr(op:UnOp)(x:L)(K:L->Prop):Prop:=match op,x with|.neg,.p (.int k n)=>K (.p (.int k (k.wrap (0-n))))|.not,.p (.bool b)=>K (.p (.bool (!b)))|_,_=>False
def Cw:List (List PV)->Option (List UInt8)
 |[]=>some []
 |[.int .u8 n]::l=>if 0<=n/\n<256 then match Cw l with
  |some bs=>some (UInt8.ofNat n.toNat::bs)
  |none=>none else none
 |_=>none
def J1(src dst:TypeId)(x:L)(K:L->Prop):Prop:=match P.underlying dst,x with|some (.int k),.p (.int _ n)=>(P.underlying src).isSome=true/\K (.p (.int k (k.wrap n)))|some .string,.p (.str s)=>(P.underlying src).isSome=true/\(∀e,P.underlying src≠some (.slice e))/\K (.p (.str s))|some .string,.p (.int _ n)=>(P.underlying src).isSome=true/\(∀e,P.underlying src≠some (.slice e))/\K (.p (.str (Utf8.encode n).data.toList))|some .string,.p (.sl es)=>(∃e,P.underlying src=some (.slice e)/\P.underlying e=some (.int .u8))/\∃bs,Cw es=some bs/\K (.p (.str bs))|_,_=>False
def UQ(t:TypeId)(x:L)(K:L->Prop):Prop:=match P.underlying t,x with|some .string,.p (.str s)=>K (.p (.int .i64 s.length))|some (.slice _),.p (.sl es)=>K (.p (.int .i64 es.length))|some (.slice _),.p .snil=>K (.p (.int .i64 0))|some (.slice _),.own _ _ len=>K (.p (.int .i64 len))|some (.map _ _),.p .nmap=>K (.p (.int .i64 0))|some (.map _ _),.p (.mp es)=>K (.p (.int .i64 es.length))|_,_=>False
def Dg(regs:List (Nat×DG))(t:TypeId)(x ix:L)(K:L->Prop):Prop:=
 match x,ix with
 |.p (.sl es),.p (.int _ i)=>match IW P t with
  |some (_,sz)=>0<=i/\∃e,es[i.toNat]?=some e/\e.length=sz/\K (.eptr e)
  |none=>False
 |.own d By len,.p (.int _ i)=>match Am d regs,IW P t with
  |some (.row _ sz _),some (_,EE)=>sz=EE/\0<=i/\i<len/\K (.ptr d (By+i.toNat) 0)
  |some (.lrow _ sz _ _),some (_,EE)=>sz=EE/\0<=i/\i<len/\K (.ptr d (By+i.toNat) 0)
  |_,_=>False
 |.ptr d a b,.p (.int _ i)=>match cq P t with
  |some (n,_,sz)=>0<=i/\i<n/\K (.ptr d a (b+i.toNat*sz))
  |none=>False
 |.eptr cs,.p (.int _ i)=>match cq P t with
  |some (n,_,sz)=>0<=i/\i<n/\i.toNat*sz<=cs.length/\K (.eptr (cs.drop (i.toNat*sz)))
  |none=>False
 |_,_=>False
def Ix(t:TypeId)(x ix:L)(K:L->Prop):Prop:=match P.underlying t,x,ix with|some .string,.p (.str s),.p (.int _ i)=>0<=i/\∃b,s[i.toNat]?=some b/\K (.p (.int .u8 b.toNat))|some (.array n e),.p (.agg cs),.p (.int _ i)=>B2 P e=some false/\P.cellsOf e=1/\0<=i/\i<n/\∃c,cs[i.toNat]?=some c/\K (.p c)|_,_,_=>False
def D2(t:TypeId)(x:L)(f:Nat)(K:L->Prop):Prop:=match PR P t f,x with|some (By,_),.eptr cs=>By<=cs.length/\K (.eptr (cs.drop By))|some (By,_),.ptr d i j=>K (.ptr d i (j+By))|_,_=>False
def Q5(t:TypeId)(x:L)(f:Nat)(K:L->Prop):Prop:=
 match PR P t f,x with
 |some (By,ft),.p (.agg cs)=>match B2 P ft with
  |some true=>By+P.cellsOf ft<=cs.length/\K (.p (.agg ((cs.drop By).take (P.cellsOf ft))))
  |some false=>P.cellsOf ft=1/\∃c,cs[By]?=some c/\K (.p c)
  |none=>False
 |_,_=>False
def L.pure? : L->Option PV|.p x=>some x|_=>none
def Jc(regs:List (Nat×DG))(t:TypeId)(x:L)(K:L->Prop):Prop:=
 match B2 P t,x with
 |some false,.eptr cs=>∃c,cs[0]?=some c/\K (.p c)
 |some true,.eptr cs=>0<P.cellsOf t/\P.cellsOf t<=cs.length/\K (.p (.agg (cs.take (P.cellsOf t))))
 |some false,.ptr d i j=>match Am d regs with
  |some (.var _ cs)=>i=0/\∃c,cs[j]?=some c/\K c
  |some (.row _ _ es)=>∃e,es[i]?=some e/\∃c,e[j]?=some c/\K (.p c)
  |some (.lrow _ _ _ es)=>∃e,es[i]?=some e/\∃c,e[j]?=some c/\K c
  |some (.obj _)=>False
  |none=>False
 |some true,.ptr d i j=>match Am d regs with
  |some (.var _ cs)=>i=0/\0<P.cellsOf t/\j+P.cellsOf t<=cs.length/\∃ps,Bg L.pure? ((cs.drop j).take (P.cellsOf t))=some ps/\K (.p (.agg ps))
  |some (.row _ _ es)=>∃e,es[i]?=some e/\0<P.cellsOf t/\j+P.cellsOf t<=e.length/\K (.p (.agg ((e.drop j).take (P.cellsOf t))))
  |some (.lrow _ _ _ es)=>∃e,es[i]?=some e/\0<P.cellsOf t/\j+P.cellsOf t<=e.length/\∃ps,Bg L.pure? ((e.drop j).take (P.cellsOf t))=some ps/\K (.p (.agg ps))
  |some (.obj _)=>False
  |none=>False
 |_,_=>False
def Dr(ρ:Operand->L)(d:Int):Option Operand->Option Int
 |none=>some d
 |some o=>match ρ o with
  |.p (.int _ n)=>some n
  |_=>none
def Gx(d:Nat):Nat:=match Am d regs with|some (.row _ _ es)=>es.length|some (.lrow _ _ _ es)=>es.length|_=>0
def Pa(d:Nat):Option Nat:=match Am d regs with|some (.row _ sz _)=>some sz|some (.lrow _ sz _ _)=>some sz|_=>none
def G2(regs:List (Nat×DG))(t:TypeId)(ρ:Operand->L)(x:Operand)(lo hi mx:Option Operand)(K:L->Prop):Prop := mx=none/\match P.underlying t,ρ x with|some .string,.p (.str s)=>∃l h,Dr ρ 0 lo=some l/\Dr ρ s.length hi=some h/\0<=l/\l<=h/\h<=s.length/\K (.p (.str ((s.drop l.toNat).take (h.toNat-l.toNat))))|some (.slice e),.p (.sl es)=>0<P.cellsOf e/\(∀x∈es,x.length=P.cellsOf e)/\∃l h,Dr ρ 0 lo=some l/\Dr ρ es.length hi=some h/\0<=l/\l<=h/\h<=es.length/\K (.p (.sl ((es.drop l.toNat).take (h.toNat-l.toNat))))|some (.slice e),.p .snil=>0<P.cellsOf e/\∃l h,Dr ρ 0 lo=some l/\Dr ρ 0 hi=some h/\l=0/\h=0/\K (.p .snil)|some (.slice e),.own d By len=>0<P.cellsOf e/\Pa regs d=some (P.cellsOf e)/\∃l h,Dr ρ 0 lo=some l/\Dr ρ len hi=some h/\0<=l/\l<=h/\h<=(max len (Gx regs d-By):Nat)/\K (.own d (By+l.toNat) (h.toNat-l.toNat))|_,_=>False
def Fj(ot:Bool)(xs:List L)(K:L->Prop):Prop:=match xs with|[.p (.int k a),.p (.int _ b)]=>if ot then K (.p (.int k (max a b)))else K (.p (.int k (min a b)))|_=>False
def Ef(P:Program)(t:TypeId):List PV->List (Nat×L)->Option (List PV)
 |cs,[]=>some cs
 |cs,(i,x)::BR=>match PR P t i,x with
  |some (By,ft),.p (.agg xs)=>if xs.length=P.cellsOf ft/\By+xs.length<=cs.length then Ef P t (cs.take By++xs++cs.drop (By+xs.length)) BR else none
  |some (By,ft),.p v=>if 1=P.cellsOf ft/\By+1<=cs.length then Ef P t (cs.set By v) BR else none
  |_,_=>none
def Ez(t:TypeId):Bool:=match P.underlying t with|some (.struct fs)=>fs.toList.all fun f=>P.cellsOf f.type != 0|_=>false
def aS:Nat->List (Nat×L)->Option (List PV)
 |_,[]=>some []
 |k,(i,.p v)::BR=>if i=k/\v.scalar=true then(match aS (k+1) BR with
  |some r=>some (v::r)
  |none=>none)else none
 |_,_::_=>none
def zJ(t:TypeId)(parts:List (Nat×L))(K:L->Prop):Prop := ∃z,Bu P t=some z/\Ez P t=true/\∃cs,Ef P t z parts=some cs/\K (.p (.agg cs))
def ſ(t n e:Nat)(parts:List (Nat×L))(K:L->Prop):Prop := P.cellsOf e=1/\n=parts.length/\(∃z,Bu P t=some z/\z.length=n)/\∃cs,aS 0 parts=some cs/\K (.p (.agg cs))
def Vf(t:TypeId)(parts:List (Nat×L))(K:L->Prop):Prop:=match P.underlying t with|some (.array n e)=>ſ P t n e parts K|_=>zJ P t parts K
def J50{P:Program}{parts:List (Nat×L)}(h:Vf P t parts K):(∃n e,P.underlying t=some (.array n e)/\ſ P t n e parts K)\/zJ P t parts K:=by
 unfold Vf at h;split at h
 ·rename_i n e he;exact .inl ⟨n,e,he,h⟩
 ·exact .inr h
def J99{P:Program}{parts:List (Nat×L)}{K':L->Prop}(hK:∀c,K (.p (.agg c))->K' (.p (.agg c)))(h:Vf P t parts K):Vf P t parts K':=by
 unfold Vf at h⊢;split
 ·rename_i n e he;rw[he]at h;obtain⟨h1,h2,h3,cs,h4,h5⟩:=h;exact⟨h1,h2,h3,cs,h4,hK _ h5⟩
 ·rename_i DA;split at h
  ·rename_i n e he;exact(DA n e he).elim
  ·obtain⟨z,h1,h2,cs,h3,h4⟩:=h;exact⟨z,h1,h2,cs,h3,hK _ h4⟩
def J5h{P:Program}{parts:List (Nat×L)}(h:Vf P t parts K):∃l,Vf P t parts (fun m=>m=l)/\K l:=by
 unfold Vf at h;unfold Vf;split at h
 ·obtain⟨h1,h2,h3,cs,h4,h5⟩:=h;exact⟨_,⟨h1,h2,h3,cs,h4,rfl⟩,h5⟩
 ·obtain⟨z,h1,h2,cs,h3,h4⟩:=h;exact⟨_,⟨z,h1,h2,cs,h3,rfl⟩,h4⟩
def Hq:List L->Option (List Nat)
 |[]=>some []
 |.ptr d 0 0::l=>match Hq l with
  |some ds=>some (d::ds)
  |none=>none
 |_=>none
def ou:List L->Option (List PV)|[.eptr ps]=>some ps|_=>none
def aT(f:FuncId)(cs:List L)(K:L->Prop):Prop:=match ou cs with
 |some ps=>K (.p (.clo f ps))
 |none=>∃ds,Hq cs=some ds/\K (.fn f ds)
def J8j{cs:List L}(h:ou cs=some ps):cs=[.eptr ps]:=by
 unfold ou at h;split at h
 ·cases h;rfl
 ·cases h
def J9s{cs:List L}{K':L->Prop}(hK:∀l,K l->K' l)(h:aT f cs K):aT f cs K':=by
 unfold aT at h⊢;cases he:ou cs with
 |some ps=>rw[he]at h;exact hK _ h
 |none=>rw[he]at h;obtain⟨ds,hd,h⟩:=h;exact⟨ds,hd,hK _ h⟩
def J8v{cs:List L}(h:aT f cs K):∃l,aT f cs (fun m=>m=l)/\K l:=by
 unfold aT at h⊢;cases he:ou cs with
 |some ps=>rw[he]at h;exact⟨_,rfl,h⟩
 |none=>rw[he]at h;obtain⟨ds,hd,h⟩:=h;exact⟨_,⟨ds,hd,rfl⟩,h⟩
def Lc:PV->PV->Option Bool|.int k a,.int k' b=>if k=k' then some (a==b)else none|.str a,.str b=>some (a==b)|.bool a,.bool b=>some (a==b)|_,_=>none
def Cl(k:PV):List (PV×PV)->Nat->Option (Option (Nat×PV))
 |[],_=>some none
 |(x,v)::es,i=>match Lc k x with
  |some true=>some (some (i,v))
  |some false=>Cl k es (i+1)
  |none=>none
def MG(t:TypeId):Option (TypeId×TypeId):=
 match P.underlying t with
 |some (.map k e)=>match P.underlying k with
  |some (.int _)=>some (k,e)
  |some .string=>some (k,e)
  |some .bool=>some (k,e)
  |_=>none
 |_=>none
def OC(d:TypeDesc)(k:PV):Bool:=match d,k with|.int q,.int q' _=>q==q'|.string,.str _=>true|.bool,.bool _=>true|_,_=>false
def De(t:TypeId)(k:PV):Bool:=match P.underlying t with|some d=>OC d k|none=>false
def Jh9:Value->Bool|.agg _=>true|_=>false
def E5(t:TypeId):Option PV:=
 match(P.info? t).bind (·.zero),Bu P t with
 |some v,some zs=>if Jh9 v=true then some (.agg zs)else match zs with
  |[z]=>some z
  |_=>none
 |_,_=>none
def Tz(x:L):Option (List (PV×PV)):=
 match x with
 |.p .nmap=>some []
 |.p (.mp es)=>some es
 |.mref d=>match Am d regs with
  |some (.obj (.mp es))=>some es
  |_=>none
 |_=>none
def Yc(regs:List (Nat×DG))(t:TypeId)(x ix:L)(ok:Bool)(l:L):Prop:=
 match MG P t,Tz regs x,ix with
 |some (kt,et),some es,.p k=>De P kt k=true/\∃r,Cl k es 0=some r/\∃z,E5 P et=some z /\
   l
    = (match r,ok with
    |some (_,v),true=>.tup [v,.bool true]
    |none,true=>.tup [z,.bool false]
    |some (_,v),false=>.p v
    |none,false=>.p z)
 |_,_,_=>False
def M8(t:TypeId):L->PV|.p (.int k n)=>.ifi t k n|_=>.ifc
def XS(regs:List (Nat×DG))(ρ:Operand->L)(op:Op)(l:L):Prop:=
 match op with
 |.makeInterface t x=>(∃d,P.underlying t=some d/\∀ms,d≠.interface ms)/\l=.p (M8 t (ρ x))
 |.lookup t x ix ok=>Yc P regs t (ρ x) (ρ ix) ok l
 |.call { callee:=.builtin .cap,args,argTypes }=>match args.toList,argTypes.toList with
  |[x],[t]=>(∃e,P.underlying t=some (.slice e))/\match ρ x with
   |.p .snil=>l=.p (.int .i64 0)
   |.own d By _=>match Am d regs with
    |some (.lrow _ _ true es)=>l=.p (.int .i64 (es.length-By:Nat))
    |_=>False
   |_=>False
  |_,_=>False
 |.call { callee:=.builtin .unsafeSliceData,args,.. }=>match args.toList with
  |[x]=>match ρ x with
   |.p .snil=>l=.p .nptr
   |.own d By n=>0<n/\l=.ptr d By 0
   |_=>False
  |_=>False
 |.call { callee:=.builtin .unsafeString,args,argTypes }=>match args.toList,argTypes.toList with
  |[x,y],_::_=>ρ x=.p .nptr/\(∃k,ρ y=.p (.int k 0))/\l=.p (.str [])
  |_,_=>False
 |_=>False
def lq(regs:List (Nat×DG))(ρ:Operand->L)(op:Op)(K:L->Prop):Prop:=
 match op with
 |.move x=>K (ρ x)
 |.assign x=>K (ρ x)
 |.pick c a b=>match ρ c with
  |.p (.bool t)=>(t=true->K (ρ a))/\(t=false->K (ρ b))
  |_=>False
 |.binOp op t x y _=>HX P op t (D8 x||D8 y) (ρ x) (ρ y) K
 |.unOp op _ x=>cr op (ρ x) K
 |.convert src dst x=>J1 P src dst (ρ x) K
 |.nilCheck x=>match ρ x with
  |.ptr d i j=>K (.ptr d i j)
  |.eptr cs=>K (.eptr cs)
  |.fn f ds=>K (.fn f ds)
  |_=>False
 |.load t a=>Jc P regs t (ρ a) K
 |.fieldAddr t x f=>D2 P t (ρ x) f K
 |.field t x f=>Q5 P t (ρ x) f K
 |.indexAddr t x ix=>Dg P regs t (ρ x) (ρ ix) K
 |.index t x ix=>Ix P t (ρ x) (ρ ix) K
 |.slice t x lo hi mx=>G2 P regs t ρ x lo hi mx K
 |.extract x i=>match ρ x with
  |.tup xs=>∃c,xs[i]?=some c/\K (.p c)
  |_=>False
 |.build t parts=>Vf P t (parts.toList.map fun(i,x)=>(i,ρ x)) K
 |.makeFunc (.func f) first LL=>first = #[]/\aT f (LL.toList.map ρ) K
 |.call { callee:=.builtin .len,args,argTypes }=>match args.toList,argTypes.toList with
  |[x],[t]=>UQ P t (ρ x) K
  |_,_=>False
 |.call { callee:=.builtin .max,args,.. }=>Fj true (args.toList.map ρ) K
 |.call { callee:=.builtin .min,args,.. }=>Fj false (args.toList.map ρ) K
 |op=>∃l,XS P regs ρ op l/\K l
section
variable {P:Program} {β:ET} {w:World} {Im:Nat->Prop}
def E6{x:PV}(h:Gr v=some x):BW w Im v x/\x.scalar=true:=by
 unfold Gr at h;split at h<;>cases h
 ·exact⟨.bool _,rfl⟩
 ·exact⟨.int _ _,rfl⟩
 ·rename_i s;exact⟨.str s.data.toList,rfl⟩
 ·exact⟨.snil,rfl⟩
 ·exact⟨.nptr,rfl⟩
 ·exact⟨.nmap,rfl⟩
 ·exact⟨.nfn,rfl⟩
 ·exact⟨.nifc,rfl⟩
def Bh{α γ:Type}{f:α->Option γ}:∀{l:List α} {bs:List γ},Bg f l=some bs->l.length=bs.length/\∀(i:Nat) (a:α) (b:γ),l[i]?=some a->bs[i]?=some b->f a=some b
 |[],bs,h=>by simp only[Bg]at h;cases h;exact⟨rfl,fun i a b ha=>by simp at ha⟩
 |a::l,bs,h=>by
  simp only[Bg]at h;split at h
  ·rename_i b hb;split at h
   ·rename_i bs' cu;cases h;obtain⟨h1,h2⟩:=Bh cu;refine⟨by simp[h1],fun i x y hx hy=>?_⟩;cases i with
    |zero=>simp at hx hy;subst hx hy;exact hb
    |succ i=>simp at hx hy;exact h2 i x y hx hy
   ·cases h
  ·cases h
def BQ{γ:Type}{l:List α}{r:List γ}(h:l.length=r.length){b:γ}(hb:r[i]?=some b):∃a,l[i]?=some a:=by
 have:=(DX.1 hb).1;exact⟨l[i]'omg,C' _⟩
def Dl{l:List Value}(h:Bg Gr l=some ps):∀p∈ps,p.scalar=true:=by
 intro p hp;obtain⟨i,hi,rfl⟩:=PN hp;obtain⟨h1,h2⟩:=Bh h;obtain⟨a,ha⟩:=BQ h1 (C' hi);exact(E6 (w:=default) (Im:=fun _=>True) (h2 i a _ ha (C' hi))).2
def Jgw(v:Value):CE β w Im v (G6 v):=by
 cases v with
 |tuple vs =>
  obtain⟨l⟩:=vs;simp only[G6];split
  ·rename_i h;have:l=[]:=by simpa using h
   subst this;exact⟨[],rfl,rfl,fun i x p h=>by simp at h⟩
  ·trivial
 |agg cs =>
  obtain⟨l⟩:=cs;simp only[G6];split
  ·rename_i ps h;obtain⟨h1,h2⟩:=Bh h;exact .agg l ps h1 (Dl h) fun i v p hv hp=>(E6 (h2 i v p hv hp)).1
  ·trivial
 |_ =>
  simp only[G6];split
  ·rename_i h;exact(E6 h).1
  ·trivial
def A2(hf:Fit β w Im s a.tmps)(x:Operand):CE β w Im (a.eval x) (s.get x):=by
 cases x with
 |tmp t =>
  simp only[St.get,Act.eval,GU];cases h:s.tmps[t]? with
  |none=>trivial
  |some l=>exact hf.tmps t l h
 |const v=>exact Jgw v
 |global g=>trivial
 |func f=>exact⟨[],rfl,rfl,fun i x d h=>by simp at h⟩
def Bk{t:Nat}(h:P.cellsOf t=n)(hn:n≠0)(w:World):(sizeOf t).run P w=.ok n w:=by
 unfold Program.cellsOf at h;unfold sizeOf typeInfo;cases hi:P.info? t with
 |none=>rw[hi]at h;simp at h;omega
 |some i =>
  rw[hi]at h;simp at h;simp[hi,h]
def Iu(h:B2 P t=some b)(w:World):(isAgg t).run P w=.ok b w:=by
 unfold B2 at h;unfold isAgg;split at h
 ·rename_i ht;cases h;simp[run_underlying ht]
 ·rename_i ht;cases h;simp[run_underlying ht]
 ·rename_i d h1 h2 ht;cases h;simp only[Sem.run_bind,run_underlying ht,Result.andThen_ok];cases d<;>first|rfl|(exfalso;first|exact h1 _ ht|exact h2 _ _ ht)
 ·cases h
def Hk{e:TypeId}(h:P.underlying t=some (.slice e)):P.elem t=e:=by simp[Program.elem,h]
def Jve(h:BW w Im v (.sl es)):∃a cap,v=.slice a es.length cap/\es.length<=cap/\(a=none->es=[]/\cap=0):=by
 cases h with
 |slNil=>exact⟨_,0,rfl,CS _,fun _=>⟨rfl,rfl⟩⟩
 |sl b By cap sz es GP=>exact⟨_,cap,rfl,GP,fun h=>by cases h⟩
def C0(β:ET)(Im:Nat->Prop)(w:World)(r:Result Value)(K:L->Prop):Prop:=∃v l,r=.ok v w/\CE β w Im v l/\K l
def Dz{n:Int}(h:K (.p (.int k n)))(hr:r=.ok (.int k n) w):C0 β Im w r K:=⟨_,.p (.int k n),hr,BW.int k n,h⟩
def I5(h:K (.p (.bool b)))(hr:r=.ok (.bool b) w):C0 β Im w r K:=⟨_,.p (.bool b),hr,BW.bool b,h⟩
def X2{s:List UInt8}(h:K (.p (.str s)))(hr:r=.ok (.string ⟨⟨s⟩⟩) w):C0 β Im w r K:=⟨_,.p (.str s),hr,BW.str s,h⟩
def Wh(l:L)(h:K l)(hr:r=.ok v w)(hl:CE β w Im v l):C0 β Im w r K:=⟨v,l,hr,hl,h⟩
def aU(x:PV)(h:K (.p x))(hr:r=.ok v w)(hl:BW w Im v x):C0 β Im w r K:=⟨v,.p x,hr,hl,h⟩
def Jbu{k':IntKind}{a b:Int}(t:TypeId)(x y:Operand)(h:FP op k a k' b K) :
  C0 β Im w ((do eqGuard op t x y (.int k a) (.int k' b);binOp op t (.int k a) (.int k' b):Sem Value).run P w) K:=by
 cases op<;>simp only[FP]at h
 case shl=>exact Dz h.2 (by simp[eqGuard_at_int,binOp,Op.shift];omega)
 case shr=>exact Dz h.2 (by simp[eqGuard_at_int,binOp,Op.shift];omega)
 case quo=>obtain⟨rfl,h0,h⟩:=h;exact Dz h (by simp[eqGuard_at_int,binOp,Op.intDiv,h0])
 case rem=>obtain⟨rfl,h0,h⟩:=h;exact Dz h (by simp[eqGuard_at_int,binOp,Op.intDiv,h0])
 case add=>obtain⟨rfl,h⟩:=h;exact Dz h (by simp[eqGuard_at_int,binOp,Op.intArith])
 case sub=>obtain⟨rfl,h⟩:=h;exact Dz h (by simp[eqGuard_at_int,binOp,Op.intArith])
 case mul=>obtain⟨rfl,h⟩:=h;exact Dz h (by simp[eqGuard_at_int,binOp,Op.intArith])
 case and=>obtain⟨rfl,h⟩:=h;exact Dz h (by simp[eqGuard_at_int,binOp,Op.intBits])
 case or=>obtain⟨rfl,h⟩:=h;exact Dz h (by simp[eqGuard_at_int,binOp,Op.intBits])
 case xor=>obtain⟨rfl,h⟩:=h;exact Dz h (by simp[eqGuard_at_int,binOp,Op.intBits])
 case andNot=>obtain⟨rfl,h⟩:=h;exact Dz h (by simp[eqGuard_at_int,binOp,Op.intBits])
 all_goals(obtain⟨rfl,h⟩:=h;exact I5 h (by simp[eqGuard_at_int,binOp,Op.intCmp]))
def Qr(l:List UInt8):(ByteArray.mk ⟨l⟩).toList=l:=by rw[ByteArray.toList_eq]
def Jaz{a b:List UInt8}(t:TypeId)(x y:Operand)(h:LK op a b K) :
  C0 β Im w ((do eqGuard op t x y (.string ⟨⟨a⟩⟩) (.string ⟨⟨b⟩⟩);binOp op t (.string ⟨⟨a⟩⟩) (.string ⟨⟨b⟩⟩):Sem Value).run P w) K:=by
 cases op<;>simp only[LK]at h
 case add =>
  refine X2 h.2 ?_;simp only[eqGuard_at_string,binOp,Op.stringOp,pure_bind];rw[AA]
  ·simp only[Sem.run_pure];congr 2
  ·show ¬(((a.length+b.length:Nat):Int)>IntKind.i64.max);have:IntKind.i64.max=9223372036854775807:=de;omega
 all_goals first|exact h.elim|exact I5 h (by simp[eqGuard_at_string,binOp,Op.stringOp])
def Ep:∀{ts:List YQ} {a b:List PV} {r:Bool},Bt ts a b=some r->a.length=ts.length/\b.length=ts.length:=by
 intro ts
 induction ts with
 |nil=>intro a b r h;cases a<;>cases b<;>simp[Bt]at h⊢
 |cons t ts ih =>
  intro a b r h;unfold Bt at h;split at h<;>first|(cases h;done)|skip
  all_goals(rename_i Pe;cases Pe)
  all_goals first
   |(
    split at h<;>first|(cases h;done)|skip
    rename_i hx;have:=ih hx;simp;omega)
   |(
    split at h<;>first|(cases h;done)|skip
    split at h<;>first|(cases h;done)|skip
    rename_i hx;have:=ih hx;simp;omega)
def Fg:∀{ts us:List YQ} {a b:List PV} {r:Bool},Bt (ts++us) a b=some r ->
  ∃r1 r2,Bt ts (a.take ts.length) (b.take ts.length)=some r1/\Bt us (a.drop ts.length) (b.drop ts.length)=some r2/\r=(r1&&r2)
 |[],us,a,b,r,h=>⟨true,r,by simp[Bt],by simpa using h,by simp⟩
 |t::ts,us,a,b,r,h=>by
  simp only[PQ]at h;unfold Bt at h;split at h<;>first|(cases h;done)|skip
  all_goals(rename_i Pe;cases Pe)
  ·split at h<;>cases h;rename_i hx;obtain⟨r1,r2,h3,h4,h5⟩:=Fg hx;exact⟨_,r2,by simp[Bt,h3];rfl,by simpa using h4,by rw[h5,Bool.and_assoc]⟩
  ·split at h
   ·rename_i hk;split at h<;>cases h;rename_i hx;obtain⟨r1,r2,h3,h4,h5⟩:=Fg hx;exact⟨_,r2,by simp only[DH,XQ,Bt,h3,hk,if_true];rfl,by simpa using h4,by rw[h5,Bool.and_assoc]⟩
   ·cases h
  ·split at h<;>cases h;rename_i hx;obtain⟨r1,r2,h3,h4,h5⟩:=Fg hx;exact⟨_,r2,by simp[Bt,h3];rfl,by simpa using h4,by rw[h5,Bool.and_assoc]⟩
def Row(w:World)(Im:Nat->Prop)(cs:List Value)(ps:List PV):Prop := cs.length=ps.length/\∀(i:Nat) (v:Value) (p:PV),cs[i]?=some v->ps[i]?=some p->BW w Im v p
def Row.drop{cs:List Value}{ps:List PV}(h:Row w Im cs ps)(n:Nat):Row w Im (cs.drop n) (ps.drop n):=
 ⟨by simp[h.1],fun i v p hv hp=>h.2 (n+i) v p (by simpa using hv) (by simpa using hp)⟩
def Row.take{cs:List Value}{ps:List PV}(h:Row w Im cs ps)(n:Nat):Row w Im (cs.take n) (ps.take n):=
 ⟨by simp[h.1],fun i v p hv hp=>by
  rw[IQ]at hv hp;split at hv
  ·rename_i hl;rw[AB hl]at hp;exact h.2 i v p hv hp
  ·cases hv⟩
def Jg(agg:Bool)(cs:List Value):Value:=if agg then .agg ⟨cs⟩else cs.getD 0 undef
def Hs(hb:B2 P t=some b)(hn:P.cellsOf t=n)(h0:n≠0)(h1:b=false->n=1)(cs:List Value)(By:Nat)(hl:By+n<=cs.length)(w:World) :
  (part t ⟨cs⟩ By).run P w=.ok (Jg b ((cs.drop By).take n)) w:=by
 unfold part;cases b with
 |true =>
  simp only[Sem.run_bind,Iu hb,Result.andThen_ok,if_true,Bk hn h0,Sem.run_pure,Jg];congr 2;rw[<-SP];simp
 |false =>
  simp only[Sem.run_bind,Iu hb,Result.andThen_ok,VM,if_false,Jg];have h2:=h1 rfl;subst h2;have:By<cs.length:=omg;simp[this,GU]
def N5{d:TypeDesc}(h:P.underlying t=some d)(h1:∀fs,d≠.struct fs)(h2:∀n e,d≠.array n e):B2 P t=some false:=by
 unfold B2;rw[h];cases d<;>first|rfl|(exfalso;first|exact h1 _ rfl|exact h2 _ _ rfl)
def Row.nil_of{p:PV}(h:Row w Im cs (p::ps)):∃v vs,cs=v::vs/\BW w Im v p/\Row w Im vs ps:=by
 obtain⟨h1,h2⟩:=h;cases cs with
 |nil=>simp at h1
 |cons v vs=>exact⟨v,vs,rfl,h2 0 v p rfl rfl,by simpa using h1,fun i v p hv hp=>h2 (i+1) v p (by simpa using hv) (by simpa using hp)⟩
def L4(xs ys:Array Value):(Op.eqFields d xs ys []).run P w=.ok true w:=by simp[Op.eqFields]
def Jlq:∀(m:Nat),(∀(t:TypeId) (ts:List YQ) (b:Bool) (d:Nat) (xs ys:List Value) (p q:List PV) (r:Bool),L1 P m t=some ts->B2 P t=some b->(b=false->ts.length=1)->m<=d->Row w Im xs p->Row w Im ys q->Bt ts p q=some r ->
   (Op.equalIn (d+1) t (Jg b xs) (Jg b ys)).run P w=.ok r w) /\
  (∀(fs:List Field) (ts:List YQ) (n d:Nat) (xs ys:List Value) (p q:List PV) (r:Bool),Lw P m n fs=some ts->m<=d->Row w Im xs p->Row w Im ys q->p.length=n+ts.length->Bt ts (p.drop n) (q.drop n)=some r ->
   (Op.eqFields d ⟨xs⟩ ⟨ys⟩ fs).run P w=.ok r w):=by
 intro m
 induction m with
 |zero =>
  refine⟨fun t ts b d xs ys p q r h=>by simp[L1]at h,fun fs ts n d xs ys p q r h _ _ _ _ he=>?_⟩;cases fs with
  |nil =>
   simp[Lw]at h;subst h;cases hp:p.drop n<;>cases hq:q.drop n<;>rw[hp,hq]at he<;>simp[Bt]at he;subst he;exact L4 d _ _
  |cons f fs=>simp[Lw]at h
 |succ m ih =>
  refine⟨fun t ts b d xs ys p q r h hb PB hd hx hy he=>?_,fun fs ts n d xs ys p q r h hd hx hy CY he=>?_⟩
  ·simp only[L1]at h;split at h
   ·rename_i ht;cases h;have:B2 P t=some false:=N5 ht sm sm;rw[this]at hb;cases hb;obtain⟨GH,IX⟩:=Ep he
    match p,q,GH,IX,he with
    |[x],[y],_,_,he =>
     obtain⟨u,us,rfl,hu,_⟩:=hx.nil_of;obtain⟨v,vs,rfl,hv,_⟩:=hy.nil_of;unfold Bt at he;split at he<;>first|(cases he;done)|skip
     all_goals(rename_i aV aW aX;cases aV;try(cases aW;cases aX))
     cases hu;cases hv;simp[Bt]at he;subst he;exact run_equalIn_bool' _ _ _ _ _ ht
   ·rename_i k ht;cases h;have:B2 P t=some false:=N5 ht sm sm;rw[this]at hb;cases hb;obtain⟨GH,IX⟩:=Ep he
    match p,q,GH,IX,he with
    |[x],[y],_,_,he =>
     obtain⟨u,us,rfl,hu,_⟩:=hx.nil_of;obtain⟨v,vs,rfl,hv,_⟩:=hy.nil_of;unfold Bt at he;split at he<;>first|(cases he;done)|skip
     all_goals(rename_i aV aW aX;cases aV;try(cases aW;cases aX))
     cases hu;cases hv;split at he<;>first|(cases he;done)|skip
     rename_i hk;subst hk;simp[Bt]at he;subst he;exact run_equalIn_int _ _ _ _ _ _ _ ht
   ·rename_i ht;cases h;have:B2 P t=some false:=N5 ht sm sm;rw[this]at hb;cases hb;obtain⟨GH,IX⟩:=Ep he
    match p,q,GH,IX,he with
    |[x],[y],_,_,he =>
     obtain⟨u,us,rfl,hu,_⟩:=hx.nil_of;obtain⟨v,vs,rfl,hv,_⟩:=hy.nil_of;unfold Bt at he;split at he<;>first|(cases he;done)|skip
     all_goals(rename_i aV aW aX;cases aV;try(cases aW;cases aX))
     cases hu;cases hv;simp[Bt]at he;subst he;show(Op.equalIn (d+1) t (.string _) (.string _)).run P w=_;rw[run_equalIn_string _ _ _ _ _ ht,Qr,Qr]
   ·rename_i fs ht;split at h
    ·cases h
    ·rename_i hs;have:B2 P t=some true:=by simp[B2,ht]
     rw[this]at hb;cases hb;have XT:P.fieldsOf t=fs:=by simp[Program.fieldsOf,ht]
     simp only[Jg,if_true];rw[run_equalIn_struct w d t _ _ (by rw[XT];exact ht) (by simpa using hs),XT];obtain⟨GH,IX⟩:=Ep he;exact ih.2 fs.toList ts 0 d xs ys p q r h omg hx hy (by simpa using GH) (by simpa using he)
   ·cases h
  ·cases fs with
   |nil =>
    simp[Lw]at h;subst h;cases hp:p.drop n<;>cases hq:q.drop n<;>rw[hp,hq]at he<;>simp[Bt]at he;subst he;exact L4 d _ _
   |cons f fs =>
    simp only[Lw]at h;split at h
    ·rename_i a ha;split at h
     ·rename_i hc;obtain⟨Pp,WH,nS,nT⟩:=hc;split at h
      ·rename_i bts hbt;cases h;obtain⟨r1,r2,e1,e2,rfl⟩:=Fg he;obtain⟨d,rfl⟩:∃e,d=e+1:=⟨d-1,omg⟩
       simp only[DC]at CY;have hlq:q.length=p.length:=by
        obtain⟨h1,h2⟩:=Ep he;simp at h1 h2;omega
       obtain⟨bb,b7⟩:∃bb,B2 P f.type=some bb:=by
        cases m with
        |zero=>simp[L1]at ha
        |succ m =>
         unfold L1 at ha;unfold B2;split at ha<;>first|(cases ha;done)|(rename_i ht;rw[ht];exact⟨_,rfl⟩)
       have PB:bb=false->a.length=1:=by
        intro hbf;cases m with
        |zero=>simp[L1]at ha
        |succ m =>
         unfold L1 at ha;unfold B2 at b7;split at ha<;>first|(cases ha;done)|(cases ha;rfl)|(rename_i ht;rw[ht]at b7;simp at b7;rw[hbf]at b7;cases b7)
       have Q8:=Hs (P:=P) b7 nS nT PB xs n (by rw[hx.1];omega) w;have aY:=Hs (P:=P) b7 nS nT PB ys n (by rw[hy.1];omega) w;have nU:=ih.1 f.type a bb d _ _ _ _ r1 ha b7 PB omg ((hx.drop n).take a.length) ((hy.drop n).take a.length) e1;have he2:=ih.2 fs bts (n+a.length) (d+1) xs ys p q r2 hbt omg hx hy omg (by simpa[JO]using e2);simp only[Op.eqFields,AB WH,Sem.run_bind,Pp,Q8,aY,Result.andThen_ok,nU];cases r1
       ·simp
       ·simp only[JL,VM,if_false,Bool.true_and];exact he2
      ·cases h
     ·cases h
    ·cases h
def Jiv:Value->Bool|.int _ _|.string _|.bool _|.float _ _|.complex _ _ _=>false|_=>true
def Ov{xo yo:Operand}{y:L}{r:Bool}(hx:CE β w Im u x)(hy:CE β w Im v y)(h:Fy P t (D8 xo||D8 yo) x y=some r) :
  (∀op,(op=.eql\/op=.neq)->(eqGuard op t xo yo u v).run P w=.ok () w)/\(∀d,(Op.equalIn (d+1) t u v).run P w=.ok r w)/\Jiv u=true:=by
 have gd:∀(u v:Value),(u≠.nilIface\/v≠.nilIface)->(∀a,u≠.agg a)->∀op,(op=.eql\/op=.neq)->(eqGuard op t xo yo u v).run P w=.ok () w:=by
  intro u v h1 h2 op ho;cases u<;>first|(exact absurd rfl (h2 _))|(rcases ho with rfl|rfl<;>rfl)|(cases v<;>first|(rcases ho with rfl|rfl<;>rfl)|(rcases h1 with h1|h1<;>exact absurd rfl h1))
 unfold Fy at h;split at h<;>first|(cases h;done)|skip
 ·rename_i ht;cases hx;cases hy;cases h;exact⟨gd _ _ (.inl sm) sm,fun d=>by simp[Op.equalIn,run_underlying ht],rfl⟩
 ·rename_i ht;obtain⟨loc,_,rfl⟩:=hx;cases hy;cases h;exact⟨gd _ _ (.inl sm) sm,fun d=>by simp[Op.equalIn,run_underlying ht],rfl⟩
 ·rename_i ht;obtain⟨b,o,_,rfl,_⟩:=hx;cases hy;cases h;exact⟨gd _ _ (.inl sm) sm,fun d=>by simp[Op.equalIn,run_underlying ht],rfl⟩
 ·rename_i e _ _ _ _ _ _ ht;split at h
  ·rename_i hc;obtain⟨rfl,rfl,rfl,h0⟩:=hc;obtain⟨loc,CM,rfl⟩:=hx;obtain⟨CO,CF,rfl⟩:=hy;rw[CM]at CF;cases CF;cases h;exact⟨gd _ _ (.inl sm) sm,fun d=>by simp[Op.equalIn,run_underlying ht,Bk (P:=P) (t:=e) rfl h0,h0,run_sameAddr_same],rfl⟩
  ·cases h
 ·rename_i ht;split at h
  ·rename_i hc;cases hx;cases hy;cases h;refine⟨fun op ho=>?_,fun d=>by simp[Op.equalIn,run_underlying ht],rfl⟩;cases xo<;>cases yo<;>simp[D8]at hc<;>rcases ho with rfl|rfl<;>simp[eqGuard]
  ·cases h
 ·rename_i ht;cases hx;cases hy;cases h;exact⟨gd _ _ (.inl sm) sm,fun d=>by simp[Op.equalIn,run_underlying ht],rfl⟩
 ·rename_i ht;cases hx;cases hy;cases h;exact⟨gd _ _ (.inr sm) sm,fun d=>by simp[Op.equalIn,run_underlying ht],rfl⟩
 ·rename_i ht;cases hx;cases hy;cases h;exact⟨gd _ _ (.inl sm) sm,fun d=>by simp[Op.equalIn,run_underlying ht],rfl⟩
 ·rename_i ht;cases hx;cases hy;cases h;exact⟨gd _ _ (.inr sm) sm,fun d=>by simp[Op.equalIn,run_underlying ht],rfl⟩
 ·rename_i ht;cases hx;cases hy;cases h;exact⟨gd _ _ (.inl sm) sm,fun d=>by simp[Op.equalIn,run_underlying ht],rfl⟩
 ·rename_i ht;cases hx;cases hy;cases h;exact⟨gd _ _ (.inl sm) sm,fun d=>by simp[Op.equalIn,run_underlying ht],rfl⟩
 ·rename_i ht;rcases hx with⟨loc,cap,o,_,_,_,_,rfl⟩|⟨_,_,h0,_⟩
  ·cases hy;cases h;exact⟨gd _ _ (.inl sm) sm,fun d=>by simp[Op.equalIn,run_underlying ht],rfl⟩
  ·cases h0
 ·rename_i ht;cases hx;cases hy;cases h;exact⟨gd _ _ (.inl sm) sm,fun d=>by simp[Op.equalIn,run_underlying ht],rfl⟩
 ·rename_i ht;obtain⟨loc,_,rfl⟩:=hx;cases hy;cases h;exact⟨gd _ _ (.inl sm) sm,fun d=>by simp[Op.equalIn,run_underlying ht],rfl⟩
 ·rename_i ht;cases hx;cases hy;cases h;exact⟨gd _ _ (.inl sm) sm,fun d=>by simp[Op.equalIn,run_underlying ht],rfl⟩
 ·rename_i ht;cases hx;cases hy;cases h;exact⟨gd _ _ (.inl sm) sm,fun d=>by simp[Op.equalIn,run_underlying ht],rfl⟩
 ·rename_i ht;obtain⟨vs,rfl,_⟩:=hx;cases hy;cases h;exact⟨gd _ _ (.inl sm) sm,fun d=>by simp[Op.equalIn,run_underlying ht],rfl⟩
 ·rename_i ht;obtain⟨vs,rfl,_⟩:=hx;cases hy;cases h;exact⟨gd _ _ (.inl sm) sm,fun d=>by simp[Op.equalIn,run_underlying ht],rfl⟩
def L5{r:Bool}(h:∀d,(Op.equalIn (d+1) t u v).run P w=.ok r w)(h1:Jiv u=true) :
  (binOp .eql t u v).run P w=.ok (.bool r) w/\(binOp .neq t u v).run P w=.ok (.bool (!r)) w:=by
 have he:(Op.equal t u v).run P w=.ok r w:=h 9999;cases u<;>first|(cases h1;done)|(constructor<;>simp[binOp,he])
def Jah(xo yo:Operand){y:L}(hx:CE β w Im u x)(hy:CE β w Im v y)(h:HX P op t (D8 xo||D8 yo) x y K) :
  C0 β Im w ((do eqGuard op t xo yo u v;binOp op t u v:Sem Value).run P w) K:=by
 unfold HX at h;split at h
 ·cases hx;cases hy;exact Jbu t xo yo h
 ·cases hx;cases hy;exact Jaz t xo yo h
 ·cases hx;cases hy;obtain⟨ht,h⟩:=h;split at h
  ·refine I5 h ?_;rw[eqGuard_at_bool];simp only[pure_bind];exact run_eql_bool _ _ _ _ ht
  ·refine I5 h ?_;rw[eqGuard_at_bool];simp only[pure_bind];exact run_neq_bool _ _ _ _ ht
  ·exact h.elim
 ·obtain⟨ts,XU,r,hr,h⟩:=h;simp only[Nt]at XU;split at XU
  ·rename_i hc;cases hx with
   |agg cs ps hl hs hp =>
   cases hy with
   |agg ds qs DB QP hq =>
   have he:=(Jlq (P:=P) (w:=w) (Im:=Im) 100).1 t ts true 9999 cs ds _ _ r XU hc.1 sm omg ⟨hl,hp⟩ ⟨DB,hq⟩ hr;simp only[Jg,if_true]at he;split at h
   ·refine I5 h ?_;simp only[Sem.run_bind,run_eqGuard_agg w _ _ _ _ _ _ hc.2,Result.andThen_ok,run_eql_struct,he]
   ·refine I5 h ?_;simp only[Sem.run_bind,run_eqGuard_agg w _ _ _ _ _ _ hc.2,Result.andThen_ok,run_neq_struct,he]
   ·exact h.elim
  ·cases XU
 ·unfold Db at h;split at h
  ·rename_i r _ _ hn;obtain⟨h1,h2,h3⟩:=Ov hx hy hn;refine I5 h ?_;simp only[Sem.run_bind,h1 .eql (.inl rfl),Result.andThen_ok,(L5 h2 h3).1]
  ·rename_i r _ _ hn;obtain⟨h1,h2,h3⟩:=Ov hx hy hn;refine I5 h ?_;simp only[Sem.run_bind,h1 .neq (.inr rfl),Result.andThen_ok,(L5 h2 h3).2]
  ·exact h.elim
def Jf0{op:UnOp}(hx:CE β w Im u x)(h:cr op x K):C0 β Im w ((Op.unary op u).run P w) K:=by
 unfold cr at h;split at h
 ·cases hx;exact Dz h (by simp[Op.unary,Op.intArith])
 ·cases hx;exact I5 h (by simp[Op.unary])
 ·exact h.elim
def Io:∀{es:List (List PV)} {bs:List UInt8},Cw es=some bs->es.length=bs.length/\∀(i:Nat) (e:List PV),es[i]?=some e->∃b,bs[i]?=some b/\e=[.int .u8 (b.toNat:Int)]
 |[],bs,h=>by simp only[Cw]at h;cases h;exact⟨rfl,fun i e he=>by simp at he⟩
 |x::l,bs,h=>by
  unfold Cw at h;split at h
  ·rename_i Pe;cases Pe
  ·rename_i n l' Pe;cases Pe;split at h
   ·rename_i hn;split at h
    ·rename_i bs' cu;cases h;obtain⟨h1,h2⟩:=Io cu;refine⟨by simp[h1],fun i e he=>?_⟩;cases i with
     |zero =>
      simp at he;subst he;refine⟨_,rfl,?_⟩;congr 2;simp;omega
     |succ i=>simp at he;simpa using h2 i e he
    ·cases h
   ·cases h
  ·cases h
def Jw7{src dst e:TypeId}(oa:Option Addr)(c:Nat)(hs:P.underlying src=some (.slice e))(he:P.underlying e=some (.int .u8))(hd:P.underlying dst=some .string) :
  (convert src dst (.slice oa 0 c)).run P w=.ok (.string ⟨#[]⟩) w:=by
 rw[Go.run_convert_bytes_string w src dst e oa 0 c hs he hd];cases oa with
 |none=>simp[Conv.bytesToString];rfl
 |some a=>simp[Conv.bytesToString,loadCells,loadCellsFrom];rfl
def Xm{src dst e:TypeId}{bs:List UInt8}(hd:P.underlying dst=some .string)(hs:P.underlying src=some (.slice e))(he:P.underlying e=some (.int .u8))(hx:BW w Im u (.sl es))(hb:Cw es=some bs) :
  (convert src dst u).run P w=.ok (.string ⟨⟨bs⟩⟩) w:=by
 obtain⟨h1,h2⟩:=Io hb;cases hx with
 |slNil =>
  have:bs=[]:=KH (by rw[<-h1];rfl);subst this;exact Jw7 _ 0 hs he hd
 |sl b By cap sz es GP hbI f DI LI hc hp =>
  have FC:Go.Lib.Bytes w b By ⟨⟨bs⟩⟩:=by
   intro i hi;have JM:i<bs.length:=hi;have VO:i<es.length:=omg;obtain⟨c,Pp,WH⟩:=h2 i es[i] (C' VO);have XV:sz=1:=by rw[<-DI _ (UN VO),WH];rfl
   subst XV;have CP:=hc i VO 0 omg;have gW:=hp i es[i] 0 (.int .u8 (c.toNat:Int)) (C' VO) (by rw[WH];rfl);generalize f i 0=v at CP gW;cases gW;have e1:(⟨⟨bs⟩⟩:ByteArray)[i]=c:=by
    have:bs[i]?=some bs[i]:=C' JM;rw[this]at Pp;cases Pp;rfl
   rw[e1];simpa using CP
  have:=Go.Lib.run_convert_whole (P:=P) w src e dst hs he hd b By ⟨⟨bs⟩⟩ FC cap;have e2:(⟨⟨bs⟩⟩:ByteArray).size=es.length:=h1.symm;rw[e2]at this;exact this
def Jl{src dst:TypeId}(hx:CE β w Im u x)(h:J1 P src dst x K):C0 β Im w ((convert src dst u).run P w) K:=by
 unfold J1 at h;split at h
 ·rename_i hd;cases hx;obtain⟨h1,h2⟩:=h;obtain⟨ds,hs⟩:=oZ.1 h1;refine Dz h2 ?_;simp only[convert,Sem.run_bind,run_underlying hs,run_underlying hd,Result.andThen_ok,Conv.intToInt];rfl
 ·rename_i hd;cases hx;obtain⟨h1,h2,h3⟩:=h;obtain⟨ds,hs⟩:=oZ.1 h1;refine X2 h3 ?_;simp only[convert,Sem.run_bind,run_underlying hs,run_underlying hd,Result.andThen_ok];cases ds<;>first|rfl|exact absurd hs (h2 _)
 ·rename_i hd;cases hx;obtain⟨h1,h2,h3⟩:=h;obtain⟨ds,hs⟩:=oZ.1 h1;refine X2 h3 ?_;simp only[convert,Sem.run_bind,run_underlying hs,run_underlying hd,Result.andThen_ok,Conv.intToString];cases ds<;>first|rfl|exact absurd hs (h2 _)
 ·rename_i hd;obtain⟨⟨e,hs,he⟩,bs,hb,hK⟩:=h;exact X2 hK (Xm hd hs he hx hb)
 ·exact h.elim
def Jb9{ty:TypeId}(hx:CE β w Im u x)(h:UQ P t x K):C0 β Im w ((Builtin.len_ #[t] ty #[u]).run P w) K:=by
 unfold UQ at h;split at h
 ·rename_i ht;cases hx;refine Dz h ?_;rw[run_len_string _ _ _ _ ht];rfl
 ·rename_i ht;obtain⟨a,cap,rfl,_⟩:=Jve hx;refine Dz h ?_;simp[Builtin.len_,run_underlying ht,goInt]
 ·rename_i ht;cases hx;refine Dz h ?_;simp[Builtin.len_,run_underlying ht,goInt]
 ·rename_i ht;rcases hx with⟨loc,cap,o,_,_,_,_,rfl⟩|⟨_,_,rfl,rfl⟩
  ·refine Dz h ?_;simp[Builtin.len_,run_underlying ht,goInt]
  ·refine Dz h ?_;simp[Builtin.len_,run_underlying ht,goInt]
 ·rename_i ht;cases hx;refine Dz h ?_;simp[Builtin.len_,run_underlying ht,goInt]
 ·rename_i ht;cases hx;rename_i r cl B' hr hw hn hb hl hk hv;refine Dz h ?_;simp[Builtin.len_,run_underlying ht,goInt,getObj,Sem.run,hw,hl,Result.andThen]
 ·exact h.elim
def K6{ts:Array TypeId}{xs:List L}(hl:vs.length=xs.length)(hv:∀(i:Nat) (v:Value) (x:L),vs[i]?=some v->xs[i]?=some x->CE β w Im v x)(h:Fj b xs K):C0 β Im w ((if b then Builtin.max_ ts t ⟨vs⟩else Builtin.min_ ts t ⟨vs⟩).run P w) K:=by
 unfold Fj at h;split at h
 ·rename_i k a k' c
  match vs,hl with
  |[u,v],_ =>
   have h0:=hv 0 u _ rfl rfl;have h1:=hv 1 v _ rfl rfl;cases h0;cases h1;cases b
   ·refine Dz h ?_;simp only[VM,if_false];refine(run_min_int2 _ _ _ _ _ _ _).trans ?_;congr 2;by_cases hc:c<a
    ·rw[AB hc];omega
    ·rw[AA hc];omega
   ·refine Dz h ?_;simp only[if_true];refine(run_max_int2 _ _ _ _ _ _ _).trans ?_;congr 2;by_cases hc:c>a
    ·rw[AB hc];omega
    ·rw[AA hc];omega
 ·exact h.elim
end
section
variable {P:Program} {β:ET} {w:World} {Im:Nat->Prop}
def Cd(b o n:Nat):(⟨b,o,none⟩:Addr).add n=⟨b,o+n,none⟩:=by
 unfold Addr.add;split<;>simp_all
def Dw{t e sz:Nat}(h:IW P t=some (e,sz)):P.underlying t=some (.slice e)/\P.cellsOf e=sz/\sz≠0:=by
 unfold IW at h;split at h
 ·rename_i e' ht;split at h
  ·cases h
  ·rename_i h0;cases h;exact⟨ht,rfl,h0⟩
 ·cases h
def Rh{t e sz:Nat}(h:cq P t=some (n,e,sz)):P.underlying t=some (.array n e)/\P.cellsOf e=sz/\sz≠0:=by
 unfold cq at h;split at h
 ·rename_i n' e' ht;split at h
  ·cases h
  ·rename_i h0;cases h;exact⟨ht,rfl,h0⟩
 ·cases h
def Ip{t e sz:Nat}(h:IW P t=some (e,sz))(b o len cap:Nat)(k:IntKind)(i:Int)(h0:0<=i)(h1:i<len)(w:World) :
  (Instr.indexAt t (.slice (some ⟨b,o,none⟩) len cap) (.int k i)).run P w=.ok (.pointer (some ⟨b,o+i.toNat*sz,none⟩)) w:=by
 obtain⟨ht,hs,hn⟩:=Dw h;simp[Instr.indexAt,run_underlying ht,asIntOf,h0,h1,Bk hs hn,Cd]
def BW.eptr{v:Value}{es:List (List PV)}{i:Nat}{e:List PV}(h:BW w Im v (.sl es))(he:es[i]?=some e) :
  ∃b o cap,v=.slice (some ⟨b,o,none⟩) es.length cap/\CE β w Im (.pointer (some ⟨b,o+i*e.length,none⟩)) (.eptr e):=by
 cases h with
 |slNil=>simp at he
 |sl b o cap sz _ GP hb f DI LI hc hp =>
  have hm:=D4 he;have hs:=DI e hm;refine⟨b,o,cap,rfl,b,o+i*e.length,hb,rfl,f i,fun j hj=>?_,fun j p hj=>⟨hp i e j p he hj,LI e hm p (D4 hj)⟩⟩;rw[hs];exact hc i (DX.1 he).1 j omg
def Nl(hf:Fit β w Im s a.tmps){ix:L}(hx:CE β w Im u x)(hi:CE β w Im v ix)(h:Dg P s.regs t x ix K) :
  C0 β Im w ((Instr.indexAt t u v).run P w) K:=by
 unfold Dg at h;split at h
 ·rename_i es k i;split at h
  ·rename_i e0 sz HI;obtain⟨h0,e,he,hl,hK⟩:=h;cases hi;obtain⟨b,o,cap,rfl,hr⟩:=BW.eptr (β:=β) hx he;subst hl;have BZ:=(DX.1 he).1;exact⟨_,_,Ip HI b o es.length cap k i h0 omg w,hr,hK⟩
  ·exact h.elim
 ·rename_i d By len k i;split at h
  ·rename_i T sz es e EE hr HI;obtain⟨rfl,h0,h1,hK⟩:=h;cases hi;rcases hx with⟨loc,cap,o,CM,GP,CY,ho,rfl⟩|⟨_,_,rfl,_⟩
   ·have JE:=hf.regs d _ (Ax hr);rcases JE with⟨hn,_⟩|⟨CO,cur,CF,DI,_⟩
    ·rw[CM]at hn;cases hn
    ·rw[CM]at CF;cases CF;refine Wh (.ptr d (By+i.toNat) 0) hK (Ip HI _ _ len cap k i h0 h1 w) ⟨loc,CM,?_⟩;rw[ho (.inl omg),DI,Nat.add_zero,ME]
   ·omega
  ·rename_i T sz SS es e EE hr HI;obtain⟨rfl,h0,h1,hK⟩:=h;cases hi;rcases hx with⟨loc,cap,o,CM,GP,CY,ho,rfl⟩|⟨_,_,rfl,_⟩
   ·have JE:=hf.regs d _ (Ax hr);rcases JE with⟨hn,_⟩|⟨CO,cur,CF,DI,_⟩
    ·rw[CM]at hn;cases hn
    ·rw[CM]at CF;cases CF;refine Wh (.ptr d (By+i.toNat) 0) hK (Ip HI _ _ len cap k i h0 h1 w) ⟨loc,CM,?_⟩;rw[ho (.inl omg),DI,Nat.add_zero,ME]
   ·omega
  ·exact h.elim
 ·rename_i d a' b' k i;split at h
  ·rename_i n e sz zK;obtain⟨h0,h1,hK⟩:=h;cases hi;obtain⟨loc,CM,rfl⟩:=hx;obtain⟨ht,hs,hn⟩:=Rh zK;refine Wh (v:=.pointer (some ⟨loc.blk,a'*loc.sz+b'+i.toNat*sz,none⟩)) (.ptr d a' (b'+i.toNat*sz)) hK ?_ ⟨loc,CM,by rw[QO]⟩;simp[Instr.indexAt,run_underlying ht,asIntOf,Instr.sureAddr,h0,h1,Bk hs hn,Cd]
  ·exact h.elim
 ·rename_i cs k i;split at h
  ·rename_i n e sz zK;obtain⟨h0,h1,h2,hK⟩:=h;cases hi;obtain⟨b,o,hb,rfl,g,hc,hp⟩:=hx;obtain⟨ht,hs,hn⟩:=Rh zK;refine Wh (v:=.pointer (some ⟨b,o+i.toNat*sz,none⟩)) (.eptr (cs.drop (i.toNat*sz))) hK ?_ ⟨b,o+i.toNat*sz,hb,rfl,fun j=>g (i.toNat*sz+j),fun j hj=>?_,fun j p hj=>?_⟩
   ·simp[Instr.indexAt,run_underlying ht,asIntOf,Instr.sureAddr,h0,h1,Bk hs hn,Cd]
   ·have:=hc (i.toNat*sz+j) (by simp at hj;omega)
    rwa[<-QO]at this
   ·exact hp (i.toNat*sz+j) p (by simpa using hj)
  ·exact h.elim
 ·exact h.elim
def V0{ix:L}(hx:CE β w Im u x)(hi:CE β w Im v ix)(h:Ix P t x ix K):C0 β Im w ((Instr.index t u v).run P w) K:=by
 unfold Ix at h;split at h
 ·rename_i s k i ht;obtain⟨h0,b,hb,hK⟩:=h;cases hx;cases hi;refine Dz hK ?_;have hg:(⟨⟨s⟩⟩:ByteArray)[i.toNat]?=some b:=by
   have BZ:=(DX.1 hb).1;rw[ByteArray.getElem?_lt' _ _ BZ];congr 1;exact(DX.1 hb).2
  simp[Instr.index,asIntOf,run_underlying ht,h0,hg]
 ·rename_i n e cs k i ht;obtain⟨OD,Pp,h0,h1,c,hc,hK⟩:=h;cases hi;cases hx with
  |agg vs _ hl hs hp =>
  have BZ:=(DX.1 hc).1;have Q8:=Hs (P:=P) OD Pp omg (fun _=>rfl) vs i.toNat omg w;refine⟨Jg false ((vs.drop i.toNat).take 1),.p c,?_,?_,hK⟩
  ·simp[Instr.index,asIntOf,run_underlying ht,h0,h1,Bk Pp,Q8]
  ·have hv:vs[i.toNat]?=some (vs[i.toNat]'omg):=C' _;have:=hp _ _ _ hv hc;simpa[Jg,GU,hv,CE]using this
 ·exact h.elim
def J9{t By ft:Nat}(h:PR P t i=some (By,ft)):∃fs f,P.underlying t=some (.struct fs)/\fs[i]?=some f/\f.offset=By/\f.type=ft/\P.cellsOf ft≠0:=by
 unfold PR at h;split at h
 ·rename_i fs ht;cases hf:fs[i]? with
  |none=>simp[hf]at h
  |some f =>
   simp only[hf,Option.bind_some]at h;split at h
   ·cases h
   ·rename_i h0;cases h;exact⟨fs,f,ht,hf,rfl,rfl,h0⟩
 ·cases h
def Nm{t f:Nat}(hx:CE β w Im u x)(h:D2 P t x f K):C0 β Im w ((Instr.fieldAt t u f).run P w) K:=by
 unfold D2 at h;split at h
 ·rename_i By ft cs SU;obtain⟨fs,fd,ht,UR,ho,US,hn⟩:=J9 SU;obtain⟨b,o,hb,rfl,g,hc,hp⟩:=hx;refine Wh (v:=.pointer (some ⟨b,o+By,none⟩)) (.eptr (cs.drop By)) h.2 ?_ ⟨b,o+By,hb,rfl,fun j=>g (By+j),fun j hj=>?_,fun j p hj=>?_⟩
  ·simp[Instr.fieldAt,run_underlying ht,UR,Instr.sureAddr,fieldPlace,Bk (P:=P) (t:=fd.type) rfl (by rw[US];exact hn),ho,Cd];intro hz;rw[US]at hz;exact absurd hz hn
  ·have:=hc (By+j) (by simp at hj;omega)
   rwa[<-QO]at this
  ·exact hp (By+j) p (by simpa using hj)
 ·rename_i By ft d i j SU;obtain⟨fs,fd,ht,UR,ho,US,hn⟩:=J9 SU;obtain⟨loc,CM,rfl⟩:=hx;refine Wh (v:=.pointer (some ⟨loc.blk,i*loc.sz+j+By,none⟩)) (.ptr d i (j+By)) h ?_ ⟨loc,CM,by rw[QO]⟩;simp[Instr.fieldAt,run_underlying ht,UR,Instr.sureAddr,fieldPlace,Bk (P:=P) (t:=fd.type) rfl (by rw[US];exact hn),ho,Cd];intro hz;rw[US]at hz;exact absurd hz hn
 ·exact h.elim
def BW.sub{cs:List PV}(hl:vs.length=cs.length)(hs:∀p∈cs,p.scalar=true)(hp:∀(i:Nat) (v:Value) (p:PV),vs[i]?=some v->cs[i]?=some p->BW w Im v p)(By n:Nat):BW w Im (.agg ⟨(vs.drop By).take n⟩) (.agg ((cs.drop By).take n)):=by
 have hr:Row w Im vs cs:=⟨hl,hp⟩
 have:=(hr.drop By).take n;exact .agg _ _ this.1 (fun p KX=>hs p (OR (UL KX))) this.2
def U1{t f:Nat}(hx:CE β w Im u x)(h:Q5 P t x f K):C0 β Im w ((Instr.field t u f).run P w) K:=by
 unfold Q5 at h;split at h
 ·rename_i By ft cs SU;obtain⟨fs,fd,ht,UR,ho,US,hn⟩:=J9 SU;cases hx with
  |agg vs _ hl hs hp =>
  split at h
  ·rename_i OD;have Q8:=Hs (P:=P) (t:=ft) (n:=P.cellsOf ft) OD rfl hn sm vs By omg w;refine aU _ h.2 ?_ (BW.sub hl hs hp By (P.cellsOf ft));simp only[Instr.field,Sem.run_bind,run_underlying ht,Result.andThen_ok,UR,asAgg,Sem.run_pure,US,ho,Q8,Jg,if_true]
  ·rename_i OD;obtain⟨h1,c,hc,hK⟩:=h;have BZ:=(DX.1 hc).1;have Q8:=Hs (P:=P) (t:=ft) OD h1 omg (fun _=>rfl) vs By omg w;have hv:vs[By]?=some (vs[By]'omg):=C' _;refine⟨Jg false ((vs.drop By).take 1),.p c,?_,?_,hK⟩
   ·simp only[Instr.field,Sem.run_bind,run_underlying ht,Result.andThen_ok,UR,asAgg,Sem.run_pure,US,ho,Q8]
   ·have:=hp _ _ _ hv hc;simpa[Jg,GU,hv,CE]using this
  ·exact h.elim
 ·exact h.elim
def D7{b o:Nat}{T:TypeId}(h:w.heap[b]?=some (.cells ⟨cs⟩ T (0,0))):w.cell? ⟨b,o,none⟩=cs[o]?:=by
 rw[cell_of_row w b o _ T (0,0) h];simp
def Df(OD:B2 P t=some false){a:Addr}(h:w.cell? a=some v):(loadVar t a).run P w=.ok v w:=by
 simp[loadVar,Iu OD,run_load,h]
def Ew(OD:B2 P t=some true)(hn:P.cellsOf t=n)(h0:n≠0){b o:Nat}(hl:cs.length=n)(h:∀(j:Nat) (v:Value),cs[j]?=some v->w.cell? ⟨b,o+j,none⟩=some v) :
  (loadVar t ⟨b,o,none⟩).run P w=.ok (.agg ⟨cs⟩) w:=by
 have:=run_loadCells_list (P:=P) w ⟨b,o,none⟩ cs (fun j v hv=>by rw[Cd];exact h j v hv);rw[hl]at this;simp[loadVar,Iu OD,Bk hn h0,this]
def Jk(hf:Fit β w Im s a.tmps)(hx:CE β w Im u x)(h:Jc P s.regs t x K) :
  C0 β Im w ((Instr.loadAt t u).run P w) K:=by
 unfold Jc at h;split at h
 ·rename_i cs OD;obtain⟨c,hc,hK⟩:=h;obtain⟨b,o,hb,rfl,g,hg,hp⟩:=hx;have BZ:=(DX.1 hc).1;exact aU c hK (by simpa[Instr.loadAt,Instr.sureAddr]using Df OD (hg 0 BZ)) (hp 0 c hc).1
 ·rename_i cs OD;obtain⟨h0,DO,hK⟩:=h;obtain⟨b,o,hb,rfl,g,hg,hp⟩:=hx;have hl:((List.range (P.cellsOf t)).map g).length=P.cellsOf t:=sm;refine aU _ hK (v:=.agg ⟨(List.range (P.cellsOf t)).map g⟩) ?_ (BW.agg _ _ (by simp;omega) (fun p KX=>?_) (fun i v p hv XW=>?_))
  ·simp only[Instr.loadAt,Instr.sureAddr,Sem.run_bind,Sem.run_pure,Result.andThen_ok];refine Ew OD rfl omg hl fun j v hv=>?_
   rw[Eam]at hv;obtain⟨k,hk,rfl⟩:=HF.1 hv;obtain⟨WI,rfl⟩:=DX.1 hk;simp at WI⊢;exact hg j omg
  ·obtain⟨i,hi,rfl⟩:=PN (UL KX);exact(hp i _ (C' hi)).2
  ·rw[IQ]at XW;split at XW
   ·rw[Eam]at hv;obtain⟨k,hk,rfl⟩:=HF.1 hv;obtain⟨WI,rfl⟩:=DX.1 hk;simp;exact(hp i p XW).1
   ·cases XW
 ·rename_i d i j OD;obtain⟨loc,CM,rfl⟩:=hx;split at h
  ·rename_i T cs hr;obtain⟨rfl,c,hc,hK⟩:=h;obtain⟨CO,cur,CF,DI,gX,hb,CY,CP⟩:=hf.regs d _ (Ax hr);rw[CM]at CF;cases CF;obtain⟨v,hv⟩:=BQ CY hc;refine⟨v,c,?_,(CP j v c hv hc).1,hK⟩;simp only[Instr.loadAt,Instr.sureAddr,Sem.run_bind,Sem.run_pure,Result.andThen_ok];exact Df OD (by rw[D7 hb];simpa using hv)
  ·rename_i T sz es hr;obtain⟨e,he,c,hc,hK⟩:=h;rcases hf.regs d _ (Ax hr)with⟨_,rfl⟩|⟨CO,cur,CF,DI,hb,FI,DO,HW,EF,CP⟩
   ·simp at he
   ·rw[CM]at CF;cases CF;obtain⟨v,hv,hp⟩:=CP i e j c he hc;refine aU _ hK ?_ hp;simp only[Instr.loadAt,Instr.sureAddr,Sem.run_bind,Sem.run_pure,Result.andThen_ok];exact Df OD (by rw[D7 hb,DI];exact hv)
  ·rename_i T sz SS es hr;obtain⟨e,he,c,hc,hK⟩:=h;rcases hf.regs d _ (Ax hr)with⟨_,rfl⟩|⟨CO,cur,CF,DI,hb,FI,DO,UT,HW,EF,CP⟩
   ·simp at he
   ·rw[CM]at CF;cases CF;obtain⟨v,hv,hp,_⟩:=CP i e j c he hc;refine⟨v,c,?_,hp,hK⟩;simp only[Instr.loadAt,Instr.sureAddr,Sem.run_bind,Sem.run_pure,Result.andThen_ok];exact Df OD (by rw[D7 hb,DI];exact hv)
  ·exact h.elim
  ·exact h.elim
 ·rename_i d i j OD;obtain⟨loc,CM,rfl⟩:=hx;split at h
  ·rename_i T cs hr;obtain⟨rfl,h0,DO,ps,F',hK⟩:=h;obtain⟨CO,cur,CF,DI,gX,hb,CY,CP⟩:=hf.regs d _ (Ax hr);rw[CM]at CF;cases CF;obtain⟨D',YR⟩:=Bh F';have FI:((cur.drop j).take (P.cellsOf t)).length=P.cellsOf t:=by simp;omega
   have aZ:ps.length=P.cellsOf t:=by rw[<-D'];simp;omega
   have key:∀(k:Nat) (v:Value) (p:PV),((cur.drop j).take (P.cellsOf t))[k]?=some v->ps[k]?=some p->BW w Im v p/\p.scalar=true:=by
    intro k v p hv hp;obtain⟨l,hl⟩:=BQ D' hp;have h1:=YR k l p hl hp;cases l<;>simp[L.pure?]at h1;subst h1;rw[IQ]at hv hl;split at hv
    ·rename_i hk;rw[AB hk]at hl;have:=CP (j+k) v _ (by simpa using hv) (by simpa using hl);exact⟨this.1,by rcases this.2 with h2|h2;exact h2;cases h2⟩
    ·cases hv
   refine aU _ hK (v:=.agg ⟨(cur.drop j).take (P.cellsOf t)⟩) ?_ (BW.agg _ _ (by rw[FI,aZ]) (fun p KX=>?_) (fun k v p hv hp=>(key k v p hv hp).1))
   ·simp only[Instr.loadAt,Instr.sureAddr,Sem.run_bind,Sem.run_pure,Result.andThen_ok];refine Ew OD rfl omg FI fun k v hv=>?_
    rw[IQ]at hv;split at hv
    ·rw[D7 hb];simpa using hv
    ·cases hv
   ·obtain⟨k,hk,rfl⟩:=PN KX;obtain⟨v,hv⟩:=BQ (FI.trans aZ.symm) (C' hk);exact(key k v _ hv (C' hk)).2
  ·rename_i T sz es hr;obtain⟨e,he,h0,DO,hK⟩:=h;rcases hf.regs d _ (Ax hr)with⟨_,rfl⟩|⟨CO,cur,CF,DI,hb,FI,PC,HW,EF,CP⟩
   ·simp at he
   ·rw[CM]at CF;cases CF;have XX:=EF e (D4 he);have FU:∀k,k<e.length->i*sz+k<cur.length:=by
     intro k hk;obtain⟨v,hv,_⟩:=CP i e k _ he (C' hk);exact(DX.1 hv).1
    have OE:((cur.drop (i*sz+j)).take (P.cellsOf t)).length=P.cellsOf t:=by
     have:=FU (j+P.cellsOf t-1) omg;simp;omega
    have key:∀(k:Nat) (v:Value) (p:PV),((cur.drop (i*sz+j)).take (P.cellsOf t))[k]?=some v->((e.drop j).take (P.cellsOf t))[k]?=some p->BW w Im v p:=by
     intro k v p hv hp;rw[IQ]at hv hp;split at hv
     ·rename_i hk;rw[AB hk]at hp;obtain⟨v',SV,IA⟩:=CP i e (j+k) p he (by simpa using hp);have:v'=v:=by
       have h1:cur[i*sz+j+k]?=some v:=by simpa using hv
       rw[QO]at h1;rw[SV]at h1;exact L' h1
      rw[<-this];exact IA
     ·cases hv
    refine aU _ hK (v:=.agg ⟨(cur.drop (i*sz+j)).take (P.cellsOf t)⟩) ?_ (BW.agg _ _ (by rw[OE];simp;omega) (fun p KX=>XX.2 p (OR (UL KX))) key);simp only[Instr.loadAt,Instr.sureAddr,Sem.run_bind,Sem.run_pure,Result.andThen_ok];refine Ew OD rfl omg OE fun k v hv=>?_
    rw[IQ]at hv;split at hv
    ·rw[D7 hb,DI];simpa using hv
    ·cases hv
  ·rename_i T sz SS es hr;obtain⟨e,he,h0,DO,ps,F',hK⟩:=h;rcases hf.regs d _ (Ax hr)with⟨_,rfl⟩|⟨CO,cur,CF,DI,hb,FI,PC,UT,HW,EF,CP⟩
   ·simp at he
   ·rw[CM]at CF;cases CF;have XX:=EF e (D4 he);obtain⟨D',YR⟩:=Bh F';have FU:∀k,k<e.length->i*sz+k<cur.length:=by
     intro k hk;obtain⟨v,hv,_⟩:=CP i e k _ he (C' hk);exact(DX.1 hv).1
    have OE:((cur.drop (i*sz+j)).take (P.cellsOf t)).length=P.cellsOf t:=by
     have:=FU (j+P.cellsOf t-1) omg;simp;omega
    have aZ:ps.length=P.cellsOf t:=by rw[<-D'];simp;omega
    have key:∀(k:Nat) (v:Value) (p:PV),((cur.drop (i*sz+j)).take (P.cellsOf t))[k]?=some v->ps[k]?=some p->BW w Im v p/\p.scalar=true:=by
     intro k v p hv hp;obtain⟨l,hl⟩:=BQ D' hp;have h1:=YR k l p hl hp;cases l<;>simp[L.pure?]at h1;subst h1;rw[IQ]at hv hl;split at hv
     ·rename_i hk;rw[AB hk]at hl;obtain⟨v',SV,IA,IY⟩:=CP i e (j+k) _ he (by simpa using hl);have:v'=v:=by
       have h1:cur[i*sz+j+k]?=some v:=by simpa using hv
       rw[QO]at h1;rw[SV]at h1;exact L' h1
      rw[<-this];exact⟨IA,by rcases IY with h2|h2;exact h2;cases h2⟩
     ·cases hv
    refine aU _ hK (v:=.agg ⟨(cur.drop (i*sz+j)).take (P.cellsOf t)⟩) ?_ (BW.agg _ _ (by rw[OE,aZ]) (fun p KX=>?_) (fun k v p hv hp=>(key k v p hv hp).1))
    ·simp only[Instr.loadAt,Instr.sureAddr,Sem.run_bind,Sem.run_pure,Result.andThen_ok];refine Ew OD rfl omg OE fun k v hv=>?_
     rw[IQ]at hv;split at hv
     ·rw[D7 hb,DI];simpa using hv
     ·cases hv
    ·obtain⟨k,hk,rfl⟩:=PN KX;obtain⟨v,hv⟩:=BQ (OE.trans aZ.symm) (C' hk);exact(key k v _ hv (C' hk)).2
  ·exact h.elim
  ·exact h.elim
 ·exact h.elim
end
section
variable {P:Program} {β:ET} {w:World} {Im:Nat->Prop}
def Co(hf:Fit β w Im s a.tmps){d l:Int}{o:Option Operand}(h:Dr s.get d o=some l) :
  (o.map a.eval=none/\l=d)\/∃k,o.map a.eval=some (.int k l):=by
 cases o with
 |none=>simp[Dr]at h;exact .inl ⟨rfl,h.symm⟩
 |some x =>
  simp only[Dr]at h;have hr:=A2 hf x;split at h
  ·rename_i k n hg;cases h;rw[hg]at hr;cases hx:a.eval x<;>rw[hx]at hr<;>cases hr;exact .inr ⟨k,by simp[hx]⟩
  ·cases h
def Fe(cv:Bool)(len cap:Nat)(vl vh:Option Value)(l h:Int)(hl:(vl=none/\l=0)\/∃k,vl=some (.int k l))(hh:(vh=none/\h=len)\/∃k,vh=some (.int k h))(h0:0<=l)(h1:l<=h)(h2:h<=cap):(Instr.sliceBounds cv len cap vl vh none).run P w=.ok (l.toNat,h.toNat,cap) w:=by
 have eh:(h.toNat:Int)=h:=Int.toNat_of_nonneg omg;rcases hl with⟨rfl,rfl⟩|⟨kl,rfl⟩<;>rcases hh with⟨rfl,rfl⟩|⟨kh,rfl⟩
 ·simp[Instr.sliceBounds]
 ·simp[Instr.sliceBounds,run_sliceBound,(by omega:0<=h),h2]
 ·simp[Instr.sliceBounds,run_sliceBound,h0,h1]
 ·simp[Instr.sliceBounds,run_sliceBound,h0,h1,h2,eh,(by omega:0<=h)]
def Jbz(s:List UInt8)(l h:Nat):(⟨⟨s⟩⟩:ByteArray).extract l h=⟨⟨(s.drop l).take (h-l)⟩⟩:=by
 apply ByteArray.ext;rw[ByteArray.data_extract];simp
def zL(h:BW w Im v (.sl es)):((∃oa,v=.slice oa 0 0)/\es=[])\/∃(b By cap sz:Nat) (f:Nat->Nat->Value),v=.slice (some ⟨b,By,none⟩) es.length cap/\es.length<=cap/\Im b /\
  (∀e∈es,e.length=sz)/\(∀e∈es,∀p∈e,p.scalar=true)/\(∀i,i<es.length->∀j,j<sz->w.cell? ⟨b,By+i*sz+j,none⟩=some (f i j)) /\
  ∀(i:Nat) (e:List PV) (j:Nat) (p:PV),es[i]?=some e->e[j]?=some p->BW w Im (f i j) p:=by
 cases h with
 |slNil=>exact .inl ⟨⟨_,rfl⟩,rfl⟩
 |sl b By cap sz _ GP hb f DI LI hc hp=>exact .inr ⟨b,By,cap,sz,f,rfl,GP,hb,DI,LI,hc,hp⟩
def V5(hf:Fit β w Im s a.tmps){x:Operand}{lo hi mx:Option Operand}(h:G2 P s.regs t s.get x lo hi mx K) :
  C0 β Im w ((Instr.sliceAt t (a.eval x) (lo.map a.eval) (hi.map a.eval) (mx.map a.eval)).run P w) K:=by
 obtain⟨rfl,h⟩:=h;have hx:=A2 hf x;split at h
 ·rename_i str ht hg;obtain⟨l,hh,hl,b8,h0,h1,h2,hK⟩:=h;rw[hg]at hx;cases hv:a.eval x<;>rw[hv]at hx<;>cases hx;refine X2 hK ?_;rw[run_sliceAt_string _ _ _ _ _ _ ht];have hb:=Fe (P:=P) (w:=w) false str.length str.length _ _ l hh (Co hf hl) (Co hf b8) h0 h1 h2;have DI:(⟨⟨str⟩⟩:ByteArray).size=str.length:=rfl;simp only[Instr.slice,Sem.run_bind,run_underlying ht,Result.andThen_ok,Option.map_none,Option.isSome_none,VM,if_false,DI,hb,Sem.run_pure,Jbz]
 ·rename_i e es ht hg;obtain⟨IZ,GI,l,hh,hl,b8,h0,h1,h2,hK⟩:=h;rw[hg]at hx;have JP:=hx;obtain⟨ad,cap,hv,GP,PD⟩:=Jve JP;have hb:=Fe (P:=P) (w:=w) true es.length cap _ _ l hh (Co hf hl) (Co hf b8) h0 h1 omg;have EF:=Hk ht;have DE:(Instr.sliceAt t (a.eval x) (lo.map a.eval) (hi.map a.eval) none).run P w=.ok (.slice (if cap=l.toNat then ad else ad.map (·.add (l.toNat*P.cellsOf e))) (hh.toNat-l.toNat) (cap-l.toNat)) w:=by
   rw[run_sliceAt_slice _ _ _ _ _ _ (by rw[EF];exact ht),hv];simp only[Instr.slice,Sem.run_bind,run_underlying ht,Result.andThen_ok,hb,Bk (P:=P) (t:=e) rfl omg,Sem.run_pure]
  have CY:((es.drop l.toNat).take (hh.toNat-l.toNat)).length=hh.toNat-l.toNat:=by simp;omega
  refine aU _ hK DE ?_;rcases zL hx with⟨⟨oa,UB⟩,rfl⟩|⟨b,By,cap',sz,f,UB,hcap',ov,DI,LI,hc,hp⟩
  ·rw[hv]at UB;cases UB;simp at h2;have:l=0:=omg;have:hh=0:=omg
   subst_vars
   exact .slNil
  ·rw[hv]at UB;cases UB;by_cases FI:cap=l.toNat
   ·have he:(es.drop l.toNat).take (hh.toNat-l.toNat)=[]:=KH (by rw[CY];omega);rw[he,AB FI,show hh.toNat-l.toNat=0 by omega];exact BW.sl b By (cap-l.toNat) sz [] (EK _) ov f (fun x hx=>by cases hx) (fun x hx=>by cases hx) (fun i hi=>by simp at hi) (fun i x j p hi=>by simp at hi)
   ·rw[AA FI];simp only[Option.map_some,Cd]
    conv=>arg 3;rw[<-CY]
    have CR:∀x∈(es.drop l.toNat).take (hh.toNat-l.toNat),x∈es:=fun x hx=>OR (UL hx)
    refine BW.sl b _ (cap-l.toNat) (P.cellsOf e) _ (by rw[CY];omega) ov (fun i=>f (l.toNat+i)) (fun x hx=>GI x (CR x hx)) (fun x hx=>LI x (CR x hx)) (fun i hi j hj=>?_) (fun i x j p hi hj=>?_)
    ·have DA:l.toNat+i<es.length:=by rw[CY]at hi;omega
     have hs:sz=P.cellsOf e:=by rw[<-DI _ (UN DA),GI _ (UN DA)]
     have:=hc (l.toNat+i) DA j (by rw[hs];exact hj);rw[hs,ME]at this;rw[<-this];congr 2;omega
    ·rw[IQ]at hi;split at hi
     ·exact hp (l.toNat+i) x j p (by simpa using hi) hj
     ·cases hi
 ·rename_i e ht hg;obtain⟨IZ,l,hh,hl,b8,rfl,rfl,hK⟩:=h;rw[hg]at hx;have hv:a.eval x=.slice none 0 0:=by generalize a.eval x=v at hx;cases hx;rfl
  have hb:=Fe (P:=P) (w:=w) true 0 0 _ _ 0 0 (Co hf hl) (Co hf b8) (fJ 0) (fJ 0) (fJ 0);have EF:=Hk ht;refine aU (v:=.slice none 0 0) _ hK ?_ .snil;rw[run_sliceAt_slice _ _ _ _ _ _ (by rw[EF];exact ht),hv];simp only[Instr.slice,Sem.run_bind,run_underlying ht,Result.andThen_ok,hb,Option.map_none,Bk (P:=P) (t:=e) rfl omg,Sem.run_pure];simp
 ·rename_i e d By len ht hg;obtain⟨IZ,R3,l,hh,hl,b8,h0,h1,h2,hK⟩:=h;rw[hg]at hx;have EF:=Hk ht;rcases hx with⟨loc,cap,o,CM,GP,WJ,ho,hv⟩|⟨CM,rfl,rfl,hv⟩
  ·have EM:Gx s.regs d<=loc.tot/\loc.sz=P.cellsOf e:=by
    unfold Pa at R3;split at R3
    ·rename_i T sz es hr;rw[Gx,hr];cases R3;rcases hf.regs d _ (Ax hr)with⟨hn,_⟩|⟨CO,cur,CF,DI,_,_,DO,_⟩
     ·rw[CM]at hn;cases hn
     ·rw[CM]at CF;cases CF;exact⟨DO,DI⟩
    ·rename_i T sz SS es hr;rw[Gx,hr];cases R3;rcases hf.regs d _ (Ax hr)with⟨hn,_⟩|⟨CO,cur,CF,DI,_,_,DO,_⟩
     ·rw[CM]at hn;cases hn
     ·rw[CM]at CF;cases CF;exact⟨DO,DI⟩
    ·cases R3
   obtain⟨EM,DI⟩:=EM;have hb:=Fe (P:=P) (w:=w) true len cap _ _ l hh (Co hf hl) (Co hf b8) h0 h1 omg;have DE:(Instr.sliceAt t (a.eval x) (lo.map a.eval) (hi.map a.eval) none).run P w=.ok (.slice (some (if cap=l.toNat then⟨loc.blk,o,none⟩else⟨loc.blk,o+l.toNat*P.cellsOf e,none⟩)) (hh.toNat-l.toNat) (cap-l.toNat)) w:=by
    rw[run_sliceAt_slice _ _ _ _ _ _ (by rw[EF];exact ht),hv];simp only[Instr.slice,Sem.run_bind,run_underlying ht,Result.andThen_ok,hb,Bk (P:=P) (t:=e) rfl omg,Sem.run_pure];split<;>simp[Cd]
   have DO:hh.toNat<=cap:=omg;by_cases hc:cap=l.toNat
   ·rw[AB hc]at DE;refine Wh _ hK DE (.inl ⟨loc,cap-l.toNat,o,CM,omg,omg,fun h=>?_,rfl⟩);rcases h with h|h
    ·omega
    ·have:l.toNat=0:=omg;have:By=0:=omg;subst this;rw[ho (.inr rfl)];simp[*]
   ·rw[AA hc]at DE;refine Wh _ hK DE (.inl ⟨loc,cap-l.toNat,_,CM,omg,omg,fun _=>?_,rfl⟩);rw[ho (.inl omg),DI,ME]
  ·have hh0:hh=0/\l=0:=by
    have:Gx s.regs d=0:=by
     unfold Pa at R3;split at R3
     ·rename_i T sz es hr;rw[Gx,hr];rcases hf.regs d _ (Ax hr)with⟨_,h⟩|⟨CO,cur,CF,_⟩
      ·simp[h]
      ·rw[CM]at CF;cases CF
     ·rename_i T sz SS es hr;rw[Gx,hr];rcases hf.regs d _ (Ax hr)with⟨_,h⟩|⟨CO,cur,CF,_⟩
      ·simp[h]
      ·rw[CM]at CF;cases CF
     ·cases R3
    omega
   obtain⟨rfl,rfl⟩:=hh0;have hb:=Fe (P:=P) (w:=w) true 0 0 _ _ 0 0 (Co hf hl) (Co hf b8) (fJ 0) (fJ 0) (fJ 0);refine Wh (v:=.slice none 0 0) _ hK ?_ (.inr ⟨CM,rfl,rfl,rfl⟩);rw[run_sliceAt_slice _ _ _ _ _ _ (by rw[EF];exact ht),hv];simp only[Instr.slice,Sem.run_bind,run_underlying ht,Result.andThen_ok,Option.map_none,Bk (P:=P) (t:=e) rfl omg,Sem.run_pure];simp only[Int.toNat_zero]at hb
   erw [hb]
   simp
 ·exact h.elim
def Jg4(l:List Value):(Value.agg ⟨l⟩).cells=⟨l⟩:=rfl
def BW.cells_scalar{p:PV}(h:BW w Im v p)(hs:p.scalar=true):v.cells = #[v]:=by
 cases h<;>first|rfl|simp[PV.scalar]at hs
def J6w{β:ET}{g:FuncId}(h:BW w Im v (.clo g ps)):∃b o,v=.func (.func g) #[] #[.pointer (some ⟨b,o,none⟩)]/\CE β w Im (.pointer (some ⟨b,o,none⟩)) (.eptr ps):=by
 cases h with
 |clo _ b o _ hb f LI hc hp=>exact⟨b,o,rfl,b,o,hb,rfl,f,hc,fun j p hj=>⟨hp j p hj,LI p (D4 hj)⟩⟩
def BW.one{p:PV}(h:BW w Im v p)(hs:p.scalar=true):v.oneCell'=true:=by
 cases h<;>first|rfl|simp[PV.scalar]at hs
def Row.append{ds:List Value}{qs:List PV}(h:Row w Im cs ps)(h':Row w Im ds qs):Row w Im (cs++ds) (ps++qs):=by
 refine⟨by simp[h.1,h'.1],fun i v p hv hp=>?_⟩;by_cases hi:i<cs.length
 ·rw[NZ hi]at hv;rw[NZ (by rw[<-h.1];exact hi)]at hp;exact h.2 i v p hv hp
 ·rw[Mr omg]at hv;rw[Mr (by rw[<-h.1];omega),<-h.1]at hp;exact h'.2 _ v p hv hp
def Ns(By:Nat):∀(vs:List Value) (k:Nat) (cs:List Value),By+k+vs.length<=cs.length ->
  (vs.zipIdx k).foldl (fun(cs:Array Value) (x:Value×Nat)=>cs.setIfInBounds (By+x.2) x.1) (⟨cs⟩:Array Value)=⟨cs.take (By+k)++vs++cs.drop (By+k+vs.length)⟩
 |[],k,cs,_=>by simp
 |v::vs,k,cs,h=>by
  simp only[List.zipIdx_cons,List.foldl_cons];rw[show(⟨cs⟩:Array Value).setIfInBounds (By+k) v=⟨cs.set (By+k) v⟩by simp];rw[Ns By vs (k+1) (cs.set (By+k) v) (by simp at h⊢;omega)];have h1:By+k<cs.length:=by simp at h;omega
  rw[<-SP];simp only;simp only[DH]at h;have e1:(cs.set (By+k) v).take (By+(k+1))=cs.take (By+k)++[v]:=by
   rw[<-QO,List.take_succ_eq_append_getElem (by simpa using h1),List.take_set_of_le (CS _)];simp
  have e2:(cs.set (By+k) v).drop (By+(k+1)+vs.length)=cs.drop (By+k+(vs.length+1)):=by
   rw[List.drop_set_of_lt omg];congr 1;omega
  rw[e1,e2];simp
def Lk{t:TypeId}{fs:Array Field}(ht:P.underlying t=some (.struct fs))(KY:Array (Nat×Nat))(D':∀(i:Nat) (f:Field),fs[i]?=some f->KY[i]?=some (f.offset,P.cellsOf f.type)) :
  ∀
   (parts:List (Nat×Value)) (ls:List (Nat×L)) (cs:List Value) (z r:List PV),parts.length=ls.length ->
   (∀(i:Nat) (u:Nat×Value) (x:Nat×L),parts[i]?=some u->ls[i]?=some x->u.1=x.1/\CE β w Im u.2 x.2)->Row w Im cs z->(∀p∈z,p.scalar=true)->Ef P t z ls=some r ->
   ∃XY,Instr.fill (KY[·]?) ⟨cs⟩ parts=some ⟨XY⟩/\Row w Im XY r/\∀p∈r,p.scalar=true
 |[],[],cs,z,r,_,_,hr,hs,KB=>by
  simp[Ef]at KB;subst KB;exact⟨cs,by simp[Instr.fill],hr,hs⟩
 |(i,v)::parts,(i',x)::ls,cs,z,r,hl,CT,hr,hs,KB=>by
  obtain⟨e1,e2⟩:=CT 0 _ _ rfl rfl;simp only at e1 e2;subst e1;have fK:∀(j:Nat) (u:Nat×Value) (x:Nat×L),parts[j]?=some u->ls[j]?=some x->u.1=x.1/\CE β w Im u.2 x.2:=fun j u x hu hx=>CT (j+1) u x (by simpa using hu) (by simpa using hx)
  simp only[Ef]at KB;split at KB
  ·rename_i By ft xs SU;obtain⟨fs',fd,ow,UR,ho,US,hn⟩:=J9 SU;rw[ht]at ow;cases ow;split at KB
   ·rename_i hc;cases e2 with
    |agg vs _ KZ gY aa =>
    have WJ:By+vs.length<=cs.length:=by rw[hr.1,KZ];exact hc.2
    have NF:Row w Im (cs.take By++vs++cs.drop (By+vs.length)) (z.take By++xs++z.drop (By+xs.length)):=by
     rw[<-KZ];exact((hr.take By).append ⟨KZ,aa⟩).append (hr.drop _)
    obtain⟨XY,h1,h2,h3⟩:=Lk ht KY D' parts ls _ _ r (by simpa using hl) fK NF (by
     intro p hp;rcases H'.1 hp with hp|hp
     ·rcases H'.1 hp with hp|hp
      ·exact hs p (UL hp)
      ·exact gY p hp
     ·exact hs p (OR hp)) KB
    refine⟨XY,?_,h2,h3⟩;have ZV:=Ns By vs 0 cs omg;simp only[Nat.add_zero]at ZV;have SW:=D' i fd UR;simp only[Instr.fill,SW,ho,US,Jg4];refine(AA (by simp;omega)).trans ?_;have e0:(⟨vs⟩:Array Value).zipIdx=⟨vs.zipIdx⟩:=sm;have e3:Array.foldl (fun(cs:Array Value) (x:Value×Nat)=>cs.setIfInBounds (By+x.2) x.1) (⟨cs⟩:Array Value) (⟨vs⟩:Array Value).zipIdx=⟨cs.take By++vs++cs.drop (By+vs.length)⟩:=by
     rw[e0,<-Array.foldl_toList];exact ZV
    exact(congrArg (fun x=>Instr.fill (fun x=>KY[x]?) x parts) e3).trans h1
   ·cases KB
  ·rename_i By ft p cw SU;obtain⟨fs',fd,ow,UR,ho,US,hn⟩:=J9 SU;rw[ht]at ow;cases ow;split at KB
   ·rename_i hc;have F':p.scalar=true:=by cases p<;>first|rfl|exact(cw _ rfl).elim
    have IA:BW w Im v p:=e2;have WK:=IA.cells_scalar F';have BZ:By<cs.length:=by rw[hr.1];omega
    have NF:Row w Im (cs.set By v) (z.set By p):=by
     refine⟨by simp[hr.1],fun j u q hu hq=>?_⟩;rw[SO]at hu hq;by_cases hj:By=j
     ·rw[AB hj]at hu hq;rw[AB BZ]at hu;rw[AB omg]at hq;cases hu;cases hq;exact IA
     ·rw[AA hj]at hu hq;exact hr.2 j u q hu hq
    obtain⟨XY,h1,h2,h3⟩:=Lk ht KY D' parts ls _ _ r (by simpa using hl) fK NF (by
     intro q hq;rcases cc hq with hq|rfl
     ·exact hs q hq
     ·exact F') KB
    refine⟨XY,?_,h2,h3⟩;have SW:=D' i fd UR;simp only[Instr.fill,SW,ho,US,WK];refine(AA (by simp;omega)).trans ?_;simpa using h1
   ·cases KB
  ·cases KB
def Wx{fs:Array Field}(DI:∀f∈fs.toList,P.cellsOf f.type≠0)(w:World) :
  (fs.mapM fun f=>(do pure (f.offset,<-sizeOf f.type):Sem (Nat×Nat))).run P w=.ok ⟨fs.toList.map fun f=>(f.offset,P.cellsOf f.type)⟩ w:=by
 obtain⟨l⟩:=fs;rw[Array.mapM_eq_mapM_toList];simp only[Sem.run_map];have:∀(l:List Field),(∀f∈l,P.cellsOf f.type≠0)->(l.mapM fun f=>(do pure (f.offset,<-sizeOf f.type):Sem (Nat×Nat))).run P w=.ok (l.map fun f=>(f.offset,P.cellsOf f.type)) w:=by
  intro l
  induction l with
  |nil=>intro _;simp
  |cons f l ih =>
   intro h;have h0:=h f DQ;simp only[List.mapM_cons,Sem.run_bind,Bk (P:=P) (t:=f.type) rfl h0,Result.andThen_ok,Sem.run_pure,ih (fun g hg=>h g (EW _ hg)),Fc]
 rw[this l DI];rfl
def J3y{parts:List (Nat×Value)}(hl:parts.length=ls.length)(CT:∀(i:Nat) (u:Nat×Value) (x:Nat×L),parts[i]?=some u->ls[i]?=some x->u.1=x.1/\CE β w Im u.2 x.2)(h:zJ P t ls K) :
  C0 β Im w ((Instr.build t ⟨parts⟩).run P w) K:=by
 obtain⟨z,hz,UU,cs,IS,hK⟩:=h;obtain⟨fs,ht⟩:∃fs,P.underlying t=some (.struct fs):=by
  unfold Ez at UU;split at UU
  ·rename_i fs ht;exact⟨fs,ht⟩
  ·cases UU
 unfold Bu at hz;split at hz<;>first|(cases hz;done)|skip
 rename_i HR FD;split at hz<;>first|(cases hz;done)|skip
 rename_i zv nV;have JF:(zeroValue t).run P w=.ok zv w:=by simp[zeroValue,typeInfo,FD,nV]
 obtain⟨Q',ZW⟩:=Bh hz;have ox:Row w Im zv.cells.toList z:=⟨Q',fun i v p hv hp=>(E6 (ZW i v p hv hp)).1⟩
 have gZ:∀p∈z,p.scalar=true:=Dl hz;have DA:∀f∈fs.toList,P.cellsOf f.type≠0:=by
  intro f hf;simp only[Ez,ht,SQ,bne_iff_ne]at UU;exact UU f hf
 obtain⟨XY,h1,h2,h3⟩:=Lk ht ⟨fs.toList.map fun f=>(f.offset,P.cellsOf f.type)⟩ (fun i f hf=>by
  have:fs.toList[i]?=some f:=by simpa using hf
  simp[this]) parts ls zv.cells.toList z cs hl CT ox gZ IS
 refine aU _ hK (v:=.agg ⟨XY⟩) ?_ (BW.agg XY cs h2.1 h3 h2.2);have hm:=Wx (P:=P) DA w;have gf:Instr.fill (fun x=>(⟨fs.toList.map fun f=>(f.offset,P.cellsOf f.type)⟩:Array (Nat×Nat))[x]?) zv.cells parts=some ⟨XY⟩:=h1;simp only[Instr.build,Sem.run_bind,JF,Result.andThen_ok,run_underlying ht,hm,gf,Sem.run_pure]
def J66:∀(parts:List (Nat×Value)) (ls:List (Nat×L)) (k:Nat) (cs:List Value) (vs:List PV),parts.length=ls.length ->
  (∀(i:Nat) (u:Nat×Value) (x:Nat×L),parts[i]?=some u->ls[i]?=some x->u.1=x.1/\CE β w Im u.2 x.2)->aS k ls=some vs->k+parts.length=cs.length ->
  ∃news,Instr.fill (fun i=>some (i*1,1)) ⟨cs⟩ parts=some ⟨cs.take k++news⟩/\news.length=vs.length/\∀(j:Nat) (u:Value) (p:PV),news[j]?=some u->vs[j]?=some p->BW w Im u p/\p.scalar=true
 |[],ls,k,cs,vs,hl,_,hv,hk=>by
  cases ls with
  |cons=>simp at hl
  |nil =>
   simp[aS]at hv;subst hv;refine⟨[],?_,rfl,by simp⟩;simp only[Instr.fill,ID];rw[DK (by simp at hk;omega)]
 |(i,v)::parts,ls,k,cs,vs,hl,CT,hv,hk=>by
  cases ls with
  |nil=>simp at hl
  |cons x ls =>
  obtain⟨i',x⟩:=x;obtain⟨e1,e2⟩:=CT 0 _ _ rfl rfl;simp only at e1 e2;subst e1;cases x with
  |p q =>
   simp only[aS]at hv;split at hv
   ·rename_i hc;obtain⟨rfl,hq⟩:=hc;split at hv
    ·rename_i r hr;cases hv;have IA:BW w Im v q:=e2;have WK:=IA.cells_scalar hq;simp only[DH]at hk hl;obtain⟨news,h1,h2,h3⟩:=J66 parts ls (i+1) (cs.set i v) r omg (fun j u x hu hx=>CT (j+1) u x (by simpa using hu) (by simpa using hx)) hr (by rw[nR];omega);refine⟨v::news,?_,by simp[h2],fun j u p hu hp=>?_⟩
     ·simp only[Instr.fill,WK];refine(AA (by simp;omega)).trans ?_;have e3:(Array.foldl (fun(cs:Array Value) (x:Value×Nat)=>cs.setIfInBounds (i*1+x.2) x.1) (⟨cs⟩:Array Value) (#[v]:Array Value).zipIdx)=⟨cs.set i v⟩:=sm;refine(congrArg (fun x=>Instr.fill (fun i=>some (i*1,1)) x parts) e3).trans (h1.trans ?_);congr 2;have e4:(cs.set i v).take (i+1)=cs.take i++[v]:=by
       have OE:(cs.take i).length=i:=by rw[GF];omega
       rw[List.set_eq_take_append_cons_drop,AB omg,List.take_append,OE,DK omg,nI];rfl
      rw[e4,KJ];rfl
     ·cases j with
      |zero=>simp at hu hp;subst hu;subst hp;exact⟨IA,hq⟩
      |succ j=>exact h3 j u p (by simpa using hu) (by simpa using hp)
    ·cases hv
   ·cases hv
  |_=>simp[aS]at hv
def Up{parts:List (Nat×Value)}(hl:parts.length=ls.length)(CT:∀(i:Nat) (u:Nat×Value) (x:Nat×L),parts[i]?=some u->ls[i]?=some x->u.1=x.1/\CE β w Im u.2 x.2)(h:Vf P t ls K) :
  C0 β Im w ((Instr.build t ⟨parts⟩).run P w) K:=by
 rcases J50 h with⟨n,e,ht,hc,hn,⟨z,hz,XZ⟩,cs,IS,hK⟩|h
 ·unfold Bu at hz;split at hz<;>first|(cases hz;done)|skip
  rename_i HR FD;split at hz<;>first|(cases hz;done)|skip
  rename_i zv nV;have JF:(zeroValue t).run P w=.ok zv w:=by simp[zeroValue,typeInfo,FD,nV]
  obtain⟨Q',_⟩:=Bh hz;obtain⟨news,h1,h2,h3⟩:=J66 parts ls 0 zv.cells.toList cs hl CT IS (by rw[Q',XZ,hn,hl];simp);rw[QN,List.nil_append]at h1;refine aU _ hK (v:=.agg ⟨news⟩) ?_ (BW.agg news cs h2 (fun p hp=>?_) (fun i v p hv hp=>(h3 i v p hv hp).1))
  ·simp only[Instr.build,Sem.run_bind,JF,Result.andThen_ok,run_underlying ht,Bk (P:=P) (t:=e) hc de,h1,Sem.run_pure]
  ·obtain⟨j,hj⟩:=WE hp;have nW:=(DX.1 hj).1;exact(h3 j _ p (C' omg) hj).2
 ·exact J3y hl CT h
def Ow:∀{ls:List L} {ds:List Nat},Hq ls=some ds->ls=ds.map fun d=>.ptr d 0 0
 |[],ds,h=>by simp[Hq]at h;subst h;rfl
 |l::ls,ds,h=>by
  unfold Hq at h;split at h
  ·rename_i Pe;cases Pe
  ·rename_i d l' Pe;cases Pe;split at h
   ·rename_i ds' oy;cases h;simp[Ow oy]
   ·cases h
  ·cases h
end
end Go.LX
