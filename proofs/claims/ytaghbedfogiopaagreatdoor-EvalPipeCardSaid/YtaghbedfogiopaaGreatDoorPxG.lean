/- Values: names, fields. -/
import Derived.Test.YtaghbedfogiopaaGreatDoorPxF
set_option linter.unusedSimpArgs false
set_option linter.unusedVariables false
set_option linter.unusedSectionVars false
set_option linter.unnecessarySimpa false
set_option maxRecDepth 100000
set_option maxHeartbeats 2000000
namespace Go.LX
open Go Go.RowKit Go.Proofs Go.Proofs.Tryz
attribute [local irreducible] Al SWP Bi
def Bd (l:List (List UInt8×Tree)):List (List PV):=l.map fun p=>[.str p.1]
@[simp] theorem Jet:Bd []=[]:=rfl
theorem A9 (l:List (List UInt8×Tree)):(Bd l).length=l.length:=by simp[Bd]
theorem Lr {l:List (List UInt8×Tree)} {k:Nat} {p:List UInt8×Tree} (h:l[k]? = some p):Bd (l.take (k+1))=Bd (l.take k) ++ [[.str p.1]]:=by
 rw[Ebc,h];simp[Bd]
theorem Cc (nm:List UInt8) (kd:Int) (s:List UInt8) (g:Bool) (e:Int) (kids:Forest):(valL ((Tree.mk kd s g e kids).enc nm))[0]? = some [.int .i64 kd,.int .i64 kids.len,.str nm,.str s,.bool g,.int .i64 e]:=by
 rw[A6];rfl
theorem J56 (nm:List UInt8) (s:List UInt8) (g:Bool) (e:Int) (kids:Forest) (hv:kids.enc.length<=1499999999999):Det cx 86 [.p (.sl (valL ((Tree.mk 6 s g e kids).enc nm)))] [] (.p (.sl (Bd kids.list))) []:=by
 (refine bgo func86 ?_;simp only[go_sem,simprocAttr,Cc]);(repeat'(first|((refine Jqa (Hp _) ?_);simp only[go_sem,simprocAttr])|fail));(refine SWP.range (Dp kids) 19 [(17,900)] sm _ _ _ _ _ (fun k R=>R=if k=0 then [(1000,.var 61 [.p .snil])] else [(900,.row 9 1 (Bd (kids.list.take k))),(1000,.var 61 [.own 900 0 k])]) (fun _ _=>False) (by rfl) (by rfl) (by rfl) (Rt nm 6 s g e kids hv) (by simp only[go_sem,simprocAttr]<;>rfl) (by first|rfl | simp[Cg]) sm ?hps (by simp only[go_sem,simprocAttr]<;>rfl) (by simp only[go_sem,simprocAttr]<;>rfl) (by simp only[go_sem,simprocAttr]<;>rfl) ?h0 ?hkI ?hkS ?hSn ?round ?done ?stop)
 case hps=>exact fun x hx=>Fn hx
 case h0=>rfl
 case hkI=>rintro k R rfl;split<;>simp[Hg,findKey]
 case hkS=>exact fun _ _ h=>h.elim
 case hSn=>exact fun _ h=>h
 case stop=>exact fun _ _ h=>h.elim
 case round =>
  rintro k x R l hx rfl;obtain ⟨p,hp,rfl⟩:=Fq hx;by_cases hk:k=0
  ·subst hk;rw[if_pos rfl];simp only[go_sem,simprocAttr];(refine lws ?_;simp only[go_sem,simprocAttr]);refine ⟨by simp,_,rfl,?_⟩;rw[Lr hp];exact (Jqt (by simp only[Ar]) (by simp (disch:=omega) [Az,A3,Aw,Am,Af,Ai,Au,Aa]) (by simp[Ay]))
  ·rw[if_neg hk];have hkl:=(Eab.1 hp).1;rw[Jqh] at hkl;have hll:=Jqi kids;simp only[go_sem,simprocAttr];(refine lws ?_;simp only[go_sem,simprocAttr]);refine ⟨by simp,by rw[A9,Eay,Jqh];omega,omg,omg,_,rfl,?_⟩;rw[Lr hp];exact (Jqt (by simp only[Ar]) (by simp (disch:=omega) [Az,A3,Aw,Am,Af,Ai,Au,Aa]) (by simp[Ay]))
 case done =>
  rintro R rfl;rw[E4];have hll:=Jqh kids;by_cases hk:kids.len=0
  ·rw[if_pos hk];have hnil:kids.list=[]:=Ean omg;rw[hnil];simp only[go_sem,simprocAttr];refine ⟨⟨Ba 19 [(3,.ptr 3 0 0)],[(3,.var 61 [.p (.sl [])])]⟩,Jqc,?_⟩;simp only[go_sem,simprocAttr];rfl
  ·rw[if_neg hk];have htk:kids.list.take kids.len=kids.list:=Eae omg;rw[htk];have hpl:(kids.len<=(Bd kids.list).length)=True:=eq_true (by rw[A9];omega);have hpt:(Bd kids.list).take kids.len=Bd kids.list:=Eae (by rw[A9];omega);simp only[go_sem,simprocAttr];refine ⟨_,St.Le.refl _,?_⟩;simp only[go_sem,simprocAttr,hpl,hpt]
def Ch (name:List UInt8) (l:List (List UInt8×Tree)):Option Tree:=match l with
 | []=>none
 | p :: l=>if p.1=name then some p.2 else Ch name l
theorem Ls {name:List UInt8}:∀ {l:List (List UInt8×Tree)},(∀ p∈l,p.1≠name)->Ch name l=none
 | [],_=>rfl
 | p :: l,h=>by
  rw[Ch,if_neg (h p Eaf)];exact Ls fun q hq=>h q (Eai _ hq)
theorem Li {name:List UInt8}:∀ {l:List (List UInt8×Tree)} {k:Nat} {p:List UInt8×Tree},l[k]? = some p->p.1=name->(∀ q∈l.take k,q.1≠name)->Ch name l=some p.2
 | [],k,p,h,_,_=>by simp at h
 | q :: l,0,p,h,hn,_=>by
  simp at h;subst h;rw[Ch,if_pos hn]
 | q :: l,k+1,p,h,hn,ht=>by
  rw[Ebv] at ht;rw[Ch,if_neg (ht q Eaf)];exact Li (by simpa using h) hn fun x hx=>ht x (Eai _ hx)
def Oo:Option Tree->L
 | some t=>.tup [.sl (valL (t.enc [])),.bool true]
 | none=>.tup [.snil,.bool false]
theorem Jdk (nm:List UInt8) (s:List UInt8) (g:Bool) (e:Int) (kids:Forest) (name:List UInt8) (hv:kids.enc.length<=1499999999999):Det cx 92 [.p (.sl (valL ((Tree.mk 6 s g e kids).enc nm))),.p (.str name)] [] (Oo (Ch name kids.list)) []:=by
 (refine bgo func92 ?_;simp only[go_sem,simprocAttr,Cc]);(repeat'(first|((refine Jqa (Hp _) ?_);simp only[go_sem,simprocAttr])|fail));(refine SWP.range (Dp kids) 21 [] sm _ _ _ _ _ (fun k R=>R=[(1000,.var 4 [.p (.bool false)]),(1001,.var 25 [.p .snil]),(1002,.var 9 [.p (.str name)])]/\∀ p∈kids.list.take k,p.1≠name) (fun x R=>x=.ret/\∃ t,Ch name kids.list=some t/\R=[(1000,.var 4 [.p (.bool true)]),(1001,.var 25 [.p (.sl (valL (t.enc [])))])]) (by rfl) (by rfl) (by rfl) (Rt nm 6 s g e kids hv) (by simp only[go_sem,simprocAttr]<;>rfl) (by first|rfl | simp[Cg]) sm ?hps (by simp only[go_sem,simprocAttr]<;>rfl) (by simp only[go_sem,simprocAttr]<;>rfl) (by simp only[go_sem,simprocAttr]<;>rfl) ?h0 ?hkI ?hkS ?hSn ?round ?done ?stop)
 case hps=>exact fun x hx=>Fn hx
 case h0=>exact ⟨rfl,by simp⟩
 case hkI=>rintro k R ⟨rfl,_⟩;simp[Hg,findKey]
 case hkS=>rintro x R ⟨_,t,_,rfl⟩;simp[Hg,findKey]
 case hSn=>rintro R ⟨h,_⟩;cases h
 case stop =>
  rintro x R ⟨rfl,t,ht,rfl⟩;rw[ht];simp only[go_sem,simprocAttr];refine ⟨_,St.Le.refl _,?_⟩;simp only[go_sem,simprocAttr];rfl
 case done =>
  rintro R ⟨rfl,hno⟩;rw[E4,Eae (by rw[Jqh];exact Eah _)] at hno;rw[Ls hno];simp only[go_sem,simprocAttr];refine ⟨_,St.Le.refl _,?_⟩;simp only[go_sem,simprocAttr];rfl
 case round =>
  rintro k x R l hx ⟨rfl,hno⟩;obtain ⟨p,hp,rfl⟩:=Fq hx;simp only[go_sem,simprocAttr];(refine lws ?_;simp only[go_sem,simprocAttr]);(repeat'(apply iteI<;>intro h))
  ·exact ⟨_,⟨p.2,Li hp (by assumption) hno,rfl⟩,(Jqt (by simp only[Ar]) (by simp (disch:=omega) [Az,A3,Aw,Am,Af,Ai,Au,Aa]) (by simp[Ay]))⟩
  ·refine ⟨_,⟨rfl,fun q hq=>?_⟩,(Jqt (by simp only[Ar]) (by simp (disch:=omega) [Az,A3,Aw,Am,Af,Ai,Au,Aa]) (by simp[Ay]))⟩;rw[Ebc,hp] at hq;rcases Eax.1 hq with hq | hq
   ·exact hno q hq
   ·simp at hq;subst hq;assumption
def A1 (l:List (List UInt8×Tree)):Forest:=match l with
 | []=>.nil
 | p :: l=>.cons p.1 p.2 (A1 l)
theorem G1:∀ f:Forest,A1 f.list=f
 | .nil=>rfl
 | .cons nm t r=>by simp only[Forest.list,A1,G1 r]
theorem Hz:∀ a b:List (List UInt8×Tree),A1 (a ++ b)=(A1 a).app (A1 b)
 | [],b=>rfl
 | p :: a,b=>by simp only[Ebh,A1,Forest.app,Hz a b]
theorem Ca:∀ l:List (List UInt8×Tree),(A1 l).len=l.length
 | []=>rfl
 | p :: l=>by simp only[A1,Forest.len,Ca l,Ead]
theorem Hd:∀ l:List (List UInt8×Tree),(A1 l).list=l
 | []=>rfl
 | p :: l=>by simp only[A1,Forest.list,Hd l]
def hdR (n:Nat):List PV:=[.int .i64 6,.int .i64 n,.str [],.str [],.bool false,.int .i64 0]
theorem Jkg (l:List (List UInt8×Tree)) (hv:(A1 l).enc.length<=1499999999999):Det cx 127 [.p (.sl (Bd l)),.p (.sl (A4 l))] [] (.p (.sl (valL ((Tree.mk 6 [] false 0 (A1 l)).enc [])))) []:=by
 have hll:=Jqi (A1 l);rw[Ca] at hll;(refine bgo func127 ?_;simp only[go_sem,simprocAttr,A5,wj1 (i:=0) omg]);refine SWP.loop (fun x:Nat×Nat×List (List PV)=>⟨Ba 35 [(0,.p (.sl (Bd l))),(5,.own 12 0 x.2.1),(13,.p (.sl (A4 l))),(14,.p (.int .i64 l.length)),(15,.p (.int .i64 x.1))],[(12,.row 36 6 x.2.2)]⟩) (fun x=>x.1<=l.length/\x.2.1=(A1 (l.take x.1)).enc.length+1/\x.2.2=hdR l.length :: valL (A1 (l.take x.1)).enc) (fun x=>l.length - x.1) (0,1,[hdR l.length]) (by unfold hdR;exact Jqc) ⟨Eau _,rfl,rfl⟩ ?_;rintro ⟨k,m,es⟩ ⟨hk,hm',hes⟩;simp only at hk hm' hes;by_cases hlt:¬ k<l.length
 ·have hml:es.length=m:=by rw[hes,hm'];simp
  have htk:es.take m=es:=Eae omg;have htl:l.take k=l:=Eae omg;rw[htl] at hes hm';have hkl:((k:Int)<(l.length:Int))=False:=eq_false omg;(refine lws ?_;simp only[go_sem,simprocAttr,wj1 (i:=0) omg,hkl,hml,htk,Eah]);rw[hes,A6,Ca];rfl
 ·have hlt:=Ea9.1 hlt;obtain ⟨p,hp⟩:∃ p,l[k]? = some p:=⟨_,Eaa hlt⟩
  have hml:es.length=m:=by rw[hes,hm'];simp
  have htk:es.take m=es:=Eae omg;have hpl:(A4 l)[k]? = some [.sl (valL (p.2.enc []))]:=by simp[A4,hp]
  have hnl:(Bd l)[k]? = some [.str p.1]:=by simp[Bd,hp]
  obtain ⟨⟨nm',t⟩,rfl⟩:∃ q,q=p:=⟨p,rfl⟩
  cases t with
  | mk kd' s' g' e' kids' =>
  have hge:(es ++ valL ((Tree.mk kd' s' g' e' kids').enc []))[m]? = some [.int .i64 kd',.int .i64 kids'.len,.str [],.str s',.bool g',.int .i64 e']:=by
   rw[Ear omg,hml,Edr,A6];rfl
  have hkl:((k:Int)<(l.length:Int))=True:=eq_true omg;have htk1:A1 (l.take (k+1))=(A1 (l.take k)).app (.cons nm' (.mk kd' s' g' e' kids') .nil):=by
   rw[Ebc,hp,Hz];rfl
  have hsum:(A1 (l.take (k+1))).enc.length<=(A1 l).enc.length:=by
   have e1:A1 l=(A1 (l.take (k+1))).app (A1 (l.drop (k+1))):=by rw[<- Hz,Ebk]
   rw[e1,Jqk,Eac];omega
  rw[htk1,Jqk,Eac,A0,Bl,Eaw,A6,Ead] at hsum;have h6:=E7 ((Tree.mk kd' s' g' e' kids').enc []);have hvl:((Tree.mk kd' s' g' e' kids').enc []).length=kids'.enc.length+1:=by rw[A6];rfl
  have hsp:(es ++ valL ((Tree.mk kd' s' g' e' kids').enc [])).set m [.int .i64 kd',.int .i64 kids'.len,.str nm',.str s',.bool g',.int .i64 e']=es ++ valL ((Tree.mk kd' s' g' e' kids').enc nm'):=by
   rw[List.set_append_right _ _ omg,hml,Edr,A6,A6];rfl
  (refine lws ?_;simp only[go_sem,simprocAttr,wj1 (i:=0) omg,hkl,hml,hkl,hml,hpl,hnl,hge,hsp,A7,hvl,wj1 (i:=k) omg]);refine ⟨h6,omg,omg,omg,(k+1,m+(kids'.enc.length+1),es ++ valL ((Tree.mk kd' s' g' e' kids').enc nm')),⟨by simp only;omega,?_,?_⟩,by simp only;omega,?_⟩
  ·simp only;rw[htk1,Jqk,Eac,A0,Bl,Eaw,A6,Ead];omega
  ·simp only;rw[htk1,Jqk,Ji,A0,Bl,Eaw,<- Ebh,<- hes]
  ·refine St.Le.trans (B1 [(24,12)] _ sm) ?_;simp only[go_sem,simprocAttr,wj1 (i:=0) omg,wj1 (i:=k) omg];exact Jqc
end Go.LX
namespace Go.LX
open Go Go.RowKit Go.Proofs
section
variable {X:Cx} {ro:Option Nat} {md:Region.Mode} {ops:Array Oper}
def YSAt (X:Cx) (ds:List (Option Tmp)) (ops:List Oper) (i:Nat) (C:St->Prop) (s:St):Prop:=match ops[i]? with
 | some o=>YS X ds s o fun l=>C (s.put o.dst l)
 | none=>False
def lTake (X:Cx) (ds:List (Option Tmp)) (ops:List Oper) (E:St->Prop):List Nat->St->Prop
 | [],s=>E s
 | i :: I,s=>YSAt X ds ops i (lTake X ds ops E I) s
def takeB (md:Region.Mode) (ops:Array Oper) (k:Nat):List Nat->Array Bool->Bool
 | [],_=>true
 | i :: I,listed=>(Region.ready md ops listed).contains i && (Region.free md ops listed i && (decide (i<k) && ((List.range ops.size).all (fun j=>decide (j<k) || ancB md ops ops.size i j) && takeB md ops k I (listed.setIfInBounds i true))))
def J2r:List Nat->Array Bool->Array Bool
 | [],listed=>listed
 | i :: I,listed=>J2r I (listed.setIfInBounds i true)
def Jur (X:Cx) (ds:List (Option Tmp)) (ops:List Oper) (k:Nat) (K:St->Prop):Ord->St->Prop
 | .leaf,s=>K s
 | .nil,_=>True
 | .bad,_=>False
 | .node i sub next,s=>(if i<k then YSAt X ds ops i (Jur X ds ops k K sub) s else lAt X ds ops i (Jur X ds ops k K sub) s)/\Jur X ds ops k K next s
end
section
variable {X:Cx} {ds:List (Option Tmp)} {t:List L} {r:Regs} {E:St->Prop}
theorem y_at0 {o:Oper} {ops:List Oper}:YSAt X ds (o :: ops) 0 E ⟨t,r⟩=YS X ds ⟨t,r⟩ o (kput o.dst E ⟨t,r⟩):=(rfl)
theorem y_atS {o:Oper} {ops:List Oper} {i:Nat}:YSAt X ds (o :: ops) (i+1) E ⟨t,r⟩=YSAt X ds ops i E ⟨t,r⟩:=(rfl)
theorem y_leaf {ops:List Oper} {k:Nat}:Jur X ds ops k E .leaf ⟨t,r⟩=E ⟨t,r⟩:=(rfl)
theorem y_nil {ops:List Oper} {k:Nat}:Jur X ds ops k E .nil ⟨t,r⟩=True:=(rfl)
theorem y_node {ops:List Oper} {k i:Nat} {sub next:Ord}:Jur X ds ops k E (.node i sub next) ⟨t,r⟩=((if i<k then YSAt X ds ops i (Jur X ds ops k E sub) ⟨t,r⟩ else lAt X ds ops i (Jur X ds ops k E sub) ⟨t,r⟩)/\Jur X ds ops k E next ⟨t,r⟩):=(rfl)
attribute [go_sem] y_at0 y_atS y_leaf y_nil y_node
end
def farL:L->Bool
 | .p _=>true
 | .eptr _=>true
 | _=>false
theorem Jwa {d:Nat} {l:L} (h:farL l=true):L.forget d l=l:=by
 cases l<;>simp[farL] at h<;>rfl
theorem Kg7 {P:Program} {regs regs':List (Nat×Reg)} {ρ:Operand->L} {op:Op} {l:L} (hf:∀ x∈op.operands.toList,farL (ρ x)=true) (h:lqv P regs ρ op l):lqv P regs' ρ op l:=by
 cases op with
 | lookup t x ix ok =>
  have hx:=hf x (by simp[Op.operands]);have e:Tz regs (ρ x)=Tz regs' (ρ x):=by
   unfold Tz;cases hρ:ρ x<;>rw[hρ] at hx<;>simp[farL] at hx<;>(try rfl)
   rename_i a;cases a<;>rfl
  simp only[lqv,Yc] at h ⊢;rw[<- e];exact h
 | call c =>
  obtain ⟨callee,args,ts⟩:=c;cases callee with
  | builtin b =>
   cases b with
   | cap =>
    simp only[lqv] at h ⊢;split at h
    ·rename_i x t hargs hts;have hx:=hf x (by simp[Op.operands,Call.operands,hargs]);revert h;cases hρ:ρ x<;>rw[hρ] at hx<;>simp[farL] at hx
     ·rename_i a;cases a<;>exact id
     ·exact id
    ·exact h
   | _=>exact h
  | _=>exact h
 | _=>exact h
theorem J9w {P:Program} {regs regs':List (Nat×Reg)} {ρ:Operand->L} {op:Op} {K:L->Prop} (hf:∀ x∈op.operands.toList,farL (ρ x)=true) (h:lq P regs ρ op K):lq P regs' ρ op K:=by
 have ptr:∀ {x:L} {d i j:Nat},farL x=true->x=.ptr d i j->False:=by intro x d i j h e;subst e;cases h
 unfold lq at h ⊢;split at h
 case h_8 =>
  rename_i a;have hx:=hf a (by simp[Op.operands]);revert h;unfold Jc;generalize B2 P _=b;rcases b with _ | _ | _<;>cases hρ:ρ a<;>rw[hρ] at hx<;>simp[farL] at hx<;>exact id
 case h_11 =>
  rename_i x y;have hx:=hf x (by simp[Op.operands]);revert h;unfold Dg;generalize ρ y=iy;cases hρ:ρ x<;>rw[hρ] at hx<;>simp[farL] at hx
  ·rename_i a;cases iy with
   | p b=>cases a<;>cases b<;>exact id
   | _=>cases a<;>exact id
  ·cases iy with
   | p b=>cases b<;>exact id
   | _=>exact id
 case h_13 t x lo hi mx =>
  have hx:=hf x (by simp[Op.operands]);revert h;unfold G2;generalize P.underlying t=u;cases hρ:ρ x<;>rw[hρ] at hx<;>simp[farL] at hx
  ·rename_i a;cases u with
   | none=>exact id
   | some u=>cases u<;>cases a<;>exact id
  ·cases u with
   | none=>exact id
   | some u=>cases u<;>exact id
 all_goals first
  | exact h
  | skip
 obtain ⟨l,h1,h2⟩:=h;exact ⟨l,Kg7 hf h1,h2⟩
section
variable {X:Cx} {ro:Option Nat} {ops:Array Oper}
def Jwf (o:Oper):Bool:=o.guard.isNone && match o.op with
 | .move _=>true
 | .indexAddr ..=>true
 | .fieldAddr ..=>true
 | .load ..=>true
 | .binOp ..=>true
 | _=>false
def Jv5 (o:Oper):Bool:=o.guard.isNone && match o.op,o.dst with
 | .alloc _,some _=>true
 | _,_=>false
def Jwk (o:Oper):Bool:=o.guard.isNone && match o.op,o.dst with
 | .store ..,none=>true
 | _,_=>false
def Jta (s:St) (o:Oper):Prop:=∀ x∈o.op.operands.toList,farL (s.get x)=true
theorem J2t {ds:List (Option Tmp)} {s:St} {o:Oper} {K:L->Prop} (h:Jwf o=true):YS X ds s o K=lq X.P s.regs s.get o.op K:=by
 obtain ⟨dst,op,ty,ps,af,g⟩:=o;cases g with
 | some g=>simp[Jwf] at h
 | none =>
  unfold YS lqc;cases op<;>first|rfl | (simp[Jwf] at h)
theorem Ju0 {s:St} {dst:Option Tmp} {v:L} {d:Nat} {r:Reg} {l:L} (hv:farL v=true) (hne:∀ x,dst=some x->x≠d):(((s.newReg d r).put (some d) l).put dst v)=(((s.put dst v).newReg d r).put (some d) l):=by
 cases dst with
 | none=>rfl
 | some x =>
  have:=hne x rfl;simp only[St.put,St.newReg,Edt,Jwa hv];rw[List.set_comm _ _ this]
theorem J42 {s:St} {d:Nat} {r:Reg} {l:L} {x:Operand} (hx:x≠.tmp d) (hf:farL (s.get x)=true):((s.newReg d r).put (some d) l).get x=s.get x:=by
 rw[Jmw (fun e he=>by cases he;exact hx)];cases x with
 | tmp i =>
  simp only[St.get,St.newReg,Eaj,Eam] at hf ⊢;cases hi:s.tmps[i]? with
  | none=>rfl
  | some m =>
   rw[hi] at hf;simp only[Option.map_some,Option.getD_some] at hf ⊢;exact Jwa hf
 | _=>rfl
theorem J3j {d:Nat} {z:Fz} {l:L} (h:farL l=true):L.freeze d z l=l:=by
 cases l<;>simp[farL] at h<;>rfl
theorem Kaq {s:St} {d:Nat} {dst:Option Tmp} {v:L} (hv:farL v=true):(s.put dst v).freeze d=(s.freeze d).put dst v:=by
 cases dst with
 | none=>rfl
 | some x =>
  simp only[St.put,St.freeze,Dx];cases fzOf (Am d s.regs) with
  | none=>rfl
  | some z=>simp only[Edt,J3j hv]
theorem Kae {s:St} {d:Nat} {y:Operand} (hf:farL (s.get y)=true):(s.freeze d).get y=s.get y:=by
 unfold St.freeze Dx;cases fzOf (Am d s.regs) with
 | none=>rfl
 | some z =>
 cases y with
 | tmp i =>
  simp only[St.get,Eaj,Eam] at hf ⊢;cases hi:s.tmps[i]? with
  | none=>rfl
  | some m =>
   rw[hi] at hf;simp only[Option.map_some,Option.getD_some] at hf ⊢;exact J3j hf
 | _=>rfl
theorem Jxt {s:St} {x:Operand} {dst:Option Tmp} {v:L} (hv:farL v=true) (hx:∀ d,dst=some d->x≠.tmp d):(s.put dst v).freezeOps [x]=(s.freezeOps [x]).put dst v:=by
 simp only[St.freezeOps,Jmw hx];cases s.get x<;>first|rfl | (simp only;split<;>first|exact Kaq hv | rfl)
theorem Jxr {s:St} {x y:Operand} (hf:farL (s.get y)=true):(s.freezeOps [x]).get y=s.get y:=by
 simp only[St.freezeOps];cases s.get x<;>first|rfl | (simp only;split<;>first|exact Kae hf | rfl)
theorem Jvg {s:St} {dst:Option Tmp} {v:L}:(s.put dst v).regs=s.regs:=by cases dst<;>rfl
theorem Jwz {s:St} {dst:Option Tmp} {v:L} {R:Regs}:({ (s.put dst v) with regs:=R }:St)=({ s with regs:=R }:St).put dst v:=by cases dst<;>rfl
theorem J18 {P:Program} {t:TypeId} {s:St} {a x:Operand} {dst:Option Tmp} {v:L} {K:St->Prop} (hv:farL v=true) (ha:∀ d,dst=some d->a≠.tmp d) (hx:∀ d,dst=some d->x≠.tmp d) (h:Nv P t (s.put dst v) a x K) :
  Nv P t s a x fun s'=>K (s'.put dst v)/\∀ y,farL (s.get y)=true->s'.get y=s.get y:=by
 unfold Nv at h ⊢;rw[Jmw ha,Jmw hx,Jvg] at h;split at h
 ·rename_i d i j hd;simp only;split at h
  ·obtain ⟨xs,h1,h2,h3,h4,h5,h6⟩:=h;refine ⟨xs,h1,h2,h3,h4,h5,?_,fun y _=>?_⟩
   ·rw[Jwz] at h6;exact h6
   ·cases y<;>rfl
  ·rw[Jxt hv hx] at h;obtain ⟨xs,h1,ps,h2,e,h3,h4,h5,h6,h7,h8,h9⟩:=h;rw[Jmw hx] at h1;rw[Jvg] at h7 h9;rw[Jmw ha] at h8;refine ⟨xs,h1,ps,h2,e,h3,h4,h5,h6,h7,h8,?_,fun y hy=>?_⟩
   ·rw[Jwz] at h9;exact h9
   ·have:=Jxr (x:=x) hy;cases y<;>exact this
  ·obtain ⟨xs,h1,e,h2,h3,h4,h5,h6⟩:=h;refine ⟨xs,h1,e,h2,h3,h4,h5,?_,fun y _=>?_⟩
   ·rw[Jwz] at h6;exact h6
   ·cases y<;>rfl
  ·exact h.elim
  ·exact h.elim
 ·exact h.elim
def Jts (X:Cx) (ds:List (Option Tmp)) (ops:List Oper) (E:St->Prop):List Nat->St->Prop
 | [],s=>E s
 | i :: I,s=>match ops[i]? with
  | some o=>Jta s o/\YS X ds s o fun l=>farL l=true/\Jts X ds ops E I (s.put o.dst l)
  | none=>False
def J6a (ops:Array Oper) (k:Nat):List Nat->Array Bool->Bool
 | [],_=>true
 | i :: I,listed=>(Region.ready .any ops listed).contains i && (Region.free .any ops listed i && (decide (i<k) && ((match ops[i]? with | some o=>Jwf o | none=>false) && ((List.range ops.size).all (fun j=>decide (j<k) || (ancB .any ops ops.size i j || match ops[j]? with | some o=>Jv5 o || Jwk o | none=>false)) && J6a ops k I (listed.setIfInBounds i true)))))
theorem Jwo {ds:List (Option Tmp)} {os:List Oper} {E E':St->Prop} (hE:∀ s,E s->E' s):∀ (I:List Nat) (s:St),Jts X ds os E I s->Jts X ds os E' I s
 | [],s,h=>hE s h
 | i :: I,s,h=>by
  simp only[Jts] at h ⊢;split
  ·rename_i o ho;rw[ho] at h;exact ⟨h.1,Kr (fun l hl=>⟨hl.1,Jwo hE I _ hl.2⟩) h.2⟩
  ·rename_i ho;rw[ho] at h;exact h
end
section
variable {X:Cx} {ds:List (Option Tmp)} {t:List L} {r:Regs} {E:St->Prop} {dst:Option Tmp} {ty:TypeId} {ps:String} {af:Array Edge} {g:Option (Nat×Bool)}
def YVar (X:Cx) (ds:List (Option Tmp)) (ops:List Oper) (i:Nat) (C:St->Prop) (s:St):Prop:=match ops[i]? with
 | some o=>Jta s o/\YS X ds s o fun l=>farL l=true/\C (s.put o.dst l)
 | none=>False
def kfar (dst:Option Tmp) (C:St->Prop) (s:St) (l:L):Prop:=farL l=true/\C (s.put dst l)
theorem Kg3 {ops:List Oper}:Jts X ds ops E [] ⟨t,r⟩=E ⟨t,r⟩:=(rfl)
theorem v_take {ops:List Oper} {i:Nat} {I:List Nat}:Jts X ds ops E (i :: I) ⟨t,r⟩=YVar X ds ops i (Jts X ds ops E I) ⟨t,r⟩:=(rfl)
theorem v_at0 {o:Oper} {ops:List Oper}:YVar X ds (o :: ops) 0 E ⟨t,r⟩=(Jta ⟨t,r⟩ o/\YS X ds ⟨t,r⟩ o (kfar o.dst E ⟨t,r⟩)):=(rfl)
theorem v_atS {o:Oper} {ops:List Oper} {i:Nat}:YVar X ds (o :: ops) (i+1) E ⟨t,r⟩=YVar X ds ops i E ⟨t,r⟩:=(rfl)
theorem v_kp {x:PV}:kfar dst E ⟨t,r⟩ (.p x)=kput dst E ⟨t,r⟩ (.p x):=by simp[kfar,farL,kput]
theorem v_ke {cs:List PV}:kfar dst E ⟨t,r⟩ (.eptr cs)=kput dst E ⟨t,r⟩ (.eptr cs):=by simp[kfar,farL,kput]
theorem v_fp {x:PV}:(farL (.p x)=true)=True:=by simp[farL]
theorem v_fe {cs:List PV}:(farL (.eptr cs)=true)=True:=by simp[farL]
theorem v_move {x:Operand}:Jta ⟨t,r⟩ ⟨dst,.move x,ty,ps,af,g⟩=(farL ((St.mk t r).get x)=true):=by simp[Jta,Op.operands]
theorem v_ia {T:TypeId} {x y:Operand}:Jta ⟨t,r⟩ ⟨dst,.indexAddr T x y,ty,ps,af,g⟩=(farL ((St.mk t r).get x)=true/\farL ((St.mk t r).get y)=true):=by simp[Jta,Op.operands]
theorem v_ld {T:TypeId} {x:Operand}:Jta ⟨t,r⟩ ⟨dst,.load T x,ty,ps,af,g⟩=(farL ((St.mk t r).get x)=true):=by simp[Jta,Op.operands]
theorem v_bin {T U:TypeId} {x y:Operand} {b:BinOp}:Jta ⟨t,r⟩ ⟨dst,.binOp b T x y U,ty,ps,af,g⟩=(farL ((St.mk t r).get x)=true/\farL ((St.mk t r).get y)=true):=by simp[Jta,Op.operands]
def callQ (X:Cx) (args:List L) (C:L->Prop) (l:L):Prop:=match l with
 | .fn g []=>Bi X g args C
 | .p (.clo g ps)=>Bi X g (args ++ [.eptr ps]) C
 | _=>False
theorem Khb {n:Tmp} {args:Array Operand} {ats:Array TypeId} {C:L->Prop}:lqc X ⟨t,r⟩ ⟨dst,.call { callee:=.value (.tmp n),args:=args,argTypes:=ats },ty,ps,af,g⟩ C=callQ X (args.toList.map (St.mk t r).get) C ((St.mk t r).get (.tmp n)):=(rfl)
theorem Khf {f:FuncId} {args:List L} {C:L->Prop} {cs:List PV}:callQ X args C (.p (.clo f cs))=Bi X f (args ++ [.eptr cs]) C:=(rfl)
attribute [go_sem] Khb Khf Kg3 v_take v_at0 v_atS v_kp v_ke v_fp v_fe v_move v_ia v_ld v_bin
end
section
variable {X:Cx} {ro:Option Nat} {md:Region.Mode} {ops:Array Oper}
def J0v (X:Cx) (md:Region.Mode) (ops:Array Oper) (q:Nat->Bool) (K:St->Prop):Nat->Array Bool->St->Prop
 | 0,listed,s=>Region.ready md ops listed=[]/\K s
 | fuel+1,listed,s=>(Region.ready md ops listed=[]->K s) /\
  ∀
   i∈Region.ready md ops listed,∀ o,ops[i]? = some o ->
   (q i=true->YS X (ops.toList.map (·.dst)) s o fun l=>J0v X md ops q K fuel (listed.setIfInBounds i true) (s.put o.dst l)) /\
   (q i=false->∃ C:St->Prop,lAt X (ops.toList.map (·.dst)) ops.toList i C s/\∀ s',C s'->J0v X md ops q K fuel (listed.setIfInBounds i true) s')
theorem Jul {Γ:Base} {q:Nat->Bool} {K:St->Prop} {Q:Exit->Act->World->Prop} {n:Nat} (hG:Γ.G=X.G) (hQ:∀ s a w,K s->RR Γ s a w->Q .normal a w):∀ (fuel:Nat) (listed:Array Bool) (s:St) (a:Act) (w:World),RR Γ s a w ->
  J0v X md ops q K fuel listed s->wpAnyIn (F0 ro) n X.P md ops Q fuel listed a w
 | 0,_,s,a,w,h,hl=>⟨hl.1,hQ s a w hl.2 h⟩
 | fuel+1,_,s,a,w,h,hl=>⟨fun h0=>hQ s a w (hl.1 h0) h,fun i hi=>by
   obtain ⟨_,o,ho,_⟩:=mem_ready.1 hi;cases hk:q i with
   | true =>
    exact Zy ho hG h ((hl.2 i hi o ho).1 hk) fun l a' w' h1 h2=>Jul hG hQ fuel _ _ a' w' h2 h1
   | false =>
    obtain ⟨C,hA,hC⟩:=(hl.2 i hi o ho).2 hk;exact wpOpIn_mono (fun a' w' ⟨s',hs,hr'⟩=>Jul hG hQ fuel _ s' a' w' hr' (hC s' hs)) (Uc hG h hA)⟩
def takeQ (md:Region.Mode) (ops:Array Oper) (q:Nat->Bool):List Nat->Array Bool->Bool
 | [],_=>true
 | i :: I,listed=>(Region.ready md ops listed).contains i && (Region.free md ops listed i && (q i && ((List.range ops.size).all (fun j=>q j || ancB md ops ops.size i j) && takeQ md ops q I (listed.setIfInBounds i true))))
def Jse (X:Cx) (ds:List (Option Tmp)) (ops:List Oper) (q:Nat->Bool) (K:St->Prop):Ord->St->Prop
 | .leaf,s=>K s
 | .nil,_=>True
 | .bad,_=>False
 | .node i sub next,s=>(if q i=true then YSAt X ds ops i (Jse X ds ops q K sub) s else lAt X ds ops i (Jse X ds ops q K sub) s)/\Jse X ds ops q K next s
theorem J1y {q:Nat->Bool} {K:St->Prop} {f:Nat} {listed:Array Bool} {s:St}:∀ (is:List Nat),Jse X (ops.toList.map (·.dst)) ops.toList q K (is.foldr (fun i acc=>.node i (P6 ops f (listed.setIfInBounds i true)) acc) .nil) s ->
  ∀ i∈is,(if q i=true then YSAt X (ops.toList.map (·.dst)) ops.toList i (Jse X (ops.toList.map (·.dst)) ops.toList q K (P6 ops f (listed.setIfInBounds i true))) s else lAt X (ops.toList.map (·.dst)) ops.toList i (Jse X (ops.toList.map (·.dst)) ops.toList q K (P6 ops f (listed.setIfInBounds i true))) s)
 | [],_,i,hi=>by cases hi
 | j :: is,h,i,hi=>by
  simp only[List.foldr_cons,Jse] at h;rcases Eak.1 hi with rfl | hi
  ·exact h.1
  ·exact J1y is h.2 i hi
theorem Jv6 {q:Nat->Bool} {K:St->Prop}:∀ (f:Nat) (listed:Array Bool) (s:St),Jse X (ops.toList.map (·.dst)) ops.toList q K (P6 ops f listed) s->J0v X .any ops q K f listed s
 | 0,listed,s,h=>by
  unfold P6 at h;split at h
  ·rename_i h0;exact ⟨h0,h⟩
  ·exact h.elim
 | f+1,listed,s,h=>by
  unfold P6 at h;split at h
  ·rename_i h0;exact ⟨fun _=>h,fun i hi=>by rw[h0] at hi;cases hi⟩
  ·rename_i h0;refine ⟨fun h1=>absurd h1 h0,fun i hi o ho=>?_⟩;have:=J1y _ h i hi;refine ⟨fun hk=>?_,fun hk=>?_⟩
   ·rw[if_pos hk] at this;unfold YSAt at this;rw[Ecl,ho] at this;exact Kr (fun l hl=>Jv6 f _ _ hl) this
   ·rw[if_neg (by rw[hk];decide)] at this;exact ⟨_,this,fun s' hs=>Jv6 f _ _ hs⟩
end
def qi (k a b i:Nat):Bool:=decide (i<k) || (!decide (i<a) && decide (i<b))
section
variable {X:Cx} {ds:List (Option Tmp)} {t:List L} {r:Regs} {E:St->Prop}
theorem z_leaf {ops:List Oper} {q:Nat->Bool}:Jse X ds ops q E .leaf ⟨t,r⟩=E ⟨t,r⟩:=(rfl)
theorem z_nil {ops:List Oper} {q:Nat->Bool}:Jse X ds ops q E .nil ⟨t,r⟩=True:=(rfl)
theorem z_node {ops:List Oper} {k a b i:Nat} {sub next:Ord}:Jse X ds ops (qi k a b) E (.node i sub next) ⟨t,r⟩=((if i<k then YSAt X ds ops i (Jse X ds ops (qi k a b) E sub) ⟨t,r⟩ else if i<a then lAt X ds ops i (Jse X ds ops (qi k a b) E sub) ⟨t,r⟩ else if i<b then YSAt X ds ops i (Jse X ds ops (qi k a b) E sub) ⟨t,r⟩ else lAt X ds ops i (Jse X ds ops (qi k a b) E sub) ⟨t,r⟩)/\Jse X ds ops (qi k a b) E next ⟨t,r⟩):=by
 rw[Jse];by_cases h1:i<k
 ·rw[if_pos (by simp[qi,h1]),if_pos h1]
 ·rw[if_neg h1];by_cases h2:i<a
  ·rw[if_neg (by simp[qi,h1,h2]),if_pos h2]
  ·rw[if_neg h2];by_cases h3:i<b
   ·rw[if_pos (by simp[qi,h2,h3]),if_pos h3]
   ·rw[if_neg (by simp[qi,h1,h3]),if_neg h3]
def qj (a b c e i:Nat):Bool:=(!decide (i<a) && decide (i<b)) || (!decide (i<c) && decide (i<e))
theorem Kga {ops:List Oper} {a b c e i:Nat} {sub next:Ord} (h1:a<=b) (h2:b<=c):Jse X ds ops (qj a b c e) E (.node i sub next) ⟨t,r⟩=((if i<a then lAt X ds ops i (Jse X ds ops (qj a b c e) E sub) ⟨t,r⟩ else if i<b then YSAt X ds ops i (Jse X ds ops (qj a b c e) E sub) ⟨t,r⟩ else if i<c then lAt X ds ops i (Jse X ds ops (qj a b c e) E sub) ⟨t,r⟩ else if i<e then YSAt X ds ops i (Jse X ds ops (qj a b c e) E sub) ⟨t,r⟩ else lAt X ds ops i (Jse X ds ops (qj a b c e) E sub) ⟨t,r⟩)/\Jse X ds ops (qj a b c e) E next ⟨t,r⟩):=by
 rw[Jse];by_cases q1:i<a
 ·have h3:i<c:=by omega
  rw[if_neg (by simp[qj,q1,h3]),if_pos q1]
 ·rw[if_neg q1];by_cases q2:i<b
  ·rw[if_pos (by simp[qj,q1,q2]),if_pos q2]
  ·rw[if_neg q2];by_cases q3:i<c
   ·rw[if_neg (by simp[qj,q2,q3]),if_pos q3]
   ·rw[if_neg q3];by_cases q4:i<e
    ·rw[if_pos (by simp[qj,q3,q4]),if_pos q4]
    ·rw[if_neg (by simp[qj,q2,q4]),if_neg q4]
attribute [go_sem] z_leaf z_nil z_node Kga
end
section
variable {X:Cx} {ro:Option Nat} {ops:Array Oper}
def Kgl (o:Oper):Bool:=o.guard.isNone && match o.op,o.dst with
 | .buildSlice _ 0 parts,some _=>parts.toList.isEmpty
 | _,_=>false
def Jws (o:Oper):Bool:=Jwf o || (o.guard.isNone && match o.op with
 | .slice ..=>true
 | .call { callee:=.builtin .len,.. }=>true
 | .extract ..=>true
 | _=>false)
theorem Kc2 {ds:List (Option Tmp)} {s:St} {o:Oper} {K:L->Prop} (h:Jws o=true):YS X ds s o K=lq X.P s.regs s.get o.op K:=by
 unfold Jws at h;rw[Ecf] at h;rcases h with h | h
 ·exact J2t h
 ·obtain ⟨dst,op,ty,ps,af,g⟩:=o;cases g with
  | some g=>simp at h
  | none =>
   unfold YS lqc;cases op with
   | call c =>
    obtain ⟨callee,args,ts⟩:=c;cases callee with
    | builtin b=>rfl
    | value f=>simp at h
    | _=>first|rfl | (simp at h)
   | _=>first|rfl | (simp at h)
def takeAQ (ops:Array Oper) (q:Nat->Bool):List Nat->Array Bool->Bool
 | [],_=>true
 | i :: I,listed=>(Region.ready .any ops listed).contains i && (Region.free .any ops listed i && (q i && ((match ops[i]? with | some o=>Jws o | none=>false) && ((List.range ops.size).all (fun j=>q j || (ancB .any ops ops.size i j || match ops[j]? with | some o=>Kgl o | none=>false)) && takeAQ ops q I (listed.setIfInBounds i true)))))
end
section
variable {X:Cx} {r:Regs} {t:List L} {dst:Option Tmp} {ty:TypeId} {ps:String} {af:Array Edge} {g:Option (Nat×Bool)}
def farB (s:St):Option Operand->Prop
 | some x=>farL (s.get x)=true
 | none=>True
theorem Kg5 {T:TypeId} {x:Operand} {lo hi mx:Option Operand}:Jta ⟨t,r⟩ ⟨dst,.slice T x lo hi mx,ty,ps,af,g⟩=(farL ((St.mk t r).get x)=true/\farB ⟨t,r⟩ lo/\farB ⟨t,r⟩ hi/\farB ⟨t,r⟩ mx):=by
 cases lo<;>cases hi<;>cases mx<;>simp[Jta,Op.operands,farB]
theorem v_bN:farB ⟨t,r⟩ none=True:=(rfl)
theorem v_bS {x:Operand}:farB ⟨t,r⟩ (some x)=(farL ((St.mk t r).get x)=true):=(rfl)
attribute [go_sem] Kg5 v_bN v_bS
end
section
variable {X:Cx} {ro:Option Nat} {ops:Array Oper}
theorem J9k {s:St} {d:Nat} {dst:Option Tmp} {v:L} (hv:farL v=true):(s.put dst v).forget d=(s.forget d).put dst v:=by
 cases dst with
 | none=>rfl
 | some x=>simp only[St.put,St.forget,Edt,Jwa hv]
theorem J1z {s:St} {d:Nat} {y:Operand} (hf:farL (s.get y)=true):(s.forget d).get y=s.get y:=by
 cases y with
 | tmp i =>
  simp only[St.get,St.forget,Eaj,Eam] at hf ⊢;cases hi:s.tmps[i]? with
  | none=>rfl
  | some m =>
   rw[hi] at hf;simp only[Option.map_some,Option.getD_some] at hf ⊢;exact Jwa hf
 | _=>rfl
def Comm (X:Cx) (o:Oper):Prop:=∀ (s:St) (dst:Option Tmp) (v:L) (C:St->Prop),farL v=true->(∀ x,dst=some x->∀ y∈o.op.operands.toList,y≠.tmp x)->(∀ x d,dst=some x->o.dst=some d->x≠d)->lop X o C (s.put dst v) ->
 lop X o (fun s'=>C (s'.put dst v)/\∀ y,(∀ d,o.dst=some d->y≠.tmp d)->farL (s.get y)=true->s'.get y=s.get y) s
def isMk (kp:Nat->Bool) (o:Oper):Bool:=o.guard.isNone && match o.op,o.dst with
 | .buildSlice t _ parts,some _=>!kp t && decide (parts.toList.length<=1)
 | .makeSlice ..,some _=>true
 | .store ..,none=>true
 | .mapEntry ..,some _=>true
 | .entryStore ..,none=>true
 | .assign ..,some _=>true
 | .call { callee:=.builtin .append,args,argTypes },some _=>decide (args.toList.length=2) && (decide (argTypes.toList.length=2) && argTypes.toList.all fun t=>!kp t)
 | _,_=>false
theorem Jw5 {s:St} {xs:List Operand} {dst:Option Tmp} {v:L} (hl:xs.length<=1) (hv:farL v=true) (hx:∀ d,dst=some d->∀ x∈xs,x≠.tmp d):(s.put dst v).freezeOps xs=(s.freezeOps xs).put dst v:=by
 match xs,hl with
 | [],_=>rfl
 | [x],_=>exact Jxt hv fun d hd=>hx d hd x Eaf
theorem Jux {s:St} {xs:List Operand} {y:Operand} (hl:xs.length<=1) (hf:farL (s.get y)=true):(s.freezeOps xs).get y=s.get y:=by
 match xs,hl with
 | [],_=>rfl
 | [x],_=>exact Jxr hf
theorem Jwb {s:St} {d:Nat} {r:Reg} {l:L} {y:Operand} (hy:y≠.tmp d) (hf:farL (s.get y)=true):((s.newReg d r).put (some d) l).get y=s.get y:=J42 hy hf
theorem J7f {P:Program} {t:TypeId} {s:St} {a x:Operand} {K K':St->Prop} (hk:∀ s,K s->K' s) (h:Nv P t s a x K):Nv P t s a x K':=by
 unfold Nv at h ⊢;split at h
 ·split at h
  ·obtain ⟨xs,g1,g2,g3,g4,g5,hC⟩:=h;exact ⟨xs,g1,g2,g3,g4,g5,hk _ hC⟩
  ·obtain ⟨xs,g1,ps,g2,e,g3,g4,g5,g6,g7,g8,hC⟩:=h;exact ⟨xs,g1,ps,g2,e,g3,g4,g5,g6,g7,g8,hk _ hC⟩
  ·obtain ⟨xs,g1,e,g2,g3,g4,g5,hC⟩:=h;exact ⟨xs,g1,e,g2,g3,g4,g5,hk _ hC⟩
  ·exact h.elim
  ·exact h.elim
 ·exact h.elim
theorem Khc {o:Oper} (h:isMk X.keep o=true):Comm X o:=by
 intro s dst v C hv hop hne hl;obtain ⟨od,op,ty,ps,af,g⟩:=o;cases g with
 | some g=>simp[isMk] at h
 | none =>
 cases od with
 | none =>
  cases op with
  | store t a x =>
   have hox:∀ z,dst=some z->x≠.tmp z:=fun z hz=>hop z hz x (by simp[Op.operands])
   have hoa:∀ z,dst=some z->a≠.tmp z:=fun z hz=>hop z hz a (by simp[Op.operands])
   simp only[lop] at hl ⊢;exact J7f (fun s' ⟨h1,h2⟩=>⟨h1,fun y _ hf=>h2 y hf⟩) (J18 hv hoa hox hl)
  | entryStore t m e x =>
   have hox:∀ z,dst=some z->x≠.tmp z:=fun z hz=>hop z hz x (by simp[Op.operands])
   have hom:∀ z,dst=some z->m≠.tmp z:=fun z hz=>hop z hz m (by simp[Op.operands])
   have hoe:∀ z,dst=some z->e≠.tmp z:=fun z hz=>hop z hz e (by simp[Op.operands])
   have hops:∀ z,dst=some z->∀ y∈[x],y≠.tmp z:=fun z hz y hy=>by rw[Ea0.1 hy];exact hox z hz
   simp only[lop,Ju5] at hl ⊢;rw[Jw5 sm hv hops,Jmw hom,Jvg,Jmw hoe,Jmw hox] at hl;split at hl
   ·split at hl
    ·obtain ⟨g1,q,g2,hC⟩:=hl;refine ⟨g1,q,g2,?_,fun y hy hf=>(show ((s.freezeOps [x]).get y=s.get y) from Jux (xs:=[x]) (Eah 1) hf)⟩;rw[Jwz] at hC;exact hC
    ·exact hl.elim
   ·exact hl.elim
  | _=>simp[isMk] at h
 | some d =>
 have hne':∀ x,dst=some x->x≠d:=fun x hx=>hne x d hx rfl
 cases op with
 | assign x =>
  have hox:∀ z,dst=some z->x≠.tmp z:=fun z hz=>hop z hz x (by simp[Op.operands])
  simp only[lop,lq,kput] at hl ⊢;rw[Jmw hox] at hl;refine ⟨?_,fun y hy hf=>Jmw (fun d' h1=>hy d' h1)⟩;rw[Js0 _ _ _ (fun d' h1 h2=>hne' d' h2 (Ebd h1).symm)];exact hl
 | buildSlice T n parts =>
  obtain ⟨hk,hp⟩:X.keep T=false/\parts.toList.length<=1:=by simpa[isMk] using h
  have hk:¬ X.keep T=true:=by rw[hk];decide
  have hp':(parts.toList.map (·.2)).length<=1:=by simpa using hp
  have hops:∀ x,dst=some x->∀ y∈parts.toList.map (·.2),y≠.tmp x:=fun x hx y hy=>hop x hx y (by
   obtain ⟨q,hq,rfl⟩:=Eap.1 hy;simp[Op.operands];exact ⟨q.1,by simpa using hq⟩)
  simp only[lop] at hl ⊢;rw[if_neg hk] at hl ⊢;simp only[Fo] at hl ⊢;rw[Jw5 hp' hv hops] at hl;have hmap:(parts.toList.map fun x=>(x.1,((s.freezeOps (parts.toList.map (·.2))).put dst v).get x.2))=parts.toList.map fun x=>(x.1,(s.freezeOps (parts.toList.map (·.2))).get x.2):=Ebp fun q hq=>by
   rw[Jmw fun x hx=>hops x hx q.2 (Eap.2 ⟨q,hq,rfl⟩)]
  rw[hmap] at hl;obtain ⟨h1,h2,hl⟩:=hl;refine ⟨h1,h2,?_⟩;cases hse:slE X.P T with
  | none=>rw[hse] at hl;exact hl.elim
  | some es =>
   rw[hse] at hl;obtain ⟨g1,g2,g3,g4,es,g5,hC⟩:=hl;refine ⟨g1,g2,g3,g4,es,g5,?_,fun y hy hf=>?_⟩
   ·rw[Ju0 hv hne'];exact hC
   ·rw[Jwb (hy d rfl) (by rw[Jux hp' hf];exact hf),Jux hp' hf]
 | mapEntry T m k =>
  have hom:∀ z,dst=some z->m≠.tmp z:=fun z hz=>hop z hz m (by simp[Op.operands])
  have hok:∀ z,dst=some z->k≠.tmp z:=fun z hz=>hop z hz k (by simp[Op.operands])
  simp only[lop,Jxc] at hl ⊢;rw[Jmw hom,Jmw hok,Jvg] at hl;split at hl
  ·split at hl
   ·obtain ⟨g1,j,x,g2,hC⟩:=hl;refine ⟨g1,j,x,g2,fun n=>⟨?_,fun y hy hf=>?_⟩⟩
    ·have:=hC n;rw[Jwz] at this;simp only[kput] at this ⊢;rw[Js0 _ _ _ (fun d' h1 h2=>by cases h1;exact hne' d h2 rfl)];exact this
    ·rw[Jmw (fun d' h1=>hy d' h1)];cases y<;>rfl
   ·exact hl.elim
  ·exact hl.elim
 | makeSlice T l c =>
  have hol:∀ z,dst=some z->l≠.tmp z:=fun z hz=>hop z hz l (by simp[Op.operands])
  have hoc:∀ z,dst=some z->c≠.tmp z:=fun z hz=>hop z hz c (by simp[Op.operands])
  simp only[lop,Gl] at hl ⊢;rw[Jmw hol,Jmw hoc] at hl;obtain ⟨h1,hl⟩:=hl;refine ⟨h1,?_⟩;split at hl
  ·obtain ⟨g1,g2,g3,g4,zs,g5,g6,hC⟩:=hl;refine ⟨g1,g2,g3,g4,zs,g5,g6,?_,fun y hy hf=>?_⟩
   ·rw[Ju0 hv hne'];exact hC
   ·rw[Jwb (hy d rfl) hf]
  ·exact hl.elim
 | call c =>
  obtain ⟨callee,args,ts⟩:=c;cases callee with
  | builtin b =>
   cases b with
   | append =>
    simp only[isMk,Ebb,decide_eq_true_eq] at h;obtain ⟨_,ha,ht,hkk⟩:=h;obtain ⟨x,y,hxy⟩:∃ x y,args.toList=[x,y]:=by
     match hq:args.toList,ha with
     | [x,y],_=>exact ⟨x,y,rfl⟩
    obtain ⟨t,t',htt⟩:∃ t t',ts.toList=[t,t']:=by
     match hq:ts.toList,ht with
     | [x,y],_=>exact ⟨x,y,rfl⟩
    have hmx:x∈args.toList:=by rw[hxy];exact Eaf
    have hmy:y∈args.toList:=by rw[hxy];simp
    have hox:∀ z,dst=some z->x≠.tmp z:=fun z hz=>hop z hz x (by simpa[Op.operands,Call.operands] using hmx)
    have hoy:∀ z,dst=some z->y≠.tmp z:=fun z hz=>hop z hz y (by simpa[Op.operands,Call.operands] using hmy)
    have hk:¬ X.keep t=true:=by
     have:=Eby.1 hkk t (by rw[htt];exact Eaf);intro e;rw[e] at this;cases this
    simp only[lop,hxy,htt] at hl ⊢;rw[if_neg hk] at hl ⊢;simp only[Kk] at hl ⊢;rw[Jmw hoy] at hl;have key:∀ {A:Prop},Qe X.P d t t' (s.put dst v) x y C->Qe X.P d t t' s x y (fun s'=>C (s'.put dst v)/\∀ y,(∀ d',some d=some d'->y≠.tmp d')->farL (s.get y)=true->s'.get y=s.get y):=by
     intro _ hl;unfold Qe at hl ⊢;obtain ⟨h1,hl⟩:=hl;refine ⟨h1,?_⟩;cases hse:slE X.P t with
     | none=>rw[hse] at hl;exact hl.elim
     | some es =>
      rw[hse] at hl;obtain ⟨g1,es',g2,g3,hl⟩:=hl;refine ⟨g1,es',?_,g3,?_⟩
      ·rw[Jmw hoy] at g2;have:∀ (l:L),Gp X.P t t' es.1 (s.put dst v) l=Gp X.P t t' es.1 s l:=fun l=>by cases dst<;>rfl
       rw[this] at g2;exact g2
      ·rw[Jmw hox,Jvg] at hl;split at hl
       ·rename_i d0 n hd0;split at hl
        ·obtain ⟨k1,k2,k3,k4,k5,hC⟩:=hl;refine ⟨k1,k2,k3,k4,k5,?_,fun z hz hf=>?_⟩
         ·rw[Ju0 hv hne',<- J9k hv];exact hC
         ·rw[Jwb (hz d rfl) (by rw[J1z hf];exact hf),J1z hf]
        ·obtain ⟨k1,k2,k3,p1,p2,p3,ps,p4,p5,p6,hC⟩:=hl;refine ⟨k1,k2,k3,p1,p2,p3,ps,p4,p5,p6,?_,fun z hz hf=>?_⟩
         ·rw[Ju0 hv hne'];exact hC
         ·rw[Jwb (hz d rfl) hf]
        ·exact hl.elim
       ·obtain ⟨k1,k2,hC⟩:=hl;refine ⟨k1,k2,?_,fun z hz hf=>?_⟩
        ·rw[Ju0 hv hne'];exact hC
        ·rw[Jwb (hz d rfl) hf]
       ·exact hl.elim
    split at hl
    ·rename_i k m hm;obtain ⟨h1,hl⟩:=hl;refine ⟨h1,?_⟩;cases hse:slE X.P t with
     | none=>rw[hse] at hl;exact hl.elim
     | some es =>
      rw[hse] at hl;rw[Jmw hox] at hl;simp only[Yk] at hl ⊢;obtain ⟨g1,g2,zs,g3,hl⟩:=hl;refine ⟨g1,g2,zs,g3,?_⟩;rw[Jvg] at hl;split at hl
      ·obtain ⟨k1,k2,hl⟩:=hl;refine ⟨k1,k2,?_⟩;split at hl
       ·obtain ⟨k3,k4,p1,p2,p3,ps,p4,p5,p6,hC⟩:=hl;refine ⟨k3,k4,p1,p2,p3,ps,p4,p5,p6,?_,fun z hz hf=>?_⟩
        ·rw[Ju0 hv hne'];exact hC
        ·rw[Jwb (hz d rfl) hf]
       ·exact hl.elim
      ·obtain ⟨k1,k2,k3,hC⟩:=hl;refine ⟨k1,k2,k3,?_,fun z hz hf=>?_⟩
       ·rw[Ju0 hv hne'];exact hC
       ·rw[Jwb (hz d rfl) hf]
      ·exact hl.elim
    ·exact key (A:=True) hl
   | _=>simp[isMk] at h
  | _=>simp[isMk] at h
 | _=>simp[isMk] at h
theorem Kf0 {kp:Nat->Bool} {o:Oper} (h:isMk kp o=true):o.guard=none:=by
 cases hg:o.guard with
 | none=>rfl
 | some g=>simp[isMk,hg] at h
theorem J7w {q:Nat->Bool} {K:St->Prop} {i:Nat} {oi:Oper} {v:L} (hi:ops[i]? = some oi) (hik:q i=true) (hp:Jws oi=true) (hv:farL v=true) (hA:∀ j oj,q j=false->ops[j]? = some oj->ancB .any ops ops.size i j=true\/isMk X.keep oj=true):∀ (fuel:Nat) (listed:Array Bool) (s:St),Down .any ops listed->Jta s oi ->
   (∀ j oj,ops[j]? = some oj->j≠i->listed.getD j true=false->(∀ e∈oj.after,Region.binds .any e=true->e.on≠i)->oi.apart ops oj=true) ->
   i∈Region.ready .any ops listed->YS X (ops.toList.map (·.dst)) s oi (fun m=>m=v) ->
   J0v X .any ops q K fuel (listed.setIfInBounds i true) (s.put oi.dst v)->J0v X .any ops q K (fuel+1) listed s:=by
 intro fuel
 induction fuel with
 | zero =>
  intro listed s hd _ _ hr hy H;have only:∀ j∈Region.ready .any ops listed,j=i:=by
   intro j hj;by_cases hji:j=i
   ·exact hji
   ·have:=ready_mono hj hji;rw[H.1] at this;cases this
  refine ⟨fun h=>(by rw[h] at hr;cases hr),fun j hj oj hoj=>?_⟩;have:=only j hj;subst this;rw[hi] at hoj;cases hoj;exact ⟨fun _=>Kr (fun l hl=>by rw[hl];exact H) hy,fun h=>by rw[hik] at h;cases h⟩
 | succ fuel ih =>
  intro listed s hd hfar hfree hr hy H;refine ⟨fun h=>(by rw[h] at hr;cases hr),fun j hj oj hoj=>?_⟩;by_cases hji:j=i
  ·subst hji;rw[hi] at hoj;cases hoj;exact ⟨fun _=>Kr (fun l hl=>by rw[hl];exact H) hy,fun h=>by rw[hik] at h;cases h⟩
  ·obtain ⟨hjun,oj',hoj',hall⟩:=mem_ready.1 hj;rw[hoj] at hoj';cases hoj';have hnot:∀ e∈oj.after,Region.binds .any e=true->e.on≠i:=fun e he hb heq=>by
    have h1:=hall e he hb;have h0:=(Hn.1 (mem_ready.1 hr).1).2;rw[heq] at h1;rw[h1] at h0;cases h0
   obtain ⟨a1,a2,a3⟩:=Oper.apart_spec (hfree j oj hoj hji hjun hnot);have hfree':∀ z ok,ops[z]? = some ok->z≠i->(listed.setIfInBounds j true).getD z true=false ->
     (∀ e∈ok.after,Region.binds .any e=true->e.on≠i)->oi.apart ops ok=true:=fun z ok hk hki hun hno=>by
    refine hfree z ok hk hki ?_ hno;by_cases hjk:j=z
    ·subst hjk;exact hjun
    ·rw[getD_set_ne true hjk] at hun;exact hun
   have hop:∀ d,oj.dst=some d->∀ x∈oi.op.operands.toList,x≠.tmp d:=fun d hd x hx hxd=>a3 d hd (by
    subst hxd;exact Eb9 _ (List.mem_filterMap.2 ⟨.tmp d,by simpa using hx,rfl⟩))
   refine ⟨fun hjk=>?_,fun hkj=>?_⟩
   ·have h1:=(H.2 j (ready_mono hj hji) oj hoj).1 hjk;refine Kr (fun l hl=>?_) (Yr a1 h1);refine ih (listed.setIfInBounds j true) (s.put oj.dst l) (hd.set hj) (fun x hx=>?_) hfree' (ready_mono hr (Ne.symm hji)) (Uk a3 hy) ?_
    ·rw[Jmw (fun d hd=>hop d hd x hx)];exact hfar x hx
    ·rw[Array.setIfInBounds_comm _ _ hji];rw[<- Js0 s v l a2];exact hl
   ·have hal:isMk X.keep oj=true:=by
     rcases hA j oj hkj hoj with h | h
     ·exfalso;have h1:=Qb hd _ i j oj hoj hall h;have h2:=(Hn.1 (mem_ready.1 hr).1).2;rw[h1] at h2;cases h2
     ·exact h
    obtain ⟨C,h1,h2⟩:=(H.2 j (ready_mono hj hji) oj hoj).2 hkj;have hg:=Kf0 hal;unfold lAt at h1;rw[Ecl,hoj] at h1;simp only[hg,F4] at h1;have hc:=Khc hal s oi.dst v C hv (fun x hx y hy hxy=>a1 x hx (by
     subst hxy;exact Eb9 _ (List.mem_filterMap.2 ⟨.tmp x,by simpa using hy,rfl⟩))) (fun x d hx hd e=>a2 x hx (by rw[hd,e])) h1
    refine ⟨fun s'=>C (s'.put oi.dst v)/\∀ y,(∀ d,oj.dst=some d->y≠.tmp d)->farL (s.get y)=true->s'.get y=s.get y,?_,?_⟩
    ·unfold lAt;rw[Ecl,hoj];simp only[hg,F4];exact hc
    ·rintro s' ⟨hC,hS⟩;have hgx:∀ x∈oi.op.operands.toList,s'.get x=s.get x:=fun x hx=>hS x (fun d hd=>hop d hd x hx) (hfar x hx)
     refine ih (listed.setIfInBounds j true) s' (hd.set hj) (fun x hx=>by rw[hgx x hx];exact hfar x hx) hfree' (ready_mono hr (Ne.symm hji)) ?_ ?_
     ·rw[Kc2 hp] at hy ⊢;exact J9w (fun x hx=>by rw[hgx x hx];exact hfar x hx) (Jj8 hgx hy)
     ·rw[Array.setIfInBounds_comm _ _ hji];exact h2 _ hC
def J5n (kp:Nat->Bool) (ops:Array Oper) (q:Nat->Bool):List Nat->Array Bool->Bool
 | [],_=>true
 | i :: I,listed=>(Region.ready .any ops listed).contains i && (Region.free .any ops listed i && (q i && ((match ops[i]? with | some o=>Jws o | none=>false) && ((List.range ops.size).all (fun j=>q j || (ancB .any ops ops.size i j || match ops[j]? with | some o=>isMk kp o | none=>false)) && J5n kp ops q I (listed.setIfInBounds i true)))))
theorem Jy5 {q:Nat->Bool} {K:St->Prop} {fuel:Nat}:∀ (I:List Nat) (listed:Array Bool) (s:St),J5n X.keep ops q I listed=true->Down .any ops listed ->
  Jts X (ops.toList.map (·.dst)) ops.toList (J0v X .any ops q K fuel (J2r I listed)) I s->J0v X .any ops q K (fuel+I.length) listed s
 | [],listed,s,_,_,h=>h
 | i :: I,listed,s,hB,hd,h=>by
  simp only[J5n,Ebb,List.contains_eq_mem,decide_eq_true_eq] at hB;obtain ⟨h1,h2,h3,hp,h4,h5⟩:=hB;obtain ⟨_,oi,hoi,_⟩:=mem_ready.1 h1;rw[hoi] at hp;simp only[Jts] at h;rw[Ecl,hoi] at h;obtain ⟨hf,h⟩:=h;obtain ⟨v,hy,hv,hK⟩:=Jab (X:=X) h;refine J7w hoi h3 hp hv (fun j oj hj hoj=>?_) (fuel+I.length) listed s hd hf (Region.free_spec hoi h2) h1 hy (Jy5 I _ _ h5 (hd.set h1) hK);have:=Eby.1 h4 j (List.mem_range.2 (Ea7.1 hoj).1);rw[Ecf,hoj,Ecf] at this;rcases this with h | h | h
  ·rw[hj] at h;cases h
  ·exact .inl h
  ·exact .inr h
theorem J1j {id:Nat} {Q:Ex->St->Prop} {s:St} (q:Nat->Bool) (I:List Nat) (T:Ord) (f:Nat) (hm:X.P.follows .mixedOrders=true) (hf:f+I.length=ops.size) (hB:J5n X.keep ops q I (Array.replicate ops.size false)=true) (hT:P6 ops f (J2r I (Array.replicate ops.size false))=T)
  (h:Jts X (ops.toList.map (·.dst)) ops.toList (Jse X (ops.toList.map (·.dst)) ops.toList q (Q .normal) T) I s):SWP X ro (.region id ops true) Q s:=fun Γ a w hG hr=>by
 have h':RR Γ s a { w with drawn:=w.drawn+1 }:=by
  obtain ⟨ms,hdef,β,Im,hx⟩:=hr;exact ⟨ms,hdef,β,Im,hx.grow (Grow.drew hx.fit.im)⟩
 refine wpIn_region_any hm (Jul (q:=q) (K:=Q .normal) hG.1 (fun s _ _ h1 h2=>⟨s,h1,h2⟩) _ _ s a _ h' ?_);have hd:Down .any ops (Array.replicate ops.size false):=by
  intro i o ho hl;exfalso;have hi:=(Ea7.1 ho).1;simp[Eav,hi] at hl
 have:=Jy5 (X:=X) (K:=Q .normal) (fuel:=f) I (Array.replicate ops.size false) s hB hd ?_
 ·rw[hf] at this;exact this
 ·subst hT;exact Jwo (fun s hs=>Jv6 f _ s hs) I s h
end
end Go.LX
namespace Go.LX
open Go Go.RowKit Go.Proofs Go.Proofs.Tryz
attribute [local irreducible] Al SWP Bi
theorem Jag (a:L):Ag cx 265 [a] a:=by
 intro β Im w vs hl ha
 match vs,hl with
 | [v],_ =>
  refine ⟨v,?_,ha 0 v a rfl rfl⟩;show (callFunc 265 #[v]).run Tryz.prog w=_;rw[run_callFunc_extern func265 kr kr kr (e:=Extern.AbiNoEscape.same) kr,Lib.run_noEscape];rfl
theorem f_lies:liesAt Tryz.prog Tryz.prog.depth 206 1 0 206 1=true:=kr
def bstr (s:List UInt8):List (List PV):=s.map fun c=>[.int .u8 c.toNat]
theorem Di (s:List UInt8):(bstr s).length=s.length:=by simp[bstr]
theorem Jhm (c:UInt8) (s:List UInt8):bstr (c :: s)=[.int .u8 c.toNat] :: bstr s:=(rfl)
theorem Gz (a b:List UInt8):bstr (a ++ b)=bstr a ++ bstr b:=by simp[bstr]
theorem X6 (a:List UInt8):∀ q∈bstr a,q.length=1:=by simp[bstr]
theorem Rz:∀ s:List UInt8,Cw (bstr s)=some s
 | []=>rfl
 | c :: s=>by
  rw[Jhm,My,Rz s];have:=c.toNat_lt;simp only[Rr];rw[if_pos omg];simp
theorem Ox {s:List UInt8} {C:List UInt8->Prop}:Bq (Cw (bstr s)) C=C s:=by rw[Rz,Q9]
theorem Jo4 (c:PV):(∀ q∈[[c]],q.length=1)=True:=by simp
theorem K8 (x:Int) (h0:0<=x) (h1:x<32):IntKind.u8.wrap (BitVec.ofInt (B0 .u8) 192 ||| BitVec.ofInt (B0 .u8) x).toNat=192+x:=by
 obtain ⟨n,rfl⟩:=Ecr h0;have:n<32:=by omega
 have key:∀ m:Fin 32,IntKind.u8.wrap (BitVec.ofInt (B0 .u8) 192 ||| BitVec.ofInt (B0 .u8) (m.val:Int)).toNat=192+(m.val:Int):=by decide
 exact key ⟨n,this⟩
theorem K5 (x:Int) (h0:0<=x) (h1:x<16):IntKind.u8.wrap (BitVec.ofInt (B0 .u8) 224 ||| BitVec.ofInt (B0 .u8) x).toNat=224+x:=by
 obtain ⟨n,rfl⟩:=Ecr h0;have key:∀ m:Fin 16,IntKind.u8.wrap (BitVec.ofInt (B0 .u8) 224 ||| BitVec.ofInt (B0 .u8) (m.val:Int)).toNat=224+(m.val:Int):=by decide
 exact key ⟨n,omg⟩
theorem La (x:Int) (h0:0<=x) (h1:x<8):IntKind.u8.wrap (BitVec.ofInt (B0 .u8) 240 ||| BitVec.ofInt (B0 .u8) x).toNat=240+x:=by
 obtain ⟨n,rfl⟩:=Ecr h0;have key:∀ m:Fin 8,IntKind.u8.wrap (BitVec.ofInt (B0 .u8) 240 ||| BitVec.ofInt (B0 .u8) (m.val:Int)).toNat=240+(m.val:Int):=by decide
 exact key ⟨n,omg⟩
theorem K0 (x:Int) (h0:0<=x) (h1:x<64):IntKind.u8.wrap (BitVec.ofInt (B0 .u8) 128 ||| BitVec.ofInt (B0 .u8) x).toNat=128+x:=by
 obtain ⟨n,rfl⟩:=Ecr h0;have key:∀ m:Fin 64,IntKind.u8.wrap (BitVec.ofInt (B0 .u8) 128 ||| BitVec.ofInt (B0 .u8) (m.val:Int)).toNat=128+(m.val:Int):=by decide
 exact key ⟨n,omg⟩
theorem K1 (x:Int) (h0:0<=x) (h1:x<256):IntKind.u8.wrap (BitVec.ofInt (B0 .u8) x &&& BitVec.ofInt (B0 .u8) 63).toNat=x % 64:=by
 obtain ⟨n,rfl⟩:=Ecr h0;have key:∀ m:Fin 256,IntKind.u8.wrap (BitVec.ofInt (B0 .u8) (m.val:Int) &&& BitVec.ofInt (B0 .u8) 63).toNat=(m.val:Int) % 64:=by decide
 exact key ⟨n,omg⟩
theorem fd6 (r:Int):r.fdiv (2 ^ min 6 (B0 .i32))=r / 64:=by
 rw[Ecs _ de];rfl
theorem fd12 (r:Int):r.fdiv (2 ^ min 12 (B0 .i32))=r / 4096:=by
 rw[Ecs _ de];rfl
theorem fd18 (r:Int):r.fdiv (2 ^ min 18 (B0 .i32))=r / 262144:=by
 rw[Ecs _ de];rfl
def utfC (r:Int):List Int :=
 if 0<=r/\r<128 then [r]
 else if 0<=r/\r<2048 then [192+r / 64,128+r % 64]
 else if (0<=r/\r<55296)\/(57343<r/\r<65536) then [224+r / 4096,128+r / 64 % 64,128+r % 64]
 else if 65536<=r/\r<=1114111 then [240+r / 262144,128+r / 4096 % 64,128+r / 64 % 64,128+r % 64]
 else [239,191,189]
theorem Nb {r:Int} (h:0<=r/\r<128):utfC r=[r]:=if_pos h
theorem Oc {r:Int} (h:128<=r/\r<2048):utfC r=[192+r / 64,128+r % 64]:=by unfold utfC;rw[if_neg omg,if_pos omg]
theorem Nd {r:Int} (h:(2048<=r/\r<55296)\/(57343<r/\r<65536)):utfC r=[224+r / 4096,128+r / 64 % 64,128+r % 64]:=by unfold utfC;rw[if_neg omg,if_neg omg,if_pos omg]
theorem Nk {r:Int} (h:65536<=r/\r<=1114111):utfC r=[240+r / 262144,128+r / 4096 % 64,128+r / 64 % 64,128+r % 64]:=by unfold utfC;rw[if_neg omg,if_neg omg,if_neg omg,if_pos omg]
theorem Wq {r:Int} (h:¬ (0<=r/\r<55296)/\¬ (57343<r/\r<=1114111)):utfC r=[239,191,189]:=by unfold utfC;rw[if_neg omg,if_neg omg,if_neg omg,if_neg omg]
def utf (r:Int):List UInt8:=(utfC r).map u8of
theorem Jnr (r:Int):∀ c∈utfC r,0<=c/\c<256:=by
 unfold utfC;split
 ·simp;omega
 split
 ·simp;omega
 split
 ·simp;omega
 split
 ·simp;omega
 ·simp
theorem B8 {c:Int} (h0:0<=c) (h1:c<256):((u8of c).toNat:Int)=c:=by
 unfold u8of;simp;omega
theorem Em (r:Int):bstr (utf r)=(utfC r).map fun c=>[PV.int .u8 c]:=by
 simp only[bstr,utf,Ebx];apply Ebp;intro c hc;obtain ⟨h0,h1⟩:=Jnr r c hc;simp[B8 h0 h1]
theorem D6 (r:Int):(utf r).length=(utfC r).length:=by simp[utf]
theorem Od (r:Int):(utf r).length<=4:=by
 rw[D6];unfold utfC
 repeat' split
 all_goals simp
theorem Cm:Det cx 244 [.ptr 1000 0 0] [(1000,.var 206 [.p .nptr,.p .snil])] (.tup []) [(1000,.var 206 [.ptr 1000 0 0,.p .snil])]:=by
 (refine bgo func244 ?_;simp only[go_sem,simprocAttr]);(repeat'(first|((refine J8b (Jag _) ?_);simp only[go_sem,simprocAttr])|fail));exact f_lies
theorem Ct (es:List (List PV)) (n:Nat):Det cx 244 [.ptr 1000 0 0] [(500001,.row 5 1 es),(1000,.var 206 [.ptr 1000 0 0,.own 500001 0 n])] (.tup []) [(500001,.row 5 1 es),(1000,.var 206 [.ptr 1000 0 0,.own 500001 0 n])]:=by
 (refine bgo func244 ?_;simp only[go_sem,simprocAttr])
theorem Hc (c:Int):Det cx 214 [.ptr 1000 0 0,.p (.int .u8 c)] [(1000,.var 206 [.p .nptr,.p .snil])] (.p .nifc) [(900,.row 5 1 [[.int .u8 c]]),(1000,.var 206 [.ptr 1000 0 0,.own 900 0 1])]:=by
 (refine bgoR false [(14,900)] func214 ?_;simp only[go_sem,simprocAttr]);(repeat'(first|((refine Jqa Cm ?_);simp only[go_sem,simprocAttr])|fail));simp
theorem Eb (c:Int) (es:List (List PV)) (n:Nat) (h:es.length=n) (hn:n<=1000000000):Det cx 214 [.ptr 1000 0 0,.p (.int .u8 c)] [(500001,.row 5 1 es),(1000,.var 206 [.ptr 1000 0 0,.own 500001 0 n])] (.p .nifc) [(500001,.row 5 1 (es ++ [[.int .u8 c]])),(1000,.var 206 [.ptr 1000 0 0,.own 500001 0 (n+1)])]:=by
 (refine bgoR false [(14,500001)] func214 ?_;simp only[go_sem,simprocAttr]);(repeat'(first|((refine Jqa (Ct _ _) ?_);simp only[go_sem,simprocAttr])|fail));simp;omega
theorem Bx (s:List UInt8) (es:List (List PV)) (n:Nat) (h:es.length=n) (hn:n<=1000000000) (hs:s.length<=1000000000):Det cx 215 [.ptr 1000 0 0,.p (.str s)] [(500001,.row 5 1 es),(1000,.var 206 [.ptr 1000 0 0,.own 500001 0 n])] (.tup [.int .i64 s.length,.nifc]) [(500001,.row 5 1 (es ++ bstr s)),(1000,.var 206 [.ptr 1000 0 0,.own 500001 0 (n+s.length)])]:=by
 (refine bgoR false [(14,500001)] func215 ?_;simp only[go_sem,simprocAttr]);(repeat'(first|((refine Jqa (Ct _ _) ?_);simp only[go_sem,simprocAttr])|fail));exact ⟨X6 s,h,omg,omg,rfl⟩
theorem En (r:Int) (es:List (List PV)) (n:Nat) (hl:es.length=n) (hn:n<=1000000000) (hr:¬ (0<=r/\r<128)) (h1:-2147483648<=r) (h2:r<=2147483647):Det cx 266 [.own 1000 0 n,.p (.int .i32 r)] [(1000,.row 5 1 es)] (.own 900 0 (n+(utf r).length)) [(900,.row 5 1 (es ++ bstr (utf r)))]:=by
 (refine bgoR true [(10,900),(24,900),(49,900),(77,900)] func266 ?_;simp only[go_sem,simprocAttr]);(repeat'(first|(apply iteI<;>intro h)|refine Jqj ?_|(exfalso;omega)))
 all_goals simp only[Ec] at *
 all_goals first|(have e:=Oc (r:=r) omg;refine ⟨by simp,(by first|assumption | omega),omg,omg,by rw[D6,e];rfl,?_⟩;rw[Em,e];(try simp (disch:=omega) only [fd6,fd12,fd18,Be r,Be (r / 64),Be (r / 4096),Be (r / 262144),K1,K8,K0,K5,La]);simp;(try omega);done)|(have e:=Nd (r:=r) omg;refine ⟨by simp,(by first|assumption | omega),omg,omg,by rw[D6,e];rfl,?_⟩;rw[Em,e];(try simp (disch:=omega) only [fd6,fd12,fd18,Be r,Be (r / 64),Be (r / 4096),Be (r / 262144),K1,K8,K0,K5,La]);simp;(try omega);done)|(have e:=Nk (r:=r) omg;refine ⟨by simp,(by first|assumption | omega),omg,omg,by rw[D6,e];rfl,?_⟩;rw[Em,e];(try simp (disch:=omega) only [fd6,fd12,fd18,Be r,Be (r / 64),Be (r / 4096),Be (r / 262144),K1,K8,K0,K5,La]);simp;(try omega);done)|(have e:=Wq (r:=r) omg;refine ⟨by simp,(by first|assumption | omega),omg,omg,by rw[D6,e];rfl,?_⟩;rw[Em,e];(try simp (disch:=omega) only [fd6,fd12,fd18,Be r,Be (r / 64),Be (r / 4096),Be (r / 262144),K1,K8,K0,K5,La]);simp;(try omega);done)
theorem H7 (r:Int) (es:List (List PV)) (n:Nat) (hl:es.length=n) (hn:n<=1000000000) (h1:-2147483648<=r) (h2:r<=2147483647):Det cx 245 [.own 1000 0 n,.p (.int .i32 r)] [(1000,.row 5 1 es)] (.own 900 0 (n+(utf r).length)) [(900,.row 5 1 (es ++ bstr (utf r)))]:=by
 (refine bgoR true [(12,900),(15,900)] func245 ?_;simp only[go_sem,simprocAttr]);(repeat'(first|(apply iteI<;>intro h)|((refine Jqa (En r es n hl hn (by simp only[Ec] at *;omega) h1 h2) ?_);simp only[go_sem,simprocAttr])|fail))
 all_goals simp only[Ec] at *
 ·have e:=Nb (r:=r) omg;refine ⟨by simp,(by first|assumption | omega),omg,omg,by rw[D6,e];rfl,?_⟩;rw[Em,e];(try simp (disch:=omega) only [fd6,fd12,fd18,Be r,Be (r / 64),Be (r / 4096),Be (r / 262144),K1,K8,K0,K5,La]);simp;(try omega)
theorem Ej (r:Int) (hr:¬ (0<=r/\r<128)) (h1:-2147483648<=r) (h2:r<=2147483647):Det cx 266 [.p .snil,.p (.int .i32 r)] [] (.own 900 0 (utf r).length) [(900,.row 5 1 (bstr (utf r)))]:=by
 (refine bgoR true [(10,900),(24,900),(49,900),(77,900)] func266 ?_;simp only[go_sem,simprocAttr]);(repeat'(first|(apply iteI<;>intro h)|refine Jqj ?_|(exfalso;omega)))
 all_goals simp only[Ec] at *
 all_goals first|(have e:=Oc (r:=r) omg;refine ⟨by simp,by rw[D6,e];rfl,?_⟩;rw[Em,e];(try simp (disch:=omega) only [fd6,fd12,fd18,Be r,Be (r / 64),Be (r / 4096),Be (r / 262144),K1,K8,K0,K5,La]);simp;(try omega);done)|(have e:=Nd (r:=r) omg;refine ⟨by simp,by rw[D6,e];rfl,?_⟩;rw[Em,e];(try simp (disch:=omega) only [fd6,fd12,fd18,Be r,Be (r / 64),Be (r / 4096),Be (r / 262144),K1,K8,K0,K5,La]);simp;(try omega);done)|(have e:=Nk (r:=r) omg;refine ⟨by simp,by rw[D6,e];rfl,?_⟩;rw[Em,e];(try simp (disch:=omega) only [fd6,fd12,fd18,Be r,Be (r / 64),Be (r / 4096),Be (r / 262144),K1,K8,K0,K5,La]);simp;(try omega);done)|(have e:=Wq (r:=r) omg;refine ⟨by simp,by rw[D6,e];rfl,?_⟩;rw[Em,e];(try simp (disch:=omega) only [fd6,fd12,fd18,Be r,Be (r / 64),Be (r / 4096),Be (r / 262144),K1,K8,K0,K5,La]);simp;(try omega);done)
theorem Kke (r:Int) (h1:-2147483648<=r) (h2:r<=2147483647):Det cx 245 [.p .snil,.p (.int .i32 r)] [] (.own 900 0 (utf r).length) [(900,.row 5 1 (bstr (utf r)))]:=by
 (refine bgoR true [(12,900),(15,900)] func245 ?_;simp only[go_sem,simprocAttr]);(repeat'(first|(apply iteI<;>intro h)|((refine Jqa (Ej r (by simp only[Ec] at *;omega) h1 h2) ?_);simp only[go_sem,simprocAttr])|fail))
 all_goals simp only[Ec] at *
 ·have e:=Nb (r:=r) omg;refine ⟨by simp,by rw[D6,e];rfl,?_⟩;rw[Em,e];(try simp (disch:=omega) only [fd6,fd12,fd18,Be r,Be (r / 64),Be (r / 4096),Be (r / 262144),K1,K8,K0,K5,La]);simp;(try omega)
theorem Ed (r:Int) (es:List (List PV)) (n:Nat) (hl:es.length=n) (hn:n<=1000000000) (h1:-2147483648<=r) (h2:r<=2147483647):Det cx 212 [.ptr 1000 0 0,.p (.int .i32 r)] [(500001,.row 5 1 es),(1000,.var 206 [.ptr 1000 0 0,.own 500001 0 n])] (.tup [.int .i64 (utf r).length,.nifc]) [(500001,.row 5 1 (es ++ bstr (utf r))),(1000,.var 206 [.ptr 1000 0 0,.own 500001 0 (n+(utf r).length)])]:=by
 (refine bgoR false [(20,500001)] func212 ?_;simp only[go_sem,simprocAttr]);(repeat'(first|((first|(refine Jqa (Ct _ _) ?_)|(refine Jqa (H7 r es n hl hn h1 h2) ?_));simp only[go_sem,simprocAttr])|fail));have:=Od r;simp (disch:=omega) only [Aa]
 (try simp);(try omega)
theorem Hb (r:Int) (h1:-2147483648<=r) (h2:r<=2147483647):Det cx 212 [.ptr 1000 0 0,.p (.int .i32 r)] [(1000,.var 206 [.p .nptr,.p .snil])] (.tup [.int .i64 (utf r).length,.nifc]) [(900,.row 5 1 (bstr (utf r))),(1000,.var 206 [.ptr 1000 0 0,.own 900 0 (utf r).length])]:=by
 (refine bgoR false [(20,900)] func212 ?_;simp only[go_sem,simprocAttr]);(repeat'(first|((first|refine Jqa Cm ?_|(refine Jqa (Kke r h1 h2) ?_));simp only[go_sem,simprocAttr])|fail));have:=Od r;simp (disch:=omega) only [Aa]
 (try simp);(try omega)
theorem Fa:Det cx 210 [.ptr 1000 0 0] [(1000,.var 206 [.p .nptr,.p .snil])] (.p (.str [])) [(1000,.var 206 [.p .nptr,.p .snil])]:=by
 (refine bgo func210 ?_;simp only[go_sem,simprocAttr]);(refine Gi 10 hm kr kr ?_;simp only[go_sem,simprocAttr]);exact ⟨_,rfl⟩
theorem Eo (s:List UInt8) (n:Nat) (hn:s.length=n) (h1:n<=1000000000) (h0:n≠0):Det cx 210 [.ptr 1000 0 0] [(500001,.row 5 1 (bstr s)),(1000,.var 206 [.ptr 1000 0 0,.own 500001 0 n])] (.p (.str s)) [(1000,.var 206 [.ptr 1000 0 0,.junk])]:=by
 (refine bgo func210 ?_;simp only[go_sem,simprocAttr]);(refine Gi 10 hm kr kr ?_;simp only[go_sem,simprocAttr,Ox]);have h2:s≠[]:=fun h=>by subst h;exact h0 (by rw[<- hn];rfl)
 simp[hn,h2];omega
def A8 (name:List UInt8):List (List UInt8×Tree)->List (List UInt8×Tree)
 | []=>[]
 | p :: l=>if p.1=name then A8 name l else p :: A8 name l
theorem Ku (name:List UInt8):∀ a b:List (List UInt8×Tree),A8 name (a ++ b)=A8 name a ++ A8 name b
 | [],b=>rfl
 | p :: a,b=>by
  simp only[Ebh,A8];split
  ·exact Ku name a b
  ·rw[Ku name a b];rfl
theorem Ld {name:List UInt8} {l:List (List UInt8×Tree)} {k:Nat} {p:List UInt8×Tree} (h:l[k]? = some p) (hn:p.1=name):A8 name (l.take (k+1))=A8 name (l.take k):=by
 rw[Ebc,h,Ku];simp[A8,hn]
theorem C8 {name:List UInt8} {l:List (List UInt8×Tree)} {k:Nat} {p:List UInt8×Tree} (h:l[k]? = some p) (hn:p.1≠name):A8 name (l.take (k+1))=A8 name (l.take k) ++ [p]:=by
 rw[Ebc,h,Ku];simp[A8,hn]
theorem Rg (name:List UInt8):∀ l:List (List UInt8×Tree),(A8 name l).length<=l.length
 | []=>Eah _
 | p :: l=>by
  have:=Rg name l;simp only[A8];split<;>simp<;>omega
theorem T6 (a b:List (List UInt8×Tree)):Bd (a ++ b)=Bd a ++ Bd b:=by simp[Bd]
theorem Tj (a b:List (List UInt8×Tree)):A4 (a ++ b)=A4 a ++ A4 b:=by simp[A4]
theorem El (name:List UInt8):∀ f:Forest,(A1 (A8 name f.list)).enc.length<=f.enc.length
 | .nil=>Eah _
 | .cons nm t r=>by
  have:=El name r;simp only[Forest.list,A8];split
  ·rw[A0,Eac];omega
  ·simp only[A1,A0,Eac];omega
def woR (name:List UInt8) (l:List (List UInt8×Tree)):Regs :=
 [(500000,.row 25 1 (A4 (A8 name l))),(500001,.row 9 1 (Bd (A8 name l))),(1002,.var 53 [.own 500000 0 (A8 name l).length]),(1003,.var 61 [.own 500001 0 (A8 name l).length]),(1004,.var 9 [.p (.str name)])]
theorem Jfw (nm:List UInt8) (s:List UInt8) (g:Bool) (e:Int) (kids:Forest) (name:List UInt8) (hv:kids.enc.length<=1499999999999):Det cx 71 [.p (.sl (valL ((Tree.mk 6 s g e kids).enc nm))),.p (.str name)] [] (.p (.sl (valL ((Tree.mk 6 [] false 0 (A1 (A8 name kids.list))).enc [])))) []:=by
 (refine bgo func71 ?_;simp only[go_sem,simprocAttr]);(repeat'(first|((refine Jqa (Hp _) ?_);simp only[go_sem,simprocAttr])|fail));refine Jqg (St.Le.trans (Jq2 _ (b:=5) (j:=0) (d:=500) 9 1 (.inl de) (T':=61) (cs:=[.p .snil]) rfl rfl) (Jq2 _ (b:=6) (j:=0) (d:=501) 25 1 (.inl de) (T':=53) (cs:=[.p .snil]) rfl rfl)) ?_;simp only[St.nilCell,St.nilReg,Ms,go_sem,simprocAttr];have hll:=Jqi kids;(refine SWP.range (Dp kids) 27 [(19,500001),(23,500000)] sm _ _ _ _ _ (fun k R=>R=woR name (kids.list.take k)) (fun _ _=>False) (by rfl) (by rfl) (by rfl) (Rt nm 6 s g e kids hv) (by simp only[go_sem,simprocAttr]<;>rfl) (by first|rfl | simp[Cg]) sm ?hps (by simp only[go_sem,simprocAttr]<;>rfl) (by simp only[go_sem,simprocAttr]<;>rfl) (by simp only[go_sem,simprocAttr]<;>rfl) ?h0 ?hkI ?hkS ?hSn ?round ?done ?stop)
 case hps=>exact fun x hx=>Fn hx
 case h0=>rfl
 case hkI=>rintro k R rfl;simp[woR,Hg,findKey]
 case hkS=>exact fun _ _ h=>h.elim
 case hSn=>exact fun _ h=>h
 case stop=>exact fun _ _ h=>h.elim
 case done =>
  rintro R rfl;rw[E4,Eae (by rw[Jqh];exact Eah _)];simp only[woR,go_sem,simprocAttr];refine ⟨_,St.Le.refl _,?_⟩;have hpl:((A8 name kids.list).length<=(A4 (A8 name kids.list)).length)=True:=eq_true (by rw[A5];exact Eah _);have hnl:((A8 name kids.list).length<=(Bd (A8 name kids.list)).length)=True:=eq_true (by rw[A9];exact Eah _);have hpt:(A4 (A8 name kids.list)).take (A8 name kids.list).length=A4 (A8 name kids.list):=Eae (by rw[A5];exact Eah _);have hnt:(Bd (A8 name kids.list)).take (A8 name kids.list).length=Bd (A8 name kids.list):=Eae (by rw[A9];exact Eah _);have hkle:=El name kids;simp only[go_sem,simprocAttr,hpl,hnl,hpt,hnt];refine Jqa (Jkg _ omg) ?_;simp only[go_sem,simprocAttr]
 case round =>
  rintro k x R l hx rfl;obtain ⟨p,hp,rfl⟩:=Fq hx;have hkl:=(Eab.1 hp).1;rw[Jqh] at hkl;have hkk:=Rg name (kids.list.take k);rw[Eay,Jqh] at hkk;simp only[woR,go_sem,simprocAttr];(refine lws ?_;simp only[go_sem,simprocAttr]);refine iteI (fun hn=>?_) (fun hn=>?_)
  ·have t1:A4 (A8 name (kids.list.take (k+1)))=A4 (A8 name (kids.list.take k)) ++ [[.sl (valL (p.2.enc []))]]:=by rw[C8 hp hn,Tj];rfl
   have t2:Bd (A8 name (kids.list.take (k+1)))=Bd (A8 name (kids.list.take k)) ++ [[.str p.1]]:=by rw[C8 hp hn,T6];rfl
   have t3:(A8 name (kids.list.take (k+1))).length=(A8 name (kids.list.take k)).length+1:=by rw[C8 hp hn,Eac];rfl
   have hP:(A4 (A8 name (kids.list.take k))).length=(A8 name (kids.list.take k)).length:=A5 _;have hN:(Bd (A8 name (kids.list.take k))).length=(A8 name (kids.list.take k)).length:=A9 _;generalize hm0:(A8 name (kids.list.take k)).length=m at *
   generalize A4 (A8 name (kids.list.take k))=P at *
   generalize Bd (A8 name (kids.list.take k))=N at *
   have e1:(P.length=m)=True:=eq_true hP;have e2:(N.length=m)=True:=eq_true hN;have e3:((m+1) * 24<=140737488355328)=True:=eq_true omg;have e4:((m+1) * 16<=140737488355328)=True:=eq_true omg;have e5:(m<=9223372036854775806)=True:=eq_true omg;refine J1j (qj 0 2 4 6) [1,5] (.node 0 (.node 2 (.node 3 (.node 4 (.node 6 (.node 7 (.node 8 (.node 9 .leaf .nil) .nil) .nil) .nil) (.node 6 (.node 4 (.node 7 (.node 8 (.node 9 .leaf .nil) .nil) .nil) .nil) .nil)) (.node 4 (.node 3 (.node 6 (.node 7 (.node 8 (.node 9 .leaf .nil) .nil) .nil) .nil) (.node 6 (.node 3 (.node 7 (.node 8 (.node 9 .leaf .nil) .nil) .nil) .nil) .nil)) (.node 6 (.node 3 (.node 4 (.node 7 (.node 8 (.node 9 .leaf .nil) .nil) .nil) .nil) (.node 4 (.node 3 (.node 7 (.node 8 (.node 9 .leaf .nil) .nil) .nil) .nil) .nil)) .nil))) (.node 4 (.node 2 (.node 3 (.node 6 (.node 7 (.node 8 (.node 9 .leaf .nil) .nil) .nil) .nil) (.node 6 (.node 3 (.node 7 (.node 8 (.node 9 .leaf .nil) .nil) .nil) .nil) .nil)) (.node 6 (.node 2 (.node 3 (.node 7 (.node 8 (.node 9 .leaf .nil) .nil) .nil) .nil) .nil) .nil)) (.node 6 (.node 2 (.node 3 (.node 4 (.node 7 (.node 8 (.node 9 .leaf .nil) .nil) .nil) .nil) (.node 4 (.node 3 (.node 7 (.node 8 (.node 9 .leaf .nil) .nil) .nil) .nil) .nil)) (.node 4 (.node 2 (.node 3 (.node 7 (.node 8 (.node 9 .leaf .nil) .nil) .nil) .nil) .nil) .nil)) .nil))) (.node 2 (.node 0 (.node 3 (.node 4 (.node 6 (.node 7 (.node 8 (.node 9 .leaf .nil) .nil) .nil) .nil) (.node 6 (.node 4 (.node 7 (.node 8 (.node 9 .leaf .nil) .nil) .nil) .nil) .nil)) (.node 4 (.node 3 (.node 6 (.node 7 (.node 8 (.node 9 .leaf .nil) .nil) .nil) .nil) (.node 6 (.node 3 (.node 7 (.node 8 (.node 9 .leaf .nil) .nil) .nil) .nil) .nil)) (.node 6 (.node 3 (.node 4 (.node 7 (.node 8 (.node 9 .leaf .nil) .nil) .nil) .nil) (.node 4 (.node 3 (.node 7 (.node 8 (.node 9 .leaf .nil) .nil) .nil) .nil) .nil)) .nil))) (.node 4 (.node 0 (.node 3 (.node 6 (.node 7 (.node 8 (.node 9 .leaf .nil) .nil) .nil) .nil) (.node 6 (.node 3 (.node 7 (.node 8 (.node 9 .leaf .nil) .nil) .nil) .nil) .nil)) (.node 6 (.node 0 (.node 3 (.node 7 (.node 8 (.node 9 .leaf .nil) .nil) .nil) .nil) .nil) .nil)) (.node 6 (.node 0 (.node 3 (.node 4 (.node 7 (.node 8 (.node 9 .leaf .nil) .nil) .nil) .nil) (.node 4 (.node 3 (.node 7 (.node 8 (.node 9 .leaf .nil) .nil) .nil) .nil) .nil)) (.node 4 (.node 0 (.node 3 (.node 7 (.node 8 (.node 9 .leaf .nil) .nil) .nil) .nil) .nil) .nil)) .nil))) (.node 4 (.node 0 (.node 2 (.node 3 (.node 6 (.node 7 (.node 8 (.node 9 .leaf .nil) .nil) .nil) .nil) (.node 6 (.node 3 (.node 7 (.node 8 (.node 9 .leaf .nil) .nil) .nil) .nil) .nil)) (.node 6 (.node 2 (.node 3 (.node 7 (.node 8 (.node 9 .leaf .nil) .nil) .nil) .nil) .nil) .nil)) (.node 2 (.node 0 (.node 3 (.node 6 (.node 7 (.node 8 (.node 9 .leaf .nil) .nil) .nil) .nil) (.node 6 (.node 3 (.node 7 (.node 8 (.node 9 .leaf .nil) .nil) .nil) .nil) .nil)) (.node 6 (.node 0 (.node 3 (.node 7 (.node 8 (.node 9 .leaf .nil) .nil) .nil) .nil) .nil) .nil)) (.node 6 (.node 0 (.node 2 (.node 3 (.node 7 (.node 8 (.node 9 .leaf .nil) .nil) .nil) .nil) .nil) (.node 2 (.node 0 (.node 3 (.node 7 (.node 8 (.node 9 .leaf .nil) .nil) .nil) .nil) .nil) .nil)) .nil))) (.node 6 (.node 0 (.node 2 (.node 3 (.node 4 (.node 7 (.node 8 (.node 9 .leaf .nil) .nil) .nil) .nil) (.node 4 (.node 3 (.node 7 (.node 8 (.node 9 .leaf .nil) .nil) .nil) .nil) .nil)) (.node 4 (.node 2 (.node 3 (.node 7 (.node 8 (.node 9 .leaf .nil) .nil) .nil) .nil) .nil) .nil)) (.node 2 (.node 0 (.node 3 (.node 4 (.node 7 (.node 8 (.node 9 .leaf .nil) .nil) .nil) .nil) (.node 4 (.node 3 (.node 7 (.node 8 (.node 9 .leaf .nil) .nil) .nil) .nil) .nil)) (.node 4 (.node 0 (.node 3 (.node 7 (.node 8 (.node 9 .leaf .nil) .nil) .nil) .nil) .nil) .nil)) (.node 4 (.node 0 (.node 2 (.node 3 (.node 7 (.node 8 (.node 9 .leaf .nil) .nil) .nil) .nil) .nil) (.node 2 (.node 0 (.node 3 (.node 7 (.node 8 (.node 9 .leaf .nil) .nil) .nil) .nil) .nil) .nil)) .nil))) .nil)))) 8 hm rfl kr kr ?_;simp only[go_sem,simprocAttr,Jo4,e1,e2,e3,e4,e5];(repeat' apply And.intro)
   all_goals (refine ⟨_,rfl,?_⟩;rw[t1,t2,t3];exact (Jqt (by simp only[Ar]) (by simp (disch:=omega) [Az,A3,Aw,Am,Af,Ai,Au,Aa]) (by simp[Ay])))
  ·have hn':=Ea9.1 hn;refine ⟨_,rfl,?_⟩;rw[Ld hp hn'];exact (Jqt (by simp only[Ar]) (by simp (disch:=omega) [Az,A3,Aw,Am,Af,Ai,Au,Aa]) (by simp[Ay]))
theorem Jc9 (nm:List UInt8) (kd:Int) (s:List UInt8) (g:Bool) (e:Int) (kids:Forest) (hv:kids.enc.length<=1499999999999):Det cx 68 [.p (.sl (valL ((Tree.mk kd s g e kids).enc nm)))] [] (.own 900 0 kids.len) [(900,.row 25 1 (A4 kids.list))]:=by
 have hll:=Jqi kids;have hfl:=Jqh kids;(refine bgoR true [(990,900),(500,900)] func68 ?_;simp only[go_sem,simprocAttr]);(repeat'(first|((refine Jqa (Hp _) ?_);simp only[go_sem,simprocAttr])|fail));refine Jqg (Jq2 _ (b:=3) (j:=0) (d:=500) 25 1 (.inl de) (T':=53) (cs:=[.p .snil]) rfl rfl) ?_;simp only[St.nilCell,St.nilReg,Ms,go_sem,simprocAttr];(refine SWP.range (Dp kids) 15 [(13,500000)] sm _ _ _ _ _ (fun k R=>R=[(500000,.row 25 1 (A4 (kids.list.take k))),(1001,.var 53 [.own 500000 0 k])]) (fun _ _=>False) (by rfl) (by rfl) (by rfl) (Rt nm kd s g e kids hv) (by simp only[go_sem,simprocAttr]<;>rfl) (by first|rfl | simp[Cg]) sm ?hps (by simp only[go_sem,simprocAttr]<;>rfl) (by simp only[go_sem,simprocAttr]<;>rfl) (by simp only[go_sem,simprocAttr]<;>rfl) ?h0 ?hkI ?hkS ?hSn ?round ?done ?stop)
 case hps=>exact fun x hx=>Fn hx
 case h0=>rfl
 case hkI=>rintro k R rfl;simp[Hg,findKey]
 case hkS=>exact fun _ _ h=>h.elim
 case hSn=>exact fun _ h=>h
 case stop=>exact fun _ _ h=>h.elim
 case round =>
  rintro k x R l hx rfl;obtain ⟨p,hp,rfl⟩:=Fq hx;have hkl:=(Eab.1 hp).1;simp only[go_sem,simprocAttr];(refine lws ?_;simp only[go_sem,simprocAttr]);refine ⟨by simp,by rw[A5,Eay];omega,omg,omg,_,rfl,?_⟩;rw[Gs hp];exact (Jqt (by simp only[Ar]) (by simp (disch:=omega) [Az,A3,Aw,Am,Af,Ai,Au,Aa]) (by simp[Ay]))
 case done =>
  rintro R rfl;rw[E4,Eae omg];simp only[go_sem,simprocAttr];refine ⟨_,St.Le.refl _,?_⟩;simp only[go_sem,simprocAttr]
theorem Jnc (nm:List UInt8) (s:List UInt8) (g:Bool) (e:Int) (kids:Forest) (hv:kids.enc.length<=1499999999999):Det cx 86 [.p (.sl (valL ((Tree.mk 6 s g e kids).enc nm)))] [] (.own 900 0 kids.len) [(900,.row 9 1 (Bd kids.list))]:=by
 have hll:=Jqi kids;have hfl:=Jqh kids;(refine bgoR true [(990,900),(500,900)] func86 ?_;simp only[go_sem,simprocAttr,Cc]);(repeat'(first|((refine Jqa (Hp _) ?_);simp only[go_sem,simprocAttr])|fail));refine Jqg (Jq2 _ (b:=3) (j:=0) (d:=500) 9 1 (.inl de) (T':=61) (cs:=[.p .snil]) rfl rfl) ?_;simp only[St.nilCell,St.nilReg,Ms,go_sem,simprocAttr,Cc];(refine SWP.range (Dp kids) 19 [(17,500000)] sm _ _ _ _ _ (fun k R=>R=[(500000,.row 9 1 (Bd (kids.list.take k))),(1001,.var 61 [.own 500000 0 k])]) (fun _ _=>False) (by rfl) (by rfl) (by rfl) (Rt nm 6 s g e kids hv) (by simp only[go_sem,simprocAttr]<;>rfl) (by first|rfl | simp[Cg]) sm ?hps (by simp only[go_sem,simprocAttr]<;>rfl) (by simp only[go_sem,simprocAttr]<;>rfl) (by simp only[go_sem,simprocAttr]<;>rfl) ?h0 ?hkI ?hkS ?hSn ?round ?done ?stop)
 case hps=>exact fun x hx=>Fn hx
 case h0=>rfl
 case hkI=>rintro k R rfl;simp[Hg,findKey]
 case hkS=>exact fun _ _ h=>h.elim
 case hSn=>exact fun _ h=>h
 case stop=>exact fun _ _ h=>h.elim
 case round =>
  rintro k x R l hx rfl;obtain ⟨p,hp,rfl⟩:=Fq hx;have hkl:=(Eab.1 hp).1;simp only[go_sem,simprocAttr];(refine lws ?_;simp only[go_sem,simprocAttr]);refine ⟨by simp,by rw[A9,Eay];omega,omg,omg,_,rfl,?_⟩;rw[Lr hp];exact (Jqt (by simp only[Ar]) (by simp (disch:=omega) [Az,A3,Aw,Am,Af,Ai,Au,Aa]) (by simp[Ay]))
 case done =>
  rintro R rfl;rw[E4,Eae omg];simp only[go_sem,simprocAttr];refine ⟨_,St.Le.refl _,?_⟩;simp only[go_sem,simprocAttr]
theorem Qn (es:List (List PV)) (n:Nat) (x:List UInt8) (h:es.length=n) (hn:n<=1500000000000):Det cx 143 [.own 1000 0 n,.p (.int .i64 n),.own 1001 0 1] [(1001,.row 9 1 [[.str x]]),(1000,.row 9 1 es)] (.own 900 0 (n+1)) [(900,.row 9 1 (es ++ [[.str x]])),(1001,.row 9 1 [[.str x]])]:=by
 (refine bgoR true [(25,900)] func143 ?_;simp only[go_sem,simprocAttr]);(repeat'(first|refine Jqj ?_|fail));exact ⟨by simp,(by assumption),omg,omg⟩
theorem S0 (es:List (List PV)) (n:Nat) (x:PV) (hx:x.scalar=true) (h:es.length=n) (hn:n<=1500000000000):Det cx 144 [.own 1000 0 n,.p (.int .i64 n),.own 1001 0 1] [(1001,.row 25 1 [[x]]),(1000,.row 25 1 es)] (.own 900 0 (n+1)) [(900,.row 25 1 (es ++ [[x]])),(1001,.row 25 1 [[x]])]:=by
 (refine bgoR true [(25,900)] func144 ?_;simp only[go_sem,simprocAttr]);(repeat'(first|refine Jqj ?_|fail));exact ⟨by simp,(by assumption),omg,omg⟩
theorem G7 (t:Tree) (nm:List UInt8):(t.enc nm).length=(t.enc []).length:=by
 cases t;rw[A6,A6];simp
theorem Cs (v:List Node) (i:Nat) (nm:List UInt8) (t:Tree) (rest:List Node) (hv:v.length<=1500000000000) (h:v.drop i=t.enc nm ++ rest):Det cx 77 [.p (.sl (valL v)),.p (.int .i64 i)] [] (.p (.int .i64 (i+(t.enc nm).length:Nat))) []:=by
 (refine bgo func77 ?_;simp only[go_sem,simprocAttr]);have hp:=Et t nm;have hb:=L9 h (fun e=>by have e2:(t.enc nm ++ rest).length=0:=(by rw[e];rfl);rw[Eac] at e2;omega);rw[Eac] at hb;refine SWP.loop (fun x:Nat×Nat×Forest=>⟨Ba 41 [(0,.p (.sl (valL v))),(1,.p (.int .i64 x.1)),(5,.p (.int .i64 x.2.1))],[]⟩) (fun x=>x.2.1=x.2.2.len/\v.drop x.1=x.2.2.enc ++ rest/\x.1+x.2.2.enc.length=i+(t.enc nm).length) (fun x=>x.2.2.enc.length) (i,1,.cons nm t .nil) Jqc ⟨rfl,by simp[A0,Bl,h],by simp[A0,Bl]⟩ ?_;rintro ⟨j,left,F⟩ ⟨h0,h1,h2⟩;simp only at h0 h1 h2
 match F,h0,h1,h2 with
 | .nil,h0,h1,h2 =>
  rw[Bl] at h2;simp only[Forest.len] at h0;subst h0;(refine lws ?_;simp only[go_sem,simprocAttr]);simp only[Ea8] at h2;omega
 | .cons nm' (.mk k s g e kids) r,h0,h1,h2 =>
  rw[Kka] at h0;rw[A0,A6] at h1 h2;have hg:=D5 h1;rw[C9] at hg;simp only[Ead,Eac] at h2;have hl1:=Jqi kids;have hl2:=Jqi r;have w0:IntKind.i64.wrap ((left:Int) - 1)=(r.len:Int):=by rw[Aa omg omg];omega
  have w1:IntKind.i64.wrap ((r.len:Int)+(kids.len:Int))=((r.len+kids.len:Nat):Int):=by rw[Aa omg omg];omega
  (refine lws ?_;simp only[go_sem,simprocAttr,wj1 (i:=j) omg,hg,w0,w1,A7]);(repeat'(first|(apply iteI<;>intro h)|(exfalso;omega)))
  ·exact ⟨(j+1,r.len+kids.len,kids.app r),⟨by simp only[Jrz];omega,by
    simp only[Jqk];rw[<- Ebj,h1];simp,by simp only[Jqk,Eac];omega⟩,by simp only[Jqk,A0,A6,Eac,Ead];omega,Jqc⟩
end Go.LX
namespace Go.LX
open Go Go.RowKit Go.Proofs
attribute [local irreducible] Al SWP Bi
theorem Mi {v:List Node} {j:Nat} {nm:List UInt8} {t:Tree} {b:List Node} (h:v.drop j=t.enc nm ++ b):∃ k n s g e,(valL v)[j]? = some [.int .i64 k,.int .i64 n,.str nm,.str s,.bool g,.int .i64 e]:=by
 cases t with
 | mk k s g e kids =>
  rw[A6] at h;exact ⟨k,kids.len,s,g,e,D5 h⟩
end Go.LX
namespace Go.LX
open Go Go.RowKit Go.Proofs Go.Proofs.Tryz
attribute [local irreducible] Al SWP Bi
def unn (l:List (List UInt8×Tree)):List (List UInt8×Tree):=l.map fun p=>([],p.2)
theorem Kp (l:List (List UInt8×Tree)):(unn l).length=l.length:=by simp[unn]
def hdK (k:Int) (n:Nat):List PV:=[.int .i64 k,.int .i64 n,.str [],.str [],.bool false,.int .i64 0]
theorem Oi (l:List (List UInt8×Tree)) (k:Nat):(A1 (l.take k)).enc.length<=(A1 l).enc.length:=by
 have e1:A1 l=(A1 (l.take k)).app (A1 (l.drop k)):=by rw[<- Hz,Ebk]
 rw[e1,Jqk,Eac];omega
theorem Nu {l:List (List UInt8×Tree)} {k:Nat} {p:List UInt8×Tree} (h:l[k]? = some p):(A1 (l.take (k+1))).enc=(A1 (l.take k)).enc ++ p.2.enc p.1:=by
 rw[Ebc,h,Option.toList_some,Hz,Jqk];simp only[A1,A0,Bl,Eaw]
theorem Rf (l:List (List UInt8×Tree)) (k:Nat):unn (l.take k)=(unn l).take k:=by simp[unn]
theorem Iy (l:List (List UInt8×Tree)) (hv:(A1 l).enc.length<=1499999999999):Det cx 83 [.p (.sl (Bd l)),.p (.sl (A4 l))] [] (.p (.sl (valL ((Tree.mk 6 [] false 0 (A1 l)).enc [])))) []:=by
 have hll:=Jqi (A1 l);rw[Ca] at hll;(refine bgo func83 ?_;simp only[go_sem,simprocAttr,A5]);refine Jqg (B1 [(12,26)] _ sm) ?_;simp only[go_sem,simprocAttr];refine SWP.loop (fun x:Nat×Nat×List (List PV)=>⟨Ba 41 [(0,.p (.sl (Bd l))),(1,.p (.sl (A4 l))),(5,.own 26 0 x.2.1),(6,.p (.int .i64 x.1))],[(26,.row 36 6 x.2.2)]⟩) (fun x=>x.1<=l.length/\x.2.1=(A1 (l.take x.1)).enc.length+1/\x.2.2=hdK 6 l.length :: valL (A1 (l.take x.1)).enc) (fun x=>l.length - x.1) (0,1,[hdK 6 l.length]) (by unfold hdK;exact Jqc) ⟨Eau _,rfl,rfl⟩ ?_;rintro ⟨k,m,es⟩ ⟨hk,hm',hes⟩;simp only at hk hm' hes;have hml:es.length=m:=by rw[hes,hm'];simp
 have htk:es.take m=es:=Eae omg;by_cases hlt:¬ k<l.length
 ·have htl:l.take k=l:=Eae omg;rw[htl] at hes hm';have hkl:((k:Int)<(l.length:Int))=False:=eq_false omg;have hpl:=hkl;have hnl:=hkl;have hge:=hkl;have hsp:=hkl;have hw:=hkl;have hvl:=hkl;(refine lws ?_;simp only[go_sem,simprocAttr,A5,hkl,hml,htk,Eah]);rw[hes,A6,Ca];rfl
 ·have hlt:=Ea9.1 hlt;obtain ⟨p,hp⟩:∃ p,l[k]? = some p:=⟨_,Eaa hlt⟩
  have hpl:(A4 l)[k]? = some [.sl (valL (p.2.enc []))]:=by simp[A4,hp]
  have hnl:(Bd l)[k]? = some [.str p.1]:=by simp[Bd,hp]
  have hkl:((k:Int)<(l.length:Int))=True:=eq_true omg;have h1:=Nu hp;have h2:=Oi l (k+1);rw[h1,Eac] at h2;have hw:=wj1 (i:=k) omg;obtain ⟨⟨nm',t⟩,rfl⟩:∃ q,q=p:=⟨p,rfl⟩
  cases t with
  | mk kd' s' g' e' kids' =>
  have hge:(es ++ valL ((Tree.mk kd' s' g' e' kids').enc []))[m]? = some [.int .i64 kd',.int .i64 kids'.len,.str [],.str s',.bool g',.int .i64 e']:=by
   rw[Ear omg,hml,Edr,A6];rfl
  have hsp:(es ++ valL ((Tree.mk kd' s' g' e' kids').enc [])).set m [.int .i64 kd',.int .i64 kids'.len,.str nm',.str s',.bool g',.int .i64 e']=es ++ valL ((Tree.mk kd' s' g' e' kids').enc nm'):=by
   rw[List.set_append_right _ _ omg,hml,Edr,A6,A6];rfl
  have hvl:((Tree.mk kd' s' g' e' kids').enc []).length=((Tree.mk kd' s' g' e' kids').enc nm').length:=by rw[G7 _ nm']
  simp only at h1 h2;(refine lws ?_;simp only[go_sem,simprocAttr,A5,hkl,hpl,hnl,hge,hsp,hw,hvl,hml,Eah,A7]);have hpos:=Et (Tree.mk kd' s' g' e' kids') nm';refine ⟨E7 _,omg,omg,?_⟩;(repeat'(first|refine Jqj ?_|fail));refine ⟨(k+1,m+((Tree.mk kd' s' g' e' kids').enc nm').length,es ++ valL ((Tree.mk kd' s' g' e' kids').enc nm')),⟨by simp only;omega,?_,?_⟩,by simp only;omega,?_⟩
  ·simp only;rw[h1,Eac,hm'];omega
  ·simp only;rw[h1,Ji,hes];rfl
  ·exact Jqc
theorem d_tz:Det cx 240 [.p (.int .u64 16)] [] (.p (.int .i64 4)) []:=by
 refine Jr1 (v:=.int .i64 4) (enters_of func240 kr rfl) rfl (fun _ _ _=>.int _ _) fun β Im w vs hg hf=>?_
 obtain ⟨v,rfl,hv⟩:=fit1 hf;have:=Mz hv;subst this;have hc:Lib.ctz 64 16=4:=by decide
 refine (Any7.bits_TrailingZeros J2g 16 de w (fun _=>(Jbj hg).tz)).mono fun e w' ⟨he,hw⟩=>?_
 subst hw;rw[hc] at he;exact ⟨he,Below.refl _ _⟩
theorem Rj:Det cx 239 [.p (.int .i64 16)] [] (.p (.bool true)) []:=by
 (refine bgo func239 ?_;simp only[go_sem,simprocAttr]);decide
theorem f_z133:Bu Tryz.prog 230=some [.int .u8 0,.int .u8 0,.int .u8 0,.int .u8 0,.int .u8 0,.int .u8 0,.int .u8 0,.int .u8 0,.int .u8 0,.int .u8 0,.int .u8 0,.int .u8 0,.int .u8 0,.int .u8 0,.int .u8 0,.int .u8 0,.int .u8 0,.int .u8 0,.int .u8 0,.int .u8 0,.int .u8 0,.int .u8 0,.int .u8 0,.int .u8 0,.int .u8 0,.int .u8 0,.int .u8 0,.int .u8 0,.int .u8 0,.int .u8 0,.int .u8 0,.int .u8 0,.int .u8 0,.int .u8 0,.int .u8 0,.int .u8 0,.int .u8 0,.int .u8 0,.int .u8 0,.int .u8 0,.int .u8 0,.int .u8 0,.int .u8 0,.int .u8 0,.int .u8 0,.int .u8 0,.int .u8 0,.int .u8 0,.int .u8 0,.int .u8 0,.int .u8 0,.int .u8 0,.int .u8 0,.int .u8 0,.int .u8 0,.int .u8 0,.int .u8 0,.int .u8 0,.int .u8 0,.int .u8 0,.int .u8 0,.int .u8 0,.int .u8 0,.int .u8 0,.int .u8 0]:=kr
theorem wc1:IntKind.u64.wrap 16=16:=by decide
theorem wc2:IntKind.u64.wrap 15=15:=by decide
theorem wc3:IntKind.u64.wrap 4=4:=by decide
theorem wc4:IntKind.i64.wrap 64=64:=by decide
theorem wc5:IntKind.i64.wrap 63=63:=by decide
theorem wc6:IntKind.i64.wrap 62=62:=by decide
theorem Jjm (x:Nat):IntKind.u64.wrap (BitVec.ofInt (B0 .u64) (x:Int) &&& BitVec.ofInt (B0 .u64) 15).toNat=((x % 16:Nat):Int):=by
 have e:(BitVec.ofInt (B0 .u64) (x:Int) &&& BitVec.ofInt (B0 .u64) 15).toNat=x % 16:=by
  show (BitVec.ofInt 64 (x:Int) &&& BitVec.ofInt 64 15).toNat=x % 16;rw[BitVec.toNat_and,show (BitVec.ofInt 64 15).toNat=2 ^ 4 - 1 by decide,Nat.and_two_pow_sub_one_eq_mod];simp
 rw[e,Mf omg omg]
theorem fd4 (x:Nat):(x:Int).fdiv (2 ^ min 4 (B0 .u64))=((x / 16:Nat):Int):=by
 rw[Ecs _ de];simp[B0,IntKind.bits]
def hexds:List UInt8:=[48,49,50,51,52,53,54,55,56,57,97,98,99,100,101,102,103,104,105,106,107,108,109,110,111,112,113,114,115,116,117,118,119,120,121,122]
def hexd (n:Nat):UInt8:=hexds.getD n 0
theorem Mj (u:Nat) (h1:256<=u) (h2:u<4096):Det cx 205 [.p .snil,.p (.int .u64 u),.p (.int .i64 16),.p (.bool false),.p (.bool false)] [] (.tup [.snil,.str [hexd (u / 16 / 16),hexd (u / 16 % 16),hexd (u % 16)]]) []:=by
 (refine bgo func205 ?_;simp only[go_sem,simprocAttr,f_z133]);(repeat'(first|((first|refine Jqa d_tz ?_|refine Jqa Rj ?_);simp only[go_sem,simprocAttr,wc1,wc2,wc3])|fail));(refine SWP.rounds 4 ?_;refine Jss hm ?_;simp only[go_sem,simprocAttr,wc4,Jjm,fd4]);(repeat'(first|(apply iteI<;>intro h)|refine Jqj ?_|(refine Jss hm ?_;simp only[go_sem,simprocAttr,wc5,wc6,Jjm,fd4])|(exfalso;omega)));exact ⟨rfl,rfl,rfl⟩
def hex3 (u:Nat):List UInt8:=[hexd (u / 16 / 16),hexd (u / 16 % 16),hexd (u % 16)]
theorem wcn {u:Nat} (h:u<4096):IntKind.u64.wrap (u:Int)=u:=Mf omg omg
theorem Ke (u:Nat) (h1:256<=u) (h2:u<4096):Det cx 177 [.p (.int .i64 u),.p (.int .i64 16)] [] (.p (.str (hex3 u))) []:=by
 (refine bgo func177 ?_;simp only[go_sem,simprocAttr,wcn h2]);(repeat'(first|((refine Jqa (Mj u h1 h2) ?_);simp only[go_sem,simprocAttr,wcn h2])|fail));rfl
theorem Ph (u:Nat) (h1:256<=u) (h2:u<4096):Det cx 216 [.p (.int .i64 u),.p (.int .i64 16)] [] (.p (.str (hex3 u))) []:=by
 (refine bgo func216 ?_;simp only[go_sem,simprocAttr]);(repeat'(first|((refine Jqa (Ke u h1 h2) ?_);simp only[go_sem,simprocAttr])|fail))
def low (c:Nat):Nat:=if c / 32 % 2=1 then c else c+32
theorem or32 (c:Nat) (h:c<=255):IntKind.u8.wrap (BitVec.ofInt (B0 .u8) (c:Int) ||| BitVec.ofInt (B0 .u8) 32).toNat=(low c:Int):=by
 have key:∀ m:Fin 256,IntKind.u8.wrap (BitVec.ofInt (B0 .u8) (m.val:Int) ||| BitVec.ofInt (B0 .u8) 32).toNat=(low m.val:Int):=by decide
 exact key ⟨c,omg⟩
theorem Jde (c:Nat) (h:c<=255):Det cx 273 [.p (.int .u8 c)] [] (.p (.int .u8 (low c))) []:=by
 (refine bgo func273 ?_;simp only[go_sem,simprocAttr]);rw[or32 c h]
def hexv (c:Nat):Option Nat:=if 48<=c/\c<=57 then some (c - 48) else if 97<=c/\c<=102 then some (c - 87) else if 65<=c/\c<=70 then some (c - 55) else none
def hexN:List UInt8->Nat->Option Nat
 | [],a=>some a
 | c :: s,a=>match hexv c.toNat with
  | some d=>hexN s (a * 16+d)
  | none=>none
def Jbb (o:Option Nat):L:=match o with
 | some n=>.tup [.int .u64 n,.nifc]
 | none=>.tup [.int .u64 0,.ifi 236 .i64 2]
theorem Jdb (s:List UInt8) (i:Nat):(s.getD i default).toNat=at_ s i:=rfl
theorem wc7:IntKind.u64.wrap (1 * 2 ^ min 16 (B0 .u64))=65536:=by decide
theorem wc8:IntKind.u64.wrap 65535=65535:=by decide
theorem Nn {s:List UInt8} {i n:Nat} (h:i<s.length):hexN (s.drop i) n=(match hexv (at_ s i) with | some d=>hexN (s.drop (i+1)) (n * 16+d) | none=>none):=by
 rw[Eaz h];simp only[hexN];rw[Ql h]
theorem Je6 (c:Nat):(c / 32 % 2=1/\low c=c)\/(c / 32 % 2≠1/\low c=c+32):=by
 unfold low;split<;>omega
theorem Kf (s:List UInt8) (hs:s.length=4):Det cx 267 [.p (.str s),.p (.int .i64 16),.p (.int .i64 16)] [] (Jbb (hexN s 0)) []:=by
 (refine bgo func267 ?_;simp only[go_sem,simprocAttr,wc1,wc7,wc8]);(repeat'(first|(apply iteI<;>intro h)|(exfalso;omega)));refine SWP.loop (fun x:Nat×Nat=>⟨Ba 172 [(1,.p (.int .i64 16)),(2,.p (.int .i64 16)),(8,.p (.bool false)),(9,.p (.str s)),(10,.p (.int .u64 1152921504606846976)),(11,.p (.int .u64 65535)),(12,.p (.bool false)),(13,.p (.int .u64 x.2)),(99,.p (.sl (s.map fun c=>[.int .u8 c.toNat]))),(100,.p (.int .i64 s.length)),(101,.p (.int .i64 x.1))],[]⟩) (fun x=>x.1<=4/\x.2<16 ^ x.1/\hexN (s.drop x.1) x.2=hexN s 0) (fun x=>4 - x.1) (0,0) Jqc ⟨omg,by decide,rfl⟩ ?_;rintro ⟨i,n⟩ ⟨h1,h2,h3⟩;(refine lws ?_;simp only[go_sem,simprocAttr,wc1,Jdb]);simp only at h1 h2 h3;have hL:=Je6 (at_ s i);have hA:=Fr s i;have hP:i<4->n<4096:=fun h=>Ebe h2 (Nat.le_trans (Ec1 de (show i<=3 by omega)) de)
 have hS:i<4->∀ d<16,n * 16+d<16 ^ (i+1):=fun h d hd=>by rw[Nat.pow_succ];omega
 (repeat'(first|(apply iteI<;>intro h)|refine Jqj ?_|((refine Jqa (Jde _ (Fr s i)) ?_);simp only[go_sem,simprocAttr,wc1])|(exfalso;omega)))
 all_goals (try simp only[Be,Ub] at *)
 all_goals first
  | (exfalso;omega)
  | (
   have e:hexN s 0=none:=by
    rw[<- h3,Nn omg,show hexv (at_ s i)=none by unfold hexv;rw[if_neg omg,if_neg omg,if_neg omg]]
   rw[e];rfl)
  | (
   have e:hexN s 0=some n:=by
    rw[<- h3,Eao omg];rfl
   rw[e];rfl)
  | (
   have h57:at_ s i<=57:=by omega
   obtain ⟨d,hd,hv,ho⟩:∃ d,d<16/\hexv (at_ s i)=some d/\(d:Int)=at_ s i - 48:=⟨at_ s i - 48,omg,by unfold hexv;rw[if_pos omg],omg⟩
   refine ⟨(i+1,n * 16+d),⟨by simp only;omega,hS omg d hd,?_⟩,by simp only;omega,Jqc⟩;simp only;rw[<- h3,Nn (i:=i) (n:=n) omg,hv])
  | (
   obtain ⟨d,hd,hv,ho⟩:∃ d,d<16/\hexv (at_ s i)=some d/\(d:Int)=low (at_ s i) - 87:=by
    by_cases h97:97<=at_ s i
    ·exact ⟨at_ s i - 87,omg,by unfold hexv;rw[if_neg omg,if_pos omg],omg⟩
    ·exact ⟨at_ s i - 55,omg,by unfold hexv;rw[if_neg omg,if_neg omg,if_pos omg],omg⟩
   refine ⟨(i+1,n * 16+d),⟨by simp only;omega,hS omg d hd,?_⟩,by simp only;omega,Jqc⟩;simp only;rw[<- h3,Nn (i:=i) (n:=n) omg,hv])
end Go.LX
namespace Go.LX
open Go
def dec (s:List UInt8) (i:Nat):Nat×Nat:=Utf8.decode ⟨⟨s⟩⟩ i
def ct (s:List UInt8) (k:Nat):Bool:=decide (k<s.length) && (decide (128<=at_ s k) && decide (at_ s k<192))
def rlen (s:List UInt8) (i:Nat):Nat :=
 if at_ s i<128 then 1
 else if 194<=at_ s i/\at_ s i<224/\ct s (i+1)=true then 2
 else if 224<=at_ s i/\at_ s i<240/\ct s (i+1)=true/\ct s (i+2)=true then
  (if (at_ s i=224/\at_ s (i+1)<160)\/(at_ s i=237/\160<=at_ s (i+1)) then 0 else 3)
 else if 240<=at_ s i/\at_ s i<245/\ct s (i+1)=true/\ct s (i+2)=true/\ct s (i+3)=true then
  (if (at_ s i=240/\at_ s (i+1)<144)\/(at_ s i=244/\144<=at_ s (i+1)) then 0 else 4)
 else 0
def code (s:List UInt8) (i:Nat):Nat :=
 if at_ s i<128 then at_ s i
 else if at_ s i<224 then at_ s i % 32 * 64+at_ s (i+1) % 64
 else if at_ s i<240 then at_ s i % 16 * 4096+at_ s (i+1) % 64 * 64+at_ s (i+2) % 64
 else at_ s i % 8 * 262144+at_ s (i+1) % 64 * 4096+at_ s (i+2) % 64 * 64+at_ s (i+3) % 64
theorem get_at (s:List UInt8) (k:Nat):((⟨⟨s⟩⟩:ByteArray).get! k).toNat=at_ s k:=by
 simp only[ByteArray.get!,at_,Eaj];by_cases h:k<s.length
 ·simp[h]
 ·simp[h];rfl
theorem J3 {s:List UInt8} {k:Nat}:ct s k=true ↔ k<s.length/\at_ s k / 64=2:=by
 simp only[ct,Ebb,decide_eq_true_eq];omega
theorem Jf4 (c:Nat):Utf8.valid (c:Int)=true ↔ c<55296\/(57344<=c/\c<=1114111):=by
 simp only[Utf8.valid,Ecf,Ebb,decide_eq_true_eq];omega
theorem Kkb (s:List UInt8) (i:Nat):dec s i=if rlen s i=0 then (65533,1) else (code s i,rlen s i):=by
 have hb:=Fr s i;unfold dec Utf8.decode;simp only[get_at,Nat.add_zero];have hsz:(⟨⟨s⟩⟩:ByteArray).size=s.length:=rfl;simp only[hsz,Ebb,beq_iff_eq,decide_eq_true_eq,Utf8.runeError,Jf4];unfold rlen code;simp only[J3];by_cases h1:at_ s i<128
 ·simp[h1]
 by_cases h2:at_ s i<224
 ·by_cases h2':i+1<s.length/\at_ s (i+1) / 64=2
  ·have e5:¬ 224<=at_ s i:=by omega
   have e6:¬ 240<=at_ s i:=by omega
   by_cases h194:194<=at_ s i
   ·have e1:at_ s i / 32=6:=by omega
    have e2:128<=at_ s i % 32 * 64+at_ s (i+1) % 64:=by omega
    simp[h1,h2,h2',h194,e1,e2]
   ·by_cases h192:192<=at_ s i
    ·have e1:at_ s i / 32=6:=by omega
     have e2:¬ 128<=at_ s i % 32 * 64+at_ s (i+1) % 64:=by omega
     simp[h1,h2,h2',h194,e1,e2,e5,e6]
    ·have e1:¬ at_ s i / 32=6:=by omega
     have e3:¬ at_ s i / 16=14:=by omega
     have e4:¬ at_ s i / 8=30:=by omega
     simp[h1,h2,h2',h194,e1,e3,e4,e5,e6]
  ·have e3:¬ at_ s i / 16=14:=by omega
   have e4:¬ at_ s i / 8=30:=by omega
   have e5:¬ 224<=at_ s i:=by omega
   have e6:¬ 240<=at_ s i:=by omega
   simp[h1,h2,h2',e3,e4,e5,e6]
 have e1:¬ at_ s i / 32=6:=by omega
 by_cases h3:at_ s i<240
 ·have e3:at_ s i / 16=14:=by omega
  have e4:¬ at_ s i / 8=30:=by omega
  have e5:224<=at_ s i:=by omega
  have e6:¬ 240<=at_ s i:=by omega
  by_cases c1:i+1<s.length/\at_ s (i+1) / 64=2
  ·by_cases c2:i+2<s.length/\at_ s (i+2) / 64=2
   ·by_cases hb2:(at_ s i=224/\at_ s (i+1)<160)\/(at_ s i=237/\160<=at_ s (i+1))
    ·have:¬ (2048<=at_ s i % 16 * 4096+at_ s (i+1) % 64 * 64+at_ s (i+2) % 64/\(at_ s i % 16 * 4096+at_ s (i+1) % 64 * 64+at_ s (i+2) % 64<55296\/57344<=at_ s i % 16 * 4096+at_ s (i+1) % 64 * 64+at_ s (i+2) % 64/\at_ s i % 16 * 4096+at_ s (i+1) % 64 * 64+at_ s (i+2) % 64<=1114111)):=by omega
     simp only[h1,h2,e1,e3,e5,h3,c1,c2,hb2,and_true,true_and,if_true,if_false,false_and,and_false,and_self,ge_iff_le,this]
    ·have:(2048<=at_ s i % 16 * 4096+at_ s (i+1) % 64 * 64+at_ s (i+2) % 64/\(at_ s i % 16 * 4096+at_ s (i+1) % 64 * 64+at_ s (i+2) % 64<55296\/57344<=at_ s i % 16 * 4096+at_ s (i+1) % 64 * 64+at_ s (i+2) % 64/\at_ s i % 16 * 4096+at_ s (i+1) % 64 * 64+at_ s (i+2) % 64<=1114111)):=by omega
     simp only[h1,h2,e1,e3,e5,h3,c1,c2,hb2,and_true,true_and,if_true,if_false,false_and,and_false,and_self,ge_iff_le,this];simp
   ·simp[h1,h2,e1,e3,e4,e5,e6,h3,c2]
  ·simp[h1,h2,e1,e3,e4,e5,e6,h3,c1]
 ·have e3:¬ at_ s i / 16=14:=by omega
  have e5:240<=at_ s i:=by omega
  by_cases h4:at_ s i<248
  ·have e4:at_ s i / 8=30:=by omega
   by_cases c1:i+1<s.length/\at_ s (i+1) / 64=2
   ·by_cases c2:i+2<s.length/\at_ s (i+2) / 64=2
    ·by_cases c3:i+3<s.length/\at_ s (i+3) / 64=2
     ·by_cases h5:at_ s i<245
      ·by_cases hb2:(at_ s i=240/\at_ s (i+1)<144)\/(at_ s i=244/\144<=at_ s (i+1))
       ·have:¬ (65536<=at_ s i % 8 * 262144+at_ s (i+1) % 64 * 4096+at_ s (i+2) % 64 * 64+at_ s (i+3) % 64/\(at_ s i % 8 * 262144+at_ s (i+1) % 64 * 4096+at_ s (i+2) % 64 * 64+at_ s (i+3) % 64<55296\/57344<=at_ s i % 8 * 262144+at_ s (i+1) % 64 * 4096+at_ s (i+2) % 64 * 64+at_ s (i+3) % 64/\at_ s i % 8 * 262144+at_ s (i+1) % 64 * 4096+at_ s (i+2) % 64 * 64+at_ s (i+3) % 64<=1114111)):=by omega
        simp only[h1,h2,h3,e1,e3,e4,e5,h5,c1,c2,c3,hb2,and_true,true_and,if_true,if_false,false_and,and_false,and_self,ge_iff_le,this]
       ·have:(65536<=at_ s i % 8 * 262144+at_ s (i+1) % 64 * 4096+at_ s (i+2) % 64 * 64+at_ s (i+3) % 64/\(at_ s i % 8 * 262144+at_ s (i+1) % 64 * 4096+at_ s (i+2) % 64 * 64+at_ s (i+3) % 64<55296\/57344<=at_ s i % 8 * 262144+at_ s (i+1) % 64 * 4096+at_ s (i+2) % 64 * 64+at_ s (i+3) % 64/\at_ s i % 8 * 262144+at_ s (i+1) % 64 * 4096+at_ s (i+2) % 64 * 64+at_ s (i+3) % 64<=1114111)):=by omega
        simp only[h1,h2,h3,e1,e3,e4,e5,h5,c1,c2,c3,hb2,and_true,true_and,if_true,if_false,false_and,and_false,and_self,ge_iff_le,this];simp
      ·have:¬ (65536<=at_ s i % 8 * 262144+at_ s (i+1) % 64 * 4096+at_ s (i+2) % 64 * 64+at_ s (i+3) % 64/\(at_ s i % 8 * 262144+at_ s (i+1) % 64 * 4096+at_ s (i+2) % 64 * 64+at_ s (i+3) % 64<55296\/57344<=at_ s i % 8 * 262144+at_ s (i+1) % 64 * 4096+at_ s (i+2) % 64 * 64+at_ s (i+3) % 64/\at_ s i % 8 * 262144+at_ s (i+1) % 64 * 4096+at_ s (i+2) % 64 * 64+at_ s (i+3) % 64<=1114111)):=by omega
       simp only[h1,h2,h3,e1,e3,e4,e5,h5,c1,c2,c3,and_true,true_and,if_true,if_false,false_and,and_false,and_self,ge_iff_le,this]
     ·simp[h1,h2,h3,e1,e3,e4,e5,c3]
    ·simp[h1,h2,h3,e1,e3,e4,e5,c2]
   ·simp[h1,h2,h3,e1,e3,e4,e5,c1]
  ·have e4:¬ at_ s i / 8=30:=by omega
   have h5:¬ at_ s i<245:=by omega
   simp[h1,h2,h3,e1,e3,e4,e5,h5]
theorem Ko (s:List UInt8) (i k:Nat):at_ (s.drop i) k=at_ s (i+k):=by
 simp[at_,Eaj]
theorem Gu (c:UInt8) (s:List UInt8):at_ (c :: s) 0=c.toNat:=rfl
theorem Jk0 (c:UInt8) (s:List UInt8) (k:Nat):at_ (c :: s) (k+1)=at_ s k:=rfl
theorem at_out {s:List UInt8} {k:Nat} (h:s.length<=k):at_ s k=0:=by
 simp[at_,Eaj,Edd h]
theorem Jov (s:List UInt8) (i k:Nat):ct (s.drop i) k=ct s (i+k):=by
 have:decide (k<(s.drop i).length)=decide (i+k<s.length):=by rw[Ea5];congr 1;apply propext;omega
 simp only[ct,Ko,this]
theorem Ny (s:List UInt8) (i k:Nat):rlen (s.drop i) k=rlen s (i+k):=by
 simp only[rlen,Ko,Jov,<- Eb2]
theorem Jhn (s:List UInt8) (i k:Nat):code (s.drop i) k=code s (i+k):=by
 simp only[code,Ko,<- Eb2]
theorem Qy (s:List UInt8) (i k:Nat):dec (s.drop i) k=dec s (i+k):=by
 simp only[Kkb,Ny,Jhn]
theorem M4 (s:List UInt8) (i:Nat) (h:i<s.length):i+rlen s i<=s.length:=by
 unfold rlen;simp only[J3]
 repeat' split
 all_goals omega
theorem Qv (s:List UInt8) (i:Nat):rlen s i<=4:=by
 unfold rlen
 repeat' split
 all_goals omega
theorem Pz (s:List UInt8) (k:Nat):u8of (at_ s k)=s.getD k 0:=by
 apply UInt8.toNat_inj.1;have:=Fr s k;have h:=B8 (c:=(at_ s k:Int)) omg omg;simp only[at_] at h ⊢;omega
theorem Je8 {s:List UInt8} {i:Nat} (n:Nat) (h:i+n<=s.length):(s.drop i).take n=(List.range n).map fun k=>s.getD (i+k) 0:=by
 apply Ech;intro j;rw[Eas,Eam];by_cases hj:j<n
 ·have hl:i+j<s.length:=by omega
  simp[hj,hl]
 ·simp[hj]
theorem Fd (s:List UInt8) (i:Nat):rlen s i=0\/(rlen s i=1/\at_ s i<128) \/
  (rlen s i=2/\194<=at_ s i/\at_ s i<224/\at_ s (i+1) / 64=2) \/
  (rlen s i=3/\224<=at_ s i/\at_ s i<240/\at_ s (i+1) / 64=2/\at_ s (i+2) / 64=2/\¬ (at_ s i=224/\at_ s (i+1)<160)/\¬ (at_ s i=237/\160<=at_ s (i+1))) \/
  (rlen s i=4/\240<=at_ s i/\at_ s i<245/\at_ s (i+1) / 64=2/\at_ s (i+2) / 64=2/\at_ s (i+3) / 64=2/\¬ (at_ s i=240/\at_ s (i+1)<144)/\¬ (at_ s i=244/\144<=at_ s (i+1))):=by
 unfold rlen;simp only[J3]
 repeat' split
 all_goals omega
theorem H5 {s:List UInt8} {i:Nat} (h:rlen s i≠0) (hi:i<s.length):utf (code s i)=(s.drop i).take (rlen s i):=by
 have hle:=M4 s i hi;have h0:=Fr s i;have h1:=Fr s (i+1);have h2:=Fr s (i+2);have h3:=Fr s (i+3);rw[Je8 _ hle];rcases Fd s i with e | ⟨e,g1⟩ | ⟨e,g1,g2,g3⟩ | ⟨e,g1,g2,g3,g4,g5,g6⟩ | ⟨e,g1,g2,g3,g4,g5,g6,g7⟩
 ·exact absurd e h
 ·have ec:code s i=at_ s i:=by unfold code;rw[if_pos g1]
  rw[e,ec,utf,Nb omg];simp[Edm,Pz]
 ·have ec:code s i=at_ s i % 32 * 64+at_ s (i+1) % 64:=by unfold code;rw[if_neg omg,if_pos omg]
  have l:utfC (code s i)=[(at_ s i:Int),(at_ s (i+1):Int)]:=by
   rw[Oc (by rw[ec];omega),ec];congr 1
   ·omega
   ·congr 1;omega
  rw[e,utf,l];simp[Edm,Pz]
 ·have ec:code s i=at_ s i % 16 * 4096+at_ s (i+1) % 64 * 64+at_ s (i+2) % 64:=by unfold code;rw[if_neg omg,if_neg omg,if_pos omg]
  have l:utfC (code s i)=[(at_ s i:Int),(at_ s (i+1):Int),(at_ s (i+2):Int)]:=by
   rw[Nd (by rw[ec];omega),ec];congr 1
   ·omega
   ·congr 1
    ·omega
    ·congr 1;omega
  rw[e,utf,l];simp[Edm,Pz]
 ·have ec:code s i=at_ s i % 8 * 262144+at_ s (i+1) % 64 * 4096+at_ s (i+2) % 64 * 64+at_ s (i+3) % 64:=by unfold code;rw[if_neg omg,if_neg omg,if_neg omg]
  have l:utfC (code s i)=[(at_ s i:Int),(at_ s (i+1):Int),(at_ s (i+2):Int),(at_ s (i+3):Int)]:=by
   rw[Nk (by rw[ec];omega),ec];congr 1
   ·omega
   ·congr 1
    ·omega
    ·congr 1
     ·omega
     ·congr 1;omega
  rw[e,utf,l];simp[Edm,Pz]
def Cy (r:Int):Prop:=(0<=r/\r<55296)\/(57344<=r/\r<=1114111)
theorem Fm {s:List UInt8} {i:Nat} (h:rlen s i≠0):Cy (code s i):=by
 have h0:=Fr s i;unfold Cy;rcases Fd s i with e | ⟨e,g1⟩ | ⟨e,g1,g2,g3⟩ | ⟨e,g1,g2,g3,g4,g5,g6⟩ | ⟨e,g1,g2,g3,g4,g5,g6,g7⟩
 ·exact absurd e h
 ·have ec:code s i=at_ s i:=by unfold code;rw[if_pos g1]
  omega
 ·have ec:code s i=at_ s i % 32 * 64+at_ s (i+1) % 64:=by unfold code;rw[if_neg omg,if_pos omg]
  omega
 ·have ec:code s i=at_ s i % 16 * 4096+at_ s (i+1) % 64 * 64+at_ s (i+2) % 64:=by unfold code;rw[if_neg omg,if_neg omg,if_pos omg]
  omega
 ·have ec:code s i=at_ s i % 8 * 262144+at_ s (i+1) % 64 * 4096+at_ s (i+2) % 64 * 64+at_ s (i+3) % 64:=by unfold code;rw[if_neg omg,if_neg omg,if_neg omg]
  omega
theorem Rp {r:Int} (h:Cy r) (t:List UInt8):rlen (utf r ++ t) 0=(utf r).length/\(code (utf r ++ t) 0:Int)=r:=by
 unfold Cy at h;by_cases c1:r<128
 ·have e:=Nb (r:=r) omg;have a0:=B8 (c:=r) omg omg;simp only[utf,e,Eaq,Eca,Ebh,List.nil_append,Ead,Ea8];have e0:at_ (u8of r :: t) 0=(u8of r).toNat:=rfl;unfold rlen code;rw[if_pos (by rw[e0];omega),if_pos (by rw[e0];omega),e0];exact ⟨rfl,a0⟩
 by_cases c2:r<2048
 ·have e:=Oc (r:=r) omg;have a0:=B8 (c:=192+r / 64) omg omg;have a1:=B8 (c:=128+r % 64) omg omg;simp only[utf,e,Eaq,Eca,Ebh,List.nil_append,Ead,Ea8];generalize hs:u8of (192+r / 64) :: u8of (128+r % 64) :: t=s;have e0:at_ s 0=(u8of (192+r / 64)).toNat:=by rw[<- hs];rfl
  have e1:at_ s 1=(u8of (128+r % 64)).toNat:=by rw[<- hs];rfl
  have hl:1<s.length:=by rw[<- hs];simp
  unfold rlen code;simp only[J3,Ebo];rw[if_neg omg,if_pos omg,if_neg omg,if_pos omg];exact ⟨rfl,omg⟩
 by_cases c3:r<65536
 ·have e:=Nd (r:=r) omg;have a0:=B8 (c:=224+r / 4096) omg omg;have a1:=B8 (c:=128+r / 64 % 64) omg omg;have a2:=B8 (c:=128+r % 64) omg omg;simp only[utf,e,Eaq,Eca,Ebh,List.nil_append,Ead,Ea8];generalize hs:u8of (224+r / 4096) :: u8of (128+r / 64 % 64) :: u8of (128+r % 64) :: t=s;have e0:at_ s 0=(u8of (224+r / 4096)).toNat:=by rw[<- hs];rfl
  have e1:at_ s 1=(u8of (128+r / 64 % 64)).toNat:=by rw[<- hs];rfl
  have e2:at_ s 2=(u8of (128+r % 64)).toNat:=by rw[<- hs];rfl
  have hl:2<s.length:=by rw[<- hs];simp
  unfold rlen code;simp only[J3,Ebo];rw[if_neg omg,if_neg omg,if_pos omg,if_neg omg,if_neg omg,if_neg omg,if_pos omg];exact ⟨rfl,omg⟩
 ·have e:=Nk (r:=r) omg;have a0:=B8 (c:=240+r / 262144) omg omg;have a1:=B8 (c:=128+r / 4096 % 64) omg omg;have a2:=B8 (c:=128+r / 64 % 64) omg omg;have a3:=B8 (c:=128+r % 64) omg omg;simp only[utf,e,Eaq,Eca,Ebh,List.nil_append,Ead,Ea8];generalize hs:u8of (240+r / 262144) :: u8of (128+r / 4096 % 64) :: u8of (128+r / 64 % 64) :: u8of (128+r % 64) :: t=s;have e0:at_ s 0=(u8of (240+r / 262144)).toNat:=by rw[<- hs];rfl
  have e1:at_ s 1=(u8of (128+r / 4096 % 64)).toNat:=by rw[<- hs];rfl
  have e2:at_ s 2=(u8of (128+r / 64 % 64)).toNat:=by rw[<- hs];rfl
  have e3:at_ s 3=(u8of (128+r % 64)).toNat:=by rw[<- hs];rfl
  have hl:3<s.length:=by rw[<- hs];simp
  unfold rlen code;simp only[J3,Ebo];rw[if_neg omg,if_neg omg,if_neg omg,if_pos omg,if_neg omg,if_neg omg,if_neg omg,if_neg omg];exact ⟨rfl,omg⟩
end Go.LX
namespace Go.LX
open Go Go.RowKit Go.Proofs Go.Proofs.Tryz
attribute [local irreducible] Al SWP Bi
theorem S6 (fn s:List UInt8) (b c:Int) (hs:s.length<=1000000):Det cx 219 [.p (.str fn),.p (.str s),.p (.int .i64 b),.p (.int .i64 c),.p (.ifi 236 .i64 2)] [] (.p .ifc) []:=by
 refine Jw9 (enters_of func219 kr rfl) fun β Im w vs hg hf=>?_
 have hl:vs.length=5:=by simpa using hf.size
 match vs,hl with
 | [v1,v2,v3,v4,v5],_ =>
  have e1:=Ks (hf.tmps 0 _ rfl);have e2:=Ks (hf.tmps 1 _ rfl);have e3:=Mz (hf.tmps 2 _ rfl);have e4:=Mz (hf.tmps 3 _ rfl);have e5:=Jn2 (hf.tmps 4 _ rfl);simp[Array.getD] at e1 e2 e3 e4 e5;subst e1 e2 e3 e4 e5;obtain ⟨te,pe,he⟩:=(Jbj hg).syn;exact (Tryz.strconv_toError_syntax ⟨⟨fn⟩⟩ ⟨⟨s⟩⟩ b c _ w (Nat.le_trans hs de) he (.inr ⟨te,pe,rfl⟩)).mono fun e w' ⟨N,he,_,_,hb⟩=>⟨⟨_,he,fun _ _ _=>.ifc _ _⟩,hb⟩
def Vk (o:Option Nat):L:=match o with
 | some n=>.tup [.int .u64 n,.nifc]
 | none=>.tup [.int .u64 0,.ifc]
theorem Zn (s:List UInt8) (hs:s.length=4):Det cx 264 [.p (.str s),.p (.int .i64 16),.p (.int .i64 16)] [] (Vk (hexN s 0)) []:=by
 cases h:hexN s 0 with
 | some n =>
  have hc:=Kf s hs;rw[h] at hc;simp only[Jbb] at hc;(refine bgo func264 ?_;simp only[go_sem,simprocAttr]);(repeat'(first|((refine Jqa hc ?_);simp only[go_sem,simprocAttr])|fail));rfl
 | none =>
  have hc:=Kf s hs;rw[h] at hc;simp only[Jbb] at hc;(refine bgo func264 ?_;simp only[go_sem,simprocAttr]);(repeat'(first|((first|refine Jqa hc ?_|(refine Jqa (S6 _ s _ _ omg) ?_));simp only[go_sem,simprocAttr])|fail));rfl
theorem Fu (s:List UInt8) (c:Int):Det cx 190 [.p (.str s),.p (.int .u8 c)] [] (.p (.int .i64 (Lib.indexByte s c.toNat.toUInt8))) []:=by
 refine Jr1 (v:=.int .i64 (Lib.indexByte s c.toNat.toUInt8)) (enters_of func190 kr rfl) rfl (fun _ _ _=>.int _ _) fun β Im w vs hg hf=>?_
 obtain ⟨v,u,rfl,hv,hu⟩:=fit2 hf;have:=Ks hv;subst this;have:=Mz hu;subst this;exact (Tryz.strings_IndexByte ⟨⟨s⟩⟩ c w).mono fun e w' ⟨he,hw⟩=>⟨he,hw ▸ Below.refl _ _⟩
def K3 (s:List UInt8):Nat×Nat:=if s.length=0 then (65533,0) else dec s 0
theorem C4 (s:List UInt8):Det cx 199 [.p (.str s)] [] (.tup [.int .i32 (K3 s).1,.int .i64 (K3 s).2]) []:=by
 refine Jr1 (v:=.tuple #[.int .i32 (K3 s).1,.int .i64 (K3 s).2]) (enters_of func199 kr rfl) rfl (fun β w Im=>⟨[.int .i32 (K3 s).1,.int .i64 (K3 s).2],rfl,rfl,fun i x p hi hp=>?_⟩) fun β Im w vs hg hf=>?_
 ·rcases i with _ | _ | i<;>simp at hi hp
  ·subst hi hp;exact .int _ _
  ·subst hi hp;exact .int _ _
 ·obtain ⟨v,rfl,hv⟩:=fit1 hf;have:=Ks hv;subst this;exact (Tryz.utf8_DecodeRuneInString ⟨⟨s⟩⟩ w (Jbj hg).tabs).mono fun e w' ⟨he,hb⟩=>⟨he,hb⟩
theorem Jh (s p:List UInt8) (hs:s.length<=1000000) (hp:p.length<=1000000):Det cx 189 [.p (.str s),.p (.str p)] [] (.p (.bool (s.take p.length == p))) []:=by
 (refine bgo func189 ?_;simp only[go_sem,simprocAttr]);(repeat'(apply iteI<;>intro h))
 ·exact h
 ·symm;rw[beq_eq_false_iff_ne];intro e;have:=congrArg List.length e;simp at this;omega
theorem Bj (s p:List UInt8) (hs:s.length<=1000000) (hp:p.length<=1000000):Det cx 148 [.p (.str s),.p (.str p)] [] (.p (.bool (s.take p.length == p))) []:=by
 (refine bgo func148 ?_;simp only[go_sem,simprocAttr]);(repeat'(first|((refine Jqa (Jh s p hs hp) ?_);simp only[go_sem,simprocAttr])|fail))
theorem R8 (r:Int):(Utf8.encode r).data.toList=utf r:=by
 have ho:∀ n:Nat,u8of (n:Int)=UInt8.ofNat n:=fun n=>by
  unfold u8of;apply UInt8.toNat_inj.1;simp;omega
 unfold Utf8.encode;simp only[Utf8.valid,Ecf,Ebb,decide_eq_true_eq,Utf8.runeError];by_cases hv:(0<=r/\r<55296)\/(57344<=r/\r<=1114111)
 ·obtain ⟨n,rfl⟩:=Ecr (a:=r) omg;rw[if_pos hv];simp only[Int.toNat_natCast];by_cases c1:n<128
  ·rw[if_pos c1,utf,Nb omg];simp[ho]
  by_cases c2:n<2048
  ·rw[if_neg c1,if_pos c2,utf,Oc omg];simp only[Eaq,Eca];rw[show (192:Int)+(n:Int) / 64=((192+n / 64:Nat):Int) by omega,show (128:Int)+(n:Int) % 64=((128+n % 64:Nat):Int) by omega,ho,ho]
  by_cases c3:n<65536
  ·rw[if_neg c1,if_neg c2,if_pos c3,utf,Nd omg];simp only[Eaq,Eca];rw[show (224:Int)+(n:Int) / 4096=((224+n / 4096:Nat):Int) by omega,show (128:Int)+(n:Int) / 64 % 64=((128+n / 64 % 64:Nat):Int) by omega,show (128:Int)+(n:Int) % 64=((128+n % 64:Nat):Int) by omega,ho,ho,ho]
  ·rw[if_neg c1,if_neg c2,if_neg c3,utf,Nk omg];simp only[Eaq,Eca];rw[show (240:Int)+(n:Int) / 262144=((240+n / 262144:Nat):Int) by omega,show (128:Int)+(n:Int) / 4096 % 64=((128+n / 4096 % 64:Nat):Int) by omega,show (128:Int)+(n:Int) / 64 % 64=((128+n / 64 % 64:Nat):Int) by omega,show (128:Int)+(n:Int) % 64=((128+n % 64:Nat):Int) by omega,ho,ho,ho,ho]
 ·rw[if_neg hv,utf,Wq omg];rfl
def Eg:List UInt8:=[43,45,95]
theorem Jhu (k:Nat):at_ Eg k<=95:=by
 match k with
 | 0=>decide
 | 1=>decide
 | 2=>decide
 | k+3=>rw[at_out (by simp[Eg])];decide
theorem Jko {r:Int} (h:128<=r):2<=(utf r).length/\128<=at_ (utf r) ((utf r).length - 1):=by
 have key:∀ l:List Int,utfC r=l->(∀ c∈l,128<=c/\c<256)->l≠[]->128<=at_ (utf r) ((utf r).length - 1):=by
  intro l e hl hne;rw[utf,e];have hlen:(l.map u8of).length - 1<l.length:=by
   have:=Ecj.2 hne;simp;omega
  rw[Ql (by simpa using hlen)];simp only[List.getElem_map];have:=hl _ (Eb1 hlen);have:=B8 (c:=l[(l.map u8of).length - 1]) omg omg;omega
 unfold utf at *
 by_cases c2:r<2048
 ·have e:=Oc (r:=r) omg;refine ⟨by rw[e];simp,key _ e ?_ sm⟩;simp;omega
 by_cases c3:(2048<=r/\r<55296)\/(57343<r/\r<65536)
 ·have e:=Nd (r:=r) omg;refine ⟨by rw[e];simp,key _ e ?_ sm⟩;simp;omega
 by_cases c4:65536<=r/\r<=1114111
 ·have e:=Nk (r:=r) omg;refine ⟨by rw[e];simp,key _ e ?_ sm⟩;simp;omega
 ·have e:=Wq (r:=r) omg;refine ⟨by rw[e];simp,key _ e ?_ sm⟩;simp
theorem indexByte_none {l:List UInt8} {c:Int} (h0:128<=c) (h1:c<256) (h:∀ x∈l,x.toNat<128):Lib.indexByte l c.toNat.toUInt8 = -1:=by
 have hc:l.contains c.toNat.toUInt8=false:=by
  rw[List.contains_eq_mem,decide_eq_false_iff_not];intro hm;have:=h _ hm;simp at this;omega
 have e:=Lib.contains_iff_indexByte l c.toNat.toUInt8;rw[hc] at e;have hlt:¬ 0<=Lib.indexByte l c.toNat.toUInt8:=by simpa using e.symm
 have:=Lib.indexByte_ge l c.toNat.toUInt8;omega
def irv (r:Int):Int:=if r<128 then Lib.indexByte Eg r.toNat.toUInt8 else -1
theorem Ha (r:Int) (h:Cy r):Det cx 258 [.p (.int .i32 r)] [] (.p (.bool true)) []:=by
 unfold Cy at h;(refine bgo func258 ?_;simp only[go_sem,simprocAttr]);(repeat'(first|(apply iteI<;>intro h)|(exact True.intro)|(exfalso;omega)))
theorem Ey:Eg.length=3:=rfl
theorem pd0:Utf8.decode ⟨⟨Eg⟩⟩ 0=(43,1):=by decide
theorem pd1:Utf8.decode ⟨⟨Eg⟩⟩ 1=(45,1):=by decide
theorem pd2:Utf8.decode ⟨⟨Eg⟩⟩ 2=(95,1):=by decide
theorem Ps (r:Int) (hr:Cy r) (h1:128<=r) (h2:r≠65533):Det cx 235 [.p (.str Eg),.p (.int .i32 r)] [] (.p (.int .i64 (-1))) []:=by
 have h':=hr;unfold Cy at h';obtain ⟨g1,g2⟩:=Jko (r:=r) h1;have g3:=Fr (utf r) ((utf r).length - 1);have g4:=Od r;have g5:=Jhu ((utf r).length - 1);obtain ⟨k,hk⟩:∃ k,(utf r).length=k+1:=⟨(utf r).length - 1,omg⟩
 rw[hk,Nat.add_sub_cancel] at g2 g3 g5;have hw:IntKind.i64.wrap (((k+1:Nat):Int) - 1)=(k:Int):=by rw[Aa omg omg];omega
 have hw2:IntKind.i64.wrap ((k:Int)+1)=((k+1:Nat):Int):=by rw[Aa omg omg];omega
 have hib:Lib.indexByte (Eg.drop (k+1)) (at_ (utf r) k:Int).toNat.toUInt8 = -1:=indexByte_none omg omg fun x hx=>by
  exact (by decide:∀ x∈Eg,x.toNat<128) x (Ea6 hx)
 (refine bgo func235 ?_;simp only[go_sem,simprocAttr]);(repeat'(first|(apply iteI<;>intro h)|((refine Jqa (Ha r hr) ?_);simp only[go_sem,simprocAttr,R8,hk,hw])|(exfalso;omega)));(refine SWP.rounds 2 ?_;refine Jss hm ?_;simp only[go_sem,simprocAttr,Ey]);(repeat'(first|(apply iteI<;>intro h)|refine Jqj ?_|((first|refine Jqm ?_|(refine Jqb (Fu _ _) ?_));simp only[go_sem,simprocAttr,Ey,hk,hw2])|(exact True.intro)|(exfalso;omega)))
 ·simp only[Int.toNat_natCast] at hib;omega
theorem Oy (r:Int) (hr:Cy r):Det cx 235 [.p (.str Eg),.p (.int .i32 r)] [] (.p (.int .i64 (irv r))) []:=by
 have h':=hr;unfold Cy at h';by_cases hb:128<=r/\r≠65533
 ·rw[show irv r = -1 by simp only[irv,if_neg (show ¬ r<128 by omega)]];exact Ps r hr hb.1 hb.2
 (refine bgo func235 ?_;simp only[go_sem,simprocAttr]);(repeat'(first|(apply iteI<;>intro h)|((first|(refine Jqa (Ha r hr) ?_)|(refine Jqa (Fu _ _) ?_));simp only[go_sem,simprocAttr])|(exfalso;omega)))
 ·rw[Ab omg omg];simp only[irv,if_pos (show r<128 by omega)]
 ·(refine SWP.rounds 4 ?_;refine Jss hm ?_;simp only[go_sem,simprocAttr,pd0,Ey]);(repeat'(first|(refine Jss hm ?_;simp only[go_sem,simprocAttr,pd1,pd2,Ey])|fail));simp only[irv,if_neg (show ¬ r<128 by omega)]
 all_goals (exfalso;omega)
def iaF (s:List UInt8):Nat->Nat->Int
 | 0,_=>-1
 | f+1,i=>if i<s.length then (if 0<=irv (dec s i).1 then (i:Int) else iaF s f (i+(dec s i).2)) else -1
theorem Jcz (n:Int) (hn:n<=8):Det cx 277 [.p (.int .i64 n)] [] (.p (.bool false)) []:=by
 (refine bgo func277 ?_;simp only[go_sem,simprocAttr]);exact hn
theorem Sf (s:List UInt8) (i:Nat):Cy (dec s i).1:=by
 rw[Kkb];split
 ·right;decide
 ·rename_i h;exact Fm h
theorem Jm6 (s:List UInt8) (i:Nat):1<=(dec s i).2:=by
 rw[Kkb];split
 ·decide
 ·simp only;omega
theorem H6 (s:List UInt8) (i:Nat):Utf8.decode ⟨⟨s⟩⟩ i=dec s i:=rfl
theorem Ro (s:List UInt8) (hs:s.length=4):Det cx 272 [.p (.str s),.p (.str Eg)] [] (.p (.int .i64 (iaF s 5 0))) []:=by
 (refine bgo func272 ?_;simp only[go_sem,simprocAttr,Ey]);(repeat'(first|((refine Jqa (Jcz _ omg) ?_);simp only[go_sem,simprocAttr])|fail));refine SWP.loop (fun x:Nat×Nat=>⟨Ba 55 [(0,.p (.str s)),(1,.p (.str Eg)),(45,.ptr 45 0 0)],[(45,.obj (.sit s x.1))]⟩) (fun x=>5<=x.1+x.2/\iaF s x.2 x.1=iaF s 5 0) (fun x=>4 - x.1) (0,5) Jqc ⟨omg,rfl⟩ ?_;rintro ⟨i,f⟩ ⟨h1,h2⟩;simp only at h1 h2;have hp:=Jm6 s i;(refine lws ?_;simp only[go_sem,simprocAttr,H6]);(repeat'(first|(apply iteI<;>intro h)|((refine Jqa (Oy _ (Sf s i)) ?_);simp only[go_sem,simprocAttr])|fail))
 ·obtain ⟨g,rfl⟩:∃ g,f=g+1:=⟨f - 1,omg⟩
  rw[<- h2,iaF,if_pos omg,if_pos (by assumption)]
 ·obtain ⟨g,rfl⟩:∃ g,f=g+1:=⟨f - 1,omg⟩
  refine ⟨(i+(dec s i).2,g),⟨by simp only;omega,?_⟩,by simp only;omega,Jqc⟩;simp only;rw[<- h2,show iaF s (g+1) i=iaF s g (i+(dec s i).2) from by rw[iaF,if_pos omg,if_neg (by assumption)]]
 ·rw[<- h2];cases f with
  | zero=>rfl
  | succ g=>rw[iaF,if_neg omg]
theorem Sq (s:List UInt8) (hs:s.length=4):Det cx 263 [.p (.str s),.p (.str Eg)] [] (.p (.bool (decide (0<=iaF s 5 0)))) []:=by
 (refine bgo func263 ?_;simp only[go_sem,simprocAttr]);(repeat'(first|((refine Jqa (Ro s hs) ?_);simp only[go_sem,simprocAttr])|fail))
theorem Jih {r:Int} (h0:0<=r) (h:0<=irv r):r=43\/r=45\/r=95:=by
 unfold irv at h;split at h
 ·have e:=Lib.contains_iff_indexByte Eg r.toNat.toUInt8;rw[decide_eq_true h,List.contains_eq_mem,decide_eq_true_eq] at e;simp only[Eg,Eak,Ebg,or_false] at e;rcases e with e | e | e
  ·have:=congrArg UInt8.toNat e;simp at this;omega
  ·have:=congrArg UInt8.toNat e;simp at this;omega
  ·have:=congrArg UInt8.toNat e;simp at this;omega
 ·omega
theorem Jhs {s:List UInt8} {i:Nat} (h:(dec s i).1<128):at_ s i=(dec s i).1:=by
 have h0:=Fr s i;rw[Kkb] at h ⊢;split at h
 ·simp at h
 ·rename_i hr;rw[if_neg hr];simp only at h ⊢;rcases Fd s i with e | ⟨e,g1⟩ | ⟨e,g1,g2,g3⟩ | ⟨e,g1,g2,g3,g4,g5,g6⟩ | ⟨e,g1,g2,g3,g4,g5,g6,g7⟩
  ·exact absurd e hr
  ·unfold code;rw[if_pos g1]
  ·have ec:code s i=at_ s i % 32 * 64+at_ s (i+1) % 64:=by unfold code;rw[if_neg omg,if_pos omg]
   omega
  ·have ec:code s i=at_ s i % 16 * 4096+at_ s (i+1) % 64 * 64+at_ s (i+2) % 64:=by unfold code;rw[if_neg omg,if_neg omg,if_pos omg]
   omega
  ·have ec:code s i=at_ s i % 8 * 262144+at_ s (i+1) % 64 * 4096+at_ s (i+2) % 64 * 64+at_ s (i+3) % 64:=by unfold code;rw[if_neg omg,if_neg omg,if_neg omg]
   omega
theorem Y5 (s:List UInt8):∀ (f i:Nat),0<=iaF s f i->∃ k,k<s.length/\hexv (at_ s k)=none
 | 0,i,h=>by simp[iaF] at h
 | f+1,i,h=>by
  simp only[iaF] at h;split at h
  ·rename_i hi;split at h
   ·rename_i hm;have h1:=Jih omg hm;have h2:=Jhs (s:=s) (i:=i) omg;refine ⟨i,hi,?_⟩;unfold hexv;rw[if_neg omg,if_neg omg,if_neg omg]
   ·exact Y5 s f _ h
  ·omega
theorem S4:∀ (s:List UInt8) (a k:Nat),k<s.length->hexv (at_ s k)=none->hexN s a=none
 | [],a,k,h,_=>by simp at h
 | c :: s,a,0,h,hn=>by
  simp only[hexN];rw[show hexv c.toNat=none from hn]
 | c :: s,a,k+1,h,hn=>by
  simp only[hexN];split
  ·exact S4 s _ k (by simpa using h) hn
  ·rfl
theorem We:∀ (s:List UInt8) (a n:Nat),hexN s a=some n->n<(a+1) * 16 ^ s.length
 | [],a,n,h=>by simp[hexN] at h;subst h;simp
 | c :: s,a,n,h=>by
  simp only[hexN] at h;split at h
  ·rename_i d hd;have hd':d<16:=by
    unfold hexv at hd;split at hd
    ·cases hd;omega
    split at hd
    ·cases hd;omega
    split at hd
    ·cases hd;omega
    ·cases hd
   have:=We s _ n h;refine Ebe this ?_;simp only[Ead,Nat.pow_succ];rw[Ecg (16 ^ s.length) 16,<- Eb6];exact Ea3 _ omg
  ·cases h
end Go.LX
namespace Go.LX
open Go
def H9 (K:PV->Prop):Prop:=∀ a b,K a->K b->∃ t,Lc a b=some t/\(t=true ↔ a=b)
def Z5 (q:IntKind) (k:PV):Prop:=∃ n,k=.int q n
def isStrKey (k:PV):Prop:=∃ s,k=.str s
theorem P1 (q:IntKind):H9 (Z5 q):=by
 rintro a b ⟨x,rfl⟩ ⟨y,rfl⟩;exact ⟨x == y,by simp[Lc],by simp⟩
theorem J5w:H9 isStrKey:=by
 rintro a b ⟨x,rfl⟩ ⟨y,rfl⟩;exact ⟨x == y,by simp[Lc],by simp⟩
structure MapF (K:PV->Prop) (es:List (PV×PV)):Prop where
 keys:∀ p∈es,K p.1
 nodup:(es.map (·.1)).Nodup
theorem MapF.nil {K:PV->Prop}:MapF K []:=⟨fun p h=>by simp at h,by simp⟩
variable {K:PV->Prop} {es:List (PV×PV)}
theorem MapF.tail {p:PV×PV} (h:MapF K (p :: es)):MapF K es:=⟨fun q hq=>h.keys q (Eai _ hq),(Eb5.1 h.nodup).2⟩
theorem MapF.one (h:MapF K es) {k v w:PV} (h1:(k,v)∈es) (h2:(k,w)∈es):v=w:=by
 induction es with
 | nil=>simp at h1
 | cons p es ih =>
  have hn:=Eb5.1 h.nodup;have key:∀ {u:PV},(k,u)∈es->p.1≠k:=fun {u} hu e=>hn.1 (by show p.1∈_;rw[e];exact List.mem_map_of_mem (f:=(·.1)) hu)
  rcases Eak.1 h1 with h1 | h1
  ·rcases Eak.1 h2 with h2 | h2
   ·rw[<- h1] at h2;exact (Edk h2).2.symm
   ·exact absurd (by rw[<- h1]) (key h2)
  ·rcases Eak.1 h2 with h2 | h2
   ·exact absurd (by rw[<- h2]) (key h1)
   ·exact ih h.tail h1 h2
theorem Gk (hK:H9 K) {k:PV} (hk:K k):∀ (es:List (PV×PV)) (i:Nat),MapF K es ->
  (Cl k es i=some none/\∀ v,(k,v) ∉ es)\/∃ j v,Cl k es i=some (some (i+j,v))/\es[j]? = some (k,v)
 | [],i,_=>.inl ⟨rfl,fun v h=>by simp at h⟩
 | (x,u) :: es,i,h=>by
  obtain ⟨t,h1,h2⟩:=hK k x hk (h.keys (x,u) Eaf);cases t with
  | true =>
   have e:k=x:=h2.1 rfl;subst e;exact .inr ⟨0,u,by simp[Cl,h1],rfl⟩
  | false =>
   have hne:k≠x:=fun e=>by have:=h2.2 e;cases this
   rcases Gk hK hk es (i+1) h.tail with ⟨g1,g2⟩ | ⟨j,v,g1,g2⟩
   ·refine .inl ⟨by simp[Cl,h1,g1],fun v hv=>?_⟩;rcases Eak.1 hv with hv | hv
    ·exact hne (Edk hv).1
    ·exact g2 v hv
   ·exact .inr ⟨j+1,v,by simp[Cl,h1,g1];omega,by simpa using g2⟩
theorem Jkm (hK:H9 K) {k v:PV} (h:MapF K es) (hv:(k,v)∈es):∃ j,Cl k es 0=some (some (j,v)):=by
 have hk:=h.keys _ hv;rcases Gk hK hk es 0 h with ⟨_,g⟩ | ⟨j,u,g1,g2⟩
 ·exact absurd hv (g v)
 ·have:=h.one hv (Eag g2);subst this;exact ⟨0+j,g1⟩
theorem Jep (hK:H9 K) {k:PV} (hk:K k) (h:MapF K es) (hv:∀ v,(k,v) ∉ es):Cl k es 0=some none:=by
 rcases Gk hK hk es 0 h with ⟨g,_⟩ | ⟨j,u,g1,g2⟩
 ·exact g
 ·exact absurd (Eag g2) (hv u)
theorem Jmm (h:MapF K es) {i j:Nat} {p q:PV×PV} (hi:es[i]? = some p) (hj:es[j]? = some q) (e:p.1=q.1):i=j:=by
 have h1:(es.map (·.1))[i]? = some p.1:=by simp[hi]
 have h2:(es.map (·.1))[j]? = some p.1:=by simp[hj,e]
 have hil:=(Eab.1 h1).1;exact (List.getElem?_inj hil h.nodup).1 (h1.trans h2.symm)
theorem Jhy (hK:H9 K) {k v:PV} (hk:K k) (h:MapF K es) :
  ∃ es',mput k v es=some es'/\MapF K es'/\(∀ k' v',(k',v')∈es' ↔ (k'=k/\v'=v)\/(k'≠k/\(k',v')∈es)):=by
 rcases Gk hK hk es 0 h with ⟨g1,g2⟩ | ⟨j,u,g1,g2⟩
 ·refine ⟨es ++ [(k,v)],by simp[mput,g1],⟨fun p hp=>?_,?_⟩,fun k' v'=>?_⟩
  ·rcases Eax.1 hp with hp | hp
   ·exact h.keys p hp
   ·simp at hp;subst hp;exact hk
  ·rw[Ebm,Eck];refine ⟨h.nodup,by simp,fun a ha b hb=>?_⟩;simp at hb;subst hb;rintro rfl;obtain ⟨q,hq,rfl⟩:=Eap.1 ha;exact g2 q.2 hq
  ·simp only[Eax,Ea0,Ede];constructor
   ·rintro (hm | hm)
    ·exact .inr ⟨fun e=>g2 v' (e ▸ hm),hm⟩
    ·exact .inl hm
   ·rintro (hm | hm)
    ·exact .inr hm
    ·exact .inl hm.2
 ·have hj:=(Eab.1 g2).1;refine ⟨es.set j (k,v),by simp[mput,g1],⟨fun p hp=>?_,?_⟩,fun k' v'=>?_⟩
  ·rcases Eb3 hp with hp | rfl
   ·exact h.keys p hp
   ·exact hk
  ·have e:(es.set j (k,v)).map (·.1)=es.map (·.1):=by
    rw[Edt];apply Ech;intro i;rw[Ebr];split
    ·rename_i hij;subst hij;have:=(Eab.1 g2).2;simp[hj,this]
    ·rfl
   rw[e];exact h.nodup
  ·constructor
   ·intro hm;obtain ⟨i,hi⟩:=Ebz hm;rw[Ebr] at hi;split at hi
    ·first
      | (have e:=Ebd hi;exact .inl ⟨(Edk e).1.symm,(Edk e).2.symm⟩)
      | (
       split at hi
       ·have e:=Ebd hi;exact .inl ⟨(Edk e).1.symm,(Edk e).2.symm⟩
       ·cases hi)
    ·rename_i hij;refine .inr ⟨fun e=>hij ?_,Eag hi⟩;exact Jmm h g2 hi (by simp[e])
   ·rintro (⟨rfl,rfl⟩ | ⟨hne,hm⟩)
    ·exact Eag (i:=j) (by simp[hj])
    ·obtain ⟨i,hi⟩:=Ebz hm;refine Eag (i:=i) ?_;rw[Ebr,if_neg (fun e=>?_)]
     ·exact hi
     ·subst e;rw[g2] at hi;exact hne (Edk (Ebd hi)).1.symm
theorem Jer (hK:H9 K) {k:PV} (hk:K k) (h:MapF K es) :
  ∃ es',mdel k es=some es'/\MapF K es'/\(∀ k' v',(k',v')∈es' ↔ k'≠k/\(k',v')∈es):=by
 rcases Gk hK hk es 0 h with ⟨g1,g2⟩ | ⟨j,u,g1,g2⟩
 ·refine ⟨es,by simp[mdel,g1],h,fun k' v'=>⟨fun hm=>⟨fun e=>g2 v' (e ▸ hm),hm⟩,fun hm=>hm.2⟩⟩
 ·have hs:(es.eraseIdx j).Sublist es:=List.eraseIdx_sublist ..
  refine ⟨es.eraseIdx j,by simp[mdel,g1],⟨fun p hp=>h.keys p (hs.subset hp),?_⟩,fun k' v'=>⟨fun hm=>⟨fun e=>?_,hs.subset hm⟩,fun hm=>?_⟩⟩
  ·exact (hs.map _).nodup h.nodup
  ·obtain ⟨i,hij,hi⟩:=List.mem_eraseIdx_iff_getElem?.1 hm;exact hij (Jmm h hi g2 (by simp[e]))
  ·obtain ⟨i,hi⟩:=Ebz hm.2;refine List.mem_eraseIdx_iff_getElem?.2 ⟨i,fun e=>?_,hi⟩;subst e;rw[g2] at hi;exact hm.1 (Edk (Ebd hi)).1.symm
def Jo (seen:List Nat):Nat->Nat
 | 0=>0
 | n+1=>Jo seen n+(if n∈seen then 0 else 1)
theorem Ti (seen:List Nat) (i:Nat):∀ n,Jo (seen ++ [i]) n<=Jo seen n
 | 0=>Eah _
 | n+1=>by
  have:=Ti seen i n;simp only[Jo,Eax,Ea0];by_cases h1:n∈seen
  ·rw[if_pos (.inl h1),if_pos h1];omega
  ·rw[if_neg h1];split<;>omega
theorem S9 {seen:List Nat} {i:Nat} (hi:i ∉ seen):∀ {n},i<n->Jo (seen ++ [i]) n<Jo seen n
 | 0,h=>by omega
 | n+1,h=>by
  simp only[Jo,Eax,Ea0];by_cases h2:n=i
  ·subst h2;have:=Ti seen n n;rw[if_pos (.inr rfl),if_neg hi];omega
  ·have:=S9 hi (n:=n) omg;by_cases h1:n∈seen
   ·rw[if_pos (.inl h1),if_pos h1];omega
   ·rw[if_neg (fun h=>h.elim h1 h2),if_neg h1];omega
end Go.LX
