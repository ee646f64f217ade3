/- Values: names, fields. -/
import Derived.Test.YtaghbedfogiopaaGreatDoorTxF
set_option linter.all false
set_option maxRecDepth 100000
set_option maxHeartbeats 2000000
namespace Go.LX
open Go Go.RowKit Go.Proofs Go.Proofs.Tryz
variable (l:List (List UInt8×BM)){k i d:Nat}{p:List UInt8×BM}(nm s:List UInt8)(n c u:Nat){o oi:Oper}{ops:List Oper}{sub next:Ord}{P:Program}{ρ:Operand->L}{op:Op}{K:St->Prop}{ds:List (Option Tmp)}{dst:Option Tmp}{v:L}(r:Int){x y:Operand}{t T:TypeId}{Q:Ex->St->Prop}{cs:List PV}{C:L->Prop}{q:Nat->Bool}{xs:List Operand}(es:List (List PV)){name:List UInt8}
section
attribute [local irreducible] Al Bi CL
def Bd:List (List PV):=l.map fun p=>[.str p.1]
@[simp] theorem Jet:Bd []=[]:=rfl
def A9:(Bd l).length=l.length:=by simp[Bd]
def Lr{l:List (List UInt8×BM)}(h:l[k]?=some p):Bd (l.take (k+1))=Bd (l.take k)++[[.str p.1]]:=by
 rw[NA,h];simp[Bd]
def Cc(kd:Int)(s:List UInt8)(g:Bool)(e:Int)(BL:BO):(BP ((BM.mk kd s g e BL).enc nm))[0]?=some [.int .i64 kd,.int .i64 BL.len,.str nm,.str s,.bool g,.int .i64 e]:=by
 rw[A6];rfl
def Ρ(s:List UInt8)(g:Bool)(e:Int)(BL:BO)(hv:BL.enc.length<=1499999999999):CA cx 86 [.p (.sl (BP ((BM.mk 6 s g e BL).enc nm)))] [] (.p (.sl (Bd BL.list))) []:=by
 (refine CK func86 ?_;simp only[go_sem,simprocAttr,Cc]);(repeat'(first|refine CI (Hp _) ?_|fail));(refine CL.range (Dp BL) 19 [(17,900)] sm _ _ _ _ _ (fun k R=>R=if k=0 then [(1000,.var 61 [.p .snil])]else [(900,.row 9 1 (Bd (BL.list.take k))),(1000,.var 61 [.own 900 0 k])]) (fun _ _=>False) (by rfl) (by rfl) (by rfl) (Rt nm 6 s g e BL hv) (by simp only[go_sem,simprocAttr]<;>rfl) (by first|rfl|simp[Cg]) sm ?F' (by simp only[go_sem,simprocAttr]<;>rfl) (by simp only[go_sem,simprocAttr]<;>rfl) (by simp only[go_sem,simprocAttr]<;>rfl) ?h0 ?SE ?SF ?TI ?round ?done ?stop)
 case F'=>exact fun x hx=>Fn hx
 case h0=>rfl
 case SE=>rintro k R rfl;split<;>simp[Hg,findKey]
 case SF=>exact fun _ _ h=>h.elim
 case TI=>exact fun _ h=>h
 case stop=>exact fun _ _ h=>h.elim
 case round =>
  rintro k x R l hx rfl;obtain⟨p,hp,rfl⟩:=Fq hx;by_cases hk:k=0
  ·subst hk;rw[AB rfl];simp only[go_sem,simprocAttr];refine HO ?_;refine⟨by simp,_,rfl,?_⟩;rw[Lr hp];exact(UE (by simp only[Ar]) (by simp(disch:=omega) [Az,A3,Aw,Am,Af,Ai,Au,Aa]) (by simp[Ay]))
  ·rw[AA hk];have DV:=(DX.1 hp).1;rw[LU]at DV;have GB:=KE BL;simp only[go_sem,simprocAttr];refine HO ?_;refine⟨by simp,by rw[A9,GF,LU];omega,omg,omg,_,rfl,?_⟩;rw[Lr hp];exact(UE (by simp only[Ar]) (by simp(disch:=omega) [Az,A3,Aw,Am,Af,Ai,Au,Aa]) (by simp[Ay]))
 case done =>
  rintro R rfl;rw[E4];have GB:=LU BL;by_cases hk:BL.len=0
  ·rw[AB hk];have PD:BL.list=[]:=KH omg;rw[PD];simp only[go_sem,simprocAttr];refine⟨⟨Ba 19 [(3,.ptr 3 0 0)],[(3,.var 61 [.p (.sl [])])]⟩,CH,?_⟩;simp only[go_sem,simprocAttr];rfl
  ·rw[AA hk];have DR:BL.list.take BL.len=BL.list:=DK omg;rw[DR];have D':(BL.len<=(Bd BL.list).length)=True:=AE (by rw[A9];omega);have HK:(Bd BL.list).take BL.len=Bd BL.list:=DK (by rw[A9];omega);simp only[go_sem,simprocAttr];refine⟨_,St.Le.refl _,?_⟩;simp only[go_sem,simprocAttr,D',HK]
def Ch(name:List UInt8)(l:List (List UInt8×BM)):Option BM:=match l with
 |[]=>none
 |p::l=>if p.1=name then some p.2 else Ch name l
def Ls{name:List UInt8}:∀{l:List (List UInt8×BM)},(∀p∈l,p.1≠name)->Ch name l=none
 |[],_=>rfl
 |p::l,h=>by
  rw[Ch,AA (h p DQ)];exact Ls fun q hq=>h q (EW _ hq)
def Li{name:List UInt8}:∀{l:List (List UInt8×BM)} {k:Nat} {p:List UInt8×BM},l[k]?=some p->p.1=name->(∀q∈l.take k,q.1≠name)->Ch name l=some p.2
 |[],k,p,h,_,_=>by simp at h
 |q::l,0,p,h,hn,_=>by
  simp at h;subst h;rw[Ch,AB hn]
 |q::l,k+1,p,h,hn,ht=>by
  rw[XQ]at ht;rw[Ch,AA (ht q DQ)];exact Li (by simpa using h) hn fun x hx=>ht x (EW _ hx)
def Oo:Option BM->L|some t=>.tup [.sl (BP (t.enc [])),.bool true]|none=>.tup [.snil,.bool false]
def Τ(s:List UInt8)(g:Bool)(e:Int)(BL:BO)(name:List UInt8)(hv:BL.enc.length<=1499999999999):CA cx 92 [.p (.sl (BP ((BM.mk 6 s g e BL).enc nm))),.p (.str name)] [] (Oo (Ch name BL.list)) []:=by
 (refine CK func92 ?_;simp only[go_sem,simprocAttr,Cc]);(repeat'(first|refine CI (Hp _) ?_|fail));(refine CL.range (Dp BL) 21 [] sm _ _ _ _ _ (fun k R=>R=[(1000,.var 4 [.p (.bool false)]),(1001,.var 25 [.p .snil]),(1002,.var 9 [.p (.str name)])]/\∀p∈BL.list.take k,p.1≠name) (fun x R=>x=.ret/\∃t,Ch name BL.list=some t/\R=[(1000,.var 4 [.p (.bool true)]),(1001,.var 25 [.p (.sl (BP (t.enc [])))])]) (by rfl) (by rfl) (by rfl) (Rt nm 6 s g e BL hv) (by simp only[go_sem,simprocAttr]<;>rfl) (by first|rfl|simp[Cg]) sm ?F' (by simp only[go_sem,simprocAttr]<;>rfl) (by simp only[go_sem,simprocAttr]<;>rfl) (by simp only[go_sem,simprocAttr]<;>rfl) ?h0 ?SE ?SF ?TI ?round ?done ?stop)
 case F'=>exact fun x hx=>Fn hx
 case h0=>exact⟨rfl,by simp⟩
 case SE=>rintro k R ⟨rfl,_⟩;simp[Hg,findKey]
 case SF=>rintro x R ⟨_,t,_,rfl⟩;simp[Hg,findKey]
 case TI=>rintro R ⟨h,_⟩;cases h
 case stop =>
  rintro x R ⟨rfl,t,ht,rfl⟩;rw[ht];simp only[go_sem,simprocAttr];refine⟨_,St.Le.refl _,?_⟩;simp only[go_sem,simprocAttr];rfl
 case done =>
  rintro R ⟨rfl,GR⟩;rw[E4,DK (by rw[LU];exact CS _)]at GR;rw[Ls GR];simp only[go_sem,simprocAttr];refine⟨_,St.Le.refl _,?_⟩;simp only[go_sem,simprocAttr];rfl
 case round =>
  rintro k x R l hx ⟨rfl,GR⟩;obtain⟨p,hp,rfl⟩:=Fq hx;simp only[go_sem,simprocAttr];refine HO ?_;(repeat'(apply BY<;>intro h))
  ·exact⟨_,⟨p.2,Li hp AN GR,rfl⟩,(UE (by simp only[Ar]) (by simp(disch:=omega) [Az,A3,Aw,Am,Af,Ai,Au,Aa]) (by simp[Ay]))⟩
  ·refine⟨_,⟨rfl,fun q hq=>?_⟩,(UE (by simp only[Ar]) (by simp(disch:=omega) [Az,A3,Aw,Am,Af,Ai,Au,Aa]) (by simp[Ay]))⟩;rw[NA,hp]at hq;rcases H'.1 hq with hq|hq
   ·exact GR q hq
   ·simp at hq;subst hq;assumption
def A1(l:List (List UInt8×BM)):BO:=match l with
 |[]=>.nil
 |p::l=>.cons p.1 p.2 (A1 l)
def G1:∀f:BO,A1 f.list=f
 |.nil=>rfl
 |.cons nm t r=>by simp only[BO.list,A1,G1 r]
def Hz:∀a b:List (List UInt8×BM),A1 (a++b)=(A1 a).app (A1 b)
 |[],b=>rfl
 |p::a,b=>by simp only[PQ,A1,BO.app,Hz a b]
def Ca:∀l:List (List UInt8×BM),(A1 l).len=l.length
 |[]=>rfl
 |p::l=>by simp only[A1,BO.len,Ca l,DH]
def Hd:∀l:List (List UInt8×BM),(A1 l).list=l
 |[]=>rfl
 |p::l=>by simp only[A1,BO.list,Hd l]
def Υ:List PV:=[.int .i64 6,.int .i64 n,.str [],.str [],.bool false,.int .i64 0]
def Φ(hv:(A1 l).enc.length<=1499999999999):CA cx 127 [.p (.sl (Bd l)),.p (.sl (A4 l))] [] (.p (.sl (BP ((BM.mk 6 [] false 0 (A1 l)).enc [])))) []:=by
 have GB:=KE (A1 l);rw[Ca]at GB;(refine CK func127 ?_;simp only[go_sem,simprocAttr,A5,DM (i:=0) omg]);refine CL.loop (fun x:Nat×Nat×List (List PV)=>⟨Ba 35 [(0,.p (.sl (Bd l))),(5,.own 12 0 x.2.1),(13,.p (.sl (A4 l))),(14,.p (.int .i64 l.length)),(15,.p (.int .i64 x.1))],[(12,.row 36 6 x.2.2)]⟩) (fun x=>x.1<=l.length/\x.2.1=(A1 (l.take x.1)).enc.length+1/\x.2.2=Υ l.length::BP (A1 (l.take x.1)).enc) (fun x=>l.length-x.1) (0,1,[Υ l.length]) (by unfold Υ;exact CH) ⟨EK _,rfl,rfl⟩ ?_;rintro⟨k,m,es⟩ ⟨hk,II,Nx⟩;simp only at hk II Nx;by_cases BZ:¬k<l.length
 ·have HW:es.length=m:=by rw[Nx,II];simp
  have DR:es.take m=es:=DK omg;have Ux:l.take k=l:=DK omg;rw[Ux]at Nx II;have DV:((k:Int)<(l.length:Int))=False:=AD omg;(refine CC ?_;simp only[go_sem,simprocAttr,DM (i:=0) omg,DV,HW,DR,CS]);rw[Nx,A6,Ca];rfl
 ·have BZ:=JK.1 BZ;obtain⟨p,hp⟩:∃p,l[k]?=some p:=⟨_,C' BZ⟩
  have HW:es.length=m:=by rw[Nx,II];simp
  have DR:es.take m=es:=DK omg;have D':(A4 l)[k]?=some [.sl (BP (p.2.enc []))]:=by simp[A4,hp]
  have IB:(Bd l)[k]?=some [.str p.1]:=by simp[Bd,hp]
  obtain⟨⟨DJ,t⟩,rfl⟩:∃q,q=p:=⟨p,rfl⟩
  cases t with
  |mk SG s' g' e' BT =>
  have av:(es++BP ((BM.mk SG s' g' e' BT).enc []))[m]?=some [.int .i64 SG,.int .i64 BT.len,.str [],.str s',.bool g',.int .i64 e']:=by
   rw[Mr omg,HW,gV,A6];rfl
  have DV:((k:Int)<(l.length:Int))=True:=AE omg;have NN:A1 (l.take (k+1))=(A1 (l.take k)).app (.cons DJ (.mk SG s' g' e' BT) .nil):=by
   rw[NA,hp,Hz];rfl
  have PH:(A1 (l.take (k+1))).enc.length<=(A1 l).enc.length:=by
   have e1:A1 l=(A1 (l.take (k+1))).app (A1 (l.drop (k+1))):=by rw[<-Hz,PO]
   rw[e1,QW,DC];omega
  rw[NN,QW,DC,A0,Bl,ID,A6,DH]at PH;have h6:=E7 ((BM.mk SG s' g' e' BT).enc []);have KZ:((BM.mk SG s' g' e' BT).enc []).length=BT.enc.length+1:=by rw[A6];rfl
  have ZX:(es++BP ((BM.mk SG s' g' e' BT).enc [])).set m [.int .i64 SG,.int .i64 BT.len,.str DJ,.str s',.bool g',.int .i64 e']=es++BP ((BM.mk SG s' g' e' BT).enc DJ):=by
   rw[List.set_append_right _ _ omg,HW,gV,A6,A6];rfl
  (refine CC ?_;simp only[go_sem,simprocAttr,DM (i:=0) omg,DV,HW,DV,HW,D',IB,av,ZX,A7,KZ,DM (i:=k) omg]);refine⟨h6,omg,omg,omg,(k+1,m+(BT.enc.length+1),es++BP ((BM.mk SG s' g' e' BT).enc DJ)),⟨by simp only;omega,?_,?_⟩,by simp only;omega,?_⟩
  ·simp only;rw[NN,QW,DC,A0,Bl,ID,A6,DH];omega
  ·simp only;rw[NN,QW,Ji,A0,Bl,ID,<-PQ,<-Nx]
  ·refine St.Le.trans (B1 [(24,12)] _ sm) ?_;simp only[go_sem,simprocAttr,DM (i:=0) omg,DM (i:=k) omg];exact CH
end
section
variable {X:Cx} {ro:Option Nat} {md:Region.Mode} {ops:Array Oper}
def MO(X:Cx)(ds:List (Option Tmp))(ops:List Oper)(i:Nat)(C:St->Prop)(s:St):Prop:=match ops[i]? with
 |some o=>YS X ds s o fun l=>C (s.put o.dst l)
 |none=>False
def su(X:Cx)(ds:List (Option Tmp))(ops:List Oper)(E:St->Prop):List Nat->St->Prop|[],s=>E s|i::I,s=>MO X ds ops i (su X ds ops E I) s
def takeB(md:Region.Mode)(ops:Array Oper)(k:Nat):List Nat->Array Bool->Bool
 |[],_=>true
 |i::I,BN=>(Region.ready md ops BN).contains i&&(Region.free md ops BN i&&(decide (i<k)&&((List.range ops.size).all (fun j=>decide (j<k)||OJ md ops ops.size i j)&&takeB md ops k I (BN.setIfInBounds i true))))
def sw:List Nat->Array Bool->Array Bool|[],BN=>BN|i::I,BN=>sw I (BN.setIfInBounds i true)
def Wy(X:Cx)(ds:List (Option Tmp))(ops:List Oper)(k:Nat)(K:St->Prop):Ord->St->Prop|.leaf,s=>K s|.nil,_=>True|.bad,_=>False|.node i sub next,s=>(if i<k then MO X ds ops i (Wy X ds ops k K sub) s else OZ X ds ops i (Wy X ds ops k K sub) s)/\Wy X ds ops k K next s
def J1l{k:Nat}{K:St->Prop}{f:Nat}{BN:Array Bool}{s:St}:∀(is:List Nat),Wy X (ops.toList.map (·.dst)) ops.toList k K (is.foldr (fun i az=>.node i (P6 ops f (BN.setIfInBounds i true)) az) .nil) s ->
  ∀i∈is,(if i<k then MO X (ops.toList.map (·.dst)) ops.toList i (Wy X (ops.toList.map (·.dst)) ops.toList k K (P6 ops f (BN.setIfInBounds i true))) s else OZ X (ops.toList.map (·.dst)) ops.toList i (Wy X (ops.toList.map (·.dst)) ops.toList k K (P6 ops f (BN.setIfInBounds i true))) s)
 |[],_,i,hi=>by cases hi
 |j::is,h,i,hi=>by
  simp only[List.foldr_cons,Wy]at h;rcases DN.1 hi with rfl|hi
  ·exact h.1
  ·exact J1l is h.2 i hi
def Χ{k:Nat}{K:St->Prop}:∀(f:Nat) (BN:Array Bool) (s:St),Wy X (ops.toList.map (·.dst)) ops.toList k K (P6 ops f BN) s->Ty X .any ops k K f BN s
 |0,BN,s,h=>by
  unfold P6 at h;split at h
  ·rename_i h0;exact⟨h0,h⟩
  ·exact h.elim
 |f+1,BN,s,h=>by
  unfold P6 at h;split at h
  ·rename_i h0;exact⟨fun _=>h,fun i hi=>by rw[h0]at hi;cases hi⟩
  ·rename_i h0;refine⟨fun h1=>absurd h1 h0,fun i hi o ho=>?_⟩;have:=J1l _ h i hi;refine⟨fun hk=>?_,fun hk=>?_⟩
   ·rw[AB hk]at this;unfold MO at this;rw[cZ,ho]at this;exact Kr (fun l hl=>Χ f _ _ hl) this
   ·rw[AA omg]at this;exact⟨_,this,fun s' hs=>Χ f _ _ hs⟩
end
section
variable {X:Cx} {ds:List (Option Tmp)} {t:List L} {r:BX} {E:St->Prop}
def sx:MO X ds (o::ops) 0 E ⟨t,r⟩=YS X ds ⟨t,r⟩ o (DL o.dst E ⟨t,r⟩):=(rfl)
def sy:MO X ds (o::ops) (i+1) E ⟨t,r⟩=MO X ds ops i E ⟨t,r⟩:=(rfl)
def lA:Wy X ds ops k E .leaf ⟨t,r⟩=E ⟨t,r⟩:=(rfl)
def s0:Wy X ds ops k E .nil ⟨t,r⟩=True:=(rfl)
def lB:Wy X ds ops k E (.node i sub next) ⟨t,r⟩=((if i<k then MO X ds ops i (Wy X ds ops k E sub) ⟨t,r⟩else OZ X ds ops i (Wy X ds ops k E sub) ⟨t,r⟩)/\Wy X ds ops k E next ⟨t,r⟩):=(rfl)
attribute [go_sem] sx sy lA s0 lB
end
def EC:L->Bool|.p _=>true|.eptr _=>true|_=>false
def xU{l:L}(h:EC l=true):L.forget d l=l:=by
 cases l<;>simp[EC]at h<;>rfl
def Kf6{regs YB:List (Nat×DG)}{l:L}(hf:∀x∈op.operands.toList,EC (ρ x)=true)(h:XS P regs ρ op l):XS P YB ρ op l:=by
 cases op with
 |lookup t x ix ok =>
  have hx:=hf x (by simp[Op.operands]);have e:Tz regs (ρ x)=Tz YB (ρ x):=by
   unfold Tz;cases FF:ρ x<;>rw[FF]at hx<;>simp[EC]at hx<;>(try rfl)
   rename_i a;cases a<;>rfl
  simp only[XS,Yc]at h⊢;rw[<-e];exact h
 |call c =>
  obtain⟨callee,args,ts⟩:=c;cases callee with
  |builtin b =>
   cases b with
   |cap =>
    simp only[XS]at h⊢;split at h
    ·rename_i x t MD XU;have hx:=hf x (by simp[Op.operands,Call.operands,MD]);revert h;cases FF:ρ x<;>rw[FF]at hx<;>simp[EC]at hx
     ·rename_i a;cases a<;>exact id
     ·exact id
    ·exact h
   |_=>exact h
  |_=>exact h
 |_=>exact h
def Ψ{regs YB:List (Nat×DG)}{K:L->Prop}(hf:∀x∈op.operands.toList,EC (ρ x)=true)(h:lq P regs ρ op K):lq P YB ρ op K:=by
 have ptr:∀{x:L} {d i j:Nat},EC x=true->x=.ptr d i j->False:=by intro x d i j h e;subst e;cases h
 unfold lq at h⊢;split at h
 case h_8 =>
  rename_i a;have hx:=hf a (by simp[Op.operands]);revert h;unfold Jc;generalize B2 P _=b;rcases b with _|_|_<;>cases FF:ρ a<;>rw[FF]at hx<;>simp[EC]at hx<;>exact id
 case h_11 =>
  rename_i x y;have hx:=hf x (by simp[Op.operands]);revert h;unfold Dg;generalize ρ y=iy;cases FF:ρ x<;>rw[FF]at hx<;>simp[EC]at hx
  ·rename_i a;cases iy with
   |p b=>cases a<;>cases b<;>exact id
   |_=>cases a<;>exact id
  ·cases iy with
   |p b=>cases b<;>exact id
   |_=>exact id
 case h_13 t x lo hi mx =>
  have hx:=hf x (by simp[Op.operands]);revert h;unfold G2;generalize P.underlying t=u;cases FF:ρ x<;>rw[FF]at hx<;>simp[EC]at hx
  ·rename_i a;cases u with
   |none=>exact id
   |some u=>cases u<;>cases a<;>exact id
  ·cases u with
   |none=>exact id
   |some u=>cases u<;>exact id
 all_goals first
  |exact h
  |skip
 obtain⟨l,h1,h2⟩:=h;exact⟨l,Kf6 hf h1,h2⟩
section
variable {X:Cx} {ro:Option Nat} {ops:Array Oper}
def lC(o:Oper):Bool:=o.guard.isNone&&match o.op with
 |.move _=>true
 |.indexAddr ..=>true
 |.fieldAddr ..=>true
 |.load ..=>true
 |.binOp ..=>true
 |_=>false
def lD(o:Oper):Bool:=o.guard.isNone&&match o.op,o.dst with
 |.alloc _,some _=>true
 |_,_=>false
def lE(o:Oper):Bool:=o.guard.isNone&&match o.op,o.dst with
 |.store ..,none=>true
 |_,_=>false
def W4(s:St)(o:Oper):Prop:=∀x∈o.op.operands.toList,EC (s.get x)=true
def Ω{s:St}{K:L->Prop}(h:lC o=true):YS X ds s o K=lq X.P s.regs s.get o.op K:=by
 obtain⟨dst,op,ty,ps,af,g⟩:=o;cases g with
 |some g=>simp[lC]at h
 |none =>
  unfold YS KC;cases op<;>first|rfl|(simp[lC]at h)
def fb{s:St}{r:DG}{l:L}(hv:EC v=true)(DA:∀x,dst=some x->x≠d):(((s.newReg d r).put (some d) l).put dst v)=(((s.put dst v).newReg d r).put (some d) l):=by
 cases dst with
 |none=>rfl
 |some x =>
  have:=DA x rfl;simp only[St.put,St.newReg,fH,xU hv];rw[List.set_comm _ _ this]
def J4c{s:St}{r:DG}{l:L}(hx:x≠.tmp d)(hf:EC (s.get x)=true):((s.newReg d r).put (some d) l).get x=s.get x:=by
 rw[PX (fun e he=>by cases he;exact hx)];cases x with
 |tmp i =>
  simp only[St.get,St.newReg,GU,Eam]at hf⊢;cases hi:s.tmps[i]? with
  |none=>rfl
  |some m =>
   rw[hi]at hf;simp only[Option.map_some,Option.getD_some]at hf⊢;exact xU hf
 |_=>rfl
def J2h{z:Fz}{l:L}(h:EC l=true):L.freeze d z l=l:=by
 cases l<;>simp[EC]at h<;>rfl
def J9d{s:St}(hv:EC v=true):(s.put dst v).freeze d=(s.freeze d).put dst v:=by
 cases dst with
 |none=>rfl
 |some x =>
  simp only[St.put,St.freeze,Dx];cases SX (Am d s.regs)with
  |none=>rfl
  |some z=>simp only[fH,J2h hv]
def J9q{s:St}(hf:EC (s.get y)=true):(s.freeze d).get y=s.get y:=by
 unfold St.freeze Dx;cases SX (Am d s.regs)with
 |none=>rfl
 |some z =>
 cases y with
 |tmp i =>
  simp only[St.get,GU,Eam]at hf⊢;cases hi:s.tmps[i]? with
  |none=>rfl
  |some m =>
   rw[hi]at hf;simp only[Option.map_some,Option.getD_some]at hf⊢;exact J2h hf
 |_=>rfl
def Jxz{s:St}(hv:EC v=true)(hx:∀d,dst=some d->x≠.tmp d):(s.put dst v).freezeOps [x]=(s.freezeOps [x]).put dst v:=by
 simp only[St.freezeOps,PX hx];cases s.get x<;>first|rfl|(simp only;split<;>first|exact J9d hv|rfl)
def Jxt{s:St}(hf:EC (s.get y)=true):(s.freezeOps [x]).get y=s.get y:=by
 simp only[St.freezeOps];cases s.get x<;>first|rfl|(simp only;split<;>first|exact J9q hf|rfl)
def nu{s:St}:(s.put dst v).regs=s.regs:=by cases dst<;>rfl
def s4{s:St}{R:BX}:({ (s.put dst v)with regs:=R }:St)=({ s with regs:=R }:St).put dst v:=by cases dst<;>rfl
def J2g{s:St}{a:Operand}(hv:EC v=true)(ha:∀d,dst=some d->a≠.tmp d)(hx:∀d,dst=some d->x≠.tmp d)(h:Nv P t (s.put dst v) a x K) :
  Nv P t s a x fun s'=>K (s'.put dst v)/\∀y,EC (s.get y)=true->s'.get y=s.get y:=by
 unfold Nv at h⊢;rw[PX ha,PX hx,nu]at h;split at h
 ·rename_i d i j hd;simp only;split at h
  ·obtain⟨xs,h1,h2,h3,h4,h5,h6⟩:=h;refine⟨xs,h1,h2,h3,h4,h5,?_,fun y _=>?_⟩
   ·rw[s4]at h6;exact h6
   ·cases y<;>rfl
  ·rw[Jxz hv hx]at h;obtain⟨xs,h1,ps,h2,e,h3,h4,h5,h6,h7,h8,h9⟩:=h;rw[PX hx]at h1;rw[nu]at h7 h9;rw[PX ha]at h8;refine⟨xs,h1,ps,h2,e,h3,h4,h5,h6,h7,h8,?_,fun y hy=>?_⟩
   ·rw[s4]at h9;exact h9
   ·have:=Jxt (x:=x) hy;cases y<;>exact this
  ·obtain⟨xs,h1,e,h2,h3,h4,h5,h6⟩:=h;refine⟨xs,h1,e,h2,h3,h4,h5,?_,fun y _=>?_⟩
   ·rw[s4]at h6;exact h6
   ·cases y<;>rfl
  ·exact h.elim
  ·exact h.elim
 ·exact h.elim
def J8m(hi:ops[i]?=some oi)(xA:i<k)(hp:lC oi=true)(hv:EC v=true)(hA:∀j oj,k<=j->ops[j]?=some oj->OJ .any ops ops.size i j=true\/lD oj=true\/lE oj=true):∀(fuel:Nat) (BN:Array Bool) (s:St),OK .any ops BN->W4 s oi ->
   (∀j oj,ops[j]?=some oj->j≠i->BN.getD j true=false->(∀e∈oj.after,Region.binds .any e=true->e.on≠i)->oi.apart ops oj=true) ->
   i∈Region.ready .any ops BN->YS X (ops.toList.map (·.dst)) s oi (fun m=>m=v) ->
   Ty X .any ops k K fuel (BN.setIfInBounds i true) (s.put oi.dst v)->Ty X .any ops k K (fuel+1) BN s:=by
 intro fuel
 induction fuel with
 |zero =>
  intro BN s hd _ _ hr hy H;have only:∀j∈Region.ready .any ops BN,j=i:=by
   intro j hj;by_cases HC:j=i
   ·exact HC
   ·have:=ready_mono hj HC;rw[H.1]at this;cases this
  refine⟨fun h=>(by rw[h]at hr;cases hr),fun j hj oj HG=>?_⟩;have:=only j hj;subst this;rw[hi]at HG;cases HG;exact⟨fun _=>Kr (fun l hl=>by rw[hl];exact H) hy,fun h=>by omega⟩
 |succ fuel ih =>
  intro BN s hd PI LA hr hy H;refine⟨fun h=>(by rw[h]at hr;cases hr),fun j hj oj HG=>?_⟩;by_cases HC:j=i
  ·subst HC;rw[hi]at HG;cases HG;exact⟨fun _=>Kr (fun l hl=>by rw[hl];exact H) hy,fun h=>by omega⟩
  ·obtain⟨Pv,zk,Pw,GI⟩:=mem_ready.1 hj;rw[HG]at Pw;cases Pw;have WU:∀e∈oj.after,Region.binds .any e=true->e.on≠i:=fun e he hb Pe=>by
    have h1:=GI e he hb;have h0:=(Hn.1 (mem_ready.1 hr).1).2;rw[Pe]at h1;rw[h1]at h0;cases h0
   obtain⟨a1,a2,a3⟩:=Oper.apart_spec (LA j oj HG HC Pv WU);have Ib:∀q ok,ops[q]?=some ok->q≠i->(BN.setIfInBounds j true).getD q true=false ->
     (∀e∈ok.after,Region.binds .any e=true->e.on≠i)->oi.apart ops ok=true:=fun q ok hk iD ZC GR=>by
    refine LA q ok hk iD ?_ GR;by_cases TE:j=q
    ·subst TE;exact Pv
    ·rw[getD_set_ne true TE]at ZC;exact ZC
   have LJ:∀d,oj.dst=some d->∀x∈oi.op.operands.toList,x≠.tmp d:=fun d hd x hx iC=>a3 d hd (by
    subst iC;exact aL _ (oo.2 ⟨.tmp d,by simpa using hx,rfl⟩))
   refine⟨fun TE=>?_,fun s5=>?_⟩
   ·have h1:=(H.2 j (ready_mono hj HC) oj HG).1 TE;refine Kr (fun l hl=>?_) (Yr a1 h1);refine ih (BN.setIfInBounds j true) (s.put oj.dst l) (hd.set hj) (fun x hx=>?_) Ib (ready_mono hr (Ne.symm HC)) (Uk a3 hy) ?_
    ·rw[PX (fun d hd=>LJ d hd x hx)];exact PI x hx
    ·rw[gP _ _ HC];rw[<-nh s v l a2];exact hl
   ·have VW:lD oj=true\/lE oj=true:=by
     rcases hA j oj s5 HG with h|h
     ·exfalso;have h1:=Qb hd _ i j oj HG GI h;have h2:=(Hn.1 (mem_ready.1 hr).1).2;rw[h1]at h2;cases h2
     ·exact h
    obtain⟨C,h1,h2⟩:=(H.2 j (ready_mono hj HC) oj HG).2 s5;have UY:∀d,oi.dst=some d->∀x∈oj.op.operands.toList,x≠.tmp d:=fun d hd x hx iC=>a1 d hd (by
     subst iC;exact aL _ (oo.2 ⟨.tmp d,by simpa using hx,rfl⟩))
    obtain⟨dst,op,ty,ps,af,g⟩:=oj;cases g with
    |some g=>simp[lD,lE]at VW
    |none =>
    rcases VW with VW|VW
    ·cases dst with
     |none=>cases op<;>simp[lD]at VW
     |some d =>
     cases op<;>simp[lD]at VW;rename_i T;unfold OZ at h1;rw[cZ,HG]at h1;simp only[F4,Fh]at h1;obtain⟨nq,zs,gZ,hC⟩:=h1;have DA:∀x,oi.dst=some x->x≠d:=fun x hx e=>a2 x hx (by rw[e])
     have À:=LJ d rfl;refine⟨fun s'=>s'=(s.newReg d (.var T (zs.map .p))).put (some d) (.ptr d 0 0),?_,?_⟩
     ·unfold OZ;rw[cZ,HG];exact⟨nq,zs,gZ,rfl⟩
     ·rintro s' rfl;have hg:∀x∈oi.op.operands.toList,((s.newReg d (.var T (zs.map .p))).put (some d) (.ptr d 0 0)).get x=s.get x:=fun x hx=>J4c (À x hx) (PI x hx)
      refine ih (BN.setIfInBounds j true) _ (hd.set hj) (fun x hx=>by rw[hg x hx];exact PI x hx) Ib (ready_mono hr (Ne.symm HC)) ?_ ?_
      ·rw[Ω hp]at hy⊢;exact Ψ (fun x hx=>by rw[hg x hx];exact PI x hx) (vq hg hy)
      ·rw[gP _ _ HC,fb hv DA];exact h2 _ hC
    ·cases dst with
     |some d=>cases op<;>simp[lE]at VW
     |none =>
     cases op<;>simp[lE]at VW;rename_i T a x;unfold OZ at h1;rw[cZ,HG]at h1;simp only[F4,Fh]at h1;have h3:=J2g hv (fun d hd=>UY d hd a (by simp[Op.operands])) (fun d hd=>UY d hd x (by simp[Op.operands])) h1;refine⟨fun s'=>C (s'.put oi.dst v)/\∀y,EC (s.get y)=true->s'.get y=s.get y,?_,?_⟩
     ·unfold OZ;rw[cZ,HG];exact h3
     ·rintro s' ⟨hC,UD⟩;have hg:∀x∈oi.op.operands.toList,s'.get x=s.get x:=fun x hx=>UD x (PI x hx)
      refine ih (BN.setIfInBounds j true) _ (hd.set hj) (fun x hx=>by rw[hg x hx];exact PI x hx) Ib (ready_mono hr (Ne.symm HC)) ?_ ?_
      ·rw[Ω hp]at hy⊢;exact Ψ (fun x hx=>by rw[hg x hx];exact PI x hx) (vq hg hy)
      ·rw[gP _ _ HC];exact h2 _ hC
def ZK(X:Cx)(ds:List (Option Tmp))(ops:List Oper)(E:St->Prop):List Nat->St->Prop
 |[],s=>E s
 |i::I,s=>match ops[i]? with
  |some o=>W4 s o/\YS X ds s o fun l=>EC l=true/\ZK X ds ops E I (s.put o.dst l)
  |none=>False
def xV(ops:Array Oper)(k:Nat):List Nat->Array Bool->Bool
 |[],_=>true
 |i::I,BN=>(Region.ready .any ops BN).contains i&&(Region.free .any ops BN i&&(decide (i<k)&&((match ops[i]? with|some o=>lC o|none=>false)&&((List.range ops.size).all (fun j=>decide (j<k)||(OJ .any ops ops.size i j||match ops[j]? with|some o=>lD o||lE o|none=>false))&&xV ops k I (BN.setIfInBounds i true)))))
def Jyp{k:Nat}{K:St->Prop}{fuel:Nat}:∀(I:List Nat) (BN:Array Bool) (s:St),xV ops k I BN=true->OK .any ops BN ->
  ZK X (ops.toList.map (·.dst)) ops.toList (Ty X .any ops k K fuel (sw I BN)) I s->Ty X .any ops k K (fuel+I.length) BN s
 |[],BN,s,_,_,h=>h
 |i::I,BN,s,hB,hd,h=>by
  simp only[xV,OS,List.contains_eq_mem,AF]at hB;obtain⟨h1,h2,h3,hp,h4,h5⟩:=hB;obtain⟨_,oi,bO,_⟩:=mem_ready.1 h1;rw[bO]at hp;simp only[ZK]at h;rw[cZ,bO]at h;obtain⟨hf,h⟩:=h;obtain⟨v,hy,hv,hK⟩:=wD (X:=X) h;refine J8m bO h3 hp hv (fun j oj hj HG=>?_) (fuel+I.length) BN s hd hf (Region.free_spec bO h2) h1 hy (Jyp I _ _ h5 (hd.set h1) hK);have:=SQ.1 h4 j (List.mem_range.2 (Rw.1 HG).1);rw[WG,AF,HG,WG]at this;rcases this with h|h|h
  ·omega
  ·exact .inl h
  ·exact .inr (by simpa using h)
def Á{ds:List (Option Tmp)}{os:List Oper}{E E':St->Prop}(hE:∀s,E s->E' s):∀(I:List Nat) (s:St),ZK X ds os E I s->ZK X ds os E' I s
 |[],s,h=>hE s h
 |i::I,s,h=>by
  simp only[ZK]at h⊢;split
  ·rename_i o ho;rw[ho]at h;exact⟨h.1,Kr (fun l hl=>⟨hl.1,Á hE I _ hl.2⟩) h.2⟩
  ·rename_i ho;rw[ho]at h;exact h
def Kd0{id:Nat}{s:St}(k:Nat)(I:List Nat)(T:Ord)(f:Nat)(hm:X.P.follows .mixedOrders=true)(hf:f+I.length=ops.size)(hB:xV ops k I (Array.replicate ops.size false)=true)(hT:P6 ops f (sw I (Array.replicate ops.size false))=T)(h:ZK X (ops.toList.map (·.dst)) ops.toList (Wy X (ops.toList.map (·.dst)) ops.toList k (Q .normal) T) I s):CL X ro (.region id ops true) Q s:=fun Γ a w hG hr=>by
 have h':RR Γ s a { w with drawn:=w.drawn+1 }:=by
  obtain⟨ms,CZ,β,Im,hx⟩:=hr;exact⟨ms,CZ,β,Im,hx.grow (DY.drew hx.fit.im)⟩
 refine wpIn_region_any hm (G0 (k:=k) (K:=Q .normal) hG.1 (fun s _ _ h1 h2=>⟨s,h1,h2⟩) _ _ s a _ h' ?_);have hd:OK .any ops (Array.replicate ops.size false):=by
  intro i o ho hl;exfalso;have hi:=(Rw.1 ho).1;simp[OQ,hi]at hl
 have:=Jyp (X:=X) (K:=Q .normal) (fuel:=f) I (Array.replicate ops.size false) s hB hd ?_
 ·rw[hf]at this;exact this
 ·subst hT;exact Á (fun s hs=>Χ f _ s hs) I s h
end
section
variable {X:Cx} {ds:List (Option Tmp)} {t:List L} {r:BX} {E:St->Prop} {dst:Option Tmp} {ty:TypeId} {ps:String} {af:Array Edge} {g:Option (Nat×Bool)}
def df(X:Cx)(ds:List (Option Tmp))(ops:List Oper)(i:Nat)(C:St->Prop)(s:St):Prop:=match ops[i]? with
 |some o=>W4 s o/\YS X ds s o fun l=>EC l=true/\C (s.put o.dst l)
 |none=>False
def bR(dst:Option Tmp)(C:St->Prop)(s:St)(l:L):Prop:=EC l=true/\C (s.put dst l)
def Kgo:ZK X ds ops E [] ⟨t,r⟩=E ⟨t,r⟩:=(rfl)
def lF{I:List Nat}:ZK X ds ops E (i::I) ⟨t,r⟩=df X ds ops i (ZK X ds ops E I) ⟨t,r⟩:=(rfl)
def s6:df X ds (o::ops) 0 E ⟨t,r⟩=(W4 ⟨t,r⟩ o/\YS X ds ⟨t,r⟩ o (bR o.dst E ⟨t,r⟩)):=(rfl)
def s7:df X ds (o::ops) (i+1) E ⟨t,r⟩=df X ds ops i E ⟨t,r⟩:=(rfl)
def Â{x:PV}:bR dst E ⟨t,r⟩ (.p x)=DL dst E ⟨t,r⟩ (.p x):=by simp[bR,EC,DL]
def Ã:bR dst E ⟨t,r⟩ (.eptr cs)=DL dst E ⟨t,r⟩ (.eptr cs):=by simp[bR,EC,DL]
def Ä{x:PV}:(EC (.p x)=true)=True:=by simp[EC]
def Å:(EC (.eptr cs)=true)=True:=by simp[EC]
def lG:W4 ⟨t,r⟩ ⟨dst,.move x,ty,ps,af,g⟩=(EC ((St.mk t r).get x)=true):=by simp[W4,Op.operands]
def Æ:W4 ⟨t,r⟩ ⟨dst,.indexAddr T x y,ty,ps,af,g⟩=(EC ((St.mk t r).get x)=true/\EC ((St.mk t r).get y)=true):=by simp[W4,Op.operands]
def Ç:W4 ⟨t,r⟩ ⟨dst,.load T x,ty,ps,af,g⟩=(EC ((St.mk t r).get x)=true):=by simp[W4,Op.operands]
def s8{U:TypeId}{b:BinOp}:W4 ⟨t,r⟩ ⟨dst,.binOp b T x y U,ty,ps,af,g⟩=(EC ((St.mk t r).get x)=true/\EC ((St.mk t r).get y)=true):=by simp[W4,Op.operands]
def fc(X:Cx)(args:List L)(C:L->Prop)(l:L):Prop:=match l with
 |.fn g []=>Bi X g args C
 |.p (.clo g ps)=>Bi X g (args++[.eptr ps]) C
 |_=>False
def Kgm{n:Tmp}{args:Array Operand}{VV:Array TypeId}:KC X ⟨t,r⟩ ⟨dst,.call { callee:=.value (.tmp n),args:=args,argTypes:=VV },ty,ps,af,g⟩ C=fc X (args.toList.map (St.mk t r).get) C ((St.mk t r).get (.tmp n)):=(rfl)
def Kgh{f:FuncId}{args:List L}:fc X args C (.p (.clo f cs))=Bi X f (args++[.eptr cs]) C:=(rfl)
attribute [go_sem] Kgm Kgh Kgo lF s6 s7 Â Ã Ä Å lG Æ Ç s8
end
section
variable {X:Cx} {ro:Option Nat} {md:Region.Mode} {ops:Array Oper}
def fe(X:Cx)(md:Region.Mode)(ops:Array Oper)(q:Nat->Bool)(K:St->Prop):Nat->Array Bool->St->Prop
 |0,BN,s=>Region.ready md ops BN=[]/\K s
 |fuel+1,BN,s=>(Region.ready md ops BN=[]->K s) /\
  ∀
   i∈Region.ready md ops BN,∀o,ops[i]?=some o ->
   (q i=true->YS X (ops.toList.map (·.dst)) s o fun l=>fe X md ops q K fuel (BN.setIfInBounds i true) (s.put o.dst l)) /\
   (q i=false->∃C:St->Prop,OZ X (ops.toList.map (·.dst)) ops.toList i C s/\∀s',C s'->fe X md ops q K fuel (BN.setIfInBounds i true) s')
def È{Γ:FH}{q:Nat->Bool}{K:St->Prop}{Q:Exit->Act->World->Prop}{n:Nat}(hG:Γ.G=X.G)(hQ:∀s a w,K s->RR Γ s a w->Q .normal a w):∀(fuel:Nat) (BN:Array Bool) (s:St) (a:Act) (w:World),RR Γ s a w ->
  fe X md ops q K fuel BN s->wpAnyIn (F0 ro) n X.P md ops Q fuel BN a w
 |0,_,s,a,w,h,hl=>⟨hl.1,hQ s a w hl.2 h⟩
 |fuel+1,_,s,a,w,h,hl=>⟨fun h0=>hQ s a w (hl.1 h0) h,fun i hi=>by
   obtain⟨_,o,ho,_⟩:=mem_ready.1 hi;cases hk:q i with
   |true =>
    exact Zy ho hG h ((hl.2 i hi o ho).1 hk) fun l a' w' h1 h2=>È hG hQ fuel _ _ a' w' h2 h1
   |false =>
    obtain⟨C,hA,hC⟩:=(hl.2 i hi o ho).2 hk;exact wpOpIn_mono (fun a' w' ⟨s',hs,UW⟩=>È hG hQ fuel _ s' a' w' UW (hC s' hs)) (Uc hG h hA)⟩
def tA(md:Region.Mode)(ops:Array Oper)(q:Nat->Bool):List Nat->Array Bool->Bool
 |[],_=>true
 |i::I,BN=>(Region.ready md ops BN).contains i&&(Region.free md ops BN i&&(q i&&((List.range ops.size).all (fun j=>q j||OJ md ops ops.size i j)&&tA md ops q I (BN.setIfInBounds i true))))
def Ob(X:Cx)(ds:List (Option Tmp))(ops:List Oper)(q:Nat->Bool)(K:St->Prop):Ord->St->Prop|.leaf,s=>K s|.nil,_=>True|.bad,_=>False|.node i sub next,s=>(if q i=true then MO X ds ops i (Ob X ds ops q K sub) s else OZ X ds ops i (Ob X ds ops q K sub) s)/\Ob X ds ops q K next s
def J1y{q:Nat->Bool}{K:St->Prop}{f:Nat}{BN:Array Bool}{s:St}:∀(is:List Nat),Ob X (ops.toList.map (·.dst)) ops.toList q K (is.foldr (fun i az=>.node i (P6 ops f (BN.setIfInBounds i true)) az) .nil) s ->
  ∀i∈is,(if q i=true then MO X (ops.toList.map (·.dst)) ops.toList i (Ob X (ops.toList.map (·.dst)) ops.toList q K (P6 ops f (BN.setIfInBounds i true))) s else OZ X (ops.toList.map (·.dst)) ops.toList i (Ob X (ops.toList.map (·.dst)) ops.toList q K (P6 ops f (BN.setIfInBounds i true))) s)
 |[],_,i,hi=>by cases hi
 |j::is,h,i,hi=>by
  simp only[List.foldr_cons,Ob]at h;rcases DN.1 hi with rfl|hi
  ·exact h.1
  ·exact J1y is h.2 i hi
def É{q:Nat->Bool}{K:St->Prop}:∀(f:Nat) (BN:Array Bool) (s:St),Ob X (ops.toList.map (·.dst)) ops.toList q K (P6 ops f BN) s->fe X .any ops q K f BN s
 |0,BN,s,h=>by
  unfold P6 at h;split at h
  ·rename_i h0;exact⟨h0,h⟩
  ·exact h.elim
 |f+1,BN,s,h=>by
  unfold P6 at h;split at h
  ·rename_i h0;exact⟨fun _=>h,fun i hi=>by rw[h0]at hi;cases hi⟩
  ·rename_i h0;refine⟨fun h1=>absurd h1 h0,fun i hi o ho=>?_⟩;have:=J1y _ h i hi;refine⟨fun hk=>?_,fun hk=>?_⟩
   ·rw[AB hk]at this;unfold MO at this;rw[cZ,ho]at this;exact Kr (fun l hl=>É f _ _ hl) this
   ·rw[AA (by rw[hk];decide)]at this;exact⟨_,this,fun s' hs=>É f _ _ hs⟩
end
def qi(k a b i:Nat):Bool:=decide (i<k)||(!decide (i<a)&&decide (i<b))
section
variable {X:Cx} {ds:List (Option Tmp)} {t:List L} {r:BX} {E:St->Prop}
def lH:Ob X ds ops q E .leaf ⟨t,r⟩=E ⟨t,r⟩:=(rfl)
def tB:Ob X ds ops q E .nil ⟨t,r⟩=True:=(rfl)
def lI{a b:Nat}:Ob X ds ops (qi k a b) E (.node i sub next) ⟨t,r⟩=((if i<k then MO X ds ops i (Ob X ds ops (qi k a b) E sub) ⟨t,r⟩else if i<a then OZ X ds ops i (Ob X ds ops (qi k a b) E sub) ⟨t,r⟩else if i<b then MO X ds ops i (Ob X ds ops (qi k a b) E sub) ⟨t,r⟩else OZ X ds ops i (Ob X ds ops (qi k a b) E sub) ⟨t,r⟩)/\Ob X ds ops (qi k a b) E next ⟨t,r⟩):=by
 rw[Ob];by_cases h1:i<k
 ·rw[AB (by simp[qi,h1]),AB h1]
 ·rw[AA h1];by_cases h2:i<a
  ·rw[AA (by simp[qi,h1,h2]),AB h2]
  ·rw[AA h2];by_cases h3:i<b
   ·rw[AB (by simp[qi,h2,h3]),AB h3]
   ·rw[AA (by simp[qi,h1,h3]),AA h3]
def qj(a b c e i:Nat):Bool:=(!decide (i<a)&&decide (i<b))||(!decide (i<c)&&decide (i<e))
def Khe{a b c e:Nat}(h1:a<=b)(h2:b<=c):Ob X ds ops (qj a b c e) E (.node i sub next) ⟨t,r⟩=((if i<a then OZ X ds ops i (Ob X ds ops (qj a b c e) E sub) ⟨t,r⟩else if i<b then MO X ds ops i (Ob X ds ops (qj a b c e) E sub) ⟨t,r⟩else if i<c then OZ X ds ops i (Ob X ds ops (qj a b c e) E sub) ⟨t,r⟩else if i<e then MO X ds ops i (Ob X ds ops (qj a b c e) E sub) ⟨t,r⟩else OZ X ds ops i (Ob X ds ops (qj a b c e) E sub) ⟨t,r⟩)/\Ob X ds ops (qj a b c e) E next ⟨t,r⟩):=by
 rw[Ob];by_cases q1:i<a
 ·have h3:i<c:=omg;rw[AA (by simp[qj,q1,h3]),AB q1]
 ·rw[AA q1];by_cases q2:i<b
  ·rw[AB (by simp[qj,q1,q2]),AB q2]
  ·rw[AA q2];by_cases q3:i<c
   ·rw[AA (by simp[qj,q2,q3]),AB q3]
   ·rw[AA q3];by_cases q4:i<e
    ·rw[AB (by simp[qj,q3,q4]),AB q4]
    ·rw[AA (by simp[qj,q2,q4]),AA q4]
attribute [go_sem] lH tB lI Khe
end
section
variable {X:Cx} {ro:Option Nat} {ops:Array Oper}
def Kg8(o:Oper):Bool:=o.guard.isNone&&match o.op,o.dst with
 |.buildSlice _ 0 parts,some _=>parts.toList.isEmpty
 |_,_=>false
def tC(o:Oper):Bool:=lC o||(o.guard.isNone&&match o.op with
 |.slice ..=>true
 |.call { callee:=.builtin .len,.. }=>true
 |.extract ..=>true
 |_=>false)
def Kci{s:St}{K:L->Prop}(h:tC o=true):YS X ds s o K=lq X.P s.regs s.get o.op K:=by
 unfold tC at h;rw[WG]at h;rcases h with h|h
 ·exact Ω h
 ·obtain⟨dst,op,ty,ps,af,g⟩:=o;cases g with
  |some g=>simp at h
  |none =>
   unfold YS KC;cases op with
   |call c =>
    obtain⟨callee,args,ts⟩:=c;cases callee with
    |builtin b=>rfl
    |value f=>simp at h
    |_=>first|rfl|(simp at h)
   |_=>first|rfl|(simp at h)
def lJ(ops:Array Oper)(q:Nat->Bool):List Nat->Array Bool->Bool
 |[],_=>true
 |i::I,BN=>(Region.ready .any ops BN).contains i&&(Region.free .any ops BN i&&(q i&&((match ops[i]? with|some o=>tC o|none=>false)&&((List.range ops.size).all (fun j=>q j||(OJ .any ops ops.size i j||match ops[j]? with|some o=>Kg8 o|none=>false))&&lJ ops q I (BN.setIfInBounds i true)))))
end
section
variable {X:Cx} {r:BX} {t:List L} {dst:Option Tmp} {ty:TypeId} {ps:String} {af:Array Edge} {g:Option (Nat×Bool)}
def ZL(s:St):Option Operand->Prop|some x=>EC (s.get x)=true|none=>True
def Kgd{lo hi mx:Option Operand}:W4 ⟨t,r⟩ ⟨dst,.slice T x lo hi mx,ty,ps,af,g⟩=(EC ((St.mk t r).get x)=true/\ZL ⟨t,r⟩ lo/\ZL ⟨t,r⟩ hi/\ZL ⟨t,r⟩ mx):=by
 cases lo<;>cases hi<;>cases mx<;>simp[W4,Op.operands,ZL]
def Ê:ZL ⟨t,r⟩ none=True:=(rfl)
def Ë:ZL ⟨t,r⟩ (some x)=(EC ((St.mk t r).get x)=true):=(rfl)
attribute [go_sem] Kgd Ê Ë
end
section
variable {X:Cx} {ro:Option Nat} {ops:Array Oper}
def J9o{s:St}(hv:EC v=true):(s.put dst v).forget d=(s.forget d).put dst v:=by
 cases dst with
 |none=>rfl
 |some x=>simp only[St.put,St.forget,fH,xU hv]
def J3a{s:St}(hf:EC (s.get y)=true):(s.forget d).get y=s.get y:=by
 cases y with
 |tmp i =>
  simp only[St.get,St.forget,GU,Eam]at hf⊢;cases hi:s.tmps[i]? with
  |none=>rfl
  |some m =>
   rw[hi]at hf;simp only[Option.map_some,Option.getD_some]at hf⊢;exact xU hf
 |_=>rfl
def Ì(X:Cx)(o:Oper):Prop:=∀(s:St) (dst:Option Tmp) (v:L) (C:St->Prop),EC v=true->(∀x,dst=some x->∀y∈o.op.operands.toList,y≠.tmp x)->(∀x d,dst=some x->o.dst=some d->x≠d)->Fh X o C (s.put dst v) ->
 Fh X o (fun s'=>C (s'.put dst v)/\∀y,(∀d,o.dst=some d->y≠.tmp d)->EC (s.get y)=true->s'.get y=s.get y) s
def OL(kp:Nat->Bool)(o:Oper):Bool:=o.guard.isNone&&match o.op,o.dst with
 |.buildSlice t _ parts,some _=>!kp t&&decide (parts.toList.length<=1)
 |.makeSlice ..,some _=>true
 |.store ..,none=>true
 |.mapEntry ..,some _=>true
 |.entryStore ..,none=>true
 |.assign ..,some _=>true
 |.call { callee:=.builtin .append,args,argTypes },some _=>decide (args.toList.length=2)&&(decide (argTypes.toList.length=2)&&argTypes.toList.all fun t=>!kp t)
 |_,_=>false
def Jw4{s:St}(hl:xs.length<=1)(hv:EC v=true)(hx:∀d,dst=some d->∀x∈xs,x≠.tmp d):(s.put dst v).freezeOps xs=(s.freezeOps xs).put dst v:=by
 match xs,hl with
 |[],_=>rfl
 |[x],_=>exact Jxz hv fun d hd=>hx d hd x DQ
def Í{s:St}(hl:xs.length<=1)(hf:EC (s.get y)=true):(s.freezeOps xs).get y=s.get y:=by
 match xs,hl with
 |[],_=>rfl
 |[x],_=>exact Jxt hf
def lK{s:St}{r:DG}{l:L}(hy:y≠.tmp d)(hf:EC (s.get y)=true):((s.newReg d r).put (some d) l).get y=s.get y:=J4c hy hf
def J7n{s:St}{a:Operand}{K':St->Prop}(hk:∀s,K s->K' s)(h:Nv P t s a x K):Nv P t s a x K':=by
 unfold Nv at h⊢;split at h
 ·split at h
  ·obtain⟨xs,g1,g2,g3,g4,g5,hC⟩:=h;exact⟨xs,g1,g2,g3,g4,g5,hk _ hC⟩
  ·obtain⟨xs,g1,ps,g2,e,g3,g4,g5,g6,g7,g8,hC⟩:=h;exact⟨xs,g1,ps,g2,e,g3,g4,g5,g6,g7,g8,hk _ hC⟩
  ·obtain⟨xs,g1,e,g2,g3,g4,g5,hC⟩:=h;exact⟨xs,g1,e,g2,g3,g4,g5,hk _ hC⟩
  ·exact h.elim
  ·exact h.elim
 ·exact h.elim
def Kf5(h:OL X.keep o=true):Ì X o:=by
 intro s dst v C hv LJ DA hl;obtain⟨od,op,ty,ps,af,g⟩:=o;cases g with
 |some g=>simp[OL]at h
 |none =>
 cases od with
 |none =>
  cases op with
  |store t a x =>
   have Zs:∀z,dst=some z->x≠.tmp z:=fun z hz=>LJ z hz x (by simp[Op.operands])
   have hoa:∀z,dst=some z->a≠.tmp z:=fun z hz=>LJ z hz a (by simp[Op.operands])
   simp only[Fh]at hl⊢;exact J7n (fun s' ⟨h1,h2⟩=>⟨h1,fun y _ hf=>h2 y hf⟩) (J2g hv hoa Zs hl)
  |entryStore t m e x =>
   have Zs:∀z,dst=some z->x≠.tmp z:=fun z hz=>LJ z hz x (by simp[Op.operands])
   have Î:∀z,dst=some z->m≠.tmp z:=fun z hz=>LJ z hz m (by simp[Op.operands])
   have sM:∀z,dst=some z->e≠.tmp z:=fun z hz=>LJ z hz e (by simp[Op.operands])
   have dh:∀z,dst=some z->∀y∈[x],y≠.tmp z:=fun z hz y hy=>by rw[KI.1 hy];exact Zs z hz
   simp only[Fh,vz]at hl⊢;rw[Jw4 sm hv dh,PX Î,nu,PX sM,PX Zs]at hl;split at hl
   ·split at hl
    ·obtain⟨g1,q,g2,hC⟩:=hl;refine⟨g1,q,g2,?_,fun y hy hf=>(show((s.freezeOps [x]).get y=s.get y)from Í (xs:=[x]) (CS 1) hf)⟩;rw[s4]at hC;exact hC
    ·exact hl.elim
   ·exact hl.elim
  |_=>simp[OL]at h
 |some d =>
 have TL:∀x,dst=some x->x≠d:=fun x hx=>DA x d hx rfl
 cases op with
 |assign x =>
  have Zs:∀z,dst=some z->x≠.tmp z:=fun z hz=>LJ z hz x (by simp[Op.operands])
  simp only[Fh,lq,DL]at hl⊢;rw[PX Zs]at hl;refine⟨?_,fun y hy hf=>PX (fun d' h1=>hy d' h1)⟩;rw[nh _ _ _ (fun d' h1 h2=>TL d' h2 (L' h1).symm)];exact hl
 |buildSlice T n parts =>
  obtain⟨hk,hp⟩:X.keep T=false/\parts.toList.length<=1:=by simpa[OL]using h
  have hk:¬X.keep T=true:=by rw[hk];decide
  have IA:(parts.toList.map (·.2)).length<=1:=by simpa using hp
  have dh:∀x,dst=some x->∀y∈parts.toList.map (·.2),y≠.tmp x:=fun x hx y hy=>LJ x hx y (by
   obtain⟨q,hq,rfl⟩:=FB.1 hy;simp[Op.operands];exact⟨q.1,by simpa using hq⟩)
  simp only[Fh]at hl⊢;rw[AA hk]at hl⊢;simp only[Fo]at hl⊢;rw[Jw4 IA hv dh]at hl;have Ï:(parts.toList.map fun x=>(x.1,((s.freezeOps (parts.toList.map (·.2))).put dst v).get x.2))=parts.toList.map fun x=>(x.1,(s.freezeOps (parts.toList.map (·.2))).get x.2):=UM fun q hq=>by
   rw[PX fun x hx=>dh x hx q.2 (FB.2 ⟨q,hq,rfl⟩)]
  rw[Ï]at hl;obtain⟨h1,h2,hl⟩:=hl;refine⟨h1,h2,?_⟩;cases ff:IW X.P T with
  |none=>rw[ff]at hl;exact hl.elim
  |some es =>
   rw[ff]at hl;obtain⟨g1,g2,g3,g4,es,g5,hC⟩:=hl;refine⟨g1,g2,g3,g4,es,g5,?_,fun y hy hf=>?_⟩
   ·rw[fb hv TL];exact hC
   ·rw[lK (hy d rfl) (by rw[Í IA hf];exact hf),Í IA hf]
 |mapEntry T m k =>
  have Î:∀z,dst=some z->m≠.tmp z:=fun z hz=>LJ z hz m (by simp[Op.operands])
  have GZ:∀z,dst=some z->k≠.tmp z:=fun z hz=>LJ z hz k (by simp[Op.operands])
  simp only[Fh,vx]at hl⊢;rw[PX Î,PX GZ,nu]at hl;split at hl
  ·split at hl
   ·obtain⟨g1,j,x,g2,hC⟩:=hl;refine⟨g1,j,x,g2,fun n=>⟨?_,fun y hy hf=>?_⟩⟩
    ·have:=hC n;rw[s4]at this;simp only[DL]at this⊢;rw[nh _ _ _ (fun d' h1 h2=>by cases h1;exact TL d h2 rfl)];exact this
    ·rw[PX (fun d' h1=>hy d' h1)];cases y<;>rfl
   ·exact hl.elim
  ·exact hl.elim
 |makeSlice T l c =>
  have Ð:∀z,dst=some z->l≠.tmp z:=fun z hz=>LJ z hz l (by simp[Op.operands])
  have hoc:∀z,dst=some z->c≠.tmp z:=fun z hz=>LJ z hz c (by simp[Op.operands])
  simp only[Fh,Gl]at hl⊢;rw[PX Ð,PX hoc]at hl;obtain⟨h1,hl⟩:=hl;refine⟨h1,?_⟩;split at hl
  ·obtain⟨g1,g2,g3,g4,zs,g5,g6,hC⟩:=hl;refine⟨g1,g2,g3,g4,zs,g5,g6,?_,fun y hy hf=>?_⟩
   ·rw[fb hv TL];exact hC
   ·rw[lK (hy d rfl) hf]
  ·exact hl.elim
 |call c =>
  obtain⟨callee,args,ts⟩:=c;cases callee with
  |builtin b =>
   cases b with
   |append =>
    simp only[OL,OS,AF]at h;obtain⟨_,ha,ht,HE⟩:=h;obtain⟨x,y,QC⟩:∃x y,args.toList=[x,y]:=by
     match hq:args.toList,ha with
     |[x,y],_=>exact⟨x,y,rfl⟩
    obtain⟨t,t',nc⟩:∃t t',ts.toList=[t,t']:=by
     match hq:ts.toList,ht with
     |[x,y],_=>exact⟨x,y,rfl⟩
    have hmx:x∈args.toList:=by rw[QC];exact DQ
    have hmy:y∈args.toList:=by rw[QC];simp
    have Zs:∀z,dst=some z->x≠.tmp z:=fun z hz=>LJ z hz x (by simpa[Op.operands,Call.operands]using hmx)
    have hoy:∀z,dst=some z->y≠.tmp z:=fun z hz=>LJ z hz y (by simpa[Op.operands,Call.operands]using hmy)
    have hk:¬X.keep t=true:=by
     have:=SQ.1 HE t (by rw[nc];exact DQ);intro e;rw[e]at this;cases this
    simp only[Fh,QC,nc]at hl⊢;rw[AA hk]at hl⊢;simp only[Kk]at hl⊢;rw[PX hoy]at hl;have key:∀{A:Prop},Qe X.P d t t' (s.put dst v) x y C->Qe X.P d t t' s x y (fun s'=>C (s'.put dst v)/\∀y,(∀d',some d=some d'->y≠.tmp d')->EC (s.get y)=true->s'.get y=s.get y):=by
     intro _ hl;unfold Qe at hl⊢;obtain⟨h1,hl⟩:=hl;refine⟨h1,?_⟩;cases ff:IW X.P t with
     |none=>rw[ff]at hl;exact hl.elim
     |some es =>
      rw[ff]at hl;obtain⟨g1,CN,g2,g3,hl⟩:=hl;refine⟨g1,CN,?_,g3,?_⟩
      ·rw[PX hoy]at g2;have:∀(l:L),Gp X.P t t' es.1 (s.put dst v) l=Gp X.P t t' es.1 s l:=fun l=>by cases dst<;>rfl
       rw[this]at g2;exact g2
      ·rw[PX Zs,nu]at hl;split at hl
       ·rename_i d0 n hd0;split at hl
        ·obtain⟨k1,k2,k3,k4,k5,hC⟩:=hl;refine⟨k1,k2,k3,k4,k5,?_,fun z hz hf=>?_⟩
         ·rw[fb hv TL,<-J9o hv];exact hC
         ·rw[lK (hz d rfl) (by rw[J3a hf];exact hf),J3a hf]
        ·obtain⟨k1,k2,k3,p1,p2,p3,ps,p4,p5,p6,hC⟩:=hl;refine⟨k1,k2,k3,p1,p2,p3,ps,p4,p5,p6,?_,fun z hz hf=>?_⟩
         ·rw[fb hv TL];exact hC
         ·rw[lK (hz d rfl) hf]
        ·exact hl.elim
       ·obtain⟨k1,k2,hC⟩:=hl;refine⟨k1,k2,?_,fun z hz hf=>?_⟩
        ·rw[fb hv TL];exact hC
        ·rw[lK (hz d rfl) hf]
       ·exact hl.elim
    split at hl
    ·rename_i k m hm;obtain⟨h1,hl⟩:=hl;refine⟨h1,?_⟩;cases ff:IW X.P t with
     |none=>rw[ff]at hl;exact hl.elim
     |some es =>
      rw[ff]at hl;rw[PX Zs]at hl;simp only[Yk]at hl⊢;obtain⟨g1,g2,zs,g3,hl⟩:=hl;refine⟨g1,g2,zs,g3,?_⟩;rw[nu]at hl;split at hl
      ·obtain⟨k1,k2,hl⟩:=hl;refine⟨k1,k2,?_⟩;split at hl
       ·obtain⟨k3,k4,p1,p2,p3,ps,p4,p5,p6,hC⟩:=hl;refine⟨k3,k4,p1,p2,p3,ps,p4,p5,p6,?_,fun z hz hf=>?_⟩
        ·rw[fb hv TL];exact hC
        ·rw[lK (hz d rfl) hf]
       ·exact hl.elim
      ·obtain⟨k1,k2,k3,hC⟩:=hl;refine⟨k1,k2,k3,?_,fun z hz hf=>?_⟩
       ·rw[fb hv TL];exact hC
       ·rw[lK (hz d rfl) hf]
      ·exact hl.elim
    ·exact key (A:=True) hl
   |_=>simp[OL]at h
  |_=>simp[OL]at h
 |_=>simp[OL]at h
def Keo{kp:Nat->Bool}(h:OL kp o=true):o.guard=none:=by
 cases hg:o.guard with
 |none=>rfl
 |some g=>simp[OL,hg]at h
def J7r(hi:ops[i]?=some oi)(xA:q i=true)(hp:tC oi=true)(hv:EC v=true)(hA:∀j oj,q j=false->ops[j]?=some oj->OJ .any ops ops.size i j=true\/OL X.keep oj=true):∀(fuel:Nat) (BN:Array Bool) (s:St),OK .any ops BN->W4 s oi ->
   (∀j oj,ops[j]?=some oj->j≠i->BN.getD j true=false->(∀e∈oj.after,Region.binds .any e=true->e.on≠i)->oi.apart ops oj=true) ->
   i∈Region.ready .any ops BN->YS X (ops.toList.map (·.dst)) s oi (fun m=>m=v) ->
   fe X .any ops q K fuel (BN.setIfInBounds i true) (s.put oi.dst v)->fe X .any ops q K (fuel+1) BN s:=by
 intro fuel
 induction fuel with
 |zero =>
  intro BN s hd _ _ hr hy H;have only:∀j∈Region.ready .any ops BN,j=i:=by
   intro j hj;by_cases HC:j=i
   ·exact HC
   ·have:=ready_mono hj HC;rw[H.1]at this;cases this
  refine⟨fun h=>(by rw[h]at hr;cases hr),fun j hj oj HG=>?_⟩;have:=only j hj;subst this;rw[hi]at HG;cases HG;exact⟨fun _=>Kr (fun l hl=>by rw[hl];exact H) hy,fun h=>by rw[xA]at h;cases h⟩
 |succ fuel ih =>
  intro BN s hd PI LA hr hy H;refine⟨fun h=>(by rw[h]at hr;cases hr),fun j hj oj HG=>?_⟩;by_cases HC:j=i
  ·subst HC;rw[hi]at HG;cases HG;exact⟨fun _=>Kr (fun l hl=>by rw[hl];exact H) hy,fun h=>by rw[xA]at h;cases h⟩
  ·obtain⟨Pv,zk,Pw,GI⟩:=mem_ready.1 hj;rw[HG]at Pw;cases Pw;have WU:∀e∈oj.after,Region.binds .any e=true->e.on≠i:=fun e he hb Pe=>by
    have h1:=GI e he hb;have h0:=(Hn.1 (mem_ready.1 hr).1).2;rw[Pe]at h1;rw[h1]at h0;cases h0
   obtain⟨a1,a2,a3⟩:=Oper.apart_spec (LA j oj HG HC Pv WU);have Ib:∀z ok,ops[z]?=some ok->z≠i->(BN.setIfInBounds j true).getD z true=false ->
     (∀e∈ok.after,Region.binds .any e=true->e.on≠i)->oi.apart ops ok=true:=fun z ok hk iD ZC GR=>by
    refine LA z ok hk iD ?_ GR;by_cases TE:j=z
    ·subst TE;exact Pv
    ·rw[getD_set_ne true TE]at ZC;exact ZC
   have LJ:∀d,oj.dst=some d->∀x∈oi.op.operands.toList,x≠.tmp d:=fun d hd x hx iC=>a3 d hd (by
    subst iC;exact aL _ (oo.2 ⟨.tmp d,by simpa using hx,rfl⟩))
   refine⟨fun TE=>?_,fun s5=>?_⟩
   ·have h1:=(H.2 j (ready_mono hj HC) oj HG).1 TE;refine Kr (fun l hl=>?_) (Yr a1 h1);refine ih (BN.setIfInBounds j true) (s.put oj.dst l) (hd.set hj) (fun x hx=>?_) Ib (ready_mono hr (Ne.symm HC)) (Uk a3 hy) ?_
    ·rw[PX (fun d hd=>LJ d hd x hx)];exact PI x hx
    ·rw[gP _ _ HC];rw[<-nh s v l a2];exact hl
   ·have VW:OL X.keep oj=true:=by
     rcases hA j oj s5 HG with h|h
     ·exfalso;have h1:=Qb hd _ i j oj HG GI h;have h2:=(Hn.1 (mem_ready.1 hr).1).2;rw[h1]at h2;cases h2
     ·exact h
    obtain⟨C,h1,h2⟩:=(H.2 j (ready_mono hj HC) oj HG).2 s5;have hg:=Keo VW;unfold OZ at h1;rw[cZ,HG]at h1;simp only[hg,F4]at h1;have hc:=Kf5 VW s oi.dst v C hv (fun x hx y hy QC=>a1 x hx (by
     subst QC;exact aL _ (oo.2 ⟨.tmp x,by simpa using hy,rfl⟩))) (fun x d hx hd e=>a2 x hx (by rw[hd,e])) h1
    refine⟨fun s'=>C (s'.put oi.dst v)/\∀y,(∀d,oj.dst=some d->y≠.tmp d)->EC (s.get y)=true->s'.get y=s.get y,?_,?_⟩
    ·unfold OZ;rw[cZ,HG];simp only[hg,F4];exact hc
    ·rintro s' ⟨hC,hS⟩;have EH:∀x∈oi.op.operands.toList,s'.get x=s.get x:=fun x hx=>hS x (fun d hd=>LJ d hd x hx) (PI x hx)
     refine ih (BN.setIfInBounds j true) s' (hd.set hj) (fun x hx=>by rw[EH x hx];exact PI x hx) Ib (ready_mono hr (Ne.symm HC)) ?_ ?_
     ·rw[Kci hp]at hy⊢;exact Ψ (fun x hx=>by rw[EH x hx];exact PI x hx) (vq EH hy)
     ·rw[gP _ _ HC];exact h2 _ hC
def xW(kp:Nat->Bool)(ops:Array Oper)(q:Nat->Bool):List Nat->Array Bool->Bool
 |[],_=>true
 |i::I,BN=>(Region.ready .any ops BN).contains i&&(Region.free .any ops BN i&&(q i&&((match ops[i]? with|some o=>tC o|none=>false)&&((List.range ops.size).all (fun j=>q j||(OJ .any ops ops.size i j||match ops[j]? with|some o=>OL kp o|none=>false))&&xW kp ops q I (BN.setIfInBounds i true)))))
def Jzr{q:Nat->Bool}{K:St->Prop}{fuel:Nat}:∀(I:List Nat) (BN:Array Bool) (s:St),xW X.keep ops q I BN=true->OK .any ops BN ->
  ZK X (ops.toList.map (·.dst)) ops.toList (fe X .any ops q K fuel (sw I BN)) I s->fe X .any ops q K (fuel+I.length) BN s
 |[],BN,s,_,_,h=>h
 |i::I,BN,s,hB,hd,h=>by
  simp only[xW,OS,List.contains_eq_mem,AF]at hB;obtain⟨h1,h2,h3,hp,h4,h5⟩:=hB;obtain⟨_,oi,bO,_⟩:=mem_ready.1 h1;rw[bO]at hp;simp only[ZK]at h;rw[cZ,bO]at h;obtain⟨hf,h⟩:=h;obtain⟨v,hy,hv,hK⟩:=wD (X:=X) h;refine J7r bO h3 hp hv (fun j oj hj HG=>?_) (fuel+I.length) BN s hd hf (Region.free_spec bO h2) h1 hy (Jzr I _ _ h5 (hd.set h1) hK);have:=SQ.1 h4 j (List.mem_range.2 (Rw.1 HG).1);rw[WG,HG,WG]at this;rcases this with h|h|h
  ·rw[hj]at h;cases h
  ·exact .inl h
  ·exact .inr h
def tD{id:Nat}{s:St}(q:Nat->Bool)(I:List Nat)(T:Ord)(f:Nat)(hm:X.P.follows .mixedOrders=true)(hf:f+I.length=ops.size)(hB:xW X.keep ops q I (Array.replicate ops.size false)=true)(hT:P6 ops f (sw I (Array.replicate ops.size false))=T)(h:ZK X (ops.toList.map (·.dst)) ops.toList (Ob X (ops.toList.map (·.dst)) ops.toList q (Q .normal) T) I s):CL X ro (.region id ops true) Q s:=fun Γ a w hG hr=>by
 have h':RR Γ s a { w with drawn:=w.drawn+1 }:=by
  obtain⟨ms,CZ,β,Im,hx⟩:=hr;exact⟨ms,CZ,β,Im,hx.grow (DY.drew hx.fit.im)⟩
 refine wpIn_region_any hm (È (q:=q) (K:=Q .normal) hG.1 (fun s _ _ h1 h2=>⟨s,h1,h2⟩) _ _ s a _ h' ?_);have hd:OK .any ops (Array.replicate ops.size false):=by
  intro i o ho hl;exfalso;have hi:=(Rw.1 ho).1;simp[OQ,hi]at hl
 have:=Jzr (X:=X) (K:=Q .normal) (fuel:=f) I (Array.replicate ops.size false) s hB hd ?_
 ·rw[hf]at this;exact this
 ·subst hT;exact Á (fun s hs=>É f _ s hs) I s h
end
section
attribute [local irreducible] Al Bi CL
def Jag(a:L):Ag cx 265 [a] a:=by
 intro β Im w vs hl ha
 match vs,hl with
 |[v],_ =>
  refine⟨v,?_,ha 0 v a rfl rfl⟩;show(callFunc 265 #[v]).run Tryz.prog w=_;rw[run_callFunc_extern func265 kr kr kr (e:=Extern.AbiNoEscape.same) kr,Lib.run_noEscape];rfl
def lL:liesAt Tryz.prog Tryz.prog.depth 206 1 0 206 1=true:=kr
def FM:List (List PV):=s.map fun c=>[.int .u8 c.toNat]
def Di:(FM s).length=s.length:=by simp[FM]
def Jhm(c:UInt8)(s:List UInt8):FM (c::s)=[.int .u8 c.toNat]::FM s:=(rfl)
def Gz(a b:List UInt8):FM (a++b)=FM a++FM b:=by simp[FM]
def X6(a:List UInt8):∀q∈FM a,q.length=1:=by simp[FM]
def Rz:∀s:List UInt8,Cw (FM s)=some s
 |[]=>rfl
 |c::s=>by
  rw[Jhm,My,Rz s];have:=c.toNat_lt;simp only[Rr];rw[AB omg];simp
def Ox{s:List UInt8}{C:List UInt8->Prop}:Bq (Cw (FM s)) C=C s:=by rw[Rz,Q9]
def Jo4(c:PV):(∀q∈[[c]],q.length=1)=True:=sm
def K8(x:Int)(h0:0<=x)(h1:x<32):IntKind.u8.wrap (BitVec.ofInt (B0 .u8) 192 ||| BitVec.ofInt (B0 .u8) x).toNat=192+x:=by
 obtain⟨n,rfl⟩:=ZU h0;have:n<32:=omg;have key:∀m:Fin 32,IntKind.u8.wrap (BitVec.ofInt (B0 .u8) 192 ||| BitVec.ofInt (B0 .u8) (m.val:Int)).toNat=192+(m.val:Int):=de;exact key ⟨n,this⟩
def K5(x:Int)(h0:0<=x)(h1:x<16):IntKind.u8.wrap (BitVec.ofInt (B0 .u8) 224 ||| BitVec.ofInt (B0 .u8) x).toNat=224+x:=by
 obtain⟨n,rfl⟩:=ZU h0;have key:∀m:Fin 16,IntKind.u8.wrap (BitVec.ofInt (B0 .u8) 224 ||| BitVec.ofInt (B0 .u8) (m.val:Int)).toNat=224+(m.val:Int):=de;exact key ⟨n,omg⟩
def La(x:Int)(h0:0<=x)(h1:x<8):IntKind.u8.wrap (BitVec.ofInt (B0 .u8) 240 ||| BitVec.ofInt (B0 .u8) x).toNat=240+x:=by
 obtain⟨n,rfl⟩:=ZU h0;have key:∀m:Fin 8,IntKind.u8.wrap (BitVec.ofInt (B0 .u8) 240 ||| BitVec.ofInt (B0 .u8) (m.val:Int)).toNat=240+(m.val:Int):=de;exact key ⟨n,omg⟩
def K0(x:Int)(h0:0<=x)(h1:x<64):IntKind.u8.wrap (BitVec.ofInt (B0 .u8) 128 ||| BitVec.ofInt (B0 .u8) x).toNat=128+x:=by
 obtain⟨n,rfl⟩:=ZU h0;have key:∀m:Fin 64,IntKind.u8.wrap (BitVec.ofInt (B0 .u8) 128 ||| BitVec.ofInt (B0 .u8) (m.val:Int)).toNat=128+(m.val:Int):=de;exact key ⟨n,omg⟩
def K1(x:Int)(h0:0<=x)(h1:x<256):IntKind.u8.wrap (BitVec.ofInt (B0 .u8) x &&& BitVec.ofInt (B0 .u8) 63).toNat=x%64:=by
 obtain⟨n,rfl⟩:=ZU h0;have key:∀m:Fin 256,IntKind.u8.wrap (BitVec.ofInt (B0 .u8) (m.val:Int) &&& BitVec.ofInt (B0 .u8) 63).toNat=(m.val:Int)%64:=de;exact key ⟨n,omg⟩
def cJ:r.fdiv (2^min 6 (B0 .i32))=r/64:=by
 rw[oX _ de];rfl
def RI:r.fdiv (2^min 12 (B0 .i32))=r/4096:=by
 rw[oX _ de];rfl
def RJ:r.fdiv (2^min 18 (B0 .i32))=r/262144:=by
 rw[oX _ de];rfl
def It:List Int:=
 if 0<=r/\r<128 then [r]
 else if 0<=r/\r<2048 then [192+r/64,128+r%64]
 else if(0<=r/\r<55296)\/(57343<r/\r<65536)then [224+r/4096,128+r/64%64,128+r%64]
 else if 65536<=r/\r<=1114111 then [240+r/262144,128+r/4096%64,128+r/64%64,128+r%64]
 else [239,191,189]
def Nb{r:Int}(h:0<=r/\r<128):It r=[r]:=AB h
def Oc{r:Int}(h:128<=r/\r<2048):It r=[192+r/64,128+r%64]:=by unfold It;rw[AA omg,AB omg]
def Nd{r:Int}(h:(2048<=r/\r<55296)\/(57343<r/\r<65536)):It r=[224+r/4096,128+r/64%64,128+r%64]:=by unfold It;rw[AA omg,AA omg,AB omg]
def Nk{r:Int}(h:65536<=r/\r<=1114111):It r=[240+r/262144,128+r/4096%64,128+r/64%64,128+r%64]:=by unfold It;rw[AA omg,AA omg,AA omg,AB omg]
def Wq{r:Int}(h:¬(0<=r/\r<55296)/\¬(57343<r/\r<=1114111)):It r=[239,191,189]:=by unfold It;rw[AA omg,AA omg,AA omg,AA omg]
def FG:List UInt8:=(It r).map GN
def Jnr:∀c∈It r,0<=c/\c<256:=by
 unfold It;split
 ·simp;omega
 split
 ·simp;omega
 split
 ·simp;omega
 split
 ·simp;omega
 ·simp
def B8{c:Int}(h0:0<=c)(h1:c<256):((GN c).toNat:Int)=c:=by
 unfold GN;simp;omega
def Em:FM (FG r)=(It r).map fun c=>[PV.int .u8 c]:=by
 simp only[FM,FG,OT];apply UM;intro c hc;obtain⟨h0,h1⟩:=Jnr r c hc;simp[B8 h0 h1]
def D6:(FG r).length=(It r).length:=by simp[FG]
def Od:(FG r).length<=4:=by
 rw[D6];unfold It
 repeat' split
 all_goals simp
def Cm:CA cx 244 [.ptr 1000 0 0] [(1000,.var 206 [.p .nptr,.p .snil])] (.tup []) [(1000,.var 206 [.ptr 1000 0 0,.p .snil])]:=by
 (refine CB func244 ?_);(repeat'(first|(refine J7f (Jag _) (TG ?_))|fail));exact lL
def Ct(n:Nat):CA cx 244 [.ptr 1000 0 0] [(500001,.row 5 1 es),(1000,.var 206 [.ptr 1000 0 0,.own 500001 0 n])] (.tup []) [(500001,.row 5 1 es),(1000,.var 206 [.ptr 1000 0 0,.own 500001 0 n])]:=by
 (refine CK func244 ?_;simp only[go_sem,simprocAttr])
def Hc(c:Int):CA cx 214 [.ptr 1000 0 0,.p (.int .u8 c)] [(1000,.var 206 [.p .nptr,.p .snil])] (.p .nifc) [(900,.row 5 1 [[.int .u8 c]]),(1000,.var 206 [.ptr 1000 0 0,.own 900 0 1])]:=by
 (refine HJ false [(14,900)] func214 ?_);(repeat'(first|refine CI Cm ?_|fail));simp
def Eb(c:Int)(es:List (List PV))(n:Nat)(h:es.length=n)(hn:n<=1000000000):CA cx 214 [.ptr 1000 0 0,.p (.int .u8 c)] [(500001,.row 5 1 es),(1000,.var 206 [.ptr 1000 0 0,.own 500001 0 n])] (.p .nifc) [(500001,.row 5 1 (es++[[.int .u8 c]])),(1000,.var 206 [.ptr 1000 0 0,.own 500001 0 (n+1)])]:=by
 (refine HJ false [(14,500001)] func214 ?_);(repeat'(first|refine CI (Ct _ _) ?_|fail));simp;omega
def Bx(es:List (List PV))(n:Nat)(h:es.length=n)(hn:n<=1000000000)(hs:s.length<=1000000000):CA cx 215 [.ptr 1000 0 0,.p (.str s)] [(500001,.row 5 1 es),(1000,.var 206 [.ptr 1000 0 0,.own 500001 0 n])] (.tup [.int .i64 s.length,.nifc]) [(500001,.row 5 1 (es++FM s)),(1000,.var 206 [.ptr 1000 0 0,.own 500001 0 (n+s.length)])]:=by
 (refine HJ false [(14,500001)] func215 ?_);(repeat'(first|refine CI (Ct _ _) ?_|fail));exact⟨X6 s,h,omg,omg,rfl⟩
def En(es:List (List PV))(n:Nat)(hl:es.length=n)(hn:n<=1000000000)(hr:¬(0<=r/\r<128))(h1:-2147483648<=r)(h2:r<=2147483647):CA cx 266 [.own 1000 0 n,.p (.int .i32 r)] [(1000,.row 5 1 es)] (.own 900 0 (n+(FG r).length)) [(900,.row 5 1 (es++FM (FG r)))]:=by
 (refine HJ true [(10,900),(24,900),(49,900),(77,900)] func266 ?_);(repeat'(first|(apply BY<;>intro h)|refine EA ?_|(exfalso;omega)))
 all_goals simp only[Ec]at *
 all_goals first|(have e:=Oc (r:=r) omg;refine⟨by simp,(by first|assumption|omega),omg,omg,by rw[D6,e];rfl,?_⟩;rw[Em,e];(try simp(disch:=omega)only [cJ,RI,RJ,Be r,Be (r/64),Be (r/4096),Be (r/262144),K1,K8,K0,K5,La]);simp;(try omega);done)|(have e:=Nd (r:=r) omg;refine⟨by simp,(by first|assumption|omega),omg,omg,by rw[D6,e];rfl,?_⟩;rw[Em,e];(try simp(disch:=omega)only [cJ,RI,RJ,Be r,Be (r/64),Be (r/4096),Be (r/262144),K1,K8,K0,K5,La]);simp;(try omega);done)|(have e:=Nk (r:=r) omg;refine⟨by simp,(by first|assumption|omega),omg,omg,by rw[D6,e];rfl,?_⟩;rw[Em,e];(try simp(disch:=omega)only [cJ,RI,RJ,Be r,Be (r/64),Be (r/4096),Be (r/262144),K1,K8,K0,K5,La]);simp;(try omega);done)|(have e:=Wq (r:=r) omg;refine⟨by simp,(by first|assumption|omega),omg,omg,by rw[D6,e];rfl,?_⟩;rw[Em,e];(try simp(disch:=omega)only [cJ,RI,RJ,Be r,Be (r/64),Be (r/4096),Be (r/262144),K1,K8,K0,K5,La]);simp;(try omega);done)
def H7(es:List (List PV))(n:Nat)(hl:es.length=n)(hn:n<=1000000000)(h1:-2147483648<=r)(h2:r<=2147483647):CA cx 245 [.own 1000 0 n,.p (.int .i32 r)] [(1000,.row 5 1 es)] (.own 900 0 (n+(FG r).length)) [(900,.row 5 1 (es++FM (FG r)))]:=by
 (refine HJ true [(12,900),(15,900)] func245 ?_);(repeat'(first|(apply BY<;>intro h)|((refine BU (En r es n hl hn (by simp only[Ec]at *;omega) h1 h2) ?_);simp only[go_sem,simprocAttr])|fail))
 all_goals simp only[Ec]at *
 ·have e:=Nb (r:=r) omg;refine⟨by simp,(by first|assumption|omega),omg,omg,by rw[D6,e];rfl,?_⟩;rw[Em,e];(try simp(disch:=omega)only [cJ,RI,RJ,Be r,Be (r/64),Be (r/4096),Be (r/262144),K1,K8,K0,K5,La]);simp;(try omega)
def Ej(hr:¬(0<=r/\r<128))(h1:-2147483648<=r)(h2:r<=2147483647):CA cx 266 [.p .snil,.p (.int .i32 r)] [] (.own 900 0 (FG r).length) [(900,.row 5 1 (FM (FG r)))]:=by
 (refine HJ true [(10,900),(24,900),(49,900),(77,900)] func266 ?_);(repeat'(first|(apply BY<;>intro h)|refine EA ?_|(exfalso;omega)))
 all_goals simp only[Ec]at *
 all_goals first|(have e:=Oc (r:=r) omg;refine⟨by simp,by rw[D6,e];rfl,?_⟩;rw[Em,e];(try simp(disch:=omega)only [cJ,RI,RJ,Be r,Be (r/64),Be (r/4096),Be (r/262144),K1,K8,K0,K5,La]);simp;(try omega);done)|(have e:=Nd (r:=r) omg;refine⟨by simp,by rw[D6,e];rfl,?_⟩;rw[Em,e];(try simp(disch:=omega)only [cJ,RI,RJ,Be r,Be (r/64),Be (r/4096),Be (r/262144),K1,K8,K0,K5,La]);simp;(try omega);done)|(have e:=Nk (r:=r) omg;refine⟨by simp,by rw[D6,e];rfl,?_⟩;rw[Em,e];(try simp(disch:=omega)only [cJ,RI,RJ,Be r,Be (r/64),Be (r/4096),Be (r/262144),K1,K8,K0,K5,La]);simp;(try omega);done)|(have e:=Wq (r:=r) omg;refine⟨by simp,by rw[D6,e];rfl,?_⟩;rw[Em,e];(try simp(disch:=omega)only [cJ,RI,RJ,Be r,Be (r/64),Be (r/4096),Be (r/262144),K1,K8,K0,K5,La]);simp;(try omega);done)
def H1(h1:-2147483648<=r)(h2:r<=2147483647):CA cx 245 [.p .snil,.p (.int .i32 r)] [] (.own 900 0 (FG r).length) [(900,.row 5 1 (FM (FG r)))]:=by
 (refine HJ true [(12,900),(15,900)] func245 ?_);(repeat'(first|(apply BY<;>intro h)|((refine BU (Ej r (by simp only[Ec]at *;omega) h1 h2) ?_);simp only[go_sem,simprocAttr])|fail))
 all_goals simp only[Ec]at *
 ·have e:=Nb (r:=r) omg;refine⟨by simp,by rw[D6,e];rfl,?_⟩;rw[Em,e];(try simp(disch:=omega)only [cJ,RI,RJ,Be r,Be (r/64),Be (r/4096),Be (r/262144),K1,K8,K0,K5,La]);simp;(try omega)
def Ed(es:List (List PV))(n:Nat)(hl:es.length=n)(hn:n<=1000000000)(h1:-2147483648<=r)(h2:r<=2147483647):CA cx 212 [.ptr 1000 0 0,.p (.int .i32 r)] [(500001,.row 5 1 es),(1000,.var 206 [.ptr 1000 0 0,.own 500001 0 n])] (.tup [.int .i64 (FG r).length,.nifc]) [(500001,.row 5 1 (es++FM (FG r))),(1000,.var 206 [.ptr 1000 0 0,.own 500001 0 (n+(FG r).length)])]:=by
 (refine HJ false [(20,500001)] func212 ?_);(repeat'(first|(first|refine CI (Ct _ _) ?_|refine CI (H7 r es n hl hn h1 h2) ?_)|fail));have:=Od r;simp(disch:=omega)only [Aa]
 (try simp);(try omega)
def Hb(h1:-2147483648<=r)(h2:r<=2147483647):CA cx 212 [.ptr 1000 0 0,.p (.int .i32 r)] [(1000,.var 206 [.p .nptr,.p .snil])] (.tup [.int .i64 (FG r).length,.nifc]) [(900,.row 5 1 (FM (FG r))),(1000,.var 206 [.ptr 1000 0 0,.own 900 0 (FG r).length])]:=by
 (refine HJ false [(20,900)] func212 ?_);(repeat'(first|(first|refine CI Cm ?_|refine CI (H1 r h1 h2) ?_)|fail));have:=Od r;simp(disch:=omega)only [Aa]
 (try simp);(try omega)
def Fa:CA cx 210 [.ptr 1000 0 0] [(1000,.var 206 [.p .nptr,.p .snil])] (.p (.str [])) [(1000,.var 206 [.p .nptr,.p .snil])]:=by
 (refine CB func210 ?_);(refine Gi 10 hm kr kr (TG ?_));exact⟨_,rfl⟩
def Eo(n:Nat)(hn:s.length=n)(h1:n<=1000000000)(h0:n≠0):CA cx 210 [.ptr 1000 0 0] [(500001,.row 5 1 (FM s)),(1000,.var 206 [.ptr 1000 0 0,.own 500001 0 n])] (.p (.str s)) [(1000,.var 206 [.ptr 1000 0 0,.junk])]:=by
 (refine CB func210 ?_);(refine Gi 10 hm kr kr ?_;simp only[go_sem,simprocAttr,Ox]);have h2:s≠[]:=fun h=>by subst h;exact h0 (by rw[<-hn];rfl)
 simp[hn,h2];omega
def A8(name:List UInt8):List (List UInt8×BM)->List (List UInt8×BM)|[]=>[]|p::l=>if p.1=name then A8 name l else p::A8 name l
def Ku(name:List UInt8):∀a b:List (List UInt8×BM),A8 name (a++b)=A8 name a++A8 name b
 |[],b=>rfl
 |p::a,b=>by
  simp only[PQ,A8];split
  ·exact Ku name a b
  ·rw[Ku name a b];rfl
def Ld{l:List (List UInt8×BM)}(h:l[k]?=some p)(hn:p.1=name):A8 name (l.take (k+1))=A8 name (l.take k):=by
 rw[NA,h,Ku];simp[A8,hn]
def C8{l:List (List UInt8×BM)}(h:l[k]?=some p)(hn:p.1≠name):A8 name (l.take (k+1))=A8 name (l.take k)++[p]:=by
 rw[NA,h,Ku];simp[A8,hn]
def Rg(name:List UInt8):∀l:List (List UInt8×BM),(A8 name l).length<=l.length
 |[]=>CS _
 |p::l=>by
  have:=Rg name l;simp only[A8];split<;>simp<;>omega
def T6(a b:List (List UInt8×BM)):Bd (a++b)=Bd a++Bd b:=by simp[Bd]
def Tj(a b:List (List UInt8×BM)):A4 (a++b)=A4 a++A4 b:=by simp[A4]
def El(name:List UInt8):∀f:BO,(A1 (A8 name f.list)).enc.length<=f.enc.length
 |.nil=>CS _
 |.cons nm t r=>by
  have:=El name r;simp only[BO.list,A8];split
  ·rw[A0,DC];omega
  ·simp only[A1,A0,DC];omega
def xX(name:List UInt8)(l:List (List UInt8×BM)):BX := [(500000,.row 25 1 (A4 (A8 name l))),(500001,.row 9 1 (Bd (A8 name l))),(1002,.var 53 [.own 500000 0 (A8 name l).length]),(1003,.var 61 [.own 500001 0 (A8 name l).length]),(1004,.var 9 [.p (.str name)])]
def Jfw(s:List UInt8)(g:Bool)(e:Int)(BL:BO)(name:List UInt8)(hv:BL.enc.length<=1499999999999):CA cx 71 [.p (.sl (BP ((BM.mk 6 s g e BL).enc nm))),.p (.str name)] [] (.p (.sl (BP ((BM.mk 6 [] false 0 (A1 (A8 name BL.list))).enc [])))) []:=by
 (refine CB func71 ?_);(repeat'(first|refine CI (Hp _) ?_|fail));refine HD (St.Le.trans (ZE _ (b:=5) (j:=0) (d:=500) 9 1 (.inl de) (T':=61) (cs:=[.p .snil]) rfl rfl) (ZE _ (b:=6) (j:=0) (d:=501) 25 1 (.inl de) (T':=53) (cs:=[.p .snil]) rfl rfl)) ?_;simp only[St.nilCell,St.nilReg,Ms,go_sem,simprocAttr];have GB:=KE BL;(refine CL.range (Dp BL) 27 [(19,500001),(23,500000)] sm _ _ _ _ _ (fun k R=>R=xX name (BL.list.take k)) (fun _ _=>False) (by rfl) (by rfl) (by rfl) (Rt nm 6 s g e BL hv) (by simp only[go_sem,simprocAttr]<;>rfl) (by first|rfl|simp[Cg]) sm ?F' (by simp only[go_sem,simprocAttr]<;>rfl) (by simp only[go_sem,simprocAttr]<;>rfl) (by simp only[go_sem,simprocAttr]<;>rfl) ?h0 ?SE ?SF ?TI ?round ?done ?stop)
 case F'=>exact fun x hx=>Fn hx
 case h0=>rfl
 case SE=>rintro k R rfl;simp[xX,Hg,findKey]
 case SF=>exact fun _ _ h=>h.elim
 case TI=>exact fun _ h=>h
 case stop=>exact fun _ _ h=>h.elim
 case done =>
  rintro R rfl;rw[E4,DK (by rw[LU];exact CS _)];simp only[xX,go_sem,simprocAttr];refine⟨_,St.Le.refl _,?_⟩;have D':((A8 name BL.list).length<=(A4 (A8 name BL.list)).length)=True:=AE (by rw[A5];exact CS _);have IB:((A8 name BL.list).length<=(Bd (A8 name BL.list)).length)=True:=AE (by rw[A9];exact CS _);have HK:(A4 (A8 name BL.list)).take (A8 name BL.list).length=A4 (A8 name BL.list):=DK (by rw[A5];exact CS _);have hnt:(Bd (A8 name BL.list)).take (A8 name BL.list).length=Bd (A8 name BL.list):=DK (by rw[A9];exact CS _);have lM:=El name BL;simp only[go_sem,simprocAttr,D',IB,HK,hnt];refine BU (Φ _ omg) ?_;simp only[go_sem,simprocAttr]
 case round =>
  rintro k x R l hx rfl;obtain⟨p,hp,rfl⟩:=Fq hx;have DV:=(DX.1 hp).1;rw[LU]at DV;have HE:=Rg name (BL.list.take k);rw[GF,LU]at HE;simp only[xX,go_sem,simprocAttr];refine HO ?_;refine BY (fun hn=>?_) (fun hn=>?_)
  ·have t1:A4 (A8 name (BL.list.take (k+1)))=A4 (A8 name (BL.list.take k))++[[.sl (BP (p.2.enc []))]]:=by rw[C8 hp hn,Tj];rfl
   have t2:Bd (A8 name (BL.list.take (k+1)))=Bd (A8 name (BL.list.take k))++[[.str p.1]]:=by rw[C8 hp hn,T6];rfl
   have t3:(A8 name (BL.list.take (k+1))).length=(A8 name (BL.list.take k)).length+1:=by rw[C8 hp hn,DC];rfl
   have hP:(A4 (A8 name (BL.list.take k))).length=(A8 name (BL.list.take k)).length:=A5 _;have hN:(Bd (A8 name (BL.list.take k))).length=(A8 name (BL.list.take k)).length:=A9 _;generalize NI:(A8 name (BL.list.take k)).length=m at *
   generalize A4 (A8 name (BL.list.take k))=P at *
   generalize Bd (A8 name (BL.list.take k))=N at *
   have e1:(P.length=m)=True:=AE hP;have e2:(N.length=m)=True:=AE hN;have e3:((m+1)*24<=140737488355328)=True:=AE omg;have e4:((m+1)*16<=140737488355328)=True:=AE omg;have e5:(m<=9223372036854775806)=True:=AE omg;refine tD (qj 0 2 4 6) [1,5] (.node 0 (.node 2 (.node 3 (.node 4 (.node 6 (.node 7 (.node 8 (.node 9 .leaf .nil) .nil) .nil) .nil) (.node 6 (.node 4 (.node 7 (.node 8 (.node 9 .leaf .nil) .nil) .nil) .nil) .nil)) (.node 4 (.node 3 (.node 6 (.node 7 (.node 8 (.node 9 .leaf .nil) .nil) .nil) .nil) (.node 6 (.node 3 (.node 7 (.node 8 (.node 9 .leaf .nil) .nil) .nil) .nil) .nil)) (.node 6 (.node 3 (.node 4 (.node 7 (.node 8 (.node 9 .leaf .nil) .nil) .nil) .nil) (.node 4 (.node 3 (.node 7 (.node 8 (.node 9 .leaf .nil) .nil) .nil) .nil) .nil)) .nil))) (.node 4 (.node 2 (.node 3 (.node 6 (.node 7 (.node 8 (.node 9 .leaf .nil) .nil) .nil) .nil) (.node 6 (.node 3 (.node 7 (.node 8 (.node 9 .leaf .nil) .nil) .nil) .nil) .nil)) (.node 6 (.node 2 (.node 3 (.node 7 (.node 8 (.node 9 .leaf .nil) .nil) .nil) .nil) .nil) .nil)) (.node 6 (.node 2 (.node 3 (.node 4 (.node 7 (.node 8 (.node 9 .leaf .nil) .nil) .nil) .nil) (.node 4 (.node 3 (.node 7 (.node 8 (.node 9 .leaf .nil) .nil) .nil) .nil) .nil)) (.node 4 (.node 2 (.node 3 (.node 7 (.node 8 (.node 9 .leaf .nil) .nil) .nil) .nil) .nil) .nil)) .nil))) (.node 2 (.node 0 (.node 3 (.node 4 (.node 6 (.node 7 (.node 8 (.node 9 .leaf .nil) .nil) .nil) .nil) (.node 6 (.node 4 (.node 7 (.node 8 (.node 9 .leaf .nil) .nil) .nil) .nil) .nil)) (.node 4 (.node 3 (.node 6 (.node 7 (.node 8 (.node 9 .leaf .nil) .nil) .nil) .nil) (.node 6 (.node 3 (.node 7 (.node 8 (.node 9 .leaf .nil) .nil) .nil) .nil) .nil)) (.node 6 (.node 3 (.node 4 (.node 7 (.node 8 (.node 9 .leaf .nil) .nil) .nil) .nil) (.node 4 (.node 3 (.node 7 (.node 8 (.node 9 .leaf .nil) .nil) .nil) .nil) .nil)) .nil))) (.node 4 (.node 0 (.node 3 (.node 6 (.node 7 (.node 8 (.node 9 .leaf .nil) .nil) .nil) .nil) (.node 6 (.node 3 (.node 7 (.node 8 (.node 9 .leaf .nil) .nil) .nil) .nil) .nil)) (.node 6 (.node 0 (.node 3 (.node 7 (.node 8 (.node 9 .leaf .nil) .nil) .nil) .nil) .nil) .nil)) (.node 6 (.node 0 (.node 3 (.node 4 (.node 7 (.node 8 (.node 9 .leaf .nil) .nil) .nil) .nil) (.node 4 (.node 3 (.node 7 (.node 8 (.node 9 .leaf .nil) .nil) .nil) .nil) .nil)) (.node 4 (.node 0 (.node 3 (.node 7 (.node 8 (.node 9 .leaf .nil) .nil) .nil) .nil) .nil) .nil)) .nil))) (.node 4 (.node 0 (.node 2 (.node 3 (.node 6 (.node 7 (.node 8 (.node 9 .leaf .nil) .nil) .nil) .nil) (.node 6 (.node 3 (.node 7 (.node 8 (.node 9 .leaf .nil) .nil) .nil) .nil) .nil)) (.node 6 (.node 2 (.node 3 (.node 7 (.node 8 (.node 9 .leaf .nil) .nil) .nil) .nil) .nil) .nil)) (.node 2 (.node 0 (.node 3 (.node 6 (.node 7 (.node 8 (.node 9 .leaf .nil) .nil) .nil) .nil) (.node 6 (.node 3 (.node 7 (.node 8 (.node 9 .leaf .nil) .nil) .nil) .nil) .nil)) (.node 6 (.node 0 (.node 3 (.node 7 (.node 8 (.node 9 .leaf .nil) .nil) .nil) .nil) .nil) .nil)) (.node 6 (.node 0 (.node 2 (.node 3 (.node 7 (.node 8 (.node 9 .leaf .nil) .nil) .nil) .nil) .nil) (.node 2 (.node 0 (.node 3 (.node 7 (.node 8 (.node 9 .leaf .nil) .nil) .nil) .nil) .nil) .nil)) .nil))) (.node 6 (.node 0 (.node 2 (.node 3 (.node 4 (.node 7 (.node 8 (.node 9 .leaf .nil) .nil) .nil) .nil) (.node 4 (.node 3 (.node 7 (.node 8 (.node 9 .leaf .nil) .nil) .nil) .nil) .nil)) (.node 4 (.node 2 (.node 3 (.node 7 (.node 8 (.node 9 .leaf .nil) .nil) .nil) .nil) .nil) .nil)) (.node 2 (.node 0 (.node 3 (.node 4 (.node 7 (.node 8 (.node 9 .leaf .nil) .nil) .nil) .nil) (.node 4 (.node 3 (.node 7 (.node 8 (.node 9 .leaf .nil) .nil) .nil) .nil) .nil)) (.node 4 (.node 0 (.node 3 (.node 7 (.node 8 (.node 9 .leaf .nil) .nil) .nil) .nil) .nil) .nil)) (.node 4 (.node 0 (.node 2 (.node 3 (.node 7 (.node 8 (.node 9 .leaf .nil) .nil) .nil) .nil) .nil) (.node 2 (.node 0 (.node 3 (.node 7 (.node 8 (.node 9 .leaf .nil) .nil) .nil) .nil) .nil) .nil)) .nil))) .nil)))) 8 hm rfl kr kr ?_;simp only[go_sem,simprocAttr,Jo4,e1,e2,e3,e4,e5];(repeat' apply And.intro)
   all_goals(refine⟨_,rfl,?_⟩;rw[t1,t2,t3];exact(UE (by simp only[Ar]) (by simp(disch:=omega) [Az,A3,Aw,Am,Af,Ai,Au,Aa]) (by simp[Ay])))
  ·have cD:=JK.1 hn;refine⟨_,rfl,?_⟩;rw[Ld hp cD];exact(UE (by simp only[Ar]) (by simp(disch:=omega) [Az,A3,Aw,Am,Af,Ai,Au,Aa]) (by simp[Ay]))
def Ñ(kd:Int)(s:List UInt8)(g:Bool)(e:Int)(BL:BO)(hv:BL.enc.length<=1499999999999):CA cx 68 [.p (.sl (BP ((BM.mk kd s g e BL).enc nm)))] [] (.own 900 0 BL.len) [(900,.row 25 1 (A4 BL.list))]:=by
 have GB:=KE BL;have RL:=LU BL;(refine HJ true [(990,900),(500,900)] func68 ?_);(repeat'(first|refine CI (Hp _) ?_|fail));refine HD (ZE _ (b:=3) (j:=0) (d:=500) 25 1 (.inl de) (T':=53) (cs:=[.p .snil]) rfl rfl) ?_;simp only[St.nilCell,St.nilReg,Ms,go_sem,simprocAttr];(refine CL.range (Dp BL) 15 [(13,500000)] sm _ _ _ _ _ (fun k R=>R=[(500000,.row 25 1 (A4 (BL.list.take k))),(1001,.var 53 [.own 500000 0 k])]) (fun _ _=>False) (by rfl) (by rfl) (by rfl) (Rt nm kd s g e BL hv) (by simp only[go_sem,simprocAttr]<;>rfl) (by first|rfl|simp[Cg]) sm ?F' (by simp only[go_sem,simprocAttr]<;>rfl) (by simp only[go_sem,simprocAttr]<;>rfl) (by simp only[go_sem,simprocAttr]<;>rfl) ?h0 ?SE ?SF ?TI ?round ?done ?stop)
 case F'=>exact fun x hx=>Fn hx
 case h0=>rfl
 case SE=>rintro k R rfl;simp[Hg,findKey]
 case SF=>exact fun _ _ h=>h.elim
 case TI=>exact fun _ h=>h
 case stop=>exact fun _ _ h=>h.elim
 case round =>
  rintro k x R l hx rfl;obtain⟨p,hp,rfl⟩:=Fq hx;have DV:=(DX.1 hp).1;simp only[go_sem,simprocAttr];refine HO ?_;refine⟨by simp,by rw[A5,GF];omega,omg,omg,_,rfl,?_⟩;rw[Gs hp];exact(UE (by simp only[Ar]) (by simp(disch:=omega) [Az,A3,Aw,Am,Af,Ai,Au,Aa]) (by simp[Ay]))
 case done =>
  rintro R rfl;rw[E4,DK omg];simp only[go_sem,simprocAttr];refine⟨_,St.Le.refl _,?_⟩;simp only[go_sem,simprocAttr]
def Jnc(s:List UInt8)(g:Bool)(e:Int)(BL:BO)(hv:BL.enc.length<=1499999999999):CA cx 86 [.p (.sl (BP ((BM.mk 6 s g e BL).enc nm)))] [] (.own 900 0 BL.len) [(900,.row 9 1 (Bd BL.list))]:=by
 have GB:=KE BL;have RL:=LU BL;(refine TK true [(990,900),(500,900)] func86 ?_;simp only[go_sem,simprocAttr,Cc]);(repeat'(first|refine CI (Hp _) ?_|fail));refine HD (ZE _ (b:=3) (j:=0) (d:=500) 9 1 (.inl de) (T':=61) (cs:=[.p .snil]) rfl rfl) ?_;simp only[St.nilCell,St.nilReg,Ms,go_sem,simprocAttr,Cc];(refine CL.range (Dp BL) 19 [(17,500000)] sm _ _ _ _ _ (fun k R=>R=[(500000,.row 9 1 (Bd (BL.list.take k))),(1001,.var 61 [.own 500000 0 k])]) (fun _ _=>False) (by rfl) (by rfl) (by rfl) (Rt nm 6 s g e BL hv) (by simp only[go_sem,simprocAttr]<;>rfl) (by first|rfl|simp[Cg]) sm ?F' (by simp only[go_sem,simprocAttr]<;>rfl) (by simp only[go_sem,simprocAttr]<;>rfl) (by simp only[go_sem,simprocAttr]<;>rfl) ?h0 ?SE ?SF ?TI ?round ?done ?stop)
 case F'=>exact fun x hx=>Fn hx
 case h0=>rfl
 case SE=>rintro k R rfl;simp[Hg,findKey]
 case SF=>exact fun _ _ h=>h.elim
 case TI=>exact fun _ h=>h
 case stop=>exact fun _ _ h=>h.elim
 case round =>
  rintro k x R l hx rfl;obtain⟨p,hp,rfl⟩:=Fq hx;have DV:=(DX.1 hp).1;simp only[go_sem,simprocAttr];refine HO ?_;refine⟨by simp,by rw[A9,GF];omega,omg,omg,_,rfl,?_⟩;rw[Lr hp];exact(UE (by simp only[Ar]) (by simp(disch:=omega) [Az,A3,Aw,Am,Af,Ai,Au,Aa]) (by simp[Ay]))
 case done =>
  rintro R rfl;rw[E4,DK omg];simp only[go_sem,simprocAttr];refine⟨_,St.Le.refl _,?_⟩;simp only[go_sem,simprocAttr]
def Qn(n:Nat)(x:List UInt8)(h:es.length=n)(hn:n<=1500000000000):CA cx 143 [.own 1000 0 n,.p (.int .i64 n),.own 1001 0 1] [(1001,.row 9 1 [[.str x]]),(1000,.row 9 1 es)] (.own 900 0 (n+1)) [(900,.row 9 1 (es++[[.str x]])),(1001,.row 9 1 [[.str x]])]:=by
 (refine HJ true [(25,900)] func143 ?_);(repeat'(first|refine EA ?_|fail));exact⟨by simp,AN,omg,omg⟩
def S0(n:Nat)(x:PV)(hx:x.scalar=true)(h:es.length=n)(hn:n<=1500000000000):CA cx 144 [.own 1000 0 n,.p (.int .i64 n),.own 1001 0 1] [(1001,.row 25 1 [[x]]),(1000,.row 25 1 es)] (.own 900 0 (n+1)) [(900,.row 25 1 (es++[[x]])),(1001,.row 25 1 [[x]])]:=by
 (refine HJ true [(25,900)] func144 ?_);(repeat'(first|refine EA ?_|fail));exact⟨by simp,AN,omg,omg⟩
def G7(t:BM)(nm:List UInt8):(t.enc nm).length=(t.enc []).length:=by
 cases t;rw[A6,A6];simp
def Cs(v:List Node)(i:Nat)(nm:List UInt8)(t:BM)(BR:List Node)(hv:v.length<=1500000000000)(h:v.drop i=t.enc nm++BR):CA cx 77 [.p (.sl (BP v)),.p (.int .i64 i)] [] (.p (.int .i64 (i+(t.enc nm).length:Nat))) []:=by
 (refine CB func77 ?_);have hp:=Et t nm;have hb:=L9 h (fun e=>by have e2:(t.enc nm++BR).length=0:=(by rw[e];rfl);rw[DC]at e2;omega);rw[DC]at hb;refine CL.loop (fun x:Nat×Nat×BO=>⟨Ba 41 [(0,.p (.sl (BP v))),(1,.p (.int .i64 x.1)),(5,.p (.int .i64 x.2.1))],[]⟩) (fun x=>x.2.1=x.2.2.len/\v.drop x.1=x.2.2.enc++BR/\x.1+x.2.2.enc.length=i+(t.enc nm).length) (fun x=>x.2.2.enc.length) (i,1,.cons nm t .nil) CH ⟨rfl,by simp[A0,Bl,h],by simp[A0,Bl]⟩ ?_;rintro⟨j,left,F⟩ ⟨h0,h1,h2⟩;simp only at h0 h1 h2
 match F,h0,h1,h2 with
 |.nil,h0,h1,h2 =>
  rw[Bl]at h2;simp only[BO.len]at h0;subst h0;refine HO ?_;simp only[KM]at h2;omega
 |.cons DJ (.mk k s g e BL) r,h0,h1,h2 =>
  rw[F2]at h0;rw[A0,A6]at h1 h2;have hg:=D5 h1;rw[C9]at hg;simp only[DH,DC]at h2;have GH:=KE BL;have IX:=KE r;have w0:IntKind.i64.wrap ((left:Int)-1)=(r.len:Int):=by rw[Aa omg omg];omega
  have w1:IntKind.i64.wrap ((r.len:Int)+(BL.len:Int))=((r.len+BL.len:Nat):Int):=by rw[Aa omg omg];omega
  (refine CC ?_;simp only[go_sem,simprocAttr,DM (i:=j) omg,hg,w0,w1,A7]);(repeat'(first|(apply BY<;>intro h)|(exfalso;omega)))
  ·exact⟨(j+1,r.len+BL.len,BL.app r),⟨by simp only[kz];omega,by
    simp only[QW];rw[<-JO,h1];simp,by simp only[QW,DC];omega⟩,by simp only[QW,A0,A6,DC,DH];omega,CH⟩
def Mm(v:List Node)(i j:Nat)(nm:List UInt8)(t:BM)(BR:List Node)(hv:v.length<=1500000000000)(h:v.drop i=t.enc nm++BR)(hj:j=i+(t.enc nm).length):CA cx 82 [.p (.sl (BP v)),.p (.int .i64 i),.p (.int .i64 j)] [] (.p (.sl (BP (t.enc [])))) []:=by
 cases t with
 |mk k s g e BL =>
 have hs:=Tf h;have hb:=L9 h (fun e=>by have e2:=congrArg List.length e;rw[A6]at e2;simp at e2);have EF:((BM.mk k s g e BL).enc nm).length=BL.enc.length+1:=by rw[A6];rfl
 rw[DC]at hb;have QP:((BP v).drop i).take (j-i)=[.int .i64 k,.int .i64 BL.len,.str nm,.str s,.bool g,.int .i64 e]::BP BL.enc:=by
  rw[hj,nI,hs,A6,Nh,C9]
 have DR:(BP BL.enc).take BL.enc.length=BP BL.enc:=DK sm;have h6:∀q∈([.int .i64 k,.int .i64 BL.len,.str nm,.str s,.bool g,.int .i64 e]::BP BL.enc:List (List PV)),q.length=6:=fun q hq=>E7 ((BM.mk k s g e BL).enc nm) q (by rw[A6];exact hq)
 (refine CK func82 ?_;simp only[go_sem,simprocAttr,QP,A7,DR,CS]);(repeat'(first|(refine And.intro (E7 _) ?_)|refine EA ?_|fail));rw[A6];rfl
def Mi{v:List Node}{j:Nat}{nm:List UInt8}{t:BM}{b:List Node}(h:v.drop j=t.enc nm++b):∃k n s g e,(BP v)[j]?=some [.int .i64 k,.int .i64 n,.str nm,.str s,.bool g,.int .i64 e]:=by
 cases t with
 |mk k s g e BL =>
  rw[A6]at h;exact⟨k,BL.len,s,g,e,D5 h⟩
def Dy(kd:Int)(s:List UInt8)(g:Bool)(e:Int)(BL:BO)(hv:BL.enc.length<=1499999999999):CA cx 29 [.p (.sl (BP ((BM.mk kd s g e BL).enc nm)))] [] (.p (.sl (A4 BL.list))) []:=by
 have hl:=KE BL;have DV:=LU BL;generalize IF:(BM.mk kd s g e BL).enc nm=v;have h0:v.drop 0=⟨kd,BL.len,nm,s,g,e⟩::BL.enc:=by rw[<-IF,A6];rfl
 have DD:=D5 h0;rw[C9]at DD;have KZ:v.length=BL.enc.length+1:=by rw[<-IF,A6];rfl
 (refine CB func29 ?_);refine HD (B1 [(7,25)] _ sm) ?_;simp only[go_sem,simprocAttr];refine CL.loop (fun x:Nat×Nat×BO=>⟨Ba 28 [(0,.p (.sl (BP v))),(3,.own 25 0 x.1),(4,.p (.int .i64 x.2.1)),(5,.p (.int .i64 x.1))],[(25,.row 25 1 (A4 (BL.list.take x.1)))]⟩) (fun x=>x.1+x.2.2.len=BL.len/\v.drop x.2.1=x.2.2.enc/\x.2.1+x.2.2.enc.length=v.length/\BL.list.drop x.1=x.2.2.list) (fun x=>x.2.2.enc.length) (0,1,BL) CH ⟨by simp,by rw[<-IF,A6];rfl,by simp only;omega,rfl⟩ ?_;rintro⟨k,j,F⟩ ⟨h1,h2,h3,h4⟩;simp only at h1 h2 h3 h4⊢
 match F,h1,h2,h3,h4 with
 |.nil,h1,h2,h3,h4 =>
  simp only[BO.len]at h1;have HE:k=BL.len:=omg;subst HE;have D':(BL.len<=(A4 (BL.list.take BL.len)).length)=True:=AE (by rw[A5,GF];omega);have DR:(A4 (BL.list.take BL.len)).take BL.len=A4 BL.list:=by
   rw[DK (by rw[A5,GF];omega),DK omg]
  have di:=D';(refine CC ?_;simp only[go_sem,simprocAttr,DD,D',DR]);(repeat'(first|(apply BY<;>intro h)|(exact True.intro)|(exfalso;omega)))
  skip
 |.cons DJ t' r,h1,h2,h3,h4 =>
  rw[F2]at h1;rw[A0]at h2 h3;rw[DC]at h3;have HE:BL.list[k]?=some (DJ,t'):=by
   have:=congrArg (·[0]?) h4;simpa[BO.list]using this
  have PG:=Gs HE;have D':(A4 (BL.list.take k)).length=k:=by rw[A5,GF];omega
  have hw:=DM (i:=k) omg;have DR:=hw;have di:=hw;(refine CC ?_;simp only[go_sem,simprocAttr,DD,D']);(repeat'(first|(apply BY<;>intro h)|((first|(refine BU (Cs v j DJ t' r.enc omg h2) ?_)|(refine BU (Mm v j (j+(t'.enc DJ).length) DJ t' r.enc omg h2 rfl) ?_));simp only[go_sem,simprocAttr,D',DR])|(exfalso;omega)));refine⟨by simp,omg,omg,(k+1,j+(t'.enc DJ).length,r),⟨by simp only;omega,by simp only;rw[<-JO,h2,YL],by simp only;omega,by simp only;rw[<-JO,h4];rfl⟩,by have:=Et t' DJ;simp only[A0,DC];omega,?_⟩;simp only;rw[PG];exact CH
def Qx(kd:Int)(s:List UInt8)(g:Bool)(e:Int)(BL:BO)(hv:BL.enc.length<=1499999999999):CA cx 29 [.p (.sl (BP ((BM.mk kd s g e BL).enc nm)))] [] (.own 900 0 BL.len) [(900,.row 25 1 (A4 BL.list))]:=by
 have hl:=KE BL;have DV:=LU BL;generalize IF:(BM.mk kd s g e BL).enc nm=v;have h0:v.drop 0=⟨kd,BL.len,nm,s,g,e⟩::BL.enc:=by rw[<-IF,A6];rfl
 have DD:=D5 h0;rw[C9]at DD;have KZ:v.length=BL.enc.length+1:=by rw[<-IF,A6];rfl
 (refine HJ true [(25,900)] func29 ?_);refine HD (B1 [(7,25)] _ sm) ?_;simp only[go_sem,simprocAttr];refine CL.loop (fun x:Nat×Nat×BO=>⟨Ba 28 [(0,.p (.sl (BP v))),(3,.own 25 0 x.1),(4,.p (.int .i64 x.2.1)),(5,.p (.int .i64 x.1))],[(25,.row 25 1 (A4 (BL.list.take x.1)))]⟩) (fun x=>x.1+x.2.2.len=BL.len/\v.drop x.2.1=x.2.2.enc/\x.2.1+x.2.2.enc.length=v.length/\BL.list.drop x.1=x.2.2.list) (fun x=>x.2.2.enc.length) (0,1,BL) CH ⟨by simp,by rw[<-IF,A6];rfl,by simp only;omega,rfl⟩ ?_;rintro⟨k,j,F⟩ ⟨h1,h2,h3,h4⟩;simp only at h1 h2 h3 h4⊢
 match F,h1,h2,h3,h4 with
 |.nil,h1,h2,h3,h4 =>
  simp only[BO.len]at h1;have HE:k=BL.len:=omg;subst HE;have D':(BL.len<=(A4 (BL.list.take BL.len)).length)=True:=AE (by rw[A5,GF];omega);have DR:(A4 (BL.list.take BL.len)).take BL.len=A4 BL.list:=by
   rw[DK (by rw[A5,GF];omega),DK omg]
  have di:=D';(refine CC ?_;simp only[go_sem,simprocAttr,DD]);(repeat'(first|(apply BY<;>intro h)|(exfalso;omega)));rw[DK (Nat.le_of_eq DV)]
 |.cons DJ t' r,h1,h2,h3,h4 =>
  rw[F2]at h1;rw[A0]at h2 h3;rw[DC]at h3;have HE:BL.list[k]?=some (DJ,t'):=by
   have:=congrArg (·[0]?) h4;simpa[BO.list]using this
  have PG:=Gs HE;have D':(A4 (BL.list.take k)).length=k:=by rw[A5,GF];omega
  have hw:=DM (i:=k) omg;have DR:=hw;have di:=hw;(refine CC ?_;simp only[go_sem,simprocAttr,DD]);(repeat'(first|(apply BY<;>intro h)|refine EA ?_|((first|(refine BU (Cs v j DJ t' r.enc omg h2) ?_)|(refine BU (Mm v j (j+(t'.enc DJ).length) DJ t' r.enc omg h2 rfl) ?_));simp only[go_sem,simprocAttr,D',DR])|(exfalso;omega)));refine⟨by simp,omg,omg,(k+1,j+(t'.enc DJ).length,r),⟨by simp only;omega,by simp only;rw[<-JO,h2,YL],by simp only;omega,by simp only;rw[<-JO,h4];rfl⟩,by have:=Et t' DJ;simp only[A0,DC];omega,?_⟩;simp only;rw[PG];exact CH
def Ir(s:List UInt8)(g:Bool)(e:Int)(BL:BO)(hv:BL.enc.length<=1499999999999):CA cx 73 [.p (.sl (BP ((BM.mk 6 s g e BL).enc nm)))] [] (.p (.sl (Bd BL.list))) []:=by
 have hl:=KE BL;have DV:=LU BL;generalize IF:(BM.mk 6 s g e BL).enc nm=v;have h0:v.drop 0=⟨6,BL.len,nm,s,g,e⟩::BL.enc:=by rw[<-IF,A6];rfl
 have DD:=D5 h0;rw[C9]at DD;have KZ:v.length=BL.enc.length+1:=by rw[<-IF,A6];rfl
 (refine CB func73 ?_);refine HD (B1 [(6,29)] _ sm) ?_;simp only[go_sem,simprocAttr];refine CL.loop (fun x:Nat×Nat×BO=>⟨Ba 34 [(0,.p (.sl (BP v))),(3,.own 29 0 x.1),(4,.p (.int .i64 x.2.1)),(5,.p (.int .i64 x.1))],[(29,.row 9 1 (Bd (BL.list.take x.1)))]⟩) (fun x=>x.1+x.2.2.len=BL.len/\v.drop x.2.1=x.2.2.enc/\x.2.1+x.2.2.enc.length=v.length/\BL.list.drop x.1=x.2.2.list) (fun x=>x.2.2.enc.length) (0,1,BL) CH ⟨by simp,by rw[<-IF,A6];rfl,by simp only;omega,rfl⟩ ?_;rintro⟨k,j,F⟩ ⟨h1,h2,h3,h4⟩;simp only at h1 h2 h3 h4⊢
 match F,h1,h2,h3,h4 with
 |.nil,h1,h2,h3,h4 =>
  simp only[BO.len]at h1;have HE:k=BL.len:=omg;subst HE;have D':(BL.len<=(Bd (BL.list.take BL.len)).length)=True:=AE (by rw[A9,GF];omega);have DR:(Bd (BL.list.take BL.len)).take BL.len=Bd BL.list:=by
   rw[DK (by rw[A9,GF];omega),DK omg]
  have di:=D';(refine CC ?_;simp only[go_sem,simprocAttr,DD,D',DR]);(repeat'(first|(exfalso;omega)|(apply BY<;>intro h)|(exact True.intro)))
  skip
 |.cons DJ t' r,h1,h2,h3,h4 =>
  rw[F2]at h1;rw[A0]at h2 h3;rw[DC]at h3;have HE:BL.list[k]?=some (DJ,t'):=by
   have:=congrArg (·[0]?) h4;simpa[BO.list]using this
  have PG:=Lr HE;have D':(Bd (BL.list.take k)).length=k:=by rw[A9,GF];omega
  have hw:=DM (i:=k) omg;have DR:=hw;obtain⟨k9,n9,s9,g9,e9,di⟩:=Mi h2;(refine CC ?_;simp only[go_sem,simprocAttr,DD,D',di]);(repeat'(first|(apply BY<;>intro h)|(exfalso;omega)));refine⟨by simp,omg,omg,?_⟩;(repeat'(first|((refine BU (Cs v j DJ t' r.enc omg h2) ?_);simp only[go_sem,simprocAttr,DR])|fail));refine⟨(k+1,j+(t'.enc DJ).length,r),⟨by simp only;omega,by simp only;rw[<-JO,h2,YL],by simp only;omega,by simp only;rw[<-JO,h4];rfl⟩,by have:=Et t' DJ;simp only[A0,DC];omega,?_⟩;simp only;rw[PG];exact CH
def Jau(s:List UInt8)(g:Bool)(e:Int)(BL:BO)(hv:BL.enc.length<=1499999999999):CA cx 73 [.p (.sl (BP ((BM.mk 6 s g e BL).enc nm)))] [] (.own 900 0 BL.len) [(900,.row 9 1 (Bd BL.list))]:=by
 have hl:=KE BL;have DV:=LU BL;generalize IF:(BM.mk 6 s g e BL).enc nm=v;have h0:v.drop 0=⟨6,BL.len,nm,s,g,e⟩::BL.enc:=by rw[<-IF,A6];rfl
 have DD:=D5 h0;rw[C9]at DD;have KZ:v.length=BL.enc.length+1:=by rw[<-IF,A6];rfl
 (refine HJ true [(29,900)] func73 ?_);refine HD (B1 [(6,29)] _ sm) ?_;simp only[go_sem,simprocAttr];refine CL.loop (fun x:Nat×Nat×BO=>⟨Ba 34 [(0,.p (.sl (BP v))),(3,.own 29 0 x.1),(4,.p (.int .i64 x.2.1)),(5,.p (.int .i64 x.1))],[(29,.row 9 1 (Bd (BL.list.take x.1)))]⟩) (fun x=>x.1+x.2.2.len=BL.len/\v.drop x.2.1=x.2.2.enc/\x.2.1+x.2.2.enc.length=v.length/\BL.list.drop x.1=x.2.2.list) (fun x=>x.2.2.enc.length) (0,1,BL) CH ⟨by simp,by rw[<-IF,A6];rfl,by simp only;omega,rfl⟩ ?_;rintro⟨k,j,F⟩ ⟨h1,h2,h3,h4⟩;simp only at h1 h2 h3 h4⊢
 match F,h1,h2,h3,h4 with
 |.nil,h1,h2,h3,h4 =>
  simp only[BO.len]at h1;have HE:k=BL.len:=omg;subst HE;have D':(BL.len<=(Bd (BL.list.take BL.len)).length)=True:=AE (by rw[A9,GF];omega);have DR:(Bd (BL.list.take BL.len)).take BL.len=Bd BL.list:=by
   rw[DK (by rw[A9,GF];omega),DK omg]
  have di:=D';(refine CC ?_;simp only[go_sem,simprocAttr,DD]);(repeat'(first|(exfalso;omega)|(apply BY<;>intro h)));rw[DK (Nat.le_of_eq DV)]
 |.cons DJ t' r,h1,h2,h3,h4 =>
  rw[F2]at h1;rw[A0]at h2 h3;rw[DC]at h3;have HE:BL.list[k]?=some (DJ,t'):=by
   have:=congrArg (·[0]?) h4;simpa[BO.list]using this
  have PG:=Lr HE;have D':(Bd (BL.list.take k)).length=k:=by rw[A9,GF];omega
  have hw:=DM (i:=k) omg;have DR:=hw;obtain⟨k9,n9,s9,g9,e9,di⟩:=Mi h2;(refine CC ?_;simp only[go_sem,simprocAttr,DD,D',di]);(repeat'(first|(apply BY<;>intro h)|refine EA ?_|(exfalso;omega)));refine⟨by simp,omg,omg,?_⟩;(repeat'(first|((refine BU (Cs v j DJ t' r.enc omg h2) ?_);simp only[go_sem,simprocAttr,DR])|fail));refine⟨(k+1,j+(t'.enc DJ).length,r),⟨by simp only;omega,by simp only;rw[<-JO,h2,YL],by simp only;omega,by simp only;rw[<-JO,h4];rfl⟩,by have:=Et t' DJ;simp only[A0,DC];omega,?_⟩;simp only;rw[PG];exact CH
def Ge:List (List UInt8×BM):=l.map fun p=>([],p.2)
def Kp:(Ge l).length=l.length:=by simp[Ge]
def nv(k:Int)(n:Nat):List PV:=[.int .i64 k,.int .i64 n,.str [],.str [],.bool false,.int .i64 0]
def Oi(k:Nat):(A1 (l.take k)).enc.length<=(A1 l).enc.length:=by
 have e1:A1 l=(A1 (l.take k)).app (A1 (l.drop k)):=by rw[<-Hz,PO]
 rw[e1,QW,DC];omega
def Nu{l:List (List UInt8×BM)}(h:l[k]?=some p):(A1 (l.take (k+1))).enc=(A1 (l.take k)).enc++p.2.enc p.1:=by
 rw[NA,h,Option.toList_some,Hz,QW];simp only[A1,A0,Bl,ID]
def Rf(k:Nat):Ge (l.take k)=(Ge l).take k:=by simp[Ge]
def Tt(hv:(A1 (Ge l)).enc.length<=1499999999999):CA cx 30 [.p (.sl (A4 l))] [] (.p (.sl (BP ((BM.mk 5 [] false 0 (A1 (Ge l))).enc [])))) []:=by
 have GB:=KE (A1 (Ge l));rw[Ca,Kp]at GB;(refine CK func30 ?_;simp only[go_sem,simprocAttr,A5]);refine HD (B1 [(8,20)] _ sm) ?_;simp only[go_sem,simprocAttr];refine CL.loop (fun x:Nat×Nat×List (List PV)=>⟨Ba 22 [(0,.p (.sl (A4 l))),(3,.own 20 0 x.2.1),(4,.p (.int .i64 x.1))],[(20,.row 36 6 x.2.2)]⟩) (fun x=>x.1<=l.length/\x.2.1=(A1 ((Ge l).take x.1)).enc.length+1/\x.2.2=nv 5 l.length::BP (A1 ((Ge l).take x.1)).enc) (fun x=>l.length-x.1) (0,1,[nv 5 l.length]) (by unfold nv;exact CH) ⟨EK _,rfl,rfl⟩ ?_;rintro⟨k,m,es⟩ ⟨hk,II,Nx⟩;simp only at hk II Nx;have HW:es.length=m:=by rw[Nx,II];simp
 have DR:es.take m=es:=DK omg;by_cases BZ:¬k<l.length
 ·have Ux:(Ge l).take k=Ge l:=DK (by rw[Kp];omega);rw[Ux]at Nx II;have DV:((k:Int)<(l.length:Int))=False:=AD omg;have D':=DV;have hw:=DV;(refine CC ?_;simp only[go_sem,simprocAttr,A5,DV,HW,DR,CS]);rw[Nx,A6,Ca,Kp];rfl
 ·have BZ:=JK.1 BZ;obtain⟨p,hp⟩:∃p,l[k]?=some p:=⟨_,C' BZ⟩
  have D':(A4 l)[k]?=some [.sl (BP (p.2.enc []))]:=by simp[A4,hp]
  have sO:(Ge l)[k]?=some ([],p.2):=by simp[Ge,hp]
  have DV:((k:Int)<(l.length:Int))=True:=AE omg;have h1:=Nu sO;have h2:=Oi (Ge l) (k+1);rw[h1,DC]at h2;have hw:=DM (i:=k) omg;(refine CC ?_;simp only[go_sem,simprocAttr,A5,DV,D',hw,HW,A7]);simp only at h1 h2;refine⟨E7 _,omg,omg,(k+1,m+(p.2.enc []).length,es++BP (p.2.enc [])),⟨by simp only;omega,?_,?_⟩,by simp only;omega,?_⟩
  ·simp only;rw[h1,DC,II];omega
  ·simp only;rw[h1,Ji,Nx];rfl
  ·exact CH
def Iy(hv:(A1 l).enc.length<=1499999999999):CA cx 83 [.p (.sl (Bd l)),.p (.sl (A4 l))] [] (.p (.sl (BP ((BM.mk 6 [] false 0 (A1 l)).enc [])))) []:=by
 have GB:=KE (A1 l);rw[Ca]at GB;(refine CK func83 ?_;simp only[go_sem,simprocAttr,A5]);refine HD (B1 [(12,26)] _ sm) ?_;simp only[go_sem,simprocAttr];refine CL.loop (fun x:Nat×Nat×List (List PV)=>⟨Ba 41 [(0,.p (.sl (Bd l))),(1,.p (.sl (A4 l))),(5,.own 26 0 x.2.1),(6,.p (.int .i64 x.1))],[(26,.row 36 6 x.2.2)]⟩) (fun x=>x.1<=l.length/\x.2.1=(A1 (l.take x.1)).enc.length+1/\x.2.2=nv 6 l.length::BP (A1 (l.take x.1)).enc) (fun x=>l.length-x.1) (0,1,[nv 6 l.length]) (by unfold nv;exact CH) ⟨EK _,rfl,rfl⟩ ?_;rintro⟨k,m,es⟩ ⟨hk,II,Nx⟩;simp only at hk II Nx;have HW:es.length=m:=by rw[Nx,II];simp
 have DR:es.take m=es:=DK omg;by_cases BZ:¬k<l.length
 ·have Ux:l.take k=l:=DK omg;rw[Ux]at Nx II;have DV:((k:Int)<(l.length:Int))=False:=AD omg;have D':=DV;have IB:=DV;have av:=DV;have ZX:=DV;have hw:=DV;have KZ:=DV;(refine CC ?_;simp only[go_sem,simprocAttr,A5,DV,HW,DR,CS]);rw[Nx,A6,Ca];rfl
 ·have BZ:=JK.1 BZ;obtain⟨p,hp⟩:∃p,l[k]?=some p:=⟨_,C' BZ⟩
  have D':(A4 l)[k]?=some [.sl (BP (p.2.enc []))]:=by simp[A4,hp]
  have IB:(Bd l)[k]?=some [.str p.1]:=by simp[Bd,hp]
  have DV:((k:Int)<(l.length:Int))=True:=AE omg;have h1:=Nu hp;have h2:=Oi l (k+1);rw[h1,DC]at h2;have hw:=DM (i:=k) omg;obtain⟨⟨DJ,t⟩,rfl⟩:∃q,q=p:=⟨p,rfl⟩
  cases t with
  |mk SG s' g' e' BT =>
  have av:(es++BP ((BM.mk SG s' g' e' BT).enc []))[m]?=some [.int .i64 SG,.int .i64 BT.len,.str [],.str s',.bool g',.int .i64 e']:=by
   rw[Mr omg,HW,gV,A6];rfl
  have ZX:(es++BP ((BM.mk SG s' g' e' BT).enc [])).set m [.int .i64 SG,.int .i64 BT.len,.str DJ,.str s',.bool g',.int .i64 e']=es++BP ((BM.mk SG s' g' e' BT).enc DJ):=by
   rw[List.set_append_right _ _ omg,HW,gV,A6,A6];rfl
  have KZ:((BM.mk SG s' g' e' BT).enc []).length=((BM.mk SG s' g' e' BT).enc DJ).length:=by rw[G7 _ DJ]
  simp only at h1 h2;(refine CC ?_;simp only[go_sem,simprocAttr,A5,DV,D',IB,av,ZX,hw,KZ,HW,CS,A7]);have IZ:=Et (BM.mk SG s' g' e' BT) DJ;refine⟨E7 _,omg,omg,?_⟩;(repeat'(first|refine EA ?_|fail));refine⟨(k+1,m+((BM.mk SG s' g' e' BT).enc DJ).length,es++BP ((BM.mk SG s' g' e' BT).enc DJ)),⟨by simp only;omega,?_,?_⟩,by simp only;omega,?_⟩
  ·simp only;rw[h1,DC,II];omega
  ·simp only;rw[h1,Ji,Nx];rfl
  ·exact CH
def Ò:CA cx 240 [.p (.int .u64 16)] [] (.p (.int .i64 4)) []:=by
 refine fX (v:=.int .i64 4) (enters_of func240 kr rfl) rfl (fun _ _ _=>.int _ _) fun β Im w vs hg hf=>?_
 obtain⟨v,rfl,hv⟩:=Ue hf;have:=Mz hv;subst this;have hc:Lib.ctz 64 16=4:=de;refine(Any7.bits_TrailingZeros J3p 16 de w (fun _=>(fa hg).tz)).mono fun e w' ⟨he,hw⟩=>?_
 subst hw;rw[hc]at he;exact⟨he,Below.refl _ _⟩
def Rj:CA cx 239 [.p (.int .i64 16)] [] (.p (.bool true)) []:=by
 (refine CB func239 ?_);decide
def lN:Bu Tryz.prog 230=some [.int .u8 0,.int .u8 0,.int .u8 0,.int .u8 0,.int .u8 0,.int .u8 0,.int .u8 0,.int .u8 0,.int .u8 0,.int .u8 0,.int .u8 0,.int .u8 0,.int .u8 0,.int .u8 0,.int .u8 0,.int .u8 0,.int .u8 0,.int .u8 0,.int .u8 0,.int .u8 0,.int .u8 0,.int .u8 0,.int .u8 0,.int .u8 0,.int .u8 0,.int .u8 0,.int .u8 0,.int .u8 0,.int .u8 0,.int .u8 0,.int .u8 0,.int .u8 0,.int .u8 0,.int .u8 0,.int .u8 0,.int .u8 0,.int .u8 0,.int .u8 0,.int .u8 0,.int .u8 0,.int .u8 0,.int .u8 0,.int .u8 0,.int .u8 0,.int .u8 0,.int .u8 0,.int .u8 0,.int .u8 0,.int .u8 0,.int .u8 0,.int .u8 0,.int .u8 0,.int .u8 0,.int .u8 0,.int .u8 0,.int .u8 0,.int .u8 0,.int .u8 0,.int .u8 0,.int .u8 0,.int .u8 0,.int .u8 0,.int .u8 0,.int .u8 0,.int .u8 0]:=kr
def xY:IntKind.u64.wrap 16=16:=de
def wc2:IntKind.u64.wrap 15=15:=de
def wc3:IntKind.u64.wrap 4=4:=de
def wc4:IntKind.i64.wrap 64=64:=de
def wc5:IntKind.i64.wrap 63=63:=de
def wc6:IntKind.i64.wrap 62=62:=de
def Jjm(x:Nat):IntKind.u64.wrap (BitVec.ofInt (B0 .u64) (x:Int) &&& BitVec.ofInt (B0 .u64) 15).toNat=((x%16:Nat):Int):=by
 have e:(BitVec.ofInt (B0 .u64) (x:Int) &&& BitVec.ofInt (B0 .u64) 15).toNat=x%16:=by
  show(BitVec.ofInt 64 (x:Int) &&& BitVec.ofInt 64 15).toNat=x%16;rw[BitVec.toNat_and,show(BitVec.ofInt 64 15).toNat=2^4-1 by decide,Nat.and_two_pow_sub_one_eq_mod];simp
 rw[e,Mf omg omg]
def fd4(x:Nat):(x:Int).fdiv (2^min 4 (B0 .u64))=((x/16:Nat):Int):=by
 rw[oX _ de];simp[B0,IntKind.bits]
def tE:List UInt8:=[48,49,50,51,52,53,54,55,56,57,97,98,99,100,101,102,103,104,105,106,107,108,109,110,111,112,113,114,115,116,117,118,119,120,121,122]
def RM:UInt8:=tE.getD n 0
def Mj(h1:256<=u)(h2:u<4096):CA cx 205 [.p .snil,.p (.int .u64 u),.p (.int .i64 16),.p (.bool false),.p (.bool false)] [] (.tup [.snil,.str [RM (u/16/16),RM (u/16%16),RM (u%16)]]) []:=by
 (refine CK func205 ?_;simp only[go_sem,simprocAttr,lN]);(repeat'(first|((first|refine BU Ò ?_|refine BU Rj ?_);simp only[go_sem,simprocAttr,xY,wc2,wc3])|fail));(refine CL.rounds 4 ?_;refine kL hm ?_;simp only[go_sem,simprocAttr,wc4,Jjm,fd4]);(repeat'(first|(apply BY<;>intro h)|refine EA ?_|(refine kL hm ?_;simp only[go_sem,simprocAttr,wc5,wc6,Jjm,fd4])|(exfalso;omega)));exact⟨rfl,rfl,rfl⟩
def RN:List UInt8:=[RM (u/16/16),RM (u/16%16),RM (u%16)]
def wcn{u:Nat}(h:u<4096):IntKind.u64.wrap (u:Int)=u:=Mf omg omg
def Ke(h1:256<=u)(h2:u<4096):CA cx 177 [.p (.int .i64 u),.p (.int .i64 16)] [] (.p (.str (RN u))) []:=by
 (refine CK func177 ?_;simp only[go_sem,simprocAttr,wcn h2]);(repeat'(first|((refine BU (Mj u h1 h2) ?_);simp only[go_sem,simprocAttr,wcn h2])|fail));rfl
def Ph(h1:256<=u)(h2:u<4096):CA cx 216 [.p (.int .i64 u),.p (.int .i64 16)] [] (.p (.str (RN u))) []:=by
 (refine CB func216 ?_);(repeat'(first|((refine BU (Ke u h1 h2) ?_);simp only[go_sem,simprocAttr])|fail))
def low:Nat:=if c/32%2=1 then c else c+32
def Ó(h:c<=255):IntKind.u8.wrap (BitVec.ofInt (B0 .u8) (c:Int) ||| BitVec.ofInt (B0 .u8) 32).toNat=(low c:Int):=by
 have key:∀m:Fin 256,IntKind.u8.wrap (BitVec.ofInt (B0 .u8) (m.val:Int) ||| BitVec.ofInt (B0 .u8) 32).toNat=(low m.val:Int):=de;exact key ⟨c,omg⟩
def Jde(h:c<=255):CA cx 273 [.p (.int .u8 c)] [] (.p (.int .u8 (low c))) []:=by
 (refine CB func273 ?_);rw[Ó c h]
def IU:Option Nat:=if 48<=c/\c<=57 then some (c-48)else if 97<=c/\c<=102 then some (c-87)else if 65<=c/\c<=70 then some (c-55)else none
def HS:List UInt8->Nat->Option Nat
 |[],a=>some a
 |c::s,a=>match IU c.toNat with
  |some d=>HS s (a*16+d)
  |none=>none
def Ô(o:Option Nat):L:=match o with
 |some n=>.tup [.int .u64 n,.nifc]
 |none=>.tup [.int .u64 0,.ifi 236 .i64 2]
def Jdb(i:Nat):(s.getD i default).toNat=BS s i:=rfl
def wc7:IntKind.u64.wrap (1*2^min 16 (B0 .u64))=65536:=de
def wc8:IntKind.u64.wrap 65535=65535:=de
def Nn{s:List UInt8}{n:Nat}(h:i<s.length):HS (s.drop i) n=(match IU (BS s i)with|some d=>HS (s.drop (i+1)) (n*16+d)|none=>none):=by
 rw[Mx h];simp only[HS];rw[Ql h]
def Je6:(c/32%2=1/\low c=c)\/(c/32%2≠1/\low c=c+32):=by
 unfold low;split<;>omega
def Kf(hs:s.length=4):CA cx 267 [.p (.str s),.p (.int .i64 16),.p (.int .i64 16)] [] (Ô (HS s 0)) []:=by
 (refine CK func267 ?_;simp only[go_sem,simprocAttr,xY,wc7,wc8]);(repeat'(first|(apply BY<;>intro h)|(exfalso;omega)));refine CL.loop (fun x:Nat×Nat=>⟨Ba 172 [(1,.p (.int .i64 16)),(2,.p (.int .i64 16)),(8,.p (.bool false)),(9,.p (.str s)),(10,.p (.int .u64 1152921504606846976)),(11,.p (.int .u64 65535)),(12,.p (.bool false)),(13,.p (.int .u64 x.2)),(99,.p (.sl (s.map fun c=>[.int .u8 c.toNat]))),(100,.p (.int .i64 s.length)),(101,.p (.int .i64 x.1))],[]⟩) (fun x=>x.1<=4/\x.2<16^x.1/\HS (s.drop x.1) x.2=HS s 0) (fun x=>4-x.1) (0,0) CH ⟨omg,by decide,rfl⟩ ?_;rintro⟨i,n⟩ ⟨h1,h2,h3⟩;(refine CC ?_;simp only[go_sem,simprocAttr,xY,Jdb]);simp only at h1 h2 h3;have hL:=Je6 (BS s i);have hA:=Fr s i;have hP:i<4->n<4096:=fun h=>NB h2 (Nat.le_trans (cj de (show i<=3 by omega)) de)
 have hS:i<4->∀d<16,n*16+d<16^(i+1):=fun h d hd=>by rw[Nat.pow_succ];omega
 (repeat'(first|(apply BY<;>intro h)|refine EA ?_|((refine BU (Jde _ (Fr s i)) ?_);simp only[go_sem,simprocAttr,xY])|(exfalso;omega)))
 all_goals(try simp only[Be,Ub]at *)
 all_goals first
  |(exfalso;omega)
  |(
   have e:HS s 0=none:=by
    rw[<-h3,Nn omg,show IU (BS s i)=none by unfold IU;rw[AA omg,AA omg,AA omg]]
   rw[e];rfl)
  |(
   have e:HS s 0=some n:=by
    rw[<-h3,JD omg];rfl
   rw[e];rfl)
  |(
   have h57:BS s i<=57:=omg;obtain⟨d,hd,hv,ho⟩:∃d,d<16/\IU (BS s i)=some d/\(d:Int)=BS s i-48:=⟨BS s i-48,omg,by unfold IU;rw[AB omg],omg⟩
   refine⟨(i+1,n*16+d),⟨by simp only;omega,hS omg d hd,?_⟩,by simp only;omega,CH⟩;simp only;rw[<-h3,Nn (i:=i) (n:=n) omg,hv])
  |(
   obtain⟨d,hd,hv,ho⟩:∃d,d<16/\IU (BS s i)=some d/\(d:Int)=low (BS s i)-87:=by
    by_cases h97:97<=BS s i
    ·exact⟨BS s i-87,omg,by unfold IU;rw[AA omg,AB omg],omg⟩
    ·exact⟨BS s i-55,omg,by unfold IU;rw[AA omg,AA omg,AB omg],omg⟩
   refine⟨(i+1,n*16+d),⟨by simp only;omega,hS omg d hd,?_⟩,by simp only;omega,CH⟩;simp only;rw[<-h3,Nn (i:=i) (n:=n) omg,hv])
end
def dec(i:Nat):Nat×Nat:=Utf8.decode ⟨⟨s⟩⟩ i
def ct(k:Nat):Bool:=decide (k<s.length)&&(decide (128<=BS s k)&&decide (BS s k<192))
def DF(i:Nat):Nat:=
 if BS s i<128 then 1
 else if 194<=BS s i/\BS s i<224/\ct s (i+1)=true then 2
 else if 224<=BS s i/\BS s i<240/\ct s (i+1)=true/\ct s (i+2)=true then
  (if(BS s i=224/\BS s (i+1)<160)\/(BS s i=237/\160<=BS s (i+1))then 0 else 3)
 else if 240<=BS s i/\BS s i<245/\ct s (i+1)=true/\ct s (i+2)=true/\ct s (i+3)=true then
  (if(BS s i=240/\BS s (i+1)<144)\/(BS s i=244/\144<=BS s (i+1))then 0 else 4)
 else 0
def code(i:Nat):Nat:=
 if BS s i<128 then BS s i
 else if BS s i<224 then BS s i%32*64+BS s (i+1)%64
 else if BS s i<240 then BS s i%16*4096+BS s (i+1)%64*64+BS s (i+2)%64
 else BS s i%8*262144+BS s (i+1)%64*4096+BS s (i+2)%64*64+BS s (i+3)%64
def get_at(k:Nat):((⟨⟨s⟩⟩:ByteArray).get! k).toNat=BS s k:=by
 simp only[ByteArray.get!,BS,GU];by_cases h:k<s.length
 ·simp[h]
 ·simp[h];rfl
def J3{s:List UInt8}:ct s k=true↔k<s.length/\BS s k/64=2:=by
 simp only[ct,OS,AF];omega
def Jf4:Utf8.valid (c:Int)=true↔c<55296\/(57344<=c/\c<=1114111):=by
 simp only[Utf8.valid,WG,OS,AF];omega
def F1(i:Nat):dec s i=if DF s i=0 then(65533,1)else(code s i,DF s i):=by
 have hb:=Fr s i;unfold dec Utf8.decode;simp only[get_at,Nat.add_zero];have DI:(⟨⟨s⟩⟩:ByteArray).size=s.length:=rfl;simp only[DI,OS,AK,AF,Utf8.runeError,Jf4];unfold DF code;simp only[J3];by_cases h1:BS s i<128
 ·simp[h1]
 by_cases h2:BS s i<224
 ·by_cases UC:i+1<s.length/\BS s (i+1)/64=2
  ·have e5:¬224<=BS s i:=omg;have e6:¬240<=BS s i:=omg;by_cases lO:194<=BS s i
   ·have e1:BS s i/32=6:=omg;have e2:128<=BS s i%32*64+BS s (i+1)%64:=omg;simp[h1,h2,UC,lO,e1,e2]
   ·by_cases h192:192<=BS s i
    ·have e1:BS s i/32=6:=omg;have e2:¬128<=BS s i%32*64+BS s (i+1)%64:=omg;simp[h1,h2,UC,lO,e1,e2,e5,e6]
    ·have e1:¬BS s i/32=6:=omg;have e3:¬BS s i/16=14:=omg;have e4:¬BS s i/8=30:=omg;simp[h1,h2,UC,lO,e1,e3,e4,e5,e6]
  ·have e3:¬BS s i/16=14:=omg;have e4:¬BS s i/8=30:=omg;have e5:¬224<=BS s i:=omg;have e6:¬240<=BS s i:=omg;simp[h1,h2,UC,e3,e4,e5,e6]
 have e1:¬BS s i/32=6:=omg;by_cases h3:BS s i<240
 ·have e3:BS s i/16=14:=omg;have e4:¬BS s i/8=30:=omg;have e5:224<=BS s i:=omg;have e6:¬240<=BS s i:=omg;by_cases c1:i+1<s.length/\BS s (i+1)/64=2
  ·by_cases c2:i+2<s.length/\BS s (i+2)/64=2
   ·by_cases dc:(BS s i=224/\BS s (i+1)<160)\/(BS s i=237/\160<=BS s (i+1))
    ·have:¬(2048<=BS s i%16*4096+BS s (i+1)%64*64+BS s (i+2)%64/\(BS s i%16*4096+BS s (i+1)%64*64+BS s (i+2)%64<55296\/57344<=BS s i%16*4096+BS s (i+1)%64*64+BS s (i+2)%64/\BS s i%16*4096+BS s (i+1)%64*64+BS s (i+2)%64<=1114111)):=omg;simp only[h1,h2,e1,e3,e5,h3,c1,c2,dc,and_true,true_and,if_true,if_false,false_and,and_false,and_self,ge_iff_le,this]
    ·have:(2048<=BS s i%16*4096+BS s (i+1)%64*64+BS s (i+2)%64/\(BS s i%16*4096+BS s (i+1)%64*64+BS s (i+2)%64<55296\/57344<=BS s i%16*4096+BS s (i+1)%64*64+BS s (i+2)%64/\BS s i%16*4096+BS s (i+1)%64*64+BS s (i+2)%64<=1114111)):=omg;simp only[h1,h2,e1,e3,e5,h3,c1,c2,dc,and_true,true_and,if_true,if_false,false_and,and_false,and_self,ge_iff_le,this];simp
   ·simp[h1,h2,e1,e3,e4,e5,e6,h3,c2]
  ·simp[h1,h2,e1,e3,e4,e5,e6,h3,c1]
 ·have e3:¬BS s i/16=14:=omg;have e5:240<=BS s i:=omg;by_cases h4:BS s i<248
  ·have e4:BS s i/8=30:=omg;by_cases c1:i+1<s.length/\BS s (i+1)/64=2
   ·by_cases c2:i+2<s.length/\BS s (i+2)/64=2
    ·by_cases c3:i+3<s.length/\BS s (i+3)/64=2
     ·by_cases h5:BS s i<245
      ·by_cases dc:(BS s i=240/\BS s (i+1)<144)\/(BS s i=244/\144<=BS s (i+1))
       ·have:¬(65536<=BS s i%8*262144+BS s (i+1)%64*4096+BS s (i+2)%64*64+BS s (i+3)%64/\(BS s i%8*262144+BS s (i+1)%64*4096+BS s (i+2)%64*64+BS s (i+3)%64<55296\/57344<=BS s i%8*262144+BS s (i+1)%64*4096+BS s (i+2)%64*64+BS s (i+3)%64/\BS s i%8*262144+BS s (i+1)%64*4096+BS s (i+2)%64*64+BS s (i+3)%64<=1114111)):=omg;simp only[h1,h2,h3,e1,e3,e4,e5,h5,c1,c2,c3,dc,and_true,true_and,if_true,if_false,false_and,and_false,and_self,ge_iff_le,this]
       ·have:(65536<=BS s i%8*262144+BS s (i+1)%64*4096+BS s (i+2)%64*64+BS s (i+3)%64/\(BS s i%8*262144+BS s (i+1)%64*4096+BS s (i+2)%64*64+BS s (i+3)%64<55296\/57344<=BS s i%8*262144+BS s (i+1)%64*4096+BS s (i+2)%64*64+BS s (i+3)%64/\BS s i%8*262144+BS s (i+1)%64*4096+BS s (i+2)%64*64+BS s (i+3)%64<=1114111)):=omg;simp only[h1,h2,h3,e1,e3,e4,e5,h5,c1,c2,c3,dc,and_true,true_and,if_true,if_false,false_and,and_false,and_self,ge_iff_le,this];simp
      ·have:¬(65536<=BS s i%8*262144+BS s (i+1)%64*4096+BS s (i+2)%64*64+BS s (i+3)%64/\(BS s i%8*262144+BS s (i+1)%64*4096+BS s (i+2)%64*64+BS s (i+3)%64<55296\/57344<=BS s i%8*262144+BS s (i+1)%64*4096+BS s (i+2)%64*64+BS s (i+3)%64/\BS s i%8*262144+BS s (i+1)%64*4096+BS s (i+2)%64*64+BS s (i+3)%64<=1114111)):=omg;simp only[h1,h2,h3,e1,e3,e4,e5,h5,c1,c2,c3,and_true,true_and,if_true,if_false,false_and,and_false,and_self,ge_iff_le,this]
     ·simp[h1,h2,h3,e1,e3,e4,e5,c3]
    ·simp[h1,h2,h3,e1,e3,e4,e5,c2]
   ·simp[h1,h2,h3,e1,e3,e4,e5,c1]
  ·have e4:¬BS s i/8=30:=omg;have h5:¬BS s i<245:=omg;simp[h1,h2,h3,e1,e3,e4,e5,h5]
def Ko(i k:Nat):BS (s.drop i) k=BS s (i+k):=by
 simp[BS,GU]
def Gu(c:UInt8)(s:List UInt8):BS (c::s) 0=c.toNat:=rfl
def Jk0(c:UInt8)(s:List UInt8)(k:Nat):BS (c::s) (k+1)=BS s k:=rfl
def lP{s:List UInt8}(h:s.length<=k):BS s k=0:=by
 simp[BS,GU,gR h]
def Jov(i k:Nat):ct (s.drop i) k=ct s (i+k):=by
 have:decide (k<(s.drop i).length)=decide (i+k<s.length):=by rw[KO];congr 1;apply propext;omega
 simp only[ct,Ko,this]
def Ny(i k:Nat):DF (s.drop i) k=DF s (i+k):=by
 simp only[DF,Ko,Jov,<-QO]
def Jhn(i k:Nat):code (s.drop i) k=code s (i+k):=by
 simp only[code,Ko,<-QO]
def Qy(i k:Nat):dec (s.drop i) k=dec s (i+k):=by
 simp only[F1,Ny,Jhn]
def M4(i:Nat)(h:i<s.length):i+DF s i<=s.length:=by
 unfold DF;simp only[J3]
 repeat' split
 all_goals omega
def Qv(i:Nat):DF s i<=4:=by
 unfold DF
 repeat' split
 all_goals omega
def Pz(k:Nat):GN (BS s k)=s.getD k 0:=by
 apply UInt8.toNat_inj.1;have:=Fr s k;have h:=B8 (c:=(BS s k:Int)) omg omg;simp only[BS]at h⊢;omega
def Je8{s:List UInt8}(h:i+n<=s.length):(s.drop i).take n=(List.range n).map fun k=>s.getD (i+k) 0:=by
 apply aN;intro j;rw[IQ,Eam];by_cases hj:j<n
 ·have hl:i+j<s.length:=omg;simp[hj,hl]
 ·simp[hj]
def Fd(i:Nat):DF s i=0\/(DF s i=1/\BS s i<128) \/
  (DF s i=2/\194<=BS s i/\BS s i<224/\BS s (i+1)/64=2) \/
  (DF s i=3/\224<=BS s i/\BS s i<240/\BS s (i+1)/64=2/\BS s (i+2)/64=2/\¬(BS s i=224/\BS s (i+1)<160)/\¬(BS s i=237/\160<=BS s (i+1))) \/
  (DF s i=4/\240<=BS s i/\BS s i<245/\BS s (i+1)/64=2/\BS s (i+2)/64=2/\BS s (i+3)/64=2/\¬(BS s i=240/\BS s (i+1)<144)/\¬(BS s i=244/\144<=BS s (i+1))):=by
 unfold DF;simp only[J3]
 repeat' split
 all_goals omega
def H5{s:List UInt8}(h:DF s i≠0)(hi:i<s.length):FG (code s i)=(s.drop i).take (DF s i):=by
 have DO:=M4 s i hi;have h0:=Fr s i;have h1:=Fr s (i+1);have h2:=Fr s (i+2);have h3:=Fr s (i+3);rw[Je8 _ DO];rcases Fd s i with e|⟨e,g1⟩|⟨e,g1,g2,g3⟩|⟨e,g1,g2,g3,g4,g5,g6⟩|⟨e,g1,g2,g3,g4,g5,g6,g7⟩
 ·exact absurd e h
 ·have ec:code s i=BS s i:=by unfold code;rw[AB g1]
  rw[e,ec,FG,Nb omg];simp[cn,Pz]
 ·have ec:code s i=BS s i%32*64+BS s (i+1)%64:=by unfold code;rw[AA omg,AB omg]
  have l:It (code s i)=[(BS s i:Int),(BS s (i+1):Int)]:=by
   rw[Oc (by rw[ec];omega),ec];congr 1
   ·omega
   ·congr 1;omega
  rw[e,FG,l];simp[cn,Pz]
 ·have ec:code s i=BS s i%16*4096+BS s (i+1)%64*64+BS s (i+2)%64:=by unfold code;rw[AA omg,AA omg,AB omg]
  have l:It (code s i)=[(BS s i:Int),(BS s (i+1):Int),(BS s (i+2):Int)]:=by
   rw[Nd (by rw[ec];omega),ec];congr 1
   ·omega
   ·congr 1
    ·omega
    ·congr 1;omega
  rw[e,FG,l];simp[cn,Pz]
 ·have ec:code s i=BS s i%8*262144+BS s (i+1)%64*4096+BS s (i+2)%64*64+BS s (i+3)%64:=by unfold code;rw[AA omg,AA omg,AA omg]
  have l:It (code s i)=[(BS s i:Int),(BS s (i+1):Int),(BS s (i+2):Int),(BS s (i+3):Int)]:=by
   rw[Nk (by rw[ec];omega),ec];congr 1
   ·omega
   ·congr 1
    ·omega
    ·congr 1
     ·omega
     ·congr 1;omega
  rw[e,FG,l];simp[cn,Pz]
def Cy:Prop:=(0<=r/\r<55296)\/(57344<=r/\r<=1114111)
def Fm{s:List UInt8}(h:DF s i≠0):Cy (code s i):=by
 have h0:=Fr s i;unfold Cy;rcases Fd s i with e|⟨e,g1⟩|⟨e,g1,g2,g3⟩|⟨e,g1,g2,g3,g4,g5,g6⟩|⟨e,g1,g2,g3,g4,g5,g6,g7⟩
 ·exact absurd e h
 ·have ec:code s i=BS s i:=by unfold code;rw[AB g1]
  omega
 ·have ec:code s i=BS s i%32*64+BS s (i+1)%64:=by unfold code;rw[AA omg,AB omg]
  omega
 ·have ec:code s i=BS s i%16*4096+BS s (i+1)%64*64+BS s (i+2)%64:=by unfold code;rw[AA omg,AA omg,AB omg]
  omega
 ·have ec:code s i=BS s i%8*262144+BS s (i+1)%64*4096+BS s (i+2)%64*64+BS s (i+3)%64:=by unfold code;rw[AA omg,AA omg,AA omg]
  omega
def Rp{r:Int}(h:Cy r)(t:List UInt8):DF (FG r++t) 0=(FG r).length/\(code (FG r++t) 0:Int)=r:=by
 unfold Cy at h;by_cases c1:r<128
 ·have e:=Nb (r:=r) omg;have a0:=B8 (c:=r) omg omg;simp only[FG,e,Fc,SR,PQ,List.nil_append,DH,KM];have e0:BS (GN r::t) 0=(GN r).toNat:=rfl;unfold DF code;rw[AB (by rw[e0];omega),AB (by rw[e0];omega),e0];exact⟨rfl,a0⟩
 by_cases c2:r<2048
 ·have e:=Oc (r:=r) omg;have a0:=B8 (c:=192+r/64) omg omg;have a1:=B8 (c:=128+r%64) omg omg;simp only[FG,e,Fc,SR,PQ,List.nil_append,DH,KM];generalize hs:GN (192+r/64)::GN (128+r%64)::t=s;have e0:BS s 0=(GN (192+r/64)).toNat:=by rw[<-hs];rfl
  have e1:BS s 1=(GN (128+r%64)).toNat:=by rw[<-hs];rfl
  have hl:1<s.length:=by rw[<-hs];simp
  unfold DF code;simp only[J3,MF];rw[AA omg,AB omg,AA omg,AB omg];exact⟨rfl,omg⟩
 by_cases c3:r<65536
 ·have e:=Nd (r:=r) omg;have a0:=B8 (c:=224+r/4096) omg omg;have a1:=B8 (c:=128+r/64%64) omg omg;have a2:=B8 (c:=128+r%64) omg omg;simp only[FG,e,Fc,SR,PQ,List.nil_append,DH,KM];generalize hs:GN (224+r/4096)::GN (128+r/64%64)::GN (128+r%64)::t=s;have e0:BS s 0=(GN (224+r/4096)).toNat:=by rw[<-hs];rfl
  have e1:BS s 1=(GN (128+r/64%64)).toNat:=by rw[<-hs];rfl
  have e2:BS s 2=(GN (128+r%64)).toNat:=by rw[<-hs];rfl
  have hl:2<s.length:=by rw[<-hs];simp
  unfold DF code;simp only[J3,MF];rw[AA omg,AA omg,AB omg,AA omg,AA omg,AA omg,AB omg];exact⟨rfl,omg⟩
 ·have e:=Nk (r:=r) omg;have a0:=B8 (c:=240+r/262144) omg omg;have a1:=B8 (c:=128+r/4096%64) omg omg;have a2:=B8 (c:=128+r/64%64) omg omg;have a3:=B8 (c:=128+r%64) omg omg;simp only[FG,e,Fc,SR,PQ,List.nil_append,DH,KM];generalize hs:GN (240+r/262144)::GN (128+r/4096%64)::GN (128+r/64%64)::GN (128+r%64)::t=s;have e0:BS s 0=(GN (240+r/262144)).toNat:=by rw[<-hs];rfl
  have e1:BS s 1=(GN (128+r/4096%64)).toNat:=by rw[<-hs];rfl
  have e2:BS s 2=(GN (128+r/64%64)).toNat:=by rw[<-hs];rfl
  have e3:BS s 3=(GN (128+r%64)).toNat:=by rw[<-hs];rfl
  have hl:3<s.length:=by rw[<-hs];simp
  unfold DF code;simp only[J3,MF];rw[AA omg,AA omg,AA omg,AB omg,AA omg,AA omg,AA omg,AA omg];exact⟨rfl,omg⟩
end Go.LX
