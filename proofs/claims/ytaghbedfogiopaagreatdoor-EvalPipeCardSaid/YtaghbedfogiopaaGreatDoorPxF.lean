/- Functions that yield: what a round keeps; a walk that counts its rounds. -/
import Derived.Test.YtaghbedfogiopaaGreatDoorPxE
import Derived.RangeFuncNested
import Derived.Test.YtaghbedfogiopaaGreatDoorProg
import Derived.Shelf.Strings.Trim
import Derived.Shelf.Small.Wraps
import Derived.Shelf.Strings.BuilderF
import Derived.Shelf.Strconv.Itoa4
import Derived.Shelf.Strconv.ErrVarAll
import Derived.Shelf.Strconv.ParseUintEmpty
import Derived.Shelf.Unicode.Decode
import Derived.Shelf.Strings.IndexAnyAll
import Derived.Shelf.Strings.FuncGrows
import Derived.Shelf.Slices.SearchI
import Derived.Shelf.Slices.Cells
import Derived.Shelf.SlicesE.Reverse
import Derived.Shelf.Spec.TrailingZeros
import Derived.Shelf.Unicode.ValidAny
set_option linter.unusedSimpArgs false
set_option linter.unusedVariables false
set_option linter.unusedSectionVars false
set_option linter.unnecessarySimpa false
namespace Go.LX
open Go Go.RowKit Go.Proofs
structure YKeep (w:World) (Im:Nat->Prop) (w':World) (Im':Nat->Prop):Prop where
 os:w'.os=w.os
 tape:w'.tape=w.tape
 output:w'.output=w.output
 size:w.heap.size<=w'.heap.size
 im:∀ b,Im b->Im' b
 block:∀ b,Im b->w'.heap[b]? = w.heap[b]?
 lt:∀ b,Im' b->b<w'.heap.size
theorem YKeep.refl {w:World} {Im:Nat->Prop} (h:∀ b,Im b->b<w.heap.size):YKeep w Im w Im :=
 ⟨rfl,rfl,rfl,Eah _,fun _ h=>h,fun _ _=>rfl,h⟩
theorem YKeep.trans {w w1 w2:World} {Im Im1 Im2:Nat->Prop} (h:YKeep w Im w1 Im1) (k:YKeep w1 Im1 w2 Im2):YKeep w Im w2 Im2 :=
 ⟨k.os.trans h.os,k.tape.trans h.tape,k.output.trans h.output,Nat.le_trans h.size k.size,fun b hb=>k.im b (h.im b hb),fun b hb=>(k.block b (h.im b hb)).trans (h.block b hb),k.lt⟩
theorem YKeep.keeps {w w':World} {Im Im':Nat->Prop} (h:YKeep w Im w' Im'):Keeps w Im w' Im':=⟨h.im,h.block⟩
theorem Jw2 {w w':World} {Im Im':Nat->Prop} (h:Grow w Im w' Im') (hi:∀ b,Im b->b<w.heap.size):YKeep w Im w' Im' :=
 ⟨h.os,h.tape,h.output,h.size,h.im,fun b hb=>h.block b (hi b hb),h.lt⟩
abbrev Gh:=Option Nat->World->(Nat->Prop)->Prop
def JOK (J:Gh):Prop:=∀ (k:Option Nat) (w:World) (Im:Nat->Prop) (w':World) (Im':Nat->Prop),(∀ b,Im b->b<w.heap.size)->J k w Im->Grow w Im w' Im'->J k w' Im'
def Jh6 (w:World) (Im:Nat->Prop) (us:List Value) (x:List PV):Prop:=us.length=x.length/\∀ (i:Nat) (v:Value) (p:PV),us[i]? = some v->x[i]? = some p->PRep w Im v p
def YAt (X:Cx) (l:Nat) (args:Array Value) (w:World) (R:Ending->World->Prop):Prop :=
 ∃ fn tmps assign body,(Instr.yield l args).run X.P w=.ok (.round l fn tmps assign body) w/\RoundIn (F0 none) 0 X.P l fn tmps assign body w R
def YOK (X:Cx) (l:Nat) (J:Gh) (xs:List (List PV)):Prop:=∀ (k:Nat) (x:List PV),xs[k]? = some x->∀ (w:World) (Im:Nat->Prop) (us:List Value),J (some k) w Im->X.G w Im->(∀ b,Im b->b<w.heap.size)->Jh6 w Im us x ->
 YAt X l ⟨us⟩ w fun e w'=>∃ Im',YKeep w Im w' Im'/\((e=.returned (.bool true)/\J (some (k+1)) w' Im')\/(e=.returned (.bool false)/\J none w' Im'))
def Tb (X:Cx) (f:FuncId) (args:List L) (xs:List (List PV)):Prop :=
 Enters X.P f/\∀ (l:Nat) (J:Gh),JOK J->YOK X l J xs->∀ (Im:Nat->Prop) (w:World) (vs:List Value),X.G w Im->(∀ b,Im b->b<w.heap.size)->J (some 0) w Im ->
  vs.length=args.length->(∀ (i:Nat) (v:Value) (a:L),vs[i]? = some v->args[i]? = some a->LRep (fun _=>none) w Im v a) ->
  Calls X.P f ⟨.func (.yield l) #[] #[] :: vs⟩ w fun e w'=>∃ v Im',e=.returned v/\YKeep w Im w' Im'/\(J (some xs.length) w' Im'\/J none w' Im')
def St.bare (s:St):St:=⟨s.tmps.map (L.map fun _=>none),[]⟩
theorem RRx.bare {Γ:Base} {β:Env} {Im:Nat->Prop} {s:St} {tmps:Array Value} {w:World} (h:RRx Γ β Im s tmps w):RRx Γ β Im s.bare tmps w :=
 {
  h with
  fit:={
      size:=by simp[St.bare,h.fit.size],tmps:=fun i l hl=>by
       simp only[St.bare,Eam] at hl;obtain ⟨l',h1,rfl⟩:=Eal.1 hl;exact (h.fit.tmps i l' h1).map (fun d n hd=>by cases hd)
      regs:=fun d r hr=>by simp[St.bare] at hr
      nodup:=.nil,live:=fun d r loc hr=>by simp[St.bare] at hr,apart:=fun d r d' r' l1 l2 hr=>by simp[St.bare] at hr,im:=h.fit.im }
  regnew:=fun d r loc hr=>by simp[St.bare] at hr
  marks:=fun D hD=>by obtain ⟨h1,h2,h3,_⟩:=h.marks D hD;exact ⟨h1,h2,h3,fun d r loc hr=>by simp[St.bare] at hr⟩ }
def JR (X:Cx) (J:Gh) (w0:World) (Im00:Nat->Prop) (k:Option Nat) (s:St) (a:Act) (w:World):Prop :=
 a.defers=[]/\∃ (W:World) (β0:Env) (I0:Nat->Prop),(∀ b,I0 b->b<W.heap.size)/\YKeep w0 Im00 W I0/\J k W I0/\RRm ⟨W,β0,I0,fun _=>False,[],X.G,X.mono⟩ [] s a w
theorem RRx.grown {Γ:Base} {β:Env} {Im:Nat->Prop} {s:St} {tmps:Array Value} {w:World} (h:RRx Γ β Im s tmps w) (hm:∀ b,¬ Γ.may b):Grow Γ.W0 Γ.Im0 w Im :=
 ⟨h.os,h.tape,h.output,h.size,fun k hk=>h.block k hk (hm k),h.imin,fun b hb=>(h.imnew b hb).elim .inl fun h'=>h'.elim .inr fun h=>absurd h (hm b),h.fit.im⟩
def JQ (X:Cx) (J:Gh) (w0:World) (Im00:Nat->Prop) (Q:Ex->Option Nat->St->Prop):Exit->Act->World->Prop
 | .normal,a,w=>∃ k s,Q .normal k s/\JR X J w0 Im00 k s a w
 | .exit id,a,w=>∃ k s,Q (.exit id) k s/\JR X J w0 Im00 k s a w
 | .ret,a,w=>∃ k s,Q .ret k s/\JR X J w0 Im00 k s a w
 | _,_,_=>False
def JWP (X:Cx) (xs:List (List PV)) (l:Nat) (c:Code) (Q:Ex->Option Nat->St->Prop) (k:Option Nat) (s:St):Prop :=
 ∀ J w0 Im00,JOK J->YOK X l J xs->∀ a w,JR X J w0 Im00 k s a w->c.wpIn (F0 none) 1 X.P (JQ X J w0 Im00 Q) a w
def K2:List L->Option (List PV)
 | []=>some []
 | .p x :: l=>match K2 l with
  | some xs=>some (x :: xs)
  | none=>none
 | _ :: _=>none
def L0 (xs:List (List PV)) (n:Nat) (o:Option (List PV)) (t f:Option Nat->Prop):Prop :=
 match o with
 | some x=>xs[n]? = some x/\t (some (n+1))/\f none
 | none=>False
def Ur (xs:List (List PV)) (l l':Nat) (s:St) (args:List Operand) (dst:Option Tmp) (K:Option Nat->St->Prop) (k:Option Nat):Prop :=
 match k with
 | some n=>l'=l/\L0 xs n (K2 (args.map (s.freezeOps args).get)) (fun k=>K k ((s.freezeOps args).bare.put dst (.p (.bool true)))) (fun k=>K k ((s.freezeOps args).bare.put dst (.p (.bool false))))
 | none=>False
def Y4 (X:Cx) (xs:List (List PV)) (l:Nat) (o:Oper) (args:List Operand) (K:Option Nat->St->Prop) (k:Option Nat) (s:St) (x:L):Prop :=
 match x with
 | .yld l'=>Ur xs l l' s args o.dst K k
 | _=>lop X o (K k) s
def jop (X:Cx) (xs:List (List PV)) (l:Nat) (o:Oper) (K:Option Nat->St->Prop) (k:Option Nat) (s:St):Prop :=
 match o.op with
 | .call { callee:=.value f,args,argTypes:=_ }=>Y4 X xs l o args.toList K k s (s.get f)
 | _=>lop X o (K k) s
def kunitJ (dst:Option Tmp) (K:Option Nat->St->Prop) (k:Option Nat) (s:St):Prop:=K k (s.put dst (.tup []))
def jops (X:Cx) (xs:List (List PV)) (l:Nat) (ds:List (Option Tmp)):List Oper->(Option Nat->St->Prop)->Option Nat->St->Prop
 | [],K,k,s=>K k s
 | o :: rest,K,k,s=>F4 ds o.guard (jop X xs l o (jops X xs l ds rest K) k) (kunitJ o.dst (jops X xs l ds rest K) k) s
def jseq (B:(Ex->Option Nat->St->Prop)->Option Nat->St->Prop) (Q:Ex->Option Nat->St->Prop):Ex->Option Nat->St->Prop
 | .normal,k,s=>B Q k s
 | .exit id,k,s=>Q (.exit id) k s
 | .ret,k,s=>Q .ret k s
def Oe (id:Nat) (Q:Ex->Option Nat->St->Prop):Ex->Option Nat->St->Prop
 | .normal,k,s=>Q .normal k s
 | .exit id',k,s=>if id'=id then Q .normal k s else Q (.exit id') k s
 | .ret,k,s=>Q .ret k s
def jwp (X:Cx) (xs:List (List PV)) (l:Nat):Code->(Ex->Option Nat->St->Prop)->Option Nat->St->Prop
 | .skip,Q,k,s=>Q .normal k s
 | .region id ops draw,Q,k,s=>match draw with
  | false=>jops X xs l (ops.toList.map (·.dst)) ops.toList (Q .normal) k s
  | true=>JWP X xs l (.region id ops true) Q k s
 | .seq a b,Q,k,s=>jwp X xs l a (jseq (jwp X xs l b) Q) k s
 | .cond c a b,Q,k,s=>O0 (s.get c) (jwp X xs l a Q k) (jwp X xs l b Q k) s
 | .block id c,Q,k,s=>jwp X xs l c (Oe id Q) k s
 | .loop c,Q,k,s=>JWP X xs l (.loop c) Q k s
 | .exit id,Q,k,s=>Q (.exit id) k s
 | .ret,Q,k,s=>Q .ret k s
 | .label _,Q,k,s=>Q .normal k s
 | c,Q,k,s=>JWP X xs l c Q k s
theorem P7:∀ {ls:List L} {x:List PV},K2 ls=some x->ls=x.map .p
 | [],x,h=>by cases h;rfl
 | .p y :: ls,x,h=>by
  simp only[K2] at h;split at h
  ·rename_i xs hx;cases h;rw[P7 hx];rfl
  ·cases h
 | .ptr _ _ _ :: _,_,h=>by cases h
 | .own _ _ _ :: _,_,h=>by cases h
 | .eptr _ :: _,_,h=>by cases h
 | .fn _ _ :: _,_,h=>by cases h
 | .cfn _ _ :: _,_,h=>by cases h
 | .yld _ :: _,_,h=>by cases h
 | .tup _ :: _,_,h=>by cases h
 | .mref _ :: _,_,h=>by cases h
 | .junk :: _,_,h=>by cases h
section
variable {X:Cx} {xs:List (List PV)} {l:Nat} {J:Gh} {w0:World} {Im00:Nat->Prop}
theorem Jek {s:St} {a:Act} {w:World} {o:Oper} {K:Option Nat->St->Prop} {k:Option Nat} {Q:Exit->Act->World->Prop} (hJ:JOK J) (hY:YOK X l J xs) (h:JR X J w0 Im00 k s a w) (hl:jop X xs l o K k s) :
  o.wpIn (F0 none) 1 X.P a w (fun a' w'=>∃ k s,K k s/\JR X J w0 Im00 k s a' w') Q:=by
 obtain ⟨hd,W,β0,I0,hlt,hkeep,hj,hr⟩:=h;have quiet:lop X o (K k) s->o.wpIn (F0 none) 1 X.P a w (fun a' w'=>∃ k s,K k s/\JR X J w0 Im00 k s a' w') Q:=fun hl=>by
  refine Oper.wpIn_mono (fun a' w' ⟨s',h1,h2⟩=>⟨k,s',h1,h2.1,W,β0,I0,hlt,hkeep,hj,h2⟩) (Lm (Γ:=⟨W,β0,I0,fun _=>False,[],X.G,X.mono⟩) rfl hr hl)
 unfold jop at hl;split at hl
 ·rename_i f args ats ho;unfold Y4 at hl;split at hl
  ·rename_i l' hf;unfold Ur at hl;split at hl
   ·rename_i n;obtain ⟨rfl,hl⟩:=hl;obtain ⟨_,β,Im,hx⟩:=hr;have hfv:=A2 hx.fit f;rw[hf] at hfv;obtain ⟨Im1,hx1⟩:=RRx.freezeOps args.toList hx;unfold L0 at hl;split at hl
    ·rename_i x hx0;obtain ⟨hn,hK1,hK2⟩:=hl;have hargs:=P7 hx0;have hG1:Grow W I0 w Im1:=hx1.grown (fun _ h=>h);have hrep:Jh6 w Im1 (args.toList.map a.eval) x:=by
      have hlen:args.toList.length=x.length:=by have:=congrArg List.length hargs;simpa using this
      refine ⟨by simpa using hlen,fun i v p hv hp=>?_⟩;rw[Eam] at hv;obtain ⟨o',ho',rfl⟩:=Eal.1 hv;have h2:=A2 hx1.fit o';have h3:(args.toList.map (s.freezeOps args.toList).get)[i]? = (x.map L.p)[i]?:=by rw[hargs]
      rw[Eam,Eam,ho',hp] at h3;rw[Ebd h3] at h2;exact h2
     have hj1:J (some n) w Im1:=hJ _ _ _ _ _ hlt hj hG1;obtain ⟨fn,tmps,assign,body,hy,hR⟩:=hY n x hn w Im1 _ hj1 hx1.glob hx1.fit.im hrep;refine ⟨fun _ _=>trivial,?_⟩;have hdn:∀ c,o.op≠.defer c:=by rw[ho];simp
     rw[Ly _ hdn];have hrun:(execOp a.eval o).run X.P w=.ok (.round l' fn tmps assign body) w:=by
      unfold execOp;rw[ho];have he:a.eval f=.func (.yield l') #[] #[]:=hfv;have hm:args.map a.eval=⟨args.toList.map a.eval⟩:=by rw[<- Ebt];simp
      simp only[resolve,he,hm];simp[Deferred.ofValue,invoke,hy]
     rw[hrun];refine ⟨fun _=>Eah _,hR.mono fun e w' ⟨Im',hk',hc⟩=>?_⟩;have hb:=hx1.bare;have back:∀ (k':Option Nat) (b:Bool),J k' w' Im'->JR X J w0 Im00 k' ((s.freezeOps args.toList).bare.put o.dst (.p (.bool b))) (a.put o.dst (.bool b)) w':=by
      intro k' b hjk;refine ⟨Bf hd,w',β,Im',hk'.lt,hkeep.trans ((Jw2 hG1 hlt).trans hk'),hjk,Bf hd,β,Im',?_⟩;refine RRx.put ?_ o.dst (PRep.bool b);refine {
          fit:={ size:=hb.fit.size,tmps:=fun i m hm=>(hb.fit.tmps i m hm).mono' hk'.keeps,regs:=fun d r hr=>(by simp[St.bare] at hr),nodup:=.nil,live:=fun d r loc hr=>(by simp[St.bare] at hr),apart:=fun d r d' r' l1 l2 hr=>(by simp[St.bare] at hr),im:=hk'.lt }
          os:=rfl,tape:=rfl,output:=rfl,size:=Eah _,block:=fun _ _ _=>rfl,imin:=fun _ h=>h,imnew:=fun _ h=>.inl h,regnew:=fun d r loc hr=>(by simp[St.bare] at hr),fixed:=fun _ _ _=>rfl
          glob:=X.mono hk'.keeps hx1.glob,marks:=fun D hD=>(by cases hD),mnod:=.nil }
     rcases hc with ⟨rfl,hj2⟩ | ⟨rfl,hj2⟩
     ·exact ⟨_,_,hK1,back _ _ hj2⟩
     ·exact ⟨_,_,hK2,back _ _ hj2⟩
    ·exact hl.elim
   ·exact hl.elim
  ·exact quiet hl
 ·exact quiet hl
theorem Lq {ops:Array Oper} {K:Option Nat->St->Prop} {Q:Exit->Act->World->Prop} (hJ:JOK J) (hY:YOK X l J xs) (hQ:∀ k s a w,K k s->JR X J w0 Im00 k s a w->Q .normal a w):∀ (os:List Oper) (i:Nat),(∀ j,os[j]? = ops[i+j]?)->∀ (k:Option Nat) (s:St) (a:Act) (w:World),JR X J w0 Im00 k s a w ->
  jops X xs l (ops.toList.map (·.dst)) os K k s->wpOpsIn (F0 none) 1 X.P ops Q (List.range' i os.length) a w
 | [],i,_,k,s,a,w,h,hl=>by simpa[wpOpsIn] using hQ k s a w hl h
 | o :: os,i,hi,k,s,a,w,h,hl=>by
  have h0:ops[i]? = some o:=by simpa using (hi 0).symm
  have hi':∀ j,os[j]? = ops[i+1+j]?:=fun j=>by have:=hi (j+1);simpa[Eb2,Ecw 1 j] using this
  simp only[Ead,List.range'_succ,wpOpsIn,h0];simp only[jops] at hl;obtain ⟨hd,W,β0,I0,hlt,hkeep,hj,hr⟩:=h;obtain ⟨s',h',hc⟩:=Gb hr.rr hl;have hm:RRm ⟨W,β0,I0,fun _=>False,[],X.G,X.mono⟩ [] s' a w:=by
   obtain ⟨ms,h1,h2⟩:=h';have:ms=[]:=by rw[hd] at h1;cases ms<;>first|rfl | cases h1
   subst this;exact ⟨h1,h2⟩
  rcases hc with ⟨hA,hw⟩ | ⟨hB,hw⟩
  ·rw[if_pos (hw o rfl)];exact Oper.wpIn_mono (fun a' w' ⟨k2,s2,hs2,hr2⟩=>Lq hJ hY hQ os (i+1) hi' k2 s2 a' w' hr2 hs2) (Jek hJ hY ⟨hd,W,β0,I0,hlt,hkeep,hj,hm⟩ hA)
  ·rw[if_neg (by rw[hw o rfl];simp)];obtain ⟨hdef,β,Im,hx⟩:=hm;exact ⟨fun _ _=>trivial,Lq hJ hY hQ os (i+1) hi' k _ _ w ⟨Bf hd,W,β0,I0,hlt,hkeep,hj,Bf hd,β,Im,hx.put o.dst H0⟩ hB⟩
theorem N9:∀ (c:Code) (Q:Ex->Option Nat->St->Prop) (k:Option Nat) (s:St),jwp X xs l c Q k s->JWP X xs l c Q k s:=by
 intro c
 induction c with
 | skip=>exact fun Q k s h J w0 Im00 hJ hY a w hr=>wpIn_skip ⟨k,s,h,hr⟩
 | region id ops draw =>
  intro Q k s h;cases draw with
  | false =>
   intro J w0 Im00 hJ hY a w hr;simp only[jwp] at h;refine wpIn_region ?_;have:=Lq (X:=X) (ops:=ops) (K:=Q .normal) (Q:=JQ X J w0 Im00 Q) hJ hY (fun k s a w h1 h2=>⟨k,s,h1,h2⟩) ops.toList 0 sm k s a w hr h;rw[Array.length_toList] at this;rw[List.range_eq_range'];exact this
  | true=>exact h
 | seq x y ihx ihy =>
  intro Q k s h J w0 Im00 hJ hY a w hr;simp only[jwp] at h;refine wpIn_seq (wpIn_mono (ihx _ k s h J w0 Im00 hJ hY a w hr) fun e a w hq=>?_);cases e with
  | normal=>obtain ⟨k',s',h1,h2⟩:=hq;exact ihy Q k' s' h1 J w0 Im00 hJ hY a w h2
  | exit id=>exact hq
  | ret=>exact hq
  | goto l=>exact hq.elim
  | panic c=>exact hq.elim
  | outgrown=>exact hq.elim
 | cond c x y ihx ihy =>
  intro Q k s h J w0 Im00 hJ hY a w hr;simp only[jwp,O0] at h;obtain ⟨hd,W,β0,I0,hlt,hkeep,hj,hdef,β,Im,hx⟩:=hr;have hc:=A2 hx.fit c;split at h
  ·rename_i t hg;rw[hg] at hc;cases hv:a.eval c<;>rw[hv] at hc<;>cases hc;exact wpIn_cond_split hv (fun ht=>ihx Q k s (h.1 ht) J w0 Im00 hJ hY a w ⟨hd,W,β0,I0,hlt,hkeep,hj,hdef,β,Im,hx⟩) (fun ht=>ihy Q k s (h.2 ht) J w0 Im00 hJ hY a w ⟨hd,W,β0,I0,hlt,hkeep,hj,hdef,β,Im,hx⟩)
  ·exact h.elim
 | block id c ih =>
  intro Q k s h J w0 Im00 hJ hY a w hr;simp only[jwp] at h;refine wpIn_block (wpIn_mono (ih _ k s h J w0 Im00 hJ hY a w hr) fun e a w hq=>?_);cases e with
  | normal=>exact hq
  | exit id' =>
   obtain ⟨k',s',h1,h2⟩:=hq;simp only[Oe] at h1;simp only[Exit.inBlock];split at h1
   ·rename_i he;rw[if_pos he];exact ⟨k',s',h1,h2⟩
   ·rename_i he;rw[if_neg he];exact ⟨k',s',h1,h2⟩
  | ret=>exact hq
  | goto l=>exact hq.elim
  | panic c=>exact hq.elim
  | outgrown=>exact hq.elim
 | loop c _=>exact fun Q k s h=>h
 | exit id=>exact fun Q k s h J w0 Im00 hJ hY a w hr=>wpIn_exit ⟨k,s,h,hr⟩
 | ret=>exact fun Q k s h J w0 Im00 hJ hY a w hr=>wpIn_ret ⟨k,s,h,hr⟩
 | label l=>exact fun Q k s h J w0 Im00 hJ hY a w hr=>wpIn_label ⟨k,s,h,hr⟩
 | rangeFunc f ps asg c _ _=>exact fun Q k s h=>h
 | scope c ih=>exact fun Q k s h=>h
 | goto l=>exact fun Q k s h=>h
 | refuse why=>exact fun Q k s h=>h
def Jdl {ι:Type} (I:ι->Option Nat×St) (Pre:ι->Prop) (μ:ι->Nat) (x:ι) (Q:Ex->Option Nat->St->Prop):Ex->Option Nat->St->Prop
 | .normal,k,s=>∃ y,Pre y/\μ y<μ x/\k=(I y).1/\s.Le (I y).2
 | .exit id,k,s=>Q (.exit id) k s
 | .ret,k,s=>Q .ret k s
theorem JR.le {k:Option Nat} {s s':St} {a:Act} {w:World} (h:JR X J w0 Im00 k s a w) (hle:s.Le s'):JR X J w0 Im00 k s' a w:=by
 obtain ⟨hd,W,β0,I0,hlt,hkeep,hj,hr⟩:=h;obtain ⟨ms,h1,h2⟩:=hle _ _ _ hr.rr;have:ms=[]:=by rw[hd] at h1;cases ms<;>first|rfl | cases h1
 subst this;exact ⟨hd,W,β0,I0,hlt,hkeep,hj,h1,h2⟩
theorem JWP.loop {ι:Type} (I:ι->Option Nat×St) (Pre:ι->Prop) (μ:ι->Nat) (x0:ι) {c:Code} {Q:Ex->Option Nat->St->Prop} {k:Option Nat} {s:St} (hk:k=(I x0).1) (hs:s.Le (I x0).2) (h0:Pre x0)
  (round:∀ x,Pre x->JWP X xs l c (Jdl I Pre μ x Q) (I x).1 (I x).2):JWP X xs l (.loop c) Q k s:=by
 intro J w0 Im00 hJ hY a w hr;have key:∀ n x,μ x=n->Pre x->∀ a w,JR X J w0 Im00 (I x).1 (I x).2 a w->∀ (b:Frame) (k:List Item) (cs:List Frame),b.roundOf=(F0 none).round->(F0 none).fn b.fn->(F0 none).room (cs.length+1+1) ->
   ∃ e a' w',JQ X J w0 Im00 Q e a' w'/\ArrivesIn (Machine.fenced X.P (F0 none)) X.P (lone (b.atR a (.code c :: .inLoop c :: k)) cs w) b k cs e a' w':=by
  intro n
  induction n using Nat.strongRecOn with
  | _ n ih =>
   intro x hn hP a w hr b k cs hro hb hroom;obtain ⟨e,a₁,w₁,hq,harr⟩:=round x hP J w0 Im00 hJ hY a w hr b (.inLoop c :: k) cs hro hb hroom;cases e with
   | normal =>
    obtain ⟨k',s',⟨y,hy,hlt,hk',hle⟩,h2⟩:=hq;subst hk';obtain ⟨e₂,a₂,w₂,hq₂,harr₂⟩:=ih (μ y) (hn ▸ hlt) y rfl hy a₁ w₁ (h2.le hle) b k cs hro hb hroom;exact ⟨e₂,a₂,w₂,hq₂,.of_steps (StepsIn.trans harr (.one (fenced_calm hb hroom rfl) stepR_inLoop)) harr₂⟩
   | exit id =>
    obtain ⟨k',s',h1,h2⟩:=hq;exact ⟨.exit id,a₁,w₁,⟨k',s',h1,h2⟩,.pass (x:=.inLoop c) rfl (fun _ _=>.inl sm) harr⟩
   | ret =>
    obtain ⟨k',s',h1,h2⟩:=hq;exact ⟨.ret,a₁,w₁,⟨k',s',h1,h2⟩,.pass (x:=.inLoop c) rfl (fun _ _=>.inl sm) harr⟩
   | goto l=>exact hq.elim
   | panic ch=>exact hq.elim
   | outgrown=>exact hq.elim
 intro b k' cs hro hb hroom;subst hk;obtain ⟨e,a',w',hq,harr⟩:=key _ x0 rfl h0 a w (hr.le hs) b k' cs hro hb hroom;exact ⟨e,a',w',hq,.of_steps (.one (fenced_calm hb hroom rfl) stepR_loop) harr⟩
def jret (xs:List (List PV)):Ex->Option Nat->St->Prop
 | .normal,k,_=>k=some xs.length\/k=none
 | .ret,k,_=>k=some xs.length\/k=none
 | .exit _,_,_=>False
end
theorem Juw {X:Cx} {f:FuncId} {fn:Func} {c:Code} {args:List L} {xs:List (List PV)} (hf:X.P.funcs[f]? = some fn) (hname:(fn.name == "runtime.NumGoroutine")=false) (hb:fn.body=some c) (hres:fn.results = #[]) (hn:args.length+1<=fn.ntmps)
  (h:∀ l,JWP X xs l c (jret xs) (some 0) ⟨Ba fn.ntmps (argW 0 (.yld l :: args)),[]⟩):Tb X f args xs:=by
 refine ⟨enters_of hf hname hb,fun l J hJ hY Im w vs hglob hlt hj hlen hrep=>?_⟩;refine callsIn_wide.1 (callsIn_of_wp_marks (n:=1) (F:=Fence.wide) hf hb trivial ?_);have e0:Ba fn.ntmps (argW 0 (.yld l :: args))=(.yld l :: args) ++ List.replicate (fn.ntmps - (L.yld l :: args).length) .junk:=(Rx (by simpa using hn)).symm;have hr0:JR X J w Im (some 0) ⟨Ba fn.ntmps (argW 0 (.yld l :: args)),[]⟩ { tmps:=(⟨.func (.yield l) #[] #[] :: vs⟩:Array Value) ++ Array.replicate (fn.ntmps - (⟨.func (.yield l) #[] #[] :: vs⟩:Array Value).size) undef,defers:=[] } w:=by
  refine ⟨rfl,w,fun _=>none,Im,hlt,YKeep.refl hlt,hj,rfl,fun _=>none,Im,{ fit:={ size:=?_,tmps:=fun i m hm=>?_,regs:=fun d r hr=>by simp at hr,nodup:=.nil,live:=fun d r loc hr=>by simp at hr,apart:=fun d r d' r' l1 l2 hr=>by simp at hr,im:=hlt },os:=rfl,tape:=rfl,output:=rfl,size:=Eah _,block:=fun _ _ _=>rfl,imin:=fun _ h=>h,imnew:=fun _ h=>.inl h,regnew:=fun d r loc hr=>by simp at hr,fixed:=fun _ _ _=>rfl,glob:=hglob,mnod:=.nil,marks:=fun D hD=>(by cases hD) }⟩
  ·simp[Cg,hlen];omega
  ·simp only[e0] at hm;by_cases hi:i<(L.yld l :: args).length
   ·rw[Eat hi] at hm;have e:((⟨.func (.yield l) #[] #[] :: vs⟩:Array Value) ++ Array.replicate (fn.ntmps - (⟨.func (.yield l) #[] #[] :: vs⟩:Array Value).size) undef).getD i undef=(Value.func (.yield l) #[] #[] :: vs).getD i undef:=by
     simp only[Eav,Eaj];rw[Edb (by simp at hi ⊢;omega)];simp
    rw[e];cases i with
    | zero=>simp at hm;subst hm;rfl
    | succ i =>
     simp at hm hi;have hv:i<vs.length:=by omega
     simp[hv];exact hrep i _ m (by simp[hv]) hm
   ·rw[Ear omg,Ecq] at hm;split at hm
    ·cases hm;trivial
    ·cases hm
 have hw:=h l J w Im hJ hY _ w hr0;refine wpIn_mono (show c.wpIn Fence.wide 1 X.P _ _ _ from hw) fun e a w' hq=>?_
 have fin:∀ k s,(k=some xs.length\/k=none)->JR X J w Im k s a w'->LeavesInM Fence.wide 1 X.P fn a.tmps (fun e w'=>∃ v Im',e=.returned v/\YKeep w Im w' Im'/\(J (some xs.length) w' Im'\/J none w' Im')) a.defers .returning w':=by
  rintro k s hk ⟨hd,W,β0,I0,hlt',hkeep,hj',hr⟩;rw[hd];obtain ⟨_,β,Im',hx⟩:=hr;have hg:Grow W I0 w' Im':=hx.grown (fun _ h=>h);have hrun:=G9 (P:=X.P) (fn:=fn) (tmps:=a.tmps) (w:=w') (vs:=[]) (by rw[hres];simp);refine ⟨_,hrun,_,Im',rfl,hkeep.trans (Jw2 hg hlt'),?_⟩;have:=hJ _ _ _ _ _ hlt' hj' hg;rcases hk with rfl | rfl
  ·exact .inl this
  ·exact .inr this
 cases e with
 | normal=>obtain ⟨k,s,h1,h2⟩:=hq;exact fin k s h1 h2
 | ret=>obtain ⟨k,s,h1,h2⟩:=hq;exact fin k s h1 h2
 | exit id=>obtain ⟨k,s,h1,h2⟩:=hq;exact h1.elim
 | goto l=>exact hq.elim
 | panic c=>exact hq.elim
 | outgrown=>exact hq.elim
def Jbk (d:Nat):Reg->Bool
 | .var _ _=>true
 | .obj _=>true
 | _=>decide (1000<=d/\d<500000)
def rnOf (k:Nat):Regs->Ren
 | []=>[]
 | (d,r) :: rest=>(d,if Jbk d r=true then 1000+k else 500000+k) :: rnOf (k+1) rest
theorem T9:∀ (rs:Regs) (k:Nat),(rnOf k rs).map (·.1)=rs.map (·.1)
 | [],_=>rfl
 | (d,r) :: rs,k=>by simp[rnOf,T9 rs (k+1)]
theorem Jeb:∀ (rs:Regs) (k:Nat),k+rs.length<=1000->O3 k (rnOf k rs)
 | [],_,_=>trivial
 | (d,r) :: rs,k,h=>by
  simp only[Ead] at h;refine ⟨?_,Jeb rs (k+1) omg⟩;split
  ·exact .inl ⟨rfl,omg⟩
  ·rename_i hf;refine .inr ⟨rfl,fun hd=>hf ?_,omg⟩;cases r<;>simp[Jbk,hd]
theorem Jmr {rs:Regs} (h:rs.length<=1000) (hn:(rs.map (·.1)).Nodup):RenOK (rnOf 0 rs) :=
 Tc (Jeb rs 0 omg) (by rw[T9];exact hn)
def Mq (ρ:Ren) (d:Nat):Option Nat:=match upId ρ d with
 | some n=>if n<500000 then some n else none
 | none=>none
theorem Zz {ρ:Ren} {d n:Nat} (h:Mq ρ d=some n):upId ρ d=some n/\n<500000:=by
 unfold Mq at h;split at h
 ·rename_i m hm;split at h
  ·cases h;exact ⟨hm,by assumption⟩
  ·cases h
 ·cases h
theorem V3 {f:Nat->Option Nat} {l:L} {n:Nat} (h:(l.map f).mentions n=true):∃ d,f d=some n:=by
 have fnc:∀ ds ns,Bg f ds=some ns->ns.contains n=true->∃ d,f d=some n:=by
  intro ds ns ha hc;obtain ⟨h1,h2⟩:=Bh ha;have hm:n∈ns:=by simpa using hc
  obtain ⟨i,hi⟩:=Ebz hm;obtain ⟨d,hd⟩:=getElem?_of_length h1 hi;exact ⟨d,h2 i d n hd hi⟩
 cases l with
 | ptr d i j=>simp only[L.map] at h;cases hd:f d<;>rw[hd] at h<;>simp[Jyi,L.mentions] at h;exact ⟨d,by rw[hd,h]⟩
 | own d i j=>simp only[L.map] at h;cases hd:f d<;>rw[hd] at h<;>simp[Jxj,L.mentions] at h;exact ⟨d,by rw[hd,h]⟩
 | mref d=>simp only[L.map] at h;cases hd:f d<;>rw[hd] at h<;>simp[Jwt,L.mentions] at h;exact ⟨d,by rw[hd,h]⟩
 | fn g ds=>simp only[L.map] at h;cases hd:Bg f ds<;>rw[hd] at h<;>simp only[J3a,L.mentions,Eb0] at h;exact fnc _ _ hd h
 | cfn g ds=>simp only[L.map] at h;cases hd:Bg f ds<;>rw[hd] at h<;>simp only[J54,L.mentions,Eb0] at h;exact fnc _ _ hd h
 | p x=>simp[L.map,L.mentions] at h
 | eptr cs=>simp[L.map,L.mentions] at h
 | yld l=>simp[L.map,L.mentions] at h
 | tup xs=>simp[L.map,L.mentions] at h
 | junk=>simp[L.map,L.mentions] at h
structure Trans (l:Nat) (β:Env) (w:World) (Im:Nat->Prop) (rs:Regs) (β':Env) (w':World) (Im':Nat->Prop) (rs':Regs):Prop where
 os:w'.os=w.os
 tape:w'.tape=w.tape
 output:w'.output=w.output
 size:w.heap.size<=w'.heap.size
 block:∀ k,k<w.heap.size->k≠l->(∀ d r loc,(d,r)∈rs->β d=some loc->loc.blk≠k)->w'.heap[k]? = w.heap[k]?
 imin:∀ b,Im b->Im' b
 imnew:∀ b,Im' b->Im b\/w.heap.size<=b\/∃ d r loc,(d,r)∈rs/\β d=some loc/\loc.blk=b
 env:∀ d,1000<=d->d<500000->β' d=β d
 regnew:∀ d r loc,(d,r)∈rs'->β' d=some loc->w.heap.size<=loc.blk\/∃ d r loc',(d,r)∈rs/\β d=some loc'/\loc'.blk=loc.blk
 fit:Fit β' w' Im' ⟨[],rs'⟩ #[]
structure Off (l:Nat) (β:Env) (w:World) (Im:Nat->Prop) (rs:Regs):Prop where
 lt:l<w.heap.size
 im:¬ Im l
 reg:∀ d r loc,(d,r)∈rs->β d=some loc->loc.blk≠l
section
variable {l:Nat} {β β1 β2:Env} {w w1 w2:World} {Im Im1 Im2:Nat->Prop} {rs rs1 rs2:Regs}
theorem Fit.regsOnly {s:St} {t:Array Value} (h:Fit β w Im s t):Fit β w Im ⟨[],s.regs⟩ #[] :=
 { size:=rfl,tmps:=fun i m hm=>by simp at hm,regs:=h.regs,nodup:=h.nodup,live:=h.live,apart:=h.apart,im:=h.im }
theorem Trans.refl (h:Fit β w Im ⟨[],rs⟩ #[]):Trans l β w Im rs β w Im rs where
 os:=rfl
 tape:=rfl
 output:=rfl
 size:=Eah _
 block _ _ _ _:=rfl
 imin _ h:=h
 imnew _ h:=.inl h
 env _ _ _:=rfl
 regnew d r loc hd hl:=.inr ⟨d,r,loc,hd,hl,rfl⟩
 fit:=h
theorem Trans.trans (h:Trans l β w Im rs β1 w1 Im1 rs1) (k:Trans l β1 w1 Im1 rs1 β2 w2 Im2 rs2):Trans l β w Im rs β2 w2 Im2 rs2 where
 os:=k.os.trans h.os
 tape:=k.tape.trans h.tape
 output:=k.output.trans h.output
 size:=Nat.le_trans h.size k.size
 block b hb hl hn:=by
  refine (k.block b (Ebe hb h.size) hl fun d r loc hd hβ=>?_).trans (h.block b hb hl hn);rcases h.regnew d r loc hd hβ with g | ⟨d',r',loc',h1,h2,h3⟩
  ·omega
  ·rw[<- h3];exact hn d' r' loc' h1 h2
 imin b hb:=k.imin b (h.imin b hb)
 imnew b hb:=by
  rcases k.imnew b hb with g | g | ⟨d,r,loc,h1,h2,h3⟩
  ·exact h.imnew b g
  ·exact .inr (.inl (Nat.le_trans h.size g))
  ·rcases h.regnew d r loc h1 h2 with g | ⟨d',r',loc',g1,g2,g3⟩
   ·exact .inr (.inl (h3 ▸ g))
   ·exact .inr (.inr ⟨d',r',loc',g1,g2,g3.trans h3⟩)
 env d h1 h2:=(k.env d h1 h2).trans (h.env d h1 h2)
 regnew d r loc hd hl:=by
  rcases k.regnew d r loc hd hl with g | ⟨d',r',loc',h1,h2,h3⟩
  ·exact .inl (Nat.le_trans h.size g)
  ·rcases h.regnew d' r' loc' h1 h2 with g | ⟨d2,r2,loc2,g1,g2,g3⟩
   ·exact .inl (h3 ▸ g)
   ·exact .inr ⟨d2,r2,loc2,g1,g2,g3.trans h3⟩
 fit:=k.fit
theorem Trans.off (h:Trans l β w Im rs β1 w1 Im1 rs1) (o:Off l β w Im rs):Off l β1 w1 Im1 rs1 where
 lt:=Ebe o.lt h.size
 im hi:=by
  rcases h.imnew l hi with g | g | ⟨d,r,loc,h1,h2,h3⟩
  ·exact o.im g
  ·have:=o.lt;omega
  ·exact o.reg d r loc h1 h2 h3
 reg d r loc hd hl:=by
  rcases h.regnew d r loc hd hl with g | ⟨d',r',loc',h1,h2,h3⟩
  ·have:=o.lt;omega
  ·rw[<- h3];exact o.reg d' r' loc' h1 h2
theorem Fit.putOff {s:St} {t:Array Value} (h:Fit β w Im s t) (o:Off l β w Im s.regs) (x:Obj):Fit β (w.putObj l x) Im s t:=by
 have hoth:∀ k,k≠l->(w.putObj l x).heap[k]? = w.heap[k]?:=fun k hk=>World.putObj_heap_other hk
 have hk:Keeps w Im (w.putObj l x) Im:=⟨fun _ h=>h,fun b hb=>hoth b fun e=>o.im (e ▸ hb)⟩
 exact {
     size:=h.size,tmps:=fun i m hm=>(h.tmps i m hm).mono' hk,regs:=fun d r hr=>(h.regs d r hr).mono hk rfl (fun _ _=>rfl) fun loc hl=>hoth _ (o.reg d r loc hr hl),nodup:=h.nodup
     live:=fun d r loc hr hl=>by rw[World.putObj_size];exact h.live d r loc hr hl,apart:=h.apart,im:=fun b hb=>by rw[World.putObj_size];exact h.im b hb }
theorem Trans.put (h:Fit β w Im ⟨[],rs⟩ #[]) (o:Off l β w Im rs) (x:Obj):Trans l β w Im rs β (w.putObj l x) Im rs where
 os:=rfl
 tape:=rfl
 output:=rfl
 size:=by rw[World.putObj_size];exact Eah _
 block k _ hk _:=World.putObj_heap_other hk
 imin _ h:=h
 imnew _ h:=.inl h
 env _ _ _:=rfl
 regnew d r loc hd hl:=.inr ⟨d,r,loc,hd,hl,rfl⟩
 fit:=h.putOff o x
theorem Jxw (h:Fit β w Im ⟨[],rs⟩ #[]) (g:Grow w Im w1 Im1):Trans l β w Im rs β w1 Im1 rs where
 os:=g.os
 tape:=g.tape
 output:=g.output
 size:=g.size
 block k hk _ _:=g.block k hk
 imin:=g.im
 imnew b hb:=(g.new b hb).imp id .inl
 env _ _ _:=rfl
 regnew d r loc hd hl:=.inr ⟨d,r,loc,hd,hl,rfl⟩
 fit:=h.grow g
theorem Jzl {Γ:Base} {s:St} {t:Array Value} (h:RRx Γ β1 Im1 s t w1) (hm:∀ k,Γ.may k->∃ d r loc,(d,r)∈rs/\Γ.β0 d=some loc/\loc.blk=k):Trans l Γ.β0 Γ.W0 Γ.Im0 rs β1 w1 Im1 s.regs where
 os:=h.os
 tape:=h.tape
 output:=h.output
 size:=h.size
 block k hk _ hn:=h.block k hk fun hk=>by obtain ⟨d,r,loc,h1,h2,h3⟩:=hm k hk;exact hn d r loc h1 h2 h3
 imin:=h.imin
 imnew b hb:=(h.imnew b hb).imp id fun h=>h.imp id (hm b)
 env:=h.fixed
 regnew d r loc hd hl:=(h.regnew d r loc hd hl).imp id (hm _)
 fit:=h.fit.regsOnly
theorem Off.same {Γ:Base} {s:St} {t:Array Value} (o:Off l Γ.β0 Γ.W0 Γ.Im0 rs) (h:RRx Γ β1 Im1 s t w1) (hm:∀ k,Γ.may k->∃ d r loc,(d,r)∈rs/\Γ.β0 d=some loc/\loc.blk=k):w1.heap[l]? = Γ.W0.heap[l]? :=
 h.block l o.lt fun hk=>by obtain ⟨d,r,loc,h1,h2,h3⟩:=hm l hk;exact o.reg d r loc h1 h2 h3
theorem Trans.keeps (h:Trans l β w Im rs β1 w1 Im1 rs1) (o:Off l β w Im rs) (hf:Fit β w Im ⟨[],rs⟩ #[]):Keeps w Im w1 Im1 :=
 ⟨h.imin,fun b hb=>h.block b (hf.im b hb) (fun e=>o.im (e ▸ hb)) fun d r loc hd hl e=>(hf.live d r loc hd hl).2 (e ▸ hb)⟩
theorem Trans.ykeep (h:Trans l β w Im rs β1 w1 Im1 rs1) (o:Off l β w Im rs) (hf:Fit β w Im ⟨[],rs⟩ #[]):YKeep w Im w1 Im1 :=
 ⟨h.os,h.tape,h.output,h.size,h.imin,(h.keeps o hf).block,h.fit.im⟩
theorem Trans.step (h:Trans l β w Im rs β1 w1 Im1 rs1) (hl:w1.heap[l]? = w.heap[l]?) (hk:∀ d r,(d,r)∈rs1->d=900\/∃ r0,(d,r0)∈rs):CallStep β w Im rs β1 w1 Im1 rs1 where
 os:=h.os
 tape:=h.tape
 output:=h.output
 size:=h.size
 block k hk hn:=by
  by_cases e:k=l
  ·subst e;exact hl
  ·exact h.block k hk e hn
 imin:=h.imin
 imnew:=h.imnew
 env:=h.env
 keys:=hk
 regnew:=h.regnew
 fit:=h.fit
theorem RRx.putOff {Γ:Base} {s:St} {t:Array Value} (h:RRx Γ β Im s t w) (o:Off l β w Im s.regs) (h0:Γ.W0.heap.size<=l) (hm:l ∉ Γ.marks) (x:Obj):RRx Γ β Im s t (w.putObj l x):=by
 have hoth:∀ k,k≠l->(w.putObj l x).heap[k]? = w.heap[k]?:=fun k hk=>World.putObj_heap_other hk
 have hk:Keeps w Im (w.putObj l x) Im:=⟨fun _ h=>h,fun b hb=>hoth b fun e=>o.im (e ▸ hb)⟩
 exact {
     fit:=h.fit.putOff o x,os:=h.os,tape:=h.tape,output:=h.output,size:=by rw[World.putObj_size];exact h.size,block:=fun k hk' hn=>(hoth k omg).trans (h.block k hk' hn),imin:=h.imin,imnew:=h.imnew,regnew:=h.regnew,fixed:=h.fixed
     glob:=Γ.mono hk h.glob,mnod:=h.mnod,marks:=fun D hD=>by obtain ⟨m1,m2,m3,m4⟩:=h.marks D hD;exact ⟨(hoth D fun e=>hm (e ▸ hD)).trans m1,m2,m3,m4⟩ }
end
def TFit (β:Env) (w:World) (Im:Nat->Prop) (ls:List L) (t:Array Value):Prop:=t.size=ls.length/\∀ i m,ls[i]? = some m->LRep β w Im (t.getD i undef) m
def J0w:List Tmp->List PV->List L->List L
 | p :: ps,x :: xs,t=>J0w ps xs (t.set p (.p x))
 | _,_,t=>t
theorem TFit.set {β:Env} {w:World} {Im:Nat->Prop} {ls:List L} {t:Array Value} (h:TFit β w Im ls t) (p:Tmp) {v:Value} {x:PV} (hv:PRep w Im v x):TFit β w Im (ls.set p (.p x)) (t.setIfInBounds p v):=by
 refine ⟨by simp[h.1],fun i m hm=>?_⟩;rw[Ebr] at hm;by_cases hd:p=i
 ·subst hd;rw[if_pos rfl] at hm;split at hm
  ·cases hm;rename_i hlt;have:p<t.size:=by rw[h.1];exact hlt
   simp[Eav,this];exact hv
  ·cases hm
 ·rw[if_neg hd] at hm;have:=h.2 i m hm;simpa[Eav,Eb8,hd] using this
theorem J0n {β:Env} {w:World} {Im:Nat->Prop}:∀ (ps:List Tmp) (xs:List PV) (us:List Value) (ls:List L) (t:Array Value),TFit β w Im ls t->Jh6 w Im us xs->TFit β w Im (J0w ps xs ls) ((ps.zip us).foldl (fun t (p,v)=>t.setIfInBounds p v) t)
 | [],_,_,ls,t,h,_=>h
 | p :: ps,[],us,ls,t,h,hv=>by
  have:us=[]:=Ean (by simpa using hv.1);subst this;exact h
 | p :: ps,x :: xs,us,ls,t,h,hv=>by
  match us,hv with
  | u :: us,hv =>
   exact J0n ps xs us _ _ (h.set p (hv.2 0 u x rfl rfl)) ⟨by simpa using hv.1,fun i v p h1 h2=>hv.2 (i+1) v p h1 h2⟩
theorem Kfm {β:Env} {w:World} {Im:Nat->Prop} {ls:List L} {t:Array Value} {rs:Regs} (h:TFit β w Im ls t) (k:Fit β w Im ⟨[],rs⟩ #[]):Fit β w Im ⟨ls,rs⟩ t :=
 { k with size:=h.1,tmps:=h.2 }
def lwpA (X:Cx):Code->(St->Prop)->St->Prop
 | .skip,K,s=>K s
 | .region _ ops draw,K,s=>match draw with
  | false=>lops X (ops.toList.map (·.dst)) ops.toList K s
  | true=>False
 | .seq a b,K,s=>lwpA X a (lwpA X b K) s
 | _,_,_=>False
section
variable {X:Cx} {Γ:Base} {ro:Option Nat}
theorem J6 {ms:List Nat} {ops:Array Oper} {K:St->Prop} {Q:Exit->Act->World->Prop} {n:Nat} (hG:Γ.G=X.G) (hQ:∀ s a w,K s->RRm Γ ms s a w->Q .normal a w):∀ (os:List Oper) (i:Nat),(∀ j,os[j]? = ops[i+j]?)->∀ (s:St) (a:Act) (w:World),RRm Γ ms s a w ->
  lops X (ops.toList.map (·.dst)) os K s->wpOpsIn (F0 ro) n X.P ops Q (List.range' i os.length) a w
 | [],i,_,s,a,w,h,hl=>by simpa[wpOpsIn] using hQ s a w hl h
 | o :: os,i,hi,s,a,w,h,hl=>by
  have h0:ops[i]? = some o:=by simpa using (hi 0).symm
  have hi':∀ j,os[j]? = ops[i+1+j]?:=fun j=>by have:=hi (j+1);simpa[Eb2,Ecw 1 j] using this
  simp only[Ead,List.range'_succ,wpOpsIn,h0];simp only[lops] at hl;obtain ⟨s',h',hc⟩:=Gb h.rr hl;have hm:RRm Γ ms s' a w:=by
   obtain ⟨ms',h1,h2⟩:=h';have:ms'=ms:=by
    have e:=h1.symm.trans h.1;have inj:∀ (x y:List Nat),x.map F6=y.map F6->x=y:=by
     intro x
     induction x with
     | nil=>intro y hy;cases y<;>first|rfl | cases hy
     | cons a x ih =>
      intro y hy;cases y with
      | nil=>cases hy
      | cons b y =>
       simp only[Eaq,Ec7] at hy;have e1:a=b:=by
        have:=congrArg Deferred.target hy.1;simpa[F6] using this
       rw[e1,ih y hy.2]
    exact inj _ _ e
   subst this;exact ⟨h1,h2⟩
  rcases hc with ⟨hA,hw⟩ | ⟨hB,hw⟩
  ·rw[if_pos (hw o rfl)];exact Oper.wpIn_mono (fun a' w' ⟨s2,hs2,hr2⟩=>J6 hG hQ os (i+1) hi' s2 a' w' hr2 hs2) (Lm hG hm hA)
  ·rw[if_neg (by rw[hw o rfl];simp)];obtain ⟨hdef,β,Im,hx⟩:=hm;exact ⟨fun _ _=>trivial,J6 hG hQ os (i+1) hi' _ _ w ⟨Bf hdef,β,Im,hx.put o.dst H0⟩ hB⟩
theorem Lj {ms:List Nat} (hG:Γ.G=X.G):∀ (c:Code) (K:St->Prop) (s:St) (a:Act) (w:World),RRm Γ ms s a w->lwpA X c K s->c.wpIn (F0 ro) 1 X.P (Exit.then (fun a w=>∃ s,K s/\RRm Γ ms s a w) (fun _ _ _=>False)) a w
 | .skip,K,s,a,w,hr,h=>wpIn_skip ⟨s,h,hr⟩
 | .region id ops false,K,s,a,w,hr,h=>by
  refine wpIn_region ?_;have:=J6 (X:=X) (Γ:=Γ) (ro:=ro) (n:=1) (ops:=ops) (K:=K) (Q:=Exit.then (fun a w=>∃ s,K s/\RRm Γ ms s a w) (fun _ _ _=>False)) hG (fun s a w h1 h2=>⟨s,h1,h2⟩) ops.toList 0 sm s a w hr h;rw[Array.length_toList] at this;rw[List.range_eq_range'];exact this
 | .region id ops true,K,s,a,w,hr,h=>h.elim
 | .seq x y,K,s,a,w,hr,h=>by
  simp only[lwpA] at h;refine wpIn_seq (wpIn_mono (Lj hG x _ s a w hr h) fun e a w hq=>?_);cases e with
  | normal=>obtain ⟨s',h1,h2⟩:=hq;exact Lj hG y K s' a w h2 h1
  | exit id=>exact hq.elim
  | ret=>exact hq.elim
  | goto l=>exact hq.elim
  | panic c=>exact hq.elim
  | outgrown=>exact hq.elim
 | .cond ..,_,_,_,_,_,h=>h.elim
 | .block ..,_,_,_,_,_,h=>h.elim
 | .loop ..,_,_,_,_,_,h=>h.elim
 | .exit ..,_,_,_,_,_,h=>h.elim
 | .ret,_,_,_,_,_,h=>h.elim
 | .label ..,_,_,_,_,_,h=>h.elim
 | .rangeFunc ..,_,_,_,_,_,h=>h.elim
 | .scope ..,_,_,_,_,_,h=>h.elim
 | .goto ..,_,_,_,_,_,h=>h.elim
 | .refuse ..,_,_,_,_,_,h=>h.elim
end
def Vm (n:Nat) (rn:List (Nat×Nat)) (Inv:Nat->Regs->Prop) (Stop:Ex->Regs->Prop) (k:Nat):Ex->St->Prop
 | .normal,s=>∃ R,Inv (k+1) R/\(Du rn s).Le ⟨Ba n [],R⟩
 | .exit id,s=>∃ R,Stop (.exit id) R/\(Du rn s).Le ⟨Ba n [],R⟩
 | .ret,s=>∃ R,Stop .ret R/\(Du rn s).Le ⟨Ba n [],R⟩
def codeOf:Ex->Option Code
 | .normal=>none
 | .exit id=>some (.exit id)
 | .ret=>some .ret
section
variable {X:Cx}
theorem RoundIn.room {l n m:Nat} {P:Program} {f:FuncId} {tmps:Array Value} {assign body:Code} {w:World} {R:Ending->World->Prop} (h:RoundIn (F0 none) n P l f tmps assign body w R):RoundIn (F0 none) m P l f tmps assign body w R :=
 ⟨h.1,fun c cs _=>h.2 c cs fun d hd=>by simp[F0] at hd⟩
theorem Ws {w:World} {l:Nat} {x y:Obj}:(w.putObj l x).putObj l y=w.putObj l y:=by
 unfold World.putObj;simp
theorem Z4 {Γ:Base} {β:Env} {Im:Nat->Prop} {s:St} {tmps:Array Value} {w:World} (h:RRx Γ β Im s tmps w) {d:Nat} {T:TypeId} {cs:List L} {ps:List PV} {loc:Loc} (hd:Am d s.regs=some (.var T cs)) (hp:Bg L.pure? cs=some ps) (hβ:β d=some loc) :
  LRep (fun _=>none) w (fun b=>Im b\/∃ loc,β d=some loc/\b=loc.blk) (.pointer (some ⟨loc.blk,0,none⟩)) (.eptr ps):=by
 obtain ⟨loc',cur,hβ',g2,g3,g4,g5,g6⟩:=h.fit.regs d _ (Ax hd);rw[hβ] at hβ';cases hβ';obtain ⟨hlen,hsp⟩:=Bh hp;have hk:Keeps w Im w (fun b=>Im b\/∃ loc,β d=some loc/\b=loc.blk):=⟨fun b hb=>.inl hb,fun _ _=>rfl⟩
 refine ⟨loc.blk,0,.inr ⟨loc,hβ,rfl⟩,rfl,fun j=>cur.getD j undef,fun j hj=>?_,fun j p hj=>?_⟩
 ·have hjc:j<cur.length:=by omega
  have e:w.heap[loc.blk]? = some (.cells ⟨cur⟩ T (0,0)):=g4;simp[World.cell?,e,hjc]
 ·obtain ⟨c,hc⟩:=getElem?_of_length hlen hj;obtain ⟨v,hv⟩:=getElem?_of_length g5 hc;have h1:=hsp j c p hc hj;have h2:=pure?_spec h1;subst h2;obtain ⟨r1,r2⟩:=g6 j v _ hv hc;refine ⟨?_,?_⟩
  ·have:cur.getD j undef=v:=by simp[Eaj,hv]
   show PRep w _ (cur.getD j undef) p;rw[this];exact PRep.mono hk r1
  ·rcases r2 with r2 | r2
   ·exact r2
   ·cases r2
theorem SWP.rangeFunc {ro:Option Nat} {g:Operand} {ps:Array Tmp} {assign body:Code} {Q:Ex->St->Prop} {s s1:St} {f d:Nat} {T:TypeId} {cs:List L} {pcs:List PV} (xs:List (List PV)) (n:Nat) (rn:List (Nat×Nat)) (hrn:∀ x∈rn,x.2<1000\/500000<=x.2) (Inv:Nat->Regs->Prop) (Stop:Ex->Regs->Prop)
  (hg:s.get g=.fn f [d]) (hd:Am d s.regs=some (.var T cs)) (hp:Bg L.pure? cs=some pcs) (hi:Tb X f [.eptr pcs] xs) (hs1:Dx d (some .gone) s=s1)
  (hn:s1.tmps.length=n) (hsm:s1.regs.length<=1000) (hps:∀ x∈xs,x.length=ps.size)
  (h0:Inv 0 (Cz (rnOf 0 s1.regs) s1.regs))
  (hkI:∀ k R,Inv k R->∀ e r,(e,r)∈R->e=900\/findKey e (Cz (rnOf 0 s1.regs) s1.regs)=true) (hkS:∀ x R,Stop x R->∀ e r,(e,r)∈R->e=900\/findKey e (Cz (rnOf 0 s1.regs) s1.regs)=true) (hSn:∀ R,¬ Stop .normal R)
  (round:∀ k x R l,xs[k]? = some x->Inv k R->lwpA X assign (fun s2=>SWP X (some l) body (Vm n rn Inv Stop k) s2) ⟨J0w ps.toList x (s1.tmps.map (L.map (Mq (rnOf 0 s1.regs)))),R⟩)
  (done:∀ R,Inv xs.length R->Q .normal (s1.after (rnOf 0 s1.regs) (Ek none R) R))
  (stop:∀ x R,Stop x R->Q x (s1.after (rnOf 0 s1.regs) (Ek none R) R)):SWP X ro (.rangeFunc g ps assign body) Q s:=by
 intro Γ a w hG hr;obtain ⟨ms,hdef,β,Im,hx⟩:=hr;have hgv:=A2 hx.fit g;rw[hg] at hgv;obtain ⟨vs,hgv,hvl,hvs⟩:=hgv;obtain ⟨v,rfl⟩:∃ v,vs=[v]:=by
  match vs,hvl with
  | [v],_=>exact ⟨v,rfl⟩
 obtain ⟨loc,hβ,rfl⟩:=hvs 0 v d rfl rfl;have hx1:=hx.freezeZ d .gone trivial _ (Ax hd);rw[hs1] at hx1;have hcap:=Z4 hx hd hp hβ;generalize (fun b=>Im b\/∃ loc,β d=some loc/\b=loc.blk)=I1 at hx1 hcap;have hρ:=Jmr hsm hx1.fit.nodup;generalize hρe:rnOf 0 s1.regs=ρ at *
 refine wpIn_rangeFunc fun fn hfn=>?_
 obtain ⟨l,mk,W1,dv,hent,gr,hlW,hll,hmk,hmn⟩:∃ (l:Nat) (mk:List Nat) (W1:World) (dv:Nat),
   (Instr.enterLoop fn a.tmps ps assign body (F0 ro).round).run X.P w=.ok (l,mk.map F6) W1/\Grow w I1 W1 I1/\W1.heap[l]? = some (.loop { state:=.ready,pending:=none,fn,tmps:=a.tmps,params:=ps,assign,body,defers:=dv })/\w.heap.size<=l /\
   (∀ D∈mk,W1.heap[D]? = some (.deferred (some []))/\w.heap.size<=D/\D≠l)/\mk.Nodup:=by
  cases ro with
  | none =>
   have g1:=Grow.alloc (w:=w) (Im:=I1) hx1.fit.im (.deferred (some []));refine ⟨w.heap.size+1,[w.heap.size],_,w.heap.size,run_enterLoop_outer _ _ _ _ _,g1.trans (Grow.alloc (w:=w.alloc (.deferred (some []))) (Im:=I1) g1.lt _),?_,Nat.le_succ _,fun D hD=>?_,by simp⟩
   ·have:=World.alloc_heap_new (w.alloc (.deferred (some []))) (.loop { state:=.ready,pending:=none,fn,tmps:=a.tmps,params:=ps,assign,body,defers:=w.heap.size })
    rwa[World.size_alloc] at this
   ·rw[Ea0] at hD;subst hD;exact ⟨(Below.heap_alloc _ _ _ sm).trans (World.alloc_heap_new w _),Eah _,omg⟩
  | some l0 =>
   obtain ⟨⟨r0,h1⟩,h2⟩:=hG.2 l0 rfl;have h3:w.heap[l0]? = some (.loop r0):=(hx.block l0 (Ea7.1 h1).1 h2).trans h1;exact ⟨w.heap.size,[],_,r0.defers,run_enterLoop_inner h3 _ _ _ _ _,Grow.alloc (w:=w) (Im:=I1) hx1.fit.im _,World.alloc_heap_new w _,Eah _,fun D hD=>(by cases hD),.nil⟩
 obtain ⟨rec,hrec⟩:∃ rec:LoopState->Option Code->Loop,rec=fun st pe=>{ state:=st,pending:=pe,fn,tmps:=a.tmps,params:=ps,assign,body,defers:=dv }:=⟨_,rfl⟩
 have hlW:W1.heap[l]? = some (.loop (rec .ready none)):=by rw[hrec];exact hlW
 have hx2:=hx1.grow gr;have hlive:∀ e r loc,(e,r)∈s1.regs->β e=some loc->loc.blk<w.heap.size:=fun e r loc h1 h2=>(hx1.fit.live e r loc h1 h2).1
 have hx3:RRx (Γ.wm (mk ++ ms)) β I1 s1 a.tmps W1:=by
  have hDms:∀ D∈mk,D ∉ ms:=fun D hD h=>by
   have:=(Ea7.1 (hx1.marks D h).1).1;have:=(hmk D hD).2.1;omega
  refine { fit:=hx2.fit,os:=hx2.os,tape:=hx2.tape,output:=hx2.output,size:=hx2.size,block:=hx2.block,imin:=hx2.imin,imnew:=hx2.imnew,regnew:=hx2.regnew,fixed:=hx2.fixed,glob:=hx2.glob,mnod:=Eck.2 ⟨hmn,hx2.mnod,fun D hD E hE e=>hDms D hD (e ▸ hE)⟩,marks:=fun E hE=>?_ };rcases Eax.1 hE with hE | hE
  ·obtain ⟨m1,m2,_⟩:=hmk E hE;exact ⟨m1,fun h=>by have:=hx1.fit.im _ h;omega,Nat.le_trans hx1.size m2,fun e r loc h1 h2=>by have:=hlive e r loc h1 h2;omega⟩
  ·exact hx2.marks E hE
 obtain ⟨rs0,hrs0⟩:∃ rs0,rs0=Cz ρ s1.regs:=⟨_,rfl⟩
 rw[<- hrs0] at h0 hkI hkS;have fit0:Fit (Ky ρ β) W1 I1 ⟨[],rs0⟩ #[]:=by
  have:=hx2.fit.call hρ (args:=[]) (vs:=[]) rfl (fun i v m h=>by simp at h);rw[hrs0];exact this
 have tf0:TFit (Ky ρ β) W1 I1 (s1.tmps.map (L.map (Mq ρ))) a.tmps:=by
  refine ⟨by simp[hx2.fit.size],fun i m hm=>?_⟩;rw[Eam] at hm;obtain ⟨m',h1,rfl⟩:=Eal.1 hm;exact (hx2.fit.tmps i m' h1).map fun d n hd=>Kj6 hρ (Zz hd).1
 have off0:Off l (Ky ρ β) W1 I1 rs0:=by
  refine ⟨(Ea7.1 hlW).1,fun h=>by have:=hx1.fit.im _ h;omega,fun e r loc h1 h2=>?_⟩;rw[hrs0] at h1;obtain ⟨e',r',g1,g2,_⟩:=Dd h1;rw[Kj6 hρ g2] at h2;have:=hlive e' r' loc g1 h2;omega
 generalize hβ0:Ky ρ β=β0 at *
 obtain ⟨J,hJe⟩:∃ J:Gh,J=fun k w' I'=>match k with
  | some k=>∃ β' R,Inv k R/\Trans l β0 W1 I1 rs0 β' w' I' R/\w'.heap[l]? = some (.loop (rec .ready none))
  | none=>∃ β' R x c,Stop x R/\codeOf x=some c/\Trans l β0 W1 I1 rs0 β' w' I' R/\w'.heap[l]? = some (.loop (rec .done (some c))):=⟨_,rfl⟩
 have hJ:JOK J:=by
  intro k w' I' w2 I2 hlt hj hg';subst hJe;cases k with
  | some k =>
   obtain ⟨β',R,h1,h2,h3⟩:=hj;exact ⟨β',R,h1,h2.trans (Jxw h2.fit hg'),(hg'.block l (Ea7.1 h3).1).trans h3⟩
  | none =>
   obtain ⟨β',R,x,c,h1,hc,h2,h3⟩:=hj;exact ⟨β',R,x,c,h1,hc,h2.trans (Jxw h2.fit hg'),(hg'.block l (Ea7.1 h3).1).trans h3⟩
 have hY:YOK X l J xs:=by
  intro k x hk w' I' us hj hglob hlt hrep;have hj':=hj;subst hJe;obtain ⟨β',R,hInv,hT,hl'⟩:=hj';have hxl:x.length=ps.size:=hps x (Eag hk);have hy:=run_yield (P:=X.P) (args:=(⟨us⟩:Array Value)) hl' (by rw[hrec];simp only[List.size_toArray];rw[hrep.1];exact hxl);rw[hrec] at hy;have off1:=hT.off off0;have hkp:=hT.keeps off0 fit0;have tf1:TFit β' w' I' (s1.tmps.map (L.map (Mq ρ))) a.tmps:=by
   refine ⟨tf0.1,fun i m hm=>(tf0.2 i m hm).mono hkp fun e he=>?_⟩;rw[Eam] at hm;obtain ⟨m',h1,rfl⟩:=Eal.1 hm;obtain ⟨e',he'⟩:=V3 he;obtain ⟨u1,u2⟩:=Zz he';exact hT.env e (hρ.ge e' e u1) u2
  have tf2:=J0n ps.toList x us _ _ tf1 hrep;refine ⟨fn,_,assign,body,hy,RoundIn.room (n:=1) (roundIn_of_wpIn hfn ?_)⟩;have hr1:RRm ⟨w',β',I',fun k=>∃ d r loc,(d,r)∈R/\β' d=some loc/\loc.blk=k,[],X.G,X.mono⟩ [] ⟨J0w ps.toList x (s1.tmps.map (L.map (Mq ρ))),R⟩ { tmps:=(ps.zip ⟨us⟩).foldl (fun t (p,v)=>t.setIfInBounds p v) a.tmps,defers:=[] } w':=by
   have e:(ps.zip ⟨us⟩).foldl (fun t (p,v)=>t.setIfInBounds p v) a.tmps=(ps.toList.zip us).foldl (fun t (p,v)=>t.setIfInBounds p v) a.tmps:=by
    rw[<- Array.foldl_toList,Array.toList_zip]
   refine ⟨rfl,β',I',?_⟩;simp only[e];exact {
       fit:=Kfm tf2 hT.fit,os:=rfl,tape:=rfl,output:=rfl,size:=Eah _,block:=fun _ _ _=>rfl,imin:=fun _ h=>h,imnew:=fun _ h=>.inl h,regnew:=fun d r loc hd hl=>.inr ⟨d,r,loc,hd,hl,rfl⟩,fixed:=fun _ _ _=>rfl
       glob:=hglob,marks:=fun D hD=>(by cases hD),mnod:=.nil }
  refine wpIn_mono (show assign.wpIn (F0 (some l)) 1 X.P _ _ _ from Lj (Γ:=⟨w',β',I',fun k=>∃ d r loc,(d,r)∈R/\β' d=some loc/\loc.blk=k,[],X.G,X.mono⟩) rfl assign _ _ _ _ hr1 (round k x R l hk hInv)) fun e a1 w1 hq=>?_
  cases e with
  | exit id=>exact hq.elim
  | ret=>exact hq.elim
  | goto l=>exact hq.elim
  | panic c=>exact hq.elim
  | outgrown=>exact hq.elim
  | normal =>
  obtain ⟨s2,hb2,hd1,β1,Ia,hxa⟩:=hq;have T1:Trans l β' w' I' R β1 w1 Ia s2.regs:=by have:=Jzl (l:=l) (rs:=R) hxa (fun _ h=>h);exact this
  have hl1:w1.heap[l]? = some (.loop (rec .ready none)):=(Off.same (rs:=R) off1 hxa (fun _ h=>h)).trans hl';have off2:=T1.off off1;have hlt1:=off2.lt;refine ⟨_,run_beginRound hl1 (by rw[hrec]),?_⟩;obtain ⟨w2,hw2⟩:∃ w2,w1.putObj l (.loop { rec .ready none with state:=.busy })=w2:=⟨_,rfl⟩
  rw[hw2];have hl2:w2.heap[l]? = some (.loop { rec .ready none with state:=.busy }):=by rw[<- hw2];exact World.putObj_heap_same hlt1
  have T2:Trans l β1 w1 Ia s2.regs β1 w2 Ia s2.regs:=by rw[<- hw2];exact Trans.put hxa.fit.regsOnly off2 _
  have off3:=T2.off off2;have hr2:RR ⟨w2,β1,Ia,fun k=>∃ d r loc,(d,r)∈s2.regs/\β1 d=some loc/\loc.blk=k,[],X.G,X.mono⟩ s2 a1 w2:=by
   refine ⟨[],hd1,β1,Ia,?_⟩;exact {
       fit:=by rw[<- hw2];exact hxa.fit.putOff off2 _,os:=rfl,tape:=rfl,output:=rfl,size:=Eah _,block:=fun _ _ _=>rfl,imin:=fun _ h=>h,imnew:=fun _ h=>.inl h,regnew:=fun d r loc hd hl=>.inr ⟨d,r,loc,hd,hl,rfl⟩,fixed:=fun _ _ _=>rfl
       glob:=X.mono (T2.keeps off2 hxa.fit.regsOnly) hxa.glob,marks:=fun D hD=>(by cases hD),mnod:=.nil }
  refine wpIn_mono (show body.wpIn (F0 (some l)) 1 X.P _ _ _ from hb2 _ a1 w2 ⟨rfl,fun l' h=>by cases h;exact ⟨⟨_,hl2⟩,fun ⟨d,r,loc,h1,h2,h3⟩=>off3.reg d r loc h1 h2 h3⟩⟩ hr2) fun e a3 w3 hq=>?_
  have fin:∀ (R':Regs) (jump:Option Code) (s3:St),s3.Le ⟨Ba n [],R'⟩->RR ⟨w2,β1,Ia,fun k=>∃ d r loc,(d,r)∈s2.regs/\β1 d=some loc/\loc.blk=k,[],X.G,X.mono⟩ s3 a3 w3 ->
    ∃
     β3 I3,(Instr.endRound l jump).run X.P w3=.ok (.bool jump.isNone) (w3.putObj l (.loop (rec (if jump.isNone then .ready else .done) jump)))/\YKeep w' I' (w3.putObj l (.loop (rec (if jump.isNone then .ready else .done) jump))) I3 /\
     Trans l β0 W1 I1 rs0 β3 (w3.putObj l (.loop (rec (if jump.isNone then .ready else .done) jump))) I3 R'/\(w3.putObj l (.loop (rec (if jump.isNone then .ready else .done) jump))).heap[l]? = some (.loop (rec (if jump.isNone then .ready else .done) jump)):=by
   intro R' jump s3 hle hr3;obtain ⟨ms3,_,β3,I3,hx3'⟩:=hle _ _ _ hr3;have T3:Trans l β1 w2 Ia s2.regs β3 w3 I3 R':=by have:=Jzl (l:=l) (rs:=s2.regs) hx3' (fun _ h=>h);exact this
   have hl3:w3.heap[l]? = some (.loop { rec .ready none with state:=.busy }):=(Off.same (rs:=s2.regs) off3 hx3' (fun _ h=>h)).trans hl2;have off4:=T3.off off3;have T4:=Trans.put T3.fit off4 (.loop (rec (if jump.isNone then .ready else .done) jump));have Tall:=T1.trans (T2.trans (T3.trans T4));refine ⟨β3,I3,?_,Tall.ykeep off1 hT.fit,hT.trans Tall,World.putObj_heap_same off4.lt⟩;have:=run_endRound (P:=X.P) jump hl3;rw[hrec] at this ⊢;exact this
  cases e with
  | normal =>
   obtain ⟨s3,⟨R',hI',hle⟩,hr3⟩:=hq;obtain ⟨β3,I3,g1,g2,g3,g4⟩:=fin R' none s3 ((B1 rn s3 hrn).trans hle) hr3;exact ⟨_,_,g1,I3,g2,.inl ⟨rfl,β3,R',hI',g3,g4⟩⟩
  | exit id =>
   obtain ⟨s3,⟨R',hI',hle⟩,hr3⟩:=hq;obtain ⟨β3,I3,g1,g2,g3,g4⟩:=fin R' (some (.exit id)) s3 ((B1 rn s3 hrn).trans hle) hr3;exact ⟨_,_,g1,I3,g2,.inr ⟨rfl,β3,R',.exit id,.exit id,hI',rfl,g3,g4⟩⟩
  | ret =>
   obtain ⟨s3,⟨R',hI',hle⟩,hr3⟩:=hq;obtain ⟨β3,I3,g1,g2,g3,g4⟩:=fin R' (some .ret) s3 ((B1 rn s3 hrn).trans hle) hr3;exact ⟨_,_,g1,I3,g2,.inr ⟨rfl,β3,R',.ret,.ret,hI',rfl,g3,g4⟩⟩
  | goto l=>exact hq.elim
  | panic c=>exact hq.elim
  | outgrown=>exact hq.elim
 have back:∀ (R:Regs) (β':Env) (w3:World) (I3:Nat->Prop),(∀ e r,(e,r)∈R->e=900\/findKey e rs0=true)->Trans l β0 W1 I1 rs0 β' w3 I3 R->w3.heap[l]? = some (.loop (rec .ready none)) ->
   ∀ o,RR Γ (s1.after ρ (Ek none R) R) { a with defers:=mk.map F6 ++ a.defers } (w3.putObj l o):=by
  intro R β' w3 I3 hk hT hl3 o;have hstep:CallStep β0 W1 I1 rs0 β' w3 I3 R:=hT.step (hl3.trans hlW.symm) fun e r he=>(hk e r he).imp id fun h=>Jn.1 h
  rw[hrs0,<- hβ0] at hstep;have hcalled:=hx3.called hρ (nw:=Ek none R) (fun e he=>by
    unfold Ek at he;split at he
    ·cases he;decide
    ·cases he) (fun he=>by
    unfold Ek at he;split at he
    ·cases he
    ·assumption) hstep
  have hlD:l ∉ mk ++ ms:=by
   intro h;rcases Eax.1 h with h | h
   ·exact (hmk l h).2.2 rfl
   ·have:=(hx1.marks l h).1;have:=(Ea7.1 this).1;omega
  have hoff:Off l (C3 ρ (Ek none R) β β') w3 I3 (s1.after ρ (Ek none R) R).regs:=by
   have o3:=hT.off off0;refine ⟨o3.lt,o3.im,fun e r loc h1 h2=>?_⟩;intro e';have hRep:=hcalled.fit.regs e r h1;have h3:w3.heap[loc.blk]? = some (.loop (rec .ready none)):=by rw[e'];exact hl3
   rcases Eax.1 h1 with h1 | h1
   ·obtain ⟨hne,r9,h9,rfl⟩:=J5 h1;have:β' 900=some loc:=by simpa[C3,hne] using h2
    exact o3.reg 900 r9 loc h9 this e'
   ·obtain ⟨hne,hq⟩:=Dt h1;rcases hq with ⟨m,r',r0,k1,k2,k3,rfl⟩ | ⟨k1,r0,k2,rfl⟩
    ·have:β' m=some loc:=by simpa[C3,hne,k1] using h2
     exact o3.reg m r' loc k2 this e'
    ·have:β e=some loc:=by simpa[C3,hne,k1] using h2
     have:=hlive e r0 loc k2 this;omega
  exact ⟨mk ++ ms,by simp[hdef],_,_,hcalled.putOff hoff (Nat.le_trans hx1.size hll) hlD o⟩
 refine ⟨l,mk.map F6,W1,{ target:=.fn (.func f) ⟨[.pointer (some ⟨loc.blk,0,none⟩)]⟩,args:=#[.func (.yield l) #[] #[]] },W1,f,#[.func (.yield l) #[] #[]] ++ ⟨[.pointer (some ⟨loc.blk,0,none⟩)]⟩,W1,?_,?_,?_,?_,fun h=>by simp[F0] at h,?_⟩
 ·exact hent
 ·simp only[resolve,hgv];simp[go_sem]
 ·intro f' hf';trivial
 ·simp[invoke,hi.1 _ _]
 ·refine Yt (Calls.mono (hi.2 l J hJ hY I1 W1 [.pointer (some ⟨loc.blk,0,none⟩)] (hG.1 ▸ hx2.glob) hx2.fit.im (by subst hJe;exact ⟨β0,rs0,h0,Trans.refl fit0,hlW⟩) rfl (fun i v m h1 h2=>by
   match i,h1,h2 with
   | 0,h1,h2=>cases h1;cases h2;exact hcap.mono' ⟨fun _ h=>h,fun b hb=>gr.block b (hx1.fit.im b hb)⟩
   | i+1,h1,h2=>simp at h1)) fun e w3 ⟨v,I3,he,_,hj⟩=>?_)
  subst he;rcases hj with hj | hj
  ·subst hJe;obtain ⟨β',R,hInv,hT,hl3⟩:=hj;have hend:=run_endLoop (P:=X.P) hl3 (by rw[hrec];simp);refine ⟨_,_,hend,?_⟩;rw[hrec];exact ⟨_,done R hInv,back R β' w3 I3 (hkI _ R hInv) hT hl3 _⟩
  ·subst hJe;obtain ⟨β',R,x,c,hSt,hc,hT,hl3⟩:=hj;have hend:=run_endLoop (P:=X.P) hl3 (by rw[hrec];simp);refine ⟨_,_,hend,?_⟩;have off3:=hT.off off0;have T4:=hT.trans (Trans.put hT.fit off3 (.loop (rec .ready none)));have hb:=back R β' (w3.putObj l (.loop (rec .ready none))) I3 (hkS x R hSt) T4 (World.putObj_heap_same off3.lt) (.loop { rec .done (some c) with state:=.exhausted });rw[Ws] at hb;have hq:=stop x R hSt;rw[hrec] at hb ⊢;cases x with
   | normal=>exact absurd hSt (hSn R)
   | exit id=>cases hc;exact wpIn_exit ⟨_,hq,hb⟩
   | ret=>cases hc;exact wpIn_ret ⟨_,hq,hb⟩
end
def Jbx (x:PV):Option (List PV)->Option (List PV)
 | some xs=>some (x :: xs)
 | none=>none
def fixN:Option Nat->Option Nat
 | some n=>if n<500000 then some n else none
 | none=>none
section
variable {X:Cx} {xs:List (List PV)} {l:Nat} {Q:Ex->Option Nat->St->Prop} {K:Option Nat->St->Prop} {n:Option Nat} {t:List L} {r:Regs} {ds:List (Option Tmp)} {rest:List Oper} {dst:Option Tmp} {ty:TypeId} {ps:String} {af:Array Edge} {g:Option (Nat×Bool)} {k:Nat}
theorem j_skip:jwp X xs l .skip Q n ⟨t,r⟩=Q .normal n ⟨t,r⟩:=(rfl)
theorem Jla {id:Nat} {ops:Array Oper}:jwp X xs l (.region id ops false) Q n ⟨t,r⟩=jops X xs l (ops.toList.map (·.dst)) ops.toList (Q .normal) n ⟨t,r⟩:=(rfl)
theorem j_seq {a b:Code}:jwp X xs l (a.seq b) Q n ⟨t,r⟩=jwp X xs l a (jseq (jwp X xs l b) Q) n ⟨t,r⟩:=(rfl)
theorem j_cond {c:Operand} {a b:Code}:jwp X xs l (.cond c a b) Q n ⟨t,r⟩=O0 ((St.mk t r).get c) (jwp X xs l a Q n) (jwp X xs l b Q n) ⟨t,r⟩:=(rfl)
theorem Jpw {id:Nat} {c:Code}:jwp X xs l (.block id c) Q n ⟨t,r⟩=jwp X xs l c (Oe id Q) n ⟨t,r⟩:=(rfl)
theorem j_loop {c:Code}:jwp X xs l (.loop c) Q n ⟨t,r⟩=JWP X xs l (.loop c) Q n ⟨t,r⟩:=(rfl)
theorem j_exit {id:Nat}:jwp X xs l (.exit id) Q n ⟨t,r⟩=Q (.exit id) n ⟨t,r⟩:=(rfl)
theorem j_ret:jwp X xs l .ret Q n ⟨t,r⟩=Q .ret n ⟨t,r⟩:=(rfl)
theorem Jht {B:(Ex->Option Nat->St->Prop)->Option Nat->St->Prop}:jseq B Q .normal n ⟨t,r⟩=B Q n ⟨t,r⟩:=(rfl)
theorem Jpj {B:(Ex->Option Nat->St->Prop)->Option Nat->St->Prop} {id:Nat}:jseq B Q (.exit id) n ⟨t,r⟩=Q (.exit id) n ⟨t,r⟩:=(rfl)
theorem ks_ret {B:(Ex->Option Nat->St->Prop)->Option Nat->St->Prop}:jseq B Q .ret n ⟨t,r⟩=Q .ret n ⟨t,r⟩:=(rfl)
theorem Jff {id:Nat}:Oe id Q .normal n ⟨t,r⟩=Q .normal n ⟨t,r⟩:=(rfl)
theorem Jpc {id id':Nat}:Oe id Q (.exit id') n ⟨t,r⟩=if id'=id then Q .normal n ⟨t,r⟩ else Q (.exit id') n ⟨t,r⟩:=(rfl)
theorem kb_ret {id:Nat}:Oe id Q .ret n ⟨t,r⟩=Q .ret n ⟨t,r⟩:=(rfl)
theorem jo_nil:jops X xs l ds [] K n ⟨t,r⟩=K n ⟨t,r⟩:=(rfl)
theorem Jnj {op:Op}:jops X xs l ds (⟨dst,op,ty,ps,af,none⟩ :: rest) K n ⟨t,r⟩=jop X xs l ⟨dst,op,ty,ps,af,none⟩ (jops X xs l ds rest K) n ⟨t,r⟩:=(rfl)
theorem Jpd {f:Operand} {args:Array Operand} {ats:Array TypeId}:jop X xs l ⟨dst,.call { callee:=.value f,args:=args,argTypes:=ats },ty,ps,af,g⟩ K n ⟨t,r⟩=Y4 X xs l ⟨dst,.call { callee:=.value f,args:=args,argTypes:=ats },ty,ps,af,g⟩ args.toList K n ⟨t,r⟩ ((St.mk t r).get f):=(rfl)
theorem jc_yld {o:Oper} {args:List Operand} {l':Nat}:Y4 X xs l o args K n ⟨t,r⟩ (.yld l')=Ur xs l l' ⟨t,r⟩ args o.dst K n:=(rfl)
theorem jc_fn {o:Oper} {args:List Operand} {f:FuncId} {is:List Nat}:Y4 X xs l o args K n ⟨t,r⟩ (.fn f is)=lop X o (K n) ⟨t,r⟩:=(rfl)
theorem jy {l':Nat} {args:List Operand}:Ur xs l l' ⟨t,r⟩ args dst K (some k)=(l'=l/\L0 xs k (K2 (args.map ((St.mk t r).freezeOps args).get)) (fun m=>K m ((((St.mk t r).freezeOps args).bare).put dst (.p (.bool true)))) (fun m=>K m ((((St.mk t r).freezeOps args).bare).put dst (.p (.bool false))))):=(rfl)
theorem jy_at {x:List PV} {a b:Option Nat->Prop}:L0 xs k (some x) a b=(xs[k]? = some x/\a (some (k+1))/\b none):=(rfl)
theorem Jgt:K2 []=some []:=(rfl)
theorem Jne {x:PV} {ls:List L}:K2 (.p x :: ls)=Jbx x (K2 ls):=by
 simp only[K2,Jbx]<;>cases K2 ls<;>rfl
theorem Jj4 {x:PV} {ys:List PV}:Jbx x (some ys)=some (x :: ys):=(rfl)
theorem j_bare:(St.mk t r).bare=⟨t.map (L.map fun _=>none),[]⟩:=(rfl)
theorem Jg6:jret xs .normal n ⟨t,r⟩=(n=some xs.length\/n=none):=(rfl)
theorem jr_ret:jret xs .ret n ⟨t,r⟩=(n=some xs.length\/n=none):=(rfl)
theorem Je2 {ι:Type} {I:ι->Option Nat×St} {Pre:ι->Prop} {μ:ι->Nat} {x:ι}:Jdl I Pre μ x Q .normal n ⟨t,r⟩ = ∃ y,Pre y/\μ y<μ x/\n=(I y).1/\(St.mk t r).Le (I y).2:=(rfl)
theorem Jns {ι:Type} {I:ι->Option Nat×St} {Pre:ι->Prop} {μ:ι->Nat} {x:ι} {id:Nat}:Jdl I Pre μ x Q (.exit id) n ⟨t,r⟩=Q (.exit id) n ⟨t,r⟩:=(rfl)
theorem jl_ret {ι:Type} {I:ι->Option Nat×St} {Pre:ι->Prop} {μ:ι->Nat} {x:ι}:Jdl I Pre μ x Q .ret n ⟨t,r⟩=Q .ret n ⟨t,r⟩:=(rfl)
theorem Jp5 {x:Operand}:jop X xs l ⟨dst,.move x,ty,ps,af,g⟩ K n ⟨t,r⟩=lop X ⟨dst,.move x,ty,ps,af,g⟩ (K n) ⟨t,r⟩:=(rfl)
theorem Jfo {x:Operand}:jop X xs l ⟨dst,.assign x,ty,ps,af,g⟩ K n ⟨t,r⟩=lop X ⟨dst,.assign x,ty,ps,af,g⟩ (K n) ⟨t,r⟩:=(rfl)
theorem jp_bin {op:BinOp} {tx ty1:TypeId} {x y:Operand}:jop X xs l ⟨dst,.binOp op tx x y ty1,ty,ps,af,g⟩ K n ⟨t,r⟩=lop X ⟨dst,.binOp op tx x y ty1,ty,ps,af,g⟩ (K n) ⟨t,r⟩:=(rfl)
theorem jp_un {op:UnOp} {tx:TypeId} {x:Operand}:jop X xs l ⟨dst,.unOp op tx x,ty,ps,af,g⟩ K n ⟨t,r⟩=lop X ⟨dst,.unOp op tx x,ty,ps,af,g⟩ (K n) ⟨t,r⟩:=(rfl)
theorem Jp8 {tx:TypeId} {x:Operand}:jop X xs l ⟨dst,.load tx x,ty,ps,af,g⟩ K n ⟨t,r⟩=lop X ⟨dst,.load tx x,ty,ps,af,g⟩ (K n) ⟨t,r⟩:=(rfl)
theorem Ji1 {tx:TypeId} {a x:Operand}:jop X xs l ⟨dst,.store tx a x,ty,ps,af,g⟩ K n ⟨t,r⟩=lop X ⟨dst,.store tx a x,ty,ps,af,g⟩ (K n) ⟨t,r⟩:=(rfl)
theorem U3 {tx:TypeId} {x:Operand} {f:Nat}:jop X xs l ⟨dst,.fieldAddr tx x f,ty,ps,af,g⟩ K n ⟨t,r⟩=lop X ⟨dst,.fieldAddr tx x f,ty,ps,af,g⟩ (K n) ⟨t,r⟩:=(rfl)
theorem Wf {tx:TypeId} {x i:Operand}:jop X xs l ⟨dst,.indexAddr tx x i,ty,ps,af,g⟩ K n ⟨t,r⟩=lop X ⟨dst,.indexAddr tx x i,ty,ps,af,g⟩ (K n) ⟨t,r⟩:=(rfl)
theorem Jl6 {tx:TypeId} {x:Operand} {lo hi mx:Option Operand}:jop X xs l ⟨dst,.slice tx x lo hi mx,ty,ps,af,g⟩ K n ⟨t,r⟩=lop X ⟨dst,.slice tx x lo hi mx,ty,ps,af,g⟩ (K n) ⟨t,r⟩:=(rfl)
theorem Ken {bt:Builtin} {args:Array Operand} {ats:Array TypeId}:jop X xs l ⟨dst,.call { callee:=.builtin bt,args:=args,argTypes:=ats },ty,ps,af,g⟩ K n ⟨t,r⟩=lop X ⟨dst,.call { callee:=.builtin bt,args:=args,argTypes:=ats },ty,ps,af,g⟩ (K n) ⟨t,r⟩:=(rfl)
end
section
variable {X:Cx} {K:St->Prop} {t:List L} {r:Regs} {Inv:Nat->Regs->Prop} {Stop:Ex->Regs->Prop} {n k:Nat}
theorem Jh4 {id:Nat} {ops:Array Oper}:lwpA X (.region id ops false) K ⟨t,r⟩=lops X (ops.toList.map (·.dst)) ops.toList K ⟨t,r⟩:=(rfl)
theorem a_seq {a b:Code}:lwpA X (a.seq b) K ⟨t,r⟩=lwpA X a (lwpA X b K) ⟨t,r⟩:=(rfl)
theorem Jgv {rn:List (Nat×Nat)}:Vm n rn Inv Stop k .normal ⟨t,r⟩ = ∃ R,Inv (k+1) R/\(Du rn ⟨t,r⟩).Le ⟨Ba n [],R⟩:=(rfl)
theorem kr_ret {rn:List (Nat×Nat)}:Vm n rn Inv Stop k .ret ⟨t,r⟩ = ∃ R,Stop .ret R/\(Du rn ⟨t,r⟩).Le ⟨Ba n [],R⟩:=(rfl)
theorem Wk {p:Tmp} {ps:List Tmp} {x:PV} {ys:List PV}:J0w (p :: ps) (x :: ys) t=J0w ps ys (t.set p (.p x)):=(rfl)
theorem X0 {ys:List PV}:J0w [] ys t=t:=by cases ys<;>rfl
theorem Jkl:rnOf k []=[]:=(rfl)
theorem Jlf {d:Nat} {T:TypeId} {cs:List L}:rnOf k ((d,.var T cs) :: r)=(d,1000+k) :: rnOf (k+1) r:=(rfl)
theorem Jlz {d:Nat} {T:TypeId} {sz:Nat} {es:List (List PV)}:rnOf k ((d,.row T sz es) :: r)=(d,if 1000<=d/\d<500000 then 1000+k else 500000+k) :: rnOf (k+1) r:=by
 simp[rnOf,Jbk]
theorem z_fix {ρ:Ren} {d:Nat}:Mq ρ d=fixN (upId ρ d):=by
 unfold Mq fixN;cases upId ρ d<;>rfl
theorem Xv {d:Nat}:fixN (some d)=if d<500000 then some d else none:=(rfl)
end
end Go.LX
namespace Go.LX
open Go Go.RowKit
attribute [go_sem] Jp7 e_skip Jid e_seq e_cond Jpi e_loop e_exit e_ret Jng Wj Jaq Jf3 Qz Vo Z2 o_nil o_cons Jpg q_nil q_cons Joa q_kq k_put k_unit W2 s_put s_tmps s_regs s_tmp Jm9 s_func v_bool v_int v_str v_snil v_nptr v_nmap v_nifc v_nfn p_move Jl2 p_bin p_un p_conv p_pick p_nil p_load Jnh Xg Yf Jnn Jpn Jf5 Jm5 Jb7 p_len p_max p_min Jn4 p_box V7 Yp p_copy Jms p_call Jgq Jp6 p_next Jn8 Zf Ji2 Jkk p_ustr Jpz Ji3 p_cap q_move Ji7 q_bin q_un q_pick Jb4 q_load Za W3 Jp9 Jo0 Jhf Kl2 q_len J6w Jmo q_usd q_call Q9 Jeg Jmu u_draw w_at0 w_atS Jje u_cond Jpt u_gsel Jlr Jie Jb5 u_pick Jgk Jfr Jho Jhz Jnt Jhd Jfg c_ptrC c_ifcC c_slcC c_ptrS u_n_pp Jm1 Jjt u_n_ii u_n_in Jnb u_n_ss u_n_sl Xs Xf Jp4 Jey u_kb u_knb Jem Un So Vz Vl u_shl u_shr u_add u_sub u_mul u_quo u_rem u_and u_or u_eql u_neq u_lss u_leq u_gtr u_geq u_sadd u_seql u_sneq u_slss u_sgtr u_sgeq u_neg u_not u_max u_min u_kstr Kg0 Kg8 Jzz Kd4 Kbr u_krun Kfu J0r u_cvF Jgg Jg3 Jlo u_cvR Jev Jil Jhe Jbn Vr u_conv Jb3 Zt Uu X9 My U0 Jad u_len Jgu Jjq Jgf Jfq Jnm Yb Jnd Jja Jii Kby Jh1 u_kp Jn3 Jia Kd6 Xz Jga Jl1 u_kagg Jpe u_krow Kd2 u_load Y6 Xe Jb2 Ja4 Jex Jhq Jgd J9v Je7 Jh7 Jks Jpp Jpq Joo Jol Jn6 Jps Jpf Jos Jo5 Jp1 Jgc Jnv Jfb u_larr u_laT Jk4 Jpy Jl4 Jhh Jbq Jhv Jaj Jhi Jgm u_kfn u_caps Kgo Jfv Ja9 Zm u_zok Jir Jn5 J62 u_arrC Kcz Kap Jcq Ys Kac Xj Jas Jap Jjj Jno u_kbox u_box Jjl Jkj Jic Je0 Jjc Jj3 Jox Jf8 Jmb Jmt u_kst u_kst3 u_kst2 u_kst1 Jph u_kls u_kls2 Jon u_stA Jgl Jf7 J9o Jhj Jcr Jp2 Jfm Jar Jjb Jhk Jit Jcj Jeo Jm4 u_call Jn9 Jiw Jlx Jji Jim Joq Jm7 Vj Zb Wm Sk Jo7 Vs Sr Xr Ut Uj Uq Vb Sp Jnk Jcd Ja6 u_newF Jej Ja2 Zw W6 Zd Yq Sw Sy Jpa Jj7 Jin Jfp Kkj Qc Jix Jhb Jgi Xu Yu Vp Xw Jcs Jml Jef Jcb Jbt Jao Ji0 Jiu Jew Jlt u_m_p Jn0 Jmy Kfh u_m_fn Jjs Joi Jnp Jmf u_ptrO u_ownO Khd u_fnO u_ownN Jlm Xo Vd X7 V9 Jf1 Uh Sx Vh Sm Ji8 Jlp Wa Su Jgx Jpu Ji5 Jop u_next Jnx Joc u_nxS u_nxM Jpv u_enT u_enM u_muS X1 u_muF u_muT u_muR Jj9 u_mdT u_mdR Jjo u_lkT u_lkZ Jk7 Jjh Ke0 Jan J5p u_mofR Jgp Jcu Kas x_int i_int Jok u_usd Jbs Jbh Jav Jbc u_usT u_usB u_usR u_kmk u_fits Xy u_mkT u_kbs2 u_kbs Wo J9x u_boT u_bsT Jo2 Jky Jjw Jiz pp_nil Jof u_ksl u_lqbs u_qbT Jp0 Job Jmv Jhc Jm3 u_apZX u_apZR Jfy Jkp Jhp V4 Jmk Yy Ul Jh0 Jhl u_apR u_apG u_apG2 Kbv Kc3 u_alR u_alY u_alB u_alT Kcb u_copy u_cpT u_cpX u_cpY u_cpD u_cpDl Jbm Jez Joy Jfc Jh3 u_oneO u_oneN Je1 Jls u_srcR Jpm u_kr2 u_kr1 Jgr Jgh Jcf u_kres Jm0 Jb6 Yd Vq Vc u_retF u_retO Jaw u_ret3 U2 Sl Joh Jkr Jl9 Jcp Yv Yn Vg V6 Sn Jlv Jmh Jj6 Jby Zq Jbl Zp Jal Jbd Zh Jif Jkx Jio Jgo Jjg Jku Kcx Jll u_f_p Jkc Jnw Jkv Joj Jpl Jiy u_f_fn u_z_p Jjn Jnf Jlu Jom Jog Jlw Jjd Jme Kdp Jo9 Jkn Jij Kc5 u_z_fn Jgj Jgs u_id_p Jk3 Jk1 Jpk Jfa Jp3 Jbe u_pure Jnu t_nil Jn7 Jo8 y_none j_skip Jla j_seq j_cond Jpw j_loop j_exit j_ret Jht Jpj ks_ret Jff Jpc kb_ret jo_nil Jnj Jpd jc_yld jc_fn jy jy_at Jgt Jne Jj4 j_bare Jg6 jr_ret Je2 Jns jl_ret Jp5 Jfo jp_bin jp_un Jp8 Ji1 U3 Wf Jl6 Ken Jh4 a_seq Jgv kr_ret Wk X0 Jkl Jlf Jlz z_fix Xv Vy Jhr kun_n kun_e kun_r Je3 Ao Aj U7 Wd Jac Jlb Jg1 argW kloop List.map_cons List.map_nil List.getD_cons_zero List.getD_cons_succ List.length_cons List.length_nil List.cons_append List.nil_append List.append_nil List.length_map List.flatMap_cons List.flatMap_nil List.contains_cons List.contains_nil List.take_succ_cons List.take_zero List.take_nil List.drop_succ_cons List.drop_zero List.drop_nil List.set_cons_zero List.set_cons_succ List.getElem?_cons_zero List.getElem?_cons_succ List.all_cons List.all_nil decide_eq_true_eq beq_iff_eq bne_iff_ne decide_eq_false_iff_not beq_eq_false_iff_ne bne_eq_false_iff_eq Bool.not_eq_true' Bool.not_eq_eq_eq_not ne_eq Decidable.not_not Int.not_lt Int.not_le not_true_eq_false not_false_eq_true true_and and_true false_implies implies_true forall_const imp_self Int.toNat_natCast Int.natCast_nonneg Nat.zero_add Ac Bool.not_true Bool.not_false PV.agg.injEq L.p.injEq PV.bool.injEq PV.int.injEq PV.str.injEq L.tup.injEq List.cons.injEq Bool.true_eq_false Bool.false_eq_true Bool.true_and Bool.and_true Bool.false_and Bool.and_false Bool.or_false Bool.or_true Bool.false_or Bool.true_or beq_self_eq_true and_self
theorem Jqj {p q:Prop} (k:q) (h:p:=by first|omega | (simp (disch:=omega) only [Aa,Ab,Ac] at *;omega)):p/\q:=⟨h,k⟩
theorem get_go {α:Type} {l:List α} {i:Nat} {Q:α->Prop} (hq:∀ a,l[i]? = some a->Q a) (h:i<l.length:=by first|omega | (simp (disch:=omega) only [Aa,Ab,Ac] at *;omega)):∃ a,l[i]? = some a/\Q a:=Ak h hq
theorem J51 {X:Cx} {ro:Option Nat} {id:Nat} {ops:Array Oper} {Q:Ex->St->Prop} {s:St} (hm:X.P.follows .mixedOrders=true) (h:Jf X (ops.toList.map (·.dst)) ops.toList (Q .normal) s) (h0:Jd9 ops.toList=true:=by rfl) (hB:Region.lexB .any ops=true:=by kernel_rfl):SWP X ro (.region id ops true) Q s:=Ah hm h0 hB h
theorem Jqc {n:Nat} {ws ws':List (Nat×L)} {r r':Regs} (ht:wsLe n ws ws':=by simp only[Ap,Ar,Ao,Aj,Af,Nat.reduceEqDiff,reduceIte,Nat.reduceLT,Nat.reduceLeDiff];simp (disch:=omega) [Af,Ai,Au,Aa]<;>(repeat' apply And.intro)<;>omega)
  (hr:Az r r':=by simp (disch:=omega) [Az,A3,Aw,Am,Af,Ai,Au,Aa]) (hk:Ay r':=by simp[Ay]):St.Le ⟨Ba n ws,r⟩ ⟨Ba n ws',r'⟩:=Jqt ht hr hk
theorem Jvz {X:Cx} {f:FuncId} {fn:Func} {c:Code} {args:List L} {rs:Regs} {Post:L->Regs->Prop} (own:Bool) (rn:List (Nat×Nat)) (hf:X.P.funcs[f]? = some fn)
  (h:SWP X none c (Jed X.P own rn fn.results.toList (rs.map (·.1)) Post) ⟨Ba fn.ntmps (argW 0 args),rs⟩) (hrn:∀ x∈rn,x.2<1000\/500000<=x.2:=by simp) (hname:(fn.name == "runtime.NumGoroutine")=false:=by kernel_rfl) (hb:fn.body=some c:=by rfl)
  (hn:args.length<=fn.ntmps:=by exact Nat.le_of_ble_eq_true rfl) (h900:900 ∉ rs.map (·.1):=by simp):Al X f args rs Post:=Jua own rn hrn hf hname hb hn h900 h
end Go.LX
namespace Go.LX
open Go Go.Proofs
@[go_sem] theorem f_u2:Tryz.prog.underlying 2=some (.int .i64):=kr
@[go_sem] theorem f_u3:Tryz.prog.underlying 3=some (.int .i64):=kr
@[go_sem] theorem f_a3:B2 Tryz.prog 3=some false:=kr
@[go_sem] theorem f_c3:Tryz.prog.cellsOf 3=1:=kr
@[go_sem] theorem f_z3:Bu Tryz.prog 3=some [.int .i64 0]:=kr
@[go_sem] theorem f_b3:Bo Tryz.prog 3=some 8:=kr
@[go_sem] theorem f_u4:Tryz.prog.underlying 4=some (.bool):=kr
@[go_sem] theorem f_a4:B2 Tryz.prog 4=some false:=kr
@[go_sem] theorem f_c4:Tryz.prog.cellsOf 4=1:=kr
@[go_sem] theorem f_z4:Bu Tryz.prog 4=some [.bool false]:=kr
@[go_sem] theorem f_b4:Bo Tryz.prog 4=some 1:=kr
@[go_sem] theorem f_u5:Tryz.prog.underlying 5=some (.int .u8):=kr
@[go_sem] theorem f_a5:B2 Tryz.prog 5=some false:=kr
@[go_sem] theorem f_c5:Tryz.prog.cellsOf 5=1:=kr
@[go_sem] theorem f_z5:Bu Tryz.prog 5=some [.int .u8 0]:=kr
@[go_sem] theorem f_zo5:E5 Tryz.prog 5=some (.int .u8 0):=kr
@[go_sem] theorem f_b5:Bo Tryz.prog 5=some 1:=kr
@[go_sem] theorem f_u9:Tryz.prog.underlying 9=some (.string):=kr
@[go_sem] theorem f_a9:B2 Tryz.prog 9=some false:=kr
@[go_sem] theorem f_c9:Tryz.prog.cellsOf 9=1:=kr
@[go_sem] theorem f_z9:Bu Tryz.prog 9=some [.str []]:=kr
@[go_sem] theorem f_b9:Bo Tryz.prog 9=some 16:=kr
@[go_sem] theorem f_u21:Tryz.prog.underlying 21=some (.int .i32):=kr
@[go_sem] theorem f_c21:Tryz.prog.cellsOf 21=1:=kr
@[go_sem] theorem f_zo21:E5 Tryz.prog 21=some (.int .i32 0):=kr
@[go_sem] theorem f_u23:Tryz.prog.underlying 23=some (.slice 38):=kr
@[go_sem] theorem f_a23:B2 Tryz.prog 23=some false:=kr
@[go_sem] theorem f_c23:Tryz.prog.cellsOf 23=1:=kr
@[go_sem] theorem f_s23:slE Tryz.prog 23=some (38,11):=kr
@[go_sem] theorem f_z23:Bu Tryz.prog 23=some [.snil]:=kr
@[go_sem] theorem f_b23:Bo Tryz.prog 23=some 24:=kr
@[go_sem] theorem f_u25:Tryz.prog.underlying 25=some (.slice 36):=kr
@[go_sem] theorem f_a25:B2 Tryz.prog 25=some false:=kr
@[go_sem] theorem f_c25:Tryz.prog.cellsOf 25=1:=kr
@[go_sem] theorem f_s25:slE Tryz.prog 25=some (36,6):=kr
@[go_sem] theorem f_z25:Bu Tryz.prog 25=some [.snil]:=kr
@[go_sem] theorem f_zo25:E5 Tryz.prog 25=some (.snil):=kr
@[go_sem] theorem f_b25:Bo Tryz.prog 25=some 24:=kr
@[go_sem] theorem f_u33:Tryz.prog.underlying 33=some (.slice 63):=kr
@[go_sem] theorem f_s33:slE Tryz.prog 33=some (63,3):=kr
@[go_sem] theorem f_a36:B2 Tryz.prog 36=some true:=kr
@[go_sem] theorem f_c36:Tryz.prog.cellsOf 36=6:=kr
@[go_sem] theorem f_f36_0:fld Tryz.prog 36 0=some (0,3):=kr
@[go_sem] theorem f_f36_1:fld Tryz.prog 36 1=some (1,3):=kr
@[go_sem] theorem f_f36_2:fld Tryz.prog 36 2=some (2,9):=kr
@[go_sem] theorem f_f36_3:fld Tryz.prog 36 3=some (3,9):=kr
@[go_sem] theorem f_f36_4:fld Tryz.prog 36 4=some (4,4):=kr
@[go_sem] theorem f_f36_5:fld Tryz.prog 36 5=some (5,3):=kr
@[go_sem] theorem f_ff36:Ez Tryz.prog 36=true:=kr
@[go_sem] theorem f_t36:Nt Tryz.prog 36=some [.int,.int,.str,.str,.bool,.int]:=kr
@[go_sem] theorem f_z36:Bu Tryz.prog 36=some [.int .i64 0,.int .i64 0,.str [],.str [],.bool false,.int .i64 0]:=kr
@[go_sem] theorem f_b36:Bo Tryz.prog 36=some 64:=kr
@[go_sem] theorem f_a38:B2 Tryz.prog 38=some true:=kr
@[go_sem] theorem f_c38:Tryz.prog.cellsOf 38=11:=kr
@[go_sem] theorem f_f38_0:fld Tryz.prog 38 0=some (0,3):=kr
@[go_sem] theorem f_f38_1:fld Tryz.prog 38 1=some (1,3):=kr
@[go_sem] theorem f_f38_2:fld Tryz.prog 38 2=some (2,9):=kr
@[go_sem] theorem f_f38_3:fld Tryz.prog 38 3=some (3,9):=kr
@[go_sem] theorem f_f38_4:fld Tryz.prog 38 4=some (4,3):=kr
@[go_sem] theorem f_f38_5:fld Tryz.prog 38 5=some (5,36):=kr
@[go_sem] theorem f_ff38:Ez Tryz.prog 38=true:=kr
@[go_sem] theorem f_t38:Nt Tryz.prog 38=some [.int,.int,.str,.str,.int,.int,.int,.str,.str,.bool,.int]:=kr
@[go_sem] theorem f_z38:Bu Tryz.prog 38=some [.int .i64 0,.int .i64 0,.str [],.str [],.int .i64 0,.int .i64 0,.int .i64 0,.str [],.str [],.bool false,.int .i64 0]:=kr
@[go_sem] theorem f_b38:Bo Tryz.prog 38=some 120:=kr
@[go_sem] theorem f_u39:Tryz.prog.underlying 39=some (.slice 23):=kr
@[go_sem] theorem f_a39:B2 Tryz.prog 39=some false:=kr
@[go_sem] theorem f_c39:Tryz.prog.cellsOf 39=1:=kr
@[go_sem] theorem f_s39:slE Tryz.prog 39=some (23,1):=kr
@[go_sem] theorem f_z39:Bu Tryz.prog 39=some [.snil]:=kr
@[go_sem] theorem f_u53:Tryz.prog.underlying 53=some (.slice 25):=kr
@[go_sem] theorem f_a53:B2 Tryz.prog 53=some false:=kr
@[go_sem] theorem f_c53:Tryz.prog.cellsOf 53=1:=kr
@[go_sem] theorem f_s53:slE Tryz.prog 53=some (25,1):=kr
@[go_sem] theorem f_z53:Bu Tryz.prog 53=some [.snil]:=kr
@[go_sem] theorem f_u61:Tryz.prog.underlying 61=some (.slice 9):=kr
@[go_sem] theorem f_a61:B2 Tryz.prog 61=some false:=kr
@[go_sem] theorem f_c61:Tryz.prog.cellsOf 61=1:=kr
@[go_sem] theorem f_s61:slE Tryz.prog 61=some (9,1):=kr
@[go_sem] theorem f_z61:Bu Tryz.prog 61=some [.snil]:=kr
@[go_sem] theorem f_a63:B2 Tryz.prog 63=some true:=kr
@[go_sem] theorem f_c63:Tryz.prog.cellsOf 63=3:=kr
@[go_sem] theorem f_f63_0:fld Tryz.prog 63 0=some (0,4):=kr
@[go_sem] theorem f_f63_1:fld Tryz.prog 63 1=some (1,9):=kr
@[go_sem] theorem f_f63_2:fld Tryz.prog 63 2=some (2,3):=kr
@[go_sem] theorem f_ff63:Ez Tryz.prog 63=true:=kr
@[go_sem] theorem f_t63:Nt Tryz.prog 63=some [.bool,.str,.int]:=kr
@[go_sem] theorem f_z63:Bu Tryz.prog 63=some [.bool false,.str [],.int .i64 0]:=kr
@[go_sem] theorem f_b63:Bo Tryz.prog 63=some 32:=kr
@[go_sem] theorem f_s88:slE Tryz.prog 88=some (4,1):=kr
@[go_sem] theorem f_u93:Tryz.prog.underlying 93=some (.slice 21):=kr
@[go_sem] theorem f_u101:Tryz.prog.underlying 101=some (.slice 3):=kr
@[go_sem] theorem f_a101:B2 Tryz.prog 101=some false:=kr
@[go_sem] theorem f_c101:Tryz.prog.cellsOf 101=1:=kr
@[go_sem] theorem f_s101:slE Tryz.prog 101=some (3,1):=kr
@[go_sem] theorem f_z101:Bu Tryz.prog 101=some [.snil]:=kr
@[go_sem] theorem f_b101:Bo Tryz.prog 101=some 24:=kr
@[go_sem] theorem f_u103:Tryz.prog.underlying 103=some (.slice 101):=kr
@[go_sem] theorem f_s103:slE Tryz.prog 103=some (101,1):=kr
@[go_sem] theorem f_u121:Tryz.prog.underlying 121=some (.slice 5):=kr
@[go_sem] theorem f_a121:B2 Tryz.prog 121=some false:=kr
@[go_sem] theorem f_c121:Tryz.prog.cellsOf 121=1:=kr
@[go_sem] theorem f_s121:slE Tryz.prog 121=some (5,1):=kr
@[go_sem] theorem f_u123:Tryz.prog.underlying 123=some (.array 6 4):=kr
@[go_sem] theorem f_z123:Bu Tryz.prog 123=some [.bool false,.bool false,.bool false,.bool false,.bool false,.bool false]:=kr
@[go_sem] theorem f_m137:mapT Tryz.prog 137=some (9,25):=kr
@[go_sem] theorem f_u165:Tryz.prog.underlying 165=some (.int .u64):=kr
@[go_sem] theorem f_u187:Tryz.prog.underlying 187=some (.interface #[("Error",207)]):=kr
@[go_sem] theorem f_u191:Tryz.prog.underlying 191=some (.int .u64):=kr
@[go_sem] theorem f_u204:Tryz.prog.underlying 204=some (.pointer 206):=kr
@[go_sem] theorem f_a204:B2 Tryz.prog 204=some false:=kr
@[go_sem] theorem f_c204:Tryz.prog.cellsOf 204=1:=kr
@[go_sem] theorem f_c206:Tryz.prog.cellsOf 206=2:=kr
@[go_sem] theorem f_f206_0:fld Tryz.prog 206 0=some (0,204):=kr
@[go_sem] theorem f_f206_1:fld Tryz.prog 206 1=some (1,121):=kr
@[go_sem] theorem f_z206:Bu Tryz.prog 206=some [.nptr,.snil]:=kr
@[go_sem] theorem f_i206:(Tryz.prog.info? 206).isSome=true:=kr
@[go_sem] theorem f_m209:mapT Tryz.prog 209=some (21,5):=kr
@[go_sem] theorem f_u224:Tryz.prog.underlying 224=some (.int .u32):=kr
@[go_sem] theorem f_ar230:arE Tryz.prog 230=some (65,5,1):=kr
@[go_sem] theorem f_u231:Tryz.prog.underlying 231=some (.pointer 5):=kr
@[go_sem] theorem f_u233:Tryz.prog.underlying 233=some (.map 5 21):=kr
@[go_sem] theorem f_m233:mapT Tryz.prog 233=some (5,21):=kr
@[go_sem] theorem f_u236:Tryz.prog.underlying 236=some (.int .i64):=kr
@[go_sem] theorem f_u252:Tryz.prog.underlying 252=some (.unsafePointer):=kr
theorem hm:Tryz.prog.follows .mixedOrders=true:=kr
end Go.LX
namespace Go.LX
open Go Go.RowKit Go.Proofs
def Hg (rs0:Regs):Regs->Prop
 | []=>True
 | (e,_) :: rest=>(e=900\/findKey e rs0=true)/\Hg rs0 rest
theorem Lo {rs0:Regs}:∀ {R:Regs},Hg rs0 R->∀ e r,(e,r)∈R->e=900\/findKey e rs0=true
 | [],_,e,r,h=>by cases h
 | (e',q) :: R,h,e,r,hm=>by
  rcases Eak.1 hm with hm | hm
  ·cases hm;exact h.1
  ·exact Lo h.2 e r hm
def kLe (Q:Ex->St->Prop) (e:Ex) (s:St):Prop:=∃ s2,s.Le s2/\Q e s2
theorem Kc1 {X:Cx} {ro:Option Nat} {c:Code} {Q:Ex->St->Prop} {s:St} (h:SWP X ro c (kLe Q) s):SWP X ro c Q s:=fun Γ a w hG hr =>
 wpIn_mono (h Γ a w hG hr) fun e a w hq'=>by
  cases e with
  | normal=>obtain ⟨s',⟨s2,h1,h2⟩,h3⟩:=hq';exact ⟨s2,h2,h1 _ _ _ h3⟩
  | exit id=>obtain ⟨s',⟨s2,h1,h2⟩,h3⟩:=hq';exact ⟨s2,h2,h1 _ _ _ h3⟩
  | ret=>obtain ⟨s',⟨s2,h1,h2⟩,h3⟩:=hq';exact ⟨s2,h2,h1 _ _ _ h3⟩
  | goto l=>exact hq'.elim
  | panic c=>exact hq'.elim
  | outgrown=>exact hq'.elim
theorem SWP.range {X:Cx} {ro:Option Nat} {g:Operand} {ps:Array Tmp} {assign body:Code} {Q:Ex->St->Prop} {t0:List L} {r0:Regs} {f d:Nat} {T:TypeId} {cs:List L} {pcs:List PV} (xs:List (List PV)) (n:Nat) (rn:List (Nat×Nat)) (hrn:∀ x∈rn,x.2<1000\/500000<=x.2)
  (ρ:Ren) (sl:List L) (rs0:Regs) (t1:List L) (r1:Regs) (Inv:Nat->Regs->Prop) (Stop:Ex->Regs->Prop)
  (hg:(St.mk t0 r0).get g=.fn f [d]) (hd:Am d r0=some (.var T cs)) (hp:Bg L.pure? cs=some pcs) (hi:Tb X f [.eptr pcs] xs) (hs1:Dx d (some .gone) ⟨t0,r0⟩=⟨t1,r1⟩)
  (hn:t1.length=n) (hsm:r1.length<=1000) (hps:∀ x∈xs,x.length=ps.size) (hρ:rnOf 0 r1=ρ) (hsl:t1.map (L.map (Mq ρ))=sl) (hr0:Cz ρ r1=rs0) (h0:Inv 0 rs0)
  (hkI:∀ k R,Inv k R->Hg rs0 R) (hkS:∀ x R,Stop x R->Hg rs0 R) (hSn:∀ R,¬ Stop .normal R)
  (round:∀ k x R l,xs[k]? = some x->Inv k R->lwpA X assign (fun s2=>SWP X (some l) body (Vm n rn Inv Stop k) s2) ⟨J0w ps.toList x sl,R⟩)
  (done:∀ R,Inv xs.length R->kLe Q .normal (St.after ρ (Ek none R) R ⟨t1,r1⟩))
  (stop:∀ x R,Stop x R->kLe Q x (St.after ρ (Ek none R) R ⟨t1,r1⟩)):SWP X ro (.rangeFunc g ps assign body) Q ⟨t0,r0⟩:=by
 subst hρ hsl hr0;exact Kc1 (SWP.rangeFunc xs n rn hrn Inv Stop hg hd hp hi hs1 hn hsm hps h0 (fun k R h=>Lo (hkI k R h)) (fun x R h=>Lo (hkS x R h)) hSn round done stop)
end Go.LX
namespace Go.Proofs
open Go.Shelf
def Tryz_lays137_renX:Go.Shelf.Ren:=⟨fun | 137=>190 | 217=>217 | 266=>246 | n=>n,fun | 9=>9 | 5=>5 | 3=>3 | n=>n,fun | n=>n⟩
theorem J38:Go.Proofs.Lays.n137 Tryz.prog Tryz_lays137_renX:={
 mixed:=by kernel_rfl
 f137:=Tryz.func190.trans (congrArg some (by kernel_rfl))
 f217:=Tryz.func217.trans (congrArg some (by kernel_rfl))
 f266:=Tryz.func246.trans (congrArg some (by kernel_rfl))
 t3:=Tryz.underlying3
 a3:=Tryz.isAgg3
 z3:=Tryz.sizeOf3
 v3:=Tryz.zeroValue3
 t5:=Tryz.underlying5
 a5:=Tryz.isAgg5
 z5:=Tryz.sizeOf5
 v5:=Tryz.zeroValue5
 t9:=Tryz.underlying9
 a9:=Tryz.isAgg9
 z9:=Tryz.sizeOf9
 v9:=Tryz.zeroValue9 }
open Go.RowKit in
theorem Tryz.strings_IndexByte (s:ByteArray) (c:Int) (w:World) :
  Calls Tryz.prog 190 #[.string s,.int .u8 c] w fun e w'=>e=.returned (.int .i64 (Lib.indexByte s.data.toList c.toNat.toUInt8))/\w'=w:=Any.strings_IndexByte J38 s c w
def Tryz_laysM171_renX:Go.Shelf.Ren:=⟨fun | 171=>91 | 243=>141 | 246=>177 | 283=>202 | 284=>203 | 285=>204 | 286=>205 | 129=>231 | 317=>237 | 318=>238 | 319=>239 | 320=>240 | 337=>261 | 338=>262 | n=>n,fun | 3=>3 | 9=>9 | 2=>2 | 4=>4 | 171=>199 | 0=>0 | 53=>191 | 37=>121 | 5=>5 | 173=>202 | 212=>229 | 51=>224 | 20=>20 | 213=>230 | 46=>165 | 232=>259 | 233=>260 | n=>n,fun | 17=>2 | 18=>6 | 19=>7 | n=>n⟩
theorem J3s:Go.Proofs.LaysM.n171 Tryz.prog Tryz_laysM171_renX:={
 mixed:=by kernel_rfl
 f129:=Tryz.func231.trans (congrArg some (by kernel_rfl))
 f171:=Tryz.func91.trans (congrArg some (by kernel_rfl))
 f243:=Tryz.func141.trans (congrArg some (by kernel_rfl))
 f246:=Tryz.func177.trans (congrArg some (by kernel_rfl))
 f283:=Tryz.func202.trans (congrArg some (by kernel_rfl))
 f284:=Tryz.func203.trans (congrArg some (by kernel_rfl))
 f285:=Tryz.func204.trans (congrArg some (by kernel_rfl))
 f286:=Tryz.func205.trans (congrArg some (by kernel_rfl))
 f317:=Tryz.func237.trans (congrArg some (by kernel_rfl))
 f318:=Tryz.func238.trans (congrArg some (by kernel_rfl))
 f319:=Tryz.func239.trans (congrArg some (by kernel_rfl))
 f320:=Tryz.func240.trans (congrArg some (by kernel_rfl))
 f337:=Tryz.func261.trans (congrArg some (by kernel_rfl))
 f338:=Tryz.func262.trans (congrArg some (by kernel_rfl))
 t0:=Tryz.underlying0
 a0:=Tryz.isAgg0
 z0:=Tryz.sizeOf0
 v0:=Tryz.zeroValue0
 t2:=Tryz.underlying2
 a2:=Tryz.isAgg2
 z2:=Tryz.sizeOf2
 v2:=Tryz.zeroValue2
 t3:=Tryz.underlying3
 a3:=Tryz.isAgg3
 z3:=Tryz.sizeOf3
 v3:=Tryz.zeroValue3
 t4:=Tryz.underlying4
 a4:=Tryz.isAgg4
 z4:=Tryz.sizeOf4
 v4:=Tryz.zeroValue4
 t5:=Tryz.underlying5
 a5:=Tryz.isAgg5
 z5:=Tryz.sizeOf5
 v5:=Tryz.zeroValue5
 t9:=Tryz.underlying9
 a9:=Tryz.isAgg9
 z9:=Tryz.sizeOf9
 v9:=Tryz.zeroValue9
 t20:=Tryz.underlying20
 a20:=Tryz.isAgg20
 z20:=Tryz.sizeOf20
 v20:=Tryz.zeroValue20
 t37:=Tryz.underlying121
 a37:=Tryz.isAgg121
 z37:=Tryz.sizeOf121
 v37:=Tryz.zeroValue121
 t46:=Tryz.underlying165
 a46:=Tryz.isAgg165
 z46:=Tryz.sizeOf165
 v46:=Tryz.zeroValue165
 t51:=Tryz.underlying224
 a51:=Tryz.isAgg224
 z51:=Tryz.sizeOf224
 v51:=Tryz.zeroValue224
 t53:=Tryz.underlying191
 a53:=Tryz.isAgg191
 z53:=Tryz.sizeOf191
 v53:=Tryz.zeroValue191
 t171:=Tryz.underlying199
 a171:=Tryz.isAgg199
 z171:=Tryz.sizeOf199
 v171:=Tryz.zeroValue199
 t173:=Tryz.underlying202
 a173:=Tryz.isAgg202
 z173:=Tryz.sizeOf202
 v173:=Tryz.zeroValue202
 t212:=Tryz.underlying229
 a212:=Tryz.isAgg229
 z212:=Tryz.sizeOf229
 v212:=Tryz.zeroValue229
 t213:=Tryz.underlying230
 a213:=Tryz.isAgg230
 z213:=Tryz.sizeOf230
 t232:=Tryz.underlying259
 a232:=Tryz.isAgg259
 z232:=Tryz.sizeOf259
 v232:=Tryz.zeroValue259
 t233:=Tryz.underlying260
 a233:=Tryz.isAgg260
 z233:=Tryz.sizeOf260
 v233:=Tryz.zeroValue260
 g17:=by kernel_rfl
 g18:=by kernel_rfl
 g19:=by kernel_rfl
 i0:=by kernel_rfl
 i2:=by kernel_rfl
 i3:=by kernel_rfl
 i4:=by kernel_rfl
 i5:=by kernel_rfl
 i9:=by kernel_rfl
 i20:=by kernel_rfl
 i37:=by kernel_rfl
 i46:=by kernel_rfl
 i51:=by kernel_rfl
 i53:=by kernel_rfl
 i171:=by kernel_rfl
 i173:=by kernel_rfl
 i212:=by kernel_rfl
 i232:=by kernel_rfl
 i233:=by kernel_rfl
 m17:=by kernel_rfl
 m18:=by kernel_rfl
 m19:=by kernel_rfl }
open Go.RowKit Go.Sort Go.Lib in
theorem Tryz.strconv_Itoa (n:Int) (h0:-9223372036854775808<=n) (h1:n<=9223372036854775807) (w:World) (htab:Lib.TabIs Tryz.prog w "internal/strconv.uint64pow10" .u64 Lib.pow10Tab) :
  Calls Tryz.prog 91 #[.int .i64 n] w fun e w'=>e=.returned (.string ⟨(Lib.itoa n).toArray⟩)/\∃ k os,w'=grow (w.drewN k) os:=Any.strconv_Itoa J3s n h0 h1 w htab
def Tryz_laysC245_renX:Go.Shelf.Ren:=⟨fun | 245=>219 | 279=>248 | 280=>249 | 281=>250 | 282=>251 | 316=>268 | 171=>91 | 205=>269 | 243=>141 | 246=>177 | 283=>202 | 284=>203 | 285=>204 | 286=>205 | 129=>231 | 317=>237 | 318=>238 | 319=>239 | 320=>240 | 337=>261 | 338=>262 | n=>n,fun | 9=>9 | 3=>3 | 75=>187 | 167=>236 | 4=>4 | 168=>239 | 210=>255 | 37=>121 | 0=>0 | 127=>231 | 145=>264 | 143=>262 | 2=>2 | 171=>199 | 53=>191 | 5=>5 | 173=>202 | 212=>229 | 51=>224 | 20=>20 | 213=>230 | 46=>165 | 232=>259 | 233=>260 | 80=>207 | n=>n,fun | 15=>4 | 16=>5 | 17=>2 | 18=>6 | 19=>7 | n=>n⟩
theorem J2n:Go.Proofs.LaysC.n245 Tryz.prog Tryz_laysC245_renX:={
 mixed:=by kernel_rfl
 f129:=Tryz.func231.trans (congrArg some (by kernel_rfl))
 f171:=Tryz.func91.trans (congrArg some (by kernel_rfl))
 f205:=Tryz.func269.trans (congrArg some (by kernel_rfl))
 f243:=Tryz.func141.trans (congrArg some (by kernel_rfl))
 f245:=Tryz.func219.trans (congrArg some (by kernel_rfl))
 f246:=Tryz.func177.trans (congrArg some (by kernel_rfl))
 f279:=Tryz.func248.trans (congrArg some (by kernel_rfl))
 f280:=Tryz.func249.trans (congrArg some (by kernel_rfl))
 f281:=Tryz.func250.trans (congrArg some (by kernel_rfl))
 f282:=Tryz.func251.trans (congrArg some (by kernel_rfl))
 f283:=Tryz.func202.trans (congrArg some (by kernel_rfl))
 f284:=Tryz.func203.trans (congrArg some (by kernel_rfl))
 f285:=Tryz.func204.trans (congrArg some (by kernel_rfl))
 f286:=Tryz.func205.trans (congrArg some (by kernel_rfl))
 f316:=Tryz.func268.trans (congrArg some (by kernel_rfl))
 f317:=Tryz.func237.trans (congrArg some (by kernel_rfl))
 f318:=Tryz.func238.trans (congrArg some (by kernel_rfl))
 f319:=Tryz.func239.trans (congrArg some (by kernel_rfl))
 f320:=Tryz.func240.trans (congrArg some (by kernel_rfl))
 f337:=Tryz.func261.trans (congrArg some (by kernel_rfl))
 f338:=Tryz.func262.trans (congrArg some (by kernel_rfl))
 t0:=Tryz.underlying0
 a0:=Tryz.isAgg0
 z0:=Tryz.sizeOf0
 v0:=Tryz.zeroValue0
 t2:=Tryz.underlying2
 a2:=Tryz.isAgg2
 z2:=Tryz.sizeOf2
 v2:=Tryz.zeroValue2
 t3:=Tryz.underlying3
 a3:=Tryz.isAgg3
 z3:=Tryz.sizeOf3
 v3:=Tryz.zeroValue3
 t4:=Tryz.underlying4
 a4:=Tryz.isAgg4
 z4:=Tryz.sizeOf4
 v4:=Tryz.zeroValue4
 t5:=Tryz.underlying5
 a5:=Tryz.isAgg5
 z5:=Tryz.sizeOf5
 v5:=Tryz.zeroValue5
 t9:=Tryz.underlying9
 a9:=Tryz.isAgg9
 z9:=Tryz.sizeOf9
 v9:=Tryz.zeroValue9
 t20:=Tryz.underlying20
 a20:=Tryz.isAgg20
 z20:=Tryz.sizeOf20
 v20:=Tryz.zeroValue20
 t37:=Tryz.underlying121
 a37:=Tryz.isAgg121
 z37:=Tryz.sizeOf121
 v37:=Tryz.zeroValue121
 t46:=Tryz.underlying165
 a46:=Tryz.isAgg165
 z46:=Tryz.sizeOf165
 v46:=Tryz.zeroValue165
 t51:=Tryz.underlying224
 a51:=Tryz.isAgg224
 z51:=Tryz.sizeOf224
 v51:=Tryz.zeroValue224
 t53:=Tryz.underlying191
 a53:=Tryz.isAgg191
 z53:=Tryz.sizeOf191
 v53:=Tryz.zeroValue191
 t75:=Tryz.underlying187
 a75:=Tryz.isAgg187
 z75:=Tryz.sizeOf187
 v75:=Tryz.zeroValue187
 t127:=Tryz.underlying231
 a127:=Tryz.isAgg231
 z127:=Tryz.sizeOf231
 v127:=Tryz.zeroValue231
 t143:=Tryz.underlying262
 a143:=Tryz.isAgg262
 z143:=Tryz.sizeOf262
 v143:=Tryz.zeroValue262
 t145:=Tryz.underlying264
 a145:=Tryz.isAgg264
 z145:=Tryz.sizeOf264
 v145:=Tryz.zeroValue264
 t167:=Tryz.underlying236
 a167:=Tryz.isAgg236
 z167:=Tryz.sizeOf236
 v167:=Tryz.zeroValue236
 t168:=Tryz.underlying239
 a168:=Tryz.isAgg239
 z168:=Tryz.sizeOf239
 v168:=Tryz.zeroValue239
 t171:=Tryz.underlying199
 a171:=Tryz.isAgg199
 z171:=Tryz.sizeOf199
 v171:=Tryz.zeroValue199
 t173:=Tryz.underlying202
 a173:=Tryz.isAgg202
 z173:=Tryz.sizeOf202
 v173:=Tryz.zeroValue202
 t210:=Tryz.underlying255
 a210:=Tryz.isAgg255
 z210:=Tryz.sizeOf255
 v210:=Tryz.zeroValue255
 t212:=Tryz.underlying229
 a212:=Tryz.isAgg229
 z212:=Tryz.sizeOf229
 v212:=Tryz.zeroValue229
 t213:=Tryz.underlying230
 a213:=Tryz.isAgg230
 z213:=Tryz.sizeOf230
 t232:=Tryz.underlying259
 a232:=Tryz.isAgg259
 z232:=Tryz.sizeOf259
 v232:=Tryz.zeroValue259
 t233:=Tryz.underlying260
 a233:=Tryz.isAgg260
 z233:=Tryz.sizeOf260
 v233:=Tryz.zeroValue260
 g15:=by kernel_rfl
 g16:=by kernel_rfl
 g17:=by kernel_rfl
 g18:=by kernel_rfl
 g19:=by kernel_rfl
 t80:=Tryz.underlying207
 a80:=Tryz.isAgg207
 z80:=Tryz.sizeOf207
 v80:=Tryz.zeroValue207
 i0:=by kernel_rfl
 i2:=by kernel_rfl
 i3:=by kernel_rfl
 i4:=by kernel_rfl
 i5:=by kernel_rfl
 i9:=by kernel_rfl
 i20:=by kernel_rfl
 i37:=by kernel_rfl
 i46:=by kernel_rfl
 i51:=by kernel_rfl
 i53:=by kernel_rfl
 i75:=by kernel_rfl
 i80:=by kernel_rfl
 i127:=by kernel_rfl
 i143:=by kernel_rfl
 i145:=by kernel_rfl
 i167:=by kernel_rfl
 i168:=by kernel_rfl
 i171:=by kernel_rfl
 i173:=by kernel_rfl
 i210:=by kernel_rfl
 i212:=by kernel_rfl
 i232:=by kernel_rfl
 i233:=by kernel_rfl
 m15:=by kernel_rfl
 m16:=by kernel_rfl
 m17:=by kernel_rfl
 m18:=by kernel_rfl
 m19:=by kernel_rfl
 c0:=by kernel_rfl
 c2:=by kernel_rfl
 c3:=by kernel_rfl
 c4:=by kernel_rfl
 c5:=by kernel_rfl
 c9:=by kernel_rfl
 c20:=by kernel_rfl
 c37:=by kernel_rfl
 c46:=by kernel_rfl
 c51:=by kernel_rfl
 c53:=by kernel_rfl
 c75:=by kernel_rfl
 c80:=by kernel_rfl
 c127:=by kernel_rfl
 c143:=by kernel_rfl
 c145:=by kernel_rfl
 c167:=by kernel_rfl
 c168:=by kernel_rfl
 c171:=by kernel_rfl
 c173:=by kernel_rfl
 c210:=by kernel_rfl
 c212:=by kernel_rfl
 c213:=by kernel_rfl
 c232:=by kernel_rfl
 c233:=by kernel_rfl }
open Go.RowKit in
theorem Tryz.strconv_toError_syntax (fn s:ByteArray) (base bits:Int) (ev:Value) (w:World) (hlim:s.size<=281474976710656) (hv:w.cell? ⟨4,0,none⟩=some ev) (hev:ev=.nilIface\/∃ te pe,ev=.iface te pe) :
  Calls Tryz.prog 219 #[.string fn,.string s,.int .i64 base,.int .i64 bits,.iface 236 (.int .i64 2)] w fun e w'=>∃ N,e=.returned (.iface 239 (.pointer (some ⟨N,0,none⟩)))/\w.heap.size<=N/\w'.heap[N]? = some (.cells #[.string fn,.string s,ev] 255 (0,0))/\Below w.heap.size w w':=Any.strconv_toError_syntax J2n fn s base bits ev w hlim hv hev
open Go.RowKit in
def Tryz_laysC172_renX:Go.Shelf.Ren:=⟨fun | 172=>191 | 244=>218 | 245=>219 | 247=>247 | 279=>248 | 280=>249 | 281=>250 | 282=>251 | 287=>267 | 316=>268 | 171=>91 | 205=>269 | 321=>273 | 322=>274 | 243=>141 | 246=>177 | 283=>202 | 284=>203 | 285=>204 | 286=>205 | 129=>231 | 317=>237 | 318=>238 | 319=>239 | 320=>240 | 337=>261 | 338=>262 | n=>n,fun | 9=>9 | 3=>3 | 75=>187 | 76=>188 | 4=>4 | 5=>5 | 167=>236 | 37=>121 | 0=>0 | 85=>237 | 2=>2 | 168=>239 | 53=>191 | 175=>250 | 46=>165 | 210=>255 | 127=>231 | 145=>264 | 143=>262 | 21=>21 | 171=>199 | 173=>202 | 212=>229 | 51=>224 | 20=>20 | 213=>230 | 232=>259 | 233=>260 | 80=>207 | n=>n,fun | 15=>4 | 16=>5 | 17=>2 | 18=>6 | 19=>7 | n=>n⟩
theorem Juq:Go.Proofs.LaysC.n172 Tryz.prog Tryz_laysC172_renX:={
 mixed:=by kernel_rfl
 f129:=Tryz.func231.trans (congrArg some (by kernel_rfl))
 f171:=Tryz.func91.trans (congrArg some (by kernel_rfl))
 f172:=Tryz.func191.trans (congrArg some (by kernel_rfl))
 f205:=Tryz.func269.trans (congrArg some (by kernel_rfl))
 f243:=Tryz.func141.trans (congrArg some (by kernel_rfl))
 f244:=Tryz.func218.trans (congrArg some (by kernel_rfl))
 f245:=Tryz.func219.trans (congrArg some (by kernel_rfl))
 f246:=Tryz.func177.trans (congrArg some (by kernel_rfl))
 f247:=Tryz.func247.trans (congrArg some (by kernel_rfl))
 f279:=Tryz.func248.trans (congrArg some (by kernel_rfl))
 f280:=Tryz.func249.trans (congrArg some (by kernel_rfl))
 f281:=Tryz.func250.trans (congrArg some (by kernel_rfl))
 f282:=Tryz.func251.trans (congrArg some (by kernel_rfl))
 f283:=Tryz.func202.trans (congrArg some (by kernel_rfl))
 f284:=Tryz.func203.trans (congrArg some (by kernel_rfl))
 f285:=Tryz.func204.trans (congrArg some (by kernel_rfl))
 f286:=Tryz.func205.trans (congrArg some (by kernel_rfl))
 f287:=Tryz.func267.trans (congrArg some (by kernel_rfl))
 f316:=Tryz.func268.trans (congrArg some (by kernel_rfl))
 f317:=Tryz.func237.trans (congrArg some (by kernel_rfl))
 f318:=Tryz.func238.trans (congrArg some (by kernel_rfl))
 f319:=Tryz.func239.trans (congrArg some (by kernel_rfl))
 f320:=Tryz.func240.trans (congrArg some (by kernel_rfl))
 f321:=Tryz.func273.trans (congrArg some (by kernel_rfl))
 f322:=Tryz.func274.trans (congrArg some (by kernel_rfl))
 f337:=Tryz.func261.trans (congrArg some (by kernel_rfl))
 f338:=Tryz.func262.trans (congrArg some (by kernel_rfl))
 t0:=Tryz.underlying0
 a0:=Tryz.isAgg0
 z0:=Tryz.sizeOf0
 v0:=Tryz.zeroValue0
 t2:=Tryz.underlying2
 a2:=Tryz.isAgg2
 z2:=Tryz.sizeOf2
 v2:=Tryz.zeroValue2
 t3:=Tryz.underlying3
 a3:=Tryz.isAgg3
 z3:=Tryz.sizeOf3
 v3:=Tryz.zeroValue3
 t4:=Tryz.underlying4
 a4:=Tryz.isAgg4
 z4:=Tryz.sizeOf4
 v4:=Tryz.zeroValue4
 t5:=Tryz.underlying5
 a5:=Tryz.isAgg5
 z5:=Tryz.sizeOf5
 v5:=Tryz.zeroValue5
 t9:=Tryz.underlying9
 a9:=Tryz.isAgg9
 z9:=Tryz.sizeOf9
 v9:=Tryz.zeroValue9
 t20:=Tryz.underlying20
 a20:=Tryz.isAgg20
 z20:=Tryz.sizeOf20
 v20:=Tryz.zeroValue20
 t21:=Tryz.underlying21
 a21:=Tryz.isAgg21
 z21:=Tryz.sizeOf21
 v21:=Tryz.zeroValue21
 t37:=Tryz.underlying121
 a37:=Tryz.isAgg121
 z37:=Tryz.sizeOf121
 v37:=Tryz.zeroValue121
 t46:=Tryz.underlying165
 a46:=Tryz.isAgg165
 z46:=Tryz.sizeOf165
 v46:=Tryz.zeroValue165
 t51:=Tryz.underlying224
 a51:=Tryz.isAgg224
 z51:=Tryz.sizeOf224
 v51:=Tryz.zeroValue224
 t53:=Tryz.underlying191
 a53:=Tryz.isAgg191
 z53:=Tryz.sizeOf191
 v53:=Tryz.zeroValue191
 t75:=Tryz.underlying187
 a75:=Tryz.isAgg187
 z75:=Tryz.sizeOf187
 v75:=Tryz.zeroValue187
 t76:=Tryz.underlying188
 a76:=Tryz.isAgg188
 z76:=Tryz.sizeOf188
 v76:=Tryz.zeroValue188
 t85:=Tryz.underlying237
 a85:=Tryz.isAgg237
 z85:=Tryz.sizeOf237
 v85:=Tryz.zeroValue237
 t127:=Tryz.underlying231
 a127:=Tryz.isAgg231
 z127:=Tryz.sizeOf231
 v127:=Tryz.zeroValue231
 t143:=Tryz.underlying262
 a143:=Tryz.isAgg262
 z143:=Tryz.sizeOf262
 v143:=Tryz.zeroValue262
 t145:=Tryz.underlying264
 a145:=Tryz.isAgg264
 z145:=Tryz.sizeOf264
 v145:=Tryz.zeroValue264
 t167:=Tryz.underlying236
 a167:=Tryz.isAgg236
 z167:=Tryz.sizeOf236
 v167:=Tryz.zeroValue236
 t168:=Tryz.underlying239
 a168:=Tryz.isAgg239
 z168:=Tryz.sizeOf239
 v168:=Tryz.zeroValue239
 t171:=Tryz.underlying199
 a171:=Tryz.isAgg199
 z171:=Tryz.sizeOf199
 v171:=Tryz.zeroValue199
 t173:=Tryz.underlying202
 a173:=Tryz.isAgg202
 z173:=Tryz.sizeOf202
 v173:=Tryz.zeroValue202
 t175:=Tryz.underlying250
 a175:=Tryz.isAgg250
 z175:=Tryz.sizeOf250
 v175:=Tryz.zeroValue250
 t210:=Tryz.underlying255
 a210:=Tryz.isAgg255
 z210:=Tryz.sizeOf255
 v210:=Tryz.zeroValue255
 t212:=Tryz.underlying229
 a212:=Tryz.isAgg229
 z212:=Tryz.sizeOf229
 v212:=Tryz.zeroValue229
 t213:=Tryz.underlying230
 a213:=Tryz.isAgg230
 z213:=Tryz.sizeOf230
 t232:=Tryz.underlying259
 a232:=Tryz.isAgg259
 z232:=Tryz.sizeOf259
 v232:=Tryz.zeroValue259
 t233:=Tryz.underlying260
 a233:=Tryz.isAgg260
 z233:=Tryz.sizeOf260
 v233:=Tryz.zeroValue260
 g15:=by kernel_rfl
 g16:=by kernel_rfl
 g17:=by kernel_rfl
 g18:=by kernel_rfl
 g19:=by kernel_rfl
 t80:=Tryz.underlying207
 a80:=Tryz.isAgg207
 z80:=Tryz.sizeOf207
 v80:=Tryz.zeroValue207
 i0:=by kernel_rfl
 i2:=by kernel_rfl
 i3:=by kernel_rfl
 i4:=by kernel_rfl
 i5:=by kernel_rfl
 i9:=by kernel_rfl
 i20:=by kernel_rfl
 i21:=by kernel_rfl
 i37:=by kernel_rfl
 i46:=by kernel_rfl
 i51:=by kernel_rfl
 i53:=by kernel_rfl
 i75:=by kernel_rfl
 i76:=by kernel_rfl
 i80:=by kernel_rfl
 i85:=by kernel_rfl
 i127:=by kernel_rfl
 i143:=by kernel_rfl
 i145:=by kernel_rfl
 i167:=by kernel_rfl
 i168:=by kernel_rfl
 i171:=by kernel_rfl
 i173:=by kernel_rfl
 i175:=by kernel_rfl
 i210:=by kernel_rfl
 i212:=by kernel_rfl
 i232:=by kernel_rfl
 i233:=by kernel_rfl
 m15:=by kernel_rfl
 m16:=by kernel_rfl
 m17:=by kernel_rfl
 m18:=by kernel_rfl
 m19:=by kernel_rfl
 c0:=by kernel_rfl
 c2:=by kernel_rfl
 c3:=by kernel_rfl
 c4:=by kernel_rfl
 c5:=by kernel_rfl
 c9:=by kernel_rfl
 c20:=by kernel_rfl
 c21:=by kernel_rfl
 c37:=by kernel_rfl
 c46:=by kernel_rfl
 c51:=by kernel_rfl
 c53:=by kernel_rfl
 c75:=by kernel_rfl
 c76:=by kernel_rfl
 c80:=by kernel_rfl
 c85:=by kernel_rfl
 c127:=by kernel_rfl
 c143:=by kernel_rfl
 c145:=by kernel_rfl
 c167:=by kernel_rfl
 c168:=by kernel_rfl
 c171:=by kernel_rfl
 c173:=by kernel_rfl
 c175:=by kernel_rfl
 c210:=by kernel_rfl
 c212:=by kernel_rfl
 c213:=by kernel_rfl
 c232:=by kernel_rfl
 c233:=by kernel_rfl }
open Go.RowKit in
theorem Tryz.strconv_Atoi_ok (s:ByteArray) (hmax:s.size<=9223372036854775806) (v:Int) (h:Lib.atoiAll s.data.toList=.ok v) (w:World) :
  Calls Tryz.prog 191 #[.string s] w fun e w'=>e=.returned (.tuple #[.int .i64 v,.nilIface])/\(w'=w\/∃ t,w'=Lib.bytesWorld w 5 t):=Any.strconv_Atoi_ok Juq s hmax v h w
open Go.RowKit in
open Go.RowKit in
theorem Tryz.strconv_Atoi_range (s:ByteArray) (hlim:s.size<=281474976710656) (h:Lib.atoiAll s.data.toList=.range) (ev:Value) (w:World) (hv:w.cell? ⟨5,0,none⟩=some ev) (hev:ev=.nilIface\/∃ te pe,ev=.iface te pe) :
  Calls Tryz.prog 191 #[.string s] w fun e w'=>∃ N,e=.returned (.tuple #[.int .i64 (Lib.atoiSat s.data.toList),.iface 239 (.pointer (some ⟨N,0,none⟩))])/\w.heap.size<=N/\w'.heap[N]? = some (.cells #[.string ⟨#[65,116,111,105]⟩,.string s,ev] 255 (0,0))/\Below w.heap.size w w':=Any.strconv_Atoi_range Juq s hlim h ev w hv hev
def Tryz_lays197_renX:Go.Shelf.Ren:=⟨fun | 197=>199 | 260=>234 | n=>n,fun | 9=>9 | 21=>21 | 3=>3 | 4=>4 | 5=>5 | 105=>196 | 119=>161 | 0=>0 | 46=>165 | 139=>164 | 138=>163 | n=>n,fun | 3=>0 | 4=>1 | n=>n⟩
theorem J4b:Go.Proofs.Lays.n197 Tryz.prog Tryz_lays197_renX:={
 mixed:=by kernel_rfl
 f197:=Tryz.func199.trans (congrArg some (by kernel_rfl))
 f260:=Tryz.func234.trans (congrArg some (by kernel_rfl))
 t0:=Tryz.underlying0
 a0:=Tryz.isAgg0
 z0:=Tryz.sizeOf0
 v0:=Tryz.zeroValue0
 t3:=Tryz.underlying3
 a3:=Tryz.isAgg3
 z3:=Tryz.sizeOf3
 v3:=Tryz.zeroValue3
 t4:=Tryz.underlying4
 a4:=Tryz.isAgg4
 z4:=Tryz.sizeOf4
 v4:=Tryz.zeroValue4
 t5:=Tryz.underlying5
 a5:=Tryz.isAgg5
 z5:=Tryz.sizeOf5
 v5:=Tryz.zeroValue5
 t9:=Tryz.underlying9
 a9:=Tryz.isAgg9
 z9:=Tryz.sizeOf9
 v9:=Tryz.zeroValue9
 t21:=Tryz.underlying21
 a21:=Tryz.isAgg21
 z21:=Tryz.sizeOf21
 v21:=Tryz.zeroValue21
 t46:=Tryz.underlying165
 a46:=Tryz.isAgg165
 z46:=Tryz.sizeOf165
 v46:=Tryz.zeroValue165
 t105:=Tryz.underlying196
 a105:=Tryz.isAgg196
 z105:=Tryz.sizeOf196
 v105:=Tryz.zeroValue196
 t119:=Tryz.underlying161
 a119:=Tryz.isAgg161
 z119:=Tryz.sizeOf161
 t138:=Tryz.underlying163
 a138:=Tryz.isAgg163
 z138:=Tryz.sizeOf163
 v138:=Tryz.zeroValue163
 t139:=Tryz.underlying164
 a139:=Tryz.isAgg164
 z139:=Tryz.sizeOf164
 v139:=Tryz.zeroValue164
 g3:=by kernel_rfl
 g4:=by kernel_rfl }
open Go.RowKit Go.Lib in
theorem Tryz.utf8_DecodeRuneInString (s:ByteArray) (w:World) (hT:Lib.Utf8Tabs 0 1 w) :
  Calls Tryz.prog 199 #[.string s] w fun e w'=>e=.returned (.tuple #[.int .i32 (Lib.decodeGo s).1,.int .i64 (Lib.decodeGo s).2])/\Below w.heap.size w w':=Any.utf8_DecodeRuneInString J4b s w hT
def Tryz_lays7_27_renX:Go.Shelf.Ren:=⟨fun | 27=>240 | 28=>261 | 29=>262 | n=>n,fun | 25=>165 | 3=>3 | 27=>224 | 22=>191 | 4=>4 | 53=>259 | 0=>0 | 5=>5 | 54=>260 | n=>n,fun | 0=>6 | 1=>7 | n=>n⟩
theorem J2g:Go.Proofs.Lays7.n27 Tryz.prog Tryz_lays7_27_renX:={
 mixed:=by kernel_rfl
 f27:=Tryz.func240.trans (congrArg some (by kernel_rfl))
 f28:=Tryz.func261.trans (congrArg some (by kernel_rfl))
 f29:=Tryz.func262.trans (congrArg some (by kernel_rfl))
 t0:=Tryz.underlying0
 a0:=Tryz.isAgg0
 z0:=Tryz.sizeOf0
 v0:=Tryz.zeroValue0
 i0:=by kernel_rfl
 t3:=Tryz.underlying3
 a3:=Tryz.isAgg3
 z3:=Tryz.sizeOf3
 v3:=Tryz.zeroValue3
 i3:=by kernel_rfl
 t4:=Tryz.underlying4
 a4:=Tryz.isAgg4
 z4:=Tryz.sizeOf4
 v4:=Tryz.zeroValue4
 i4:=by kernel_rfl
 t5:=Tryz.underlying5
 a5:=Tryz.isAgg5
 z5:=Tryz.sizeOf5
 v5:=Tryz.zeroValue5
 i5:=by kernel_rfl
 t22:=Tryz.underlying191
 a22:=Tryz.isAgg191
 z22:=Tryz.sizeOf191
 v22:=Tryz.zeroValue191
 i22:=by kernel_rfl
 t25:=Tryz.underlying165
 a25:=Tryz.isAgg165
 z25:=Tryz.sizeOf165
 v25:=Tryz.zeroValue165
 i25:=by kernel_rfl
 t27:=Tryz.underlying224
 a27:=Tryz.isAgg224
 z27:=Tryz.sizeOf224
 v27:=Tryz.zeroValue224
 i27:=by kernel_rfl
 t53:=Tryz.underlying259
 a53:=Tryz.isAgg259
 z53:=Tryz.sizeOf259
 v53:=Tryz.zeroValue259
 i53:=by kernel_rfl
 t54:=Tryz.underlying260
 a54:=Tryz.isAgg260
 z54:=Tryz.sizeOf260
 g0:=by kernel_rfl
 g1:=by kernel_rfl }
def Tryz_lays196_renX:Go.Shelf.Ren:=⟨fun | 196=>134 | 259=>164 | n=>n,fun | 9=>9 | 4=>4 | 3=>3 | 5=>5 | 12=>12 | 119=>161 | 0=>0 | 46=>165 | 139=>164 | 138=>163 | 53=>191 | n=>n,fun | 3=>0 | 4=>1 | n=>n⟩
theorem J34:Go.Proofs.Lays.n196 Tryz.prog Tryz_lays196_renX:={
 mixed:=by kernel_rfl
 f196:=Tryz.func134.trans (congrArg some (by kernel_rfl))
 f259:=Tryz.func164.trans (congrArg some (by kernel_rfl))
 t0:=Tryz.underlying0
 a0:=Tryz.isAgg0
 z0:=Tryz.sizeOf0
 v0:=Tryz.zeroValue0
 t3:=Tryz.underlying3
 a3:=Tryz.isAgg3
 z3:=Tryz.sizeOf3
 v3:=Tryz.zeroValue3
 t4:=Tryz.underlying4
 a4:=Tryz.isAgg4
 z4:=Tryz.sizeOf4
 v4:=Tryz.zeroValue4
 t5:=Tryz.underlying5
 a5:=Tryz.isAgg5
 z5:=Tryz.sizeOf5
 v5:=Tryz.zeroValue5
 t9:=Tryz.underlying9
 a9:=Tryz.isAgg9
 z9:=Tryz.sizeOf9
 v9:=Tryz.zeroValue9
 t12:=Tryz.underlying12
 a12:=Tryz.isAgg12
 z12:=Tryz.sizeOf12
 v12:=Tryz.zeroValue12
 t46:=Tryz.underlying165
 a46:=Tryz.isAgg165
 z46:=Tryz.sizeOf165
 v46:=Tryz.zeroValue165
 t53:=Tryz.underlying191
 a53:=Tryz.isAgg191
 z53:=Tryz.sizeOf191
 v53:=Tryz.zeroValue191
 t119:=Tryz.underlying161
 a119:=Tryz.isAgg161
 z119:=Tryz.sizeOf161
 t138:=Tryz.underlying163
 a138:=Tryz.isAgg163
 z138:=Tryz.sizeOf163
 v138:=Tryz.zeroValue163
 t139:=Tryz.underlying164
 a139:=Tryz.isAgg164
 z139:=Tryz.sizeOf164
 v139:=Tryz.zeroValue164
 g3:=by kernel_rfl
 g4:=by kernel_rfl }
end Go.Proofs
set_option maxRecDepth 100000
namespace Go.LX
open Go Go.RowKit Go.Proofs Go.Proofs.Tryz
def Jk8 (g:Nat) (w:World):Prop:=∃ te pe,w.cell? ⟨g,0,none⟩=some (.iface te pe)
theorem gPow:Tryz.prog.globalNamed "internal/strconv.uint64pow10" = some 2:=kr
structure QuoteG (w:World) (Im:Nat->Prop):Prop where
 tabs:Lib.Utf8Tabs 0 1 w
 syn:Jk8 4 w
 rng:Jk8 5 w
 tz:TabAt 7 Lib.deBruijn64tab w
 pow:Lib.TabIs Tryz.prog w "internal/strconv.uint64pow10" .u64 Lib.pow10Tab
 i1:Im 0
 i2:Im 1
 i3:Im 4
 i4:Im 5
 i5:Im 7
 i6:Im 2
theorem QuoteG.mono {w w':World} {Im Im':Nat->Prop} (hk:Keeps w Im w' Im') (h:QuoteG w Im):QuoteG w' Im' where
 tabs:=by
  refine ⟨fun c hc=>(hk.cell (a:=⟨_,c,none⟩) h.i1).trans (h.tabs.1 c hc),fun i hi=>⟨(hk.cell (a:=⟨_,_,none⟩) h.i2).trans (h.tabs.2 i hi).1,(hk.cell (a:=⟨_,_,none⟩) h.i2).trans (h.tabs.2 i hi).2⟩⟩
 syn:=by obtain ⟨te,pe,e⟩:=h.syn;exact ⟨te,pe,(hk.cell (a:=⟨_,0,none⟩) h.i3).trans e⟩
 rng:=by obtain ⟨te,pe,e⟩:=h.rng;exact ⟨te,pe,(hk.cell (a:=⟨_,0,none⟩) h.i4).trans e⟩
 tz:=fun j hj=>(hk.cell (a:=⟨_,j,none⟩) h.i5).trans (h.tz j hj)
 pow:=by
  have:=h.pow;unfold Lib.TabIs World.var? at this ⊢;rw[gPow] at this ⊢;simp only[Option.bind_some] at this ⊢;rw[hk.block _ h.i6];exact this
 i1:=hk.im _ h.i1
 i2:=hk.im _ h.i2
 i3:=hk.im _ h.i3
 i4:=hk.im _ h.i4
 i5:=hk.im _ h.i5
 i6:=hk.im _ h.i6
def Kfa (f:Nat):Nat:=if f=245 then 1 else if f=266 then 1 else if f=265 then 2 else if f=142 then 1 else if f=180 then 3 else if f=182 then 3 else if f=143 then 1 else if f=144 then 1 else if f=166 then 1 else if f=97 then 1 else if f=98 then 1 else if f=70 then 1 else 0
noncomputable def cx:Cx:=⟨Tryz.prog,QuoteG,QuoteG.mono,Kfa,fun _=>false⟩
@[go_sem] theorem cx_P:cx.P=Tryz.prog:=(rfl)
@[go_sem] theorem cx_kind {f:Nat}:cx.kind f=if f=245 then 1 else if f=266 then 1 else if f=265 then 2 else if f=142 then 1 else if f=180 then 3 else if f=182 then 3 else if f=143 then 1 else if f=144 then 1 else if f=166 then 1 else if f=97 then 1 else if f=98 then 1 else if f=70 then 1 else 0:=(rfl)
@[go_sem] theorem cx_keep {t:Nat}:cx.keep t=false:=(rfl)
theorem Jbj {w:World} {Im:Nat->Prop} (h:cx.G w Im):QuoteG w Im:=h
theorem bgoR {f:FuncId} {fn:Func} {c:Code} {args:List L} {rs:Regs} {Post:L->Regs->Prop} (own:Bool) (rn:List (Nat×Nat)) (hf:cx.P.funcs[f]? = some fn)
  (h:lwp cx none c (Jed cx.P own rn fn.results.toList (rs.map (·.1)) Post) ⟨Ba fn.ntmps (argW 0 args),rs⟩) (hrn:∀ x∈rn,x.2<1000\/500000<=x.2:=by simp) (hname:(fn.name == "runtime.NumGoroutine")=false:=by kernel_rfl) (hb:fn.body=some c:=by rfl)
  (hn:args.length<=fn.ntmps:=by exact Nat.le_of_ble_eq_true rfl) (h900:900 ∉ rs.map (·.1):=by simp):Al cx f args rs Post:=Jvz own rn hf (Ae hm c _ _ h) hrn hname hb hn h900
theorem bgo {f:FuncId} {fn:Func} {c:Code} {args:List L} {rs:Regs} {Post:L->Regs->Prop} (hf:cx.P.funcs[f]? = some fn)
  (h:lwp cx none c (Jed cx.P false [] fn.results.toList (rs.map (·.1)) Post) ⟨Ba fn.ntmps (argW 0 args),rs⟩) (hname:(fn.name == "runtime.NumGoroutine")=false:=by kernel_rfl) (hb:fn.body=some c:=by rfl)
  (hn:args.length<=fn.ntmps:=by exact Nat.le_of_ble_eq_true rfl) (h900:900 ∉ rs.map (·.1):=by simp):Al cx f args rs Post:=bgoR false [] hf h sm hname hb hn h900
theorem lws {ro:Option Nat} {c:Code} {Q:Ex->St->Prop} {s:St} (h:lwp cx ro c Q s):SWP cx ro c Q s:=Ae hm c Q s h
theorem Jqm {ro:Option Nat} {id:Nat} {ops:Array Oper} {Q:Ex->St->Prop} {s:St} (h:Jf cx (ops.toList.map (·.dst)) ops.toList (Q .normal) s) (h0:Jd9 ops.toList=true:=by rfl) (hB:Region.lexB .any ops=true:=by kernel_rfl):SWP cx ro (.region id ops true) Q s:=J51 hm h h0 hB
attribute [go_sem] ntmps12 results12 ntmps13 results13 ntmps14 results14 ntmps15 results15 ntmps16 results16 ntmps17 results17 ntmps18 results18 ntmps19 results19 ntmps20 results20 ntmps21 results21 ntmps22 results22 ntmps23 results23 ntmps24 results24 ntmps25 results25 ntmps27 results27 ntmps28 results28 ntmps29 results29 ntmps30 results30 ntmps31 results31 ntmps32 results32 ntmps33 results33 ntmps34 results34 ntmps35 results35 ntmps36 results36 ntmps37 results37 ntmps38 results38 ntmps39 results39 ntmps40 results40 ntmps41 results41 ntmps42 results42 ntmps43 results43 ntmps44 results44 ntmps45 results45 ntmps46 results46 ntmps47 results47 ntmps48 results48 ntmps49 results49 ntmps50 results50 ntmps51 results51 ntmps52 results52 ntmps53 results53 ntmps54 results54 ntmps55 results55 ntmps56 results56 ntmps57 results57 ntmps58 results58 ntmps59 results59 ntmps60 results60 ntmps61 results61 ntmps62 results62 ntmps63 results63 ntmps64 results64 ntmps65 results65 ntmps66 results66 ntmps67 results67 ntmps68 results68 ntmps69 results69 ntmps71 results71 ntmps72 results72 ntmps73 results73 ntmps74 results74 ntmps75 results75 ntmps76 results76 ntmps77 results77 ntmps78 results78 ntmps79 results79 ntmps80 results80 ntmps81 results81 ntmps82 results82 ntmps83 results83 ntmps84 results84 ntmps85 results85 ntmps86 results86 ntmps87 results87 ntmps88 results88 ntmps89 results89 ntmps90 results90 ntmps92 results92 ntmps93 results93 ntmps94 results94 ntmps95 results95 ntmps99 results99 ntmps100 results100 ntmps101 results101 ntmps102 results102 ntmps103 results103 ntmps104 results104 ntmps105 results105 ntmps106 results106 ntmps107 results107 ntmps108 results108 ntmps109 results109 ntmps110 results110 ntmps111 results111 ntmps112 results112 ntmps113 results113 ntmps114 results114 ntmps115 results115 ntmps116 results116 ntmps117 results117 ntmps118 results118 ntmps119 results119 ntmps120 results120 ntmps121 results121 ntmps122 results122 ntmps123 results123 ntmps124 results124 ntmps125 results125 ntmps126 results126 ntmps127 results127 ntmps128 results128 ntmps129 results129 ntmps130 results130 ntmps131 results131 ntmps132 ntmps133 results133 ntmps135 results135 ntmps136 results136 ntmps137 results137 ntmps140 results140 ntmps142 results142 ntmps143 results143 ntmps144 results144 ntmps145 results145 ntmps146 results146 ntmps147 results147 ntmps148 results148 ntmps149 results149 ntmps150 results150 ntmps151 results151 ntmps152 results152 ntmps153 results153 ntmps154 results154 ntmps155 results155 ntmps156 results156 ntmps157 ntmps158 results158 ntmps159 results159 ntmps160 results160 ntmps161 results161 ntmps162 results162 ntmps163 results163 ntmps165 results165 ntmps167 ntmps169 results169 ntmps177 results177 ntmps178 results178 ntmps179 results179 ntmps184 results184 ntmps185 results185 ntmps186 results186 ntmps187 results187 ntmps188 results188 ntmps189 results189 ntmps192 results192 ntmps193 results193 ntmps205 results205 ntmps208 results208 ntmps209 results209 ntmps210 results210 ntmps211 results211 ntmps212 results212 ntmps213 results213 ntmps214 results214 ntmps215 results215 ntmps216 results216 ntmps220 results220 ntmps221 results221 ntmps235 results235 ntmps239 results239 ntmps242 results242 ntmps243 results243 ntmps244 results244 ntmps245 results245 ntmps252 results252 ntmps258 results258 ntmps263 results263 ntmps264 results264 ntmps266 results266 ntmps267 results267 ntmps270 results270 ntmps272 results272 ntmps273 results273 ntmps275 results275 ntmps276 results276 ntmps277 results277
end Go.LX
namespace Go.LX
open Go
structure Node where
 kind:Int
 many:Int
 name:List UInt8
 s:List UInt8
 neg:Bool
 e:Int
def Node.cells (n:Node):List PV:=[.int .i64 n.kind,.int .i64 n.many,.str n.name,.str n.s,.bool n.neg,.int .i64 n.e]
def valL (v:List Node):List (List PV):=v.map Node.cells
mutual
inductive Tree where
 | mk (kind:Int) (s:List UInt8) (neg:Bool) (e:Int) (kids:Forest)
inductive Forest where
 | nil
 | cons (name:List UInt8) (t:Tree) (rest:Forest)
end
def Forest.len:Forest->Nat
 | .nil=>0
 | .cons _ _ r=>r.len+1
mutual
def Tree.enc (name:List UInt8):Tree->List Node
 | .mk k s g e kids=>⟨k,kids.len,name,s,g,e⟩ :: kids.enc
def Forest.enc:Forest->List Node
 | .nil=>[]
 | .cons nm t r=>t.enc nm ++ r.enc
end
def Forest.app:Forest->Forest->Forest
 | .nil,g=>g
 | .cons nm t r,g=>.cons nm t (r.app g)
theorem Jrz:∀ f g:Forest,(f.app g).len=f.len+g.len
 | .nil,g=>by simp[Forest.app,Forest.len]
 | .cons nm t r,g=>by simp only[Forest.app,Forest.len,Jrz r g];omega
theorem Jqk:∀ f g:Forest,(f.app g).enc=f.enc ++ g.enc
 | .nil,g=>by simp[Forest.app,Forest.enc]
 | .cons nm t r,g=>by simp only[Forest.app,Forest.enc,Jqk r g,Ea2]
theorem A6 {name:List UInt8} {k:Int} {s:List UInt8} {g:Bool} {e:Int} {kids:Forest}:(Tree.mk k s g e kids).enc name=⟨k,kids.len,name,s,g,e⟩ :: kids.enc:=by rw[Tree.enc]
theorem A0 {nm:List UInt8} {t:Tree} {r:Forest}:(Forest.cons nm t r).enc=t.enc nm ++ r.enc:=by rw[Forest.enc]
theorem Bl:Forest.nil.enc=[]:=by rw[Forest.enc]
theorem Et (t:Tree) (nm:List UInt8):1<=(t.enc nm).length:=by
 cases t;rw[A6];simp
theorem Jqi:∀ f:Forest,f.len<=f.enc.length
 | .nil=>by simp[Forest.len]
 | .cons nm t r=>by
  have:=Et t nm;have:=Jqi r;rw[A0,Eac,Forest.len];omega
@[simp] theorem A7 (v:List Node):(valL v).length=v.length:=by simp[valL]
theorem Nh (n:Node) (v:List Node):valL (n :: v)=n.cells :: valL v:=rfl
theorem Jjy:valL []=[]:=rfl
theorem Ji (a b:List Node):valL (a ++ b)=valL a ++ valL b:=by simp[valL]
theorem C9 {k m:Int} {nm s:List UInt8} {g:Bool} {e:Int}:Node.cells ⟨k,m,nm,s,g,e⟩=[.int .i64 k,.int .i64 m,.str nm,.str s,.bool g,.int .i64 e]:=rfl
theorem E7 (v:List Node):∀ q∈valL v,q.length=6:=by
 intro q hq;obtain ⟨n,_,rfl⟩:=Eap.1 hq;rfl
theorem Tf {v:List Node} {i:Nat} {a b:List Node} (h:v.drop i=a ++ b):((valL v).drop i).take a.length=valL a:=by
 have:(valL v).drop i=valL a ++ valL b:=by rw[<- Ji,<- h];simp[valL,Ec2]
 rw[this];simp
theorem D5 {v:List Node} {i:Nat} {n:Node} {b:List Node} (h:v.drop i=n :: b):(valL v)[i]? = some n.cells:=by
 have:v[i]? = some n:=by
  have:=congrArg (·[0]?) h;simpa using this
 simp[valL,this]
theorem L9 {v:List Node} {i:Nat} {a:List Node} (h:v.drop i=a) (ha:a≠[]):i+a.length=v.length:=by
 have:=congrArg List.length h;simp at this;have:1<=a.length:=by cases a<;>simp_all
 omega
def Forest.list:Forest->List (List UInt8×Tree)
 | .nil=>[]
 | .cons nm t r=>(nm,t) :: r.list
theorem Jqh:∀ f:Forest,f.list.length=f.len
 | .nil=>rfl
 | .cons _ _ r=>by simp[Forest.list,Forest.len,Jqh r]
def Tree.kids:Tree->Forest
 | .mk _ _ _ _ k=>k
def Tree.kind:Tree->Int
 | .mk k _ _ _ _=>k
end Go.LX
set_option maxRecDepth 100000
set_option maxHeartbeats 2000000
namespace Go.LX
open Go Go.RowKit Go.Proofs Go.Proofs.Tryz
attribute [local irreducible] Al SWP Bi
theorem wj1 {i:Nat} (h:i<=3000000000000000):IntKind.i64.wrap ((i:Int)+1)=((i+1:Nat):Int):=by rw[Aa omg omg];omega
theorem Hp (v:List Node):Det cx 125 [.p (.sl (valL v))] [] (.fn 157 [900]) [(900,.var 25 [.p (.sl (valL v))])]:=by
 (refine bgoR true [(1,900)] func125 ?_;simp only[go_sem,simprocAttr])
theorem Kka {nm:List UInt8} {t:Tree} {r:Forest}:(Forest.cons nm t r).len=r.len+1:=rfl
theorem Zu (v:List Node) (i:Nat) (nm:List UInt8) (t:Tree) (rest:List Node) (hv:v.length<=1500000000000) (h:v.drop i=t.enc nm ++ rest):Det cx 158 [.p (.sl (valL v)),.p (.int .i64 i)] [] (.p (.int .i64 (i+(t.enc nm).length:Nat))) []:=by
 (refine bgo func158 ?_;simp only[go_sem,simprocAttr]);have hp:=Et t nm;have hb:=L9 h (fun e=>by have e2:(t.enc nm ++ rest).length=0:=(by rw[e];rfl);rw[Eac] at e2;omega);rw[Eac] at hb;refine SWP.loop (fun x:Nat×Nat×Forest=>⟨Ba 19 [(0,.p (.sl (valL v))),(1,.p (.int .i64 x.1)),(5,.p (.int .i64 x.2.1))],[]⟩) (fun x=>x.2.1=x.2.2.len/\v.drop x.1=x.2.2.enc ++ rest/\x.1+x.2.2.enc.length=i+(t.enc nm).length) (fun x=>x.2.2.enc.length) (i,1,.cons nm t .nil) Jqc ⟨rfl,by simp[A0,Bl,h],by simp[A0,Bl]⟩ ?_;rintro ⟨j,left,F⟩ ⟨h0,h1,h2⟩;simp only at h0 h1 h2
 match F,h0,h1,h2 with
 | .nil,h0,h1,h2 =>
  rw[Bl] at h2;simp only[Forest.len] at h0;subst h0;(refine lws ?_;simp only[go_sem,simprocAttr]);simp only[Ea8] at h2;omega
 | .cons nm' (.mk k s g e kids) r,h0,h1,h2 =>
  rw[Kka] at h0;rw[A0,A6] at h1 h2;have hg:=D5 h1;rw[C9] at hg;simp only[Ead,Eac] at h2;have hl1:=Jqi kids;have hl2:=Jqi r;have w0:IntKind.i64.wrap ((kids.len:Int) - 1)=(kids.len:Int) - 1:=Aa omg omg;have w1:IntKind.i64.wrap ((left:Int)+((kids.len:Int) - 1))=((r.len+kids.len:Nat):Int):=by rw[Aa omg omg];omega
  (refine lws ?_;simp only[go_sem,simprocAttr,wj1 (i:=j) omg,hg,w0,w1]);(repeat'(first|(apply iteI<;>intro h)|(exfalso;omega)))
  ·exact ⟨(j+1,r.len+kids.len,kids.app r),⟨by simp only[Jrz];omega,by
    simp only[Jqk];rw[<- Ebj,h1];simp,by simp only[Jqk,Eac];omega⟩,by simp only[Jqk,A0,A6,Eac,Ead];omega,Jqc⟩
theorem Jdc (c:List PV) (cs:List (List PV)) (h6:∀ q∈c :: cs,q.length=6) (hl:cs.length<=1500000000000):Det cx 159 [.p (.sl (c :: cs))] [] (.own 900 0 (cs.length+1)) [(900,.row 36 6 (c :: cs))]:=by
 (refine bgoR true [(7,900)] func159 ?_;simp only[go_sem,simprocAttr]);(repeat'(first|refine Jqj ?_|fail));omega
def Dp (f:Forest):List (List PV):=f.list.map fun p=>[.str p.1,.sl (valL (p.2.enc []))]
theorem E4 (f:Forest):(Dp f).length=f.len:=by simp[Dp,Jqh]
theorem Rt (nm:List UInt8) (kd:Int) (s:List UInt8) (g:Bool) (e:Int) (kids:Forest) (hv:kids.enc.length<=1499999999999):Tb cx 157 [.eptr [.sl (valL ((Tree.mk kd s g e kids).enc nm))]] (Dp kids):=by
 have hl:=Jqi kids;generalize hvv:(Tree.mk kd s g e kids).enc nm=v;have h0:v.drop 0=⟨kd,kids.len,nm,s,g,e⟩ :: kids.enc:=by rw[<- hvv,A6];rfl
 have hg0:=D5 h0;rw[C9] at hg0;have hvl:v.length=kids.enc.length+1:=by rw[<- hvv,A6];rfl
 (refine Juw (X:=cx) func157 kr rfl kr (by simp only[Ead,Ea8,ntmps157];decide) fun l=>?_;refine N9 _ _ _ _ ?_;simp only[ntmps157,go_sem,simprocAttr,hg0]);refine JWP.loop (fun x:Nat×Nat×Forest=>(some x.1,⟨Ba 34 [(0,.yld l),(1,.eptr [.sl (valL v)]),(3,.p (.int .i64 x.2.1)),(9,.p (.int .i64 kids.len)),(10,.p (.int .i64 x.1))],[]⟩)) (fun x=>x.1+x.2.2.len=kids.len/\v.drop x.2.1=x.2.2.enc/\x.2.1+x.2.2.enc.length=v.length/\(Dp kids).drop x.1=Dp x.2.2) (fun x=>x.2.2.enc.length) (0,1,kids) rfl Jqc ⟨by simp,by rw[<- hvv,A6];rfl,by simp only;omega,rfl⟩ ?_;rintro ⟨k,j,F⟩ ⟨h1,h2,h3,h4⟩;simp only at h1 h2 h3 h4 ⊢
 match F,h1,h2,h3,h4 with
 | .nil,h1,h2,h3,h4 =>
  simp only[Forest.len] at h1;(refine N9 _ _ _ _ ?_;simp only[go_sem,simprocAttr]);(repeat'(first|(apply iteI<;>intro h)|(exfalso;omega)));rw[E4];exact .inl (by congr 1)
 | .cons nm' (.mk k' s' g' e' kids') r,h1,h2,h3,h4 =>
  rw[Kka] at h1;rw[A0] at h2 h3;rw[Eac] at h3;have hs:=Tf h2;rw[A6] at h3;simp only[Ead] at h3;have hs':((valL v).drop j).take (j+((Tree.mk k' s' g' e' kids').enc nm').length - j)=[.int .i64 k',.int .i64 kids'.len,.str nm',.str s',.bool g',.int .i64 e'] :: valL kids'.enc:=by
   rw[Ec4,hs,A6,Nh,C9]
  have h2':=h2;rw[A6] at h2';have hg:=D5 h2';rw[C9] at hg;have hel:((Tree.mk k' s' g' e' kids').enc nm').length=kids'.enc.length+1:=by rw[A6];rfl
  have h6:∀ q∈[.int .i64 k',.int .i64 kids'.len,.str nm',.str s',.bool g',.int .i64 e'] :: valL kids'.enc,q.length=6:=fun q hq=>E7 ((Tree.mk k' s' g' e' kids').enc nm') q (by rw[A6];exact hq)
  have htk:(valL kids'.enc).take kids'.enc.length=valL kids'.enc:=Eae sm;(refine N9 _ _ _ _ ?_;simp only[go_sem,simprocAttr,wj1 (i:=k) omg]);(repeat'(first|(refine And.intro (E7 _) ?_)|(apply iteI<;>intro h)|refine Jqj ?_|((first|(refine Jqa (Zu v j nm' (.mk k' s' g' e' kids') r.enc omg h2) ?_)|(refine Jqa (Jdc _ _ h6 (by rw[A7];omega)) ?_));simp only[go_sem,simprocAttr,htk,Eah,hg,hs',A7,wj1 (i:=k) omg])|(exfalso;omega)));refine ⟨?_,⟨(k+1,j+((Tree.mk k' s' g' e' kids').enc nm').length,r),⟨by simp only;omega,by simp only;rw[<- Ebj,h2,Edh],by simp only;omega,by simp only;rw[<- Ebj,h4];rfl⟩,by simp only[A0,Eac];omega,rfl,Jqc⟩,.inr trivial⟩;have:=congrArg (·[0]?) h4;simp only[Eco,Nat.add_zero] at this;rw[this];simp[Dp,Forest.list,A6,Nh,C9]
def A4 (l:List (List UInt8×Tree)):List (List PV):=l.map fun p=>[.sl (valL (p.2.enc []))]
@[simp] theorem Jen:A4 []=[]:=rfl
theorem Gs {l:List (List UInt8×Tree)} {k:Nat} {p:List UInt8×Tree} (h:l[k]? = some p):A4 (l.take (k+1))=A4 (l.take k) ++ [[.sl (valL (p.2.enc []))]]:=by
 rw[Ebc,h];simp[A4]
theorem Fq {f:Forest} {k:Nat} {x:List PV} (h:(Dp f)[k]? = some x):∃ p,f.list[k]? = some p/\x=[.str p.1,.sl (valL (p.2.enc []))]:=by
 unfold Dp at h;rw[Eam] at h;obtain ⟨p,h1,h2⟩:=Eal.1 h;exact ⟨p,h1,h2.symm⟩
theorem Fn {f:Forest} {x:List PV} (h:x∈Dp f):x.length=2:=by
 obtain ⟨p,_,rfl⟩:=Eap.1 h;rfl
theorem A5 (l:List (List UInt8×Tree)):(A4 l).length=l.length:=by simp[A4]
theorem Px (nm:List UInt8) (kd:Int) (s:List UInt8) (g:Bool) (e:Int) (kids:Forest) (hv:kids.enc.length<=1499999999999):Det cx 68 [.p (.sl (valL ((Tree.mk kd s g e kids).enc nm)))] [] (.p (.sl (A4 kids.list))) []:=by
 (refine bgo func68 ?_;simp only[go_sem,simprocAttr]);(repeat'(first|((refine Jqa (Hp _) ?_);simp only[go_sem,simprocAttr])|fail));(refine SWP.range (Dp kids) 15 [(13,900)] sm _ _ _ _ _ (fun k R=>R=if k=0 then [(1000,.var 53 [.p .snil])] else [(900,.row 25 1 (A4 (kids.list.take k))),(1000,.var 53 [.own 900 0 k])]) (fun _ _=>False) (by rfl) (by rfl) (by rfl) (Rt nm kd s g e kids hv) (by simp only[go_sem,simprocAttr]<;>rfl) (by first|rfl | simp[Cg]) sm ?hps (by simp only[go_sem,simprocAttr]<;>rfl) (by simp only[go_sem,simprocAttr]<;>rfl) (by simp only[go_sem,simprocAttr]<;>rfl) ?h0 ?hkI ?hkS ?hSn ?round ?done ?stop)
 case hps=>exact fun x hx=>Fn hx
 case h0=>rfl
 case hkI=>rintro k R rfl;split<;>simp[Hg,findKey]
 case hkS=>exact fun _ _ h=>h.elim
 case hSn=>exact fun _ h=>h
 case stop=>exact fun _ _ h=>h.elim
 case round =>
  rintro k x R l hx rfl;obtain ⟨p,hp,rfl⟩:=Fq hx;by_cases hk:k=0
  ·subst hk;rw[if_pos rfl];simp only[go_sem,simprocAttr];(refine lws ?_;simp only[go_sem,simprocAttr]);refine ⟨by simp,_,rfl,?_⟩;rw[Gs hp];exact (Jqt (by simp only[Ar]) (by simp (disch:=omega) [Az,A3,Aw,Am,Af,Ai,Au,Aa]) (by simp[Ay]))
  ·rw[if_neg hk];have hkl:=(Eab.1 hp).1;rw[Jqh] at hkl;have hll:=Jqi kids;simp only[go_sem,simprocAttr];(refine lws ?_;simp only[go_sem,simprocAttr]);refine ⟨by simp,by rw[A5,Eay,Jqh];omega,omg,omg,_,rfl,?_⟩;rw[Gs hp];exact (Jqt (by simp only[Ar]) (by simp (disch:=omega) [Az,A3,Aw,Am,Af,Ai,Au,Aa]) (by simp[Ay]))
 case done =>
  rintro R rfl;rw[E4];have hll:=Jqh kids;by_cases hk:kids.len=0
  ·rw[if_pos hk];have hnil:kids.list=[]:=Ean omg;rw[hnil];simp only[go_sem,simprocAttr];refine ⟨⟨Ba 15 [(3,.ptr 3 0 0)],[(3,.var 53 [.p (.sl [])])]⟩,Jqc,?_⟩;simp only[go_sem,simprocAttr];rfl
  ·rw[if_neg hk];have htk:kids.list.take kids.len=kids.list:=Eae omg;rw[htk];have hpl:(kids.len<=(A4 kids.list).length)=True:=eq_true (by rw[A5];omega);have hpt:(A4 kids.list).take kids.len=A4 kids.list:=Eae (by rw[A5];omega);simp only[go_sem,simprocAttr];refine ⟨_,St.Le.refl _,?_⟩;simp only[go_sem,simprocAttr,hpl,hpt]
end Go.LX
