/- Functions that yield: what a round keeps; a walk that counts its rounds. -/
import Derived.Test.YtaghbedfogiopaaGreatDoorTxE
import Derived.RangeFuncNested
import Derived.Test.YtaghbedfogiopaaGreatDoorProg
import Derived.Shelf.Strings.Trim
import Derived.Shelf.Small.Wraps
import Derived.Shelf.Strings.BuilderF
import Derived.Shelf.Strconv.Itoa4
import Derived.Shelf.Strconv.ErrVarAll
import Derived.Shelf.Strconv.ParseUintEmpty
import Derived.Shelf.Unicode.Decode
import Derived.Shelf.Strings.IndexAnyAll
import Derived.Shelf.Strings.FuncGrows
import Derived.Shelf.Slices.SearchI
import Derived.Shelf.Slices.Cells
import Derived.Shelf.SlicesE.Reverse
import Derived.Shelf.Spec.TrailingZeros
import Derived.Shelf.Unicode.ValidAny
set_option linter.all false
namespace Go.LX
open Go Go.RowKit Go.Proofs Go.Proofs.Tryz
variable {w:World}{Im:Nat->Prop}(X:Cx){Γ:FH}{β:ET}{tmps t:Array Value}(xs:List (List PV)){a:Act}{o:Oper}{k ro:Option Nat}{ι:Type}{f:FuncId}{fn:Func}{c:Code}{args:List Operand}{d n l l':Nat}{rs:BX}{ρ:Ren}{ls cs:List L}{x:Operand}{T tx:TypeId}{ops:Array Oper}{VV:Array TypeId}{ys:List PV}{rn:List (Nat×Nat)}
structure IC (w:World) (Im:Nat->Prop) (w':World) (CX:Nat->Prop):Prop where
 os:w'.os=w.os
 tape:w'.tape=w.tape
 output:w'.output=w.output
 size:w.heap.size<=w'.heap.size
 im:∀b,Im b->CX b
 block:∀b,Im b->w'.heap[b]?=w.heap[b]?
 lt:∀b,CX b->b<w'.heap.size
def IC.refl(h:∀b,Im b->b<w.heap.size):IC w Im w Im:=
 ⟨rfl,rfl,rfl,CS _,fun _ h=>h,fun _ _=>rfl,h⟩
def IC.trans{w w1 w2:World}{Im OV WM:Nat->Prop}(h:IC w Im w1 OV)(k:IC w1 OV w2 WM):IC w Im w2 WM:=
 ⟨k.os.trans h.os,k.tape.trans h.tape,k.output.trans h.output,Nat.le_trans h.size k.size,fun b hb=>k.im b (h.im b hb),fun b hb=>(k.block b (h.im b hb)).trans (h.block b hb),k.lt⟩
def IC.keeps{w':World}{CX:Nat->Prop}(h:IC w Im w' CX):ED w Im w' CX:=⟨h.im,h.block⟩
def Jw1{w':World}{CX:Nat->Prop}(h:DY w Im w' CX)(hi:∀b,Im b->b<w.heap.size):IC w Im w' CX:=
 ⟨h.os,h.tape,h.output,h.size,h.im,fun b hb=>h.block b (hi b hb),h.lt⟩
abbrev Gh:=Option Nat->World->(Nat->Prop)->Prop
def sS(J:Gh):Prop:=∀(k:Option Nat) (w:World) (Im:Nat->Prop) (w':World) (CX:Nat->Prop),(∀b,Im b->b<w.heap.size)->J k w Im->DY w Im w' CX->J k w' CX
def g_(w:World)(Im:Nat->Prop)(us:List Value)(x:List PV):Prop:=us.length=x.length/\∀(i:Nat) (v:Value) (p:PV),us[i]?=some v->x[i]?=some p->BW w Im v p
def YAt(l:Nat)(args:Array Value)(w:World)(R:Ending->World->Prop):Prop := ∃fn tmps assign body,(Instr.yield l args).run X.P w=.ok (.round l fn tmps assign body) w/\RoundIn (F0 none) 0 X.P l fn tmps assign body w R
def sT(l:Nat)(J:Gh)(xs:List (List PV)):Prop:=∀(k:Nat) (x:List PV),xs[k]?=some x->∀(w:World) (Im:Nat->Prop) (us:List Value),J (some k) w Im->X.G w Im->(∀b,Im b->b<w.heap.size)->g_ w Im us x ->
 YAt X l ⟨us⟩ w fun e w'=>∃CX,IC w Im w' CX/\((e=.returned (.bool true)/\J (some (k+1)) w' CX)\/(e=.returned (.bool false)/\J none w' CX))
def Tb(f:FuncId)(args:List L)(xs:List (List PV)):Prop:=
 Enters X.P f/\∀(l:Nat) (J:Gh),sS J->sT X l J xs->∀(Im:Nat->Prop) (w:World) (vs:List Value),X.G w Im->(∀b,Im b->b<w.heap.size)->J (some 0) w Im ->
  vs.length=args.length->(∀(i:Nat) (v:Value) (a:L),vs[i]?=some v->args[i]?=some a->CE (fun _=>none) w Im v a) ->
  Calls X.P f ⟨.func (.yield l) #[] #[]::vs⟩ w fun e w'=>∃v CX,e=.returned v/\IC w Im w' CX/\(J (some xs.length) w' CX\/J none w' CX)
def St.bare(s:St):St:=⟨s.tmps.map (L.map fun _=>none),[]⟩
variable {s:St}{B:(Ex->Option Nat->St->Prop)->Option Nat->St->Prop}{Q:Ex->St->Prop}
def DW.bare{Γ:FH}{β:ET}{Im:Nat->Prop}{s:St}{tmps:Array Value}{w:World}(h:DW Γ β Im s tmps w):DW Γ β Im s.bare tmps w:=
 {
  h with
  fit:={
      size:=by simp[St.bare,h.fit.size],tmps:=fun i l hl=>by
       simp only[St.bare,Eam]at hl;obtain⟨l',h1,rfl⟩:=HF.1 hl;exact(h.fit.tmps i l' h1).map (fun d n hd=>by cases hd)
      regs:=fun d r hr=>by simp[St.bare]at hr
      nodup:=.nil,live:=fun d r loc hr=>by simp[St.bare]at hr,apart:=fun d r d' r' l1 l2 hr=>by simp[St.bare]at hr,im:=h.fit.im }
  regnew:=fun d r loc hr=>by simp[St.bare]at hr
  marks:=fun D hD=>by obtain⟨h1,h2,h3,_⟩:=h.marks D hD;exact⟨h1,h2,h3,fun d r loc hr=>by simp[St.bare]at hr⟩ }
def JR(J:Gh)(w0:World)(GA:Nat->Prop)(k:Option Nat)(s:St)(a:Act)(w:World):Prop := a.defers=[]/\∃(W:World) (β0:ET) (I0:Nat->Prop),(∀b,I0 b->b<W.heap.size)/\IC w0 GA W I0/\J k W I0/\TD ⟨W,β0,I0,fun _=>False,[],X.G,X.mono⟩ [] s a w
def DW.grown(h:DW Γ β Im s tmps w)(hm:∀b,¬Γ.may b):DY Γ.W0 Γ.Im0 w Im:=
 ⟨h.os,h.tape,h.output,h.size,fun k hk=>h.block k hk (hm k),h.imin,fun b hb=>(h.imnew b hb).elim .inl fun h'=>h'.elim .inr fun h=>absurd h (hm b),h.fit.im⟩
def JQ(J:Gh)(w0:World)(GA:Nat->Prop)(Q:Ex->Option Nat->St->Prop):Exit->Act->World->Prop|.normal,a,w=>∃k s,Q .normal k s/\JR X J w0 GA k s a w|.exit id,a,w=>∃k s,Q (.exit id) k s/\JR X J w0 GA k s a w|.ret,a,w=>∃k s,Q .ret k s/\JR X J w0 GA k s a w|_,_,_=>False
def ZG(xs:List (List PV))(l:Nat)(c:Code)(Q:Ex->Option Nat->St->Prop)(k:Option Nat)(s:St):Prop := ∀J w0 GA,sS J->sT X l J xs->∀a w,JR X J w0 GA k s a w->c.wpIn (F0 none) 1 X.P (JQ X J w0 GA Q) a w
def K2:List L->Option (List PV)
 |[]=>some []
 |.p x::l=>match K2 l with
  |some xs=>some (x::xs)
  |none=>none
 |_::_=>none
def L0(n:Nat)(o:Option (List PV))(t f:Option Nat->Prop):Prop:=match o with|some x=>xs[n]?=some x/\t (some (n+1))/\f none|none=>False
def Ur(l l':Nat)(s:St)(args:List Operand)(dst:Option Tmp)(K:Option Nat->St->Prop)(k:Option Nat):Prop:=match k with|some n=>l'=l/\L0 xs n (K2 (args.map (s.freezeOps args).get)) (fun k=>K k ((s.freezeOps args).bare.put dst (.p (.bool true)))) (fun k=>K k ((s.freezeOps args).bare.put dst (.p (.bool false))))|none=>False
def Y4(xs:List (List PV))(l:Nat)(o:Oper)(args:List Operand)(K:Option Nat->St->Prop)(k:Option Nat)(s:St)(x:L):Prop:=match x with|.yld l'=>Ur xs l l' s args o.dst K k|_=>Fh X o (K k) s
def Wc(xs:List (List PV))(l:Nat)(o:Oper)(K:Option Nat->St->Prop)(k:Option Nat)(s:St):Prop:=match o.op with|.call { callee:=.value f,args,argTypes:=_ }=>Y4 X xs l o args.toList K k s (s.get f)|_=>Fh X o (K k) s
def kM(dst:Option Tmp)(K:Option Nat->St->Prop)(k:Option Nat)(s:St):Prop:=K k (s.put dst (.tup []))
def TH(X:Cx)(xs:List (List PV))(l:Nat)(ds:List (Option Tmp)):List Oper->(Option Nat->St->Prop)->Option Nat->St->Prop|[],K,k,s=>K k s|o::BR,K,k,s=>F4 ds o.guard (Wc X xs l o (TH X xs l ds BR K) k) (kM o.dst (TH X xs l ds BR K) k) s
def bP(B:(Ex->Option Nat->St->Prop)->Option Nat->St->Prop)(Q:Ex->Option Nat->St->Prop):Ex->Option Nat->St->Prop|.normal,k,s=>B Q k s|.exit id,k,s=>Q (.exit id) k s|.ret,k,s=>Q .ret k s
def Oe(id:Nat)(Q:Ex->Option Nat->St->Prop):Ex->Option Nat->St->Prop|.normal,k,s=>Q .normal k s|.exit WV,k,s=>if WV=id then Q .normal k s else Q (.exit WV) k s|.ret,k,s=>Q .ret k s
def QB(X:Cx)(xs:List (List PV))(l:Nat):Code->(Ex->Option Nat->St->Prop)->Option Nat->St->Prop
 |.skip,Q,k,s=>Q .normal k s
 |.region id ops TF,Q,k,s=>match TF with
  |false=>TH X xs l (ops.toList.map (·.dst)) ops.toList (Q .normal) k s
  |true=>ZG X xs l (.region id ops true) Q k s
 |.seq a b,Q,k,s=>QB X xs l a (bP (QB X xs l b) Q) k s
 |.cond c a b,Q,k,s=>O0 (s.get c) (QB X xs l a Q k) (QB X xs l b Q k) s
 |.block id c,Q,k,s=>QB X xs l c (Oe id Q) k s
 |.loop c,Q,k,s=>ZG X xs l (.loop c) Q k s
 |.exit id,Q,k,s=>Q (.exit id) k s
 |.ret,Q,k,s=>Q .ret k s
 |.label _,Q,k,s=>Q .normal k s
 |c,Q,k,s=>ZG X xs l c Q k s
def P7:∀{ls:List L} {x:List PV},K2 ls=some x->ls=x.map .p
 |[],x,h=>by cases h;rfl
 |.p y::ls,x,h=>by
  simp only[K2]at h;split at h
  ·rename_i xs hx;cases h;rw[P7 hx];rfl
  ·cases h
 |.ptr _ _ _::_,_,h=>by cases h
 |.own _ _ _::_,_,h=>by cases h
 |.eptr _::_,_,h=>by cases h
 |.fn _ _::_,_,h=>by cases h
 |.cfn _ _::_,_,h=>by cases h
 |.yld _::_,_,h=>by cases h
 |.tup _::_,_,h=>by cases h
 |.mref _::_,_,h=>by cases h
 |.junk::_,_,h=>by cases h
section
variable {X:Cx} {xs:List (List PV)} {l:Nat} {J:Gh} {w0:World} {GA:Nat->Prop}
def Jek{K:Option Nat->St->Prop}{Q:Exit->Act->World->Prop}(hJ:sS J)(hY:sT X l J xs)(h:JR X J w0 GA k s a w)(hl:Wc X xs l o K k s) :
  o.wpIn (F0 none) 1 X.P a w (fun a' w'=>∃k s,K k s/\JR X J w0 GA k s a' w') Q:=by
 obtain⟨hd,W,β0,I0,BZ,KD,hj,hr⟩:=h;have fY:Fh X o (K k) s->o.wpIn (F0 none) 1 X.P a w (fun a' w'=>∃k s,K k s/\JR X J w0 GA k s a' w') Q:=fun hl=>by
  refine Oper.wpIn_mono (fun a' w' ⟨s',h1,h2⟩=>⟨k,s',h1,h2.1,W,β0,I0,BZ,KD,hj,h2⟩) (Lm (Γ:=⟨W,β0,I0,fun _=>False,[],X.G,X.mono⟩) rfl hr hl)
 unfold Wc at hl;split at hl
 ·rename_i f args VV ho;unfold Y4 at hl;split at hl
  ·rename_i l' hf;unfold Ur at hl;split at hl
   ·rename_i n;obtain⟨rfl,hl⟩:=hl;obtain⟨_,β,Im,hx⟩:=hr;have X':=A2 hx.fit f;rw[hf]at X';obtain⟨OV,Ng⟩:=DW.freezeOps args.toList hx;unfold L0 at hl;split at hl
    ·rename_i x qN;obtain⟨hn,hK1,hK2⟩:=hl;have MD:=P7 qN;have hG1:DY W I0 w OV:=Ng.grown (fun _ h=>h);have CT:g_ w OV (args.toList.map a.eval) x:=by
      have CY:args.toList.length=x.length:=by have:=congrArg List.length MD;simpa using this
      refine⟨by simpa using CY,fun i v p hv hp=>?_⟩;rw[Eam]at hv;obtain⟨o',nX,rfl⟩:=HF.1 hv;have h2:=A2 Ng.fit o';have h3:(args.toList.map (s.freezeOps args.toList).get)[i]?=(x.map L.p)[i]?:=by rw[MD]
      rw[Eam,Eam,nX,hp]at h3;rw[L' h3]at h2;exact h2
     have fL:J (some n) w OV:=hJ _ _ _ _ _ BZ hj hG1;obtain⟨fn,tmps,assign,body,hy,hR⟩:=hY n x hn w OV _ fL Ng.glob Ng.fit.im CT;refine⟨fun _ _=>trivial,?_⟩;have hdn:∀c,o.op≠.defer c:=by rw[ho];simp
     rw[Ly _ hdn];have DE:(execOp a.eval o).run X.P w=.ok (.round l' fn tmps assign body) w:=by
      unfold execOp;rw[ho];have he:a.eval f=.func (.yield l') #[] #[]:=X';have hm:args.map a.eval=⟨args.toList.map a.eval⟩:=by rw[<-SP];simp
      simp only[resolve,he,hm];simp[Deferred.ofValue,invoke,hy]
     rw[DE];refine⟨fun _=>CS _,hR.mono fun e w' ⟨CX,IE,hc⟩=>?_⟩;have hb:=Ng.bare;have back:∀(k':Option Nat) (b:Bool),J k' w' CX->JR X J w0 GA k' ((s.freezeOps args.toList).bare.put o.dst (.p (.bool b))) (a.put o.dst (.bool b)) w':=by
      intro k' b TE;refine⟨Bf hd,w',β,CX,IE.lt,KD.trans ((Jw1 hG1 BZ).trans IE),TE,Bf hd,β,CX,?_⟩;refine DW.put ?_ o.dst (BW.bool b);refine{
          fit:={ size:=hb.fit.size,tmps:=fun i m hm=>(hb.fit.tmps i m hm).mono' IE.keeps,regs:=fun d r hr=>(by simp[St.bare]at hr),nodup:=.nil,live:=fun d r loc hr=>(by simp[St.bare]at hr),apart:=fun d r d' r' l1 l2 hr=>(by simp[St.bare]at hr),im:=IE.lt }
          os:=rfl,tape:=rfl,output:=rfl,size:=CS _,block:=fun _ _ _=>rfl,imin:=fun _ h=>h,imnew:=fun _ h=>.inl h,regnew:=fun d r loc hr=>(by simp[St.bare]at hr),fixed:=fun _ _ _=>rfl
          glob:=X.mono IE.keeps Ng.glob,marks:=fun D hD=>(by cases hD),mnod:=.nil }
     rcases hc with⟨rfl,kN⟩|⟨rfl,kN⟩
     ·exact⟨_,_,hK1,back _ _ kN⟩
     ·exact⟨_,_,hK2,back _ _ kN⟩
    ·exact hl.elim
   ·exact hl.elim
  ·exact fY hl
 ·exact fY hl
def Lq{ops:Array Oper}{K:Option Nat->St->Prop}{Q:Exit->Act->World->Prop}(hJ:sS J)(hY:sT X l J xs)(hQ:∀k s a w,K k s->JR X J w0 GA k s a w->Q .normal a w):∀(os:List Oper) (i:Nat),(∀j,os[j]?=ops[i+j]?)->∀(k:Option Nat) (s:St) (a:Act) (w:World),JR X J w0 GA k s a w ->
  TH X xs l (ops.toList.map (·.dst)) os K k s->wpOpsIn (F0 none) 1 X.P ops Q (List.range' i os.length) a w
 |[],i,_,k,s,a,w,h,hl=>by simpa[wpOpsIn]using hQ k s a w hl h
 |o::os,i,hi,k,s,a,w,h,hl=>by
  have h0:ops[i]?=some o:=by simpa using(hi 0).symm
  have JM:∀j,os[j]?=ops[i+1+j]?:=fun j=>by have:=hi (j+1);simpa[QO,YM 1 j]using this
  simp only[DH,List.range'_succ,wpOpsIn,h0];simp only[TH]at hl;obtain⟨hd,W,β0,I0,BZ,KD,hj,hr⟩:=h;obtain⟨s',h',hc⟩:=Gb hr.rr hl;have hm:TD ⟨W,β0,I0,fun _=>False,[],X.G,X.mono⟩ [] s' a w:=by
   obtain⟨ms,h1,h2⟩:=h';have:ms=[]:=by rw[hd]at h1;cases ms<;>first|rfl|cases h1
   subst this;exact⟨h1,h2⟩
  rcases hc with⟨hA,hw⟩|⟨hB,hw⟩
  ·rw[AB (hw o rfl)];exact Oper.wpIn_mono (fun a' w' ⟨k2,s2,X8,MH⟩=>Lq hJ hY hQ os (i+1) JM k2 s2 a' w' MH X8) (Jek hJ hY ⟨hd,W,β0,I0,BZ,KD,hj,hm⟩ hA)
  ·rw[AA (by rw[hw o rfl];simp)];obtain⟨CZ,β,Im,hx⟩:=hm;exact⟨fun _ _=>trivial,Lq hJ hY hQ os (i+1) JM k _ _ w ⟨Bf hd,W,β0,I0,BZ,KD,hj,Bf hd,β,Im,hx.put o.dst H0⟩ hB⟩
def N9:∀(c:Code) (Q:Ex->Option Nat->St->Prop) (k:Option Nat) (s:St),QB X xs l c Q k s->ZG X xs l c Q k s:=by
 intro c
 induction c with
 |skip=>exact fun Q k s h J w0 GA hJ hY a w hr=>wpIn_skip ⟨k,s,h,hr⟩
 |region id ops TF =>
  intro Q k s h;cases TF with
  |false =>
   intro J w0 GA hJ hY a w hr;simp only[QB]at h;refine wpIn_region ?_;have:=Lq (X:=X) (ops:=ops) (K:=Q .normal) (Q:=JQ X J w0 GA Q) hJ hY (fun k s a w h1 h2=>⟨k,s,h1,h2⟩) ops.toList 0 sm k s a w hr h;rw[Array.length_toList]at this;rw[List.range_eq_range'];exact this
  |true=>exact h
 |seq x y iF iG =>
  intro Q k s h J w0 GA hJ hY a w hr;simp only[QB]at h;refine wpIn_seq (wpIn_mono (iF _ k s h J w0 GA hJ hY a w hr) fun e a w hq=>?_);cases e with
  |normal=>obtain⟨k',s',h1,h2⟩:=hq;exact iG Q k' s' h1 J w0 GA hJ hY a w h2
  |exit id=>exact hq
  |ret=>exact hq
  |goto l=>exact hq.elim
  |panic c=>exact hq.elim
  |outgrown=>exact hq.elim
 |cond c x y iF iG =>
  intro Q k s h J w0 GA hJ hY a w hr;simp only[QB,O0]at h;obtain⟨hd,W,β0,I0,BZ,KD,hj,CZ,β,Im,hx⟩:=hr;have hc:=A2 hx.fit c;split at h
  ·rename_i t hg;rw[hg]at hc;cases hv:a.eval c<;>rw[hv]at hc<;>cases hc;exact wpIn_cond_split hv (fun ht=>iF Q k s (h.1 ht) J w0 GA hJ hY a w ⟨hd,W,β0,I0,BZ,KD,hj,CZ,β,Im,hx⟩) (fun ht=>iG Q k s (h.2 ht) J w0 GA hJ hY a w ⟨hd,W,β0,I0,BZ,KD,hj,CZ,β,Im,hx⟩)
  ·exact h.elim
 |block id c ih =>
  intro Q k s h J w0 GA hJ hY a w hr;simp only[QB]at h;refine wpIn_block (wpIn_mono (ih _ k s h J w0 GA hJ hY a w hr) fun e a w hq=>?_);cases e with
  |normal=>exact hq
  |exit WV =>
   obtain⟨k',s',h1,h2⟩:=hq;simp only[Oe]at h1;simp only[Exit.inBlock];split at h1
   ·rename_i he;rw[AB he];exact⟨k',s',h1,h2⟩
   ·rename_i he;rw[AA he];exact⟨k',s',h1,h2⟩
  |ret=>exact hq
  |goto l=>exact hq.elim
  |panic c=>exact hq.elim
  |outgrown=>exact hq.elim
 |loop c _=>exact fun Q k s h=>h
 |exit id=>exact fun Q k s h J w0 GA hJ hY a w hr=>wpIn_exit ⟨k,s,h,hr⟩
 |ret=>exact fun Q k s h J w0 GA hJ hY a w hr=>wpIn_ret ⟨k,s,h,hr⟩
 |label l=>exact fun Q k s h J w0 GA hJ hY a w hr=>wpIn_label ⟨k,s,h,hr⟩
 |rangeFunc f ps asg c _ _=>exact fun Q k s h=>h
 |scope c ih=>exact fun Q k s h=>h
 |goto l=>exact fun Q k s h=>h
 |refuse why=>exact fun Q k s h=>h
def xB(I:ι->Option Nat×St)(SC:ι->Prop)(μ:ι->Nat)(x:ι)(Q:Ex->Option Nat->St->Prop):Ex->Option Nat->St->Prop|.normal,k,s=>∃y,SC y/\μ y<μ x/\k=(I y).1/\s.Le (I y).2|.exit id,k,s=>Q (.exit id) k s|.ret,k,s=>Q .ret k s
def JR.le{s':St}(h:JR X J w0 GA k s a w)(DO:s.Le s'):JR X J w0 GA k s' a w:=by
 obtain⟨hd,W,β0,I0,BZ,KD,hj,hr⟩:=h;obtain⟨ms,h1,h2⟩:=DO _ _ _ hr.rr;have:ms=[]:=by rw[hd]at h1;cases ms<;>first|rfl|cases h1
 subst this;exact⟨hd,W,β0,I0,BZ,KD,hj,h1,h2⟩
def ZG.loop{ι:Type}(I:ι->Option Nat×St)(SC:ι->Prop)(μ:ι->Nat)(x0:ι){c:Code}{Q:Ex->Option Nat->St->Prop}{k:Option Nat}{s:St}(hk:k=(I x0).1)(hs:s.Le (I x0).2)(h0:SC x0)(round:∀x,SC x->ZG X xs l c (xB I SC μ x Q) (I x).1 (I x).2):ZG X xs l (.loop c) Q k s:=by
 intro J w0 GA hJ hY a w hr;have key:∀n x,μ x=n->SC x->∀a w,JR X J w0 GA (I x).1 (I x).2 a w->∀(b:Frame) (k:List Item) (cs:List Frame),b.roundOf=(F0 none).round->(F0 none).fn b.fn->(F0 none).room (cs.length+1+1) ->
   ∃e a' w',JQ X J w0 GA Q e a' w'/\ArrivesIn (Machine.fenced X.P (F0 none)) X.P (lone (b.atR a (.code c::.inLoop c::k)) cs w) b k cs e a' w':=by
  intro n
  induction n using Nat.strongRecOn with
  |_ n ih =>
   intro x hn hP a w hr b k cs VU hb EM;obtain⟨e,LQ,LR,hq,IT⟩:=round x hP J w0 GA hJ hY a w hr b (.inLoop c::k) cs VU hb EM;cases e with
   |normal =>
    obtain⟨k',s',⟨y,hy,BZ,IE,DO⟩,h2⟩:=hq;subst IE;obtain⟨bD,bE,bF,UZ,NJ⟩:=ih (μ y) (hn▸BZ) y rfl hy LQ LR (h2.le DO) b k cs VU hb EM;exact⟨bD,bE,bF,UZ,.of_steps (StepsIn.trans IT (.one (fenced_calm hb EM rfl) stepR_inLoop)) NJ⟩
   |exit id =>
    obtain⟨k',s',h1,h2⟩:=hq;exact⟨.exit id,LQ,LR,⟨k',s',h1,h2⟩,.pass (x:=.inLoop c) rfl (fun _ _=>.inl sm) IT⟩
   |ret =>
    obtain⟨k',s',h1,h2⟩:=hq;exact⟨.ret,LQ,LR,⟨k',s',h1,h2⟩,.pass (x:=.inLoop c) rfl (fun _ _=>.inl sm) IT⟩
   |goto l=>exact hq.elim
   |panic ch=>exact hq.elim
   |outgrown=>exact hq.elim
 intro b k' cs VU hb EM;subst hk;obtain⟨e,a',w',hq,IT⟩:=key _ x0 rfl h0 a w (hr.le hs) b k' cs VU hb EM;exact⟨e,a',w',hq,.of_steps (.one (fenced_calm hb EM rfl) stepR_loop) IT⟩
def kO(xs:List (List PV)):Ex->Option Nat->St->Prop|.normal,k,_=>k=some xs.length\/k=none|.ret,k,_=>k=some xs.length\/k=none|.exit _,_,_=>False
end
def h_ {X:Cx} {args:List L} {xs:List (List PV)} (hf:X.P.funcs[f]?=some fn) (G8:(fn.name == "runtime.NumGoroutine")=false) (hb:fn.body=some c) (P':fn.results = #[]) (hn:args.length+1<=fn.ntmps)
  (h:∀l,ZG X xs l c (kO xs) (some 0) ⟨Ba fn.ntmps (MJ 0 (.yld l::args)),[]⟩):Tb X f args xs:=by
 refine⟨enters_of hf G8 hb,fun l J hJ hY Im w vs Ua BZ hj CY CT=>?_⟩;refine callsIn_wide.1 (callsIn_of_wp_marks (n:=1) (F:=Fence.wide) hf hb trivial ?_);have e0:Ba fn.ntmps (MJ 0 (.yld l::args))=(.yld l::args)++List.replicate (fn.ntmps-(L.yld l::args).length) .junk:=(Rx (by simpa using hn)).symm;have nj:JR X J w Im (some 0) ⟨Ba fn.ntmps (MJ 0 (.yld l::args)),[]⟩ { tmps:=(⟨.func (.yield l) #[] #[]::vs⟩:Array Value)++Array.replicate (fn.ntmps-(⟨.func (.yield l) #[] #[]::vs⟩:Array Value).size) undef,defers:=[] } w:=by
  refine⟨rfl,w,fun _=>none,Im,BZ,IC.refl BZ,hj,rfl,fun _=>none,Im,{ fit:={ size:=?_,tmps:=fun i m hm=>?_,regs:=fun d r hr=>by simp at hr,nodup:=.nil,live:=fun d r loc hr=>by simp at hr,apart:=fun d r d' r' l1 l2 hr=>by simp at hr,im:=BZ },os:=rfl,tape:=rfl,output:=rfl,size:=CS _,block:=fun _ _ _=>rfl,imin:=fun _ h=>h,imnew:=fun _ h=>.inl h,regnew:=fun d r loc hr=>by simp at hr,fixed:=fun _ _ _=>rfl,glob:=Ua,mnod:=.nil,marks:=fun D hD=>(by cases hD) }⟩
  ·simp[Cg,CY];omega
  ·simp only[e0]at hm;by_cases hi:i<(L.yld l::args).length
   ·rw[NZ hi]at hm;have e:((⟨.func (.yield l) #[] #[]::vs⟩:Array Value)++Array.replicate (fn.ntmps-(⟨.func (.yield l) #[] #[]::vs⟩:Array Value).size) undef).getD i undef=(Value.func (.yield l) #[] #[]::vs).getD i undef:=by
     simp only[OQ,GU];rw[vm (by simp at hi⊢;omega)];simp
    rw[e];cases i with
    |zero=>simp at hm;subst hm;rfl
    |succ i =>
     simp at hm hi;have hv:i<vs.length:=omg;simp[hv];exact CT i _ m (by simp[hv]) hm
   ·rw[Mr omg,nJ]at hm;split at hm
    ·cases hm;trivial
    ·cases hm
 have hw:=h l J w Im hJ hY _ w nj;refine wpIn_mono (show c.wpIn Fence.wide 1 X.P _ _ _ from hw) fun e a w' hq=>?_
 have ae:∀k s,(k=some xs.length\/k=none)->JR X J w Im k s a w'->LeavesInM Fence.wide 1 X.P fn a.tmps (fun e w'=>∃v CX,e=.returned v/\IC w Im w' CX/\(J (some xs.length) w' CX\/J none w' CX)) a.defers .returning w':=by
  rintro k s hk ⟨hd,W,β0,I0,YV,KD,LM,hr⟩;rw[hd];obtain⟨_,β,CX,hx⟩:=hr;have hg:DY W I0 w' CX:=hx.grown (fun _ h=>h);have DE:=G9 (P:=X.P) (fn:=fn) (tmps:=a.tmps) (w:=w') (vs:=[]) (by rw[P'];simp);refine⟨_,DE,_,CX,rfl,KD.trans (Jw1 hg YV),?_⟩;have:=hJ _ _ _ _ _ YV LM hg;rcases hk with rfl|rfl
  ·exact .inl this
  ·exact .inr this
 cases e with
 |normal=>obtain⟨k,s,h1,h2⟩:=hq;exact ae k s h1 h2
 |ret=>obtain⟨k,s,h1,h2⟩:=hq;exact ae k s h1 h2
 |exit id=>obtain⟨k,s,h1,h2⟩:=hq;exact h1.elim
 |goto l=>exact hq.elim
 |panic c=>exact hq.elim
 |outgrown=>exact hq.elim
def i_(d:Nat):DG->Bool|.var _ _=>true|.obj _=>true|_=>decide (1000<=d/\d<500000)
def JU(k:Nat):BX->Ren|[]=>[]|(d,r)::BR=>(d,if i_ d r=true then 1000+k else 500000+k)::JU (k+1) BR
def T9:∀(rs:BX) (k:Nat),(JU k rs).map (·.1)=rs.map (·.1)
 |[],_=>rfl
 |(d,r)::rs,k=>by simp[JU,T9 rs (k+1)]
def Jeb:∀(rs:BX) (k:Nat),k+rs.length<=1000->O3 k (JU k rs)
 |[],_,_=>trivial
 |(d,r)::rs,k,h=>by
  simp only[DH]at h;refine⟨?_,Jeb rs (k+1) omg⟩;split
  ·exact .inl ⟨rfl,omg⟩
  ·rename_i hf;refine .inr ⟨rfl,fun hd=>hf ?_,omg⟩;cases r<;>simp[i_,hd]
def Jmr(h:rs.length<=1000)(hn:(rs.map (·.1)).Nodup):OX (JU 0 rs):=
 Tc (Jeb rs 0 omg) (by rw[T9];exact hn)
def Mq(ρ:Ren)(d:Nat):Option Nat:=match EB ρ d with
 |some n=>if n<500000 then some n else none
 |none=>none
def Zz(h:Mq ρ d=some n):EB ρ d=some n/\n<500000:=by
 unfold Mq at h;split at h
 ·rename_i m hm;split at h
  ·cases h;exact⟨hm,by assumption⟩
  ·cases h
 ·cases h
def V3{f:Nat->Option Nat}{l:L}(h:(l.map f).mentions n=true):∃d,f d=some n:=by
 have fnc:∀ds ns,Bg f ds=some ns->ns.contains n=true->∃d,f d=some n:=by
  intro ds ns ha hc;obtain⟨h1,h2⟩:=Bh ha;have hm:n∈ns:=by simpa using hc
  obtain⟨i,hi⟩:=WE hm;obtain⟨d,hd⟩:=BQ h1 hi;exact⟨d,h2 i d n hd hi⟩
 cases l with
 |ptr d i j=>simp only[L.map]at h;cases hd:f d<;>rw[hd]at h<;>simp[pQ,L.mentions]at h;exact⟨d,by rw[hd,h]⟩
 |own d i j=>simp only[L.map]at h;cases hd:f d<;>rw[hd]at h<;>simp[nf,L.mentions]at h;exact⟨d,by rw[hd,h]⟩
 |mref d=>simp only[L.map]at h;cases hd:f d<;>rw[hd]at h<;>simp[pR,L.mentions]at h;exact⟨d,by rw[hd,h]⟩
 |fn g ds=>simp only[L.map]at h;cases hd:Bg f ds<;>rw[hd]at h<;>simp only[pS,L.mentions,VM]at h;exact fnc _ _ hd h
 |cfn g ds=>simp only[L.map]at h;cases hd:Bg f ds<;>rw[hd]at h<;>simp only[zc,L.mentions,VM]at h;exact fnc _ _ hd h
 |p x=>simp[L.map,L.mentions]at h
 |eptr cs=>simp[L.map,L.mentions]at h
 |yld l=>simp[L.map,L.mentions]at h
 |tup xs=>simp[L.map,L.mentions]at h
 |junk=>simp[L.map,L.mentions]at h
structure Trans (l:Nat) (β:ET) (w:World) (Im:Nat->Prop) (rs:BX) (β':ET) (w':World) (CX:Nat->Prop) (DU:BX):Prop where
 os:w'.os=w.os
 tape:w'.tape=w.tape
 output:w'.output=w.output
 size:w.heap.size<=w'.heap.size
 block:∀k,k<w.heap.size->k≠l->(∀d r loc,(d,r)∈rs->β d=some loc->loc.blk≠k)->w'.heap[k]?=w.heap[k]?
 imin:∀b,Im b->CX b
 imnew:∀b,CX b->Im b\/w.heap.size<=b\/∃d r loc,(d,r)∈rs/\β d=some loc/\loc.blk=b
 env:∀d,1000<=d->d<500000->β' d=β d
 regnew:∀d r loc,(d,r)∈DU->β' d=some loc->w.heap.size<=loc.blk\/∃d r CO,(d,r)∈rs/\β d=some CO/\CO.blk=loc.blk
 fit:Fit β' w' CX ⟨[],DU⟩ #[]
structure ZH (l:Nat) (β:ET) (w:World) (Im:Nat->Prop) (rs:BX):Prop where
 lt:l<w.heap.size
 im:¬Im l
 reg:∀d r loc,(d,r)∈rs->β d=some loc->loc.blk≠l
section
variable {l:Nat} {β RG β2:ET} {w w1 w2:World} {Im OV WM:Nat->Prop} {rs dX rs2:BX}
def Fit.regsOnly(h:Fit β w Im s t):Fit β w Im ⟨[],s.regs⟩ #[]:=
 { size:=rfl,tmps:=fun i m hm=>by simp at hm,regs:=h.regs,nodup:=h.nodup,live:=h.live,apart:=h.apart,im:=h.im }
def Trans.refl(h:Fit β w Im ⟨[],rs⟩ #[]):Trans l β w Im rs β w Im rs where
 os:=rfl
 tape:=rfl
 output:=rfl
 size:=CS _
 block _ _ _ _:=rfl
 imin _ h:=h
 imnew _ h:=.inl h
 env _ _ _:=rfl
 regnew d r loc hd hl:=.inr ⟨d,r,loc,hd,hl,rfl⟩
 fit:=h
def Trans.trans(h:Trans l β w Im rs RG w1 OV dX)(k:Trans l RG w1 OV dX β2 w2 WM rs2):Trans l β w Im rs β2 w2 WM rs2 where
 os:=k.os.trans h.os
 tape:=k.tape.trans h.tape
 output:=k.output.trans h.output
 size:=Nat.le_trans h.size k.size
 block b hb hl hn:=by
  refine(k.block b (NB hb h.size) hl fun d r loc hd CM=>?_).trans (h.block b hb hl hn);rcases h.regnew d r loc hd CM with g|⟨d',r',CO,h1,h2,h3⟩
  ·omega
  ·rw[<-h3];exact hn d' r' CO h1 h2
 imin b hb:=k.imin b (h.imin b hb)
 imnew b hb:=by
  rcases k.imnew b hb with g|g|⟨d,r,loc,h1,h2,h3⟩
  ·exact h.imnew b g
  ·exact .inr (.inl (Nat.le_trans h.size g))
  ·rcases h.regnew d r loc h1 h2 with g|⟨d',r',CO,g1,g2,g3⟩
   ·exact .inr (.inl (h3▸g))
   ·exact .inr (.inr ⟨d',r',CO,g1,g2,g3.trans h3⟩)
 env d h1 h2:=(k.env d h1 h2).trans (h.env d h1 h2)
 regnew d r loc hd hl:=by
  rcases k.regnew d r loc hd hl with g|⟨d',r',CO,h1,h2,h3⟩
  ·exact .inl (Nat.le_trans h.size g)
  ·rcases h.regnew d' r' CO h1 h2 with g|⟨d2,r2,gq,g1,g2,g3⟩
   ·exact .inl (h3▸g)
   ·exact .inr ⟨d2,r2,gq,g1,g2,g3.trans h3⟩
 fit:=k.fit
def Trans.off(h:Trans l β w Im rs RG w1 OV dX)(o:ZH l β w Im rs):ZH l RG w1 OV dX where
 lt:=NB o.lt h.size
 im hi:=by
  rcases h.imnew l hi with g|g|⟨d,r,loc,h1,h2,h3⟩
  ·exact o.im g
  ·have:=o.lt;omega
  ·exact o.reg d r loc h1 h2 h3
 reg d r loc hd hl:=by
  rcases h.regnew d r loc hd hl with g|⟨d',r',CO,h1,h2,h3⟩
  ·have:=o.lt;omega
  ·rw[<-h3];exact o.reg d' r' CO h1 h2
def Fit.putOff(h:Fit β w Im s t)(o:ZH l β w Im s.regs)(x:Obj):Fit β (w.putObj l x) Im s t:=by
 have NK:∀k,k≠l->(w.putObj l x).heap[k]?=w.heap[k]?:=fun k hk=>World.putObj_heap_other hk
 have hk:ED w Im (w.putObj l x) Im:=⟨fun _ h=>h,fun b hb=>NK b fun e=>o.im (e▸hb)⟩
 exact{
     size:=h.size,tmps:=fun i m hm=>(h.tmps i m hm).mono' hk,regs:=fun d r hr=>(h.regs d r hr).mono hk rfl (fun _ _=>rfl) fun loc hl=>NK _ (o.reg d r loc hr hl),nodup:=h.nodup
     live:=fun d r loc hr hl=>by rw[World.putObj_size];exact h.live d r loc hr hl,apart:=h.apart,im:=fun b hb=>by rw[World.putObj_size];exact h.im b hb }
def Trans.put(h:Fit β w Im ⟨[],rs⟩ #[])(o:ZH l β w Im rs)(x:Obj):Trans l β w Im rs β (w.putObj l x) Im rs where
 os:=rfl
 tape:=rfl
 output:=rfl
 size:=by rw[World.putObj_size];exact CS _
 block k _ hk _:=World.putObj_heap_other hk
 imin _ h:=h
 imnew _ h:=.inl h
 env _ _ _:=rfl
 regnew d r loc hd hl:=.inr ⟨d,r,loc,hd,hl,rfl⟩
 fit:=h.putOff o x
def Jxp(h:Fit β w Im ⟨[],rs⟩ #[])(g:DY w Im w1 OV):Trans l β w Im rs β w1 OV rs where
 os:=g.os
 tape:=g.tape
 output:=g.output
 size:=g.size
 block k hk _ _:=g.block k hk
 imin:=g.im
 imnew b hb:=(g.new b hb).imp id .inl
 env _ _ _:=rfl
 regnew d r loc hd hl:=.inr ⟨d,r,loc,hd,hl,rfl⟩
 fit:=h.grow g
def Jzo(h:DW Γ RG OV s t w1)(hm:∀k,Γ.may k->∃d r loc,(d,r)∈rs/\Γ.β0 d=some loc/\loc.blk=k):Trans l Γ.β0 Γ.W0 Γ.Im0 rs RG w1 OV s.regs where
 os:=h.os
 tape:=h.tape
 output:=h.output
 size:=h.size
 block k hk _ hn:=h.block k hk fun hk=>by obtain⟨d,r,loc,h1,h2,h3⟩:=hm k hk;exact hn d r loc h1 h2 h3
 imin:=h.imin
 imnew b hb:=(h.imnew b hb).imp id fun h=>h.imp id (hm b)
 env:=h.fixed
 regnew d r loc hd hl:=(h.regnew d r loc hd hl).imp id (hm _)
 fit:=h.fit.regsOnly
def ZH.same(o:ZH l Γ.β0 Γ.W0 Γ.Im0 rs)(h:DW Γ RG OV s t w1)(hm:∀k,Γ.may k->∃d r loc,(d,r)∈rs/\Γ.β0 d=some loc/\loc.blk=k):w1.heap[l]?=Γ.W0.heap[l]?:=
 h.block l o.lt fun hk=>by obtain⟨d,r,loc,h1,h2,h3⟩:=hm l hk;exact o.reg d r loc h1 h2 h3
def Trans.keeps(h:Trans l β w Im rs RG w1 OV dX)(o:ZH l β w Im rs)(hf:Fit β w Im ⟨[],rs⟩ #[]):ED w Im w1 OV:=
 ⟨h.imin,fun b hb=>h.block b (hf.im b hb) (fun e=>o.im (e▸hb)) fun d r loc hd hl e=>(hf.live d r loc hd hl).2 (e▸hb)⟩
def Trans.ykeep(h:Trans l β w Im rs RG w1 OV dX)(o:ZH l β w Im rs)(hf:Fit β w Im ⟨[],rs⟩ #[]):IC w Im w1 OV:=
 ⟨h.os,h.tape,h.output,h.size,h.imin,(h.keeps o hf).block,h.fit.im⟩
def Trans.step(h:Trans l β w Im rs RG w1 OV dX)(hl:w1.heap[l]?=w.heap[l]?)(hk:∀d r,(d,r)∈dX->d=900\/∃r0,(d,r0)∈rs):Gt β w Im rs RG w1 OV dX where
 os:=h.os
 tape:=h.tape
 output:=h.output
 size:=h.size
 block k hk hn:=by
  by_cases e:k=l
  ·subst e;exact hl
  ·exact h.block k hk e hn
 imin:=h.imin
 imnew:=h.imnew
 env:=h.env
 keys:=hk
 regnew:=h.regnew
 fit:=h.fit
def DW.putOff{Γ:FH}{s:St}{t:Array Value}(h:DW Γ β Im s t w)(o:ZH l β w Im s.regs)(h0:Γ.W0.heap.size<=l)(hm:l∉Γ.marks)(x:Obj):DW Γ β Im s t (w.putObj l x):=by
 have NK:∀k,k≠l->(w.putObj l x).heap[k]?=w.heap[k]?:=fun k hk=>World.putObj_heap_other hk
 have hk:ED w Im (w.putObj l x) Im:=⟨fun _ h=>h,fun b hb=>NK b fun e=>o.im (e▸hb)⟩
 exact{
     fit:=h.fit.putOff o x,os:=h.os,tape:=h.tape,output:=h.output,size:=by rw[World.putObj_size];exact h.size,block:=fun k IE hn=>(NK k omg).trans (h.block k IE hn),imin:=h.imin,imnew:=h.imnew,regnew:=h.regnew,fixed:=h.fixed
     glob:=Γ.mono hk h.glob,mnod:=h.mnod,marks:=fun D hD=>by obtain⟨m1,m2,m3,m4⟩:=h.marks D hD;exact⟨(NK D fun e=>hm (e▸hD)).trans m1,m2,m3,m4⟩ }
end
def Uf(β:ET)(w:World)(Im:Nat->Prop)(ls:List L)(t:Array Value):Prop:=t.size=ls.length/\∀i m,ls[i]?=some m->CE β w Im (t.getD i undef) m
def fZ:List Tmp->List PV->List L->List L|p::ps,x::xs,t=>fZ ps xs (t.set p (.p x))|_,_,t=>t
def Uf.set{β:ET}{w:World}{Im:Nat->Prop}{ls:List L}{t:Array Value}(h:Uf β w Im ls t)(p:Tmp){v:Value}{x:PV}(hv:BW w Im v x):Uf β w Im (ls.set p (.p x)) (t.setIfInBounds p v):=by
 refine⟨by simp[h.1],fun i m hm=>?_⟩;rw[SO]at hm;by_cases hd:p=i
 ·subst hd;rw[AB rfl]at hm;split at hm
  ·cases hm;rename_i BZ;have:p<t.size:=by rw[h.1];exact BZ
   simp[OQ,this];exact hv
  ·cases hm
 ·rw[AA hd]at hm;have:=h.2 i m hm;simpa[OQ,gO,hd]using this
def J0u{β:ET}{w:World}{Im:Nat->Prop}:∀(ps:List Tmp) (xs:List PV) (us:List Value) (ls:List L) (t:Array Value),Uf β w Im ls t->g_ w Im us xs->Uf β w Im (fZ ps xs ls) ((ps.zip us).foldl (fun t (p,v)=>t.setIfInBounds p v) t)
 |[],_,_,ls,t,h,_=>h
 |p::ps,[],us,ls,t,h,hv=>by
  have:us=[]:=KH (by simpa using hv.1);subst this;exact h
 |p::ps,x::xs,us,ls,t,h,hv=>by
  match us,hv with
  |u::us,hv =>
   exact J0u ps xs us _ _ (h.set p (hv.2 0 u x rfl rfl)) ⟨by simpa using hv.1,fun i v p h1 h2=>hv.2 (i+1) v p h1 h2⟩
def Ked(h:Uf β w Im ls t)(k:Fit β w Im ⟨[],rs⟩ #[]):Fit β w Im ⟨ls,rs⟩ t:=
 { k with size:=h.1,tmps:=h.2 }
def RH(X:Cx):Code->(St->Prop)->St->Prop
 |.skip,K,s=>K s
 |.region _ ops TF,K,s=>match TF with
  |false=>LP X (ops.toList.map (·.dst)) ops.toList K s
  |true=>False
 |.seq a b,K,s=>RH X a (RH X b K) s
 |_,_,_=>False
section
variable {X:Cx} {Γ:FH} {ro:Option Nat}
def J6{ms:List Nat}{ops:Array Oper}{K:St->Prop}{Q:Exit->Act->World->Prop}{n:Nat}(hG:Γ.G=X.G)(hQ:∀s a w,K s->TD Γ ms s a w->Q .normal a w):∀(os:List Oper) (i:Nat),(∀j,os[j]?=ops[i+j]?)->∀(s:St) (a:Act) (w:World),TD Γ ms s a w ->
  LP X (ops.toList.map (·.dst)) os K s->wpOpsIn (F0 ro) n X.P ops Q (List.range' i os.length) a w
 |[],i,_,s,a,w,h,hl=>by simpa[wpOpsIn]using hQ s a w hl h
 |o::os,i,hi,s,a,w,h,hl=>by
  have h0:ops[i]?=some o:=by simpa using(hi 0).symm
  have JM:∀j,os[j]?=ops[i+1+j]?:=fun j=>by have:=hi (j+1);simpa[QO,YM 1 j]using this
  simp only[DH,List.range'_succ,wpOpsIn,h0];simp only[LP]at hl;obtain⟨s',h',hc⟩:=Gb h.rr hl;have hm:TD Γ ms s' a w:=by
   obtain⟨ms',h1,h2⟩:=h';have:ms'=ms:=by
    have e:=h1.symm.trans h.1;have inj:∀(x y:List Nat),x.map F6=y.map F6->x=y:=by
     intro x
     induction x with
     |nil=>intro y hy;cases y<;>first|rfl|cases hy
     |cons a x ih =>
      intro y hy;cases y with
      |nil=>cases hy
      |cons b y =>
       simp only[Fc,gS]at hy;have e1:a=b:=by
        have:=congrArg Deferred.target hy.1;simpa[F6]using this
       rw[e1,ih y hy.2]
    exact inj _ _ e
   subst this;exact⟨h1,h2⟩
  rcases hc with⟨hA,hw⟩|⟨hB,hw⟩
  ·rw[AB (hw o rfl)];exact Oper.wpIn_mono (fun a' w' ⟨s2,X8,MH⟩=>J6 hG hQ os (i+1) JM s2 a' w' MH X8) (Lm hG hm hA)
  ·rw[AA (by rw[hw o rfl];simp)];obtain⟨CZ,β,Im,hx⟩:=hm;exact⟨fun _ _=>trivial,J6 hG hQ os (i+1) JM _ _ w ⟨Bf CZ,β,Im,hx.put o.dst H0⟩ hB⟩
def Lj{ms:List Nat}(hG:Γ.G=X.G):∀(c:Code) (K:St->Prop) (s:St) (a:Act) (w:World),TD Γ ms s a w->RH X c K s->c.wpIn (F0 ro) 1 X.P (Exit.then (fun a w=>∃s,K s/\TD Γ ms s a w) (fun _ _ _=>False)) a w
 |.skip,K,s,a,w,hr,h=>wpIn_skip ⟨s,h,hr⟩
 |.region id ops false,K,s,a,w,hr,h=>by
  refine wpIn_region ?_;have:=J6 (X:=X) (Γ:=Γ) (ro:=ro) (n:=1) (ops:=ops) (K:=K) (Q:=Exit.then (fun a w=>∃s,K s/\TD Γ ms s a w) (fun _ _ _=>False)) hG (fun s a w h1 h2=>⟨s,h1,h2⟩) ops.toList 0 sm s a w hr h;rw[Array.length_toList]at this;rw[List.range_eq_range'];exact this
 |.region id ops true,K,s,a,w,hr,h=>h.elim
 |.seq x y,K,s,a,w,hr,h=>by
  simp only[RH]at h;refine wpIn_seq (wpIn_mono (Lj hG x _ s a w hr h) fun e a w hq=>?_);cases e with
  |normal=>obtain⟨s',h1,h2⟩:=hq;exact Lj hG y K s' a w h2 h1
  |exit id=>exact hq.elim
  |ret=>exact hq.elim
  |goto l=>exact hq.elim
  |panic c=>exact hq.elim
  |outgrown=>exact hq.elim
 |.cond ..,_,_,_,_,_,h=>h.elim
 |.block ..,_,_,_,_,_,h=>h.elim
 |.loop ..,_,_,_,_,_,h=>h.elim
 |.exit ..,_,_,_,_,_,h=>h.elim
 |.ret,_,_,_,_,_,h=>h.elim
 |.label ..,_,_,_,_,_,h=>h.elim
 |.rangeFunc ..,_,_,_,_,_,h=>h.elim
 |.scope ..,_,_,_,_,_,h=>h.elim
 |.goto ..,_,_,_,_,_,h=>h.elim
 |.refuse ..,_,_,_,_,_,h=>h.elim
end
def Vm(n:Nat)(rn:List (Nat×Nat))(Inv:Nat->BX->Prop)(Stop:Ex->BX->Prop)(k:Nat):Ex->St->Prop|.normal,s=>∃R,Inv (k+1) R/\(Du rn s).Le ⟨Ba n [],R⟩|.exit id,s=>∃R,Stop (.exit id) R/\(Du rn s).Le ⟨Ba n [],R⟩|.ret,s=>∃R,Stop .ret R/\(Du rn s).Le ⟨Ba n [],R⟩
def kP:Ex->Option Code|.normal=>none|.exit id=>some (.exit id)|.ret=>some .ret
section
variable {X:Cx}
def RoundIn.room{m:Nat}{P:Program}{assign body:Code}{R:Ending->World->Prop}(h:RoundIn (F0 none) n P l f tmps assign body w R):RoundIn (F0 none) m P l f tmps assign body w R:=
 ⟨h.1,fun c cs _=>h.2 c cs fun d hd=>by simp[F0]at hd⟩
def Ws{x y:Obj}:(w.putObj l x).putObj l y=w.putObj l y:=by
 unfold World.putObj;simp
def Z4(h:DW Γ β Im s tmps w){ps:List PV}{loc:Loc}(hd:Am d s.regs=some (.var T cs))(hp:Bg L.pure? cs=some ps)(CM:β d=some loc) :
  CE (fun _=>none) w (fun b=>Im b\/∃loc,β d=some loc/\b=loc.blk) (.pointer (some ⟨loc.blk,0,none⟩)) (.eptr ps):=by
 obtain⟨CO,cur,CF,g2,g3,g4,g5,g6⟩:=h.fit.regs d _ (Ax hd);rw[CM]at CF;cases CF;obtain⟨CY,ZX⟩:=Bh hp;have hk:ED w Im w (fun b=>Im b\/∃loc,β d=some loc/\b=loc.blk):=⟨fun b hb=>.inl hb,fun _ _=>rfl⟩
 refine⟨loc.blk,0,.inr ⟨loc,CM,rfl⟩,rfl,fun j=>cur.getD j undef,fun j hj=>?_,fun j p hj=>?_⟩
 ·have hjc:j<cur.length:=omg;have e:w.heap[loc.blk]?=some (.cells ⟨cur⟩ T (0,0)):=g4;simp[World.cell?,e,hjc]
 ·obtain⟨c,hc⟩:=BQ CY hj;obtain⟨v,hv⟩:=BQ g5 hc;have h1:=ZX j c p hc hj;have h2:=P4 h1;subst h2;obtain⟨r1,r2⟩:=g6 j v _ hv hc;refine⟨?_,?_⟩
  ·have:cur.getD j undef=v:=by simp[GU,hv]
   show BW w _ (cur.getD j undef) p;rw[this];exact BW.mono hk r1
  ·rcases r2 with r2|r2
   ·exact r2
   ·cases r2
def CL.rangeFunc{ro:Option Nat}{g:Operand}{ps:Array Tmp}{assign body:Code}{Q:Ex->St->Prop}{s s1:St}{f d:Nat}{T:TypeId}{cs:List L}{sU:List PV}(xs:List (List PV))(n:Nat)(rn:List (Nat×Nat))(OY:∀x∈rn,x.2<1000\/500000<=x.2)(Inv:Nat->BX->Prop)(Stop:Ex->BX->Prop)(hg:s.get g=.fn f [d])(hd:Am d s.regs=some (.var T cs))(hp:Bg L.pure? cs=some sU)(hi:Tb X f [.eptr sU] xs)(XV:Dx d (some .gone) s=s1)(hn:s1.tmps.length=n)(dY:s1.regs.length<=1000)(F':∀x∈xs,x.length=ps.size)(h0:Inv 0 (Cz (JU 0 s1.regs) s1.regs))(SE:∀k R,Inv k R->∀e r,(e,r)∈R->e=900\/findKey e (Cz (JU 0 s1.regs) s1.regs)=true)(SF:∀x R,Stop x R->∀e r,(e,r)∈R->e=900\/findKey e (Cz (JU 0 s1.regs) s1.regs)=true)(TI:∀R,¬Stop .normal R)(round:∀k x R l,xs[k]?=some x->Inv k R->RH X assign (fun s2=>CL X (some l) body (Vm n rn Inv Stop k) s2) ⟨fZ ps.toList x (s1.tmps.map (L.map (Mq (JU 0 s1.regs)))),R⟩)(done:∀R,Inv xs.length R->Q .normal (s1.after (JU 0 s1.regs) (Ek none R) R))(stop:∀x R,Stop x R->Q x (s1.after (JU 0 s1.regs) (Ek none R) R)):CL X ro (.rangeFunc g ps assign body) Q s:=by
 intro Γ a w hG hr;obtain⟨ms,CZ,β,Im,hx⟩:=hr;have ES:=A2 hx.fit g;rw[hg]at ES;obtain⟨vs,ES,KZ,gY⟩:=ES;obtain⟨v,rfl⟩:∃v,vs=[v]:=by
  match vs,KZ with
  |[v],_=>exact⟨v,rfl⟩
 obtain⟨loc,CM,rfl⟩:=gY 0 v d rfl rfl;have Ng:=hx.freezeZ d .gone trivial _ (Ax hd);rw[XV]at Ng;have GP:=Z4 hx hd hp CM;generalize(fun b=>Im b\/∃loc,β d=some loc/\b=loc.blk)=I1 at Ng GP;have FF:=Jmr dY Ng.fit.nodup;generalize hρe:JU 0 s1.regs=ρ at *
 refine wpIn_rangeFunc fun fn Ui=>?_
 obtain⟨l,mk,W1,dv,Pu,gr,sV,GB,sW,dD⟩:∃(l:Nat) (mk:List Nat) (W1:World) (dv:Nat),
   (Instr.enterLoop fn a.tmps ps assign body (F0 ro).round).run X.P w=.ok (l,mk.map F6) W1/\DY w I1 W1 I1/\W1.heap[l]?=some (.loop { state:=.ready,pending:=none,fn,tmps:=a.tmps,params:=ps,assign,body,defers:=dv })/\w.heap.size<=l /\
   (∀D∈mk,W1.heap[D]?=some (.deferred (some []))/\w.heap.size<=D/\D≠l)/\mk.Nodup:=by
  cases ro with
  |none =>
   have g1:=DY.alloc (w:=w) (Im:=I1) Ng.fit.im (.deferred (some []));refine⟨w.heap.size+1,[w.heap.size],_,w.heap.size,run_enterLoop_outer _ _ _ _ _,g1.trans (DY.alloc (w:=w.alloc (.deferred (some []))) (Im:=I1) g1.lt _),?_,Nat.le_succ _,fun D hD=>?_,by simp⟩
   ·have:=World.alloc_heap_new (w.alloc (.deferred (some []))) (.loop { state:=.ready,pending:=none,fn,tmps:=a.tmps,params:=ps,assign,body,defers:=w.heap.size })
    rwa[World.size_alloc]at this
   ·rw[KI]at hD;subst hD;exact⟨(Below.heap_alloc _ _ _ sm).trans (World.alloc_heap_new w _),CS _,omg⟩
  |some l0 =>
   obtain⟨⟨r0,h1⟩,h2⟩:=hG.2 l0 rfl;have h3:w.heap[l0]?=some (.loop r0):=(hx.block l0 (Rw.1 h1).1 h2).trans h1;exact⟨w.heap.size,[],_,r0.defers,run_enterLoop_inner h3 _ _ _ _ _,DY.alloc (w:=w) (Im:=I1) Ng.fit.im _,World.alloc_heap_new w _,CS _,fun D hD=>(by cases hD),.nil⟩
 obtain⟨rec,TJ⟩:∃rec:LoopState->Option Code->Loop,rec=fun st pe=>{ state:=st,pending:=pe,fn,tmps:=a.tmps,params:=ps,assign,body,defers:=dv }:=⟨_,rfl⟩
 have sV:W1.heap[l]?=some (.loop (rec .ready none)):=by rw[TJ];exact sV
 have MA:=Ng.grow gr;have JG:∀e r loc,(e,r)∈s1.regs->β e=some loc->loc.blk<w.heap.size:=fun e r loc h1 h2=>(Ng.fit.live e r loc h1 h2).1
 have hx3:DW (Γ.wm (mk++ms)) β I1 s1 a.tmps W1:=by
  have j_:∀D∈mk,D∉ms:=fun D hD h=>by
   have:=(Rw.1 (Ng.marks D h).1).1;have:=(sW D hD).2.1;omega
  refine{ fit:=MA.fit,os:=MA.os,tape:=MA.tape,output:=MA.output,size:=MA.size,block:=MA.block,imin:=MA.imin,imnew:=MA.imnew,regnew:=MA.regnew,fixed:=MA.fixed,glob:=MA.glob,mnod:=bw.2 ⟨dD,MA.mnod,fun D hD E hE e=>j_ D hD (e▸hE)⟩,marks:=fun E hE=>?_ };rcases H'.1 hE with hE|hE
  ·obtain⟨m1,m2,_⟩:=sW E hE;exact⟨m1,fun h=>by have:=Ng.fit.im _ h;omega,Nat.le_trans Ng.size m2,fun e r loc h1 h2=>by have:=JG e r loc h1 h2;omega⟩
  ·exact MA.marks E hE
 obtain⟨QV,dZ⟩:∃QV,QV=Cz ρ s1.regs:=⟨_,rfl⟩
 rw[<-dZ]at h0 SE SF;have sX:Fit (Ky ρ β) W1 I1 ⟨[],QV⟩ #[]:=by
  have:=MA.fit.call FF (args:=[]) (vs:=[]) rfl (fun i v m h=>by simp at h);rw[dZ];exact this
 have tf0:Uf (Ky ρ β) W1 I1 (s1.tmps.map (L.map (Mq ρ))) a.tmps:=by
  refine⟨by simp[MA.fit.size],fun i m hm=>?_⟩;rw[Eam]at hm;obtain⟨m',h1,rfl⟩:=HF.1 hm;exact(MA.fit.tmps i m' h1).map fun d n hd=>D1 FF (Zz hd).1
 have da:ZH l (Ky ρ β) W1 I1 QV:=by
  refine⟨(Rw.1 sV).1,fun h=>by have:=Ng.fit.im _ h;omega,fun e r loc h1 h2=>?_⟩;rw[dZ]at h1;obtain⟨e',r',g1,g2,_⟩:=Dd h1;rw[D1 FF g2]at h2;have:=JG e' r' loc g1 h2;omega
 generalize k_:Ky ρ β=β0 at *
 obtain⟨J,sY⟩:∃J:Gh,J=fun k w' I'=>match k with
  |some k=>∃β' R,Inv k R/\Trans l β0 W1 I1 QV β' w' I' R/\w'.heap[l]?=some (.loop (rec .ready none))
  |none=>∃β' R x c,Stop x R/\kP x=some c/\Trans l β0 W1 I1 QV β' w' I' R/\w'.heap[l]?=some (.loop (rec .done (some c))):=⟨_,rfl⟩
 have hJ:sS J:=by
  intro k w' I' w2 I2 BZ hj PE;subst sY;cases k with
  |some k =>
   obtain⟨β',R,h1,h2,h3⟩:=hj;exact⟨β',R,h1,h2.trans (Jxp h2.fit PE),(PE.block l (Rw.1 h3).1).trans h3⟩
  |none =>
   obtain⟨β',R,x,c,h1,hc,h2,h3⟩:=hj;exact⟨β',R,x,c,h1,hc,h2.trans (Jxp h2.fit PE),(PE.block l (Rw.1 h3).1).trans h3⟩
 have hY:sT X l J xs:=by
  intro k x hk w' I' us hj Ua BZ CT;have LM:=hj;subst sY;obtain⟨β',R,db,hT,DB⟩:=LM;have PU:x.length=ps.size:=F' x (D4 hk);have hy:=run_yield (P:=X.P) (args:=(⟨us⟩:Array Value)) DB (by rw[TJ];simp only[List.size_toArray];rw[CT.1];exact PU);rw[TJ]at hy;have kQ:=hT.off da;have pD:=hT.keeps da sX;have tf1:Uf β' w' I' (s1.tmps.map (L.map (Mq ρ))) a.tmps:=by
   refine⟨tf0.1,fun i m hm=>(tf0.2 i m hm).mono pD fun e he=>?_⟩;rw[Eam]at hm;obtain⟨m',h1,rfl⟩:=HF.1 hm;obtain⟨e',FO⟩:=V3 he;obtain⟨u1,u2⟩:=Zz FO;exact hT.env e (FF.ge e' e u1) u2
  have tf2:=J0u ps.toList x us _ _ tf1 CT;refine⟨fn,_,assign,body,hy,RoundIn.room (n:=1) (roundIn_of_wpIn Ui ?_)⟩;have Zk:TD ⟨w',β',I',fun k=>∃d r loc,(d,r)∈R/\β' d=some loc/\loc.blk=k,[],X.G,X.mono⟩ [] ⟨fZ ps.toList x (s1.tmps.map (L.map (Mq ρ))),R⟩ { tmps:=(ps.zip ⟨us⟩).foldl (fun t (p,v)=>t.setIfInBounds p v) a.tmps,defers:=[] } w':=by
   have e:(ps.zip ⟨us⟩).foldl (fun t (p,v)=>t.setIfInBounds p v) a.tmps=(ps.toList.zip us).foldl (fun t (p,v)=>t.setIfInBounds p v) a.tmps:=by
    rw[<-Array.foldl_toList,Array.toList_zip]
   refine⟨rfl,β',I',?_⟩;simp only[e];exact{
       fit:=Ked tf2 hT.fit,os:=rfl,tape:=rfl,output:=rfl,size:=CS _,block:=fun _ _ _=>rfl,imin:=fun _ h=>h,imnew:=fun _ h=>.inl h,regnew:=fun d r loc hd hl=>.inr ⟨d,r,loc,hd,hl,rfl⟩,fixed:=fun _ _ _=>rfl
       glob:=Ua,marks:=fun D hD=>(by cases hD),mnod:=.nil }
  refine wpIn_mono (show assign.wpIn (F0 (some l)) 1 X.P _ _ _ from Lj (Γ:=⟨w',β',I',fun k=>∃d r loc,(d,r)∈R/\β' d=some loc/\loc.blk=k,[],X.G,X.mono⟩) rfl assign _ _ _ _ Zk (round k x R l hk db)) fun e a1 w1 hq=>?_
  cases e with
  |exit id=>exact hq.elim
  |ret=>exact hq.elim
  |goto l=>exact hq.elim
  |panic c=>exact hq.elim
  |outgrown=>exact hq.elim
  |normal =>
  obtain⟨s2,dc,nq,RG,Ia,nr⟩:=hq;have T1:Trans l β' w' I' R RG w1 Ia s2.regs:=by have:=Jzo (l:=l) (rs:=R) nr (fun _ h=>h);exact this
  have GH:w1.heap[l]?=some (.loop (rec .ready none)):=(ZH.same (rs:=R) kQ nr (fun _ h=>h)).trans DB;have bQ:=T1.off kQ;have l_:=bQ.lt;refine⟨_,run_beginRound GH (by rw[TJ]),?_⟩;obtain⟨w2,nt⟩:∃w2,w1.putObj l (.loop { rec .ready none with state:=.busy })=w2:=⟨_,rfl⟩
  rw[nt];have IX:w2.heap[l]?=some (.loop { rec .ready none with state:=.busy }):=by rw[<-nt];exact World.putObj_heap_same l_
  have T2:Trans l RG w1 Ia s2.regs RG w2 Ia s2.regs:=by rw[<-nt];exact Trans.put nr.fit.regsOnly bQ _
  have ZI:=T2.off bQ;have MH:RR ⟨w2,RG,Ia,fun k=>∃d r loc,(d,r)∈s2.regs/\RG d=some loc/\loc.blk=k,[],X.G,X.mono⟩ s2 a1 w2:=by
   refine⟨[],nq,RG,Ia,?_⟩;exact{
       fit:=by rw[<-nt];exact nr.fit.putOff bQ _,os:=rfl,tape:=rfl,output:=rfl,size:=CS _,block:=fun _ _ _=>rfl,imin:=fun _ h=>h,imnew:=fun _ h=>.inl h,regnew:=fun d r loc hd hl=>.inr ⟨d,r,loc,hd,hl,rfl⟩,fixed:=fun _ _ _=>rfl
       glob:=X.mono (T2.keeps bQ nr.fit.regsOnly) nr.glob,marks:=fun D hD=>(by cases hD),mnod:=.nil }
  refine wpIn_mono (show body.wpIn (F0 (some l)) 1 X.P _ _ _ from dc _ a1 w2 ⟨rfl,fun l' h=>by cases h;exact⟨⟨_,IX⟩,fun⟨d,r,loc,h1,h2,h3⟩=>ZI.reg d r loc h1 h2 h3⟩⟩ MH) fun e a3 w3 hq=>?_
  have ae:∀(R':BX) (LS:Option Code) (s3:St),s3.Le ⟨Ba n [],R'⟩->RR ⟨w2,RG,Ia,fun k=>∃d r loc,(d,r)∈s2.regs/\RG d=some loc/\loc.blk=k,[],X.G,X.mono⟩ s3 a3 w3 ->
    ∃
     cI I3,(Instr.endRound l LS).run X.P w3=.ok (.bool LS.isNone) (w3.putObj l (.loop (rec (if LS.isNone then .ready else .done) LS)))/\IC w' I' (w3.putObj l (.loop (rec (if LS.isNone then .ready else .done) LS))) I3 /\
     Trans l β0 W1 I1 QV cI (w3.putObj l (.loop (rec (if LS.isNone then .ready else .done) LS))) I3 R'/\(w3.putObj l (.loop (rec (if LS.isNone then .ready else .done) LS))).heap[l]?=some (.loop (rec (if LS.isNone then .ready else .done) LS)):=by
   intro R' LS s3 DO kR;obtain⟨ms3,_,cI,I3,sZ⟩:=DO _ _ _ kR;have T3:Trans l RG w2 Ia s2.regs cI w3 I3 R':=by have:=Jzo (l:=l) (rs:=s2.regs) sZ (fun _ h=>h);exact this
   have ZJ:w3.heap[l]?=some (.loop { rec .ready none with state:=.busy }):=(ZH.same (rs:=s2.regs) ZI sZ (fun _ h=>h)).trans IX;have sc:=T3.off ZI;have T4:=Trans.put T3.fit sc (.loop (rec (if LS.isNone then .ready else .done) LS));have Tall:=T1.trans (T2.trans (T3.trans T4));refine⟨cI,I3,?_,Tall.ykeep kQ hT.fit,hT.trans Tall,World.putObj_heap_same sc.lt⟩;have:=run_endRound (P:=X.P) LS ZJ;rw[TJ]at this⊢;exact this
  cases e with
  |normal =>
   obtain⟨s3,⟨R',sd,DO⟩,kR⟩:=hq;obtain⟨cI,I3,g1,g2,g3,g4⟩:=ae R' none s3 ((B1 rn s3 OY).trans DO) kR;exact⟨_,_,g1,I3,g2,.inl ⟨rfl,cI,R',sd,g3,g4⟩⟩
  |exit id =>
   obtain⟨s3,⟨R',sd,DO⟩,kR⟩:=hq;obtain⟨cI,I3,g1,g2,g3,g4⟩:=ae R' (some (.exit id)) s3 ((B1 rn s3 OY).trans DO) kR;exact⟨_,_,g1,I3,g2,.inr ⟨rfl,cI,R',.exit id,.exit id,sd,rfl,g3,g4⟩⟩
  |ret =>
   obtain⟨s3,⟨R',sd,DO⟩,kR⟩:=hq;obtain⟨cI,I3,g1,g2,g3,g4⟩:=ae R' (some .ret) s3 ((B1 rn s3 OY).trans DO) kR;exact⟨_,_,g1,I3,g2,.inr ⟨rfl,cI,R',.ret,.ret,sd,rfl,g3,g4⟩⟩
  |goto l=>exact hq.elim
  |panic c=>exact hq.elim
  |outgrown=>exact hq.elim
 have back:∀(R:BX) (β':ET) (w3:World) (I3:Nat->Prop),(∀e r,(e,r)∈R->e=900\/findKey e QV=true)->Trans l β0 W1 I1 QV β' w3 I3 R->w3.heap[l]?=some (.loop (rec .ready none)) ->
   ∀o,RR Γ (s1.after ρ (Ek none R) R) { a with defers:=mk.map F6++a.defers } (w3.putObj l o):=by
  intro R β' w3 I3 hk hT ZJ o;have EI:Gt β0 W1 I1 QV β' w3 I3 R:=hT.step (ZJ.trans sV.symm) fun e r he=>(hk e r he).imp id fun h=>Jn.1 h
  rw[dZ,<-k_]at EI;have YA:=hx3.called FF (nw:=Ek none R) (fun e he=>by
    unfold Ek at he;split at he
    ·cases he;decide
    ·cases he) (fun he=>by
    unfold Ek at he;split at he
    ·cases he
    ·assumption) EI
  have hlD:l∉mk++ms:=by
   intro h;rcases H'.1 h with h|h
   ·exact(sW l h).2.2 rfl
   ·have:=(Ng.marks l h).1;have:=(Rw.1 this).1;omega
  have m_:ZH l (C3 ρ (Ek none R) β β') w3 I3 (s1.after ρ (Ek none R) R).regs:=by
   have o3:=hT.off da;refine⟨o3.lt,o3.im,fun e r loc h1 h2=>?_⟩;intro e';have hRep:=YA.fit.regs e r h1;have h3:w3.heap[loc.blk]?=some (.loop (rec .ready none)):=by rw[e'];exact ZJ
   rcases H'.1 h1 with h1|h1
   ·obtain⟨DA,r9,h9,rfl⟩:=J5 h1;have:β' 900=some loc:=by simpa[C3,DA]using h2
    exact o3.reg 900 r9 loc h9 this e'
   ·obtain⟨DA,hq⟩:=Dt h1;rcases hq with⟨m,r',r0,k1,k2,k3,rfl⟩|⟨k1,r0,k2,rfl⟩
    ·have:β' m=some loc:=by simpa[C3,DA,k1]using h2
     exact o3.reg m r' loc k2 this e'
    ·have:β e=some loc:=by simpa[C3,DA,k1]using h2
     have:=JG e r0 loc k2 this;omega
  exact⟨mk++ms,by simp[CZ],_,_,YA.putOff m_ (Nat.le_trans Ng.size GB) hlD o⟩
 refine⟨l,mk.map F6,W1,{ target:=.fn (.func f) ⟨[.pointer (some ⟨loc.blk,0,none⟩)]⟩,args:=#[.func (.yield l) #[] #[]] },W1,f,#[.func (.yield l) #[] #[]]++⟨[.pointer (some ⟨loc.blk,0,none⟩)]⟩,W1,?_,?_,?_,?_,fun h=>by simp[F0]at h,?_⟩
 ·exact Pu
 ·simp only[resolve,ES];simp[go_sem]
 ·intro f' QU;trivial
 ·simp[invoke,hi.1 _ _]
 ·refine Yt (Calls.mono (hi.2 l J hJ hY I1 W1 [.pointer (some ⟨loc.blk,0,none⟩)] (hG.1▸MA.glob) MA.fit.im (by subst sY;exact⟨β0,QV,h0,Trans.refl sX,sV⟩) rfl (fun i v m h1 h2=>by
   match i,h1,h2 with
   |0,h1,h2=>cases h1;cases h2;exact GP.mono' ⟨fun _ h=>h,fun b hb=>gr.block b (Ng.fit.im b hb)⟩
   |i+1,h1,h2=>simp at h1)) fun e w3 ⟨v,I3,he,_,hj⟩=>?_)
  subst he;rcases hj with hj|hj
  ·subst sY;obtain⟨β',R,db,hT,ZJ⟩:=hj;have Um:=run_endLoop (P:=X.P) ZJ (by rw[TJ];simp);refine⟨_,_,Um,?_⟩;rw[TJ];exact⟨_,done R db,back R β' w3 I3 (SE _ R db) hT ZJ _⟩
  ·subst sY;obtain⟨β',R,x,c,n_,hc,hT,ZJ⟩:=hj;have Um:=run_endLoop (P:=X.P) ZJ (by rw[TJ];simp);refine⟨_,_,Um,?_⟩;have ZI:=hT.off da;have T4:=hT.trans (Trans.put hT.fit ZI (.loop (rec .ready none)));have hb:=back R β' (w3.putObj l (.loop (rec .ready none))) I3 (SF x R n_) T4 (World.putObj_heap_same ZI.lt) (.loop { rec .done (some c)with state:=.exhausted });rw[Ws]at hb;have hq:=stop x R n_;rw[TJ]at hb⊢;cases x with
   |normal=>exact absurd n_ (TI R)
   |exit id=>cases hc;exact wpIn_exit ⟨_,hq,hb⟩
   |ret=>cases hc;exact wpIn_ret ⟨_,hq,hb⟩
end
def o_(x:PV):Option (List PV)->Option (List PV)|some xs=>some (x::xs)|none=>none
def kS:Option Nat->Option Nat|some n=>if n<500000 then some n else none|none=>none
section
variable {X:Cx} {xs:List (List PV)} {l:Nat} {Q:Ex->Option Nat->St->Prop} {K:Option Nat->St->Prop} {n:Option Nat} {t:List L} {r:BX} {ds:List (Option Tmp)} {BR:List Oper} {dst:Option Tmp} {ty:TypeId} {ps:String} {af:Array Edge} {g:Option (Nat×Bool)} {k:Nat}
def kT:QB X xs l .skip Q n ⟨t,r⟩=Q .normal n ⟨t,r⟩:=(rfl)
def Jla{id:Nat}:QB X xs l (.region id ops false) Q n ⟨t,r⟩=TH X xs l (ops.toList.map (·.dst)) ops.toList (Q .normal) n ⟨t,r⟩:=(rfl)
def se{a b:Code}:QB X xs l (a.seq b) Q n ⟨t,r⟩=QB X xs l a (bP (QB X xs l b) Q) n ⟨t,r⟩:=(rfl)
def kU{c:Operand}{a b:Code}:QB X xs l (.cond c a b) Q n ⟨t,r⟩=O0 ((St.mk t r).get c) (QB X xs l a Q n) (QB X xs l b Q n) ⟨t,r⟩:=(rfl)
def Jpw{id:Nat}:QB X xs l (.block id c) Q n ⟨t,r⟩=QB X xs l c (Oe id Q) n ⟨t,r⟩:=(rfl)
def kV:QB X xs l (.loop c) Q n ⟨t,r⟩=ZG X xs l (.loop c) Q n ⟨t,r⟩:=(rfl)
def kW{id:Nat}:QB X xs l (.exit id) Q n ⟨t,r⟩=Q (.exit id) n ⟨t,r⟩:=(rfl)
def sf:QB X xs l .ret Q n ⟨t,r⟩=Q .ret n ⟨t,r⟩:=(rfl)
def Jht:bP B Q .normal n ⟨t,r⟩=B Q n ⟨t,r⟩:=(rfl)
def Jpj{id:Nat}:bP B Q (.exit id) n ⟨t,r⟩=Q (.exit id) n ⟨t,r⟩:=(rfl)
def kX:bP B Q .ret n ⟨t,r⟩=Q .ret n ⟨t,r⟩:=(rfl)
def Jff{id:Nat}:Oe id Q .normal n ⟨t,r⟩=Q .normal n ⟨t,r⟩:=(rfl)
def Jpc{id WV:Nat}:Oe id Q (.exit WV) n ⟨t,r⟩=if WV=id then Q .normal n ⟨t,r⟩else Q (.exit WV) n ⟨t,r⟩:=(rfl)
def kY{id:Nat}:Oe id Q .ret n ⟨t,r⟩=Q .ret n ⟨t,r⟩:=(rfl)
def kZ:TH X xs l ds [] K n ⟨t,r⟩=K n ⟨t,r⟩:=(rfl)
def Jnj{op:Op}:TH X xs l ds (⟨dst,op,ty,ps,af,none⟩::BR) K n ⟨t,r⟩=Wc X xs l ⟨dst,op,ty,ps,af,none⟩ (TH X xs l ds BR K) n ⟨t,r⟩:=(rfl)
def Jpd{f:Operand}{args:Array Operand}:Wc X xs l ⟨dst,.call { callee:=.value f,args:=args,argTypes:=VV },ty,ps,af,g⟩ K n ⟨t,r⟩=Y4 X xs l ⟨dst,.call { callee:=.value f,args:=args,argTypes:=VV },ty,ps,af,g⟩ args.toList K n ⟨t,r⟩ ((St.mk t r).get f):=(rfl)
def ka:Y4 X xs l o args K n ⟨t,r⟩ (.yld l')=Ur xs l l' ⟨t,r⟩ args o.dst K n:=(rfl)
def sg{is:List Nat}:Y4 X xs l o args K n ⟨t,r⟩ (.fn f is)=Fh X o (K n) ⟨t,r⟩:=(rfl)
def jy:Ur xs l l' ⟨t,r⟩ args dst K (some k)=(l'=l/\L0 xs k (K2 (args.map ((St.mk t r).freezeOps args).get)) (fun m=>K m ((((St.mk t r).freezeOps args).bare).put dst (.p (.bool true)))) (fun m=>K m ((((St.mk t r).freezeOps args).bare).put dst (.p (.bool false))))):=(rfl)
def sh{x:List PV}{a b:Option Nat->Prop}:L0 xs k (some x) a b=(xs[k]?=some x/\a (some (k+1))/\b none):=(rfl)
def Jgt:K2 []=some []:=(rfl)
def Jne{x:PV}:K2 (.p x::ls)=o_ x (K2 ls):=by
 simp only[K2,o_]<;>cases K2 ls<;>rfl
def Jj4{x:PV}:o_ x (some ys)=some (x::ys):=(rfl)
def kf:(St.mk t r).bare=⟨t.map (L.map fun _=>none),[]⟩:=(rfl)
def Jg6:kO xs .normal n ⟨t,r⟩=(n=some xs.length\/n=none):=(rfl)
def ki:kO xs .ret n ⟨t,r⟩=(n=some xs.length\/n=none):=(rfl)
def Je2{I:ι->Option Nat×St}{SC:ι->Prop}{μ:ι->Nat}{x:ι}:xB I SC μ x Q .normal n ⟨t,r⟩ = ∃y,SC y/\μ y<μ x/\n=(I y).1/\(St.mk t r).Le (I y).2:=(rfl)
def Jns{I:ι->Option Nat×St}{SC:ι->Prop}{μ:ι->Nat}{x:ι}{id:Nat}:xB I SC μ x Q (.exit id) n ⟨t,r⟩=Q (.exit id) n ⟨t,r⟩:=(rfl)
def kj{I:ι->Option Nat×St}{SC:ι->Prop}{μ:ι->Nat}{x:ι}:xB I SC μ x Q .ret n ⟨t,r⟩=Q .ret n ⟨t,r⟩:=(rfl)
def Jp5:Wc X xs l ⟨dst,.move x,ty,ps,af,g⟩ K n ⟨t,r⟩=Fh X ⟨dst,.move x,ty,ps,af,g⟩ (K n) ⟨t,r⟩:=(rfl)
def Jfo:Wc X xs l ⟨dst,.assign x,ty,ps,af,g⟩ K n ⟨t,r⟩=Fh X ⟨dst,.assign x,ty,ps,af,g⟩ (K n) ⟨t,r⟩:=(rfl)
def km{op:BinOp}{ty1:TypeId}{y:Operand}:Wc X xs l ⟨dst,.binOp op tx x y ty1,ty,ps,af,g⟩ K n ⟨t,r⟩=Fh X ⟨dst,.binOp op tx x y ty1,ty,ps,af,g⟩ (K n) ⟨t,r⟩:=(rfl)
def si{op:UnOp}:Wc X xs l ⟨dst,.unOp op tx x,ty,ps,af,g⟩ K n ⟨t,r⟩=Fh X ⟨dst,.unOp op tx x,ty,ps,af,g⟩ (K n) ⟨t,r⟩:=(rfl)
def Jp8:Wc X xs l ⟨dst,.load tx x,ty,ps,af,g⟩ K n ⟨t,r⟩=Fh X ⟨dst,.load tx x,ty,ps,af,g⟩ (K n) ⟨t,r⟩:=(rfl)
def Ji1{a:Operand}:Wc X xs l ⟨dst,.store tx a x,ty,ps,af,g⟩ K n ⟨t,r⟩=Fh X ⟨dst,.store tx a x,ty,ps,af,g⟩ (K n) ⟨t,r⟩:=(rfl)
def U3{f:Nat}:Wc X xs l ⟨dst,.fieldAddr tx x f,ty,ps,af,g⟩ K n ⟨t,r⟩=Fh X ⟨dst,.fieldAddr tx x f,ty,ps,af,g⟩ (K n) ⟨t,r⟩:=(rfl)
def Wf{i:Operand}:Wc X xs l ⟨dst,.indexAddr tx x i,ty,ps,af,g⟩ K n ⟨t,r⟩=Fh X ⟨dst,.indexAddr tx x i,ty,ps,af,g⟩ (K n) ⟨t,r⟩:=(rfl)
def Jl6{lo hi mx:Option Operand}:Wc X xs l ⟨dst,.slice tx x lo hi mx,ty,ps,af,g⟩ K n ⟨t,r⟩=Fh X ⟨dst,.slice tx x lo hi mx,ty,ps,af,g⟩ (K n) ⟨t,r⟩:=(rfl)
def Kdk{bt:Builtin}{args:Array Operand}:Wc X xs l ⟨dst,.call { callee:=.builtin bt,args:=args,argTypes:=VV },ty,ps,af,g⟩ K n ⟨t,r⟩=Fh X ⟨dst,.call { callee:=.builtin bt,args:=args,argTypes:=VV },ty,ps,af,g⟩ (K n) ⟨t,r⟩:=(rfl)
end
section
variable {X:Cx} {K:St->Prop} {t:List L} {r:BX} {Inv:Nat->BX->Prop} {Stop:Ex->BX->Prop} {n k:Nat}
def Jh4{id:Nat}:RH X (.region id ops false) K ⟨t,r⟩=LP X (ops.toList.map (·.dst)) ops.toList K ⟨t,r⟩:=(rfl)
def sj{a b:Code}:RH X (a.seq b) K ⟨t,r⟩=RH X a (RH X b K) ⟨t,r⟩:=(rfl)
def Jgv:Vm n rn Inv Stop k .normal ⟨t,r⟩ = ∃R,Inv (k+1) R/\(Du rn ⟨t,r⟩).Le ⟨Ba n [],R⟩:=(rfl)
def ko:Vm n rn Inv Stop k .ret ⟨t,r⟩ = ∃R,Stop .ret R/\(Du rn ⟨t,r⟩).Le ⟨Ba n [],R⟩:=(rfl)
def Wk{p:Tmp}{ps:List Tmp}{x:PV}:fZ (p::ps) (x::ys) t=fZ ps ys (t.set p (.p x)):=(rfl)
def X0:fZ [] ys t=t:=by cases ys<;>rfl
def Jkl:JU k []=[]:=(rfl)
def Jlf:JU k ((d,.var T cs)::r)=(d,1000+k)::JU (k+1) r:=(rfl)
def Jlz{sz:Nat}{es:List (List PV)}:JU k ((d,.row T sz es)::r)=(d,if 1000<=d/\d<500000 then 1000+k else 500000+k)::JU (k+1) r:=by
 simp[JU,i_]
def sk:Mq ρ d=kS (EB ρ d):=by
 unfold Mq kS;cases EB ρ d<;>rfl
def Xv:kS (some d)=if d<500000 then some d else none:=(rfl)
end
attribute [go_sem] Jp7 iJ Jid pq iK Jpi iL iM pr Jng Wj Jaq Jf3 Qz Vo Z2 pw iN Jpg py iO Joa zo pz iP W2 p7 iQ iR p8 Jm9 iS iT p9 qA iU iV iW iX qB iY Jl2 qC zq iZ ia qD ib Jnh Xg Yf Jnn Jpn Jf5 Jm5 Jb7 qE qF qG Jn4 qH V7 Yp ic Jms ie Jgq Jp6 ig Jn8 Zf Ji2 Jkk ij Jpz Ji3 qI ik Ji7 qJ zr il Jb4 ir Za W3 Jp9 Jo0 Jhf qK J6b Jmo qL iu Q9 Jeg Jmu iw qP qQ Jje iz Jpt jA Jlr Jie Jb5 jB Jgk Jfr Jho Jhz Jnt Jhd Jfg jD jE jF jG jH Jm1 Jjt jI jJ Jnb jK jL Xs Xf Jp4 Jey zw qS Jem Un So Vz Vl qT qU qV qW qX qY qZ qa zx qb qc qd qe qf qg jM jN jO jP jQ jR qh qk ql qm jT Kgs Kgf zy Kex Kcn jV Kfy J0w qp Jgg Jg3 Jlo qq Jev Jil Jhe Jbn Vr jW Jb3 Zt Uu X9 My U0 Jad qt Jgu Jjq Jgf Jfq Jnm Yb Jnd Jja Jii Kbr Jh1 z' Jn3 Jia Keg Xz Jga Jl1 jX Jpe jY Kdp jZ Y6 Xe Jb2 Ja4 Jex Jhq Jgd J9v Je7 Jh7 Jks Jpp Jpq Joo Jol Jn6 Jps Jpf Jos Jo5 Jp1 Jgc Jnv Jfb ja qv Jk4 Jpy Jl4 Jhh Jbq Jhv Jaj Jhi Jgm qw jb Kf4 Jfv Ja9 Zm qy Jir Jn5 J7p jd Kc7 J97 Jcq Ys J91 Xj Jas Jap Jjj Jno je q6 Jjl Jkj Jic Je0 Jjc Jj3 Jox Jf8 Jmb Jmt q7 jf jg jh Jph q8 ji Jon q9 Jgl Jf7 Kai Jhj Jcr Jp2 Jfm Jar Jjb Jhk Jit Jcj Jeo Jm4 jk Jn9 Jiw Jlx Jji Jim Joq Jm7 Vj Zb Wm Sk Jo7 Vs Sr Xr Ut Uj Uq Vb Sp Jnk Jcd Ja6 jm Jej Ja2 Zw W6 Zd Yq Sw Sy Jpa Jj7 Jin Jfp S1 Qc Jix Jhb Jgi Xu Yu Vp Xw Jcs Jml Jef Jcb Jbt Jao Ji0 Jiu Jew Jlt rB Jn0 Jmy Kd8 jn Jjs Joi Jnp Jmf jo jq Kgn rC jr Jlm Xo Vd X7 V9 Jf1 Uh Sx Vh Sm Ji8 Jlp Wa Su Jgx Jpu Ji5 Jop js Jnx Joc rE rF Jpv rG rH rI X1 rJ rK rL Jj9 rM rN Jjo rO rP Jk7 Jjh Kev Jan J5m ju Jgp Jcu Kad rR rS Jok rT Jbs Jbh Jav Jbc rU rV rW rX jv Xy rY jx rZ Wo Kaf ra rb Jo2 Jky Jjw Jiz jz Jof rf j0 rh Jp0 Job Jmv Jhc Jm3 j3 j4 Jfy Jkp Jhp V4 Jmk Yy Ul Jh0 Jhl rj rl j5 Kbw Kco rq ru rz r8 Kb7 j6 sA sB sC sD j7 Jbm Jez Joy Jfc Jh3 j8 j9 Je1 Jls kA Jpm sE sF Jgr Jgh Jcf kB Jm0 Jb6 Yd Vq Vc kC kD Jaw kE U2 Sl Joh Jkr Jl9 Jcp Yv Yn Vg V6 Sn Jlv Jmh Jj6 Jby Zq Jbl Zp Jal Jbd Zh Jif Jkx Jio Jgo Jjg Jku Kbp Jll sG Jkc Jnw Jkv Joj Jpl Jiy kG sH Jjn Jnf Jlu Jom Jog Jlw Jjd Jme Keq Jo9 Jkn Jij Kb3 kH Jgj Jgs kI Jk3 Jk1 Jpk Jfa Jp3 Jbe kJ Jnu sR Jn7 Jo8 kK kT Jla se kU Jpw kV kW sf Jht Jpj kX Jff Jpc kY kZ Jnj Jpd ka sg jy sh Jgt Jne Jj4 kf Jg6 ki Je2 Jns kj Jp5 Jfo km si Jp8 Ji1 U3 Wf Jl6 Kdk Jh4 sj Jgv ko Wk X0 Jkl Jlf Jlz sk Xv Vy Jhr sJ sK sL Je3 Ao Aj U7 Wd Jac Jlb Jg1 MJ fQ List.map_cons List.map_nil List.getD_cons_zero List.getD_cons_succ List.length_cons List.length_nil List.cons_append List.nil_append List.append_nil List.length_map List.flatMap_cons List.flatMap_nil List.contains_cons List.contains_nil List.take_succ_cons List.take_zero List.take_nil List.drop_succ_cons List.drop_zero List.drop_nil List.set_cons_zero List.set_cons_succ List.getElem?_cons_zero List.getElem?_cons_succ List.all_cons List.all_nil decide_eq_true_eq beq_iff_eq bne_iff_ne decide_eq_false_iff_not beq_eq_false_iff_ne bne_eq_false_iff_eq Bool.not_eq_true' Bool.not_eq_eq_eq_not ne_eq Decidable.not_not Int.not_lt Int.not_le not_true_eq_false not_false_eq_true true_and and_true false_implies implies_true forall_const imp_self Int.toNat_natCast Int.natCast_nonneg Nat.zero_add Ac Bool.not_true Bool.not_false PV.agg.injEq L.p.injEq PV.bool.injEq PV.int.injEq PV.str.injEq L.tup.injEq List.cons.injEq Bool.true_eq_false Bool.false_eq_true Bool.true_and Bool.and_true Bool.false_and Bool.and_false Bool.or_false Bool.or_true Bool.false_or Bool.true_or beq_self_eq_true and_self
def EA{p q:Prop}(k:q)(h:p:=by first|omega|(simp(disch:=omega)only [Aa,Ab,Ac]at *;omega)):p/\q:=⟨h,k⟩
def p_{α:Type}{l:List α}{i:Nat}{Q:α->Prop}(hq:∀a,l[i]?=some a->Q a)(h:i<l.length:=by first|omega|(simp(disch:=omega)only [Aa,Ab,Ac]at *;omega)):∃a,l[i]?=some a/\Q a:=Ak h hq
def q_{X:Cx}{id:Nat}(hm:X.P.follows .mixedOrders=true)(h:Jf X (ops.toList.map (·.dst)) ops.toList (Q .normal) s)(h0:wG ops.toList=true:=by rfl)(hB:Region.lexB .any ops=true:=by kernel_rfl):CL X ro (.region id ops true) Q s:=Ah hm h0 hB h
def CH{ws qO:List (Nat×L)}{r r':BX}(ht:WX n ws qO:=by simp only[Ap,Ar,Ao,Aj,Af,Nat.reduceEqDiff,reduceIte,Nat.reduceLT,Nat.reduceLeDiff];simp(disch:=omega) [Af,Ai,Au,Aa]<;>(repeat' apply And.intro)<;>omega)(hr:Az r r':=by simp(disch:=omega) [Az,A3,Aw,Am,Af,Ai,Au,Aa])(hk:Ay r':=by simp[Ay]):St.Le ⟨Ba n ws,r⟩ ⟨Ba n qO,r'⟩:=UE ht hr hk
def ku {X:Cx} {args:List L} {Post:L->BX->Prop} (own:Bool) (rn:List (Nat×Nat)) (hf:X.P.funcs[f]?=some fn)
  (h:CL X none c (cF X.P own rn fn.results.toList (rs.map (·.1)) Post) ⟨Ba fn.ntmps (MJ 0 args),rs⟩) (OY:∀x∈rn,x.2<1000\/500000<=x.2:=by simp) (G8:(fn.name == "runtime.NumGoroutine")=false:=by kernel_rfl) (hb:fn.body=some c:=by rfl)
  (hn:args.length<=fn.ntmps:=by exact Nat.le_of_ble_eq_true rfl) (Kx:900∉rs.map (·.1):=by simp):Al X f args rs Post:=zt own rn OY hf G8 hb hn Kx h
@[go_sem] theorem f_u2:Tryz.prog.underlying 2=some (.int .i64):=kr
@[go_sem] theorem f_u3:Tryz.prog.underlying 3=some (.int .i64):=kr
@[go_sem] theorem f_a3:B2 Tryz.prog 3=some false:=kr
@[go_sem] theorem f_c3:Tryz.prog.cellsOf 3=1:=kr
@[go_sem] theorem f_z3:Bu Tryz.prog 3=some [.int .i64 0]:=kr
@[go_sem] theorem f_b3:Bo Tryz.prog 3=some 8:=kr
@[go_sem] theorem f_u4:Tryz.prog.underlying 4=some (.bool):=kr
@[go_sem] theorem f_a4:B2 Tryz.prog 4=some false:=kr
@[go_sem] theorem f_c4:Tryz.prog.cellsOf 4=1:=kr
@[go_sem] theorem f_z4:Bu Tryz.prog 4=some [.bool false]:=kr
@[go_sem] theorem f_b4:Bo Tryz.prog 4=some 1:=kr
@[go_sem] theorem f_u5:Tryz.prog.underlying 5=some (.int .u8):=kr
@[go_sem] theorem f_a5:B2 Tryz.prog 5=some false:=kr
@[go_sem] theorem f_c5:Tryz.prog.cellsOf 5=1:=kr
@[go_sem] theorem f_z5:Bu Tryz.prog 5=some [.int .u8 0]:=kr
@[go_sem] theorem f_zo5:E5 Tryz.prog 5=some (.int .u8 0):=kr
@[go_sem] theorem f_b5:Bo Tryz.prog 5=some 1:=kr
@[go_sem] theorem f_u9:Tryz.prog.underlying 9=some (.string):=kr
@[go_sem] theorem f_a9:B2 Tryz.prog 9=some false:=kr
@[go_sem] theorem f_c9:Tryz.prog.cellsOf 9=1:=kr
@[go_sem] theorem f_z9:Bu Tryz.prog 9=some [.str []]:=kr
@[go_sem] theorem f_b9:Bo Tryz.prog 9=some 16:=kr
@[go_sem] theorem f_u21:Tryz.prog.underlying 21=some (.int .i32):=kr
@[go_sem] theorem f_c21:Tryz.prog.cellsOf 21=1:=kr
@[go_sem] theorem r_:E5 Tryz.prog 21=some (.int .i32 0):=kr
@[go_sem] theorem f_u23:Tryz.prog.underlying 23=some (.slice 38):=kr
@[go_sem] theorem f_a23:B2 Tryz.prog 23=some false:=kr
@[go_sem] theorem f_c23:Tryz.prog.cellsOf 23=1:=kr
@[go_sem] theorem f_s23:IW Tryz.prog 23=some (38,11):=kr
@[go_sem] theorem f_z23:Bu Tryz.prog 23=some [.snil]:=kr
@[go_sem] theorem f_b23:Bo Tryz.prog 23=some 24:=kr
@[go_sem] theorem f_u25:Tryz.prog.underlying 25=some (.slice 36):=kr
@[go_sem] theorem f_a25:B2 Tryz.prog 25=some false:=kr
@[go_sem] theorem f_c25:Tryz.prog.cellsOf 25=1:=kr
@[go_sem] theorem f_s25:IW Tryz.prog 25=some (36,6):=kr
@[go_sem] theorem f_z25:Bu Tryz.prog 25=some [.snil]:=kr
@[go_sem] theorem s_:E5 Tryz.prog 25=some (.snil):=kr
@[go_sem] theorem f_b25:Bo Tryz.prog 25=some 24:=kr
@[go_sem] theorem f_u33:Tryz.prog.underlying 33=some (.slice 63):=kr
@[go_sem] theorem f_s33:IW Tryz.prog 33=some (63,3):=kr
@[go_sem] theorem f_a36:B2 Tryz.prog 36=some true:=kr
@[go_sem] theorem f_c36:Tryz.prog.cellsOf 36=6:=kr
@[go_sem] theorem xC:PR Tryz.prog 36 0=some (0,3):=kr
@[go_sem] theorem xD:PR Tryz.prog 36 1=some (1,3):=kr
@[go_sem] theorem xE:PR Tryz.prog 36 2=some (2,9):=kr
@[go_sem] theorem xF:PR Tryz.prog 36 3=some (3,9):=kr
@[go_sem] theorem xG:PR Tryz.prog 36 4=some (4,4):=kr
@[go_sem] theorem xH:PR Tryz.prog 36 5=some (5,3):=kr
@[go_sem] theorem t_:Ez Tryz.prog 36=true:=kr
@[go_sem] theorem f_t36:Nt Tryz.prog 36=some [.int,.int,.str,.str,.bool,.int]:=kr
@[go_sem] theorem f_z36:Bu Tryz.prog 36=some [.int .i64 0,.int .i64 0,.str [],.str [],.bool false,.int .i64 0]:=kr
@[go_sem] theorem f_b36:Bo Tryz.prog 36=some 64:=kr
@[go_sem] theorem f_a38:B2 Tryz.prog 38=some true:=kr
@[go_sem] theorem f_c38:Tryz.prog.cellsOf 38=11:=kr
@[go_sem] theorem xI:PR Tryz.prog 38 0=some (0,3):=kr
@[go_sem] theorem xJ:PR Tryz.prog 38 1=some (1,3):=kr
@[go_sem] theorem xK:PR Tryz.prog 38 2=some (2,9):=kr
@[go_sem] theorem xL:PR Tryz.prog 38 3=some (3,9):=kr
@[go_sem] theorem xM:PR Tryz.prog 38 4=some (4,3):=kr
@[go_sem] theorem xN:PR Tryz.prog 38 5=some (5,36):=kr
@[go_sem] theorem u_:Ez Tryz.prog 38=true:=kr
@[go_sem] theorem f_t38:Nt Tryz.prog 38=some [.int,.int,.str,.str,.int,.int,.int,.str,.str,.bool,.int]:=kr
@[go_sem] theorem f_z38:Bu Tryz.prog 38=some [.int .i64 0,.int .i64 0,.str [],.str [],.int .i64 0,.int .i64 0,.int .i64 0,.str [],.str [],.bool false,.int .i64 0]:=kr
@[go_sem] theorem f_b38:Bo Tryz.prog 38=some 120:=kr
@[go_sem] theorem f_u39:Tryz.prog.underlying 39=some (.slice 23):=kr
@[go_sem] theorem f_a39:B2 Tryz.prog 39=some false:=kr
@[go_sem] theorem f_c39:Tryz.prog.cellsOf 39=1:=kr
@[go_sem] theorem f_s39:IW Tryz.prog 39=some (23,1):=kr
@[go_sem] theorem f_z39:Bu Tryz.prog 39=some [.snil]:=kr
@[go_sem] theorem f_u53:Tryz.prog.underlying 53=some (.slice 25):=kr
@[go_sem] theorem f_a53:B2 Tryz.prog 53=some false:=kr
@[go_sem] theorem f_c53:Tryz.prog.cellsOf 53=1:=kr
@[go_sem] theorem sn:IW Tryz.prog 53=some (25,1):=kr
@[go_sem] theorem f_z53:Bu Tryz.prog 53=some [.snil]:=kr
@[go_sem] theorem f_u61:Tryz.prog.underlying 61=some (.slice 9):=kr
@[go_sem] theorem f_a61:B2 Tryz.prog 61=some false:=kr
@[go_sem] theorem f_c61:Tryz.prog.cellsOf 61=1:=kr
@[go_sem] theorem so:IW Tryz.prog 61=some (9,1):=kr
@[go_sem] theorem f_z61:Bu Tryz.prog 61=some [.snil]:=kr
@[go_sem] theorem f_a63:B2 Tryz.prog 63=some true:=kr
@[go_sem] theorem f_c63:Tryz.prog.cellsOf 63=3:=kr
@[go_sem] theorem xO:PR Tryz.prog 63 0=some (0,4):=kr
@[go_sem] theorem xP:PR Tryz.prog 63 1=some (1,9):=kr
@[go_sem] theorem xQ:PR Tryz.prog 63 2=some (2,3):=kr
@[go_sem] theorem v_:Ez Tryz.prog 63=true:=kr
@[go_sem] theorem f_t63:Nt Tryz.prog 63=some [.bool,.str,.int]:=kr
@[go_sem] theorem f_z63:Bu Tryz.prog 63=some [.bool false,.str [],.int .i64 0]:=kr
@[go_sem] theorem f_b63:Bo Tryz.prog 63=some 32:=kr
@[go_sem] theorem f_s88:IW Tryz.prog 88=some (4,1):=kr
@[go_sem] theorem f_u93:Tryz.prog.underlying 93=some (.slice 21):=kr
@[go_sem] theorem w_:Tryz.prog.underlying 101=some (.slice 3):=kr
@[go_sem] theorem x_:B2 Tryz.prog 101=some false:=kr
@[go_sem] theorem y_:Tryz.prog.cellsOf 101=1:=kr
@[go_sem] theorem z_:IW Tryz.prog 101=some (3,1):=kr
@[go_sem] theorem δ:Bu Tryz.prog 101=some [.snil]:=kr
@[go_sem] theorem ε:Bo Tryz.prog 101=some 24:=kr
@[go_sem] theorem ζ:Tryz.prog.underlying 103=some (.slice 101):=kr
@[go_sem] theorem η:IW Tryz.prog 103=some (101,1):=kr
@[go_sem] theorem θ:Tryz.prog.underlying 121=some (.slice 5):=kr
@[go_sem] theorem κ:B2 Tryz.prog 121=some false:=kr
@[go_sem] theorem ν:Tryz.prog.cellsOf 121=1:=kr
@[go_sem] theorem ξ:IW Tryz.prog 121=some (5,1):=kr
@[go_sem] theorem kx:Tryz.prog.underlying 123=some (.array 6 4):=kr
@[go_sem] theorem ο:Bu Tryz.prog 123=some [.bool false,.bool false,.bool false,.bool false,.bool false,.bool false]:=kr
@[go_sem] theorem π:MG Tryz.prog 137=some (9,25):=kr
@[go_sem] theorem ς:Tryz.prog.underlying 165=some (.int .u64):=kr
@[go_sem] theorem σ:Tryz.prog.underlying 187=some (.interface #[("Error",207)]):=kr
@[go_sem] theorem τ:Tryz.prog.underlying 191=some (.int .u64):=kr
@[go_sem] theorem υ:Tryz.prog.underlying 204=some (.pointer 206):=kr
@[go_sem] theorem φ:B2 Tryz.prog 204=some false:=kr
@[go_sem] theorem χ:Tryz.prog.cellsOf 204=1:=kr
@[go_sem] theorem ψ:Tryz.prog.cellsOf 206=2:=kr
@[go_sem] theorem sq:PR Tryz.prog 206 0=some (0,204):=kr
@[go_sem] theorem sr:PR Tryz.prog 206 1=some (1,121):=kr
@[go_sem] theorem ω:Bu Tryz.prog 206=some [.nptr,.snil]:=kr
@[go_sem] theorem Α:(Tryz.prog.info? 206).isSome=true:=kr
@[go_sem] theorem Β:MG Tryz.prog 209=some (21,5):=kr
@[go_sem] theorem Δ:Tryz.prog.underlying 224=some (.int .u32):=kr
@[go_sem] theorem xR:cq Tryz.prog 230=some (65,5,1):=kr
@[go_sem] theorem Ε:Tryz.prog.underlying 231=some (.pointer 5):=kr
@[go_sem] theorem Ζ:Tryz.prog.underlying 233=some (.map 5 21):=kr
@[go_sem] theorem Η:MG Tryz.prog 233=some (5,21):=kr
@[go_sem] theorem Θ:Tryz.prog.underlying 236=some (.int .i64):=kr
@[go_sem] theorem Ι:Tryz.prog.underlying 252=some (.unsafePointer):=kr
def hm:Tryz.prog.follows .mixedOrders=true:=kr
def Hg(QV:BX):BX->Prop|[]=>True|(e,_)::BR=>(e=900\/findKey e QV=true)/\Hg QV BR
def Lo{QV:BX}:∀{R:BX},Hg QV R->∀e r,(e,r)∈R->e=900\/findKey e QV=true
 |[],_,e,r,h=>by cases h
 |(e',q)::R,h,e,r,hm=>by
  rcases DN.1 hm with hm|hm
  ·cases hm;exact h.1
  ·exact Lo h.2 e r hm
def Κ(Q:Ex->St->Prop)(e:Ex)(s:St):Prop:=∃s2,s.Le s2/\Q e s2
def Kcc{X:Cx}(h:CL X ro c (Κ Q) s):CL X ro c Q s:=fun Γ a w hG hr =>
 wpIn_mono (h Γ a w hG hr) fun e a w FJ=>by
  cases e with
  |normal=>obtain⟨s',⟨s2,h1,h2⟩,h3⟩:=FJ;exact⟨s2,h2,h1 _ _ _ h3⟩
  |exit id=>obtain⟨s',⟨s2,h1,h2⟩,h3⟩:=FJ;exact⟨s2,h2,h1 _ _ _ h3⟩
  |ret=>obtain⟨s',⟨s2,h1,h2⟩,h3⟩:=FJ;exact⟨s2,h2,h1 _ _ _ h3⟩
  |goto l=>exact FJ.elim
  |panic c=>exact FJ.elim
  |outgrown=>exact FJ.elim
def CL.range{X:Cx}{g:Operand}{ps:Array Tmp}{assign body:Code}{t0:List L}{r0:BX}{f:Nat}{sU:List PV}(n:Nat)(rn:List (Nat×Nat))(OY:∀x∈rn,x.2<1000\/500000<=x.2)(ρ:Ren)(sl:List L)(QV:BX)(t1:List L)(r1:BX)(Inv:Nat->BX->Prop)(Stop:Ex->BX->Prop)(hg:(St.mk t0 r0).get g=.fn f [d])(hd:Am d r0=some (.var T cs))(hp:Bg L.pure? cs=some sU)(hi:Tb X f [.eptr sU] xs)(XV:Dx d (some .gone) ⟨t0,r0⟩=⟨t1,r1⟩)(hn:t1.length=n)(dY:r1.length<=1000)(F':∀x∈xs,x.length=ps.size)(FF:JU 0 r1=ρ)(HI:t1.map (L.map (Mq ρ))=sl)(nj:Cz ρ r1=QV)(h0:Inv 0 QV)(SE:∀k R,Inv k R->Hg QV R)(SF:∀x R,Stop x R->Hg QV R)(TI:∀R,¬Stop .normal R)(round:∀k x R l,xs[k]?=some x->Inv k R->RH X assign (fun s2=>CL X (some l) body (Vm n rn Inv Stop k) s2) ⟨fZ ps.toList x sl,R⟩)(done:∀R,Inv xs.length R->Κ Q .normal (St.after ρ (Ek none R) R ⟨t1,r1⟩))(stop:∀x R,Stop x R->Κ Q x (St.after ρ (Ek none R) R ⟨t1,r1⟩)):CL X ro (.rangeFunc g ps assign body) Q ⟨t0,r0⟩:=by
 subst FF HI nj;exact Kcc (CL.rangeFunc xs n rn OY Inv Stop hg hd hp hi XV hn dY F' h0 (fun k R h=>Lo (SE k R h)) (fun x R h=>Lo (SF x R h)) TI round done stop)
end Go.LX
namespace Go.Proofs
open Go.Shelf Go.LX Go.Proofs.Tryz
def NL:Go.Shelf.Ren:=⟨fun|137=>190|217=>217|266=>246|n=>n,fun|9=>9|5=>5|3=>3|n=>n,fun|n=>n⟩
def J3z:Go.Proofs.Lays.n137 Tryz.prog NL:={
 mixed:=kr
 f137:=func190.trans AO
 f217:=func217.trans AO
 f266:=func246.trans AO
 t3:=underlying3
 a3:=isAgg3
 z3:=sizeOf3
 v3:=zeroValue3
 t5:=underlying5
 a5:=isAgg5
 z5:=sizeOf5
 v5:=zeroValue5
 t9:=underlying9
 a9:=isAgg9
 z9:=sizeOf9
 v9:=zeroValue9 }
open Go.RowKit in
def Tryz.strings_IndexByte(s:ByteArray)(c:Int)(w:World) :
  Calls Tryz.prog 190 #[.string s,.int .u8 c] w fun e w'=>e=.returned (.int .i64 (Lib.indexByte s.data.toList c.toNat.toUInt8))/\w'=w:=Any.strings_IndexByte J3z s c w
def MK:Go.Shelf.Ren:=⟨fun|171=>91|243=>141|246=>177|283=>202|284=>203|285=>204|286=>205|129=>231|317=>237|318=>238|319=>239|320=>240|337=>261|338=>262|n=>n,fun|3=>3|9=>9|2=>2|4=>4|171=>199|0=>0|53=>191|37=>121|5=>5|173=>202|212=>229|51=>224|20=>20|213=>230|46=>165|232=>259|233=>260|n=>n,fun|17=>2|18=>6|19=>7|n=>n⟩
def J1v:Go.Proofs.LaysM.n171 Tryz.prog MK:={
 mixed:=kr
 f129:=func231.trans AO
 f171:=func91.trans AO
 f243:=func141.trans AO
 f246:=func177.trans AO
 f283:=func202.trans AO
 f284:=func203.trans AO
 f285:=func204.trans AO
 f286:=func205.trans AO
 f317:=func237.trans AO
 f318:=func238.trans AO
 f319:=func239.trans AO
 f320:=func240.trans AO
 f337:=func261.trans AO
 f338:=func262.trans AO
 t0:=underlying0
 a0:=isAgg0
 z0:=sizeOf0
 v0:=zeroValue0
 t2:=underlying2
 a2:=isAgg2
 z2:=sizeOf2
 v2:=zeroValue2
 t3:=underlying3
 a3:=isAgg3
 z3:=sizeOf3
 v3:=zeroValue3
 t4:=underlying4
 a4:=isAgg4
 z4:=sizeOf4
 v4:=zeroValue4
 t5:=underlying5
 a5:=isAgg5
 z5:=sizeOf5
 v5:=zeroValue5
 t9:=underlying9
 a9:=isAgg9
 z9:=sizeOf9
 v9:=zeroValue9
 t20:=underlying20
 a20:=isAgg20
 z20:=sizeOf20
 v20:=zeroValue20
 t37:=underlying121
 a37:=isAgg121
 z37:=sizeOf121
 v37:=zeroValue121
 t46:=underlying165
 a46:=isAgg165
 z46:=sizeOf165
 v46:=zeroValue165
 t51:=underlying224
 a51:=isAgg224
 z51:=sizeOf224
 v51:=zeroValue224
 t53:=underlying191
 a53:=isAgg191
 z53:=sizeOf191
 v53:=zeroValue191
 t171:=underlying199
 a171:=isAgg199
 z171:=sizeOf199
 v171:=zeroValue199
 t173:=underlying202
 a173:=isAgg202
 z173:=sizeOf202
 v173:=zeroValue202
 t212:=underlying229
 a212:=isAgg229
 z212:=sizeOf229
 v212:=zeroValue229
 t213:=underlying230
 a213:=isAgg230
 z213:=sizeOf230
 t232:=underlying259
 a232:=isAgg259
 z232:=sizeOf259
 v232:=zeroValue259
 t233:=underlying260
 a233:=isAgg260
 z233:=sizeOf260
 v233:=zeroValue260
 g17:=kr
 g18:=kr
 g19:=kr
 i0:=kr
 i2:=kr
 i3:=kr
 i4:=kr
 i5:=kr
 i9:=kr
 i20:=kr
 i37:=kr
 i46:=kr
 i51:=kr
 i53:=kr
 i171:=kr
 i173:=kr
 i212:=kr
 i232:=kr
 i233:=kr
 m17:=kr
 m18:=kr
 m19:=by kernel_rfl }
open Go.RowKit Go.Sort Go.Lib in
def Tryz.strconv_Itoa (n:Int) (h0:-9223372036854775808<=n) (h1:n<=9223372036854775807) (w:World) (Λ:Lib.TabIs Tryz.prog w "internal/strconv.uint64pow10" .u64 Lib.pow10Tab) :
  Calls Tryz.prog 91 #[.int .i64 n] w fun e w'=>e=.returned (.string ⟨(Lib.itoa n).toArray⟩)/\∃k os,w'=grow (w.drewN k) os:=Any.strconv_Itoa J1v n h0 h1 w Λ
def ML:Go.Shelf.Ren:=⟨fun|245=>219|279=>248|280=>249|281=>250|282=>251|316=>268|171=>91|205=>269|243=>141|246=>177|283=>202|284=>203|285=>204|286=>205|129=>231|317=>237|318=>238|319=>239|320=>240|337=>261|338=>262|n=>n,fun|9=>9|3=>3|75=>187|167=>236|4=>4|168=>239|210=>255|37=>121|0=>0|127=>231|145=>264|143=>262|2=>2|171=>199|53=>191|5=>5|173=>202|212=>229|51=>224|20=>20|213=>230|46=>165|232=>259|233=>260|80=>207|n=>n,fun|15=>4|16=>5|17=>2|18=>6|19=>7|n=>n⟩
def J1p:Go.Proofs.LaysC.n245 Tryz.prog ML:={
 mixed:=kr
 f129:=func231.trans AO
 f171:=func91.trans AO
 f205:=func269.trans AO
 f243:=func141.trans AO
 f245:=func219.trans AO
 f246:=func177.trans AO
 f279:=func248.trans AO
 f280:=func249.trans AO
 f281:=func250.trans AO
 f282:=func251.trans AO
 f283:=func202.trans AO
 f284:=func203.trans AO
 f285:=func204.trans AO
 f286:=func205.trans AO
 f316:=func268.trans AO
 f317:=func237.trans AO
 f318:=func238.trans AO
 f319:=func239.trans AO
 f320:=func240.trans AO
 f337:=func261.trans AO
 f338:=func262.trans AO
 t0:=underlying0
 a0:=isAgg0
 z0:=sizeOf0
 v0:=zeroValue0
 t2:=underlying2
 a2:=isAgg2
 z2:=sizeOf2
 v2:=zeroValue2
 t3:=underlying3
 a3:=isAgg3
 z3:=sizeOf3
 v3:=zeroValue3
 t4:=underlying4
 a4:=isAgg4
 z4:=sizeOf4
 v4:=zeroValue4
 t5:=underlying5
 a5:=isAgg5
 z5:=sizeOf5
 v5:=zeroValue5
 t9:=underlying9
 a9:=isAgg9
 z9:=sizeOf9
 v9:=zeroValue9
 t20:=underlying20
 a20:=isAgg20
 z20:=sizeOf20
 v20:=zeroValue20
 t37:=underlying121
 a37:=isAgg121
 z37:=sizeOf121
 v37:=zeroValue121
 t46:=underlying165
 a46:=isAgg165
 z46:=sizeOf165
 v46:=zeroValue165
 t51:=underlying224
 a51:=isAgg224
 z51:=sizeOf224
 v51:=zeroValue224
 t53:=underlying191
 a53:=isAgg191
 z53:=sizeOf191
 v53:=zeroValue191
 t75:=underlying187
 a75:=isAgg187
 z75:=sizeOf187
 v75:=zeroValue187
 t127:=underlying231
 a127:=isAgg231
 z127:=sizeOf231
 v127:=zeroValue231
 t143:=underlying262
 a143:=isAgg262
 z143:=sizeOf262
 v143:=zeroValue262
 t145:=underlying264
 a145:=isAgg264
 z145:=sizeOf264
 v145:=zeroValue264
 t167:=underlying236
 a167:=isAgg236
 z167:=sizeOf236
 v167:=zeroValue236
 t168:=underlying239
 a168:=isAgg239
 z168:=sizeOf239
 v168:=zeroValue239
 t171:=underlying199
 a171:=isAgg199
 z171:=sizeOf199
 v171:=zeroValue199
 t173:=underlying202
 a173:=isAgg202
 z173:=sizeOf202
 v173:=zeroValue202
 t210:=underlying255
 a210:=isAgg255
 z210:=sizeOf255
 v210:=zeroValue255
 t212:=underlying229
 a212:=isAgg229
 z212:=sizeOf229
 v212:=zeroValue229
 t213:=underlying230
 a213:=isAgg230
 z213:=sizeOf230
 t232:=underlying259
 a232:=isAgg259
 z232:=sizeOf259
 v232:=zeroValue259
 t233:=underlying260
 a233:=isAgg260
 z233:=sizeOf260
 v233:=zeroValue260
 g15:=kr
 g16:=kr
 g17:=kr
 g18:=kr
 g19:=kr
 t80:=underlying207
 a80:=isAgg207
 z80:=sizeOf207
 v80:=zeroValue207
 i0:=kr
 i2:=kr
 i3:=kr
 i4:=kr
 i5:=kr
 i9:=kr
 i20:=kr
 i37:=kr
 i46:=kr
 i51:=kr
 i53:=kr
 i75:=kr
 i80:=kr
 i127:=kr
 i143:=kr
 i145:=kr
 i167:=kr
 i168:=kr
 i171:=kr
 i173:=kr
 i210:=kr
 i212:=kr
 i232:=kr
 i233:=kr
 m15:=kr
 m16:=kr
 m17:=kr
 m18:=kr
 m19:=kr
 c0:=kr
 c2:=kr
 c3:=kr
 c4:=kr
 c5:=kr
 c9:=kr
 c20:=kr
 c37:=kr
 c46:=kr
 c51:=kr
 c53:=kr
 c75:=kr
 c80:=kr
 c127:=kr
 c143:=kr
 c145:=kr
 c167:=kr
 c168:=kr
 c171:=kr
 c173:=kr
 c210:=kr
 c212:=kr
 c213:=kr
 c232:=kr
 c233:=by kernel_rfl }
open Go.RowKit in
def Tryz.strconv_toError_syntax(fn s:ByteArray)(base bits:Int)(ev:Value)(w:World)(ky:s.size<=281474976710656)(hv:w.cell? ⟨4,0,none⟩=some ev)(pN:ev=.nilIface\/∃te pe,ev=.iface te pe) :
  Calls Tryz.prog 219 #[.string fn,.string s,.int .i64 base,.int .i64 bits,.iface 236 (.int .i64 2)] w fun e w'=>∃N,e=.returned (.iface 239 (.pointer (some ⟨N,0,none⟩)))/\w.heap.size<=N/\w'.heap[N]?=some (.cells #[.string fn,.string s,ev] 255 (0,0))/\Below w.heap.size w w':=Any.strconv_toError_syntax J1p fn s base bits ev w ky hv pN
open Go.RowKit in
def MM:Go.Shelf.Ren:=⟨fun|172=>191|244=>218|245=>219|247=>247|279=>248|280=>249|281=>250|282=>251|287=>267|316=>268|171=>91|205=>269|321=>273|322=>274|243=>141|246=>177|283=>202|284=>203|285=>204|286=>205|129=>231|317=>237|318=>238|319=>239|320=>240|337=>261|338=>262|n=>n,fun|9=>9|3=>3|75=>187|76=>188|4=>4|5=>5|167=>236|37=>121|0=>0|85=>237|2=>2|168=>239|53=>191|175=>250|46=>165|210=>255|127=>231|145=>264|143=>262|21=>21|171=>199|173=>202|212=>229|51=>224|20=>20|213=>230|232=>259|233=>260|80=>207|n=>n,fun|15=>4|16=>5|17=>2|18=>6|19=>7|n=>n⟩
def Μ:Go.Proofs.LaysC.n172 Tryz.prog MM:={
 mixed:=kr
 f129:=func231.trans AO
 f171:=func91.trans AO
 f172:=func191.trans AO
 f205:=func269.trans AO
 f243:=func141.trans AO
 f244:=func218.trans AO
 f245:=func219.trans AO
 f246:=func177.trans AO
 f247:=func247.trans AO
 f279:=func248.trans AO
 f280:=func249.trans AO
 f281:=func250.trans AO
 f282:=func251.trans AO
 f283:=func202.trans AO
 f284:=func203.trans AO
 f285:=func204.trans AO
 f286:=func205.trans AO
 f287:=func267.trans AO
 f316:=func268.trans AO
 f317:=func237.trans AO
 f318:=func238.trans AO
 f319:=func239.trans AO
 f320:=func240.trans AO
 f321:=func273.trans AO
 f322:=func274.trans AO
 f337:=func261.trans AO
 f338:=func262.trans AO
 t0:=underlying0
 a0:=isAgg0
 z0:=sizeOf0
 v0:=zeroValue0
 t2:=underlying2
 a2:=isAgg2
 z2:=sizeOf2
 v2:=zeroValue2
 t3:=underlying3
 a3:=isAgg3
 z3:=sizeOf3
 v3:=zeroValue3
 t4:=underlying4
 a4:=isAgg4
 z4:=sizeOf4
 v4:=zeroValue4
 t5:=underlying5
 a5:=isAgg5
 z5:=sizeOf5
 v5:=zeroValue5
 t9:=underlying9
 a9:=isAgg9
 z9:=sizeOf9
 v9:=zeroValue9
 t20:=underlying20
 a20:=isAgg20
 z20:=sizeOf20
 v20:=zeroValue20
 t21:=underlying21
 a21:=isAgg21
 z21:=sizeOf21
 v21:=zeroValue21
 t37:=underlying121
 a37:=isAgg121
 z37:=sizeOf121
 v37:=zeroValue121
 t46:=underlying165
 a46:=isAgg165
 z46:=sizeOf165
 v46:=zeroValue165
 t51:=underlying224
 a51:=isAgg224
 z51:=sizeOf224
 v51:=zeroValue224
 t53:=underlying191
 a53:=isAgg191
 z53:=sizeOf191
 v53:=zeroValue191
 t75:=underlying187
 a75:=isAgg187
 z75:=sizeOf187
 v75:=zeroValue187
 t76:=underlying188
 a76:=isAgg188
 z76:=sizeOf188
 v76:=zeroValue188
 t85:=underlying237
 a85:=isAgg237
 z85:=sizeOf237
 v85:=zeroValue237
 t127:=underlying231
 a127:=isAgg231
 z127:=sizeOf231
 v127:=zeroValue231
 t143:=underlying262
 a143:=isAgg262
 z143:=sizeOf262
 v143:=zeroValue262
 t145:=underlying264
 a145:=isAgg264
 z145:=sizeOf264
 v145:=zeroValue264
 t167:=underlying236
 a167:=isAgg236
 z167:=sizeOf236
 v167:=zeroValue236
 t168:=underlying239
 a168:=isAgg239
 z168:=sizeOf239
 v168:=zeroValue239
 t171:=underlying199
 a171:=isAgg199
 z171:=sizeOf199
 v171:=zeroValue199
 t173:=underlying202
 a173:=isAgg202
 z173:=sizeOf202
 v173:=zeroValue202
 t175:=underlying250
 a175:=isAgg250
 z175:=sizeOf250
 v175:=zeroValue250
 t210:=underlying255
 a210:=isAgg255
 z210:=sizeOf255
 v210:=zeroValue255
 t212:=underlying229
 a212:=isAgg229
 z212:=sizeOf229
 v212:=zeroValue229
 t213:=underlying230
 a213:=isAgg230
 z213:=sizeOf230
 t232:=underlying259
 a232:=isAgg259
 z232:=sizeOf259
 v232:=zeroValue259
 t233:=underlying260
 a233:=isAgg260
 z233:=sizeOf260
 v233:=zeroValue260
 g15:=kr
 g16:=kr
 g17:=kr
 g18:=kr
 g19:=kr
 t80:=underlying207
 a80:=isAgg207
 z80:=sizeOf207
 v80:=zeroValue207
 i0:=kr
 i2:=kr
 i3:=kr
 i4:=kr
 i5:=kr
 i9:=kr
 i20:=kr
 i21:=kr
 i37:=kr
 i46:=kr
 i51:=kr
 i53:=kr
 i75:=kr
 i76:=kr
 i80:=kr
 i85:=kr
 i127:=kr
 i143:=kr
 i145:=kr
 i167:=kr
 i168:=kr
 i171:=kr
 i173:=kr
 i175:=kr
 i210:=kr
 i212:=kr
 i232:=kr
 i233:=kr
 m15:=kr
 m16:=kr
 m17:=kr
 m18:=kr
 m19:=kr
 c0:=kr
 c2:=kr
 c3:=kr
 c4:=kr
 c5:=kr
 c9:=kr
 c20:=kr
 c21:=kr
 c37:=kr
 c46:=kr
 c51:=kr
 c53:=kr
 c75:=kr
 c76:=kr
 c80:=kr
 c85:=kr
 c127:=kr
 c143:=kr
 c145:=kr
 c167:=kr
 c168:=kr
 c171:=kr
 c173:=kr
 c175:=kr
 c210:=kr
 c212:=kr
 c213:=kr
 c232:=kr
 c233:=by kernel_rfl }
open Go.RowKit in
def Tryz.strconv_Atoi_ok(s:ByteArray)(Ν:s.size<=9223372036854775806)(v:Int)(h:Lib.atoiAll s.data.toList=.ok v)(w:World) :
  Calls Tryz.prog 191 #[.string s] w fun e w'=>e=.returned (.tuple #[.int .i64 v,.nilIface])/\(w'=w\/∃t,w'=Lib.bytesWorld w 5 t):=Any.strconv_Atoi_ok Μ s Ν v h w
open Go.RowKit in
open Go.RowKit in
def Tryz.strconv_Atoi_range(s:ByteArray)(ky:s.size<=281474976710656)(h:Lib.atoiAll s.data.toList=.range)(ev:Value)(w:World)(hv:w.cell? ⟨5,0,none⟩=some ev)(pN:ev=.nilIface\/∃te pe,ev=.iface te pe) :
  Calls Tryz.prog 191 #[.string s] w fun e w'=>∃N,e=.returned (.tuple #[.int .i64 (Lib.atoiSat s.data.toList),.iface 239 (.pointer (some ⟨N,0,none⟩))])/\w.heap.size<=N/\w'.heap[N]?=some (.cells #[.string ⟨#[65,116,111,105]⟩,.string s,ev] 255 (0,0))/\Below w.heap.size w w':=Any.strconv_Atoi_range Μ s ky h ev w hv pN
def G':Go.Shelf.Ren:=⟨fun|197=>199|260=>234|n=>n,fun|9=>9|21=>21|3=>3|4=>4|5=>5|105=>196|119=>161|0=>0|46=>165|139=>164|138=>163|n=>n,fun|3=>0|4=>1|n=>n⟩
def J3x:Go.Proofs.Lays.n197 Tryz.prog G':={
 mixed:=kr
 f197:=func199.trans AO
 f260:=func234.trans AO
 t0:=underlying0
 a0:=isAgg0
 z0:=sizeOf0
 v0:=zeroValue0
 t3:=underlying3
 a3:=isAgg3
 z3:=sizeOf3
 v3:=zeroValue3
 t4:=underlying4
 a4:=isAgg4
 z4:=sizeOf4
 v4:=zeroValue4
 t5:=underlying5
 a5:=isAgg5
 z5:=sizeOf5
 v5:=zeroValue5
 t9:=underlying9
 a9:=isAgg9
 z9:=sizeOf9
 v9:=zeroValue9
 t21:=underlying21
 a21:=isAgg21
 z21:=sizeOf21
 v21:=zeroValue21
 t46:=underlying165
 a46:=isAgg165
 z46:=sizeOf165
 v46:=zeroValue165
 t105:=underlying196
 a105:=isAgg196
 z105:=sizeOf196
 v105:=zeroValue196
 t119:=underlying161
 a119:=isAgg161
 z119:=sizeOf161
 t138:=underlying163
 a138:=isAgg163
 z138:=sizeOf163
 v138:=zeroValue163
 t139:=underlying164
 a139:=isAgg164
 z139:=sizeOf164
 v139:=zeroValue164
 g3:=kr
 g4:=by kernel_rfl }
open Go.RowKit Go.Lib in
def Tryz.utf8_DecodeRuneInString(s:ByteArray)(w:World)(hT:Lib.Utf8Tabs 0 1 w) :
  Calls Tryz.prog 199 #[.string s] w fun e w'=>e=.returned (.tuple #[.int .i32 (Lib.decodeGo s).1,.int .i64 (Lib.decodeGo s).2])/\Below w.heap.size w w':=Any.utf8_DecodeRuneInString J3x s w hT
def MN:Go.Shelf.Ren:=⟨fun|27=>240|28=>261|29=>262|n=>n,fun|25=>165|3=>3|27=>224|22=>191|4=>4|53=>259|0=>0|5=>5|54=>260|n=>n,fun|0=>6|1=>7|n=>n⟩
def J3p:Go.Proofs.Lays7.n27 Tryz.prog MN:={
 mixed:=kr
 f27:=func240.trans AO
 f28:=func261.trans AO
 f29:=func262.trans AO
 t0:=underlying0
 a0:=isAgg0
 z0:=sizeOf0
 v0:=zeroValue0
 i0:=kr
 t3:=underlying3
 a3:=isAgg3
 z3:=sizeOf3
 v3:=zeroValue3
 i3:=kr
 t4:=underlying4
 a4:=isAgg4
 z4:=sizeOf4
 v4:=zeroValue4
 i4:=kr
 t5:=underlying5
 a5:=isAgg5
 z5:=sizeOf5
 v5:=zeroValue5
 i5:=kr
 t22:=underlying191
 a22:=isAgg191
 z22:=sizeOf191
 v22:=zeroValue191
 i22:=kr
 t25:=underlying165
 a25:=isAgg165
 z25:=sizeOf165
 v25:=zeroValue165
 i25:=kr
 t27:=underlying224
 a27:=isAgg224
 z27:=sizeOf224
 v27:=zeroValue224
 i27:=kr
 t53:=underlying259
 a53:=isAgg259
 z53:=sizeOf259
 v53:=zeroValue259
 i53:=kr
 t54:=underlying260
 a54:=isAgg260
 z54:=sizeOf260
 g0:=kr
 g1:=by kernel_rfl }
def NM:Go.Shelf.Ren:=⟨fun|196=>134|259=>164|n=>n,fun|9=>9|4=>4|3=>3|5=>5|12=>12|119=>161|0=>0|46=>165|139=>164|138=>163|53=>191|n=>n,fun|3=>0|4=>1|n=>n⟩
def J32:Go.Proofs.Lays.n196 Tryz.prog NM:={
 mixed:=kr
 f196:=func134.trans AO
 f259:=func164.trans AO
 t0:=underlying0
 a0:=isAgg0
 z0:=sizeOf0
 v0:=zeroValue0
 t3:=underlying3
 a3:=isAgg3
 z3:=sizeOf3
 v3:=zeroValue3
 t4:=underlying4
 a4:=isAgg4
 z4:=sizeOf4
 v4:=zeroValue4
 t5:=underlying5
 a5:=isAgg5
 z5:=sizeOf5
 v5:=zeroValue5
 t9:=underlying9
 a9:=isAgg9
 z9:=sizeOf9
 v9:=zeroValue9
 t12:=underlying12
 a12:=isAgg12
 z12:=sizeOf12
 v12:=zeroValue12
 t46:=underlying165
 a46:=isAgg165
 z46:=sizeOf165
 v46:=zeroValue165
 t53:=underlying191
 a53:=isAgg191
 z53:=sizeOf191
 v53:=zeroValue191
 t119:=underlying161
 a119:=isAgg161
 z119:=sizeOf161
 t138:=underlying163
 a138:=isAgg163
 z138:=sizeOf163
 v138:=zeroValue163
 t139:=underlying164
 a139:=isAgg164
 z139:=sizeOf164
 v139:=zeroValue164
 g3:=kr
 g4:=by kernel_rfl }
end Go.Proofs
set_option maxRecDepth 100000
namespace Go.LX
open Go Go.RowKit Go.Proofs Go.Proofs.Tryz
variable {g:Bool}{w:World}{Im:Nat->Prop}{f:FuncId}{fn:Func}{c:Code}{args:List L}{rs:BX}{Post:L->BX->Prop}(own:Bool){q:Prop}{ro:Option Nat}{Q:Ex->St->Prop}{s:St}{k e:Int}{nm:List UInt8}{i:Nat}
def Ξ(g:Nat)(w:World):Prop:=∃te pe,w.cell? ⟨g,0,none⟩=some (.iface te pe)
def Ο:Tryz.prog.globalNamed "internal/strconv.uint64pow10" = some 2:=kr
structure Is (w:World) (Im:Nat->Prop):Prop where
 tabs:Lib.Utf8Tabs 0 1 w
 syn:Ξ 4 w
 rng:Ξ 5 w
 tz:TabAt 7 Lib.deBruijn64tab w
 pow:Lib.TabIs Tryz.prog w "internal/strconv.uint64pow10" .u64 Lib.pow10Tab
 i1:Im 0
 i2:Im 1
 i3:Im 4
 i4:Im 5
 i5:Im 7
 i6:Im 2
def Is.mono{w':World}{CX:Nat->Prop}(hk:ED w Im w' CX)(h:Is w Im):Is w' CX where
 tabs:=by
  refine⟨fun c hc=>(hk.cell (a:=⟨_,c,none⟩) h.i1).trans (h.tabs.1 c hc),fun i hi=>⟨(hk.cell (a:=⟨_,_,none⟩) h.i2).trans (h.tabs.2 i hi).1,(hk.cell (a:=⟨_,_,none⟩) h.i2).trans (h.tabs.2 i hi).2⟩⟩
 syn:=by obtain⟨te,pe,e⟩:=h.syn;exact⟨te,pe,(hk.cell (a:=⟨_,0,none⟩) h.i3).trans e⟩
 rng:=by obtain⟨te,pe,e⟩:=h.rng;exact⟨te,pe,(hk.cell (a:=⟨_,0,none⟩) h.i4).trans e⟩
 tz:=fun j hj=>(hk.cell (a:=⟨_,j,none⟩) h.i5).trans (h.tz j hj)
 pow:=by
  have:=h.pow;unfold Lib.TabIs World.var? at this⊢;rw[Ο]at this⊢;simp only[Option.bind_some]at this⊢;rw[hk.block _ h.i6];exact this
 i1:=hk.im _ h.i1
 i2:=hk.im _ h.i2
 i3:=hk.im _ h.i3
 i4:=hk.im _ h.i4
 i5:=hk.im _ h.i5
 i6:=hk.im _ h.i6
def Ken(f:Nat):Nat:=if f=245 then 1 else if f=266 then 1 else if f=265 then 2 else if f=142 then 1 else if f=180 then 3 else if f=182 then 3 else if f=143 then 1 else if f=144 then 1 else if f=166 then 1 else if f=97 then 1 else if f=98 then 1 else if f=70 then 1 else 0
noncomputable def cx:Cx:=⟨Tryz.prog,Is,Is.mono,Ken,fun _=>false⟩
@[go_sem] theorem cx_P:cx.P=Tryz.prog:=(rfl)
@[go_sem] theorem xS {f:Nat}:cx.kind f=if f=245 then 1 else if f=266 then 1 else if f=265 then 2 else if f=142 then 1 else if f=180 then 3 else if f=182 then 3 else if f=143 then 1 else if f=144 then 1 else if f=166 then 1 else if f=97 then 1 else if f=98 then 1 else if f=70 then 1 else 0:=(rfl)
@[go_sem] theorem xT {t:Nat}:cx.keep t=false:=(rfl)
def fa(h:cx.G w Im):Is w Im:=h
def TK (rn:List (Nat×Nat)) (hf:cx.P.funcs[f]?=some fn)
  (h:KQ cx none c (cF cx.P own rn fn.results.toList (rs.map (·.1)) Post) ⟨Ba fn.ntmps (MJ 0 args),rs⟩) (OY:∀x∈rn,x.2<1000\/500000<=x.2:=by simp) (G8:(fn.name == "runtime.NumGoroutine")=false:=by kernel_rfl) (hb:fn.body=some c:=by rfl)
  (hn:args.length<=fn.ntmps:=by exact Nat.le_of_ble_eq_true rfl) (Kx:900∉rs.map (·.1):=by simp):Al cx f args rs Post:=ku own rn hf (Ae hm c _ _ h) OY G8 hb hn Kx
def HJ (rn:List (Nat×Nat)) (hf:cx.P.funcs[f]?=some fn) (hq:q) (OY:∀x∈rn,x.2<1000\/500000<=x.2:=by simp) (G8:(fn.name == "runtime.NumGoroutine")=false:=by kernel_rfl) (hb:fn.body=some c:=by rfl)
  (hn:args.length<=fn.ntmps:=by exact Nat.le_of_ble_eq_true rfl) (Kx:900∉rs.map (·.1):=by simp) (e:(KQ cx none c (cF cx.P own rn fn.results.toList (rs.map (·.1)) Post) ⟨Ba fn.ntmps (MJ 0 args),rs⟩)↔q:=by simp only[go_sem,simprocAttr];exact .rfl):Al cx f args rs Post:=TK own rn hf (e.mpr hq) OY G8 hb hn Kx
def CK (hf:cx.P.funcs[f]?=some fn)
  (h:KQ cx none c (cF cx.P false [] fn.results.toList (rs.map (·.1)) Post) ⟨Ba fn.ntmps (MJ 0 args),rs⟩) (G8:(fn.name == "runtime.NumGoroutine")=false:=by kernel_rfl) (hb:fn.body=some c:=by rfl)
  (hn:args.length<=fn.ntmps:=by exact Nat.le_of_ble_eq_true rfl) (Kx:900∉rs.map (·.1):=by simp):Al cx f args rs Post:=TK false [] hf h sm G8 hb hn Kx
def CB (hf:cx.P.funcs[f]?=some fn) (hq:q) (G8:(fn.name == "runtime.NumGoroutine")=false:=by kernel_rfl) (hb:fn.body=some c:=by rfl)
  (hn:args.length<=fn.ntmps:=by exact Nat.le_of_ble_eq_true rfl) (Kx:900∉rs.map (·.1):=by simp) (e:(KQ cx none c (cF cx.P false [] fn.results.toList (rs.map (·.1)) Post) ⟨Ba fn.ntmps (MJ 0 args),rs⟩)↔q:=by simp only[go_sem,simprocAttr];exact .rfl):Al cx f args rs Post:=CK hf (e.mpr hq) G8 hb hn Kx
def CC(h:KQ cx ro c Q s):CL cx ro c Q s:=Ae hm c Q s h
def HO(hq:q)(e:KQ cx ro c Q s↔q:=by simp only[go_sem,simprocAttr];exact .rfl):CL cx ro c Q s:=CC (e.mpr hq)
def EG{id:Nat}{ops:Array Oper}(h:Jf cx (ops.toList.map (·.dst)) ops.toList (Q .normal) s)(h0:wG ops.toList=true:=by rfl)(hB:Region.lexB .any ops=true:=by kernel_rfl):CL cx ro (.region id ops true) Q s:=q_ hm h h0 hB
attribute [go_sem] ntmps3 results3 ntmps10 results10 ntmps11 results11 ntmps12 results12 ntmps13 results13 ntmps14 results14 ntmps16 results16 ntmps17 results17 ntmps18 results18 ntmps19 results19 ntmps20 results20 ntmps21 results21 ntmps22 results22 ntmps23 results23 ntmps24 results24 ntmps27 results27 ntmps28 results28 ntmps29 results29 ntmps30 results30 ntmps31 results31 ntmps32 results32 ntmps33 results33 ntmps34 results34 ntmps35 results35 ntmps36 results36 ntmps37 results37 ntmps38 results38 ntmps39 results39 ntmps40 results40 ntmps41 results41 ntmps42 results42 ntmps43 results43 ntmps44 results44 ntmps45 results45 ntmps46 results46 ntmps47 results47 ntmps48 results48 ntmps49 results49 ntmps50 results50 ntmps51 results51 ntmps52 results52 ntmps53 results53 ntmps54 results54 ntmps55 results55 ntmps56 results56 ntmps57 results57 ntmps58 results58 ntmps59 results59 ntmps60 results60 ntmps61 results61 ntmps62 results62 ntmps63 results63 ntmps64 results64 ntmps65 results65 ntmps66 results66 ntmps67 results67 ntmps68 results68 ntmps69 results69 ntmps71 results71 ntmps72 results72 ntmps73 results73 ntmps74 results74 ntmps75 results75 ntmps76 results76 ntmps77 results77 ntmps78 results78 ntmps79 results79 ntmps80 results80 ntmps81 results81 ntmps82 results82 ntmps83 results83 ntmps84 results84 ntmps85 results85 ntmps86 results86 ntmps87 results87 ntmps88 results88 ntmps89 results89 ntmps90 results90 ntmps92 results92 ntmps93 results93 ntmps94 results94 ntmps95 results95 ntmps99 results99 ntmps100 results100 ntmps101 results101 ntmps102 results102 ntmps103 results103 ntmps104 results104 ntmps105 results105 ntmps106 results106 ntmps107 results107 ntmps108 results108 ntmps109 results109 ntmps110 results110 ntmps111 results111 ntmps112 results112 ntmps113 results113 ntmps114 results114 ntmps115 results115 ntmps116 results116 ntmps117 results117 ntmps118 results118 ntmps119 results119 ntmps120 results120 ntmps121 results121 ntmps122 results122 ntmps123 results123 ntmps124 results124 ntmps125 results125 ntmps126 results126 ntmps127 results127 ntmps128 results128 ntmps129 results129 ntmps130 results130 ntmps131 results131 ntmps132 ntmps133 results133 ntmps135 results135 ntmps136 results136 ntmps137 results137 ntmps140 results140 ntmps142 results142 ntmps143 results143 ntmps144 results144 ntmps145 results145 ntmps146 results146 ntmps147 results147 ntmps148 results148 ntmps149 results149 ntmps150 results150 ntmps151 results151 ntmps152 results152 ntmps153 results153 ntmps154 results154 ntmps155 results155 ntmps156 results156 ntmps157 ntmps158 results158 ntmps159 results159 ntmps160 results160 ntmps161 results161 ntmps162 results162 ntmps163 results163 ntmps165 results165 ntmps167 ntmps169 results169 ntmps177 results177 ntmps178 results178 ntmps179 results179 ntmps184 results184 ntmps185 results185 ntmps186 results186 ntmps187 results187 ntmps188 results188 ntmps189 results189 ntmps192 results192 ntmps193 results193 ntmps205 results205 ntmps208 results208 ntmps209 results209 ntmps210 results210 ntmps211 results211 ntmps212 results212 ntmps213 results213 ntmps214 results214 ntmps215 results215 ntmps216 results216 ntmps220 results220 ntmps221 results221 ntmps235 results235 ntmps239 results239 ntmps242 results242 ntmps243 results243 ntmps244 results244 ntmps245 results245 ntmps252 results252 ntmps258 results258 ntmps263 results263 ntmps264 results264 ntmps266 results266 ntmps267 results267 ntmps270 results270 ntmps272 results272 ntmps273 results273 ntmps275 results275 ntmps276 results276 ntmps277 results277
structure Node where
 kind:Int
 many:Int
 name:List UInt8
 s:List UInt8
 neg:Bool
 e:Int
variable (n:Node){v a b:List Node}
def Node.cells:List PV:=[.int .i64 n.kind,.int .i64 n.many,.str n.name,.str n.s,.bool n.neg,.int .i64 n.e]
def BP(v:List Node):List (List PV):=v.map Node.cells
mutual
inductive BM where
 |mk (kind:Int) (s:List UInt8) (neg:Bool) (e:Int) (BL:BO)
inductive BO where
 |nil
 |cons (name:List UInt8) (t:BM) (BR:BO)
end
def BO.len:BO->Nat|.nil=>0|.cons _ _ r=>r.len+1
mutual
def BM.enc(name:List UInt8):BM->List Node|.mk k s g e BL=>⟨k,BL.len,name,s,g,e⟩::BL.enc
def BO.enc:BO->List Node|.nil=>[]|.cons nm t r=>t.enc nm++r.enc
end
def BO.app:BO->BO->BO|.nil,g=>g|.cons nm t r,g=>.cons nm t (r.app g)
def kz:∀f g:BO,(f.app g).len=f.len+g.len
 |.nil,g=>by simp[BO.app,BO.len]
 |.cons nm t r,g=>by simp only[BO.app,BO.len,kz r g];omega
def QW:∀f g:BO,(f.app g).enc=f.enc++g.enc
 |.nil,g=>by simp[BO.app,BO.enc]
 |.cons nm t r,g=>by simp only[BO.app,BO.enc,QW r g,KJ]
def A6{name:List UInt8}{s:List UInt8}{BL:BO}:(BM.mk k s g e BL).enc name=⟨k,BL.len,name,s,g,e⟩::BL.enc:=by rw[BM.enc]
def A0{t:BM}{r:BO}:(BO.cons nm t r).enc=t.enc nm++r.enc:=by rw[BO.enc]
def Bl:BO.nil.enc=[]:=by rw[BO.enc]
def Et(t:BM)(nm:List UInt8):1<=(t.enc nm).length:=by
 cases t;rw[A6];simp
def KE:∀f:BO,f.len<=f.enc.length
 |.nil=>by simp[BO.len]
 |.cons nm t r=>by
  have:=Et t nm;have:=KE r;rw[A0,DC,BO.len];omega
@[simp] theorem A7 (v:List Node):(BP v).length=v.length:=by simp[BP]
def Nh(v:List Node):BP (n::v)=n.cells::BP v:=rfl
def Jjy:BP []=[]:=rfl
def Ji(a b:List Node):BP (a++b)=BP a++BP b:=by simp[BP]
def C9{m:Int}{s:List UInt8}:Node.cells ⟨k,m,nm,s,g,e⟩=[.int .i64 k,.int .i64 m,.str nm,.str s,.bool g,.int .i64 e]:=rfl
def E7(v:List Node):∀q∈BP v,q.length=6:=by
 intro q hq;obtain⟨n,_,rfl⟩:=FB.1 hq;rfl
def Tf(h:v.drop i=a++b):((BP v).drop i).take a.length=BP a:=by
 have:(BP v).drop i=BP a++BP b:=by rw[<-Ji,<-h];simp[BP,nH]
 rw[this];simp
def D5{n:Node}(h:v.drop i=n::b):(BP v)[i]?=some n.cells:=by
 have:v[i]?=some n:=by
  have:=congrArg (·[0]?) h;simpa using this
 simp[BP,this]
def L9(h:v.drop i=a)(ha:a≠[]):i+a.length=v.length:=by
 have:=congrArg List.length h;simp at this;have:1<=a.length:=by cases a<;>simp_all
 omega
def BO.list:BO->List (List UInt8×BM)|.nil=>[]|.cons nm t r=>(nm,t)::r.list
def LU:∀f:BO,f.list.length=f.len
 |.nil=>rfl
 |.cons _ _ r=>by simp[BO.list,BO.len,LU r]
def BM.kids:BM->BO|.mk _ _ _ _ k=>k
def BM.kind:BM->Int|.mk k _ _ _ _=>k
end Go.LX
set_option maxRecDepth 100000
set_option maxHeartbeats 2000000
namespace Go.LX
open Go Go.RowKit Go.Proofs Go.Proofs.Tryz
attribute [local irreducible] Al CL Bi
variable (v:List Node)(nm:List UInt8)(f:BO)(l:List (List UInt8×BM)){k:Nat}{x:List PV}
def DM{i:Nat}(h:i<=3000000000000000):IntKind.i64.wrap ((i:Int)+1)=((i+1:Nat):Int):=by rw[Aa omg omg];omega
def Hp:CA cx 125 [.p (.sl (BP v))] [] (.fn 157 [900]) [(900,.var 25 [.p (.sl (BP v))])]:=by
 (refine TK true [(1,900)] func125 ?_;simp only[go_sem,simprocAttr])
def F2{nm:List UInt8}{t:BM}{r:BO}:(BO.cons nm t r).len=r.len+1:=rfl
def Zu(i:Nat)(nm:List UInt8)(t:BM)(BR:List Node)(hv:v.length<=1500000000000)(h:v.drop i=t.enc nm++BR):CA cx 158 [.p (.sl (BP v)),.p (.int .i64 i)] [] (.p (.int .i64 (i+(t.enc nm).length:Nat))) []:=by
 (refine CB func158 ?_);have hp:=Et t nm;have hb:=L9 h (fun e=>by have e2:(t.enc nm++BR).length=0:=(by rw[e];rfl);rw[DC]at e2;omega);rw[DC]at hb;refine CL.loop (fun x:Nat×Nat×BO=>⟨Ba 19 [(0,.p (.sl (BP v))),(1,.p (.int .i64 x.1)),(5,.p (.int .i64 x.2.1))],[]⟩) (fun x=>x.2.1=x.2.2.len/\v.drop x.1=x.2.2.enc++BR/\x.1+x.2.2.enc.length=i+(t.enc nm).length) (fun x=>x.2.2.enc.length) (i,1,.cons nm t .nil) CH ⟨rfl,by simp[A0,Bl,h],by simp[A0,Bl]⟩ ?_;rintro⟨j,left,F⟩ ⟨h0,h1,h2⟩;simp only at h0 h1 h2
 match F,h0,h1,h2 with
 |.nil,h0,h1,h2 =>
  rw[Bl]at h2;simp only[BO.len]at h0;subst h0;refine HO ?_;simp only[KM]at h2;omega
 |.cons DJ (.mk k s g e BL) r,h0,h1,h2 =>
  rw[F2]at h0;rw[A0,A6]at h1 h2;have hg:=D5 h1;rw[C9]at hg;simp only[DH,DC]at h2;have GH:=KE BL;have IX:=KE r;have w0:IntKind.i64.wrap ((BL.len:Int)-1)=(BL.len:Int)-1:=Aa omg omg;have w1:IntKind.i64.wrap ((left:Int)+((BL.len:Int)-1))=((r.len+BL.len:Nat):Int):=by rw[Aa omg omg];omega
  (refine CC ?_;simp only[go_sem,simprocAttr,DM (i:=j) omg,hg,w0,w1]);(repeat'(first|(apply BY<;>intro h)|(exfalso;omega)))
  ·exact⟨(j+1,r.len+BL.len,BL.app r),⟨by simp only[kz];omega,by
    simp only[QW];rw[<-JO,h1];simp,by simp only[QW,DC];omega⟩,by simp only[QW,A0,A6,DC,DH];omega,CH⟩
def Jdc(c:List PV)(cs:List (List PV))(h6:∀q∈c::cs,q.length=6)(hl:cs.length<=1500000000000):CA cx 159 [.p (.sl (c::cs))] [] (.own 900 0 (cs.length+1)) [(900,.row 36 6 (c::cs))]:=by
 (refine HJ true [(7,900)] func159 ?_);(repeat'(first|refine EA ?_|fail));omega
def Dp:List (List PV):=f.list.map fun p=>[.str p.1,.sl (BP (p.2.enc []))]
def E4:(Dp f).length=f.len:=by simp[Dp,LU]
def Rt(kd:Int)(s:List UInt8)(g:Bool)(e:Int)(BL:BO)(hv:BL.enc.length<=1499999999999):Tb cx 157 [.eptr [.sl (BP ((BM.mk kd s g e BL).enc nm))]] (Dp BL):=by
 have hl:=KE BL;generalize IF:(BM.mk kd s g e BL).enc nm=v;have h0:v.drop 0=⟨kd,BL.len,nm,s,g,e⟩::BL.enc:=by rw[<-IF,A6];rfl
 have DD:=D5 h0;rw[C9]at DD;have KZ:v.length=BL.enc.length+1:=by rw[<-IF,A6];rfl
 (refine h_ (X:=cx) func157 kr rfl kr (by simp only[DH,KM,ntmps157];decide) fun l=>?_;refine N9 _ _ _ _ ?_;simp only[ntmps157,go_sem,simprocAttr,DD]);refine ZG.loop (fun x:Nat×Nat×BO=>(some x.1,⟨Ba 34 [(0,.yld l),(1,.eptr [.sl (BP v)]),(3,.p (.int .i64 x.2.1)),(9,.p (.int .i64 BL.len)),(10,.p (.int .i64 x.1))],[]⟩)) (fun x=>x.1+x.2.2.len=BL.len/\v.drop x.2.1=x.2.2.enc/\x.2.1+x.2.2.enc.length=v.length/\(Dp BL).drop x.1=Dp x.2.2) (fun x=>x.2.2.enc.length) (0,1,BL) rfl CH ⟨by simp,by rw[<-IF,A6];rfl,by simp only;omega,rfl⟩ ?_;rintro⟨k,j,F⟩ ⟨h1,h2,h3,h4⟩;simp only at h1 h2 h3 h4⊢
 match F,h1,h2,h3,h4 with
 |.nil,h1,h2,h3,h4 =>
  simp only[BO.len]at h1;(refine N9 _ _ _ _ (TG ?_));(repeat'(first|(apply BY<;>intro h)|(exfalso;omega)));rw[E4];exact .inl (by congr 1)
 |.cons DJ (.mk k' s' g' e' BT) r,h1,h2,h3,h4 =>
  rw[F2]at h1;rw[A0]at h2 h3;rw[DC]at h3;have hs:=Tf h2;rw[A6]at h3;simp only[DH]at h3;have QP:((BP v).drop j).take (j+((BM.mk k' s' g' e' BT).enc DJ).length-j)=[.int .i64 k',.int .i64 BT.len,.str DJ,.str s',.bool g',.int .i64 e']::BP BT.enc:=by
   rw[nI,hs,A6,Nh,C9]
  have UC:=h2;rw[A6]at UC;have hg:=D5 UC;rw[C9]at hg;have EF:((BM.mk k' s' g' e' BT).enc DJ).length=BT.enc.length+1:=by rw[A6];rfl
  have h6:∀q∈[.int .i64 k',.int .i64 BT.len,.str DJ,.str s',.bool g',.int .i64 e']::BP BT.enc,q.length=6:=fun q hq=>E7 ((BM.mk k' s' g' e' BT).enc DJ) q (by rw[A6];exact hq)
  have DR:(BP BT.enc).take BT.enc.length=BP BT.enc:=DK sm;(refine N9 _ _ _ _ ?_;simp only[go_sem,simprocAttr,DM (i:=k) omg]);(repeat'(first|(refine And.intro (E7 _) ?_)|(apply BY<;>intro h)|refine EA ?_|((first|(refine BU (Zu v j DJ (.mk k' s' g' e' BT) r.enc omg h2) ?_)|(refine BU (Jdc _ _ h6 (by rw[A7];omega)) ?_));simp only[go_sem,simprocAttr,DR,CS,hg,QP,A7,DM (i:=k) omg])|(exfalso;omega)));refine⟨?_,⟨(k+1,j+((BM.mk k' s' g' e' BT).enc DJ).length,r),⟨by simp only;omega,by simp only;rw[<-JO,h2,YL],by simp only;omega,by simp only;rw[<-JO,h4];rfl⟩,by simp only[A0,DC];omega,rfl,CH⟩,.inr trivial⟩;have:=congrArg (·[0]?) h4;simp only[cm,Nat.add_zero]at this;rw[this];simp[Dp,BO.list,A6,Nh,C9]
def A4:List (List PV):=l.map fun p=>[.sl (BP (p.2.enc []))]
@[simp] theorem Jen:A4 []=[]:=rfl
def Gs{l:List (List UInt8×BM)}{p:List UInt8×BM}(h:l[k]?=some p):A4 (l.take (k+1))=A4 (l.take k)++[[.sl (BP (p.2.enc []))]]:=by
 rw[NA,h];simp[A4]
def Fq{f:BO}(h:(Dp f)[k]?=some x):∃p,f.list[k]?=some p/\x=[.str p.1,.sl (BP (p.2.enc []))]:=by
 unfold Dp at h;rw[Eam]at h;obtain⟨p,h1,h2⟩:=HF.1 h;exact⟨p,h1,h2.symm⟩
def Fn{f:BO}(h:x∈Dp f):x.length=2:=by
 obtain⟨p,_,rfl⟩:=FB.1 h;rfl
def A5:(A4 l).length=l.length:=by simp[A4]
def Px(kd:Int)(s:List UInt8)(g:Bool)(e:Int)(BL:BO)(hv:BL.enc.length<=1499999999999):CA cx 68 [.p (.sl (BP ((BM.mk kd s g e BL).enc nm)))] [] (.p (.sl (A4 BL.list))) []:=by
 (refine CB func68 ?_);(repeat'(first|refine CI (Hp _) ?_|fail));(refine CL.range (Dp BL) 15 [(13,900)] sm _ _ _ _ _ (fun k R=>R=if k=0 then [(1000,.var 53 [.p .snil])]else [(900,.row 25 1 (A4 (BL.list.take k))),(1000,.var 53 [.own 900 0 k])]) (fun _ _=>False) (by rfl) (by rfl) (by rfl) (Rt nm kd s g e BL hv) (by simp only[go_sem,simprocAttr]<;>rfl) (by first|rfl|simp[Cg]) sm ?F' (by simp only[go_sem,simprocAttr]<;>rfl) (by simp only[go_sem,simprocAttr]<;>rfl) (by simp only[go_sem,simprocAttr]<;>rfl) ?h0 ?SE ?SF ?TI ?round ?done ?stop)
 case F'=>exact fun x hx=>Fn hx
 case h0=>rfl
 case SE=>rintro k R rfl;split<;>simp[Hg,findKey]
 case SF=>exact fun _ _ h=>h.elim
 case TI=>exact fun _ h=>h
 case stop=>exact fun _ _ h=>h.elim
 case round =>
  rintro k x R l hx rfl;obtain⟨p,hp,rfl⟩:=Fq hx;by_cases hk:k=0
  ·subst hk;rw[AB rfl];simp only[go_sem,simprocAttr];refine HO ?_;refine⟨by simp,_,rfl,?_⟩;rw[Gs hp];exact(UE (by simp only[Ar]) (by simp(disch:=omega) [Az,A3,Aw,Am,Af,Ai,Au,Aa]) (by simp[Ay]))
  ·rw[AA hk];have DV:=(DX.1 hp).1;rw[LU]at DV;have GB:=KE BL;simp only[go_sem,simprocAttr];refine HO ?_;refine⟨by simp,by rw[A5,GF,LU];omega,omg,omg,_,rfl,?_⟩;rw[Gs hp];exact(UE (by simp only[Ar]) (by simp(disch:=omega) [Az,A3,Aw,Am,Af,Ai,Au,Aa]) (by simp[Ay]))
 case done =>
  rintro R rfl;rw[E4];have GB:=LU BL;by_cases hk:BL.len=0
  ·rw[AB hk];have PD:BL.list=[]:=KH omg;rw[PD];simp only[go_sem,simprocAttr];refine⟨⟨Ba 15 [(3,.ptr 3 0 0)],[(3,.var 53 [.p (.sl [])])]⟩,CH,?_⟩;simp only[go_sem,simprocAttr];rfl
  ·rw[AA hk];have DR:BL.list.take BL.len=BL.list:=DK omg;rw[DR];have D':(BL.len<=(A4 BL.list).length)=True:=AE (by rw[A5];omega);have HK:(A4 BL.list).take BL.len=A4 BL.list:=DK (by rw[A5];omega);simp only[go_sem,simprocAttr];refine⟨_,St.Le.refl _,?_⟩;simp only[go_sem,simprocAttr,D',HK]
end Go.LX
