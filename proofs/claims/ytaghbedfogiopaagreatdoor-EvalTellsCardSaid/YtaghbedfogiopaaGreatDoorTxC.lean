/- make and append. -/
import Derived.Test.YtaghbedfogiopaaGreatDoorTxB
import Derived.Lib.AppendZerosOnto
import Derived.Maps.RangeRun
import Derived.WideKeyEntry
import Derived.Shelf.Abstract
set_option linter.all false
namespace Go.LX
open Go Go.RowKit
variable {a:Act}{d sz e t' r p:Nat}{t ty kt:TypeId}{tmps:Array Value}{v zv u:Value}{es CN:List (List PV)}{oa:Option Addr}{HR:TypeInfo}{y it:Operand}{x:ByteArray}{o:UP}{k:PV}
section
variable {P:Program} {Γ:FH} {β:ET} {w:World} {Im:Nat->Prop}
def Gl(P:Program)(d:Nat)(t:TypeId)(s:St)(l c:Operand)(K:St->Prop):Prop:=
 d<1000/\match IW P t,s.get l,s.get c with
 |some (e,sz),.p (.int _ l),.p (.int _ c)=>0<=l/\l<=c/\(∃b,Bo P e=some b/\(b:Int)*c<=281474976710656)/\c<=9223372036854775807 /\
   ∃zs,Bu P e=some zs/\zs.length=sz/\K ((s.newReg d (.row e sz (List.replicate l.toNat zs))).put (some d) (.own d 0 l.toNat))
 |_,_,_=>False
def Sv(z:List Value)(n sz:Nat)(hz:z.length=sz)(i j:Nat)(v:Value)(hi:i<n)(hv:z[j]?=some v):(madeCells ⟨z⟩ (n*sz)).toList[i*sz+j]?=some v:=by
 have hj:j<sz:=by rw[<-hz];exact(DX.1 hv).1
 have BZ:i*sz+j<n*sz:=by
  have:(i+1)*sz<=n*sz:=M' _ hi;rw[ME,YO]at this;omega
 have SZ:(i*sz+j)%sz=j:=by rw[UA,Nat.mul_add_mod,Nat.mod_eq_of_lt hj]
 have e:=(DX.1 hv).2;simp[madeCells,BZ,hz,SZ,hj,e]
def Nj{s:St}(h:DW Γ β Im s a.tmps w){t:Nat}{l c:Operand}{K:St->Prop}(hl:Gl P d t s l c K) :
  Lb Γ a d ((Instr.makeSlice t (a.eval l) (a.eval c)).run P w) K:=by
 obtain⟨hd,hl⟩:=hl;have r1:=A2 h.fit l;have r2:=A2 h.fit c;split at hl
 ·rename_i e sz kl li kc ci HI g1 g2;obtain⟨h0,WJ,⟨b,hb,FC⟩,QT,zs,hz,XZ,hK⟩:=hl;rw[g1]at r1;rw[g2]at r2;obtain⟨ht,IS,hn⟩:=Dw HI;obtain⟨zv,JF,⟨HR,FD,OU⟩,IH,CT,LI⟩:=D0 hz;have FQ:HR.size=sz:=by simpa[Program.cellsOf,FD]using IS
  have FX:HR.bytes=b:=by simpa[Bo,FD]using hb
  cases aj:a.eval l<;>rw[aj]at r1<;>cases r1;cases UB:a.eval c<;>rw[UB]at r2<;>cases r2;have DE:=run_make (P:=P) w t e HR zv ht FD OU kl kc li ci h0 WJ (by rw[FX];exact FC) QT;rw[FQ]at DE;have g:=DY.alloc (w:=w) (Im:=Im) h.fit.im (.cells (madeCells zv.cells (ci.toNat*sz)) e);have zT:zv.cells.toList.length=sz:=IH.trans XZ;obtain⟨k1,k2⟩:=h.newRow hd (T:=e) (sz:=sz) (tot:=ci.toNat) (cur:=(madeCells zv.cells (ci.toNat*sz)).toList) (es:=List.replicate li.toNat zs) g sm (heap_alloc_new w _) (by simp[size_madeCells]) (by simp;omega) (by unfold maxLen;omega)
   (fun x hx=>by rw[List.eq_of_mem_replicate hx];exact⟨XZ,LI⟩) (fun i x j p hi hj=>by
    obtain⟨ak,rfl⟩:=DX.1 hi;simp at ak hj;obtain⟨u,hu⟩:=BQ IH hj;exact⟨u,Sv zv.cells.toList ci.toNat sz zT i j u omg hu,CT w Im j u p hu hj⟩)
  simp only[aK]at k2;exact⟨_,_,_,Im,_,_,DE,k1,k2,hK⟩
 ·exact hl.elim
def Gj(s:St):L->Option (List (List PV))
 |.p (.sl es)=>some es
 |.p .snil=>some []
 |.own d By len=>match Am d s.regs with
  |some (.row _ _ es)=>if By+len<=es.length then some ((es.drop By).take len)else none
  |_=>none
 |_=>none
def Jes(sz n:Nat)(h0:sz≠0)(f:Nat->Nat->Value):((List.range (n*sz)).map fun k=>f (k/sz) (k%sz)).length=n*sz /\
  (∀k u,((List.range (n*sz)).map fun k=>f (k/sz) (k%sz))[k]?=some u->∃i j,i<n/\j<sz/\k=i*sz+j/\u=f i j)/\∀i j,i<n->j<sz->((List.range (n*sz)).map fun k=>f (k/sz) (k%sz))[i*sz+j]?=some (f i j):=by
 refine⟨by simp,fun k u hu=>?_,fun i j hi hj=>?_⟩
 ·rw[Eam]at hu;obtain⟨q,hq,rfl⟩:=HF.1 hu;obtain⟨nZ,rfl⟩:=DX.1 hq;simp at nZ;have IZ:0<sz:=omg;refine⟨k/sz,k%sz,by rw[Nat.div_lt_iff_lt_mul IZ];exact nZ,Nat.mod_lt _ IZ,?_,by simp⟩;rw[UA];exact(Nat.div_add_mod k sz).symm
 ·have IZ:0<sz:=omg;have BZ:i*sz+j<n*sz:=by
   have:(i+1)*sz<=n*sz:=M' _ hi;rw[ME,YO]at this;omega
  have SZ:(i*sz+j)%sz=j:=by rw[UA,Nat.mul_add_mod,Nat.mod_eq_of_lt hj]
  have zU:(i*sz+j)/sz=i:=by rw[UA,Nat.mul_add_div IZ,gT hj,Nat.add_zero]
  simp[BZ,SZ,zU]
def R5{s:St}(hf:Fit β w Im s tmps){x:L}(h0:sz≠0)(hx:CE β w Im v x)(hs:Gj s x=some es)(DI:∀e∈es,e.length=sz) :
  ((
   ∃oa,v=.slice oa 0 0)/\es=[])\/∃(b o c:Nat) (news:List Value),v=.slice (some ⟨b,o,none⟩) es.length c/\news.length=es.length*sz/\(∀(j:Nat) (u:Value),news[j]?=some u->w.cell? ⟨b,o+j,none⟩=some u)/\(∀u∈news,u.oneCell'=true) /\
   (∀(i:Nat) (e:List PV) (j:Nat) (p:PV),es[i]?=some e->e[j]?=some p->∃u,news[i*sz+j]?=some u/\BW w Im u p)/\∀e∈es,∀p∈e,p.scalar=true:=by
 have mk:∀(b o c:Nat) (f:Nat->Nat->Value),(∀e∈es,∀p∈e,p.scalar=true)->(∀i,i<es.length->∀j,j<sz->w.cell? ⟨b,o+(i*sz+j),none⟩=some (f i j))->(∀(i:Nat) (e:List PV) (j:Nat) (p:PV),es[i]?=some e->e[j]?=some p->BW w Im (f i j) p) ->
   ∃(b' o' c':Nat) (news:List Value),Value.slice (some ⟨b,o,none⟩) es.length c=.slice (some ⟨b',o',none⟩) es.length c'/\news.length=es.length*sz/\(∀(j:Nat) (u:Value),news[j]?=some u->w.cell? ⟨b',o'+j,none⟩=some u)/\(∀u∈news,u.oneCell'=true) /\
   (∀(i:Nat) (e:List PV) (j:Nat) (p:PV),es[i]?=some e->e[j]?=some p->∃u,news[i*sz+j]?=some u/\BW w Im u p)/\∀e∈es,∀p∈e,p.scalar=true:=by
  intro b o c f LI hc hp;obtain⟨k1,k2,k3⟩:=Jes sz es.length h0 f;have zV:=LI;refine⟨b,o,c,_,rfl,k1,fun j u hu=>?_,fun u hu=>?_,fun i e j p hi hj=>?_,zV⟩
  ·obtain⟨i,q,hi,hq,rfl,rfl⟩:=k2 j u hu;exact hc i hi q hq
  ·obtain⟨q,hq,rfl⟩:=PN hu;obtain⟨i,j,hi,hj,_,e⟩:=k2 q _ (C' hq);rw[e];have hm:=UN hi;have pF:j<(es[i]).length:=by rw[DI _ hm];exact hj
   exact(hp i _ j _ (C' hi) (C' pF)).one (LI _ hm _ (UN pF))
  ·have ak:=(DX.1 hi).1;have fL:j<sz:=by rw[<-DI e (D4 hi)];exact(DX.1 hj).1
   exact⟨_,k3 i j ak fL,hp i e j p hi hj⟩
 unfold Gj at hs;split at hs
 ·cases hs;rcases zL hx with⟨hv,he⟩|⟨b,By,cap,EE,f,hv,GP,hb,YU,LI,hc,hp⟩
  ·exact .inl ⟨hv,he⟩
  ·right;rw[hv];refine mk b By cap f LI (fun i hi j hj=>?_) hp;have e:EE=sz:=by rw[<-YU _ (UN hi),DI _ (UN hi)]
   have:=hc i hi j (by rw[e];exact hj);rw[e]at this;rw[<-QO];exact this
 ·cases hs;cases hx;exact .inl ⟨⟨_,rfl⟩,rfl⟩
 ·rename_i d By len;split at hs
  ·rename_i T EE CN hr;split at hs
   ·rename_i DO;cases hs;rcases hx with⟨loc,cap,ad,CM,GP,hl,zW,rfl⟩|⟨CM,rfl,rfl,rfl⟩
    ·rcases hf.regs d _ (Ax hr)with⟨hn,_⟩|⟨CO,cur,CF,YU,hb,FI,PC,HW,EF,CP⟩
     ·rw[CM]at hn;cases hn
     ·rw[CM]at CF;cases CF;right;have CY:((CN.drop By).take len).length=len:=by simp;omega
      have CR:∀x∈(CN.drop By).take len,x∈CN:=fun x hx=>OR (UL hx)
      conv=>enter [1,b,1,o,1,c,1,news,1];rw[show Value.slice (some ⟨loc.blk,ad,none⟩) len cap=Value.slice (some ⟨loc.blk,ad,none⟩) ((CN.drop By).take len).length cap by rw[CY]]
      refine mk loc.blk ad cap (fun i j=>cur.getD ((By+i)*sz+j) undef) (fun e he=>(EF e (CR e he)).2) (fun i hi j hj=>?_) (fun i e j p hi hj=>?_)
      ·have VO:By+i<CN.length:=by rw[CY]at hi;omega
       have hx:=EF _ (UN VO);have e:EE=sz:=by
        have h1:=DI _ (UN hi);have h2:((CN.drop By).take len)[i]=CN[By+i]:=sm;rw[h2,hx.1]at h1;exact h1
       subst e;obtain⟨u,hu,_⟩:=CP (By+i) _ j _ (C' VO) (C' (by rw[hx.1];exact hj));rw[D7 hb,zW (.inl (by rw[CY]at hi;omega)),YU,<-QO,<-ME,hu];simp[GU,hu]
      ·have JM:=hi;rw[IQ]at JM;split at JM
       ·have hi2:CN[By+i]?=some e:=by simpa using JM
        obtain⟨u,hu,hp⟩:=CP (By+i) e j p hi2 hj;have e':EE=sz:=by rw[<-(EF e (D4 hi2)).1,DI e (D4 hi)]
        subst e';have:cur.getD ((By+i)*EE+j) undef=u:=by simp[GU,hu]
        rw[this];exact hp
       ·cases JM
    ·exact .inl ⟨⟨_,rfl⟩,by simp⟩
   ·cases hs
  ·cases hs
 ·cases hs
def Gp(P:Program)(t t':TypeId)(e:TypeId)(s:St)(y:L):Option (List (List PV)):=
 match y with
 |.p (.str bs)=>match P.underlying t',P.underlying e,Bo P e,E5 P e with
  |some .string,some (.int .u8),some 1,some (.int .u8 0)=>some (bs.map fun c=>[.int .u8 c.toNat])
  |_,_,_,_=>none
 |y=>if t=t' then Gj s y else none
def Cb:List (List L)->Option (List (List PV))
 |[]=>some []
 |e::es=>match Bg L.pure? e with
  |some p=>match Cb es with
   |some ps=>some (p::ps)
   |none=>none
  |none=>none
def Dh:∀{es:List (List L)} {ps:List (List PV)},Cb es=some ps->es.length=ps.length/\∀(i:Nat) (p:List PV),ps[i]?=some p->∃e,es[i]?=some e/\Bg L.pure? e=some p
 |[],ps,h=>by simp[Cb]at h;subst h;exact⟨rfl,fun i p h=>by simp at h⟩
 |e::es,ps,h=>by
  simp only[Cb]at h;split at h<;>first|(cases h;done)|skip
  rename_i p hp;split at h<;>first|(cases h;done)|skip
  rename_i ps' F';cases h;obtain⟨h1,h2⟩:=Dh F';refine⟨by simp[h1],fun i q hq=>?_⟩;cases i with
  |zero=>simp at hq;subst hq;exact⟨e,rfl,hp⟩
  |succ i=>simp at hq;simpa using h2 i q hq
def Fx(P:Program)(d e sz:Nat)(s:St)(n:Nat)(es:List (List L))(CN:List (List PV))(K:St->Prop):Prop:=
 n
  <= es.length/\0<es.length/\es.length<n+CN.length/\∃ps,Cb (es.take n)=some ps/\(∃b,Bo P e=some b/\(n+CN.length)*b<=140737488355328)/\n+CN.length<=9223372036854775807 /\
  K ((s.newReg d (.row e sz (ps++CN))).put (some d) (.own d 0 (n+CN.length)))
def Yk(P:Program)(d t' e sz:Nat)(s:St)(lx:L)(m:Int)(K:St->Prop):Prop:=
 (∃k,P.underlying t'=some (.int k))/\0<m/\∃zs,Bu P e=some zs/\match lx with
  |.own d0 0 n=>sz=1/\zs.length=1/\match Am d0 s.regs with
   |some (.lrow T EE true es)=>T=e/\EE=sz/\Fx P d e sz s n es (List.replicate m.toNat zs) K
   |_=>False
  |.p .snil=>zs.length=sz/\(∃b,Bo P e=some b/\m.toNat*b<=140737488355328)/\m<=9223372036854775807/\K ((s.newReg d (.row e sz [])).put (some d) (.own d 0 m.toNat))
  |_=>False
def Qe(P:Program)(d:Nat)(t t':TypeId)(s:St)(x y:Operand)(K:St->Prop):Prop:=
 d<1000/\match IW P t with
 |some (e,sz)=>(∃zs,Bu P e=some zs/\zs.length=sz)/\∃CN,Gp P t t' e s (s.get y)=some CN/\(∀q∈CN,q.length=sz)/\match s.get x with
  |.own d0 0 n=>match Am d0 s.regs with
   |some (.row T EE es)=>T=e/\EE=sz/\es.length=n/\(∃b,Bo P e=some b/\(n+CN.length)*b<=140737488355328)/\n+CN.length<=9223372036854775807 /\
     K (((s.forget d0).newReg d (.row e sz (es++CN))).put (some d) (.own d 0 (n+CN.length)))
   |some (.lrow T EE true es)=>T=e/\EE=sz/\t=t'/\Fx P d e sz s n es CN K
   |_=>False
  |.p .snil=>(∃b,Bo P e=some b/\CN.length*b<=140737488355328)/\CN.length<=9223372036854775807/\K ((s.newReg d (.row e sz CN)).put (some d) (.own d 0 CN.length))
  |_=>False
 |none=>False
def Kk(P:Program)(d:Nat)(t t':TypeId)(s:St)(x y:Operand)(K:St->Prop):Prop:=
 match s.get y with
 |.p (.int _ m)=>d<1000/\match IW P t with
  |some (e,sz)=>Yk P d t' e sz s (s.get x) m K
  |none=>False
 |_=>Qe P d t t' s x y K
def Jd{t ty:Nat}(HI:IW P t=some (e,sz))(b:Option Addr)(n c:Nat)(LN:n<=c):(Builtin.append_ #[t,t] ty #[.slice b n c,.slice oa 0 0]).run P w=.ok (.slice b n c) w:=by
 obtain⟨ht,IS,h0⟩:=Dw HI;cases oa with
 |none =>
  cases b with
  |none=>simp[Builtin.append_,run_underlying ht,Bk IS h0,Builtin.lenOf,LN,Builtin.firstCells]
  |some a=>simp[Builtin.append_,run_underlying ht,Bk IS h0,Builtin.lenOf,LN,Builtin.firstCells,storeCells]
 |some a' =>
  cases b with
  |none=>simp[Builtin.append_,run_underlying ht,Bk IS h0,Builtin.lenOf,LN,Builtin.firstCells,loadCells,loadCellsFrom]
  |some a=>simp[Builtin.append_,run_underlying ht,Bk IS h0,Builtin.lenOf,LN,Builtin.firstCells,storeCells,loadCells,loadCellsFrom]
def zX{w':World}{base:Nat}{xs news:List Value}{n:Nat}{CX:Nat->Prop}(hn:n=es.length)(KP:w'.ownsRow base e sz v (n+CN.length) (xs++news))(EF:∀q∈es++CN,q.length=sz/\∀p∈q,p.scalar=true)(PU:xs.length=n*sz)(h1:∀(i:Nat) (q:List PV) (j:Nat) (p:PV),es[i]?=some q->q[j]?=some p->∃u,xs[i*sz+j]?=some u/\BW w' CX u p)(h2:∀(i:Nat) (q:List PV) (j:Nat) (p:PV),CN[i]?=some q->q[j]?=some p->∃u,news[i*sz+j]?=some u/\BW w' CX u p) :
  ∃x:Option Loc,Ci (MB β d x) w' CX d (.row e sz (es++CN))/\CE (MB β d x) w' CX v (.own d 0 (n+CN.length))/\(∀loc,x=some loc->v.ownBlock=some loc.blk/\loc.blk<w'.heap.size):=by
 subst hn;have BZ:=KP.lt;obtain⟨hl,KP⟩:=KP;rcases KP with⟨rfl,hz⟩|⟨g,cap,cur,rfl,pG,hb,LN,WN,IS,an⟩
 ·have e1:es=[]:=KH omg;have e2:CN=[]:=KH omg;subst e1;subst e2;exact⟨none,.inl ⟨B4,rfl⟩,.inr ⟨B4,rfl,rfl,rfl⟩,fun loc h=>by cases h⟩
 ·refine⟨some ⟨g,sz,cap⟩,.inr ⟨_,cur.toList,B4,rfl,by simpa using hb,by simpa using IS,by simpa using LN,WN,EF,fun i q j p hi hj=>?_⟩,.inl ⟨_,cap,0,B4,by simp,LN,by simp,rfl⟩,fun loc h=>by cases h;exact⟨rfl,(BZ g rfl).2⟩⟩;have get:∀(k:Nat) (u:Value),(xs++news)[k]?=some u->cur.toList[k]?=some u:=by
   intro k u hu;rw[<-an,IQ]at hu;split at hu
   ·exact hu
   ·cases hu
  by_cases VO:i<es.length
  ·rw[NZ VO]at hi;obtain⟨u,hu,hp⟩:=h1 i q j p hi hj;have:=(DX.1 hu).1;exact⟨u,get _ _ (by rw[NZ this];exact hu),hp⟩
  ·rw[Mr omg]at hi;obtain⟨u,hu,hp⟩:=h2 (i-es.length) q j p hi hj;refine⟨u,get _ _ ?_,hp⟩;have e:i*sz=es.length*sz+(i-es.length)*sz:=by rw[<-ME];congr 1;omega
   rw[Mr (by rw[PU,e];omega),PU,<-hu];congr 1;omega
structure Src (P:Program) (w:World) (t t' e sz b:Nat) (vy:Value) (m:Nat) (news:List Value):Prop where
 len:news.length=m*sz
 own:∀(base:Nat) (ty:TypeId) (v:Value) (n:Nat) (xs:List Value),w.ownsRow base e sz v n xs->base<=w.heap.size->n+m<=maxLen->(n+m)*b<=140737488355328 ->
  ∃v' w',(Builtin.append_ #[t,t'] ty #[v,vy]).run P w=.ok v' w'/\w'.ownsRow base e sz v' (n+m) (xs++news)/\w.grownBy w' v.ownBlock
 blk:∀(ty:TypeId) (v:Value) (n:Nat) (xs:List Value) (v':Value) (w':World),w.ownsRow 0 e sz v n xs->n+m<=maxLen->(n+m)*b<=140737488355328->(Builtin.append_ #[t,t'] ty #[v,vy]).run P w=.ok v' w' ->
  ∀k,v'.ownBlock=some k->w.heap.size<=k\/v.ownBlock=some k
def Src.nil{t b:Nat}(HI:IW P t=some (e,sz)):Src P w t t e sz b (.slice oa 0 0) 0 []:=by
 have DE:∀(base:Nat) (ty:TypeId) (v:Value) (n:Nat) (xs:List Value),w.ownsRow base e sz v n xs->(Builtin.append_ #[t,t] ty #[v,.slice oa 0 0]).run P w=.ok v w:=by
  intro base ty v n xs KP;rcases KP.2 with⟨hv,_⟩|⟨g,cap,cur,hv,_,_,LN,_⟩
  ·rw[hv];exact Jd HI _ _ _ (CS _)
  ·rw[hv];exact Jd HI _ _ _ LN
 refine⟨by simp,fun base ty v n xs KP _ _ _=>⟨v,w,DE base ty v n xs KP,by simpa using KP,⟨rfl,rfl,rfl,CS _,fun _ _ _=>rfl⟩⟩,fun ty v n xs v' w' KP _ _ hr k hk=>?_⟩;rw[DE 0 ty v n xs KP]at hr;cases hr;exact .inr hk
def Src.cells{t e sz b:Nat}{HR:TypeInfo}{zv:Value}(HI:IW P t=some (e,sz))(FD:P.info? e=some HR)(OU:HR.zero=some zv)(FQ:HR.size=sz)(FX:HR.bytes=b)(RB:zv.cells.size=sz){bk o c m:Nat}{news:List Value}(IB:news.length=m*sz)(HY:∀(j:Nat) (u:Value),news[j]?=some u->w.cell? ⟨bk,o+j,none⟩=some u)(PW:∀u∈news,u.oneCell'=true) :
  Src P w t t e sz b (.slice (some ⟨bk,o,none⟩) m c) m news:=by
 obtain⟨ht,IS,h0⟩:=Dw HI;have WO:∀(base:Nat) (ty:TypeId) (v:Value) (n:Nat) (xs:List Value),w.ownsRow base e sz v n xs->base<=w.heap.size->n+m<=maxLen->(n+m)*b<=140737488355328 ->
   ∃v' w',(Builtin.append_ #[t,t] ty #[v,.slice (some ⟨bk,o,none⟩) m c]).run P w=.ok v' w'/\w'.ownsRow base e sz v' (n+m) (xs++news)/\w.grownBy w' v.ownBlock:=by
  intro base ty v n xs KP hb QT fN;obtain⟨v',w',h1,h2,h3,_⟩:=run_append_own (P:=P) w base t ty e HR zv sz b ht FD OU FQ FX RB omg v n xs KP ⟨bk,o,none⟩ m c news IB (fun j u hu=>by rw[Cd];exact HY j u hu) PW QT fN hb;exact⟨v',w',h1,h2,h3⟩
 refine⟨IB,WO,fun ty v n xs v' w' KP QT fN DE k IE=>?_⟩;rcases KP.2 with⟨hv,SA⟩|⟨g,cap,cur,hv,_,ao,LN,_,pH,DR⟩
 ·obtain⟨v2,w2,MC,gm,_⟩:=WO w.heap.size ty v n xs ⟨KP.1,.inl ⟨hv,SA⟩⟩ (CS _) QT fN;rw[DE]at MC;cases MC;exact .inl (gm.lt k IE).1
 ·by_cases EM:n+m<=cap
  ·have MH:=run_append_room (P:=P) w t ty e HR ht FD g n cap cur ao ⟨bk,o,none⟩ m c news (by rw[FQ];exact IB) (fun j u hu=>by rw[Cd];exact HY j u hu) PW EM (by rw[FQ,IB,pH,<-ME];exact M' _ EM);rw[<-hv,DE]at MH;cases MH;right;rw[hv];exact IE
  ·have MH:=run_append_grow (P:=P) w t ty e HR zv ht FD OU ⟨g,0,none⟩ n cap xs (by rw[FQ];exact KP.1) (fun j u hu=>by
    rw[<-DR,IQ]at hu;split at hu
    ·rw[Cd,MF,cell_of_row w g j cur e (0,0) ao];simpa using hu
    ·cases hu) ⟨bk,o,none⟩ m c news (by rw[FQ];exact IB) (fun j u hu=>by rw[Cd];exact HY j u hu) omg (by unfold maxLen at QT;omega) (growslice_fits omg (by rw[FX];exact fN))
   rw[<-hv,DE]at MH;cases MH;simp[Value.ownBlock]at IE;exact .inl omg
def Src.str{t:Nat}(ht:P.underlying t=some (.slice e))(hu:P.underlying t'=some .string)(FD:P.info? e=some HR)(OU:HR.zero=some (.int .u8 0))(FQ:HR.size=1)(FX:HR.bytes=1)(bs:List UInt8) :
  Src P w t t' e 1 1 (.string ⟨⟨bs⟩⟩) bs.length (Lib.strCells ⟨⟨bs⟩⟩):=by
 have DI:(⟨⟨bs⟩⟩:ByteArray).size=bs.length:=rfl;have WO:∀(base:Nat) (ty:TypeId) (v:Value) (n:Nat) (xs:List Value),w.ownsRow base e 1 v n xs->base<=w.heap.size->n+bs.length<=maxLen->(n+bs.length)*1<=140737488355328 ->
   ∃v' w',(Builtin.append_ #[t,t'] ty #[v,.string ⟨⟨bs⟩⟩]).run P w=.ok v' w'/\w'.ownsRow base e 1 v' (n+bs.length) (xs++Lib.strCells ⟨⟨bs⟩⟩)/\w.grownBy w' v.ownBlock:=by
  intro base ty v n xs KP hb QT fN;obtain⟨v',w',h1,h2,h3,_⟩:=Lib.run_append_own_string (P:=P) w base t t' ty e HR ht hu FD OU FQ FX v n xs KP ⟨⟨bs⟩⟩ (by rw[DI];exact QT) (by rw[DI];omega) hb;exact⟨v',w',h1,h2,h3⟩
 refine⟨by rw[Lib.strCells_length,DI,XR],WO,fun ty v n xs v' w' KP QT fN DE k IE=>?_⟩;rcases KP.2 with⟨hv,SA⟩|⟨g,cap,cur,hv,_,ao,LN,_,pH,DR⟩
 ·obtain⟨v2,w2,MC,gm,_⟩:=WO w.heap.size ty v n xs ⟨KP.1,.inl ⟨hv,SA⟩⟩ (CS _) QT fN;rw[DE]at MC;cases MC;exact .inl (gm.lt k IE).1
 ·by_cases EM:n+bs.length<=cap
  ·have MH:=Lib.run_append_room_string (P:=P) w t t' ty e HR ht hu FD FQ g n cap cur ao ⟨⟨bs⟩⟩ (by rw[DI];exact EM) (by rw[DI];omega);rw[<-hv,DE]at MH;cases MH;right;rw[hv];exact IE
  ·have MH:=Lib.run_append_grow_string (P:=P) w t t' ty e HR (.int .u8 0) ht hu FD OU ⟨g,0,none⟩ n cap xs (by rw[FQ];exact KP.1) (fun j u hu=>by
    rw[<-DR,IQ]at hu;split at hu
    ·rw[Cd,MF,cell_of_row w g j cur e (0,0) ao];simpa using hu
    ·cases hu) ⟨⟨bs⟩⟩ (by rw[DI];omega) (by rw[DI];unfold maxLen at QT;omega) (growslice_fits (by rw[DI];omega) (by rw[FX,DI];exact fN))
   rw[<-hv,DE]at MH;cases MH;simp[Value.ownBlock]at IE;exact .inl omg
def Jo1(FD:P.info? e=some HR)(OU:HR.zero=some zv)(h:E5 P e=some (.int .u8 0)):zv=.int .u8 0:=by
 unfold E5 at h;split at h<;>first|(cases h;done)|skip
 rename_i v zs hv hz;have e0:v=zv:=by rw[FD]at hv;simp[OU]at hv;exact hv.symm
 subst e0;split at h
 ·cases h
 ·rename_i OD;split at h<;>first|(cases h;done)|skip
  cases h;unfold Bu at hz;rw[FD]at hz;simp only[OU]at hz;have e1:v.cells = #[v]:=by cases v<;>first|rfl|(exact absurd rfl OD)
  rw[e1]at hz;simp only[Bg]at hz;split at hz<;>first|(cases hz;done)|skip
  rename_i b hb;cases hz;unfold Gr at hb;split at hb<;>cases hb;rfl
def Pg{s:St}(hf:Fit β w Im s a.tmps){t b:Nat}(HI:IW P t=some (e,sz))(FD:P.info? e=some HR)(OU:HR.zero=some zv)(FQ:HR.size=sz)(FX:HR.bytes=b)(RB:zv.cells.size=sz){zs:List PV}(hs:Gp P t t' e s (s.get y)=some CN)(DI:∀q∈CN,q.length=sz)(hz:Bu P e=some zs)(b7:Bo P e=some b) :
  ∃news,Src P w t t' e sz b (a.eval y) CN.length news/\(∀(i:Nat) (q:List PV) (j:Nat) (p:PV),CN[i]?=some q->q[j]?=some p->∃u,news[i*sz+j]?=some u/\BW w Im u p)/\∀q∈CN,∀p∈q,p.scalar=true:=by
 have ry:=A2 hf y;obtain⟨ht,IS,h0⟩:=Dw HI;unfold Gp at hs;split at hs
 ·rename_i bs hg;split at hs<;>first|(cases hs;done)|skip
  rename_i hu he PB Q';cases hs;rw[b7]at PB;cases PB;obtain rfl:zv=.int .u8 0:=Jo1 FD OU Q';have h2:sz=1:=by rw[<-RB];rfl
  subst h2;rw[hg]at ry;have hv:a.eval y=.string ⟨⟨bs⟩⟩:=by generalize a.eval y=v at ry;cases ry;rfl
  rw[hv,HM];refine⟨_,Src.str ht hu FD OU FQ FX bs,fun i q j p hi hj=>?_,fun q hq p hp=>?_⟩
  ·rw[Eam]at hi;obtain⟨c,hc,rfl⟩:=HF.1 hi;cases j with
   |zero =>
    simp at hj;subst hj;exact⟨.int .u8 c.toNat,by simp[Lib.strCells,hc],BW.int _ _⟩
   |succ j=>simp at hj
  ·obtain⟨c,_,rfl⟩:=FB.1 hq;simp at hp;subst hp;rfl
 ·rename_i hg;split at hs
  ·rename_i nc;subst nc;rcases R5 hf h0 ry hs DI with⟨⟨oa,hy⟩,rfl⟩|⟨bk,o,c,news,hy,IB,HY,PW,S8,cA⟩
   ·rw[hy];exact⟨[],Src.nil HI,by simp,by simp⟩
   ·rw[hy];exact⟨news,Src.cells HI FD OU FQ FX RB IB HY PW,S8,cA⟩
  ·cases hs
def R7{s:St}(h:DW Γ β Im s a.tmps w){t ty:Nat}{x:Operand}{K:St->Prop}(hl:Qe P d t t' s x y K) :
  Lb Γ a d ((Builtin.append_ #[t,t'] ty #[a.eval x,a.eval y]).run P w) K:=by
 obtain⟨hd,hl⟩:=hl;split at hl
 ·rename_i e sz HI;obtain⟨⟨zs,hz,XZ⟩,CN,OG,DI,hl⟩:=hl;obtain⟨ht,IS,h0⟩:=Dw HI;obtain⟨zv,JF,⟨HR,FD,OU⟩,IH,aq,gn⟩:=D0 hz;have FQ:HR.size=sz:=by simpa[Program.cellsOf,FD]using IS
  have RB:zv.cells.size=sz:=by rw[<-XZ,<-IH];simp
  have rx:=A2 h.fit x;split at hl
  ·rename_i d0 n hg;split at hl
   ·rename_i T EE es hr;obtain⟨rfl,rfl,cB,⟨b,hb,FC⟩,QT,hK⟩:=hl;have FX:HR.bytes=b:=by simpa[Bo,FD]using hb
    have CR:=Ax hr;rw[hg]at rx;obtain⟨xs,KP,PU,Ng,dA,WQ⟩:∃xs,w.ownsRow 0 T EE (a.eval x) n xs/\xs.length=n*EE /\
      (∀(i:Nat) (q:List PV) (j:Nat) (p:PV),es[i]?=some q->q[j]?=some p->∃u,xs[i*EE+j]?=some u/\BW w Im u p)/\(∀q∈es,q.length=EE/\∀p∈q,p.scalar=true) /\
      (∀k,(a.eval x).ownBlock=some k->∃loc,β d0=some loc/\loc.blk=k):=by
     rcases h.fit.regs d0 _ CR with⟨hn,rfl⟩|⟨loc,cur,CM,TA,Pq,FI,DO,HW,EF,CP⟩
     ·rcases rx with⟨loc,cap,o,CM,_⟩|⟨_,_,SA,hv⟩
      ·rw[CM]at hn;cases hn
      ·subst SA;rw[hv];exact⟨[],World.ownsRow_nil _ _ _ _,by simp,by simp,by simp,fun k hk=>by simp[Value.ownBlock]at hk⟩
     ·rcases rx with⟨CO,cap,o,CF,GP,WJ,ho,hv⟩|⟨hn,_⟩
      ·rw[CM]at CF;cases CF;simp only[MF]at GP;rw[hv,ho (.inr rfl)];simp only[og];subst GP;refine⟨cur.take (n*EE),⟨?_,.inr ⟨loc.blk,loc.tot,⟨cur⟩,rfl,EK _,Pq,WJ,HW,by simpa using FI,by simp⟩⟩,?_,fun i q j p hi hj=>?_,EF,fun k hk=>⟨loc,CM,by simpa[Value.ownBlock]using hk⟩⟩
       ·rw[GF,FI];exact b4 (M' _ WJ)
       ·rw[GF,FI];exact b4 (M' _ WJ)
       ·obtain⟨u,hu,hp⟩:=CP i q j p hi hj;have ak:=(DX.1 hi).1;have fL:j<EE:=by rw[<-(EF q (D4 hi)).1];exact(DX.1 hj).1
        have BZ:i*EE+j<n*EE:=by
         have:(i+1)*EE<=n*EE:=M' _ omg;rw[ME,YO]at this;omega
        exact⟨u,by rw[IQ,AB BZ];exact hu,hp⟩
      ·rw[CM]at hn;cases hn
    have OH:n+CN.length<=maxLen:=by unfold maxLen;omega
    obtain⟨news,src,S8,cA⟩:=Pg h.fit HI FD OU FQ FX RB OG DI hz hb;obtain⟨v',w',DE,PF,Kb⟩:=src.own 0 ty (a.eval x) n xs KP (EK _) OH FC;have hk:ED w Im w' Im:=⟨fun _ h=>h,fun b HN=>Kb.block b (h.fit.im b HN) fun e=>by
     obtain⟨loc,CM,rfl⟩:=WQ b e.symm;exact(h.fit.live d0 _ loc CR CM).2 HN⟩
    obtain⟨x',k1,k2,k3⟩:=zX (β:=β) (d:=d) (e:=T) (sz:=EE) (es:=es) (CN:=CN) (w':=w') (base:=0) (v:=v') (xs:=xs) (news:=news) (n:=n) (CX:=Im) cB.symm PF
     (fun q hq=>(H'.1 hq).elim (dA q) fun hq=>⟨DI q hq,cA q hq⟩) PU (fun i q j p hi hj=>by obtain⟨u,hu,hp⟩:=Ng i q j p hi hj;exact⟨u,hu,hp.mono hk⟩)
     (fun i q j p hi hj=>by obtain⟨u,hu,hp⟩:=S8 i q j p hi hj;exact⟨u,hu,hp.mono hk⟩)
    have:=h.replace hd CR (w':=w') (x:=x') Kb.os Kb.tape Kb.output Kb.size (fun k IE DA=>Kb.block k IE fun e=>by
      obtain⟨loc,CM,HN⟩:=WQ k e.symm;exact DA loc CM HN.symm)
     (fun loc hl=>⟨(k3 loc hl).2,(src.blk ty _ n xs v' w' KP OH FC DE _ (k3 loc hl).1).imp id fun h'=>WQ _ h'⟩) k1
    exact⟨_,w',_,Im,_,_,DE,this,k2,hK⟩
   ·rename_i T EE es hr;obtain⟨rfl,rfl,nc,IB,gp,IG,ps,F',⟨b,hb,FC⟩,QT,hK⟩:=hl;subst nc;have FX:HR.bytes=b:=by simpa[Bo,FD]using hb
    have CR:=Ax hr;rw[hg]at rx;have pI:Gj s (s.get y)=some CN:=by
     unfold Gp at OG;split at OG
     ·split at OG<;>first|(cases OG;done)|skip
      rename_i hu _ _ _;rw[ht]at hu;cases hu
     ·rwa[AB rfl]at OG
    have hPR:∃v' w' x',(Builtin.append_ #[t,t] ty #[a.eval x,a.eval y]).run P w=.ok v' w'/\DY w Im w' Im/\(∀loc,x'=some loc->w.heap.size<=loc.blk/\loc.blk<w'.heap.size) /\
      Ci (MB β d x') w' Im d (.row T EE (ps++CN))/\CE (MB β d x') w' Im v' (.own d 0 (n+CN.length)):=by
     rcases h.fit.regs d0 _ CR with⟨_,rfl⟩|⟨loc,cur,CM,TA,Pq,FI,DO,UT,HW,EF,CP⟩
     ·simp at gp
     rcases rx with⟨CO,cap,o,CF,GP,WJ,ho,hv⟩|⟨hn,_⟩
     rotate_left
     ·rw[CM]at hn;cases hn
     rw[CM]at CF;cases CF;have UT:=UT rfl;have pJ:o=0:=by rw[ho (.inr rfl)];simp
     subst pJ;obtain⟨pl,pp⟩:=Dh F';rw[GF,b4 IB]at pl;have PU:(cur.take (n*EE)).length=n*EE:=by rw[GF,FI];exact b4 (M' _ omg)
     have KP:w.ownsRow 0 T EE (.slice (some ⟨loc.blk,0,none⟩) n cap) n (cur.take (n*EE)):=⟨PU,.inr ⟨loc.blk,cap,⟨cur⟩,rfl,EK _,Pq,WJ,omg,by
      show cur.length=cap*EE;rw[FI];congr 1;omega,by simp⟩⟩
     have OH:n+CN.length<=maxLen:=by unfold maxLen;omega
     have hE:∀(i:Nat) (q:List PV),ps[i]?=some q->q.length=EE/\∀p∈q,p.scalar=true:=by
      intro i q hq;obtain⟨e,he,ha⟩:=pp i q hq;have FO:es[i]?=some e:=by
       rw[IQ]at he;split at he
       ·exact he
       ·cases he
      obtain⟨al,ag⟩:=Bh ha;refine⟨by rw[<-EF e (D4 FO)];exact al.symm,fun p hp=>?_⟩;obtain⟨j,hj,rfl⟩:=PN hp;obtain⟨l,DB⟩:=BQ al (C' hj);have h1:=ag j l _ DB (C' hj);obtain⟨v,SV,CT,IY⟩:=CP i e j l FO DB;cases l<;>simp[L.pure?]at h1;subst h1;rcases IY with IY|IY
      ·exact IY
      ·cases IY
     have hX:∀(i:Nat) (q:List PV) (j:Nat) (p:PV),ps[i]?=some q->q[j]?=some p->∃u,(cur.take (n*EE))[i*EE+j]?=some u/\BW w Im u p:=by
      intro i q j p hi hj;obtain⟨e,he,ha⟩:=pp i q hi;have FO:es[i]?=some e:=by
       rw[IQ]at he;split at he
       ·exact he
       ·cases he
      obtain⟨al,ag⟩:=Bh ha;obtain⟨l,DB⟩:=BQ al hj;have h1:=ag j l p DB hj;obtain⟨v,SV,CT,IY⟩:=CP i e j l FO DB;cases l<;>simp[L.pure?]at h1;subst h1;have ak:=(DX.1 hi).1;have fL:j<EE:=by rw[<-(hE i q hi).1];exact(DX.1 hj).1
      have BZ:i*EE+j<n*EE:=by
       have:(i+1)*EE<=n*EE:=M' _ omg;rw[ME,YO]at this;omega
      exact⟨v,by rw[IQ,AB BZ];exact SV,CT⟩
     rcases R5 h.fit h0 (A2 h.fit y) pI DI with⟨_,rfl⟩|⟨bk,o2,c,news,hy,pK,HY,PW,S8,cA⟩
     ·simp at IG;omega
     have DE:=run_append_grow (P:=P) w t ty T HR zv ht FD OU ⟨loc.blk,0,none⟩ n cap (cur.take (n*EE)) (by rw[FQ];exact PU) (fun j u hu=>by
      rw[IQ]at hu;split at hu
      ·rw[Cd,MF,cell_of_row w loc.blk j ⟨cur⟩ T (0,0) Pq];simpa using hu
      ·cases hu) ⟨bk,o2,none⟩ CN.length c news (by rw[FQ];exact pK) (fun j u hu=>by rw[Cd];exact HY j u hu) omg omg (growslice_fits omg (by rw[FX];exact FC))
     have src:=Src.cells (P:=P) HI FD OU FQ FX RB (c:=c) pK HY PW;obtain⟨v',w',MC,PF,Kb⟩:=src.own 0 ty _ n _ KP (EK _) OH FC;rw[DE]at MC;have g:DY w Im w' Im:=by
      cases MC;exact(DY.drew h.fit.im).trans (DY.alloc (w:=w.drew) h.fit.im _)
     obtain⟨x',k1,k2,k3⟩:=zX (β:=β) (d:=d) (e:=T) (sz:=EE) (es:=ps) (CN:=CN) (w':=w') (base:=0) (v:=v') (xs:=cur.take (n*EE)) (news:=news) (n:=n) (CX:=Im) pl PF
      (fun q hq=>(H'.1 hq).elim (fun hq=>by obtain⟨i,hi,rfl⟩:=PN hq;exact hE i _ (C' hi)) fun hq=>⟨DI q hq,cA q hq⟩) PU
      (fun i q j p hi hj=>by obtain⟨u,hu,hp⟩:=hX i q j p hi hj;exact⟨u,hu,hp.mono (g.keeps h.fit.im)⟩)
      (fun i q j p hi hj=>by obtain⟨u,hu,hp⟩:=S8 i q j p hi hj;exact⟨u,hu,hp.mono (g.keeps h.fit.im)⟩)
     refine⟨v',w',x',by rw[hv,hy,DE,MC],g,fun gq IX=>?_,k1,k2⟩;obtain⟨e1,e2⟩:=k3 gq IX;refine⟨?_,e2⟩;cases MC;simp[Value.ownBlock]at e1;omega
    obtain⟨v',w',x',DE,g,JP,k1,k2⟩:=hPR;have:=h.newReg hd (r:=.row T EE (ps++CN)) (x:=x') g JP k1;exact⟨_,w',_,Im,_,_,DE,this,k2,hK⟩
   ·exact hl.elim
  ·rename_i hg;obtain⟨⟨b,hb,FC⟩,QT,hK⟩:=hl;have FX:HR.bytes=b:=by simpa[Bo,FD]using hb
   rw[hg]at rx;have gu:a.eval x=.slice none 0 0:=by cases hv:a.eval x<;>rw[hv]at rx<;>cases rx;rfl
   have OH:0+CN.length<=maxLen:=by unfold maxLen;omega
   obtain⟨news,src,S8,cA⟩:=Pg h.fit HI FD OU FQ FX RB OG DI hz hb;obtain⟨v',w',DE,PF,Kb⟩:=src.own w.heap.size ty (a.eval x) 0 [] (by rw[gu];exact World.ownsRow_nil _ _ _ _) (CS _) OH (by rw[MF];exact FC);have g:DY w Im w' Im:=⟨Kb.os,Kb.tape,Kb.output,Kb.size,fun k hk=>Kb.block k hk (by simp[gu,Value.ownBlock]),fun _ h=>h,fun _ h=>.inl h,fun b HN=>NB (h.fit.im b HN) Kb.size⟩
   have BZ:=PF.lt;obtain⟨x',k1,k2,k3⟩:=zX (β:=β) (d:=d) (e:=e) (sz:=sz) (es:=[]) (CN:=CN) (w':=w') (base:=w.heap.size) (v:=v') (xs:=[]) (news:=news) (n:=0) (CX:=Im) rfl PF
    (fun q hq=>⟨DI q (by simpa using hq),cA q (by simpa using hq)⟩) sm sm
    (fun i q j p hi hj=>by obtain⟨u,hu,hp⟩:=S8 i q j p hi hj;exact⟨u,hu,hp.mono (g.keeps h.fit.im)⟩)
   rw[List.nil_append]at k1;rw[MF]at k2;have:=h.newReg hd (r:=.row e sz CN) (x:=x') g (fun loc hl=>⟨(BZ _ (k3 loc hl).1).1,(k3 loc hl).2⟩) k1;exact⟨_,w',_,Im,_,_,DE,this,k2,hK⟩
  ·exact hl.elim
 ·exact hl.elim
def Qu(z:Value)(hz:z.cells.size=1)(k:Nat):(Builtin.zeroCells z.cells k).toList.length=k/\∀i,i<k->(Builtin.zeroCells z.cells k).toList[i]?=some (z.cells.toList.getD 0 undef):=by
 unfold Builtin.zeroCells;have e:∀i,z.cells[i%z.cells.size]! = z.cells.toList.getD 0 undef:=by
  intro i;rw[hz,Nat.mod_one];generalize z.cells=c at hz⊢;obtain⟨l⟩:=c;rcases l with _|⟨u,_|⟨v,l⟩⟩
  ·simp at hz
  ·rfl
  ·simp at hz
 refine⟨by simp[hz],fun i hi=>?_⟩;simp only[Array.toList_map,e];rw[Eam,Array.toList_range,List.getElem?_range (by rw[hz];omega)];rfl
def Sz{s:St}(h:DW Γ β Im s a.tmps w){t ty:Nat}{x:Operand}{K:St->Prop}(hl:Kk P d t t' s x y K) :
  Lb Γ a d ((Builtin.append_ #[t,t'] ty #[a.eval x,a.eval y]).run P w) K:=by
 unfold Kk at hl;split at hl
 ·rename_i kq m UD;obtain⟨hd,hl⟩:=hl;split at hl
  ·rename_i e sz HI;obtain⟨⟨kn,htn⟩,hm,zs,hz,hl⟩:=hl;obtain⟨ht,IS,h0⟩:=Dw HI;obtain⟨zv,JF,⟨HR,FD,OU⟩,IH,aq,gn⟩:=D0 hz;have rx:=A2 h.fit x;have ry:=A2 h.fit y;rw[UD]at ry;have UB:a.eval y=.int kq m:=by generalize a.eval y=v at ry;cases ry;rfl
   split at hl
   ·rename_i d0 n hg;obtain⟨rfl,zY,hl⟩:=hl;have FQ:HR.size=1:=by simpa[Program.cellsOf,FD]using IS
    split at hl
    ·rename_i T EE es hr;obtain⟨rfl,rfl,IB,gp,IG,ps,F',⟨b,hb,FC⟩,QT,hK⟩:=hl;rw[aK]at IG FC QT hK;have FX:HR.bytes=b:=by simpa[Bo,FD]using hb
     have CR:=Ax hr;rw[hg]at rx;rcases h.fit.regs d0 _ CR with⟨_,rfl⟩|⟨loc,cur,CM,TA,Pq,FI,DO,UT,HW,EF,CP⟩
     ·simp at gp
     rcases rx with⟨CO,cap,o,CF,GP,WJ,ho,hv⟩|⟨hn,_⟩
     rotate_left
     ·rw[CM]at hn;cases hn
     rw[CM]at CF;cases CF;have UT:=UT rfl;have pJ:o=0:=by rw[ho (.inr rfl)];simp
     subst pJ;have au:zv.cells.size=1:=by rw[<-zY,<-IH];simp
     obtain⟨pl,pp⟩:=Dh F';rw[GF,b4 IB]at pl;have PU:(cur.take n).length=n:=by rw[GF,FI];omega
     have hE:∀(i:Nat) (q:List PV),ps[i]?=some q->q.length=1/\∀p∈q,p.scalar=true:=by
      intro i q hq;obtain⟨e,he,ha⟩:=pp i q hq;have FO:es[i]?=some e:=by
       rw[IQ]at he;split at he
       ·exact he
       ·cases he
      obtain⟨al,ag⟩:=Bh ha;refine⟨by rw[<-EF e (D4 FO)];exact al.symm,fun p hp=>?_⟩;obtain⟨j,hj,rfl⟩:=PN hp;obtain⟨l,DB⟩:=BQ al (C' hj);have h1:=ag j l _ DB (C' hj);obtain⟨v,SV,CT,IY⟩:=CP i e j l FO DB;cases l<;>simp[L.pure?]at h1;subst h1;rcases IY with IY|IY
      ·exact IY
      ·cases IY
     have hX:∀(i:Nat) (q:List PV) (j:Nat) (p:PV),ps[i]?=some q->q[j]?=some p->∃u,(cur.take n)[i*1+j]?=some u/\BW w Im u p:=by
      intro i q j p hi hj;obtain⟨e,he,ha⟩:=pp i q hi;have FO:es[i]?=some e:=by
       rw[IQ]at he;split at he
       ·exact he
       ·cases he
      obtain⟨al,ag⟩:=Bh ha;obtain⟨l,DB⟩:=BQ al hj;have h1:=ag j l p DB hj;obtain⟨v,SV,CT,IY⟩:=CP i e j l FO DB;cases l<;>simp[L.pure?]at h1;subst h1;have ak:=(DX.1 hi).1;have fL:j<1:=by rw[<-(hE i q hi).1];exact(DX.1 hj).1
      exact⟨v,by rw[IQ,AB omg];exact SV,CT⟩
     obtain⟨k,rfl⟩:∃k:Nat,m=k:=⟨m.toNat,omg⟩
     simp only[Int.toNat_natCast]at IG FC QT hK;have OH:n+k<=maxLen:=by unfold maxLen;omega
     have cy:k*b<=(n+k)*b:=M' _ omg;have hfc:(Builtin.firstCells HR.size n (.slice (some ⟨loc.blk,0,none⟩) n cap)).run P w.drew=.ok (cur.take n).toArray w.drew:=by
      have:=run_firstCells_some (P:=P) w.drew HR.size n ⟨loc.blk,0,none⟩ n cap (cur.take n) (by rw[FQ,PU];omega) (fun j u hu=>by
       rw[IQ]at hu;split at hu
       ·rw[Cd,MF];show w.cell? _=_;rw[cell_of_row w loc.blk j ⟨cur⟩ T (0,0) Pq];simpa using hu
       ·cases hu)
      simpa using this
     have DE:=Lib.run_append_grow_zeros (P:=P) w t t' ty T HR zv kq kn ht htn FD OU (some ⟨loc.blk,0,none⟩) n cap (cur.take n) hfc k omg omg omg omg (by rw[FX];omega) (growslice_fits omg (by rw[FX];exact FC));obtain⟨z1,z2⟩:=Qu zv au k;obtain⟨z3,_⟩:=Qu zv au (grownCap w (n+k) cap T-(n+k));have av:=grownCap_ge w (n+k) cap T;have WN:grownCap w (n+k) cap T<=maxLen:=grownCap_le_maxLen w (n+k) cap T OH;have g:DY w Im (w.drew.alloc (.cells ((cur.take n).toArray++Builtin.zeroCells zv.cells k++Builtin.zeroCells zv.cells (grownCap w (n+k) cap T-(n+k))) T)) Im:=(DY.drew h.fit.im).trans (DY.alloc (w:=w.drew) h.fit.im _);obtain⟨k1,k2⟩:=h.newRow hd (T:=T) (sz:=1) (tot:=grownCap w (n+k) cap T) (cur:=((cur.take n).toArray++Builtin.zeroCells zv.cells k++Builtin.zeroCells zv.cells (grownCap w (n+k) cap T-(n+k))).toList) (es:=ps++List.replicate k zs) g (by show w.heap.size<(w.heap.push _).size;simp) (heap_alloc_new w.drew _)
      (by simp only[nN,DC,z1,z3,PU];omega) (by simp only[DC,aK];omega) WN
      (fun q hq=>(H'.1 hq).elim (fun hq=>by obtain⟨i,hi,rfl⟩:=PN hq;exact hE i _ (C' hi)) fun hq=>by
       rw[List.eq_of_mem_replicate hq];exact⟨by rw[<-IH];simpa using au,gn⟩)
      (fun i q j p hi hj=>by
       by_cases BZ:i<ps.length
       ·rw[NZ BZ]at hi;obtain⟨u,hu,hp⟩:=hX i q j p hi hj;have VR:=(DX.1 hu).1;exact⟨u,by rw[nN,nN,KJ,NZ (by simpa using VR)];exact hu,hp⟩
       ·rw[Mr omg]at hi;obtain⟨ak,rfl⟩:=DX.1 hi;simp only[aK]at ak;simp only[List.getElem_replicate]at hj;have TB:j=0:=by have h1:=(DX.1 hj).1;rw[<-IH]at h1;simp[au]at h1;exact h1
        subst TB;refine⟨zv.cells.toList.getD 0 undef,?_,?_⟩
        ·rw[nN,nN,KJ,Mr (by simp;omega),NZ (by rw[z1];simp;omega)];exact z2 _ (by simp;omega)
        ·exact aq w Im 0 _ p (by rw[GU];cases hq:zv.cells.toList[0]? with
          |none=>simp[au]at hq
          |some u=>rfl) hj)
     have VS:(ps++List.replicate k zs).length=n+k:=by simp[<-pl]
     rw[VS]at k2;exact⟨_,_,_,Im,_,_,by rw[hv,UB];exact DE,k1,k2,hK⟩
    ·exact hl.elim
   ·rename_i hg;obtain⟨XZ,⟨b,hb,FC⟩,QT,hK⟩:=hl;have FQ:HR.size=sz:=by simpa[Program.cellsOf,FD]using IS
    have FX:HR.bytes=b:=by simpa[Bo,FD]using hb
    rw[hg]at rx;have gu:a.eval x=.slice none 0 0:=by generalize a.eval x=v at rx;cases rx;rfl
    obtain⟨k,rfl⟩:∃k:Nat,m=k:=⟨m.toNat,omg⟩
    simp only[Int.toNat_natCast]at FC hK;have DE:=Lib.run_append_nil_zeros (P:=P) w t t' ty e HR zv kq kn ht htn FD OU k omg omg omg (by rw[FX];omega);have av:=grownCap_ge w k 0 e;have WN:grownCap w k 0 e<=maxLen:=grownCap_le_maxLen w k 0 e (by unfold maxLen;omega);have gZ:zv.cells.size=sz:=by rw[<-XZ,<-IH];simp
    have zl:∀j,(Builtin.zeroCells zv.cells j).toList.length=j*sz:=fun j=>by simp[Builtin.zeroCells,gZ]
    have g:DY w Im (w.drew.alloc (.cells (Builtin.zeroCells zv.cells k++Builtin.zeroCells zv.cells (grownCap w k 0 e-k)) e)) Im:=(DY.drew h.fit.im).trans (DY.alloc (w:=w.drew) h.fit.im _);obtain⟨k1,_⟩:=h.newRow hd (T:=e) (sz:=sz) (tot:=grownCap w k 0 e) (cur:=(Builtin.zeroCells zv.cells k++Builtin.zeroCells zv.cells (grownCap w k 0 e-k)).toList) (es:=[]) g (by show w.heap.size<(w.heap.push _).size;simp) (heap_alloc_new w.drew _)
     (by rw[nN,DC,zl,zl,<-ME];congr 1;omega) (EK _) WN (fun q hq=>by cases hq) (fun i q j p hi=>by simp at hi)
    have k2:CE (MB β d (some ⟨w.heap.size,sz,grownCap w k 0 e⟩)) (w.drew.alloc (.cells (Builtin.zeroCells zv.cells k++Builtin.zeroCells zv.cells (grownCap w k 0 e-k)) e)) Im (.slice (some ⟨w.heap.size,0,none⟩) k (grownCap w k 0 e)) (.own d 0 k):=.inl ⟨_,grownCap w k 0 e,0,B4,by simp,av,by simp,rfl⟩;exact⟨_,_,_,Im,_,_,by rw[gu,UB];exact DE,k1,k2,hK⟩
   ·exact hl.elim
  ·exact hl.elim
 ·exact R7 h hl
end
section
variable {P:Program} {Γ:FH} {β:ET} {w:World} {Im:Nat->Prop}
def DW.newObj{s:St}(h:DW Γ β Im s tmps w)(hd:d<1000){ob:Obj}(ho:YP w Im w.heap.size (some ob) o) :
  DW Γ (MB β d (some ⟨w.heap.size,1,1⟩)) Im (s.newReg d (.obj o)) tmps (w.alloc ob)/\(w.alloc ob).heap[w.heap.size]?=some ob:=by
 have hb:(w.alloc ob).heap[w.heap.size]?=some ob:=Array.getElem?_push_size;have g:=DY.alloc (w:=w) (Im:=Im) h.fit.im ob;refine⟨h.newReg hd g (fun loc hl=>by cases hl;exact⟨CS _,by show w.heap.size<(w.heap.push ob).size;rw[Array.size_push];exact Nat.lt_succ_self _⟩) ⟨_,B4,?_⟩,hb⟩;rw[hb];exact ho.mono (g.keeps h.fit.im)
def Mk(d:Nat)(s:St)(K:St->Prop):Prop:=d<1000/\K ((s.newReg d (.obj (.mp []))).put (some d) (.mref d))
def P9{s:St}(h:DW Γ β Im s a.tmps w){T:TypeId}{K:St->Prop}(hl:Mk d s K):Lb Γ a d ((Instr.makeMap T none).run P w) K:=by
 obtain⟨hd,hK⟩:=hl;obtain⟨h1,h2⟩:=h.newObj hd (ob:=.map #[] 0) (o:=.mp []) ⟨[],0,rfl,rfl,by simp,by simp,fun i e p he=>by simp at he⟩;exact⟨.map (some w.heap.size),w.alloc (.map #[] 0),_,Im,_,.mref d,by simp[Instr.makeMap],h1,⟨_,B4,rfl⟩,hK⟩
def Wr(P:Program)(d:Nat)(t:TypeId)(s:St)(x:Operand)(K:St->Prop):Prop := d<1000/\match P.underlying t,s.get x with|some .string,.p (.str u)=>K ((s.newReg d (.obj (.sit u 0))).put (some d) (.ptr d 0 0))|some (.map _ _),.p .nmap=>K ((s.newReg d (.obj (.mit [] []))).put (some d) (.ptr d 0 0))|some (.map _ _),.p (.mp es)=>K ((s.newReg d (.obj (.mit es []))).put (some d) (.ptr d 0 0))|_,_=>False
def Wl{s:St}(h:DW Γ β Im s a.tmps w){x:Operand}{K:St->Prop}(hl:Wr P d t s x K):Lb Γ a d ((Instr.range t (a.eval x)).run P w) K:=by
 obtain⟨hd,hl⟩:=hl;have hr:=A2 h.fit x;split at hl
 ·rename_i u ht hx;rw[hx]at hr;cases hv:a.eval x<;>rw[hv]at hr<;>cases hr;obtain⟨h1,h2⟩:=h.newObj hd (ob:=.stringIter ⟨⟨u⟩⟩ 0) (o:=.sit u 0) rfl;exact⟨.pointer (some ⟨w.heap.size,0,none⟩),w.alloc (.stringIter ⟨⟨u⟩⟩ 0),_,Im,_,.ptr d 0 0,by simp[Instr.range,run_underlying ht],h1,⟨_,B4,rfl⟩,hl⟩
 ·rename_i k e ht hx;rw[hx]at hr;cases hv:a.eval x<;>rw[hv]at hr<;>cases hr;obtain⟨h1,h2⟩:=h.newObj hd (ob:=.mapIter none 0 #[] 0) (o:=.mit [] []) (.inl ⟨rfl,rfl⟩);exact⟨.pointer (some ⟨w.heap.size,0,none⟩),w.alloc (.mapIter none 0 #[] 0),_,Im,_,.ptr d 0 0,by simp[Instr.range,run_underlying ht],h1,⟨_,B4,rfl⟩,hl⟩
 ·rename_i k e es ht hx;rw[hx]at hr;cases hv:a.eval x<;>rw[hv]at hr<;>cases hr;rename_i r cl B' hIm hw hn hb CY hk UB;obtain⟨h1,h2⟩:=h.newObj hd (ob:=.mapIter (some r) cl #[] cl) (o:=.mit es []) (.inr ⟨r,B',cl,hIm,hw,⟨CY,hn,hb,fun i e p he hp=>⟨hk i e p he hp,UB i e p he hp⟩⟩,rfl,by simp⟩);exact⟨.pointer (some ⟨w.heap.size,0,none⟩),w.alloc (.mapIter (some r) cl #[] cl),_,Im,_,.ptr d 0 0,by simp[Instr.range,run_underlying ht,show(getObj r).run P w=.ok (.map ⟨B'⟩ cl) w by simp[getObj,Sem.run,hw]],h1,⟨_,B4,rfl⟩,hl⟩
 ·exact hl.elim
def Jcg(o:Obj)(hb:w.heap[r]?=some (.stringIter x p)):(setObj r o).run P w=.ok () { w with heap:=w.heap.setIfInBounds r o }:=by
 simp[setObj,Sem.run,hb]
def Rk(hb:w.heap[r]?=some (.stringIter x p)):(getObj r).run P w=.ok (.stringIter x p) w:=by
 simp[getObj,Sem.run,hb]
def Si{m:Option Nat}{a c:Nat}{q:Array Nat}(hb:w.heap[r]?=some (.mapIter m a q c)):(getObj r).run P w=.ok (.mapIter m a q c) w:=by
 simp[getObj,Sem.run,hb]
def DW.setObj{s:St}(h:DW Γ β Im s tmps w){r:DG}{loc:Loc}(hd:(d,r)∈s.regs)(hl:β d=some loc)(ob:Obj)(ho:YP w Im loc.blk (some ob) o) :
  DW Γ β Im { s with regs:=Bs d (.obj o) s.regs } tmps { w with heap:=w.heap.setIfInBounds loc.blk ob }:=by
 have JG:=h.fit.live d r loc hd hl;have hk:ED w Im { w with heap:=w.heap.setIfInBounds loc.blk ob } Im:=⟨fun _ h=>h,fun b HN=>by
  have:loc.blk≠b:=fun e=>JG.2 (e▸HN)
  simp[gO,this]⟩
 refine h.store hd hl rfl rfl rfl sm (fun k IE=>by simp[gO,Ne.symm IE]) ⟨loc,hl,?_⟩;have:({ w with heap:=w.heap.setIfInBounds loc.blk ob }:World).heap[loc.blk]?=some ob:=by simp[gO,JG.1]
 rw[this];exact ho.mono hk
def Wv(s:St)(it:Operand)(vt:Bool)(K:St->L->Prop):Prop:=
 match s.get it with
 |.ptr d 0 0=>match Am d s.regs,vt with
  |some (.obj (.sit u pos)),true=>(pos<u.length->K { s with regs:=Bs d (.obj (.sit u (pos+(Utf8.decode ⟨⟨u⟩⟩ pos).2))) s.regs } (.tup [.bool true,.int .i64 pos,.int .i32 (Utf8.decode ⟨⟨u⟩⟩ pos).1])) /\
    (¬pos<u.length->K s (.tup [.bool false]))
  |some (.obj (.mit es seen)),false=>(∀i p,es[i]?=some p->i∉seen->K { s with regs:=Bs d (.obj (.mit es (seen++[i]))) s.regs } (.tup [.bool true,p.1,p.2])) /\
    ((∀i,i<es.length->i∈seen)->K s (.tup [.bool false]))
  |_,_=>False
 |_=>False
def gv{p:PV}(h:BW w Im v p):CE β w Im (.tuple #[v]) (.tup [p]):=⟨[v],rfl,rfl,fun i x q hi hq=>by
 cases i with
 |zero=>simp at hi hq;subst hi;subst hq;exact h
 |succ i=>simp at hi⟩
def pL{x:Value}{p q r:PV}(h1:BW w Im v p)(h2:BW w Im u q)(h3:BW w Im x r):CE β w Im (.tuple #[v,u,x]) (.tup [p,q,r]):=⟨[v,u,x],rfl,rfl,fun i y z hi hz=>by
 match i,hi,hz with
 |0,hi,hz=>simp at hi hz;subst hi;subst hz;exact h1
 |1,hi,hz=>simp at hi hz;subst hi;subst hz;exact h2
 |2,hi,hz=>simp at hi hz;subst hi;subst hz;exact h3
 |i+3,hi,hz=>simp at hi⟩
def Zv{s:St}(h:DW Γ β Im s a.tmps w){vt:Bool}{K:St->L->Prop}(hl:Wv s it vt K) :
  ∃v w' s' l,(Instr.next (a.eval it) vt ty).run P w=.ok v w'/\DW Γ β Im s' a.tmps w'/\CE β w' Im v l/\K s' l:=by
 unfold Wv at hl;have hr:=A2 h.fit it;split at hl
 ·rename_i d hg;rw[hg]at hr;obtain⟨loc,CM,hv⟩:=hr;have hz:(0:Nat)*loc.sz+0=0:=sm;rw[hz]at hv;rw[hv];split at hl
  ·rename_i u pos hf;obtain⟨CO,CF,ho⟩:=h.fit.regs d _ (Ax hf);rw[CM]at CF;cases CF;by_cases hp:pos<u.length
   ·have hs:=h.setObj (Ax hf) CM (.stringIter ⟨⟨u⟩⟩ (pos+(Utf8.decode ⟨⟨u⟩⟩ pos).2)) (o:=.sit u (pos+(Utf8.decode ⟨⟨u⟩⟩ pos).2)) rfl;refine⟨_,_,_,_,?_,hs,pL (.bool true) (.int .i64 pos) (.int .i32 _),hl.1 hp⟩;have DI:pos<(⟨⟨u⟩⟩:ByteArray).size:=hp;simp only[Instr.next,Sem.run_bind,Rk ho,Result.andThen_ok,AB DI,Jcg _ ho,Sem.run_pure];rfl
   ·refine⟨_,_,s,_,?_,h,gv (.bool false),hl.2 hp⟩;have DI:¬pos<(⟨⟨u⟩⟩:ByteArray).size:=hp;simp only[Instr.next,Sem.run_bind,Rk ho,Result.andThen_ok,AA DI,Sem.run_pure]
  ·rename_i es seen hf;obtain⟨CO,CF,ho⟩:=h.fit.regs d _ (Ax hf);rw[CM]at CF;cases CF;rcases ho with⟨rfl,ho⟩|⟨m,B',cl,hm,vu,hM,ho,vv⟩
   ·refine⟨_,_,s,_,?_,h,gv (.bool false),hl.2 (fun i hi=>absurd hi (Nat.not_lt_zero i))⟩;simp only[Instr.next,Sem.run_bind,Si ho,Result.andThen_ok,Sem.run_pure]
   ·have zZ:∀x∈(⟨B'⟩:Array MapEntry).toList,x.born<cl:=fun x hx=>hM.2.2.1 x hx
    have za:∀i (e:MapEntry),B'[i]?=some e->Ho B' i=e.born:=fun i e he=>by simp[Ho,List.getD,he]
    rcases run_next_at (P:=P) w ty loc.blk m cl cl ⟨seen.map (Ho B')⟩ ⟨B'⟩ cl ho vu zZ (CS _)with⟨h0,hr⟩|⟨e,he,w1,Xd,hr⟩
    ·refine⟨_,_,s,_,hr,h,gv (.bool false),hl.2 (fun i hi=>?_)⟩;have JM:i<B'.length:=hM.1▸hi;have CR:B'[i]∈B':=UN JM;have IB:B'[i]∉(leftOf ⟨B'⟩ ⟨seen.map (Ho B')⟩).toList:=by
      rw[Array.eq_empty_of_size_eq_zero h0];simp
     simp only[leftOf,Array.toList_filter,List.mem_filter,CR,true_and,oh,Bool.not_eq_false,Array.contains_eq_mem,List.mem_toArray,AF,FB,AI,Classical.not_not]at IB;obtain⟨j,hj,pF⟩:=IB;have nW:j<B'.length:=hM.1▸vv j hj;rw[za j B'[j] (C' nW)]at pF;have:=(List.getElem_inj (i:=j) (j:=i) (h₀:=by simpa using nW) (h₁:=by simpa using JM) hM.2.1).1 (by simpa using pF);exact this▸hj
    ·have hg:DW Γ β Im s a.tmps w1/\w1.heap=w.heap:=by
      rcases Xd with rfl|rfl
      ·exact⟨h,rfl⟩
      ·exact⟨h.grow (DY.drew h.fit.im),rfl⟩
     obtain⟨h1,Pr⟩:=hg;simp only[leftOf,Array.toList_filter,List.mem_filter,oh,Array.contains_eq_mem,List.mem_toArray,FB,AI,List.mem_toArray]at he;obtain⟨nU,he2⟩:=he;obtain⟨i,hi,rfl⟩:=List.mem_iff_getElem.1 nU;have hp:es[i]?=some (es[i]'(hM.1▸hi)):=C' _;have vw:i∉seen:=fun hc=>he2 ⟨i,hc,za i _ (C' hi)⟩
     have JG:=h1.fit.live d _ loc (Ax hf) CM;have hk:ED w Im (ChangeMaps.setBlock w1 loc.blk (.mapIter (some m) cl ((⟨seen.map (Ho B')⟩:Array Nat).push B'[i].born) cl)) Im:=⟨fun _ h=>h,fun b HN=>by
      have:loc.blk≠b:=fun e=>JG.2 (e▸HN)
      simp[ChangeMaps.setBlock,gO,this,Pr]⟩
     have hs:=h1.setObj (Ax hf) CM (.mapIter (some m) cl ((⟨seen.map (Ho B')⟩:Array Nat).push B'[i].born) cl) (o:=.mit es (seen++[i]))
      (.inr ⟨m,B',cl,hm,by rw[Pr];exact vu,hM.mono ⟨fun _ h=>h,fun b _=>by rw[Pr]⟩,by simp[za i _ (C' hi)],fun j hj=>by
       rcases H'.1 hj with hj|hj
       ·exact vv j hj
       ·simp at hj;subst hj;exact hM.1▸hi⟩)
     obtain⟨PG,gj⟩:=hM.2.2.2 i _ _ (C' hi) hp;exact⟨_,_,_,_,hr,hs,pL (.bool true) (PG.mono hk) (gj.mono hk),hl.1 i _ hp vw⟩
  ·exact hl.elim
 ·exact hl.elim
def LO(k v:PV)(es:List (PV×PV)):Option (List (PV×PV)):=match Cl k es 0 with|some (some (i,_))=>some (es.set i (k,v))|some none=>some (es++[(k,v)])|none=>none
def WR(k:PV)(es:List (PV×PV)):Option (List (PV×PV)):=match Cl k es 0 with|some (some (i,_))=>some (es.eraseIdx i)|some none=>some es|none=>none
def Dq(P:Program)(t:TypeId)(s:St)(m k v:Operand)(K:St->Prop):Prop:=
 match(s.freezeOps [v]).get m with
 |.mref d=>match Am d (s.freezeOps [v]).regs,MG P t,(s.freezeOps [v]).get k,(s.freezeOps [v]).get v with
  |some (.obj (.mp es)),some (kt,_),.p kp,.p vp=>De P kt kp=true/\∃CN,LO kp vp es=some CN/\K { (s.freezeOps [v])with regs:=Bs d (.obj (.mp CN)) (s.freezeOps [v]).regs }
  |_,_,_,_=>False
 |_=>False
def Kq(P:Program)(t:TypeId)(s:St)(m k:Operand)(K:St->Prop):Prop:=
 match s.get m with
 |.mref d=>match Am d s.regs,MG P t,s.get k with
  |some (.obj (.mp es)),some (kt,_),.p kp=>De P kt kp=true/\∃CN,WR kp es=some CN/\K { s with regs:=Bs d (.obj (.mp CN)) s.regs }
  |_,_,_=>False
 |_=>False
def Q2{P:Program}{d:TypeDesc}(hd:P.underlying kt=some d)(h:De P kt k=true)(hu:BW w Im u k):MapKept.IsKey d u:=by
 unfold De at h;rw[hd]at h;unfold OC at h;simp only at h;split at h
 ·rename_i q q' n;cases hu;simp only[AK]at h;subst h;rfl
 ·cases hu;trivial
 ·cases hu;trivial
 ·cases h
def Yg{k:PV}:∀{es:List (PV×PV)} {i j:Nat} {x:PV},Cl k es i=some (some (j,x))->i<=j
 |[],i,j,x,h=>by simp[Cl]at h
 |(y,v)::es,i,j,x,h=>by
  simp only[Cl]at h;split at h
  ·cases h;exact CS _
  ·have:=Yg h;omega
  ·cases h
def S5{k:PV}:∀{es:List (PV×PV)} {i j:Nat} {x:PV} {q:PV×PV},Cl k es i=some (some (j,x))->es[j-i]?=some q->Lc k q.1=some true
 |[],i,j,x,q,h,_=>by simp[Cl]at h
 |(y,v)::es,i,j,x,q,h,hq=>by
  simp only[Cl]at h;split at h
  ·rename_i hk;cases h;simp at hq;subst hq;exact hk
  ·have DO:=Yg h;have e:j-i=(j-(i+1))+1:=omg;rw[e]at hq;exact S5 h (by simpa using hq)
  ·cases h
def Jfj{x:PV}(hu:BW w Im u k)(hv:BW w Im v x)(h:Lc k x=some true):v=u:=by
 unfold Lc at h;split at h
 ·split at h
  ·rename_i hk;subst hk;cases hu;cases hv;simp at h;rw[h]
  ·cases h
 ·cases hu;cases hv;simp at h;rw[h]
 ·cases hu;cases hv;simp at h;rw[h]
 ·cases h
def G5{d:TypeDesc}(hk:P.underlying kt=some d)(hd:(∃q,d=.int q)\/d=.string\/d=.bool)(hu:BW w Im u k)(hf:De P kt k=true){B':List MapEntry}{es:List (PV×PV)}{cl:Nat}(hM:PA w Im B' cl es){r:Option (Nat×PV)}(hr:Cl k es 0=some r) :
  (r=none/\(Instr.findKey kt u B').run P w=.ok none w)\/∃j x v e,r=some (j,x)/\es[j]?=some (v,x)/\B'[j]?=some e/\(Instr.findKey kt u B').run P w=.ok (some (j,e.val)) w:=by
 have QU:OC d k=true:=by unfold De at hf;rw[hk]at hf;exact hf
 rcases Hh (w:=w) (Im:=Im) hd hu QU B' es 0 r hM.1 (fun j e p he hp=>(hM.2.2.2 j e p he hp).1) hr with⟨h1,h2⟩|⟨j,x,kv,e,h1,h2,h3,h4⟩
 ·exact .inl ⟨h1,by simp[Instr.findKey,run_underlying hk,h2]⟩
 ·rw[MF]at h1 h4;exact .inr ⟨j,x,kv,e,h1,h2,h3,by simp[Instr.findKey,run_underlying hk,h4]⟩
def Hw{s:St}(h:DW Γ β Im s a.tmps w){m k v:Operand}{K:St->Prop}(hl:Dq P t s m k v K) :
  ∃w' s' CX,(Instr.mapUpdate t (a.eval m) (a.eval k) (a.eval v)).run P w=.ok () w'/\K s'/\DW Γ β CX s' a.tmps w':=by
 unfold Dq at hl;obtain⟨CX,h'⟩:=DW.freezeOps (s:=s) [v] h;have rm:=A2 h'.fit m;have rk:=A2 h'.fit k;have rv:=A2 h'.fit v;split at hl<;>first|exact hl.elim|skip
 rename_i d hg;rw[hg]at rm;obtain⟨loc,CM,hv⟩:=rm;split at hl<;>first|exact hl.elim|skip
 rename_i es kt et kp vp hr hT Xh ES;obtain⟨EU,CN,Pt,hK⟩:=hl;rw[Xh]at rk;rw[ES]at rv;obtain⟨ht,dd,hk,hd⟩:=Oq hT;have CR:=Ax hr;obtain⟨CO,CF,B',cl,ho,hM⟩:=h'.fit.regs d _ CR;rw[CM]at CF;cases CF;have WL:(getObj loc.blk).run P w=.ok (.map ⟨B'⟩ cl) w:=by simp[getObj,Sem.run,ho]
 have NG:∀o,(setObj loc.blk o).run P w=.ok () { w with heap:=w.heap.setIfInBounds loc.blk o }:=fun o=>by simp[setObj,Sem.run,ho]
 have gw:=Q2 (w:=w) (Im:=CX) hk EU rk;have SB:(Instr.keyThatStays (a.eval k) (a.eval k)).run P w=.ok (a.eval k) w:=MapKept.run_keyThatStays gw;unfold LO at Pt;split at Pt<;>first|(cases Pt;done)|skip
 ·rename_i i x0 TC;cases Pt;rcases G5 (P:=P) hk hd rk EU hM TC with⟨h0,_⟩|⟨j,x,kv,e,h1,h2,h3,h4⟩
  ·cases h0
  ·cases h1;have BZ:i<B'.length:=(DX.1 h3).1;have Xl:e.key=a.eval k:=by
    have h5:=(hM.2.2.2 i e _ h3 h2).1;have:=S5 TC h2;exact Jfj rk h5 this
   have GQ:(Instr.keyThatStays e.key (a.eval k)).run P w=.ok (a.eval k) w:=by rw[Xl];exact SB
   have gz:PA w CX (B'.set i { e with key:=a.eval k,val:=a.eval v }) cl (es.set i (kp,vp)):=by
    obtain⟨m1,m2,m3,m4⟩:=hM;have hb:(B'.set i { e with key:=a.eval k,val:=a.eval v }).map (·.born)=B'.map (·.born):=by
     apply aN;intro q;simp only[Eam,SO];split
     ·rename_i hq;subst hq;have h5:B'[i]=e:=by simpa[C' BZ]using h3
      simp[BZ,h5]
     ·rfl
    refine⟨by simpa using m1,by rw[hb];exact m2,fun e' FO=>?_,fun q e' p FO hp=>?_⟩
    ·rcases cc FO with FO|rfl
     ·exact m3 e' FO
     ·exact m3 e (D4 h3)
    ·rw[SO]at FO hp;by_cases hq:i=q
     ·subst hq;simp only[if_true,BZ,(m1▸BZ:i<es.length)]at FO hp;cases FO;cases hp;exact⟨rk,rv⟩
     ·simp only[hq,if_false]at FO hp;exact m4 q e' p FO hp
   refine⟨_,_,CX,?_,hK,h'.setObj CR CM (.map ⟨B'.set i { e with key:=a.eval k,val:=a.eval v }⟩ cl) ⟨_,cl,rfl,gz⟩⟩;have SZ:(⟨B'⟩:Array MapEntry).modify i (fun x=>{ x with key:=a.eval k,val:=a.eval v })=⟨B'.set i { e with key:=a.eval k,val:=a.eval v }⟩:=by
    rw[<-SP];simp only[Array.toList_modify];apply aN;intro q;simp only[List.getElem?_modify,SO];by_cases hq:i=q
    ·subst hq;have h5:B'[i]=e:=by simpa[C' BZ]using h3
     simp[BZ,h5]
    ·simp[hq]
   have aw:((⟨B'⟩:Array MapEntry)[i]?)=some e:=by simpa using h3
   rw[hv];simp only[Instr.mapUpdate,Sem.run_bind,run_underlying ht,Result.andThen_ok,WL,Bm hk hd,h4,aw,Option.map_some,Option.getD_some,GQ,SZ,NG]
 ·rename_i TC;cases Pt;rcases G5 (P:=P) hk hd rk EU hM TC with⟨_,h4⟩|⟨j,x,kv,e,h1,_⟩
  ·have gz:PA w CX (B'++[{ key:=a.eval k,val:=a.eval v,born:=cl }]) (cl+1) (es++[(kp,vp)]):=by
    obtain⟨m1,m2,m3,m4⟩:=hM;refine⟨by simp[m1],?_,fun e' FO=>?_,fun q e' p FO hp=>?_⟩
    ·rw[Ry,bw];refine⟨m2,by simp,fun x hx y hy=>?_⟩;simp at hy;subst hy;obtain⟨e',FO,rfl⟩:=FB.1 hx;exact Nat.ne_of_lt (m3 e' FO)
    ·rcases H'.1 FO with FO|FO
     ·exact Nat.lt_succ_of_lt (m3 e' FO)
     ·simp at FO;subst FO;exact Nat.lt_succ_self _
    ·by_cases hq:q<B'.length
     ·rw[NZ hq]at FO;rw[NZ (m1▸hq)]at hp;exact m4 q e' p FO hp
     ·rw[Mr omg]at FO;rw[Mr omg]at hp;rw[m1]at FO;cases hqq:q-es.length with
      |zero=>rw[hqq]at FO hp;simp at FO hp;subst FO;subst hp;exact⟨rk,rv⟩
      |succ n=>rw[hqq]at FO;simp at FO
   refine⟨_,_,CX,?_,hK,h'.setObj CR CM (.map ⟨B'++[{ key:=a.eval k,val:=a.eval v,born:=cl }]⟩ (cl+1)) ⟨_,cl+1,rfl,gz⟩⟩;have pM:(⟨B'⟩:Array MapEntry).push { key:=a.eval k,val:=a.eval v,born:=cl }=⟨B'++[{ key:=a.eval k,val:=a.eval v,born:=cl }]⟩:=sm;rw[hv];simp only[Instr.mapUpdate,Sem.run_bind,run_underlying ht,Result.andThen_ok,WL,Bm hk hd,h4,pM,NG]
  ·cases h1
def vx(P:Program)(t:TypeId)(s:St)(m k:Operand)(K:St->L->Prop):Prop:=
 match s.get m with
 |.mref d=>match Am d s.regs,MG P t,s.get k with
  |some (.obj (.mp es)),some (kt,_),.p kp=>De P kt kp=true/\∃j x,Cl kp es 0=some (some (j,x))/\∀n:Int,K { s with regs:=Bs d (.obj (.mpe es j n)) s.regs } (.tup [x,.int .i64 n])
  |_,_,_=>False
 |_=>False
def vz(s:St)(m e v:Operand)(K:St->Prop):Prop:=
 match(s.freezeOps [v]).get m with
 |.mref d=>match Am d (s.freezeOps [v]).regs,(s.freezeOps [v]).get e,(s.freezeOps [v]).get v with
  |some (.obj (.mpe es j n)),.p (.int .i64 n'),.p vp=>n'=n/\∃q,es[j]?=some q/\K { (s.freezeOps [v])with regs:=Bs d (.obj (.mp (es.set j (q.1,vp)))) (s.freezeOps [v]).regs }
  |_,_,_=>False
 |_=>False
def J05{s:St}(h:DW Γ β Im s a.tmps w){m k:Operand}{K:St->L->Prop}(hl:vx P t s m k K) :
  ∃v w' s' l,(Instr.mapEntry t (a.eval m) (a.eval k)).run P w=.ok v w'/\DW Γ β Im s' a.tmps w'/\CE β w' Im v l/\K s' l:=by
 unfold vx at hl;have rm:=A2 h.fit m;have rk:=A2 h.fit k;split at hl<;>first|exact hl.elim|skip
 rename_i d hg;rw[hg]at rm;obtain⟨loc,CM,hv⟩:=rm;split at hl<;>first|exact hl.elim|skip
 rename_i es kt et kp hr hT Xh;obtain⟨EU,j,x,TC,hK⟩:=hl;rw[Xh]at rk;obtain⟨ht,dd,hk,hd⟩:=Oq hT;have CR:=Ax hr;obtain⟨CO,CF,B',cl,ho,hM⟩:=h.fit.regs d _ CR;rw[CM]at CF;cases CF;have WL:(getObj loc.blk).run P w=.ok (.map ⟨B'⟩ cl) w:=by simp[getObj,Sem.run,ho]
 have NG:∀o,(setObj loc.blk o).run P w=.ok () { w with heap:=w.heap.setIfInBounds loc.blk o }:=fun o=>by simp[setObj,Sem.run,ho]
 have gw:=Q2 (w:=w) (Im:=Im) hk EU rk;have SB:(Instr.keyThatStays (a.eval k) (a.eval k)).run P w=.ok (a.eval k) w:=MapKept.run_keyThatStays gw;rcases G5 (P:=P) hk hd rk EU hM TC with⟨h0,_⟩|⟨j',x',kv,e,h1,h2,h3,h4⟩
 ·cases h0
 ·cases h1;have BZ:j<B'.length:=(DX.1 h3).1;obtain⟨h5,h6⟩:=hM.2.2.2 j e _ h3 h2;have Xl:e.key=a.eval k:=Jfj rk h5 (S5 TC h2);have GQ:(Instr.keyThatStays e.key (a.eval k)).run P w=.ok (a.eval k) w:=by rw[Xl];exact SB
  have SZ:(⟨B'⟩:Array MapEntry).modify j (fun x=>{ x with key:=a.eval k })=⟨B'⟩:=by
   rw[<-SP];simp only[Array.toList_modify];apply aN;intro q;rw[List.getElem?_modify];by_cases hq:j=q
   ·subst hq;rw[h3];simp[<-Xl]
   ·simp[hq]
  have aw:((⟨B'⟩:Array MapEntry)[j]?)=some e:=by simpa using h3
  have ax:Ho B' j=e.born:=by simp[Ho,List.getD,h3]
  have JG:=h.fit.live d _ loc CR CM;have pD:ED w Im { w with heap:=w.heap.setIfInBounds loc.blk (.map ⟨B'⟩ cl) } Im:=⟨fun _ h=>h,fun b HN=>by
   have:loc.blk≠b:=fun e=>JG.2 (e▸HN)
   simp[gO,this]⟩
  refine⟨.tuple #[e.val,goInt e.born],_,_,_,?_,h.setObj CR CM (.map ⟨B'⟩ cl) (o:=.mpe es j e.born) ⟨B',cl,rfl,hM,BZ,by rw[ax]⟩,ab (h6.mono pD) (.int .i64 e.born),hK e.born⟩;rw[hv];simp only[Instr.mapEntry,Sem.run_bind,run_underlying ht,Result.andThen_ok,WL,Bm hk hd,h4,aw,Option.map_some,Option.getD_some,GQ,SZ,NG,Sem.run_pure]
def Jzp{s:St}(h:DW Γ β Im s a.tmps w){m e v:Operand}{K:St->Prop}(hl:vz s m e v K) :
  ∃w' s' CX,(Instr.entryStore t (a.eval m) (a.eval e) (a.eval v)).run P w=.ok () w'/\K s'/\DW Γ β CX s' a.tmps w':=by
 unfold vz at hl;obtain⟨CX,h'⟩:=DW.freezeOps (s:=s) [v] h;have rm:=A2 h'.fit m;have re:=A2 h'.fit e;have rv:=A2 h'.fit v;split at hl<;>first|exact hl.elim|skip
 rename_i d hg;rw[hg]at rm;obtain⟨loc,CM,hv⟩:=rm;split at hl<;>first|exact hl.elim|skip
 rename_i es j n n' vp hr av ES;obtain⟨rfl,q,hq,hK⟩:=hl;rw[av]at re;rw[ES]at rv;have CR:=Ax hr;obtain⟨CO,CF,B',cl,ho,hM,BZ,ax⟩:=h'.fit.regs d _ CR;rw[CM]at CF;cases CF;obtain⟨e0,YT⟩:∃e0,B'[j]?=some e0:=⟨_,C' BZ⟩
 have cC:Ho B' j=e0.born:=by simp[Ho,List.getD,YT]
 have WL:(getObj loc.blk).run P w=.ok (.map ⟨B'⟩ cl) w:=by simp[getObj,Sem.run,ho]
 have NG:∀o,(setObj loc.blk o).run P w=.ok () { w with heap:=w.heap.setIfInBounds loc.blk o }:=fun o=>by simp[setObj,Sem.run,ho]
 have pN:a.eval e=.int .i64 e0.born:=by
  cases hh:a.eval e<;>rw[hh]at re<;>cases re;rw[<-ax,cC]
 have zb:(⟨B'⟩:Array MapEntry).findIdx? (fun x=>((x.born:Nat):Int)==((e0.born:Nat):Int))=some j:=by
  rw[WideElems.findIdx_arr];exact WideElems.findIdx_born hM.2.1 YT
 have gz:PA w CX (B'.set j { e0 with val:=a.eval v }) cl (es.set j (q.1,vp)):=by
  obtain⟨m1,m2,m3,m4⟩:=hM;have hb:(B'.set j { e0 with val:=a.eval v }).map (·.born)=B'.map (·.born):=by
   apply aN;intro q;simp only[Eam,SO];split
   ·rename_i hq;subst hq;have h5:B'[j]=e0:=by simpa[C' BZ]using YT
    simp[BZ,h5]
   ·rfl
  refine⟨by simpa using m1,by rw[hb];exact m2,fun e' FO=>?_,fun i e' p FO hp=>?_⟩
  ·rcases cc FO with FO|rfl
   ·exact m3 e' FO
   ·exact m3 e0 (D4 YT)
  ·rw[SO]at FO hp;by_cases hi:j=i
   ·subst hi;simp only[if_true,BZ,(m1▸BZ:j<es.length)]at FO hp;cases FO;cases hp;exact⟨(m4 j e0 q YT hq).1,rv⟩
   ·simp only[hi,if_false]at FO hp;exact m4 i e' p FO hp
 refine⟨_,_,CX,?_,hK,h'.setObj CR CM (.map ⟨B'.set j { e0 with val:=a.eval v }⟩ cl) ⟨_,cl,rfl,gz⟩⟩;have SZ:(⟨B'⟩:Array MapEntry).modify j (fun x=>{ x with val:=a.eval v })=⟨B'.set j { e0 with val:=a.eval v }⟩:=by
  rw[<-SP];simp only[Array.toList_modify];apply aN;intro q;simp only[List.getElem?_modify,SO];by_cases hq:j=q
  ·subst hq;have h5:B'[j]=e0:=by simpa[C' BZ]using YT
   simp[BZ,h5]
  ·simp[hq]
 rw[hv,pN];simp only[Instr.entryStore,Sem.run_bind,Result.andThen_ok,WL,asInt,asIntOf,Sem.run_pure,zb,SZ,NG]
def S2{s:St}(h:DW Γ β Im s a.tmps w){ts:List TypeId}{m k:Operand}{K:St->Prop}(hl:Kq P t s m k K) :
  ∃w' s',(Builtin.delete_ ⟨t::ts⟩ ty #[a.eval m,a.eval k]).run P w=.ok (.tuple #[]) w'/\K s'/\DW Γ β Im s' a.tmps w':=by
 unfold Kq at hl;have rm:=A2 h.fit m;have rk:=A2 h.fit k;split at hl<;>first|exact hl.elim|skip
 rename_i d hg;rw[hg]at rm;obtain⟨loc,CM,hv⟩:=rm;split at hl<;>first|exact hl.elim|skip
 rename_i es kt et kp hr hT Xh;obtain⟨EU,CN,Pt,hK⟩:=hl;rw[Xh]at rk;obtain⟨ht,dd,hk,hd⟩:=Oq hT;have CR:=Ax hr;obtain⟨CO,CF,B',cl,ho,hM⟩:=h.fit.regs d _ CR;rw[CM]at CF;cases CF;have WL:(getObj loc.blk).run P w=.ok (.map ⟨B'⟩ cl) w:=by simp[getObj,Sem.run,ho]
 have NG:∀o,(setObj loc.blk o).run P w=.ok () { w with heap:=w.heap.setIfInBounds loc.blk o }:=fun o=>by simp[setObj,Sem.run,ho]
 unfold WR at Pt;split at Pt<;>first|(cases Pt;done)|skip
 ·rename_i i x0 TC;cases Pt;rcases G5 (P:=P) hk hd rk EU hM TC with⟨h0,_⟩|⟨j,x,kv,e,h1,h2,h3,h4⟩
  ·cases h0
  ·cases h1;have BZ:i<B'.length:=(DX.1 h3).1;have gz:PA w Im (B'.eraseIdx i) cl (es.eraseIdx i):=by
    obtain⟨m1,m2,m3,m4⟩:=hM;refine⟨by simp[nK,m1],?_,fun e' FO=>m3 e' (List.mem_of_mem_eraseIdx FO),fun q e' p FO hp=>?_⟩
    ·rw[ChangeMaps.map_eraseIdx];exact m2.sublist (List.eraseIdx_sublist _ _)
    ·rw[List.getElem?_eraseIdx]at FO hp;split at FO
     ·rename_i hq;rw[AB hq]at hp;exact m4 q e' p FO hp
     ·rename_i hq;rw[AA hq]at hp;exact m4 (q+1) e' p FO hp
   refine⟨_,_,?_,hK,h.setObj CR CM (.map ⟨B'.eraseIdx i⟩ cl) ⟨_,cl,rfl,gz⟩⟩;have her:(⟨B'⟩:Array MapEntry).eraseIdxIfInBounds i=⟨B'.eraseIdx i⟩:=by
    rw[<-SP];simp
   rw[hv];simp only[Builtin.delete_,Sem.run_bind,Edq,List.getElem?_cons_zero,run_underlying ht,Result.andThen_ok,WL,Bm hk hd,h4,her,NG];simp[run_underlying ht,WL,Bm hk hd,h4,her,NG]
 ·rename_i TC;cases Pt;rcases G5 (P:=P) hk hd rk EU hM TC with⟨_,h4⟩|⟨j,x,kv,e,h1,_⟩
  ·refine⟨_,_,?_,hK,h.setObj CR CM (.map ⟨B'⟩ cl) ⟨_,cl,rfl,hM⟩⟩;rw[hv];simp[Builtin.delete_,run_underlying ht,WL,Bm hk hd,h4,NG]
  ·cases h1
def Ri(s:St)(it:Operand)(K:L->Prop):Prop:=
 match s.get it with
 |.ptr d 0 0=>match Am d s.regs with
  |some (.obj (.mit es seen))=>∃i,seen.getLast?=some i/\∃p,es[i]?=some p/\K (.tup [p.1,p.2])
  |_=>False
 |_=>False
def Vx{s:St}(hf:Fit β w Im s a.tmps){K:L->Prop}(hl:Ri s it K):∃v l,(Instr.entry (a.eval it)).run P w=.ok v w/\CE β w Im v l/\K l:=by
 unfold Ri at hl;have hr:=A2 hf it;split at hl<;>first|exact hl.elim|skip
 rename_i d hg;rw[hg]at hr;obtain⟨loc,CM,hv⟩:=hr;have hz:(0:Nat)*loc.sz+0=0:=sm;rw[hz]at hv;split at hl<;>first|exact hl.elim|skip
 rename_i es seen hfr;obtain⟨i,hi,p,hp,hK⟩:=hl;obtain⟨CO,CF,ho⟩:=hf.regs d _ (Ax hfr);rw[CM]at CF;cases CF;rcases ho with⟨rfl,ho⟩|⟨m,B',cl,hm,vu,hM,ho,vv⟩
 ·simp at hp
 ·obtain⟨BZ,rfl⟩:=DX.1 hp;have YV:i<B'.length:=hM.1▸BZ;have he:B'[i]?=some B'[i]:=C' YV;have hb:Ho B' i=B'[i].born:=by simp[Ho,List.getD,he]
  have ay:((⟨seen.map (Ho B')⟩:Array Nat).back?)=some B'[i].born:=by
   rw[<-hb,Array.back?_eq_getElem?];rw[List.getLast?_eq_getElem?]at hi;simp[hi]
  have pO:B'.find? (fun e=>e.born==B'[i].born)=some B'[i]:=by
   rw[List.find?_eq_some_iff_getElem];refine⟨by simp,i,YV,rfl,fun j hj=>?_⟩;simp only[oh,AL];intro hc;have:=(List.getElem_inj (i:=j) (j:=i) (h₀:=by simp;omega) (h₁:=by simpa using YV) hM.2.1).1 (by simpa using hc);omega
  obtain⟨PG,gj⟩:=hM.2.2.2 i _ _ he hp;refine⟨.tuple #[B'[i].key,B'[i].val],_,?_,ab PG gj,hK⟩;have pP:(getObj m).run P w=.ok (.map ⟨B'⟩ cl) w:=by simp[getObj,Sem.run,vu]
  rw[hv];simp[Instr.entry,Si ho,ay,pP,pO]
def Gn(P:Program)(t:TypeId)(s:St)(x y:Operand)(K:St->L->Prop):Prop:=
 match s.get x,s.get y with
 |.ptr d 0 0,.p (.int .i64 n)=>match Am d s.regs with
  |some (.row T 1 es)=>P.underlying t=some (.pointer T)/\P.cellsOf T=1/\∃bs,Cw es=some bs/\n=bs.length/\bs≠[]/\bs.length<=9223372036854775807 /\
    K (s.forget d) (.p (.str bs))
  |_=>False
 |_,_=>False
def Ni{s:St}(h:DW Γ β Im s a.tmps w){it:TypeId}{x:Operand}{K:St->L->Prop}(hl:Gn P t s x y K) :
  ∃v w' s' l,(Builtin.unsafeString_ #[t,it] ty #[a.eval x,a.eval y]).run P w=.ok v w'/\DW Γ β Im s' a.tmps w'/\CE β w' Im v l/\K s' l:=by
 unfold Gn at hl;have rx:=A2 h.fit x;have ry:=A2 h.fit y;split at hl<;>first|exact hl.elim|skip
 rename_i d n hg VP;rw[hg]at rx;rw[VP]at ry;obtain⟨loc,CM,hv⟩:=rx;have UB:a.eval y=.int .i64 n:=by generalize a.eval y=v at ry;cases ry;rfl
 split at hl<;>first|exact hl.elim|skip
 rename_i T es hr;obtain⟨hp,hc,bs,cu,rfl,DA,QT,hK⟩:=hl;have CR:=Ax hr;rcases h.fit.regs d _ CR with⟨hn,_⟩|⟨CO,cur,CF,DI,hb,FI,DO,HW,EF,CP⟩
 ·rw[CM]at hn;cases hn
 rw[CM]at CF;cases CF;obtain⟨b1,b2⟩:=Io cu;have hz:(0:Nat)*loc.sz+0=0:=sm;rw[hz]at hv;have DE:=Lib.run_unsafeString_row (P:=P) (w:=w) t it ty T hp hc loc.blk cur.length (by simp[World.shape?,hb]) bs DA omg QT (fun j x hx=>by
  obtain⟨e,he⟩:=BQ b1 hx;obtain⟨b,HN,hbe⟩:=b2 j e he;rw[hx]at HN;cases HN;subst hbe;obtain⟨v,SV,IA⟩:=CP j _ 0 _ he rfl;cases IA;rw[Cd,MF,D7 hb];simpa using SV)
 have hf:(w.freeze ⟨loc.blk,0,none⟩ bs.length).os=w.os/\(w.freeze ⟨loc.blk,0,none⟩ bs.length).tape=w.tape/\(w.freeze ⟨loc.blk,0,none⟩ bs.length).output=w.output/\(w.freeze ⟨loc.blk,0,none⟩ bs.length).heap.size=w.heap.size /\
   ∀k,k≠loc.blk->(w.freeze ⟨loc.blk,0,none⟩ bs.length).heap[k]?=w.heap[k]?:=by
  unfold World.freeze;split
  ·exact⟨rfl,rfl,rfl,rfl,fun _ _=>rfl⟩
  ·refine⟨rfl,rfl,rfl,by simp,fun k hk=>by simp[Array.getElem?_modify,Ne.symm hk]⟩
 refine⟨_,_,s.forget d,.p (.str bs),by rw[hv,UB];exact DE,?_,BW.str bs,hK⟩;exact h.spoil CR hf.1 hf.2.1 hf.2.2.1 (Nat.le_of_eq hf.2.2.2.1.symm) fun k _ DA=>hf.2.2.2.2 k (DA loc CM)
end
end Go.LX
namespace Go.LX
open Go Go.RowKit Go.Proofs
variable (o:Option Nat)(f:Nat->Option Nat){tmps:Array Value}{nw:Option Nat}(D:List Nat)
abbrev BX:=List (Nat×DG)
variable {DU:BX}
structure Gt (β:ET) (w:World) (Im:Nat->Prop) (rs:BX) (β':ET) (w':World) (CX:Nat->Prop) (DU:BX):Prop where
 os:w'.os=w.os
 tape:w'.tape=w.tape
 output:w'.output=w.output
 size:w.heap.size<=w'.heap.size
 block:∀k,k<w.heap.size->(∀d r loc,(d,r)∈rs->β d=some loc->loc.blk≠k)->w'.heap[k]?=w.heap[k]?
 imin:∀b,Im b->CX b
 imnew:∀b,CX b->Im b\/w.heap.size<=b\/∃d r loc,(d,r)∈rs/\β d=some loc/\loc.blk=b
 env:∀d,1000<=d->d<500000->β' d=β d
 keys:∀d r,(d,r)∈DU->d=900\/∃r0,(d,r0)∈rs
 regnew:∀d r loc,(d,r)∈DU->β' d=some loc->w.heap.size<=loc.blk\/∃d r CO,(d,r)∈rs/\β d=some CO/\CO.blk=loc.blk
 fit:Fit β' w' CX ⟨[],DU⟩ #[]
def Al(X:Cx)(f:FuncId)(args:List L)(rs:BX)(Post:L->BX->Prop):Prop:=
 Enters X.P f/\∀(β:ET) (Im:Nat->Prop) (w:World) (vs:List Value),X.G w Im->Fit β w Im ⟨args,rs⟩ ⟨vs⟩ ->
  Calls X.P f ⟨vs⟩ w fun e w'=>∃v l DU β' CX,e=.returned v/\Post l DU/\CE β' w' CX v l/\Gt β w Im rs β' w' CX DU
def Al.mono{X:Cx}{f:FuncId}{args:List L}{rs:BX}{Post OW:L->BX->Prop}(h:Al X f args rs Post)(hp:∀l DU,Post l DU->OW l DU):Al X f args rs OW:=
 ⟨h.1,fun β Im w vs hg hf=>(h.2 β Im w vs hg hf).mono fun _ _ ⟨v,l,DU,β',CX,he,hP,hr⟩=>⟨v,l,DU,β',CX,he,hp _ _ hP,hr⟩⟩
abbrev Ren:=List (Nat×Nat)
variable (ρ:Ren)
def EB:Ren->Nat->Option Nat|[],_=>none|(d,n)::ρ,e=>if d=e then some n else EB ρ e
def NH:Ren->Nat->Option Nat|[],_=>none|(d,n)::ρ,m=>if n=m then some d else NH ρ m
def pQ(i j:Nat):L:=match o with|some n=>.ptr n i j|none=>.junk
def nf(By len:Nat):L:=match o with|some n=>.own n By len|none=>.junk
def pR:L:=match o with|some n=>.mref n|none=>.junk
def pS(f:FuncId)(o:Option (List Nat)):L:=match o with|some ns=>.fn f ns|none=>.junk
def zc(f:FuncId)(o:Option (List Nat)):L:=match o with|some ns=>.cfn f ns|none=>.junk
def L.map:L->L|.ptr d i j=>pQ (f d) i j|.own d By len=>nf (f d) By len|.fn g ds=>pS g (Bg f ds)|.cfn g ds=>zc g (Bg f ds)|.mref d=>pR (f d)|l=>l
def DG.map(f:Nat->Option Nat):DG->DG
 |.var T cs=>.var T (cs.map (L.map f))
 |.row T sz es=>.row T sz es
 |.lrow T sz fu es=>.lrow T sz fu (es.map fun e=>e.map (L.map f))
 |.obj o=>.obj o
def CE.map{β β':ET}{w:World}{Im:Nat->Prop}{f:Nat->Option Nat}(hf:∀d n,f d=some n->β' n=β d){v:Value}{l:L}(h:CE β w Im v l):CE β' w Im v (l.map f):=by
 have fn:∀(vs:List Value) (ds ns:List Nat),Bg f ds=some ns->vs.length=ds.length->(∀(i:Nat) (x:Value) (d:Nat),vs[i]?=some x->ds[i]?=some d->∃loc,β d=some loc/\x=.pointer (some ⟨loc.blk,0,none⟩)) ->
   vs.length=ns.length/\∀(i:Nat) (x:Value) (d:Nat),vs[i]?=some x->ns[i]?=some d->∃loc,β' d=some loc/\x=.pointer (some ⟨loc.blk,0,none⟩):=by
  intro vs ds ns ha hl hx;obtain⟨h1,h2⟩:=Bh ha;refine⟨hl.trans h1,fun i x n hi hn=>?_⟩;obtain⟨d,hd⟩:=BQ h1 hn;obtain⟨loc,h3,h4⟩:=hx i x d hi hd;exact⟨loc,by rw[hf d n (h2 i d n hd hn)];exact h3,h4⟩
 cases l with
 |ptr d i j =>
  simp only[L.map];cases hd:f d with
  |none=>trivial
  |some n=>simpa only [pQ,CE,hf d n hd]using h
 |own d By len =>
  simp only[L.map];cases hd:f d with
  |none=>trivial
  |some n=>simpa only [nf,CE,hf d n hd]using h
 |mref d =>
  simp only[L.map];cases hd:f d with
  |none=>trivial
  |some n=>simpa only [pR,CE,hf d n hd]using h
 |fn g ds =>
  simp only[L.map];cases hd:Bg f ds with
  |none=>trivial
  |some ns =>
   obtain⟨vs,hv,hl,hx⟩:=h;obtain⟨h1,h2⟩:=fn vs ds ns hd hl hx;exact⟨vs,hv,h1,h2⟩
 |cfn g ds =>
  simp only[L.map];cases hd:Bg f ds with
  |none=>trivial
  |some ns =>
   obtain⟨vs,hv,hl,hx⟩:=h;obtain⟨h1,h2⟩:=fn vs ds ns hd hl hx;exact⟨vs,hv,h1,h2⟩
 |p x=>exact h
 |eptr cs=>exact h
 |yld l=>exact h
 |tup xs=>exact h
 |junk=>trivial
def J8y(l:L)(h:l.cellOK=true\/l=.junk):(l.map f).cellOK=true\/l.map f=.junk:=by
 rcases h with h|rfl
 ·cases l with
  |ptr d i j=>simp only[L.map];cases f d<;>first|exact .inl rfl|exact .inr rfl
  |own d i j=>simp only[L.map];cases f d<;>first|exact .inl rfl|exact .inr rfl
  |mref d=>simp only[L.map];cases f d<;>first|exact .inl rfl|exact .inr rfl
  |fn g ds=>simp only[L.map];cases Bg f ds<;>first|exact .inl rfl|exact .inr rfl
  |cfn g ds=>simp only[L.map];cases Bg f ds<;>first|exact .inl rfl|exact .inr rfl
  |_=>exact .inl h
 ·exact .inr rfl
def Ci.map{β β':ET}{w:World}{Im:Nat->Prop}{f:Nat->Option Nat}(hf:∀d n,f d=some n->β' n=β d){d n:Nat}(hd:β' n=β d){r:DG}(h:Ci β w Im d r):Ci β' w Im n (r.map f):=by
 cases r with
 |var T cs =>
  obtain⟨loc,cur,h1,h2,h3,h4,h5,h6⟩:=h;refine⟨loc,cur,by rw[hd];exact h1,by simpa using h2,h3,h4,by simpa using h5,fun j v l hv hl=>?_⟩;rw[Eam]at hl;obtain⟨l',IX,rfl⟩:=HF.1 hl;exact⟨(h6 j v l' hv IX).1.map hf,J8y f l' (h6 j v l' hv IX).2⟩
 |row T sz es =>
  rcases h with⟨h1,h2⟩|⟨loc,cur,h1,h2⟩
  ·exact .inl ⟨by rw[hd];exact h1,h2⟩
  ·exact .inr ⟨loc,cur,by rw[hd];exact h1,h2⟩
 |lrow T sz fu es =>
  rcases h with⟨h1,h2⟩|⟨loc,cur,h1,h2,h3,h4,h5,h6,h7,h8,h9⟩
  ·exact .inl ⟨by rw[hd];exact h1,by simp[h2]⟩
  ·refine .inr ⟨loc,cur,by rw[hd];exact h1,h2,h3,h4,by simpa using h5,by simpa using h6,h7,fun x hx=>?_,R4 (fun v l hl=>hl.map hf) (J8y f) h9⟩;obtain⟨y,hy,rfl⟩:=FB.1 hx;simpa using h8 y hy
 |obj o =>
  obtain⟨loc,h1,h2⟩:=h;exact⟨loc,by rw[hd];exact h1,h2⟩
structure OX (ρ:Ren):Prop where
 inj:∀d d' n,EB ρ d=some n->EB ρ d'=some n->d=d'
 ge:∀d n,EB ρ d=some n->1000<=n
 fix:∀d n,EB ρ d=some n->1000<=d->d<500000->n<500000
 back:∀n d,NH ρ n=some d↔EB ρ d=some n
def Cz(ρ:Ren):BX->BX
 |[]=>[]
 |(d,r)::rs=>match EB ρ d with
  |some n=>(n,r.map (EB ρ))::Cz ρ rs
  |none=>Cz ρ rs
def Dd{ρ:Ren}{n:Nat}{q:DG}:∀{rs:BX},(n,q)∈Cz ρ rs->∃d r,(d,r)∈rs/\EB ρ d=some n/\q=r.map (EB ρ)
 |[],h=>by cases h
 |(d,r)::rs,h=>by
  simp only[Cz]at h;split at h
  ·rename_i m hm;rcases DN.1 h with h|h
   ·cases h;exact⟨d,r,DQ,hm,rfl⟩
   ·obtain⟨d',r',h1,h2,h3⟩:=Dd h;exact⟨d',r',EW _ h1,h2,h3⟩
  ·obtain⟨d',r',h1,h2,h3⟩:=Dd h;exact⟨d',r',EW _ h1,h2,h3⟩
def I9{ρ:Ren}(FF:OX ρ):∀{rs:BX},(rs.map (·.1)).Nodup->((Cz ρ rs).map (·.1)).Nodup
 |[],_=>.nil
 |(d,r)::rs,h=>by
  simp only[Fc,UO]at h;simp only[Cz];split
  ·rename_i n hn;simp only[Fc,UO];refine⟨fun hm=>?_,I9 FF h.2⟩;obtain⟨⟨n',q⟩,hq,he⟩:=FB.1 hm;simp only at he;subst he;obtain⟨d',r',h1,h2,_⟩:=Dd hq;exact h.1 (FB.2 ⟨(d',r'),h1,(FF.inj d' d n' h2 hn)⟩)
  ·exact I9 FF h.2
def Ky(β:ET):ET:=fun n=>match NH ρ n with|some d=>β d|none=>none
def D1{ρ:Ren}(FF:OX ρ){β:ET}{d n:Nat}(h:EB ρ d=some n):Ky ρ β n=β d:=by
 simp only[Ky,(FF.back n d).2 h]
section
variable {β:ET} {w:World} {Im:Nat->Prop}
def Fit.call{s:St}(h:Fit β w Im s tmps){ρ:Ren}(FF:OX ρ){args:List L}{vs:List Value}(hl:vs.length=args.length)(ha:∀(i:Nat) (v:Value) (l:L),vs[i]?=some v->args[i]?=some l->CE β w Im v l) :
  Fit (Ky ρ β) w Im ⟨args.map (L.map (EB ρ)),Cz ρ s.regs⟩ ⟨vs⟩where
 size:=by simpa using hl
 tmps i l DB:=by
  simp only[Eam]at DB;obtain⟨l',IX,rfl⟩:=HF.1 DB;obtain⟨v,hv⟩:=BQ hl IX;have:(⟨vs⟩:Array Value).getD i undef=v:=by simp[OQ,hv]
  rw[this];exact(ha i v l' hv IX).map fun d n hd=>D1 FF hd
 regs n q hq:=by
  obtain⟨d,r,h1,h2,rfl⟩:=Dd hq;exact(h.regs d r h1).map (fun d n hd=>D1 FF hd) (D1 FF h2)
 nodup:=I9 FF h.nodup
 live n q loc hq hl:=by
  obtain⟨d,r,h1,h2,rfl⟩:=Dd hq;rw[D1 FF h2]at hl;exact h.live d r loc h1 hl
 apart n q n' q' loc CO hq FJ DA hl DB:=by
  obtain⟨d,r,h1,h2,rfl⟩:=Dd hq;obtain⟨d',r',gf,UC,rfl⟩:=Dd FJ;rw[D1 FF h2]at hl;rw[D1 FF UC]at DB;exact h.apart d r d' r' loc CO h1 gf (fun e=>DA (by subst e;rw[h2]at UC;exact L' UC)) hl DB
 im:=h.im
def findKey(d:Nat):BX->Bool|[]=>false|(e,_)::BR=>if e=d then true else findKey d BR
def Jn{d:Nat}:∀{rs:BX},findKey d rs=true ↔ ∃r,(d,r)∈rs
 |[]=>by simp[findKey]
 |(e,q)::rs=>by
  simp only[findKey];split
  ·rename_i h;subst h;simp only[true_iff];exact⟨q,DQ⟩
  ·rename_i h;rw[Jn];constructor
   ·rintro⟨r,hr⟩;exact⟨r,EW _ hr⟩
   ·rintro⟨r,hr⟩;rcases DN.1 hr with hr|hr
    ·cases hr;exact absurd rfl h
    ·exact⟨r,hr⟩
def C6(nw:Option Nat)(n:Nat):Option Nat:=
 match nw with
 |none=>NH ρ n
 |some d=>if n=900 then some d else match NH ρ n with
  |some e=>if e=d then none else some e
  |none=>none
def C5(bad:List Nat)(d:Nat):Option Nat:=if bad.contains d=true then none else some d
def Da(nw:Option Nat):List Nat:=match nw with|none=>(ρ.filter fun x=>decide (500000<=x.2)).map (·.1)|some d=>d::(ρ.filter fun x=>decide (500000<=x.2)).map (·.1)
def N7(nw:Option Nat)(e:Nat):Bool:=match nw with|none=>true|some d=>decide (e≠d)
def C1(ρ:Ren)(nw:Option Nat)(bad:List Nat)(DU:BX):BX->BX
 |[]=>[]
 |(e,q)::rs=>if N7 nw e=true then match EB ρ e with
   |some n=>match Am n DU with
    |some r=>(e,r.map (C6 ρ nw))::C1 ρ nw bad DU rs
    |none=>C1 ρ nw bad DU rs
   |none=>(e,q.map (C5 bad))::C1 ρ nw bad DU rs
  else C1 ρ nw bad DU rs
def Gc(nw:Option Nat)(DU:BX):BX:=
 match nw with
 |none=>[]
 |some d=>match Am 900 DU with
  |some r=>[(d,r.map (C6 ρ nw))]
  |none=>[]
def St.after(nw:Option Nat)(DU:BX)(s:St):St:=⟨s.tmps.map (L.map (C5 (Da ρ nw))),Gc ρ nw DU++C1 ρ nw (Da ρ nw) DU s.regs⟩
def C3(nw:Option Nat)(β β':ET):ET:=fun e =>
 if nw=some e then β' 900 else match EB ρ e with
 |some n=>β' n
 |none=>β e
def Dt{ρ:Ren}{nw:Option Nat}{bad:List Nat}{DU:BX}{e:Nat}{q:DG}:∀{rs:BX},(e,q)∈C1 ρ nw bad DU rs->nw≠some e /\
  ((∃n r r0,EB ρ e=some n/\(n,r)∈DU/\(e,r0)∈rs/\q=r.map (C6 ρ nw))\/(EB ρ e=none/\∃r0,(e,r0)∈rs/\q=r0.map (C5 bad)))
 |[],h=>by cases h
 |(e',q')::rs,h=>by
  have lift:(nw≠some e/\((∃n r r0,EB ρ e=some n/\(n,r)∈DU/\(e,r0)∈rs/\q=r.map (C6 ρ nw))\/(EB ρ e=none/\∃r0,(e,r0)∈rs/\q=r0.map (C5 bad)))) ->
    nw≠some e/\((∃n r r0,EB ρ e=some n/\(n,r)∈DU/\(e,r0)∈(e',q')::rs/\q=r.map (C6 ρ nw))\/(EB ρ e=none/\∃r0,(e,r0)∈(e',q')::rs/\q=r0.map (C5 bad))):=by
   rintro⟨h1,h2⟩;refine⟨h1,h2.imp ?_ ?_⟩
   ·rintro⟨n,r,r0,a,b,c,d⟩;exact⟨n,r,r0,a,b,EW _ c,d⟩
   ·rintro⟨a,r0,b,c⟩;exact⟨a,r0,EW _ b,c⟩
  simp only[C1]at h;split at h
  ·rename_i hk;have DA:nw≠some e':=by
    intro e;subst e;simp[N7]at hk
   split at h
   ·rename_i n hn;split at h
    ·rename_i r hr;rcases DN.1 h with h|h
     ·cases h;exact⟨DA,.inl ⟨n,r,q',hn,Ax hr,DQ,rfl⟩⟩
     ·exact lift (Dt h)
    ·exact lift (Dt h)
   ·rename_i hn;rcases DN.1 h with h|h
    ·cases h;exact⟨DA,.inr ⟨hn,q',DQ,rfl⟩⟩
    ·exact lift (Dt h)
  ·exact lift (Dt h)
def E8{ρ:Ren}{nw:Option Nat}{bad:List Nat}{DU:BX}:∀(rs:BX),((C1 ρ nw bad DU rs).map (·.1)).Sublist (rs.map (·.1))
 |[]=>.slnil
 |(e,q)::rs=>by
  simp only[C1];split
  ·split
   ·split
    ·exact(E8 rs).cons_cons e
    ·exact(E8 rs).cons e
   ·exact(E8 rs).cons_cons e
  ·exact(E8 rs).cons e
def J5{ρ:Ren}{e:Nat}{q:DG}(h:(e,q)∈Gc ρ nw DU):nw=some e/\∃r,(900,r)∈DU/\q=r.map (C6 ρ nw):=by
 unfold Gc at h;split at h
 ·cases h
 ·split at h
  ·rename_i d r hr;simp only[KI,cp]at h;obtain⟨rfl,rfl⟩:=h;exact⟨rfl,r,Ax hr,rfl⟩
  ·cases h
def DW.called{Γ:FH}{s:St}(h:DW Γ β Im s tmps w){ρ:Ren}(FF:OX ρ)(v7:∀d,nw=some d->d<1000){β':ET}{w':World}{CX:Nat->Prop}(Kx:nw=none->findKey 900 DU=false)(c:Gt (Ky ρ β) w Im (Cz ρ s.regs) β' w' CX DU):DW Γ (C3 ρ nw β β') CX (s.after ρ nw DU) tmps w':=by
 have UX:∀k,(∃n r loc,(n,r)∈Cz ρ s.regs/\Ky ρ β n=some loc/\loc.blk=k)->∃d r loc,(d,r)∈s.regs/\(∃n,EB ρ d=some n)/\β d=some loc/\loc.blk=k:=by
  rintro k ⟨n,q,loc,h1,h2,h3⟩;obtain⟨d,r,g1,g2,_⟩:=Dd h1;rw[D1 FF g2]at h2;exact⟨d,r,loc,g1,⟨n,g2⟩,h2,h3⟩
 have RA:∀k,k<w.heap.size->(∀d r loc,(d,r)∈s.regs->(∃n,EB ρ d=some n)->β d=some loc->loc.blk≠k)->w'.heap[k]?=w.heap[k]?:=by
  intro k hk DA;refine c.block k hk fun n q loc hq hl e=>?_
  obtain⟨d,r,CO,g1,g2,g3,g4⟩:=UX k ⟨n,q,loc,hq,hl,e⟩;exact DA d r CO g1 g2 g3 g4
 have WS:ED w Im w' CX:=⟨c.imin,fun b hb=>RA b (h.fit.im b hb) fun d r loc h1 _ h3 e=>(h.fit.live d r loc h1 h3).2 (e▸hb)⟩
 have SB:∀d n,C5 (Da ρ nw) d=some n->C3 ρ nw β β' n=β d:=by
  intro d n hd;unfold C5 at hd;split at hd
  ·cases hd
  ·rename_i hb;cases hd;have pU:nw≠some d:=by
    intro e;subst e;exact hb (by simp[Da])
   unfold C3;rw[AA pU];split
   ·rename_i m hm;have hm5:m<500000:=by
     rcases fI m 500000 with h'|h'
     ·exact h'
     ·refine absurd ?_ hb;have CR:∀{ρ:Ren},EB ρ d=some m->(d,m)∈ρ:=by
       intro ρ
       induction ρ with
       |nil=>intro h;cases h
       |cons x ρ ih =>
        obtain⟨a,b⟩:=x;intro h;simp only[EB]at h;split at h
        ·rename_i e;subst e;cases h;exact DQ
        ·exact EW _ (ih h)
      have:d∈(ρ.filter fun x=>decide (500000<=x.2)).map (·.1):=FB.2 ⟨(d,m),List.mem_filter.2 ⟨CR hm,by simpa using h'⟩,rfl⟩;unfold Da;cases nw with
      |none=>simpa using this
      |some x=>simp only[List.contains_cons,WG];exact .inr (by simpa using this)
    rw[c.env m (FF.ge d m hm) hm5,D1 FF hm]
   ·rfl
 have ay:∀n d,C6 ρ nw n=some d->C3 ρ nw β β' d=β' n:=by
  intro n d hd;unfold C6 at hd;unfold C3;cases nw with
  |none =>
   have:=(FF.back n d).1 hd;simp[this]
  |some x =>
   simp only at hd;split at hd
   ·rename_i h9;cases hd;subst h9;simp
   ·split at hd
    ·rename_i e he;split at hd
     ·cases hd
     ·rename_i DA;cases hd;have:=(FF.back n d).1 he;rw[AA (by intro hc;exact DA (L' hc).symm),this]
    ·cases hd
 have OG:∀n r loc,(n,r)∈DU->β' n=some loc->w.heap.size<=loc.blk\/∃d r0 CO,(d,r0)∈s.regs/\(∃n,EB ρ d=some n)/\β d=some CO/\CO.blk=loc.blk:=by
  intro n r loc hr hl;rcases c.regnew n r loc hr hl with g|g
  ·exact .inl g
  ·exact .inr (UX _ g)
 have JE:∀e q,(e,q)∈(s.after ρ nw DU).regs->(∃n r,(n,r)∈DU/\C3 ρ nw β β' e=β' n/\q=r.map (C6 ρ nw)/\(n=900/\nw=some e\/EB ρ e=some n/\nw≠some e)) \/
   (EB ρ e=none/\nw≠some e/\C3 ρ nw β β' e=β e/\∃r0,(e,r0)∈s.regs/\q=r0.map (C5 (Da ρ nw))):=by
  intro e q hq;rcases H'.1 hq with hq|hq
  ·obtain⟨rfl,r,h1,rfl⟩:=J5 hq;exact .inl ⟨900,r,h1,by simp[C3],rfl,.inl ⟨rfl,rfl⟩⟩
  ·obtain⟨DA,hq⟩:=Dt hq;rcases hq with⟨n,r,r0,h1,h2,h3,rfl⟩|⟨h1,r0,h2,rfl⟩
   ·exact .inl ⟨n,r,h2,by simp[C3,DA,h1],rfl,.inr ⟨h1,DA⟩⟩
   ·exact .inr ⟨h1,DA,by simp[C3,DA,h1],r0,h2,rfl⟩
 have h900':∀r,(900,r)∈DU->nw≠none:=by
  intro r hr e;have h1:findKey 900 DU=true:=Jn.2 ⟨r,hr⟩;rw[Kx e]at h1;cases h1
 have fit:Fit (C3 ρ nw β β') w' CX (s.after ρ nw DU) tmps:=by
  refine{ size:=by simpa[St.after]using h.fit.size,tmps:=fun i l hl=>?_,regs:=fun e q hq=>?_,nodup:=?_,live:=fun e q loc hq hl=>?_,apart:=fun e q e' q' l1 l2 hq FJ DA h1 h2=>?_,im:=fun b hb=>c.fit.im b hb }
  ·simp only[St.after,Eam]at hl;obtain⟨l',DB,rfl⟩:=HF.1 hl;exact((h.fit.tmps i l' DB).mono' WS).map SB
  ·rcases JE e q hq with⟨n,r,h1,h2,rfl,_⟩|⟨h1,h2,h3,r0,h4,rfl⟩
   ·exact(c.fit.regs n r h1).map (fun a b YW=>ay a b YW) h2
   ·have:=(h.fit.regs e r0 h4).mono (β':=β) WS rfl (fun _ _=>rfl) fun loc hl=>RA _ (h.fit.live e r0 loc h4 hl).1 fun d r CO g1 g2 g3=>by
     obtain⟨n,g2⟩:=g2;refine h.fit.apart d r e r0 CO loc g1 h4 (fun hc=>?_) g3 hl;subst hc;rw[h1]at g2;cases g2
    exact this.map (fun a b YW=>SB a b YW) h3
  ·simp only[St.after,Ry];refine bw.2 ⟨?_,(E8 _).nodup h.fit.nodup,fun a ha b hb YW=>?_⟩
   ·unfold Gc;split
    ·exact .nil
    ·split<;>simp
   ·subst YW;obtain⟨⟨e,q⟩,hq,rfl⟩:=FB.1 ha;obtain⟨⟨e',q'⟩,FJ,he⟩:=FB.1 hb;simp only at he;subst he;exact(Dt FJ).1 (J5 hq).1
  ·rcases JE e q hq with⟨n,r,h1,h2,rfl,_⟩|⟨h1,h2,h3,r0,h4,rfl⟩
   ·rw[h2]at hl;exact c.fit.live n r loc h1 hl
   ·rw[h3]at hl;obtain⟨g1,g2⟩:=h.fit.live e r0 loc h4 hl;refine⟨NB g1 c.size,fun hi=>?_⟩;rcases c.imnew _ hi with g|g|g
    ·exact g2 g
    ·omega
    ·obtain⟨d,r,CO,k1,⟨n,k2⟩,k3,k4⟩:=UX _ g;exact h.fit.apart d r e r0 CO loc k1 h4 (fun hc=>by subst hc;rw[h1]at k2;cases k2) k3 hl k4
  ·
   have X3:∀n r e r0 l1 l2,(n,r)∈DU->β' n=some l1->(e,r0)∈s.regs->EB ρ e=none->β e=some l2->l1.blk≠l2.blk:=by
    intro n r e r0 l1 l2 g1 g2 g3 g4 g5;rcases OG n r l1 g1 g2 with g|⟨d,r1,CO,k1,⟨m,k2⟩,k3,k4⟩
    ·have:=(h.fit.live e r0 l2 g3 g5).1;omega
    ·rw[<-k4];exact h.fit.apart d r1 e r0 CO l2 k1 g3 (fun hc=>by subst hc;rw[g4]at k2;cases k2) k3 g5
   rcases JE e q hq with⟨n,r,g1,g2,rfl,g4⟩|⟨g1,g2,g3,r0,g4,rfl⟩<;>rcases JE e' q' FJ with⟨n',r',k1,k2,rfl,k4⟩|⟨k1,k2,k3,r0',k4,rfl⟩
   ·rw[g2]at h1;rw[k2]at h2;refine c.fit.apart n r n' r' l1 l2 g1 k1 (fun hc=>?_) h1 h2;subst hc;rcases g4 with⟨g5,g6⟩|⟨g5,g6⟩<;>rcases k4 with⟨k5,k6⟩|⟨k5,k6⟩
    ·rw[g6]at k6;exact DA (L' k6)
    ·have:=FF.ge e' n k5;omega
    ·have:=FF.ge e n g5;omega
    ·exact DA (FF.inj e e' n g5 k5)
   ·rw[g2]at h1;rw[k3]at h2;exact X3 n r e' r0' l1 l2 g1 h1 k4 k1 h2
   ·rw[g3]at h1;rw[k2]at h2;exact Ne.symm (X3 n' r' e r0 l2 l1 k1 h2 g4 g1 h1)
   ·rw[g3]at h1;rw[k3]at h2;exact h.fit.apart e r0 e' r0' l1 l2 g4 k4 DA h1 h2
 refine{ fit:=fit,os:=c.os.trans h.os,tape:=c.tape.trans h.tape,output:=c.output.trans h.output,size:=Nat.le_trans h.size c.size,block:=fun k hk hm=>?_,imin:=fun b hb=>c.imin b (h.imin b hb),imnew:=fun b hb=>?_,regnew:=fun e q loc hq hl=>?_,fixed:=fun d hd PT=>?_,glob:=Γ.mono WS h.glob,mnod:=h.mnod,marks:=fun D hD=>?_ }
 ·rw[RA k (NB hk h.size) fun d r loc h1 _ h3 e=>?_]
  ·exact h.block k hk hm
  ·rcases h.regnew d r loc h1 h3 with g|g
   ·omega
   ·exact hm (e▸g)
 ·rcases c.imnew b hb with g|g|g
  ·exact h.imnew b g
  ·exact .inr (.inl (Nat.le_trans h.size g))
  ·obtain⟨d,r,loc,k1,_,k3,k4⟩:=UX _ g;rcases h.regnew d r loc k1 k3 with g|g
   ·exact .inr (.inl (k4▸g))
   ·exact .inr (.inr (k4▸g))
 ·rcases JE e q hq with⟨n,r,g1,g2,rfl,g4⟩|⟨g1,g2,g3,r0,g4,rfl⟩
  ·rw[g2]at hl;rcases OG n r loc g1 hl with g|⟨d,r1,CO,k1,_,k3,k4⟩
   ·exact .inl (Nat.le_trans h.size g)
   ·rw[<-k4];exact h.regnew d r1 CO k1 k3
  ·rw[g3]at hl;exact h.regnew e r0 loc g4 hl
 ·rw[<-h.fixed d hd PT];unfold C3;rw[AA (fun hc=>by have:=v7 d hc;omega)];split
  ·rename_i n hn;rw[c.env n (FF.ge d n hn) (FF.fix d n hn hd PT),D1 FF hn]
  ·rfl
 ·obtain⟨m1,m2,m3,m4⟩:=h.marks D hD;have BZ:=(Rw.1 m1).1;refine⟨(RA D BZ fun d r loc h1 _ h3 e=>m4 d r loc h1 h3 e).trans m1,fun hi=>?_,m3,fun e q loc hq hl=>?_⟩
  ·rcases c.imnew D hi with g|g|g
   ·exact m2 g
   ·omega
   ·obtain⟨d,r,loc,k1,_,k3,k4⟩:=UX _ g;exact m4 d r loc k1 k3 k4
  ·rcases JE e q hq with⟨n,r,g1,g2,rfl,g4⟩|⟨g1,g2,g3,r0,g4,rfl⟩
   ·rw[g2]at hl;rcases OG n r loc g1 hl with g|⟨d,r1,CO,k1,_,k3,k4⟩
    ·omega
    ·rw[<-k4];exact m4 d r1 CO k1 k3
   ·rw[g3]at hl;exact m4 e r0 loc g4 hl
def L.ids:L->List Nat|.ptr d _ _=>[d]|.own d _ _=>[d]|.fn _ ds=>ds|.cfn _ ds=>ds|.mref d=>[d]|_=>[]
def DG.ids:DG->List Nat
 |.var _ cs=>cs.flatMap L.ids
 |.row ..=>[]
 |.lrow _ _ _ es=>es.flatMap fun e=>e.flatMap L.ids
 |.obj _=>[]
def Dj(Np:List Nat):List Nat->List Nat|[]=>[]|d::ds=>if Np.contains d=true then Dj Np ds else d::Dj (d::Np) ds
def F3(GO:List Nat):BX->List Nat|[]=>[]|(d,r)::BR=>if GO.contains d=true then r.ids++F3 GO BR else F3 GO BR
def Gw(k:Nat):List Nat->Ren|[]=>[]|d::ds=>if k<400000 then(d,1000+k)::Gw (k+1) ds else []
def Ff(k:Nat):List Nat->Ren|[]=>[]|d::ds=>if k<400000 then(d,if 1000<=d/\d<500000 then 1000+k else 500000+k)::Ff (k+1) ds else []
def P0(D I:List Nat):Ren:=Gw 0 D++Ff D.length I
def Nr(rs:BX):List Nat:=Dj D (F3 D rs)
def Ve(D I:List Nat)(rs:BX):List Nat:=I++Dj (D++I) (F3 I rs)
def Ra(rs:BX):Ren:=match D with
 |[]=>[]
 |_=>P0 D (Ve D (Nr D rs) rs)
def O3(k:Nat):Ren->Prop|[]=>True|(d,n)::ρ=>(n=1000+k/\k<400000\/(n=500000+k/\¬(1000<=d/\d<500000)/\k<400000))/\O3 (k+1) ρ
def Jc2:∀(ds:List Nat) (k:Nat),O3 k (Ff k ds)
 |[],_=>trivial
 |d::ds,k=>by
  simp only[Ff];split
  ·rename_i hk;refine⟨?_,Jc2 ds (k+1)⟩;split
   ·exact .inl ⟨rfl,hk⟩
   ·rename_i h;exact .inr ⟨rfl,h,hk⟩
  ·trivial
def Jdd:∀(ds es:List Nat) (k:Nat),O3 k (Gw k ds++Ff (k+ds.length) es)
 |[],es,k=>by simpa[Gw]using Jc2 es k
 |d::ds,es,k=>by
  simp only[Gw];split
  ·rename_i hk;have:=Jdd ds es (k+1);rw[QO,YM 1]at this;exact⟨.inl ⟨rfl,hk⟩,this⟩
  ·rename_i hk;have:Ff (k+(d::ds).length) es=[]:=by
    cases es with
    |nil=>rfl
    |cons=>simp only[Ff];rw[AA (by simp;omega)]
   rw[this];trivial
def Ka:∀{ρ:Ren} {k:Nat},O3 k ρ->∀d n,EB ρ d=some n->1000<=n/\(n<500000->1000+k<=n)/\(500000<=n->500000+k<=n)/\(1000<=d->d<500000->n<500000)
 |[],_,_,d,n,h=>by cases h
 |(e,m)::ρ,k,hk,d,n,h=>by
  simp only[EB]at h;split at h
  ·rename_i he;subst he;cases h;rcases hk.1 with⟨h1,h2⟩|⟨h1,h2,h3⟩
   ·exact⟨omg,omg,omg,omg⟩
   ·exact⟨omg,omg,omg,fun a b=>absurd ⟨a,b⟩ h2⟩
  ·obtain⟨h1,h2,h3,h4⟩:=Ka hk.2 d n h;exact⟨h1,omg,omg,h4⟩
def O9:∀{ρ:Ren} {k:Nat},O3 (k+1) ρ->k<400000->∀d,EB ρ d≠some (1000+k)/\EB ρ d≠some (500000+k):=by
 intro ρ k h hk d;constructor
 ·intro hc;obtain⟨_,h2,_⟩:=Ka h d _ hc;have:=h2 omg;omega
 ·intro hc;obtain⟨_,_,h3,_⟩:=Ka h d _ hc;have:=h3 omg;omega
def v8:∀{ρ:Ren} {k:Nat},O3 k ρ->(ρ.map (·.1)).Nodup->∀n d,NH ρ n=some d↔EB ρ d=some n
 |[],_,_,_,n,d=>by simp[NH,EB]
 |(e,m)::ρ,k,hk,hn,n,d=>by
  simp only[Fc,UO]at hn;simp only[NH,EB];have FU:∀{ρ:Ren} {a b},EB ρ a=some b->a∈ρ.map (·.1):=by
   intro ρ
   induction ρ with
   |nil=>intro a b h;cases h
   |cons x ρ ih =>
    intro a b h;simp only[EB]at h;split at h
    ·rename_i he;subst he;exact DQ
    ·exact EW _ (ih h)
  have hm:∀d,EB ρ d≠some m:=by
   intro d;rcases hk.1 with⟨h1,h2⟩|⟨h1,_,h2⟩
   ·rw[h1];exact(O9 hk.2 h2 d).1
   ·rw[h1];exact(O9 hk.2 h2 d).2
  split
  ·rename_i h;subst h;constructor
   ·intro h;cases h;simp
   ·intro h;split at h
    ·rename_i he;rw[he]
    ·exact absurd h (hm d)
  ·rename_i h;rw[v8 hk.2 hn.2 n d];split
   ·rename_i he;subst he;constructor
    ·intro h';exact absurd (FU h') hn.1
    ·intro h';cases h';exact absurd rfl h
   ·exact Iff.rfl
def Tc{ρ:Ren}{k:Nat}(h:O3 k ρ)(hn:(ρ.map (·.1)).Nodup):OX ρ where
 inj d d' n h1 h2:=by
  have e1:=(v8 h hn n d).2 h1;have e2:=(v8 h hn n d').2 h2;rw[e1]at e2;exact L' e2
 ge d n hd:=(Ka h d n hd).1
 fix d n hd h1 h2:=(Ka h d n hd).2.2.2 h1 h2
 back:=v8 h hn
def G4:∀(ds Np:List Nat),(Dj Np ds).Nodup/\∀d∈Dj Np ds,d∉Np
 |[],_=>⟨.nil,fun d h=>by cases h⟩
 |d::ds,Np=>by
  simp only[Dj];split
  ·exact G4 ds Np
  ·rename_i hd;obtain⟨h1,h2⟩:=G4 ds (d::Np);refine⟨UO.2 ⟨fun h=>h2 d h DQ,h1⟩,fun e he=>?_⟩;rcases DN.1 he with rfl|he
   ·simpa using hd
   ·exact fun h=>h2 e he (EW _ h)
def Pn:∀(ds:List Nat) (k:Nat),((Gw k ds).map (·.1)).Sublist ds
 |[],_=>.slnil
 |d::ds,k=>by
  simp only[Gw];split
  ·exact(Pn ds (k+1)).cons_cons d
  ·exact List.nil_sublist _
def Pd:∀(ds:List Nat) (k:Nat),((Ff k ds).map (·.1)).Sublist ds
 |[],_=>.slnil
 |d::ds,k=>by
  simp only[Ff];split
  ·exact(Pd ds (k+1)).cons_cons d
  ·exact List.nil_sublist _
def Jki(GO:List Nat)(rs:BX):OX (Ra (Dj [] GO) rs):=by
 have nil:OX []:=
  {
   inj:=fun d d' n h=>nomatch h
   ge:=fun d n h=>nomatch h
   fix:=fun d n h=>nomatch h
   back:=fun n d=>by simp[NH,EB] }
 unfold Ra;split
 ·exact nil
 ·refine Tc (k:=0) ?_ ?_
  ·have:=Jdd (Dj [] GO) (Ve (Dj [] GO) (Nr (Dj [] GO) rs) rs) 0
   rwa[MF]at this
  ·unfold P0;rw[Ry];refine List.Nodup.sublist ((Pn _ _).append (Pd _ _)) ?_;obtain⟨a1,a2⟩:=G4 GO [];obtain⟨b1,b2⟩:=G4 (F3 (Dj [] GO) rs) (Dj [] GO);obtain⟨c1,c2⟩:=G4 (F3 (Nr (Dj [] GO) rs) rs) (Dj [] GO++Nr (Dj [] GO) rs);refine bw.2 ⟨a1,bw.2 ⟨b1,c1,fun x hx y hy e=>?_⟩,fun x hx y hy e=>?_⟩
   ·subst e;exact c2 x hy (cf _ hx)
   ·subst e;rcases H'.1 hy with hy|hy
    ·exact b2 x hy hx
    ·exact c2 x hy (aL _ hx)
end
variable (s:St)
section
variable {P:Program} {Γ:FH} {β:ET} {w:World} {Im:Nat->Prop}
def YX(m:Nat):L->Option (List (List PV))
 |.own d By len=>match Am d s.regs with
  |some (.lrow _ _ _ es)=>if By+len<=es.length then Cb ((es.drop By).take (min len m))else none
  |_=>(Gj s (.own d By len)).map (List.take m)
 |x=>(Gj s x).map (List.take m)
def Jfs{s:St}{m:Nat}(hf:Fit β w Im s tmps){v:Value}{x:L}{es:List (List PV)}(hx:CE β w Im v x)(hs:YX s m x=some es)(DI:∀e∈es,e.length=1)(zd:∀fO,Gj s x=some fO->∀e∈fO,e.length=1) :
  ∃
   (ad:Option Addr) (sl c:Nat),v=.slice ad sl c/\es.length=min sl m/\(es=[]\/∃(b o:Nat) (news:List Value),ad=some ⟨b,o,none⟩/\news.length=es.length/\(∀(j:Nat) (u:Value),news[j]?=some u->w.cell? ⟨b,o+j,none⟩=some u)/\(∀u∈news,u.oneCell'=true) /\
   (∀(i:Nat) (e:List PV) (p:PV),es[i]?=some e->e[0]?=some p->∃u,news[i]?=some u/\BW w Im u p)/\∀e∈es,∀p∈e,p.scalar=true):=by
 have Np:(Gj s x).map (List.take m)=some es->∃(ad:Option Addr) (sl c:Nat),v=.slice ad sl c/\es.length=min sl m/\(es=[]\/∃(b o:Nat) (news:List Value),ad=some ⟨b,o,none⟩/\news.length=es.length/\(∀(j:Nat) (u:Value),news[j]?=some u->w.cell? ⟨b,o+j,none⟩=some u)/\(∀u∈news,u.oneCell'=true) /\
   (∀(i:Nat) (e:List PV) (p:PV),es[i]?=some e->e[0]?=some p->∃u,news[i]?=some u/\BW w Im u p)/\∀e∈es,∀p∈e,p.scalar=true):=fun h=>by
  obtain⟨fO,h0,rfl⟩:=HF.1 h;rcases R5 hf (by decide:(1:Nat)≠0) hx h0 (zd fO h0)with⟨⟨oa,h1⟩,rfl⟩|⟨b,o,c,news,h1,h2,h3,h4,h5,h6⟩
  ·exact⟨oa,0,0,h1,by simp,.inl sm⟩
  ·refine⟨_,fO.length,c,h1,by rw[GF,Nat.min_comm],.inr ⟨b,o,news.take m,rfl,by rw[GF,GF,h2,XR],fun j u hu=>?_,fun u hu=>h4 u (UL hu),fun i e p hi hj=>?_,fun e he=>h6 e (UL he)⟩⟩
   ·rw[IQ]at hu;split at hu
    ·exact h3 j u hu
    ·cases hu
   ·rw[IQ]at hi⊢;split at hi
    ·rename_i BZ;obtain⟨u,hu,hp⟩:=h5 i e 0 p hi hj;exact⟨u,by rw[AB BZ];simpa using hu,hp⟩
    ·cases hi
 unfold YX at hs;split at hs
 ·rename_i d By len;split at hs
  ·rename_i T sz SS fO hr;split at hs
   ·rename_i DO;obtain⟨pl,pp⟩:=Dh hs;have CY:es.length=min len m:=by rw[<-pl,GF,KO];omega
    rcases hx with⟨loc,cap,ad,CM,GP,hl,zW,rfl⟩|⟨CM,rfl,rfl,rfl⟩
    ·rcases hf.regs d _ (Ax hr)with⟨hn,_⟩|⟨CO,cur,CF,YU,hb,FI,PC,UT,HW,EF,CP⟩
     ·rw[CM]at hn;cases hn
     ·rw[CM]at CF;cases CF;refine⟨_,len,cap,rfl,CY,?_⟩;by_cases h0:min len m=0
      ·exact .inl (KH omg)
      have key:∀(i:Nat) (e:List PV),es[i]?=some e->∃p u,e=[p]/\cur[By+i]?=some u/\BW w Im u p/\p.scalar=true/\loc.sz=1:=by
       intro i e hi;obtain⟨e0,YT,ha⟩:=pp i e hi;have nU:fO[By+i]?=some e0:=by
        rw[IQ]at YT;split at YT
        ·simpa using YT
        ·cases YT
       obtain⟨al,ag⟩:=Bh ha;have e1:=DI e (D4 hi);have e2:=EF e0 (D4 nU)
       match e,e1,al,ag with
       |[p],_,al,ag =>
        obtain⟨l,DB⟩:=BQ (i:=0) (b:=p) al sm;have h1:=ag 0 l p DB rfl;obtain⟨u,hu,CT,IY⟩:=CP (By+i) e0 0 l nU DB;have s1:sz=1:=by rw[<-e2,al];rfl
        cases l<;>simp[L.pure?]at h1;subst h1;refine⟨_,u,rfl,by simpa[s1]using hu,CT,?_,YU.trans s1⟩;rcases IY with IY|IY
        ·exact IY
        ·cases IY
      have XV:loc.sz=1:=by
       obtain⟨e,he⟩:∃e,es[0]?=some e:=⟨_,C' omg⟩
       obtain⟨_,_,_,_,_,_,h⟩:=key 0 e he;exact h
      right;refine⟨loc.blk,ad,(cur.drop By).take (min len m),rfl,?_,fun j u hu=>?_,fun u hu=>?_,fun i e p hi hj=>?_,fun e he p hp=>?_⟩
      ·rw[GF,KO,FI,CY];have:=YU.symm.trans XV;rw[this];omega
      ·rw[IQ]at hu;split at hu
       ·rw[D7 hb,zW (.inl omg),XV,XR];simpa using hu
       ·cases hu
      ·obtain⟨j,hj,rfl⟩:=PN hu;have nW:j<es.length:=by simp at hj;omega
       obtain⟨p,u,_,h2,h3,h4,_⟩:=key j _ (C' nW);have:((cur.drop By).take (min len m))[j]=u:=by
        have:=(DX.1 h2).2;simpa using this
       rw[this];exact h3.one h4
      ·obtain⟨p',u,rfl,h2,h3,_,_⟩:=key i e hi;simp at hj;subst hj;have ak:=(DX.1 hi).1;exact⟨u,by rw[IQ,AB omg];simpa using h2,h3⟩
      ·obtain⟨i,hi,rfl⟩:=PN he;obtain⟨p',u,h1,_,_,h4,_⟩:=key i _ (C' hi);rw[h1]at hp;simp at hp;subst hp;exact h4
    ·exact⟨none,0,0,rfl,CY,.inl (KH (by rw[CY];simp))⟩
   ·cases hs
  ·exact Np hs
 ·exact Np hs
def N6(x:L):Prop:=match Gj s x with
 |some es=>∀e∈es,e.length=1
 |none=>True
def Tv(P:Program)(t t':TypeId)(s:St)(x y:Operand)(K:St->L->Prop):Prop:=
 match IW P t with
 |some (_,sz)=>sz=1/\t=t'/\match s.get x with
  |.own d By len=>∃CN,YX s len (s.get y)=some CN/\(∀q∈CN,q.length=1)/\N6 s (s.get y)/\if CN.length=0 then K s (.p (.int .i64 0))else match Am d s.regs with
   |some (.row T EE es)=>EE=1/\By+CN.length<=es.length /\
     K { s with regs:=Bs d (.row T 1 (es.take By++CN++es.drop (By+CN.length))) s.regs } (.p (.int .i64 (CN.length:Nat)))
   |some (.lrow T EE f es)=>EE=1/\By+CN.length<=es.length /\
     K { s with regs:=Bs d (.lrow T 1 f (es.take By++CN.map (List.map L.p)++es.drop (By+CN.length))) s.regs } (.p (.int .i64 (CN.length:Nat)))
   |_=>False
  |_=>False
 |none=>False
def Z6{s:St}{a:Act}(h:DW Γ β Im s a.tmps w){t t' ty:Nat}{x y:Operand}{K:St->L->Prop}(hl:Tv P t t' s x y K) :
  ∃v w' s' l,(Builtin.copy_ #[t,t'] ty #[a.eval x,a.eval y]).run P w=.ok v w'/\DW Γ β Im s' a.tmps w'/\CE β w' Im v l/\K s' l:=by
 unfold Tv at hl;have rx:=A2 h.fit x;split at hl
 ·rename_i e sz HI;obtain⟨rfl,rfl,hl⟩:=hl;obtain⟨ht,IS,h0⟩:=Dw HI;have XV:(P.info? e).map (·.size)=some 1:=by
   unfold Program.cellsOf at IS;cases hi:P.info? e with
   |none=>simp[hi]at IS
   |some i=>simp[hi]at IS;simp[IS]
  split at hl
  ·rename_i d By len hg;obtain⟨CN,OG,DI,OI,hl⟩:=hl;obtain⟨ad,sl,c,ng,dD,S⟩:=Jfs h.fit (A2 h.fit y) OG DI (fun fO h0=>by unfold N6 at OI;rw[h0]at OI;exact OI);rw[hg]at rx;have pV:∃ad c,a.eval x=.slice ad len c:=by
    rcases rx with⟨loc,cap,o,_,_,_,_,hv⟩|⟨_,_,rfl,hv⟩
    ·exact⟨_,_,hv⟩
    ·exact⟨_,_,hv⟩
   split at hl
   ·rename_i hm;obtain⟨ad2,c2,pV⟩:=pV;exact⟨_,w,s,.p (.int .i64 0),by rw[pV,ng];exact run_copy_none w t t ty e ad2 ad len c2 sl c ht XV (by show min sl len=0;omega),h,BW.int _ _,hl⟩
   ·rename_i hm;generalize dE:CN.length=m at *
    rcases S with rfl|⟨bk,o2,news,rfl,IB,HY,PW,S8,cA⟩
    ·simp at dE;omega
    have X4:news.length=m:=IB;have hcc:news.length=Nat.min sl len:=by rw[X4];exact dD
    have YY:∀(loc:Loc) (cur:List Value) (T:TypeId),β d=some loc->loc.sz=1->w.heap[loc.blk]?=some (.cells ⟨cur⟩ T (0,0))->By+m<=cur.length ->
      (Builtin.copy_ #[t,t] ty #[a.eval x,a.eval y]).run P w=.ok (goInt m) (w.setRow loc.blk (cur.take By++news++cur.drop (By+m)).toArray):=by
     intro loc cur T CM YZ Pq EU;rcases rx with⟨CO,cap,o,CF,GP,WJ,ho,hv⟩|⟨hn,_⟩
     ·rw[CM]at CF;cases CF;have nX:o=By:=by rw[ho (.inl omg),YZ,XR]
      subst nX;rw[hv,ng];have:=run_copy_row P w t t ty e loc.blk o len cap ⟨bk,o2,none⟩ sl c ⟨cur⟩ T (news) ht XV Pq hcc (fun j v hj=>by rw[Cd];exact HY j v hj) (by rw[X4];exact EU) PW;rw[X4]at this;exact this
     ·rw[CM]at hn;cases hn
    split at hl
    ·rename_i T EE es hr;obtain⟨rfl,DO,hK⟩:=hl;have CR:=Ax hr;rcases h.fit.regs d _ CR with⟨_,rfl⟩|⟨loc,cur,CM,YZ,Pq,FI,PC,HW,EF,CP⟩
     ·simp at DO;omega
     have EU:By+m<=cur.length:=by rw[FI];omega
     have hk:ED w Im (w.setRow loc.blk (cur.take By++news++cur.drop (By+m)).toArray) Im:=
      ⟨fun _ h=>h,fun b HN=>B6 _ _ _ _ fun e=>(h.fit.live d _ loc CR CM).2 (e▸HN)⟩
     have ZY:CN.length=m:=dE;refine⟨_,_,{ s with regs:=Bs d (.row T 1 (es.take By++CN++es.drop (By+m))) s.regs },.p (.int .i64 m),YY loc cur T CM YZ Pq EU,h.store CR CM rfl rfl rfl (by simp[World.setRow]) (fun k hk=>B6 _ _ _ _ hk) (.inr ?_),BW.int _ _,hK⟩;refine⟨loc,_,CM,YZ,setRow_heap w loc.blk _ _ _ _ Pq,by have:=Bz cur (news) By (by rw[X4];exact EU);rw[X4]at this;rw[this];exact FI,by have:=Bz es CN By (by rw[ZY];exact DO);rw[ZY]at this;rw[this];exact PC,HW,fun x hx=>?_,fun i q j p hi hj=>?_⟩
     ·rcases H'.1 hx with hx|hx
      ·rcases H'.1 hx with hx|hx
       ·exact EF x (UL hx)
       ·exact⟨DI x hx,cA x hx⟩
      ·exact EF x (OR hx)
     ·have A:=CU es CN By i (by rw[ZY];exact DO);have B:=CU cur (news) By (i*1+j) (by rw[X4];exact EU);rw[ZY]at A;rw[X4]at B;rw[A]at hi;rw[B];by_cases g1:i<By
      ·rw[AB g1]at hi;have TB:j=0:=by have:=(EF q (D4 hi)).1;have:=(DX.1 hj).1;omega
       subst TB;rw[AB omg];obtain⟨u,hu,hp⟩:=CP i q 0 p hi hj;exact⟨u,hu,hp.mono hk⟩
      ·rw[AA g1]at hi;by_cases g2:i<By+m
       ·rw[AB g2]at hi;have TB:j=0:=by have:=DI q (D4 hi);have:=(DX.1 hj).1;omega
        subst TB;rw[AA omg,AB omg];obtain⟨u,hu,hp⟩:=S8 _ q p hi hj;exact⟨u,by rw[<-hu];congr 1;omega,hp.mono hk⟩
       ·rw[AA g2]at hi;have TB:j=0:=by have:=(EF q (D4 hi)).1;have:=(DX.1 hj).1;omega
        subst TB;rw[AA omg,AA omg];obtain⟨u,hu,hp⟩:=CP i q 0 p hi hj;exact⟨u,hu,hp.mono hk⟩
    ·rename_i T EE f es hr;obtain⟨rfl,DO,hK⟩:=hl;have CR:=Ax hr;rcases h.fit.regs d _ CR with⟨_,rfl⟩|⟨loc,cur,CM,YZ,Pq,FI,PC,UT,HW,EF,CP⟩
     ·simp at DO;omega
     have EU:By+m<=cur.length:=by rw[FI];omega
     have hk:ED w Im (w.setRow loc.blk (cur.take By++news++cur.drop (By+m)).toArray) Im:=
      ⟨fun _ h=>h,fun b HN=>B6 _ _ _ _ fun e=>(h.fit.live d _ loc CR CM).2 (e▸HN)⟩
     have ZY:(CN.map (List.map L.p)).length=m:=by rw[HM];exact dE
     have hZ:=Bz es (CN.map (List.map L.p)) By (by rw[ZY];exact DO);rw[ZY]at hZ;refine⟨_,_,{ s with regs:=Bs d (.lrow T 1 f (es.take By++CN.map (List.map L.p)++es.drop (By+m))) s.regs },.p (.int .i64 m),YY loc cur T CM YZ Pq EU,h.store CR CM rfl rfl rfl (by simp[World.setRow]) (fun k hk=>B6 _ _ _ _ hk) (.inr ?_),BW.int _ _,hK⟩;refine⟨loc,_,CM,YZ,setRow_heap w loc.blk _ _ _ _ Pq,by have:=Bz cur (news) By (by rw[X4];exact EU);rw[X4]at this;rw[this];exact FI,by rw[hZ];exact PC,fun hf=>by rw[hZ];exact UT hf,HW,fun x hx=>?_,fun i q j p hi hj=>?_⟩
     ·rcases H'.1 hx with hx|hx
      ·rcases H'.1 hx with hx|hx
       ·exact EF x (UL hx)
       ·obtain⟨q,hq,rfl⟩:=FB.1 hx;rw[HM];exact DI q hq
      ·exact EF x (OR hx)
     ·have A:=CU es (CN.map (List.map L.p)) By i (by rw[ZY];exact DO);have B:=CU cur (news) By (i*1+j) (by rw[X4];exact EU);rw[ZY]at A;rw[X4]at B;rw[A]at hi;rw[B];by_cases g1:i<By
      ·rw[AB g1]at hi;have TB:j=0:=by have:=EF q (D4 hi);have:=(DX.1 hj).1;omega
       subst TB;rw[AB omg];obtain⟨u,hu,hp,IY⟩:=CP i q 0 p hi hj;exact⟨u,hu,hp.mono' hk,IY⟩
      ·rw[AA g1]at hi;by_cases g2:i<By+m
       ·rw[AB g2]at hi;rw[Eam]at hi;obtain⟨q0,dF,rfl⟩:=HF.1 hi;rw[Eam]at hj;obtain⟨p0,iA,rfl⟩:=HF.1 hj;have TB:j=0:=by have:=DI q0 (D4 dF);have:=(DX.1 iA).1;omega
        subst TB;rw[AA omg,AB omg];obtain⟨u,hu,hp⟩:=S8 _ q0 p0 dF iA;exact⟨u,by rw[<-hu];congr 1;omega,BW.mono hk hp,.inl (cA q0 (D4 dF) p0 (D4 iA))⟩
       ·rw[AA g2]at hi;have TB:j=0:=by have:=EF q (D4 hi);have:=(DX.1 hj).1;omega
        subst TB;rw[AA omg,AA omg];obtain⟨u,hu,hp,IY⟩:=CP i q 0 p hi hj;exact⟨u,hu,hp.mono' hk,IY⟩
    ·exact hl.elim
  ·exact hl.elim
 ·exact hl.elim
end
end Go.LX
namespace Go.LX
open Go Go.RowKit
variable {v:Value}{d:Nat}{es:List (List L)}{e:TypeId}{s:St}{a:Act}{K:St->Prop}
variable {P:Program} {Γ:FH} {β:ET} {w:World} {Im:Nat->Prop}
def CE.one{v:Value}{l:L}(h:CE β w Im v l)(hc:l.cellOK=true):v.oneCell'=true:=by
 cases l with
 |p x=>exact BW.one h hc
 |ptr d i j=>obtain⟨loc,_,rfl⟩:=h;rfl
 |own d By len=>rcases h with⟨loc,cap,o,_,_,_,_,rfl⟩|⟨_,_,_,rfl⟩<;>rfl
 |eptr cs=>obtain⟨b,o,_,rfl,_⟩:=h;rfl
 |fn f ds=>obtain⟨vs,rfl,_⟩:=h;rfl
 |cfn f ds=>obtain⟨vs,rfl,_⟩:=h;rfl
 |yld l=>cases h;rfl
 |tup xs=>cases hc
 |mref d=>obtain⟨loc,_,rfl⟩:=h;rfl
 |junk=>cases hc
def Kbq(h:v.oneCell'=true):v.cells = #[v]:=by cases v<;>simp_all[Value.oneCell',Value.cells]
def Yi(d:Nat)(es:List (List L)):Bool:=es.all fun e=>e.all fun l=>!l.mentions d
def J88(h:Yi d es=true){e:List L}(he:e∈es){l:L}(hl:l∈e):l.mentions d=false:=by
 have:=SQ.1 (SQ.1 h e he) l hl;simpa using this
def pW(P:Program)(d t:Nat)(s:St)(parts:List (Nat×Operand))(K:St->Prop):Prop := d<1000/\match parts with|[(0,y)]=>∃e,IW P t=some (e,1)/\(∃zs,Bu P e=some zs/\zs.length=1)/\(s.get y).cellOK=true/\(s.get y).mentions d=false/\K ((s.newReg d (.lrow e 1 false [[s.get y]])).put (some d) (.own d 0 1))|_=>False
def J01(h:DW Γ β Im s a.tmps w){t n:Nat}{parts:List (Nat×Operand)}(hn:n=parts.length)(hl:pW P d t s parts K) :
  Lb Γ a d ((Instr.buildSlice t n ⟨parts.map fun(i,x)=>(i,a.eval x)⟩).run P w) K:=by
 obtain⟨hd,hl⟩:=hl;split at hl
 ·rename_i y;obtain⟨e,HI,⟨zs,hz,XZ⟩,hc,hm,hK⟩:=hl;obtain⟨ht,IS,h0⟩:=Dw HI;obtain⟨zv,JF,_,IH,_,_⟩:=D0 hz;have gZ:zv.cells.size=1:=by rw[<-XZ,<-IH];simp
  have hy:=A2 h.fit y;have h1:=hy.one hc;have CP:=Kbq h1;subst hn;have g:=DY.alloc (w:=w) (Im:=Im) h.fit.im (.cells ⟨[a.eval y]⟩ e);have DI:w.heap.size<(w.alloc (.cells ⟨[a.eval y]⟩ e)).heap.size:=sm;have hb:=heap_alloc_new w (.cells ⟨[a.eval y]⟩ e);have r1:=h.newReg hd (r:=.lrow e 1 false [[s.get y]]) (x:=some ⟨w.heap.size,1,1⟩) g (fun loc hl=>by cases hl;exact⟨CS _,DI⟩)
   (.inr ⟨_,[a.eval y],B4,rfl,hb,rfl,CS _,fun h=>(by cases h),(by show 1<=maxLen;unfold maxLen;omega),fun q hq=>by simp at hq;subst hq;rfl,fun i q j l hi hj=>by
    cases i with
    |zero =>
     simp at hi;subst hi;cases j with
     |zero =>
      simp at hj;subst hj;exact⟨_,rfl,hy.mono (g.keeps h.fit.im) (fun x hx=>Oa (fun e'=>by rw[e',hm]at hx;cases hx)),.inl hc⟩
     |succ j=>simp at hj
    |succ i=>simp at hi⟩)
  refine⟨.slice (some ⟨w.heap.size,0,none⟩) 1 1,_,_,Im,_,_,?_,r1,(show CE _ _ _ _ (L.own d 0 1)from Or.inl ⟨_,1,0,B4,rfl,CS _,by simp,rfl⟩),hK⟩;have hr:((Array.range (1*1)).map fun x=>zv.cells[x%zv.cells.size]!) = #[zv.cells[0]!]:=by
   rw[gZ,show Array.range (1*1) = #[0]from by decide];simp
  simp only[Instr.buildSlice,WD,Sem.run_bind,run_underlying ht,Result.andThen_ok,Bk IS h0,Sem.run_ite,AA (by decide:¬1*1>2^24),Sem.run_pure,AA (by decide:¬1*1=0),JF,hr,Fc,SR,Instr.fill,CP];show(newRow e _ >>= fun(ad:Addr)=>(pure (Value.slice (some ad) 1 1):Sem Value)).run P w=_;simp[Go.newRow,run_newObj]
 ·exact hl.elim
def pX(P:Program)(d t:Nat)(s:St)(x y:Operand)(K:St->Prop):Prop:=
 d
  < 1000/\∃e b,IW P t=some (e,1)/\(∃zs,Bu P e=some zs/\zs.length=1)/\Bo P e=some b/\match s.get y with
  |.own d1 0 m=>match Am d1 s.regs with
   |some (.lrow T1 1 _ CN)=>T1=e/\CN.length=m/\0<m/\(CN.all fun q=>q.all L.cellOK)=true/\Yi d CN=true/\match s.get x with
    |.p .snil=>m*b<=140737488355328/\m<=9223372036854775807/\K ((s.newReg d (.lrow e 1 false CN)).put (some d) (.own d 0 m))
    |.own d0 0 n=>match Am d0 s.regs with
     |some (.lrow T0 1 _ es)=>T0=e/\es.length=n/\Yi d es=true/\(n+m)*b<=140737488355328/\n+m<=9223372036854775807/\K (((s.forget d0).newReg d (.lrow e 1 false (es++CN))).put (some d) (.own d 0 (n+m)))
     |_=>False
    |_=>False
   |_=>False
  |_=>False
def J4r(h:DW Γ β Im s a.tmps w){n:Nat}{fu:Bool}(hr:Am d s.regs=some (.lrow e 1 fu es))(hv:CE β w Im v (.own d 0 n))(hn:es.length=n) :
  ∃
   xs,w.ownsRow 0 e 1 v n xs/\xs.length=n/\(∀(i:Nat) (q:List L),es[i]?=some q->∃l u,q=[l]/\xs[i]?=some u/\CE β w Im u l/\(l.cellOK=true\/l=.junk)) /\
   (∀k,v.ownBlock=some k->∃loc,β d=some loc/\loc.blk=k)/\((v=.slice none 0 0/\n=0)\/∃bk cap,v=.slice (some ⟨bk,0,none⟩) n cap/\∀(j:Nat) (u:Value),xs[j]?=some u->w.cell? ⟨bk,0+j,none⟩=some u):=by
 have CR:=Ax hr;rcases h.fit.regs d _ CR with⟨hb,rfl⟩|⟨loc,cur,CM,TA,Pq,FI,DO,_,HW,EF,CP⟩
 ·rcases hv with⟨loc,cap,o,CM,_⟩|⟨_,_,SA,rfl⟩
  ·rw[CM]at hb;cases hb
  ·exact⟨[],by subst SA;exact World.ownsRow_nil _ _ _ _,by rw[SA];rfl,by simp,fun k hk=>by simp[Value.ownBlock]at hk,.inl ⟨rfl,SA⟩⟩
 ·rcases hv with⟨CO,cap,o,CF,GP,WJ,ho,rfl⟩|⟨hb,_⟩
  ·rw[CM]at CF;cases CF;rw[MF]at GP;subst GP;have pJ:o=0:=by rw[ho (.inr rfl),og]
   subst pJ;rw[XR]at FI;have PU:(cur.take n).length=n:=by rw[GF];omega
   refine⟨cur.take n,⟨by rw[XR];exact PU,.inr ⟨loc.blk,loc.tot,⟨cur⟩,rfl,EK _,Pq,WJ,HW,by simpa using FI,by simp⟩⟩,PU,fun i q hi=>?_,fun k hk=>⟨loc,CM,by simpa[Value.ownBlock]using hk⟩,.inr ⟨loc.blk,loc.tot,rfl,fun j u hu=>?_⟩⟩
   ·have hq:=EF q (D4 hi);have FU:=(DX.1 hi).1;obtain⟨l,rfl⟩:∃l,q=[l]:=by
     cases q with
     |nil=>simp at hq
     |cons l r=>cases r with
      |nil=>exact⟨l,rfl⟩
      |cons=>simp at hq
    obtain⟨u,hu,hl,hc⟩:=CP i _ 0 l hi rfl;rw[XR,Nat.add_zero]at hu;exact⟨l,u,rfl,by rw[IQ,AB omg];exact hu,hl,hc⟩
   ·rw[IQ]at hu;split at hu
    ·rw[MF,cell_of_row w loc.blk j ⟨cur⟩ e (0,0) Pq];simpa using hu
    ·cases hu
  ·rw[CM]at hb;cases hb
def J2a{w':World}{zs:List Value}{n base:Nat}(hn:es.length=n)(KP:w'.ownsRow base e 1 v n zs)(pY:Yi d es=true)(hc:∀(i:Nat) (q:List L),es[i]?=some q->∃l u,q=[l]/\zs[i]?=some u/\CE β w' Im u l/\(l.cellOK=true\/l=.junk)) :
  ∃x:Option Loc,Ci (MB β d x) w' Im d (.lrow e 1 false es)/\CE (MB β d x) w' Im v (.own d 0 n)/\(∀loc,x=some loc->v.ownBlock=some loc.blk/\loc.blk<w'.heap.size):=by
 have BZ:=KP.lt;obtain⟨hl,KP⟩:=KP;rcases KP with⟨rfl,hz⟩|⟨g,cap,cur,rfl,pG,hb,LN,WN,IS,an⟩
 ·have e1:es=[]:=KH omg;subst e1;simp only[KM]at hn;exact⟨none,.inl ⟨B4,rfl⟩,.inr ⟨B4,rfl,hn.symm,rfl⟩,fun loc h=>by cases h⟩
 ·refine⟨some ⟨g,1,cap⟩,.inr ⟨_,cur.toList,B4,rfl,by simpa using hb,by simpa using IS,(by show es.length<=cap;omega),fun h=>(by cases h),WN,fun q hq=>?_,fun i q j l hi hj=>?_⟩,.inl ⟨_,cap,0,B4,by simp,LN,by simp,rfl⟩,fun loc h=>by cases h;exact⟨rfl,(BZ g rfl).2⟩⟩
  ·obtain⟨i,hi⟩:=WE hq;obtain⟨l,u,rfl,_⟩:=hc i q hi;rfl
  ·obtain⟨l',u,rfl,hu,hr,ho⟩:=hc i q hi;cases j with
   |succ j=>simp at hj
   |zero =>
    simp at hj;subst hj;refine⟨u,?_,hr.mono ⟨fun _ h=>h,fun _ _=>rfl⟩ fun x hx=>Oa fun e=>?_,ho⟩
    ·rw[<-an,IQ]at hu;split at hu
     ·rw[XR,Nat.add_zero];exact hu
     ·cases hu
    ·have:=J88 pY (D4 hi) (KI.2 rfl);rw[e,this]at hx;cases hx
def J3h(h:DW Γ β Im s a.tmps w){t ty:Nat}{x y:Operand}(hl:pX P d t s x y K) :
  Lb Γ a d ((Builtin.append_ #[t,t] ty #[a.eval x,a.eval y]).run P w) K:=by
 obtain⟨hd,e,b,HI,⟨zs,hz,XZ⟩,hb,hl⟩:=hl;obtain⟨ht,IS,h0⟩:=Dw HI;obtain⟨zv,JF,⟨HR,FD,OU⟩,IH,aq,gn⟩:=D0 hz;have FQ:HR.size=1:=by simpa[Program.cellsOf,FD]using IS
 have FX:HR.bytes=b:=by simpa[Bo,FD]using hb
 have RB:zv.cells.size=1:=by rw[<-XZ,<-IH];simp
 have ry:=A2 h.fit y;have rx:=A2 h.fit x;split at hl
 ·rename_i d1 m UD;split at hl
  ·rename_i T1 fu CN hry;obtain⟨rfl,XX,NI,GZ,pY,hl⟩:=hl;rw[UD]at ry;obtain⟨ys,hyo,dG,ze,_,ng⟩:=J4r h hry ry XX;rcases ng with⟨_,hm⟩|⟨bk,c,ng,HY⟩
   ·omega
   have PW:∀u∈ys,u.oneCell'=true:=by
    intro u hu;obtain⟨i,hi⟩:=WE hu;have OE:=(DX.1 hi).1;have hq:CN[i]?=some CN[i]:=C' omg;obtain⟨l,u',hql,pZ,hr,_⟩:=ze i _ hq;rw[hi]at pZ;cases pZ;refine hr.one ?_;have:=SQ.1 (SQ.1 GZ _ (D4 hq)) l (by rw[hql];exact KI.2 rfl);exact this
   have src:Src P w t t T1 1 b (a.eval y) m ys:=by
    rw[ng];exact Src.cells HI FD OU FQ FX RB (by rw[dG,XR]) HY PW
   split at hl
   ·rename_i EH;obtain⟨FC,QT,hK⟩:=hl;rw[EH]at rx;have gu:a.eval x=.slice none 0 0:=by generalize a.eval x=v at rx;cases rx;rfl
    have OH:0+m<=maxLen:=by unfold maxLen;omega
    have zf:w.ownsRow w.heap.size T1 1 (a.eval x) 0 []:=by rw[gu];exact World.ownsRow_nil _ _ _ _
    obtain⟨v',w',DE,PF,Kb⟩:=src.own w.heap.size ty (a.eval x) 0 [] zf (CS _) OH (by rw[MF];exact FC);rw[MF,List.nil_append]at PF;have hg:DY w Im w' Im:=by
     refine⟨Kb.os,Kb.tape,Kb.output,Kb.size,fun k hk=>Kb.block k hk fun e=>?_,fun _ h=>h,fun _ h=>.inl h,fun b' HN=>NB (h.fit.im b' HN) Kb.size⟩;rw[gu]at e;simp[Value.ownBlock]at e
    obtain⟨x',k1,k2,k3⟩:=J2a (β:=β) (Im:=Im) (d:=d) XX PF pY fun i q hi=>by
     obtain⟨l,u,e1,e2,e3,e4⟩:=ze i q hi;exact⟨l,u,e1,e2,e3.mono' (hg.keeps h.fit.im),e4⟩
    have:=h.newReg hd hg (fun loc hl=>⟨(PF.lt _ (k3 loc hl).1).1,(k3 loc hl).2⟩) k1;exact⟨_,w',_,Im,_,_,DE,this,k2,hK⟩
   ·rename_i d0 n EH;split at hl
    ·rename_i T0 fu0 es hrx;obtain⟨rfl,cB,pb,FC,QT,hK⟩:=hl;rw[EH]at rx;obtain⟨xs,KP,PU,hxc,WQ,_⟩:=J4r h hrx rx cB;have CR:=Ax hrx;have OH:n+m<=maxLen:=by unfold maxLen;omega
     obtain⟨v',w',DE,PF,Kb⟩:=src.own 0 ty (a.eval x) n xs KP (EK _) OH FC;have hk:ED w Im w' Im:=⟨fun _ h=>h,fun b HN=>Kb.block b (h.fit.im b HN) fun e=>by
      obtain⟨loc,CM,rfl⟩:=WQ b e.symm;exact(h.fit.live d0 _ loc CR CM).2 HN⟩
     have zg:Yi d (es++CN)=true:=by
      unfold Yi at pY pb⊢;rw[List.all_append,pb,pY];rfl
     obtain⟨x',k1,k2,k3⟩:=J2a (β:=β) (Im:=Im) (d:=d) (es:=es++CN) (by rw[DC,cB,XX]) PF zg fun i q hi=>by
      by_cases BZ:i<es.length
      ·rw[NZ BZ]at hi;obtain⟨l,u,e1,e2,e3,e4⟩:=hxc i q hi;exact⟨l,u,e1,by rw[NZ omg];exact e2,e3.mono' hk,e4⟩
      ·rw[Mr omg]at hi;obtain⟨l,u,e1,e2,e3,e4⟩:=ze _ q hi;exact⟨l,u,e1,by rw[Mr omg,PU,<-cB];exact e2,e3.mono' hk,e4⟩
     have:=h.replace hd CR (w':=w') (x:=x') Kb.os Kb.tape Kb.output Kb.size (fun k IE DA=>Kb.block k IE fun e=>by
       obtain⟨loc,CM,HN⟩:=WQ k e.symm;exact DA loc CM HN.symm)
      (fun loc hl=>⟨(k3 loc hl).2,(src.blk ty _ n xs v' w' KP OH FC DE _ (k3 loc hl).1).imp id fun h'=>WQ _ h'⟩) k1
     exact⟨_,w',_,Im,_,_,DE,this,k2,hK⟩
    ·exact hl.elim
   ·exact hl.elim
  ·exact hl.elim
 ·exact hl.elim
end Go.LX
