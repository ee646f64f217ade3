/- The quiet operations, all together: the run yields what 'lq' says; one value; and only the operands are looked at. -/
import Derived.Test.YtaghbedfogiopaaGreatDoorTxA
set_option linter.all false
namespace Go.LX
open Go Go.RowKit
variable {x:Option Loc}{v:Value}(d:Nat){t kt T:TypeId}{a:Act}{es:List (List PV)}{o:Oper}{op:BinOp}{c:Bool}{β:ET}{w w':World}{Im:Nat->Prop}{cur:List Value}{sz:Nat}{tmps:Array Value}(P:Program){α:Type}
section
variable {P:Program} {β:ET} {w:World} {Im:Nat->Prop}
def Jd3(P:Program)(β:ET)(Im:Nat->Prop)(w:World)(a:Act)(o:Oper)(K:L->Prop):Prop := ∃v l,(execOp a.eval o).run P w=.ok (.value v) w/\CE β w Im v l/\K l
def C0.oper{r:Sem Value}{K:L->Prop}(h:C0 β Im w (r.run P w) K):∃v l,((do pure (Next.value (<-r))):Sem Next).run P w=.ok (.value v) w/\CE β w Im v l/\K l:=by
 obtain⟨v,l,hr,hl,hK⟩:=h;exact⟨v,l,by simp[hr],hl,hK⟩
def Je5(x y:List UInt8):((⟨⟨x⟩⟩:ByteArray)==⟨⟨y⟩⟩)=(x==y):=by
 show((⟨x⟩:Array UInt8)==⟨y⟩)=(x==y)
 simp
def O5{k x:PV}{u:Value}{d:TypeDesc}{b:Bool}(hd:(∃q,d=.int q)\/d=.string\/d=.bool)(hu:BW w Im u k)(hv:BW w Im v x)(hf:OC d k=true)(h:Lc k x=some b) :
  Instr.sameNow d u v=some b:=by
 unfold Lc at h;split at h
 ·cases hu;cases hv;rcases hd with⟨q,rfl⟩|rfl|rfl
  ·split at h
   ·rename_i hk;subst hk;cases h;simp[Instr.sameNow]
   ·cases h
  ·simp[OC]at hf
  ·simp[OC]at hf
 ·cases hu;cases hv;cases h;rcases hd with⟨q,rfl⟩|rfl|rfl
  ·simp[OC]at hf
  ·simp only[Instr.sameNow,Je5]
  ·simp[OC]at hf
 ·cases hu;cases hv;cases h;rcases hd with⟨q,rfl⟩|rfl|rfl
  ·simp[OC]at hf
  ·simp[OC]at hf
  ·simp[Instr.sameNow]
 ·cases h
def Oq{et:TypeId}(h:MG P t=some (kt,et)):P.underlying t=some (.map kt et)/\∃d,P.underlying kt=some d/\((∃q,d=.int q)\/d=.string\/d=.bool):=by
 unfold MG at h;split at h
 ·rename_i k e ht;split at h<;>first|(cases h;done)|skip
  all_goals(rename_i hk;cases h;refine⟨ht,_,hk,?_⟩)
  ·exact .inl ⟨_,rfl⟩
  ·exact .inr (.inl rfl)
  ·exact .inr (.inr rfl)
 ·cases h
def Hh{d:TypeDesc}(hd:(∃q,d=.int q)\/d=.string\/d=.bool){k:PV}{u:Value}(hu:BW w Im u k)(hf:OC d k=true) :
  ∀
   (B':List MapEntry) (es:List (PV×PV)) (i:Nat) (r:Option (Nat×PV)),B'.length=es.length->(∀(j:Nat) (e:MapEntry) (p:PV×PV),B'[j]?=some e->es[j]?=some p->BW w Im e.key p.1)->Cl k es i=some r ->
   (r=none/\Instr.findNow d u B' i=some none)\/∃j x v e,r=some (i+j,x)/\es[j]?=some (v,x)/\B'[j]?=some e/\Instr.findNow d u B' i=some (some (i+j,e.val))
 |[],es,i,r,hl,_,h=>by
  cases es with
  |nil=>simp[Cl]at h;subst h;exact .inl ⟨rfl,rfl⟩
  |cons=>simp at hl
 |e::B',es,i,r,hl,hk,h=>by
  cases es with
  |nil=>simp at hl
  |cons p es =>
  obtain⟨x,v⟩:=p;simp only[Cl]at h;have h0:=hk 0 e (x,v) rfl rfl;split at h
  ·rename_i hq;cases h;have:=O5 hd hu h0 hf hq;exact .inr ⟨0,v,x,e,rfl,rfl,rfl,by simp[Instr.findNow,this]⟩
  ·rename_i hq;have:=O5 hd hu h0 hf hq;rcases Hh hd hu hf B' es (i+1) r (by simpa using hl) (fun j e p he hp=>hk (j+1) e p (by simpa using he) (by simpa using hp)) h with⟨h1,h2⟩|⟨j,y,z,e',h1,h2,h3,h4⟩
   ·exact .inl ⟨h1,by simp[Instr.findNow,this,h2]⟩
   ·exact .inr ⟨j+1,y,z,e',by rw[h1];congr 2;omega,by simpa using h2,by simpa using h3,by simp only[Instr.findNow,this,h4];congr 3;omega⟩
  ·cases h
def Bm{d:TypeDesc}(hk:P.underlying kt=some d)(hd:(∃q,d=.int q)\/d=.string\/d=.bool)(b:Bool)(v:Value):(Instr.checkKey b 10000 kt v).run P w=.ok () w:=by
 have:∀n,(Instr.checkKey b (n+1) kt v).run P w=.ok () w:=fun n=>by
  rcases hd with⟨q,rfl⟩|rfl|rfl<;>simp[Instr.checkKey,run_underlying hk]
 exact this 9999
def D0{zs:List PV}(h:Bu P T=some zs):∃zv,(∀w,(zeroValue T).run P w=.ok zv w)/\(∃i,P.info? T=some i/\i.zero=some zv)/\zv.cells.toList.length=zs.length /\
  (∀w (Im:Nat->Prop) (i:Nat) (v:Value) (p:PV),zv.cells.toList[i]?=some v->zs[i]?=some p->BW w Im v p)/\∀p∈zs,p.scalar=true:=by
 unfold Bu at h;split at h<;>first|(cases h;done)|skip
 rename_i HR FD;split at h<;>first|(cases h;done)|skip
 rename_i zv nV;obtain⟨h1,h2⟩:=Bh h;exact⟨zv,fun w=>by simp[zeroValue,typeInfo,FD,nV],⟨HR,FD,nV⟩,h1,fun w Im i v p hv hp=>(E6 (h2 i v p hv hp)).1,Dl h⟩
def Wp{z:PV}(h:E5 P t=some z):∃zv,(zeroValue t).run P w=.ok zv w/\BW w Im zv z:=by
 unfold E5 at h;split at h<;>first|(cases h;done)|skip
 rename_i v zs hv hz;obtain⟨zv,h1,⟨HR,hi,OU⟩,h3,h4,h5⟩:=D0 hz;have e:v=zv:=by rw[hi]at hv;simp[OU]at hv;exact hv.symm
 subst e;refine⟨v,h1 w,?_⟩;split at h
 ·rename_i OD;cases h;cases v<;>simp[Jh9]at OD;exact BW.agg _ _ h3 h5 (fun i v p hv hp=>h4 w Im i v p hv hp)
 ·rename_i OD;split at h<;>first|(cases h;done)|skip
  cases h;have e:v.cells = #[v]:=by cases v<;>first|rfl|(exact absurd rfl OD)
  exact h4 w Im 0 v z (by rw[e];rfl) rfl
def Jbi{s:St}(hf:Fit β w Im s a.tmps){x:L}{es:List (PV×PV)}(hx:CE β w Im v x)(h:Tz s.regs x=some es) :
  (v=.map none/\es=[])\/∃r cl B',v=.map (some r)/\w.heap[r]?=some (.map ⟨B'⟩ cl)/\PA w Im B' cl es:=by
 unfold Tz at h;split at h
 ·cases hx;cases h;exact .inl ⟨rfl,rfl⟩
 ·cases h;cases hx with
  |mp r cl B' es hr hw hl hn hb hk hv=>exact .inr ⟨r,cl,B',rfl,hw,hl,hn,hb,fun i e p he hp=>⟨hk i e p he hp,hv i e p he hp⟩⟩
 ·obtain⟨loc,CM,rfl⟩:=hx;split at h
  ·rename_i hr;cases h;obtain⟨CO,CF,B',cl,ho,hM⟩:=hf.regs _ _ (Ax hr);rw[CM]at CF;cases CF;exact .inr ⟨_,cl,B',rfl,ho,hM⟩
  ·cases h
 ·cases h
def ab{u:Value}{p q:PV}(h1:BW w Im v p)(h2:BW w Im u q):CE β w Im (.tuple #[v,u]) (.tup [p,q]):=⟨[v,u],rfl,rfl,fun i y z hi hz=>by
 match i,hi,hz with
 |0,hi,hz=>simp at hi hz;subst hi;subst hz;exact h1
 |1,hi,hz=>simp at hi hz;subst hi;subst hz;exact h2
 |i+2,hi,hz=>simp at hi⟩
def Ym{s:St}(hf:Fit β w Im s a.tmps){u:Value}{x ix l:L}{ok:Bool}(hx:CE β w Im u x)(hi:CE β w Im v ix)(h:Yc P s.regs t x ix ok l):∃r,(Instr.lookup t u v ok).run P w=.ok r w/\CE β w Im r l:=by
 unfold Yc at h;split at h
 ·rename_i kt et es k hT hm;obtain⟨zM,r,hr,z,hz,rfl⟩:=h;obtain⟨ht,d,hk,hd⟩:=Oq hT;obtain⟨zv,vn,vo⟩:=Wp (w:=w) (Im:=Im) hz;have zN:OC d k=true:=by
   unfold De at zM;rw[hk]at zM;exact zM
  have ae:∀(B':List MapEntry),B'.length=es.length->(∀(j:Nat) (e:MapEntry) (p:PV×PV),B'[j]?=some e->es[j]?=some p->BW w Im e.key p.1/\BW w Im e.val p.2) ->
    ∃x y,(Instr.findKey kt v B').run P w=.ok x w/\((x=none/\r=none)\/∃i e p,x=some (i,e)/\r=some (i,p)/\BW w Im e p)/\y=x:=by
   intro B' hl Xb;rcases Hh (w:=w) (Im:=Im) hd hi zN B' es 0 r hl (fun j e p he hp=>(Xb j e p he hp).1) hr with⟨h1,h2⟩|⟨j,x,kv,e,h1,h2,h3,h4⟩
   ·exact⟨none,_,by simp[Instr.findKey,run_underlying hk,h2],.inl ⟨rfl,h1⟩,rfl⟩
   ·exact⟨some (0+j,e.val),_,by simp[Instr.findKey,run_underlying hk,h4],.inr ⟨0+j,e.val,x,rfl,h1,(Xb j e (kv,x) h3 h2).2⟩,rfl⟩
  rcases Jbi hf hx hm with⟨rfl,rfl⟩|⟨r0,cl,B',rfl,hw,hM⟩
  ·simp[Cl]at hr;subst hr;cases ok
   ·exact⟨zv,by simp[Instr.lookup,run_underlying ht,Bm hk hd,Instr.findKey,run_underlying hk,Instr.findNow,vn],vo⟩
   ·exact⟨.tuple #[zv,.bool false],by simp[Instr.lookup,run_underlying ht,Bm hk hd,Instr.findKey,run_underlying hk,Instr.findNow,vn],ab vo (.bool false)⟩
  ·obtain⟨x,_,Ng,MA,_⟩:=ae B' hM.1 hM.2.2.2;have WL:(getObj r0).run P w=.ok (.map ⟨B'⟩ cl) w:=by simp[getObj,Sem.run,hw]
   rcases MA with⟨rfl,rfl⟩|⟨i,e,p,rfl,rfl,hp⟩
   ·cases ok
    ·exact⟨zv,by simp[Instr.lookup,run_underlying ht,WL,Bm hk hd,Ng,vn],vo⟩
    ·exact⟨.tuple #[zv,.bool false],by simp[Instr.lookup,run_underlying ht,WL,Bm hk hd,Ng,vn],ab vo (.bool false)⟩
   ·cases ok
    ·exact⟨e,by simp[Instr.lookup,run_underlying ht,WL,Bm hk hd,Ng],hp⟩
    ·exact⟨.tuple #[e,.bool true],by simp[Instr.lookup,run_underlying ht,WL,Bm hk hd,Ng],ab hp (.bool true)⟩
 ·exact h.elim
def Z9{l:L}(h:CE β w Im v l):CE β w Im (.iface t v) (.p (M8 t l)):=by
 unfold M8;split
 ·cases h;exact BW.ifi _ _ _
 ·exact BW.ifc _ _
def Jhw{s:St}(hf:Fit β w Im s a.tmps){l:L}(h:XS P s.regs s.get o.op l):∃v,(execOp a.eval o).run P w=.ok (.value v) w/\CE β w Im v l:=by
 unfold execOp;unfold XS at h;split at h
 ·rename_i t x ho;rw[ho];obtain⟨⟨d,hd,hn⟩,rfl⟩:=h;refine⟨.iface t (a.eval x),?_,Z9 (A2 hf x)⟩;cases d<;>first|(exact absurd rfl (hn _))|simp[Instr.makeInterface,run_underlying hd]
 ·rename_i t x ix ok ho;rw[ho];obtain⟨r,h1,h2⟩:=Ym hf (A2 hf x) (A2 hf ix) h;exact⟨r,by simp[h1],h2⟩
 ·rename_i args ts ho;rw[ho];obtain⟨la⟩:=args;obtain⟨lt⟩:=ts;simp only at h;split at h<;>first|exact h.elim|skip
  rename_i x t;obtain⟨⟨e,ht⟩,h⟩:=h;have hx:=A2 hf x;split at h
  ·rename_i hg;subst h;rw[hg]at hx;have hv:a.eval x=.slice none 0 0:=by generalize a.eval x=v at hx;cases hx;rfl
   exact⟨.int .i64 0,by simp[resolve,invoke,builtin,Builtin.cap_,hv,run_underlying ht,goInt],BW.int _ _⟩
  ·rename_i d By n hg;rw[hg]at hx;split at h
   ·rename_i T sz es hr;subst h;have JE:=hf.regs d _ (Ax hr);rcases hx with⟨loc,cap,o,CM,GP,WJ,nX,hv⟩|⟨CM,rfl,rfl,hv⟩
    ·rcases JE with⟨hn,_⟩|⟨CO,cur,CF,DI,hb,FI,DO,UT,_⟩
     ·rw[CM]at hn;cases hn
     ·rw[CM]at CF;cases CF;have UT:=UT rfl;have e1:es.length-By=cap:=omg;rw[e1];exact⟨.int .i64 cap,by simp[resolve,invoke,builtin,Builtin.cap_,hv,run_underlying ht,goInt],BW.int _ _⟩
    ·rcases JE with⟨_,rfl⟩|⟨CO,cur,CF,_⟩
     ·exact⟨.int .i64 0,by simp[resolve,invoke,builtin,Builtin.cap_,hv,run_underlying ht,goInt],BW.int _ _⟩
     ·rw[CM]at CF;cases CF
   ·exact h.elim
  ·exact h.elim
 ·rename_i args ts ho;rw[ho];obtain⟨la⟩:=args;simp only at h;split at h<;>first|exact h.elim|skip
  rename_i x;have hx:=A2 hf x;split at h
  ·rename_i hg;subst h;rw[hg]at hx;have hv:a.eval x=.slice none 0 0:=by generalize a.eval x=v at hx;cases hx;rfl
   exact⟨.pointer none,by
    have e:∀ts ty,(Builtin.unsafeSliceData_ ts ty #[.slice none 0 0]).run P w=.ok (.pointer none) w:=fun _ _=>rfl
    simp[resolve,invoke,builtin,hv,e],BW.nptr⟩
  ·rename_i d By n hg;obtain⟨h0,rfl⟩:=h;rw[hg]at hx;rcases hx with⟨loc,cap,o,CM,GP,WJ,nX,hv⟩|⟨CM,rfl,rfl,hv⟩
   ·have hc:cap≠0:=omg;have e:∀ts ty,(Builtin.unsafeSliceData_ ts ty #[.slice (some ⟨loc.blk,o,none⟩) n cap]).run P w=.ok (.pointer (some ⟨loc.blk,o,none⟩)) w:=fun ts ty=>by
     show(if cap≠0 then pure (.pointer (some ⟨loc.blk,o,none⟩))else _:Sem Value).run P w=_;rw[AB hc];rfl
    refine⟨.pointer (some ⟨loc.blk,o,none⟩),by simp[resolve,invoke,builtin,hv,e],loc,CM,?_⟩;rw[nX (.inl omg),Nat.add_zero]
   ·omega
  ·exact h.elim
 ·rename_i args ts ho;rw[ho];obtain⟨la⟩:=args;obtain⟨lt⟩:=ts;simp only at h;split at h<;>first|exact h.elim|skip
  rename_i x y t ts;obtain⟨hg,⟨k,VP⟩,rfl⟩:=h;have hx:=A2 hf x;have hy:=A2 hf y;rw[hg]at hx;rw[VP]at hy;have hv:a.eval x=.pointer none:=by generalize a.eval x=v at hx;cases hx;rfl
  have UB:a.eval y=.int k 0:=by generalize a.eval y=v at hy;cases hy;rfl
  refine⟨.string .empty,?_,BW.str []⟩;have e:∀ty,(Builtin.unsafeString_ ⟨t::ts⟩ ty #[.pointer none,.int k 0]).run P w=.ok (.string .empty) w:=fun ty=>rfl
  simp[resolve,invoke,builtin,hv,UB,e]
 ·exact h.elim
def X5{s:St}(hf:Fit β w Im s a.tmps){K:L->Prop}(h:lq P s.regs s.get o.op K):Jd3 P β Im w a o K:=by
 unfold Jd3;unfold execOp;unfold lq at h;split at h
 ·rename_i x ho;rw[ho];exact⟨_,_,rfl,A2 hf x,h⟩
 ·rename_i x ho;rw[ho];exact⟨_,_,rfl,A2 hf x,h⟩
 ·rename_i c x y ho;rw[ho];have hc:=A2 hf c;split at h
  ·rename_i t hg;rw[hg]at hc;cases hv:a.eval c<;>rw[hv]at hc<;>cases hc;cases t
   ·exact⟨_,_,by simp[hv,asBool],A2 hf y,h.2 rfl⟩
   ·exact⟨_,_,by simp[hv,asBool],A2 hf x,h.1 rfl⟩
  ·exact h.elim
 ·rename_i op t x y yt ho;rw[ho];exact(Jah x y (A2 hf x) (A2 hf y) h).oper
 ·rename_i op t x ho;rw[ho];exact(Jf0 (A2 hf x) h).oper
 ·rename_i src dst x ho;rw[ho];exact(Jl (A2 hf x) h).oper
 ·rename_i x ho;rw[ho];have hx:=A2 hf x;split at h
  ·rename_i d i j hg;rw[hg]at hx;have JP:=hx;obtain⟨loc,CM,hv⟩:=JP;exact⟨a.eval x,_,by simp[hv],hx,h⟩
  ·rename_i cs hg;rw[hg]at hx;have JP:=hx;obtain⟨b,o',hb,hv,_⟩:=JP;exact⟨a.eval x,_,by simp[hv],hx,h⟩
  ·rename_i f ds hg;rw[hg]at hx;have JP:=hx;obtain⟨vs,hv,_⟩:=JP;exact⟨a.eval x,_,by simp[hv],hx,h⟩
  ·exact h.elim
 ·rename_i t x ho;rw[ho];exact(Jk hf (A2 hf x) h).oper
 ·rename_i t x f ho;rw[ho];exact(Nm (A2 hf x) h).oper
 ·rename_i t x f ho;rw[ho];exact(U1 (A2 hf x) h).oper
 ·rename_i t x ix ho;rw[ho];exact(Nl hf (A2 hf x) (A2 hf ix) h).oper
 ·rename_i t x ix ho;rw[ho];exact(V0 (A2 hf x) (A2 hf ix) h).oper
 ·rename_i t x lo hi mx ho;rw[ho];exact(V5 hf h).oper
 ·rename_i x i ho;rw[ho];have hx:=A2 hf x;split at h
  ·rename_i xs hg;obtain⟨c,hc,hK⟩:=h;rw[hg]at hx;obtain⟨vs,hv,hl,hp⟩:=hx;obtain⟨v,hvi⟩:=BQ hl hc;exact⟨v,.p c,by simp[Instr.extract,hv,hvi],hp i v c hvi hc,hK⟩
  ·exact h.elim
 ·rename_i t parts ho;rw[ho];have:=Up (P:=P) (β:=β) (w:=w) (Im:=Im) (t:=t) (parts:=parts.toList.map fun(i,x)=>(i,a.eval x)) (ls:=parts.toList.map fun(i,x)=>(i,s.get x)) (K:=K) sm (fun i u x hu hx=>by
   rw[Eam]at hu hx;obtain⟨q,hq,rfl⟩:=HF.1 hu;obtain⟨q',FJ,rfl⟩:=HF.1 hx;rw[hq]at FJ;cases FJ;exact⟨rfl,A2 hf _⟩) h
  have e:(parts.map fun(i,x)=>(i,a.eval x))=⟨parts.toList.map fun(i,x)=>(i,a.eval x)⟩:=by
   rw[<-SP];simp
  simp only[e];exact this.oper
 ·rename_i f first LL ho
  rw[ho];obtain⟨rfl,h⟩:=h;unfold aT at h;split at h
  ·rename_i ps F';have F':=J8j F';obtain⟨c,hc,b9⟩:∃c,LL.toList=[c]/\s.get c=.eptr ps:=by
    cases hl:LL.toList with
    |nil=>rw[hl]at F';cases F'
    |cons c l =>
     rw[hl]at F';simp only[Fc,gS,List.map_eq_nil_iff]at F';exact⟨c,by rw[F'.2],F'.1⟩
   have hr:=A2 hf c;rw[b9]at hr;obtain⟨b,o,hb,hv,f',FI,hp⟩:=hr;refine⟨.func (.func f) #[] #[a.eval c],.p (.clo f ps),?_,?_,h⟩
   ·have e:LL = #[c]:=by rw[<-SP,hc]
    simp[Instr.makeFunc,e]
   ·rw[hv];exact BW.clo f b o ps hb f' (fun p IA=>by obtain⟨j,hj⟩:=WE IA;exact(hp j p hj).2) FI fun j p hj=>(hp j p hj).1
  obtain⟨ds,oy,hK⟩:=h;have IS:=Ow oy;refine⟨.func (.func f) #[] ⟨LL.toList.map a.eval⟩,.fn f ds,?_,⟨LL.toList.map a.eval,rfl,?_,fun i x d hi hd=>?_⟩,hK⟩
  ·have e:LL.map a.eval=⟨LL.toList.map a.eval⟩:=by rw[<-SP];simp
   simp[Instr.makeFunc,e]
  ·have:=congrArg List.length IS;simpa using this
  ·rw[Eam]at hi;obtain⟨c,hc,rfl⟩:=HF.1 hi;have h1:(LL.toList.map s.get)[i]?=some (s.get c):=by rw[Eam,hc];rfl
   rw[IS,Eam,hd]at h1;simp at h1;have hr:=A2 hf c;rw[<-h1]at hr;obtain⟨loc,CM,hv⟩:=hr;exact⟨loc,CM,by simpa using hv⟩
 ·rename_i args ts ho;rw[ho];obtain⟨la⟩:=args;obtain⟨lt⟩:=ts;simp only at h;split at h<;>first|exact h.elim|skip
  rename_i x t;obtain⟨v,l,hr,hl,pB⟩:=Jb9 (P:=P) (ty:=o.type) (A2 hf x) h;exact⟨v,l,by simp[resolve,invoke,builtin,hr],hl,pB⟩
 ·rename_i args ts ho;rw[ho];obtain⟨la⟩:=args;obtain⟨v,l,hr,hl,pB⟩:=K6 (P:=P) (β:=β) (w:=w) (Im:=Im) (b:=true) (ts:=ts) (t:=o.type) (vs:=la.map a.eval) sm (fun i u x hu hx=>by
   rw[Eam]at hu hx;obtain⟨q,hq,rfl⟩:=HF.1 hu;obtain⟨q',FJ,rfl⟩:=HF.1 hx;simp at FJ;rw[hq]at FJ;cases FJ;exact A2 hf _) h
  exact⟨v,l,by simp[resolve,invoke,builtin];simp at hr;simp[hr],hl,pB⟩
 ·rename_i args ts ho;rw[ho];obtain⟨la⟩:=args;obtain⟨v,l,hr,hl,pB⟩:=K6 (P:=P) (β:=β) (w:=w) (Im:=Im) (b:=false) (ts:=ts) (t:=o.type) (vs:=la.map a.eval) sm (fun i u x hu hx=>by
   rw[Eam]at hu hx;obtain⟨q,hq,rfl⟩:=HF.1 hu;obtain⟨q',FJ,rfl⟩:=HF.1 hx;simp at FJ;rw[hq]at FJ;cases FJ;exact A2 hf _) h
  exact⟨v,l,by simp[resolve,invoke,builtin];simp at hr;simp[hr],hl,pB⟩
 ·obtain⟨l,h1,hK⟩:=h;obtain⟨v,h2,h3⟩:=Jhw hf h1;exact⟨v,l,by unfold execOp at h2;exact h2,h3,hK⟩
def Jcn{k k':IntKind}{a b:Int}{K:L->Prop}(h:FP op k a k' b K):∃l,FP op k a k' b (fun m=>m=l)/\K l:=by
 cases op<;>simp only[FP]at h⊢
 case quo=>exact⟨_,⟨h.1,h.2.1,rfl⟩,h.2.2⟩
 case rem=>exact⟨_,⟨h.1,h.2.1,rfl⟩,h.2.2⟩
 all_goals exact⟨_,⟨h.1,rfl⟩,h.2⟩
def Jbg{a b:List UInt8}{K:L->Prop}(h:LK op a b K):∃l,LK op a b (fun m=>m=l)/\K l:=by
 cases op<;>simp only[LK]at h⊢
 case add=>exact⟨_,⟨h.1,rfl⟩,h.2⟩
 all_goals first|exact h.elim|exact⟨_,rfl,h⟩
def Jax{x y:L}{K:L->Prop}(h:HX P op t c x y K):∃l,HX P op t c x y (fun m=>m=l)/\K l:=by
 unfold HX at h⊢;split at h
 ·exact Jcn h
 ·exact Jbg h
 ·obtain⟨ht,h⟩:=h;cases op<;>simp only at h⊢<;>first|exact h.elim|exact⟨_,⟨ht,rfl⟩,h⟩
 ·obtain⟨ts,XU,r,hr,h⟩:=h;cases op<;>simp only at h⊢<;>first|exact h.elim|exact⟨_,⟨ts,XU,r,hr,rfl⟩,h⟩
 ·unfold Db at h⊢;split at h<;>first|exact h.elim|exact⟨_,rfl,h⟩
def Jis{regs:List (Nat×DG)}{ρ:Operand->L}{op:Op}{K:L->Prop}(h:lq P regs ρ op K):∃l,lq P regs ρ op (fun m=>m=l)/\K l:=by
 unfold lq at h⊢;split at h
 ·exact⟨_,rfl,h⟩
 ·exact⟨_,rfl,h⟩
 ·split at h
  ·rename_i t _;cases t
   ·exact⟨_,⟨(fun h=>by cases h),fun _=>rfl⟩,h.2 rfl⟩
   ·exact⟨_,⟨fun _=>rfl,(fun h=>by cases h)⟩,h.1 rfl⟩
  ·exact h.elim
 ·exact Jax h
 ·simp only[cr]at h⊢;split at h
  ·exact⟨_,rfl,h⟩
  ·exact⟨_,rfl,h⟩
  ·exact h.elim
 ·simp only[J1]at h⊢;split at h
  ·exact⟨_,⟨h.1,rfl⟩,h.2⟩
  ·exact⟨_,⟨h.1,h.2.1,rfl⟩,h.2.2⟩
  ·exact⟨_,⟨h.1,h.2.1,rfl⟩,h.2.2⟩
  ·obtain⟨h1,bs,h2,h3⟩:=h;exact⟨_,⟨h1,bs,h2,rfl⟩,h3⟩
  ·exact h.elim
 ·split at h
  ·exact⟨_,rfl,h⟩
  ·exact⟨_,rfl,h⟩
  ·exact⟨_,rfl,h⟩
  ·exact h.elim
 ·simp only[Jc]at h⊢;split at h
  ·obtain⟨c,hc,h⟩:=h;exact⟨_,⟨c,hc,rfl⟩,h⟩
  ·exact⟨_,⟨h.1,h.2.1,rfl⟩,h.2.2⟩
  ·split at h
   ·obtain⟨h0,c,hc,h⟩:=h;exact⟨_,⟨h0,c,hc,rfl⟩,h⟩
   ·obtain⟨e,he,c,hc,h⟩:=h;exact⟨_,⟨e,he,c,hc,rfl⟩,h⟩
   ·obtain⟨e,he,c,hc,h⟩:=h;exact⟨_,⟨e,he,c,hc,rfl⟩,h⟩
   ·exact h.elim
   ·exact h.elim
  ·split at h
   ·obtain⟨h0,h1,h2,ps,F',h⟩:=h;exact⟨_,⟨h0,h1,h2,ps,F',rfl⟩,h⟩
   ·obtain⟨e,he,h1,h2,h⟩:=h;exact⟨_,⟨e,he,h1,h2,rfl⟩,h⟩
   ·obtain⟨e,he,h1,h2,ps,h3,h⟩:=h;exact⟨_,⟨e,he,h1,h2,ps,h3,rfl⟩,h⟩
   ·exact h.elim
   ·exact h.elim
  ·exact h.elim
 ·simp only[D2]at h⊢;split at h
  ·exact⟨_,⟨h.1,rfl⟩,h.2⟩
  ·exact⟨_,rfl,h⟩
  ·exact h.elim
 ·simp only[Q5]at h⊢;split at h
  ·split at h
   ·exact⟨_,⟨h.1,rfl⟩,h.2⟩
   ·obtain⟨h0,c,hc,h⟩:=h;exact⟨_,⟨h0,c,hc,rfl⟩,h⟩
   ·exact h.elim
  ·exact h.elim
 ·simp only[Dg]at h⊢;split at h
  ·split at h
   ·obtain⟨h0,e,he,hl,h⟩:=h;exact⟨_,⟨h0,e,he,hl,rfl⟩,h⟩
   ·exact h.elim
  ·split at h
   ·exact⟨_,⟨h.1,h.2.1,h.2.2.1,rfl⟩,h.2.2.2⟩
   ·exact⟨_,⟨h.1,h.2.1,h.2.2.1,rfl⟩,h.2.2.2⟩
   ·exact h.elim
  ·split at h
   ·exact⟨_,⟨h.1,h.2.1,rfl⟩,h.2.2⟩
   ·exact h.elim
  ·split at h
   ·exact⟨_,⟨h.1,h.2.1,h.2.2.1,rfl⟩,h.2.2.2⟩
   ·exact h.elim
  ·exact h.elim
 ·simp only[Ix]at h⊢;split at h
  ·obtain⟨h0,c,hc,h⟩:=h;exact⟨_,⟨h0,c,hc,rfl⟩,h⟩
  ·obtain⟨h0,h1,h2,h3,c,hc,h⟩:=h;exact⟨_,⟨h0,h1,h2,h3,c,hc,rfl⟩,h⟩
  ·exact h.elim
 ·simp only[G2]at h⊢;obtain⟨hm,h⟩:=h;split at h
  ·obtain⟨l,hh,h1,h2,h3,h4,h5,h⟩:=h;exact⟨_,⟨hm,l,hh,h1,h2,h3,h4,h5,rfl⟩,h⟩
  ·obtain⟨hp,ha,l,hh,h1,h2,h3,h4,h5,h⟩:=h;exact⟨_,⟨hm,hp,ha,l,hh,h1,h2,h3,h4,h5,rfl⟩,h⟩
  ·obtain⟨hp,l,hh,h1,h2,h3,h4,h⟩:=h;exact⟨_,⟨hm,hp,l,hh,h1,h2,h3,h4,rfl⟩,h⟩
  ·obtain⟨hp,ha,l,hh,h1,h2,h3,h4,h5,h⟩:=h;exact⟨_,⟨hm,hp,ha,l,hh,h1,h2,h3,h4,h5,rfl⟩,h⟩
  ·exact h.elim
 ·split at h
  ·obtain⟨c,hc,h⟩:=h;exact⟨_,⟨c,hc,rfl⟩,h⟩
  ·exact h.elim
 ·exact J5h h
 ·obtain⟨h0,h⟩:=h;obtain⟨l,h1,h2⟩:=J8v h;exact⟨l,⟨h0,h1⟩,h2⟩
 ·split at h
  ·simp only[UQ]at h⊢;split at h<;>first|exact h.elim|exact⟨_,rfl,h⟩
  ·exact h.elim
 ·simp only[Fj]at h⊢;split at h
  ·simp only[if_true]at h⊢;exact⟨_,rfl,h⟩
  ·exact h.elim
 ·simp only[Fj]at h⊢;split at h
  ·simp only[VM,if_false]at h⊢;exact⟨_,rfl,h⟩
  ·exact h.elim
 ·obtain⟨l,h1,h⟩:=h;exact⟨l,⟨l,h1,rfl⟩,h⟩
def Jg9{k k':IntKind}{a b:Int}{K K':L->Prop}(hK:∀l,K l->K' l)(h:FP op k a k' b K):FP op k a k' b K':=by
 cases op<;>simp only[FP]at h⊢
 case quo=>exact⟨h.1,h.2.1,hK _ h.2.2⟩
 case rem=>exact⟨h.1,h.2.1,hK _ h.2.2⟩
 all_goals exact⟨h.1,hK _ h.2⟩
def Jfz{a b:List UInt8}{K K':L->Prop}(hK:∀l,K l->K' l)(h:LK op a b K):LK op a b K':=by
 cases op<;>simp only[LK]at h⊢
 case add=>exact⟨h.1,hK _ h.2⟩
 all_goals first|exact h.elim|exact hK _ h
def Jg2{x y:L}{K K':L->Prop}(hK:∀l,K l->K' l)(h:HX P op t c x y K):HX P op t c x y K':=by
 unfold HX at h⊢;split at h
 ·exact Jg9 hK h
 ·exact Jfz hK h
 ·obtain⟨ht,h⟩:=h;cases op<;>simp only at h⊢<;>first|exact h.elim|exact⟨ht,hK _ h⟩
 ·obtain⟨ts,XU,r,hr,h⟩:=h;cases op<;>simp only at h⊢<;>first|exact h.elim|exact⟨ts,XU,r,hr,hK _ h⟩
 ·unfold Db at h⊢;split at h<;>first|exact h.elim|exact hK _ h
def Jpx{regs:List (Nat×DG)}{ρ:Operand->L}{op:Op}{K K':L->Prop}(hK:∀l,K l->K' l)(h:lq P regs ρ op K):lq P regs ρ op K':=by
 unfold lq at h⊢;split at h
 ·exact hK _ h
 ·exact hK _ h
 ·split at h
  ·exact⟨fun t=>hK _ (h.1 t),fun t=>hK _ (h.2 t)⟩
  ·exact h.elim
 ·exact Jg2 hK h
 ·simp only[cr]at h⊢;split at h
  ·exact hK _ h
  ·exact hK _ h
  ·exact h.elim
 ·simp only[J1]at h⊢;split at h
  ·exact⟨h.1,hK _ h.2⟩
  ·exact⟨h.1,h.2.1,hK _ h.2.2⟩
  ·exact⟨h.1,h.2.1,hK _ h.2.2⟩
  ·obtain⟨h1,bs,h2,h3⟩:=h;exact⟨h1,bs,h2,hK _ h3⟩
  ·exact h.elim
 ·split at h
  ·exact hK _ h
  ·exact hK _ h
  ·exact hK _ h
  ·exact h.elim
 ·simp only[Jc]at h⊢;split at h
  ·obtain⟨c,hc,h⟩:=h;exact⟨c,hc,hK _ h⟩
  ·exact⟨h.1,h.2.1,hK _ h.2.2⟩
  ·split at h
   ·obtain⟨h0,c,hc,h⟩:=h;exact⟨h0,c,hc,hK _ h⟩
   ·obtain⟨e,he,c,hc,h⟩:=h;exact⟨e,he,c,hc,hK _ h⟩
   ·obtain⟨e,he,c,hc,h⟩:=h;exact⟨e,he,c,hc,hK _ h⟩
   ·exact h.elim
   ·exact h.elim
  ·split at h
   ·obtain⟨h0,h1,h2,ps,F',h⟩:=h;exact⟨h0,h1,h2,ps,F',hK _ h⟩
   ·obtain⟨e,he,h1,h2,h⟩:=h;exact⟨e,he,h1,h2,hK _ h⟩
   ·obtain⟨e,he,h1,h2,ps,h3,h⟩:=h;exact⟨e,he,h1,h2,ps,h3,hK _ h⟩
   ·exact h.elim
   ·exact h.elim
  ·exact h.elim
 ·simp only[D2]at h⊢;split at h
  ·exact⟨h.1,hK _ h.2⟩
  ·exact hK _ h
  ·exact h.elim
 ·simp only[Q5]at h⊢;split at h
  ·split at h
   ·exact⟨h.1,hK _ h.2⟩
   ·obtain⟨h0,c,hc,h⟩:=h;exact⟨h0,c,hc,hK _ h⟩
   ·exact h.elim
  ·exact h.elim
 ·simp only[Dg]at h⊢;split at h
  ·split at h
   ·obtain⟨h0,e,he,hl,h⟩:=h;exact⟨h0,e,he,hl,hK _ h⟩
   ·exact h.elim
  ·split at h
   ·exact⟨h.1,h.2.1,h.2.2.1,hK _ h.2.2.2⟩
   ·exact⟨h.1,h.2.1,h.2.2.1,hK _ h.2.2.2⟩
   ·exact h.elim
  ·split at h
   ·exact⟨h.1,h.2.1,hK _ h.2.2⟩
   ·exact h.elim
  ·split at h
   ·exact⟨h.1,h.2.1,h.2.2.1,hK _ h.2.2.2⟩
   ·exact h.elim
  ·exact h.elim
 ·simp only[Ix]at h⊢;split at h
  ·obtain⟨h0,c,hc,h⟩:=h;exact⟨h0,c,hc,hK _ h⟩
  ·obtain⟨h0,h1,h2,h3,c,hc,h⟩:=h;exact⟨h0,h1,h2,h3,c,hc,hK _ h⟩
  ·exact h.elim
 ·simp only[G2]at h⊢;obtain⟨hm,h⟩:=h;split at h
  ·obtain⟨l,hh,h1,h2,h3,h4,h5,h⟩:=h;exact⟨hm,l,hh,h1,h2,h3,h4,h5,hK _ h⟩
  ·obtain⟨hp,ha,l,hh,h1,h2,h3,h4,h5,h⟩:=h;exact⟨hm,hp,ha,l,hh,h1,h2,h3,h4,h5,hK _ h⟩
  ·obtain⟨hp,l,hh,h1,h2,h3,h4,h⟩:=h;exact⟨hm,hp,l,hh,h1,h2,h3,h4,hK _ h⟩
  ·obtain⟨hp,ha,l,hh,h1,h2,h3,h4,h5,h⟩:=h;exact⟨hm,hp,ha,l,hh,h1,h2,h3,h4,h5,hK _ h⟩
  ·exact h.elim
 ·split at h
  ·obtain⟨c,hc,h⟩:=h;exact⟨c,hc,hK _ h⟩
  ·exact h.elim
 ·exact J99 (fun c h=>hK _ h) h
 ·obtain⟨h0,h⟩:=h;exact⟨h0,J9s hK h⟩
 ·split at h
  ·simp only[UQ]at h⊢;split at h<;>first|exact h.elim|exact hK _ h
  ·exact h.elim
 ·simp only[Fj]at h⊢;split at h
  ·simp only[if_true]at h⊢;exact hK _ h
  ·exact h.elim
 ·simp only[Fj]at h⊢;split at h
  ·simp only[VM,if_false]at h⊢;exact hK _ h
  ·exact h.elim
 ·obtain⟨l,h1,h⟩:=h;exact⟨l,h1,hK _ h⟩
def Jfx{regs:List (Nat×DG)}{ρ ah:Operand->L}{op:Op}{l:L}(FF:∀x∈op.operands.toList,ah x=ρ x)(h1:XS P regs ρ op l):XS P regs ah op l:=by
 unfold XS at h1⊢;split at h1
 ·rename_i t x;rw[FF x (by simp[Op.operands])];exact h1
 ·rename_i t x ix ok;rw[FF x (by simp[Op.operands]),FF ix (by simp[Op.operands])];exact h1
 ·rename_i args ts;split at h1<;>first|exact h1.elim|skip
  rename_i x t hx ht;rw[FF x (by
        simp[Op.operands,Call.operands];have:x∈args.toList:=by rw[hx];exact KI.2 rfl
        simpa using this)]
  exact h1
 ·rename_i args ts;split at h1<;>first|exact h1.elim|skip
  rename_i x hx;rw[FF x (by
        simp[Op.operands,Call.operands];have:x∈args.toList:=by rw[hx];exact KI.2 rfl
        simpa using this)]
  exact h1
 ·rename_i args ts;split at h1<;>first|exact h1.elim|skip
  rename_i x y t ts' hx ht;rw[FF x (by
        simp[Op.operands,Call.operands];have:x∈args.toList:=by rw[hx];simp
        simpa using this),FF y (by
                      simp[Op.operands,Call.operands];have:y∈args.toList:=by rw[hx];simp
                      simpa using this)]
  exact h1
 ·exact h1.elim
def vq{regs:List (Nat×DG)}{ρ ah:Operand->L}{op:Op}{K:L->Prop}(FF:∀x∈op.operands.toList,ah x=ρ x)(h:lq P regs ρ op K):lq P regs ah op K:=by
 unfold lq at h⊢;split at h
 case h_1 x=>rw[FF x (by simp[Op.operands])];exact h
 case h_2 x=>rw[FF x (by simp[Op.operands])];exact h
 case h_3 c x y=>rw[FF c (by simp[Op.operands]),FF x (by simp[Op.operands]),FF y (by simp[Op.operands])];exact h
 case h_4=>rename_i x y _;rw[FF x (by simp[Op.operands]),FF y (by simp[Op.operands])];exact h
 case h_5=>rename_i x;rw[FF x (by simp[Op.operands])];exact h
 case h_6=>rename_i x;rw[FF x (by simp[Op.operands])];exact h
 case h_7 x=>rw[FF x (by simp[Op.operands])];exact h
 case h_8=>rename_i x;rw[FF x (by simp[Op.operands])];exact h
 case h_9=>rename_i x f;rw[FF x (by simp[Op.operands])];exact h
 case h_10=>rename_i x f;rw[FF x (by simp[Op.operands])];exact h
 case h_11=>rename_i x y;rw[FF x (by simp[Op.operands]),FF y (by simp[Op.operands])];exact h
 case h_12=>rename_i x y;rw[FF x (by simp[Op.operands]),FF y (by simp[Op.operands])];exact h
 case h_13 t x lo hi mx =>
  have e1:∀d,Dr ah d lo=Dr ρ d lo:=fun d=>by
   cases lo with
   |none=>rfl
   |some o=>simp only[Dr];rw[FF o (by simp[Op.operands])]
  have e2:∀d,Dr ah d hi=Dr ρ d hi:=fun d=>by
   cases hi with
   |none=>rfl
   |some o=>simp only[Dr];rw[FF o (by simp[Op.operands])]
  simp only[G2,e1,e2,FF x (by simp[Op.operands])]at h⊢;exact h
 case h_14 x i=>rw[FF x (by simp[Op.operands])];exact h
 case h_15 t parts =>
  have e:(parts.toList.map fun(i,x)=>(i,ah x))=parts.toList.map fun(i,x)=>(i,ρ x):=by
   apply UM;rintro⟨i,x⟩ hm;simp only;rw[FF x (by simp[Op.operands];exact⟨i,by simpa using hm⟩)]
  rw[e];exact h
 case h_16 f first LL =>
  have e:LL.toList.map ah=LL.toList.map ρ:=UM fun x hm=>FF x (by simp[Op.operands];exact .inr (by simpa using hm))
  rw[e];exact h
 case h_17 args ts =>
  split at h
  ·rename_i x t hx ht;rw[FF x (by
         simp[Op.operands,Call.operands];have:x∈args.toList:=by rw[hx];exact KI.2 rfl
         simpa using this)]
   exact h
  ·exact h.elim
 case h_18 args ts =>
  have e:args.toList.map ah=args.toList.map ρ:=UM fun x hm=>FF x (by simp[Op.operands,Call.operands];simpa using hm)
  rw[e];exact h
 case h_19 args ts =>
  have e:args.toList.map ah=args.toList.map ρ:=UM fun x hm=>FF x (by simp[Op.operands,Call.operands];simpa using hm)
  rw[e];exact h
 case h_20 =>
  obtain⟨l,h1,hK⟩:=h;exact⟨l,Jfx FF h1,hK⟩
end
structure FH where
 W0:World
 β0:ET
 Im0:Nat->Prop
 may:Nat->Prop
 marks:List Nat
 G:World->(Nat->Prop)->Prop
 mono:∀{w w':World} {Im CX:Nat->Prop},ED w Im w' CX->G w Im->G w' CX
variable {Γ:FH}
structure DW (Γ:FH) (β:ET) (Im:Nat->Prop) (s:St) (tmps:Array Value) (w:World):Prop where
 fit:Fit β w Im s tmps
 os:w.os=Γ.W0.os
 tape:w.tape=Γ.W0.tape
 output:w.output=Γ.W0.output
 size:Γ.W0.heap.size<=w.heap.size
 block:∀k,k<Γ.W0.heap.size->¬Γ.may k->w.heap[k]?=Γ.W0.heap[k]?
 imin:∀b,Γ.Im0 b->Im b
 imnew:∀b,Im b->Γ.Im0 b\/Γ.W0.heap.size<=b\/Γ.may b
 regnew:∀d r loc,(d,r)∈s.regs->β d=some loc->Γ.W0.heap.size<=loc.blk\/Γ.may loc.blk
 fixed:∀d,1000<=d->d<500000->β d=Γ.β0 d
 glob:Γ.G w Im
 marks:∀D,D∈Γ.marks->w.heap[D]?=some (.deferred (some []))/\¬Im D/\Γ.W0.heap.size<=D/\∀d r loc,(d,r)∈s.regs->β d=some loc->loc.blk≠D
 mnod:Γ.marks.Nodup
def F6(D:Nat):Deferred:={ target:=.collected D,args:=#[] }
def FH.wm(Γ:FH)(ms:List Nat):FH:={ Γ with marks:=ms }
def RR(Γ:FH)(s:St)(a:Act)(w:World):Prop:=∃ms,a.defers=ms.map F6/\∃β Im,DW (Γ.wm ms) β Im s a.tmps w
def DW.put{Γ:FH}{β:ET}{Im:Nat->Prop}{s:St}{a:Act}{w:World}(h:DW Γ β Im s a.tmps w)(dst:Option Tmp){v:Value}{l:L}(hl:CE β w Im v l) :
  DW Γ β Im (s.put dst l) (a.put dst v).tmps w:=
 { h with fit:=h.fit.put dst hl,regnew:=by cases dst<;>exact h.regnew,marks:=by cases dst<;>exact h.marks }
def DW.grow{Γ:FH}{β:ET}{w w':World}{Im CX:Nat->Prop}{s:St}{tmps:Array Value}(h:DW Γ β Im s tmps w)(g:DY w Im w' CX):DW Γ β CX s tmps w' where
 fit:=h.fit.grow g
 os:=g.os.trans h.os
 tape:=g.tape.trans h.tape
 output:=g.output.trans h.output
 size:=Nat.le_trans h.size g.size
 block k hk hm:=(g.block k (NB hk h.size)).trans (h.block k hk hm)
 imin b hb:=g.im b (h.imin b hb)
 imnew b hb:=(g.new b hb).elim (h.imnew b) fun h'=>.inr (.inl (Nat.le_trans h.size h'))
 regnew:=h.regnew
 fixed:=h.fixed
 glob:=Γ.mono (g.keeps h.fit.im) h.glob
 marks D hD:=by
  obtain⟨h1,h2,h3,h4⟩:=h.marks D hD;have BZ:=(Rw.1 h1).1;exact⟨(g.block D BZ).trans h1,fun hi=>(g.new D hi).elim h2 fun h'=>by omega,h3,h4⟩
 mnod:=h.mnod
def L.forget(l:L):L:=if l.mentions d then .junk else l
def DG.forget(d:Nat):DG->DG
 |.var T cs=>.var T (cs.map (L.forget d))
 |.row T sz es=>.row T sz es
 |.lrow T sz f es=>.lrow T sz f (es.map fun e=>e.map (L.forget d))
 |.obj o=>.obj o
def Cv(d:Nat):List (Nat×DG)->List (Nat×DG)|[]=>[]|(e,r)::BR=>if e=d then Cv d BR else(e,r.forget d)::Cv d BR
def St.forget(d:Nat)(s:St):St:=⟨s.tmps.map (L.forget d),Cv d s.regs⟩
variable {s:St}{K:St->Prop}
def Bn{d e:Nat}{r:DG}:∀{l:List (Nat×DG)},(e,r)∈Cv d l->e≠d/\∃r',(e,r')∈l/\r=r'.forget d
 |[],h=>by cases h
 |(e',r')::BR,h=>by
  simp only[Cv]at h;split at h
  ·obtain⟨h1,gg,h2,h3⟩:=Bn h;exact⟨h1,gg,EW _ h2,h3⟩
  ·rename_i DA;rcases DN.1 h with h|h
   ·cases h;exact⟨DA,r',DQ,rfl⟩
   ·obtain⟨h1,gg,h2,h3⟩:=Bn h;exact⟨h1,gg,EW _ h2,h3⟩
def Il{d:Nat}:∀(l:List (Nat×DG)),((Cv d l).map (·.1))=(l.map (·.1)).filter (fun e=>decide (e≠d))
 |[]=>rfl
 |(e,r)::BR=>by
  simp only[Cv];split
  ·rename_i h;subst h;simp[Il BR]
  ·rename_i h;simp[Il BR,h]
def MB(β:ET)(d:Nat)(x:Option Loc):ET:=fun e=>if e=d then x else β e
def CE.forget{β β':ET}{w:World}{Im:Nat->Prop}{d:Nat}(CM:∀e,e≠d->β' e=β e){v:Value}{l:L}(h:CE β w Im v l):CE β' w Im v (l.forget d):=by
 unfold L.forget;split
 ·trivial
 ·rename_i hm;refine h.mono ⟨fun _ h=>h,fun _ _=>rfl⟩ fun e he=>CM e fun hed=>?_
  subst hed;exact hm he
def J4(l:L)(h:l.cellOK=true\/l=.junk):(l.forget d).cellOK=true\/l.forget d=.junk:=by
 unfold L.forget;split
 ·exact .inr rfl
 ·exact h
def R4{β':ET}{CX:Nat->Prop}{g:L->L}{es:List (List L)}(hg:∀(v:Value) (l:L),CE β w Im v l->CE β' w' CX v (g l))(hc:∀l:L,(l.cellOK=true\/l=.junk)->(g l).cellOK=true\/g l=.junk)(h:∀(i:Nat) (e:List L) (j:Nat) (l:L),es[i]?=some e->e[j]?=some l->∃v,cur[i*sz+j]?=some v/\CE β w Im v l/\(l.cellOK=true\/l=.junk)) :
  ∀(i:Nat) (e:List L) (j:Nat) (l:L),(es.map fun e=>e.map g)[i]?=some e->e[j]?=some l->∃v,cur[i*sz+j]?=some v/\CE β' w' CX v l/\(l.cellOK=true\/l=.junk):=by
 intro i e j l hi hj;rw[Eam]at hi;obtain⟨e0,YT,rfl⟩:=HF.1 hi;rw[Eam]at hj;obtain⟨l0,QR,rfl⟩:=HF.1 hj;obtain⟨v,h1,h2,h3⟩:=h i e0 j l0 YT QR;exact⟨v,h1,hg v l0 h2,hc l0 h3⟩
def Ci.forget{β β':ET}{w:World}{Im:Nat->Prop}{d e:Nat}(CM:∀x,x≠d->β' x=β x)(he:e≠d){r:DG}(h:Ci β w Im e r):Ci β' w Im e (r.forget d):=by
 cases r with
 |var T cs =>
  obtain⟨loc,cur,h1,h2,h3,h4,h5,h6⟩:=h;refine⟨loc,cur,by rw[CM e he];exact h1,by simpa using h2,h3,h4,by simpa using h5,fun j v l hv hl=>?_⟩;rw[Eam]at hl;obtain⟨l',DB,rfl⟩:=HF.1 hl;exact⟨(h6 j v l' hv DB).1.forget CM,J4 d l' (h6 j v l' hv DB).2⟩
 |row T sz es =>
  rcases h with⟨h1,h2⟩|⟨loc,cur,h1,h2⟩
  ·exact .inl ⟨by rw[CM e he];exact h1,h2⟩
  ·exact .inr ⟨loc,cur,by rw[CM e he];exact h1,h2⟩
 |lrow T sz f es =>
  rcases h with⟨h1,h2⟩|⟨loc,cur,h1,h2,h3,h4,h5,h6,h7,h8,h9⟩
  ·exact .inl ⟨by rw[CM e he];exact h1,by simp[h2]⟩
  ·refine .inr ⟨loc,cur,by rw[CM e he];exact h1,h2,h3,h4,by simpa using h5,by simpa using h6,h7,fun x hx=>?_,R4 (fun v l hl=>hl.forget CM) (J4 d) h9⟩;obtain⟨y,hy,rfl⟩:=FB.1 hx;simpa using h8 y hy
 |obj o =>
  obtain⟨loc,h1,h2⟩:=h;exact⟨loc,by rw[CM e he];exact h1,h2⟩
def Fit.forget{β β':ET}{w:World}{Im:Nat->Prop}{s:St}{tmps:Array Value}{d:Nat}(CM:∀e,e≠d->β' e=β e)(h:Fit β w Im s tmps):Fit β' w Im (s.forget d) tmps where
 size:=by simpa[St.forget]using h.size
 tmps i l hl:=by
  simp only[St.forget,Eam]at hl;obtain⟨l',DB,rfl⟩:=HF.1 hl;exact(h.tmps i l' DB).forget CM
 regs e r hr:=by
  obtain⟨h1,r',h2,rfl⟩:=Bn hr;exact(h.regs e r' h2).forget CM h1
 nodup:=by
  simp only[St.forget,Il];exact h.nodup.filter _
 live e r loc hr hl:=by
  obtain⟨h1,r',h2,rfl⟩:=Bn hr;rw[CM e h1]at hl;exact h.live e r' loc h2 hl
 apart e r e' r' loc CO hr UW DA hl DB:=by
  obtain⟨h1,q,h2,rfl⟩:=Bn hr;obtain⟨gf,q',UC,rfl⟩:=Bn UW;rw[CM e h1]at hl;rw[CM e' gf]at DB;exact h.apart e q e' q' loc CO h2 UC DA hl DB
 im:=h.im
def St.newReg(r:DG)(s:St):St:=⟨s.tmps.map (L.forget d),(d,r)::Cv d s.regs⟩
def Oa{d e:Nat}(h:e≠d):MB β d x e=β e:=by simp[MB,h]
def B4{d:Nat}:MB β d x d=x:=by simp[MB]
def DW.newReg{Γ:FH}{β:ET}{Im:Nat->Prop}{s:St}{tmps:Array Value}{w w':World}(h:DW Γ β Im s tmps w){d:Nat}(hd:d<1000){r:DG}{x:Option Loc}(g:DY w Im w' Im)(hx:∀loc,x=some loc->w.heap.size<=loc.blk/\loc.blk<w'.heap.size)(hr:Ci (MB β d x) w' Im d r) :
  DW Γ (MB β d x) Im (s.newReg d r) tmps w':=by
 have hd:d<1000\/500000<=d:=.inl hd;have h1:=h.grow g;have CM:∀e,e≠d->MB β d x e=β e:=fun e he=>Oa he
 have h2:=h1.fit.forget (d:=d) CM;refine{ h1 with fit:=?_,regnew:=fun e q loc hq hl=>?_,fixed:=fun e he FO=>by rw[CM e omg];exact h.fixed e he FO,mnod:=h.mnod,marks:=fun D hD=>?_ }
 ·refine{ h2 with regs:=fun e q hq=>?_,nodup:=?_,live:=fun e q loc hq hl=>?_,apart:=fun e q e' q' loc CO hq FJ DA hl DB=>?_ }
  ·rcases DN.1 hq with hq|hq
   ·cases hq;exact hr
   ·exact h2.regs e q hq
  ·simp only[St.newReg,Fc,UO];refine⟨fun hm=>?_,h2.nodup⟩;obtain⟨⟨e,q⟩,hq,he⟩:=FB.1 hm;exact(Bn hq).1 he
  ·rcases DN.1 hq with hq|hq
   ·cases hq;rw[B4]at hl;obtain⟨h3,h4⟩:=hx loc hl;exact⟨h4,fun hi=>by have:=h.fit.im _ hi;omega⟩
   ·exact h2.live e q loc hq hl
  ·have Np:∀e q loc,(e,q)∈Cv d s.regs->MB β d x e=some loc->loc.blk<w.heap.size:=by
    intro e q loc hq hl;obtain⟨h3,q',h4,rfl⟩:=Bn hq;rw[CM e h3]at hl;exact(h.fit.live e q' loc h4 hl).1
   rcases DN.1 hq with hq|hq<;>rcases DN.1 FJ with FJ|FJ
   ·cases hq;cases FJ;exact absurd rfl DA
   ·cases hq;rw[B4]at hl;have:=Np e' q' CO FJ DB;have:=(hx loc hl).1;omega
   ·cases FJ;rw[B4]at DB;have:=Np e q loc hq hl;have:=(hx CO DB).1;omega
   ·exact h2.apart e q e' q' loc CO hq FJ DA hl DB
 ·rcases DN.1 hq with hq|hq
  ·cases hq;rw[B4]at hl;exact .inl (Nat.le_trans h.size (hx loc hl).1)
  ·obtain⟨h3,q',h4,rfl⟩:=Bn hq;rw[CM e h3]at hl;exact h.regnew e q' loc h4 hl
 ·obtain⟨m1,m2,m3,m4⟩:=h.marks D hD;obtain⟨n1,n2,n3,_⟩:=h1.marks D hD;refine⟨n1,n2,n3,fun e q loc hq hl=>?_⟩;have BZ:=(Rw.1 m1).1;rcases DN.1 hq with hq|hq
  ·cases hq;rw[B4]at hl;have:=(hx loc hl).1;omega
  ·obtain⟨h3,q',h4,rfl⟩:=Bn hq;rw[CM e h3]at hl;exact m4 e q' loc h4 hl
def DW.replace(h:DW Γ β Im s tmps w){d d':Nat}(PT:d'<1000){r r':DG}(CR:(d,r)∈s.regs)(ho:w'.os=w.os)(ht:w'.tape=w.tape)(hu:w'.output=w.output)(hz:w.heap.size<=w'.heap.size)(hb:∀k,k<w.heap.size->(∀loc,β d=some loc->k≠loc.blk)->w'.heap[k]?=w.heap[k]?)(hx:∀loc,x=some loc->loc.blk<w'.heap.size/\(w.heap.size<=loc.blk\/∃OF,β d=some OF/\OF.blk=loc.blk))(hr:Ci (MB β d' x) w' Im d' r') :
  DW Γ (MB β d' x) Im ((s.forget d).newReg d' r') tmps w':=by
 have CM:∀e,e≠d'->MB β d' x e=β e:=fun e he=>Oa he
 have hk:ED w Im w' Im:=⟨fun _ h=>h,fun b HN=>hb b (h.fit.im b HN) fun loc hl e=>(h.fit.live d r loc CR hl).2 (e▸HN)⟩
 have ai:∀e q loc,(e,q)∈s.regs->e≠d->β e=some loc->w'.heap[loc.blk]?=w.heap[loc.blk]?:=fun e q loc hq DA hl =>
  hb _ (h.fit.live e q loc hq hl).1 fun OF QR=>h.fit.apart e q d r loc OF hq CR DA hl QR
 have h1:Fit β w' Im (s.forget d) tmps:=by
  have h2:=h.fit.forget (d:=d) (β':=β) (fun _ _=>rfl);refine{ h2 with tmps:=fun i l hl=>(h2.tmps i l hl).mono' hk,regs:=fun e q hq=>?_,live:=fun e q loc hq hl=>?_,im:=fun b HN=>NB (h.fit.im b HN) hz }
  ·obtain⟨g1,q',g2,rfl⟩:=Bn hq;exact(h2.regs e _ hq).mono hk rfl (fun _ _=>rfl) fun loc hl=>ai e q' loc g2 g1 hl
  ·exact⟨NB (h2.live e q loc hq hl).1 hz,(h2.live e q loc hq hl).2⟩
 have h2:=h1.forget (d:=d') CM;have Np:∀e q loc,(e,q)∈Cv d' (s.forget d).regs->MB β d' x e=some loc->∃q',(e,q')∈s.regs/\e≠d/\e≠d'/\β e=some loc:=by
  intro e q loc hq hl;obtain⟨g1,q',g2,rfl⟩:=Bn hq;obtain⟨g3,zO,g4,rfl⟩:=Bn g2;rw[CM e g1]at hl;exact⟨zO,g4,g3,g1,hl⟩
 have gh:∀loc,x=some loc->¬Im loc.blk/\∀e q CO,(e,q)∈Cv d' (s.forget d).regs->MB β d' x e=some CO->loc.blk≠CO.blk:=by
  intro loc hl;obtain⟨g1,g2⟩:=hx loc hl;rcases g2 with g2|⟨OF,g3,g4⟩
  ·refine⟨fun hi=>by have:=h.fit.im _ hi;omega,fun e q CO hq DB=>?_⟩;obtain⟨q',k1,k2,k3,k4⟩:=Np e q CO hq DB;have:=(h.fit.live e q' CO k1 k4).1;omega
  ·rw[<-g4];refine⟨(h.fit.live d r OF CR g3).2,fun e q CO hq DB=>?_⟩;obtain⟨q',k1,k2,k3,k4⟩:=Np e q CO hq DB;exact h.fit.apart d r e q' OF CO CR k1 (Ne.symm k2) g3 k4
 refine{ fit:=?_,os:=ho.trans h.os,tape:=ht.trans h.tape,output:=hu.trans h.output,size:=Nat.le_trans h.size hz,block:=fun k IE hm=>?_,imin:=h.imin,imnew:=h.imnew,regnew:=fun e q loc hq hl=>?_,fixed:=fun e he FO=>by rw[CM e omg];exact h.fixed e he FO,glob:=Γ.mono hk h.glob,mnod:=h.mnod,marks:=fun D hD=>?_ }
 ·refine{ h2 with regs:=fun e q hq=>?_,nodup:=?_,live:=fun e q loc hq hl=>?_,apart:=fun e q e' q' loc CO hq FJ DA hl DB=>?_ }
  ·rcases DN.1 hq with hq|hq
   ·cases hq;exact hr
   ·exact h2.regs e q hq
  ·simp only[St.newReg,Fc,UO];refine⟨fun hm=>?_,h2.nodup⟩;obtain⟨⟨e,q⟩,hq,he⟩:=FB.1 hm;exact(Bn hq).1 he
  ·rcases DN.1 hq with hq|hq
   ·cases hq;rw[B4]at hl;exact⟨(hx loc hl).1,(gh loc hl).1⟩
   ·exact h2.live e q loc hq hl
  ·rcases DN.1 hq with hq|hq<;>rcases DN.1 FJ with FJ|FJ
   ·cases hq;cases FJ;exact absurd rfl DA
   ·cases hq;rw[B4]at hl;exact(gh loc hl).2 e' q' CO FJ DB
   ·cases FJ;rw[B4]at DB;exact Ne.symm ((gh CO DB).2 e q loc hq hl)
   ·exact h2.apart e q e' q' loc CO hq FJ DA hl DB
 ·by_cases cy:∃loc,β d=some loc/\k=loc.blk
  ·obtain⟨loc,hl,rfl⟩:=cy;rcases h.regnew d r loc CR hl with g|g
   ·omega
   ·exact absurd g hm
  ·rw[hb k (NB IE h.size) fun loc hl e=>cy ⟨loc,hl,e⟩];exact h.block k IE hm
 ·rcases DN.1 hq with hq|hq
  ·cases hq;rw[B4]at hl;rcases(hx loc hl).2 with g|⟨OF,g3,g4⟩
   ·exact .inl (Nat.le_trans h.size g)
   ·rcases h.regnew d r OF CR g3 with g|g
    ·exact .inl (g4▸g)
    ·exact .inr (g4▸g)
  ·obtain⟨q',k1,k2,k3,k4⟩:=Np e q loc hq hl;exact h.regnew e q' loc k1 k4
 ·obtain⟨m1,m2,m3,m4⟩:=h.marks D hD;have BZ:=(Rw.1 m1).1;refine⟨(hb D BZ fun loc hl e=>m4 d r loc CR hl e.symm).trans m1,m2,m3,fun e q loc hq hl=>?_⟩;rcases DN.1 hq with hq|hq
  ·cases hq;rw[B4]at hl;rcases(hx loc hl).2 with g|⟨OF,g3,g4⟩
   ·omega
   ·rw[<-g4];exact m4 d r OF CR g3
  ·obtain⟨q',k1,k2,k3,k4⟩:=Np e q loc hq hl;exact m4 e q' loc k1 k4
def DW.spoil(h:DW Γ β Im s tmps w){d:Nat}{r:DG}(CR:(d,r)∈s.regs)(ho:w'.os=w.os)(ht:w'.tape=w.tape)(hu:w'.output=w.output)(hz:w.heap.size<=w'.heap.size)(hb:∀k,k<w.heap.size->(∀loc,β d=some loc->k≠loc.blk)->w'.heap[k]?=w.heap[k]?) :
  DW Γ β Im (s.forget d) tmps w':=by
 have hk:ED w Im w' Im:=⟨fun _ h=>h,fun b HN=>hb b (h.fit.im b HN) fun loc hl e=>(h.fit.live d r loc CR hl).2 (e▸HN)⟩
 have ai:∀e q loc,(e,q)∈s.regs->e≠d->β e=some loc->w'.heap[loc.blk]?=w.heap[loc.blk]?:=fun e q loc hq DA hl =>
  hb _ (h.fit.live e q loc hq hl).1 fun OF QR=>h.fit.apart e q d r loc OF hq CR DA hl QR
 have h2:=h.fit.forget (d:=d) (β':=β) (fun _ _=>rfl);refine{
     fit:={ h2 with tmps:=fun i l hl=>(h2.tmps i l hl).mono' hk,regs:=fun e q hq=>?_,live:=fun e q loc hq hl=>?_,im:=fun b HN=>NB (h.fit.im b HN) hz }
     os:=ho.trans h.os,tape:=ht.trans h.tape,output:=hu.trans h.output,size:=Nat.le_trans h.size hz,block:=fun k IE hm=>?_,imin:=h.imin,imnew:=h.imnew,regnew:=fun e q loc hq hl=>?_,fixed:=h.fixed,glob:=Γ.mono hk h.glob,mnod:=h.mnod,marks:=fun D hD=>?_ }
 ·obtain⟨g1,q',g2,rfl⟩:=Bn hq;exact(h2.regs e _ hq).mono hk rfl (fun _ _=>rfl) fun loc hl=>ai e q' loc g2 g1 hl
 ·exact⟨NB (h2.live e q loc hq hl).1 hz,(h2.live e q loc hq hl).2⟩
 ·by_cases cy:∃loc,β d=some loc/\k=loc.blk
  ·obtain⟨loc,hl,rfl⟩:=cy;rcases h.regnew d r loc CR hl with g|g
   ·omega
   ·exact absurd g hm
  ·rw[hb k (NB IE h.size) fun loc hl e=>cy ⟨loc,hl,e⟩];exact h.block k IE hm
 ·obtain⟨g1,q',g2,rfl⟩:=Bn hq;exact h.regnew e q' loc g2 hl
 ·obtain⟨m1,m2,m3,m4⟩:=h.marks D hD;have BZ:=(Rw.1 m1).1;refine⟨(hb D BZ fun loc hl e=>m4 d r loc CR hl e.symm).trans m1,m2,m3,fun e q loc hq hl=>?_⟩;obtain⟨g1,q',g2,rfl⟩:=Bn hq;exact m4 e q' loc g2 hl
def Bs(d:Nat)(r:DG):List (Nat×DG)->List (Nat×DG)|[]=>[]|(e,q)::BR=>if e=d then(e,r)::BR else(e,q)::Bs d r BR
def Ds{d e:Nat}{r q:DG}:∀{l:List (Nat×DG)},(l.map (·.1)).Nodup->(e,q)∈Bs d r l->(e=d/\q=r/\∃q',(d,q')∈l)\/(e≠d/\(e,q)∈l)
 |[],_,h=>by cases h
 |(e',q')::BR,hn,h=>by
  simp only[Fc,UO]at hn;simp only[Bs]at h;split at h
  ·rename_i he;subst he;rcases DN.1 h with h2|h2
   ·cases h2;exact .inl ⟨rfl,rfl,q',DQ⟩
   ·by_cases hee:e=e'
    ·subst hee;exact absurd (FB.2 ⟨(e,q),h2,rfl⟩) hn.1
    ·exact .inr ⟨hee,EW _ h2⟩
  ·rename_i he;rcases DN.1 h with h|h
   ·cases h;exact .inr ⟨he,DQ⟩
   ·rcases Ds hn.2 h with⟨h1,h2,zO,h3⟩|⟨h1,h2⟩
    ·exact .inl ⟨h1,h2,zO,EW _ h3⟩
    ·exact .inr ⟨h1,EW _ h2⟩
def Kd{d:Nat}{r:DG}:∀(l:List (Nat×DG)),(Bs d r l).map (·.1)=l.map (·.1)
 |[]=>rfl
 |(e,q)::BR=>by
  simp only[Bs];split
  ·rfl
  ·simp[Kd BR]
def DW.store(h:DW Γ β Im s tmps w){d:Nat}{r r':DG}{loc:Loc}(hd:(d,r)∈s.regs)(hl:β d=some loc)(ho:w'.os=w.os)(ht:w'.tape=w.tape)(hu:w'.output=w.output)(hz:w'.heap.size=w.heap.size)(hb:∀k,k≠loc.blk->w'.heap[k]?=w.heap[k]?)(hr:Ci β w' Im d r'):DW Γ β Im { s with regs:=Bs d r' s.regs } tmps w':=by
 have JG:=h.fit.live d r loc hd hl;have hk:ED w Im w' Im:=⟨fun _ h=>h,fun b HN=>hb b fun e=>JG.2 (e▸HN)⟩
 refine{ fit:=?_,os:=ho.trans h.os,tape:=ht.trans h.tape,output:=hu.trans h.output,size:=by rw[hz];exact h.size,block:=fun k IE hm=>?_,imin:=h.imin,imnew:=h.imnew,regnew:=fun e q CO hq DB=>?_,fixed:=h.fixed,glob:=Γ.mono hk h.glob,mnod:=h.mnod,marks:=fun D hD=>?_ }
 ·refine{ size:=h.fit.size,tmps:=fun i l hl=>(h.fit.tmps i l hl).mono' hk,regs:=fun e q hq=>?_,nodup:=by simp only[Kd];exact h.fit.nodup,live:=fun e q CO hq DB=>?_,apart:=fun e q e' q' l1 l2 hq FJ DA h1 h2=>?_,im:=fun b HN=>by rw[hz];exact h.fit.im b HN }
  ·rcases Ds h.fit.nodup hq with⟨rfl,rfl,_⟩|⟨DA,hm⟩
   ·exact hr
   ·refine(h.fit.regs e q hm).mono hk rfl (fun _ _=>rfl) fun CO DB=>hb _ ?_
    exact h.fit.apart e q d r CO loc hm hd DA DB hl
  ·rw[hz];rcases Ds h.fit.nodup hq with⟨rfl,rfl,_⟩|⟨DA,hm⟩
   ·rw[hl]at DB;cases DB;exact JG
   ·exact h.fit.live e q CO hm DB
  ·have key:∀e q,(e,q)∈Bs d r' s.regs->∃q',(e,q')∈s.regs:=by
    intro e q hq;rcases Ds h.fit.nodup hq with⟨rfl,rfl,q',FJ⟩|⟨DA,hm⟩
    ·exact⟨q',FJ⟩
    ·exact⟨q,hm⟩
   obtain⟨p,hp⟩:=key e q hq;obtain⟨p',IA⟩:=key e' q' FJ;exact h.fit.apart e p e' p' l1 l2 hp IA DA h1 h2
 ·by_cases cy:k=loc.blk
  ·subst cy;rcases h.regnew d r loc hd hl with h1|h1
   ·omega
   ·exact absurd h1 hm
  ·rw[hb k cy];exact h.block k IE hm
 ·rcases Ds h.fit.nodup hq with⟨rfl,rfl,_⟩|⟨DA,hm⟩
  ·exact h.regnew e r CO hd DB
  ·exact h.regnew e q CO hm DB
 ·obtain⟨m1,m2,m3,m4⟩:=h.marks D hD;refine⟨(hb D fun e=>m4 d r loc hd hl e.symm).trans m1,m2,m3,fun e q CO hq DB=>?_⟩;rcases Ds h.fit.nodup hq with⟨rfl,rfl,_⟩|⟨DA,hm⟩
  ·exact m4 e r CO hd DB
  ·exact m4 e q CO hm DB
inductive Fz where
 |gone
 |rw(es:List (List PV))
 |mp (es:List (PV×PV))
 |ar (cs:List PV)
variable (z:Fz)
def Fz.ptr(i j:Nat):L:=match z with|.ar cs=>if i=0/\j<=cs.length then .eptr (cs.drop j)else .junk|.gone=>.junk|.rw _=>.junk|.mp _=>.junk
def Fz.own(By len:Nat):L:=match z with|.gone=>.junk|.rw es=>if By+len<=es.length then .p (.sl ((es.drop By).take len))else .junk|.mp _=>.junk|.ar _=>.junk
def Fz.map:L:=match z with|.gone=>.junk|.rw _=>.junk|.mp es=>.p (.mp es)|.ar _=>.junk
def L.freeze(z:Fz):L->L|.own e By len=>if e=d then z.own By len else .own e By len|.ptr e i j=>if e=d then z.ptr i j else .ptr e i j|.fn f ds=>if ds.contains d then .junk else .fn f ds|.cfn f ds=>if ds.contains d then .junk else .cfn f ds|.mref e=>if e=d then z.map else .mref e|l=>l
def DG.freeze(d:Nat)(z:Fz):DG->DG
 |.var T cs=>.var T (cs.map (L.freeze d z))
 |.row T sz CN=>.row T sz CN
 |.lrow T sz f CN=>.lrow T sz f (CN.map fun e=>e.map (L.freeze d z))
 |.obj o=>.obj o
def Cp(d:Nat)(z:Fz):List (Nat×DG)->List (Nat×DG)|[]=>[]|(e,r)::BR=>if e=d then Cp d z BR else(e,r.freeze d z)::Cp d z BR
def SX:Option DG->Option Fz|some (.row _ _ es)=>some (.rw es)|some (.obj (.mp es))=>some (.mp es)|_=>none
def Dx(o:Option Fz)(s:St):St:=match o with|some z=>⟨s.tmps.map (L.freeze d z),Cp d z s.regs⟩|none=>s
def St.freeze(s:St):St:=Dx d (SX (Am d s.regs)) s
def Cj{d e:Nat}{es:Fz}{r:DG}:∀{l:List (Nat×DG)},(e,r)∈Cp d es l->e≠d/\∃r',(e,r')∈l/\r=r'.freeze d es
 |[],h=>by cases h
 |(e',r')::BR,h=>by
  simp only[Cp]at h;split at h
  ·obtain⟨h1,gg,h2,h3⟩:=Cj h;exact⟨h1,gg,EW _ h2,h3⟩
  ·rename_i DA;rcases DN.1 h with h|h
   ·cases h;exact⟨DA,r',DQ,rfl⟩
   ·obtain⟨h1,gg,h2,h3⟩:=Cj h;exact⟨h1,gg,EW _ h2,h3⟩
def F7{d:Nat}{es:Fz}:∀(l:List (Nat×DG)),((Cp d es l).map (·.1))=(l.map (·.1)).filter (fun e=>decide (e≠d))
 |[]=>rfl
 |(e,r)::BR=>by
  simp only[Cp];split
  ·rename_i h;subst h;simp[F7 BR]
  ·rename_i h;simp[F7 BR,h]
def zP(β:ET)(w:World)(Im:Nat->Prop)(d:Nat):Fz->Prop|.gone=>True|.rw es=>∃T sz,Ci β w Im d (.row T sz es)|.mp es=>Ci β w Im d (.obj (.mp es))|.ar cs=>∃T ls,Ci β w Im d (.var T ls)/\Bg L.pure? ls=some cs
def CE.freeze{β:ET}{w:World}{Im CX:Nat->Prop}{d:Nat}{z:Fz}(hr:zP β w Im d z)(hi:∀b,Im b->CX b)(hd:∀loc,β d=some loc->CX loc.blk){v:Value}{l:L}(h:CE β w Im v l):CE β w CX v (l.freeze d z):=by
 have hk:ED w Im w CX:=⟨hi,fun _ _=>rfl⟩
 have same:CE β w CX v l:=h.mono' hk;cases l with
 |own e By len =>
  simp only[L.freeze];split
  ·rename_i he;subst he;cases z with
   |gone=>trivial
   |mp es=>trivial
   |ar cs=>trivial
   |rw es =>
   obtain⟨T,sz,hr⟩:=hr;simp only[Fz.own];split
   ·rename_i DO;have CY:((es.drop By).take len).length=len:=by simp;omega
    rcases h with⟨loc,cap,o,CM,GP,hl,ho,rfl⟩|⟨CM,rfl,rfl,rfl⟩
    ·rcases hr with⟨hn,_⟩|⟨CO,cur,CF,DI,hb,FI,PC,HW,EF,CP⟩
     ·rw[CM]at hn;cases hn
     ·rw[CM]at CF;cases CF;have CR:∀x∈(es.drop By).take len,x∈es:=fun x hx=>OR (UL hx)
      show BW w CX _ _
      conv=>arg 3;rw[<-CY]
      refine BW.sl loc.blk o cap sz _ (by rw[CY];exact hl) (hd loc CM) (fun i j=>cur.getD ((By+i)*sz+j) undef) (fun x hx=>(EF x (CR x hx)).1) (fun x hx=>(EF x (CR x hx)).2) (fun i hi j hj=>?_) (fun i x j p hi hj=>?_)
      ·have VO:By+i<es.length:=by rw[CY]at hi;omega
       have VQ:0<cap:=by rw[CY]at hi;omega
       rw[D7 hb,ho (.inl VQ),DI];have hx:=EF _ (UN VO);obtain⟨u,hu,_⟩:=CP (By+i) _ j _ (C' VO) (C' (by rw[hx.1];exact hj));rw[<-ME,hu];simp[GU,hu]
      ·rw[IQ]at hi;split at hi
       ·obtain⟨u,hu,hp⟩:=CP (By+i) x j p (by simpa using hi) hj;have:cur.getD ((By+i)*sz+j) undef=u:=by simp[GU,hu]
        rw[this];exact hp.mono hk
       ·cases hi
    ·have:(es.drop 0).take 0=[]:=sm;rw[this];exact BW.slNil
   ·trivial
  ·exact same
 |ptr e i j =>
  simp only[L.freeze];split
  ·rename_i he;subst he;cases z with
   |gone=>trivial
   |rw es=>trivial
   |mp es=>trivial
   |ar cs =>
    simp only[Fz.ptr];split
    ·rename_i QS;obtain⟨rfl,hj⟩:=QS;obtain⟨loc,CM,rfl⟩:=h;obtain⟨T,ls,⟨CO,cur,CF,g2,g3,g4,g5,g6⟩,hp⟩:=hr;rw[CM]at CF;cases CF;obtain⟨CY,ZX⟩:=Bh hp;have key:∀(k:Nat) (p:PV),cs[k]?=some p->∃v,cur[k]?=some v/\BW w Im v p/\p.scalar=true:=by
      intro k p hp;obtain⟨c,hc⟩:=BQ CY hp;obtain⟨v,SV⟩:=BQ g5 hc;have h1:=ZX k c p hc hp;obtain⟨r1,r2⟩:=g6 k v c SV hc;cases c with
      |p q =>
       simp only[L.pure?]at h1;cases h1;refine⟨v,SV,r1,?_⟩;rcases r2 with r2|r2
       ·exact r2
       ·cases r2
      |_=>simp[L.pure?]at h1
     have pC:∀k p,(cs.drop j)[k]?=some p->∃v,cur[j+k]?=some v/\BW w Im v p/\p.scalar=true:=fun k p IE=>key _ _ (by rw[<-cm];exact IE)
     refine⟨loc.blk,j,hd loc CM,by simp,fun k=>cur.getD (j+k) undef,fun k IE=>?_,fun k p pD=>?_⟩
     ·obtain⟨v,hv,_⟩:=pC k _ (C' IE);rw[D7 g4,hv];simp[GU,hv]
     ·obtain⟨v,hv,gj,LI⟩:=pC k p pD;have:cur.getD (j+k) undef=v:=by simp[GU,hv]
      simp only[this];exact⟨gj.mono hk,LI⟩
    ·trivial
  ·exact same
 |fn f ds=>simp only[L.freeze];split;trivial;exact same
 |cfn f ds=>simp only[L.freeze];split;trivial;exact same
 |mref e =>
  simp only[L.freeze];split
  ·rename_i he;subst he;cases z with
   |gone=>trivial
   |rw es=>trivial
   |ar cs=>trivial
   |mp es =>
    obtain⟨loc,CM,rfl⟩:=h;obtain⟨CO,CF,B',cl,ho,hM⟩:=hr;rw[CM]at CF;cases CF;exact BW.mp loc.blk cl B' es (hd loc CM) ho hM.1 hM.2.1 hM.2.2.1 (fun i e p he hp=>(hM.2.2.2 i e p he hp).1.mono hk) (fun i e p he hp=>(hM.2.2.2 i e p he hp).2.mono hk)
  ·exact same
 |p x=>exact same
 |eptr cs=>exact same
 |yld l=>exact same
 |tup xs=>exact same
 |junk=>trivial
def J6e(By len:Nat):(z.own By len).cellOK=true\/z.own By len=.junk:=by
 cases z with
 |gone=>exact .inr rfl
 |rw es=>simp only[Fz.own];split;exact .inl rfl;exact .inr rfl
 |mp es=>exact .inr rfl
 |ar cs=>exact .inr rfl
def J5k(i j:Nat):(z.ptr i j).cellOK=true\/z.ptr i j=.junk:=by
 cases z with
 |gone=>exact .inr rfl
 |rw es=>exact .inr rfl
 |mp es=>exact .inr rfl
 |ar cs=>simp only[Fz.ptr];split;exact .inl rfl;exact .inr rfl
def J6l:z.map.cellOK=true\/z.map=.junk:=by
 cases z with
 |gone=>exact .inr rfl
 |rw es=>exact .inr rfl
 |mp es=>exact .inl rfl
 |ar cs=>exact .inr rfl
def O8(z:Fz)(l:L)(h:l.cellOK=true\/l=.junk):(l.freeze d z).cellOK=true\/l.freeze d z=.junk:=by
 rcases h with h|rfl
 ·cases l<;>simp only[L.freeze]<;>first|exact .inl h|(split<;>first|exact J6e ..|exact J5k ..|exact J6l ..|exact .inr rfl|exact .inl rfl)
 ·exact .inr rfl
def DW.freezeZ(h:DW Γ β Im s tmps w)(d:Nat)(z:Fz)(hr:zP β w Im d z)(r0:DG)(CR:(d,r0)∈s.regs) :
  DW Γ β (fun b=>Im b\/∃loc,β d=some loc/\b=loc.blk) (Dx d (some z) s) tmps w:=by
 unfold Dx;simp only;have hi:∀b,Im b->(Im b\/∃loc,β d=some loc/\b=loc.blk):=fun b hb=>.inl hb
 have hd:∀loc,β d=some loc->(Im loc.blk\/∃CO,β d=some CO/\loc.blk=CO.blk):=fun loc hl=>.inr ⟨loc,hl,rfl⟩
 refine{ h with fit:=?_,imin:=fun b hb=>.inl (h.imin b hb),imnew:=fun b hb=>?_,regnew:=fun e q loc hq hl=>?_,glob:=Γ.mono ⟨hi,fun _ _=>rfl⟩ h.glob,mnod:=h.mnod,marks:=fun D hD=>?_ }
 ·refine{ size:=by simpa using h.fit.size,tmps:=fun i l hl=>?_,regs:=fun e q hq=>?_,nodup:=by simp only[F7];exact h.fit.nodup.filter _,live:=fun e q loc hq hl=>?_,apart:=fun e q e' q' l1 l2 hq FJ DA h1 h2=>?_,im:=fun b hb=>?_ }
  ·rw[Eam]at hl;obtain⟨l',DB,rfl⟩:=HF.1 hl;exact(h.fit.tmps i l' DB).freeze hr hi hd
  ·obtain⟨h1,q',h2,rfl⟩:=Cj hq;have hq:=h.fit.regs e q' h2;cases q' with
   |var T' cs =>
    obtain⟨loc,cur,g1,g2,g3,g4,g5,g6⟩:=hq;refine⟨loc,cur,g1,by simpa using g2,g3,g4,by simpa using g5,fun j v l hv hl=>?_⟩;rw[Eam]at hl;obtain⟨l',DB,rfl⟩:=HF.1 hl;exact⟨(g6 j v l' hv DB).1.freeze hr hi hd,O8 d z l' (g6 j v l' hv DB).2⟩
   |row T' EE CN=>exact hq.mono ⟨hi,fun _ _=>rfl⟩ rfl (fun _ _=>rfl) fun _ _=>rfl
   |lrow T' EE f' CN =>
    rcases hq with⟨g1,g2⟩|⟨loc,cur,g1,g2,g3,g4,g5,g6,g7,g8,g9⟩
    ·exact .inl ⟨g1,by simp[g2]⟩
    ·refine .inr ⟨loc,cur,g1,g2,g3,g4,by simpa using g5,by simpa using g6,g7,fun x hx=>?_,R4 (fun v l hl=>hl.freeze hr hi hd) (O8 d z) g9⟩;obtain⟨y,hy,rfl⟩:=FB.1 hx;simpa using g8 y hy
   |obj o=>exact hq.mono ⟨hi,fun _ _=>rfl⟩ rfl (fun _ _=>rfl) fun _ _=>rfl
  ·obtain⟨h1,q',h2,rfl⟩:=Cj hq;obtain⟨g1,g2⟩:=h.fit.live e q' loc h2 hl;exact⟨g1,fun hb=>hb.elim g2 fun⟨CO,DB,he⟩=>h.fit.apart e q' d _ loc CO h2 CR h1 hl DB he⟩
  ·obtain⟨g1,p,g2,rfl⟩:=Cj hq;obtain⟨g1',p',g2',rfl⟩:=Cj FJ;exact h.fit.apart e p e' p' l1 l2 g2 g2' DA h1 h2
  ·rcases hb with hb|⟨loc,hl,rfl⟩
   ·exact h.fit.im b hb
   ·exact(h.fit.live d _ loc CR hl).1
 ·rcases hb with hb|⟨loc,hl,rfl⟩
  ·exact h.imnew b hb
  ·exact .inr (h.regnew d _ loc CR hl)
 ·obtain⟨g1,p,g2,rfl⟩:=Cj hq;exact h.regnew e p loc g2 hl
 ·obtain⟨m1,m2,m3,m4⟩:=h.marks D hD;refine⟨m1,fun JM=>JM.elim m2 fun⟨loc,hl,e⟩=>m4 d r0 loc CR hl e.symm,m3,fun e q loc hq hl=>?_⟩;obtain⟨g1,p,g2,rfl⟩:=Cj hq;exact m4 e p loc g2 hl
def DW.freeze{Γ:FH}{β:ET}{Im:Nat->Prop}{s:St}{tmps:Array Value}{w:World}(h:DW Γ β Im s tmps w)(d:Nat) :
  ∃CX,DW Γ β CX (s.freeze d) tmps w:=by
 have hz:∀z,SX (Am d s.regs)=some z->zP β w Im d z/\∃r,(d,r)∈s.regs:=by
  intro z hz;unfold SX at hz;split at hz<;>first|(cases hz;done)|skip
  ·rename_i T sz es hf;cases hz;exact⟨⟨T,sz,h.fit.regs d _ (Ax hf)⟩,_,Ax hf⟩
  ·rename_i es hf;cases hz;exact⟨h.fit.regs d _ (Ax hf),_,Ax hf⟩
 unfold St.freeze;cases vr:SX (Am d s.regs)with
 |some z =>
  obtain⟨hr,r0,CR⟩:=hz z vr;exact⟨_,h.freezeZ d z hr r0 CR⟩
 |none=>exact⟨Im,h⟩
def B3:L->Option (List L)|.p (.agg ps)=>some (ps.map .p)|.tup _=>none|.junk=>none|l=>some [l]
def Bo(t:TypeId):Option Nat:=(P.info? t).map (·.bytes)
def St.freezeOps(s:St):List Operand->St
 |[]=>s
 |x::xs=>match s.get x with
  |.own d _ _=>if d<1000 then(s.freeze d).freezeOps xs else s.freezeOps xs
  |.mref d=>if d<1000 then(s.freeze d).freezeOps xs else s.freezeOps xs
  |_=>s.freezeOps xs
def Nv(t:TypeId)(s:St)(a x:Operand)(K:St->Prop):Prop:=
 match s.get a with
 |.ptr d i j=>match Am d s.regs with
  |some (.var T cs)=>∃xs,B3 (s.get x)=some xs/\i=0/\xs.length=P.cellsOf t/\P.cellsOf t≠0/\j+xs.length<=cs.length /\
    K { s with regs:=Bs d (.var T (cs.take j++xs++cs.drop (j+xs.length))) s.regs }
  |some (.row T sz es)=>∃xs,B3 ((s.freezeOps [x]).get x)=some xs/\∃ps,Bg L.pure? xs=some ps/\∃e,es[i]?=some e/\ps.length=P.cellsOf t/\P.cellsOf t≠0/\j+ps.length<=e.length /\
    Am d (s.freezeOps [x]).regs=some (.row T sz es)/\(s.freezeOps [x]).get a=.ptr d i j /\
    K { (s.freezeOps [x])with regs:=Bs d (.row T sz (es.set i (e.take j++ps++e.drop (j+ps.length)))) (s.freezeOps [x]).regs }
  |some (.lrow T sz f es)=>∃xs,B3 (s.get x)=some xs/\∃e,es[i]?=some e/\xs.length=P.cellsOf t/\P.cellsOf t≠0/\j+xs.length<=e.length /\
    K { s with regs:=Bs d (.lrow T sz f (es.set i (e.take j++xs++e.drop (j+xs.length)))) s.regs }
  |some (.obj _)=>False
  |none=>False
 |_=>False
def Ft{l:L}{xs:List L}(h:CE β w Im v l)(hx:B3 l=some xs) :
  v.cells.toList.length=xs.length/\(∀(i:Nat) (u:Value) (x:L),v.cells.toList[i]?=some u->xs[i]?=some x->CE β w Im u x)/\(∀x∈xs,x.cellOK=true)/\∀u∈v.cells.toList,u.oneCell'=true:=by
 have JS:∀(v:Value) (l:L),CE β w Im v l->l.cellOK=true->v.cells = #[v]->v.oneCell'=true ->
   v.cells.toList.length=[l].length/\(∀(i:Nat) (u:Value) (x:L),v.cells.toList[i]?=some u->[l][i]?=some x->CE β w Im u x)/\(∀x∈[l],x.cellOK=true)/\∀u∈v.cells.toList,u.oneCell'=true:=by
  intro v l h hc hv h1;rw[hv];refine⟨rfl,fun i u x hu hx=>?_,fun x hx=>by simp at hx;rw[hx];exact hc,fun u hu=>by simp at hu;rw[hu];exact h1⟩;cases i with
  |zero=>simp at hu hx;subst hu;subst hx;exact h
  |succ i=>simp at hu
 cases l with
 |p x =>
  cases x with
  |agg ps =>
   simp only[B3]at hx;cases hx;cases h with
   |agg cs _ hl hs hp =>
   refine⟨by simpa[Value.cells]using hl,fun i u x hu hx=>?_,fun x hx=>?_,fun u hu=>?_⟩
   ·rw[Eam]at hx;obtain⟨p,IA,rfl⟩:=HF.1 hx;exact hp i u p hu IA
   ·obtain⟨p,IA,rfl⟩:=FB.1 hx;exact hs p IA
   ·simp only[Value.cells]at hu;obtain⟨i,hi,rfl⟩:=PN hu;have pE:i<ps.length:=by rw[<-hl];exact hi
    exact(hp i _ _ (C' hi) (C' pE)).one (hs _ (UN pE))
  |_ =>
   simp only[B3]at hx;cases hx;exact JS v _ h rfl (BW.cells_scalar h rfl) (BW.one h rfl)
 |ptr d i j =>
  simp only[B3]at hx;cases hx;have h':=h;obtain⟨loc,_,rfl⟩:=h';exact JS _ _ h rfl rfl rfl
 |own d By len =>
  simp only[B3]at hx;cases hx;have h':=h;rcases h' with⟨loc,cap,o,_,_,_,_,rfl⟩|⟨_,_,_,rfl⟩
  ·exact JS _ _ h rfl rfl rfl
  ·exact JS _ _ h rfl rfl rfl
 |cfn f ds =>
  simp only[B3]at hx;cases hx;have h':=h;obtain⟨vs,rfl,_⟩:=h';exact JS _ _ h rfl rfl rfl
 |yld l =>
  simp only[B3]at hx;cases hx;have h':=h;cases h';exact JS _ _ h rfl rfl rfl
 |mref d =>
  simp only[B3]at hx;cases hx;have h':=h;obtain⟨loc,_,rfl⟩:=h';exact JS _ _ h rfl rfl rfl
 |eptr cs =>
  simp only[B3]at hx;cases hx;have h':=h;obtain⟨b,o,_,rfl,_⟩:=h';exact JS _ _ h rfl rfl rfl
 |fn f ds =>
  simp only[B3]at hx;cases hx;have h':=h;obtain⟨vs,rfl,_⟩:=h';exact JS _ _ h rfl rfl rfl
 |tup xs=>simp[B3]at hx
 |junk=>simp[B3]at hx
def DW.freezeOps{Γ:FH}{β:ET}{tmps:Array Value}{w:World}:∀(xs:List Operand) {s:St} {Im:Nat->Prop},DW Γ β Im s tmps w->∃CX,DW Γ β CX (s.freezeOps xs) tmps w
 |[],s,Im,h=>⟨Im,h⟩
 |x::xs,s,Im,h=>by
  simp only[St.freezeOps];split
  ·rename_i d _ _ _;split
   ·obtain⟨CX,h'⟩:=h.freeze d;exact DW.freezeOps xs h'
   ·exact DW.freezeOps xs h
  ·rename_i d _;split
   ·obtain⟨CX,h'⟩:=h.freeze d;exact DW.freezeOps xs h'
   ·exact DW.freezeOps xs h
  ·exact DW.freezeOps xs h
section
variable {P:Program} {Γ:FH} {β:ET} {w:World} {Im:Nat->Prop}
def B6(w:World)(g k:Nat)(cs:Array Value)(h:k≠g):(w.setRow g cs).heap[k]?=w.heap[k]?:=
 setRow_other w g k cs omg
def F5{b o:Nat}(hb:w.heap[b]?=some (.cells ⟨cur⟩ T (0,0)))(hn:v.cells.toList.length=P.cellsOf t)(h0:P.cellsOf t≠0)(DO:o+v.cells.toList.length<=cur.length)(h1:∀u∈v.cells.toList,u.oneCell'=true):(storeVar t ⟨b,o,none⟩ v).run P w=.ok () (w.setRow b ⟨cur.take o++v.cells.toList++cur.drop (o+v.cells.toList.length)⟩):=by
 have hs:=run_storeCells_at P b o T v.cells.toList 0 ⟨cur⟩ w hb (by simpa using DO) h1;simp only[Nat.add_zero]at hs;have DI:v.cells.size=P.cellsOf t:=by simpa using hn
 simp only[storeVar,Sem.run_bind,Bk (P:=P) (t:=t) rfl h0,Result.andThen_ok,DI,ne_eq,not_true_eq_false,if_false,hs]
def CU(cs xs:List α)(j i:Nat)(h:j+xs.length<=cs.length):(cs.take j++xs++cs.drop (j+xs.length))[i]?=if i<j then cs[i]? else if i<j+xs.length then xs[i-j]? else cs[i]?:=by
 have hl:(cs.take j).length=j:=by rw[GF];exact b4 omg
 by_cases h1:i<j
 ·rw[AB h1,KJ,NZ omg,IQ,AB h1]
 ·rw[AA h1,KJ,Mr omg,hl];by_cases h2:i<j+xs.length
  ·rw[AB h2,NZ omg]
  ·rw[AA h2,Mr omg,cm];congr 1;omega
def Bz(cs xs:List α)(j:Nat)(h:j+xs.length<=cs.length):(cs.take j++xs++cs.drop (j+xs.length)).length=cs.length:=by
 simp;omega
def Uo(h:DW Γ β Im s a.tmps w){x y:Operand}(hl:Nv P t s x y K) :
  ∃w' s' CX,(Instr.storeAt t (a.eval x) (a.eval y)).run P w=.ok () w'/\K s'/\DW Γ β CX s' a.tmps w':=by
 unfold Nv at hl;have hx:=A2 h.fit x;split at hl
 ·rename_i d i j hg;rw[hg]at hx;obtain⟨loc,CM,hv⟩:=hx;split at hl
  ·rename_i T cs hr;obtain⟨xs,dA,rfl,hn,h0,DO,hK⟩:=hl;have CR:=Ax hr;obtain⟨CO,cur,CF,DI,gX,hb,CY,CP⟩:=h.fit.regs d _ CR;rw[CM]at CF;cases CF;obtain⟨c1,c2,c3,c4⟩:=Ft (A2 h.fit y) dA;have DE:=F5 (P:=P) (t:=t) (o:=j) hb (c1.trans hn) h0 (by rw[c1,CY];exact DO) c4;refine⟨w.setRow loc.blk ⟨cur.take j++(a.eval y).cells.toList++cur.drop (j+(a.eval y).cells.toList.length)⟩,_,Im,?_,hK,h.store CR CM rfl rfl rfl (by simp[World.setRow]) (fun k hk=>B6 _ _ _ _ hk) ?_⟩
   ·simp only[Instr.storeAt,hv,Instr.sureAddr,Sem.run_bind,Sem.run_pure,Result.andThen_ok,og,MF,DE]
   ·have hk:ED w Im (w.setRow loc.blk ⟨cur.take j++(a.eval y).cells.toList++cur.drop (j+(a.eval y).cells.toList.length)⟩) Im:=
     ⟨fun _ h=>h,fun b HN=>B6 _ _ _ _ fun e=>(h.fit.live d _ loc CR CM).2 (e▸HN)⟩
    refine⟨loc,_,CM,by rw[Bz _ _ _ DO];exact DI,gX,setRow_heap w loc.blk _ _ _ _ hb,by rw[Bz _ _ _ (by rw[c1,CY];exact DO),Bz _ _ _ DO];exact CY,fun k u l hu DB=>?_⟩;rw[CU _ _ _ _ (by rw[c1,CY];exact DO)]at hu;rw[CU _ _ _ _ DO]at DB;rw[c1]at hu;by_cases g1:k<j
    ·rw[AB g1]at hu DB;exact⟨(CP k u l hu DB).1.mono' hk,(CP k u l hu DB).2⟩
    ·rw[AA g1]at hu DB;by_cases g2:k<j+xs.length
     ·rw[AB g2]at hu DB;exact⟨(c2 _ u l hu DB).mono' hk,.inl (c3 l (D4 DB))⟩
     ·rw[AA g2]at hu DB;exact⟨(CP k u l hu DB).1.mono' hk,(CP k u l hu DB).2⟩
  ·rename_i T sz es hr;obtain⟨xs,dA,ps,F',e,he,hn,h0,DO,UW,PE,hK⟩:=hl;obtain⟨CX,h'⟩:=DW.freezeOps (s:=s) [y] h;have CR:=Ax UW;obtain⟨c1,c2,c3,c4⟩:=Ft (A2 h'.fit y) dA;obtain⟨D',YR⟩:=Bh F';rcases h'.fit.regs d _ CR with⟨_,rfl⟩|⟨CO,cur,CF,DI,hb,FI,PC,HW,EF,CP⟩
   ·simp at he
   ·rw[CM]at CF;cases CF;have XX:=EF e (D4 he);have VO:=(DX.1 he).1;have Pp:(a.eval y).cells.toList.length=ps.length:=by rw[c1,D']
    have FU:i*sz+j+ps.length<=cur.length:=by
     obtain⟨v,hv,_⟩:=CP i e (j+ps.length-1) _ he (C' omg);have:=(DX.1 hv).1;omega
    have DE:=F5 (P:=P) (t:=t) (o:=i*loc.sz+j) hb (Pp.trans hn) h0 (by rw[Pp,DI];exact FU) c4;refine⟨w.setRow loc.blk ⟨cur.take (i*loc.sz+j)++(a.eval y).cells.toList++cur.drop (i*loc.sz+j+(a.eval y).cells.toList.length)⟩,_,CX,?_,hK,h'.store CR CM rfl rfl rfl (by simp[World.setRow]) (fun k hk=>B6 _ _ _ _ hk) (.inr ?_)⟩
    ·simp only[Instr.storeAt,hv,Instr.sureAddr,Sem.run_bind,Sem.run_pure,Result.andThen_ok,DE]
    ·rw[DI];have hk:ED w CX (w.setRow loc.blk ⟨cur.take (i*sz+j)++(a.eval y).cells.toList++cur.drop (i*sz+j+(a.eval y).cells.toList.length)⟩) CX:=
      ⟨fun _ h=>h,fun b HN=>B6 _ _ _ _ fun e=>(h'.fit.live d _ loc CR CM).2 (e▸HN)⟩
     have zQ:∀p∈ps,p.scalar=true:=by
      intro p hp;obtain⟨k,IE,rfl⟩:=PN hp;obtain⟨l,DB⟩:=BQ D' (C' IE);have h1:=YR k l _ DB (C' IE);cases l<;>simp[L.pure?]at h1;have:=c3 _ (D4 DB);subst h1;exact this
     refine⟨loc,_,CM,DI,setRow_heap w loc.blk _ _ _ _ hb,by rw[Bz _ _ _ (by rw[Pp];exact FU)];exact FI,by simpa using PC,HW,fun x hx=>?_,fun i' e' j' p JM LM=>?_⟩
     ·rcases cc hx with hx|rfl
      ·exact EF x hx
      ·refine⟨by rw[Bz _ _ _ DO];exact XX.1,fun p hp=>?_⟩;rcases H'.1 hp with hp|hp
       ·rcases H'.1 hp with hp|hp
        ·exact XX.2 p (UL hp)
        ·exact zQ p hp
       ·exact XX.2 p (OR hp)
     ·rw[SO]at JM;have DA:i'≠i->∀q,q<sz->¬(i*sz+j<=i'*sz+q/\i'*sz+q<i*sz+j+ps.length):=by
       intro DA q hq;have fL:j+ps.length<=sz:=by rw[<-XX.1];exact DO
       rcases Nat.lt_or_gt_of_ne DA with BZ|IG
       ·have:(i'+1)*sz<=i*sz:=M' _ BZ;rw[ME]at this;omega
       ·have:(i+1)*sz<=i'*sz:=M' _ IG;rw[ME]at this;omega
      by_cases gk:i=i'
      ·subst gk;rw[AB rfl,AB VO]at JM;cases JM;rw[CU _ _ _ _ DO]at LM;rw[CU _ _ _ _ (by rw[Pp];exact FU),Pp];rw[Pp]at hk;by_cases g1:j'<j
       ·rw[AB g1]at LM;rw[AB omg];obtain⟨u,hu,hp⟩:=CP i e j' p he LM;exact⟨u,hu,hp.mono hk⟩
       ·rw[AA g1]at LM;by_cases g2:j'<j+ps.length
        ·rw[AB g2]at LM;rw[AA omg,AB omg];obtain⟨l,DB⟩:=BQ D' LM;obtain⟨u,hu⟩:=BQ Pp LM;refine⟨u,by rw[<-hu];congr 1;omega,?_⟩;have h1:=YR _ l p DB LM;cases l<;>simp[L.pure?]at h1;subst h1;exact BW.mono hk (c2 _ u _ hu DB)
        ·rw[AA g2]at LM;rw[AA omg,AA omg];obtain⟨u,hu,hp⟩:=CP i e j' p he LM;exact⟨u,hu,hp.mono hk⟩
      ·rw[AA gk]at JM;obtain⟨u,hu,hp⟩:=CP i' e' j' p JM LM;have hq:j'<sz:=by rw[<-(EF e' (D4 JM)).1];exact(DX.1 LM).1
       have:=DA (Ne.symm gk) j' hq;refine⟨u,?_,hp.mono hk⟩;rw[CU _ _ _ _ (by rw[Pp];exact FU),Pp];by_cases g1:i'*sz+j'<i*sz+j
       ·rw[AB g1];exact hu
       ·rw[AA g1,AA omg];exact hu
  ·rename_i T sz f es hr;obtain⟨xs,dA,e,he,hn,h0,DO,hK⟩:=hl;have CR:=Ax hr;obtain⟨c1,c2,c3,c4⟩:=Ft (A2 h.fit y) dA;rcases h.fit.regs d _ CR with⟨_,rfl⟩|⟨CO,cur,CF,DI,hb,FI,PC,UT,HW,EF,CP⟩
   ·simp at he
   ·rw[CM]at CF;cases CF;have XX:=EF e (D4 he);have VO:=(DX.1 he).1;have FU:i*sz+j+xs.length<=cur.length:=by
     obtain⟨v,hv,_⟩:=CP i e (j+xs.length-1) _ he (C' omg);have:=(DX.1 hv).1;omega
    have DE:=F5 (P:=P) (t:=t) (o:=i*loc.sz+j) hb (c1.trans hn) h0 (by rw[c1,DI];exact FU) c4;refine⟨w.setRow loc.blk ⟨cur.take (i*loc.sz+j)++(a.eval y).cells.toList++cur.drop (i*loc.sz+j+(a.eval y).cells.toList.length)⟩,_,Im,?_,hK,h.store CR CM rfl rfl rfl (by simp[World.setRow]) (fun k hk=>B6 _ _ _ _ hk) (.inr ?_)⟩
    ·simp only[Instr.storeAt,hv,Instr.sureAddr,Sem.run_bind,Sem.run_pure,Result.andThen_ok,DE]
    ·rw[DI];have hk:ED w Im (w.setRow loc.blk ⟨cur.take (i*sz+j)++(a.eval y).cells.toList++cur.drop (i*sz+j+(a.eval y).cells.toList.length)⟩) Im:=
      ⟨fun _ h=>h,fun b HN=>B6 _ _ _ _ fun e=>(h.fit.live d _ loc CR CM).2 (e▸HN)⟩
     refine⟨loc,_,CM,DI,setRow_heap w loc.blk _ _ _ _ hb,by rw[Bz _ _ _ (by rw[c1];exact FU)];exact FI,by simpa using PC,by simpa using UT,HW,fun x hx=>?_,fun i' e' j' p JM LM=>?_⟩
     ·rcases cc hx with hx|rfl
      ·exact EF x hx
      ·rw[Bz _ _ _ DO];exact XX
     ·rw[SO]at JM;have DA:i'≠i->∀q,q<sz->¬(i*sz+j<=i'*sz+q/\i'*sz+q<i*sz+j+xs.length):=by
       intro DA q hq;have fL:j+xs.length<=sz:=by rw[<-XX];exact DO
       rcases Nat.lt_or_gt_of_ne DA with BZ|IG
       ·have:(i'+1)*sz<=i*sz:=M' _ BZ;rw[ME]at this;omega
       ·have:(i+1)*sz<=i'*sz:=M' _ IG;rw[ME]at this;omega
      by_cases gk:i=i'
      ·subst gk;rw[AB rfl,AB VO]at JM;cases JM;rw[CU _ _ _ _ DO]at LM;rw[CU _ _ _ _ (by rw[c1];exact FU),c1];rw[c1]at hk;by_cases g1:j'<j
       ·rw[AB g1]at LM;rw[AB omg];obtain⟨u,hu,hp,IY⟩:=CP i e j' p he LM;exact⟨u,hu,hp.mono' hk,IY⟩
       ·rw[AA g1]at LM;by_cases g2:j'<j+xs.length
        ·rw[AB g2]at LM;rw[AA omg,AB omg];obtain⟨u,hu⟩:=BQ c1 LM;exact⟨u,by rw[<-hu];congr 1;omega,(c2 _ u _ hu LM).mono' hk,.inl (c3 _ (D4 LM))⟩
        ·rw[AA g2]at LM;rw[AA omg,AA omg];obtain⟨u,hu,hp,IY⟩:=CP i e j' p he LM;exact⟨u,hu,hp.mono' hk,IY⟩
      ·rw[AA gk]at JM;obtain⟨u,hu,hp,IY⟩:=CP i' e' j' p JM LM;have hq:j'<sz:=by rw[<-EF e' (D4 JM)];exact(DX.1 LM).1
       have:=DA (Ne.symm gk) j' hq;refine⟨u,?_,hp.mono' hk,IY⟩;rw[CU _ _ _ _ (by rw[c1];exact FU),c1];by_cases g1:i'*sz+j'<i*sz+j
       ·rw[AB g1];exact hu
       ·rw[AA g1,AA omg];exact hu
  ·exact hl.elim
  ·exact hl.elim
 ·exact hl.elim
end
section
variable {P:Program} {Γ:FH} {β:ET} {w:World} {Im:Nat->Prop}
def Lb(Γ:FH)(a:Act)(d:Tmp)(r:Result Value)(K:St->Prop):Prop := ∃v w' β' CX s' l,r=.ok v w'/\DW Γ β' CX s' a.tmps w'/\CE β' w' CX v l/\K (s'.put (some d) l)
def DY.alloc(nY:∀b,Im b->b<w.heap.size)(o:Obj):DY w Im (w.alloc o) Im where
 os:=rfl
 tape:=rfl
 output:=rfl
 size:=sm
 block k hk:=Below.heap_alloc w o k hk
 im _ h:=h
 new _ h:=.inl h
 lt b h:=by have:=nY b h;simp;omega
def DY.drew(nY:∀b,Im b->b<w.heap.size):DY w Im w.drew Im:=
 ⟨rfl,rfl,rfl,CS _,fun _ _=>rfl,fun _ h=>h,fun _ h=>.inl h,nY⟩
def DY.trans{w1 w2:World}{OV WM:Nat->Prop}(h:DY w Im w1 OV)(k:DY w1 OV w2 WM):DY w Im w2 WM:=
 ⟨k.os.trans h.os,k.tape.trans h.tape,k.output.trans h.output,Nat.le_trans h.size k.size,fun i hi=>(k.block i (NB hi h.size)).trans (h.block i hi),fun b hb=>k.im b (h.im b hb),
  fun b hb=>(k.new b hb).elim (h.new b) fun h'=>.inr (Nat.le_trans h.size h'),k.lt⟩
def DW.newVar(h:DW Γ β Im s tmps w){d:Nat}(hd:d<1000){cs:List L}(hl:cur.length=cs.length)(hr:∀(j:Nat) (v:Value) (l:L),cur[j]?=some v->cs[j]?=some l->CE β w Im v l)(hc:∀l∈cs,l.cellOK=true) :
  DW Γ (MB β d (some ⟨w.heap.size,cs.length,1⟩)) Im (s.newReg d (.var T (cs.map (L.forget d)))) tmps (w.alloc (.cells ⟨cur⟩ T)) /\
   CE (MB β d (some ⟨w.heap.size,cs.length,1⟩)) (w.alloc (.cells ⟨cur⟩ T)) Im (.pointer (some ⟨w.heap.size,0,none⟩)) (.ptr d 0 0):=by
 have g:=DY.alloc (w:=w) h.fit.im (.cells ⟨cur⟩ T);refine⟨h.newReg hd g (fun loc hl=>by cases hl;exact⟨CS _,by simp⟩) ?_,⟨_,B4,by simp⟩⟩;refine⟨⟨w.heap.size,cs.length,1⟩,cur,B4,by simp,rfl,heap_alloc_new w _,by simpa using hl,fun j v l hv DB=>?_⟩;rw[Eam]at DB;obtain⟨l',IX,rfl⟩:=HF.1 DB;exact⟨((hr j v l' hv IX).mono' (g.keeps h.fit.im)).forget fun e he=>Oa he,J4 d l' (.inl (hc l' (D4 IX)))⟩
def Wg(P:Program)(d:Nat)(T:TypeId)(s:St)(K:St->Prop):Prop := d<1000/\∃zs,Bu P T=some zs/\K ((s.newReg d (.var T (zs.map .p))).put (some d) (.ptr d 0 0))
def Wu(zs:List PV):(zs.map L.p).map (L.forget d)=zs.map L.p:=by
 rw[OT];apply UM;intro p _;simp[L.forget,L.mentions]
def Wi(h:DW Γ β Im s a.tmps w){d:Nat}(hl:Wg P d T s K):Lb Γ a d ((Instr.alloc T true (.tuple #[])).run P w) K:=by
 obtain⟨hd,zs,hz,hK⟩:=hl;obtain⟨zv,DE,_,CY,CT,LI⟩:=D0 hz;obtain⟨h1,h2⟩:=h.newVar hd (T:=T) (cur:=zv.cells.toList) (cs:=zs.map .p) (by simpa using CY) (fun j v l hv hl=>by
  rw[Eam]at hl;obtain⟨p,hp,rfl⟩:=HF.1 hl;exact CT w Im j v p hv hp) (fun l hl=>by
  obtain⟨p,hp,rfl⟩:=FB.1 hl;exact LI p hp)
 rw[Wu]at h1;exact⟨_,_,_,Im,_,_,by simp[Instr.alloc,DE,newVar,newRow],h1,h2,hK⟩
def dB(T:TypeId)(s:St)(x:Operand)(K:St->Prop):Prop := d<1000/\∃xs,B3 (s.get x)=some xs/\K ((s.newReg d (.var T (xs.map (L.forget d)))).put (some d) (.ptr d 0 0))
def Jat(h:DW Γ β Im s a.tmps w){d:Nat}{x:Operand}(hl:dB d T s x K):Lb Γ a d ((Instr.box T (a.eval x)).run P w) K:=by
 obtain⟨hd,xs,hx,hK⟩:=hl;obtain⟨c1,c2,c3,c4⟩:=Ft (A2 h.fit x) hx;obtain⟨h1,h2⟩:=h.newVar hd (T:=T) (cur:=(a.eval x).cells.toList) (cs:=xs) c1 c2 c3;exact⟨_,_,_,Im,_,_,by simp[Instr.box,newVar,newRow],h1,h2,hK⟩
def DW.newRow(h:DW Γ β Im s tmps w){d:Nat}(hd:d<1000){tot:Nat}(g:DY w Im w' Im)(DI:w.heap.size<w'.heap.size)(hb:w'.heap[w.heap.size]?=some (.cells ⟨cur⟩ T (0,0)))(hc:cur.length=tot*sz)(DO:es.length<=tot)(HW:tot<=maxLen)(EF:∀e∈es,e.length=sz/\∀p∈e,p.scalar=true)(hr:∀(i:Nat) (e:List PV) (j:Nat) (p:PV),es[i]?=some e->e[j]?=some p->∃v,cur[i*sz+j]?=some v/\BW w Im v p) :
  DW Γ (MB β d (some ⟨w.heap.size,sz,tot⟩)) Im (s.newReg d (.row T sz es)) tmps w' /\
   CE (MB β d (some ⟨w.heap.size,sz,tot⟩)) w' Im (.slice (some ⟨w.heap.size,0,none⟩) es.length tot) (.own d 0 es.length):=by
 refine⟨h.newReg hd g (fun loc hl=>by cases hl;exact⟨CS _,DI⟩) (.inr ?_),.inl ⟨_,tot,0,B4,by simp,DO,by simp,rfl⟩⟩;exact⟨_,cur,B4,rfl,hb,hc,DO,HW,EF,fun i e j p hi hj=>by
  obtain⟨v,hv,hp⟩:=hr i e j p hi hj;exact⟨v,hv,hp.mono (g.keeps h.fit.im)⟩⟩
def Jt:Nat->List (Nat×L)->Bool|_,[]=>true|k,(i,_)::r=>i==k&&Jt (k+1) r
def Dn(sz:Nat):List (Nat×L)->Option (List (List PV))
 |[]=>some []
 |(_,x)::r=>match B3 x with
  |some xs=>match Bg L.pure? xs with
   |some ps=>if ps.length=sz then match Dn sz r with
    |some es=>some (ps::es)
    |none=>none else none
   |none=>none
  |none=>none
def Fo(P:Program)(d:Nat)(t:TypeId)(n:Nat)(s:St)(parts:List (Nat×Operand))(K:St->Prop):Prop:=
 d<1000/\n<=16777216/\match IW P t with
 |some (e,sz)=>n*sz<=16777216/\(∃zs,Bu P e=some zs/\zs.length=sz)/\parts.length=n/\Jt 0 (parts.map fun(i,x)=>(i,(s.freezeOps (parts.map (·.2))).get x))=true /\
   ∃es,Dn sz (parts.map fun(i,x)=>(i,(s.freezeOps (parts.map (·.2))).get x))=some es /\
   K (((s.freezeOps (parts.map (·.2))).newReg d (.row e sz es)).put (some d) (.own d 0 n))
 |none=>False
def Oh{sz:Nat}:∀(parts:List (Nat×Value)) (ls:List (Nat×L)) (k:Nat) (cs:List Value) (es:List (List PV)),parts.length=ls.length ->
  (∀(i:Nat) (u:Nat×Value) (x:Nat×L),parts[i]?=some u->ls[i]?=some x->u.1=x.1/\CE β w Im u.2 x.2)->Jt k ls=true->Dn sz ls=some es->(k+parts.length)*sz<=cs.length ->
  ∃
   news,Instr.fill (fun i=>some (i*sz,sz)) ⟨cs⟩ parts=some ⟨cs.take (k*sz)++news++cs.drop (k*sz+news.length)⟩/\es.length=parts.length/\news.length=parts.length*sz/\(∀e∈es,e.length=sz/\∀p∈e,p.scalar=true) /\
   ∀(i:Nat) (e:List PV) (j:Nat) (p:PV),es[i]?=some e->e[j]?=some p->∃v,news[i*sz+j]?=some v/\BW w Im v p
 |[],ls,k,cs,es,hl,_,_,hp,_=>by
  cases ls with
  |nil =>
   simp[Dn]at hp;subst hp;exact⟨[],by simp[Instr.fill],rfl,by simp,by simp,by simp⟩
  |cons=>simp at hl
 |(i,v)::parts,ls,k,cs,es,hl,CT,fM,hp,DO=>by
  cases ls with
  |nil=>simp at hl
  |cons x ls =>
  obtain⟨i',x⟩:=x;obtain⟨e1,e2⟩:=CT 0 _ _ rfl rfl;simp only at e1 e2;subst e1;simp only[Jt,OS,AK]at fM;obtain⟨rfl,fM⟩:=fM;simp only[Dn]at hp;split at hp<;>first|(cases hp;done)|skip
  rename_i xs dA;split at hp<;>first|(cases hp;done)|skip
  rename_i ps F';split at hp<;>first|(cases hp;done)|skip
  rename_i D';split at hp<;>first|(cases hp;done)|skip
  rename_i CN zR;cases hp;obtain⟨c1,c2,c3,c4⟩:=Ft e2 dA;obtain⟨q1,q2⟩:=Bh F';have KZ:v.cells.toList.length=sz:=by rw[c1,q1,D']
  simp only[DH]at DO hl;rw[<-QO,Nat.add_right_comm,ME,ME,YO]at DO;have NF:∀(j:Nat) (p:PV),ps[j]?=some p->∃u,v.cells.toList[j]?=some u/\BW w Im u p/\p.scalar=true:=by
   intro j p hj;obtain⟨l,DB⟩:=BQ q1 hj;obtain⟨u,hu⟩:=BQ c1 DB;have h1:=q2 j l p DB hj;cases l<;>simp[L.pure?]at h1;subst h1;exact⟨u,hu,c2 j u _ hu DB,c3 _ (D4 DB)⟩
  have GH:(cs.take (i*sz)++v.cells.toList++cs.drop (i*sz+v.cells.toList.length)).length=cs.length:=Bz _ _ _ omg;obtain⟨news,h1,h2,h3,h4,h5⟩:=Oh parts ls (i+1) (cs.take (i*sz)++v.cells.toList++cs.drop (i*sz+v.cells.toList.length)) CN omg (fun j u x hu hx=>CT (j+1) u x (by simpa using hu) (by simpa using hx)) fM zR
   (by rw[GH,ME,ME,YO];omega)
  refine⟨v.cells.toList++news,?_,by simp[h2],by simp[h3,KZ,ME];omega,fun e he=>?_,fun i' e j p JM hj=>?_⟩
  ·simp only[Instr.fill];refine(AA (by simp[<-Array.length_toList,KZ];omega)).trans ?_;have ZV:=Ns (i*sz) v.cells.toList 0 cs omg;simp only[Nat.add_zero]at ZV;have e3:Array.foldl (fun(cs:Array Value) (x:Value×Nat)=>cs.setIfInBounds (i*sz+x.2) x.1) (⟨cs⟩:Array Value) v.cells.zipIdx=⟨cs.take (i*sz)++v.cells.toList++cs.drop (i*sz+v.cells.toList.length)⟩:=by
    rw[<-Array.foldl_toList,Array.toList_zipIdx];exact ZV
   refine(congrArg (fun x=>Instr.fill (fun i=>some (i*sz,sz)) x parts) e3).trans (h1.trans ?_);congr 2;apply aN;intro q;have hA:i*sz+v.cells.toList.length<=cs.length:=omg;have hn:(i+1)*sz+news.length<=cs.length:=by rw[h3,ME,YO];omega
   rw[CU _ news ((i+1)*sz) q (by rw[GH];exact hn),CU cs (v.cells.toList++news) (i*sz) q (by simp only[DC];rw[ME,YO]at hn;omega),CU cs _ (i*sz) q hA];rw[ME,YO]at hn⊢;simp only[DC,KZ];by_cases g1:q<i*sz
   ·rw[AB omg,AB g1,AB g1]
   ·by_cases g2:q<i*sz+sz
    ·rw[AB g2,AA g1,AB g2,AA g1,AB omg,NZ omg]
    ·by_cases g3:q<i*sz+sz+news.length
     ·have g4:q<i*sz+(sz+news.length):=omg;simp only[g1,g2,g3,g4,if_true,if_false];rw[Mr omg];congr 1;omega
     ·have g4:¬q<i*sz+(sz+news.length):=omg;simp only[g1,g2,g3,g4,if_false]
  ·rcases DN.1 he with rfl|he
   ·refine⟨D',fun p hp=>?_⟩;obtain⟨j,hj,rfl⟩:=PN hp;obtain⟨u,_,_,h⟩:=NF j _ (C' hj);exact h
   ·exact h4 e he
  ·cases i' with
   |zero =>
    simp at JM;subst JM;obtain⟨u,hu,hp,_⟩:=NF j p hj;have:=(DX.1 hu).1;exact⟨u,by rw[og,MF,NZ this];exact hu,hp⟩
   |succ i' =>
    simp at JM;obtain⟨u,hu,hp⟩:=h5 i' e j p JM hj;refine⟨u,?_,hp⟩;rw[ME,YO,Mr omg,KZ,<-hu];congr 1;omega
def Mw(h:DW Γ β Im s a.tmps w){d t n:Nat}{parts:List (Nat×Operand)}(hl:Fo P d t n s parts K) :
  Lb Γ a d ((Instr.buildSlice t n ⟨parts.map fun(i,x)=>(i,a.eval x)⟩).run P w) K:=by
 obtain⟨hd,hn,hl⟩:=hl;split at hl
 ·rename_i e sz HI;obtain⟨zS,⟨zs,hz,XZ⟩,dC,fM,es,Nx,hK⟩:=hl;obtain⟨ht,IS,h0⟩:=Dw HI;obtain⟨zv,JF,_,IH,_,_⟩:=D0 hz;obtain⟨CX,h'⟩:=DW.freezeOps (parts.map (·.2)) h;obtain⟨cs,WH,nS,nT⟩:∃cs:List Value,cs.length=n*sz/\(n*sz=0->((Array.range (n*sz)).map fun x=>(#[]:Array Value)[x%(#[]:Array Value).size]!)=(⟨cs⟩:Array Value)) /\
    (n*sz≠0->((Array.range (n*sz)).map fun x=>zv.cells[x%zv.cells.size]!)=(⟨cs⟩:Array Value)):=by
   by_cases SY:n*sz=0
   ·exact⟨[],by simp[SY],fun _=>by simp[SY],fun h=>absurd SY h⟩
   ·exact⟨((Array.range (n*sz)).map fun x=>zv.cells[x%zv.cells.size]!).toList,by simp,fun h=>absurd h SY,fun _=>rfl⟩
  obtain⟨news,f1,f2,f3,f4,f5⟩:=Oh (β:=β) (w:=w) (Im:=CX) (sz:=sz) (parts.map fun(i,x)=>(i,a.eval x)) (parts.map fun(i,x)=>(i,(s.freezeOps (parts.map (·.2))).get x)) 0 cs es sm (fun i u x hu hx=>by
   rw[Eam]at hu hx;obtain⟨q,hq,rfl⟩:=HF.1 hu;obtain⟨q',FJ,rfl⟩:=HF.1 hx;rw[hq]at FJ;cases FJ;exact⟨rfl,A2 h'.fit _⟩) fM Nx (by simp;rw[dC,WH];exact CS _)
  simp only[HM]at f2 f3;rw[dC]at f2 f3;have gl:cs.take (0*sz)++news++cs.drop (0*sz+news.length)=news:=by
   rw[og,MF,QN,List.nil_append,List.drop_of_length_le (by rw[f3,WH];exact CS _),ID]
  rw[gl]at f1;have g:=DY.alloc (w:=w) (Im:=CX) h'.fit.im (.cells ⟨news⟩ e);obtain⟨r1,r2⟩:=h'.newRow hd (T:=e) (sz:=sz) (tot:=n) (cur:=news) (es:=es) g sm (heap_alloc_new w _) f3 (by rw[f2];exact CS _) (by unfold maxLen;omega) f4 f5;rw[f2]at r2;refine⟨_,_,_,CX,_,_,?_,r1,r2,hK⟩;have BZ:¬n*sz>2^24:=omg;by_cases SY:n*sz=0
  ·simp only[Instr.buildSlice,Sem.run_bind,run_underlying ht,Result.andThen_ok,Bk IS h0,Sem.run_ite,AA BZ,Sem.run_pure,AB SY,nS SY,f1,Go.newRow,run_newObj];rfl
  ·simp only[Instr.buildSlice,Sem.run_bind,run_underlying ht,Result.andThen_ok,Bk IS h0,Sem.run_ite,AA BZ,Sem.run_pure,AA SY,JF,nT SY,f1,Go.newRow,run_newObj];rfl
 ·exact hl.elim
def Po(h:DW Γ β Im s a.tmps w){t n e:Nat}{parts:List (Nat×Operand)}(HI:IW P t=some (e,sz))(zS:n*sz<=16777216)(hz:∃zs,Bu P e=some zs/\zs.length=sz)(dC:parts.length=n)(fM:Jt 0 (parts.map fun(i,x)=>(i,s.get x))=true)(Nx:Dn sz (parts.map fun(i,x)=>(i,s.get x))=some es) :
  ∃v w' CX,(Instr.buildSlice t n ⟨parts.map fun(i,x)=>(i,a.eval x)⟩).run P w=.ok v w'/\DY w Im w' CX/\BW w' CX v (.sl es):=by
 obtain⟨zs,hz,XZ⟩:=hz;obtain⟨ht,IS,h0⟩:=Dw HI;obtain⟨zv,JF,_,IH,_,_⟩:=D0 hz;obtain⟨cs,WH,nS,nT⟩:∃cs:List Value,cs.length=n*sz/\(n*sz=0->((Array.range (n*sz)).map fun x=>(#[]:Array Value)[x%(#[]:Array Value).size]!)=(⟨cs⟩:Array Value)) /\
   (n*sz≠0->((Array.range (n*sz)).map fun x=>zv.cells[x%zv.cells.size]!)=(⟨cs⟩:Array Value)):=by
  by_cases SY:n*sz=0
  ·exact⟨[],by simp[SY],fun _=>by simp[SY],fun h=>absurd SY h⟩
  ·exact⟨((Array.range (n*sz)).map fun x=>zv.cells[x%zv.cells.size]!).toList,by simp,fun h=>absurd h SY,fun _=>rfl⟩
 obtain⟨news,f1,f2,f3,f4,f5⟩:=Oh (β:=β) (w:=w) (Im:=Im) (sz:=sz) (parts.map fun(i,x)=>(i,a.eval x)) (parts.map fun(i,x)=>(i,s.get x)) 0 cs es sm (fun i u x hu hx=>by
  rw[Eam]at hu hx;obtain⟨q,hq,rfl⟩:=HF.1 hu;obtain⟨q',FJ,rfl⟩:=HF.1 hx;rw[hq]at FJ;cases FJ;exact⟨rfl,A2 h.fit _⟩) fM Nx (by simp;rw[dC,WH];exact CS _)
 simp only[HM]at f2 f3;rw[dC]at f2 f3;have gl:cs.take (0*sz)++news++cs.drop (0*sz+news.length)=news:=by
  rw[og,MF,QN,List.nil_append,List.drop_of_length_le (by rw[f3,WH];exact CS _),ID]
 rw[gl]at f1;have g0:=DY.alloc (w:=w) (Im:=Im) h.fit.im (.cells ⟨news⟩ e);have g:DY w Im (w.alloc (.cells ⟨news⟩ e)) (fun b=>Im b\/b=w.heap.size):=
  ⟨g0.os,g0.tape,g0.output,g0.size,g0.block,fun b hb=>.inl hb,fun b hb=>hb.elim .inl fun h=>.inr omg,fun b hb=>hb.elim (g0.lt b) fun h=>by subst h;simp⟩
 have DE:(Instr.buildSlice t n ⟨parts.map fun(i,x)=>(i,a.eval x)⟩).run P w=.ok (.slice (some ⟨w.heap.size,0,none⟩) n n) (w.alloc (.cells ⟨news⟩ e)):=by
  have BZ:¬n*sz>2^24:=omg;by_cases SY:n*sz=0
  ·simp only[Instr.buildSlice,Sem.run_bind,run_underlying ht,Result.andThen_ok,Bk IS h0,Sem.run_ite,AA BZ,Sem.run_pure,AB SY,nS SY,f1,Go.newRow,run_newObj];rfl
  ·simp only[Instr.buildSlice,Sem.run_bind,run_underlying ht,Result.andThen_ok,Bk IS h0,Sem.run_ite,AA BZ,Sem.run_pure,AA SY,JF,nT SY,f1,Go.newRow,run_newObj];rfl
 refine⟨_,_,_,DE,g,?_⟩;have hk:ED w Im (w.alloc (.cells ⟨news⟩ e)) (fun b=>Im b\/b=w.heap.size):=g.keeps h.fit.im;have RA:(w.alloc (.cells ⟨news⟩ e)).heap[w.heap.size]?=some (.cells ⟨news⟩ e (0,0)):=heap_alloc_new w _;rw[<-f2];refine BW.sl w.heap.size 0 es.length sz es (CS _) (.inr rfl) (fun i j=>news.getD (i*sz+j) undef) (fun x hx=>(f4 x hx).1) (fun x hx=>(f4 x hx).2) (fun i hi j hj=>?_) (fun i x j p hi hj=>?_)
 ·rw[D7 RA,MF];have BZ:i*sz+j<news.length:=by
   rw[f3,<-f2];have:(i+1)*sz<=es.length*sz:=M' _ hi;rw[ME,YO]at this;omega
  simp[GU,BZ]
 ·obtain⟨u,hu,hp⟩:=f5 i x j p hi hj;have:news.getD (i*sz+j) undef=u:=by simp[GU,hu]
  rw[this];exact hp.mono hk
end
end Go.LX
