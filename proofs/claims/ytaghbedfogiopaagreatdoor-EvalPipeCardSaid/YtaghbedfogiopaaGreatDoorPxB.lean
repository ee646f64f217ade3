/- The quiet operations, all together: the run yields what 'lq' says; one value; and only the operands are looked at. -/
import Derived.Test.YtaghbedfogiopaaGreatDoorPxA
set_option linter.unusedSimpArgs false
set_option linter.unusedVariables false
set_option linter.unusedSectionVars false
set_option linter.unnecessarySimpa false
namespace Go.LX
open Go Go.RowKit
section
variable {P:Program} {β:Env} {w:World} {Im:Nat->Prop}
def Jd3 (P:Program) (β:Env) (Im:Nat->Prop) (w:World) (a:Act) (o:Oper) (K:L->Prop):Prop :=
 ∃ v l,(execOp a.eval o).run P w=.ok (.value v) w/\LRep β w Im v l/\K l
theorem C0.oper {r:Sem Value} {K:L->Prop} (h:C0 β Im w (r.run P w) K):∃ v l,((do pure (Next.value (<- r))):Sem Next).run P w=.ok (.value v) w/\LRep β w Im v l/\K l:=by
 obtain ⟨v,l,hr,hl,hK⟩:=h;exact ⟨v,l,by simp[hr],hl,hK⟩
theorem Je5 (x y:List UInt8):((⟨⟨x⟩⟩:ByteArray) == ⟨⟨y⟩⟩)=(x == y):=by
 show ((⟨x⟩:Array UInt8) == ⟨y⟩)=(x == y)
 simp
theorem O5 {k x:PV} {u v:Value} {d:TypeDesc} {b:Bool} (hd:(∃ q,d=.int q)\/d=.string\/d=.bool) (hu:PRep w Im u k) (hv:PRep w Im v x) (hf:kfit d k=true) (h:Lc k x=some b) :
  Instr.sameNow d u v=some b:=by
 unfold Lc at h;split at h
 ·cases hu;cases hv;rcases hd with ⟨q,rfl⟩ | rfl | rfl
  ·split at h
   ·rename_i hk;subst hk;cases h;simp[Instr.sameNow]
   ·cases h
  ·simp[kfit] at hf
  ·simp[kfit] at hf
 ·cases hu;cases hv;cases h;rcases hd with ⟨q,rfl⟩ | rfl | rfl
  ·simp[kfit] at hf
  ·simp only[Instr.sameNow,Je5]
  ·simp[kfit] at hf
 ·cases hu;cases hv;cases h;rcases hd with ⟨q,rfl⟩ | rfl | rfl
  ·simp[kfit] at hf
  ·simp[kfit] at hf
  ·simp[Instr.sameNow]
 ·cases h
theorem Oq {t kt et:TypeId} (h:mapT P t=some (kt,et)):P.underlying t=some (.map kt et)/\∃ d,P.underlying kt=some d/\((∃ q,d=.int q)\/d=.string\/d=.bool):=by
 unfold mapT at h;split at h
 ·rename_i k e ht;split at h<;>first|(cases h;done) | skip
  all_goals (rename_i hk;cases h;refine ⟨ht,_,hk,?_⟩)
  ·exact .inl ⟨_,rfl⟩
  ·exact .inr (.inl rfl)
  ·exact .inr (.inr rfl)
 ·cases h
theorem Hh {d:TypeDesc} (hd:(∃ q,d=.int q)\/d=.string\/d=.bool) {k:PV} {u:Value} (hu:PRep w Im u k) (hf:kfit d k=true) :
  ∀
   (ents:List MapEntry) (es:List (PV×PV)) (i:Nat) (r:Option (Nat×PV)),ents.length=es.length->(∀ (j:Nat) (e:MapEntry) (p:PV×PV),ents[j]? = some e->es[j]? = some p->PRep w Im e.key p.1)->Cl k es i=some r ->
   (r=none/\Instr.findNow d u ents i=some none)\/∃ j x v e,r=some (i+j,x)/\es[j]? = some (v,x)/\ents[j]? = some e/\Instr.findNow d u ents i=some (some (i+j,e.val))
 | [],es,i,r,hl,_,h=>by
  cases es with
  | nil=>simp[Cl] at h;subst h;exact .inl ⟨rfl,rfl⟩
  | cons=>simp at hl
 | e :: ents,es,i,r,hl,hk,h=>by
  cases es with
  | nil=>simp at hl
  | cons p es =>
  obtain ⟨x,v⟩:=p;simp only[Cl] at h;have h0:=hk 0 e (x,v) rfl rfl;split at h
  ·rename_i hq;cases h;have:=O5 hd hu h0 hf hq;exact .inr ⟨0,v,x,e,rfl,rfl,rfl,by simp[Instr.findNow,this]⟩
  ·rename_i hq;have:=O5 hd hu h0 hf hq;rcases Hh hd hu hf ents es (i+1) r (by simpa using hl) (fun j e p he hp=>hk (j+1) e p (by simpa using he) (by simpa using hp)) h with ⟨h1,h2⟩ | ⟨j,y,z,e',h1,h2,h3,h4⟩
   ·exact .inl ⟨h1,by simp[Instr.findNow,this,h2]⟩
   ·exact .inr ⟨j+1,y,z,e',by rw[h1];congr 2;omega,by simpa using h2,by simpa using h3,by simp only[Instr.findNow,this,h4];congr 3;omega⟩
  ·cases h
theorem Bm {kt:TypeId} {d:TypeDesc} (hk:P.underlying kt=some d) (hd:(∃ q,d=.int q)\/d=.string\/d=.bool) (b:Bool) (v:Value):(Instr.checkKey b 10000 kt v).run P w=.ok () w:=by
 have:∀ n,(Instr.checkKey b (n+1) kt v).run P w=.ok () w:=fun n=>by
  rcases hd with ⟨q,rfl⟩ | rfl | rfl<;>simp[Instr.checkKey,run_underlying hk]
 exact this 9999
theorem D0 {T:TypeId} {zs:List PV} (h:Bu P T=some zs):∃ zv,(∀ w,(zeroValue T).run P w=.ok zv w)/\(∃ i,P.info? T=some i/\i.zero=some zv)/\zv.cells.toList.length=zs.length /\
  (∀ w (Im:Nat->Prop) (i:Nat) (v:Value) (p:PV),zv.cells.toList[i]? = some v->zs[i]? = some p->PRep w Im v p)/\∀ p∈zs,p.scalar=true:=by
 unfold Bu at h;split at h<;>first|(cases h;done) | skip
 rename_i inf hinf;split at h<;>first|(cases h;done) | skip
 rename_i zv hzv;obtain ⟨h1,h2⟩:=Bh h;exact ⟨zv,fun w=>by simp[zeroValue,typeInfo,hinf,hzv],⟨inf,hinf,hzv⟩,h1,fun w Im i v p hv hp=>(E6 (h2 i v p hv hp)).1,Dl h⟩
theorem Wp {t:TypeId} {z:PV} (h:E5 P t=some z):∃ zv,(zeroValue t).run P w=.ok zv w/\PRep w Im zv z:=by
 unfold E5 at h;split at h<;>first|(cases h;done) | skip
 rename_i v zs hv hz;obtain ⟨zv,h1,⟨inf,hi,hzi⟩,h3,h4,h5⟩:=D0 hz;have e:v=zv:=by rw[hi] at hv;simp[hzi] at hv;exact hv.symm
 subst e;refine ⟨v,h1 w,?_⟩;split at h
 ·rename_i hag;cases h;cases v<;>simp[Jh9] at hag;exact PRep.agg _ _ h3 h5 (fun i v p hv hp=>h4 w Im i v p hv hp)
 ·rename_i hag;split at h<;>first|(cases h;done) | skip
  cases h;have e:v.cells = #[v]:=by cases v<;>first|rfl | (exact absurd rfl hag)
  exact h4 w Im 0 v z (by rw[e];rfl) rfl
theorem Jbi {s:St} {a:Act} (hf:Fit β w Im s a.tmps) {v:Value} {x:L} {es:List (PV×PV)} (hx:LRep β w Im v x) (h:Tz s.regs x=some es) :
  (v=.map none/\es=[])\/∃ r cl ents,v=.map (some r)/\w.heap[r]? = some (.map ⟨ents⟩ cl)/\MRep w Im ents cl es:=by
 unfold Tz at h;split at h
 ·cases hx;cases h;exact .inl ⟨rfl,rfl⟩
 ·cases h;cases hx with
  | mp r cl ents es hr hw hl hn hb hk hv=>exact .inr ⟨r,cl,ents,rfl,hw,hl,hn,hb,fun i e p he hp=>⟨hk i e p he hp,hv i e p he hp⟩⟩
 ·obtain ⟨loc,hβ,rfl⟩:=hx;split at h
  ·rename_i hr;cases h;obtain ⟨loc',hβ',ents,cl,ho,hM⟩:=hf.regs _ _ (Ax hr);rw[hβ] at hβ';cases hβ';exact .inr ⟨_,cl,ents,rfl,ho,hM⟩
  ·cases h
 ·cases h
theorem tup2 {v u:Value} {p q:PV} (h1:PRep w Im v p) (h2:PRep w Im u q):LRep β w Im (.tuple #[v,u]) (.tup [p,q]):=⟨[v,u],rfl,rfl,fun i y z hi hz=>by
 match i,hi,hz with
 | 0,hi,hz=>simp at hi hz;subst hi;subst hz;exact h1
 | 1,hi,hz=>simp at hi hz;subst hi;subst hz;exact h2
 | i+2,hi,hz=>simp at hi⟩
theorem Ym {s:St} {a:Act} (hf:Fit β w Im s a.tmps) {t:TypeId} {u v:Value} {x ix l:L} {ok:Bool} (hx:LRep β w Im u x) (hi:LRep β w Im v ix) (h:Yc P s.regs t x ix ok l):∃ r,(Instr.lookup t u v ok).run P w=.ok r w/\LRep β w Im r l:=by
 unfold Yc at h;split at h
 ·rename_i kt et es k hT hm;obtain ⟨hkf,r,hr,z,hz,rfl⟩:=h;obtain ⟨ht,d,hk,hd⟩:=Oq hT;obtain ⟨zv,hzr,hzp⟩:=Wp (w:=w) (Im:=Im) hz;have hkf':kfit d k=true:=by
   unfold De at hkf;rw[hk] at hkf;exact hkf
  have fin:∀ (ents:List MapEntry),ents.length=es.length->(∀ (j:Nat) (e:MapEntry) (p:PV×PV),ents[j]? = some e->es[j]? = some p->PRep w Im e.key p.1/\PRep w Im e.val p.2) ->
    ∃ x y,(Instr.findKey kt v ents).run P w=.ok x w/\((x=none/\r=none)\/∃ i e p,x=some (i,e)/\r=some (i,p)/\PRep w Im e p)/\y=x:=by
   intro ents hl hke;rcases Hh (w:=w) (Im:=Im) hd hi hkf' ents es 0 r hl (fun j e p he hp=>(hke j e p he hp).1) hr with ⟨h1,h2⟩ | ⟨j,x,kv,e,h1,h2,h3,h4⟩
   ·exact ⟨none,_,by simp[Instr.findKey,run_underlying hk,h2],.inl ⟨rfl,h1⟩,rfl⟩
   ·exact ⟨some (0+j,e.val),_,by simp[Instr.findKey,run_underlying hk,h4],.inr ⟨0+j,e.val,x,rfl,h1,(hke j e (kv,x) h3 h2).2⟩,rfl⟩
  rcases Jbi hf hx hm with ⟨rfl,rfl⟩ | ⟨r0,cl,ents,rfl,hw,hM⟩
  ·simp[Cl] at hr;subst hr;cases ok
   ·exact ⟨zv,by simp[Instr.lookup,run_underlying ht,Bm hk hd,Instr.findKey,run_underlying hk,Instr.findNow,hzr],hzp⟩
   ·exact ⟨.tuple #[zv,.bool false],by simp[Instr.lookup,run_underlying ht,Bm hk hd,Instr.findKey,run_underlying hk,Instr.findNow,hzr],tup2 hzp (.bool false)⟩
  ·obtain ⟨x,_,hx1,hx2,_⟩:=fin ents hM.1 hM.2.2.2;have hgo:(getObj r0).run P w=.ok (.map ⟨ents⟩ cl) w:=by simp[getObj,Sem.run,hw]
   rcases hx2 with ⟨rfl,rfl⟩ | ⟨i,e,p,rfl,rfl,hp⟩
   ·cases ok
    ·exact ⟨zv,by simp[Instr.lookup,run_underlying ht,hgo,Bm hk hd,hx1,hzr],hzp⟩
    ·exact ⟨.tuple #[zv,.bool false],by simp[Instr.lookup,run_underlying ht,hgo,Bm hk hd,hx1,hzr],tup2 hzp (.bool false)⟩
   ·cases ok
    ·exact ⟨e,by simp[Instr.lookup,run_underlying ht,hgo,Bm hk hd,hx1],hp⟩
    ·exact ⟨.tuple #[e,.bool true],by simp[Instr.lookup,run_underlying ht,hgo,Bm hk hd,hx1],tup2 hp (.bool true)⟩
 ·exact h.elim
theorem Z9 {t:TypeId} {v:Value} {l:L} (h:LRep β w Im v l):LRep β w Im (.iface t v) (.p (M8 t l)):=by
 unfold M8;split
 ·cases h;exact PRep.ifi _ _ _
 ·exact PRep.ifc _ _
theorem Jhw {s:St} {a:Act} (hf:Fit β w Im s a.tmps) {o:Oper} {l:L} (h:lqv P s.regs s.get o.op l):∃ v,(execOp a.eval o).run P w=.ok (.value v) w/\LRep β w Im v l:=by
 unfold execOp;unfold lqv at h;split at h
 ·rename_i t x ho;rw[ho];obtain ⟨⟨d,hd,hn⟩,rfl⟩:=h;refine ⟨.iface t (a.eval x),?_,Z9 (A2 hf x)⟩;cases d<;>first|(exact absurd rfl (hn _)) | simp[Instr.makeInterface,run_underlying hd]
 ·rename_i t x ix ok ho;rw[ho];obtain ⟨r,h1,h2⟩:=Ym hf (A2 hf x) (A2 hf ix) h;exact ⟨r,by simp[h1],h2⟩
 ·rename_i args ts ho;rw[ho];obtain ⟨la⟩:=args;obtain ⟨lt⟩:=ts;simp only at h;split at h<;>first|exact h.elim | skip
  rename_i x t;obtain ⟨⟨e,ht⟩,h⟩:=h;have hx:=A2 hf x;split at h
  ·rename_i hg;subst h;rw[hg] at hx;have hv:a.eval x=.slice none 0 0:=by generalize a.eval x=v at hx;cases hx;rfl
   exact ⟨.int .i64 0,by simp[resolve,invoke,builtin,Builtin.cap_,hv,run_underlying ht,goInt],PRep.int _ _⟩
  ·rename_i d off n hg;rw[hg] at hx;split at h
   ·rename_i T sz es hr;subst h;have hreg:=hf.regs d _ (Ax hr);rcases hx with ⟨loc,cap,o,hβ,hcap,hlc,ho',hv⟩ | ⟨hβ,rfl,rfl,hv⟩
    ·rcases hreg with ⟨hn,_⟩ | ⟨loc',cur,hβ',hsz,hb,hcl,hle,hfu,_⟩
     ·rw[hβ] at hn;cases hn
     ·rw[hβ] at hβ';cases hβ';have hfu:=hfu rfl;have e1:es.length - off=cap:=by omega
      rw[e1];exact ⟨.int .i64 cap,by simp[resolve,invoke,builtin,Builtin.cap_,hv,run_underlying ht,goInt],PRep.int _ _⟩
    ·rcases hreg with ⟨_,rfl⟩ | ⟨loc',cur,hβ',_⟩
     ·exact ⟨.int .i64 0,by simp[resolve,invoke,builtin,Builtin.cap_,hv,run_underlying ht,goInt],PRep.int _ _⟩
     ·rw[hβ] at hβ';cases hβ'
   ·exact h.elim
  ·exact h.elim
 ·rename_i args ts ho;rw[ho];obtain ⟨la⟩:=args;simp only at h;split at h<;>first|exact h.elim | skip
  rename_i x;have hx:=A2 hf x;split at h
  ·rename_i hg;subst h;rw[hg] at hx;have hv:a.eval x=.slice none 0 0:=by generalize a.eval x=v at hx;cases hx;rfl
   exact ⟨.pointer none,by
    have e:∀ ts ty,(Builtin.unsafeSliceData_ ts ty #[.slice none 0 0]).run P w=.ok (.pointer none) w:=fun _ _=>rfl
    simp[resolve,invoke,builtin,hv,e],PRep.nptr⟩
  ·rename_i d off n hg;obtain ⟨h0,rfl⟩:=h;rw[hg] at hx;rcases hx with ⟨loc,cap,o,hβ,hcap,hlc,ho',hv⟩ | ⟨hβ,rfl,rfl,hv⟩
   ·have hc:cap≠0:=by omega
    have e:∀ ts ty,(Builtin.unsafeSliceData_ ts ty #[.slice (some ⟨loc.blk,o,none⟩) n cap]).run P w=.ok (.pointer (some ⟨loc.blk,o,none⟩)) w:=fun ts ty=>by
     show (if cap≠0 then pure (.pointer (some ⟨loc.blk,o,none⟩)) else _:Sem Value).run P w=_;rw[if_pos hc];rfl
    refine ⟨.pointer (some ⟨loc.blk,o,none⟩),by simp[resolve,invoke,builtin,hv,e],loc,hβ,?_⟩;rw[ho' (.inl omg),Nat.add_zero]
   ·omega
  ·exact h.elim
 ·rename_i args ts ho;rw[ho];obtain ⟨la⟩:=args;obtain ⟨lt⟩:=ts;simp only at h;split at h<;>first|exact h.elim | skip
  rename_i x y t ts;obtain ⟨hg,⟨k,hg2⟩,rfl⟩:=h;have hx:=A2 hf x;have hy:=A2 hf y;rw[hg] at hx;rw[hg2] at hy;have hv:a.eval x=.pointer none:=by generalize a.eval x=v at hx;cases hx;rfl
  have hv2:a.eval y=.int k 0:=by generalize a.eval y=v at hy;cases hy;rfl
  refine ⟨.string .empty,?_,PRep.str []⟩;have e:∀ ty,(Builtin.unsafeString_ ⟨t :: ts⟩ ty #[.pointer none,.int k 0]).run P w=.ok (.string .empty) w:=fun ty=>rfl
  simp[resolve,invoke,builtin,hv,hv2,e]
 ·exact h.elim
theorem X5 {s:St} {a:Act} (hf:Fit β w Im s a.tmps) {o:Oper} {K:L->Prop} (h:lq P s.regs s.get o.op K):Jd3 P β Im w a o K:=by
 unfold Jd3;unfold execOp;unfold lq at h;split at h
 ·rename_i x ho;rw[ho];exact ⟨_,_,rfl,A2 hf x,h⟩
 ·rename_i x ho;rw[ho];exact ⟨_,_,rfl,A2 hf x,h⟩
 ·rename_i c x y ho;rw[ho];have hc:=A2 hf c;split at h
  ·rename_i t hg;rw[hg] at hc;cases hv:a.eval c<;>rw[hv] at hc<;>cases hc;cases t
   ·exact ⟨_,_,by simp[hv,asBool],A2 hf y,h.2 rfl⟩
   ·exact ⟨_,_,by simp[hv,asBool],A2 hf x,h.1 rfl⟩
  ·exact h.elim
 ·rename_i op t x y yt ho;rw[ho];exact (Jah x y (A2 hf x) (A2 hf y) h).oper
 ·rename_i op t x ho;rw[ho];exact (Jf0 (A2 hf x) h).oper
 ·rename_i src dst x ho;rw[ho];exact (Jl (A2 hf x) h).oper
 ·rename_i x ho;rw[ho];have hx:=A2 hf x;split at h
  ·rename_i d i j hg;rw[hg] at hx;have hx':=hx;obtain ⟨loc,hβ,hv⟩:=hx';exact ⟨a.eval x,_,by simp[hv],hx,h⟩
  ·rename_i cs hg;rw[hg] at hx;have hx':=hx;obtain ⟨b,o',hb,hv,_⟩:=hx';exact ⟨a.eval x,_,by simp[hv],hx,h⟩
  ·rename_i f ds hg;rw[hg] at hx;have hx':=hx;obtain ⟨vs,hv,_⟩:=hx';exact ⟨a.eval x,_,by simp[hv],hx,h⟩
  ·exact h.elim
 ·rename_i t x ho;rw[ho];exact (Jk hf (A2 hf x) h).oper
 ·rename_i t x f ho;rw[ho];exact (Nm (A2 hf x) h).oper
 ·rename_i t x f ho;rw[ho];exact (U1 (A2 hf x) h).oper
 ·rename_i t x ix ho;rw[ho];exact (Nl hf (A2 hf x) (A2 hf ix) h).oper
 ·rename_i t x ix ho;rw[ho];exact (V0 (A2 hf x) (A2 hf ix) h).oper
 ·rename_i t x lo hi mx ho;rw[ho];exact (V5 hf h).oper
 ·rename_i x i ho;rw[ho];have hx:=A2 hf x;split at h
  ·rename_i xs hg;obtain ⟨c,hc,hK⟩:=h;rw[hg] at hx;obtain ⟨vs,hv,hl,hp⟩:=hx;obtain ⟨v,hvi⟩:=getElem?_of_length hl hc;exact ⟨v,.p c,by simp[Instr.extract,hv,hvi],hp i v c hvi hc,hK⟩
  ·exact h.elim
 ·rename_i t parts ho;rw[ho];have:=Up (P:=P) (β:=β) (w:=w) (Im:=Im) (t:=t) (parts:=parts.toList.map fun (i,x)=>(i,a.eval x)) (ls:=parts.toList.map fun (i,x)=>(i,s.get x)) (K:=K) sm (fun i u x hu hx=>by
   rw[Eam] at hu hx;obtain ⟨q,hq,rfl⟩:=Eal.1 hu;obtain ⟨q',hq',rfl⟩:=Eal.1 hx;rw[hq] at hq';cases hq';exact ⟨rfl,A2 hf _⟩) h
  have e:(parts.map fun (i,x)=>(i,a.eval x))=⟨parts.toList.map fun (i,x)=>(i,a.eval x)⟩:=by
   rw[<- Ebt];simp
  simp only[e];exact this.oper
 ·rename_i f first caps ho
  rw[ho];obtain ⟨rfl,h⟩:=h;unfold Jmn at h;split at h
  ·rename_i ps hps;have hps:=J64 hps;obtain ⟨c,hc,hcp⟩:∃ c,caps.toList=[c]/\s.get c=.eptr ps:=by
    cases hl:caps.toList with
    | nil=>rw[hl] at hps;cases hps
    | cons c l =>
     rw[hl] at hps;simp only[Eaq,Ec7,List.map_eq_nil_iff] at hps;exact ⟨c,by rw[hps.2],hps.1⟩
   have hr:=A2 hf c;rw[hcp] at hr;obtain ⟨b,o,hb,hv,f',hcl,hp⟩:=hr;refine ⟨.func (.func f) #[] #[a.eval c],.p (.clo f ps),?_,?_,h⟩
   ·have e:caps = #[c]:=by rw[<- Ebt,hc]
    simp[Instr.makeFunc,e]
   ·rw[hv];exact PRep.clo f b o ps hb f' (fun p hp'=>by obtain ⟨j,hj⟩:=Ebz hp';exact (hp j p hj).2) hcl fun j p hj=>(hp j p hj).1
  obtain ⟨ds,hds,hK⟩:=h;have hcs:=Ow hds;refine ⟨.func (.func f) #[] ⟨caps.toList.map a.eval⟩,.fn f ds,?_,⟨caps.toList.map a.eval,rfl,?_,fun i x d hi hd=>?_⟩,hK⟩
  ·have e:caps.map a.eval=⟨caps.toList.map a.eval⟩:=by rw[<- Ebt];simp
   simp[Instr.makeFunc,e]
  ·have:=congrArg List.length hcs;simpa using this
  ·rw[Eam] at hi;obtain ⟨c,hc,rfl⟩:=Eal.1 hi;have h1:(caps.toList.map s.get)[i]? = some (s.get c):=by rw[Eam,hc];rfl
   rw[hcs,Eam,hd] at h1;simp at h1;have hr:=A2 hf c;rw[<- h1] at hr;obtain ⟨loc,hβ,hv⟩:=hr;exact ⟨loc,hβ,by simpa using hv⟩
 ·rename_i args ts ho;rw[ho];obtain ⟨la⟩:=args;obtain ⟨lt⟩:=ts;simp only at h;split at h<;>first|exact h.elim | skip
  rename_i x t;obtain ⟨v,l,hr,hl,hK'⟩:=Jb9 (P:=P) (ty:=o.type) (A2 hf x) h;exact ⟨v,l,by simp[resolve,invoke,builtin,hr],hl,hK'⟩
 ·rename_i args ts ho;rw[ho];obtain ⟨la⟩:=args;obtain ⟨v,l,hr,hl,hK'⟩:=K6 (P:=P) (β:=β) (w:=w) (Im:=Im) (b:=true) (ts:=ts) (t:=o.type) (vs:=la.map a.eval) sm (fun i u x hu hx=>by
   rw[Eam] at hu hx;obtain ⟨q,hq,rfl⟩:=Eal.1 hu;obtain ⟨q',hq',rfl⟩:=Eal.1 hx;simp at hq';rw[hq] at hq';cases hq';exact A2 hf _) h
  exact ⟨v,l,by simp[resolve,invoke,builtin];simp at hr;simp[hr],hl,hK'⟩
 ·rename_i args ts ho;rw[ho];obtain ⟨la⟩:=args;obtain ⟨v,l,hr,hl,hK'⟩:=K6 (P:=P) (β:=β) (w:=w) (Im:=Im) (b:=false) (ts:=ts) (t:=o.type) (vs:=la.map a.eval) sm (fun i u x hu hx=>by
   rw[Eam] at hu hx;obtain ⟨q,hq,rfl⟩:=Eal.1 hu;obtain ⟨q',hq',rfl⟩:=Eal.1 hx;simp at hq';rw[hq] at hq';cases hq';exact A2 hf _) h
  exact ⟨v,l,by simp[resolve,invoke,builtin];simp at hr;simp[hr],hl,hK'⟩
 ·obtain ⟨l,h1,hK⟩:=h;obtain ⟨v,h2,h3⟩:=Jhw hf h1;exact ⟨v,l,by unfold execOp at h2;exact h2,h3,hK⟩
theorem Jcn {op:BinOp} {k k':IntKind} {a b:Int} {K:L->Prop} (h:lint op k a k' b K):∃ l,lint op k a k' b (fun m=>m=l)/\K l:=by
 cases op<;>simp only[lint] at h ⊢
 case quo=>exact ⟨_,⟨h.1,h.2.1,rfl⟩,h.2.2⟩
 case rem=>exact ⟨_,⟨h.1,h.2.1,rfl⟩,h.2.2⟩
 all_goals exact ⟨_,⟨h.1,rfl⟩,h.2⟩
theorem Jbg {op:BinOp} {a b:List UInt8} {K:L->Prop} (h:lstr op a b K):∃ l,lstr op a b (fun m=>m=l)/\K l:=by
 cases op<;>simp only[lstr] at h ⊢
 case add=>exact ⟨_,⟨h.1,rfl⟩,h.2⟩
 all_goals first|exact h.elim | exact ⟨_,rfl,h⟩
theorem Jax {op:BinOp} {t:TypeId} {c:Bool} {x y:L} {K:L->Prop} (h:lbin P op t c x y K):∃ l,lbin P op t c x y (fun m=>m=l)/\K l:=by
 unfold lbin at h ⊢;split at h
 ·exact Jcn h
 ·exact Jbg h
 ·obtain ⟨ht,h⟩:=h;cases op<;>simp only at h ⊢<;>first|exact h.elim | exact ⟨_,⟨ht,rfl⟩,h⟩
 ·obtain ⟨ts,hts,r,hr,h⟩:=h;cases op<;>simp only at h ⊢<;>first|exact h.elim | exact ⟨_,⟨ts,hts,r,hr,rfl⟩,h⟩
 ·unfold Db at h ⊢;split at h<;>first|exact h.elim | exact ⟨_,rfl,h⟩
theorem Jis {regs:List (Nat×Reg)} {ρ:Operand->L} {op:Op} {K:L->Prop} (h:lq P regs ρ op K):∃ l,lq P regs ρ op (fun m=>m=l)/\K l:=by
 unfold lq at h ⊢;split at h
 ·exact ⟨_,rfl,h⟩
 ·exact ⟨_,rfl,h⟩
 ·split at h
  ·rename_i t _;cases t
   ·exact ⟨_,⟨(fun h=>by cases h),fun _=>rfl⟩,h.2 rfl⟩
   ·exact ⟨_,⟨fun _=>rfl,(fun h=>by cases h)⟩,h.1 rfl⟩
  ·exact h.elim
 ·exact Jax h
 ·simp only[lun] at h ⊢;split at h
  ·exact ⟨_,rfl,h⟩
  ·exact ⟨_,rfl,h⟩
  ·exact h.elim
 ·simp only[J1] at h ⊢;split at h
  ·exact ⟨_,⟨h.1,rfl⟩,h.2⟩
  ·exact ⟨_,⟨h.1,h.2.1,rfl⟩,h.2.2⟩
  ·exact ⟨_,⟨h.1,h.2.1,rfl⟩,h.2.2⟩
  ·obtain ⟨h1,bs,h2,h3⟩:=h;exact ⟨_,⟨h1,bs,h2,rfl⟩,h3⟩
  ·exact h.elim
 ·split at h
  ·exact ⟨_,rfl,h⟩
  ·exact ⟨_,rfl,h⟩
  ·exact ⟨_,rfl,h⟩
  ·exact h.elim
 ·simp only[Jc] at h ⊢;split at h
  ·obtain ⟨c,hc,h⟩:=h;exact ⟨_,⟨c,hc,rfl⟩,h⟩
  ·exact ⟨_,⟨h.1,h.2.1,rfl⟩,h.2.2⟩
  ·split at h
   ·obtain ⟨h0,c,hc,h⟩:=h;exact ⟨_,⟨h0,c,hc,rfl⟩,h⟩
   ·obtain ⟨e,he,c,hc,h⟩:=h;exact ⟨_,⟨e,he,c,hc,rfl⟩,h⟩
   ·obtain ⟨e,he,c,hc,h⟩:=h;exact ⟨_,⟨e,he,c,hc,rfl⟩,h⟩
   ·exact h.elim
   ·exact h.elim
  ·split at h
   ·obtain ⟨h0,h1,h2,ps,hps,h⟩:=h;exact ⟨_,⟨h0,h1,h2,ps,hps,rfl⟩,h⟩
   ·obtain ⟨e,he,h1,h2,h⟩:=h;exact ⟨_,⟨e,he,h1,h2,rfl⟩,h⟩
   ·obtain ⟨e,he,h1,h2,ps,h3,h⟩:=h;exact ⟨_,⟨e,he,h1,h2,ps,h3,rfl⟩,h⟩
   ·exact h.elim
   ·exact h.elim
  ·exact h.elim
 ·simp only[Kj5] at h ⊢;split at h
  ·exact ⟨_,⟨h.1,rfl⟩,h.2⟩
  ·exact ⟨_,rfl,h⟩
  ·exact h.elim
 ·simp only[Q5] at h ⊢;split at h
  ·split at h
   ·exact ⟨_,⟨h.1,rfl⟩,h.2⟩
   ·obtain ⟨h0,c,hc,h⟩:=h;exact ⟨_,⟨h0,c,hc,rfl⟩,h⟩
   ·exact h.elim
  ·exact h.elim
 ·simp only[Dg] at h ⊢;split at h
  ·split at h
   ·obtain ⟨h0,e,he,hl,h⟩:=h;exact ⟨_,⟨h0,e,he,hl,rfl⟩,h⟩
   ·exact h.elim
  ·split at h
   ·exact ⟨_,⟨h.1,h.2.1,h.2.2.1,rfl⟩,h.2.2.2⟩
   ·exact ⟨_,⟨h.1,h.2.1,h.2.2.1,rfl⟩,h.2.2.2⟩
   ·exact h.elim
  ·split at h
   ·exact ⟨_,⟨h.1,h.2.1,rfl⟩,h.2.2⟩
   ·exact h.elim
  ·split at h
   ·exact ⟨_,⟨h.1,h.2.1,h.2.2.1,rfl⟩,h.2.2.2⟩
   ·exact h.elim
  ·exact h.elim
 ·simp only[Ix] at h ⊢;split at h
  ·obtain ⟨h0,c,hc,h⟩:=h;exact ⟨_,⟨h0,c,hc,rfl⟩,h⟩
  ·obtain ⟨h0,h1,h2,h3,c,hc,h⟩:=h;exact ⟨_,⟨h0,h1,h2,h3,c,hc,rfl⟩,h⟩
  ·exact h.elim
 ·simp only[G2] at h ⊢;obtain ⟨hm,h⟩:=h;split at h
  ·obtain ⟨l,hh,h1,h2,h3,h4,h5,h⟩:=h;exact ⟨_,⟨hm,l,hh,h1,h2,h3,h4,h5,rfl⟩,h⟩
  ·obtain ⟨hp,ha,l,hh,h1,h2,h3,h4,h5,h⟩:=h;exact ⟨_,⟨hm,hp,ha,l,hh,h1,h2,h3,h4,h5,rfl⟩,h⟩
  ·obtain ⟨hp,l,hh,h1,h2,h3,h4,h⟩:=h;exact ⟨_,⟨hm,hp,l,hh,h1,h2,h3,h4,rfl⟩,h⟩
  ·obtain ⟨hp,ha,l,hh,h1,h2,h3,h4,h5,h⟩:=h;exact ⟨_,⟨hm,hp,ha,l,hh,h1,h2,h3,h4,h5,rfl⟩,h⟩
  ·exact h.elim
 ·split at h
  ·obtain ⟨c,hc,h⟩:=h;exact ⟨_,⟨c,hc,rfl⟩,h⟩
  ·exact h.elim
 ·exact J58 h
 ·obtain ⟨h0,h⟩:=h;obtain ⟨l,h1,h2⟩:=J82 h;exact ⟨l,⟨h0,h1⟩,h2⟩
 ·split at h
  ·simp only[llen] at h ⊢;split at h<;>first|exact h.elim | exact ⟨_,rfl,h⟩
  ·exact h.elim
 ·simp only[Fj] at h ⊢;split at h
  ·simp only[if_true] at h ⊢;exact ⟨_,rfl,h⟩
  ·exact h.elim
 ·simp only[Fj] at h ⊢;split at h
  ·simp only[Eb0,if_false] at h ⊢;exact ⟨_,rfl,h⟩
  ·exact h.elim
 ·obtain ⟨l,h1,h⟩:=h;exact ⟨l,⟨l,h1,rfl⟩,h⟩
theorem Jg9 {op:BinOp} {k k':IntKind} {a b:Int} {K K':L->Prop} (hK:∀ l,K l->K' l) (h:lint op k a k' b K):lint op k a k' b K':=by
 cases op<;>simp only[lint] at h ⊢
 case quo=>exact ⟨h.1,h.2.1,hK _ h.2.2⟩
 case rem=>exact ⟨h.1,h.2.1,hK _ h.2.2⟩
 all_goals exact ⟨h.1,hK _ h.2⟩
theorem Jfz {op:BinOp} {a b:List UInt8} {K K':L->Prop} (hK:∀ l,K l->K' l) (h:lstr op a b K):lstr op a b K':=by
 cases op<;>simp only[lstr] at h ⊢
 case add=>exact ⟨h.1,hK _ h.2⟩
 all_goals first|exact h.elim | exact hK _ h
theorem Jg2 {op:BinOp} {t:TypeId} {c:Bool} {x y:L} {K K':L->Prop} (hK:∀ l,K l->K' l) (h:lbin P op t c x y K):lbin P op t c x y K':=by
 unfold lbin at h ⊢;split at h
 ·exact Jg9 hK h
 ·exact Jfz hK h
 ·obtain ⟨ht,h⟩:=h;cases op<;>simp only at h ⊢<;>first|exact h.elim | exact ⟨ht,hK _ h⟩
 ·obtain ⟨ts,hts,r,hr,h⟩:=h;cases op<;>simp only at h ⊢<;>first|exact h.elim | exact ⟨ts,hts,r,hr,hK _ h⟩
 ·unfold Db at h ⊢;split at h<;>first|exact h.elim | exact hK _ h
theorem Jpx {regs:List (Nat×Reg)} {ρ:Operand->L} {op:Op} {K K':L->Prop} (hK:∀ l,K l->K' l) (h:lq P regs ρ op K):lq P regs ρ op K':=by
 unfold lq at h ⊢;split at h
 ·exact hK _ h
 ·exact hK _ h
 ·split at h
  ·exact ⟨fun t=>hK _ (h.1 t),fun t=>hK _ (h.2 t)⟩
  ·exact h.elim
 ·exact Jg2 hK h
 ·simp only[lun] at h ⊢;split at h
  ·exact hK _ h
  ·exact hK _ h
  ·exact h.elim
 ·simp only[J1] at h ⊢;split at h
  ·exact ⟨h.1,hK _ h.2⟩
  ·exact ⟨h.1,h.2.1,hK _ h.2.2⟩
  ·exact ⟨h.1,h.2.1,hK _ h.2.2⟩
  ·obtain ⟨h1,bs,h2,h3⟩:=h;exact ⟨h1,bs,h2,hK _ h3⟩
  ·exact h.elim
 ·split at h
  ·exact hK _ h
  ·exact hK _ h
  ·exact hK _ h
  ·exact h.elim
 ·simp only[Jc] at h ⊢;split at h
  ·obtain ⟨c,hc,h⟩:=h;exact ⟨c,hc,hK _ h⟩
  ·exact ⟨h.1,h.2.1,hK _ h.2.2⟩
  ·split at h
   ·obtain ⟨h0,c,hc,h⟩:=h;exact ⟨h0,c,hc,hK _ h⟩
   ·obtain ⟨e,he,c,hc,h⟩:=h;exact ⟨e,he,c,hc,hK _ h⟩
   ·obtain ⟨e,he,c,hc,h⟩:=h;exact ⟨e,he,c,hc,hK _ h⟩
   ·exact h.elim
   ·exact h.elim
  ·split at h
   ·obtain ⟨h0,h1,h2,ps,hps,h⟩:=h;exact ⟨h0,h1,h2,ps,hps,hK _ h⟩
   ·obtain ⟨e,he,h1,h2,h⟩:=h;exact ⟨e,he,h1,h2,hK _ h⟩
   ·obtain ⟨e,he,h1,h2,ps,h3,h⟩:=h;exact ⟨e,he,h1,h2,ps,h3,hK _ h⟩
   ·exact h.elim
   ·exact h.elim
  ·exact h.elim
 ·simp only[Kj5] at h ⊢;split at h
  ·exact ⟨h.1,hK _ h.2⟩
  ·exact hK _ h
  ·exact h.elim
 ·simp only[Q5] at h ⊢;split at h
  ·split at h
   ·exact ⟨h.1,hK _ h.2⟩
   ·obtain ⟨h0,c,hc,h⟩:=h;exact ⟨h0,c,hc,hK _ h⟩
   ·exact h.elim
  ·exact h.elim
 ·simp only[Dg] at h ⊢;split at h
  ·split at h
   ·obtain ⟨h0,e,he,hl,h⟩:=h;exact ⟨h0,e,he,hl,hK _ h⟩
   ·exact h.elim
  ·split at h
   ·exact ⟨h.1,h.2.1,h.2.2.1,hK _ h.2.2.2⟩
   ·exact ⟨h.1,h.2.1,h.2.2.1,hK _ h.2.2.2⟩
   ·exact h.elim
  ·split at h
   ·exact ⟨h.1,h.2.1,hK _ h.2.2⟩
   ·exact h.elim
  ·split at h
   ·exact ⟨h.1,h.2.1,h.2.2.1,hK _ h.2.2.2⟩
   ·exact h.elim
  ·exact h.elim
 ·simp only[Ix] at h ⊢;split at h
  ·obtain ⟨h0,c,hc,h⟩:=h;exact ⟨h0,c,hc,hK _ h⟩
  ·obtain ⟨h0,h1,h2,h3,c,hc,h⟩:=h;exact ⟨h0,h1,h2,h3,c,hc,hK _ h⟩
  ·exact h.elim
 ·simp only[G2] at h ⊢;obtain ⟨hm,h⟩:=h;split at h
  ·obtain ⟨l,hh,h1,h2,h3,h4,h5,h⟩:=h;exact ⟨hm,l,hh,h1,h2,h3,h4,h5,hK _ h⟩
  ·obtain ⟨hp,ha,l,hh,h1,h2,h3,h4,h5,h⟩:=h;exact ⟨hm,hp,ha,l,hh,h1,h2,h3,h4,h5,hK _ h⟩
  ·obtain ⟨hp,l,hh,h1,h2,h3,h4,h⟩:=h;exact ⟨hm,hp,l,hh,h1,h2,h3,h4,hK _ h⟩
  ·obtain ⟨hp,ha,l,hh,h1,h2,h3,h4,h5,h⟩:=h;exact ⟨hm,hp,ha,l,hh,h1,h2,h3,h4,h5,hK _ h⟩
  ·exact h.elim
 ·split at h
  ·obtain ⟨c,hc,h⟩:=h;exact ⟨c,hc,hK _ h⟩
  ·exact h.elim
 ·exact Kal (fun c h=>hK _ h) h
 ·obtain ⟨h0,h⟩:=h;exact ⟨h0,J9i hK h⟩
 ·split at h
  ·simp only[llen] at h ⊢;split at h<;>first|exact h.elim | exact hK _ h
  ·exact h.elim
 ·simp only[Fj] at h ⊢;split at h
  ·simp only[if_true] at h ⊢;exact hK _ h
  ·exact h.elim
 ·simp only[Fj] at h ⊢;split at h
  ·simp only[Eb0,if_false] at h ⊢;exact hK _ h
  ·exact h.elim
 ·obtain ⟨l,h1,h⟩:=h;exact ⟨l,h1,hK _ h⟩
theorem Jfx {regs:List (Nat×Reg)} {ρ ρ':Operand->L} {op:Op} {l:L} (hρ:∀ x∈op.operands.toList,ρ' x=ρ x) (h1:lqv P regs ρ op l):lqv P regs ρ' op l:=by
 unfold lqv at h1 ⊢;split at h1
 ·rename_i t x;rw[hρ x (by simp[Op.operands])];exact h1
 ·rename_i t x ix ok;rw[hρ x (by simp[Op.operands]),hρ ix (by simp[Op.operands])];exact h1
 ·rename_i args ts;split at h1<;>first|exact h1.elim | skip
  rename_i x t hx ht;rw[hρ x (by
        simp[Op.operands,Call.operands];have:x∈args.toList:=by rw[hx];exact Ea0.2 rfl
        simpa using this)]
  exact h1
 ·rename_i args ts;split at h1<;>first|exact h1.elim | skip
  rename_i x hx;rw[hρ x (by
        simp[Op.operands,Call.operands];have:x∈args.toList:=by rw[hx];exact Ea0.2 rfl
        simpa using this)]
  exact h1
 ·rename_i args ts;split at h1<;>first|exact h1.elim | skip
  rename_i x y t ts' hx ht;rw[hρ x (by
        simp[Op.operands,Call.operands];have:x∈args.toList:=by rw[hx];simp
        simpa using this),hρ y (by
                      simp[Op.operands,Call.operands];have:y∈args.toList:=by rw[hx];simp
                      simpa using this)]
  exact h1
 ·exact h1.elim
theorem Jj8 {regs:List (Nat×Reg)} {ρ ρ':Operand->L} {op:Op} {K:L->Prop} (hρ:∀ x∈op.operands.toList,ρ' x=ρ x) (h:lq P regs ρ op K):lq P regs ρ' op K:=by
 unfold lq at h ⊢;split at h
 case h_1 x=>rw[hρ x (by simp[Op.operands])];exact h
 case h_2 x=>rw[hρ x (by simp[Op.operands])];exact h
 case h_3 c x y=>rw[hρ c (by simp[Op.operands]),hρ x (by simp[Op.operands]),hρ y (by simp[Op.operands])];exact h
 case h_4=>rename_i x y _;rw[hρ x (by simp[Op.operands]),hρ y (by simp[Op.operands])];exact h
 case h_5=>rename_i x;rw[hρ x (by simp[Op.operands])];exact h
 case h_6=>rename_i x;rw[hρ x (by simp[Op.operands])];exact h
 case h_7 x=>rw[hρ x (by simp[Op.operands])];exact h
 case h_8=>rename_i x;rw[hρ x (by simp[Op.operands])];exact h
 case h_9=>rename_i x f;rw[hρ x (by simp[Op.operands])];exact h
 case h_10=>rename_i x f;rw[hρ x (by simp[Op.operands])];exact h
 case h_11=>rename_i x y;rw[hρ x (by simp[Op.operands]),hρ y (by simp[Op.operands])];exact h
 case h_12=>rename_i x y;rw[hρ x (by simp[Op.operands]),hρ y (by simp[Op.operands])];exact h
 case h_13 t x lo hi mx =>
  have e1:∀ d,Dr ρ' d lo=Dr ρ d lo:=fun d=>by
   cases lo with
   | none=>rfl
   | some o=>simp only[Dr];rw[hρ o (by simp[Op.operands])]
  have e2:∀ d,Dr ρ' d hi=Dr ρ d hi:=fun d=>by
   cases hi with
   | none=>rfl
   | some o=>simp only[Dr];rw[hρ o (by simp[Op.operands])]
  simp only[G2,e1,e2,hρ x (by simp[Op.operands])] at h ⊢;exact h
 case h_14 x i=>rw[hρ x (by simp[Op.operands])];exact h
 case h_15 t parts =>
  have e:(parts.toList.map fun (i,x)=>(i,ρ' x))=parts.toList.map fun (i,x)=>(i,ρ x):=by
   apply Ebp;rintro ⟨i,x⟩ hm;simp only;rw[hρ x (by simp[Op.operands];exact ⟨i,by simpa using hm⟩)]
  rw[e];exact h
 case h_16 f first caps =>
  have e:caps.toList.map ρ'=caps.toList.map ρ:=Ebp fun x hm=>hρ x (by simp[Op.operands];exact .inr (by simpa using hm))
  rw[e];exact h
 case h_17 args ts =>
  split at h
  ·rename_i x t hx ht;rw[hρ x (by
         simp[Op.operands,Call.operands];have:x∈args.toList:=by rw[hx];exact Ea0.2 rfl
         simpa using this)]
   exact h
  ·exact h.elim
 case h_18 args ts =>
  have e:args.toList.map ρ'=args.toList.map ρ:=Ebp fun x hm=>hρ x (by simp[Op.operands,Call.operands];simpa using hm)
  rw[e];exact h
 case h_19 args ts =>
  have e:args.toList.map ρ'=args.toList.map ρ:=Ebp fun x hm=>hρ x (by simp[Op.operands,Call.operands];simpa using hm)
  rw[e];exact h
 case h_20 =>
  obtain ⟨l,h1,hK⟩:=h;exact ⟨l,Jfx hρ h1,hK⟩
end
structure Base where
 W0:World
 β0:Env
 Im0:Nat->Prop
 may:Nat->Prop
 marks:List Nat
 G:World->(Nat->Prop)->Prop
 mono:∀ {w w':World} {Im Im':Nat->Prop},Keeps w Im w' Im'->G w Im->G w' Im'
structure RRx (Γ:Base) (β:Env) (Im:Nat->Prop) (s:St) (tmps:Array Value) (w:World):Prop where
 fit:Fit β w Im s tmps
 os:w.os=Γ.W0.os
 tape:w.tape=Γ.W0.tape
 output:w.output=Γ.W0.output
 size:Γ.W0.heap.size<=w.heap.size
 block:∀ k,k<Γ.W0.heap.size->¬ Γ.may k->w.heap[k]? = Γ.W0.heap[k]?
 imin:∀ b,Γ.Im0 b->Im b
 imnew:∀ b,Im b->Γ.Im0 b\/Γ.W0.heap.size<=b\/Γ.may b
 regnew:∀ d r loc,(d,r)∈s.regs->β d=some loc->Γ.W0.heap.size<=loc.blk\/Γ.may loc.blk
 fixed:∀ d,1000<=d->d<500000->β d=Γ.β0 d
 glob:Γ.G w Im
 marks:∀ D,D∈Γ.marks->w.heap[D]? = some (.deferred (some []))/\¬ Im D/\Γ.W0.heap.size<=D/\∀ d r loc,(d,r)∈s.regs->β d=some loc->loc.blk≠D
 mnod:Γ.marks.Nodup
def F6 (D:Nat):Deferred:={ target:=.collected D,args:=#[] }
def Base.wm (Γ:Base) (ms:List Nat):Base:={ Γ with marks:=ms }
def RR (Γ:Base) (s:St) (a:Act) (w:World):Prop:=∃ ms,a.defers=ms.map F6/\∃ β Im,RRx (Γ.wm ms) β Im s a.tmps w
theorem RRx.put {Γ:Base} {β:Env} {Im:Nat->Prop} {s:St} {a:Act} {w:World} (h:RRx Γ β Im s a.tmps w) (dst:Option Tmp) {v:Value} {l:L} (hl:LRep β w Im v l) :
  RRx Γ β Im (s.put dst l) (a.put dst v).tmps w :=
 { h with fit:=h.fit.put dst hl,regnew:=by cases dst<;>exact h.regnew,marks:=by cases dst<;>exact h.marks }
theorem RRx.grow {Γ:Base} {β:Env} {w w':World} {Im Im':Nat->Prop} {s:St} {tmps:Array Value} (h:RRx Γ β Im s tmps w) (g:Grow w Im w' Im'):RRx Γ β Im' s tmps w' where
 fit:=h.fit.grow g
 os:=g.os.trans h.os
 tape:=g.tape.trans h.tape
 output:=g.output.trans h.output
 size:=Nat.le_trans h.size g.size
 block k hk hm:=(g.block k (Ebe hk h.size)).trans (h.block k hk hm)
 imin b hb:=g.im b (h.imin b hb)
 imnew b hb:=(g.new b hb).elim (h.imnew b) fun h'=>.inr (.inl (Nat.le_trans h.size h'))
 regnew:=h.regnew
 fixed:=h.fixed
 glob:=Γ.mono (g.keeps h.fit.im) h.glob
 marks D hD:=by
  obtain ⟨h1,h2,h3,h4⟩:=h.marks D hD;have hlt:=(Ea7.1 h1).1;exact ⟨(g.block D hlt).trans h1,fun hi=>(g.new D hi).elim h2 fun h'=>by omega,h3,h4⟩
 mnod:=h.mnod
def L.forget (d:Nat) (l:L):L:=if l.mentions d then .junk else l
def Reg.forget (d:Nat):Reg->Reg
 | .var T cs=>.var T (cs.map (L.forget d))
 | .row T sz es=>.row T sz es
 | .lrow T sz f es=>.lrow T sz f (es.map fun e=>e.map (L.forget d))
 | .obj o=>.obj o
def Cv (d:Nat):List (Nat×Reg)->List (Nat×Reg)
 | []=>[]
 | (e,r) :: rest=>if e=d then Cv d rest else (e,r.forget d) :: Cv d rest
def St.forget (d:Nat) (s:St):St:=⟨s.tmps.map (L.forget d),Cv d s.regs⟩
theorem Bn {d e:Nat} {r:Reg}:∀ {l:List (Nat×Reg)},(e,r)∈Cv d l->e≠d/\∃ r',(e,r')∈l/\r=r'.forget d
 | [],h=>by cases h
 | (e',r') :: rest,h=>by
  simp only[Cv] at h;split at h
  ·obtain ⟨h1,r'',h2,h3⟩:=Bn h;exact ⟨h1,r'',Eai _ h2,h3⟩
  ·rename_i hne;rcases Eak.1 h with h | h
   ·cases h;exact ⟨hne,r',Eaf,rfl⟩
   ·obtain ⟨h1,r'',h2,h3⟩:=Bn h;exact ⟨h1,r'',Eai _ h2,h3⟩
theorem Il {d:Nat}:∀ (l:List (Nat×Reg)),((Cv d l).map (·.1))=(l.map (·.1)).filter (fun e=>decide (e≠d))
 | []=>rfl
 | (e,r) :: rest=>by
  simp only[Cv];split
  ·rename_i h;subst h;simp[Il rest]
  ·rename_i h;simp[Il rest,h]
def Jqu (β:Env) (d:Nat) (x:Option Loc):Env:=fun e=>if e=d then x else β e
theorem LRep.forget {β β':Env} {w:World} {Im:Nat->Prop} {d:Nat} (hβ:∀ e,e≠d->β' e=β e) {v:Value} {l:L} (h:LRep β w Im v l):LRep β' w Im v (l.forget d):=by
 unfold L.forget;split
 ·trivial
 ·rename_i hm;refine h.mono ⟨fun _ h=>h,fun _ _=>rfl⟩ fun e he=>hβ e fun hed=>?_
  subst hed;exact hm he
theorem J4 (d:Nat) (l:L) (h:l.cellOK=true\/l=.junk):(l.forget d).cellOK=true\/l.forget d=.junk:=by
 unfold L.forget;split
 ·exact .inr rfl
 ·exact h
theorem R4 {β β':Env} {w w':World} {Im Im':Nat->Prop} {g:L->L} {cur:List Value} {es:List (List L)} {sz:Nat}
  (hg:∀ (v:Value) (l:L),LRep β w Im v l->LRep β' w' Im' v (g l)) (hc:∀ l:L,(l.cellOK=true\/l=.junk)->(g l).cellOK=true\/g l=.junk)
  (h:∀ (i:Nat) (e:List L) (j:Nat) (l:L),es[i]? = some e->e[j]? = some l->∃ v,cur[i * sz+j]? = some v/\LRep β w Im v l/\(l.cellOK=true\/l=.junk)) :
  ∀ (i:Nat) (e:List L) (j:Nat) (l:L),(es.map fun e=>e.map g)[i]? = some e->e[j]? = some l->∃ v,cur[i * sz+j]? = some v/\LRep β' w' Im' v l/\(l.cellOK=true\/l=.junk):=by
 intro i e j l hi hj;rw[Eam] at hi;obtain ⟨e0,he0,rfl⟩:=Eal.1 hi;rw[Eam] at hj;obtain ⟨l0,hl0,rfl⟩:=Eal.1 hj;obtain ⟨v,h1,h2,h3⟩:=h i e0 j l0 he0 hl0;exact ⟨v,h1,hg v l0 h2,hc l0 h3⟩
theorem Ci.forget {β β':Env} {w:World} {Im:Nat->Prop} {d e:Nat} (hβ:∀ x,x≠d->β' x=β x) (he:e≠d) {r:Reg} (h:Ci β w Im e r):Ci β' w Im e (r.forget d):=by
 cases r with
 | var T cs =>
  obtain ⟨loc,cur,h1,h2,h3,h4,h5,h6⟩:=h;refine ⟨loc,cur,by rw[hβ e he];exact h1,by simpa using h2,h3,h4,by simpa using h5,fun j v l hv hl=>?_⟩;rw[Eam] at hl;obtain ⟨l',hl',rfl⟩:=Eal.1 hl;exact ⟨(h6 j v l' hv hl').1.forget hβ,J4 d l' (h6 j v l' hv hl').2⟩
 | row T sz es =>
  rcases h with ⟨h1,h2⟩ | ⟨loc,cur,h1,h2⟩
  ·exact .inl ⟨by rw[hβ e he];exact h1,h2⟩
  ·exact .inr ⟨loc,cur,by rw[hβ e he];exact h1,h2⟩
 | lrow T sz f es =>
  rcases h with ⟨h1,h2⟩ | ⟨loc,cur,h1,h2,h3,h4,h5,h6,h7,h8,h9⟩
  ·exact .inl ⟨by rw[hβ e he];exact h1,by simp[h2]⟩
  ·refine .inr ⟨loc,cur,by rw[hβ e he];exact h1,h2,h3,h4,by simpa using h5,by simpa using h6,h7,fun x hx=>?_,R4 (fun v l hl=>hl.forget hβ) (J4 d) h9⟩;obtain ⟨y,hy,rfl⟩:=Eap.1 hx;simpa using h8 y hy
 | obj o =>
  obtain ⟨loc,h1,h2⟩:=h;exact ⟨loc,by rw[hβ e he];exact h1,h2⟩
theorem Fit.forget {β β':Env} {w:World} {Im:Nat->Prop} {s:St} {tmps:Array Value} {d:Nat} (hβ:∀ e,e≠d->β' e=β e) (h:Fit β w Im s tmps):Fit β' w Im (s.forget d) tmps where
 size:=by simpa[St.forget] using h.size
 tmps i l hl:=by
  simp only[St.forget,Eam] at hl;obtain ⟨l',hl',rfl⟩:=Eal.1 hl;exact (h.tmps i l' hl').forget hβ
 regs e r hr:=by
  obtain ⟨h1,r',h2,rfl⟩:=Bn hr;exact (h.regs e r' h2).forget hβ h1
 nodup:=by
  simp only[St.forget,Il];exact h.nodup.filter _
 live e r loc hr hl:=by
  obtain ⟨h1,r',h2,rfl⟩:=Bn hr;rw[hβ e h1] at hl;exact h.live e r' loc h2 hl
 apart e r e' r' loc loc' hr hr' hne hl hl':=by
  obtain ⟨h1,q,h2,rfl⟩:=Bn hr;obtain ⟨h1',q',h2',rfl⟩:=Bn hr';rw[hβ e h1] at hl;rw[hβ e' h1'] at hl';exact h.apart e q e' q' loc loc' h2 h2' hne hl hl'
 im:=h.im
def St.newReg (d:Nat) (r:Reg) (s:St):St:=⟨s.tmps.map (L.forget d),(d,r) :: Cv d s.regs⟩
theorem Oa {β:Env} {d e:Nat} {x:Option Loc} (h:e≠d):Jqu β d x e=β e:=by simp[Jqu,h]
theorem B4 {β:Env} {d:Nat} {x:Option Loc}:Jqu β d x d=x:=by simp[Jqu]
theorem RRx.newReg {Γ:Base} {β:Env} {Im:Nat->Prop} {s:St} {tmps:Array Value} {w w':World} (h:RRx Γ β Im s tmps w) {d:Nat} (hd:d<1000) {r:Reg} {x:Option Loc}
  (g:Grow w Im w' Im) (hx:∀ loc,x=some loc->w.heap.size<=loc.blk/\loc.blk<w'.heap.size) (hr:Ci (Jqu β d x) w' Im d r) :
  RRx Γ (Jqu β d x) Im (s.newReg d r) tmps w':=by
 have hd:d<1000\/500000<=d:=.inl hd;have h1:=h.grow g;have hβ:∀ e,e≠d->Jqu β d x e=β e:=fun e he=>Oa he
 have h2:=h1.fit.forget (d:=d) hβ;refine { h1 with fit:=?_,regnew:=fun e q loc hq hl=>?_,fixed:=fun e he he'=>by rw[hβ e omg];exact h.fixed e he he',mnod:=h.mnod,marks:=fun D hD=>?_ }
 ·refine { h2 with regs:=fun e q hq=>?_,nodup:=?_,live:=fun e q loc hq hl=>?_,apart:=fun e q e' q' loc loc' hq hq' hne hl hl'=>?_ }
  ·rcases Eak.1 hq with hq | hq
   ·cases hq;exact hr
   ·exact h2.regs e q hq
  ·simp only[St.newReg,Eaq,Eb5];refine ⟨fun hm=>?_,h2.nodup⟩;obtain ⟨⟨e,q⟩,hq,he⟩:=Eap.1 hm;exact (Bn hq).1 he
  ·rcases Eak.1 hq with hq | hq
   ·cases hq;rw[B4] at hl;obtain ⟨h3,h4⟩:=hx loc hl;exact ⟨h4,fun hi=>by have:=h.fit.im _ hi;omega⟩
   ·exact h2.live e q loc hq hl
  ·have old:∀ e q loc,(e,q)∈Cv d s.regs->Jqu β d x e=some loc->loc.blk<w.heap.size:=by
    intro e q loc hq hl;obtain ⟨h3,q',h4,rfl⟩:=Bn hq;rw[hβ e h3] at hl;exact (h.fit.live e q' loc h4 hl).1
   rcases Eak.1 hq with hq | hq<;>rcases Eak.1 hq' with hq' | hq'
   ·cases hq;cases hq';exact absurd rfl hne
   ·cases hq;rw[B4] at hl;have:=old e' q' loc' hq' hl';have:=(hx loc hl).1;omega
   ·cases hq';rw[B4] at hl';have:=old e q loc hq hl;have:=(hx loc' hl').1;omega
   ·exact h2.apart e q e' q' loc loc' hq hq' hne hl hl'
 ·rcases Eak.1 hq with hq | hq
  ·cases hq;rw[B4] at hl;exact .inl (Nat.le_trans h.size (hx loc hl).1)
  ·obtain ⟨h3,q',h4,rfl⟩:=Bn hq;rw[hβ e h3] at hl;exact h.regnew e q' loc h4 hl
 ·obtain ⟨m1,m2,m3,m4⟩:=h.marks D hD;obtain ⟨n1,n2,n3,_⟩:=h1.marks D hD;refine ⟨n1,n2,n3,fun e q loc hq hl=>?_⟩;have hlt:=(Ea7.1 m1).1;rcases Eak.1 hq with hq | hq
  ·cases hq;rw[B4] at hl;have:=(hx loc hl).1;omega
  ·obtain ⟨h3,q',h4,rfl⟩:=Bn hq;rw[hβ e h3] at hl;exact m4 e q' loc h4 hl
theorem RRx.replace {Γ:Base} {β:Env} {Im:Nat->Prop} {s:St} {tmps:Array Value} {w w':World} (h:RRx Γ β Im s tmps w) {d d':Nat} (hd':d'<1000) {r r':Reg} (hmem:(d,r)∈s.regs) {x:Option Loc}
  (ho:w'.os=w.os) (ht:w'.tape=w.tape) (hu:w'.output=w.output) (hz:w.heap.size<=w'.heap.size) (hb:∀ k,k<w.heap.size->(∀ loc,β d=some loc->k≠loc.blk)->w'.heap[k]? = w.heap[k]?)
  (hx:∀ loc,x=some loc->loc.blk<w'.heap.size/\(w.heap.size<=loc.blk\/∃ loc0,β d=some loc0/\loc0.blk=loc.blk)) (hr:Ci (Jqu β d' x) w' Im d' r') :
  RRx Γ (Jqu β d' x) Im ((s.forget d).newReg d' r') tmps w':=by
 have hβ:∀ e,e≠d'->Jqu β d' x e=β e:=fun e he=>Oa he
 have hk:Keeps w Im w' Im:=⟨fun _ h=>h,fun b hb'=>hb b (h.fit.im b hb') fun loc hl e=>(h.fit.live d r loc hmem hl).2 (e ▸ hb')⟩
 have other:∀ e q loc,(e,q)∈s.regs->e≠d->β e=some loc->w'.heap[loc.blk]? = w.heap[loc.blk]?:=fun e q loc hq hne hl =>
  hb _ (h.fit.live e q loc hq hl).1 fun loc0 hl0=>h.fit.apart e q d r loc loc0 hq hmem hne hl hl0
 have h1:Fit β w' Im (s.forget d) tmps:=by
  have h2:=h.fit.forget (d:=d) (β':=β) (fun _ _=>rfl);refine { h2 with tmps:=fun i l hl=>(h2.tmps i l hl).mono' hk,regs:=fun e q hq=>?_,live:=fun e q loc hq hl=>?_,im:=fun b hb'=>Ebe (h.fit.im b hb') hz }
  ·obtain ⟨g1,q',g2,rfl⟩:=Bn hq;exact (h2.regs e _ hq).mono hk rfl (fun _ _=>rfl) fun loc hl=>other e q' loc g2 g1 hl
  ·exact ⟨Ebe (h2.live e q loc hq hl).1 hz,(h2.live e q loc hq hl).2⟩
 have h2:=h1.forget (d:=d') hβ;have old:∀ e q loc,(e,q)∈Cv d' (s.forget d).regs->Jqu β d' x e=some loc->∃ q',(e,q')∈s.regs/\e≠d/\e≠d'/\β e=some loc:=by
  intro e q loc hq hl;obtain ⟨g1,q',g2,rfl⟩:=Bn hq;obtain ⟨g3,q'',g4,rfl⟩:=Bn g2;rw[hβ e g1] at hl;exact ⟨q'',g4,g3,g1,hl⟩
 have hnew:∀ loc,x=some loc->¬ Im loc.blk/\∀ e q loc',(e,q)∈Cv d' (s.forget d).regs->Jqu β d' x e=some loc'->loc.blk≠loc'.blk:=by
  intro loc hl;obtain ⟨g1,g2⟩:=hx loc hl;rcases g2 with g2 | ⟨loc0,g3,g4⟩
  ·refine ⟨fun hi=>by have:=h.fit.im _ hi;omega,fun e q loc' hq hl'=>?_⟩;obtain ⟨q',k1,k2,k3,k4⟩:=old e q loc' hq hl';have:=(h.fit.live e q' loc' k1 k4).1;omega
  ·rw[<- g4];refine ⟨(h.fit.live d r loc0 hmem g3).2,fun e q loc' hq hl'=>?_⟩;obtain ⟨q',k1,k2,k3,k4⟩:=old e q loc' hq hl';exact h.fit.apart d r e q' loc0 loc' hmem k1 (Ne.symm k2) g3 k4
 refine { fit:=?_,os:=ho.trans h.os,tape:=ht.trans h.tape,output:=hu.trans h.output,size:=Nat.le_trans h.size hz,block:=fun k hk' hm=>?_,imin:=h.imin,imnew:=h.imnew,regnew:=fun e q loc hq hl=>?_,fixed:=fun e he he'=>by rw[hβ e omg];exact h.fixed e he he',glob:=Γ.mono hk h.glob,mnod:=h.mnod,marks:=fun D hD=>?_ }
 ·refine { h2 with regs:=fun e q hq=>?_,nodup:=?_,live:=fun e q loc hq hl=>?_,apart:=fun e q e' q' loc loc' hq hq' hne hl hl'=>?_ }
  ·rcases Eak.1 hq with hq | hq
   ·cases hq;exact hr
   ·exact h2.regs e q hq
  ·simp only[St.newReg,Eaq,Eb5];refine ⟨fun hm=>?_,h2.nodup⟩;obtain ⟨⟨e,q⟩,hq,he⟩:=Eap.1 hm;exact (Bn hq).1 he
  ·rcases Eak.1 hq with hq | hq
   ·cases hq;rw[B4] at hl;exact ⟨(hx loc hl).1,(hnew loc hl).1⟩
   ·exact h2.live e q loc hq hl
  ·rcases Eak.1 hq with hq | hq<;>rcases Eak.1 hq' with hq' | hq'
   ·cases hq;cases hq';exact absurd rfl hne
   ·cases hq;rw[B4] at hl;exact (hnew loc hl).2 e' q' loc' hq' hl'
   ·cases hq';rw[B4] at hl';exact Ne.symm ((hnew loc' hl').2 e q loc hq hl)
   ·exact h2.apart e q e' q' loc loc' hq hq' hne hl hl'
 ·by_cases hkb:∃ loc,β d=some loc/\k=loc.blk
  ·obtain ⟨loc,hl,rfl⟩:=hkb;rcases h.regnew d r loc hmem hl with g | g
   ·omega
   ·exact absurd g hm
  ·rw[hb k (Ebe hk' h.size) fun loc hl e=>hkb ⟨loc,hl,e⟩];exact h.block k hk' hm
 ·rcases Eak.1 hq with hq | hq
  ·cases hq;rw[B4] at hl;rcases (hx loc hl).2 with g | ⟨loc0,g3,g4⟩
   ·exact .inl (Nat.le_trans h.size g)
   ·rcases h.regnew d r loc0 hmem g3 with g | g
    ·exact .inl (g4 ▸ g)
    ·exact .inr (g4 ▸ g)
  ·obtain ⟨q',k1,k2,k3,k4⟩:=old e q loc hq hl;exact h.regnew e q' loc k1 k4
 ·obtain ⟨m1,m2,m3,m4⟩:=h.marks D hD;have hlt:=(Ea7.1 m1).1;refine ⟨(hb D hlt fun loc hl e=>m4 d r loc hmem hl e.symm).trans m1,m2,m3,fun e q loc hq hl=>?_⟩;rcases Eak.1 hq with hq | hq
  ·cases hq;rw[B4] at hl;rcases (hx loc hl).2 with g | ⟨loc0,g3,g4⟩
   ·omega
   ·rw[<- g4];exact m4 d r loc0 hmem g3
  ·obtain ⟨q',k1,k2,k3,k4⟩:=old e q loc hq hl;exact m4 e q' loc k1 k4
theorem RRx.spoil {Γ:Base} {β:Env} {Im:Nat->Prop} {s:St} {tmps:Array Value} {w w':World} (h:RRx Γ β Im s tmps w) {d:Nat} {r:Reg} (hmem:(d,r)∈s.regs)
  (ho:w'.os=w.os) (ht:w'.tape=w.tape) (hu:w'.output=w.output) (hz:w.heap.size<=w'.heap.size) (hb:∀ k,k<w.heap.size->(∀ loc,β d=some loc->k≠loc.blk)->w'.heap[k]? = w.heap[k]?) :
  RRx Γ β Im (s.forget d) tmps w':=by
 have hk:Keeps w Im w' Im:=⟨fun _ h=>h,fun b hb'=>hb b (h.fit.im b hb') fun loc hl e=>(h.fit.live d r loc hmem hl).2 (e ▸ hb')⟩
 have other:∀ e q loc,(e,q)∈s.regs->e≠d->β e=some loc->w'.heap[loc.blk]? = w.heap[loc.blk]?:=fun e q loc hq hne hl =>
  hb _ (h.fit.live e q loc hq hl).1 fun loc0 hl0=>h.fit.apart e q d r loc loc0 hq hmem hne hl hl0
 have h2:=h.fit.forget (d:=d) (β':=β) (fun _ _=>rfl);refine {
     fit:={ h2 with tmps:=fun i l hl=>(h2.tmps i l hl).mono' hk,regs:=fun e q hq=>?_,live:=fun e q loc hq hl=>?_,im:=fun b hb'=>Ebe (h.fit.im b hb') hz }
     os:=ho.trans h.os,tape:=ht.trans h.tape,output:=hu.trans h.output,size:=Nat.le_trans h.size hz,block:=fun k hk' hm=>?_,imin:=h.imin,imnew:=h.imnew,regnew:=fun e q loc hq hl=>?_,fixed:=h.fixed,glob:=Γ.mono hk h.glob,mnod:=h.mnod,marks:=fun D hD=>?_ }
 ·obtain ⟨g1,q',g2,rfl⟩:=Bn hq;exact (h2.regs e _ hq).mono hk rfl (fun _ _=>rfl) fun loc hl=>other e q' loc g2 g1 hl
 ·exact ⟨Ebe (h2.live e q loc hq hl).1 hz,(h2.live e q loc hq hl).2⟩
 ·by_cases hkb:∃ loc,β d=some loc/\k=loc.blk
  ·obtain ⟨loc,hl,rfl⟩:=hkb;rcases h.regnew d r loc hmem hl with g | g
   ·omega
   ·exact absurd g hm
  ·rw[hb k (Ebe hk' h.size) fun loc hl e=>hkb ⟨loc,hl,e⟩];exact h.block k hk' hm
 ·obtain ⟨g1,q',g2,rfl⟩:=Bn hq;exact h.regnew e q' loc g2 hl
 ·obtain ⟨m1,m2,m3,m4⟩:=h.marks D hD;have hlt:=(Ea7.1 m1).1;refine ⟨(hb D hlt fun loc hl e=>m4 d r loc hmem hl e.symm).trans m1,m2,m3,fun e q loc hq hl=>?_⟩;obtain ⟨g1,q',g2,rfl⟩:=Bn hq;exact m4 e q' loc g2 hl
def Bs (d:Nat) (r:Reg):List (Nat×Reg)->List (Nat×Reg)
 | []=>[]
 | (e,q) :: rest=>if e=d then (e,r) :: rest else (e,q) :: Bs d r rest
theorem Ds {d e:Nat} {r q:Reg}:∀ {l:List (Nat×Reg)},(l.map (·.1)).Nodup->(e,q)∈Bs d r l->(e=d/\q=r/\∃ q',(d,q')∈l)\/(e≠d/\(e,q)∈l)
 | [],_,h=>by cases h
 | (e',q') :: rest,hn,h=>by
  simp only[Eaq,Eb5] at hn;simp only[Bs] at h;split at h
  ·rename_i he;subst he;rcases Eak.1 h with h2 | h2
   ·cases h2;exact .inl ⟨rfl,rfl,q',Eaf⟩
   ·by_cases hee:e=e'
    ·subst hee;exact absurd (Eap.2 ⟨(e,q),h2,rfl⟩) hn.1
    ·exact .inr ⟨hee,Eai _ h2⟩
  ·rename_i he;rcases Eak.1 h with h | h
   ·cases h;exact .inr ⟨he,Eaf⟩
   ·rcases Ds hn.2 h with ⟨h1,h2,q'',h3⟩ | ⟨h1,h2⟩
    ·exact .inl ⟨h1,h2,q'',Eai _ h3⟩
    ·exact .inr ⟨h1,Eai _ h2⟩
theorem Kd {d:Nat} {r:Reg}:∀ (l:List (Nat×Reg)),(Bs d r l).map (·.1)=l.map (·.1)
 | []=>rfl
 | (e,q) :: rest=>by
  simp only[Bs];split
  ·rfl
  ·simp[Kd rest]
theorem RRx.store {Γ:Base} {β:Env} {Im:Nat->Prop} {s:St} {tmps:Array Value} {w w':World} (h:RRx Γ β Im s tmps w) {d:Nat} {r r':Reg} {loc:Loc} (hd:(d,r)∈s.regs) (hl:β d=some loc)
  (ho:w'.os=w.os) (ht:w'.tape=w.tape) (hu:w'.output=w.output) (hz:w'.heap.size=w.heap.size) (hb:∀ k,k≠loc.blk->w'.heap[k]? = w.heap[k]?)
  (hr:Ci β w' Im d r'):RRx Γ β Im { s with regs:=Bs d r' s.regs } tmps w':=by
 have hlive:=h.fit.live d r loc hd hl;have hk:Keeps w Im w' Im:=⟨fun _ h=>h,fun b hb'=>hb b fun e=>hlive.2 (e ▸ hb')⟩
 refine { fit:=?_,os:=ho.trans h.os,tape:=ht.trans h.tape,output:=hu.trans h.output,size:=by rw[hz];exact h.size,block:=fun k hk' hm=>?_,imin:=h.imin,imnew:=h.imnew,regnew:=fun e q loc' hq hl'=>?_,fixed:=h.fixed,glob:=Γ.mono hk h.glob,mnod:=h.mnod,marks:=fun D hD=>?_ }
 ·refine { size:=h.fit.size,tmps:=fun i l hl=>(h.fit.tmps i l hl).mono' hk,regs:=fun e q hq=>?_,nodup:=by simp only[Kd];exact h.fit.nodup,live:=fun e q loc' hq hl'=>?_,apart:=fun e q e' q' l1 l2 hq hq' hne h1 h2=>?_,im:=fun b hb'=>by rw[hz];exact h.fit.im b hb' }
  ·rcases Ds h.fit.nodup hq with ⟨rfl,rfl,_⟩ | ⟨hne,hm⟩
   ·exact hr
   ·refine (h.fit.regs e q hm).mono hk rfl (fun _ _=>rfl) fun loc' hl'=>hb _ ?_
    exact h.fit.apart e q d r loc' loc hm hd hne hl' hl
  ·rw[hz];rcases Ds h.fit.nodup hq with ⟨rfl,rfl,_⟩ | ⟨hne,hm⟩
   ·rw[hl] at hl';cases hl';exact hlive
   ·exact h.fit.live e q loc' hm hl'
  ·have key:∀ e q,(e,q)∈Bs d r' s.regs->∃ q',(e,q')∈s.regs:=by
    intro e q hq;rcases Ds h.fit.nodup hq with ⟨rfl,rfl,q',hq'⟩ | ⟨hne,hm⟩
    ·exact ⟨q',hq'⟩
    ·exact ⟨q,hm⟩
   obtain ⟨p,hp⟩:=key e q hq;obtain ⟨p',hp'⟩:=key e' q' hq';exact h.fit.apart e p e' p' l1 l2 hp hp' hne h1 h2
 ·by_cases hkb:k=loc.blk
  ·subst hkb;rcases h.regnew d r loc hd hl with h1 | h1
   ·omega
   ·exact absurd h1 hm
  ·rw[hb k hkb];exact h.block k hk' hm
 ·rcases Ds h.fit.nodup hq with ⟨rfl,rfl,_⟩ | ⟨hne,hm⟩
  ·exact h.regnew e r loc' hd hl'
  ·exact h.regnew e q loc' hm hl'
 ·obtain ⟨m1,m2,m3,m4⟩:=h.marks D hD;refine ⟨(hb D fun e=>m4 d r loc hd hl e.symm).trans m1,m2,m3,fun e q loc' hq hl'=>?_⟩;rcases Ds h.fit.nodup hq with ⟨rfl,rfl,_⟩ | ⟨hne,hm⟩
  ·exact m4 e r loc' hd hl'
  ·exact m4 e q loc' hm hl'
inductive Fz where
 | gone
 | rw (es:List (List PV))
 | mp (es:List (PV×PV))
 | ar (cs:List PV)
def Fz.ptr (z:Fz) (i j:Nat):L :=
 match z with
 | .ar cs=>if i=0/\j<=cs.length then .eptr (cs.drop j) else .junk
 | .gone=>.junk
 | .rw _=>.junk
 | .mp _=>.junk
def Fz.own (z:Fz) (off len:Nat):L :=
 match z with
 | .gone=>.junk
 | .rw es=>if off+len<=es.length then .p (.sl ((es.drop off).take len)) else .junk
 | .mp _=>.junk
 | .ar _=>.junk
def Fz.map (z:Fz):L :=
 match z with
 | .gone=>.junk
 | .rw _=>.junk
 | .mp es=>.p (.mp es)
 | .ar _=>.junk
def L.freeze (d:Nat) (z:Fz):L->L
 | .own e off len=>if e=d then z.own off len else .own e off len
 | .ptr e i j=>if e=d then z.ptr i j else .ptr e i j
 | .fn f ds=>if ds.contains d then .junk else .fn f ds
 | .cfn f ds=>if ds.contains d then .junk else .cfn f ds
 | .mref e=>if e=d then z.map else .mref e
 | l=>l
def Reg.freeze (d:Nat) (z:Fz):Reg->Reg
 | .var T cs=>.var T (cs.map (L.freeze d z))
 | .row T sz es'=>.row T sz es'
 | .lrow T sz f es'=>.lrow T sz f (es'.map fun e=>e.map (L.freeze d z))
 | .obj o=>.obj o
def Cp (d:Nat) (z:Fz):List (Nat×Reg)->List (Nat×Reg)
 | []=>[]
 | (e,r) :: rest=>if e=d then Cp d z rest else (e,r.freeze d z) :: Cp d z rest
def fzOf:Option Reg->Option Fz
 | some (.row _ _ es)=>some (.rw es)
 | some (.obj (.mp es))=>some (.mp es)
 | _=>none
def Dx (d:Nat) (o:Option Fz) (s:St):St :=
 match o with
 | some z=>⟨s.tmps.map (L.freeze d z),Cp d z s.regs⟩
 | none=>s
def St.freeze (d:Nat) (s:St):St:=Dx d (fzOf (Am d s.regs)) s
theorem Cj {d e:Nat} {es:Fz} {r:Reg}:∀ {l:List (Nat×Reg)},(e,r)∈Cp d es l->e≠d/\∃ r',(e,r')∈l/\r=r'.freeze d es
 | [],h=>by cases h
 | (e',r') :: rest,h=>by
  simp only[Cp] at h;split at h
  ·obtain ⟨h1,r'',h2,h3⟩:=Cj h;exact ⟨h1,r'',Eai _ h2,h3⟩
  ·rename_i hne;rcases Eak.1 h with h | h
   ·cases h;exact ⟨hne,r',Eaf,rfl⟩
   ·obtain ⟨h1,r'',h2,h3⟩:=Cj h;exact ⟨h1,r'',Eai _ h2,h3⟩
theorem F7 {d:Nat} {es:Fz}:∀ (l:List (Nat×Reg)),((Cp d es l).map (·.1))=(l.map (·.1)).filter (fun e=>decide (e≠d))
 | []=>rfl
 | (e,r) :: rest=>by
  simp only[Cp];split
  ·rename_i h;subst h;simp[F7 rest]
  ·rename_i h;simp[F7 rest,h]
def Ji4 (β:Env) (w:World) (Im:Nat->Prop) (d:Nat):Fz->Prop
 | .gone=>True
 | .rw es=>∃ T sz,Ci β w Im d (.row T sz es)
 | .mp es=>Ci β w Im d (.obj (.mp es))
 | .ar cs=>∃ T ls,Ci β w Im d (.var T ls)/\Bg L.pure? ls=some cs
theorem LRep.freeze {β:Env} {w:World} {Im Im':Nat->Prop} {d:Nat} {z:Fz} (hr:Ji4 β w Im d z) (hi:∀ b,Im b->Im' b) (hd:∀ loc,β d=some loc->Im' loc.blk)
  {v:Value} {l:L} (h:LRep β w Im v l):LRep β w Im' v (l.freeze d z):=by
 have hk:Keeps w Im w Im':=⟨hi,fun _ _=>rfl⟩
 have same:LRep β w Im' v l:=h.mono' hk;cases l with
 | own e off len =>
  simp only[L.freeze];split
  ·rename_i he;subst he;cases z with
   | gone=>trivial
   | mp es=>trivial
   | ar cs=>trivial
   | rw es =>
   obtain ⟨T,sz,hr⟩:=hr;simp only[Fz.own];split
   ·rename_i hle;have hlen:((es.drop off).take len).length=len:=by simp;omega
    rcases h with ⟨loc,cap,o,hβ,hcap,hl,ho,rfl⟩ | ⟨hβ,rfl,rfl,rfl⟩
    ·rcases hr with ⟨hn,_⟩ | ⟨loc',cur,hβ',hsz,hb,hcl,hle',hml,hel,hcell⟩
     ·rw[hβ] at hn;cases hn
     ·rw[hβ] at hβ';cases hβ';have hmem:∀ x∈(es.drop off).take len,x∈es:=fun x hx=>Ea6 (Ebq hx)
      show PRep w Im' _ _
      conv=>arg 3;rw[<- hlen]
      refine PRep.sl loc.blk o cap sz _ (by rw[hlen];exact hl) (hd loc hβ) (fun i j=>cur.getD ((off+i) * sz+j) undef) (fun x hx=>(hel x (hmem x hx)).1) (fun x hx=>(hel x (hmem x hx)).2) (fun i hi j hj=>?_) (fun i x j p hi hj=>?_)
      ·have hie:off+i<es.length:=by rw[hlen] at hi;omega
       have hc0:0<cap:=by rw[hlen] at hi;omega
       rw[D7 hb,ho (.inl hc0),hsz];have hx:=hel _ (Eb1 hie);obtain ⟨u,hu,_⟩:=hcell (off+i) _ j _ (Eaa hie) (Eaa (by rw[hx.1];exact hj));rw[<- Ebl,hu];simp[Eaj,hu]
      ·rw[Eas] at hi;split at hi
       ·obtain ⟨u,hu,hp⟩:=hcell (off+i) x j p (by simpa using hi) hj;have:cur.getD ((off+i) * sz+j) undef=u:=by simp[Eaj,hu]
        rw[this];exact hp.mono hk
       ·cases hi
    ·have:(es.drop 0).take 0=[]:=by simp
     rw[this];exact PRep.slNil
   ·trivial
  ·exact same
 | ptr e i j =>
  simp only[L.freeze];split
  ·rename_i he;subst he;cases z with
   | gone=>trivial
   | rw es=>trivial
   | mp es=>trivial
   | ar cs =>
    simp only[Fz.ptr];split
    ·rename_i hij;obtain ⟨rfl,hj⟩:=hij;obtain ⟨loc,hβ,rfl⟩:=h;obtain ⟨T,ls,⟨loc',cur,hβ',g2,g3,g4,g5,g6⟩,hp⟩:=hr;rw[hβ] at hβ';cases hβ';obtain ⟨hlen,hsp⟩:=Bh hp;have key:∀ (k:Nat) (p:PV),cs[k]? = some p->∃ v,cur[k]? = some v/\PRep w Im v p/\p.scalar=true:=by
      intro k p hp;obtain ⟨c,hc⟩:=getElem?_of_length hlen hp;obtain ⟨v,hv'⟩:=getElem?_of_length g5 hc;have h1:=hsp k c p hc hp;obtain ⟨r1,r2⟩:=g6 k v c hv' hc;cases c with
      | p q =>
       simp only[L.pure?] at h1;cases h1;refine ⟨v,hv',r1,?_⟩;rcases r2 with r2 | r2
       ·exact r2
       ·cases r2
      | _=>simp[L.pure?] at h1
     have getk:∀ k p,(cs.drop j)[k]? = some p->∃ v,cur[j+k]? = some v/\PRep w Im v p/\p.scalar=true:=fun k p hk'=>key _ _ (by rw[<- Eco];exact hk')
     refine ⟨loc.blk,j,hd loc hβ,by simp,fun k=>cur.getD (j+k) undef,fun k hk'=>?_,fun k p hkp=>?_⟩
     ·obtain ⟨v,hv,_⟩:=getk k _ (Eaa hk');rw[D7 g4,hv];simp[Eaj,hv]
     ·obtain ⟨v,hv,hpv,hsc⟩:=getk k p hkp;have:cur.getD (j+k) undef=v:=by simp[Eaj,hv]
      simp only[this];exact ⟨hpv.mono hk,hsc⟩
    ·trivial
  ·exact same
 | fn f ds=>simp only[L.freeze];split;trivial;exact same
 | cfn f ds=>simp only[L.freeze];split;trivial;exact same
 | mref e =>
  simp only[L.freeze];split
  ·rename_i he;subst he;cases z with
   | gone=>trivial
   | rw es=>trivial
   | ar cs=>trivial
   | mp es =>
    obtain ⟨loc,hβ,rfl⟩:=h;obtain ⟨loc',hβ',ents,cl,ho,hM⟩:=hr;rw[hβ] at hβ';cases hβ';exact PRep.mp loc.blk cl ents es (hd loc hβ) ho hM.1 hM.2.1 hM.2.2.1 (fun i e p he hp=>(hM.2.2.2 i e p he hp).1.mono hk) (fun i e p he hp=>(hM.2.2.2 i e p he hp).2.mono hk)
  ·exact same
 | p x=>exact same
 | eptr cs=>exact same
 | yld l=>exact same
 | tup xs=>exact same
 | junk=>trivial
theorem J52 (z:Fz) (off len:Nat):(z.own off len).cellOK=true\/z.own off len=.junk:=by
 cases z with
 | gone=>exact .inr rfl
 | rw es=>simp only[Fz.own];split;exact .inl rfl;exact .inr rfl
 | mp es=>exact .inr rfl
 | ar cs=>exact .inr rfl
theorem J6i (z:Fz) (i j:Nat):(z.ptr i j).cellOK=true\/z.ptr i j=.junk:=by
 cases z with
 | gone=>exact .inr rfl
 | rw es=>exact .inr rfl
 | mp es=>exact .inr rfl
 | ar cs=>simp only[Fz.ptr];split;exact .inl rfl;exact .inr rfl
theorem J6q (z:Fz):z.map.cellOK=true\/z.map=.junk:=by
 cases z with
 | gone=>exact .inr rfl
 | rw es=>exact .inr rfl
 | mp es=>exact .inl rfl
 | ar cs=>exact .inr rfl
theorem O8 (d:Nat) (z:Fz) (l:L) (h:l.cellOK=true\/l=.junk):(l.freeze d z).cellOK=true\/l.freeze d z=.junk:=by
 rcases h with h | rfl
 ·cases l<;>simp only[L.freeze]<;>first|exact .inl h | (split<;>first|exact J52 .. | exact J6i .. | exact J6q .. | exact .inr rfl | exact .inl rfl)
 ·exact .inr rfl
theorem RRx.freezeZ {Γ:Base} {β:Env} {Im:Nat->Prop} {s:St} {tmps:Array Value} {w:World} (h:RRx Γ β Im s tmps w) (d:Nat) (z:Fz) (hr:Ji4 β w Im d z) (r0:Reg) (hmem:(d,r0)∈s.regs) :
  RRx Γ β (fun b=>Im b\/∃ loc,β d=some loc/\b=loc.blk) (Dx d (some z) s) tmps w:=by
 unfold Dx;simp only;have hi:∀ b,Im b->(Im b\/∃ loc,β d=some loc/\b=loc.blk):=fun b hb=>.inl hb
 have hd:∀ loc,β d=some loc->(Im loc.blk\/∃ loc',β d=some loc'/\loc.blk=loc'.blk):=fun loc hl=>.inr ⟨loc,hl,rfl⟩
 refine { h with fit:=?_,imin:=fun b hb=>.inl (h.imin b hb),imnew:=fun b hb=>?_,regnew:=fun e q loc hq hl=>?_,glob:=Γ.mono ⟨hi,fun _ _=>rfl⟩ h.glob,mnod:=h.mnod,marks:=fun D hD=>?_ }
 ·refine { size:=by simpa using h.fit.size,tmps:=fun i l hl=>?_,regs:=fun e q hq=>?_,nodup:=by simp only[F7];exact h.fit.nodup.filter _,live:=fun e q loc hq hl=>?_,apart:=fun e q e' q' l1 l2 hq hq' hne h1 h2=>?_,im:=fun b hb=>?_ }
  ·rw[Eam] at hl;obtain ⟨l',hl',rfl⟩:=Eal.1 hl;exact (h.fit.tmps i l' hl').freeze hr hi hd
  ·obtain ⟨h1,q',h2,rfl⟩:=Cj hq;have hq:=h.fit.regs e q' h2;cases q' with
   | var T' cs =>
    obtain ⟨loc,cur,g1,g2,g3,g4,g5,g6⟩:=hq;refine ⟨loc,cur,g1,by simpa using g2,g3,g4,by simpa using g5,fun j v l hv hl=>?_⟩;rw[Eam] at hl;obtain ⟨l',hl',rfl⟩:=Eal.1 hl;exact ⟨(g6 j v l' hv hl').1.freeze hr hi hd,O8 d z l' (g6 j v l' hv hl').2⟩
   | row T' sz' es'=>exact hq.mono ⟨hi,fun _ _=>rfl⟩ rfl (fun _ _=>rfl) fun _ _=>rfl
   | lrow T' sz' f' es' =>
    rcases hq with ⟨g1,g2⟩ | ⟨loc,cur,g1,g2,g3,g4,g5,g6,g7,g8,g9⟩
    ·exact .inl ⟨g1,by simp[g2]⟩
    ·refine .inr ⟨loc,cur,g1,g2,g3,g4,by simpa using g5,by simpa using g6,g7,fun x hx=>?_,R4 (fun v l hl=>hl.freeze hr hi hd) (O8 d z) g9⟩;obtain ⟨y,hy,rfl⟩:=Eap.1 hx;simpa using g8 y hy
   | obj o=>exact hq.mono ⟨hi,fun _ _=>rfl⟩ rfl (fun _ _=>rfl) fun _ _=>rfl
  ·obtain ⟨h1,q',h2,rfl⟩:=Cj hq;obtain ⟨g1,g2⟩:=h.fit.live e q' loc h2 hl;exact ⟨g1,fun hb=>hb.elim g2 fun ⟨loc',hl',he⟩=>h.fit.apart e q' d _ loc loc' h2 hmem h1 hl hl' he⟩
  ·obtain ⟨g1,p,g2,rfl⟩:=Cj hq;obtain ⟨g1',p',g2',rfl⟩:=Cj hq';exact h.fit.apart e p e' p' l1 l2 g2 g2' hne h1 h2
  ·rcases hb with hb | ⟨loc,hl,rfl⟩
   ·exact h.fit.im b hb
   ·exact (h.fit.live d _ loc hmem hl).1
 ·rcases hb with hb | ⟨loc,hl,rfl⟩
  ·exact h.imnew b hb
  ·exact .inr (h.regnew d _ loc hmem hl)
 ·obtain ⟨g1,p,g2,rfl⟩:=Cj hq;exact h.regnew e p loc g2 hl
 ·obtain ⟨m1,m2,m3,m4⟩:=h.marks D hD;refine ⟨m1,fun hi'=>hi'.elim m2 fun ⟨loc,hl,e⟩=>m4 d r0 loc hmem hl e.symm,m3,fun e q loc hq hl=>?_⟩;obtain ⟨g1,p,g2,rfl⟩:=Cj hq;exact m4 e p loc g2 hl
theorem RRx.freeze {Γ:Base} {β:Env} {Im:Nat->Prop} {s:St} {tmps:Array Value} {w:World} (h:RRx Γ β Im s tmps w) (d:Nat) :
  ∃ Im',RRx Γ β Im' (s.freeze d) tmps w:=by
 have hz:∀ z,fzOf (Am d s.regs)=some z->Ji4 β w Im d z/\∃ r,(d,r)∈s.regs:=by
  intro z hz;unfold fzOf at hz;split at hz<;>first|(cases hz;done) | skip
  ·rename_i T sz es hf;cases hz;exact ⟨⟨T,sz,h.fit.regs d _ (Ax hf)⟩,_,Ax hf⟩
  ·rename_i es hf;cases hz;exact ⟨h.fit.regs d _ (Ax hf),_,Ax hf⟩
 unfold St.freeze;cases hfz:fzOf (Am d s.regs) with
 | some z =>
  obtain ⟨hr,r0,hmem⟩:=hz z hfz;exact ⟨_,h.freezeZ d z hr r0 hmem⟩
 | none=>exact ⟨Im,h⟩
def B3:L->Option (List L)
 | .p (.agg ps)=>some (ps.map .p)
 | .tup _=>none
 | .junk=>none
 | l=>some [l]
def Bo (P:Program) (t:TypeId):Option Nat:=(P.info? t).map (·.bytes)
def St.freezeOps (s:St):List Operand->St
 | []=>s
 | x :: xs=>match s.get x with
  | .own d _ _=>if d<1000 then (s.freeze d).freezeOps xs else s.freezeOps xs
  | .mref d=>if d<1000 then (s.freeze d).freezeOps xs else s.freezeOps xs
  | _=>s.freezeOps xs
def Nv (P:Program) (t:TypeId) (s:St) (a x:Operand) (K:St->Prop):Prop :=
 match s.get a with
 | .ptr d i j=>match Am d s.regs with
  | some (.var T cs)=>∃ xs,B3 (s.get x)=some xs/\i=0/\xs.length=P.cellsOf t/\P.cellsOf t≠0/\j+xs.length<=cs.length /\
    K { s with regs:=Bs d (.var T (cs.take j ++ xs ++ cs.drop (j+xs.length))) s.regs }
  | some (.row T sz es)=>∃ xs,B3 ((s.freezeOps [x]).get x)=some xs/\∃ ps,Bg L.pure? xs=some ps/\∃ e,es[i]? = some e/\ps.length=P.cellsOf t/\P.cellsOf t≠0/\j+ps.length<=e.length /\
    Am d (s.freezeOps [x]).regs=some (.row T sz es)/\(s.freezeOps [x]).get a=.ptr d i j /\
    K { (s.freezeOps [x]) with regs:=Bs d (.row T sz (es.set i (e.take j ++ ps ++ e.drop (j+ps.length)))) (s.freezeOps [x]).regs }
  | some (.lrow T sz f es)=>∃ xs,B3 (s.get x)=some xs/\∃ e,es[i]? = some e/\xs.length=P.cellsOf t/\P.cellsOf t≠0/\j+xs.length<=e.length /\
    K { s with regs:=Bs d (.lrow T sz f (es.set i (e.take j ++ xs ++ e.drop (j+xs.length)))) s.regs }
  | some (.obj _)=>False
  | none=>False
 | _=>False
theorem Ft {β:Env} {w:World} {Im:Nat->Prop} {v:Value} {l:L} {xs:List L} (h:LRep β w Im v l) (hx:B3 l=some xs) :
  v.cells.toList.length=xs.length/\(∀ (i:Nat) (u:Value) (x:L),v.cells.toList[i]? = some u->xs[i]? = some x->LRep β w Im u x)/\(∀ x∈xs,x.cellOK=true)/\∀ u∈v.cells.toList,u.oneCell'=true:=by
 have single:∀ (v:Value) (l:L),LRep β w Im v l->l.cellOK=true->v.cells = #[v]->v.oneCell'=true ->
   v.cells.toList.length=[l].length/\(∀ (i:Nat) (u:Value) (x:L),v.cells.toList[i]? = some u->[l][i]? = some x->LRep β w Im u x)/\(∀ x∈[l],x.cellOK=true)/\∀ u∈v.cells.toList,u.oneCell'=true:=by
  intro v l h hc hv h1;rw[hv];refine ⟨rfl,fun i u x hu hx=>?_,fun x hx=>by simp at hx;rw[hx];exact hc,fun u hu=>by simp at hu;rw[hu];exact h1⟩;cases i with
  | zero=>simp at hu hx;subst hu;subst hx;exact h
  | succ i=>simp at hu
 cases l with
 | p x =>
  cases x with
  | agg ps =>
   simp only[B3] at hx;cases hx;cases h with
   | agg cs _ hl hs hp =>
   refine ⟨by simpa[Value.cells] using hl,fun i u x hu hx=>?_,fun x hx=>?_,fun u hu=>?_⟩
   ·rw[Eam] at hx;obtain ⟨p,hp',rfl⟩:=Eal.1 hx;exact hp i u p hu hp'
   ·obtain ⟨p,hp',rfl⟩:=Eap.1 hx;exact hs p hp'
   ·simp only[Value.cells] at hu;obtain ⟨i,hi,rfl⟩:=Eba hu;have hip:i<ps.length:=by rw[<- hl];exact hi
    exact (hp i _ _ (Eaa hi) (Eaa hip)).one (hs _ (Eb1 hip))
  | _ =>
   simp only[B3] at hx;cases hx;exact single v _ h rfl (PRep.cells_scalar h rfl) (PRep.one h rfl)
 | ptr d i j =>
  simp only[B3] at hx;cases hx;have h':=h;obtain ⟨loc,_,rfl⟩:=h';exact single _ _ h rfl rfl rfl
 | own d off len =>
  simp only[B3] at hx;cases hx;have h':=h;rcases h' with ⟨loc,cap,o,_,_,_,_,rfl⟩ | ⟨_,_,_,rfl⟩
  ·exact single _ _ h rfl rfl rfl
  ·exact single _ _ h rfl rfl rfl
 | cfn f ds =>
  simp only[B3] at hx;cases hx;have h':=h;obtain ⟨vs,rfl,_⟩:=h';exact single _ _ h rfl rfl rfl
 | yld l =>
  simp only[B3] at hx;cases hx;have h':=h;cases h';exact single _ _ h rfl rfl rfl
 | mref d =>
  simp only[B3] at hx;cases hx;have h':=h;obtain ⟨loc,_,rfl⟩:=h';exact single _ _ h rfl rfl rfl
 | eptr cs =>
  simp only[B3] at hx;cases hx;have h':=h;obtain ⟨b,o,_,rfl,_⟩:=h';exact single _ _ h rfl rfl rfl
 | fn f ds =>
  simp only[B3] at hx;cases hx;have h':=h;obtain ⟨vs,rfl,_⟩:=h';exact single _ _ h rfl rfl rfl
 | tup xs=>simp[B3] at hx
 | junk=>simp[B3] at hx
theorem RRx.freezeOps {Γ:Base} {β:Env} {tmps:Array Value} {w:World}:∀ (xs:List Operand) {s:St} {Im:Nat->Prop},RRx Γ β Im s tmps w->∃ Im',RRx Γ β Im' (s.freezeOps xs) tmps w
 | [],s,Im,h=>⟨Im,h⟩
 | x :: xs,s,Im,h=>by
  simp only[St.freezeOps];split
  ·rename_i d _ _ _;split
   ·obtain ⟨Im',h'⟩:=h.freeze d;exact RRx.freezeOps xs h'
   ·exact RRx.freezeOps xs h
  ·rename_i d _;split
   ·obtain ⟨Im',h'⟩:=h.freeze d;exact RRx.freezeOps xs h'
   ·exact RRx.freezeOps xs h
  ·exact RRx.freezeOps xs h
section
variable {P:Program} {Γ:Base} {β:Env} {w:World} {Im:Nat->Prop}
theorem B6 (w:World) (g k:Nat) (cs:Array Value) (h:k≠g):(w.setRow g cs).heap[k]? = w.heap[k]? :=
 setRow_other w g k cs omg
theorem F5 {t:TypeId} {b o:Nat} {T:TypeId} {cur:List Value} {v:Value} (hb:w.heap[b]? = some (.cells ⟨cur⟩ T (0,0))) (hn:v.cells.toList.length=P.cellsOf t) (h0:P.cellsOf t≠0) (hle:o+v.cells.toList.length<=cur.length)
  (h1:∀ u∈v.cells.toList,u.oneCell'=true):(storeVar t ⟨b,o,none⟩ v).run P w=.ok () (w.setRow b ⟨cur.take o ++ v.cells.toList ++ cur.drop (o+v.cells.toList.length)⟩):=by
 have hs:=run_storeCells_at P b o T v.cells.toList 0 ⟨cur⟩ w hb (by simpa using hle) h1;simp only[Nat.add_zero] at hs;have hsz:v.cells.size=P.cellsOf t:=by simpa using hn
 simp only[storeVar,Sem.run_bind,Bk (P:=P) (t:=t) rfl h0,Result.andThen_ok,hsz,ne_eq,not_true_eq_false,if_false,hs]
theorem getElem?_splice {α:Type} (cs xs:List α) (j i:Nat) (h:j+xs.length<=cs.length):(cs.take j ++ xs ++ cs.drop (j+xs.length))[i]? = if i<j then cs[i]? else if i<j+xs.length then xs[i - j]? else cs[i]?:=by
 have hl:(cs.take j).length=j:=by rw[Eay];exact Ecx omg
 by_cases h1:i<j
 ·rw[if_pos h1,Ea2,Eat omg,Eas,if_pos h1]
 ·rw[if_neg h1,Ea2,Ear omg,hl];by_cases h2:i<j+xs.length
  ·rw[if_pos h2,Eat omg]
  ·rw[if_neg h2,Ear omg,Eco];congr 1;omega
theorem Bz {α:Type} (cs xs:List α) (j:Nat) (h:j+xs.length<=cs.length):(cs.take j ++ xs ++ cs.drop (j+xs.length)).length=cs.length:=by
 simp;omega
theorem Uo {s:St} {a:Act} (h:RRx Γ β Im s a.tmps w) {t:TypeId} {x y:Operand} {K:St->Prop} (hl:Nv P t s x y K) :
  ∃ w' s' Im',(Instr.storeAt t (a.eval x) (a.eval y)).run P w=.ok () w'/\K s'/\RRx Γ β Im' s' a.tmps w':=by
 unfold Nv at hl;have hx:=A2 h.fit x;split at hl
 ·rename_i d i j hg;rw[hg] at hx;obtain ⟨loc,hβ,hv⟩:=hx;split at hl
  ·rename_i T cs hr;obtain ⟨xs,hxs,rfl,hn,h0,hle,hK⟩:=hl;have hmem:=Ax hr;obtain ⟨loc',cur,hβ',hsz,htot,hb,hlen,hcell⟩:=h.fit.regs d _ hmem;rw[hβ] at hβ';cases hβ';obtain ⟨c1,c2,c3,c4⟩:=Ft (A2 h.fit y) hxs;have hrun:=F5 (P:=P) (t:=t) (o:=j) hb (c1.trans hn) h0 (by rw[c1,hlen];exact hle) c4;refine ⟨w.setRow loc.blk ⟨cur.take j ++ (a.eval y).cells.toList ++ cur.drop (j+(a.eval y).cells.toList.length)⟩,_,Im,?_,hK,h.store hmem hβ rfl rfl rfl (by simp[World.setRow]) (fun k hk=>B6 _ _ _ _ hk) ?_⟩
   ·simp only[Instr.storeAt,hv,Instr.sureAddr,Sem.run_bind,Sem.run_pure,Result.andThen_ok,Edf,Ebo,hrun]
   ·have hk:Keeps w Im (w.setRow loc.blk ⟨cur.take j ++ (a.eval y).cells.toList ++ cur.drop (j+(a.eval y).cells.toList.length)⟩) Im :=
     ⟨fun _ h=>h,fun b hb'=>B6 _ _ _ _ fun e=>(h.fit.live d _ loc hmem hβ).2 (e ▸ hb')⟩
    refine ⟨loc,_,hβ,by rw[Bz _ _ _ hle];exact hsz,htot,setRow_heap w loc.blk _ _ _ _ hb,by rw[Bz _ _ _ (by rw[c1,hlen];exact hle),Bz _ _ _ hle];exact hlen,fun k u l hu hl'=>?_⟩;rw[getElem?_splice _ _ _ _ (by rw[c1,hlen];exact hle)] at hu;rw[getElem?_splice _ _ _ _ hle] at hl';rw[c1] at hu;by_cases g1:k<j
    ·rw[if_pos g1] at hu hl';exact ⟨(hcell k u l hu hl').1.mono' hk,(hcell k u l hu hl').2⟩
    ·rw[if_neg g1] at hu hl';by_cases g2:k<j+xs.length
     ·rw[if_pos g2] at hu hl';exact ⟨(c2 _ u l hu hl').mono' hk,.inl (c3 l (Eag hl'))⟩
     ·rw[if_neg g2] at hu hl';exact ⟨(hcell k u l hu hl').1.mono' hk,(hcell k u l hu hl').2⟩
  ·rename_i T sz es hr;obtain ⟨xs,hxs,ps,hps,e,he,hn,h0,hle,hr',hg',hK⟩:=hl;obtain ⟨Im',h'⟩:=RRx.freezeOps (s:=s) [y] h;have hmem:=Ax hr';obtain ⟨c1,c2,c3,c4⟩:=Ft (A2 h'.fit y) hxs;obtain ⟨hpl,hps'⟩:=Bh hps;rcases h'.fit.regs d _ hmem with ⟨_,rfl⟩ | ⟨loc',cur,hβ',hsz,hb,hcl,hle',hml,hel,hcell⟩
   ·simp at he
   ·rw[hβ] at hβ';cases hβ';have hem:=hel e (Eag he);have hie:=(Eab.1 he).1;have hc1:(a.eval y).cells.toList.length=ps.length:=by rw[c1,hpl]
    have hin:i * sz+j+ps.length<=cur.length:=by
     obtain ⟨v,hv,_⟩:=hcell i e (j+ps.length - 1) _ he (Eaa omg);have:=(Eab.1 hv).1;omega
    have hrun:=F5 (P:=P) (t:=t) (o:=i * loc.sz+j) hb (hc1.trans hn) h0 (by rw[hc1,hsz];exact hin) c4;refine ⟨w.setRow loc.blk ⟨cur.take (i * loc.sz+j) ++ (a.eval y).cells.toList ++ cur.drop (i * loc.sz+j+(a.eval y).cells.toList.length)⟩,_,Im',?_,hK,h'.store hmem hβ rfl rfl rfl (by simp[World.setRow]) (fun k hk=>B6 _ _ _ _ hk) (.inr ?_)⟩
    ·simp only[Instr.storeAt,hv,Instr.sureAddr,Sem.run_bind,Sem.run_pure,Result.andThen_ok,hrun]
    ·rw[hsz];have hk:Keeps w Im' (w.setRow loc.blk ⟨cur.take (i * sz+j) ++ (a.eval y).cells.toList ++ cur.drop (i * sz+j+(a.eval y).cells.toList.length)⟩) Im' :=
      ⟨fun _ h=>h,fun b hb'=>B6 _ _ _ _ fun e=>(h'.fit.live d _ loc hmem hβ).2 (e ▸ hb')⟩
     have hpsc:∀ p∈ps,p.scalar=true:=by
      intro p hp;obtain ⟨k,hk',rfl⟩:=Eba hp;obtain ⟨l,hl'⟩:=getElem?_of_length hpl (Eaa hk');have h1:=hps' k l _ hl' (Eaa hk');cases l<;>simp[L.pure?] at h1;have:=c3 _ (Eag hl');subst h1;exact this
     refine ⟨loc,_,hβ,hsz,setRow_heap w loc.blk _ _ _ _ hb,by rw[Bz _ _ _ (by rw[hc1];exact hin)];exact hcl,by simpa using hle',hml,fun x hx=>?_,fun i' e' j' p hi' hj'=>?_⟩
     ·rcases Eb3 hx with hx | rfl
      ·exact hel x hx
      ·refine ⟨by rw[Bz _ _ _ hle];exact hem.1,fun p hp=>?_⟩;rcases Eax.1 hp with hp | hp
       ·rcases Eax.1 hp with hp | hp
        ·exact hem.2 p (Ebq hp)
        ·exact hpsc p hp
       ·exact hem.2 p (Ea6 hp)
     ·rw[Ebr] at hi';have hne:i'≠i->∀ q,q<sz->¬ (i * sz+j<=i' * sz+q/\i' * sz+q<i * sz+j+ps.length):=by
       intro hne q hq;have hj1:j+ps.length<=sz:=by rw[<- hem.1];exact hle
       rcases Nat.lt_or_gt_of_ne hne with hlt | hgt
       ·have:(i'+1) * sz<=i * sz:=Ea3 _ hlt;rw[Ebl] at this;omega
       ·have:(i+1) * sz<=i' * sz:=Ea3 _ hgt;rw[Ebl] at this;omega
      by_cases hii:i=i'
      ·subst hii;rw[if_pos rfl,if_pos hie] at hi';cases hi';rw[getElem?_splice _ _ _ _ hle] at hj';rw[getElem?_splice _ _ _ _ (by rw[hc1];exact hin),hc1];rw[hc1] at hk;by_cases g1:j'<j
       ·rw[if_pos g1] at hj';rw[if_pos omg];obtain ⟨u,hu,hp⟩:=hcell i e j' p he hj';exact ⟨u,hu,hp.mono hk⟩
       ·rw[if_neg g1] at hj';by_cases g2:j'<j+ps.length
        ·rw[if_pos g2] at hj';rw[if_neg omg,if_pos omg];obtain ⟨l,hl'⟩:=getElem?_of_length hpl hj';obtain ⟨u,hu⟩:=getElem?_of_length hc1 hj';refine ⟨u,by rw[<- hu];congr 1;omega,?_⟩;have h1:=hps' _ l p hl' hj';cases l<;>simp[L.pure?] at h1;subst h1;exact PRep.mono hk (c2 _ u _ hu hl')
        ·rw[if_neg g2] at hj';rw[if_neg omg,if_neg omg];obtain ⟨u,hu,hp⟩:=hcell i e j' p he hj';exact ⟨u,hu,hp.mono hk⟩
      ·rw[if_neg hii] at hi';obtain ⟨u,hu,hp⟩:=hcell i' e' j' p hi' hj';have hq:j'<sz:=by rw[<- (hel e' (Eag hi')).1];exact (Eab.1 hj').1
       have:=hne (Ne.symm hii) j' hq;refine ⟨u,?_,hp.mono hk⟩;rw[getElem?_splice _ _ _ _ (by rw[hc1];exact hin),hc1];by_cases g1:i' * sz+j'<i * sz+j
       ·rw[if_pos g1];exact hu
       ·rw[if_neg g1,if_neg omg];exact hu
  ·rename_i T sz f es hr;obtain ⟨xs,hxs,e,he,hn,h0,hle,hK⟩:=hl;have hmem:=Ax hr;obtain ⟨c1,c2,c3,c4⟩:=Ft (A2 h.fit y) hxs;rcases h.fit.regs d _ hmem with ⟨_,rfl⟩ | ⟨loc',cur,hβ',hsz,hb,hcl,hle',hfu,hml,hel,hcell⟩
   ·simp at he
   ·rw[hβ] at hβ';cases hβ';have hem:=hel e (Eag he);have hie:=(Eab.1 he).1;have hin:i * sz+j+xs.length<=cur.length:=by
     obtain ⟨v,hv,_⟩:=hcell i e (j+xs.length - 1) _ he (Eaa omg);have:=(Eab.1 hv).1;omega
    have hrun:=F5 (P:=P) (t:=t) (o:=i * loc.sz+j) hb (c1.trans hn) h0 (by rw[c1,hsz];exact hin) c4;refine ⟨w.setRow loc.blk ⟨cur.take (i * loc.sz+j) ++ (a.eval y).cells.toList ++ cur.drop (i * loc.sz+j+(a.eval y).cells.toList.length)⟩,_,Im,?_,hK,h.store hmem hβ rfl rfl rfl (by simp[World.setRow]) (fun k hk=>B6 _ _ _ _ hk) (.inr ?_)⟩
    ·simp only[Instr.storeAt,hv,Instr.sureAddr,Sem.run_bind,Sem.run_pure,Result.andThen_ok,hrun]
    ·rw[hsz];have hk:Keeps w Im (w.setRow loc.blk ⟨cur.take (i * sz+j) ++ (a.eval y).cells.toList ++ cur.drop (i * sz+j+(a.eval y).cells.toList.length)⟩) Im :=
      ⟨fun _ h=>h,fun b hb'=>B6 _ _ _ _ fun e=>(h.fit.live d _ loc hmem hβ).2 (e ▸ hb')⟩
     refine ⟨loc,_,hβ,hsz,setRow_heap w loc.blk _ _ _ _ hb,by rw[Bz _ _ _ (by rw[c1];exact hin)];exact hcl,by simpa using hle',by simpa using hfu,hml,fun x hx=>?_,fun i' e' j' p hi' hj'=>?_⟩
     ·rcases Eb3 hx with hx | rfl
      ·exact hel x hx
      ·rw[Bz _ _ _ hle];exact hem
     ·rw[Ebr] at hi';have hne:i'≠i->∀ q,q<sz->¬ (i * sz+j<=i' * sz+q/\i' * sz+q<i * sz+j+xs.length):=by
       intro hne q hq;have hj1:j+xs.length<=sz:=by rw[<- hem];exact hle
       rcases Nat.lt_or_gt_of_ne hne with hlt | hgt
       ·have:(i'+1) * sz<=i * sz:=Ea3 _ hlt;rw[Ebl] at this;omega
       ·have:(i+1) * sz<=i' * sz:=Ea3 _ hgt;rw[Ebl] at this;omega
      by_cases hii:i=i'
      ·subst hii;rw[if_pos rfl,if_pos hie] at hi';cases hi';rw[getElem?_splice _ _ _ _ hle] at hj';rw[getElem?_splice _ _ _ _ (by rw[c1];exact hin),c1];rw[c1] at hk;by_cases g1:j'<j
       ·rw[if_pos g1] at hj';rw[if_pos omg];obtain ⟨u,hu,hp,hco⟩:=hcell i e j' p he hj';exact ⟨u,hu,hp.mono' hk,hco⟩
       ·rw[if_neg g1] at hj';by_cases g2:j'<j+xs.length
        ·rw[if_pos g2] at hj';rw[if_neg omg,if_pos omg];obtain ⟨u,hu⟩:=getElem?_of_length c1 hj';exact ⟨u,by rw[<- hu];congr 1;omega,(c2 _ u _ hu hj').mono' hk,.inl (c3 _ (Eag hj'))⟩
        ·rw[if_neg g2] at hj';rw[if_neg omg,if_neg omg];obtain ⟨u,hu,hp,hco⟩:=hcell i e j' p he hj';exact ⟨u,hu,hp.mono' hk,hco⟩
      ·rw[if_neg hii] at hi';obtain ⟨u,hu,hp,hco⟩:=hcell i' e' j' p hi' hj';have hq:j'<sz:=by rw[<- hel e' (Eag hi')];exact (Eab.1 hj').1
       have:=hne (Ne.symm hii) j' hq;refine ⟨u,?_,hp.mono' hk,hco⟩;rw[getElem?_splice _ _ _ _ (by rw[c1];exact hin),c1];by_cases g1:i' * sz+j'<i * sz+j
       ·rw[if_pos g1];exact hu
       ·rw[if_neg g1,if_neg omg];exact hu
  ·exact hl.elim
  ·exact hl.elim
 ·exact hl.elim
end
section
variable {P:Program} {Γ:Base} {β:Env} {w:World} {Im:Nat->Prop}
def Lb (Γ:Base) (a:Act) (d:Tmp) (r:Result Value) (K:St->Prop):Prop :=
 ∃ v w' β' Im' s' l,r=.ok v w'/\RRx Γ β' Im' s' a.tmps w'/\LRep β' w' Im' v l/\K (s'.put (some d) l)
theorem Grow.alloc (him:∀ b,Im b->b<w.heap.size) (o:Obj):Grow w Im (w.alloc o) Im where
 os:=rfl
 tape:=rfl
 output:=rfl
 size:=by simp
 block k hk:=Below.heap_alloc w o k hk
 im _ h:=h
 new _ h:=.inl h
 lt b h:=by have:=him b h;simp;omega
theorem Grow.drew (him:∀ b,Im b->b<w.heap.size):Grow w Im w.drew Im :=
 ⟨rfl,rfl,rfl,Eah _,fun _ _=>rfl,fun _ h=>h,fun _ h=>.inl h,him⟩
theorem Grow.trans {w1 w2:World} {Im1 Im2:Nat->Prop} (h:Grow w Im w1 Im1) (k:Grow w1 Im1 w2 Im2):Grow w Im w2 Im2 :=
 ⟨k.os.trans h.os,k.tape.trans h.tape,k.output.trans h.output,Nat.le_trans h.size k.size,fun i hi=>(k.block i (Ebe hi h.size)).trans (h.block i hi),fun b hb=>k.im b (h.im b hb),
  fun b hb=>(k.new b hb).elim (h.new b) fun h'=>.inr (Nat.le_trans h.size h'),k.lt⟩
theorem RRx.newVar {s:St} {tmps:Array Value} (h:RRx Γ β Im s tmps w) {d:Nat} (hd:d<1000) {T:TypeId} {cur:List Value} {cs:List L} (hl:cur.length=cs.length)
  (hr:∀ (j:Nat) (v:Value) (l:L),cur[j]? = some v->cs[j]? = some l->LRep β w Im v l) (hc:∀ l∈cs,l.cellOK=true) :
  RRx Γ (Jqu β d (some ⟨w.heap.size,cs.length,1⟩)) Im (s.newReg d (.var T (cs.map (L.forget d)))) tmps (w.alloc (.cells ⟨cur⟩ T)) /\
   LRep (Jqu β d (some ⟨w.heap.size,cs.length,1⟩)) (w.alloc (.cells ⟨cur⟩ T)) Im (.pointer (some ⟨w.heap.size,0,none⟩)) (.ptr d 0 0):=by
 have g:=Grow.alloc (w:=w) h.fit.im (.cells ⟨cur⟩ T);refine ⟨h.newReg hd g (fun loc hl=>by cases hl;exact ⟨Eah _,by simp⟩) ?_,⟨_,B4,by simp⟩⟩;refine ⟨⟨w.heap.size,cs.length,1⟩,cur,B4,by simp,rfl,heap_alloc_new w _,by simpa using hl,fun j v l hv hl'=>?_⟩;rw[Eam] at hl';obtain ⟨l',hl2,rfl⟩:=Eal.1 hl';exact ⟨((hr j v l' hv hl2).mono' (g.keeps h.fit.im)).forget fun e he=>Oa he,J4 d l' (.inl (hc l' (Eag hl2)))⟩
def Wg (P:Program) (d:Nat) (T:TypeId) (s:St) (K:St->Prop):Prop :=
 d<1000/\∃ zs,Bu P T=some zs/\K ((s.newReg d (.var T (zs.map .p))).put (some d) (.ptr d 0 0))
theorem Wu (d:Nat) (zs:List PV):(zs.map L.p).map (L.forget d)=zs.map L.p:=by
 rw[Ebx];apply Ebp;intro p _;simp[L.forget,L.mentions]
theorem Wi {s:St} {a:Act} (h:RRx Γ β Im s a.tmps w) {d:Nat} {T:TypeId} {K:St->Prop} (hl:Wg P d T s K):Lb Γ a d ((Instr.alloc T true (.tuple #[])).run P w) K:=by
 obtain ⟨hd,zs,hz,hK⟩:=hl;obtain ⟨zv,hrun,_,hlen,hrep,hsc⟩:=D0 hz;obtain ⟨h1,h2⟩:=h.newVar hd (T:=T) (cur:=zv.cells.toList) (cs:=zs.map .p) (by simpa using hlen) (fun j v l hv hl=>by
  rw[Eam] at hl;obtain ⟨p,hp,rfl⟩:=Eal.1 hl;exact hrep w Im j v p hv hp) (fun l hl=>by
  obtain ⟨p,hp,rfl⟩:=Eap.1 hl;exact hsc p hp)
 rw[Wu] at h1;exact ⟨_,_,_,Im,_,_,by simp[Instr.alloc,hrun,newVar,newRow],h1,h2,hK⟩
def lbox (d:Nat) (T:TypeId) (s:St) (x:Operand) (K:St->Prop):Prop :=
 d<1000/\∃ xs,B3 (s.get x)=some xs/\K ((s.newReg d (.var T (xs.map (L.forget d)))).put (some d) (.ptr d 0 0))
theorem Jat {s:St} {a:Act} (h:RRx Γ β Im s a.tmps w) {d:Nat} {T:TypeId} {x:Operand} {K:St->Prop} (hl:lbox d T s x K):Lb Γ a d ((Instr.box T (a.eval x)).run P w) K:=by
 obtain ⟨hd,xs,hx,hK⟩:=hl;obtain ⟨c1,c2,c3,c4⟩:=Ft (A2 h.fit x) hx;obtain ⟨h1,h2⟩:=h.newVar hd (T:=T) (cur:=(a.eval x).cells.toList) (cs:=xs) c1 c2 c3;exact ⟨_,_,_,Im,_,_,by simp[Instr.box,newVar,newRow],h1,h2,hK⟩
theorem RRx.newRow {s:St} {tmps:Array Value} (h:RRx Γ β Im s tmps w) {d:Nat} (hd:d<1000) {T:TypeId} {sz tot:Nat} {cur:List Value} {es:List (List PV)} {w':World}
  (g:Grow w Im w' Im) (hsz:w.heap.size<w'.heap.size) (hb:w'.heap[w.heap.size]? = some (.cells ⟨cur⟩ T (0,0))) (hc:cur.length=tot * sz) (hle:es.length<=tot) (hml:tot<=maxLen) (hel:∀ e∈es,e.length=sz/\∀ p∈e,p.scalar=true)
  (hr:∀ (i:Nat) (e:List PV) (j:Nat) (p:PV),es[i]? = some e->e[j]? = some p->∃ v,cur[i * sz+j]? = some v/\PRep w Im v p) :
  RRx Γ (Jqu β d (some ⟨w.heap.size,sz,tot⟩)) Im (s.newReg d (.row T sz es)) tmps w' /\
   LRep (Jqu β d (some ⟨w.heap.size,sz,tot⟩)) w' Im (.slice (some ⟨w.heap.size,0,none⟩) es.length tot) (.own d 0 es.length):=by
 refine ⟨h.newReg hd g (fun loc hl=>by cases hl;exact ⟨Eah _,hsz⟩) (.inr ?_),.inl ⟨_,tot,0,B4,by simp,hle,by simp,rfl⟩⟩;exact ⟨_,cur,B4,rfl,hb,hc,hle,hml,hel,fun i e j p hi hj=>by
  obtain ⟨v,hv,hp⟩:=hr i e j p hi hj;exact ⟨v,hv,hp.mono (g.keeps h.fit.im)⟩⟩
def Jt:Nat->List (Nat×L)->Bool
 | _,[]=>true
 | k,(i,_) :: r=>i == k && Jt (k+1) r
def Dn (sz:Nat):List (Nat×L)->Option (List (List PV))
 | []=>some []
 | (_,x) :: r=>match B3 x with
  | some xs=>match Bg L.pure? xs with
   | some ps=>if ps.length=sz then match Dn sz r with
    | some es=>some (ps :: es)
    | none=>none else none
   | none=>none
  | none=>none
def Fo (P:Program) (d:Nat) (t:TypeId) (n:Nat) (s:St) (parts:List (Nat×Operand)) (K:St->Prop):Prop :=
 d<1000/\n<=16777216/\match slE P t with
 | some (e,sz)=>n * sz<=16777216/\(∃ zs,Bu P e=some zs/\zs.length=sz)/\parts.length=n/\Jt 0 (parts.map fun (i,x)=>(i,(s.freezeOps (parts.map (·.2))).get x))=true /\
   ∃ es,Dn sz (parts.map fun (i,x)=>(i,(s.freezeOps (parts.map (·.2))).get x))=some es /\
   K (((s.freezeOps (parts.map (·.2))).newReg d (.row e sz es)).put (some d) (.own d 0 n))
 | none=>False
theorem Oh {sz:Nat}:∀ (parts:List (Nat×Value)) (ls:List (Nat×L)) (k:Nat) (cs:List Value) (es:List (List PV)),parts.length=ls.length ->
  (∀ (i:Nat) (u:Nat×Value) (x:Nat×L),parts[i]? = some u->ls[i]? = some x->u.1=x.1/\LRep β w Im u.2 x.2)->Jt k ls=true->Dn sz ls=some es->(k+parts.length) * sz<=cs.length ->
  ∃
   news,Instr.fill (fun i=>some (i * sz,sz)) ⟨cs⟩ parts=some ⟨cs.take (k * sz) ++ news ++ cs.drop (k * sz+news.length)⟩/\es.length=parts.length/\news.length=parts.length * sz/\(∀ e∈es,e.length=sz/\∀ p∈e,p.scalar=true) /\
   ∀ (i:Nat) (e:List PV) (j:Nat) (p:PV),es[i]? = some e->e[j]? = some p->∃ v,news[i * sz+j]? = some v/\PRep w Im v p
 | [],ls,k,cs,es,hl,_,_,hp,_=>by
  cases ls with
  | nil =>
   simp[Dn] at hp;subst hp;exact ⟨[],by simp[Instr.fill],rfl,by simp,by simp,by simp⟩
  | cons=>simp at hl
 | (i,v) :: parts,ls,k,cs,es,hl,hrep,hix,hp,hle=>by
  cases ls with
  | nil=>simp at hl
  | cons x ls =>
  obtain ⟨i',x⟩:=x;obtain ⟨e1,e2⟩:=hrep 0 _ _ rfl rfl;simp only at e1 e2;subst e1;simp only[Jt,Ebb,beq_iff_eq] at hix;obtain ⟨rfl,hix⟩:=hix;simp only[Dn] at hp;split at hp<;>first|(cases hp;done) | skip
  rename_i xs hxs;split at hp<;>first|(cases hp;done) | skip
  rename_i ps hps;split at hp<;>first|(cases hp;done) | skip
  rename_i hpl;split at hp<;>first|(cases hp;done) | skip
  rename_i es' hes';cases hp;obtain ⟨c1,c2,c3,c4⟩:=Ft e2 hxs;obtain ⟨q1,q2⟩:=Bh hps;have hvl:v.cells.toList.length=sz:=by rw[c1,q1,hpl]
  simp only[Ead] at hle hl;rw[<- Eb2,Nat.add_right_comm,Ebl,Ebl,Ec0] at hle;have hrow:∀ (j:Nat) (p:PV),ps[j]? = some p->∃ u,v.cells.toList[j]? = some u/\PRep w Im u p/\p.scalar=true:=by
   intro j p hj;obtain ⟨l,hl'⟩:=getElem?_of_length q1 hj;obtain ⟨u,hu⟩:=getElem?_of_length c1 hl';have h1:=q2 j l p hl' hj;cases l<;>simp[L.pure?] at h1;subst h1;exact ⟨u,hu,c2 j u _ hu hl',c3 _ (Eag hl')⟩
  have hl1:(cs.take (i * sz) ++ v.cells.toList ++ cs.drop (i * sz+v.cells.toList.length)).length=cs.length:=Bz _ _ _ omg;obtain ⟨news,h1,h2,h3,h4,h5⟩:=Oh parts ls (i+1) (cs.take (i * sz) ++ v.cells.toList ++ cs.drop (i * sz+v.cells.toList.length)) es' omg (fun j u x hu hx=>hrep (j+1) u x (by simpa using hu) (by simpa using hx)) hix hes'
   (by rw[hl1,Ebl,Ebl,Ec0];omega)
  refine ⟨v.cells.toList ++ news,?_,by simp[h2],by simp[h3,hvl,Ebl];omega,fun e he=>?_,fun i' e j p hi' hj=>?_⟩
  ·simp only[Instr.fill];refine (if_neg (by simp[<- Array.length_toList,hvl];omega)).trans ?_;have hf0:=Ns (i * sz) v.cells.toList 0 cs omg;simp only[Nat.add_zero] at hf0;have e3:Array.foldl (fun (cs:Array Value) (x:Value×Nat)=>cs.setIfInBounds (i * sz+x.2) x.1) (⟨cs⟩:Array Value) v.cells.zipIdx=⟨cs.take (i * sz) ++ v.cells.toList ++ cs.drop (i * sz+v.cells.toList.length)⟩:=by
    rw[<- Array.foldl_toList,Array.toList_zipIdx];exact hf0
   refine (congrArg (fun x=>Instr.fill (fun i=>some (i * sz,sz)) x parts) e3).trans (h1.trans ?_);congr 2;apply Ech;intro q;have hA:i * sz+v.cells.toList.length<=cs.length:=by omega
   have hn:(i+1) * sz+news.length<=cs.length:=by rw[h3,Ebl,Ec0];omega
   rw[getElem?_splice _ news ((i+1) * sz) q (by rw[hl1];exact hn),getElem?_splice cs (v.cells.toList ++ news) (i * sz) q (by simp only[Eac];rw[Ebl,Ec0] at hn;omega),getElem?_splice cs _ (i * sz) q hA];rw[Ebl,Ec0] at hn ⊢;simp only[Eac,hvl];by_cases g1:q<i * sz
   ·rw[if_pos omg,if_pos g1,if_pos g1]
   ·by_cases g2:q<i * sz+sz
    ·rw[if_pos g2,if_neg g1,if_pos g2,if_neg g1,if_pos omg,Eat omg]
    ·by_cases g3:q<i * sz+sz+news.length
     ·have g4:q<i * sz+(sz+news.length):=by omega
      simp only[g1,g2,g3,g4,if_true,if_false];rw[Ear omg];congr 1;omega
     ·have g4:¬ q<i * sz+(sz+news.length):=by omega
      simp only[g1,g2,g3,g4,if_false]
  ·rcases Eak.1 he with rfl | he
   ·refine ⟨hpl,fun p hp=>?_⟩;obtain ⟨j,hj,rfl⟩:=Eba hp;obtain ⟨u,_,_,h⟩:=hrow j _ (Eaa hj);exact h
   ·exact h4 e he
  ·cases i' with
   | zero =>
    simp at hi';subst hi';obtain ⟨u,hu,hp,_⟩:=hrow j p hj;have:=(Eab.1 hu).1;exact ⟨u,by rw[Edf,Ebo,Eat this];exact hu,hp⟩
   | succ i' =>
    simp at hi';obtain ⟨u,hu,hp⟩:=h5 i' e j p hi' hj;refine ⟨u,?_,hp⟩;rw[Ebl,Ec0,Ear omg,hvl,<- hu];congr 1;omega
theorem Mw {s:St} {a:Act} (h:RRx Γ β Im s a.tmps w) {d t n:Nat} {parts:List (Nat×Operand)} {K:St->Prop} (hl:Fo P d t n s parts K) :
  Lb Γ a d ((Instr.buildSlice t n ⟨parts.map fun (i,x)=>(i,a.eval x)⟩).run P w) K:=by
 obtain ⟨hd,hn,hl⟩:=hl;split at hl
 ·rename_i e sz hsl;obtain ⟨hnsz,⟨zs,hz,hzl⟩,hpn,hix,es,hes,hK⟩:=hl;obtain ⟨ht,hcs,h0⟩:=Dw hsl;obtain ⟨zv,hzrun,_,hzlen,_,_⟩:=D0 hz;obtain ⟨Im',h'⟩:=RRx.freezeOps (parts.map (·.2)) h;obtain ⟨cs,hc2,hc3,hc4⟩:∃ cs:List Value,cs.length=n * sz/\(n * sz=0->((Array.range (n * sz)).map fun x=>(#[]:Array Value)[x % (#[]:Array Value).size]!)=(⟨cs⟩:Array Value)) /\
    (n * sz≠0->((Array.range (n * sz)).map fun x=>zv.cells[x % zv.cells.size]!)=(⟨cs⟩:Array Value)):=by
   by_cases hz0:n * sz=0
   ·exact ⟨[],by simp[hz0],fun _=>by simp[hz0],fun h=>absurd hz0 h⟩
   ·exact ⟨((Array.range (n * sz)).map fun x=>zv.cells[x % zv.cells.size]!).toList,by simp,fun h=>absurd h hz0,fun _=>rfl⟩
  obtain ⟨news,f1,f2,f3,f4,f5⟩:=Oh (β:=β) (w:=w) (Im:=Im') (sz:=sz) (parts.map fun (i,x)=>(i,a.eval x)) (parts.map fun (i,x)=>(i,(s.freezeOps (parts.map (·.2))).get x)) 0 cs es sm (fun i u x hu hx=>by
   rw[Eam] at hu hx;obtain ⟨q,hq,rfl⟩:=Eal.1 hu;obtain ⟨q',hq',rfl⟩:=Eal.1 hx;rw[hq] at hq';cases hq';exact ⟨rfl,A2 h'.fit _⟩) hix hes (by simp;rw[hpn,hc2];exact Eah _)
  simp only[Ea1] at f2 f3;rw[hpn] at f2 f3;have hcs0:cs.take (0 * sz) ++ news ++ cs.drop (0 * sz+news.length)=news:=by
   rw[Edf,Ebo,Eb7,List.nil_append,List.drop_of_length_le (by rw[f3,hc2];exact Eah _),Eaw]
  rw[hcs0] at f1;have g:=Grow.alloc (w:=w) (Im:=Im') h'.fit.im (.cells ⟨news⟩ e);obtain ⟨r1,r2⟩:=h'.newRow hd (T:=e) (sz:=sz) (tot:=n) (cur:=news) (es:=es) g sm (heap_alloc_new w _) f3 (by rw[f2];exact Eah _) (by unfold maxLen;omega) f4 f5;rw[f2] at r2;refine ⟨_,_,_,Im',_,_,?_,r1,r2,hK⟩;have hlt:¬ n * sz > 2 ^ 24:=by omega
  by_cases hz0:n * sz=0
  ·simp only[Instr.buildSlice,Sem.run_bind,run_underlying ht,Result.andThen_ok,Bk hcs h0,Sem.run_ite,if_neg hlt,Sem.run_pure,if_pos hz0,hc3 hz0,f1,Go.newRow,run_newObj];rfl
  ·simp only[Instr.buildSlice,Sem.run_bind,run_underlying ht,Result.andThen_ok,Bk hcs h0,Sem.run_ite,if_neg hlt,Sem.run_pure,if_neg hz0,hzrun,hc4 hz0,f1,Go.newRow,run_newObj];rfl
 ·exact hl.elim
theorem Po {s:St} {a:Act} (h:RRx Γ β Im s a.tmps w) {t n e sz:Nat} {parts:List (Nat×Operand)} {es:List (List PV)} (hsl:slE P t=some (e,sz)) (hnsz:n * sz<=16777216) (hz:∃ zs,Bu P e=some zs/\zs.length=sz) (hpn:parts.length=n)
  (hix:Jt 0 (parts.map fun (i,x)=>(i,s.get x))=true) (hes:Dn sz (parts.map fun (i,x)=>(i,s.get x))=some es) :
  ∃ v w' Im',(Instr.buildSlice t n ⟨parts.map fun (i,x)=>(i,a.eval x)⟩).run P w=.ok v w'/\Grow w Im w' Im'/\PRep w' Im' v (.sl es):=by
 obtain ⟨zs,hz,hzl⟩:=hz;obtain ⟨ht,hcs,h0⟩:=Dw hsl;obtain ⟨zv,hzrun,_,hzlen,_,_⟩:=D0 hz;obtain ⟨cs,hc2,hc3,hc4⟩:∃ cs:List Value,cs.length=n * sz/\(n * sz=0->((Array.range (n * sz)).map fun x=>(#[]:Array Value)[x % (#[]:Array Value).size]!)=(⟨cs⟩:Array Value)) /\
   (n * sz≠0->((Array.range (n * sz)).map fun x=>zv.cells[x % zv.cells.size]!)=(⟨cs⟩:Array Value)):=by
  by_cases hz0:n * sz=0
  ·exact ⟨[],by simp[hz0],fun _=>by simp[hz0],fun h=>absurd hz0 h⟩
  ·exact ⟨((Array.range (n * sz)).map fun x=>zv.cells[x % zv.cells.size]!).toList,by simp,fun h=>absurd h hz0,fun _=>rfl⟩
 obtain ⟨news,f1,f2,f3,f4,f5⟩:=Oh (β:=β) (w:=w) (Im:=Im) (sz:=sz) (parts.map fun (i,x)=>(i,a.eval x)) (parts.map fun (i,x)=>(i,s.get x)) 0 cs es sm (fun i u x hu hx=>by
  rw[Eam] at hu hx;obtain ⟨q,hq,rfl⟩:=Eal.1 hu;obtain ⟨q',hq',rfl⟩:=Eal.1 hx;rw[hq] at hq';cases hq';exact ⟨rfl,A2 h.fit _⟩) hix hes (by simp;rw[hpn,hc2];exact Eah _)
 simp only[Ea1] at f2 f3;rw[hpn] at f2 f3;have hcs0:cs.take (0 * sz) ++ news ++ cs.drop (0 * sz+news.length)=news:=by
  rw[Edf,Ebo,Eb7,List.nil_append,List.drop_of_length_le (by rw[f3,hc2];exact Eah _),Eaw]
 rw[hcs0] at f1;have g0:=Grow.alloc (w:=w) (Im:=Im) h.fit.im (.cells ⟨news⟩ e);have g:Grow w Im (w.alloc (.cells ⟨news⟩ e)) (fun b=>Im b\/b=w.heap.size) :=
  ⟨g0.os,g0.tape,g0.output,g0.size,g0.block,fun b hb=>.inl hb,fun b hb=>hb.elim .inl fun h=>.inr omg,fun b hb=>hb.elim (g0.lt b) fun h=>by subst h;simp⟩
 have hrun:(Instr.buildSlice t n ⟨parts.map fun (i,x)=>(i,a.eval x)⟩).run P w=.ok (.slice (some ⟨w.heap.size,0,none⟩) n n) (w.alloc (.cells ⟨news⟩ e)):=by
  have hlt:¬ n * sz > 2 ^ 24:=by omega
  by_cases hz0:n * sz=0
  ·simp only[Instr.buildSlice,Sem.run_bind,run_underlying ht,Result.andThen_ok,Bk hcs h0,Sem.run_ite,if_neg hlt,Sem.run_pure,if_pos hz0,hc3 hz0,f1,Go.newRow,run_newObj];rfl
  ·simp only[Instr.buildSlice,Sem.run_bind,run_underlying ht,Result.andThen_ok,Bk hcs h0,Sem.run_ite,if_neg hlt,Sem.run_pure,if_neg hz0,hzrun,hc4 hz0,f1,Go.newRow,run_newObj];rfl
 refine ⟨_,_,_,hrun,g,?_⟩;have hk:Keeps w Im (w.alloc (.cells ⟨news⟩ e)) (fun b=>Im b\/b=w.heap.size):=g.keeps h.fit.im;have hblk:(w.alloc (.cells ⟨news⟩ e)).heap[w.heap.size]? = some (.cells ⟨news⟩ e (0,0)):=heap_alloc_new w _;rw[<- f2];refine PRep.sl w.heap.size 0 es.length sz es (Eah _) (.inr rfl) (fun i j=>news.getD (i * sz+j) undef) (fun x hx=>(f4 x hx).1) (fun x hx=>(f4 x hx).2) (fun i hi j hj=>?_) (fun i x j p hi hj=>?_)
 ·rw[D7 hblk,Ebo];have hlt:i * sz+j<news.length:=by
   rw[f3,<- f2];have:(i+1) * sz<=es.length * sz:=Ea3 _ hi;rw[Ebl,Ec0] at this;omega
  simp[Eaj,hlt]
 ·obtain ⟨u,hu,hp⟩:=f5 i x j p hi hj;have:news.getD (i * sz+j) undef=u:=by simp[Eaj,hu]
  rw[this];exact hp.mono hk
end
end Go.LX
