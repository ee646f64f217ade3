/- The run of a quiet operation yields what 'lq' says. -/
import Derived.Test.YtaghbedfogiopaaGreatDoorLxA
import Derived.Lib.SlBytesRow
import Derived.Lib.BufferRead
set_option linter.unusedSimpArgs false
set_option linter.unusedVariables false
set_option linter.unusedSectionVars false
set_option linter.unnecessarySimpa false
namespace Go.LX
open Go Go.RowKit
section
variable {P:Program} {β:Env} {w:World} {Im:Nat->Prop}
theorem E6 {v:Value} {x:PV} (h:Gr v=some x):PRep w Im v x/\x.scalar=true:=by
 unfold Gr at h;split at h <;> cases h
 ·exact ⟨.bool _,rfl⟩
 ·exact ⟨.int _ _,rfl⟩
 ·rename_i s;exact ⟨.str s.data.toList,rfl⟩
 ·exact ⟨.snil,rfl⟩
 ·exact ⟨.nptr,rfl⟩
 ·exact ⟨.nmap,rfl⟩
 ·exact ⟨.nfn,rfl⟩
 ·exact ⟨.nifc,rfl⟩
theorem Bh {α γ:Type} {f:α->Option γ}:∀ {l:List α} {bs:List γ},Bg f l=some bs->l.length=bs.length/\∀ (i:Nat) (a:α) (b:γ),l[i]? = some a->bs[i]? = some b->f a=some b
 | [],bs,h=>by simp only [Bg] at h;cases h;exact ⟨rfl,fun i a b ha=>by simp at ha⟩
 | a :: l,bs,h=>by
  simp only [Bg] at h;split at h
  ·rename_i b hb;split at h
   ·rename_i bs' hbs;cases h;obtain ⟨h1,h2⟩:=Bh hbs;refine ⟨by simp [h1],fun i x y hx hy=>?_⟩;cases i with
    | zero=>simp at hx hy;subst hx hy;exact hb
    | succ i=>simp at hx hy;exact h2 i x y hx hy
   ·cases h
  ·cases h
theorem getElem?_of_length {α γ:Type} {l:List α} {r:List γ} (h:l.length=r.length) {i:Nat} {b:γ} (hb:r[i]? = some b):∃ a,l[i]? = some a:=by
 have:=(Eab.1 hb).1;exact ⟨l[i]'omg,Eaa _⟩
theorem Dl {l:List Value} {ps:List PV} (h:Bg Gr l=some ps):∀ p∈ps,p.scalar=true:=by
 intro p hp;obtain ⟨i,hi,rfl⟩:=Ea6 hp;obtain ⟨h1,h2⟩:=Bh h;obtain ⟨a,ha⟩:=getElem?_of_length h1 (Eaa hi);exact (E6 (w:=default) (Im:=fun _=>True) (h2 i a _ ha (Eaa hi))).2
theorem Jgw (v:Value):LRep β w Im v (G6 v):=by
 cases v with
 | tuple vs =>
  obtain ⟨l⟩:=vs;simp only [G6];split
  ·rename_i h;have:l=[]:=by simpa using h
   subst this;exact ⟨[],rfl,rfl,fun i x p h=>by simp at h⟩
  ·trivial
 | agg cs =>
  obtain ⟨l⟩:=cs;simp only [G6];split
  ·rename_i ps h;obtain ⟨h1,h2⟩:=Bh h;exact .agg l ps h1 (Dl h) fun i v p hv hp=>(E6 (h2 i v p hv hp)).1
  ·trivial
 | _ =>
  simp only [G6];split
  ·rename_i h;exact (E6 h).1
  ·trivial
theorem A2 {s:St} {a:Act} (hf:Fit β w Im s a.tmps) (x:Operand):LRep β w Im (a.eval x) (s.get x):=by
 cases x with
 | tmp t =>
  simp only [St.get,Act.eval,Eah];cases h:s.tmps[t]? with
  | none=>trivial
  | some l=>exact hf.tmps t l h
 | const v=>exact Jgw v
 | global g=>trivial
 | func f=>exact ⟨[],rfl,rfl,fun i x d h=>by simp at h⟩
theorem Bk {t n:Nat} (h:P.cellsOf t=n) (hn:n≠0) (w:World):(sizeOf t).run P w=.ok n w:=by
 unfold Program.cellsOf at h;unfold sizeOf typeInfo;cases hi:P.info? t with
 | none=>rw [hi] at h;simp at h;omega
 | some i =>
  rw [hi] at h;simp at h;simp [hi,h]
theorem Iu {t:TypeId} {b:Bool} (h:B2 P t=some b) (w:World):(isAgg t).run P w=.ok b w:=by
 unfold B2 at h;unfold isAgg;split at h
 ·rename_i ht;cases h;simp [run_underlying ht]
 ·rename_i ht;cases h;simp [run_underlying ht]
 ·rename_i d h1 h2 ht;cases h;simp only [Sem.run_bind,run_underlying ht,Result.andThen_ok];cases d <;> first | rfl | (exfalso;first | exact h1 _ ht | exact h2 _ _ ht)
 ·cases h
theorem Hk {t e:TypeId} (h:P.underlying t=some (.slice e)):P.elem t=e:=by simp [Program.elem,h]
theorem Jvq {v:Value} {es:List (List PV)} (h:PRep w Im v (.sl es)):∃ a cap,v=.slice a es.length cap/\es.length<=cap/\(a=none->es=[]/\cap=0):=by
 cases h with
 | slNil=>exact ⟨_,0,rfl,Eai _,fun _=>⟨rfl,rfl⟩⟩
 | sl b off cap sz es hcap=>exact ⟨_,cap,rfl,hcap,fun h=>by cases h⟩
def C0 (β:Env) (Im:Nat->Prop) (w:World) (r:Result Value) (K:L->Prop):Prop:=∃ v l,r=.ok v w/\LRep β w Im v l/\K l
theorem Dz {r:Result Value} {K:L->Prop} {k:IntKind} {n:Int} (h:K (.p (.int k n))) (hr:r=.ok (.int k n) w):C0 β Im w r K:=⟨_,.p (.int k n),hr,PRep.int k n,h⟩
theorem I5 {r:Result Value} {K:L->Prop} {b:Bool} (h:K (.p (.bool b))) (hr:r=.ok (.bool b) w):C0 β Im w r K:=⟨_,.p (.bool b),hr,PRep.bool b,h⟩
theorem X2 {r:Result Value} {K:L->Prop} {s:List UInt8} (h:K (.p (.str s))) (hr:r=.ok (.string ⟨⟨s⟩⟩) w):C0 β Im w r K:=⟨_,.p (.str s),hr,PRep.str s,h⟩
theorem Wh {r:Result Value} {K:L->Prop} {v:Value} (l:L) (h:K l) (hr:r=.ok v w) (hl:LRep β w Im v l):C0 β Im w r K:=⟨v,l,hr,hl,h⟩
theorem y_p {r:Result Value} {K:L->Prop} {v:Value} (x:PV) (h:K (.p x)) (hr:r=.ok v w) (hl:PRep w Im v x):C0 β Im w r K:=⟨v,.p x,hr,hl,h⟩
theorem Jbu {op:BinOp} {k k':IntKind} {a b:Int} {K:L->Prop} (t:TypeId) (x y:Operand) (h:lint op k a k' b K) :
  C0 β Im w ((do eqGuard op t x y (.int k a) (.int k' b);binOp op t (.int k a) (.int k' b):Sem Value).run P w) K:=by
 cases op <;> simp only [lint] at h
 case shl=>exact Dz h.2 (by simp [eqGuard_at_int,binOp,Op.shift];omega)
 case shr=>exact Dz h.2 (by simp [eqGuard_at_int,binOp,Op.shift];omega)
 case quo=>obtain ⟨rfl,h0,h⟩:=h;exact Dz h (by simp [eqGuard_at_int,binOp,Op.intDiv,h0])
 case rem=>obtain ⟨rfl,h0,h⟩:=h;exact Dz h (by simp [eqGuard_at_int,binOp,Op.intDiv,h0])
 case add=>obtain ⟨rfl,h⟩:=h;exact Dz h (by simp [eqGuard_at_int,binOp,Op.intArith])
 case sub=>obtain ⟨rfl,h⟩:=h;exact Dz h (by simp [eqGuard_at_int,binOp,Op.intArith])
 case mul=>obtain ⟨rfl,h⟩:=h;exact Dz h (by simp [eqGuard_at_int,binOp,Op.intArith])
 case and=>obtain ⟨rfl,h⟩:=h;exact Dz h (by simp [eqGuard_at_int,binOp,Op.intBits])
 case or=>obtain ⟨rfl,h⟩:=h;exact Dz h (by simp [eqGuard_at_int,binOp,Op.intBits])
 case xor=>obtain ⟨rfl,h⟩:=h;exact Dz h (by simp [eqGuard_at_int,binOp,Op.intBits])
 case andNot=>obtain ⟨rfl,h⟩:=h;exact Dz h (by simp [eqGuard_at_int,binOp,Op.intBits])
 all_goals (obtain ⟨rfl,h⟩:=h;exact I5 h (by simp [eqGuard_at_int,binOp,Op.intCmp]))
theorem Qr (l:List UInt8):(ByteArray.mk ⟨l⟩).toList=l:=by rw [ByteArray.toList_eq]
theorem Jaz {op:BinOp} {a b:List UInt8} {K:L->Prop} (t:TypeId) (x y:Operand) (h:lstr op a b K) :
  C0 β Im w ((do eqGuard op t x y (.string ⟨⟨a⟩⟩) (.string ⟨⟨b⟩⟩);binOp op t (.string ⟨⟨a⟩⟩) (.string ⟨⟨b⟩⟩):Sem Value).run P w) K:=by
 cases op <;> simp only [lstr] at h
 case add =>
  refine X2 h.2 ?_;simp only [eqGuard_at_string,binOp,Op.stringOp,pure_bind];rw [if_neg]
  ·simp only [Sem.run_pure];congr 2
  ·show ¬ (((a.length+b.length:Nat):Int) > IntKind.i64.max);have:IntKind.i64.max=9223372036854775807:=by decide
   omega
 all_goals first | exact h.elim | exact I5 h (by simp [eqGuard_at_string,binOp,Op.stringOp])
theorem Ep:∀ {ts:List Tag} {a b:List PV} {r:Bool},Bt ts a b=some r->a.length=ts.length/\b.length=ts.length:=by
 intro ts
 induction ts with
 | nil=>intro a b r h;cases a <;> cases b <;> simp [Bt] at h ⊢
 | cons t ts ih =>
  intro a b r h;unfold Bt at h;split at h <;> first|(cases h;done) | skip
  all_goals (rename_i heq;cases heq)
  all_goals first
   | (
    split at h <;> first|(cases h;done) | skip
    rename_i hx;have:=ih hx;simp;omega)
   | (
    split at h <;> first|(cases h;done) | skip
    split at h <;> first|(cases h;done) | skip
    rename_i hx;have:=ih hx;simp;omega)
theorem Fg:∀ {ts us:List Tag} {a b:List PV} {r:Bool},Bt (ts ++ us) a b=some r ->
  ∃ r1 r2,Bt ts (a.take ts.length) (b.take ts.length)=some r1/\Bt us (a.drop ts.length) (b.drop ts.length)=some r2/\r=(r1 && r2)
 | [],us,a,b,r,h=>⟨true,r,by simp [Bt],by simpa using h,by simp⟩
 | t :: ts,us,a,b,r,h=>by
  simp only [List.cons_append] at h;unfold Bt at h;split at h <;> first|(cases h;done) | skip
  all_goals (rename_i heq;cases heq)
  ·split at h <;> cases h;rename_i hx;obtain ⟨r1,r2,h3,h4,h5⟩:=Fg hx;exact ⟨_,r2,by simp [Bt,h3];rfl,by simpa using h4,by rw [h5,Bool.and_assoc]⟩
  ·split at h
   ·rename_i hk;split at h <;> cases h;rename_i hx;obtain ⟨r1,r2,h3,h4,h5⟩:=Fg hx;exact ⟨_,r2,by simp only [List.length_cons,List.take_succ_cons,Bt,h3,hk,if_true];rfl,by simpa using h4,by rw [h5,Bool.and_assoc]⟩
   ·cases h
  ·split at h <;> cases h;rename_i hx;obtain ⟨r1,r2,h3,h4,h5⟩:=Fg hx;exact ⟨_,r2,by simp [Bt,h3];rfl,by simpa using h4,by rw [h5,Bool.and_assoc]⟩
def Row (w:World) (Im:Nat->Prop) (cs:List Value) (ps:List PV):Prop :=
 cs.length=ps.length/\∀ (i:Nat) (v:Value) (p:PV),cs[i]? = some v->ps[i]? = some p->PRep w Im v p
theorem Row.drop {cs:List Value} {ps:List PV} (h:Row w Im cs ps) (n:Nat):Row w Im (cs.drop n) (ps.drop n) :=
 ⟨by simp [h.1],fun i v p hv hp=>h.2 (n+i) v p (by simpa using hv) (by simpa using hp)⟩
theorem Row.take {cs:List Value} {ps:List PV} (h:Row w Im cs ps) (n:Nat):Row w Im (cs.take n) (ps.take n) :=
 ⟨by simp [h.1],fun i v p hv hp=>by
  rw [Eao] at hv hp;split at hv
  ·rename_i hl;rw [if_pos hl] at hp;exact h.2 i v p hv hp
  ·cases hv⟩
def Jg (agg:Bool) (cs:List Value):Value:=if agg then .agg ⟨cs⟩ else cs.getD 0 undef
theorem Hs {t:TypeId} {b:Bool} {n:Nat} (hb:B2 P t=some b) (hn:P.cellsOf t=n) (h0:n≠0) (h1:b=false->n=1) (cs:List Value) (off:Nat) (hl:off+n<=cs.length) (w:World) :
  (part t ⟨cs⟩ off).run P w=.ok (Jg b ((cs.drop off).take n)) w:=by
 unfold part;cases b with
 | true =>
  simp only [Sem.run_bind,Iu hb,Result.andThen_ok,if_true,Bk hn h0,Sem.run_pure,Jg];congr 2;rw [<- Ebj];simp
 | false =>
  simp only [Sem.run_bind,Iu hb,Result.andThen_ok,Ebv,if_false,Jg];have h2:=h1 rfl;subst h2;have:off<cs.length:=by omega
  simp [this,Eah]
theorem N5 {t:TypeId} {d:TypeDesc} (h:P.underlying t=some d) (h1:∀ fs,d≠.struct fs) (h2:∀ n e,d≠.array n e):B2 P t=some false:=by
 unfold B2;rw [h];cases d <;> first | rfl | (exfalso;first | exact h1 _ rfl | exact h2 _ _ rfl)
theorem Row.nil_of {cs:List Value} {ps:List PV} {p:PV} (h:Row w Im cs (p :: ps)):∃ v vs,cs=v :: vs/\PRep w Im v p/\Row w Im vs ps:=by
 obtain ⟨h1,h2⟩:=h;cases cs with
 | nil=>simp at h1
 | cons v vs=>exact ⟨v,vs,rfl,h2 0 v p rfl rfl,by simpa using h1,fun i v p hv hp=>h2 (i+1) v p (by simpa using hv) (by simpa using hp)⟩
theorem L4 (d:Nat) (xs ys:Array Value):(Op.eqFields d xs ys []).run P w=.ok true w:=by simp [Op.eqFields]
theorem Jlq:∀ (m:Nat),(∀ (t:TypeId) (ts:List Tag) (b:Bool) (d:Nat) (xs ys:List Value) (p q:List PV) (r:Bool),L1 P m t=some ts->B2 P t=some b->(b=false->ts.length=1)->m<=d->Row w Im xs p->Row w Im ys q->Bt ts p q=some r ->
   (Op.equalIn (d+1) t (Jg b xs) (Jg b ys)).run P w=.ok r w) /\
  (∀ (fs:List Field) (ts:List Tag) (n d:Nat) (xs ys:List Value) (p q:List PV) (r:Bool),Lw P m n fs=some ts->m<=d->Row w Im xs p->Row w Im ys q->p.length=n+ts.length->Bt ts (p.drop n) (q.drop n)=some r ->
   (Op.eqFields d ⟨xs⟩ ⟨ys⟩ fs).run P w=.ok r w):=by
 intro m
 induction m with
 | zero =>
  refine ⟨fun t ts b d xs ys p q r h=>by simp [L1] at h,fun fs ts n d xs ys p q r h _ _ _ _ he=>?_⟩;cases fs with
  | nil =>
   simp [Lw] at h;subst h;cases hp:p.drop n <;> cases hq:q.drop n <;> rw [hp,hq] at he <;> simp [Bt] at he;subst he;exact L4 d _ _
  | cons f fs=>simp [Lw] at h
 | succ m ih =>
  refine ⟨fun t ts b d xs ys p q r h hb hb1 hd hx hy he=>?_,fun fs ts n d xs ys p q r h hd hx hy hlen he=>?_⟩
  ·simp only [L1] at h;split at h
   ·rename_i ht;cases h;have:B2 P t=some false:=N5 ht sm sm;rw [this] at hb;cases hb;obtain ⟨hl1,hl2⟩:=Ep he
    match p,q,hl1,hl2,he with
    | [x],[y],_,_,he =>
     obtain ⟨u,us,rfl,hu,_⟩:=hx.nil_of;obtain ⟨v,vs,rfl,hv,_⟩:=hy.nil_of;unfold Bt at he;split at he <;> first|(cases he;done) | skip
     all_goals (rename_i heq1 heq2 heq3;cases heq1;try (cases heq2;cases heq3))
     cases hu;cases hv;simp [Bt] at he;subst he;exact run_equalIn_bool' _ _ _ _ _ ht
   ·rename_i k ht;cases h;have:B2 P t=some false:=N5 ht sm sm;rw [this] at hb;cases hb;obtain ⟨hl1,hl2⟩:=Ep he
    match p,q,hl1,hl2,he with
    | [x],[y],_,_,he =>
     obtain ⟨u,us,rfl,hu,_⟩:=hx.nil_of;obtain ⟨v,vs,rfl,hv,_⟩:=hy.nil_of;unfold Bt at he;split at he <;> first|(cases he;done) | skip
     all_goals (rename_i heq1 heq2 heq3;cases heq1;try (cases heq2;cases heq3))
     cases hu;cases hv;split at he <;> first|(cases he;done) | skip
     rename_i hk;subst hk;simp [Bt] at he;subst he;exact run_equalIn_int _ _ _ _ _ _ _ ht
   ·rename_i ht;cases h;have:B2 P t=some false:=N5 ht sm sm;rw [this] at hb;cases hb;obtain ⟨hl1,hl2⟩:=Ep he
    match p,q,hl1,hl2,he with
    | [x],[y],_,_,he =>
     obtain ⟨u,us,rfl,hu,_⟩:=hx.nil_of;obtain ⟨v,vs,rfl,hv,_⟩:=hy.nil_of;unfold Bt at he;split at he <;> first|(cases he;done) | skip
     all_goals (rename_i heq1 heq2 heq3;cases heq1;try (cases heq2;cases heq3))
     cases hu;cases hv;simp [Bt] at he;subst he;show (Op.equalIn (d+1) t (.string _) (.string _)).run P w=_;rw [run_equalIn_string _ _ _ _ _ ht,Qr,Qr]
   ·rename_i fs ht;split at h
    ·cases h
    ·rename_i hs;have:B2 P t=some true:=by simp [B2,ht]
     rw [this] at hb;cases hb;have hfs:P.fieldsOf t=fs:=by simp [Program.fieldsOf,ht]
     simp only [Jg,if_true];rw [run_equalIn_struct w d t _ _ (by rw [hfs];exact ht) (by simpa using hs),hfs];obtain ⟨hl1,hl2⟩:=Ep he;exact ih.2 fs.toList ts 0 d xs ys p q r h omg hx hy (by simpa using hl1) (by simpa using he)
   ·cases h
  ·cases fs with
   | nil =>
    simp [Lw] at h;subst h;cases hp:p.drop n <;> cases hq:q.drop n <;> rw [hp,hq] at he <;> simp [Bt] at he;subst he;exact L4 d _ _
   | cons f fs =>
    simp only [Lw] at h;split at h
    ·rename_i a ha;split at h
     ·rename_i hc;obtain ⟨hc1,hc2,hc3,hc4⟩:=hc;split at h
      ·rename_i bts hbt;cases h;obtain ⟨r1,r2,e1,e2,rfl⟩:=Fg he;obtain ⟨d,rfl⟩:∃ e,d=e+1:=⟨d - 1,by omega⟩
       simp only [Eac] at hlen;have hlq:q.length=p.length:=by
        obtain ⟨h1,h2⟩:=Ep he;simp at h1 h2;omega
       obtain ⟨bb,hbb⟩:∃ bb,B2 P f.type=some bb:=by
        cases m with
        | zero=>simp [L1] at ha
        | succ m =>
         unfold L1 at ha;unfold B2;split at ha <;> first|(cases ha;done)|(rename_i ht;rw [ht];exact ⟨_,rfl⟩)
       have hb1:bb=false->a.length=1:=by
        intro hbf;cases m with
        | zero=>simp [L1] at ha
        | succ m =>
         unfold L1 at ha;unfold B2 at hbb;split at ha <;> first|(cases ha;done)|(cases ha;rfl)|(rename_i ht;rw [ht] at hbb;simp at hbb;rw [hbf] at hbb;cases hbb)
       have hp1:=Hs (P:=P) hbb hc3 hc4 hb1 xs n (by rw [hx.1];omega) w;have hp2:=Hs (P:=P) hbb hc3 hc4 hb1 ys n (by rw [hy.1];omega) w;have he1:=ih.1 f.type a bb d _ _ _ _ r1 ha hbb hb1 omg ((hx.drop n).take a.length) ((hy.drop n).take a.length) e1;have he2:=ih.2 fs bts (n+a.length) (d+1) xs ys p q r2 hbt omg hx hy omg (by simpa [Ebg] using e2);simp only [Op.eqFields,if_pos hc2,Sem.run_bind,hc1,hp1,hp2,Result.andThen_ok,he1];cases r1
       ·simp
       ·simp only [Ebe,Ebv,if_false,Bool.true_and];exact he2
      ·cases h
     ·cases h
    ·cases h
def Jiv:Value->Bool
 | .int _ _ | .string _ | .bool _ | .float _ _ | .complex _ _ _=>false
 | _=>true
theorem Ov {t:TypeId} {xo yo:Operand} {u v:Value} {x y:L} {r:Bool} (hx:LRep β w Im u x) (hy:LRep β w Im v y) (h:Fy P t (D8 xo || D8 yo) x y=some r) :
  (∀ op,(op=.eql\/op=.neq)->(eqGuard op t xo yo u v).run P w=.ok () w)/\(∀ d,(Op.equalIn (d+1) t u v).run P w=.ok r w)/\Jiv u=true:=by
 have gd:∀ (u v:Value),(u≠.nilIface\/v≠.nilIface)->(∀ a,u≠.agg a)->∀ op,(op=.eql\/op=.neq)->(eqGuard op t xo yo u v).run P w=.ok () w:=by
  intro u v h1 h2 op ho;cases u <;> first|(exact absurd rfl (h2 _))|(rcases ho with rfl | rfl <;> rfl)|(cases v <;> first|(rcases ho with rfl | rfl <;> rfl)|(rcases h1 with h1 | h1 <;> exact absurd rfl h1))
 unfold Fy at h;split at h <;> first|(cases h;done) | skip
 ·rename_i ht;cases hx;cases hy;cases h;exact ⟨gd _ _ (.inl sm) sm,fun d=>by simp [Op.equalIn,run_underlying ht],rfl⟩
 ·rename_i ht;obtain ⟨loc,_,rfl⟩:=hx;cases hy;cases h;exact ⟨gd _ _ (.inl sm) sm,fun d=>by simp [Op.equalIn,run_underlying ht],rfl⟩
 ·rename_i ht;obtain ⟨b,o,_,rfl,_⟩:=hx;cases hy;cases h;exact ⟨gd _ _ (.inl sm) sm,fun d=>by simp [Op.equalIn,run_underlying ht],rfl⟩
 ·rename_i e _ _ _ _ _ _ ht;split at h
  ·rename_i hc;obtain ⟨rfl,rfl,rfl,h0⟩:=hc;obtain ⟨loc,hβ,rfl⟩:=hx;obtain ⟨loc',hβ',rfl⟩:=hy;rw [hβ] at hβ';cases hβ';cases h;exact ⟨gd _ _ (.inl sm) sm,fun d=>by simp [Op.equalIn,run_underlying ht,Bk (P:=P) (t:=e) rfl h0,h0,run_sameAddr_same],rfl⟩
  ·cases h
 ·rename_i ht;split at h
  ·rename_i hc;cases hx;cases hy;cases h;refine ⟨fun op ho=>?_,fun d=>by simp [Op.equalIn,run_underlying ht],rfl⟩;cases xo <;> cases yo <;> simp [D8] at hc <;> rcases ho with rfl | rfl <;> simp [eqGuard]
  ·cases h
 ·rename_i ht;cases hx;cases hy;cases h;exact ⟨gd _ _ (.inl sm) sm,fun d=>by simp [Op.equalIn,run_underlying ht],rfl⟩
 ·rename_i ht;cases hx;cases hy;cases h;exact ⟨gd _ _ (.inr sm) sm,fun d=>by simp [Op.equalIn,run_underlying ht],rfl⟩
 ·rename_i ht;cases hx;cases hy;cases h;exact ⟨gd _ _ (.inl sm) sm,fun d=>by simp [Op.equalIn,run_underlying ht],rfl⟩
 ·rename_i ht;cases hx;cases hy;cases h;exact ⟨gd _ _ (.inr sm) sm,fun d=>by simp [Op.equalIn,run_underlying ht],rfl⟩
 ·rename_i ht;cases hx;cases hy;cases h;exact ⟨gd _ _ (.inl sm) sm,fun d=>by simp [Op.equalIn,run_underlying ht],rfl⟩
 ·rename_i ht;cases hx;cases hy;cases h;exact ⟨gd _ _ (.inl sm) sm,fun d=>by simp [Op.equalIn,run_underlying ht],rfl⟩
 ·rename_i ht;rcases hx with ⟨loc,cap,o,_,_,_,_,rfl⟩ | ⟨_,_,h0,_⟩
  ·cases hy;cases h;exact ⟨gd _ _ (.inl sm) sm,fun d=>by simp [Op.equalIn,run_underlying ht],rfl⟩
  ·cases h0
 ·rename_i ht;cases hx;cases hy;cases h;exact ⟨gd _ _ (.inl sm) sm,fun d=>by simp [Op.equalIn,run_underlying ht],rfl⟩
 ·rename_i ht;obtain ⟨loc,_,rfl⟩:=hx;cases hy;cases h;exact ⟨gd _ _ (.inl sm) sm,fun d=>by simp [Op.equalIn,run_underlying ht],rfl⟩
 ·rename_i ht;cases hx;cases hy;cases h;exact ⟨gd _ _ (.inl sm) sm,fun d=>by simp [Op.equalIn,run_underlying ht],rfl⟩
 ·rename_i ht;cases hx;cases hy;cases h;exact ⟨gd _ _ (.inl sm) sm,fun d=>by simp [Op.equalIn,run_underlying ht],rfl⟩
 ·rename_i ht;obtain ⟨vs,rfl,_⟩:=hx;cases hy;cases h;exact ⟨gd _ _ (.inl sm) sm,fun d=>by simp [Op.equalIn,run_underlying ht],rfl⟩
 ·rename_i ht;obtain ⟨vs,rfl,_⟩:=hx;cases hy;cases h;exact ⟨gd _ _ (.inl sm) sm,fun d=>by simp [Op.equalIn,run_underlying ht],rfl⟩
theorem L5 {t:TypeId} {u v:Value} {r:Bool} (h:∀ d,(Op.equalIn (d+1) t u v).run P w=.ok r w) (h1:Jiv u=true) :
  (binOp .eql t u v).run P w=.ok (.bool r) w/\(binOp .neq t u v).run P w=.ok (.bool (!r)) w:=by
 have he:(Op.equal t u v).run P w=.ok r w:=h 9999;cases u <;> first|(cases h1;done)|(constructor <;> simp [binOp,he])
theorem Jah {op:BinOp} {t:TypeId} (xo yo:Operand) {u v:Value} {x y:L} {K:L->Prop} (hx:LRep β w Im u x) (hy:LRep β w Im v y) (h:lbin P op t (D8 xo || D8 yo) x y K) :
  C0 β Im w ((do eqGuard op t xo yo u v;binOp op t u v:Sem Value).run P w) K:=by
 unfold lbin at h;split at h
 ·cases hx;cases hy;exact Jbu t xo yo h
 ·cases hx;cases hy;exact Jaz t xo yo h
 ·cases hx;cases hy;obtain ⟨ht,h⟩:=h;split at h
  ·refine I5 h ?_;rw [eqGuard_at_bool];simp only [pure_bind];exact run_eql_bool _ _ _ _ ht
  ·refine I5 h ?_;rw [eqGuard_at_bool];simp only [pure_bind];exact run_neq_bool _ _ _ _ ht
  ·exact h.elim
 ·obtain ⟨ts,hts,r,hr,h⟩:=h;simp only [Nt] at hts;split at hts
  ·rename_i hc;cases hx with
   | agg cs ps hl hs hp =>
   cases hy with
   | agg ds qs hl' hs' hq =>
   have he:=(Jlq (P:=P) (w:=w) (Im:=Im) 100).1 t ts true 9999 cs ds _ _ r hts hc.1 sm omg ⟨hl,hp⟩ ⟨hl',hq⟩ hr;simp only [Jg,if_true] at he;split at h
   ·refine I5 h ?_;simp only [Sem.run_bind,run_eqGuard_agg w _ _ _ _ _ _ hc.2,Result.andThen_ok,run_eql_struct,he]
   ·refine I5 h ?_;simp only [Sem.run_bind,run_eqGuard_agg w _ _ _ _ _ _ hc.2,Result.andThen_ok,run_neq_struct,he]
   ·exact h.elim
  ·cases hts
 ·unfold Db at h;split at h
  ·rename_i r _ _ hn;obtain ⟨h1,h2,h3⟩:=Ov hx hy hn;refine I5 h ?_;simp only [Sem.run_bind,h1 .eql (.inl rfl),Result.andThen_ok,(L5 h2 h3).1]
  ·rename_i r _ _ hn;obtain ⟨h1,h2,h3⟩:=Ov hx hy hn;refine I5 h ?_;simp only [Sem.run_bind,h1 .neq (.inr rfl),Result.andThen_ok,(L5 h2 h3).2]
  ·exact h.elim
theorem Jf0 {op:UnOp} {u:Value} {x:L} {K:L->Prop} (hx:LRep β w Im u x) (h:lun op x K):C0 β Im w ((Op.unary op u).run P w) K:=by
 unfold lun at h;split at h
 ·cases hx;exact Dz h (by simp [Op.unary,Op.intArith])
 ·cases hx;exact I5 h (by simp [Op.unary])
 ·exact h.elim
theorem Io:∀ {es:List (List PV)} {bs:List UInt8},Cw es=some bs->es.length=bs.length/\∀ (i:Nat) (e:List PV),es[i]? = some e->∃ b,bs[i]? = some b/\e=[.int .u8 (b.toNat:Int)]
 | [],bs,h=>by simp only [Cw] at h;cases h;exact ⟨rfl,fun i e he=>by simp at he⟩
 | x :: l,bs,h=>by
  unfold Cw at h;split at h
  ·rename_i heq;cases heq
  ·rename_i n l' heq;cases heq;split at h
   ·rename_i hn;split at h
    ·rename_i bs' hbs;cases h;obtain ⟨h1,h2⟩:=Io hbs;refine ⟨by simp [h1],fun i e he=>?_⟩;cases i with
     | zero =>
      simp at he;subst he;refine ⟨_,rfl,?_⟩;congr 2;simp;omega
     | succ i=>simp at he;simpa using h2 i e he
    ·cases h
   ·cases h
  ·cases h
theorem Jxa {src dst e:TypeId} (oa:Option Addr) (c:Nat) (hs:P.underlying src=some (.slice e)) (he:P.underlying e=some (.int .u8)) (hd:P.underlying dst=some .string) :
  (convert src dst (.slice oa 0 c)).run P w=.ok (.string ⟨#[]⟩) w:=by
 rw [Go.run_convert_bytes_string w src dst e oa 0 c hs he hd];cases oa with
 | none=>simp [Conv.bytesToString];rfl
 | some a=>simp [Conv.bytesToString,loadCells,loadCellsFrom];rfl
theorem Xm {src dst e:TypeId} {u:Value} {es:List (List PV)} {bs:List UInt8} (hd:P.underlying dst=some .string) (hs:P.underlying src=some (.slice e)) (he:P.underlying e=some (.int .u8)) (hx:PRep w Im u (.sl es)) (hb:Cw es=some bs) :
  (convert src dst u).run P w=.ok (.string ⟨⟨bs⟩⟩) w:=by
 obtain ⟨h1,h2⟩:=Io hb;cases hx with
 | slNil =>
  have:bs=[]:=Eal (by rw [<- h1];rfl);subst this;exact Jxa _ 0 hs he hd
 | sl b off cap sz es hcap hbI f hsz hsc hc hp =>
  have hbytes:Go.Lib.Bytes w b off ⟨⟨bs⟩⟩:=by
   intro i hi;have hi':i<bs.length:=hi;have hie:i<es.length:=by omega
   obtain ⟨c,hc1,hc2⟩:=h2 i es[i] (Eaa hie);have hs1:sz=1:=by rw [<- hsz _ (Ebq hie),hc2];rfl
   subst hs1;have hcell:=hc i hie 0 omg;have hpr:=hp i es[i] 0 (.int .u8 (c.toNat:Int)) (Eaa hie) (by rw [hc2];rfl);generalize f i 0=v at hcell hpr;cases hpr;have e1:(⟨⟨bs⟩⟩:ByteArray)[i]=c:=by
    have:bs[i]? = some bs[i]:=Eaa hi';rw [this] at hc1;cases hc1;rfl
   rw [e1];simpa using hcell
  have:=Go.Lib.run_convert_whole (P:=P) w src e dst hs he hd b off ⟨⟨bs⟩⟩ hbytes cap;have e2:(⟨⟨bs⟩⟩:ByteArray).size=es.length:=h1.symm;rw [e2] at this;exact this
theorem Jl {src dst:TypeId} {u:Value} {x:L} {K:L->Prop} (hx:LRep β w Im u x) (h:J1 P src dst x K):C0 β Im w ((convert src dst u).run P w) K:=by
 unfold J1 at h;split at h
 ·rename_i hd;cases hx;obtain ⟨h1,h2⟩:=h;obtain ⟨ds,hs⟩:=Ecm.1 h1;refine Dz h2 ?_;simp only [convert,Sem.run_bind,run_underlying hs,run_underlying hd,Result.andThen_ok,Conv.intToInt];rfl
 ·rename_i hd;cases hx;obtain ⟨h1,h2,h3⟩:=h;obtain ⟨ds,hs⟩:=Ecm.1 h1;refine X2 h3 ?_;simp only [convert,Sem.run_bind,run_underlying hs,run_underlying hd,Result.andThen_ok];cases ds <;> first | rfl | exact absurd hs (h2 _)
 ·rename_i hd;cases hx;obtain ⟨h1,h2,h3⟩:=h;obtain ⟨ds,hs⟩:=Ecm.1 h1;refine X2 h3 ?_;simp only [convert,Sem.run_bind,run_underlying hs,run_underlying hd,Result.andThen_ok,Conv.intToString];cases ds <;> first | rfl | exact absurd hs (h2 _)
 ·rename_i hd;obtain ⟨⟨e,hs,he⟩,bs,hb,hK⟩:=h;exact X2 hK (Xm hd hs he hx hb)
 ·exact h.elim
theorem Jb9 {t ty:TypeId} {u:Value} {x:L} {K:L->Prop} (hx:LRep β w Im u x) (h:llen P t x K):C0 β Im w ((Builtin.len_ #[t] ty #[u]).run P w) K:=by
 unfold llen at h;split at h
 ·rename_i ht;cases hx;refine Dz h ?_;rw [run_len_string _ _ _ _ ht];rfl
 ·rename_i ht;obtain ⟨a,cap,rfl,_⟩:=Jvq hx;refine Dz h ?_;simp [Builtin.len_,run_underlying ht,goInt]
 ·rename_i ht;cases hx;refine Dz h ?_;simp [Builtin.len_,run_underlying ht,goInt]
 ·rename_i ht;rcases hx with ⟨loc,cap,o,_,_,_,_,rfl⟩ | ⟨_,_,rfl,rfl⟩
  ·refine Dz h ?_;simp [Builtin.len_,run_underlying ht,goInt]
  ·refine Dz h ?_;simp [Builtin.len_,run_underlying ht,goInt]
 ·rename_i ht;cases hx;refine Dz h ?_;simp [Builtin.len_,run_underlying ht,goInt]
 ·rename_i ht;cases hx;rename_i r cl ents hr hw hn hb hl hk hv;refine Dz h ?_;simp [Builtin.len_,run_underlying ht,goInt,getObj,Sem.run,hw,hl,Result.andThen]
 ·exact h.elim
theorem K6 {b:Bool} {ts:Array TypeId} {t:TypeId} {xs:List L} {vs:List Value} {K:L->Prop} (hl:vs.length=xs.length) (hv:∀ (i:Nat) (v:Value) (x:L),vs[i]? = some v->xs[i]? = some x->LRep β w Im v x)
  (h:Fj b xs K):C0 β Im w ((if b then Builtin.max_ ts t ⟨vs⟩ else Builtin.min_ ts t ⟨vs⟩).run P w) K:=by
 unfold Fj at h;split at h
 ·rename_i k a k' c
  match vs,hl with
  | [u,v],_ =>
   have h0:=hv 0 u _ rfl rfl;have h1:=hv 1 v _ rfl rfl;cases h0;cases h1;cases b
   ·refine Dz h ?_;simp only [Ebv,if_false];refine (run_min_int2 _ _ _ _ _ _ _).trans ?_;congr 2;by_cases hc:c<a
    ·rw [if_pos hc];omega
    ·rw [if_neg hc];omega
   ·refine Dz h ?_;simp only [if_true];refine (run_max_int2 _ _ _ _ _ _ _).trans ?_;congr 2;by_cases hc:c > a
    ·rw [if_pos hc];omega
    ·rw [if_neg hc];omega
 ·exact h.elim
end
section
variable {P:Program} {β:Env} {w:World} {Im:Nat->Prop}
theorem Cd (b o n:Nat):(⟨b,o,none⟩:Addr).add n=⟨b,o+n,none⟩:=by
 unfold Addr.add;split <;> simp_all
theorem Dw {t e sz:Nat} (h:slE P t=some (e,sz)):P.underlying t=some (.slice e)/\P.cellsOf e=sz/\sz≠0:=by
 unfold slE at h;split at h
 ·rename_i e' ht;split at h
  ·cases h
  ·rename_i h0;cases h;exact ⟨ht,rfl,h0⟩
 ·cases h
theorem Rh {t n e sz:Nat} (h:arE P t=some (n,e,sz)):P.underlying t=some (.array n e)/\P.cellsOf e=sz/\sz≠0:=by
 unfold arE at h;split at h
 ·rename_i n' e' ht;split at h
  ·cases h
  ·rename_i h0;cases h;exact ⟨ht,rfl,h0⟩
 ·cases h
theorem Ip {t e sz:Nat} (h:slE P t=some (e,sz)) (b o len cap:Nat) (k:IntKind) (i:Int) (h0:0<=i) (h1:i<len) (w:World) :
  (Instr.indexAt t (.slice (some ⟨b,o,none⟩) len cap) (.int k i)).run P w=.ok (.pointer (some ⟨b,o+i.toNat * sz,none⟩)) w:=by
 obtain ⟨ht,hs,hn⟩:=Dw h;simp [Instr.indexAt,run_underlying ht,asIntOf,h0,h1,Bk hs hn,Cd]
theorem PRep.eptr {v:Value} {es:List (List PV)} {i:Nat} {e:List PV} (h:PRep w Im v (.sl es)) (he:es[i]? = some e) :
  ∃ b o cap,v=.slice (some ⟨b,o,none⟩) es.length cap/\LRep β w Im (.pointer (some ⟨b,o+i * e.length,none⟩)) (.eptr e):=by
 cases h with
 | slNil=>simp at he
 | sl b o cap sz _ hcap hb f hsz hsc hc hp =>
  have hm:=Eae he;have hs:=hsz e hm;refine ⟨b,o,cap,rfl,b,o+i * e.length,hb,rfl,f i,fun j hj=>?_,fun j p hj=>⟨hp i e j p he hj,hsc e hm p (Eae hj)⟩⟩;rw [hs];exact hc i (Eab.1 he).1 j omg
theorem Nl {s:St} {a:Act} (hf:Fit β w Im s a.tmps) {t:TypeId} {u v:Value} {x ix:L} {K:L->Prop} (hx:LRep β w Im u x) (hi:LRep β w Im v ix) (h:Dg P s.regs t x ix K) :
  C0 β Im w ((Instr.indexAt t u v).run P w) K:=by
 unfold Dg at h;split at h
 ·rename_i es k i;split at h
  ·rename_i e0 sz hsl;obtain ⟨h0,e,he,hl,hK⟩:=h;cases hi;obtain ⟨b,o,cap,rfl,hr⟩:=PRep.eptr (β:=β) hx he;subst hl;have hlt:=(Eab.1 he).1;exact ⟨_,_,Ip hsl b o es.length cap k i h0 omg w,hr,hK⟩
  ·exact h.elim
 ·rename_i d off len k i;split at h
  ·rename_i T sz es e sz' hr hsl;obtain ⟨rfl,h0,h1,hK⟩:=h;cases hi;rcases hx with ⟨loc,cap,o,hβ,hcap,hlen,ho,rfl⟩ | ⟨_,_,rfl,_⟩
   ·have hreg:=hf.regs d _ (Ax hr);rcases hreg with ⟨hn,_⟩ | ⟨loc',cur,hβ',hsz,_⟩
    ·rw [hβ] at hn;cases hn
    ·rw [hβ] at hβ';cases hβ';refine Wh (.ptr d (off+i.toNat) 0) hK (Ip hsl _ _ len cap k i h0 h1 w) ⟨loc,hβ,?_⟩;rw [ho (.inl omg),hsz,Nat.add_zero,Ebo]
   ·omega
  ·rename_i T sz full es e sz' hr hsl;obtain ⟨rfl,h0,h1,hK⟩:=h;cases hi;rcases hx with ⟨loc,cap,o,hβ,hcap,hlen,ho,rfl⟩ | ⟨_,_,rfl,_⟩
   ·have hreg:=hf.regs d _ (Ax hr);rcases hreg with ⟨hn,_⟩ | ⟨loc',cur,hβ',hsz,_⟩
    ·rw [hβ] at hn;cases hn
    ·rw [hβ] at hβ';cases hβ';refine Wh (.ptr d (off+i.toNat) 0) hK (Ip hsl _ _ len cap k i h0 h1 w) ⟨loc,hβ,?_⟩;rw [ho (.inl omg),hsz,Nat.add_zero,Ebo]
   ·omega
  ·exact h.elim
 ·rename_i d a' b' k i;split at h
  ·rename_i n e sz har;obtain ⟨h0,h1,hK⟩:=h;cases hi;obtain ⟨loc,hβ,rfl⟩:=hx;obtain ⟨ht,hs,hn⟩:=Rh har;refine Wh (v:=.pointer (some ⟨loc.blk,a' * loc.sz+b'+i.toNat * sz,none⟩)) (.ptr d a' (b'+i.toNat * sz)) hK ?_ ⟨loc,hβ,by rw [Ebx]⟩;simp [Instr.indexAt,run_underlying ht,asIntOf,Instr.sureAddr,h0,h1,Bk hs hn,Cd]
  ·exact h.elim
 ·rename_i cs k i;split at h
  ·rename_i n e sz har;obtain ⟨h0,h1,h2,hK⟩:=h;cases hi;obtain ⟨b,o,hb,rfl,g,hc,hp⟩:=hx;obtain ⟨ht,hs,hn⟩:=Rh har;refine Wh (v:=.pointer (some ⟨b,o+i.toNat * sz,none⟩)) (.eptr (cs.drop (i.toNat * sz))) hK ?_ ⟨b,o+i.toNat * sz,hb,rfl,fun j=>g (i.toNat * sz+j),fun j hj=>?_,fun j p hj=>?_⟩
   ·simp [Instr.indexAt,run_underlying ht,asIntOf,Instr.sureAddr,h0,h1,Bk hs hn,Cd]
   ·have:=hc (i.toNat * sz+j) (by simp at hj;omega)
    rwa [<- Ebx] at this
   ·exact hp (i.toNat * sz+j) p (by simpa using hj)
  ·exact h.elim
 ·exact h.elim
theorem V0 {t:TypeId} {u v:Value} {x ix:L} {K:L->Prop} (hx:LRep β w Im u x) (hi:LRep β w Im v ix) (h:Ix P t x ix K):C0 β Im w ((Instr.index t u v).run P w) K:=by
 unfold Ix at h;split at h
 ·rename_i s k i ht;obtain ⟨h0,b,hb,hK⟩:=h;cases hx;cases hi;refine Dz hK ?_;have hg:(⟨⟨s⟩⟩:ByteArray)[i.toNat]? = some b:=by
   have hlt:=(Eab.1 hb).1;rw [ByteArray.getElem?_lt' _ _ hlt];congr 1;exact (Eab.1 hb).2
  simp [Instr.index,asIntOf,run_underlying ht,h0,hg]
 ·rename_i n e cs k i ht;obtain ⟨hag,hc1,h0,h1,c,hc,hK⟩:=h;cases hi;cases hx with
  | agg vs _ hl hs hp =>
  have hlt:=(Eab.1 hc).1;have hp1:=Hs (P:=P) hag hc1 omg (fun _=>rfl) vs i.toNat omg w;refine ⟨Jg false ((vs.drop i.toNat).take 1),.p c,?_,?_,hK⟩
  ·simp [Instr.index,asIntOf,run_underlying ht,h0,h1,Bk hc1,hp1]
  ·have hv:vs[i.toNat]? = some (vs[i.toNat]'omg):=Eaa _;have:=hp _ _ _ hv hc;simpa [Jg,Eah,hv,LRep] using this
 ·exact h.elim
theorem J9 {t i off ft:Nat} (h:fld P t i=some (off,ft)):∃ fs f,P.underlying t=some (.struct fs)/\fs[i]? = some f/\f.offset=off/\f.type=ft/\P.cellsOf ft≠0:=by
 unfold fld at h;split at h
 ·rename_i fs ht;cases hf:fs[i]? with
  | none=>simp [hf] at h
  | some f =>
   simp only [hf,Option.bind_some] at h;split at h
   ·cases h
   ·rename_i h0;cases h;exact ⟨fs,f,ht,hf,rfl,rfl,h0⟩
 ·cases h
theorem Nm {t f:Nat} {u:Value} {x:L} {K:L->Prop} (hx:LRep β w Im u x) (h:D2 P t x f K):C0 β Im w ((Instr.fieldAt t u f).run P w) K:=by
 unfold D2 at h;split at h
 ·rename_i off ft cs hfld;obtain ⟨fs,fd,ht,hfd,ho,hft,hn⟩:=J9 hfld;obtain ⟨b,o,hb,rfl,g,hc,hp⟩:=hx;refine Wh (v:=.pointer (some ⟨b,o+off,none⟩)) (.eptr (cs.drop off)) h.2 ?_ ⟨b,o+off,hb,rfl,fun j=>g (off+j),fun j hj=>?_,fun j p hj=>?_⟩
  ·simp [Instr.fieldAt,run_underlying ht,hfd,Instr.sureAddr,fieldPlace,Bk (P:=P) (t:=fd.type) rfl (by rw [hft];exact hn),ho,Cd];intro hz;rw [hft] at hz;exact absurd hz hn
  ·have:=hc (off+j) (by simp at hj;omega)
   rwa [<- Ebx] at this
  ·exact hp (off+j) p (by simpa using hj)
 ·rename_i off ft d i j hfld;obtain ⟨fs,fd,ht,hfd,ho,hft,hn⟩:=J9 hfld;obtain ⟨loc,hβ,rfl⟩:=hx;refine Wh (v:=.pointer (some ⟨loc.blk,i * loc.sz+j+off,none⟩)) (.ptr d i (j+off)) h ?_ ⟨loc,hβ,by rw [Ebx]⟩;simp [Instr.fieldAt,run_underlying ht,hfd,Instr.sureAddr,fieldPlace,Bk (P:=P) (t:=fd.type) rfl (by rw [hft];exact hn),ho,Cd];intro hz;rw [hft] at hz;exact absurd hz hn
 ·exact h.elim
theorem PRep.sub {vs:List Value} {cs:List PV} (hl:vs.length=cs.length) (hs:∀ p∈cs,p.scalar=true)
  (hp:∀ (i:Nat) (v:Value) (p:PV),vs[i]? = some v->cs[i]? = some p->PRep w Im v p) (off n:Nat):PRep w Im (.agg ⟨(vs.drop off).take n⟩) (.agg ((cs.drop off).take n)):=by
 have hr:Row w Im vs cs:=⟨hl,hp⟩
 have:=(hr.drop off).take n;exact .agg _ _ this.1 (fun p hpm=>hs p (Ea7 (Ebm hpm))) this.2
theorem U1 {t f:Nat} {u:Value} {x:L} {K:L->Prop} (hx:LRep β w Im u x) (h:Q5 P t x f K):C0 β Im w ((Instr.field t u f).run P w) K:=by
 unfold Q5 at h;split at h
 ·rename_i off ft cs hfld;obtain ⟨fs,fd,ht,hfd,ho,hft,hn⟩:=J9 hfld;cases hx with
  | agg vs _ hl hs hp =>
  split at h
  ·rename_i hag;have hp1:=Hs (P:=P) (t:=ft) (n:=P.cellsOf ft) hag rfl hn sm vs off omg w;refine y_p _ h.2 ?_ (PRep.sub hl hs hp off (P.cellsOf ft));simp only [Instr.field,Sem.run_bind,run_underlying ht,Result.andThen_ok,hfd,asAgg,Sem.run_pure,hft,ho,hp1,Jg,if_true]
  ·rename_i hag;obtain ⟨h1,c,hc,hK⟩:=h;have hlt:=(Eab.1 hc).1;have hp1:=Hs (P:=P) (t:=ft) hag h1 omg (fun _=>rfl) vs off omg w;have hv:vs[off]? = some (vs[off]'omg):=Eaa _;refine ⟨Jg false ((vs.drop off).take 1),.p c,?_,?_,hK⟩
   ·simp only [Instr.field,Sem.run_bind,run_underlying ht,Result.andThen_ok,hfd,asAgg,Sem.run_pure,hft,ho,hp1]
   ·have:=hp _ _ _ hv hc;simpa [Jg,Eah,hv,LRep] using this
  ·exact h.elim
 ·exact h.elim
theorem D7 {b o:Nat} {cs:List Value} {T:TypeId} (h:w.heap[b]? = some (.cells ⟨cs⟩ T (0,0))):w.cell? ⟨b,o,none⟩=cs[o]?:=by
 rw [cell_of_row w b o _ T (0,0) h];simp
theorem Df {t:TypeId} (hag:B2 P t=some false) {a:Addr} {v:Value} (h:w.cell? a=some v):(loadVar t a).run P w=.ok v w:=by
 simp [loadVar,Iu hag,run_load,h]
theorem Ew {t:TypeId} {n:Nat} (hag:B2 P t=some true) (hn:P.cellsOf t=n) (h0:n≠0) {b o:Nat} {cs:List Value} (hl:cs.length=n) (h:∀ (j:Nat) (v:Value),cs[j]? = some v->w.cell? ⟨b,o+j,none⟩=some v) :
  (loadVar t ⟨b,o,none⟩).run P w=.ok (.agg ⟨cs⟩) w:=by
 have:=run_loadCells_list (P:=P) w ⟨b,o,none⟩ cs (fun j v hv=>by rw [Cd];exact h j v hv);rw [hl] at this;simp [loadVar,Iu hag,Bk hn h0,this]
theorem Jk {s:St} {a:Act} (hf:Fit β w Im s a.tmps) {t:TypeId} {u:Value} {x:L} {K:L->Prop} (hx:LRep β w Im u x) (h:Jc P s.regs t x K) :
  C0 β Im w ((Instr.loadAt t u).run P w) K:=by
 unfold Jc at h;split at h
 ·rename_i cs hag;obtain ⟨c,hc,hK⟩:=h;obtain ⟨b,o,hb,rfl,g,hg,hp⟩:=hx;have hlt:=(Eab.1 hc).1;exact y_p c hK (by simpa [Instr.loadAt,Instr.sureAddr] using Df hag (hg 0 hlt)) (hp 0 c hc).1
 ·rename_i cs hag;obtain ⟨h0,hle,hK⟩:=h;obtain ⟨b,o,hb,rfl,g,hg,hp⟩:=hx;have hl:((List.range (P.cellsOf t)).map g).length=P.cellsOf t:=by simp
  refine y_p _ hK (v:=.agg ⟨(List.range (P.cellsOf t)).map g⟩) ?_ (PRep.agg _ _ (by simp;omega) (fun p hpm=>?_) (fun i v p hv hpi=>?_))
  ·simp only [Instr.loadAt,Instr.sureAddr,Sem.run_bind,Sem.run_pure,Result.andThen_ok];refine Ew hag rfl omg hl fun j v hv=>?_
   rw [Eam] at hv;obtain ⟨k,hk,rfl⟩:=Eak.1 hv;obtain ⟨hk1,rfl⟩:=Eab.1 hk;simp at hk1 ⊢;exact hg j omg
  ·obtain ⟨i,hi,rfl⟩:=Ea6 (Ebm hpm);exact (hp i _ (Eaa hi)).2
  ·rw [Eao] at hpi;split at hpi
   ·rw [Eam] at hv;obtain ⟨k,hk,rfl⟩:=Eak.1 hv;obtain ⟨hk1,rfl⟩:=Eab.1 hk;simp;exact (hp i p hpi).1
   ·cases hpi
 ·rename_i d i j hag;obtain ⟨loc,hβ,rfl⟩:=hx;split at h
  ·rename_i T cs hr;obtain ⟨rfl,c,hc,hK⟩:=h;obtain ⟨loc',cur,hβ',hsz,htot,hb,hlen,hcell⟩:=hf.regs d _ (Ax hr);rw [hβ] at hβ';cases hβ';obtain ⟨v,hv⟩:=getElem?_of_length hlen hc;refine ⟨v,c,?_,(hcell j v c hv hc).1,hK⟩;simp only [Instr.loadAt,Instr.sureAddr,Sem.run_bind,Sem.run_pure,Result.andThen_ok];exact Df hag (by rw [D7 hb];simpa using hv)
  ·rename_i T sz es hr;obtain ⟨e,he,c,hc,hK⟩:=h;rcases hf.regs d _ (Ax hr) with ⟨_,rfl⟩ | ⟨loc',cur,hβ',hsz,hb,hcl,hle,hml,hel,hcell⟩
   ·simp at he
   ·rw [hβ] at hβ';cases hβ';obtain ⟨v,hv,hp⟩:=hcell i e j c he hc;refine y_p _ hK ?_ hp;simp only [Instr.loadAt,Instr.sureAddr,Sem.run_bind,Sem.run_pure,Result.andThen_ok];exact Df hag (by rw [D7 hb,hsz];exact hv)
  ·rename_i T sz full es hr;obtain ⟨e,he,c,hc,hK⟩:=h;rcases hf.regs d _ (Ax hr) with ⟨_,rfl⟩ | ⟨loc',cur,hβ',hsz,hb,hcl,hle,hfu,hml,hel,hcell⟩
   ·simp at he
   ·rw [hβ] at hβ';cases hβ';obtain ⟨v,hv,hp,_⟩:=hcell i e j c he hc;refine ⟨v,c,?_,hp,hK⟩;simp only [Instr.loadAt,Instr.sureAddr,Sem.run_bind,Sem.run_pure,Result.andThen_ok];exact Df hag (by rw [D7 hb,hsz];exact hv)
  ·exact h.elim
  ·exact h.elim
 ·rename_i d i j hag;obtain ⟨loc,hβ,rfl⟩:=hx;split at h
  ·rename_i T cs hr;obtain ⟨rfl,h0,hle,ps,hps,hK⟩:=h;obtain ⟨loc',cur,hβ',hsz,htot,hb,hlen,hcell⟩:=hf.regs d _ (Ax hr);rw [hβ] at hβ';cases hβ';obtain ⟨hpl,hps'⟩:=Bh hps;have hcl:((cur.drop j).take (P.cellsOf t)).length=P.cellsOf t:=by simp;omega
   have hpl':ps.length=P.cellsOf t:=by rw [<- hpl];simp;omega
   have key:∀ (k:Nat) (v:Value) (p:PV),((cur.drop j).take (P.cellsOf t))[k]? = some v->ps[k]? = some p->PRep w Im v p/\p.scalar=true:=by
    intro k v p hv hp;obtain ⟨l,hl⟩:=getElem?_of_length hpl hp;have h1:=hps' k l p hl hp;cases l <;> simp [L.pure?] at h1;subst h1;rw [Eao] at hv hl;split at hv
    ·rename_i hk;rw [if_pos hk] at hl;have:=hcell (j+k) v _ (by simpa using hv) (by simpa using hl);exact ⟨this.1,by rcases this.2 with h2 | h2;exact h2;cases h2⟩
    ·cases hv
   refine y_p _ hK (v:=.agg ⟨(cur.drop j).take (P.cellsOf t)⟩) ?_ (PRep.agg _ _ (by rw [hcl,hpl']) (fun p hpm=>?_) (fun k v p hv hp=>(key k v p hv hp).1))
   ·simp only [Instr.loadAt,Instr.sureAddr,Sem.run_bind,Sem.run_pure,Result.andThen_ok];refine Ew hag rfl omg hcl fun k v hv=>?_
    rw [Eao] at hv;split at hv
    ·rw [D7 hb];simpa using hv
    ·cases hv
   ·obtain ⟨k,hk,rfl⟩:=Ea6 hpm;obtain ⟨v,hv⟩:=getElem?_of_length (hcl.trans hpl'.symm) (Eaa hk);exact (key k v _ hv (Eaa hk)).2
  ·rename_i T sz es hr;obtain ⟨e,he,h0,hle,hK⟩:=h;rcases hf.regs d _ (Ax hr) with ⟨_,rfl⟩ | ⟨loc',cur,hβ',hsz,hb,hcl,hle',hml,hel,hcell⟩
   ·simp at he
   ·rw [hβ] at hβ';cases hβ';have hem:=hel e (Eae he);have hin:∀ k,k<e.length->i * sz+k<cur.length:=by
     intro k hk;obtain ⟨v,hv,_⟩:=hcell i e k _ he (Eaa hk);exact (Eab.1 hv).1
    have hil:((cur.drop (i * sz+j)).take (P.cellsOf t)).length=P.cellsOf t:=by
     have:=hin (j+P.cellsOf t - 1) omg;simp;omega
    have key:∀ (k:Nat) (v:Value) (p:PV),((cur.drop (i * sz+j)).take (P.cellsOf t))[k]? = some v->((e.drop j).take (P.cellsOf t))[k]? = some p->PRep w Im v p:=by
     intro k v p hv hp;rw [Eao] at hv hp;split at hv
     ·rename_i hk;rw [if_pos hk] at hp;obtain ⟨v',hv',hp'⟩:=hcell i e (j+k) p he (by simpa using hp);have:v'=v:=by
       have h1:cur[i * sz+j+k]? = some v:=by simpa using hv
       rw [Ebx] at h1;rw [hv'] at h1;exact Ea3 h1
      rw [<- this];exact hp'
     ·cases hv
    refine y_p _ hK (v:=.agg ⟨(cur.drop (i * sz+j)).take (P.cellsOf t)⟩) ?_ (PRep.agg _ _ (by rw [hil];simp;omega) (fun p hpm=>hem.2 p (Ea7 (Ebm hpm))) key);simp only [Instr.loadAt,Instr.sureAddr,Sem.run_bind,Sem.run_pure,Result.andThen_ok];refine Ew hag rfl omg hil fun k v hv=>?_
    rw [Eao] at hv;split at hv
    ·rw [D7 hb,hsz];simpa using hv
    ·cases hv
  ·rename_i T sz full es hr;obtain ⟨e,he,h0,hle,ps,hps,hK⟩:=h;rcases hf.regs d _ (Ax hr) with ⟨_,rfl⟩ | ⟨loc',cur,hβ',hsz,hb,hcl,hle',hfu,hml,hel,hcell⟩
   ·simp at he
   ·rw [hβ] at hβ';cases hβ';have hem:=hel e (Eae he);obtain ⟨hpl,hps'⟩:=Bh hps;have hin:∀ k,k<e.length->i * sz+k<cur.length:=by
     intro k hk;obtain ⟨v,hv,_⟩:=hcell i e k _ he (Eaa hk);exact (Eab.1 hv).1
    have hil:((cur.drop (i * sz+j)).take (P.cellsOf t)).length=P.cellsOf t:=by
     have:=hin (j+P.cellsOf t - 1) omg;simp;omega
    have hpl':ps.length=P.cellsOf t:=by rw [<- hpl];simp;omega
    have key:∀ (k:Nat) (v:Value) (p:PV),((cur.drop (i * sz+j)).take (P.cellsOf t))[k]? = some v->ps[k]? = some p->PRep w Im v p/\p.scalar=true:=by
     intro k v p hv hp;obtain ⟨l,hl⟩:=getElem?_of_length hpl hp;have h1:=hps' k l p hl hp;cases l <;> simp [L.pure?] at h1;subst h1;rw [Eao] at hv hl;split at hv
     ·rename_i hk;rw [if_pos hk] at hl;obtain ⟨v',hv',hp',hco⟩:=hcell i e (j+k) _ he (by simpa using hl);have:v'=v:=by
       have h1:cur[i * sz+j+k]? = some v:=by simpa using hv
       rw [Ebx] at h1;rw [hv'] at h1;exact Ea3 h1
      rw [<- this];exact ⟨hp',by rcases hco with h2 | h2;exact h2;cases h2⟩
     ·cases hv
    refine y_p _ hK (v:=.agg ⟨(cur.drop (i * sz+j)).take (P.cellsOf t)⟩) ?_ (PRep.agg _ _ (by rw [hil,hpl']) (fun p hpm=>?_) (fun k v p hv hp=>(key k v p hv hp).1))
    ·simp only [Instr.loadAt,Instr.sureAddr,Sem.run_bind,Sem.run_pure,Result.andThen_ok];refine Ew hag rfl omg hil fun k v hv=>?_
     rw [Eao] at hv;split at hv
     ·rw [D7 hb,hsz];simpa using hv
     ·cases hv
    ·obtain ⟨k,hk,rfl⟩:=Ea6 hpm;obtain ⟨v,hv⟩:=getElem?_of_length (hil.trans hpl'.symm) (Eaa hk);exact (key k v _ hv (Eaa hk)).2
  ·exact h.elim
  ·exact h.elim
 ·exact h.elim
end
end Go.LX
