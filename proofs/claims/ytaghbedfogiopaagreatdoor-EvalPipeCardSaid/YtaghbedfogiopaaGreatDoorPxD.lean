/- Operations one behind the other, on logical states. -/
import Derived.Lib.ConvBytes
import Derived.Laws.Cover4
import Derived.Test.YtaghbedfogiopaaGreatDoorPxC
import Derived.RangeFuncRecord
set_option linter.unusedSimpArgs false
set_option linter.unusedVariables false
set_option linter.unusedSectionVars false
set_option linter.unnecessarySimpa false
namespace Go.LX
open Go Go.RowKit Go.Proofs
def F0 (r:Option Nat):Fence:={ fn:=fun _=>True,depth:=none,alive:=false,round:=r }
theorem Yt {r:Option Nat} {n:Nat} {P:Program} {f:FuncId} {args:Array Value} {w:World} {R:Ending->World->Prop} (h:Calls P f args w R):CallsIn (F0 r) n P f args w R :=
 show CallsIn Fence.wide n P f args w R from callsIn_wide.2 h
def Ag (X:Cx) (g:FuncId) (args:List L) (l:L):Prop:=∀ (β:Env) (Im:Nat->Prop) (w:World) (vs:List Value),vs.length=args.length->(∀ (i:Nat) (v:Value) (a:L),vs[i]? = some v->args[i]? = some a->LRep β w Im v a) ->
 ∃ v,(callFunc g ⟨vs⟩).run X.P w=.ok (.value v) w/\LRep β w Im v l
def Ek (dst:Option Tmp) (rs':Regs):Option Nat :=
 match findKey 900 rs' with
 | true=>some (match dst with | some d=>if d<900 then d else 990 | none=>990)
 | false=>none
def Rs (args:List L):List Nat:=args.flatMap L.ids
def Ta (ρ:Ren) (dst:Option Tmp) (K:St->Prop) (s:St) (l:L) (rs':Regs):Prop:=K ((s.after ρ (Ek dst rs') rs').put dst (l.map (C6 ρ (Ek dst rs'))))
def N2 (X:Cx) (g:FuncId) (args:List L) (s:St) (ρ:Ren) (dst:Option Tmp) (K:St->Prop):Prop :=
 Al X g (args.map (L.map (upId ρ))) (Cz ρ s.regs) (Ta ρ dst K s)
def Ll (X:Cx) (g:FuncId) (args:List L) (s:St) (dst:Option Tmp) (K:St->Prop):Prop :=
 N2 X g args s (Ra (Dj [] (Rs args)) s.regs) dst K
def lext (X:Cx) (g:FuncId) (args:List L) (s:St) (dst:Option Tmp) (K:St->Prop):Prop:=∃ l,Ag X g args l/\K (s.put dst l)
def Ad (X:Cx) (g:FuncId) (args:List L) (rs:Regs) (l:L):Prop:=∀ (β:Env) (Im:Nat->Prop) (w:World) (vs:List Value),Fit β w Im ⟨args,rs⟩ ⟨vs⟩ ->
 ∃ v,(callFunc g ⟨vs⟩).run X.P w=.ok (.value v) w/\LRep β w Im v l
def Jkt (X:Cx) (g:FuncId) (args:List L) (s:St) (dst:Option Tmp) (K:St->Prop):Prop:=∃ l,Ad X g args s.regs l/\K (s.put dst l)
def Jm (X:Cx) (k:Nat) (g:FuncId) (ds:List Nat) (args:List Operand) (s:St) (dst:Option Tmp) (K:St->Prop):Prop :=
 match k with
 | 0=>Ll X g (args.map (s.freezeOps args).get ++ ds.map fun d=>L.ptr d 0 0) (s.freezeOps args) dst K
 | 1=>Ll X g (args.map s.get ++ ds.map fun d=>L.ptr d 0 0) s dst K
 | 3=>ds=[]/\Jkt X g (args.map s.get) s dst K
 | _=>ds=[]/\lext X g (args.map s.get) s dst K
def Jc1 (X:Cx) (s:St) (f:Operand) (args:List Operand) (dst:Option Tmp) (K:St->Prop):Prop :=
 match s.get f with
 | .fn g ds=>Jm X (X.kind g) g ds args s dst K
 | .p (.clo g ps)=>X.kind g=0/\(s.freezeOps args).get f=.p (.clo g ps)/\Ll X g (args.map (s.freezeOps args).get ++ [.eptr ps]) (s.freezeOps args) dst K
 | _=>False
def kput (dst:Option Tmp) (K:St->Prop) (s:St) (l:L):Prop:=K (s.put dst l)
def F9 (dst:Option Tmp) (K:St->Prop) (s:St):Prop:=K (s.put dst (.tup []))
def L6 (P:Program) (a b:TypeId) (d j:Nat) (r:Option Reg) (K:L->Prop):Prop :=
 match r,P.underlying a,P.underlying b with
 | some (.var _ cs),some (.pointer t),some .unsafePointer=>P.cellsOf t≠0/\j<cs.length/\K (.ptr d 0 j)
 | some (.var T cs),some .unsafePointer,some (.pointer u)=>liesAt P P.depth T (cs.length / P.cellsOf T) j u 1=true/\(P.info? u).isSome=true/\K (.ptr d 0 j)
 | _,_,_=>False
def Jui:List (List PV)->Option (List Int)
 | []=>some []
 | [.int .i32 n] :: l=>match Jui l with
  | some ns=>some (n :: ns)
  | none=>none
 | _=>none
def Ju3 (P:Program) (t:TypeId):Bool:=match P.underlying t with
 | some (.slice e)=>match P.underlying e with
  | some (.int .i32)=>true
  | _=>false
 | _=>false
theorem Jyk {P:Program} {t:TypeId} (h:Ju3 P t=true):∃ e,P.underlying t=some (.slice e)/\P.underlying e=some (.int .i32):=by
 unfold Ju3 at h;split at h
 ·rename_i e ht;split at h
  ·rename_i he;exact ⟨e,ht,he⟩
  ·cases h
 ·cases h
def Jtv (s:ByteArray):Nat->Nat->List Int
 | 0,_=>[]
 | b+1,i=>if i<s.size then (Int.ofNat (Utf8.decode s i).1) :: Jtv s b (i+(Utf8.decode s i).2) else []
def Jwm (u:List UInt8):List (List PV):=(Jtv ⟨⟨u⟩⟩ u.length 0).map fun n=>[.int .i32 n]
theorem Jzq (s:ByteArray):∀ (b i:Nat) (acc:Array Value),Conv.runesFrom s b i acc=acc ++ ((Jtv s b i).map (Value.int .i32)).toArray
 | 0,i,acc=>by simp[Conv.runesFrom,Jtv]
 | b+1,i,acc=>by
  unfold Conv.runesFrom Jtv;split
  ·show Conv.runesFrom s b (i+(Utf8.decode s i).2) (acc.push (Value.int .i32 (Int.ofNat (Utf8.decode s i).1)))=_;rw[Jzq s b];simp
  ·simp
theorem J1s (s:ByteArray):∀ b i,(Jtv s b i).length<=b
 | 0,i=>by simp[Jtv]
 | b+1,i=>by
  unfold Jtv;split
  ·have:=J1s s b (i+(Utf8.decode s i).2);simp only[Ead];omega
  ·simp
theorem Jyh:∀ {es:List (List PV)} {ns:List Int},Jui es=some ns->es=ns.map fun n=>[.int .i32 n]
 | [],ns,h=>by simp only[Jui] at h;cases h;rfl
 | e :: l,ns,h=>by
  unfold Jui at h;split at h
  ·rename_i heq;cases heq
  ·rename_i n l' heq;cases heq;split at h
   ·rename_i ms hm;cases h;rw[Jyh hm];rfl
   ·cases h
  ·cases h
theorem J03 (ns:List Int):(runesBytes ns).data.toList=ns.flatMap fun n=>(Utf8.encode n).data.toList:=by
 have key:∀ (ns:List Int) (r:ByteArray),(ns.foldl (fun r n=>r ++ Utf8.encode n) r).data.toList=r.data.toList ++ ns.flatMap fun n=>(Utf8.encode n).data.toList:=by
  intro ns
  induction ns with
  | nil=>intro r;simp
  | cons n ns ih=>intro r;rw[List.foldl_cons,ih];simp
 unfold runesBytes;rw[key];rfl
def J2z (P:Program) (b:TypeId) (l:L) (K:L->Prop):Prop:=P.underlying b=some .string/\match l with
 | .p (.sl es)=>∃ ns,Jui es=some ns/\K (.p (.str (ns.flatMap fun n=>(Utf8.encode n).data.toList)))
 | _=>False
theorem J5q {P:Program} {β:Env} {Im:Nat->Prop} {w:World} {a b:TypeId} {u:Value} {l:L} {K:L->Prop} (ha:Ju3 P a=true) (hx:LRep β w Im u l) (h:J2z P b l K):C0 β Im w ((convert a b u).run P w) K:=by
 obtain ⟨e,hs,he⟩:=Jyk ha;obtain ⟨hd,h⟩:=h;split at h
 ·rename_i es;obtain ⟨ns,hn,hK⟩:=h;have hes:=Jyh hn;refine X2 hK ?_;have hst:∀ (r:ByteArray),r=runesBytes ns->(Value.string r)=.string ⟨⟨ns.flatMap fun n=>(Utf8.encode n).data.toList⟩⟩:=fun r hr=>by
   rw[hr,<- J03]
  rcases Jwh (show PRep w Im u (.sl es) from hx) with ⟨⟨oa,rfl⟩,h0⟩ | ⟨bk,off,cap,sz,f,rfl,hcap,hb,hsz,hsc,hc,hp⟩
  ·rw[run_convert_runes_string w a b e oa 0 0 hs he hd];have:ns=[]:=by
    rw[h0] at hes;cases ns with
    | nil=>rfl
    | cons n ns=>cases hes
   subst this;cases oa with
   | none=>simp[Conv.runesToString];rfl
   | some a=>simp[Conv.runesToString,loadCells,loadCellsFrom];rfl
  ·rw[run_convert_runes_string w a b e _ _ _ hs he hd];have hl:es.length=ns.length:=by rw[hes];simp
   have hload:(loadCells ⟨bk,off,none⟩ es.length).run P w=.ok (ns.map (Value.int .i32)).toArray w:=by
    have:=run_loadCells_list (P:=P) (w:=w) ⟨bk,off,none⟩ (ns.map (Value.int .i32)) (fun j v hj=>by
     rw[Eam] at hj;obtain ⟨n,hn',rfl⟩:=Eal.1 hj;have hj':=(Eab.1 hn').1;have hej:es[j]? = some [.int .i32 n]:=by rw[hes,Eam,hn'];rfl
     have hs1:sz=1:=by rw[<- hsz _ (Eag hej)];rfl
     subst hs1;have h1:=hc j omg 0 omg;have h2:=hp j _ 0 _ hej rfl;generalize f j 0=v at h1 h2;cases h2;rw[Ect,Nat.add_zero] at h1;cases j with
     | zero=>simpa[Addr.add] using h1
     | succ j=>simpa[Addr.add] using h1)
    rw[Ea1,<- hl] at this;exact this
   rw[run_runesToString w _ _ _ ns hload];exact congrArg (fun v=>Result.ok v w) (hst _ rfl)
 ·exact h.elim
def Og (P:Program) (a b:TypeId) (u:List UInt8) (s:St) (dst:Option Tmp) (K:St->Prop):Prop :=
 match P.underlying b with
 | some (.slice e)=>if Ju3 P b=true then (match dst with
   | some d=>P.underlying a=some .string/\d<1000/\u.length<=70368744177664/\K ((s.newReg d (.row e 1 (Jwm u))).put (some d) (.own d 0 (Jwm u).length))
   | none=>False) else
   (P.underlying a).isSome=true/\P.underlying e=some (.int .u8)/\kput dst K s (.p (.sl (u.map fun c=>[.int .u8 c.toNat])))
 | _=>J1 P a b (.p (.str u)) (kput dst K s)
def Jke (P:Program) (a b:TypeId) (s:St) (x:Operand) (dst:Option Tmp) (K:St->Prop):Prop :=
 match s.get x with
 | .ptr d 0 j=>L6 P a b d j (Am d s.regs) (kput dst K s)
 | .p (.str u)=>Og P a b u s dst K
 | _=>if Ju3 P a=true then J2z P b ((s.freezeOps [x]).get x) (kput dst K (s.freezeOps [x])) else J1 P a b ((s.freezeOps [x]).get x) (kput dst K (s.freezeOps [x]))
def Jd6 (X:Cx) (o:Oper) (dst:Option Tmp) (args:List Operand) (ts:List TypeId) (s:St) (K:St->Prop):Prop :=
 match args,ts with
 | [x,y],[t,_]=>match s.get x with
  | .p .nptr=>lq X.P s.regs s.get o.op (kput dst K s)
  | _=>Gn X.P t s x y (kput dst K)
 | _,_=>False
def larr (P:Program) (t:TypeId) (s:St) (d:Nat) (lo hi:Option Operand) (N:St->L->Prop) (q:Option Reg):Prop :=
 match q,arE P t with
 | some (.var _ cs),some (n,_,sz)=>sz=1/\n=cs.length/\∃ ps,Bg L.pure? cs=some ps/\∃ l h,Dr s.get 0 lo=some l/\Dr s.get n hi=some h/\0<=l/\l<=h/\h<=n /\
   N (Dx d (some (.ar ps)) s) (.p (.sl (((ps.map fun p=>[p]).drop l.toNat).take (h.toNat - l.toNat))))
 | _,_=>False
def lslG (P:Program) (o:Oper) (t:TypeId) (x:Operand) (lo hi:Option Operand) (dst:Option Tmp) (K:St->Prop) (s:St):Prop :=
 match s.get x with
 | .ptr d 0 0=>larr P t s d lo hi (kput dst K) (Am d s.regs)
 | _=>lq P s.regs s.get o.op (kput dst K s)
def lop (X:Cx) (o:Oper) (K:St->Prop) (s:St):Prop :=
 match o.op,o.dst with
 | .alloc T,some d=>Wg X.P d T s K
 | .box T x,some d=>lbox d T s x K
 | .buildSlice t n parts,some d=>if X.keep t=true then n=parts.toList.length/\Jvj X.P d t s parts.toList K else Fo X.P d t n s parts.toList K
 | .makeSlice t l c,some d=>Gl X.P d t s l c K
 | .makeMap _ none,some d=>Mk d s K
 | .range t x,some d=>Wr X.P d t s x K
 | .next it b,dst=>Wv s it b (kput dst K)
 | .entry it,dst=>Ri s it (kput dst K s)
 | .mapUpdate t m k v,dst=>Dq X.P t s m k v (F9 dst K)
 | .insert t m k v,dst=>Dq X.P t s m k v (F9 dst K)
 | .mapEntry t m k,dst=>Jxc X.P t s m k (kput dst K)
 | .entryStore _ m e v,dst=>Ju5 s m e v (F9 dst K)
 | .store t a x,dst=>Nv X.P t s a x (F9 dst K)
 | .call { callee:=.builtin .append,args,argTypes },some d=>match args.toList,argTypes.toList with
  | [x,y],[t,t']=>if X.keep t=true then t'=t/\Jxb X.P d t s x y K else Kk X.P d t t' s x y K
  | _,_=>False
 | .call { callee:=.builtin .copy,args,argTypes },dst=>match args.toList,argTypes.toList with
  | [x,y],[t,t']=>Tv X.P t t' s x y (kput dst K)
  | _,_=>False
 | .call { callee:=.builtin .delete,args,argTypes },dst=>match args.toList,argTypes.toList with
  | [m,k],t :: _=>Kq X.P t s m k (F9 dst K)
  | _,_=>False
 | .call { callee:=.builtin .unsafeString,args,argTypes },dst=>Jd6 X o dst args.toList argTypes.toList s K
 | .call { callee:=.value f,args,argTypes:=_ },dst=>Jc1 X s f args.toList dst K
 | .convert a b x,dst=>Jke X.P a b s x dst K
 | .slice t x lo hi none,dst=>lslG X.P o t x lo hi dst K s
 | op,dst=>lq X.P s.regs s.get op (kput dst K s)
def F4 (ds:List (Option Tmp)) (g:Option (Nat×Bool)) (A B:St->Prop) (s:St):Prop :=
 match g with
 | none=>A s
 | some (j,want)=>match ds.getD j none with
  | some dj=>match s.tmps.getD dj .junk with
   | .p (.bool c)=>(c=want->A (s.put (some dj) (.p (.bool want))))/\(c=(!want)->B (s.put (some dj) (.p (.bool (!want)))))
   | .tup []=>B s
   | _=>False
  | none=>False
def lops (X:Cx) (ds:List (Option Tmp)):List Oper->(St->Prop)->St->Prop
 | [],K,s=>K s
 | o :: rest,K,s=>F4 ds o.guard (lop X o (lops X ds rest K)) (F9 o.dst (lops X ds rest K)) s
section
variable {P:Program} {X:Cx} {Γ:Base} {ro:Option Nat}
theorem Ly {o:Oper} (ρ:Operand->Value) (h:∀ c,o.op≠.defer c):o.semAt (F0 ro).round ρ=execOp ρ o:=Oper.semAt_eq _ _ _ h
theorem B5 {o:Oper} {a:Act} {w w':World} {v:Value} {next:Act->World->Prop} {Q:Exit->Act->World->Prop} {n:Nat} (hd:∀ c,o.op≠.defer c) (hr:(execOp a.eval o).run P w=.ok (.value v) w') (h:next (a.put o.dst v) w') :
  o.wpIn (F0 ro) n P a w next Q:=by
 refine ⟨fun _ _=>trivial,?_⟩;rw[Ly _ hd,hr];exact h
theorem Ij {o:Oper} {a:Act} {w w':World} {next:Act->World->Prop} {Q:Exit->Act->World->Prop} {n:Nat} (hd:∀ c,o.op≠.defer c) (hr:(execOp a.eval o).run P w=.ok .skip w') (h:next (a.put o.dst undef) w') :
  o.wpIn (F0 ro) n P a w next Q:=by
 refine ⟨fun _ _=>trivial,?_⟩;rw[Ly _ hd,hr];exact h
theorem Q0 {o:Oper} {a:Act} {w w':World} {f:FuncId} {args:Array Value} {next:Act->World->Prop} {Q:Exit->Act->World->Prop} {n:Nat} (hd:∀ c,o.op≠.defer c) (hr:(execOp a.eval o).run P w=.ok (.enter f args) w')
  (h:Calls P f args w' fun e w''=>∃ v,e=.returned v/\next (a.put o.dst v) w''):o.wpIn (F0 ro) n P a w next Q:=by
 refine ⟨fun _ _=>trivial,?_⟩;rw[Ly _ hd,hr];refine ⟨fun h=>by simp[F0] at h,?_⟩;refine Yt (h.mono fun e w'' ⟨v,he,hn⟩=>?_);subst he;exact hn
def RRm (Γ:Base) (ms:List Nat) (s:St) (a:Act) (w:World):Prop:=a.defers=ms.map F6/\∃ β Im,RRx (Γ.wm ms) β Im s a.tmps w
theorem RRm.rr {s:St} {a:Act} {w:World} {ms:List Nat} (h:RRm Γ ms s a w):RR Γ s a w:=⟨ms,h.1,h.2⟩
theorem Lb.oper {a:Act} {d:Tmp} {r:Sem Value} {K:St->Prop} {w:World} {o:Oper} {Q:Exit->Act->World->Prop} {n:Nat} {ms:List Nat} (h:Lb (Γ.wm ms) a d (r.run P w) K) (hd:∀ c,o.op≠.defer c) (ho:execOp a.eval o=(do pure (Next.value (<- r)):Sem Next)) (hdst:o.dst=some d) (hdef:a.defers=ms.map F6) :
  o.wpIn (F0 ro) n P a w (fun a' w'=>∃ s,K s/\RRm Γ ms s a' w') Q:=by
 obtain ⟨v,w',β',Im',s',l,hr,h1,h2,hK⟩:=h;refine B5 hd (v:=v) (w':=w') (by rw[ho];simp[hr]) ⟨_,hK,?_,β',Im',?_⟩
 ·rw[hdst];exact hdef
 ·rw[hdst];exact h1.put (some d) h2
theorem Ga {s:St} {β:Env} {Im:Nat->Prop} {w:World} {a:Act} {ms:List Nat} (hdef:a.defers=ms.map F6) (h:RRx (Γ.wm ms) β Im s a.tmps w):RRm Γ ms s a w:=⟨hdef,β,Im,h⟩
theorem Bf {a:Act} {dst:Option Tmp} {v:Value} {ds:List Deferred} (h:a.defers=ds):(a.put dst v).defers=ds:=by cases dst<;>exact h
theorem P5 {β:Env} {w:World} {Im:Nat->Prop} {s:St} {tmps:Array Value} (hf:Fit β w Im s tmps) {a b:TypeId} {d j:Nat} {u:Value} {K:L->Prop} (hx:LRep β w Im u (.ptr d 0 j)) (hl:L6 P a b d j (Am d s.regs) K):C0 β Im w ((convert a b u).run P w) K:=by
 have hx':=hx;obtain ⟨loc,hβ,rfl⟩:=hx';have hz:(0:Nat) * loc.sz+j=j:=by simp
 rw[hz];unfold L6 at hl;split at hl
 ·rename_i T cs t hr ha hb;obtain ⟨hc,hj,hK⟩:=hl;obtain ⟨loc',cur,hβ',h2,h3,h4,h5,h6⟩:=hf.regs d _ (Ax hr);rw[hβ] at hβ';cases hβ';cases hi:P.info? t with
  | none=>exact absurd (by simp[Program.cellsOf,hi]) hc
  | some inf =>
   have hs:inf.size≠0:=by simpa[Program.cellsOf,hi] using hc
   refine ⟨_,_,Lib.run_to_unsafe (P:=P) w ⟨loc.blk,j,none⟩ ha hb hi hs (e:=T) (cells:=cur.length) (by simp[World.shape?,h4]) (by simpa[h5] using hj),?_,hK⟩;exact ⟨loc,hβ,by rw[hz]⟩
 ·rename_i T cs u' hr ha hb;obtain ⟨hlies,hi,hK⟩:=hl;obtain ⟨loc',cur,hβ',h2,h3,h4,h5,h6⟩:=hf.regs d _ (Ax hr);rw[hβ] at hβ';cases hβ';obtain ⟨inf,hi⟩:=Ecz.1 hi;refine ⟨_,_,Lib.run_from_unsafe (P:=P) w ⟨loc.blk,j,none⟩ ha hb hi (e:=T) (cells:=cur.length) (by simp[World.shape?,h4]) (by rw[h5];exact hlies),?_,hK⟩;exact ⟨loc,hβ,by rw[hz]⟩
 ·exact hl.elim
theorem Wb {s:St} {a:Act} {w:World} {o:Oper} {K:St->Prop} {Q:Exit->Act->World->Prop} {n:Nat} {β:Env} {Im:Nat->Prop} {ms:List Nat} (hdef:a.defers=ms.map F6) (hx:RRx (Γ.wm ms) β Im s a.tmps w) (hl:lq P s.regs s.get o.op (kput o.dst K s)) :
  o.wpIn (F0 ro) n P a w (fun a' w'=>∃ s,K s/\RRm Γ ms s a' w') Q:=by
 obtain ⟨v,l,hr,hrep,hK⟩:=X5 (P:=P) hx.fit (o:=o) hl;refine B5 (v:=v) (w':=w) (fun c hc=>?_) hr ⟨_,hK,Ga (Bf hdef) (hx.put _ hrep)⟩;rw[hc] at hl;simp[lq,lqv] at hl
theorem M6 {s:St} {a:Act} {w:World} {o:Oper} {K:St->Prop} {Q:Exit->Act->World->Prop} {n:Nat} {β:Env} {Im:Nat->Prop} {ms:List Nat} (hG:Γ.G=X.G) (hdef:a.defers=ms.map F6) (hx:RRx (Γ.wm ms) β Im s a.tmps w)
  {g:FuncId} {ls:List L} {vs:List Value} (hd:∀ c,o.op≠.defer c) (hlen:vs.length=ls.length) (hrep:∀ (i:Nat) (v:Value) (l:L),vs[i]? = some v->ls[i]? = some l->LRep β w Im v l)
  (hr:(execOp a.eval o).run X.P w=(callFunc g ⟨vs⟩).run X.P w) (hl:Ll X g ls s o.dst K):o.wpIn (F0 ro) n X.P a w (fun a' w'=>∃ s,K s/\RRm Γ ms s a' w') Q:=by
 unfold Ll N2 at hl;have hρ:=Jki (Rs ls) s.regs;generalize Ra (Dj [] (Rs ls)) s.regs=ρ at hl hρ;obtain ⟨hent,hl⟩:=hl;refine Q0 (f:=g) (args:=⟨vs⟩) (w':=w) hd (by rw[hr];exact hent _ _) ?_;refine (hl (Ky ρ β) Im w vs (hG ▸ hx.glob) (hx.fit.call hρ hlen hrep)).mono fun e w' ⟨v,l,rs',β',Im2,he,hP,hrp,hstep⟩=>⟨v,he,_,hP,Ga (Bf hdef) ((hx.called hρ (nw:=Ek o.dst rs') ?_ ?_ hstep).put _ ?_)⟩
 ·intro d hd;unfold Ek at hd;split at hd
  ·cases hdst:o.dst with
   | none=>rw[hdst] at hd;have:=Ebd hd;subst this;decide
   | some d0 =>
    rw[hdst] at hd;have:=Option.some.inj hd;subst this;dsimp only;by_cases h9:d0<900
    ·rw[if_pos h9];exact Ebe h9 de
    ·rw[if_neg h9];decide
  ·cases hd
 ·intro hn;unfold Ek at hn;split at hn
  ·cases hn
  ·assumption
 ·refine hrp.map fun n d hd=>?_
  unfold C6 at hd;unfold C3;cases hnw:Ek o.dst rs' with
  | none =>
   rw[hnw] at hd;have:=(hρ.back n d).1 hd;simp[this]
  | some x =>
   rw[hnw] at hd;simp only at hd;split at hd
   ·rename_i h9;cases hd;subst h9;simp
   ·split at hd
    ·rename_i e he;split at hd
     ·cases hd
     ·rename_i hne;cases hd;have:=(hρ.back n d).1 he;rw[if_neg (by intro hc;exact hne (Ebd hc).symm),this]
    ·cases hd
theorem Kkn {s:St} {a:Act} {w:World} {β:Env} {Im:Nat->Prop} {ms:List Nat} (hx:RRx (Γ.wm ms) β Im s a.tmps w) {ta tb:TypeId} {u:List UInt8} {v0:Value} {dst:Option Tmp} {K:St->Prop} (hv0:LRep β w Im v0 (.p (.str u)))
  (hl:Og P ta tb u s dst K):∃ v w' β' Im' s' l,(convert ta tb v0).run P w=.ok v w'/\RRx (Γ.wm ms) β' Im' s' a.tmps w'/\LRep β' w' Im' v l/\K (s'.put dst l):=by
 unfold Og at hl;split at hl
 ·rename_i e hb;have hv:v0=.string ⟨⟨u⟩⟩:=by cases hv0;rfl
  subst hv;split at hl
  ·rename_i hr;split at hl
   ·rename_i d;obtain ⟨ha,hd,hu,hK⟩:=hl;obtain ⟨e',hb',he⟩:=Jyk hr;rw[hb] at hb';cases hb';have hrn:=Jzq ⟨⟨u⟩⟩ u.length 0 #[];rw[Edo] at hrn;have hlen:=J1s ⟨⟨u⟩⟩ u.length 0;have hsz:(⟨⟨u⟩⟩:ByteArray).size=u.length:=rfl;have hrs:(Conv.runesFrom ⟨⟨u⟩⟩ (⟨⟨u⟩⟩:ByteArray).size 0 #[])=((Jtv ⟨⟨u⟩⟩ u.length 0).map (Value.int .i32)).toArray:=by rw[hsz,hrn]
    have hrun:=run_runes_of_string (P:=P) w ta tb e ⟨⟨u⟩⟩ ha hb he (by rw[hrs];simp;omega);rw[hrs] at hrun;simp only[List.size_toArray,Ea1] at hrun;generalize hR:Jtv ⟨⟨u⟩⟩ u.length 0=R at *
    generalize hC:grownCap w R.length 0 e=C at hrun;have hCge:R.length<=C:=by rw[<- hC];exact grownCap_ge w _ 0 e
    have hCm:C<=maxLen:=by rw[<- hC];exact grownCap_le_maxLen w _ 0 e (by unfold maxLen;omega)
    clear hC hrs hrn;have g:Grow w Im (w.drew.alloc (.cells ((R.map (Value.int .i32)).toArray ++ Array.replicate (C - R.length) (.int .i32 0)) e)) Im:=(Grow.drew hx.fit.im).trans (Grow.alloc (w:=w.drew) hx.fit.im _);have hRL:(R.map fun n=>[PV.int .i32 n]).length=R.length:=by simp
    have hrl:Jwm u=R.map fun n=>[PV.int .i32 n]:=by unfold Jwm;rw[hR]
    obtain ⟨r1,r2⟩:=hx.newRow hd (T:=e) (sz:=1) (tot:=C) (cur:=R.map (Value.int .i32) ++ List.replicate (C - R.length) (.int .i32 0)) (es:=R.map fun n=>[PV.int .i32 n]) g sm (by
     have:=heap_alloc_new (w:=w.drew) (.cells ((R.map (Value.int .i32)).toArray ++ Array.replicate (C - R.length) (.int .i32 0)) e);have e1:((R.map (Value.int .i32)).toArray ++ Array.replicate (C - R.length) (.int .i32 0))=(⟨R.map (Value.int .i32) ++ List.replicate (C - R.length) (.int .i32 0)⟩:Array Value):=by rw[<- Ebt];simp
     rw[e1] at this ⊢;exact this) (by simp;omega) (by rw[hRL];exact hCge) hCm (fun q hq=>by
      obtain ⟨n,_,rfl⟩:=Eap.1 hq;exact ⟨rfl,fun p hp=>by simp at hp;subst hp;rfl⟩) (fun i q j p hi hj=>by
      rw[Eam] at hi;obtain ⟨n,hn,rfl⟩:=Eal.1 hi;have hil:=(Eab.1 hn).1;cases j with
      | zero =>
       simp at hj;subst hj;exact ⟨.int .i32 n,by rw[Ect,Nat.add_zero,Eat (by simpa using hil),Eam,hn];rfl,PRep.int _ _⟩
      | succ j=>simp at hj)
    rw[hRL] at r2;rw[hrl,hRL] at hK;exact ⟨_,_,_,Im,_,_,hrun,r1,r2,hK⟩
   ·exact hl.elim
  obtain ⟨ha,he,hK⟩:=hl;obtain ⟨ua,ha⟩:=Ecz.1 ha;have hrun:=Lib.run_convert_string_bytes (P:=P) w ta tb e ⟨⟨u⟩⟩ ha hb he;have g:Grow w Im (Lib.bytesWorld w e ⟨⟨u⟩⟩) (fun b=>Im b\/b=w.heap.size) :=
   {
    os:=rfl,tape:=rfl,output:=rfl,size:=by rw[Lib.bytesWorld_size];omega,block:=fun k hk=>Lib.bytesWorld_at_old w e _ k hk,im:=fun b hb=>.inl hb,
    new:=fun b hb=>hb.elim .inl fun h=>.inr omg,lt:=fun b hb=>by rw[Lib.bytesWorld_size];rcases hb with hb | rfl;exact Nat.lt_succ_of_lt (hx.fit.im b hb);exact Nat.lt_succ_self _ }
  have hsz:(⟨⟨u⟩⟩:ByteArray).size=u.length:=rfl;have hlen:(u.map fun c=>[PV.int .u8 c.toNat]).length=u.length:=by simp
  refine ⟨_,_,_,_,_,_,hrun,hx.grow g,?_,hK⟩;show PRep _ _ (.slice (some ⟨w.heap.size,0,none⟩) (⟨⟨u⟩⟩:ByteArray).size _) (.sl (u.map fun c=>[PV.int .u8 c.toNat]));have e1:(⟨⟨u⟩⟩:ByteArray).size=(u.map fun c=>[PV.int .u8 c.toNat]).length:=by rw[hlen];rfl
  rw[e1];refine PRep.sl w.heap.size 0 _ 1 _ (grownCap_ge w _ 0 e) (.inr rfl) (fun i _=>.int .u8 (u.getD i 0).toNat) (fun x hx=>?_) (fun x hx p hp=>?_) (fun i hi j hj=>?_) (fun i x j p hi hj=>?_)
  ·obtain ⟨c,_,rfl⟩:=Eap.1 hx;rfl
  ·obtain ⟨c,_,rfl⟩:=Eap.1 hx;simp at hp;subst hp;rfl
  ·have hj0:j=0:=by omega
   subst hj0;rw[show 0+i * 1+0=i by omega];exact Lib.bytesWorld_cell w e ⟨⟨u⟩⟩ i (by rw[hsz];rw[hlen] at hi;exact hi)
  ·rw[Eam] at hi;obtain ⟨c,hc,rfl⟩:=Eal.1 hi;cases j with
   | zero =>
    simp at hj;subst hj;have:u.getD i 0=c:=by simp[Eaj,hc]
    rw[this];exact .int _ _
   | succ j=>simp at hj
 ·obtain ⟨v,l,hr,hrep,hK⟩:=Jl (P:=P) hv0 hl;exact ⟨v,w,β,Im,s,l,hr,hx,hrep,hK⟩
theorem Jb1 {s:St} {a:Act} {w:World} {β:Env} {Im:Nat->Prop} {ms:List Nat} (hx:RRx (Γ.wm ms) β Im s a.tmps w) {t:TypeId} {x:Operand} {lo hi:Option Operand} {d:Nat} {N:St->L->Prop} (hg:s.get x=.ptr d 0 0)
  (hl:larr P t s d lo hi N (Am d s.regs)):∃ v s' l Im',(Instr.sliceAt t (a.eval x) (lo.map a.eval) (hi.map a.eval) none).run P w=.ok v w/\RRx (Γ.wm ms) β Im' s' a.tmps w/\LRep β w Im' v l/\N s' l:=by
 unfold larr at hl;split at hl
 ·rename_i T cs n e sz hr ha;obtain ⟨rfl,rfl,ps,hps,l,hh,hlo,hhi,h0,h1,h2,hN⟩:=hl;obtain ⟨ht,hc1,_⟩:=Rh ha;have hxr:=A2 hx.fit x;rw[hg] at hxr;obtain ⟨loc,hβ,hv⟩:=hxr;obtain ⟨loc',cur,hβ',g2,g3,g4,g5,g6⟩:=hx.fit.regs d _ (Ax hr);rw[hβ] at hβ';cases hβ';have hb:=Fe (P:=P) (w:=w) false cs.length cs.length _ _ l hh (Co hx.fit hlo) (Co hx.fit hhi) h0 h1 h2;have hz:(0:Nat) * loc.sz+0=0:=by simp
  have hrun:(Instr.sliceAt t (a.eval x) (lo.map a.eval) (hi.map a.eval) none).run P w=.ok (.slice (some (if cs.length=l.toNat then ⟨loc.blk,0,none⟩ else ⟨loc.blk,l.toNat,none⟩)) (hh.toNat - l.toNat) (cs.length - l.toNat)) w:=by
   rw[hv,hz];simp only[Instr.sliceAt,Sem.run_bind,run_underlying ht,Result.andThen_ok,Instr.sureAddr,hb,Bk (P:=P) (t:=e) rfl omg,Sem.run_pure,hc1];split
   ·simp
   ·simp[Addr.add];omega
  have hfz:=hx.freezeZ d (.ar ps) ⟨_,_,hx.fit.regs d _ (Ax hr),hps⟩ _ (Ax hr);refine ⟨_,_,_,_,hrun,hfz,?_,hN⟩;obtain ⟨hlen,hsp⟩:=Bh hps;have hl1:(((ps.map fun p=>[p]).drop l.toNat).take (hh.toNat - l.toNat)).length=hh.toNat - l.toNat:=by simp;omega
  show PRep w _ _ _;have hbi:(Im loc.blk\/∃ loc',β d=some loc'/\loc.blk=loc'.blk):=.inr ⟨loc,hβ,rfl⟩;by_cases hcl:cs.length=l.toNat
  ·have he:((ps.map fun p=>[p]).drop l.toNat).take (hh.toNat - l.toNat)=[]:=Ean (by rw[hl1];omega);rw[he,if_pos hcl,show hh.toNat - l.toNat=0 by omega];exact PRep.sl loc.blk 0 _ 1 [] (Eau _) hbi (fun _ _=>undef) (fun x hx=>by cases hx) (fun x hx=>by cases hx) (fun i hi=>by simp at hi) (fun i x j p hi=>by simp at hi)
  ·rw[if_neg hcl]
   conv=>arg 3;rw[<- hl1]
   have key:∀ (i:Nat) (p:PV),ps[i]? = some p->∃ v,cur[i]? = some v/\PRep w Im v p/\p.scalar=true:=by
    intro i p hp;obtain ⟨c,hc⟩:=getElem?_of_length hlen hp;obtain ⟨v,hv'⟩:=getElem?_of_length g5 hc;have h1:=hsp i c p hc hp;obtain ⟨r1,r2⟩:=g6 i v c hv' hc;cases c with
    | p q =>
     simp only[L.pure?] at h1;cases h1;refine ⟨v,hv',r1,?_⟩;rcases r2 with r2 | r2
     ·exact r2
     ·cases r2
    | _=>simp[L.pure?] at h1
   have hmem:∀ y∈((ps.map fun p=>[p]).drop l.toNat).take (hh.toNat - l.toNat),∃ p∈ps,y=[p]:=fun y hy=>by
    have:=Ea6 (Ebq hy);obtain ⟨p,hp,rfl⟩:=Eap.1 this;exact ⟨p,hp,rfl⟩
   have hk:Keeps w Im w (fun b=>Im b\/∃ loc,β d=some loc/\b=loc.blk):=⟨fun b hb=>.inl hb,fun _ _=>rfl⟩
   refine PRep.sl loc.blk l.toNat (cs.length - l.toNat) 1 _ (by rw[hl1];omega) hbi (fun i j=>cur.getD (l.toNat+i) undef) (fun y hy=>?_) (fun y hy p hp=>?_) (fun i hi j hj=>?_) (fun i y j p hi hj=>?_)
   ·obtain ⟨p,_,rfl⟩:=hmem y hy;rfl
   ·obtain ⟨q,hq,rfl⟩:=hmem y hy;have:p=q:=by simpa using hp
    subst this;obtain ⟨i,hi,he⟩:=Eba hq;obtain ⟨_,_,_,h3⟩:=key i p (by rw[Eaa hi,he]);exact h3
   ·rw[hl1] at hi;have hj0:j=0:=by omega
    subst hj0;rw[D7 g4];have hlt:l.toNat+i<cur.length:=by omega
    rw[show l.toNat+i * 1+0=l.toNat+i by omega,Eaa hlt];simp[Eaj,hlt]
   ·rw[Eas] at hi;split at hi
    ·rw[Eco,Eam] at hi;obtain ⟨q,hq,rfl⟩:=Eal.1 hi;cases j with
     | zero =>
      simp at hj;subst hj;obtain ⟨v,hv',hp',_⟩:=key _ _ hq;have:cur.getD (l.toNat+i) undef=v:=by simp[Eaj,hv']
      rw[this];exact hp'.mono hk
     | succ j=>simp at hj
    ·cases hi
 ·exact hl.elim
theorem Lm {s:St} {ms:List Nat} {a:Act} {w:World} {o:Oper} {K:St->Prop} {Q:Exit->Act->World->Prop} {n:Nat} (hG:Γ.G=X.G) (h:RRm Γ ms s a w) (hl:lop X o K s):o.wpIn (F0 ro) n X.P a w (fun a' w'=>∃ s,K s/\RRm Γ ms s a' w') Q:=by
 obtain ⟨hdef,β,Im,hx⟩:=h;unfold lop at hl;split at hl
 ·rename_i T d ho hdst;exact (Wi hx hl).oper (by rw[ho];simp) (by unfold execOp;rw[ho]) hdst hdef
 ·rename_i T x d ho hdst;exact (Jat (P:=X.P) hx hl).oper (by rw[ho];simp) (by unfold execOp;rw[ho]) hdst hdef
 ·rename_i t m parts d ho hdst;have:Lb (Γ.wm ms) a d ((Instr.buildSlice t m ⟨parts.toList.map fun (i,x)=>(i,a.eval x)⟩).run X.P w) K:=by
   split at hl
   ·exact J05 hx hl.1 hl.2
   ·exact Mw hx hl
  have e:(parts.map fun (i,x)=>(i,a.eval x))=⟨parts.toList.map fun (i,x)=>(i,a.eval x)⟩:=by rw[<- Ebt];simp
  rw[<- e] at this;exact this.oper (by rw[ho];simp) (by unfold execOp;rw[ho]) hdst hdef
 ·rename_i t l c d ho hdst;exact (Nj hx hl).oper (by rw[ho];simp) (by unfold execOp;rw[ho]) hdst hdef
 ·rename_i t d ho hdst;exact (P9 (P:=X.P) (T:=t) hx hl).oper (by rw[ho];simp) (by unfold execOp;rw[ho];rfl) hdst hdef
 ·rename_i t x d ho hdst;exact (Wl hx hl).oper (by rw[ho];simp) (by unfold execOp;rw[ho]) hdst hdef
 ·rename_i it b ho;obtain ⟨v,w',s',l,hr,hx',hrep,hK⟩:=Zv (P:=X.P) (ty:=o.type) hx hl;exact B5 (v:=v) (w':=w') (by rw[ho];simp) (by unfold execOp;rw[ho];simp[hr]) ⟨_,hK,Ga (Bf hdef) (hx'.put _ hrep)⟩
 ·rename_i it ho;obtain ⟨v,l,hr,hrep,hK⟩:=Vx (P:=X.P) hx.fit hl;exact B5 (v:=v) (w':=w) (by rw[ho];simp) (by unfold execOp;rw[ho];simp[hr]) ⟨_,hK,Ga (Bf hdef) (hx.put _ hrep)⟩
 ·rename_i t m k v ho;obtain ⟨w',s',Im',hr,hK,h'⟩:=Hw hx hl;exact Ij (w':=w') (by rw[ho];simp) (by unfold execOp;rw[ho];simp[hr]) ⟨_,hK,Ga (Bf hdef) (h'.put _ ⟨[],rfl,rfl,fun i x p h=>by simp at h⟩)⟩
 ·rename_i t m k v ho;obtain ⟨w',s',Im',hr,hK,h'⟩:=Hw hx hl;exact Ij (w':=w') (by rw[ho];simp) (by unfold execOp;rw[ho];simp[hr]) ⟨_,hK,Ga (Bf hdef) (h'.put _ ⟨[],rfl,rfl,fun i x p h=>by simp at h⟩)⟩
 ·rename_i t m k ho;obtain ⟨v,w',s',l,hr,hx',hrep,hK⟩:=J09 hx hl;exact B5 (v:=v) (w':=w') (by rw[ho];simp) (by unfold execOp;rw[ho];simp[hr]) ⟨_,hK,Ga (Bf hdef) (hx'.put _ hrep)⟩
 ·rename_i t m e v ho;obtain ⟨w',s',Im',hr,hK,h'⟩:=Jzh (P:=X.P) (t:=t) hx hl;exact Ij (w':=w') (by rw[ho];simp) (by unfold execOp;rw[ho];simp[hr]) ⟨_,hK,Ga (Bf hdef) (h'.put _ ⟨[],rfl,rfl,fun i x p h=>by simp at h⟩)⟩
 ·rename_i t x y ho;obtain ⟨w',s',Im',hr,hK,h'⟩:=Uo hx hl;exact Ij (w':=w') (by rw[ho];simp) (by unfold execOp;rw[ho];simp[hr]) ⟨_,hK,Ga (Bf hdef) (h'.put _ ⟨[],rfl,rfl,fun i x p h=>by simp at h⟩)⟩
 ·rename_i args ts d ho hdst;split at hl
  ·rename_i x y t t' ha ht;have:Lb (Γ.wm ms) a d ((Builtin.append_ #[t,t'] o.type #[a.eval x,a.eval y]).run X.P w) K:=by
    split at hl
    ·obtain ⟨rfl,hl⟩:=hl;exact J2u hx hl
    ·exact Sz hx hl
   refine this.oper (by rw[ho];simp) ?_ hdst hdef;unfold execOp;rw[ho];obtain ⟨la⟩:=args;obtain ⟨lt⟩:=ts;simp only at ha ht;subst ha;subst ht;simp[resolve,invoke,builtin]
  ·exact hl.elim
 ·rename_i args ts ho;split at hl
  ·rename_i x y t t' ha ht;obtain ⟨la⟩:=args;obtain ⟨lt⟩:=ts;simp only at ha ht;subst ha;subst ht;obtain ⟨v,w',s',l,hr,h',hrep,hK⟩:=Z6 (P:=X.P) (ty:=o.type) hx hl;exact B5 (v:=v) (w':=w') (by rw[ho];simp) (by unfold execOp;rw[ho];simp[resolve,invoke,builtin,hr]) ⟨_,hK,Ga (Bf hdef) (h'.put _ hrep)⟩
  ·exact hl.elim
 ·rename_i args ts ho;split at hl
  ·rename_i m k t ts' ha ht;obtain ⟨la⟩:=args;obtain ⟨lt⟩:=ts;simp only at ha ht;subst ha;subst ht;obtain ⟨w',s',hr,hK,h'⟩:=Kkk (P:=X.P) (ty:=o.type) (ts:=ts') hx hl;exact B5 (v:=.tuple #[]) (w':=w') (by rw[ho];simp) (by unfold execOp;rw[ho];simp[resolve,invoke,builtin,hr]) ⟨_,hK,Ga (Bf hdef) (h'.put _ ⟨[],rfl,rfl,fun i x p h=>by simp at h⟩)⟩
  ·exact hl.elim
 ·rename_i args ts ho;unfold Jd6 at hl;split at hl
  ·rename_i x y t it ha ht;split at hl
   ·exact Wb hdef hx hl
   ·obtain ⟨la⟩:=args;obtain ⟨lt⟩:=ts;simp only at ha ht;subst ha;subst ht;obtain ⟨v,w',s',l,hr,h',hrep,hK⟩:=Ni (P:=X.P) (it:=it) (ty:=o.type) hx hl;exact B5 (v:=v) (w':=w') (by rw[ho];simp) (by unfold execOp;rw[ho];simp[resolve,invoke,builtin,hr]) ⟨_,hK,Ga (Bf hdef) (h'.put _ hrep)⟩
  ·exact hl.elim
 ·rename_i f args ts ho;unfold Jc1 at hl;split at hl
  ·rename_i g ds hg;have hrf:=A2 hx.fit f;rw[hg] at hrf;obtain ⟨cs,hv,hcl,hcs⟩:=hrf;have hrun:(execOp a.eval o).run X.P w=(callFunc g ⟨args.toList.map a.eval ++ cs⟩).run X.P w:=by
    unfold execOp;rw[ho];have e:args.map a.eval ++ (⟨cs⟩:Array Value)=⟨args.toList.map a.eval ++ cs⟩:=by rw[<- Ebt];simp
    simp only[resolve,Sem.run_bind,hv,Deferred.ofValue,Sem.run_pure,Result.andThen_ok,invoke,Edo,e]
   have hargs:∀ {s':St} {Im':Nat->Prop},RRx (Γ.wm ms) β Im' s' a.tmps w->∀ (i:Nat) (v:Value) (l:L),(args.toList.map a.eval ++ cs)[i]? = some v->(args.toList.map s'.get ++ ds.map fun d=>L.ptr d 0 0)[i]? = some l->LRep β w Im' v l:=by
    intro s' Im' hx' i v l hi hl';by_cases hlt:i<args.toList.length
    ·rw[Eat (by simpa using hlt),Eam] at hi hl';obtain ⟨q,hq,rfl⟩:=Eal.1 hi;rw[hq] at hl';cases hl';exact A2 hx'.fit q
    ·rw[Ear (by simpa using hlt)] at hi hl';simp only[Ea1] at hi hl';rw[Eam] at hl';obtain ⟨d,hd,rfl⟩:=Eal.1 hl';obtain ⟨loc,h1,h2⟩:=hcs _ v d hi hd;exact ⟨loc,h1,by simpa using h2⟩
   unfold Jm at hl;split at hl
   ·obtain ⟨Im',hx'⟩:=RRx.freezeOps args.toList hx;exact M6 hG hdef hx' (by rw[ho];simp) (by simp[hcl]) (hargs hx') hrun hl
   ·exact M6 hG hdef hx (by rw[ho];simp) (by simp[hcl]) (hargs hx) hrun hl
   ·obtain ⟨rfl,l,hX,hK⟩:=hl;have hc0:cs=[]:=by simpa using hcl
    subst hc0;have hfit:Fit β w Im ⟨args.toList.map s.get,s.regs⟩ ⟨args.toList.map a.eval⟩ :=
     {
      size:=by simp,tmps:=fun i l hl'=>by
       rw[Eam] at hl';obtain ⟨q,hq,rfl⟩:=Eal.1 hl';have e:(⟨args.toList.map a.eval⟩:Array Value).getD i undef=a.eval q:=by
        rw[Eav,Edg,Eam,hq];rfl
       rw[e];exact A2 hx.fit q
      regs:=hx.fit.regs,nodup:=hx.fit.nodup,live:=hx.fit.live,apart:=hx.fit.apart,im:=hx.fit.im }
    obtain ⟨v,hr,hrep⟩:=hX β Im w _ hfit;exact B5 (v:=v) (w':=w) (by rw[ho];simp) (by rw[hrun];simpa using hr) ⟨_,hK,Ga (Bf hdef) (hx.put _ hrep)⟩
   ·obtain ⟨rfl,l,hX,hK⟩:=hl;have hc0:cs=[]:=by simpa using hcl
    subst hc0;obtain ⟨v,hr,hrep⟩:=hX β Im w (args.toList.map a.eval ++ []) sm (fun i v l hi hl'=>hargs hx i v l hi (by simpa using hl'));exact B5 (v:=v) (w':=w) (by rw[ho];simp) (by rw[hrun,hr]) ⟨_,hK,Ga (Bf hdef) (hx.put _ hrep)⟩
  ·rename_i g ps hg;obtain ⟨_,hg',hl⟩:=hl;obtain ⟨Im',hx'⟩:=RRx.freezeOps args.toList hx;have hrf:=A2 hx'.fit f;rw[hg'] at hrf;obtain ⟨b,o',hv,hrep⟩:=J7z (β:=β) hrf;have hrun:(execOp a.eval o).run X.P w=(callFunc g ⟨args.toList.map a.eval ++ [.pointer (some ⟨b,o',none⟩)]⟩).run X.P w:=by
    unfold execOp;rw[ho];have e:args.map a.eval ++ (#[.pointer (some ⟨b,o',none⟩)]:Array Value)=⟨args.toList.map a.eval ++ [.pointer (some ⟨b,o',none⟩)]⟩:=by rw[<- Ebt];simp
    simp only[resolve,Sem.run_bind,hv,Deferred.ofValue,Sem.run_pure,Result.andThen_ok,invoke,Edo,e]
   refine M6 hG hdef hx' (by rw[ho];simp) sm (fun i v l hi hl'=>?_) hrun hl;by_cases hlt:i<args.toList.length
   ·rw[Eat (by simpa using hlt),Eam] at hi hl';obtain ⟨q,hq,rfl⟩:=Eal.1 hi;rw[hq] at hl';cases hl';exact A2 hx'.fit q
   ·rw[Ear (by simpa using hlt)] at hi hl';simp only[Ea1] at hi hl';cases hk:i - args.toList.length with
    | zero=>rw[hk] at hi hl';simp at hi hl';subst hi;subst hl';exact hrep
    | succ k=>rw[hk] at hi;simp at hi
  ·exact hl.elim
 ·rename_i a1 b1 x ho;unfold Jke at hl;split at hl
  ·rename_i d j hg;have hr:=A2 hx.fit x;rw[hg] at hr;obtain ⟨v,l,hr,hrep,hK⟩:=P5 (P:=X.P) hx.fit hr hl;exact B5 (v:=v) (w':=w) (by rw[ho];simp) (by unfold execOp;rw[ho];simp[hr]) ⟨_,hK,Ga (Bf hdef) (hx.put _ hrep)⟩
  ·rename_i u hg;have hr:=A2 hx.fit x;rw[hg] at hr;obtain ⟨v,w',β',Im',s',l,hr,hx',hrep,hK⟩:=Kkn (P:=X.P) hx hr hl;exact B5 (v:=v) (w':=w') (by rw[ho];simp) (by unfold execOp;rw[ho];simp[hr]) ⟨_,hK,Ga (Bf hdef) (hx'.put _ hrep)⟩
  ·obtain ⟨Im',hx'⟩:=RRx.freezeOps [x] hx;have hl:∃ v l,(convert a1 b1 (a.eval x)).run X.P w=.ok v w/\LRep β w Im' v l/\kput o.dst K (s.freezeOps [x]) l:=by
    split at hl
    ·rename_i hr;exact J5q hr (A2 hx'.fit x) hl
    ·exact Jl (P:=X.P) (A2 hx'.fit x) hl
   obtain ⟨v,l,hr,hrep,hK⟩:=hl;exact B5 (v:=v) (w':=w) (by rw[ho];simp) (by unfold execOp;rw[ho];simp[hr]) ⟨_,hK,Ga (Bf hdef) (hx'.put _ hrep)⟩
 ·rename_i t x lo hi ho;unfold lslG at hl;split at hl
  ·rename_i d hg;obtain ⟨v,s',l,Im',hr,hx',hrep,hK⟩:=Jb1 (P:=X.P) hx hg hl;exact B5 (v:=v) (w':=w) (by rw[ho];simp) (by unfold execOp;rw[ho];simp[hr]) ⟨_,hK,Ga (Bf hdef) (hx'.put _ hrep)⟩
  ·exact Wb hdef hx hl
 ·exact Wb hdef hx hl
theorem T5 {s:St} {a:Act} {w:World} {o:Oper} {K:St->Prop} {Q:Exit->Act->World->Prop} {n:Nat} (hG:Γ.G=X.G) (h:RR Γ s a w) (hl:lop X o K s):o.wpIn (F0 ro) n X.P a w (fun a' w'=>∃ s,K s/\RR Γ s a' w') Q:=by
 obtain ⟨ms,hdef,hh⟩:=h;exact Oper.wpIn_mono (fun a' w' ⟨s',h1,h2⟩=>⟨s',h1,h2.rr⟩) (Lm (ms:=ms) hG ⟨hdef,hh⟩ hl)
theorem Gb {s:St} {a:Act} {w:World} {ops:Array Oper} {g:Option (Nat×Bool)} {A B:St->Prop} (h:RR Γ s a w) (hl:F4 (ops.toList.map (·.dst)) g A B s) :
  ∃ s',RR Γ s' a w/\((A s'/\∀ o:Oper,o.guard=g->Region.wanted o (yielded ops a.tmps)=true)\/(B s'/\∀ o:Oper,o.guard=g->Region.wanted o (yielded ops a.tmps)=false)):=by
 unfold F4 at hl;split at hl
 ·exact ⟨s,h,.inl ⟨hl,fun o ho=>by simp[Region.wanted,ho]⟩⟩
 ·rename_i j want;split at hl
  ·rename_i dj hdj;obtain ⟨ms,hdef,β,Im,hx⟩:=h;have hlook:(ops[j]?).bind (·.dst)=some dj:=by
    rw[Eaj,Eam] at hdj;cases hj:ops[j]? with
    | none=>simp[hj] at hdj
    | some o=>simpa[hj] using hdj
   split at hl
   ·rename_i c hc;have hlt:s.tmps[dj]? = some (.p (.bool c)):=by
     rw[Eaj] at hc;cases hs:s.tmps[dj]? with
     | none=>rw[hs] at hc;simp at hc
     | some l=>rw[hs] at hc;simp at hc;rw[hc]
    have hrep:=hx.fit.tmps dj _ hlt;have hsz:dj<a.tmps.size:=by rw[hx.fit.size];exact (Eab.1 hlt).1
    have hv:a.tmps[dj]? = some (.bool c):=by
     have e1:a.tmps.getD dj undef=a.tmps[dj]:=by simp[Eav,hsz]
     rw[e1] at hrep;cases hvv:a.tmps[dj] with
     | bool b=>rw[hvv] at hrep;cases hrep;simp[hsz,hvv]
     | _=>rw[hvv] at hrep;cases hrep
    have hy:yielded ops a.tmps j=some c:=by simp[yielded,hlook,hv]
    have same:∀ c',c=c'->RR Γ (s.put (some dj) (.p (.bool c'))) a w:=by
     rintro c' rfl;have e:s.put (some dj) (.p (.bool c))=s:=by
      simp only[St.put];congr 1;obtain ⟨hl1,hl2⟩:=Eab.1 hlt;rw[<- hl2];exact List.set_getElem_self hl1
     rw[e];exact ⟨ms,hdef,β,Im,hx⟩
    by_cases hcw:c=want
    ·exact ⟨_,same want hcw,.inl ⟨hl.1 hcw,fun o ho=>by simp[Region.wanted,ho,hy,hcw]⟩⟩
    ·have hcw':c = !want:=by cases c<;>cases want<;>simp_all
     exact ⟨_,same (!want) hcw',.inr ⟨hl.2 hcw',fun o ho=>by simp[Region.wanted,ho,hy,hcw]⟩⟩
   ·rename_i hc;have hlt:s.tmps[dj]? = some (.tup []):=by
     rw[Eaj] at hc;cases hs:s.tmps[dj]? with
     | none=>rw[hs] at hc;simp at hc
     | some l=>rw[hs] at hc;simp at hc;rw[hc]
    have hrep:=hx.fit.tmps dj _ hlt;have hsz:dj<a.tmps.size:=by rw[hx.fit.size];exact (Eab.1 hlt).1
    have e1:a.tmps.getD dj undef=a.tmps[dj]:=by simp[Eav,hsz]
    rw[e1] at hrep;obtain ⟨vs,hv,_⟩:=hrep;have hy:yielded ops a.tmps j=none:=by simp[yielded,hlook,hsz,hv]
    exact ⟨s,⟨ms,hdef,β,Im,hx⟩,.inr ⟨hl,fun o ho=>by simp[Region.wanted,ho,hy]⟩⟩
   ·exact hl.elim
  ·exact hl.elim
theorem H0 {β:Env} {w:World} {Im:Nat->Prop}:LRep β w Im undef (.tup []):=⟨[],rfl,rfl,fun i x p h=>by simp at h⟩
theorem Lv {ops:Array Oper} {K:St->Prop} {Q:Exit->Act->World->Prop} {n:Nat} (hG:Γ.G=X.G) (hQ:∀ s a w,K s->RR Γ s a w->Q .normal a w):∀ (l:List Oper) (k:Nat),(∀ j,l[j]? = ops[k+j]?)->∀ (s:St) (a:Act) (w:World),RR Γ s a w ->
  lops X (ops.toList.map (·.dst)) l K s->wpOpsIn (F0 ro) n X.P ops Q (List.range' k l.length) a w
 | [],k,_,s,a,w,h,hl=>by simpa[wpOpsIn] using hQ s a w hl h
 | o :: l,k,hk,s,a,w,h,hl=>by
  have h0:ops[k]? = some o:=by simpa using (hk 0).symm
  have hk':∀ j,l[j]? = ops[k+1+j]?:=fun j=>by have:=hk (j+1);simpa[Eb2,Ecw 1 j] using this
  simp only[Ead,List.range'_succ,wpOpsIn,h0];simp only[lops] at hl;obtain ⟨s',h',hc⟩:=Gb h hl;rcases hc with ⟨hA,hw⟩ | ⟨hB,hw⟩
  ·rw[if_pos (hw o rfl)];exact Oper.wpIn_mono (fun a' w' ⟨s2,hs2,hr2⟩=>Lv hG hQ l (k+1) hk' s2 a' w' hr2 hs2) (T5 hG h' hA)
  ·rw[if_neg (by rw[hw o rfl];simp)];obtain ⟨ms,hdef,β,Im,hx⟩:=h';exact ⟨fun _ _=>trivial,Lv hG hQ l (k+1) hk' _ _ w ⟨ms,Bf hdef,β,Im,hx.put o.dst H0⟩ hB⟩
end
def L.retOK:L->Bool
 | .p _=>true
 | .tup _=>true
 | _=>false
def lqbs (P:Program) (s:St) (t:TypeId) (n:Nat) (parts:List (Nat×Operand)) (K:L->Prop):Prop :=
 ∃
  e sz,slE P t=some (e,sz)/\n * sz<=16777216/\(∃ zs,Bu P e=some zs/\zs.length=sz)/\parts.length=n/\Jt 0 (parts.map fun (i,x)=>(i,s.get x))=true /\
  ∃ es,Dn sz (parts.map fun (i,x)=>(i,s.get x))=some es/\K (.p (.sl es))
def lqc (X:Cx) (s:St) (o:Oper) (K:L->Prop):Prop :=
 match o.op with
 | .call { callee:=.value f,args,argTypes:=_ }=>match s.get f with
  | .fn g []=>∃ l,(Al X g (args.toList.map s.get) [] (fun m _=>m=l)/\l.retOK=true)/\K l
  | .p (.clo g ps)=>∃ l,(Al X g (args.toList.map s.get ++ [.eptr ps]) [] (fun m _=>m=l)/\l.retOK=true)/\K l
  | _=>False
 | .buildSlice t n parts=>lqbs X.P s t n parts.toList K
 | op=>lq X.P s.regs s.get op K
def kq (X:Cx) (o:Oper) (K:St->Prop) (s:St):Prop:=lqc X s o (kput o.dst K s)
def Jf (X:Cx) (ds:List (Option Tmp)):List Oper->(St->Prop)->St->Prop
 | [],K,s=>K s
 | o :: rest,K,s=>F4 ds o.guard (kq X o (Jf X ds rest K)) (F9 o.dst (Jf X ds rest K)) s
def YS (X:Cx) (ds:List (Option Tmp)) (s:St) (o:Oper) (K:L->Prop):Prop :=
 match o.guard with
 | none=>lqc X s o K
 | some (j,want)=>match ds.getD j none with
  | some dj=>match s.tmps.getD dj .junk with
   | .p (.bool c)=>if c=want then lqc X s o K else K (.tup [])
   | .tup []=>K (.tup [])
   | _=>False
  | none=>False
def Jds (X:Cx) (ds:List (Option Tmp)) (K:St->Prop):List Oper->St->Prop
 | [],s=>K s
 | o :: rest,s=>YS X ds s o fun l=>Jds X ds K rest (s.put o.dst l)
section
variable {X:Cx} {Γ:Base} {ro:Option Nat} {ops:Array Oper} {md:Region.Mode}
theorem Mu {s:St} {o:Oper} {K K':L->Prop} (h:∀ l,K l->K' l) (hl:lqc X s o K):lqc X s o K':=by
 unfold lqc at hl ⊢;split at hl
 ·split at hl
  ·obtain ⟨l,h1,h2⟩:=hl;exact ⟨l,h1,h l h2⟩
  ·obtain ⟨l,h1,h2⟩:=hl;exact ⟨l,h1,h l h2⟩
  ·exact hl.elim
 ·obtain ⟨e,sz,h1,h2,h3,h4,h5,es,h6,h7⟩:=hl;exact ⟨e,sz,h1,h2,h3,h4,h5,es,h6,h _ h7⟩
 ·exact Jpx h hl
theorem Th {s:St} {o:Oper} {K:L->Prop} (hl:lqc X s o K):∃ l,lqc X s o (fun m=>m=l)/\K l:=by
 unfold lqc at hl ⊢;split at hl
 ·split at hl
  ·obtain ⟨l,h1,h2⟩:=hl;exact ⟨l,⟨l,h1,rfl⟩,h2⟩
  ·obtain ⟨l,h1,h2⟩:=hl;exact ⟨l,⟨l,h1,rfl⟩,h2⟩
  ·exact hl.elim
 ·obtain ⟨e,sz,h1,h2,h3,h4,h5,es,h6,h7⟩:=hl;exact ⟨_,⟨e,sz,h1,h2,h3,h4,h5,es,h6,rfl⟩,h7⟩
 ·exact Jis hl
theorem Tx {s s':St} {o:Oper} {K:L->Prop} (hr:s'.regs=s.regs) (hρ:∀ x∈o.op.operands.toList,s'.get x=s.get x) (hl:lqc X s o K):lqc X s' o K:=by
 unfold lqc at hl ⊢;split at hl
 ·rename_i f args ts ho;have e1:s'.get f=s.get f:=hρ f (by rw[ho];simp[Op.operands,Call.operands]);have e2:args.toList.map s'.get=args.toList.map s.get:=Ebp fun x hm=>hρ x (by rw[ho];simp[Op.operands,Call.operands];exact .inr (by simpa using hm))
  rw[e1,e2];exact hl
 ·rename_i t n parts ho;have e2:(parts.toList.map fun (i,x)=>(i,s'.get x))=parts.toList.map fun (i,x)=>(i,s.get x):=Ebp fun x hm=>by
   have:=hρ x.2 (by rw[ho];simp[Op.operands];exact ⟨x.1,by simpa using hm⟩);simp only[this]
  unfold lqbs at hl ⊢;rw[e2];exact hl
 ·rw[hr];exact Jj8 hρ hl
theorem Kr {ds:List (Option Tmp)} {s:St} {o:Oper} {K K':L->Prop} (h:∀ l,K l->K' l) (hl:YS X ds s o K):YS X ds s o K':=by
 unfold YS at hl ⊢;split at hl
 ·exact Mu h hl
 ·split at hl
  ·split at hl
   ·split at hl
    ·rename_i hc;rw[if_pos hc];exact Mu h hl
    ·rename_i hc;rw[if_neg hc];exact h _ hl
   ·exact h _ hl
   ·exact hl.elim
  ·exact hl.elim
theorem Jab {ds:List (Option Tmp)} {s:St} {o:Oper} {K:L->Prop} (hl:YS X ds s o K):∃ l,YS X ds s o (fun m=>m=l)/\K l:=by
 unfold YS at hl ⊢;split at hl
 ·exact Th hl
 ·split at hl
  ·split at hl
   ·split at hl
    ·rename_i hc;simp only[if_pos hc];exact Th hl
    ·rename_i hc;simp only[if_neg hc];exact ⟨_,rfl,hl⟩
   ·exact ⟨_,rfl,hl⟩
   ·exact hl.elim
  ·exact hl.elim
theorem Jmw {s:St} {dst:Option Tmp} {l:L} {x:Operand} (h:∀ d,dst=some d->x≠.tmp d):(s.put dst l).get x=s.get x:=by
 cases dst with
 | none=>rfl
 | some d =>
  cases x with
  | tmp t =>
   have:d≠t:=fun e=>h d rfl (by rw[e])
   simp[St.get,St.put,Eaj,this]
  | const v=>rfl
  | global g=>rfl
  | func f=>rfl
theorem Jlk (j:Nat):(ops.toList.map (·.dst)).getD j none=(ops[j]?).bind (·.dst):=by
 rw[Eaj,Eam];cases h:ops[j]?<;>simp[h]
theorem Uk {s:St} {o:Oper} {K:L->Prop} {dst:Option Tmp} {l:L} (h:∀ d,dst=some d->d ∉ o.looksAt ops) (hl:YS X (ops.toList.map (·.dst)) s o K):YS X (ops.toList.map (·.dst)) (s.put dst l) o K:=by
 have hop:∀ x∈o.op.operands.toList,(s.put dst l).get x=s.get x:=fun x hx=>Jmw fun d hd hxd=>h d hd (by
  subst hxd;exact Eb9 _ (List.mem_filterMap.2 ⟨.tmp d,by simpa using hx,rfl⟩))
 have hreg:(s.put dst l).regs=s.regs:=by cases dst<;>rfl
 unfold YS at hl ⊢;split at hl
 ·exact Tx hreg hop hl
 ·rename_i j want hg;split at hl
  ·rename_i dj hdj;have hdj':(ops[j]?).bind (·.dst)=some dj:=by rw[<- Jlk];exact hdj
   have hslot:(s.put dst l).tmps.getD dj .junk=s.tmps.getD dj .junk:=by
    cases dst with
    | none=>rfl
    | some d =>
     have:d≠dj:=fun e=>h d rfl (by
      subst e;unfold Oper.looksAt;refine Ecb _ ?_;rw[hg];simp only[hdj'];simp)
     simp[St.put,Eaj,this]
   rw[hslot];split at hl
   ·split at hl
    ·rename_i hc;rw[if_pos hc];exact Tx hreg hop hl
    ·rename_i hc;rw[if_neg hc];exact hl
   ·exact hl
   ·exact hl.elim
  ·exact hl.elim
theorem Js0 (s:St) {x y:Option Tmp} (v u:L) (h:∀ d,x=some d->y≠some d):(s.put x v).put y u=(s.put y u).put x v:=by
 cases x with
 | none=>rfl
 | some d=>cases y with
  | none=>rfl
  | some e =>
   have:d≠e:=fun h'=>h d rfl (by rw[h'])
   simp only[St.put];congr 1;exact List.set_comm _ _ this
theorem Yr {s:St} {o:Oper} {K:L->Prop} {dst:Option Tmp} {l:L} (h:∀ d,dst=some d->d ∉ o.looksAt ops) (hl:YS X (ops.toList.map (·.dst)) (s.put dst l) o K):YS X (ops.toList.map (·.dst)) s o K:=by
 cases dst with
 | none=>exact hl
 | some d =>
  cases hd:s.tmps[d]? with
  | none =>
   have:s.put (some d) l=s:=by
    simp only[St.put];congr 1;exact List.set_eq_of_length_le (by rw[List.getElem?_eq_none_iff] at hd;exact hd)
   rw[this] at hl;exact hl
  | some l0 =>
   have:=Uk (ops:=ops) (dst:=some d) (l:=l0) h hl;have e:(s.put (some d) l).put (some d) l0=s:=by
    simp only[St.put,List.set_set];congr 1;obtain ⟨h1,h2⟩:=Eab.1 hd;rw[<- h2];exact List.set_getElem_self h1
   rw[e] at this;exact this
def lAny (X:Cx) (md:Region.Mode) (ops:Array Oper) (K:St->Prop):Nat->Array Bool->St->Prop
 | 0,listed,s=>Region.ready md ops listed=[]/\K s
 | fuel+1,listed,s=>(Region.ready md ops listed=[]->K s) /\
  ∀ i∈Region.ready md ops listed,∀ o,ops[i]? = some o->YS X (ops.toList.map (·.dst)) s o fun l=>lAny X md ops K fuel (listed.setIfInBounds i true) (s.put o.dst l)
theorem Jck {K:St->Prop} {i:Nat} {oi:Oper} {v:L} (hi:ops[i]? = some oi):∀ (fuel:Nat) (listed:Array Bool) (s:St),
   (∀ j oj,ops[j]? = some oj->j≠i->listed.getD j true=false->(∀ e∈oj.after,Region.binds md e=true->e.on≠i)->oi.apart ops oj=true) ->
   i∈Region.ready md ops listed->YS X (ops.toList.map (·.dst)) s oi (fun m=>m=v) ->
   lAny X md ops K fuel (listed.setIfInBounds i true) (s.put oi.dst v)->lAny X md ops K (fuel+1) listed s:=by
 intro fuel
 induction fuel with
 | zero =>
  intro listed s _ hr hy H;refine ⟨fun h=>(by rw[h] at hr;cases hr),fun j hj oj hoj=>?_⟩;by_cases hji:j=i
  ·subst hji;rw[hi] at hoj;cases hoj;exact Kr (fun l hl=>by rw[hl];exact H) hy
  ·have:=ready_mono hj hji;rw[H.1] at this;cases this
 | succ fuel ih =>
  intro listed s hfree hr hy H;refine ⟨fun h=>(by rw[h] at hr;cases hr),fun j hj oj hoj=>?_⟩;by_cases hji:j=i
  ·subst hji;rw[hi] at hoj;cases hoj;exact Kr (fun l hl=>by rw[hl];exact H) hy
  ·have h1:=H.2 j (ready_mono hj hji) oj hoj;obtain ⟨hjun,oj',hoj',hall⟩:=mem_ready.1 hj;rw[hoj] at hoj';cases hoj';have hnot:∀ e∈oj.after,Region.binds md e=true->e.on≠i:=fun e he hb heq=>by
    have h1:=hall e he hb;have h0:=(mem_ready.1 hr).1;rw[heq] at h1;rcases Eds i listed.size with h' | h'
    ·simp[h'] at h0 h1;rw[h0] at h1;cases h1
    ·simp[Array.getElem?_eq_none h'] at h1
   obtain ⟨a1,a2,a3⟩:=Oper.apart_spec (hfree j oj hoj hji hjun hnot);have hfree':∀ k ok,ops[k]? = some ok->k≠i->(listed.setIfInBounds j true).getD k true=false ->
     (∀ e∈ok.after,Region.binds md e=true->e.on≠i)->oi.apart ops ok=true:=fun k ok hk hki hun hno=>by
    refine hfree k ok hk hki ?_ hno;by_cases hjk:j=k
    ·subst hjk;exact hjun
    ·rw[getD_set_ne true hjk] at hun;exact hun
   refine Kr (fun l hl=>?_) (Yr a1 h1);refine ih (listed.setIfInBounds j true) (s.put oj.dst l) hfree' (ready_mono hr (Ne.symm hji)) (Uk a3 hy) ?_;rw[Array.setIfInBounds_comm _ _ hji];rw[<- Js0 s v l a2];exact hl
theorem W7 {K:St->Prop}:∀ (l:List Oper) (k:Nat) (listed:Array Bool) (s:St),(∀ j,l[j]? = ops[k+j]?) ->
  Region.lexFrom md ops l.length k listed=true->Jds X (ops.toList.map (·.dst)) K l s->lAny X md ops K l.length listed s
 | [],_,_,_,_,hB,h=>⟨by simpa[Region.lexFrom] using hB,h⟩
 | o :: l,k,listed,s,hl,hB,h=>by
  have h0:ops[k]? = some o:=by simpa using (hl 0).symm
  simp only[Ead,Region.lexFrom,Ebb] at hB;obtain ⟨⟨hr,hf⟩,hB'⟩:=hB;obtain ⟨v,hy,hK⟩:=Jab (X:=X) (show YS X _ s o _ from h);exact Jck h0 l.length listed s (Region.free_spec h0 hf) (by simpa using hr) hy
   (W7 l (k+1) _ _ (fun j=>by have:=hl (j+1);simpa[Eb2,Ecw 1 j] using this) hB' hK)
theorem Jfi {s:St} {a:Act} {w:World} {o:Oper} {K:L->Prop} {Q:Exit->Act->World->Prop} {n:Nat} (hG:Γ.G=X.G) (h:RR Γ s a w) (hl:lqc X s o K) :
  o.wpIn (F0 ro) n X.P a w (fun a' w'=>∃ l,K l/\RR Γ (s.put o.dst l) a' w') Q:=by
 obtain ⟨ms,hdef,β,Im,hx⟩:=h;unfold lqc at hl;split at hl
 ·rename_i f args ts ho;split at hl
  ·rename_i g hg;obtain ⟨l,⟨⟨hent,hl⟩,hret⟩,hK⟩:=hl;have hrf:=A2 hx.fit f;rw[hg] at hrf;obtain ⟨cs,hv,hcl,hcs⟩:=hrf;have:cs=[]:=Ean (by simpa using hcl);subst this;have hfit:Fit β w Im ⟨args.toList.map s.get,[]⟩ ⟨args.toList.map a.eval⟩:=by
    refine { size:=by simp,tmps:=fun i l hl'=>?_,regs:=fun d r h=>(by cases h),nodup:=.nil,live:=fun d r loc h=>(by cases h),apart:=fun d r d' r' l1 l2 h=>(by cases h),im:=hx.fit.im };simp only[Eam] at hl';obtain ⟨q,hq,rfl⟩:=Eal.1 hl';have e1:(⟨args.toList.map a.eval⟩:Array Value).getD i undef=a.eval q:=by simp only[Eav,Edg,Eam,hq];rfl
    rw[e1];exact A2 hx.fit q
   refine Q0 (f:=g) (args:=⟨args.toList.map a.eval⟩) (w':=w) (by rw[ho];simp) ?_ ?_
   ·unfold execOp;rw[ho];have e:args.map a.eval ++ (⟨[]⟩:Array Value)=⟨args.toList.map a.eval⟩:=by rw[<- Ebt];simp
    simp only[resolve,Sem.run_bind,hv,Deferred.ofValue,Sem.run_pure,Result.andThen_ok,invoke,Edo,e];exact hent _ _
   ·refine (hl β Im w _ (hG ▸ hx.glob) hfit).mono fun e w' ⟨v,m,rs',β',Im2,he,hP,hrep,hstep⟩=>⟨v,he,l,hK,ms,Bf hdef,β,Im2,?_⟩
    subst hP;have g:Grow w Im w' Im2:=⟨hstep.os,hstep.tape,hstep.output,hstep.size,fun k hk=>hstep.block k hk fun d r loc h=>(by cases h),hstep.imin,fun b hb=>(hstep.imnew b hb).imp id fun h=>h.elim id fun ⟨d,r,loc,h,_⟩=>(by cases h),hstep.fit.im⟩
    refine (hx.grow g).put _ ?_;cases m<;>first|exact hrep | cases hret
  ·rename_i g ps hg;obtain ⟨l,⟨⟨hent,hl⟩,hret⟩,hK⟩:=hl;have hrf:=A2 hx.fit f;rw[hg] at hrf;obtain ⟨b,o',hv,hrf⟩:=J7z (β:=β) hrf;have hfit:Fit β w Im ⟨args.toList.map s.get ++ [.eptr ps],[]⟩ ⟨args.toList.map a.eval ++ [.pointer (some ⟨b,o',none⟩)]⟩:=by
    refine { size:=by simp,tmps:=fun i l hl'=>?_,regs:=fun d r h=>(by cases h),nodup:=.nil,live:=fun d r loc h=>(by cases h),apart:=fun d r d' r' l1 l2 h=>(by cases h),im:=hx.fit.im };by_cases hlt:i<args.toList.length
    ·simp only[] at hl';rw[Eat (by simpa using hlt),Eam] at hl';obtain ⟨q,hq,rfl⟩:=Eal.1 hl';have e1:(⟨args.toList.map a.eval ++ [.pointer (some ⟨b,o',none⟩)]⟩:Array Value).getD i undef=a.eval q:=by
      rw[Eav,Edg,Eat (by simpa using hlt),Eam,hq];rfl
     rw[e1];exact A2 hx.fit q
    ·simp only[] at hl';rw[Ear (by simpa using hlt),Ea1] at hl';cases hk:i - args.toList.length with
     | zero =>
      rw[hk] at hl';simp at hl';subst hl';have e1:(⟨args.toList.map a.eval ++ [.pointer (some ⟨b,o',none⟩)]⟩:Array Value).getD i undef=.pointer (some ⟨b,o',none⟩):=by
       rw[Eav,Edg,Ear (by simpa using hlt),Ea1,hk];rfl
      rw[e1];exact hrf
     | succ k=>rw[hk] at hl';simp at hl'
   refine Q0 (f:=g) (args:=⟨args.toList.map a.eval ++ [.pointer (some ⟨b,o',none⟩)]⟩) (w':=w) (by rw[ho];simp) ?_ ?_
   ·unfold execOp;rw[ho];have e:args.map a.eval ++ (#[.pointer (some ⟨b,o',none⟩)]:Array Value)=⟨args.toList.map a.eval ++ [.pointer (some ⟨b,o',none⟩)]⟩:=by rw[<- Ebt];simp
    simp only[resolve,Sem.run_bind,hv,Deferred.ofValue,Sem.run_pure,Result.andThen_ok,invoke,Edo,e];exact hent _ _
   ·refine (hl β Im w _ (hG ▸ hx.glob) hfit).mono fun e w' ⟨v,m,rs',β',Im2,he,hP,hrep,hstep⟩=>⟨v,he,l,hK,ms,Bf hdef,β,Im2,?_⟩
    subst hP;have g:Grow w Im w' Im2:=⟨hstep.os,hstep.tape,hstep.output,hstep.size,fun k hk=>hstep.block k hk fun d r loc h=>(by cases h),hstep.imin,fun b hb=>(hstep.imnew b hb).imp id fun h=>h.elim id fun ⟨d,r,loc,h,_⟩=>(by cases h),hstep.fit.im⟩
    refine (hx.grow g).put _ ?_;cases m<;>first|exact hrep | cases hret
  ·exact hl.elim
 ·rename_i t m parts ho;obtain ⟨e,sz,h1,h2,h3,h4,h5,es,h6,h7⟩:=hl;obtain ⟨v,w',Im',hr,hg,hp⟩:=Po hx h1 h2 h3 h4 h5 h6;have e1:(parts.map fun (i,x)=>(i,a.eval x))=⟨parts.toList.map fun (i,x)=>(i,a.eval x)⟩:=by rw[<- Ebt];simp
  rw[<- e1] at hr;refine B5 (v:=v) (w':=w') (by rw[ho];simp) (by unfold execOp;rw[ho];simp[hr]) ⟨_,h7,ms,Bf hdef,β,Im',(hx.grow hg).put _ hp⟩
 ·have hq:=X5 (P:=X.P) hx.fit (o:=o) hl;obtain ⟨v,l,hr,hrep,hK⟩:=hq;refine B5 (v:=v) (w':=w) (fun c hc=>?_) hr ⟨_,hK,ms,Bf hdef,β,Im,hx.put _ hrep⟩;rw[hc] at hl;simp[lq,lqv] at hl
theorem Jk5 {s:St} {a:Act} {w:World} (h:RR Γ s a w) {j dj:Nat} {c:Bool} (hdj:(ops[j]?).bind (·.dst)=some dj) (hc:s.tmps.getD dj .junk=.p (.bool c)):yielded ops a.tmps j=some c:=by
 obtain ⟨ms,hdef,β,Im,hx⟩:=h;have hlt:s.tmps[dj]? = some (.p (.bool c)):=by
  rw[Eaj] at hc;cases hs:s.tmps[dj]? with
  | none=>rw[hs] at hc;simp at hc
  | some l=>rw[hs] at hc;simp at hc;rw[hc]
 have hrep:=hx.fit.tmps dj _ hlt;have hsz:dj<a.tmps.size:=by rw[hx.fit.size];exact (Eab.1 hlt).1
 have e1:a.tmps.getD dj undef=a.tmps[dj]:=by simp[Eav,hsz]
 rw[e1] at hrep;cases hvv:a.tmps[dj] with
 | bool b=>rw[hvv] at hrep;cases hrep;simp[yielded,hdj,hsz,hvv]
 | _=>rw[hvv] at hrep;cases hrep
theorem Jca {s:St} {a:Act} {w:World} (h:RR Γ s a w) {j dj:Nat} (hdj:(ops[j]?).bind (·.dst)=some dj) (hc:s.tmps.getD dj .junk=.tup []):yielded ops a.tmps j=none:=by
 obtain ⟨ms,hdef,β,Im,hx⟩:=h;have hlt:s.tmps[dj]? = some (.tup []):=by
  rw[Eaj] at hc;cases hs:s.tmps[dj]? with
  | none=>rw[hs] at hc;simp at hc
  | some l=>rw[hs] at hc;simp at hc;rw[hc]
 have hrep:=hx.fit.tmps dj _ hlt;have hsz:dj<a.tmps.size:=by rw[hx.fit.size];exact (Eab.1 hlt).1
 have e1:a.tmps.getD dj undef=a.tmps[dj]:=by simp[Eav,hsz]
 rw[e1] at hrep;obtain ⟨vs,hv,_⟩:=hrep;simp[yielded,hdj,hsz,hv]
theorem Zy {s:St} {a:Act} {w:World} {i:Nat} {o:Oper} {K:L->Prop} {K':Act->World->Prop} {Q:Exit->Act->World->Prop} {n:Nat} (hi:ops[i]? = some o) (hG:Γ.G=X.G) (h:RR Γ s a w) (hl:YS X (ops.toList.map (·.dst)) s o K)
  (hK:∀ l a' w',K l->RR Γ (s.put o.dst l) a' w'->K' a' w'):wpOpIn (F0 ro) n X.P ops Q i K' a w:=by
 unfold wpOpIn;simp only[hi];have run:∀ {K:L->Prop},lqc X s o K->(∀ l a' w',K l->RR Γ (s.put o.dst l) a' w'->K' a' w')->o.wpIn (F0 ro) n X.P a w K' Q:=fun hl hK =>
  Oper.wpIn_mono (fun a' w' ⟨l,h1,h2⟩=>hK l a' w' h1 h2) (Jfi hG h hl)
 have skip:∀ {K:L->Prop},K (.tup [])->(∀ l a' w',K l->RR Γ (s.put o.dst l) a' w'->K' a' w')->K' (a.put o.dst undef) w:=fun h1 hK=>by
  obtain ⟨ms,hdef,β,Im,hx⟩:=h;exact hK _ _ _ h1 ⟨ms,Bf hdef,β,Im,hx.put _ H0⟩
 unfold YS at hl;split at hl
 ·rename_i hg;rw[if_pos (by simp[Region.wanted,hg])];exact run hl hK
 ·rename_i j want hg;split at hl
  ·rename_i dj hdj;rw[Jlk] at hdj;split at hl
   ·rename_i c hc;have hy:=Jk5 h hdj hc;split at hl
    ·rename_i hcw;rw[if_pos (by simp[Region.wanted,hg,hy,hcw])];exact run hl hK
    ·rename_i hcw;rw[if_neg (by simp[Region.wanted,hg,hy,hcw])];exact ⟨fun _ _=>trivial,skip hl hK⟩
   ·rename_i hc;have hy:=Jca h hdj hc;rw[if_neg (by simp[Region.wanted,hg,hy])];exact ⟨fun _ _=>trivial,skip hl hK⟩
   ·exact hl.elim
  ·exact hl.elim
theorem K7 {K:St->Prop} {Q:Exit->Act->World->Prop} {n:Nat} (hG:Γ.G=X.G) (hQ:∀ s a w,K s->RR Γ s a w->Q .normal a w):∀ (fuel:Nat) (listed:Array Bool) (s:St) (a:Act) (w:World),RR Γ s a w ->
  lAny X md ops K fuel listed s->wpAnyIn (F0 ro) n X.P md ops Q fuel listed a w
 | 0,_,s,a,w,h,hl=>⟨hl.1,hQ s a w hl.2 h⟩
 | fuel+1,_,s,a,w,h,hl=>⟨fun h0=>hQ s a w (hl.1 h0) h,fun i hi=>by
   obtain ⟨_,o,ho,_⟩:=mem_ready.1 hi;exact Zy ho hG h (hl.2 i hi o ho) fun l a' w' h1 h2=>K7 hG hQ fuel _ _ a' w' h2 h1⟩
theorem Gy {K:St->Prop} {ds:List (Option Tmp)}:∀ (l:List Oper) (s:St),Jf X ds l K s->Jds X ds K l s
 | [],s,h=>h
 | o :: l,s,h=>by
  have self:∀ (dj:Nat) (c:Bool),s.tmps.getD dj .junk=.p (.bool c)->s.put (some dj) (.p (.bool c))=s:=by
   intro dj c hc;rw[Eaj] at hc;cases hs:s.tmps[dj]? with
   | none=>rw[hs] at hc;simp at hc
   | some x =>
    rw[hs] at hc;simp at hc;simp only[St.put];congr 1;obtain ⟨h1,h2⟩:=Eab.1 hs;rw[<- hc,<- h2];exact List.set_getElem_self h1
  simp only[Jf] at h;simp only[Jds];unfold F4 at h;unfold YS;cases hg:o.guard with
  | none =>
   rw[hg] at h;exact Mu (fun m hm=>Gy l _ hm) h
  | some jw =>
   obtain ⟨j,want⟩:=jw;rw[hg] at h;simp only at h ⊢;cases hdj:ds.getD j none with
   | none=>rw[hdj] at h;exact h.elim
   | some dj =>
    rw[hdj] at h;simp only at h ⊢;split at h
    ·rename_i c hc
     try rw[hc]
     try simp only
     by_cases hcw:c=want
     ·rw[if_pos hcw];have h1:=h.1 hcw;subst hcw;rw[self _ _ hc] at h1;exact Mu (fun m hm=>Gy l _ hm) h1
     ·rw[if_neg hcw];have hcw':c = !want:=by cases c<;>cases want<;>simp_all
      have h1:=h.2 hcw';rw[<- hcw',self _ _ hc] at h1;exact Gy l _ h1
    ·rename_i hc
     try rw[hc]
     exact Gy l _ h
    ·exact h.elim
theorem Xt {id:Nat} {s:St} {a:Act} {w:World} {K:St->Prop} {Q:Exit->Act->World->Prop} {n:Nat} (hG:Γ.G=X.G) (hm:X.P.follows .mixedOrders=true) (hB:Region.lexB .any ops=true) (hQ:∀ s a w,K s->RR Γ s a w->Q .normal a w) (h:RR Γ s a w)
  (hl:Jf X (ops.toList.map (·.dst)) ops.toList K s):(Code.region id ops true).wpIn (F0 ro) n X.P Q a w:=by
 simp only[Region.lexB,Ebb] at hB;have h':RR Γ s a { w with drawn:=w.drawn+1 }:=by
  obtain ⟨ms,hdef,β,Im,hx⟩:=h;exact ⟨ms,hdef,β,Im,hx.grow (Grow.drew hx.fit.im)⟩
 refine wpIn_region_any hm (K7 hG hQ _ _ s a _ h' ?_);have:=W7 (X:=X) (K:=K) (md:=.any) ops.toList 0 (Array.replicate ops.size false) s sm (by simpa using hB.2) (Gy ops.toList s hl);simpa using this
end
inductive Ex where
 | normal
 | exit (id:Nat)
 | ret
def QQ (Γ:Base) (Q:Ex->St->Prop):Exit->Act->World->Prop
 | .normal,a,w=>∃ s,Q .normal s/\RR Γ s a w
 | .exit id,a,w=>∃ s,Q (.exit id) s/\RR Γ s a w
 | .ret,a,w=>∃ s,Q .ret s/\RR Γ s a w
 | _,_,_=>False
def Base.loopAt (Γ:Base) (l:Nat):Prop:=(∃ r,Γ.W0.heap[l]? = some (.loop r))/\¬ Γ.may l
def GOK (X:Cx) (ro:Option Nat) (Γ:Base):Prop:=Γ.G=X.G/\∀ l,ro=some l->Γ.loopAt l
theorem Kdl {X:Cx} {Γ:Base} (h:Γ.G=X.G):GOK X none Γ:=⟨h,fun _ h=>by cases h⟩
def SWP (X:Cx) (ro:Option Nat) (c:Code) (Q:Ex->St->Prop) (s:St):Prop:=∀ Γ a w,GOK X ro Γ->RR Γ s a w->c.wpIn (F0 ro) 1 X.P (QQ Γ Q) a w
def kseq (B:(Ex->St->Prop)->St->Prop) (Q:Ex->St->Prop):Ex->St->Prop
 | .normal,s=>B Q s
 | .exit id,s=>Q (.exit id) s
 | .ret,s=>Q .ret s
def Nq (id:Nat) (Q:Ex->St->Prop):Ex->St->Prop
 | .normal,s=>Q .normal s
 | .exit id',s=>if id'=id then Q .normal s else Q (.exit id') s
 | .ret,s=>Q .ret s
def O0 (l:L) (A B:St->Prop) (s:St):Prop :=
 match l with
 | .p (.bool t)=>(t=true->A s)/\(t=false->B s)
 | _=>False
def lwp (X:Cx) (ro:Option Nat):Code->(Ex->St->Prop)->St->Prop
 | .skip,Q,s=>Q .normal s
 | .region id ops draw,Q,s=>match draw with
  | false=>lops X (ops.toList.map (·.dst)) ops.toList (Q .normal) s
  | true=>SWP X ro (.region id ops true) Q s
 | .seq a b,Q,s=>lwp X ro a (kseq (lwp X ro b) Q) s
 | .cond c a b,Q,s=>O0 (s.get c) (lwp X ro a Q) (lwp X ro b Q) s
 | .block id c,Q,s=>lwp X ro c (Nq id Q) s
 | .loop c,Q,s=>SWP X ro (.loop c) Q s
 | .exit id,Q,s=>Q (.exit id) s
 | .ret,Q,s=>Q .ret s
 | .label _,Q,s=>Q .normal s
 | .scope c,Q,s=>lwp X ro c Q s
 | c,Q,s=>SWP X ro c Q s
theorem Js {P:Program} {b:Frame} {a:Act} {k:List Item} {cs:List Frame} {w:World} {c:Code}:step P (lone (b.atR a (.code (.scope c) :: k)) cs w)=.next (lone (b.atR a (.code c :: .inScope c :: k)) cs w) :=
 step_lone_go (by simp[stepG,stepG.exec,Frame.atR])
theorem S3 {P:Program} {b:Frame} {a:Act} {k:List Item} {cs:List Frame} {w:World} {c:Code}:step P (lone (b.atR a (.inScope c :: k)) cs w)=.next (lone (b.atR a k) cs w) :=
 step_lone_go (by simp[stepG,stepG.exec,Frame.atR])
section
variable {X:Cx} {ro:Option Nat}
theorem Ae (hm:X.P.follows .mixedOrders=true):∀ (c:Code) (Q:Ex->St->Prop) (s:St),lwp X ro c Q s->SWP X ro c Q s:=by
 intro c
 induction c with
 | skip=>exact fun Q s h Γ a w hG hr=>wpIn_skip ⟨s,h,hr⟩
 | region id ops draw =>
  intro Q s h Γ a w hG hr;cases draw with
  | false =>
   simp only[lwp] at h;refine wpIn_region ?_;have:=Lv (X:=X) (Γ:=Γ) (ro:=ro) (n:=1) (ops:=ops) (K:=Q .normal) (Q:=QQ Γ Q) hG.1 (fun s a w h1 h2=>⟨s,h1,h2⟩) ops.toList 0 sm s a w hr h;rw[Array.length_toList] at this;rw[List.range_eq_range'];exact this
  | true =>
   exact h Γ a w hG hr
 | seq x y ihx ihy =>
  intro Q s h Γ a w hG hr;simp only[lwp] at h;refine wpIn_seq (wpIn_mono (ihx _ s h Γ a w hG hr) fun e a w hq=>?_);cases e with
  | normal=>obtain ⟨s',h1,h2⟩:=hq;exact ihy Q s' h1 Γ a w hG h2
  | exit id=>exact hq
  | ret=>exact hq
  | goto l=>exact hq.elim
  | panic c=>exact hq.elim
  | outgrown=>exact hq.elim
 | cond c x y ihx ihy =>
  intro Q s h Γ a w hG hr;simp only[lwp,O0] at h;have hr':=hr;obtain ⟨ms,hdef,β,Im,hx⟩:=hr';have hc:=A2 hx.fit c;split at h
  ·rename_i t hg;rw[hg] at hc;cases hv:a.eval c<;>rw[hv] at hc<;>cases hc;exact wpIn_cond_split hv (fun ht=>ihx Q s (h.1 ht) Γ a w hG hr) (fun ht=>ihy Q s (h.2 ht) Γ a w hG hr)
  ·exact h.elim
 | block id c ih =>
  intro Q s h Γ a w hG hr;simp only[lwp] at h;refine wpIn_block (wpIn_mono (ih _ s h Γ a w hG hr) fun e a w hq=>?_);cases e with
  | normal=>exact hq
  | exit id' =>
   obtain ⟨s',h1,h2⟩:=hq;simp only[Nq] at h1;simp only[Exit.inBlock];split at h1
   ·rename_i he;rw[if_pos he];exact ⟨s',h1,h2⟩
   ·rename_i he;rw[if_neg he];exact ⟨s',h1,h2⟩
  | ret=>exact hq
  | goto l=>exact hq.elim
  | panic c=>exact hq.elim
  | outgrown=>exact hq.elim
 | loop c _=>exact fun Q s h=>h
 | exit id=>exact fun Q s h Γ a w hG hr=>wpIn_exit ⟨s,h,hr⟩
 | ret=>exact fun Q s h Γ a w hG hr=>wpIn_ret ⟨s,h,hr⟩
 | label l=>exact fun Q s h Γ a w hG hr=>wpIn_label ⟨s,h,hr⟩
 | rangeFunc f ps asg c _ _=>exact fun Q s h=>h
 | scope c ih =>
  intro Q s h Γ a w hG hr;simp only[lwp] at h;intro b k cs hro hb hroom;obtain ⟨e,a₁,w₁,hq,harr⟩:=ih Q s h Γ a w hG hr b (.inScope c :: k) cs hro hb hroom;cases e with
  | normal=>exact ⟨.normal,a₁,w₁,hq,.of_steps (.one (fenced_calm hb hroom rfl) Js) (StepsIn.trans harr (.one (fenced_calm hb hroom rfl) S3))⟩
  | exit id =>
   have hx:∀ id (k:List Item),exitTo id (Item.inScope c :: k)=exitTo id k:=fun id k=>by simp[exitTo]
   exact ⟨.exit id,a₁,w₁,hq,.of_steps (.one (fenced_calm hb hroom rfl) Js) ⟨fun k' hk=>harr.1 k' (by rw[hx];exact hk),fun hr hk=>harr.2 hr (by rw[hx];exact hk)⟩⟩
  | ret=>exact ⟨.ret,a₁,w₁,hq,.of_steps (.one (fenced_calm hb hroom rfl) Js) harr⟩
  | goto l=>exact hq.elim
  | panic ch=>exact hq.elim
  | outgrown=>exact hq.elim
 | goto l=>exact fun Q s h=>h
 | refuse why=>exact fun Q s h=>h
def calmOp:Op->Bool
 | .alloc _ | .box .. | .store .. | .makeSlice .. | .mapUpdate .. | .mapEntry .. | .entryStore .. | .makeMap .. | .insert .. | .next .. | .range ..=>false
 | .call { callee:=.builtin .append,.. }=>false
 | .call { callee:=.builtin .delete,.. }=>false
 | _=>true
def Jd9:List Oper->Bool
 | []=>true
 | o :: l=>match calmOp o.op with
  | true=>Jd9 l
  | false=>false
theorem Ah {id:Nat} {ops:Array Oper} {Q:Ex->St->Prop} {s:St} (hm:X.P.follows .mixedOrders=true) (_:Jd9 ops.toList=true) (hB:Region.lexB .any ops=true) (h:Jf X (ops.toList.map (·.dst)) ops.toList (Q .normal) s):SWP X ro (.region id ops true) Q s :=
 fun Γ a w hG hr=>Xt hG.1 hm hB (K:=Q .normal) (Q:=QQ Γ Q) (fun s _ _ h1 h2=>⟨s,h1,h2⟩) hr h
inductive Ord where
 | leaf
 | nil
 | bad
 | node (i:Nat) (sub next:Ord)
def P6 (ops:Array Oper):Nat->Array Bool->Ord
 | 0,listed=>match Region.ready .any ops listed with
  | []=>.leaf
  | _=>.bad
 | f+1,listed=>match Region.ready .any ops listed with
  | []=>.leaf
  | is=>is.foldr (fun i acc=>.node i (P6 ops f (listed.setIfInBounds i true)) acc) .nil
def lAt (X:Cx) (ds:List (Option Tmp)) (ops:List Oper) (i:Nat) (C:St->Prop) (s:St):Prop :=
 match ops[i]? with
 | some o=>F4 ds o.guard (lop X o C) (F9 o.dst C) s
 | none=>False
def lOrd (X:Cx) (ds:List (Option Tmp)) (ops:List Oper) (K:St->Prop):Ord->St->Prop
 | .leaf,s=>K s
 | .nil,_=>True
 | .bad,_=>False
 | .node i sub next,s=>lAt X ds ops i (lOrd X ds ops K sub) s/\lOrd X ds ops K next s
theorem Uc {Γ:Base} {ops:Array Oper} {i:Nat} {C:St->Prop} {s:St} {a:Act} {w:World} {Q:Exit->Act->World->Prop} {n:Nat} (hG:Γ.G=X.G) (hr:RR Γ s a w) (h:lAt X (ops.toList.map (·.dst)) ops.toList i C s) :
  wpOpIn (F0 ro) n X.P ops Q i (fun a' w'=>∃ s',C s'/\RR Γ s' a' w') a w:=by
 unfold lAt at h;rw[Ecl] at h;unfold wpOpIn;split at h
 ·rename_i o ho;simp only[ho];obtain ⟨s',h',hc⟩:=Gb hr h;rcases hc with ⟨hA,hw⟩ | ⟨hB,hw⟩
  ·rw[if_pos (hw o rfl)];exact T5 hG h' hA
  ·rw[if_neg (by rw[hw o rfl];simp)];obtain ⟨ms,hdef,β,Im,hx⟩:=h';exact ⟨fun _ _=>trivial,_,hB,ms,Bf hdef,β,Im,hx.put o.dst H0⟩
 ·exact h.elim
def St.Le (s s':St):Prop:=∀ Γ a w,RR Γ s a w->RR Γ s' a w
theorem St.Le.refl (s:St):s.Le s:=fun _ _ _ h=>h
theorem St.Le.trans {s s' s'':St} (h:s.Le s') (k:s'.Le s''):s.Le s'':=fun Γ a w hr=>k Γ a w (h Γ a w hr)
theorem Jqg {c:Code} {Q:Ex->St->Prop} {s s':St} (hle:s.Le s') (h:SWP X ro c Q s'):SWP X ro c Q s:=fun Γ a w hG hr=>h Γ a w hG (hle Γ a w hr)
def kloop {ι:Type} (I:ι->St) (Pre:ι->Prop) (μ:ι->Nat) (x:ι) (Q:Ex->St->Prop):Ex->St->Prop
 | .normal,s=>∃ y,Pre y/\μ y<μ x/\s.Le (I y)
 | .exit id,s=>Q (.exit id) s
 | .ret,s=>Q .ret s
theorem SWP.loop {ι:Type} (I:ι->St) (Pre:ι->Prop) (μ:ι->Nat) (x0:ι) {c:Code} {Q:Ex->St->Prop} {s:St} (hs:s.Le (I x0)) (h0:Pre x0) (round:∀ x,Pre x->SWP X ro c (kloop I Pre μ x Q) (I x)) :
  SWP X ro (.loop c) Q s:=by
 intro Γ a w hG hr;have key:∀ n x,μ x=n->Pre x->∀ a w,RR Γ (I x) a w->∀ (b:Frame) (k:List Item) (cs:List Frame),b.roundOf=(F0 ro).round->(F0 ro).fn b.fn->(F0 ro).room (cs.length+1+1) ->
   ∃ e a' w',QQ Γ Q e a' w'/\ArrivesIn (Machine.fenced X.P (F0 ro)) X.P (lone (b.atR a (.code c :: .inLoop c :: k)) cs w) b k cs e a' w':=by
  intro n
  induction n using Nat.strongRecOn with
  | _ n ih =>
   intro x hn hP a w hr b k cs hro hb hroom;obtain ⟨e,a₁,w₁,hq,harr⟩:=round x hP Γ a w hG hr b (.inLoop c :: k) cs hro hb hroom;cases e with
   | normal =>
    obtain ⟨s',⟨y,hy,hlt,hle⟩,h2⟩:=hq;obtain ⟨e₂,a₂,w₂,hq₂,harr₂⟩:=ih (μ y) (hn ▸ hlt) y rfl hy a₁ w₁ (hle Γ a₁ w₁ h2) b k cs hro hb hroom;exact ⟨e₂,a₂,w₂,hq₂,.of_steps (StepsIn.trans harr (.one (fenced_calm hb hroom rfl) stepR_inLoop)) harr₂⟩
   | exit id =>
    obtain ⟨s',h1,h2⟩:=hq;exact ⟨.exit id,a₁,w₁,⟨s',h1,h2⟩,.pass (x:=.inLoop c) rfl (fun _ _=>.inl sm) harr⟩
   | ret =>
    obtain ⟨s',h1,h2⟩:=hq;exact ⟨.ret,a₁,w₁,⟨s',h1,h2⟩,.pass (x:=.inLoop c) rfl (fun _ _=>.inl sm) harr⟩
   | goto l=>exact hq.elim
   | panic ch=>exact hq.elim
   | outgrown=>exact hq.elim
 intro b k cs hro hb hroom;obtain ⟨e,a',w',hq,harr⟩:=key _ x0 rfl h0 a w (hs Γ a w hr) b k cs hro hb hroom;exact ⟨e,a',w',hq,.of_steps (.one (fenced_calm hb hroom rfl) stepR_loop) harr⟩
theorem pure?_spec {l:L} {p:PV} (h:l.pure? = some p):l=.p p:=by
 cases l<;>simp[L.pure?] at h;rw[h]
end
def LLe (l l':L):Prop:=l'=.junk\/l=l'\/(l=.p .snil/\l'=.p (.sl []))
def Aw:List L->List L->Prop
 | [],[]=>True
 | l :: r,l' :: r'=>LLe l l'/\Aw r r'
 | _,_=>False
def Jbp:List (List L)->List (List L)->Prop
 | [],[]=>True
 | e :: r,e' :: r'=>Aw e e'/\Jbp r r'
 | _,_=>False
def A3:Reg->Reg->Prop
 | .var T cs,.var T' cs'=>T=T'/\Aw cs cs'
 | .row T sz es,.row T' sz' es'=>T=T'/\sz=sz'/\es=es'
 | .row T sz es,.lrow T' sz' f es'=>T=T'/\sz=sz'/\f=false/\es'=es.map fun e=>e.map L.p
 | .lrow T sz f es,.lrow T' sz' f' es'=>T=T'/\sz=sz'/\(f'=true->f=true)/\Jbp es es'
 | .lrow T sz _ es,.row T' sz' es'=>T=T'/\sz=sz'/\Cb es=some es'
 | .obj o,.obj o'=>o=o'
 | _,_=>False
def Az (rs:Regs):Regs->Prop
 | []=>True
 | (d,r') :: rest=>(match Am d rs with | some r=>A3 r r' | none=>False)/\Az rs rest
def Ay:Regs->Prop
 | []=>True
 | (d,_) :: rest=>d ∉ rest.map (·.1)/\Ay rest
theorem Af (l:L):LLe l .junk:=.inl rfl
theorem Ai (l:L):LLe l l:=.inr (.inl rfl)
theorem Au (x y:PV):LLe (.p x) (.p y) ↔ (x=y\/(x=.snil/\y=.sl [])):=by
 simp[LLe]
theorem LLe.rep {β:Env} {w:World} {Im:Nat->Prop} {v:Value} {l l':L} (h:LLe l l') (hr:LRep β w Im v l):LRep β w Im v l':=by
 rcases h with rfl | rfl | ⟨rfl,rfl⟩
 ·trivial
 ·exact hr
 ·cases hr;exact PRep.slNil
theorem Fp:∀ {a b:List L},Aw a b->a.length=b.length/\∀ (i:Nat) (l':L),b[i]? = some l'->∃ l,a[i]? = some l/\LLe l l'
 | [],[],_=>⟨rfl,fun i l' h=>by simp at h⟩
 | x :: a,y :: b,h=>by
  obtain ⟨h1,h2⟩:=h;obtain ⟨h3,h4⟩:=Fp h2;refine ⟨by simp[h3],fun i l' hl=>?_⟩;cases i with
  | zero=>simp at hl;subst hl;exact ⟨x,rfl,h1⟩
  | succ i=>simp at hl;simpa using h4 i l' hl
 | [],_ :: _,h=>h.elim
 | _ :: _,[],h=>h.elim
theorem LLe.cell {l l':L} (h:LLe l l') (hc:l.cellOK=true\/l=.junk):l'.cellOK=true\/l'=.junk:=by
 rcases h with rfl | rfl | ⟨rfl,rfl⟩
 ·exact .inr rfl
 ·exact hc
 ·exact .inl rfl
theorem O1:∀ {a b:List (List L)},Jbp a b->a.length=b.length/\∀ (i:Nat) (e':List L),b[i]? = some e'->∃ e,a[i]? = some e/\Aw e e'
 | [],[],_=>⟨rfl,fun i l' h=>by simp at h⟩
 | x :: a,y :: b,h=>by
  obtain ⟨h1,h2⟩:=h;obtain ⟨h3,h4⟩:=O1 h2;refine ⟨by simp[h3],fun i l' hl=>?_⟩;cases i with
  | zero=>simp at hl;subst hl;exact ⟨x,rfl,h1⟩
  | succ i=>simp at hl;simpa using h4 i l' hl
 | [],_ :: _,h=>h.elim
 | _ :: _,[],h=>h.elim
theorem A3.rep {β:Env} {w:World} {Im:Nat->Prop} {d:Nat} {r r':Reg} (h:A3 r r') (hr:Ci β w Im d r):Ci β w Im d r':=by
 cases r<;>cases r'<;>simp only[A3] at h
 ·obtain ⟨rfl,h⟩:=h;obtain ⟨h1,h2⟩:=Fp h;obtain ⟨loc,cur,g1,g2,g3,g4,g5,g6⟩:=hr;refine ⟨loc,cur,g1,by rw[<- h1];exact g2,g3,g4,by rw[<- h1];exact g5,fun j v l hv hl=>?_⟩;obtain ⟨l0,hl0,hle⟩:=h2 j l hl;exact ⟨hle.rep (g6 j v l0 hv hl0).1,hle.cell (g6 j v l0 hv hl0).2⟩
 ·obtain ⟨rfl,rfl,rfl⟩:=h;exact hr
 ·obtain ⟨rfl,rfl,rfl,rfl⟩:=h;rcases hr with ⟨g1,g2⟩ | ⟨loc,cur,g1,g2,g3,g4,g5,g6,g7,g8⟩
  ·exact .inl ⟨g1,by simp[g2]⟩
  ·refine .inr ⟨loc,cur,g1,g2,g3,g4,by simpa using g5,fun h=>(by cases h),g6,fun e he=>?_,fun i e j l hi hj=>?_⟩
   ·obtain ⟨x,hx,rfl⟩:=Eap.1 he;simpa using (g7 x hx).1
   ·rw[Eam] at hi;obtain ⟨x,hx,rfl⟩:=Eal.1 hi;rw[Eam] at hj;obtain ⟨p,hp,rfl⟩:=Eal.1 hj;obtain ⟨v,hv,hpr⟩:=g8 i x j p hx hp;exact ⟨v,hv,hpr,.inl ((g7 x (Eag hx)).2 p (Eag hp))⟩
 ·obtain ⟨rfl,rfl,h⟩:=h;obtain ⟨h1,h2⟩:=Dh h;rcases hr with ⟨g1,g2⟩ | ⟨loc,cur,g1,g2,g3,g4,g5,g6,g7,g8,g9⟩
  ·subst g2;exact .inl ⟨g1,Ean (by simpa using h1.symm)⟩
  ·have key:∀ (i:Nat) (q:List PV) (j:Nat) (p:PV),‹List (List PV)›[i]? = some q->q[j]? = some p->∃ e,‹List (List L)›[i]? = some e/\e[j]? = some (.p p)/\e.length=q.length:=by
    intro i q j p hi hj;obtain ⟨e,he,ha⟩:=h2 i q hi;obtain ⟨k1,k2⟩:=Bh ha;obtain ⟨l,hl⟩:=getElem?_of_length k1 hj;have:=pure?_spec (k2 j l p hl hj);subst this;exact ⟨e,he,hl,k1⟩
   refine .inr ⟨loc,cur,g1,g2,g3,g4,by rw[<- h1];exact g5,g7,fun q hq=>?_,fun i q j p hi hj=>?_⟩
   ·obtain ⟨i,hi,rfl⟩:=Eba hq;obtain ⟨e,he,ha⟩:=h2 i _ (Eaa hi);obtain ⟨k1,k2⟩:=Bh ha;refine ⟨by rw[<- k1];exact g8 e (Eag he),fun p hp=>?_⟩;obtain ⟨j,hj,rfl⟩:=Eba hp;obtain ⟨e',he',hl',_⟩:=key i _ j _ (Eaa hi) (Eaa hj);obtain ⟨v,_,_,hc⟩:=g9 i e' j _ he' hl';rcases hc with hc | hc
    ·exact hc
    ·cases hc
   ·obtain ⟨e',he',hl',_⟩:=key i q j p hi hj;obtain ⟨v,hv,hp,_⟩:=g9 i e' j _ he' hl';exact ⟨v,hv,hp⟩
 ·obtain ⟨rfl,rfl,hf,h⟩:=h;obtain ⟨h1,h2⟩:=O1 h;rcases hr with ⟨g1,g2⟩ | ⟨loc,cur,g1,g2,g3,g4,g5,g6,g7,g8,g9⟩
  ·subst g2;exact .inl ⟨g1,Ean (by simpa using h1.symm)⟩
  ·refine .inr ⟨loc,cur,g1,g2,g3,g4,by rw[<- h1];exact g5,fun h=>by rw[<- h1];exact g6 (hf h),g7,fun q hq=>?_,fun i q j l hi hj=>?_⟩
   ·obtain ⟨i,hi,rfl⟩:=Eba hq;obtain ⟨e,he,hle⟩:=h2 i _ (Eaa hi);rw[<- (Fp hle).1];exact g8 e (Eag he)
   ·obtain ⟨e,he,hle⟩:=h2 i q hi;obtain ⟨l0,hl0,hl⟩:=(Fp hle).2 j l hj;obtain ⟨v,hv,hr,hc⟩:=g9 i e j l0 he hl0;exact ⟨v,hv,hl.rep hr,hl.cell hc⟩
 ·subst h;exact hr
theorem D3 {rs:Regs}:∀ {rs':Regs},Az rs rs'->∀ d r',(d,r')∈rs'->∃ r,(d,r)∈rs/\A3 r r'
 | [],_,d,r',h=>by cases h
 | (e,q) :: rest,h,d,r',hm=>by
  obtain ⟨h1,h2⟩:=h;rcases Eak.1 hm with hm | hm
  ·cases hm;split at h1
   ·rename_i r hr;exact ⟨r,Ax hr,h1⟩
   ·exact h1.elim
  ·exact D3 h2 d r' hm
theorem Md:∀ {rs:Regs},Ay rs->(rs.map (·.1)).Nodup
 | [],_=>.nil
 | (d,r) :: rest,h=>by simp only[Eaq,Eb5];exact ⟨h.1,Md h.2⟩
theorem Kbu {s s':St} (ht:Aw s.tmps s'.tmps) (hr:Az s.regs s'.regs) (hk:Ay s'.regs):s.Le s':=by
 rintro Γ a w ⟨ms,hdef,β,Im,hx⟩;obtain ⟨h1,h2⟩:=Fp ht;refine ⟨ms,hdef,β,Im,{ hx with fit:={ size:=by rw[<- h1];exact hx.fit.size,tmps:=fun i l hl=>?_,regs:=fun d r hd=>?_,nodup:=Md hk,live:=fun d r loc hd hl=>?_,apart:=fun d r d' r' l1 l2 hd hd' hne hl hl'=>?_,im:=hx.fit.im },regnew:=fun d r loc hd hl=>?_,marks:=fun D hD=>?_ }⟩
 ·obtain ⟨l0,hl0,hle⟩:=h2 i l hl;exact hle.rep (hx.fit.tmps i l0 hl0)
 ·obtain ⟨r0,h3,h4⟩:=D3 hr d r hd;exact h4.rep (hx.fit.regs d r0 h3)
 ·obtain ⟨r0,h3,h4⟩:=D3 hr d r hd;exact hx.fit.live d r0 loc h3 hl
 ·obtain ⟨r0,h3,_⟩:=D3 hr d r hd;obtain ⟨r1,h4,_⟩:=D3 hr d' r' hd';exact hx.fit.apart d r0 d' r1 l1 l2 h3 h4 hne hl hl'
 ·obtain ⟨r0,h3,h4⟩:=D3 hr d r hd;exact hx.regnew d r0 loc h3 hl
 ·obtain ⟨m1,m2,m3,m4⟩:=hx.marks D hD;refine ⟨m1,m2,m3,fun d r loc hd hl=>?_⟩;obtain ⟨r0,h3,_⟩:=D3 hr d r hd;exact m4 d r0 loc h3 hl
def Fb (d d' e:Nat):Option Nat:=if e=d then some d' else if e=d' then none else some e
def Eu (d d':Nat):Regs->Regs
 | []=>[]
 | (e,r) :: rest=>match Fb d d' e with
  | some n=>(n,r.map (Fb d d')) :: Eu d d' rest
  | none=>Eu d d' rest
def St.ren (d d':Nat) (s:St):St:=⟨s.tmps.map (L.map (Fb d d')),Eu d d' s.regs⟩
theorem C2 {d d' n:Nat} {q:Reg}:∀ {rs:Regs},(n,q)∈Eu d d' rs->∃ e r,(e,r)∈rs/\Fb d d' e=some n/\q=r.map (Fb d d')
 | [],h=>by cases h
 | (e,r) :: rest,h=>by
  simp only[Eu] at h;split at h
  ·rename_i m hm;rcases Eak.1 h with h | h
   ·cases h;exact ⟨e,r,Eaf,hm,rfl⟩
   ·obtain ⟨e',r',h1,h2,h3⟩:=C2 h;exact ⟨e',r',Eai _ h1,h2,h3⟩
  ·obtain ⟨e',r',h1,h2,h3⟩:=C2 h;exact ⟨e',r',Eai _ h1,h2,h3⟩
theorem Jfd {d d' e e' n:Nat} (h:Fb d d' e=some n) (h':Fb d d' e'=some n):e=e':=by
 unfold Fb at h h';split at h<;>split at h'
 ·omega
 ·split at h'<;>simp_all
 ·split at h<;>simp_all
 ·split at h<;>split at h'<;>simp_all
theorem Hj {d d':Nat}:∀ {rs:Regs},(rs.map (·.1)).Nodup->((Eu d d' rs).map (·.1)).Nodup
 | [],_=>.nil
 | (e,r) :: rest,h=>by
  simp only[Eaq,Eb5] at h;simp only[Eu];split
  ·rename_i n hn;simp only[Eaq,Eb5];refine ⟨fun hm=>?_,Hj h.2⟩;obtain ⟨⟨n',q⟩,hq,he⟩:=Eap.1 hm;simp only at he;subst he;obtain ⟨e',r',h1,h2,_⟩:=C2 hq;exact h.1 (Eap.2 ⟨(e',r'),h1,Jfd h2 hn⟩)
  ·exact Hj h.2
theorem Kav (s:St) {d d':Nat} (hd':d'<1000\/500000<=d'):s.Le (s.ren d d'):=by
 rintro Γ a w ⟨ms,hdef,β,Im,hx⟩;have hf:∀ e n,Fb d d' e=some n->Jqu β d' (β d) n=β e:=by
  intro e n h;unfold Fb at h;split at h
  ·rename_i he;subst he;cases h;exact B4
  ·split at h
   ·cases h
   ·rename_i h1 h2;cases h;exact Oa h2
 refine ⟨ms,hdef,Jqu β d' (β d),Im,{ hx with fit:={ size:=by simpa[St.ren] using hx.fit.size,tmps:=fun i l hl=>?_,regs:=fun n q hm=>?_,nodup:=Hj hx.fit.nodup,live:=fun n q loc hm hl=>?_,apart:=fun n q n' q' l1 l2 hm hm' hne hl hl'=>?_,im:=hx.fit.im },regnew:=fun n q loc hm hl=>?_,fixed:=fun e he he'=>by rw[Oa omg];exact hx.fixed e he he',marks:=fun D hD=>?_ }⟩
 ·simp only[St.ren,Eam] at hl;obtain ⟨l1,hl1,rfl⟩:=Eal.1 hl;exact (hx.fit.tmps i l1 hl1).map hf
 ·obtain ⟨e,r,h1,h2,rfl⟩:=C2 hm;exact (hx.fit.regs e r h1).map hf (hf e n h2)
 ·obtain ⟨e,r,h1,h2,rfl⟩:=C2 hm;rw[hf e n h2] at hl;exact hx.fit.live e r loc h1 hl
 ·obtain ⟨e,r,h1,h2,rfl⟩:=C2 hm;obtain ⟨e',r',k1,k2,rfl⟩:=C2 hm';rw[hf e n h2] at hl;rw[hf e' n' k2] at hl';exact hx.fit.apart e r e' r' l1 l2 h1 k1 (fun hc=>hne (by subst hc;rw[h2] at k2;exact Ebd k2)) hl hl'
 ·obtain ⟨e,r,h1,h2,rfl⟩:=C2 hm;rw[hf e n h2] at hl;exact hx.regnew e r loc h1 hl
 ·obtain ⟨m1,m2,m3,m4⟩:=hx.marks D hD;refine ⟨m1,m2,m3,fun n q loc hm hl=>?_⟩;obtain ⟨e,r,h1,h2,rfl⟩:=C2 hm;rw[hf e n h2] at hl;exact m4 e r loc h1 hl
def St.nilReg (d:Nat) (T:TypeId) (sz:Nat) (s:St):St:=⟨s.tmps.map (L.forget d),(d,.row T sz []) :: Cv d s.regs⟩
theorem RRx.nilReg {Γ:Base} {β:Env} {Im:Nat->Prop} {s:St} {tmps:Array Value} {w:World} (h:RRx Γ β Im s tmps w) {d:Nat} (hd:d<1000\/500000<=d) (T:TypeId) (sz:Nat):RRx Γ (Jqu β d none) Im (s.nilReg d T sz) tmps w:=by
 have hβ:∀ e,e≠d->Jqu β d none e=β e:=fun e he=>Oa he
 have h2:=h.fit.forget (d:=d) hβ;refine { h with fit:={ h2 with regs:=fun e q hq=>?_,nodup:=?_,live:=fun e q loc hq hl=>?_,apart:=fun e q e' q' loc loc' hq hq' hne hl hl'=>?_ },regnew:=fun e q loc hq hl=>?_,fixed:=fun e he he'=>by rw[hβ e omg];exact h.fixed e he he',marks:=fun D hD=>?_ }
 ·rcases Eak.1 hq with hq | hq
  ·cases hq;exact .inl ⟨B4,rfl⟩
  ·exact h2.regs e q hq
 ·simp only[St.nilReg,Eaq,Eb5];refine ⟨fun hm=>?_,h2.nodup⟩;obtain ⟨⟨e,q⟩,hq,he⟩:=Eap.1 hm;exact (Bn hq).1 he
 ·rcases Eak.1 hq with hq | hq
  ·cases hq;rw[B4] at hl;cases hl
  ·exact h2.live e q loc hq hl
 ·rcases Eak.1 hq with hq | hq
  ·cases hq;rw[B4] at hl;cases hl
  ·rcases Eak.1 hq' with hq' | hq'
   ·cases hq';rw[B4] at hl';cases hl'
   ·exact h2.apart e q e' q' loc loc' hq hq' hne hl hl'
 ·rcases Eak.1 hq with hq | hq
  ·cases hq;rw[B4] at hl;cases hl
  ·obtain ⟨h3,q',h4,rfl⟩:=Bn hq;rw[hβ e h3] at hl;exact h.regnew e q' loc h4 hl
 ·obtain ⟨m1,m2,m3,m4⟩:=h.marks D hD;refine ⟨m1,m2,m3,fun e q loc hq hl=>?_⟩;rcases Eak.1 hq with hq | hq
  ·cases hq;rw[B4] at hl;cases hl
  ·obtain ⟨h3,q',h4,rfl⟩:=Bn hq;rw[hβ e h3] at hl;exact m4 e q' loc h4 hl
def St.nilOwn (i d:Nat) (T:TypeId) (sz:Nat) (s:St):St:=(s.nilReg d T sz).put (some i) (.own d 0 0)
theorem Jrw (s:St) {i d:Nat} (T:TypeId) (sz:Nat) (hd:d<1000\/500000<=d) (hi:s.tmps[i]? = some (.p .snil)):s.Le (s.nilOwn i d T sz):=by
 rintro Γ a w ⟨ms,hdef,β,Im,hx⟩;have h1:=hx.nilReg hd T sz;have hrep:=hx.fit.tmps i _ hi;have hlt:=(Eab.1 hi).1;have hv:a.tmps.getD i undef=.slice none 0 0:=by generalize a.tmps.getD i undef=v at hrep;cases hrep;rfl
 have h2:RRx (Γ.wm ms) (Jqu β d none) Im (s.nilOwn i d T sz) (a.put (some i) (.slice none 0 0)).tmps w:=h1.put (some i) (l:=.own d 0 0) (.inr ⟨B4,rfl,rfl,rfl⟩);have e:(a.put (some i) (.slice none 0 0)).tmps=a.tmps:=by
  simp only[Act.put];have hsz:i<a.tmps.size:=by rw[hx.fit.size];exact hlt
  have:a.tmps[i]=.slice none 0 0:=by rw[<- hv];simp[Eav,hsz]
  rw[<- Ebt];simp only[Array.toList_setIfInBounds];rw[<- this];exact List.set_getElem_self (by simpa using hsz)
 rw[e] at h2;exact ⟨ms,hdef,_,_,h2⟩
def Ms (j:Nat) (l:L):Reg->Reg
 | .var T cs=>.var T (cs.set j l)
 | r=>r
def St.nilCell (b j d:Nat) (T:TypeId) (sz:Nat) (s:St):St :=
 match Am b (s.nilReg d T sz).regs with
 | some r=>{ (s.nilReg d T sz) with regs:=Bs b (Ms j (.own d 0 0) r) (s.nilReg d T sz).regs }
 | none=>s.nilReg d T sz
theorem Jq2 (s:St) {b j d:Nat} (T:TypeId) (sz:Nat) (hd:d<1000\/500000<=d) {T':TypeId} {cs:List L} (hb:Am b (s.nilReg d T sz).regs=some (.var T' cs)) (hj:cs[j]? = some (.p .snil)):s.Le (s.nilCell b j d T sz):=by
 rintro Γ a w ⟨ms,hdef,β,Im,hx⟩;have h1:=hx.nilReg hd T sz;have hmem:=Ax hb;obtain ⟨loc,cur,g1,g2,g3,g4,g5,g6⟩:=h1.fit.regs b _ hmem;have hreg:Ci (Jqu β d none) w Im b (.var T' (cs.set j (.own d 0 0))):=by
  refine ⟨loc,cur,g1,by simpa using g2,g3,g4,by simpa using g5,fun k v l hv hl=>?_⟩;rw[Ebr] at hl;split at hl
  ·rename_i hk;subst hk;split at hl
   ·cases hl;obtain ⟨h3,_⟩:=g6 j v _ hv hj;refine ⟨?_,.inl rfl⟩;have h3':PRep w Im v .snil:=h3;cases h3';exact .inr ⟨B4,rfl,rfl,rfl⟩
   ·cases hl
  ·exact g6 k v l hv hl
 refine ⟨ms,hdef,Jqu β d none,Im,?_⟩;have:=h1.store hmem g1 (w':=w) rfl rfl rfl rfl (fun _ _=>rfl) hreg;simp only[St.nilCell,hb,Ms];exact this
theorem Jty (s:St) {d:Nat}:s.Le (s.freeze d):=by
 rintro Γ a w ⟨ms,hdef,β,Im,hx⟩;obtain ⟨Im',h⟩:=hx.freeze d;exact ⟨ms,hdef,β,Im',h⟩
def cvF (P:Program) (a b:TypeId) (x:Operand) (dst:Option Tmp) (K:St->Prop) (s:St):Prop:=if Ju3 P a=true then J2z P b (s.get x) (kput dst K s) else J1 P a b (s.get x) (kput dst K s)
def cvG (P:Program) (a b:TypeId) (s:St) (x:Operand) (dst:Option Tmp) (K:St->Prop) (l:L):Prop :=
 match l with
 | .ptr d 0 j=>L6 P a b d j (Am d s.regs) (kput dst K s)
 | .p (.str u)=>Og P a b u s dst K
 | _=>cvF P a b x dst K (s.freezeOps [x])
def lnil (l:L) (K:L->Prop):Prop :=
 match l with
 | .ptr d i j=>K (.ptr d i j)
 | .eptr cs=>K (.eptr cs)
 | .fn f ds=>K (.fn f ds)
 | _=>False
def Qk (l:L) (i:Nat) (K:L->Prop):Prop :=
 match l with
 | .tup xs=>∃ c,xs[i]? = some c/\K (.p c)
 | _=>False
def Jc0 (l a b:L) (K:L->Prop):Prop :=
 match l with
 | .p (.bool t)=>(t=true->K a)/\(t=false->K b)
 | _=>False
def Bi (X:Cx) (f:FuncId) (args:List L) (K:L->Prop):Prop:=∃ l,(Al X f args [] (fun m _=>m=l)/\l.retOK=true)/\K l
def lqvK (P:Program) (r:Regs) (s:St) (op:Op) (K:L->Prop):Prop:=∃ l,lqv P r s.get op l/\K l
section
variable {X:Cx} {ro:Option Nat} {Q:Ex->St->Prop} {K:St->Prop} {t:List L} {r:Regs} {ds:List (Option Tmp)} {rest:List Oper} {ty:TypeId} {ps:String} {af:Array Edge} {dst:Option Tmp}
theorem Jp7 {c:Code}:lwp X ro (.scope c) Q ⟨t,r⟩=lwp X ro c Q ⟨t,r⟩:=(rfl)
theorem e_skip:lwp X ro .skip Q ⟨t,r⟩=Q .normal ⟨t,r⟩:=(rfl)
theorem Jid {id:Nat} {ops:Array Oper}:lwp X ro (.region id ops false) Q ⟨t,r⟩=lops X (ops.toList.map (·.dst)) ops.toList (Q .normal) ⟨t,r⟩:=(rfl)
theorem e_seq {a b:Code}:lwp X ro (a.seq b) Q ⟨t,r⟩=lwp X ro a (kseq (lwp X ro b) Q) ⟨t,r⟩:=(rfl)
theorem e_cond {c:Operand} {a b:Code}:lwp X ro (.cond c a b) Q ⟨t,r⟩=O0 ((St.mk t r).get c) (lwp X ro a Q) (lwp X ro b Q) ⟨t,r⟩:=(rfl)
theorem Jpi {id:Nat} {c:Code}:lwp X ro (.block id c) Q ⟨t,r⟩=lwp X ro c (Nq id Q) ⟨t,r⟩:=(rfl)
theorem e_loop {c:Code}:lwp X ro (.loop c) Q ⟨t,r⟩=SWP X ro (.loop c) Q ⟨t,r⟩:=(rfl)
theorem e_exit {id:Nat}:lwp X ro (.exit id) Q ⟨t,r⟩=Q (.exit id) ⟨t,r⟩:=(rfl)
theorem e_ret:lwp X ro .ret Q ⟨t,r⟩=Q .ret ⟨t,r⟩:=(rfl)
theorem Jng {l:Nat}:lwp X ro (.label l) Q ⟨t,r⟩=Q .normal ⟨t,r⟩:=(rfl)
theorem Wj {B:(Ex->St->Prop)->St->Prop}:kseq B Q .normal ⟨t,r⟩=B Q ⟨t,r⟩:=(rfl)
theorem Jaq {B:(Ex->St->Prop)->St->Prop} {id:Nat}:kseq B Q (.exit id) ⟨t,r⟩=Q (.exit id) ⟨t,r⟩:=(rfl)
theorem Jf3 {B:(Ex->St->Prop)->St->Prop}:kseq B Q .ret ⟨t,r⟩=Q .ret ⟨t,r⟩:=(rfl)
theorem Qz {id:Nat}:Nq id Q .normal ⟨t,r⟩=Q .normal ⟨t,r⟩:=(rfl)
theorem Vo {id id':Nat}:Nq id Q (.exit id') ⟨t,r⟩=if id'=id then Q .normal ⟨t,r⟩ else Q (.exit id') ⟨t,r⟩:=(rfl)
theorem Z2 {id:Nat}:Nq id Q .ret ⟨t,r⟩=Q .ret ⟨t,r⟩:=(rfl)
theorem o_nil:lops X ds [] K ⟨t,r⟩=K ⟨t,r⟩:=(rfl)
theorem o_cons {op:Op}:lops X ds (⟨dst,op,ty,ps,af,none⟩ :: rest) K ⟨t,r⟩=lop X ⟨dst,op,ty,ps,af,none⟩ (lops X ds rest K) ⟨t,r⟩:=(rfl)
theorem Jpg {op:Op} {g:Nat×Bool}:lops X ds (⟨dst,op,ty,ps,af,some g⟩ :: rest) K ⟨t,r⟩=F4 ds (some g) (lop X ⟨dst,op,ty,ps,af,some g⟩ (lops X ds rest K)) (F9 dst (lops X ds rest K)) ⟨t,r⟩:=(rfl)
theorem q_nil:Jf X ds [] K ⟨t,r⟩=K ⟨t,r⟩:=(rfl)
theorem q_cons {op:Op}:Jf X ds (⟨dst,op,ty,ps,af,none⟩ :: rest) K ⟨t,r⟩=lqc X ⟨t,r⟩ ⟨dst,op,ty,ps,af,none⟩ (kput dst (Jf X ds rest K) ⟨t,r⟩):=(rfl)
theorem Joa {op:Op} {g:Nat×Bool}:Jf X ds (⟨dst,op,ty,ps,af,some g⟩ :: rest) K ⟨t,r⟩=F4 ds (some g) (kq X ⟨dst,op,ty,ps,af,some g⟩ (Jf X ds rest K)) (F9 dst (Jf X ds rest K)) ⟨t,r⟩:=(rfl)
theorem q_kq {o:Oper}:kq X o K ⟨t,r⟩=lqc X ⟨t,r⟩ o (kput o.dst K ⟨t,r⟩):=(rfl)
theorem k_put {d:Tmp} {l:L}:kput (some d) K ⟨t,r⟩ l=K ⟨t.set d l,r⟩:=(rfl)
theorem k_unit {d:Tmp}:F9 (some d) K ⟨t,r⟩=K ⟨t.set d (.tup []),r⟩:=(rfl)
theorem W2:F9 none K ⟨t,r⟩=K ⟨t,r⟩:=(rfl)
theorem s_put {d:Tmp} {l:L}:(St.mk t r).put (some d) l=⟨t.set d l,r⟩:=(rfl)
theorem s_tmps:(St.mk t r).tmps=t:=(rfl)
theorem s_regs:(St.mk t r).regs=r:=(rfl)
theorem s_tmp {i:Nat}:(St.mk t r).get (.tmp i)=t.getD i .junk:=(rfl)
theorem Jm9 {v:Value}:(St.mk t r).get (.const v)=G6 v:=(rfl)
theorem s_func {f:FuncId}:(St.mk t r).get (.func f)=.fn f []:=(rfl)
theorem v_bool {b:Bool}:G6 (.bool b)=.p (.bool b):=(rfl)
theorem v_int {k:IntKind} {n:Int}:G6 (.int k n)=.p (.int k n):=(rfl)
theorem v_str {a:Array UInt8}:G6 (.string ⟨a⟩)=.p (.str a.toList):=(rfl)
theorem v_snil:G6 (.slice none 0 0)=.p .snil:=(rfl)
theorem v_nptr:G6 (.pointer none)=.p .nptr:=(rfl)
theorem v_nmap:G6 (.map none)=.p .nmap:=(rfl)
theorem v_nifc:G6 .nilIface=.p .nifc:=(rfl)
theorem v_nfn:G6 .nilFunc=.p .nfn:=(rfl)
variable {g:Option (Nat×Bool)} {d:Tmp}
theorem p_move {x:Operand}:lop X ⟨dst,.move x,ty,ps,af,g⟩ K ⟨t,r⟩=kput dst K ⟨t,r⟩ ((St.mk t r).get x):=by cases dst<;>exact (rfl)
theorem Jl2 {x:Operand}:lop X ⟨dst,.assign x,ty,ps,af,g⟩ K ⟨t,r⟩=kput dst K ⟨t,r⟩ ((St.mk t r).get x):=by cases dst<;>exact (rfl)
theorem p_bin {op:BinOp} {tx ty':TypeId} {x y:Operand}:lop X ⟨dst,.binOp op tx x y ty',ty,ps,af,g⟩ K ⟨t,r⟩=lbin X.P op tx (D8 x || D8 y) ((St.mk t r).get x) ((St.mk t r).get y) (kput dst K ⟨t,r⟩):=by cases dst<;>exact (rfl)
theorem p_un {op:UnOp} {tx:TypeId} {x:Operand}:lop X ⟨dst,.unOp op tx x,ty,ps,af,g⟩ K ⟨t,r⟩=lun op ((St.mk t r).get x) (kput dst K ⟨t,r⟩):=by cases dst<;>exact (rfl)
theorem p_conv {a b:TypeId} {x:Operand}:lop X ⟨dst,.convert a b x,ty,ps,af,g⟩ K ⟨t,r⟩=cvG X.P a b ⟨t,r⟩ x dst K ((St.mk t r).get x):=by cases dst<;>exact (rfl)
theorem p_pick {c a b:Operand}:lop X ⟨dst,.pick c a b,ty,ps,af,g⟩ K ⟨t,r⟩=Jc0 ((St.mk t r).get c) ((St.mk t r).get a) ((St.mk t r).get b) (kput dst K ⟨t,r⟩):=by cases dst<;>exact (rfl)
theorem p_nil {x:Operand}:lop X ⟨dst,.nilCheck x,ty,ps,af,g⟩ K ⟨t,r⟩=lnil ((St.mk t r).get x) (kput dst K ⟨t,r⟩):=by cases dst<;>exact (rfl)
theorem p_load {tx:TypeId} {x:Operand}:lop X ⟨dst,.load tx x,ty,ps,af,g⟩ K ⟨t,r⟩=Jc X.P r tx ((St.mk t r).get x) (kput dst K ⟨t,r⟩):=by cases dst<;>exact (rfl)
theorem Jnh {tx:TypeId} {a x:Operand}:lop X ⟨dst,.store tx a x,ty,ps,af,g⟩ K ⟨t,r⟩=Nv X.P tx ⟨t,r⟩ a x (F9 dst K):=by cases dst<;>exact (rfl)
theorem Xg {tx:TypeId} {x:Operand} {f:Nat}:lop X ⟨dst,.fieldAddr tx x f,ty,ps,af,g⟩ K ⟨t,r⟩=Kj5 X.P tx ((St.mk t r).get x) f (kput dst K ⟨t,r⟩):=by cases dst<;>exact (rfl)
theorem Yf {tx:TypeId} {x i:Operand}:lop X ⟨dst,.indexAddr tx x i,ty,ps,af,g⟩ K ⟨t,r⟩=Dg X.P r tx ((St.mk t r).get x) ((St.mk t r).get i) (kput dst K ⟨t,r⟩):=by cases dst<;>exact (rfl)
theorem Jnn {tx:TypeId} {x i:Operand}:lop X ⟨dst,.index tx x i,ty,ps,af,g⟩ K ⟨t,r⟩=Ix X.P tx ((St.mk t r).get x) ((St.mk t r).get i) (kput dst K ⟨t,r⟩):=by cases dst<;>exact (rfl)
def slG (P:Program) (o:Oper) (tx:TypeId) (x:Operand) (lo hi:Option Operand) (dst:Option Tmp) (K:St->Prop) (s:St) (l:L):Prop :=
 match l with
 | .ptr d 0 0=>larr P tx s d lo hi (kput dst K) (Am d s.regs)
 | _=>G2 P s.regs tx s.get x lo hi none (kput dst K s)
theorem Jpn {tx:TypeId} {x:Operand} {lo hi:Option Operand}:lop X ⟨dst,.slice tx x lo hi none,ty,ps,af,g⟩ K ⟨t,r⟩=slG X.P ⟨dst,.slice tx x lo hi none,ty,ps,af,g⟩ tx x lo hi dst K ⟨t,r⟩ ((St.mk t r).get x):=by cases dst<;>exact (rfl)
theorem Jf5 {x:Operand} {i:Nat}:lop X ⟨dst,.extract x i,ty,ps,af,g⟩ K ⟨t,r⟩=Qk ((St.mk t r).get x) i (kput dst K ⟨t,r⟩):=by cases dst<;>exact (rfl)
theorem Jm5 {tx:TypeId} {pt:Array (Nat×Operand)}:lop X ⟨dst,.build tx pt,ty,ps,af,g⟩ K ⟨t,r⟩=Vf X.P tx (pt.toList.map fun (i,x)=>(i,(St.mk t r).get x)) (kput dst K ⟨t,r⟩):=by cases dst<;>exact (rfl)
theorem Jb7 {f:FuncId} {caps:Array Operand}:lop X ⟨dst,.makeFunc (.func f) #[] caps,ty,ps,af,g⟩ K ⟨t,r⟩=Jmn f (caps.toList.map (St.mk t r).get) (kput dst K ⟨t,r⟩):=by cases dst<;>simp only[lop,lq,true_and]
theorem p_len {x:Operand} {tx:TypeId}:lop X ⟨dst,.call { callee:=.builtin .len,args:=#[x],argTypes:=#[tx] },ty,ps,af,g⟩ K ⟨t,r⟩=llen X.P tx ((St.mk t r).get x) (kput dst K ⟨t,r⟩):=by cases dst<;>exact (rfl)
theorem p_max {args:Array Operand} {ats:Array TypeId}:lop X ⟨dst,.call { callee:=.builtin .max,args:=args,argTypes:=ats },ty,ps,af,g⟩ K ⟨t,r⟩=Fj true (args.toList.map (St.mk t r).get) (kput dst K ⟨t,r⟩):=by cases dst<;>exact (rfl)
theorem p_min {args:Array Operand} {ats:Array TypeId}:lop X ⟨dst,.call { callee:=.builtin .min,args:=args,argTypes:=ats },ty,ps,af,g⟩ K ⟨t,r⟩=Fj false (args.toList.map (St.mk t r).get) (kput dst K ⟨t,r⟩):=by cases dst<;>exact (rfl)
theorem Jn4 {T:TypeId}:lop X ⟨some d,.alloc T,ty,ps,af,g⟩ K ⟨t,r⟩=Wg X.P d T ⟨t,r⟩ K:=(rfl)
theorem p_box {T:TypeId} {x:Operand}:lop X ⟨some d,.box T x,ty,ps,af,g⟩ K ⟨t,r⟩=lbox d T ⟨t,r⟩ x K:=(rfl)
theorem V7 {tx:TypeId} {n:Nat} {pt:Array (Nat×Operand)}:lop X ⟨some d,.buildSlice tx n pt,ty,ps,af,g⟩ K ⟨t,r⟩=(if X.keep tx=true then n=pt.toList.length/\Jvj X.P d tx ⟨t,r⟩ pt.toList K else Fo X.P d tx n ⟨t,r⟩ pt.toList K):=(rfl)
theorem Yp {tx:TypeId} {l c:Operand}:lop X ⟨some d,.makeSlice tx l c,ty,ps,af,g⟩ K ⟨t,r⟩=Gl X.P d tx ⟨t,r⟩ l c K:=(rfl)
theorem p_copy {x y:Operand} {t1 t2:TypeId}:lop X ⟨dst,.call { callee:=.builtin .copy,args:=#[x,y],argTypes:=#[t1,t2] },ty,ps,af,g⟩ K ⟨t,r⟩=Tv X.P t1 t2 ⟨t,r⟩ x y (kput dst K):=(rfl)
theorem Jms {x y:Operand} {t1 t2:TypeId}:lop X ⟨some d,.call { callee:=.builtin .append,args:=#[x,y],argTypes:=#[t1,t2] },ty,ps,af,g⟩ K ⟨t,r⟩=(if X.keep t1=true then t2=t1/\Jxb X.P d t1 ⟨t,r⟩ x y K else Kk X.P d t1 t2 ⟨t,r⟩ x y K):=(rfl)
theorem p_call {f:Operand} {args:Array Operand} {ats:Array TypeId}:lop X ⟨dst,.call { callee:=.value f,args:=args,argTypes:=ats },ty,ps,af,g⟩ K ⟨t,r⟩=Jc1 X ⟨t,r⟩ f args.toList dst K:=by cases dst<;>exact (rfl)
theorem Jgq {tx:TypeId}:lop X ⟨some d,.makeMap tx none,ty,ps,af,g⟩ K ⟨t,r⟩=Mk d ⟨t,r⟩ K:=(rfl)
theorem Jp6 {tx:TypeId} {x:Operand}:lop X ⟨some d,.range tx x,ty,ps,af,g⟩ K ⟨t,r⟩=Wr X.P d tx ⟨t,r⟩ x K:=(rfl)
theorem p_next {it:Operand} {b:Bool}:lop X ⟨dst,.next it b,ty,ps,af,g⟩ K ⟨t,r⟩=Wv ⟨t,r⟩ it b (kput dst K):=by cases dst<;>exact (rfl)
theorem Jn8 {it:Operand}:lop X ⟨dst,.entry it,ty,ps,af,g⟩ K ⟨t,r⟩=Ri ⟨t,r⟩ it (kput dst K ⟨t,r⟩):=by cases dst<;>exact (rfl)
theorem Zf {tx:TypeId} {m k v:Operand}:lop X ⟨dst,.mapUpdate tx m k v,ty,ps,af,g⟩ K ⟨t,r⟩=Dq X.P tx ⟨t,r⟩ m k v (F9 dst K):=by cases dst<;>exact (rfl)
theorem Ji2 {tx:TypeId} {m k v:Operand}:lop X ⟨dst,.insert tx m k v,ty,ps,af,g⟩ K ⟨t,r⟩=Dq X.P tx ⟨t,r⟩ m k v (F9 dst K):=by cases dst<;>exact (rfl)
theorem Jkk {m k:Operand} {t1 t2:TypeId}:lop X ⟨dst,.call { callee:=.builtin .delete,args:=#[m,k],argTypes:=#[t1,t2] },ty,ps,af,g⟩ K ⟨t,r⟩=Kq X.P t1 ⟨t,r⟩ m k (F9 dst K):=by cases dst<;>exact (rfl)
def usR (P:Program) (o:Option TypeDesc) (d:Nat) (n:Int) (s:St) (N:St->L->Prop) (q:Option Reg):Prop :=
 match q with
 | some (.row T 1 es)=>o=some (.pointer T)/\P.cellsOf T=1/\∃ bs,Cw es=some bs/\n=bs.length/\bs≠[]/\bs.length<=9223372036854775807/\N (s.forget d) (.p (.str bs))
 | _=>False
def usT (P:Program) (o:Option TypeDesc) (d:Nat) (s:St) (N:St->L->Prop) (ly:L):Prop :=
 match ly with
 | .p (.int .i64 n)=>usR P o d n s N (Am d s.regs)
 | _=>False
def Jd1 (X:Cx) (t1:TypeId) (dst:Option Tmp) (y:Operand) (K:St->Prop) (s:St) (l:L):Prop :=
 match l with
 | .p .nptr=>(∃ k,s.get y=.p (.int k 0))/\K (s.put dst (.p (.str [])))
 | .ptr d 0 0=>usT X.P (X.P.underlying t1) d s (kput dst K) (s.get y)
 | _=>False
theorem p_ustr {x y:Operand} {t1 t2:TypeId}:lop X ⟨dst,.call { callee:=.builtin .unsafeString,args:=#[x,y],argTypes:=#[t1,t2] },ty,ps,af,g⟩ K ⟨t,r⟩=Jd1 X t1 dst y K ⟨t,r⟩ ((St.mk t r).get x):=by
 have h:lop X ⟨dst,.call { callee:=.builtin .unsafeString,args:=#[x,y],argTypes:=#[t1,t2] },ty,ps,af,g⟩ K ⟨t,r⟩=Jd6 X ⟨dst,.call { callee:=.builtin .unsafeString,args:=#[x,y],argTypes:=#[t1,t2] },ty,ps,af,g⟩ dst [x,y] [t1,t2] ⟨t,r⟩ K:=by cases dst<;>exact (rfl)
 rw[h];unfold Jd6 Jd1;simp only;split
 ·rename_i hx;rw[hx];apply propext;constructor
  ·rintro ⟨l,⟨_,h1,rfl⟩,hK⟩;exact ⟨h1,hK⟩
  ·rintro ⟨h1,hK⟩;exact ⟨_,⟨hx,h1,rfl⟩,hK⟩
 ·rename_i hx;split
  ·rename_i hy;exact absurd hy hx
  ·rename_i d hy;unfold Gn usT usR;rw[hy];cases hq:(St.mk t r).get y with
   | p v =>
    cases v with
    | int k n=>cases k<;>rfl
    | _=>rfl
   | _=>rfl
  ·rename_i h1 h2;unfold Gn;cases hq:(St.mk t r).get x with
   | ptr d i j =>
    cases i with
    | zero=>cases j with
     | zero=>exact absurd hq (h2 d)
     | succ j=>rfl
    | succ i=>rfl
   | _=>rfl
theorem Jpz {tx:TypeId} {x:Operand}:lop X ⟨dst,.makeInterface tx x,ty,ps,af,g⟩ K ⟨t,r⟩=lqvK X.P r ⟨t,r⟩ (.makeInterface tx x) (kput dst K ⟨t,r⟩):=by cases dst<;>exact (rfl)
theorem Ji3 {tx:TypeId} {x i:Operand} {b:Bool}:lop X ⟨dst,.lookup tx x i b,ty,ps,af,g⟩ K ⟨t,r⟩=lqvK X.P r ⟨t,r⟩ (.lookup tx x i b) (kput dst K ⟨t,r⟩):=by cases dst<;>exact (rfl)
theorem p_cap {x:Operand} {tx:TypeId}:lop X ⟨dst,.call { callee:=.builtin .cap,args:=#[x],argTypes:=#[tx] },ty,ps,af,g⟩ K ⟨t,r⟩=lqvK X.P r ⟨t,r⟩ (.call { callee:=.builtin .cap,args:=#[x],argTypes:=#[tx] }) (kput dst K ⟨t,r⟩):=by cases dst<;>exact (rfl)
variable {C:L->Prop}
theorem q_move {x:Operand}:lqc X ⟨t,r⟩ ⟨dst,.move x,ty,ps,af,g⟩ C=C ((St.mk t r).get x):=(rfl)
theorem Ji7 {x:Operand}:lqc X ⟨t,r⟩ ⟨dst,.assign x,ty,ps,af,g⟩ C=C ((St.mk t r).get x):=(rfl)
theorem q_bin {op:BinOp} {tx ty':TypeId} {x y:Operand}:lqc X ⟨t,r⟩ ⟨dst,.binOp op tx x y ty',ty,ps,af,g⟩ C=lbin X.P op tx (D8 x || D8 y) ((St.mk t r).get x) ((St.mk t r).get y) C:=(rfl)
theorem q_un {op:UnOp} {tx:TypeId} {x:Operand}:lqc X ⟨t,r⟩ ⟨dst,.unOp op tx x,ty,ps,af,g⟩ C=lun op ((St.mk t r).get x) C:=(rfl)
theorem q_pick {c a b:Operand}:lqc X ⟨t,r⟩ ⟨dst,.pick c a b,ty,ps,af,g⟩ C=Jc0 ((St.mk t r).get c) ((St.mk t r).get a) ((St.mk t r).get b) C:=(rfl)
theorem Jb4 {x:Operand}:lqc X ⟨t,r⟩ ⟨dst,.nilCheck x,ty,ps,af,g⟩ C=lnil ((St.mk t r).get x) C:=(rfl)
theorem q_load {tx:TypeId} {x:Operand}:lqc X ⟨t,r⟩ ⟨dst,.load tx x,ty,ps,af,g⟩ C=Jc X.P r tx ((St.mk t r).get x) C:=(rfl)
theorem Za {tx:TypeId} {x:Operand} {f:Nat}:lqc X ⟨t,r⟩ ⟨dst,.fieldAddr tx x f,ty,ps,af,g⟩ C=Kj5 X.P tx ((St.mk t r).get x) f C:=(rfl)
theorem W3 {tx:TypeId} {x i:Operand}:lqc X ⟨t,r⟩ ⟨dst,.indexAddr tx x i,ty,ps,af,g⟩ C=Dg X.P r tx ((St.mk t r).get x) ((St.mk t r).get i) C:=(rfl)
theorem Jp9 {tx:TypeId} {x i:Operand}:lqc X ⟨t,r⟩ ⟨dst,.index tx x i,ty,ps,af,g⟩ C=Ix X.P tx ((St.mk t r).get x) ((St.mk t r).get i) C:=(rfl)
theorem Jo0 {tx:TypeId} {x:Operand} {lo hi mx:Option Operand}:lqc X ⟨t,r⟩ ⟨dst,.slice tx x lo hi mx,ty,ps,af,g⟩ C=G2 X.P r tx (St.mk t r).get x lo hi mx C:=(rfl)
theorem Jhf {x:Operand} {i:Nat}:lqc X ⟨t,r⟩ ⟨dst,.extract x i,ty,ps,af,g⟩ C=Qk ((St.mk t r).get x) i C:=(rfl)
theorem Kl2 {tx:TypeId} {pt:Array (Nat×Operand)}:lqc X ⟨t,r⟩ ⟨dst,.build tx pt,ty,ps,af,g⟩ C=Vf X.P tx (pt.toList.map fun (i,x)=>(i,(St.mk t r).get x)) C:=(rfl)
theorem q_len {x:Operand} {tx:TypeId}:lqc X ⟨t,r⟩ ⟨dst,.call { callee:=.builtin .len,args:=#[x],argTypes:=#[tx] },ty,ps,af,g⟩ C=llen X.P tx ((St.mk t r).get x) C:=(rfl)
theorem J6w {tx:TypeId} {n:Nat} {pt:Array (Nat×Operand)}:lqc X ⟨t,r⟩ ⟨dst,.buildSlice tx n pt,ty,ps,af,g⟩ C=lqbs X.P ⟨t,r⟩ tx n pt.toList C:=(rfl)
theorem Jmo {tx:TypeId} {x i:Operand} {b:Bool}:lqc X ⟨t,r⟩ ⟨dst,.lookup tx x i b,ty,ps,af,g⟩ C=lqvK X.P r ⟨t,r⟩ (.lookup tx x i b) C:=(rfl)
theorem q_usd {x:Operand} {tx:TypeId}:lqc X ⟨t,r⟩ ⟨dst,.call { callee:=.builtin .unsafeSliceData,args:=#[x],argTypes:=#[tx] },ty,ps,af,g⟩ C=lqvK X.P r ⟨t,r⟩ (.call { callee:=.builtin .unsafeSliceData,args:=#[x],argTypes:=#[tx] }) C:=(rfl)
theorem q_call {f:FuncId} {args:Array Operand} {ats:Array TypeId}:lqc X ⟨t,r⟩ ⟨dst,.call { callee:=.value (.func f),args:=args,argTypes:=ats },ty,ps,af,g⟩ C=Bi X f (args.toList.map (St.mk t r).get) C:=(rfl)
end
def Det (X:Cx) (f:FuncId) (args:List L) (rs:Regs) (l:L) (rs':Regs):Prop:=Al X f args rs fun m q=>m=l/\q=rs'
theorem Jqa {X:Cx} {f:FuncId} {args:List L} {rs:Regs} {l:L} {rs':Regs} {Post:L->Regs->Prop} (h:Det X f args rs l rs') (hp:Post l rs'):Al X f args rs Post :=
 h.mono fun m q ⟨h1,h2⟩=>by subst h1;subst h2;exact hp
theorem Jqb {X:Cx} {f:FuncId} {args:List L} {l:L} {C:L->Prop} (h:Det X f args [] l []) (hp:C l) (hr:l.retOK=true:=by rfl):Bi X f args C:=⟨l,⟨h.mono fun _ _ h=>h.1,hr⟩,hp⟩
theorem Jyr {X:Cx} {g:FuncId} {args:List L} {l:L} {s:St} {dst:Option Tmp} {K:St->Prop} (h:Ad X g args s.regs l) (hK:K (s.put dst l)):Jkt X g args s dst K:=⟨l,h,hK⟩
theorem J8b {X:Cx} {g:FuncId} {args:List L} {l:L} {s:St} {dst:Option Tmp} {K:St->Prop} (h:Ag X g args l) (hK:K (s.put dst l)):lext X g args s dst K:=⟨l,h,hK⟩
theorem J04 {X:Cx} {f:FuncId} {args args':List L} {rs:Regs} {Post:L->Regs->Prop} (hle:Aw args args') (h:Al X f args' rs Post):Al X f args rs Post:=by
 refine ⟨h.1,fun β Im w vs hg hf=>h.2 β Im w vs hg ?_⟩;obtain ⟨h1,h2⟩:=Fp hle;exact { hf with size:=by rw[hf.size];exact h1,tmps:=fun i l hl=>by obtain ⟨l0,hl0,hle⟩:=h2 i l hl;exact hle.rep (hf.tmps i l0 hl0) }
theorem Aa {n:Int} (h1:-9223372036854775808<=n) (h2:n<=9223372036854775807):IntKind.i64.wrap n=n:=by
 have e:IntKind.i64.wrap n=if n % 18446744073709551616 ≥ 9223372036854775808 then n % 18446744073709551616 - 18446744073709551616 else n % 18446744073709551616:=by
  simp[IntKind.wrap,IntKind.signed,IntKind.bits]
 rw[e];split<;>omega
theorem Qs {n:Int} (h1:-2147483648<=n) (h2:n<=2147483647):IntKind.i32.wrap n=n:=by
 have e:IntKind.i32.wrap n=if n % 4294967296 ≥ 2147483648 then n % 4294967296 - 4294967296 else n % 4294967296:=by
  simp[IntKind.wrap,IntKind.signed,IntKind.bits]
 rw[e];split<;>omega
theorem Be (n:Int):IntKind.u8.wrap n=n % 256:=by simp[IntKind.wrap,IntKind.signed,IntKind.bits]
theorem Ec (n:Int):IntKind.u32.wrap n=n % 4294967296:=by simp[IntKind.wrap,IntKind.signed,IntKind.bits]
theorem Ub (n:Int):IntKind.u64.wrap n=n % 18446744073709551616:=by simp[IntKind.wrap,IntKind.signed,IntKind.bits]
theorem Ab {n:Int} (h1:0<=n) (h2:n<=255):IntKind.u8.wrap n=n:=by rw[Be];omega
theorem Jlh {n:Int} (h1:0<=n) (h2:n<=4294967295):IntKind.u32.wrap n=n:=by rw[Ec];omega
theorem Mf {n:Int} (h1:0<=n) (h2:n<=18446744073709551615):IntKind.u64.wrap n=n:=by rw[Ub];omega
theorem ex_map {α γ:Type} {l:List α} {f:α->γ} {i:Nat} {Q:γ->Prop}:(∃ e,(l.map f)[i]? = some e/\Q e) = ∃ a,l[i]? = some a/\Q (f a):=by
 rw[Eam];apply propext;constructor
 ·rintro ⟨e,he,hq⟩;obtain ⟨a,ha,rfl⟩:=Eal.1 he;exact ⟨a,ha,hq⟩
 ·rintro ⟨a,ha,hq⟩;exact ⟨f a,by rw[ha];rfl,hq⟩
def Rb (K:PV->Prop) (m:L):Prop :=
 match m with
 | .p x=>K x
 | _=>False
def H4 (P:Program) (s:St):List ResultVar->(List PV->Prop)->Prop
 | [],K=>K []
 | .tmp t :: l,K=>Rb (fun x=>H4 P s l fun xs=>K (x :: xs)) (s.tmps.getD t .junk)
 | .cell t T :: l,K=>Jc P s.regs T (s.tmps.getD t .junk) (Rb fun x=>H4 P s l fun xs=>K (x :: xs))
def Gm:List ResultVar->List Operand
 | []=>[]
 | .tmp t :: l=>.tmp t :: Gm l
 | .cell _ _ :: l=>Gm l
def Sg:List PV->L
 | [x]=>.p x
 | xs=>.tup xs
def Cu:List Nat->Regs->Regs
 | [],_=>[]
 | d :: ds,rs=>match Am d rs with
  | some r=>(d,r) :: Cu ds rs
  | none=>Cu ds rs
def kres (keys:List Nat) (Post:L->Regs->Prop) (rs:Regs) (xs:List PV):Prop:=Post (Sg xs) (Cu (900 :: keys) rs)
def Jdn (keys:List Nat) (Post:L->Regs->Prop) (rs:Regs) (l:L):Prop:=Post l (Cu (900 :: keys) rs)
def lretF (P:Program) (rvs:List ResultVar) (keys:List Nat) (Post:L->Regs->Prop) (s:St):Prop :=
 H4 P (s.freezeOps (Gm rvs)) rvs (kres keys Post (s.freezeOps (Gm rvs)).regs)
def Jdm (P:Program) (rvs:List ResultVar) (keys:List Nat) (Post:L->Regs->Prop) (s:St):Prop :=
 match rvs with
 | [.tmp t]=>Jdn keys Post s.regs (s.tmps.getD t .junk)
 | [.cell t T]=>Jc P s.regs T (s.tmps.getD t .junk) (Jdn keys Post s.regs)
 | _=>False
def Yo (d n:Nat) (s:St):St :=
 match findKey d s.regs with
 | true=>s.ren d n
 | false=>s
def Du:List (Nat×Nat)->St->St
 | [],s=>s
 | (d,n) :: l,s=>Du l (Yo d n s)
def O7 (P:Program) (own:Bool) (rvs:List ResultVar) (keys:List Nat) (Post:L->Regs->Prop) (s:St):Prop :=
 match own with
 | false=>lretF P rvs keys Post s
 | true=>Jdm P rvs keys Post s
def Jed (P:Program) (own:Bool) (rn:List (Nat×Nat)) (rvs:List ResultVar) (keys:List Nat) (Post:L->Regs->Prop):Ex->St->Prop
 | .normal,s=>O7 P own rvs keys Post (Du rn s)
 | .ret,s=>O7 P own rvs keys Post (Du rn s)
 | .exit _,_=>False
theorem Cf {d:Nat} {r:Reg}:∀ {ds:List Nat} {rs:Regs},(d,r)∈Cu ds rs->d∈ds/\(d,r)∈rs
 | [],_,h=>by cases h
 | e :: ds,rs,h=>by
  simp only[Cu] at h;split at h
  ·rename_i q hq;rcases Eak.1 h with h | h
   ·cases h;exact ⟨Eaf,Ax hq⟩
   ·exact ⟨Eai _ (Cf h).1,(Cf h).2⟩
  ·exact ⟨Eai _ (Cf h).1,(Cf h).2⟩
theorem He:∀ (ds:List Nat) (rs:Regs),((Cu ds rs).map (·.1)).Sublist ds
 | [],_=>.slnil
 | e :: ds,rs=>by
  simp only[Cu];split
  ·exact (He ds rs).cons_cons e
  ·exact (He ds rs).cons e
theorem B1:∀ (l:List (Nat×Nat)) (s:St),(∀ x∈l,x.2<1000\/500000<=x.2)->s.Le (Du l s)
 | [],s,_=>St.Le.refl s
 | (d,n) :: l,s,h=>by
  simp only[Du];refine St.Le.trans ?_ (B1 l _ fun x hx=>h x (Eai _ hx));unfold Yo;split
  ·exact Kav s (h _ Eaf)
  ·exact St.Le.refl s
theorem Pb {P:Program} {t:TypeId} {u v:Value} {w:World} (h:(Instr.loadAt t u).run P w=.ok v w):(do loadVar t (<- asAddr u):Sem Value).run P w=.ok v w:=by
 unfold Instr.loadAt Instr.sureAddr at h;cases u<;>simp_all[asAddr];rename_i a;cases a<;>simp_all
theorem Ic {P:Program} {β:Env} {w:World} {Im:Nat->Prop} {s:St} {a:Act} (hf:Fit β w Im s a.tmps) (g:ResultVar->Sem Value) (hg1:∀ t,g (.tmp t)=pure (a.tmps.getD t undef)) (hg2:∀ t T,g (.cell t T)=do loadVar T (<- asAddr (a.tmps.getD t undef))) :
  ∀ (rvs:List ResultVar) (K:List PV->Prop),H4 P s rvs K->∃ vs xs,(rvs.mapM g).run P w=.ok vs w/\K xs/\vs.length=xs.length/\∀ (i:Nat) (v:Value) (x:PV),vs[i]? = some v->xs[i]? = some x->PRep w Im v x
 | [],K,h=>⟨[],[],by simp,h,rfl,fun i v x hv=>by simp at hv⟩
 | .tmp t :: l,K,h=>by
  simp only[H4] at h;unfold Rb at h;split at h
  ·rename_i x hx;obtain ⟨vs,xs,h1,h2,h3,h4⟩:=Ic hf g hg1 hg2 l _ h;refine ⟨a.tmps.getD t undef :: vs,x :: xs,?_,h2,by simp[h3],fun i v y hv hy=>?_⟩
   ·simp only[List.mapM_cons,hg1,Sem.run_bind,Sem.run_pure,Result.andThen_ok,h1]
   ·cases i with
    | zero =>
     simp at hv hy;subst hv;subst hy;have:=A2 hf (.tmp t);simp only[St.get,hx] at this;simpa[LRep,Act.eval,Eav] using this
    | succ i=>simp at hv hy;exact h4 i v y hv hy
  ·exact h.elim
 | .cell t T :: l,K,h=>by
  simp only[H4] at h;have hr:=A2 hf (.tmp t);obtain ⟨v,m,hv,hm,hK⟩:=Jk hf hr h;unfold Rb at hK;split at hK
  ·rename_i x;obtain ⟨vs,xs,h1,h2,h3,h4⟩:=Ic hf g hg1 hg2 l _ hK;refine ⟨v :: vs,x :: xs,?_,h2,by simp[h3],fun i u y hu hy=>?_⟩
   ·have:=Pb hv;have e:a.eval (.tmp t)=a.tmps.getD t undef:=rfl;rw[e] at this;rw[List.mapM_cons];simp only[Sem.run_bind,hg2] at this ⊢;rw[this];simp only[Result.andThen_ok,h1,Sem.run_pure]
   ·cases i with
    | zero=>simp at hu hy;subst hu;subst hy;exact hm
    | succ i=>simp at hu hy;exact h4 i u y hu hy
  ·exact hK.elim
def Qd (tmps:Array Value):ResultVar->Sem Value
 | .tmp t=>pure (tmps.getD t undef)
 | .cell b T=>do loadVar T (<- asAddr (tmps.getD b undef))
theorem G9 {P:Program} {fn:Func} {tmps:Array Value} {w:World} {vs:List Value} (h:(fn.results.toList.mapM (Qd tmps)).run P w=.ok vs w) :
  (results fn tmps).run P w=.ok (if h:vs.length=1 then vs[0] else .tuple ⟨vs⟩) w:=by
 have e:results fn tmps=(do
   let vs <- fn.results.mapM (Qd tmps)
   pure (if h:vs.size=1 then vs[0] else .tuple vs)):=by
  unfold results;congr 1
 rw[e,Array.mapM_eq_mapM_toList];simp only[Sem.run_bind,Sem.run_map,h,Result.andThen_ok,Sem.run_pure];rfl
theorem RRx.shut {Γ:Base} {β:Env} {Im:Nat->Prop} {s:St} {tmps:Array Value} {w:World} {D:Nat} {ms:List Nat} (h:RRx (Γ.wm (D :: ms)) β Im s tmps w):RRx (Γ.wm ms) β Im s tmps (w.putObj D (.deferred none)):=by
 obtain ⟨m1,m2,m3,m4⟩:=h.marks D Eaf;have hlt:=(Ea7.1 m1).1;have hnd:D ∉ ms/\ms.Nodup:=Eb5.1 h.mnod;have hoth:∀ k,k≠D->(w.putObj D (.deferred none)).heap[k]? = w.heap[k]?:=fun k hk=>World.putObj_heap_other hk
 have hk:Keeps w Im (w.putObj D (.deferred none)) Im:=⟨fun _ h=>h,fun b hb=>hoth b fun e=>m2 (e ▸ hb)⟩
 refine {
     fit:={ size:=h.fit.size,tmps:=fun i l hl=>(h.fit.tmps i l hl).mono' hk,regs:=fun d r hr=>(h.fit.regs d r hr).mono hk rfl (fun _ _=>rfl) fun loc hl=>hoth _ (m4 d r loc hr hl),nodup:=h.fit.nodup,live:=fun d r loc hr hl=>by rw[World.putObj_size];exact h.fit.live d r loc hr hl,apart:=h.fit.apart,im:=fun b hb=>by rw[World.putObj_size];exact h.fit.im b hb }
     os:=h.os,tape:=h.tape,output:=h.output,size:=by rw[World.putObj_size];exact h.size,block:=fun k hk' hm=>?_,imin:=h.imin,imnew:=h.imnew,regnew:=h.regnew,fixed:=h.fixed,glob:=Γ.mono hk h.glob,mnod:=hnd.2,marks:=fun E hE=>?_ }
 ·have m3':Γ.W0.heap.size<=D:=m3;have hk2:k<Γ.W0.heap.size:=hk';rw[hoth k omg];exact h.block k hk' hm
 ·obtain ⟨n1,n2,n3,n4⟩:=h.marks E (Eai _ hE);exact ⟨(hoth E fun e=>hnd.1 (e ▸ hE)).trans n1,n2,n3,n4⟩
theorem Ie {F:Fence} {n:Nat} {P:Program} {fn:Func} {R:Ending->World->Prop} {Γ:Base} {β:Env} {Im:Nat->Prop} {s:St} {tmps:Array Value}:∀ (ms:List Nat) (w:World),RRx (Γ.wm ms) β Im s tmps w ->
  (∀ w',RRx (Γ.wm []) β Im s tmps w'->∃ v,(results fn tmps).run P w'=.ok v w'/\R (.returned v) w')->LeavesInM F n P fn tmps R (ms.map F6) .returning w
 | [],w,h,hf=>hf w h
 | D :: ms,w,h,hf=>by
  obtain ⟨m1,_⟩:=h.marks D Eaf;exact ⟨by simp,.inl ⟨D,_,rfl,run_takeDeferred m1,Ie ms _ h.shut hf⟩⟩
theorem Jz0 {X:Cx} {f:FuncId} {fn:Func} {c:Code} {args:List L} {rs:Regs} {Post:L->Regs->Prop} (own:Bool) (rn:List (Nat×Nat)) (hrn:∀ x∈rn,x.2<1000\/500000<=x.2) (hf:X.P.funcs[f]? = some fn) (hname:(fn.name == "runtime.NumGoroutine")=false) (hb:fn.body=some c)
  (h900:900 ∉ rs.map (·.1)) (h:∀ Γ a w,GOK X none Γ->(rs=[]->∀ b,¬ Γ.may b)->RRm Γ [] ⟨args ++ List.replicate (fn.ntmps - args.length) .junk,rs⟩ a w->c.wpIn (F0 none) 1 X.P (QQ Γ (Jed X.P own rn fn.results.toList (rs.map (·.1)) Post)) a w):Al X f args rs Post:=by
 refine ⟨enters_of hf hname hb,fun β Im w vs hglob hfit=>?_⟩;have hvl:vs.length=args.length:=by simpa using hfit.size
 refine callsIn_wide.1 (callsIn_of_wp_marks (n:=1) (F:=Fence.wide) hf hb trivial ?_);let Γ:Base:=⟨w,β,Im,fun k=>∃ d r loc,(d,r)∈rs/\β d=some loc/\loc.blk=k,[],X.G,X.mono⟩
 have hr0:RRm Γ [] ⟨args ++ List.replicate (fn.ntmps - args.length) .junk,rs⟩ { tmps:=(⟨vs⟩:Array Value) ++ Array.replicate (fn.ntmps - (⟨vs⟩:Array Value).size) undef,defers:=[] } w:=by
  refine ⟨rfl,β,Im,{ fit:={ size:=?_,tmps:=fun i l hl=>?_,regs:=hfit.regs,nodup:=hfit.nodup,live:=hfit.live,apart:=hfit.apart,im:=hfit.im },os:=rfl,tape:=rfl,output:=rfl,size:=Eah _,block:=fun _ _ _=>rfl,imin:=fun _ h=>h,imnew:=fun _ h=>.inl h,regnew:=fun d r loc hd hl=>.inr ⟨d,r,loc,hd,hl,rfl⟩,fixed:=fun _ _ _=>rfl,glob:=hglob,mnod:=.nil,marks:=fun D hD=>(by cases hD) }⟩
  ·simp[hvl]
  ·by_cases hi:i<args.length
   ·simp only at hl;rw[Eat hi] at hl;have:=hfit.tmps i l hl;have e:((⟨vs⟩:Array Value) ++ Array.replicate (fn.ntmps - (⟨vs⟩:Array Value).size) undef).getD i undef=(⟨vs⟩:Array Value).getD i undef:=by
     simp only[Eav];rw[Edb (by simp;omega)]
    rw[e];exact this
   ·simp only at hl;rw[Ear omg,Ecq] at hl;split at hl
    ·cases hl;trivial
    ·cases hl
 have hw:=h Γ _ w (Kdl rfl) (fun e b ⟨_,_,_,hm,_⟩=>by rw[e] at hm;cases hm) hr0;refine wpIn_mono (show c.wpIn Fence.wide 1 X.P _ _ _ from hw) fun e a w' hq=>?_
 have step:∀ {β':Env} {Im':Nat->Prop} {s:St} {tmps:Array Value} {w':World},RRx (Γ.wm []) β' Im' s tmps w'->CallStep β w Im rs β' w' Im' (Cu (900 :: rs.map (·.1)) s.regs):=by
  intro β' Im' s tmps w' hx;refine { os:=hx.os,tape:=hx.tape,output:=hx.output,size:=hx.size,block:=fun k hk' hne=>hx.block k hk' (fun ⟨d,r,loc,h1,h2,h3⟩=>hne d r loc h1 h2 h3),imin:=hx.imin,imnew:=hx.imnew,env:=hx.fixed,keys:=fun d r hd=>?_,regnew:=fun d r loc hd hl=>hx.regnew d r loc (Cf hd).2 hl,fit:=?_ }
  ·rcases Eak.1 (Cf hd).1 with h | h
   ·exact .inl h
   ·obtain ⟨⟨d',r'⟩,h1,rfl⟩:=Eap.1 h;exact .inr ⟨r',h1⟩
  ·exact { size:=rfl,tmps:=fun i l h=>by simp at h,regs:=fun d r hd=>hx.fit.regs d r (Cf hd).2,nodup:=(He _ _).nodup (Eb5.2 ⟨h900,hfit.nodup⟩),live:=fun d r loc hd hl=>hx.fit.live d r loc (Cf hd).2 hl,apart:=fun d r d' r' l1 l2 hd hd' hne h1 h2=>hx.fit.apart d r d' r' l1 l2 (Cf hd).2 (Cf hd').2 hne h1 h2,im:=hx.fit.im }
 have fin:∀ s,O7 X.P own fn.results.toList (rs.map (·.1)) Post (Du rn s)->RR Γ s a w'->LeavesInM Fence.wide 1 X.P fn a.tmps (fun e w'=>∃ v l rs' β' Im',e=.returned v/\Post l rs'/\LRep β' w' Im' v l/\CallStep β w Im rs β' w' Im' rs') a.defers .returning w':=by
  intro s hl hr;obtain ⟨ms,hdef,β',Im0,hx0⟩:=B1 rn s hrn Γ a w' hr;generalize Du rn s=s at hl hx0;rw[hdef];unfold O7 at hl;split at hl
  ·obtain ⟨Im',hx⟩:=RRx.freezeOps (Gm fn.results.toList) hx0;unfold lretF at hl;refine Ie ms _ hx fun w2 hx2=>?_
   obtain ⟨vs,xs,h1,hP,h3,h4⟩:=Ic (P:=X.P) hx2.fit (a:={ tmps:=a.tmps,defers:=[] }) (Qd a.tmps) (fun _=>rfl) (fun _ _=>rfl) _ _ hl;have hrun:=G9 (P:=X.P) (fn:=fn) h1;refine ⟨_,hrun,_,Sg xs,_,β',Im',rfl,hP,?_,step hx2⟩;split
   ·rename_i h
    match vs,xs,h,h3,h4 with
    | [v],[x],_,_,h4=>exact h4 0 v x rfl rfl
   ·rename_i h;have:Sg xs=.tup xs:=by
     match xs with
     | []=>rfl
     | [x]=>exact absurd h3 h
     | _ :: _ :: _=>rfl
    rw[this];exact ⟨vs,rfl,h3,h4⟩
  ·refine Ie ms _ hx0 fun w2 hx2=>?_
   unfold Jdm at hl;split at hl
   ·rename_i t hres;have h1:(fn.results.toList.mapM (Qd a.tmps)).run X.P w2=.ok [a.tmps.getD t undef] w2:=by rw[hres];simp[Qd]
    have hrun:=G9 (P:=X.P) (fn:=fn) h1;have hrep:=A2 (a:={ tmps:=a.tmps,defers:=[] }) hx2.fit (.tmp t);exact ⟨_,hrun,_,_,_,β',Im0,rfl,hl,hrep,step hx2⟩
   ·rename_i t T hres;have hrep:=A2 (a:={ tmps:=a.tmps,defers:=[] }) hx2.fit (.tmp t);obtain ⟨v,m,hv,hm,hK⟩:=Jk (P:=X.P) (a:={ tmps:=a.tmps,defers:=[] }) hx2.fit hrep hl;have h1:(fn.results.toList.mapM (Qd a.tmps)).run X.P w2=.ok [v] w2:=by
     rw[hres];have:=Pb hv;simp only[List.mapM_cons,List.mapM_nil,Qd,Sem.run_bind] at this ⊢;have e:({ tmps:=a.tmps,defers:=[] }:Act).eval (.tmp t)=a.tmps.getD t undef:=rfl;rw[e] at this;rw[this];simp
    have hrun:=G9 (P:=X.P) (fn:=fn) h1;exact ⟨_,hrun,_,m,_,β',Im0,rfl,hK,hm,step hx2⟩
   ·exact hl.elim
 cases e with
 | normal=>obtain ⟨s,h1,h2⟩:=hq;exact fin s h1 h2
 | ret=>obtain ⟨s,h1,h2⟩:=hq;exact fin s h1 h2
 | exit id=>obtain ⟨s,h1,h2⟩:=hq;exact h1.elim
 | goto l=>exact hq.elim
 | panic c=>exact hq.elim
 | outgrown=>exact hq.elim
section
variable {P:Program} {rvs:List ResultVar} {keys:List Nat} {Post:L->Regs->Prop} {t:List L} {r:Regs} {own:Bool} {rn:List (Nat×Nat)}
theorem J0j {X:Cx} {f:FuncId} {fn:Func} {c:Code} {args:List L} {rs:Regs} {Post:L->Regs->Prop} (own:Bool) (rn:List (Nat×Nat)) (hrn:∀ x∈rn,x.2<1000\/500000<=x.2) (hf:X.P.funcs[f]? = some fn) (hname:(fn.name == "runtime.NumGoroutine")=false) (hb:fn.body=some c)
  (h900:900 ∉ rs.map (·.1)) (h:SWP X none c (Jed X.P own rn fn.results.toList (rs.map (·.1)) Post) ⟨args ++ List.replicate (fn.ntmps - args.length) .junk,rs⟩):Al X f args rs Post :=
 Jz0 own rn hrn hf hname hb h900 fun Γ a w hG _ hr=>h Γ a w hG hr.rr
theorem Vy:Jed P own rn rvs keys Post .normal ⟨t,r⟩=O7 P own rvs keys Post (Du rn ⟨t,r⟩):=(rfl)
theorem Jhr:Jed P own rn rvs keys Post .ret ⟨t,r⟩=O7 P own rvs keys Post (Du rn ⟨t,r⟩):=(rfl)
end
def Ba (n:Nat):List (Nat×L)->List L
 | []=>List.replicate n .junk
 | (i,l) :: ws=>(Ba n ws).set i l
theorem Cg (n:Nat):∀ ws,(Ba n ws).length=n
 | []=>by simp[Ba]
 | (i,l) :: ws=>by simp[Ba,Cg n ws]
theorem Je3 {n i:Nat} {l:L} {ws:List (Nat×L)}:(Ba n ws).set i l=Ba n ((i,l) :: ws):=(rfl)
theorem Ao {n i j:Nat} {l:L} {ws:List (Nat×L)}:(Ba n ((i,l) :: ws)).getD j .junk=if i=j then (if i<n then l else .junk) else (Ba n ws).getD j .junk:=by
 simp only[Ba,Eaj,Ebr,Cg];split
 ·rename_i h;subst h;split<;>rfl
 ·rfl
theorem Aj {n j:Nat}:(Ba n []).getD j .junk=.junk:=by
 simp only[Ba,Eaj,Ecq];split<;>rfl
def mapW (f:L->L):List (Nat×L)->List (Nat×L)
 | []=>[]
 | (i,l) :: ws=>(i,f l) :: mapW f ws
theorem Kw {f:L->L} (h:f .junk=.junk) {n:Nat}:∀ {ws:List (Nat×L)},(Ba n ws).map f=Ba n (mapW f ws)
 | []=>by simp[Ba,mapW,h]
 | (i,l) :: ws=>by simp only[Ba,mapW,Edt,Kw h]
theorem U7 {d n:Nat} {ws:List (Nat×L)}:(Ba n ws).map (L.forget d)=Ba n (mapW (L.forget d) ws):=Kw rfl
theorem Wd {d n:Nat} {es:Fz} {ws:List (Nat×L)}:(Ba n ws).map (L.freeze d es)=Ba n (mapW (L.freeze d es) ws):=Kw rfl
theorem Jac {f:Nat->Option Nat} {n:Nat} {ws:List (Nat×L)}:(Ba n ws).map (L.map f)=Ba n (mapW (L.map f) ws):=Kw rfl
theorem Jlb {f:L->L}:mapW f []=[]:=(rfl)
theorem Jg1 {f:L->L} {i:Nat} {l:L} {ws:List (Nat×L)}:mapW f ((i,l) :: ws)=(i,f l) :: mapW f ws:=(rfl)
def argW:Nat->List L->List (Nat×L)
 | _,[]=>[]
 | k,l :: ls=>(k,l) :: argW (k+1) ls
theorem Tq {n:Nat}:∀ (k:Nat) (ls:List L) (i:Nat),k+ls.length<=n->(Ba n (argW k ls))[i]? = if i<n then (if k<=i then (ls[i - k]?).orElse fun _=>some .junk else some .junk) else none
 | k,[],i,h=>by
  simp only[argW,Ba,Ecq];split
  ·split<;>simp
  ·rfl
 | k,l :: ls,i,h=>by
  simp only[Ead] at h;have ih:=Tq (n:=n) (k+1) ls i omg;simp only[argW,Ba,Ebr,Cg,ih];by_cases h1:k=i
  ·subst h1;simp
  ·simp only[if_neg h1];by_cases h2:i<n
   ·simp only[if_pos h2];by_cases h3:k+1<=i
    ·simp only[if_pos h3,if_pos (show k<=i by omega)];have:i - k=(i - (k+1))+1:=by omega
     rw[this,List.getElem?_cons_succ]
    ·simp only[if_neg h3,if_neg (show ¬ k<=i by omega)]
   ·simp only[if_neg h2]
theorem Rx {n:Nat} {ls:List L} (h:ls.length<=n):ls ++ List.replicate (n - ls.length) .junk=Ba n (argW 0 ls):=by
 apply Ech;intro i;rw[Tq 0 ls i omg];by_cases h1:i<ls.length
 ·rw[Eat h1,if_pos omg,if_pos (Eau _)];simp[h1]
 ·rw[Ear omg,Ecq];by_cases h2:i<n
  ·rw[if_pos omg,if_pos h2,if_pos (Eau _)];simp[h1]
  ·rw[if_neg omg,if_neg h2]
def wsLe (n:Nat) (ws:List (Nat×L)):List (Nat×L)->Prop
 | []=>True
 | (i,l) :: rest=>LLe ((Ba n ws).getD i .junk) l/\wsLe n ws rest
theorem Ar {n:Nat} {ws:List (Nat×L)}:wsLe n ws []=True:=(rfl)
theorem Ap {n i:Nat} {l:L} {ws rest:List (Nat×L)}:wsLe n ws ((i,l) :: rest)=(LLe ((Ba n ws).getD i .junk) l/\wsLe n ws rest):=(rfl)
theorem R2:∀ {a b:List L},a.length=b.length->(∀ i,LLe (a.getD i .junk) (b.getD i .junk))->Aw a b
 | [],[],_,_=>trivial
 | x :: a,y :: b,h,hi=>⟨by simpa using hi 0,R2 (by simpa using h) fun i=>by simpa using hi (i+1)⟩
 | [],_ :: _,h,_=>by simp at h
 | _ :: _,[],h,_=>by simp at h
theorem Z1 {n:Nat} {ws:List (Nat×L)}:∀ {rest:List (Nat×L)},wsLe n ws rest->∀ i,LLe ((Ba n ws).getD i .junk) ((Ba n rest).getD i .junk)
 | [],_,i=>by rw[Aj];exact .inl rfl
 | (j,l) :: rest,h,i=>by
  rw[Ao];split
  ·rename_i hj;subst hj;split
   ·exact h.1
   ·exact .inl rfl
  ·exact Z1 h.2 i
theorem Jqt {n:Nat} {ws ws':List (Nat×L)} {r r':Regs} (ht:wsLe n ws ws') (hr:Az r r') (hk:Ay r'):St.Le ⟨Ba n ws,r⟩ ⟨Ba n ws',r'⟩ :=
 Kbu (R2 (by simp[Cg]) (Z1 ht)) hr hk
theorem Jua {X:Cx} {f:FuncId} {fn:Func} {c:Code} {args:List L} {rs:Regs} {Post:L->Regs->Prop} (own:Bool) (rn:List (Nat×Nat)) (hrn:∀ x∈rn,x.2<1000\/500000<=x.2) (hf:X.P.funcs[f]? = some fn) (hname:(fn.name == "runtime.NumGoroutine")=false) (hb:fn.body=some c) (hn:args.length<=fn.ntmps)
  (h900:900 ∉ rs.map (·.1)) (h:SWP X none c (Jed X.P own rn fn.results.toList (rs.map (·.1)) Post) ⟨Ba fn.ntmps (argW 0 args),rs⟩):Al X f args rs Post :=
 J0j own rn hrn hf hname hb h900 (by rw[Rx hn];exact h)
end Go.LX
