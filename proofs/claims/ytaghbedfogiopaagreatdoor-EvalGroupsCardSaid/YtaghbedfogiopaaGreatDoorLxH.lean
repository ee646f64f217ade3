/- Operations one behind the other, on logical states. -/
import Derived.Lib.ConvBytes
import Derived.Laws.Cover4
import Derived.Test.YtaghbedfogiopaaGreatDoorLxF
import Derived.Test.YtaghbedfogiopaaGreatDoorLxG
set_option linter.unusedSimpArgs false
set_option linter.unusedVariables false
set_option linter.unusedSectionVars false
set_option linter.unnecessarySimpa false
namespace Go.LX
open Go Go.RowKit Go.Proofs
def F0 (r:Option Nat):Fence:={ fn:=fun _=>True,depth:=none,alive:=false,round:=r }
theorem Yt {r:Option Nat} {n:Nat} {P:Program} {f:FuncId} {args:Array Value} {w:World} {R:Ending->World->Prop} (h:Calls P f args w R):CallsIn (F0 r) n P f args w R :=
 show CallsIn Fence.wide n P f args w R from callsIn_wide.2 h
def Ag (X:Cx) (g:FuncId) (args:List L) (l:L):Prop:=∀ (β:Env) (Im:Nat->Prop) (w:World) (vs:List Value),vs.length=args.length->(∀ (i:Nat) (v:Value) (a:L),vs[i]? = some v->args[i]? = some a->LRep β w Im v a) ->
 ∃ v,(callFunc g ⟨vs⟩).run X.P w=.ok (.value v) w/\LRep β w Im v l
def Ek (dst:Option Tmp) (rs':Regs):Option Nat :=
 match findKey 900 rs' with
 | true=>some (match dst with | some d=>if d<900 then d else 990 | none=>990)
 | false=>none
def Rs (args:List L):List Nat:=args.flatMap L.ids
def Ta (ρ:Ren) (dst:Option Tmp) (K:St->Prop) (s:St) (l:L) (rs':Regs):Prop:=K ((s.after ρ (Ek dst rs') rs').put dst (l.map (C6 ρ (Ek dst rs'))))
def N2 (X:Cx) (g:FuncId) (args:List L) (s:St) (ρ:Ren) (dst:Option Tmp) (K:St->Prop):Prop :=
 Al X g (args.map (L.map (upId ρ))) (Cz ρ s.regs) (Ta ρ dst K s)
def Ll (X:Cx) (g:FuncId) (args:List L) (s:St) (dst:Option Tmp) (K:St->Prop):Prop :=
 N2 X g args s (Ra (Dj [] (Rs args)) s.regs) dst K
def lext (X:Cx) (g:FuncId) (args:List L) (s:St) (dst:Option Tmp) (K:St->Prop):Prop:=∃ l,Ag X g args l/\K (s.put dst l)
def Ad (X:Cx) (g:FuncId) (args:List L) (rs:Regs) (l:L):Prop:=∀ (β:Env) (Im:Nat->Prop) (w:World) (vs:List Value),Fit β w Im ⟨args,rs⟩ ⟨vs⟩ ->
 ∃ v,(callFunc g ⟨vs⟩).run X.P w=.ok (.value v) w/\LRep β w Im v l
def Jkt (X:Cx) (g:FuncId) (args:List L) (s:St) (dst:Option Tmp) (K:St->Prop):Prop:=∃ l,Ad X g args s.regs l/\K (s.put dst l)
def Jm (X:Cx) (k:Nat) (g:FuncId) (ds:List Nat) (args:List Operand) (s:St) (dst:Option Tmp) (K:St->Prop):Prop :=
 match k with
 | 0=>Ll X g (args.map (s.freezeOps args).get ++ ds.map fun d=>L.ptr d 0 0) (s.freezeOps args) dst K
 | 1=>Ll X g (args.map s.get ++ ds.map fun d=>L.ptr d 0 0) s dst K
 | 3=>ds=[]/\Jkt X g (args.map s.get) s dst K
 | _=>ds=[]/\lext X g (args.map s.get) s dst K
def Jc1 (X:Cx) (s:St) (f:Operand) (args:List Operand) (dst:Option Tmp) (K:St->Prop):Prop :=
 match s.get f with
 | .fn g ds=>Jm X (X.kind g) g ds args s dst K
 | .p (.clo g ps)=>X.kind g=0/\(s.freezeOps args).get f=.p (.clo g ps)/\Ll X g (args.map (s.freezeOps args).get ++ [.eptr ps]) (s.freezeOps args) dst K
 | _=>False
def kput (dst:Option Tmp) (K:St->Prop) (s:St) (l:L):Prop:=K (s.put dst l)
def F9 (dst:Option Tmp) (K:St->Prop) (s:St):Prop:=K (s.put dst (.tup []))
def L6 (P:Program) (a b:TypeId) (d j:Nat) (r:Option Reg) (K:L->Prop):Prop :=
 match r,P.underlying a,P.underlying b with
 | some (.var _ cs),some (.pointer t),some .unsafePointer=>P.cellsOf t≠0/\j<cs.length/\K (.ptr d 0 j)
 | some (.var T cs),some .unsafePointer,some (.pointer u)=>liesAt P P.depth T (cs.length / P.cellsOf T) j u 1=true/\(P.info? u).isSome=true/\K (.ptr d 0 j)
 | _,_,_=>False
def Jui:List (List PV)->Option (List Int)
 | []=>some []
 | [.int .i32 n] :: l=>match Jui l with
  | some ns=>some (n :: ns)
  | none=>none
 | _=>none
def Ju3 (P:Program) (t:TypeId):Bool:=match P.underlying t with
 | some (.slice e)=>match P.underlying e with
  | some (.int .i32)=>true
  | _=>false
 | _=>false
theorem Jyk {P:Program} {t:TypeId} (h:Ju3 P t=true):∃ e,P.underlying t=some (.slice e)/\P.underlying e=some (.int .i32):=by
 unfold Ju3 at h;split at h
 ·rename_i e ht;split at h
  ·rename_i he;exact ⟨e,ht,he⟩
  ·cases h
 ·cases h
def Jtv (s:ByteArray):Nat->Nat->List Int
 | 0,_=>[]
 | b+1,i=>if i<s.size then (Int.ofNat (Utf8.decode s i).1) :: Jtv s b (i+(Utf8.decode s i).2) else []
def Jwm (u:List UInt8):List (List PV):=(Jtv ⟨⟨u⟩⟩ u.length 0).map fun n=>[.int .i32 n]
theorem Jzq (s:ByteArray):∀ (b i:Nat) (acc:Array Value),Conv.runesFrom s b i acc=acc ++ ((Jtv s b i).map (Value.int .i32)).toArray
 | 0,i,acc=>by simp [Conv.runesFrom,Jtv]
 | b+1,i,acc=>by
  unfold Conv.runesFrom Jtv;split
  ·show Conv.runesFrom s b (i+(Utf8.decode s i).2) (acc.push (Value.int .i32 (Int.ofNat (Utf8.decode s i).1)))=_;rw [Jzq s b];simp
  ·simp
theorem J1s (s:ByteArray):∀ b i,(Jtv s b i).length<=b
 | 0,i=>by simp [Jtv]
 | b+1,i=>by
  unfold Jtv;split
  ·have:=J1s s b (i+(Utf8.decode s i).2);simp only [List.length_cons];omega
  ·simp
theorem Jyh:∀ {es:List (List PV)} {ns:List Int},Jui es=some ns->es=ns.map fun n=>[.int .i32 n]
 | [],ns,h=>by simp only [Jui] at h;cases h;rfl
 | e :: l,ns,h=>by
  unfold Jui at h;split at h
  ·rename_i heq;cases heq
  ·rename_i n l' heq;cases heq;split at h
   ·rename_i ms hm;cases h;rw [Jyh hm];rfl
   ·cases h
  ·cases h
theorem J03 (ns:List Int):(runesBytes ns).data.toList=ns.flatMap fun n=>(Utf8.encode n).data.toList:=by
 have key:∀ (ns:List Int) (r:ByteArray),(ns.foldl (fun r n=>r ++ Utf8.encode n) r).data.toList=r.data.toList ++ ns.flatMap fun n=>(Utf8.encode n).data.toList:=by
  intro ns
  induction ns with
  | nil=>intro r;simp
  | cons n ns ih=>intro r;rw [List.foldl_cons,ih];simp
 unfold runesBytes;rw [key];rfl
def J2z (P:Program) (b:TypeId) (l:L) (K:L->Prop):Prop:=P.underlying b=some .string/\match l with
 | .p (.sl es)=>∃ ns,Jui es=some ns/\K (.p (.str (ns.flatMap fun n=>(Utf8.encode n).data.toList)))
 | _=>False
theorem J5q {P:Program} {β:Env} {Im:Nat->Prop} {w:World} {a b:TypeId} {u:Value} {l:L} {K:L->Prop} (ha:Ju3 P a=true) (hx:LRep β w Im u l) (h:J2z P b l K):C0 β Im w ((convert a b u).run P w) K:=by
 obtain ⟨e,hs,he⟩:=Jyk ha;obtain ⟨hd,h⟩:=h;split at h
 ·rename_i es;obtain ⟨ns,hn,hK⟩:=h;have hes:=Jyh hn;refine X2 hK ?_;have hst:∀ (r:ByteArray),r=runesBytes ns->(Value.string r)=.string ⟨⟨ns.flatMap fun n=>(Utf8.encode n).data.toList⟩⟩:=fun r hr=>by
   rw [hr,<- J03]
  rcases Jwh (show PRep w Im u (.sl es) from hx) with ⟨⟨oa,rfl⟩,h0⟩ | ⟨bk,off,cap,sz,f,rfl,hcap,hb,hsz,hsc,hc,hp⟩
  ·rw [run_convert_runes_string w a b e oa 0 0 hs he hd];have:ns=[]:=by
    rw [h0] at hes;cases ns with
    | nil=>rfl
    | cons n ns=>cases hes
   subst this;cases oa with
   | none=>simp [Conv.runesToString];rfl
   | some a=>simp [Conv.runesToString,loadCells,loadCellsFrom];rfl
  ·rw [run_convert_runes_string w a b e _ _ _ hs he hd];have hl:es.length=ns.length:=by rw [hes];simp
   have hload:(loadCells ⟨bk,off,none⟩ es.length).run P w=.ok (ns.map (Value.int .i32)).toArray w:=by
    have:=run_loadCells_list (P:=P) (w:=w) ⟨bk,off,none⟩ (ns.map (Value.int .i32)) (fun j v hj=>by
     rw [Eam] at hj;obtain ⟨n,hn',rfl⟩:=Eak.1 hj;have hj':=(Eab.1 hn').1;have hej:es[j]? = some [.int .i32 n]:=by rw [hes,Eam,hn'];rfl
     have hs1:sz=1:=by rw [<- hsz _ (Eae hej)];rfl
     subst hs1;have h1:=hc j omg 0 omg;have h2:=hp j _ 0 _ hej rfl;generalize f j 0=v at h1 h2;cases h2;rw [Ecn,Nat.add_zero] at h1;cases j with
     | zero=>simpa [Addr.add] using h1
     | succ j=>simpa [Addr.add] using h1)
    rw [Ea9,<- hl] at this;exact this
   rw [run_runesToString w _ _ _ ns hload];exact congrArg (fun v=>Result.ok v w) (hst _ rfl)
 ·exact h.elim
def Og (P:Program) (a b:TypeId) (u:List UInt8) (s:St) (dst:Option Tmp) (K:St->Prop):Prop :=
 match P.underlying b with
 | some (.slice e)=>if Ju3 P b=true then (match dst with
   | some d=>P.underlying a=some .string/\d<1000/\u.length<=70368744177664/\K ((s.newReg d (.row e 1 (Jwm u))).put (some d) (.own d 0 (Jwm u).length))
   | none=>False) else
   (P.underlying a).isSome=true/\P.underlying e=some (.int .u8)/\kput dst K s (.p (.sl (u.map fun c=>[.int .u8 c.toNat])))
 | _=>J1 P a b (.p (.str u)) (kput dst K s)
def Jke (P:Program) (a b:TypeId) (s:St) (x:Operand) (dst:Option Tmp) (K:St->Prop):Prop :=
 match s.get x with
 | .ptr d 0 j=>L6 P a b d j (Am d s.regs) (kput dst K s)
 | .p (.str u)=>Og P a b u s dst K
 | _=>if Ju3 P a=true then J2z P b ((s.freezeOps [x]).get x) (kput dst K (s.freezeOps [x])) else J1 P a b ((s.freezeOps [x]).get x) (kput dst K (s.freezeOps [x]))
def Jd6 (X:Cx) (o:Oper) (dst:Option Tmp) (args:List Operand) (ts:List TypeId) (s:St) (K:St->Prop):Prop :=
 match args,ts with
 | [x,y],[t,_]=>match s.get x with
  | .p .nptr=>lq X.P s.regs s.get o.op (kput dst K s)
  | _=>Gn X.P t s x y (kput dst K)
 | _,_=>False
def larr (P:Program) (t:TypeId) (s:St) (d:Nat) (lo hi:Option Operand) (N:St->L->Prop) (q:Option Reg):Prop :=
 match q,arE P t with
 | some (.var _ cs),some (n,_,sz)=>sz=1/\n=cs.length/\∃ ps,Bg L.pure? cs=some ps/\∃ l h,Dr s.get 0 lo=some l/\Dr s.get n hi=some h/\0<=l/\l<=h/\h<=n /\
   N (Dx d (some (.ar ps)) s) (.p (.sl (((ps.map fun p=>[p]).drop l.toNat).take (h.toNat - l.toNat))))
 | _,_=>False
def lslG (P:Program) (o:Oper) (t:TypeId) (x:Operand) (lo hi:Option Operand) (dst:Option Tmp) (K:St->Prop) (s:St):Prop :=
 match s.get x with
 | .ptr d 0 0=>larr P t s d lo hi (kput dst K) (Am d s.regs)
 | _=>lq P s.regs s.get o.op (kput dst K s)
def lop (X:Cx) (o:Oper) (K:St->Prop) (s:St):Prop :=
 match o.op,o.dst with
 | .alloc T,some d=>Wg X.P d T s K
 | .box T x,some d=>lbox d T s x K
 | .buildSlice t n parts,some d=>if X.keep t=true then n=parts.toList.length/\Jvj X.P d t s parts.toList K else Fo X.P d t n s parts.toList K
 | .makeSlice t l c,some d=>Gl X.P d t s l c K
 | .makeMap _ none,some d=>Mk d s K
 | .range t x,some d=>Wr X.P d t s x K
 | .next it b,dst=>Wv s it b (kput dst K)
 | .entry it,dst=>Ri s it (kput dst K s)
 | .mapUpdate t m k v,dst=>Dq X.P t s m k v (F9 dst K)
 | .insert t m k v,dst=>Dq X.P t s m k v (F9 dst K)
 | .mapEntry t m k,dst=>Jxc X.P t s m k (kput dst K)
 | .entryStore _ m e v,dst=>Ju5 s m e v (F9 dst K)
 | .store t a x,dst=>Nv X.P t s a x (F9 dst K)
 | .call { callee:=.builtin .append,args,argTypes },some d=>match args.toList,argTypes.toList with
  | [x,y],[t,t']=>if X.keep t=true then t'=t/\Jxb X.P d t s x y K else Kk X.P d t t' s x y K
  | _,_=>False
 | .call { callee:=.builtin .copy,args,argTypes },dst=>match args.toList,argTypes.toList with
  | [x,y],[t,t']=>Tv X.P t t' s x y (kput dst K)
  | _,_=>False
 | .call { callee:=.builtin .delete,args,argTypes },dst=>match args.toList,argTypes.toList with
  | [m,k],t :: _=>Kq X.P t s m k (F9 dst K)
  | _,_=>False
 | .call { callee:=.builtin .unsafeString,args,argTypes },dst=>Jd6 X o dst args.toList argTypes.toList s K
 | .call { callee:=.value f,args,argTypes:=_ },dst=>Jc1 X s f args.toList dst K
 | .convert a b x,dst=>Jke X.P a b s x dst K
 | .slice t x lo hi none,dst=>lslG X.P o t x lo hi dst K s
 | op,dst=>lq X.P s.regs s.get op (kput dst K s)
def F4 (ds:List (Option Tmp)) (g:Option (Nat×Bool)) (A B:St->Prop) (s:St):Prop :=
 match g with
 | none=>A s
 | some (j,want)=>match ds.getD j none with
  | some dj=>match s.tmps.getD dj .junk with
   | .p (.bool c)=>(c=want->A (s.put (some dj) (.p (.bool want))))/\(c=(!want)->B (s.put (some dj) (.p (.bool (!want)))))
   | .tup []=>B s
   | _=>False
  | none=>False
def lops (X:Cx) (ds:List (Option Tmp)):List Oper->(St->Prop)->St->Prop
 | [],K,s=>K s
 | o :: rest,K,s=>F4 ds o.guard (lop X o (lops X ds rest K)) (F9 o.dst (lops X ds rest K)) s
section
variable {P:Program} {X:Cx} {Γ:Base} {ro:Option Nat}
theorem Ly {o:Oper} (ρ:Operand->Value) (h:∀ c,o.op≠.defer c):o.semAt (F0 ro).round ρ=execOp ρ o:=Oper.semAt_eq _ _ _ h
theorem B5 {o:Oper} {a:Act} {w w':World} {v:Value} {next:Act->World->Prop} {Q:Exit->Act->World->Prop} {n:Nat} (hd:∀ c,o.op≠.defer c) (hr:(execOp a.eval o).run P w=.ok (.value v) w') (h:next (a.put o.dst v) w') :
  o.wpIn (F0 ro) n P a w next Q:=by
 refine ⟨fun _ _=>trivial,?_⟩;rw [Ly _ hd,hr];exact h
theorem Ij {o:Oper} {a:Act} {w w':World} {next:Act->World->Prop} {Q:Exit->Act->World->Prop} {n:Nat} (hd:∀ c,o.op≠.defer c) (hr:(execOp a.eval o).run P w=.ok .skip w') (h:next (a.put o.dst undef) w') :
  o.wpIn (F0 ro) n P a w next Q:=by
 refine ⟨fun _ _=>trivial,?_⟩;rw [Ly _ hd,hr];exact h
theorem Q0 {o:Oper} {a:Act} {w w':World} {f:FuncId} {args:Array Value} {next:Act->World->Prop} {Q:Exit->Act->World->Prop} {n:Nat} (hd:∀ c,o.op≠.defer c) (hr:(execOp a.eval o).run P w=.ok (.enter f args) w')
  (h:Calls P f args w' fun e w''=>∃ v,e=.returned v/\next (a.put o.dst v) w''):o.wpIn (F0 ro) n P a w next Q:=by
 refine ⟨fun _ _=>trivial,?_⟩;rw [Ly _ hd,hr];refine ⟨fun h=>by simp [F0] at h,?_⟩;refine Yt (h.mono fun e w'' ⟨v,he,hn⟩=>?_);subst he;exact hn
def RRm (Γ:Base) (ms:List Nat) (s:St) (a:Act) (w:World):Prop:=a.defers=ms.map F6/\∃ β Im,RRx (Γ.wm ms) β Im s a.tmps w
theorem RRm.rr {s:St} {a:Act} {w:World} {ms:List Nat} (h:RRm Γ ms s a w):RR Γ s a w:=⟨ms,h.1,h.2⟩
theorem Lb.oper {a:Act} {d:Tmp} {r:Sem Value} {K:St->Prop} {w:World} {o:Oper} {Q:Exit->Act->World->Prop} {n:Nat} {ms:List Nat} (h:Lb (Γ.wm ms) a d (r.run P w) K) (hd:∀ c,o.op≠.defer c) (ho:execOp a.eval o=(do pure (Next.value (<- r)):Sem Next)) (hdst:o.dst=some d) (hdef:a.defers=ms.map F6) :
  o.wpIn (F0 ro) n P a w (fun a' w'=>∃ s,K s/\RRm Γ ms s a' w') Q:=by
 obtain ⟨v,w',β',Im',s',l,hr,h1,h2,hK⟩:=h;refine B5 hd (v:=v) (w':=w') (by rw [ho];simp [hr]) ⟨_,hK,?_,β',Im',?_⟩
 ·rw [hdst];exact hdef
 ·rw [hdst];exact h1.put (some d) h2
theorem Ga {s:St} {β:Env} {Im:Nat->Prop} {w:World} {a:Act} {ms:List Nat} (hdef:a.defers=ms.map F6) (h:RRx (Γ.wm ms) β Im s a.tmps w):RRm Γ ms s a w:=⟨hdef,β,Im,h⟩
theorem Bf {a:Act} {dst:Option Tmp} {v:Value} {ds:List Deferred} (h:a.defers=ds):(a.put dst v).defers=ds:=by cases dst <;> exact h
theorem P5 {β:Env} {w:World} {Im:Nat->Prop} {s:St} {tmps:Array Value} (hf:Fit β w Im s tmps) {a b:TypeId} {d j:Nat} {u:Value} {K:L->Prop} (hx:LRep β w Im u (.ptr d 0 j)) (hl:L6 P a b d j (Am d s.regs) K):C0 β Im w ((convert a b u).run P w) K:=by
 have hx':=hx;obtain ⟨loc,hβ,rfl⟩:=hx';have hz:(0:Nat) * loc.sz+j=j:=by simp
 rw [hz];unfold L6 at hl;split at hl
 ·rename_i T cs t hr ha hb;obtain ⟨hc,hj,hK⟩:=hl;obtain ⟨loc',cur,hβ',h2,h3,h4,h5,h6⟩:=hf.regs d _ (Ax hr);rw [hβ] at hβ';cases hβ';cases hi:P.info? t with
  | none=>exact absurd (by simp [Program.cellsOf,hi]) hc
  | some inf =>
   have hs:inf.size≠0:=by simpa [Program.cellsOf,hi] using hc
   refine ⟨_,_,Lib.run_to_unsafe (P:=P) w ⟨loc.blk,j,none⟩ ha hb hi hs (e:=T) (cells:=cur.length) (by simp [World.shape?,h4]) (by simpa [h5] using hj),?_,hK⟩;exact ⟨loc,hβ,by rw [hz]⟩
 ·rename_i T cs u' hr ha hb;obtain ⟨hlies,hi,hK⟩:=hl;obtain ⟨loc',cur,hβ',h2,h3,h4,h5,h6⟩:=hf.regs d _ (Ax hr);rw [hβ] at hβ';cases hβ';obtain ⟨inf,hi⟩:=Ecm.1 hi;refine ⟨_,_,Lib.run_from_unsafe (P:=P) w ⟨loc.blk,j,none⟩ ha hb hi (e:=T) (cells:=cur.length) (by simp [World.shape?,h4]) (by rw [h5];exact hlies),?_,hK⟩;exact ⟨loc,hβ,by rw [hz]⟩
 ·exact hl.elim
theorem Wb {s:St} {a:Act} {w:World} {o:Oper} {K:St->Prop} {Q:Exit->Act->World->Prop} {n:Nat} {β:Env} {Im:Nat->Prop} {ms:List Nat} (hdef:a.defers=ms.map F6) (hx:RRx (Γ.wm ms) β Im s a.tmps w) (hl:lq P s.regs s.get o.op (kput o.dst K s)) :
  o.wpIn (F0 ro) n P a w (fun a' w'=>∃ s,K s/\RRm Γ ms s a' w') Q:=by
 obtain ⟨v,l,hr,hrep,hK⟩:=X5 (P:=P) hx.fit (o:=o) hl;refine B5 (v:=v) (w':=w) (fun c hc=>?_) hr ⟨_,hK,Ga (Bf hdef) (hx.put _ hrep)⟩;rw [hc] at hl;simp [lq,lqv] at hl
theorem M6 {s:St} {a:Act} {w:World} {o:Oper} {K:St->Prop} {Q:Exit->Act->World->Prop} {n:Nat} {β:Env} {Im:Nat->Prop} {ms:List Nat} (hG:Γ.G=X.G) (hdef:a.defers=ms.map F6) (hx:RRx (Γ.wm ms) β Im s a.tmps w)
  {g:FuncId} {ls:List L} {vs:List Value} (hd:∀ c,o.op≠.defer c) (hlen:vs.length=ls.length) (hrep:∀ (i:Nat) (v:Value) (l:L),vs[i]? = some v->ls[i]? = some l->LRep β w Im v l)
  (hr:(execOp a.eval o).run X.P w=(callFunc g ⟨vs⟩).run X.P w) (hl:Ll X g ls s o.dst K):o.wpIn (F0 ro) n X.P a w (fun a' w'=>∃ s,K s/\RRm Γ ms s a' w') Q:=by
 unfold Ll N2 at hl;have hρ:=Jki (Rs ls) s.regs;generalize Ra (Dj [] (Rs ls)) s.regs=ρ at hl hρ;obtain ⟨hent,hl⟩:=hl;refine Q0 (f:=g) (args:=⟨vs⟩) (w':=w) hd (by rw [hr];exact hent _ _) ?_;refine (hl (Ky ρ β) Im w vs (hG ▸ hx.glob) (hx.fit.call hρ hlen hrep)).mono fun e w' ⟨v,l,rs',β',Im2,he,hP,hrp,hstep⟩=>⟨v,he,_,hP,Ga (Bf hdef) ((hx.called hρ (nw:=Ek o.dst rs') ?_ ?_ hstep).put _ ?_)⟩
 ·intro d hd;unfold Ek at hd;split at hd
  ·cases hdst:o.dst with
   | none=>rw [hdst] at hd;have:=Ea3 hd;subst this;decide
   | some d0 =>
    rw [hdst] at hd;have:=Option.some.inj hd;subst this;dsimp only;by_cases h9:d0<900
    ·rw [if_pos h9];exact Ebd h9 de
    ·rw [if_neg h9];decide
  ·cases hd
 ·intro hn;unfold Ek at hn;split at hn
  ·cases hn
  ·assumption
 ·refine hrp.map fun n d hd=>?_
  unfold C6 at hd;unfold C3;cases hnw:Ek o.dst rs' with
  | none =>
   rw [hnw] at hd;have:=(hρ.back n d).1 hd;simp [this]
  | some x =>
   rw [hnw] at hd;simp only at hd;split at hd
   ·rename_i h9;cases hd;subst h9;simp
   ·split at hd
    ·rename_i e he;split at hd
     ·cases hd
     ·rename_i hne;cases hd;have:=(hρ.back n d).1 he;rw [if_neg (by intro hc;exact hne (Ea3 hc).symm),this]
    ·cases hd
theorem V2 {s:St} {a:Act} {w:World} {β:Env} {Im:Nat->Prop} {ms:List Nat} (hx:RRx (Γ.wm ms) β Im s a.tmps w) {ta tb:TypeId} {u:List UInt8} {v0:Value} {dst:Option Tmp} {K:St->Prop} (hv0:LRep β w Im v0 (.p (.str u)))
  (hl:Og P ta tb u s dst K):∃ v w' β' Im' s' l,(convert ta tb v0).run P w=.ok v w'/\RRx (Γ.wm ms) β' Im' s' a.tmps w'/\LRep β' w' Im' v l/\K (s'.put dst l):=by
 unfold Og at hl;split at hl
 ·rename_i e hb;have hv:v0=.string ⟨⟨u⟩⟩:=by cases hv0;rfl
  subst hv;split at hl
  ·rename_i hr;split at hl
   ·rename_i d;obtain ⟨ha,hd,hu,hK⟩:=hl;obtain ⟨e',hb',he⟩:=Jyk hr;rw [hb] at hb';cases hb';have hrn:=Jzq ⟨⟨u⟩⟩ u.length 0 #[];rw [Ede] at hrn;have hlen:=J1s ⟨⟨u⟩⟩ u.length 0;have hsz:(⟨⟨u⟩⟩:ByteArray).size=u.length:=rfl;have hrs:(Conv.runesFrom ⟨⟨u⟩⟩ (⟨⟨u⟩⟩:ByteArray).size 0 #[])=((Jtv ⟨⟨u⟩⟩ u.length 0).map (Value.int .i32)).toArray:=by rw [hsz,hrn]
    have hrun:=run_runes_of_string (P:=P) w ta tb e ⟨⟨u⟩⟩ ha hb he (by rw [hrs];simp;omega);rw [hrs] at hrun;simp only [List.size_toArray,Ea9] at hrun;generalize hR:Jtv ⟨⟨u⟩⟩ u.length 0=R at *
    generalize hC:grownCap w R.length 0 e=C at hrun;have hCge:R.length<=C:=by rw [<- hC];exact grownCap_ge w _ 0 e
    have hCm:C<=maxLen:=by rw [<- hC];exact grownCap_le_maxLen w _ 0 e (by unfold maxLen;omega)
    clear hC hrs hrn;have g:Grow w Im (w.drew.alloc (.cells ((R.map (Value.int .i32)).toArray ++ Array.replicate (C - R.length) (.int .i32 0)) e)) Im:=(Grow.drew hx.fit.im).trans (Grow.alloc (w:=w.drew) hx.fit.im _);have hRL:(R.map fun n=>[PV.int .i32 n]).length=R.length:=by simp
    have hrl:Jwm u=R.map fun n=>[PV.int .i32 n]:=by unfold Jwm;rw [hR]
    obtain ⟨r1,r2⟩:=hx.newRow hd (T:=e) (sz:=1) (tot:=C) (cur:=R.map (Value.int .i32) ++ List.replicate (C - R.length) (.int .i32 0)) (es:=R.map fun n=>[PV.int .i32 n]) g sm (by
     have:=heap_alloc_new (w:=w.drew) (.cells ((R.map (Value.int .i32)).toArray ++ Array.replicate (C - R.length) (.int .i32 0)) e);have e1:((R.map (Value.int .i32)).toArray ++ Array.replicate (C - R.length) (.int .i32 0))=(⟨R.map (Value.int .i32) ++ List.replicate (C - R.length) (.int .i32 0)⟩:Array Value):=by rw [<- Ebj];simp
     rw [e1] at this ⊢;exact this) (by simp;omega) (by rw [hRL];exact hCge) hCm (fun q hq=>by
      obtain ⟨n,_,rfl⟩:=Eap.1 hq;exact ⟨rfl,fun p hp=>by simp at hp;subst hp;rfl⟩) (fun i q j p hi hj=>by
      rw [Eam] at hi;obtain ⟨n,hn,rfl⟩:=Eak.1 hi;have hil:=(Eab.1 hn).1;cases j with
      | zero =>
       simp at hj;subst hj;exact ⟨.int .i32 n,by rw [Ecn,Nat.add_zero,Eaq (by simpa using hil),Eam,hn];rfl,PRep.int _ _⟩
      | succ j=>simp at hj)
    rw [hRL] at r2;rw [hrl,hRL] at hK;exact ⟨_,_,_,Im,_,_,hrun,r1,r2,hK⟩
   ·exact hl.elim
  obtain ⟨ha,he,hK⟩:=hl;obtain ⟨ua,ha⟩:=Ecm.1 ha;have hrun:=Lib.run_convert_string_bytes (P:=P) w ta tb e ⟨⟨u⟩⟩ ha hb he;have g:Grow w Im (Lib.bytesWorld w e ⟨⟨u⟩⟩) (fun b=>Im b\/b=w.heap.size) :=
   {
    os:=rfl,tape:=rfl,output:=rfl,size:=by rw [Lib.bytesWorld_size];omega,block:=fun k hk=>Lib.bytesWorld_at_old w e _ k hk,im:=fun b hb=>.inl hb,
    new:=fun b hb=>hb.elim .inl fun h=>.inr omg,lt:=fun b hb=>by rw [Lib.bytesWorld_size];rcases hb with hb | rfl;exact Nat.lt_succ_of_lt (hx.fit.im b hb);exact Nat.lt_succ_self _ }
  have hsz:(⟨⟨u⟩⟩:ByteArray).size=u.length:=rfl;have hlen:(u.map fun c=>[PV.int .u8 c.toNat]).length=u.length:=by simp
  refine ⟨_,_,_,_,_,_,hrun,hx.grow g,?_,hK⟩;show PRep _ _ (.slice (some ⟨w.heap.size,0,none⟩) (⟨⟨u⟩⟩:ByteArray).size _) (.sl (u.map fun c=>[PV.int .u8 c.toNat]));have e1:(⟨⟨u⟩⟩:ByteArray).size=(u.map fun c=>[PV.int .u8 c.toNat]).length:=by rw [hlen];rfl
  rw [e1];refine PRep.sl w.heap.size 0 _ 1 _ (grownCap_ge w _ 0 e) (.inr rfl) (fun i _=>.int .u8 (u.getD i 0).toNat) (fun x hx=>?_) (fun x hx p hp=>?_) (fun i hi j hj=>?_) (fun i x j p hi hj=>?_)
  ·obtain ⟨c,_,rfl⟩:=Eap.1 hx;rfl
  ·obtain ⟨c,_,rfl⟩:=Eap.1 hx;simp at hp;subst hp;rfl
  ·have hj0:j=0:=by omega
   subst hj0;rw [show 0+i * 1+0=i by omega];exact Lib.bytesWorld_cell w e ⟨⟨u⟩⟩ i (by rw [hsz];rw [hlen] at hi;exact hi)
  ·rw [Eam] at hi;obtain ⟨c,hc,rfl⟩:=Eak.1 hi;cases j with
   | zero =>
    simp at hj;subst hj;have:u.getD i 0=c:=by simp [Eah,hc]
    rw [this];exact .int _ _
   | succ j=>simp at hj
 ·obtain ⟨v,l,hr,hrep,hK⟩:=Jl (P:=P) hv0 hl;exact ⟨v,w,β,Im,s,l,hr,hx,hrep,hK⟩
theorem Jb1 {s:St} {a:Act} {w:World} {β:Env} {Im:Nat->Prop} {ms:List Nat} (hx:RRx (Γ.wm ms) β Im s a.tmps w) {t:TypeId} {x:Operand} {lo hi:Option Operand} {d:Nat} {N:St->L->Prop} (hg:s.get x=.ptr d 0 0)
  (hl:larr P t s d lo hi N (Am d s.regs)):∃ v s' l Im',(Instr.sliceAt t (a.eval x) (lo.map a.eval) (hi.map a.eval) none).run P w=.ok v w/\RRx (Γ.wm ms) β Im' s' a.tmps w/\LRep β w Im' v l/\N s' l:=by
 unfold larr at hl;split at hl
 ·rename_i T cs n e sz hr ha;obtain ⟨rfl,rfl,ps,hps,l,hh,hlo,hhi,h0,h1,h2,hN⟩:=hl;obtain ⟨ht,hc1,_⟩:=Rh ha;have hxr:=A2 hx.fit x;rw [hg] at hxr;obtain ⟨loc,hβ,hv⟩:=hxr;obtain ⟨loc',cur,hβ',g2,g3,g4,g5,g6⟩:=hx.fit.regs d _ (Ax hr);rw [hβ] at hβ';cases hβ';have hb:=Fe (P:=P) (w:=w) false cs.length cs.length _ _ l hh (Co hx.fit hlo) (Co hx.fit hhi) h0 h1 h2;have hz:(0:Nat) * loc.sz+0=0:=by simp
  have hrun:(Instr.sliceAt t (a.eval x) (lo.map a.eval) (hi.map a.eval) none).run P w=.ok (.slice (some (if cs.length=l.toNat then ⟨loc.blk,0,none⟩ else ⟨loc.blk,l.toNat,none⟩)) (hh.toNat - l.toNat) (cs.length - l.toNat)) w:=by
   rw [hv,hz];simp only [Instr.sliceAt,Sem.run_bind,run_underlying ht,Result.andThen_ok,Instr.sureAddr,hb,Bk (P:=P) (t:=e) rfl omg,Sem.run_pure,hc1];split
   ·simp
   ·simp [Addr.add];omega
  have hfz:=hx.freezeZ d (.ar ps) ⟨_,_,hx.fit.regs d _ (Ax hr),hps⟩ _ (Ax hr);refine ⟨_,_,_,_,hrun,hfz,?_,hN⟩;obtain ⟨hlen,hsp⟩:=Bh hps;have hl1:(((ps.map fun p=>[p]).drop l.toNat).take (hh.toNat - l.toNat)).length=hh.toNat - l.toNat:=by simp;omega
  show PRep w _ _ _;have hbi:(Im loc.blk\/∃ loc',β d=some loc'/\loc.blk=loc'.blk):=.inr ⟨loc,hβ,rfl⟩;by_cases hcl:cs.length=l.toNat
  ·have he:((ps.map fun p=>[p]).drop l.toNat).take (hh.toNat - l.toNat)=[]:=Eal (by rw [hl1];omega);rw [he,if_pos hcl,show hh.toNat - l.toNat=0 by omega];exact PRep.sl loc.blk 0 _ 1 [] (Eav _) hbi (fun _ _=>undef) (fun x hx=>by cases hx) (fun x hx=>by cases hx) (fun i hi=>by simp at hi) (fun i x j p hi=>by simp at hi)
  ·rw [if_neg hcl]
   conv=>arg 3;rw [<- hl1]
   have key:∀ (i:Nat) (p:PV),ps[i]? = some p->∃ v,cur[i]? = some v/\PRep w Im v p/\p.scalar=true:=by
    intro i p hp;obtain ⟨c,hc⟩:=getElem?_of_length hlen hp;obtain ⟨v,hv'⟩:=getElem?_of_length g5 hc;have h1:=hsp i c p hc hp;obtain ⟨r1,r2⟩:=g6 i v c hv' hc;cases c with
    | p q =>
     simp only [L.pure?] at h1;cases h1;refine ⟨v,hv',r1,?_⟩;rcases r2 with r2 | r2
     ·exact r2
     ·cases r2
    | _=>simp [L.pure?] at h1
   have hmem:∀ y∈((ps.map fun p=>[p]).drop l.toNat).take (hh.toNat - l.toNat),∃ p∈ps,y=[p]:=fun y hy=>by
    have:=Ea7 (Ebm hy);obtain ⟨p,hp,rfl⟩:=Eap.1 this;exact ⟨p,hp,rfl⟩
   have hk:Keeps w Im w (fun b=>Im b\/∃ loc,β d=some loc/\b=loc.blk):=⟨fun b hb=>.inl hb,fun _ _=>rfl⟩
   refine PRep.sl loc.blk l.toNat (cs.length - l.toNat) 1 _ (by rw [hl1];omega) hbi (fun i j=>cur.getD (l.toNat+i) undef) (fun y hy=>?_) (fun y hy p hp=>?_) (fun i hi j hj=>?_) (fun i y j p hi hj=>?_)
   ·obtain ⟨p,_,rfl⟩:=hmem y hy;rfl
   ·obtain ⟨q,hq,rfl⟩:=hmem y hy;have:p=q:=by simpa using hp
    subst this;obtain ⟨i,hi,he⟩:=Ea6 hq;obtain ⟨_,_,_,h3⟩:=key i p (by rw [Eaa hi,he]);exact h3
   ·rw [hl1] at hi;have hj0:j=0:=by omega
    subst hj0;rw [D7 g4];have hlt:l.toNat+i<cur.length:=by omega
    rw [show l.toNat+i * 1+0=l.toNat+i by omega,Eaa hlt];simp [Eah,hlt]
   ·rw [Eao] at hi;split at hi
    ·rw [Ecg,Eam] at hi;obtain ⟨q,hq,rfl⟩:=Eak.1 hi;cases j with
     | zero =>
      simp at hj;subst hj;obtain ⟨v,hv',hp',_⟩:=key _ _ hq;have:cur.getD (l.toNat+i) undef=v:=by simp [Eah,hv']
      rw [this];exact hp'.mono hk
     | succ j=>simp at hj
    ·cases hi
 ·exact hl.elim
theorem Lm {s:St} {ms:List Nat} {a:Act} {w:World} {o:Oper} {K:St->Prop} {Q:Exit->Act->World->Prop} {n:Nat} (hG:Γ.G=X.G) (h:RRm Γ ms s a w) (hl:lop X o K s):o.wpIn (F0 ro) n X.P a w (fun a' w'=>∃ s,K s/\RRm Γ ms s a' w') Q:=by
 obtain ⟨hdef,β,Im,hx⟩:=h;unfold lop at hl;split at hl
 ·rename_i T d ho hdst;exact (Wi hx hl).oper (by rw [ho];simp) (by unfold execOp;rw [ho]) hdst hdef
 ·rename_i T x d ho hdst;exact (Jat (P:=X.P) hx hl).oper (by rw [ho];simp) (by unfold execOp;rw [ho]) hdst hdef
 ·rename_i t m parts d ho hdst;have:Lb (Γ.wm ms) a d ((Instr.buildSlice t m ⟨parts.toList.map fun (i,x)=>(i,a.eval x)⟩).run X.P w) K:=by
   split at hl
   ·exact J05 hx hl.1 hl.2
   ·exact Mw hx hl
  have e:(parts.map fun (i,x)=>(i,a.eval x))=⟨parts.toList.map fun (i,x)=>(i,a.eval x)⟩:=by rw [<- Ebj];simp
  rw [<- e] at this;exact this.oper (by rw [ho];simp) (by unfold execOp;rw [ho]) hdst hdef
 ·rename_i t l c d ho hdst;exact (Nj hx hl).oper (by rw [ho];simp) (by unfold execOp;rw [ho]) hdst hdef
 ·rename_i t d ho hdst;exact (P9 (P:=X.P) (T:=t) hx hl).oper (by rw [ho];simp) (by unfold execOp;rw [ho];rfl) hdst hdef
 ·rename_i t x d ho hdst;exact (Wl hx hl).oper (by rw [ho];simp) (by unfold execOp;rw [ho]) hdst hdef
 ·rename_i it b ho;obtain ⟨v,w',s',l,hr,hx',hrep,hK⟩:=Zv (P:=X.P) (ty:=o.type) hx hl;exact B5 (v:=v) (w':=w') (by rw [ho];simp) (by unfold execOp;rw [ho];simp [hr]) ⟨_,hK,Ga (Bf hdef) (hx'.put _ hrep)⟩
 ·rename_i it ho;obtain ⟨v,l,hr,hrep,hK⟩:=Vx (P:=X.P) hx.fit hl;exact B5 (v:=v) (w':=w) (by rw [ho];simp) (by unfold execOp;rw [ho];simp [hr]) ⟨_,hK,Ga (Bf hdef) (hx.put _ hrep)⟩
 ·rename_i t m k v ho;obtain ⟨w',s',Im',hr,hK,h'⟩:=Hw hx hl;exact Ij (w':=w') (by rw [ho];simp) (by unfold execOp;rw [ho];simp [hr]) ⟨_,hK,Ga (Bf hdef) (h'.put _ ⟨[],rfl,rfl,fun i x p h=>by simp at h⟩)⟩
 ·rename_i t m k v ho;obtain ⟨w',s',Im',hr,hK,h'⟩:=Hw hx hl;exact Ij (w':=w') (by rw [ho];simp) (by unfold execOp;rw [ho];simp [hr]) ⟨_,hK,Ga (Bf hdef) (h'.put _ ⟨[],rfl,rfl,fun i x p h=>by simp at h⟩)⟩
 ·rename_i t m k ho;obtain ⟨v,w',s',l,hr,hx',hrep,hK⟩:=J09 hx hl;exact B5 (v:=v) (w':=w') (by rw [ho];simp) (by unfold execOp;rw [ho];simp [hr]) ⟨_,hK,Ga (Bf hdef) (hx'.put _ hrep)⟩
 ·rename_i t m e v ho;obtain ⟨w',s',Im',hr,hK,h'⟩:=Jzh (P:=X.P) (t:=t) hx hl;exact Ij (w':=w') (by rw [ho];simp) (by unfold execOp;rw [ho];simp [hr]) ⟨_,hK,Ga (Bf hdef) (h'.put _ ⟨[],rfl,rfl,fun i x p h=>by simp at h⟩)⟩
 ·rename_i t x y ho;obtain ⟨w',s',Im',hr,hK,h'⟩:=Uo hx hl;exact Ij (w':=w') (by rw [ho];simp) (by unfold execOp;rw [ho];simp [hr]) ⟨_,hK,Ga (Bf hdef) (h'.put _ ⟨[],rfl,rfl,fun i x p h=>by simp at h⟩)⟩
 ·rename_i args ts d ho hdst;split at hl
  ·rename_i x y t t' ha ht;have:Lb (Γ.wm ms) a d ((Builtin.append_ #[t,t'] o.type #[a.eval x,a.eval y]).run X.P w) K:=by
    split at hl
    ·obtain ⟨rfl,hl⟩:=hl;exact J2u hx hl
    ·exact Sz hx hl
   refine this.oper (by rw [ho];simp) ?_ hdst hdef;unfold execOp;rw [ho];obtain ⟨la⟩:=args;obtain ⟨lt⟩:=ts;simp only at ha ht;subst ha;subst ht;simp [resolve,invoke,builtin]
  ·exact hl.elim
 ·rename_i args ts ho;split at hl
  ·rename_i x y t t' ha ht;obtain ⟨la⟩:=args;obtain ⟨lt⟩:=ts;simp only at ha ht;subst ha;subst ht;obtain ⟨v,w',s',l,hr,h',hrep,hK⟩:=Z6 (P:=X.P) (ty:=o.type) hx hl;exact B5 (v:=v) (w':=w') (by rw [ho];simp) (by unfold execOp;rw [ho];simp [resolve,invoke,builtin,hr]) ⟨_,hK,Ga (Bf hdef) (h'.put _ hrep)⟩
  ·exact hl.elim
 ·rename_i args ts ho;split at hl
  ·rename_i m k t ts' ha ht;obtain ⟨la⟩:=args;obtain ⟨lt⟩:=ts;simp only at ha ht;subst ha;subst ht;obtain ⟨w',s',hr,hK,h'⟩:=S2 (P:=X.P) (ty:=o.type) (ts:=ts') hx hl;exact B5 (v:=.tuple #[]) (w':=w') (by rw [ho];simp) (by unfold execOp;rw [ho];simp [resolve,invoke,builtin,hr]) ⟨_,hK,Ga (Bf hdef) (h'.put _ ⟨[],rfl,rfl,fun i x p h=>by simp at h⟩)⟩
  ·exact hl.elim
 ·rename_i args ts ho;unfold Jd6 at hl;split at hl
  ·rename_i x y t it ha ht;split at hl
   ·exact Wb hdef hx hl
   ·obtain ⟨la⟩:=args;obtain ⟨lt⟩:=ts;simp only at ha ht;subst ha;subst ht;obtain ⟨v,w',s',l,hr,h',hrep,hK⟩:=Ni (P:=X.P) (it:=it) (ty:=o.type) hx hl;exact B5 (v:=v) (w':=w') (by rw [ho];simp) (by unfold execOp;rw [ho];simp [resolve,invoke,builtin,hr]) ⟨_,hK,Ga (Bf hdef) (h'.put _ hrep)⟩
  ·exact hl.elim
 ·rename_i f args ts ho;unfold Jc1 at hl;split at hl
  ·rename_i g ds hg;have hrf:=A2 hx.fit f;rw [hg] at hrf;obtain ⟨cs,hv,hcl,hcs⟩:=hrf;have hrun:(execOp a.eval o).run X.P w=(callFunc g ⟨args.toList.map a.eval ++ cs⟩).run X.P w:=by
    unfold execOp;rw [ho];have e:args.map a.eval ++ (⟨cs⟩:Array Value)=⟨args.toList.map a.eval ++ cs⟩:=by rw [<- Ebj];simp
    simp only [resolve,Sem.run_bind,hv,Deferred.ofValue,Sem.run_pure,Result.andThen_ok,invoke,Ede,e]
   have hargs:∀ {s':St} {Im':Nat->Prop},RRx (Γ.wm ms) β Im' s' a.tmps w->∀ (i:Nat) (v:Value) (l:L),(args.toList.map a.eval ++ cs)[i]? = some v->(args.toList.map s'.get ++ ds.map fun d=>L.ptr d 0 0)[i]? = some l->LRep β w Im' v l:=by
    intro s' Im' hx' i v l hi hl';by_cases hlt:i<args.toList.length
    ·rw [Eaq (by simpa using hlt),Eam] at hi hl';obtain ⟨q,hq,rfl⟩:=Eak.1 hi;rw [hq] at hl';cases hl';exact A2 hx'.fit q
    ·rw [Ean (by simpa using hlt)] at hi hl';simp only [Ea9] at hi hl';rw [Eam] at hl';obtain ⟨d,hd,rfl⟩:=Eak.1 hl';obtain ⟨loc,h1,h2⟩:=hcs _ v d hi hd;exact ⟨loc,h1,by simpa using h2⟩
   unfold Jm at hl;split at hl
   ·obtain ⟨Im',hx'⟩:=RRx.freezeOps args.toList hx;exact M6 hG hdef hx' (by rw [ho];simp) (by simp [hcl]) (hargs hx') hrun hl
   ·exact M6 hG hdef hx (by rw [ho];simp) (by simp [hcl]) (hargs hx) hrun hl
   ·obtain ⟨rfl,l,hX,hK⟩:=hl;have hc0:cs=[]:=by simpa using hcl
    subst hc0;have hfit:Fit β w Im ⟨args.toList.map s.get,s.regs⟩ ⟨args.toList.map a.eval⟩ :=
     {
      size:=by simp,tmps:=fun i l hl'=>by
       rw [Eam] at hl';obtain ⟨q,hq,rfl⟩:=Eak.1 hl';have e:(⟨args.toList.map a.eval⟩:Array Value).getD i undef=a.eval q:=by
        rw [Eas,Ec3,Eam,hq];rfl
       rw [e];exact A2 hx.fit q
      regs:=hx.fit.regs,nodup:=hx.fit.nodup,live:=hx.fit.live,apart:=hx.fit.apart,im:=hx.fit.im }
    obtain ⟨v,hr,hrep⟩:=hX β Im w _ hfit;exact B5 (v:=v) (w':=w) (by rw [ho];simp) (by rw [hrun];simpa using hr) ⟨_,hK,Ga (Bf hdef) (hx.put _ hrep)⟩
   ·obtain ⟨rfl,l,hX,hK⟩:=hl;have hc0:cs=[]:=by simpa using hcl
    subst hc0;obtain ⟨v,hr,hrep⟩:=hX β Im w (args.toList.map a.eval ++ []) sm (fun i v l hi hl'=>hargs hx i v l hi (by simpa using hl'));exact B5 (v:=v) (w':=w) (by rw [ho];simp) (by rw [hrun,hr]) ⟨_,hK,Ga (Bf hdef) (hx.put _ hrep)⟩
  ·rename_i g ps hg;obtain ⟨_,hg',hl⟩:=hl;obtain ⟨Im',hx'⟩:=RRx.freezeOps args.toList hx;have hrf:=A2 hx'.fit f;rw [hg'] at hrf;obtain ⟨b,o',hv,hrep⟩:=J7z (β:=β) hrf;have hrun:(execOp a.eval o).run X.P w=(callFunc g ⟨args.toList.map a.eval ++ [.pointer (some ⟨b,o',none⟩)]⟩).run X.P w:=by
    unfold execOp;rw [ho];have e:args.map a.eval ++ (#[.pointer (some ⟨b,o',none⟩)]:Array Value)=⟨args.toList.map a.eval ++ [.pointer (some ⟨b,o',none⟩)]⟩:=by rw [<- Ebj];simp
    simp only [resolve,Sem.run_bind,hv,Deferred.ofValue,Sem.run_pure,Result.andThen_ok,invoke,Ede,e]
   refine M6 hG hdef hx' (by rw [ho];simp) sm (fun i v l hi hl'=>?_) hrun hl;by_cases hlt:i<args.toList.length
   ·rw [Eaq (by simpa using hlt),Eam] at hi hl';obtain ⟨q,hq,rfl⟩:=Eak.1 hi;rw [hq] at hl';cases hl';exact A2 hx'.fit q
   ·rw [Ean (by simpa using hlt)] at hi hl';simp only [Ea9] at hi hl';cases hk:i - args.toList.length with
    | zero=>rw [hk] at hi hl';simp at hi hl';subst hi;subst hl';exact hrep
    | succ k=>rw [hk] at hi;simp at hi
  ·exact hl.elim
 ·rename_i a1 b1 x ho;unfold Jke at hl;split at hl
  ·rename_i d j hg;have hr:=A2 hx.fit x;rw [hg] at hr;obtain ⟨v,l,hr,hrep,hK⟩:=P5 (P:=X.P) hx.fit hr hl;exact B5 (v:=v) (w':=w) (by rw [ho];simp) (by unfold execOp;rw [ho];simp [hr]) ⟨_,hK,Ga (Bf hdef) (hx.put _ hrep)⟩
  ·rename_i u hg;have hr:=A2 hx.fit x;rw [hg] at hr;obtain ⟨v,w',β',Im',s',l,hr,hx',hrep,hK⟩:=V2 (P:=X.P) hx hr hl;exact B5 (v:=v) (w':=w') (by rw [ho];simp) (by unfold execOp;rw [ho];simp [hr]) ⟨_,hK,Ga (Bf hdef) (hx'.put _ hrep)⟩
  ·obtain ⟨Im',hx'⟩:=RRx.freezeOps [x] hx;have hl:∃ v l,(convert a1 b1 (a.eval x)).run X.P w=.ok v w/\LRep β w Im' v l/\kput o.dst K (s.freezeOps [x]) l:=by
    split at hl
    ·rename_i hr;exact J5q hr (A2 hx'.fit x) hl
    ·exact Jl (P:=X.P) (A2 hx'.fit x) hl
   obtain ⟨v,l,hr,hrep,hK⟩:=hl;exact B5 (v:=v) (w':=w) (by rw [ho];simp) (by unfold execOp;rw [ho];simp [hr]) ⟨_,hK,Ga (Bf hdef) (hx'.put _ hrep)⟩
 ·rename_i t x lo hi ho;unfold lslG at hl;split at hl
  ·rename_i d hg;obtain ⟨v,s',l,Im',hr,hx',hrep,hK⟩:=Jb1 (P:=X.P) hx hg hl;exact B5 (v:=v) (w':=w) (by rw [ho];simp) (by unfold execOp;rw [ho];simp [hr]) ⟨_,hK,Ga (Bf hdef) (hx'.put _ hrep)⟩
  ·exact Wb hdef hx hl
 ·exact Wb hdef hx hl
theorem T5 {s:St} {a:Act} {w:World} {o:Oper} {K:St->Prop} {Q:Exit->Act->World->Prop} {n:Nat} (hG:Γ.G=X.G) (h:RR Γ s a w) (hl:lop X o K s):o.wpIn (F0 ro) n X.P a w (fun a' w'=>∃ s,K s/\RR Γ s a' w') Q:=by
 obtain ⟨ms,hdef,hh⟩:=h;exact Oper.wpIn_mono (fun a' w' ⟨s',h1,h2⟩=>⟨s',h1,h2.rr⟩) (Lm (ms:=ms) hG ⟨hdef,hh⟩ hl)
theorem Gb {s:St} {a:Act} {w:World} {ops:Array Oper} {g:Option (Nat×Bool)} {A B:St->Prop} (h:RR Γ s a w) (hl:F4 (ops.toList.map (·.dst)) g A B s) :
  ∃ s',RR Γ s' a w/\((A s'/\∀ o:Oper,o.guard=g->Region.wanted o (yielded ops a.tmps)=true)\/(B s'/\∀ o:Oper,o.guard=g->Region.wanted o (yielded ops a.tmps)=false)):=by
 unfold F4 at hl;split at hl
 ·exact ⟨s,h,.inl ⟨hl,fun o ho=>by simp [Region.wanted,ho]⟩⟩
 ·rename_i j want;split at hl
  ·rename_i dj hdj;obtain ⟨ms,hdef,β,Im,hx⟩:=h;have hlook:(ops[j]?).bind (·.dst)=some dj:=by
    rw [Eah,Eam] at hdj;cases hj:ops[j]? with
    | none=>simp [hj] at hdj
    | some o=>simpa [hj] using hdj
   split at hl
   ·rename_i c hc;have hlt:s.tmps[dj]? = some (.p (.bool c)):=by
     rw [Eah] at hc;cases hs:s.tmps[dj]? with
     | none=>rw [hs] at hc;simp at hc
     | some l=>rw [hs] at hc;simp at hc;rw [hc]
    have hrep:=hx.fit.tmps dj _ hlt;have hsz:dj<a.tmps.size:=by rw [hx.fit.size];exact (Eab.1 hlt).1
    have hv:a.tmps[dj]? = some (.bool c):=by
     have e1:a.tmps.getD dj undef=a.tmps[dj]:=by simp [Eas,hsz]
     rw [e1] at hrep;cases hvv:a.tmps[dj] with
     | bool b=>rw [hvv] at hrep;cases hrep;simp [hsz,hvv]
     | _=>rw [hvv] at hrep;cases hrep
    have hy:yielded ops a.tmps j=some c:=by simp [yielded,hlook,hv]
    have same:∀ c',c=c'->RR Γ (s.put (some dj) (.p (.bool c'))) a w:=by
     rintro c' rfl;have e:s.put (some dj) (.p (.bool c))=s:=by
      simp only [St.put];congr 1;obtain ⟨hl1,hl2⟩:=Eab.1 hlt;rw [<- hl2];exact List.set_getElem_self hl1
     rw [e];exact ⟨ms,hdef,β,Im,hx⟩
    by_cases hcw:c=want
    ·exact ⟨_,same want hcw,.inl ⟨hl.1 hcw,fun o ho=>by simp [Region.wanted,ho,hy,hcw]⟩⟩
    ·have hcw':c = !want:=by cases c <;> cases want <;> simp_all
     exact ⟨_,same (!want) hcw',.inr ⟨hl.2 hcw',fun o ho=>by simp [Region.wanted,ho,hy,hcw]⟩⟩
   ·rename_i hc;have hlt:s.tmps[dj]? = some (.tup []):=by
     rw [Eah] at hc;cases hs:s.tmps[dj]? with
     | none=>rw [hs] at hc;simp at hc
     | some l=>rw [hs] at hc;simp at hc;rw [hc]
    have hrep:=hx.fit.tmps dj _ hlt;have hsz:dj<a.tmps.size:=by rw [hx.fit.size];exact (Eab.1 hlt).1
    have e1:a.tmps.getD dj undef=a.tmps[dj]:=by simp [Eas,hsz]
    rw [e1] at hrep;obtain ⟨vs,hv,_⟩:=hrep;have hy:yielded ops a.tmps j=none:=by simp [yielded,hlook,hsz,hv]
    exact ⟨s,⟨ms,hdef,β,Im,hx⟩,.inr ⟨hl,fun o ho=>by simp [Region.wanted,ho,hy]⟩⟩
   ·exact hl.elim
  ·exact hl.elim
theorem H0 {β:Env} {w:World} {Im:Nat->Prop}:LRep β w Im undef (.tup []):=⟨[],rfl,rfl,fun i x p h=>by simp at h⟩
theorem Lv {ops:Array Oper} {K:St->Prop} {Q:Exit->Act->World->Prop} {n:Nat} (hG:Γ.G=X.G) (hQ:∀ s a w,K s->RR Γ s a w->Q .normal a w):∀ (l:List Oper) (k:Nat),(∀ j,l[j]? = ops[k+j]?)->∀ (s:St) (a:Act) (w:World),RR Γ s a w ->
  lops X (ops.toList.map (·.dst)) l K s->wpOpsIn (F0 ro) n X.P ops Q (List.range' k l.length) a w
 | [],k,_,s,a,w,h,hl=>by simpa [wpOpsIn] using hQ s a w hl h
 | o :: l,k,hk,s,a,w,h,hl=>by
  have h0:ops[k]? = some o:=by simpa using (hk 0).symm
  have hk':∀ j,l[j]? = ops[k+1+j]?:=fun j=>by have:=hk (j+1);simpa [Ebx,Ecr 1 j] using this
  simp only [List.length_cons,List.range'_succ,wpOpsIn,h0];simp only [lops] at hl;obtain ⟨s',h',hc⟩:=Gb h hl;rcases hc with ⟨hA,hw⟩ | ⟨hB,hw⟩
  ·rw [if_pos (hw o rfl)];exact Oper.wpIn_mono (fun a' w' ⟨s2,hs2,hr2⟩=>Lv hG hQ l (k+1) hk' s2 a' w' hr2 hs2) (T5 hG h' hA)
  ·rw [if_neg (by rw [hw o rfl];simp)];obtain ⟨ms,hdef,β,Im,hx⟩:=h';exact ⟨fun _ _=>trivial,Lv hG hQ l (k+1) hk' _ _ w ⟨ms,Bf hdef,β,Im,hx.put o.dst H0⟩ hB⟩
end
def L.retOK:L->Bool
 | .p _=>true
 | .tup _=>true
 | _=>false
def lqbs (P:Program) (s:St) (t:TypeId) (n:Nat) (parts:List (Nat×Operand)) (K:L->Prop):Prop :=
 ∃
  e sz,slE P t=some (e,sz)/\n * sz<=16777216/\(∃ zs,Bu P e=some zs/\zs.length=sz)/\parts.length=n/\Jt 0 (parts.map fun (i,x)=>(i,s.get x))=true /\
  ∃ es,Dn sz (parts.map fun (i,x)=>(i,s.get x))=some es/\K (.p (.sl es))
def lqc (X:Cx) (s:St) (o:Oper) (K:L->Prop):Prop :=
 match o.op with
 | .call { callee:=.value f,args,argTypes:=_ }=>match s.get f with
  | .fn g []=>∃ l,(Al X g (args.toList.map s.get) [] (fun m _=>m=l)/\l.retOK=true)/\K l
  | .p (.clo g ps)=>∃ l,(Al X g (args.toList.map s.get ++ [.eptr ps]) [] (fun m _=>m=l)/\l.retOK=true)/\K l
  | _=>False
 | .buildSlice t n parts=>lqbs X.P s t n parts.toList K
 | op=>lq X.P s.regs s.get op K
def kq (X:Cx) (o:Oper) (K:St->Prop) (s:St):Prop:=lqc X s o (kput o.dst K s)
def Jf (X:Cx) (ds:List (Option Tmp)):List Oper->(St->Prop)->St->Prop
 | [],K,s=>K s
 | o :: rest,K,s=>F4 ds o.guard (kq X o (Jf X ds rest K)) (F9 o.dst (Jf X ds rest K)) s
def YS (X:Cx) (ds:List (Option Tmp)) (s:St) (o:Oper) (K:L->Prop):Prop :=
 match o.guard with
 | none=>lqc X s o K
 | some (j,want)=>match ds.getD j none with
  | some dj=>match s.tmps.getD dj .junk with
   | .p (.bool c)=>if c=want then lqc X s o K else K (.tup [])
   | .tup []=>K (.tup [])
   | _=>False
  | none=>False
def Jds (X:Cx) (ds:List (Option Tmp)) (K:St->Prop):List Oper->St->Prop
 | [],s=>K s
 | o :: rest,s=>YS X ds s o fun l=>Jds X ds K rest (s.put o.dst l)
section
variable {X:Cx} {Γ:Base} {ro:Option Nat} {ops:Array Oper} {md:Region.Mode}
theorem Mu {s:St} {o:Oper} {K K':L->Prop} (h:∀ l,K l->K' l) (hl:lqc X s o K):lqc X s o K':=by
 unfold lqc at hl ⊢;split at hl
 ·split at hl
  ·obtain ⟨l,h1,h2⟩:=hl;exact ⟨l,h1,h l h2⟩
  ·obtain ⟨l,h1,h2⟩:=hl;exact ⟨l,h1,h l h2⟩
  ·exact hl.elim
 ·obtain ⟨e,sz,h1,h2,h3,h4,h5,es,h6,h7⟩:=hl;exact ⟨e,sz,h1,h2,h3,h4,h5,es,h6,h _ h7⟩
 ·exact Jpx h hl
theorem Th {s:St} {o:Oper} {K:L->Prop} (hl:lqc X s o K):∃ l,lqc X s o (fun m=>m=l)/\K l:=by
 unfold lqc at hl ⊢;split at hl
 ·split at hl
  ·obtain ⟨l,h1,h2⟩:=hl;exact ⟨l,⟨l,h1,rfl⟩,h2⟩
  ·obtain ⟨l,h1,h2⟩:=hl;exact ⟨l,⟨l,h1,rfl⟩,h2⟩
  ·exact hl.elim
 ·obtain ⟨e,sz,h1,h2,h3,h4,h5,es,h6,h7⟩:=hl;exact ⟨_,⟨e,sz,h1,h2,h3,h4,h5,es,h6,rfl⟩,h7⟩
 ·exact Jis hl
theorem Tx {s s':St} {o:Oper} {K:L->Prop} (hr:s'.regs=s.regs) (hρ:∀ x∈o.op.operands.toList,s'.get x=s.get x) (hl:lqc X s o K):lqc X s' o K:=by
 unfold lqc at hl ⊢;split at hl
 ·rename_i f args ts ho;have e1:s'.get f=s.get f:=hρ f (by rw [ho];simp [Op.operands,Call.operands]);have e2:args.toList.map s'.get=args.toList.map s.get:=Ebh fun x hm=>hρ x (by rw [ho];simp [Op.operands,Call.operands];exact .inr (by simpa using hm))
  rw [e1,e2];exact hl
 ·rename_i t n parts ho;have e2:(parts.toList.map fun (i,x)=>(i,s'.get x))=parts.toList.map fun (i,x)=>(i,s.get x):=Ebh fun x hm=>by
   have:=hρ x.2 (by rw [ho];simp [Op.operands];exact ⟨x.1,by simpa using hm⟩);simp only [this]
  unfold lqbs at hl ⊢;rw [e2];exact hl
 ·rw [hr];exact Jj8 hρ hl
theorem Kr {ds:List (Option Tmp)} {s:St} {o:Oper} {K K':L->Prop} (h:∀ l,K l->K' l) (hl:YS X ds s o K):YS X ds s o K':=by
 unfold YS at hl ⊢;split at hl
 ·exact Mu h hl
 ·split at hl
  ·split at hl
   ·split at hl
    ·rename_i hc;rw [if_pos hc];exact Mu h hl
    ·rename_i hc;rw [if_neg hc];exact h _ hl
   ·exact h _ hl
   ·exact hl.elim
  ·exact hl.elim
theorem Jab {ds:List (Option Tmp)} {s:St} {o:Oper} {K:L->Prop} (hl:YS X ds s o K):∃ l,YS X ds s o (fun m=>m=l)/\K l:=by
 unfold YS at hl ⊢;split at hl
 ·exact Th hl
 ·split at hl
  ·split at hl
   ·split at hl
    ·rename_i hc;simp only [if_pos hc];exact Th hl
    ·rename_i hc;simp only [if_neg hc];exact ⟨_,rfl,hl⟩
   ·exact ⟨_,rfl,hl⟩
   ·exact hl.elim
  ·exact hl.elim
theorem Jmw {s:St} {dst:Option Tmp} {l:L} {x:Operand} (h:∀ d,dst=some d->x≠.tmp d):(s.put dst l).get x=s.get x:=by
 cases dst with
 | none=>rfl
 | some d =>
  cases x with
  | tmp t =>
   have:d≠t:=fun e=>h d rfl (by rw [e])
   simp [St.get,St.put,Eah,this]
  | const v=>rfl
  | global g=>rfl
  | func f=>rfl
theorem Jlk (j:Nat):(ops.toList.map (·.dst)).getD j none=(ops[j]?).bind (·.dst):=by
 rw [Eah,Eam];cases h:ops[j]? <;> simp [h]
theorem Uk {s:St} {o:Oper} {K:L->Prop} {dst:Option Tmp} {l:L} (h:∀ d,dst=some d->d ∉ o.looksAt ops) (hl:YS X (ops.toList.map (·.dst)) s o K):YS X (ops.toList.map (·.dst)) (s.put dst l) o K:=by
 have hop:∀ x∈o.op.operands.toList,(s.put dst l).get x=s.get x:=fun x hx=>Jmw fun d hd hxd=>h d hd (by
  subst hxd;exact Eb7 _ (List.mem_filterMap.2 ⟨.tmp d,by simpa using hx,rfl⟩))
 have hreg:(s.put dst l).regs=s.regs:=by cases dst <;> rfl
 unfold YS at hl ⊢;split at hl
 ·exact Tx hreg hop hl
 ·rename_i j want hg;split at hl
  ·rename_i dj hdj;have hdj':(ops[j]?).bind (·.dst)=some dj:=by rw [<- Jlk];exact hdj
   have hslot:(s.put dst l).tmps.getD dj .junk=s.tmps.getD dj .junk:=by
    cases dst with
    | none=>rfl
    | some d =>
     have:d≠dj:=fun e=>h d rfl (by
      subst e;unfold Oper.looksAt;refine Eb8 _ ?_;rw [hg];simp only [hdj'];simp)
     simp [St.put,Eah,this]
   rw [hslot];split at hl
   ·split at hl
    ·rename_i hc;rw [if_pos hc];exact Tx hreg hop hl
    ·rename_i hc;rw [if_neg hc];exact hl
   ·exact hl
   ·exact hl.elim
  ·exact hl.elim
theorem Js0 (s:St) {x y:Option Tmp} (v u:L) (h:∀ d,x=some d->y≠some d):(s.put x v).put y u=(s.put y u).put x v:=by
 cases x with
 | none=>rfl
 | some d=>cases y with
  | none=>rfl
  | some e =>
   have:d≠e:=fun h'=>h d rfl (by rw [h'])
   simp only [St.put];congr 1;exact List.set_comm _ _ this
theorem Yr {s:St} {o:Oper} {K:L->Prop} {dst:Option Tmp} {l:L} (h:∀ d,dst=some d->d ∉ o.looksAt ops) (hl:YS X (ops.toList.map (·.dst)) (s.put dst l) o K):YS X (ops.toList.map (·.dst)) s o K:=by
 cases dst with
 | none=>exact hl
 | some d =>
  cases hd:s.tmps[d]? with
  | none =>
   have:s.put (some d) l=s:=by
    simp only [St.put];congr 1;exact List.set_eq_of_length_le (by rw [List.getElem?_eq_none_iff] at hd;exact hd)
   rw [this] at hl;exact hl
  | some l0 =>
   have:=Uk (ops:=ops) (dst:=some d) (l:=l0) h hl;have e:(s.put (some d) l).put (some d) l0=s:=by
    simp only [St.put,List.set_set];congr 1;obtain ⟨h1,h2⟩:=Eab.1 hd;rw [<- h2];exact List.set_getElem_self h1
   rw [e] at this;exact this
def lAny (X:Cx) (md:Region.Mode) (ops:Array Oper) (K:St->Prop):Nat->Array Bool->St->Prop
 | 0,listed,s=>Region.ready md ops listed=[]/\K s
 | fuel+1,listed,s=>(Region.ready md ops listed=[]->K s) /\
  ∀ i∈Region.ready md ops listed,∀ o,ops[i]? = some o->YS X (ops.toList.map (·.dst)) s o fun l=>lAny X md ops K fuel (listed.setIfInBounds i true) (s.put o.dst l)
theorem Jck {K:St->Prop} {i:Nat} {oi:Oper} {v:L} (hi:ops[i]? = some oi):∀ (fuel:Nat) (listed:Array Bool) (s:St),
   (∀ j oj,ops[j]? = some oj->j≠i->listed.getD j true=false->(∀ e∈oj.after,Region.binds md e=true->e.on≠i)->oi.apart ops oj=true) ->
   i∈Region.ready md ops listed->YS X (ops.toList.map (·.dst)) s oi (fun m=>m=v) ->
   lAny X md ops K fuel (listed.setIfInBounds i true) (s.put oi.dst v)->lAny X md ops K (fuel+1) listed s:=by
 intro fuel
 induction fuel with
 | zero =>
  intro listed s _ hr hy H;refine ⟨fun h=>(by rw [h] at hr;cases hr),fun j hj oj hoj=>?_⟩;by_cases hji:j=i
  ·subst hji;rw [hi] at hoj;cases hoj;exact Kr (fun l hl=>by rw [hl];exact H) hy
  ·have:=ready_mono hj hji;rw [H.1] at this;cases this
 | succ fuel ih =>
  intro listed s hfree hr hy H;refine ⟨fun h=>(by rw [h] at hr;cases hr),fun j hj oj hoj=>?_⟩;by_cases hji:j=i
  ·subst hji;rw [hi] at hoj;cases hoj;exact Kr (fun l hl=>by rw [hl];exact H) hy
  ·have h1:=H.2 j (ready_mono hj hji) oj hoj;obtain ⟨hjun,oj',hoj',hall⟩:=mem_ready.1 hj;rw [hoj] at hoj';cases hoj';have hnot:∀ e∈oj.after,Region.binds md e=true->e.on≠i:=fun e he hb heq=>by
    have h1:=hall e he hb;have h0:=(mem_ready.1 hr).1;rw [heq] at h1;rcases Edk i listed.size with h' | h'
    ·simp [h'] at h0 h1;rw [h0] at h1;cases h1
    ·simp [Array.getElem?_eq_none h'] at h1
   obtain ⟨a1,a2,a3⟩:=Oper.apart_spec (hfree j oj hoj hji hjun hnot);have hfree':∀ k ok,ops[k]? = some ok->k≠i->(listed.setIfInBounds j true).getD k true=false ->
     (∀ e∈ok.after,Region.binds md e=true->e.on≠i)->oi.apart ops ok=true:=fun k ok hk hki hun hno=>by
    refine hfree k ok hk hki ?_ hno;by_cases hjk:j=k
    ·subst hjk;exact hjun
    ·rw [getD_set_ne true hjk] at hun;exact hun
   refine Kr (fun l hl=>?_) (Yr a1 h1);refine ih (listed.setIfInBounds j true) (s.put oj.dst l) hfree' (ready_mono hr (Ne.symm hji)) (Uk a3 hy) ?_;rw [Array.setIfInBounds_comm _ _ hji];rw [<- Js0 s v l a2];exact hl
theorem W7 {K:St->Prop}:∀ (l:List Oper) (k:Nat) (listed:Array Bool) (s:St),(∀ j,l[j]? = ops[k+j]?) ->
  Region.lexFrom md ops l.length k listed=true->Jds X (ops.toList.map (·.dst)) K l s->lAny X md ops K l.length listed s
 | [],_,_,_,_,hB,h=>⟨by simpa [Region.lexFrom] using hB,h⟩
 | o :: l,k,listed,s,hl,hB,h=>by
  have h0:ops[k]? = some o:=by simpa using (hl 0).symm
  simp only [List.length_cons,Region.lexFrom,Ebb] at hB;obtain ⟨⟨hr,hf⟩,hB'⟩:=hB;obtain ⟨v,hy,hK⟩:=Jab (X:=X) (show YS X _ s o _ from h);exact Jck h0 l.length listed s (Region.free_spec h0 hf) (by simpa using hr) hy
   (W7 l (k+1) _ _ (fun j=>by have:=hl (j+1);simpa [Ebx,Ecr 1 j] using this) hB' hK)
theorem Jfi {s:St} {a:Act} {w:World} {o:Oper} {K:L->Prop} {Q:Exit->Act->World->Prop} {n:Nat} (hG:Γ.G=X.G) (h:RR Γ s a w) (hl:lqc X s o K) :
  o.wpIn (F0 ro) n X.P a w (fun a' w'=>∃ l,K l/\RR Γ (s.put o.dst l) a' w') Q:=by
 obtain ⟨ms,hdef,β,Im,hx⟩:=h;unfold lqc at hl;split at hl
 ·rename_i f args ts ho;split at hl
  ·rename_i g hg;obtain ⟨l,⟨⟨hent,hl⟩,hret⟩,hK⟩:=hl;have hrf:=A2 hx.fit f;rw [hg] at hrf;obtain ⟨cs,hv,hcl,hcs⟩:=hrf;have:cs=[]:=Eal (by simpa using hcl);subst this;have hfit:Fit β w Im ⟨args.toList.map s.get,[]⟩ ⟨args.toList.map a.eval⟩:=by
    refine { size:=by simp,tmps:=fun i l hl'=>?_,regs:=fun d r h=>(by cases h),nodup:=.nil,live:=fun d r loc h=>(by cases h),apart:=fun d r d' r' l1 l2 h=>(by cases h),im:=hx.fit.im };simp only [Eam] at hl';obtain ⟨q,hq,rfl⟩:=Eak.1 hl';have e1:(⟨args.toList.map a.eval⟩:Array Value).getD i undef=a.eval q:=by simp only [Eas,Ec3,Eam,hq];rfl
    rw [e1];exact A2 hx.fit q
   refine Q0 (f:=g) (args:=⟨args.toList.map a.eval⟩) (w':=w) (by rw [ho];simp) ?_ ?_
   ·unfold execOp;rw [ho];have e:args.map a.eval ++ (⟨[]⟩:Array Value)=⟨args.toList.map a.eval⟩:=by rw [<- Ebj];simp
    simp only [resolve,Sem.run_bind,hv,Deferred.ofValue,Sem.run_pure,Result.andThen_ok,invoke,Ede,e];exact hent _ _
   ·refine (hl β Im w _ (hG ▸ hx.glob) hfit).mono fun e w' ⟨v,m,rs',β',Im2,he,hP,hrep,hstep⟩=>⟨v,he,l,hK,ms,Bf hdef,β,Im2,?_⟩
    subst hP;have g:Grow w Im w' Im2:=⟨hstep.os,hstep.tape,hstep.output,hstep.size,fun k hk=>hstep.block k hk fun d r loc h=>(by cases h),hstep.imin,fun b hb=>(hstep.imnew b hb).imp id fun h=>h.elim id fun ⟨d,r,loc,h,_⟩=>(by cases h),hstep.fit.im⟩
    refine (hx.grow g).put _ ?_;cases m <;> first | exact hrep | cases hret
  ·rename_i g ps hg;obtain ⟨l,⟨⟨hent,hl⟩,hret⟩,hK⟩:=hl;have hrf:=A2 hx.fit f;rw [hg] at hrf;obtain ⟨b,o',hv,hrf⟩:=J7z (β:=β) hrf;have hfit:Fit β w Im ⟨args.toList.map s.get ++ [.eptr ps],[]⟩ ⟨args.toList.map a.eval ++ [.pointer (some ⟨b,o',none⟩)]⟩:=by
    refine { size:=by simp,tmps:=fun i l hl'=>?_,regs:=fun d r h=>(by cases h),nodup:=.nil,live:=fun d r loc h=>(by cases h),apart:=fun d r d' r' l1 l2 h=>(by cases h),im:=hx.fit.im };by_cases hlt:i<args.toList.length
    ·simp only [] at hl';rw [Eaq (by simpa using hlt),Eam] at hl';obtain ⟨q,hq,rfl⟩:=Eak.1 hl';have e1:(⟨args.toList.map a.eval ++ [.pointer (some ⟨b,o',none⟩)]⟩:Array Value).getD i undef=a.eval q:=by
      rw [Eas,Ec3,Eaq (by simpa using hlt),Eam,hq];rfl
     rw [e1];exact A2 hx.fit q
    ·simp only [] at hl';rw [Ean (by simpa using hlt),Ea9] at hl';cases hk:i - args.toList.length with
     | zero =>
      rw [hk] at hl';simp at hl';subst hl';have e1:(⟨args.toList.map a.eval ++ [.pointer (some ⟨b,o',none⟩)]⟩:Array Value).getD i undef=.pointer (some ⟨b,o',none⟩):=by
       rw [Eas,Ec3,Ean (by simpa using hlt),Ea9,hk];rfl
      rw [e1];exact hrf
     | succ k=>rw [hk] at hl';simp at hl'
   refine Q0 (f:=g) (args:=⟨args.toList.map a.eval ++ [.pointer (some ⟨b,o',none⟩)]⟩) (w':=w) (by rw [ho];simp) ?_ ?_
   ·unfold execOp;rw [ho];have e:args.map a.eval ++ (#[.pointer (some ⟨b,o',none⟩)]:Array Value)=⟨args.toList.map a.eval ++ [.pointer (some ⟨b,o',none⟩)]⟩:=by rw [<- Ebj];simp
    simp only [resolve,Sem.run_bind,hv,Deferred.ofValue,Sem.run_pure,Result.andThen_ok,invoke,Ede,e];exact hent _ _
   ·refine (hl β Im w _ (hG ▸ hx.glob) hfit).mono fun e w' ⟨v,m,rs',β',Im2,he,hP,hrep,hstep⟩=>⟨v,he,l,hK,ms,Bf hdef,β,Im2,?_⟩
    subst hP;have g:Grow w Im w' Im2:=⟨hstep.os,hstep.tape,hstep.output,hstep.size,fun k hk=>hstep.block k hk fun d r loc h=>(by cases h),hstep.imin,fun b hb=>(hstep.imnew b hb).imp id fun h=>h.elim id fun ⟨d,r,loc,h,_⟩=>(by cases h),hstep.fit.im⟩
    refine (hx.grow g).put _ ?_;cases m <;> first | exact hrep | cases hret
  ·exact hl.elim
 ·rename_i t m parts ho;obtain ⟨e,sz,h1,h2,h3,h4,h5,es,h6,h7⟩:=hl;obtain ⟨v,w',Im',hr,hg,hp⟩:=Po hx h1 h2 h3 h4 h5 h6;have e1:(parts.map fun (i,x)=>(i,a.eval x))=⟨parts.toList.map fun (i,x)=>(i,a.eval x)⟩:=by rw [<- Ebj];simp
  rw [<- e1] at hr;refine B5 (v:=v) (w':=w') (by rw [ho];simp) (by unfold execOp;rw [ho];simp [hr]) ⟨_,h7,ms,Bf hdef,β,Im',(hx.grow hg).put _ hp⟩
 ·have hq:=X5 (P:=X.P) hx.fit (o:=o) hl;obtain ⟨v,l,hr,hrep,hK⟩:=hq;refine B5 (v:=v) (w':=w) (fun c hc=>?_) hr ⟨_,hK,ms,Bf hdef,β,Im,hx.put _ hrep⟩;rw [hc] at hl;simp [lq,lqv] at hl
theorem Jk5 {s:St} {a:Act} {w:World} (h:RR Γ s a w) {j dj:Nat} {c:Bool} (hdj:(ops[j]?).bind (·.dst)=some dj) (hc:s.tmps.getD dj .junk=.p (.bool c)):yielded ops a.tmps j=some c:=by
 obtain ⟨ms,hdef,β,Im,hx⟩:=h;have hlt:s.tmps[dj]? = some (.p (.bool c)):=by
  rw [Eah] at hc;cases hs:s.tmps[dj]? with
  | none=>rw [hs] at hc;simp at hc
  | some l=>rw [hs] at hc;simp at hc;rw [hc]
 have hrep:=hx.fit.tmps dj _ hlt;have hsz:dj<a.tmps.size:=by rw [hx.fit.size];exact (Eab.1 hlt).1
 have e1:a.tmps.getD dj undef=a.tmps[dj]:=by simp [Eas,hsz]
 rw [e1] at hrep;cases hvv:a.tmps[dj] with
 | bool b=>rw [hvv] at hrep;cases hrep;simp [yielded,hdj,hsz,hvv]
 | _=>rw [hvv] at hrep;cases hrep
theorem Jca {s:St} {a:Act} {w:World} (h:RR Γ s a w) {j dj:Nat} (hdj:(ops[j]?).bind (·.dst)=some dj) (hc:s.tmps.getD dj .junk=.tup []):yielded ops a.tmps j=none:=by
 obtain ⟨ms,hdef,β,Im,hx⟩:=h;have hlt:s.tmps[dj]? = some (.tup []):=by
  rw [Eah] at hc;cases hs:s.tmps[dj]? with
  | none=>rw [hs] at hc;simp at hc
  | some l=>rw [hs] at hc;simp at hc;rw [hc]
 have hrep:=hx.fit.tmps dj _ hlt;have hsz:dj<a.tmps.size:=by rw [hx.fit.size];exact (Eab.1 hlt).1
 have e1:a.tmps.getD dj undef=a.tmps[dj]:=by simp [Eas,hsz]
 rw [e1] at hrep;obtain ⟨vs,hv,_⟩:=hrep;simp [yielded,hdj,hsz,hv]
theorem Zy {s:St} {a:Act} {w:World} {i:Nat} {o:Oper} {K:L->Prop} {K':Act->World->Prop} {Q:Exit->Act->World->Prop} {n:Nat} (hi:ops[i]? = some o) (hG:Γ.G=X.G) (h:RR Γ s a w) (hl:YS X (ops.toList.map (·.dst)) s o K)
  (hK:∀ l a' w',K l->RR Γ (s.put o.dst l) a' w'->K' a' w'):wpOpIn (F0 ro) n X.P ops Q i K' a w:=by
 unfold wpOpIn;simp only [hi];have run:∀ {K:L->Prop},lqc X s o K->(∀ l a' w',K l->RR Γ (s.put o.dst l) a' w'->K' a' w')->o.wpIn (F0 ro) n X.P a w K' Q:=fun hl hK =>
  Oper.wpIn_mono (fun a' w' ⟨l,h1,h2⟩=>hK l a' w' h1 h2) (Jfi hG h hl)
 have skip:∀ {K:L->Prop},K (.tup [])->(∀ l a' w',K l->RR Γ (s.put o.dst l) a' w'->K' a' w')->K' (a.put o.dst undef) w:=fun h1 hK=>by
  obtain ⟨ms,hdef,β,Im,hx⟩:=h;exact hK _ _ _ h1 ⟨ms,Bf hdef,β,Im,hx.put _ H0⟩
 unfold YS at hl;split at hl
 ·rename_i hg;rw [if_pos (by simp [Region.wanted,hg])];exact run hl hK
 ·rename_i j want hg;split at hl
  ·rename_i dj hdj;rw [Jlk] at hdj;split at hl
   ·rename_i c hc;have hy:=Jk5 h hdj hc;split at hl
    ·rename_i hcw;rw [if_pos (by simp [Region.wanted,hg,hy,hcw])];exact run hl hK
    ·rename_i hcw;rw [if_neg (by simp [Region.wanted,hg,hy,hcw])];exact ⟨fun _ _=>trivial,skip hl hK⟩
   ·rename_i hc;have hy:=Jca h hdj hc;rw [if_neg (by simp [Region.wanted,hg,hy])];exact ⟨fun _ _=>trivial,skip hl hK⟩
   ·exact hl.elim
  ·exact hl.elim
theorem K7 {K:St->Prop} {Q:Exit->Act->World->Prop} {n:Nat} (hG:Γ.G=X.G) (hQ:∀ s a w,K s->RR Γ s a w->Q .normal a w):∀ (fuel:Nat) (listed:Array Bool) (s:St) (a:Act) (w:World),RR Γ s a w ->
  lAny X md ops K fuel listed s->wpAnyIn (F0 ro) n X.P md ops Q fuel listed a w
 | 0,_,s,a,w,h,hl=>⟨hl.1,hQ s a w hl.2 h⟩
 | fuel+1,_,s,a,w,h,hl=>⟨fun h0=>hQ s a w (hl.1 h0) h,fun i hi=>by
   obtain ⟨_,o,ho,_⟩:=mem_ready.1 hi;exact Zy ho hG h (hl.2 i hi o ho) fun l a' w' h1 h2=>K7 hG hQ fuel _ _ a' w' h2 h1⟩
theorem Gy {K:St->Prop} {ds:List (Option Tmp)}:∀ (l:List Oper) (s:St),Jf X ds l K s->Jds X ds K l s
 | [],s,h=>h
 | o :: l,s,h=>by
  have self:∀ (dj:Nat) (c:Bool),s.tmps.getD dj .junk=.p (.bool c)->s.put (some dj) (.p (.bool c))=s:=by
   intro dj c hc;rw [Eah] at hc;cases hs:s.tmps[dj]? with
   | none=>rw [hs] at hc;simp at hc
   | some x =>
    rw [hs] at hc;simp at hc;simp only [St.put];congr 1;obtain ⟨h1,h2⟩:=Eab.1 hs;rw [<- hc,<- h2];exact List.set_getElem_self h1
  simp only [Jf] at h;simp only [Jds];unfold F4 at h;unfold YS;cases hg:o.guard with
  | none =>
   rw [hg] at h;exact Mu (fun m hm=>Gy l _ hm) h
  | some jw =>
   obtain ⟨j,want⟩:=jw;rw [hg] at h;simp only at h ⊢;cases hdj:ds.getD j none with
   | none=>rw [hdj] at h;exact h.elim
   | some dj =>
    rw [hdj] at h;simp only at h ⊢;split at h
    ·rename_i c hc
     try rw [hc]
     try simp only
     by_cases hcw:c=want
     ·rw [if_pos hcw];have h1:=h.1 hcw;subst hcw;rw [self _ _ hc] at h1;exact Mu (fun m hm=>Gy l _ hm) h1
     ·rw [if_neg hcw];have hcw':c = !want:=by cases c <;> cases want <;> simp_all
      have h1:=h.2 hcw';rw [<- hcw',self _ _ hc] at h1;exact Gy l _ h1
    ·rename_i hc
     try rw [hc]
     exact Gy l _ h
    ·exact h.elim
theorem Xt {id:Nat} {s:St} {a:Act} {w:World} {K:St->Prop} {Q:Exit->Act->World->Prop} {n:Nat} (hG:Γ.G=X.G) (hm:X.P.follows .mixedOrders=true) (hB:Region.lexB .any ops=true) (hQ:∀ s a w,K s->RR Γ s a w->Q .normal a w) (h:RR Γ s a w)
  (hl:Jf X (ops.toList.map (·.dst)) ops.toList K s):(Code.region id ops true).wpIn (F0 ro) n X.P Q a w:=by
 simp only [Region.lexB,Ebb] at hB;have h':RR Γ s a { w with drawn:=w.drawn+1 }:=by
  obtain ⟨ms,hdef,β,Im,hx⟩:=h;exact ⟨ms,hdef,β,Im,hx.grow (Grow.drew hx.fit.im)⟩
 refine wpIn_region_any hm (K7 hG hQ _ _ s a _ h' ?_);have:=W7 (X:=X) (K:=K) (md:=.any) ops.toList 0 (Array.replicate ops.size false) s sm (by simpa using hB.2) (Gy ops.toList s hl);simpa using this
end
end Go.LX
