/- Operations one behind the other, on logical states. -/
import Derived.Lib.ConvBytes
import Derived.Laws.Cover4
import Derived.Test.YtaghbedfogiopaaGreatDoorTxC
import Derived.RangeFuncRecord
set_option linter.all false
namespace Go.LX
open Go Go.RowKit Go.Proofs
variable {n i:Nat}(P:Program){f g:FuncId}{w:World}(X:Cx){dst:Option Tmp}{t tx T:TypeId}{u v:Value}{β:ET}{Im:Nat->Prop}{a:Act}{b:Bool}{ds:List (Option Tmp)}{o:Oper}{next:Act->World->Prop}{Q:Exit->Act->World->Prop}{ms:List Nat}{d:Tmp}{tmps:Array Value}(j:Nat){vs:List Value}{x it:Operand}{ops:Array Oper}{c:Code}{k:List Item}{cs:List Frame}{op:Op}{pt:Array (Nat×Operand)}{VV:Array TypeId}{rs DU:BX}{q:Prop}(keys:List Nat){fn:Func}(own:Bool)
def F0(r:Option Nat):Fence:={ fn:=fun _=>True,depth:=none,alive:=false,round:=r }
def Yt{r:Option Nat}{P:Program}{args:Array Value}{R:Ending->World->Prop}(h:Calls P f args w R):CallsIn (F0 r) n P f args w R:=
 show CallsIn Fence.wide n P f args w R from callsIn_wide.2 h
def Ag(g:FuncId)(args:List L)(l:L):Prop:=∀(β:ET) (Im:Nat->Prop) (w:World) (vs:List Value),vs.length=args.length->(∀(i:Nat) (v:Value) (a:L),vs[i]?=some v->args[i]?=some a->CE β w Im v a) ->
 ∃v,(callFunc g ⟨vs⟩).run X.P w=.ok (.value v) w/\CE β w Im v l
def Ek(dst:Option Tmp)(DU:BX):Option Nat:=
 match findKey 900 DU with
 |true=>some (match dst with|some d=>if d<900 then d else 990|none=>990)
 |false=>none
def Rs(args:List L):List Nat:=args.flatMap L.ids
def Ta(ρ:Ren)(dst:Option Tmp)(K:St->Prop)(s:St)(l:L)(DU:BX):Prop:=K ((s.after ρ (Ek dst DU) DU).put dst (l.map (C6 ρ (Ek dst DU))))
def N2(g:FuncId)(args:List L)(s:St)(ρ:Ren)(dst:Option Tmp)(K:St->Prop):Prop := Al X g (args.map (L.map (EB ρ))) (Cz ρ s.regs) (Ta ρ dst K s)
def Ll(g:FuncId)(args:List L)(s:St)(dst:Option Tmp)(K:St->Prop):Prop := N2 X g args s (Ra (Dj [] (Rs args)) s.regs) dst K
def iB(g:FuncId)(args:List L)(s:St)(dst:Option Tmp)(K:St->Prop):Prop:=∃l,Ag X g args l/\K (s.put dst l)
def Ad(g:FuncId)(args:List L)(rs:BX)(l:L):Prop:=∀(β:ET) (Im:Nat->Prop) (w:World) (vs:List Value),Fit β w Im ⟨args,rs⟩ ⟨vs⟩ ->
 ∃v,(callFunc g ⟨vs⟩).run X.P w=.ok (.value v) w/\CE β w Im v l
def zh(g:FuncId)(args:List L)(s:St)(dst:Option Tmp)(K:St->Prop):Prop:=∃l,Ad X g args s.regs l/\K (s.put dst l)
def Jm(k:Nat)(g:FuncId)(ds:List Nat)(args:List Operand)(s:St)(dst:Option Tmp)(K:St->Prop):Prop:=match k with|0=>Ll X g (args.map (s.freezeOps args).get++ds.map fun d=>L.ptr d 0 0) (s.freezeOps args) dst K|1=>Ll X g (args.map s.get++ds.map fun d=>L.ptr d 0 0) s dst K|3=>ds=[]/\zh X g (args.map s.get) s dst K|_=>ds=[]/\iB X g (args.map s.get) s dst K
def wA(s:St)(f:Operand)(args:List Operand)(dst:Option Tmp)(K:St->Prop):Prop:=match s.get f with|.fn g ds=>Jm X (X.kind g) g ds args s dst K|.p (.clo g ps)=>X.kind g=0/\(s.freezeOps args).get f=.p (.clo g ps)/\Ll X g (args.map (s.freezeOps args).get++[.eptr ps]) (s.freezeOps args) dst K|_=>False
def DL(dst:Option Tmp)(K:St->Prop)(s:St)(l:L):Prop:=K (s.put dst l)
def F9(dst:Option Tmp)(K:St->Prop)(s:St):Prop:=K (s.put dst (.tup []))
def L6(a b:TypeId)(d j:Nat)(r:Option DG)(K:L->Prop):Prop:=match r,P.underlying a,P.underlying b with|some (.var _ cs),some (.pointer t),some .unsafePointer=>P.cellsOf t≠0/\j<cs.length/\K (.ptr d 0 j)|some (.var T cs),some .unsafePointer,some (.pointer u)=>liesAt P P.depth T (cs.length/P.cellsOf T) j u 1=true/\(P.info? u).isSome=true/\K (.ptr d 0 j)|_,_,_=>False
def dH:List (List PV)->Option (List Int)
 |[]=>some []
 |[.int .i32 n]::l=>match dH l with
  |some ns=>some (n::ns)
  |none=>none
 |_=>none
def fP(t:TypeId):Bool:=match P.underlying t with
 |some (.slice e)=>match P.underlying e with
  |some (.int .i32)=>true
  |_=>false
 |_=>false
def Jym{P:Program}(h:fP P t=true):∃e,P.underlying t=some (.slice e)/\P.underlying e=some (.int .i32):=by
 unfold fP at h;split at h
 ·rename_i e ht;split at h
  ·rename_i he;exact⟨e,ht,he⟩
  ·cases h
 ·cases h
def Y'(s:ByteArray):Nat->Nat->List Int|0,_=>[]|b+1,i=>if i<s.size then(Int.ofNat (Utf8.decode s i).1)::Y' s b (i+(Utf8.decode s i).2)else []
def ZZ(u:List UInt8):List (List PV):=(Y' ⟨⟨u⟩⟩ u.length 0).map fun n=>[.int .i32 n]
def Jy1(s:ByteArray):∀(b i:Nat) (az:Array Value),Conv.runesFrom s b i az=az++((Y' s b i).map (Value.int .i32)).toArray
 |0,i,az=>by simp[Conv.runesFrom,Y']
 |b+1,i,az=>by
  unfold Conv.runesFrom Y';split
  ·show Conv.runesFrom s b (i+(Utf8.decode s i).2) (az.push (Value.int .i32 (Int.ofNat (Utf8.decode s i).1)))=_;rw[Jy1 s b];simp
  ·simp
def J29(s:ByteArray):∀b i,(Y' s b i).length<=b
 |0,i=>by simp[Y']
 |b+1,i=>by
  unfold Y';split
  ·have:=J29 s b (i+(Utf8.decode s i).2);simp only[DH];omega
  ·simp
def Jze:∀{es:List (List PV)} {ns:List Int},dH es=some ns->es=ns.map fun n=>[.int .i32 n]
 |[],ns,h=>by simp only[dH]at h;cases h;rfl
 |e::l,ns,h=>by
  unfold dH at h;split at h
  ·rename_i Pe;cases Pe
  ·rename_i n l' Pe;cases Pe;split at h
   ·rename_i ms hm;cases h;rw[Jze hm];rfl
   ·cases h
  ·cases h
def J03(ns:List Int):(runesBytes ns).data.toList=ns.flatMap fun n=>(Utf8.encode n).data.toList:=by
 have key:∀(ns:List Int) (r:ByteArray),(ns.foldl (fun r n=>r++Utf8.encode n) r).data.toList=r.data.toList++ns.flatMap fun n=>(Utf8.encode n).data.toList:=by
  intro ns
  induction ns with
  |nil=>intro r;simp
  |cons n ns ih=>intro r;rw[List.foldl_cons,ih];simp
 unfold runesBytes;rw[key];rfl
def pc(b:TypeId)(l:L)(K:L->Prop):Prop:=P.underlying b=some .string/\match l with
 |.p (.sl es)=>∃ns,dH es=some ns/\K (.p (.str (ns.flatMap fun n=>(Utf8.encode n).data.toList)))
 |_=>False
def J5u{P:Program}{a b:TypeId}{l:L}{K:L->Prop}(ha:fP P a=true)(hx:CE β w Im u l)(h:pc P b l K):C0 β Im w ((convert a b u).run P w) K:=by
 obtain⟨e,hs,he⟩:=Jym ha;obtain⟨hd,h⟩:=h;split at h
 ·rename_i es;obtain⟨ns,hn,hK⟩:=h;have Nx:=Jze hn;refine X2 hK ?_;have GQ:∀(r:ByteArray),r=runesBytes ns->(Value.string r)=.string ⟨⟨ns.flatMap fun n=>(Utf8.encode n).data.toList⟩⟩:=fun r hr=>by
   rw[hr,<-J03]
  rcases zL (show BW w Im u (.sl es)from hx)with⟨⟨oa,rfl⟩,h0⟩|⟨bk,By,cap,sz,f,rfl,GP,hb,DI,LI,hc,hp⟩
  ·rw[run_convert_runes_string w a b e oa 0 0 hs he hd];have:ns=[]:=by
    rw[h0]at Nx;cases ns with
    |nil=>rfl
    |cons n ns=>cases Nx
   subst this;cases oa with
   |none=>simp[Conv.runesToString];rfl
   |some a=>simp[Conv.runesToString,loadCells,loadCellsFrom];rfl
  ·rw[run_convert_runes_string w a b e _ _ _ hs he hd];have hl:es.length=ns.length:=by rw[Nx];simp
   have pd:(loadCells ⟨bk,By,none⟩ es.length).run P w=.ok (ns.map (Value.int .i32)).toArray w:=by
    have:=run_loadCells_list (P:=P) (w:=w) ⟨bk,By,none⟩ (ns.map (Value.int .i32)) (fun j v hj=>by
     rw[Eam]at hj;obtain⟨n,cD,rfl⟩:=HF.1 hj;have LM:=(DX.1 cD).1;have hej:es[j]?=some [.int .i32 n]:=by rw[Nx,Eam,cD];rfl
     have XV:sz=1:=by rw[<-DI _ (D4 hej)];rfl
     subst XV;have h1:=hc j omg 0 omg;have h2:=hp j _ 0 _ hej rfl;generalize f j 0=v at h1 h2;cases h2;rw[XR,Nat.add_zero]at h1;cases j with
     |zero=>simpa[Addr.add]using h1
     |succ j=>simpa[Addr.add]using h1)
    rw[HM,<-hl]at this;exact this
   rw[run_runesToString w _ _ _ ns pd];exact congrArg (fun v=>Result.ok v w) (GQ _ rfl)
 ·exact h.elim
def Og(a b:TypeId)(u:List UInt8)(s:St)(dst:Option Tmp)(K:St->Prop):Prop:=
 match P.underlying b with
 |some (.slice e)=>if fP P b=true then(match dst with
   |some d=>P.underlying a=some .string/\d<1000/\u.length<=70368744177664/\K ((s.newReg d (.row e 1 (ZZ u))).put (some d) (.own d 0 (ZZ u).length))
   |none=>False)else
   (P.underlying a).isSome=true/\P.underlying e=some (.int .u8)/\DL dst K s (.p (.sl (u.map fun c=>[.int .u8 c.toNat])))
 |_=>J1 P a b (.p (.str u)) (DL dst K s)
def Jke(a b:TypeId)(s:St)(x:Operand)(dst:Option Tmp)(K:St->Prop):Prop:=match s.get x with|.ptr d 0 j=>L6 P a b d j (Am d s.regs) (DL dst K s)|.p (.str u)=>Og P a b u s dst K|_=>if fP P a=true then pc P b ((s.freezeOps [x]).get x) (DL dst K (s.freezeOps [x]))else J1 P a b ((s.freezeOps [x]).get x) (DL dst K (s.freezeOps [x]))
def wB(o:Oper)(dst:Option Tmp)(args:List Operand)(ts:List TypeId)(s:St)(K:St->Prop):Prop:=
 match args,ts with
 |[x,y],[t,_]=>match s.get x with
  |.p .nptr=>lq X.P s.regs s.get o.op (DL dst K s)
  |_=>Gn X.P t s x y (DL dst K)
 |_,_=>False
def WT(t:TypeId)(s:St)(d:Nat)(lo hi:Option Operand)(N:St->L->Prop)(q:Option DG):Prop:=
 match q,cq P t with
 |some (.var _ cs),some (n,_,sz)=>sz=1/\n=cs.length/\∃ps,Bg L.pure? cs=some ps/\∃l h,Dr s.get 0 lo=some l/\Dr s.get n hi=some h/\0<=l/\l<=h/\h<=n /\
   N (Dx d (some (.ar ps)) s) (.p (.sl (((ps.map fun p=>[p]).drop l.toNat).take (h.toNat-l.toNat))))
 |_,_=>False
def pf(o:Oper)(t:TypeId)(x:Operand)(lo hi:Option Operand)(dst:Option Tmp)(K:St->Prop)(s:St):Prop:=match s.get x with|.ptr d 0 0=>WT P t s d lo hi (DL dst K) (Am d s.regs)|_=>lq P s.regs s.get o.op (DL dst K s)
def Fh(o:Oper)(K:St->Prop)(s:St):Prop:=
 match o.op,o.dst with
 |.alloc T,some d=>Wg X.P d T s K
 |.box T x,some d=>dB d T s x K
 |.buildSlice t n parts,some d=>if X.keep t=true then n=parts.toList.length/\pW X.P d t s parts.toList K else Fo X.P d t n s parts.toList K
 |.makeSlice t l c,some d=>Gl X.P d t s l c K
 |.makeMap _ none,some d=>Mk d s K
 |.range t x,some d=>Wr X.P d t s x K
 |.next it b,dst=>Wv s it b (DL dst K)
 |.entry it,dst=>Ri s it (DL dst K s)
 |.mapUpdate t m k v,dst=>Dq X.P t s m k v (F9 dst K)
 |.insert t m k v,dst=>Dq X.P t s m k v (F9 dst K)
 |.mapEntry t m k,dst=>vx X.P t s m k (DL dst K)
 |.entryStore _ m e v,dst=>vz s m e v (F9 dst K)
 |.store t a x,dst=>Nv X.P t s a x (F9 dst K)
 |.call { callee:=.builtin .append,args,argTypes },some d=>match args.toList,argTypes.toList with
  |[x,y],[t,t']=>if X.keep t=true then t'=t/\pX X.P d t s x y K else Kk X.P d t t' s x y K
  |_,_=>False
 |.call { callee:=.builtin .copy,args,argTypes },dst=>match args.toList,argTypes.toList with
  |[x,y],[t,t']=>Tv X.P t t' s x y (DL dst K)
  |_,_=>False
 |.call { callee:=.builtin .delete,args,argTypes },dst=>match args.toList,argTypes.toList with
  |[m,k],t::_=>Kq X.P t s m k (F9 dst K)
  |_,_=>False
 |.call { callee:=.builtin .unsafeString,args,argTypes },dst=>wB X o dst args.toList argTypes.toList s K
 |.call { callee:=.value f,args,argTypes:=_ },dst=>wA X s f args.toList dst K
 |.convert a b x,dst=>Jke X.P a b s x dst K
 |.slice t x lo hi none,dst=>pf X.P o t x lo hi dst K s
 |op,dst=>lq X.P s.regs s.get op (DL dst K s)
def F4(ds:List (Option Tmp))(g:Option (Nat×Bool))(A B:St->Prop)(s:St):Prop:=
 match g with
 |none=>A s
 |some (j,FY)=>match ds.getD j none with
  |some dj=>match s.tmps.getD dj .junk with
   |.p (.bool c)=>(c=FY->A (s.put (some dj) (.p (.bool FY))))/\(c=(!FY)->B (s.put (some dj) (.p (.bool (!FY)))))
   |.tup []=>B s
   |_=>False
  |none=>False
def LP(X:Cx)(ds:List (Option Tmp)):List Oper->(St->Prop)->St->Prop|[],K,s=>K s|o::BR,K,s=>F4 ds o.guard (Fh X o (LP X ds BR K)) (F9 o.dst (LP X ds BR K)) s
section
variable {P:Program} {X:Cx} {Γ:FH} {ro:Option Nat}
def Ly(ρ:Operand->Value)(h:∀c,o.op≠.defer c):o.semAt (F0 ro).round ρ=execOp ρ o:=Oper.semAt_eq _ _ _ h
def B5{w':World}(hd:∀c,o.op≠.defer c)(hr:(execOp a.eval o).run P w=.ok (.value v) w')(h:next (a.put o.dst v) w') :
  o.wpIn (F0 ro) n P a w next Q:=by
 refine⟨fun _ _=>trivial,?_⟩;rw[Ly _ hd,hr];exact h
def Ij{w':World}(hd:∀c,o.op≠.defer c)(hr:(execOp a.eval o).run P w=.ok .skip w')(h:next (a.put o.dst undef) w') :
  o.wpIn (F0 ro) n P a w next Q:=by
 refine⟨fun _ _=>trivial,?_⟩;rw[Ly _ hd,hr];exact h
def Q0{w':World}{args:Array Value}(hd:∀c,o.op≠.defer c)(hr:(execOp a.eval o).run P w=.ok (.enter f args) w')(h:Calls P f args w' fun e w''=>∃v,e=.returned v/\next (a.put o.dst v) w''):o.wpIn (F0 ro) n P a w next Q:=by
 refine⟨fun _ _=>trivial,?_⟩;rw[Ly _ hd,hr];refine⟨fun h=>by simp[F0]at h,?_⟩;refine Yt (h.mono fun e w'' ⟨v,he,hn⟩=>?_);subst he;exact hn
def TD(Γ:FH)(ms:List Nat)(s:St)(a:Act)(w:World):Prop:=a.defers=ms.map F6/\∃β Im,DW (Γ.wm ms) β Im s a.tmps w
def TD.rr{s:St}(h:TD Γ ms s a w):RR Γ s a w:=⟨ms,h.1,h.2⟩
def Lb.oper{r:Sem Value}{K:St->Prop}(h:Lb (Γ.wm ms) a d (r.run P w) K)(hd:∀c,o.op≠.defer c)(ho:execOp a.eval o=(do pure (Next.value (<-r)):Sem Next))(JT:o.dst=some d)(CZ:a.defers=ms.map F6) :
  o.wpIn (F0 ro) n P a w (fun a' w'=>∃s,K s/\TD Γ ms s a' w') Q:=by
 obtain⟨v,w',β',CX,s',l,hr,h1,h2,hK⟩:=h;refine B5 hd (v:=v) (w':=w') (by rw[ho];simp[hr]) ⟨_,hK,?_,β',CX,?_⟩
 ·rw[JT];exact CZ
 ·rw[JT];exact h1.put (some d) h2
def Ga{s:St}(CZ:a.defers=ms.map F6)(h:DW (Γ.wm ms) β Im s a.tmps w):TD Γ ms s a w:=⟨CZ,β,Im,h⟩
def Bf{ds:List Deferred}(h:a.defers=ds):(a.put dst v).defers=ds:=by cases dst<;>exact h
def P5{s:St}(hf:Fit β w Im s tmps){a b:TypeId}{d j:Nat}{K:L->Prop}(hx:CE β w Im u (.ptr d 0 j))(hl:L6 P a b d j (Am d s.regs) K):C0 β Im w ((convert a b u).run P w) K:=by
 have JP:=hx;obtain⟨loc,CM,rfl⟩:=JP;have hz:(0:Nat)*loc.sz+j=j:=sm;rw[hz];unfold L6 at hl;split at hl
 ·rename_i T cs t hr ha hb;obtain⟨hc,hj,hK⟩:=hl;obtain⟨CO,cur,CF,h2,h3,h4,h5,h6⟩:=hf.regs d _ (Ax hr);rw[CM]at CF;cases CF;cases hi:P.info? t with
  |none=>exact absurd (by simp[Program.cellsOf,hi]) hc
  |some HR =>
   have hs:HR.size≠0:=by simpa[Program.cellsOf,hi]using hc
   refine⟨_,_,Lib.run_to_unsafe (P:=P) w ⟨loc.blk,j,none⟩ ha hb hi hs (e:=T) (cells:=cur.length) (by simp[World.shape?,h4]) (by simpa[h5]using hj),?_,hK⟩;exact⟨loc,CM,by rw[hz]⟩
 ·rename_i T cs u' hr ha hb;obtain⟨pg,hi,hK⟩:=hl;obtain⟨CO,cur,CF,h2,h3,h4,h5,h6⟩:=hf.regs d _ (Ax hr);rw[CM]at CF;cases CF;obtain⟨HR,hi⟩:=oZ.1 hi;refine⟨_,_,Lib.run_from_unsafe (P:=P) w ⟨loc.blk,j,none⟩ ha hb hi (e:=T) (cells:=cur.length) (by simp[World.shape?,h4]) (by rw[h5];exact pg),?_,hK⟩;exact⟨loc,CM,by rw[hz]⟩
 ·exact hl.elim
def Wb{s:St}{K:St->Prop}(CZ:a.defers=ms.map F6)(hx:DW (Γ.wm ms) β Im s a.tmps w)(hl:lq P s.regs s.get o.op (DL o.dst K s)) :
  o.wpIn (F0 ro) n P a w (fun a' w'=>∃s,K s/\TD Γ ms s a' w') Q:=by
 obtain⟨v,l,hr,CT,hK⟩:=X5 (P:=P) hx.fit (o:=o) hl;refine B5 (v:=v) (w':=w) (fun c hc=>?_) hr ⟨_,hK,Ga (Bf CZ) (hx.put _ CT)⟩;rw[hc]at hl;simp[lq,XS]at hl
def M6{s:St}{K:St->Prop}(hG:Γ.G=X.G)(CZ:a.defers=ms.map F6)(hx:DW (Γ.wm ms) β Im s a.tmps w){ls:List L}(hd:∀c,o.op≠.defer c)(CY:vs.length=ls.length)(CT:∀(i:Nat) (v:Value) (l:L),vs[i]?=some v->ls[i]?=some l->CE β w Im v l)(hr:(execOp a.eval o).run X.P w=(callFunc g ⟨vs⟩).run X.P w)(hl:Ll X g ls s o.dst K):o.wpIn (F0 ro) n X.P a w (fun a' w'=>∃s,K s/\TD Γ ms s a' w') Q:=by
 unfold Ll N2 at hl;have FF:=Jki (Rs ls) s.regs;generalize Ra (Dj [] (Rs ls)) s.regs=ρ at hl FF;obtain⟨Pu,hl⟩:=hl;refine Q0 (f:=g) (args:=⟨vs⟩) (w':=w) hd (by rw[hr];exact Pu _ _) ?_;refine(hl (Ky ρ β) Im w vs (hG▸hx.glob) (hx.fit.call FF CY CT)).mono fun e w' ⟨v,l,DU,β',WM,he,hP,ph,EI⟩=>⟨v,he,_,hP,Ga (Bf CZ) ((hx.called FF (nw:=Ek o.dst DU) ?_ ?_ EI).put _ ?_)⟩
 ·intro d hd;unfold Ek at hd;split at hd
  ·cases JT:o.dst with
   |none=>rw[JT]at hd;have:=L' hd;subst this;decide
   |some d0 =>
    rw[JT]at hd;have:=Option.some.inj hd;subst this;dsimp only;by_cases h9:d0<900
    ·rw[AB h9];exact NB h9 de
    ·rw[AA h9];decide
  ·cases hd
 ·intro hn;unfold Ek at hn;split at hn
  ·cases hn
  ·assumption
 ·refine ph.map fun n d hd=>?_
  unfold C6 at hd;unfold C3;cases v7:Ek o.dst DU with
  |none =>
   rw[v7]at hd;have:=(FF.back n d).1 hd;simp[this]
  |some x =>
   rw[v7]at hd;simp only at hd;split at hd
   ·rename_i h9;cases hd;subst h9;simp
   ·split at hd
    ·rename_i e he;split at hd
     ·cases hd
     ·rename_i DA;cases hd;have:=(FF.back n d).1 he;rw[AA (by intro hc;exact DA (L' hc).symm),this]
    ·cases hd
def V2{s:St}(hx:DW (Γ.wm ms) β Im s a.tmps w){ta tb:TypeId}{u:List UInt8}{v0:Value}{K:St->Prop}(hv0:CE β w Im v0 (.p (.str u)))(hl:Og P ta tb u s dst K):∃v w' β' CX s' l,(convert ta tb v0).run P w=.ok v w'/\DW (Γ.wm ms) β' CX s' a.tmps w'/\CE β' w' CX v l/\K (s'.put dst l):=by
 unfold Og at hl;split at hl
 ·rename_i e hb;have hv:v0=.string ⟨⟨u⟩⟩:=by cases hv0;rfl
  subst hv;split at hl
  ·rename_i hr;split at hl
   ·rename_i d;obtain⟨ha,hd,hu,hK⟩:=hl;obtain⟨e',HN,he⟩:=Jym hr;rw[hb]at HN;cases HN;have OY:=Jy1 ⟨⟨u⟩⟩ u.length 0 #[];rw[oq]at OY;have CY:=J29 ⟨⟨u⟩⟩ u.length 0;have DI:(⟨⟨u⟩⟩:ByteArray).size=u.length:=rfl;have R3:(Conv.runesFrom ⟨⟨u⟩⟩ (⟨⟨u⟩⟩:ByteArray).size 0 #[])=((Y' ⟨⟨u⟩⟩ u.length 0).map (Value.int .i32)).toArray:=by rw[DI,OY]
    have DE:=run_runes_of_string (P:=P) w ta tb e ⟨⟨u⟩⟩ ha hb he (by rw[R3];simp;omega);rw[R3]at DE;simp only[List.size_toArray,HM]at DE;generalize hR:Y' ⟨⟨u⟩⟩ u.length 0=R at *
    generalize hC:grownCap w R.length 0 e=C at DE;have zi:R.length<=C:=by rw[<-hC];exact grownCap_ge w _ 0 e
    have hCm:C<=maxLen:=by rw[<-hC];exact grownCap_le_maxLen w _ 0 e (by unfold maxLen;omega)
    clear hC R3 OY;have g:DY w Im (w.drew.alloc (.cells ((R.map (Value.int .i32)).toArray++Array.replicate (C-R.length) (.int .i32 0)) e)) Im:=(DY.drew hx.fit.im).trans (DY.alloc (w:=w.drew) hx.fit.im _);have hRL:(R.map fun n=>[PV.int .i32 n]).length=R.length:=sm;have cE:ZZ u=R.map fun n=>[PV.int .i32 n]:=by unfold ZZ;rw[hR]
    obtain⟨r1,r2⟩:=hx.newRow hd (T:=e) (sz:=1) (tot:=C) (cur:=R.map (Value.int .i32)++List.replicate (C-R.length) (.int .i32 0)) (es:=R.map fun n=>[PV.int .i32 n]) g sm (by
     have:=heap_alloc_new (w:=w.drew) (.cells ((R.map (Value.int .i32)).toArray++Array.replicate (C-R.length) (.int .i32 0)) e);have e1:((R.map (Value.int .i32)).toArray++Array.replicate (C-R.length) (.int .i32 0))=(⟨R.map (Value.int .i32)++List.replicate (C-R.length) (.int .i32 0)⟩:Array Value):=by rw[<-SP];simp
     rw[e1]at this⊢;exact this) (by simp;omega) (by rw[hRL];exact zi) hCm (fun q hq=>by
      obtain⟨n,_,rfl⟩:=FB.1 hq;exact⟨rfl,fun p hp=>by simp at hp;subst hp;rfl⟩) (fun i q j p hi hj=>by
      rw[Eam]at hi;obtain⟨n,hn,rfl⟩:=HF.1 hi;have OE:=(DX.1 hn).1;cases j with
      |zero =>
       simp at hj;subst hj;exact⟨.int .i32 n,by rw[XR,Nat.add_zero,NZ (by simpa using OE),Eam,hn];rfl,BW.int _ _⟩
      |succ j=>simp at hj)
    rw[hRL]at r2;rw[cE,hRL]at hK;exact⟨_,_,_,Im,_,_,DE,r1,r2,hK⟩
   ·exact hl.elim
  obtain⟨ha,he,hK⟩:=hl;obtain⟨ua,ha⟩:=oZ.1 ha;have DE:=Lib.run_convert_string_bytes (P:=P) w ta tb e ⟨⟨u⟩⟩ ha hb he;have g:DY w Im (Lib.bytesWorld w e ⟨⟨u⟩⟩) (fun b=>Im b\/b=w.heap.size):=
   {
    os:=rfl,tape:=rfl,output:=rfl,size:=by rw[Lib.bytesWorld_size];omega,block:=fun k hk=>Lib.bytesWorld_at_old w e _ k hk,im:=fun b hb=>.inl hb,
    new:=fun b hb=>hb.elim .inl fun h=>.inr omg,lt:=fun b hb=>by rw[Lib.bytesWorld_size];rcases hb with hb|rfl;exact Nat.lt_succ_of_lt (hx.fit.im b hb);exact Nat.lt_succ_self _ }
  have DI:(⟨⟨u⟩⟩:ByteArray).size=u.length:=rfl;have CY:(u.map fun c=>[PV.int .u8 c.toNat]).length=u.length:=sm;refine⟨_,_,_,_,_,_,DE,hx.grow g,?_,hK⟩;show BW _ _ (.slice (some ⟨w.heap.size,0,none⟩) (⟨⟨u⟩⟩:ByteArray).size _) (.sl (u.map fun c=>[PV.int .u8 c.toNat]));have e1:(⟨⟨u⟩⟩:ByteArray).size=(u.map fun c=>[PV.int .u8 c.toNat]).length:=by rw[CY];rfl
  rw[e1];refine BW.sl w.heap.size 0 _ 1 _ (grownCap_ge w _ 0 e) (.inr rfl) (fun i _=>.int .u8 (u.getD i 0).toNat) (fun x hx=>?_) (fun x hx p hp=>?_) (fun i hi j hj=>?_) (fun i x j p hi hj=>?_)
  ·obtain⟨c,_,rfl⟩:=FB.1 hx;rfl
  ·obtain⟨c,_,rfl⟩:=FB.1 hx;simp at hp;subst hp;rfl
  ·have TB:j=0:=omg;subst TB;rw[show 0+i*1+0=i by omega];exact Lib.bytesWorld_cell w e ⟨⟨u⟩⟩ i (by rw[DI];rw[CY]at hi;exact hi)
  ·rw[Eam]at hi;obtain⟨c,hc,rfl⟩:=HF.1 hi;cases j with
   |zero =>
    simp at hj;subst hj;have:u.getD i 0=c:=by simp[GU,hc]
    rw[this];exact .int _ _
   |succ j=>simp at hj
 ·obtain⟨v,l,hr,CT,hK⟩:=Jl (P:=P) hv0 hl;exact⟨v,w,β,Im,s,l,hr,hx,CT,hK⟩
def Jb1{s:St}(hx:DW (Γ.wm ms) β Im s a.tmps w){lo hi:Option Operand}{d:Nat}{N:St->L->Prop}(hg:s.get x=.ptr d 0 0)(hl:WT P t s d lo hi N (Am d s.regs)):∃v s' l CX,(Instr.sliceAt t (a.eval x) (lo.map a.eval) (hi.map a.eval) none).run P w=.ok v w/\DW (Γ.wm ms) β CX s' a.tmps w/\CE β w CX v l/\N s' l:=by
 unfold WT at hl;split at hl
 ·rename_i T cs n e sz hr ha;obtain⟨rfl,rfl,ps,F',l,hh,hlo,b8,h0,h1,h2,hN⟩:=hl;obtain⟨ht,Pp,_⟩:=Rh ha;have hxr:=A2 hx.fit x;rw[hg]at hxr;obtain⟨loc,CM,hv⟩:=hxr;obtain⟨CO,cur,CF,g2,g3,g4,g5,g6⟩:=hx.fit.regs d _ (Ax hr);rw[CM]at CF;cases CF;have hb:=Fe (P:=P) (w:=w) false cs.length cs.length _ _ l hh (Co hx.fit hlo) (Co hx.fit b8) h0 h1 h2;have hz:(0:Nat)*loc.sz+0=0:=sm;have DE:(Instr.sliceAt t (a.eval x) (lo.map a.eval) (hi.map a.eval) none).run P w=.ok (.slice (some (if cs.length=l.toNat then⟨loc.blk,0,none⟩else⟨loc.blk,l.toNat,none⟩)) (hh.toNat-l.toNat) (cs.length-l.toNat)) w:=by
   rw[hv,hz];simp only[Instr.sliceAt,Sem.run_bind,run_underlying ht,Result.andThen_ok,Instr.sureAddr,hb,Bk (P:=P) (t:=e) rfl omg,Sem.run_pure,Pp];split
   ·simp
   ·simp[Addr.add];omega
  have vr:=hx.freezeZ d (.ar ps) ⟨_,_,hx.fit.regs d _ (Ax hr),F'⟩ _ (Ax hr);refine⟨_,_,_,_,DE,vr,?_,hN⟩;obtain⟨CY,ZX⟩:=Bh F';have GH:(((ps.map fun p=>[p]).drop l.toNat).take (hh.toNat-l.toNat)).length=hh.toNat-l.toNat:=by simp;omega
  show BW w _ _ _;have ov:(Im loc.blk\/∃CO,β d=some CO/\loc.blk=CO.blk):=.inr ⟨loc,CM,rfl⟩;by_cases FI:cs.length=l.toNat
  ·have he:((ps.map fun p=>[p]).drop l.toNat).take (hh.toNat-l.toNat)=[]:=KH (by rw[GH];omega);rw[he,AB FI,show hh.toNat-l.toNat=0 by omega];exact BW.sl loc.blk 0 _ 1 [] (EK _) ov (fun _ _=>undef) (fun x hx=>by cases hx) (fun x hx=>by cases hx) (fun i hi=>by simp at hi) (fun i x j p hi=>by simp at hi)
  ·rw[AA FI]
   conv=>arg 3;rw[<-GH]
   have key:∀(i:Nat) (p:PV),ps[i]?=some p->∃v,cur[i]?=some v/\BW w Im v p/\p.scalar=true:=by
    intro i p hp;obtain⟨c,hc⟩:=BQ CY hp;obtain⟨v,SV⟩:=BQ g5 hc;have h1:=ZX i c p hc hp;obtain⟨r1,r2⟩:=g6 i v c SV hc;cases c with
    |p q =>
     simp only[L.pure?]at h1;cases h1;refine⟨v,SV,r1,?_⟩;rcases r2 with r2|r2
     ·exact r2
     ·cases r2
    |_=>simp[L.pure?]at h1
   have CR:∀y∈((ps.map fun p=>[p]).drop l.toNat).take (hh.toNat-l.toNat),∃p∈ps,y=[p]:=fun y hy=>by
    have:=OR (UL hy);obtain⟨p,hp,rfl⟩:=FB.1 this;exact⟨p,hp,rfl⟩
   have hk:ED w Im w (fun b=>Im b\/∃loc,β d=some loc/\b=loc.blk):=⟨fun b hb=>.inl hb,fun _ _=>rfl⟩
   refine BW.sl loc.blk l.toNat (cs.length-l.toNat) 1 _ (by rw[GH];omega) ov (fun i j=>cur.getD (l.toNat+i) undef) (fun y hy=>?_) (fun y hy p hp=>?_) (fun i hi j hj=>?_) (fun i y j p hi hj=>?_)
   ·obtain⟨p,_,rfl⟩:=CR y hy;rfl
   ·obtain⟨q,hq,rfl⟩:=CR y hy;have:p=q:=by simpa using hp
    subst this;obtain⟨i,hi,he⟩:=PN hq;obtain⟨_,_,_,h3⟩:=key i p (by rw[C' hi,he]);exact h3
   ·rw[GH]at hi;have TB:j=0:=omg;subst TB;rw[D7 g4];have BZ:l.toNat+i<cur.length:=omg;rw[show l.toNat+i*1+0=l.toNat+i by omega,C' BZ];simp[GU,BZ]
   ·rw[IQ]at hi;split at hi
    ·rw[cm,Eam]at hi;obtain⟨q,hq,rfl⟩:=HF.1 hi;cases j with
     |zero =>
      simp at hj;subst hj;obtain⟨v,SV,IA,_⟩:=key _ _ hq;have:cur.getD (l.toNat+i) undef=v:=by simp[GU,SV]
      rw[this];exact IA.mono hk
     |succ j=>simp at hj
    ·cases hi
 ·exact hl.elim
def Lm{s:St}{K:St->Prop}(hG:Γ.G=X.G)(h:TD Γ ms s a w)(hl:Fh X o K s):o.wpIn (F0 ro) n X.P a w (fun a' w'=>∃s,K s/\TD Γ ms s a' w') Q:=by
 obtain⟨CZ,β,Im,hx⟩:=h;unfold Fh at hl;split at hl
 ·rename_i T d ho JT;exact(Wi hx hl).oper (by rw[ho];simp) (by unfold execOp;rw[ho]) JT CZ
 ·rename_i T x d ho JT;exact(Jat (P:=X.P) hx hl).oper (by rw[ho];simp) (by unfold execOp;rw[ho]) JT CZ
 ·rename_i t m parts d ho JT;have:Lb (Γ.wm ms) a d ((Instr.buildSlice t m ⟨parts.toList.map fun(i,x)=>(i,a.eval x)⟩).run X.P w) K:=by
   split at hl
   ·exact J01 hx hl.1 hl.2
   ·exact Mw hx hl
  have e:(parts.map fun(i,x)=>(i,a.eval x))=⟨parts.toList.map fun(i,x)=>(i,a.eval x)⟩:=by rw[<-SP];simp
  rw[<-e]at this;exact this.oper (by rw[ho];simp) (by unfold execOp;rw[ho]) JT CZ
 ·rename_i t l c d ho JT;exact(Nj hx hl).oper (by rw[ho];simp) (by unfold execOp;rw[ho]) JT CZ
 ·rename_i t d ho JT;exact(P9 (P:=X.P) (T:=t) hx hl).oper (by rw[ho];simp) (by unfold execOp;rw[ho];rfl) JT CZ
 ·rename_i t x d ho JT;exact(Wl hx hl).oper (by rw[ho];simp) (by unfold execOp;rw[ho]) JT CZ
 ·rename_i it b ho;obtain⟨v,w',s',l,hr,JP,CT,hK⟩:=Zv (P:=X.P) (ty:=o.type) hx hl;exact B5 (v:=v) (w':=w') (by rw[ho];simp) (by unfold execOp;rw[ho];simp[hr]) ⟨_,hK,Ga (Bf CZ) (JP.put _ CT)⟩
 ·rename_i it ho;obtain⟨v,l,hr,CT,hK⟩:=Vx (P:=X.P) hx.fit hl;exact B5 (v:=v) (w':=w) (by rw[ho];simp) (by unfold execOp;rw[ho];simp[hr]) ⟨_,hK,Ga (Bf CZ) (hx.put _ CT)⟩
 ·rename_i t m k v ho;obtain⟨w',s',CX,hr,hK,h'⟩:=Hw hx hl;exact Ij (w':=w') (by rw[ho];simp) (by unfold execOp;rw[ho];simp[hr]) ⟨_,hK,Ga (Bf CZ) (h'.put _ ⟨[],rfl,rfl,fun i x p h=>by simp at h⟩)⟩
 ·rename_i t m k v ho;obtain⟨w',s',CX,hr,hK,h'⟩:=Hw hx hl;exact Ij (w':=w') (by rw[ho];simp) (by unfold execOp;rw[ho];simp[hr]) ⟨_,hK,Ga (Bf CZ) (h'.put _ ⟨[],rfl,rfl,fun i x p h=>by simp at h⟩)⟩
 ·rename_i t m k ho;obtain⟨v,w',s',l,hr,JP,CT,hK⟩:=J05 hx hl;exact B5 (v:=v) (w':=w') (by rw[ho];simp) (by unfold execOp;rw[ho];simp[hr]) ⟨_,hK,Ga (Bf CZ) (JP.put _ CT)⟩
 ·rename_i t m e v ho;obtain⟨w',s',CX,hr,hK,h'⟩:=Jzp (P:=X.P) (t:=t) hx hl;exact Ij (w':=w') (by rw[ho];simp) (by unfold execOp;rw[ho];simp[hr]) ⟨_,hK,Ga (Bf CZ) (h'.put _ ⟨[],rfl,rfl,fun i x p h=>by simp at h⟩)⟩
 ·rename_i t x y ho;obtain⟨w',s',CX,hr,hK,h'⟩:=Uo hx hl;exact Ij (w':=w') (by rw[ho];simp) (by unfold execOp;rw[ho];simp[hr]) ⟨_,hK,Ga (Bf CZ) (h'.put _ ⟨[],rfl,rfl,fun i x p h=>by simp at h⟩)⟩
 ·rename_i args ts d ho JT;split at hl
  ·rename_i x y t t' ha ht;have:Lb (Γ.wm ms) a d ((Builtin.append_ #[t,t'] o.type #[a.eval x,a.eval y]).run X.P w) K:=by
    split at hl
    ·obtain⟨rfl,hl⟩:=hl;exact J3h hx hl
    ·exact Sz hx hl
   refine this.oper (by rw[ho];simp) ?_ JT CZ;unfold execOp;rw[ho];obtain⟨la⟩:=args;obtain⟨lt⟩:=ts;simp only at ha ht;subst ha;subst ht;simp[resolve,invoke,builtin]
  ·exact hl.elim
 ·rename_i args ts ho;split at hl
  ·rename_i x y t t' ha ht;obtain⟨la⟩:=args;obtain⟨lt⟩:=ts;simp only at ha ht;subst ha;subst ht;obtain⟨v,w',s',l,hr,h',CT,hK⟩:=Z6 (P:=X.P) (ty:=o.type) hx hl;exact B5 (v:=v) (w':=w') (by rw[ho];simp) (by unfold execOp;rw[ho];simp[resolve,invoke,builtin,hr]) ⟨_,hK,Ga (Bf CZ) (h'.put _ CT)⟩
  ·exact hl.elim
 ·rename_i args ts ho;split at hl
  ·rename_i m k t ts' ha ht;obtain⟨la⟩:=args;obtain⟨lt⟩:=ts;simp only at ha ht;subst ha;subst ht;obtain⟨w',s',hr,hK,h'⟩:=S2 (P:=X.P) (ty:=o.type) (ts:=ts') hx hl;exact B5 (v:=.tuple #[]) (w':=w') (by rw[ho];simp) (by unfold execOp;rw[ho];simp[resolve,invoke,builtin,hr]) ⟨_,hK,Ga (Bf CZ) (h'.put _ ⟨[],rfl,rfl,fun i x p h=>by simp at h⟩)⟩
  ·exact hl.elim
 ·rename_i args ts ho;unfold wB at hl;split at hl
  ·rename_i x y t it ha ht;split at hl
   ·exact Wb CZ hx hl
   ·obtain⟨la⟩:=args;obtain⟨lt⟩:=ts;simp only at ha ht;subst ha;subst ht;obtain⟨v,w',s',l,hr,h',CT,hK⟩:=Ni (P:=X.P) (it:=it) (ty:=o.type) hx hl;exact B5 (v:=v) (w':=w') (by rw[ho];simp) (by unfold execOp;rw[ho];simp[resolve,invoke,builtin,hr]) ⟨_,hK,Ga (Bf CZ) (h'.put _ CT)⟩
  ·exact hl.elim
 ·rename_i f args ts ho;unfold wA at hl;split at hl
  ·rename_i g ds hg;have ZA:=A2 hx.fit f;rw[hg]at ZA;obtain⟨cs,hv,FI,IS⟩:=ZA;have DE:(execOp a.eval o).run X.P w=(callFunc g ⟨args.toList.map a.eval++cs⟩).run X.P w:=by
    unfold execOp;rw[ho];have e:args.map a.eval++(⟨cs⟩:Array Value)=⟨args.toList.map a.eval++cs⟩:=by rw[<-SP];simp
    simp only[resolve,Sem.run_bind,hv,Deferred.ofValue,Sem.run_pure,Result.andThen_ok,invoke,oq,e]
   have MD:∀{s':St} {CX:Nat->Prop},DW (Γ.wm ms) β CX s' a.tmps w->∀(i:Nat) (v:Value) (l:L),(args.toList.map a.eval++cs)[i]?=some v->(args.toList.map s'.get++ds.map fun d=>L.ptr d 0 0)[i]?=some l->CE β w CX v l:=by
    intro s' CX JP i v l hi DB;by_cases BZ:i<args.toList.length
    ·rw[NZ (by simpa using BZ),Eam]at hi DB;obtain⟨q,hq,rfl⟩:=HF.1 hi;rw[hq]at DB;cases DB;exact A2 JP.fit q
    ·rw[Mr (by simpa using BZ)]at hi DB;simp only[HM]at hi DB;rw[Eam]at DB;obtain⟨d,hd,rfl⟩:=HF.1 DB;obtain⟨loc,h1,h2⟩:=IS _ v d hi hd;exact⟨loc,h1,by simpa using h2⟩
   unfold Jm at hl;split at hl
   ·obtain⟨CX,JP⟩:=DW.freezeOps args.toList hx;exact M6 hG CZ JP (by rw[ho];simp) (by simp[FI]) (MD JP) DE hl
   ·exact M6 hG CZ hx (by rw[ho];simp) (by simp[FI]) (MD hx) DE hl
   ·obtain⟨rfl,l,hX,hK⟩:=hl;have VQ:cs=[]:=by simpa using FI
    subst VQ;have EU:Fit β w Im ⟨args.toList.map s.get,s.regs⟩ ⟨args.toList.map a.eval⟩:=
     {
      size:=by simp,tmps:=fun i l DB=>by
       rw[Eam]at DB;obtain⟨q,hq,rfl⟩:=HF.1 DB;have e:(⟨args.toList.map a.eval⟩:Array Value).getD i undef=a.eval q:=by
        rw[OQ,Edq,Eam,hq];rfl
       rw[e];exact A2 hx.fit q
      regs:=hx.fit.regs,nodup:=hx.fit.nodup,live:=hx.fit.live,apart:=hx.fit.apart,im:=hx.fit.im }
    obtain⟨v,hr,CT⟩:=hX β Im w _ EU;exact B5 (v:=v) (w':=w) (by rw[ho];simp) (by rw[DE];simpa using hr) ⟨_,hK,Ga (Bf CZ) (hx.put _ CT)⟩
   ·obtain⟨rfl,l,hX,hK⟩:=hl;have VQ:cs=[]:=by simpa using FI
    subst VQ;obtain⟨v,hr,CT⟩:=hX β Im w (args.toList.map a.eval++[]) sm (fun i v l hi DB=>MD hx i v l hi (by simpa using DB));exact B5 (v:=v) (w':=w) (by rw[ho];simp) (by rw[DE,hr]) ⟨_,hK,Ga (Bf CZ) (hx.put _ CT)⟩
  ·rename_i g ps hg;obtain⟨_,PE,hl⟩:=hl;obtain⟨CX,JP⟩:=DW.freezeOps args.toList hx;have ZA:=A2 JP.fit f;rw[PE]at ZA;obtain⟨b,o',hv,CT⟩:=J6w (β:=β) ZA;have DE:(execOp a.eval o).run X.P w=(callFunc g ⟨args.toList.map a.eval++[.pointer (some ⟨b,o',none⟩)]⟩).run X.P w:=by
    unfold execOp;rw[ho];have e:args.map a.eval++(#[.pointer (some ⟨b,o',none⟩)]:Array Value)=⟨args.toList.map a.eval++[.pointer (some ⟨b,o',none⟩)]⟩:=by rw[<-SP];simp
    simp only[resolve,Sem.run_bind,hv,Deferred.ofValue,Sem.run_pure,Result.andThen_ok,invoke,oq,e]
   refine M6 hG CZ JP (by rw[ho];simp) sm (fun i v l hi DB=>?_) DE hl;by_cases BZ:i<args.toList.length
   ·rw[NZ (by simpa using BZ),Eam]at hi DB;obtain⟨q,hq,rfl⟩:=HF.1 hi;rw[hq]at DB;cases DB;exact A2 JP.fit q
   ·rw[Mr (by simpa using BZ)]at hi DB;simp only[HM]at hi DB;cases hk:i-args.toList.length with
    |zero=>rw[hk]at hi DB;simp at hi DB;subst hi;subst DB;exact CT
    |succ k=>rw[hk]at hi;simp at hi
  ·exact hl.elim
 ·rename_i a1 b1 x ho;unfold Jke at hl;split at hl
  ·rename_i d j hg;have hr:=A2 hx.fit x;rw[hg]at hr;obtain⟨v,l,hr,CT,hK⟩:=P5 (P:=X.P) hx.fit hr hl;exact B5 (v:=v) (w':=w) (by rw[ho];simp) (by unfold execOp;rw[ho];simp[hr]) ⟨_,hK,Ga (Bf CZ) (hx.put _ CT)⟩
  ·rename_i u hg;have hr:=A2 hx.fit x;rw[hg]at hr;obtain⟨v,w',β',CX,s',l,hr,JP,CT,hK⟩:=V2 (P:=X.P) hx hr hl;exact B5 (v:=v) (w':=w') (by rw[ho];simp) (by unfold execOp;rw[ho];simp[hr]) ⟨_,hK,Ga (Bf CZ) (JP.put _ CT)⟩
  ·obtain⟨CX,JP⟩:=DW.freezeOps [x] hx;have hl:∃v l,(convert a1 b1 (a.eval x)).run X.P w=.ok v w/\CE β w CX v l/\DL o.dst K (s.freezeOps [x]) l:=by
    split at hl
    ·rename_i hr;exact J5u hr (A2 JP.fit x) hl
    ·exact Jl (P:=X.P) (A2 JP.fit x) hl
   obtain⟨v,l,hr,CT,hK⟩:=hl;exact B5 (v:=v) (w':=w) (by rw[ho];simp) (by unfold execOp;rw[ho];simp[hr]) ⟨_,hK,Ga (Bf CZ) (JP.put _ CT)⟩
 ·rename_i t x lo hi ho;unfold pf at hl;split at hl
  ·rename_i d hg;obtain⟨v,s',l,CX,hr,JP,CT,hK⟩:=Jb1 (P:=X.P) hx hg hl;exact B5 (v:=v) (w':=w) (by rw[ho];simp) (by unfold execOp;rw[ho];simp[hr]) ⟨_,hK,Ga (Bf CZ) (JP.put _ CT)⟩
  ·exact Wb CZ hx hl
 ·exact Wb CZ hx hl
def T5{s:St}{K:St->Prop}(hG:Γ.G=X.G)(h:RR Γ s a w)(hl:Fh X o K s):o.wpIn (F0 ro) n X.P a w (fun a' w'=>∃s,K s/\RR Γ s a' w') Q:=by
 obtain⟨ms,CZ,hh⟩:=h;exact Oper.wpIn_mono (fun a' w' ⟨s',h1,h2⟩=>⟨s',h1,h2.rr⟩) (Lm (ms:=ms) hG ⟨CZ,hh⟩ hl)
def Gb{s:St}{g:Option (Nat×Bool)}{A B:St->Prop}(h:RR Γ s a w)(hl:F4 (ops.toList.map (·.dst)) g A B s) :
  ∃s',RR Γ s' a w/\((A s'/\∀o:Oper,o.guard=g->Region.wanted o (yielded ops a.tmps)=true)\/(B s'/\∀o:Oper,o.guard=g->Region.wanted o (yielded ops a.tmps)=false)):=by
 unfold F4 at hl;split at hl
 ·exact⟨s,h,.inl ⟨hl,fun o ho=>by simp[Region.wanted,ho]⟩⟩
 ·rename_i j FY;split at hl
  ·rename_i dj VT;obtain⟨ms,CZ,β,Im,hx⟩:=h;have UY:(ops[j]?).bind (·.dst)=some dj:=by
    rw[GU,Eam]at VT;cases hj:ops[j]? with
    |none=>simp[hj]at VT
    |some o=>simpa[hj]using VT
   split at hl
   ·rename_i c hc;have BZ:s.tmps[dj]?=some (.p (.bool c)):=by
     rw[GU]at hc;cases hs:s.tmps[dj]? with
     |none=>rw[hs]at hc;simp at hc
     |some l=>rw[hs]at hc;simp at hc;rw[hc]
    have CT:=hx.fit.tmps dj _ BZ;have DI:dj<a.tmps.size:=by rw[hx.fit.size];exact(DX.1 BZ).1
    have hv:a.tmps[dj]?=some (.bool c):=by
     have e1:a.tmps.getD dj undef=a.tmps[dj]:=by simp[OQ,DI]
     rw[e1]at CT;cases IF:a.tmps[dj]with
     |bool b=>rw[IF]at CT;cases CT;simp[DI,IF]
     |_=>rw[IF]at CT;cases CT
    have hy:yielded ops a.tmps j=some c:=by simp[yielded,UY,hv]
    have same:∀c',c=c'->RR Γ (s.put (some dj) (.p (.bool c'))) a w:=by
     rintro c' rfl;have e:s.put (some dj) (.p (.bool c))=s:=by
      simp only[St.put];congr 1;obtain⟨GH,IX⟩:=DX.1 BZ;rw[<-IX];exact List.set_getElem_self GH
     rw[e];exact⟨ms,CZ,β,Im,hx⟩
    by_cases ZB:c=FY
    ·exact⟨_,same FY ZB,.inl ⟨hl.1 ZB,fun o ho=>by simp[Region.wanted,ho,hy,ZB]⟩⟩
    ·have bA:c = !FY:=by cases c<;>cases FY<;>simp_all
     exact⟨_,same (!FY) bA,.inr ⟨hl.2 bA,fun o ho=>by simp[Region.wanted,ho,hy,ZB]⟩⟩
   ·rename_i hc;have BZ:s.tmps[dj]?=some (.tup []):=by
     rw[GU]at hc;cases hs:s.tmps[dj]? with
     |none=>rw[hs]at hc;simp at hc
     |some l=>rw[hs]at hc;simp at hc;rw[hc]
    have CT:=hx.fit.tmps dj _ BZ;have DI:dj<a.tmps.size:=by rw[hx.fit.size];exact(DX.1 BZ).1
    have e1:a.tmps.getD dj undef=a.tmps[dj]:=by simp[OQ,DI]
    rw[e1]at CT;obtain⟨vs,hv,_⟩:=CT;have hy:yielded ops a.tmps j=none:=by simp[yielded,UY,DI,hv]
    exact⟨s,⟨ms,CZ,β,Im,hx⟩,.inr ⟨hl,fun o ho=>by simp[Region.wanted,ho,hy]⟩⟩
   ·exact hl.elim
  ·exact hl.elim
def H0:CE β w Im undef (.tup []):=⟨[],rfl,rfl,fun i x p h=>by simp at h⟩
def Lv{ops:Array Oper}{K:St->Prop}{Q:Exit->Act->World->Prop}{n:Nat}(hG:Γ.G=X.G)(hQ:∀s a w,K s->RR Γ s a w->Q .normal a w):∀(l:List Oper) (k:Nat),(∀j,l[j]?=ops[k+j]?)->∀(s:St) (a:Act) (w:World),RR Γ s a w ->
  LP X (ops.toList.map (·.dst)) l K s->wpOpsIn (F0 ro) n X.P ops Q (List.range' k l.length) a w
 |[],k,_,s,a,w,h,hl=>by simpa[wpOpsIn]using hQ s a w hl h
 |o::l,k,hk,s,a,w,h,hl=>by
  have h0:ops[k]?=some o:=by simpa using(hk 0).symm
  have IE:∀j,l[j]?=ops[k+1+j]?:=fun j=>by have:=hk (j+1);simpa[QO,YM 1 j]using this
  simp only[DH,List.range'_succ,wpOpsIn,h0];simp only[LP]at hl;obtain⟨s',h',hc⟩:=Gb h hl;rcases hc with⟨hA,hw⟩|⟨hB,hw⟩
  ·rw[AB (hw o rfl)];exact Oper.wpIn_mono (fun a' w' ⟨s2,X8,MH⟩=>Lv hG hQ l (k+1) IE s2 a' w' MH X8) (T5 hG h' hA)
  ·rw[AA (by rw[hw o rfl];simp)];obtain⟨ms,CZ,β,Im,hx⟩:=h';exact⟨fun _ _=>trivial,Lv hG hQ l (k+1) IE _ _ w ⟨ms,Bf CZ,β,Im,hx.put o.dst H0⟩ hB⟩
end
def L.retOK:L->Bool|.p _=>true|.tup _=>true|_=>false
variable {args:List L}{K:L->Prop}{l:L}{Post:L->BX->Prop}{ws:List (Nat×L)}
def bB(s:St)(t:TypeId)(n:Nat)(parts:List (Nat×Operand))(K:L->Prop):Prop:=
 ∃
  e sz,IW P t=some (e,sz)/\n*sz<=16777216/\(∃zs,Bu P e=some zs/\zs.length=sz)/\parts.length=n/\Jt 0 (parts.map fun(i,x)=>(i,s.get x))=true /\
  ∃es,Dn sz (parts.map fun(i,x)=>(i,s.get x))=some es/\K (.p (.sl es))
def KC(s:St)(o:Oper)(K:L->Prop):Prop:=
 match o.op with
 |.call { callee:=.value f,args,argTypes:=_ }=>match s.get f with
  |.fn g []=>∃l,(Al X g (args.toList.map s.get) [] (fun m _=>m=l)/\l.retOK=true)/\K l
  |.p (.clo g ps)=>∃l,(Al X g (args.toList.map s.get++[.eptr ps]) [] (fun m _=>m=l)/\l.retOK=true)/\K l
  |_=>False
 |.buildSlice t n parts=>bB X.P s t n parts.toList K
 |op=>lq X.P s.regs s.get op K
def kq(o:Oper)(K:St->Prop)(s:St):Prop:=KC X s o (DL o.dst K s)
def Jf(X:Cx)(ds:List (Option Tmp)):List Oper->(St->Prop)->St->Prop|[],K,s=>K s|o::BR,K,s=>F4 ds o.guard (kq X o (Jf X ds BR K)) (F9 o.dst (Jf X ds BR K)) s
def YS(ds:List (Option Tmp))(s:St)(o:Oper)(K:L->Prop):Prop:=
 match o.guard with
 |none=>KC X s o K
 |some (j,FY)=>match ds.getD j none with
  |some dj=>match s.tmps.getD dj .junk with
   |.p (.bool c)=>if c=FY then KC X s o K else K (.tup [])
   |.tup []=>K (.tup [])
   |_=>False
  |none=>False
def wC(X:Cx)(ds:List (Option Tmp))(K:St->Prop):List Oper->St->Prop
 |[],s=>K s
 |o::BR,s=>YS X ds s o fun l=>wC X ds K BR (s.put o.dst l)
section
variable {X:Cx} {Γ:FH} {ro:Option Nat} {ops:Array Oper} {md:Region.Mode}
def Mu{s:St}{K':L->Prop}(h:∀l,K l->K' l)(hl:KC X s o K):KC X s o K':=by
 unfold KC at hl⊢;split at hl
 ·split at hl
  ·obtain⟨l,h1,h2⟩:=hl;exact⟨l,h1,h l h2⟩
  ·obtain⟨l,h1,h2⟩:=hl;exact⟨l,h1,h l h2⟩
  ·exact hl.elim
 ·obtain⟨e,sz,h1,h2,h3,h4,h5,es,h6,h7⟩:=hl;exact⟨e,sz,h1,h2,h3,h4,h5,es,h6,h _ h7⟩
 ·exact Jpx h hl
def Th{s:St}(hl:KC X s o K):∃l,KC X s o (fun m=>m=l)/\K l:=by
 unfold KC at hl⊢;split at hl
 ·split at hl
  ·obtain⟨l,h1,h2⟩:=hl;exact⟨l,⟨l,h1,rfl⟩,h2⟩
  ·obtain⟨l,h1,h2⟩:=hl;exact⟨l,⟨l,h1,rfl⟩,h2⟩
  ·exact hl.elim
 ·obtain⟨e,sz,h1,h2,h3,h4,h5,es,h6,h7⟩:=hl;exact⟨_,⟨e,sz,h1,h2,h3,h4,h5,es,h6,rfl⟩,h7⟩
 ·exact Jis hl
def Tx{s s':St}(hr:s'.regs=s.regs)(FF:∀x∈o.op.operands.toList,s'.get x=s.get x)(hl:KC X s o K):KC X s' o K:=by
 unfold KC at hl⊢;split at hl
 ·rename_i f args ts ho;have e1:s'.get f=s.get f:=FF f (by rw[ho];simp[Op.operands,Call.operands]);have e2:args.toList.map s'.get=args.toList.map s.get:=UM fun x hm=>FF x (by rw[ho];simp[Op.operands,Call.operands];exact .inr (by simpa using hm))
  rw[e1,e2];exact hl
 ·rename_i t n parts ho;have e2:(parts.toList.map fun(i,x)=>(i,s'.get x))=parts.toList.map fun(i,x)=>(i,s.get x):=UM fun x hm=>by
   have:=FF x.2 (by rw[ho];simp[Op.operands];exact⟨x.1,by simpa using hm⟩);simp only[this]
  unfold bB at hl⊢;rw[e2];exact hl
 ·rw[hr];exact vq FF hl
def Kr{s:St}{K':L->Prop}(h:∀l,K l->K' l)(hl:YS X ds s o K):YS X ds s o K':=by
 unfold YS at hl⊢;split at hl
 ·exact Mu h hl
 ·split at hl
  ·split at hl
   ·split at hl
    ·rename_i hc;rw[AB hc];exact Mu h hl
    ·rename_i hc;rw[AA hc];exact h _ hl
   ·exact h _ hl
   ·exact hl.elim
  ·exact hl.elim
def wD{s:St}(hl:YS X ds s o K):∃l,YS X ds s o (fun m=>m=l)/\K l:=by
 unfold YS at hl⊢;split at hl
 ·exact Th hl
 ·split at hl
  ·split at hl
   ·split at hl
    ·rename_i hc;simp only[AB hc];exact Th hl
    ·rename_i hc;simp only[AA hc];exact⟨_,rfl,hl⟩
   ·exact⟨_,rfl,hl⟩
   ·exact hl.elim
  ·exact hl.elim
def PX{s:St}(h:∀d,dst=some d->x≠.tmp d):(s.put dst l).get x=s.get x:=by
 cases dst with
 |none=>rfl
 |some d =>
  cases x with
  |tmp t =>
   have:d≠t:=fun e=>h d rfl (by rw[e])
   simp[St.get,St.put,GU,this]
  |const v=>rfl
  |global g=>rfl
  |func f=>rfl
def Jlk:(ops.toList.map (·.dst)).getD j none=(ops[j]?).bind (·.dst):=by
 rw[GU,Eam];cases h:ops[j]?<;>simp[h]
def Uk{s:St}(h:∀d,dst=some d->d∉o.looksAt ops)(hl:YS X (ops.toList.map (·.dst)) s o K):YS X (ops.toList.map (·.dst)) (s.put dst l) o K:=by
 have LJ:∀x∈o.op.operands.toList,(s.put dst l).get x=s.get x:=fun x hx=>PX fun d hd iC=>h d hd (by
  subst iC;exact aL _ (oo.2 ⟨.tmp d,by simpa using hx,rfl⟩))
 have JE:(s.put dst l).regs=s.regs:=by cases dst<;>rfl
 unfold YS at hl⊢;split at hl
 ·exact Tx JE LJ hl
 ·rename_i j FY hg;split at hl
  ·rename_i dj VT;have zj:(ops[j]?).bind (·.dst)=some dj:=by rw[<-Jlk];exact VT
   have pj:(s.put dst l).tmps.getD dj .junk=s.tmps.getD dj .junk:=by
    cases dst with
    |none=>rfl
    |some d =>
     have:d≠dj:=fun e=>h d rfl (by
      subst e;unfold Oper.looksAt;refine cf _ ?_;rw[hg];simp only[zj];simp)
     simp[St.put,GU,this]
   rw[pj];split at hl
   ·split at hl
    ·rename_i hc;rw[AB hc];exact Tx JE LJ hl
    ·rename_i hc;rw[AA hc];exact hl
   ·exact hl
   ·exact hl.elim
  ·exact hl.elim
def nh(s:St){x y:Option Tmp}(v u:L)(h:∀d,x=some d->y≠some d):(s.put x v).put y u=(s.put y u).put x v:=by
 cases x with
 |none=>rfl
 |some d=>cases y with
  |none=>rfl
  |some e =>
   have:d≠e:=fun h'=>h d rfl (by rw[h'])
   simp only[St.put];congr 1;exact List.set_comm _ _ this
def Yr{s:St}(h:∀d,dst=some d->d∉o.looksAt ops)(hl:YS X (ops.toList.map (·.dst)) (s.put dst l) o K):YS X (ops.toList.map (·.dst)) s o K:=by
 cases dst with
 |none=>exact hl
 |some d =>
  cases hd:s.tmps[d]? with
  |none =>
   have:s.put (some d) l=s:=by
    simp only[St.put];congr 1;exact List.set_eq_of_length_le (by rw[List.getElem?_eq_none_iff]at hd;exact hd)
   rw[this]at hl;exact hl
  |some l0 =>
   have:=Uk (ops:=ops) (dst:=some d) (l:=l0) h hl;have e:(s.put (some d) l).put (some d) l0=s:=by
    simp only[St.put,List.set_set];congr 1;obtain⟨h1,h2⟩:=DX.1 hd;rw[<-h2];exact List.set_getElem_self h1
   rw[e]at this;exact this
def bC(X:Cx)(md:Region.Mode)(ops:Array Oper)(K:St->Prop):Nat->Array Bool->St->Prop
 |0,BN,s=>Region.ready md ops BN=[]/\K s
 |fuel+1,BN,s=>(Region.ready md ops BN=[]->K s) /\
  ∀i∈Region.ready md ops BN,∀o,ops[i]?=some o->YS X (ops.toList.map (·.dst)) s o fun l=>bC X md ops K fuel (BN.setIfInBounds i true) (s.put o.dst l)
def Jck{K:St->Prop}{oi:Oper}{v:L}(hi:ops[i]?=some oi):∀(fuel:Nat) (BN:Array Bool) (s:St),
   (∀j oj,ops[j]?=some oj->j≠i->BN.getD j true=false->(∀e∈oj.after,Region.binds md e=true->e.on≠i)->oi.apart ops oj=true) ->
   i∈Region.ready md ops BN->YS X (ops.toList.map (·.dst)) s oi (fun m=>m=v) ->
   bC X md ops K fuel (BN.setIfInBounds i true) (s.put oi.dst v)->bC X md ops K (fuel+1) BN s:=by
 intro fuel
 induction fuel with
 |zero =>
  intro BN s _ hr hy H;refine⟨fun h=>(by rw[h]at hr;cases hr),fun j hj oj HG=>?_⟩;by_cases HC:j=i
  ·subst HC;rw[hi]at HG;cases HG;exact Kr (fun l hl=>by rw[hl];exact H) hy
  ·have:=ready_mono hj HC;rw[H.1]at this;cases this
 |succ fuel ih =>
  intro BN s LA hr hy H;refine⟨fun h=>(by rw[h]at hr;cases hr),fun j hj oj HG=>?_⟩;by_cases HC:j=i
  ·subst HC;rw[hi]at HG;cases HG;exact Kr (fun l hl=>by rw[hl];exact H) hy
  ·have h1:=H.2 j (ready_mono hj HC) oj HG;obtain⟨Pv,zk,Pw,GI⟩:=mem_ready.1 hj;rw[HG]at Pw;cases Pw;have WU:∀e∈oj.after,Region.binds md e=true->e.on≠i:=fun e he hb Pe=>by
    have h1:=GI e he hb;have h0:=(mem_ready.1 hr).1;rw[Pe]at h1;rcases fI i BN.size with h'|h'
    ·simp[h']at h0 h1;rw[h0]at h1;cases h1
    ·simp[Array.getElem?_eq_none h']at h1
   obtain⟨a1,a2,a3⟩:=Oper.apart_spec (LA j oj HG HC Pv WU);have Ib:∀k ok,ops[k]?=some ok->k≠i->(BN.setIfInBounds j true).getD k true=false ->
     (∀e∈ok.after,Region.binds md e=true->e.on≠i)->oi.apart ops ok=true:=fun k ok hk iD ZC GR=>by
    refine LA k ok hk iD ?_ GR;by_cases TE:j=k
    ·subst TE;exact Pv
    ·rw[getD_set_ne true TE]at ZC;exact ZC
   refine Kr (fun l hl=>?_) (Yr a1 h1);refine ih (BN.setIfInBounds j true) (s.put oj.dst l) Ib (ready_mono hr (Ne.symm HC)) (Uk a3 hy) ?_;rw[gP _ _ HC];rw[<-nh s v l a2];exact hl
def W7{K:St->Prop}:∀(l:List Oper) (k:Nat) (BN:Array Bool) (s:St),(∀j,l[j]?=ops[k+j]?) ->
  Region.lexFrom md ops l.length k BN=true->wC X (ops.toList.map (·.dst)) K l s->bC X md ops K l.length BN s
 |[],_,_,_,_,hB,h=>⟨by simpa[Region.lexFrom]using hB,h⟩
 |o::l,k,BN,s,hl,hB,h=>by
  have h0:ops[k]?=some o:=by simpa using(hl 0).symm
  simp only[DH,Region.lexFrom,OS]at hB;obtain⟨⟨hr,hf⟩,wE⟩:=hB;obtain⟨v,hy,hK⟩:=wD (X:=X) (show YS X _ s o _ from h);exact Jck h0 l.length BN s (Region.free_spec h0 hf) (by simpa using hr) hy
   (W7 l (k+1) _ _ (fun j=>by have:=hl (j+1);simpa[QO,YM 1 j]using this) wE hK)
def Jfi{s:St}(hG:Γ.G=X.G)(h:RR Γ s a w)(hl:KC X s o K) :
  o.wpIn (F0 ro) n X.P a w (fun a' w'=>∃l,K l/\RR Γ (s.put o.dst l) a' w') Q:=by
 obtain⟨ms,CZ,β,Im,hx⟩:=h;unfold KC at hl;split at hl
 ·rename_i f args ts ho;split at hl
  ·rename_i g hg;obtain⟨l,⟨⟨Pu,hl⟩,iE⟩,hK⟩:=hl;have ZA:=A2 hx.fit f;rw[hg]at ZA;obtain⟨cs,hv,FI,IS⟩:=ZA;have:cs=[]:=KH (by simpa using FI);subst this;have EU:Fit β w Im ⟨args.toList.map s.get,[]⟩ ⟨args.toList.map a.eval⟩:=by
    refine{ size:=by simp,tmps:=fun i l DB=>?_,regs:=fun d r h=>(by cases h),nodup:=.nil,live:=fun d r loc h=>(by cases h),apart:=fun d r d' r' l1 l2 h=>(by cases h),im:=hx.fit.im };simp only[Eam]at DB;obtain⟨q,hq,rfl⟩:=HF.1 DB;have e1:(⟨args.toList.map a.eval⟩:Array Value).getD i undef=a.eval q:=by simp only[OQ,Edq,Eam,hq];rfl
    rw[e1];exact A2 hx.fit q
   refine Q0 (f:=g) (args:=⟨args.toList.map a.eval⟩) (w':=w) (by rw[ho];simp) ?_ ?_
   ·unfold execOp;rw[ho];have e:args.map a.eval++(⟨[]⟩:Array Value)=⟨args.toList.map a.eval⟩:=by rw[<-SP];simp
    simp only[resolve,Sem.run_bind,hv,Deferred.ofValue,Sem.run_pure,Result.andThen_ok,invoke,oq,e];exact Pu _ _
   ·refine(hl β Im w _ (hG▸hx.glob) EU).mono fun e w' ⟨v,m,DU,β',WM,he,hP,CT,EI⟩=>⟨v,he,l,hK,ms,Bf CZ,β,WM,?_⟩
    subst hP;have g:DY w Im w' WM:=⟨EI.os,EI.tape,EI.output,EI.size,fun k hk=>EI.block k hk fun d r loc h=>(by cases h),EI.imin,fun b hb=>(EI.imnew b hb).imp id fun h=>h.elim id fun⟨d,r,loc,h,_⟩=>(by cases h),EI.fit.im⟩
    refine(hx.grow g).put _ ?_;cases m<;>first|exact CT|cases iE
  ·rename_i g ps hg;obtain⟨l,⟨⟨Pu,hl⟩,iE⟩,hK⟩:=hl;have ZA:=A2 hx.fit f;rw[hg]at ZA;obtain⟨b,o',hv,ZA⟩:=J6w (β:=β) ZA;have EU:Fit β w Im ⟨args.toList.map s.get++[.eptr ps],[]⟩ ⟨args.toList.map a.eval++[.pointer (some ⟨b,o',none⟩)]⟩:=by
    refine{ size:=by simp,tmps:=fun i l DB=>?_,regs:=fun d r h=>(by cases h),nodup:=.nil,live:=fun d r loc h=>(by cases h),apart:=fun d r d' r' l1 l2 h=>(by cases h),im:=hx.fit.im };by_cases BZ:i<args.toList.length
    ·simp only[]at DB;rw[NZ (by simpa using BZ),Eam]at DB;obtain⟨q,hq,rfl⟩:=HF.1 DB;have e1:(⟨args.toList.map a.eval++[.pointer (some ⟨b,o',none⟩)]⟩:Array Value).getD i undef=a.eval q:=by
      rw[OQ,Edq,NZ (by simpa using BZ),Eam,hq];rfl
     rw[e1];exact A2 hx.fit q
    ·simp only[]at DB;rw[Mr (by simpa using BZ),HM]at DB;cases hk:i-args.toList.length with
     |zero =>
      rw[hk]at DB;simp at DB;subst DB;have e1:(⟨args.toList.map a.eval++[.pointer (some ⟨b,o',none⟩)]⟩:Array Value).getD i undef=.pointer (some ⟨b,o',none⟩):=by
       rw[OQ,Edq,Mr (by simpa using BZ),HM,hk];rfl
      rw[e1];exact ZA
     |succ k=>rw[hk]at DB;simp at DB
   refine Q0 (f:=g) (args:=⟨args.toList.map a.eval++[.pointer (some ⟨b,o',none⟩)]⟩) (w':=w) (by rw[ho];simp) ?_ ?_
   ·unfold execOp;rw[ho];have e:args.map a.eval++(#[.pointer (some ⟨b,o',none⟩)]:Array Value)=⟨args.toList.map a.eval++[.pointer (some ⟨b,o',none⟩)]⟩:=by rw[<-SP];simp
    simp only[resolve,Sem.run_bind,hv,Deferred.ofValue,Sem.run_pure,Result.andThen_ok,invoke,oq,e];exact Pu _ _
   ·refine(hl β Im w _ (hG▸hx.glob) EU).mono fun e w' ⟨v,m,DU,β',WM,he,hP,CT,EI⟩=>⟨v,he,l,hK,ms,Bf CZ,β,WM,?_⟩
    subst hP;have g:DY w Im w' WM:=⟨EI.os,EI.tape,EI.output,EI.size,fun k hk=>EI.block k hk fun d r loc h=>(by cases h),EI.imin,fun b hb=>(EI.imnew b hb).imp id fun h=>h.elim id fun⟨d,r,loc,h,_⟩=>(by cases h),EI.fit.im⟩
    refine(hx.grow g).put _ ?_;cases m<;>first|exact CT|cases iE
  ·exact hl.elim
 ·rename_i t m parts ho;obtain⟨e,sz,h1,h2,h3,h4,h5,es,h6,h7⟩:=hl;obtain⟨v,w',CX,hr,hg,hp⟩:=Po hx h1 h2 h3 h4 h5 h6;have e1:(parts.map fun(i,x)=>(i,a.eval x))=⟨parts.toList.map fun(i,x)=>(i,a.eval x)⟩:=by rw[<-SP];simp
  rw[<-e1]at hr;refine B5 (v:=v) (w':=w') (by rw[ho];simp) (by unfold execOp;rw[ho];simp[hr]) ⟨_,h7,ms,Bf CZ,β,CX,(hx.grow hg).put _ hp⟩
 ·have hq:=X5 (P:=X.P) hx.fit (o:=o) hl;obtain⟨v,l,hr,CT,hK⟩:=hq;refine B5 (v:=v) (w':=w) (fun c hc=>?_) hr ⟨_,hK,ms,Bf CZ,β,Im,hx.put _ CT⟩;rw[hc]at hl;simp[lq,XS]at hl
def Jk5{s:St}(h:RR Γ s a w){j dj:Nat}{c:Bool}(VT:(ops[j]?).bind (·.dst)=some dj)(hc:s.tmps.getD dj .junk=.p (.bool c)):yielded ops a.tmps j=some c:=by
 obtain⟨ms,CZ,β,Im,hx⟩:=h;have BZ:s.tmps[dj]?=some (.p (.bool c)):=by
  rw[GU]at hc;cases hs:s.tmps[dj]? with
  |none=>rw[hs]at hc;simp at hc
  |some l=>rw[hs]at hc;simp at hc;rw[hc]
 have CT:=hx.fit.tmps dj _ BZ;have DI:dj<a.tmps.size:=by rw[hx.fit.size];exact(DX.1 BZ).1
 have e1:a.tmps.getD dj undef=a.tmps[dj]:=by simp[OQ,DI]
 rw[e1]at CT;cases IF:a.tmps[dj]with
 |bool b=>rw[IF]at CT;cases CT;simp[yielded,VT,DI,IF]
 |_=>rw[IF]at CT;cases CT
def Jca{s:St}(h:RR Γ s a w){j dj:Nat}(VT:(ops[j]?).bind (·.dst)=some dj)(hc:s.tmps.getD dj .junk=.tup []):yielded ops a.tmps j=none:=by
 obtain⟨ms,CZ,β,Im,hx⟩:=h;have BZ:s.tmps[dj]?=some (.tup []):=by
  rw[GU]at hc;cases hs:s.tmps[dj]? with
  |none=>rw[hs]at hc;simp at hc
  |some l=>rw[hs]at hc;simp at hc;rw[hc]
 have CT:=hx.fit.tmps dj _ BZ;have DI:dj<a.tmps.size:=by rw[hx.fit.size];exact(DX.1 BZ).1
 have e1:a.tmps.getD dj undef=a.tmps[dj]:=by simp[OQ,DI]
 rw[e1]at CT;obtain⟨vs,hv,_⟩:=CT;simp[yielded,VT,DI,hv]
def Zy{s:St}{K':Act->World->Prop}(hi:ops[i]?=some o)(hG:Γ.G=X.G)(h:RR Γ s a w)(hl:YS X (ops.toList.map (·.dst)) s o K)(hK:∀l a' w',K l->RR Γ (s.put o.dst l) a' w'->K' a' w'):wpOpIn (F0 ro) n X.P ops Q i K' a w:=by
 unfold wpOpIn;simp only[hi];have run:∀{K:L->Prop},KC X s o K->(∀l a' w',K l->RR Γ (s.put o.dst l) a' w'->K' a' w')->o.wpIn (F0 ro) n X.P a w K' Q:=fun hl hK =>
  Oper.wpIn_mono (fun a' w' ⟨l,h1,h2⟩=>hK l a' w' h1 h2) (Jfi hG h hl)
 have skip:∀{K:L->Prop},K (.tup [])->(∀l a' w',K l->RR Γ (s.put o.dst l) a' w'->K' a' w')->K' (a.put o.dst undef) w:=fun h1 hK=>by
  obtain⟨ms,CZ,β,Im,hx⟩:=h;exact hK _ _ _ h1 ⟨ms,Bf CZ,β,Im,hx.put _ H0⟩
 unfold YS at hl;split at hl
 ·rename_i hg;rw[AB (by simp[Region.wanted,hg])];exact run hl hK
 ·rename_i j FY hg;split at hl
  ·rename_i dj VT;rw[Jlk]at VT;split at hl
   ·rename_i c hc;have hy:=Jk5 h VT hc;split at hl
    ·rename_i ZB;rw[AB (by simp[Region.wanted,hg,hy,ZB])];exact run hl hK
    ·rename_i ZB;rw[AA (by simp[Region.wanted,hg,hy,ZB])];exact⟨fun _ _=>trivial,skip hl hK⟩
   ·rename_i hc;have hy:=Jca h VT hc;rw[AA (by simp[Region.wanted,hg,hy])];exact⟨fun _ _=>trivial,skip hl hK⟩
   ·exact hl.elim
  ·exact hl.elim
def K7{K:St->Prop}{Q:Exit->Act->World->Prop}{n:Nat}(hG:Γ.G=X.G)(hQ:∀s a w,K s->RR Γ s a w->Q .normal a w):∀(fuel:Nat) (BN:Array Bool) (s:St) (a:Act) (w:World),RR Γ s a w ->
  bC X md ops K fuel BN s->wpAnyIn (F0 ro) n X.P md ops Q fuel BN a w
 |0,_,s,a,w,h,hl=>⟨hl.1,hQ s a w hl.2 h⟩
 |fuel+1,_,s,a,w,h,hl=>⟨fun h0=>hQ s a w (hl.1 h0) h,fun i hi=>by
   obtain⟨_,o,ho,_⟩:=mem_ready.1 hi;exact Zy ho hG h (hl.2 i hi o ho) fun l a' w' h1 h2=>K7 hG hQ fuel _ _ a' w' h2 h1⟩
def Gy{K:St->Prop}{ds:List (Option Tmp)}:∀(l:List Oper) (s:St),Jf X ds l K s->wC X ds K l s
 |[],s,h=>h
 |o::l,s,h=>by
  have self:∀(dj:Nat) (c:Bool),s.tmps.getD dj .junk=.p (.bool c)->s.put (some dj) (.p (.bool c))=s:=by
   intro dj c hc;rw[GU]at hc;cases hs:s.tmps[dj]? with
   |none=>rw[hs]at hc;simp at hc
   |some x =>
    rw[hs]at hc;simp at hc;simp only[St.put];congr 1;obtain⟨h1,h2⟩:=DX.1 hs;rw[<-hc,<-h2];exact List.set_getElem_self h1
  simp only[Jf]at h;simp only[wC];unfold F4 at h;unfold YS;cases hg:o.guard with
  |none =>
   rw[hg]at h;exact Mu (fun m hm=>Gy l _ hm) h
  |some jw =>
   obtain⟨j,FY⟩:=jw;rw[hg]at h;simp only at h⊢;cases VT:ds.getD j none with
   |none=>rw[VT]at h;exact h.elim
   |some dj =>
    rw[VT]at h;simp only at h⊢;split at h
    ·rename_i c hc
     try rw[hc]
     try simp only
     by_cases ZB:c=FY
     ·rw[AB ZB];have h1:=h.1 ZB;subst ZB;rw[self _ _ hc]at h1;exact Mu (fun m hm=>Gy l _ hm) h1
     ·rw[AA ZB];have bA:c = !FY:=by cases c<;>cases FY<;>simp_all
      have h1:=h.2 bA;rw[<-bA,self _ _ hc]at h1;exact Gy l _ h1
    ·rename_i hc
     try rw[hc]
     exact Gy l _ h
    ·exact h.elim
def Xt{id:Nat}{s:St}{K:St->Prop}(hG:Γ.G=X.G)(hm:X.P.follows .mixedOrders=true)(hB:Region.lexB .any ops=true)(hQ:∀s a w,K s->RR Γ s a w->Q .normal a w)(h:RR Γ s a w)(hl:Jf X (ops.toList.map (·.dst)) ops.toList K s):(Code.region id ops true).wpIn (F0 ro) n X.P Q a w:=by
 simp only[Region.lexB,OS]at hB;have h':RR Γ s a { w with drawn:=w.drawn+1 }:=by
  obtain⟨ms,CZ,β,Im,hx⟩:=h;exact⟨ms,CZ,β,Im,hx.grow (DY.drew hx.fit.im)⟩
 refine wpIn_region_any hm (K7 hG hQ _ _ s a _ h' ?_);have:=W7 (X:=X) (K:=K) (md:=.any) ops.toList 0 (Array.replicate ops.size false) s sm (by simpa using hB.2) (Gy ops.toList s hl);simpa using this
end
inductive Ex where
 |normal
 |exit (id:Nat)
 |ret
def QQ(Γ:FH)(Q:Ex->St->Prop):Exit->Act->World->Prop|.normal,a,w=>∃s,Q .normal s/\RR Γ s a w|.exit id,a,w=>∃s,Q (.exit id) s/\RR Γ s a w|.ret,a,w=>∃s,Q .ret s/\RR Γ s a w|_,_,_=>False
def FH.loopAt(Γ:FH)(l:Nat):Prop:=(∃r,Γ.W0.heap[l]?=some (.loop r))/\¬Γ.may l
variable {Γ:FH}
def zm(ro:Option Nat)(Γ:FH):Prop:=Γ.G=X.G/\∀l,ro=some l->Γ.loopAt l
def Kdc{X:Cx}(h:Γ.G=X.G):zm X none Γ:=⟨h,fun _ h=>by cases h⟩
def CL(ro:Option Nat)(c:Code)(Q:Ex->St->Prop)(s:St):Prop:=∀Γ a w,zm X ro Γ->RR Γ s a w->c.wpIn (F0 ro) 1 X.P (QQ Γ Q) a w
def ZD(B:(Ex->St->Prop)->St->Prop)(Q:Ex->St->Prop):Ex->St->Prop|.normal,s=>B Q s|.exit id,s=>Q (.exit id) s|.ret,s=>Q .ret s
def Nq(id:Nat)(Q:Ex->St->Prop):Ex->St->Prop|.normal,s=>Q .normal s|.exit WV,s=>if WV=id then Q .normal s else Q (.exit WV) s|.ret,s=>Q .ret s
def O0(l:L)(A B:St->Prop)(s:St):Prop:=match l with|.p (.bool t)=>(t=true->A s)/\(t=false->B s)|_=>False
def KQ(X:Cx)(ro:Option Nat):Code->(Ex->St->Prop)->St->Prop
 |.skip,Q,s=>Q .normal s
 |.region id ops TF,Q,s=>match TF with
  |false=>LP X (ops.toList.map (·.dst)) ops.toList (Q .normal) s
  |true=>CL X ro (.region id ops true) Q s
 |.seq a b,Q,s=>KQ X ro a (ZD (KQ X ro b) Q) s
 |.cond c a b,Q,s=>O0 (s.get c) (KQ X ro a Q) (KQ X ro b Q) s
 |.block id c,Q,s=>KQ X ro c (Nq id Q) s
 |.loop c,Q,s=>CL X ro (.loop c) Q s
 |.exit id,Q,s=>Q (.exit id) s
 |.ret,Q,s=>Q .ret s
 |.label _,Q,s=>Q .normal s
 |.scope c,Q,s=>KQ X ro c Q s
 |c,Q,s=>CL X ro c Q s
def Js{P:Program}{b:Frame}:step P (lone (b.atR a (.code (.scope c)::k)) cs w)=.next (lone (b.atR a (.code c::.inScope c::k)) cs w):=
 step_lone_go (by simp[stepG,stepG.exec,Frame.atR])
def S3{P:Program}{b:Frame}:step P (lone (b.atR a (.inScope c::k)) cs w)=.next (lone (b.atR a k) cs w):=
 step_lone_go (by simp[stepG,stepG.exec,Frame.atR])
section
variable {X:Cx} {ro:Option Nat}
def Ae(hm:X.P.follows .mixedOrders=true):∀(c:Code) (Q:Ex->St->Prop) (s:St),KQ X ro c Q s->CL X ro c Q s:=by
 intro c
 induction c with
 |skip=>exact fun Q s h Γ a w hG hr=>wpIn_skip ⟨s,h,hr⟩
 |region id ops TF =>
  intro Q s h Γ a w hG hr;cases TF with
  |false =>
   simp only[KQ]at h;refine wpIn_region ?_;have:=Lv (X:=X) (Γ:=Γ) (ro:=ro) (n:=1) (ops:=ops) (K:=Q .normal) (Q:=QQ Γ Q) hG.1 (fun s a w h1 h2=>⟨s,h1,h2⟩) ops.toList 0 sm s a w hr h;rw[Array.length_toList]at this;rw[List.range_eq_range'];exact this
  |true =>
   exact h Γ a w hG hr
 |seq x y iF iG =>
  intro Q s h Γ a w hG hr;simp only[KQ]at h;refine wpIn_seq (wpIn_mono (iF _ s h Γ a w hG hr) fun e a w hq=>?_);cases e with
  |normal=>obtain⟨s',h1,h2⟩:=hq;exact iG Q s' h1 Γ a w hG h2
  |exit id=>exact hq
  |ret=>exact hq
  |goto l=>exact hq.elim
  |panic c=>exact hq.elim
  |outgrown=>exact hq.elim
 |cond c x y iF iG =>
  intro Q s h Γ a w hG hr;simp only[KQ,O0]at h;have UW:=hr;obtain⟨ms,CZ,β,Im,hx⟩:=UW;have hc:=A2 hx.fit c;split at h
  ·rename_i t hg;rw[hg]at hc;cases hv:a.eval c<;>rw[hv]at hc<;>cases hc;exact wpIn_cond_split hv (fun ht=>iF Q s (h.1 ht) Γ a w hG hr) (fun ht=>iG Q s (h.2 ht) Γ a w hG hr)
  ·exact h.elim
 |block id c ih =>
  intro Q s h Γ a w hG hr;simp only[KQ]at h;refine wpIn_block (wpIn_mono (ih _ s h Γ a w hG hr) fun e a w hq=>?_);cases e with
  |normal=>exact hq
  |exit WV =>
   obtain⟨s',h1,h2⟩:=hq;simp only[Nq]at h1;simp only[Exit.inBlock];split at h1
   ·rename_i he;rw[AB he];exact⟨s',h1,h2⟩
   ·rename_i he;rw[AA he];exact⟨s',h1,h2⟩
  |ret=>exact hq
  |goto l=>exact hq.elim
  |panic c=>exact hq.elim
  |outgrown=>exact hq.elim
 |loop c _=>exact fun Q s h=>h
 |exit id=>exact fun Q s h Γ a w hG hr=>wpIn_exit ⟨s,h,hr⟩
 |ret=>exact fun Q s h Γ a w hG hr=>wpIn_ret ⟨s,h,hr⟩
 |label l=>exact fun Q s h Γ a w hG hr=>wpIn_label ⟨s,h,hr⟩
 |rangeFunc f ps asg c _ _=>exact fun Q s h=>h
 |scope c ih =>
  intro Q s h Γ a w hG hr;simp only[KQ]at h;intro b k cs VU hb EM;obtain⟨e,LQ,LR,hq,IT⟩:=ih Q s h Γ a w hG hr b (.inScope c::k) cs VU hb EM;cases e with
  |normal=>exact⟨.normal,LQ,LR,hq,.of_steps (.one (fenced_calm hb EM rfl) Js) (StepsIn.trans IT (.one (fenced_calm hb EM rfl) S3))⟩
  |exit id =>
   have hx:∀id (k:List Item),exitTo id (Item.inScope c::k)=exitTo id k:=fun id k=>by simp[exitTo]
   exact⟨.exit id,LQ,LR,hq,.of_steps (.one (fenced_calm hb EM rfl) Js) ⟨fun k' hk=>IT.1 k' (by rw[hx];exact hk),fun hr hk=>IT.2 hr (by rw[hx];exact hk)⟩⟩
  |ret=>exact⟨.ret,LQ,LR,hq,.of_steps (.one (fenced_calm hb EM rfl) Js) IT⟩
  |goto l=>exact hq.elim
  |panic ch=>exact hq.elim
  |outgrown=>exact hq.elim
 |goto l=>exact fun Q s h=>h
 |refuse why=>exact fun Q s h=>h
def iH:Op->Bool|.alloc _|.box ..|.store ..|.makeSlice ..|.mapUpdate ..|.mapEntry ..|.entryStore ..|.makeMap ..|.insert ..|.next ..|.range ..=>false|.call { callee:=.builtin .append,.. }=>false|.call { callee:=.builtin .delete,.. }=>false|_=>true
def wG:List Oper->Bool
 |[]=>true
 |o::l=>match iH o.op with
  |true=>wG l
  |false=>false
def Ah{id:Nat}{Q:Ex->St->Prop}{s:St}(hm:X.P.follows .mixedOrders=true)(_:wG ops.toList=true)(hB:Region.lexB .any ops=true)(h:Jf X (ops.toList.map (·.dst)) ops.toList (Q .normal) s):CL X ro (.region id ops true) Q s:=
 fun Γ a w hG hr=>Xt hG.1 hm hB (K:=Q .normal) (Q:=QQ Γ Q) (fun s _ _ h1 h2=>⟨s,h1,h2⟩) hr h
inductive Ord where
 |leaf
 |nil
 |bad
 |node (i:Nat) (sub next:Ord)
def P6(ops:Array Oper):Nat->Array Bool->Ord
 |0,BN=>match Region.ready .any ops BN with
  |[]=>.leaf
  |_=>.bad
 |f+1,BN=>match Region.ready .any ops BN with
  |[]=>.leaf
  |is=>is.foldr (fun i az=>.node i (P6 ops f (BN.setIfInBounds i true)) az) .nil
def OZ(X:Cx)(ds:List (Option Tmp))(ops:List Oper)(i:Nat)(C:St->Prop)(s:St):Prop:=match ops[i]? with|some o=>F4 ds o.guard (Fh X o C) (F9 o.dst C) s|none=>False
def pn(X:Cx)(ds:List (Option Tmp))(ops:List Oper)(K:St->Prop):Ord->St->Prop|.leaf,s=>K s|.nil,_=>True|.bad,_=>False|.node i sub next,s=>OZ X ds ops i (pn X ds ops K sub) s/\pn X ds ops K next s
def Uc{C:St->Prop}{s:St}(hG:Γ.G=X.G)(hr:RR Γ s a w)(h:OZ X (ops.toList.map (·.dst)) ops.toList i C s) :
  wpOpIn (F0 ro) n X.P ops Q i (fun a' w'=>∃s',C s'/\RR Γ s' a' w') a w:=by
 unfold OZ at h;rw[cZ]at h;unfold wpOpIn;split at h
 ·rename_i o ho;simp only[ho];obtain⟨s',h',hc⟩:=Gb hr h;rcases hc with⟨hA,hw⟩|⟨hB,hw⟩
  ·rw[AB (hw o rfl)];exact T5 hG h' hA
  ·rw[AA (by rw[hw o rfl];simp)];obtain⟨ms,CZ,β,Im,hx⟩:=h';exact⟨fun _ _=>trivial,_,hB,ms,Bf CZ,β,Im,hx.put o.dst H0⟩
 ·exact h.elim
def St.Le(s s':St):Prop:=∀Γ a w,RR Γ s a w->RR Γ s' a w
def St.Le.refl(s:St):s.Le s:=fun _ _ _ h=>h
def St.Le.trans{s s' s'':St}(h:s.Le s')(k:s'.Le s''):s.Le s'':=fun Γ a w hr=>k Γ a w (h Γ a w hr)
def HD{Q:Ex->St->Prop}{s s':St}(DO:s.Le s')(h:CL X ro c Q s'):CL X ro c Q s:=fun Γ a w hG hr=>h Γ a w hG (DO Γ a w hr)
def fQ{ι:Type}(I:ι->St)(SC:ι->Prop)(μ:ι->Nat)(x:ι)(Q:Ex->St->Prop):Ex->St->Prop|.normal,s=>∃y,SC y/\μ y<μ x/\s.Le (I y)|.exit id,s=>Q (.exit id) s|.ret,s=>Q .ret s
def CL.loop{ι:Type}(I:ι->St)(SC:ι->Prop)(μ:ι->Nat)(x0:ι){c:Code}{Q:Ex->St->Prop}{s:St}(hs:s.Le (I x0))(h0:SC x0)(round:∀x,SC x->CL X ro c (fQ I SC μ x Q) (I x)) :
  CL X ro (.loop c) Q s:=by
 intro Γ a w hG hr;have key:∀n x,μ x=n->SC x->∀a w,RR Γ (I x) a w->∀(b:Frame) (k:List Item) (cs:List Frame),b.roundOf=(F0 ro).round->(F0 ro).fn b.fn->(F0 ro).room (cs.length+1+1) ->
   ∃e a' w',QQ Γ Q e a' w'/\ArrivesIn (Machine.fenced X.P (F0 ro)) X.P (lone (b.atR a (.code c::.inLoop c::k)) cs w) b k cs e a' w':=by
  intro n
  induction n using Nat.strongRecOn with
  |_ n ih =>
   intro x hn hP a w hr b k cs VU hb EM;obtain⟨e,LQ,LR,hq,IT⟩:=round x hP Γ a w hG hr b (.inLoop c::k) cs VU hb EM;cases e with
   |normal =>
    obtain⟨s',⟨y,hy,BZ,DO⟩,h2⟩:=hq;obtain⟨bD,bE,bF,UZ,NJ⟩:=ih (μ y) (hn▸BZ) y rfl hy LQ LR (DO Γ LQ LR h2) b k cs VU hb EM;exact⟨bD,bE,bF,UZ,.of_steps (StepsIn.trans IT (.one (fenced_calm hb EM rfl) stepR_inLoop)) NJ⟩
   |exit id =>
    obtain⟨s',h1,h2⟩:=hq;exact⟨.exit id,LQ,LR,⟨s',h1,h2⟩,.pass (x:=.inLoop c) rfl (fun _ _=>.inl sm) IT⟩
   |ret =>
    obtain⟨s',h1,h2⟩:=hq;exact⟨.ret,LQ,LR,⟨s',h1,h2⟩,.pass (x:=.inLoop c) rfl (fun _ _=>.inl sm) IT⟩
   |goto l=>exact hq.elim
   |panic ch=>exact hq.elim
   |outgrown=>exact hq.elim
 intro b k cs VU hb EM;obtain⟨e,a',w',hq,IT⟩:=key _ x0 rfl h0 a w (hs Γ a w hr) b k cs VU hb EM;exact⟨e,a',w',hq,.of_steps (.one (fenced_calm hb EM rfl) stepR_loop) IT⟩
def P4{p:PV}(h:l.pure?=some p):l=.p p:=by
 cases l<;>simp[L.pure?]at h;rw[h]
end
variable (s:St){B:(Ex->St->Prop)->St->Prop}
def WW(l l':L):Prop:=l'=.junk\/l=l'\/(l=.p .snil/\l'=.p (.sl []))
def Aw:List L->List L->Prop|[],[]=>True|l::r,l'::r'=>WW l l'/\Aw r r'|_,_=>False
def wH:List (List L)->List (List L)->Prop|[],[]=>True|e::r,e'::r'=>Aw e e'/\wH r r'|_,_=>False
def A3:DG->DG->Prop
 |.var T cs,.var T' XY=>T=T'/\Aw cs XY
 |.row T sz es,.row T' EE CN=>T=T'/\sz=EE/\es=CN
 |.row T sz es,.lrow T' EE f CN=>T=T'/\sz=EE/\f=false/\CN=es.map fun e=>e.map L.p
 |.lrow T sz f es,.lrow T' EE f' CN=>T=T'/\sz=EE/\(f'=true->f=true)/\wH es CN
 |.lrow T sz _ es,.row T' EE CN=>T=T'/\sz=EE/\Cb es=some CN
 |.obj o,.obj o'=>o=o'
 |_,_=>False
def Az(rs:BX):BX->Prop
 |[]=>True
 |(d,r')::BR=>(match Am d rs with|some r=>A3 r r'|none=>False)/\Az rs BR
def Ay:BX->Prop|[]=>True|(d,_)::BR=>d∉BR.map (·.1)/\Ay BR
def Af(l:L):WW l .junk:=.inl rfl
def Ai(l:L):WW l l:=.inr (.inl rfl)
def Au(x y:PV):WW (.p x) (.p y)↔(x=y\/(x=.snil/\y=.sl [])):=by
 simp[WW]
def WW.rep{l':L}(h:WW l l')(hr:CE β w Im v l):CE β w Im v l':=by
 rcases h with rfl|rfl|⟨rfl,rfl⟩
 ·trivial
 ·exact hr
 ·cases hr;exact BW.slNil
def Fp:∀{a b:List L},Aw a b->a.length=b.length/\∀(i:Nat) (l':L),b[i]?=some l'->∃l,a[i]?=some l/\WW l l'
 |[],[],_=>⟨rfl,fun i l' h=>by simp at h⟩
 |x::a,y::b,h=>by
  obtain⟨h1,h2⟩:=h;obtain⟨h3,h4⟩:=Fp h2;refine⟨by simp[h3],fun i l' hl=>?_⟩;cases i with
  |zero=>simp at hl;subst hl;exact⟨x,rfl,h1⟩
  |succ i=>simp at hl;simpa using h4 i l' hl
 |[],_::_,h=>h.elim
 |_::_,[],h=>h.elim
def WW.cell{l':L}(h:WW l l')(hc:l.cellOK=true\/l=.junk):l'.cellOK=true\/l'=.junk:=by
 rcases h with rfl|rfl|⟨rfl,rfl⟩
 ·exact .inr rfl
 ·exact hc
 ·exact .inl rfl
def O1:∀{a b:List (List L)},wH a b->a.length=b.length/\∀(i:Nat) (e':List L),b[i]?=some e'->∃e,a[i]?=some e/\Aw e e'
 |[],[],_=>⟨rfl,fun i l' h=>by simp at h⟩
 |x::a,y::b,h=>by
  obtain⟨h1,h2⟩:=h;obtain⟨h3,h4⟩:=O1 h2;refine⟨by simp[h3],fun i l' hl=>?_⟩;cases i with
  |zero=>simp at hl;subst hl;exact⟨x,rfl,h1⟩
  |succ i=>simp at hl;simpa using h4 i l' hl
 |[],_::_,h=>h.elim
 |_::_,[],h=>h.elim
def A3.rep{β:ET}{w:World}{Im:Nat->Prop}{d:Nat}{r r':DG}(h:A3 r r')(hr:Ci β w Im d r):Ci β w Im d r':=by
 cases r<;>cases r'<;>simp only[A3]at h
 ·obtain⟨rfl,h⟩:=h;obtain⟨h1,h2⟩:=Fp h;obtain⟨loc,cur,g1,g2,g3,g4,g5,g6⟩:=hr;refine⟨loc,cur,g1,by rw[<-h1];exact g2,g3,g4,by rw[<-h1];exact g5,fun j v l hv hl=>?_⟩;obtain⟨l0,QR,DO⟩:=h2 j l hl;exact⟨DO.rep (g6 j v l0 hv QR).1,DO.cell (g6 j v l0 hv QR).2⟩
 ·obtain⟨rfl,rfl,rfl⟩:=h;exact hr
 ·obtain⟨rfl,rfl,rfl,rfl⟩:=h;rcases hr with⟨g1,g2⟩|⟨loc,cur,g1,g2,g3,g4,g5,g6,g7,g8⟩
  ·exact .inl ⟨g1,by simp[g2]⟩
  ·refine .inr ⟨loc,cur,g1,g2,g3,g4,by simpa using g5,fun h=>(by cases h),g6,fun e he=>?_,fun i e j l hi hj=>?_⟩
   ·obtain⟨x,hx,rfl⟩:=FB.1 he;simpa using(g7 x hx).1
   ·rw[Eam]at hi;obtain⟨x,hx,rfl⟩:=HF.1 hi;rw[Eam]at hj;obtain⟨p,hp,rfl⟩:=HF.1 hj;obtain⟨v,hv,gW⟩:=g8 i x j p hx hp;exact⟨v,hv,gW,.inl ((g7 x (D4 hx)).2 p (D4 hp))⟩
 ·obtain⟨rfl,rfl,h⟩:=h;obtain⟨h1,h2⟩:=Dh h;rcases hr with⟨g1,g2⟩|⟨loc,cur,g1,g2,g3,g4,g5,g6,g7,g8,g9⟩
  ·subst g2;exact .inl ⟨g1,KH (by simpa using h1.symm)⟩
  ·have key:∀(i:Nat) (q:List PV) (j:Nat) (p:PV),‹List (List PV)›[i]?=some q->q[j]?=some p->∃e,‹List (List L)›[i]?=some e/\e[j]?=some (.p p)/\e.length=q.length:=by
    intro i q j p hi hj;obtain⟨e,he,ha⟩:=h2 i q hi;obtain⟨k1,k2⟩:=Bh ha;obtain⟨l,hl⟩:=BQ k1 hj;have:=P4 (k2 j l p hl hj);subst this;exact⟨e,he,hl,k1⟩
   refine .inr ⟨loc,cur,g1,g2,g3,g4,by rw[<-h1];exact g5,g7,fun q hq=>?_,fun i q j p hi hj=>?_⟩
   ·obtain⟨i,hi,rfl⟩:=PN hq;obtain⟨e,he,ha⟩:=h2 i _ (C' hi);obtain⟨k1,k2⟩:=Bh ha;refine⟨by rw[<-k1];exact g8 e (D4 he),fun p hp=>?_⟩;obtain⟨j,hj,rfl⟩:=PN hp;obtain⟨e',FO,DB,_⟩:=key i _ j _ (C' hi) (C' hj);obtain⟨v,_,_,hc⟩:=g9 i e' j _ FO DB;rcases hc with hc|hc
    ·exact hc
    ·cases hc
   ·obtain⟨e',FO,DB,_⟩:=key i q j p hi hj;obtain⟨v,hv,hp,_⟩:=g9 i e' j _ FO DB;exact⟨v,hv,hp⟩
 ·obtain⟨rfl,rfl,hf,h⟩:=h;obtain⟨h1,h2⟩:=O1 h;rcases hr with⟨g1,g2⟩|⟨loc,cur,g1,g2,g3,g4,g5,g6,g7,g8,g9⟩
  ·subst g2;exact .inl ⟨g1,KH (by simpa using h1.symm)⟩
  ·refine .inr ⟨loc,cur,g1,g2,g3,g4,by rw[<-h1];exact g5,fun h=>by rw[<-h1];exact g6 (hf h),g7,fun q hq=>?_,fun i q j l hi hj=>?_⟩
   ·obtain⟨i,hi,rfl⟩:=PN hq;obtain⟨e,he,DO⟩:=h2 i _ (C' hi);rw[<-(Fp DO).1];exact g8 e (D4 he)
   ·obtain⟨e,he,DO⟩:=h2 i q hi;obtain⟨l0,QR,hl⟩:=(Fp DO).2 j l hj;obtain⟨v,hv,hr,hc⟩:=g9 i e j l0 he QR;exact⟨v,hv,hl.rep hr,hl.cell hc⟩
 ·subst h;exact hr
def D3{rs:BX}:∀{DU:BX},Az rs DU->∀d r',(d,r')∈DU->∃r,(d,r)∈rs/\A3 r r'
 |[],_,d,r',h=>by cases h
 |(e,q)::BR,h,d,r',hm=>by
  obtain⟨h1,h2⟩:=h;rcases DN.1 hm with hm|hm
  ·cases hm;split at h1
   ·rename_i r hr;exact⟨r,Ax hr,h1⟩
   ·exact h1.elim
  ·exact D3 h2 d r' hm
def Md:∀{rs:BX},Ay rs->(rs.map (·.1)).Nodup
 |[],_=>.nil
 |(d,r)::BR,h=>by simp only[Fc,UO];exact⟨h.1,Md h.2⟩
def Kcu{s s':St}(ht:Aw s.tmps s'.tmps)(hr:Az s.regs s'.regs)(hk:Ay s'.regs):s.Le s':=by
 rintro Γ a w ⟨ms,CZ,β,Im,hx⟩;obtain⟨h1,h2⟩:=Fp ht;refine⟨ms,CZ,β,Im,{ hx with fit:={ size:=by rw[<-h1];exact hx.fit.size,tmps:=fun i l hl=>?_,regs:=fun d r hd=>?_,nodup:=Md hk,live:=fun d r loc hd hl=>?_,apart:=fun d r d' r' l1 l2 hd PT DA hl DB=>?_,im:=hx.fit.im },regnew:=fun d r loc hd hl=>?_,marks:=fun D hD=>?_ }⟩
 ·obtain⟨l0,QR,DO⟩:=h2 i l hl;exact DO.rep (hx.fit.tmps i l0 QR)
 ·obtain⟨r0,h3,h4⟩:=D3 hr d r hd;exact h4.rep (hx.fit.regs d r0 h3)
 ·obtain⟨r0,h3,h4⟩:=D3 hr d r hd;exact hx.fit.live d r0 loc h3 hl
 ·obtain⟨r0,h3,_⟩:=D3 hr d r hd;obtain⟨r1,h4,_⟩:=D3 hr d' r' PT;exact hx.fit.apart d r0 d' r1 l1 l2 h3 h4 DA hl DB
 ·obtain⟨r0,h3,h4⟩:=D3 hr d r hd;exact hx.regnew d r0 loc h3 hl
 ·obtain⟨m1,m2,m3,m4⟩:=hx.marks D hD;refine⟨m1,m2,m3,fun d r loc hd hl=>?_⟩;obtain⟨r0,h3,_⟩:=D3 hr d r hd;exact m4 d r0 loc h3 hl
def Fb(d d' e:Nat):Option Nat:=if e=d then some d' else if e=d' then none else some e
def Eu(d d':Nat):BX->BX
 |[]=>[]
 |(e,r)::BR=>match Fb d d' e with
  |some n=>(n,r.map (Fb d d'))::Eu d d' BR
  |none=>Eu d d' BR
def St.ren(d d':Nat)(s:St):St:=⟨s.tmps.map (L.map (Fb d d')),Eu d d' s.regs⟩
def C2{d d' n:Nat}{q:DG}:∀{rs:BX},(n,q)∈Eu d d' rs->∃e r,(e,r)∈rs/\Fb d d' e=some n/\q=r.map (Fb d d')
 |[],h=>by cases h
 |(e,r)::BR,h=>by
  simp only[Eu]at h;split at h
  ·rename_i m hm;rcases DN.1 h with h|h
   ·cases h;exact⟨e,r,DQ,hm,rfl⟩
   ·obtain⟨e',r',h1,h2,h3⟩:=C2 h;exact⟨e',r',EW _ h1,h2,h3⟩
  ·obtain⟨e',r',h1,h2,h3⟩:=C2 h;exact⟨e',r',EW _ h1,h2,h3⟩
def Jfd{d d' e e':Nat}(h:Fb d d' e=some n)(h':Fb d d' e'=some n):e=e':=by
 unfold Fb at h h';split at h<;>split at h'
 ·omega
 ·split at h'<;>simp_all
 ·split at h<;>simp_all
 ·split at h<;>split at h'<;>simp_all
def Hj{d d':Nat}:∀{rs:BX},(rs.map (·.1)).Nodup->((Eu d d' rs).map (·.1)).Nodup
 |[],_=>.nil
 |(e,r)::BR,h=>by
  simp only[Fc,UO]at h;simp only[Eu];split
  ·rename_i n hn;simp only[Fc,UO];refine⟨fun hm=>?_,Hj h.2⟩;obtain⟨⟨n',q⟩,hq,he⟩:=FB.1 hm;simp only at he;subst he;obtain⟨e',r',h1,h2,_⟩:=C2 hq;exact h.1 (FB.2 ⟨(e',r'),h1,Jfd h2 hn⟩)
  ·exact Hj h.2
def J92{d d':Nat}(PT:d'<1000\/500000<=d'):s.Le (s.ren d d'):=by
 rintro Γ a w ⟨ms,CZ,β,Im,hx⟩;have hf:∀e n,Fb d d' e=some n->MB β d' (β d) n=β e:=by
  intro e n h;unfold Fb at h;split at h
  ·rename_i he;subst he;cases h;exact B4
  ·split at h
   ·cases h
   ·rename_i h1 h2;cases h;exact Oa h2
 refine⟨ms,CZ,MB β d' (β d),Im,{ hx with fit:={ size:=by simpa[St.ren]using hx.fit.size,tmps:=fun i l hl=>?_,regs:=fun n q hm=>?_,nodup:=Hj hx.fit.nodup,live:=fun n q loc hm hl=>?_,apart:=fun n q n' q' l1 l2 hm II DA hl DB=>?_,im:=hx.fit.im },regnew:=fun n q loc hm hl=>?_,fixed:=fun e he FO=>by rw[Oa omg];exact hx.fixed e he FO,marks:=fun D hD=>?_ }⟩
 ·simp only[St.ren,Eam]at hl;obtain⟨l1,GH,rfl⟩:=HF.1 hl;exact(hx.fit.tmps i l1 GH).map hf
 ·obtain⟨e,r,h1,h2,rfl⟩:=C2 hm;exact(hx.fit.regs e r h1).map hf (hf e n h2)
 ·obtain⟨e,r,h1,h2,rfl⟩:=C2 hm;rw[hf e n h2]at hl;exact hx.fit.live e r loc h1 hl
 ·obtain⟨e,r,h1,h2,rfl⟩:=C2 hm;obtain⟨e',r',k1,k2,rfl⟩:=C2 II;rw[hf e n h2]at hl;rw[hf e' n' k2]at DB;exact hx.fit.apart e r e' r' l1 l2 h1 k1 (fun hc=>DA (by subst hc;rw[h2]at k2;exact L' k2)) hl DB
 ·obtain⟨e,r,h1,h2,rfl⟩:=C2 hm;rw[hf e n h2]at hl;exact hx.regnew e r loc h1 hl
 ·obtain⟨m1,m2,m3,m4⟩:=hx.marks D hD;refine⟨m1,m2,m3,fun n q loc hm hl=>?_⟩;obtain⟨e,r,h1,h2,rfl⟩:=C2 hm;rw[hf e n h2]at hl;exact m4 e r loc h1 hl
def St.nilReg(d:Nat)(T:TypeId)(sz:Nat)(s:St):St:=⟨s.tmps.map (L.forget d),(d,.row T sz [])::Cv d s.regs⟩
def DW.nilReg{Γ:FH}{β:ET}{Im:Nat->Prop}{s:St}{tmps:Array Value}{w:World}(h:DW Γ β Im s tmps w){d:Nat}(hd:d<1000\/500000<=d)(T:TypeId)(sz:Nat):DW Γ (MB β d none) Im (s.nilReg d T sz) tmps w:=by
 have CM:∀e,e≠d->MB β d none e=β e:=fun e he=>Oa he
 have h2:=h.fit.forget (d:=d) CM;refine{ h with fit:={ h2 with regs:=fun e q hq=>?_,nodup:=?_,live:=fun e q loc hq hl=>?_,apart:=fun e q e' q' loc CO hq FJ DA hl DB=>?_ },regnew:=fun e q loc hq hl=>?_,fixed:=fun e he FO=>by rw[CM e omg];exact h.fixed e he FO,marks:=fun D hD=>?_ }
 ·rcases DN.1 hq with hq|hq
  ·cases hq;exact .inl ⟨B4,rfl⟩
  ·exact h2.regs e q hq
 ·simp only[St.nilReg,Fc,UO];refine⟨fun hm=>?_,h2.nodup⟩;obtain⟨⟨e,q⟩,hq,he⟩:=FB.1 hm;exact(Bn hq).1 he
 ·rcases DN.1 hq with hq|hq
  ·cases hq;rw[B4]at hl;cases hl
  ·exact h2.live e q loc hq hl
 ·rcases DN.1 hq with hq|hq
  ·cases hq;rw[B4]at hl;cases hl
  ·rcases DN.1 FJ with FJ|FJ
   ·cases FJ;rw[B4]at DB;cases DB
   ·exact h2.apart e q e' q' loc CO hq FJ DA hl DB
 ·rcases DN.1 hq with hq|hq
  ·cases hq;rw[B4]at hl;cases hl
  ·obtain⟨h3,q',h4,rfl⟩:=Bn hq;rw[CM e h3]at hl;exact h.regnew e q' loc h4 hl
 ·obtain⟨m1,m2,m3,m4⟩:=h.marks D hD;refine⟨m1,m2,m3,fun e q loc hq hl=>?_⟩;rcases DN.1 hq with hq|hq
  ·cases hq;rw[B4]at hl;cases hl
  ·obtain⟨h3,q',h4,rfl⟩:=Bn hq;rw[CM e h3]at hl;exact m4 e q' loc h4 hl
def St.nilOwn(i d:Nat)(T:TypeId)(sz:Nat)(s:St):St:=(s.nilReg d T sz).put (some i) (.own d 0 0)
def dI{d:Nat}(T:TypeId)(sz:Nat)(hd:d<1000\/500000<=d)(hi:s.tmps[i]?=some (.p .snil)):s.Le (s.nilOwn i d T sz):=by
 rintro Γ a w ⟨ms,CZ,β,Im,hx⟩;have h1:=hx.nilReg hd T sz;have CT:=hx.fit.tmps i _ hi;have BZ:=(DX.1 hi).1;have hv:a.tmps.getD i undef=.slice none 0 0:=by generalize a.tmps.getD i undef=v at CT;cases CT;rfl
 have h2:DW (Γ.wm ms) (MB β d none) Im (s.nilOwn i d T sz) (a.put (some i) (.slice none 0 0)).tmps w:=h1.put (some i) (l:=.own d 0 0) (.inr ⟨B4,rfl,rfl,rfl⟩);have e:(a.put (some i) (.slice none 0 0)).tmps=a.tmps:=by
  simp only[Act.put];have DI:i<a.tmps.size:=by rw[hx.fit.size];exact BZ
  have:a.tmps[i]=.slice none 0 0:=by rw[<-hv];simp[OQ,DI]
  rw[<-SP];simp only[Array.toList_setIfInBounds];rw[<-this];exact List.set_getElem_self (by simpa using DI)
 rw[e]at h2;exact⟨ms,CZ,_,_,h2⟩
def Ms(l:L):DG->DG|.var T cs=>.var T (cs.set j l)|r=>r
def St.nilCell(b j d:Nat)(T:TypeId)(sz:Nat)(s:St):St:=match Am b (s.nilReg d T sz).regs with|some r=>{ (s.nilReg d T sz)with regs:=Bs b (Ms j (.own d 0 0) r) (s.nilReg d T sz).regs }|none=>s.nilReg d T sz
def ZE{b j d:Nat}(T:TypeId)(sz:Nat)(hd:d<1000\/500000<=d){T':TypeId}{cs:List L}(hb:Am b (s.nilReg d T sz).regs=some (.var T' cs))(hj:cs[j]?=some (.p .snil)):s.Le (s.nilCell b j d T sz):=by
 rintro Γ a w ⟨ms,CZ,β,Im,hx⟩;have h1:=hx.nilReg hd T sz;have CR:=Ax hb;obtain⟨loc,cur,g1,g2,g3,g4,g5,g6⟩:=h1.fit.regs b _ CR;have JE:Ci (MB β d none) w Im b (.var T' (cs.set j (.own d 0 0))):=by
  refine⟨loc,cur,g1,by simpa using g2,g3,g4,by simpa using g5,fun k v l hv hl=>?_⟩;rw[SO]at hl;split at hl
  ·rename_i hk;subst hk;split at hl
   ·cases hl;obtain⟨h3,_⟩:=g6 j v _ hv hj;refine⟨?_,.inl rfl⟩;have zn:BW w Im v .snil:=h3;cases zn;exact .inr ⟨B4,rfl,rfl,rfl⟩
   ·cases hl
  ·exact g6 k v l hv hl
 refine⟨ms,CZ,MB β d none,Im,?_⟩;have:=h1.store CR g1 (w':=w) rfl rfl rfl rfl (fun _ _=>rfl) JE;simp only[St.nilCell,hb,Ms];exact this
def wI{d:Nat}:s.Le (s.freeze d):=by
 rintro Γ a w ⟨ms,CZ,β,Im,hx⟩;obtain⟨CX,h⟩:=hx.freeze d;exact⟨ms,CZ,β,CX,h⟩
def po(a b:TypeId)(x:Operand)(dst:Option Tmp)(K:St->Prop)(s:St):Prop:=if fP P a=true then pc P b (s.get x) (DL dst K s)else J1 P a b (s.get x) (DL dst K s)
def ni(a b:TypeId)(s:St)(x:Operand)(dst:Option Tmp)(K:St->Prop)(l:L):Prop:=match l with|.ptr d 0 j=>L6 P a b d j (Am d s.regs) (DL dst K s)|.p (.str u)=>Og P a b u s dst K|_=>po P a b x dst K (s.freezeOps [x])
def iI(l:L)(K:L->Prop):Prop:=match l with|.ptr d i j=>K (.ptr d i j)|.eptr cs=>K (.eptr cs)|.fn f ds=>K (.fn f ds)|_=>False
def Qk(l:L)(i:Nat)(K:L->Prop):Prop:=match l with|.tup xs=>∃c,xs[i]?=some c/\K (.p c)|_=>False
def wJ(l a b:L)(K:L->Prop):Prop:=match l with|.p (.bool t)=>(t=true->K a)/\(t=false->K b)|_=>False
def Bi(f:FuncId)(args:List L)(K:L->Prop):Prop:=∃l,(Al X f args [] (fun m _=>m=l)/\l.retOK=true)/\K l
def RC(r:BX)(s:St)(op:Op)(K:L->Prop):Prop:=∃l,XS P r s.get op l/\K l
section
variable {X:Cx} {ro:Option Nat} {Q:Ex->St->Prop} {K:St->Prop} {t:List L} {r:BX} {ds:List (Option Tmp)} {BR:List Oper} {ty:TypeId} {ps:String} {af:Array Edge} {dst:Option Tmp}
def Jp7:KQ X ro (.scope c) Q ⟨t,r⟩=KQ X ro c Q ⟨t,r⟩:=(rfl)
def iJ:KQ X ro .skip Q ⟨t,r⟩=Q .normal ⟨t,r⟩:=(rfl)
def Jid{id:Nat}:KQ X ro (.region id ops false) Q ⟨t,r⟩=LP X (ops.toList.map (·.dst)) ops.toList (Q .normal) ⟨t,r⟩:=(rfl)
def pq{a b:Code}:KQ X ro (a.seq b) Q ⟨t,r⟩=KQ X ro a (ZD (KQ X ro b) Q) ⟨t,r⟩:=(rfl)
def iK{c:Operand}{a b:Code}:KQ X ro (.cond c a b) Q ⟨t,r⟩=O0 ((St.mk t r).get c) (KQ X ro a Q) (KQ X ro b Q) ⟨t,r⟩:=(rfl)
def Jpi{id:Nat}:KQ X ro (.block id c) Q ⟨t,r⟩=KQ X ro c (Nq id Q) ⟨t,r⟩:=(rfl)
def iL:KQ X ro (.loop c) Q ⟨t,r⟩=CL X ro (.loop c) Q ⟨t,r⟩:=(rfl)
def iM{id:Nat}:KQ X ro (.exit id) Q ⟨t,r⟩=Q (.exit id) ⟨t,r⟩:=(rfl)
def pr:KQ X ro .ret Q ⟨t,r⟩=Q .ret ⟨t,r⟩:=(rfl)
def Jng{l:Nat}:KQ X ro (.label l) Q ⟨t,r⟩=Q .normal ⟨t,r⟩:=(rfl)
def Wj:ZD B Q .normal ⟨t,r⟩=B Q ⟨t,r⟩:=(rfl)
def Jaq{id:Nat}:ZD B Q (.exit id) ⟨t,r⟩=Q (.exit id) ⟨t,r⟩:=(rfl)
def Jf3:ZD B Q .ret ⟨t,r⟩=Q .ret ⟨t,r⟩:=(rfl)
def Qz{id:Nat}:Nq id Q .normal ⟨t,r⟩=Q .normal ⟨t,r⟩:=(rfl)
def Vo{id WV:Nat}:Nq id Q (.exit WV) ⟨t,r⟩=if WV=id then Q .normal ⟨t,r⟩else Q (.exit WV) ⟨t,r⟩:=(rfl)
def Z2{id:Nat}:Nq id Q .ret ⟨t,r⟩=Q .ret ⟨t,r⟩:=(rfl)
def pw:LP X ds [] K ⟨t,r⟩=K ⟨t,r⟩:=(rfl)
def iN:LP X ds (⟨dst,op,ty,ps,af,none⟩::BR) K ⟨t,r⟩=Fh X ⟨dst,op,ty,ps,af,none⟩ (LP X ds BR K) ⟨t,r⟩:=(rfl)
def Jpg{g:Nat×Bool}:LP X ds (⟨dst,op,ty,ps,af,some g⟩::BR) K ⟨t,r⟩=F4 ds (some g) (Fh X ⟨dst,op,ty,ps,af,some g⟩ (LP X ds BR K)) (F9 dst (LP X ds BR K)) ⟨t,r⟩:=(rfl)
def py:Jf X ds [] K ⟨t,r⟩=K ⟨t,r⟩:=(rfl)
def iO:Jf X ds (⟨dst,op,ty,ps,af,none⟩::BR) K ⟨t,r⟩=KC X ⟨t,r⟩ ⟨dst,op,ty,ps,af,none⟩ (DL dst (Jf X ds BR K) ⟨t,r⟩):=(rfl)
def Joa{g:Nat×Bool}:Jf X ds (⟨dst,op,ty,ps,af,some g⟩::BR) K ⟨t,r⟩=F4 ds (some g) (kq X ⟨dst,op,ty,ps,af,some g⟩ (Jf X ds BR K)) (F9 dst (Jf X ds BR K)) ⟨t,r⟩:=(rfl)
def zo:kq X o K ⟨t,r⟩=KC X ⟨t,r⟩ o (DL o.dst K ⟨t,r⟩):=(rfl)
def pz:DL (some d) K ⟨t,r⟩ l=K ⟨t.set d l,r⟩:=(rfl)
def iP:F9 (some d) K ⟨t,r⟩=K ⟨t.set d (.tup []),r⟩:=(rfl)
def W2:F9 none K ⟨t,r⟩=K ⟨t,r⟩:=(rfl)
def p7:(St.mk t r).put (some d) l=⟨t.set d l,r⟩:=(rfl)
def iQ:(St.mk t r).tmps=t:=(rfl)
def iR:(St.mk t r).regs=r:=(rfl)
def p8:(St.mk t r).get (.tmp i)=t.getD i .junk:=(rfl)
def Jm9:(St.mk t r).get (.const v)=G6 v:=(rfl)
def iS:(St.mk t r).get (.func f)=.fn f []:=(rfl)
def iT:G6 (.bool b)=.p (.bool b):=(rfl)
def p9{k:IntKind}{n:Int}:G6 (.int k n)=.p (.int k n):=(rfl)
def qA{a:Array UInt8}:G6 (.string ⟨a⟩)=.p (.str a.toList):=(rfl)
def iU:G6 (.slice none 0 0)=.p .snil:=(rfl)
def iV:G6 (.pointer none)=.p .nptr:=(rfl)
def iW:G6 (.map none)=.p .nmap:=(rfl)
def iX:G6 .nilIface=.p .nifc:=(rfl)
def qB:G6 .nilFunc=.p .nfn:=(rfl)
variable {g:Option (Nat×Bool)} {d:Tmp}
def iY:Fh X ⟨dst,.move x,ty,ps,af,g⟩ K ⟨t,r⟩=DL dst K ⟨t,r⟩ ((St.mk t r).get x):=by cases dst<;>exact(rfl)
def Jl2:Fh X ⟨dst,.assign x,ty,ps,af,g⟩ K ⟨t,r⟩=DL dst K ⟨t,r⟩ ((St.mk t r).get x):=by cases dst<;>exact(rfl)
def qC{op:BinOp}{zp:TypeId}{y:Operand}:Fh X ⟨dst,.binOp op tx x y zp,ty,ps,af,g⟩ K ⟨t,r⟩=HX X.P op tx (D8 x||D8 y) ((St.mk t r).get x) ((St.mk t r).get y) (DL dst K ⟨t,r⟩):=by cases dst<;>exact(rfl)
def zq{op:UnOp}:Fh X ⟨dst,.unOp op tx x,ty,ps,af,g⟩ K ⟨t,r⟩=cr op ((St.mk t r).get x) (DL dst K ⟨t,r⟩):=by cases dst<;>exact(rfl)
def iZ{a b:TypeId}:Fh X ⟨dst,.convert a b x,ty,ps,af,g⟩ K ⟨t,r⟩=ni X.P a b ⟨t,r⟩ x dst K ((St.mk t r).get x):=by cases dst<;>exact(rfl)
def ia{c a b:Operand}:Fh X ⟨dst,.pick c a b,ty,ps,af,g⟩ K ⟨t,r⟩=wJ ((St.mk t r).get c) ((St.mk t r).get a) ((St.mk t r).get b) (DL dst K ⟨t,r⟩):=by cases dst<;>exact(rfl)
def qD:Fh X ⟨dst,.nilCheck x,ty,ps,af,g⟩ K ⟨t,r⟩=iI ((St.mk t r).get x) (DL dst K ⟨t,r⟩):=by cases dst<;>exact(rfl)
def ib:Fh X ⟨dst,.load tx x,ty,ps,af,g⟩ K ⟨t,r⟩=Jc X.P r tx ((St.mk t r).get x) (DL dst K ⟨t,r⟩):=by cases dst<;>exact(rfl)
def Jnh{a:Operand}:Fh X ⟨dst,.store tx a x,ty,ps,af,g⟩ K ⟨t,r⟩=Nv X.P tx ⟨t,r⟩ a x (F9 dst K):=by cases dst<;>exact(rfl)
def Xg{f:Nat}:Fh X ⟨dst,.fieldAddr tx x f,ty,ps,af,g⟩ K ⟨t,r⟩=D2 X.P tx ((St.mk t r).get x) f (DL dst K ⟨t,r⟩):=by cases dst<;>exact(rfl)
def Yf{i:Operand}:Fh X ⟨dst,.indexAddr tx x i,ty,ps,af,g⟩ K ⟨t,r⟩=Dg X.P r tx ((St.mk t r).get x) ((St.mk t r).get i) (DL dst K ⟨t,r⟩):=by cases dst<;>exact(rfl)
def Jnn{i:Operand}:Fh X ⟨dst,.index tx x i,ty,ps,af,g⟩ K ⟨t,r⟩=Ix X.P tx ((St.mk t r).get x) ((St.mk t r).get i) (DL dst K ⟨t,r⟩):=by cases dst<;>exact(rfl)
def wL(o:Oper)(tx:TypeId)(x:Operand)(lo hi:Option Operand)(dst:Option Tmp)(K:St->Prop)(s:St)(l:L):Prop:=match l with|.ptr d 0 0=>WT P tx s d lo hi (DL dst K) (Am d s.regs)|_=>G2 P s.regs tx s.get x lo hi none (DL dst K s)
def Jpn{lo hi:Option Operand}:Fh X ⟨dst,.slice tx x lo hi none,ty,ps,af,g⟩ K ⟨t,r⟩=wL X.P ⟨dst,.slice tx x lo hi none,ty,ps,af,g⟩ tx x lo hi dst K ⟨t,r⟩ ((St.mk t r).get x):=by cases dst<;>exact(rfl)
def Jf5:Fh X ⟨dst,.extract x i,ty,ps,af,g⟩ K ⟨t,r⟩=Qk ((St.mk t r).get x) i (DL dst K ⟨t,r⟩):=by cases dst<;>exact(rfl)
def Jm5:Fh X ⟨dst,.build tx pt,ty,ps,af,g⟩ K ⟨t,r⟩=Vf X.P tx (pt.toList.map fun(i,x)=>(i,(St.mk t r).get x)) (DL dst K ⟨t,r⟩):=by cases dst<;>exact(rfl)
def Jb7{LL:Array Operand}:Fh X ⟨dst,.makeFunc (.func f) #[] LL,ty,ps,af,g⟩ K ⟨t,r⟩=aT f (LL.toList.map (St.mk t r).get) (DL dst K ⟨t,r⟩):=by cases dst<;>simp only[Fh,lq,true_and]
def qE:Fh X ⟨dst,.call { callee:=.builtin .len,args:=#[x],argTypes:=#[tx] },ty,ps,af,g⟩ K ⟨t,r⟩=UQ X.P tx ((St.mk t r).get x) (DL dst K ⟨t,r⟩):=by cases dst<;>exact(rfl)
def qF{args:Array Operand}:Fh X ⟨dst,.call { callee:=.builtin .max,args:=args,argTypes:=VV },ty,ps,af,g⟩ K ⟨t,r⟩=Fj true (args.toList.map (St.mk t r).get) (DL dst K ⟨t,r⟩):=by cases dst<;>exact(rfl)
def qG{args:Array Operand}:Fh X ⟨dst,.call { callee:=.builtin .min,args:=args,argTypes:=VV },ty,ps,af,g⟩ K ⟨t,r⟩=Fj false (args.toList.map (St.mk t r).get) (DL dst K ⟨t,r⟩):=by cases dst<;>exact(rfl)
def Jn4:Fh X ⟨some d,.alloc T,ty,ps,af,g⟩ K ⟨t,r⟩=Wg X.P d T ⟨t,r⟩ K:=(rfl)
def qH:Fh X ⟨some d,.box T x,ty,ps,af,g⟩ K ⟨t,r⟩=dB d T ⟨t,r⟩ x K:=(rfl)
def V7:Fh X ⟨some d,.buildSlice tx n pt,ty,ps,af,g⟩ K ⟨t,r⟩=(if X.keep tx=true then n=pt.toList.length/\pW X.P d tx ⟨t,r⟩ pt.toList K else Fo X.P d tx n ⟨t,r⟩ pt.toList K):=(rfl)
def Yp{l c:Operand}:Fh X ⟨some d,.makeSlice tx l c,ty,ps,af,g⟩ K ⟨t,r⟩=Gl X.P d tx ⟨t,r⟩ l c K:=(rfl)
def ic{y:Operand}{t1 t2:TypeId}:Fh X ⟨dst,.call { callee:=.builtin .copy,args:=#[x,y],argTypes:=#[t1,t2] },ty,ps,af,g⟩ K ⟨t,r⟩=Tv X.P t1 t2 ⟨t,r⟩ x y (DL dst K):=(rfl)
def Jms{y:Operand}{t1 t2:TypeId}:Fh X ⟨some d,.call { callee:=.builtin .append,args:=#[x,y],argTypes:=#[t1,t2] },ty,ps,af,g⟩ K ⟨t,r⟩=(if X.keep t1=true then t2=t1/\pX X.P d t1 ⟨t,r⟩ x y K else Kk X.P d t1 t2 ⟨t,r⟩ x y K):=(rfl)
def ie{f:Operand}{args:Array Operand}:Fh X ⟨dst,.call { callee:=.value f,args:=args,argTypes:=VV },ty,ps,af,g⟩ K ⟨t,r⟩=wA X ⟨t,r⟩ f args.toList dst K:=by cases dst<;>exact(rfl)
def Jgq:Fh X ⟨some d,.makeMap tx none,ty,ps,af,g⟩ K ⟨t,r⟩=Mk d ⟨t,r⟩ K:=(rfl)
def Jp6:Fh X ⟨some d,.range tx x,ty,ps,af,g⟩ K ⟨t,r⟩=Wr X.P d tx ⟨t,r⟩ x K:=(rfl)
def ig:Fh X ⟨dst,.next it b,ty,ps,af,g⟩ K ⟨t,r⟩=Wv ⟨t,r⟩ it b (DL dst K):=by cases dst<;>exact(rfl)
def Jn8:Fh X ⟨dst,.entry it,ty,ps,af,g⟩ K ⟨t,r⟩=Ri ⟨t,r⟩ it (DL dst K ⟨t,r⟩):=by cases dst<;>exact(rfl)
def Zf{m k v:Operand}:Fh X ⟨dst,.mapUpdate tx m k v,ty,ps,af,g⟩ K ⟨t,r⟩=Dq X.P tx ⟨t,r⟩ m k v (F9 dst K):=by cases dst<;>exact(rfl)
def Ji2{m k v:Operand}:Fh X ⟨dst,.insert tx m k v,ty,ps,af,g⟩ K ⟨t,r⟩=Dq X.P tx ⟨t,r⟩ m k v (F9 dst K):=by cases dst<;>exact(rfl)
def Jkk{m k:Operand}{t1 t2:TypeId}:Fh X ⟨dst,.call { callee:=.builtin .delete,args:=#[m,k],argTypes:=#[t1,t2] },ty,ps,af,g⟩ K ⟨t,r⟩=Kq X.P t1 ⟨t,r⟩ m k (F9 dst K):=by cases dst<;>exact(rfl)
def wM(o:Option TypeDesc)(d:Nat)(n:Int)(s:St)(N:St->L->Prop)(q:Option DG):Prop:=match q with|some (.row T 1 es)=>o=some (.pointer T)/\P.cellsOf T=1/\∃bs,Cw es=some bs/\n=bs.length/\bs≠[]/\bs.length<=9223372036854775807/\N (s.forget d) (.p (.str bs))|_=>False
def wN(o:Option TypeDesc)(d:Nat)(s:St)(N:St->L->Prop)(ly:L):Prop:=match ly with|.p (.int .i64 n)=>wM P o d n s N (Am d s.regs)|_=>False
def wO(X:Cx)(t1:TypeId)(dst:Option Tmp)(y:Operand)(K:St->Prop)(s:St)(l:L):Prop:=match l with|.p .nptr=>(∃k,s.get y=.p (.int k 0))/\K (s.put dst (.p (.str [])))|.ptr d 0 0=>wN X.P (X.P.underlying t1) d s (DL dst K) (s.get y)|_=>False
def ij{y:Operand}{t1 t2:TypeId}:Fh X ⟨dst,.call { callee:=.builtin .unsafeString,args:=#[x,y],argTypes:=#[t1,t2] },ty,ps,af,g⟩ K ⟨t,r⟩=wO X t1 dst y K ⟨t,r⟩ ((St.mk t r).get x):=by
 have h:Fh X ⟨dst,.call { callee:=.builtin .unsafeString,args:=#[x,y],argTypes:=#[t1,t2] },ty,ps,af,g⟩ K ⟨t,r⟩=wB X ⟨dst,.call { callee:=.builtin .unsafeString,args:=#[x,y],argTypes:=#[t1,t2] },ty,ps,af,g⟩ dst [x,y] [t1,t2] ⟨t,r⟩ K:=by cases dst<;>exact(rfl)
 rw[h];unfold wB wO;simp only;split
 ·rename_i hx;rw[hx];apply propext;constructor
  ·rintro⟨l,⟨_,h1,rfl⟩,hK⟩;exact⟨h1,hK⟩
  ·rintro⟨h1,hK⟩;exact⟨_,⟨hx,h1,rfl⟩,hK⟩
 ·rename_i hx;split
  ·rename_i hy;exact absurd hy hx
  ·rename_i d hy;unfold Gn wN wM;rw[hy];cases hq:(St.mk t r).get y with
   |p v =>
    cases v with
    |int k n=>cases k<;>rfl
    |_=>rfl
   |_=>rfl
  ·rename_i h1 h2;unfold Gn;cases hq:(St.mk t r).get x with
   |ptr d i j =>
    cases i with
    |zero=>cases j with
     |zero=>exact absurd hq (h2 d)
     |succ j=>rfl
    |succ i=>rfl
   |_=>rfl
def Jpz:Fh X ⟨dst,.makeInterface tx x,ty,ps,af,g⟩ K ⟨t,r⟩=RC X.P r ⟨t,r⟩ (.makeInterface tx x) (DL dst K ⟨t,r⟩):=by cases dst<;>exact(rfl)
def Ji3{i:Operand}:Fh X ⟨dst,.lookup tx x i b,ty,ps,af,g⟩ K ⟨t,r⟩=RC X.P r ⟨t,r⟩ (.lookup tx x i b) (DL dst K ⟨t,r⟩):=by cases dst<;>exact(rfl)
def qI:Fh X ⟨dst,.call { callee:=.builtin .cap,args:=#[x],argTypes:=#[tx] },ty,ps,af,g⟩ K ⟨t,r⟩=RC X.P r ⟨t,r⟩ (.call { callee:=.builtin .cap,args:=#[x],argTypes:=#[tx] }) (DL dst K ⟨t,r⟩):=by cases dst<;>exact(rfl)
variable {C:L->Prop}
def ik:KC X ⟨t,r⟩ ⟨dst,.move x,ty,ps,af,g⟩ C=C ((St.mk t r).get x):=(rfl)
def Ji7:KC X ⟨t,r⟩ ⟨dst,.assign x,ty,ps,af,g⟩ C=C ((St.mk t r).get x):=(rfl)
def qJ{op:BinOp}{zp:TypeId}{y:Operand}:KC X ⟨t,r⟩ ⟨dst,.binOp op tx x y zp,ty,ps,af,g⟩ C=HX X.P op tx (D8 x||D8 y) ((St.mk t r).get x) ((St.mk t r).get y) C:=(rfl)
def zr{op:UnOp}:KC X ⟨t,r⟩ ⟨dst,.unOp op tx x,ty,ps,af,g⟩ C=cr op ((St.mk t r).get x) C:=(rfl)
def il{c a b:Operand}:KC X ⟨t,r⟩ ⟨dst,.pick c a b,ty,ps,af,g⟩ C=wJ ((St.mk t r).get c) ((St.mk t r).get a) ((St.mk t r).get b) C:=(rfl)
def Jb4:KC X ⟨t,r⟩ ⟨dst,.nilCheck x,ty,ps,af,g⟩ C=iI ((St.mk t r).get x) C:=(rfl)
def ir:KC X ⟨t,r⟩ ⟨dst,.load tx x,ty,ps,af,g⟩ C=Jc X.P r tx ((St.mk t r).get x) C:=(rfl)
def Za{f:Nat}:KC X ⟨t,r⟩ ⟨dst,.fieldAddr tx x f,ty,ps,af,g⟩ C=D2 X.P tx ((St.mk t r).get x) f C:=(rfl)
def W3{i:Operand}:KC X ⟨t,r⟩ ⟨dst,.indexAddr tx x i,ty,ps,af,g⟩ C=Dg X.P r tx ((St.mk t r).get x) ((St.mk t r).get i) C:=(rfl)
def Jp9{i:Operand}:KC X ⟨t,r⟩ ⟨dst,.index tx x i,ty,ps,af,g⟩ C=Ix X.P tx ((St.mk t r).get x) ((St.mk t r).get i) C:=(rfl)
def Jo0{lo hi mx:Option Operand}:KC X ⟨t,r⟩ ⟨dst,.slice tx x lo hi mx,ty,ps,af,g⟩ C=G2 X.P r tx (St.mk t r).get x lo hi mx C:=(rfl)
def Jhf:KC X ⟨t,r⟩ ⟨dst,.extract x i,ty,ps,af,g⟩ C=Qk ((St.mk t r).get x) i C:=(rfl)
def qK:KC X ⟨t,r⟩ ⟨dst,.call { callee:=.builtin .len,args:=#[x],argTypes:=#[tx] },ty,ps,af,g⟩ C=UQ X.P tx ((St.mk t r).get x) C:=(rfl)
def J6b:KC X ⟨t,r⟩ ⟨dst,.buildSlice tx n pt,ty,ps,af,g⟩ C=bB X.P ⟨t,r⟩ tx n pt.toList C:=(rfl)
def Jmo{i:Operand}:KC X ⟨t,r⟩ ⟨dst,.lookup tx x i b,ty,ps,af,g⟩ C=RC X.P r ⟨t,r⟩ (.lookup tx x i b) C:=(rfl)
def qL:KC X ⟨t,r⟩ ⟨dst,.call { callee:=.builtin .unsafeSliceData,args:=#[x],argTypes:=#[tx] },ty,ps,af,g⟩ C=RC X.P r ⟨t,r⟩ (.call { callee:=.builtin .unsafeSliceData,args:=#[x],argTypes:=#[tx] }) C:=(rfl)
def iu{args:Array Operand}:KC X ⟨t,r⟩ ⟨dst,.call { callee:=.value (.func f),args:=args,argTypes:=VV },ty,ps,af,g⟩ C=Bi X f (args.toList.map (St.mk t r).get) C:=(rfl)
end
def CA(f:FuncId)(args:List L)(rs:BX)(l:L)(DU:BX):Prop:=Al X f args rs fun m q=>m=l/\q=DU
def BU{X:Cx}(h:CA X f args rs l DU)(hp:Post l DU):Al X f args rs Post:=
 h.mono fun m q ⟨h1,h2⟩=>by subst h1;subst h2;exact hp
def TG{p:Prop}(h:q)(e:p↔q:=by simp only[go_sem,simprocAttr];exact .rfl):p:=e.mpr h
def CI{X:Cx}(h:CA X f args rs l DU)(hq:q)(e:Post l DU↔q:=by simp only[go_sem,simprocAttr];exact .rfl):Al X f args rs Post:=BU h (e.mpr hq)
def DS{X:Cx}{C:L->Prop}(h:CA X f args [] l [])(hp:C l)(hr:l.retOK=true:=by rfl):Bi X f args C:=⟨l,⟨h.mono fun _ _ h=>h.1,hr⟩,hp⟩
def Jyr{X:Cx}{s:St}{K:St->Prop}(h:Ad X g args s.regs l)(hK:K (s.put dst l)):zh X g args s dst K:=⟨l,h,hK⟩
def J7f{X:Cx}{s:St}{K:St->Prop}(h:Ag X g args l)(hK:K (s.put dst l)):iB X g args s dst K:=⟨l,h,hK⟩
def J04{X:Cx}{fR:List L}(DO:Aw args fR)(h:Al X f fR rs Post):Al X f args rs Post:=by
 refine⟨h.1,fun β Im w vs hg hf=>h.2 β Im w vs hg ?_⟩;obtain⟨h1,h2⟩:=Fp DO;exact{ hf with size:=by rw[hf.size];exact h1,tmps:=fun i l hl=>by obtain⟨l0,QR,DO⟩:=h2 i l hl;exact DO.rep (hf.tmps i l0 QR) }
def Aa{n:Int}(h1:-9223372036854775808<=n)(h2:n<=9223372036854775807):IntKind.i64.wrap n=n:=by
 have e:IntKind.i64.wrap n=if n%18446744073709551616 ≥ 9223372036854775808 then n%18446744073709551616-18446744073709551616 else n%18446744073709551616:=by
  simp[IntKind.wrap,IntKind.signed,IntKind.bits]
 rw[e];split<;>omega
def Qs{n:Int}(h1:-2147483648<=n)(h2:n<=2147483647):IntKind.i32.wrap n=n:=by
 have e:IntKind.i32.wrap n=if n%4294967296 ≥ 2147483648 then n%4294967296-4294967296 else n%4294967296:=by
  simp[IntKind.wrap,IntKind.signed,IntKind.bits]
 rw[e];split<;>omega
def Be(n:Int):IntKind.u8.wrap n=n%256:=by simp[IntKind.wrap,IntKind.signed,IntKind.bits]
def Ec(n:Int):IntKind.u32.wrap n=n%4294967296:=by simp[IntKind.wrap,IntKind.signed,IntKind.bits]
def Ub(n:Int):IntKind.u64.wrap n=n%18446744073709551616:=by simp[IntKind.wrap,IntKind.signed,IntKind.bits]
def Ab{n:Int}(h1:0<=n)(h2:n<=255):IntKind.u8.wrap n=n:=by rw[Be];omega
def wP{n:Int}(h1:0<=n)(h2:n<=4294967295):IntKind.u32.wrap n=n:=by rw[Ec];omega
def Mf{n:Int}(h1:0<=n)(h2:n<=18446744073709551615):IntKind.u64.wrap n=n:=by rw[Ub];omega
def iv{α γ:Type}{l:List α}{f:α->γ}{Q:γ->Prop}:(∃e,(l.map f)[i]?=some e/\Q e) = ∃a,l[i]?=some a/\Q (f a):=by
 rw[Eam];apply propext;constructor
 ·rintro⟨e,he,hq⟩;obtain⟨a,ha,rfl⟩:=HF.1 he;exact⟨a,ha,hq⟩
 ·rintro⟨a,ha,hq⟩;exact⟨f a,by rw[ha];rfl,hq⟩
def Rb(K:PV->Prop)(m:L):Prop:=match m with|.p x=>K x|_=>False
def H4(P:Program)(s:St):List ResultVar->(List PV->Prop)->Prop
 |[],K=>K []
 |.tmp t::l,K=>Rb (fun x=>H4 P s l fun xs=>K (x::xs)) (s.tmps.getD t .junk)
 |.cell t T::l,K=>Jc P s.regs T (s.tmps.getD t .junk) (Rb fun x=>H4 P s l fun xs=>K (x::xs))
def Gm:List ResultVar->List Operand|[]=>[]|.tmp t::l=>.tmp t::Gm l|.cell _ _::l=>Gm l
def Sg:List PV->L|[x]=>.p x|xs=>.tup xs
def Cu:List Nat->BX->BX
 |[],_=>[]
 |d::ds,rs=>match Am d rs with
  |some r=>(d,r)::Cu ds rs
  |none=>Cu ds rs
def dJ(Post:L->BX->Prop)(rs:BX)(xs:List PV):Prop:=Post (Sg xs) (Cu (900::keys) rs)
def wQ(Post:L->BX->Prop)(rs:BX)(l:L):Prop:=Post l (Cu (900::keys) rs)
def fS(MI:List ResultVar)(keys:List Nat)(Post:L->BX->Prop)(s:St):Prop := H4 P (s.freezeOps (Gm MI)) MI (dJ keys Post (s.freezeOps (Gm MI)).regs)
def wR(MI:List ResultVar)(keys:List Nat)(Post:L->BX->Prop)(s:St):Prop:=match MI with|[.tmp t]=>wQ keys Post s.regs (s.tmps.getD t .junk)|[.cell t T]=>Jc P s.regs T (s.tmps.getD t .junk) (wQ keys Post s.regs)|_=>False
def Yo(d n:Nat)(s:St):St:=match findKey d s.regs with|true=>s.ren d n|false=>s
def Du:List (Nat×Nat)->St->St|[],s=>s|(d,n)::l,s=>Du l (Yo d n s)
def O7(own:Bool)(MI:List ResultVar)(keys:List Nat)(Post:L->BX->Prop)(s:St):Prop:=match own with|false=>fS P MI keys Post s|true=>wR P MI keys Post s
def cF(own:Bool)(rn:List (Nat×Nat))(MI:List ResultVar)(keys:List Nat)(Post:L->BX->Prop):Ex->St->Prop|.normal,s=>O7 P own MI keys Post (Du rn s)|.ret,s=>O7 P own MI keys Post (Du rn s)|.exit _,_=>False
def Cf{d:Nat}{r:DG}:∀{ds:List Nat} {rs:BX},(d,r)∈Cu ds rs->d∈ds/\(d,r)∈rs
 |[],_,h=>by cases h
 |e::ds,rs,h=>by
  simp only[Cu]at h;split at h
  ·rename_i q hq;rcases DN.1 h with h|h
   ·cases h;exact⟨DQ,Ax hq⟩
   ·exact⟨EW _ (Cf h).1,(Cf h).2⟩
  ·exact⟨EW _ (Cf h).1,(Cf h).2⟩
def He:∀(ds:List Nat) (rs:BX),((Cu ds rs).map (·.1)).Sublist ds
 |[],_=>.slnil
 |e::ds,rs=>by
  simp only[Cu];split
  ·exact(He ds rs).cons_cons e
  ·exact(He ds rs).cons e
def B1:∀(l:List (Nat×Nat)) (s:St),(∀x∈l,x.2<1000\/500000<=x.2)->s.Le (Du l s)
 |[],s,_=>St.Le.refl s
 |(d,n)::l,s,h=>by
  simp only[Du];refine St.Le.trans ?_ (B1 l _ fun x hx=>h x (EW _ hx));unfold Yo;split
  ·exact J92 s (h _ DQ)
  ·exact St.Le.refl s
def Pb{P:Program}(h:(Instr.loadAt t u).run P w=.ok v w):(do loadVar t (<-asAddr u):Sem Value).run P w=.ok v w:=by
 unfold Instr.loadAt Instr.sureAddr at h;cases u<;>simp_all[asAddr];rename_i a;cases a<;>simp_all
def Ic{P:Program}{β:ET}{w:World}{Im:Nat->Prop}{s:St}{a:Act}(hf:Fit β w Im s a.tmps)(g:ResultVar->Sem Value)(qM:∀t,g (.tmp t)=pure (a.tmps.getD t undef))(VP:∀t T,g (.cell t T)=do loadVar T (<-asAddr (a.tmps.getD t undef))) :
  ∀(MI:List ResultVar) (K:List PV->Prop),H4 P s MI K->∃vs xs,(MI.mapM g).run P w=.ok vs w/\K xs/\vs.length=xs.length/\∀(i:Nat) (v:Value) (x:PV),vs[i]?=some v->xs[i]?=some x->BW w Im v x
 |[],K,h=>⟨[],[],by simp,h,rfl,fun i v x hv=>by simp at hv⟩
 |.tmp t::l,K,h=>by
  simp only[H4]at h;unfold Rb at h;split at h
  ·rename_i x hx;obtain⟨vs,xs,h1,h2,h3,h4⟩:=Ic hf g qM VP l _ h;refine⟨a.tmps.getD t undef::vs,x::xs,?_,h2,by simp[h3],fun i v y hv hy=>?_⟩
   ·simp only[List.mapM_cons,qM,Sem.run_bind,Sem.run_pure,Result.andThen_ok,h1]
   ·cases i with
    |zero =>
     simp at hv hy;subst hv;subst hy;have:=A2 hf (.tmp t);simp only[St.get,hx]at this;simpa[CE,Act.eval,OQ]using this
    |succ i=>simp at hv hy;exact h4 i v y hv hy
  ·exact h.elim
 |.cell t T::l,K,h=>by
  simp only[H4]at h;have hr:=A2 hf (.tmp t);obtain⟨v,m,hv,hm,hK⟩:=Jk hf hr h;unfold Rb at hK;split at hK
  ·rename_i x;obtain⟨vs,xs,h1,h2,h3,h4⟩:=Ic hf g qM VP l _ hK;refine⟨v::vs,x::xs,?_,h2,by simp[h3],fun i u y hu hy=>?_⟩
   ·have:=Pb hv;have e:a.eval (.tmp t)=a.tmps.getD t undef:=rfl;rw[e]at this;rw[List.mapM_cons];simp only[Sem.run_bind,VP]at this⊢;rw[this];simp only[Result.andThen_ok,h1,Sem.run_pure]
   ·cases i with
    |zero=>simp at hu hy;subst hu;subst hy;exact hm
    |succ i=>simp at hu hy;exact h4 i u y hu hy
  ·exact hK.elim
def Qd(tmps:Array Value):ResultVar->Sem Value|.tmp t=>pure (tmps.getD t undef)|.cell b T=>do loadVar T (<-asAddr (tmps.getD b undef))
def G9{P:Program}(h:(fn.results.toList.mapM (Qd tmps)).run P w=.ok vs w) :
  (results fn tmps).run P w=.ok (if h:vs.length=1 then vs[0]else .tuple ⟨vs⟩) w:=by
 have e:results fn tmps=(do
   let vs <-fn.results.mapM (Qd tmps)
   pure (if h:vs.size=1 then vs[0]else .tuple vs)):=by
  unfold results;congr 1
 rw[e,Array.mapM_eq_mapM_toList];simp only[Sem.run_bind,Sem.run_map,h,Result.andThen_ok,Sem.run_pure];rfl
def DW.shut{s:St}{D:Nat}(h:DW (Γ.wm (D::ms)) β Im s tmps w):DW (Γ.wm ms) β Im s tmps (w.putObj D (.deferred none)):=by
 obtain⟨m1,m2,m3,m4⟩:=h.marks D DQ;have BZ:=(Rw.1 m1).1;have pU:D∉ms/\ms.Nodup:=UO.1 h.mnod;have NK:∀k,k≠D->(w.putObj D (.deferred none)).heap[k]?=w.heap[k]?:=fun k hk=>World.putObj_heap_other hk
 have hk:ED w Im (w.putObj D (.deferred none)) Im:=⟨fun _ h=>h,fun b hb=>NK b fun e=>m2 (e▸hb)⟩
 refine{
     fit:={ size:=h.fit.size,tmps:=fun i l hl=>(h.fit.tmps i l hl).mono' hk,regs:=fun d r hr=>(h.fit.regs d r hr).mono hk rfl (fun _ _=>rfl) fun loc hl=>NK _ (m4 d r loc hr hl),nodup:=h.fit.nodup,live:=fun d r loc hr hl=>by rw[World.putObj_size];exact h.fit.live d r loc hr hl,apart:=h.fit.apart,im:=fun b hb=>by rw[World.putObj_size];exact h.fit.im b hb }
     os:=h.os,tape:=h.tape,output:=h.output,size:=by rw[World.putObj_size];exact h.size,block:=fun k IE hm=>?_,imin:=h.imin,imnew:=h.imnew,regnew:=h.regnew,fixed:=h.fixed,glob:=Γ.mono hk h.glob,mnod:=pU.2,marks:=fun E hE=>?_ }
 ·have m3':Γ.W0.heap.size<=D:=m3;have VS:k<Γ.W0.heap.size:=IE;rw[NK k omg];exact h.block k IE hm
 ·obtain⟨n1,n2,n3,n4⟩:=h.marks E (EW _ hE);exact⟨(NK E fun e=>pU.1 (e▸hE)).trans n1,n2,n3,n4⟩
def Ie{F:Fence}{n:Nat}{P:Program}{fn:Func}{R:Ending->World->Prop}{Γ:FH}{β:ET}{Im:Nat->Prop}{s:St}{tmps:Array Value}:∀(ms:List Nat) (w:World),DW (Γ.wm ms) β Im s tmps w ->
  (∀w',DW (Γ.wm []) β Im s tmps w'->∃v,(results fn tmps).run P w'=.ok v w'/\R (.returned v) w')->LeavesInM F n P fn tmps R (ms.map F6) .returning w
 |[],w,h,hf=>hf w h
 |D::ms,w,h,hf=>by
  obtain⟨m1,_⟩:=h.marks D DQ;exact⟨by simp,.inl ⟨D,_,rfl,run_takeDeferred m1,Ie ms _ h.shut hf⟩⟩
def J0h {X:Cx} (rn:List (Nat×Nat)) (OY:∀x∈rn,x.2<1000\/500000<=x.2) (hf:X.P.funcs[f]?=some fn) (G8:(fn.name == "runtime.NumGoroutine")=false) (hb:fn.body=some c)
  (Kx:900∉rs.map (·.1)) (h:∀Γ a w,zm X none Γ->(rs=[]->∀b,¬Γ.may b)->TD Γ [] ⟨args++List.replicate (fn.ntmps-args.length) .junk,rs⟩ a w->c.wpIn (F0 none) 1 X.P (QQ Γ (cF X.P own rn fn.results.toList (rs.map (·.1)) Post)) a w):Al X f args rs Post:=by
 refine⟨enters_of hf G8 hb,fun β Im w vs Ua EU=>?_⟩;have KZ:vs.length=args.length:=by simpa using EU.size
 refine callsIn_wide.1 (callsIn_of_wp_marks (n:=1) (F:=Fence.wide) hf hb trivial ?_);let Γ:FH:=⟨w,β,Im,fun k=>∃d r loc,(d,r)∈rs/\β d=some loc/\loc.blk=k,[],X.G,X.mono⟩
 have nj:TD Γ [] ⟨args++List.replicate (fn.ntmps-args.length) .junk,rs⟩ { tmps:=(⟨vs⟩:Array Value)++Array.replicate (fn.ntmps-(⟨vs⟩:Array Value).size) undef,defers:=[] } w:=by
  refine⟨rfl,β,Im,{ fit:={ size:=?_,tmps:=fun i l hl=>?_,regs:=EU.regs,nodup:=EU.nodup,live:=EU.live,apart:=EU.apart,im:=EU.im },os:=rfl,tape:=rfl,output:=rfl,size:=CS _,block:=fun _ _ _=>rfl,imin:=fun _ h=>h,imnew:=fun _ h=>.inl h,regnew:=fun d r loc hd hl=>.inr ⟨d,r,loc,hd,hl,rfl⟩,fixed:=fun _ _ _=>rfl,glob:=Ua,mnod:=.nil,marks:=fun D hD=>(by cases hD) }⟩
  ·simp[KZ]
  ·by_cases hi:i<args.length
   ·simp only at hl;rw[NZ hi]at hl;have:=EU.tmps i l hl;have e:((⟨vs⟩:Array Value)++Array.replicate (fn.ntmps-(⟨vs⟩:Array Value).size) undef).getD i undef=(⟨vs⟩:Array Value).getD i undef:=by
     simp only[OQ];rw[vm (by simp;omega)]
    rw[e];exact this
   ·simp only at hl;rw[Mr omg,nJ]at hl;split at hl
    ·cases hl;trivial
    ·cases hl
 have hw:=h Γ _ w (Kdc rfl) (fun e b ⟨_,_,_,hm,_⟩=>by rw[e]at hm;cases hm) nj;refine wpIn_mono (show c.wpIn Fence.wide 1 X.P _ _ _ from hw) fun e a w' hq=>?_
 have step:∀{β':ET} {CX:Nat->Prop} {s:St} {tmps:Array Value} {w':World},DW (Γ.wm []) β' CX s tmps w'->Gt β w Im rs β' w' CX (Cu (900::rs.map (·.1)) s.regs):=by
  intro β' CX s tmps w' hx;refine{ os:=hx.os,tape:=hx.tape,output:=hx.output,size:=hx.size,block:=fun k IE DA=>hx.block k IE (fun⟨d,r,loc,h1,h2,h3⟩=>DA d r loc h1 h2 h3),imin:=hx.imin,imnew:=hx.imnew,env:=hx.fixed,keys:=fun d r hd=>?_,regnew:=fun d r loc hd hl=>hx.regnew d r loc (Cf hd).2 hl,fit:=?_ }
  ·rcases DN.1 (Cf hd).1 with h|h
   ·exact .inl h
   ·obtain⟨⟨d',r'⟩,h1,rfl⟩:=FB.1 h;exact .inr ⟨r',h1⟩
  ·exact{ size:=rfl,tmps:=fun i l h=>by simp at h,regs:=fun d r hd=>hx.fit.regs d r (Cf hd).2,nodup:=(He _ _).nodup (UO.2 ⟨Kx,EU.nodup⟩),live:=fun d r loc hd hl=>hx.fit.live d r loc (Cf hd).2 hl,apart:=fun d r d' r' l1 l2 hd PT DA h1 h2=>hx.fit.apart d r d' r' l1 l2 (Cf hd).2 (Cf PT).2 DA h1 h2,im:=hx.fit.im }
 have ae:∀s,O7 X.P own fn.results.toList (rs.map (·.1)) Post (Du rn s)->RR Γ s a w'->LeavesInM Fence.wide 1 X.P fn a.tmps (fun e w'=>∃v l DU β' CX,e=.returned v/\Post l DU/\CE β' w' CX v l/\Gt β w Im rs β' w' CX DU) a.defers .returning w':=by
  intro s hl hr;obtain⟨ms,CZ,β',Im0,qN⟩:=B1 rn s OY Γ a w' hr;generalize Du rn s=s at hl qN;rw[CZ];unfold O7 at hl;split at hl
  ·obtain⟨CX,hx⟩:=DW.freezeOps (Gm fn.results.toList) qN;unfold fS at hl;refine Ie ms _ hx fun w2 MA=>?_
   obtain⟨vs,xs,h1,hP,h3,h4⟩:=Ic (P:=X.P) MA.fit (a:={ tmps:=a.tmps,defers:=[] }) (Qd a.tmps) (fun _=>rfl) (fun _ _=>rfl) _ _ hl;have DE:=G9 (P:=X.P) (fn:=fn) h1;refine⟨_,DE,_,Sg xs,_,β',CX,rfl,hP,?_,step MA⟩;split
   ·rename_i h
    match vs,xs,h,h3,h4 with
    |[v],[x],_,_,h4=>exact h4 0 v x rfl rfl
   ·rename_i h;have:Sg xs=.tup xs:=by
     match xs with
     |[]=>rfl
     |[x]=>exact absurd h3 h
     |_::_::_=>rfl
    rw[this];exact⟨vs,rfl,h3,h4⟩
  ·refine Ie ms _ qN fun w2 MA=>?_
   unfold wR at hl;split at hl
   ·rename_i t P';have h1:(fn.results.toList.mapM (Qd a.tmps)).run X.P w2=.ok [a.tmps.getD t undef] w2:=by rw[P'];simp[Qd]
    have DE:=G9 (P:=X.P) (fn:=fn) h1;have CT:=A2 (a:={ tmps:=a.tmps,defers:=[] }) MA.fit (.tmp t);exact⟨_,DE,_,_,_,β',Im0,rfl,hl,CT,step MA⟩
   ·rename_i t T P';have CT:=A2 (a:={ tmps:=a.tmps,defers:=[] }) MA.fit (.tmp t);obtain⟨v,m,hv,hm,hK⟩:=Jk (P:=X.P) (a:={ tmps:=a.tmps,defers:=[] }) MA.fit CT hl;have h1:(fn.results.toList.mapM (Qd a.tmps)).run X.P w2=.ok [v] w2:=by
     rw[P'];have:=Pb hv;simp only[List.mapM_cons,List.mapM_nil,Qd,Sem.run_bind]at this⊢;have e:({ tmps:=a.tmps,defers:=[] }:Act).eval (.tmp t)=a.tmps.getD t undef:=rfl;rw[e]at this;rw[this];simp
    have DE:=G9 (P:=X.P) (fn:=fn) h1;exact⟨_,DE,_,m,_,β',Im0,rfl,hK,hm,step MA⟩
   ·exact hl.elim
 cases e with
 |normal=>obtain⟨s,h1,h2⟩:=hq;exact ae s h1 h2
 |ret=>obtain⟨s,h1,h2⟩:=hq;exact ae s h1 h2
 |exit id=>obtain⟨s,h1,h2⟩:=hq;exact h1.elim
 |goto l=>exact hq.elim
 |panic c=>exact hq.elim
 |outgrown=>exact hq.elim
section
variable {P:Program} {MI:List ResultVar} {keys:List Nat} {Post:L->BX->Prop} {t:List L} {r:BX} {own:Bool} {rn:List (Nat×Nat)}
def J0e {X:Cx} {Post:L->BX->Prop} (own:Bool) (rn:List (Nat×Nat)) (OY:∀x∈rn,x.2<1000\/500000<=x.2) (hf:X.P.funcs[f]?=some fn) (G8:(fn.name == "runtime.NumGoroutine")=false) (hb:fn.body=some c)
  (Kx:900∉rs.map (·.1)) (h:CL X none c (cF X.P own rn fn.results.toList (rs.map (·.1)) Post) ⟨args++List.replicate (fn.ntmps-args.length) .junk,rs⟩):Al X f args rs Post:=
 J0h own rn OY hf G8 hb Kx fun Γ a w hG _ hr=>h Γ a w hG hr.rr
def Vy:cF P own rn MI keys Post .normal ⟨t,r⟩=O7 P own MI keys Post (Du rn ⟨t,r⟩):=(rfl)
def Jhr:cF P own rn MI keys Post .ret ⟨t,r⟩=O7 P own MI keys Post (Du rn ⟨t,r⟩):=(rfl)
end
def Ba(n:Nat):List (Nat×L)->List L|[]=>List.replicate n .junk|(i,l)::ws=>(Ba n ws).set i l
def Cg(n:Nat):∀ws,(Ba n ws).length=n
 |[]=>by simp[Ba]
 |(i,l)::ws=>by simp[Ba,Cg n ws]
def Je3:(Ba n ws).set i l=Ba n ((i,l)::ws):=(rfl)
def Ao{j:Nat}:(Ba n ((i,l)::ws)).getD j .junk=if i=j then(if i<n then l else .junk)else(Ba n ws).getD j .junk:=by
 simp only[Ba,GU,SO,Cg];split
 ·rename_i h;subst h;split<;>rfl
 ·rfl
def Aj{j:Nat}:(Ba n []).getD j .junk=.junk:=by
 simp only[Ba,GU,nJ];split<;>rfl
def RD(f:L->L):List (Nat×L)->List (Nat×L)|[]=>[]|(i,l)::ws=>(i,f l)::RD f ws
def Kw{f:L->L}(h:f .junk=.junk){n:Nat}:∀{ws:List (Nat×L)},(Ba n ws).map f=Ba n (RD f ws)
 |[]=>by simp[Ba,RD,h]
 |(i,l)::ws=>by simp only[Ba,RD,fH,Kw h]
def U7{d:Nat}:(Ba n ws).map (L.forget d)=Ba n (RD (L.forget d) ws):=Kw rfl
def Wd{d:Nat}{es:Fz}:(Ba n ws).map (L.freeze d es)=Ba n (RD (L.freeze d es) ws):=Kw rfl
def Jac{f:Nat->Option Nat}:(Ba n ws).map (L.map f)=Ba n (RD (L.map f) ws):=Kw rfl
def Jlb{f:L->L}:RD f []=[]:=(rfl)
def Jg1{f:L->L}:RD f ((i,l)::ws)=(i,f l)::RD f ws:=(rfl)
def MJ:Nat->List L->List (Nat×L)|_,[]=>[]|k,l::ls=>(k,l)::MJ (k+1) ls
def Tq{n:Nat}:∀(k:Nat) (ls:List L) (i:Nat),k+ls.length<=n->(Ba n (MJ k ls))[i]?=if i<n then(if k<=i then(ls[i-k]?).orElse fun _=>some .junk else some .junk)else none
 |k,[],i,h=>by
  simp only[MJ,Ba,nJ];split
  ·split<;>simp
  ·rfl
 |k,l::ls,i,h=>by
  simp only[DH]at h;have ih:=Tq (n:=n) (k+1) ls i omg;simp only[MJ,Ba,SO,Cg,ih];by_cases h1:k=i
  ·subst h1;simp
  ·simp only[AA h1];by_cases h2:i<n
   ·simp only[AB h2];by_cases h3:k+1<=i
    ·simp only[AB h3,AB (show k<=i by omega)];have:i-k=(i-(k+1))+1:=omg;rw[this,List.getElem?_cons_succ]
    ·simp only[AA h3,AA (show ¬k<=i by omega)]
   ·simp only[AA h2]
def Rx{ls:List L}(h:ls.length<=n):ls++List.replicate (n-ls.length) .junk=Ba n (MJ 0 ls):=by
 apply aN;intro i;rw[Tq 0 ls i omg];by_cases h1:i<ls.length
 ·rw[NZ h1,AB omg,AB (EK _)];simp[h1]
 ·rw[Mr omg,nJ];by_cases h2:i<n
  ·rw[AB omg,AB h2,AB (EK _)];simp[h1]
  ·rw[AA omg,AA h2]
def WX(n:Nat)(ws:List (Nat×L)):List (Nat×L)->Prop|[]=>True|(i,l)::BR=>WW ((Ba n ws).getD i .junk) l/\WX n ws BR
def Ar:WX n ws []=True:=(rfl)
def Ap{BR:List (Nat×L)}:WX n ws ((i,l)::BR)=(WW ((Ba n ws).getD i .junk) l/\WX n ws BR):=(rfl)
def R2:∀{a b:List L},a.length=b.length->(∀i,WW (a.getD i .junk) (b.getD i .junk))->Aw a b
 |[],[],_,_=>trivial
 |x::a,y::b,h,hi=>⟨by simpa using hi 0,R2 (by simpa using h) fun i=>by simpa using hi (i+1)⟩
 |[],_::_,h,_=>by simp at h
 |_::_,[],h,_=>by simp at h
def Z1{n:Nat}{ws:List (Nat×L)}:∀{BR:List (Nat×L)},WX n ws BR->∀i,WW ((Ba n ws).getD i .junk) ((Ba n BR).getD i .junk)
 |[],_,i=>by rw[Aj];exact .inl rfl
 |(j,l)::BR,h,i=>by
  rw[Ao];split
  ·rename_i hj;subst hj;split
   ·exact h.1
   ·exact .inl rfl
  ·exact Z1 h.2 i
def UE{qO:List (Nat×L)}{r r':BX}(ht:WX n ws qO)(hr:Az r r')(hk:Ay r'):St.Le ⟨Ba n ws,r⟩ ⟨Ba n qO,r'⟩:=
 Kcu (R2 (by simp[Cg]) (Z1 ht)) hr hk
def zt {X:Cx} (rn:List (Nat×Nat)) (OY:∀x∈rn,x.2<1000\/500000<=x.2) (hf:X.P.funcs[f]?=some fn) (G8:(fn.name == "runtime.NumGoroutine")=false) (hb:fn.body=some c) (hn:args.length<=fn.ntmps)
  (Kx:900∉rs.map (·.1)) (h:CL X none c (cF X.P own rn fn.results.toList (rs.map (·.1)) Post) ⟨Ba fn.ntmps (MJ 0 args),rs⟩):Al X f args rs Post:=
 J0e own rn OY hf G8 hb Kx (by rw[Rx hn];exact h)
end Go.LX
