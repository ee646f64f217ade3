/- Ranges over functions: the law of the loop. -/
import Derived.Test.YtaghbedfogiopaaGreatDoorLxL
import Derived.RangeFuncNested
import Derived.Test.YtaghbedfogiopaaGreatDoorProg
set_option linter.unusedSimpArgs false
set_option linter.unusedVariables false
set_option linter.unusedSectionVars false
set_option linter.unnecessarySimpa false
namespace Go.LX
open Go Go.RowKit Go.Proofs
def Vm (n:Nat) (rn:List (Nat×Nat)) (Inv:Nat->Regs->Prop) (Stop:Ex->Regs->Prop) (k:Nat):Ex->St->Prop
 | .normal,s=>∃ R,Inv (k+1) R/\(Du rn s).Le ⟨Ba n [],R⟩
 | .exit id,s=>∃ R,Stop (.exit id) R/\(Du rn s).Le ⟨Ba n [],R⟩
 | .ret,s=>∃ R,Stop .ret R/\(Du rn s).Le ⟨Ba n [],R⟩
def codeOf:Ex->Option Code
 | .normal=>none
 | .exit id=>some (.exit id)
 | .ret=>some .ret
section
variable {X:Cx}
theorem RoundIn.room {l n m:Nat} {P:Program} {f:FuncId} {tmps:Array Value} {assign body:Code} {w:World} {R:Ending->World->Prop} (h:RoundIn (F0 none) n P l f tmps assign body w R):RoundIn (F0 none) m P l f tmps assign body w R :=
 ⟨h.1,fun c cs _=>h.2 c cs fun d hd=>by simp [F0] at hd⟩
theorem Ws {w:World} {l:Nat} {x y:Obj}:(w.putObj l x).putObj l y=w.putObj l y:=by
 unfold World.putObj;simp
theorem Z4 {Γ:Base} {β:Env} {Im:Nat->Prop} {s:St} {tmps:Array Value} {w:World} (h:RRx Γ β Im s tmps w) {d:Nat} {T:TypeId} {cs:List L} {ps:List PV} {loc:Loc} (hd:Am d s.regs=some (.var T cs)) (hp:Bg L.pure? cs=some ps) (hβ:β d=some loc) :
  LRep (fun _=>none) w (fun b=>Im b\/∃ loc,β d=some loc/\b=loc.blk) (.pointer (some ⟨loc.blk,0,none⟩)) (.eptr ps):=by
 obtain ⟨loc',cur,hβ',g2,g3,g4,g5,g6⟩:=h.fit.regs d _ (Ax hd);rw [hβ] at hβ';cases hβ';obtain ⟨hlen,hsp⟩:=Bh hp;have hk:Keeps w Im w (fun b=>Im b\/∃ loc,β d=some loc/\b=loc.blk):=⟨fun b hb=>.inl hb,fun _ _=>rfl⟩
 refine ⟨loc.blk,0,.inr ⟨loc,hβ,rfl⟩,rfl,fun j=>cur.getD j undef,fun j hj=>?_,fun j p hj=>?_⟩
 ·have hjc:j<cur.length:=by omega
  have e:w.heap[loc.blk]? = some (.cells ⟨cur⟩ T (0,0)):=g4;simp [World.cell?,e,hjc]
 ·obtain ⟨c,hc⟩:=getElem?_of_length hlen hj;obtain ⟨v,hv⟩:=getElem?_of_length g5 hc;have h1:=hsp j c p hc hj;have h2:=pure?_spec h1;subst h2;obtain ⟨r1,r2⟩:=g6 j v _ hv hc;refine ⟨?_,?_⟩
  ·have:cur.getD j undef=v:=by simp [Eah,hv]
   show PRep w _ (cur.getD j undef) p;rw [this];exact PRep.mono hk r1
  ·rcases r2 with r2 | r2
   ·exact r2
   ·cases r2
theorem SWP.rangeFunc {ro:Option Nat} {g:Operand} {ps:Array Tmp} {assign body:Code} {Q:Ex->St->Prop} {s s1:St} {f d:Nat} {T:TypeId} {cs:List L} {pcs:List PV} (xs:List (List PV)) (n:Nat) (rn:List (Nat×Nat)) (hrn:∀ x∈rn,x.2<1000\/500000<=x.2) (Inv:Nat->Regs->Prop) (Stop:Ex->Regs->Prop)
  (hg:s.get g=.fn f [d]) (hd:Am d s.regs=some (.var T cs)) (hp:Bg L.pure? cs=some pcs) (hi:Tb X f [.eptr pcs] xs) (hs1:Dx d (some .gone) s=s1)
  (hn:s1.tmps.length=n) (hsm:s1.regs.length<=1000) (hps:∀ x∈xs,x.length=ps.size)
  (h0:Inv 0 (Cz (rnOf 0 s1.regs) s1.regs))
  (hkI:∀ k R,Inv k R->∀ e r,(e,r)∈R->e=900\/findKey e (Cz (rnOf 0 s1.regs) s1.regs)=true) (hkS:∀ x R,Stop x R->∀ e r,(e,r)∈R->e=900\/findKey e (Cz (rnOf 0 s1.regs) s1.regs)=true) (hSn:∀ R,¬ Stop .normal R)
  (round:∀ k x R l,xs[k]? = some x->Inv k R->lwpA X assign (fun s2=>SWP X (some l) body (Vm n rn Inv Stop k) s2) ⟨J0w ps.toList x (s1.tmps.map (L.map (Mq (rnOf 0 s1.regs)))),R⟩)
  (done:∀ R,Inv xs.length R->Q .normal (s1.after (rnOf 0 s1.regs) (Ek none R) R))
  (stop:∀ x R,Stop x R->Q x (s1.after (rnOf 0 s1.regs) (Ek none R) R)):SWP X ro (.rangeFunc g ps assign body) Q s:=by
 intro Γ a w hG hr;obtain ⟨ms,hdef,β,Im,hx⟩:=hr;have hgv:=A2 hx.fit g;rw [hg] at hgv;obtain ⟨vs,hgv,hvl,hvs⟩:=hgv;obtain ⟨v,rfl⟩:∃ v,vs=[v]:=by
  match vs,hvl with
  | [v],_=>exact ⟨v,rfl⟩
 obtain ⟨loc,hβ,rfl⟩:=hvs 0 v d rfl rfl;have hx1:=hx.freezeZ d .gone trivial _ (Ax hd);rw [hs1] at hx1;have hcap:=Z4 hx hd hp hβ;generalize (fun b=>Im b\/∃ loc,β d=some loc/\b=loc.blk)=I1 at hx1 hcap;have hρ:=Jmr hsm hx1.fit.nodup;generalize hρe:rnOf 0 s1.regs=ρ at *
 refine wpIn_rangeFunc fun fn hfn=>?_
 obtain ⟨l,mk,W1,dv,hent,gr,hlW,hll,hmk,hmn⟩:∃ (l:Nat) (mk:List Nat) (W1:World) (dv:Nat),
   (Instr.enterLoop fn a.tmps ps assign body (F0 ro).round).run X.P w=.ok (l,mk.map F6) W1/\Grow w I1 W1 I1/\W1.heap[l]? = some (.loop { state:=.ready,pending:=none,fn,tmps:=a.tmps,params:=ps,assign,body,defers:=dv })/\w.heap.size<=l /\
   (∀ D∈mk,W1.heap[D]? = some (.deferred (some []))/\w.heap.size<=D/\D≠l)/\mk.Nodup:=by
  cases ro with
  | none =>
   have g1:=Grow.alloc (w:=w) (Im:=I1) hx1.fit.im (.deferred (some []));refine ⟨w.heap.size+1,[w.heap.size],_,w.heap.size,run_enterLoop_outer _ _ _ _ _,g1.trans (Grow.alloc (w:=w.alloc (.deferred (some []))) (Im:=I1) g1.lt _),?_,Nat.le_succ _,fun D hD=>?_,by simp⟩
   ·have:=World.alloc_heap_new (w.alloc (.deferred (some []))) (.loop { state:=.ready,pending:=none,fn,tmps:=a.tmps,params:=ps,assign,body,defers:=w.heap.size })
    rwa [World.size_alloc] at this
   ·rw [Eay] at hD;subst hD;exact ⟨(Below.heap_alloc _ _ _ sm).trans (World.alloc_heap_new w _),Eai _,by omega⟩
  | some l0 =>
   obtain ⟨⟨r0,h1⟩,h2⟩:=hG.2 l0 rfl;have h3:w.heap[l0]? = some (.loop r0):=(hx.block l0 (Ea5.1 h1).1 h2).trans h1;exact ⟨w.heap.size,[],_,r0.defers,run_enterLoop_inner h3 _ _ _ _ _,Grow.alloc (w:=w) (Im:=I1) hx1.fit.im _,World.alloc_heap_new w _,Eai _,fun D hD=>(by cases hD),.nil⟩
 obtain ⟨rec,hrec⟩:∃ rec:LoopState->Option Code->Loop,rec=fun st pe=>{ state:=st,pending:=pe,fn,tmps:=a.tmps,params:=ps,assign,body,defers:=dv }:=⟨_,rfl⟩
 have hlW:W1.heap[l]? = some (.loop (rec .ready none)):=by rw [hrec];exact hlW
 have hx2:=hx1.grow gr;have hlive:∀ e r loc,(e,r)∈s1.regs->β e=some loc->loc.blk<w.heap.size:=fun e r loc h1 h2=>(hx1.fit.live e r loc h1 h2).1
 have hx3:RRx (Γ.wm (mk ++ ms)) β I1 s1 a.tmps W1:=by
  have hDms:∀ D∈mk,D ∉ ms:=fun D hD h=>by
   have:=(Ea5.1 (hx1.marks D h).1).1;have:=(hmk D hD).2.1;omega
  refine { fit:=hx2.fit,os:=hx2.os,tape:=hx2.tape,output:=hx2.output,size:=hx2.size,block:=hx2.block,imin:=hx2.imin,imnew:=hx2.imnew,regnew:=hx2.regnew,fixed:=hx2.fixed,glob:=hx2.glob,mnod:=Ecc.2 ⟨hmn,hx2.mnod,fun D hD E hE e=>hDms D hD (e ▸ hE)⟩,marks:=fun E hE=>?_ };rcases Eau.1 hE with hE | hE
  ·obtain ⟨m1,m2,_⟩:=hmk E hE;exact ⟨m1,fun h=>by have:=hx1.fit.im _ h;omega,Nat.le_trans hx1.size m2,fun e r loc h1 h2=>by have:=hlive e r loc h1 h2;omega⟩
  ·exact hx2.marks E hE
 obtain ⟨rs0,hrs0⟩:∃ rs0,rs0=Cz ρ s1.regs:=⟨_,rfl⟩
 rw [<- hrs0] at h0 hkI hkS;have fit0:Fit (Ky ρ β) W1 I1 ⟨[],rs0⟩ #[]:=by
  have:=hx2.fit.call hρ (args:=[]) (vs:=[]) rfl (fun i v m h=>by simp at h);rw [hrs0];exact this
 have tf0:TFit (Ky ρ β) W1 I1 (s1.tmps.map (L.map (Mq ρ))) a.tmps:=by
  refine ⟨by simp [hx2.fit.size],fun i m hm=>?_⟩;rw [Eam] at hm;obtain ⟨m',h1,rfl⟩:=Eak.1 hm;exact (hx2.fit.tmps i m' h1).map fun d n hd=>D1 hρ (Zz hd).1
 have off0:Off l (Ky ρ β) W1 I1 rs0:=by
  refine ⟨(Ea5.1 hlW).1,fun h=>by have:=hx1.fit.im _ h;omega,fun e r loc h1 h2=>?_⟩;rw [hrs0] at h1;obtain ⟨e',r',g1,g2,_⟩:=Dd h1;rw [D1 hρ g2] at h2;have:=hlive e' r' loc g1 h2;omega
 generalize hβ0:Ky ρ β=β0 at *
 obtain ⟨J,hJe⟩:∃ J:Gh,J=fun k w' I'=>match k with
  | some k=>∃ β' R,Inv k R/\Trans l β0 W1 I1 rs0 β' w' I' R/\w'.heap[l]? = some (.loop (rec .ready none))
  | none=>∃ β' R x c,Stop x R/\codeOf x=some c/\Trans l β0 W1 I1 rs0 β' w' I' R/\w'.heap[l]? = some (.loop (rec .done (some c))):=⟨_,rfl⟩
 have hJ:JOK J:=by
  intro k w' I' w2 I2 hlt hj hg';subst hJe;cases k with
  | some k =>
   obtain ⟨β',R,h1,h2,h3⟩:=hj;exact ⟨β',R,h1,h2.trans (Jxw h2.fit hg'),(hg'.block l (Ea5.1 h3).1).trans h3⟩
  | none =>
   obtain ⟨β',R,x,c,h1,hc,h2,h3⟩:=hj;exact ⟨β',R,x,c,h1,hc,h2.trans (Jxw h2.fit hg'),(hg'.block l (Ea5.1 h3).1).trans h3⟩
 have hY:YOK X l J xs:=by
  intro k x hk w' I' us hj hglob hlt hrep;have hj':=hj;subst hJe;obtain ⟨β',R,hInv,hT,hl'⟩:=hj';have hxl:x.length=ps.size:=hps x (Eae hk);have hy:=run_yield (P:=X.P) (args:=(⟨us⟩:Array Value)) hl' (by rw [hrec];simp only [List.size_toArray];rw [hrep.1];exact hxl);rw [hrec] at hy;have off1:=hT.off off0;have hkp:=hT.keeps off0 fit0;have tf1:TFit β' w' I' (s1.tmps.map (L.map (Mq ρ))) a.tmps:=by
   refine ⟨tf0.1,fun i m hm=>(tf0.2 i m hm).mono hkp fun e he=>?_⟩;rw [Eam] at hm;obtain ⟨m',h1,rfl⟩:=Eak.1 hm;obtain ⟨e',he'⟩:=V3 he;obtain ⟨u1,u2⟩:=Zz he';exact hT.env e (hρ.ge e' e u1) u2
  have tf2:=J0n ps.toList x us _ _ tf1 hrep;refine ⟨fn,_,assign,body,hy,RoundIn.room (n:=1) (roundIn_of_wpIn hfn ?_)⟩;have hr1:RRm ⟨w',β',I',fun k=>∃ d r loc,(d,r)∈R/\β' d=some loc/\loc.blk=k,[],X.G,X.mono⟩ [] ⟨J0w ps.toList x (s1.tmps.map (L.map (Mq ρ))),R⟩ { tmps:=(ps.zip ⟨us⟩).foldl (fun t (p,v)=>t.setIfInBounds p v) a.tmps,defers:=[] } w':=by
   have e:(ps.zip ⟨us⟩).foldl (fun t (p,v)=>t.setIfInBounds p v) a.tmps=(ps.toList.zip us).foldl (fun t (p,v)=>t.setIfInBounds p v) a.tmps:=by
    rw [<- Array.foldl_toList,Array.toList_zip]
   refine ⟨rfl,β',I',?_⟩;simp only [e];exact {
       fit:=Kfm tf2 hT.fit,os:=rfl,tape:=rfl,output:=rfl,size:=Eai _,block:=fun _ _ _=>rfl,imin:=fun _ h=>h,imnew:=fun _ h=>.inl h,regnew:=fun d r loc hd hl=>.inr ⟨d,r,loc,hd,hl,rfl⟩,fixed:=fun _ _ _=>rfl
       glob:=hglob,marks:=fun D hD=>(by cases hD),mnod:=.nil }
  refine wpIn_mono (show assign.wpIn (F0 (some l)) 1 X.P _ _ _ from Lj (Γ:=⟨w',β',I',fun k=>∃ d r loc,(d,r)∈R/\β' d=some loc/\loc.blk=k,[],X.G,X.mono⟩) rfl assign _ _ _ _ hr1 (round k x R l hk hInv)) fun e a1 w1 hq=>?_
  cases e with
  | exit id=>exact hq.elim
  | ret=>exact hq.elim
  | goto l=>exact hq.elim
  | panic c=>exact hq.elim
  | outgrown=>exact hq.elim
  | normal =>
  obtain ⟨s2,hb2,hd1,β1,Ia,hxa⟩:=hq;have T1:Trans l β' w' I' R β1 w1 Ia s2.regs:=by have:=Jzl (l:=l) (rs:=R) hxa (fun _ h=>h);exact this
  have hl1:w1.heap[l]? = some (.loop (rec .ready none)):=(Off.same (rs:=R) off1 hxa (fun _ h=>h)).trans hl';have off2:=T1.off off1;have hlt1:=off2.lt;refine ⟨_,run_beginRound hl1 (by rw [hrec]),?_⟩;obtain ⟨w2,hw2⟩:∃ w2,w1.putObj l (.loop { rec .ready none with state:=.busy })=w2:=⟨_,rfl⟩
  rw [hw2];have hl2:w2.heap[l]? = some (.loop { rec .ready none with state:=.busy }):=by rw [<- hw2];exact World.putObj_heap_same hlt1
  have T2:Trans l β1 w1 Ia s2.regs β1 w2 Ia s2.regs:=by rw [<- hw2];exact Trans.put hxa.fit.regsOnly off2 _
  have off3:=T2.off off2;have hr2:RR ⟨w2,β1,Ia,fun k=>∃ d r loc,(d,r)∈s2.regs/\β1 d=some loc/\loc.blk=k,[],X.G,X.mono⟩ s2 a1 w2:=by
   refine ⟨[],hd1,β1,Ia,?_⟩;exact {
       fit:=by rw [<- hw2];exact hxa.fit.putOff off2 _,os:=rfl,tape:=rfl,output:=rfl,size:=Eai _,block:=fun _ _ _=>rfl,imin:=fun _ h=>h,imnew:=fun _ h=>.inl h,regnew:=fun d r loc hd hl=>.inr ⟨d,r,loc,hd,hl,rfl⟩,fixed:=fun _ _ _=>rfl
       glob:=X.mono (T2.keeps off2 hxa.fit.regsOnly) hxa.glob,marks:=fun D hD=>(by cases hD),mnod:=.nil }
  refine wpIn_mono (show body.wpIn (F0 (some l)) 1 X.P _ _ _ from hb2 _ a1 w2 ⟨rfl,fun l' h=>by cases h;exact ⟨⟨_,hl2⟩,fun ⟨d,r,loc,h1,h2,h3⟩=>off3.reg d r loc h1 h2 h3⟩⟩ hr2) fun e a3 w3 hq=>?_
  have fin:∀ (R':Regs) (jump:Option Code) (s3:St),s3.Le ⟨Ba n [],R'⟩->RR ⟨w2,β1,Ia,fun k=>∃ d r loc,(d,r)∈s2.regs/\β1 d=some loc/\loc.blk=k,[],X.G,X.mono⟩ s3 a3 w3 ->
    ∃
     β3 I3,(Instr.endRound l jump).run X.P w3=.ok (.bool jump.isNone) (w3.putObj l (.loop (rec (if jump.isNone then .ready else .done) jump)))/\YKeep w' I' (w3.putObj l (.loop (rec (if jump.isNone then .ready else .done) jump))) I3 /\
     Trans l β0 W1 I1 rs0 β3 (w3.putObj l (.loop (rec (if jump.isNone then .ready else .done) jump))) I3 R'/\(w3.putObj l (.loop (rec (if jump.isNone then .ready else .done) jump))).heap[l]? = some (.loop (rec (if jump.isNone then .ready else .done) jump)):=by
   intro R' jump s3 hle hr3;obtain ⟨ms3,_,β3,I3,hx3'⟩:=hle _ _ _ hr3;have T3:Trans l β1 w2 Ia s2.regs β3 w3 I3 R':=by have:=Jzl (l:=l) (rs:=s2.regs) hx3' (fun _ h=>h);exact this
   have hl3:w3.heap[l]? = some (.loop { rec .ready none with state:=.busy }):=(Off.same (rs:=s2.regs) off3 hx3' (fun _ h=>h)).trans hl2;have off4:=T3.off off3;have T4:=Trans.put T3.fit off4 (.loop (rec (if jump.isNone then .ready else .done) jump));have Tall:=T1.trans (T2.trans (T3.trans T4));refine ⟨β3,I3,?_,Tall.ykeep off1 hT.fit,hT.trans Tall,World.putObj_heap_same off4.lt⟩;have:=run_endRound (P:=X.P) jump hl3;rw [hrec] at this ⊢;exact this
  cases e with
  | normal =>
   obtain ⟨s3,⟨R',hI',hle⟩,hr3⟩:=hq;obtain ⟨β3,I3,g1,g2,g3,g4⟩:=fin R' none s3 ((B1 rn s3 hrn).trans hle) hr3;exact ⟨_,_,g1,I3,g2,.inl ⟨rfl,β3,R',hI',g3,g4⟩⟩
  | exit id =>
   obtain ⟨s3,⟨R',hI',hle⟩,hr3⟩:=hq;obtain ⟨β3,I3,g1,g2,g3,g4⟩:=fin R' (some (.exit id)) s3 ((B1 rn s3 hrn).trans hle) hr3;exact ⟨_,_,g1,I3,g2,.inr ⟨rfl,β3,R',.exit id,.exit id,hI',rfl,g3,g4⟩⟩
  | ret =>
   obtain ⟨s3,⟨R',hI',hle⟩,hr3⟩:=hq;obtain ⟨β3,I3,g1,g2,g3,g4⟩:=fin R' (some .ret) s3 ((B1 rn s3 hrn).trans hle) hr3;exact ⟨_,_,g1,I3,g2,.inr ⟨rfl,β3,R',.ret,.ret,hI',rfl,g3,g4⟩⟩
  | goto l=>exact hq.elim
  | panic c=>exact hq.elim
  | outgrown=>exact hq.elim
 have back:∀ (R:Regs) (β':Env) (w3:World) (I3:Nat->Prop),(∀ e r,(e,r)∈R->e=900\/findKey e rs0=true)->Trans l β0 W1 I1 rs0 β' w3 I3 R->w3.heap[l]? = some (.loop (rec .ready none)) ->
   ∀ o,RR Γ (s1.after ρ (Ek none R) R) { a with defers:=mk.map F6 ++ a.defers } (w3.putObj l o):=by
  intro R β' w3 I3 hk hT hl3 o;have hstep:CallStep β0 W1 I1 rs0 β' w3 I3 R:=hT.step (hl3.trans hlW.symm) fun e r he=>(hk e r he).imp id fun h=>Jn.1 h
  rw [hrs0,<- hβ0] at hstep;have hcalled:=hx3.called hρ (nw:=Ek none R) (fun e he=>by
    unfold Ek at he;split at he
    ·cases he;decide
    ·cases he) (fun he=>by
    unfold Ek at he;split at he
    ·cases he
    ·assumption) hstep
  have hlD:l ∉ mk ++ ms:=by
   intro h;rcases Eau.1 h with h | h
   ·exact (hmk l h).2.2 rfl
   ·have:=(hx1.marks l h).1;have:=(Ea5.1 this).1;omega
  have hoff:Off l (C3 ρ (Ek none R) β β') w3 I3 (s1.after ρ (Ek none R) R).regs:=by
   have o3:=hT.off off0;refine ⟨o3.lt,o3.im,fun e r loc h1 h2=>?_⟩;intro e';have hRep:=hcalled.fit.regs e r h1;have h3:w3.heap[loc.blk]? = some (.loop (rec .ready none)):=by rw [e'];exact hl3
   rcases Eau.1 h1 with h1 | h1
   ·obtain ⟨hne,r9,h9,rfl⟩:=J5 h1;have:β' 900=some loc:=by simpa [C3,hne] using h2
    exact o3.reg 900 r9 loc h9 this e'
   ·obtain ⟨hne,hq⟩:=Dt h1;rcases hq with ⟨m,r',r0,k1,k2,k3,rfl⟩ | ⟨k1,r0,k2,rfl⟩
    ·have:β' m=some loc:=by simpa [C3,hne,k1] using h2
     exact o3.reg m r' loc k2 this e'
    ·have:β e=some loc:=by simpa [C3,hne,k1] using h2
     have:=hlive e r0 loc k2 this;omega
  exact ⟨mk ++ ms,by simp [hdef],_,_,hcalled.putOff hoff (Nat.le_trans hx1.size hll) hlD o⟩
 refine ⟨l,mk.map F6,W1,{ target:=.fn (.func f) ⟨[.pointer (some ⟨loc.blk,0,none⟩)]⟩,args:=#[.func (.yield l) #[] #[]] },W1,f,#[.func (.yield l) #[] #[]] ++ ⟨[.pointer (some ⟨loc.blk,0,none⟩)]⟩,W1,?_,?_,?_,?_,fun h=>by simp [F0] at h,?_⟩
 ·exact hent
 ·simp only [resolve,hgv];simp [go_sem]
 ·intro f' hf';trivial
 ·simp [invoke,hi.1 _ _]
 ·refine Yt (Calls.mono (hi.2 l J hJ hY I1 W1 [.pointer (some ⟨loc.blk,0,none⟩)] (hG.1 ▸ hx2.glob) hx2.fit.im (by subst hJe;exact ⟨β0,rs0,h0,Trans.refl fit0,hlW⟩) rfl (fun i v m h1 h2=>by
   match i,h1,h2 with
   | 0,h1,h2=>cases h1;cases h2;exact hcap.mono' ⟨fun _ h=>h,fun b hb=>gr.block b (hx1.fit.im b hb)⟩
   | i+1,h1,h2=>simp at h1)) fun e w3 ⟨v,I3,he,_,hj⟩=>?_)
  subst he;rcases hj with hj | hj
  ·subst hJe;obtain ⟨β',R,hInv,hT,hl3⟩:=hj;have hend:=run_endLoop (P:=X.P) hl3 (by rw [hrec];simp);refine ⟨_,_,hend,?_⟩;rw [hrec];exact ⟨_,done R hInv,back R β' w3 I3 (hkI _ R hInv) hT hl3 _⟩
  ·subst hJe;obtain ⟨β',R,x,c,hSt,hc,hT,hl3⟩:=hj;have hend:=run_endLoop (P:=X.P) hl3 (by rw [hrec];simp);refine ⟨_,_,hend,?_⟩;have off3:=hT.off off0;have T4:=hT.trans (Trans.put hT.fit off3 (.loop (rec .ready none)));have hb:=back R β' (w3.putObj l (.loop (rec .ready none))) I3 (hkS x R hSt) T4 (World.putObj_heap_same off3.lt) (.loop { rec .done (some c) with state:=.exhausted });rw [Ws] at hb;have hq:=stop x R hSt;rw [hrec] at hb ⊢;cases x with
   | normal=>exact absurd hSt (hSn R)
   | exit id=>cases hc;exact wpIn_exit ⟨_,hq,hb⟩
   | ret=>cases hc;exact wpIn_ret ⟨_,hq,hb⟩
end
def Jbx (x:PV):Option (List PV)->Option (List PV)
 | some xs=>some (x :: xs)
 | none=>none
def fixN:Option Nat->Option Nat
 | some n=>if n<500000 then some n else none
 | none=>none
section
variable {X:Cx} {xs:List (List PV)} {l:Nat} {Q:Ex->Option Nat->St->Prop} {K:Option Nat->St->Prop} {n:Option Nat} {t:List L} {r:Regs} {ds:List (Option Tmp)} {rest:List Oper} {dst:Option Tmp} {ty:TypeId} {ps:String} {af:Array Edge} {g:Option (Nat×Bool)} {k:Nat}
theorem j_skip:jwp X xs l .skip Q n ⟨t,r⟩=Q .normal n ⟨t,r⟩:=(rfl)
theorem Jla {id:Nat} {ops:Array Oper}:jwp X xs l (.region id ops false) Q n ⟨t,r⟩=jops X xs l (ops.toList.map (·.dst)) ops.toList (Q .normal) n ⟨t,r⟩:=(rfl)
theorem j_seq {a b:Code}:jwp X xs l (a.seq b) Q n ⟨t,r⟩=jwp X xs l a (jseq (jwp X xs l b) Q) n ⟨t,r⟩:=(rfl)
theorem j_cond {c:Operand} {a b:Code}:jwp X xs l (.cond c a b) Q n ⟨t,r⟩=O0 ((St.mk t r).get c) (jwp X xs l a Q n) (jwp X xs l b Q n) ⟨t,r⟩:=(rfl)
theorem Jpw {id:Nat} {c:Code}:jwp X xs l (.block id c) Q n ⟨t,r⟩=jwp X xs l c (Oe id Q) n ⟨t,r⟩:=(rfl)
theorem j_loop {c:Code}:jwp X xs l (.loop c) Q n ⟨t,r⟩=JWP X xs l (.loop c) Q n ⟨t,r⟩:=(rfl)
theorem j_exit {id:Nat}:jwp X xs l (.exit id) Q n ⟨t,r⟩=Q (.exit id) n ⟨t,r⟩:=(rfl)
theorem j_ret:jwp X xs l .ret Q n ⟨t,r⟩=Q .ret n ⟨t,r⟩:=(rfl)
theorem Jht {B:(Ex->Option Nat->St->Prop)->Option Nat->St->Prop}:jseq B Q .normal n ⟨t,r⟩=B Q n ⟨t,r⟩:=(rfl)
theorem Jpj {B:(Ex->Option Nat->St->Prop)->Option Nat->St->Prop} {id:Nat}:jseq B Q (.exit id) n ⟨t,r⟩=Q (.exit id) n ⟨t,r⟩:=(rfl)
theorem ks_ret {B:(Ex->Option Nat->St->Prop)->Option Nat->St->Prop}:jseq B Q .ret n ⟨t,r⟩=Q .ret n ⟨t,r⟩:=(rfl)
theorem Jff {id:Nat}:Oe id Q .normal n ⟨t,r⟩=Q .normal n ⟨t,r⟩:=(rfl)
theorem Jpc {id id':Nat}:Oe id Q (.exit id') n ⟨t,r⟩=if id'=id then Q .normal n ⟨t,r⟩ else Q (.exit id') n ⟨t,r⟩:=(rfl)
theorem kb_ret {id:Nat}:Oe id Q .ret n ⟨t,r⟩=Q .ret n ⟨t,r⟩:=(rfl)
theorem jo_nil:jops X xs l ds [] K n ⟨t,r⟩=K n ⟨t,r⟩:=(rfl)
theorem Jnj {op:Op}:jops X xs l ds (⟨dst,op,ty,ps,af,none⟩ :: rest) K n ⟨t,r⟩=jop X xs l ⟨dst,op,ty,ps,af,none⟩ (jops X xs l ds rest K) n ⟨t,r⟩:=(rfl)
theorem Jpd {f:Operand} {args:Array Operand} {ats:Array TypeId}:jop X xs l ⟨dst,.call { callee:=.value f,args:=args,argTypes:=ats },ty,ps,af,g⟩ K n ⟨t,r⟩=Y4 X xs l ⟨dst,.call { callee:=.value f,args:=args,argTypes:=ats },ty,ps,af,g⟩ args.toList K n ⟨t,r⟩ ((St.mk t r).get f):=(rfl)
theorem jc_yld {o:Oper} {args:List Operand} {l':Nat}:Y4 X xs l o args K n ⟨t,r⟩ (.yld l')=Ur xs l l' ⟨t,r⟩ args o.dst K n:=(rfl)
theorem jc_fn {o:Oper} {args:List Operand} {f:FuncId} {is:List Nat}:Y4 X xs l o args K n ⟨t,r⟩ (.fn f is)=lop X o (K n) ⟨t,r⟩:=(rfl)
theorem jy {l':Nat} {args:List Operand}:Ur xs l l' ⟨t,r⟩ args dst K (some k)=(l'=l/\L0 xs k (K2 (args.map ((St.mk t r).freezeOps args).get)) (fun m=>K m ((((St.mk t r).freezeOps args).bare).put dst (.p (.bool true)))) (fun m=>K m ((((St.mk t r).freezeOps args).bare).put dst (.p (.bool false))))):=(rfl)
theorem jy_at {x:List PV} {a b:Option Nat->Prop}:L0 xs k (some x) a b=(xs[k]? = some x/\a (some (k+1))/\b none):=(rfl)
theorem Jgt:K2 []=some []:=(rfl)
theorem Jne {x:PV} {ls:List L}:K2 (.p x :: ls)=Jbx x (K2 ls):=by
 simp only [K2,Jbx];cases K2 ls <;> rfl
theorem Jj4 {x:PV} {ys:List PV}:Jbx x (some ys)=some (x :: ys):=(rfl)
theorem j_bare:(St.mk t r).bare=⟨t.map (L.map fun _=>none),[]⟩:=(rfl)
theorem Jg6:jret xs .normal n ⟨t,r⟩=(n=some xs.length\/n=none):=(rfl)
theorem jr_ret:jret xs .ret n ⟨t,r⟩=(n=some xs.length\/n=none):=(rfl)
theorem Je2 {ι:Type} {I:ι->Option Nat×St} {Pre:ι->Prop} {μ:ι->Nat} {x:ι}:Jdl I Pre μ x Q .normal n ⟨t,r⟩ = ∃ y,Pre y/\μ y<μ x/\n=(I y).1/\(St.mk t r).Le (I y).2:=(rfl)
theorem Jns {ι:Type} {I:ι->Option Nat×St} {Pre:ι->Prop} {μ:ι->Nat} {x:ι} {id:Nat}:Jdl I Pre μ x Q (.exit id) n ⟨t,r⟩=Q (.exit id) n ⟨t,r⟩:=(rfl)
theorem jl_ret {ι:Type} {I:ι->Option Nat×St} {Pre:ι->Prop} {μ:ι->Nat} {x:ι}:Jdl I Pre μ x Q .ret n ⟨t,r⟩=Q .ret n ⟨t,r⟩:=(rfl)
theorem Jp5 {x:Operand}:jop X xs l ⟨dst,.move x,ty,ps,af,g⟩ K n ⟨t,r⟩=lop X ⟨dst,.move x,ty,ps,af,g⟩ (K n) ⟨t,r⟩:=(rfl)
theorem Jfo {x:Operand}:jop X xs l ⟨dst,.assign x,ty,ps,af,g⟩ K n ⟨t,r⟩=lop X ⟨dst,.assign x,ty,ps,af,g⟩ (K n) ⟨t,r⟩:=(rfl)
theorem jp_bin {op:BinOp} {tx ty1:TypeId} {x y:Operand}:jop X xs l ⟨dst,.binOp op tx x y ty1,ty,ps,af,g⟩ K n ⟨t,r⟩=lop X ⟨dst,.binOp op tx x y ty1,ty,ps,af,g⟩ (K n) ⟨t,r⟩:=(rfl)
theorem jp_un {op:UnOp} {tx:TypeId} {x:Operand}:jop X xs l ⟨dst,.unOp op tx x,ty,ps,af,g⟩ K n ⟨t,r⟩=lop X ⟨dst,.unOp op tx x,ty,ps,af,g⟩ (K n) ⟨t,r⟩:=(rfl)
theorem Jp8 {tx:TypeId} {x:Operand}:jop X xs l ⟨dst,.load tx x,ty,ps,af,g⟩ K n ⟨t,r⟩=lop X ⟨dst,.load tx x,ty,ps,af,g⟩ (K n) ⟨t,r⟩:=(rfl)
theorem Ji1 {tx:TypeId} {a x:Operand}:jop X xs l ⟨dst,.store tx a x,ty,ps,af,g⟩ K n ⟨t,r⟩=lop X ⟨dst,.store tx a x,ty,ps,af,g⟩ (K n) ⟨t,r⟩:=(rfl)
theorem U3 {tx:TypeId} {x:Operand} {f:Nat}:jop X xs l ⟨dst,.fieldAddr tx x f,ty,ps,af,g⟩ K n ⟨t,r⟩=lop X ⟨dst,.fieldAddr tx x f,ty,ps,af,g⟩ (K n) ⟨t,r⟩:=(rfl)
theorem Wf {tx:TypeId} {x i:Operand}:jop X xs l ⟨dst,.indexAddr tx x i,ty,ps,af,g⟩ K n ⟨t,r⟩=lop X ⟨dst,.indexAddr tx x i,ty,ps,af,g⟩ (K n) ⟨t,r⟩:=(rfl)
theorem Jl6 {tx:TypeId} {x:Operand} {lo hi mx:Option Operand}:jop X xs l ⟨dst,.slice tx x lo hi mx,ty,ps,af,g⟩ K n ⟨t,r⟩=lop X ⟨dst,.slice tx x lo hi mx,ty,ps,af,g⟩ (K n) ⟨t,r⟩:=(rfl)
theorem Ken {bt:Builtin} {args:Array Operand} {ats:Array TypeId}:jop X xs l ⟨dst,.call { callee:=.builtin bt,args:=args,argTypes:=ats },ty,ps,af,g⟩ K n ⟨t,r⟩=lop X ⟨dst,.call { callee:=.builtin bt,args:=args,argTypes:=ats },ty,ps,af,g⟩ (K n) ⟨t,r⟩:=(rfl)
end
section
variable {X:Cx} {K:St->Prop} {t:List L} {r:Regs} {Inv:Nat->Regs->Prop} {Stop:Ex->Regs->Prop} {n k:Nat}
theorem Jh4 {id:Nat} {ops:Array Oper}:lwpA X (.region id ops false) K ⟨t,r⟩=lops X (ops.toList.map (·.dst)) ops.toList K ⟨t,r⟩:=(rfl)
theorem a_seq {a b:Code}:lwpA X (a.seq b) K ⟨t,r⟩=lwpA X a (lwpA X b K) ⟨t,r⟩:=(rfl)
theorem Jgv {rn:List (Nat×Nat)}:Vm n rn Inv Stop k .normal ⟨t,r⟩ = ∃ R,Inv (k+1) R/\(Du rn ⟨t,r⟩).Le ⟨Ba n [],R⟩:=(rfl)
theorem kr_ret {rn:List (Nat×Nat)}:Vm n rn Inv Stop k .ret ⟨t,r⟩ = ∃ R,Stop .ret R/\(Du rn ⟨t,r⟩).Le ⟨Ba n [],R⟩:=(rfl)
theorem Wk {p:Tmp} {ps:List Tmp} {x:PV} {ys:List PV}:J0w (p :: ps) (x :: ys) t=J0w ps ys (t.set p (.p x)):=(rfl)
theorem X0 {ys:List PV}:J0w [] ys t=t:=by cases ys <;> rfl
theorem Jkl:rnOf k []=[]:=(rfl)
theorem Jlf {d:Nat} {T:TypeId} {cs:List L}:rnOf k ((d,.var T cs) :: r)=(d,1000+k) :: rnOf (k+1) r:=(rfl)
theorem Jlz {d:Nat} {T:TypeId} {sz:Nat} {es:List (List PV)}:rnOf k ((d,.row T sz es) :: r)=(d,if 1000<=d/\d<500000 then 1000+k else 500000+k) :: rnOf (k+1) r:=by
 simp [rnOf,Jbk]
theorem z_fix {ρ:Ren} {d:Nat}:Mq ρ d=fixN (upId ρ d):=by
 unfold Mq fixN;cases upId ρ d <;> rfl
theorem Xv {d:Nat}:fixN (some d)=if d<500000 then some d else none:=(rfl)
end
end Go.LX
namespace Go.LX
open Go Go.RowKit
attribute [go_sem] Jp7 e_skip Jid e_seq e_cond Jpi e_loop e_exit e_ret Jng Wj Jaq Jf3 Qz Vo Z2 o_nil o_cons Jpg q_nil q_cons Joa q_kq k_put k_unit W2 s_put s_tmps s_regs s_tmp Jm9 s_func v_bool v_int v_str v_snil v_nptr v_nmap v_nifc v_nfn p_move Jl2 p_bin p_un p_conv p_pick p_nil p_load Jnh Xg Yf Jnn Jpn Jf5 Jm5 Jb7 p_len p_max p_min Jn4 p_box V7 Yp p_copy Jms p_call Jgq Jp6 p_next Jn8 Zf Ji2 Jkk p_ustr Jpz Ji3 p_cap q_move Ji7 q_bin q_un q_pick Jb4 q_load Za W3 Jp9 Jo0 Jhf q_len J6w Jmo q_usd q_call Q9 Jeg Jmu u_draw w_at0 w_atS Jje u_cond Jpt u_gsel Jlr Jie Jb5 u_pick Jgk Jfr Jho Jhz Jnt Jhd Jfg c_ptrC c_ifcC c_slcC c_ptrS u_n_pp Jm1 Jjt u_n_ii u_n_in Jnb u_n_sl Xs Xf Jp4 Jey u_kb u_knb Jem Un So Vz Vl u_shl u_shr u_add u_sub u_mul u_quo u_rem u_and u_or u_eql u_neq u_lss u_leq u_gtr u_geq u_sadd u_seql u_sneq u_slss u_sgtr u_sgeq u_neg u_not u_max u_min u_kstr Kg0 Kg8 Jzz Kd4 Kbr u_krun Kfu J0r u_cvF Jgg Jg3 Jlo u_cvR Jev Jil Jhe Jbn Vr u_conv Jb3 Zt Uu X9 My U0 Jad u_len Jgu Jjq Jgf Jfq Jnm Yb Jnd Jja Jii Kby Jh1 u_kp Jn3 Jia Kd6 Xz Jga Jl1 u_kagg Jpe u_krow Kd2 u_load Y6 Xe Jb2 Ja4 Jex Jhq Jgd J9v Je7 Jh7 Jks Jpp Jpq Joo Jol Jn6 Jps Jpf Jos Jo5 Jp1 Jgc Jnv Jfb u_larr u_laT Jk4 Jpy Jl4 Jhh Jbq Jhv Jaj Jhi Jgm u_kfn u_caps Kgo Jfv Ja9 Zm u_zok Jir Jn5 J62 u_arrC Kcz Kap Jcq Ys Kac Xj Jas Jap Jjj Jno u_kbox u_box Jjl Jkj Jic Je0 Jjc Jj3 Jox Jf8 Jmb Jmt u_kst u_kst3 u_kst2 u_kst1 Jph u_kls u_kls2 Jon u_stA Jgl Jf7 J9o Jhj Jcr Jp2 Jfm Jar Jjb Jhk Jit Jcj Jeo Jm4 u_call Jn9 Jiw Jlx Jji Jim Joq Jm7 Vj Zb Wm Sk Jo7 Vs Sr Xr Ut Uj Uq Vb Sp Jnk Jcd Ja6 u_newF Jej Ja2 Zw W6 Zd Yq Sw Sy Jpa Jj7 Jin Jfp S1 Qc Jix Jhb Jgi Xu Yu Vp Xw Jcs Jml Jef Jcb Jbt Jao Ji0 Jiu Jew Jlt u_m_p Jn0 Jmy Kfh u_m_fn Jjs Joi Jnp Jmf u_ptrO u_ownO Khd u_fnO u_ownN Jlm Xo Vd X7 V9 Jf1 Uh Sx Vh Sm Ji8 Jlp Wa Su Jgx Jpu Ji5 Jop u_next Jnx Joc u_nxS u_nxM Jpv u_enT u_enM u_muS X1 u_muF u_muT u_muR Jj9 u_mdT u_mdR Jjo u_lkT u_lkZ Jk7 Jjh Ke0 Jan J5p u_mofR Jgp Jcu Kas x_int i_int Jok u_usd Jbs Jbh Jav Jbc u_usT u_usB u_usR u_kmk u_fits Xy u_mkT u_kbs2 u_kbs Wo J9x u_boT u_bsT Jo2 Jky Jjw Jiz pp_nil Jof u_ksl u_lqbs u_qbT Jp0 Job Jmv Jhc Jm3 u_apZX u_apZR Jfy Jkp Jhp V4 Jmk Yy Ul Jh0 Jhl u_apR u_apG u_apG2 Kbv Kc3 u_alR u_alY u_alB u_alT Kcb u_copy u_cpT u_cpX u_cpY u_cpD u_cpDl Jbm Jez Joy Jfc Jh3 u_oneO u_oneN Je1 Jls u_srcR Jpm u_kr2 u_kr1 Jgr Jgh Jcf u_kres Jm0 Jb6 Yd Vq Vc u_retF u_retO Jaw u_ret3 U2 Sl Joh Jkr Jl9 Jcp Yv Yn Vg V6 Sn Jlv Jmh Jj6 Jby Zq Jbl Zp Jal Jbd Zh Jif Jkx Jio Jgo Jjg Jku Kcx Jll u_f_p Jkc Jnw Jkv Joj Jpl Jiy u_f_fn u_z_p Jjn Jnf Jlu Jom Jog Jlw Jjd Jme Kdp Jo9 Jkn Jij Kc5 u_z_fn Jgj Jgs u_id_p Jk3 Jk1 Jpk Jfa Jp3 Jbe u_pure Jnu t_nil Jn7 Jo8 y_none j_skip Jla j_seq j_cond Jpw j_loop j_exit j_ret Jht Jpj ks_ret Jff Jpc kb_ret jo_nil Jnj Jpd jc_yld jc_fn jy jy_at Jgt Jne Jj4 j_bare Jg6 jr_ret Je2 Jns jl_ret Jp5 Jfo jp_bin jp_un Jp8 Ji1 U3 Wf Jl6 Ken Jh4 a_seq Jgv kr_ret Wk X0 Jkl Jlf Jlz z_fix Xv Vy Jhr kun_n kun_e kun_r Je3 Ao Aj U7 Wd Jac Jlb Jg1 argW kloop List.map_cons List.map_nil List.getD_cons_zero List.getD_cons_succ List.length_cons List.length_nil List.cons_append List.nil_append List.append_nil List.length_map List.flatMap_cons List.flatMap_nil List.contains_cons List.contains_nil List.take_succ_cons List.take_zero List.take_nil List.drop_succ_cons List.drop_zero List.drop_nil List.set_cons_zero List.set_cons_succ List.getElem?_cons_zero List.getElem?_cons_succ List.all_cons List.all_nil decide_eq_true_eq beq_iff_eq bne_iff_ne decide_eq_false_iff_not beq_eq_false_iff_ne bne_eq_false_iff_eq Bool.not_eq_true' Bool.not_eq_eq_eq_not ne_eq Decidable.not_not Int.not_lt Int.not_le not_true_eq_false not_false_eq_true true_and and_true false_implies implies_true forall_const imp_self Int.toNat_natCast Int.natCast_nonneg Nat.zero_add Ac Bool.not_true Bool.not_false PV.agg.injEq L.p.injEq PV.bool.injEq PV.int.injEq PV.str.injEq L.tup.injEq List.cons.injEq Bool.true_eq_false Bool.false_eq_true Bool.true_and Bool.and_true Bool.false_and Bool.and_false Bool.or_false Bool.or_true Bool.false_or Bool.true_or beq_self_eq_true and_self
theorem Jqj {p q:Prop} (k:q) (h:p:=by first | omega | (simp (disch:=omega) only [Aa,Ab,Ac] at *;omega)):p/\q:=⟨h,k⟩
theorem get_go {α:Type} {l:List α} {i:Nat} {Q:α->Prop} (hq:∀ a,l[i]? = some a->Q a) (h:i<l.length:=by first | omega | (simp (disch:=omega) only [Aa,Ab,Ac] at *;omega)):∃ a,l[i]? = some a/\Q a:=Ak h hq
theorem J51 {X:Cx} {ro:Option Nat} {id:Nat} {ops:Array Oper} {Q:Ex->St->Prop} {s:St} (hm:X.P.follows .mixedOrders=true) (h:Jf X (ops.toList.map (·.dst)) ops.toList (Q .normal) s) (h0:Jd9 ops.toList=true:=by rfl) (hB:Region.lexB .any ops=true:=by kernel_rfl):SWP X ro (.region id ops true) Q s:=Ah hm h0 hB h
theorem Jqc {n:Nat} {ws ws':List (Nat×L)} {r r':Regs} (ht:wsLe n ws ws':=by simp only [Ap,Ar,Ao,Aj,Af,Nat.reduceEqDiff,reduceIte,Nat.reduceLT,Nat.reduceLeDiff];simp (disch:=omega) [Af,Ai,Au,Aa] <;> (repeat' apply And.intro) <;> omega)
  (hr:Az r r':=by simp (disch:=omega) [Az,A3,Aw,Am,Af,Ai,Au,Aa]) (hk:Ay r':=by simp [Ay]):St.Le ⟨Ba n ws,r⟩ ⟨Ba n ws',r'⟩:=Jqt ht hr hk
theorem Jvz {X:Cx} {f:FuncId} {fn:Func} {c:Code} {args:List L} {rs:Regs} {Post:L->Regs->Prop} (own:Bool) (rn:List (Nat×Nat)) (hf:X.P.funcs[f]? = some fn)
  (h:SWP X none c (Jed X.P own rn fn.results.toList (rs.map (·.1)) Post) ⟨Ba fn.ntmps (argW 0 args),rs⟩) (hrn:∀ x∈rn,x.2<1000\/500000<=x.2:=by simp) (hname:(fn.name == "runtime.NumGoroutine")=false:=by kernel_rfl) (hb:fn.body=some c:=by rfl)
  (hn:args.length<=fn.ntmps:=by exact Nat.le_of_ble_eq_true rfl) (h900:900 ∉ rs.map (·.1):=by simp):Al X f args rs Post:=Jua own rn hrn hf hname hb hn h900 h
end Go.LX
namespace Go.LX
open Go Go.Proofs
@[go_sem] theorem f_u2:Tryz.prog.underlying 2=some (.int .i64):=kr
@[go_sem] theorem f_u3:Tryz.prog.underlying 3=some (.int .i64):=kr
@[go_sem] theorem f_a3:B2 Tryz.prog 3=some false:=kr
@[go_sem] theorem f_c3:Tryz.prog.cellsOf 3=1:=kr
@[go_sem] theorem f_z3:Bu Tryz.prog 3=some [.int .i64 0]:=kr
@[go_sem] theorem f_b3:Bo Tryz.prog 3=some 8:=kr
@[go_sem] theorem f_u4:Tryz.prog.underlying 4=some (.bool):=kr
@[go_sem] theorem f_a4:B2 Tryz.prog 4=some false:=kr
@[go_sem] theorem f_c4:Tryz.prog.cellsOf 4=1:=kr
@[go_sem] theorem f_z4:Bu Tryz.prog 4=some [.bool false]:=kr
@[go_sem] theorem f_b4:Bo Tryz.prog 4=some 1:=kr
@[go_sem] theorem f_u5:Tryz.prog.underlying 5=some (.int .u8):=kr
@[go_sem] theorem f_a5:B2 Tryz.prog 5=some false:=kr
@[go_sem] theorem f_c5:Tryz.prog.cellsOf 5=1:=kr
@[go_sem] theorem f_z5:Bu Tryz.prog 5=some [.int .u8 0]:=kr
@[go_sem] theorem f_zo5:E5 Tryz.prog 5=some (.int .u8 0):=kr
@[go_sem] theorem f_b5:Bo Tryz.prog 5=some 1:=kr
@[go_sem] theorem f_u9:Tryz.prog.underlying 9=some (.string):=kr
@[go_sem] theorem f_a9:B2 Tryz.prog 9=some false:=kr
@[go_sem] theorem f_c9:Tryz.prog.cellsOf 9=1:=kr
@[go_sem] theorem f_z9:Bu Tryz.prog 9=some [.str []]:=kr
@[go_sem] theorem f_b9:Bo Tryz.prog 9=some 16:=kr
@[go_sem] theorem f_u21:Tryz.prog.underlying 21=some (.int .i32):=kr
@[go_sem] theorem f_c21:Tryz.prog.cellsOf 21=1:=kr
@[go_sem] theorem f_zo21:E5 Tryz.prog 21=some (.int .i32 0):=kr
@[go_sem] theorem f_u23:Tryz.prog.underlying 23=some (.slice 38):=kr
@[go_sem] theorem f_a23:B2 Tryz.prog 23=some false:=kr
@[go_sem] theorem f_c23:Tryz.prog.cellsOf 23=1:=kr
@[go_sem] theorem f_s23:slE Tryz.prog 23=some (38,11):=kr
@[go_sem] theorem f_z23:Bu Tryz.prog 23=some [.snil]:=kr
@[go_sem] theorem f_b23:Bo Tryz.prog 23=some 24:=kr
@[go_sem] theorem f_u25:Tryz.prog.underlying 25=some (.slice 36):=kr
@[go_sem] theorem f_a25:B2 Tryz.prog 25=some false:=kr
@[go_sem] theorem f_c25:Tryz.prog.cellsOf 25=1:=kr
@[go_sem] theorem f_s25:slE Tryz.prog 25=some (36,6):=kr
@[go_sem] theorem f_z25:Bu Tryz.prog 25=some [.snil]:=kr
@[go_sem] theorem f_zo25:E5 Tryz.prog 25=some (.snil):=kr
@[go_sem] theorem f_b25:Bo Tryz.prog 25=some 24:=kr
@[go_sem] theorem f_u33:Tryz.prog.underlying 33=some (.slice 63):=kr
@[go_sem] theorem f_a33:B2 Tryz.prog 33=some false:=kr
@[go_sem] theorem f_c33:Tryz.prog.cellsOf 33=1:=kr
@[go_sem] theorem f_s33:slE Tryz.prog 33=some (63,3):=kr
@[go_sem] theorem f_a36:B2 Tryz.prog 36=some true:=kr
@[go_sem] theorem f_c36:Tryz.prog.cellsOf 36=6:=kr
@[go_sem] theorem f_f36_0:fld Tryz.prog 36 0=some (0,3):=kr
@[go_sem] theorem f_f36_1:fld Tryz.prog 36 1=some (1,3):=kr
@[go_sem] theorem f_f36_2:fld Tryz.prog 36 2=some (2,9):=kr
@[go_sem] theorem f_f36_3:fld Tryz.prog 36 3=some (3,9):=kr
@[go_sem] theorem f_f36_4:fld Tryz.prog 36 4=some (4,4):=kr
@[go_sem] theorem f_f36_5:fld Tryz.prog 36 5=some (5,3):=kr
@[go_sem] theorem f_ff36:Ez Tryz.prog 36=true:=kr
@[go_sem] theorem f_t36:Nt Tryz.prog 36=some [.int,.int,.str,.str,.bool,.int]:=kr
@[go_sem] theorem f_z36:Bu Tryz.prog 36=some [.int .i64 0,.int .i64 0,.str [],.str [],.bool false,.int .i64 0]:=kr
@[go_sem] theorem f_b36:Bo Tryz.prog 36=some 64:=kr
@[go_sem] theorem f_a38:B2 Tryz.prog 38=some true:=kr
@[go_sem] theorem f_c38:Tryz.prog.cellsOf 38=11:=kr
@[go_sem] theorem f_f38_0:fld Tryz.prog 38 0=some (0,3):=kr
@[go_sem] theorem f_f38_1:fld Tryz.prog 38 1=some (1,3):=kr
@[go_sem] theorem f_f38_2:fld Tryz.prog 38 2=some (2,9):=kr
@[go_sem] theorem f_f38_3:fld Tryz.prog 38 3=some (3,9):=kr
@[go_sem] theorem f_f38_4:fld Tryz.prog 38 4=some (4,3):=kr
@[go_sem] theorem f_f38_5:fld Tryz.prog 38 5=some (5,36):=kr
@[go_sem] theorem f_ff38:Ez Tryz.prog 38=true:=kr
@[go_sem] theorem f_t38:Nt Tryz.prog 38=some [.int,.int,.str,.str,.int,.int,.int,.str,.str,.bool,.int]:=kr
@[go_sem] theorem f_z38:Bu Tryz.prog 38=some [.int .i64 0,.int .i64 0,.str [],.str [],.int .i64 0,.int .i64 0,.int .i64 0,.str [],.str [],.bool false,.int .i64 0]:=kr
@[go_sem] theorem f_b38:Bo Tryz.prog 38=some 120:=kr
@[go_sem] theorem f_u39:Tryz.prog.underlying 39=some (.slice 23):=kr
@[go_sem] theorem f_a39:B2 Tryz.prog 39=some false:=kr
@[go_sem] theorem f_c39:Tryz.prog.cellsOf 39=1:=kr
@[go_sem] theorem f_s39:slE Tryz.prog 39=some (23,1):=kr
@[go_sem] theorem f_z39:Bu Tryz.prog 39=some [.snil]:=kr
@[go_sem] theorem f_u53:Tryz.prog.underlying 53=some (.slice 25):=kr
@[go_sem] theorem f_a53:B2 Tryz.prog 53=some false:=kr
@[go_sem] theorem f_c53:Tryz.prog.cellsOf 53=1:=kr
@[go_sem] theorem f_s53:slE Tryz.prog 53=some (25,1):=kr
@[go_sem] theorem f_z53:Bu Tryz.prog 53=some [.snil]:=kr
@[go_sem] theorem f_ar56:arE Tryz.prog 56=some (2,33,1):=kr
@[go_sem] theorem f_u61:Tryz.prog.underlying 61=some (.slice 9):=kr
@[go_sem] theorem f_a61:B2 Tryz.prog 61=some false:=kr
@[go_sem] theorem f_c61:Tryz.prog.cellsOf 61=1:=kr
@[go_sem] theorem f_s61:slE Tryz.prog 61=some (9,1):=kr
@[go_sem] theorem f_z61:Bu Tryz.prog 61=some [.snil]:=kr
@[go_sem] theorem f_a63:B2 Tryz.prog 63=some true:=kr
@[go_sem] theorem f_c63:Tryz.prog.cellsOf 63=3:=kr
@[go_sem] theorem f_f63_0:fld Tryz.prog 63 0=some (0,4):=kr
@[go_sem] theorem f_f63_1:fld Tryz.prog 63 1=some (1,9):=kr
@[go_sem] theorem f_f63_2:fld Tryz.prog 63 2=some (2,3):=kr
@[go_sem] theorem f_ff63:Ez Tryz.prog 63=true:=kr
@[go_sem] theorem f_t63:Nt Tryz.prog 63=some [.bool,.str,.int]:=kr
@[go_sem] theorem f_z63:Bu Tryz.prog 63=some [.bool false,.str [],.int .i64 0]:=kr
@[go_sem] theorem f_b63:Bo Tryz.prog 63=some 32:=kr
@[go_sem] theorem f_s88:slE Tryz.prog 88=some (4,1):=kr
@[go_sem] theorem f_u93:Tryz.prog.underlying 93=some (.slice 21):=kr
@[go_sem] theorem f_u101:Tryz.prog.underlying 101=some (.slice 3):=kr
@[go_sem] theorem f_a101:B2 Tryz.prog 101=some false:=kr
@[go_sem] theorem f_c101:Tryz.prog.cellsOf 101=1:=kr
@[go_sem] theorem f_s101:slE Tryz.prog 101=some (3,1):=kr
@[go_sem] theorem f_z101:Bu Tryz.prog 101=some [.snil]:=kr
@[go_sem] theorem f_b101:Bo Tryz.prog 101=some 24:=kr
@[go_sem] theorem f_u103:Tryz.prog.underlying 103=some (.slice 101):=kr
@[go_sem] theorem f_s103:slE Tryz.prog 103=some (101,1):=kr
@[go_sem] theorem f_u121:Tryz.prog.underlying 121=some (.slice 5):=kr
@[go_sem] theorem f_a121:B2 Tryz.prog 121=some false:=kr
@[go_sem] theorem f_c121:Tryz.prog.cellsOf 121=1:=kr
@[go_sem] theorem f_s121:slE Tryz.prog 121=some (5,1):=kr
@[go_sem] theorem f_u123:Tryz.prog.underlying 123=some (.array 6 4):=kr
@[go_sem] theorem f_z123:Bu Tryz.prog 123=some [.bool false,.bool false,.bool false,.bool false,.bool false,.bool false]:=kr
@[go_sem] theorem f_m137:mapT Tryz.prog 137=some (9,25):=kr
@[go_sem] theorem f_u165:Tryz.prog.underlying 165=some (.int .u64):=kr
@[go_sem] theorem f_u187:Tryz.prog.underlying 187=some (.interface #[("Error",207)]):=kr
@[go_sem] theorem f_u191:Tryz.prog.underlying 191=some (.int .u64):=kr
@[go_sem] theorem f_u204:Tryz.prog.underlying 204=some (.pointer 206):=kr
@[go_sem] theorem f_a204:B2 Tryz.prog 204=some false:=kr
@[go_sem] theorem f_c204:Tryz.prog.cellsOf 204=1:=kr
@[go_sem] theorem f_c206:Tryz.prog.cellsOf 206=2:=kr
@[go_sem] theorem f_f206_0:fld Tryz.prog 206 0=some (0,204):=kr
@[go_sem] theorem f_f206_1:fld Tryz.prog 206 1=some (1,121):=kr
@[go_sem] theorem f_z206:Bu Tryz.prog 206=some [.nptr,.snil]:=kr
@[go_sem] theorem f_i206:(Tryz.prog.info? 206).isSome=true:=kr
@[go_sem] theorem f_m209:mapT Tryz.prog 209=some (21,5):=kr
@[go_sem] theorem f_u224:Tryz.prog.underlying 224=some (.int .u32):=kr
@[go_sem] theorem f_ar230:arE Tryz.prog 230=some (65,5,1):=kr
@[go_sem] theorem f_u231:Tryz.prog.underlying 231=some (.pointer 5):=kr
@[go_sem] theorem f_u233:Tryz.prog.underlying 233=some (.map 5 21):=kr
@[go_sem] theorem f_m233:mapT Tryz.prog 233=some (5,21):=kr
@[go_sem] theorem f_u236:Tryz.prog.underlying 236=some (.int .i64):=kr
@[go_sem] theorem f_u252:Tryz.prog.underlying 252=some (.unsafePointer):=kr
theorem hm:Tryz.prog.follows .mixedOrders=true:=kr
end Go.LX
namespace Go.LX
open Go Go.RowKit Go.Proofs
def Hg (rs0:Regs):Regs->Prop
 | []=>True
 | (e,_) :: rest=>(e=900\/findKey e rs0=true)/\Hg rs0 rest
theorem Lo {rs0:Regs}:∀ {R:Regs},Hg rs0 R->∀ e r,(e,r)∈R->e=900\/findKey e rs0=true
 | [],_,e,r,h=>by cases h
 | (e',q) :: R,h,e,r,hm=>by
  rcases Eaj.1 hm with hm | hm
  ·cases hm;exact h.1
  ·exact Lo h.2 e r hm
def kLe (Q:Ex->St->Prop) (e:Ex) (s:St):Prop:=∃ s2,s.Le s2/\Q e s2
theorem Kc1 {X:Cx} {ro:Option Nat} {c:Code} {Q:Ex->St->Prop} {s:St} (h:SWP X ro c (kLe Q) s):SWP X ro c Q s:=fun Γ a w hG hr =>
 wpIn_mono (h Γ a w hG hr) fun e a w hq'=>by
  cases e with
  | normal=>obtain ⟨s',⟨s2,h1,h2⟩,h3⟩:=hq';exact ⟨s2,h2,h1 _ _ _ h3⟩
  | exit id=>obtain ⟨s',⟨s2,h1,h2⟩,h3⟩:=hq';exact ⟨s2,h2,h1 _ _ _ h3⟩
  | ret=>obtain ⟨s',⟨s2,h1,h2⟩,h3⟩:=hq';exact ⟨s2,h2,h1 _ _ _ h3⟩
  | goto l=>exact hq'.elim
  | panic c=>exact hq'.elim
  | outgrown=>exact hq'.elim
theorem SWP.range {X:Cx} {ro:Option Nat} {g:Operand} {ps:Array Tmp} {assign body:Code} {Q:Ex->St->Prop} {t0:List L} {r0:Regs} {f d:Nat} {T:TypeId} {cs:List L} {pcs:List PV} (xs:List (List PV)) (n:Nat) (rn:List (Nat×Nat)) (hrn:∀ x∈rn,x.2<1000\/500000<=x.2)
  (ρ:Ren) (sl:List L) (rs0:Regs) (t1:List L) (r1:Regs) (Inv:Nat->Regs->Prop) (Stop:Ex->Regs->Prop)
  (hg:(St.mk t0 r0).get g=.fn f [d]) (hd:Am d r0=some (.var T cs)) (hp:Bg L.pure? cs=some pcs) (hi:Tb X f [.eptr pcs] xs) (hs1:Dx d (some .gone) ⟨t0,r0⟩=⟨t1,r1⟩)
  (hn:t1.length=n) (hsm:r1.length<=1000) (hps:∀ x∈xs,x.length=ps.size) (hρ:rnOf 0 r1=ρ) (hsl:t1.map (L.map (Mq ρ))=sl) (hr0:Cz ρ r1=rs0) (h0:Inv 0 rs0)
  (hkI:∀ k R,Inv k R->Hg rs0 R) (hkS:∀ x R,Stop x R->Hg rs0 R) (hSn:∀ R,¬ Stop .normal R)
  (round:∀ k x R l,xs[k]? = some x->Inv k R->lwpA X assign (fun s2=>SWP X (some l) body (Vm n rn Inv Stop k) s2) ⟨J0w ps.toList x sl,R⟩)
  (done:∀ R,Inv xs.length R->kLe Q .normal (St.after ρ (Ek none R) R ⟨t1,r1⟩))
  (stop:∀ x R,Stop x R->kLe Q x (St.after ρ (Ek none R) R ⟨t1,r1⟩)):SWP X ro (.rangeFunc g ps assign body) Q ⟨t0,r0⟩:=by
 subst hρ hsl hr0;exact Kc1 (SWP.rangeFunc xs n rn hrn Inv Stop hg hd hp hi hs1 hn hsm hps h0 (fun k R h=>Lo (hkI k R h)) (fun x R h=>Lo (hkS x R h)) hSn round done stop)
end Go.LX
