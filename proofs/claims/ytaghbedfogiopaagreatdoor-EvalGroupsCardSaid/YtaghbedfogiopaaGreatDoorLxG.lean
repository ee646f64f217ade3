/- Rows copied into rows. -/
import Derived.Test.YtaghbedfogiopaaGreatDoorLxE
set_option linter.unusedSimpArgs false
set_option linter.unusedVariables false
set_option linter.unusedSectionVars false
set_option linter.unnecessarySimpa false
namespace Go.LX
open Go Go.RowKit Go.Proofs
section
variable {P:Program} {Γ:Base} {β:Env} {w:World} {Im:Nat->Prop}
def srcM (s:St) (m:Nat):L->Option (List (List PV))
 | .own d off len=>match Am d s.regs with
  | some (.lrow _ _ _ es)=>if off+len<=es.length then Cb ((es.drop off).take (min len m)) else none
  | _=>(Gj s (.own d off len)).map (List.take m)
 | x=>(Gj s x).map (List.take m)
theorem Jfs {s:St} {m:Nat} {tmps:Array Value} (hf:Fit β w Im s tmps) {v:Value} {x:L} {es:List (List PV)} (hx:LRep β w Im v x) (hs:srcM s m x=some es) (hsz:∀ e∈es,e.length=1)
  (hsz0:∀ es0,Gj s x=some es0->∀ e∈es0,e.length=1) :
  ∃
   (ad:Option Addr) (sl c:Nat),v=.slice ad sl c/\es.length=min sl m/\(es=[]\/∃ (b o:Nat) (news:List Value),ad=some ⟨b,o,none⟩/\news.length=es.length/\(∀ (j:Nat) (u:Value),news[j]? = some u->w.cell? ⟨b,o+j,none⟩=some u)/\(∀ u∈news,u.oneCell'=true) /\
   (∀ (i:Nat) (e:List PV) (p:PV),es[i]? = some e->e[0]? = some p->∃ u,news[i]? = some u/\PRep w Im u p)/\∀ e∈es,∀ p∈e,p.scalar=true):=by
 have old:(Gj s x).map (List.take m)=some es->∃ (ad:Option Addr) (sl c:Nat),v=.slice ad sl c/\es.length=min sl m/\(es=[]\/∃ (b o:Nat) (news:List Value),ad=some ⟨b,o,none⟩/\news.length=es.length/\(∀ (j:Nat) (u:Value),news[j]? = some u->w.cell? ⟨b,o+j,none⟩=some u)/\(∀ u∈news,u.oneCell'=true) /\
   (∀ (i:Nat) (e:List PV) (p:PV),es[i]? = some e->e[0]? = some p->∃ u,news[i]? = some u/\PRep w Im u p)/\∀ e∈es,∀ p∈e,p.scalar=true):=fun h=>by
  obtain ⟨es0,h0,rfl⟩:=Eak.1 h;rcases R5 hf (by decide:(1:Nat)≠0) hx h0 (hsz0 es0 h0) with ⟨⟨oa,h1⟩,rfl⟩ | ⟨b,o,c,news,h1,h2,h3,h4,h5,h6⟩
  ·exact ⟨oa,0,0,h1,by simp,.inl sm⟩
  ·refine ⟨_,es0.length,c,h1,by rw [Eaw,Nat.min_comm],.inr ⟨b,o,news.take m,rfl,by rw [Eaw,Eaw,h2,Ecn],fun j u hu=>?_,fun u hu=>h4 u (Ebm hu),fun i e p hi hj=>?_,fun e he=>h6 e (Ebm he)⟩⟩
   ·rw [Eao] at hu;split at hu
    ·exact h3 j u hu
    ·cases hu
   ·rw [Eao] at hi ⊢;split at hi
    ·rename_i hlt;obtain ⟨u,hu,hp⟩:=h5 i e 0 p hi hj;exact ⟨u,by rw [if_pos hlt];simpa using hu,hp⟩
    ·cases hi
 unfold srcM at hs;split at hs
 ·rename_i d off len;split at hs
  ·rename_i T sz full es0 hr;split at hs
   ·rename_i hle;obtain ⟨pl,pp⟩:=Dh hs;have hlen:es.length=min len m:=by rw [<- pl,Eaw,Ea4];omega
    rcases hx with ⟨loc,cap,ad,hβ,hcap,hl,hao,rfl⟩ | ⟨hβ,rfl,rfl,rfl⟩
    ·rcases hf.regs d _ (Ax hr) with ⟨hn,_⟩ | ⟨loc',cur,hβ',hsz',hb,hcl,hle',hfu,hml,hel,hcell⟩
     ·rw [hβ] at hn;cases hn
     ·rw [hβ] at hβ';cases hβ';refine ⟨_,len,cap,rfl,hlen,?_⟩;by_cases h0:min len m=0
      ·exact .inl (Eal omg)
      have key:∀ (i:Nat) (e:List PV),es[i]? = some e->∃ p u,e=[p]/\cur[off+i]? = some u/\PRep w Im u p/\p.scalar=true/\loc.sz=1:=by
       intro i e hi;obtain ⟨e0,he0,ha⟩:=pp i e hi;have he1:es0[off+i]? = some e0:=by
        rw [Eao] at he0;split at he0
        ·simpa using he0
        ·cases he0
       obtain ⟨al,ag⟩:=Bh ha;have e1:=hsz e (Eae hi);have e2:=hel e0 (Eae he1)
       match e,e1,al,ag with
       | [p],_,al,ag =>
        obtain ⟨l,hl'⟩:=getElem?_of_length (i:=0) (b:=p) al sm;have h1:=ag 0 l p hl' rfl;obtain ⟨u,hu,hrep,hco⟩:=hcell (off+i) e0 0 l he1 hl';have s1:sz=1:=by rw [<- e2,al];rfl
        cases l <;> simp [L.pure?] at h1;subst h1;refine ⟨_,u,rfl,by simpa [s1] using hu,hrep,?_,hsz'.trans s1⟩;rcases hco with hco | hco
        ·exact hco
        ·cases hco
      have hs1:loc.sz=1:=by
       obtain ⟨e,he⟩:∃ e,es[0]? = some e:=⟨_,Eaa omg⟩
       obtain ⟨_,_,_,_,_,_,h⟩:=key 0 e he;exact h
      right;refine ⟨loc.blk,ad,(cur.drop off).take (min len m),rfl,?_,fun j u hu=>?_,fun u hu=>?_,fun i e p hi hj=>?_,fun e he p hp=>?_⟩
      ·rw [Eaw,Ea4,hcl,hlen];have:=hsz'.symm.trans hs1;rw [this];omega
      ·rw [Eao] at hu;split at hu
       ·rw [D7 hb,hao (.inl omg),hs1,Ecn];simpa using hu
       ·cases hu
      ·obtain ⟨j,hj,rfl⟩:=Ea6 hu;have hjl:j<es.length:=by simp at hj;omega
       obtain ⟨p,u,_,h2,h3,h4,_⟩:=key j _ (Eaa hjl);have:((cur.drop off).take (min len m))[j]=u:=by
        have:=(Eab.1 h2).2;simpa using this
       rw [this];exact h3.one h4
      ·obtain ⟨p',u,rfl,h2,h3,_,_⟩:=key i e hi;simp at hj;subst hj;have hi1:=(Eab.1 hi).1;exact ⟨u,by rw [Eao,if_pos omg];simpa using h2,h3⟩
      ·obtain ⟨i,hi,rfl⟩:=Ea6 he;obtain ⟨p',u,h1,_,_,h4,_⟩:=key i _ (Eaa hi);rw [h1] at hp;simp at hp;subst hp;exact h4
    ·exact ⟨none,0,0,rfl,hlen,.inl (Eal (by rw [hlen];simp))⟩
   ·cases hs
  ·exact old hs
 ·exact old hs
def N6 (s:St) (x:L):Prop:=match Gj s x with
 | some es=>∀ e∈es,e.length=1
 | none=>True
def Tv (P:Program) (t t':TypeId) (s:St) (x y:Operand) (K:St->L->Prop):Prop :=
 match slE P t with
 | some (_,sz)=>sz=1/\t=t'/\match s.get x with
  | .own d off len=>∃ es',srcM s len (s.get y)=some es'/\(∀ q∈es',q.length=1)/\N6 s (s.get y)/\if es'.length=0 then K s (.p (.int .i64 0)) else match Am d s.regs with
   | some (.row T sz' es)=>sz'=1/\off+es'.length<=es.length /\
     K { s with regs:=Bs d (.row T 1 (es.take off ++ es' ++ es.drop (off+es'.length))) s.regs } (.p (.int .i64 (es'.length:Nat)))
   | some (.lrow T sz' f es)=>sz'=1/\off+es'.length<=es.length /\
     K { s with regs:=Bs d (.lrow T 1 f (es.take off ++ es'.map (List.map L.p) ++ es.drop (off+es'.length))) s.regs } (.p (.int .i64 (es'.length:Nat)))
   | _=>False
  | _=>False
 | none=>False
theorem Z6 {s:St} {a:Act} (h:RRx Γ β Im s a.tmps w) {t t' ty:Nat} {x y:Operand} {K:St->L->Prop} (hl:Tv P t t' s x y K) :
  ∃ v w' s' l,(Builtin.copy_ #[t,t'] ty #[a.eval x,a.eval y]).run P w=.ok v w'/\RRx Γ β Im s' a.tmps w'/\LRep β w' Im v l/\K s' l:=by
 unfold Tv at hl;have rx:=A2 h.fit x;split at hl
 ·rename_i e sz hsl;obtain ⟨rfl,rfl,hl⟩:=hl;obtain ⟨ht,hcs,h0⟩:=Dw hsl;have hs1:(P.info? e).map (·.size)=some 1:=by
   unfold Program.cellsOf at hcs;cases hi:P.info? e with
   | none=>simp [hi] at hcs
   | some i=>simp [hi] at hcs;simp [hcs]
  split at hl
  ·rename_i d off len hg;obtain ⟨es',hsrc,hsz,hone,hl⟩:=hl;obtain ⟨ad,sl,c,hyv,hmn,S⟩:=Jfs h.fit (A2 h.fit y) hsrc hsz (fun es0 h0=>by unfold N6 at hone;rw [h0] at hone;exact hone);rw [hg] at rx;have hxv:∃ ad c,a.eval x=.slice ad len c:=by
    rcases rx with ⟨loc,cap,o,_,_,_,_,hv⟩ | ⟨_,_,rfl,hv⟩
    ·exact ⟨_,_,hv⟩
    ·exact ⟨_,_,hv⟩
   split at hl
   ·rename_i hm;obtain ⟨ad2,c2,hxv⟩:=hxv;exact ⟨_,w,s,.p (.int .i64 0),by rw [hxv,hyv];exact run_copy_none w t t ty e ad2 ad len c2 sl c ht hs1 (by show min sl len=0;omega),h,PRep.int _ _,hl⟩
   ·rename_i hm;generalize hmm:es'.length=m at *
    rcases S with rfl | ⟨bk,o2,news,rfl,hnl,hncell,hn1,hn2,hn3⟩
    ·simp at hmm;omega
    have hcn:news.length=m:=hnl;have hcc:news.length=Nat.min sl len:=by rw [hcn];exact hmn
    have main:∀ (loc:Loc) (cur:List Value) (T:TypeId),β d=some loc->loc.sz=1->w.heap[loc.blk]? = some (.cells ⟨cur⟩ T (0,0))->off+m<=cur.length ->
      (Builtin.copy_ #[t,t] ty #[a.eval x,a.eval y]).run P w=.ok (goInt m) (w.setRow loc.blk (cur.take off ++ news ++ cur.drop (off+m)).toArray):=by
     intro loc cur T hβ hlz hbk hfit;rcases rx with ⟨loc',cap,o,hβ',hcap,hlc,ho,hv⟩ | ⟨hn,_⟩
     ·rw [hβ] at hβ';cases hβ';have ho':o=off:=by rw [ho (.inl omg),hlz,Ecn]
      subst ho';rw [hv,hyv];have:=run_copy_row P w t t ty e loc.blk o len cap ⟨bk,o2,none⟩ sl c ⟨cur⟩ T (news) ht hs1 hbk hcc (fun j v hj=>by rw [Cd];exact hncell j v hj) (by rw [hcn];exact hfit) hn1;rw [hcn] at this;exact this
     ·rw [hβ] at hn;cases hn
    split at hl
    ·rename_i T sz' es hr;obtain ⟨rfl,hle,hK⟩:=hl;have hmem:=Ax hr;rcases h.fit.regs d _ hmem with ⟨_,rfl⟩ | ⟨loc,cur,hβ,hlz,hbk,hcl,hle',hml,hel,hcell⟩
     ·simp at hle;omega
     have hfit:off+m<=cur.length:=by rw [hcl];omega
     have hk:Keeps w Im (w.setRow loc.blk (cur.take off ++ news ++ cur.drop (off+m)).toArray) Im :=
      ⟨fun _ h=>h,fun b hb'=>B6 _ _ _ _ fun e=>(h.fit.live d _ loc hmem hβ).2 (e ▸ hb')⟩
     have hm2:es'.length=m:=hmm;refine ⟨_,_,{ s with regs:=Bs d (.row T 1 (es.take off ++ es' ++ es.drop (off+m))) s.regs },.p (.int .i64 m),main loc cur T hβ hlz hbk hfit,h.store hmem hβ rfl rfl rfl (by simp [World.setRow]) (fun k hk=>B6 _ _ _ _ hk) (.inr ?_),PRep.int _ _,hK⟩;refine ⟨loc,_,hβ,hlz,setRow_heap w loc.blk _ _ _ _ hbk,by have:=Bz cur (news) off (by rw [hcn];exact hfit);rw [hcn] at this;rw [this];exact hcl,by have:=Bz es es' off (by rw [hm2];exact hle);rw [hm2] at this;rw [this];exact hle',hml,fun x hx=>?_,fun i q j p hi hj=>?_⟩
     ·rcases Eau.1 hx with hx | hx
      ·rcases Eau.1 hx with hx | hx
       ·exact hel x (Ebm hx)
       ·exact ⟨hsz x hx,hn3 x hx⟩
      ·exact hel x (Ea7 hx)
     ·have A:=getElem?_splice es es' off i (by rw [hm2];exact hle);have B:=getElem?_splice cur (news) off (i * 1+j) (by rw [hcn];exact hfit);rw [hm2] at A;rw [hcn] at B;rw [A] at hi;rw [B];by_cases g1:i<off
      ·rw [if_pos g1] at hi;have hj0:j=0:=by have:=(hel q (Eae hi)).1;have:=(Eab.1 hj).1;omega
       subst hj0;rw [if_pos omg];obtain ⟨u,hu,hp⟩:=hcell i q 0 p hi hj;exact ⟨u,hu,hp.mono hk⟩
      ·rw [if_neg g1] at hi;by_cases g2:i<off+m
       ·rw [if_pos g2] at hi;have hj0:j=0:=by have:=hsz q (Eae hi);have:=(Eab.1 hj).1;omega
        subst hj0;rw [if_neg omg,if_pos omg];obtain ⟨u,hu,hp⟩:=hn2 _ q p hi hj;exact ⟨u,by rw [<- hu];congr 1;omega,hp.mono hk⟩
       ·rw [if_neg g2] at hi;have hj0:j=0:=by have:=(hel q (Eae hi)).1;have:=(Eab.1 hj).1;omega
        subst hj0;rw [if_neg omg,if_neg omg];obtain ⟨u,hu,hp⟩:=hcell i q 0 p hi hj;exact ⟨u,hu,hp.mono hk⟩
    ·rename_i T sz' f es hr;obtain ⟨rfl,hle,hK⟩:=hl;have hmem:=Ax hr;rcases h.fit.regs d _ hmem with ⟨_,rfl⟩ | ⟨loc,cur,hβ,hlz,hbk,hcl,hle',hfu,hml,hel,hcell⟩
     ·simp at hle;omega
     have hfit:off+m<=cur.length:=by rw [hcl];omega
     have hk:Keeps w Im (w.setRow loc.blk (cur.take off ++ news ++ cur.drop (off+m)).toArray) Im :=
      ⟨fun _ h=>h,fun b hb'=>B6 _ _ _ _ fun e=>(h.fit.live d _ loc hmem hβ).2 (e ▸ hb')⟩
     have hm2:(es'.map (List.map L.p)).length=m:=by rw [Ea9];exact hmm
     have hsl2:=Bz es (es'.map (List.map L.p)) off (by rw [hm2];exact hle);rw [hm2] at hsl2;refine ⟨_,_,{ s with regs:=Bs d (.lrow T 1 f (es.take off ++ es'.map (List.map L.p) ++ es.drop (off+m))) s.regs },.p (.int .i64 m),main loc cur T hβ hlz hbk hfit,h.store hmem hβ rfl rfl rfl (by simp [World.setRow]) (fun k hk=>B6 _ _ _ _ hk) (.inr ?_),PRep.int _ _,hK⟩;refine ⟨loc,_,hβ,hlz,setRow_heap w loc.blk _ _ _ _ hbk,by have:=Bz cur (news) off (by rw [hcn];exact hfit);rw [hcn] at this;rw [this];exact hcl,by rw [hsl2];exact hle',fun hf=>by rw [hsl2];exact hfu hf,hml,fun x hx=>?_,fun i q j p hi hj=>?_⟩
     ·rcases Eau.1 hx with hx | hx
      ·rcases Eau.1 hx with hx | hx
       ·exact hel x (Ebm hx)
       ·obtain ⟨q,hq,rfl⟩:=Eap.1 hx;rw [Ea9];exact hsz q hq
      ·exact hel x (Ea7 hx)
     ·have A:=getElem?_splice es (es'.map (List.map L.p)) off i (by rw [hm2];exact hle);have B:=getElem?_splice cur (news) off (i * 1+j) (by rw [hcn];exact hfit);rw [hm2] at A;rw [hcn] at B;rw [A] at hi;rw [B];by_cases g1:i<off
      ·rw [if_pos g1] at hi;have hj0:j=0:=by have:=hel q (Eae hi);have:=(Eab.1 hj).1;omega
       subst hj0;rw [if_pos omg];obtain ⟨u,hu,hp,hco⟩:=hcell i q 0 p hi hj;exact ⟨u,hu,hp.mono' hk,hco⟩
      ·rw [if_neg g1] at hi;by_cases g2:i<off+m
       ·rw [if_pos g2] at hi;rw [Eam] at hi;obtain ⟨q0,hi0,rfl⟩:=Eak.1 hi;rw [Eam] at hj;obtain ⟨p0,hj0',rfl⟩:=Eak.1 hj;have hj0:j=0:=by have:=hsz q0 (Eae hi0);have:=(Eab.1 hj0').1;omega
        subst hj0;rw [if_neg omg,if_pos omg];obtain ⟨u,hu,hp⟩:=hn2 _ q0 p0 hi0 hj0';exact ⟨u,by rw [<- hu];congr 1;omega,PRep.mono hk hp,.inl (hn3 q0 (Eae hi0) p0 (Eae hj0'))⟩
       ·rw [if_neg g2] at hi;have hj0:j=0:=by have:=hel q (Eae hi);have:=(Eab.1 hj).1;omega
        subst hj0;rw [if_neg omg,if_neg omg];obtain ⟨u,hu,hp,hco⟩:=hcell i q 0 p hi hj;exact ⟨u,hu,hp.mono' hk,hco⟩
    ·exact hl.elim
  ·exact hl.elim
 ·exact hl.elim
end
end Go.LX
namespace Go.LX
open Go Go.RowKit
variable {P:Program} {Γ:Base} {β:Env} {w:World} {Im:Nat->Prop}
theorem LRep.one {v:Value} {l:L} (h:LRep β w Im v l) (hc:l.cellOK=true):v.oneCell'=true:=by
 cases l with
 | p x=>exact PRep.one h hc
 | ptr d i j=>obtain ⟨loc,_,rfl⟩:=h;rfl
 | own d off len=>rcases h with ⟨loc,cap,o,_,_,_,_,rfl⟩ | ⟨_,_,_,rfl⟩ <;> rfl
 | eptr cs=>obtain ⟨b,o,_,rfl,_⟩:=h;rfl
 | fn f ds=>obtain ⟨vs,rfl,_⟩:=h;rfl
 | cfn f ds=>obtain ⟨vs,rfl,_⟩:=h;rfl
 | yld l=>cases h;rfl
 | tup xs=>cases hc
 | mref d=>obtain ⟨loc,_,rfl⟩:=h;rfl
 | junk=>cases hc
theorem Kcg {v:Value} (h:v.oneCell'=true):v.cells = #[v]:=by cases v <;> simp_all [Value.oneCell',Value.cells]
def Jvk (d:Nat) (es:List (List L)):Bool:=es.all fun e=>e.all fun l=>!l.mentions d
theorem J9e {d:Nat} {es:List (List L)} (h:Jvk d es=true) {e:List L} (he:e∈es) {l:L} (hl:l∈e):l.mentions d=false:=by
 have:=Ebw.1 (Ebw.1 h e he) l hl;simpa using this
def Jvj (P:Program) (d t:Nat) (s:St) (parts:List (Nat×Operand)) (K:St->Prop):Prop :=
 d<1000/\match parts with
 | [(0,y)]=>∃ e,slE P t=some (e,1)/\(∃ zs,Bu P e=some zs/\zs.length=1)/\(s.get y).cellOK=true/\(s.get y).mentions d=false/\K ((s.newReg d (.lrow e 1 false [[s.get y]])).put (some d) (.own d 0 1))
 | _=>False
theorem J05 {s:St} {a:Act} (h:RRx Γ β Im s a.tmps w) {d t n:Nat} {parts:List (Nat×Operand)} (hn:n=parts.length) {K:St->Prop} (hl:Jvj P d t s parts K) :
  Lb Γ a d ((Instr.buildSlice t n ⟨parts.map fun (i,x)=>(i,a.eval x)⟩).run P w) K:=by
 obtain ⟨hd,hl⟩:=hl;split at hl
 ·rename_i y;obtain ⟨e,hsl,⟨zs,hz,hzl⟩,hc,hm,hK⟩:=hl;obtain ⟨ht,hcs,h0⟩:=Dw hsl;obtain ⟨zv,hzrun,_,hzlen,_,_⟩:=D0 hz;have hzs:zv.cells.size=1:=by rw [<- hzl,<- hzlen];simp
  have hy:=A2 h.fit y;have h1:=hy.one hc;have hcell:=Kcg h1;subst hn;have g:=Grow.alloc (w:=w) (Im:=Im) h.fit.im (.cells ⟨[a.eval y]⟩ e);have hsz:w.heap.size<(w.alloc (.cells ⟨[a.eval y]⟩ e)).heap.size:=by simp
  have hb:=heap_alloc_new w (.cells ⟨[a.eval y]⟩ e);have r1:=h.newReg hd (r:=.lrow e 1 false [[s.get y]]) (x:=some ⟨w.heap.size,1,1⟩) g (fun loc hl=>by cases hl;exact ⟨Eai _,hsz⟩)
   (.inr ⟨_,[a.eval y],B4,rfl,hb,rfl,Eai _,fun h=>(by cases h),(by show 1<=maxLen;unfold maxLen;omega),fun q hq=>by simp at hq;subst hq;rfl,fun i q j l hi hj=>by
    cases i with
    | zero =>
     simp at hi;subst hi;cases j with
     | zero =>
      simp at hj;subst hj;exact ⟨_,rfl,hy.mono (g.keeps h.fit.im) (fun x hx=>Oa (fun e'=>by rw [e',hm] at hx;cases hx)),.inl hc⟩
     | succ j=>simp at hj
    | succ i=>simp at hi⟩)
  refine ⟨.slice (some ⟨w.heap.size,0,none⟩) 1 1,_,_,Im,_,_,?_,r1,(show LRep _ _ _ _ (L.own d 0 1) from Or.inl ⟨_,1,0,B4,rfl,Eai _,by simp,rfl⟩),hK⟩;have hr:((Array.range (1 * 1)).map fun x=>zv.cells[x % zv.cells.size]!) = #[zv.cells[0]!]:=by
   rw [hzs,show Array.range (1 * 1) = #[0] from by decide];simp
  simp only [Instr.buildSlice,List.length_singleton,Sem.run_bind,run_underlying ht,Result.andThen_ok,Bk hcs h0,Sem.run_ite,if_neg (by decide:¬ 1 * 1 > 2 ^ 24),Sem.run_pure,if_neg (by decide:¬ 1 * 1=0),hzrun,hr,Eat,Eb5,Instr.fill,hcell];show (newRow e _ >>= fun (ad:Addr)=>(pure (Value.slice (some ad) 1 1):Sem Value)).run P w=_;simp [Go.newRow,run_newObj]
 ·exact hl.elim
def Jxb (P:Program) (d t:Nat) (s:St) (x y:Operand) (K:St->Prop):Prop :=
 d
  < 1000/\∃ e b,slE P t=some (e,1)/\(∃ zs,Bu P e=some zs/\zs.length=1)/\Bo P e=some b/\match s.get y with
  | .own d1 0 m=>match Am d1 s.regs with
   | some (.lrow T1 1 _ es')=>T1=e/\es'.length=m/\0<m/\(es'.all fun q=>q.all L.cellOK)=true/\Jvk d es'=true/\match s.get x with
    | .p .snil=>m * b<=140737488355328/\m<=9223372036854775807/\K ((s.newReg d (.lrow e 1 false es')).put (some d) (.own d 0 m))
    | .own d0 0 n=>match Am d0 s.regs with
     | some (.lrow T0 1 _ es)=>T0=e/\es.length=n/\Jvk d es=true/\(n+m) * b<=140737488355328/\n+m<=9223372036854775807/\K (((s.forget d0).newReg d (.lrow e 1 false (es ++ es'))).put (some d) (.own d 0 (n+m)))
     | _=>False
    | _=>False
   | _=>False
  | _=>False
theorem J4d {s:St} {a:Act} (h:RRx Γ β Im s a.tmps w) {d n:Nat} {e:TypeId} {fu:Bool} {es:List (List L)} {v:Value} (hr:Am d s.regs=some (.lrow e 1 fu es)) (hv:LRep β w Im v (.own d 0 n)) (hn:es.length=n) :
  ∃
   xs,w.ownsRow 0 e 1 v n xs/\xs.length=n/\(∀ (i:Nat) (q:List L),es[i]? = some q->∃ l u,q=[l]/\xs[i]? = some u/\LRep β w Im u l/\(l.cellOK=true\/l=.junk)) /\
   (∀ k,v.ownBlock=some k->∃ loc,β d=some loc/\loc.blk=k)/\((v=.slice none 0 0/\n=0)\/∃ bk cap,v=.slice (some ⟨bk,0,none⟩) n cap/\∀ (j:Nat) (u:Value),xs[j]? = some u->w.cell? ⟨bk,0+j,none⟩=some u):=by
 have hmem:=Ax hr;rcases h.fit.regs d _ hmem with ⟨hb,rfl⟩ | ⟨loc,cur,hβ,hls,hbk,hcl,hle,_,hml,hel,hcell⟩
 ·rcases hv with ⟨loc,cap,o,hβ,_⟩ | ⟨_,_,hn0,rfl⟩
  ·rw [hβ] at hb;cases hb
  ·exact ⟨[],by subst hn0;exact World.ownsRow_nil _ _ _ _,by rw [hn0];rfl,by simp,fun k hk=>by simp [Value.ownBlock] at hk,.inl ⟨rfl,hn0⟩⟩
 ·rcases hv with ⟨loc',cap,o,hβ',hcap,hlc,ho,rfl⟩ | ⟨hb,_⟩
  ·rw [hβ] at hβ';cases hβ';rw [Ebk] at hcap;subst hcap;have ho0:o=0:=by rw [ho (.inr rfl),Ecs]
   subst ho0;rw [Ecn] at hcl;have hxl:(cur.take n).length=n:=by rw [Eaw];omega
   refine ⟨cur.take n,⟨by rw [Ecn];exact hxl,.inr ⟨loc.blk,loc.tot,⟨cur⟩,rfl,Eav _,hbk,hlc,hml,by simpa using hcl,by simp⟩⟩,hxl,fun i q hi=>?_,fun k hk=>⟨loc,hβ,by simpa [Value.ownBlock] using hk⟩,.inr ⟨loc.blk,loc.tot,rfl,fun j u hu=>?_⟩⟩
   ·have hq:=hel q (Eae hi);have hin:=(Eab.1 hi).1;obtain ⟨l,rfl⟩:∃ l,q=[l]:=by
     cases q with
     | nil=>simp at hq
     | cons l r=>cases r with
      | nil=>exact ⟨l,rfl⟩
      | cons=>simp at hq
    obtain ⟨u,hu,hl,hc⟩:=hcell i _ 0 l hi rfl;rw [Ecn,Nat.add_zero] at hu;exact ⟨l,u,rfl,by rw [Eao,if_pos omg];exact hu,hl,hc⟩
   ·rw [Eao] at hu;split at hu
    ·rw [Ebk,cell_of_row w loc.blk j ⟨cur⟩ e (0,0) hbk];simpa using hu
    ·cases hu
  ·rw [hβ] at hb;cases hb
theorem J3n {d:Nat} {e:TypeId} {es:List (List L)} {w':World} {v:Value} {zs:List Value} {n base:Nat} (hn:es.length=n) (how:w'.ownsRow base e 1 v n zs) (haw:Jvk d es=true)
  (hc:∀ (i:Nat) (q:List L),es[i]? = some q->∃ l u,q=[l]/\zs[i]? = some u/\LRep β w' Im u l/\(l.cellOK=true\/l=.junk)) :
  ∃ x:Option Loc,Ci (Jqu β d x) w' Im d (.lrow e 1 false es)/\LRep (Jqu β d x) w' Im v (.own d 0 n)/\(∀ loc,x=some loc->v.ownBlock=some loc.blk/\loc.blk<w'.heap.size):=by
 have hlt:=how.lt;obtain ⟨hl,how⟩:=how;rcases how with ⟨rfl,hz⟩ | ⟨g,cap,cur,rfl,hbase,hb,hnc,hcm,hcs,htake⟩
 ·have e1:es=[]:=Eal omg;subst e1;simp only [List.length_nil] at hn;exact ⟨none,.inl ⟨B4,rfl⟩,.inr ⟨B4,rfl,hn.symm,rfl⟩,fun loc h=>by cases h⟩
 ·refine ⟨some ⟨g,1,cap⟩,.inr ⟨_,cur.toList,B4,rfl,by simpa using hb,by simpa using hcs,(by show es.length<=cap;omega),fun h=>(by cases h),hcm,fun q hq=>?_,fun i q j l hi hj=>?_⟩,.inl ⟨_,cap,0,B4,by simp,hnc,by simp,rfl⟩,fun loc h=>by cases h;exact ⟨rfl,(hlt g rfl).2⟩⟩
  ·obtain ⟨i,hi⟩:=Ebt hq;obtain ⟨l,u,rfl,_⟩:=hc i q hi;rfl
  ·obtain ⟨l',u,rfl,hu,hr,ho⟩:=hc i q hi;cases j with
   | succ j=>simp at hj
   | zero =>
    simp at hj;subst hj;refine ⟨u,?_,hr.mono ⟨fun _ h=>h,fun _ _=>rfl⟩ fun x hx=>Oa fun e=>?_,ho⟩
    ·rw [<- htake,Eao] at hu;split at hu
     ·rw [Ecn,Nat.add_zero];exact hu
     ·cases hu
    ·have:=J9e haw (Eae hi) (Eay.2 rfl);rw [e,this] at hx;cases hx
theorem J2u {s:St} {a:Act} (h:RRx Γ β Im s a.tmps w) {d t ty:Nat} {x y:Operand} {K:St->Prop} (hl:Jxb P d t s x y K) :
  Lb Γ a d ((Builtin.append_ #[t,t] ty #[a.eval x,a.eval y]).run P w) K:=by
 obtain ⟨hd,e,b,hsl,⟨zs,hz,hzl⟩,hb,hl⟩:=hl;obtain ⟨ht,hcs,h0⟩:=Dw hsl;obtain ⟨zv,hzrun,⟨inf,hinf,hzi⟩,hzlen,hzrep,hzsc⟩:=D0 hz;have hinf2:inf.size=1:=by simpa [Program.cellsOf,hinf] using hcs
 have hinf3:inf.bytes=b:=by simpa [Bo,hinf] using hb
 have hzsz:zv.cells.size=1:=by rw [<- hzl,<- hzlen];simp
 have ry:=A2 h.fit y;have rx:=A2 h.fit x;split at hl
 ·rename_i d1 m hgy;split at hl
  ·rename_i T1 fu es' hry;obtain ⟨rfl,hem,hm0,hok,haw,hl⟩:=hl;rw [hgy] at ry;obtain ⟨ys,hyo,hyl,hyc,_,hyv⟩:=J4d h hry ry hem;rcases hyv with ⟨_,hm⟩ | ⟨bk,c,hyv,hncell⟩
   ·omega
   have hn1:∀ u∈ys,u.oneCell'=true:=by
    intro u hu;obtain ⟨i,hi⟩:=Ebt hu;have hil:=(Eab.1 hi).1;have hq:es'[i]? = some es'[i]:=Eaa omg;obtain ⟨l,u',hql,hu',hr,_⟩:=hyc i _ hq;rw [hi] at hu';cases hu';refine hr.one ?_;have:=Ebw.1 (Ebw.1 hok _ (Eae hq)) l (by rw [hql];exact Eay.2 rfl);exact this
   have src:Src P w t t T1 1 b (a.eval y) m ys:=by
    rw [hyv];exact Src.cells hsl hinf hzi hinf2 hinf3 hzsz (by rw [hyl,Ecn]) hncell hn1
   split at hl
   ·rename_i hgx;obtain ⟨hbytes,h63,hK⟩:=hl;rw [hgx] at rx;have hvx:a.eval x=.slice none 0 0:=by generalize a.eval x=v at rx;cases rx;rfl
    have h63':0+m<=maxLen:=by unfold maxLen;omega
    have how0:w.ownsRow w.heap.size T1 1 (a.eval x) 0 []:=by rw [hvx];exact World.ownsRow_nil _ _ _ _
    obtain ⟨v',w',hrun,how',hgr⟩:=src.own w.heap.size ty (a.eval x) 0 [] how0 (Eai _) h63' (by rw [Ebk];exact hbytes);rw [Ebk,List.nil_append] at how';have hg:Grow w Im w' Im:=by
     refine ⟨hgr.os,hgr.tape,hgr.output,hgr.size,fun k hk=>hgr.block k hk fun e=>?_,fun _ h=>h,fun _ h=>.inl h,fun b' hb'=>Ebd (h.fit.im b' hb') hgr.size⟩;rw [hvx] at e;simp [Value.ownBlock] at e
    obtain ⟨x',k1,k2,k3⟩:=J3n (β:=β) (Im:=Im) (d:=d) hem how' haw fun i q hi=>by
     obtain ⟨l,u,e1,e2,e3,e4⟩:=hyc i q hi;exact ⟨l,u,e1,e2,e3.mono' (hg.keeps h.fit.im),e4⟩
    have:=h.newReg hd hg (fun loc hl=>⟨(how'.lt _ (k3 loc hl).1).1,(k3 loc hl).2⟩) k1;exact ⟨_,w',_,Im,_,_,hrun,this,k2,hK⟩
   ·rename_i d0 n hgx;split at hl
    ·rename_i T0 fu0 es hrx;obtain ⟨rfl,hen,haw0,hbytes,h63,hK⟩:=hl;rw [hgx] at rx;obtain ⟨xs,how,hxl,hxc,hloc,_⟩:=J4d h hrx rx hen;have hmem:=Ax hrx;have h63':n+m<=maxLen:=by unfold maxLen;omega
     obtain ⟨v',w',hrun,how',hgr⟩:=src.own 0 ty (a.eval x) n xs how (Eav _) h63' hbytes;have hk:Keeps w Im w' Im:=⟨fun _ h=>h,fun b hb'=>hgr.block b (h.fit.im b hb') fun e=>by
      obtain ⟨loc,hβ,rfl⟩:=hloc b e.symm;exact (h.fit.live d0 _ loc hmem hβ).2 hb'⟩
     have haw2:Jvk d (es ++ es')=true:=by
      unfold Jvk at haw haw0 ⊢;rw [List.all_append,haw0,haw];rfl
     obtain ⟨x',k1,k2,k3⟩:=J3n (β:=β) (Im:=Im) (d:=d) (es:=es ++ es') (by rw [Eac,hen,hem]) how' haw2 fun i q hi=>by
      by_cases hlt:i<es.length
      ·rw [Eaq hlt] at hi;obtain ⟨l,u,e1,e2,e3,e4⟩:=hxc i q hi;exact ⟨l,u,e1,by rw [Eaq omg];exact e2,e3.mono' hk,e4⟩
      ·rw [Ean omg] at hi;obtain ⟨l,u,e1,e2,e3,e4⟩:=hyc _ q hi;exact ⟨l,u,e1,by rw [Ean omg,hxl,<- hen];exact e2,e3.mono' hk,e4⟩
     have:=h.replace hd hmem (w':=w') (x:=x') hgr.os hgr.tape hgr.output hgr.size (fun k hk' hne=>hgr.block k hk' fun e=>by
       obtain ⟨loc,hβ,hb'⟩:=hloc k e.symm;exact hne loc hβ hb'.symm)
      (fun loc hl=>⟨(k3 loc hl).2,(src.blk ty _ n xs v' w' how h63' hbytes hrun _ (k3 loc hl).1).imp id fun h'=>hloc _ h'⟩) k1
     exact ⟨_,w',_,Im,_,_,hrun,this,k2,hK⟩
    ·exact hl.elim
   ·exact hl.elim
  ·exact hl.elim
 ·exact hl.elim
end Go.LX
