/- Operations that make or write memory. -/
import Derived.Test.YtpaiiekgdgjjnaaGreatDoorLxC
set_option linter.unusedSimpArgs false
set_option linter.unusedVariables false
set_option linter.unusedSectionVars false
set_option linter.unnecessarySimpa false
namespace Go.LX
open Go Go.RowKit
def B3:L→Option (List L)
 | .p (.agg ps)=>some (ps.map .p)
 | .tup _=>none
 | .junk=>none
 | l=>some [l]
def Bo (P:Program) (t:TypeId):Option Nat:=(P.info? t).map (·.bytes)
def St.freezeOps (s:St):List Operand→St
 | []=>s
 | x :: xs=>match s.get x with
  | .own d _ _=>if d<1000 then (s.freeze d).freezeOps xs else s.freezeOps xs
  | .mref d=>if d<1000 then (s.freeze d).freezeOps xs else s.freezeOps xs
  | _=>s.freezeOps xs
def Nv (P:Program) (t:TypeId) (s:St) (a x:Operand) (K:St→Prop):Prop :=
 match s.get a with
 | .ptr d i j=>match Am d s.regs with
  | some (.var T cs)=>∃ xs,B3 (s.get x)=some xs∧i=0∧xs.length=P.cellsOf t∧P.cellsOf t≠0∧j+xs.length≤cs.length ∧
    K { s with regs:=Bs d (.var T (cs.take j ++ xs ++ cs.drop (j+xs.length))) s.regs }
  | some (.row T sz es)=>∃ xs,B3 ((s.freezeOps [x]).get x)=some xs∧∃ ps,Bg L.pure? xs=some ps∧∃ e,es[i]? = some e∧ps.length=P.cellsOf t∧P.cellsOf t≠0∧j+ps.length≤e.length ∧
    Am d (s.freezeOps [x]).regs=some (.row T sz es)∧(s.freezeOps [x]).get a=.ptr d i j ∧
    K { (s.freezeOps [x]) with regs:=Bs d (.row T sz (es.set i (e.take j ++ ps ++ e.drop (j+ps.length)))) (s.freezeOps [x]).regs }
  | some (.lrow T sz f es)=>∃ xs,B3 (s.get x)=some xs∧∃ e,es[i]? = some e∧xs.length=P.cellsOf t∧P.cellsOf t≠0∧j+xs.length≤e.length ∧
    K { s with regs:=Bs d (.lrow T sz f (es.set i (e.take j ++ xs ++ e.drop (j+xs.length)))) s.regs }
  | some (.obj _)=>False
  | none=>False
 | _=>False
theorem Ft {β:Env} {w:World} {Im:Nat→Prop} {v:Value} {l:L} {xs:List L} (h:LRep β w Im v l) (hx:B3 l=some xs) :
  v.cells.toList.length=xs.length∧(∀ (i:Nat) (u:Value) (x:L),v.cells.toList[i]? = some u→xs[i]? = some x→LRep β w Im u x)∧(∀ x∈xs,x.cellOK=true)∧∀ u∈v.cells.toList,u.oneCell'=true:=by
 have single:∀ (v:Value) (l:L),LRep β w Im v l→l.cellOK=true→v.cells = #[v]→v.oneCell'=true →
   v.cells.toList.length=[l].length∧(∀ (i:Nat) (u:Value) (x:L),v.cells.toList[i]? = some u→[l][i]? = some x→LRep β w Im u x)∧(∀ x∈[l],x.cellOK=true)∧∀ u∈v.cells.toList,u.oneCell'=true:=by
  intro v l h hc hv h1;rw [hv];refine ⟨rfl,fun i u x hu hx=>?_,fun x hx=>by simp at hx;rw [hx];exact hc,fun u hu=>by simp at hu;rw [hu];exact h1⟩;cases i with
  | zero=>simp at hu hx;subst hu;subst hx;exact h
  | succ i=>simp at hu
 cases l with
 | p x =>
  cases x with
  | agg ps =>
   simp only [B3] at hx;cases hx;cases h with
   | agg cs _ hl hs hp =>
   refine ⟨by simpa [Value.cells] using hl,fun i u x hu hx=>?_,fun x hx=>?_,fun u hu=>?_⟩
   ·rw [List.getElem?_map] at hx;obtain ⟨p,hp',rfl⟩:=Option.map_eq_some_iff.1 hx;exact hp i u p hu hp'
   ·obtain ⟨p,hp',rfl⟩:=List.mem_map.1 hx;exact hs p hp'
   ·simp only [Value.cells] at hu;obtain ⟨i,hi,rfl⟩:=List.getElem_of_mem hu;have hip:i<ps.length:=by rw [← hl];exact hi
    exact (hp i _ _ (List.getElem?_eq_getElem hi) (List.getElem?_eq_getElem hip)).one (hs _ (List.getElem_mem hip))
  | _ =>
   simp only [B3] at hx;cases hx;exact single v _ h rfl (PRep.cells_scalar h rfl) (PRep.one h rfl)
 | ptr d i j =>
  simp only [B3] at hx;cases hx;have h':=h;obtain ⟨loc,_,rfl⟩:=h';exact single _ _ h rfl rfl rfl
 | own d off len =>
  simp only [B3] at hx;cases hx;have h':=h;rcases h' with ⟨loc,cap,o,_,_,_,_,rfl⟩ | ⟨_,_,_,rfl⟩
  ·exact single _ _ h rfl rfl rfl
  ·exact single _ _ h rfl rfl rfl
 | cfn f ds =>
  simp only [B3] at hx;cases hx;have h':=h;obtain ⟨vs,rfl,_⟩:=h';exact single _ _ h rfl rfl rfl
 | yld l =>
  simp only [B3] at hx;cases hx;have h':=h;cases h';exact single _ _ h rfl rfl rfl
 | mref d =>
  simp only [B3] at hx;cases hx;have h':=h;obtain ⟨loc,_,rfl⟩:=h';exact single _ _ h rfl rfl rfl
 | eptr cs =>
  simp only [B3] at hx;cases hx;have h':=h;obtain ⟨b,o,_,rfl,_⟩:=h';exact single _ _ h rfl rfl rfl
 | fn f ds =>
  simp only [B3] at hx;cases hx;have h':=h;obtain ⟨vs,rfl,_⟩:=h';exact single _ _ h rfl rfl rfl
 | tup xs=>simp [B3] at hx
 | junk=>simp [B3] at hx
theorem RRx.freezeOps {Γ:Base} {β:Env} {tmps:Array Value} {w:World}:∀ (xs:List Operand) {s:St} {Im:Nat→Prop},RRx Γ β Im s tmps w→∃ Im',RRx Γ β Im' (s.freezeOps xs) tmps w
 | [],s,Im,h=>⟨Im,h⟩
 | x :: xs,s,Im,h=>by
  simp only [St.freezeOps];split
  ·rename_i d _ _ _;split
   ·obtain ⟨Im',h'⟩:=h.freeze d;exact RRx.freezeOps xs h'
   ·exact RRx.freezeOps xs h
  ·rename_i d _;split
   ·obtain ⟨Im',h'⟩:=h.freeze d;exact RRx.freezeOps xs h'
   ·exact RRx.freezeOps xs h
  ·exact RRx.freezeOps xs h
section
variable {P:Program} {Γ:Base} {β:Env} {w:World} {Im:Nat→Prop}
theorem B6 (w:World) (g k:Nat) (cs:Array Value) (h:k≠g):(w.setRow g cs).heap[k]? = w.heap[k]? :=
 setRow_other w g k cs omg
theorem F5 {t:TypeId} {b o:Nat} {T:TypeId} {cur:List Value} {v:Value} (hb:w.heap[b]? = some (.cells ⟨cur⟩ T (0,0))) (hn:v.cells.toList.length=P.cellsOf t) (h0:P.cellsOf t≠0) (hle:o+v.cells.toList.length≤cur.length)
  (h1:∀ u∈v.cells.toList,u.oneCell'=true):(storeVar t ⟨b,o,none⟩ v).run P w=.ok () (w.setRow b ⟨cur.take o ++ v.cells.toList ++ cur.drop (o+v.cells.toList.length)⟩):=by
 have hs:=run_storeCells_at P b o T v.cells.toList 0 ⟨cur⟩ w hb (by simpa using hle) h1;simp only [Nat.add_zero] at hs;have hsz:v.cells.size=P.cellsOf t:=by simpa using hn
 simp only [storeVar,Sem.run_bind,Bk (P:=P) (t:=t) rfl h0,Result.andThen_ok,hsz,ne_eq,not_true_eq_false,if_false,hs]
theorem getElem?_splice {α:Type} (cs xs:List α) (j i:Nat) (h:j+xs.length≤cs.length):(cs.take j ++ xs ++ cs.drop (j+xs.length))[i]? = if i<j then cs[i]? else if i<j+xs.length then xs[i - j]? else cs[i]?:=by
 have hl:(cs.take j).length=j:=by rw [List.length_take];exact Nat.min_eq_left omg
 by_cases h1:i<j
 ·rw [if_pos h1,List.append_assoc,List.getElem?_append_left omg,List.getElem?_take,if_pos h1]
 ·rw [if_neg h1,List.append_assoc,List.getElem?_append_right omg,hl];by_cases h2:i<j+xs.length
  ·rw [if_pos h2,List.getElem?_append_left omg]
  ·rw [if_neg h2,List.getElem?_append_right omg,List.getElem?_drop];congr 1;omega
theorem Bz {α:Type} (cs xs:List α) (j:Nat) (h:j+xs.length≤cs.length):(cs.take j ++ xs ++ cs.drop (j+xs.length)).length=cs.length:=by
 simp;omega
theorem Uo {s:St} {a:Act} (h:RRx Γ β Im s a.tmps w) {t:TypeId} {x y:Operand} {K:St→Prop} (hl:Nv P t s x y K) :
  ∃ w' s' Im',(Instr.storeAt t (a.eval x) (a.eval y)).run P w=.ok () w'∧K s'∧RRx Γ β Im' s' a.tmps w':=by
 unfold Nv at hl;have hx:=A2 h.fit x;split at hl
 ·rename_i d i j hg;rw [hg] at hx;obtain ⟨loc,hβ,hv⟩:=hx;split at hl
  ·rename_i T cs hr;obtain ⟨xs,hxs,rfl,hn,h0,hle,hK⟩:=hl;have hmem:=Ax hr;obtain ⟨loc',cur,hβ',hsz,htot,hb,hlen,hcell⟩:=h.fit.regs d _ hmem;rw [hβ] at hβ';cases hβ';obtain ⟨c1,c2,c3,c4⟩:=Ft (A2 h.fit y) hxs;have hrun:=F5 (P:=P) (t:=t) (o:=j) hb (c1.trans hn) h0 (by rw [c1,hlen];exact hle) c4;refine ⟨w.setRow loc.blk ⟨cur.take j ++ (a.eval y).cells.toList ++ cur.drop (j+(a.eval y).cells.toList.length)⟩,_,Im,?_,hK,h.store hmem hβ rfl rfl rfl (by simp [World.setRow]) (fun k hk=>B6 _ _ _ _ hk) ?_⟩
   ·simp only [Instr.storeAt,hv,Instr.sureAddr,Sem.run_bind,Sem.run_pure,Result.andThen_ok,Nat.zero_mul,Nat.zero_add,hrun]
   ·have hk:Keeps w Im (w.setRow loc.blk ⟨cur.take j ++ (a.eval y).cells.toList ++ cur.drop (j+(a.eval y).cells.toList.length)⟩) Im :=
     ⟨fun _ h=>h,fun b hb'=>B6 _ _ _ _ fun e=>(h.fit.live d _ loc hmem hβ).2 (e ▸ hb')⟩
    refine ⟨loc,_,hβ,by rw [Bz _ _ _ hle];exact hsz,htot,setRow_heap w loc.blk _ _ _ _ hb,by rw [Bz _ _ _ (by rw [c1,hlen];exact hle),Bz _ _ _ hle];exact hlen,fun k u l hu hl'=>?_⟩;rw [getElem?_splice _ _ _ _ (by rw [c1,hlen];exact hle)] at hu;rw [getElem?_splice _ _ _ _ hle] at hl';rw [c1] at hu;by_cases g1:k<j
    ·rw [if_pos g1] at hu hl';exact ⟨(hcell k u l hu hl').1.mono' hk,(hcell k u l hu hl').2⟩
    ·rw [if_neg g1] at hu hl';by_cases g2:k<j+xs.length
     ·rw [if_pos g2] at hu hl';exact ⟨(c2 _ u l hu hl').mono' hk,.inl (c3 l (List.mem_of_getElem? hl'))⟩
     ·rw [if_neg g2] at hu hl';exact ⟨(hcell k u l hu hl').1.mono' hk,(hcell k u l hu hl').2⟩
  ·rename_i T sz es hr;obtain ⟨xs,hxs,ps,hps,e,he,hn,h0,hle,hr',hg',hK⟩:=hl;obtain ⟨Im',h'⟩:=RRx.freezeOps (s:=s) [y] h;have hmem:=Ax hr';obtain ⟨c1,c2,c3,c4⟩:=Ft (A2 h'.fit y) hxs;obtain ⟨hpl,hps'⟩:=Bh hps;rcases h'.fit.regs d _ hmem with ⟨_,rfl⟩ | ⟨loc',cur,hβ',hsz,hb,hcl,hle',hml,hel,hcell⟩
   ·simp at he
   ·rw [hβ] at hβ';cases hβ';have hem:=hel e (List.mem_of_getElem? he);have hie:=(List.getElem?_eq_some_iff.1 he).1;have hc1:(a.eval y).cells.toList.length=ps.length:=by rw [c1,hpl]
    have hin:i * sz+j+ps.length≤cur.length:=by
     obtain ⟨v,hv,_⟩:=hcell i e (j+ps.length - 1) _ he (List.getElem?_eq_getElem omg);have:=(List.getElem?_eq_some_iff.1 hv).1;omega
    have hrun:=F5 (P:=P) (t:=t) (o:=i * loc.sz+j) hb (hc1.trans hn) h0 (by rw [hc1,hsz];exact hin) c4;refine ⟨w.setRow loc.blk ⟨cur.take (i * loc.sz+j) ++ (a.eval y).cells.toList ++ cur.drop (i * loc.sz+j+(a.eval y).cells.toList.length)⟩,_,Im',?_,hK,h'.store hmem hβ rfl rfl rfl (by simp [World.setRow]) (fun k hk=>B6 _ _ _ _ hk) (.inr ?_)⟩
    ·simp only [Instr.storeAt,hv,Instr.sureAddr,Sem.run_bind,Sem.run_pure,Result.andThen_ok,hrun]
    ·rw [hsz];have hk:Keeps w Im' (w.setRow loc.blk ⟨cur.take (i * sz+j) ++ (a.eval y).cells.toList ++ cur.drop (i * sz+j+(a.eval y).cells.toList.length)⟩) Im' :=
      ⟨fun _ h=>h,fun b hb'=>B6 _ _ _ _ fun e=>(h'.fit.live d _ loc hmem hβ).2 (e ▸ hb')⟩
     have hpsc:∀ p∈ps,p.scalar=true:=by
      intro p hp;obtain ⟨k,hk',rfl⟩:=List.getElem_of_mem hp;obtain ⟨l,hl'⟩:=getElem?_of_length hpl (List.getElem?_eq_getElem hk');have h1:=hps' k l _ hl' (List.getElem?_eq_getElem hk');cases l <;> simp [L.pure?] at h1;have:=c3 _ (List.mem_of_getElem? hl');subst h1;exact this
     refine ⟨loc,_,hβ,hsz,setRow_heap w loc.blk _ _ _ _ hb,by rw [Bz _ _ _ (by rw [hc1];exact hin)];exact hcl,by simpa using hle',hml,fun x hx=>?_,fun i' e' j' p hi' hj'=>?_⟩
     ·rcases List.mem_or_eq_of_mem_set hx with hx | rfl
      ·exact hel x hx
      ·refine ⟨by rw [Bz _ _ _ hle];exact hem.1,fun p hp=>?_⟩;rcases List.mem_append.1 hp with hp | hp
       ·rcases List.mem_append.1 hp with hp | hp
        ·exact hem.2 p (List.mem_of_mem_take hp)
        ·exact hpsc p hp
       ·exact hem.2 p (List.mem_of_mem_drop hp)
     ·rw [List.getElem?_set] at hi';have hne:i'≠i→∀ q,q<sz→¬ (i * sz+j≤i' * sz+q∧i' * sz+q<i * sz+j+ps.length):=by
       intro hne q hq;have hj1:j+ps.length≤sz:=by rw [← hem.1];exact hle
       rcases Nat.lt_or_gt_of_ne hne with hlt | hgt
       ·have:(i'+1) * sz≤i * sz:=Nat.mul_le_mul_right _ hlt;rw [Nat.add_mul] at this;omega
       ·have:(i+1) * sz≤i' * sz:=Nat.mul_le_mul_right _ hgt;rw [Nat.add_mul] at this;omega
      by_cases hii:i=i'
      ·subst hii;rw [if_pos rfl,if_pos hie] at hi';cases hi';rw [getElem?_splice _ _ _ _ hle] at hj';rw [getElem?_splice _ _ _ _ (by rw [hc1];exact hin),hc1];rw [hc1] at hk;by_cases g1:j'<j
       ·rw [if_pos g1] at hj';rw [if_pos omg];obtain ⟨u,hu,hp⟩:=hcell i e j' p he hj';exact ⟨u,hu,hp.mono hk⟩
       ·rw [if_neg g1] at hj';by_cases g2:j'<j+ps.length
        ·rw [if_pos g2] at hj';rw [if_neg omg,if_pos omg];obtain ⟨l,hl'⟩:=getElem?_of_length hpl hj';obtain ⟨u,hu⟩:=getElem?_of_length hc1 hj';refine ⟨u,by rw [← hu];congr 1;omega,?_⟩;have h1:=hps' _ l p hl' hj';cases l <;> simp [L.pure?] at h1;subst h1;exact PRep.mono hk (c2 _ u _ hu hl')
        ·rw [if_neg g2] at hj';rw [if_neg omg,if_neg omg];obtain ⟨u,hu,hp⟩:=hcell i e j' p he hj';exact ⟨u,hu,hp.mono hk⟩
      ·rw [if_neg hii] at hi';obtain ⟨u,hu,hp⟩:=hcell i' e' j' p hi' hj';have hq:j'<sz:=by rw [← (hel e' (List.mem_of_getElem? hi')).1];exact (List.getElem?_eq_some_iff.1 hj').1
       have:=hne (Ne.symm hii) j' hq;refine ⟨u,?_,hp.mono hk⟩;rw [getElem?_splice _ _ _ _ (by rw [hc1];exact hin),hc1];by_cases g1:i' * sz+j'<i * sz+j
       ·rw [if_pos g1];exact hu
       ·rw [if_neg g1,if_neg omg];exact hu
  ·rename_i T sz f es hr;obtain ⟨xs,hxs,e,he,hn,h0,hle,hK⟩:=hl;have hmem:=Ax hr;obtain ⟨c1,c2,c3,c4⟩:=Ft (A2 h.fit y) hxs;rcases h.fit.regs d _ hmem with ⟨_,rfl⟩ | ⟨loc',cur,hβ',hsz,hb,hcl,hle',hfu,hml,hel,hcell⟩
   ·simp at he
   ·rw [hβ] at hβ';cases hβ';have hem:=hel e (List.mem_of_getElem? he);have hie:=(List.getElem?_eq_some_iff.1 he).1;have hin:i * sz+j+xs.length≤cur.length:=by
     obtain ⟨v,hv,_⟩:=hcell i e (j+xs.length - 1) _ he (List.getElem?_eq_getElem omg);have:=(List.getElem?_eq_some_iff.1 hv).1;omega
    have hrun:=F5 (P:=P) (t:=t) (o:=i * loc.sz+j) hb (c1.trans hn) h0 (by rw [c1,hsz];exact hin) c4;refine ⟨w.setRow loc.blk ⟨cur.take (i * loc.sz+j) ++ (a.eval y).cells.toList ++ cur.drop (i * loc.sz+j+(a.eval y).cells.toList.length)⟩,_,Im,?_,hK,h.store hmem hβ rfl rfl rfl (by simp [World.setRow]) (fun k hk=>B6 _ _ _ _ hk) (.inr ?_)⟩
    ·simp only [Instr.storeAt,hv,Instr.sureAddr,Sem.run_bind,Sem.run_pure,Result.andThen_ok,hrun]
    ·rw [hsz];have hk:Keeps w Im (w.setRow loc.blk ⟨cur.take (i * sz+j) ++ (a.eval y).cells.toList ++ cur.drop (i * sz+j+(a.eval y).cells.toList.length)⟩) Im :=
      ⟨fun _ h=>h,fun b hb'=>B6 _ _ _ _ fun e=>(h.fit.live d _ loc hmem hβ).2 (e ▸ hb')⟩
     refine ⟨loc,_,hβ,hsz,setRow_heap w loc.blk _ _ _ _ hb,by rw [Bz _ _ _ (by rw [c1];exact hin)];exact hcl,by simpa using hle',by simpa using hfu,hml,fun x hx=>?_,fun i' e' j' p hi' hj'=>?_⟩
     ·rcases List.mem_or_eq_of_mem_set hx with hx | rfl
      ·exact hel x hx
      ·rw [Bz _ _ _ hle];exact hem
     ·rw [List.getElem?_set] at hi';have hne:i'≠i→∀ q,q<sz→¬ (i * sz+j≤i' * sz+q∧i' * sz+q<i * sz+j+xs.length):=by
       intro hne q hq;have hj1:j+xs.length≤sz:=by rw [← hem];exact hle
       rcases Nat.lt_or_gt_of_ne hne with hlt | hgt
       ·have:(i'+1) * sz≤i * sz:=Nat.mul_le_mul_right _ hlt;rw [Nat.add_mul] at this;omega
       ·have:(i+1) * sz≤i' * sz:=Nat.mul_le_mul_right _ hgt;rw [Nat.add_mul] at this;omega
      by_cases hii:i=i'
      ·subst hii;rw [if_pos rfl,if_pos hie] at hi';cases hi';rw [getElem?_splice _ _ _ _ hle] at hj';rw [getElem?_splice _ _ _ _ (by rw [c1];exact hin),c1];rw [c1] at hk;by_cases g1:j'<j
       ·rw [if_pos g1] at hj';rw [if_pos omg];obtain ⟨u,hu,hp,hco⟩:=hcell i e j' p he hj';exact ⟨u,hu,hp.mono' hk,hco⟩
       ·rw [if_neg g1] at hj';by_cases g2:j'<j+xs.length
        ·rw [if_pos g2] at hj';rw [if_neg omg,if_pos omg];obtain ⟨u,hu⟩:=getElem?_of_length c1 hj';exact ⟨u,by rw [← hu];congr 1;omega,(c2 _ u _ hu hj').mono' hk,.inl (c3 _ (List.mem_of_getElem? hj'))⟩
        ·rw [if_neg g2] at hj';rw [if_neg omg,if_neg omg];obtain ⟨u,hu,hp,hco⟩:=hcell i e j' p he hj';exact ⟨u,hu,hp.mono' hk,hco⟩
      ·rw [if_neg hii] at hi';obtain ⟨u,hu,hp,hco⟩:=hcell i' e' j' p hi' hj';have hq:j'<sz:=by rw [← hel e' (List.mem_of_getElem? hi')];exact (List.getElem?_eq_some_iff.1 hj').1
       have:=hne (Ne.symm hii) j' hq;refine ⟨u,?_,hp.mono' hk,hco⟩;rw [getElem?_splice _ _ _ _ (by rw [c1];exact hin),c1];by_cases g1:i' * sz+j'<i * sz+j
       ·rw [if_pos g1];exact hu
       ·rw [if_neg g1,if_neg omg];exact hu
  ·exact hl.elim
  ·exact hl.elim
 ·exact hl.elim
end
section
variable {P:Program} {Γ:Base} {β:Env} {w:World} {Im:Nat→Prop}
def Lb (Γ:Base) (a:Act) (d:Tmp) (r:Result Value) (K:St→Prop):Prop :=
 ∃ v w' β' Im' s' l,r=.ok v w'∧RRx Γ β' Im' s' a.tmps w'∧LRep β' w' Im' v l∧K (s'.put (some d) l)
theorem Grow.alloc (him:∀ b,Im b→b<w.heap.size) (o:Obj):Grow w Im (w.alloc o) Im where
 os:=rfl
 tape:=rfl
 output:=rfl
 size:=by simp
 block k hk:=Below.heap_alloc w o k hk
 im _ h:=h
 new _ h:=.inl h
 lt b h:=by have:=him b h;simp;omega
theorem Grow.drew (him:∀ b,Im b→b<w.heap.size):Grow w Im w.drew Im :=
 ⟨rfl,rfl,rfl,Nat.le_refl _,fun _ _=>rfl,fun _ h=>h,fun _ h=>.inl h,him⟩
theorem Grow.trans {w1 w2:World} {Im1 Im2:Nat→Prop} (h:Grow w Im w1 Im1) (k:Grow w1 Im1 w2 Im2):Grow w Im w2 Im2 :=
 ⟨k.os.trans h.os,k.tape.trans h.tape,k.output.trans h.output,Nat.le_trans h.size k.size,fun i hi=>(k.block i (Nat.lt_of_lt_of_le hi h.size)).trans (h.block i hi),fun b hb=>k.im b (h.im b hb),
  fun b hb=>(k.new b hb).elim (h.new b) fun h'=>.inr (Nat.le_trans h.size h'),k.lt⟩
theorem RRx.newVar {s:St} {tmps:Array Value} (h:RRx Γ β Im s tmps w) {d:Nat} (hd:d<1000) {T:TypeId} {cur:List Value} {cs:List L} (hl:cur.length=cs.length)
  (hr:∀ (j:Nat) (v:Value) (l:L),cur[j]? = some v→cs[j]? = some l→LRep β w Im v l) (hc:∀ l∈cs,l.cellOK=true) :
  RRx Γ (Jqs β d (some ⟨w.heap.size,cs.length,1⟩)) Im (s.newReg d (.var T (cs.map (L.forget d)))) tmps (w.alloc (.cells ⟨cur⟩ T)) ∧
   LRep (Jqs β d (some ⟨w.heap.size,cs.length,1⟩)) (w.alloc (.cells ⟨cur⟩ T)) Im (.pointer (some ⟨w.heap.size,0,none⟩)) (.ptr d 0 0):=by
 have g:=Grow.alloc (w:=w) h.fit.im (.cells ⟨cur⟩ T);refine ⟨h.newReg hd g (fun loc hl=>by cases hl;exact ⟨Nat.le_refl _,by simp⟩) ?_,⟨_,B4,by simp⟩⟩;refine ⟨⟨w.heap.size,cs.length,1⟩,cur,B4,by simp,rfl,heap_alloc_new w _,by simpa using hl,fun j v l hv hl'=>?_⟩;rw [List.getElem?_map] at hl';obtain ⟨l',hl2,rfl⟩:=Option.map_eq_some_iff.1 hl';exact ⟨((hr j v l' hv hl2).mono' (g.keeps h.fit.im)).forget fun e he=>Oa he,J4 d l' (.inl (hc l' (List.mem_of_getElem? hl2)))⟩
def Wg (P:Program) (d:Nat) (T:TypeId) (s:St) (K:St→Prop):Prop :=
 d<1000∧∃ zs,Bu P T=some zs∧K ((s.newReg d (.var T (zs.map .p))).put (some d) (.ptr d 0 0))
theorem Wu (d:Nat) (zs:List PV):(zs.map L.p).map (L.forget d)=zs.map L.p:=by
 rw [List.map_map];apply List.map_congr_left;intro p _;simp [L.forget,L.mentions]
theorem Wi {s:St} {a:Act} (h:RRx Γ β Im s a.tmps w) {d:Nat} {T:TypeId} {K:St→Prop} (hl:Wg P d T s K):Lb Γ a d ((Instr.alloc T true (.tuple #[])).run P w) K:=by
 obtain ⟨hd,zs,hz,hK⟩:=hl;obtain ⟨zv,hrun,_,hlen,hrep,hsc⟩:=D0 hz;obtain ⟨h1,h2⟩:=h.newVar hd (T:=T) (cur:=zv.cells.toList) (cs:=zs.map .p) (by simpa using hlen) (fun j v l hv hl=>by
  rw [List.getElem?_map] at hl;obtain ⟨p,hp,rfl⟩:=Option.map_eq_some_iff.1 hl;exact hrep w Im j v p hv hp) (fun l hl=>by
  obtain ⟨p,hp,rfl⟩:=List.mem_map.1 hl;exact hsc p hp)
 rw [Wu] at h1;exact ⟨_,_,_,Im,_,_,by simp [Instr.alloc,hrun,newVar,newRow],h1,h2,hK⟩
def lbox (d:Nat) (T:TypeId) (s:St) (x:Operand) (K:St→Prop):Prop :=
 d<1000∧∃ xs,B3 (s.get x)=some xs∧K ((s.newReg d (.var T (xs.map (L.forget d)))).put (some d) (.ptr d 0 0))
theorem Jat {s:St} {a:Act} (h:RRx Γ β Im s a.tmps w) {d:Nat} {T:TypeId} {x:Operand} {K:St→Prop} (hl:lbox d T s x K):Lb Γ a d ((Instr.box T (a.eval x)).run P w) K:=by
 obtain ⟨hd,xs,hx,hK⟩:=hl;obtain ⟨c1,c2,c3,c4⟩:=Ft (A2 h.fit x) hx;obtain ⟨h1,h2⟩:=h.newVar hd (T:=T) (cur:=(a.eval x).cells.toList) (cs:=xs) c1 c2 c3;exact ⟨_,_,_,Im,_,_,by simp [Instr.box,newVar,newRow],h1,h2,hK⟩
theorem RRx.newRow {s:St} {tmps:Array Value} (h:RRx Γ β Im s tmps w) {d:Nat} (hd:d<1000) {T:TypeId} {sz tot:Nat} {cur:List Value} {es:List (List PV)} {w':World}
  (g:Grow w Im w' Im) (hsz:w.heap.size<w'.heap.size) (hb:w'.heap[w.heap.size]? = some (.cells ⟨cur⟩ T (0,0))) (hc:cur.length=tot * sz) (hle:es.length≤tot) (hml:tot≤maxLen) (hel:∀ e∈es,e.length=sz∧∀ p∈e,p.scalar=true)
  (hr:∀ (i:Nat) (e:List PV) (j:Nat) (p:PV),es[i]? = some e→e[j]? = some p→∃ v,cur[i * sz+j]? = some v∧PRep w Im v p) :
  RRx Γ (Jqs β d (some ⟨w.heap.size,sz,tot⟩)) Im (s.newReg d (.row T sz es)) tmps w' ∧
   LRep (Jqs β d (some ⟨w.heap.size,sz,tot⟩)) w' Im (.slice (some ⟨w.heap.size,0,none⟩) es.length tot) (.own d 0 es.length):=by
 refine ⟨h.newReg hd g (fun loc hl=>by cases hl;exact ⟨Nat.le_refl _,hsz⟩) (.inr ?_),.inl ⟨_,tot,0,B4,by simp,hle,by simp,rfl⟩⟩;exact ⟨_,cur,B4,rfl,hb,hc,hle,hml,hel,fun i e j p hi hj=>by
  obtain ⟨v,hv,hp⟩:=hr i e j p hi hj;exact ⟨v,hv,hp.mono (g.keeps h.fit.im)⟩⟩
def Jt:Nat→List (Nat×L)→Bool
 | _,[]=>true
 | k,(i,_) :: r=>i == k && Jt (k+1) r
def Dn (sz:Nat):List (Nat×L)→Option (List (List PV))
 | []=>some []
 | (_,x) :: r=>match B3 x with
  | some xs=>match Bg L.pure? xs with
   | some ps=>if ps.length=sz then match Dn sz r with
    | some es=>some (ps :: es)
    | none=>none else none
   | none=>none
  | none=>none
def Fo (P:Program) (d:Nat) (t:TypeId) (n:Nat) (s:St) (parts:List (Nat×Operand)) (K:St→Prop):Prop :=
 d<1000∧n≤16777216∧match slE P t with
 | some (e,sz)=>n * sz≤16777216∧(∃ zs,Bu P e=some zs∧zs.length=sz)∧parts.length=n∧Jt 0 (parts.map fun (i,x)=>(i,(s.freezeOps (parts.map (·.2))).get x))=true ∧
   ∃ es,Dn sz (parts.map fun (i,x)=>(i,(s.freezeOps (parts.map (·.2))).get x))=some es ∧
   K (((s.freezeOps (parts.map (·.2))).newReg d (.row e sz es)).put (some d) (.own d 0 n))
 | none=>False
theorem Oh {sz:Nat}:∀ (parts:List (Nat×Value)) (ls:List (Nat×L)) (k:Nat) (cs:List Value) (es:List (List PV)),parts.length=ls.length →
  (∀ (i:Nat) (u:Nat×Value) (x:Nat×L),parts[i]? = some u→ls[i]? = some x→u.1=x.1∧LRep β w Im u.2 x.2)→Jt k ls=true→Dn sz ls=some es→(k+parts.length) * sz≤cs.length →
  ∃
   news,Instr.fill (fun i=>some (i * sz,sz)) ⟨cs⟩ parts=some ⟨cs.take (k * sz) ++ news ++ cs.drop (k * sz+news.length)⟩∧es.length=parts.length∧news.length=parts.length * sz∧(∀ e∈es,e.length=sz∧∀ p∈e,p.scalar=true) ∧
   ∀ (i:Nat) (e:List PV) (j:Nat) (p:PV),es[i]? = some e→e[j]? = some p→∃ v,news[i * sz+j]? = some v∧PRep w Im v p
 | [],ls,k,cs,es,hl,_,_,hp,_=>by
  cases ls with
  | nil =>
   simp [Dn] at hp;subst hp;exact ⟨[],by simp [Instr.fill],rfl,by simp,by simp,by simp⟩
  | cons=>simp at hl
 | (i,v) :: parts,ls,k,cs,es,hl,hrep,hix,hp,hle=>by
  cases ls with
  | nil=>simp at hl
  | cons x ls =>
  obtain ⟨i',x⟩:=x;obtain ⟨e1,e2⟩:=hrep 0 _ _ rfl rfl;simp only at e1 e2;subst e1;simp only [Jt,Bool.and_eq_true,beq_iff_eq] at hix;obtain ⟨rfl,hix⟩:=hix;simp only [Dn] at hp;split at hp <;> first | (cases hp;done) | skip
  rename_i xs hxs;split at hp <;> first | (cases hp;done) | skip
  rename_i ps hps;split at hp <;> first | (cases hp;done) | skip
  rename_i hpl;split at hp <;> first | (cases hp;done) | skip
  rename_i es' hes';cases hp;obtain ⟨c1,c2,c3,c4⟩:=Ft e2 hxs;obtain ⟨q1,q2⟩:=Bh hps;have hvl:v.cells.toList.length=sz:=by rw [c1,q1,hpl]
  simp only [List.length_cons] at hle hl;rw [← Nat.add_assoc,Nat.add_right_comm,Nat.add_mul,Nat.add_mul,Nat.one_mul] at hle;have hrow:∀ (j:Nat) (p:PV),ps[j]? = some p→∃ u,v.cells.toList[j]? = some u∧PRep w Im u p∧p.scalar=true:=by
   intro j p hj;obtain ⟨l,hl'⟩:=getElem?_of_length q1 hj;obtain ⟨u,hu⟩:=getElem?_of_length c1 hl';have h1:=q2 j l p hl' hj;cases l <;> simp [L.pure?] at h1;subst h1;exact ⟨u,hu,c2 j u _ hu hl',c3 _ (List.mem_of_getElem? hl')⟩
  have hl1:(cs.take (i * sz) ++ v.cells.toList ++ cs.drop (i * sz+v.cells.toList.length)).length=cs.length:=Bz _ _ _ omg;obtain ⟨news,h1,h2,h3,h4,h5⟩:=Oh parts ls (i+1) (cs.take (i * sz) ++ v.cells.toList ++ cs.drop (i * sz+v.cells.toList.length)) es' omg (fun j u x hu hx=>hrep (j+1) u x (by simpa using hu) (by simpa using hx)) hix hes'
   (by rw [hl1,Nat.add_mul,Nat.add_mul,Nat.one_mul];omega)
  refine ⟨v.cells.toList ++ news,?_,by simp [h2],by simp [h3,hvl,Nat.add_mul];omega,fun e he=>?_,fun i' e j p hi' hj=>?_⟩
  ·simp only [Instr.fill];refine (if_neg (by simp [← Array.length_toList,hvl];omega)).trans ?_;have hf0:=Ns (i * sz) v.cells.toList 0 cs omg;simp only [Nat.add_zero] at hf0;have e3:Array.foldl (fun (cs:Array Value) (x:Value×Nat)=>cs.setIfInBounds (i * sz+x.2) x.1) (⟨cs⟩:Array Value) v.cells.zipIdx=⟨cs.take (i * sz) ++ v.cells.toList ++ cs.drop (i * sz+v.cells.toList.length)⟩:=by
    rw [← Array.foldl_toList,Array.toList_zipIdx];exact hf0
   refine (congrArg (fun x=>Instr.fill (fun i=>some (i * sz,sz)) x parts) e3).trans (h1.trans ?_);congr 2;apply List.ext_getElem?;intro q;have hA:i * sz+v.cells.toList.length≤cs.length:=by omega
   have hn:(i+1) * sz+news.length≤cs.length:=by rw [h3,Nat.add_mul,Nat.one_mul];omega
   rw [getElem?_splice _ news ((i+1) * sz) q (by rw [hl1];exact hn),getElem?_splice cs (v.cells.toList ++ news) (i * sz) q (by simp only [List.length_append];rw [Nat.add_mul,Nat.one_mul] at hn;omega),getElem?_splice cs _ (i * sz) q hA];rw [Nat.add_mul,Nat.one_mul] at hn ⊢;simp only [List.length_append,hvl];by_cases g1:q<i * sz
   ·rw [if_pos omg,if_pos g1,if_pos g1]
   ·by_cases g2:q<i * sz+sz
    ·rw [if_pos g2,if_neg g1,if_pos g2,if_neg g1,if_pos omg,List.getElem?_append_left omg]
    ·by_cases g3:q<i * sz+sz+news.length
     ·have g4:q<i * sz+(sz+news.length):=by omega
      simp only [g1,g2,g3,g4,if_true,if_false];rw [List.getElem?_append_right omg];congr 1;omega
     ·have g4:¬ q<i * sz+(sz+news.length):=by omega
      simp only [g1,g2,g3,g4,if_false]
  ·rcases List.mem_cons.1 he with rfl | he
   ·refine ⟨hpl,fun p hp=>?_⟩;obtain ⟨j,hj,rfl⟩:=List.getElem_of_mem hp;obtain ⟨u,_,_,h⟩:=hrow j _ (List.getElem?_eq_getElem hj);exact h
   ·exact h4 e he
  ·cases i' with
   | zero =>
    simp at hi';subst hi';obtain ⟨u,hu,hp,_⟩:=hrow j p hj;have:=(List.getElem?_eq_some_iff.1 hu).1;exact ⟨u,by rw [Nat.zero_mul,Nat.zero_add,List.getElem?_append_left this];exact hu,hp⟩
   | succ i' =>
    simp at hi';obtain ⟨u,hu,hp⟩:=h5 i' e j p hi' hj;refine ⟨u,?_,hp⟩;rw [Nat.add_mul,Nat.one_mul,List.getElem?_append_right omg,hvl,← hu];congr 1;omega
theorem Mw {s:St} {a:Act} (h:RRx Γ β Im s a.tmps w) {d t n:Nat} {parts:List (Nat×Operand)} {K:St→Prop} (hl:Fo P d t n s parts K) :
  Lb Γ a d ((Instr.buildSlice t n ⟨parts.map fun (i,x)=>(i,a.eval x)⟩).run P w) K:=by
 obtain ⟨hd,hn,hl⟩:=hl;split at hl
 ·rename_i e sz hsl;obtain ⟨hnsz,⟨zs,hz,hzl⟩,hpn,hix,es,hes,hK⟩:=hl;obtain ⟨ht,hcs,h0⟩:=Dw hsl;obtain ⟨zv,hzrun,_,hzlen,_,_⟩:=D0 hz;obtain ⟨Im',h'⟩:=RRx.freezeOps (parts.map (·.2)) h;obtain ⟨cs,hc2,hc3,hc4⟩:∃ cs:List Value,cs.length=n * sz∧(n * sz=0→((Array.range (n * sz)).map fun x=>(#[]:Array Value)[x % (#[]:Array Value).size]!)=(⟨cs⟩:Array Value)) ∧
    (n * sz≠0→((Array.range (n * sz)).map fun x=>zv.cells[x % zv.cells.size]!)=(⟨cs⟩:Array Value)):=by
   by_cases hz0:n * sz=0
   ·exact ⟨[],by simp [hz0],fun _=>by simp [hz0],fun h=>absurd hz0 h⟩
   ·exact ⟨((Array.range (n * sz)).map fun x=>zv.cells[x % zv.cells.size]!).toList,by simp,fun h=>absurd h hz0,fun _=>rfl⟩
  obtain ⟨news,f1,f2,f3,f4,f5⟩:=Oh (β:=β) (w:=w) (Im:=Im') (sz:=sz) (parts.map fun (i,x)=>(i,a.eval x)) (parts.map fun (i,x)=>(i,(s.freezeOps (parts.map (·.2))).get x)) 0 cs es sm (fun i u x hu hx=>by
   rw [List.getElem?_map] at hu hx;obtain ⟨q,hq,rfl⟩:=Option.map_eq_some_iff.1 hu;obtain ⟨q',hq',rfl⟩:=Option.map_eq_some_iff.1 hx;rw [hq] at hq';cases hq';exact ⟨rfl,A2 h'.fit _⟩) hix hes (by simp;rw [hpn,hc2];exact Nat.le_refl _)
  simp only [List.length_map] at f2 f3;rw [hpn] at f2 f3;have hcs0:cs.take (0 * sz) ++ news ++ cs.drop (0 * sz+news.length)=news:=by
   rw [Nat.zero_mul,Nat.zero_add,List.take_zero,List.nil_append,List.drop_of_length_le (by rw [f3,hc2];exact Nat.le_refl _),List.append_nil]
  rw [hcs0] at f1;have g:=Grow.alloc (w:=w) (Im:=Im') h'.fit.im (.cells ⟨news⟩ e);obtain ⟨r1,r2⟩:=h'.newRow hd (T:=e) (sz:=sz) (tot:=n) (cur:=news) (es:=es) g sm (heap_alloc_new w _) f3 (by rw [f2];exact Nat.le_refl _) (by unfold maxLen;omega) f4 f5;rw [f2] at r2;refine ⟨_,_,_,Im',_,_,?_,r1,r2,hK⟩;have hlt:¬ n * sz > 2 ^ 24:=by omega
  by_cases hz0:n * sz=0
  ·simp only [Instr.buildSlice,Sem.run_bind,run_underlying ht,Result.andThen_ok,Bk hcs h0,Sem.run_ite,if_neg hlt,Sem.run_pure,if_pos hz0,hc3 hz0,f1,Go.newRow,run_newObj];rfl
  ·simp only [Instr.buildSlice,Sem.run_bind,run_underlying ht,Result.andThen_ok,Bk hcs h0,Sem.run_ite,if_neg hlt,Sem.run_pure,if_neg hz0,hzrun,hc4 hz0,f1,Go.newRow,run_newObj];rfl
 ·exact hl.elim
theorem Po {s:St} {a:Act} (h:RRx Γ β Im s a.tmps w) {t n e sz:Nat} {parts:List (Nat×Operand)} {es:List (List PV)} (hsl:slE P t=some (e,sz)) (hnsz:n * sz≤16777216) (hz:∃ zs,Bu P e=some zs∧zs.length=sz) (hpn:parts.length=n)
  (hix:Jt 0 (parts.map fun (i,x)=>(i,s.get x))=true) (hes:Dn sz (parts.map fun (i,x)=>(i,s.get x))=some es) :
  ∃ v w' Im',(Instr.buildSlice t n ⟨parts.map fun (i,x)=>(i,a.eval x)⟩).run P w=.ok v w'∧Grow w Im w' Im'∧PRep w' Im' v (.sl es):=by
 obtain ⟨zs,hz,hzl⟩:=hz;obtain ⟨ht,hcs,h0⟩:=Dw hsl;obtain ⟨zv,hzrun,_,hzlen,_,_⟩:=D0 hz;obtain ⟨cs,hc2,hc3,hc4⟩:∃ cs:List Value,cs.length=n * sz∧(n * sz=0→((Array.range (n * sz)).map fun x=>(#[]:Array Value)[x % (#[]:Array Value).size]!)=(⟨cs⟩:Array Value)) ∧
   (n * sz≠0→((Array.range (n * sz)).map fun x=>zv.cells[x % zv.cells.size]!)=(⟨cs⟩:Array Value)):=by
  by_cases hz0:n * sz=0
  ·exact ⟨[],by simp [hz0],fun _=>by simp [hz0],fun h=>absurd hz0 h⟩
  ·exact ⟨((Array.range (n * sz)).map fun x=>zv.cells[x % zv.cells.size]!).toList,by simp,fun h=>absurd h hz0,fun _=>rfl⟩
 obtain ⟨news,f1,f2,f3,f4,f5⟩:=Oh (β:=β) (w:=w) (Im:=Im) (sz:=sz) (parts.map fun (i,x)=>(i,a.eval x)) (parts.map fun (i,x)=>(i,s.get x)) 0 cs es sm (fun i u x hu hx=>by
  rw [List.getElem?_map] at hu hx;obtain ⟨q,hq,rfl⟩:=Option.map_eq_some_iff.1 hu;obtain ⟨q',hq',rfl⟩:=Option.map_eq_some_iff.1 hx;rw [hq] at hq';cases hq';exact ⟨rfl,A2 h.fit _⟩) hix hes (by simp;rw [hpn,hc2];exact Nat.le_refl _)
 simp only [List.length_map] at f2 f3;rw [hpn] at f2 f3;have hcs0:cs.take (0 * sz) ++ news ++ cs.drop (0 * sz+news.length)=news:=by
  rw [Nat.zero_mul,Nat.zero_add,List.take_zero,List.nil_append,List.drop_of_length_le (by rw [f3,hc2];exact Nat.le_refl _),List.append_nil]
 rw [hcs0] at f1;have g0:=Grow.alloc (w:=w) (Im:=Im) h.fit.im (.cells ⟨news⟩ e);have g:Grow w Im (w.alloc (.cells ⟨news⟩ e)) (fun b=>Im b∨b=w.heap.size) :=
  ⟨g0.os,g0.tape,g0.output,g0.size,g0.block,fun b hb=>.inl hb,fun b hb=>hb.elim .inl fun h=>.inr omg,fun b hb=>hb.elim (g0.lt b) fun h=>by subst h;simp⟩
 have hrun:(Instr.buildSlice t n ⟨parts.map fun (i,x)=>(i,a.eval x)⟩).run P w=.ok (.slice (some ⟨w.heap.size,0,none⟩) n n) (w.alloc (.cells ⟨news⟩ e)):=by
  have hlt:¬ n * sz > 2 ^ 24:=by omega
  by_cases hz0:n * sz=0
  ·simp only [Instr.buildSlice,Sem.run_bind,run_underlying ht,Result.andThen_ok,Bk hcs h0,Sem.run_ite,if_neg hlt,Sem.run_pure,if_pos hz0,hc3 hz0,f1,Go.newRow,run_newObj];rfl
  ·simp only [Instr.buildSlice,Sem.run_bind,run_underlying ht,Result.andThen_ok,Bk hcs h0,Sem.run_ite,if_neg hlt,Sem.run_pure,if_neg hz0,hzrun,hc4 hz0,f1,Go.newRow,run_newObj];rfl
 refine ⟨_,_,_,hrun,g,?_⟩;have hk:Keeps w Im (w.alloc (.cells ⟨news⟩ e)) (fun b=>Im b∨b=w.heap.size):=g.keeps h.fit.im;have hblk:(w.alloc (.cells ⟨news⟩ e)).heap[w.heap.size]? = some (.cells ⟨news⟩ e (0,0)):=heap_alloc_new w _;rw [← f2];refine PRep.sl w.heap.size 0 es.length sz es (Nat.le_refl _) (.inr rfl) (fun i j=>news.getD (i * sz+j) undef) (fun x hx=>(f4 x hx).1) (fun x hx=>(f4 x hx).2) (fun i hi j hj=>?_) (fun i x j p hi hj=>?_)
 ·rw [D7 hblk,Nat.zero_add];have hlt:i * sz+j<news.length:=by
   rw [f3,← f2];have:(i+1) * sz≤es.length * sz:=Nat.mul_le_mul_right _ hi;rw [Nat.add_mul,Nat.one_mul] at this;omega
  simp [List.getD_eq_getElem?_getD,hlt]
 ·obtain ⟨u,hu,hp⟩:=f5 i x j p hi hj;have:news.getD (i * sz+j) undef=u:=by simp [List.getD_eq_getElem?_getD,hu]
  rw [this];exact hp.mono hk
end
end Go.LX
