/- LxHO, what one law alone needs. -/
import Derived.Test.YtaghbedfogiopaaGreatDoorEvalTwiceLxA
set_option linter.unusedSimpArgs false
set_option linter.unusedVariables false
set_option linter.unusedSectionVars false
set_option linter.unnecessarySimpa false
set_option maxRecDepth 100000
set_option maxHeartbeats 2000000
namespace Go.LX
open Go Go.RowKit Go.Proofs
attribute [local irreducible] Al SWP Bi
theorem J6l {l:List (List UInt8)} {i:Nat} {s:List UInt8} (h:l[i]? = some s):(strL l)[i]? = some [.str s]:=by simp [strL,h]
theorem Ke9 {l:List (List UInt8)} {x:List PV} (h:x∈strL l):x.length=1:=by
 obtain ⟨s,_,rfl⟩:=Eap.1 h;rfl
theorem Kgn {l:List (List UInt8)} {k:Nat} {s:List UInt8} (h:l[k]? = some s):strL (l.take (k+1))=strL (l.take k) ++ [[.str s]]:=by
 rw [Ea8,h];simp [strL]
theorem Khm {l:List (List UInt8)} {k:Nat} {x:List PV} (h:(strL l)[k]? = some x):∃ s,l[k]? = some s/\x=[.str s]:=by
 unfold strL at h;rw [Eam] at h;obtain ⟨p,h1,h2⟩:=Eak.1 h;exact ⟨p,h1,h2.symm⟩
theorem Kev (ns:List (List UInt8)):Det cx 136 [.p (.sl (strL ns))] [] (.fn 167 [900]) [(900,.var 61 [.p (.sl (strL ns))])]:=by
 (refine bgoR true [(1,900)] Tryz.func136 ?_;simp only [go_sem,simprocAttr])
theorem Kdy (ns:List (List UInt8)) (hn:ns.length<=1500000000000):Tb cx 167 [.eptr [.sl (strL ns)]] (strL ns):=by
 (refine Juw (X:=cx) Tryz.func167 kr rfl kr (by simp only [List.length_cons,List.length_nil,Tryz.ntmps167];decide) fun l=>?_;refine N9 _ _ _ _ ?_;simp only [Tryz.ntmps167,go_sem,simprocAttr,Jsx]);refine JWP.loop (fun i:Nat=>(some i,⟨Ba 16 [(0,.yld l),(1,.eptr [.sl (strL ns)]),(5,.p (.sl (strL ns))),(6,.p (.int .i64 ns.length)),(7,.p (.int .i64 i))],[]⟩)) (fun i=>i<=ns.length) (fun i=>ns.length - i) 0 rfl Jqc (Eav _) ?_;rintro i hi;simp only at hi ⊢;by_cases hlt:i<ns.length
 ·have c1:((i:Int)<(ns.length:Int))=True:=eq_true omg;obtain ⟨s,hs⟩:∃ s,ns[i]? = some s:=⟨_,Eaa hlt⟩
  have hg:=J6l hs;(refine N9 _ _ _ _ ?_;simp only [go_sem,simprocAttr,Jsx,c1,hg,wj1 (i:=i) omg]);(repeat' (first|(trivial)|(refine And.intro ?_ ?_)|(exact ⟨i+1,by omega,by omega,rfl,Jqc⟩)|fail))
 ·obtain rfl:i=ns.length:=by omega
  have c1:((ns.length:Int)<(ns.length:Int))=False:=eq_false omg;(refine N9 _ _ _ _ ?_;simp only [go_sem,simprocAttr,Jsx,c1])
  all_goals first | trivial | exact .inl (by rw [Jsx])
theorem J9d (ns:List (List UInt8)) (hn:ns.length<=1500000000000):Det cx 193 [.p .snil,.fn 167 [1000]] [(1000,.var 61 [.p (.sl (strL ns))])] (.own 900 0 ns.length) [(900,.row 9 1 (strL ns))]:=by
 (refine bgoR true [(990,900),(500,900)] Tryz.func193 ?_;simp only [go_sem,simprocAttr]);refine Jqg (Jq2 _ (b:=2) (j:=0) (d:=500) 9 1 (.inl de) (T':=61) (cs:=[.p .snil]) rfl rfl) ?_;simp only [St.nilCell,St.nilReg,setCell,go_sem,simprocAttr];(refine SWP.range (strL ns) 13 [(11,500000)] sm _ _ _ _ _ (fun k R=>R=[(500000,.row 9 1 (strL (ns.take k))),(1001,.var 61 [.own 500000 0 k])]) (fun _ _=>False) (by rfl) (by rfl) (by rfl) (Kdy ns hn) (by simp only [go_sem,simprocAttr] <;> rfl) (by first | rfl | simp [Cg]) sm ?hps (by simp only [go_sem,simprocAttr] <;> rfl) (by simp only [go_sem,simprocAttr] <;> rfl) (by simp only [go_sem,simprocAttr] <;> rfl) ?h0 ?hkI ?hkS ?hSn ?round ?done ?stop)
 case hps=>exact fun x hx=>Ke9 hx
 case h0=>rfl
 case hkI=>rintro k R rfl;simp [Hg,findKey]
 case hkS=>exact fun _ _ h=>h.elim
 case hSn=>exact fun _ h=>h
 case stop=>exact fun _ _ h=>h.elim
 case round =>
  rintro k x R l hx rfl;obtain ⟨p,hp,rfl⟩:=Khm hx;have hkl:=(Eab.1 hp).1;simp only [go_sem,simprocAttr];(refine lws ?_;simp only [go_sem,simprocAttr]);refine ⟨by simp,by rw [Jsx,Eaw];omega,by omega,by omega,_,rfl,?_⟩;rw [Kgn hp];exact (Jqt (by simp only [Ar]) (by simp (disch:=omega) [Az,A3,Aw,Am,Af,Ai,Au,Aa]) (by simp [Ay]))
 case done =>
  rintro R rfl;rw [Jsx,Ead (Eai _)];simp only [go_sem,simprocAttr];refine ⟨_,St.Le.refl _,?_⟩;simp only [go_sem,simprocAttr]
theorem Kb7 (ns:List (List UInt8)) (hn:ns.length<=1500000000000):Det cx 165 [.fn 167 [1000]] [(1000,.var 61 [.p (.sl (strL ns))])] (.own 900 0 ns.length) [(900,.row 9 1 (strL ns))]:=by
 (refine bgoR true [(4,900)] Tryz.func165 ?_;simp only [go_sem,simprocAttr]);(repeat' (first|((refine Jqa (J9d ns hn) ?_);simp only [go_sem,simprocAttr])|fail))
end Go.LX
namespace Go.Proofs
open Go.Shelf
def Tryz_lays190_renX:Go.Shelf.Ren:=⟨fun | 190=>166 | 125=>195 | 258=>194 | 128=>230 | 129=>231 | 302=>222 | 303=>223 | 304=>224 | 305=>225 | 306=>226 | 307=>227 | 308=>178 | 309=>228 | 310=>229 | 333=>253 | 329=>254 | 330=>255 | 334=>256 | 335=>257 | 336=>155 | 344=>271 | n=>n,fun | 31=>61 | 9=>9 | 3=>3 | 46=>165 | 0=>0 | 51=>224 | 53=>191 | 4=>4 | 183=>218 | 182=>217 | 131=>143 | 5=>5 | 218=>244 | 222=>248 | 228=>257 | 229=>214 | n=>n,fun | n=>n⟩
theorem Jx0:Go.Proofs.Lays.n190 Tryz.prog Tryz_lays190_renX:={
 mixed:=by kernel_rfl
 f125:=Tryz.func195.trans (congrArg some (by kernel_rfl))
 f128:=Tryz.func230.trans (congrArg some (by kernel_rfl))
 f129:=Tryz.func231.trans (congrArg some (by kernel_rfl))
 f190:=Tryz.func166.trans (congrArg some (by kernel_rfl))
 f258:=Tryz.func194.trans (congrArg some (by kernel_rfl))
 f302:=Tryz.func222.trans (congrArg some (by kernel_rfl))
 f303:=Tryz.func223.trans (congrArg some (by kernel_rfl))
 f304:=Tryz.func224.trans (congrArg some (by kernel_rfl))
 f305:=Tryz.func225.trans (congrArg some (by kernel_rfl))
 f306:=Tryz.func226.trans (congrArg some (by kernel_rfl))
 f307:=Tryz.func227.trans (congrArg some (by kernel_rfl))
 f308:=Tryz.func178.trans (congrArg some (by kernel_rfl))
 f309:=Tryz.func228.trans (congrArg some (by kernel_rfl))
 f310:=Tryz.func229.trans (congrArg some (by kernel_rfl))
 f329:=Tryz.func254.trans (congrArg some (by kernel_rfl))
 f330:=Tryz.func255.trans (congrArg some (by kernel_rfl))
 f333:=Tryz.func253.trans (congrArg some (by kernel_rfl))
 f334:=Tryz.func256.trans (congrArg some (by kernel_rfl))
 f335:=Tryz.func257.trans (congrArg some (by kernel_rfl))
 f336:=Tryz.func155.trans (congrArg some (by kernel_rfl))
 f344:=Tryz.func271.trans (congrArg some (by kernel_rfl))
 t0:=Tryz.underlying0
 a0:=Tryz.isAgg0
 z0:=Tryz.sizeOf0
 v0:=Tryz.zeroValue0
 t3:=Tryz.underlying3
 a3:=Tryz.isAgg3
 z3:=Tryz.sizeOf3
 v3:=Tryz.zeroValue3
 t4:=Tryz.underlying4
 a4:=Tryz.isAgg4
 z4:=Tryz.sizeOf4
 v4:=Tryz.zeroValue4
 t5:=Tryz.underlying5
 a5:=Tryz.isAgg5
 z5:=Tryz.sizeOf5
 v5:=Tryz.zeroValue5
 t9:=Tryz.underlying9
 a9:=Tryz.isAgg9
 z9:=Tryz.sizeOf9
 v9:=Tryz.zeroValue9
 t31:=Tryz.underlying61
 a31:=Tryz.isAgg61
 z31:=Tryz.sizeOf61
 v31:=Tryz.zeroValue61
 t46:=Tryz.underlying165
 a46:=Tryz.isAgg165
 z46:=Tryz.sizeOf165
 v46:=Tryz.zeroValue165
 t51:=Tryz.underlying224
 a51:=Tryz.isAgg224
 z51:=Tryz.sizeOf224
 v51:=Tryz.zeroValue224
 t53:=Tryz.underlying191
 a53:=Tryz.isAgg191
 z53:=Tryz.sizeOf191
 v53:=Tryz.zeroValue191
 t131:=Tryz.underlying143
 a131:=Tryz.isAgg143
 z131:=Tryz.sizeOf143
 v131:=Tryz.zeroValue143
 t182:=Tryz.underlying217
 a182:=Tryz.isAgg217
 z182:=Tryz.sizeOf217
 v182:=Tryz.zeroValue217
 t183:=Tryz.underlying218
 a183:=Tryz.isAgg218
 z183:=Tryz.sizeOf218
 v183:=Tryz.zeroValue218
 t218:=Tryz.underlying244
 a218:=Tryz.isAgg244
 z218:=Tryz.sizeOf244
 v218:=Tryz.zeroValue244
 t222:=Tryz.underlying248
 a222:=Tryz.isAgg248
 z222:=Tryz.sizeOf248
 v222:=Tryz.zeroValue248
 t228:=Tryz.underlying257
 a228:=Tryz.isAgg257
 z228:=Tryz.sizeOf257
 v228:=Tryz.zeroValue257
 t229:=Tryz.underlying214
 a229:=Tryz.isAgg214
 z229:=Tryz.sizeOf214
 v229:=Tryz.zeroValue214 }
open Go.Sort Go.RowKit in
theorem Tryz.slices_Sort_string (blk off cap:Nat) (ss:List (List UInt8)) (w:World) (hH:Holds encStr w blk off ss.toArray) (hblk:blk<w.heap.size) (hsz:ss.length<4611686018427387904) :
  Calls Tryz.prog 166 #[.slice (some ⟨blk,off,none⟩) ss.length cap] w fun e w' =>
   e=.returned (.tuple #[])/\∃ n os,w'=grow (putRow encStr (Sort.ahead w n) blk off (ss.mergeSort fun x y=>decide (x<=y)).toArray) os:=Any.slices_Sort_string Jx0 blk off cap ss w hH hblk hsz
open Go.RowKit Go.Sort in
theorem Tryz.slices_Sort_string_none (p:Option Addr) (cap:Nat) (w:World) :
  Calls Tryz.prog 166 #[.slice p 0 cap] w fun e w'=>e=.returned (.tuple #[])/\w'=w:=Any.slices_Sort_string_none Jx0 p cap w
end Go.Proofs
set_option maxRecDepth 100000
set_option maxHeartbeats 2000000
namespace Go.LX
open Go Go.RowKit Go.Proofs
attribute [local irreducible] Al SWP Bi
def noT:Tree:=.mk 0 [] false 0 .nil
theorem Jy6 (x y:List UInt8):decide (x<=y) = !Op.bytesLess y x:=by
 rw [bytesLess_eq,Ea0];simp
theorem Kaf {l:List KT} (hn:(l.map (·.1)).Nodup):((l.map (·.1)).mergeSort fun x y=>decide (x<=y))=(Lp l).map (·.1):=by
 let A:=(l.map (·.1)).mergeSort fun x y=>decide (x<=y)
 have hA:A.Perm (l.map (·.1)):=List.mergeSort_perm _ _;have hAp:A.Pairwise fun x y=>decide (x<=y)=true:=List.pairwise_mergeSort (fun a b c h1 h2=>by
  rw [Jy6] at h1 h2 ⊢;simp only [Ec9] at h1 h2 ⊢;exact Jg7 h1 h2) (fun a b=>by
  rw [Jy6,Jy6];cases h:Op.bytesLess b a with
  | false=>rfl
  | true=>rw [L3 h];rfl) _
 have hAn:A.Nodup:=hA.nodup_iff.2 hn;have hAr:Rise (A.map fun s=>(s,noT)):=by
  unfold Rise;rw [Ec7];refine (hAp.and hAn).imp ?_;rintro a b ⟨h1,h2⟩;rw [Jy6] at h1;simp only [Ec9] at h1;exact Qf h1 (Ne.symm h2)
 have hB:((Lp l).map (·.1)).Perm (l.map (·.1)):=(E3 l).map _;have hBr:Rise (((Lp l).map (·.1)).map fun s=>(s,noT)):=by
  have:=Jj hn;unfold Rise at this ⊢;rw [Ec7,Ec7];exact this
 have:=congrArg (List.map Prod.fst) (Jy hAr hBr ((hA.trans hB.symm).map _));rw [Ebs,Ebs] at this;have e:∀ L:List (List UInt8),L.map (Prod.fst ∘ fun s=>(s,noT))=L:=fun L=>by simp [Function.comp_def]
 rw [e,e] at this;exact this
theorem Kcf (ns:List (List UInt8)) (hb:ns.length<=1500000000000):Det cx 166 [.own 1000 0 ns.length] [(1000,.row 9 1 (strL ns))] (.tup []) [(1000,.row 9 1 (strL (ns.mergeSort fun x y=>decide (x<=y))))]:=by
 unfold Det Al;refine ⟨enters_of Tryz.func166 kr rfl,fun β Im w vs hg hf=>?_⟩;obtain ⟨v,rfl,hv⟩:=fit1 hf;rcases Jy9 hf hv (Jsx ns) with ⟨h0,rfl⟩ | ⟨loc,cap,d,hβ,rfl,hc,hdl,hnc,hcm,hH,hd⟩
 ·have he:ns=[]:=Eal h0;subst he;have h:Calls Tryz.prog 166 #[.slice none 0 0] w fun e w'=>e=.returned (.tuple #[])/\w'=w:=Tryz.slices_Sort_string_none none 0 w
  refine h.mono ?_;rintro e w' ⟨rfl,rfl⟩;exact ⟨_,_,_,β,Im,rfl,⟨rfl,by rw [List.mergeSort_nil]⟩,⟨[],rfl,rfl,by simp⟩,J0f hf⟩
 ·have hlt:=(hf.live 1000 _ loc Eaf hβ).1;have hH2:Sort.Holds encStr w loc.blk 0 ns.toArray:=fun j hj=>by
   have hjn:j<ns.length:=by simpa using hj
   have hjd:j<d.length:=by omega
   obtain ⟨a,b⟩:=hH j (by simpa using hjd);refine ⟨?_,b⟩;rw [a];obtain ⟨p,e1,e2,e3⟩:=hd j _ [.str ns[j]] (Eaa hjd) (J6l (Eaa hjn));cases e1;have:=Ks (β:=β) e3;have x1:d.toArray[j]! = d[j]:=by simp [hjd]
   have x2:ns.toArray[j]! = ns[j]:=by simp [hjn]
   rw [x1,x2];exact congrArg some this
  have h:Calls Tryz.prog 166 #[.slice (some ⟨loc.blk,0,none⟩) ns.length cap] w fun e w'=>e=.returned (.tuple #[])/\∃ q os,w'=Sort.grow (Sort.putRow encStr (Sort.ahead w q) loc.blk 0 (ns.mergeSort fun x y=>decide (x<=y)).toArray) os:=Tryz.slices_Sort_string loc.blk 0 cap ns w hH2 hlt omg
  refine h.mono ?_;rintro e w' ⟨rfl,q,os,rfl⟩;have hln:(ns.mergeSort fun x y=>decide (x<=y)).length=ns.length:=List.length_mergeSort _;refine ⟨_,_,_,β,Im,rfl,⟨rfl,rfl⟩,⟨[],rfl,rfl,by simp⟩,Jy7 hf hβ (k:=q) (os:=os) (enc:=encStr) (d:=ns.mergeSort fun x y=>decide (x<=y)) rfl (by rw [hln];omega) (by rw [Jsx];exact Eai _) fun i x e hx he=>?_⟩;rw [J6l hx] at he;cases he;exact ⟨.str x,rfl,rfl,PRep.str _⟩
theorem Kfy (ns:List (List UInt8)) (hb:ns.length<=1500000000000):Det cx 135 [.fn 167 [1000]] [(1000,.var 61 [.p (.sl (strL ns))])] (.p (.sl (strL (ns.mergeSort fun x y=>decide (x<=y))))) []:=by
 have hC:=Kb7 ns hb;have hS:=Kcf ns hb;have hln:(ns.mergeSort fun x y=>decide (x<=y)).length=ns.length:=List.length_mergeSort _;have htk:(strL (ns.mergeSort fun x y=>decide (x<=y))).take ns.length=strL (ns.mergeSort fun x y=>decide (x<=y)):=Ead (by rw [Jsx];omega);have hle:(ns.length<=(strL (ns.mergeSort fun x y=>decide (x<=y))).length)=True:=eq_true (by rw [Jsx];omega);generalize strL (ns.mergeSort fun x y=>decide (x<=y))=R at *
 (refine bgo Tryz.func135 ?_;simp only [go_sem,simprocAttr]);(repeat' (first|((first|refine Jqa hC ?_|refine Jqa hS ?_);simp only [go_sem,simprocAttr,htk,hle])|fail))
def ValM (es:List (PV×PV)) (l:List KT):Prop:=MapF isStrKey es/\∀ k u,(k,u)∈es ↔ ∃ p∈l,k=.str p.1/\u=.sl (valL (p.2.enc []))
theorem Keh:ValM [] []:=⟨MapF.nil,by simp⟩
theorem Khj {es:List (PV×PV)} {l:List KT} (h:ValM es l) {p:KT} (hp:p∈l):∃ j,Cl (.str p.1) es 0=some (some (j,.sl (valL (p.2.enc [])))):=Jkm J5w h.1 ((h.2 _ _).2 ⟨p,hp,rfl,rfl⟩)
theorem Kfw {es:List (PV×PV)} {l:List KT} {nm:List UInt8} (h:ValM es l) (hn:∀ p∈l,p.1≠nm):Cl (.str nm) es 0=some none:=Jep J5w ⟨nm,rfl⟩ h.1 fun u hu=>by
 obtain ⟨p,hp,e,_⟩:=(h.2 _ _).1 hu;injection e with e
 exact hn p hp e.symm
theorem Keu {es:List (PV×PV)} {l:List KT} {p:KT} (h:ValM es l) (hn:∀ q∈l,q.1≠p.1):∃ es',mput (.str p.1) (.sl (valL (p.2.enc []))) es=some es'/\ValM es' (l ++ [p]):=by
 obtain ⟨es',h1,h2,h3⟩:=Jhy (v:=.sl (valL (p.2.enc []))) J5w (k:=.str p.1) ⟨p.1,rfl⟩ h.1;refine ⟨es',h1,h2,fun k u=>?_⟩;rw [h3];constructor
 ·rintro (⟨rfl,rfl⟩ | ⟨_,hk⟩)
  ·exact ⟨p,by simp,rfl,rfl⟩
  ·obtain ⟨q,hq,e1,e2⟩:=(h.2 _ _).1 hk;exact ⟨q,Eb7 _ hq,e1,e2⟩
 ·rintro ⟨q,hq,rfl,rfl⟩;rcases Eau.1 hq with hq | hq
  ·refine .inr ⟨fun e=>?_,(h.2 _ _).2 ⟨q,hq,rfl,rfl⟩⟩;injection e with e
   exact hn q hq e
  ·rw [Eay] at hq;subst hq;exact .inl ⟨rfl,rfl⟩
theorem J3r (l:List KT) (hv:(A1 l).enc.length<=1350000000000) (hp:∀ p∈l,valid p.1=true/\p.1.length<=1000000) (hn:(l.map (·.1)).Nodup):Det cx 89 [.p (.sl (Bd l)),.p (.sl (A4 l))] [] (.tup [.sl (valL ((nd 6 (Lp l)).enc [])),.int .i64 0]) []:=by
 have hll:=Jqi (A1 l);rw [Ca] at hll;have hVa:=Kev (l.map (·.1));have hSo:=Kfy (l.map (·.1)) (by rw [Ea9];omega);rw [Kaf hn] at hSo;rw [<- Jco] at hVa hSo;rw [<- Jco] at hSo;have hilen:(Lp l).length=l.length:=(E3 l).length_eq;have hL:=Jkg (Lp l) (by rw [Hm (E3 l)];omega);rw [show Tree.mk 6 [] false 0 (A1 (Lp l))=nd 6 (Lp l) from rfl] at hL;generalize valL ((nd 6 (Lp l)).enc [])=res at *
 (refine bgo Tryz.func89 ?_;simp only [go_sem,simprocAttr,A9,A5]);refine SWP.loop (fun x:Nat×List (PV×PV)=>⟨Ba 66 [(0,.p (.sl (Bd l))),(1,.p (.sl (A4 l))),(6,.mref 20),(21,.p (.sl (Bd l))),(22,.p (.int .i64 l.length)),(23,.p (.int .i64 x.1))],[(20,.obj (.mp x.2))]⟩) (fun x=>x.1<=l.length/\ValM x.2 (l.take x.1)) (fun x=>l.length - x.1) (0,[]) Jqc ⟨Eav _,Keh⟩ ?_;rintro ⟨i,es⟩ ⟨h1,h2⟩;simp only at h1 h2;by_cases hlt:i<l.length
 ·have c1:((i:Int)<(l.length:Int))=True:=eq_true omg;obtain ⟨p,hpi⟩:∃ p,l[i]? = some p:=⟨_,Eaa hlt⟩
  have hpm:=Eae hpi;obtain ⟨hpv,hpl⟩:=hp p hpm;have g1:(Bd l)[i]? = some [.str p.1]:=by simp [Bd,hpi]
  have g2:(A4 l)[i]? = some [.sl (valL (p.2.enc []))]:=by simp [A4,hpi]
  have hno:∀ q∈l.take i,q.1≠p.1:=fun q hq e=>by
   have h3:(l.take (i+1)).map (·.1)=(l.take i).map (·.1) ++ [p.1]:=by rw [Ea8,hpi];simp
   have h4:((l.take (i+1)).map (·.1)).Nodup:=by rw [Ecq];exact hn.sublist (List.take_sublist _ _)
   rw [h3,Ecc] at h4;exact h4.2.2 q.1 (Eap.2 ⟨q,hq,rfl⟩) p.1 sm e
  have f1:=Kfw h2 hno;obtain ⟨es',f2,f3⟩:=Keu h2 hno;have hU:=Fi p.1 omg;rw [hpv] at hU;have htk:l.take (i+1)=l.take i ++ [p]:=by rw [Ea8,hpi];rfl
  (refine lws ?_;simp only [go_sem,simprocAttr,c1,g1,f1,wj1 (i:=i) omg]);(repeat' (first|((refine Jqa hU ?_);simp only [go_sem,simprocAttr,g2,f2,wj1 (i:=i) omg])|fail))
  all_goals exact ⟨(i+1,es'),⟨by simp only;omega,by simp only;rw [htk];exact f3⟩,by simp only;omega,Jqc⟩
 ·obtain rfl:i=l.length:=by omega
  have c1:((l.length:Int)<(l.length:Int))=False:=eq_false omg;rw [List.take_length] at h2;(refine lws ?_;simp only [go_sem,simprocAttr,c1]);(repeat' (first|((first|refine Jqa hVa ?_|refine Jqa hSo ?_);simp only [go_sem,simprocAttr,A9,hilen])|fail));refine Jqg (Jrw _ (i:=12) (d:=61) 25 1 (.inl de) rfl) ?_;simp only [St.nilOwn,St.nilReg,go_sem,simprocAttr,A9,A5,c1,hilen,if_false];generalize hK:Lp l=K at *
  refine SWP.loop (fun k:Nat=>⟨Ba 66 [(6,.mref 20),(11,.p (.sl (Bd K))),(12,.own 61 0 k),(50,.p (.sl (Bd K))),(51,.p (.int .i64 l.length)),(52,.p (.int .i64 k))],[(61,.row 25 1 (A4 (K.take k))),(20,.obj (.mp es))]⟩) (fun k=>k<=l.length) (fun k=>l.length - k) 0 Jqc (Eav _) ?_;rintro k hk;by_cases hlt:k<l.length
  ·have c2:((k:Int)<(l.length:Int))=True:=eq_true omg;obtain ⟨p,hpi⟩:∃ p,K[k]? = some p:=⟨_,Eaa omg⟩
   have hpm:p∈l:=by
    have:=Eae hpi;rw [<- hK] at this;exact (E3 l).mem_iff.1 this
   have g1:(Bd K)[k]? = some [.str p.1]:=by simp [Bd,hpi]
   obtain ⟨j,f1⟩:=Khj h2 hpm;have hln:(A4 (K.take k)).length=k:=by rw [A5,Eaw];omega
   have htk:A4 (K.take (k+1))=A4 (K.take k) ++ [[.sl (valL (p.2.enc []))]]:=by rw [Ea8,hpi];simp [A4]
   (refine lws ?_;simp only [go_sem,simprocAttr,c2,g1,f1,hln,wj1 (i:=k) omg]);(repeat' (first|(refine And.intro (by first|(simp;done)|(simp;omega)) ?_)|refine Jqj ?_|fail))
   all_goals exact ⟨k+1,by omega,by omega,by rw [htk];exact Jqc⟩
  ·obtain rfl:k=l.length:=by omega
   have ht1:K.take l.length=K:=Ead omg;have ht2:(A4 K).take l.length=A4 K:=Ead (by rw [A5];omega);have hle:(l.length<=K.length)=True:=eq_true omg;(refine lws ?_;simp only [go_sem,simprocAttr,A5,c1,hilen,ht1,ht2,A5,Eai]);(repeat' (first|((refine Jqa hL ?_);simp only [go_sem,simprocAttr])|fail))
end Go.LX
namespace Go.Proofs
open Go.Shelf
def Tryz_lays161_renX:Go.Shelf.Ren:=⟨fun | 161=>138 | 231=>170 | 227=>171 | 233=>172 | 235=>173 | 228=>198 | 197=>199 | 151=>200 | 260=>234 | 152=>235 | 137=>190 | 119=>258 | 224=>259 | 225=>260 | 217=>217 | 266=>246 | n=>n,fun | 9=>9 | 4=>4 | 3=>3 | 5=>5 | 117=>172 | 116=>171 | 0=>0 | 124=>175 | 105=>196 | 21=>21 | 119=>161 | 46=>165 | 139=>164 | 138=>163 | n=>n,fun | 3=>0 | 4=>1 | n=>n⟩
theorem J33:Go.Proofs.Lays.n161 Tryz.prog Tryz_lays161_renX:={
 mixed:=by kernel_rfl
 f119:=Tryz.func258.trans (congrArg some (by kernel_rfl))
 f137:=Tryz.func190.trans (congrArg some (by kernel_rfl))
 f151:=Tryz.func200.trans (congrArg some (by kernel_rfl))
 f152:=Tryz.func235.trans (congrArg some (by kernel_rfl))
 f161:=Tryz.func138.trans (congrArg some (by kernel_rfl))
 f197:=Tryz.func199.trans (congrArg some (by kernel_rfl))
 f217:=Tryz.func217.trans (congrArg some (by kernel_rfl))
 f224:=Tryz.func259.trans (congrArg some (by kernel_rfl))
 f225:=Tryz.func260.trans (congrArg some (by kernel_rfl))
 f227:=Tryz.func171.trans (congrArg some (by kernel_rfl))
 f228:=Tryz.func198.trans (congrArg some (by kernel_rfl))
 f231:=Tryz.func170.trans (congrArg some (by kernel_rfl))
 f233:=Tryz.func172.trans (congrArg some (by kernel_rfl))
 f235:=Tryz.func173.trans (congrArg some (by kernel_rfl))
 f260:=Tryz.func234.trans (congrArg some (by kernel_rfl))
 f266:=Tryz.func246.trans (congrArg some (by kernel_rfl))
 t0:=Tryz.underlying0
 a0:=Tryz.isAgg0
 z0:=Tryz.sizeOf0
 v0:=Tryz.zeroValue0
 t3:=Tryz.underlying3
 a3:=Tryz.isAgg3
 z3:=Tryz.sizeOf3
 v3:=Tryz.zeroValue3
 t4:=Tryz.underlying4
 a4:=Tryz.isAgg4
 z4:=Tryz.sizeOf4
 v4:=Tryz.zeroValue4
 t5:=Tryz.underlying5
 a5:=Tryz.isAgg5
 z5:=Tryz.sizeOf5
 v5:=Tryz.zeroValue5
 t9:=Tryz.underlying9
 a9:=Tryz.isAgg9
 z9:=Tryz.sizeOf9
 v9:=Tryz.zeroValue9
 t21:=Tryz.underlying21
 a21:=Tryz.isAgg21
 z21:=Tryz.sizeOf21
 v21:=Tryz.zeroValue21
 t46:=Tryz.underlying165
 a46:=Tryz.isAgg165
 z46:=Tryz.sizeOf165
 v46:=Tryz.zeroValue165
 t105:=Tryz.underlying196
 a105:=Tryz.isAgg196
 z105:=Tryz.sizeOf196
 v105:=Tryz.zeroValue196
 t116:=Tryz.underlying171
 a116:=Tryz.isAgg171
 z116:=Tryz.sizeOf171
 t117:=Tryz.underlying172
 a117:=Tryz.isAgg172
 z117:=Tryz.sizeOf172
 v117:=Tryz.zeroValue172
 t119:=Tryz.underlying161
 a119:=Tryz.isAgg161
 z119:=Tryz.sizeOf161
 t124:=Tryz.underlying175
 a124:=Tryz.isAgg175
 z124:=Tryz.sizeOf175
 v124:=Tryz.zeroValue175
 t138:=Tryz.underlying163
 a138:=Tryz.isAgg163
 z138:=Tryz.sizeOf163
 v138:=Tryz.zeroValue163
 t139:=Tryz.underlying164
 a139:=Tryz.isAgg164
 z139:=Tryz.sizeOf164
 v139:=Tryz.zeroValue164
 g3:=by kernel_rfl
 g4:=by kernel_rfl }
open Go.RowKit in
theorem Tryz.strings_TrimLeft_one (s:ByteArray) (c:UInt8) (hc:c.toNat<128) (w:World) :
  Calls Tryz.prog 138 #[.string s,.string ⟨#[c]⟩] w fun e w'=>e=.returned (.string ⟨(Lib.trimLeftB s.data.toList c).toArray⟩)/\w'=w:=Any.strings_TrimLeft_one J33 s c hc w
def Tryz_lays162_renX:Go.Shelf.Ren:=⟨fun | 162=>139 | 232=>174 | 227=>171 | 234=>175 | 236=>176 | 228=>198 | 271=>201 | 151=>200 | 120=>236 | 197=>199 | 152=>235 | 260=>234 | 137=>190 | 119=>258 | 224=>259 | 225=>260 | 217=>217 | 266=>246 | n=>n,fun | 9=>9 | 4=>4 | 3=>3 | 5=>5 | 117=>172 | 116=>171 | 0=>0 | 124=>175 | 21=>21 | 105=>196 | 46=>165 | 119=>161 | 139=>164 | 138=>163 | n=>n,fun | 3=>0 | 4=>1 | n=>n⟩
theorem J37:Go.Proofs.Lays.n162 Tryz.prog Tryz_lays162_renX:={
 mixed:=by kernel_rfl
 f119:=Tryz.func258.trans (congrArg some (by kernel_rfl))
 f120:=Tryz.func236.trans (congrArg some (by kernel_rfl))
 f137:=Tryz.func190.trans (congrArg some (by kernel_rfl))
 f151:=Tryz.func200.trans (congrArg some (by kernel_rfl))
 f152:=Tryz.func235.trans (congrArg some (by kernel_rfl))
 f162:=Tryz.func139.trans (congrArg some (by kernel_rfl))
 f197:=Tryz.func199.trans (congrArg some (by kernel_rfl))
 f217:=Tryz.func217.trans (congrArg some (by kernel_rfl))
 f224:=Tryz.func259.trans (congrArg some (by kernel_rfl))
 f225:=Tryz.func260.trans (congrArg some (by kernel_rfl))
 f227:=Tryz.func171.trans (congrArg some (by kernel_rfl))
 f228:=Tryz.func198.trans (congrArg some (by kernel_rfl))
 f232:=Tryz.func174.trans (congrArg some (by kernel_rfl))
 f234:=Tryz.func175.trans (congrArg some (by kernel_rfl))
 f236:=Tryz.func176.trans (congrArg some (by kernel_rfl))
 f260:=Tryz.func234.trans (congrArg some (by kernel_rfl))
 f266:=Tryz.func246.trans (congrArg some (by kernel_rfl))
 f271:=Tryz.func201.trans (congrArg some (by kernel_rfl))
 t0:=Tryz.underlying0
 a0:=Tryz.isAgg0
 z0:=Tryz.sizeOf0
 v0:=Tryz.zeroValue0
 t3:=Tryz.underlying3
 a3:=Tryz.isAgg3
 z3:=Tryz.sizeOf3
 v3:=Tryz.zeroValue3
 t4:=Tryz.underlying4
 a4:=Tryz.isAgg4
 z4:=Tryz.sizeOf4
 v4:=Tryz.zeroValue4
 t5:=Tryz.underlying5
 a5:=Tryz.isAgg5
 z5:=Tryz.sizeOf5
 v5:=Tryz.zeroValue5
 t9:=Tryz.underlying9
 a9:=Tryz.isAgg9
 z9:=Tryz.sizeOf9
 v9:=Tryz.zeroValue9
 t21:=Tryz.underlying21
 a21:=Tryz.isAgg21
 z21:=Tryz.sizeOf21
 v21:=Tryz.zeroValue21
 t46:=Tryz.underlying165
 a46:=Tryz.isAgg165
 z46:=Tryz.sizeOf165
 v46:=Tryz.zeroValue165
 t105:=Tryz.underlying196
 a105:=Tryz.isAgg196
 z105:=Tryz.sizeOf196
 v105:=Tryz.zeroValue196
 t116:=Tryz.underlying171
 a116:=Tryz.isAgg171
 z116:=Tryz.sizeOf171
 t117:=Tryz.underlying172
 a117:=Tryz.isAgg172
 z117:=Tryz.sizeOf172
 v117:=Tryz.zeroValue172
 t119:=Tryz.underlying161
 a119:=Tryz.isAgg161
 z119:=Tryz.sizeOf161
 t124:=Tryz.underlying175
 a124:=Tryz.isAgg175
 z124:=Tryz.sizeOf175
 v124:=Tryz.zeroValue175
 t138:=Tryz.underlying163
 a138:=Tryz.isAgg163
 z138:=Tryz.sizeOf163
 v138:=Tryz.zeroValue163
 t139:=Tryz.underlying164
 a139:=Tryz.isAgg164
 z139:=Tryz.sizeOf164
 v139:=Tryz.zeroValue164
 g3:=by kernel_rfl
 g4:=by kernel_rfl }
open Go.RowKit in
theorem Tryz.strings_TrimRight_one (s:ByteArray) (c:UInt8) (hc:c.toNat<128) (w:World) (hs:s.size<=9223372036854775807) :
  Calls Tryz.prog 139 #[.string s,.string ⟨#[c]⟩] w fun e w'=>e=.returned (.string ⟨(Lib.trimRightB s.data.toList c).toArray⟩)/\w'=w:=Any.strings_TrimRight_one J37 s c hc w hs
end Go.Proofs
set_option maxRecDepth 100000
set_option maxHeartbeats 2000000
namespace Go.LX
open Go Go.RowKit Go.Proofs
attribute [local irreducible] Al SWP Bi
theorem Kaa (s:List UInt8):Det cx 138 [.p (.str s),.p (.str [48])] [] (.p (.str (Jr9 s))) []:=by
 refine Jr1 (v:=.string ⟨⟨Jr9 s⟩⟩) (enters_of Tryz.func138 kr rfl) rfl (fun β w Im=>PRep.str _) fun β Im w vs hg hf=>?_
 obtain ⟨v,u,rfl,h1,h2⟩:=fit2 hf;cases Ks h1;cases Ks h2;refine (Tryz.strings_TrimLeft_one ⟨⟨s⟩⟩ 48 de w).mono fun e w' ⟨h,hw⟩=>⟨h,by subst hw;exact Below.refl _ _⟩
theorem J7y (s:List UInt8) (hs:s.length<=9223372036854775807):Det cx 139 [.p (.str s),.p (.str [48])] [] (.p (.str (Jqy s))) []:=by
 refine Jr1 (v:=.string ⟨⟨Jqy s⟩⟩) (enters_of Tryz.func139 kr rfl) rfl (fun β w Im=>PRep.str _) fun β Im w vs hg hf=>?_
 obtain ⟨v,u,rfl,h1,h2⟩:=fit2 hf;cases Ks h1;cases Ks h2;refine (Tryz.strings_TrimRight_one ⟨⟨s⟩⟩ 48 de w hs).mono fun e w' ⟨h,hw⟩=>⟨h,by subst hw;exact Below.refl _ _⟩
theorem J4v (neg:Bool) (s:List UInt8) (e:Int) (hs:s.length<=1000000) :
  Det cx 90 [.p (.bool neg),.p (.str s),.p (.int .i64 e)] [] (.tup [.agg (make neg s e).1.pv,.int .i64 (make neg s e).2]) []:=by
 have hl:=J9r s;have hr:=Jx4 (Jr9 s);(refine bgo Tryz.func90 ?_;simp only [go_sem,simprocAttr]);(repeat' (first|(apply iteI<;>intro h)|((first|(refine Jqa (J78 _ omg) ?_)|(refine Jqa (Kaa _) ?_)|(refine Jqa (J7y _ omg) ?_)|(refine Jqa (Kcv _ _ omg omg) ?_));simp only [go_sem,simprocAttr])|fail))
 all_goals (try simp (disch:=omega) only [Aa,Qs,Ab,Jlh,Mf,Ja0,Jcc,Ja7,Jak] at *)
 ·simp [make, *,Jt3,Jth]
 ·simp [make, *,Jt3,Jth]
 ·simp [make, *,Jt3,Jth]
 ·simp [make, *,Jt3,Jth]
 ·simp [make, *,Jt3,Jth]
 ·rw [J41] at h;by_cases c1:e+((Jr9 s).length - (Jqy (Jr9 s)).length) < -1000
  ·simp [make, *,Jt3,Jth]
  ·have c2:1000<((Jqy (Jr9 s)).length:Int)+(e+((Jr9 s).length - (Jqy (Jr9 s)).length)):=by omega
   simp [make, *,Jt3,Jth]
 ·rw [J41] at h;have c1:¬ e+((Jr9 s).length - (Jqy (Jr9 s)).length) < -1000:=by omega
  have c2:¬ 1000<((Jqy (Jr9 s)).length:Int)+(e+((Jr9 s).length - (Jqy (Jr9 s)).length)):=by omega
  simp [make, *,Jt3,Jth]
theorem J8y {i:Nat} (h:i<10 ^ 20):(make false (Lib.decDigits i) 0).2=0/\[(make false (Lib.decDigits i) 0).1.pv]=valL ((numV i).enc []):=by
 have hl:=Xk 19 i omg;have hfg:Jqr (Lib.decDigits i)=true:=by
  rw [J4a];unfold Pk;rw [Ebw];intro c hc;have:=Jmj i c hc;unfold isDg at this;simp [Ja8,this.1,this.2]
 by_cases h0:i=0
 ·subst h0;have hd:Lib.decDigits 0=[48]:=by rw [Lib.decDigits];rfl
  have hs:(Jr9 (Lib.decDigits 0)).length=0:=by rw [hd];rfl
  have e0:valL ((numV 0).enc [])=[[.int .i64 3,.int .i64 0,.str [],.str [],.bool false,.int .i64 0]]:=by
   unfold numV;rw [if_pos rfl,A6,Bl];rfl
  rw [e0];unfold make;rw [if_neg (by rw [hfg];decide),if_pos hs];exact ⟨rfl,rfl⟩
 ·have hs:Jr9 (Lib.decDigits i)=Lib.decDigits i:=by
   refine J68 fun e=>?_
   cases hd:Lib.decDigits i with
   | nil=>exact absurd hd (U6 i)
   | cons c r =>
    rw [hd,Jy3] at e;exact h0 (Jg0 i c r hd e).2
  have hp:=Jv8 h0;have hsl:=Jx4 (Lib.decDigits i);have e0:valL ((numV i).enc [])=[[.int .i64 3,.int .i64 0,.str [],.str (Jqy (Lib.decDigits i)),.bool false,.int .i64 (((Lib.decDigits i).length - (Jqy (Lib.decDigits i)).length:Nat):Int)]]:=by
   unfold numV;rw [if_neg h0,A6,Bl];rfl
  have em:make false (Lib.decDigits i) 0=({ Jt3 with kind:=3,s:=Jqy (Lib.decDigits i),neg:=false,e:=(0:Int)+((Lib.decDigits i).length - (Jqy (Lib.decDigits i)).length) },0):=by
   unfold make;rw [if_neg (by rw [hfg];decide),hs,if_neg omg,if_neg omg,if_neg omg];simp only;rw [if_neg omg,if_neg omg,if_neg omg]
  rw [em,e0];refine ⟨rfl,?_⟩;have ee:(0:Int)+(((Lib.decDigits i).length:Int) - ((Jqy (Lib.decDigits i)).length:Int))=(((Lib.decDigits i).length - (Jqy (Lib.decDigits i)).length:Nat):Int):=by omega
  rw [ee];rfl
end Go.LX
namespace Go.LX
open Go Go.RowKit Go.Proofs
attribute [local irreducible] Al SWP Bi
theorem J5c (s:List UInt8) (g:Bool) (e:Int) (kids:Forest) (hv:kids.enc.length<=1350000000000):Det cx 86 [.p (.sl (valL ((Tree.mk 6 s g e kids).enc [])))] [] (.p (.sl (Bd kids.list))) []:=J56 [] s g e kids omg
theorem J2j (k:Int) (s:List UInt8) (g:Bool) (e:Int) (kids:Forest) (hk:¬ k=6):Det cx 86 [.p (.sl (valL ((Tree.mk k s g e kids).enc [])))] [] (.p .snil) []:=by
 have e6:=eq_false hk;(refine bgo Tryz.func86 ?_;simp only [go_sem,simprocAttr,Cc,e6])
 skip
theorem J80 (key x:Tree) (h1:(key.enc []).length<=600000000000) (h2:(x.enc []).length<=600000000000):Det cx 89 [.p (.sl [[.str [107,101,121]],[.str [118,97,108,117,101]]]),.p (.sl [[.sl (valL (key.enc []))],[.sl (valL (x.enc []))]])] [] (.tup [.sl (valL ((Jso key x).enc [])),.int .i64 0]) []:=by
 have hlen:(A1 [(sKey,key),(sVal,x)]).enc.length=(key.enc []).length+(x.enc []).length:=by
  rw [show A1 [(sKey,key),(sVal,x)]=.cons sKey key (.cons sVal x .nil) from rfl,A0,A0,Bl,Eac,Eac,G7 key,G7 x];rfl
 have hO:=J3r [(sKey,key),(sVal,x)] omg (by
   intro p hp;simp only [Eaj,Ebc,or_false] at hp;rcases hp with rfl | rfl
   ·exact ⟨(by decide:valid sKey=true),(by decide:sKey.length<=1000000)⟩
   ·exact ⟨(by decide:valid sVal=true),(by decide:sVal.length<=1000000)⟩) (by simp [sKey,sVal])
 have his:Lp [(sKey,key),(sVal,x)]=[(sKey,key),(sVal,x)]:=by
  have hlt:Op.bytesLess sVal sKey=false:=by decide
  have hlt2:Op.bytesLess sKey sVal=true:=by decide
  simp [Lp,putL,hlt,hlt2]
 rw [his] at hO;exact hO
theorem J5b (u:Nat):Lib.itoa (u:Int)=Lib.decDigits u:=by unfold Lib.itoa;rw [if_neg omg];simp
theorem J95 (v:Tree) (ok:okT v) (hv:(v.enc []).length<=450000000000):Det cx 41 [.p (.sl (valL (v.enc [])))] [] (getR (toE v)) []:=by
 have hP:=Jwu v omg;have hsz:=Jq1 v;have hsl:=Jrh (Jqe v);obtain ⟨k,s,g,e,kids⟩:=v;have hgv:=Cc [] k s g e kids;have hkt:Jqe (.mk k s g e kids)=kids.list.map (·.2):=rfl;have hktl:(Jqe (.mk k s g e kids)).length=kids.list.length:=by rw [hkt,Ea9]
 have h9:((Tree.mk k s g e kids).enc []).length=kids.enc.length+1:=by rw [A6,List.length_cons]
 have hkx:∀ {i:Nat} {p:KT},kids.list[i]? = some p->(Jqd (Jqe (.mk k s g e kids)))[i]? = some [.sl (valL (p.2.enc []))]:=fun {i p} h=>Jq5 (by rw [hkt,Eam,h];rfl)
 have hps:∀ p∈kids.list,(p.2.enc []).length<=450000000000:=fun p hp=>by
  have:=Jr0 (show p.2∈Jqe (.mk k s g e kids) from Eap.2 ⟨p,hp,rfl⟩);omega
 have hKL:(Jqd (Jqe (.mk k s g e kids))).length=kids.list.length:=by rw [Jqf,hktl]
 by_cases k6:k=6
 ·subst k6;have hN:=J5c s g e kids omg;have hsE:Jqn (Jr6 kids.list)<=1350000000000:=by have:=Jvu kids.list;rw [<- hkt] at this;omega
  have hL:=Jtp (Jr6 kids.list) hsE;rw [show toE (.mk 6 s g e kids)=.ok (listT (Jr6 kids.list)) from rfl,getR];have hel:(Jr6 kids.list).length=kids.list.length:=by unfold Jr6;simp
  have heg:∀ {i:Nat} {p:KT},kids.list[i]? = some p->(Jr6 kids.list)[i]? = some (Jso (strT p.1) p.2):=fun {i p} h=>by unfold Jr6;rw [Eam,h];rfl
  have hgn:∀ {i:Nat} {p:KT},kids.list[i]? = some p->(Bd kids.list)[i]? = some [.str p.1]:=fun {i p} h=>by simp [Bd,h]
  generalize Jqd (Jqe (.mk 6 s g e kids))=KL at *
  generalize valL ((Tree.mk 6 s g e kids).enc [])=V at *
  generalize Jr6 kids.list=E at *
  (refine bgo Tryz.func41 ?_;simp only [go_sem,simprocAttr,hgv]);(repeat' (first|((first|refine Jqa hN ?_|refine Jqa hP ?_);simp only [go_sem,simprocAttr,hKL])|fail));refine Jqg (Jrw _ (i:=5) (d:=57) 25 1 (.inl de) rfl) ?_;simp only [St.nilOwn,St.nilReg,go_sem,simprocAttr,hgv,hKL];refine SWP.loop (fun i:Nat=>⟨Ba 61 [(0,.p (.sl V)),(4,.p (.sl (Bd kids.list))),(5,.own 57 0 i),(21,.p (.sl KL)),(22,.p (.int .i64 kids.list.length)),(23,.p (.int .i64 i))],[(57,.row 25 1 (Jqd (E.take i)))]⟩) (fun i=>i<=kids.list.length) (fun i=>kids.list.length - i) 0 Jqc (Eav _) ?_;rintro i hi;by_cases hlt:i<kids.list.length
  ·have c1:((i:Int)<(kids.list.length:Int))=True:=eq_true omg;obtain ⟨p,hp⟩:∃ p,kids.list[i]? = some p:=⟨_,Eaa hlt⟩
   have hpm:=Eae hp;have g1:=hkx hp;have g2:=hgn hp;have g3:=heg hp;have hI:=N0 (i:Int) omg omg;rw [J5b] at hI;obtain ⟨m0,m1⟩:=J8y (i:=i) omg;have hM:=J4v false (Lib.decDigits i) 0 (by have:=Xk 19 i omg;omega);rw [m0] at hM;have hT:=J5u p.1;have hEn:=J80 (strT p.1) p.2 (by rw [Jy8];omega) (by have:=hps p hpm;omega);have hln:(Jqd (E.take i)).length=i:=by rw [Jqf,Eaw];omega
   have htk:Jqd (E.take (i+1))=Jqd (E.take i) ++ [[.sl (valL ((Jso (strT p.1) p.2).enc []))]]:=by rw [Jry g3,Jrl];rfl
   rw [Jth] at hM;(refine lws ?_;simp only [go_sem,simprocAttr,c1,g1,wj1 (i:=i) omg]);(repeat' (first|(refine And.intro (by first|(simp;done)|(simp;omega)) ?_)|refine Jqj ?_|((first|refine Jqa hI ?_|refine Jqa hM ?_|refine Jqa hT ?_|refine Jqa hEn ?_);simp only [go_sem,simprocAttr,hgv,g2,hln,wj1 (i:=i) omg])|fail))
   all_goals exact ⟨i+1,by omega,by omega,by rw [htk];exact Jqc⟩
  ·obtain rfl:i=kids.list.length:=by omega
   have c1:((kids.list.length:Int)<(kids.list.length:Int))=False:=eq_false omg;have ht1:E.take kids.list.length=E:=Ead omg;have ht2:(Jqd E).take kids.list.length=Jqd E:=Ead (by rw [Jqf];omega);have hle:(kids.list.length<=(Jqd E).length)=True:=eq_true (by rw [Jqf];omega);(refine lws ?_;simp only [go_sem,simprocAttr,c1,ht1,ht2,hle]);(repeat' (first|((refine Jqa hL ?_);simp only [go_sem,simprocAttr])|fail))
 ·by_cases k5:k=5
  ·subst k5;have hN:=J2j 5 s g e kids de;have hsE:Jqn (Jr3 0 kids.list)<=1350000000000:=by have:=Jwj kids.list 0;rw [<- hkt] at this;omega
   have hL:=Jtp (Jr3 0 kids.list) hsE;rw [show toE (.mk 5 s g e kids)=.ok (listT (Jr3 0 kids.list)) from rfl,getR];have hel:(Jr3 0 kids.list).length=kids.list.length:=J0a;have heg:∀ {i:Nat} {p:KT},kids.list[i]? = some p->(Jr3 0 kids.list)[i]? = some (Jso (numV i) p.2):=fun {i p} h=>by have:=Jzs (i:=0) h;rw [Ebk] at this;exact this
   generalize Jqd (Jqe (.mk 5 s g e kids))=KL at *
   generalize valL ((Tree.mk 5 s g e kids).enc [])=V at *
   generalize Jr3 0 kids.list=E at *
   (refine bgo Tryz.func41 ?_;simp only [go_sem,simprocAttr,hgv]);(repeat' (first|((first|refine Jqa hN ?_|refine Jqa hP ?_);simp only [go_sem,simprocAttr,hKL])|fail));refine Jqg (Jrw _ (i:=5) (d:=57) 25 1 (.inl de) rfl) ?_;simp only [St.nilOwn,St.nilReg,go_sem,simprocAttr,hgv,hKL];refine SWP.loop (fun i:Nat=>⟨Ba 61 [(0,.p (.sl V)),(5,.own 57 0 i),(21,.p (.sl KL)),(22,.p (.int .i64 kids.list.length)),(23,.p (.int .i64 i))],[(57,.row 25 1 (Jqd (E.take i)))]⟩) (fun i=>i<=kids.list.length) (fun i=>kids.list.length - i) 0 Jqc (Eav _) ?_;rintro i hi;by_cases hlt:i<kids.list.length
   ·have c1:((i:Int)<(kids.list.length:Int))=True:=eq_true omg;obtain ⟨p,hp⟩:∃ p,kids.list[i]? = some p:=⟨_,Eaa hlt⟩
    have hpm:=Eae hp;have g1:=hkx hp;have g3:=heg hp;have hI:=N0 (i:Int) omg omg;rw [J5b] at hI;obtain ⟨m0,m1⟩:=J8y (i:=i) omg;have hM:=J4v false (Lib.decDigits i) 0 (by have:=Xk 19 i omg;omega);rw [m0] at hM;have hEn:=J80 (numV i) p.2 (by rw [J5s];omega) (by have:=hps p hpm;omega);rw [<- m1] at hEn;have hln:(Jqd (E.take i)).length=i:=by rw [Jqf,Eaw];omega
    have htk:Jqd (E.take (i+1))=Jqd (E.take i) ++ [[.sl (valL ((Jso (numV i) p.2).enc []))]]:=by rw [Jry g3,Jrl];rfl
    rw [Jth] at hM hEn;(refine lws ?_;simp only [go_sem,simprocAttr,c1,g1,wj1 (i:=i) omg]);(repeat' (first|(refine And.intro (by first|(simp;done)|(simp;omega)) ?_)|refine Jqj ?_|((first|refine Jqa hI ?_|refine Jqa hM ?_|refine Jqa hEn ?_);simp only [go_sem,simprocAttr,hgv,hln,wj1 (i:=i) omg])|fail))
    all_goals exact ⟨i+1,by omega,by omega,by rw [htk];exact Jqc⟩
   ·obtain rfl:i=kids.list.length:=by omega
    have c1:((kids.list.length:Int)<(kids.list.length:Int))=False:=eq_false omg;have ht1:E.take kids.list.length=E:=Ead omg;have ht2:(Jqd E).take kids.list.length=Jqd E:=Ead (by rw [Jqf];omega);have hle:(kids.list.length<=(Jqd E).length)=True:=eq_true (by rw [Jqf];omega);(refine lws ?_;simp only [go_sem,simprocAttr,c1,ht1,ht2,hle]);(repeat' (first|((refine Jqa hL ?_);simp only [go_sem,simprocAttr])|fail))
  ·have hkk:=J1c ok;have c5:(k<5)=True:=eq_true omg;rw [show toE (.mk k s g e kids)=.error 5 by unfold toE;simp [Tree.kind,k5,k6],getR];generalize valL ((Tree.mk k s g e kids).enc [])=V at *
   (refine bgo Tryz.func41 ?_;simp only [go_sem,simprocAttr,hgv,c5])
   all_goals rfl
end Go.LX
namespace Go.LX
open Go
theorem Kjz {a b:RT} {nm:List UInt8}:(two a b).enc nm=⟨4,2,nm,[],0,Juf⟩ :: (a.enc [] ++ b.enc []):=by
 unfold two;rw [Jqs,Jqv,Jqv,Jsd,Eaz];rfl
end Go.LX
namespace Go.LX
open Go Go.RowKit Go.Proofs
attribute [local irreducible] Al SWP Bi
theorem Kim:∀ {l out:List KT},Rise (out ++ l)->Jt2 (Jr6 l) out=some (out ++ l)
 | [],out,_=>by rw [Eaz];rfl
 | p :: l,out,h=>by
  rw [show Jr6 (p :: l)=Jso (strT p.1) p.2 :: Jr6 l from rfl,Jt2,Kj1 (Ki9 p.1 p.2)];have hlt:∀ q∈out,Op.bytesLess q.1 p.1=true:=fun q hq=>(Eb6.1 h).2.2 q hq p Eaf
  simp only;rw [Kik (fun q hq=>bl_ne (hlt q hq)),Kjg hlt,Kim (l:=l) (out:=out ++ [(p.1,p.2)]) (by rw [Ea2];exact h),Ea2];rfl
theorem Kjq {t:Tree} (ok:okT t) (hk:t.kind=6):t=nd 6 t.kids.list/\Rise t.kids.list:=by
 obtain ⟨k,s,g,e,kids⟩:=t;have hk:k=6:=hk;subst hk;obtain ⟨h1,h2,_⟩:=Lu.1 ok;simp [G3] at h1;obtain ⟨rfl,rfl,rfl⟩:=h1;exact ⟨by unfold nd;rw [show (Tree.mk 6 [] false 0 kids).kids=kids from rfl,G1],h2.2.2 rfl⟩
theorem Kja {v:Tree} (ok:okT v) (hk:v.kind=6):toE v=.ok (listT (Jr6 v.kids.list))/\Jud (listT (Jr6 v.kids.list))=.ok v:=by
 obtain ⟨h1,h2⟩:=Kjq ok hk;refine ⟨by unfold toE;rw [if_pos hk],?_⟩;unfold Jud;rw [if_pos (Kin _),Khq,Kim (out:=[]) (by exact h2)];exact congrArg Except.ok h1.symm
theorem Ki8 {p:List Step} {l ks:List Tree} (h:Jru p l=.ok ks):ks.length=l.length/\∀ S:List Nat,(∀ i∈S,i<l.length)->Jru p (Jqo l S)=.ok (Jqo ks S):=by
 have hget:∀ {l ks:List Tree},Jru p l=.ok ks->ks.length=l.length/\∀ i,i<l.length->Jrd p (Jq3 l i)=.ok (Jq3 ks i):=by
  intro l
  induction l with
  | nil=>intro ks h;rw [Jru] at h;cases h;exact ⟨rfl,fun i hi=>absurd hi (Nat.not_lt_zero i)⟩
  | cons t l ih =>
   intro ks h;rw [Jru] at h;cases hf:Jrd p t with
   | error e=>rw [hf] at h;cases h
   | ok u =>
    rw [hf] at h;cases hk:Jru p l with
    | error e=>rw [hk] at h;cases h
    | ok us =>
     rw [hk] at h;cases h;obtain ⟨a,b⟩:=ih hk;refine ⟨by simp [a],fun i hi=>?_⟩;cases i with
     | zero=>exact hf
     | succ i=>exact b i (by simpa using hi)
 obtain ⟨hl,hg⟩:=hget h;refine ⟨hl,fun S=>?_⟩
 induction S with
 | nil=>intro _;rfl
 | cons i S ih =>
  intro hS;rw [show Jqo l (i :: S)=Jq3 l i :: Jqo l S from rfl,Jru,hg i (hS i Eaf),ih fun j hj=>hS j (Eag _ hj)];rfl
theorem Kjd {s:List UInt8} {v y:Tree} (hv:okT v) (h:Jte false s v=.ok y):Jte false s y=.ok y/\(y.enc []).length=(v.enc []).length:=by
 by_cases hk:v.kind=5
 ·cases hke:Jru (Je s).1 (Jqe v) with
  | error e=>rw [Kcd hk hke] at h;cases h
  | ok ks =>
   rw [Kg9 hk hke] at h;cases h;obtain ⟨hl,hp⟩:=Ki8 hke;obtain ⟨okk,_,_⟩:=Jzo (Jyu hv) hke;have hS:∀ i∈Jra ks,i<(Jqe v).length:=fun i hi=>by have:=Jsz.1 hi;omega
   have hk2:=hp _ hS;have hpo:okK (Jqo ks (Jra ks)):=fun x hx=>okk x ((Kjv rfl x).1 hx)
   have hso:=Kiu hpo (Kiq okk);refine ⟨?_,?_⟩
   ·rw [Kg9 (Kin _) (by rw [Khq];exact hk2),Khq,hso];have e:(Jqo ks (Jra ks)).length=(Jqo (Jqe v) (Jra ks)).length:=by simp [Jqo]
    rw [e,J9s]
   ·have:=Kio hv hk;rw [Jsb,Jxo hl]
    conv=>rhs;rw [<- this]
    rw [Jsb]
 ·rw [J7i hk] at h;cases h
theorem Khr {a b:RT} {v:Tree}:Jql (two a b) v=match Jql a v with
  | .error e=>.error e
  | .ok x=>Jql b x:=by
 unfold two;rw [Jww,J9p,J9p,Kcl];show (match Jql a v with
  | .error e=>.error e
  | .ok x=>Jql b x:Except Nat Tree)=_
 cases Jql a v <;> rfl
def opQ (k:Int):RT:=.mk k [] 0 Juf .nil
theorem Khp (v:Tree):Jql (opQ 14) v=revE v:=by unfold opQ;rw [Jww];rfl
theorem Kif (v:Tree):Jql (opQ 10) v=toE v:=by unfold opQ;rw [Jww];rfl
theorem Kie (v:Tree):Jql (opQ 11) v=Jud v:=by unfold opQ;rw [Jww];rfl
theorem Kjn (v:Tree) (hg:GT v) (hv:(v.enc []).length<=1000):Det cx 12 [.p (.sl (rowL ((opQ 14).enc []))),.p (.sl (valL (v.enc [])))] [] (getR (Jql (opQ 14) v)) []:=by
 have hT:=J1o [] 14 [] 0 Juf .nil de;have hF:=J7v v hg.1 hg.2 omg;have hg0:(rowL ((RT.mk 14 [] 0 Juf .nil).enc []))[0]? = some [.int .i64 14,.int .i64 0,.str [],.str [],.int .i64 0,.int .i64 0,.int .i64 0,.str [],.str [],.bool false,.int .i64 0]:=rfl;rw [Khp];unfold opQ;rw [Jqz] at hF ⊢;generalize rowL ((RT.mk 14 [] 0 Juf .nil).enc [])=rows at *
 (refine bgo Tryz.func12 ?_;simp only [go_sem,simprocAttr,hg0]);(repeat' (first|((first|refine Jqa hT ?_|refine Jqa hF ?_);simp only [go_sem,simprocAttr])|fail))
theorem ev_toE (v:Tree) (hg:GT v) (hv:(v.enc []).length<=1000):Det cx 12 [.p (.sl (rowL ((opQ 10).enc []))),.p (.sl (valL (v.enc [])))] [] (getR (Jql (opQ 10) v)) []:=by
 have hT:=J1o [] 10 [] 0 Juf .nil de;have hF:=J95 v hg.1 omg;have hg0:(rowL ((RT.mk 10 [] 0 Juf .nil).enc []))[0]? = some [.int .i64 10,.int .i64 0,.str [],.str [],.int .i64 0,.int .i64 0,.int .i64 0,.str [],.str [],.bool false,.int .i64 0]:=rfl;rw [Kif];unfold opQ;rw [Jqz] at hF ⊢;generalize rowL ((RT.mk 10 [] 0 Juf .nil).enc [])=rows at *
 (refine bgo Tryz.func12 ?_;simp only [go_sem,simprocAttr,hg0]);(repeat' (first|((first|refine Jqa hT ?_|refine Jqa hF ?_);simp only [go_sem,simprocAttr])|fail))
theorem Kjo (v:Tree) (hg:GT v) (hv:(v.enc []).length<=1000):Det cx 12 [.p (.sl (rowL ((opQ 11).enc []))),.p (.sl (valL (v.enc [])))] [] (getR (Jql (opQ 11) v)) []:=by
 have hT:=J1o [] 11 [] 0 Juf .nil de;have hF:=J5v v hg.1 hg.2 omg;have hg0:(rowL ((RT.mk 11 [] 0 Juf .nil).enc []))[0]? = some [.int .i64 11,.int .i64 0,.str [],.str [],.int .i64 0,.int .i64 0,.int .i64 0,.str [],.str [],.bool false,.int .i64 0]:=rfl;rw [Kie];unfold opQ;rw [Jqz] at hF ⊢;generalize rowL ((RT.mk 11 [] 0 Juf .nil).enc [])=rows at *
 (refine bgo Tryz.func12 ?_;simp only [go_sem,simprocAttr,hg0]);(repeat' (first|((first|refine Jqa hT ?_|refine Jqa hF ?_);simp only [go_sem,simprocAttr])|fail))
theorem Kju (a b:RT) (v:Tree) (hl:(a.enc []).length+(b.enc []).length<=1000) (I0:Det cx 12 [.p (.sl (rowL (a.enc []))),.p (.sl (valL (v.enc [])))] [] (getR (Jql a v)) []) (I1:∀ x,Jql a v=.ok x->Det cx 12 [.p (.sl (rowL (b.enc []))),.p (.sl (valL (x.enc [])))] [] (getR (Jql b x)) []):Det cx 12 [.p (.sl (rowL ((two a b).enc []))),.p (.sl (valL (v.enc [])))] [] (getR (Jql (two a b) v)) []:=by
 have hT:=J1o [] 4 [] 0 Juf (.cons [] a (.cons [] b .nil)) (by rw [Jqv,Jqv,Jsd,Eaz,Eac];omega);have hg0:(rowL ((two a b).enc []))[0]? = some [.int .i64 4,.int .i64 2,.str [],.str [],.int .i64 0,.int .i64 0,.int .i64 0,.str [],.str [],.bool false,.int .i64 0]:=by rw [Kjz];rfl
 have g0:(Jrk (RF.cons [] a (.cons [] b .nil)).list)[0]? = some [.sl (rowL (a.enc []))]:=rfl;have g1:(Jrk (RF.cons [] a (.cons [] b .nil)).list)[1]? = some [.sl (rowL (b.enc []))]:=rfl;change Det cx _ [.p (.sl (rowL ((two a b).enc [])))] [] _ [] at hT;rw [Khr];generalize rowL ((two a b).enc [])=rows at *
 generalize Jrk (RF.cons [] a (.cons [] b .nil)).list=parts at *
 cases hx:Jql a v with
 | error e =>
  rw [hx,getR] at I0;simp only [getR];rcases Jy4 _ a v e (Eai _) hx with rfl | rfl
  ·(refine bgo Tryz.func12 ?_;simp only [go_sem,simprocAttr,hg0]);(repeat' (first|((first|refine Jqa hT ?_|refine Jqa I0 ?_);simp only [go_sem,simprocAttr,g0])|fail))
   all_goals rfl
  ·(refine bgo Tryz.func12 ?_;simp only [go_sem,simprocAttr,hg0]);(repeat' (first|((first|refine Jqa hT ?_|refine Jqa I0 ?_);simp only [go_sem,simprocAttr,g0])|fail))
   all_goals rfl
 | ok x =>
  have I1:=I1 x hx;rw [hx,getR] at I0;simp only;rw [Jqz] at I1 ⊢;(refine bgo Tryz.func12 ?_;simp only [go_sem,simprocAttr,hg0]);(repeat' (first|((first|refine Jqa hT ?_|refine Jqa I0 ?_|refine Jqa I1 ?_);simp only [go_sem,simprocAttr,g0,g1])|fail))
theorem Kjw {v:Tree} (ok:okT v) (hk:v.kind=5):Jql (two (opQ 14) (opQ 14)) v=.ok v:=by
 have hb:=Kio ok hk;rw [Khr,Khp];have e1:revE v=.ok (listT (Jqe v).reverse):=by
  obtain ⟨k,s,g,e,kids⟩:=v;have hk:k=5:=hk;subst hk;rfl
 rw [e1];show Jql (opQ 14) _=_;rw [Khp];have e2:∀ l:List Tree,revE (listT l)=.ok (listT l.reverse):=fun l=>by
  show (.ok (listT (Jqe (listT l)).reverse):Except Nat Tree)=_;rw [Khq]
 rw [e2,List.reverse_reverse,hb]
theorem Kj4 {v:Tree} (ok:okT v) (hk:v.kind=4):Jql (two (opQ 14) (opQ 14)) v=.ok v:=by
 obtain ⟨k,s,g,e,kids⟩:=v;have hk:k=4:=hk;subst hk;obtain ⟨h1,_,_⟩:=Lu.1 ok;unfold G3 at h1;rw [if_neg omg,if_neg omg,if_pos rfl] at h1;obtain ⟨h4,h3,rfl,rfl⟩:=h1;have h5:kids=.nil:=by cases kids with
  | nil=>rfl
  | cons a b c=>simp [Forest.len] at h3;omega
 subst h5;rw [Khr,Khp];show Jql (opQ 14) (strT (Jrx s).reverse.flatten)=_;rw [Khp];show (.ok (strT (Jrx (Jrx s).reverse.flatten).reverse.flatten):Except Nat Tree)=_;rw [Kj3 h4];rfl
theorem Kjs {v:Tree} (hk:v.kind=0):Jql (two (opQ 14) (opQ 14)) v=.ok (listT []):=by
 obtain ⟨k,s,g,e,kids⟩:=v;have hk:k=0:=hk;subst hk;rw [Khr,Khp];rfl
theorem Ki7 {v:Tree} (h0:v.kind≠0) (h5:v.kind≠5) (h4:v.kind≠4):Jql (two (opQ 14) (opQ 14)) v=.error 5:=by
 obtain ⟨k,s,g,e,kids⟩:=v;have h0:k≠0:=h0;have h4:k≠4:=h4;have h5:k≠5:=h5;rw [Khr,Khp,revE,if_neg h0,if_neg h5,if_neg h4]
theorem Kjp {v:Tree} (ok:okT v) (hk:v.kind=6):Jql (two (opQ 10) (opQ 11)) v=.ok v:=by
 obtain ⟨h1,h2⟩:=Kja ok hk;rw [Khr,Kif,h1];show Jql (opQ 11) _=_;rw [Kie,h2]
theorem Kix (u:List Node) (s:List UInt8) (hu:ValFit u) (hs:s.length<=9223372036854775807):Det cx 7 [.p (.sl (valL u)),.p (.str s)] [] (.p (.bool true)) []:=by
 have hG:=Ln u 40 omg (by have:=hu.len;omega) hu.node;cases b1:fewB u 40 with
 | false =>
  rw [b1] at hG;(refine bgo Tryz.func7 ?_;simp only [go_sem,simprocAttr]);(repeat' (first|((first|refine Jqa hG ?_|refine Jqa Jsw ?_);simp only [go_sem,simprocAttr])|fail))
 | true =>
 rw [b1] at hG;by_cases h60:s.length<=60
 case neg =>
  have c1:((60:Int)<(s.length:Int))=True:=eq_true omg;(refine bgo Tryz.func7 ?_;simp only [go_sem,simprocAttr]);(repeat' (first|((first|refine Jqa hG ?_|refine Jqa Jsw ?_);simp only [go_sem,simprocAttr,c1])|fail))
 case pos =>
 have c1:((60:Int)<(s.length:Int))=False:=eq_false omg;have hR:=Kbs [⟨13,0,[],s,0,Juf⟩] sm (fun n hn=>by
  simp only [Eaj,Ebc,or_false] at hn;subst hn;exact ⟨by simp only;omega,by simp,⟨by simp [Juf],by simp [Juf],by simp [Juf]⟩⟩)
 have hrow:rowL [⟨13,0,[],s,0,Juf⟩]=[[.int .i64 13,.int .i64 0,.str [],.str s,.int .i64 0,.int .i64 0,.int .i64 0,.str [],.str [],.bool false,.int .i64 0]]:=rfl;cases b2:Jtz [⟨13,0,[],s,0,Juf⟩] with
 | false =>
  rw [b2,hrow] at hR;(refine bgo Tryz.func7 ?_;simp only [go_sem,simprocAttr]);(repeat' (first|((first|refine Jqa hG ?_|refine Jqa hR ?_|refine Jqa Jsw ?_);simp only [go_sem,simprocAttr,c1])|fail))
 | true =>
 rw [b2,hrow] at hR;obtain ⟨x,hx,rfl,hxl,hxf⟩:=Fw hu b1;have hgx:GT x:=⟨hx,hxf⟩
 have e1:=Kju (opQ 14) (opQ 14) x de (Kjn x hgx omg) (fun y hy=>by
  rw [Khp] at hy;have:=Kgv hgx hy;exact Kjn y this.1 (by have:=this.2;omega))
 have e2:=Kje s omg x hgx omg;have e4:=Kju (opQ 10) (opQ 11) x de (ev_toE x hgx omg) (fun y hy=>by
  rw [Kif] at hy;have:=toE_gt hgx omg hy;exact Kjo y this.1 (by have:=this.2;omega))
 have hS:=E2 (x.enc []) (x.enc []) omg omg;rw [decide_eq_true rfl] at hS;have r1:rowL ((two (opQ 14) (opQ 14)).enc [])=[[.int .i64 4,.int .i64 2,.str [],.str [],.int .i64 0,.int .i64 0,.int .i64 0,.str [],.str [],.bool false,.int .i64 0],[.int .i64 14,.int .i64 0,.str [],.str [],.int .i64 0,.int .i64 0,.int .i64 0,.str [],.str [],.bool false,.int .i64 0],[.int .i64 14,.int .i64 0,.str [],.str [],.int .i64 0,.int .i64 0,.int .i64 0,.str [],.str [],.bool false,.int .i64 0]]:=rfl;have r2:rowL ((srtQ 13 s).enc [])=[[.int .i64 13,.int .i64 0,.str [],.str s,.int .i64 0,.int .i64 0,.int .i64 0,.str [],.str [],.bool false,.int .i64 0]]:=rfl;have r4:rowL ((two (opQ 10) (opQ 11)).enc [])=[[.int .i64 4,.int .i64 2,.str [],.str [],.int .i64 0,.int .i64 0,.int .i64 0,.str [],.str [],.bool false,.int .i64 0],[.int .i64 10,.int .i64 0,.str [],.str [],.int .i64 0,.int .i64 0,.int .i64 0,.str [],.str [],.bool false,.int .i64 0],[.int .i64 11,.int .i64 0,.str [],.str [],.int .i64 0,.int .i64 0,.int .i64 0,.str [],.str [],.bool false,.int .i64 0]]:=rfl;rw [r1] at e1;rw [r2,Khs] at e2;rw [r4] at e4;by_cases k6:x.kind=6
 ·rw [Ki7 omg omg omg,getR] at e1;rw [J7i omg,getR] at e2;rw [Kjp hx k6,getR] at e4;obtain ⟨k,t,g,e,kids⟩:=x;have k6:k=6:=k6;subst k6;have g0:=Cc [] 6 t g e kids;generalize valL ((Tree.mk 6 t g e kids).enc [])=V at *
  (refine bgo Tryz.func7 ?_;simp only [go_sem,simprocAttr]);(repeat' (first|((first|refine Jqa hG ?_|refine Jqa hR ?_|refine Jqa e1 ?_|refine Jqa e2 ?_|refine Jqa e4 ?_|refine Jqa hS ?_|refine Jqa Jsw ?_);simp only [go_sem,simprocAttr,c1,g0])|fail))
 have hE:∃ R:L,getR (Jql (two (opQ 10) (opQ 11)) x)=R:=⟨_,rfl⟩
 by_cases k5:x.kind=5
 ·rw [Kjw hx k5,getR] at e1;cases hso2:Jte false s x with
  | error er =>
   rw [hso2,getR] at e2;obtain ⟨k,t,g,e,kids⟩:=x;have k5:k=5:=k5;subst k5;have g0:=Cc [] 5 t g e kids;have her:er=5\/er=6:=Jy4 _ (srtQ 13 s) _ er (Eai _) (by rw [Khs];exact hso2);cases he:Jql (two (opQ 10) (opQ 11)) (.mk 5 t g e kids) with
   | error e' =>
    rw [he,getR] at e4;generalize valL ((Tree.mk 5 t g e kids).enc [])=V at *
    rcases her with rfl | rfl
    ·(refine bgo Tryz.func7 ?_;simp only [go_sem,simprocAttr]);(repeat' (first|((first|refine Jqa hG ?_|refine Jqa hR ?_|refine Jqa e1 ?_|refine Jqa e2 ?_|refine Jqa e4 ?_|refine Jqa hS ?_|refine Jqa Jsw ?_);simp only [go_sem,simprocAttr,c1,g0])|fail))
    ·(refine bgo Tryz.func7 ?_;simp only [go_sem,simprocAttr]);(repeat' (first|((first|refine Jqa hG ?_|refine Jqa hR ?_|refine Jqa e1 ?_|refine Jqa e2 ?_|refine Jqa e4 ?_|refine Jqa hS ?_|refine Jqa Jsw ?_);simp only [go_sem,simprocAttr,c1,g0])|fail))
   | ok w =>
    rw [he,getR] at e4;generalize valL ((Tree.mk 5 t g e kids).enc [])=V at *
    rcases her with rfl | rfl
    ·(refine bgo Tryz.func7 ?_;simp only [go_sem,simprocAttr]);(repeat' (first|((first|refine Jqa hG ?_|refine Jqa hR ?_|refine Jqa e1 ?_|refine Jqa e2 ?_|refine Jqa e4 ?_|refine Jqa hS ?_|refine Jqa Jsw ?_);simp only [go_sem,simprocAttr,c1,g0])|fail))
    ·(refine bgo Tryz.func7 ?_;simp only [go_sem,simprocAttr]);(repeat' (first|((first|refine Jqa hG ?_|refine Jqa hR ?_|refine Jqa e1 ?_|refine Jqa e2 ?_|refine Jqa e4 ?_|refine Jqa hS ?_|refine Jqa Jsw ?_);simp only [go_sem,simprocAttr,c1,g0])|fail))
  | ok y =>
   obtain ⟨hy2,hyl⟩:=Kjd hx hso2;have hgy:=(Kds hgx hso2).1;have e3:=Kje s omg y hgy omg;have hSy:=E2 (y.enc []) (y.enc []) omg omg;rw [decide_eq_true rfl] at hSy;rw [r2,Khs,hy2,getR] at e3;rw [hso2,getR] at e2;have hvl:(valL (y.enc [])).length=(valL (x.enc [])).length:=by rw [A7,A7,hyl]
   obtain ⟨k,t,g,e,kids⟩:=x;have k5:k=5:=k5;subst k5;have g0:=Cc [] 5 t g e kids;cases he:Jql (two (opQ 10) (opQ 11)) (.mk 5 t g e kids) with
   | error e' =>
    rw [he,getR] at e4;generalize valL ((Tree.mk 5 t g e kids).enc [])=V at *
    generalize valL (y.enc [])=Y at *
    (refine bgo Tryz.func7 ?_;simp only [go_sem,simprocAttr]);(repeat' (first|((first|refine Jqa hG ?_|refine Jqa hR ?_|refine Jqa e1 ?_|refine Jqa e2 ?_|refine Jqa e3 ?_|refine Jqa e4 ?_|refine Jqa hS ?_|refine Jqa hSy ?_|refine Jqa Jsw ?_);simp only [go_sem,simprocAttr,c1,g0,hvl])|fail))
   | ok w =>
    rw [he,getR] at e4;generalize valL ((Tree.mk 5 t g e kids).enc [])=V at *
    generalize valL (y.enc [])=Y at *
    (refine bgo Tryz.func7 ?_;simp only [go_sem,simprocAttr]);(repeat' (first|((first|refine Jqa hG ?_|refine Jqa hR ?_|refine Jqa e1 ?_|refine Jqa e2 ?_|refine Jqa e3 ?_|refine Jqa e4 ?_|refine Jqa hS ?_|refine Jqa hSy ?_|refine Jqa Jsw ?_);simp only [go_sem,simprocAttr,c1,g0,hvl])|fail))
 rw [J7i k5,getR] at e2;by_cases k4:x.kind=4
 ·rw [Kj4 hx k4,getR] at e1;obtain ⟨k,t,g,e,kids⟩:=x;have k4:k=4:=k4;subst k4;have g0:=Cc [] 4 t g e kids;cases he:Jql (two (opQ 10) (opQ 11)) (.mk 4 t g e kids) with
  | error e' =>
   rw [he,getR] at e4;generalize valL ((Tree.mk 4 t g e kids).enc [])=V at *
   (refine bgo Tryz.func7 ?_;simp only [go_sem,simprocAttr]);(repeat' (first|((first|refine Jqa hG ?_|refine Jqa hR ?_|refine Jqa e1 ?_|refine Jqa e2 ?_|refine Jqa e4 ?_|refine Jqa hS ?_|refine Jqa Jsw ?_);simp only [go_sem,simprocAttr,c1,g0])|fail))
  | ok w =>
   rw [he,getR] at e4;generalize valL ((Tree.mk 4 t g e kids).enc [])=V at *
   (refine bgo Tryz.func7 ?_;simp only [go_sem,simprocAttr]);(repeat' (first|((first|refine Jqa hG ?_|refine Jqa hR ?_|refine Jqa e1 ?_|refine Jqa e2 ?_|refine Jqa e4 ?_|refine Jqa hS ?_|refine Jqa Jsw ?_);simp only [go_sem,simprocAttr,c1,g0])|fail))
 by_cases k0:x.kind=0
 ·rw [Kjs k0,getR] at e1;obtain ⟨k,t,g,e,kids⟩:=x;have k0:k=0:=k0;subst k0;have g0:=Cc [] 0 t g e kids;cases he:Jql (two (opQ 10) (opQ 11)) (.mk 0 t g e kids) with
  | error e' =>
   rw [he,getR] at e4;generalize valL ((Tree.mk 0 t g e kids).enc [])=V at *
   (refine bgo Tryz.func7 ?_;simp only [go_sem,simprocAttr]);(repeat' (first|((first|refine Jqa hG ?_|refine Jqa hR ?_|refine Jqa e1 ?_|refine Jqa e2 ?_|refine Jqa e4 ?_|refine Jqa Jsw ?_);simp only [go_sem,simprocAttr,c1,g0])|fail))
  | ok w =>
   rw [he,getR] at e4;generalize valL ((Tree.mk 0 t g e kids).enc [])=V at *
   (refine bgo Tryz.func7 ?_;simp only [go_sem,simprocAttr]);(repeat' (first|((first|refine Jqa hG ?_|refine Jqa hR ?_|refine Jqa e1 ?_|refine Jqa e2 ?_|refine Jqa e4 ?_|refine Jqa Jsw ?_);simp only [go_sem,simprocAttr,c1,g0])|fail))
 rw [Ki7 k0 k5 k4,getR] at e1;obtain ⟨k,t,g,e,kids⟩:=x;have g0:=Cc [] k t g e kids;have q0:(k=0)=False:=eq_false k0;have q4:(k=4)=False:=eq_false k4;have q5:(k=5)=False:=eq_false k5;have q6:(k=6)=False:=eq_false k6;have p0:(k == 0)=false:=beq_false_of_ne k0;have p4:(k == 4)=false:=beq_false_of_ne k4;have p5:(k == 5)=false:=beq_false_of_ne k5;cases he:Jql (two (opQ 10) (opQ 11)) (.mk k t g e kids) with
 | error e' =>
  rw [he,getR] at e4;generalize valL ((Tree.mk k t g e kids).enc [])=V at *
  (refine bgo Tryz.func7 ?_;simp only [go_sem,simprocAttr]);(repeat' (first|((first|refine Jqa hG ?_|refine Jqa hR ?_|refine Jqa e1 ?_|refine Jqa e2 ?_|refine Jqa e4 ?_|refine Jqa Jsw ?_);simp only [go_sem,simprocAttr,c1,g0,q6,p0,p4,p5])|fail))
 | ok w =>
  rw [he,getR] at e4;generalize valL ((Tree.mk k t g e kids).enc [])=V at *
  (refine bgo Tryz.func7 ?_;simp only [go_sem,simprocAttr]);(repeat' (first|((first|refine Jqa hG ?_|refine Jqa hR ?_|refine Jqa e1 ?_|refine Jqa e2 ?_|refine Jqa e4 ?_|refine Jqa Jsw ?_);simp only [go_sem,simprocAttr,c1,g0,q6,p0,p4,p5])|fail))
end Go.LX
