/- The program of the seat, for the laws on strings that are written; its tables. -/
import Derived.Test.YtmejkfclabmijaaGreatDoorPathBackLxD
import Derived.Test.YtmejkfclabmijaaGreatDoorPathBackLxE
import Derived.Test.YtmejkfclabmijaaGreatDoorPathBackLxG
import Derived.Lib.Builder
import Derived.Shelf.Spec.TrailingZeros
set_option linter.unusedSimpArgs false
set_option linter.unusedVariables false
set_option linter.unusedSectionVars false
set_option linter.unnecessarySimpa false
set_option maxRecDepth 100000
namespace Go.LX
open Go Go.RowKit Go.Proofs
def ErrAt (g:Nat) (w:World):Prop:=∃ te pe,w.cell? ⟨g,0,none⟩=some (.iface te pe)
theorem gPow:Tryz.prog.globalNamed "internal/strconv.uint64pow10" = some 5:=by kernel_rfl
structure QuoteG (w:World) (Im:Nat→Prop):Prop where
 tabs:Lib.Utf8Tabs 0 1 w
 syn:ErrAt 3 w
 rng:ErrAt 4 w
 tz:TabAt 7 Lib.deBruijn64tab w
 pow:Lib.TabIs Tryz.prog w "internal/strconv.uint64pow10" .u64 Lib.pow10Tab
 i1:Im 0
 i2:Im 1
 i3:Im 3
 i4:Im 4
 i5:Im 7
 i6:Im 5
theorem QuoteG.mono {w w':World} {Im Im':Nat→Prop} (hk:Keeps w Im w' Im') (h:QuoteG w Im):QuoteG w' Im' where
 tabs:=by
  refine ⟨fun c hc=>(hk.cell (a:=⟨_,c,none⟩) h.i1).trans (h.tabs.1 c hc),fun i hi=>⟨(hk.cell (a:=⟨_,_,none⟩) h.i2).trans (h.tabs.2 i hi).1,(hk.cell (a:=⟨_,_,none⟩) h.i2).trans (h.tabs.2 i hi).2⟩⟩
 syn:=by obtain ⟨te,pe,e⟩:=h.syn;exact ⟨te,pe,(hk.cell (a:=⟨_,0,none⟩) h.i3).trans e⟩
 rng:=by obtain ⟨te,pe,e⟩:=h.rng;exact ⟨te,pe,(hk.cell (a:=⟨_,0,none⟩) h.i4).trans e⟩
 tz:=fun j hj=>(hk.cell (a:=⟨_,j,none⟩) h.i5).trans (h.tz j hj)
 pow:=by
  have:=h.pow
  unfold Lib.TabIs World.var? at this ⊢
  rw [gPow] at this ⊢
  simp only [Option.bind_some] at this ⊢
  rw [hk.block _ h.i6]
  exact this
 i1:=hk.im _ h.i1
 i2:=hk.im _ h.i2
 i3:=hk.im _ h.i3
 i4:=hk.im _ h.i4
 i5:=hk.im _ h.i5
 i6:=hk.im _ h.i6
def kindOf (f:Nat):Nat:=if f=225 then 1 else if f=251 then 1 else if f=234 then 2 else if f=125 then 1 else if f=193 then 3 else if f=195 then 3 else if f=127 then 1 else if f=128 then 1 else 0
noncomputable def cx:Cx:=⟨Tryz.prog,QuoteG,QuoteG.mono,kindOf⟩
theorem Ca:cx.P=Tryz.prog:=(rfl)
theorem Bu {f:Nat}:cx.kind f=if f=225 then 1 else if f=251 then 1 else if f=234 then 2 else if f=125 then 1 else if f=193 then 3 else if f=195 then 3 else if f=127 then 1 else if f=128 then 1 else 0:=(rfl)
theorem Jld {w:World} {Im:Nat→Prop} (h:cx.G w Im):QuoteG w Im:=h
end Go.LX
namespace Go.LX
open Go
structure Node where
 kind:Int
 many:Int
 name:List UInt8
 s:List UInt8
 neg:Bool
 e:Int
def Node.cells (n:Node):List PV:=[.int .i64 n.kind,.int .i64 n.many,.str n.name,.str n.s,.bool n.neg,.int .i64 n.e]
def valL (v:List Node):List (List PV):=v.map Node.cells
mutual
inductive Tree where
 | mk (kind:Int) (s:List UInt8) (neg:Bool) (e:Int) (kids:Forest)
inductive Forest where
 | nil
 | cons (name:List UInt8) (t:Tree) (rest:Forest)
end
def Forest.len:Forest→Nat
 | .nil=>0
 | .cons _ _ r=>r.len+1
mutual
def Tree.enc (name:List UInt8):Tree→List Node
 | .mk k s g e kids=>⟨k,kids.len,name,s,g,e⟩ :: kids.enc
def Forest.enc:Forest→List Node
 | .nil=>[]
 | .cons nm t r=>t.enc nm ++ r.enc
end
def Forest.app:Forest→Forest→Forest
 | .nil,g=>g
 | .cons nm t r,g=>.cons nm t (r.app g)
theorem Forest.len_app:∀ f g:Forest,(f.app g).len=f.len+g.len
 | .nil,g=>by simp [Forest.app,Forest.len]
 | .cons nm t r,g=>by simp only [Forest.app,Forest.len,Forest.len_app r g];omega
theorem Forest.enc_app:∀ f g:Forest,(f.app g).enc=f.enc ++ g.enc
 | .nil,g=>by simp [Forest.app,Forest.enc]
 | .cons nm t r,g=>by simp only [Forest.app,Forest.enc,Forest.enc_app r g,List.append_assoc]
theorem Ga {name:List UInt8} {k:Int} {s:List UInt8} {g:Bool} {e:Int} {kids:Forest}:(Tree.mk k s g e kids).enc name=⟨k,kids.len,name,s,g,e⟩ :: kids.enc:=by rw [Tree.enc]
theorem Er {nm:List UInt8} {t:Tree} {r:Forest}:(Forest.cons nm t r).enc=t.enc nm ++ r.enc:=by rw [Forest.enc]
theorem Jf:Forest.nil.enc=[]:=by rw [Forest.enc]
theorem Rx (t:Tree) (nm:List UInt8):1≤(t.enc nm).length:=by
 cases t;rw [Ga];simp
theorem Forest.len_le:∀ f:Forest,f.len≤f.enc.length
 | .nil=>by simp [Forest.len]
 | .cons nm t r=>by
  have:=Rx t nm
  have:=Forest.len_le r
  rw [Er,List.length_append,Forest.len]
  omega
@[simp] theorem Iz (v:List Node):(valL v).length=v.length:=by simp [valL]
theorem Z3 (n:Node) (v:List Node):valL (n :: v)=n.cells :: valL v:=rfl
theorem valL_nil:valL []=[]:=rfl
theorem U3 (a b:List Node):valL (a ++ b)=valL a ++ valL b:=by simp [valL]
theorem M1 {k m:Int} {nm s:List UInt8} {g:Bool} {e:Int}:Node.cells ⟨k,m,nm,s,g,e⟩=[.int .i64 k,.int .i64 m,.str nm,.str s,.bool g,.int .i64 e]:=rfl
theorem Ou (v:List Node):∀ q∈valL v,q.length=6:=by
 intro q hq
 obtain ⟨n,_,rfl⟩:=List.mem_map.1 hq
 rfl
theorem Jga {v:List Node} {i:Nat} {a b:List Node} (h:v.drop i=a ++ b):((valL v).drop i).take a.length=valL a:=by
 have:(valL v).drop i=valL a ++ valL b:=by rw [← U3,← h];simp [valL,List.map_drop]
 rw [this]
 simp
theorem Ot {v:List Node} {i:Nat} {n:Node} {b:List Node} (h:v.drop i=n :: b):(valL v)[i]? = some n.cells:=by
 have:v[i]? = some n:=by
  have:=congrArg (·[0]?) h
  simpa using this
 simp [valL,this]
theorem Jca {v:List Node} {i:Nat} {a:List Node} (h:v.drop i=a) (ha:a≠[]):i+a.length=v.length:=by
 have:=congrArg List.length h
 simp at this
 have:1≤a.length:=by cases a <;> simp_all
 omega
def Forest.list:Forest→List (List UInt8×Tree)
 | .nil=>[]
 | .cons nm t r=>(nm,t) :: r.list
theorem Forest.list_len:∀ f:Forest,f.list.length=f.len
 | .nil=>rfl
 | .cons _ _ r=>by simp [Forest.list,Forest.len,Forest.list_len r]
end Go.LX
set_option maxRecDepth 100000
set_option maxHeartbeats 2000000
namespace Go.LX
open Go Go.RowKit Go.Proofs
attribute [local irreducible] Bz SWP Gm
theorem wj1 {i:Nat} (h:i≤3000000):IntKind.i64.wrap ((i:Int)+1)=((i+1:Nat):Int):=by rw [Aa (by omega) (by omega)];omega
theorem R5 (v:List Node):Det cx 129 [.p (.sl (valL v))] [] (.fn 197 [900]) [(900,.var 34 [.p (.sl (valL v))])]:=by
 (refine Bz.of_code (X:=cx) true [(1,900)] (by simp) Tryz.func129 (by kernel_rfl) rfl (by simp only [List.length_cons,List.length_nil,Tryz.ntmps129];decide) (by simp) ?_;refine Ax hm _ _ _ ?_;simp only [Tryz.ntmps129,Tryz.results129,Ah,Bn,Cn,Ab,Bd,A0,Bb,Cs,Be,Az,v_nfn,Ai,Jbm,T0,Bp,u_kfn,Jq1,Je6,Jbo,Jax,P3,T7,Cr,Lz,Bk,E8,Dy,B3,E3,Tk,F9,Xe,Jx,Aw,Ao,D2,K6,Hl,Af,Ct,F3,Fa,Dx,C9,C8,Ar,B1,E6,Ds,Fl,Db,A2,Ad,Ac,Bl,Cg,Bf,A6,argW,List.map_cons,List.map_nil,Nat.reduceLT,Nat.reduceEqDiff,Ca,↓reduceIte,and_self])
theorem Q3 {nm:List UInt8} {t:Tree} {r:Forest}:(Forest.cons nm t r).len=r.len+1:=rfl
theorem Jk2 (v:List Node) (i:Nat) (nm:List UInt8) (t:Tree) (rest:List Node) (hv:v.length≤1000000) (h:v.drop i=t.enc nm ++ rest):Det cx 198 [.p (.sl (valL v)),.p (.int .i64 i)] [] (.p (.int .i64 (i+(t.enc nm).length:Nat))) []:=by
 (refine Bz.of_code (X:=cx) false [] (by simp) Tryz.func198 (by kernel_rfl) rfl (by simp only [List.length_cons,List.length_nil,Tryz.ntmps198];decide) (by simp) ?_;refine Ax hm _ _ _ ?_;simp only [Tryz.ntmps198,Tryz.results198,Ah,Bn,Ci,H9,Ab,Bd,A0,Bb,Az,Cb,Ai,Ad,argW,List.map_cons,List.map_nil,Ca,Nat.zero_add])
 have hp:=Rx t nm
 have hb:=Jca h (fun e=>by have e2:(t.enc nm ++ rest).length=0:=(by rw [e];rfl);rw [List.length_append] at e2;omega)
 rw [List.length_append] at hb
 refine SWP.loop (fun x:Nat×Nat×Forest=>⟨Fo 19 [(0,.p (.sl (valL v))),(1,.p (.int .i64 x.1)),(5,.p (.int .i64 x.2.1))],[]⟩) (fun x=>x.2.1=x.2.2.len∧v.drop x.1=x.2.2.enc ++ rest∧x.1+x.2.2.enc.length=i+(t.enc nm).length) (fun x=>x.2.2.enc.length) (i,1,.cons nm t .nil) (St.le_slots (by simp only [Ck,Cm,Ac,Bj,Au,Nat.reduceEqDiff,reduceIte,Nat.reduceLT,Nat.reduceLeDiff];simp (disch:=omega) [Au,Bc,Cq,Aa] <;> (repeat' apply And.intro) <;> omega) (by simp (disch:=omega) [Dj,Eo,Dg,Bh,Au,Bc,Cq,Aa]) (by simp [Dk])) ⟨rfl,by simp [Er,Jf,h],by simp [Er,Jf]⟩ ?_
 rintro ⟨j,left,F⟩ ⟨h0,h1,h2⟩
 simp only at h0 h1 h2
 match F,h0,h1,h2 with
 | .nil,h0,h1,h2 =>
  rw [Jf] at h2
  simp only [Forest.len] at h0
  subst h0
  (refine Ax hm _ _ _ ?_;simp only [Ch,Ah,Bn,Bs,Ci,Fd,Cn,Ab,Co,B4,Bd,A0,Bb,Be,Az,Cb,Ba,Ai,B8,Cp,Br,Av,B0,Aq,Js,B7,D7,Ag,Ae,A3,Bt,Cy,Cz,A7,A8,B9,Aw,Ao,Al,B5,B6,Af,Am,Ap,Cl,A1,A2,Ad,Ac,Ea,List.map_cons,List.map_nil,decide_eq_true_eq,Nat.reduceLT,Nat.reduceEqDiff,true_and,and_true,Ca,↓reduceIte,reduceCtorEq,Int.toNat_natCast,Int.natCast_nonneg,L.p.injEq,PV.int.injEq,Bool.true_and,Bool.and_true,Bool.or_true,Jk])
  (repeat' (first | (refine iteI (fun h=>?_) (fun h=>?_))|(refine B2 (by first | omega | (simp (disch:=omega) only [Aa,Ak,Aj] at *;omega)) ?_;intro b hb)|(refine And.intro (by first | omega | (simp (disch:=omega) only [Aa,Ak,Aj] at *;omega)) ?_)|((first | (refine A9 hm (by rfl) (by kernel_rfl) ?_));simp only [Dm])|(exact True.intro)|(exfalso;omega)))
  simp only [List.length_nil] at h2
  omega
 | .cons nm' (.mk k s g e kids) r,h0,h1,h2 =>
  rw [Q3] at h0
  rw [Er,Ga] at h1 h2
  have hg:=Ot h1
  rw [M1] at hg
  simp only [List.length_cons,List.length_append] at h2
  have hl1:=Forest.len_le kids
  have hl2:=Forest.len_le r
  have w0:IntKind.i64.wrap ((kids.len:Int) - 1)=(kids.len:Int) - 1:=Aa (by omega) (by omega)
  have w1:IntKind.i64.wrap ((left:Int)+((kids.len:Int) - 1))=((r.len+kids.len:Nat):Int):=by rw [Aa (by omega) (by omega)];omega
  skip
  (refine Ax hm _ _ _ ?_;simp only [Ch,Ah,Bn,Bs,Ci,Fd,Cn,Ab,Co,Bo,B4,Bd,A0,Bb,Be,Az,Cb,Ba,Ai,B8,D5,C2,Cp,Bg,Br,Av,B0,Aq,Hb,Nn,Js,Eh,B7,D7,He,Cv,Gi,C5,C4,Ag,Ae,A3,Bt,Cy,Cz,A7,A8,B9,Aw,Ao,Al,B5,B6,Af,Am,Ap,Cl,A1,A2,Ad,Ac,Ea,List.map_cons,List.map_nil,List.length_cons,List.length_nil,List.drop_succ_cons,List.drop_zero,List.getElem?_cons_zero,decide_eq_true_eq,Nat.reduceLT,Nat.reduceLeDiff,Nat.reduceEqDiff,Nat.reduceAdd,true_and,and_true,Ca,↓reduceIte,reduceCtorEq,Int.toNat_natCast,Int.natCast_nonneg,Nat.zero_add,L.p.injEq,PV.int.injEq,Bool.true_and,Bool.and_true,Bool.or_false,Bool.or_true,Om,Mj,Jk,Kj,wj1 (i:=j) (by omega),hg,w0,w1])
  (repeat' (first | (refine iteI (fun h=>?_) (fun h=>?_))|(refine B2 (by first | omega | (simp (disch:=omega) only [Aa,Ak,Aj] at *;omega)) ?_;intro b hb)|(refine And.intro (by first | omega | (simp (disch:=omega) only [Aa,Ak,Aj] at *;omega)) ?_)|((first | (refine A9 hm (by rfl) (by kernel_rfl) ?_));simp only [Dm])|(exact True.intro)|(exfalso;omega)))
  ·exact ⟨(j+1,r.len+kids.len,kids.app r),⟨by simp only [Forest.len_app];omega,by
    simp only [Forest.enc_app]
    rw [← List.drop_drop,h1];simp,by simp only [Forest.enc_app,List.length_append];omega⟩,by simp only [Forest.enc_app,Er,Ga,List.length_append,List.length_cons];omega,(St.le_slots (by simp only [Ck,Cm,Ac,Bj,Au,Nat.reduceEqDiff,reduceIte,Nat.reduceLT,Nat.reduceLeDiff];simp (disch:=omega) [Au,Bc,Cq,Aa] <;> (repeat' apply And.intro) <;> omega) (by simp (disch:=omega) [Dj,Eo,Dg,Bh,Au,Bc,Cq,Aa]) (by simp [Dk]))⟩
theorem Jot (c:List PV) (cs:List (List PV)) (h6:∀ q∈c :: cs,q.length=6) (hl:cs.length≤1000000):Det cx 199 [.p (.sl (c :: cs))] [] (.own 900 0 (cs.length+1)) [(900,.row 53 6 (c :: cs))]:=by
 (refine Bz.of_code (X:=cx) true [(7,900)] (by simp) Tryz.func199 (by kernel_rfl) rfl (by simp only [List.length_cons,List.length_nil,Tryz.ntmps199];decide) (by simp) ?_;refine Ax hm _ _ _ ?_;simp only [Tryz.ntmps199,Tryz.results199,Ch,Ah,Bn,Bs,Cn,Ab,Bd,A0,Bb,Cs,Be,Az,E1,Ba,Ai,B8,Di,Fy,Bp,Br,c_slcC,u_n_sl,Rl,B0,Aq,Cr,G1,Ag,Bk,E8,C1,B3,Dl,Hq,Ek,Ib,Jm,Ii,Dh,Jl,Gz,H7,G0,F1,Pr,Lu,Gb,Km,Jx,Aw,Ao,D2,K6,Hl,Af,Ct,F3,Fa,Dx,C9,C8,Ar,B1,Cw,E6,G2,F5,A2,Ad,Ac,Bl,Cg,Bf,A6,argW,List.map_cons,List.map_nil,List.length_cons,List.length_nil,List.nil_append,Nat.reduceLT,Nat.reduceLeDiff,Nat.reduceEqDiff,Nat.reduceAdd,Nat.reduceMul,true_and,and_true,Ca,↓reduceIte,reduceCtorEq,Nat.zero_add,Bool.false_eq_true,Bool.true_and,Bool.and_true,Bool.or_true,and_self,Qb,Jk,Rr,Xa])
 (repeat' (first | (refine iteI (fun h=>?_) (fun h=>?_))|(refine B2 (by first | omega | (simp (disch:=omega) only [Aa,Ak,Aj] at *;omega)) ?_;intro b hb)|(refine And.intro (by first | omega | (simp (disch:=omega) only [Aa,Ak,Aj] at *;omega)) ?_)|((first | (refine A9 hm (by rfl) (by kernel_rfl) ?_));simp only [Dm])|(exact True.intro)|(exfalso;omega)))
 omega
def Mh (f:Forest):List (List PV):=f.list.map fun p=>[.str p.1,.sl (valL (p.2.enc []))]
theorem Oc (f:Forest):(Mh f).length=f.len:=by simp [Mh,Forest.list_len]
theorem Jc2 (nm:List UInt8) (kd:Int) (s:List UInt8) (g:Bool) (e:Int) (kids:Forest) (hv:kids.enc.length≤999999):Jf3 cx 197 [.eptr [.sl (valL ((Tree.mk kd s g e kids).enc nm))]] (Mh kids):=by
 have hl:=Forest.len_le kids
 generalize hvv:(Tree.mk kd s g e kids).enc nm=v
 have h0:v.drop 0=⟨kd,kids.len,nm,s,g,e⟩ :: kids.enc:=by rw [← hvv,Ga];rfl
 have hg0:=Ot h0
 rw [M1] at hg0
 have hvl:v.length=kids.enc.length+1:=by rw [← hvv,Ga];rfl
 skip
 (refine Jf3.of_code (X:=cx) Tryz.func197 (by kernel_rfl) rfl (by kernel_rfl) (by simp only [List.length_cons,List.length_nil,Tryz.ntmps197];decide) fun l=>?_;refine Yn _ _ _ _ ?_;simp only [Tryz.ntmps197,Bb,Be,Az,Cb,Ba,Ai,D5,C2,Cp,Bg,Eh,B7,D7,He,Cv,Gi,C5,C4,Ud,Ji0,Jbf,j_loop,Sc,Jem,Xm,Yg,Ze,X3,S6,S9,Ad,Ac,argW,List.map_cons,List.map_nil,List.length_cons,List.length_nil,List.drop_succ_cons,List.drop_zero,List.getElem?_cons_zero,Nat.reduceLT,Nat.reduceLeDiff,Nat.reduceEqDiff,Nat.reduceAdd,Int.reduceToNat,Int.reduceLE,true_and,Ca,↓reduceIte,reduceCtorEq,Nat.zero_add,Bool.true_and,Om,Mj,Qa,Mx,Jk,Kj,hg0])
 refine JWP.loop (fun x:Nat×Nat×Forest=>(some x.1,⟨Fo 34 [(0,.yld l),(1,.eptr [.sl (valL v)]),(3,.p (.int .i64 x.2.1)),(9,.p (.int .i64 kids.len)),(10,.p (.int .i64 x.1))],[]⟩)) (fun x=>x.1+x.2.2.len=kids.len∧v.drop x.2.1=x.2.2.enc∧x.2.1+x.2.2.enc.length=v.length∧(Mh kids).drop x.1=Mh x.2.2) (fun x=>x.2.2.enc.length) (0,1,kids) rfl (St.le_slots (by simp only [Ck,Cm,Ac,Bj,Au,Nat.reduceEqDiff,reduceIte,Nat.reduceLT,Nat.reduceLeDiff];simp (disch:=omega) [Au,Bc,Cq,Aa] <;> (repeat' apply And.intro) <;> omega) (by simp (disch:=omega) [Dj,Eo,Dg,Bh,Au,Bc,Cq,Aa]) (by simp [Dk])) ⟨by simp,by rw [← hvv,Ga];rfl,by simp only;omega,rfl⟩ ?_
 rintro ⟨k,j,F⟩ ⟨h1,h2,h3,h4⟩
 simp only at h1 h2 h3 h4 ⊢
 match F,h1,h2,h3,h4 with
 | .nil,h1,h2,h3,h4 =>
  simp only [Forest.len] at h1
  (refine Yn _ _ _ _ ?_;simp only [Bb,Be,Ce,Ba,B8,D5,Cc,Bg,Br,Av,Aq,D1,He,C5,C4,Ag,Ae,A3,Cd,Bv,Bm,Bx,Bw,A5,B3,Bi,Ay,A4,Cj,Jg6,Ud,Ji0,Jgm,Jbf,Jlf,Sc,Jgp,Jgu,Jem,Xm,Jbc,Jm5,Zq,Jhu,Yg,Jgl,X3,Ad,Ac,List.map_cons,List.map_nil,List.append_nil,List.flatMap_cons,List.flatMap_nil,List.getElem?_cons_zero,decide_eq_true_eq,Nat.reduceLT,Nat.reduceEqDiff,Ca,Bu,↓reduceIte,reduceCtorEq,Bool.or_false,Qa,Mx])
  (repeat' (first | (refine iteI (fun h=>?_) (fun h=>?_))|(refine B2 (by first | omega | (simp (disch:=omega) only [Aa,Ak,Aj] at *;omega)) ?_;intro b hb)|(refine And.intro (by first | omega | (simp (disch:=omega) only [Aa,Ak,Aj] at *;omega)) ?_)|((first | (refine A9 hm (by rfl) (by kernel_rfl) ?_));simp only [Dm])|(exact True.intro)|(exfalso;omega)))
  rw [Oc]
  exact .inl (by congr 1)
 | .cons nm' (.mk k' s' g' e' kids') r,h1,h2,h3,h4 =>
  rw [Q3] at h1
  rw [Er] at h2 h3
  rw [List.length_append] at h3
  have hs:=Jga h2
  rw [Ga] at h3
  simp only [List.length_cons] at h3
  have hs':((valL v).drop j).take (j+((Tree.mk k' s' g' e' kids').enc nm').length - j)=[.int .i64 k',.int .i64 kids'.len,.str nm',.str s',.bool g',.int .i64 e'] :: valL kids'.enc:=by
   rw [Nat.add_sub_cancel_left,hs,Ga,Z3,M1]
  have h2':=h2
  rw [Ga] at h2'
  have hg:=Ot h2'
  rw [M1] at hg
  have hel:((Tree.mk k' s' g' e' kids').enc nm').length=kids'.enc.length+1:=by rw [Ga];rfl
  have h6:∀ q∈[.int .i64 k',.int .i64 kids'.len,.str nm',.str s',.bool g',.int .i64 e'] :: valL kids'.enc,q.length=6:=fun q hq=>Ou ((Tree.mk k' s' g' e' kids').enc nm') q (by rw [Ga];exact hq)
  have htk:(valL kids'.enc).take kids'.enc.length=valL kids'.enc:=List.take_of_length_le (by simp)
  skip
  (refine Yn _ _ _ _ ?_;simp only [Bb,Be,Ce,Ba,B8,D5,Cc,Bg,Br,Av,Aq,D1,He,C5,C4,Ag,Ae,A3,Cd,Bv,Bm,Bx,Bw,A5,B3,Bi,Ay,A4,Cj,Jg6,Ud,Ji0,Jgm,Jbf,Jlf,Sc,Jgp,Jgu,Jem,Xm,Jbc,Jm5,Zq,Jhu,Yg,Jgl,X3,Ad,Ac,List.map_cons,List.map_nil,List.append_nil,List.flatMap_cons,List.flatMap_nil,List.getElem?_cons_zero,decide_eq_true_eq,Nat.reduceLT,Nat.reduceEqDiff,Ca,Bu,↓reduceIte,reduceCtorEq,Bool.or_false,Qa,Mx,wj1 (i:=k) (by omega)])
  (repeat' (first | (refine And.intro (Ou _) ?_)|(refine iteI (fun h=>?_) (fun h=>?_))|(refine B2 (by first | omega | (simp (disch:=omega) only [Aa,Ak,Aj] at *;omega)) ?_;intro b hb)|(refine And.intro (by first | omega | (simp (disch:=omega) only [Aa,Ak,Aj] at *;omega)) ?_)|((first | (refine A9 hm (by rfl) (by kernel_rfl) ?_)|(refine Det.use (Jk2 v j nm' (.mk k' s' g' e' kids') r.enc (by omega) h2) ?_)|(refine Det.useQ (Jk2 v j nm' (.mk k' s' g' e' kids') r.enc (by omega) h2) ?_)|(refine Det.use (Jot _ _ h6 (by rw [Iz];omega)) ?_)|(refine Det.useQ (Jot _ _ h6 (by rw [Iz];omega)) ?_));simp only [Bb,Dd,Cs,Be,Az,Ce,Cb,Hc,Ba,Ai,B8,Oo,D5,Gn,C2,Cp,Ft,Cc,Bp,Bg,Br,Av,B0,Aq,Hb,Jp,Eh,B7,D7,Kr,Ku,He,Cv,Gi,Gd,C5,C4,Ef,Fn,Jgq,Gy,Kx,Vb,T9,U4,Rs,Gl,Jc,Ob,Ag,Ae,A3,F8,Gq,Fk,Gs,Cd,Bv,Bm,Bx,Bw,A5,Bq,H4,Hv,Dn,Gc,Df,Gu,Hm,K8,E4,Gv,Jd,Bk,Gx,C1,B3,Dl,Il,Joy,Hq,Ek,Bi,Ay,A4,Ar,Cu,D8,Dv,Jg,Oy,Joh,Kb,Hy,Cj,Ds,Fl,Db,Hf,Jg6,Ud,Ji0,Jgm,j_ret,Sc,ks_ret,Jgd,kb_ret,Jem,Xm,Jbc,jc_yld,Jm5,jy,jy_at,Jf9,Joz,Jjs,j_bare,Jq5,Je1,jl_ret,Yg,Ze,Jgl,jp_un,X3,Jjf,S6,S9,Ji6,Ad,Ac,Dc,Cg,Bf,A6,List.map_cons,List.map_nil,List.length_cons,List.length_nil,List.cons_append,List.nil_append,List.append_nil,List.flatMap_cons,List.flatMap_nil,List.take_succ_cons,List.take_zero,List.drop_succ_cons,List.drop_zero,List.set_cons_zero,List.getElem?_cons_zero,ne_eq,not_false_eq_true,Nat.reduceLT,Nat.reduceLeDiff,Nat.reduceEqDiff,Nat.reduceAdd,Int.reduceToNat,Int.reduceLE,true_and,Ca,Bu,↓reduceIte,reduceCtorEq,Int.toNat_natCast,Int.natCast_nonneg,Nat.zero_add,Bool.not_true,Bool.not_false,Bool.false_eq_true,Bool.true_and,Bool.or_true,L9,Kw,Qb,Qa,Mx,Jk,Jfx,Tb,htk,Nat.le_refl,hg,hs',Iz,wj1 (i:=k) (by omega)])|(exact True.intro)|(exfalso;omega)))
  refine ⟨?_,⟨(k+1,j+((Tree.mk k' s' g' e' kids').enc nm').length,r),⟨by simp only;omega,by simp only;rw [← List.drop_drop,h2,List.drop_left],by simp only;omega,by simp only;rw [← List.drop_drop,h4];rfl⟩,by simp only [Er,List.length_append];omega,rfl,(St.le_slots (by simp only [Ck,Cm,Ac,Bj,Au,Nat.reduceEqDiff,reduceIte,Nat.reduceLT,Nat.reduceLeDiff];simp (disch:=omega) [Au,Bc,Cq,Aa] <;> (repeat' apply And.intro) <;> omega) (by simp (disch:=omega) [Dj,Eo,Dg,Bh,Au,Bc,Cq,Aa]) (by simp [Dk]))⟩,.inr trivial⟩
  have:=congrArg (·[0]?) h4
  simp only [List.getElem?_drop,Nat.add_zero] at this
  rw [this]
  simp [Mh,Forest.list,Ga,Z3,M1]
def El (l:List (List UInt8×Tree)):List (List PV):=l.map fun p=>[.sl (valL (p.2.enc []))]
@[simp] theorem Jqk:El []=[]:=rfl
theorem Qw {l:List (List UInt8×Tree)} {k:Nat} {p:List UInt8×Tree} (h:l[k]? = some p):El (l.take (k+1))=El (l.take k) ++ [[.sl (valL (p.2.enc []))]]:=by
 rw [List.take_add_one,h]
 simp [El]
theorem Pu {f:Forest} {k:Nat} {x:List PV} (h:(Mh f)[k]? = some x):∃ p,f.list[k]? = some p∧x=[.str p.1,.sl (valL (p.2.enc []))]:=by
 unfold Mh at h
 rw [List.getElem?_map] at h
 obtain ⟨p,h1,h2⟩:=Option.map_eq_some_iff.1 h
 exact ⟨p,h1,h2.symm⟩
theorem Po {f:Forest} {x:List PV} (h:x∈Mh f):x.length=2:=by
 obtain ⟨p,_,rfl⟩:=List.mem_map.1 h
 rfl
theorem E5 (l:List (List UInt8×Tree)):(El l).length=l.length:=by simp [El]
theorem Jba (nm:List UInt8) (kd:Int) (s:List UInt8) (g:Bool) (e:Int) (kids:Forest) (hv:kids.enc.length≤999999):Det cx 62 [.p (.sl (valL ((Tree.mk kd s g e kids).enc nm)))] [] (.p (.sl (El kids.list))) []:=by
 (refine Bz.of_code (X:=cx) false [] (by simp) Tryz.func62 (by kernel_rfl) rfl (by simp only [List.length_cons,List.length_nil,Tryz.ntmps62];decide) (by simp) ?_;refine Ax hm _ _ _ ?_;simp only [Tryz.ntmps62,Tryz.results62,Ah,Bn,Ab,Bd,A0,Bb,Cs,Be,Az,Ce,E1,Ba,Ai,H2,Cc,Bp,G7,H5,Cr,Ag,Ae,A3,Cd,Bv,Bm,Bx,Bw,A5,B3,Bi,Ay,A4,B1,E6,Cj,Ad,Ac,Bl,Bf,A6,argW,List.map_cons,List.map_nil,List.append_nil,List.flatMap_cons,List.flatMap_nil,Nat.reduceLT,Nat.reduceEqDiff,true_and,Ca,Bu,↓reduceIte,reduceCtorEq,Bool.true_and,Jop])
 (repeat' (first | (refine iteI (fun h=>?_) (fun h=>?_))|(refine B2 (by first | omega | (simp (disch:=omega) only [Aa,Ak,Aj] at *;omega)) ?_;intro b hb)|(refine And.intro (by first | omega | (simp (disch:=omega) only [Aa,Ak,Aj] at *;omega)) ?_)|((first | (refine A9 hm (by rfl) (by kernel_rfl) ?_)|(refine Det.use (R5 _) ?_)|(refine Det.useQ (R5 _) ?_));simp only [Ci,Ab,Bd,Cs,H4,Hv,Dn,G4,Gc,Df,Gu,Hm,K8,E4,E2,Hr,G9,Gv,Jd,Bk,I4,Gx,Fh,Fx,Dy,B3,E3,Tk,F9,Xe,Ar,Ds,Fl,Db,Ad,Cg,Bf,A6,List.map_cons,List.map_nil,List.cons_append,List.nil_append,decide_eq_true_eq,ne_eq,not_false_eq_true,Nat.reduceLT,Nat.reduceEqDiff,↓reduceIte])|(exact True.intro)|(exfalso;omega)))
 (refine SWP.range (Mh kids) 15 [(13,900)] (by simp) _ _ _ _ _ (fun k R=>R=if k=0 then [(1000,.var 44 [.p .snil])] else [(900,.row 34 1 (El (kids.list.take k))),(1000,.var 44 [.own 900 0 k])]) (fun _ _=>False) (by rfl) (by rfl) (by rfl) (Jc2 nm kd s g e kids hv) (by simp only [Gs,D8,Dv,Kt,Jg,Kb,Zk,Dc,Bf,A6,List.map_cons,List.map_nil,List.contains_cons,List.contains_nil,Nat.reduceEqDiff,↓reduceIte,Bool.or_false,beq_self_eq_true] <;> rfl) (by first | rfl | simp [Jz]) (by simp) ?hps (by simp only [Su,Sp,Nat.reduceAdd,Nat.zero_add] <;> rfl) (by simp only [Dt,B3,E3,Hq,F9,Jf6,Oa,Cg,Bf,A6,Nat.reduceLT,↓reduceIte] <;> rfl) (by simp only [Dt,F2,Ff,Fe,Dy,B3,List.map_cons,List.map_nil,↓reduceIte] <;> rfl) ?h0 ?hkI ?hkS ?hSn ?round ?done ?stop)
 case hps=>exact fun x hx=>Po hx
 case h0=>rfl
 case hkI=>rintro k R rfl;split <;> simp [Rz,findKey]
 case hkS=>exact fun _ _ h=>h.elim
 case hSn=>exact fun _ h=>h
 case stop=>exact fun _ _ h=>h.elim
 case round =>
  rintro k x R l hx rfl
  obtain ⟨p,hp,rfl⟩:=Pu hx
  by_cases hk:k=0
  ·subst hk
   rw [if_pos rfl]
   simp only [Bd,A0,Bb,Be,Ai,Rb,L3,Ml,Ad,Ac,List.map_cons,List.map_nil,Nat.reduceLT,↓reduceIte]
   (refine Ax hm _ _ _ ?_;simp only [Ah,Ci,Bo,Bd,A0,Bb,Dd,Cs,Be,Ba,D5,Gn,Di,Fy,Bp,Bg,C5,Da,Ej,Cr,Lz,Mm,Jw,Gl,Jc,Fj,Ag,Ae,A3,Bk,E8,Dy,C1,B3,E3,Dl,Hq,F9,Ek,Ib,Jm,Ii,Dh,Jl,Gz,G8,Ha,G6,H7,H1,G0,F1,G3,E7,Qq,F6,Jb,Af,Ct,F3,Fa,Dx,C9,C8,Ar,B1,Cw,Cu,Hw,Fv,E6,G2,H3,F5,Ds,Fl,Db,Hf,Ok,Ad,Ac,Bl,Cg,Bf,A6,List.map_cons,List.map_nil,List.length_cons,List.length_nil,List.nil_append,List.append_nil,List.take_succ_cons,List.take_zero,List.take_nil,List.drop_succ_cons,List.drop_zero,List.drop_nil,List.getElem?_cons_zero,ne_eq,not_false_eq_true,Nat.reduceLT,Nat.reduceLeDiff,Nat.reduceEqDiff,Nat.reduceMul,true_and,Ca,↓reduceIte,reduceCtorEq,Nat.zero_add,Bool.true_and,Bool.and_true,beq_self_eq_true,O1,Ty,Jar,Jad,Ld])
   (repeat' (first | (refine iteI (fun h=>?_) (fun h=>?_))|(refine B2 (by first | omega | (simp (disch:=omega) only [Aa,Ak,Aj] at *;omega)) ?_;intro b hb)|(refine And.intro (by first | omega | (simp (disch:=omega) only [Aa,Ak,Aj] at *;omega)) ?_)|((first | (refine A9 hm (by rfl) (by kernel_rfl) ?_));simp only [Dm])|(exact True.intro)|(exfalso;omega)))
   refine ⟨by simp,_,rfl,?_⟩
   rw [Qw hp]
   exact (St.le_slots (by simp only [Cm]) (by simp (disch:=omega) [Dj,Eo,Dg,Bh,Au,Bc,Cq,Aa]) (by simp [Dk]))
  ·rw [if_neg hk]
   have hkl:=(List.getElem?_eq_some_iff.1 hp).1
   rw [Forest.list_len] at hkl
   have hll:=Forest.len_le kids
   simp only [Bd,A0,Bb,Be,Ai,Rb,L3,Ml,Ad,Ac,List.map_cons,List.map_nil,Nat.reduceLT,↓reduceIte]
   (refine Ax hm _ _ _ ?_;simp only [Ah,Ci,Bo,Bd,A0,Bb,Dd,Cs,Be,Ba,D5,Gn,Di,Fy,Bp,Bg,C5,Da,Ej,Cr,G1,Lz,Mm,Jw,Gl,Jc,Fj,Ag,Ae,A3,Bk,E8,Dy,C1,B3,E3,Dl,Hq,F9,Ek,Ib,Jm,Ii,Dh,Jl,Gz,G8,Ha,G6,H7,H1,G0,F1,G3,E7,Gb,Km,F6,Jb,Af,Ct,F3,Fa,Dx,C9,C8,Ar,B1,Cw,Cu,Hw,Fv,E6,G2,H3,F5,Ds,Fl,Db,Hf,Ok,Ad,Ac,Bl,Cg,Bf,A6,List.map_cons,List.map_nil,List.length_cons,List.length_nil,List.nil_append,List.append_nil,List.take_succ_cons,List.take_zero,List.take_nil,List.drop_succ_cons,List.drop_zero,List.drop_nil,List.getElem?_cons_zero,ne_eq,not_false_eq_true,Nat.reduceLT,Nat.reduceLeDiff,Nat.reduceEqDiff,Nat.reduceMul,true_and,Ca,↓reduceIte,reduceCtorEq,Nat.zero_add,Bool.true_and,Bool.and_true,beq_self_eq_true,O1,Ty,Jar,Jad,Ld])
   (repeat' (first | (refine iteI (fun h=>?_) (fun h=>?_))|(refine B2 (by first | omega | (simp (disch:=omega) only [Aa,Ak,Aj] at *;omega)) ?_;intro b hb)|(refine And.intro (by first | omega | (simp (disch:=omega) only [Aa,Ak,Aj] at *;omega)) ?_)|((first | (refine A9 hm (by rfl) (by kernel_rfl) ?_));simp only [Dm])|(exact True.intro)|(exfalso;omega)))
   refine ⟨by simp,by rw [E5,List.length_take,Forest.list_len];omega,by omega,by omega,_,rfl,?_⟩
   rw [Qw hp]
   exact (St.le_slots (by simp only [Cm]) (by simp (disch:=omega) [Dj,Eo,Dg,Bh,Au,Bc,Cq,Aa]) (by simp [Dk]))
 case done =>
  rintro R rfl
  rw [Oc]
  have hll:=Forest.list_len kids
  by_cases hk:kids.len=0
  ·rw [if_pos hk]
   have hnil:kids.list=[]:=List.eq_nil_of_length_eq_zero (by omega)
   rw [hnil]
   simp only [J3,Fw,Df,Eb,Gu,G5,E4,E2,Fg,Fm,Fi,Gv,Ih,Dp,Bk,Dt,Dy,B3,Ar,List.map_cons,List.map_nil,List.nil_append,Nat.reduceLeDiff,Nat.reduceEqDiff,↓reduceIte]
   refine ⟨⟨Fo 15 [(3,.ptr 3 0 0)],[(3,.var 44 [.p (.sl [])])]⟩,(St.le_slots (by simp only [Ck,Cm,Ac,Bj,Au,Nat.reduceEqDiff,reduceIte,Nat.reduceLT,Nat.reduceLeDiff];simp (disch:=omega) [Au,Bc,Cq,Aa] <;> (repeat' apply And.intro) <;> omega) (by simp (disch:=omega) [Dj,Eo,Dg,Bh,Au,Bc,Cq,Aa]) (by simp [Dk])),?_⟩
   simp only [Ah,Bn,Cn,Ab,Bo,Bd,A0,Bb,Be,Ai,D5,Bg,C5,Da,Ej,Ag,Ae,A3,Bt,Cy,Cz,A7,A8,B9,Aw,Ao,Al,B5,B6,Af,Am,Ap,Cl,A1,Ar,A2,Ad,Ac,List.map_cons,List.map_nil,List.getElem?_cons_zero,Nat.reduceLT,Nat.reduceEqDiff,true_and,and_true,Ca,↓reduceIte,L.p.injEq,Bool.true_and,Bool.and_true,Jar,Jad]
   rfl
  ·rw [if_neg hk]
   have htk:kids.list.take kids.len=kids.list:=List.take_of_length_le (by omega)
   rw [htk]
   have hpl:(kids.len≤(El kids.list).length)=True:=eq_true (by rw [E5];omega)
   have hpt:(El kids.list).take kids.len=El kids.list:=List.take_of_length_le (by rw [E5];omega)
   skip
   simp only [Dn,Gc,Df,Eb,Gu,Hm,K8,E4,E2,Fg,Fm,G9,Gv,Je5,Bk,Dt,Gx,Fh,Fx,Dy,C1,B3,E3,Dl,Hq,F9,Ek,Ar,Cg,Bf,A6,List.map_cons,List.map_nil,List.cons_append,List.nil_append,decide_eq_true_eq,ne_eq,not_false_eq_true,Nat.reduceLeDiff,Nat.reduceEqDiff,↓reduceIte]
   refine ⟨_,St.Le.refl _,?_⟩
   simp only [Ah,Bn,Cn,Ab,Bo,Bd,A0,Bb,Be,Ai,D5,Bg,C5,Da,Ej,Ag,Ae,F8,Gq,Fk,Gs,Bt,Cy,Cz,A7,A8,B9,Aw,Ao,Al,B5,B6,Af,Am,Ap,Cl,A1,Ar,D8,Dv,Kt,Jg,S0,Kb,Hy,A2,Ad,Ac,Dc,Bf,A6,List.map_cons,List.map_nil,List.drop_zero,List.getElem?_cons_zero,Nat.reduceLT,Nat.reduceEqDiff,Ca,↓reduceIte,Nat.zero_add,and_self,Jar,Jad,hpl,hpt]
end Go.LX
