/- Operations one behind the other, on logical states. -/
import Derived.Lib.ConvBytes
import Derived.Test.YteiencnfglbnkaaDoorLxThree
import Derived.Lib.Builder
set_option linter.unusedSimpArgs false
set_option linter.unusedVariables false
set_option linter.unusedSectionVars false
set_option linter.unnecessarySimpa false
namespace Go.LX
open Go Go.RowKit Go.Proofs

/-- The wide fence, in a function's body or in a round of a range over a function. -/
def F0 (r : Option Nat) : Fence := { fn := fun _ => True, depth := none, alive := false, round := r }

theorem calls_F0 {r : Option Nat} {n : Nat} {P : Program} {f : FuncId} {args : Array Value} {w : World} {R : Ending → World → Prop} (h : Calls P f args w R) : CallsIn (F0 r) n P f args w R :=
  show CallsIn Fence.wide n P f args w R from callsIn_wide.2 h

/-! ### The operations -/
/-- A contract of what has no body in Go and only reckons. -/
def XCalls (X : Cx) (g : FuncId) (args : List L) (l : L) : Prop := ∀ (β : Env) (Im : Nat → Prop) (w : World) (vs : List Value), vs.length = args.length → (∀ (i : Nat) (v : Value) (a : L), vs[i]? = some v → args[i]? = some a → LRep β w Im v a) →
  ∃ v, (callFunc g ⟨vs⟩).run X.P w = .ok (.value v) w ∧ LRep β w Im v l

/-- Whether a call hands a region on. -/
def newOf (dst : Option Tmp) (rs' : Regs) : Option Nat :=
  match findKey 900 rs' with
  | true => some (match dst with | some d => if d < 900 then d else 990 | none => 990)
  | false => none
def argIds (args : List L) : List Nat := args.flatMap L.ids
/-- What comes behind a call. -/
def kback (ρ : Ren) (dst : Option Tmp) (K : St → Prop) (s : St) (l : L) (rs' : Regs) : Prop := K ((s.after ρ (newOf dst rs') rs').put dst (l.map (backId ρ (newOf dst rs'))))
def lcallR (X : Cx) (g : FuncId) (args : List L) (s : St) (ρ : Ren) (dst : Option Tmp) (K : St → Prop) : Prop :=
  LCalls X g (args.map (L.map (upId ρ))) (upRegs ρ s.regs) (kback ρ dst K s)
def lcallA (X : Cx) (g : FuncId) (args : List L) (s : St) (dst : Option Tmp) (K : St → Prop) : Prop :=
  lcallR X g args s (canon (dedup [] (argIds args)) s.regs) dst K
def lext (X : Cx) (g : FuncId) (args : List L) (s : St) (dst : Option Tmp) (K : St → Prop) : Prop := ∃ l, XCalls X g args l ∧ K (s.put dst l)
def lcallK (X : Cx) (k : Nat) (g : FuncId) (ds : List Nat) (args : List Operand) (s : St) (dst : Option Tmp) (K : St → Prop) : Prop :=
  match k with
  | 0 => lcallA X g (args.map (s.freezeOps args).get ++ ds.map fun d => L.ptr d 0 0) (s.freezeOps args) dst K
  | 1 => lcallA X g (args.map s.get ++ ds.map fun d => L.ptr d 0 0) s dst K
  | _ => ds = [] ∧ lext X g (args.map s.get) s dst K
def lcall (X : Cx) (s : St) (f : Operand) (args : List Operand) (dst : Option Tmp) (K : St → Prop) : Prop :=
  match s.get f with
  | .fn g ds => lcallK X (X.kind g) g ds args s dst K
  | _ => False

/-- What comes behind an operation. -/
def kput (dst : Option Tmp) (K : St → Prop) (s : St) (l : L) : Prop := K (s.put dst l)
def kunit (dst : Option Tmp) (K : St → Prop) (s : St) : Prop := K (s.put dst (.tup []))

/-- A pointer as unsafe.Pointer, and back. -/
def lptrConv (P : Program) (a b : TypeId) (d j : Nat) (r : Option Reg) (K : L → Prop) : Prop :=
  match r, P.underlying a, P.underlying b with
  | some (.var _ cs), some (.pointer t), some .unsafePointer => P.cellsOf t ≠ 0 ∧ j < cs.length ∧ K (.ptr d 0 j)
  | some (.var T cs), some .unsafePointer, some (.pointer u) => liesAt P P.depth T (cs.length / P.cellsOf T) j u 1 = true ∧ (P.info? u).isSome = true ∧ K (.ptr d 0 j)
  | _, _, _ => False
/-- A string as a row of bytes, which is not written. -/
def lcvStr (P : Program) (a b : TypeId) (u : List UInt8) (s : St) (dst : Option Tmp) (K : St → Prop) : Prop :=
  match P.underlying b with
  | some (.slice e) => (P.underlying a).isSome = true ∧ P.underlying e = some (.int .u8) ∧ kput dst K s (.p (.sl (u.map fun c => [.int .u8 c.toNat])))
  | _ => lconv P a b (.p (.str u)) (kput dst K s)
def lconvG (P : Program) (a b : TypeId) (s : St) (x : Operand) (dst : Option Tmp) (K : St → Prop) : Prop :=
  match s.get x with
  | .ptr d 0 j => lptrConv P a b d j (findReg d s.regs) (kput dst K s)
  | .p (.str u) => lcvStr P a b u s dst K
  | _ => lconv P a b ((s.freezeOps [x]).get x) (kput dst K (s.freezeOps [x]))
def lustr (X : Cx) (o : Oper) (dst : Option Tmp) (args : List Operand) (ts : List TypeId) (s : St) (K : St → Prop) : Prop :=
  match args, ts with
  | [x, y], [t, _] => match s.get x with
    | .p .nptr => lq X.P s.regs s.get o.op (kput dst K s)
    | _ => lunsafeStr X.P t s x y (kput dst K)
  | _, _ => False

/-- A part of an array; the array is not written any more. -/
def larr (P : Program) (t : TypeId) (s : St) (d : Nat) (lo hi : Option Operand) (N : St → L → Prop) (q : Option Reg) : Prop :=
  match q, arE P t with
  | some (.var _ cs), some (n, _, sz) => sz = 1 ∧ n = cs.length ∧ ∃ ps, allSome L.pure? cs = some ps ∧ ∃ l h, bound s.get 0 lo = some l ∧ bound s.get n hi = some h ∧ 0 ≤ l ∧ l ≤ h ∧ h ≤ n ∧
      N (freezeBy d (some .gone) s) (.p (.sl (((ps.map fun p => [p]).drop l.toNat).take (h.toNat - l.toNat))))
  | _, _ => False
def lslG (P : Program) (o : Oper) (t : TypeId) (x : Operand) (lo hi : Option Operand) (dst : Option Tmp) (K : St → Prop) (s : St) : Prop :=
  match s.get x with
  | .ptr d 0 0 => larr P t s d lo hi (kput dst K) (findReg d s.regs)
  | _ => lq P s.regs s.get o.op (kput dst K s)
def lop (X : Cx) (o : Oper) (K : St → Prop) (s : St) : Prop :=
  match o.op, o.dst with
  | .alloc T, some d => lalloc X.P d T s K
  | .box T x, some d => lbox d T s x K
  | .buildSlice t n parts, some d => lbuildSlice X.P d t n s parts.toList K
  | .makeSlice t l c, some d => lmakeSlice X.P d t s l c K
  | .makeMap _ none, some d => lmakeMap d s K
  | .range t x, some d => lrange X.P d t s x K
  | .next it b, dst => lnext s it b (kput dst K)
  | .entry it, dst => lentry s it (kput dst K s)
  | .mapUpdate t m k v, dst => lmapUpdate X.P t s m k v (kunit dst K)
  | .insert t m k v, dst => lmapUpdate X.P t s m k v (kunit dst K)
  | .store t a x, dst => lstore X.P t s a x (kunit dst K)
  | .call { callee := .builtin .append, args, argTypes }, some d => match args.toList, argTypes.toList with
    | [x, y], [t, t'] => lappend X.P d t t' s x y K
    | _, _ => False
  | .call { callee := .builtin .delete, args, argTypes }, dst => match args.toList, argTypes.toList with
    | [m, k], t :: _ => ldelete X.P t s m k (kunit dst K)
    | _, _ => False
  | .call { callee := .builtin .unsafeString, args, argTypes }, dst => lustr X o dst args.toList argTypes.toList s K
  | .call { callee := .value f, args, argTypes := _ }, dst => lcall X s f args.toList dst K
  | .convert a b x, dst => lconvG X.P a b s x dst K
  | .slice t x lo hi none, dst => lslG X.P o t x lo hi dst K s
  | op, dst => lq X.P s.regs s.get op (kput dst K s)

/-- An operation under its guard. 'ds': what each operation of the region writes. -/
def lguard (ds : List (Option Tmp)) (g : Option (Nat × Bool)) (A B : St → Prop) (s : St) : Prop :=
  match g with
  | none => A s
  | some (j, want) => match ds.getD j none with
    | some dj => match s.tmps.getD dj .junk with
      | .p (.bool c) => (c = want → A (s.put (some dj) (.p (.bool want)))) ∧ (c = (!want) → B (s.put (some dj) (.p (.bool (!want)))))
      | .tup [] => B s
      | _ => False
    | none => False

def lops (X : Cx) (ds : List (Option Tmp)) : List Oper → (St → Prop) → St → Prop
  | [], K, s => K s
  | o :: rest, K, s => lguard ds o.guard (lop X o (lops X ds rest K)) (kunit o.dst (lops X ds rest K)) s

section
variable {P : Program} {X : Cx} {Γ : Base} {ro : Option Nat}

theorem semAt_of {o : Oper} (ρ : Operand → Value) (h : ∀ c, o.op ≠ .defer c) : o.semAt (F0 ro).round ρ = execOp ρ o := Oper.semAt_eq _ _ _ h

/-- An operation whose run yields a value. -/
theorem wpIn_value {o : Oper} {a : Act} {w w' : World} {v : Value} {next : Act → World → Prop} {Q : Exit → Act → World → Prop} {n : Nat} (hd : ∀ c, o.op ≠ .defer c) (hr : (execOp a.eval o).run P w = .ok (.value v) w') (h : next (a.put o.dst v) w') :
    o.wpIn (F0 ro) n P a w next Q := by
  refine ⟨fun _ _ => trivial, ?_⟩
  rw [semAt_of _ hd, hr]
  exact h
theorem wpIn_skipped {o : Oper} {a : Act} {w w' : World} {next : Act → World → Prop} {Q : Exit → Act → World → Prop} {n : Nat} (hd : ∀ c, o.op ≠ .defer c) (hr : (execOp a.eval o).run P w = .ok .skip w') (h : next (a.put o.dst undef) w') :
    o.wpIn (F0 ro) n P a w next Q := by
  refine ⟨fun _ _ => trivial, ?_⟩
  rw [semAt_of _ hd, hr]
  exact h
theorem wpIn_enter {o : Oper} {a : Act} {w w' : World} {f : FuncId} {args : Array Value} {next : Act → World → Prop} {Q : Exit → Act → World → Prop} {n : Nat} (hd : ∀ c, o.op ≠ .defer c) (hr : (execOp a.eval o).run P w = .ok (.enter f args) w')
    (h : Calls P f args w' fun e w'' => ∃ v, e = .returned v ∧ next (a.put o.dst v) w'') : o.wpIn (F0 ro) n P a w next Q := by
  refine ⟨fun _ _ => trivial, ?_⟩
  rw [semAt_of _ hd, hr]
  refine ⟨fun h => by simp [F0] at h, ?_⟩
  refine calls_F0 (h.mono fun e w'' ⟨v, he, hn⟩ => ?_)
  subst he
  exact hn

theorem Makes.oper {a : Act} {d : Tmp} {r : Sem Value} {K : St → Prop} {w : World} {o : Oper} {Q : Exit → Act → World → Prop} {n : Nat} {ms : List Nat} (h : Makes (Γ.wm ms) a d (r.run P w) K) (hd : ∀ c, o.op ≠ .defer c) (ho : execOp a.eval o = (do pure (Next.value (← r)) : Sem Next)) (hdst : o.dst = some d) (hdef : a.defers = ms.map mkMark) :
    o.wpIn (F0 ro) n P a w (fun a' w' => ∃ s, K s ∧ RR Γ s a' w') Q := by
  obtain ⟨v, w', β', Im', s', l, hr, h1, h2, hK⟩ := h
  refine wpIn_value hd (v := v) (w' := w') (by rw [ho]; simp [hr]) ⟨_, hK, ms, ?_, β', Im', ?_⟩
  · rw [hdst]; exact hdef
  · rw [hdst]; exact h1.put (some d) h2

theorem rr_mk {s : St} {β : Env} {Im : Nat → Prop} {w : World} {a : Act} {ms : List Nat} (hdef : a.defers = ms.map mkMark) (h : RRx (Γ.wm ms) β Im s a.tmps w) : RR Γ s a w := ⟨ms, hdef, β, Im, h⟩
theorem put_defers' {a : Act} {dst : Option Tmp} {v : Value} {ds : List Deferred} (h : a.defers = ds) : (a.put dst v).defers = ds := by cases dst <;> exact h

theorem lptrConv_sound {β : Env} {w : World} {Im : Nat → Prop} {s : St} {tmps : Array Value} (hf : Fit β w Im s tmps) {a b : TypeId} {d j : Nat} {u : Value} {K : L → Prop} (hx : LRep β w Im u (.ptr d 0 j)) (hl : lptrConv P a b d j (findReg d s.regs) K) : Yields β Im w ((convert a b u).run P w) K := by
  have hx' := hx
  obtain ⟨loc, hβ, rfl⟩ := hx'
  have hz : (0 : Nat) * loc.sz + j = j := by simp
  rw [hz]
  unfold lptrConv at hl
  split at hl
  · rename_i T cs t hr ha hb
    obtain ⟨hc, hj, hK⟩ := hl
    obtain ⟨loc', cur, hβ', h2, h3, h4, h5, h6⟩ := hf.regs d _ (findReg_mem hr)
    rw [hβ] at hβ'; cases hβ'
    cases hi : P.info? t with
    | none => exact absurd (by simp [Program.cellsOf, hi]) hc
    | some inf =>
      have hs : inf.size ≠ 0 := by simpa [Program.cellsOf, hi] using hc
      refine ⟨_, _, Lib.run_to_unsafe (P := P) w ⟨loc.blk, j, none⟩ ha hb hi hs (e := T) (cells := cur.length) (by simp [World.shape?, h4]) (by simpa [h5] using hj), ?_, hK⟩
      exact ⟨loc, hβ, by rw [hz]⟩
  · rename_i T cs u' hr ha hb
    obtain ⟨hlies, hi, hK⟩ := hl
    obtain ⟨loc', cur, hβ', h2, h3, h4, h5, h6⟩ := hf.regs d _ (findReg_mem hr)
    rw [hβ] at hβ'; cases hβ'
    obtain ⟨inf, hi⟩ := Option.isSome_iff_exists.1 hi
    refine ⟨_, _, Lib.run_from_unsafe (P := P) w ⟨loc.blk, j, none⟩ ha hb hi (e := T) (cells := cur.length) (by simp [World.shape?, h4]) (by rw [h5]; exact hlies), ?_, hK⟩
    exact ⟨loc, hβ, by rw [hz]⟩
  · exact hl.elim

theorem lq_oper {s : St} {a : Act} {w : World} {o : Oper} {K : St → Prop} {Q : Exit → Act → World → Prop} {n : Nat} {β : Env} {Im : Nat → Prop} {ms : List Nat} (hdef : a.defers = ms.map mkMark) (hx : RRx (Γ.wm ms) β Im s a.tmps w) (hl : lq P s.regs s.get o.op (kput o.dst K s)) :
    o.wpIn (F0 ro) n P a w (fun a' w' => ∃ s, K s ∧ RR Γ s a' w') Q := by
  obtain ⟨v, l, hr, hrep, hK⟩ := lq_sound (P := P) hx.fit (o := o) hl
  refine wpIn_value (v := v) (w' := w) (fun c hc => ?_) hr ⟨_, hK, rr_mk (put_defers' hdef) (hx.put _ hrep)⟩
  rw [hc] at hl; simp [lq, lqv] at hl

theorem lcallA_sound {s : St} {a : Act} {w : World} {o : Oper} {K : St → Prop} {Q : Exit → Act → World → Prop} {n : Nat} {β : Env} {Im : Nat → Prop} {ms : List Nat} (hG : Γ.G = X.G) (hdef : a.defers = ms.map mkMark) (hx : RRx (Γ.wm ms) β Im s a.tmps w)
    {g : FuncId} {ls : List L} {vs : List Value} (hd : ∀ c, o.op ≠ .defer c) (hlen : vs.length = ls.length) (hrep : ∀ (i : Nat) (v : Value) (l : L), vs[i]? = some v → ls[i]? = some l → LRep β w Im v l)
    (hr : (execOp a.eval o).run X.P w = (callFunc g ⟨vs⟩).run X.P w) (hl : lcallA X g ls s o.dst K) : o.wpIn (F0 ro) n X.P a w (fun a' w' => ∃ s, K s ∧ RR Γ s a' w') Q := by
  unfold lcallA lcallR at hl
  have hρ := canon_ok (argIds ls) s.regs
  generalize canon (dedup [] (argIds ls)) s.regs = ρ at hl hρ
  obtain ⟨hent, hl⟩ := hl
  refine wpIn_enter (f := g) (args := ⟨vs⟩) (w' := w) hd (by rw [hr]; exact hent _ _) ?_
  refine (hl (upEnv ρ β) Im w vs (hG ▸ hx.glob) (hx.fit.call hρ hlen hrep)).mono fun e w' ⟨v, l, rs', β', Im2, he, hP, hrp, hstep⟩ => ⟨v, he, _, hP, rr_mk (put_defers' hdef) ((hx.called hρ (nw := newOf o.dst rs') ?_ ?_ hstep).put _ ?_)⟩
  · intro d hd
    unfold newOf at hd
    split at hd
    · cases hdst : o.dst with
      | none => rw [hdst] at hd; have := Option.some.inj hd; subst this; decide
      | some d0 =>
        rw [hdst] at hd
        have := Option.some.inj hd
        subst this
        dsimp only
        by_cases h9 : d0 < 900
        · rw [if_pos h9]; exact Nat.lt_of_lt_of_le h9 (by decide)
        · rw [if_neg h9]; decide
    · cases hd
  · intro hn
    unfold newOf at hn
    split at hn
    · cases hn
    · assumption
  · refine hrp.map fun n d hd => ?_
    unfold backId at hd
    unfold backEnv
    cases hnw : newOf o.dst rs' with
    | none =>
      rw [hnw] at hd
      have := (hρ.back n d).1 hd
      simp [this]
    | some x =>
      rw [hnw] at hd
      simp only at hd
      split at hd
      · rename_i h9; cases hd; subst h9; simp
      · split at hd
        · rename_i e he
          split at hd
          · cases hd
          · rename_i hne
            cases hd
            have := (hρ.back n d).1 he
            rw [if_neg (by intro hc; exact hne (Option.some.inj hc).symm), this]
        · cases hd

theorem lcvStr_sound {s : St} {a : Act} {w : World} {β : Env} {Im : Nat → Prop} {ms : List Nat} (hx : RRx (Γ.wm ms) β Im s a.tmps w) {ta tb : TypeId} {u : List UInt8} {v0 : Value} {dst : Option Tmp} {K : St → Prop} (hv0 : LRep β w Im v0 (.p (.str u)))
    (hl : lcvStr P ta tb u s dst K) : ∃ v w' Im' l, (convert ta tb v0).run P w = .ok v w' ∧ RRx (Γ.wm ms) β Im' s a.tmps w' ∧ LRep β w' Im' v l ∧ K (s.put dst l) := by
  unfold lcvStr at hl
  split at hl
  · rename_i e hb
    obtain ⟨ha, he, hK⟩ := hl
    obtain ⟨ua, ha⟩ := Option.isSome_iff_exists.1 ha
    have hv : v0 = .string ⟨⟨u⟩⟩ := by cases hv0; rfl
    subst hv
    have hrun := Lib.run_convert_string_bytes (P := P) w ta tb e ⟨⟨u⟩⟩ ha hb he
    have g : Grow w Im (Lib.bytesWorld w e ⟨⟨u⟩⟩) (fun b => Im b ∨ b = w.heap.size) :=
      { os := rfl, tape := rfl, output := rfl, size := by rw [Lib.bytesWorld_size]; omega, block := fun k hk => Lib.bytesWorld_at_old w e _ k hk, im := fun b hb => .inl hb,
        new := fun b hb => hb.elim .inl fun h => .inr (by omega), lt := fun b hb => by rw [Lib.bytesWorld_size]; rcases hb with hb | rfl; exact Nat.lt_succ_of_lt (hx.fit.im b hb); exact Nat.lt_succ_self _ }
    have hsz : (⟨⟨u⟩⟩ : ByteArray).size = u.length := rfl
    have hlen : (u.map fun c => [PV.int .u8 c.toNat]).length = u.length := by simp
    refine ⟨_, _, _, _, hrun, hx.grow g, ?_, hK⟩
    show PRep _ _ (.slice (some ⟨w.heap.size, 0, none⟩) (⟨⟨u⟩⟩ : ByteArray).size _) (.sl (u.map fun c => [PV.int .u8 c.toNat]))
    have e1 : (⟨⟨u⟩⟩ : ByteArray).size = (u.map fun c => [PV.int .u8 c.toNat]).length := by rw [hlen]; rfl
    rw [e1]
    refine PRep.sl w.heap.size 0 _ 1 _ (grownCap_ge w _ 0 e) (.inr rfl) (fun i _ => .int .u8 (u.getD i 0).toNat) (fun x hx => ?_) (fun x hx p hp => ?_) (fun i hi j hj => ?_) (fun i x j p hi hj => ?_)
    · obtain ⟨c, _, rfl⟩ := List.mem_map.1 hx; rfl
    · obtain ⟨c, _, rfl⟩ := List.mem_map.1 hx; simp at hp; subst hp; rfl
    · have hj0 : j = 0 := by omega
      subst hj0
      rw [show 0 + i * 1 + 0 = i by omega]
      exact Lib.bytesWorld_cell w e ⟨⟨u⟩⟩ i (by rw [hsz]; rw [hlen] at hi; exact hi)
    · rw [List.getElem?_map] at hi
      obtain ⟨c, hc, rfl⟩ := Option.map_eq_some_iff.1 hi
      cases j with
      | zero =>
        simp at hj; subst hj
        have : u.getD i 0 = c := by simp [List.getD_eq_getElem?_getD, hc]
        rw [this]
        exact .int _ _
      | succ j => simp at hj
  · obtain ⟨v, l, hr, hrep, hK⟩ := lconv_sound (P := P) hv0 hl
    exact ⟨v, w, Im, l, hr, hx, hrep, hK⟩

theorem larr_sound {s : St} {a : Act} {w : World} {β : Env} {Im : Nat → Prop} {ms : List Nat} (hx : RRx (Γ.wm ms) β Im s a.tmps w) {t : TypeId} {x : Operand} {lo hi : Option Operand} {d : Nat} {N : St → L → Prop} (hg : s.get x = .ptr d 0 0)
    (hl : larr P t s d lo hi N (findReg d s.regs)) : ∃ v s' l Im', (Instr.sliceAt t (a.eval x) (lo.map a.eval) (hi.map a.eval) none).run P w = .ok v w ∧ RRx (Γ.wm ms) β Im' s' a.tmps w ∧ LRep β w Im' v l ∧ N s' l := by
  unfold larr at hl
  split at hl
  · rename_i T cs n e sz hr ha
    obtain ⟨rfl, rfl, ps, hps, l, hh, hlo, hhi, h0, h1, h2, hN⟩ := hl
    obtain ⟨ht, hc1, _⟩ := arE_spec ha
    have hxr := get_rep hx.fit x
    rw [hg] at hxr
    obtain ⟨loc, hβ, hv⟩ := hxr
    obtain ⟨loc', cur, hβ', g2, g3, g4, g5, g6⟩ := hx.fit.regs d _ (findReg_mem hr)
    rw [hβ] at hβ'; cases hβ'
    have hb := run_bounds (P := P) (w := w) false cs.length cs.length _ _ l hh (bound_spec hx.fit hlo) (bound_spec hx.fit hhi) h0 h1 h2
    have hz : (0 : Nat) * loc.sz + 0 = 0 := by simp
    have hrun : (Instr.sliceAt t (a.eval x) (lo.map a.eval) (hi.map a.eval) none).run P w = .ok (.slice (some (if cs.length = l.toNat then ⟨loc.blk, 0, none⟩ else ⟨loc.blk, l.toNat, none⟩)) (hh.toNat - l.toNat) (cs.length - l.toNat)) w := by
      rw [hv, hz]
      simp only [Instr.sliceAt, Sem.run_bind, run_underlying ht, Result.andThen_ok, Instr.sureAddr, hb, run_sizeOf' (P := P) (t := e) rfl (by omega), Sem.run_pure, hc1]
      split
      · simp
      · simp [Addr.add]; omega
    have hfz := hx.freezeZ d .gone trivial _ (findReg_mem hr)
    refine ⟨_, _, _, _, hrun, hfz, ?_, hN⟩
    obtain ⟨hlen, hsp⟩ := allSome_spec hps
    have hl1 : (((ps.map fun p => [p]).drop l.toNat).take (hh.toNat - l.toNat)).length = hh.toNat - l.toNat := by simp; omega
    show PRep w _ _ _
    have hbi : (Im loc.blk ∨ ∃ loc', β d = some loc' ∧ loc.blk = loc'.blk) := .inr ⟨loc, hβ, rfl⟩
    by_cases hcl : cs.length = l.toNat
    · have he : ((ps.map fun p => [p]).drop l.toNat).take (hh.toNat - l.toNat) = [] := List.eq_nil_of_length_eq_zero (by rw [hl1]; omega)
      rw [he, if_pos hcl, show hh.toNat - l.toNat = 0 by omega]
      exact PRep.sl loc.blk 0 _ 1 [] (Nat.zero_le _) hbi (fun _ _ => undef) (fun x hx => by cases hx) (fun x hx => by cases hx) (fun i hi => by simp at hi) (fun i x j p hi => by simp at hi)
    · rw [if_neg hcl]
      conv => arg 3; rw [← hl1]
      have key : ∀ (i : Nat) (p : PV), ps[i]? = some p → ∃ v, cur[i]? = some v ∧ PRep w Im v p ∧ p.scalar = true := by
        intro i p hp
        obtain ⟨c, hc⟩ := getElem?_of_length hlen hp
        obtain ⟨v, hv'⟩ := getElem?_of_length g5 hc
        have h1 := hsp i c p hc hp
        obtain ⟨r1, r2⟩ := g6 i v c hv' hc
        cases c with
        | p q =>
          simp only [L.pure?] at h1; cases h1
          refine ⟨v, hv', r1, ?_⟩
          rcases r2 with r2 | r2
          · exact r2
          · cases r2
        | _ => simp [L.pure?] at h1
      have hmem : ∀ y ∈ ((ps.map fun p => [p]).drop l.toNat).take (hh.toNat - l.toNat), ∃ p ∈ ps, y = [p] := fun y hy => by
        have := List.mem_of_mem_drop (List.mem_of_mem_take hy)
        obtain ⟨p, hp, rfl⟩ := List.mem_map.1 this
        exact ⟨p, hp, rfl⟩
      have hk : Keeps w Im w (fun b => Im b ∨ ∃ loc, β d = some loc ∧ b = loc.blk) := ⟨fun b hb => .inl hb, fun _ _ => rfl⟩
      refine PRep.sl loc.blk l.toNat (cs.length - l.toNat) 1 _ (by rw [hl1]; omega) hbi (fun i j => cur.getD (l.toNat + i) undef) (fun y hy => ?_) (fun y hy p hp => ?_) (fun i hi j hj => ?_) (fun i y j p hi hj => ?_)
      · obtain ⟨p, _, rfl⟩ := hmem y hy; rfl
      · obtain ⟨q, hq, rfl⟩ := hmem y hy
        have : p = q := by simpa using hp
        subst this
        obtain ⟨i, hi, he⟩ := List.getElem_of_mem hq
        obtain ⟨_, _, _, h3⟩ := key i p (by rw [List.getElem?_eq_getElem hi, he])
        exact h3
      · rw [hl1] at hi
        have hj0 : j = 0 := by omega
        subst hj0
        rw [cell_at g4]
        have hlt : l.toNat + i < cur.length := by omega
        rw [show l.toNat + i * 1 + 0 = l.toNat + i by omega, List.getElem?_eq_getElem hlt]
        simp [List.getD_eq_getElem?_getD, hlt]
      · rw [List.getElem?_take] at hi
        split at hi
        · rw [List.getElem?_drop, List.getElem?_map] at hi
          obtain ⟨q, hq, rfl⟩ := Option.map_eq_some_iff.1 hi
          cases j with
          | zero =>
            simp at hj; subst hj
            obtain ⟨v, hv', hp', _⟩ := key _ _ hq
            have : cur.getD (l.toNat + i) undef = v := by simp [List.getD_eq_getElem?_getD, hv']
            rw [this]
            exact hp'.mono hk
          | succ j => simp at hj
        · cases hi
  · exact hl.elim

theorem lop_sound {s : St} {a : Act} {w : World} {o : Oper} {K : St → Prop} {Q : Exit → Act → World → Prop} {n : Nat} (hG : Γ.G = X.G) (h : RR Γ s a w) (hl : lop X o K s) : o.wpIn (F0 ro) n X.P a w (fun a' w' => ∃ s, K s ∧ RR Γ s a' w') Q := by
  obtain ⟨ms, hdef, β, Im, hx⟩ := h
  unfold lop at hl
  split at hl
  · rename_i T d ho hdst
    exact (lalloc_sound hx hl).oper (by rw [ho]; simp) (by unfold execOp; rw [ho]) hdst hdef
  · rename_i T x d ho hdst
    exact (lbox_sound (P := X.P) hx hl).oper (by rw [ho]; simp) (by unfold execOp; rw [ho]) hdst hdef
  · rename_i t m parts d ho hdst
    have := lbuildSlice_sound hx hl
    have e : (parts.map fun (i, x) => (i, a.eval x)) = ⟨parts.toList.map fun (i, x) => (i, a.eval x)⟩ := by rw [← Array.toList_inj]; simp
    rw [← e] at this
    exact this.oper (by rw [ho]; simp) (by unfold execOp; rw [ho]) hdst hdef
  · rename_i t l c d ho hdst
    exact (lmakeSlice_sound hx hl).oper (by rw [ho]; simp) (by unfold execOp; rw [ho]) hdst hdef
  · rename_i t d ho hdst
    exact (lmakeMap_sound (P := X.P) (T := t) hx hl).oper (by rw [ho]; simp) (by unfold execOp; rw [ho]; rfl) hdst hdef
  · rename_i t x d ho hdst
    exact (lrange_sound hx hl).oper (by rw [ho]; simp) (by unfold execOp; rw [ho]) hdst hdef
  · rename_i it b ho
    obtain ⟨v, w', s', l, hr, hx', hrep, hK⟩ := lnext_sound (P := X.P) (ty := o.type) hx hl
    exact wpIn_value (v := v) (w' := w') (by rw [ho]; simp) (by unfold execOp; rw [ho]; simp [hr]) ⟨_, hK, rr_mk (put_defers' hdef) (hx'.put _ hrep)⟩
  · rename_i it ho
    obtain ⟨v, l, hr, hrep, hK⟩ := lentry_sound (P := X.P) hx.fit hl
    exact wpIn_value (v := v) (w' := w) (by rw [ho]; simp) (by unfold execOp; rw [ho]; simp [hr]) ⟨_, hK, rr_mk (put_defers' hdef) (hx.put _ hrep)⟩
  · rename_i t m k v ho
    obtain ⟨w', s', Im', hr, hK, h'⟩ := lmapUpdate_sound hx hl
    exact wpIn_skipped (w' := w') (by rw [ho]; simp) (by unfold execOp; rw [ho]; simp [hr]) ⟨_, hK, rr_mk (put_defers' hdef) (h'.put _ ⟨[], rfl, rfl, fun i x p h => by simp at h⟩)⟩
  · rename_i t m k v ho
    obtain ⟨w', s', Im', hr, hK, h'⟩ := lmapUpdate_sound hx hl
    exact wpIn_skipped (w' := w') (by rw [ho]; simp) (by unfold execOp; rw [ho]; simp [hr]) ⟨_, hK, rr_mk (put_defers' hdef) (h'.put _ ⟨[], rfl, rfl, fun i x p h => by simp at h⟩)⟩
  · rename_i t x y ho
    obtain ⟨w', s', Im', hr, hK, h'⟩ := lstore_sound hx hl
    exact wpIn_skipped (w' := w') (by rw [ho]; simp) (by unfold execOp; rw [ho]; simp [hr]) ⟨_, hK, rr_mk (put_defers' hdef) (h'.put _ ⟨[], rfl, rfl, fun i x p h => by simp at h⟩)⟩
  · rename_i args ts d ho hdst
    split at hl
    · rename_i x y t t' ha ht
      have := lappend_sound (ty := o.type) hx hl
      refine this.oper (by rw [ho]; simp) ?_ hdst hdef
      unfold execOp
      rw [ho]
      obtain ⟨la⟩ := args
      obtain ⟨lt⟩ := ts
      simp only at ha ht
      subst ha; subst ht
      simp [resolve, invoke, builtin]
    · exact hl.elim
  · rename_i args ts ho
    split at hl
    · rename_i m k t ts' ha ht
      obtain ⟨la⟩ := args
      obtain ⟨lt⟩ := ts
      simp only at ha ht
      subst ha; subst ht
      obtain ⟨w', s', hr, hK, h'⟩ := ldelete_sound (P := X.P) (ty := o.type) (ts := ts') hx hl
      exact wpIn_value (v := .tuple #[]) (w' := w') (by rw [ho]; simp) (by unfold execOp; rw [ho]; simp [resolve, invoke, builtin, hr]) ⟨_, hK, rr_mk (put_defers' hdef) (h'.put _ ⟨[], rfl, rfl, fun i x p h => by simp at h⟩)⟩
    · exact hl.elim
  · rename_i args ts ho
    unfold lustr at hl
    split at hl
    · rename_i x y t it ha ht
      split at hl
      · exact lq_oper hdef hx hl
      · obtain ⟨la⟩ := args
        obtain ⟨lt⟩ := ts
        simp only at ha ht
        subst ha; subst ht
        obtain ⟨v, w', s', l, hr, h', hrep, hK⟩ := lunsafeStr_sound (P := X.P) (it := it) (ty := o.type) hx hl
        exact wpIn_value (v := v) (w' := w') (by rw [ho]; simp) (by unfold execOp; rw [ho]; simp [resolve, invoke, builtin, hr]) ⟨_, hK, rr_mk (put_defers' hdef) (h'.put _ hrep)⟩
    · exact hl.elim
  · rename_i f args ts ho
    unfold lcall at hl
    split at hl
    · rename_i g ds hg
      have hrf := get_rep hx.fit f
      rw [hg] at hrf
      obtain ⟨cs, hv, hcl, hcs⟩ := hrf
      have hrun : (execOp a.eval o).run X.P w = (callFunc g ⟨args.toList.map a.eval ++ cs⟩).run X.P w := by
        unfold execOp
        rw [ho]
        have e : args.map a.eval ++ (⟨cs⟩ : Array Value) = ⟨args.toList.map a.eval ++ cs⟩ := by rw [← Array.toList_inj]; simp
        simp only [resolve, Sem.run_bind, hv, Deferred.ofValue, Sem.run_pure, Result.andThen_ok, invoke, Array.empty_append, e]
      have hargs : ∀ {s' : St} {Im' : Nat → Prop}, RRx (Γ.wm ms) β Im' s' a.tmps w → ∀ (i : Nat) (v : Value) (l : L), (args.toList.map a.eval ++ cs)[i]? = some v → (args.toList.map s'.get ++ ds.map fun d => L.ptr d 0 0)[i]? = some l → LRep β w Im' v l := by
        intro s' Im' hx' i v l hi hl'
        by_cases hlt : i < args.toList.length
        · rw [List.getElem?_append_left (by simpa using hlt), List.getElem?_map] at hi hl'
          obtain ⟨q, hq, rfl⟩ := Option.map_eq_some_iff.1 hi
          rw [hq] at hl'
          cases hl'
          exact get_rep hx'.fit q
        · rw [List.getElem?_append_right (by simpa using hlt)] at hi hl'
          simp only [List.length_map] at hi hl'
          rw [List.getElem?_map] at hl'
          obtain ⟨d, hd, rfl⟩ := Option.map_eq_some_iff.1 hl'
          obtain ⟨loc, h1, h2⟩ := hcs _ v d hi hd
          exact ⟨loc, h1, by simpa using h2⟩
      unfold lcallK at hl
      split at hl
      · obtain ⟨Im', hx'⟩ := RRx.freezeOps args.toList hx
        exact lcallA_sound hG hdef hx' (by rw [ho]; simp) (by simp [hcl]) (hargs hx') hrun hl
      · exact lcallA_sound hG hdef hx (by rw [ho]; simp) (by simp [hcl]) (hargs hx) hrun hl
      · obtain ⟨rfl, l, hX, hK⟩ := hl
        have hc0 : cs = [] := by simpa using hcl
        subst hc0
        obtain ⟨v, hr, hrep⟩ := hX β Im w (args.toList.map a.eval ++ []) (by simp) (fun i v l hi hl' => hargs hx i v l hi (by simpa using hl'))
        exact wpIn_value (v := v) (w' := w) (by rw [ho]; simp) (by rw [hrun, hr]) ⟨_, hK, rr_mk (put_defers' hdef) (hx.put _ hrep)⟩
    · exact hl.elim
  · rename_i a1 b1 x ho
    unfold lconvG at hl
    split at hl
    · rename_i d j hg
      have hr := get_rep hx.fit x
      rw [hg] at hr
      obtain ⟨v, l, hr, hrep, hK⟩ := lptrConv_sound (P := X.P) hx.fit hr hl
      exact wpIn_value (v := v) (w' := w) (by rw [ho]; simp) (by unfold execOp; rw [ho]; simp [hr]) ⟨_, hK, rr_mk (put_defers' hdef) (hx.put _ hrep)⟩
    · rename_i u hg
      have hr := get_rep hx.fit x
      rw [hg] at hr
      obtain ⟨v, w', Im', l, hr, hx', hrep, hK⟩ := lcvStr_sound (P := X.P) hx hr hl
      exact wpIn_value (v := v) (w' := w') (by rw [ho]; simp) (by unfold execOp; rw [ho]; simp [hr]) ⟨_, hK, rr_mk (put_defers' hdef) (hx'.put _ hrep)⟩
    · obtain ⟨Im', hx'⟩ := RRx.freezeOps [x] hx
      obtain ⟨v, l, hr, hrep, hK⟩ := lconv_sound (P := X.P) (get_rep hx'.fit x) hl
      exact wpIn_value (v := v) (w' := w) (by rw [ho]; simp) (by unfold execOp; rw [ho]; simp [hr]) ⟨_, hK, rr_mk (put_defers' hdef) (hx'.put _ hrep)⟩
  · rename_i t x lo hi ho
    unfold lslG at hl
    split at hl
    · rename_i d hg
      obtain ⟨v, s', l, Im', hr, hx', hrep, hK⟩ := larr_sound (P := X.P) hx hg hl
      exact wpIn_value (v := v) (w' := w) (by rw [ho]; simp) (by unfold execOp; rw [ho]; simp [hr]) ⟨_, hK, rr_mk (put_defers' hdef) (hx'.put _ hrep)⟩
    · exact lq_oper hdef hx hl
  · exact lq_oper hdef hx hl

/-- Under its guard. -/
theorem lguard_sound {s : St} {a : Act} {w : World} {ops : Array Oper} {g : Option (Nat × Bool)} {A B : St → Prop} (h : RR Γ s a w) (hl : lguard (ops.toList.map (·.dst)) g A B s) :
    ∃ s', RR Γ s' a w ∧ ((A s' ∧ ∀ o : Oper, o.guard = g → Region.wanted o (yielded ops a.tmps) = true) ∨ (B s' ∧ ∀ o : Oper, o.guard = g → Region.wanted o (yielded ops a.tmps) = false)) := by
  unfold lguard at hl
  split at hl
  · exact ⟨s, h, .inl ⟨hl, fun o ho => by simp [Region.wanted, ho]⟩⟩
  · rename_i j want
    split at hl
    · rename_i dj hdj
      obtain ⟨ms, hdef, β, Im, hx⟩ := h
      have hlook : (ops[j]?).bind (·.dst) = some dj := by
        rw [List.getD_eq_getElem?_getD, List.getElem?_map] at hdj
        cases hj : ops[j]? with
        | none => simp [hj] at hdj
        | some o => simpa [hj] using hdj
      split at hl
      · rename_i c hc
        have hlt : s.tmps[dj]? = some (.p (.bool c)) := by
          rw [List.getD_eq_getElem?_getD] at hc
          cases hs : s.tmps[dj]? with
          | none => rw [hs] at hc; simp at hc
          | some l => rw [hs] at hc; simp at hc; rw [hc]
        have hrep := hx.fit.tmps dj _ hlt
        have hsz : dj < a.tmps.size := by rw [hx.fit.size]; exact (List.getElem?_eq_some_iff.1 hlt).1
        have hv : a.tmps[dj]? = some (.bool c) := by
          have e1 : a.tmps.getD dj undef = a.tmps[dj] := by simp [Array.getD_eq_getD_getElem?, hsz]
          rw [e1] at hrep
          cases hvv : a.tmps[dj] with
          | bool b => rw [hvv] at hrep; cases hrep; simp [hsz, hvv]
          | _ => rw [hvv] at hrep; cases hrep
        have hy : yielded ops a.tmps j = some c := by simp [yielded, hlook, hv]
        have same : ∀ c', c = c' → RR Γ (s.put (some dj) (.p (.bool c'))) a w := by
          rintro c' rfl
          have e : s.put (some dj) (.p (.bool c)) = s := by
            simp only [St.put]
            congr 1
            obtain ⟨hl1, hl2⟩ := List.getElem?_eq_some_iff.1 hlt
            rw [← hl2]
            exact List.set_getElem_self hl1
          rw [e]
          exact ⟨ms, hdef, β, Im, hx⟩
        by_cases hcw : c = want
        · exact ⟨_, same want hcw, .inl ⟨hl.1 hcw, fun o ho => by simp [Region.wanted, ho, hy, hcw]⟩⟩
        · have hcw' : c = !want := by cases c <;> cases want <;> simp_all
          exact ⟨_, same (!want) hcw', .inr ⟨hl.2 hcw', fun o ho => by simp [Region.wanted, ho, hy, hcw]⟩⟩
      · rename_i hc
        have hlt : s.tmps[dj]? = some (.tup []) := by
          rw [List.getD_eq_getElem?_getD] at hc
          cases hs : s.tmps[dj]? with
          | none => rw [hs] at hc; simp at hc
          | some l => rw [hs] at hc; simp at hc; rw [hc]
        have hrep := hx.fit.tmps dj _ hlt
        have hsz : dj < a.tmps.size := by rw [hx.fit.size]; exact (List.getElem?_eq_some_iff.1 hlt).1
        have e1 : a.tmps.getD dj undef = a.tmps[dj] := by simp [Array.getD_eq_getD_getElem?, hsz]
        rw [e1] at hrep
        obtain ⟨vs, hv, _⟩ := hrep
        have hy : yielded ops a.tmps j = none := by simp [yielded, hlook, hsz, hv]
        exact ⟨s, ⟨ms, hdef, β, Im, hx⟩, .inr ⟨hl, fun o ho => by simp [Region.wanted, ho, hy]⟩⟩
      · exact hl.elim
    · exact hl.elim

theorem undef_rep {β : Env} {w : World} {Im : Nat → Prop} : LRep β w Im undef (.tup []) := ⟨[], rfl, rfl, fun i x p h => by simp at h⟩

theorem lops_sound {ops : Array Oper} {K : St → Prop} {Q : Exit → Act → World → Prop} {n : Nat} (hG : Γ.G = X.G) (hQ : ∀ s a w, K s → RR Γ s a w → Q .normal a w) : ∀ (l : List Oper) (k : Nat), (∀ j, l[j]? = ops[k + j]?) → ∀ (s : St) (a : Act) (w : World), RR Γ s a w →
    lops X (ops.toList.map (·.dst)) l K s → wpOpsIn (F0 ro) n X.P ops Q (List.range' k l.length) a w
  | [], k, _, s, a, w, h, hl => by simpa [wpOpsIn] using hQ s a w hl h
  | o :: l, k, hk, s, a, w, h, hl => by
    have h0 : ops[k]? = some o := by simpa using (hk 0).symm
    have hk' : ∀ j, l[j]? = ops[k + 1 + j]? := fun j => by have := hk (j + 1); simpa [Nat.add_assoc, Nat.add_comm 1 j] using this
    simp only [List.length_cons, List.range'_succ, wpOpsIn, h0]
    simp only [lops] at hl
    obtain ⟨s', h', hc⟩ := lguard_sound h hl
    rcases hc with ⟨hA, hw⟩ | ⟨hB, hw⟩
    · rw [if_pos (hw o rfl)]
      exact Oper.wpIn_mono (fun a' w' ⟨s2, hs2, hr2⟩ => lops_sound hG hQ l (k + 1) hk' s2 a' w' hr2 hs2) (lop_sound hG h' hA)
    · rw [if_neg (by rw [hw o rfl]; simp)]
      obtain ⟨ms, hdef, β, Im, hx⟩ := h'
      exact ⟨fun _ _ => trivial, lops_sound hG hQ l (k + 1) hk' _ _ w ⟨ms, put_defers' hdef, β, Im, hx.put o.dst undef_rep⟩ hB⟩

end
end Go.LX
