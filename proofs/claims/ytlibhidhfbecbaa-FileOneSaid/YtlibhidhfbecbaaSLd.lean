import Derived.Test.YtlibhidhfbecbaaSLc
import Derived.Laws.Slices
import Derived.Laws.Strings
import Derived.Laws.Small
namespace Go.Proofs.Ytlibhidhfbecbaa.SL
set_option linter.unusedVariables false
set_option linter.unusedSimpArgs false
open Go

theorem silEq_in {P : Program} {xT : TypeId} {d : TypeDesc} {x y : Value} {b : Bool} (n : Nat) (hd : P.underlying xT = some d) (h : silEq d x y = some b) (w : World) : (Op.equalIn (n + 1) xT x y).run P w = .ok b w := by
  unfold silEq at h
  split at h
  · cases h; simp [Op.equalIn, run_underlying hd]
  · cases h; simp [Op.equalIn, run_underlying hd]
  · cases h; simp [Op.equalIn, run_underlying hd]
  · cases h
    rename_i e A n c n' c'
    cases A <;> simp [Op.equalIn, run_underlying hd]
  · cases h
theorem silEq_sound {P : Program} {xT : TypeId} {d : TypeDesc} {x y : Value} {b : Bool} (hd : P.underlying xT = some d) (h : silEq d x y = some b) (w : World) : (Op.equal xT x y).run P w = .ok b w := silEq_in 9999 hd h w

theorem strEq (a b : ByteArray) : (a.toList == b.toList) = decide (a = b) := by
  by_cases h : a = b
  · subst h; simp
  · have : a.toList ≠ b.toList := fun e => h (by
      rw [Go.ByteArray.toList_eq, Go.ByteArray.toList_eq] at e
      cases a; cases b
      simp only at e
      rw [Array.toList_inj.1 e])
    simp [h, this]

theorem some_pair {v : Value} {C : Prop} {x : Option Value} {C' : Prop} (h : x.map (fun y => (y, C')) = some (v, C)) : x = some v ∧ C = C' := by
  cases x with
  | none => cases h
  | some y => simp only [Option.map_some, Option.some.injEq, Prod.mk.injEq] at h; exact ⟨by rw [h.1], h.2.symm⟩

theorem eval_map {N : Nat} {ρ : Root} {t : Env} {a : Act} (ha : EnvOK N ρ t a) : ∀ {l : List Operand} {vs : List Value}, l.mapM (ev t) = some vs → l.map a.eval = vs
  | [], vs, h => by simp at h; simp [← h]
  | x :: l, vs, h => by
    rw [List.mapM_cons] at h
    cases hx : ev t x with
    | none => rw [hx] at h; cases h
    | some v =>
      rw [hx] at h
      cases hl : l.mapM (ev t) with
      | none => rw [hl] at h; cases h
      | some us =>
        rw [hl] at h
        cases h
        rw [List.map_cons, ha.ev hx, eval_map ha hl]

section
variable {P : Program} {U : Tab} (hU : U.OK P) {N : Nat} {ρ : Root} {t : Env} {a : Act} (ha : EnvOK N ρ t a) (w : World)
include hU ha

omit hU ha in
theorem silEq_guard {op : BinOp} {xT : TypeId} {x y : Operand} {d : TypeDesc} {vx vy : Value} {b : Bool} (h : silEq d vx vy = some b) : (eqGuard op xT x y vx vy).run P w = .ok () w := by
  unfold silEq at h
  split at h <;> first | (cases h; done) | (cases op <;> simp [eqGuard])
omit hU ha in
theorem silEq_eql {xT : TypeId} {d : TypeDesc} {vx vy : Value} {b : Bool} (hd : P.underlying xT = some d) (h : silEq d vx vy = some b) : (binOp .eql xT vx vy).run P w = .ok (.bool b) w := by
  have hq := silEq_sound hd h w
  unfold silEq at h
  split at h <;> first | (cases h; done) | (simp [binOp, hq])
omit hU ha in
theorem silEq_neq {xT : TypeId} {d : TypeDesc} {vx vy : Value} {b : Bool} (hd : P.underlying xT = some d) (h : silEq d vx vy = some b) : (binOp .neq xT vx vy).run P w = .ok (.bool !b) w := by
  have hq := silEq_sound hd h w
  unfold silEq at h
  split at h <;> first | (cases h; done) | (simp [binOp, hq])

theorem sound_binOp {op : BinOp} {xT : TypeId} {x y : Operand} {yT : TypeId} {v : Value} {C : Prop} (h : sil1 U (.binOp op xT x y yT) t = some (v, C)) (hC : C) :
    (do eqGuard op xT x y (a.eval x) (a.eval y); binOp op xT (a.eval x) (a.eval y) : Sem Value).run P w = .ok v w := by
  simp only [sil1] at h
  cases hx : ev t x with
  | none => rw [hx] at h; cases op <;> cases h
  | some vx =>
    cases hy : ev t y with
    | none => rw [hx, hy] at h; cases op <;> cases vx <;> cases h
    | some vy =>
      rw [hx, hy] at h
      rw [ha.ev hx, ha.ev hy]
      have eqs : ∀ (b : Bool) (d : TypeDesc), look U.und xT = some d → silEq d vx vy = some b → ((op = .eql ∧ v = .bool b) ∨ (op = .neq ∧ v = .bool !b)) → (do eqGuard op xT x y vx vy; binOp op xT vx vy : Sem Value).run P w = .ok v w := by
        intro b d hd hb hop
        rw [Sem.run_bind, silEq_guard w hb]
        simp only [Result.andThen_ok]
        rcases hop with ⟨rfl, rfl⟩ | ⟨rfl, rfl⟩
        · exact silEq_eql w (hU.und _ (look_mem hd)) hb
        · exact silEq_neq w (hU.und _ (look_mem hd)) hb
      have gen : (op = .eql ∧ (match look U.und xT with | some d => (silEq d vx vy).map fun b => (Value.bool b, True) | none => none) = some (v, C)) ∨ (op = .neq ∧ (match look U.und xT with | some d => (silEq d vx vy).map fun b => (Value.bool !b, True) | none => none) = some (v, C)) → (do eqGuard op xT x y vx vy; binOp op xT vx vy : Sem Value).run P w = .ok v w := by
        rintro (⟨ho, h⟩ | ⟨ho, h⟩)
        · split at h
          · rename_i d hd
            cases hb : silEq d vx vy with
            | none => rw [hb] at h; cases h
            | some b => rw [hb] at h; simp only [Option.map_some, Option.some.injEq, Prod.mk.injEq] at h; exact eqs b d hd hb (.inl ⟨ho, h.1.symm⟩)
          · cases h
        · split at h
          · rename_i d hd
            cases hb : silEq d vx vy with
            | none => rw [hb] at h; cases h
            | some b => rw [hb] at h; simp only [Option.map_some, Option.some.injEq, Prod.mk.injEq] at h; exact eqs b d hd hb (.inr ⟨ho, h.1.symm⟩)
          · cases h
      cases vx with
      | int k m =>
        cases vy with
        | int k' n =>
          have hg : (eqGuard op xT x y (.int k m) (.int k' n)).run P w = .ok () w := by
            cases op <;> simp [eqGuard]
          rw [Sem.run_bind, hg]
          simp only [Result.andThen_ok]
          clear gen eqs
          cases op <;> simp only [Option.some.injEq, Prod.mk.injEq] at h
          case shl => obtain ⟨rfl, rfl⟩ := h; simp [binOp, Op.shift, show ¬ n < 0 by omega]
          case shr => obtain ⟨rfl, rfl⟩ := h; simp [binOp, Op.shift, show ¬ n < 0 by omega]
          all_goals
            split at h
            · rename_i hk; subst hk; exact sil2_sound h hC P xT w
            · cases h
        | _ => cases op <;> first | (cases h; done) | exact gen (.inl ⟨rfl, h⟩) | exact gen (.inr ⟨rfl, h⟩)
      | string m =>
        cases vy with
        | string n =>
          clear gen eqs
          cases op <;> simp only [Option.some.injEq, Prod.mk.injEq, reduceCtorEq] at h
          · obtain ⟨rfl, rfl⟩ := h
            have : ¬ ((m.size : Int) + (n.size : Int) > 9223372036854775807) := by omega
            simp [binOp, eqGuard, Op.stringOp, IntKind.max, IntKind.signed, IntKind.bits, this]
          · obtain ⟨rfl, rfl⟩ := h
            simp [binOp, eqGuard, Op.stringOp, strEq]
          · obtain ⟨rfl, rfl⟩ := h
            simp [binOp, eqGuard, Op.stringOp, strEq]
        | _ => cases op <;> first | (cases h; done) | exact gen (.inl ⟨rfl, h⟩) | exact gen (.inr ⟨rfl, h⟩)
      | _ => cases op <;> first | (cases h; done) | exact gen (.inl ⟨rfl, h⟩) | exact gen (.inr ⟨rfl, h⟩)

omit hU in
theorem EnvOK.evo {x : Option Operand} {v : Option Value} (h : SL.evo t x = some v) : x.map a.eval = v := by
  cases x with
  | none => simp [SL.evo] at h; simp [← h]
  | some x =>
    simp only [SL.evo] at h
    cases he : SL.ev t x with
    | none => rw [he] at h; cases h
    | some u => rw [he] at h; cases h; simp [ha.ev he]

omit hU ha in
theorem run_bounds {len cap s : Nat} {isS : Bool} {A : Option Addr} {lo hi mx : Option Value} {v : Value} {C : Prop} (h : silSlice A len cap s lo hi mx = some (v, C)) (hC : C) :
    ∃ l hh m, (Instr.sliceBounds isS len cap lo hi mx).run P w = .ok (l, hh, m) w ∧ Value.slice (if m = l then A else A.map (·.add (l * s))) (hh - l) (m - l) = v := by
  unfold silSlice at h
  split at h
  · cases h
    refine ⟨0, len, cap, by simp [Instr.sliceBounds], ?_⟩
    split <;> simp [Addr.add]
  · cases h
    rename_i k h'
    refine ⟨0, h'.toNat, cap, by simp [Instr.sliceBounds, run_sliceBound, hC.1, hC.2], ?_⟩
    split <;> simp [Addr.add]
  · cases h
    exact ⟨_, len, cap, by simp [Instr.sliceBounds, run_sliceBound, hC.1, hC.2], rfl⟩
  · rename_i k l k' h'
    cases h
    have : (h'.toNat : Int) = h' := by omega
    exact ⟨l.toNat, h'.toNat, cap, by simp [Instr.sliceBounds, run_sliceBound, hC.1, hC.2, this, show 0 ≤ h' by omega], rfl⟩
  · rename_i k h' k' m
    cases h
    have : (m.toNat : Int) = m := by omega
    refine ⟨0, h'.toNat, m.toNat, by simp [Instr.sliceBounds, run_sliceBound, hC.1, hC.2, this, show 0 ≤ m by omega], ?_⟩
    split <;> simp [Addr.add]
  · rename_i k l k' h' k'' m
    cases h
    have h1 : (m.toNat : Int) = m := by omega
    have h2 : (h'.toNat : Int) = h' := by omega
    exact ⟨l.toNat, h'.toNat, m.toNat, by simp [Instr.sliceBounds, run_sliceBound, hC.1, hC.2, h1, h2, show 0 ≤ m by omega, show 0 ≤ h' by omega], rfl⟩
  · cases h

omit hU ha in
theorem run_bounds_str {s : ByteArray} {lo hi : Option Value} {v : Value} {C : Prop} (h : silStr s lo hi = some (v, C)) (hC : C) :
    ∃ l hh m, (Instr.sliceBounds false s.size s.size lo hi none).run P w = .ok (l, hh, m) w ∧ Value.string (s.extract l hh) = v := by
  unfold silStr at h
  split at h
  · cases h
    exact ⟨0, s.size, s.size, by simp [Instr.sliceBounds], rfl⟩
  · cases h
    rename_i k h'
    exact ⟨0, h'.toNat, s.size, by simp [Instr.sliceBounds, run_sliceBound, hC.1, hC.2], rfl⟩
  · cases h
    exact ⟨_, s.size, s.size, by simp [Instr.sliceBounds, run_sliceBound, hC.1, hC.2], rfl⟩
  · rename_i k l k' h'
    cases h
    have : (h'.toNat : Int) = h' := by omega
    exact ⟨l.toNat, h'.toNat, s.size, by simp [Instr.sliceBounds, run_sliceBound, hC.1, hC.2, this, show 0 ≤ h' by omega], rfl⟩
  · cases h

theorem sound_slice {ty : TypeId} {x : Operand} {lo hi mx : Option Operand} {v : Value} {C : Prop} (h : sil1 U (.slice ty x lo hi mx) t = some (v, C)) (hC : C) :
    (Instr.sliceAt ty (a.eval x) (lo.map a.eval) (hi.map a.eval) (mx.map a.eval)).run P w = .ok v w := by
  simp only [sil1] at h
  split at h
  · rename_i s lo' hi' h1 hx h2 h3 h4
    obtain ⟨l, hh, m, hr, he⟩ := run_bounds_str (P := P) w h hC
    rw [ha.ev hx, EnvOK.evo ha h2, EnvOK.evo ha h3, EnvOK.evo ha h4]
    simp [Instr.sliceAt, Instr.slice, hU.run_und h1, hr, he]
  · rename_i e A len cap lo' hi' mx' h1 hx h2 h3 h4
    split at h
    · rename_i s hs
      obtain ⟨l, hh, m, hr, he⟩ := run_bounds (P := P) (isS := true) w h hC
      rw [ha.ev hx, EnvOK.evo ha h2, EnvOK.evo ha h3, EnvOK.evo ha h4]
      simp only [Instr.sliceAt, Instr.slice, hU.run_und h1, hU.run_sz hs, hr, Sem.run_bind, Result.andThen_ok, Sem.run_pure, he]
    · cases h
  · rename_i n e a' lo' hi' mx' h1 hx h2 h3 h4
    split at h
    · rename_i s hs
      obtain ⟨l, hh, m, hr, he⟩ := run_bounds (P := P) (isS := false) w h hC
      rw [ha.ev hx, EnvOK.evo ha h2, EnvOK.evo ha h3, EnvOK.evo ha h4]
      simp only [Instr.sliceAt, Instr.sureAddr, hU.run_und h1, hU.run_sz hs, hr, Sem.run_bind, Result.andThen_ok, Sem.run_pure, ← he]
      split <;> simp
    · cases h
  · cases h

omit hU in
theorem eval_ps {ps : List (Nat × Operand)} {vs : List (Nat × Value)} (h : evps t ps = some vs) : ps.map (fun p => (p.1, a.eval p.2)) = vs := by
  induction ps generalizing vs with
  | nil => simp [evps] at h; simp [← h]
  | cons p ps ih =>
    unfold evps at h
    rw [List.mapM_cons] at h
    cases hx : ev t p.2 with
    | none => rw [hx] at h; cases h
    | some v =>
      cases hl : evps t ps with
      | none => unfold evps at hl; rw [hx, hl] at h; cases h
      | some us =>
        have hl' := hl
        unfold evps at hl'
        rw [hx, hl'] at h
        cases h
        rw [List.map_cons, ih hl, ha.ev hx]

omit hU ha in
theorem run_places {fs : Array Field} {ps : List (Nat × Nat)} (h : placesOf P fs.toList = some ps) : (fs.mapM fun f => do pure (f.offset, ← sizeOf f.type) : Sem (Array (Nat × Nat))).run P w = .ok ps.toArray w := by
  obtain ⟨l⟩ := fs
  rw [List.mapM_toArray, Sem.run_map]
  have key : ∀ (l : List Field) (ps : List (Nat × Nat)), placesOf P l = some ps → (l.mapM fun f => do pure (f.offset, ← sizeOf f.type) : Sem (List (Nat × Nat))).run P w = .ok ps w := by
    intro l
    induction l with
    | nil => intro ps h; simp [placesOf] at h; simp [← h]
    | cons f l ih =>
      intro ps h
      unfold placesOf at h
      rw [List.mapM_cons] at h
      cases hi : P.info? f.type with
      | none => rw [hi] at h; cases h
      | some i =>
        cases hl : placesOf P l with
        | none => unfold placesOf at hl; rw [hi, hl] at h; cases h
        | some us =>
          have hl' := hl
          unfold placesOf at hl'
          rw [hi, hl'] at h
          cases h
          rw [List.mapM_cons, Sem.run_bind]
          have h1 : (do pure (f.offset, ← sizeOf f.type) : Sem (Nat × Nat)).run P w = .ok (f.offset, i.size) w := by simp [sizeOf, typeInfo, hi]
          rw [h1]
          simp only [Result.andThen_ok, Sem.run_bind, ih us hl, Sem.run_pure]
  rw [key l ps h]
  rfl

theorem sound_build {ty : TypeId} {ps : Array (Nat × Operand)} {v : Value} {C : Prop} (h : silBuild U ty ps.toList t = some (v, C)) : (Instr.build ty (ps.map fun (i, x) => (i, a.eval x))).run P w = .ok v w := by
  unfold silBuild at h
  split at h
  · rename_i n e n1 n2 z vs h1 h2 h3
    obtain ⟨i, hi, _, _, hz⟩ := hU.ti _ (look_mem h2)
    simp only at hi hz
    split at h
    · rename_i s h4
      split at h
      · rename_i cs h5; cases h
        have e3 : (ps.map fun (i, x) => (i, a.eval x)).toList = vs := by rw [Array.toList_map]; exact eval_ps ha h3
        simp only [Instr.build, zeroValue, typeInfo, Sem.run_bind, run_program, hi, hz, Sem.run_pure, Result.andThen_ok, hU.run_und h1, hU.run_sz h4, e3, h5]
      · cases h
    · cases h
  · rename_i fs n1 n2 z vs h1 h2 h3
    obtain ⟨i, hi, _, _, hz⟩ := hU.ti _ (look_mem h2)
    simp only at hi hz
    split at h
    · rename_i pl h4
      obtain ⟨fs', hf, hp⟩ := hU.bld _ (look_mem h4)
      simp only at hf hp
      split at h
      · rename_i cs h5; cases h
        have e3 : (ps.map fun (i, x) => (i, a.eval x)).toList = vs := by rw [Array.toList_map]; exact eval_ps ha h3
        have h5' : Instr.fill (pl.toArray[·]?) z.cells vs = some cs := by simpa using h5
        simp only [Instr.build, zeroValue, typeInfo, Sem.run_bind, run_program, hi, hz, Sem.run_pure, Result.andThen_ok, run_underlying hf, run_places w hp, e3, h5']
      · cases h
    · cases h
  · cases h

omit ha in
theorem sound_index {ty e : TypeId} {len : Nat} {cs : Array Value} {n : Int} {k : IntKind} {v : Value} {C : Prop} (hu : look U.und ty = some (.array len e)) (h : silIndex U e len cs n = some (v, C)) (hC : C) : (Instr.index ty (.agg cs) (.int k n)).run P w = .ok v w := by
  unfold silIndex at h
  split at h
  · rename_i fs s h1 h2; cases h
    have := hU.run_sz h2 w
    simp [Instr.index, asIntOf, hU.run_und hu, hC.1, hC.2, part, isAgg, hU.run_und h1, this]
  · rename_i n1 n2 s h1 h2; cases h
    have := hU.run_sz h2 w
    simp [Instr.index, asIntOf, hU.run_und hu, hC.1, hC.2, part, isAgg, hU.run_und h1, this]
  · rename_i d hn1 hn2 h1 h2; cases h
    have := hU.run_sz h2 w
    have hagg : (isAgg e).run P w = .ok false w := by
      unfold isAgg
      rw [Sem.run_bind, hU.run_und h1]
      simp only [Result.andThen_ok]
      cases d <;> simp_all
    simp [Instr.index, asIntOf, hU.run_und hu, hC.1.1, hC.1.2, part, hagg, this, hC.2]
  · cases h

theorem sound_call {o : Oper} {c : Call} (ho : o.op = .call c) {v : Value} {C : Prop} (h : silCall U c.callee c.args.toList c.argTypes.toList t = some (v, C)) (hC : C) : (execOp a.eval o).run P w = .ok (.value v) w := by
  obtain ⟨callee, args, argTypes⟩ := c
  simp only at h
  unfold silCall at h
  split at h
  · rename_i x ty h1 h2
    obtain rfl : args = #[x] := by rw [← Array.toList_inj, h1]
    obtain rfl : argTypes = #[ty] := by rw [← Array.toList_inj, h2]
    unfold execOp
    simp only [ho, resolve, invoke, builtin, Sem.run_bind, Sem.run_pure, Result.andThen_ok, List.map_toArray, List.map_cons, List.map_nil]
    split at h
    · rename_i h3 hx; cases h
      simp [Builtin.len_, ha.ev hx, hU.run_und h3, goInt]
    · rename_i h3 hx; cases h
      simp [Builtin.len_, ha.ev hx, hU.run_und h3, goInt]
    · rename_i h3 hx; cases h
      simp [Builtin.len_, ha.ev hx, hU.run_und h3, goInt]
    · cases h
  · rename_i x y h1
    obtain rfl : args = #[x, y] := by rw [← Array.toList_inj, h1]
    unfold execOp
    simp only [ho, resolve, invoke, builtin, Sem.run_bind, Sem.run_pure, Result.andThen_ok, List.map_toArray, List.map_cons, List.map_nil]
    split at h
    · rename_i hx hy; cases h
      simp [Builtin.min_, Builtin.min2, ha.ev hx, ha.ev hy]
    · cases h
  · rename_i x y h1
    obtain rfl : args = #[x, y] := by rw [← Array.toList_inj, h1]
    unfold execOp
    simp only [ho, resolve, invoke, builtin, Sem.run_bind, Sem.run_pure, Result.andThen_ok, List.map_toArray, List.map_cons, List.map_nil]
    split at h
    · rename_i hx hy; cases h
      simp [Builtin.max_, Builtin.max2, ha.ev hx, ha.ev hy]
    · cases h
  · cases h

theorem sil1_sound {o : Oper} {v : Value} {C : Prop} (h : sil1 U o.op t = some (v, C)) (hC : C) : (execOp a.eval o).run P w = .ok (.value v) w := by
  unfold execOp
  cases ho : o.op with
  | move x => rw [ho] at h; simp only [sil1] at h; obtain ⟨h1, rfl⟩ := some_pair (C' := True) h; simp [ha.ev h1]
  | assign x => rw [ho] at h; simp only [sil1] at h; obtain ⟨h1, rfl⟩ := some_pair (C' := True) h; simp [ha.ev h1]
  | pick c x y =>
    rw [ho] at h
    simp only [sil1] at h
    split at h
    · rename_i hc; obtain ⟨h1, rfl⟩ := some_pair (C' := True) h; simp [asBool, ha.ev hc, ha.ev h1]
    · rename_i hc; obtain ⟨h1, rfl⟩ := some_pair (C' := True) h; simp [asBool, ha.ev hc, ha.ev h1]
    · cases h
  | nilCheck x =>
    rw [ho] at h
    simp only [sil1] at h
    split at h
    · rename_i hx; cases h; simp [ha.ev hx]
    · cases h
  | binOp op xT x y yT =>
    rw [ho] at h
    have hr := sound_binOp hU ha w h hC
    rw [Sem.run_bind] at hr
    show ((do eqGuard op xT x y (a.eval x) (a.eval y); binOp op xT (a.eval x) (a.eval y) : Sem Value) >>= fun r => Pure.pure (Next.value r)).run P w = _
    rw [Sem.run_bind, Sem.run_bind, hr]
    rfl
  | unOp op xT x =>
    rw [ho] at h
    simp only [sil1] at h
    split at h
    · rename_i hx; cases h; simp [ha.ev hx, Op.unary]
    · rename_i hx; cases h; simp [ha.ev hx, Op.unary, Op.intArith]
    · rename_i hx; cases h; simp [ha.ev hx, Op.unary, Op.intBits, bits2]
    · cases h
  | convert src dst x =>
    rw [ho] at h
    simp only [sil1] at h
    split at h
    · rename_i h1 h2 hx; cases h
      simp [ha.ev hx, convert, hU.run_und h1, hU.run_und h2, Conv.intToInt]
    · rename_i h1 h2 hx; cases h
      simp [ha.ev hx, convert, hU.run_und h1, hU.run_und h2]
    · cases h
  | extract x i =>
    rw [ho] at h
    simp only [sil1] at h
    split at h
    · rename_i hx
      split at h
      · rename_i hv; cases h; simp [ha.ev hx, Instr.extract, hv]
      · cases h
    · cases h
  | fieldAddr s x f =>
    rw [ho] at h
    simp only [sil1] at h
    split at h
    · rename_i h1 hx; cases h
      obtain ⟨fs, g, h2, h3, h4, h5, i, h6, h7⟩ := hU.fld _ (look2_mem h1)
      simp only at h2 h3 h4 h5 h6 h7
      simp [ha.ev hx, Instr.fieldAt, run_underlying h2, h3, Instr.sureAddr, fieldPlace, sizeOf, typeInfo, h6, h7, h4, Addr.add_mid]
    · cases h
  | field s x f =>
    rw [ho] at h
    simp only [sil1] at h
    split at h
    · rename_i h1 hx
      obtain ⟨fs, g, h2, h3, h4, h5, i, h6, h7⟩ := hU.fld _ (look2_mem h1)
      simp only at h2 h3 h4 h5 h6 h7
      split at h
      · rename_i h8 h9; cases h
        have := hU.run_sz h9 w
        simp [ha.ev hx, Instr.field, run_underlying h2, h3, asAgg, part, isAgg, h5, hU.run_und h8, this, h4]
      · rename_i h8 h9; cases h
        have := hU.run_sz h9 w
        simp [ha.ev hx, Instr.field, run_underlying h2, h3, asAgg, part, isAgg, h5, hU.run_und h8, this, h4]
      · rename_i d n hn1 hn2 h8 h9
        split at h
        · rename_i hv; cases h
          have hagg : (isAgg g.type).run P w = .ok false w := by
            unfold isAgg
            rw [Sem.run_bind, h5, hU.run_und h8]
            simp only [Result.andThen_ok]
            cases d <;> simp_all
          simp [ha.ev hx, Instr.field, run_underlying h2, h3, asAgg, part, hagg, h4, hv]
        · cases h
      · cases h
    · cases h
  | makeFunc fn first captured =>
    rw [ho] at h
    simp only [sil1] at h
    split at h
    · rename_i h1 h2; cases h
      have e1 := eval_map ha h1
      have e2 := eval_map ha h2
      have e3 : first.map a.eval = (first.toList.map a.eval).toArray := by rw [← Array.toList_inj]; exact Array.toList_map
      have e4 : captured.map a.eval = (captured.toList.map a.eval).toArray := by rw [← Array.toList_inj]; exact Array.toList_map
      show ((Instr.makeFunc fn (first.map a.eval) (captured.map a.eval)) >>= fun r => Pure.pure (Next.value r)).run P w = _
      rw [e3, e4, e1, e2]; rfl
    · cases h
  | makeInterface ty x =>
    rw [ho] at h
    simp only [sil1] at h
    split at h
    · cases h
    · rename_i d v hn h1 hx; cases h
      simp only [Instr.makeInterface, ha.ev hx, Sem.run_bind, hU.run_und h1, Result.andThen_ok]
      cases d <;> first | rfl | exact absurd h1 (hn _)
    · cases h
  | index ty x i =>
    rw [ho] at h
    simp only [sil1] at h
    split at h
    · rename_i s k n h1 hx hi; cases h
      have hlt : n.toNat < s.size := by omega
      have : s[n.toNat]? = some s[n.toNat] := by simp [hlt]
      simp only [Instr.index, ha.ev hx, ha.ev hi, asIntOf, Sem.run_bind, Sem.run_pure, Result.andThen_ok, hU.run_und h1, hC.1, if_true, this]
      simp [sb, hlt]
      rfl
    · rename_i len e cs k n h1 hx hi
      have := sound_index hU w (k := k) h1 h hC
      simp [ha.ev hx, ha.ev hi, this]
    · cases h
  | build ty ps =>
    rw [ho] at h
    have := sound_build hU ha w h
    simp [this]
  | indexAddr ty x i =>
    rw [ho] at h
    simp only [sil1] at h
    split at h
    · rename_i e A len cap k n h1 hx hi
      split at h
      · rename_i s h2; cases h
        obtain ⟨⟨h0, h1'⟩, h3⟩ := hC
        obtain ⟨ad, rfl⟩ := Option.isSome_iff_exists.1 h3
        simp [Instr.indexAt, ha.ev hx, ha.ev hi, asIntOf, hU.run_und h1, hU.run_sz h2, elemAt, h0, h1']
      · cases h
    · rename_i len e b o k n h1 hx hi
      split at h
      · rename_i s h2; cases h
        obtain ⟨h0, h1'⟩ := hC
        simp [Instr.indexAt, ha.ev hx, ha.ev hi, asIntOf, hU.run_und h1, hU.run_sz h2, Instr.sureAddr, h0, h1', Addr.add_mid]
      · cases h
    · cases h
  | slice ty x lo hi mx =>
    rw [ho] at h
    simp [sound_slice hU ha w h hC]
  | call c =>
    rw [ho] at h
    have := sound_call hU ha w ho h hC
    unfold execOp at this
    rw [ho] at this
    exact this
  | _ => rw [ho] at h; simp [sil1] at h
end

def gd (ops : Array Oper) (o : Oper) (t : Env) : Option Bool :=
  match o.guard with
  | none => some true
  | some (j, b) => match (ops[j]?).bind (·.dst) with
    | some d => match get t d with
      | some (.bool c) => some (match c, b with | true, true => true | false, false => true | _, _ => false)
      | some _ => some false
      | none => none
    | none => none

theorem gd_sound {N : Nat} {ρ : Root} {t : Env} {a : Act} (ha : EnvOK N ρ t a) {ops : Array Oper} {o : Oper} {b : Bool} (h : gd ops o t = some b) : Region.wanted o (yielded ops a.tmps) = b := by
  unfold gd at h
  unfold Region.wanted
  split at h
  · rename_i hg; rw [hg]; cases h; rfl
  · rename_i j want hg
    rw [hg]
    split at h
    · rename_i d hd
      split at h
      · rename_i c hc
        have h2 := ha.get hc
        simp only [Option.some.injEq] at h
        simp only [yielded, hd, Option.bind_some, h2]
        cases c <;> cases want <;> simp at h ⊢ <;> exact h
      · rename_i v hn hc
        have h2 := ha.get hc
        simp only [Option.some.injEq] at h
        subst h
        simp only [yielded, hd, Option.bind_some, h2]
        cases v <;> first | rfl | exact absurd rfl (hn _)
      · cases h
    · cases h

def sil (N : Nat) (U : Tab) (nw : List Nat) (ops : Array Oper) : Nat → Nat → Env → Option (Env × Prop)
  | 0, _, t => some (t, True)
  | n + 1, i, t => match ops[i]? with
    | none => none
    | some o => match gd ops o t with
      | some true => match o.dst, (match onList nw i with | true => silw U o.op t | false => sil1 U o.op t) with
        | some d, some (v, C) => match Nat.ble (d + 1) N with
          | true => match sil N U nw ops n (i + 1) (put t d v) with
            | some (t', C') => some (t', C ∧ C')
            | none => none
          | false => none
        | _, _ => none
      | some false => match o.dst with
        | some d => match Nat.ble (d + 1) N with
          | true => sil N U nw ops n (i + 1) (put t d undef)
          | false => none
        | none => sil N U nw ops n (i + 1) t
      | none => none

theorem drop_cons {ops : Array Oper} {i : Nat} {o : Oper} (h : ops[i]? = some o) : ops.toList.drop i = o :: ops.toList.drop (i + 1) := by
  have hlt : i < ops.toList.length := by
    have := (Array.getElem?_eq_some_iff.1 h).1
    simpa using this
  rw [List.drop_eq_getElem_cons hlt]
  congr 1
  have h2 : ops.toList[i]? = some o := by simpa using h
  rw [List.getElem?_eq_getElem hlt] at h2
  exact Option.some.inj h2

theorem sem_of_run {o : Oper} {P : Program} {a : Act} {w w' : World} {n : Next} {ro : Option Nat} (hr : (execOp a.eval o).run P w = .ok n w') (hn : ∀ d, n ≠ .defer d) : (o.semAt ro a.eval).run P w = .ok n w' := by
  by_cases h : ∀ c, o.op ≠ .defer c
  · rw [Oper.semAt_eq _ _ _ h]; exact hr
  · have h : ∃ c, o.op = .defer c := by simpa using h
    obtain ⟨c, hc⟩ := h
    exfalso
    unfold execOp at hr
    simp only [hc, Sem.run_bind] at hr
    cases hq : (resolve a.eval c o.type).run P w with
    | ok d w1 => rw [hq] at hr; simp [Result.andThen] at hr; exact hn _ hr.1.symm
    | halt x w1 => rw [hq] at hr; simp [Result.andThen] at hr
theorem about_any {X : Cx} {o : Oper} {w : World} {a : Act} : ∀ f, o.about X.P w a.eval = some f → X.F.fn f := fun _ _ => trivial

section
variable {X : Cx} {K : Post} {ops : Array Oper} {U : Tab} (hU : U.OK X.P)
include hU

theorem RunR.sil_raw (nw : List Nat) : ∀ (n i : Nat) (t : Env) (D : List Fact) (t' : Env) (C : Prop), sil X.N U nw ops n i t = some (t', C) → C → RunR X K ops (i + n) t' D → RunR X K ops i t D
  | 0, i, t, D, t', C, h, hC, k => by cases h; exact k
  | n + 1, i, t, D, t', C, h, hC, k => by
    unfold sil at h
    cases ho : ops[i]? with
    | none => rw [ho] at h; cases h
    | some o =>
      rw [ho] at h
      simp only at h
      cases hg : gd ops o t with
      | none => rw [hg] at h; cases h
      | some b =>
        rw [hg] at h
        cases b with
        | true =>
          simp only at h
          cases hd : o.dst with
          | none => rw [hd] at h; cases h
          | some d =>
            cases hs : (match onList nw i with | true => silw U o.op t | false => sil1 U o.op t) with
            | none => rw [hd, hs] at h; cases h
            | some p =>
              obtain ⟨v, C1⟩ := p
              rw [hd, hs] at h
              simp only at h
              have hs1 : C1 → ∃ C', C' ∧ sil1 U o.op t = some (v, C') := by
                intro hC1
                cases hb : onList nw i with
                | true => rw [hb] at hs; exact silw_sil1 hs hC1
                | false => rw [hb] at hs; exact ⟨C1, hC1, hs⟩
              cases hb : Nat.ble (d + 1) X.N with
              | false => rw [hb] at h; cases h
              | true =>
                rw [hb] at h
                cases hr : sil X.N U nw ops n (i + 1) (put t d v) with
                | none => rw [hr] at h; cases h
                | some q =>
                  obtain ⟨t2, C2⟩ := q
                  rw [hr] at h
                  cases h
                  have k' := RunR.sil_raw nw n (i + 1) (put t d v) D _ _ hr hC.2 (by rw [show i + 1 + n = i + (n + 1) by omega]; exact k)
                  intro ρ a w ha hw
                  rw [drop_cons ho]
                  unfold wpListIn
                  rw [if_pos (gd_sound ha hg)]
                  refine ⟨about_any, ?_⟩
                  obtain ⟨C', hC', hs2⟩ := hs1 hC.1
                  rw [sem_of_run (sil1_sound hU ha w hs2 hC') (fun _ h => by cases h), Oper.uponIn_value, hd]
                  exact k' ρ _ _ (ha.put (Nat.le_of_ble_eq_true hb) v) hw
        | false =>
          simp only at h
          cases hd : o.dst with
          | none =>
            rw [hd] at h
            have k' := RunR.sil_raw nw n (i + 1) t D t' C h hC (by rw [show i + 1 + n = i + (n + 1) by omega]; exact k)
            intro ρ a w ha hw
            rw [drop_cons ho]
            unfold wpListIn
            rw [if_neg (by rw [gd_sound ha hg]; simp), hd]
            exact ⟨about_any, k' ρ _ _ ⟨ha.ok, ha.defers, ha.size, ha.at_⟩ hw⟩
          | some d =>
            rw [hd] at h
            simp only at h
            cases hb : Nat.ble (d + 1) X.N with
            | false => rw [hb] at h; cases h
            | true =>
              rw [hb] at h
              have k' := RunR.sil_raw nw n (i + 1) (put t d undef) D t' C h hC (by rw [show i + 1 + n = i + (n + 1) by omega]; exact k)
              intro ρ a w ha hw
              rw [drop_cons ho]
              unfold wpListIn
              rw [if_neg (by rw [gd_sound ha hg]; simp), hd]
              exact ⟨about_any, k' ρ _ _ (ha.put (Nat.le_of_ble_eq_true hb) undef) hw⟩

theorem RunR.sil (nw : List Nat) (n j : Nat) (keep : List Nat) {i : Nat} {t : Env} {D : List Fact} (t' : Env) (C : Prop) (hj : i + n = j) (h : (SL.sil X.N U nw ops n i t).map (fun p => (pick p.1 keep, p.2)) = some (t', C)) (hC : C) (k : RunR X K ops j t' D) : RunR X K ops i t D := by
  subst hj
  cases hs : SL.sil X.N U nw ops n i t with
  | none => rw [hs] at h; cases h
  | some p =>
    obtain ⟨t1, C1⟩ := p
    rw [hs] at h
    simp only [Option.map_some, Option.some.injEq, Prod.mk.injEq] at h
    obtain ⟨rfl, rfl⟩ := h
    exact RunR.sil_raw hU nw n i t D t1 C1 hs hC (fun ρ a w ha hw => k ρ a w (ha.sub (fun p hp => pick_mem hp)) hw)
end

section
variable {X : Cx} {K : Post} {ops : Array Oper} {t : Env} {D : List Fact} {i : Nat}

theorem RunR.done (hb : Nat.ble ops.size i = true) (k : K .normal t D) : RunR X K ops i t D := fun ρ a w ha hw => by
  rw [List.drop_eq_nil_of_le (by simpa using Nat.le_of_ble_eq_true hb)]
  exact ⟨ρ, t, D, .refl ρ, ha, hw, k⟩

theorem RunC.region {id : Nat} (h : RunR X K ops 0 t D) : RunC X K (.region id ops false) t D := fun ρ a w ha hw => wpIn_region_list (by simpa using h ρ a w ha hw)

theorem RunR.weaken (t' : Env) (D' : List Fact) (ht : ∀ p ∈ t', p ∈ t) (hD : ∀ w0 W w, SAT w0 W D w → SAT w0 W D' w) (k : RunR X K ops i t' D') : RunR X K ops i t D :=
  fun ρ a w ha hw => k ρ a w (ha.sub ht) (hD _ _ w hw)
theorem RunC.weaken {c : Code} (t' : Env) (D' : List Fact) (ht : ∀ p ∈ t', p ∈ t) (hD : ∀ w0 W w, SAT w0 W D w → SAT w0 W D' w) (k : RunC X K c t' D') : RunC X K c t D :=
  fun ρ a w ha hw => k ρ a w (ha.sub ht) (hD _ _ w hw)
theorem RunC.env {c : Code} (keep : List Nat) (t' : Env) (h : pick t keep = t') (k : RunC X K c t' D) : RunC X K c t D := by
  subst h
  exact fun ρ a w ha hw => k ρ a w (ha.sub (fun p hp => pick_mem hp)) hw
theorem RunC.enveq {c : Code} (t' : Env) (h : t = t') (k : RunC X K c t' D) : RunC X K c t D := by subst h; exact k
theorem RunR.enveq (t' : Env) (h : t = t') (k : RunR X K ops i t' D) : RunR X K ops i t D := by subst h; exact k
theorem RunR.env (keep : List Nat) (t' : Env) (h : pick t keep = t') (k : RunR X K ops i t' D) : RunR X K ops i t D := by
  subst h
  exact fun ρ a w ha hw => k ρ a w (ha.sub (fun p hp => pick_mem hp)) hw
end
end Go.Proofs.Ytlibhidhfbecbaa.SL
