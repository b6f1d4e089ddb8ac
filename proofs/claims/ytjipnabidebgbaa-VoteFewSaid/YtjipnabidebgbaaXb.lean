import Derived.Test.YtjipnabidebgbaaXa
set_option linter.unusedVariables false
set_option linter.unusedSimpArgs false
namespace Rx
open Go Go.RowKit
section
variable {T : Nat → List A → Bool × List A} {e : Nat → A} {n n' : Nat} {loc loc' : Loc} {P : Program} {X : Ctx} {w0 : World}
variable {fr : List SV} {rows : List Row} {gs : List (L × Bool)} {pc : L} {o : Oper} {g : G} {inl : Inline}
theorem fold_rel (off : Nat) : ∀ {c : List C} {l : List Value} {k : Nat} {cs : Array Value} {cells : List C}, CsRel e n loc cells cs.toList → CsRel e n loc c l →
    CsRel e n loc (setCells cells (off + k) c) ((l.zipIdx k).foldl (fun (cs : Array Value) (x : Value × Nat) => cs.setIfInBounds (off + x.2) x.1) cs).toList
  | [], [], k, cs, cells, h, _ => by simpa [setCells] using h
  | c :: r, v :: l, k, cs, cells, h, hc => by
    simp only [setCells, List.zipIdx_cons, List.foldl_cons]
    have h1 : CsRel e n loc (cells.set (off + k) c) (cs.setIfInBounds (off + k) v).toList := by
      rw [Array.toList_setIfInBounds]
      exact CsRel_set h hc.1 _
    have := fold_rel off (k := k + 1) h1 hc.2
    rwa [← Nat.add_assoc] at this
def PartsRel (e : Nat → A) (n : Nat) (loc : Loc) : List (Nat × PV) → List (Nat × Value) → Prop
  | [], [] => True
  | (i, p) :: l, (j, v) :: m => i = j ∧ p.rel e n loc v ∧ PartsRel e n loc l m
  | _, _ => False
theorem argPVs_sound {fr : List SV} {a : Act} {gs : List (L × Bool)} : ∀ {xs : List (Nat × Operand)} {ps : List (Nat × PV)}, argPVs fr gs xs = some ps → FrRel e n loc fr a.tmps → Holds e gs → PartsRel e n loc ps (xs.map fun x => (x.1, a.eval x.2))
  | [], ps, h, _, _ => by simp [argPVs] at h; subst h; trivial
  | (i, x) :: l, ps, h, hf, hg => by
    simp only [argPVs, Option.bind_eq_bind, Option.bind_eq_some_iff, Option.some.injEq] at h
    obtain ⟨p, hp, r, hr, rfl⟩ := h
    exact ⟨rfl, opd_sound hp hf hg, argPVs_sound hr hf hg⟩
theorem fill_lay {size place : Nat → Option (Nat × Nat)} (hs : ∀ i x, size i = some x → place i = some x) : ∀ {ps : List (Nat × PV)} {vs : List (Nat × Value)} {cells r : List C} {cs : Array Value}, lay size cells ps = some r → PartsRel e n loc ps vs → CsRel e n loc cells cs.toList →
    ∃ us : Array Value, Instr.fill place cs vs = some us ∧ CsRel e n loc r us.toList ∧ r.length = cells.length
  | [], [], cells, r, cs, h, _, hc => by
    simp only [lay, Option.some.injEq] at h
    subst h
    exact ⟨cs, rfl, hc, rfl⟩
  | (i, p) :: ps, (j, v) :: vs, cells, r, cs, h, hp, hc => by
    obtain ⟨rfl, hpv, hps⟩ := hp
    simp only [lay, Option.bind_eq_bind, Option.bind_eq_some_iff] at h
    obtain ⟨⟨off, m⟩, hi, h⟩ := h
    simp only at h
    split at h
    · rename_i hh
      simp only [Bool.and_eq_true, beq_iff_eq, decide_eq_true_eq] at hh
      obtain ⟨us, hu1, hu2⟩ := PV.rel_cells hpv
      have hl := CsRel_len hu2
      have hl2 := CsRel_len hc
      have hfold := fold_rel off (k := 0) hc hu2
      simp only [Nat.add_zero] at hfold
      obtain ⟨us', h1, h2, h3⟩ := fill_lay hs h hps hfold
      refine ⟨us', ?_, h2, by rw [h3, setCells_len]⟩
      unfold Instr.fill
      have hsz : v.cells.size = m := by rw [hu1]; simp; omega
      have hcs : cs.size = cells.length := by rw [hl2]; simp
      simp only [hs i _ hi, hsz]
      have e1 : (decide (m ≠ m) || decide (off + m > cs.size)) = false := by
        simp; omega
      rw [if_neg (by rw [e1]; simp)]
      rw [← h1]
      congr 1
      rw [hu1]
      simp [← Array.foldl_toList]
    · cases h
theorem run_mapM_list {α β : Type} {f : α → Sem β} {h : α → β} : ∀ {l : List α}, (∀ a ∈ l, ∀ w, (f a).run P w = .ok (h a) w) → ∀ w, (l.mapM f).run P w = .ok (l.map h) w
  | [], _, w => by simp
  | a :: l, hh, w => by
    have ih := run_mapM_list (l := l) (fun b hb => hh b (by simp [hb])) w
    simp only [List.mapM_cons, Sem.run_bind, hh a (by simp), Result.andThen_ok, ih, Sem.run_pure, List.map_cons]
theorem run_mapM_array {α β : Type} {f : α → Sem β} {h : α → β} {l : Array α} (hh : ∀ a ∈ l.toList, ∀ w, (f a).run P w = .ok (h a) w) (w : World) : (l.mapM f).run P w = .ok (l.map h) w := by
  rw [Array.mapM_eq_mapM_toList]
  simp only [Sem.run_map, run_mapM_list hh, Result.andThen_ok]
  congr 1
  apply Array.ext'
  simp
theorem op_build {t : TypeId} {parts : Array (Nat × Operand)} (hX : TysOK P X.tys) (ho : o.op = .build t parts) : OpOK P T e w0 fr rows gs pc o g (execOp X inl fr rows gs pc o g) := by
  obtain ⟨dst, op', ty, pos, after, guard⟩ := o
  simp only at ho
  subst ho
  simp only [execOp, Option.bind_eq_bind, Ctx.ty]
  cases ht : look t X.tys with
  | none => trivial
  | some tt =>
    have htt := hX t tt ht
    simp only [Option.bind_some]
    cases hp : argPVs fr gs parts.toList with
    | none => trivial
    | some ps =>
      simp only [Option.bind_some]
      obtain ⟨z, hz1, hz2, hz3⟩ := run_zero htt
      have hparts : ∀ a : Act, (parts.map fun x => (x.1, a.eval x.2)).toList = parts.toList.map fun x => (x.1, a.eval x.2) := fun a => by simp
      split
      · rename_i fs hk
        cases hl : lay (structAt fs X) (zeroC tt.zero) ps with
        | none => trivial
        | some cs =>
          simp only [Option.bind_some]
          obtain ⟨gs', hg1, hg2⟩ := kind_struct htt hk
          refine opOK_one fun hg => ⟨hg, fun loc a w1 _ hgs hfr hcl => ?_⟩
          have hfl := htt.fields _ hg1
          simp only [fieldsB, List.all_eq_true] at hfl
          have hmap : ∀ w, (gs'.mapM fun f => (do pure (f.offset, ← Go.sizeOf f.type) : Sem (Nat × Nat))).run P w = .ok (gs'.map fun f => (f.offset, ((P.info? f.type).map (·.size)).getD 0)) w := fun w =>
            run_mapM_array (fun f hf w => by
              have := hfl f hf
              cases hi : P.info? f.type with
              | none => rw [hi] at this; cases this
              | some i => simp [Go.sizeOf, run_info hi]) w
          have hplace : ∀ i x, structAt fs X i = some x → (gs'.map fun f => (f.offset, ((P.info? f.type).map (·.size)).getD 0))[i]? = some x := fun i x hx => by
            obtain ⟨off, m⟩ := x
            obtain ⟨u, ty', h1, h2, h3, h4⟩ := structAt_some hX hx
            have := congrArg (·[i]?) hg2
            simp only [List.getElem?_map, h1] at this
            cases hfd : gs'.toList[i]? with
            | none => rw [hfd] at this; cases this
            | some fd =>
              rw [hfd] at this
              simp only [Option.map_some, Option.some.injEq, Prod.mk.injEq] at this
              obtain ⟨j, _, hj1, hj2, _⟩ := h4.info
              have hfd' : gs'[i]? = some fd := by simpa using hfd
              simp [hfd', this.1, this.2, hj1, hj2, h3]
          obtain ⟨us, u1, u2, u3⟩ := fill_lay hplace hl (argPVs_sound hp hfr hgs) (hz2 e rows.length loc)
          refine ⟨.agg us, ⟨us.toList, by simp, u2⟩, fun w _ => ?_⟩
          simp only [Go.execOp, Instr.build, Sem.run_bind, hz3, Result.andThen_ok, run_underlying hg1, hmap, hparts, u1, Sem.run_pure]
      · rename_i m u hk
        cases hu : look u X.tys with
        | none => trivial
        | some tu =>
          have htu := hX u tu hu
          simp only [Option.bind_some]
          cases hl : lay (fun i => some (i * tu.size, tu.size)) (zeroC tt.zero) ps with
          | none => trivial
          | some cs =>
            simp only [Option.bind_some]
            have hun := kind_arr htt hk
            refine opOK_one fun hg => ⟨hg, fun loc a w1 _ hgs hfr hcl => ?_⟩
            obtain ⟨us, u1, u2, u3⟩ := fill_lay (fun i x h => h) hl (argPVs_sound hp hfr hgs) (hz2 e rows.length loc)
            refine ⟨.agg us, ⟨us.toList, by simp, u2⟩, fun w _ => ?_⟩
            simp only [Go.execOp, Instr.build, Sem.run_bind, hz3, Result.andThen_ok, run_underlying hun, run_size htu, hparts, u1, Sem.run_pure]
      · trivial
theorem cls_new {w : World} (h : Cls e w0 loc rows w) {ty es cap : Nat} {cells : List C} {vs spare : List Value}
    (hc : CsRel e rows.length loc cells vs) (hl : (vs ++ spare).length = cap * es) (hm : cap ≤ maxLen) :
    Cls e w0 (locNew loc rows.length (.mk4 w.heap.size 0 cap es)) (newRow rows ty es cells) (w.alloc (.cells (vs ++ spare).toArray ty)) :=
  ⟨h.1.new h.le rfl (fun k hk => heap_alloc_old w _ k hk) (heap_alloc_new w _) hc hl hm, h.2.alloc h.le _⟩
theorem newRow_len {ty es : Nat} {cells : List C} : (newRow rows ty es cells).length = rows.length + 1 := by simp [newRow]
theorem op_alloc {t : TypeId} (hX : TysOK P X.tys) (ho : o.op = .alloc t) : OpOK P T e w0 fr rows gs pc o g (execOp X inl fr rows gs pc o g) := by
  obtain ⟨dst, op', ty, pos, after, guard⟩ := o
  simp only at ho
  subst ho
  simp only [execOp, Option.bind_eq_bind, Ctx.ty]
  cases ht : look t X.tys with
  | none => trivial
  | some tt =>
    have htt := hX t tt ht
    simp only [Option.bind_some]
    refine fun hg => ⟨hg, fun loc a w _ hgs hfr hcl => ?_⟩
    obtain ⟨z, hz1, hz2, hz3⟩ := run_zero htt
    refine .inl ⟨.pointer (some ⟨w.heap.size, 0, none⟩), w.alloc (.cells z.cells t), .inl ?_, locNew loc rows.length (.mk4 w.heap.size 0 1 tt.size), locNew_ext _ _ _, by rw [newRow_len]; omega, ?_, ?_⟩
    · simp only [Go.execOp, Instr.alloc, Sem.run_bind, hz3, Result.andThen_ok, newVar, Go.newRow, run_newObj, Sem.run_pure]
      rfl
    · refine mk_ptr (by rw [newRow_len]; omega) ?_
      rw [locNew_at]
    · have := cls_new hcl (ty := t) (es := tt.size) (cap := 1) (vs := z.cells.toList) (spare := []) (hz2 e rows.length loc) (by simp [hz1]) (by decide)
      simpa using this
theorem op_box {t : TypeId} {x : Operand} (hX : TysOK P X.tys) (ho : o.op = .box t x) : OpOK P T e w0 fr rows gs pc o g (execOp X inl fr rows gs pc o g) := by
  obtain ⟨dst, op', ty, pos, after, guard⟩ := o
  simp only at ho
  subst ho
  simp only [execOp, Option.bind_eq_bind, Ctx.ty]
  cases ht : look t X.tys with
  | none => trivial
  | some tt =>
    have htt := hX t tt ht
    simp only [Option.bind_some]
    cases hp : opd fr gs x with
    | none => trivial
    | some p =>
      simp only [Option.bind_some]
      split
      · trivial
      · rename_i hsz
        have hsz' : p.cells.length = tt.size := by simpa using hsz
        refine fun hg => ⟨hg, fun loc a w _ hgs hfr hcl => ?_⟩
        obtain ⟨vs, v1, v2⟩ := PV.rel_cells (opd_sound hp hfr hgs)
        refine .inl ⟨.pointer (some ⟨w.heap.size, 0, none⟩), w.alloc (.cells vs.toArray t), .inl ?_, locNew loc rows.length (.mk4 w.heap.size 0 1 tt.size), locNew_ext _ _ _, by rw [newRow_len]; omega, ?_, ?_⟩
        · simp only [Go.execOp, Instr.box, Sem.run_bind, Result.andThen_ok, newVar, Go.newRow, run_newObj, Sem.run_pure, v1]
          rfl
        · refine mk_ptr (by rw [newRow_len]; omega) ?_
          rw [locNew_at]
        · have := cls_new hcl (ty := t) (es := tt.size) (cap := 1) (vs := vs) (spare := []) v2 (by rw [List.append_nil, Nat.one_mul, ← CsRel_len v2, hsz']) (by decide)
          simpa using this
theorem CsRel_flat {l : List C} {vs : List Value} (h : CsRel e n loc l vs) : ∀ m : Nat, CsRel e n loc (List.replicate m l).flatten (List.replicate m vs).flatten
  | 0 => trivial
  | m + 1 => by simp only [List.replicate_succ, List.flatten_cons]; exact CsRel_append h (CsRel_flat h m)
theorem map_mod {α : Type} [Inhabited α] (z : Array α) (hz : 0 < z.size) : ∀ m : Nat, (List.range (m * z.size)).map (fun i => z[i % z.size]!) = (List.replicate m z.toList).flatten
  | 0 => by simp
  | m + 1 => by
    rw [Nat.add_mul, Nat.one_mul, Nat.add_comm, List.range_add, List.map_append, List.replicate_succ, List.flatten_cons, List.map_map]
    congr 1
    · apply List.ext_getElem?
      intro i
      simp only [List.getElem?_map, List.getElem?_range', Array.getElem?_toList]
      by_cases hi : i < z.size
      · rw [List.getElem?_range hi]
        simp [Nat.mod_eq_of_lt hi, hi]
      · have hle := Nat.le_of_not_lt hi
        rw [List.getElem?_eq_none (by simpa using hle)]
        simp [hle]
    · rw [← map_mod z hz m]
      apply List.map_congr_left
      intro i _
      simp
theorem mk_slc {r off m : Nat} {v : Value} (hr : r < n) (h : v = .slice (some ⟨(loc r).blk, (loc r).off + off * (loc r).es, none⟩) m ((loc r).cap - off)) : (PV.one (.k (.slc r off m))).rel e n loc v :=
  ⟨hr, by rw [h]; rfl, .inr (by rw [h]; rfl)⟩
theorem op_buildSlice {t : TypeId} {m : Nat} {parts : Array (Nat × Operand)} (hX : TysOK P X.tys) (ho : o.op = .buildSlice t m parts) : OpOK P T e w0 fr rows gs pc o g (execOp X inl fr rows gs pc o g) := by
  obtain ⟨dst, op', ty, pos, after, guard⟩ := o
  simp only at ho
  subst ho
  simp only [execOp, Option.bind_eq_bind, Ctx.ty]
  cases ht : look t X.tys with
  | none => trivial
  | some tt =>
    have htt := hX t tt ht
    simp only [Option.bind_some]
    split
    · rename_i u hk
      cases hu : look u X.tys with
      | none => trivial
      | some tu =>
        have htu := hX u tu hu
        have hun := kind_slice htt hk
        simp only [Option.bind_some]
        cases hp : argPVs fr gs parts.toList with
        | none => trivial
        | some ps =>
          simp only [Option.bind_some]
          split
          · trivial
          · rename_i hsz
            simp only [Bool.or_eq_true, beq_iff_eq, decide_eq_true_eq, not_or] at hsz
            obtain ⟨⟨s1, s2⟩, s3⟩ := hsz
            cases hl : lay (fun i => some (i * tu.size, tu.size)) (List.replicate m (zeroC tu.zero)).flatten ps with
            | none => trivial
            | some cs =>
              simp only [Option.bind_some]
              refine fun hg => ⟨hg, fun loc a w _ hgs hfr hcl => ?_⟩
              obtain ⟨z, hz1, hz2, hz3⟩ := run_zero htu
              have hflat := CsRel_flat (hz2 e rows.length loc) m
              have hmm := map_mod z.cells (by omega) m
              rw [← hmm] at hflat
              have hflat' : CsRel e rows.length loc (List.replicate m (zeroC tu.zero)).flatten ((Array.range (m * tu.size)).map (z.cells[· % z.cells.size]!)).toList := by
                rw [Array.toList_map, Array.toList_range, ← hz1]; exact hflat
              obtain ⟨us, u1, u2, u3⟩ := fill_lay (fun i x h => h) hl (argPVs_sound hp hfr hgs) hflat'
              have hlen : us.toList.length = m * tu.size := by
                rw [← CsRel_len u2, u3]
                have := CsRel_len hflat'
                rw [this]; simp
              refine .inl ⟨.slice (some ⟨w.heap.size, 0, none⟩) m m, w.alloc (.cells us u), .inl ?_, locNew loc rows.length (.mk4 w.heap.size 0 m tu.size), locNew_ext _ _ _, by rw [newRow_len]; omega, ?_, ?_⟩
              · have hb : ¬ (m * tu.size > 2 ^ 24) := by omega
                have hb0 : ¬ (m * tu.size = 0) := Nat.mul_ne_zero s1 s2
                have hparts : (parts.map fun x => (x.1, a.eval x.2)).toList = parts.toList.map fun x => (x.1, a.eval x.2) := by simp
                simp only [Go.execOp, Instr.buildSlice, Sem.run_bind, run_underlying hun, Result.andThen_ok, run_size htu, Sem.run_ite, hb, if_false, hb0, hz3, Sem.run_pure, hparts, u1, Go.newRow, run_newObj]
                rfl
              · refine mk_slc (by rw [newRow_len]; omega) ?_
                rw [locNew_at]
                simp
              · have := cls_new hcl (ty := u) (es := tu.size) (cap := m) (vs := us.toList) (spare := []) u2 (by simpa using hlen) (by
                  have : m ≤ m * tu.size := Nat.le_mul_of_pos_right m (by omega)
                  simp only [maxLen]; omega)
                simpa using this
    · trivial
end
end Rx
namespace Rx
open Go Go.RowKit
section
variable {T : Nat → List A → Bool × List A} {e : Nat → A} {n n' : Nat} {loc loc' : Loc} {P : Program} {X : Ctx} {w0 : World}
variable {fr : List SV} {rows : List Row} {gs : List (L × Bool)} {pc : L} {o : Oper} {g : G} {inl : Inline}
theorem cls_write {w : World} (h : Cls e w0 loc rows w) {r off : Nat} {row : Row} {cells : List C} {us : List Value} (hr : rows[r]? = some row) (ho : row.own = true)
    (hfit : off + us.length ≤ row.cells.length)
    (hc : ∀ vs, CsRel e rows.length loc row.cells vs → CsRel e rows.length loc cells (vs.take off ++ us ++ vs.drop (off + us.length))) :
    ∃ cur : List Value, w.heap[(loc r).blk]? = some (.cells cur.toArray row.ty (0, 0)) ∧ (loc r).off = 0 ∧ off + us.length ≤ cur.length ∧
      Cls e w0 loc (rows.set r { row with cells := cells }) (w.setRow (loc r).blk (cur.take off ++ us ++ cur.drop (off + us.length)).toArray) := by
  have hrow := h.1.row r row hr
  unfold RowOK at hrow
  rw [if_pos ho] at hrow
  obtain ⟨h1, h2, h3, h4, vs, sp, h5, h6, h7⟩ := hrow
  have hl := CsRel_len h6
  have e1 : (vs ++ sp).take off ++ us ++ (vs ++ sp).drop (off + us.length) = (vs.take off ++ us ++ vs.drop (off + us.length)) ++ sp := by
    rw [List.take_append_of_le_length (by omega), List.drop_append_of_le_length (by omega)]
    simp
  refine ⟨vs ++ sp, h5, h1, by simp; omega, ?_⟩
  rw [e1]
  refine ⟨h.1.write h.le hr ho (fun k hk => setRow_other w _ k _ hk) (setRow_heap w _ _ _ _ _ h5) (hc vs h6) ?_, h.2.trans (below_setRow h3 _)⟩
  rw [← h7]
  simp
  omega
theorem setNth_len {s : Srt} {st : Nat} : ∀ {m b off : Nat} {l : List C}, (setNth s b off st m l).length = l.length
  | 0, b, off, l => rfl
  | m + 1, b, off, l => by unfold setNth; rw [setNth_len]; simp
theorem setNth_good {s : Srt} {b off st : Nat} (hst : 0 < st) {ls : List L} {i : Nat} {v : Value} : ∀ {m k0 : Nat} {cells : List C} {vs : List Value},
    k0 + m = ls.length → CsRel e n loc cells vs →
    (∀ k, k0 ≤ k → k < ls.length → ∃ y u, ls[k]? = some y ∧ vs[off + st * k]? = some u ∧ (s.mk y).rel e n loc u) →
    (∀ k, k < ls.length → k ≠ i → ∀ y, ls[k]? = some y → e (b + k) = y.ev e) → (i < ls.length → (s.mk (.var (b + i))).rel e n loc v) →
    CsRel e n loc (setNth s (b + k0) (off + st * k0) st m cells) (if k0 ≤ i ∧ i < k0 + m then vs.set (off + st * i) v else vs)
  | 0, k0, cells, vs, hk, hc, _, _, _ => by
    rw [if_neg (by omega)]
    exact hc
  | m + 1, k0, cells, vs, hk, hc, hcell, hsame, hnew => by
    unfold setNth
    have e1 : b + k0 + 1 = b + (k0 + 1) := by omega
    have e2 : off + st * k0 + st = off + st * (k0 + 1) := by rw [Nat.mul_succ]; omega
    rw [e1, e2]
    by_cases hki : k0 = i
    · subst hki
      have hc1 : CsRel e n loc (cells.set (off + st * k0) (.k (s.mk (.var (b + k0))))) (vs.set (off + st * k0) v) := CsRel_set hc (c := .k (s.mk (.var (b + k0)))) (hnew (by omega)) _
      have := setNth_good (b := b) (off := off) hst (i := k0) (v := v) (m := m) (k0 := k0 + 1) (by omega) hc1 (fun k h1 h2 => by
        obtain ⟨y, u, a1, a2, a3⟩ := hcell k (by omega) h2
        refine ⟨y, u, a1, ?_, a3⟩
        rw [List.getElem?_set_ne (by
          intro h0
          have : st * k0 < st * k := Nat.mul_lt_mul_of_pos_left (by omega) hst
          omega)]
        exact a2) hsame hnew
      rw [if_neg (by omega)] at this
      rw [if_pos (by omega)]
      exact this
    · obtain ⟨y, u, a1, a2, a3⟩ := hcell k0 (by omega) (by omega)
      have hc1 : CsRel e n loc (cells.set (off + st * k0) (.k (s.mk (.var (b + k0))))) vs := by
        have h0 := CsRel_set hc (c := .k (s.mk (.var (b + k0)))) (v := u) (Srt.mk_rel_of a3 (by simpa using hsame k0 (by omega) hki y a1)) (off + st * k0)
        have : vs.set (off + st * k0) u = vs := by
          apply List.ext_getElem?
          intro j
          by_cases hj : off + st * k0 = j
          · subst hj
            rw [List.getElem?_set_self (lt_of_get a2), a2]
          · rw [List.getElem?_set_ne hj]
        rwa [this] at h0
      have := setNth_good (b := b) (off := off) hst (i := i) (v := v) (m := m) (k0 := k0 + 1) (by omega) hc1 (fun k h1 h2 => hcell k (by omega) h2) hsame hnew
      have e3 : (k0 + 1 ≤ i ∧ i < k0 + 1 + m) ↔ (k0 ≤ i ∧ i < k0 + (m + 1)) := by omega
      simp only [e3] at this
      exact this
theorem splice_step {α : Type} {vs : List α} {p : Nat} {u : α} {us : List α} (h : p < vs.length) :
    (vs.set p u).take (p + 1) ++ us ++ (vs.set p u).drop (p + 1 + us.length) = vs.take p ++ (u :: us) ++ vs.drop (p + (u :: us).length) := by
  have e1 : (vs.set p u).take (p + 1) = vs.take p ++ [u] := by
    rw [List.take_set, List.take_succ_eq_append_getElem h, List.set_append_right _ _ (by simp; omega)]
    simp [Nat.min_eq_left (Nat.le_of_lt h)]
  have e2 : (vs.set p u).drop (p + 1 + us.length) = vs.drop (p + (u :: us).length) := by
    rw [List.drop_set_of_lt (by omega)]
    congr 1
    simp; omega
  rw [e1, e2]
  simp
theorem updCells_good {st num : Nat} {x : L} (hst : 0 < st) : ∀ {news : List C} {off : Nat} {cells : List C} {g g' : G} {cs : List C}, updCells cells off st num x news g = some (cs, g') → Good T e g' →
    Good T e g ∧ cs.length = cells.length ∧ ∀ i : Nat, (x.ev e).int = i → i < num → ∀ n loc vs us, CsRel e n loc cells vs → CsRel e n loc news us →
      CsRel e n loc cs (vs.take (off + st * i) ++ us ++ vs.drop (off + st * i + us.length)) ∧ (us = [] ∨ off + st * i + us.length ≤ vs.length)
  | [], off, cells, g, g', cs, h, hg => by
    simp only [updCells, Option.some.injEq, Prod.mk.injEq] at h
    obtain ⟨rfl, rfl⟩ := h
    refine ⟨hg, rfl, fun i _ _ n loc vs us hv hu => ?_⟩
    cases us with
    | nil => exact ⟨by simpa using hv, .inl rfl⟩
    | cons => exact hu.elim
  | .k z :: news, off, cells, g, g', cs, h, hg => by
    simp only [updCells, Option.bind_eq_bind, Option.bind_eq_some_iff] at h
    obtain ⟨en, hen, s, hs, ls, hls, ⟨u, z'⟩, hz, h⟩ := h
    simp only at h
    split at h
    · cases h
    · rename_i hus
      have hus' := Srt.same_eq (by simpa using hus)
      subst hus'
      have hz' := K.srt_some hz
      subst hz'
      obtain ⟨h1, h2, h3⟩ := updCells_good hst h hg
      have hp := pushN_good h1
      obtain ⟨l1, l2⟩ := everyNth_some hen
      obtain ⟨k1, k2⟩ := leaves_some hls
      refine ⟨hp.1, by rw [h2, setNth_len], fun i hi hlt n loc vs us hv hu => ?_⟩
      cases us with
      | nil => exact hu.elim
      | cons v us =>
        have hbase : (g.pushN .upd (x :: z' :: ls) num).1 = g.next := rfl
        have hres : ∀ k y, ls[k]? = some y → e (g.next + k) = if k = i then z'.ev e else y.ev e := fun k y hy => by
          refine hp.2 k _ ?_
          simp only [D.ev, List.map_cons, hi, Int.toNat_natCast]
          by_cases hki : k = i
          · subst hki
            rw [List.getElem?_set_self (by have := lt_of_get hy; simpa using this), if_pos rfl]
          · rw [List.getElem?_set_ne (Ne.symm hki), if_neg hki]
            simp [hy]
        have hcell : ∀ k, 0 ≤ k → k < ls.length → ∃ y w, ls[k]? = some y ∧ vs[off + st * k]? = some w ∧ (u.mk y).rel e n loc w := fun k _ hk => by
          have hc : en[k]? = some (en[k]'(by omega)) := List.getElem?_eq_getElem (by omega)
          obtain ⟨y, hy, hye⟩ := k2 k _ hc
          rw [hye, l2 k (by omega)] at hc
          obtain ⟨w, hw, hwr⟩ := CsRel_get hv hc
          exact ⟨y, w, hy, hw, hwr⟩
        have hn1 := setNth_good (b := g.next) (off := off) hst (s := u) (ls := ls) (i := i) (v := v) (m := num) (k0 := 0) (by omega) hv hcell
          (fun k hk hki y hy => by rw [hres k y hy, if_neg hki])
          (fun hil => by
            have hy : ls[i]? = some (ls[i]'hil) := List.getElem?_eq_getElem hil
            have := hres i _ hy
            rw [if_pos rfl] at this
            exact Srt.mk_rel_of hu.1 this)
        rw [if_pos (by omega)] at hn1
        simp only [Nat.add_zero, Nat.mul_zero] at hn1
        obtain ⟨_, w, _, hw, _⟩ := hcell i (by omega) (by omega)
        have hplt := lt_of_get hw
        obtain ⟨q1, q2⟩ := h3 i hi hlt n loc _ us hn1 hu.2
        have e1 : off + 1 + st * i = off + st * i + 1 := by omega
        rw [e1] at q1 q2
        rw [splice_step hplt] at q1
        refine ⟨q1, .inr ?_⟩
        rcases q2 with rfl | q2
        · simp; omega
        · simp at q2 ⊢; omega
  | .clo _ _ _ :: _, _, _, _, _, _, h, _ => by simp [updCells] at h
theorem run_storeAt' {t : Nat} {ty : Ty} (h : TyOK P t ty) {w : World} {b o : Nat} {cur us : List Value} {tt : TypeId} {v : Value} (hg : w.heap[b]? = some (.cells cur.toArray tt (0, 0)))
    (hv : v.cells = us.toArray) (hl : us.length = ty.size) (h1 : ∀ u ∈ us, u.oneCell' = true) (hfit : o + us.length ≤ cur.length) :
    (Instr.storeAt t (.pointer (some ⟨b, o, none⟩)) v).run P w = .ok () (w.setRow b (cur.take o ++ us ++ cur.drop (o + us.length)).toArray) := by
  have hst := run_storeCells_at P b o tt us 0 cur.toArray w hg (by simpa using hfit) h1
  simp only [Nat.add_zero] at hst
  simp [Instr.storeAt, Instr.sureAddr, storeVar, run_size h, hv, hl, hst]
theorem RowsOK.writeL {rows : List Row} {B : Nat} {w w' : World} (h : RowsOK e loc rows w B) (hB : B ≤ w.heap.size) {r : Nat} {row : Row} {q q' : Lst}
    (hr : rows[r]? = some row) (hq : row.lst = some q) (ho : q.own = true) (hem : (loc r).emp = false) (hw : ∀ k, k ≠ (loc r).blk → w'.heap[k]? = w.heap[k]?)
    (ho' : q'.own = true) (hn : LstOK e loc w' B r q') :
    RowsOK e loc (rows.set r { row with lst := some q' }) w' B := by
  have hlt := lt_of_get hr
  have hrl := h.lst r row q hr hq
  have hblk := hrl.2.lt ho hem
  have hlo : lOwn loc r row := ⟨q, hq, ho, hem⟩
  have other : ∀ (s : Nat) (y : Row), (rows.set r { row with lst := some q' })[s]? = some y → s ≠ r → rows[s]? = some y := fun s y hs hne => by
    rwa [List.getElem?_set_ne (Ne.symm hne)] at hs
  have same : ∀ (y : Row), (rows.set r { row with lst := some q' })[r]? = some y → y = { row with lst := some q' } := fun y hy => by
    rw [List.getElem?_set_self hlt] at hy; injection hy with hy; exact hy.symm
  have back : ∀ (s : Nat) (y : Row), (rows.set r { row with lst := some q' })[s]? = some y → ∃ y' : Row, rows[s]? = some y' ∧ y'.own = y.own ∧ (lOwn loc s y → lOwn loc s y') := fun s y hs => by
    by_cases hsr : s = r
    · subst hsr
      rw [same y hs]
      exact ⟨row, hr, rfl, fun _ => hlo⟩
    · exact ⟨y, other s y hs hsr, rfl, id⟩
  refine ⟨fun s y hs => ?_, fun s y p hs hp => ?_, fun s t x y hs ht ox oy => ?_, fun s t x y hs ht ox oy hne => ?_⟩
  · rw [List.length_set]
    by_cases hsr : s = r
    · subst hsr
      rw [same y hs]
      have := h.row s row hr
      unfold RowOK at this ⊢
      rw [if_neg (by simp [hrl.1])] at this ⊢
      intro hc
      obtain ⟨a1, a2, a3⟩ := this hc
      exact ⟨a1, a2, fun j c hj => by
        obtain ⟨v, hv, hvr⟩ := a3 j c hj
        exact ⟨v, (World.cell?_of_block (w := w) (hw _ (by show (loc s).blk ≠ _; omega))).trans hv, hvr⟩⟩
    · have hs' := other s y hs hsr
      have hy := h.row s y hs'
      unfold RowOK at hy ⊢
      split
      · rename_i oy
        rw [if_pos oy] at hy
        obtain ⟨a1, a2, a3, a4, vs', sp', a5, a6, a7⟩ := hy
        exact ⟨a1, a2, a3, a4, vs', sp', (hw _ (Ne.symm (h.lapart r s row y hr hs' hlo (.inl oy)))).trans a5, a6, a7⟩
      · rename_i oy
        rw [if_neg oy] at hy
        intro hc'
        obtain ⟨a1, a2, a3⟩ := hy hc'
        refine ⟨a1, a2, fun j c hj => ?_⟩
        obtain ⟨v, hv, hvr⟩ := a3 j c hj
        exact ⟨v, (World.cell?_of_block (w := w) (hw _ (by show (loc s).blk ≠ _; omega))).trans hv, hvr⟩
  · by_cases hsr : s = r
    · subst hsr
      rw [same y hs] at hp ⊢
      simp only [Option.some.injEq] at hp
      subst hp
      exact ⟨hrl.1, hn⟩
    · have hs' := other s y hs hsr
      obtain ⟨k1, k2⟩ := h.lst s y p hs' hp
      exact ⟨k1, k2.keep (fun h1 h2 => hw _ (h.lapart s r y row hs' hr ⟨p, hp, h1, h2⟩ (.inr ⟨hlo, hsr⟩))) (fun k hk => hw _ (by omega))⟩
  · obtain ⟨x', x1, x2, x3⟩ := back s x hs
    obtain ⟨y', y1, y2, y3⟩ := back t y ht
    refine h.lapart s t x' y' x1 y1 (x3 ox) ?_
    rcases oy with oy | ⟨oy, hne⟩
    · exact .inl (by rw [y2]; exact oy)
    · exact .inr ⟨y3 oy, hne⟩
  · obtain ⟨x', x1, x2, _⟩ := back s x hs
    obtain ⟨y', y1, y2, _⟩ := back t y ht
    exact h.apart s t x' y' x1 y1 (by rw [x2]; exact ox) (by rw [y2]; exact oy) hne
theorem updL_good {ss : List Srt} {x : L} : ∀ {cells : List C} {off : Nat} {X z : L} {g g' : G}, updL ss ss.length x off cells X g = some (z, g') → Good T e g' →
    Good T e g ∧ ∀ (as : List A) (i n : Nat) (loc : Loc) (us : List Value), X.ev e = .l as → (x.ev e).int = i → CsRel e n loc cells us → off + ss.length * i + us.length ≤ as.length → off + us.length ≤ ss.length →
      ∃ as', z.ev e = .l as' ∧ as'.length = as.length ∧ semC ss as' = (semC ss as).take (off + ss.length * i) ++ us ++ (semC ss as).drop (off + ss.length * i + us.length)
  | [], off, X, z, g, g', h, hg => by
    simp only [updL, Option.some.injEq, Prod.mk.injEq] at h
    obtain ⟨rfl, rfl⟩ := h
    refine ⟨hg, fun as i n loc us hX _ hu _ _ => ⟨as, hX, rfl, ?_⟩⟩
    cases us with
    | nil => simp
    | cons => exact hu.elim
  | .k y :: r, off, X, z, g, g', h, hg => by
    simp only [updL, Option.bind_eq_bind, Option.bind_eq_some_iff] at h
    obtain ⟨s, hs, ⟨u, z'⟩, hy, h⟩ := h
    simp only at h
    split at h
    · cases h
    · rename_i hus
      have hus' := Srt.same_eq (by simpa using hus)
      subst hus'
      have hy' := K.srt_some hy
      subst hy'
      obtain ⟨h1, h2⟩ := updL_good h hg
      have hp := push_good h1
      refine ⟨hp.1, fun as i n loc us hX hi hu hfit hfit2 => ?_⟩
      cases us with
      | nil => exact hu.elim
      | cons v us =>
        simp only [List.length_cons] at hfit hfit2
        have hset : (g.push (.pset off ss.length) [X, x, z']).1.ev e = .l (as.set (off + ss.length * i) (z'.ev e)) := hp.2 _ (by simp [D.ev, hX, hi])
        obtain ⟨as', a1, a2, a3⟩ := h2 _ i n loc us hset hi hu.2 (by simp; omega) (by omega)
        refine ⟨as', a1, by rw [a2]; simp, ?_⟩
        have hmod : (off + ss.length * i) % ss.length = off := by rw [Nat.add_mul_mod_self_left, Nat.mod_eq_of_lt (by omega)]
        have hv := mk_sem' hu.1
        rw [a3, semC_set, hmod]
        have hgd : ss.getD off .bool = u := by simp [List.getD, hs]
        rw [hgd, ← hv]
        have hpl : off + ss.length * i < (semC ss as).length := by rw [semC_len]; omega
        have := splice_step (us := us) (u := v) hpl
        rw [show off + 1 + ss.length * i = off + ss.length * i + 1 by omega]
        exact this
  | .clo _ _ _ :: _, _, _, _, _, _, h, _ => by simp [updL] at h
theorem op_store {t : TypeId} {x y : Operand} (hX : TysOK P X.tys) (ho : o.op = .store t x y) : OpOK P T e w0 fr rows gs pc o g (execOp X inl fr rows gs pc o g) := by
  obtain ⟨dst, op', ty, pos, after, guard⟩ := o
  simp only at ho
  subst ho
  simp only [execOp, Option.bind_eq_bind, Ctx.ty]
  cases ht : look t X.tys with
  | none => trivial
  | some tt =>
    have htt := hX t tt ht
    simp only [Option.bind_some]
    cases hp : opd fr gs x with
    | none => trivial
    | some p =>
      simp only [Option.bind_some]
      cases hq : opd fr gs y with
      | none => trivial
      | some q =>
        simp only [Option.bind_some]
        unfold storeC
        have hrun : ∀ (a : Act) (w w' : World) u, a.eval x = u → (Instr.storeAt t u (a.eval y)).run P w = .ok () w' → (Go.execOp a.eval ⟨dst, .store t x y, ty, pos, after, guard⟩).run P w = .ok .skip w' := fun a w w' u h1 h2 => by
          subst h1
          simp [Go.execOp, h2]
        split
        · rename_i r off
          cases hr : rows[r]? with
          | none => trivial
          | some row =>
            simp only [Option.bind_eq_bind, Option.bind_some]
            split
            · trivial
            · rename_i hc
              simp only [Bool.or_eq_true, Bool.not_eq_true', bne_iff_ne, ne_eq, decide_eq_true_eq, not_or, Bool.not_eq_false, Decidable.not_not, Nat.not_lt] at hc
              obtain ⟨⟨c1, c2⟩, c3⟩ := hc
              refine fun hg => ⟨hg, fun loc a w _ hgs hfr hcl => ?_⟩
              obtain ⟨r1, r2⟩ := rel_ptr (opd_sound hp hfr hgs)
              have hqr := opd_sound hq hfr hgs
              obtain ⟨us, u1, u2⟩ := PV.rel_cells hqr
              have hul : us.length = tt.size := by rw [← CsRel_len u2, c2]
              obtain ⟨cur, k1, k2, k3, k4⟩ := cls_write hcl (cells := setCells row.cells off q.cells) (us := us) (off := off) hr c1 (by omega) (fun vs hvs => CsRel_setCells hvs u2 (by omega))
              refine .inl ⟨Go.undef, _, .inr ⟨hrun a w _ _ r2 ?_, rfl⟩, loc, LExt.refl _ _, by simp, rfl, k4⟩
              rw [k2, Nat.zero_add]
              exact run_storeAt' htt k1 u1 hul (CsRel_one u2) k3
        · rename_i r off st num ix
          cases hr : rows[r]? with
          | none => trivial
          | some row =>
            simp only [Option.bind_eq_bind, Option.bind_some]
            split
            · trivial
            · rename_i hc
              simp only [Bool.or_eq_true, Bool.not_eq_true', bne_iff_ne, ne_eq, beq_iff_eq, not_or, Bool.not_eq_false, Decidable.not_not] at hc
              obtain ⟨⟨⟨c1, c2⟩, c3⟩, c4⟩ := hc
              cases hu : updCells row.cells off st num ix q.cells g with
              | none => trivial
              | some rg =>
                obtain ⟨cs, g2⟩ := rg
                simp only [Option.bind_some]
                refine fun hg => ?_
                obtain ⟨d1, d2, d3⟩ := updCells_good (Nat.pos_of_ne_zero c3) hu hg
                refine ⟨d1, fun loc a w _ hgs hfr hcl => ?_⟩
                obtain ⟨r1, i, r2, r3, r4⟩ := rel_sptr (opd_sound hp hfr hgs)
                have hqr := opd_sound hq hfr hgs
                obtain ⟨us, u1, u2⟩ := PV.rel_cells hqr
                have hul : us.length = tt.size := by rw [← CsRel_len u2, c2]
                have hrow := hcl.1.row r row hr
                unfold RowOK at hrow
                rw [if_pos c1] at hrow
                obtain ⟨_, _, _, _, vs0, sp0, _, hvs0, _⟩ := hrow
                have hne : us ≠ [] := fun h0 => by
                  rw [h0] at hul
                  exact c4 hul.symm
                have hfit : off + st * i + us.length ≤ row.cells.length := by
                  rw [CsRel_len hvs0]
                  rcases (d3 i r2 r3 _ _ vs0 us hvs0 u2).2 with h0 | h0
                  · exact absurd h0 hne
                  · exact h0
                obtain ⟨cur, k1, k2, k3, k4⟩ := cls_write hcl (cells := cs) (us := us) (off := off + st * i) hr c1 hfit (fun vs hvs => (d3 i r2 r3 _ _ vs us hvs u2).1)
                refine .inl ⟨Go.undef, _, .inr ⟨hrun a w _ _ r4 ?_, rfl⟩, loc, LExt.refl _ _, by simp, rfl, k4⟩
                rw [k2, Nat.zero_add]
                exact run_storeAt' htt k1 u1 hul (CsRel_one u2) k3
        · rename_i r off es ix nn
          cases hr : rows[r]? with
          | none => trivial
          | some row =>
            simp only [Option.bind_eq_bind, Option.bind_some]
            cases hl : row.lst with
            | none => trivial
            | some l =>
              simp only [Option.bind_some]
              split
              · trivial
              · rename_i hc
                simp only [Bool.or_eq_true, Bool.not_eq_true', bne_iff_ne, ne_eq, decide_eq_true_eq, not_or, Bool.not_eq_false, Decidable.not_not, Nat.not_lt] at hc
                obtain ⟨⟨⟨⟨c1, c2⟩, c3⟩, c4⟩, c5⟩ := hc
                have c4 := L.same_eq c4
                subst c3
                subst c4
                cases hu : updL l.ss l.ss.length ix off q.cells l.x g with
                | none => trivial
                | some rg =>
                  obtain ⟨z, g2⟩ := rg
                  simp only [Option.bind_some]
                  refine fun hg => ?_
                  obtain ⟨d1, d2⟩ := updL_good hu hg
                  refine ⟨d1, fun loc a w _ hgs hfr hcl => ?_⟩
                  obtain ⟨r1, i, r2, r3, r4⟩ := rel_lptr (opd_sound hp hfr hgs)
                  have hqr := opd_sound hq hfr hgs
                  obtain ⟨us, u1, u2⟩ := PV.rel_cells hqr
                  have hul : us.length = tt.size := by rw [← CsRel_len u2, c2]
                  have hlo := (hcl.1.lst r row l hr hl).2
                  obtain ⟨as, m, l1, l2, l3, l4, l5⟩ := id hlo
                  rw [if_pos c1] at l5
                  obtain ⟨l5, l6⟩ := l5
                  have him : i < m := by omega
                  have hem : (loc r).emp = false := by
                    cases he : (loc r).emp
                    · rfl
                    · rw [if_pos he] at l6; omega
                  rw [if_neg (by simp [hem])] at l6
                  obtain ⟨g1, g3, g4, sp, g5, g6⟩ := l6
                  have hfit : off + l.ss.length * i + us.length ≤ as.length := by
                    rw [l2, hul]
                    have : l.ss.length * (i + 1) ≤ l.ss.length * m := Nat.mul_le_mul_left _ him
                    rw [Nat.mul_succ] at this
                    rw [Nat.mul_comm m]
                    omega
                  obtain ⟨as', a1, a2, a3⟩ := d2 as i _ loc us l1 r2 u2 hfit (by omega)
                  have hsl : (semC l.ss as).length = as.length := semC_len
                  have e1 : (semC l.ss as ++ sp).take (off + l.ss.length * i) ++ us ++ (semC l.ss as ++ sp).drop (off + l.ss.length * i + us.length) = semC l.ss as' ++ sp := by
                    rw [a3, List.take_append_of_le_length (by omega), List.drop_append_of_le_length (by omega)]
                    simp
                  have hst := run_storeAt' (P := P) (v := a.eval y) (o := off + l.ss.length * i) htt g5 u1 hul (CsRel_one u2) (by rw [List.length_append]; omega)
                  rw [e1] at hst
                  refine .inl ⟨Go.undef, _, .inr ⟨hrun a w _ _ r4 (by rw [g1, Nat.zero_add]; exact hst), rfl⟩, loc, LExt.refl _ _, by simp, rfl, ?_, hcl.2.trans (below_setRow g3 _)⟩
                  refine hcl.1.writeL hcl.le hr hl c1 hem (fun k hk => setRow_other w _ k _ hk) c1 ⟨as', m, a1, by rw [a2, l2], l3, l4, ?_⟩
                  rw [if_pos c1]
                  refine ⟨l5, ?_⟩
                  rw [if_neg (by simp [hem])]
                  refine ⟨g1, g3, g4, sp, setRow_heap w _ _ _ _ _ g5, ?_⟩
                  rw [← g6, List.length_append, List.length_append, semC_len, semC_len, a2]
        · trivial
end
end Rx
namespace Rx
open Go Go.RowKit
section
variable {T : Nat → List A → Bool × List A} {e : Nat → A} {n n' : Nat} {loc loc' : Loc} {P : Program} {X : Ctx} {w0 : World}
variable {fr : List SV} {rows : List Row} {gs : List (L × Bool)} {pc : L} {o : Oper} {g : G} {inl : Inline}
theorem RowsOK.addL {rows : List Row} {B : Nat} {w : World} (h : RowsOK e loc rows w B) {x : Lc} {q : Lst} (ho : q.own = true)
    (hap : x.emp = false → ∀ (s : Nat) (y : Row), rows[s]? = some y → (y.own = true ∨ lOwn loc s y) → (loc s).blk ≠ x.blk) (hn : LstOK e (locNew loc rows.length x) w B rows.length q) :
    RowsOK e (locNew loc rows.length x) (newLst rows q) w B := by
  have hx := locNew_ext loc rows.length x
  have split_ : ∀ (r : Nat) (y : Row), (newLst rows q)[r]? = some y → (r < rows.length ∧ rows[r]? = some y ∧ locNew loc rows.length x r = loc r) ∨ (r = rows.length ∧ locNew loc rows.length x r = x ∧ y.own = false ∧ y.cells = [] ∧ y.lst = some q) := fun r y hr => by
    unfold newLst at hr
    rw [List.getElem?_append] at hr
    split at hr
    · rename_i h0
      exact .inl ⟨h0, hr, hx r h0⟩
    · rename_i h0
      have hrn : r = rows.length := by
        have := lt_of_get hr
        simp at this
        omega
      subst hrn
      simp only [Nat.sub_self, List.getElem?_cons_zero, Option.some.injEq] at hr
      subst hr
      exact .inr ⟨rfl, locNew_at _ _ _, rfl, rfl, rfl⟩
  have low : ∀ {r : Nat} {y : Row}, r < rows.length → lOwn (locNew loc rows.length x) r y → lOwn loc r y := fun {r y} hr ⟨p, p1, p2, p3⟩ => ⟨p, p1, p2, by rw [← hx r hr]; exact p3⟩
  have emp0 : ∀ {y : Row}, lOwn (locNew loc rows.length x) rows.length y → x.emp = false := fun {y} ⟨p, p1, p2, p3⟩ => by rw [locNew_at] at p3; exact p3
  refine ⟨fun r y hr => ?_, fun r y p hr hp => ?_, fun r s y z hr hs oy oz => ?_, fun r s y z hr hs oy oz hne => ?_⟩
  · rcases split_ r y hr with ⟨h1, h2, h3⟩ | ⟨h1, h2, h3, h4, h5⟩
    · exact (h.row r y h2).ext h1 hx (by simp [newLst])
    · unfold RowOK
      rw [if_neg (by simp [h3])]
      exact fun hc => absurd h4 hc
  · rcases split_ r y hr with ⟨h1, h2, h3⟩ | ⟨h1, h2, h3, h4, h5⟩
    · obtain ⟨k1, k2⟩ := h.lst r y p h2 hp
      exact ⟨k1, k2.at_ h3⟩
    · rw [hp] at h5
      injection h5 with h5
      subst h5
      subst h1
      exact ⟨h3, hn⟩
  · rcases split_ r y hr with ⟨h1, h2, h3⟩ | ⟨h1, h2, h3, h4, h5⟩ <;> rcases split_ s z hs with ⟨g1, g2, g3⟩ | ⟨g1, g2, g3, g4, g5⟩
    · rw [h3, g3]
      refine h.lapart r s y z h2 g2 (low h1 oy) ?_
      rcases oz with oz | ⟨oz, hne⟩
      · exact .inl oz
      · exact .inr ⟨low g1 oz, hne⟩
    · rcases oz with oz | ⟨oz, hne⟩
      · rw [g3] at oz; cases oz
      · subst g1
        rw [h3, g2]
        exact hap (emp0 oz) r y h2 (.inr (low h1 oy))
    · subst h1
      rw [h2, g3]
      refine (hap (emp0 oy) s z g2 ?_).symm
      rcases oz with oz | ⟨oz, hne⟩
      · exact .inl oz
      · exact .inr (low g1 oz)
    · rcases oz with oz | ⟨oz, hne⟩
      · rw [g3] at oz; cases oz
      · omega
  · rcases split_ r y hr with ⟨h1, h2, h3⟩ | ⟨h1, h2, h3, h4, h5⟩
    · rcases split_ s z hs with ⟨g1, g2, g3⟩ | ⟨g1, g2, g3, g4, g5⟩
      · rw [h3, g3]
        exact h.apart r s y z h2 g2 oy oz hne
      · rw [g3] at oz; cases oz
    · rw [h3] at oy; cases oy
theorem RowsOK.lt_heap {rows : List Row} {B : Nat} {w : World} (h : RowsOK e loc rows w B) {s : Nat} {y : Row} (hs : rows[s]? = some y) (ho : y.own = true ∨ lOwn loc s y) : (loc s).blk < w.heap.size := by
  rcases ho with ho | ho
  · have := h.row s y hs
    unfold RowOK at this
    rw [if_pos ho] at this
    obtain ⟨_, _, _, _, _, _, h5, _⟩ := this
    exact heap_lt h5
  · exact (h.lown hs ho).1
theorem zeroLs_sound : ∀ {l : List K} {zs : List (Srt × L)} {vs : List Value}, zeroLs l = some zs → CsRel e n loc (zeroC l) vs → zs.length = l.length ∧ vs = zs.map fun x => x.1.sem (x.2.ev e)
  | [], zs, vs, h, hv => by
    simp only [zeroLs, Option.some.injEq] at h
    subst h
    cases vs with
    | nil => exact ⟨rfl, rfl⟩
    | cons => exact hv.elim
  | k :: l, zs, vs, h, hv => by
    simp only [zeroLs, Option.bind_eq_bind, Option.bind_eq_some_iff, Option.some.injEq] at h
    obtain ⟨⟨s, x⟩, hx, r, hr, rfl⟩ := h
    cases vs with
    | nil => exact hv.elim
    | cons v vs =>
      obtain ⟨h1, h2⟩ := zeroLs_sound hr hv.2
      have hk := K.srt_some hx
      subst hk
      exact ⟨by simp [h1], by rw [h2, mk_sem' hv.1]; rfl⟩
theorem zeroLs_single : ∀ {l : List K} {zs : List (Srt × L)}, zeroLs l = some zs → (zs.map (·.1)).all Srt.single = true
  | [], zs, h => by
    simp only [zeroLs, Option.some.injEq] at h
    subst h
    rfl
  | k :: l, zs, h => by
    simp only [zeroLs, Option.bind_eq_bind, Option.bind_eq_some_iff, Option.some.injEq] at h
    obtain ⟨⟨s, x⟩, hx, r, hr, rfl⟩ := h
    simp only [List.map_cons, List.all_cons, zeroLs_single hr, Bool.and_true]
    cases k <;> simp [K.srt] at hx <;> obtain ⟨rfl, rfl⟩ := hx <;> rfl
instance : Inhabited A := ⟨.i 0⟩
theorem flatRep_get {α : Type} {zs : List α} (hz : 0 < zs.length) (m j : Nat) : ((List.replicate m zs).flatten)[j]? = if j < m * zs.length then zs[j % zs.length]? else none := by
  induction m generalizing j with
  | zero => simp
  | succ m ih =>
    rw [List.replicate_succ, List.flatten_cons]
    by_cases hj : j < zs.length
    · rw [List.getElem?_append_left hj, if_pos (by rw [Nat.succ_mul]; omega), Nat.mod_eq_of_lt hj]
    · rw [List.getElem?_append_right (by omega), ih]
      have : (j - zs.length) % zs.length = j % zs.length := (Nat.mod_eq_sub_mod (by omega)).symm
      rw [this, Nat.succ_mul]
      by_cases h : j < m * zs.length + zs.length
      · rw [if_pos (by omega), if_pos h]
      · rw [if_neg (by omega), if_neg h]
theorem semC_rep {zs : List (Srt × L)} (hz : 0 < zs.length) (m : Nat) : semC (zs.map (·.1)) (List.replicate m (zs.map fun x => x.2.ev e)).flatten = (List.replicate m (zs.map fun x => x.1.sem (x.2.ev e))).flatten := by
  apply List.ext_getElem?
  intro j
  rw [semC_get, flatRep_get (by simpa using hz), flatRep_get (by simpa using hz)]
  simp only [List.length_map]
  split
  · simp only [List.getElem?_map, List.getD, Option.map_map]
    have hlt := Nat.mod_lt j hz
    simp [List.getElem?_eq_getElem hlt]
  · rfl
theorem makeL_does {t u : TypeId} {tu : Ty} {zs : List (Srt × L)} {k k' : IntKind} {a b : Nat} {w : World} {q : Lst} (hun : P.underlying t = some (.slice u)) (htu : TyOK P u tu) (hz : zeroLs tu.zero = some zs) (hz0 : zs.length ≠ 0) (hby : tu.bytes ≤ 1000)
    (hb : b ≤ 1000000) (hab : a = b ∨ a = 0) (hcl : Cls e w0 loc rows w) (hq : q.own = true) (hty : q.ty = u) (hss : q.ss = zs.map (·.1)) (hx : q.x.ev e = .l (List.replicate a (zs.map fun x => x.2.ev e)).flatten) (hn : (q.n.ev e).int = a) :
    ∃ w', (Instr.makeSlice t (.int k a) (.int k' b)).run P w = .ok (.slice (some ⟨w.heap.size, 0, none⟩) a b) w' ∧ Cls e w0 (locNew loc rows.length (.mk4 w.heap.size 0 b 0)) (newLst rows q) w' := by
  obtain ⟨i, z, i1, i2, i3, i4, i5, i6⟩ := htu.info
  have hle : a ≤ b := by omega
  have hbb : (i.bytes : Int) * (b : Int) ≤ 281474976710656 := by
    rw [i3]
    have h1 : (tu.bytes : Int) ≤ 1000 := by omega
    calc (tu.bytes : Int) * (b : Int) ≤ 1000 * (b : Int) := Int.mul_le_mul_of_nonneg_right h1 (by omega)
      _ ≤ 1000 * 1000000 := by omega
      _ ≤ 281474976710656 := by decide
  have hm := run_make (P := P) w t u i z hun i1 i4 k k' a b (by omega) (by omega) hbb (by omega)
  obtain ⟨zl, zv⟩ := zeroLs_sound hz (i6 e rows.length loc)
  have hzl : zs.length = z.cells.size := by rw [zl]; have := CsRel_len (i6 e rows.length loc); simpa [zeroC] using this
  have hcells : ∀ c : Nat, (madeCells z.cells (c * i.size)).toList = (List.replicate c (zs.map fun x => x.1.sem (x.2.ev e))).flatten := fun c => by
    unfold madeCells
    rw [Array.toList_map, Array.toList_range, i2, ← i5, ← zv]
    exact map_mod z.cells (by omega) c
  refine ⟨_, by simpa using hm, ?_, hcl.2.trans (below_alloc' hcl.le _)⟩
  have hR : RowsOK e loc rows (w.alloc (.cells (madeCells z.cells (b * i.size)) u)) w0.heap.size := hcl.1.below hcl.le (below_alloc' (Nat.le_refl _) _)
  refine hR.addL hq (fun _ s y hs ho => Nat.ne_of_lt (hcl.1.lt_heap hs ho)) ⟨_, a, hx, ?_, hn, by rw [hss]; simp; omega, ?_⟩
  · rw [hss]; simp
  · rw [if_pos hq]
    refine ⟨by rw [hss]; exact zeroLs_single hz, ?_⟩
    rw [locNew_at, if_neg (by simp)]
    have hlen : ∀ c : Nat, ((List.replicate c (zs.map fun x => x.1.sem (x.2.ev e))).flatten).length = c * zs.length := fun c => by simp
    have hsplit : (madeCells z.cells (b * i.size)).toList = semC q.ss (List.replicate a (zs.map fun x => x.2.ev e)).flatten ++ ((List.replicate (b - a) (zs.map fun x => x.1.sem (x.2.ev e))).flatten) := by
      rw [hcells, hss, semC_rep (by omega), ← List.flatten_append, List.replicate_append_replicate]
      congr 2
      omega
    refine ⟨rfl, hcl.le, by simp only [maxLen]; omega, (List.replicate (b - a) (zs.map fun x => x.1.sem (x.2.ev e))).flatten, ?_, ?_⟩
    · rw [hty, ← hsplit]
      simpa using heap_alloc_new w _
    · rw [← hsplit, hcells, hlen, hss]
      simp
theorem op_makeSlice {t : TypeId} {x y : Operand} (hX : TysOK P X.tys) (ho : o.op = .makeSlice t x y) : OpOK P T e w0 fr rows gs pc o g (execOp X inl fr rows gs pc o g) := by
  obtain ⟨dst, op', ty, pos, after, guard⟩ := o
  simp only at ho
  subst ho
  simp only [execOp, Option.bind_eq_bind, Ctx.ty]
  have makeOK : ∀ {u : TypeId} {tu : Ty} {p q : PV} {k k' : IntKind} {a b : L}, TyOK P u tu → P.underlying t = some (.slice u) → opd fr gs x = some p → opd fr gs y = some q → p.int? = some (k, a) → q.int? = some (k', b) →
      OpOK P T e w0 fr rows gs pc ⟨dst, .makeSlice t x y, ty, pos, after, guard⟩ g (makeL rows u tu.bytes tu.zero a b pc g) := by
    intro u tu p q k k' a b htu hun hp hq hpi hqi
    unfold makeL
    cases hz : zeroLs tu.zero with
    | none => trivial
    | some zs =>
      simp only [Option.bind_eq_bind, Option.bind_some]
      split
      · trivial
      · rename_i hc
        simp only [Bool.or_eq_true, beq_iff_eq, decide_eq_true_eq, not_or, Nat.not_lt] at hc
        have fin : ∀ (loc : Loc) (act : Act) (w : World) (qq : Lst) (na nb : Nat), Holds e gs → FrRel e rows.length loc fr act.tmps → Cls e w0 loc rows w → (a.ev e).int = na → (b.ev e).int = nb → nb ≤ 1000000 → (na = nb ∨ na = 0) → qq.own = true → qq.ty = u → qq.ss = zs.map (·.1) →
            qq.x.ev e = .l (List.replicate na (zs.map fun x => x.2.ev e)).flatten → (qq.n.ev e).int = na → Does P ⟨dst, .makeSlice t x y, ty, pos, after, guard⟩ act w fun u w' => ∃ loc', LExt rows.length loc loc' ∧ rows.length ≤ (newLst rows qq).length ∧
              (SV.pv (.one (.k (.lsl rows.length qq.n)))).rel e (newLst rows qq).length loc' u ∧ Cls e w0 loc' (newLst rows qq) w' := fun loc act w qq na nb hgs hfr hcl ha hb hnb hab hq1 hq2 hq3 hq4 hq5 => by
          have e1 : act.eval x = .int k na := by rw [← ha]; exact PV.int?_some hpi (opd_sound hp hfr hgs)
          have e2 : act.eval y = .int k' nb := by rw [← hb]; exact PV.int?_some hqi (opd_sound hq hfr hgs)
          obtain ⟨w', r1, r2⟩ := makeL_does (k := k) (k' := k') hun htu hz hc.1 hc.2 hnb hab hcl hq1 hq2 hq3 hq4 hq5
          refine .inl ⟨.slice (some ⟨w.heap.size, 0, none⟩) na nb, w', .inl ?_, _, locNew_ext _ _ _, by simp [newLst], ⟨?_, rfl, .inr ?_⟩, r2⟩
          · simp only [Go.execOp, e1, e2, Sem.run_bind, r1, Result.andThen_ok, Sem.run_pure]
          · refine ⟨by simp [newLst], by rw [hq5]; omega, fun he => ?_⟩
            rw [locNew_at] at he
            simp at he
          · simp only [K.sem]
            rw [locNew_at]
            simp [hq5]
        split
        · rename_i hs
          have hs := L.same_eq hs
          intro hg
          have hp1 := push_good hg
          have hmu := must_good hp1.1
          have hin := mkInL_good hmu.1
          refine ⟨hin.1, fun loc act w hpc hgs hfr hcl => ?_⟩
          obtain ⟨b0, b1⟩ := hin.2.1 (hmu.2 hpc)
          obtain ⟨na, hna⟩ := Int.eq_ofNat_of_zero_le b0
          simp only [L.ev_n, A.int_i] at b1
          refine fin loc act w _ na na hgs hfr hcl hna (by rw [← hs]; exact hna) (by omega) (.inl rfl) rfl rfl rfl ?_ hna
          exact hp1.2 _ (by simp [D.ev, hna]; rfl)
        · split
          · rename_i _ hs
            have hs := L.same_eq hs
            intro hg
            have hmu := must_good hg
            have hin := mkInL_good hmu.1
            refine ⟨hin.1, fun loc act w hpc hgs hfr hcl => ?_⟩
            obtain ⟨b0, b1⟩ := hin.2.1 (hmu.2 hpc)
            obtain ⟨nb, hnb⟩ := Int.eq_ofNat_of_zero_le b0
            simp only [L.ev_n, A.int_i] at b1
            exact fin loc act w _ 0 nb hgs hfr hcl (by rw [hs]; rfl) hnb (by omega) (.inr rfl) rfl rfl rfl (by simp) rfl
          · trivial
  cases ht : look t X.tys with
  | none => trivial
  | some tt =>
    have htt := hX t tt ht
    simp only [Option.bind_some]
    cases hp : opd fr gs x with
    | none => trivial
    | some p =>
      simp only [Option.bind_some]
      cases hq : opd fr gs y with
      | none => trivial
      | some q =>
        simp only [Option.bind_some]
        split
        · rename_i u k a k' b hk hpi hqi
          cases hu : look u X.tys with
          | none => trivial
          | some tu =>
            have htu := hX u tu hu
            have hun := kind_slice htt hk
            simp only [Option.bind_some]
            split
            · exact makeOK htu hun hp hq hpi hqi
            split
            · trivial
            · rename_i hsz
              simp only [Bool.or_eq_true, bne_iff_ne, ne_eq, beq_iff_eq, decide_eq_true_eq, not_or, Decidable.not_not] at hsz
              obtain ⟨⟨⟨⟨s1, s2⟩, s3⟩, s4⟩, s5⟩ := hsz
              subst s2
              refine fun hg => ⟨hg, fun loc act w _ hgs hfr hcl => ?_⟩
              obtain ⟨i, z, i1, i2, i3, i4, i5, i6⟩ := htu.info
              have e1 : act.eval x = .int k a := PV.int?_some hpi (opd_sound hp hfr hgs)
              have e2 : act.eval y = .int k' a := PV.int?_some hqi (opd_sound hq hfr hgs)
              have hb : (i.bytes : Int) * a ≤ 281474976710656 := by
                rw [i3]
                have h1 : (tu.bytes : Int) ≤ 1000 := by omega
                have h2 : a ≤ 1000 := by omega
                calc (tu.bytes : Int) * a ≤ 1000 * a := Int.mul_le_mul_of_nonneg_right h1 (by omega)
                  _ ≤ 1000 * 1000 := by omega
                  _ ≤ 281474976710656 := by decide
              have hm := run_make (P := P) w t u i z hun i1 i4 k k' a a (by omega) (Int.le_refl _) hb (by omega)
              have hflat := CsRel_flat (i6 e rows.length loc) a.toNat
              have hmm := map_mod z.cells (by omega) a.toNat
              rw [← hmm] at hflat
              refine .inl ⟨.slice (some ⟨w.heap.size, 0, none⟩) a.toNat a.toNat, w.alloc (.cells (madeCells z.cells (a.toNat * i.size)) u), .inl ?_, locNew loc rows.length (.mk4 w.heap.size 0 a.toNat tu.size), locNew_ext _ _ _, by rw [newRow_len]; omega, ?_, ?_⟩
              · simp only [Go.execOp, e1, e2, Sem.run_bind, hm, Result.andThen_ok, Sem.run_pure]
              · refine mk_slc (by rw [newRow_len]; omega) ?_
                rw [locNew_at]
                simp
              · have hc : CsRel e rows.length loc (List.replicate a.toNat (zeroC tu.zero)).flatten (madeCells z.cells (a.toNat * i.size)).toList := by
                  unfold madeCells
                  rw [Array.toList_map, Array.toList_range, i2, ← i5]
                  exact hflat
                have := cls_new hcl (ty := u) (es := tu.size) (cap := a.toNat) (vs := (madeCells z.cells (a.toNat * i.size)).toList) (spare := []) hc (by simp [size_madeCells, i2]) (by simp only [maxLen]; omega)
                simpa using this
        · rename_i u k a k' b _ hk hpi hqi
          cases hu : look u X.tys with
          | none => trivial
          | some tu => exact makeOK (hX u tu hu) (kind_slice htt hk) hp hq hpi hqi
        · trivial
theorem litNat_some {d l : Nat} {p : Option PV} (h : litNat d p = some l) : (p = none ∧ l = d) ∨ ∃ q k, p = some q ∧ q.int? = some (k, .n (l : Int)) := by
  unfold litNat at h
  split at h
  · injection h with h; exact .inl ⟨rfl, h.symm⟩
  · rename_i q
    split at h
    · rename_i k x hq
      split at h
      · rename_i h0
        injection h with h
        refine .inr ⟨q, k, rfl, ?_⟩
        rw [hq, ← h]
        congr 3
        omega
      · cases h
    · cases h
theorem mk_aslc {r off es m c : Nat} {v : Value} (hr : r < n) (h : v = .slice (some ⟨(loc r).blk, (loc r).off + off, none⟩) m c) : (PV.one (.k (.aslc r off es m c))).rel e n loc v :=
  ⟨hr, by rw [h]; rfl, .inr (by rw [h]; rfl)⟩
theorem opt_opd {y : Option Operand} {q : Option PV} {a : Act} (h : optOpd fr gs y = some q)
    (hfr : FrRel e n loc fr a.tmps) (hgs : Holds e gs) : (y = none ∧ q = none) ∨ ∃ x p, y = some x ∧ q = some p ∧ p.rel e n loc (a.eval x) := by
  cases y with
  | none => simp [optOpd] at h; exact .inl ⟨rfl, h.symm⟩
  | some x =>
    simp only [optOpd, Option.bind_eq_bind, Option.bind_eq_some_iff, Option.some.injEq] at h
    obtain ⟨p, hp, rfl⟩ := h
    exact .inr ⟨x, p, rfl, rfl, opd_sound hp hfr hgs⟩
theorem run_sliceBound {k : IntKind} {l cap : Nat} {b : BoundsCode} {w : World} (h : l ≤ cap) : (Instr.sliceBound (.int k (l : Int)) cap b).run P w = .ok l w := by
  simp [Instr.sliceBound, asIntOf, h]
theorem op_slice {t : TypeId} {x : Operand} {lo hi : Option Operand} (hX : TysOK P X.tys) (ho : o.op = .slice t x lo hi none) : OpOK P T e w0 fr rows gs pc o g (execOp X inl fr rows gs pc o g) := by
  obtain ⟨dst, op', ty, pos, after, guard⟩ := o
  simp only at ho
  subst ho
  simp only [execOp, Option.bind_eq_bind, Ctx.ty]
  cases ht : look t X.tys with
  | none => trivial
  | some tt =>
    have htt := hX t tt ht
    simp only [Option.bind_some]
    cases hp : opd fr gs x with
    | none => trivial
    | some p =>
      simp only [Option.bind_some]
      cases hl : optOpd fr gs lo with
      | none => trivial
      | some l =>
        simp only [Option.bind_some]
        cases hh : optOpd fr gs hi with
        | none => trivial
        | some h =>
          simp only [Option.bind_some]
          split
          · rename_i m u hk
            cases hu : look u X.tys with
            | none => trivial
            | some tu =>
              have htu := hX u tu hu
              have hun := kind_arr htt hk
              simp only [Option.bind_some]
              unfold sliceOf
              split
              · rename_i r off
                cases h1 : litNat 0 l with
                | none => trivial
                | some l' =>
                  simp only [Option.bind_some, Option.bind_eq_bind]
                  cases h2 : litNat m h with
                  | none => trivial
                  | some h' =>
                    simp only [Option.bind_some]
                    split
                    · rename_i hlt
                      simp only [Bool.and_eq_true, decide_eq_true_eq] at hlt
                      refine opOK_one fun hg => ⟨hg, fun loc a w1 _ hgs hfr _ => ?_⟩
                      obtain ⟨r1, r2⟩ := rel_ptr (opd_sound hp hfr hgs)
                      have hbounds : ∀ w, (Instr.sliceBounds false m m (lo.map a.eval) (hi.map a.eval) none).run P w = .ok (l', h', m) w := fun w => by
                        have elo : (lo = none ∧ l' = 0) ∨ ∃ y k, lo = some y ∧ a.eval y = .int k (l' : Int) := by
                          rcases opt_opd hl hfr hgs with ⟨q1, q2⟩ | ⟨y, q, q1, q2, q3⟩
                          · subst q2
                            rcases litNat_some h1 with ⟨_, z⟩ | ⟨_, _, z, _⟩
                            · exact .inl ⟨q1, z⟩
                            · cases z
                          · subst q2
                            rcases litNat_some h1 with ⟨z, _⟩ | ⟨q', k, z, z2⟩
                            · cases z
                            · injection z with z
                              subst z
                              exact .inr ⟨y, k, q1, PV.int?_some z2 q3⟩
                        have ehi : (hi = none ∧ h' = m) ∨ ∃ y k, hi = some y ∧ a.eval y = .int k (h' : Int) := by
                          rcases opt_opd hh hfr hgs with ⟨q1, q2⟩ | ⟨y, q, q1, q2, q3⟩
                          · subst q2
                            rcases litNat_some h2 with ⟨_, z⟩ | ⟨_, _, z, _⟩
                            · exact .inl ⟨q1, z⟩
                            · cases z
                          · subst q2
                            rcases litNat_some h2 with ⟨z, _⟩ | ⟨q', k, z, z2⟩
                            · cases z
                            · injection z with z
                              subst z
                              exact .inr ⟨y, k, q1, PV.int?_some z2 q3⟩
                        rcases elo with ⟨z1, z2⟩ | ⟨y1, k1, z1, z2⟩ <;> rcases ehi with ⟨z3, z4⟩ | ⟨y2, k2, z3, z4⟩
                        · simp [Instr.sliceBounds, z1, z2, z3, z4]
                        · simp [Instr.sliceBounds, z1, z2, z3, z4, run_sliceBound hlt.2]
                        · simp [Instr.sliceBounds, z1, z2, z3, z4, run_sliceBound (show l' ≤ m by omega)]
                        · simp [Instr.sliceBounds, z1, z2, z3, z4, run_sliceBound hlt.2, run_sliceBound (show l' ≤ h' by omega)]
                      refine ⟨_, mk_aslc (off := off + l' * tu.size) r1 rfl, fun w _ => ?_⟩
                      have hne : ¬ (m = l') := by omega
                      simp [Go.execOp, Instr.sliceAt, run_underlying hun, r2, Instr.sureAddr, hbounds, run_size htu, hne, addr_add, Nat.add_assoc]
                    · trivial
              · trivial
          · trivial
end
end Rx
namespace Rx
open Go Go.RowKit
section
variable {T : Nat → List A → Bool × List A} {e : Nat → A} {n n' : Nat} {loc loc' : Loc} {P : Program} {X : Ctx} {w0 : World}
variable {fr : List SV} {rows : List Row} {gs : List (L × Bool)} {pc : L} {o : Oper} {g : G} {inl : Inline}
theorem RowsOK.grow {rows : List Row} {B : Nat} {w w' : World} (h : RowsOK e loc rows w B) {ty es cap gb : Nat} {cells : List C} {vs spare : List Value}
    (hw : ∀ k, k < B → w'.heap[k]? = w.heap[k]?) (ho : ∀ s y, rows[s]? = some y → (y.own = true ∨ lOwn loc s y) → (loc s).blk ≠ gb ∧ w'.heap[(loc s).blk]? = w.heap[(loc s).blk]?)
    (hg : B ≤ gb) (hn : w'.heap[gb]? = some (.cells (vs ++ spare).toArray ty (0, 0)))
    (hc : CsRel e rows.length loc cells vs) (hl : (vs ++ spare).length = cap * es) (hm : cap ≤ maxLen) :
    RowsOK e (locNew loc rows.length (.mk4 gb 0 cap es)) (newRow rows ty es cells) w' B := by
  have hx := locNew_ext loc rows.length (.mk4 gb 0 cap es)
  have hlen : (newRow rows ty es cells).length = rows.length + 1 := by simp [newRow]
  have old : ∀ r x, (newRow rows ty es cells)[r]? = some x → r ≠ rows.length → rows[r]? = some x := fun r x hx hne => by
    simp only [newRow, List.getElem?_append] at hx
    split at hx
    · exact hx
    · rename_i h0
      have := lt_of_get hx
      simp at this
      omega
  have new : ∀ x, (newRow rows ty es cells)[rows.length]? = some x → x = { own := true, ty, es, cells } := fun x hx => by
    simp [newRow] at hx; exact hx.symm
  have oldl : ∀ (r : Nat) (x : Row) (q : Lst), (newRow rows ty es cells)[r]? = some x → x.lst = some q → rows[r]? = some x := fun r x q hr hq => by
    refine old r x hr fun h0 => ?_
    subst h0
    rw [new x hr] at hq
    cases hq
  refine ⟨fun r x hr => ?_, fun r x q hr hq => ?_, fun r s x y hr hs hox hoy => ?_, fun r s x y hr hs hox hoy hne => ?_⟩
  rotate_left
  · have hr' := oldl r x q hr hq
    obtain ⟨k1, k2⟩ := h.lst r x q hr' hq
    exact ⟨k1, (k2.keep (fun h1 h2 => (ho r x hr' (.inr ⟨q, hq, h1, h2⟩)).2) hw).at_ (hx r (lt_of_get hr'))⟩
  · obtain ⟨q, k1, k2, k3⟩ := hox
    have hr' := oldl r x q hr k1
    rw [hx r (lt_of_get hr')] at k3 ⊢
    by_cases hsn : s = rows.length
    · subst hsn
      rw [locNew_at]
      exact (ho r x hr' (.inr ⟨q, k1, k2, k3⟩)).1
    · have hs' := old s y hs hsn
      have hls := hx s (lt_of_get hs')
      rw [hls]
      refine h.lapart r s x y hr' hs' ⟨q, k1, k2, k3⟩ ?_
      rcases hoy with hoy | ⟨⟨q', m1, m2, m3⟩, hne⟩
      · exact .inl hoy
      · exact .inr ⟨⟨q', m1, m2, by rw [← hls]; exact m3⟩, hne⟩
  rotate_left
  · rw [hlen]
    by_cases hrn : r = rows.length
    · subst hrn
      rw [new x hr]
      unfold RowOK
      rw [if_pos rfl, locNew_at]
      exact ⟨rfl, rfl, hg, hm, vs, spare, hn, CsRel_ext hc hx (by omega), hl⟩
    · have hr' := old r x hr hrn
      refine RowOK.ext (n := rows.length) (loc := loc) ?_ (lt_of_get hr') hx (by omega)
      have hrow := h.row r x hr'
      unfold RowOK at hrow ⊢
      split
      · rename_i ox
        rw [if_pos ox] at hrow
        obtain ⟨a1, a2, a3, a4, vs', sp', a5, a6, a7⟩ := hrow
        exact ⟨a1, a2, a3, a4, vs', sp', (ho r x hr' (.inl ox)).2.trans a5, a6, a7⟩
      · rename_i ox
        rw [if_neg ox] at hrow
        intro hc'
        obtain ⟨a1, a2, a3⟩ := hrow hc'
        refine ⟨a1, a2, fun j c hj => ?_⟩
        obtain ⟨v, hv, hvr⟩ := a3 j c hj
        exact ⟨v, (World.cell?_of_block (w := w) (hw _ a2)).trans hv, hvr⟩
  · by_cases hrn : r = rows.length
    · by_cases hsn : s = rows.length
      · omega
      · have hs' := old s y hs hsn
        subst hrn
        rw [locNew_at, hx s (lt_of_get hs')]
        exact fun h0 => (ho s y hs' (.inl hoy)).1 h0.symm
    · have hr' := old r x hr hrn
      rw [hx r (lt_of_get hr')]
      by_cases hsn : s = rows.length
      · subst hsn
        rw [locNew_at]
        exact (ho r x hr' (.inl hox)).1
      · have hs' := old s y hs hsn
        rw [hx s (lt_of_get hs')]
        exact h.apart r s x y hr' hs' hox hoy hne
theorem rel_nilslc {v : Value} (h : (PV.one (.k .nilslc)).rel e n loc v) : v = .slice none 0 0 := by
  rcases h.2.2 with h1 | h1
  · cases h1
  · exact h1
theorem take?_get {l r : List C} {off k j : Nat} {c : C} (h : take? l off k = some r) (hj : r[j]? = some c) : l[off + j]? = some c := by
  obtain ⟨h1, rfl, h3⟩ := take?_some h
  have hlt := lt_of_get hj
  rw [List.getElem?_take] at hj
  split at hj
  · rwa [List.getElem?_drop] at hj
  · cases hj
theorem appendNews_sound {es m : Nat} {q : PV} {news : List C} {v : Value} {w : World} (h : appendNews rows es q = some (m, news)) (hm : m ≠ 0) (he : es ≠ 0) (hcl : Cls e w0 loc rows w) (hq : q.rel e rows.length loc v) :
    ∃ a c us, v = .slice (some a) m c ∧ news.length = m * es ∧ CsRel e rows.length loc news us ∧ ∀ j u, us[j]? = some u → w.cell? (a.add j) = some u := by
  unfold appendNews at h
  split at h
  · rename_i r off n'
    simp only [Option.bind_eq_bind, Option.bind_eq_some_iff] at h
    obtain ⟨row, hrow, h⟩ := h
    split at h
    · cases h
    · rename_i hes
      simp only [bne_iff_ne, ne_eq, Decidable.not_not] at hes
      simp only [Option.bind_eq_some_iff, Option.some.injEq, Prod.mk.injEq] at h
      obtain ⟨cs, hcs, rfl, rfl⟩ := h
      obtain ⟨r1, r2⟩ := rel_slc hq
      obtain ⟨t1, t2, t3⟩ := take?_some hcs
      have hne : row.cells.isEmpty = false := by
        cases hcc : row.cells with
        | nil =>
          rw [hcc] at t1
          have : 0 < n' * es := Nat.mul_pos (by omega) (by omega)
          simp at t1
          omega
        | cons => rfl
      have hle := hcl.1.es hrow hne
      obtain ⟨us, u1, u2⟩ := cells_read (e := e) (n := rows.length) (loc := loc) (w := w) (b := (loc r).blk) (o := (loc r).off + off * es) (cs := cs) (fun j c hj => by
        obtain ⟨v, v1, v2⟩ := hcl.1.cell hrow (take?_get hcs hj)
        exact ⟨v, by rw [Nat.add_assoc]; exact v1, v2⟩)
      rw [hle, hes] at r2
      exact ⟨_, _, us, r2, t3, u1, fun j u hu => by rw [addr_add]; exact u2 j u hu⟩
  · rename_i r off es' n' cap
    simp only [Option.bind_eq_bind, Option.bind_eq_some_iff] at h
    obtain ⟨row, hrow, h⟩ := h
    split at h
    · cases h
    · rename_i hes
      simp only [Option.bind_eq_some_iff, Option.some.injEq, Prod.mk.injEq] at h
      obtain ⟨cs, hcs, rfl, rfl⟩ := h
      obtain ⟨r1, r2⟩ := rel_aslc hq
      obtain ⟨t1, t2, t3⟩ := take?_some hcs
      obtain ⟨us, u1, u2⟩ := cells_read (e := e) (n := rows.length) (loc := loc) (w := w) (b := (loc r).blk) (o := (loc r).off + off) (cs := cs) (fun j c hj => by
        obtain ⟨v, v1, v2⟩ := hcl.1.cell hrow (take?_get hcs hj)
        exact ⟨v, by rw [Nat.add_assoc]; exact v1, v2⟩)
      exact ⟨_, _, us, r2, t3, u1, fun j u hu => by rw [addr_add]; exact u2 j u hu⟩
  · cases h
theorem append_sound {t ty2 u : TypeId} {tu : Ty} {p q : PV} {vp vq : Value} {v : SV} {rows' : List Row} {g' : G} {w : World} (htu : TyOK P u tu) (hun : P.underlying t = some (.slice u))
    (h : appendC rows u tu.size tu.bytes p q g = some (v, some rows', g')) (hcl : Cls e w0 loc rows w) (hp : p.rel e rows.length loc vp) (hq : q.rel e rows.length loc vq) :
    g' = g ∧ ∃ x w', (Builtin.append_ #[t, t] ty2 #[vp, vq]).run P w = .ok x w' ∧ ∃ loc', LExt rows.length loc loc' ∧ rows.length ≤ rows'.length ∧ v.rel e rows'.length loc' x ∧ Cls e w0 loc' rows' w' := by
  obtain ⟨i, z, i1, i2, i3, i4, i5, i6⟩ := htu.info
  unfold appendC at h
  simp only [Option.bind_eq_bind, Option.bind_eq_some_iff] at h
  obtain ⟨⟨m, news⟩, hnews, h⟩ := h
  simp only at h
  split at h
  · cases h
  · rename_i hz
    simp only [Bool.or_eq_true, beq_iff_eq, decide_eq_true_eq, not_or] at hz
    obtain ⟨⟨hm0, hby⟩, hes⟩ := hz
    obtain ⟨a, c, us, rfl, hnl, hus, hcell⟩ := appendNews_sound hnews hm0 hes hcl hq
    have hul : us.length = m * tu.size := by rw [← CsRel_len hus, hnl]
    have main : ∀ (k : Nat) (xs : List Value) (cells : List C) (rows1 : List Row) (blk : Option Nat), k + m ≤ 100000 → w.ownsRow w0.heap.size u tu.size vp k xs → CsRel e rows.length loc cells xs →
        rows1.length = rows.length → RowsOK e loc rows1 w w0.heap.size → vp.ownBlock = blk → (∀ b, blk = some b → w0.heap.size ≤ b) →
        (∀ s y, rows1[s]? = some y → (y.own = true ∨ lOwn loc s y) → (loc s).blk < w.heap.size ∧ some (loc s).blk ≠ blk) →
        ∃ x w', (Builtin.append_ #[t, t] ty2 #[vp, .slice (some a) m c]).run P w = .ok x w' ∧ ∃ loc', LExt rows.length loc loc' ∧ rows.length ≤ (newRow rows1 u tu.size (cells ++ news)).length ∧
          (PV.one (.k (.slc rows.length 0 (k + m)))).rel e (newRow rows1 u tu.size (cells ++ news)).length loc' x ∧ Cls e w0 loc' (newRow rows1 u tu.size (cells ++ news)) w' := by
      intro k xs cells rows1 blk hkm hown hxs hlen hrows hblk hB hsep
      have hmul : (k + m) * tu.bytes ≤ 140737488355328 := by
        calc (k + m) * tu.bytes ≤ 100000 * 1000 := Nat.mul_le_mul hkm (by omega)
          _ ≤ 140737488355328 := by decide
      obtain ⟨x, w', h1, h2, h3, h4, h5⟩ := run_append_own_at (P := P) w w0.heap.size t ty2 u i z tu.size tu.bytes hun i1 i4 i2 i3 i5 (by omega) vp k xs hown a m c us hul hcell (CsRel_one hus) (by simp only [maxLen]; omega) hmul hcl.le
      obtain ⟨g1, g2⟩ := h2
      rcases g2 with ⟨_, g2⟩ | ⟨gb, cap, cur, rfl, gB, gh, gk, gc, gs, gt⟩
      · omega
      · have hvs : cur = ((xs ++ us) ++ cur.toList.drop ((k + m) * tu.size)).toArray := by
          apply Array.ext'
          rw [← gt]
          simp
        rw [hvs] at gh
        have hgb : ∀ s y, rows1[s]? = some y → (y.own = true ∨ lOwn loc s y) → (loc s).blk ≠ gb ∧ w'.heap[(loc s).blk]? = w.heap[(loc s).blk]? := fun s y hs hy => by
          obtain ⟨q1, q2⟩ := hsep s y hs hy
          refine ⟨fun h0 => ?_, h3.block _ q1 (by rw [hblk]; exact q2)⟩
          rcases h5 with h5 | h5
          · rw [hblk] at h5
            exact q2 (by rw [← h5, h0]; rfl)
          · simp only [Value.ownBlock, Option.some.injEq] at h5
            omega
        have hr := hrows.grow (w' := w') (ty := u) (es := tu.size) (cap := cap) (gb := gb) (cells := cells ++ news) (vs := xs ++ us) (spare := cur.toList.drop ((k + m) * tu.size))
          (fun j hj => h3.block j (Nat.lt_of_lt_of_le hj hcl.le) (by
            rw [hblk]
            intro h0
            exact Nat.lt_irrefl j (Nat.lt_of_lt_of_le hj (hB j h0.symm)))) hgb gB gh (by rw [hlen]; exact CsRel_append hxs hus) (by
            have : (xs ++ us ++ cur.toList.drop ((k + m) * tu.size)).length = cur.size := by
              conv => rhs; rw [hvs]
              simp
            rw [this, gs]) gc
        refine ⟨_, w', h1, locNew loc rows1.length (.mk4 gb 0 cap tu.size), ?_, by rw [newRow_len, hlen]; omega, ?_, hr, hcl.2.grown h3 hcl.le (by rw [hblk]; exact hB)⟩
        · rw [hlen]; exact locNew_ext _ _ _
        · refine mk_slc (by rw [newRow_len]; omega) ?_
          rw [← hlen, locNew_at]
          simp
    split at h
    · split at h
      · cases h
      · rename_i hm1
        simp only [Option.some.injEq, Prod.mk.injEq] at h
        obtain ⟨rfl, rfl, rfl⟩ := h
        have hv := rel_nilslc hp
        subst hv
        refine ⟨rfl, ?_⟩
        have := main 0 [] [] rows none (by omega) ⟨by simp, .inl ⟨rfl, rfl⟩⟩ trivial rfl hcl.1 rfl (fun b hb => by cases hb) (fun s y hs hy => ⟨hcl.1.lt_heap hs hy, by simp⟩)
        rw [Nat.zero_add, List.nil_append] at this
        exact this
    · rename_i r k
      simp only [Option.bind_eq_some_iff] at h
      obtain ⟨row, hrow, h⟩ := h
      split at h
      · cases h
      · rename_i hz2
        simp only [Bool.or_eq_true, Bool.not_eq_true', bne_iff_ne, ne_eq, decide_eq_true_eq, not_or, Decidable.not_not, Bool.not_eq_false] at hz2
        obtain ⟨⟨⟨⟨z1, z2⟩, z3⟩, z4⟩, z5⟩ := hz2
        simp only [Option.some.injEq, Prod.mk.injEq] at h
        obtain ⟨rfl, rfl, rfl⟩ := h
        obtain ⟨r1, r2⟩ := rel_slc hp
        have hrr := hcl.1.row r row hrow
        unfold RowOK at hrr
        rw [if_pos z1] at hrr
        obtain ⟨b1, b2, b3, b4, vs, sp, b5, b6, b7⟩ := hrr
        have hvl : vs.length = k * tu.size := by rw [← CsRel_len b6, z4]
        have hv : vp = .slice (some ⟨(loc r).blk, 0, none⟩) k (loc r).cap := by rw [r2, b1]; simp
        have hkc : k ≤ (loc r).cap := by
          have : k * row.es ≤ (loc r).cap * row.es := by rw [← b7, z2, ← hvl]; simp
          exact Nat.le_of_mul_le_mul_right this (by omega)
        refine ⟨rfl, ?_⟩
        refine main k vs row.cells (rows.set r Row.dead) (some (loc r).blk) (by omega) ⟨hvl, .inr ⟨(loc r).blk, (loc r).cap, (vs ++ sp).toArray, hv, b3, by rw [b5, z3], hkc, b4, by rw [← z2, ← b7]; simp, by rw [← hvl]; simp⟩⟩ b6 (by simp) (hcl.1.kill r) (by rw [hv]; rfl)
          (fun b hb => by injection hb with hb; subst hb; exact b3) (fun s y hs hy => ?_)
        by_cases hsr : s = r
        · subst hsr
          rw [List.getElem?_set_self r1] at hs
          injection hs with hs
          subst hs
          rcases hy with hy | ⟨_, hy, _⟩ <;> simp [Row.dead] at hy
        · rw [List.getElem?_set_ne (Ne.symm hsr)] at hs
          refine ⟨hcl.1.lt_heap hs hy, fun h0 => ?_⟩
          injection h0 with h0
          rcases hy with hy | hy
          · exact hcl.1.apart s r y row hs hrow hy z1 hsr h0
          · exact hcl.1.lapart s r y row hs hrow hy (.inl z1) h0
    · cases h
end
end Rx
namespace Rx
open Go Go.RowKit
def semMany : List Srt → List A → List Value
  | s :: ss, a :: as => s.sem a :: semMany ss as
  | _, _ => []
def semRows (ss : List Srt) : Nat → List A → List Value
  | 0, _ => []
  | n + 1, as => semMany ss (as.take ss.length) ++ semRows ss n (as.drop ss.length)
def OneArg (w : World) : PS → Value → List A → Prop
  | .c agg ss, v, as => as.length = ss.length ∧ (if agg then v = .agg (semMany ss as).toArray else ∃ s a, ss = [s] ∧ as = [a] ∧ v = s.sem a)
  | .slc ss, v, as => ∃ b o n c rest, v = .slice (some ⟨b, o, none⟩) n c ∧ as = .i n :: rest ∧ rest.length = n * ss.length ∧ ∀ j u, (semRows ss n rest)[j]? = some u → w.cell? ⟨b, o + j, none⟩ = some u
  | .nil, v, as => v = .slice none 0 0 ∧ as = []
  | .lst ss, v, as => ∃ a k b m c, as = [a, k] ∧ k.int = (m : Nat) ∧ v = .slice b m c ∧ 0 < ss.length ∧ FSC w.cell? (.sl ss) a v
def ArgsRel (w : World) : List PS → List Value → List A → Prop
  | [], vs, as => vs = [] ∧ as = []
  | p :: ps, vs, as => ∃ v vr a1 a2, vs = v :: vr ∧ as = a1 ++ a2 ∧ OneArg w p v a1 ∧ ArgsRel w ps vr a2
def OneRes (r : Bool × List Srt) (as : List A) (v : Value) : Prop :=
  as.length = r.2.length ∧ (if r.1 then v = .agg (semMany r.2 as).toArray else ∃ s a, r.2 = [s] ∧ as = [a] ∧ v = s.sem a)
def ResList : List (Bool × List Srt) → List A → List Value → Prop
  | [], as, vs => as = [] ∧ vs = []
  | r :: rs, as, vs => ∃ v vr a1 a2, vs = v :: vr ∧ as = a1 ++ a2 ∧ OneRes r a1 v ∧ ResList rs a2 vr
def retVal : List Value → Value
  | [v] => v
  | vs => .tuple vs.toArray
def ResRel (rs : List (Bool × List Srt)) (as : List A) (v : Value) : Prop :=
  ∃ vs, ResList rs as vs ∧ v = retVal vs
def Agree (lits : List (Option Int)) (as : List A) : Prop := lits.length = as.length ∧ ∀ (j : Nat) (x : Int), lits[j]? = some (some x) → ∀ a : A, as[j]? = some a → a = A.i x
def CtrOK (P : Program) (T : Nat → List A → Bool × List A) (c : Ctr) : Prop :=
  ∀ (lits : List (Option Int)) (as : List A) (vs : List Value) (w : World), c.ok lits = true → Agree lits as → ArgsRel w c.ps vs as → (T c.f as).1 = true →
    Calls P c.f vs.toArray w fun en w' => ∃ u, en = .returned u ∧ ResRel c.rs (T c.f as).2 u ∧ Below w.heap.size w w'
def CtrsOK (P : Program) (T : Nat → List A → Bool × List A) (l : List (Nat × Ctr)) : Prop := ∀ x ∈ l, x.2.f = x.1 ∧ CtrOK P T x.2
def FnsOK (P : Program) (fns : Nat → Option Func) : Prop := ∀ f fn, fns f = some fn → P.funcs[f]? = some fn ∧ (fn.name == "runtime.NumGoroutine") = false ∧ fn.body.isSome = true
section
variable {T : Nat → List A → Bool × List A} {e : Nat → A} {n n' : Nat} {loc loc' : Loc} {P : Program} {X : Ctx} {w0 : World}
variable {fr : List SV} {rows : List Row} {gs : List (L × Bool)} {pc : L} {o : Oper} {g : G} {inl : Inline}
theorem ResRel.unique {rs : List (Bool × List Srt)} {as : List A} {u v : Value} (h : ResRel rs as u) (h' : ResRel rs as v) : u = v := by
  obtain ⟨us, h1, rfl⟩ := h
  obtain ⟨vs, h2, rfl⟩ := h'
  have : ∀ {rs : List (Bool × List Srt)} {as : List A} {us vs : List Value}, ResList rs as us → ResList rs as vs → us = vs := by
    intro rs
    induction rs with
    | nil => intro as us vs h1 h2; rw [h1.2, h2.2]
    | cons r rs ih =>
      intro as us vs h1 h2
      obtain ⟨v, vr, a1, a2, rfl, e1, h3, h4⟩ := h1
      obtain ⟨v', vr', a1', a2', rfl, e2, h3', h4'⟩ := h2
      have hl : a1 = a1' ∧ a2 = a2' := by
        rw [e1] at e2
        exact List.append_inj e2 (by rw [h3.1, h3'.1])
      obtain ⟨rfl, rfl⟩ := hl
      rw [ih h4 h4']
      congr 1
      have h5 := h3.2
      have h5' := h3'.2
      split at h5
      · rename_i hr
        rw [if_pos hr] at h5'
        rw [h5, h5']
      · rename_i hr
        rw [if_neg hr] at h5'
        obtain ⟨s, a, q1, q2, q3⟩ := h5
        obtain ⟨s', a', q1', q2', q3'⟩ := h5'
        rw [q1] at q1'
        rw [q2] at q2'
        injection q1' with q1' _
        injection q2' with q2' _
        rw [q3, q3', q1', q2']
  rw [this h1 h2]
theorem mk_sem {s : Srt} {x : L} {v : Value} (h : (s.mk x).rel e n loc v) : v = s.sem (x.ev e) := by
  cases s <;> (rcases h.2.2 with h1 | h1) <;> first | (cases h1; done) | (rw [h1]; rfl)
theorem mk_of_sem {s : Srt} {x : L} {a : A} (h : x.ev e = a) : (s.mk x).rel e n loc (s.sem a) := by
  subst h
  cases s <;> refine ⟨trivial, ?_, .inr rfl⟩
  all_goals first | rfl | skip
  simp only [Srt.sem]
  unfold sliceV
  split <;> rfl
theorem flatK_sound : ∀ {ss : List Srt} {cs : List C} {ls : List L} {vs : List Value}, flatK ss cs = some ls → CsRel e n loc cs vs →
    ls.length = ss.length ∧ cs.length = ss.length ∧ vs = semMany ss (ls.map (L.ev e))
  | [], [], ls, vs, h, hv => by
    simp [flatK] at h
    subst h
    cases vs with
    | nil => exact ⟨rfl, rfl, rfl⟩
    | cons => exact hv.elim
  | s :: ss, .k x :: cs, ls, vs, h, hv => by
    simp only [flatK, Option.bind_eq_bind, Option.bind_eq_some_iff] at h
    obtain ⟨⟨u, y⟩, hx, h⟩ := h
    simp only at h
    split at h
    · rename_i hu
      simp only [Option.bind_eq_some_iff, Option.some.injEq] at h
      obtain ⟨r, hr, rfl⟩ := h
      cases vs with
      | nil => exact hv.elim
      | cons v vs =>
        obtain ⟨h1, h2, h3⟩ := flatK_sound hr hv.2
        have hk := K.srt_some hx
        have hs := Srt.same_eq hu
        subst hs
        have hv1 : (u.mk y).rel e n loc v := by rw [← hk]; exact hv.1
        refine ⟨by simp [h1], by simp [h2], ?_⟩
        simp only [List.map_cons, semMany]
        rw [mk_sem hv1, h3]
    · cases h
  | [], _ :: _, _, _, h, _ => by simp [flatK] at h
  | _ :: _, [], _, _, h, _ => by simp [flatK] at h
  | _ :: _, .clo .. :: _, _, _, h, _ => by simp [flatK] at h
theorem semMany_len : ∀ {ss : List Srt} {as : List A}, as.length = ss.length → (semMany ss as).length = ss.length
  | [], [], _ => rfl
  | [], _ :: _, h => by simp at h
  | _ :: _, [], h => by simp at h
  | s :: ss, a :: as, h => by simp [semMany, semMany_len (ss := ss) (as := as) (by simpa using h)]
theorem flatMany_sound {ss : List Srt} : ∀ {m : Nat} {cs : List C} {ls : List L} {vs : List Value}, flatMany ss m cs = some ls → CsRel e n loc cs vs →
    ls.length = m * ss.length ∧ vs = semRows ss m (ls.map (L.ev e))
  | 0, [], ls, vs, h, hv => by
    simp [flatMany] at h
    subst h
    cases vs with
    | nil => exact ⟨by simp, rfl⟩
    | cons => exact hv.elim
  | 0, _ :: _, _, _, h, _ => by simp [flatMany] at h
  | m + 1, cs, ls, vs, h, hv => by
    simp only [flatMany, Option.bind_eq_bind, Option.bind_eq_some_iff, Option.some.injEq] at h
    obtain ⟨a, ha, r, hr, rfl⟩ := h
    have h1 := flatK_sound ha (CsRel_take hv ss.length)
    have h2 := flatMany_sound hr (CsRel_drop hv ss.length)
    refine ⟨by rw [List.length_append, h1.1, h2.1, Nat.succ_mul]; omega, ?_⟩
    rw [semRows, List.map_append, List.take_append_of_le_length (by simp [h1.1]), List.take_of_length_le (by simp [h1.1]), List.drop_append_of_le_length (by simp [h1.1]), List.drop_of_length_le (by simp [h1.1]), List.nil_append, ← h1.2.2, ← h2.2, List.take_append_drop]
theorem flatK_single : ∀ {ss : List Srt} {cs : List C} {ls : List L}, flatK ss cs = some ls → ss.all Srt.single = true
  | [], [], _, _ => rfl
  | s :: ss, .k x :: cs, ls, h => by
    simp only [flatK, Option.bind_eq_bind, Option.bind_eq_some_iff] at h
    obtain ⟨⟨u, y⟩, hx, h⟩ := h
    simp only at h
    split at h
    · rename_i hu
      simp only [Option.bind_eq_some_iff, Option.some.injEq] at h
      obtain ⟨r, hr, rfl⟩ := h
      have hus := Srt.same_eq hu
      subst hus
      simp only [List.all_cons, flatK_single hr, Bool.and_true]
      cases x <;> simp [K.srt] at hx <;> obtain ⟨rfl, rfl⟩ := hx <;> rfl
    · cases h
  | [], _ :: _, _, h => by simp [flatK] at h
  | _ :: _, [], _, h => by simp [flatK] at h
  | _ :: _, .clo .. :: _, _, h => by simp [flatK] at h
theorem flatMany_single {ss : List Srt} {m : Nat} {cs : List C} {ls : List L} (h : flatMany ss m cs = some ls) (hs : 0 < ss.length) (j : Nat) (hj : j < ls.length) : (ss.getD (j % ss.length) .bool).single = true := by
  cases m with
  | zero =>
    cases cs with
    | nil => simp [flatMany] at h; subst h; simp at hj
    | cons => simp [flatMany] at h
  | succ m =>
    simp only [flatMany, Option.bind_eq_bind, Option.bind_eq_some_iff] at h
    obtain ⟨a, ha, _⟩ := h
    have := flatK_single ha
    rw [List.all_eq_true] at this
    have hlt := Nat.mod_lt j hs
    rw [List.getD, List.getElem?_eq_getElem hlt]
    exact this _ (List.getElem_mem hlt)
theorem flatArg_sound {p : PS} {x : PV} {ls : List L} {v : Value} {w : World} (h : flatArg rows p x = some ls) (hcl : Cls e w0 loc rows w) (hx : x.rel e rows.length loc v) :
    OneArg w p v (ls.map (L.ev e)) := by
  have slc : ∀ (r m : Nat) (row : Row) (ss : List Srt) (off : Nat) (cs : List C) (ls' : List L) (cap : Nat), rows[r]? = some row → take? row.cells off (m * ss.length) = some cs → flatMany ss m cs = some ls' →
      v = .slice (some ⟨(loc r).blk, (loc r).off + off, none⟩) m cap → OneArg w (.slc ss) v ((L.n m :: ls').map (L.ev e)) := by
    intro r m row ss off cs ls' cap hrow hcs hls hv
    obtain ⟨us, u1, u2⟩ := cells_read (e := e) (n := rows.length) (loc := loc) (w := w) (b := (loc r).blk) (o := (loc r).off + off) (cs := cs) (fun j c hj => by
      obtain ⟨v, v1, v2⟩ := hcl.1.cell hrow (take?_get hcs hj)
      exact ⟨v, by rw [Nat.add_assoc]; exact v1, v2⟩)
    obtain ⟨f1, f2⟩ := flatMany_sound hls u1
    refine ⟨_, _, m, cap, ls'.map (L.ev e), hv, rfl, by simpa using f1, fun j u hu => ?_⟩
    rw [← f2] at hu
    exact u2 j u hu
  unfold flatArg at h
  split at h
  · rename_i s c
    cases hv1 : flatK [s] [c] with
    | none => rw [hv1] at h; cases h
    | some l =>
      rw [hv1] at h
      injection h with h
      subst h
      obtain ⟨h1, h2, h3⟩ := flatK_sound (vs := [v]) hv1 ⟨hx, trivial⟩
      obtain ⟨y, rfl⟩ : ∃ y, l = [y] := by
        match l, h1 with
        | [y], _ => exact ⟨y, rfl⟩
      refine ⟨by simp, ?_⟩
      simp only [Bool.false_eq_true, if_false]
      refine ⟨s, y.ev e, rfl, rfl, ?_⟩
      simpa [semMany] using h3
  · rename_i ss l
    obtain ⟨vs, rfl, hv⟩ := hx
    obtain ⟨h1, h2, h3⟩ := flatK_sound h hv
    refine ⟨by simpa using h1, ?_⟩
    simp only [if_true]
    rw [h3]
  · rename_i ss r off m
    simp only [Option.bind_eq_bind, Option.bind_eq_some_iff] at h
    obtain ⟨row, hrow, h⟩ := h
    split at h
    · cases h
    · rename_i hes
      simp only [bne_iff_ne, ne_eq, Decidable.not_not] at hes
      simp only [Option.bind_eq_some_iff, Option.some.injEq] at h
      obtain ⟨cs, hcs, ls', hls, rfl⟩ := h
      obtain ⟨r1, r2⟩ := rel_slc hx
      by_cases hne : row.cells.isEmpty = true
      · have hce : row.cells = [] := by simpa using hne
        obtain ⟨t1, t2, t3⟩ := take?_some hcs
        rw [hce] at t2
        simp at t2
        subst t2
        obtain ⟨f1, f2⟩ := flatMany_sound (vs := []) (e := e) (n := rows.length) (loc := loc) hls trivial
        exact ⟨_, _, m, _, ls'.map (L.ev e), r2, rfl, by simpa using f1, fun j u hu => by rw [← f2] at hu; simp at hu⟩
      · have hle := hcl.1.es hrow (by simpa using hne)
        rw [hle, hes] at r2
        exact slc r m row ss (off * ss.length) cs ls' _ hrow hcs hls r2
  · rename_i ss r off es m cap
    simp only [Option.bind_eq_bind, Option.bind_eq_some_iff] at h
    obtain ⟨row, hrow, h⟩ := h
    split at h
    · cases h
    · simp only [Option.bind_eq_some_iff, Option.some.injEq] at h
      obtain ⟨cs, hcs, ls', hls, rfl⟩ := h
      obtain ⟨r1, r2⟩ := rel_aslc hx
      exact slc r m row ss off cs ls' _ hrow hcs hls r2
  · injection h with h
    subst h
    exact ⟨rel_nilslc hx, rfl⟩
  · cases h
theorem semMany_semC : ∀ {ss : List Srt} {as : List A}, as.length = ss.length → semMany ss as = semC ss as := by
  intro ss as h
  apply List.ext_getElem?
  intro j
  rw [semC_get]
  have key : ∀ {ss : List Srt} {as : List A} (j : Nat), as.length = ss.length → (semMany ss as)[j]? = as[j]?.map fun a => (ss.getD j .bool).sem a := by
    intro ss
    induction ss with
    | nil =>
      intro as j h
      rw [List.eq_nil_of_length_eq_zero h]
      rfl
    | cons s ss ih =>
      intro as j h
      cases as with
      | nil => simp at h
      | cons a as =>
        cases j with
        | zero => rfl
        | succ j =>
          have := ih (as := as) j (by simpa using h)
          simpa [semMany] using this
  rw [key j h]
  by_cases hj : j < ss.length
  · rw [Nat.mod_eq_of_lt hj]
  · rw [List.getElem?_eq_none (by omega)]
    rfl
theorem semRows_semC {ss : List Srt} : ∀ {m : Nat} {as : List A}, as.length = m * ss.length → semRows ss m as = semC ss as
  | 0, as, h => by
    have : as = [] := List.eq_nil_of_length_eq_zero (by simpa using h)
    rw [this]
    rfl
  | m + 1, as, h => by
    rw [Nat.succ_mul] at h
    have h1 : (as.take ss.length).length = ss.length := by rw [List.length_take]; omega
    rw [semRows, semRows_semC (m := m) (by rw [List.length_drop]; omega), semMany_semC h1, ← semC_append (by rw [h1, Nat.mod_self]), List.take_append_drop]
theorem fsc_cells {w : World} {ss : List Srt} {as : List A} {b o m c : Nat} (hs : 0 < ss.length) (hl : as.length = m * ss.length) (hsg : ∀ j, j < as.length → (ss.getD (j % ss.length) .bool).single = true)
    (hc : ∀ (j : Nat) u, (semC ss as)[j]? = some u → w.cell? ⟨b, o + j, none⟩ = some u) : FSC w.cell? (.sl ss) (.l as) (.slice (some ⟨b, o, none⟩) m c) := by
  refine .sl hs hl semC_len hc fun j s a u h1 h2 h3 => ?_
  rw [semC_get, h2] at h3
  simp only [Option.map_some, Option.some.injEq] at h3
  have h4 : ss.getD (j % ss.length) .bool = s := by simp [List.getD, h1]
  rw [h4] at h3
  subst h3
  have := hsg j (lt_of_get h2)
  rw [h4] at this
  exact .sc this
theorem fsc_len {M : Addr → Option Value} {ss : List Srt} {as : List A} {b : Option Addr} {m c : Nat} (h : FSC M (.sl ss) (.l as) (.slice b m c)) : as.length = m * ss.length := by
  obtain ⟨as', m', c', b', h1, h2, h3, _⟩ := h.slice
  injection h1 with h1
  injection h2 with _ h2 _
  rw [h1, h2, h3]
theorem lst_fsc {w : World} {B r : Nat} {q : Lst} {m c : Nat} {a : Option Addr} (h : LstOK e loc w B r q) (hm : (q.n.ev e).int = m) (hv : (m ≠ 0 → a = some ⟨(loc r).blk, (loc r).off, none⟩)) (hv2 : q.own = false → (loc r).v = .slice a m c) : ∃ as, q.x.ev e = .l as ∧ 0 < q.ss.length ∧ FSC w.cell? (.sl q.ss) (.l as) (.slice a m c) := by
  obtain ⟨as, m', h1, h2, h3, h4, h5⟩ := h
  have : m' = m := by omega
  subst this
  refine ⟨as, h1, h4, ?_⟩
  by_cases hm0 : m' = 0
  · subst hm0
    have : as = [] := List.eq_nil_of_length_eq_zero (by simpa using h2)
    subst this
    exact .emp
  · rw [hv hm0]
    split at h5
    · obtain ⟨g0, h5⟩ := h5
      split at h5
      · exact absurd h5.1 hm0
      · obtain ⟨g1, g2, g3, sp, g4, g5⟩ := h5
        refine fsc_cells h4 h2 (fun j hj => ?_) fun j u hu => ?_
        · rw [List.all_eq_true] at g0
          have hlt := Nat.mod_lt j h4
          rw [List.getD, List.getElem?_eq_getElem hlt]
          exact g0 _ (List.getElem_mem hlt)
        · rw [g1]
          simp only [World.cell?, g4, Nat.zero_add]
          simp [List.getElem?_append_left (lt_of_get hu), hu]
    · rename_i ho
      obtain ⟨_, h6⟩ := h5
      rw [hv2 (by simpa using ho), hv hm0] at h6
      exact h6.mono fun x u hx => by
        unfold memB at hx
        split at hx
        · exact hx
        · cases hx
theorem listArg_sound {ss : List Srt} {p : PV} {ls : List L} {g' : G} (h : listArg rows ss p g = some (ls, g')) (hg : Good T e g') :
    Good T e g ∧ ∃ y k, ls = [y, k] ∧ ∀ (loc : Loc) (w : World) (v : Value), Cls e w0 loc rows w → p.rel e rows.length loc v → 0 < ss.length ∧ ∃ b m c, (k.ev e).int = (m : Nat) ∧ v = .slice b m c ∧ FSC w.cell? (.sl ss) (y.ev e) v := by
  unfold listArg at h
  split at h
  · rename_i r off m
    simp only [Option.bind_eq_bind, Option.bind_eq_some_iff] at h
    obtain ⟨row, hrow, h⟩ := h
    split at h
    · cases h
    · rename_i hes
      simp only [Bool.or_eq_true, bne_iff_ne, ne_eq, beq_iff_eq, not_or, Decidable.not_not] at hes
      simp only [Option.bind_eq_some_iff, Option.some.injEq, Prod.mk.injEq] at h
      obtain ⟨cs, hcs, ls', hls, rfl, rfl⟩ := h
      have hp := push_good hg
      refine ⟨hp.1, _, _, rfl, fun loc w v hcl hv => ⟨by omega, ?_⟩⟩
      obtain ⟨r1, r2⟩ := rel_slc hv
      have hy : (g.push .mkl ls').1.ev e = .l (ls'.map (L.ev e)) := hp.2 _ (by simp [D.ev])
      rw [hy]
      by_cases hm0 : m = 0
      · subst hm0
        obtain ⟨t1, t2, t3⟩ := take?_some hcs
        have : ls' = [] := by
          have h0 : cs = [] := List.eq_nil_of_length_eq_zero (by rw [t3]; simp)
          rw [h0] at hls
          simpa [flatMany] using hls.symm
        subst this
        exact ⟨_, 0, _, rfl, r2, by rw [r2]; exact .emp⟩
      · have hne : row.cells.isEmpty = false := by
          obtain ⟨t1, t2, t3⟩ := take?_some hcs
          cases hcc : row.cells with
          | nil =>
            rw [hcc] at t1
            have : 0 < m * ss.length := Nat.mul_pos (by omega) (by omega)
            simp at t1
            omega
          | cons => rfl
        have hle := hcl.1.es hrow hne
        obtain ⟨us, u1, u2⟩ := cells_read (e := e) (n := rows.length) (loc := loc) (w := w) (b := (loc r).blk) (o := (loc r).off + off * ss.length) (cs := cs) (fun j c hj => by
          obtain ⟨v, v1, v2⟩ := hcl.1.cell hrow (take?_get hcs hj)
          exact ⟨v, by rw [Nat.add_assoc]; exact v1, v2⟩)
        obtain ⟨f1, f2⟩ := flatMany_sound hls u1
        have f1' : (ls'.map (L.ev e)).length = m * ss.length := by simpa using f1
        rw [semRows_semC f1'] at f2
        refine ⟨_, m, _, rfl, r2, ?_⟩
        rw [r2, hle, hes.1]
        refine fsc_cells (by omega) f1' (fun j hj => ?_) fun j u hu => by rw [← f2] at hu; exact u2 j u hu
        exact flatMany_single hls (by omega) j (by simpa using hj)
  · split at h
    · cases h
    · rename_i hs
      simp only [Option.some.injEq, Prod.mk.injEq] at h
      obtain ⟨rfl, rfl⟩ := h
      refine ⟨hg, _, _, rfl, fun loc w v hcl hv => ⟨?_, none, 0, 0, rfl, rel_nilslc hv, by rw [rel_nilslc hv]; exact .emp⟩⟩
      have : ss.length ≠ 0 := by simpa using hs
      omega
  · simp only [Option.bind_eq_bind, Option.bind_eq_some_iff] at h
    obtain ⟨⟨r, k, q⟩, hq, h⟩ := h
    simp only at h
    split at h
    · cases h
    · rename_i hs
      have hs := srtsSame_eq (by simpa using hs)
      subst hs
      simp only [Option.some.injEq, Prod.mk.injEq] at h
      obtain ⟨rfl, rfl⟩ := h
      refine ⟨hg, _, _, rfl, fun loc w v hcl hv => ?_⟩
      obtain ⟨r1, _, r2, r3, m, a, c, r4, r5, r6⟩ := lstOf_sound hq hcl.1 hv
      rw [r3] at r4
      subst r5
      obtain ⟨as, h1, h2, h3⟩ := lst_fsc (a := a) (m := m) (c := c) r2 r4 r6 (fun ho => by
        unfold lstOf at hq
        split at hq
        · simp only [Option.bind_eq_bind, Option.bind_eq_some_iff] at hq
          obtain ⟨row, _, q', _, hq⟩ := hq
          split at hq
          · rename_i hc
            simp only [Option.some.injEq, Prod.mk.injEq] at hq
            obtain ⟨_, _, rfl⟩ := hq
            rw [ho] at hc
            simp at hc
          · cases hq
        · simp only [Option.bind_eq_bind, Option.bind_eq_some_iff] at hq
          obtain ⟨row, _, q', _, hq⟩ := hq
          split at hq
          · simp only [Option.some.injEq, Prod.mk.injEq] at hq
            obtain ⟨rfl, _, rfl⟩ := hq
            rcases hv.2.2 with hv | hv
            · cases hv
            · exact hv.symm
          · cases hq
        · cases hq)
      exact ⟨h2, a, m, c, r4, rfl, by rw [h1]; exact h3⟩
theorem flatArgG_sound {p : PS} {x : PV} {ls : List L} {g' : G} (h : flatArgG rows p x g = some (ls, g')) (hg : Good T e g') :
    Good T e g ∧ ∀ (loc : Loc) (w : World) (v : Value), Cls e w0 loc rows w → x.rel e rows.length loc v → OneArg w p v (ls.map (L.ev e)) := by
  unfold flatArgG at h
  split at h
  · obtain ⟨h1, y, k, rfl, h2⟩ := listArg_sound (w0 := w0) h hg
    refine ⟨h1, fun loc w v hcl hv => ?_⟩
    obtain ⟨h3, b, m, c, h4, h5, h6⟩ := h2 loc w v hcl hv
    exact ⟨_, _, b, m, c, rfl, h4, h5, h3, h6⟩
  · simp only [Option.bind_eq_bind, Option.bind_eq_some_iff, Option.some.injEq, Prod.mk.injEq] at h
    obtain ⟨x', hx, rfl, rfl⟩ := h
    exact ⟨hg, fun loc w v hcl hv => flatArg_sound hx hcl hv⟩
theorem flatArgs_sound : ∀ {ps : List PS} {xs : List PV} {ls : List L} {g g' : G}, flatArgs rows ps xs g = some (ls, g') → Good T e g' →
    Good T e g ∧ ∀ (loc : Loc) (w : World) (vs : List Value), Cls e w0 loc rows w → PVsRel e rows.length loc xs vs → ArgsRel w ps vs (ls.map (L.ev e))
  | [], [], ls, g, g', h, hg => by
    simp only [flatArgs, Option.some.injEq, Prod.mk.injEq] at h
    obtain ⟨rfl, rfl⟩ := h
    refine ⟨hg, fun loc w vs hcl hv => ?_⟩
    cases vs with
    | nil => exact ⟨rfl, rfl⟩
    | cons => exact hv.elim
  | p :: ps, x :: xs, ls, g, g', h, hg => by
    simp only [flatArgs, Option.bind_eq_bind, Option.bind_eq_some_iff] at h
    obtain ⟨⟨a, g1⟩, ha, ⟨r, g2⟩, hr, h⟩ := h
    simp only [Option.some.injEq, Prod.mk.injEq] at h
    obtain ⟨rfl, rfl⟩ := h
    obtain ⟨h1, h2⟩ := flatArgs_sound hr hg
    obtain ⟨h3, h4⟩ := flatArgG_sound (w0 := w0) ha h1
    refine ⟨h3, fun loc w vs hcl hv => ?_⟩
    cases vs with
    | nil => exact hv.elim
    | cons v vs => exact ⟨v, vs, a.map (L.ev e), r.map (L.ev e), rfl, by simp, h4 loc w v hcl hv.1, h2 loc w vs hcl hv.2⟩
  | [], _ :: _, _, _, _, h, _ => by simp [flatArgs] at h
  | _ :: _, [], _, _, _, h, _ => by simp [flatArgs] at h
theorem varsK_rel : ∀ {ss : List Srt} {as : List A} {b : Nat}, as.length = ss.length → (∀ j a, as[j]? = some a → e (b + j) = a) → CsRel e n loc (varsK ss b) (semMany ss as)
  | [], [], _, _, _ => trivial
  | [], _ :: _, _, h, _ => by simp at h
  | _ :: _, [], _, h, _ => by simp at h
  | s :: ss, a :: as, b, h, hh => ⟨mk_of_sem (by simpa using hh 0 a rfl), varsK_rel (by simpa using h) fun j x hx => by
      have := hh (j + 1) x (by simpa using hx)
      rwa [show b + 1 + j = b + (j + 1) by omega]⟩
theorem kList_rel : ∀ {ss : List Srt} {ls : List L}, ls.length = ss.length → CsRel e n loc (kList ss ls) (semMany ss (ls.map (L.ev e)))
  | [], [], _ => trivial
  | [], _ :: _, h => by simp at h
  | _ :: _, [], h => by simp at h
  | s :: ss, l :: ls, h => ⟨mk_of_sem rfl, kList_rel (by simpa using h)⟩
theorem resLs_sound : ∀ {rs : List (Bool × List Srt)} {ls : List L} {ps : List PV} {vs : List Value}, resLs rs ls = some ps → ResList rs (ls.map (L.ev e)) vs → PVsRel e n loc ps vs
  | [], [], ps, vs, h, hr => by
    simp [resLs] at h
    subst h
    rw [hr.2]
    trivial
  | [], _ :: _, ps, vs, h, hr => by simp [resLs] at h
  | (agg, ss) :: rs, ls, ps, vs, h, hr => by
    simp only [resLs, Option.bind_eq_bind] at h
    split at h
    · cases h
    · rename_i hlen
      simp only [Option.bind_eq_some_iff, Option.some.injEq] at h
      obtain ⟨p, hp, r, hr2, rfl⟩ := h
      obtain ⟨v, vr, a1, a2, rfl, he, h1, h2⟩ := hr
      have hl : a1.length = ss.length := h1.1
      have htd : ls.map (L.ev e) = (ls.take ss.length).map (L.ev e) ++ (ls.drop ss.length).map (L.ev e) := by rw [← List.map_append, List.take_append_drop]
      rw [htd] at he
      have hlt : (ls.take ss.length).length = ss.length := by rw [List.length_take]; omega
      obtain ⟨rfl, rfl⟩ := List.append_inj he (by rw [hl, List.length_map, hlt])
      have hv := kList_rel (e := e) (n := n) (loc := loc) hlt
      refine ⟨?_, resLs_sound hr2 h2⟩
      rcases mkPV_some hp with ⟨ha, rfl⟩ | ⟨ha, c, hc, rfl⟩
      · have h3 := h1.2
        rw [if_pos ha] at h3
        exact ⟨_, h3, hv⟩
      · have h3 := h1.2
        rw [if_neg (by simp [ha])] at h3
        obtain ⟨s, a, q1, q2, q3⟩ := h3
        simp only at q1
        subst q1
        rw [hc, q2] at hv
        rw [q3]
        exact hv.1
theorem resPV_sound : ∀ {rs : List (Bool × List Srt)} {b b' : Nat} {ps : List PV} {as : List A} {vs : List Value}, resPV rs b = some (ps, b') → ResList rs as vs → (∀ j a, as[j]? = some a → e (b + j) = a) →
    PVsRel e n loc ps vs
  | [], b, b', ps, as, vs, h, hr, hh => by
    simp [resPV] at h
    obtain ⟨rfl, rfl⟩ := h
    rw [hr.2]
    trivial
  | (agg, ss) :: rs, b, b', ps, as, vs, h, hr, hh => by
    simp only [resPV, Option.bind_eq_bind, Option.bind_eq_some_iff, Option.some.injEq, Prod.mk.injEq] at h
    obtain ⟨p, hp, ⟨r, b2⟩, hr2, rfl, rfl⟩ := h
    obtain ⟨v, vr, a1, a2, rfl, rfl, h1, h2⟩ := hr
    have hl : a1.length = ss.length := h1.1
    have hv := varsK_rel (e := e) (n := n) (loc := loc) (b := b) hl (fun j a hj => hh j a (by rw [List.getElem?_append_left (lt_of_get hj)]; exact hj))
    refine ⟨?_, resPV_sound hr2 h2 fun j a hj => ?_⟩
    · rcases mkPV_some hp with ⟨ha, rfl⟩ | ⟨ha, c, hc, rfl⟩
      · have h3 := h1.2
        rw [if_pos ha] at h3
        exact ⟨_, h3, hv⟩
      · have h3 := h1.2
        rw [if_neg (by simp [ha])] at h3
        obtain ⟨s, a, q1, q2, q3⟩ := h3
        simp only at q1
        subst q1
        subst q2
        rw [hc] at hv
        rw [q3]
        exact hv.1
    · have := hh (ss.length + j) a (by rw [List.getElem?_append_right (by omega), hl]; simpa using hj)
      rwa [Nat.add_assoc]
end
end Rx
namespace Rx
open Go Go.RowKit
def InlOK (P : Program) (T : Nat → List A → Bool × List A) (e : Nat → A) (w0 : World) (inl : Inline) : Prop :=
  ∀ (f : Nat) (args : List PV) (rows : List Row) (pc : L) (g : G) (v : SV) (rows' : List Row) (g' : G), inl f args rows pc g = some (v, rows', g') → Good T e g' → Good T e g ∧
    ∀ (loc : Loc) (vs : List Value) (w : World), (pc.ev e).bool = true → PVsRel e rows.length loc args vs → Cls e w0 loc rows w →
      Calls P f vs.toArray w fun en w' => ∃ u, en = .returned u ∧ ∃ loc', LExt rows.length loc loc' ∧ rows.length ≤ rows'.length ∧ v.rel e rows'.length loc' u ∧ Cls e w0 loc' rows' w'
section
variable {T : Nat → List A → Bool × List A} {e : Nat → A} {n n' : Nat} {loc loc' : Loc} {P : Program} {X : Ctx} {w0 : World}
variable {fr : List SV} {rows : List Row} {gs : List (L × Bool)} {pc : L} {o : Oper} {g : G} {inl : Inline}
theorem KsRel_one : ∀ {l : List K} {vs : List Value}, KsRel e n loc l vs → PVsRel e n loc (l.map fun x => .one (.k x)) vs
  | [], [], _ => trivial
  | _ :: _, _ :: _, h => ⟨h.1, KsRel_one h.2⟩
theorem PVsRel_append : ∀ {l : List PV} {m : List Value} {l' : List PV} {m' : List Value}, PVsRel e n loc l m → PVsRel e n loc l' m' → PVsRel e n loc (l ++ l') (m ++ m')
  | [], [], _, _, _, h => h
  | _ :: _, _ :: _, _, _, h, h' => ⟨h.1, PVsRel_append h.2 h'⟩
theorem retSV_rel {ps : List PV} {vs : List Value} (h : PVsRel e n loc ps vs) : (retSV ps).rel e n loc (retVal vs) := by
  match ps, vs, h with
  | [], [], _ => exact ⟨[], rfl, trivial⟩
  | [p], [v], h => exact h.1
  | p :: q :: ps, v :: u :: vs, h => exact ⟨v :: u :: vs, rfl, h⟩
  | [_], _ :: _ :: _, h => exact h.2.elim
  | _ :: _ :: _, [_], h => exact h.2.elim
theorem agree_lits (ls : List L) : Agree (ls.map litOf) (ls.map (L.ev e)) := by
  refine ⟨by simp, fun j x hx a ha => ?_⟩
  rw [List.getElem?_map] at hx ha
  cases hl : ls[j]? with
  | none => rw [hl] at hx; cases hx
  | some l =>
    rw [hl] at hx ha
    simp only [Option.map_some, Option.some.injEq] at hx ha
    unfold litOf at hx
    split at hx
    · injection hx with hx
      subst hx
      exact ha.symm
    · cases hx
theorem callCtr_sound {c : Ctr} {args ps : List PV} {g' : G} (hctr : CtrOK P T c) (hcall : callCtr c args rows pc g = some (ps, g')) (hg : Good T e g') :
    Good T e g ∧ ∀ (loc : Loc) (vs : List Value), (pc.ev e).bool = true → PVsRel e rows.length loc args vs → (∃ w, Cls e w0 loc rows w) →
      ∃ u, (retSV ps).rel e rows.length loc u ∧ ∀ w, Cls e w0 loc rows w → Calls P c.f vs.toArray w fun en w' => en = .returned u ∧ Below w.heap.size w w' := by
  simp only [callCtr, Option.bind_eq_bind, Option.bind_eq_some_iff] at hcall
  obtain ⟨⟨ls, g0⟩, hls, hcall⟩ := hcall
  simp only at hcall
  split at hcall
  · cases hcall
  · rename_i hok
    have fa : Good T e g0 → Good T e g ∧ ∀ (loc : Loc) (w : World) (vs : List Value), Cls e w0 loc rows w → PVsRel e rows.length loc args vs → ArgsRel w c.ps vs (ls.map (L.ev e)) := fun hg => flatArgs_sound hls hg
    have key : Good T e g0 → ∀ (loc : Loc) (vs : List Value), PVsRel e rows.length loc args vs → (T c.f (ls.map (L.ev e))).1 = true → (∃ w, Cls e w0 loc rows w) →
        (∀ us, ResList c.rs (T c.f (ls.map (L.ev e))).2 us → PVsRel e rows.length loc ps us) →
        ∃ u, (retSV ps).rel e rows.length loc u ∧ ∀ w, Cls e w0 loc rows w → Calls P c.f vs.toArray w fun en w' => en = .returned u ∧ Below w.heap.size w w' := by
      intro hg0 loc vs hvs hpre ⟨w1, hw1⟩ hres
      have hcalls : ∀ w, Cls e w0 loc rows w → Calls P c.f vs.toArray w fun en w' => ∃ u, en = .returned u ∧ ResRel c.rs (T c.f (ls.map (L.ev e))).2 u ∧ Below w.heap.size w w' := fun w hw =>
        hctr (ls.map litOf) (ls.map (L.ev e)) vs w (by simpa using hok) (agree_lits ls) ((fa hg0).2 loc w vs hw hvs) hpre
      obtain ⟨_, _, _, ⟨u, _, hu, _⟩, _⟩ := hcalls w1 hw1 []
      refine ⟨u, ?_, fun w hw => (hcalls w hw).mono ?_⟩
      · obtain ⟨us, hus, rfl⟩ := hu
        exact retSV_rel (hres us hus)
      · rintro en w' ⟨u', rfl, hu', hb⟩
        exact ⟨by rw [hu.unique hu'], hb⟩
    split at hcall
    · rename_i o res hf
      simp only [Option.bind_eq_some_iff, Option.some.injEq, Prod.mk.injEq] at hcall
      obtain ⟨ps', hres, rfl, rfl⟩ := hcall
      have hmust := must_good hg
      refine ⟨(fa hmust.1).1, fun loc vs hpc hvs hw => ?_⟩
      have hk := findK_good hf hmust.1.2.2
      simp only [D.ev, List.map_cons, List.cons.injEq] at hk
      have hpre : (T c.f (ls.map (L.ev e))).1 = true := by
        have h1 := hmust.2 hpc
        rw [← hk.1] at h1
        exact h1
      exact key hmust.1 loc vs hvs hpre hw fun us hus => resLs_sound hres (by rw [hk.2] at hus; exact hus)
    · simp only [Option.bind_eq_some_iff, Option.some.injEq, Prod.mk.injEq] at hcall
      obtain ⟨⟨ps', b⟩, hres, rfl, rfl⟩ := hcall
      have hmust := must_good hg
      have hgood := pushN_good hmust.1
      refine ⟨(fa hgood.1).1, fun loc vs hpc hvs hw => ?_⟩
      have hpre : (T c.f (ls.map (L.ev e))).1 = true := by
        have h1 := hmust.2 hpc
        have h2 := hgood.2 0 _ rfl
        simp only [G.pushN, Nat.add_zero] at h2
        rw [L.ev_var, h2] at h1
        exact h1
      exact key hgood.1 loc vs hvs hpre hw fun us hus => resPV_sound hres hus fun j a hj => by
        have := hgood.2 (j + 1) a (by simpa [D.ev] using hj)
        simpa [G.pushN, Nat.add_assoc, Nat.add_comm 1 j] using this
theorem callAny_sound {f : Nat} {args ps : List PV} {g' : G} : ∀ {l : List (Nat × Ctr)}, CtrsOK P T l → callAny f args rows pc g l = some (ps, g') → Good T e g' →
    Good T e g ∧ ∀ (loc : Loc) (vs : List Value), (pc.ev e).bool = true → PVsRel e rows.length loc args vs → (∃ w, Cls e w0 loc rows w) →
      ∃ u, (retSV ps).rel e rows.length loc u ∧ ∀ w, Cls e w0 loc rows w → Calls P f vs.toArray w fun en w' => en = .returned u ∧ Below w.heap.size w w'
  | (f', c) :: l, hC, h, hg => by
    unfold callAny at h
    have hl : CtrsOK P T l := fun x hx => hC x (by simp [hx])
    split at h
    · rename_i hf
      have hf : f' = f := by simpa using hf
      subst hf
      obtain ⟨h1, h2⟩ := hC (f', c) (by simp)
      simp only at h1 h2
      subst h1
      split at h
      · rename_i r hr
        injection h with h
        subst h
        exact callCtr_sound h2 hr hg
      · exact callAny_sound hl h hg
    · exact callAny_sound hl h hg
theorem callFn_sound {f : Nat} {args : List PV} (hC : CtrsOK P T X.ctr) (hF : FnsOK P X.fns) (hI : InlOK P T e w0 inl)
    (hrun : ∀ (fn : Func) (loc : Loc) (a : Act), P.funcs[f]? = some fn → (fn.name == "runtime.NumGoroutine") = false → fn.body.isSome = true → Holds e gs → FrRel e rows.length loc fr a.tmps →
      ∃ vs, PVsRel e rows.length loc args vs ∧ ∀ w, (Go.execOp a.eval o).run P w = .ok (.enter f vs.toArray) w) :
    OpOK P T e w0 fr rows gs pc o g (callFn X inl f args rows pc g) := by
  unfold callFn
  split
  · trivial
  · rename_i hfn
    obtain ⟨fn, hfn⟩ : ∃ fn, X.fns f = some fn := by
      cases h : X.fns f with
      | none => rw [h] at hfn; simp at hfn
      | some fn => exact ⟨fn, rfl⟩
    obtain ⟨f1, f2, f3⟩ := hF f fn hfn
    split
    · simp only [Option.bind_eq_bind]
      cases hcall : callAny f args rows pc g X.ctr with
      | none => trivial
      | some r =>
        obtain ⟨ps, g'⟩ := r
        simp only [Option.bind_some]
        intro hg
        obtain ⟨h1, h2⟩ := callAny_sound (w0 := w0) hC hcall hg
        refine ⟨h1, fun loc a w1 hpc hgs hfr hw1 => ?_⟩
        obtain ⟨vs, hvs, hr⟩ := hrun fn loc a f1 f2 f3 hgs hfr
        obtain ⟨u, hu, hcalls⟩ := h2 loc vs hpc hvs ⟨w1, hw1⟩
        refine ⟨u, hu, fun w hw => .inr ⟨f, vs.toArray, hr w, (hcalls w hw).mono ?_⟩⟩
        rintro en w' ⟨rfl, hb⟩
        exact ⟨rfl, hw.of_below hb⟩
    · simp only [Option.bind_eq_bind]
      cases hi : inl f args rows pc g with
      | none => trivial
      | some r =>
        obtain ⟨v, rows', g'⟩ := r
        simp only [Option.bind_some]
        intro hg
        obtain ⟨h1, h2⟩ := hI f args rows pc g v rows' g' hi hg
        refine ⟨h1, fun loc a w hpc hgs hfr hw => ?_⟩
        obtain ⟨vs, hvs, hr⟩ := hrun fn loc a f1 f2 f3 hgs hfr
        exact .inr ⟨f, vs.toArray, hr w, h2 loc vs w hpc hvs hw⟩
theorem rel_str {x : L} {v : Value} (hr : (PV.one (.k (.str x))).rel e n loc v) : v = .string (x.ev e).str := by
  rcases hr.2.2 with h1 | h1
  · cases h1
  · exact h1
theorem rel_val {x : L} {v : Value} (hr : (PV.one (.k (.val x))).rel e n loc v) : v = sliceV (x.ev e).val := by
  rcases hr.2.2 with h1 | h1
  · cases h1
  · exact h1
theorem lenV_slice (v : Value) : ∃ a m c, sliceV v = .slice a m c ∧ lenV v = (m : Int) := by
  unfold sliceV lenV
  split
  · exact ⟨_, _, _, rfl, rfl⟩
  · rename_i h
    exact ⟨none, 0, 0, rfl, rfl⟩
theorem PVsRel_single {p : PV} {vs : List Value} (h : PVsRel e n loc [p] vs) : ∃ v, vs = [v] ∧ p.rel e n loc v := by
  match vs, h with
  | [v], h => exact ⟨v, rfl, h.1⟩
  | _ :: _ :: _, h => exact h.2.elim
theorem PVsRel_two {p q : PV} {vs : List Value} (h : PVsRel e n loc [p, q] vs) : ∃ v u, vs = [v, u] ∧ p.rel e n loc v ∧ q.rel e n loc u := by
  match vs, h with
  | [v, u], h => exact ⟨v, u, rfl, h.1, h.2.1⟩
  | [_], h => exact h.2.elim
  | _ :: _ :: _ :: _, h => exact h.2.2.elim
theorem appendC_some {u es by_ : Nat} {p q : PV} {v : SV} {g' : G} (h : appendC rows u es by_ p q g = some (v, none, g')) : False := by
  unfold appendC at h
  simp only [Option.bind_eq_bind, Option.bind_eq_some_iff] at h
  obtain ⟨⟨m, news⟩, _, h⟩ := h
  simp only at h
  split at h
  · cases h
  · split at h
    · split at h
      · cases h
      · simp at h
    · simp only [Option.bind_eq_some_iff] at h
      obtain ⟨row, _, h⟩ := h
      split at h
      · cases h
      · simp at h
    · cases h
theorem appendC_g {u es by_ : Nat} {p q : PV} {v : SV} {r : Option (List Row)} {g' : G} (h : appendC rows u es by_ p q g = some (v, r, g')) : g' = g := by
  unfold appendC at h
  simp only [Option.bind_eq_bind, Option.bind_eq_some_iff] at h
  obtain ⟨⟨m, news⟩, _, h⟩ := h
  simp only at h
  split at h
  · cases h
  · split at h
    · split at h
      · cases h
      · simp only [Option.some.injEq, Prod.mk.injEq] at h; exact h.2.2.symm
    · simp only [Option.bind_eq_some_iff] at h
      obtain ⟨row, _, h⟩ := h
      split at h
      · cases h
      · simp only [Option.some.injEq, Prod.mk.injEq] at h; exact h.2.2.symm
    · cases h
theorem rel_lsl_len {r : Nat} {k : L} {v : Value} (h : (PV.one (.k (.lsl r k))).rel e n loc v) : ∃ (m : Nat) (a : Option Addr) (c : Nat), (k.ev e).int = m ∧ v = .slice a m c := by
  obtain ⟨h1, _, h3⟩ := h
  simp only [K.ok] at h1
  obtain ⟨m, hm⟩ := Int.eq_ofNat_of_zero_le h1.2.1
  rcases h3 with h3 | h3
  · cases h3
  · cases he : (loc r).emp
    · simp only [K.sem, he, Bool.false_eq_true, if_false, hm] at h3
      exact ⟨m, some ⟨(loc r).blk, (loc r).off, none⟩, (loc r).cap, hm, by rw [h3]; simp⟩
    · obtain ⟨ha, hz⟩ := h1.2.2 he
      simp only [K.sem, he, if_true] at h3
      have : m = 0 := by omega
      subst this
      exact ⟨0, none, 0, hm, by rw [h3, ha]⟩
theorem rel_fsl_len {r : Nat} {k : L} {v : Value} (h : (PV.one (.k (.fsl r k))).rel e n loc v) : ∃ (m : Nat) (a : Option Addr) (c : Nat), (k.ev e).int = m ∧ v = .slice a m c := by
  obtain ⟨h1, _, h3⟩ := h
  simp only [K.ok] at h1
  obtain ⟨_, h4, a, c, h5⟩ := h1
  obtain ⟨m, hm⟩ := Int.eq_ofNat_of_zero_le h4
  rcases h3 with h3 | h3
  · cases h3
  · simp only [K.sem] at h3
    rw [h5, hm] at h3
    exact ⟨m, a, c, hm, by simpa using h3⟩
theorem RowsOK.keep {rows : List Row} {B : Nat} {w w' : World} (h : RowsOK e loc rows w B) (hw : ∀ k, k < B → w'.heap[k]? = w.heap[k]?)
    (ho : ∀ s y, rows[s]? = some y → (y.own = true ∨ lOwn loc s y) → w'.heap[(loc s).blk]? = w.heap[(loc s).blk]?) : RowsOK e loc rows w' B := by
  refine ⟨fun r x hr => ?_, fun r x q hr hq => ?_, h.lapart, h.apart⟩
  · have hrow := h.row r x hr
    unfold RowOK at hrow ⊢
    split
    · rename_i ox
      rw [if_pos ox] at hrow
      obtain ⟨a1, a2, a3, a4, vs', sp', a5, a6, a7⟩ := hrow
      exact ⟨a1, a2, a3, a4, vs', sp', (ho r x hr (.inl ox)).trans a5, a6, a7⟩
    · rename_i ox
      rw [if_neg ox] at hrow
      intro hc'
      obtain ⟨a1, a2, a3⟩ := hrow hc'
      refine ⟨a1, a2, fun j c hj => ?_⟩
      obtain ⟨v, hv, hvr⟩ := a3 j c hj
      exact ⟨v, (World.cell?_of_block (w := w) (hw _ a2)).trans hv, hvr⟩
  · obtain ⟨k1, k2⟩ := h.lst r x q hr hq
    exact ⟨k1, k2.keep (fun h1 h2 => ho r x hr (.inr ⟨q, hq, h1, h2⟩)) hw⟩
theorem appendL_some {u es by_ : Nat} {p q : PV} {v : SV} {g' : G} (h : appendL rows u es by_ p q pc g = some (v, none, g')) : False := by
  unfold appendL at h
  split at h
  · simp only [Option.bind_eq_bind, Option.bind_eq_some_iff] at h
    obtain ⟨row, _, a, _, h⟩ := h
    split at h
    · cases h
    · simp only [Option.bind_eq_some_iff] at h
      obtain ⟨⟨l, g1⟩, _, h⟩ := h
      simp only at h
      split at h
      · simp at h
      · cases h
  · cases h
theorem appendL_sound {t ty2 u : TypeId} {tu : Ty} {p q : PV} {v : SV} {rows' : List Row} {g' : G} (htu : TyOK P u tu) (hun : P.underlying t = some (.slice u))
    (h : appendL rows u tu.size tu.bytes p q pc g = some (v, some rows', g')) (hg : Good T e g') : Good T e g ∧
    ∀ (loc : Loc) (w : World) (vp vq : Value), (pc.ev e).bool = true → Cls e w0 loc rows w → p.rel e rows.length loc vp → q.rel e rows.length loc vq →
      ∃ x w', (Builtin.append_ #[t, t] ty2 #[vp, vq]).run P w = .ok x w' ∧ ∃ loc', LExt rows.length loc loc' ∧ rows.length ≤ rows'.length ∧ v.rel e rows'.length loc' x ∧ Cls e w0 loc' rows' w' := by
  obtain ⟨i, z, i1, i2, i3, i4, i5, i6⟩ := htu.info
  unfold appendL at h
  split at h
  · rename_i r k
    simp only [Option.bind_eq_bind, Option.bind_eq_some_iff] at h
    obtain ⟨row, hrow, a, ha, h⟩ := h
    split at h
    · cases h
    · rename_i hc
      simp only [Bool.or_eq_true, Bool.not_eq_true', bne_iff_ne, ne_eq, beq_iff_eq, decide_eq_true_eq, not_or, Decidable.not_not, Bool.not_eq_false, Nat.not_lt] at hc
      obtain ⟨⟨⟨⟨⟨c1, c2⟩, c3⟩, c4⟩, c5⟩, c6⟩ := hc
      have c4 := L.same_eq c4
      simp only [Option.bind_eq_some_iff] at h
      obtain ⟨⟨l, g1⟩, hl, h⟩ := h
      simp only at h
      split at h
      · rename_i y k2
        simp only [Option.some.injEq, Prod.mk.injEq] at h
        obtain ⟨rfl, rfl, rfl⟩ := h
        have hmu := must_good hg
        have hin := mkInL_good hmu.1
        have hmu1 := must_good hin.1
        have hle1 := mkCmp_good hmu1.1
        have hlln := push_good hle1.1
        have hcat := push_good hlln.1
        obtain ⟨la, y', k', hyk, lb⟩ := listArg_sound (w0 := w0) hl hcat.1
        simp only [List.cons.injEq, and_true] at hyk
        obtain ⟨rfl, rfl⟩ := hyk
        refine ⟨la, fun loc w vp vq hpc hcl hp hq => ?_⟩
        have hone : (1 : Int) ≤ (k2.ev e).int := by
          have := hmu1.2 hpc
          rw [hle1.2] at this
          exact of_decide_eq_true this
        obtain ⟨hb0, hb1⟩ := hin.2.1 (hmu.2 hpc)
        have hkill := hcl.1.kill r
        obtain ⟨_, qb, m, qc, hkm, rfl, hfsc⟩ := lb loc w vq ⟨hkill, hcl.2⟩ (by rw [List.length_set]; exact hq)
        -- the list
        have hLst := (hcl.1.lst r row a hrow ha).2
        have hLst' := hLst
        obtain ⟨as, na, l1, l2, l3, l4, l5⟩ := hLst
        rw [if_pos c1] at l5
        obtain ⟨hsg, l5⟩ := l5
        have hr1 : r < rows.length := lt_of_get hrow
        have hown : w.ownsRow w0.heap.size u tu.size vp na (semC a.ss as) := by
          have hlen : (semC a.ss as).length = na * tu.size := by rw [semC_len, l2, c3]
          refine ⟨hlen, ?_⟩
          obtain ⟨h1, _, h3⟩ := hp
          simp only [K.ok] at h1
          rcases h3 with h3 | h3
          · cases h3
          · cases he : (loc r).emp
            · simp only [K.sem, he, Bool.false_eq_true, if_false] at h3
              rw [if_neg (by simp [he])] at l5
              obtain ⟨g1, g2, g3, sp, g4, g5⟩ := l5
              have hk : (k.ev e).int = na := by rw [c4]; exact l3
              have hcap : na ≤ (loc r).cap := by
                have : na * tu.size ≤ (loc r).cap * tu.size := by rw [← c3, ← g5, List.length_append, semC_len, l2]; omega
                exact Nat.le_of_mul_le_mul_right this (by omega)
              refine .inr ⟨(loc r).blk, (loc r).cap, (semC a.ss as ++ sp).toArray, by rw [h3, g1, hk]; simp, g2, by rw [g4, c2], hcap, g3, by rw [← c3, ← g5]; simp, ?_⟩
              rw [← hlen]
              simp
            · obtain ⟨hv, hz⟩ := h1.2.2 he
              simp only [K.sem, he, if_true] at h3
              refine .inl ⟨by rw [h3, hv], ?_⟩
              rw [c4, l3] at hz
              omega
        -- what is appended
        have hm1 : m ≠ 0 := by omega
        obtain ⟨bs, m', qc', qb', e1, e2, e3, e4⟩ := hfsc.slice
        injection e2 with e2a e2b e2c
        subst e2b
        rw [e1] at hfsc
        cases hfsc with
        | sc h => simp [Srt.single] at h
        | emp => exact absurd rfl hm1
        | sl k0 k1 k2' k3 k4 =>
          rename_i us b o
          have hus : us = semC a.ss bs := by
            apply List.ext_getElem?
            intro j
            rw [semC_get]
            by_cases hj : j < bs.length
            · have hu : us[j]? = some (us[j]'(by omega)) := List.getElem?_eq_getElem (by omega)
              have hb : bs[j]? = some (bs[j]'hj) := List.getElem?_eq_getElem hj
              have hlt := Nat.mod_lt j l4
              have hs : a.ss[j % a.ss.length]? = some (a.ss[j % a.ss.length]'hlt) := List.getElem?_eq_getElem hlt
              have hf := (k4 j _ _ _ hs hb hu).single (by rw [List.all_eq_true] at hsg; exact hsg _ (List.getElem_mem hlt))
              rw [hu, hb, hf]
              simp [List.getD, hs]
            · rw [List.getElem?_eq_none (by omega), List.getElem?_eq_none (by omega)]
              rfl
          have hul : us.length = m * tu.size := by rw [k2', k1, c3]
          have hcatev : (g1.push .cat [a.x, y]).1.ev e = .l (as ++ bs) := hcat.2 _ (by simp [D.ev, l1, e1])
          have hkev : ((g1.push .cat [a.x, y]).2.push (.lln tu.size) [(g1.push .cat [a.x, y]).1]).1.ev e = .i ((na + m : Nat) : Int) := by
            have hq : (as ++ bs).length / tu.size = na + m := by
              rw [List.length_append, l2, k1, c3, ← Nat.add_mul]
              exact Nat.mul_div_cancel _ (by omega)
            rw [lln_ev hle1.1 hcatev, hq]
          rw [hkev] at hb1
          simp only [A.int_i, L.ev_n] at hb1
          have hnm : na + m ≤ 1000000 := by omega
          have hmul : (na + m) * tu.bytes ≤ 140737488355328 := by
            calc (na + m) * tu.bytes ≤ 1000000 * 1000 := Nat.mul_le_mul hnm (by omega)
              _ ≤ 140737488355328 := by decide
          obtain ⟨x, w', h1, h2, h3, h4, h5⟩ := run_append_own_at (P := P) w w0.heap.size t ty2 u i z tu.size tu.bytes hun i1 i4 i2 i3 i5 (by omega) vp na _ hown ⟨b, o, none⟩ m qc us hul
            (fun j u' hj => by rw [addr_add]; exact k3 j u' hj) (fun u' hu' => by
              rw [hus] at hu'
              obtain ⟨j, hj, hj2⟩ := List.mem_iff_getElem.1 hu'
              have := semC_get (ss := a.ss) (as := bs) j
              rw [List.getElem?_eq_getElem hj, hj2] at this
              cases hb : bs[j]? with
              | none => rw [hb] at this; cases this
              | some bb =>
                rw [hb] at this
                simp only [Option.map_some, Option.some.injEq] at this
                rw [this]
                exact sem_one _ _) (by simp only [maxLen]; omega) hmul hcl.le
          obtain ⟨g1', g2⟩ := h2
          rcases g2 with ⟨_, g2⟩ | ⟨gb, cap, cur, rfl, gB, gh, gk, gc, gs, gt⟩
          · omega
          · rw [hus, ← semC_append (by rw [l2, Nat.mul_mod_left])] at gt g1'
            have hvs : cur = (semC a.ss (as ++ bs) ++ cur.toList.drop ((na + m) * tu.size)).toArray := by
              apply Array.ext'
              rw [← gt]
              simp
            have hrest : ∀ s y, (rows.set r Row.dead)[s]? = some y → (y.own = true ∨ lOwn loc s y) → s ≠ r ∧ rows[s]? = some y := fun s y hs hy => by
              have hne : s ≠ r := fun h0 => by
                subst h0
                rw [List.getElem?_set_self hr1] at hs
                injection hs with hs
                subst hs
                rcases hy with hy | ⟨_, hy, _⟩ <;> simp [Row.dead] at hy
              exact ⟨hne, by rwa [List.getElem?_set_ne (Ne.symm hne)] at hs⟩
            -- the block of the list, if it has one
            have hblk : ∀ bb, vp.ownBlock = some bb → (loc r).emp = false ∧ bb = (loc r).blk ∧ w0.heap.size ≤ bb := fun bb hbb => by
              cases he : (loc r).emp
              · refine ⟨rfl, ?_⟩
                obtain ⟨_, _, h3⟩ := hp
                rcases h3 with h3 | h3
                · cases h3
                · simp only [K.sem, he, Bool.false_eq_true, if_false] at h3
                  rw [h3] at hbb
                  simp only [Value.ownBlock, Option.some.injEq] at hbb
                  rw [if_neg (by simp [he])] at l5
                  exact ⟨hbb.symm, by rw [← hbb]; exact l5.2.1⟩
              · exfalso
                obtain ⟨h1, _, h3⟩ := hp
                rcases h3 with h3 | h3
                · cases h3
                · simp only [K.ok] at h1
                  simp only [K.sem, he, if_true, (h1.2.2 he).1] at h3
                  rw [h3] at hbb
                  simp [Value.ownBlock] at hbb
            have hsep : ∀ s y, (rows.set r Row.dead)[s]? = some y → (y.own = true ∨ lOwn loc s y) → (loc s).blk < w.heap.size ∧ some (loc s).blk ≠ vp.ownBlock := fun s y hs hy => by
              obtain ⟨hne, hs'⟩ := hrest s y hs hy
              refine ⟨hcl.1.lt_heap hs' hy, fun h0 => ?_⟩
              obtain ⟨q1, q2, _⟩ := hblk _ h0.symm
              have hlo : lOwn loc r row := ⟨a, ha, c1, q1⟩
              refine hcl.1.lapart r s row y hrow hs' hlo ?_ q2.symm
              rcases hy with hy | hy
              · exact .inl hy
              · exact .inr ⟨hy, Ne.symm hne⟩
            have hR : RowsOK e loc (rows.set r Row.dead) w' w0.heap.size := hkill.keep (fun j hj => h3.block j (Nat.lt_of_lt_of_le hj hcl.le) (fun h0 => by
              obtain ⟨_, _, q3⟩ := hblk _ h0.symm
              omega)) (fun s y hs hy => by
              obtain ⟨q1, q2⟩ := hsep s y hs hy
              exact h3.block _ q1 q2)
            have hadd := hR.addL (x := .mk4 gb 0 cap 0) (q := ⟨true, u, a.ss, (g1.push .cat [a.x, y]).1, ((g1.push .cat [a.x, y]).2.push (.lln tu.size) [(g1.push .cat [a.x, y]).1]).1⟩) rfl (fun _ s y hs hy h0 => by
              obtain ⟨q1, q2⟩ := hsep s y hs hy
              simp only at h0
              rcases h5 with h5 | h5
              · rw [← h5] at q2
                exact q2 (by rw [h0]; rfl)
              · simp only [Value.ownBlock, Option.some.injEq] at h5
                omega) ⟨as ++ bs, na + m, hcatev, by rw [List.length_append, l2, k1]; simp only; rw [Nat.add_mul], by simp only; rw [hkev]; rfl, l4, by
                rw [if_pos rfl]
                refine ⟨hsg, ?_⟩
                rw [locNew_at, if_neg (by simp)]
                refine ⟨rfl, gB, gc, cur.toList.drop ((na + m) * tu.size), by rw [← hvs]; exact gh, ?_⟩
                have : (semC a.ss (as ++ bs) ++ cur.toList.drop ((na + m) * tu.size)).length = cur.size := by
                  conv => rhs; rw [hvs]
                  simp
                simp only
                rw [this, gs, c3]⟩
            rw [List.length_set] at hadd
            refine ⟨_, w', h1, locNew loc rows.length (.mk4 gb 0 cap 0), locNew_ext _ _ _, by simp [newLst], ⟨⟨by simp [newLst], by rw [hkev]; simp; omega, fun he => ?_⟩, rfl, .inr ?_⟩, hadd, hcl.2.grown h3 hcl.le (fun bb hbb => (hblk bb hbb).2.2)⟩
            · rw [locNew_at] at he
              simp at he
            · simp only [K.sem]
              rw [locNew_at, hkev]
              simp only [A.int_i, Int.toNat_natCast, Bool.false_eq_true, if_false]
      · cases h
  · cases h
theorem op_call {c : Call} (hX : TysOK P X.tys) (hC : CtrsOK P T X.ctr) (hF : FnsOK P X.fns) (hI : InlOK P T e w0 inl) (ho : o.op = .call c) : OpOK P T e w0 fr rows gs pc o g (execOp X inl fr rows gs pc o g) := by
  obtain ⟨dst, op', ty, pos, after, guard⟩ := o
  simp only at ho
  subst ho
  obtain ⟨callee, cargs, argTypes⟩ := c
  simp only [execOp, Option.bind_eq_bind, Ctx.ty]
  cases ha : opds fr gs cargs.toList with
  | none => trivial
  | some args =>
    simp only [Option.bind_some]
    have hargs : ∀ loc (a : Act), FrRel e rows.length loc fr a.tmps → Holds e gs → PVsRel e rows.length loc args (cargs.toList.map a.eval) := fun loc a hf hg => opds_sound ha hf hg
    split
    · rename_i f
      cases hp : opd fr gs f with
      | none => trivial
      | some p =>
        simp only [Option.bind_some]
        split
        · rename_i f a b
          refine callFn_sound hC hF hI fun fn loc act h1 h2 h3 hgs hfr => ?_
          obtain ⟨va, vb, e1, e2, e3⟩ := opd_sound hp hfr hgs
          refine ⟨va ++ cargs.toList.map act.eval ++ vb, PVsRel_append (PVsRel_append (KsRel_one e2) (hargs loc act hfr hgs)) (KsRel_one e3), fun w => ?_⟩
          have h4 : ¬ fn.body = none := by
            intro hb
            rw [hb] at h3
            cases h3
          have h2' : ¬ fn.name = "runtime.NumGoroutine" := by simpa using h2
          have h5 : va.toArray ++ (Array.map act.eval cargs ++ vb.toArray) = (va ++ (List.map act.eval cargs.toList ++ vb)).toArray := by apply Array.ext'; simp
          simp [Go.execOp, resolve, Deferred.ofValue, invoke, callFunc, e1, h1, h2', h4, h5]
        · trivial
    · cases ht0 : argTypes[0]? with
      | none => trivial
      | some t =>
        simp only [Option.bind_some]
        cases ht : look t X.tys with
        | none => trivial
        | some tt =>
          have htt := hX t tt ht
          simp only [Option.bind_some]
          have hrun : ∀ (a : Act) (v : Value) w, cargs.toList.map a.eval = [v] → ∀ r, (Builtin.len_ argTypes ty #[v]).run P w = .ok r w → (Go.execOp a.eval ⟨dst, .call ⟨.builtin .len, cargs, argTypes⟩, ty, pos, after, guard⟩).run P w = .ok (.value r) w := fun a v w h r hr => by
            have h' : cargs.map a.eval = #[v] := by apply Array.ext'; simpa using h
            simp [Go.execOp, resolve, invoke, builtin, h', hr]
          split
          · rename_i e0 r off m hk
            refine opOK_one fun hg => ⟨hg, fun loc a w1 _ hgs hfr _ => ?_⟩
            obtain ⟨v, hv, hv1⟩ := PVsRel_single (hargs loc a hfr hgs)
            obtain ⟨r1, r2⟩ := rel_slc hv1
            exact ⟨_, mk_int (i := (m : Int)) rfl, fun w _ => hrun a v w hv _ (by simp [Builtin.len_, ht0, run_underlying (kind_slice htt hk), r2, goInt])⟩
          · rename_i e0 r off es m cap hk
            refine opOK_one fun hg => ⟨hg, fun loc a w1 _ hgs hfr _ => ?_⟩
            obtain ⟨v, hv, hv1⟩ := PVsRel_single (hargs loc a hfr hgs)
            obtain ⟨r1, r2⟩ := rel_aslc hv1
            exact ⟨_, mk_int (i := (m : Int)) rfl, fun w _ => hrun a v w hv _ (by simp [Builtin.len_, ht0, run_underlying (kind_slice htt hk), r2, goInt])⟩
          · rename_i e0 r k hk
            refine opOK_one fun hg => ⟨hg, fun loc a w1 _ hgs hfr _ => ?_⟩
            obtain ⟨v, hv, hv1⟩ := PVsRel_single (hargs loc a hfr hgs)
            obtain ⟨m, ad, cp, q1, q2⟩ := rel_lsl_len hv1
            exact ⟨_, mk_int (i := (m : Int)) q1, fun w _ => hrun a v w hv _ (by simp [Builtin.len_, ht0, run_underlying (kind_slice htt hk), q2, goInt])⟩
          · rename_i e0 r k hk
            refine opOK_one fun hg => ⟨hg, fun loc a w1 _ hgs hfr _ => ?_⟩
            obtain ⟨v, hv, hv1⟩ := PVsRel_single (hargs loc a hfr hgs)
            obtain ⟨m, ad, cp, q1, q2⟩ := rel_fsl_len hv1
            exact ⟨_, mk_int (i := (m : Int)) q1, fun w _ => hrun a v w hv _ (by simp [Builtin.len_, ht0, run_underlying (kind_slice htt hk), q2, goInt])⟩
          · rename_i e0 hk
            refine opOK_one fun hg => ⟨hg, fun loc a w1 _ hgs hfr _ => ?_⟩
            obtain ⟨v, hv, hv1⟩ := PVsRel_single (hargs loc a hfr hgs)
            have r2 := rel_nilslc hv1
            exact ⟨_, mk_int (i := 0) rfl, fun w _ => hrun a v w hv _ (by simp [Builtin.len_, ht0, run_underlying (kind_slice htt hk), r2, goInt])⟩
          · rename_i e0 x hk
            refine opOK_one fun hg => ?_
            have hgood := push_good hg
            refine ⟨hgood.1, fun loc a w1 _ hgs hfr _ => ?_⟩
            obtain ⟨v, hv, hv1⟩ := PVsRel_single (hargs loc a hfr hgs)
            have r2 := rel_val hv1
            obtain ⟨ad, m, cp, q1, q2⟩ := lenV_slice (x.ev e).val
            rw [q1] at r2
            have hz := hgood.2 (.i (lenV (x.ev e).val)) rfl
            refine ⟨.int .i64 (m : Int), mk_int (by rw [hz]; exact q2), fun w _ => hrun a v w hv _ (by simp [Builtin.len_, ht0, run_underlying (kind_slice htt hk), r2, goInt])⟩
          · rename_i x hk
            refine opOK_one fun hg => ?_
            have hgood := push_good hg
            refine ⟨hgood.1, fun loc a w1 _ hgs hfr _ => ?_⟩
            obtain ⟨v, hv, hv1⟩ := PVsRel_single (hargs loc a hfr hgs)
            have r2 := rel_str hv1
            have hz := hgood.2 (.i (x.ev e).str.size) rfl
            refine ⟨.int .i64 ((x.ev e).str.size : Int), mk_int (by rw [hz]; rfl), fun w _ => hrun a v w hv _ (by simp [Builtin.len_, ht0, run_underlying (kind_string htt hk), r2, goInt])⟩
          · trivial
    · split
      · rename_i k x k' y
        split
        · rename_i hk
          have hk := kindSame_eq hk
          subst hk
          refine opOK_one fun hg => ?_
          have hgood := push_good hg
          refine ⟨hgood.1, fun loc a w1 _ hgs hfr _ => ?_⟩
          obtain ⟨v, u, hv, hv1, hv2⟩ := PVsRel_two (hargs loc a hfr hgs)
          have r1 := rel_int hv1
          have r2 := rel_int hv2
          have hz := hgood.2 _ rfl
          have h' : cargs.map a.eval = #[v, u] := by apply Array.ext'; simpa using hv
          refine ⟨.int k (if (y.ev e).int < (x.ev e).int then (y.ev e).int else (x.ev e).int), mk_int (by rw [hz]; rfl), fun w _ => ?_⟩
          simp [Go.execOp, resolve, invoke, builtin, h', Builtin.min_, Builtin.min2, r1, r2]
        · trivial
      · trivial
    · split
      · rename_i k x k' y
        split
        · rename_i hk
          have hk := kindSame_eq hk
          subst hk
          refine opOK_one fun hg => ?_
          have hgood := push_good hg
          refine ⟨hgood.1, fun loc a w1 _ hgs hfr _ => ?_⟩
          obtain ⟨v, u, hv, hv1, hv2⟩ := PVsRel_two (hargs loc a hfr hgs)
          have r1 := rel_int hv1
          have r2 := rel_int hv2
          have hz := hgood.2 _ rfl
          have h' : cargs.map a.eval = #[v, u] := by apply Array.ext'; simpa using hv
          refine ⟨.int k (if (x.ev e).int < (y.ev e).int then (y.ev e).int else (x.ev e).int), mk_int (by rw [hz]; rfl), fun w _ => ?_⟩
          simp [Go.execOp, resolve, invoke, builtin, h', Builtin.max_, Builtin.max2, r1, r2]
        · trivial
      · trivial
    · cases ht0 : argTypes[0]? with
      | none => trivial
      | some t =>
        simp only [Option.bind_some]
        cases ht : look t X.tys with
        | none => trivial
        | some tt =>
          have htt := hX t tt ht
          simp only [Option.bind_some]
          split
          · rename_i u p q hk
            cases hu : look u X.tys with
            | none => trivial
            | some tu =>
              have htu := hX u tu hu
              simp only [Option.bind_some]
              split
              · trivial
              · split
                · trivial
                · rename_i hts
                  simp only [bne_iff_ne, ne_eq, Decidable.not_not] at hts
                  have hts' : argTypes = #[t, t] := by apply Array.ext'; simpa using hts
                  split
                  · rename_i r0 k0
                    cases hap : appendL rows u tu.size tu.bytes (.one (.k (.lsl r0 k0))) q pc g with
                    | none => trivial
                    | some r =>
                      obtain ⟨v, rr, g'⟩ := r
                      cases rr with
                      | none => exact (appendL_some hap).elim
                      | some rows' =>
                        refine fun hg => ?_
                        obtain ⟨hgg, hap⟩ := appendL_sound (w0 := w0) (t := t) (ty2 := ty) htu (kind_slice htt hk) hap hg
                        refine ⟨hgg, fun loc a w hpc hgs hfr hw => ?_⟩
                        obtain ⟨vp, vq, hv, hv1, hv2⟩ := PVsRel_two (hargs loc a hfr hgs)
                        have h' : cargs.map a.eval = #[vp, vq] := by apply Array.ext'; simpa using hv
                        obtain ⟨x, w', h1, h2⟩ := hap loc w vp vq hpc hw hv1 hv2
                        refine .inl ⟨x, w', .inl ?_, h2⟩
                        simp [Go.execOp, resolve, invoke, builtin, h', hts', h1]
                  cases hap : appendC rows u tu.size tu.bytes p q g with
                  | none => trivial
                  | some r =>
                    obtain ⟨v, rr, g'⟩ := r
                    cases rr with
                    | none => exact (appendC_some hap).elim
                    | some rows' =>
                      refine fun hg => ?_
                      have hgg := appendC_g hap
                      subst hgg
                      refine ⟨hg, fun loc a w _ hgs hfr hw => ?_⟩
                      obtain ⟨vp, vq, hv, hv1, hv2⟩ := PVsRel_two (hargs loc a hfr hgs)
                      have h' : cargs.map a.eval = #[vp, vq] := by apply Array.ext'; simpa using hv
                      obtain ⟨_, x, w', h1, h2⟩ := append_sound (t := t) (ty2 := ty) htu (kind_slice htt hk) hap hw hv1 hv2
                      refine .inl ⟨x, w', .inl ?_, h2⟩
                      simp [Go.execOp, resolve, invoke, builtin, h', hts', h1]
          · trivial
    · trivial
end
end Rx
namespace Rx
open Go Go.RowKit
def OneRS (w w' : World) : RS → List A → Value → Prop
  | .c agg ss, as, v => OneRes (agg, ss) as v
  | .lst ss ty, as, v => ∃ (as' : List A) (k : A) (m : Nat), as = [.l as', k] ∧ as'.length = m * ss.length ∧ k.int = (m : Nat) ∧ 0 < ss.length ∧ ss.all Srt.single = true ∧
      ((m = 0 ∧ v = .slice none 0 0) ∨ ∃ (b cap : Nat) (spare : List Value), v = .slice (some ⟨b, 0, none⟩) m cap ∧ w.heap.size ≤ b ∧ cap ≤ maxLen ∧
        w'.heap[b]? = some (.cells (semC ss as' ++ spare).toArray ty (0, 0)) ∧ (semC ss as' ++ spare).length = cap * ss.length)
def RSList (w w' : World) : List RS → List A → List Value → Prop
  | [], as, vs => as = [] ∧ vs = []
  | r :: rs, as, vs => ∃ v vr a1 a2, vs = v :: vr ∧ as = a1 ++ a2 ∧ OneRS w w' r a1 v ∧ RSList w w' rs a2 vr
def BigOK (P : Program) (T : Nat → List A → Bool × List A) (c : Big) : Prop :=
  ∀ (lits : List (Option Int)) (as : List A) (vs : List Value) (w : World), c.ok lits = true → Agree lits as → ArgsRel w c.ps vs as → (T c.f as).1 = true →
    Calls P c.f vs.toArray w fun en w' => ∃ us, en = .returned (retVal us) ∧ RSList w w' c.rs (T c.f as).2 us ∧ Below w.heap.size w w'
def BigsOK (P : Program) (T : Nat → List A → Bool × List A) (l : List (Nat × Big)) : Prop := ∀ x ∈ l, x.2.f = x.1 ∧ BigOK P T x.2
section
variable {T : Nat → List A → Bool × List A} {e : Nat → A} {n n' : Nat} {loc loc' : Loc} {P : Program} {X : Ctx} {w0 : World}
variable {rows : List Row} {pc : L} {g : G}
theorem bigRes_sound {w w' : World} {r : Nat} : ∀ {rs : List RS} {b b' : Nat} {ps : List PV} {news : List Row} {as : List A} {us : List Value}, bigRes rs b r = some (ps, news, b') → RSList w w' rs as us → (∀ j a, as[j]? = some a → e (b + j) = a) →
    (news = [] ∧ ∀ N loc, PVsRel e N loc ps us) ∨
    ∃ (q : Lst) (x : Lc), news = [{ own := false, ty := 0, es := 0, cells := [], lst := some q }] ∧ q.own = true ∧ (x.emp = false → w.heap.size ≤ x.blk) ∧
      (∀ (loc : Loc) (B s : Nat), B ≤ w.heap.size → loc s = x → LstOK e loc w' B s q) ∧ ∀ N loc, r < N → loc r = x → PVsRel e N loc ps us
  | [], b, b', ps, news, as, us, h, hr, he => by
    simp only [bigRes, Option.some.injEq, Prod.mk.injEq] at h
    obtain ⟨rfl, rfl, rfl⟩ := h
    obtain ⟨_, rfl⟩ := hr
    exact .inl ⟨rfl, fun _ _ => trivial⟩
  | .c agg ss :: l, b, b', ps, news, as, us, h, hr, he => by
    simp only [bigRes, Option.bind_eq_bind, Option.bind_eq_some_iff] at h
    obtain ⟨p, hp, ⟨ps', rw', b2⟩, h2, h⟩ := h
    simp only [Option.some.injEq, Prod.mk.injEq] at h
    obtain ⟨rfl, rfl, rfl⟩ := h
    obtain ⟨v, vr, a1, a2, rfl, rfl, h1, h3⟩ := hr
    have hl : a1.length = ss.length := h1.1
    have hone : ∀ N loc, p.rel e N loc v := fun N loc => by
      have hv := varsK_rel (e := e) (n := N) (loc := loc) (b := b) hl (fun j a hj => he j a (by rw [List.getElem?_append_left (lt_of_get hj)]; exact hj))
      rcases mkPV_some hp with ⟨ha, rfl⟩ | ⟨ha, c, hc, rfl⟩
      · have h4 := h1.2
        rw [if_pos ha] at h4
        exact ⟨_, h4, hv⟩
      · have h4 := h1.2
        rw [if_neg (by simp [ha])] at h4
        obtain ⟨s, a, q1, q2, q3⟩ := h4
        simp only at q1
        subst q1
        subst q2
        rw [hc] at hv
        rw [q3]
        exact hv.1
    have he2 : ∀ j a, a2[j]? = some a → e (b + ss.length + j) = a := fun j a hj => by
      have := he (ss.length + j) a (by rw [List.getElem?_append_right (by omega), hl]; simpa using hj)
      rwa [Nat.add_assoc]
    rcases bigRes_sound h2 h3 he2 with ⟨rfl, hq⟩ | ⟨q, x, rfl, m1, m2, m3, m4⟩
    · exact .inl ⟨rfl, fun N loc => ⟨hone N loc, hq N loc⟩⟩
    · exact .inr ⟨q, x, rfl, m1, m2, m3, fun N loc hN hloc => ⟨hone N loc, m4 N loc hN hloc⟩⟩
  | .lst ss ty :: l, b, b', ps, news, as, us, h, hr, he => by
    simp only [bigRes, Option.bind_eq_bind] at h
    simp only [Option.bind_eq_some_iff] at h
    obtain ⟨⟨ps', rw', b2⟩, h2, h⟩ := h
    simp only at h
    split at h
    · cases h
    · rename_i hrw
      simp only [Bool.or_eq_true, Bool.not_eq_true', List.isEmpty_eq_false_iff, ne_eq, beq_iff_eq, not_or, Decidable.not_not, Bool.not_eq_false] at hrw
      obtain ⟨⟨hrw, hsg⟩, hs0⟩ := hrw
      subst hrw
      simp only [Option.some.injEq, Prod.mk.injEq] at h
      obtain ⟨rfl, rfl, rfl⟩ := h
      obtain ⟨v, vr, a1, a2, rfl, rfl, ⟨as', k, m, rfl, hl, hk, hs, hsg', hv⟩, h3⟩ := hr
      have e0 : e b = .l as' := he 0 _ rfl
      have e1 : e (b + 1) = k := he 1 _ rfl
      have he2 : ∀ j a, a2[j]? = some a → e (b + 2 + j) = a := fun j a hj => by
        have := he (2 + j) a (by rw [List.getElem?_append_right (by simp)]; simpa using hj)
        rwa [Nat.add_assoc]
      rcases bigRes_sound (w := w) (w' := w') h2 h3 he2 with ⟨_, hq⟩ | ⟨_, _, h0, _⟩
      · rcases hv with ⟨hm, rfl⟩ | ⟨bk, cap, spare, rfl, q1, q2, q3, q4⟩
        · refine .inr ⟨_, ⟨0, 0, 0, 0, .slice none 0 0, true⟩, rfl, rfl, fun h => by simp at h, fun loc B s hB hloc => ⟨as', m, e0, hl, by rw [← hk]; exact congrArg A.int e1, hs, ?_⟩, fun N loc hN hloc => ⟨⟨⟨hN, ?_, fun _ => ⟨by rw [hloc], ?_⟩⟩, rfl, .inr ?_⟩, hq N loc⟩⟩
          · rw [if_pos rfl]
            refine ⟨hsg', ?_⟩
            rw [hloc, if_pos rfl]
            exact ⟨hm, rfl⟩
          · simp only [L.ev_var, e1, hk]; omega
          · simp only [L.ev_var, e1, hk]; omega
          · simp only [K.sem]
            rw [hloc]
            rfl
        · refine .inr ⟨_, ⟨bk, 0, cap, 0, Go.undef, false⟩, rfl, rfl, fun _ => q1, fun loc B s hB hloc => ⟨as', m, e0, hl, by rw [← hk]; exact congrArg A.int e1, hs, ?_⟩, fun N loc hN hloc => ⟨⟨⟨hN, ?_, fun he => ?_⟩, rfl, .inr ?_⟩, hq N loc⟩⟩
          · rw [if_pos rfl]
            refine ⟨hsg', ?_⟩
            rw [hloc, if_neg (by simp)]
            exact ⟨rfl, Nat.le_trans hB q1, q2, spare, q3, q4⟩
          · simp only [L.ev_var, e1, hk]; omega
          · rw [hloc] at he; simp at he
          · simp only [K.sem]
            rw [hloc]
            simp only [L.ev_var, e1, hk]
            simp
      · cases h0
theorem bigCall_sound {c : Big} {args : List PV} {v : SV} {rows' : List Row} {g' : G} (hbig : BigOK P T c) (hcall : bigCall c args rows pc g = some (v, rows', g')) (hg : Good T e g') :
    Good T e g ∧ ∀ (loc : Loc) (vs : List Value) (w : World), (pc.ev e).bool = true → PVsRel e rows.length loc args vs → Cls e w0 loc rows w →
      Calls P c.f vs.toArray w fun en w' => ∃ u, en = .returned u ∧ ∃ loc', LExt rows.length loc loc' ∧ rows.length ≤ rows'.length ∧ v.rel e rows'.length loc' u ∧ Cls e w0 loc' rows' w' := by
  simp only [bigCall, Option.bind_eq_bind, Option.bind_eq_some_iff] at hcall
  obtain ⟨⟨ls, g0⟩, hls, hcall⟩ := hcall
  simp only at hcall
  split at hcall
  · cases hcall
  · rename_i hok
    simp only [Option.bind_eq_some_iff, Option.some.injEq, Prod.mk.injEq] at hcall
    obtain ⟨⟨ps, news, b⟩, hres, rfl, rfl, rfl⟩ := hcall
    have hmust := must_good hg
    have hgood := pushN_good hmust.1
    obtain ⟨fa1, fa2⟩ := flatArgs_sound (w0 := w0) hls hgood.1
    refine ⟨fa1, fun loc vs w hpc hvs hw => ?_⟩
    have hpre : (T c.f (ls.map (L.ev e))).1 = true := by
      have h1 := hmust.2 hpc
      have h2 := hgood.2 0 _ rfl
      simp only [G.pushN, Nat.add_zero] at h2
      rw [L.ev_var, h2] at h1
      exact h1
    refine (hbig (ls.map litOf) (ls.map (L.ev e)) vs w (by simpa using hok) (agree_lits ls) (fa2 loc w vs hw hvs) hpre).mono ?_
    rintro en w' ⟨us, rfl, hus, hb⟩
    have henv : ∀ j a, (T c.f (ls.map (L.ev e))).2[j]? = some a → e (g0.next + 1 + j) = a := fun j a hj => by
      have := hgood.2 (j + 1) a (by simpa [D.ev] using hj)
      simpa [G.pushN, Nat.add_assoc, Nat.add_comm 1 j] using this
    have hw' := hw.of_below hb
    rcases bigRes_sound hres hus henv with ⟨rfl, hq⟩ | ⟨q, x, rfl, m1, m2, m3, m4⟩
    · refine ⟨_, rfl, loc, LExt.refl _ _, by simp, ?_, by simpa using hw'⟩
      exact retSV_rel (hq _ _)
    · refine ⟨_, rfl, locNew loc rows.length x, locNew_ext _ _ _, by simp, ?_, ?_, hw'.2⟩
      · exact retSV_rel (m4 _ _ (by simp) (locNew_at _ _ _))
      · refine hw'.1.addL m1 (fun hx s y hs ho => ?_) (m3 _ _ _ hw.le (locNew_at _ _ _))
        have := hw.1.lt_heap hs ho
        have := m2 hx
        omega
theorem bigAny_sound {f : Nat} {args : List PV} {v : SV} {rows' : List Row} {g' : G} : ∀ {l : List (Nat × Big)}, BigsOK P T l → bigAny f args rows pc g l = some (v, rows', g') → Good T e g' →
    Good T e g ∧ ∀ (loc : Loc) (vs : List Value) (w : World), (pc.ev e).bool = true → PVsRel e rows.length loc args vs → Cls e w0 loc rows w →
      Calls P f vs.toArray w fun en w' => ∃ u, en = .returned u ∧ ∃ loc', LExt rows.length loc loc' ∧ rows.length ≤ rows'.length ∧ v.rel e rows'.length loc' u ∧ Cls e w0 loc' rows' w'
  | (f', c) :: l, hC, h, hg => by
    unfold bigAny at h
    have hl : BigsOK P T l := fun x hx => hC x (by simp [hx])
    split at h
    · rename_i hf
      have hf : f' = f := by simpa using hf
      subst hf
      obtain ⟨h1, h2⟩ := hC (f', c) (by simp)
      simp only at h1 h2
      subst h1
      split at h
      · rename_i r hr
        injection h with h
        subst h
        exact bigCall_sound h2 hr hg
      · exact bigAny_sound hl h hg
    · exact bigAny_sound hl h hg
end
end Rx
namespace Rx
open Go Go.RowKit
section
variable {P : Program} {l : List Oper} {n : Nat} {Cl : World → Prop}
theorem edgesB_spec (h : edgesB (l.take n) = true) {j : Nat} {o : Oper} (hj : j < n) (ho : l[j]? = some o) : ∀ e ∈ o.after, Region.binds .any e = true → e.on < j := by
  intro e he hb
  simp only [edgesB, List.all_eq_true, Bool.or_eq_true, Bool.not_eq_true', decide_eq_true_eq] at h
  have hm : (o, j) ∈ (l.take n).zipIdx := by
    rw [List.mem_zipIdx_iff_getElem?]
    simp only
    rw [List.getElem?_take_of_lt hj]
    exact ho
  exact (h _ hm e (by simpa using he)).resolve_left (by rw [hb]; simp)
theorem wanted_take (h : guardsB (l.take n) n = true) {j : Nat} {o : Oper} (hj : j < n) (ho : l[j]? = some o) (tmps : Array Value) :
    Region.wanted o (yielded (l.take n).toArray tmps) = Region.wanted o (yielded l.toArray tmps) := by
  simp only [guardsB, List.all_eq_true] at h
  have hm : o ∈ l.take n := List.mem_of_getElem? (i := j) (by rw [List.getElem?_take_of_lt hj]; exact ho)
  have := h o hm
  unfold Region.wanted
  cases hg : o.guard with
  | none => rfl
  | some x =>
    obtain ⟨i, want⟩ := x
    rw [hg] at this
    have hi : i < n := by simpa using this
    simp only [yielded]
    rw [show ((l.take n).toArray)[i]? = (l.toArray)[i]? by simp [List.getElem?_take_of_lt hi]]
theorem count_false {l : List Bool} (h : l.count false = 0) : ∀ i, i < l.length → l[i]? = some true := by
  intro i hi
  cases hb : l[i]? with
  | none => rw [List.getElem?_eq_none_iff] at hb; omega
  | some b =>
    cases b with
    | true => rfl
    | false => exact absurd (List.mem_of_getElem? hb) (List.count_eq_zero.1 h)
theorem count_pos_false {l : List Bool} {k : Nat} (h : l.count false = k + 1) : ∃ i, i < l.length ∧ l[i]? = some false ∧ ∀ j, j < i → l[j]? = some true := by
  induction l generalizing k with
  | nil => simp at h
  | cons b l ih =>
    cases b with
    | false => exact ⟨0, by simp, rfl, fun j hj => by omega⟩
    | true =>
      have h' : l.count false = k + 1 := by simpa using h
      obtain ⟨i, h1, h2, h3⟩ := ih h'
      refine ⟨i + 1, by simp [h1], by simpa using h2, fun j hj => ?_⟩
      cases j with
      | zero => rfl
      | succ j => simpa using h3 j (by omega)
structure Same (n : Nat) (listed listed' : Array Bool) : Prop where
  size : listed'.size = n
  le : n ≤ listed.size
  same : ∀ i, i < n → listed'[i]? = listed[i]?
theorem Same.getD {n : Nat} {a b : Array Bool} (h : Same n a b) {i : Nat} (hi : i < n) (d : Bool) : b.getD i d = a.getD i d := by
  have := h.same i hi
  simp only [Array.getD_eq_getD_getElem?, this]
theorem Same.set {n : Nat} {a b : Array Bool} (h : Same n a b) (i : Nat) : Same n (a.setIfInBounds i true) (b.setIfInBounds i true) :=
  ⟨by simp [h.size], by simp [h.le], fun j hj => by
    rw [Array.getElem?_setIfInBounds, Array.getElem?_setIfInBounds]
    have h1 := h.size
    have h2 := h.le
    split
    · rename_i hij
      subst hij
      rw [if_pos (by omega), if_pos (by omega)]
    · exact h.same j hj⟩
theorem any_of_pre {Q' : Exit → Act → World → Prop} {Q1 : Act → Prop} {g : Nat} (hs : Region.sinkB .any l.toArray n = true) (hc : Region.chainB .any l.toArray n = true) (hn : n < l.length)
    (he : edgesB (l.take n) = true) (hgd : guardsB (l.take n) n = true)
    (hQ : ∀ listed a w, Cl w → (∀ i, i < n → listed[i]? = some true) → HeadInv .any l.toArray n listed → Q1 a → wpAny P .any l.toArray Q' g listed a w) :
    ∀ (f : Nat) (listed listed' : Array Bool) (a : Act) (w : World), HeadInv .any l.toArray n listed → Same n listed listed' → listed'.toList.count false = f → Cl w →
      wpAnyQ P .any (l.take n).toArray Cl Q1 f listed' a → wpAny P .any l.toArray Q' (f + g) listed a w
  | 0, listed, listed', a, w, inv, sm, hcount, hw, h => by
    rw [Nat.zero_add]
    refine hQ listed a w hw (fun i hi => ?_) inv h.2
    rw [← sm.same i hi]
    have := count_false hcount i (by simp [sm.size, hi])
    simpa using this
  | f + 1, listed, listed', a, w, inv, sm, hcount, hw, h => by
    obtain ⟨k, k1, k2, k3⟩ := count_pos_false hcount
    have hkn : k < n := by simpa [sm.size] using k1
    have hunk : listed.getD k true = false := by
      rw [← sm.getD hkn, Array.getD_eq_getD_getElem?]
      have : listed'[k]? = some false := by simpa using k2
      rw [this]; rfl
    have hready : ∀ i, i < n → (i ∈ Region.ready .any l.toArray listed ↔ i ∈ Region.ready .any (l.take n).toArray listed') := fun i hi => by
      rw [mem_ready, mem_ready, sm.getD hi]
      have e1 : ((l.take n).toArray)[i]? = (l.toArray)[i]? := by simp [List.getElem?_take_of_lt hi]
      rw [e1]
      constructor
      · rintro ⟨a1, o, ho, a2⟩
        refine ⟨a1, o, ho, fun e hee hb => ?_⟩
        have := edgesB_spec he hi (by simpa using ho) e hee hb
        rw [sm.getD (by omega)]
        exact a2 e hee hb
      · rintro ⟨a1, o, ho, a2⟩
        refine ⟨a1, o, ho, fun e hee hb => ?_⟩
        have := edgesB_spec he hi (by simpa using ho) e hee hb
        rw [← sm.getD (by omega)]
        exact a2 e hee hb
    have hk : k ∈ Region.ready .any l.toArray listed := by
      rw [mem_ready]
      have hlt : k < l.length := by omega
      refine ⟨hunk, l[k], by simp [hlt], fun e hee hb => ?_⟩
      have hlt2 := edgesB_spec he hkn (show l[k]? = some l[k] by simp [hlt]) e hee hb
      rw [← sm.getD (by omega), Array.getD_eq_getD_getElem?]
      have : listed'[e.on]? = some true := by simpa using k3 e.on hlt2
      rw [this]; rfl
    rw [show f + 1 + g = (f + g) + 1 by omega]
    refine ⟨fun h0 => (by rw [h0] at hk; cases hk), fun i hi => ?_⟩
    have hin : i < n := by
      rcases Nat.lt_or_ge i n with h' | h'
      · exact h'
      · exact absurd hi (tail_waits hs hc (by simpa using hn) inv _ k rfl hkn hunk i h')
    have hq := h.2 i ((hready i hin).1 hi)
    have e1 : ((l.take n).toArray)[i]? = (l.toArray)[i]? := by simp [List.getElem?_take_of_lt hin]
    have hun := (mem_ready.1 hi).1
    have hcount' : (listed'.setIfInBounds i true).toList.count false = f := by
      have hlen : i < listed'.toList.length := by simp [sm.size, hin]
      have hf : listed'.toList[i] = false := by
        have : listed'.getD i true = false := by rw [sm.getD hin]; exact hun
        rw [Array.getD_eq_getD_getElem?, Array.getElem?_eq_getElem (by simpa using hlen)] at this
        simpa using this
      rw [Array.toList_setIfInBounds, List.count_set hlen, hf, hcount]
      simp
    have ih := fun a' w' hw' => any_of_pre hs hc hn he hgd hQ f (listed.setIfInBounds i true) (listed'.setIfInBounds i true) a' w' (inv.set hi hin) (sm.set i) hcount' hw'
    unfold qOp at hq
    unfold wpOp
    rw [e1] at hq
    have hlt : i < l.length := by omega
    have ho : (l.toArray)[i]? = some l[i] := by simp [hlt]
    rw [ho] at hq ⊢
    simp only at hq ⊢
    rw [wanted_take hgd hin (show l[i]? = some l[i] by simp [hlt])] at hq
    split
    · rename_i hwt
      rw [if_pos hwt] at hq
      exact .inl (Oper.wp_of_quiet hw (fun a' w' hw' hk' => ih a' w' hw' hk') hq)
    · rename_i hwt
      rw [if_neg hwt] at hq
      exact ih _ w hw hq
theorem wp_region_split {id : Nat} {Q : Exit → Act → World → Prop} {a : Act} {w : World} (hm : P.follows .mixedOrders = true) (hB : splitB l n = true) (hC : Cl { w with drawn := w.drawn + 1 })
    (h : wpQuiet P (l.take n).toArray Cl (fun a' => ∀ w', Cl w' → wpList P l.toArray Q (l.drop n) a' w') (l.take n) a) : (Code.region id l.toArray true).wp P Q a w := by
  simp only [splitB, Bool.and_eq_true, decide_eq_true_eq] at hB
  obtain ⟨⟨⟨⟨⟨⟨hn, hs⟩, hc⟩, he⟩, hgd⟩, hlex⟩, hseq⟩ := hB
  simp only [Region.lexB, Bool.and_eq_true] at hlex
  have htl : (l.take n).length = n := by simp; omega
  refine wp_region_any hm ?_
  have hpre := wpAnyQ_lex (P := P) (C := Cl) (md := .any) (ops := (l.take n).toArray) hlex.1 (l.take n) 0 (Array.replicate n false) a (by simp) (by
    have := hlex.2
    simpa [htl, Nat.min_eq_left (Nat.le_of_lt hn)] using this) h
  rw [htl] at hpre
  have inv0 : HeadInv .any l.toArray n (Array.replicate l.toArray.size false) :=
    ⟨by simp, fun j oj _ hl => (by rw [getD_replicate_false] at hl; cases hl), fun t _ ht => getD_in (by simpa using ht) (getD_replicate_false _ _)⟩
  have := any_of_pre (P := P) (Q' := Q) (g := l.length - n) hs hc hn he hgd (fun listed a' w' hw' hall inv hq => by
    have hlist : listed = Array.replicate n true ++ Array.replicate (l.length - n) false := by
      have hsz : listed.size = l.length := by simpa using inv.size
      apply Array.ext_getElem?
      intro i
      by_cases hi : i < n
      · rw [hall i hi, Array.getElem?_append_left (by simpa using hi)]
        simp [hi]
      · by_cases hi2 : i < l.length
        · have := inv.tail i (by omega) (by simpa using hi2)
          rw [Array.getD_eq_getD_getElem?, Array.getElem?_eq_getElem (by omega)] at this
          rw [Array.getElem?_append_right (by simp; omega), Array.getElem?_eq_getElem (by omega)]
          simp only [Option.getD_some] at this
          rw [this]
          rw [Array.size_replicate, Array.getElem?_replicate, if_pos (by omega)]
        · rw [Array.getElem?_eq_none (by omega), Array.getElem?_eq_none (by simp; omega)]
    subst hlist
    have := wpAny_of_seq (P := P) (md := .any) (Q' := Q) (ops := l.toArray) (l.drop n) n _ a' w' (fun j => by simp [List.getElem?_drop]) (by simpa using hseq) (hq w' hw')
    simpa using this) n _ _ a { w with drawn := w.drawn + 1 } inv0 ⟨by simp, by simp; omega, fun i hi => by
      rw [Array.getElem?_replicate, Array.getElem?_replicate, if_pos hi, if_pos (by simp; omega)]⟩ (by simp) hC hpre
  rw [show n + (l.length - n) = l.toArray.size by simp; omega] at this
  exact this
end
end Rx
namespace Rx
open Go Go.RowKit
section
variable {T : Nat → List A → Bool × List A} {e : Nat → A} {n n' : Nat} {loc loc' : Loc} {P : Program} {X : Ctx} {w0 : World}
variable {fr : List SV} {rows : List Row} {gs : List (L × Bool)} {pc : L} {o : Oper} {g : G} {inl : Inline}
structure XOK (P : Program) (T : Nat → List A → Bool × List A) (X : Ctx) : Prop where
  tys : TysOK P X.tys
  eqs : EqsOK P X.eqs
  ctr : CtrsOK P T X.ctr
  fns : FnsOK P X.fns
  mixed : P.follows .mixedOrders = true
  big : BigsOK P T X.big
theorem op_ok (hX : XOK P T X) (hI : InlOK P T e w0 inl) (o : Oper) : OpOK P T e w0 fr rows gs pc o g (execOp X inl fr rows gs pc o g) := by
  have none_ : execOp X inl fr rows gs pc o g = none → OpOK P T e w0 fr rows gs pc o g (execOp X inl fr rows gs pc o g) := fun h => by rw [h]; trivial
  cases h : o.op with
  | move x => exact op_move (.inl h)
  | assign x => exact op_move (.inr h)
  | pick c a b => exact op_pick h
  | alloc t => exact op_alloc hX.tys h
  | box t x => exact op_box hX.tys h
  | build t ps => exact op_build hX.tys h
  | buildSlice t n ps => exact op_buildSlice hX.tys h
  | load t a => exact op_load hX.tys h
  | store t a x => exact op_store hX.tys h
  | nilCheck x => exact op_nilCheck h
  | binOp op t x y yt => exact op_binOp hX.tys hX.eqs h
  | unOp op t x => exact op_unOp h
  | convert s d x => exact op_convert hX.tys h
  | makeFunc f a b =>
    cases f with
    | func f => exact op_makeFunc h
    | _ => exact none_ (by simp [execOp, h])
  | makeSlice t x y => exact op_makeSlice hX.tys h
  | panic x => exact op_panic h
  | makeInterface t x => exact op_makeInterface hX.tys h
  | slice t x lo hi mx =>
    cases mx with
    | none => exact op_slice hX.tys h
    | some _ => exact none_ (by simp [execOp, h])
  | fieldAddr s x f => exact op_fieldAddr hX.tys h
  | field t x f => exact op_field hX.tys h
  | indexAddr t x i => exact op_indexAddr hX.tys h
  | index t x i => exact op_index hX.tys h
  | extract x i => exact op_extract h
  | call c => exact op_call hX.tys hX.ctr hX.fns hI h
  | _ => exact none_ (by simp [execOp, h])
def boolOf : Value → Option Bool
  | .bool b => some b
  | _ => none
theorem yielded_of {ops : List Oper} {tm : Array Value} {j : Nat} {oj : Oper} {d : Nat} {s : SV} (h1 : ops[j]? = some oj) (h2 : oj.dst = some d) (h3 : fr[d]? = some s) (hf : FrRel e n loc fr tm) :
    ∃ v, s.rel e n loc v ∧ yielded ops.toArray tm j = boolOf v := by
  obtain ⟨v, hv, _, hr⟩ := hf.get h3
  refine ⟨v, hr, ?_⟩
  have h1' : ops.toArray[j]? = some oj := by simpa using h1
  unfold yielded
  rw [h1']
  simp only [Option.bind_some, h2, hv]
  cases v <;> rfl
theorem wantedS_sound {ops : List Oper} {tm : Array Value} {r : Option (List (L × Bool))} (h : wantedS fr ops o = some r) (hf : FrRel e n loc fr tm) :
    match r with
    | none => Region.wanted o (yielded ops.toArray tm) = false
    | some gs => (Region.wanted o (yielded ops.toArray tm) = true ↔ Holds e gs) := by
  unfold wantedS at h
  cases hg : o.guard with
  | none =>
    rw [hg] at h
    injection h with h
    subst h
    simp only [Region.wanted, hg, true_iff]
    intro x hx
    cases hx
  | some jw =>
    obtain ⟨j, want⟩ := jw
    rw [hg] at h
    simp only [Option.bind_eq_bind, Option.bind_eq_some_iff] at h
    obtain ⟨oj, hoj, d, hd, s, hs, h⟩ := h
    obtain ⟨v, hv, hy⟩ := yielded_of hoj hd hs hf
    have hwt : Region.wanted o (yielded ops.toArray tm) = (boolOf v == some want) := by
      simp only [Region.wanted, hg, hy]
    rw [hwt]
    split at h
    · injection h with h
      subst h
      simp only [SV.rel] at hv
      subst hv
      rfl
    · rename_i b
      injection h with h
      have := rel_bool (x := .t b) hv
      subst this
      subst h
      simp only [L.ev_t, A.bool_b]
      cases b <;> cases want <;> simp [Holds, boolOf]
    · rename_i x _
      injection h with h
      have := rel_bool hv
      subst this
      subst h
      simp [Holds, boolOf]
    · rename_i gs b
      by_cases hh : Holds e gs
      · have := rel_bool (x := .t b) (hv.1 hh)
        subst this
        simp only [L.ev_t, A.bool_b]
        split at h
        · rename_i hb
          injection h with h
          subst h
          have hb : b = want := by simpa using hb
          subst hb
          simp [hh, boolOf]
        · rename_i hb
          injection h with h
          subst h
          simpa [boolOf] using hb
      · have := hv.2 hh
        subst this
        split at h
        · injection h with h
          subst h
          simp [hh, Go.undef, boolOf]
        · injection h with h
          subst h
          rfl
    · rename_i gs x _
      injection h with h
      subst h
      by_cases hh : Holds e gs
      · have := rel_bool (hv.1 hh)
        subst this
        simp only
        constructor
        · intro h1
          exact holds_cons (by simpa [boolOf] using h1) hh
        · intro h1
          simpa [boolOf] using h1 (x, want) (by simp)
      · have := hv.2 hh
        subst this
        constructor
        · intro h1
          cases h1
        · intro h1
          exact absurd (fun y hy => h1 y (List.mem_cons_of_mem _ hy)) hh
    · cases h
theorem condS_rel {v v' : SV} {u : Value} (h : condS gs v = some v') (hv : Holds e gs → v.rel e n loc u) (hu : ¬ Holds e gs → u = Go.undef) : v'.rel e n loc u := by
  unfold condS at h
  split at h
  · injection h with h
    subst h
    exact hv (fun x hx => by cases hx)
  · injection h with h
    subst h
    exact ⟨hv, hu⟩
  · cases h
theorem execOps_quiet (hX : XOK P T X) (hI : InlOK P T e w0 inl) {ops : List Oper} : ∀ {l : List Oper} {fr : List SV} {rows : List Row} {g : G} {fr' : List SV} {rows' : List Row} {g' : G},
    execOps X inl true ops pc l fr rows g = some (fr', rows', g') → Good T e g' → Good T e g ∧ rows' = rows ∧
      ∀ (loc : Loc) (a : Act) (w1 : World) (Q : Act → Prop), (pc.ev e).bool = true → FrRel e rows.length loc fr a.tmps → Cls e w0 loc rows w1 →
        (∀ a' : Act, FrRel e rows.length loc fr' a'.tmps → a'.defers = a.defers → Q a') → wpQuiet P ops.toArray (Cls e w0 loc rows) Q l a
  | [], fr, rows, g, fr', rows', g', h, hg => by
    simp only [execOps, Option.some.injEq, Prod.mk.injEq] at h
    obtain ⟨rfl, rfl, rfl⟩ := h
    exact ⟨hg, rfl, fun loc a w1 Q _ hf _ hQ => hQ a hf rfl⟩
  | o :: l, fr, rows, g, fr', rows', g', h, hg => by
    simp only [execOps, Option.bind_eq_bind, Option.bind_eq_some_iff] at h
    obtain ⟨wt, hwt, h⟩ := h
    cases wt with
    | none =>
      simp only at h
      obtain ⟨h1, h2, h3⟩ := execOps_quiet hX hI h hg
      refine ⟨h1, h2, fun loc a w1 Q hpc hf hw1 hQ => ?_⟩
      have := wantedS_sound hwt hf
      simp only at this
      unfold wpQuiet
      rw [if_neg (by rw [this]; simp)]
      exact h3 loc _ w1 Q hpc (hf.put (s := .undef) rfl o.dst) hw1 fun a' hf' hd => hQ a' hf' (by rw [hd]; cases o.dst <;> rfl)
    | some gs =>
      simp only [Option.bind_eq_some_iff] at h
      obtain ⟨⟨v, r, g1⟩, hop, h⟩ := h
      simp only [Option.bind_eq_some_iff] at h
      obtain ⟨v', hv', h⟩ := h
      cases r with
      | some rows1 => simp at h
      | none =>
        simp only at h
        obtain ⟨h1, h2, h3⟩ := execOps_quiet hX hI h hg
        have hok := op_ok (fr := fr) (rows := rows) (gs := gs) (pc := (guardPc pc gs g).1) (g := (guardPc pc gs g).2) hX hI o
        rw [hop] at hok
        obtain ⟨hg2, hq⟩ := hok h1
        have hgp := guardPc_good hg2
        refine ⟨hgp.1, h2, fun loc a w1 Q hpc hf hw1 hQ => ?_⟩
        have hwanted := wantedS_sound hwt hf
        simp only at hwanted
        unfold wpQuiet
        by_cases hh : Holds e gs
        · rw [if_pos (hwanted.2 hh)]
          obtain ⟨u, hu, hdo⟩ := hq loc a w1 (hgp.2.2 ⟨hpc, hh⟩) hh hf hw1
          exact ⟨u, fun w hw => (hdo w hw).quietAt, h3 loc _ w1 Q hpc (hf.put (condS_rel hv' (fun _ => hu) (fun h0 => absurd hh h0)) o.dst) hw1 fun a' hf' hd => hQ a' hf' (by rw [hd]; cases o.dst <;> rfl)⟩
        · rw [if_neg (fun h0 => hh (hwanted.1 h0))]
          exact h3 loc _ w1 Q hpc (hf.put (condS_rel hv' (fun h0 => absurd h0 hh) (fun _ => rfl)) o.dst) hw1 fun a' hf' hd => hQ a' hf' (by rw [hd]; cases o.dst <;> rfl)
theorem execOps_list (hX : XOK P T X) (hI : InlOK P T e w0 inl) {ops : List Oper} : ∀ {l : List Oper} {fr : List SV} {rows : List Row} {g : G} {fr' : List SV} {rows' : List Row} {g' : G},
    execOps X inl false ops pc l fr rows g = some (fr', rows', g') → Good T e g' → Good T e g ∧
      ∀ (loc : Loc) (a : Act) (w : World) (Q : Exit → Act → World → Prop), (pc.ev e).bool = true → FrRel e rows.length loc fr a.tmps → Cls e w0 loc rows w →
        (∀ (loc' : Loc) (a' : Act) (w' : World), LExt rows.length loc loc' → rows.length ≤ rows'.length → FrRel e rows'.length loc' fr' a'.tmps → a'.defers = a.defers → Cls e w0 loc' rows' w' → Q .normal a' w') →
          wpList P ops.toArray Q l a w
  | [], fr, rows, g, fr', rows', g', h, hg => by
    simp only [execOps, Option.some.injEq, Prod.mk.injEq] at h
    obtain ⟨rfl, rfl, rfl⟩ := h
    exact ⟨hg, fun loc a w Q _ hf hw hQ => hQ loc a w (LExt.refl _ _) (Nat.le_refl _) hf rfl hw⟩
  | o :: l, fr, rows, g, fr', rows', g', h, hg => by
    simp only [execOps, Option.bind_eq_bind, Option.bind_eq_some_iff] at h
    obtain ⟨wt, hwt, h⟩ := h
    cases wt with
    | none =>
      simp only at h
      obtain ⟨h1, h3⟩ := execOps_list hX hI h hg
      refine ⟨h1, fun loc a w Q hpc hf hw hQ => ?_⟩
      have := wantedS_sound hwt hf
      simp only at this
      unfold wpList
      rw [if_neg (by rw [this]; simp)]
      exact h3 loc _ w Q hpc (hf.put (s := .undef) rfl o.dst) hw fun loc' a' w' hx hl hf' hd hw' => hQ loc' a' w' hx hl hf' (by rw [hd]; cases o.dst <;> rfl) hw'
    | some gs =>
      simp only [Option.bind_eq_some_iff] at h
      obtain ⟨⟨v, r, g1⟩, hop, h⟩ := h
      simp only [Option.bind_eq_some_iff] at h
      obtain ⟨v', hv', h⟩ := h
      have hok := op_ok (fr := fr) (rows := rows) (gs := gs) (pc := (guardPc pc gs g).1) (g := (guardPc pc gs g).2) hX hI o
      rw [hop] at hok
      cases r with
      | none =>
        simp only at h
        obtain ⟨h1, h3⟩ := execOps_list hX hI h hg
        obtain ⟨hg2, hq⟩ := hok h1
        have hgp := guardPc_good hg2
        refine ⟨hgp.1, fun loc a w Q hpc hf hw hQ => ?_⟩
        have hwanted := wantedS_sound hwt hf
        simp only at hwanted
        unfold wpList
        by_cases hh : Holds e gs
        · rw [if_pos (hwanted.2 hh)]
          obtain ⟨u, hu, hdo⟩ := hq loc a w (hgp.2.2 ⟨hpc, hh⟩) hh hf hw
          refine .inl (((hdo w hw).does (R := fun u' w' => u' = u ∧ Cls e w0 loc rows w') hw fun w' hw' => ⟨rfl, hw'⟩).wp ?_)
          rintro u' w' ⟨rfl, hw'⟩
          exact h3 loc _ w' Q hpc (hf.put (condS_rel hv' (fun _ => hu) (fun h0 => absurd hh h0)) o.dst) hw' fun loc' a' w' hx hl hf' hd hw' => hQ loc' a' w' hx hl hf' (by rw [hd]; cases o.dst <;> rfl) hw'
        · rw [if_neg (fun h0 => hh (hwanted.1 h0))]
          exact h3 loc _ w Q hpc (hf.put (condS_rel hv' (fun h0 => absurd h0 hh) (fun _ => rfl)) o.dst) hw fun loc' a' w' hx hl hf' hd hw' => hQ loc' a' w' hx hl hf' (by rw [hd]; cases o.dst <;> rfl) hw'
      | some rows1 =>
        simp only [Bool.false_or] at h
        split at h
        · cases h
        · rename_i hge
          have hgs : gs = [] := by simpa using hge
          subst hgs
          have hhold : Holds e ([] : List (L × Bool)) := fun x hx => by cases hx
          obtain ⟨h1, h3⟩ := execOps_list hX hI h hg
          obtain ⟨hg2, hq⟩ := hok h1
          have hgp := guardPc_good hg2
          refine ⟨hgp.1, fun loc a w Q hpc hf hw hQ => ?_⟩
          have hwanted := wantedS_sound hwt hf
          simp only at hwanted
          unfold wpList
          rw [if_pos (hwanted.2 hhold)]
          refine .inl ((hq loc a w (hgp.2.2 ⟨hpc, hhold⟩) hhold hf hw).wp ?_)
          rintro u w' ⟨loc1, hx1, hl1, hu, hw1⟩
          have hv2 : v'.rel e rows1.length loc1 u := condS_rel hv' (fun _ => hu) (fun h0 => absurd hhold h0)
          exact h3 loc1 _ w' Q hpc ((hf.ext hx1 hl1).put hv2 o.dst) hw1 fun loc' a' w' hx hl hf' hd hw' => hQ loc' a' w' (hx1.trans hx hl1) (Nat.le_trans hl1 hl) hf' (by rw [hd]; cases o.dst <;> rfl) hw'
end
end Rx
namespace Rx
open Go Go.RowKit
theorem samesC_eq' : ∀ {a b : List C}, samesC a b = true → a = b
  | [], [], _ => rfl
  | [], _ :: _, h => by simp [samesC] at h
  | _ :: _, [], h => by simp [samesC] at h
  | a :: l, b :: m, h => by
    simp only [samesC, Bool.and_eq_true] at h
    rw [C.same_eq h.1, samesC_eq' h.2]
theorem knownSame_eq : ∀ {a b : List Known}, knownSame a b = true → a = b
  | [], [], _ => rfl
  | [], _ :: _, h => by simp [knownSame] at h
  | _ :: _, [], h => by simp [knownSame] at h
  | ⟨a1, a2, a3⟩ :: l, ⟨b1, b2, b3⟩ :: m, h => by
    simp only [knownSame, Bool.and_eq_true] at h
    obtain ⟨⟨⟨h1, h2⟩, h3⟩, h4⟩ := h
    rw [D.same_eq h1, L.beqs_eq h2, L.beqs_eq h3, knownSame_eq h4]
theorem defsSame_eq : ∀ {a b : List Def}, defsSame a b = true → a = b
  | [], [], _ => rfl
  | [], _ :: _, h => by simp [defsSame] at h
  | _ :: _, [], h => by simp [defsSame] at h
  | ⟨a1, a2, a3⟩ :: l, ⟨b1, b2, b3⟩ :: m, h => by
    simp only [defsSame, Bool.and_eq_true, beq_iff_eq, D.same, decide_eq_true_eq] at h
    obtain ⟨⟨⟨h1, h2⟩, h3⟩, h4⟩ := h
    rw [h1, h2, L.beqs_eq h3, defsSame_eq h4]
theorem PV.same_eq {a b : PV} (h : a.same b = true) : a = b := by
  cases a <;> cases b <;> simp [PV.same] at h
  · rw [C.same_eq h]
  · rw [samesC_eq' h]
theorem pvsSame_eq : ∀ {a b : List PV}, pvsSame a b = true → a = b
  | [], [], _ => rfl
  | [], _ :: _, h => by simp [pvsSame] at h
  | _ :: _, [], h => by simp [pvsSame] at h
  | a :: l, b :: m, h => by
    simp only [pvsSame, Bool.and_eq_true] at h
    rw [PV.same_eq h.1, pvsSame_eq h.2]
theorem gsSame_eq : ∀ {a b : List (L × Bool)}, gsSame a b = true → a = b
  | [], [], _ => rfl
  | [], _ :: _, h => by simp [gsSame] at h
  | _ :: _, [], h => by simp [gsSame] at h
  | (a, a') :: l, (b, b') :: m, h => by
    simp only [gsSame, Bool.and_eq_true, beq_iff_eq] at h
    rw [L.same_eq h.1.1, h.1.2, gsSame_eq h.2]
theorem SV.same_eq {a b : SV} (h : a.same b = true) : a = b := by
  cases a <;> cases b <;> simp [SV.same] at h
  · rw [PV.same_eq h]
  · rw [pvsSame_eq h]
  · rw [gsSame_eq h.1, PV.same_eq h.2]
  · rfl
  · rfl
theorem svsSame_eq : ∀ {a b : List SV}, svsSame a b = true → a = b
  | [], [], _ => rfl
  | [], _ :: _, h => by simp [svsSame] at h
  | _ :: _, [], h => by simp [svsSame] at h
  | a :: l, b :: m, h => by
    simp only [svsSame, Bool.and_eq_true] at h
    rw [SV.same_eq h.1, svsSame_eq h.2]
theorem lstSame_eq : ∀ {a b : Option Lst}, lstSame a b = true → a = b
  | none, none, _ => rfl
  | none, some _, h => by simp [lstSame] at h
  | some _, none, h => by simp [lstSame] at h
  | some ⟨a1, a2, a3, a4, a5⟩, some ⟨b1, b2, b3, b4, b5⟩, h => by
    simp only [lstSame, Bool.and_eq_true, beq_iff_eq] at h
    obtain ⟨⟨⟨⟨h1, h2⟩, h3⟩, h4⟩, h5⟩ := h
    rw [h1, h2, srtsSame_eq h3, L.same_eq h4, L.same_eq h5]
theorem rowsSame_eq : ∀ {a b : List Row}, rowsSame a b = true → a = b
  | [], [], _ => rfl
  | [], _ :: _, h => by simp [rowsSame] at h
  | _ :: _, [], h => by simp [rowsSame] at h
  | ⟨a1, a2, a3, a4, a5⟩ :: l, ⟨b1, b2, b3, b4, b5⟩ :: m, h => by
    simp only [rowsSame, Bool.and_eq_true, beq_iff_eq] at h
    obtain ⟨⟨⟨⟨⟨h1, h2⟩, h3⟩, h4⟩, h6⟩, h5⟩ := h
    rw [h1, h2, h3, samesC_eq' h4, lstSame_eq h6, rowsSame_eq h5]
theorem boolsSame_eq : ∀ {a b : List Bool}, boolsSame a b = true → a = b
  | [], [], _ => rfl
  | [], _ :: _, h => by simp [boolsSame] at h
  | _ :: _, [], h => by simp [boolsSame] at h
  | a :: l, b :: m, h => by
    simp only [boolsSame, Bool.and_eq_true, beq_iff_eq] at h
    rw [h.1, boolsSame_eq h.2]
theorem Nd.same_eq {a b : Nd} (hl : a.listed = b.listed) (h : a.same b = true) : a = b := by
  obtain ⟨a1, a2, a3, a4, a5, a6, a7⟩ := a
  obtain ⟨b1, b2, b3, b4, b5, b6, b7⟩ := b
  simp only [Nd.same, Bool.and_eq_true, beq_iff_eq] at h
  obtain ⟨⟨⟨⟨⟨h1, h2⟩, h3⟩, h4⟩, h5⟩, h6⟩ := h
  simp only at hl
  rw [hl, svsSame_eq h1, rowsSame_eq h2, h3, defsSame_eq h4, L.beqs_eq h5, knownSame_eq h6]
theorem insNd_mem {n : Nd} : ∀ {l r : List Nd}, insNd n l = some r → n ∈ r ∧ ∀ m ∈ l, m ∈ r
  | [], r, h => by
    simp only [insNd, Option.some.injEq] at h
    subst h
    exact ⟨by simp, fun m hm => by cases hm⟩
  | m :: l, r, h => by
    simp only [insNd] at h
    split at h
    · rename_i hb
      split at h
      · rename_i hs
        injection h with h
        subst h
        rw [← Nd.same_eq (boolsSame_eq hb) hs]
        exact ⟨by simp, fun x hx => hx⟩
      · cases h
    · simp only [Option.bind_eq_bind, Option.bind_eq_some_iff, Option.some.injEq] at h
      obtain ⟨r', hr, rfl⟩ := h
      obtain ⟨h1, h2⟩ := insNd_mem hr
      exact ⟨by simp [h1], fun x hx => by
        rcases List.mem_cons.1 hx with rfl | hx
        · simp
        · simp [h2 x hx]⟩
theorem insAll_mem : ∀ {ns l r : List Nd}, insAll ns l = some r → (∀ m ∈ ns, m ∈ r) ∧ ∀ m ∈ l, m ∈ r
  | [], l, r, h => by
    simp only [insAll, Option.some.injEq] at h
    subst h
    exact ⟨fun m hm => (by cases hm), fun m hm => hm⟩
  | n :: ns, l, r, h => by
    simp only [insAll, Option.bind_eq_bind, Option.bind_eq_some_iff] at h
    obtain ⟨l', h1, h2⟩ := h
    obtain ⟨a1, a2⟩ := insNd_mem h1
    obtain ⟨b1, b2⟩ := insAll_mem h2
    exact ⟨fun m hm => by
      rcases List.mem_cons.1 hm with rfl | hm
      · exact b2 _ a1
      · exact b1 m hm, fun m hm => b2 _ (a2 m hm)⟩
theorem stepAll_mem {X : Ctx} {inl : Inline} {ops : List Oper} {pc : L} : ∀ {l out r : List Nd}, stepAll X inl ops pc l out = some r → (∀ nd ∈ l, ∃ ns, succs X inl ops pc nd = some ns ∧ ∀ m ∈ ns, m ∈ r) ∧ ∀ m ∈ out, m ∈ r
  | [], out, r, h => by
    simp only [stepAll, Option.some.injEq] at h
    subst h
    exact ⟨fun nd hnd => (by cases hnd), fun m hm => hm⟩
  | nd :: l, out, r, h => by
    simp only [stepAll, Option.bind_eq_bind, Option.bind_eq_some_iff] at h
    obtain ⟨ns, h1, out', h2, h3⟩ := h
    obtain ⟨a1, a2⟩ := insAll_mem h2
    obtain ⟨b1, b2⟩ := stepAll_mem h3
    exact ⟨fun x hx => by
      rcases List.mem_cons.1 hx with rfl | hx
      · exact ⟨ns, h1, fun m hm => b2 _ (a1 m hm)⟩
      · exact b1 x hx, fun m hm => b2 _ (a2 m hm)⟩
end Rx
namespace Rx
open Go Go.RowKit
section
variable {T : Nat → List A → Bool × List A} {e : Nat → A} {n n' : Nat} {loc loc' : Loc} {P : Program} {X : Ctx} {w0 : World}
variable {fr : List SV} {rows : List Row} {gs : List (L × Bool)} {pc : L} {o : Oper} {g : G} {inl : Inline}
theorem Oper.wp_then {K : Act → World → Prop} {Q : Exit → Act → World → Prop} {a : Act} {w : World} (h : o.wp P a w K (Exit.then K Q)) : o.wp P a w K Q := by
  unfold Oper.wp at *
  generalize (Go.execOp a.eval o).run P w = r at *
  cases r with
  | ok n w' =>
    cases n <;> simp only [Oper.upon] at h ⊢ <;> first | exact h | exact Calls.mono h (fun e w'' he => by cases e <;> exact he)
  | halt x w' => cases x <;> simp only [Oper.upon] at h ⊢ <;> exact h
theorem stepOne_sound (hX : XOK P T X) (hI : InlOK P T e w0 inl) {ops : List Oper} {nd nd' : Nd} {i : Nat} (h : stepOne X inl ops pc nd i = some nd') (hg : Good T e nd'.g) :
    nd'.listed = nd.listed.set i true ∧ Good T e nd.g ∧ ∀ (loc : Loc) (a : Act) (w : World) (K : Act → World → Prop) (Q : Exit → Act → World → Prop), (pc.ev e).bool = true → FrRel e nd.rows.length loc nd.fr a.tmps → Cls e w0 loc nd.rows w →
      (∀ (loc' : Loc) (a' : Act) (w' : World), LExt nd.rows.length loc loc' → nd.rows.length ≤ nd'.rows.length → FrRel e nd'.rows.length loc' nd'.fr a'.tmps → a'.defers = a.defers → Cls e w0 loc' nd'.rows w' → K a' w') → wpOp P ops.toArray Q i K a w := by
  simp only [stepOne, Option.bind_eq_bind, Option.bind_eq_some_iff, Option.some.injEq] at h
  obtain ⟨o, ho, ⟨fr1, rows1, g1⟩, hex, rfl⟩ := h
  obtain ⟨k1, k2⟩ := execOps_list hX hI hex hg
  refine ⟨rfl, k1, fun loc a w K Q hpc hf hw hK => ?_⟩
  have := k2 loc a w (Exit.then K Q) hpc hf hw hK
  unfold wpOp
  have ho' : ops.toArray[i]? = some o := by simpa using ho
  rw [ho']
  simp only
  unfold wpList at this
  split
  · rename_i hwt
    rw [if_pos hwt] at this
    rcases this with h1 | h1
    · exact .inl (Oper.wp_then h1)
    · exact .inr h1
  · rename_i hwt
    rw [if_neg hwt] at this
    exact this
theorem mapO_mem {α β : Type} {f : α → Option β} : ∀ {l : List α} {r : List β}, mapO f l = some r → ∀ a ∈ l, ∃ b ∈ r, f a = some b
  | [], r, _, a, ha => by cases ha
  | x :: l, r, h, a, ha => by
    simp only [mapO, Option.bind_eq_bind, Option.bind_eq_some_iff, Option.some.injEq] at h
    obtain ⟨b, hb, r', hr, rfl⟩ := h
    rcases List.mem_cons.1 ha with rfl | ha
    · exact ⟨b, by simp, hb⟩
    · obtain ⟨b', h1, h2⟩ := mapO_mem hr a ha
      exact ⟨b', by simp [h1], h2⟩
theorem explore_sound (hX : XOK P T X) (hI : InlOK P T e w0 inl) {ops : List Oper} (hns : Region.noSelect ops.toArray = true) {E : Nd} (hE : Region.ready .any ops.toArray E.listed.toArray = []) (hg : Good T e E.g) :
    ∀ (k : Nat) (l : List Nd), explore X inl ops pc k l = some [E] → ∀ nd ∈ l, Good T e nd.g ∧
      ∀ (loc : Loc) (a : Act) (w : World) (Q : Exit → Act → World → Prop), (pc.ev e).bool = true → FrRel e nd.rows.length loc nd.fr a.tmps → Cls e w0 loc nd.rows w →
        (∀ c a w, ¬ Q (.panic c) a w) → ¬ LetsOut Q →
        (∀ (loc' : Loc) (a' : Act) (w' : World), LExt nd.rows.length loc loc' → nd.rows.length ≤ E.rows.length → FrRel e E.rows.length loc' E.fr a'.tmps → a'.defers = a.defers → Cls e w0 loc' E.rows w' → Q .normal a' w') →
          wpAny P .any ops.toArray Q k nd.listed.toArray a w
  | 0, l, h, nd, hnd => by
    simp only [explore, Option.some.injEq] at h
    subst h
    simp only [List.mem_singleton] at hnd
    subst hnd
    exact ⟨hg, fun loc a w Q hpc hf hw _ _ hQ => ⟨hE, hQ loc a w (LExt.refl _ _) (Nat.le_refl _) hf rfl hw⟩⟩
  | k + 1, l, h, nd, hnd => by
    simp only [explore, Option.bind_eq_bind, Option.bind_eq_some_iff] at h
    obtain ⟨l', h1, h2⟩ := h
    obtain ⟨ns, hs, hmem⟩ := (stepAll_mem h1).1 nd hnd
    have ih := explore_sound hX hI hns hE hg k l' h2
    have hset : ∀ i, (nd.listed.set i true).toArray = nd.listed.toArray.setIfInBounds i true := fun i => by simp
    have step : ∀ i n, stepOne X inl ops pc nd i = some n → n ∈ l' → Good T e nd.g ∧ ∀ (loc : Loc) (a : Act) (w : World) (Q : Exit → Act → World → Prop), (pc.ev e).bool = true → FrRel e nd.rows.length loc nd.fr a.tmps → Cls e w0 loc nd.rows w →
        (∀ c a w, ¬ Q (.panic c) a w) → ¬ LetsOut Q →
        (∀ (loc' : Loc) (a' : Act) (w' : World), LExt nd.rows.length loc loc' → nd.rows.length ≤ E.rows.length → FrRel e E.rows.length loc' E.fr a'.tmps → a'.defers = a.defers → Cls e w0 loc' E.rows w' → Q .normal a' w') →
          wpOp P ops.toArray Q i (wpAny P .any ops.toArray Q k (nd.listed.toArray.setIfInBounds i true)) a w := fun i n hn hm => by
      obtain ⟨i1, i2⟩ := ih n hm
      obtain ⟨s1, s2, s3⟩ := stepOne_sound hX hI hn i1
      refine ⟨s2, fun loc a w Q hpc hf hw hp ho hQ => s3 loc a w _ Q hpc hf hw fun loc1 a1 w1 q1 q2 q3 q4 q5 => ?_⟩
      have := i2 loc1 a1 w1 Q hpc q3 q5 hp ho fun loc' a' w' r1 r2 r3 r4 r5 => hQ loc' a' w' (q1.trans r1 q2) (Nat.le_trans q2 r2) r3 (r4.trans q4) r5
      rw [s1, hset] at this
      exact this
    unfold succs at hs
    simp only at hs
    split at hs
    · rename_i i hfind
      simp only [Option.bind_eq_bind, Option.bind_eq_some_iff, Option.some.injEq] at hs
      obtain ⟨n, hn, rfl⟩ := hs
      obtain ⟨s1, s2⟩ := step i n hn (hmem n (by simp))
      have hready := List.mem_of_find?_eq_some hfind
      have hpure := List.find?_some hfind
      refine ⟨s1, fun loc a w Q hpc hf hw hp ho hQ => ?_⟩
      have hop := s2 loc a w Q hpc hf hw hp ho hQ
      unfold pureAt at hpure
      split at hpure
      · rename_i o hoi
        have hoi' : ops.toArray[i]? = some o := by simpa using hoi
        have key : ∀ x, (∀ (ρ : Operand → Value), Go.execOp ρ o = pure (.value (ρ x))) → Region.free .any ops.toArray nd.listed.toArray i = true → wpAny P .any ops.toArray Q (k + 1) nd.listed.toArray a w := fun x hx hfree => by
          have hrun : ∀ w, (Go.execOp a.eval o).run P w = .ok (.value (a.eval x)) w := fun w => by rw [hx]; simp
          unfold wpOp at hop
          rw [hoi'] at hop
          simp only at hop
          by_cases hwt : Region.wanted o (yielded ops.toArray a.tmps) = true
          · rw [if_pos hwt] at hop
            refine wpAny_take hoi' hns hfree (by simpa using hready) (fun c a w h0 => absurd h0 (hp _ _ _)) (v := a.eval x) (.inl ⟨hwt, hrun⟩) ?_
            rcases hop with h1 | h1
            · unfold Oper.wp at h1
              rw [hrun] at h1
              exact h1
            · exact absurd h1.2 ho
          · rw [if_neg hwt] at hop
            exact wpAny_take hoi' hns hfree (by simpa using hready) (fun c a w h0 => absurd h0 (hp _ _ _)) (v := undef) (.inr ⟨by simpa using hwt, rfl⟩) hop
        split at hpure
        · rename_i x hox
          exact key x (fun ρ => by simp [Go.execOp, hox]) hpure
        · rename_i x hox
          exact key x (fun ρ => by simp [Go.execOp, hox]) hpure
        · cases hpure
      · cases hpure
    · split at hs
      · cases hs
      · rename_i hne
        have hne : Region.ready .any ops.toArray nd.listed.toArray ≠ [] := by simpa using hne
        have hall := mapO_mem hs
        refine ⟨?_, fun loc a w Q hpc hf hw hp ho hQ => ⟨fun h0 => absurd h0 hne, fun i hi => ?_⟩⟩
        · obtain ⟨i, hi⟩ := List.exists_mem_of_ne_nil _ hne
          obtain ⟨n, hn1, hn2⟩ := hall i hi
          exact (step i n hn2 (hmem n hn1)).1
        · obtain ⟨n, hn1, hn2⟩ := hall i hi
          exact (step i n hn2 (hmem n hn1)).2 loc a w Q hpc hf hw hp ho hQ
theorem execRegion_sound (hX : XOK P T X) (hI : InlOK P T e w0 inl) {ops : List Oper} {draw : Bool} {S S' : St} {g g' : G} (h : execRegion X inl ops draw S g = some (S', g')) (hg : Good T e g') :
    Good T e g ∧ S'.pc = S.pc ∧ ∀ (id : Nat) (loc : Loc) (a : Act) (w : World) (Q : Exit → Act → World → Prop), (S.pc.ev e).bool = true → FrRel e S.rows.length loc S.fr a.tmps → Cls e w0 loc S.rows w →
      (∀ (loc' : Loc) (a' : Act) (w' : World), LExt S.rows.length loc loc' → S.rows.length ≤ S'.rows.length → FrRel e S'.rows.length loc' S'.fr a'.tmps → a'.defers = a.defers → Cls e w0 loc' S'.rows w' → Q .normal a' w') →
        (Code.region id ops.toArray draw).wp P Q a w := by
  have drew : ∀ {loc : Loc} {rows : List Row} {w : World}, Cls e w0 loc rows w → Cls e w0 loc rows { w with drawn := w.drawn + 1 } := fun {loc rows w} hw =>
    hw.of_below ⟨rfl, rfl, rfl, Nat.le_refl _, fun _ _ => rfl⟩
  unfold execRegion at h
  split at h
  · rename_i hd
    subst hd
    split at h
    · split at h
      · rename_i hB
        simp only [Option.bind_eq_bind, Option.bind_eq_some_iff] at h
        obtain ⟨⟨fr1, rows1, g1⟩, h1, h⟩ := h
        simp only [Option.some.injEq, Prod.mk.injEq] at h
        obtain ⟨rfl, rfl⟩ := h
        obtain ⟨k1, rfl, k3⟩ := execOps_quiet hX hI h1 hg
        refine ⟨k1, rfl, fun id loc a w Q hpc hf hw hQ => ?_⟩
        refine wp_region_quiet (C := Cls e w0 loc S.rows) hX.mixed hB (drew hw) ?_
        exact k3 loc a w _ hpc hf hw fun a' hf' hd w' hw' => hQ loc a' w' (LExt.refl _ _) (Nat.le_refl _) hf' hd hw'
      · cases h
    · split at h
      · rename_i hB
        simp only [Option.bind_eq_bind, Option.bind_eq_some_iff] at h
        obtain ⟨⟨fr1, rows1, g1⟩, h1, ⟨fr2, rows2, g2⟩, h2, h⟩ := h
        simp only [Option.some.injEq, Prod.mk.injEq] at h
        obtain ⟨rfl, rfl⟩ := h
        obtain ⟨k1, k2⟩ := execOps_list hX hI h2 hg
        obtain ⟨q1, rfl, q3⟩ := execOps_quiet hX hI h1 k1
        refine ⟨q1, rfl, fun id loc a w Q hpc hf hw hQ => ?_⟩
        refine wp_region_split (Cl := Cls e w0 loc S.rows) hX.mixed hB (drew hw) ?_
        exact q3 loc a w _ hpc hf hw fun a' hf' hd w' hw' => k2 loc a' w' Q hpc hf' hw' fun loc' a'' w'' hx hl hf'' hd' hw'' => hQ loc' a'' w'' hx hl hf'' (by rw [hd', hd]) hw''
      · split at h
        · rename_i hns
          split at h
          · rename_i E hex
            split at h
            · rename_i hE
              simp only [Option.some.injEq, Prod.mk.injEq] at h
              obtain ⟨rfl, rfl⟩ := h
              have hE : Region.ready .any ops.toArray E.listed.toArray = [] := by simpa using hE
              obtain ⟨k1, k2⟩ := explore_sound hX hI hns hE hg _ _ hex _ (List.mem_singleton.2 rfl)
              refine ⟨k1, rfl, fun id loc a w Q hpc hf hw hQ => ?_⟩
              refine wp_mono (Q := fun e a w => match e with | .normal => Q .normal a w | _ => False) ?_ (fun e a w h0 => by cases e <;> first | exact h0 | exact h0.elim)
              refine wp_region_any hX.mixed ?_
              have := k2 loc a { w with drawn := w.drawn + 1 } (fun e a w => match e with | .normal => Q .normal a w | _ => False) hpc hf (drew hw) (fun _ _ _ h0 => h0) (fun ⟨_, _, h0⟩ => h0) hQ
              simpa using this
            · cases h
          · cases h
        · cases h
  · rename_i hd
    have hd : draw = false := by simpa using hd
    subst hd
    simp only [Option.bind_eq_bind, Option.bind_eq_some_iff] at h
    obtain ⟨⟨fr1, rows1, g1⟩, h1, h⟩ := h
    simp only [Option.some.injEq, Prod.mk.injEq] at h
    obtain ⟨rfl, rfl⟩ := h
    obtain ⟨k1, k2⟩ := execOps_list hX hI h1 hg
    exact ⟨k1, rfl, fun id loc a w Q hpc hf hw hQ => wp_region_lit (k2 loc a w Q hpc hf hw hQ)⟩
end
end Rx
namespace Rx
open Go Go.RowKit
section
variable {T : Nat → List A → Bool × List A} {e : Nat → A} {n n' : Nat} {loc loc' : Loc} {P : Program} {X : Ctx} {w0 : World}
theorem Xit.same_iff {x y : Xit} : x.same y = true ↔ x = y := by
  cases x <;> cases y <;> simp [Xit.same]
theorem get_self {x : Xit} {s : St} {l : Outs} : Outs.get x ((x, s) :: l) = some s := by
  simp [Outs.get, Xit.same_iff]
theorem get_ne {x y : Xit} {s : St} {l : Outs} (h : x ≠ y) : Outs.get x ((y, s) :: l) = Outs.get x l := by
  have : x.same y = false := by
    cases hs : x.same y with
    | false => rfl
    | true => exact absurd (Xit.same_iff.1 hs) h
  simp [Outs.get, this]
theorem get_drop_ne {x y : Xit} (h : x ≠ y) : ∀ {l : Outs}, Outs.get x (Outs.drop y l) = Outs.get x l
  | [] => rfl
  | (z, s) :: l => by
    unfold Outs.drop
    split
    · rename_i hz
      have hz := Xit.same_iff.1 hz
      subst hz
      rw [get_ne h, get_drop_ne h]
    · by_cases hxz : x = z
      · subst hxz
        rw [get_self, get_self]
      · rw [get_ne hxz, get_ne hxz, get_drop_ne h]
theorem get_drop {x : Xit} : ∀ {l : Outs}, Outs.get x (Outs.drop x l) = none
  | [] => rfl
  | (z, s) :: l => by
    unfold Outs.drop
    split
    · exact get_drop
    · rename_i hz
      rw [get_ne (fun h0 => hz (Xit.same_iff.2 h0)), get_drop]
def Ref (e : Nat → A) (w0 : World) (s u : St) : Prop :=
  ∀ (loc : Loc) (tm : Array Value) (w : World), FrRel e s.rows.length loc s.fr tm → Cls e w0 loc s.rows w → ∃ loc' : Loc, LExt s.rows.length loc loc' ∧ s.rows.length ≤ u.rows.length ∧ FrRel e u.rows.length loc' u.fr tm ∧ Cls e w0 loc' u.rows w
theorem Ref.refl (s : St) : Ref e w0 s s := fun loc _ _ h h' => ⟨loc, LExt.refl _ _, Nat.le_refl _, h, h'⟩
theorem Ref.pc {s : St} (pc : L) : Ref e w0 s { s with pc } := fun loc _ _ h h' => ⟨loc, LExt.refl _ _, Nat.le_refl _, h, h'⟩
theorem Ref.trans {s t u : St} (h1 : Ref e w0 s t) (h2 : Ref e w0 t u) : Ref e w0 s u := fun loc tm w a b => by
  obtain ⟨l1, x1, n1, f1, c1⟩ := h1 loc tm w a b
  obtain ⟨l2, x2, n2, f2, c2⟩ := h2 l1 tm w f1 c1
  exact ⟨l2, x1.trans x2 n1, Nat.le_trans n1 n2, f2, c2⟩
theorem mvK_rel {N r R : Nat} {k : K} {v : Value} (h : k.rel e N loc v) (hR : N ≤ R) : (mvK r R k).rel e (R + 1) (locNew loc R (loc r)) v := by
  have hx : LExt N loc (locNew loc R (loc r)) := fun s hs => by simp [locNew, Nat.ne_of_lt (Nat.lt_of_lt_of_le hs hR)]
  unfold mvK
  split
  · rename_i r' m
    split
    · rename_i hr
      have hr : r' = r := by simpa using hr
      subst hr
      obtain ⟨h1, h2, h3⟩ := h
      simp only [K.ok] at h1
      refine ⟨⟨by omega, h1.2.1, fun he => ?_⟩, h2, .inr ?_⟩
      · rw [locNew_at] at he ⊢
        exact h1.2.2 he
      · rcases h3 with h3 | h3
        · cases h3
        · rw [h3]
          simp only [K.sem]
          rw [locNew_at]
    · exact K.rel_ext h hx (by omega)
  · exact K.rel_ext h hx (by omega)
theorem mvC_rel {N r R : Nat} {k : C} {v : Value} (h : k.rel e N loc v) (hR : N ≤ R) : (mvC r R k).rel e (R + 1) (locNew loc R (loc r)) v := by
  cases k with
  | k x => exact mvK_rel h hR
  | clo f a b =>
    have hx : LExt N loc (locNew loc R (loc r)) := fun s hs => by simp [locNew, Nat.ne_of_lt (Nat.lt_of_lt_of_le hs hR)]
    exact C.rel_ext h hx (by omega)
theorem mvCs_rel {N r R : Nat} (hR : N ≤ R) : ∀ {l : List C} {vs : List Value}, CsRel e N loc l vs → CsRel e (R + 1) (locNew loc R (loc r)) (l.map (mvC r R)) vs
  | [], [], _ => trivial
  | _ :: _, _ :: _, h => ⟨mvC_rel h.1 hR, mvCs_rel hR h.2⟩
theorem mvPV_rel {N r R : Nat} {p : PV} {v : Value} (h : p.rel e N loc v) (hR : N ≤ R) : (mvPV r R p).rel e (R + 1) (locNew loc R (loc r)) v := by
  cases p with
  | one c => exact mvC_rel h hR
  | agg l => obtain ⟨vs, h1, h2⟩ := h; exact ⟨vs, h1, mvCs_rel hR h2⟩
theorem mvPVs_rel {N r R : Nat} (hR : N ≤ R) : ∀ {l : List PV} {vs : List Value}, PVsRel e N loc l vs → PVsRel e (R + 1) (locNew loc R (loc r)) (l.map (mvPV r R)) vs
  | [], [], _ => trivial
  | _ :: _, _ :: _, h => ⟨mvPV_rel h.1 hR, mvPVs_rel hR h.2⟩
theorem mvSV_rel {N r R : Nat} {p : SV} {v : Value} (h : p.rel e N loc v) (hR : N ≤ R) : (mvSV r R p).rel e (R + 1) (locNew loc R (loc r)) v := by
  cases p with
  | pv p => exact mvPV_rel h hR
  | tup l => obtain ⟨vs, h1, h2⟩ := h; exact ⟨vs, h1, mvPVs_rel hR h2⟩
  | cond gs p => exact ⟨fun hg => mvPV_rel (h.1 hg) hR, h.2⟩
  | undef => exact h
  | junk => trivial
theorem RowsOK.pad {rows : List Row} {w : World} {B : Nat} (h : RowsOK e loc rows w B) (R : Nat) : RowsOK e loc (padRows rows R) w B := by
  have split_ : ∀ (s : Nat) (y : Row), (padRows rows R)[s]? = some y → rows[s]? = some y ∨ y = Row.dead := fun s y hs => by
    unfold padRows at hs
    rw [List.getElem?_append] at hs
    split at hs
    · exact .inl hs
    · have := List.mem_of_getElem? hs
      rw [List.mem_replicate] at this
      exact .inr this.2
  have own_ : ∀ (s : Nat) (y : Row), (padRows rows R)[s]? = some y → (y.own = true ∨ y.lst ≠ none) → rows[s]? = some y := fun s y hs hy => by
    rcases split_ s y hs with h1 | rfl
    · exact h1
    · simp [Row.dead] at hy
  refine ⟨fun s y hs => ?_, fun s y q hs hq => h.lst s y q (own_ s y hs (.inr (by simp [hq]))) hq, fun s t x y hs ht ox oy => ?_, fun s t x y hs ht ox oy hne => h.apart s t x y (own_ s x hs (.inl ox)) (own_ t y ht (.inl oy)) ox oy hne⟩
  · rcases split_ s y hs with h1 | rfl
    · exact (h.row s y h1).ext (lt_of_get h1) (LExt.refl _ _) (by simp [padRows])
    · exact Row.dead_ok
  · obtain ⟨q, q1, q2, q3⟩ := ox
    refine h.lapart s t x y (own_ s x hs (.inr (by simp [q1]))) (own_ t y ht ?_) ⟨q, q1, q2, q3⟩ oy
    rcases oy with oy | ⟨⟨p, p1, _⟩, _⟩
    · exact .inl oy
    · exact .inr (by simp [p1])
theorem mvSt_pc {r R : Nat} {s : St} : (mvSt r R s).pc = s.pc := by
  unfold mvSt
  split
  · split
    · split <;> rfl
    · rfl
  · rfl
theorem mvSt_len {r R : Nat} {s : St} (h : s.rows.length ≤ R) : (mvSt r R s).rows.length ≤ R + 1 := by
  unfold mvSt
  split
  · split
    · split
      · simp [newLst, padRows]; omega
      · omega
    · omega
  · omega
theorem mvSt_ref {r R : Nat} {s : St} : Ref e w0 s (mvSt r R s) := by
  unfold mvSt
  split
  · rename_i row hrow
    split
    · rename_i q hq
      split
      · rename_i hc
        simp only [Bool.and_eq_true, decide_eq_true_eq] at hc
        obtain ⟨c1, c2⟩ := hc
        intro loc tm w hf hcl
        have hlen : (padRows (s.rows.set r Row.dead) R).length = R := by simp [padRows]; omega
        have hl := (hcl.1.lst r row q hrow hq).2
        have hr1 := lt_of_get hrow
        have hadd := ((hcl.1.kill r).pad R).addL (x := loc r) (q := q) c1 (fun he s' y hs ho => ?_) (hl.at_ (by rw [hlen]; exact locNew_at _ _ _))
        · rw [hlen] at hadd
          refine ⟨locNew loc R (loc r), fun s' hs' => by simp [locNew, Nat.ne_of_lt (Nat.lt_of_lt_of_le hs' c2)], by simp only [newLst, List.length_append, hlen]; simp; omega, ?_, hadd, hcl.2⟩
          have hlen2 : (newLst (padRows (s.rows.set r Row.dead) R) q).length = R + 1 := by simp [newLst, hlen]
          rw [hlen2]
          refine ⟨by simpa using hf.len, fun i t v ht hv => ?_⟩
          rw [List.getElem?_map] at ht
          cases hs : s.fr[i]? with
          | none => rw [hs] at ht; cases ht
          | some x =>
            rw [hs] at ht
            simp only [Option.map_some, Option.some.injEq] at ht
            subst ht
            exact mvSV_rel (hf.at_ i x v hs hv) c2
        · have hy : s' ≠ r ∧ s.rows[s']? = some y := by
            unfold padRows at hs
            rw [List.getElem?_append] at hs
            split at hs
            · by_cases hsr : s' = r
              · subst hsr
                rw [List.getElem?_set_self hr1] at hs
                injection hs with hs
                subst hs
                rcases ho with ho | ⟨_, ho, _⟩ <;> simp [Row.dead] at ho
              · exact ⟨hsr, by rwa [List.getElem?_set_ne (Ne.symm hsr)] at hs⟩
            · have := List.mem_of_getElem? hs
              rw [List.mem_replicate] at this
              rw [this.2] at ho
              rcases ho with ho | ⟨_, ho, _⟩ <;> simp [Row.dead] at ho
          refine (hcl.1.lapart r s' row y hrow hy.2 ⟨q, hq, c1, he⟩ ?_).symm
          rcases ho with ho | ho
          · exact .inl ho
          · exact .inr ⟨ho, Ne.symm hy.1⟩
      · exact Ref.refl _
    · exact Ref.refl _
  · exact Ref.refl _
theorem alignSt_ref : ∀ {l : List (Nat × Nat)} {R : Nat} {s t : St}, s.rows.length ≤ R → t.rows.length ≤ R →
    Ref e w0 s (alignSt l R (s, t)).1 ∧ Ref e w0 t (alignSt l R (s, t)).2 ∧ (alignSt l R (s, t)).1.pc = s.pc ∧ (alignSt l R (s, t)).2.pc = t.pc
  | [], R, s, t, _, _ => ⟨Ref.refl _, Ref.refl _, rfl, rfl⟩
  | (a, b) :: l, R, s, t, hs, ht => by
    obtain ⟨h1, h2, h3, h4⟩ := alignSt_ref (l := l) (R := R + 1) (s := mvSt a R s) (t := mvSt b R t) (mvSt_len hs) (mvSt_len ht)
    exact ⟨mvSt_ref.trans h1, mvSt_ref.trans h2, h3.trans mvSt_pc, h4.trans mvSt_pc⟩
theorem mergePc_good {c : L} {both : Option (L × L × L)} {s t : L} {g : G} (h : Good T e (mergePc c both s t g).2)
    (hb : ∀ p x y, both = some (p, x, y) → (x.ev e).bool = ((p.ev e).bool && (c.ev e).bool) ∧ (y.ev e).bool = ((p.ev e).bool && !(c.ev e).bool)) :
    Good T e g ∧ ((mergePc c both s t g).1.ev e).bool = ((pick (c.ev e).bool s t).ev e).bool := by
  unfold mergePc at h ⊢
  split at h
  · rename_i p x y
    split at h
    · rename_i hs
      simp only [hs, if_true]
      simp only [Bool.and_eq_true] at hs
      obtain ⟨b1, b2⟩ := hb _ _ _ rfl
      rw [← L.same_eq hs.1] at b1
      rw [← L.same_eq hs.2] at b2
      refine ⟨h, ?_⟩
      cases hc : (c.ev e).bool <;> simp [pick, hc] at b1 b2 ⊢
      · exact b2.symm
      · exact b1.symm
    · rename_i hs
      simp only [hs, Bool.false_eq_true, if_false]
      have := mkIteB_good h
      refine ⟨this.1, this.2.trans ?_⟩
      cases hc : (c.ev e).bool <;> simp [pick]
  · have := mkIteB_good h
    refine ⟨this.1, this.2.trans ?_⟩
    cases hc : (c.ev e).bool <;> simp [pick]
theorem mergeSt_good {c : L} {both : Option (L × L × L)} {s t : St} {g : G} (h : Good T e (mergeSt c both s t g).2)
    (hb : ∀ p x y, both = some (p, x, y) → (x.ev e).bool = ((p.ev e).bool && (c.ev e).bool) ∧ (y.ev e).bool = ((p.ev e).bool && !(c.ev e).bool)) :
    Good T e g ∧ Ref e w0 (pick (c.ev e).bool s t) (mergeSt c both s t g).1 ∧ ((mergeSt c both s t g).1.pc.ev e).bool = ((pick (c.ev e).bool s t).pc.ev e).bool := by
  unfold mergeSt at h ⊢
  obtain ⟨ra, rb, pa, pb⟩ := alignSt_ref (e := e) (w0 := w0) (l := unlike s.fr t.fr []) (R := max s.rows.length t.rows.length) (s := s) (t := t) (by omega) (by omega)
  generalize alignSt (unlike s.fr t.fr []) (max s.rows.length t.rows.length) (s, t) = st at h ra rb pa pb ⊢
  obtain ⟨s', t'⟩ := st
  simp only at h ra rb pa pb ⊢
  suffices hh : Good T e g ∧ Ref e w0 (pick (c.ev e).bool s' t') ⟨(mergeFr c s'.fr t'.fr g).1, (mergeRows c s'.rows t'.rows (mergeFr c s'.fr t'.fr g).2).1, (mergePc c both s'.pc t'.pc (mergeRows c s'.rows t'.rows (mergeFr c s'.fr t'.fr g).2).2).1⟩ ∧
      ((mergePc c both s'.pc t'.pc (mergeRows c s'.rows t'.rows (mergeFr c s'.fr t'.fr g).2).2).1.ev e).bool = ((pick (c.ev e).bool s' t').pc.ev e).bool by
    obtain ⟨k1, k2, k3⟩ := hh
    refine ⟨k1, Ref.trans ?_ k2, k3.trans ?_⟩
    · cases hc : (c.ev e).bool
      · exact rb
      · exact ra
    · cases hc : (c.ev e).bool
      · simp only [pick, Bool.false_eq_true, if_false, pb]
      · simp only [pick, if_true, pa]
  revert h
  generalize s' = s
  generalize t' = t
  intro h
  obtain ⟨hg1, hpc1⟩ := mergePc_good h hb
  have hr := mergeRows_good hg1
  have hf := mergeFr_good hr.1
  refine ⟨hf.1, fun loc tm w h1 h2 => ?_, ?_⟩
  · have q1 : (pick (c.ev e).bool s t).fr = pick (c.ev e).bool s.fr t.fr := by cases (c.ev e).bool <;> rfl
    have q2 : (pick (c.ev e).bool s t).rows = pick (c.ev e).bool s.rows t.rows := by cases (c.ev e).bool <;> rfl
    rw [q1, q2] at h1
    rw [q2] at h2 ⊢
    have hlen : (pick (c.ev e).bool s.rows t.rows).length ≤ (mergeRows c s.rows t.rows (mergeFr c s.fr t.fr g).2).1.length := by
      cases hc : (c.ev e).bool
      · exact hr.2.2.1
      · exact hr.2.1
    exact ⟨loc, LExt.refl _ _, hlen, (FrRel.merge hr.1 h1).ext (LExt.refl _ _) hlen, RowsOK.merge hg1 h2.1, h2.2⟩
  · rw [hpc1]
    cases (c.ev e).bool <;> rfl
theorem addPc_good {nc : L} : ∀ {o : Outs} {g : G}, Good T e (addPc nc o g).2 → Good T e g ∧
    (∀ x u, Outs.get x (addPc nc o g).1 = some u → (u.pc.ev e).bool = true → (nc.ev e).bool = true ∧ ∃ t, Outs.get x o = some t ∧ (t.pc.ev e).bool = true) ∧
    ((nc.ev e).bool = true → ∀ x t, Outs.get x o = some t → (t.pc.ev e).bool = true → ∃ u, Outs.get x (addPc nc o g).1 = some u ∧ (u.pc.ev e).bool = true ∧ Ref e w0 t u)
  | [], g, h => ⟨h, fun x u hx => by simp [addPc, Outs.get] at hx, fun _ x t hx => by simp [Outs.get] at hx⟩
  | (y, t) :: l, g, h => by
    unfold addPc at h ⊢
    simp only at h ⊢
    have h2 := addPc_good h
    have h1 := mkAnd_good h2.1
    refine ⟨h1.1, fun x u hx hu => ?_, fun hnc x s hx hs => ?_⟩
    · by_cases hxy : x = y
      · subst hxy
        rw [get_self] at hx
        injection hx with hx
        subst hx
        simp only at hu
        rw [h1.2, Bool.and_eq_true] at hu
        exact ⟨hu.1, t, get_self, hu.2⟩
      · rw [get_ne hxy] at hx
        obtain ⟨a1, s, a2, a3⟩ := h2.2.1 x u hx hu
        exact ⟨a1, s, by rw [get_ne hxy]; exact a2, a3⟩
    · by_cases hxy : x = y
      · subst hxy
        rw [get_self] at hx
        injection hx with hx
        subst hx
        exact ⟨_, get_self, by simp only; rw [h1.2, hnc, hs]; rfl, Ref.pc _⟩
      · rw [get_ne hxy] at hx
        obtain ⟨u, a1, a2, a3⟩ := h2.2.2 hnc x s hx hs
        exact ⟨u, by rw [get_ne hxy]; exact a1, a2, a3⟩
theorem combine_good {c nc : L} {both : Option (L × L × L)} (hnc : (nc.ev e).bool = !(c.ev e).bool)
    (hb : ∀ p x y, both = some (p, x, y) → (x.ev e).bool = ((p.ev e).bool && (c.ev e).bool) ∧ (y.ev e).bool = ((p.ev e).bool && !(c.ev e).bool)) : ∀ {o1 o2 : Outs} {g : G},
    Good T e (combine c nc both o1 o2 g).2 → Good T e g ∧
    (∀ x u, Outs.get x (combine c nc both o1 o2 g).1 = some u → (u.pc.ev e).bool = true →
      ((c.ev e).bool = true ∧ ∃ s, Outs.get x o1 = some s ∧ (s.pc.ev e).bool = true) ∨ ((c.ev e).bool = false ∧ ∃ t, Outs.get x o2 = some t ∧ (t.pc.ev e).bool = true)) ∧
    ((c.ev e).bool = true → ∀ x s, Outs.get x o1 = some s → (s.pc.ev e).bool = true → ∃ u, Outs.get x (combine c nc both o1 o2 g).1 = some u ∧ (u.pc.ev e).bool = true ∧ Ref e w0 s u) ∧
    ((c.ev e).bool = false → ∀ x t, Outs.get x o2 = some t → (t.pc.ev e).bool = true → ∃ u, Outs.get x (combine c nc both o1 o2 g).1 = some u ∧ (u.pc.ev e).bool = true ∧ Ref e w0 t u)
  | [], o2, g, h => by
    unfold combine at h ⊢
    have h1 := addPc_good (w0 := w0) h
    refine ⟨h1.1, fun x u hx hu => ?_, fun _ x s hx => by simp [Outs.get] at hx, fun hc => h1.2.2 (by rw [hnc, hc]; rfl)⟩
    obtain ⟨a1, a2⟩ := h1.2.1 x u hx hu
    exact .inr ⟨by rw [hnc] at a1; simpa using a1, a2⟩
  | (y, s) :: l, o2, g, h => by
    unfold combine at h ⊢
    cases ht : Outs.get y o2 with
    | some t =>
      rw [ht] at h
      simp only at h ⊢
      have h2 := combine_good hnc hb h
      have h1 := mergeSt_good (w0 := w0) h2.1 hb
      refine ⟨h1.1, fun x u hx hu => ?_, fun hc x s' hx hs' => ?_, fun hc x t' hx ht' => ?_⟩
      · by_cases hxy : x = y
        · subst hxy
          rw [get_self] at hx
          injection hx with hx
          subst hx
          rw [h1.2.2] at hu
          cases hc : (c.ev e).bool <;> simp only [pick, hc, if_true, if_false, Bool.false_eq_true] at hu
          · exact .inr ⟨rfl, t, ht, hu⟩
          · exact .inl ⟨rfl, s, get_self, hu⟩
        · rw [get_ne hxy] at hx
          rw [get_ne hxy]
          rcases h2.2.1 x u hx hu with a | ⟨a, b⟩
          · exact .inl a
          · exact .inr ⟨a, by rwa [get_drop_ne hxy] at b⟩
      · by_cases hxy : x = y
        · subst hxy
          rw [get_self] at hx
          injection hx with hx
          subst hx
          refine ⟨_, get_self, ?_, ?_⟩
          · rw [h1.2.2]; simp only [pick, hc, if_true]; exact hs'
          · have := h1.2.1; simp only [pick, hc, if_true] at this; exact this
        · rw [get_ne hxy] at hx
          obtain ⟨u, a1, a2, a3⟩ := h2.2.2.1 hc x s' hx hs'
          exact ⟨u, by rw [get_ne hxy]; exact a1, a2, a3⟩
      · by_cases hxy : x = y
        · subst hxy
          rw [ht] at hx
          injection hx with hx
          subst hx
          refine ⟨_, get_self, ?_, ?_⟩
          · rw [h1.2.2]; simp only [pick, hc, Bool.false_eq_true, if_false]; exact ht'
          · have := h1.2.1; simp only [pick, hc, Bool.false_eq_true, if_false] at this; exact this
        · obtain ⟨u, a1, a2, a3⟩ := h2.2.2.2 hc x t' (by rw [get_drop_ne hxy]; exact hx) ht'
          exact ⟨u, by rw [get_ne hxy]; exact a1, a2, a3⟩
    | none =>
      rw [ht] at h
      simp only at h ⊢
      have h2 := combine_good hnc hb h
      have h1 := mkAnd_good h2.1
      refine ⟨h1.1, fun x u hx hu => ?_, fun hc x s' hx hs' => ?_, fun hc x t' hx ht' => ?_⟩
      · by_cases hxy : x = y
        · subst hxy
          rw [get_self] at hx
          injection hx with hx
          subst hx
          simp only at hu
          rw [h1.2, Bool.and_eq_true] at hu
          exact .inl ⟨hu.1, s, get_self, hu.2⟩
        · rw [get_ne hxy] at hx
          rw [get_ne hxy]
          exact h2.2.1 x u hx hu
      · by_cases hxy : x = y
        · subst hxy
          rw [get_self] at hx
          injection hx with hx
          subst hx
          exact ⟨_, get_self, by simp only; rw [h1.2, hc, hs']; rfl, Ref.pc _⟩
        · rw [get_ne hxy] at hx
          obtain ⟨u, a1, a2, a3⟩ := h2.2.2.1 hc x s' hx hs'
          exact ⟨u, by rw [get_ne hxy]; exact a1, a2, a3⟩
      · have hxy : x ≠ y := fun h0 => by rw [h0, ht] at hx; cases hx
        obtain ⟨u, a1, a2, a3⟩ := h2.2.2.2 hc x t' hx ht'
        exact ⟨u, by rw [get_ne hxy]; exact a1, a2, a3⟩
def Xit.to : Xit → Exit
  | .norm => .normal
  | .exit id => .exit id
  | .ret => .ret
def Cont (e : Nat → A) (w0 : World) (loc : Loc) (m : Nat) (a : Act) (s : St) (Q : Act → World → Prop) : Prop :=
  ∀ (loc' : Loc) (a' : Act) (w' : World), LExt m loc loc' → m ≤ s.rows.length → FrRel e s.rows.length loc' s.fr a'.tmps → a'.defers = a.defers → Cls e w0 loc' s.rows w' → Q a' w'
structure Ends (P : Program) (T : Nat → List A → Bool × List A) (e : Nat → A) (w0 : World) (S : St) (W : (Exit → Act → World → Prop) → Act → World → Prop) (outs : Outs) : Prop where
  pc : ∀ x s, Outs.get x outs = some s → (s.pc.ev e).bool = true → (S.pc.ev e).bool = true
  one : ∀ x y s t, Outs.get x outs = some s → Outs.get y outs = some t → (s.pc.ev e).bool = true → (t.pc.ev e).bool = true → x = y
  wp : ∀ (loc : Loc) (a : Act) (w : World) (Q : Exit → Act → World → Prop), (S.pc.ev e).bool = true → FrRel e S.rows.length loc S.fr a.tmps → Cls e w0 loc S.rows w →
    (∀ x s, Outs.get x outs = some s → (s.pc.ev e).bool = true → Cont e w0 loc S.rows.length a s (Q x.to)) → W Q a w
theorem Cont.mono {m : Nat} {a : Act} {s : St} {Q Q' : Act → World → Prop} (h : Cont e w0 loc m a s Q) (hq : ∀ a w, Q a w → Q' a w) : Cont e w0 loc m a s Q' :=
  fun loc' a' w' h1 h2 h3 h4 h5 => hq _ _ (h loc' a' w' h1 h2 h3 h4 h5)
theorem Cont.ref {m : Nat} {a : Act} {s u : St} {Q : Act → World → Prop} (h : Cont e w0 loc m a u Q) (hr : Ref e w0 s u) : Cont e w0 loc m a s Q :=
  fun loc' a' w' h1 h2 h3 h4 h5 => by
    obtain ⟨loc2, x2, r1, r2, r3⟩ := hr loc' a'.tmps w' h3 h5
    exact h loc2 a' w' (h1.trans x2 h2) (Nat.le_trans h2 r1) r2 h4 r3
end
end Rx
