import Derived.Test.YtjipnabidebgbaaXa
import Derived.OpenShut
import Derived.Deep.Slices
import Derived.Carry
set_option linter.unusedVariables false
set_option linter.unusedSimpArgs false
namespace Rx
open Go Go.RowKit
section
variable {T : Nat → List A → Bool × List A} {e : Nat → A} {n n' : Nat} {loc loc' : Loc} {P : Program} {X : Ctx} {w0 : World}
variable {fr : List SV} {rows : List Row} {gs : List (L × Bool)} {pc : L} {o : Oper} {g : G} {inl : Inline}
theorem fold_rel (off : Nat) : ∀ {c : List C} {l : List Value} {k : Nat} {cs : Array Value} {cells : List C}, CsRel e n loc cells cs.toList → CsRel e n loc c l →
    CsRel e n loc (setCells cells (off + k) c) ((l.zipIdx k).foldl (fun (cs : Array Value) (x : Value × Nat) => cs.setIfInBounds (off + x.2) x.1) cs).toList
  | [], [], k, cs, cells, h, _ => by simpa [setCells] using h
  | c :: r, v :: l, k, cs, cells, h, hc => by
    simp only [setCells, List.zipIdx_cons, List.foldl_cons]
    have h1 : CsRel e n loc (cells.set (off + k) c) (cs.setIfInBounds (off + k) v).toList := by
      rw [Array.toList_setIfInBounds]
      exact CsRel_set h hc.1 _
    have := fold_rel off (k := k + 1) h1 hc.2
    rwa [← Nat.add_assoc] at this
def PartsRel (e : Nat → A) (n : Nat) (loc : Loc) : List (Nat × PV) → List (Nat × Value) → Prop
  | [], [] => True
  | (i, p) :: l, (j, v) :: m => i = j ∧ p.rel e n loc v ∧ PartsRel e n loc l m
  | _, _ => False
theorem argPVs_sound {fr : List SV} {a : Act} {gs : List (L × Bool)} : ∀ {xs : List (Nat × Operand)} {ps : List (Nat × PV)}, argPVs fr gs xs = some ps → FrRel e n loc fr a.tmps → Holds e gs → PartsRel e n loc ps (xs.map fun x => (x.1, a.eval x.2))
  | [], ps, h, _, _ => by simp [argPVs] at h; subst h; trivial
  | (i, x) :: l, ps, h, hf, hg => by
    simp only [argPVs, Option.bind_eq_bind, Option.bind_eq_some_iff, Option.some.injEq] at h
    obtain ⟨p, hp, r, hr, rfl⟩ := h
    exact ⟨rfl, opd_sound hp hf hg, argPVs_sound hr hf hg⟩
theorem fill_lay {size place : Nat → Option (Nat × Nat)} (hs : ∀ i x, size i = some x → place i = some x) : ∀ {ps : List (Nat × PV)} {vs : List (Nat × Value)} {cells r : List C} {cs : Array Value}, lay size cells ps = some r → PartsRel e n loc ps vs → CsRel e n loc cells cs.toList →
    ∃ us : Array Value, Instr.fill place cs vs = some us ∧ CsRel e n loc r us.toList ∧ r.length = cells.length
  | [], [], cells, r, cs, h, _, hc => by
    simp only [lay, Option.some.injEq] at h
    subst h
    exact ⟨cs, rfl, hc, rfl⟩
  | (i, p) :: ps, (j, v) :: vs, cells, r, cs, h, hp, hc => by
    obtain ⟨rfl, hpv, hps⟩ := hp
    simp only [lay, Option.bind_eq_bind, Option.bind_eq_some_iff] at h
    obtain ⟨⟨off, m⟩, hi, h⟩ := h
    simp only at h
    split at h
    · rename_i hh
      simp only [Bool.and_eq_true, beq_iff_eq, decide_eq_true_eq] at hh
      obtain ⟨us, hu1, hu2⟩ := PV.rel_cells hpv
      have hl := CsRel_len hu2
      have hl2 := CsRel_len hc
      have hfold := fold_rel off (k := 0) hc hu2
      simp only [Nat.add_zero] at hfold
      obtain ⟨us', h1, h2, h3⟩ := fill_lay hs h hps hfold
      refine ⟨us', ?_, h2, by rw [h3, setCells_len]⟩
      unfold Instr.fill
      have hsz : v.cells.size = m := by rw [hu1]; simp; omega
      have hcs : cs.size = cells.length := by rw [hl2]; simp
      simp only [hs i _ hi, hsz]
      have e1 : (decide (m ≠ m) || decide (off + m > cs.size)) = false := by
        simp; omega
      rw [if_neg (by rw [e1]; simp)]
      rw [← h1]
      congr 1
      rw [hu1]
      simp [← Array.foldl_toList]
    · cases h
theorem run_mapM_list {α β : Type} {f : α → Sem β} {h : α → β} : ∀ {l : List α}, (∀ a ∈ l, ∀ w, (f a).run P w = .ok (h a) w) → ∀ w, (l.mapM f).run P w = .ok (l.map h) w
  | [], _, w => by simp
  | a :: l, hh, w => by
    have ih := run_mapM_list (l := l) (fun b hb => hh b (by simp [hb])) w
    simp only [List.mapM_cons, Sem.run_bind, hh a (by simp), Result.andThen_ok, ih, Sem.run_pure, List.map_cons]
theorem run_mapM_array {α β : Type} {f : α → Sem β} {h : α → β} {l : Array α} (hh : ∀ a ∈ l.toList, ∀ w, (f a).run P w = .ok (h a) w) (w : World) : (l.mapM f).run P w = .ok (l.map h) w := by
  rw [Array.mapM_eq_mapM_toList]
  simp only [Sem.run_map, run_mapM_list hh, Result.andThen_ok]
  congr 1
  apply Array.ext'
  simp
theorem op_build {t : TypeId} {parts : Array (Nat × Operand)} (hX : TysOK P X.tys) (ho : o.op = .build t parts) : OpOK P T e w0 fr rows gs pc o g (execOp X inl fr rows gs pc o g) := by
  obtain ⟨dst, op', ty, pos, after, guard⟩ := o
  simp only at ho
  subst ho
  simp only [execOp, Option.bind_eq_bind, Ctx.ty]
  cases ht : look t X.tys with
  | none => trivial
  | some tt =>
    have htt := hX t tt ht
    simp only [Option.bind_some]
    cases hp : argPVs fr gs parts.toList with
    | none => trivial
    | some ps =>
      simp only [Option.bind_some]
      obtain ⟨z, hz1, hz2, hz3⟩ := run_zero htt
      have hparts : ∀ a : Act, (parts.map fun x => (x.1, a.eval x.2)).toList = parts.toList.map fun x => (x.1, a.eval x.2) := fun a => by simp
      split
      · rename_i fs hk
        cases hl : lay (structAt fs X) (zeroC tt.zero) ps with
        | none => trivial
        | some cs =>
          simp only [Option.bind_some]
          obtain ⟨gs', hg1, hg2⟩ := kind_struct htt hk
          refine opOK_one fun hg => ⟨hg, fun loc a w1 _ hgs hfr hcl => ?_⟩
          have hfl := htt.fields _ hg1
          simp only [fieldsB, List.all_eq_true] at hfl
          have hmap : ∀ w, (gs'.mapM fun f => (do pure (f.offset, ← Go.sizeOf f.type) : Sem (Nat × Nat))).run P w = .ok (gs'.map fun f => (f.offset, ((P.info? f.type).map (·.size)).getD 0)) w := fun w =>
            run_mapM_array (fun f hf w => by
              have := hfl f hf
              cases hi : P.info? f.type with
              | none => rw [hi] at this; cases this
              | some i => simp [Go.sizeOf, run_info hi]) w
          have hplace : ∀ i x, structAt fs X i = some x → (gs'.map fun f => (f.offset, ((P.info? f.type).map (·.size)).getD 0))[i]? = some x := fun i x hx => by
            obtain ⟨off, m⟩ := x
            obtain ⟨u, ty', h1, h2, h3, h4⟩ := structAt_some hX hx
            have := congrArg (·[i]?) hg2
            simp only [List.getElem?_map, h1] at this
            cases hfd : gs'.toList[i]? with
            | none => rw [hfd] at this; cases this
            | some fd =>
              rw [hfd] at this
              simp only [Option.map_some, Option.some.injEq, Prod.mk.injEq] at this
              obtain ⟨j, _, hj1, hj2, _⟩ := h4.info
              have hfd' : gs'[i]? = some fd := by simpa using hfd
              simp [hfd', this.1, this.2, hj1, hj2, h3]
          obtain ⟨us, u1, u2, u3⟩ := fill_lay hplace hl (argPVs_sound hp hfr hgs) (hz2 e rows.length loc)
          refine ⟨.agg us, ⟨us.toList, by simp, u2⟩, fun w _ => ?_⟩
          simp only [Go.execOp, Instr.build, Sem.run_bind, hz3, Result.andThen_ok, run_underlying hg1, hmap, hparts, u1, Sem.run_pure]
      · rename_i m u hk
        cases hu : look u X.tys with
        | none => trivial
        | some tu =>
          have htu := hX u tu hu
          simp only [Option.bind_some]
          cases hl : lay (fun i => some (i * tu.size, tu.size)) (zeroC tt.zero) ps with
          | none => trivial
          | some cs =>
            simp only [Option.bind_some]
            have hun := kind_arr htt hk
            refine opOK_one fun hg => ⟨hg, fun loc a w1 _ hgs hfr hcl => ?_⟩
            obtain ⟨us, u1, u2, u3⟩ := fill_lay (fun i x h => h) hl (argPVs_sound hp hfr hgs) (hz2 e rows.length loc)
            refine ⟨.agg us, ⟨us.toList, by simp, u2⟩, fun w _ => ?_⟩
            simp only [Go.execOp, Instr.build, Sem.run_bind, hz3, Result.andThen_ok, run_underlying hun, run_size htu, hparts, u1, Sem.run_pure]
      · trivial
theorem cls_new {w : World} (h : Cls e w0 loc rows w) {ty es cap : Nat} {cells : List C} {vs spare : List Value}
    (hc : CsRel e rows.length loc cells vs) (hl : (vs ++ spare).length = cap * es) (hm : cap ≤ maxLen) :
    Cls e w0 (locNew loc rows.length ⟨w.heap.size, 0, cap, es⟩) (newRow rows ty es cells) (w.alloc (.cells (vs ++ spare).toArray ty)) :=
  ⟨h.1.new h.le rfl (fun k hk => heap_alloc_old w _ k hk) (heap_alloc_new w _) hc hl hm, h.2.alloc h.le _⟩
theorem newRow_len {ty es : Nat} {cells : List C} : (newRow rows ty es cells).length = rows.length + 1 := by simp [newRow]
theorem op_alloc {t : TypeId} (hX : TysOK P X.tys) (ho : o.op = .alloc t) : OpOK P T e w0 fr rows gs pc o g (execOp X inl fr rows gs pc o g) := by
  obtain ⟨dst, op', ty, pos, after, guard⟩ := o
  simp only at ho
  subst ho
  simp only [execOp, Option.bind_eq_bind, Ctx.ty]
  cases ht : look t X.tys with
  | none => trivial
  | some tt =>
    have htt := hX t tt ht
    simp only [Option.bind_some]
    refine fun hg => ⟨hg, fun loc a w _ hgs hfr hcl => ?_⟩
    obtain ⟨z, hz1, hz2, hz3⟩ := run_zero htt
    refine .inl ⟨.pointer (some ⟨w.heap.size, 0, none⟩), w.alloc (.cells z.cells t), .inl ?_, locNew loc rows.length ⟨w.heap.size, 0, 1, tt.size⟩, locNew_ext _ _ _, by rw [newRow_len]; omega, ?_, ?_⟩
    · simp only [Go.execOp, Instr.alloc, Sem.run_bind, hz3, Result.andThen_ok, newVar, Go.newRow, run_newObj, Sem.run_pure]
      rfl
    · refine mk_ptr (by rw [newRow_len]; omega) ?_
      rw [locNew_at]
    · have := cls_new hcl (ty := t) (es := tt.size) (cap := 1) (vs := z.cells.toList) (spare := []) (hz2 e rows.length loc) (by simp [hz1]) (by decide)
      simpa using this
theorem op_box {t : TypeId} {x : Operand} (hX : TysOK P X.tys) (ho : o.op = .box t x) : OpOK P T e w0 fr rows gs pc o g (execOp X inl fr rows gs pc o g) := by
  obtain ⟨dst, op', ty, pos, after, guard⟩ := o
  simp only at ho
  subst ho
  simp only [execOp, Option.bind_eq_bind, Ctx.ty]
  cases ht : look t X.tys with
  | none => trivial
  | some tt =>
    have htt := hX t tt ht
    simp only [Option.bind_some]
    cases hp : opd fr gs x with
    | none => trivial
    | some p =>
      simp only [Option.bind_some]
      split
      · trivial
      · rename_i hsz
        have hsz' : p.cells.length = tt.size := by simpa using hsz
        refine fun hg => ⟨hg, fun loc a w _ hgs hfr hcl => ?_⟩
        obtain ⟨vs, v1, v2⟩ := PV.rel_cells (opd_sound hp hfr hgs)
        refine .inl ⟨.pointer (some ⟨w.heap.size, 0, none⟩), w.alloc (.cells vs.toArray t), .inl ?_, locNew loc rows.length ⟨w.heap.size, 0, 1, tt.size⟩, locNew_ext _ _ _, by rw [newRow_len]; omega, ?_, ?_⟩
        · simp only [Go.execOp, Instr.box, Sem.run_bind, Result.andThen_ok, newVar, Go.newRow, run_newObj, Sem.run_pure, v1]
          rfl
        · refine mk_ptr (by rw [newRow_len]; omega) ?_
          rw [locNew_at]
        · have := cls_new hcl (ty := t) (es := tt.size) (cap := 1) (vs := vs) (spare := []) v2 (by rw [List.append_nil, Nat.one_mul, ← CsRel_len v2, hsz']) (by decide)
          simpa using this
theorem CsRel_flat {l : List C} {vs : List Value} (h : CsRel e n loc l vs) : ∀ m : Nat, CsRel e n loc (List.replicate m l).flatten (List.replicate m vs).flatten
  | 0 => trivial
  | m + 1 => by simp only [List.replicate_succ, List.flatten_cons]; exact CsRel_append h (CsRel_flat h m)
theorem map_mod {α : Type} [Inhabited α] (z : Array α) (hz : 0 < z.size) : ∀ m : Nat, (List.range (m * z.size)).map (fun i => z[i % z.size]!) = (List.replicate m z.toList).flatten
  | 0 => by simp
  | m + 1 => by
    rw [Nat.add_mul, Nat.one_mul, Nat.add_comm, List.range_add, List.map_append, List.replicate_succ, List.flatten_cons, List.map_map]
    congr 1
    · apply List.ext_getElem?
      intro i
      simp only [List.getElem?_map, List.getElem?_range', Array.getElem?_toList]
      by_cases hi : i < z.size
      · rw [List.getElem?_range hi]
        simp [Nat.mod_eq_of_lt hi, hi]
      · have hle := Nat.le_of_not_lt hi
        rw [List.getElem?_eq_none (by simpa using hle)]
        simp [hle]
    · rw [← map_mod z hz m]
      apply List.map_congr_left
      intro i _
      simp
theorem mk_slc {r off m : Nat} {v : Value} (hr : r < n) (h : v = .slice (some ⟨(loc r).blk, (loc r).off + off * (loc r).es, none⟩) m ((loc r).cap - off)) : (PV.one (.k (.slc r off m))).rel e n loc v :=
  ⟨hr, by rw [h]; rfl, .inr (by rw [h]; rfl)⟩
theorem op_buildSlice {t : TypeId} {m : Nat} {parts : Array (Nat × Operand)} (hX : TysOK P X.tys) (ho : o.op = .buildSlice t m parts) : OpOK P T e w0 fr rows gs pc o g (execOp X inl fr rows gs pc o g) := by
  obtain ⟨dst, op', ty, pos, after, guard⟩ := o
  simp only at ho
  subst ho
  simp only [execOp, Option.bind_eq_bind, Ctx.ty]
  cases ht : look t X.tys with
  | none => trivial
  | some tt =>
    have htt := hX t tt ht
    simp only [Option.bind_some]
    split
    · rename_i u hk
      cases hu : look u X.tys with
      | none => trivial
      | some tu =>
        have htu := hX u tu hu
        have hun := kind_slice htt hk
        simp only [Option.bind_some]
        cases hp : argPVs fr gs parts.toList with
        | none => trivial
        | some ps =>
          simp only [Option.bind_some]
          split
          · trivial
          · rename_i hsz
            simp only [Bool.or_eq_true, beq_iff_eq, decide_eq_true_eq, not_or] at hsz
            obtain ⟨⟨s1, s2⟩, s3⟩ := hsz
            cases hl : lay (fun i => some (i * tu.size, tu.size)) (List.replicate m (zeroC tu.zero)).flatten ps with
            | none => trivial
            | some cs =>
              simp only [Option.bind_some]
              refine fun hg => ⟨hg, fun loc a w _ hgs hfr hcl => ?_⟩
              obtain ⟨z, hz1, hz2, hz3⟩ := run_zero htu
              have hflat := CsRel_flat (hz2 e rows.length loc) m
              have hmm := map_mod z.cells (by omega) m
              rw [← hmm] at hflat
              have hflat' : CsRel e rows.length loc (List.replicate m (zeroC tu.zero)).flatten ((Array.range (m * tu.size)).map (z.cells[· % z.cells.size]!)).toList := by
                rw [Array.toList_map, Array.toList_range, ← hz1]; exact hflat
              obtain ⟨us, u1, u2, u3⟩ := fill_lay (fun i x h => h) hl (argPVs_sound hp hfr hgs) hflat'
              have hlen : us.toList.length = m * tu.size := by
                rw [← CsRel_len u2, u3]
                have := CsRel_len hflat'
                rw [this]; simp
              refine .inl ⟨.slice (some ⟨w.heap.size, 0, none⟩) m m, w.alloc (.cells us u), .inl ?_, locNew loc rows.length ⟨w.heap.size, 0, m, tu.size⟩, locNew_ext _ _ _, by rw [newRow_len]; omega, ?_, ?_⟩
              · have hb : ¬ (m * tu.size > 2 ^ 24) := by omega
                have hb0 : ¬ (m * tu.size = 0) := Nat.mul_ne_zero s1 s2
                have hparts : (parts.map fun x => (x.1, a.eval x.2)).toList = parts.toList.map fun x => (x.1, a.eval x.2) := by simp
                simp only [Go.execOp, Instr.buildSlice, Sem.run_bind, run_underlying hun, Result.andThen_ok, run_size htu, Sem.run_ite, hb, if_false, hb0, hz3, Sem.run_pure, hparts, u1, Go.newRow, run_newObj]
                rfl
              · refine mk_slc (by rw [newRow_len]; omega) ?_
                rw [locNew_at]
                simp
              · have := cls_new hcl (ty := u) (es := tu.size) (cap := m) (vs := us.toList) (spare := []) u2 (by simpa using hlen) (by
                  have : m ≤ m * tu.size := Nat.le_mul_of_pos_right m (by omega)
                  simp only [maxLen]; omega)
                simpa using this
    · trivial
end
end Rx
namespace Rx
open Go Go.RowKit
section
variable {T : Nat → List A → Bool × List A} {e : Nat → A} {n n' : Nat} {loc loc' : Loc} {P : Program} {X : Ctx} {w0 : World}
variable {fr : List SV} {rows : List Row} {gs : List (L × Bool)} {pc : L} {o : Oper} {g : G} {inl : Inline}
theorem cls_write {w : World} (h : Cls e w0 loc rows w) {r off : Nat} {row : Row} {cells : List C} {us : List Value} (hr : rows[r]? = some row) (ho : row.own = true)
    (hfit : off + us.length ≤ row.cells.length)
    (hc : ∀ vs, CsRel e rows.length loc row.cells vs → CsRel e rows.length loc cells (vs.take off ++ us ++ vs.drop (off + us.length))) :
    ∃ cur : List Value, w.heap[(loc r).blk]? = some (.cells cur.toArray row.ty (0, 0)) ∧ (loc r).off = 0 ∧ off + us.length ≤ cur.length ∧
      Cls e w0 loc (rows.set r { row with cells := cells }) (w.setRow (loc r).blk (cur.take off ++ us ++ cur.drop (off + us.length)).toArray) := by
  have hrow := h.1.row r row hr
  unfold RowOK at hrow
  rw [if_pos ho] at hrow
  obtain ⟨h1, h2, h3, h4, vs, sp, h5, h6, h7⟩ := hrow
  have hl := CsRel_len h6
  have e1 : (vs ++ sp).take off ++ us ++ (vs ++ sp).drop (off + us.length) = (vs.take off ++ us ++ vs.drop (off + us.length)) ++ sp := by
    rw [List.take_append_of_le_length (by omega), List.drop_append_of_le_length (by omega)]
    simp
  refine ⟨vs ++ sp, h5, h1, by simp; omega, ?_⟩
  rw [e1]
  refine ⟨h.1.write h.le hr ho (fun k hk => setRow_other w _ k _ hk) (setRow_heap w _ _ _ _ _ h5) (hc vs h6) ?_, h.2.trans (below_setRow h3 _)⟩
  rw [← h7]
  simp
  omega
theorem setNth_len {s : Srt} {st : Nat} : ∀ {m b off : Nat} {l : List C}, (setNth s b off st m l).length = l.length
  | 0, b, off, l => rfl
  | m + 1, b, off, l => by unfold setNth; rw [setNth_len]; simp
theorem setNth_good {s : Srt} {b off st : Nat} (hst : 0 < st) {ls : List L} {i : Nat} {v : Value} : ∀ {m k0 : Nat} {cells : List C} {vs : List Value},
    k0 + m = ls.length → CsRel e n loc cells vs →
    (∀ k, k0 ≤ k → k < ls.length → ∃ y u, ls[k]? = some y ∧ vs[off + st * k]? = some u ∧ (s.mk y).rel e n loc u) →
    (∀ k, k < ls.length → k ≠ i → ∀ y, ls[k]? = some y → e (b + k) = y.ev e) → (i < ls.length → (s.mk (.var (b + i))).rel e n loc v) →
    CsRel e n loc (setNth s (b + k0) (off + st * k0) st m cells) (if k0 ≤ i ∧ i < k0 + m then vs.set (off + st * i) v else vs)
  | 0, k0, cells, vs, hk, hc, _, _, _ => by
    rw [if_neg (by omega)]
    exact hc
  | m + 1, k0, cells, vs, hk, hc, hcell, hsame, hnew => by
    unfold setNth
    have e1 : b + k0 + 1 = b + (k0 + 1) := by omega
    have e2 : off + st * k0 + st = off + st * (k0 + 1) := by rw [Nat.mul_succ]; omega
    rw [e1, e2]
    by_cases hki : k0 = i
    · subst hki
      have hc1 : CsRel e n loc (cells.set (off + st * k0) (.k (s.mk (.var (b + k0))))) (vs.set (off + st * k0) v) := CsRel_set hc (c := .k (s.mk (.var (b + k0)))) (hnew (by omega)) _
      have := setNth_good (b := b) (off := off) hst (i := k0) (v := v) (m := m) (k0 := k0 + 1) (by omega) hc1 (fun k h1 h2 => by
        obtain ⟨y, u, a1, a2, a3⟩ := hcell k (by omega) h2
        refine ⟨y, u, a1, ?_, a3⟩
        rw [List.getElem?_set_ne (by
          intro h0
          have : st * k0 < st * k := Nat.mul_lt_mul_of_pos_left (by omega) hst
          omega)]
        exact a2) hsame hnew
      rw [if_neg (by omega)] at this
      rw [if_pos (by omega)]
      exact this
    · obtain ⟨y, u, a1, a2, a3⟩ := hcell k0 (by omega) (by omega)
      have hc1 : CsRel e n loc (cells.set (off + st * k0) (.k (s.mk (.var (b + k0))))) vs := by
        have h0 := CsRel_set hc (c := .k (s.mk (.var (b + k0)))) (v := u) (Srt.mk_rel_of a3 (by simpa using hsame k0 (by omega) hki y a1)) (off + st * k0)
        have : vs.set (off + st * k0) u = vs := by
          apply List.ext_getElem?
          intro j
          by_cases hj : off + st * k0 = j
          · subst hj
            rw [List.getElem?_set_self (lt_of_get a2), a2]
          · rw [List.getElem?_set_ne hj]
        rwa [this] at h0
      have := setNth_good (b := b) (off := off) hst (i := i) (v := v) (m := m) (k0 := k0 + 1) (by omega) hc1 (fun k h1 h2 => hcell k (by omega) h2) hsame hnew
      have e3 : (k0 + 1 ≤ i ∧ i < k0 + 1 + m) ↔ (k0 ≤ i ∧ i < k0 + (m + 1)) := by omega
      simp only [e3] at this
      exact this
theorem splice_step {α : Type} {vs : List α} {p : Nat} {u : α} {us : List α} (h : p < vs.length) :
    (vs.set p u).take (p + 1) ++ us ++ (vs.set p u).drop (p + 1 + us.length) = vs.take p ++ (u :: us) ++ vs.drop (p + (u :: us).length) := by
  have e1 : (vs.set p u).take (p + 1) = vs.take p ++ [u] := by
    rw [List.take_set, List.take_succ_eq_append_getElem h, List.set_append_right _ _ (by simp; omega)]
    simp [Nat.min_eq_left (Nat.le_of_lt h)]
  have e2 : (vs.set p u).drop (p + 1 + us.length) = vs.drop (p + (u :: us).length) := by
    rw [List.drop_set_of_lt (by omega)]
    congr 1
    simp; omega
  rw [e1, e2]
  simp
theorem updCells_good {st num : Nat} {x : L} (hst : 0 < st) : ∀ {news : List C} {off : Nat} {cells : List C} {g g' : G} {cs : List C}, updCells cells off st num x news g = some (cs, g') → Good T e g' →
    Good T e g ∧ cs.length = cells.length ∧ ∀ i : Nat, (x.ev e).int = i → i < num → ∀ n loc vs us, CsRel e n loc cells vs → CsRel e n loc news us →
      CsRel e n loc cs (vs.take (off + st * i) ++ us ++ vs.drop (off + st * i + us.length)) ∧ (us = [] ∨ off + st * i + us.length ≤ vs.length)
  | [], off, cells, g, g', cs, h, hg => by
    simp only [updCells, Option.some.injEq, Prod.mk.injEq] at h
    obtain ⟨rfl, rfl⟩ := h
    refine ⟨hg, rfl, fun i _ _ n loc vs us hv hu => ?_⟩
    cases us with
    | nil => exact ⟨by simpa using hv, .inl rfl⟩
    | cons => exact hu.elim
  | .k z :: news, off, cells, g, g', cs, h, hg => by
    simp only [updCells, Option.bind_eq_bind, Option.bind_eq_some_iff] at h
    obtain ⟨en, hen, s, hs, ls, hls, ⟨u, z'⟩, hz, h⟩ := h
    simp only at h
    split at h
    · cases h
    · rename_i hus
      have hus' := Srt.same_eq (by simpa using hus)
      subst hus'
      have hz' := K.srt_some hz
      subst hz'
      obtain ⟨h1, h2, h3⟩ := updCells_good hst h hg
      have hp := pushN_good h1
      obtain ⟨l1, l2⟩ := everyNth_some hen
      obtain ⟨k1, k2⟩ := leaves_some hls
      refine ⟨hp.1, by rw [h2, setNth_len], fun i hi hlt n loc vs us hv hu => ?_⟩
      cases us with
      | nil => exact hu.elim
      | cons v us =>
        have hbase : (g.pushN .upd (x :: z' :: ls) num).1 = g.next := rfl
        have hres : ∀ k y, ls[k]? = some y → e (g.next + k) = if k = i then z'.ev e else y.ev e := fun k y hy => by
          refine hp.2 k _ ?_
          simp only [D.ev, List.map_cons, hi, Int.toNat_natCast]
          by_cases hki : k = i
          · subst hki
            rw [List.getElem?_set_self (by have := lt_of_get hy; simpa using this), if_pos rfl]
          · rw [List.getElem?_set_ne (Ne.symm hki), if_neg hki]
            simp [hy]
        have hcell : ∀ k, 0 ≤ k → k < ls.length → ∃ y w, ls[k]? = some y ∧ vs[off + st * k]? = some w ∧ (u.mk y).rel e n loc w := fun k _ hk => by
          have hc : en[k]? = some (en[k]'(by omega)) := List.getElem?_eq_getElem (by omega)
          obtain ⟨y, hy, hye⟩ := k2 k _ hc
          rw [hye, l2 k (by omega)] at hc
          obtain ⟨w, hw, hwr⟩ := CsRel_get hv hc
          exact ⟨y, w, hy, hw, hwr⟩
        have hn1 := setNth_good (b := g.next) (off := off) hst (s := u) (ls := ls) (i := i) (v := v) (m := num) (k0 := 0) (by omega) hv hcell
          (fun k hk hki y hy => by rw [hres k y hy, if_neg hki])
          (fun hil => by
            have hy : ls[i]? = some (ls[i]'hil) := List.getElem?_eq_getElem hil
            have := hres i _ hy
            rw [if_pos rfl] at this
            exact Srt.mk_rel_of hu.1 this)
        rw [if_pos (by omega)] at hn1
        simp only [Nat.add_zero, Nat.mul_zero] at hn1
        obtain ⟨_, w, _, hw, _⟩ := hcell i (by omega) (by omega)
        have hplt := lt_of_get hw
        obtain ⟨q1, q2⟩ := h3 i hi hlt n loc _ us hn1 hu.2
        have e1 : off + 1 + st * i = off + st * i + 1 := by omega
        rw [e1] at q1 q2
        rw [splice_step hplt] at q1
        refine ⟨q1, .inr ?_⟩
        rcases q2 with rfl | q2
        · simp; omega
        · simp at q2 ⊢; omega
  | .clo _ _ _ :: _, _, _, _, _, _, h, _ => by simp [updCells] at h
theorem run_storeAt' {t : Nat} {ty : Ty} (h : TyOK P t ty) {w : World} {b o : Nat} {cur us : List Value} {tt : TypeId} {v : Value} (hg : w.heap[b]? = some (.cells cur.toArray tt (0, 0)))
    (hv : v.cells = us.toArray) (hl : us.length = ty.size) (h1 : ∀ u ∈ us, u.oneCell' = true) (hfit : o + us.length ≤ cur.length) :
    (Instr.storeAt t (.pointer (some ⟨b, o, none⟩)) v).run P w = .ok () (w.setRow b (cur.take o ++ us ++ cur.drop (o + us.length)).toArray) := by
  have hst := run_storeCells_at P b o tt us 0 cur.toArray w hg (by simpa using hfit) h1
  simp only [Nat.add_zero] at hst
  simp [Instr.storeAt, Instr.sureAddr, storeVar, run_size h, hv, hl, hst]
theorem op_store {t : TypeId} {x y : Operand} (hX : TysOK P X.tys) (ho : o.op = .store t x y) : OpOK P T e w0 fr rows gs pc o g (execOp X inl fr rows gs pc o g) := by
  obtain ⟨dst, op', ty, pos, after, guard⟩ := o
  simp only at ho
  subst ho
  simp only [execOp, Option.bind_eq_bind, Ctx.ty]
  cases ht : look t X.tys with
  | none => trivial
  | some tt =>
    have htt := hX t tt ht
    simp only [Option.bind_some]
    cases hp : opd fr gs x with
    | none => trivial
    | some p =>
      simp only [Option.bind_some]
      cases hq : opd fr gs y with
      | none => trivial
      | some q =>
        simp only [Option.bind_some]
        unfold storeC
        have hrun : ∀ (a : Act) (w w' : World) u, a.eval x = u → (Instr.storeAt t u (a.eval y)).run P w = .ok () w' → (Go.execOp a.eval ⟨dst, .store t x y, ty, pos, after, guard⟩).run P w = .ok .skip w' := fun a w w' u h1 h2 => by
          subst h1
          simp [Go.execOp, h2]
        split
        · rename_i r off
          cases hr : rows[r]? with
          | none => trivial
          | some row =>
            simp only [Option.bind_eq_bind, Option.bind_some]
            split
            · trivial
            · rename_i hc
              simp only [Bool.or_eq_true, Bool.not_eq_true', bne_iff_ne, ne_eq, decide_eq_true_eq, not_or, Bool.not_eq_false, Decidable.not_not, Nat.not_lt] at hc
              obtain ⟨⟨c1, c2⟩, c3⟩ := hc
              refine fun hg => ⟨hg, fun loc a w _ hgs hfr hcl => ?_⟩
              obtain ⟨r1, r2⟩ := rel_ptr (opd_sound hp hfr hgs)
              have hqr := opd_sound hq hfr hgs
              obtain ⟨us, u1, u2⟩ := PV.rel_cells hqr
              have hul : us.length = tt.size := by rw [← CsRel_len u2, c2]
              obtain ⟨cur, k1, k2, k3, k4⟩ := cls_write hcl (cells := setCells row.cells off q.cells) (us := us) (off := off) hr c1 (by omega) (fun vs hvs => CsRel_setCells hvs u2 (by omega))
              refine .inl ⟨Go.undef, _, .inr ⟨hrun a w _ _ r2 ?_, rfl⟩, loc, LExt.refl _ _, by simp, rfl, k4⟩
              rw [k2, Nat.zero_add]
              exact run_storeAt' htt k1 u1 hul (CsRel_one u2) k3
        · rename_i r off st num ix
          cases hr : rows[r]? with
          | none => trivial
          | some row =>
            simp only [Option.bind_eq_bind, Option.bind_some]
            split
            · trivial
            · rename_i hc
              simp only [Bool.or_eq_true, Bool.not_eq_true', bne_iff_ne, ne_eq, beq_iff_eq, not_or, Bool.not_eq_false, Decidable.not_not] at hc
              obtain ⟨⟨⟨c1, c2⟩, c3⟩, c4⟩ := hc
              cases hu : updCells row.cells off st num ix q.cells g with
              | none => trivial
              | some rg =>
                obtain ⟨cs, g2⟩ := rg
                simp only [Option.bind_some]
                refine fun hg => ?_
                obtain ⟨d1, d2, d3⟩ := updCells_good (Nat.pos_of_ne_zero c3) hu hg
                refine ⟨d1, fun loc a w _ hgs hfr hcl => ?_⟩
                obtain ⟨r1, i, r2, r3, r4⟩ := rel_sptr (opd_sound hp hfr hgs)
                have hqr := opd_sound hq hfr hgs
                obtain ⟨us, u1, u2⟩ := PV.rel_cells hqr
                have hul : us.length = tt.size := by rw [← CsRel_len u2, c2]
                have hrow := hcl.1.row r row hr
                unfold RowOK at hrow
                rw [if_pos c1] at hrow
                obtain ⟨_, _, _, _, vs0, sp0, _, hvs0, _⟩ := hrow
                have hne : us ≠ [] := fun h0 => by
                  rw [h0] at hul
                  exact c4 hul.symm
                have hfit : off + st * i + us.length ≤ row.cells.length := by
                  rw [CsRel_len hvs0]
                  rcases (d3 i r2 r3 _ _ vs0 us hvs0 u2).2 with h0 | h0
                  · exact absurd h0 hne
                  · exact h0
                obtain ⟨cur, k1, k2, k3, k4⟩ := cls_write hcl (cells := cs) (us := us) (off := off + st * i) hr c1 hfit (fun vs hvs => (d3 i r2 r3 _ _ vs us hvs u2).1)
                refine .inl ⟨Go.undef, _, .inr ⟨hrun a w _ _ r4 ?_, rfl⟩, loc, LExt.refl _ _, by simp, rfl, k4⟩
                rw [k2, Nat.zero_add]
                exact run_storeAt' htt k1 u1 hul (CsRel_one u2) k3
        · trivial
end
end Rx
namespace Rx
open Go Go.RowKit
section
variable {T : Nat → List A → Bool × List A} {e : Nat → A} {n n' : Nat} {loc loc' : Loc} {P : Program} {X : Ctx} {w0 : World}
variable {fr : List SV} {rows : List Row} {gs : List (L × Bool)} {pc : L} {o : Oper} {g : G} {inl : Inline}
theorem op_makeSlice {t : TypeId} {x y : Operand} (hX : TysOK P X.tys) (ho : o.op = .makeSlice t x y) : OpOK P T e w0 fr rows gs pc o g (execOp X inl fr rows gs pc o g) := by
  obtain ⟨dst, op', ty, pos, after, guard⟩ := o
  simp only at ho
  subst ho
  simp only [execOp, Option.bind_eq_bind, Ctx.ty]
  cases ht : look t X.tys with
  | none => trivial
  | some tt =>
    have htt := hX t tt ht
    simp only [Option.bind_some]
    cases hp : opd fr gs x with
    | none => trivial
    | some p =>
      simp only [Option.bind_some]
      cases hq : opd fr gs y with
      | none => trivial
      | some q =>
        simp only [Option.bind_some]
        split
        · rename_i u k a k' b hk hpi hqi
          cases hu : look u X.tys with
          | none => trivial
          | some tu =>
            have htu := hX u tu hu
            have hun := kind_slice htt hk
            simp only [Option.bind_some]
            split
            · trivial
            · rename_i hsz
              simp only [Bool.or_eq_true, bne_iff_ne, ne_eq, beq_iff_eq, decide_eq_true_eq, not_or, Decidable.not_not] at hsz
              obtain ⟨⟨⟨⟨s1, s2⟩, s3⟩, s4⟩, s5⟩ := hsz
              subst s2
              refine fun hg => ⟨hg, fun loc act w _ hgs hfr hcl => ?_⟩
              obtain ⟨i, z, i1, i2, i3, i4, i5, i6⟩ := htu.info
              have e1 : act.eval x = .int k a := PV.int?_some hpi (opd_sound hp hfr hgs)
              have e2 : act.eval y = .int k' a := PV.int?_some hqi (opd_sound hq hfr hgs)
              have hb : (i.bytes : Int) * a ≤ 281474976710656 := by
                rw [i3]
                have h1 : (tu.bytes : Int) ≤ 1000 := by omega
                have h2 : a ≤ 1000 := by omega
                calc (tu.bytes : Int) * a ≤ 1000 * a := Int.mul_le_mul_of_nonneg_right h1 (by omega)
                  _ ≤ 1000 * 1000 := by omega
                  _ ≤ 281474976710656 := by decide
              have hm := run_make (P := P) w t u i z hun i1 i4 k k' a a (by omega) (Int.le_refl _) hb (by omega)
              have hflat := CsRel_flat (i6 e rows.length loc) a.toNat
              have hmm := map_mod z.cells (by omega) a.toNat
              rw [← hmm] at hflat
              refine .inl ⟨.slice (some ⟨w.heap.size, 0, none⟩) a.toNat a.toNat, w.alloc (.cells (madeCells z.cells (a.toNat * i.size)) u), .inl ?_, locNew loc rows.length ⟨w.heap.size, 0, a.toNat, tu.size⟩, locNew_ext _ _ _, by rw [newRow_len]; omega, ?_, ?_⟩
              · simp only [Go.execOp, e1, e2, Sem.run_bind, hm, Result.andThen_ok, Sem.run_pure]
              · refine mk_slc (by rw [newRow_len]; omega) ?_
                rw [locNew_at]
                simp
              · have hc : CsRel e rows.length loc (List.replicate a.toNat (zeroC tu.zero)).flatten (madeCells z.cells (a.toNat * i.size)).toList := by
                  unfold madeCells
                  rw [Array.toList_map, Array.toList_range, i2, ← i5]
                  exact hflat
                have := cls_new hcl (ty := u) (es := tu.size) (cap := a.toNat) (vs := (madeCells z.cells (a.toNat * i.size)).toList) (spare := []) hc (by simp [size_madeCells, i2]) (by simp only [maxLen]; omega)
                simpa using this
        · trivial
theorem litNat_some {d l : Nat} {p : Option PV} (h : litNat d p = some l) : (p = none ∧ l = d) ∨ ∃ q k, p = some q ∧ q.int? = some (k, .n (l : Int)) := by
  unfold litNat at h
  split at h
  · injection h with h; exact .inl ⟨rfl, h.symm⟩
  · rename_i q
    split at h
    · rename_i k x hq
      split at h
      · rename_i h0
        injection h with h
        refine .inr ⟨q, k, rfl, ?_⟩
        rw [hq, ← h]
        congr 3
        omega
      · cases h
    · cases h
theorem mk_aslc {r off es m c : Nat} {v : Value} (hr : r < n) (h : v = .slice (some ⟨(loc r).blk, (loc r).off + off, none⟩) m c) : (PV.one (.k (.aslc r off es m c))).rel e n loc v :=
  ⟨hr, by rw [h]; rfl, .inr (by rw [h]; rfl)⟩
theorem opt_opd {y : Option Operand} {q : Option PV} {a : Act} (h : optOpd fr gs y = some q)
    (hfr : FrRel e n loc fr a.tmps) (hgs : Holds e gs) : (y = none ∧ q = none) ∨ ∃ x p, y = some x ∧ q = some p ∧ p.rel e n loc (a.eval x) := by
  cases y with
  | none => simp [optOpd] at h; exact .inl ⟨rfl, h.symm⟩
  | some x =>
    simp only [optOpd, Option.bind_eq_bind, Option.bind_eq_some_iff, Option.some.injEq] at h
    obtain ⟨p, hp, rfl⟩ := h
    exact .inr ⟨x, p, rfl, rfl, opd_sound hp hfr hgs⟩
theorem run_sliceBound {k : IntKind} {l cap : Nat} {b : BoundsCode} {w : World} (h : l ≤ cap) : (Instr.sliceBound (.int k (l : Int)) cap b).run P w = .ok l w := by
  simp [Instr.sliceBound, asIntOf, h]
theorem op_slice {t : TypeId} {x : Operand} {lo hi : Option Operand} (hX : TysOK P X.tys) (ho : o.op = .slice t x lo hi none) : OpOK P T e w0 fr rows gs pc o g (execOp X inl fr rows gs pc o g) := by
  obtain ⟨dst, op', ty, pos, after, guard⟩ := o
  simp only at ho
  subst ho
  simp only [execOp, Option.bind_eq_bind, Ctx.ty]
  cases ht : look t X.tys with
  | none => trivial
  | some tt =>
    have htt := hX t tt ht
    simp only [Option.bind_some]
    cases hp : opd fr gs x with
    | none => trivial
    | some p =>
      simp only [Option.bind_some]
      cases hl : optOpd fr gs lo with
      | none => trivial
      | some l =>
        simp only [Option.bind_some]
        cases hh : optOpd fr gs hi with
        | none => trivial
        | some h =>
          simp only [Option.bind_some]
          split
          · rename_i m u hk
            cases hu : look u X.tys with
            | none => trivial
            | some tu =>
              have htu := hX u tu hu
              have hun := kind_arr htt hk
              simp only [Option.bind_some]
              unfold sliceOf
              split
              · rename_i r off
                cases h1 : litNat 0 l with
                | none => trivial
                | some l' =>
                  simp only [Option.bind_some, Option.bind_eq_bind]
                  cases h2 : litNat m h with
                  | none => trivial
                  | some h' =>
                    simp only [Option.bind_some]
                    split
                    · rename_i hlt
                      simp only [Bool.and_eq_true, decide_eq_true_eq] at hlt
                      refine opOK_one fun hg => ⟨hg, fun loc a w1 _ hgs hfr _ => ?_⟩
                      obtain ⟨r1, r2⟩ := rel_ptr (opd_sound hp hfr hgs)
                      have hbounds : ∀ w, (Instr.sliceBounds false m m (lo.map a.eval) (hi.map a.eval) none).run P w = .ok (l', h', m) w := fun w => by
                        have elo : (lo = none ∧ l' = 0) ∨ ∃ y k, lo = some y ∧ a.eval y = .int k (l' : Int) := by
                          rcases opt_opd hl hfr hgs with ⟨q1, q2⟩ | ⟨y, q, q1, q2, q3⟩
                          · subst q2
                            rcases litNat_some h1 with ⟨_, z⟩ | ⟨_, _, z, _⟩
                            · exact .inl ⟨q1, z⟩
                            · cases z
                          · subst q2
                            rcases litNat_some h1 with ⟨z, _⟩ | ⟨q', k, z, z2⟩
                            · cases z
                            · injection z with z
                              subst z
                              exact .inr ⟨y, k, q1, PV.int?_some z2 q3⟩
                        have ehi : (hi = none ∧ h' = m) ∨ ∃ y k, hi = some y ∧ a.eval y = .int k (h' : Int) := by
                          rcases opt_opd hh hfr hgs with ⟨q1, q2⟩ | ⟨y, q, q1, q2, q3⟩
                          · subst q2
                            rcases litNat_some h2 with ⟨_, z⟩ | ⟨_, _, z, _⟩
                            · exact .inl ⟨q1, z⟩
                            · cases z
                          · subst q2
                            rcases litNat_some h2 with ⟨z, _⟩ | ⟨q', k, z, z2⟩
                            · cases z
                            · injection z with z
                              subst z
                              exact .inr ⟨y, k, q1, PV.int?_some z2 q3⟩
                        rcases elo with ⟨z1, z2⟩ | ⟨y1, k1, z1, z2⟩ <;> rcases ehi with ⟨z3, z4⟩ | ⟨y2, k2, z3, z4⟩
                        · simp [Instr.sliceBounds, z1, z2, z3, z4]
                        · simp [Instr.sliceBounds, z1, z2, z3, z4, run_sliceBound hlt.2]
                        · simp [Instr.sliceBounds, z1, z2, z3, z4, run_sliceBound (show l' ≤ m by omega)]
                        · simp [Instr.sliceBounds, z1, z2, z3, z4, run_sliceBound hlt.2, run_sliceBound (show l' ≤ h' by omega)]
                      refine ⟨_, mk_aslc (off := off + l' * tu.size) r1 rfl, fun w _ => ?_⟩
                      have hne : ¬ (m = l') := by omega
                      simp [Go.execOp, Instr.sliceAt, run_underlying hun, r2, Instr.sureAddr, hbounds, run_size htu, hne, addr_add, Nat.add_assoc]
                    · trivial
              · trivial
          · trivial
end
end Rx
namespace Rx
open Go Go.RowKit
section
variable {T : Nat → List A → Bool × List A} {e : Nat → A} {n n' : Nat} {loc loc' : Loc} {P : Program} {X : Ctx} {w0 : World}
variable {fr : List SV} {rows : List Row} {gs : List (L × Bool)} {pc : L} {o : Oper} {g : G} {inl : Inline}
theorem RowsOK.grow {rows : List Row} {B : Nat} {w w' : World} (h : RowsOK e loc rows w B) {ty es cap gb : Nat} {cells : List C} {vs spare : List Value}
    (hw : ∀ k, k < B → w'.heap[k]? = w.heap[k]?) (ho : ∀ s y, rows[s]? = some y → y.own = true → (loc s).blk ≠ gb ∧ w'.heap[(loc s).blk]? = w.heap[(loc s).blk]?)
    (hg : B ≤ gb) (hn : w'.heap[gb]? = some (.cells (vs ++ spare).toArray ty (0, 0)))
    (hc : CsRel e rows.length loc cells vs) (hl : (vs ++ spare).length = cap * es) (hm : cap ≤ maxLen) :
    RowsOK e (locNew loc rows.length ⟨gb, 0, cap, es⟩) (newRow rows ty es cells) w' B := by
  have hx := locNew_ext loc rows.length ⟨gb, 0, cap, es⟩
  have hlen : (newRow rows ty es cells).length = rows.length + 1 := by simp [newRow]
  have old : ∀ r x, (newRow rows ty es cells)[r]? = some x → r ≠ rows.length → rows[r]? = some x := fun r x hx hne => by
    simp only [newRow, List.getElem?_append] at hx
    split at hx
    · exact hx
    · rename_i h0
      have := lt_of_get hx
      simp at this
      omega
  have new : ∀ x, (newRow rows ty es cells)[rows.length]? = some x → x = { own := true, ty, es, cells } := fun x hx => by
    simp [newRow] at hx; exact hx.symm
  refine ⟨fun r x hr => ?_, fun r s x y hr hs hox hoy hne => ?_⟩
  · rw [hlen]
    by_cases hrn : r = rows.length
    · subst hrn
      rw [new x hr]
      unfold RowOK
      rw [if_pos rfl, locNew_at]
      exact ⟨rfl, rfl, hg, hm, vs, spare, hn, CsRel_ext hc hx (by omega), hl⟩
    · have hr' := old r x hr hrn
      refine RowOK.ext (n := rows.length) (loc := loc) ?_ (lt_of_get hr') hx (by omega)
      have hrow := h.row r x hr'
      unfold RowOK at hrow ⊢
      split
      · rename_i ox
        rw [if_pos ox] at hrow
        obtain ⟨a1, a2, a3, a4, vs', sp', a5, a6, a7⟩ := hrow
        exact ⟨a1, a2, a3, a4, vs', sp', (ho r x hr' ox).2.trans a5, a6, a7⟩
      · rename_i ox
        rw [if_neg ox] at hrow
        intro hc'
        obtain ⟨a1, a2, a3⟩ := hrow hc'
        refine ⟨a1, a2, fun j c hj => ?_⟩
        obtain ⟨v, hv, hvr⟩ := a3 j c hj
        exact ⟨v, (World.cell?_of_block (w := w) (hw _ a2)).trans hv, hvr⟩
  · by_cases hrn : r = rows.length
    · by_cases hsn : s = rows.length
      · omega
      · have hs' := old s y hs hsn
        subst hrn
        rw [locNew_at, hx s (lt_of_get hs')]
        exact fun h0 => (ho s y hs' hoy).1 h0.symm
    · have hr' := old r x hr hrn
      rw [hx r (lt_of_get hr')]
      by_cases hsn : s = rows.length
      · subst hsn
        rw [locNew_at]
        exact (ho r x hr' hox).1
      · have hs' := old s y hs hsn
        rw [hx s (lt_of_get hs')]
        exact h.apart r s x y hr' hs' hox hoy hne
theorem rel_nilslc {v : Value} (h : (PV.one (.k .nilslc)).rel e n loc v) : v = .slice none 0 0 := by
  rcases h.2.2 with h1 | h1
  · cases h1
  · exact h1
theorem take?_get {l r : List C} {off k j : Nat} {c : C} (h : take? l off k = some r) (hj : r[j]? = some c) : l[off + j]? = some c := by
  obtain ⟨h1, rfl, h3⟩ := take?_some h
  have hlt := lt_of_get hj
  rw [List.getElem?_take] at hj
  split at hj
  · rwa [List.getElem?_drop] at hj
  · cases hj
theorem appendNews_sound {es m : Nat} {q : PV} {news : List C} {v : Value} {w : World} (h : appendNews rows es q = some (m, news)) (hm : m ≠ 0) (he : es ≠ 0) (hcl : Cls e w0 loc rows w) (hq : q.rel e rows.length loc v) :
    ∃ a c us, v = .slice (some a) m c ∧ news.length = m * es ∧ CsRel e rows.length loc news us ∧ ∀ j u, us[j]? = some u → w.cell? (a.add j) = some u := by
  unfold appendNews at h
  split at h
  · rename_i r off n'
    simp only [Option.bind_eq_bind, Option.bind_eq_some_iff] at h
    obtain ⟨row, hrow, h⟩ := h
    split at h
    · cases h
    · rename_i hes
      simp only [bne_iff_ne, ne_eq, Decidable.not_not] at hes
      simp only [Option.bind_eq_some_iff, Option.some.injEq, Prod.mk.injEq] at h
      obtain ⟨cs, hcs, rfl, rfl⟩ := h
      obtain ⟨r1, r2⟩ := rel_slc hq
      obtain ⟨t1, t2, t3⟩ := take?_some hcs
      have hne : row.cells.isEmpty = false := by
        cases hcc : row.cells with
        | nil =>
          rw [hcc] at t1
          have : 0 < n' * es := Nat.mul_pos (by omega) (by omega)
          simp at t1
          omega
        | cons => rfl
      have hle := hcl.1.es hrow hne
      obtain ⟨us, u1, u2⟩ := cells_read (e := e) (n := rows.length) (loc := loc) (w := w) (b := (loc r).blk) (o := (loc r).off + off * es) (cs := cs) (fun j c hj => by
        obtain ⟨v, v1, v2⟩ := hcl.1.cell hrow (take?_get hcs hj)
        exact ⟨v, by rw [Nat.add_assoc]; exact v1, v2⟩)
      rw [hle, hes] at r2
      exact ⟨_, _, us, r2, t3, u1, fun j u hu => by rw [addr_add]; exact u2 j u hu⟩
  · rename_i r off es' n' cap
    simp only [Option.bind_eq_bind, Option.bind_eq_some_iff] at h
    obtain ⟨row, hrow, h⟩ := h
    split at h
    · cases h
    · rename_i hes
      simp only [Option.bind_eq_some_iff, Option.some.injEq, Prod.mk.injEq] at h
      obtain ⟨cs, hcs, rfl, rfl⟩ := h
      obtain ⟨r1, r2⟩ := rel_aslc hq
      obtain ⟨t1, t2, t3⟩ := take?_some hcs
      obtain ⟨us, u1, u2⟩ := cells_read (e := e) (n := rows.length) (loc := loc) (w := w) (b := (loc r).blk) (o := (loc r).off + off) (cs := cs) (fun j c hj => by
        obtain ⟨v, v1, v2⟩ := hcl.1.cell hrow (take?_get hcs hj)
        exact ⟨v, by rw [Nat.add_assoc]; exact v1, v2⟩)
      exact ⟨_, _, us, r2, t3, u1, fun j u hu => by rw [addr_add]; exact u2 j u hu⟩
  · cases h
theorem append_sound {t ty2 u : TypeId} {tu : Ty} {p q : PV} {vp vq : Value} {v : SV} {rows' : List Row} {g' : G} {w : World} (htu : TyOK P u tu) (hun : P.underlying t = some (.slice u))
    (h : appendC rows u tu.size tu.bytes p q g = some (v, some rows', g')) (hcl : Cls e w0 loc rows w) (hp : p.rel e rows.length loc vp) (hq : q.rel e rows.length loc vq) :
    g' = g ∧ ∃ x w', (Builtin.append_ #[t, t] ty2 #[vp, vq]).run P w = .ok x w' ∧ ∃ loc', LExt rows.length loc loc' ∧ rows.length ≤ rows'.length ∧ v.rel e rows'.length loc' x ∧ Cls e w0 loc' rows' w' := by
  obtain ⟨i, z, i1, i2, i3, i4, i5, i6⟩ := htu.info
  unfold appendC at h
  simp only [Option.bind_eq_bind, Option.bind_eq_some_iff] at h
  obtain ⟨⟨m, news⟩, hnews, h⟩ := h
  simp only at h
  split at h
  · cases h
  · rename_i hz
    simp only [Bool.or_eq_true, beq_iff_eq, decide_eq_true_eq, not_or] at hz
    obtain ⟨⟨hm0, hby⟩, hes⟩ := hz
    obtain ⟨a, c, us, rfl, hnl, hus, hcell⟩ := appendNews_sound hnews hm0 hes hcl hq
    have hul : us.length = m * tu.size := by rw [← CsRel_len hus, hnl]
    have main : ∀ (k : Nat) (xs : List Value) (cells : List C) (rows1 : List Row) (blk : Option Nat), k + m ≤ 100000 → w.ownsRow w0.heap.size u tu.size vp k xs → CsRel e rows.length loc cells xs →
        rows1.length = rows.length → RowsOK e loc rows1 w w0.heap.size → vp.ownBlock = blk → (∀ b, blk = some b → w0.heap.size ≤ b) →
        (∀ s y, rows1[s]? = some y → y.own = true → (loc s).blk < w.heap.size ∧ some (loc s).blk ≠ blk) →
        ∃ x w', (Builtin.append_ #[t, t] ty2 #[vp, .slice (some a) m c]).run P w = .ok x w' ∧ ∃ loc', LExt rows.length loc loc' ∧ rows.length ≤ (newRow rows1 u tu.size (cells ++ news)).length ∧
          (PV.one (.k (.slc rows.length 0 (k + m)))).rel e (newRow rows1 u tu.size (cells ++ news)).length loc' x ∧ Cls e w0 loc' (newRow rows1 u tu.size (cells ++ news)) w' := by
      intro k xs cells rows1 blk hkm hown hxs hlen hrows hblk hB hsep
      have hmul : (k + m) * tu.bytes ≤ 140737488355328 := by
        calc (k + m) * tu.bytes ≤ 100000 * 1000 := Nat.mul_le_mul hkm (by omega)
          _ ≤ 140737488355328 := by decide
      obtain ⟨x, w', h1, h2, h3, h4, h5⟩ := run_append_own_at (P := P) w w0.heap.size t ty2 u i z tu.size tu.bytes hun i1 i4 i2 i3 i5 (by omega) vp k xs hown a m c us hul hcell (CsRel_one hus) (by simp only [maxLen]; omega) hmul hcl.le
      obtain ⟨g1, g2⟩ := h2
      rcases g2 with ⟨_, g2⟩ | ⟨gb, cap, cur, rfl, gB, gh, gk, gc, gs, gt⟩
      · omega
      · have hvs : cur = ((xs ++ us) ++ cur.toList.drop ((k + m) * tu.size)).toArray := by
          apply Array.ext'
          rw [← gt]
          simp
        rw [hvs] at gh
        have hgb : ∀ s y, rows1[s]? = some y → y.own = true → (loc s).blk ≠ gb ∧ w'.heap[(loc s).blk]? = w.heap[(loc s).blk]? := fun s y hs hy => by
          obtain ⟨q1, q2⟩ := hsep s y hs hy
          refine ⟨fun h0 => ?_, h3.block _ q1 (by rw [hblk]; exact q2)⟩
          rcases h5 with h5 | h5
          · rw [hblk] at h5
            exact q2 (by rw [← h5, h0]; rfl)
          · simp only [Value.ownBlock, Option.some.injEq] at h5
            omega
        have hr := hrows.grow (w' := w') (ty := u) (es := tu.size) (cap := cap) (gb := gb) (cells := cells ++ news) (vs := xs ++ us) (spare := cur.toList.drop ((k + m) * tu.size))
          (fun j hj => h3.block j (Nat.lt_of_lt_of_le hj hcl.le) (by
            rw [hblk]
            intro h0
            exact Nat.lt_irrefl j (Nat.lt_of_lt_of_le hj (hB j h0.symm)))) hgb gB gh (by rw [hlen]; exact CsRel_append hxs hus) (by
            have : (xs ++ us ++ cur.toList.drop ((k + m) * tu.size)).length = cur.size := by
              conv => rhs; rw [hvs]
              simp
            rw [this, gs]) gc
        refine ⟨_, w', h1, locNew loc rows1.length ⟨gb, 0, cap, tu.size⟩, ?_, by rw [newRow_len, hlen]; omega, ?_, hr, hcl.2.grown h3 hcl.le (by rw [hblk]; exact hB)⟩
        · rw [hlen]; exact locNew_ext _ _ _
        · refine mk_slc (by rw [newRow_len]; omega) ?_
          rw [← hlen, locNew_at]
          simp
    split at h
    · split at h
      · cases h
      · rename_i hm1
        simp only [Option.some.injEq, Prod.mk.injEq] at h
        obtain ⟨rfl, rfl, rfl⟩ := h
        have hv := rel_nilslc hp
        subst hv
        refine ⟨rfl, ?_⟩
        have := main 0 [] [] rows none (by omega) ⟨by simp, .inl ⟨rfl, rfl⟩⟩ trivial rfl hcl.1 rfl (fun b hb => by cases hb) (fun s y hs hy => by
          have hrow := hcl.1.row s y hs
          unfold RowOK at hrow
          rw [if_pos hy] at hrow
          obtain ⟨_, _, _, _, _, _, h5, _⟩ := hrow
          exact ⟨heap_lt h5, by simp⟩)
        rw [Nat.zero_add, List.nil_append] at this
        exact this
    · rename_i r k
      simp only [Option.bind_eq_some_iff] at h
      obtain ⟨row, hrow, h⟩ := h
      split at h
      · cases h
      · rename_i hz2
        simp only [Bool.or_eq_true, Bool.not_eq_true', bne_iff_ne, ne_eq, decide_eq_true_eq, not_or, Decidable.not_not, Bool.not_eq_false] at hz2
        obtain ⟨⟨⟨⟨z1, z2⟩, z3⟩, z4⟩, z5⟩ := hz2
        simp only [Option.some.injEq, Prod.mk.injEq] at h
        obtain ⟨rfl, rfl, rfl⟩ := h
        obtain ⟨r1, r2⟩ := rel_slc hp
        have hrr := hcl.1.row r row hrow
        unfold RowOK at hrr
        rw [if_pos z1] at hrr
        obtain ⟨b1, b2, b3, b4, vs, sp, b5, b6, b7⟩ := hrr
        have hvl : vs.length = k * tu.size := by rw [← CsRel_len b6, z4]
        have hv : vp = .slice (some ⟨(loc r).blk, 0, none⟩) k (loc r).cap := by rw [r2, b1]; simp
        have hkc : k ≤ (loc r).cap := by
          have : k * row.es ≤ (loc r).cap * row.es := by rw [← b7, z2, ← hvl]; simp
          exact Nat.le_of_mul_le_mul_right this (by omega)
        refine ⟨rfl, ?_⟩
        refine main k vs row.cells (rows.set r Row.dead) (some (loc r).blk) (by omega) ⟨hvl, .inr ⟨(loc r).blk, (loc r).cap, (vs ++ sp).toArray, hv, b3, by rw [b5, z3], hkc, b4, by rw [← z2, ← b7]; simp, by rw [← hvl]; simp⟩⟩ b6 (by simp) (hcl.1.kill r) (by rw [hv]; rfl)
          (fun b hb => by injection hb with hb; subst hb; exact b3) (fun s y hs hy => ?_)
        by_cases hsr : s = r
        · subst hsr
          rw [List.getElem?_set_self r1] at hs
          injection hs with hs
          subst hs
          simp [Row.dead] at hy
        · rw [List.getElem?_set_ne (Ne.symm hsr)] at hs
          have hrow' := hcl.1.row s y hs
          unfold RowOK at hrow'
          rw [if_pos hy] at hrow'
          obtain ⟨_, _, _, _, _, _, h5', _⟩ := hrow'
          exact ⟨heap_lt h5', fun h0 => hcl.1.apart s r y row hs hrow hy z1 hsr (by injection h0)⟩
    · cases h
end
end Rx
namespace Rx
open Go Go.RowKit
def Srt.sem : Srt → A → Value
  | .int k, a => .int k a.int
  | .bool, a => .bool a.bool
  | .str, a => .string a.str
  | .val, a => sliceV a.val
def semMany : List Srt → List A → List Value
  | s :: ss, a :: as => s.sem a :: semMany ss as
  | _, _ => []
def semRows (ss : List Srt) : Nat → List A → List Value
  | 0, _ => []
  | n + 1, as => semMany ss (as.take ss.length) ++ semRows ss n (as.drop ss.length)
def OneArg (w : World) : PS → Value → List A → Prop
  | .c agg ss, v, as => as.length = ss.length ∧ (if agg then v = .agg (semMany ss as).toArray else ∃ s a, ss = [s] ∧ as = [a] ∧ v = s.sem a)
  | .slc ss, v, as => ∃ b o n c rest, v = .slice (some ⟨b, o, none⟩) n c ∧ as = .i n :: rest ∧ rest.length = n * ss.length ∧ ∀ j u, (semRows ss n rest)[j]? = some u → w.cell? ⟨b, o + j, none⟩ = some u
  | .nil, v, as => v = .slice none 0 0 ∧ as = []
def ArgsRel (w : World) : List PS → List Value → List A → Prop
  | [], vs, as => vs = [] ∧ as = []
  | p :: ps, vs, as => ∃ v vr a1 a2, vs = v :: vr ∧ as = a1 ++ a2 ∧ OneArg w p v a1 ∧ ArgsRel w ps vr a2
def OneRes (r : Bool × List Srt) (as : List A) (v : Value) : Prop :=
  as.length = r.2.length ∧ (if r.1 then v = .agg (semMany r.2 as).toArray else ∃ s a, r.2 = [s] ∧ as = [a] ∧ v = s.sem a)
def ResList : List (Bool × List Srt) → List A → List Value → Prop
  | [], as, vs => as = [] ∧ vs = []
  | r :: rs, as, vs => ∃ v vr a1 a2, vs = v :: vr ∧ as = a1 ++ a2 ∧ OneRes r a1 v ∧ ResList rs a2 vr
def retVal : List Value → Value
  | [v] => v
  | vs => .tuple vs.toArray
def ResRel (rs : List (Bool × List Srt)) (as : List A) (v : Value) : Prop :=
  ∃ vs, ResList rs as vs ∧ v = retVal vs
def Agree (lits : List (Option Int)) (as : List A) : Prop := lits.length = as.length ∧ ∀ (j : Nat) (x : Int), lits[j]? = some (some x) → ∀ a : A, as[j]? = some a → a = A.i x
def CtrOK (P : Program) (T : Nat → List A → Bool × List A) (c : Ctr) : Prop :=
  ∀ (lits : List (Option Int)) (as : List A) (vs : List Value) (w : World), c.ok lits = true → Agree lits as → ArgsRel w c.ps vs as → (T c.f as).1 = true →
    Calls P c.f vs.toArray w fun en w' => ∃ u, en = .returned u ∧ ResRel c.rs (T c.f as).2 u ∧ Below w.heap.size w w'
def CtrsOK (P : Program) (T : Nat → List A → Bool × List A) (l : List (Nat × Ctr)) : Prop := ∀ x ∈ l, x.2.f = x.1 ∧ CtrOK P T x.2
def FnsOK (P : Program) (fns : Nat → Option Func) : Prop := ∀ f fn, fns f = some fn → P.funcs[f]? = some fn ∧ (fn.name == "runtime.NumGoroutine") = false ∧ fn.body.isSome = true
section
variable {T : Nat → List A → Bool × List A} {e : Nat → A} {n n' : Nat} {loc loc' : Loc} {P : Program} {X : Ctx} {w0 : World}
variable {fr : List SV} {rows : List Row} {gs : List (L × Bool)} {pc : L} {o : Oper} {g : G} {inl : Inline}
theorem ResRel.unique {rs : List (Bool × List Srt)} {as : List A} {u v : Value} (h : ResRel rs as u) (h' : ResRel rs as v) : u = v := by
  obtain ⟨us, h1, rfl⟩ := h
  obtain ⟨vs, h2, rfl⟩ := h'
  have : ∀ {rs : List (Bool × List Srt)} {as : List A} {us vs : List Value}, ResList rs as us → ResList rs as vs → us = vs := by
    intro rs
    induction rs with
    | nil => intro as us vs h1 h2; rw [h1.2, h2.2]
    | cons r rs ih =>
      intro as us vs h1 h2
      obtain ⟨v, vr, a1, a2, rfl, e1, h3, h4⟩ := h1
      obtain ⟨v', vr', a1', a2', rfl, e2, h3', h4'⟩ := h2
      have hl : a1 = a1' ∧ a2 = a2' := by
        rw [e1] at e2
        exact List.append_inj e2 (by rw [h3.1, h3'.1])
      obtain ⟨rfl, rfl⟩ := hl
      rw [ih h4 h4']
      congr 1
      have h5 := h3.2
      have h5' := h3'.2
      split at h5
      · rename_i hr
        rw [if_pos hr] at h5'
        rw [h5, h5']
      · rename_i hr
        rw [if_neg hr] at h5'
        obtain ⟨s, a, q1, q2, q3⟩ := h5
        obtain ⟨s', a', q1', q2', q3'⟩ := h5'
        rw [q1] at q1'
        rw [q2] at q2'
        injection q1' with q1' _
        injection q2' with q2' _
        rw [q3, q3', q1', q2']
  rw [this h1 h2]
theorem mk_sem {s : Srt} {x : L} {v : Value} (h : (s.mk x).rel e n loc v) : v = s.sem (x.ev e) := by
  cases s <;> (rcases h.2.2 with h1 | h1) <;> first | (cases h1; done) | (rw [h1]; rfl)
theorem mk_of_sem {s : Srt} {x : L} {a : A} (h : x.ev e = a) : (s.mk x).rel e n loc (s.sem a) := by
  subst h
  cases s <;> refine ⟨trivial, ?_, .inr rfl⟩
  all_goals first | rfl | skip
  simp only [Srt.sem]
  unfold sliceV
  split <;> rfl
theorem flatK_sound : ∀ {ss : List Srt} {cs : List C} {ls : List L} {vs : List Value}, flatK ss cs = some ls → CsRel e n loc cs vs →
    ls.length = ss.length ∧ cs.length = ss.length ∧ vs = semMany ss (ls.map (L.ev e))
  | [], [], ls, vs, h, hv => by
    simp [flatK] at h
    subst h
    cases vs with
    | nil => exact ⟨rfl, rfl, rfl⟩
    | cons => exact hv.elim
  | s :: ss, .k x :: cs, ls, vs, h, hv => by
    simp only [flatK, Option.bind_eq_bind, Option.bind_eq_some_iff] at h
    obtain ⟨⟨u, y⟩, hx, h⟩ := h
    simp only at h
    split at h
    · rename_i hu
      simp only [Option.bind_eq_some_iff, Option.some.injEq] at h
      obtain ⟨r, hr, rfl⟩ := h
      cases vs with
      | nil => exact hv.elim
      | cons v vs =>
        obtain ⟨h1, h2, h3⟩ := flatK_sound hr hv.2
        have hk := K.srt_some hx
        have hs := Srt.same_eq hu
        subst hs
        have hv1 : (u.mk y).rel e n loc v := by rw [← hk]; exact hv.1
        refine ⟨by simp [h1], by simp [h2], ?_⟩
        simp only [List.map_cons, semMany]
        rw [mk_sem hv1, h3]
    · cases h
  | [], _ :: _, _, _, h, _ => by simp [flatK] at h
  | _ :: _, [], _, _, h, _ => by simp [flatK] at h
  | _ :: _, .clo .. :: _, _, _, h, _ => by simp [flatK] at h
theorem semMany_len : ∀ {ss : List Srt} {as : List A}, as.length = ss.length → (semMany ss as).length = ss.length
  | [], [], _ => rfl
  | [], _ :: _, h => by simp at h
  | _ :: _, [], h => by simp at h
  | s :: ss, a :: as, h => by simp [semMany, semMany_len (ss := ss) (as := as) (by simpa using h)]
theorem flatMany_sound {ss : List Srt} : ∀ {m : Nat} {cs : List C} {ls : List L} {vs : List Value}, flatMany ss m cs = some ls → CsRel e n loc cs vs →
    ls.length = m * ss.length ∧ vs = semRows ss m (ls.map (L.ev e))
  | 0, [], ls, vs, h, hv => by
    simp [flatMany] at h
    subst h
    cases vs with
    | nil => exact ⟨by simp, rfl⟩
    | cons => exact hv.elim
  | 0, _ :: _, _, _, h, _ => by simp [flatMany] at h
  | m + 1, cs, ls, vs, h, hv => by
    simp only [flatMany, Option.bind_eq_bind, Option.bind_eq_some_iff, Option.some.injEq] at h
    obtain ⟨a, ha, r, hr, rfl⟩ := h
    have h1 := flatK_sound ha (CsRel_take hv ss.length)
    have h2 := flatMany_sound hr (CsRel_drop hv ss.length)
    refine ⟨by rw [List.length_append, h1.1, h2.1, Nat.succ_mul]; omega, ?_⟩
    rw [semRows, List.map_append, List.take_append_of_le_length (by simp [h1.1]), List.take_of_length_le (by simp [h1.1]), List.drop_append_of_le_length (by simp [h1.1]), List.drop_of_length_le (by simp [h1.1]), List.nil_append, ← h1.2.2, ← h2.2, List.take_append_drop]
theorem flatArg_sound {p : PS} {x : PV} {ls : List L} {v : Value} {w : World} (h : flatArg rows p x = some ls) (hcl : Cls e w0 loc rows w) (hx : x.rel e rows.length loc v) :
    OneArg w p v (ls.map (L.ev e)) := by
  have slc : ∀ (r m : Nat) (row : Row) (ss : List Srt) (off : Nat) (cs : List C) (ls' : List L) (cap : Nat), rows[r]? = some row → take? row.cells off (m * ss.length) = some cs → flatMany ss m cs = some ls' →
      v = .slice (some ⟨(loc r).blk, (loc r).off + off, none⟩) m cap → OneArg w (.slc ss) v ((L.n m :: ls').map (L.ev e)) := by
    intro r m row ss off cs ls' cap hrow hcs hls hv
    obtain ⟨us, u1, u2⟩ := cells_read (e := e) (n := rows.length) (loc := loc) (w := w) (b := (loc r).blk) (o := (loc r).off + off) (cs := cs) (fun j c hj => by
      obtain ⟨v, v1, v2⟩ := hcl.1.cell hrow (take?_get hcs hj)
      exact ⟨v, by rw [Nat.add_assoc]; exact v1, v2⟩)
    obtain ⟨f1, f2⟩ := flatMany_sound hls u1
    refine ⟨_, _, m, cap, ls'.map (L.ev e), hv, rfl, by simpa using f1, fun j u hu => ?_⟩
    rw [← f2] at hu
    exact u2 j u hu
  unfold flatArg at h
  split at h
  · rename_i s c
    cases hv1 : flatK [s] [c] with
    | none => rw [hv1] at h; cases h
    | some l =>
      rw [hv1] at h
      injection h with h
      subst h
      obtain ⟨h1, h2, h3⟩ := flatK_sound (vs := [v]) hv1 ⟨hx, trivial⟩
      obtain ⟨y, rfl⟩ : ∃ y, l = [y] := by
        match l, h1 with
        | [y], _ => exact ⟨y, rfl⟩
      refine ⟨by simp, ?_⟩
      simp only [Bool.false_eq_true, if_false]
      refine ⟨s, y.ev e, rfl, rfl, ?_⟩
      simpa [semMany] using h3
  · rename_i ss l
    obtain ⟨vs, rfl, hv⟩ := hx
    obtain ⟨h1, h2, h3⟩ := flatK_sound h hv
    refine ⟨by simpa using h1, ?_⟩
    simp only [if_true]
    rw [h3]
  · rename_i ss r off m
    simp only [Option.bind_eq_bind, Option.bind_eq_some_iff] at h
    obtain ⟨row, hrow, h⟩ := h
    split at h
    · cases h
    · rename_i hes
      simp only [bne_iff_ne, ne_eq, Decidable.not_not] at hes
      simp only [Option.bind_eq_some_iff, Option.some.injEq] at h
      obtain ⟨cs, hcs, ls', hls, rfl⟩ := h
      obtain ⟨r1, r2⟩ := rel_slc hx
      by_cases hne : row.cells.isEmpty = true
      · have hce : row.cells = [] := by simpa using hne
        obtain ⟨t1, t2, t3⟩ := take?_some hcs
        rw [hce] at t2
        simp at t2
        subst t2
        obtain ⟨f1, f2⟩ := flatMany_sound (vs := []) (e := e) (n := rows.length) (loc := loc) hls trivial
        exact ⟨_, _, m, _, ls'.map (L.ev e), r2, rfl, by simpa using f1, fun j u hu => by rw [← f2] at hu; simp at hu⟩
      · have hle := hcl.1.es hrow (by simpa using hne)
        rw [hle, hes] at r2
        exact slc r m row ss (off * ss.length) cs ls' _ hrow hcs hls r2
  · rename_i ss r off es m cap
    simp only [Option.bind_eq_bind, Option.bind_eq_some_iff] at h
    obtain ⟨row, hrow, h⟩ := h
    split at h
    · cases h
    · simp only [Option.bind_eq_some_iff, Option.some.injEq] at h
      obtain ⟨cs, hcs, ls', hls, rfl⟩ := h
      obtain ⟨r1, r2⟩ := rel_aslc hx
      exact slc r m row ss off cs ls' _ hrow hcs hls r2
  · injection h with h
    subst h
    exact ⟨rel_nilslc hx, rfl⟩
  · cases h
theorem flatArgs_sound {w : World} (hcl : Cls e w0 loc rows w) : ∀ {ps : List PS} {xs : List PV} {ls : List L} {vs : List Value}, flatArgs rows ps xs = some ls → PVsRel e rows.length loc xs vs → ArgsRel w ps vs (ls.map (L.ev e))
  | [], [], ls, vs, h, hv => by
    simp [flatArgs] at h
    subst h
    cases vs with
    | nil => exact ⟨rfl, rfl⟩
    | cons => exact hv.elim
  | p :: ps, x :: xs, ls, vs, h, hv => by
    simp only [flatArgs, Option.bind_eq_bind, Option.bind_eq_some_iff, Option.some.injEq] at h
    obtain ⟨a, ha, r, hr, rfl⟩ := h
    cases vs with
    | nil => exact hv.elim
    | cons v vs => exact ⟨v, vs, a.map (L.ev e), r.map (L.ev e), rfl, by simp, flatArg_sound ha hcl hv.1, flatArgs_sound hcl hr hv.2⟩
  | [], _ :: _, _, _, h, _ => by simp [flatArgs] at h
  | _ :: _, [], _, _, h, _ => by simp [flatArgs] at h
theorem varsK_rel : ∀ {ss : List Srt} {as : List A} {b : Nat}, as.length = ss.length → (∀ j a, as[j]? = some a → e (b + j) = a) → CsRel e n loc (varsK ss b) (semMany ss as)
  | [], [], _, _, _ => trivial
  | [], _ :: _, _, h, _ => by simp at h
  | _ :: _, [], _, h, _ => by simp at h
  | s :: ss, a :: as, b, h, hh => ⟨mk_of_sem (by simpa using hh 0 a rfl), varsK_rel (by simpa using h) fun j x hx => by
      have := hh (j + 1) x (by simpa using hx)
      rwa [show b + 1 + j = b + (j + 1) by omega]⟩
theorem kList_rel : ∀ {ss : List Srt} {ls : List L}, ls.length = ss.length → CsRel e n loc (kList ss ls) (semMany ss (ls.map (L.ev e)))
  | [], [], _ => trivial
  | [], _ :: _, h => by simp at h
  | _ :: _, [], h => by simp at h
  | s :: ss, l :: ls, h => ⟨mk_of_sem rfl, kList_rel (by simpa using h)⟩
theorem resLs_sound : ∀ {rs : List (Bool × List Srt)} {ls : List L} {ps : List PV} {vs : List Value}, resLs rs ls = some ps → ResList rs (ls.map (L.ev e)) vs → PVsRel e n loc ps vs
  | [], [], ps, vs, h, hr => by
    simp [resLs] at h
    subst h
    rw [hr.2]
    trivial
  | [], _ :: _, ps, vs, h, hr => by simp [resLs] at h
  | (agg, ss) :: rs, ls, ps, vs, h, hr => by
    simp only [resLs, Option.bind_eq_bind] at h
    split at h
    · cases h
    · rename_i hlen
      simp only [Option.bind_eq_some_iff, Option.some.injEq] at h
      obtain ⟨p, hp, r, hr2, rfl⟩ := h
      obtain ⟨v, vr, a1, a2, rfl, he, h1, h2⟩ := hr
      have hl : a1.length = ss.length := h1.1
      have htd : ls.map (L.ev e) = (ls.take ss.length).map (L.ev e) ++ (ls.drop ss.length).map (L.ev e) := by rw [← List.map_append, List.take_append_drop]
      rw [htd] at he
      have hlt : (ls.take ss.length).length = ss.length := by rw [List.length_take]; omega
      obtain ⟨rfl, rfl⟩ := List.append_inj he (by rw [hl, List.length_map, hlt])
      have hv := kList_rel (e := e) (n := n) (loc := loc) hlt
      refine ⟨?_, resLs_sound hr2 h2⟩
      rcases mkPV_some hp with ⟨ha, rfl⟩ | ⟨ha, c, hc, rfl⟩
      · have h3 := h1.2
        rw [if_pos ha] at h3
        exact ⟨_, h3, hv⟩
      · have h3 := h1.2
        rw [if_neg (by simp [ha])] at h3
        obtain ⟨s, a, q1, q2, q3⟩ := h3
        simp only at q1
        subst q1
        rw [hc, q2] at hv
        rw [q3]
        exact hv.1
theorem resPV_sound : ∀ {rs : List (Bool × List Srt)} {b b' : Nat} {ps : List PV} {as : List A} {vs : List Value}, resPV rs b = some (ps, b') → ResList rs as vs → (∀ j a, as[j]? = some a → e (b + j) = a) →
    PVsRel e n loc ps vs
  | [], b, b', ps, as, vs, h, hr, hh => by
    simp [resPV] at h
    obtain ⟨rfl, rfl⟩ := h
    rw [hr.2]
    trivial
  | (agg, ss) :: rs, b, b', ps, as, vs, h, hr, hh => by
    simp only [resPV, Option.bind_eq_bind, Option.bind_eq_some_iff, Option.some.injEq, Prod.mk.injEq] at h
    obtain ⟨p, hp, ⟨r, b2⟩, hr2, rfl, rfl⟩ := h
    obtain ⟨v, vr, a1, a2, rfl, rfl, h1, h2⟩ := hr
    have hl : a1.length = ss.length := h1.1
    have hv := varsK_rel (e := e) (n := n) (loc := loc) (b := b) hl (fun j a hj => hh j a (by rw [List.getElem?_append_left (lt_of_get hj)]; exact hj))
    refine ⟨?_, resPV_sound hr2 h2 fun j a hj => ?_⟩
    · rcases mkPV_some hp with ⟨ha, rfl⟩ | ⟨ha, c, hc, rfl⟩
      · have h3 := h1.2
        rw [if_pos ha] at h3
        exact ⟨_, h3, hv⟩
      · have h3 := h1.2
        rw [if_neg (by simp [ha])] at h3
        obtain ⟨s, a, q1, q2, q3⟩ := h3
        simp only at q1
        subst q1
        subst q2
        rw [hc] at hv
        rw [q3]
        exact hv.1
    · have := hh (ss.length + j) a (by rw [List.getElem?_append_right (by omega), hl]; simpa using hj)
      rwa [Nat.add_assoc]
end
end Rx
namespace Rx
open Go Go.RowKit
def InlOK (P : Program) (T : Nat → List A → Bool × List A) (e : Nat → A) (w0 : World) (inl : Inline) : Prop :=
  ∀ (f : Nat) (args : List PV) (rows : List Row) (pc : L) (g : G) (v : SV) (rows' : List Row) (g' : G), inl f args rows pc g = some (v, rows', g') → Good T e g' → Good T e g ∧
    ∀ (loc : Loc) (vs : List Value) (w : World), (pc.ev e).bool = true → PVsRel e rows.length loc args vs → Cls e w0 loc rows w →
      Calls P f vs.toArray w fun en w' => ∃ u, en = .returned u ∧ ∃ loc', LExt rows.length loc loc' ∧ rows.length ≤ rows'.length ∧ v.rel e rows'.length loc' u ∧ Cls e w0 loc' rows' w'
section
variable {T : Nat → List A → Bool × List A} {e : Nat → A} {n n' : Nat} {loc loc' : Loc} {P : Program} {X : Ctx} {w0 : World}
variable {fr : List SV} {rows : List Row} {gs : List (L × Bool)} {pc : L} {o : Oper} {g : G} {inl : Inline}
theorem KsRel_one : ∀ {l : List K} {vs : List Value}, KsRel e n loc l vs → PVsRel e n loc (l.map fun x => .one (.k x)) vs
  | [], [], _ => trivial
  | _ :: _, _ :: _, h => ⟨h.1, KsRel_one h.2⟩
theorem PVsRel_append : ∀ {l : List PV} {m : List Value} {l' : List PV} {m' : List Value}, PVsRel e n loc l m → PVsRel e n loc l' m' → PVsRel e n loc (l ++ l') (m ++ m')
  | [], [], _, _, _, h => h
  | _ :: _, _ :: _, _, _, h, h' => ⟨h.1, PVsRel_append h.2 h'⟩
theorem retSV_rel {ps : List PV} {vs : List Value} (h : PVsRel e n loc ps vs) : (retSV ps).rel e n loc (retVal vs) := by
  match ps, vs, h with
  | [], [], _ => exact ⟨[], rfl, trivial⟩
  | [p], [v], h => exact h.1
  | p :: q :: ps, v :: u :: vs, h => exact ⟨v :: u :: vs, rfl, h⟩
  | [_], _ :: _ :: _, h => exact h.2.elim
  | _ :: _ :: _, [_], h => exact h.2.elim
theorem agree_lits (ls : List L) : Agree (ls.map litOf) (ls.map (L.ev e)) := by
  refine ⟨by simp, fun j x hx a ha => ?_⟩
  rw [List.getElem?_map] at hx ha
  cases hl : ls[j]? with
  | none => rw [hl] at hx; cases hx
  | some l =>
    rw [hl] at hx ha
    simp only [Option.map_some, Option.some.injEq] at hx ha
    unfold litOf at hx
    split at hx
    · injection hx with hx
      subst hx
      exact ha.symm
    · cases hx
theorem callCtr_sound {c : Ctr} {args ps : List PV} {g' : G} (hctr : CtrOK P T c) (hcall : callCtr c args rows pc g = some (ps, g')) (hg : Good T e g') :
    Good T e g ∧ ∀ (loc : Loc) (vs : List Value), (pc.ev e).bool = true → PVsRel e rows.length loc args vs → (∃ w, Cls e w0 loc rows w) →
      ∃ u, (retSV ps).rel e rows.length loc u ∧ ∀ w, Cls e w0 loc rows w → Calls P c.f vs.toArray w fun en w' => en = .returned u ∧ Below w.heap.size w w' := by
  simp only [callCtr, Option.bind_eq_bind, Option.bind_eq_some_iff] at hcall
  obtain ⟨ls, hls, hcall⟩ := hcall
  split at hcall
  · cases hcall
  · rename_i hok
    have key : ∀ (loc : Loc) (vs : List Value), PVsRel e rows.length loc args vs → (T c.f (ls.map (L.ev e))).1 = true → (∃ w, Cls e w0 loc rows w) →
        (∀ us, ResList c.rs (T c.f (ls.map (L.ev e))).2 us → PVsRel e rows.length loc ps us) →
        ∃ u, (retSV ps).rel e rows.length loc u ∧ ∀ w, Cls e w0 loc rows w → Calls P c.f vs.toArray w fun en w' => en = .returned u ∧ Below w.heap.size w w' := by
      intro loc vs hvs hpre ⟨w1, hw1⟩ hres
      have hcalls : ∀ w, Cls e w0 loc rows w → Calls P c.f vs.toArray w fun en w' => ∃ u, en = .returned u ∧ ResRel c.rs (T c.f (ls.map (L.ev e))).2 u ∧ Below w.heap.size w w' := fun w hw =>
        hctr (ls.map litOf) (ls.map (L.ev e)) vs w (by simpa using hok) (agree_lits ls) (flatArgs_sound hw hls hvs) hpre
      obtain ⟨_, _, _, ⟨u, _, hu, _⟩, _⟩ := hcalls w1 hw1 []
      refine ⟨u, ?_, fun w hw => (hcalls w hw).mono ?_⟩
      · obtain ⟨us, hus, rfl⟩ := hu
        exact retSV_rel (hres us hus)
      · rintro en w' ⟨u', rfl, hu', hb⟩
        exact ⟨by rw [hu.unique hu'], hb⟩
    split at hcall
    · rename_i o res hf
      simp only [Option.bind_eq_some_iff, Option.some.injEq, Prod.mk.injEq] at hcall
      obtain ⟨ps', hres, rfl, rfl⟩ := hcall
      have hmust := must_good hg
      refine ⟨hmust.1, fun loc vs hpc hvs hw => ?_⟩
      have hk := findK_good hf hmust.1.2.2
      simp only [D.ev, List.map_cons, List.cons.injEq] at hk
      have hpre : (T c.f (ls.map (L.ev e))).1 = true := by
        have h1 := hmust.2 hpc
        rw [← hk.1] at h1
        exact h1
      exact key loc vs hvs hpre hw fun us hus => resLs_sound hres (by rw [hk.2] at hus; exact hus)
    · simp only [Option.bind_eq_some_iff, Option.some.injEq, Prod.mk.injEq] at hcall
      obtain ⟨⟨ps', b⟩, hres, rfl, rfl⟩ := hcall
      have hmust := must_good hg
      have hgood := pushN_good hmust.1
      refine ⟨hgood.1, fun loc vs hpc hvs hw => ?_⟩
      have hpre : (T c.f (ls.map (L.ev e))).1 = true := by
        have h1 := hmust.2 hpc
        have h2 := hgood.2 0 _ rfl
        simp only [G.pushN, Nat.add_zero] at h2
        rw [L.ev_var, h2] at h1
        exact h1
      exact key loc vs hvs hpre hw fun us hus => resPV_sound hres hus fun j a hj => by
        have := hgood.2 (j + 1) a (by simpa [D.ev] using hj)
        simpa [G.pushN, Nat.add_assoc, Nat.add_comm 1 j] using this
theorem callAny_sound {f : Nat} {args ps : List PV} {g' : G} : ∀ {l : List (Nat × Ctr)}, CtrsOK P T l → callAny f args rows pc g l = some (ps, g') → Good T e g' →
    Good T e g ∧ ∀ (loc : Loc) (vs : List Value), (pc.ev e).bool = true → PVsRel e rows.length loc args vs → (∃ w, Cls e w0 loc rows w) →
      ∃ u, (retSV ps).rel e rows.length loc u ∧ ∀ w, Cls e w0 loc rows w → Calls P f vs.toArray w fun en w' => en = .returned u ∧ Below w.heap.size w w'
  | (f', c) :: l, hC, h, hg => by
    unfold callAny at h
    have hl : CtrsOK P T l := fun x hx => hC x (by simp [hx])
    split at h
    · rename_i hf
      have hf : f' = f := by simpa using hf
      subst hf
      obtain ⟨h1, h2⟩ := hC (f', c) (by simp)
      simp only at h1 h2
      subst h1
      split at h
      · rename_i r hr
        injection h with h
        subst h
        exact callCtr_sound h2 hr hg
      · exact callAny_sound hl h hg
    · exact callAny_sound hl h hg
theorem callFn_sound {f : Nat} {args : List PV} (hC : CtrsOK P T X.ctr) (hF : FnsOK P X.fns) (hI : InlOK P T e w0 inl)
    (hrun : ∀ (fn : Func) (loc : Loc) (a : Act), P.funcs[f]? = some fn → (fn.name == "runtime.NumGoroutine") = false → fn.body.isSome = true → Holds e gs → FrRel e rows.length loc fr a.tmps →
      ∃ vs, PVsRel e rows.length loc args vs ∧ ∀ w, (Go.execOp a.eval o).run P w = .ok (.enter f vs.toArray) w) :
    OpOK P T e w0 fr rows gs pc o g (callFn X inl f args rows pc g) := by
  unfold callFn
  split
  · trivial
  · rename_i hfn
    obtain ⟨fn, hfn⟩ : ∃ fn, X.fns f = some fn := by
      cases h : X.fns f with
      | none => rw [h] at hfn; simp at hfn
      | some fn => exact ⟨fn, rfl⟩
    obtain ⟨f1, f2, f3⟩ := hF f fn hfn
    split
    · simp only [Option.bind_eq_bind]
      cases hcall : callAny f args rows pc g X.ctr with
      | none => trivial
      | some r =>
        obtain ⟨ps, g'⟩ := r
        simp only [Option.bind_some]
        intro hg
        obtain ⟨h1, h2⟩ := callAny_sound (w0 := w0) hC hcall hg
        refine ⟨h1, fun loc a w1 hpc hgs hfr hw1 => ?_⟩
        obtain ⟨vs, hvs, hr⟩ := hrun fn loc a f1 f2 f3 hgs hfr
        obtain ⟨u, hu, hcalls⟩ := h2 loc vs hpc hvs ⟨w1, hw1⟩
        refine ⟨u, hu, fun w hw => .inr ⟨f, vs.toArray, hr w, (hcalls w hw).mono ?_⟩⟩
        rintro en w' ⟨rfl, hb⟩
        exact ⟨rfl, hw.of_below hb⟩
    · simp only [Option.bind_eq_bind]
      cases hi : inl f args rows pc g with
      | none => trivial
      | some r =>
        obtain ⟨v, rows', g'⟩ := r
        simp only [Option.bind_some]
        intro hg
        obtain ⟨h1, h2⟩ := hI f args rows pc g v rows' g' hi hg
        refine ⟨h1, fun loc a w hpc hgs hfr hw => ?_⟩
        obtain ⟨vs, hvs, hr⟩ := hrun fn loc a f1 f2 f3 hgs hfr
        exact .inr ⟨f, vs.toArray, hr w, h2 loc vs w hpc hvs hw⟩
theorem rel_str {x : L} {v : Value} (hr : (PV.one (.k (.str x))).rel e n loc v) : v = .string (x.ev e).str := by
  rcases hr.2.2 with h1 | h1
  · cases h1
  · exact h1
theorem rel_val {x : L} {v : Value} (hr : (PV.one (.k (.val x))).rel e n loc v) : v = sliceV (x.ev e).val := by
  rcases hr.2.2 with h1 | h1
  · cases h1
  · exact h1
theorem lenV_slice (v : Value) : ∃ a m c, sliceV v = .slice a m c ∧ lenV v = (m : Int) := by
  unfold sliceV lenV
  split
  · exact ⟨_, _, _, rfl, rfl⟩
  · rename_i h
    exact ⟨none, 0, 0, rfl, rfl⟩
theorem PVsRel_single {p : PV} {vs : List Value} (h : PVsRel e n loc [p] vs) : ∃ v, vs = [v] ∧ p.rel e n loc v := by
  match vs, h with
  | [v], h => exact ⟨v, rfl, h.1⟩
  | _ :: _ :: _, h => exact h.2.elim
theorem PVsRel_two {p q : PV} {vs : List Value} (h : PVsRel e n loc [p, q] vs) : ∃ v u, vs = [v, u] ∧ p.rel e n loc v ∧ q.rel e n loc u := by
  match vs, h with
  | [v, u], h => exact ⟨v, u, rfl, h.1, h.2.1⟩
  | [_], h => exact h.2.elim
  | _ :: _ :: _ :: _, h => exact h.2.2.elim
theorem appendC_some {u es by_ : Nat} {p q : PV} {v : SV} {g' : G} (h : appendC rows u es by_ p q g = some (v, none, g')) : False := by
  unfold appendC at h
  simp only [Option.bind_eq_bind, Option.bind_eq_some_iff] at h
  obtain ⟨⟨m, news⟩, _, h⟩ := h
  simp only at h
  split at h
  · cases h
  · split at h
    · split at h
      · cases h
      · simp at h
    · simp only [Option.bind_eq_some_iff] at h
      obtain ⟨row, _, h⟩ := h
      split at h
      · cases h
      · simp at h
    · cases h
theorem appendC_g {u es by_ : Nat} {p q : PV} {v : SV} {r : Option (List Row)} {g' : G} (h : appendC rows u es by_ p q g = some (v, r, g')) : g' = g := by
  unfold appendC at h
  simp only [Option.bind_eq_bind, Option.bind_eq_some_iff] at h
  obtain ⟨⟨m, news⟩, _, h⟩ := h
  simp only at h
  split at h
  · cases h
  · split at h
    · split at h
      · cases h
      · simp only [Option.some.injEq, Prod.mk.injEq] at h; exact h.2.2.symm
    · simp only [Option.bind_eq_some_iff] at h
      obtain ⟨row, _, h⟩ := h
      split at h
      · cases h
      · simp only [Option.some.injEq, Prod.mk.injEq] at h; exact h.2.2.symm
    · cases h
theorem op_call {c : Call} (hX : TysOK P X.tys) (hC : CtrsOK P T X.ctr) (hF : FnsOK P X.fns) (hI : InlOK P T e w0 inl) (ho : o.op = .call c) : OpOK P T e w0 fr rows gs pc o g (execOp X inl fr rows gs pc o g) := by
  obtain ⟨dst, op', ty, pos, after, guard⟩ := o
  simp only at ho
  subst ho
  obtain ⟨callee, cargs, argTypes⟩ := c
  simp only [execOp, Option.bind_eq_bind, Ctx.ty]
  cases ha : opds fr gs cargs.toList with
  | none => trivial
  | some args =>
    simp only [Option.bind_some]
    have hargs : ∀ loc (a : Act), FrRel e rows.length loc fr a.tmps → Holds e gs → PVsRel e rows.length loc args (cargs.toList.map a.eval) := fun loc a hf hg => opds_sound ha hf hg
    split
    · rename_i f
      cases hp : opd fr gs f with
      | none => trivial
      | some p =>
        simp only [Option.bind_some]
        split
        · rename_i f a b
          refine callFn_sound hC hF hI fun fn loc act h1 h2 h3 hgs hfr => ?_
          obtain ⟨va, vb, e1, e2, e3⟩ := opd_sound hp hfr hgs
          refine ⟨va ++ cargs.toList.map act.eval ++ vb, PVsRel_append (PVsRel_append (KsRel_one e2) (hargs loc act hfr hgs)) (KsRel_one e3), fun w => ?_⟩
          have h4 : ¬ fn.body = none := by
            intro hb
            rw [hb] at h3
            cases h3
          have h2' : ¬ fn.name = "runtime.NumGoroutine" := by simpa using h2
          have h5 : va.toArray ++ (Array.map act.eval cargs ++ vb.toArray) = (va ++ (List.map act.eval cargs.toList ++ vb)).toArray := by apply Array.ext'; simp
          simp [Go.execOp, resolve, Deferred.ofValue, invoke, callFunc, e1, h1, h2', h4, h5]
        · trivial
    · cases ht0 : argTypes[0]? with
      | none => trivial
      | some t =>
        simp only [Option.bind_some]
        cases ht : look t X.tys with
        | none => trivial
        | some tt =>
          have htt := hX t tt ht
          simp only [Option.bind_some]
          have hrun : ∀ (a : Act) (v : Value) w, cargs.toList.map a.eval = [v] → ∀ r, (Builtin.len_ argTypes ty #[v]).run P w = .ok r w → (Go.execOp a.eval ⟨dst, .call ⟨.builtin .len, cargs, argTypes⟩, ty, pos, after, guard⟩).run P w = .ok (.value r) w := fun a v w h r hr => by
            have h' : cargs.map a.eval = #[v] := by apply Array.ext'; simpa using h
            simp [Go.execOp, resolve, invoke, builtin, h', hr]
          split
          · rename_i e0 r off m hk
            refine opOK_one fun hg => ⟨hg, fun loc a w1 _ hgs hfr _ => ?_⟩
            obtain ⟨v, hv, hv1⟩ := PVsRel_single (hargs loc a hfr hgs)
            obtain ⟨r1, r2⟩ := rel_slc hv1
            exact ⟨_, mk_int (i := (m : Int)) rfl, fun w _ => hrun a v w hv _ (by simp [Builtin.len_, ht0, run_underlying (kind_slice htt hk), r2, goInt])⟩
          · rename_i e0 r off es m cap hk
            refine opOK_one fun hg => ⟨hg, fun loc a w1 _ hgs hfr _ => ?_⟩
            obtain ⟨v, hv, hv1⟩ := PVsRel_single (hargs loc a hfr hgs)
            obtain ⟨r1, r2⟩ := rel_aslc hv1
            exact ⟨_, mk_int (i := (m : Int)) rfl, fun w _ => hrun a v w hv _ (by simp [Builtin.len_, ht0, run_underlying (kind_slice htt hk), r2, goInt])⟩
          · rename_i e0 hk
            refine opOK_one fun hg => ⟨hg, fun loc a w1 _ hgs hfr _ => ?_⟩
            obtain ⟨v, hv, hv1⟩ := PVsRel_single (hargs loc a hfr hgs)
            have r2 := rel_nilslc hv1
            exact ⟨_, mk_int (i := 0) rfl, fun w _ => hrun a v w hv _ (by simp [Builtin.len_, ht0, run_underlying (kind_slice htt hk), r2, goInt])⟩
          · rename_i e0 x hk
            refine opOK_one fun hg => ?_
            have hgood := push_good hg
            refine ⟨hgood.1, fun loc a w1 _ hgs hfr _ => ?_⟩
            obtain ⟨v, hv, hv1⟩ := PVsRel_single (hargs loc a hfr hgs)
            have r2 := rel_val hv1
            obtain ⟨ad, m, cp, q1, q2⟩ := lenV_slice (x.ev e).val
            rw [q1] at r2
            have hz := hgood.2 (.i (lenV (x.ev e).val)) rfl
            refine ⟨.int .i64 (m : Int), mk_int (by rw [hz]; exact q2), fun w _ => hrun a v w hv _ (by simp [Builtin.len_, ht0, run_underlying (kind_slice htt hk), r2, goInt])⟩
          · rename_i x hk
            refine opOK_one fun hg => ?_
            have hgood := push_good hg
            refine ⟨hgood.1, fun loc a w1 _ hgs hfr _ => ?_⟩
            obtain ⟨v, hv, hv1⟩ := PVsRel_single (hargs loc a hfr hgs)
            have r2 := rel_str hv1
            have hz := hgood.2 (.i (x.ev e).str.size) rfl
            refine ⟨.int .i64 ((x.ev e).str.size : Int), mk_int (by rw [hz]; rfl), fun w _ => hrun a v w hv _ (by simp [Builtin.len_, ht0, run_underlying (kind_string htt hk), r2, goInt])⟩
          · trivial
    · split
      · rename_i k x k' y
        split
        · rename_i hk
          have hk := kindSame_eq hk
          subst hk
          refine opOK_one fun hg => ?_
          have hgood := push_good hg
          refine ⟨hgood.1, fun loc a w1 _ hgs hfr _ => ?_⟩
          obtain ⟨v, u, hv, hv1, hv2⟩ := PVsRel_two (hargs loc a hfr hgs)
          have r1 := rel_int hv1
          have r2 := rel_int hv2
          have hz := hgood.2 _ rfl
          have h' : cargs.map a.eval = #[v, u] := by apply Array.ext'; simpa using hv
          refine ⟨.int k (if (y.ev e).int < (x.ev e).int then (y.ev e).int else (x.ev e).int), mk_int (by rw [hz]; rfl), fun w _ => ?_⟩
          simp [Go.execOp, resolve, invoke, builtin, h', Builtin.min_, Builtin.min2, r1, r2]
        · trivial
      · trivial
    · split
      · rename_i k x k' y
        split
        · rename_i hk
          have hk := kindSame_eq hk
          subst hk
          refine opOK_one fun hg => ?_
          have hgood := push_good hg
          refine ⟨hgood.1, fun loc a w1 _ hgs hfr _ => ?_⟩
          obtain ⟨v, u, hv, hv1, hv2⟩ := PVsRel_two (hargs loc a hfr hgs)
          have r1 := rel_int hv1
          have r2 := rel_int hv2
          have hz := hgood.2 _ rfl
          have h' : cargs.map a.eval = #[v, u] := by apply Array.ext'; simpa using hv
          refine ⟨.int k (if (x.ev e).int < (y.ev e).int then (y.ev e).int else (x.ev e).int), mk_int (by rw [hz]; rfl), fun w _ => ?_⟩
          simp [Go.execOp, resolve, invoke, builtin, h', Builtin.max_, Builtin.max2, r1, r2]
        · trivial
      · trivial
    · cases ht0 : argTypes[0]? with
      | none => trivial
      | some t =>
        simp only [Option.bind_some]
        cases ht : look t X.tys with
        | none => trivial
        | some tt =>
          have htt := hX t tt ht
          simp only [Option.bind_some]
          split
          · rename_i u p q hk
            cases hu : look u X.tys with
            | none => trivial
            | some tu =>
              have htu := hX u tu hu
              simp only [Option.bind_some]
              split
              · trivial
              · split
                · trivial
                · rename_i hts
                  simp only [bne_iff_ne, ne_eq, Decidable.not_not] at hts
                  have hts' : argTypes = #[t, t] := by apply Array.ext'; simpa using hts
                  cases hap : appendC rows u tu.size tu.bytes p q g with
                  | none => trivial
                  | some r =>
                    obtain ⟨v, rr, g'⟩ := r
                    cases rr with
                    | none => exact (appendC_some hap).elim
                    | some rows' =>
                      refine fun hg => ?_
                      have hgg := appendC_g hap
                      subst hgg
                      refine ⟨hg, fun loc a w _ hgs hfr hw => ?_⟩
                      obtain ⟨vp, vq, hv, hv1, hv2⟩ := PVsRel_two (hargs loc a hfr hgs)
                      have h' : cargs.map a.eval = #[vp, vq] := by apply Array.ext'; simpa using hv
                      obtain ⟨_, x, w', h1, h2⟩ := append_sound (t := t) (ty2 := ty) htu (kind_slice htt hk) hap hw hv1 hv2
                      refine .inl ⟨x, w', .inl ?_, h2⟩
                      simp [Go.execOp, resolve, invoke, builtin, h', hts', h1]
          · trivial
    · trivial
end
end Rx
namespace Rx
open Go Go.RowKit
section
variable {P : Program} {l : List Oper} {n : Nat} {Cl : World → Prop}
theorem edgesB_spec (h : edgesB (l.take n) = true) {j : Nat} {o : Oper} (hj : j < n) (ho : l[j]? = some o) : ∀ e ∈ o.after, Region.binds .any e = true → e.on < j := by
  intro e he hb
  simp only [edgesB, List.all_eq_true, Bool.or_eq_true, Bool.not_eq_true', decide_eq_true_eq] at h
  have hm : (o, j) ∈ (l.take n).zipIdx := by
    rw [List.mem_zipIdx_iff_getElem?]
    simp only
    rw [List.getElem?_take_of_lt hj]
    exact ho
  exact (h _ hm e (by simpa using he)).resolve_left (by rw [hb]; simp)
theorem wanted_take (h : guardsB (l.take n) n = true) {j : Nat} {o : Oper} (hj : j < n) (ho : l[j]? = some o) (tmps : Array Value) :
    Region.wanted o (yielded (l.take n).toArray tmps) = Region.wanted o (yielded l.toArray tmps) := by
  simp only [guardsB, List.all_eq_true] at h
  have hm : o ∈ l.take n := List.mem_of_getElem? (i := j) (by rw [List.getElem?_take_of_lt hj]; exact ho)
  have := h o hm
  unfold Region.wanted
  cases hg : o.guard with
  | none => rfl
  | some x =>
    obtain ⟨i, want⟩ := x
    rw [hg] at this
    have hi : i < n := by simpa using this
    simp only [yielded]
    rw [show ((l.take n).toArray)[i]? = (l.toArray)[i]? by simp [List.getElem?_take_of_lt hi]]
theorem count_false {l : List Bool} (h : l.count false = 0) : ∀ i, i < l.length → l[i]? = some true := by
  intro i hi
  cases hb : l[i]? with
  | none => rw [List.getElem?_eq_none_iff] at hb; omega
  | some b =>
    cases b with
    | true => rfl
    | false => exact absurd (List.mem_of_getElem? hb) (List.count_eq_zero.1 h)
theorem count_pos_false {l : List Bool} {k : Nat} (h : l.count false = k + 1) : ∃ i, i < l.length ∧ l[i]? = some false ∧ ∀ j, j < i → l[j]? = some true := by
  induction l generalizing k with
  | nil => simp at h
  | cons b l ih =>
    cases b with
    | false => exact ⟨0, by simp, rfl, fun j hj => by omega⟩
    | true =>
      have h' : l.count false = k + 1 := by simpa using h
      obtain ⟨i, h1, h2, h3⟩ := ih h'
      refine ⟨i + 1, by simp [h1], by simpa using h2, fun j hj => ?_⟩
      cases j with
      | zero => rfl
      | succ j => simpa using h3 j (by omega)
structure Same (n : Nat) (listed listed' : Array Bool) : Prop where
  size : listed'.size = n
  le : n ≤ listed.size
  same : ∀ i, i < n → listed'[i]? = listed[i]?
theorem Same.getD {n : Nat} {a b : Array Bool} (h : Same n a b) {i : Nat} (hi : i < n) (d : Bool) : b.getD i d = a.getD i d := by
  have := h.same i hi
  simp only [Array.getD_eq_getD_getElem?, this]
theorem Same.set {n : Nat} {a b : Array Bool} (h : Same n a b) (i : Nat) : Same n (a.setIfInBounds i true) (b.setIfInBounds i true) :=
  ⟨by simp [h.size], by simp [h.le], fun j hj => by
    rw [Array.getElem?_setIfInBounds, Array.getElem?_setIfInBounds]
    have h1 := h.size
    have h2 := h.le
    split
    · rename_i hij
      subst hij
      rw [if_pos (by omega), if_pos (by omega)]
    · exact h.same j hj⟩
theorem any_of_pre {Q' : Exit → Act → World → Prop} {Q1 : Act → Prop} {g : Nat} (hs : Region.sinkB .any l.toArray n = true) (hc : Region.chainB .any l.toArray n = true) (hn : n < l.length)
    (he : edgesB (l.take n) = true) (hgd : guardsB (l.take n) n = true)
    (hQ : ∀ listed a w, Cl w → (∀ i, i < n → listed[i]? = some true) → HeadInv .any l.toArray n listed → Q1 a → wpAny P .any l.toArray Q' g listed a w) :
    ∀ (f : Nat) (listed listed' : Array Bool) (a : Act) (w : World), HeadInv .any l.toArray n listed → Same n listed listed' → listed'.toList.count false = f → Cl w →
      wpAnyQ P .any (l.take n).toArray Cl Q1 f listed' a → wpAny P .any l.toArray Q' (f + g) listed a w
  | 0, listed, listed', a, w, inv, sm, hcount, hw, h => by
    rw [Nat.zero_add]
    refine hQ listed a w hw (fun i hi => ?_) inv h.2
    rw [← sm.same i hi]
    have := count_false hcount i (by simp [sm.size, hi])
    simpa using this
  | f + 1, listed, listed', a, w, inv, sm, hcount, hw, h => by
    obtain ⟨k, k1, k2, k3⟩ := count_pos_false hcount
    have hkn : k < n := by simpa [sm.size] using k1
    have hunk : listed.getD k true = false := by
      rw [← sm.getD hkn, Array.getD_eq_getD_getElem?]
      have : listed'[k]? = some false := by simpa using k2
      rw [this]; rfl
    have hready : ∀ i, i < n → (i ∈ Region.ready .any l.toArray listed ↔ i ∈ Region.ready .any (l.take n).toArray listed') := fun i hi => by
      rw [mem_ready, mem_ready, sm.getD hi]
      have e1 : ((l.take n).toArray)[i]? = (l.toArray)[i]? := by simp [List.getElem?_take_of_lt hi]
      rw [e1]
      constructor
      · rintro ⟨a1, o, ho, a2⟩
        refine ⟨a1, o, ho, fun e hee hb => ?_⟩
        have := edgesB_spec he hi (by simpa using ho) e hee hb
        rw [sm.getD (by omega)]
        exact a2 e hee hb
      · rintro ⟨a1, o, ho, a2⟩
        refine ⟨a1, o, ho, fun e hee hb => ?_⟩
        have := edgesB_spec he hi (by simpa using ho) e hee hb
        rw [← sm.getD (by omega)]
        exact a2 e hee hb
    have hk : k ∈ Region.ready .any l.toArray listed := by
      rw [mem_ready]
      have hlt : k < l.length := by omega
      refine ⟨hunk, l[k], by simp [hlt], fun e hee hb => ?_⟩
      have hlt2 := edgesB_spec he hkn (show l[k]? = some l[k] by simp [hlt]) e hee hb
      rw [← sm.getD (by omega), Array.getD_eq_getD_getElem?]
      have : listed'[e.on]? = some true := by simpa using k3 e.on hlt2
      rw [this]; rfl
    rw [show f + 1 + g = (f + g) + 1 by omega]
    refine ⟨fun h0 => (by rw [h0] at hk; cases hk), fun i hi => ?_⟩
    have hin : i < n := by
      rcases Nat.lt_or_ge i n with h' | h'
      · exact h'
      · exact absurd hi (tail_waits hs hc (by simpa using hn) inv _ k rfl hkn hunk i h')
    have hq := h.2 i ((hready i hin).1 hi)
    have e1 : ((l.take n).toArray)[i]? = (l.toArray)[i]? := by simp [List.getElem?_take_of_lt hin]
    have hun := (mem_ready.1 hi).1
    have hcount' : (listed'.setIfInBounds i true).toList.count false = f := by
      have hlen : i < listed'.toList.length := by simp [sm.size, hin]
      have hf : listed'.toList[i] = false := by
        have : listed'.getD i true = false := by rw [sm.getD hin]; exact hun
        rw [Array.getD_eq_getD_getElem?, Array.getElem?_eq_getElem (by simpa using hlen)] at this
        simpa using this
      rw [Array.toList_setIfInBounds, List.count_set hlen, hf, hcount]
      simp
    have ih := fun a' w' hw' => any_of_pre hs hc hn he hgd hQ f (listed.setIfInBounds i true) (listed'.setIfInBounds i true) a' w' (inv.set hi hin) (sm.set i) hcount' hw'
    unfold qOp at hq
    unfold wpOp
    rw [e1] at hq
    have hlt : i < l.length := by omega
    have ho : (l.toArray)[i]? = some l[i] := by simp [hlt]
    rw [ho] at hq ⊢
    simp only at hq ⊢
    rw [wanted_take hgd hin (show l[i]? = some l[i] by simp [hlt])] at hq
    split
    · rename_i hwt
      rw [if_pos hwt] at hq
      exact .inl (Oper.wp_of_quiet hw (fun a' w' hw' hk' => ih a' w' hw' hk') hq)
    · rename_i hwt
      rw [if_neg hwt] at hq
      exact ih _ w hw hq
theorem wp_region_split {id : Nat} {Q : Exit → Act → World → Prop} {a : Act} {w : World} (hm : P.follows .mixedOrders = true) (hB : splitB l n = true) (hC : Cl { w with drawn := w.drawn + 1 })
    (h : wpQuiet P (l.take n).toArray Cl (fun a' => ∀ w', Cl w' → wpList P l.toArray Q (l.drop n) a' w') (l.take n) a) : (Code.region id l.toArray true).wp P Q a w := by
  simp only [splitB, Bool.and_eq_true, decide_eq_true_eq] at hB
  obtain ⟨⟨⟨⟨⟨⟨hn, hs⟩, hc⟩, he⟩, hgd⟩, hlex⟩, hseq⟩ := hB
  simp only [Region.lexB, Bool.and_eq_true] at hlex
  have htl : (l.take n).length = n := by simp; omega
  refine wp_region_any hm ?_
  have hpre := wpAnyQ_lex (P := P) (C := Cl) (md := .any) (ops := (l.take n).toArray) hlex.1 (l.take n) 0 (Array.replicate n false) a (by simp) (by
    have := hlex.2
    simpa [htl, Nat.min_eq_left (Nat.le_of_lt hn)] using this) h
  rw [htl] at hpre
  have inv0 : HeadInv .any l.toArray n (Array.replicate l.toArray.size false) :=
    ⟨by simp, fun j oj _ hl => (by rw [getD_replicate_false] at hl; cases hl), fun t _ ht => getD_in (by simpa using ht) (getD_replicate_false _ _)⟩
  have := any_of_pre (P := P) (Q' := Q) (g := l.length - n) hs hc hn he hgd (fun listed a' w' hw' hall inv hq => by
    have hlist : listed = Array.replicate n true ++ Array.replicate (l.length - n) false := by
      have hsz : listed.size = l.length := by simpa using inv.size
      apply Array.ext_getElem?
      intro i
      by_cases hi : i < n
      · rw [hall i hi, Array.getElem?_append_left (by simpa using hi)]
        simp [hi]
      · by_cases hi2 : i < l.length
        · have := inv.tail i (by omega) (by simpa using hi2)
          rw [Array.getD_eq_getD_getElem?, Array.getElem?_eq_getElem (by omega)] at this
          rw [Array.getElem?_append_right (by simp; omega), Array.getElem?_eq_getElem (by omega)]
          simp only [Option.getD_some] at this
          rw [this]
          rw [Array.size_replicate, Array.getElem?_replicate, if_pos (by omega)]
        · rw [Array.getElem?_eq_none (by omega), Array.getElem?_eq_none (by simp; omega)]
    subst hlist
    have := wpAny_of_seq (P := P) (md := .any) (Q' := Q) (ops := l.toArray) (l.drop n) n _ a' w' (fun j => by simp [List.getElem?_drop]) (by simpa using hseq) (hq w' hw')
    simpa using this) n _ _ a { w with drawn := w.drawn + 1 } inv0 ⟨by simp, by simp; omega, fun i hi => by
      rw [Array.getElem?_replicate, Array.getElem?_replicate, if_pos hi, if_pos (by simp; omega)]⟩ (by simp) hC hpre
  rw [show n + (l.length - n) = l.toArray.size by simp; omega] at this
  exact this
end
end Rx
namespace Rx
open Go Go.RowKit
section
variable {T : Nat → List A → Bool × List A} {e : Nat → A} {n n' : Nat} {loc loc' : Loc} {P : Program} {X : Ctx} {w0 : World}
variable {fr : List SV} {rows : List Row} {gs : List (L × Bool)} {pc : L} {o : Oper} {g : G} {inl : Inline}
structure XOK (P : Program) (T : Nat → List A → Bool × List A) (X : Ctx) : Prop where
  tys : TysOK P X.tys
  eqs : EqsOK P X.eqs
  ctr : CtrsOK P T X.ctr
  fns : FnsOK P X.fns
  mixed : P.follows .mixedOrders = true
theorem op_ok (hX : XOK P T X) (hI : InlOK P T e w0 inl) (o : Oper) : OpOK P T e w0 fr rows gs pc o g (execOp X inl fr rows gs pc o g) := by
  have none_ : execOp X inl fr rows gs pc o g = none → OpOK P T e w0 fr rows gs pc o g (execOp X inl fr rows gs pc o g) := fun h => by rw [h]; trivial
  cases h : o.op with
  | move x => exact op_move (.inl h)
  | assign x => exact op_move (.inr h)
  | pick c a b => exact op_pick h
  | alloc t => exact op_alloc hX.tys h
  | box t x => exact op_box hX.tys h
  | build t ps => exact op_build hX.tys h
  | buildSlice t n ps => exact op_buildSlice hX.tys h
  | load t a => exact op_load hX.tys h
  | store t a x => exact op_store hX.tys h
  | nilCheck x => exact op_nilCheck h
  | binOp op t x y yt => exact op_binOp hX.tys hX.eqs h
  | unOp op t x => exact op_unOp h
  | convert s d x => exact op_convert hX.tys h
  | makeFunc f a b =>
    cases f with
    | func f => exact op_makeFunc h
    | _ => exact none_ (by simp [execOp, h])
  | makeSlice t x y => exact op_makeSlice hX.tys h
  | slice t x lo hi mx =>
    cases mx with
    | none => exact op_slice hX.tys h
    | some _ => exact none_ (by simp [execOp, h])
  | fieldAddr s x f => exact op_fieldAddr hX.tys h
  | field t x f => exact op_field hX.tys h
  | indexAddr t x i => exact op_indexAddr hX.tys h
  | index t x i => exact op_index hX.tys h
  | extract x i => exact op_extract h
  | call c => exact op_call hX.tys hX.ctr hX.fns hI h
  | _ => exact none_ (by simp [execOp, h])
def boolOf : Value → Option Bool
  | .bool b => some b
  | _ => none
theorem yielded_of {ops : List Oper} {tm : Array Value} {j : Nat} {oj : Oper} {d : Nat} {s : SV} (h1 : ops[j]? = some oj) (h2 : oj.dst = some d) (h3 : fr[d]? = some s) (hf : FrRel e n loc fr tm) :
    ∃ v, s.rel e n loc v ∧ yielded ops.toArray tm j = boolOf v := by
  obtain ⟨v, hv, _, hr⟩ := hf.get h3
  refine ⟨v, hr, ?_⟩
  have h1' : ops.toArray[j]? = some oj := by simpa using h1
  unfold yielded
  rw [h1']
  simp only [Option.bind_some, h2, hv]
  cases v <;> rfl
theorem wantedS_sound {ops : List Oper} {tm : Array Value} {r : Option (List (L × Bool))} (h : wantedS fr ops o = some r) (hf : FrRel e n loc fr tm) :
    match r with
    | none => Region.wanted o (yielded ops.toArray tm) = false
    | some gs => (Region.wanted o (yielded ops.toArray tm) = true ↔ Holds e gs) := by
  unfold wantedS at h
  cases hg : o.guard with
  | none =>
    rw [hg] at h
    injection h with h
    subst h
    simp only [Region.wanted, hg, true_iff]
    intro x hx
    cases hx
  | some jw =>
    obtain ⟨j, want⟩ := jw
    rw [hg] at h
    simp only [Option.bind_eq_bind, Option.bind_eq_some_iff] at h
    obtain ⟨oj, hoj, d, hd, s, hs, h⟩ := h
    obtain ⟨v, hv, hy⟩ := yielded_of hoj hd hs hf
    have hwt : Region.wanted o (yielded ops.toArray tm) = (boolOf v == some want) := by
      simp only [Region.wanted, hg, hy]
    rw [hwt]
    split at h
    · injection h with h
      subst h
      simp only [SV.rel] at hv
      subst hv
      rfl
    · rename_i b
      injection h with h
      have := rel_bool (x := .t b) hv
      subst this
      subst h
      simp only [L.ev_t, A.bool_b]
      cases b <;> cases want <;> simp [Holds, boolOf]
    · rename_i x _
      injection h with h
      have := rel_bool hv
      subst this
      subst h
      simp [Holds, boolOf]
    · rename_i gs b
      by_cases hh : Holds e gs
      · have := rel_bool (x := .t b) (hv.1 hh)
        subst this
        simp only [L.ev_t, A.bool_b]
        split at h
        · rename_i hb
          injection h with h
          subst h
          have hb : b = want := by simpa using hb
          subst hb
          simp [hh, boolOf]
        · rename_i hb
          injection h with h
          subst h
          simpa [boolOf] using hb
      · have := hv.2 hh
        subst this
        split at h
        · injection h with h
          subst h
          simp [hh, Go.undef, boolOf]
        · injection h with h
          subst h
          rfl
    · rename_i gs x _
      injection h with h
      subst h
      by_cases hh : Holds e gs
      · have := rel_bool (hv.1 hh)
        subst this
        simp only
        constructor
        · intro h1
          exact holds_cons (by simpa [boolOf] using h1) hh
        · intro h1
          simpa [boolOf] using h1 (x, want) (by simp)
      · have := hv.2 hh
        subst this
        constructor
        · intro h1
          cases h1
        · intro h1
          exact absurd (fun y hy => h1 y (List.mem_cons_of_mem _ hy)) hh
    · cases h
theorem condS_rel {v v' : SV} {u : Value} (h : condS gs v = some v') (hv : Holds e gs → v.rel e n loc u) (hu : ¬ Holds e gs → u = Go.undef) : v'.rel e n loc u := by
  unfold condS at h
  split at h
  · injection h with h
    subst h
    exact hv (fun x hx => by cases hx)
  · injection h with h
    subst h
    exact ⟨hv, hu⟩
  · cases h
theorem execOps_quiet (hX : XOK P T X) (hI : InlOK P T e w0 inl) {ops : List Oper} : ∀ {l : List Oper} {fr : List SV} {rows : List Row} {g : G} {fr' : List SV} {rows' : List Row} {g' : G},
    execOps X inl true ops pc l fr rows g = some (fr', rows', g') → Good T e g' → Good T e g ∧ rows' = rows ∧
      ∀ (loc : Loc) (a : Act) (w1 : World) (Q : Act → Prop), (pc.ev e).bool = true → FrRel e rows.length loc fr a.tmps → Cls e w0 loc rows w1 →
        (∀ a' : Act, FrRel e rows.length loc fr' a'.tmps → a'.defers = a.defers → Q a') → wpQuiet P ops.toArray (Cls e w0 loc rows) Q l a
  | [], fr, rows, g, fr', rows', g', h, hg => by
    simp only [execOps, Option.some.injEq, Prod.mk.injEq] at h
    obtain ⟨rfl, rfl, rfl⟩ := h
    exact ⟨hg, rfl, fun loc a w1 Q _ hf _ hQ => hQ a hf rfl⟩
  | o :: l, fr, rows, g, fr', rows', g', h, hg => by
    simp only [execOps, Option.bind_eq_bind, Option.bind_eq_some_iff] at h
    obtain ⟨wt, hwt, h⟩ := h
    cases wt with
    | none =>
      simp only at h
      obtain ⟨h1, h2, h3⟩ := execOps_quiet hX hI h hg
      refine ⟨h1, h2, fun loc a w1 Q hpc hf hw1 hQ => ?_⟩
      have := wantedS_sound hwt hf
      simp only at this
      unfold wpQuiet
      rw [if_neg (by rw [this]; simp)]
      exact h3 loc _ w1 Q hpc (hf.put (s := .undef) rfl o.dst) hw1 fun a' hf' hd => hQ a' hf' (by rw [hd]; cases o.dst <;> rfl)
    | some gs =>
      simp only [Option.bind_eq_some_iff] at h
      obtain ⟨⟨v, r, g1⟩, hop, h⟩ := h
      simp only [Option.bind_eq_some_iff] at h
      obtain ⟨v', hv', h⟩ := h
      cases r with
      | some rows1 => simp at h
      | none =>
        simp only at h
        obtain ⟨h1, h2, h3⟩ := execOps_quiet hX hI h hg
        have hok := op_ok (fr := fr) (rows := rows) (gs := gs) (pc := (guardPc pc gs g).1) (g := (guardPc pc gs g).2) hX hI o
        rw [hop] at hok
        obtain ⟨hg2, hq⟩ := hok h1
        have hgp := guardPc_good hg2
        refine ⟨hgp.1, h2, fun loc a w1 Q hpc hf hw1 hQ => ?_⟩
        have hwanted := wantedS_sound hwt hf
        simp only at hwanted
        unfold wpQuiet
        by_cases hh : Holds e gs
        · rw [if_pos (hwanted.2 hh)]
          obtain ⟨u, hu, hdo⟩ := hq loc a w1 (hgp.2.2 ⟨hpc, hh⟩) hh hf hw1
          exact ⟨u, fun w hw => (hdo w hw).quietAt, h3 loc _ w1 Q hpc (hf.put (condS_rel hv' (fun _ => hu) (fun h0 => absurd hh h0)) o.dst) hw1 fun a' hf' hd => hQ a' hf' (by rw [hd]; cases o.dst <;> rfl)⟩
        · rw [if_neg (fun h0 => hh (hwanted.1 h0))]
          exact h3 loc _ w1 Q hpc (hf.put (condS_rel hv' (fun h0 => absurd h0 hh) (fun _ => rfl)) o.dst) hw1 fun a' hf' hd => hQ a' hf' (by rw [hd]; cases o.dst <;> rfl)
theorem execOps_list (hX : XOK P T X) (hI : InlOK P T e w0 inl) {ops : List Oper} : ∀ {l : List Oper} {fr : List SV} {rows : List Row} {g : G} {fr' : List SV} {rows' : List Row} {g' : G},
    execOps X inl false ops pc l fr rows g = some (fr', rows', g') → Good T e g' → Good T e g ∧
      ∀ (loc : Loc) (a : Act) (w : World) (Q : Exit → Act → World → Prop), (pc.ev e).bool = true → FrRel e rows.length loc fr a.tmps → Cls e w0 loc rows w →
        (∀ (loc' : Loc) (a' : Act) (w' : World), LExt rows.length loc loc' → rows.length ≤ rows'.length → FrRel e rows'.length loc' fr' a'.tmps → a'.defers = a.defers → Cls e w0 loc' rows' w' → Q .normal a' w') →
          wpList P ops.toArray Q l a w
  | [], fr, rows, g, fr', rows', g', h, hg => by
    simp only [execOps, Option.some.injEq, Prod.mk.injEq] at h
    obtain ⟨rfl, rfl, rfl⟩ := h
    exact ⟨hg, fun loc a w Q _ hf hw hQ => hQ loc a w (LExt.refl _ _) (Nat.le_refl _) hf rfl hw⟩
  | o :: l, fr, rows, g, fr', rows', g', h, hg => by
    simp only [execOps, Option.bind_eq_bind, Option.bind_eq_some_iff] at h
    obtain ⟨wt, hwt, h⟩ := h
    cases wt with
    | none =>
      simp only at h
      obtain ⟨h1, h3⟩ := execOps_list hX hI h hg
      refine ⟨h1, fun loc a w Q hpc hf hw hQ => ?_⟩
      have := wantedS_sound hwt hf
      simp only at this
      unfold wpList
      rw [if_neg (by rw [this]; simp)]
      exact h3 loc _ w Q hpc (hf.put (s := .undef) rfl o.dst) hw fun loc' a' w' hx hl hf' hd hw' => hQ loc' a' w' hx hl hf' (by rw [hd]; cases o.dst <;> rfl) hw'
    | some gs =>
      simp only [Option.bind_eq_some_iff] at h
      obtain ⟨⟨v, r, g1⟩, hop, h⟩ := h
      simp only [Option.bind_eq_some_iff] at h
      obtain ⟨v', hv', h⟩ := h
      have hok := op_ok (fr := fr) (rows := rows) (gs := gs) (pc := (guardPc pc gs g).1) (g := (guardPc pc gs g).2) hX hI o
      rw [hop] at hok
      cases r with
      | none =>
        simp only at h
        obtain ⟨h1, h3⟩ := execOps_list hX hI h hg
        obtain ⟨hg2, hq⟩ := hok h1
        have hgp := guardPc_good hg2
        refine ⟨hgp.1, fun loc a w Q hpc hf hw hQ => ?_⟩
        have hwanted := wantedS_sound hwt hf
        simp only at hwanted
        unfold wpList
        by_cases hh : Holds e gs
        · rw [if_pos (hwanted.2 hh)]
          obtain ⟨u, hu, hdo⟩ := hq loc a w (hgp.2.2 ⟨hpc, hh⟩) hh hf hw
          refine .inl (((hdo w hw).does (R := fun u' w' => u' = u ∧ Cls e w0 loc rows w') hw fun w' hw' => ⟨rfl, hw'⟩).wp ?_)
          rintro u' w' ⟨rfl, hw'⟩
          exact h3 loc _ w' Q hpc (hf.put (condS_rel hv' (fun _ => hu) (fun h0 => absurd hh h0)) o.dst) hw' fun loc' a' w' hx hl hf' hd hw' => hQ loc' a' w' hx hl hf' (by rw [hd]; cases o.dst <;> rfl) hw'
        · rw [if_neg (fun h0 => hh (hwanted.1 h0))]
          exact h3 loc _ w Q hpc (hf.put (condS_rel hv' (fun h0 => absurd h0 hh) (fun _ => rfl)) o.dst) hw fun loc' a' w' hx hl hf' hd hw' => hQ loc' a' w' hx hl hf' (by rw [hd]; cases o.dst <;> rfl) hw'
      | some rows1 =>
        simp only [Bool.false_or] at h
        split at h
        · cases h
        · rename_i hge
          have hgs : gs = [] := by simpa using hge
          subst hgs
          have hhold : Holds e ([] : List (L × Bool)) := fun x hx => by cases hx
          obtain ⟨h1, h3⟩ := execOps_list hX hI h hg
          obtain ⟨hg2, hq⟩ := hok h1
          have hgp := guardPc_good hg2
          refine ⟨hgp.1, fun loc a w Q hpc hf hw hQ => ?_⟩
          have hwanted := wantedS_sound hwt hf
          simp only at hwanted
          unfold wpList
          rw [if_pos (hwanted.2 hhold)]
          refine .inl ((hq loc a w (hgp.2.2 ⟨hpc, hhold⟩) hhold hf hw).wp ?_)
          rintro u w' ⟨loc1, hx1, hl1, hu, hw1⟩
          have hv2 : v'.rel e rows1.length loc1 u := condS_rel hv' (fun _ => hu) (fun h0 => absurd hhold h0)
          exact h3 loc1 _ w' Q hpc ((hf.ext hx1 hl1).put hv2 o.dst) hw1 fun loc' a' w' hx hl hf' hd hw' => hQ loc' a' w' (hx1.trans hx hl1) (Nat.le_trans hl1 hl) hf' (by rw [hd]; cases o.dst <;> rfl) hw'
end
end Rx
namespace Rx
open Go Go.RowKit
theorem samesC_eq' : ∀ {a b : List C}, samesC a b = true → a = b
  | [], [], _ => rfl
  | [], _ :: _, h => by simp [samesC] at h
  | _ :: _, [], h => by simp [samesC] at h
  | a :: l, b :: m, h => by
    simp only [samesC, Bool.and_eq_true] at h
    rw [C.same_eq h.1, samesC_eq' h.2]
theorem knownSame_eq : ∀ {a b : List Known}, knownSame a b = true → a = b
  | [], [], _ => rfl
  | [], _ :: _, h => by simp [knownSame] at h
  | _ :: _, [], h => by simp [knownSame] at h
  | ⟨a1, a2, a3⟩ :: l, ⟨b1, b2, b3⟩ :: m, h => by
    simp only [knownSame, Bool.and_eq_true] at h
    obtain ⟨⟨⟨h1, h2⟩, h3⟩, h4⟩ := h
    rw [D.same_eq h1, L.beqs_eq h2, L.beqs_eq h3, knownSame_eq h4]
theorem defsSame_eq : ∀ {a b : List Def}, defsSame a b = true → a = b
  | [], [], _ => rfl
  | [], _ :: _, h => by simp [defsSame] at h
  | _ :: _, [], h => by simp [defsSame] at h
  | ⟨a1, a2, a3⟩ :: l, ⟨b1, b2, b3⟩ :: m, h => by
    simp only [defsSame, Bool.and_eq_true, beq_iff_eq, D.same, decide_eq_true_eq] at h
    obtain ⟨⟨⟨h1, h2⟩, h3⟩, h4⟩ := h
    rw [h1, h2, L.beqs_eq h3, defsSame_eq h4]
theorem PV.same_eq {a b : PV} (h : a.same b = true) : a = b := by
  cases a <;> cases b <;> simp [PV.same] at h
  · rw [C.same_eq h]
  · rw [samesC_eq' h]
theorem pvsSame_eq : ∀ {a b : List PV}, pvsSame a b = true → a = b
  | [], [], _ => rfl
  | [], _ :: _, h => by simp [pvsSame] at h
  | _ :: _, [], h => by simp [pvsSame] at h
  | a :: l, b :: m, h => by
    simp only [pvsSame, Bool.and_eq_true] at h
    rw [PV.same_eq h.1, pvsSame_eq h.2]
theorem gsSame_eq : ∀ {a b : List (L × Bool)}, gsSame a b = true → a = b
  | [], [], _ => rfl
  | [], _ :: _, h => by simp [gsSame] at h
  | _ :: _, [], h => by simp [gsSame] at h
  | (a, a') :: l, (b, b') :: m, h => by
    simp only [gsSame, Bool.and_eq_true, beq_iff_eq] at h
    rw [L.same_eq h.1.1, h.1.2, gsSame_eq h.2]
theorem SV.same_eq {a b : SV} (h : a.same b = true) : a = b := by
  cases a <;> cases b <;> simp [SV.same] at h
  · rw [PV.same_eq h]
  · rw [pvsSame_eq h]
  · rw [gsSame_eq h.1, PV.same_eq h.2]
  · rfl
  · rfl
theorem svsSame_eq : ∀ {a b : List SV}, svsSame a b = true → a = b
  | [], [], _ => rfl
  | [], _ :: _, h => by simp [svsSame] at h
  | _ :: _, [], h => by simp [svsSame] at h
  | a :: l, b :: m, h => by
    simp only [svsSame, Bool.and_eq_true] at h
    rw [SV.same_eq h.1, svsSame_eq h.2]
theorem rowsSame_eq : ∀ {a b : List Row}, rowsSame a b = true → a = b
  | [], [], _ => rfl
  | [], _ :: _, h => by simp [rowsSame] at h
  | _ :: _, [], h => by simp [rowsSame] at h
  | ⟨a1, a2, a3, a4⟩ :: l, ⟨b1, b2, b3, b4⟩ :: m, h => by
    simp only [rowsSame, Bool.and_eq_true, beq_iff_eq] at h
    obtain ⟨⟨⟨⟨h1, h2⟩, h3⟩, h4⟩, h5⟩ := h
    rw [h1, h2, h3, samesC_eq' h4, rowsSame_eq h5]
theorem boolsSame_eq : ∀ {a b : List Bool}, boolsSame a b = true → a = b
  | [], [], _ => rfl
  | [], _ :: _, h => by simp [boolsSame] at h
  | _ :: _, [], h => by simp [boolsSame] at h
  | a :: l, b :: m, h => by
    simp only [boolsSame, Bool.and_eq_true, beq_iff_eq] at h
    rw [h.1, boolsSame_eq h.2]
theorem Nd.same_eq {a b : Nd} (hl : a.listed = b.listed) (h : a.same b = true) : a = b := by
  obtain ⟨a1, a2, a3, a4, a5, a6, a7⟩ := a
  obtain ⟨b1, b2, b3, b4, b5, b6, b7⟩ := b
  simp only [Nd.same, Bool.and_eq_true, beq_iff_eq] at h
  obtain ⟨⟨⟨⟨⟨h1, h2⟩, h3⟩, h4⟩, h5⟩, h6⟩ := h
  simp only at hl
  rw [hl, svsSame_eq h1, rowsSame_eq h2, h3, defsSame_eq h4, L.beqs_eq h5, knownSame_eq h6]
theorem insNd_mem {n : Nd} : ∀ {l r : List Nd}, insNd n l = some r → n ∈ r ∧ ∀ m ∈ l, m ∈ r
  | [], r, h => by
    simp only [insNd, Option.some.injEq] at h
    subst h
    exact ⟨by simp, fun m hm => by cases hm⟩
  | m :: l, r, h => by
    simp only [insNd] at h
    split at h
    · rename_i hb
      split at h
      · rename_i hs
        injection h with h
        subst h
        rw [← Nd.same_eq (boolsSame_eq hb) hs]
        exact ⟨by simp, fun x hx => hx⟩
      · cases h
    · simp only [Option.bind_eq_bind, Option.bind_eq_some_iff, Option.some.injEq] at h
      obtain ⟨r', hr, rfl⟩ := h
      obtain ⟨h1, h2⟩ := insNd_mem hr
      exact ⟨by simp [h1], fun x hx => by
        rcases List.mem_cons.1 hx with rfl | hx
        · simp
        · simp [h2 x hx]⟩
theorem insAll_mem : ∀ {ns l r : List Nd}, insAll ns l = some r → (∀ m ∈ ns, m ∈ r) ∧ ∀ m ∈ l, m ∈ r
  | [], l, r, h => by
    simp only [insAll, Option.some.injEq] at h
    subst h
    exact ⟨fun m hm => (by cases hm), fun m hm => hm⟩
  | n :: ns, l, r, h => by
    simp only [insAll, Option.bind_eq_bind, Option.bind_eq_some_iff] at h
    obtain ⟨l', h1, h2⟩ := h
    obtain ⟨a1, a2⟩ := insNd_mem h1
    obtain ⟨b1, b2⟩ := insAll_mem h2
    exact ⟨fun m hm => by
      rcases List.mem_cons.1 hm with rfl | hm
      · exact b2 _ a1
      · exact b1 m hm, fun m hm => b2 _ (a2 m hm)⟩
theorem stepAll_mem {X : Ctx} {inl : Inline} {ops : List Oper} {pc : L} : ∀ {l out r : List Nd}, stepAll X inl ops pc l out = some r → (∀ nd ∈ l, ∃ ns, succs X inl ops pc nd = some ns ∧ ∀ m ∈ ns, m ∈ r) ∧ ∀ m ∈ out, m ∈ r
  | [], out, r, h => by
    simp only [stepAll, Option.some.injEq] at h
    subst h
    exact ⟨fun nd hnd => (by cases hnd), fun m hm => hm⟩
  | nd :: l, out, r, h => by
    simp only [stepAll, Option.bind_eq_bind, Option.bind_eq_some_iff] at h
    obtain ⟨ns, h1, out', h2, h3⟩ := h
    obtain ⟨a1, a2⟩ := insAll_mem h2
    obtain ⟨b1, b2⟩ := stepAll_mem h3
    exact ⟨fun x hx => by
      rcases List.mem_cons.1 hx with rfl | hx
      · exact ⟨ns, h1, fun m hm => b2 _ (a1 m hm)⟩
      · exact b1 x hx, fun m hm => b2 _ (a2 m hm)⟩
end Rx
namespace Rx
open Go Go.RowKit
section
variable {T : Nat → List A → Bool × List A} {e : Nat → A} {n n' : Nat} {loc loc' : Loc} {P : Program} {X : Ctx} {w0 : World}
variable {fr : List SV} {rows : List Row} {gs : List (L × Bool)} {pc : L} {o : Oper} {g : G} {inl : Inline}
theorem Oper.wp_then {K : Act → World → Prop} {Q : Exit → Act → World → Prop} {a : Act} {w : World} (h : o.wp P a w K (Exit.then K Q)) : o.wp P a w K Q := by
  unfold Oper.wp at *
  generalize (Go.execOp a.eval o).run P w = r at *
  cases r with
  | ok n w' =>
    cases n <;> simp only [Oper.upon] at h ⊢ <;> first | exact h | exact Calls.mono h (fun e w'' he => by cases e <;> exact he)
  | halt x w' => cases x <;> simp only [Oper.upon] at h ⊢ <;> exact h
theorem stepOne_sound (hX : XOK P T X) (hI : InlOK P T e w0 inl) {ops : List Oper} {nd nd' : Nd} {i : Nat} (h : stepOne X inl ops pc nd i = some nd') (hg : Good T e nd'.g) :
    nd'.listed = nd.listed.set i true ∧ Good T e nd.g ∧ ∀ (loc : Loc) (a : Act) (w : World) (K : Act → World → Prop) (Q : Exit → Act → World → Prop), (pc.ev e).bool = true → FrRel e nd.rows.length loc nd.fr a.tmps → Cls e w0 loc nd.rows w →
      (∀ (loc' : Loc) (a' : Act) (w' : World), LExt nd.rows.length loc loc' → nd.rows.length ≤ nd'.rows.length → FrRel e nd'.rows.length loc' nd'.fr a'.tmps → a'.defers = a.defers → Cls e w0 loc' nd'.rows w' → K a' w') → wpOp P ops.toArray Q i K a w := by
  simp only [stepOne, Option.bind_eq_bind, Option.bind_eq_some_iff, Option.some.injEq] at h
  obtain ⟨o, ho, ⟨fr1, rows1, g1⟩, hex, rfl⟩ := h
  obtain ⟨k1, k2⟩ := execOps_list hX hI hex hg
  refine ⟨rfl, k1, fun loc a w K Q hpc hf hw hK => ?_⟩
  have := k2 loc a w (Exit.then K Q) hpc hf hw hK
  unfold wpOp
  have ho' : ops.toArray[i]? = some o := by simpa using ho
  rw [ho']
  simp only
  unfold wpList at this
  split
  · rename_i hwt
    rw [if_pos hwt] at this
    rcases this with h1 | h1
    · exact .inl (Oper.wp_then h1)
    · exact .inr h1
  · rename_i hwt
    rw [if_neg hwt] at this
    exact this
theorem mapO_mem {α β : Type} {f : α → Option β} : ∀ {l : List α} {r : List β}, mapO f l = some r → ∀ a ∈ l, ∃ b ∈ r, f a = some b
  | [], r, _, a, ha => by cases ha
  | x :: l, r, h, a, ha => by
    simp only [mapO, Option.bind_eq_bind, Option.bind_eq_some_iff, Option.some.injEq] at h
    obtain ⟨b, hb, r', hr, rfl⟩ := h
    rcases List.mem_cons.1 ha with rfl | ha
    · exact ⟨b, by simp, hb⟩
    · obtain ⟨b', h1, h2⟩ := mapO_mem hr a ha
      exact ⟨b', by simp [h1], h2⟩
theorem explore_sound (hX : XOK P T X) (hI : InlOK P T e w0 inl) {ops : List Oper} (hns : Region.noSelect ops.toArray = true) {E : Nd} (hE : Region.ready .any ops.toArray E.listed.toArray = []) (hg : Good T e E.g) :
    ∀ (k : Nat) (l : List Nd), explore X inl ops pc k l = some [E] → ∀ nd ∈ l, Good T e nd.g ∧
      ∀ (loc : Loc) (a : Act) (w : World) (Q : Exit → Act → World → Prop), (pc.ev e).bool = true → FrRel e nd.rows.length loc nd.fr a.tmps → Cls e w0 loc nd.rows w →
        (∀ c a w, ¬ Q (.panic c) a w) → ¬ LetsOut Q →
        (∀ (loc' : Loc) (a' : Act) (w' : World), LExt nd.rows.length loc loc' → nd.rows.length ≤ E.rows.length → FrRel e E.rows.length loc' E.fr a'.tmps → a'.defers = a.defers → Cls e w0 loc' E.rows w' → Q .normal a' w') →
          wpAny P .any ops.toArray Q k nd.listed.toArray a w
  | 0, l, h, nd, hnd => by
    simp only [explore, Option.some.injEq] at h
    subst h
    simp only [List.mem_singleton] at hnd
    subst hnd
    exact ⟨hg, fun loc a w Q hpc hf hw _ _ hQ => ⟨hE, hQ loc a w (LExt.refl _ _) (Nat.le_refl _) hf rfl hw⟩⟩
  | k + 1, l, h, nd, hnd => by
    simp only [explore, Option.bind_eq_bind, Option.bind_eq_some_iff] at h
    obtain ⟨l', h1, h2⟩ := h
    obtain ⟨ns, hs, hmem⟩ := (stepAll_mem h1).1 nd hnd
    have ih := explore_sound hX hI hns hE hg k l' h2
    have hset : ∀ i, (nd.listed.set i true).toArray = nd.listed.toArray.setIfInBounds i true := fun i => by simp
    have step : ∀ i n, stepOne X inl ops pc nd i = some n → n ∈ l' → Good T e nd.g ∧ ∀ (loc : Loc) (a : Act) (w : World) (Q : Exit → Act → World → Prop), (pc.ev e).bool = true → FrRel e nd.rows.length loc nd.fr a.tmps → Cls e w0 loc nd.rows w →
        (∀ c a w, ¬ Q (.panic c) a w) → ¬ LetsOut Q →
        (∀ (loc' : Loc) (a' : Act) (w' : World), LExt nd.rows.length loc loc' → nd.rows.length ≤ E.rows.length → FrRel e E.rows.length loc' E.fr a'.tmps → a'.defers = a.defers → Cls e w0 loc' E.rows w' → Q .normal a' w') →
          wpOp P ops.toArray Q i (wpAny P .any ops.toArray Q k (nd.listed.toArray.setIfInBounds i true)) a w := fun i n hn hm => by
      obtain ⟨i1, i2⟩ := ih n hm
      obtain ⟨s1, s2, s3⟩ := stepOne_sound hX hI hn i1
      refine ⟨s2, fun loc a w Q hpc hf hw hp ho hQ => s3 loc a w _ Q hpc hf hw fun loc1 a1 w1 q1 q2 q3 q4 q5 => ?_⟩
      have := i2 loc1 a1 w1 Q hpc q3 q5 hp ho fun loc' a' w' r1 r2 r3 r4 r5 => hQ loc' a' w' (q1.trans r1 q2) (Nat.le_trans q2 r2) r3 (r4.trans q4) r5
      rw [s1, hset] at this
      exact this
    unfold succs at hs
    simp only at hs
    split at hs
    · rename_i i hfind
      simp only [Option.bind_eq_bind, Option.bind_eq_some_iff, Option.some.injEq] at hs
      obtain ⟨n, hn, rfl⟩ := hs
      obtain ⟨s1, s2⟩ := step i n hn (hmem n (by simp))
      have hready := List.mem_of_find?_eq_some hfind
      have hpure := List.find?_some hfind
      refine ⟨s1, fun loc a w Q hpc hf hw hp ho hQ => ?_⟩
      have hop := s2 loc a w Q hpc hf hw hp ho hQ
      unfold pureAt at hpure
      split at hpure
      · rename_i o hoi
        have hoi' : ops.toArray[i]? = some o := by simpa using hoi
        have key : ∀ x, (∀ (ρ : Operand → Value), Go.execOp ρ o = pure (.value (ρ x))) → Region.free .any ops.toArray nd.listed.toArray i = true → wpAny P .any ops.toArray Q (k + 1) nd.listed.toArray a w := fun x hx hfree => by
          have hrun : ∀ w, (Go.execOp a.eval o).run P w = .ok (.value (a.eval x)) w := fun w => by rw [hx]; simp
          unfold wpOp at hop
          rw [hoi'] at hop
          simp only at hop
          by_cases hwt : Region.wanted o (yielded ops.toArray a.tmps) = true
          · rw [if_pos hwt] at hop
            refine wpAny_take hoi' hns hfree (by simpa using hready) (fun c a w h0 => absurd h0 (hp _ _ _)) (v := a.eval x) (.inl ⟨hwt, hrun⟩) ?_
            rcases hop with h1 | h1
            · unfold Oper.wp at h1
              rw [hrun] at h1
              exact h1
            · exact absurd h1.2 ho
          · rw [if_neg hwt] at hop
            exact wpAny_take hoi' hns hfree (by simpa using hready) (fun c a w h0 => absurd h0 (hp _ _ _)) (v := undef) (.inr ⟨by simpa using hwt, rfl⟩) hop
        split at hpure
        · rename_i x hox
          exact key x (fun ρ => by simp [Go.execOp, hox]) hpure
        · rename_i x hox
          exact key x (fun ρ => by simp [Go.execOp, hox]) hpure
        · cases hpure
      · cases hpure
    · split at hs
      · cases hs
      · rename_i hne
        have hne : Region.ready .any ops.toArray nd.listed.toArray ≠ [] := by simpa using hne
        have hall := mapO_mem hs
        refine ⟨?_, fun loc a w Q hpc hf hw hp ho hQ => ⟨fun h0 => absurd h0 hne, fun i hi => ?_⟩⟩
        · obtain ⟨i, hi⟩ := List.exists_mem_of_ne_nil _ hne
          obtain ⟨n, hn1, hn2⟩ := hall i hi
          exact (step i n hn2 (hmem n hn1)).1
        · obtain ⟨n, hn1, hn2⟩ := hall i hi
          exact (step i n hn2 (hmem n hn1)).2 loc a w Q hpc hf hw hp ho hQ
theorem execRegion_sound (hX : XOK P T X) (hI : InlOK P T e w0 inl) {ops : List Oper} {draw : Bool} {S S' : St} {g g' : G} (h : execRegion X inl ops draw S g = some (S', g')) (hg : Good T e g') :
    Good T e g ∧ S'.pc = S.pc ∧ ∀ (id : Nat) (loc : Loc) (a : Act) (w : World) (Q : Exit → Act → World → Prop), (S.pc.ev e).bool = true → FrRel e S.rows.length loc S.fr a.tmps → Cls e w0 loc S.rows w →
      (∀ (loc' : Loc) (a' : Act) (w' : World), LExt S.rows.length loc loc' → S.rows.length ≤ S'.rows.length → FrRel e S'.rows.length loc' S'.fr a'.tmps → a'.defers = a.defers → Cls e w0 loc' S'.rows w' → Q .normal a' w') →
        (Code.region id ops.toArray draw).wp P Q a w := by
  have drew : ∀ {loc : Loc} {rows : List Row} {w : World}, Cls e w0 loc rows w → Cls e w0 loc rows { w with drawn := w.drawn + 1 } := fun {loc rows w} hw =>
    hw.of_below ⟨rfl, rfl, rfl, Nat.le_refl _, fun _ _ => rfl⟩
  unfold execRegion at h
  split at h
  · rename_i hd
    subst hd
    split at h
    · split at h
      · rename_i hB
        simp only [Option.bind_eq_bind, Option.bind_eq_some_iff] at h
        obtain ⟨⟨fr1, rows1, g1⟩, h1, h⟩ := h
        simp only [Option.some.injEq, Prod.mk.injEq] at h
        obtain ⟨rfl, rfl⟩ := h
        obtain ⟨k1, rfl, k3⟩ := execOps_quiet hX hI h1 hg
        refine ⟨k1, rfl, fun id loc a w Q hpc hf hw hQ => ?_⟩
        refine wp_region_quiet (C := Cls e w0 loc S.rows) hX.mixed hB (drew hw) ?_
        exact k3 loc a w _ hpc hf hw fun a' hf' hd w' hw' => hQ loc a' w' (LExt.refl _ _) (Nat.le_refl _) hf' hd hw'
      · cases h
    · split at h
      · rename_i hB
        simp only [Option.bind_eq_bind, Option.bind_eq_some_iff] at h
        obtain ⟨⟨fr1, rows1, g1⟩, h1, ⟨fr2, rows2, g2⟩, h2, h⟩ := h
        simp only [Option.some.injEq, Prod.mk.injEq] at h
        obtain ⟨rfl, rfl⟩ := h
        obtain ⟨k1, k2⟩ := execOps_list hX hI h2 hg
        obtain ⟨q1, rfl, q3⟩ := execOps_quiet hX hI h1 k1
        refine ⟨q1, rfl, fun id loc a w Q hpc hf hw hQ => ?_⟩
        refine wp_region_split (Cl := Cls e w0 loc S.rows) hX.mixed hB (drew hw) ?_
        exact q3 loc a w _ hpc hf hw fun a' hf' hd w' hw' => k2 loc a' w' Q hpc hf' hw' fun loc' a'' w'' hx hl hf'' hd' hw'' => hQ loc' a'' w'' hx hl hf'' (by rw [hd', hd]) hw''
      · split at h
        · rename_i hns
          split at h
          · rename_i E hex
            split at h
            · rename_i hE
              simp only [Option.some.injEq, Prod.mk.injEq] at h
              obtain ⟨rfl, rfl⟩ := h
              have hE : Region.ready .any ops.toArray E.listed.toArray = [] := by simpa using hE
              obtain ⟨k1, k2⟩ := explore_sound hX hI hns hE hg _ _ hex _ (List.mem_singleton.2 rfl)
              refine ⟨k1, rfl, fun id loc a w Q hpc hf hw hQ => ?_⟩
              refine wp_mono (Q := fun e a w => match e with | .normal => Q .normal a w | _ => False) ?_ (fun e a w h0 => by cases e <;> first | exact h0 | exact h0.elim)
              refine wp_region_any hX.mixed ?_
              have := k2 loc a { w with drawn := w.drawn + 1 } (fun e a w => match e with | .normal => Q .normal a w | _ => False) hpc hf (drew hw) (fun _ _ _ h0 => h0) (fun ⟨_, _, h0⟩ => h0) hQ
              simpa using this
            · cases h
          · cases h
        · cases h
  · rename_i hd
    have hd : draw = false := by simpa using hd
    subst hd
    simp only [Option.bind_eq_bind, Option.bind_eq_some_iff] at h
    obtain ⟨⟨fr1, rows1, g1⟩, h1, h⟩ := h
    simp only [Option.some.injEq, Prod.mk.injEq] at h
    obtain ⟨rfl, rfl⟩ := h
    obtain ⟨k1, k2⟩ := execOps_list hX hI h1 hg
    exact ⟨k1, rfl, fun id loc a w Q hpc hf hw hQ => wp_region_lit (k2 loc a w Q hpc hf hw hQ)⟩
end
end Rx
namespace Rx
open Go Go.RowKit
section
variable {T : Nat → List A → Bool × List A} {e : Nat → A} {n n' : Nat} {loc loc' : Loc} {P : Program} {X : Ctx} {w0 : World}
theorem Xit.same_iff {x y : Xit} : x.same y = true ↔ x = y := by
  cases x <;> cases y <;> simp [Xit.same]
theorem get_self {x : Xit} {s : St} {l : Outs} : Outs.get x ((x, s) :: l) = some s := by
  simp [Outs.get, Xit.same_iff]
theorem get_ne {x y : Xit} {s : St} {l : Outs} (h : x ≠ y) : Outs.get x ((y, s) :: l) = Outs.get x l := by
  have : x.same y = false := by
    cases hs : x.same y with
    | false => rfl
    | true => exact absurd (Xit.same_iff.1 hs) h
  simp [Outs.get, this]
theorem get_drop_ne {x y : Xit} (h : x ≠ y) : ∀ {l : Outs}, Outs.get x (Outs.drop y l) = Outs.get x l
  | [] => rfl
  | (z, s) :: l => by
    unfold Outs.drop
    split
    · rename_i hz
      have hz := Xit.same_iff.1 hz
      subst hz
      rw [get_ne h, get_drop_ne h]
    · by_cases hxz : x = z
      · subst hxz
        rw [get_self, get_self]
      · rw [get_ne hxz, get_ne hxz, get_drop_ne h]
theorem get_drop {x : Xit} : ∀ {l : Outs}, Outs.get x (Outs.drop x l) = none
  | [] => rfl
  | (z, s) :: l => by
    unfold Outs.drop
    split
    · exact get_drop
    · rename_i hz
      rw [get_ne (fun h0 => hz (Xit.same_iff.2 h0)), get_drop]
def Ref (e : Nat → A) (w0 : World) (s u : St) : Prop :=
  ∀ (loc : Loc) (tm : Array Value) (w : World), FrRel e s.rows.length loc s.fr tm → Cls e w0 loc s.rows w → s.rows.length ≤ u.rows.length ∧ FrRel e u.rows.length loc u.fr tm ∧ Cls e w0 loc u.rows w
theorem Ref.refl (s : St) : Ref e w0 s s := fun _ _ _ h h' => ⟨Nat.le_refl _, h, h'⟩
theorem Ref.pc {s : St} (pc : L) : Ref e w0 s { s with pc } := fun _ _ _ h h' => ⟨Nat.le_refl _, h, h'⟩
theorem mergePc_good {c : L} {both : Option (L × L × L)} {s t : L} {g : G} (h : Good T e (mergePc c both s t g).2)
    (hb : ∀ p x y, both = some (p, x, y) → (x.ev e).bool = ((p.ev e).bool && (c.ev e).bool) ∧ (y.ev e).bool = ((p.ev e).bool && !(c.ev e).bool)) :
    Good T e g ∧ ((mergePc c both s t g).1.ev e).bool = ((pick (c.ev e).bool s t).ev e).bool := by
  unfold mergePc at h ⊢
  split at h
  · rename_i p x y
    split at h
    · rename_i hs
      simp only [hs, if_true]
      simp only [Bool.and_eq_true] at hs
      obtain ⟨b1, b2⟩ := hb _ _ _ rfl
      rw [← L.same_eq hs.1] at b1
      rw [← L.same_eq hs.2] at b2
      refine ⟨h, ?_⟩
      cases hc : (c.ev e).bool <;> simp [pick, hc] at b1 b2 ⊢
      · exact b2.symm
      · exact b1.symm
    · rename_i hs
      simp only [hs, Bool.false_eq_true, if_false]
      have := mkIteB_good h
      refine ⟨this.1, this.2.trans ?_⟩
      cases hc : (c.ev e).bool <;> simp [pick]
  · have := mkIteB_good h
    refine ⟨this.1, this.2.trans ?_⟩
    cases hc : (c.ev e).bool <;> simp [pick]
theorem mergeSt_good {c : L} {both : Option (L × L × L)} {s t : St} {g : G} (h : Good T e (mergeSt c both s t g).2)
    (hb : ∀ p x y, both = some (p, x, y) → (x.ev e).bool = ((p.ev e).bool && (c.ev e).bool) ∧ (y.ev e).bool = ((p.ev e).bool && !(c.ev e).bool)) :
    Good T e g ∧ Ref e w0 (pick (c.ev e).bool s t) (mergeSt c both s t g).1 ∧ ((mergeSt c both s t g).1.pc.ev e).bool = ((pick (c.ev e).bool s t).pc.ev e).bool := by
  unfold mergeSt at h ⊢
  simp only at h ⊢
  obtain ⟨hg1, hpc1⟩ := mergePc_good h hb
  have hr := mergeRows_good hg1
  have hf := mergeFr_good hr.1
  refine ⟨hf.1, fun loc tm w h1 h2 => ?_, ?_⟩
  · have q1 : (pick (c.ev e).bool s t).fr = pick (c.ev e).bool s.fr t.fr := by cases (c.ev e).bool <;> rfl
    have q2 : (pick (c.ev e).bool s t).rows = pick (c.ev e).bool s.rows t.rows := by cases (c.ev e).bool <;> rfl
    rw [q1, q2] at h1
    rw [q2] at h2 ⊢
    have hlen : (pick (c.ev e).bool s.rows t.rows).length ≤ (mergeRows c s.rows t.rows (mergeFr c s.fr t.fr g).2).1.length := by
      cases hc : (c.ev e).bool
      · exact hr.2.2.1
      · exact hr.2.1
    exact ⟨hlen, (FrRel.merge hr.1 h1).ext (LExt.refl _ _) hlen, RowsOK.merge hg1 h2.1, h2.2⟩
  · rw [hpc1]
    cases (c.ev e).bool <;> rfl
theorem addPc_good {nc : L} : ∀ {o : Outs} {g : G}, Good T e (addPc nc o g).2 → Good T e g ∧
    (∀ x u, Outs.get x (addPc nc o g).1 = some u → (u.pc.ev e).bool = true → (nc.ev e).bool = true ∧ ∃ t, Outs.get x o = some t ∧ (t.pc.ev e).bool = true) ∧
    ((nc.ev e).bool = true → ∀ x t, Outs.get x o = some t → (t.pc.ev e).bool = true → ∃ u, Outs.get x (addPc nc o g).1 = some u ∧ (u.pc.ev e).bool = true ∧ Ref e w0 t u)
  | [], g, h => ⟨h, fun x u hx => by simp [addPc, Outs.get] at hx, fun _ x t hx => by simp [Outs.get] at hx⟩
  | (y, t) :: l, g, h => by
    unfold addPc at h ⊢
    simp only at h ⊢
    have h2 := addPc_good h
    have h1 := mkAnd_good h2.1
    refine ⟨h1.1, fun x u hx hu => ?_, fun hnc x s hx hs => ?_⟩
    · by_cases hxy : x = y
      · subst hxy
        rw [get_self] at hx
        injection hx with hx
        subst hx
        simp only at hu
        rw [h1.2, Bool.and_eq_true] at hu
        exact ⟨hu.1, t, get_self, hu.2⟩
      · rw [get_ne hxy] at hx
        obtain ⟨a1, s, a2, a3⟩ := h2.2.1 x u hx hu
        exact ⟨a1, s, by rw [get_ne hxy]; exact a2, a3⟩
    · by_cases hxy : x = y
      · subst hxy
        rw [get_self] at hx
        injection hx with hx
        subst hx
        exact ⟨_, get_self, by simp only; rw [h1.2, hnc, hs]; rfl, Ref.pc _⟩
      · rw [get_ne hxy] at hx
        obtain ⟨u, a1, a2, a3⟩ := h2.2.2 hnc x s hx hs
        exact ⟨u, by rw [get_ne hxy]; exact a1, a2, a3⟩
theorem combine_good {c nc : L} {both : Option (L × L × L)} (hnc : (nc.ev e).bool = !(c.ev e).bool)
    (hb : ∀ p x y, both = some (p, x, y) → (x.ev e).bool = ((p.ev e).bool && (c.ev e).bool) ∧ (y.ev e).bool = ((p.ev e).bool && !(c.ev e).bool)) : ∀ {o1 o2 : Outs} {g : G},
    Good T e (combine c nc both o1 o2 g).2 → Good T e g ∧
    (∀ x u, Outs.get x (combine c nc both o1 o2 g).1 = some u → (u.pc.ev e).bool = true →
      ((c.ev e).bool = true ∧ ∃ s, Outs.get x o1 = some s ∧ (s.pc.ev e).bool = true) ∨ ((c.ev e).bool = false ∧ ∃ t, Outs.get x o2 = some t ∧ (t.pc.ev e).bool = true)) ∧
    ((c.ev e).bool = true → ∀ x s, Outs.get x o1 = some s → (s.pc.ev e).bool = true → ∃ u, Outs.get x (combine c nc both o1 o2 g).1 = some u ∧ (u.pc.ev e).bool = true ∧ Ref e w0 s u) ∧
    ((c.ev e).bool = false → ∀ x t, Outs.get x o2 = some t → (t.pc.ev e).bool = true → ∃ u, Outs.get x (combine c nc both o1 o2 g).1 = some u ∧ (u.pc.ev e).bool = true ∧ Ref e w0 t u)
  | [], o2, g, h => by
    unfold combine at h ⊢
    have h1 := addPc_good (w0 := w0) h
    refine ⟨h1.1, fun x u hx hu => ?_, fun _ x s hx => by simp [Outs.get] at hx, fun hc => h1.2.2 (by rw [hnc, hc]; rfl)⟩
    obtain ⟨a1, a2⟩ := h1.2.1 x u hx hu
    exact .inr ⟨by rw [hnc] at a1; simpa using a1, a2⟩
  | (y, s) :: l, o2, g, h => by
    unfold combine at h ⊢
    cases ht : Outs.get y o2 with
    | some t =>
      rw [ht] at h
      simp only at h ⊢
      have h2 := combine_good hnc hb h
      have h1 := mergeSt_good (w0 := w0) h2.1 hb
      refine ⟨h1.1, fun x u hx hu => ?_, fun hc x s' hx hs' => ?_, fun hc x t' hx ht' => ?_⟩
      · by_cases hxy : x = y
        · subst hxy
          rw [get_self] at hx
          injection hx with hx
          subst hx
          rw [h1.2.2] at hu
          cases hc : (c.ev e).bool <;> simp only [pick, hc, if_true, if_false, Bool.false_eq_true] at hu
          · exact .inr ⟨rfl, t, ht, hu⟩
          · exact .inl ⟨rfl, s, get_self, hu⟩
        · rw [get_ne hxy] at hx
          rw [get_ne hxy]
          rcases h2.2.1 x u hx hu with a | ⟨a, b⟩
          · exact .inl a
          · exact .inr ⟨a, by rwa [get_drop_ne hxy] at b⟩
      · by_cases hxy : x = y
        · subst hxy
          rw [get_self] at hx
          injection hx with hx
          subst hx
          refine ⟨_, get_self, ?_, ?_⟩
          · rw [h1.2.2]; simp only [pick, hc, if_true]; exact hs'
          · have := h1.2.1; simp only [pick, hc, if_true] at this; exact this
        · rw [get_ne hxy] at hx
          obtain ⟨u, a1, a2, a3⟩ := h2.2.2.1 hc x s' hx hs'
          exact ⟨u, by rw [get_ne hxy]; exact a1, a2, a3⟩
      · by_cases hxy : x = y
        · subst hxy
          rw [ht] at hx
          injection hx with hx
          subst hx
          refine ⟨_, get_self, ?_, ?_⟩
          · rw [h1.2.2]; simp only [pick, hc, Bool.false_eq_true, if_false]; exact ht'
          · have := h1.2.1; simp only [pick, hc, Bool.false_eq_true, if_false] at this; exact this
        · obtain ⟨u, a1, a2, a3⟩ := h2.2.2.2 hc x t' (by rw [get_drop_ne hxy]; exact hx) ht'
          exact ⟨u, by rw [get_ne hxy]; exact a1, a2, a3⟩
    | none =>
      rw [ht] at h
      simp only at h ⊢
      have h2 := combine_good hnc hb h
      have h1 := mkAnd_good h2.1
      refine ⟨h1.1, fun x u hx hu => ?_, fun hc x s' hx hs' => ?_, fun hc x t' hx ht' => ?_⟩
      · by_cases hxy : x = y
        · subst hxy
          rw [get_self] at hx
          injection hx with hx
          subst hx
          simp only at hu
          rw [h1.2, Bool.and_eq_true] at hu
          exact .inl ⟨hu.1, s, get_self, hu.2⟩
        · rw [get_ne hxy] at hx
          rw [get_ne hxy]
          exact h2.2.1 x u hx hu
      · by_cases hxy : x = y
        · subst hxy
          rw [get_self] at hx
          injection hx with hx
          subst hx
          exact ⟨_, get_self, by simp only; rw [h1.2, hc, hs']; rfl, Ref.pc _⟩
        · rw [get_ne hxy] at hx
          obtain ⟨u, a1, a2, a3⟩ := h2.2.2.1 hc x s' hx hs'
          exact ⟨u, by rw [get_ne hxy]; exact a1, a2, a3⟩
      · have hxy : x ≠ y := fun h0 => by rw [h0, ht] at hx; cases hx
        obtain ⟨u, a1, a2, a3⟩ := h2.2.2.2 hc x t' hx ht'
        exact ⟨u, by rw [get_ne hxy]; exact a1, a2, a3⟩
def Xit.to : Xit → Exit
  | .norm => .normal
  | .exit id => .exit id
  | .ret => .ret
def Cont (e : Nat → A) (w0 : World) (loc : Loc) (m : Nat) (a : Act) (s : St) (Q : Act → World → Prop) : Prop :=
  ∀ (loc' : Loc) (a' : Act) (w' : World), LExt m loc loc' → m ≤ s.rows.length → FrRel e s.rows.length loc' s.fr a'.tmps → a'.defers = a.defers → Cls e w0 loc' s.rows w' → Q a' w'
structure Ends (P : Program) (T : Nat → List A → Bool × List A) (e : Nat → A) (w0 : World) (S : St) (W : (Exit → Act → World → Prop) → Act → World → Prop) (outs : Outs) : Prop where
  pc : ∀ x s, Outs.get x outs = some s → (s.pc.ev e).bool = true → (S.pc.ev e).bool = true
  one : ∀ x y s t, Outs.get x outs = some s → Outs.get y outs = some t → (s.pc.ev e).bool = true → (t.pc.ev e).bool = true → x = y
  wp : ∀ (loc : Loc) (a : Act) (w : World) (Q : Exit → Act → World → Prop), (S.pc.ev e).bool = true → FrRel e S.rows.length loc S.fr a.tmps → Cls e w0 loc S.rows w →
    (∀ x s, Outs.get x outs = some s → (s.pc.ev e).bool = true → Cont e w0 loc S.rows.length a s (Q x.to)) → W Q a w
theorem Cont.mono {m : Nat} {a : Act} {s : St} {Q Q' : Act → World → Prop} (h : Cont e w0 loc m a s Q) (hq : ∀ a w, Q a w → Q' a w) : Cont e w0 loc m a s Q' :=
  fun loc' a' w' h1 h2 h3 h4 h5 => hq _ _ (h loc' a' w' h1 h2 h3 h4 h5)
theorem Cont.ref {m : Nat} {a : Act} {s u : St} {Q : Act → World → Prop} (h : Cont e w0 loc m a u Q) (hr : Ref e w0 s u) : Cont e w0 loc m a s Q :=
  fun loc' a' w' h1 h2 h3 h4 h5 => by
    obtain ⟨r1, r2, r3⟩ := hr loc' a'.tmps w' h3 h5
    exact h loc' a' w' h1 (Nat.le_trans h2 r1) r2 h4 r3
end
end Rx
namespace Rx
open Go Go.RowKit
def LW (P : Program) (c : Code) (Q : Exit → Act → World → Prop) (a : Act) (w : World) : Prop :=
  ∀ (b : Frame) (k : List Item) (cs : List Frame), ∃ e a' w', Q e a' w' ∧ Arrives P (lone (b.at a (.code c :: .inLoop c :: k)) cs w) b k cs e a' w'
theorem LW.of {P : Program} {c : Code} {Q : Exit → Act → World → Prop} {a : Act} {w : World} (h : c.wp P (Exit.then (LW P c Q) Q) a w) : LW P c Q a w := by
  intro b k cs
  obtain ⟨e, a₁, w₁, hq, harr⟩ := h b (.inLoop c :: k) cs
  cases e with
  | normal =>
    obtain ⟨e₂, a₂, w₂, hq₂, harr₂⟩ := hq b k cs
    exact ⟨e₂, a₂, w₂, hq₂, .of_steps (Steps.trans harr (.one step_inLoop)) harr₂⟩
  | exit id => exact ⟨_, a₁, w₁, hq, .pass (x := .inLoop c) rfl (fun _ _ => .inl (by simp)) harr⟩
  | goto l => exact ⟨_, a₁, w₁, hq, .pass (x := .inLoop c) rfl (fun _ _ => .inl (by simp)) harr⟩
  | ret => exact ⟨_, a₁, w₁, hq, .pass (x := .inLoop c) rfl (fun _ _ => .inl (by simp)) harr⟩
  | panic ch => exact ⟨_, a₁, w₁, hq, .pass (x := .inLoop c) rfl (fun _ _ => .inl (by simp)) harr⟩
  | outgrown => exact ⟨_, a₁, w₁, hq, .pass (x := .inLoop c) rfl (fun _ _ => .inl (by simp)) harr⟩
theorem LW.wp {P : Program} {c : Code} {Q : Exit → Act → World → Prop} {a : Act} {w : World} (h : LW P c Q a w) : (Code.loop c).wp P Q a w :=
  fun b k cs => let ⟨e, a', w', hq, harr⟩ := h b k cs; ⟨e, a', w', hq, .of_steps (.one step_loop) harr⟩
section
variable {T : Nat → List A → Bool × List A} {e : Nat → A} {n n' : Nat} {loc loc' : Loc} {P : Program} {X : Ctx} {w0 : World}
theorem isFalse_ev {l : L} (h : isFalse l = true) : (l.ev e).bool = false := by
  unfold isFalse at h
  split at h
  · rfl
  · cases h
theorem then_ne {N : Act → World → Prop} {Q : Exit → Act → World → Prop} {x : Xit} (h : x ≠ .norm) : Exit.then N Q x.to = Q x.to := by
  cases x with
  | norm => exact absurd rfl h
  | exit id => rfl
  | ret => rfl
abbrev Wt := (Exit → Act → World → Prop) → Act → World → Prop
theorem ends_none {S : St} {Wa Wb Wr : Wt} {o : Outs} (hW : ∀ Q a w, Wa (Exit.then (Wb Q) Q) a w → Wr Q a w) (ha : Ends P T e w0 S Wa o) (h : Outs.get .norm o = none) : Ends P T e w0 S Wr o :=
  ⟨ha.pc, ha.one, fun loc a w Q hpc hf hw hQ => hW _ _ _ (ha.wp loc a w _ hpc hf hw fun x s hx hs => by
    rw [then_ne (fun h0 => by rw [h0, h] at hx; cases hx)]
    exact hQ x s hx hs)⟩
theorem ends_false {S s : St} {Wa Wb Wr : Wt} {o : Outs} (hW : ∀ Q a w, Wa (Exit.then (Wb Q) Q) a w → Wr Q a w) (ha : Ends P T e w0 S Wa o) (h : Outs.get .norm o = some s) (hf : isFalse s.pc = true) :
    Ends P T e w0 S Wr (Outs.drop .norm o) := by
  have back : ∀ {x s'}, Outs.get x (Outs.drop .norm o) = some s' → x ≠ .norm ∧ Outs.get x o = some s' := fun {x s'} hx => by
    by_cases h0 : x = .norm
    · subst h0; rw [get_drop] at hx; cases hx
    · exact ⟨h0, by rwa [get_drop_ne h0] at hx⟩
  refine ⟨fun x s' hx hs => ha.pc x s' (back hx).2 hs, fun x y s' t' hx hy hs ht => ha.one x y s' t' (back hx).2 (back hy).2 hs ht, fun loc a w Q hpc hfr hw hQ => hW _ _ _ (ha.wp loc a w _ hpc hfr hw fun x s' hx hs => ?_)⟩
  by_cases h0 : x = .norm
  · subst h0
    rw [h] at hx
    injection hx with hx
    subst hx
    rw [isFalse_ev hf] at hs
    cases hs
  · rw [then_ne h0]
    exact hQ x s' (by rw [get_drop_ne h0]; exact hx) hs
theorem ends_seq {S s : St} {Wa Wb Wr : Wt} {o o2 r : Outs} (hW : ∀ Q a w, Wa (Exit.then (Wb Q) Q) a w → Wr Q a w) (ha : Ends P T e w0 S Wa o) (h : Outs.get .norm o = some s) (hb : Ends P T e w0 s Wb o2)
    (hr : (∀ x u, Outs.get x r = some u → (u.pc.ev e).bool = true →
        ((s.pc.ev e).bool = true ∧ ∃ t, Outs.get x o2 = some t ∧ (t.pc.ev e).bool = true) ∨ ((s.pc.ev e).bool = false ∧ ∃ t, Outs.get x (Outs.drop .norm o) = some t ∧ (t.pc.ev e).bool = true)) ∧
      ((s.pc.ev e).bool = true → ∀ x t, Outs.get x o2 = some t → (t.pc.ev e).bool = true → ∃ u, Outs.get x r = some u ∧ (u.pc.ev e).bool = true ∧ Ref e w0 t u) ∧
      ((s.pc.ev e).bool = false → ∀ x t, Outs.get x (Outs.drop .norm o) = some t → (t.pc.ev e).bool = true → ∃ u, Outs.get x r = some u ∧ (u.pc.ev e).bool = true ∧ Ref e w0 t u)) : Ends P T e w0 S Wr r := by
  have back : ∀ {x s'}, Outs.get x (Outs.drop .norm o) = some s' → x ≠ .norm ∧ Outs.get x o = some s' := fun {x s'} hx => by
    by_cases h0 : x = .norm
    · subst h0; rw [get_drop] at hx; cases hx
    · exact ⟨h0, by rwa [get_drop_ne h0] at hx⟩
  obtain ⟨h1, h2, h3⟩ := hr
  refine ⟨fun x u hx hu => ?_, fun x y u v hx hy hu hv => ?_, fun loc a w Q hpc hfr hw hQ => hW _ _ _ (ha.wp loc a w _ hpc hfr hw fun x s' hx hs => ?_)⟩
  · rcases h1 x u hx hu with ⟨a, _⟩ | ⟨_, t, b1, b2⟩
    · exact ha.pc _ _ h a
    · exact ha.pc _ _ (back b1).2 b2
  · rcases h1 x u hx hu with ⟨a, t, b1, b2⟩ | ⟨a, t, b1, b2⟩
    · rcases h1 y v hy hv with ⟨a', t', b1', b2'⟩ | ⟨a', t', b1', b2'⟩
      · exact hb.one _ _ _ _ b1 b1' b2 b2'
      · rw [a] at a'; cases a'
    · rcases h1 y v hy hv with ⟨a', t', b1', b2'⟩ | ⟨a', t', b1', b2'⟩
      · rw [a] at a'; cases a'
      · exact ha.one _ _ _ _ (back b1).2 (back b1').2 b2 b2'
  · by_cases h0 : x = .norm
    · subst h0
      rw [h] at hx
      injection hx with hx
      subst hx
      intro loc' a' w' q1 q2 q3 q4 q5
      show Wb Q a' w'
      refine hb.wp loc' a' w' Q hs q3 q5 fun y t hy ht => ?_
      obtain ⟨u, u1, u2, u3⟩ := h2 hs y t hy ht
      have := (hQ y u u1 u2).ref u3
      intro loc2 a2 w2 r1 r2 r3 r4 r5
      exact this loc2 a2 w2 (q1.trans r1 q2) (Nat.le_trans q2 r2) r3 (r4.trans q4) r5
    · rw [then_ne h0]
      have hsf : (s.pc.ev e).bool = false := by
        cases hc : (s.pc.ev e).bool with
        | false => rfl
        | true => exact absurd (ha.one _ _ _ _ hx h hs hc) h0
      obtain ⟨u, u1, u2, u3⟩ := h3 hsf x s' (by rw [get_drop_ne h0]; exact hx) hs
      exact (hQ x u u1 u2).ref u3
theorem results_sound (hX : TysOK P X.tys) {S : St} : ∀ {l : List ResultVar} {g g' : G} {rs : List PV}, results X S l g = some (rs, g') → g' = g ∧
    ∀ (loc : Loc) (tm : Array Value) (w : World), FrRel e S.rows.length loc S.fr tm → Cls e w0 loc S.rows w → ∃ vs : List Value, PVsRel e S.rows.length loc rs vs ∧
      (l.mapM fun | .tmp t => pure (tm.getD t Go.undef) | .cell a t => do loadVar t (← asAddr (tm.getD a Go.undef)) : Sem (List Value)).run P w = .ok vs w
  | [], g, g', rs, h => by
    simp only [results, Option.some.injEq, Prod.mk.injEq] at h
    obtain ⟨rfl, rfl⟩ := h
    exact ⟨rfl, fun loc tm w hf _ => ⟨[], trivial, by simp⟩⟩
  | .tmp t :: l, g, g', rs, h => by
    simp only [results, Option.bind_eq_bind, Option.bind_eq_some_iff] at h
    obtain ⟨p, hp, ⟨r, g1⟩, hr, h⟩ := h
    simp only [Option.some.injEq, Prod.mk.injEq] at h
    obtain ⟨rfl, rfl⟩ := h
    obtain ⟨h1, h2⟩ := results_sound hX hr
    refine ⟨h1, fun loc tm w hf hw => ?_⟩
    obtain ⟨vs, v1, v2⟩ := h2 loc tm w hf hw
    refine ⟨tm.getD t Go.undef :: vs, ⟨slot_sound hp hf (fun x hx => by cases hx), v1⟩, ?_⟩
    simp only [List.mapM_cons, Sem.run_bind, Sem.run_pure, Result.andThen_ok, v2]
  | .cell a t :: l, g, g', rs, h => by
    simp only [results, Option.bind_eq_bind, Option.bind_eq_some_iff] at h
    obtain ⟨p, hp, ty, ht, h⟩ := h
    split at h
    · rename_i r off
      simp only [Option.bind_eq_some_iff] at h
      obtain ⟨row, hrow, cs, hcs, v, hv, ⟨q, g1⟩, hr, h⟩ := h
      simp only [Option.some.injEq, Prod.mk.injEq] at h
      obtain ⟨rfl, rfl⟩ := h
      obtain ⟨h1, h2⟩ := results_sound hX hr
      refine ⟨h1, fun loc tm w hf hw => ?_⟩
      obtain ⟨vs, v1, v2⟩ := h2 loc tm w hf hw
      obtain ⟨r1, r2⟩ := rel_ptr (slot_sound hp hf (fun x hx => by cases hx))
      obtain ⟨us, u1, u2⟩ := cells_read (e := e) (n := S.rows.length) (loc := loc) (w := w) (b := (loc r).blk) (o := (loc r).off + off) (cs := cs) (fun j c hj => by
        obtain ⟨v, z1, z2⟩ := hw.1.cell hrow (take?_get hcs hj)
        exact ⟨v, by rw [Nat.add_assoc]; exact z1, z2⟩)
      obtain ⟨x, x1, x2⟩ := run_loadAt_cells (hX t ty ht) u1 u2 (take?_some hcs).2.2 hv
      have x3 : (loadVar t ⟨(loc r).blk, (loc r).off + off, none⟩).run P w = .ok x w := by
        have := x2
        simp only [Instr.loadAt, Instr.sureAddr, Sem.run_bind, Sem.run_pure, Result.andThen_ok] at this
        exact this
      refine ⟨x :: vs, ⟨x1, v1⟩, ?_⟩
      have x4 : ∀ a : Addr, asAddr (.pointer (some a)) = pure a := fun _ => rfl
      simp only [List.mapM_cons, Sem.run_bind, Sem.run_pure, r2, x4, Result.andThen_ok, x3, v2]
    · cases h
theorem run_results {fn : Func} {tm : Array Value} {w : World} {vs : List Value}
    (h : (fn.results.toList.mapM fun | .tmp t => pure (tm.getD t Go.undef) | .cell a t => do loadVar t (← asAddr (tm.getD a Go.undef)) : Sem (List Value)).run P w = .ok vs w) :
    (Go.results fn tm).run P w = .ok (retVal vs) w := by
  unfold Go.results
  rw [Array.mapM_eq_mapM_toList]
  simp only [Sem.run_bind, Sem.run_map, Sem.run_pure]
  refine (congrArg (fun r : Result (List Value) => (r.andThen fun a w' => Result.ok a.toArray w').andThen fun a w' => Result.ok (if h : a.size = 1 then a[0] else Value.tuple a) w') h).trans ?_
  simp only [Result.andThen_ok]
  congr 1
  match vs with
  | [] => rfl
  | [v] => rfl
  | v :: u :: vs => simp [retVal]
end
end Rx
namespace Rx
open Go Go.RowKit
section
variable {T : Nat → List A → Bool × List A} {e : Nat → A} {P : Program} {X : Ctx} {w0 : World}
theorem ends_single {S s : St} {W : Wt} {x : Xit} (hpc : s.pc = S.pc)
    (h : ∀ (loc : Loc) (a : Act) (w : World) (Q : Exit → Act → World → Prop), (S.pc.ev e).bool = true → FrRel e S.rows.length loc S.fr a.tmps → Cls e w0 loc S.rows w → Cont e w0 loc S.rows.length a s (Q x.to) → W Q a w) :
    Ends P T e w0 S W [(x, s)] := by
  have back : ∀ {y t}, Outs.get y [(x, s)] = some t → y = x ∧ t = s := fun {y t} hy => by
    by_cases h0 : y = x
    · subst h0; rw [get_self] at hy; injection hy with hy; exact ⟨rfl, hy.symm⟩
    · rw [get_ne h0] at hy; cases hy
  refine ⟨fun y t hy ht => ?_, fun y z t u hy hz _ _ => ?_, fun loc a w Q hp hf hw hQ => h loc a w Q hp hf hw (hQ x s get_self (by rw [hpc]; exact hp))⟩
  · obtain ⟨rfl, rfl⟩ := back hy; rw [← hpc]; exact ht
  · rw [(back hy).1, (back hz).1]
theorem combine_rest {S s : St} {Wa Wb Wr : Wt} {o o2 : Outs} {g : G} (hW : ∀ Q a w, Wa (Exit.then (Wb Q) Q) a w → Wr Q a w) (ha : Ends P T e w0 S Wa o) (h : Outs.get .norm o = some s) (hb : Ends P T e w0 s Wb o2)
    {nc : L} (hnc : (nc.ev e).bool = !(s.pc.ev e).bool) (hg : Good T e (combine s.pc nc none o2 (Outs.drop .norm o) g).2) : Ends P T e w0 S Wr (combine s.pc nc none o2 (Outs.drop .norm o) g).1 :=
  ends_seq hW ha h hb (combine_good hnc (fun _ _ _ h0 => by cases h0) hg).2
theorem rest_empty {S s : St} {Wa Wb Wr : Wt} {o o2 : Outs} (hW : ∀ Q a w, Wa (Exit.then (Wb Q) Q) a w → Wr Q a w) (ha : Ends P T e w0 S Wa o) (h : Outs.get .norm o = some s) (hb : Ends P T e w0 s Wb o2)
    (hr : (Outs.drop .norm o).isEmpty = true) : Ends P T e w0 S Wr o2 := by
  have hr : Outs.drop .norm o = [] := by simpa using hr
  refine ends_seq hW ha h hb ⟨fun x u hx hu => .inl ⟨hb.pc x u hx hu, u, hx, hu⟩, fun _ x t hx ht => ⟨t, hx, ht, Ref.refl _⟩, fun _ x t hx => by rw [hr] at hx; cases hx⟩
theorem joined_sound {S s' : St} {W : Wt} {o : Outs} {g g' : G} (he : Ends P T e w0 S W o) (h : joined o g = some (s', g')) (hg : Good T e g') :
    Good T e g ∧ ∀ x s, Outs.get x o = some s → (s.pc.ev e).bool = true → (x = .norm ∨ x = .ret) ∧ Ref e w0 s s' := by
  unfold joined at h
  split at h
  · simp only [Option.some.injEq, Prod.mk.injEq] at h
    obtain ⟨rfl, rfl⟩ := h
    refine ⟨hg, fun x s hx hs => ?_⟩
    by_cases h0 : x = .norm
    · subst h0; rw [get_self] at hx; injection hx with hx; subst hx; exact ⟨.inl rfl, Ref.refl _⟩
    · rw [get_ne h0] at hx; cases hx
  · simp only [Option.some.injEq, Prod.mk.injEq] at h
    obtain ⟨rfl, rfl⟩ := h
    refine ⟨hg, fun x s hx hs => ?_⟩
    by_cases h0 : x = .ret
    · subst h0; rw [get_self] at hx; injection hx with hx; subst hx; exact ⟨.inr rfl, Ref.refl _⟩
    · rw [get_ne h0] at hx; cases hx
  · rename_i s t
    simp only [Option.some.injEq] at h
    have hm := mergeSt_good (T := T) (e := e) (w0 := w0) (c := s.pc) (both := none) (s := s) (t := t) (g := g) (by rw [h]; exact hg) (fun _ _ _ h0 => by cases h0)
    rw [h] at hm
    refine ⟨hm.1, fun x u hx hu => ?_⟩
    by_cases h0 : x = .norm
    · subst h0
      rw [get_self] at hx; injection hx with hx; subst hx
      have := hm.2.1
      simp only [pick, hu, if_true] at this
      exact ⟨.inl rfl, this⟩
    · by_cases h1 : x = .ret
      · subst h1
        rw [get_ne h0, get_self] at hx; injection hx with hx; subst hx
        have hsf : (s.pc.ev e).bool = false := by
          cases hc : (s.pc.ev e).bool with
          | false => rfl
          | true => exact absurd (he.one .norm .ret s t get_self (by rw [get_ne h0, get_self]) hc hu) (by simp)
        have := hm.2.1
        simp only [pick, hsf, Bool.false_eq_true, if_false] at this
        exact ⟨.inr rfl, this⟩
      · rw [get_ne h0, get_ne h1] at hx; cases hx
  · rename_i t s
    simp only [Option.some.injEq] at h
    have hm := mergeSt_good (T := T) (e := e) (w0 := w0) (c := s.pc) (both := none) (s := s) (t := t) (g := g) (by rw [h]; exact hg) (fun _ _ _ h0 => by cases h0)
    rw [h] at hm
    refine ⟨hm.1, fun x u hx hu => ?_⟩
    by_cases h1 : x = .ret
    · subst h1
      rw [get_self] at hx; injection hx with hx; subst hx
      have hsf : (s.pc.ev e).bool = false := by
        cases hc : (s.pc.ev e).bool with
        | false => rfl
        | true => exact absurd (he.one .norm .ret s t (by rw [get_ne (by simp), get_self]) get_self hc hu) (by simp)
      have := hm.2.1
      simp only [pick, hsf, Bool.false_eq_true, if_false] at this
      exact ⟨.inr rfl, this⟩
    · by_cases h0 : x = .norm
      · subst h0
        rw [get_ne h1, get_self] at hx; injection hx with hx; subst hx
        have := hm.2.1
        simp only [pick, hu, if_true] at this
        exact ⟨.inl rfl, this⟩
      · rw [get_ne h1, get_ne h0] at hx; cases hx
  · cases h
theorem ends_block {S : St} {id : Nat} {c : Code} {o : Outs} {g g' : G} {outs : Outs} (ha : Ends P T e w0 S (fun Q a w => c.wp P Q a w) o)
    (h : (match Outs.get (.exit id) o, Outs.get .norm o with
      | none, _ => some (o, g)
      | some t, none => some ((.norm, t) :: Outs.drop (.exit id) o, g)
      | some t, some s =>
        let (u, g) := mergeSt s.pc none s t g
        some ((.norm, u) :: Outs.drop (.exit id) (Outs.drop .norm o), g)) = some (outs, g')) (hg : Good T e g') :
    Good T e g ∧ Ends P T e w0 S (fun Q a w => (Code.block id c).wp P Q a w) outs := by
  have inb : ∀ {x : Xit} {Q : Exit → Act → World → Prop}, x ≠ .exit id → Exit.inBlock id Q x.to = Q x.to := fun {x Q} hx => by
    cases x with
    | norm => rfl
    | ret => rfl
    | exit id' =>
      have : id' ≠ id := fun h0 => hx (by rw [h0])
      funext a w
      simp [Xit.to, Exit.inBlock, this]
  have inb2 : ∀ {Q : Exit → Act → World → Prop}, Exit.inBlock id Q (Xit.exit id).to = Q .normal := fun {Q} => by
    funext a w
    simp [Xit.to, Exit.inBlock]
  split at h
  · rename_i hx0
    simp only [Option.some.injEq, Prod.mk.injEq] at h
    obtain ⟨rfl, rfl⟩ := h
    refine ⟨hg, ha.pc, ha.one, fun loc a w Q hpc hf hw hQ => wp_block (ha.wp loc a w _ hpc hf hw fun x s hx hs => ?_)⟩
    rw [inb (fun h0 => by rw [h0, hx0] at hx; cases hx)]
    exact hQ x s hx hs
  · rename_i t ht hn
    simp only [Option.some.injEq, Prod.mk.injEq] at h
    obtain ⟨rfl, rfl⟩ := h
    have back : ∀ {x s}, Outs.get x ((.norm, t) :: Outs.drop (.exit id) o) = some s → (x = .norm ∧ s = t) ∨ (x ≠ .norm ∧ x ≠ .exit id ∧ Outs.get x o = some s) := fun {x s} hx => by
      by_cases h0 : x = .norm
      · subst h0; rw [get_self] at hx; injection hx with hx; exact .inl ⟨rfl, hx.symm⟩
      · rw [get_ne h0] at hx
        by_cases h1 : x = .exit id
        · subst h1; rw [get_drop] at hx; cases hx
        · rw [get_drop_ne h1] at hx; exact .inr ⟨h0, h1, hx⟩
    refine ⟨hg, fun x s hx hs => ?_, fun x y s u hx hy hs hu => ?_, fun loc a w Q hpc hf hw hQ => wp_block (ha.wp loc a w _ hpc hf hw fun x s hx hs => ?_)⟩
    · rcases back hx with ⟨_, rfl⟩ | ⟨_, _, h3⟩
      · exact ha.pc _ _ ht hs
      · exact ha.pc _ _ h3 hs
    · rcases back hx with ⟨rfl, rfl⟩ | ⟨h1, h2, h3⟩ <;> rcases back hy with ⟨rfl, rfl⟩ | ⟨h1', h2', h3'⟩
      · rfl
      · exact absurd (ha.one _ _ _ _ h3' ht hu hs) h2'
      · exact absurd (ha.one _ _ _ _ h3 ht hs hu) h2
      · exact ha.one _ _ _ _ h3 h3' hs hu
    · by_cases h1 : x = .exit id
      · subst h1
        rw [ht] at hx
        injection hx with hx
        subst hx
        rw [inb2]
        exact hQ .norm t get_self hs
      · rw [inb h1]
        have h0 : x ≠ .norm := fun h0 => by rw [h0, hn] at hx; cases hx
        exact hQ x s (by rw [get_ne h0, get_drop_ne h1]; exact hx) hs
  · rename_i t s ht hn
    simp only [Option.some.injEq, Prod.mk.injEq] at h
    obtain ⟨rfl, rfl⟩ := h
    have hm := mergeSt_good (w0 := w0) hg (fun _ _ _ h0 => by cases h0)
    have back : ∀ {x u}, Outs.get x ((.norm, (mergeSt s.pc none s t g).1) :: Outs.drop (.exit id) (Outs.drop .norm o)) = some u →
        (x = .norm ∧ u = (mergeSt s.pc none s t g).1) ∨ (x ≠ .norm ∧ x ≠ .exit id ∧ Outs.get x o = some u) := fun {x u} hx => by
      by_cases h0 : x = .norm
      · subst h0; rw [get_self] at hx; injection hx with hx; exact .inl ⟨rfl, hx.symm⟩
      · rw [get_ne h0] at hx
        by_cases h1 : x = .exit id
        · subst h1; rw [get_drop] at hx; cases hx
        · rw [get_drop_ne h1, get_drop_ne h0] at hx; exact .inr ⟨h0, h1, hx⟩
    have mpc : (((mergeSt s.pc none s t g).1).pc.ev e).bool = true → ∃ z v, (z = .norm ∨ z = .exit id) ∧ Outs.get z o = some v ∧ (v.pc.ev e).bool = true := fun hu => by
      rw [hm.2.2] at hu
      cases hc : (s.pc.ev e).bool <;> simp only [pick, hc, if_true, if_false, Bool.false_eq_true] at hu
      · exact ⟨.exit id, t, .inr rfl, ht, hu⟩
      · exact ⟨.norm, s, .inl rfl, hn, hc⟩
    refine ⟨hm.1, fun x u hx hu => ?_, fun x y u v hx hy hu hv => ?_, fun loc a w Q hpc hf hw hQ => wp_block (ha.wp loc a w _ hpc hf hw fun x u hx hu => ?_)⟩
    · rcases back hx with ⟨_, rfl⟩ | ⟨_, _, h3⟩
      · obtain ⟨z, v, _, hz, hv⟩ := mpc hu
        exact ha.pc _ _ hz hv
      · exact ha.pc _ _ h3 hu
    · rcases back hx with ⟨rfl, rfl⟩ | ⟨h1, h2, h3⟩ <;> rcases back hy with ⟨rfl, rfl⟩ | ⟨h1', h2', h3'⟩
      · rfl
      · obtain ⟨z, v', hz0, hz, hv'⟩ := mpc hu
        have := ha.one _ _ _ _ h3' hz hv hv'
        subst this
        rcases hz0 with hz0 | hz0
        · exact absurd hz0 h1'
        · exact absurd hz0 h2'
      · obtain ⟨z, v', hz0, hz, hv'⟩ := mpc hv
        have := ha.one _ _ _ _ h3 hz hu hv'
        subst this
        rcases hz0 with hz0 | hz0
        · exact absurd hz0 h1
        · exact absurd hz0 h2
      · exact ha.one _ _ _ _ h3 h3' hu hv
    · by_cases h1 : x = .exit id
      · subst h1
        rw [ht] at hx
        injection hx with hx
        subst hx
        rw [inb2]
        have hsf : (s.pc.ev e).bool = false := by
          cases hc : (s.pc.ev e).bool with
          | false => rfl
          | true => exact absurd (ha.one _ _ _ _ hn ht hc hu) (by simp)
        have hr := hm.2.1
        simp only [pick, hsf, Bool.false_eq_true, if_false] at hr
        exact (hQ .norm _ get_self (by rw [hm.2.2]; simp only [pick, hsf, Bool.false_eq_true, if_false]; exact hu)).ref hr
      · rw [inb h1]
        by_cases h0 : x = .norm
        · subst h0
          rw [hn] at hx
          injection hx with hx
          subst hx
          have hr := hm.2.1
          simp only [pick, hu, if_true] at hr
          exact (hQ .norm _ get_self (by rw [hm.2.2]; simp only [pick, hu, if_true])).ref hr
        · exact hQ x u (by rw [get_ne h0, get_drop_ne h1, get_drop_ne h0]; exact hx) hu
end
end Rx
namespace Rx
open Go Go.RowKit
section
variable {T : Nat → List A → Bool × List A} {e : Nat → A} {P : Program} {X : Ctx} {w0 : World}
theorem FrRel.enter {n : Nat} {loc : Loc} {args : List PV} {vs : List Value} {m : Nat} (h : PVsRel e n loc args vs) :
    FrRel e n loc (args.map .pv ++ List.replicate (m - args.length) .undef) (vs.toArray ++ Array.replicate (m - vs.toArray.size) Go.undef) := by
  have hl := PVsRel_len h
  have at_ : ∀ {args : List PV} {vs : List Value} (i : Nat) (p : PV) (v : Value), PVsRel e n loc args vs → args[i]? = some p → vs[i]? = some v → p.rel e n loc v := by
    intro args
    induction args with
    | nil => intro vs i p v _ h; simp at h
    | cons a l ih =>
      intro vs i p v h hp hv
      cases vs with
      | nil => exact h.elim
      | cons b vs =>
        cases i with
        | zero => simp at hp hv; subst hp hv; exact h.1
        | succ i => exact ih i p v h.2 (by simpa using hp) (by simpa using hv)
  refine ⟨by simp [hl], fun i s v hs hv => ?_⟩
  by_cases hi : i < args.length
  · rw [List.getElem?_append_left (by simpa using hi)] at hs
    rw [Array.getElem?_append_left (by simp; omega)] at hv
    simp only [List.getElem?_map, Option.map_eq_some_iff] at hs
    obtain ⟨p, hp, rfl⟩ := hs
    exact at_ i p v h hp (by simpa using hv)
  · rw [List.getElem?_append_right (by simp; omega)] at hs
    rw [Array.getElem?_append_right (by simp; omega)] at hv
    have hs' := List.mem_of_getElem? hs
    have hv' := Array.mem_of_getElem? hv
    rw [List.mem_replicate] at hs'
    rw [Array.mem_replicate] at hv'
    rw [hs'.2, hv'.2]
    rfl
theorem mergePc_back {c : L} {both : Option (L × L × L)} {s t : L} {g : G} (h : Good T e (mergePc c both s t g).2) : Good T e g := by
  unfold mergePc at h
  split at h
  · split at h
    · exact h
    · exact (mkIteB_good h).1
  · exact (mkIteB_good h).1
theorem mergeSt_back {c : L} {both : Option (L × L × L)} {s t : St} {g : G} (h : Good T e (mergeSt c both s t g).2) : Good T e g := by
  unfold mergeSt at h
  simp only at h
  exact (mergeFr_good (mergeRows_good (mergePc_back h)).1).1
theorem combine_back {c nc : L} {both : Option (L × L × L)} : ∀ {o1 o2 : Outs} {g : G}, Good T e (combine c nc both o1 o2 g).2 → Good T e g
  | [], o2, g, h => (addPc_good (w0 := default) h).1
  | (y, s) :: l, o2, g, h => by
    unfold combine at h
    cases ht : Outs.get y o2 with
    | some t =>
      rw [ht] at h
      simp only at h
      exact mergeSt_back (combine_back h)
    | none =>
      rw [ht] at h
      simp only at h
      exact (mkAnd_good (combine_back h)).1
theorem block_back {id : Nat} {o : Outs} {g g' : G} {outs : Outs} (h : (match Outs.get (.exit id) o, Outs.get .norm o with
      | none, _ => some (o, g)
      | some t, none => some ((.norm, t) :: Outs.drop (.exit id) o, g)
      | some t, some s =>
        let (u, g) := mergeSt s.pc none s t g
        some ((.norm, u) :: Outs.drop (.exit id) (Outs.drop .norm o), g)) = some (outs, g')) (hg : Good T e g') : Good T e g := by
  split at h
  · simp only [Option.some.injEq, Prod.mk.injEq] at h
    obtain ⟨_, rfl⟩ := h
    exact hg
  · simp only [Option.some.injEq, Prod.mk.injEq] at h
    obtain ⟨_, rfl⟩ := h
    exact hg
  · simp only [Option.some.injEq, Prod.mk.injEq] at h
    obtain ⟨_, rfl⟩ := h
    exact mergeSt_back hg
theorem joined_back {o : Outs} {g g' : G} {s : St} (h : joined o g = some (s, g')) (hg : Good T e g') : Good T e g := by
  unfold joined at h
  split at h
  · simp only [Option.some.injEq, Prod.mk.injEq] at h
    obtain ⟨_, rfl⟩ := h
    exact hg
  · simp only [Option.some.injEq, Prod.mk.injEq] at h
    obtain ⟨_, rfl⟩ := h
    exact hg
  · simp only [Option.some.injEq] at h
    exact mergeSt_back (c := _) (both := none) (s := _) (t := _) (by rw [h]; exact hg)
  · simp only [Option.some.injEq] at h
    exact mergeSt_back (c := _) (both := none) (s := _) (t := _) (by rw [h]; exact hg)
  · cases h
theorem exec_sound (hX : XOK P T X) : ∀ n : Nat,
    (∀ (c : Code) (S : St) (g : G) (outs : Outs) (g' : G), exec X n c S g = some (outs, g') → Good T e g' → Good T e g ∧ Ends P T e w0 S (fun Q a w => c.wp P Q a w) outs) ∧
    (∀ (c : Code) (S : St) (k : Nat) (g : G) (outs : Outs) (g' : G), rounds X n c S k g = some (outs, g') → Good T e g' → Good T e g ∧ Ends P T e w0 S (fun Q a w => LW P c Q a w) outs) ∧
    InlOK P T e w0 (inline X n)
  | 0 => ⟨fun c S g outs g' h => by simp [exec] at h, fun c S k g outs g' h => by simp [rounds] at h, fun f args rows pc g v rows' g' h => by simp [inline] at h⟩
  | n + 1 => by
    obtain ⟨ih1, ih2, ih3⟩ := exec_sound hX n
    refine ⟨fun c S g outs g' h hg => ?_, fun c S k g outs g' h hg => ?_, fun f args rows pc g v rows' g' h hg => ?_⟩
    · cases c with
      | skip =>
        simp only [exec, Option.some.injEq, Prod.mk.injEq] at h
        obtain ⟨rfl, rfl⟩ := h
        exact ⟨hg, ends_single rfl fun loc a w Q hpc hf hw hc => wp_skip (hc loc a w (LExt.refl _ _) (Nat.le_refl _) hf rfl hw)⟩
      | ret =>
        simp only [exec, Option.some.injEq, Prod.mk.injEq] at h
        obtain ⟨rfl, rfl⟩ := h
        exact ⟨hg, ends_single rfl fun loc a w Q hpc hf hw hc => wp_ret (hc loc a w (LExt.refl _ _) (Nat.le_refl _) hf rfl hw)⟩
      | exit id =>
        simp only [exec, Option.some.injEq, Prod.mk.injEq] at h
        obtain ⟨rfl, rfl⟩ := h
        exact ⟨hg, ends_single rfl fun loc a w Q hpc hf hw hc => wp_exit (hc loc a w (LExt.refl _ _) (Nat.le_refl _) hf rfl hw)⟩
      | region id ops draw =>
        simp only [exec, Option.bind_eq_bind, Option.bind_eq_some_iff, Option.some.injEq, Prod.mk.injEq] at h
        obtain ⟨⟨S', g1⟩, h1, rfl, rfl⟩ := h
        obtain ⟨k1, k2, k3⟩ := execRegion_sound hX ih3 h1 hg
        refine ⟨k1, ends_single k2 fun loc a w Q hpc hf hw hc => ?_⟩
        have := k3 id loc a w Q hpc hf hw hc
        simpa using this
      | seq x y =>
        simp only [exec, Option.bind_eq_bind, Option.bind_eq_some_iff] at h
        obtain ⟨⟨o, g1⟩, h1, h⟩ := h
        simp only at h
        have hW : ∀ Q a w, x.wp P (Exit.then (y.wp P Q) Q) a w → (Code.seq x y).wp P Q a w := fun Q a w hh => wp_seq hh
        split at h
        · rename_i hn
          simp only [Option.some.injEq, Prod.mk.injEq] at h
          obtain ⟨rfl, rfl⟩ := h
          obtain ⟨k1, k2⟩ := ih1 _ _ _ _ _ h1 hg
          exact ⟨k1, ends_none (Wb := fun Q a w => y.wp P Q a w) hW k2 hn⟩
        · rename_i s hn
          split at h
          · rename_i hf
            simp only [Option.some.injEq, Prod.mk.injEq] at h
            obtain ⟨rfl, rfl⟩ := h
            obtain ⟨k1, k2⟩ := ih1 _ _ _ _ _ h1 hg
            exact ⟨k1, ends_false (Wb := fun Q a w => y.wp P Q a w) hW k2 hn hf⟩
          · simp only [Option.bind_eq_some_iff] at h
            obtain ⟨⟨o2, g2⟩, h2, h⟩ := h
            simp only at h
            split at h
            · rename_i hr
              simp only [Option.some.injEq, Prod.mk.injEq] at h
              obtain ⟨rfl, rfl⟩ := h
              obtain ⟨q1, q2⟩ := ih1 _ _ _ _ _ h2 hg
              obtain ⟨k1, k2⟩ := ih1 _ _ _ _ _ h1 q1
              exact ⟨k1, rest_empty hW k2 hn q2 hr⟩
            · simp only [Option.some.injEq] at h
              have hgc : Good T e (combine s.pc (mkNot s.pc g2).1 none o2 (Outs.drop .norm o) (mkNot s.pc g2).2).2 := by rw [h]; exact hg
              have hcg := combine_good (w0 := w0) (T := T) (e := e) (c := s.pc) (nc := (mkNot s.pc g2).1) (both := none) (o1 := o2) (o2 := Outs.drop .norm o) (g := (mkNot s.pc g2).2)
              have hgn : Good T e (mkNot s.pc g2).2 := combine_back hgc
              have hnot := mkNot_good hgn
              obtain ⟨q1, q2⟩ := ih1 _ _ _ _ _ h2 hnot.1
              obtain ⟨k1, k2⟩ := ih1 _ _ _ _ _ h1 q1
              have := combine_rest hW k2 hn q2 (nc := (mkNot s.pc g2).1) (by rw [hnot.2]; rfl) hgc
              rw [h] at this
              exact ⟨k1, this⟩
      | cond c x y =>
        simp only [exec, Option.bind_eq_bind, Option.bind_eq_some_iff] at h
        obtain ⟨p, hp, b, hb, h⟩ := h
        have hev : ∀ loc (a : Act), FrRel e S.rows.length loc S.fr a.tmps → a.eval c = .bool (b.ev e).bool := fun loc a hf => PV.bool?_some hb (opd_sound hp hf (fun x hx => by cases hx))
        split at h
        · obtain ⟨k1, k2⟩ := ih1 _ _ _ _ _ h hg
          exact ⟨k1, k2.pc, k2.one, fun loc a w Q hpc hf hw hQ => wp_cond_true (hev loc a hf) (k2.wp loc a w Q hpc hf hw hQ)⟩
        · obtain ⟨k1, k2⟩ := ih1 _ _ _ _ _ h hg
          exact ⟨k1, k2.pc, k2.one, fun loc a w Q hpc hf hw hQ => wp_cond_false (hev loc a hf) (k2.wp loc a w Q hpc hf hw hQ)⟩
        · simp only [Option.bind_eq_some_iff] at h
          obtain ⟨⟨o1, g1⟩, h1, ⟨o2, g2⟩, h2, h⟩ := h
          simp only [Option.some.injEq] at h
          obtain ⟨nx, gn, hnx⟩ : ∃ nx gn, mkNot b g = (nx, gn) := ⟨_, _, rfl⟩
          obtain ⟨p1, ga, hp1⟩ : ∃ p1 ga, mkAnd S.pc b gn = (p1, ga) := ⟨_, _, rfl⟩
          obtain ⟨p2, gb, hp2⟩ : ∃ p2 gb, mkAnd S.pc nx ga = (p2, gb) := ⟨_, _, rfl⟩
          simp only [hnx, hp1, hp2] at h h1 h2
          have hgc : Good T e (combine b nx (some (S.pc, p1, p2)) o1 o2 g2).2 := by rw [h]; exact hg
          have hg2 : Good T e g2 := combine_back hgc
          obtain ⟨q1, q2⟩ := ih1 _ _ _ _ _ h2 hg2
          obtain ⟨k1, k2⟩ := ih1 _ _ _ _ _ h1 q1
          have m2 := mkAnd_good (T := T) (e := e) (a := S.pc) (b := nx) (g := ga) (by rw [hp2]; exact k1)
          rw [hp2] at m2
          have m1 := mkAnd_good (T := T) (e := e) (a := S.pc) (b := b) (g := gn) (by rw [hp1]; exact m2.1)
          rw [hp1] at m1
          have m0 := mkNot_good (T := T) (e := e) (a := b) (g := g) (by rw [hnx]; exact m1.1)
          rw [hnx] at m0
          have hnc : (nx.ev e).bool = !(b.ev e).bool := by rw [m0.2]; rfl
          have hcg := (combine_good (w0 := w0) hnc (fun p x y h0 => by
            simp only [Option.some.injEq, Prod.mk.injEq] at h0
            obtain ⟨rfl, rfl, rfl⟩ := h0
            exact ⟨m1.2, by rw [m2.2, hnc]⟩) hgc).2
          rw [h] at hcg
          obtain ⟨c1, c2, c3⟩ := hcg
          refine ⟨m0.1, fun x u hx hu => ?_, fun x y u v hx hy hu hv => ?_, fun loc a w Q hpc hf hw hQ => ?_⟩
          · rcases c1 x u hx hu with ⟨_, s, s1, s2⟩ | ⟨_, s, s1, s2⟩
            · have := k2.pc x s s1 s2
              simp only [m1.2, Bool.and_eq_true] at this
              exact this.1
            · have := q2.pc x s s1 s2
              simp only [m2.2, Bool.and_eq_true] at this
              exact this.1
          · rcases c1 x u hx hu with ⟨a1, s, s1, s2⟩ | ⟨a1, s, s1, s2⟩ <;> rcases c1 y v hy hv with ⟨a2, t, t1, t2⟩ | ⟨a2, t, t1, t2⟩
            · exact k2.one _ _ _ _ s1 t1 s2 t2
            · rw [a1] at a2; cases a2
            · rw [a1] at a2; cases a2
            · exact q2.one _ _ _ _ s1 t1 s2 t2
          · refine wp_cond_split (hev loc a hf) (fun ht => ?_) (fun ht => ?_)
            · refine k2.wp loc a w Q (by simp only [m1.2, hpc, ht, Bool.and_self]) hf hw fun x s hx hs => ?_
              obtain ⟨u, u1, u2, u3⟩ := c2 ht x s hx hs
              exact (hQ x u u1 u2).ref u3
            · refine q2.wp loc a w Q (by simp only [m2.2, hpc, hnc, ht]; rfl) hf hw fun x s hx hs => ?_
              obtain ⟨u, u1, u2, u3⟩ := c3 ht x s hx hs
              exact (hQ x u u1 u2).ref u3
      | block id c =>
        simp only [exec, Option.bind_eq_bind, Option.bind_eq_some_iff] at h
        obtain ⟨⟨o, g1⟩, h1, h⟩ := h
        simp only at h
        have hg1 : Good T e g1 := block_back h hg
        obtain ⟨k1, k2⟩ := ih1 _ _ _ _ _ h1 hg1
        exact ⟨k1, (ends_block k2 h hg).2⟩
      | loop c =>
        simp only [exec] at h
        obtain ⟨k1, k2⟩ := ih2 _ _ _ _ _ _ h hg
        exact ⟨k1, k2.pc, k2.one, fun loc a w Q hpc hf hw hQ => (k2.wp loc a w Q hpc hf hw hQ).wp⟩
      | _ => simp [exec] at h
    · simp only [rounds, Option.bind_eq_bind] at h
      have hW : ∀ Q a w, c.wp P (Exit.then (LW P c Q) Q) a w → LW P c Q a w := fun Q a w hh => .of hh
      split at h
      · simp only [Option.some.injEq, Prod.mk.injEq] at h
        obtain ⟨rfl, rfl⟩ := h
        have hm := must_good hg
        have hn := mkNot_good hm.1
        have hf : (S.pc.ev e).bool = false := by
          have := hm.2 rfl
          rw [hn.2] at this
          simpa using this
        exact ⟨hn.1, fun x s hx => by simp [Outs.get] at hx, fun x y s t hx => by simp [Outs.get] at hx, fun loc a w Q hpc => by rw [hf] at hpc; cases hpc⟩
      · simp only [Option.bind_eq_some_iff] at h
        obtain ⟨⟨o, g1⟩, h1, h⟩ := h
        simp only at h
        split at h
        · rename_i hn
          simp only [Option.some.injEq, Prod.mk.injEq] at h
          obtain ⟨rfl, rfl⟩ := h
          obtain ⟨k1, k2⟩ := ih1 _ _ _ _ _ h1 hg
          exact ⟨k1, ends_none (Wb := fun Q a w => LW P c Q a w) hW k2 hn⟩
        · rename_i s hn
          split at h
          · rename_i hf
            simp only [Option.some.injEq, Prod.mk.injEq] at h
            obtain ⟨rfl, rfl⟩ := h
            obtain ⟨k1, k2⟩ := ih1 _ _ _ _ _ h1 hg
            exact ⟨k1, ends_false (Wb := fun Q a w => LW P c Q a w) hW k2 hn hf⟩
          · simp only [Option.bind_eq_some_iff] at h
            obtain ⟨⟨o2, g2⟩, h2, h⟩ := h
            simp only at h
            split at h
            · rename_i hr
              simp only [Option.some.injEq, Prod.mk.injEq] at h
              obtain ⟨rfl, rfl⟩ := h
              obtain ⟨q1, q2⟩ := ih2 _ _ _ _ _ _ h2 hg
              obtain ⟨k1, k2⟩ := ih1 _ _ _ _ _ h1 q1
              exact ⟨k1, rest_empty hW k2 hn q2 hr⟩
            · simp only [Option.some.injEq] at h
              have hgc : Good T e (combine s.pc (mkNot s.pc g2).1 none o2 (Outs.drop .norm o) (mkNot s.pc g2).2).2 := by rw [h]; exact hg
              have hgn : Good T e (mkNot s.pc g2).2 := combine_back hgc
              have hnot := mkNot_good hgn
              obtain ⟨q1, q2⟩ := ih2 _ _ _ _ _ _ h2 hnot.1
              obtain ⟨k1, k2⟩ := ih1 _ _ _ _ _ h1 q1
              have := combine_rest hW k2 hn q2 (nc := (mkNot s.pc g2).1) (by rw [hnot.2]; rfl) hgc
              rw [h] at this
              exact ⟨k1, this⟩
    · simp only [inline, Option.bind_eq_bind, Option.bind_eq_some_iff] at h
      obtain ⟨fn, hfn, body, hbody, ⟨o, g1⟩, h1, ⟨s, g2⟩, h2, ⟨rs, g3⟩, h3, h⟩ := h
      simp only [Option.some.injEq, Prod.mk.injEq] at h
      obtain ⟨rfl, rfl, rfl⟩ := h
      obtain ⟨f1, _, _⟩ := hX.fns f fn hfn
      obtain ⟨r1, r2⟩ := results_sound (P := P) (e := e) (w0 := w0) hX.tys h3
      subst r1
      have hg1 : Good T e g1 := joined_back h2 hg
      obtain ⟨k1, k2⟩ := ih1 _ _ _ _ _ h1 hg1
      obtain ⟨_, j2⟩ := joined_sound k2 h2 hg
      refine ⟨k1, fun loc vs w hpc hvs hw => ?_⟩
      refine calls_of_wp f1 hbody (k2.wp loc _ w _ hpc (FrRel.enter hvs) hw fun x s1 hx hs1 => ?_)
      obtain ⟨j3, j4⟩ := j2 x s1 hx hs1
      intro loc' a' w' q1 q2 q3 q4 q5
      obtain ⟨t1, t2, t3⟩ := j4 loc' a'.tmps w' q3 q5
      obtain ⟨us, u1, u2⟩ := r2 loc' a'.tmps w' t2 t3
      have : a'.defers = [] ∧ ∃ v, (Go.results fn a'.tmps).run P w' = .ok v w' ∧ (fun en w'' => ∃ u, en = Ending.returned u ∧ ∃ loc', LExt rows.length loc loc' ∧ rows.length ≤ s.rows.length ∧ (retSV rs).rel e s.rows.length loc' u ∧ Cls e w0 loc' s.rows w'') (.returned v) w' :=
        ⟨q4, retVal us, run_results u2, retVal us, rfl, loc', q1, Nat.le_trans q2 t1, retSV_rel u1, t3⟩
      rcases j3 with rfl | rfl
      · exact this
      · exact this
end
end Rx
namespace Rx
open Go Go.RowKit
section
variable {T : Nat → List A → Bool × List A} {e : Nat → A} {P : Program} {X : Ctx} {w0 : World}
def ext (T : Nat → List A → Bool × List A) (e : Nat → A) (d : Def) : Nat → A := fun j =>
  if d.base ≤ j then (match (d.d.ev T (d.args.map (L.ev e)))[j - d.base]? with | some a => a | none => e j) else e j
def envOf (T : Nat → List A → Bool × List A) (e : Nat → A) : List Def → Nat → A
  | [] => e
  | d :: l => ext T (envOf T e l) d
def varsBelow (k : Nat) : List L → Bool
  | [] => true
  | .var i :: l => decide (i < k) && varsBelow k l
  | _ :: l => varsBelow k l
def Def.width (ws : List (Nat × Nat)) (d : Def) : Nat :=
  match d.d with
  | .call f => (look f ws).getD 0
  | .upd => d.args.length - 2
  | _ => 1
def defsB (ws : List (Nat × Nat)) : List Def → Nat → Bool
  | [], _ => true
  | d :: l, top => varsBelow d.base d.args && decide (d.base + d.width ws ≤ top) && (match d.d with | .call f => (look f ws).isSome | _ => true) && defsB ws l d.base
def WidthOK (T : Nat → List A → Bool × List A) (ws : List (Nat × Nat)) : Prop := ∀ f k, look f ws = some k → ∀ as, (T f as).2.length + 1 ≤ k
theorem ev_len {ws : List (Nat × Nat)} (hw : WidthOK T ws) (d : Def) (hd : (match d.d with | .call f => (look f ws).isSome | _ => true) = true) : (d.d.ev T (d.args.map (L.ev e))).length ≤ d.width ws := by
  obtain ⟨b, dd, args⟩ := d
  unfold Def.width
  cases dd
  case call f =>
    simp only at hd
    cases hk : look f ws with
    | none => rw [hk] at hd; cases hd
    | some k => simpa [D.ev, hk] using hw f k hk (args.map (L.ev e))
  case upd =>
    match args with
    | [] => simp [D.ev]
    | [_] => simp [D.ev]
    | _ :: _ :: l => simp [D.ev]
  case sel =>
    match args with
    | [] => simp [D.ev]
    | _ :: l => simp [D.ev]
  all_goals
    match args with
    | [] => simp [D.ev]
    | [_] => simp [D.ev]
    | [_, _] => simp [D.ev]
    | [_, _, _] => simp [D.ev]
    | _ :: _ :: _ :: _ :: _ => simp [D.ev]
theorem varsBelow_ev {k : Nat} {e e' : Nat → A} (he : ∀ j, j < k → e' j = e j) : ∀ {l : List L}, varsBelow k l = true → l.map (L.ev e') = l.map (L.ev e)
  | [], _ => rfl
  | .var i :: l, h => by
    simp only [varsBelow, Bool.and_eq_true, decide_eq_true_eq] at h
    simp only [List.map_cons, L.ev, he i h.1, varsBelow_ev he h.2]
  | .n _ :: l, h => by simp only [varsBelow] at h; simp only [List.map_cons, L.ev, varsBelow_ev he h]
  | .t _ :: l, h => by simp only [varsBelow] at h; simp only [List.map_cons, L.ev, varsBelow_ev he h]
  | .s _ :: l, h => by simp only [varsBelow] at h; simp only [List.map_cons, L.ev, varsBelow_ev he h]
theorem defs_hold {ws : List (Nat × Nat)} (hw : WidthOK T ws) (e : Nat → A) : ∀ {l : List Def} {top : Nat}, defsB ws l top = true → ∀ d ∈ l, d.holds T (envOf T e l)
  | d :: l, top, h, x, hx => by
    simp only [defsB, Bool.and_eq_true, decide_eq_true_eq] at h
    obtain ⟨⟨⟨h1, h2⟩, hcd⟩, h3⟩ := h
    have below : ∀ j, j < d.base → envOf T e (d :: l) j = envOf T e l j := fun j hj => by
      show ext T (envOf T e l) d j = _
      unfold ext
      rw [if_neg (by omega)]
    rcases List.mem_cons.1 hx with rfl | hx
    · intro j a ha
      rw [varsBelow_ev below h1] at ha
      show ext T (envOf T e l) x (x.base + j) = a
      unfold ext
      rw [if_pos (by omega), show x.base + j - x.base = j by omega, ha]
    · have ih := defs_hold hw e h3 x hx
      have htop : ∀ {l : List Def} {top : Nat}, defsB ws l top = true → ∀ d ∈ l, d.base + d.width ws ≤ top ∧ varsBelow d.base d.args = true ∧ (match d.d with | .call f => (look f ws).isSome | _ => true) = true := by
        intro l
        induction l with
        | nil => intro top _ d hd; cases hd
        | cons y l ih =>
          intro top h d hd
          simp only [defsB, Bool.and_eq_true, decide_eq_true_eq] at h
          rcases List.mem_cons.1 hd with rfl | hd
          · exact ⟨h.1.1.2, h.1.1.1, h.1.2⟩
          · have := ih h.2 d hd
            have h5 := h.1.1.2
            exact ⟨by omega, this.2⟩
      obtain ⟨k1, k2, k3⟩ := htop h3 x hx
      intro j a ha
      rw [varsBelow_ev (e := envOf T e l) (fun i hi => below i (by omega)) k2] at ha
      have hj : j < (x.d.ev T (x.args.map (L.ev (envOf T e l)))).length := lt_of_get ha
      have hwd := ev_len (e := envOf T e l) hw x k3
      rw [below _ (by omega)]
      exact ih j a ha
theorem run_calls (hX : XOK P T X) {n f next : Nat} {args : List PV} {rows rows' : List Row} {v : SV} {g : G} {kn : List Known} (h : run X n f args rows next kn = some (v, rows', g)) (hg : Good T e g)
    {loc : Loc} {vs : List Value} {w : World} (hvs : PVsRel e rows.length loc args vs) (hrows : RowsOK e loc rows w w.heap.size) :
    Calls P f vs.toArray w fun en w' => ∃ u, en = .returned u ∧ (∃ loc', v.rel e rows'.length loc' u) ∧ Below w.heap.size w w' := by
  have := (exec_sound (T := T) (e := e) (w0 := w) hX n).2.2 f args rows (.t true) _ v rows' g h hg
  exact (this.2 loc vs w rfl hvs ⟨hrows, Below.refl _ _⟩).mono fun en w' ⟨u, h1, loc', h2, h3, h4, h5⟩ => ⟨u, h1, ⟨loc', h4⟩, h5.2⟩
end
end Rx
namespace Rx
open Go Go.RowKit
def leafK (lf : Nat → L) : List Srt → Nat → List C
  | [], _ => []
  | s :: l, b => .k (s.mk (lf b)) :: leafK lf l (b + 1)
def leafMany (lf : Nat → L) (ss : List Srt) : Nat → Nat → List C
  | 0, _ => []
  | n + 1, b => leafK lf ss b ++ leafMany lf ss n (b + ss.length)
def lfOf (lits : List (Nat × Int)) (i : Nat) : L := match look i lits with | some x => .n x | none => .var i
def parPV (lf : Nat → L) : List PS → List Nat → Nat → Nat → Option (List PV × List Row × Nat)
  | [], [], b, _ => some ([], [], b)
  | .c agg ss :: l, ns, b, r => do
    let p ← mkPV agg (leafK lf ss b)
    let (ps, rows, k) ← parPV lf l ns (b + ss.length) r
    some (p :: ps, rows, k)
  | .slc ss :: l, n :: ns, b, r => do
    let (ps, rows, k) ← parPV lf l ns (b + (1 + n * ss.length)) (r + 1)
    some (.one (.k (.slc r 0 n)) :: ps, { own := false, ty := 0, es := ss.length, cells := leafMany lf ss n (b + 1) } :: rows, k)
  | .nil :: l, ns, b, r => do
    let (ps, rows, k) ← parPV lf l ns b r
    some (.one (.k .nilslc) :: ps, rows, k)
  | _, _, _, _ => none
def Lens : List PS → List Nat → List A → Prop
  | [], ns, as => ns = [] ∧ as = []
  | .c _ ss :: l, ns, as => ∃ a1 a2, as = a1 ++ a2 ∧ a1.length = ss.length ∧ Lens l ns a2
  | .slc ss :: l, ns, as => ∃ n ns' a1 a2, ns = n :: ns' ∧ as = (A.i n :: a1) ++ a2 ∧ a1.length = n * ss.length ∧ Lens l ns' a2
  | .nil :: l, ns, as => Lens l ns as
def flatRes : List (Bool × List Srt) → List PV → Option (List L)
  | [], [] => some []
  | (agg, ss) :: rs, p :: ps => do
    let a ← flatArg [] (.c agg ss) p
    let r ← flatRes rs ps
    some (a ++ r)
  | _, _ => none
def flatSV (rs : List (Bool × List Srt)) : SV → Option (List L)
  | .pv p => flatRes rs [p]
  | .tup l => if l.length == 1 then none else flatRes rs l
  | _ => none
section
variable {T : Nat → List A → Bool × List A} {e : Nat → A} {P : Program} {X : Ctx} {w0 : World}
theorem semRows_len {ss : List Srt} : ∀ {n : Nat} {as : List A}, as.length = n * ss.length → (semRows ss n as).length = n * ss.length
  | 0, as, _ => by simp [semRows]
  | n + 1, as, h => by
    have hle : ss.length ≤ as.length := by rw [h, Nat.succ_mul]; omega
    rw [semRows, List.length_append, semMany_len (by simp [hle]), semRows_len (n := n) (by rw [List.length_drop, h, Nat.succ_mul]; omega), Nat.succ_mul]
    omega
theorem leafK_rel {n : Nat} {loc : Loc} {lf : Nat → L} : ∀ {ss : List Srt} {as : List A} {b : Nat}, as.length = ss.length → (∀ j a, as[j]? = some a → (lf (b + j)).ev e = a) → CsRel e n loc (leafK lf ss b) (semMany ss as)
  | [], [], _, _, _ => trivial
  | [], _ :: _, _, h, _ => by simp at h
  | _ :: _, [], _, h, _ => by simp at h
  | s :: ss, a :: as, b, h, hh => ⟨mk_of_sem (by simpa using hh 0 a rfl), leafK_rel (by simpa using h) fun j x hx => by
      have := hh (j + 1) x (by simpa using hx)
      rwa [show b + 1 + j = b + (j + 1) by omega]⟩
theorem leafMany_rel {n : Nat} {loc : Loc} {lf : Nat → L} {ss : List Srt} : ∀ {m b : Nat} {as : List A}, as.length = m * ss.length → (∀ j a, as[j]? = some a → (lf (b + j)).ev e = a) → CsRel e n loc (leafMany lf ss m b) (semRows ss m as)
  | 0, _, _, _, _ => trivial
  | m + 1, b, as, h, hh => by
    have hle : ss.length ≤ as.length := by rw [h, Nat.succ_mul]; omega
    refine CsRel_append (leafK_rel (by simp [hle]) fun j a hj => ?_) (leafMany_rel (by rw [List.length_drop, h, Nat.succ_mul]; omega) fun j a hj => ?_)
    · rw [List.getElem?_take] at hj
      split at hj
      · exact hh j a hj
      · cases hj
    · rw [List.getElem?_drop] at hj
      rw [Nat.add_assoc]
      exact hh _ a hj
theorem par_sound {lf : Nat → L} {w : World} : ∀ {ps : List PS} {ns : List Nat} {b r k : Nat} {args : List PV} {rows : List Row} {vs : List Value} {as : List A},
    parPV lf ps ns b r = some (args, rows, k) → ArgsRel w ps vs as → Lens ps ns as → (∀ j a, as[j]? = some a → (lf (b + j)).ev e = a) →
    k = b + as.length ∧ ∃ locs : List Lc, locs.length = rows.length ∧ ∀ (loc : Loc) (N : Nat), (∀ i x, locs[i]? = some x → loc (r + i) = x) → r + rows.length ≤ N →
      PVsRel e N loc args vs ∧ ∀ i row, rows[i]? = some row → row.own = false ∧ RowOK e N loc w w.heap.size (r + i) row
  | [], [], b, r, k, args, rows, vs, as, h, ha, hl, he => by
    simp only [parPV, Option.some.injEq, Prod.mk.injEq] at h
    obtain ⟨rfl, rfl, rfl⟩ := h
    rw [ha.1, ha.2]
    exact ⟨rfl, [], rfl, fun loc N _ _ => ⟨trivial, fun i row h => by simp at h⟩⟩
  | [], _ :: _, _, _, _, _, _, _, _, h, _, _, _ => by simp [parPV] at h
  | .c agg ss :: l, ns, b, r, k, args, rows, vs, as, h, ha, hl, he => by
    simp only [parPV, Option.bind_eq_bind, Option.bind_eq_some_iff] at h
    obtain ⟨p, hp, ⟨ps', rows', k'⟩, hr, h⟩ := h
    simp only [Option.some.injEq, Prod.mk.injEq] at h
    obtain ⟨rfl, rfl, rfl⟩ := h
    obtain ⟨v, vr, a1, a2, rfl, rfl, h1, h2⟩ := ha
    obtain ⟨b1, b2, hb, hb1, hb2⟩ := hl
    have hlen : a1.length = ss.length := h1.1
    obtain ⟨rfl, rfl⟩ := List.append_inj hb (by rw [hlen, hb1])
    obtain ⟨k1, locs, l1, l2⟩ := par_sound hr h2 hb2 (fun j a hj => by
      have := he (ss.length + j) a (by rw [List.getElem?_append_right (by omega), hlen]; simpa using hj)
      rwa [Nat.add_assoc])
    refine ⟨by rw [k1, List.length_append, hlen]; omega, locs, l1, fun loc N q1 q2 => ?_⟩
    obtain ⟨m1, m2⟩ := l2 loc N q1 q2
    refine ⟨⟨?_, m1⟩, m2⟩
    have hv := leafK_rel (lf := lf) (e := e) (n := N) (loc := loc) (b := b) hlen (fun j a hj => he j a (by rw [List.getElem?_append_left (lt_of_get hj)]; exact hj))
    have h3 := h1.2
    rcases mkPV_some hp with ⟨hag, rfl⟩ | ⟨hag, c, hc, rfl⟩
    · rw [if_pos hag] at h3
      exact ⟨_, h3, hv⟩
    · rw [if_neg (by simp [hag])] at h3
      obtain ⟨s, a, z1, z2, z3⟩ := h3
      subst z1
      subst z2
      rw [hc] at hv
      rw [z3]
      exact hv.1
  | .slc ss :: l, [], b, r, k, args, rows, vs, as, h, ha, hl, he => by simp [parPV] at h
  | .slc ss :: l, n :: ns, b, r, k, args, rows, vs, as, h, ha, hl, he => by
    simp only [parPV, Option.bind_eq_bind, Option.bind_eq_some_iff] at h
    obtain ⟨⟨ps', rows', k'⟩, hr, h⟩ := h
    simp only [Option.some.injEq, Prod.mk.injEq] at h
    obtain ⟨rfl, rfl, rfl⟩ := h
    obtain ⟨v, vr, a1, a2, rfl, rfl, ⟨bb, o, m, c, rest, rfl, rfl, h1, h1'⟩, h2⟩ := ha
    obtain ⟨n', ns', b1, b2, hn, hb, hb1, hb2⟩ := hl
    injection hn with hn1 hn2
    subst hn1
    subst hn2
    have hmn : m = n := by
      have := congrArg (·[0]?) hb
      simp at this
      omega
    subst hmn
    obtain ⟨hc1, rfl⟩ := List.append_inj hb (by simp [h1, hb1])
    obtain ⟨_, rfl⟩ := List.cons.inj hc1
    obtain ⟨k1, locs, l1, l2⟩ := par_sound hr h2 hb2 (fun j a hj => by
      have := he (1 + m * ss.length + j) a (by
        rw [List.getElem?_append_right (by simp [h1]; omega)]
        simp only [List.length_cons, h1]
        rw [show 1 + m * ss.length + j - (m * ss.length + 1) = j by omega]
        exact hj)
      rwa [Nat.add_assoc])
    refine ⟨by rw [k1, List.length_append, List.length_cons, h1]; omega, ⟨bb, o, c, ss.length⟩ :: locs, by simp [l1], fun loc N q1 q2 => ?_⟩
    have hloc : loc r = ⟨bb, o, c, ss.length⟩ := q1 0 _ rfl
    simp only [List.length_cons] at q2
    obtain ⟨m1, m2⟩ := l2 loc N (fun i x hi => by
      have := q1 (i + 1) x (by simpa using hi)
      rwa [show r + 1 + i = r + (i + 1) by omega]) (by omega)
    have hrest : CsRel e N loc (leafMany lf ss m (b + 1)) (semRows ss m rest) := leafMany_rel h1 (fun j a hj => by
      have := he (j + 1) a (by
        rw [List.cons_append, List.getElem?_cons_succ, List.getElem?_append_left (lt_of_get hj)]
        exact hj)
      rwa [show b + 1 + j = b + (j + 1) by omega])
    refine ⟨⟨mk_slc (by omega) (by rw [hloc]; simp), m1⟩, fun i row hi => ?_⟩
    cases i with
    | zero =>
      simp only [List.getElem?_cons_zero, Option.some.injEq] at hi
      subst hi
      refine ⟨rfl, ?_⟩
      unfold RowOK
      rw [if_neg (by simp)]
      intro hne
      rw [Nat.add_zero, hloc]
      have hcell : ∀ j cc, (leafMany lf ss m (b + 1))[j]? = some cc → ∃ v, w.cell? ⟨bb, o + j, none⟩ = some v ∧ cc.rel e N loc v := fun j cc hj => by
        obtain ⟨v, v1, v2⟩ := CsRel_get hrest hj
        exact ⟨v, h1' j v v1, v2⟩
      refine ⟨rfl, ?_, hcell⟩
      simp only at hne
      cases hcc : leafMany lf ss m (b + 1) with
      | nil => exact absurd hcc hne
      | cons c0 cs0 =>
        obtain ⟨v, v1, _⟩ := hcell 0 c0 (by rw [hcc]; rfl)
        exact World.block_lt_of_cell? w _ v1
    | succ i =>
      have := m2 i row (by simpa using hi)
      rwa [show r + (i + 1) = r + 1 + i by omega]
  | .nil :: l, ns, b, r, k, args, rows, vs, as, h, ha, hl, he => by
    simp only [parPV, Option.bind_eq_bind, Option.bind_eq_some_iff] at h
    obtain ⟨⟨ps', rows', k'⟩, hr, h⟩ := h
    simp only [Option.some.injEq, Prod.mk.injEq] at h
    obtain ⟨rfl, rfl, rfl⟩ := h
    obtain ⟨v, vr, a1, a2, rfl, rfl, ⟨rfl, rfl⟩, h2⟩ := ha
    obtain ⟨k1, locs, l1, l2⟩ := par_sound hr h2 hl he
    refine ⟨k1, locs, l1, fun loc N q1 q2 => ?_⟩
    obtain ⟨m1, m2⟩ := l2 loc N q1 q2
    exact ⟨⟨⟨trivial, rfl, .inr rfl⟩, m1⟩, m2⟩
  termination_by ps => ps.length
theorem envOf_below {e0 : Nat → A} {k : Nat} : ∀ {l : List Def}, (l.all fun d => decide (k ≤ d.base)) = true → ∀ j, j < k → envOf T e0 l j = e0 j
  | [], _, _, _ => rfl
  | d :: l, h, j, hj => by
    simp only [List.all_cons, Bool.and_eq_true, decide_eq_true_eq] at h
    show ext T (envOf T e0 l) d j = _
    unfold ext
    rw [if_neg (by omega)]
    exact envOf_below h.2 j hj
theorem semMany_append : ∀ {s1 s2 : List Srt} {a1 a2 : List A}, a1.length = s1.length → semMany (s1 ++ s2) (a1 ++ a2) = semMany s1 a1 ++ semMany s2 a2
  | [], _, [], _, _ => rfl
  | [], _, _ :: _, _, h => by simp at h
  | _ :: _, _, [], _, h => by simp at h
  | s :: s1, s2, a :: a1, a2, h => by simp [semMany, semMany_append (s1 := s1) (a1 := a1) (by simpa using h)]
theorem flatRes_sound {n : Nat} {loc : Loc} : ∀ {rs : List (Bool × List Srt)} {ps : List PV} {ls : List L} {vs : List Value} {out : List A}, flatRes rs ps = some ls → PVsRel e n loc ps vs →
    out.length = ls.length → semMany (rs.flatMap (·.2)) out = semMany (rs.flatMap (·.2)) (ls.map (L.ev e)) → ResList rs out vs
  | [], [], ls, vs, out, h, hv, ho, hs => by
    simp [flatRes] at h
    subst h
    cases vs with
    | nil => exact ⟨by simpa using ho, rfl⟩
    | cons => exact hv.elim
  | (agg, ss) :: rs, p :: ps, ls, vs, out, h, hv, ho, hs => by
    simp only [flatRes, Option.bind_eq_bind, Option.bind_eq_some_iff, Option.some.injEq] at h
    obtain ⟨a, ha, r, hr, rfl⟩ := h
    cases vs with
    | nil => exact hv.elim
    | cons v vs =>
      have h1 : OneArg default (.c agg ss) v (a.map (L.ev e)) := by
        have hcl : Cls e (default : World) (fun _ => default) [] (default : World) := ⟨⟨fun r x h => by simp at h, fun r s x y h => by simp at h⟩, Below.refl _ _⟩
        unfold flatArg at ha
        split at ha
        · rename_i s c heq
          obtain ⟨hag, rfl⟩ := PS.c.inj heq
          cases hv1 : flatK [s] [c] with
          | none => rw [hv1] at ha; cases ha
          | some l =>
            rw [hv1] at ha
            injection ha with ha
            subst ha
            obtain ⟨q1, q2, q3⟩ := flatK_sound (vs := [v]) hv1 ⟨hv.1, trivial⟩
            obtain ⟨y, rfl⟩ : ∃ y, l = [y] := by
              match l, q1 with
              | [y], _ => exact ⟨y, rfl⟩
            subst hag
            refine ⟨by simp, ?_⟩
            simp only [Bool.false_eq_true, if_false]
            exact ⟨s, y.ev e, rfl, rfl, by simpa [semMany] using q3⟩
        · rename_i ss' l heq
          obtain ⟨hag, rfl⟩ := PS.c.inj heq
          subst hag
          obtain ⟨us, rfl, hu⟩ := hv.1
          obtain ⟨q1, q2, q3⟩ := flatK_sound ha hu
          refine ⟨by simpa using q1, ?_⟩
          simp only [if_true]
          rw [q3]
        · rename_i heq; cases heq
        · rename_i heq; cases heq
        · rename_i heq; cases heq
        · cases ha
      have hal : a.length = ss.length := by simpa using h1.1
      have hlo : ss.length ≤ out.length := by rw [ho, List.length_append]; omega
      have e1 : out = out.take ss.length ++ out.drop ss.length := (List.take_append_drop _ _).symm
      rw [e1, List.map_append, List.flatMap_cons, semMany_append (by simp [hlo]), semMany_append (by simp [hal])] at hs
      obtain ⟨s1, s2⟩ := List.append_inj hs (by rw [semMany_len (by simp [hlo]), semMany_len (by simp [hal])])
      refine ⟨v, vs, out.take ss.length, out.drop ss.length, rfl, e1, ⟨by simp [hlo], ?_⟩, flatRes_sound hr hv.2 (by rw [List.length_drop, ho, List.length_append]; omega) s2⟩
      have h3 := h1.2
      simp only
      split at h3
      · rename_i hag
        rw [if_pos hag, s1]
        exact h3
      · rename_i hag
        rw [if_neg hag]
        obtain ⟨s, x, z1, z2, z3⟩ := h3
        subst z1
        obtain ⟨o, ho1⟩ : ∃ o, out.take 1 = [o] := by
          match out, hlo with
          | o :: _, _ => exact ⟨o, rfl⟩
        simp only [List.length_singleton] at s1 ⊢
        rw [ho1, z2] at s1
        simp only [semMany, List.cons.injEq, and_true] at s1
        exact ⟨s, o, rfl, ho1, by rw [s1]; exact z3⟩
  | [], _ :: _, _, _, _, h, _, _, _ => by simp [flatRes] at h
  | _ :: _, [], _, _, _, h, _, _, _ => by simp [flatRes] at h
theorem flatSV_sound {n : Nat} {loc : Loc} {rs : List (Bool × List Srt)} {v : SV} {ls : List L} {u : Value} {out : List A} (h : flatSV rs v = some ls) (hv : v.rel e n loc u)
    (ho : out.length = ls.length) (hs : semMany (rs.flatMap (·.2)) out = semMany (rs.flatMap (·.2)) (ls.map (L.ev e))) : ResRel rs out u := by
  unfold flatSV at h
  split at h
  · exact ⟨[u], flatRes_sound h ⟨hv, trivial⟩ ho hs, rfl⟩
  · split at h
    · cases h
    · rename_i hl
      obtain ⟨us, rfl, hu⟩ := hv
      refine ⟨us, flatRes_sound h hu ho hs, ?_⟩
      have := PVsRel_len hu
      match us with
      | [] => rfl
      | [_] => simp at this; simp [this] at hl
      | _ :: _ :: _ => rfl
  · cases h
theorem calls_of_run (hX : XOK P T X) {ws : List (Nat × Nat)} (hws : WidthOK T ws) {c : Ctr} {lits : List (Nat × Int)} {ns : List Nat} {n k : Nat} {kn : List Known} {more : List A} {args : List PV} {rows rows' : List Row} {v : SV} {g : G} {ls : List L}
    (hpar : parPV (lfOf lits) c.ps ns 0 0 = some (args, rows, k)) (hrun : run X n c.f args rows (k + more.length) kn = some (v, rows', g)) (hdefs : defsB ws g.defs g.next = true)
    (hbase : (g.defs.all fun d => decide (k + more.length ≤ d.base)) = true)
    (hls : flatSV c.rs v = some ls) {as : List A} {vs : List Value} {w : World} (hargs : ArgsRel w c.ps vs as) (hlens : Lens c.ps ns as)
    (hlits : ∀ i x, look i lits = some x → ∀ a, as[i]? = some a → a = .i x)
    (hlen : (T c.f as).2.length = ls.length)
    (hpure : ∀ e, (∀ j a, (as ++ more)[j]? = some a → e j = a) → (∀ d ∈ g.defs, d.holds T e) → (∀ x ∈ g.known, x.holds T e) ∧ (∀ o ∈ g.obs, (o.ev e).bool = true) ∧
      semMany (c.rs.flatMap (·.2)) (T c.f as).2 = semMany (c.rs.flatMap (·.2)) (ls.map (L.ev e))) :
    Calls P c.f vs.toArray w fun en w' => ∃ u, en = .returned u ∧ ResRel c.rs (T c.f as).2 u ∧ Below w.heap.size w w' := by
  have lfe : ∀ (e : Nat → A), (∀ j a, as[j]? = some a → e j = a) → ∀ j a, as[j]? = some a → (lfOf lits (0 + j)).ev e = a := fun e he j a hj => by
    rw [Nat.zero_add]
    unfold lfOf
    split
    · rename_i x hx
      exact (hlits j x hx a hj).symm
    · exact he j a hj
  have hk : k = as.length := by
    have := (par_sound (e := fun i => as.getD i (.i 0)) hpar hargs hlens (lfe _ fun j a hj => by simp [hj])).1
    omega
  have hev0 : ∀ j a, (as ++ more)[j]? = some a → envOf T (fun i => (as ++ more).getD i (.i 0)) g.defs j = a := fun j a hj => by
    rw [envOf_below hbase j (by have := lt_of_get hj; rw [List.length_append] at this; omega)]
    simp [hj]
  have hev := lfe _ (fun j a hj => hev0 j a (by rw [List.getElem?_append_left (lt_of_get hj)]; exact hj))
  have hd := defs_hold hws (fun i => (as ++ more).getD i (.i 0)) hdefs
  obtain ⟨hkn, hobs, hres⟩ := hpure _ hev0 hd
  have hg : Good T (envOf T (fun i => (as ++ more).getD i (.i 0)) g.defs) g := ⟨hd, hobs, hkn⟩
  obtain ⟨_, locs, l1, l2⟩ := par_sound hpar hargs hlens hev
  obtain ⟨m1, m2⟩ := l2 (fun i => locs.getD i default) rows.length (fun i x hx => by simp [hx]) (by omega)
  have hrows : RowsOK (envOf T (fun i => (as ++ more).getD i (.i 0)) g.defs) (fun i => locs.getD i default) rows w w.heap.size :=
    ⟨fun r x hx => by have := (m2 r x hx).2; rwa [Nat.zero_add] at this, fun r s x y hx _ ox => by rw [(m2 r x hx).1] at ox; cases ox⟩
  refine (run_calls hX hrun hg m1 hrows).mono ?_
  rintro en w' ⟨u, rfl, ⟨loc', hv⟩, hb⟩
  exact ⟨u, rfl, flatSV_sound hls hv hlen hres, hb⟩
end
end Rx
namespace Rx
open Go Go.RowKit
section
variable {T : Nat → List A → Bool × List A} {e : Nat → A}
theorem holds_one {b : Nat} {d : D} {args : List L} {x : A} (h : d.ev T (args.map (L.ev e)) = [x]) : Def.holds T e ⟨b, d, args⟩ ↔ e b = x := by
  unfold Def.holds
  simp only [h]
  constructor
  · intro hh
    simpa using hh 0 x rfl
  · intro hh j a ha
    cases j with
    | zero => simp at ha; subst ha; simpa using hh
    | succ j => simp at ha
theorem holds_ar {b op k x y} : Def.holds T e ⟨b, .ar op k, [x, y]⟩ ↔ e b = .i (arI op k (x.ev e).int (y.ev e).int) := holds_one rfl
theorem holds_dv {b op k x y} : Def.holds T e ⟨b, .dv op k, [x, y]⟩ ↔ e b = .i (dvI op k (x.ev e).int (y.ev e).int) := holds_one rfl
theorem holds_bt {b op k x y} : Def.holds T e ⟨b, .bt op k, [x, y]⟩ ↔ e b = .i (btI op k (x.ev e).int (y.ev e).int) := holds_one rfl
theorem holds_cmp {b op x y} : Def.holds T e ⟨b, .cmp op, [x, y]⟩ ↔ e b = .b (cmpI op (x.ev e).int (y.ev e).int) := holds_one rfl
theorem holds_conv {b k x} : Def.holds T e ⟨b, .conv k, [x]⟩ ↔ e b = .i (k.wrap (x.ev e).int) := holds_one rfl
theorem holds_neg {b k x} : Def.holds T e ⟨b, .neg k, [x]⟩ ↔ e b = .i (k.wrap (0 - (x.ev e).int)) := holds_one rfl
theorem holds_not {b x} : Def.holds T e ⟨b, .not, [x]⟩ ↔ e b = .b (!(x.ev e).bool) := holds_one rfl
theorem holds_and {b x y} : Def.holds T e ⟨b, .and, [x, y]⟩ ↔ e b = .b ((x.ev e).bool && (y.ev e).bool) := holds_one rfl
theorem holds_or {b x y} : Def.holds T e ⟨b, .or, [x, y]⟩ ↔ e b = .b ((x.ev e).bool || (y.ev e).bool) := holds_one rfl
theorem holds_imp {b x y} : Def.holds T e ⟨b, .imp, [x, y]⟩ ↔ e b = .b (!(x.ev e).bool || (y.ev e).bool) := holds_one rfl
theorem holds_iteI {b x y z} : Def.holds T e ⟨b, .iteI, [x, y, z]⟩ ↔ e b = .i (if (x.ev e).bool then (y.ev e).int else (z.ev e).int) := holds_one rfl
theorem holds_iteB {b x y z} : Def.holds T e ⟨b, .iteB, [x, y, z]⟩ ↔ e b = .b (if (x.ev e).bool then (y.ev e).bool else (z.ev e).bool) := holds_one rfl
theorem holds_iteV {b x y z} : Def.holds T e ⟨b, .iteV, [x, y, z]⟩ ↔ e b = .v (if (x.ev e).bool then (y.ev e).val else (z.ev e).val) := holds_one rfl
theorem holds_eqB {b x y} : Def.holds T e ⟨b, .eqB, [x, y]⟩ ↔ e b = .b ((x.ev e).bool == (y.ev e).bool) := holds_one rfl
theorem holds_eqS {b x y} : Def.holds T e ⟨b, .eqS, [x, y]⟩ ↔ e b = .b ((x.ev e).str == (y.ev e).str) := holds_one rfl
theorem holds_mn {b x y} : Def.holds T e ⟨b, .mn, [x, y]⟩ ↔ e b = .i (if (y.ev e).int < (x.ev e).int then (y.ev e).int else (x.ev e).int) := holds_one rfl
theorem holds_mx {b x y} : Def.holds T e ⟨b, .mx, [x, y]⟩ ↔ e b = .i (if (x.ev e).int < (y.ev e).int then (y.ev e).int else (x.ev e).int) := holds_one rfl
theorem holds_len {b x} : Def.holds T e ⟨b, .len, [x]⟩ ↔ e b = .i (lenV (x.ev e).val) := holds_one rfl
theorem holds_slen {b x} : Def.holds T e ⟨b, .slen, [x]⟩ ↔ e b = .i ((x.ev e).str.size : Int) := holds_one rfl
theorem holds_sel {b x l} : Def.holds T e ⟨b, .sel, x :: l⟩ ↔ e b = (l.map (L.ev e))[(x.ev e).int.toNat]?.getD (.i 0) := holds_one rfl
end
end Rx
namespace Rx
open Go Go.RowKit
inductive LS where
  | s (x : Srt) | sl (t e : Nat)
def LS.srt : LS → Srt
  | .s x => x
  | .sl .. => .val
def flatFs (F : Nat → Option (List LS)) (tys : List (Nat × Ty)) : List (Nat × Nat) → Nat → Option (List LS)
  | [], _ => some []
  | (t, off) :: l, o => do
    let ty ← look t tys
    let a ← F t
    if off == o && a.length == ty.size then let r ← flatFs F tys l (o + ty.size); some (a ++ r) else none
def flatT (tys : List (Nat × Ty)) : Nat → Nat → Option (List LS)
  | 0, _ => none
  | n + 1, t => do
    let ty ← look t tys
    match ty.kind with
    | .int k => some [.s (.int k)]
    | .bool => some [.s .bool]
    | .string => some [.s .str]
    | .slice e => some [.sl t e]
    | .arr m e => do
      let te ← look e tys
      let l ← flatFs (flatT tys n) tys ((List.range m).map fun i => (e, i * te.size)) 0
      if l.length == ty.size then some l else none
    | .struct fs => do
      let l ← flatFs (flatT tys n) tys fs 0
      if l.length == ty.size then some l else none
    | _ => none
section
variable {H : Type} {enc : TypeId × Value → H} {P : Program} {w : World} {base : Nat} {spare : Nat → Bool} {held : Bool}
def LeafOK {H : Type} (enc : TypeId × Value → H) (P : Program) (w : World) (base : Nat) (spare : Nat → Bool) (held : Bool) : LS → A → Prop
  | .s (.int k), a => k.min ≤ a.int ∧ a.int ≤ k.max
  | .s .str, a => a.str.size ≤ maxLen
  | .s _, _ => True
  | .sl t _, a => ∃ fuel x, DataW.trod enc P w base spare held fuel t [sliceV a.val] = some x
def LeavesOK {H : Type} (enc : TypeId × Value → H) (P : Program) (w : World) (base : Nat) (spare : Nat → Bool) (held : Bool) : List LS → List A → Prop
  | [], as => as = []
  | s :: ss, as => ∃ a r, as = a :: r ∧ LeafOK enc P w base spare held s a ∧ LeavesOK enc P w base spare held ss r
theorem LeavesOK_append : ∀ {s1 s2 : List LS} {a1 a2 : List A}, LeavesOK enc P w base spare held s1 a1 → LeavesOK enc P w base spare held s2 a2 → LeavesOK enc P w base spare held (s1 ++ s2) (a1 ++ a2)
  | [], _, _, _, h1, h2 => by
    rw [show _ = ([] : List A) from h1]
    exact h2
  | s :: s1, s2, a1, a2, h1, h2 => by
    obtain ⟨a, r, rfl, h3, h4⟩ := h1
    exact ⟨a, r ++ a2, rfl, h3, LeavesOK_append h4 h2⟩
theorem LeavesOK_len : ∀ {ss : List LS} {as : List A}, LeavesOK enc P w base spare held ss as → as.length = ss.length
  | [], _, h => by rw [show _ = ([] : List A) from h]; rfl
  | s :: ss, as, h => by
    obtain ⟨a, r, rfl, _, h⟩ := h
    simp [LeavesOK_len h]
theorem flatFs_open {tys : List (Nat × Ty)} (hX : TysOK P tys) {n : Nat} {F : Nat → Option (List LS)}
    (hF : ∀ t ss, F t = some ss → ∀ fuel cs x, DataW.trod enc P w base spare held fuel t cs = some x → ∃ as, LeavesOK enc P w base spare held ss as ∧ cs = semMany (ss.map LS.srt) as) (cs : List Value) :
    ∀ (fl : List (Nat × Nat)) (o : Nat) (ss : List LS), flatFs F tys fl o = some ss → (∀ f ∈ fl, ∃ y, DataW.trod enc P w base spare held n f.1 ((cs.drop f.2).take (P.cellsOf f.1)) = some y) →
      ∃ as, LeavesOK enc P w base spare held ss as ∧ (cs.drop o).take ss.length = semMany (ss.map LS.srt) as
  | [], o, ss, h, _ => by
    simp only [flatFs, Option.some.injEq] at h
    subst h
    exact ⟨[], rfl, by simp [semMany]⟩
  | (t, off) :: fl, o, ss, h, hf => by
    simp only [flatFs, Option.bind_eq_bind, Option.bind_eq_some_iff] at h
    obtain ⟨ty, hty, a, ha, h⟩ := h
    split at h
    · rename_i hc
      simp only [Bool.and_eq_true, beq_iff_eq] at hc
      obtain ⟨rfl, hlen⟩ := hc
      simp only [Option.bind_eq_some_iff, Option.some.injEq] at h
      obtain ⟨r, hr, rfl⟩ := h
      obtain ⟨y, hy⟩ := hf (t, off) (by simp)
      simp only at hy
      have hsz : P.cellsOf t = ty.size := by
        obtain ⟨i, z, h1, h2, _⟩ := (hX t ty hty).info
        rw [Program.cellsOf, h1]
        exact h2
      obtain ⟨as1, h1, h2⟩ := hF t a ha n _ y hy
      obtain ⟨as2, h3, h4⟩ := flatFs_open hX hF cs fl (off + ty.size) r hr (fun f hf' => hf f (by simp [hf']))
      refine ⟨as1 ++ as2, LeavesOK_append h1 h3, ?_⟩
      rw [List.length_append, List.take_add, List.drop_drop, hlen, h4, List.map_append, semMany_append (by rw [List.length_map, LeavesOK_len h1]), ← h2, hsz]
    · cases h
theorem flatT_open {tys : List (Nat × Ty)} (hX : TysOK P tys) : ∀ (n t : Nat) (ss : List LS), flatT tys n t = some ss → ∀ (fuel : Nat) (cs : List Value) (x : DataW H × List MemPlace), DataW.trod enc P w base spare held fuel t cs = some x →
    ∃ as, LeavesOK enc P w base spare held ss as ∧ cs = semMany (ss.map LS.srt) as
  | 0, t, ss, h => by simp [flatT] at h
  | n + 1, t, ss, h => fun fuel cs x hx => by
    simp only [flatT, Option.bind_eq_bind, Option.bind_eq_some_iff] at h
    obtain ⟨ty, hty, h⟩ := h
    have hT := hX t ty hty
    obtain ⟨d, hd, hk⟩ := hT.kind
    have hsz : P.cellsOf t = ty.size := by
      obtain ⟨i, z, h1, h2, _⟩ := hT.info
      rw [Program.cellsOf, h1]
      exact h2
    split at h
    · rename_i k hkk
      injection h with h
      subst h
      rw [hkk] at hk
      cases d <;> simp only [TK.okB, Bool.false_eq_true] at hk
      rw [← kindSame_eq hk] at hd
      obtain ⟨m, rfl, _, hw⟩ := DataW.trod_int hd hx
      simp only [Lit.wf, Bool.and_eq_true, decide_eq_true_eq] at hw
      exact ⟨[.i m], ⟨_, _, rfl, hw, rfl⟩, rfl⟩
    · rename_i hkk
      injection h with h
      subst h
      rw [hkk] at hk
      cases d <;> simp only [TK.okB, Bool.false_eq_true] at hk
      obtain ⟨m, rfl, _⟩ := DataW.trod_bool hd hx
      exact ⟨[.b m], ⟨_, _, rfl, trivial, rfl⟩, rfl⟩
    · rename_i hkk
      injection h with h
      subst h
      rw [hkk] at hk
      cases d <;> simp only [TK.okB, Bool.false_eq_true] at hk
      obtain ⟨m, rfl, _, hl⟩ := DataW.trod_string hd hx
      exact ⟨[.v (.string m)], ⟨_, _, rfl, hl, rfl⟩, rfl⟩
    · rename_i e hkk
      injection h with h
      subst h
      rw [hkk] at hk
      cases d <;> simp only [TK.okB, Bool.false_eq_true] at hk
      rcases DataW.trod_slice hd hx with ⟨rfl, _⟩ | ⟨a, len, cap, _, _, _, _, rfl, _⟩
      · exact ⟨[.v (.slice none 0 0)], ⟨_, _, rfl, ⟨fuel, x, hx⟩, rfl⟩, rfl⟩
      · exact ⟨[.v (.slice (some a) len cap)], ⟨_, _, rfl, ⟨fuel, x, hx⟩, rfl⟩, rfl⟩
    · rename_i m e hkk
      simp only [Option.bind_eq_some_iff] at h
      obtain ⟨te, hte, l, hl, h⟩ := h
      split at h
      · rename_i hlen
        have hlen : l.length = ty.size := by simpa using hlen
        injection h with h
        subst h
        rw [hkk] at hk
        cases d <;> simp only [TK.okB, Bool.false_eq_true, Bool.and_eq_true, beq_iff_eq] at hk
        obtain ⟨rfl, rfl⟩ := hk
        obtain ⟨xs, q, rfl, _, hcl, hxl, hel⟩ := DataW.trod_array hd hx
        have hse : P.cellsOf e = te.size := by
          obtain ⟨i, z, h1, h2, _⟩ := (hX e te hte).info
          rw [Program.cellsOf, h1]
          exact h2
        obtain ⟨as, h1, h2⟩ := flatFs_open (n := q) hX (fun t ss h => flatT_open hX n t ss h) cs _ 0 l hl (fun f hf => by
          obtain ⟨i, hi, rfl⟩ := List.mem_map.1 hf
          have hi : i < m := by simpa using hi
          refine ⟨xs[i]'(by omega), ?_⟩
          have := hel i hi
          simp only [hse] at this ⊢
          rw [this]
          simp)
        refine ⟨as, h1, ?_⟩
        rw [← h2, List.drop_zero, List.take_of_length_le (by omega)]
      · cases h
    · rename_i fs hkk
      simp only [Option.bind_eq_some_iff] at h
      obtain ⟨l, hl, h⟩ := h
      split at h
      · rename_i hlen
        have hlen : l.length = ty.size := by simpa using hlen
        injection h with h
        subst h
        rw [hkk] at hk
        cases d <;> simp only [TK.okB, Bool.false_eq_true] at hk
        rename_i gs
        have hfs := sameFs_eq hk
        subst hfs
        obtain ⟨xs, q, rfl, _, hcl, hxl, hel⟩ := DataW.trod_struct hd hx
        obtain ⟨as, h1, h2⟩ := flatFs_open (n := q) hX (fun t ss h => flatT_open hX n t ss h) cs _ 0 l hl (fun f hf => by
          obtain ⟨fd, hfd, rfl⟩ := List.mem_map.1 hf
          obtain ⟨i, hi, hi2⟩ := List.getElem_of_mem hfd
          have hi' : i < gs.size := by simpa using hi
          refine ⟨xs[i]'(by omega), ?_⟩
          have := hel i fd (by rw [← hi2]; simp [hi'])
          rw [this]
          simp)
        refine ⟨as, h1, ?_⟩
        rw [← h2, List.drop_zero, List.take_of_length_le (by omega)]
      · cases h
    · cases h
theorem open_arg {tys : List (Nat × Ty)} (hX : TysOK P tys) {r : Reach} {b0 n t : Nat} {ty : Ty} {ss : List LS} {v : Value} {d : DataW H} {p : List MemPlace} (hty : look t tys = some ty) (hs : flatT tys n t = some ss)
    (hval : Value.okWide P w r b0 t v) (h : DataW.Trod enc P w base spare held t v d p) :
    ∃ as, LeavesOK enc P w base spare held ss as ∧ OneArg w (.c ty.kind.agg (ss.map LS.srt)) v as := by
  obtain ⟨fuel, hx⟩ := h
  obtain ⟨as, h1, h2⟩ := flatT_open hX n t ss hs fuel _ _ hx
  obtain ⟨dd, hd, hk⟩ := (hX t ty hty).kind
  refine ⟨as, h1, by rw [List.length_map, LeavesOK_len h1], ?_⟩
  have hagg : ty.kind.agg = true → ∃ cs, v = .agg cs := by
    intro ha
    cases hkk : ty.kind <;> rw [hkk] at ha hk <;> simp [TK.agg] at ha
    all_goals
      cases dd <;> simp [TK.okB] at hk
      simp only [Value.okWide, hd] at hval
      obtain ⟨cs, h1, _⟩ := hval
      exact ⟨cs, h1⟩
  split
  · rename_i ha
    obtain ⟨cs, rfl⟩ := hagg ha
    simp only [Value.cells] at h2
    rw [← h2]
  · rename_i ha
    have h1' : ss.length = 1 := by
      cases n with
      | zero => simp [flatT] at hs
      | succ n =>
        simp only [flatT, hty, Option.bind_eq_bind, Option.bind_some] at hs
        split at hs
        · injection hs with hs; subst hs; rfl
        · injection hs with hs; subst hs; rfl
        · injection hs with hs; subst hs; rfl
        · injection hs with hs; subst hs; rfl
        · rename_i hkk; rw [hkk] at ha; simp [TK.agg] at ha
        · rename_i hkk; rw [hkk] at ha; simp [TK.agg] at ha
        · cases hs
    obtain ⟨s, rfl⟩ : ∃ s, ss = [s] := by
      match ss, h1' with
      | [s], _ => exact ⟨s, rfl⟩
    obtain ⟨a, rr, rfl, h3, hr⟩ := h1
    rw [show rr = [] from hr] at h2 ⊢
    refine ⟨s.srt, a, rfl, rfl, ?_⟩
    simp only [List.map_cons, List.map_nil, semMany] at h2
    have hnot : ∀ cs, v ≠ .agg cs := by
      rintro cs rfl
      cases n with
      | zero => simp [flatT] at hs
      | succ n =>
        simp only [flatT, hty, Option.bind_eq_bind, Option.bind_some] at hs
        cases hkk : ty.kind <;> rw [hkk] at hs hk ha <;> simp [TK.agg] at ha <;> simp at hs <;> cases dd <;> simp [TK.okB] at hk <;>
          simp [Value.okWide, hd, Cell.okWide, Cell.ok] at hval
    cases v <;> first | (exact absurd rfl (hnot _)) | (simpa [Value.cells] using h2)
end
end Rx
namespace Rx
open Go Go.RowKit
def gi (as : List A) (i : Nat) : Int := (as.getD i (.i 0)).int
def gb (as : List A) (i : Nat) : Bool := (as.getD i (.i 0)).bool
def gs (as : List A) (i : Nat) : ByteArray := (as.getD i (.i 0)).str
def gv (as : List A) (i : Nat) : Value := (as.getD i (.i 0)).val
def tab (l : List (Nat × (List A → Bool × List A))) (f : Nat) (as : List A) : Bool × List A :=
  match look f l with
  | some t => t as
  | none => (false, [])
def FnOK (P : Program) (f : Nat) (fn : Func) : Prop := P.funcs[f]? = some fn ∧ (fn.name == "runtime.NumGoroutine") = false ∧ fn.body.isSome = true
def FnsAll (P : Program) : List (Nat × Func) → Prop
  | [] => True
  | x :: l => FnOK P x.1 x.2 ∧ FnsAll P l
def needLit (i : Nat) (ls : List (Option Int)) : Bool := match ls[i]? with | some (some _) => true | _ => false
section
variable {T : Nat → List A → Bool × List A} {e : Nat → A} {P : Program}
theorem fnsOK_of {l : List (Nat × Func)} (h : FnsAll P l) : FnsOK P (fun f => look f l) := fun f fn hf => by
  induction l with
  | nil => cases hf
  | cons x l ih =>
    simp only [look] at hf
    split at hf
    · rename_i hx
      injection hf with hf
      have hx : x.1 = f := by simpa using hx
      subst hx
      subst hf
      exact h.1
    · exact ih h.2 hf
theorem q_ar {b op k x y} (h : Def.holds T e ⟨b, .ar op k, [x, y]⟩) : (e b).int = arI op k (x.ev e).int (y.ev e).int := by rw [holds_ar.1 h]; rfl
theorem q_dv {b op k x y} (h : Def.holds T e ⟨b, .dv op k, [x, y]⟩) : (e b).int = dvI op k (x.ev e).int (y.ev e).int := by rw [holds_dv.1 h]; rfl
theorem q_bt {b op k x y} (h : Def.holds T e ⟨b, .bt op k, [x, y]⟩) : (e b).int = btI op k (x.ev e).int (y.ev e).int := by rw [holds_bt.1 h]; rfl
theorem q_cmp {b op x y} (h : Def.holds T e ⟨b, .cmp op, [x, y]⟩) : (e b).bool = cmpI op (x.ev e).int (y.ev e).int := by rw [holds_cmp.1 h]; rfl
theorem q_conv {b k x} (h : Def.holds T e ⟨b, .conv k, [x]⟩) : (e b).int = k.wrap (x.ev e).int := by rw [holds_conv.1 h]; rfl
theorem q_neg {b k x} (h : Def.holds T e ⟨b, .neg k, [x]⟩) : (e b).int = k.wrap (0 - (x.ev e).int) := by rw [holds_neg.1 h]; rfl
theorem q_not {b x} (h : Def.holds T e ⟨b, .not, [x]⟩) : (e b).bool = !(x.ev e).bool := by rw [holds_not.1 h]; rfl
theorem q_and {b x y} (h : Def.holds T e ⟨b, .and, [x, y]⟩) : (e b).bool = ((x.ev e).bool && (y.ev e).bool) := by rw [holds_and.1 h]; rfl
theorem q_or {b x y} (h : Def.holds T e ⟨b, .or, [x, y]⟩) : (e b).bool = ((x.ev e).bool || (y.ev e).bool) := by rw [holds_or.1 h]; rfl
theorem q_imp {b x y} (h : Def.holds T e ⟨b, .imp, [x, y]⟩) : (e b).bool = (!(x.ev e).bool || (y.ev e).bool) := by rw [holds_imp.1 h]; rfl
theorem q_iteI {b x y z} (h : Def.holds T e ⟨b, .iteI, [x, y, z]⟩) : (e b).int = (if (x.ev e).bool then (y.ev e).int else (z.ev e).int) := by rw [holds_iteI.1 h]; rfl
theorem q_iteB {b x y z} (h : Def.holds T e ⟨b, .iteB, [x, y, z]⟩) : (e b).bool = (if (x.ev e).bool then (y.ev e).bool else (z.ev e).bool) := by rw [holds_iteB.1 h]; rfl
theorem q_iteV {b x y z} (h : Def.holds T e ⟨b, .iteV, [x, y, z]⟩) : (e b).val = (if (x.ev e).bool then (y.ev e).val else (z.ev e).val) := by rw [holds_iteV.1 h]; rfl
theorem q_iteS {b x y z} (h : Def.holds T e ⟨b, .iteV, [x, y, z]⟩) : (e b).str = (if (x.ev e).bool then (y.ev e).str else (z.ev e).str) := by
  rw [holds_iteV.1 h]
  unfold A.str
  simp only [A.val_v]
  split <;> rfl
theorem q_eqB {b x y} (h : Def.holds T e ⟨b, .eqB, [x, y]⟩) : (e b).bool = ((x.ev e).bool == (y.ev e).bool) := by rw [holds_eqB.1 h]; rfl
theorem q_eqS {b x y} (h : Def.holds T e ⟨b, .eqS, [x, y]⟩) : (e b).bool = ((x.ev e).str == (y.ev e).str) := by rw [holds_eqS.1 h]; rfl
theorem q_mn {b x y} (h : Def.holds T e ⟨b, .mn, [x, y]⟩) : (e b).int = (if (y.ev e).int < (x.ev e).int then (y.ev e).int else (x.ev e).int) := by rw [holds_mn.1 h]; rfl
theorem q_mx {b x y} (h : Def.holds T e ⟨b, .mx, [x, y]⟩) : (e b).int = (if (x.ev e).int < (y.ev e).int then (y.ev e).int else (x.ev e).int) := by rw [holds_mx.1 h]; rfl
theorem q_len {b x} (h : Def.holds T e ⟨b, .len, [x]⟩) : (e b).int = lenV (x.ev e).val := by rw [holds_len.1 h]; rfl
theorem q_slen {b x} (h : Def.holds T e ⟨b, .slen, [x]⟩) : (e b).int = ((x.ev e).str.size : Int) := by rw [holds_slen.1 h]; rfl
theorem getD_int (l : List L) (i : Nat) : ((l.map (L.ev e))[i]?.getD (.i 0)).int = (l.map fun a => (a.ev e).int).getD i 0 := by
  rw [List.getD, List.getElem?_map, List.getElem?_map]
  cases l[i]? <;> rfl
theorem getD_bool (l : List L) (i : Nat) : ((l.map (L.ev e))[i]?.getD (.i 0)).bool = (l.map fun a => (a.ev e).bool).getD i false := by
  rw [List.getD, List.getElem?_map, List.getElem?_map]
  cases l[i]? <;> rfl
theorem q_selI {b x l} (h : Def.holds T e ⟨b, .sel, x :: l⟩) : (e b).int = (l.map fun a => (a.ev e).int).getD (x.ev e).int.toNat 0 := by rw [holds_sel.1 h]; exact getD_int _ _
theorem q_selB {b x l} (h : Def.holds T e ⟨b, .sel, x :: l⟩) : (e b).bool = (l.map fun a => (a.ev e).bool).getD (x.ev e).int.toNat false := by rw [holds_sel.1 h]; exact getD_bool _ _
theorem upd_at {b x y l j a} (h : Def.holds T e ⟨b, .upd, x :: y :: l⟩) (ha : l[j]? = some a) : e (b + j) = if (x.ev e).int.toNat = j then y.ev e else a.ev e := by
  have hj : j < l.length := lt_of_get ha
  refine h j _ ?_
  show ((l.map (L.ev e)).set _ _)[j]? = _
  rw [List.getElem?_set]
  split
  · rename_i hx
    rw [if_pos (by simpa [hx] using hj)]
  · rename_i hx
    rw [List.getElem?_map, ha]
    rfl
theorem q_updI {b x y l} (j : Nat) {a} (h : Def.holds T e ⟨b, .upd, x :: y :: l⟩) (ha : l[j]? = some a) : (e (b + j)).int = if (x.ev e).int.toNat = j then (y.ev e).int else (a.ev e).int := by
  rw [upd_at h ha]; split <;> rfl
theorem q_updB {b x y l} (j : Nat) {a} (h : Def.holds T e ⟨b, .upd, x :: y :: l⟩) (ha : l[j]? = some a) : (e (b + j)).bool = if (x.ev e).int.toNat = j then (y.ev e).bool else (a.ev e).bool := by
  rw [upd_at h ha]; split <;> rfl
theorem q_pre {b f args} {t : List A → Bool × List A} (ht : T f = t) (h : Def.holds T e ⟨b, .call f, args⟩) : (e b).bool = (t (args.map (L.ev e))).1 := by
  have := h 0 (.b (T f (args.map (L.ev e))).1) rfl
  rw [ht, Nat.add_zero] at this
  rw [this]
  rfl
theorem q_out {b f args} {t : List A → Bool × List A} (ht : T f = t) (j : Nat) {a : A} (h : Def.holds T e ⟨b, .call f, args⟩) (ha : (t (args.map (L.ev e))).2[j]? = some a) : e (b + (j + 1)) = a := by
  refine h (j + 1) a ?_
  show (_ :: (T f (args.map (L.ev e))).2)[j + 1]? = _
  rw [List.getElem?_cons_succ, ht]
  exact ha
theorem q_outI {b f args} {t : List A → Bool × List A} (ht : T f = t) (j : Nat) {n : Int} (h : Def.holds T e ⟨b, .call f, args⟩) (ha : (t (args.map (L.ev e))).2[j]? = some (.i n)) : (e (b + (j + 1))).int = n := by rw [q_out ht j h ha]; rfl
theorem q_outB {b f args} {t : List A → Bool × List A} (ht : T f = t) (j : Nat) {n : Bool} (h : Def.holds T e ⟨b, .call f, args⟩) (ha : (t (args.map (L.ev e))).2[j]? = some (.b n)) : (e (b + (j + 1))).bool = n := by rw [q_out ht j h ha]; rfl
theorem q_outS {b f args} {t : List A → Bool × List A} (ht : T f = t) (j : Nat) {n : ByteArray} (h : Def.holds T e ⟨b, .call f, args⟩) (ha : (t (args.map (L.ev e))).2[j]? = some (.v (.string n))) : (e (b + (j + 1))).str = n := by rw [q_out ht j h ha]; rfl
theorem q_outV {b f args} {t : List A → Bool × List A} (ht : T f = t) (j : Nat) {n : Value} (h : Def.holds T e ⟨b, .call f, args⟩) (ha : (t (args.map (L.ev e))).2[j]? = some (.v n)) : (e (b + (j + 1))).val = n := by rw [q_out ht j h ha]; rfl
def AllHold (T : Nat → List A → Bool × List A) (e : Nat → A) : List Def → Prop
  | [] => True
  | d :: l => d.holds T e ∧ AllHold T e l
theorem allHold_of : ∀ {l : List Def}, (∀ d ∈ l, d.holds T e) → AllHold T e l
  | [], _ => trivial
  | d :: l, h => ⟨h d (by simp), allHold_of fun x hx => h x (by simp [hx])⟩
theorem at_e {as more : List A} (he : ∀ j a, (as ++ more)[j]? = some a → e j = a) {i : Nat} (hi : i < as.length) : as.getD i (.i 0) = e i := by
  have h1 : (as ++ more)[i]? = some as[i] := by rw [List.getElem?_append_left hi]; simp
  rw [he i _ h1]
  simp [hi]
theorem gi_e {as more : List A} (he : ∀ j a, (as ++ more)[j]? = some a → e j = a) {i : Nat} (hi : i < as.length) : gi as i = (e i).int := by rw [gi, at_e he hi]
theorem gb_e {as more : List A} (he : ∀ j a, (as ++ more)[j]? = some a → e j = a) {i : Nat} (hi : i < as.length) : gb as i = (e i).bool := by rw [gb, at_e he hi]
theorem gs_e {as more : List A} (he : ∀ j a, (as ++ more)[j]? = some a → e j = a) {i : Nat} (hi : i < as.length) : gs as i = (e i).str := by rw [gs, at_e he hi]
theorem gv_e {as more : List A} (he : ∀ j a, (as ++ more)[j]? = some a → e j = a) {i : Nat} (hi : i < as.length) : gv as i = (e i).val := by rw [gv, at_e he hi]
def flatPS : PS → Bool
  | .slc _ => false
  | _ => true
def widthPS : PS → Nat
  | .c _ l => l.length
  | _ => 0
theorem args_flat {w : World} : ∀ {ps : List PS} {vs : List Value} {as : List A}, ArgsRel w ps vs as → ps.all flatPS = true → Lens ps [] as ∧ as.length = (ps.map widthPS).sum
  | [], vs, as, h, _ => by rw [h.2]; exact ⟨⟨rfl, rfl⟩, rfl⟩
  | p :: ps, vs, as, h, hp => by
    obtain ⟨v, vr, a1, a2, rfl, rfl, h1, h2⟩ := h
    simp only [List.all_cons, Bool.and_eq_true] at hp
    obtain ⟨k1, k2⟩ := args_flat h2 hp.2
    cases p with
    | c agg ss => exact ⟨⟨a1, a2, rfl, h1.1, k1⟩, by simp [widthPS, h1.1, k2]⟩
    | slc ss => simp [flatPS] at hp
    | nil =>
      obtain ⟨_, rfl⟩ := h1
      exact ⟨k1, by simpa [widthPS] using k2⟩
theorem agree_at {lits : List (Option Int)} {as : List A} (h : Agree lits as) {i : Nat} (hl : needLit i lits = true) : as[i]? = some (.i (gi as i)) := by
  unfold needLit at hl
  split at hl
  · rename_i x hx
    have hi : i < as.length := by rw [← h.1]; exact lt_of_get hx
    have := h.2 i x hx as[i] (by simp [hi])
    simp [gi, hi, this]
  · cases hl
theorem lit_one {as : List A} {i : Nat} {n : Int} (h : as[i]? = some (.i (gi as i))) (hn : gi as i = n) : ∀ j x, look j [(i, n)] = some x → ∀ a, as[j]? = some a → a = .i x := by
  intro j x hj a ha
  unfold look at hj
  split at hj
  · rename_i hij
    have hij : i = j := by simpa using hij
    subst hij
    injection hj with hj
    subst hj
    rw [h] at ha
    injection ha with ha
    rw [← ha, hn]
  · cases hj
theorem lit_none {as : List A} : ∀ j x, look j ([] : List (Nat × Int)) = some x → ∀ a, as[j]? = some a → a = .i x := fun j x h => by cases h
theorem semI {k : IntKind} {ss : List Srt} {a b : A} {as bs : List A} (h : a.int = b.int) (hr : semMany ss as = semMany ss bs) : semMany (.int k :: ss) (a :: as) = semMany (.int k :: ss) (b :: bs) := by
  simp only [semMany, Srt.sem, h, hr]
theorem semB {ss : List Srt} {a b : A} {as bs : List A} (h : a.bool = b.bool) (hr : semMany ss as = semMany ss bs) : semMany (.bool :: ss) (a :: as) = semMany (.bool :: ss) (b :: bs) := by
  simp only [semMany, Srt.sem, h, hr]
theorem semS {ss : List Srt} {a b : A} {as bs : List A} (h : a.str = b.str) (hr : semMany ss as = semMany ss bs) : semMany (.str :: ss) (a :: as) = semMany (.str :: ss) (b :: bs) := by
  simp only [semMany, Srt.sem, h, hr]
theorem wrap64 {x : Int} (h1 : -9223372036854775808 ≤ x) (h2 : x ≤ 9223372036854775807) : IntKind.wrap .i64 x = x := by
  simp only [IntKind.wrap, IntKind.signed, IntKind.bits]
  simp
  omega
end
end Rx
namespace Rx
open Go Go.RowKit
section
variable {T : Nat → List A → Bool × List A} {e : Nat → A} {P : Program}
def CtrsAll (P : Program) (T : Nat → List A → Bool × List A) : List (Nat × Ctr) → Prop
  | [] => True
  | x :: l => (x.2.f = x.1 ∧ CtrOK P T x.2) ∧ CtrsAll P T l
theorem ctrsOK_of : ∀ {l : List (Nat × Ctr)}, CtrsAll P T l → CtrsOK P T l
  | [], _ => fun x hx => by cases hx
  | y :: l, h => fun x hx => by
    rcases List.mem_cons.1 hx with rfl | hx
    · exact h.1
    · exact ctrsOK_of h.2 x hx
def ObsAll (e : Nat → A) : List L → Prop
  | [] => True
  | o :: l => (o.ev e).bool = true ∧ ObsAll e l
theorem obs_of : ∀ {l : List L}, ObsAll e l → ∀ o ∈ l, (o.ev e).bool = true
  | [], _ => fun x hx => by cases hx
  | y :: l, h => fun x hx => by
    rcases List.mem_cons.1 hx with rfl | hx
    · exact h.1
    · exact obs_of h.2 x hx
def KnownAll (T : Nat → List A → Bool × List A) (e : Nat → A) : List Known → Prop
  | [] => True
  | o :: l => o.holds T e ∧ KnownAll T e l
theorem knownAll_of : ∀ {l : List Known}, KnownAll T e l → ∀ o ∈ l, o.holds T e
  | [], _ => fun x hx => by cases hx
  | y :: l, h => fun x hx => by
    rcases List.mem_cons.1 hx with rfl | hx
    · exact h.1
    · exact knownAll_of h.2 x hx
theorem known_call {f : Nat} {args : List L} {res : List L} {t : List A → Bool × List A} (ht : T f = t) (h : .b (t (args.map (L.ev e))).1 :: (t (args.map (L.ev e))).2 = res.map (L.ev e)) : Known.holds T e ⟨.call f, args, res⟩ := by
  unfold Known.holds
  show A.b (T f (args.map (L.ev e))).1 :: (T f (args.map (L.ev e))).2 = _
  rw [ht]
  exact h
theorem known_cmp {op : BinOp} {x y : L} {b : Bool} (h : cmpI op (x.ev e).int (y.ev e).int = b) : Known.holds T e ⟨.cmp op, [x, y], [.t b]⟩ := by
  subst h
  rfl
theorem semV {ss : List Srt} {a b : A} {as bs : List A} (h : a.val = b.val) (hr : semMany ss as = semMany ss bs) : semMany (.val :: ss) (a :: as) = semMany (.val :: ss) (b :: bs) := by
  simp only [semMany, Srt.sem, h, hr]
end
end Rx
namespace Day
structure Fr where
  kind : Int
  id : Int
  deriving DecidableEq
structure ND where
  id : Int
  mode : Int
  count : Int
  pos : Int
  deriving DecidableEq
structure HB where
  ages : List Int
  port : Int
  age : Int
  hold : Int
  pos : Int
  deriving DecidableEq
def HB.a (h : HB) (p : Nat) : Int := h.ages.getD p 0
def right (n : Int) : Bool := decide (3 ≤ n) && decide (n ≤ 8)
def times (k n : Int) : Int := if right n then k * n else 0
def ownE (n i : Int) : Int := if right n then (if i < 0 ∨ n ≤ i then 2 else 0) else 1
def ownR (k n i : Int) : Int := if ownE n i = 0 then k * n + i + 1 else 0
def clampR (c least most : Int) : Int := if c < least then least else if most < c then most else c
def upR (c most : Int) : Int := if most ≤ max c 0 then most else max c 0 + 1
def downR (c : Int) : Int := if c ≤ 0 then 0 else c - 1
def modP (n : Int) : Bool := decide (1 ≤ n) && decide (n ≤ 8)
def modR (n x : Int) : Int := x % n
def slotP (n p : Int) : Bool := modP n && decide (0 ≤ p) && decide (p < n)
def nextR (n p : Int) : Int := (p + 1) % n
def atP (n p age : Int) : Bool := modP n && decide (0 ≤ p) && decide (p ≤ 8) && decide (0 ≤ age) && decide (age ≤ 1099511627776)
def atR (n p age : Int) : Int := (p + age) % n
def aheadP (n a b : Int) : Bool := slotP n a && slotP n b
def aheadR (n a b : Int) : Int := (b - a) % n
def rightN (n : Int) (x : ND) : Bool :=
  right n && decide (0 ≤ x.id) && decide (x.id < n) && decide (0 ≤ x.mode) && decide (x.mode ≤ 3) && decide (0 ≤ x.count) && decide (x.count ≤ 1073741824) &&
  (decide (x.mode ≠ 0) || decide (x.count = 0)) && (decide (x.mode = 3) || decide (x.pos = 0)) && decide (0 ≤ x.pos) && decide (x.pos < n)
def idE (n i : Int) : Int := if right n then (if i < 0 ∨ n ≤ i then 2 else 0) else 1
def noND : ND := ⟨0, 0, 0, 0⟩
def freshN (n i : Int) : ND := if idE n i = 0 then ⟨i, 0, 0, 0⟩ else noND
def cleanN (n i : Int) (x : ND) : ND :=
  if idE n i = 0 then
    ⟨i, if 1 ≤ x.mode ∧ x.mode ≤ 3 then x.mode else 1, clampR x.count 0 1073741824, if x.mode = 3 then x.pos % n else 0⟩
  else noND
def wakeN (x : ND) : ND := ⟨x.id, 1, 0, 0⟩
def waitR (n : Int) (x : ND) : Int := if x.mode = 1 then ownR 4 n x.id else ownR 2 n x.id
def dueR (n : Int) (x : ND) : Int :=
  if rightN n x then
    if x.mode = 3 then (x.id - x.pos) % n
    else if x.mode = 1 ∨ x.mode = 2 then max 0 (waitR n x - x.count)
    else -1
  else -1
def noFr : Fr := ⟨0, 0⟩
def ofE (n : Int) (x : ND) : Int := if rightN n x then 0 else 1
def ofR (n : Int) (x : ND) : Fr :=
  if rightN n x && decide (dueR n x = 0) then (if x.mode = 3 then ⟨2, x.id⟩ else ⟨1, x.id⟩) else noFr
def many (n c : Int) : Int := if c = 0 then 1 else if c = 1 then n else if c = 2 then 2 else 0
def rightF (n c w : Int) : Bool := right n && decide (0 ≤ w) && decide (w < many n c)
def cleanFE (n : Int) : Int := if right n then 0 else 1
def isN (c w i : Int) : Bool := decide (c = 1) && decide (w = i)
def isH (c w i : Int) : Bool := decide (c = 2) && decide (w = i)
end Day
namespace Day
def i64 (x : Int) : Bool := decide (-9223372036854775808 ≤ x) && decide (x ≤ 9223372036854775807)
def u8 (x : Int) : Bool := decide (0 ≤ x) && decide (x ≤ 255)
def u16 (x : Int) : Bool := decide (0 ≤ x) && decide (x ≤ 65535)
def u32 (x : Int) : Bool := decide (0 ≤ x) && decide (x ≤ 4294967295)
def sm (x : Int) : Bool := decide (-4611686018427387904 ≤ x) && decide (x ≤ 4611686018427387904)
def kOf (s : ByteArray) : Int :=
  let l := s.data.toList
  if l = [98, 108, 111, 99, 107] then 2 else if l = [119, 97, 116, 99, 104] then 8 else if l = [108, 97, 116, 101, 114] then 3 else if l = [115, 116, 97, 114, 116] then 40
  else if l = [115, 116, 97, 98, 108, 101] then 96 else if l = [108, 105, 115, 116, 101, 110] then 4 else if l = [99, 111, 108, 100] then 2 else 0
def timeP (s : ByteArray) : Bool := decide (kOf s ≠ 0)
def ND.i64 (x : ND) : Bool := Day.i64 x.id && Day.i64 x.mode && Day.i64 x.count && Day.i64 x.pos
end Day
namespace Day
theorem kOf_block : kOf ⟨([98, 108, 111, 99, 107] : List UInt8).toArray⟩ = 2 := by decide
theorem kOf_watch : kOf ⟨([119, 97, 116, 99, 104] : List UInt8).toArray⟩ = 8 := by decide
theorem kOf_later : kOf ⟨([108, 97, 116, 101, 114] : List UInt8).toArray⟩ = 3 := by decide
theorem kOf_start : kOf ⟨([115, 116, 97, 114, 116] : List UInt8).toArray⟩ = 40 := by decide
theorem kOf_stable : kOf ⟨([115, 116, 97, 98, 108, 101] : List UInt8).toArray⟩ = 96 := by decide
theorem kOf_listen : kOf ⟨([108, 105, 115, 116, 101, 110] : List UInt8).toArray⟩ = 4 := by decide
theorem kOf_cold : kOf ⟨([99, 111, 108, 100] : List UInt8).toArray⟩ = 2 := by decide
theorem kOf_range (s : ByteArray) : 0 ≤ kOf s ∧ kOf s ≤ 96 := by
  unfold kOf
  simp only
  split <;> (try split) <;> (try split) <;> (try split) <;> (try split) <;> (try split) <;> (try split) <;> omega
end Day
namespace Day
theorem sub_mod_zero {n a b : Int} (hn : 3 ≤ n ∧ n ≤ 8) (ha : 0 ≤ a ∧ a < n) (hb : 0 ≤ b ∧ b < n) : (a - b) % n = 0 ↔ a = b := by
  have hn2 : n = 3 ∨ n = 4 ∨ n = 5 ∨ n = 6 ∨ n = 7 ∨ n = 8 := by omega
  clear hn
  rcases hn2 with rfl | rfl | rfl | rfl | rfl | rfl <;> omega
theorem due0 {n : Int} {x : ND} (h : rightN n x = true) : (x.id - x.pos) % n = 0 ↔ x.id = x.pos := by
  simp only [rightN, right, Bool.and_eq_true, decide_eq_true_eq] at h
  exact sub_mod_zero (by omega) (by omega) (by omega)
theorem mod_range {n x : Int} (hn : 3 ≤ n ∧ n ≤ 8) : 0 ≤ x % n ∧ x % n < n ∧ (x % n) % n = x % n ∧ (0 ≤ x → x < n → x % n = x) :=
  ⟨Int.emod_nonneg _ (by omega), Int.emod_lt_of_pos _ (by omega), Int.emod_emod_of_dvd _ (Int.dvd_refl _), fun h1 h2 => Int.emod_eq_of_lt h1 h2⟩
theorem clean_law {n k : Int} (x : ND) (hn : 3 ≤ n ∧ n ≤ 8) (hk : 0 ≤ k ∧ k < n) : idE n k = 0 ∧ rightN n (cleanN n k x) = true ∧ (cleanN n k x).mode ≠ 0 ∧ (cleanN n k x).id = k ∧ cleanN n k (cleanN n k x) = cleanN n k x ∧
    (rightN n x = true → x.mode ≠ 0 → x.id = k → cleanN n k x = x) ∧ rightN n (wakeN (cleanN n k x)) = true ∧ (cleanN n k x).i64 = true := by
  have he : idE n k = 0 := by simp [idE, right]; omega
  obtain ⟨i, m, c, p⟩ := x
  have hp := mod_range (x := p) hn
  simp only [rightN, cleanN, he, wakeN, right, clampR, ND.i64, i64, if_true]
  grind
end Day
namespace Rx
open Go Go.RowKit
section
variable {H : Type} {enc : TypeId × Value → H} {P : Program} {w : World} {base : Nat} {spare : Nat → Bool} {held : Bool} {a : A}
theorem leaf_i64 (h : LeafOK enc P w base spare held (.s (.int .i64)) a) : Day.i64 a.int = true := by
  have h : IntKind.i64.min ≤ a.int ∧ a.int ≤ IntKind.i64.max := h
  have h1 : IntKind.i64.min = -9223372036854775808 := rfl
  have h2 : IntKind.i64.max = 9223372036854775807 := rfl
  rw [h1, h2] at h
  simp [Day.i64, h]
theorem leaf_u8 (h : LeafOK enc P w base spare held (.s (.int .u8)) a) : Day.u8 a.int = true := by
  have h : IntKind.u8.min ≤ a.int ∧ a.int ≤ IntKind.u8.max := h
  have h1 : IntKind.u8.min = 0 := rfl
  have h2 : IntKind.u8.max = 255 := rfl
  rw [h1, h2] at h
  simp [Day.u8, h]
theorem leaf_u16 (h : LeafOK enc P w base spare held (.s (.int .u16)) a) : Day.u16 a.int = true := by
  have h : IntKind.u16.min ≤ a.int ∧ a.int ≤ IntKind.u16.max := h
  have h1 : IntKind.u16.min = 0 := rfl
  have h2 : IntKind.u16.max = 65535 := rfl
  rw [h1, h2] at h
  simp [Day.u16, h]
theorem leaf_u32 (h : LeafOK enc P w base spare held (.s (.int .u32)) a) : Day.u32 a.int = true := by
  have h : IntKind.u32.min ≤ a.int ∧ a.int ≤ IntKind.u32.max := h
  have h1 : IntKind.u32.min = 0 := rfl
  have h2 : IntKind.u32.max = 4294967295 := rfl
  rw [h1, h2] at h
  simp [Day.u32, h]
theorem agree_none : ∀ as : List A, Agree (List.replicate as.length none) as := fun as =>
  ⟨by simp, fun j x hx a _ => by simp [List.getElem?_replicate] at hx⟩
theorem law_calls {T : Nat → List A → Bool × List A} {c : Ctr} (h : CtrOK P T c) (hok : ∀ n, c.ok (List.replicate n none) = true) (hrs : c.rs = [(false, [.bool])]) {vs : List Value} {as : List A} {w : World}
    (ha : ArgsRel w c.ps vs as) (hp : (T c.f as).1 = true) (ht : (T c.f as).2 = [.b true]) :
    Calls P c.f vs.toArray w fun e w' => e = .returned (.bool true) ∧ Below w.heap.size w w' := by
  refine (h _ as vs w (hok as.length) (agree_none as) ha hp).mono ?_
  rintro e w' ⟨u, rfl, hu, hb⟩
  refine ⟨?_, hb⟩
  rw [ht, hrs] at hu
  obtain ⟨us, ⟨v, vr, a1, a2, rfl, he, h1, h2⟩, rfl⟩ := hu
  obtain ⟨rfl, rfl⟩ := h2
  rw [List.append_nil] at he
  subst he
  have h3 := h1.2
  rw [if_neg (by simp)] at h3
  obtain ⟨s, x, q1, q2, rfl⟩ := h3
  simp only [List.cons.injEq, and_true] at q1 q2
  subst q1
  subst q2
  rfl
end
end Rx
