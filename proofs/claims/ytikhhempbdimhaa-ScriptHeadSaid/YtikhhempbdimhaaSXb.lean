import Derived.Test.YtikhhempbdimhaaSXa
import Derived.Laws.Slices
import Derived.Lib.AppendIntMem
import Derived.Laws.BytesArg
import Derived.Laws.IdiomStrings
import Derived.Laws.CopyRow
import Derived.Laws.IdiomCopy
set_option linter.unusedVariables false
set_option linter.unusedSimpArgs false
namespace Rx
open Go Go.RowKit
section
variable {T : Nat → List A → Bool × List A} {e : Nat → A} {n n' : Nat} {loc loc' : Loc} {P : Program} {X : Ctx} {w0 : W0}
variable {fr : List SV} {rows : List Row} {gs : List (L × Bool)} {pc : L} {o : Oper} {g : G} {inl : Inline}
theorem EN {r off : Nat} {v : Value} (h : (PV.one (.k (.ptr r off))).rel e n loc v) : r < n ∧ v = .pointer (some ⟨(loc r).blk, (loc r).off + off, none⟩) := by
 refine ⟨h.1, ?_⟩
 rcases h.2.2 with h1 | h1
 ·cases h1
 ·exact h1
theorem Lq {r off st num : Nat} {x : L} {v : Value} (h : (PV.one (.k (.sptr r off st num x))).rel e n loc v) :
  r < n ∧ ∃ i : Nat, (x.ev e).int = i ∧ i < num ∧ v = .pointer (some ⟨(loc r).blk, (loc r).off + (off + st * i), none⟩) := by
 obtain ⟨h1, h2, h3⟩ := h
 simp only [K.ok] at h1
 obtain ⟨k, hk⟩ := Int.eq_ofNat_of_zero_le h1.2.1
 refine ⟨h1.1, k, hk, by omega, ?_⟩
 rcases h3 with h4 | h4
 ·cases h4
 ·rw [h4]; simp [K.Bl, hk]
theorem MO {r off : Nat} {v : Value} (hr : r < n) (h : v = .pointer (some ⟨(loc r).blk, (loc r).off + off, none⟩)) : (PV.one (.k (.ptr r off))).rel e n loc v :=
 ⟨hr, by rw [h]; rfl, .inr (by rw [h]; rfl)⟩
theorem Oq {r off st num i : Nat} {x : L} {v : Value} (hr : r < n) (hi : (x.ev e).int = i) (hlt : i < num) (h : v = .pointer (some ⟨(loc r).blk, (loc r).off + (off + st * i), none⟩)) : (PV.one (.k (.sptr r off st num x))).rel e n loc v :=
 ⟨⟨hr, by rw [hi]; omega, by rw [hi]; omega⟩, by rw [h]; rfl, .inr (by rw [h]; simp [K.Bl, hi])⟩
theorem D4 {r off m : Nat} {v : Value} (h : (PV.one (.k (.slc r off m))).rel e n loc v) : r < n ∧ v = .slice (some ⟨(loc r).blk, (loc r).off + off * (loc r).es, none⟩) m ((loc r).cap - off) := by
 refine ⟨h.1, ?_⟩
 rcases h.2.2 with h1 | h1
 ·cases h1
 ·exact h1
theorem Ad.es {rows : List Row} {w : World} {B : Bd} (h : Ad e loc rows w B) {r : Nat} {row : Row} (hr : rows[r]? = some row) (hne : row.cells.isEmpty = false) : (loc r).es = row.es := by
 have hrow := h.row r row hr
 unfold AH at hrow
 split at hrow
 ·exact hrow.2.1
 ·exact (hrow (by intro h0; rw [h0] at hne; simp at hne)).1
theorem Bn.es {w : World} (h : Bn e w0 loc rows w) {r : Nat} {row : Row} (hr : rows[r]? = some row) (hne : row.cells.isEmpty = false) : (loc r).es = row.es := by
 obtain ⟨B, _, h, _⟩ := h; exact h.es hr hne
theorem GA {r off es m c : Nat} {v : Value} (h : (PV.one (.k (.aslc r off es m c))).rel e n loc v) : r < n ∧ v = .slice (some ⟨(loc r).blk, (loc r).off + off, none⟩) m c := by
 obtain ⟨h1, _, h3⟩ := h
 rcases h3 with h3 | h3
 ·cases h3
 ·exact ⟨h1, h3⟩
theorem Im {r off es : Nat} {x k : L} {v : Value} (h : (PV.one (.k (.lptr r off es x k))).rel e n loc v) :
  r < n ∧ ∃ i : Nat, (x.ev e).int = i ∧ (i : Int) < (k.ev e).int ∧ v = .pointer (some ⟨(loc r).blk, (loc r).off + (off + es * i), none⟩) := by
 obtain ⟨h1, h2, h3⟩ := h
 simp only [K.ok] at h1
 obtain ⟨j, hj⟩ := Int.eq_ofNat_of_zero_le h1.2.1
 refine ⟨h1.1, j, hj, by rw [← hj]; exact h1.2.2, ?_⟩
 rcases h3 with h4 | h4
 ·cases h4
 ·rw [h4]; simp [K.Bl, hj]
theorem Xa {r off es i : Nat} {x k : L} {v : Value} (hr : r < n) (hi : (x.ev e).int = i) (hlt : (i : Int) < (k.ev e).int) (h : v = .pointer (some ⟨(loc r).blk, (loc r).off + (off + es * i), none⟩)) : (PV.one (.k (.lptr r off es x k))).rel e n loc v :=
 ⟨⟨hr, by rw [hi]; omega, by rw [hi]; exact hlt⟩, by rw [h]; rfl, .inr (by rw [h]; simp [K.Bl, hi])⟩
theorem SD (hX : B5 P X.Ay) {s : TypeId} {x : Operand} {f : Nat} (ho : o.op = .fieldAddr s x f) : Bv P T e w0 fr rows gs pc o g (execOp X inl fr rows gs pc o g) := by
 obtain ⟨dst, op', ty, pos, after, guard⟩ := o
 simp only at ho
 subst ho
 simp only [execOp, Option.bind_eq_bind, Ctx.ty]
 cases ht : look s X.Ay with
 | none => trivial
 | some tt =>
  simp only [Option.bind_some]
  cases hp : Db fr gs x with
  | none => trivial
  | some p =>
   simp only [Option.bind_some]
   split
   ·rename_i fs hk
    cases hs : DB fs X f with
    | none => trivial
    | some om =>
     obtain ⟨off, m⟩ := om
     simp only [Option.bind_some]
     obtain ⟨u, ty', h1, h2, h3, h4⟩ := D3 hX hs
     obtain ⟨gs', hg1, hg2⟩ := FI (hX s tt ht) hk
     have hfd : ∃ fd, gs'[f]? = some fd ∧ fd.type = u ∧ fd.offset = off := by
      have := congrArg (·[f]?) hg2
      simp only [List.getElem?_map, h1] at this
      cases hfd : gs'.toList[f]? with
      | none => rw [hfd] at this; cases this
      | some fd =>
       rw [hfd] at this
       simp only [Option.map_some, Option.some.injEq, Prod.mk.injEq] at this
       exact ⟨fd, by simpa using hfd, this.1, this.2⟩
     obtain ⟨fd, hfd, rfl, rfl⟩ := hfd
     split
     ·trivial
     ·rename_i hm0
      have hm0' : m ≠ 0 := by simpa using hm0
      have hrun : ∀ (a : Act) (b k : Nat) w, a.eval x = .pointer (some ⟨b, k, none⟩) → (Go.execOp a.eval ⟨dst, .fieldAddr s x f, ty, pos, after, guard⟩).run P w = .ok (.value (.pointer (some ⟨b, k + fd.offset, none⟩))) w := fun a b k w h => by
       have hsz : ¬ ty'.size = 0 := by rw [← h3]; exact hm0'
       simp [Go.execOp, Instr.fieldAt, run_underlying hg1, hfd, h, Instr.sureAddr, fieldPlace, Bc h4, hsz, addr_add]
      split
      ·rename_i r k
       refine Ae fun hg => ⟨hg, fun loc a w1 _ hgs hfr _ => ?_⟩
       obtain ⟨r1, r2⟩ := EN (Aa hp hfr hgs)
       exact ⟨_, MO r1 (by rw [← Nat.add_assoc]), fun w _ => hrun a _ _ w r2⟩
      ·rename_i r k st num y
       refine Ae fun hg => ⟨hg, fun loc a w1 _ hgs hfr _ => ?_⟩
       obtain ⟨r1, i, r2, r3, r4⟩ := Lq (Aa hp hfr hgs)
       exact ⟨_, Oq r1 r2 r3 (by congr 3; omega), fun w _ => hrun a _ _ w r4⟩
      ·rename_i r k es y nn
       refine Ae fun hg => ⟨hg, fun loc a w1 _ hgs hfr _ => ?_⟩
       obtain ⟨r1, i, r2, r3, r4⟩ := Im (Aa hp hfr hgs)
       exact ⟨_, Xa r1 r2 r3 (by congr 3; omega), fun w _ => hrun a _ _ w r4⟩
      ·trivial
   ·trivial
theorem QE (hX : B5 P X.Ay) {s : TypeId} {x : Operand} {f : Nat} (ho : o.op = .fieldAddr s x f) {r : Qs} (h : execOp X inl fr rows [] pc o g = some r) {a : Act} (hfr : Ax e n loc fr a.tmps) :
  ∃ u, ∀ w, (Go.execOp a.eval o).run P w = .ok (.value u) w := by
 obtain ⟨dst, op', ty, pos, after, guard⟩ := o
 simp only at ho
 subst ho
 simp only [execOp, Option.bind_eq_bind, Ctx.ty, Option.bind_eq_some_iff] at h
 obtain ⟨tt, ht, p, hp, h⟩ := h
 split at h
 ·rename_i fs hk
  simp only [Option.bind_eq_some_iff] at h
  obtain ⟨⟨off, m⟩, hs, h⟩ := h
  obtain ⟨u, ty', h1, h2, h3, h4⟩ := D3 hX hs
  obtain ⟨gs', hg1, hg2⟩ := FI (hX s tt ht) hk
  have hfd : ∃ fd, gs'[f]? = some fd ∧ fd.type = u ∧ fd.offset = off := by
   have := congrArg (·[f]?) hg2
   simp only [List.getElem?_map, h1] at this
   cases hfd : gs'.toList[f]? with
   | none => rw [hfd] at this; cases this
   | some fd =>
    rw [hfd] at this
    simp only [Option.map_some, Option.some.injEq, Prod.mk.injEq] at this
    exact ⟨fd, by simpa using hfd, this.1, this.2⟩
  obtain ⟨fd, hfd, rfl, rfl⟩ := hfd
  simp only at h
  split at h
  ·cases h
  ·rename_i hm0
   have hm0' : m ≠ 0 := by simpa using hm0
   have hrun : ∀ (b k : Nat) w, a.eval x = .pointer (some ⟨b, k, none⟩) → (Go.execOp a.eval ⟨dst, .fieldAddr s x f, ty, pos, after, guard⟩).run P w = .ok (.value (.pointer (some ⟨b, k + fd.offset, none⟩))) w := fun b k w h => by
    have hsz : ¬ ty'.size = 0 := by rw [← h3]; exact hm0'
    simp [Go.execOp, Instr.fieldAt, run_underlying hg1, hfd, h, Instr.sureAddr, fieldPlace, Bc h4, hsz, addr_add]
   have hv := Aa hp hfr (fun _ hm => by cases hm)
   split at h
   ·obtain ⟨_, r2⟩ := EN hv
    exact ⟨_, fun w => hrun _ _ w r2⟩
   ·obtain ⟨_, _, _, _, r4⟩ := Lq hv
    exact ⟨_, fun w => hrun _ _ w r4⟩
   ·obtain ⟨_, _, _, _, r4⟩ := Im hv
    exact ⟨_, fun w => hrun _ _ w r4⟩
   ·cases h
 ·cases h
theorem QF (hX : B5 P X.Ay) {t : TypeId} {x i : Operand} (ho : o.op = .indexAddr t x i) (ha : Sq X t = true) (hl : Zn (Db fr [] i) = true) {r : Qs} (h : execOp X inl fr rows [] pc o g = some r) {a : Act} (hfr : Ax e n loc fr a.tmps) :
  ∃ u, ∀ w, (Go.execOp a.eval o).run P w = .ok (.value u) w := by
 obtain ⟨dst, op', ty, pos, after, guard⟩ := o
 simp only at ho
 subst ho
 simp only [execOp, Option.bind_eq_bind, Ctx.ty, Option.bind_eq_some_iff] at h
 obtain ⟨tt, ht, p, hp, q, hq, ⟨k, ix⟩, hi, h⟩ := h
 rw [hq] at hl
 simp only [Zn, hi] at hl
 unfold Sq at ha
 rw [ht] at ha
 simp only at ha
 obtain ⟨m, u, hk⟩ : ∃ m u, tt.kind = .arr m u := by
  split at ha
  ·rename_i m u hk
   exact ⟨m, u, hk⟩
  ·cases ha
 have hidx : a.eval i = .int k (ix.ev e).int := PV.Cy hi (Aa hq hfr (fun _ hm => by cases hm))
 have hv := Aa hp hfr (fun _ hm => by cases hm)
 simp only [hk] at h
 split at h
 ·rename_i m' u' r off hk'
  injection hk' with e1 e2
  subst e1 e2
  simp only [Option.bind_eq_some_iff] at h
  obtain ⟨tu, hu, h⟩ := h
  have hun := Ik (hX t tt ht) hk
  have htu := hX u tu hu
  split at h
  ·cases h
  ·split at h
   ·rename_i j
    split at h
    ·rename_i hj
     simp only [Bool.and_eq_true, decide_eq_true_eq] at hj
     obtain ⟨j', rfl⟩ := Int.eq_ofNat_of_zero_le hj.1
     obtain ⟨_, r2⟩ := EN hv
     have h3 : j' < m := by omega
     have h4 : (j' : Int) < (m : Int) := by omega
     have h2 : a.eval i = .int k (j' : Int) := hidx
     exact ⟨.pointer (some ⟨(loc r).blk, (loc r).off + off + j' * tu.size, none⟩), fun w => by simp [Go.execOp, Instr.indexAt, r2, h2, asIntOf, run_underlying hun, Instr.sureAddr, Bc htu, h3, addr_add]⟩
    ·cases h
   ·rename_i hne
    exfalso
    split at hl
    ·rename_i k2 j heq
     simp only [Option.some.injEq, Prod.mk.injEq] at heq
     exact hne j heq.2
    ·cases hl
 all_goals first | cases h | (rename_i hk'; cases hk') | (rename_i hk' _; cases hk') | (rename_i hk' _ _; cases hk') | (rename_i hk' _ _ _; cases hk')
theorem SE (hX : B5 P X.Ay) {t : TypeId} {x i : Operand} (ho : o.op = .indexAddr t x i) : Bv P T e w0 fr rows gs pc o g (execOp X inl fr rows gs pc o g) := by
 obtain ⟨dst, op', ty, pos, after, guard⟩ := o
 simp only at ho
 subst ho
 simp only [execOp, Option.bind_eq_bind, Ctx.ty]
 cases ht : look t X.Ay with
 | none => trivial
 | some tt =>
  simp only [Option.bind_some]
  cases hp : Db fr gs x with
  | none => trivial
  | some p =>
   simp only [Option.bind_some]
   cases hq : Db fr gs i with
   | none => trivial
   | some q =>
    simp only [Option.bind_some]
    cases hi : q.int? with
    | none => trivial
    | some kx =>
     obtain ⟨k, ix⟩ := kx
     simp only [Option.bind_some]
     have hidx : ∀ loc (a : Act), Ax e rows.length loc fr a.tmps → Holds e gs → a.eval i = .int k (ix.ev e).int := fun loc a hf hgs => PV.Cy hi (Aa hq hf hgs)
     split
     ·rename_i m u r off hk
      cases hu : look u X.Ay with
      | none => trivial
      | some tu =>
       simp only [Option.bind_some]
       split
       ·trivial
       ·rename_i hm1
        have hun := Ik (hX t tt ht) hk
        have htu := hX u tu hu
        have hrun : ∀ (a : Act) (b c j : Nat) w, a.eval x = .pointer (some ⟨b, c, none⟩) → a.eval i = .int k j → j < m → (Go.execOp a.eval ⟨dst, .indexAddr t x i, ty, pos, after, guard⟩).run P w = .ok (.value (.pointer (some ⟨b, c + j * tu.size, none⟩))) w := fun a b c j w h1 h2 h3 => by
         have h4 : (j : Int) < (m : Int) := by omega
         simp [Go.execOp, Instr.indexAt, h1, h2, asIntOf, run_underlying hun, Instr.sureAddr, Bc htu, h3, addr_add]
        split
        ·rename_i j
         split
         ·rename_i hj
          simp only [Bool.and_eq_true, decide_eq_true_eq] at hj
          obtain ⟨j', rfl⟩ := Int.eq_ofNat_of_zero_le hj.1
          refine Ae fun hg => ⟨hg, fun loc a w1 _ hgs hfr _ => ?_⟩
          obtain ⟨r1, r2⟩ := EN (Aa hp hfr hgs)
          refine ⟨_, MO r1 rfl, fun w _ => ?_⟩
          rw [hrun a _ _ j' w r2 (hidx loc a hfr hgs) (by omega)]
          simp [Nat.add_assoc]
         ·trivial
        ·rename_i ix _
         refine Ae fun hg => ?_
         have hmu := As hg
         have hin := JD hmu.1
         refine ⟨hin.1, fun loc a w1 hpc hgs hfr _ => ?_⟩
         obtain ⟨b0, b1⟩ := hin.2.1 (hmu.2 hpc)
         obtain ⟨j, hj⟩ := Int.eq_ofNat_of_zero_le b0
         obtain ⟨r1, r2⟩ := EN (Aa hp hfr hgs)
         refine ⟨_, Oq r1 hj (by omega) rfl, fun w _ => ?_⟩
         rw [hrun a _ _ j w r2 (by rw [hidx loc a hfr hgs, hj]) (by omega)]
         simp [Nat.add_assoc, Nat.mul_comm]
     ·rename_i u r off m hk
      cases hu : look u X.Ay with
      | none => trivial
      | some tu =>
       simp only [Option.bind_some]
       have hun := AD (hX t tt ht) hk
       have htu := hX u tu hu
       have hrun : ∀ (a : Act) (b c cp j : Nat) w, a.eval x = .slice (some ⟨b, c, none⟩) m cp → a.eval i = .int k j → j < m → (Go.execOp a.eval ⟨dst, .indexAddr t x i, ty, pos, after, guard⟩).run P w = .ok (.value (.pointer (some ⟨b, c + j * tu.size, none⟩))) w := fun a b c cp j w h1 h2 h3 => by
        have h4 : (j : Int) < (m : Int) := by omega
        simp [Go.execOp, Instr.indexAt, h1, h2, asIntOf, run_underlying hun, Bc htu, h3, addr_add]
       cases hrr : rows[r]? with
       | none => trivial
       | some row =>
        simp only [Option.bind_some]
        split
        ·trivial
        ·rename_i hes
         simp only [Bool.or_eq_true, bne_iff_ne, ne_eq, not_or, Decidable.not_not, Bool.not_eq_true] at hes
         split
         ·rename_i j
          split
          ·rename_i hj
           simp only [Bool.and_eq_true, decide_eq_true_eq] at hj
           obtain ⟨j', rfl⟩ := Int.eq_ofNat_of_zero_le hj.1
           refine Ae fun hg => ⟨hg, fun loc a w1 _ hgs hfr hcl => ?_⟩
           obtain ⟨r1, r2⟩ := D4 (Aa hp hfr hgs)
           have he := hcl.es hrr hes.2
           refine ⟨_, MO r1 rfl, fun w _ => ?_⟩
           rw [hrun a _ _ _ j' w r2 (hidx loc a hfr hgs) (by omega), he, hes.1]
           simp [Nat.add_assoc, Nat.add_mul]
          ·trivial
         ·rename_i ix _
          refine Ae fun hg => ?_
          have hmu := As hg
          have hin := JD hmu.1
          refine ⟨hin.1, fun loc a w1 hpc hgs hfr hcl => ?_⟩
          obtain ⟨b0, b1⟩ := hin.2.1 (hmu.2 hpc)
          obtain ⟨j, hj⟩ := Int.eq_ofNat_of_zero_le b0
          obtain ⟨r1, r2⟩ := D4 (Aa hp hfr hgs)
          have he := hcl.es hrr hes.2
          refine ⟨_, Oq r1 hj (by omega) rfl, fun w _ => ?_⟩
          rw [hrun a _ _ _ j w r2 (by rw [hidx loc a hfr hgs, hj]) (by omega), he, hes.1]
          simp [Nat.add_assoc, Nat.mul_comm]
     ·rename_i u r off es m cc hk
      cases hu : look u X.Ay with
      | none => trivial
      | some tu =>
       simp only [Option.bind_some]
       have hun := AD (hX t tt ht) hk
       have htu := hX u tu hu
       have hrun : ∀ (a : Act) (b c cp j : Nat) w, a.eval x = .slice (some ⟨b, c, none⟩) m cp → a.eval i = .int k j → j < m → (Go.execOp a.eval ⟨dst, .indexAddr t x i, ty, pos, after, guard⟩).run P w = .ok (.value (.pointer (some ⟨b, c + j * tu.size, none⟩))) w := fun a b c cp j w h1 h2 h3 => by
        have h4 : (j : Int) < (m : Int) := by omega
        simp [Go.execOp, Instr.indexAt, h1, h2, asIntOf, run_underlying hun, Bc htu, h3, addr_add]
       split
       ·trivial
       ·split
        ·rename_i j
         split
         ·rename_i hj
          simp only [Bool.and_eq_true, decide_eq_true_eq] at hj
          obtain ⟨j', rfl⟩ := Int.eq_ofNat_of_zero_le hj.1
          refine Ae fun hg => ⟨hg, fun loc a w1 _ hgs hfr hcl => ?_⟩
          obtain ⟨r1, r2⟩ := GA (Aa hp hfr hgs)
          refine ⟨_, MO r1 rfl, fun w _ => ?_⟩
          rw [hrun a _ _ _ j' w r2 (hidx loc a hfr hgs) (by omega)]
          simp [Nat.add_assoc]
         ·trivial
        ·rename_i ix _
         refine Ae fun hg => ?_
         have hmu := As hg
         have hin := JD hmu.1
         refine ⟨hin.1, fun loc a w1 hpc hgs hfr hcl => ?_⟩
         obtain ⟨b0, b1⟩ := hin.2.1 (hmu.2 hpc)
         obtain ⟨j, hj⟩ := Int.eq_ofNat_of_zero_le b0
         obtain ⟨r1, r2⟩ := GA (Aa hp hfr hgs)
         refine ⟨_, Oq r1 hj (by omega) rfl, fun w _ => ?_⟩
         rw [hrun a _ _ _ j w r2 (by rw [hidx loc a hfr hgs, hj]) (by omega)]
         simp [Nat.add_assoc, Nat.mul_comm]
     ·rename_i p _ p' u hk _ _
      cases hu : look u X.Ay with
      | none => trivial
      | some tu =>
       simp only [Option.bind_some]
       cases hls : Ia rows p with
       | none => trivial
       | some rnq =>
        obtain ⟨r, nn, q⟩ := rnq
        simp only [Option.bind_some]
        split
        ·trivial
        ·rename_i hes
         have hes : tu.size = q.ss.length := by simpa using hes
         have hun := AD (hX t tt ht) hk
         have htu := hX u tu hu
         refine Ae fun hg => ?_
         have hmu := As hg
         have hin := DW hmu.1
         refine ⟨hin.1, fun loc a w1 hpc hgs hfr hcl => ?_⟩
         obtain ⟨b0, b1⟩ := hin.2.1 (hmu.2 hpc)
         obtain ⟨j, hj⟩ := Int.eq_ofNat_of_zero_le b0
         obtain ⟨B, _, hR, _⟩ := hcl
         obtain ⟨r1, _, _, _, m, ad, c, r2, r3, r4⟩ := NC hls hR (Aa hp hfr hgs)
         rw [r4 (by omega)] at r3
         refine ⟨_, Xa (off := 0) (es := tu.size) r1 hj (by omega) rfl, fun w _ => ?_⟩
         have hjm : j < m := by omega
         have h4 : (j : Int) < (m : Int) := by omega
         simp [Go.execOp, Instr.indexAt, r3, hidx loc a hfr hgs, hj, asIntOf, run_underlying hun, Bc htu, hjm, addr_add, Nat.mul_comm]
     ·trivial
theorem AbT (s : ByteArray) (j : Nat) (h : j < s.size) : s[j]? = some (s.data.toList.getD j 0) := by
 obtain ⟨⟨l⟩⟩ := s
 have h : j < l.length := h
 show (if h : j < l.length then some (l[j]) else none) = _
 rw [dif_pos h]
 simp [List.getD, List.getElem?_eq_getElem h]
theorem ZA (hX : B5 P X.Ay) {t : TypeId} {x i : Operand} (ho : o.op = .index t x i) : Bv P T e w0 fr rows gs pc o g (execOp X inl fr rows gs pc o g) := by
 obtain ⟨dst, op', ty, pos, after, guard⟩ := o
 simp only at ho
 subst ho
 simp only [execOp, Option.bind_eq_bind, Ctx.ty]
 cases ht : look t X.Ay with
 | none => trivial
 | some tt =>
  simp only [Option.bind_some]
  cases hp : Db fr gs x with
  | none => trivial
  | some p =>
   simp only [Option.bind_some]
   cases hq : Db fr gs i with
   | none => trivial
   | some q =>
    simp only [Option.bind_some]
    cases hi : q.int? with
    | none => trivial
    | some kx =>
     obtain ⟨k, ix⟩ := kx
     simp only [Option.bind_some]
     have hidx : ∀ loc (a : Act), Ax e rows.length loc fr a.tmps → Holds e gs → a.eval i = .int k (ix.ev e).int := fun loc a hf hgs => PV.Cy hi (Aa hq hf hgs)
     split
     ·rename_i m u cs hk
      cases hu : look u X.Ay with
      | none => trivial
      | some tu =>
       simp only [Option.bind_some]
       have hun := Ik (hX t tt ht) hk
       have htu := hX u tu hu
       have hrun : ∀ (a : Act) (vs : List Value) (j : Nat) v w, a.eval x = .agg vs.toArray → a.eval i = .int k j → j < m → (part u vs.toArray (j * tu.size)).run P w = .ok v w → (Go.execOp a.eval ⟨dst, .index t x i, ty, pos, after, guard⟩).run P w = .ok (.value v) w := fun a vs j v w h1 h2 h3 h4 => by
        have h5 : (j : Int) < (m : Int) := by omega
        simp [Go.execOp, Instr.index, h1, h2, asIntOf, run_underlying hun, Bc htu, h3, h4]
       split
       ·rename_i j
        split
        ·trivial
        ·rename_i hj
         simp only [Bool.not_eq_true', Bool.and_eq_false_iff, decide_eq_false_iff_not, not_or, Decidable.not_not] at hj
         obtain ⟨j', rfl⟩ := Int.eq_ofNat_of_zero_le hj.1
         simp only [Int.toNat_natCast]
         cases hc : Dp cs (j' * tu.size) tu.size with
         | none => trivial
         | some c =>
          simp only [Option.bind_some]
          cases hm : Et tu.kind.agg c with
          | none => trivial
          | some q =>
           simp only [Option.bind_some]
           refine Ae fun hg => ⟨hg, fun loc a w1 _ hgs hfr hcl => ?_⟩
           obtain ⟨vs, e1, e2⟩ := Aa hp hfr hgs
           obtain ⟨v, r1, r2⟩ := NB htu e2 hc hm
           exact ⟨v, r1, fun w _ => hrun a vs j' v w e1 (hidx loc a hfr hgs) (by omega) (r2 w)⟩
       ·cases hs : Eg cs 0 tu.size m ix tu.size ((Sa ix m g).2.Bo pc (Sa ix m g).1) with
        | none => trivial
        | some rg =>
         obtain ⟨rs, g2⟩ := rg
         simp only [Option.bind_some]
         cases hm : Et tu.kind.agg rs with
         | none => trivial
         | some q =>
          simp only [Option.bind_some]
          refine Ae fun hg => ?_
          obtain ⟨s1, s2, s3, s4⟩ := F4 hs hg
          have hmu := As s1
          have hin := JD hmu.1
          refine ⟨hin.1, fun loc a w1 hpc hgs hfr hcl => ?_⟩
          obtain ⟨b0, b1⟩ := hin.2.1 (hmu.2 hpc)
          obtain ⟨j, hj⟩ := Int.eq_ofNat_of_zero_le b0
          obtain ⟨vs, e1, e2⟩ := Aa hp hfr hgs
          have h5 := s4 j hj (by omega) _ _ vs e2
          rw [Nat.zero_add, Nat.mul_comm] at h5
          have hlen : j * tu.size + tu.size ≤ vs.length ∨ tu.size = 0 := by
           have h6 := AR h5
           simp only [List.length_take, List.length_drop, s2] at h6
           omega
          have key : ∃ v, q.rel e rows.length loc v ∧ ∀ w, (part u vs.toArray (j * tu.size)).run P w = .ok v w := by
           rcases BG hm with ⟨ha, rfl⟩ | ⟨ha, c, rfl, rfl⟩
           ·refine ⟨.agg ((vs.drop (j * tu.size)).take tu.size).toArray, ⟨_, rfl, h5⟩, fun w => ?_⟩
            simp only [part, Sem.run_bind, E2 htu, ha, if_true, Result.andThen_ok, Bc htu, Sem.run_pure]
            congr 2
            apply Array.ext'
            simp [List.extract]
           ·cases hv : (vs.drop (j * tu.size)).take tu.size with
            | nil => rw [hv] at h5; exact h5.elim
            | cons v l =>
             rw [hv] at h5
             refine ⟨v, h5.1, fun w => ?_⟩
             have hoff : vs[j * tu.size]? = some v := by
              have := congrArg (·[0]?) hv
              simp only [List.getElem?_cons_zero, List.getElem?_take, List.getElem?_drop, Nat.add_zero] at this
              split at this
              ·exact this
              ·cases this
             simp [part, E2 htu, ha, hoff]
          obtain ⟨v, r1, r2⟩ := key
          exact ⟨v, r1, fun w _ => hrun a vs j v w e1 (by rw [hidx loc a hfr hgs, hj]) (by omega) (r2 w)⟩
     ·rename_i y hk
      refine Ae fun hg => ?_
      have hz := Ah hg
      have hm := As hz.1
      have hin := DW hm.1
      have hn := Ah hin.1
      refine ⟨hn.1, fun loc a w1 hpc hgs hfr hcl => ?_⟩
      have e1 := hn.2 (.i ((y.ev e).str.size : Int)) (by simp [D.ev])
      obtain ⟨b0, b1⟩ := hin.2.1 (hm.2 hpc)
      rw [e1] at b1
      have b1 : (ix.ev e).int < ((y.ev e).str.size : Int) := b1
      have e2 := hz.2 (.i (((y.ev e).str.data.toList.getD (ix.ev e).int.toNat 0).toNat : Int)) (by simp [D.ev])
      have hv : a.eval x = .string (y.ev e).str := Oo (Aa hp hfr hgs)
      refine ⟨.int .u8 (((y.ev e).str.data.toList.getD (ix.ev e).int.toNat 0).toNat : Int), BN (by rw [e2]; rfl), fun w _ => ?_⟩
      have hg2 := AbT (y.ev e).str (ix.ev e).int.toNat (by omega)
      have hrun : (Instr.index t (.string (y.ev e).str) (.int k (ix.ev e).int)).run P w = .ok (.int .u8 (((y.ev e).str.data.toList.getD (ix.ev e).int.toNat 0).toNat : Int)) w := by
       simp only [Instr.index, asIntOf, Sem.run_bind, Sem.run_pure, Result.andThen_ok, run_underlying (BE (hX t tt ht) hk), if_pos b0, hg2]
      simp only [Go.execOp, hv, hidx loc a hfr hgs, Sem.run_bind, hrun, Result.andThen_ok, Sem.run_pure]
     ·trivial
theorem AaW (hX : B5 P X.Ay) {t : TypeId} {x : Operand} (ho : o.op = .load t x) : Bv P T e w0 fr rows gs pc o g (execOp X inl fr rows gs pc o g) := by
 obtain ⟨dst, op', ty, pos, after, guard⟩ := o
 simp only at ho
 subst ho
 simp only [execOp, Option.bind_eq_bind, Ctx.ty]
 cases ht : look t X.Ay with
 | none => trivial
 | some tt =>
  have htt := hX t tt ht
  simp only [Option.bind_some]
  cases hp : Db fr gs x with
  | none => trivial
  | some p =>
   simp only [Option.bind_some]
   unfold Zd
   have hrun : ∀ (a : Act) (w : World) v u, a.eval x = u → (Instr.loadAt t u).run P w = .ok v w → (Go.execOp a.eval ⟨dst, .load t x, ty, pos, after, guard⟩).run P w = .ok (.value v) w := fun a w v u h1 h2 => by
    subst h1
    simp [Go.execOp, h2]
   split
   ·rename_i r off
    cases hr : rows[r]? with
    | none => trivial
    | some row =>
     simp only [Option.bind_eq_bind, Option.bind_some]
     cases hc : Dp row.cells off tt.size with
     | none => trivial
     | some cs =>
      simp only [Option.bind_some]
      split
      ·trivial
      ·rename_i hsol
       have hsol' : cs.all C.Dm = true := by simpa using hsol
       cases hm : Et tt.kind.agg cs with
       | none => trivial
       | some q =>
        simp only [Option.bind_some]
        obtain ⟨c1, c2, c3⟩ := Br hc
        refine Ae fun hg => ⟨hg, fun loc a w1 _ hgs hfr hcl => ?_⟩
        obtain ⟨r1, r2⟩ := EN (Aa hp hfr hgs)
        have cells : ∀ w, Bn e w0 loc rows w → ∃ vs : List Value, Aj e rows.length loc cs vs ∧ ∀ j v, vs[j]? = some v → w.cell? ⟨(loc r).blk, (loc r).off + off + j, none⟩ = some v := fun w hw =>
         Di fun j c hj => by
          have hj' : row.cells[off + j]? = some c := by
           rw [c2, List.getElem?_take] at hj
           split at hj
           ·rwa [List.getElem?_drop] at hj
           ·cases hj
          obtain ⟨v, hv, hvr⟩ := hw.cell hr hj'
          exact ⟨v, by rw [← hv, Nat.add_assoc], hvr⟩
        obtain ⟨vs1, k1, k2⟩ := cells w1 hcl
        obtain ⟨v1, l1, l2⟩ := Be htt k1 k2 c3 hm
        refine ⟨v1, l1, fun w hw => ?_⟩
        obtain ⟨vs, k3, k4⟩ := cells w hw
        have := Ck hsol' k1 k3
        subst this
        obtain ⟨v2, l3, l4⟩ := Be htt k3 k4 c3 hm
        have hvv : v1 = v2 := by
         rcases BG hm with ⟨ha, rfl⟩ | ⟨ha, c, rfl, rfl⟩
         ·obtain ⟨us, rfl, h1⟩ := l1
          obtain ⟨us', rfl, h2⟩ := l3
          rw [Ck hsol' h1 h2]
         ·exact C.CP (by simpa using hsol') l1 l3
        rw [hvv]
        exact hrun a w v2 _ r2 l4
   ·rename_i r off st num y
    cases hr : rows[r]? with
    | none => trivial
    | some row =>
     simp only [Option.bind_eq_bind, Option.bind_some]
     cases hs : Eg row.cells off st num y tt.size g with
     | none => trivial
     | some rg =>
      obtain ⟨rs, g2⟩ := rg
      simp only [Option.bind_some]
      cases hm : Et tt.kind.agg rs with
      | none => trivial
      | some q =>
       simp only [Option.bind_some]
       refine Ae fun hg => ?_
       obtain ⟨s1, s2, s3, s4⟩ := F4 hs hg
       refine ⟨s1, fun loc a w1 _ hgs hfr hcl => ?_⟩
       obtain ⟨r1, i, r2, r3, r4⟩ := Lq (Aa hp hfr hgs)
       have cells : ∀ w, Bn e w0 loc rows w → ∃ vs : List Value, Aj e rows.length loc rs vs ∧ ∀ j v, vs[j]? = some v → w.cell? ⟨(loc r).blk, (loc r).off + (off + st * i) + j, none⟩ = some v := fun w hw => by
        obtain ⟨vs, k1, k2⟩ := Di (fun j c hj => hw.cell hr hj)
        refine ⟨_, s4 i r2 r3 _ _ vs k1, fun j v hj => ?_⟩
        rw [List.getElem?_take] at hj
        split at hj
        ·rw [List.getElem?_drop] at hj
         rw [← k2 _ v hj]
         congr 2
         omega
        ·cases hj
       obtain ⟨vs1, k1, k2⟩ := cells w1 hcl
       obtain ⟨v1, l1, l2⟩ := Be htt k1 k2 s2 hm
       refine ⟨v1, l1, fun w hw => ?_⟩
       obtain ⟨vs, k3, k4⟩ := cells w hw
       have := Ck s3 k1 k3
       subst this
       obtain ⟨v2, l3, l4⟩ := Be htt k3 k4 s2 hm
       have hvv : v1 = v2 := by
        rcases BG hm with ⟨ha, rfl⟩ | ⟨ha, c, rfl, rfl⟩
        ·obtain ⟨us, rfl, h1⟩ := l1
         obtain ⟨us', rfl, h2⟩ := l3
         rw [Ck s3 h1 h2]
        ·exact C.CP (by simpa using s3) l1 l3
       rw [hvv]
       exact hrun a w v2 _ r4 l4
   ·rename_i r off es y nn
    cases hr : rows[r]? with
    | none => trivial
    | some row =>
     simp only [Option.bind_eq_bind, Option.bind_some]
     cases hq : row.lst with
     | none => trivial
     | some q =>
      simp only [Option.bind_some]
      split
      ·trivial
      ·rename_i hc
       simp only [Bool.or_eq_true, bne_iff_ne, ne_eq, Bool.not_eq_true', not_or, Decidable.not_not, Bool.not_eq_false] at hc
       obtain ⟨hes, hnn⟩ := hc
       have hnn := L.Af hnn
       subst hes
       subst hnn
       cases hs : Qx q.own q.ss q.ss.length q.x y rows.length off tt.size g with
       | none => trivial
       | some rg =>
        obtain ⟨rs, news, g2⟩ := rg
        simp only [Option.bind_some]
        cases hm : Et tt.kind.agg rs with
        | none => trivial
        | some qq =>
         simp only [Option.bind_some]
         have cells : Good T e g2 → ∀ (loc : Loc) (a : Act) (w : World) (B : Bd), Holds e gs → Ax e rows.length loc fr a.tmps → Ad e loc rows w B → off + tt.size ≤ q.ss.length →
           ∃ (i : Nat) (us : List Value), a.eval x = .pointer (some ⟨(loc r).blk, (loc r).off + (off + q.ss.length * i), none⟩) ∧ (∀ j v, us[j]? = some v → w.cell? ⟨(loc r).blk, (loc r).off + (off + q.ss.length * i) + j, none⟩ = some v) ∧
           ∃ vs : List Value, vs.length = news.length ∧ (∀ (t : Nat) row, news[t]? = some row → ∃ v, vs[t]? = some v ∧ EM e (CF B w) row v) ∧
            ∀ (loc : Loc) (N : Nat), rows.length + news.length ≤ N → (∀ (t : Nat) v, vs[t]? = some v → loc (rows.length + t) = Ew v) → Aj e N loc rs us := fun hg loc a w B hgs hfr hcl hfit => by
          obtain ⟨s1, s2, s3, s4⟩ := Gz hs hg
          obtain ⟨r1, i, r2, r3, r4⟩ := Im (Aa hp hfr hgs)
          have hl := (hcl.lst _ _ _ hr hq).2
          obtain ⟨as, m, l1, l2, l3, l4, _⟩ := id hl
          have hcell : ∀ j, j < tt.size → ∃ s a u, q.ss[off + j]? = some s ∧ as[off + j + q.ss.length * i]? = some a ∧ w.cell? ⟨(loc r).blk, (loc r).off + (off + j + q.ss.length * i), none⟩ = some u ∧ GZ (CF B w) s a u := fun j hj =>
           hl.cell l1 l3 (by omega) (by omega)
          let us : List Value := (List.range tt.size).map fun j => (w.cell? ⟨(loc r).blk, (loc r).off + (off + j + q.ss.length * i), none⟩).getD Go.undef
          have hus : ∀ j, j < tt.size → us[j]? = w.cell? ⟨(loc r).blk, (loc r).off + (off + j + q.ss.length * i), none⟩ := fun j hj => by
           obtain ⟨_, _, u, _, _, h3, _⟩ := hcell j hj
           simp [us, hj, h3]
          refine ⟨i, us, r4, fun j v hj => ?_, s4 as i _ us l1 r2 (by simp [us]) fun j hj => ?_⟩
          ·have hlt : j < tt.size := by have := Ac hj; simpa [us] using this
           rw [hus j hlt] at hj
           rw [← hj]
           congr 2
           omega
          ·obtain ⟨s, a', u, h1, h2, h3, h4⟩ := hcell j hj
           exact ⟨s, a', u, h1, h2, by rw [hus j hj, h3], h4⟩
         have hfit : off + tt.size ≤ q.ss.length ∨ tt.size = 0 := by
          by_cases h0 : tt.size = 0
          ·exact .inr h0
          ·refine .inl ?_
           have hsl : ∀ {m k off : Nat} {g : G} {r}, Qx q.own q.ss q.ss.length q.x y k off m g = some r → m ≠ 0 → off + m ≤ q.ss.length := by
            intro m
            induction m with
            | zero => intro _ _ _ _ _ h; exact absurd rfl h
            | succ m ih =>
             intro k off g r h _
             unfold Qx at h
             simp only [Option.bind_eq_bind, Option.bind_eq_some_iff] at h
             obtain ⟨s, hs, h⟩ := h
             have h1 := Ac hs
             by_cases hm0 : m = 0
             ·omega
             ·split at h
              ·split at h
               ·cases h
               ·simp only [Option.bind_eq_some_iff] at h
                obtain ⟨_, h, _⟩ := h
                have := ih h hm0
                omega
              ·simp only [Option.bind_eq_some_iff] at h
               obtain ⟨_, h, _⟩ := h
               have := ih h hm0
               omega
           exact hsl hs h0
         split
         ·rename_i hne
          have hne : news = [] := by simpa using hne
          refine Ae fun hg => ?_
          obtain ⟨s1, s2, s3, s4⟩ := Gz hs hg
          refine ⟨s1, fun loc a w1 _ hgs hfr hcl => ?_⟩
          have s3 := s3 hne
          have cells' : ∀ w, Bn e w0 loc rows w → ∃ us : List Value, ∃ i : Nat, a.eval x = .pointer (some ⟨(loc r).blk, (loc r).off + (off + q.ss.length * i), none⟩) ∧ Aj e rows.length loc rs us ∧ ∀ j v, us[j]? = some v → w.cell? ⟨(loc r).blk, (loc r).off + (off + q.ss.length * i) + j, none⟩ = some v := fun w hw => by
           rcases hfit with hfit | h0
           ·obtain ⟨B, _, hR, _⟩ := hw
            obtain ⟨i, us, h1, h2, vs, h3, _, h5⟩ := cells hg loc a w B hgs hfr hR hfit
            subst hne
            refine ⟨us, i, h1, h5 loc rows.length (by simp) (fun t v ht => ?_), h2⟩
            have hvs : vs = [] := List.eq_nil_of_length_eq_zero (by simpa using h3)
            rw [hvs] at ht
            simp at ht
           ·obtain ⟨r1, i, r2, r3, r4⟩ := Im (Aa hp hfr hgs)
            refine ⟨[], i, r4, ?_, fun j v h => by simp at h⟩
            have hrs : rs = [] := List.eq_nil_of_length_eq_zero (by rw [s2]; exact h0)
            rw [hrs]
            trivial
          obtain ⟨vs1, i1, p1, k1, k2⟩ := cells' w1 hcl
          obtain ⟨v1, l1, l2⟩ := Be htt k1 k2 s2 hm
          refine ⟨v1, l1, fun w hw => ?_⟩
          obtain ⟨vs, i2, p2, k3, k4⟩ := cells' w hw
          have := Ck s3 k1 k3
          subst this
          obtain ⟨v2, l3, l4⟩ := Be htt k3 k4 s2 hm
          have hvv : v1 = v2 := by
           rcases BG hm with ⟨ha, rfl⟩ | ⟨ha, c, rfl, rfl⟩
           ·obtain ⟨us, rfl, h1⟩ := l1
            obtain ⟨us', rfl, h2⟩ := l3
            rw [Ck s3 h1 h2]
           ·exact C.CP (by simpa using s3) l1 l3
          rw [hvv]
          exact hrun a w v2 _ p2 l4
         ·rename_i hne
          intro hg
          obtain ⟨s1, s2, s3, s4⟩ := Gz hs hg
          refine ⟨s1, fun loc a w _ hgs hfr hcl => ?_⟩
          have hfit : off + tt.size ≤ q.ss.length := by
           rcases hfit with h | h
           ·exact h
           ·rw [h] at hs
            simp only [Qx, Option.some.injEq, Prod.mk.injEq] at hs
            rw [← hs.2.1] at hne
            simp at hne
          obtain ⟨B, hB, hR0, hbel⟩ := hcl
          obtain ⟨i, us, h1, h2, vs, h3, h4, h5⟩ := cells hg loc a w B hgs hfr hR0 hfit
          have hx := Cn loc rows.length vs
          have hR := hR0.OW h4
          have hcs := h5 (CG loc rows.length vs) (rows.length + news.length) (Nat.le_refl _) (fun t v ht => DY loc _ vs ht)
          obtain ⟨v1, l1, l2⟩ := Be htt hcs h2 s2 hm
          exact .inl ⟨v1, w, .inl (hrun a w v1 _ h1 l2), CG loc rows.length vs, hx, by simp, by rw [List.length_append]; exact l1, B, hB, hR, hbel⟩
   ·trivial
end
end Rx
namespace Rx
open Go Go.RowKit
section
variable {T : Nat → List A → Bool × List A} {e : Nat → A} {n n' : Nat} {loc loc' : Loc} {P : Program} {X : Ctx} {w0 : W0}
variable {fr : List SV} {rows : List Row} {gs : List (L × Bool)} {pc : L} {o : Oper} {g : G} {inl : Inline}
theorem Tv (off : Nat) : ∀ {c : List C} {l : List Value} {k : Nat} {cs : Array Value} {cells : List C}, Aj e n loc cells cs.toList → Aj e n loc c l →
  Aj e n loc (setCells cells (off + k) c) ((l.zipIdx k).foldl (fun (cs : Array Value) (x : Value × Nat) => cs.setIfInBounds (off + x.2) x.1) cs).toList
 | [], [], k, cs, cells, h, _ => by simpa [setCells] using h
 | c :: r, v :: l, k, cs, cells, h, hc => by
  simp only [setCells, List.zipIdx_cons, List.foldl_cons]
  have h1 : Aj e n loc (cells.set (off + k) c) (cs.setIfInBounds (off + k) v).toList := by
   rw [Array.toList_setIfInBounds]
   exact Gt h hc.1 _
  have := Tv off (k := k + 1) h1 hc.2
  rwa [← Nat.add_assoc] at this
def OX (e : Nat → A) (n : Nat) (loc : Loc) : List (Nat × PV) → List (Nat × Value) → Prop
 | [], [] => True
 | (i, p) :: l, (j, v) :: m => i = j ∧ p.rel e n loc v ∧ OX e n loc l m
 | _, _ => False
theorem EO {fr : List SV} {a : Act} {gs : List (L × Bool)} : ∀ {xs : List (Nat × Operand)} {ps : List (Nat × PV)}, Ib fr gs xs = some ps → Ax e n loc fr a.tmps → Holds e gs → OX e n loc ps (xs.map fun x => (x.1, a.eval x.2))
 | [], ps, h, _, _ => by simp [Ib] at h; subst h; trivial
 | (i, x) :: l, ps, h, hf, hg => by
  simp only [Ib, Option.bind_eq_bind, Option.bind_eq_some_iff, Option.some.injEq] at h
  obtain ⟨p, hp, r, hr, rfl⟩ := h
  exact ⟨rfl, Aa hp hf hg, EO hr hf hg⟩
theorem Lr {size place : Nat → Option (Nat × Nat)} (hs : ∀ i x, size i = some x → place i = some x) : ∀ {ps : List (Nat × PV)} {vs : List (Nat × Value)} {cells r : List C} {cs : Array Value}, lay size cells ps = some r → OX e n loc ps vs → Aj e n loc cells cs.toList →
  ∃ us : Array Value, Instr.fill place cs vs = some us ∧ Aj e n loc r us.toList ∧ r.length = cells.length
 | [], [], cells, r, cs, h, _, hc => by
  simp only [lay, Option.some.injEq] at h
  subst h
  exact ⟨cs, rfl, hc, rfl⟩
 | (i, p) :: ps, (j, v) :: vs, cells, r, cs, h, hp, hc => by
  obtain ⟨rfl, hpv, hps⟩ := hp
  simp only [lay, Option.bind_eq_bind, Option.bind_eq_some_iff] at h
  obtain ⟨⟨off, m⟩, hi, h⟩ := h
  simp only at h
  split at h
  ·rename_i hh
   simp only [Bool.and_eq_true, beq_iff_eq, decide_eq_true_eq] at hh
   obtain ⟨us, hu1, hu2⟩ := PV.Gv hpv
   have hl := AR hu2
   have hl2 := AR hc
   have hfold := Tv off (k := 0) hc hu2
   simp only [Nat.add_zero] at hfold
   obtain ⟨us', h1, h2, h3⟩ := Lr hs h hps hfold
   refine ⟨us', ?_, h2, by rw [h3, Lo]⟩
   unfold Instr.fill
   have hsz : v.cells.size = m := by rw [hu1]; simp; omega
   have hcs : cs.size = cells.length := by rw [hl2]; simp
   simp only [hs i _ hi, hsz]
   have e1 : (decide (m ≠ m) || decide (off + m > cs.size)) = false := by
    simp; omega
   rw [if_neg (by rw [e1]; simp)]
   rw [← h1]
   congr 1
   rw [hu1]
   simp [← Array.foldl_toList]
  ·cases h
theorem Kb {α β : Type} {f : α → Sem β} {h : α → β} : ∀ {l : List α}, (∀ a ∈ l, ∀ w, (f a).run P w = .ok (h a) w) → ∀ w, (l.mapM f).run P w = .ok (l.map h) w
 | [], _, w => by simp
 | a :: l, hh, w => by
  have ih := Kb (l := l) (fun b hb => hh b (by simp [hb])) w
  simp only [List.mapM_cons, Sem.run_bind, hh a (by simp), Result.andThen_ok, ih, Sem.run_pure, List.map_cons]
theorem OY {α β : Type} {f : α → Sem β} {h : α → β} {l : Array α} (hh : ∀ a ∈ l.toList, ∀ w, (f a).run P w = .ok (h a) w) (w : World) : (l.mapM f).run P w = .ok (l.map h) w := by
 rw [Array.mapM_eq_mapM_toList]
 simp only [Sem.run_map, Kb hh, Result.andThen_ok]
 congr 1
 apply Array.ext'
 simp
theorem ZB {t : TypeId} {parts : Array (Nat × Operand)} (hX : B5 P X.Ay) (ho : o.op = .build t parts) : Bv P T e w0 fr rows gs pc o g (execOp X inl fr rows gs pc o g) := by
 obtain ⟨dst, op', ty, pos, after, guard⟩ := o
 simp only at ho
 subst ho
 simp only [execOp, Option.bind_eq_bind, Ctx.ty]
 cases ht : look t X.Ay with
 | none => trivial
 | some tt =>
  have htt := hX t tt ht
  simp only [Option.bind_some]
  cases hp : Ib fr gs parts.toList with
  | none => trivial
  | some ps =>
   simp only [Option.bind_some]
   obtain ⟨z, hz1, hz2, hz3⟩ := OQ htt
   have hparts : ∀ a : Act, (parts.map fun x => (x.1, a.eval x.2)).toList = parts.toList.map fun x => (x.1, a.eval x.2) := fun a => by simp
   split
   ·rename_i fs hk
    cases hl : lay (DB fs X) (E8 tt.zero) ps with
    | none => trivial
    | some cs =>
     simp only [Option.bind_some]
     obtain ⟨gs', hg1, hg2⟩ := FI htt hk
     refine Ae fun hg => ⟨hg, fun loc a w1 _ hgs hfr hcl => ?_⟩
     have hfl := htt.fields _ hg1
     simp only [Sx, List.all_eq_true] at hfl
     have hmap : ∀ w, (gs'.mapM fun f => (do pure (f.offset, ← Go.sizeOf f.type) : Sem (Nat × Nat))).run P w = .ok (gs'.map fun f => (f.offset, ((P.info? f.type).map (·.size)).getD 0)) w := fun w =>
      OY (fun f hf w => by
       have := hfl f hf
       cases hi : P.info? f.type with
       | none => rw [hi] at this; cases this
       | some i => simp [Go.sizeOf, Ln hi]) w
     have hplace : ∀ i x, DB fs X i = some x → (gs'.map fun f => (f.offset, ((P.info? f.type).map (·.size)).getD 0))[i]? = some x := fun i x hx => by
      obtain ⟨off, m⟩ := x
      obtain ⟨u, ty', h1, h2, h3, h4⟩ := D3 hX hx
      have := congrArg (·[i]?) hg2
      simp only [List.getElem?_map, h1] at this
      cases hfd : gs'.toList[i]? with
      | none => rw [hfd] at this; cases this
      | some fd =>
       rw [hfd] at this
       simp only [Option.map_some, Option.some.injEq, Prod.mk.injEq] at this
       obtain ⟨j, _, hj1, hj2, _⟩ := h4.info
       have hfd' : gs'[i]? = some fd := by simpa using hfd
       simp [hfd', this.1, this.2, hj1, hj2, h3]
     obtain ⟨us, u1, u2, u3⟩ := Lr hplace hl (EO hp hfr hgs) (hz2 e rows.length loc)
     refine ⟨.agg us, ⟨us.toList, by simp, u2⟩, fun w _ => ?_⟩
     simp only [Go.execOp, Instr.build, Sem.run_bind, hz3, Result.andThen_ok, run_underlying hg1, hmap, hparts, u1, Sem.run_pure]
   ·rename_i m u hk
    cases hu : look u X.Ay with
    | none => trivial
    | some tu =>
     have htu := hX u tu hu
     simp only [Option.bind_some]
     cases hl : lay (fun i => some (i * tu.size, tu.size)) (E8 tt.zero) ps with
     | none => trivial
     | some cs =>
      simp only [Option.bind_some]
      have hun := Ik htt hk
      refine Ae fun hg => ⟨hg, fun loc a w1 _ hgs hfr hcl => ?_⟩
      obtain ⟨us, u1, u2, u3⟩ := Lr (fun i x h => h) hl (EO hp hfr hgs) (hz2 e rows.length loc)
      refine ⟨.agg us, ⟨us.toList, by simp, u2⟩, fun w _ => ?_⟩
      simp only [Go.execOp, Instr.build, Sem.run_bind, hz3, Result.andThen_ok, run_underlying hun, Bc htu, hparts, u1, Sem.run_pure]
   ·trivial
theorem Ot {w : World} (h : Bn e w0 loc rows w) {ty es cap : Nat} {cells : List C} {vs spare : List Value}
  (hc : Aj e rows.length loc cells vs) (hl : (vs ++ spare).length = cap * es) (hm : cap ≤ maxLen) :
  Bn e w0 (AN loc rows.length (.QA w.heap.size 0 cap es)) (newRow rows ty es cells) (w.alloc (.cells (vs ++ spare).toArray ty)) := by
 have hle := h.le
 obtain ⟨B, ⟨h1, h2, h3⟩, hR, hbel⟩ := h
 exact ⟨B, ⟨h1, h2, h3.mono (Cm (Nat.le_refl _) _).size⟩, hR.new h3 rfl (fun k hk => heap_alloc_old w _ k hk) (heap_alloc_new w _) hc hl hm, hbel.alloc hle _⟩
theorem B7 {ty es : Nat} {cells : List C} : (newRow rows ty es cells).length = rows.length + 1 := by simp [newRow]
theorem ZC {t : TypeId} (hX : B5 P X.Ay) (ho : o.op = .alloc t) : Bv P T e w0 fr rows gs pc o g (execOp X inl fr rows gs pc o g) := by
 obtain ⟨dst, op', ty, pos, after, guard⟩ := o
 simp only at ho
 subst ho
 simp only [execOp, Option.bind_eq_bind, Ctx.ty]
 cases ht : look t X.Ay with
 | none => trivial
 | some tt =>
  have htt := hX t tt ht
  simp only [Option.bind_some]
  refine fun hg => ⟨hg, fun loc a w _ hgs hfr hcl => ?_⟩
  obtain ⟨z, hz1, hz2, hz3⟩ := OQ htt
  refine .inl ⟨.pointer (some ⟨w.heap.size, 0, none⟩), w.alloc (.cells z.cells t), .inl ?_, AN loc rows.length (.QA w.heap.size 0 1 tt.size), Bi _ _ _, by rw [B7]; omega, ?_, ?_⟩
  ·simp only [Go.execOp, Instr.alloc, Sem.run_bind, hz3, Result.andThen_ok, newVar, Go.newRow, run_newObj, Sem.run_pure]
   rfl
  ·refine MO (by rw [B7]; omega) ?_
   rw [Ap]
  ·have := Ot hcl (ty := t) (es := tt.size) (cap := 1) (vs := z.cells.toList) (spare := []) (hz2 e rows.length loc) (by simp [hz1]) (by decide)
   simpa using this
theorem AbU {t : TypeId} {x : Operand} (hX : B5 P X.Ay) (ho : o.op = .box t x) : Bv P T e w0 fr rows gs pc o g (execOp X inl fr rows gs pc o g) := by
 obtain ⟨dst, op', ty, pos, after, guard⟩ := o
 simp only at ho
 subst ho
 simp only [execOp, Option.bind_eq_bind, Ctx.ty]
 cases ht : look t X.Ay with
 | none => trivial
 | some tt =>
  have htt := hX t tt ht
  simp only [Option.bind_some]
  cases hp : Db fr gs x with
  | none => trivial
  | some p =>
   simp only [Option.bind_some]
   split
   ·trivial
   ·rename_i hsz
    have hsz' : p.cells.length = tt.size := by simpa using hsz
    refine fun hg => ⟨hg, fun loc a w _ hgs hfr hcl => ?_⟩
    obtain ⟨vs, v1, v2⟩ := PV.Gv (Aa hp hfr hgs)
    refine .inl ⟨.pointer (some ⟨w.heap.size, 0, none⟩), w.alloc (.cells vs.toArray t), .inl ?_, AN loc rows.length (.QA w.heap.size 0 1 tt.size), Bi _ _ _, by rw [B7]; omega, ?_, ?_⟩
    ·simp only [Go.execOp, Instr.box, Sem.run_bind, Result.andThen_ok, newVar, Go.newRow, run_newObj, Sem.run_pure, v1]
     rfl
    ·refine MO (by rw [B7]; omega) ?_
     rw [Ap]
    ·have := Ot hcl (ty := t) (es := tt.size) (cap := 1) (vs := vs) (spare := []) v2 (by rw [List.append_nil, Nat.one_mul, ← AR v2, hsz']) (by decide)
     simpa using this
theorem KN {l : List C} {vs : List Value} (h : Aj e n loc l vs) : ∀ m : Nat, Aj e n loc (List.replicate m l).flatten (List.replicate m vs).flatten
 | 0 => trivial
 | m + 1 => by simp only [List.replicate_succ, List.flatten_cons]; exact EJ h (KN h m)
theorem Ou {α : Type} [Inhabited α] (z : Array α) (hz : 0 < z.size) : ∀ m : Nat, (List.range (m * z.size)).map (fun i => z[i % z.size]!) = (List.replicate m z.toList).flatten
 | 0 => by simp
 | m + 1 => by
  rw [Nat.add_mul, Nat.one_mul, Nat.add_comm, List.range_add, List.map_append, List.replicate_succ, List.flatten_cons, List.map_map]
  congr 1
  ·apply List.ext_getElem?
   intro i
   simp only [List.getElem?_map, List.getElem?_range', Array.getElem?_toList]
   by_cases hi : i < z.size
   ·rw [List.getElem?_range hi]
    simp [Nat.mod_eq_of_lt hi, hi]
   ·have hle := Nat.le_of_not_lt hi
    rw [List.getElem?_eq_none (by simpa using hle)]
    simp [hle]
  ·rw [← Ou z hz m]
   apply List.map_congr_left
   intro i _
   simp
theorem SF {r off m : Nat} {v : Value} (hr : r < n) (h : v = .slice (some ⟨(loc r).blk, (loc r).off + off * (loc r).es, none⟩) m ((loc r).cap - off)) : (PV.one (.k (.slc r off m))).rel e n loc v :=
 ⟨hr, by rw [h]; rfl, .inr (by rw [h]; rfl)⟩
theorem QG {t : TypeId} {m : Nat} {parts : Array (Nat × Operand)} (hX : B5 P X.Ay) (hm0 : m ≠ 0) (ho : o.op = .buildSlice t m parts) : Bv P T e w0 fr rows gs pc o g (execOp X inl fr rows gs pc o g) := by
 obtain ⟨dst, op', ty, pos, after, guard⟩ := o
 simp only at ho
 subst ho
 simp only [execOp, Option.bind_eq_bind, Ctx.ty]
 cases ht : look t X.Ay with
 | none => trivial
 | some tt =>
  have htt := hX t tt ht
  simp only [Option.bind_some]
  split
  ·rename_i u hk
   cases hu : look u X.Ay with
   | none => trivial
   | some tu =>
    have htu := hX u tu hu
    have hun := AD htt hk
    simp only [Option.bind_some]
    rw [if_neg (by simpa using hm0)]
    cases hp : Ib fr gs parts.toList with
    | none => trivial
    | some ps =>
     simp only [Option.bind_some]
     split
     ·trivial
     ·rename_i hsz
      simp only [Bool.or_eq_true, beq_iff_eq, decide_eq_true_eq, not_or] at hsz
      obtain ⟨⟨s1, s2⟩, s3⟩ := hsz
      cases hl : lay (fun i => some (i * tu.size, tu.size)) (List.replicate m (E8 tu.zero)).flatten ps with
      | none => trivial
      | some cs =>
       simp only [Option.bind_some]
       refine fun hg => ⟨hg, fun loc a w _ hgs hfr hcl => ?_⟩
       obtain ⟨z, hz1, hz2, hz3⟩ := OQ htu
       have hflat := KN (hz2 e rows.length loc) m
       have hmm := Ou z.cells (by omega) m
       rw [← hmm] at hflat
       have hflat' : Aj e rows.length loc (List.replicate m (E8 tu.zero)).flatten ((Array.range (m * tu.size)).map (z.cells[· % z.cells.size]!)).toList := by
        rw [Array.toList_map, Array.toList_range, ← hz1]; exact hflat
       obtain ⟨us, u1, u2, u3⟩ := Lr (fun i x h => h) hl (EO hp hfr hgs) hflat'
       have hlen : us.toList.length = m * tu.size := by
        rw [← AR u2, u3]
        have := AR hflat'
        rw [this]; simp
       refine .inl ⟨.slice (some ⟨w.heap.size, 0, none⟩) m m, w.alloc (.cells us u), .inl ?_, AN loc rows.length (.QA w.heap.size 0 m tu.size), Bi _ _ _, by rw [B7]; omega, ?_, ?_⟩
       ·have hb : ¬ (m * tu.size > 2 ^ 24) := by omega
        have hb0 : ¬ (m * tu.size = 0) := Nat.mul_ne_zero s1 s2
        have hparts : (parts.map fun x => (x.1, a.eval x.2)).toList = parts.toList.map fun x => (x.1, a.eval x.2) := by simp
        simp only [Go.execOp, Instr.buildSlice, Sem.run_bind, run_underlying hun, Result.andThen_ok, Bc htu, Sem.run_ite, hb, if_false, hb0, hz3, Sem.run_pure, hparts, u1, Go.newRow, run_newObj]
        rfl
       ·refine SF (by rw [B7]; omega) ?_
        rw [Ap]
        simp
       ·have := Ot hcl (ty := u) (es := tu.size) (cap := m) (vs := us.toList) (spare := []) u2 (by simpa using hlen) (by
         have : m ≤ m * tu.size := Nat.le_mul_of_pos_right m (by omega)
         simp only [maxLen]; omega)
        simpa using this
  ·trivial
end
end Rx
namespace Rx
open Go Go.RowKit
section
variable {T : Nat → List A → Bool × List A} {e : Nat → A} {n n' : Nat} {loc loc' : Loc} {P : Program} {X : Ctx} {w0 : W0}
variable {fr : List SV} {rows : List Row} {gs : List (L × Bool)} {pc : L} {o : Oper} {g : G} {inl : Inline}
theorem MP {w : World} (h : Bn e w0 loc rows w) {r off : Nat} {row : Row} {cells : List C} {us : List Value} (hr : rows[r]? = some row) (ho : row.own = true)
  (hfit : off + us.length ≤ row.cells.length)
  (hc : ∀ vs, Aj e rows.length loc row.cells vs → Aj e rows.length loc cells (vs.take off ++ us ++ vs.drop (off + us.length))) :
  ∃ cur : List Value, w.heap[(loc r).blk]? = some (.cells cur.toArray row.ty (0, 0)) ∧ (loc r).off = 0 ∧ off + us.length ≤ cur.length ∧
   Bn e w0 loc (rows.set r { row with cells := cells }) (w.setRow (loc r).blk (cur.take off ++ us ++ cur.drop (off + us.length)).toArray) := by
 have hle := h.le
 obtain ⟨B, ⟨hBn, hBF, hBl⟩, hR, hbel⟩ := h
 have hrow := hR.row r row hr
 unfold AH at hrow
 rw [if_pos ho] at hrow
 obtain ⟨h1, h2, h3, h4, vs, sp, h5, h6, h7⟩ := hrow
 have hl := AR h6
 have e1 : (vs ++ sp).take off ++ us ++ (vs ++ sp).drop (off + us.length) = (vs.take off ++ us ++ vs.drop (off + us.length)) ++ sp := by
  rw [List.take_append_of_le_length (by omega), List.drop_append_of_le_length (by omega)]
  simp
 refine ⟨vs ++ sp, h5, h1, by simp; omega, ?_⟩
 rw [e1]
 refine ⟨B, ⟨hBn, hBF, hBl.mono (by simp [World.setRow])⟩, hR.write hBl hr ho (fun k hk => setRow_other w _ k _ hk) (setRow_heap w _ _ _ _ _ h5) (hc vs h6) ?_, hbel.trans (G3 (hBn ▸ h3.1) _)⟩
 rw [← h7]
 simp
 omega
theorem OZ {s : Au} {st : Nat} : ∀ {m b off : Nat} {l : List C}, (MD s b off st m l).length = l.length
 | 0, b, off, l => rfl
 | m + 1, b, off, l => by unfold MD; rw [OZ]; simp
theorem Io {s : Au} {b off st : Nat} (hst : 0 < st) {ls : List L} {i : Nat} {v : Value} : ∀ {m k0 : Nat} {cells : List C} {vs : List Value},
  k0 + m = ls.length → Aj e n loc cells vs →
  (∀ k, k0 ≤ k → k < ls.length → ∃ y u, ls[k]? = some y ∧ vs[off + st * k]? = some u ∧ (s.mk y).rel e n loc u) →
  (∀ k, k < ls.length → k ≠ i → ∀ y, ls[k]? = some y → e (b + k) = y.ev e) → (i < ls.length → (s.mk (.var (b + i))).rel e n loc v) →
  Aj e n loc (MD s (b + k0) (off + st * k0) st m cells) (if k0 ≤ i ∧ i < k0 + m then vs.set (off + st * i) v else vs)
 | 0, k0, cells, vs, hk, hc, _, _, _ => by
  rw [if_neg (by omega)]
  exact hc
 | m + 1, k0, cells, vs, hk, hc, hcell, hsame, hnew => by
  unfold MD
  have e1 : b + k0 + 1 = b + (k0 + 1) := by omega
  have e2 : off + st * k0 + st = off + st * (k0 + 1) := by rw [Nat.mul_succ]; omega
  rw [e1, e2]
  by_cases hki : k0 = i
  ·subst hki
   have hc1 : Aj e n loc (cells.set (off + st * k0) (.k (s.mk (.var (b + k0))))) (vs.set (off + st * k0) v) := Gt hc (c := .k (s.mk (.var (b + k0)))) (hnew (by omega)) _
   have := Io (b := b) (off := off) hst (i := k0) (v := v) (m := m) (k0 := k0 + 1) (by omega) hc1 (fun k h1 h2 => by
    obtain ⟨y, u, a1, a2, a3⟩ := hcell k (by omega) h2
    refine ⟨y, u, a1, ?_, a3⟩
    rw [List.getElem?_set_ne (by
     intro h0
     have : st * k0 < st * k := Nat.mul_lt_mul_of_pos_left (by omega) hst
     omega)]
    exact a2) hsame hnew
   rw [if_neg (by omega)] at this
   rw [if_pos (by omega)]
   exact this
  ·obtain ⟨y, u, a1, a2, a3⟩ := hcell k0 (by omega) (by omega)
   have hc1 : Aj e n loc (cells.set (off + st * k0) (.k (s.mk (.var (b + k0))))) vs := by
    have h0 := Gt hc (c := .k (s.mk (.var (b + k0)))) (v := u) (Au.MM a3 (by simpa using hsame k0 (by omega) hki y a1)) (off + st * k0)
    have : vs.set (off + st * k0) u = vs := by
     apply List.ext_getElem?
     intro j
     by_cases hj : off + st * k0 = j
     ·subst hj
      rw [List.getElem?_set_self (Ac a2), a2]
     ·rw [List.getElem?_set_ne hj]
    rwa [this] at h0
   have := Io (b := b) (off := off) hst (i := i) (v := v) (m := m) (k0 := k0 + 1) (by omega) hc1 (fun k h1 h2 => hcell k (by omega) h2) hsame hnew
   have e3 : (k0 + 1 ≤ i ∧ i < k0 + 1 + m) ↔ (k0 ≤ i ∧ i < k0 + (m + 1)) := by omega
   simp only [e3] at this
   exact this
theorem NF {α : Type} {vs : List α} {p : Nat} {u : α} {us : List α} (h : p < vs.length) :
  (vs.set p u).take (p + 1) ++ us ++ (vs.set p u).drop (p + 1 + us.length) = vs.take p ++ (u :: us) ++ vs.drop (p + (u :: us).length) := by
 have e1 : (vs.set p u).take (p + 1) = vs.take p ++ [u] := by
  rw [List.take_set, List.take_succ_eq_append_getElem h, List.set_append_right _ _ (by simp; omega)]
  simp [Nat.min_eq_left (Nat.le_of_lt h)]
 have e2 : (vs.set p u).drop (p + 1 + us.length) = vs.drop (p + (u :: us).length) := by
  rw [List.drop_set_of_lt (by omega)]
  congr 1
  simp; omega
 rw [e1, e2]
 simp
theorem Kc {st num : Nat} {x : L} (hst : 0 < st) : ∀ {news : List C} {off : Nat} {cells : List C} {g g' : G} {cs : List C}, E7 cells off st num x news g = some (cs, g') → Good T e g' →
  Good T e g ∧ cs.length = cells.length ∧ ∀ i : Nat, (x.ev e).int = i → i < num → ∀ n loc vs us, Aj e n loc cells vs → Aj e n loc news us →
   Aj e n loc cs (vs.take (off + st * i) ++ us ++ vs.drop (off + st * i + us.length)) ∧ (us = [] ∨ off + st * i + us.length ≤ vs.length)
 | [], off, cells, g, g', cs, h, hg => by
  simp only [E7, Option.some.injEq, Prod.mk.injEq] at h
  obtain ⟨rfl, rfl⟩ := h
  refine ⟨hg, rfl, fun i _ _ n loc vs us hv hu => ?_⟩
  cases us with
  | nil => exact ⟨by simpa using hv, .inl rfl⟩
  | cons => exact hu.elim
 | .k z :: news, off, cells, g, g', cs, h, hg => by
  simp only [E7, Option.bind_eq_bind, Option.bind_eq_some_iff] at h
  obtain ⟨en, hen, s, hs, ls, hls, ⟨u, z'⟩, hz, h⟩ := h
  simp only at h
  split at h
  ·cases h
  ·rename_i hus
   have hus' := Au.Af (by simpa using hus)
   subst hus'
   have hz' := K.DF hz
   subst hz'
   obtain ⟨h1, h2, h3⟩ := Kc hst h hg
   have hp := Dh h1
   obtain ⟨l1, l2⟩ := F3 hen
   obtain ⟨k1, k2⟩ := Il hls
   refine ⟨hp.1, by rw [h2, OZ], fun i hi hlt n loc vs us hv hu => ?_⟩
   cases us with
   | nil => exact hu.elim
   | cons v us =>
    have hbase : (g.BJ .upd (x :: z' :: ls) num).1 = g.next := rfl
    have hres : ∀ k y, ls[k]? = some y → e (g.next + k) = if k = i then z'.ev e else y.ev e := fun k y hy => by
     refine hp.2 k _ ?_
     simp only [D.ev, List.map_cons, hi, Int.toNat_natCast]
     by_cases hki : k = i
     ·subst hki
      rw [List.getElem?_set_self (by have := Ac hy; simpa using this), if_pos rfl]
     ·rw [List.getElem?_set_ne (Ne.symm hki), if_neg hki]
      simp [hy]
    have hcell : ∀ k, 0 ≤ k → k < ls.length → ∃ y w, ls[k]? = some y ∧ vs[off + st * k]? = some w ∧ (u.mk y).rel e n loc w := fun k _ hk => by
     have hc : en[k]? = some (en[k]'(by omega)) := List.getElem?_eq_getElem (by omega)
     obtain ⟨y, hy, hye⟩ := k2 k _ hc
     rw [hye, l2 k (by omega)] at hc
     obtain ⟨w, hw, hwr⟩ := Dt hv hc
     exact ⟨y, w, hy, hw, hwr⟩
    have hn1 := Io (b := g.next) (off := off) hst (s := u) (ls := ls) (i := i) (v := v) (m := num) (k0 := 0) (by omega) hv hcell
     (fun k hk hki y hy => by rw [hres k y hy, if_neg hki])
     (fun hil => by
      have hy : ls[i]? = some (ls[i]'hil) := List.getElem?_eq_getElem hil
      have := hres i _ hy
      rw [if_pos rfl] at this
      exact Au.MM hu.1 this)
    rw [if_pos (by omega)] at hn1
    simp only [Nat.add_zero, Nat.mul_zero] at hn1
    obtain ⟨_, w, _, hw, _⟩ := hcell i (by omega) (by omega)
    have hplt := Ac hw
    obtain ⟨q1, q2⟩ := h3 i hi hlt n loc _ us hn1 hu.2
    have e1 : off + 1 + st * i = off + st * i + 1 := by omega
    rw [e1] at q1 q2
    rw [NF hplt] at q1
    refine ⟨q1, .inr ?_⟩
    rcases q2 with rfl | q2
    ·simp; omega
    ·simp at q2 ⊢; omega
 | .clo _ _ _ :: _, _, _, _, _, _, h, _ => by simp [E7] at h
theorem G5 {t : Nat} {ty : Ty} (h : FB P t ty) {w : World} {b o : Nat} {cur us : List Value} {tt : TypeId} {v : Value} (hg : w.heap[b]? = some (.cells cur.toArray tt (0, 0)))
  (hv : v.cells = us.toArray) (hl : us.length = ty.size) (h1 : ∀ u ∈ us, u.oneCell' = true) (hfit : o + us.length ≤ cur.length) :
  (Instr.storeAt t (.pointer (some ⟨b, o, none⟩)) v).run P w = .ok () (w.setRow b (cur.take o ++ us ++ cur.drop (o + us.length)).toArray) := by
 have hst := run_storeCells_at P b o tt us 0 cur.toArray w hg (by simpa using hfit) h1
 simp only [Nat.add_zero] at hst
 simp [Instr.storeAt, Instr.sureAddr, storeVar, Bc h, hv, hl, hst]
theorem Ad.ZD {rows : List Row} {B : Bd} {w w' : World} (h : Ad e loc rows w B) (hB : B.le w) {r : Nat} {row : Row} {q q' : FD}
  (hr : rows[r]? = some row) (hq : row.lst = some q) (ho : q.own = true) (hem : (loc r).emp = false) (hw : ∀ k, k ≠ (loc r).blk → w'.heap[k]? = w.heap[k]?)
  (ho' : q'.own = true) (hn : BM e loc w' B r q') :
  Ad e loc (rows.set r { row with lst := some q' }) w' B := by
 have hlt := Ac hr
 have hrl := h.lst r row q hr hq
 have hblk := hrl.2.lt ho hem
 have hlo : B6 loc r row := ⟨q, hq, ho, hem⟩
 have other : ∀ (s : Nat) (y : Row), (rows.set r { row with lst := some q' })[s]? = some y → s ≠ r → rows[s]? = some y := fun s y hs hne => by
  rwa [List.getElem?_set_ne (Ne.symm hne)] at hs
 have same : ∀ (y : Row), (rows.set r { row with lst := some q' })[r]? = some y → y = { row with lst := some q' } := fun y hy => by
  rw [List.getElem?_set_self hlt] at hy; injection hy with hy; exact hy.symm
 have back : ∀ (s : Nat) (y : Row), (rows.set r { row with lst := some q' })[s]? = some y → ∃ y' : Row, rows[s]? = some y' ∧ y'.own = y.own ∧ (B6 loc s y → B6 loc s y') := fun s y hs => by
  by_cases hsr : s = r
  ·subst hsr
   rw [same y hs]
   exact ⟨row, hr, rfl, fun _ => hlo⟩
  ·exact ⟨y, other s y hs hsr, rfl, id⟩
 refine ⟨fun s y hs => ?_, fun s y p hs hp => ?_, fun s t x y hs ht ox oy => ?_, fun s t x y hs ht ox oy hne => ?_⟩
 ·rw [List.length_set]
  by_cases hsr : s = r
  ·subst hsr
   rw [same y hs]
   have := h.row s row hr
   unfold AH at this ⊢
   rw [if_neg (by simp [hrl.1])] at this ⊢
   intro hc
   obtain ⟨a1, a2, a3⟩ := this hc
   exact ⟨a1, a2, fun j c hj => by
    obtain ⟨v, hv, hvr⟩ := a3 j c hj
    exact ⟨v, (World.cell?_of_block (w := w) (hw _ (fun h0 => hblk.2.2 (h0 ▸ a2)))).trans hv, hvr⟩⟩
  ·have hs' := other s y hs hsr
   have hy := h.row s y hs'
   unfold AH at hy ⊢
   split
   ·rename_i oy
    rw [if_pos oy] at hy
    obtain ⟨a1, a2, a3, a4, vs', sp', a5, a6, a7⟩ := hy
    exact ⟨a1, a2, a3, a4, vs', sp', (hw _ (Ne.symm (h.lapart r s row y hr hs' hlo (.inl oy)))).trans a5, a6, a7⟩
   ·rename_i oy
    rw [if_neg oy] at hy
    intro hc'
    obtain ⟨a1, a2, a3⟩ := hy hc'
    refine ⟨a1, a2, fun j c hj => ?_⟩
    obtain ⟨v, hv, hvr⟩ := a3 j c hj
    exact ⟨v, (World.cell?_of_block (w := w) (hw _ (fun h0 => hblk.2.2 (h0 ▸ a2)))).trans hv, hvr⟩
 ·by_cases hsr : s = r
  ·subst hsr
   rw [same y hs] at hp ⊢
   simp only [Option.some.injEq] at hp
   subst hp
   exact ⟨hrl.1, hn⟩
  ·have hs' := other s y hs hsr
   obtain ⟨k1, k2⟩ := h.lst s y p hs' hp
   exact ⟨k1, k2.MB (fun h1 h2 => hw _ (h.lapart s r y row hs' hr ⟨p, hp, h1, h2⟩ (.inr ⟨hlo, hsr⟩))) (fun k hk => hw _ (fun h0 => hblk.2.2 (h0 ▸ hk)))⟩
 ·obtain ⟨x', x1, x2, x3⟩ := back s x hs
  obtain ⟨y', y1, y2, y3⟩ := back t y ht
  refine h.lapart s t x' y' x1 y1 (x3 ox) ?_
  rcases oy with oy | ⟨oy, hne⟩
  ·exact .inl (by rw [y2]; exact oy)
  ·exact .inr ⟨y3 oy, hne⟩
 ·obtain ⟨x', x1, x2, _⟩ := back s x hs
  obtain ⟨y', y1, y2, _⟩ := back t y ht
  exact h.apart s t x' y' x1 y1 (by rw [x2]; exact ox) (by rw [y2]; exact oy) hne
theorem Ls {w : World} {B : Bd} {s : Au} {c : C} {z : L} {v : Value} (h : R7 rows s c = some z) (hR : Ad e loc rows w B) (hv : c.rel e n loc v) : GZ (CF B w) s (z.ev e) v := by
 unfold R7 at h
 split at h
 ·rename_i ss r k
  simp only [Option.bind_eq_bind, Option.bind_eq_some_iff] at h
  obtain ⟨row, hrow, q, hq, h⟩ := h
  split at h
  ·rename_i hc
   simp only [Option.some.injEq] at h
   subst h
   simp only [Bool.and_eq_true, Bool.not_eq_true'] at hc
   have hs := B3 hc.2
   subst hs
   obtain ⟨as, m, h1, h2, h3, h4, h5⟩ := (hR.lst _ _ _ hrow hq).2
   rw [if_neg (by simp [hc.1.1])] at h5
   rcases hv.2.2 with h6 | h6
   ·cases h6
   ·rw [h1, h6]; exact h5.2
  ·cases h
 ·injection h with h
  subst h
  rcases hv.2.2 with h6 | h6
  ·cases h6
  ·rw [h6]; exact .emp
 ·cases h
 ·rename_i y _ _ _
  simp only [Option.bind_eq_bind, Option.bind_eq_some_iff] at h
  obtain ⟨⟨u, z'⟩, hy, h⟩ := h
  simp only at h
  split at h
  ·rename_i hus
   injection h with h
   subst h
   have hus := Au.Af hus
   subst hus
   have hsg : u.single = true := by
    cases y <;> simp only [K.Qr, Option.some.injEq, Prod.mk.injEq, reduceCtorEq] at hy
    all_goals (rw [← hy.1]; rfl)
   have hy := K.DF hy
   subst hy
   have := W9 (e := e) hv
   rw [this]
   exact .sc hsg
  ·cases h
 ·cases h
theorem Ru {ss : List Au} {x : L} : ∀ {cells : List C} {off : Nat} {X z : L} {g g' : G}, XE rows ss ss.length x off cells X g = some (z, g') → Good T e g' →
  Good T e g ∧ ∀ (as : List A) (vs : List Value) (i n : Nat) (loc : Loc) (us : List Value) (w : World) (B : Bd), Ad e loc rows w B → X.ev e = .l as → (x.ev e).int = i → Aj e n loc cells us → off + ss.length * i + us.length ≤ as.length → off + us.length ≤ ss.length →
   Cg (CF B w) ss as vs → ∃ as', z.ev e = .l as' ∧ as'.length = as.length ∧ Cg (CF B w) ss as' (vs.take (off + ss.length * i) ++ us ++ vs.drop (off + ss.length * i + us.length))
 | [], off, X, z, g, g', h, hg => by
  simp only [XE, Option.some.injEq, Prod.mk.injEq] at h
  obtain ⟨rfl, rfl⟩ := h
  refine ⟨hg, fun as vs i n loc us w B hR hX _ hu _ _ hd => ⟨as, hX, rfl, ?_⟩⟩
  cases us with
  | nil => simpa using hd
  | cons => exact hu.elim
 | c :: r, off, X, z, g, g', h, hg => by
  simp only [XE, Option.bind_eq_bind, Option.bind_eq_some_iff] at h
  obtain ⟨s, hs, z', hz, h⟩ := h
  obtain ⟨h1, h2⟩ := Ru h hg
  have hp := Ah h1
  refine ⟨hp.1, fun as vs i n loc us w B hR hX hi hu hfit hfit2 hd => ?_⟩
  cases us with
  | nil => exact hu.elim
  | cons v us =>
   simp only [List.length_cons] at hfit hfit2
   have hset : (g.push (.pset off ss.length) [X, x, z']).1.ev e = .l (as.set (off + ss.length * i) (z'.ev e)) := hp.2 _ (by simp [D.ev, hX, hi])
   have hmod : (off + ss.length * i) % ss.length = off := by rw [Nat.add_mul_mod_self_left, Nat.mod_eq_of_lt (by omega)]
   have hd' := hd.set (i := off + ss.length * i) (by rw [hmod]; exact hs) (Ls hz hR hu.1)
   obtain ⟨as', a1, a2, a3⟩ := h2 _ _ i n loc us w B hR hset hi hu.2 (by simp; omega) (by omega) hd'
   refine ⟨as', a1, by rw [a2]; simp, ?_⟩
   have hpl : off + ss.length * i < vs.length := by rw [hd.1]; omega
   have := NF (us := us) (u := v) hpl
   rw [show off + 1 + ss.length * i = off + ss.length * i + 1 by omega, this] at a3
   exact a3
theorem ZE {t : TypeId} {x y : Operand} (hX : B5 P X.Ay) (ho : o.op = .store t x y) : Bv P T e w0 fr rows gs pc o g (execOp X inl fr rows gs pc o g) := by
 obtain ⟨dst, op', ty, pos, after, guard⟩ := o
 simp only at ho
 subst ho
 simp only [execOp, Option.bind_eq_bind, Ctx.ty]
 cases ht : look t X.Ay with
 | none => trivial
 | some tt =>
  have htt := hX t tt ht
  simp only [Option.bind_some]
  cases hp : Db fr gs x with
  | none => trivial
  | some p =>
   simp only [Option.bind_some]
   cases hq : Db fr gs y with
   | none => trivial
   | some q =>
    simp only [Option.bind_some]
    unfold Ze
    have hrun : ∀ (a : Act) (w w' : World) u, a.eval x = u → (Instr.storeAt t u (a.eval y)).run P w = .ok () w' → (Go.execOp a.eval ⟨dst, .store t x y, ty, pos, after, guard⟩).run P w = .ok .skip w' := fun a w w' u h1 h2 => by
     subst h1
     simp [Go.execOp, h2]
    split
    ·rename_i r off
     cases hr : rows[r]? with
     | none => trivial
     | some row =>
      simp only [Option.bind_eq_bind, Option.bind_some]
      split
      ·trivial
      ·rename_i hc
       simp only [Bool.or_eq_true, Bool.not_eq_true', bne_iff_ne, ne_eq, decide_eq_true_eq, not_or, Bool.not_eq_false, Decidable.not_not, Nat.not_lt] at hc
       obtain ⟨⟨c1, c2⟩, c3⟩ := hc
       refine fun hg => ⟨hg, fun loc a w _ hgs hfr hcl => ?_⟩
       obtain ⟨r1, r2⟩ := EN (Aa hp hfr hgs)
       have hqr := Aa hq hfr hgs
       obtain ⟨us, u1, u2⟩ := PV.Gv hqr
       have hul : us.length = tt.size := by rw [← AR u2, c2]
       obtain ⟨cur, k1, k2, k3, k4⟩ := MP hcl (cells := setCells row.cells off q.cells) (us := us) (off := off) hr c1 (by omega) (fun vs hvs => Fg hvs u2 (by omega))
       refine .inl ⟨Go.undef, _, .inr ⟨hrun a w _ _ r2 ?_, rfl⟩, loc, AO.refl _ _, by simp, rfl, k4⟩
       rw [k2, Nat.zero_add]
       exact G5 htt k1 u1 hul (Gu u2) k3
    ·rename_i r off st num ix
     cases hr : rows[r]? with
     | none => trivial
     | some row =>
      simp only [Option.bind_eq_bind, Option.bind_some]
      split
      ·trivial
      ·rename_i hc
       simp only [Bool.or_eq_true, Bool.not_eq_true', bne_iff_ne, ne_eq, beq_iff_eq, not_or, Bool.not_eq_false, Decidable.not_not] at hc
       obtain ⟨⟨⟨c1, c2⟩, c3⟩, c4⟩ := hc
       cases hu : E7 row.cells off st num ix q.cells g with
       | none => trivial
       | some rg =>
        obtain ⟨cs, g2⟩ := rg
        simp only [Option.bind_some]
        refine fun hg => ?_
        obtain ⟨d1, d2, d3⟩ := Kc (Nat.pos_of_ne_zero c3) hu hg
        refine ⟨d1, fun loc a w _ hgs hfr hcl => ?_⟩
        obtain ⟨r1, i, r2, r3, r4⟩ := Lq (Aa hp hfr hgs)
        have hqr := Aa hq hfr hgs
        obtain ⟨us, u1, u2⟩ := PV.Gv hqr
        have hul : us.length = tt.size := by rw [← AR u2, c2]
        obtain ⟨vs0, hvs0⟩ : ∃ vs0, Aj e rows.length loc row.cells vs0 := by
         obtain ⟨B, _, hR, _⟩ := hcl
         have hrow := hR.row r row hr
         unfold AH at hrow
         rw [if_pos c1] at hrow
         obtain ⟨_, _, _, _, vs0, sp0, _, hvs0, _⟩ := hrow
         exact ⟨vs0, hvs0⟩
        have hne : us ≠ [] := fun h0 => by
         rw [h0] at hul
         exact c4 hul.symm
        have hfit : off + st * i + us.length ≤ row.cells.length := by
         rw [AR hvs0]
         rcases (d3 i r2 r3 _ _ vs0 us hvs0 u2).2 with h0 | h0
         ·exact absurd h0 hne
         ·exact h0
        obtain ⟨cur, k1, k2, k3, k4⟩ := MP hcl (cells := cs) (us := us) (off := off + st * i) hr c1 hfit (fun vs hvs => (d3 i r2 r3 _ _ vs us hvs u2).1)
        refine .inl ⟨Go.undef, _, .inr ⟨hrun a w _ _ r4 ?_, rfl⟩, loc, AO.refl _ _, by simp, rfl, k4⟩
        rw [k2, Nat.zero_add]
        exact G5 htt k1 u1 hul (Gu u2) k3
    ·rename_i r off es ix nn
     cases hr : rows[r]? with
     | none => trivial
     | some row =>
      simp only [Option.bind_eq_bind, Option.bind_some]
      cases hl : row.lst with
      | none => trivial
      | some l =>
       simp only [Option.bind_some]
       split
       ·trivial
       ·rename_i hc
        simp only [Bool.or_eq_true, Bool.not_eq_true', bne_iff_ne, ne_eq, decide_eq_true_eq, not_or, Bool.not_eq_false, Decidable.not_not, Nat.not_lt] at hc
        obtain ⟨⟨⟨⟨c1, c2⟩, c3⟩, c4⟩, c5⟩ := hc
        have c4 := L.Af c4
        subst c3
        subst c4
        cases hu : XE rows l.ss l.ss.length ix off q.cells l.x g with
        | none => trivial
        | some rg =>
         obtain ⟨z, g2⟩ := rg
         simp only [Option.bind_some]
         refine fun hg => ?_
         obtain ⟨d1, d2⟩ := Ru hu hg
         refine ⟨d1, fun loc a w _ hgs hfr hcl => ?_⟩
         obtain ⟨r1, i, r2, r3, r4⟩ := Im (Aa hp hfr hgs)
         have hqr := Aa hq hfr hgs
         obtain ⟨us, u1, u2⟩ := PV.Gv hqr
         have hul : us.length = tt.size := by rw [← AR u2, c2]
         obtain ⟨B, ⟨hBn, hBF, hBl⟩, hR, hbel⟩ := hcl
         have hlo := (hR.lst r row l hr hl).2
         obtain ⟨as, m, l1, l2, l3, l4, l6⟩ := id hlo
         rw [if_pos c1] at l6
         have him : i < m := by omega
         have hem : (loc r).emp = false := by
          cases he : (loc r).emp
          ·rfl
          ·rw [if_pos he] at l6; omega
         rw [if_neg (by simp [hem])] at l6
         obtain ⟨g1, g3, g4, vs, sp, g5, g6, g7⟩ := l6
         have hfit : off + l.ss.length * i + us.length ≤ as.length := by
          rw [l2, hul]
          have : l.ss.length * (i + 1) ≤ l.ss.length * m := Nat.mul_le_mul_left _ him
          rw [Nat.mul_succ] at this
          rw [Nat.mul_comm m]
          omega
         obtain ⟨as', a1, a2, a3⟩ := d2 as vs i _ loc us w B hR l1 r2 u2 hfit (by omega) g7
         have hsl : vs.length = as.length := g7.1
         have e1 : (vs ++ sp).take (off + l.ss.length * i) ++ us ++ (vs ++ sp).drop (off + l.ss.length * i + us.length) = (vs.take (off + l.ss.length * i) ++ us ++ vs.drop (off + l.ss.length * i + us.length)) ++ sp := by
          rw [List.take_append_of_le_length (by omega), List.drop_append_of_le_length (by omega)]
          simp
         have hst := G5 (P := P) (v := a.eval y) (o := off + l.ss.length * i) htt g5 u1 hul (Gu u2) (by rw [List.length_append]; omega)
         rw [e1] at hst
         have hmem : CF B (w.setRow (loc r).blk ((vs.take (off + l.ss.length * i) ++ us ++ vs.drop (off + l.ss.length * i + us.length)) ++ sp).toArray) = CF B w := DX fun k hk => setRow_other w _ k _ (fun h0 => g3.2 (h0 ▸ hk))
         refine .inl ⟨Go.undef, _, .inr ⟨hrun a w _ _ r4 (by rw [g1, Nat.zero_add]; exact hst), rfl⟩, loc, AO.refl _ _, by simp, rfl, B, ⟨hBn, hBF, hBl.mono (by simp [World.setRow])⟩, ?_, hbel.trans (G3 (hBn ▸ g3.1) _)⟩
         refine hR.ZD hBl hr hl c1 hem (fun k hk => setRow_other w _ k _ hk) c1 ⟨as', m, a1, by rw [a2, l2], l3, l4, ?_⟩
         rw [if_pos c1]
         rw [if_neg (by simp [hem])]
         refine ⟨g1, g3, g4, _, sp, setRow_heap w _ _ _ _ _ g5, ?_, by rw [hmem]; exact a3⟩
         have h9 := a3.1
         simp only [List.length_append, a2] at h9 g6 ⊢
         omega
    ·trivial
end
end Rx
namespace Rx
open Go Go.RowKit
section
variable {T : Nat → List A → Bool × List A} {e : Nat → A} {n n' : Nat} {loc loc' : Loc} {P : Program} {X : Ctx} {w0 : W0}
variable {fr : List SV} {rows : List Row} {gs : List (L × Bool)} {pc : L} {o : Oper} {g : G} {inl : Inline}
theorem Ad.SG {rows : List Row} {B : Bd} {w : World} (h : Ad e loc rows w B) {x : Lc} {q : FD} (ho : q.own = true)
  (hap : x.emp = false → ∀ (s : Nat) (y : Row), rows[s]? = some y → (y.own = true ∨ B6 loc s y) → (loc s).blk ≠ x.blk) (hn : BM e (AN loc rows.length x) w B rows.length q) :
  Ad e (AN loc rows.length x) (AM rows q) w B := by
 have hx := Bi loc rows.length x
 have split_ : ∀ (r : Nat) (y : Row), (AM rows q)[r]? = some y → (r < rows.length ∧ rows[r]? = some y ∧ AN loc rows.length x r = loc r) ∨ (r = rows.length ∧ AN loc rows.length x r = x ∧ y.own = false ∧ y.cells = [] ∧ y.lst = some q) := fun r y hr => by
  unfold AM at hr
  rw [List.getElem?_append] at hr
  split at hr
  ·rename_i h0
   exact .inl ⟨h0, hr, hx r h0⟩
  ·rename_i h0
   have hrn : r = rows.length := by
    have := Ac hr
    simp at this
    omega
   subst hrn
   simp only [Nat.sub_self, List.getElem?_cons_zero, Option.some.injEq] at hr
   subst hr
   exact .inr ⟨rfl, Ap _ _ _, rfl, rfl, rfl⟩
 have low : ∀ {r : Nat} {y : Row}, r < rows.length → B6 (AN loc rows.length x) r y → B6 loc r y := fun {r y} hr ⟨p, p1, p2, p3⟩ => ⟨p, p1, p2, by rw [← hx r hr]; exact p3⟩
 have emp0 : ∀ {y : Row}, B6 (AN loc rows.length x) rows.length y → x.emp = false := fun {y} ⟨p, p1, p2, p3⟩ => by rw [Ap] at p3; exact p3
 refine ⟨fun r y hr => ?_, fun r y p hr hp => ?_, fun r s y z hr hs oy oz => ?_, fun r s y z hr hs oy oz hne => ?_⟩
 ·rcases split_ r y hr with ⟨h1, h2, h3⟩ | ⟨h1, h2, h3, h4, h5⟩
  ·exact (h.row r y h2).ext h1 hx (by simp [AM])
  ·unfold AH
   rw [if_neg (by simp [h3])]
   exact fun hc => absurd h4 hc
 ·rcases split_ r y hr with ⟨h1, h2, h3⟩ | ⟨h1, h2, h3, h4, h5⟩
  ·obtain ⟨k1, k2⟩ := h.lst r y p h2 hp
   exact ⟨k1, k2.at_ h3⟩
  ·rw [hp] at h5
   injection h5 with h5
   subst h5
   subst h1
   exact ⟨h3, hn⟩
 ·rcases split_ r y hr with ⟨h1, h2, h3⟩ | ⟨h1, h2, h3, h4, h5⟩ <;> rcases split_ s z hs with ⟨g1, g2, g3⟩ | ⟨g1, g2, g3, g4, g5⟩
  ·rw [h3, g3]
   refine h.lapart r s y z h2 g2 (low h1 oy) ?_
   rcases oz with oz | ⟨oz, hne⟩
   ·exact .inl oz
   ·exact .inr ⟨low g1 oz, hne⟩
  ·rcases oz with oz | ⟨oz, hne⟩
   ·rw [g3] at oz; cases oz
   ·subst g1
    rw [h3, g2]
    exact hap (emp0 oz) r y h2 (.inr (low h1 oy))
  ·subst h1
   rw [h2, g3]
   refine (hap (emp0 oy) s z g2 ?_).symm
   rcases oz with oz | ⟨oz, hne⟩
   ·exact .inl oz
   ·exact .inr (low g1 oz)
  ·rcases oz with oz | ⟨oz, hne⟩
   ·rw [g3] at oz; cases oz
   ·omega
 ·rcases split_ r y hr with ⟨h1, h2, h3⟩ | ⟨h1, h2, h3, h4, h5⟩
  ·rcases split_ s z hs with ⟨g1, g2, g3⟩ | ⟨g1, g2, g3, g4, g5⟩
   ·rw [h3, g3]
    exact h.apart r s y z h2 g2 oy oz hne
   ·rw [g3] at oz; cases oz
  ·rw [h3] at oy; cases oy
theorem Ad.Co {rows : List Row} {B : Bd} {w : World} (h : Ad e loc rows w B) {s : Nat} {y : Row} (hs : rows[s]? = some y) (ho : y.own = true ∨ B6 loc s y) : (loc s).blk < w.heap.size := by
 rcases ho with ho | ho
 ·have := h.row s y hs
  unfold AH at this
  rw [if_pos ho] at this
  obtain ⟨_, _, _, _, _, _, h5, _⟩ := this
  exact FH h5
 ·exact (h.Su hs ho).1
theorem Bn.Co {w : World} (h : Bn e w0 loc rows w) {s : Nat} {y : Row} (hs : rows[s]? = some y) (ho : y.own = true ∨ B6 loc s y) : (loc s).blk < w.heap.size := by
 obtain ⟨B, _, h, _⟩ := h; exact h.Co hs ho
theorem Lt : ∀ {l : List K} {zs : List (Au × L)} {vs : List Value}, Eu l = some zs → Aj e n loc (E8 l) vs → zs.length = l.length ∧ vs = zs.map fun x => x.1.Bl (x.2.ev e)
 | [], zs, vs, h, hv => by
  simp only [Eu, Option.some.injEq] at h
  subst h
  cases vs with
  | nil => exact ⟨rfl, rfl⟩
  | cons => exact hv.elim
 | k :: l, zs, vs, h, hv => by
  simp only [Eu, Option.bind_eq_bind, Option.bind_eq_some_iff, Option.some.injEq] at h
  obtain ⟨⟨s, x⟩, hx, r, hr, rfl⟩ := h
  cases vs with
  | nil => exact hv.elim
  | cons v vs =>
   obtain ⟨h1, h2⟩ := Lt hr hv.2
   have hk := K.DF hx
   subst hk
   exact ⟨by simp [h1], by rw [h2, W9 hv.1]; rfl⟩
theorem F5 : ∀ {l : List K} {zs : List (Au × L)}, Eu l = some zs → (zs.map (·.1)).all Au.single = true
 | [], zs, h => by
  simp only [Eu, Option.some.injEq] at h
  subst h
  rfl
 | k :: l, zs, h => by
  simp only [Eu, Option.bind_eq_bind, Option.bind_eq_some_iff, Option.some.injEq] at h
  obtain ⟨⟨s, x⟩, hx, r, hr, rfl⟩ := h
  simp only [List.map_cons, List.all_cons, F5 hr, Bool.and_true]
  cases k <;> simp [K.Qr] at hx <;> obtain ⟨rfl, rfl⟩ := hx <;> rfl
instance : Inhabited A := ⟨.i 0⟩
theorem NG {α : Type} {zs : List α} (hz : 0 < zs.length) (m j : Nat) : ((List.replicate m zs).flatten)[j]? = if j < m * zs.length then zs[j % zs.length]? else none := by
 induction m generalizing j with
 | zero => simp
 | succ m ih =>
  rw [List.replicate_succ, List.flatten_cons]
  by_cases hj : j < zs.length
  ·rw [List.getElem?_append_left hj, if_pos (by rw [Nat.succ_mul]; omega), Nat.mod_eq_of_lt hj]
  ·rw [List.getElem?_append_right (by omega), ih]
   have : (j - zs.length) % zs.length = j % zs.length := (Nat.mod_eq_sub_mod (by omega)).symm
   rw [this, Nat.succ_mul]
   by_cases h : j < m * zs.length + zs.length
   ·rw [if_pos (by omega), if_pos h]
   ·rw [if_neg (by omega), if_neg h]
theorem ZF {zs : List (Au × L)} (hz : 0 < zs.length) (m : Nat) : B0 (zs.map (·.1)) (List.replicate m (zs.map fun x => x.2.ev e)).flatten = (List.replicate m (zs.map fun x => x.1.Bl (x.2.ev e))).flatten := by
 apply List.ext_getElem?
 intro j
 rw [Gq, NG (by simpa using hz), NG (by simpa using hz)]
 simp only [List.length_map]
 split
 ·simp only [List.getElem?_map, List.getD, Option.map_map]
  have hlt := Nat.mod_lt j hz
  simp [List.getElem?_eq_getElem hlt]
 ·rfl
theorem Vg {t u : TypeId} {tu : Ty} {zs : List (Au × L)} {k k' : IntKind} {a b : Nat} {w : World} {q : FD} (hun : P.underlying t = some (.slice u)) (htu : FB P u tu) (hz : Eu tu.zero = some zs) (hz0 : zs.length ≠ 0) (hby : tu.bytes ≤ 1000)
  (hb : b ≤ 1000000) (hab : a = b ∨ a = 0) (hcl : Bn e w0 loc rows w) (hq : q.own = true) (hty : q.ty = u) (hss : q.ss = zs.map (·.1)) (hx : q.x.ev e = .l (List.replicate a (zs.map fun x => x.2.ev e)).flatten) (hn : (q.n.ev e).int = a) :
  ∃ w', (Instr.makeSlice t (.int k a) (.int k' b)).run P w = .ok (.slice (some ⟨w.heap.size, 0, none⟩) a b) w' ∧ Bn e w0 (AN loc rows.length (.QA w.heap.size 0 b 0)) (AM rows q) w' := by
 obtain ⟨i, z, i1, i2, i3, i4, i5, i6⟩ := htu.info
 have hle : a ≤ b := by omega
 have hbb : (i.bytes : Int) * (b : Int) ≤ 281474976710656 := by
  rw [i3]
  have h1 : (tu.bytes : Int) ≤ 1000 := by omega
  calc (tu.bytes : Int) * (b : Int) ≤ 1000 * (b : Int) := Int.mul_le_mul_of_nonneg_right h1 (by omega)
   _ ≤ 1000 * 1000000 := by omega
   _ ≤ 281474976710656 := by decide
 have hm := run_make (P := P) w t u i z hun i1 i4 k k' a b (by omega) (by omega) hbb (by omega)
 obtain ⟨zl, zv⟩ := Lt hz (i6 e rows.length loc)
 have hzl : zs.length = z.cells.size := by rw [zl]; have := AR (i6 e rows.length loc); simpa [E8] using this
 have hcells : ∀ c : Nat, (madeCells z.cells (c * i.size)).toList = (List.replicate c (zs.map fun x => x.1.Bl (x.2.ev e))).flatten := fun c => by
  unfold madeCells
  rw [Array.toList_map, Array.toList_range, i2, ← i5, ← zv]
  exact Ou z.cells (by omega) c
 have hle0 := hcl.le
 obtain ⟨B, ⟨hBn, hBF, hBl⟩, hR0, hbel⟩ := hcl
 refine ⟨_, by simpa using hm, B, ⟨hBn, hBF, hBl.mono (Cm (Nat.le_refl _) _).size⟩, ?_, hbel.trans (Cm hle0 _)⟩
 have hR : Ad e loc rows (w.alloc (.cells (madeCells z.cells (b * i.size)) u)) B := hR0.below hBl (Cm (Nat.le_refl _) _)
 refine hR.SG hq (fun _ s y hs ho => Nat.ne_of_lt (hR0.Co hs ho)) ⟨_, a, hx, ?_, hn, by rw [hss]; simp; omega, ?_⟩
 ·rw [hss]; simp
 ·rw [if_pos hq]
  rw [Ap, if_neg (by simp)]
  have hlen : ∀ c : Nat, ((List.replicate c (zs.map fun x => x.1.Bl (x.2.ev e))).flatten).length = c * zs.length := fun c => by simp
  have hsplit : (madeCells z.cells (b * i.size)).toList = B0 q.ss (List.replicate a (zs.map fun x => x.2.ev e)).flatten ++ ((List.replicate (b - a) (zs.map fun x => x.1.Bl (x.2.ev e))).flatten) := by
   rw [hcells, hss, ZF (by omega), ← List.flatten_append, List.replicate_append_replicate]
   congr 2
   omega
  refine ⟨rfl, hBl.new, by simp only [maxLen]; omega, B0 q.ss (List.replicate a (zs.map fun x => x.2.ev e)).flatten, (List.replicate (b - a) (zs.map fun x => x.1.Bl (x.2.ev e))).flatten, ?_, ?_, .Gw (by rw [hss]; simp; omega) (by rw [hss]; exact F5 hz)⟩
  ·rw [hty, ← hsplit]
   simpa using heap_alloc_new w _
  ·rw [← hsplit, hcells, hlen, hss]
   simp
theorem O0 {t : TypeId} {parts : Array (Nat × Operand)} (hX : B5 P X.Ay) (ho : o.op = .buildSlice t 0 parts) : Bv P T e w0 fr rows gs pc o g (execOp X inl fr rows gs pc o g) := by
 obtain ⟨dst, op', ty, pos, after, guard⟩ := o
 simp only at ho
 subst ho
 simp only [execOp, Option.bind_eq_bind, Ctx.ty]
 cases ht : look t X.Ay with
 | none => trivial
 | some tt =>
  have htt := hX t tt ht
  simp only [Option.bind_some]
  split
  ·rename_i u hk
   cases hu : look u X.Ay with
   | none => trivial
   | some tu =>
    have htu := hX u tu hu
    have hun := AD htt hk
    simp only [Option.bind_some]
    rw [if_pos (by rfl)]
    unfold Zf
    cases hz : Eu tu.zero with
    | none => trivial
    | some zs =>
     simp only [Option.bind_eq_bind, Option.bind_some]
     split
     ·trivial
     ·rename_i hc
      simp only [Bool.or_eq_true, beq_iff_eq, Bool.not_eq_true', not_or, Bool.not_eq_false] at hc
      have hpe : parts = #[] := by
       have := hc.2
       cases parts with | mk l => cases l with | nil => rfl | cons a l => simp at this
      subst hpe
      refine fun hg => ⟨hg, fun loc a w _ hgs hfr hcl => ?_⟩
      obtain ⟨i, z, i1, i2, i3, i4, i5, i6⟩ := htu.info
      obtain ⟨B, ⟨hBn, hBF, hBl⟩, hR0, hbel⟩ := hcl
      have hR : Ad e loc rows (w.alloc (.cells #[] u)) B := hR0.below hBl (Cm (Nat.le_refl _) _)
      have hadd := hR.SG (x := .QA w.heap.size 0 0 0) (q := ⟨true, u, zs.map (·.1), .e, .n 0⟩) rfl (fun _ s y hs ho => Nat.ne_of_lt (hR0.Co hs ho)) ⟨[], 0, rfl, by simp, rfl, by simp; omega, by
       rw [if_pos rfl, Ap, if_neg (by simp)]
       exact ⟨rfl, hBl.new, Nat.zero_le _, [], [], by simpa using heap_alloc_new w _, by simp, .Gw (as := []) (by simp; omega) (F5 hz)⟩⟩
      refine .inl ⟨.slice (some ⟨w.heap.size, 0, none⟩) 0 0, w.alloc (.cells #[] u), .inl ?_, AN loc rows.length (.QA w.heap.size 0 0 0), Bi _ _ _, by simp [AM], ⟨⟨by simp [AM], by simp, fun he => ?_⟩, rfl, .inr ?_⟩, B, ⟨hBn, hBF, hBl.mono (Cm (Nat.le_refl _) _).size⟩, hadd, hbel.trans (Cm (Nat.le_trans hbel.size (Nat.le_refl _)) _)⟩
      ·simp [Go.execOp, Instr.buildSlice, run_underlying hun, Bc htu, Go.Instr.fill, Go.newRow, run_newObj]
       have h0 : Array.range 0 = #[] := Array.ext' (by simp)
       rw [h0, Array.map_empty]
      ·rw [Ap] at he
       simp at he
      ·simp only [K.Bl]
       rw [Ap]
       simp
  ·trivial
theorem SH {t : TypeId} {x y : Operand} (hX : B5 P X.Ay) (ho : o.op = .makeSlice t x y) : Bv P T e w0 fr rows gs pc o g (execOp X inl fr rows gs pc o g) := by
 obtain ⟨dst, op', ty, pos, after, guard⟩ := o
 simp only at ho
 subst ho
 simp only [execOp, Option.bind_eq_bind, Ctx.ty]
 have makeOK : ∀ {u : TypeId} {tu : Ty} {p q : PV} {k k' : IntKind} {a b : L}, FB P u tu → P.underlying t = some (.slice u) → Db fr gs x = some p → Db fr gs y = some q → p.int? = some (k, a) → q.int? = some (k', b) →
   Bv P T e w0 fr rows gs pc ⟨dst, .makeSlice t x y, ty, pos, after, guard⟩ g (WU rows u tu.bytes tu.zero a b pc g) := by
  intro u tu p q k k' a b htu hun hp hq hpi hqi
  unfold WU
  cases hz : Eu tu.zero with
  | none => trivial
  | some zs =>
   simp only [Option.bind_eq_bind, Option.bind_some]
   split
   ·trivial
   ·rename_i hc
    simp only [Bool.or_eq_true, beq_iff_eq, decide_eq_true_eq, not_or, Nat.not_lt] at hc
    have fin : ∀ (loc : Loc) (act : Act) (w : World) (qq : FD) (na nb : Nat), Holds e gs → Ax e rows.length loc fr act.tmps → Bn e w0 loc rows w → (a.ev e).int = na → (b.ev e).int = nb → nb ≤ 1000000 → (na = nb ∨ na = 0) → qq.own = true → qq.ty = u → qq.ss = zs.map (·.1) →
      qq.x.ev e = .l (List.replicate na (zs.map fun x => x.2.ev e)).flatten → (qq.n.ev e).int = na → Sy P ⟨dst, .makeSlice t x y, ty, pos, after, guard⟩ act w fun u w' => ∃ loc', AO rows.length loc loc' ∧ rows.length ≤ (AM rows qq).length ∧
       (SV.pv (.one (.k (.lsl rows.length qq.n)))).rel e (AM rows qq).length loc' u ∧ Bn e w0 loc' (AM rows qq) w' := fun loc act w qq na nb hgs hfr hcl ha hb hnb hab hq1 hq2 hq3 hq4 hq5 => by
     have e1 : act.eval x = .int k na := by rw [← ha]; exact PV.Cy hpi (Aa hp hfr hgs)
     have e2 : act.eval y = .int k' nb := by rw [← hb]; exact PV.Cy hqi (Aa hq hfr hgs)
     obtain ⟨w', r1, r2⟩ := Vg (k := k) (k' := k') hun htu hz hc.1 hc.2 hnb hab hcl hq1 hq2 hq3 hq4 hq5
     refine .inl ⟨.slice (some ⟨w.heap.size, 0, none⟩) na nb, w', .inl ?_, _, Bi _ _ _, by simp [AM], ⟨?_, rfl, .inr ?_⟩, r2⟩
     ·simp only [Go.execOp, e1, e2, Sem.run_bind, r1, Result.andThen_ok, Sem.run_pure]
     ·refine ⟨by simp [AM], by rw [hq5]; omega, fun he => ?_⟩
      rw [Ap] at he
      simp at he
     ·simp only [K.Bl]
      rw [Ap]
      simp [hq5]
    split
    ·rename_i hs
     have hs := L.Af hs
     intro hg
     have hp1 := Ah hg
     have hmu := As hp1.1
     have hin := DW hmu.1
     refine ⟨hin.1, fun loc act w hpc hgs hfr hcl => ?_⟩
     obtain ⟨b0, b1⟩ := hin.2.1 (hmu.2 hpc)
     obtain ⟨na, hna⟩ := Int.eq_ofNat_of_zero_le b0
     simp only [L.Aw, A.Ai] at b1
     refine fin loc act w _ na na hgs hfr hcl hna (by rw [← hs]; exact hna) (by omega) (.inl rfl) rfl rfl rfl ?_ hna
     exact hp1.2 _ (by simp [D.ev, hna]; rfl)
    ·split
     ·rename_i _ hs
      have hs := L.Af hs
      intro hg
      have hmu := As hg
      have hin := DW hmu.1
      refine ⟨hin.1, fun loc act w hpc hgs hfr hcl => ?_⟩
      obtain ⟨b0, b1⟩ := hin.2.1 (hmu.2 hpc)
      obtain ⟨nb, hnb⟩ := Int.eq_ofNat_of_zero_le b0
      simp only [L.Aw, A.Ai] at b1
      exact fin loc act w _ 0 nb hgs hfr hcl (by rw [hs]; rfl) hnb (by omega) (.inr rfl) rfl rfl rfl (by simp) rfl
     ·trivial
 cases ht : look t X.Ay with
 | none => trivial
 | some tt =>
  have htt := hX t tt ht
  simp only [Option.bind_some]
  cases hp : Db fr gs x with
  | none => trivial
  | some p =>
   simp only [Option.bind_some]
   cases hq : Db fr gs y with
   | none => trivial
   | some q =>
    simp only [Option.bind_some]
    split
    ·rename_i u k a k' b hk hpi hqi
     cases hu : look u X.Ay with
     | none => trivial
     | some tu =>
      have htu := hX u tu hu
      have hun := AD htt hk
      simp only [Option.bind_some]
      split
      ·exact makeOK htu hun hp hq hpi hqi
      split
      ·trivial
      ·rename_i hsz
       simp only [Bool.or_eq_true, bne_iff_ne, ne_eq, beq_iff_eq, decide_eq_true_eq, not_or, Decidable.not_not] at hsz
       obtain ⟨⟨⟨⟨s1, s2⟩, s3⟩, s4⟩, s5⟩ := hsz
       subst s2
       refine fun hg => ⟨hg, fun loc act w _ hgs hfr hcl => ?_⟩
       obtain ⟨i, z, i1, i2, i3, i4, i5, i6⟩ := htu.info
       have e1 : act.eval x = .int k a := PV.Cy hpi (Aa hp hfr hgs)
       have e2 : act.eval y = .int k' a := PV.Cy hqi (Aa hq hfr hgs)
       have hb : (i.bytes : Int) * a ≤ 281474976710656 := by
        rw [i3]
        have h1 : (tu.bytes : Int) ≤ 1000 := by omega
        have h2 : a ≤ 1000 := by omega
        calc (tu.bytes : Int) * a ≤ 1000 * a := Int.mul_le_mul_of_nonneg_right h1 (by omega)
         _ ≤ 1000 * 1000 := by omega
         _ ≤ 281474976710656 := by decide
       have hm := run_make (P := P) w t u i z hun i1 i4 k k' a a (by omega) (Int.le_refl _) hb (by omega)
       have hflat := KN (i6 e rows.length loc) a.toNat
       have hmm := Ou z.cells (by omega) a.toNat
       rw [← hmm] at hflat
       refine .inl ⟨.slice (some ⟨w.heap.size, 0, none⟩) a.toNat a.toNat, w.alloc (.cells (madeCells z.cells (a.toNat * i.size)) u), .inl ?_, AN loc rows.length (.QA w.heap.size 0 a.toNat tu.size), Bi _ _ _, by rw [B7]; omega, ?_, ?_⟩
       ·simp only [Go.execOp, e1, e2, Sem.run_bind, hm, Result.andThen_ok, Sem.run_pure]
       ·refine SF (by rw [B7]; omega) ?_
        rw [Ap]
        simp
       ·have hc : Aj e rows.length loc (List.replicate a.toNat (E8 tu.zero)).flatten (madeCells z.cells (a.toNat * i.size)).toList := by
         unfold madeCells
         rw [Array.toList_map, Array.toList_range, i2, ← i5]
         exact hflat
        have := Ot hcl (ty := u) (es := tu.size) (cap := a.toNat) (vs := (madeCells z.cells (a.toNat * i.size)).toList) (spare := []) hc (by simp [size_madeCells, i2]) (by simp only [maxLen]; omega)
        simpa using this
    ·rename_i u k a k' b _ hk hpi hqi
     cases hu : look u X.Ay with
     | none => trivial
     | some tu => exact makeOK (hX u tu hu) (AD htt hk) hp hq hpi hqi
    ·trivial
theorem FJ {d l : Nat} {p : Option PV} (h : MF d p = some l) : (p = none ∧ l = d) ∨ ∃ q k, p = some q ∧ q.int? = some (k, .n (l : Int)) := by
 unfold MF at h
 split at h
 ·injection h with h; exact .inl ⟨rfl, h.symm⟩
 ·rename_i q
  split at h
  ·rename_i k x hq
   split at h
   ·rename_i h0
    injection h with h
    refine .inr ⟨q, k, rfl, ?_⟩
    rw [hq, ← h]
    congr 3
    omega
   ·cases h
  ·cases h
theorem AaX {r off es m c : Nat} {v : Value} (hr : r < n) (h : v = .slice (some ⟨(loc r).blk, (loc r).off + off, none⟩) m c) : (PV.one (.k (.aslc r off es m c))).rel e n loc v :=
 ⟨hr, by rw [h]; rfl, .inr (by rw [h]; rfl)⟩
theorem JH {y : Option Operand} {q : Option PV} {a : Act} (h : GU fr gs y = some q)
  (hfr : Ax e n loc fr a.tmps) (hgs : Holds e gs) : (y = none ∧ q = none) ∨ ∃ x p, y = some x ∧ q = some p ∧ p.rel e n loc (a.eval x) := by
 cases y with
 | none => simp [GU] at h; exact .inl ⟨rfl, h.symm⟩
 | some x =>
  simp only [GU, Option.bind_eq_bind, Option.bind_eq_some_iff, Option.some.injEq] at h
  obtain ⟨p, hp, rfl⟩ := h
  exact .inr ⟨x, p, rfl, rfl, Aa hp hfr hgs⟩
theorem run_sliceBound {k : IntKind} {l cap : Nat} {b : BoundsCode} {w : World} (h : l ≤ cap) : (Instr.sliceBound (.int k (l : Int)) cap b).run P w = .ok l w := by
 simp [Instr.sliceBound, asIntOf, h]
theorem Vh (b o k : Nat) : (⟨b, o, none⟩ : Addr).add k = ⟨b, o + k, none⟩ := by
 unfold Addr.add
 split <;> simp_all
theorem Ad.ZG {rows : List Row} {w : World} {B : Bd} {ss : List Au} {Z K : L} {v : Value} (hR : Ad e loc rows w B) (hF : EM e (CF B w) (BK ss Z K) v) : Ad e (CG loc rows.length [v]) (rows ++ [BK ss Z K]) w B :=
 hR.OW (news := [BK ss Z K]) (vs := [v]) fun t row ht => by
  cases t with
  | zero =>
   simp only [List.getElem?_cons_zero, Option.some.injEq] at ht
   subst ht
   exact ⟨_, rfl, hF⟩
  | succ t => simp at ht
theorem GZ.part {M : Addr → Option Value} {ss : List Au} {as : List A} {b : Option Addr} {m c : Nat} (h : GZ M (.sl ss) (.l as) (.slice b m c)) (hs : 0 < ss.length) {i j : Nat} (hij : i ≤ j) (hj : j ≤ m) :
  GZ M (.sl ss) (.l ((as.take (j * ss.length)).drop (i * ss.length))) (sliced b i j c ss.length) := by
 by_cases hlt : i = j
 ·subst hlt
  have he : (as.take (i * ss.length)).drop (i * ss.length) = [] := List.drop_eq_nil_of_le (by rw [List.length_take]; exact Nat.min_le_left _ _)
  rw [he]
  unfold sliced
  rw [Nat.sub_self]
  exact .emp
 ·cases h with
  | sc h => simp [Au.single] at h
  | emp => omega
  | sl hc h0 h1 h2 h3 h4 =>
   rename_i us b' o
   have hne : ¬ c = i := by omega
   have hmul : j * ss.length ≤ m * ss.length := Nat.mul_le_mul_right _ hj
   have hmi : i * ss.length ≤ j * ss.length := Nat.mul_le_mul_right _ hij
   unfold sliced
   rw [if_neg hne, Option.map_some, Vh]
   refine .sl (us := (us.take (j * ss.length)).drop (i * ss.length)) (by omega) h0 ?_ ?_ (fun k u hu => ?_) (fun k s a u q1 q2 q3 => ?_)
   ·rw [List.length_drop, List.length_take, h1, Nat.min_eq_left hmul, ← Nat.sub_mul]
   ·rw [List.length_drop, List.length_take, List.length_drop, List.length_take, h2]
   ·rw [List.getElem?_drop, List.getElem?_take] at hu
    split at hu
    ·have := h3 _ _ hu
     rw [Nat.add_assoc]
     exact this
    ·cases hu
   ·rw [List.getElem?_drop, List.getElem?_take] at q2 q3
    split at q2
    ·rename_i hk
     rw [if_pos hk] at q3
     refine h4 (i * ss.length + k) s a u ?_ q2 q3
     rw [Nat.mul_comm i, Nat.mul_add_mod]
     exact q1
    ·cases q2
theorem JI {d x : L} {p : Option PV} {y : Option Operand} {a : Act} (h : Qy d p = some x) (ho : (y = none ∧ p = none) ∨ ∃ z q, y = some z ∧ p = some q ∧ q.rel e n loc (a.eval z)) :
  (y = none ∧ x = d) ∨ ∃ z k, y = some z ∧ a.eval z = .int k (x.ev e).int := by
 unfold Qy at h
 split at h
 ·injection h with h
  rcases ho with ⟨q1, _⟩ | ⟨_, _, _, q2, _⟩
  ·exact .inl ⟨q1, h.symm⟩
  ·cases q2
 ·rename_i p
  split at h
  ·rename_i k x' hx
   injection h with h
   subst h
   rcases ho with ⟨_, q2⟩ | ⟨z, q, q1, q2, q3⟩
   ·cases q2
   ·injection q2 with q2
    subst q2
    exact .inr ⟨z, k, q1, PV.Cy hx q3⟩
  ·cases h
theorem Tw {es : Nat} {p : PV} {lo hi : Option PV} {v : SV} {g' : G} (h : Ic rows es p lo hi pc g = some (v, none, g')) : False := by
 unfold Ic at h
 split at h
 ·split at h
  ·cases h
  ·split at h
   ·cases h
   ·split at h
    ·cases h
    ·split at h
     ·simp at h
     ·cases h
 ·cases h
theorem Tx {es : Nat} {p : PV} {lo hi : Option PV} {v : SV} {rows' : List Row} {g' : G} (h : Ic rows es p lo hi pc g = some (v, some rows', g')) : ∃ news, rows' = rows ++ news := by
 unfold Ic at h
 split at h
 ·split at h
  ·cases h
  ·split at h
   ·cases h
   ·split at h
    ·cases h
    ·split at h
     ·simp only [Option.some.injEq, Prod.mk.injEq] at h
      exact ⟨_, h.2.1.symm⟩
     ·cases h
 ·cases h
theorem SI {t u : TypeId} {tu : Ty} {p : PV} {l h : Option PV} {lo hi : Option Operand} {v : SV} {rows' : List Row} {g' : G} (htu : FB P u tu) (hun : P.underlying t = some (.slice u))
  (hs : Ic rows tu.size p l h pc g = some (v, some rows', g')) (hg : Good T e g') :
  Good T e g ∧ ∀ (loc : Loc) (w : World) (a : Act) (vp : Value), (pc.ev e).bool = true → Bn e w0 loc rows w → p.rel e rows.length loc vp →
   ((lo = none ∧ l = none) ∨ ∃ z q, lo = some z ∧ l = some q ∧ q.rel e rows.length loc (a.eval z)) → ((hi = none ∧ h = none) ∨ ∃ z q, hi = some z ∧ h = some q ∧ q.rel e rows.length loc (a.eval z)) →
   ∃ x, (Instr.sliceAt t vp (lo.map a.eval) (hi.map a.eval) none).run P w = .ok x w ∧ ∃ loc', AO rows.length loc loc' ∧ rows.length ≤ rows'.length ∧ v.rel e rows'.length loc' x ∧ Bn e w0 loc' rows' w := by
 unfold Ic at hs
 split at hs
 ·rename_i r k
  split at hs
  ·cases hs
  rename_i row hrow
  split at hs
  ·cases hs
  rename_i a ha
  split at hs
  ·cases hs
  rename_i hc
  simp only [Bool.or_eq_true, Bool.not_eq_true', bne_iff_ne, ne_eq, beq_iff_eq, not_or, Decidable.not_not, Bool.not_eq_false, Bool.not_eq_true] at hc
  obtain ⟨⟨⟨c1, c2⟩, c3⟩, c4⟩ := hc
  have c4 := L.Af c4
  split at hs
  ·rename_i i j hi' hj'
   simp only [Option.some.injEq, Prod.mk.injEq] at hs
   obtain ⟨rfl, rfl, rfl⟩ := hs
   have hk := Ah hg
   have hz := Ah hk.1
   have m3 := As hz.1
   have q3 := AB m3.1
   have m2 := As q3.1
   have q2 := AB m2.1
   have m1 := As q2.1
   have q1 := AB m1.1
   refine ⟨q1.1, fun loc w act vp hpc hcl hp hlo hhi => ?_⟩
   have o1 : (0 : Int) ≤ (i.ev e).int := by
    have := m1.2 hpc
    rw [q1.2] at this
    exact of_decide_eq_true this
   have o2 : (i.ev e).int ≤ (j.ev e).int := by
    have := m2.2 hpc
    rw [q2.2] at this
    exact of_decide_eq_true this
   have o3 : (j.ev e).int ≤ (k.ev e).int := by
    have := m3.2 hpc
    rw [q3.2] at this
    exact of_decide_eq_true this
   obtain ⟨B, hB, hR, hbel⟩ := hcl
   obtain ⟨as, m, l1, l2, l3, l4, l5⟩ := (hR.lst r row a hrow ha).2
   rw [if_neg (by simp [c1])] at l5
   obtain ⟨⟨b, c, g1, g2⟩, g3⟩ := l5
   have hv : vp = .slice b m c := by
    rcases hp.2.2 with h6 | h6
    ·cases h6
    ·rw [h6]; exact g1
   rw [g1] at g3
   have hcap := g3.cap
   have hkm : (k.ev e).int = (m : Nat) := by rw [c4]; exact l3
   obtain ⟨i', hi2⟩ : ∃ i' : Nat, (i.ev e).int = (i' : Nat) := ⟨(i.ev e).int.toNat, by omega⟩
   obtain ⟨j', hj2⟩ : ∃ j' : Nat, (j.ev e).int = (j' : Nat) := ⟨(j.ev e).int.toNat, by omega⟩
   have hpart := g3.part l4 (i := i') (j := j') (by omega) (by omega)
   have hel : P.elem t = u := by simp [Program.elem, hun]
   have hun' : P.underlying t = some (.slice (P.elem t)) := by rw [hel]; exact hun
   have hrun : (Instr.sliceAt t vp (lo.map act.eval) (hi.map act.eval) none).run P w = .ok (sliced b i' j' c a.ss.length) w := by
    rw [hv, run_sliceAt_slice w t _ _ _ _ hun', c2]
    rcases JI hi' hlo with ⟨z1, z2⟩ | ⟨y1, k1, z1, z2⟩ <;> rcases JI hj' hhi with ⟨z3, z4⟩ | ⟨y2, k2, z3, z4⟩
    ·have e1 : i' = 0 := by rw [z2] at hi2; simp at hi2; omega
     have e2 : j' = m := by rw [z4] at hj2; omega
     rw [z1, z3, e1, e2]
     simp only [Option.map_none]
     rw [run_slice_all w t b m c hun', hel]
     simp [Bc htu]
    ·have e1 : i' = 0 := by rw [z2] at hi2; simp at hi2; omega
     rw [z1, z3, e1]
     simp only [Option.map_none, Option.map_some, z4]
     rw [run_slice_h w t b m c hun' k2 _ (by omega) (by omega), hel, hj2]
     simp [Bc htu]
    ·have e2 : j' = m := by rw [z4] at hj2; omega
     rw [z1, z3, e2]
     simp only [Option.map_none, Option.map_some, z2]
     rw [run_slice_l w t b m c hun' k1 _ (by omega) (by omega), hel, hi2]
     simp [Bc htu]
    ·rw [z1, z3]
     simp only [Option.map_some, z2, z4]
     rw [run_slice_lh w t b m c hun' k1 k2 _ _ (by omega) (by omega) (by omega), hel, hi2, hj2]
     simp [Bc htu]
   have ez := hz.2 (.l ((as.take (j' * tu.size)).drop (i' * tu.size))) (by simp [D.ev, l1, hi2, hj2])
   have hlen : ((as.take (j' * tu.size)).drop (i' * tu.size)).length = (j' - i') * tu.size := by
    have : j' * tu.size ≤ m * tu.size := Nat.mul_le_mul_right _ (by omega)
    rw [List.length_drop, List.length_take, l2, c2, Nat.min_eq_left this, ← Nat.sub_mul]
   have ek := SC hg ez
   rw [hlen, Nat.mul_div_cancel _ (by omega)] at ek
   rw [c2] at hpart hrun
   refine ⟨_, hrun, CG loc rows.length [sliced b i' j' c tu.size], Cn loc rows.length _, by simp, ?_, B, hB, hR.ZG ⟨rfl, rfl, _, _, j' - i', rfl, rfl, l4, ez, by rw [hlen]; simp only [BK, c2], by simp only [BK]; rw [ek]; rfl, hpart⟩, hbel⟩
   have hat := DY loc rows.length (vs := [sliced b i' j' c tu.size]) (t := 0) rfl
   rw [Nat.add_zero] at hat
   refine ⟨⟨by simp, by rw [ek]; exact Int.natCast_nonneg _, ?_⟩, rfl, .inr ?_⟩
   ·rw [hat, CR, ek]
    exact ⟨_, _, rfl⟩
   ·show _ = (CG loc rows.length _ rows.length).v
    rw [hat, CR]
  ·cases hs
 ·cases hs
theorem Tz {p : PV} {lo hi : Option PV} {v : SV} {rows' : List Row} {g' : G} (h : OI p lo hi pc g = some (v, some rows', g')) : False := by
 unfold OI at h
 split at h
 ·simp only at h
  split at h
  ·simp [one] at h
  ·cases h
 ·cases h
theorem AbV {x : L} {s : ByteArray} (h : x.ev e = .v (.string s)) : (PV.one (.k (.str x))).rel e n loc (.string s) := ⟨trivial, rfl, .inr (by simp [K.Bl, h, A.str, A.val, strOf])⟩
theorem XO {t : TypeId} {p : PV} {l h : Option PV} {lo hi : Option Operand} {x : Operand} (hun : P.underlying t = some .string) (ho : o.op = .slice t x lo hi none) (hp : Db fr gs x = some p) (hl : GU fr gs lo = some l) (hh : GU fr gs hi = some h) :
  Bv P T e w0 fr rows gs pc o g (OI p l h pc g) := by
 obtain ⟨dst, op', ty, pos, after, guard⟩ := o
 simp only at ho
 subst ho
 unfold OI
 split
 ·rename_i y
  cases hi' : Qy (.n 0) l with
  | none => trivial
  | some i =>
   cases hj' : Qy (H6 y g).1 h with
   | none => simp only [hi', hj']; trivial
   | some j =>
    simp only [hi', hj']
    refine Ae fun hg => ?_
    have hz := Ah hg
    have m3 := As hz.1
    have q3 := AB m3.1
    have m2 := As q3.1
    have q2 := AB m2.1
    have m1 := As q2.1
    have q1 := AB m1.1
    have hn := Ny q1.1
    refine ⟨hn.1, fun loc act w1 hpc hgs hfr _ => ?_⟩
    have hv : act.eval x = .string (y.ev e).str := Oo (Aa hp hfr hgs)
    have hlo := JH hl hfr hgs
    have hhi := JH hh hfr hgs
    have o1 : (0 : Int) ≤ (i.ev e).int := by
     have := m1.2 hpc
     rw [q1.2] at this
     exact of_decide_eq_true this
    have o2 : (i.ev e).int ≤ (j.ev e).int := by
     have := m2.2 hpc
     rw [q2.2] at this
     exact of_decide_eq_true this
    have o3 : (j.ev e).int ≤ ((H6 y g).1.ev e).int := by
     have := m3.2 hpc
     rw [q3.2] at this
     exact of_decide_eq_true this
    have ek : ((H6 y g).1.ev e).int = ((y.ev e).str.size : Int) := by rw [hn.2]; rfl
    obtain ⟨i', hi2⟩ : ∃ i' : Nat, (i.ev e).int = (i' : Nat) := ⟨(i.ev e).int.toNat, by omega⟩
    obtain ⟨j', hj2⟩ : ∃ j' : Nat, (j.ev e).int = (j' : Nat) := ⟨(j.ev e).int.toNat, by omega⟩
    have ez := hz.2 (.v (.string ((y.ev e).str.extract i' j'))) (by simp [D.ev, hi2, hj2])
    have hb : ∀ w, (Instr.sliceBounds false (y.ev e).str.size (y.ev e).str.size (lo.map act.eval) (hi.map act.eval) none).run P w = .ok (i', j', (y.ev e).str.size) w := fun w => by
     rcases JI hi' hlo with ⟨z1, z2⟩ | ⟨y1, k1, z1, z2⟩ <;> rcases JI hj' hhi with ⟨z3, z4⟩ | ⟨y2, k2, z3, z4⟩
     ·have e1 : i' = 0 := by rw [z2] at hi2; simp at hi2; omega
      have e2 : j' = (y.ev e).str.size := by rw [z4] at hj2; omega
      simp [Instr.sliceBounds, z1, z3, e1, e2]
     ·have e1 : i' = 0 := by rw [z2] at hi2; simp at hi2; omega
      rw [hj2] at z4
      simp [Instr.sliceBounds, z1, z3, z4, e1, run_sliceBound (show j' ≤ (y.ev e).str.size by omega)]
     ·have e2 : j' = (y.ev e).str.size := by rw [z4] at hj2; omega
      rw [hi2] at z2
      simp [Instr.sliceBounds, z1, z2, z3, e2, run_sliceBound (show i' ≤ (y.ev e).str.size by omega)]
     ·rw [hj2] at z4
      rw [hi2] at z2
      simp [Instr.sliceBounds, z1, z2, z3, z4, run_sliceBound (show j' ≤ (y.ev e).str.size by omega), run_sliceBound (show i' ≤ j' by omega)]
    refine ⟨_, AbV ez, fun w _ => ?_⟩
    simp [Go.execOp, Instr.sliceAt, Instr.slice, run_underlying hun, hv, hb]
 ·trivial
theorem ZH {t : TypeId} {x : Operand} {lo hi : Option Operand} (hX : B5 P X.Ay) (ho : o.op = .slice t x lo hi none) : Bv P T e w0 fr rows gs pc o g (execOp X inl fr rows gs pc o g) := by
 obtain ⟨dst, op', ty, pos, after, guard⟩ := o
 simp only at ho
 subst ho
 simp only [execOp, Option.bind_eq_bind, Ctx.ty]
 cases ht : look t X.Ay with
 | none => trivial
 | some tt =>
  have htt := hX t tt ht
  simp only [Option.bind_some]
  cases hp : Db fr gs x with
  | none => trivial
  | some p =>
   simp only [Option.bind_some]
   cases hl : GU fr gs lo with
   | none => trivial
   | some l =>
    simp only [Option.bind_some]
    cases hh : GU fr gs hi with
    | none => trivial
    | some h =>
     simp only [Option.bind_some]
     split
     ·rename_i m u hk
      cases hu : look u X.Ay with
      | none => trivial
      | some tu =>
       have htu := hX u tu hu
       have hun := Ik htt hk
       simp only [Option.bind_some]
       unfold Sg
       split
       ·rename_i r off
        cases h1 : MF 0 l with
        | none => trivial
        | some l' =>
         simp only [Option.bind_some, Option.bind_eq_bind]
         cases h2 : MF m h with
         | none => trivial
         | some h' =>
          simp only [Option.bind_some]
          split
          ·rename_i hlt
           simp only [Bool.and_eq_true, decide_eq_true_eq] at hlt
           refine Ae fun hg => ⟨hg, fun loc a w1 _ hgs hfr _ => ?_⟩
           obtain ⟨r1, r2⟩ := EN (Aa hp hfr hgs)
           have hbounds : ∀ w, (Instr.sliceBounds false m m (lo.map a.eval) (hi.map a.eval) none).run P w = .ok (l', h', m) w := fun w => by
            have elo : (lo = none ∧ l' = 0) ∨ ∃ y k, lo = some y ∧ a.eval y = .int k (l' : Int) := by
             rcases JH hl hfr hgs with ⟨q1, q2⟩ | ⟨y, q, q1, q2, q3⟩
             ·subst q2
              rcases FJ h1 with ⟨_, z⟩ | ⟨_, _, z, _⟩
              ·exact .inl ⟨q1, z⟩
              ·cases z
             ·subst q2
              rcases FJ h1 with ⟨z, _⟩ | ⟨q', k, z, z2⟩
              ·cases z
              ·injection z with z
               subst z
               exact .inr ⟨y, k, q1, PV.Cy z2 q3⟩
            have ehi : (hi = none ∧ h' = m) ∨ ∃ y k, hi = some y ∧ a.eval y = .int k (h' : Int) := by
             rcases JH hh hfr hgs with ⟨q1, q2⟩ | ⟨y, q, q1, q2, q3⟩
             ·subst q2
              rcases FJ h2 with ⟨_, z⟩ | ⟨_, _, z, _⟩
              ·exact .inl ⟨q1, z⟩
              ·cases z
             ·subst q2
              rcases FJ h2 with ⟨z, _⟩ | ⟨q', k, z, z2⟩
              ·cases z
              ·injection z with z
               subst z
               exact .inr ⟨y, k, q1, PV.Cy z2 q3⟩
            rcases elo with ⟨z1, z2⟩ | ⟨y1, k1, z1, z2⟩ <;> rcases ehi with ⟨z3, z4⟩ | ⟨y2, k2, z3, z4⟩
            ·simp [Instr.sliceBounds, z1, z2, z3, z4]
            ·simp [Instr.sliceBounds, z1, z2, z3, z4, run_sliceBound hlt.2]
            ·simp [Instr.sliceBounds, z1, z2, z3, z4, run_sliceBound (show l' ≤ m by omega)]
            ·simp [Instr.sliceBounds, z1, z2, z3, z4, run_sliceBound hlt.2, run_sliceBound (show l' ≤ h' by omega)]
           refine ⟨_, AaX (off := off + l' * tu.size) r1 rfl, fun w _ => ?_⟩
           have hne : ¬ (m = l') := by omega
           simp [Go.execOp, Instr.sliceAt, run_underlying hun, r2, Instr.sureAddr, hbounds, Bc htu, hne, addr_add, Nat.add_assoc]
          ·trivial
       ·trivial
     ·rename_i u hk
      cases hu : look u X.Ay with
      | none => trivial
      | some tu =>
       have htu := hX u tu hu
       have hun := AD htt hk
       simp only [Option.bind_some]
       cases hs : Ic rows tu.size p l h pc g with
       | none => trivial
       | some r =>
        obtain ⟨v, rr, g'⟩ := r
        cases rr with
        | none => exact (Tw hs).elim
        | some rows' =>
         intro hg
         obtain ⟨k1, k2⟩ := SI (lo := lo) (hi := hi) htu hun hs hg
         refine ⟨k1, fun loc a w hpc hgs hfr hw => ?_⟩
         obtain ⟨x', h1, h2⟩ := k2 loc w a _ hpc hw (Aa hp hfr hgs) (JH hl hfr hgs) (JH hh hfr hgs)
         refine .inl ⟨x', w, .inl ?_, h2⟩
         simp [Go.execOp, h1]
     ·rename_i hk
      exact XO (BE htt hk) rfl hp hl hh
     ·trivial
end
end Rx
namespace Rx
open Go Go.RowKit
section
variable {T : Nat → List A → Bool × List A} {e : Nat → A} {n n' : Nat} {loc loc' : Loc} {P : Program} {X : Ctx} {w0 : W0}
variable {fr : List SV} {rows : List Row} {gs : List (L × Bool)} {pc : L} {o : Oper} {g : G} {inl : Inline}
theorem Ad.grow {rows : List Row} {B : Bd} {w w' : World} (h : Ad e loc rows w B) {ty es cap gb : Nat} {cells : List C} {vs spare : List Value}
  (hw : ∀ k, B.F k → w'.heap[k]? = w.heap[k]?) (ho : ∀ s y, rows[s]? = some y → (y.own = true ∨ B6 loc s y) → (loc s).blk ≠ gb ∧ w'.heap[(loc s).blk]? = w.heap[(loc s).blk]?)
  (hg : B.own gb) (hn : w'.heap[gb]? = some (.cells (vs ++ spare).toArray ty (0, 0)))
  (hc : Aj e rows.length loc cells vs) (hl : (vs ++ spare).length = cap * es) (hm : cap ≤ maxLen) :
  Ad e (AN loc rows.length (.QA gb 0 cap es)) (newRow rows ty es cells) w' B := by
 have hx := Bi loc rows.length (.QA gb 0 cap es)
 have hlen : (newRow rows ty es cells).length = rows.length + 1 := by simp [newRow]
 have old : ∀ r x, (newRow rows ty es cells)[r]? = some x → r ≠ rows.length → rows[r]? = some x := fun r x hx hne => by
  simp only [newRow, List.getElem?_append] at hx
  split at hx
  ·exact hx
  ·rename_i h0
   have := Ac hx
   simp at this
   omega
 have new : ∀ x, (newRow rows ty es cells)[rows.length]? = some x → x = { own := true, ty, es, cells } := fun x hx => by
  simp [newRow] at hx; exact hx.symm
 have oldl : ∀ (r : Nat) (x : Row) (q : FD), (newRow rows ty es cells)[r]? = some x → x.lst = some q → rows[r]? = some x := fun r x q hr hq => by
  refine old r x hr fun h0 => ?_
  subst h0
  rw [new x hr] at hq
  cases hq
 refine ⟨fun r x hr => ?_, fun r x q hr hq => ?_, fun r s x y hr hs hox hoy => ?_, fun r s x y hr hs hox hoy hne => ?_⟩
 rotate_left
 ·have hr' := oldl r x q hr hq
  obtain ⟨k1, k2⟩ := h.lst r x q hr' hq
  exact ⟨k1, (k2.MB (fun h1 h2 => (ho r x hr' (.inr ⟨q, hq, h1, h2⟩)).2) hw).at_ (hx r (Ac hr'))⟩
 ·obtain ⟨q, k1, k2, k3⟩ := hox
  have hr' := oldl r x q hr k1
  rw [hx r (Ac hr')] at k3 ⊢
  by_cases hsn : s = rows.length
  ·subst hsn
   rw [Ap]
   exact (ho r x hr' (.inr ⟨q, k1, k2, k3⟩)).1
  ·have hs' := old s y hs hsn
   have hls := hx s (Ac hs')
   rw [hls]
   refine h.lapart r s x y hr' hs' ⟨q, k1, k2, k3⟩ ?_
   rcases hoy with hoy | ⟨⟨q', m1, m2, m3⟩, hne⟩
   ·exact .inl hoy
   ·exact .inr ⟨⟨q', m1, m2, by rw [← hls]; exact m3⟩, hne⟩
 rotate_left
 ·rw [hlen]
  by_cases hrn : r = rows.length
  ·subst hrn
   rw [new x hr]
   unfold AH
   rw [if_pos rfl, Ap]
   exact ⟨rfl, rfl, hg, hm, vs, spare, hn, Gs hc hx (by omega), hl⟩
  ·have hr' := old r x hr hrn
   refine AH.ext (n := rows.length) (loc := loc) ?_ (Ac hr') hx (by omega)
   have hrow := h.row r x hr'
   unfold AH at hrow ⊢
   split
   ·rename_i ox
    rw [if_pos ox] at hrow
    obtain ⟨a1, a2, a3, a4, vs', sp', a5, a6, a7⟩ := hrow
    exact ⟨a1, a2, a3, a4, vs', sp', (ho r x hr' (.inl ox)).2.trans a5, a6, a7⟩
   ·rename_i ox
    rw [if_neg ox] at hrow
    intro hc'
    obtain ⟨a1, a2, a3⟩ := hrow hc'
    refine ⟨a1, a2, fun j c hj => ?_⟩
    obtain ⟨v, hv, hvr⟩ := a3 j c hj
    exact ⟨v, (World.cell?_of_block (w := w) (hw _ a2)).trans hv, hvr⟩
 ·by_cases hrn : r = rows.length
  ·by_cases hsn : s = rows.length
   ·omega
   ·have hs' := old s y hs hsn
    subst hrn
    rw [Ap, hx s (Ac hs')]
    exact fun h0 => (ho s y hs' (.inl hoy)).1 h0.symm
  ·have hr' := old r x hr hrn
   rw [hx r (Ac hr')]
   by_cases hsn : s = rows.length
   ·subst hsn
    rw [Ap]
    exact (ho r x hr' (.inl hox)).1
   ·have hs' := old s y hs hsn
    rw [hx s (Ac hs')]
    exact h.apart r s x y hr' hs' hox hoy hne
theorem Dk {v : Value} (h : (PV.one (.k .nilslc)).rel e n loc v) : v = .slice none 0 0 := by
 rcases h.2.2 with h1 | h1
 ·cases h1
 ·exact h1
theorem E3 {l r : List C} {off k j : Nat} {c : C} (h : Dp l off k = some r) (hj : r[j]? = some c) : l[off + j]? = some c := by
 obtain ⟨h1, rfl, h3⟩ := Br h
 have hlt := Ac hj
 rw [List.getElem?_take] at hj
 split at hj
 ·rwa [List.getElem?_drop] at hj
 ·cases hj
theorem MQ {es m : Nat} {q : PV} {news : List C} {v : Value} {w : World} (h : KB rows es q = some (m, news)) (hm : m ≠ 0) (he : es ≠ 0) (hcl : Bn e w0 loc rows w) (hq : q.rel e rows.length loc v) :
  ∃ a c us, v = .slice (some a) m c ∧ news.length = m * es ∧ Aj e rows.length loc news us ∧ ∀ j u, us[j]? = some u → w.cell? (a.add j) = some u := by
 unfold KB at h
 split at h
 ·rename_i r off n'
  simp only [Option.bind_eq_bind, Option.bind_eq_some_iff] at h
  obtain ⟨row, hrow, h⟩ := h
  split at h
  ·cases h
  ·rename_i hes
   simp only [bne_iff_ne, ne_eq, Decidable.not_not] at hes
   simp only [Option.bind_eq_some_iff, Option.some.injEq, Prod.mk.injEq] at h
   obtain ⟨cs, hcs, rfl, rfl⟩ := h
   obtain ⟨r1, r2⟩ := D4 hq
   obtain ⟨t1, t2, t3⟩ := Br hcs
   have hne : row.cells.isEmpty = false := by
    cases hcc : row.cells with
    | nil =>
     rw [hcc] at t1
     have : 0 < n' * es := Nat.mul_pos (by omega) (by omega)
     simp at t1
     omega
    | cons => rfl
   have hle := hcl.es hrow hne
   obtain ⟨us, u1, u2⟩ := Di (e := e) (n := rows.length) (loc := loc) (w := w) (b := (loc r).blk) (o := (loc r).off + off * es) (cs := cs) (fun j c hj => by
    obtain ⟨v, v1, v2⟩ := hcl.cell hrow (E3 hcs hj)
    exact ⟨v, by rw [Nat.add_assoc]; exact v1, v2⟩)
   rw [hle, hes] at r2
   exact ⟨_, _, us, r2, t3, u1, fun j u hu => by rw [addr_add]; exact u2 j u hu⟩
 ·rename_i r off es' n' cap
  simp only [Option.bind_eq_bind, Option.bind_eq_some_iff] at h
  obtain ⟨row, hrow, h⟩ := h
  split at h
  ·cases h
  ·rename_i hes
   simp only [Option.bind_eq_some_iff, Option.some.injEq, Prod.mk.injEq] at h
   obtain ⟨cs, hcs, rfl, rfl⟩ := h
   obtain ⟨r1, r2⟩ := GA hq
   obtain ⟨t1, t2, t3⟩ := Br hcs
   obtain ⟨us, u1, u2⟩ := Di (e := e) (n := rows.length) (loc := loc) (w := w) (b := (loc r).blk) (o := (loc r).off + off) (cs := cs) (fun j c hj => by
    obtain ⟨v, v1, v2⟩ := hcl.cell hrow (E3 hcs hj)
    exact ⟨v, by rw [Nat.add_assoc]; exact v1, v2⟩)
   exact ⟨_, _, us, r2, t3, u1, fun j u hu => by rw [addr_add]; exact u2 j u hu⟩
 ·cases h
theorem Lu {t ty2 u : TypeId} {tu : Ty} {p q : PV} {vp vq : Value} {v : SV} {rows' : List Row} {g' : G} {w : World} (htu : FB P u tu) (hun : P.underlying t = some (.slice u))
  (h : D2 rows u tu.size tu.bytes p q g = some (v, some rows', g')) (hcl : Bn e w0 loc rows w) (hp : p.rel e rows.length loc vp) (hq : q.rel e rows.length loc vq) :
  g' = g ∧ ∃ x w', (Builtin.append_ #[t, t] ty2 #[vp, vq]).run P w = .ok x w' ∧ ∃ loc', AO rows.length loc loc' ∧ rows.length ≤ rows'.length ∧ v.rel e rows'.length loc' x ∧ Bn e w0 loc' rows' w' := by
 obtain ⟨i, z, i1, i2, i3, i4, i5, i6⟩ := htu.info
 unfold D2 at h
 simp only [Option.bind_eq_bind, Option.bind_eq_some_iff] at h
 obtain ⟨⟨m, news⟩, hnews, h⟩ := h
 simp only at h
 split at h
 ·cases h
 ·rename_i hz
  simp only [Bool.or_eq_true, beq_iff_eq, decide_eq_true_eq, not_or] at hz
  obtain ⟨⟨hm0, hby⟩, hes⟩ := hz
  obtain ⟨a, c, us, rfl, hnl, hus, hcell⟩ := MQ hnews hm0 hes hcl hq
  have hul : us.length = m * tu.size := by rw [← AR hus, hnl]
  have hle0 := hcl.le
  obtain ⟨B, ⟨hBn, hBF, hBl⟩, hR, hbel⟩ := hcl
  have main : ∀ (k : Nat) (xs : List Value) (cells : List C) (rows1 : List Row) (blk : Option Nat), k + m ≤ 100000 → w.ownsRow w0.w.heap.size u tu.size vp k xs → Aj e rows.length loc cells xs →
    rows1.length = rows.length → Ad e loc rows1 w B → vp.ownBlock = blk → (∀ b, blk = some b → B.own b) →
    (∀ s y, rows1[s]? = some y → (y.own = true ∨ B6 loc s y) → (loc s).blk < w.heap.size ∧ some (loc s).blk ≠ blk) →
    ∃ x w', (Builtin.append_ #[t, t] ty2 #[vp, .slice (some a) m c]).run P w = .ok x w' ∧ ∃ loc', AO rows.length loc loc' ∧ rows.length ≤ (newRow rows1 u tu.size (cells ++ news)).length ∧
     (PV.one (.k (.slc rows.length 0 (k + m)))).rel e (newRow rows1 u tu.size (cells ++ news)).length loc' x ∧ Bn e w0 loc' (newRow rows1 u tu.size (cells ++ news)) w' := by
   intro k xs cells rows1 blk hkm hown hxs hlen hrows hblk hB hsep
   have hmul : (k + m) * tu.bytes ≤ 140737488355328 := by
    calc (k + m) * tu.bytes ≤ 100000 * 1000 := Nat.mul_le_mul hkm (by omega)
     _ ≤ 140737488355328 := by decide
   obtain ⟨x, w', h1, h2, h3, h4, h5⟩ := run_append_own_at (P := P) w w0.w.heap.size t ty2 u i z tu.size tu.bytes hun i1 i4 i2 i3 i5 (by omega) vp k xs hown a m c us hul hcell (Gu hus) (by simp only [maxLen]; omega) hmul hle0
   obtain ⟨g1, g2⟩ := h2
   rcases g2 with ⟨_, g2⟩ | ⟨gb, cap, cur, rfl, gB, gh, gk, gc, gs, gt⟩
   ·omega
   ·have hvs : cur = ((xs ++ us) ++ cur.toList.drop ((k + m) * tu.size)).toArray := by
     apply Array.ext'
     rw [← gt]
     simp
    rw [hvs] at gh
    have hgb : ∀ s y, rows1[s]? = some y → (y.own = true ∨ B6 loc s y) → (loc s).blk ≠ gb ∧ w'.heap[(loc s).blk]? = w.heap[(loc s).blk]? := fun s y hs hy => by
     obtain ⟨q1, q2⟩ := hsep s y hs hy
     refine ⟨fun h0 => ?_, h3.block _ q1 (by rw [hblk]; exact q2)⟩
     rcases h5 with h5 | h5
     ·rw [hblk] at h5
      exact q2 (by rw [← h5, h0]; rfl)
     ·simp only [Value.ownBlock, Option.some.injEq] at h5
      omega
    have hr := hrows.grow (w' := w') (ty := u) (es := tu.size) (cap := cap) (gb := gb) (cells := cells ++ news) (vs := xs ++ us) (spare := cur.toList.drop ((k + m) * tu.size))
     (fun j hj => h3.block j (hBl.2 j hj) (by
      rw [hblk]
      intro h0
      exact (hB j h0.symm).2 hj)) hgb (by
      rcases h5 with h5 | h5
      ·rw [hblk] at h5
       exact hB gb (by rw [← h5]; rfl)
      ·simp only [Value.ownBlock, Option.some.injEq] at h5
       exact hBl.Zt (by omega)) gh (by rw [hlen]; exact EJ hxs hus) (by
      have : (xs ++ us ++ cur.toList.drop ((k + m) * tu.size)).length = cur.size := by
       conv => rhs; rw [hvs]
       simp
      rw [this, gs]) gc
    refine ⟨_, w', h1, AN loc rows1.length (.QA gb 0 cap tu.size), ?_, by rw [B7, hlen]; omega, ?_, B, ⟨hBn, hBF, hBl.mono h3.size⟩, hr, hbel.grown h3 hle0 (by rw [hblk]; exact fun b hb => hBn ▸ (hB b hb).1)⟩
    ·rw [hlen]; exact Bi _ _ _
    ·refine SF (by rw [B7]; omega) ?_
     rw [← hlen, Ap]
     simp
  split at h
  ·split at h
   ·cases h
   ·rename_i hm1
    simp only [Option.some.injEq, Prod.mk.injEq] at h
    obtain ⟨rfl, rfl, rfl⟩ := h
    have hv := Dk hp
    subst hv
    refine ⟨rfl, ?_⟩
    have := main 0 [] [] rows none (by omega) ⟨by simp, .inl ⟨rfl, rfl⟩⟩ trivial rfl hR rfl (fun b hb => by cases hb) (fun s y hs hy => ⟨hR.Co hs hy, by simp⟩)
    rw [Nat.zero_add, List.nil_append] at this
    exact this
  ·rename_i r k
   simp only [Option.bind_eq_some_iff] at h
   obtain ⟨row, hrow, h⟩ := h
   split at h
   ·cases h
   ·rename_i hz2
    simp only [Bool.or_eq_true, Bool.not_eq_true', bne_iff_ne, ne_eq, decide_eq_true_eq, not_or, Decidable.not_not, Bool.not_eq_false] at hz2
    obtain ⟨⟨⟨⟨z1, z2⟩, z3⟩, z4⟩, z5⟩ := hz2
    simp only [Option.some.injEq, Prod.mk.injEq] at h
    obtain ⟨rfl, rfl, rfl⟩ := h
    obtain ⟨r1, r2⟩ := D4 hp
    have hrr := hR.row r row hrow
    unfold AH at hrr
    rw [if_pos z1] at hrr
    obtain ⟨b1, b2, b3, b4, vs, sp, b5, b6, b7⟩ := hrr
    have hvl : vs.length = k * tu.size := by rw [← AR b6, z4]
    have hv : vp = .slice (some ⟨(loc r).blk, 0, none⟩) k (loc r).cap := by rw [r2, b1]; simp
    have hkc : k ≤ (loc r).cap := by
     have : k * row.es ≤ (loc r).cap * row.es := by rw [← b7, z2, ← hvl]; simp
     exact Nat.le_of_mul_le_mul_right this (by omega)
    refine ⟨rfl, ?_⟩
    refine main k vs row.cells (rows.set r Row.dead) (some (loc r).blk) (by omega) ⟨hvl, .inr ⟨(loc r).blk, (loc r).cap, (vs ++ sp).toArray, hv, hBn ▸ b3.1, by rw [b5, z3], hkc, b4, by rw [← z2, ← b7]; simp, by rw [← hvl]; simp⟩⟩ b6 (by simp) (hR.kill r) (by rw [hv]; rfl)
     (fun b hb => by injection hb with hb; subst hb; exact b3) (fun s y hs hy => ?_)
    by_cases hsr : s = r
    ·subst hsr
     rw [List.getElem?_set_self r1] at hs
     injection hs with hs
     subst hs
     rcases hy with hy | ⟨_, hy, _⟩ <;> simp [Row.dead] at hy
    ·rw [List.getElem?_set_ne (Ne.symm hsr)] at hs
     refine ⟨hR.Co hs hy, fun h0 => ?_⟩
     injection h0 with h0
     rcases hy with hy | hy
     ·exact hR.apart s r y row hs hrow hy z1 hsr h0
     ·exact hR.lapart s r y row hs hrow hy (.inl z1) h0
  ·cases h
end
end Rx
namespace Rx
open Go Go.RowKit
def Ag : List Au → List A → List Value
 | s :: ss, a :: as => s.Bl a :: Ag ss as
 | _, _ => []
def JJ (ss : List Au) : Nat → List A → List Value
 | 0, _ => []
 | n + 1, as => Ag ss (as.take ss.length) ++ JJ ss n (as.drop ss.length)
def BO (M : Addr → Option Value) : List Au → List A → List Value → Prop
 | [], as, cs => as = [] ∧ cs = []
 | .sl ss' :: ss, as, cs => ∃ a k ar b m c cr, as = a :: k :: ar ∧ cs = .slice b m c :: cr ∧ k.int = (m : Nat) ∧ 0 < ss'.length ∧ GZ M (.sl ss') a (.slice b m c) ∧ BO M ss ar cr
 | s :: ss, as, cs => ∃ a ar cr, as = a :: ar ∧ cs = s.Bl a :: cr ∧ BO M ss ar cr
theorem BO.mono {M M' : Addr → Option Value} (hm : ∀ a u, M a = some u → M' a = some u) : ∀ {ss : List Au} {as : List A} {cs : List Value}, BO M ss as cs → BO M' ss as cs
 | [], _, _, h => h
 | .sl _ :: _, _, _, h => by
  obtain ⟨a, k, ar, b, m, c, cr, h1, h2, h3, h4, h5, h6⟩ := h
  exact ⟨a, k, ar, b, m, c, cr, h1, h2, h3, h4, h5.mono hm, h6.mono hm⟩
 | .int _ :: _, _, _, h => by obtain ⟨a, ar, cr, h1, h2, h3⟩ := h; exact ⟨a, ar, cr, h1, h2, h3.mono hm⟩
 | .bool :: _, _, _, h => by obtain ⟨a, ar, cr, h1, h2, h3⟩ := h; exact ⟨a, ar, cr, h1, h2, h3.mono hm⟩
 | .str :: _, _, _, h => by obtain ⟨a, ar, cr, h1, h2, h3⟩ := h; exact ⟨a, ar, cr, h1, h2, h3.mono hm⟩
 | .val :: _, _, _, h => by obtain ⟨a, ar, cr, h1, h2, h3⟩ := h; exact ⟨a, ar, cr, h1, h2, h3.mono hm⟩
def Acs (M : Addr → Option Value) (agg : Bool) (ss : List Au) (as : List A) (v : Value) : Prop :=
 ∃ cs : List Value, (if agg then v = .agg cs.toArray else cs = [v]) ∧ BO M ss as cs
def MR (M : Addr → Option Value) : PS → Value → List A → Prop
 | .c agg ss, v, as => as.length = ss.length ∧ (if agg then v = .agg (Ag ss as).toArray else ∃ s a, ss = [s] ∧ as = [a] ∧ v = s.Bl a)
 | .slc ss, v, as => ∃ b o n c rest, v = .slice (some ⟨b, o, none⟩) n c ∧ as = .i n :: rest ∧ rest.length = n * ss.length ∧ ∀ j u, (JJ ss n rest)[j]? = some u → M ⟨b, o + j, none⟩ = some u
 | .nil, v, as => v = .slice none 0 0 ∧ as = []
 | .lst ss, v, as => ∃ a k b m c, as = [a, k] ∧ k.int = (m : Nat) ∧ v = .slice b m c ∧ 0 < ss.length ∧ GZ M (.sl ss) a v
 | .d agg ss, v, as => Acs M agg ss as v
def Cb (M : Addr → Option Value) : List PS → List Value → List A → Prop
 | [], vs, as => vs = [] ∧ as = []
 | p :: ps, vs, as => ∃ v vr a1 a2, vs = v :: vr ∧ as = a1 ++ a2 ∧ MR M p v a1 ∧ Cb M ps vr a2
def Vi (r : Bool × List Au) (as : List A) (v : Value) : Prop :=
 as.length = r.2.length ∧ (if r.1 then v = .agg (Ag r.2 as).toArray else ∃ s a, r.2 = [s] ∧ as = [a] ∧ v = s.Bl a)
def FK : List (Bool × List Au) → List A → List Value → Prop
 | [], as, vs => as = [] ∧ vs = []
 | r :: rs, as, vs => ∃ v vr a1 a2, vs = v :: vr ∧ as = a1 ++ a2 ∧ Vi r a1 v ∧ FK rs a2 vr
def Ip : List Value → Value
 | [v] => v
 | vs => .tuple vs.toArray
def KO (rs : List (Bool × List Au)) (as : List A) (v : Value) : Prop :=
 ∃ vs, FK rs as vs ∧ v = Ip vs
def Xb (lits : List (Option Int)) (as : List A) : Prop := lits.length = as.length ∧ ∀ (j : Nat) (x : Int), lits[j]? = some (some x) → ∀ a : A, as[j]? = some a → a = A.i x
def Ov : String := String.ofList ([105, 110, 116, 101, 114, 110, 97, 108, 47, 115, 116, 114, 99, 111, 110, 118, 46, 117, 105, 110, 116, 54, 52, 112, 111, 119, 49, 48].map Char.ofNat)
def O1 (P : Program) (w : World) : Prop := (P.globalNamed Ov).isSome = true → Lib.TabIs P w Ov .u64 Lib.pow10Tab
theorem O1.on {P : Program} {w w' : World} (h : O1 P w) (hb : Below w.heap.size w w') : O1 P w' := fun hs => Lib.tabBelow_of_tabIs (h hs) w' hb
def CJ (P : Program) (T : Nat → List A → Bool × List A) (c : J7) : Prop :=
 ∀ (lits : List (Option Int)) (as : List A) (vs : List Value) (w : World), O1 P w → c.ok lits = true → Xb lits as → Cb w.cell? c.ps vs as → (T c.f as).1 = true →
  Calls P c.f vs.toArray w fun en w' => ∃ u, en = .returned u ∧ KO c.rs (T c.f as).2 u ∧ Below w.heap.size w w'
def KP (P : Program) (T : Nat → List A → Bool × List A) (l : List (Nat × J7)) : Prop := ∀ x ∈ l, x.2.f = x.1 ∧ CJ P T x.2
def TA (P : Program) (fns : Nat → Option Func) : Prop := ∀ f fn, fns f = some fn → P.funcs[f]? = some fn ∧ (fn.name == "runtime.NumGoroutine") = false ∧ fn.body.isSome = true
section
variable {T : Nat → List A → Bool × List A} {e : Nat → A} {n n' : Nat} {loc loc' : Loc} {P : Program} {X : Ctx} {w0 : W0}
variable {fr : List SV} {rows : List Row} {gs : List (L × Bool)} {pc : L} {o : Oper} {g : G} {inl : Inline}
theorem KO.unique {rs : List (Bool × List Au)} {as : List A} {u v : Value} (h : KO rs as u) (h' : KO rs as v) : u = v := by
 obtain ⟨us, h1, rfl⟩ := h
 obtain ⟨vs, h2, rfl⟩ := h'
 have : ∀ {rs : List (Bool × List Au)} {as : List A} {us vs : List Value}, FK rs as us → FK rs as vs → us = vs := by
  intro rs
  induction rs with
  | nil => intro as us vs h1 h2; rw [h1.2, h2.2]
  | cons r rs ih =>
   intro as us vs h1 h2
   obtain ⟨v, vr, a1, a2, rfl, e1, h3, h4⟩ := h1
   obtain ⟨v', vr', a1', a2', rfl, e2, h3', h4'⟩ := h2
   have hl : a1 = a1' ∧ a2 = a2' := by
    rw [e1] at e2
    exact List.append_inj e2 (by rw [h3.1, h3'.1])
   obtain ⟨rfl, rfl⟩ := hl
   rw [ih h4 h4']
   congr 1
   have h5 := h3.2
   have h5' := h3'.2
   split at h5
   ·rename_i hr
    rw [if_pos hr] at h5'
    rw [h5, h5']
   ·rename_i hr
    rw [if_neg hr] at h5'
    obtain ⟨s, a, q1, q2, q3⟩ := h5
    obtain ⟨s', a', q1', q2', q3'⟩ := h5'
    rw [q1] at q1'
    rw [q2] at q2'
    injection q1' with q1' _
    injection q2' with q2' _
    rw [q3, q3', q1', q2']
 rw [this h1 h2]
theorem Vj {s : Au} {x : L} {v : Value} (h : (s.mk x).rel e n loc v) : v = s.Bl (x.ev e) := by
 cases s <;> (rcases h.2.2 with h1 | h1) <;> first | (cases h1; done) | (rw [h1]; rfl)
theorem GB {s : Au} {x : L} {a : A} (h : x.ev e = a) : (s.mk x).rel e n loc (s.Bl a) := by
 subst h
 cases s <;> refine ⟨trivial, ?_, .inr rfl⟩
 all_goals first | rfl | skip
 simp only [Au.Bl]
 unfold GS
 split <;> rfl
theorem Dv : ∀ {ss : List Au} {cs : List C} {ls : List L} {vs : List Value}, Hz ss cs = some ls → Aj e n loc cs vs →
  ls.length = ss.length ∧ cs.length = ss.length ∧ vs = Ag ss (ls.map (L.ev e))
 | [], [], ls, vs, h, hv => by
  simp [Hz] at h
  subst h
  cases vs with
  | nil => exact ⟨rfl, rfl, rfl⟩
  | cons => exact hv.elim
 | s :: ss, .k x :: cs, ls, vs, h, hv => by
  simp only [Hz, Option.bind_eq_bind, Option.bind_eq_some_iff] at h
  obtain ⟨⟨u, y⟩, hx, h⟩ := h
  simp only at h
  split at h
  ·rename_i hu
   simp only [Option.bind_eq_some_iff, Option.some.injEq] at h
   obtain ⟨r, hr, rfl⟩ := h
   cases vs with
   | nil => exact hv.elim
   | cons v vs =>
    obtain ⟨h1, h2, h3⟩ := Dv hr hv.2
    have hk := K.DF hx
    have hs := Au.Af hu
    subst hs
    have hv1 : (u.mk y).rel e n loc v := by rw [← hk]; exact hv.1
    refine ⟨by simp [h1], by simp [h2], ?_⟩
    simp only [List.map_cons, Ag]
    rw [Vj hv1, h3]
  ·cases h
 | [], _ :: _, _, _, h, _ => by simp [Hz] at h
 | _ :: _, [], _, _, h, _ => by simp [Hz] at h
 | _ :: _, .clo .. :: _, _, _, h, _ => by simp [Hz] at h
theorem Iq : ∀ {ss : List Au} {as : List A}, as.length = ss.length → (Ag ss as).length = ss.length
 | [], [], _ => rfl
 | [], _ :: _, h => by simp at h
 | _ :: _, [], h => by simp at h
 | s :: ss, a :: as, h => by simp [Ag, Iq (ss := ss) (as := as) (by simpa using h)]
theorem Fj {ss : List Au} : ∀ {m : Nat} {cs : List C} {ls : List L} {vs : List Value}, Eh ss m cs = some ls → Aj e n loc cs vs →
  ls.length = m * ss.length ∧ vs = JJ ss m (ls.map (L.ev e))
 | 0, [], ls, vs, h, hv => by
  simp [Eh] at h
  subst h
  cases vs with
  | nil => exact ⟨by simp, rfl⟩
  | cons => exact hv.elim
 | 0, _ :: _, _, _, h, _ => by simp [Eh] at h
 | m + 1, cs, ls, vs, h, hv => by
  simp only [Eh, Option.bind_eq_bind, Option.bind_eq_some_iff, Option.some.injEq] at h
  obtain ⟨a, ha, r, hr, rfl⟩ := h
  have h1 := Dv ha (Fe hv ss.length)
  have h2 := Fj hr (Ff hv ss.length)
  refine ⟨by rw [List.length_append, h1.1, h2.1, Nat.succ_mul]; omega, ?_⟩
  rw [JJ, List.map_append, List.take_append_of_le_length (by simp [h1.1]), List.take_of_length_le (by simp [h1.1]), List.drop_append_of_le_length (by simp [h1.1]), List.drop_of_length_le (by simp [h1.1]), List.nil_append, ← h1.2.2, ← h2.2, List.take_append_drop]
theorem ZI {w : World} {B : Bd} {M : Addr → Option Value} {r : Nat} {row : Row} (hR : Ad e loc rows w B) (hrow : rows[r]? = some row) (hne : row.cells ≠ []) (h1 : ∀ a u, CF B w a = some u → M a = some u)
  (h2 : r ∈ Rh rows r → (∃ row, rows[r]? = some row ∧ (row.own = true ∨ B6 loc r row)) → ∀ o u, w.cell? ⟨(loc r).blk, o, none⟩ = some u → M ⟨(loc r).blk, o, none⟩ = some u) : ∀ o u, w.cell? ⟨(loc r).blk, o, none⟩ = some u → M ⟨(loc r).blk, o, none⟩ = some u := by
 intro o u hu
 cases ho : row.own
 ·have := hR.row r row hrow
  unfold AH at this
  rw [if_neg (by simp [ho])] at this
  exact h1 _ _ (DD hu (this hne).2.1)
 ·exact h2 (by simp [Rh, hrow, ho]) ⟨row, hrow, .inl ho⟩ o u hu
theorem QH {p : PS} {x : PV} {ls : List L} {v : Value} {w : World} {B : Bd} {M : Addr → Option Value} (h : Jq rows p x = some ls) (hR : Ad e loc rows w B) (h1 : ∀ a u, CF B w a = some u → M a = some u)
  (h2 : ∀ r ∈ Ba rows [x], (∃ row, rows[r]? = some row ∧ (row.own = true ∨ B6 loc r row)) → ∀ o u, w.cell? ⟨(loc r).blk, o, none⟩ = some u → M ⟨(loc r).blk, o, none⟩ = some u) (hx : x.rel e rows.length loc v) :
  MR M p v (ls.map (L.ev e)) := by
 have slc : ∀ (r m : Nat) (row : Row) (ss : List Au) (off : Nat) (cs : List C) (ls' : List L) (cap : Nat), (r ∈ Rh rows r → r ∈ Ba rows [x]) → rows[r]? = some row → Dp row.cells off (m * ss.length) = some cs → Eh ss m cs = some ls' →
   v = .slice (some ⟨(loc r).blk, (loc r).off + off, none⟩) m cap → MR M (.slc ss) v ((L.n m :: ls').map (L.ev e)) := by
  intro r m row ss off cs ls' cap hr hrow hcs hls hv
  obtain ⟨us, u1, u2⟩ := Di (e := e) (n := rows.length) (loc := loc) (w := w) (b := (loc r).blk) (o := (loc r).off + off) (cs := cs) (fun j c hj => by
   obtain ⟨v, v1, v2⟩ := hR.cell hrow (E3 hcs hj)
   exact ⟨v, by rw [Nat.add_assoc]; exact v1, v2⟩)
  obtain ⟨f1, f2⟩ := Fj hls u1
  refine ⟨_, _, m, cap, ls'.map (L.ev e), hv, rfl, by simpa using f1, fun j u hu => ?_⟩
  rw [← f2] at hu
  refine ZI hR hrow (fun h0 => ?_) h1 (fun hh => h2 r (hr hh)) _ _ (u2 j u hu)
  have := AR u1
  have h3 := Ac hu
  obtain ⟨t1, t2, t3⟩ := Br hcs
  rw [h0] at t1
  simp at t1
  omega
 unfold Jq at h
 split at h
 ·rename_i s c
  cases hv1 : Hz [s] [c] with
  | none => rw [hv1] at h; cases h
  | some l =>
   rw [hv1] at h
   injection h with h
   subst h
   obtain ⟨h1, h2, h3⟩ := Dv (vs := [v]) hv1 ⟨hx, trivial⟩
   obtain ⟨y, rfl⟩ : ∃ y, l = [y] := by
    match l, h1 with
    | [y], _ => exact ⟨y, rfl⟩
   refine ⟨by simp, ?_⟩
   simp only [Bool.false_eq_true, if_false]
   refine ⟨s, y.ev e, rfl, rfl, ?_⟩
   simpa [Ag] using h3
 ·rename_i ss l
  obtain ⟨vs, rfl, hv⟩ := hx
  obtain ⟨h1, h2, h3⟩ := Dv h hv
  refine ⟨by simpa using h1, ?_⟩
  simp only [if_true]
  rw [h3]
 ·rename_i ss r off m
  simp only [Option.bind_eq_bind, Option.bind_eq_some_iff] at h
  obtain ⟨row, hrow, h⟩ := h
  split at h
  ·cases h
  ·rename_i hes
   simp only [bne_iff_ne, ne_eq, Decidable.not_not] at hes
   simp only [Option.bind_eq_some_iff, Option.some.injEq] at h
   obtain ⟨cs, hcs, ls', hls, rfl⟩ := h
   obtain ⟨r1, r2⟩ := D4 hx
   by_cases hne : row.cells.isEmpty = true
   ·have hce : row.cells = [] := by simpa using hne
    obtain ⟨t1, t2, t3⟩ := Br hcs
    rw [hce] at t2
    simp at t2
    subst t2
    obtain ⟨f1, f2⟩ := Fj (vs := []) (e := e) (n := rows.length) (loc := loc) hls trivial
    exact ⟨_, _, m, _, ls'.map (L.ev e), r2, rfl, by simpa using f1, fun j u hu => by rw [← f2] at hu; simp at hu⟩
   ·have hle := hR.es hrow (by simpa using hne)
    rw [hle, hes] at r2
    exact slc r m row ss (off * ss.length) cs ls' _ (fun h => by simpa [Ba, PV.cells, DA, Ld] using h) hrow hcs hls r2
 ·rename_i ss r off es m cap
  simp only [Option.bind_eq_bind, Option.bind_eq_some_iff] at h
  obtain ⟨row, hrow, h⟩ := h
  split at h
  ·cases h
  ·simp only [Option.bind_eq_some_iff, Option.some.injEq] at h
   obtain ⟨cs, hcs, ls', hls, rfl⟩ := h
   obtain ⟨r1, r2⟩ := GA hx
   exact slc r m row ss off cs ls' _ (fun h => by simpa [Ba, PV.cells, DA, Ld] using h) hrow hcs hls r2
 ·injection h with h
  subst h
  exact ⟨Dk hx, rfl⟩
 ·cases h
theorem ZJ {M M' : Addr → Option Value} {ss : List Au} {as : List A} {us : List Value} {b o m c : Nat} (hcp : m ≤ c) (hs : 0 < ss.length) (hl : as.length = m * ss.length) (hd : Cg M ss as us) (hm : ∀ a u, M a = some u → M' a = some u)
  (hc : ∀ (j : Nat) u, us[j]? = some u → M' ⟨b, o + j, none⟩ = some u) : GZ M' (.sl ss) (.l as) (.slice (some ⟨b, o, none⟩) m c) :=
 .sl hcp hs hl hd.1 hc fun j s a u h1 h2 h3 => (hd.2 j s a u h1 h2 h3).mono hm
theorem Kd {w : World} {B : Bd} (hR : Ad e loc rows w B) : ∀ {ss : List Au} {cs : List C} {ls : List L} {us : List Value}, GY rows ss cs = some ls → Aj e n loc cs us →
  ls.length = ss.length ∧ us.length = ss.length ∧ ∀ (j : Nat) s a u, ss[j]? = some s → (ls.map (L.ev e))[j]? = some a → us[j]? = some u → GZ (CF B w) s a u
 | [], [], ls, us, h, hu => by
  simp only [GY, Option.some.injEq] at h
  subst h
  cases us with
  | nil => exact ⟨rfl, rfl, fun j s a u h => by simp at h⟩
  | cons => exact hu.elim
 | s :: ss, c :: cs, ls, us, h, hu => by
  simp only [GY, Option.bind_eq_bind, Option.bind_eq_some_iff, Option.some.injEq] at h
  obtain ⟨z, hz, r, hr, rfl⟩ := h
  cases us with
  | nil => exact hu.elim
  | cons v us =>
   obtain ⟨h1, h2, h3⟩ := Kd hR hr hu.2
   refine ⟨by simp [h1], by simp [h2], fun j s' a u q1 q2 q3 => ?_⟩
   cases j with
   | zero =>
    simp at q1 q2 q3
    subst q1 q2 q3
    exact Ls hz hR hu.1
   | succ j => exact h3 j s' a u (by simpa using q1) (by simpa using q2) (by simpa using q3)
 | [], _ :: _, _, _, h, _ => by simp [GY] at h
 | _ :: _, [], _, _, h, _ => by simp [GY] at h
theorem HA {w : World} {B : Bd} (hR : Ad e loc rows w B) {ss : List Au} : ∀ {m : Nat} {cs : List C} {ls : List L} {us : List Value}, DV rows ss m cs = some ls → Aj e n loc cs us →
  ls.length = m * ss.length ∧ Cg (CF B w) ss (ls.map (L.ev e)) us
 | 0, [], ls, us, h, hu => by
  simp only [DV, Option.some.injEq] at h
  subst h
  cases us with
  | nil => exact ⟨by simp, rfl, fun j s a u _ h2 => by simp at h2⟩
  | cons => exact hu.elim
 | 0, _ :: _, _, _, h, _ => by simp [DV] at h
 | m + 1, cs, ls, us, h, hu => by
  simp only [DV, Option.bind_eq_bind, Option.bind_eq_some_iff, Option.some.injEq] at h
  obtain ⟨a, ha, r, hr, rfl⟩ := h
  obtain ⟨h1, h2, h3⟩ := Kd hR ha (Fe hu ss.length)
  obtain ⟨h4, h5⟩ := HA hR hr (Ff hu ss.length)
  refine ⟨by rw [List.length_append, h1, h4, Nat.succ_mul]; omega, ?_⟩
  have hd : Cg (CF B w) ss (a.map (L.ev e)) (us.take ss.length) := ⟨by rw [h2]; simp [h1], fun j s x u q1 q2 q3 => by
   have hj : j < ss.length := by have := Ac q2; simpa [h1] using this
   rw [Nat.mod_eq_of_lt hj] at q1
   exact h3 j s x u q1 q2 q3⟩
  have := hd.append (by simp [h1]) h5
  rw [List.take_append_drop] at this
  rw [List.map_append]
  exact this
theorem Cz {ss : List Au} {p : PV} {ls : List L} {g' : G} (h : Dz rows ss p g = some (ls, g')) (hg : Good T e g') :
  Good T e g ∧ ∃ y k, ls = [y, k] ∧ ∀ (loc : Loc) (w : World) (v : Value) (B : Bd), Ad e loc rows w B → p.rel e rows.length loc v → ∃ (as : List A) (m c : Nat) (b : Option Addr) (us : List Value), y.ev e = .l as ∧ (k.ev e).int = (m : Nat) ∧ v = .slice b m c ∧ 0 < ss.length ∧ as.length = m * ss.length ∧
   Cg (CF B w) ss as us ∧ (m ≠ 0 → ∃ bb o, b = some ⟨bb, o, none⟩ ∧ (∀ j u, us[j]? = some u → w.cell? ⟨bb, o + j, none⟩ = some u) ∧ (B.F bb ∨ ∃ r ∈ Ba rows [p], (∃ row, rows[r]? = some row ∧ (row.own = true ∨ B6 loc r row)) ∧ bb = (loc r).blk) ∧ m ≤ c) := by
 unfold Dz at h
 split at h
 ·rename_i r off m
  simp only [Option.bind_eq_bind, Option.bind_eq_some_iff] at h
  obtain ⟨row, hrow, h⟩ := h
  split at h
  ·cases h
  ·rename_i hes
   simp only [Bool.or_eq_true, Bool.not_eq_true', bne_iff_ne, ne_eq, beq_iff_eq, not_or, Decidable.not_not, Bool.not_eq_false] at hes
   obtain ⟨⟨hown, hes1⟩, hes2⟩ := hes
   have hes : row.es = ss.length ∧ ¬ ss.length = 0 := ⟨hes1, hes2⟩
   simp only [Option.bind_eq_some_iff, Option.some.injEq, Prod.mk.injEq] at h
   obtain ⟨cs, hcs, ls', hls, rfl, rfl⟩ := h
   have hp := Ah hg
   refine ⟨hp.1, _, _, rfl, fun loc w v B hR hv => ?_⟩
   obtain ⟨r1, r2⟩ := D4 hv
   have hy : (g.push .mkl ls').1.ev e = .l (ls'.map (L.ev e)) := hp.2 _ (by simp [D.ev])
   rw [hy]
   by_cases hm0 : m = 0
   ·subst hm0
    obtain ⟨t1, t2, t3⟩ := Br hcs
    have : ls' = [] := by
     have h0 : cs = [] := List.eq_nil_of_length_eq_zero (by rw [t3]; simp)
     rw [h0] at hls
     simpa [DV] using hls.symm
    subst this
    exact ⟨[], 0, _, _, [], rfl, rfl, r2, by omega, by simp, ⟨rfl, fun j s a u _ h2 => by simp at h2⟩, fun h => absurd rfl h⟩
   ·have hne : row.cells.isEmpty = false := by
     obtain ⟨t1, t2, t3⟩ := Br hcs
     cases hcc : row.cells with
     | nil =>
      rw [hcc] at t1
      have : 0 < m * ss.length := Nat.mul_pos (by omega) (by omega)
      simp at t1
      omega
     | cons => rfl
    have hle := hR.es hrow hne
    obtain ⟨us, u1, u2⟩ := Di (e := e) (n := rows.length) (loc := loc) (w := w) (b := (loc r).blk) (o := (loc r).off + off * ss.length) (cs := cs) (fun j c hj => by
     obtain ⟨v, v1, v2⟩ := hR.cell hrow (E3 hcs hj)
     exact ⟨v, by rw [Nat.add_assoc]; exact v1, v2⟩)
    obtain ⟨f1, f2⟩ := HA hR hls u1
    refine ⟨_, m, _, _, us, rfl, rfl, r2, by omega, by simpa using f1, f2, fun _ => ⟨_, _, by rw [hle, hes.1], u2, .inr ⟨r, by simp [Ba, PV.cells, DA, Ld, Rh, hrow, hown], ⟨row, hrow, .inl hown⟩, rfl⟩, ?_⟩⟩
    obtain ⟨t1, t2, t3⟩ := Br hcs
    have hrr := hR.row r row hrow
    unfold AH at hrr
    rw [if_pos hown] at hrr
    obtain ⟨b1, b2, b3, b4, vs, sp, b5, b6, b7⟩ := hrr
    have hv2 : row.cells.length = vs.length := AR b6
    have h8 : (off + m) * ss.length ≤ (loc r).cap * ss.length := by
     rw [Nat.add_mul, ← hes.1, ← b7, List.length_append, hes.1]
     omega
    have := Nat.le_of_mul_le_mul_right h8 (by omega)
    omega
 ·split at h
  ·cases h
  ·rename_i hs
   simp only [Option.some.injEq, Prod.mk.injEq] at h
   obtain ⟨rfl, rfl⟩ := h
   have : ss.length ≠ 0 := by simpa using hs
   exact ⟨hg, _, _, rfl, fun loc w v B hR hv => ⟨[], 0, 0, none, [], rfl, rfl, Dk hv, by omega, by simp, ⟨rfl, fun j s a u _ h2 => by simp at h2⟩, fun h => absurd rfl h⟩⟩
 ·simp only [Option.bind_eq_bind, Option.bind_eq_some_iff] at h
  obtain ⟨⟨r, k, q⟩, hq, h⟩ := h
  simp only at h
  split at h
  ·cases h
  ·rename_i hs
   have hs := B3 (by simpa using hs)
   subst hs
   simp only [Option.some.injEq, Prod.mk.injEq] at h
   obtain ⟨rfl, rfl⟩ := h
   refine ⟨hg, _, _, rfl, fun loc w v B hR hv => ?_⟩
   obtain ⟨r1, ⟨row, r7, r8⟩, r2, r3, m, a, c, r4, r5, r6⟩ := NC hq hR hv
   rw [r3] at r4
   obtain ⟨as, m', h1, h2, h3, h4, h5⟩ := r2
   have hmm : m' = m := by omega
   subst hmm
   have how : q.own = true → r ∈ Ba rows [p] ∧ (m' ≠ 0 → (loc r).emp = false) := fun ho => by
    unfold Ia at hq
    split at hq
    ·rename_i r' k'
     simp only [Option.bind_eq_bind, Option.bind_eq_some_iff] at hq
     obtain ⟨row', hr', q', hq', hq⟩ := hq
     split at hq
     ·rename_i hc
      simp only [Option.some.injEq, Prod.mk.injEq] at hq
      obtain ⟨rfl, _, rfl⟩ := hq
      refine ⟨by simp [Ba, PV.cells, DA, Ld, Rh, hr', hq', ho], fun hm0 => ?_⟩
      rw [if_pos ho] at h5
      split at h5
      ·exact absurd h5.1 hm0
      ·rename_i he
       simpa using he
     ·cases hq
    ·simp only [Option.bind_eq_bind, Option.bind_eq_some_iff] at hq
     obtain ⟨row', _, q', _, hq⟩ := hq
     split at hq
     ·rename_i hc
      simp only [Option.some.injEq, Prod.mk.injEq] at hq
      obtain ⟨_, _, rfl⟩ := hq
      rw [ho] at hc
      simp at hc
     ·cases hq
    ·cases hq
   have hov : q.own = false → v = (loc r).v := fun ho => by
    unfold Ia at hq
    split at hq
    ·simp only [Option.bind_eq_bind, Option.bind_eq_some_iff] at hq
     obtain ⟨row, _, q', _, hq⟩ := hq
     split at hq
     ·rename_i hc
      simp only [Option.some.injEq, Prod.mk.injEq] at hq
      obtain ⟨_, _, rfl⟩ := hq
      rw [ho] at hc
      simp at hc
     ·cases hq
    ·simp only [Option.bind_eq_bind, Option.bind_eq_some_iff] at hq
     obtain ⟨row, _, q', _, hq⟩ := hq
     split at hq
     ·simp only [Option.some.injEq, Prod.mk.injEq] at hq
      obtain ⟨rfl, _, rfl⟩ := hq
      rcases hv.2.2 with hv | hv
      ·cases hv
      ·exact hv
     ·cases hq
    ·cases hq
   have hcc : q.own = true → (loc r).emp = false → ∀ us sp : List Value, (us ++ sp).length = (loc r).cap * q.ss.length → Cg (CF B w) q.ss as us → m' ≤ c := fun ho he us sp g5 g6 => by
    have hc : c = (loc r).cap := by
     unfold Ia at hq
     split at hq
     ·simp only [Option.bind_eq_bind, Option.bind_eq_some_iff] at hq
      obtain ⟨row, _, q', _, hq⟩ := hq
      split at hq
      ·simp only [Option.some.injEq, Prod.mk.injEq] at hq
       obtain ⟨rfl, _, rfl⟩ := hq
       rcases hv.2.2 with hv | hv
       ·cases hv
       ·simp only [K.Bl, he, Bool.false_eq_true, if_false] at hv
        rw [hv] at r5
        injection r5 with _ _ r5
        exact r5.symm
      ·cases hq
     ·simp only [Option.bind_eq_bind, Option.bind_eq_some_iff] at hq
      obtain ⟨row, _, q', _, hq⟩ := hq
      split at hq
      ·rename_i hc
       simp only [Option.some.injEq, Prod.mk.injEq] at hq
       obtain ⟨_, _, rfl⟩ := hq
       rw [ho] at hc
       simp at hc
      ·cases hq
     ·cases hq
    rw [hc]
    have : m' * q.ss.length ≤ (loc r).cap * q.ss.length := by
     rw [← g5, List.length_append, g6.1, h2]
     exact Nat.le_add_right _ _
    exact Nat.le_of_mul_le_mul_right this h4
   by_cases hm0 : m' = 0
   ·subst hm0
    have : as = [] := List.eq_nil_of_length_eq_zero (by simpa using h2)
    subst this
    exact ⟨[], 0, c, a, [], h1, r4, r5, h4, by simp, ⟨rfl, fun j s a u _ h2 => by simp at h2⟩, fun h => absurd rfl h⟩
   ·split at h5
    ·rename_i ho
     obtain ⟨w1, w2⟩ := how ho
     rw [if_neg (by simp [w2 hm0])] at h5
     obtain ⟨g1, g2, g3, us, sp, g4, g5, g6⟩ := h5
     refine ⟨as, m', c, a, us, h1, r4, r5, h4, h2, g6, fun _ => ⟨_, _, r6 hm0, fun j u hu => ?_, .inr ⟨r, w1, ⟨row, r7, .inr ⟨q, r8, ho, w2 hm0⟩⟩, rfl⟩, hcc ho (w2 hm0) us sp g5 g6⟩⟩
     rw [g1]
     simp only [World.cell?, g4, Nat.zero_add]
     simp [List.getElem?_append_left (Ac hu), hu]
    ·rename_i ho
     obtain ⟨_, h6⟩ := h5
     rw [← hov (by simpa using ho), r5, r6 hm0] at h6
     have hl0 : as.length ≠ 0 := by rw [h2]; exact Nat.mul_ne_zero hm0 (by omega)
     cases h6 with
     | emp => exact absurd rfl hl0
     | sl kc k0 k1 k2 k3 k4 =>
      rename_i us
      refine ⟨as, m', c, a, us, h1, r4, r5, h4, h2, ⟨k2, k4⟩, fun _ => ⟨_, _, r6 hm0, fun j u hu => (Ds (k3 j u hu)).1, ?_, kc⟩⟩
      have hu0 : us[0]? = some (us[0]'(by omega)) := List.getElem?_eq_getElem (by omega)
      exact .inl (Ds (k3 0 _ hu0)).2
structure TB (rows : List Row) (loc : Loc) (w : World) (B : Bd) (M : Addr → Option Value) (l : List Nat) : Prop where
 stab : ∀ a u, CF B w a = some u → M a = some u
 hand : ∀ r ∈ l, (∃ row, rows[r]? = some row ∧ (row.own = true ∨ B6 loc r row)) → ∀ o u, w.cell? ⟨(loc r).blk, o, none⟩ = some u → M ⟨(loc r).blk, o, none⟩ = some u
theorem TB.all {w : World} {B : Bd} {l : List Nat} : TB rows loc w B w.cell? l := ⟨fun _ _ h => (Ds h).1, fun _ _ _ _ _ h => h⟩
theorem TB.sub {w : World} {B : Bd} {M : Addr → Option Value} {l l' : List Nat} (h : TB rows loc w B M l) (hl : ∀ x ∈ l', x ∈ l) : TB rows loc w B M l' := ⟨h.stab, fun r hr => h.hand r (hl r hr)⟩
theorem F6 {ss : List Au} {p : PV} {ls : List L} {g' : G} (h : Dz rows ss p g = some (ls, g')) (hg : Good T e g') :
  Good T e g ∧ ∃ y k, ls = [y, k] ∧ ∀ (loc : Loc) (w : World) (v : Value) (B : Bd) (M : Addr → Option Value), Ad e loc rows w B → TB rows loc w B M (Ba rows [p]) → p.rel e rows.length loc v → 0 < ss.length ∧ ∃ b m c, (k.ev e).int = (m : Nat) ∧ v = .slice b m c ∧ GZ M (.sl ss) (y.ev e) v := by
 obtain ⟨h1, y, k, h2, h3⟩ := Cz h hg
 refine ⟨h1, y, k, h2, fun loc w v B M hR hC hv => ?_⟩
 obtain ⟨as, m, c, b, us, e1, e2, e3, e4, e5, e6, e7⟩ := h3 loc w v B hR hv
 refine ⟨e4, b, m, c, e2, e3, ?_⟩
 rw [e1, e3]
 by_cases hm0 : m = 0
 ·subst hm0
  have : as = [] := List.eq_nil_of_length_eq_zero (by simpa using e5)
  subst this
  exact .emp
 ·obtain ⟨bb, o, rfl, q1, q2⟩ := e7 hm0
  refine ZJ q2.2 e4 e5 e6 hC.stab fun j u hu => ?_
  rcases q2.1 with q2 | ⟨r, hr, hrow, rfl⟩
  ·exact hC.stab _ _ (DD (q1 j u hu) q2)
  ·exact hC.hand r hr hrow _ _ (q1 j u hu)
theorem FL {s : Au} {r : List Au} {x : K} {cs : List C} {ls : List L} {g g' : G} (hs : s.single = true)
  (h0 : A8 rows (s :: r) (.k x :: cs) g = some (ls, g') → (do
   let (u, y) ← x.Qr
   if !u.same s then none
   let (b, g) ← A8 rows r cs g
   some (y :: b, g) : Option (List L × G)) = some (ls, g'))
  (ih : ∀ {ls : List L} {g' : G}, A8 rows r cs g = some (ls, g') → Good T e g' → Good T e g ∧ ∀ (loc : Loc) (w : World) (vs : List Value) (B : Bd) (M : Addr → Option Value), Ad e loc rows w B → TB rows loc w B M (cs.flatMap (DA rows)) → Aj e rows.length loc cs vs → BO M r (ls.map (L.ev e)) vs)
  (h : A8 rows (s :: r) (.k x :: cs) g = some (ls, g')) (hg : Good T e g') :
  Good T e g ∧ ∀ (loc : Loc) (w : World) (vs : List Value) (B : Bd) (M : Addr → Option Value), Ad e loc rows w B → TB rows loc w B M ((C.k x :: cs).flatMap (DA rows)) → Aj e rows.length loc (.k x :: cs) vs → BO M (s :: r) (ls.map (L.ev e)) vs := by
 replace h := h0 h
 clear h0
 simp only [Option.bind_eq_bind, Option.bind_eq_some_iff] at h
 obtain ⟨⟨u, y⟩, hy, h⟩ := h
 simp only at h
 split at h
 ·cases h
 ·rename_i hus
  have hus := Au.Af (by simpa using hus)
  subst hus
  have hy := K.DF hy
  subst hy
  simp only [Option.bind_eq_some_iff] at h
  obtain ⟨⟨b, g2⟩, hb, h⟩ := h
  simp only [Option.some.injEq, Prod.mk.injEq] at h
  obtain ⟨rfl, rfl⟩ := h
  obtain ⟨h1, h2⟩ := ih hb hg
  refine ⟨h1, fun loc w vs B M hR hC hv => ?_⟩
  cases vs with
  | nil => exact hv.elim
  | cons v vs =>
   have h3 := h2 loc w vs B M hR (hC.sub fun x hx => by simp only [List.flatMap_cons, List.mem_append]; exact .inr hx) hv.2
   have h4 := Vj (e := e) hv.1
   cases u with
   | sl a => simp [Au.single] at hs
   | int k => exact ⟨y.ev e, _, vs, rfl, by rw [h4], h3⟩
   | bool => exact ⟨y.ev e, _, vs, rfl, by rw [h4], h3⟩
   | str => exact ⟨y.ev e, _, vs, rfl, by rw [h4], h3⟩
   | val => exact ⟨y.ev e, _, vs, rfl, by rw [h4], h3⟩
theorem B8 : ∀ {ss : List Au} {cs : List C} {ls : List L} {g g' : G}, A8 rows ss cs g = some (ls, g') → Good T e g' →
  Good T e g ∧ ∀ (loc : Loc) (w : World) (vs : List Value) (B : Bd) (M : Addr → Option Value), Ad e loc rows w B → TB rows loc w B M (cs.flatMap (DA rows)) → Aj e rows.length loc cs vs → BO M ss (ls.map (L.ev e)) vs
 | [], [], ls, g, g', h, hg => by
  simp only [A8, Option.some.injEq, Prod.mk.injEq] at h
  obtain ⟨rfl, rfl⟩ := h
  refine ⟨hg, fun loc w vs B M hR hC hv => ?_⟩
  cases vs with
  | nil => exact ⟨rfl, rfl⟩
  | cons => exact hv.elim
 | .sl ss :: r, c :: cs, ls, g, g', h, hg => by
  simp only [A8, Option.bind_eq_bind, Option.bind_eq_some_iff] at h
  obtain ⟨⟨a, g1⟩, ha, ⟨b, g2⟩, hb, h⟩ := h
  simp only [Option.some.injEq, Prod.mk.injEq] at h
  obtain ⟨rfl, rfl⟩ := h
  obtain ⟨h1, h2⟩ := B8 hb hg
  obtain ⟨h3, y, k, rfl, h4⟩ := F6 ha h1
  refine ⟨h3, fun loc w vs B M hR hC hv => ?_⟩
  cases vs with
  | nil => exact hv.elim
  | cons v vs =>
   obtain ⟨q1, bb, m, cc, q2, rfl, q3⟩ := h4 loc w v B M hR (hC.sub fun x hx => by
    simp only [Ba, PV.cells, List.flatMap_cons, List.flatMap_nil, List.append_nil] at hx
    simp [hx]) hv.1
   exact ⟨y.ev e, k.ev e, _, bb, m, cc, vs, rfl, rfl, q2, q1, q3, h2 loc w vs B M hR (hC.sub fun x hx => by simp only [List.flatMap_cons, List.mem_append]; exact .inr hx) hv.2⟩
 | .int kd :: r, .k x :: cs, ls, g, g', h, hg => FL (s := .int kd) rfl (fun h => h) (fun h hg => B8 h hg) h hg
 | .bool :: r, .k x :: cs, ls, g, g', h, hg => FL (s := .bool) rfl (fun h => h) (fun h hg => B8 h hg) h hg
 | .str :: r, .k x :: cs, ls, g, g', h, hg => FL (s := .str) rfl (fun h => h) (fun h hg => B8 h hg) h hg
 | .val :: r, .k x :: cs, ls, g, g', h, hg => FL (s := .val) rfl (fun h => h) (fun h hg => B8 h hg) h hg
 | .int _ :: _, .clo .. :: _, _, _, _, h, _ => by simp [A8] at h
 | .bool :: _, .clo .. :: _, _, _, _, h, _ => by simp [A8] at h
 | .str :: _, .clo .. :: _, _, _, _, h, _ => by simp [A8] at h
 | .val :: _, .clo .. :: _, _, _, _, h, _ => by simp [A8] at h
 | .int _ :: _, .cfn .. :: _, _, _, _, h, _ => by simp [A8] at h
 | .bool :: _, .cfn .. :: _, _, _, _, h, _ => by simp [A8] at h
 | .str :: _, .cfn .. :: _, _, _, _, h, _ => by simp [A8] at h
 | .val :: _, .cfn .. :: _, _, _, _, h, _ => by simp [A8] at h
 | [], _ :: _, _, _, _, h, _ => by simp [A8] at h
 | .int _ :: _, [], _, _, _, h, _ => by simp [A8] at h
 | .bool :: _, [], _, _, _, h, _ => by simp [A8] at h
 | .str :: _, [], _, _, _, h, _ => by simp [A8] at h
 | .val :: _, [], _, _, _, h, _ => by simp [A8] at h
 | .sl _ :: _, [], _, _, _, h, _ => by simp [A8] at h
theorem O2 {p : PS} {x : PV} {ls : List L} {g' : G} (h : OC rows p x g = some (ls, g')) (hg : Good T e g') :
  Good T e g ∧ ∀ (loc : Loc) (w : World) (v : Value) (B : Bd) (M : Addr → Option Value), Ad e loc rows w B → TB rows loc w B M (Ba rows [x]) → x.rel e rows.length loc v → MR M p v (ls.map (L.ev e)) := by
 unfold OC at h
 split at h
 ·obtain ⟨h1, y, k, rfl, h2⟩ := F6 h hg
  refine ⟨h1, fun loc w v B M hR hC hv => ?_⟩
  obtain ⟨h3, b, m, c, h4, h5, h6⟩ := h2 loc w v B M hR hC hv
  exact ⟨_, _, b, m, c, rfl, h4, h5, h3, h6⟩
 ·split at h
  ·obtain ⟨h1, h2⟩ := B8 h hg
   refine ⟨h1, fun loc w v B M hR hC hv => ?_⟩
   obtain ⟨vs, rfl, hv⟩ := hv
   exact ⟨vs, by simp, h2 loc w vs B M hR (hC.sub fun x hx => by simpa [Ba, PV.cells] using hx) hv⟩
  ·cases h
 ·split at h
  ·obtain ⟨h1, h2⟩ := B8 h hg
   refine ⟨h1, fun loc w v B M hR hC hv => ?_⟩
   exact ⟨[v], by simp, h2 loc w [v] B M hR (hC.sub fun x hx => by simpa [Ba, PV.cells] using hx) ⟨hv, trivial⟩⟩
  ·cases h
 ·simp only [Option.bind_eq_bind, Option.bind_eq_some_iff, Option.some.injEq, Prod.mk.injEq] at h
  obtain ⟨x', hx, rfl, rfl⟩ := h
  exact ⟨hg, fun loc w v B M hR hC hv => QH hx hR hC.stab hC.hand hv⟩
theorem DG : ∀ {ps : List PS} {xs : List PV} {ls : List L} {g g' : G}, Ei rows ps xs g = some (ls, g') → Good T e g' →
  Good T e g ∧ ∀ (loc : Loc) (w : World) (vs : List Value) (B : Bd) (M : Addr → Option Value), Ad e loc rows w B → TB rows loc w B M (Ba rows xs) → AA e rows.length loc xs vs → Cb M ps vs (ls.map (L.ev e))
 | [], [], ls, g, g', h, hg => by
  simp only [Ei, Option.some.injEq, Prod.mk.injEq] at h
  obtain ⟨rfl, rfl⟩ := h
  refine ⟨hg, fun loc w vs B M hR hC hv => ?_⟩
  cases vs with
  | nil => exact ⟨rfl, rfl⟩
  | cons => exact hv.elim
 | p :: ps, x :: xs, ls, g, g', h, hg => by
  simp only [Ei, Option.bind_eq_bind, Option.bind_eq_some_iff] at h
  obtain ⟨⟨a, g1⟩, ha, ⟨r, g2⟩, hr, h⟩ := h
  simp only [Option.some.injEq, Prod.mk.injEq] at h
  obtain ⟨rfl, rfl⟩ := h
  obtain ⟨h1, h2⟩ := DG hr hg
  obtain ⟨h3, h4⟩ := O2 ha h1
  refine ⟨h3, fun loc w vs B M hR hC hv => ?_⟩
  cases vs with
  | nil => exact hv.elim
  | cons v vs => exact ⟨v, vs, a.map (L.ev e), r.map (L.ev e), rfl, by simp, h4 loc w v B M hR (hC.sub fun y hy => by simp only [Ba, List.append_nil] at hy; simp [Ba, hy]) hv.1, h2 loc w vs B M hR (hC.sub fun y hy => by simp only [Ba, List.mem_append]; exact .inr hy) hv.2⟩
 | [], _ :: _, _, _, _, h, _ => by simp [Ei] at h
 | _ :: _, [], _, _, _, h, _ => by simp [Ei] at h
theorem JK : ∀ {ss : List Au} {as : List A} {b : Nat}, as.length = ss.length → (∀ j a, as[j]? = some a → e (b + j) = a) → Aj e n loc (Re ss b) (Ag ss as)
 | [], [], _, _, _ => trivial
 | [], _ :: _, _, h, _ => by simp at h
 | _ :: _, [], _, h, _ => by simp at h
 | s :: ss, a :: as, b, h, hh => ⟨GB (by simpa using hh 0 a rfl), JK (by simpa using h) fun j x hx => by
   have := hh (j + 1) x (by simpa using hx)
   rwa [show b + 1 + j = b + (j + 1) by omega]⟩
theorem Rv : ∀ {ss : List Au} {ls : List L}, ls.length = ss.length → Aj e n loc (Zc ss ls) (Ag ss (ls.map (L.ev e)))
 | [], [], _ => trivial
 | [], _ :: _, h => by simp at h
 | _ :: _, [], h => by simp at h
 | s :: ss, l :: ls, h => ⟨GB rfl, Rv (by simpa using h)⟩
theorem NH : ∀ {rs : List (Bool × List Au)} {ls : List L} {ps : List PV} {vs : List Value}, Rg rs ls = some ps → FK rs (ls.map (L.ev e)) vs → AA e n loc ps vs
 | [], [], ps, vs, h, hr => by
  simp [Rg] at h
  subst h
  rw [hr.2]
  trivial
 | [], _ :: _, ps, vs, h, hr => by simp [Rg] at h
 | (agg, ss) :: rs, ls, ps, vs, h, hr => by
  simp only [Rg, Option.bind_eq_bind] at h
  split at h
  ·cases h
  ·rename_i hlen
   simp only [Option.bind_eq_some_iff, Option.some.injEq] at h
   obtain ⟨p, hp, r, hr2, rfl⟩ := h
   obtain ⟨v, vr, a1, a2, rfl, he, h1, h2⟩ := hr
   have hl : a1.length = ss.length := h1.1
   have htd : ls.map (L.ev e) = (ls.take ss.length).map (L.ev e) ++ (ls.drop ss.length).map (L.ev e) := by rw [← List.map_append, List.take_append_drop]
   rw [htd] at he
   have hlt : (ls.take ss.length).length = ss.length := by rw [List.length_take]; omega
   obtain ⟨rfl, rfl⟩ := List.append_inj he (by rw [hl, List.length_map, hlt])
   have hv := Rv (e := e) (n := n) (loc := loc) hlt
   refine ⟨?_, NH hr2 h2⟩
   rcases BG hp with ⟨ha, rfl⟩ | ⟨ha, c, hc, rfl⟩
   ·have h3 := h1.2
    rw [if_pos ha] at h3
    exact ⟨_, h3, hv⟩
   ·have h3 := h1.2
    rw [if_neg (by simp [ha])] at h3
    obtain ⟨s, a, q1, q2, q3⟩ := h3
    simp only at q1
    subst q1
    rw [hc, q2] at hv
    rw [q3]
    exact hv.1
theorem Ir : ∀ {rs : List (Bool × List Au)} {b b' : Nat} {ps : List PV} {as : List A} {vs : List Value}, Rf rs b = some (ps, b') → FK rs as vs → (∀ j a, as[j]? = some a → e (b + j) = a) →
  AA e n loc ps vs
 | [], b, b', ps, as, vs, h, hr, hh => by
  simp [Rf] at h
  obtain ⟨rfl, rfl⟩ := h
  rw [hr.2]
  trivial
 | (agg, ss) :: rs, b, b', ps, as, vs, h, hr, hh => by
  simp only [Rf, Option.bind_eq_bind, Option.bind_eq_some_iff, Option.some.injEq, Prod.mk.injEq] at h
  obtain ⟨p, hp, ⟨r, b2⟩, hr2, rfl, rfl⟩ := h
  obtain ⟨v, vr, a1, a2, rfl, rfl, h1, h2⟩ := hr
  have hl : a1.length = ss.length := h1.1
  have hv := JK (e := e) (n := n) (loc := loc) (b := b) hl (fun j a hj => hh j a (by rw [List.getElem?_append_left (Ac hj)]; exact hj))
  refine ⟨?_, Ir hr2 h2 fun j a hj => ?_⟩
  ·rcases BG hp with ⟨ha, rfl⟩ | ⟨ha, c, hc, rfl⟩
   ·have h3 := h1.2
    rw [if_pos ha] at h3
    exact ⟨_, h3, hv⟩
   ·have h3 := h1.2
    rw [if_neg (by simp [ha])] at h3
    obtain ⟨s, a, q1, q2, q3⟩ := h3
    simp only at q1
    subst q1
    subst q2
    rw [hc] at hv
    rw [q3]
    exact hv.1
  ·have := hh (ss.length + j) a (by rw [List.getElem?_append_right (by omega), hl]; simpa using hj)
   rwa [Nat.add_assoc]
end
end Rx
namespace Rx
open Go Go.RowKit
section
variable {T : Nat → List A → Bool × List A} {e : Nat → A} {n n' : Nat} {loc loc' : Loc} {P : Program} {X : Ctx} {w0 : W0}
variable {fr : List SV} {rows : List Row} {gs : List (L × Bool)} {pc : L} {o : Oper} {g : G} {inl : Inline}
theorem SJ (hX : B5 P X.Ay) {t : Nat} (h : Zh X t = true) : P.underlying t = some (.int .u8) := by
 unfold Zh at h
 split at h
 ·rename_i ty hty
  split at h
  ·rename_i hk
   exact Ts (hX t ty hty) hk
  ·cases h
 ·cases h
theorem NI : ∀ {cs : List C} {xs : List L}, bytesOf cs = some xs → xs.length = cs.length ∧ ∀ (j : Nat) c, cs[j]? = some c → ∃ x, xs[j]? = some x ∧ c = .k (.int .u8 x)
 | [], xs, h => by
  simp only [bytesOf, Option.some.injEq] at h
  subst h
  exact ⟨rfl, fun j c hj => by simp at hj⟩
 | c :: l, xs, h => by
  match c, h with
  | .k (.int .u8 x), h =>
   simp only [bytesOf, Option.bind_eq_bind, Option.bind_eq_some_iff, Option.some.injEq] at h
   obtain ⟨r, h1, rfl⟩ := h
   obtain ⟨h2, h3⟩ := NI h1
   refine ⟨by simp [h2], fun j c hj => ?_⟩
   cases j with
   | zero =>
    simp only [List.getElem?_cons_zero, Option.some.injEq] at hj
    exact ⟨x, rfl, hj.symm⟩
   | succ j => exact h3 j c hj
theorem Xc : ∀ {xs : List L} {l : List UInt8}, XF xs = some l → xs.map (fun x => UInt8.ofNat (x.ev e).int.toNat) = l
 | [], l, h => by
  simp only [XF, Option.some.injEq] at h
  subst h
  rfl
 | x :: r, l, h => by
  match x, h with
  | .n x, h =>
   simp only [XF, Option.bind_eq_bind, Option.bind_eq_some_iff, Option.some.injEq] at h
   obtain ⟨m, h1, rfl⟩ := h
   rw [List.map_cons, Xc h1]
   rfl
theorem Vk {xs : List L} {g : G} (h : Good T e (WV xs g).2) : Good T e g ∧ ((WV xs g).1.ev e).str = strOfNums (xs.map fun x => (x.ev e).int) := by
 unfold WV at h ⊢
 cases hl : XF xs with
 | some l =>
  rw [hl] at h
  refine ⟨h, ?_⟩
  show (⟨l.toArray⟩ : ByteArray) = _
  rw [← Xc (e := e) hl]
  simp [strOfNums]
 | none =>
  rw [hl] at h
  simp only at h ⊢
  have h1 := Ah h
  have h2 := Ah h1.1
  refine ⟨h2.1, ?_⟩
  have e2 := h2.2 (.l (xs.map (L.ev e))) (by simp [D.ev])
  rw [h1.2 (.v (.string (strOfNums (xs.map fun x => (x.ev e).int)))) (by
   simp only [List.map_cons, List.map_nil, e2, D.ev, List.getElem?_cons_zero, Option.some.injEq, strOfNums, A.AJ]
   simp [Function.comp_def])]
  rfl
theorem Vl (hX : B5 P X.Ay) {s d : TypeId} {x : Operand} (ho : o.op = .convert s d x) : Bv P T e w0 fr rows gs pc o g (execOp X inl fr rows gs pc o g) := by
 obtain ⟨dst, op', ty, pos, after, guard⟩ := o
 simp only at ho
 subst ho
 simp only [execOp, Option.bind_eq_bind, Ctx.ty]
 cases hp : Db fr gs x with
 | none => trivial
 | some p =>
  simp only [Option.bind_some]
  cases hs : look s X.Ay with
  | none => trivial
  | some ts =>
   simp only [Option.bind_some]
   cases ht : look d X.Ay with
   | none => trivial
   | some td =>
    obtain ⟨ds, hds, _⟩ := (hX s ts hs).kind
    simp only [Option.bind_some]
    unfold Abu
    split
    ·rename_i k k' y hk
     show Bv P T e w0 fr rows gs pc _ g (one (.one (.k (.int k (Mz k y g).1))) (Mz k y g).2)
     refine Ae fun hg => ?_
     have hm := Tl hg
     refine ⟨hm.1, fun loc a w1 _ hgs hf _ => ⟨.int k (k.wrap (y.ev e).int), BN (by rw [hm.2]; rfl), fun w _ => ?_⟩⟩
     have h := Ca (Aa hp hf hgs)
     simp [Go.execOp, h, convert, run_underlying hds, run_underlying (Ts (hX d td ht) hk), Conv.intToInt]
    ·rename_i r off m hk
     split
     ·rename_i u hks
      split
      ·trivial
      rename_i hu8
      have hu8 := SJ hX (by simpa using hu8)
      cases hrow : rows[r]? with
      | none => trivial
      | some row =>
       simp only
       split
       ·trivial
       rename_i hes
       have hes : row.es = 1 := by simpa using hes
       cases hcs : Dp row.cells off m with
       | none => trivial
       | some cs =>
        simp only
        cases hxs : bytesOf cs with
        | none => trivial
        | some xs =>
         simp only
         refine Ae fun hg => ?_
         have hm := Vk hg
         obtain ⟨t1, t2, t3⟩ := Br hcs
         obtain ⟨b1, b2⟩ := NI hxs
         refine ⟨hm.1, fun loc a w1 _ hgs hf hcl1 => ⟨.string (strOfNums (xs.map fun x => (x.ev e).int)), ⟨trivial, rfl, .inr (by simp [K.Bl, hm.2])⟩, fun w hcl => ?_⟩⟩
         obtain ⟨hr, hv⟩ := D4 (Aa hp hf hgs)
         have key : (convert s d (a.eval x)).run P w = .ok (.string (strOfNums (xs.map fun x => (x.ev e).int))) w := by
          rw [hv]
          by_cases hne : row.cells.isEmpty = true
          ·have hm0 : m = 0 := by
            rw [List.isEmpty_iff] at hne
            rw [hne] at t1
            simp at t1
            omega
           refine run_convert_bytes_arg w s u (AD (hX s ts hs) hks) hu8 _ _ _ _ _ (by simp [b1, t3]) (fun i hi => by omega) d (BE (hX d td ht) hk)
          ·have hle := hcl.es hrow (by simpa using hne)
           rw [hes] at hle
           refine run_convert_bytes_arg w s u (AD (hX s ts hs) hks) hu8 _ _ _ _ _ (by simp [b1, t3]) (fun i hi => ?_) d (BE (hX d td ht) hk)
           have hci : ∃ c, cs[i]? = some c := ⟨_, List.getElem?_eq_getElem (by omega)⟩
           obtain ⟨c, hc⟩ := hci
           obtain ⟨y, y1, rfl⟩ := b2 i c hc
           have hc' := E3 hcs hc
           obtain ⟨v, v1, v2⟩ := hcl.cell hrow hc'
           rw [hle, Nat.mul_one, Nat.add_assoc, v1, Ca v2]
           simp [List.getD, y1]
         simp only [Go.execOp, Sem.run_bind, key, Result.andThen_ok, Sem.run_pure]
     ·trivial
    ·rename_i p hk _
     split
     ·rename_i u hks
      split
      ·trivial
      rename_i hu8
      have hu8 := SJ hX (by simpa using hu8)
      split
      ·rename_i y k g1 hl
       show Bv P T e w0 fr rows gs pc _ g (one (.one (.k (.str (g1.push .mks [y]).1))) (g1.push .mks [y]).2)
       refine Ae fun hg => ?_
       have hm := Ah hg
       obtain ⟨la, y', k', hyk, lb⟩ := Cz hl hm.1
       simp only [List.cons.injEq, and_true] at hyk
       obtain ⟨rfl, rfl⟩ := hyk
       refine ⟨la, fun loc a w1 _ hgs hf hcl1 => ?_⟩
       have hpv := Aa hp hf hgs
       obtain ⟨B1, _, hR1, _⟩ := hcl1
       obtain ⟨as, m, c, b, us, e1, hkm, e3, e4, e5, e6, e7⟩ := lb loc w1 _ B1 hR1 hpv
       have em := hm.2 (.v (.string (strOfNums (as.map A.int)))) (by simp only [List.map_cons, List.map_nil, e1, D.ev, List.getElem?_cons_zero, Option.some.injEq, strOfNums, A.AJ]; simp [Function.comp_def])
       refine ⟨.string (strOfNums (as.map A.int)), ⟨trivial, rfl, .inr (by show Value.string _ = Value.string ((L.ev e _).str); rw [em]; rfl)⟩, fun w hcl => ?_⟩
       obtain ⟨B, _, hR, _⟩ := hcl
       obtain ⟨as2, m2, c2, b2, us2, f1, hkm2, f3, f4, f5, f6, f7⟩ := lb loc w _ B hR hpv
       rw [e1] at f1
       injection f1 with f1
       subst f1
       have key : (convert s d (a.eval x)).run P w = .ok (.string (strOfNums (as.map A.int))) w := by
        rw [f3]
        have hal : as.length = m2 := by rw [f5]; exact Nat.mul_one _
        by_cases hm0 : m2 = 0
        ·have h0 : as = [] := List.eq_nil_of_length_eq_zero (by rw [hal, hm0])
         subst h0
         cases b2 with
         | none =>
          rw [run_convert_bytes_nil w s u (AD (hX s ts hs) hks) hu8 _ _ d (BE (hX d td ht) hk)]
          rfl
         | some b2 =>
          have hl0 : (loadCells b2 m2).run P w = .ok (([] : List Int).map (Value.int .u8)).toArray w := by rw [hm0]; rfl
          rw [run_convert_bytes_string w s d u _ m2 c2 (AD (hX s ts hs) hks) hu8 (BE (hX d td ht) hk), run_bytesToString w _ m2 c2 [] hl0]
          rfl
        ·obtain ⟨bb, o, rfl, q1, _⟩ := f7 hm0
         have hus := f6.single (ss := [.int .u8]) (by decide) rfl
         subst hus
         refine run_convert_bytes_arg w s u (AD (hX s ts hs) hks) hu8 bb o m2 c2 _ (by rw [List.length_map, hal]) (fun i hi => ?_) d (BE (hX d td ht) hk)
         have hia : as[i]? = some (as[i]'(by omega)) := List.getElem?_eq_getElem _
         refine q1 i _ ?_
         rw [Gq, hia]
         simp [Nat.mod_one, Au.Bl, List.getD, hia]
       simp only [Go.execOp, Sem.run_bind, key, Result.andThen_ok, Sem.run_pure]
      ·trivial
     ·trivial
    ·rename_i u y hk
     split
     ·rename_i hks
      split
      ·trivial
      rename_i hu8
      have hu8 := SJ hX (by simpa using hu8)
      show Bv P T e w0 fr rows gs pc _ g (some (.pv (.one (.k (.fsl rows.length ((g.push .sby [y]).2.push .slen [y]).1))), some (rows ++ [BK [.int .u8] (g.push .sby [y]).1 ((g.push .sby [y]).2.push .slen [y]).1]), ((g.push .sby [y]).2.push .slen [y]).2))
      intro hg
      have hz := Ah hg
      have hx := Ah hz.1
      refine ⟨hx.1, fun loc a w _ hgs hf hcl => ?_⟩
      have ez := hz.2 (.i ((y.ev e).str.size : Int)) (by simp [D.ev])
      have ez' : (((g.push .sby [y]).2.push .slen [y]).1.ev e).int = ((y.ev e).str.size : Int) := by rw [ez]; rfl
      have ex := hx.2 (.l ((y.ev e).str.data.toList.map fun b => .i (b.toNat : Int))) (by simp [D.ev])
      have hv : a.eval x = .string (y.ev e).str := Oo (Aa hp hf hgs)
      have hrun := run_bytes_of_string (P := P) w s d u (y.ev e).str (BE (hX s ts hs) hks) (AD (hX d td ht) hk) hu8
      generalize hcap : grownCap w (y.ev e).str.size 0 u = cap at hrun
      generalize hw' : w.drew.alloc (.cells (bytesRow (y.ev e).str cap) u ((bytesRow (y.ev e).str cap).size, (bytesRow (y.ev e).str cap).size + 1)) = w' at hrun
      have hsz : w'.heap.size = w.heap.size + 1 := by rw [← hw']; exact Array.size_push ..
      have hnew : w'.heap[w.heap.size]? = some (.cells (bytesRow (y.ev e).str cap) u ((bytesRow (y.ev e).str cap).size, (bytesRow (y.ev e).str cap).size + 1)) := by
       rw [← hw']
       show (w.heap.push _)[w.heap.size]? = _
       simp
      have hbl : Below w.heap.size w w' := by
       rw [← hw']
       have h0 : Below w.heap.size w w.drew := ⟨rfl, rfl, rfl, Nat.le_refl _, fun _ _ => rfl⟩
       exact h0.alloc (Nat.le_refl _) _
      have hcl0 := hcl
      obtain ⟨B, ⟨c1, c2, c3⟩, hR, hbel⟩ := hcl
      have hR' := hR.below c3 hbl
      have hlt : ∀ (r : Nat) (z : Row), rows[r]? = some z → (z.own = true ∨ B6 loc r z) → (loc r).blk < w.heap.size := fun r z hr h => by
       rcases h with h | h
       ·have := hR.row r z hr
        unfold AH at this
        rw [if_pos h] at this
        obtain ⟨_, _, _, _, _, _, h5, _⟩ := this
        exact FH h5
       ·exact (hR.Su hr h).1
      have hW := hR'.To (F := fun k => B.F k ∨ k = w.heap.size) (fun k hk => .inl hk) (fun r z hr h hF => by
       rcases hF with hF | hF
       ·rcases h with h | h
        ·have := hR.row r z hr
         unfold AH at this
         rw [if_pos h] at this
         exact this.2.2.1.2 hF
        ·exact (hR.Su hr h).2.2 hF
       ·exact absurd hF (Nat.ne_of_lt (hlt r z hr h)))
      have hcell : ∀ (j : Nat) u', ((y.ev e).str.data.toList.map fun b => Value.int .u8 b.toNat)[j]? = some u' → CF ⟨B.n, fun k => B.F k ∨ k = w.heap.size⟩ w' ⟨w.heap.size, 0 + j, none⟩ = some u' := fun j u' hj => by
       refine DD ?_ (.inr rfl)
       rw [Nat.zero_add]
       have hjl : j < (y.ev e).str.data.toList.length := by
        have := Ac hj
        simpa using this
       have : (bytesRow (y.ev e).str cap)[j]? = some u' := by
        rw [List.getElem?_map] at hj
        simp only [bytesRow]
        rw [Array.getElem?_append_left (by simpa using hjl)]
        simpa using hj
       simp only [World.cell?, hnew]
       simpa using this
      have hF : EM e (CF ⟨B.n, fun k => B.F k ∨ k = w.heap.size⟩ w') (BK [.int .u8] (g.push .sby [y]).1 ((g.push .sby [y]).2.push .slen [y]).1) (.slice (some ⟨w.heap.size, 0, none⟩) (y.ev e).str.size cap) := by
       refine ⟨rfl, rfl, _, _, (y.ev e).str.size, rfl, rfl, Nat.one_pos, ex, by show (List.map _ _).length = _ * 1; rw [List.length_map, Nat.mul_one]; rfl, ez', ?_⟩
       refine GZ.sl (us := (y.ev e).str.data.toList.map fun b => Value.int .u8 b.toNat) (by rw [← hcap]; exact grownCap_ge _ _ _ _) Nat.one_pos (by show (List.map _ _).length = _ * 1; rw [List.length_map, Nat.mul_one]; rfl) (by rw [List.length_map, List.length_map]) hcell fun j s' a' u' h1 h2 h3 => ?_
       simp only [List.length_cons, List.length_nil, Nat.zero_add, Nat.mod_one, List.getElem?_cons_zero, Option.some.injEq] at h1
       subst h1
       rw [List.getElem?_map] at h2 h3
       cases hb : (y.ev e).str.data.toList[j]? with
       | none => rw [hb] at h2; cases h2
       | some b =>
        rw [hb] at h2 h3
        simp only [Option.map_some, Option.some.injEq] at h2 h3
        subst h2 h3
        exact GZ.sc rfl
      have hadd := hW.OW (news := [BK [.int .u8] (g.push .sby [y]).1 ((g.push .sby [y]).2.push .slen [y]).1]) (vs := [.slice (some ⟨w.heap.size, 0, none⟩) (y.ev e).str.size cap]) fun t row hr => by
       cases t with
       | zero =>
        simp only [List.getElem?_cons_zero, Option.some.injEq] at hr
        subst hr
        exact ⟨_, rfl, hF⟩
       | succ t => simp at hr
      refine .inl ⟨.slice (some ⟨w.heap.size, 0, none⟩) (y.ev e).str.size cap, w', .inl ?_, _, Cn loc rows.length _, by simp, ?_, ⟨⟨B.n, fun k => B.F k ∨ k = w.heap.size⟩, ⟨c1, ?_, ?_⟩, hadd, ?_⟩⟩
      ·simp only [Go.execOp, hv, Sem.run_bind, hrun, Result.andThen_ok, Sem.run_pure]
      ·have hat := DY loc rows.length (vs := [.slice (some ⟨w.heap.size, 0, none⟩) (y.ev e).str.size cap]) (t := 0) rfl
       rw [Nat.add_zero] at hat
       refine ⟨⟨by simp, by rw [ez']; exact Int.natCast_nonneg _, ?_⟩, rfl, .inr ?_⟩
       ·rw [hat, CR, ez']
        exact ⟨_, _, rfl⟩
       ·show _ = (CG loc rows.length _ rows.length).v
        rw [hat, CR]
      ·intro k hk
       rcases hk with hk | hk
       ·exact c2 k hk
       ·right
        rw [hk, c1]
        exact hcl0.le
      ·refine ⟨by have := c3.1; show B.n ≤ _; omega, fun k hk => ?_⟩
       rcases hk with hk | hk
       ·have := c3.2 k hk
        omega
       ·omega
      ·exact hbel.trans (hbl.mono hcl0.le)
     ·trivial
    ·trivial
end
end Rx
namespace Rx
open Go Go.RowKit
def AbA (P : Program) (T : Nat → List A → Bool × List A) (m : YZ) : Prop :=
 ∀ (as : List A) (k : A) (c blk cap : Nat) (spare : List Value) (t : TypeId) (w : World), k.int = (c : Nat) → as.length = c * m.ss.length → 1 ≤ c → (T m.f [.l as, k]).1 = true →
  w.heap[blk]? = some (.cells (B0 m.ss as ++ spare).toArray t (0, 0)) → (B0 m.ss as ++ spare).length = cap * m.ss.length →
  Calls P m.f #[.slice (some ⟨blk, 0, none⟩) c cap] w fun en w' => en = .returned (.tuple #[]) ∧ ∃ as', (T m.f [.l as, k]).2 = [.l as'] ∧ as'.length = as.length ∧ Below w.heap.size (w.setRow blk (B0 m.ss as' ++ spare).toArray) w'
section
variable {T : Nat → List A → Bool × List A} {e : Nat → A} {n n' : Nat} {loc loc' : Loc} {P : Program} {X : Ctx} {w0 : W0}
variable {fr : List SV} {rows : List Row} {gs : List (L × Bool)} {pc : L} {o : Oper} {g : G} {inl : Inline}
theorem MS {ss : List Au} (h : Sd ss = true) : ∃ k, ss = [.int k] := by
 match ss, h with
 | [.int k], _ => exact ⟨k, rfl⟩
theorem TC {k : IntKind} {as : List A} {v : Value} (h : v ∈ B0 [.int k] as) : v.oneCell' = true := by
 obtain ⟨j, hj⟩ := List.mem_iff_getElem?.1 h
 rw [Gq] at hj
 cases ha : as[j]? with
 | none => rw [ha] at hj; cases hj
 | some a =>
  rw [ha] at hj
  simp only [List.length_cons, List.length_nil, Nat.zero_add, Nat.mod_one, Option.map_some, Option.some.injEq] at hj
  subst hj
  rfl
theorem Is {k : IntKind} : ∀ {as : List A}, B0 [.int k] as = as.map fun a => .int k a.int := fun {as} => by
 apply List.ext_getElem?
 intro j
 rw [Gq, List.getElem?_map]
 simp [Nat.mod_one, Au.Bl]
theorem NJ {w : World} {g : Nat} {cs : Array Value} {t : TypeId} {fr : Nat × Nat} (h : w.heap[g]? = some (.cells cs t fr)) : w.setRow g cs = w := by
 have hh : (w.setRow g cs).heap = w.heap := by
  apply Array.ext_getElem?
  intro i
  by_cases hi : i = g
  ·subst hi; rw [setRow_heap w _ _ _ _ _ h, h]
  ·exact setRow_other w _ _ _ hi
 show ({ w with heap := (w.setRow g cs).heap } : World) = w
 rw [hh]
theorem setRow_size (w : World) (g : Nat) (cs : Array Value) : (w.setRow g cs).heap.size = w.heap.size := by simp [World.setRow]
theorem O3 {w : World} (h : Bn e w0 loc rows w) {r : Nat} {row : Row} {a : FD} (hr : rows[r]? = some row) (hq : row.lst = some a) (ho : a.own = true) (hem : (loc r).emp = false)
  {z : L} {as as' : List A} {us sp : List Value} (hx : a.x.ev e = .l as) (hz : z.ev e = .l as') (hl : as'.length = as.length)
  (hb : w.heap[(loc r).blk]? = some (.cells (us ++ sp).toArray a.ty (0, 0))) {us' : List Value} (hus : us'.length = us.length) (hsg : a.ss.all Au.single = true) (hu' : us' = B0 a.ss as') :
  Bn e w0 loc (rows.set r { row with lst := some { a with x := z } }) (w.setRow (loc r).blk (us' ++ sp).toArray) := by
 obtain ⟨B, ⟨hBn, hBF, hBl⟩, hR, hbel⟩ := h
 have hlo := (hR.lst r row a hr hq).2
 obtain ⟨as0, m, l1, l2, l3, l4, l6⟩ := id hlo
 rw [if_pos ho, if_neg (by simp [hem])] at l6
 obtain ⟨g1, g3, g4, vs, sp0, g5, g6, g7⟩ := l6
 rw [hx] at l1
 injection l1 with l1
 subst l1
 rw [hb] at g5
 injection g5 with g5
 injection g5 with g5 _ _
 have g5 : us ++ sp = vs ++ sp0 := by simpa using congrArg Array.toList g5
 have hlen : (us ++ sp).length = (loc r).cap * a.ss.length := by rw [g5]; exact g6
 have hmem : CF B (w.setRow (loc r).blk (us' ++ sp).toArray) = CF B w := DX fun k hk => setRow_other w _ k _ (fun h0 => g3.2 (h0 ▸ hk))
 refine ⟨B, ⟨hBn, hBF, hBl.mono (by simp [World.setRow])⟩, ?_, hbel.trans (G3 (hBn ▸ g3.1) _)⟩
 refine hR.ZD hBl hr hq ho hem (fun k hk => setRow_other w _ k _ hk) ho ⟨as', m, hz, by rw [hl, l2], l3, l4, ?_⟩
 rw [if_pos ho, if_neg (by simp [hem])]
 refine ⟨g1, g3, g4, us', sp, setRow_heap w _ _ _ _ _ hb, ?_, ?_⟩
 ·rw [← hlen, List.length_append, List.length_append, hus]
 ·rw [hu']
  exact Cg.Gw l4 hsg
theorem TD {w : World} {B : Bd} (hR : Ad e loc rows w B) {r : Nat} {row : Row} {a : FD} {v : Value} {k : L} (hr : rows[r]? = some row) (hq : row.lst = some a) (ho : a.own = true) (hk : k = a.n)
  (h1 : (1 : Int) ≤ (k.ev e).int) (hv : (PV.one (.k (.lsl r k))).rel e rows.length loc v) (hsg : a.ss.all Au.single = true) :
  ∃ (as : List A) (c : Nat) (sp : List Value), (loc r).emp = false ∧ a.x.ev e = .l as ∧ as.length = c * a.ss.length ∧ (k.ev e).int = (c : Nat) ∧ 1 ≤ c ∧ v = .slice (some ⟨(loc r).blk, 0, none⟩) c (loc r).cap ∧
   w.heap[(loc r).blk]? = some (.cells (B0 a.ss as ++ sp).toArray a.ty (0, 0)) ∧ (B0 a.ss as ++ sp).length = (loc r).cap * a.ss.length := by
 subst hk
 have hlo := (hR.lst r row a hr hq).2
 obtain ⟨as, m, l1, l2, l3, l4, l6⟩ := id hlo
 rw [if_pos ho] at l6
 have hem : (loc r).emp = false := by
  cases he : (loc r).emp
  ·rfl
  ·rw [if_pos he] at l6; omega
 rw [if_neg (by simp [hem])] at l6
 obtain ⟨g1, g3, g4, vs, sp, g5, g6, g7⟩ := l6
 have := g7.single l4 hsg
 subst this
 refine ⟨as, m, sp, hem, l1, l2, l3, by omega, ?_, g5, g6⟩
 rcases hv.2.2 with h | h
 ·cases h
 ·rw [h]
  simp only [K.Bl, hem, Bool.false_eq_true, if_false, g1, l3, Int.toNat_natCast]
theorem QI {m : YZ} {args : List PV} {v : SV} {rows' : List Row} {g' : G} (hm : AbA P T m) (h : Sf m args rows pc g = some (v, rows', g')) (hg : Good T e g') :
  Good T e g ∧ ∀ (loc : Loc) (vs : List Value) (w : World), (pc.ev e).bool = true → AA e rows.length loc args vs → Bn e w0 loc rows w →
   Calls P m.f vs.toArray w fun en w' => ∃ u, en = .returned u ∧ ∃ loc', AO rows.length loc loc' ∧ rows.length ≤ rows'.length ∧ v.rel e rows'.length loc' u ∧ Bn e w0 loc' rows' w' := by
 unfold Sf at h
 split at h
 ·rename_i r k
  split at h
  ·cases h
  ·rename_i row hrow
   split at h
   ·cases h
   ·rename_i a ha
    split at h
    ·cases h
    ·rename_i hc
     simp only [Bool.or_eq_true, Bool.not_eq_true', not_or, Bool.not_eq_false] at hc
     obtain ⟨⟨⟨c1, c2⟩, c3⟩, c4⟩ := hc
     have c2 := B3 c2
     have c4 := L.Af c4
     simp only [Option.some.injEq, Prod.mk.injEq] at h
     obtain ⟨rfl, rfl, rfl⟩ := h
     have hm2 := As hg
     have hp := Dh hm2.1
     have hm1 := As hp.1
     have hle := AB hm1.1
     refine ⟨hle.1, fun loc vs w hpc hvs hcl => ?_⟩
     obtain ⟨v, rfl, hv⟩ : ∃ v, vs = [v] ∧ (PV.one (.k (.lsl r k))).rel e rows.length loc v := by
      match vs, hvs with
      | [v], hvs => exact ⟨v, rfl, hvs.1⟩
     have h1 : (1 : Int) ≤ (k.ev e).int := by
      have := hm1.2 hpc
      rw [hle.2] at this
      exact of_decide_eq_true this
     have hcl0 := hcl
     obtain ⟨B, hB, hR, hbel⟩ := hcl
     obtain ⟨as, c, sp, o1, o2, o3, o4, o5, rfl, o7, o8⟩ := TD hR hrow ha c1 c4 h1 hv (by rw [c2]; exact c3)
     have hpre := hm2.2 hpc
     have e0 := hp.2 0 (.b (T m.f [.l as, k.ev e]).1) (by simp [D.ev, o2])
     have hpre : (T m.f [.l as, k.ev e]).1 = true := by
      rw [Nat.add_zero] at e0
      have : ((L.var (((AK .leq (.n 1) k g).2.Bo pc (AK .leq (.n 1) k g).1).BJ (.call m.f) [a.x, k] 2).1).ev e).bool = true := hpre
      simp only [L.ev, e0] at this
      exact this
     refine (hm as (k.ev e) c (loc r).blk (loc r).cap sp a.ty w o4 (by rw [← c2]; exact o3) o5 hpre (by rw [← c2]; exact o7) (by rw [← c2]; exact o8)).mono ?_
     rintro en w' ⟨rfl, as', t1, t2, t3⟩
     refine ⟨_, rfl, loc, AO.refl _ _, by simp, ⟨[], rfl, trivial⟩, ?_⟩
     have e1 := hp.2 1 (.l as') (by simp [D.ev, o2, t1])
     have hw := O3 hcl0 hrow ha c1 o1 o2 (z := .var ((((AK .leq (.n 1) k g).2.Bo pc (AK .leq (.n 1) k g).1).BJ (.call m.f) [a.x, k] 2).1 + 1)) e1 t2 o7 (us' := B0 a.ss as') (by rw [Cf, Cf, t2]) (by rw [c2]; exact c3) rfl
     rw [← c2] at t3
     rw [← setRow_size w (loc r).blk (B0 a.ss as' ++ sp).toArray] at t3
     exact hw.Ij t3
 ·cases h
theorem Vm {p q : PV} {v : SV} {g' : G} (h : Ri rows p q pc g = some (v, none, g')) : False := by
 unfold Ri at h
 split at h
 ·split at h
  ·cases h
  ·split at h
   ·cases h
   ·split at h
    ·cases h
    ·split at h
     ·simp at h
     ·cases h
 ·cases h
theorem TE {p q : PV} {v : SV} {rows' : List Row} {g' : G} {t ty u : TypeId} {tu : Ty} (htu : FB P u tu) (hsz : tu.size = 1) (hun : P.underlying t = some (.slice u)) (h : Ri rows p q pc g = some (v, some rows', g')) (hg : Good T e g') :
  Good T e g ∧ ∀ (loc : Loc) (w : World) (vp vq : Value), (pc.ev e).bool = true → Bn e w0 loc rows w → p.rel e rows.length loc vp → q.rel e rows.length loc vq →
   ∃ x w', (Builtin.copy_ #[t, t] ty #[vp, vq]).run P w = .ok x w' ∧ ∃ loc', AO rows.length loc loc' ∧ rows.length ≤ rows'.length ∧ v.rel e rows'.length loc' x ∧ Bn e w0 loc' rows' w' := by
 unfold Ri at h
 split at h
 ·rename_i r k
  split at h
  ·cases h
  ·rename_i row hrow
   split at h
   ·cases h
   ·rename_i a ha
    split at h
    ·cases h
    ·rename_i hc
     simp only [Bool.or_eq_true, Bool.not_eq_true', not_or, Bool.not_eq_false] at hc
     obtain ⟨⟨c1, c2⟩, c4⟩ := hc
     have c4 := L.Af c4
     obtain ⟨ik, c2⟩ := MS c2
     have c3 : a.ss.all Au.single = true := by rw [c2]; rfl
     split at h
     ·rename_i y k2 g1 hl
      simp only [Option.some.injEq, Prod.mk.injEq] at h
      obtain ⟨rfl, rfl, rfl⟩ := h
      have hz := Ah hg
      have hmn := Ah hz.1
      have hm1 := As hmn.1
      have hle := AB hm1.1
      obtain ⟨la, y', k', hyk, lb⟩ := Cz hl hle.1
      simp only [List.cons.injEq, and_true] at hyk
      obtain ⟨rfl, rfl⟩ := hyk
      refine ⟨la, fun loc w vp vq hpc hcl hp hq => ?_⟩
      have h1 : (1 : Int) ≤ (k.ev e).int := by
       have := hm1.2 hpc
       rw [hle.2] at this
       exact of_decide_eq_true this
      have hcl0 := hcl
      obtain ⟨B, hB, hR, hbel⟩ := hcl
      obtain ⟨as, c, sp, o1, o2, o3, o4, o5, rfl, o7, o8⟩ := TD hR hrow ha c1 c4 h1 hp c3
      obtain ⟨bs, m, qc, qb, us, e1, hkm, rfl, e4, e5, e6, e7⟩ := lb loc w vq B (hR.kill r) (by rw [List.length_set]; exact hq)
      have hus := e6.single e4 c3
      subst hus
      have emn := hmn.2 (.i (if (k2.ev e).int < (k.ev e).int then (k2.ev e).int else (k.ev e).int)) (by simp [D.ev])
      have hmin : (if (k2.ev e).int < (k.ev e).int then (k2.ev e).int else (k.ev e).int) = ((Nat.min m c : Nat) : Int) := by
       rw [hkm, o4]
       simp only [Nat.min_def]
       split <;> split <;> omega
      rw [hmin] at emn
      have ez := hz.2 (.l (bs.take (Nat.min m c) ++ as.drop (Nat.min m c))) (by simp [D.ev, o2, e1, emn])
      have hss : a.ss.length = 1 := by rw [c2]; rfl
      rw [hss, Nat.mul_one] at o3 e5
      have hlen : (bs.take (Nat.min m c) ++ as.drop (Nat.min m c)).length = as.length := by
       have hmin1 := Nat.min_le_left m c
       have hmin2 := Nat.min_le_right m c
       rw [List.length_append, List.length_take, List.length_drop, e5, o3, Nat.min_eq_left hmin1]
       omega
      have hsame : B0 a.ss (bs.take (Nat.min m c) ++ as.drop (Nat.min m c)) = (B0 a.ss bs).take (Nat.min m c) ++ (B0 a.ss as).drop (Nat.min m c) := by
       rw [c2, Is, Is, Is, List.map_append, List.map_take, List.map_drop]
      have hinfo : (P.info? u).map (·.size) = some 1 := by
       obtain ⟨i, z0, hi1, hi2, _⟩ := htu.info
       rw [hi1]
       simp [hi2, hsz]
      have hw := O3 hcl0 hrow ha c1 o1 o2 ez hlen o7 (us' := B0 a.ss (bs.take (Nat.min m c) ++ as.drop (Nat.min m c))) (by rw [Cf, Cf, hlen]) c3 rfl
      refine ⟨goInt (Nat.min m c), _, ?_, loc, AO.refl _ _, by simp, ⟨trivial, rfl, .inr ?_⟩, hw⟩
      ·by_cases hm0 : m = 0
       ·subst hm0
        have h0 : Nat.min 0 c = 0 := Nat.zero_min c
        rw [run_copy_none (P := P) w t t ty u _ _ c _ 0 _ hun hinfo h0, h0]
        simp only [List.take_zero, List.drop_zero, List.nil_append]
        rw [NJ o7]
        rfl
       ·obtain ⟨b, o, rfl, q1, _⟩ := e7 hm0
        have hcs : ((B0 a.ss bs).take (Nat.min m c)).length = Nat.min m c := by
         rw [List.length_take, Cf, e5]
         exact Nat.min_eq_left (Nat.min_le_left m c)
        rw [run_copy_row (P := P) w t t ty u (loc r).blk 0 c _ ⟨b, o, none⟩ m _ _ a.ty ((B0 a.ss bs).take (Nat.min m c)) hun hinfo o7 hcs ?_ ?_ ?_]
        ·rw [hcs, hsame]
         congr 2
         congr 1
         simp only [List.take_zero, List.nil_append, Nat.zero_add]
         rw [List.drop_append_of_le_length (by rw [Cf, o3]; exact Nat.min_le_right _ _), List.append_assoc]
        ·intro j v' hj
         have hj' : (B0 a.ss bs)[j]? = some v' := by
          rw [List.getElem?_take] at hj
          split at hj
          ·exact hj
          ·cases hj
         have := q1 j v' hj'
         have hplain : (⟨b, o, none⟩ : Addr).add j = ⟨b, o + j, none⟩ := by unfold Addr.add; split <;> simp_all
         rw [hplain]
         exact this
        ·rw [hcs]
         simp only [List.size_toArray, List.length_append, Cf, o3, Nat.zero_add]
         exact Nat.le_trans (Nat.min_le_right _ _) (Nat.le_add_right _ _)
        ·intro v' hv'
         rw [c2] at hv'
         exact TC (List.mem_of_mem_take hv')
      ·show _ = Value.int .i64 _
       rw [emn]
       rfl
     ·cases h
 ·cases h
theorem JL {kd : IntKind} {n : Nat} : ∀ {cs : List C} {xs : List L} {vs : List Value}, OG kd cs = some xs → Aj e n loc cs vs → xs.length = cs.length ∧ vs = xs.map fun x => Value.int kd (x.ev e).int
 | [], xs, vs, h, hr => by
  simp only [OG, Option.some.injEq] at h
  subst h
  match vs, hr with
  | [], _ => exact ⟨rfl, rfl⟩
 | c :: l, xs, vs, h, hr => by
  match c, h with
  | .k (.int k x), h =>
   unfold OG at h
   split at h
   ·rename_i hk
    split at h
    ·rename_i r hr'
     simp only [Option.some.injEq] at h
     subst h
     match vs, hr with
     | v :: vs, hr =>
      obtain ⟨h1, h2⟩ := JL hr' hr.2
      have hv : v = Value.int k (x.ev e).int := by
       rcases hr.1.2.2 with h3 | h3
       ·cases h3
       ·exact h3
      rw [BD hk] at hv
      exact ⟨by simp [h1], by rw [hv, h2]; rfl⟩
    ·cases h
   ·cases h
def TF (kd : IntKind) (as : List A) : Nat → Nat → List Value
 | 0, _ => []
 | n + 1, j => .int kd (as.getD j (.i 0)).int :: TF kd as n (j + 1)
theorem TG {kd : IntKind} {as : List A} : ∀ {n j : Nat}, j + n = as.length → TF kd as n j = (as.drop j).map fun a => Value.int kd a.int
 | 0, j, h => by simp [TF, List.drop_eq_nil_of_le (show as.length ≤ j by omega)]
 | n + 1, j, h => by
  have hj : j < as.length := by omega
  rw [List.drop_eq_getElem_cons hj, List.map_cons, TF, TG (by omega)]
  simp [List.getD, hj]
theorem O4 {kd : IntKind} {z : L} : ∀ {m j : Nat} {g : G}, Good T e (Rj kd z m j g).2 → Good T e g ∧ (Rj kd z m j g).1.length = m ∧ ∀ {as : List A}, z.ev e = .l as → ∀ {N : Nat} {loc : Loc}, Aj e N loc (Rj kd z m j g).1 (TF kd as m j)
 | 0, j, g, h => ⟨h, rfl, fun _ => trivial⟩
 | m + 1, j, g, h => by
  simp only [Rj] at h ⊢
  obtain ⟨h1, h2, h3⟩ := O4 h
  have hp := Ah h1
  refine ⟨hp.1, by simp [h2], fun {as} hz {N} {loc} => ⟨⟨trivial, rfl, .inr ?_⟩, h3 hz⟩⟩
  have := hp.2 (as.getD j (.i 0)) (by simp only [D.ev, List.map_cons, List.map_nil, hz]; simp [A.AJ, L.ev, A.int])
  simp only [K.Bl]
  rw [this]
theorem Vn {p q : PV} {v : SV} {g' : G} (h : Rk rows p q g = some (v, none, g')) : False := by
 unfold Rk at h
 split at h
 ·split at h
  ·cases h
  ·split at h
   ·cases h
   ·split at h
    ·cases h
    ·split at h
     ·cases h
     ·split at h
      ·simp at h
      ·cases h
 ·cases h
theorem TH {p q : PV} {v : SV} {rows' : List Row} {g' : G} {t ty u : TypeId} {tu : Ty} (htu : FB P u tu) (hsz : tu.size = 1) (hun : P.underlying t = some (.slice u)) (h : Rk rows p q g = some (v, some rows', g')) (hg : Good T e g') :
  Good T e g ∧ ∀ (loc : Loc) (w : World) (vp vq : Value), Bn e w0 loc rows w → p.rel e rows.length loc vp → q.rel e rows.length loc vq →
   ∃ x w', (Builtin.copy_ #[t, t] ty #[vp, vq]).run P w = .ok x w' ∧ ∃ loc', AO rows.length loc loc' ∧ rows.length ≤ rows'.length ∧ v.rel e rows'.length loc' x ∧ Bn e w0 loc' rows' w' := by
 unfold Rk at h
 split at h
 ·rename_i r off es len cap
  split at h
  ·cases h
  ·rename_i row hrow
   split at h
   ·cases h
   ·rename_i hc
    simp only [Bool.or_eq_true, Bool.not_eq_true', bne_iff_ne, ne_eq, beq_iff_eq, not_or, Bool.not_eq_false, Decidable.not_not] at hc
    obtain ⟨⟨c1, c2⟩, c3⟩ := hc
    split at h
    ·cases h
    ·rename_i cs hcs
     split at h
     ·cases h
     ·rename_i xs hxs
      generalize Se cs = kd at *
      split at h
      ·rename_i y k g1 hl
       simp only [Option.some.injEq, Prod.mk.injEq] at h
       obtain ⟨rfl, rfl, rfl⟩ := h
       obtain ⟨hp1, hp2, hp3⟩ := O4 hg
       have hz := Ah hp1
       have hma := Ah hz.1
       have hmn := Ah hma.1
       obtain ⟨la, y', k', hyk, lb⟩ := Cz hl hmn.1
       simp only [List.cons.injEq, and_true] at hyk
       obtain ⟨rfl, rfl⟩ := hyk
       refine ⟨la, fun loc w vp vq hcl hp hq => ?_⟩
       obtain ⟨r1, rfl⟩ := GA hp
       have hcl0 := hcl
       obtain ⟨B, hB, hR, hbel⟩ := hcl
       obtain ⟨bs, m, qc, qb, us, e1, hkm, rfl, e4, e5, e6, e7⟩ := lb loc w vq B (hR.kill r) (by rw [List.length_set]; exact hq)
       have hus := e6.single e4 rfl
       subst hus
       obtain ⟨t1, t2, t3⟩ := Br hcs
       have hrowOK := hR.row r row hrow
       unfold AH at hrowOK
       rw [if_pos c1] at hrowOK
       obtain ⟨a1, a2, a3, a4, vs, sp, a5, a6, a7⟩ := hrowOK
       have hvl := AR a6
       have hcsr : Aj e rows.length loc cs ((vs.drop off).take len) := by rw [t2]; exact Fe (Ff a6 off) len
       obtain ⟨x1, x2⟩ := JL hxs hcsr
       have hxl : xs.length = len := by rw [x1, t3]
       have emn := hmn.2 (.i (if (k.ev e).int < (len : Int) then (k.ev e).int else (len : Int))) (by
        simp only [D.ev, List.map_cons, List.map_nil]
        rfl)
       have hmin : (if (k.ev e).int < (len : Int) then (k.ev e).int else (len : Int)) = ((Nat.min m len : Nat) : Int) := by
        rw [hkm]
        simp only [Nat.min_def]
        split <;> split <;> omega
       rw [hmin] at emn
       have ema := hma.2 (.l (xs.map (L.ev e))) (by simp [D.ev])
       have ez := hz.2 (.l (bs.take (Nat.min m len) ++ (xs.map (L.ev e)).drop (Nat.min m len))) (by simp [D.ev, ema, e1, emn, A.AJ, A.int])
       have hm1 := Nat.min_le_left m len
       have hm2 := Nat.min_le_right m len
       rw [List.length_singleton, Nat.mul_one] at e5
       have hzl : (bs.take (Nat.min m len) ++ (xs.map (L.ev e)).drop (Nat.min m len)).length = len := by
        rw [List.length_append, List.length_take, List.length_drop, List.length_map, e5, hxl, Nat.min_eq_left hm1]
        omega
       have hds := hp3 ez (N := rows.length) (loc := loc)
       rw [TG (by rw [hzl, Nat.zero_add]), List.drop_zero, List.map_append, List.map_take, List.map_drop, List.map_map] at hds
       have hold : xs.map ((fun a => Value.int kd a.int) ∘ L.ev e) = (vs.drop off).take len := by rw [x2]; rfl
       rw [hold, ← Is] at hds
       have hul : ((B0 [.int kd] bs).take (Nat.min m len) ++ ((vs.drop off).take len).drop (Nat.min m len)).length = len := by
        rw [← AR hds, hp2]
       obtain ⟨cur, k1, k2, k3, k4⟩ := MP hcl0 hrow c1 (off := off) (us := (B0 [.int kd] bs).take (Nat.min m len) ++ ((vs.drop off).take len).drop (Nat.min m len)) (by rw [hul]; exact t1) (fun vs' hvs' => Fg hvs' hds (by rw [hp2]; exact t1))
       rw [a5] at k1
       injection k1 with k1
       injection k1 with k1 _ _
       have k1 : vs ++ sp = cur := by simpa using congrArg Array.toList k1
       subst k1
       have hinfo : (P.info? u).map (·.size) = some 1 := by
        obtain ⟨i, z0, hi1, hi2, _⟩ := htu.info
        rw [hi1]
        simp [hi2, hsz]
       have hsplit : ((vs.drop off).take len).drop (Nat.min m len) ++ (vs ++ sp).drop (off + len) = (vs ++ sp).drop (off + Nat.min m len) := by
        have h1 : ((vs ++ sp).drop off).take len = (vs.drop off).take len := by
         rw [List.drop_append_of_le_length (by omega), List.take_append_of_le_length (by rw [List.length_drop]; omega)]
        rw [← h1, ← List.drop_drop, ← List.drop_drop]
        generalize (vs ++ sp).drop off = l at *
        have hll : len ≤ l.length := by
         have := congrArg List.length h1
         simp only [List.length_take, List.length_drop] at this
         omega
        rw [← List.drop_append_of_le_length (by rw [List.length_take]; omega), List.take_append_drop]
       rw [hul] at k4
       rw [List.append_assoc, List.append_assoc, hsplit, ← List.append_assoc] at k4
       refine ⟨goInt (Nat.min m len), _, ?_, loc, AO.refl _ _, by simp, ⟨trivial, rfl, .inr ?_⟩, k4⟩
       ·rw [k2, Nat.zero_add]
        by_cases hm0 : m = 0
        ·subst hm0
         have h0 : Nat.min 0 len = 0 := Nat.zero_min len
         rw [run_copy_none (P := P) w t t ty u _ _ len _ 0 _ hun hinfo h0, h0]
         simp only [List.take_zero, List.append_nil, Nat.add_zero, List.take_append_drop]
         rw [NJ a5]
         rfl
        ·obtain ⟨b, o, rfl, q1, _⟩ := e7 hm0
         have hcl : ((B0 [.int kd] bs).take (Nat.min m len)).length = Nat.min m len := by
          rw [List.length_take, Cf, e5]
          exact Nat.min_eq_left hm1
         rw [run_copy_row (P := P) w t t ty u (loc r).blk off len _ ⟨b, o, none⟩ m _ _ row.ty ((B0 [.int kd] bs).take (Nat.min m len)) hun hinfo a5 hcl ?_ ?_ ?_]
         ·rw [hcl]
         ·intro j v' hj
          have hj' : (B0 [.int kd] bs)[j]? = some v' := by
           rw [List.getElem?_take] at hj
           split at hj
           ·exact hj
           ·cases hj
          have := q1 j v' hj'
          have hplain : (⟨b, o, none⟩ : Addr).add j = ⟨b, o + j, none⟩ := by unfold Addr.add; split <;> simp_all
          rw [hplain]
          exact this
         ·rw [hcl]
          simp only [List.size_toArray, List.length_append]
          omega
         ·intro v' hv'
          exact TC (List.mem_of_mem_take hv')
       ·show _ = Value.int .i64 _
        rw [emn]
        rfl
      ·cases h
 ·cases h
end
end Rx
namespace Rx
open Go Go.RowKit
def HC (P : Program) (T : Nat → List A → Bool × List A) (e : Nat → A) (w0 : W0) (inl : Inline) : Prop :=
 O1 P w0.w ∧ ∀ (f : Nat) (args : List PV) (rows : List Row) (pc : L) (g : G) (v : SV) (rows' : List Row) (g' : G), inl f args rows pc g = some (v, rows', g') → Good T e g' → Good T e g ∧
  ∀ (loc : Loc) (vs : List Value) (w : World), (pc.ev e).bool = true → AA e rows.length loc args vs → Bn e w0 loc rows w →
   Calls P f vs.toArray w fun en w' => ∃ u, en = .returned u ∧ ∃ loc', AO rows.length loc loc' ∧ rows.length ≤ rows'.length ∧ v.rel e rows'.length loc' u ∧ Bn e w0 loc' rows' w'
section
variable {T : Nat → List A → Bool × List A} {e : Nat → A} {n n' : Nat} {loc loc' : Loc} {P : Program} {X : Ctx} {w0 : W0}
variable {fr : List SV} {rows : List Row} {gs : List (L × Bool)} {pc : L} {o : Oper} {g : G} {inl : Inline}
theorem MT : ∀ {l : List K} {vs : List Value}, C8 e n loc l vs → AA e n loc (l.map fun x => .one (.k x)) vs
 | [], [], _ => trivial
 | _ :: _, _ :: _, h => ⟨h.1, MT h.2⟩
theorem F7 : ∀ {l : List PV} {m : List Value} {l' : List PV} {m' : List Value}, AA e n loc l m → AA e n loc l' m' → AA e n loc (l ++ l') (m ++ m')
 | [], [], _, _, _, h => h
 | _ :: _, _ :: _, _, _, h, h' => ⟨h.1, F7 h.2 h'⟩
theorem GC {ps : List PV} {vs : List Value} (h : AA e n loc ps vs) : (Lb ps).rel e n loc (Ip vs) := by
 match ps, vs, h with
 | [], [], _ => exact ⟨[], rfl, trivial⟩
 | [p], [v], h => exact h.1
 | p :: q :: ps, v :: u :: vs, h => exact ⟨v :: u :: vs, rfl, h⟩
 | [_], _ :: _ :: _, h => exact h.2.elim
 | _ :: _ :: _, [_], h => exact h.2.elim
theorem KQ (ls : List L) : Xb (ls.map OD) (ls.map (L.ev e)) := by
 refine ⟨by simp, fun j x hx a ha => ?_⟩
 rw [List.getElem?_map] at hx ha
 cases hl : ls[j]? with
 | none => rw [hl] at hx; cases hx
 | some l =>
  rw [hl] at hx ha
  simp only [Option.map_some, Option.some.injEq] at hx ha
  unfold OD at hx
  split at hx
  ·injection hx with hx
   subst hx
   exact ha.symm
  ·cases hx
theorem QJ {c : J7} {args ps : List PV} {g' : G} (hctr : CJ P T c) (hT : O1 P w0.w) (hcall : R8 c args rows pc g = some (ps, g')) (hg : Good T e g') :
  Good T e g ∧ ∀ (loc : Loc) (vs : List Value), (pc.ev e).bool = true → AA e rows.length loc args vs → (∃ w, Bn e w0 loc rows w) →
   ∃ u, (Lb ps).rel e rows.length loc u ∧ ∀ w, Bn e w0 loc rows w → Calls P c.f vs.toArray w fun en w' => en = .returned u ∧ Below w.heap.size w w' := by
 simp only [R8, Option.bind_eq_bind, Option.bind_eq_some_iff] at hcall
 obtain ⟨⟨ls, g0⟩, hls, hcall⟩ := hcall
 simp only at hcall
 split at hcall
 ·cases hcall
 ·rename_i hok
  have fa : Good T e g0 → Good T e g ∧ ∀ (loc : Loc) (w : World) (vs : List Value), Bn e w0 loc rows w → AA e rows.length loc args vs → Cb w.cell? c.ps vs (ls.map (L.ev e)) := fun hg => by
   obtain ⟨h1, h2⟩ := DG hls hg
   refine ⟨h1, fun loc w vs hcl hv => ?_⟩
   obtain ⟨B, _, hR, _⟩ := hcl
   exact h2 loc w vs B w.cell? hR .all hv
  have key : Good T e g0 → ∀ (loc : Loc) (vs : List Value), AA e rows.length loc args vs → (T c.f (ls.map (L.ev e))).1 = true → (∃ w, Bn e w0 loc rows w) →
    (∀ us, FK c.rs (T c.f (ls.map (L.ev e))).2 us → AA e rows.length loc ps us) →
    ∃ u, (Lb ps).rel e rows.length loc u ∧ ∀ w, Bn e w0 loc rows w → Calls P c.f vs.toArray w fun en w' => en = .returned u ∧ Below w.heap.size w w' := by
   intro hg0 loc vs hvs hpre ⟨w1, hw1⟩ hres
   have hcalls : ∀ w, Bn e w0 loc rows w → Calls P c.f vs.toArray w fun en w' => ∃ u, en = .returned u ∧ KO c.rs (T c.f (ls.map (L.ev e))).2 u ∧ Below w.heap.size w w' := fun w hw =>
    hctr (ls.map OD) (ls.map (L.ev e)) vs w (hT.on hw.bel) (by simpa using hok) (KQ ls) ((fa hg0).2 loc w vs hw hvs) hpre
   obtain ⟨_, _, _, ⟨u, _, hu, _⟩, _⟩ := hcalls w1 hw1 []
   refine ⟨u, ?_, fun w hw => (hcalls w hw).mono ?_⟩
   ·obtain ⟨us, hus, rfl⟩ := hu
    exact GC (hres us hus)
   ·rintro en w' ⟨u', rfl, hu', hb⟩
    exact ⟨by rw [hu.unique hu'], hb⟩
  split at hcall
  ·rename_i o res hf
   simp only [Option.bind_eq_some_iff, Option.some.injEq, Prod.mk.injEq] at hcall
   obtain ⟨ps', hres, rfl, rfl⟩ := hcall
   have hmust := As hg
   refine ⟨(fa hmust.1).1, fun loc vs hpc hvs hw => ?_⟩
   have hk := KI hf hmust.1.2.2
   simp only [D.ev, List.map_cons, List.cons.injEq] at hk
   have hpre : (T c.f (ls.map (L.ev e))).1 = true := by
    have h1 := hmust.2 hpc
    rw [← hk.1] at h1
    exact h1
   exact key hmust.1 loc vs hvs hpre hw fun us hus => NH hres (by rw [hk.2] at hus; exact hus)
  ·split at hcall
   ·rename_i b0 hb0
    split at hb0
    ·simp only [Option.bind_eq_some_iff, Option.some.injEq, Prod.mk.injEq] at hcall
     obtain ⟨⟨ps', b⟩, hres, rfl, rfl⟩ := hcall
     have hmust := As hg
     have hd : ∀ j a, (D.ev T (.call c.f) (ls.map (L.ev e)))[j]? = some a → e (b0 + j) = a := hmust.1.1 _ (JC hb0)
     refine ⟨(fa hmust.1).1, fun loc vs hpc hvs hw => ?_⟩
     have hpre : (T c.f (ls.map (L.ev e))).1 = true := by
      have h1 := hmust.2 hpc
      have h2 := hd 0 _ rfl
      simp only [Nat.add_zero] at h2
      rw [L.Ak, h2] at h1
      exact h1
     exact key hmust.1 loc vs hvs hpre hw fun us hus => Ir hres hus fun j a hj => by
      have := hd (j + 1) a (by simpa [D.ev] using hj)
      simpa [Nat.add_assoc, Nat.add_comm 1 j] using this
    ·cases hb0
   ·simp only [Option.bind_eq_some_iff, Option.some.injEq, Prod.mk.injEq] at hcall
    obtain ⟨⟨ps', b⟩, hres, rfl, rfl⟩ := hcall
    have hmust := As hg
    have hgood := Dh hmust.1
    refine ⟨(fa hgood.1).1, fun loc vs hpc hvs hw => ?_⟩
    have hpre : (T c.f (ls.map (L.ev e))).1 = true := by
     have h1 := hmust.2 hpc
     have h2 := hgood.2 0 _ rfl
     simp only [G.BJ, Nat.add_zero] at h2
     rw [L.Ak, h2] at h1
     exact h1
    exact key hgood.1 loc vs hvs hpre hw fun us hus => Ir hres hus fun j a hj => by
     have := hgood.2 (j + 1) a (by simpa [D.ev] using hj)
     simpa [G.BJ, Nat.add_assoc, Nat.add_comm 1 j] using this
theorem F8 {f : Nat} {args ps : List PV} {g' : G} : ∀ {l : List (Nat × J7)}, KP P T l → O1 P w0.w → Jr f args rows pc g l = some (ps, g') → Good T e g' →
  Good T e g ∧ ∀ (loc : Loc) (vs : List Value), (pc.ev e).bool = true → AA e rows.length loc args vs → (∃ w, Bn e w0 loc rows w) →
   ∃ u, (Lb ps).rel e rows.length loc u ∧ ∀ w, Bn e w0 loc rows w → Calls P f vs.toArray w fun en w' => en = .returned u ∧ Below w.heap.size w w'
 | (f', c) :: l, hC, hT, h, hg => by
  unfold Jr at h
  have hl : KP P T l := fun x hx => hC x (by simp [hx])
  split at h
  ·rename_i hf
   have hf : f' = f := by simpa using hf
   subst hf
   obtain ⟨h1, h2⟩ := hC (f', c) (by simp)
   simp only at h1 h2
   subst h1
   split at h
   ·rename_i r hr
    injection h with h
    subst h
    exact QJ h2 hT hr hg
   ·exact F8 hl hT h hg
  ·exact F8 hl hT h hg
theorem G6 {f : Nat} {args : List PV} (hC : KP P T X.ctr) (hF : TA P X.fns) (hI : HC P T e w0 inl)
  (hrun : ∀ (fn : Func) (loc : Loc) (a : Act), Good T e g → (pc.ev e).bool = true → P.funcs[f]? = some fn → (fn.name == "runtime.NumGoroutine") = false → fn.body.isSome = true → Holds e gs → Ax e rows.length loc fr a.tmps →
   ∃ vs, AA e rows.length loc args vs ∧ ∀ w, (Go.execOp a.eval o).run P w = .ok (.enter f vs.toArray) w) :
  Bv P T e w0 fr rows gs pc o g (OF X inl f args rows pc g) := by
 unfold OF
 split
 ·trivial
 ·rename_i hfn
  obtain ⟨fn, hfn⟩ : ∃ fn, X.fns f = some fn := by
   cases h : X.fns f with
   | none => rw [h] at hfn; simp at hfn
   | some fn => exact ⟨fn, rfl⟩
  obtain ⟨f1, f2, f3⟩ := hF f fn hfn
  split
  ·simp only [Option.bind_eq_bind]
   cases hcall : Jr f args rows pc g X.ctr with
   | none => trivial
   | some r =>
    obtain ⟨ps, g'⟩ := r
    simp only [Option.bind_some]
    intro hg
    obtain ⟨h1, h2⟩ := F8 (w0 := w0) hC hI.1 hcall hg
    refine ⟨h1, fun loc a w1 hpc hgs hfr hw1 => ?_⟩
    obtain ⟨vs, hvs, hr⟩ := hrun fn loc a h1 hpc f1 f2 f3 hgs hfr
    obtain ⟨u, hu, hcalls⟩ := h2 loc vs hpc hvs ⟨w1, hw1⟩
    refine ⟨u, hu, fun w hw => .inr ⟨f, vs.toArray, hr w, (hcalls w hw).mono ?_⟩⟩
    rintro en w' ⟨rfl, hb⟩
    exact ⟨rfl, hw.Ij hb⟩
  ·simp only [Option.bind_eq_bind]
   cases hi : inl f args rows pc g with
   | none => trivial
   | some r =>
    obtain ⟨v, rows', g'⟩ := r
    simp only [Option.bind_some]
    intro hg
    obtain ⟨h1, h2⟩ := hI.2 f args rows pc g v rows' g' hi hg
    refine ⟨h1, fun loc a w hpc hgs hfr hw => ?_⟩
    obtain ⟨vs, hvs, hr⟩ := hrun fn loc a h1 hpc f1 f2 f3 hgs hfr
    exact .inr ⟨f, vs.toArray, hr w, h2 loc vs w hpc hvs hw⟩
theorem Lv {c : L} {a b z : PV} {g g' : G} (h : Oi c a b g = some (z, g')) (hg : Good T e g') :
  Good T e g ∧ ∀ n loc v, (pick (c.ev e).bool a b).rel e n loc v → z.rel e n loc v := by
 unfold Oi at h
 split at h
 ·simp only [Option.some.injEq, Prod.mk.injEq] at h
  obtain ⟨rfl, rfl⟩ := h
  have := Du hg
  refine ⟨this.1, fun n loc v hv => this.2 n loc v ?_⟩
  cases hc : (c.ev e).bool <;> simpa [pick, hc, PV.rel] using hv
 ·split at h
  ·rename_i hl
   simp only [Option.some.injEq, Prod.mk.injEq] at h
   obtain ⟨rfl, rfl⟩ := h
   have := EK (by simpa using hl) hg
   refine ⟨this.1, fun n loc v hv => ?_⟩
   cases hc : (c.ev e).bool <;> simp only [pick, hc, if_true, if_false, Bool.false_eq_true, PV.rel] at hv <;> obtain ⟨vs, h1, h2⟩ := hv <;>
    exact ⟨vs, h1, this.2 n loc vs (by simpa only [pick, hc, if_true, if_false, Bool.false_eq_true] using h2)⟩
  ·cases h
 ·cases h
theorem Ke {c : L} : ∀ {a b z : List PV} {g g' : G}, E9 c a b g = some (z, g') → Good T e g' →
  Good T e g ∧ ∀ n loc vs, AA e n loc (pick (c.ev e).bool a b) vs → AA e n loc z vs
 | [], [], z, g, g', h, hg => by
  simp only [E9, Option.some.injEq, Prod.mk.injEq] at h
  obtain ⟨rfl, rfl⟩ := h
  refine ⟨hg, fun n loc vs hv => ?_⟩
  cases hc : (c.ev e).bool <;> simpa [pick, hc] using hv
 | a :: l, b :: m, z, g, g', h, hg => by
  simp only [E9, Option.bind_eq_bind, Option.bind_eq_some_iff] at h
  obtain ⟨⟨y, g1⟩, h1, ⟨ys, g2⟩, h2, h3⟩ := h
  simp only [Option.some.injEq, Prod.mk.injEq] at h3
  obtain ⟨rfl, rfl⟩ := h3
  have k2 := Ke h2 hg
  have k1 := Lv h1 k2.1
  refine ⟨k1.1, fun n loc vs hv => ?_⟩
  cases hc : (c.ev e).bool <;> simp only [pick, hc, if_true, if_false, Bool.false_eq_true] at hv <;> (cases vs with
   | nil => exact hv.elim
   | cons v vs => exact ⟨k1.2 n loc v (by simp only [pick, hc, if_true, if_false, Bool.false_eq_true]; exact hv.1), k2.2 n loc vs (by simp only [pick, hc, if_true, if_false, Bool.false_eq_true]; exact hv.2)⟩)
 | [], _ :: _, _, _, _, h, _ => by simp [E9] at h
 | _ :: _, [], _, _, _, h, _ => by simp [E9] at h
theorem QK {c : L} {a b z : SV} {g g' : G} (h : Lf c a b g = some (z, g')) (hg : Good T e g') :
  Good T e g ∧ ∀ n loc v, (pick (c.ev e).bool a b).rel e n loc v → z.rel e n loc v := by
 unfold Lf at h
 split at h
 ·simp only [Option.bind_eq_bind, Option.bind_eq_some_iff] at h
  obtain ⟨⟨y, g1⟩, h1, h2⟩ := h
  simp only [Option.some.injEq, Prod.mk.injEq] at h2
  obtain ⟨rfl, rfl⟩ := h2
  have := Lv h1 hg
  refine ⟨this.1, fun n loc v hv => this.2 n loc v ?_⟩
  cases hc : (c.ev e).bool <;> simpa [pick, hc, SV.rel] using hv
 ·simp only [Option.bind_eq_bind, Option.bind_eq_some_iff] at h
  obtain ⟨⟨y, g1⟩, h1, h2⟩ := h
  simp only [Option.some.injEq, Prod.mk.injEq] at h2
  obtain ⟨rfl, rfl⟩ := h2
  have := Ke h1 hg
  refine ⟨this.1, fun n loc v hv => ?_⟩
  cases hc : (c.ev e).bool <;> simp only [pick, hc, if_true, if_false, Bool.false_eq_true, SV.rel] at hv <;> obtain ⟨vs, h3, h4⟩ := hv <;>
   exact ⟨vs, h3, this.2 n loc vs (by simpa only [pick, hc, if_true, if_false, Bool.false_eq_true] using h4)⟩
 ·cases h
theorem MU {x : L} {f h : Nat} {args : List PV} (hC : KP P T X.ctr) (hF : TA P X.fns) (hI : HC P T e w0 inl)
  (hrun : ∀ (t : Bool) (fn : Func) (loc : Loc) (a : Act), (x.ev e).bool = t → P.funcs[if t then f else h]? = some fn → (fn.name == "runtime.NumGoroutine") = false → fn.body.isSome = true → Holds e gs → Ax e rows.length loc fr a.tmps →
   ∃ vs, AA e rows.length loc args vs ∧ ∀ w, (Go.execOp a.eval o).run P w = .ok (.enter (if t then f else h) vs.toArray) w) :
  Bv P T e w0 fr rows gs pc o g (KA X inl x f h args rows pc g) := by
 unfold KA
 simp only
 generalize e1 : mkNot x g = r1
 obtain ⟨nx, g1⟩ := r1
 simp only
 generalize e2 : mkAnd pc x g1 = r2
 obtain ⟨p1, g2⟩ := r2
 simp only
 generalize e3 : mkAnd pc nx g2 = r3
 obtain ⟨p2, g3⟩ := r3
 simp only
 have k3 : Good T e g3 → Good T e g2 ∧ (p2.ev e).bool = ((pc.ev e).bool && (nx.ev e).bool) := fun hg => by
  have := AX (a := pc) (b := nx) (g := g2) (by rw [e3]; exact hg)
  rw [e3] at this; exact this
 have k2 : Good T e g2 → Good T e g1 ∧ (p1.ev e).bool = ((pc.ev e).bool && (x.ev e).bool) := fun hg => by
  have := AX (a := pc) (b := x) (g := g1) (by rw [e2]; exact hg)
  rw [e2] at this; exact this
 have k1 : Good T e g1 → Good T e g ∧ nx.ev e = .b (!(x.ev e).bool) := fun hg => by
  have := BL (a := x) (g := g) (by rw [e1]; exact hg)
  rw [e1] at this; exact this
 have o1 := G6 (fr := fr) (rows := rows) (gs := gs) (pc := p1) (o := o) (g := g3) (f := f) (args := args) hC hF hI fun fn loc a hg hp q1 q2 q3 q4 q5 => by
  have hx : (x.ev e).bool = true := by
   have := (k2 (k3 hg).1).2
   rw [hp] at this
   exact (Bool.and_eq_true _ _ ▸ this.symm : _ ∧ _).2
  exact hrun true fn loc a hx q1 q2 q3 q4 q5
 split
 ·rename_i v1 g4 hc1
  rw [hc1] at o1
  have o2 := G6 (fr := fr) (rows := rows) (gs := gs) (pc := p2) (o := o) (g := g4) (f := h) (args := args) hC hF hI fun fn loc a hg hp q1 q2 q3 q4 q5 => by
   have hx : (x.ev e).bool = false := by
    have a1 := (o1 hg).1
    have h2 := (k3 a1).2
    have h3 := (k1 (k2 (k3 a1).1).1).2
    rw [hp, h3] at h2
    rw [show (A.b (!(x.ev e).bool)).bool = !(x.ev e).bool from rfl] at h2
    have h4 := (Bool.and_eq_true _ _ ▸ h2.symm : _ ∧ _).2
    cases hb : (x.ev e).bool
    ·rfl
    ·rw [hb] at h4; cases h4
   exact hrun false fn loc a hx q1 q2 q3 q4 q5
  split
  ·rename_i v2 g5 hc2
   rw [hc2] at o2
   cases hm : Lf x v1 v2 g5 with
   | none => simp only [Option.bind_eq_bind, Option.bind_none]; trivial
   | some r =>
    obtain ⟨v, g6⟩ := r
    simp only [Option.bind_eq_bind, Option.bind_some]
    intro hg
    obtain ⟨m1, m2⟩ := QK hm hg
    obtain ⟨a2, b2⟩ := o2 m1
    obtain ⟨a1, b1⟩ := o1 a2
    have z3 := k3 a1
    have z2 := k2 z3.1
    have z1 := k1 z2.1
    refine ⟨z1.1, fun loc a w1 hpc hgs hfr hw1 => ?_⟩
    cases hx : (x.ev e).bool
    ·obtain ⟨u, hu, hd⟩ := b2 loc a w1 (by rw [z3.2, hpc, z1.2, hx]; rfl) hgs hfr hw1
     exact ⟨u, m2 _ _ _ (by rw [hx]; exact hu), hd⟩
    ·obtain ⟨u, hu, hd⟩ := b1 loc a w1 (by rw [z2.2, hpc, hx]; rfl) hgs hfr hw1
     exact ⟨u, m2 _ _ _ (by rw [hx]; exact hu), hd⟩
  ·trivial
 ·trivial
theorem AaY {x : L} {v : Value} (hr : (PV.one (.k (.val x))).rel e n loc v) : v = GS (x.ev e).val := by
 rcases hr.2.2 with h1 | h1
 ·cases h1
 ·exact h1
theorem Vo (v : Value) : ∃ a m c, GS v = .slice a m c ∧ AaL v = (m : Int) := by
 unfold GS AaL
 split
 ·exact ⟨_, _, _, rfl, rfl⟩
 ·rename_i h
  exact ⟨none, 0, 0, rfl, rfl⟩
theorem B9 {p : PV} {vs : List Value} (h : AA e n loc [p] vs) : ∃ v, vs = [v] ∧ p.rel e n loc v := by
 match vs, h with
 | [v], h => exact ⟨v, rfl, h.1⟩
 | _ :: _ :: _, h => exact h.2.elim
theorem CS {p q : PV} {vs : List Value} (h : AA e n loc [p, q] vs) : ∃ v u, vs = [v, u] ∧ p.rel e n loc v ∧ q.rel e n loc u := by
 match vs, h with
 | [v, u], h => exact ⟨v, u, rfl, h.1, h.2.1⟩
 | [_], h => exact h.2.elim
 | _ :: _ :: _ :: _, h => exact h.2.2.elim
theorem Lw {u es by_ : Nat} {p q : PV} {v : SV} {g' : G} (h : D2 rows u es by_ p q g = some (v, none, g')) : False := by
 unfold D2 at h
 simp only [Option.bind_eq_bind, Option.bind_eq_some_iff] at h
 obtain ⟨⟨m, news⟩, _, h⟩ := h
 simp only at h
 split at h
 ·cases h
 ·split at h
  ·split at h
   ·cases h
   ·simp at h
  ·simp only [Option.bind_eq_some_iff] at h
   obtain ⟨row, _, h⟩ := h
   split at h
   ·cases h
   ·simp at h
  ·cases h
theorem Rw {u es by_ : Nat} {p q : PV} {v : SV} {r : Option (List Row)} {g' : G} (h : D2 rows u es by_ p q g = some (v, r, g')) : g' = g := by
 unfold D2 at h
 simp only [Option.bind_eq_bind, Option.bind_eq_some_iff] at h
 obtain ⟨⟨m, news⟩, _, h⟩ := h
 simp only at h
 split at h
 ·cases h
 ·split at h
  ·split at h
   ·cases h
   ·simp only [Option.some.injEq, Prod.mk.injEq] at h; exact h.2.2.symm
  ·simp only [Option.bind_eq_some_iff] at h
   obtain ⟨row, _, h⟩ := h
   split at h
   ·cases h
   ·simp only [Option.some.injEq, Prod.mk.injEq] at h; exact h.2.2.symm
  ·cases h
theorem TI {r : Nat} {k : L} {v : Value} (h : (PV.one (.k (.lsl r k))).rel e n loc v) : ∃ (m : Nat) (a : Option Addr) (c : Nat), (k.ev e).int = m ∧ v = .slice a m c := by
 obtain ⟨h1, _, h3⟩ := h
 simp only [K.ok] at h1
 obtain ⟨m, hm⟩ := Int.eq_ofNat_of_zero_le h1.2.1
 rcases h3 with h3 | h3
 ·cases h3
 ·cases he : (loc r).emp
  ·simp only [K.Bl, he, Bool.false_eq_true, if_false, hm] at h3
   exact ⟨m, some ⟨(loc r).blk, (loc r).off, none⟩, (loc r).cap, hm, by rw [h3]; simp⟩
  ·obtain ⟨ha, hz⟩ := h1.2.2 he
   simp only [K.Bl, he, if_true] at h3
   have : m = 0 := by omega
   subst this
   exact ⟨0, none, 0, hm, by rw [h3, ha]⟩
theorem TJ {r : Nat} {k : L} {v : Value} (h : (PV.one (.k (.fsl r k))).rel e n loc v) : ∃ (m : Nat) (a : Option Addr) (c : Nat), (k.ev e).int = m ∧ v = .slice a m c := by
 obtain ⟨h1, _, h3⟩ := h
 simp only [K.ok] at h1
 obtain ⟨_, h4, a, c, h5⟩ := h1
 obtain ⟨m, hm⟩ := Int.eq_ofNat_of_zero_le h4
 rcases h3 with h3 | h3
 ·cases h3
 ·simp only [K.Bl] at h3
  rw [h5, hm] at h3
  exact ⟨m, a, c, hm, by simpa using h3⟩
theorem Ad.MB {rows : List Row} {B : Bd} {w w' : World} (h : Ad e loc rows w B) (hw : ∀ k, B.F k → w'.heap[k]? = w.heap[k]?)
  (ho : ∀ s y, rows[s]? = some y → (y.own = true ∨ B6 loc s y) → w'.heap[(loc s).blk]? = w.heap[(loc s).blk]?) : Ad e loc rows w' B := by
 refine ⟨fun r x hr => ?_, fun r x q hr hq => ?_, h.lapart, h.apart⟩
 ·have hrow := h.row r x hr
  unfold AH at hrow ⊢
  split
  ·rename_i ox
   rw [if_pos ox] at hrow
   obtain ⟨a1, a2, a3, a4, vs', sp', a5, a6, a7⟩ := hrow
   exact ⟨a1, a2, a3, a4, vs', sp', (ho r x hr (.inl ox)).trans a5, a6, a7⟩
  ·rename_i ox
   rw [if_neg ox] at hrow
   intro hc'
   obtain ⟨a1, a2, a3⟩ := hrow hc'
   refine ⟨a1, a2, fun j c hj => ?_⟩
   obtain ⟨v, hv, hvr⟩ := a3 j c hj
   exact ⟨v, (World.cell?_of_block (w := w) (hw _ a2)).trans hv, hvr⟩
 ·obtain ⟨k1, k2⟩ := h.lst r x q hr hq
  exact ⟨k1, k2.MB (fun h1 h2 => ho r x hr (.inr ⟨q, hq, h1, h2⟩)) hw⟩
theorem SK {u es by_ : Nat} {p q : PV} {v : SV} {g' : G} (h : Js rows u es by_ p q pc g = some (v, none, g')) : False := by
 unfold Js at h
 split at h
 ·simp only [Option.bind_eq_bind, Option.bind_eq_some_iff] at h
  obtain ⟨row, _, a, _, h⟩ := h
  split at h
  ·cases h
  ·simp only [Option.bind_eq_some_iff] at h
   obtain ⟨⟨l, g1⟩, _, h⟩ := h
   simp only at h
   split at h
   ·simp at h
   ·cases h
 ·cases h
theorem GZ.one {M : Addr → Option Value} {s : Au} {a : A} {v : Value} (h : GZ M s a v) : v.oneCell' = true := by
 cases h with
 | sc => exact AaV _ _
 | emp => rfl
 | sl => rfl
theorem Cg.one {M : Addr → Option Value} {ss : List Au} {as : List A} {us : List Value} (hs : 0 < ss.length) (h : Cg M ss as us) : ∀ u ∈ us, u.oneCell' = true := fun u hu => by
 obtain ⟨j, hj, rfl⟩ := List.mem_iff_getElem.1 hu
 have hlt := Nat.mod_lt j hs
 exact (h.2 j _ _ _ (List.getElem?_eq_getElem hlt) (List.getElem?_eq_getElem (by rw [← h.1]; exact hj)) (List.getElem?_eq_getElem hj)).one
theorem QL {t ty2 u : TypeId} {tu : Ty} {p q : PV} {v : SV} {rows' : List Row} {g' : G} (htu : FB P u tu) (hun : P.underlying t = some (.slice u))
  (h : Js rows u tu.size tu.bytes p q pc g = some (v, some rows', g')) (hg : Good T e g') : Good T e g ∧
  ∀ (loc : Loc) (w : World) (vp vq : Value), (pc.ev e).bool = true → Bn e w0 loc rows w → p.rel e rows.length loc vp → q.rel e rows.length loc vq →
   ∃ x w', (Builtin.append_ #[t, t] ty2 #[vp, vq]).run P w = .ok x w' ∧ ∃ loc', AO rows.length loc loc' ∧ rows.length ≤ rows'.length ∧ v.rel e rows'.length loc' x ∧ Bn e w0 loc' rows' w' := by
 obtain ⟨i, z, i1, i2, i3, i4, i5, i6⟩ := htu.info
 unfold Js at h
 split at h
 ·rename_i r k
  simp only [Option.bind_eq_bind, Option.bind_eq_some_iff] at h
  obtain ⟨row, hrow, a, ha, h⟩ := h
  split at h
  ·cases h
  ·rename_i hc
   simp only [Bool.or_eq_true, Bool.not_eq_true', bne_iff_ne, ne_eq, beq_iff_eq, decide_eq_true_eq, not_or, Decidable.not_not, Bool.not_eq_false, Nat.not_lt] at hc
   obtain ⟨⟨⟨⟨⟨c1, c2⟩, c3⟩, c4⟩, c5⟩, c6⟩ := hc
   have c4 := L.Af c4
   simp only [Option.bind_eq_some_iff] at h
   obtain ⟨⟨l, g1⟩, hl, h⟩ := h
   simp only at h
   split at h
   ·rename_i y k2
    simp only [Option.some.injEq, Prod.mk.injEq] at h
    obtain ⟨rfl, rfl, rfl⟩ := h
    have hmu := As hg
    have hin := DW hmu.1
    have hmu1 := As hin.1
    have hle1 := AB hmu1.1
    have hlln := Ah hle1.1
    have hcat := Ah hlln.1
    obtain ⟨la, y', k', hyk, lb⟩ := Cz hl hcat.1
    simp only [List.cons.injEq, and_true] at hyk
    obtain ⟨rfl, rfl⟩ := hyk
    refine ⟨la, fun loc w vp vq hpc hcl hp hq => ?_⟩
    have hle0 := hcl.le
    obtain ⟨B, ⟨hBn, hBF, hBl⟩, hR0, hbel⟩ := hcl
    have hone : (1 : Int) ≤ (k2.ev e).int := by
     have := hmu1.2 hpc
     rw [hle1.2] at this
     exact of_decide_eq_true this
    obtain ⟨hb0, hb1⟩ := hin.2.1 (hmu.2 hpc)
    have hkill := hR0.kill r
    obtain ⟨bs, m, qc, qb, us, e1, hkm, rfl, e4, e5, e6, e7⟩ := lb loc w vq B hkill (by rw [List.length_set]; exact hq)
    have hLst := (hR0.lst r row a hrow ha).2
    obtain ⟨as, na, l1, l2, l3, l4, l5⟩ := hLst
    rw [if_pos c1] at l5
    have hr1 : r < rows.length := Ac hrow
    obtain ⟨vs, hd, hown⟩ : ∃ vs, Cg (CF B w) a.ss as vs ∧ w.ownsRow w0.w.heap.size u tu.size vp na vs := by
     obtain ⟨h1, _, h3⟩ := hp
     simp only [K.ok] at h1
     rcases h3 with h3 | h3
     ·cases h3
     ·cases he : (loc r).emp
      ·simp only [K.Bl, he, Bool.false_eq_true, if_false] at h3
       rw [if_neg (by simp [he])] at l5
       obtain ⟨g1, g2, g3, vs, sp, g4, g5, g6⟩ := l5
       have hlen : vs.length = na * tu.size := by rw [g6.1, l2, c3]
       have hk : (k.ev e).int = na := by rw [c4]; exact l3
       have hcap : na ≤ (loc r).cap := by
        have : na * tu.size ≤ (loc r).cap * tu.size := by rw [← c3, ← g5, List.length_append, g6.1, l2]; omega
        exact Nat.le_of_mul_le_mul_right this (by omega)
       refine ⟨vs, g6, hlen, .inr ⟨(loc r).blk, (loc r).cap, (vs ++ sp).toArray, by rw [h3, g1, hk]; simp, hBn ▸ g2.1, by rw [g4, c2], hcap, g3, by rw [← c3, ← g5]; simp, ?_⟩⟩
       rw [← hlen]
       simp
      ·obtain ⟨hv, hz⟩ := h1.2.2 he
       simp only [K.Bl, he, if_true] at h3
       have hna : na = 0 := by
        rw [c4, l3] at hz
        omega
       have has : as = [] := List.eq_nil_of_length_eq_zero (by rw [l2, hna]; simp)
       refine ⟨[], ⟨by rw [has]; rfl, fun j s a u _ h2 => by rw [has] at h2; simp at h2⟩, by rw [hna]; simp, .inl ⟨by rw [h3, hv], hna⟩⟩
    have hm1 : m ≠ 0 := by omega
    obtain ⟨b, o, rfl, q1, _⟩ := e7 hm1
    have hul : us.length = m * tu.size := by rw [e6.1, e5, c3]
    have hcatev : (g1.push .cat [a.x, y]).1.ev e = .l (as ++ bs) := hcat.2 _ (by simp [D.ev, l1, e1])
    have hkev : ((g1.push .cat [a.x, y]).2.push (.lln tu.size) [(g1.push .cat [a.x, y]).1]).1.ev e = .i ((na + m : Nat) : Int) := by
     have hq : (as ++ bs).length / tu.size = na + m := by
      rw [List.length_append, l2, e5, c3, ← Nat.add_mul]
      exact Nat.mul_div_cancel _ (by omega)
     rw [SC hle1.1 hcatev, hq]
    rw [hkev] at hb1
    simp only [A.Ai, L.Aw] at hb1
    have hnm : na + m ≤ 1000000 := by omega
    have hmul : (na + m) * tu.bytes ≤ 140737488355328 := by
     calc (na + m) * tu.bytes ≤ 1000000 * 1000 := Nat.mul_le_mul hnm (by omega)
      _ ≤ 140737488355328 := by decide
    obtain ⟨x, w', h1, h2, h3, h4, h5⟩ := run_append_own_at (P := P) w w0.w.heap.size t ty2 u i z tu.size tu.bytes hun i1 i4 i2 i3 i5 (by omega) vp na _ hown ⟨b, o, none⟩ m qc us hul
     (fun j u' hj => by rw [addr_add]; exact q1 j u' hj) (e6.one e4) (by simp only [maxLen]; omega) hmul hle0
    obtain ⟨g1', g2⟩ := h2
    rcases g2 with ⟨_, g2⟩ | ⟨gb, cap, cur, rfl, gB, gh, gk, gc, gs, gt⟩
    ·omega
    ·have hvs : cur = ((vs ++ us) ++ cur.toList.drop ((na + m) * tu.size)).toArray := by
      apply Array.ext'
      rw [← gt]
      simp
     have hrest : ∀ s y, (rows.set r Row.dead)[s]? = some y → (y.own = true ∨ B6 loc s y) → s ≠ r ∧ rows[s]? = some y := fun s y hs hy => by
      have hne : s ≠ r := fun h0 => by
       subst h0
       rw [List.getElem?_set_self hr1] at hs
       injection hs with hs
       subst hs
       rcases hy with hy | ⟨_, hy, _⟩ <;> simp [Row.dead] at hy
      exact ⟨hne, by rwa [List.getElem?_set_ne (Ne.symm hne)] at hs⟩
     have hblk : ∀ bb, vp.ownBlock = some bb → (loc r).emp = false ∧ bb = (loc r).blk ∧ B.own bb := fun bb hbb => by
      cases he : (loc r).emp
      ·refine ⟨rfl, ?_⟩
       obtain ⟨_, _, h3⟩ := hp
       rcases h3 with h3 | h3
       ·cases h3
       ·simp only [K.Bl, he, Bool.false_eq_true, if_false] at h3
        rw [h3] at hbb
        simp only [Value.ownBlock, Option.some.injEq] at hbb
        rw [if_neg (by simp [he])] at l5
        exact ⟨hbb.symm, by rw [← hbb]; exact l5.2.1⟩
      ·exfalso
       obtain ⟨h1, _, h3⟩ := hp
       rcases h3 with h3 | h3
       ·cases h3
       ·simp only [K.ok] at h1
        simp only [K.Bl, he, if_true, (h1.2.2 he).1] at h3
        rw [h3] at hbb
        simp [Value.ownBlock] at hbb
     have hsep : ∀ s y, (rows.set r Row.dead)[s]? = some y → (y.own = true ∨ B6 loc s y) → (loc s).blk < w.heap.size ∧ some (loc s).blk ≠ vp.ownBlock := fun s y hs hy => by
      obtain ⟨hne, hs'⟩ := hrest s y hs hy
      refine ⟨hR0.Co hs' hy, fun h0 => ?_⟩
      obtain ⟨q1, q2, _⟩ := hblk _ h0.symm
      have hlo : B6 loc r row := ⟨a, ha, c1, q1⟩
      refine hR0.lapart r s row y hrow hs' hlo ?_ q2.symm
      rcases hy with hy | hy
      ·exact .inl hy
      ·exact .inr ⟨hy, Ne.symm hne⟩
     have hstab : ∀ j, B.F j → w'.heap[j]? = w.heap[j]? := fun j hj => h3.block j (hBl.2 j hj) (fun h0 => by
      obtain ⟨_, _, q3⟩ := hblk _ h0.symm
      exact q3.2 hj)
     have hR : Ad e loc (rows.set r Row.dead) w' B := hkill.MB hstab (fun s y hs hy => by
      obtain ⟨q1, q2⟩ := hsep s y hs hy
      exact h3.block _ q1 q2)
     have hgB : B.own gb := by
      rcases h5 with h5 | h5
      ·exact (hblk gb (by rw [← h5]; rfl)).2.2
      ·simp only [Value.ownBlock, Option.some.injEq] at h5
       exact hBl.Zt (by omega)
     have hadd := hR.SG (x := .QA gb 0 cap 0) (q := ⟨true, u, a.ss, (g1.push .cat [a.x, y]).1, ((g1.push .cat [a.x, y]).2.push (.lln tu.size) [(g1.push .cat [a.x, y]).1]).1⟩) rfl (fun _ s y hs hy h0 => by
      obtain ⟨q1, q2⟩ := hsep s y hs hy
      simp only at h0
      rcases h5 with h5 | h5
      ·rw [← h5] at q2
       exact q2 (by rw [h0]; rfl)
      ·simp only [Value.ownBlock, Option.some.injEq] at h5
       omega) ⟨as ++ bs, na + m, hcatev, by rw [List.length_append, l2, e5]; simp only; rw [Nat.add_mul], by simp only; rw [hkev]; rfl, l4, by
       rw [if_pos rfl]
       rw [Ap, if_neg (by simp)]
       refine ⟨rfl, hgB, gc, vs ++ us, cur.toList.drop ((na + m) * tu.size), by rw [← hvs]; exact gh, ?_, ?_⟩
       ·have : ((vs ++ us) ++ cur.toList.drop ((na + m) * tu.size)).length = cur.size := by
         conv => rhs; rw [hvs]
         simp
        simp only
        rw [this, gs, c3]
       ·rw [DX hstab]
        exact hd.append (by rw [l2, Nat.mul_mod_left]) e6⟩
     rw [List.length_set] at hadd
     refine ⟨_, w', h1, AN loc rows.length (.QA gb 0 cap 0), Bi _ _ _, by simp [AM], ⟨⟨by simp [AM], by rw [hkev]; simp; omega, fun he => ?_⟩, rfl, .inr ?_⟩, B, ⟨hBn, hBF, hBl.mono h3.size⟩, hadd, hbel.grown h3 hle0 (fun bb hbb => hBn ▸ (hblk bb hbb).2.2.1)⟩
     ·rw [Ap] at he
      simp at he
     ·simp only [K.Bl]
      rw [Ap, hkev]
      simp only [A.Ai, Int.toNat_natCast, Bool.false_eq_true, if_false]
   ·cases h
 ·cases h
theorem SL {ty es bytes : Nat} {ss : List Au} {q : PV} {v : SV} {g' : G} (h : Jt rows ty ss es bytes q pc g = some (v, none, g')) : False := by
 unfold Jt at h
 split at h
 ·cases h
 ·split at h
  ·simp at h
  ·cases h
theorem QM {t ty2 u : TypeId} {tu : Ty} {ss : List Au} {q : PV} {v : SV} {rows' : List Row} {g' : G} (htu : FB P u tu) (hun : P.underlying t = some (.slice u))
  (h : Jt rows u ss tu.size tu.bytes q pc g = some (v, some rows', g')) (hg : Good T e g') : Good T e g ∧
  ∀ (loc : Loc) (w : World) (vq : Value), (pc.ev e).bool = true → Bn e w0 loc rows w → q.rel e rows.length loc vq →
   ∃ x w', (Builtin.append_ #[t, t] ty2 #[.slice none 0 0, vq]).run P w = .ok x w' ∧ ∃ loc', AO rows.length loc loc' ∧ rows.length ≤ rows'.length ∧ v.rel e rows'.length loc' x ∧ Bn e w0 loc' rows' w' := by
 obtain ⟨i, z, i1, i2, i3, i4, i5, i6⟩ := htu.info
 unfold Jt at h
 split at h
 ·cases h
 rename_i hc
 simp only [Bool.or_eq_true, bne_iff_ne, ne_eq, beq_iff_eq, decide_eq_true_eq, not_or, Decidable.not_not, Nat.not_lt] at hc
 obtain ⟨⟨c3, c5⟩, c6⟩ := hc
 split at h
 ·rename_i y k2 g1 hl
  simp only [Option.some.injEq, Prod.mk.injEq] at h
  obtain ⟨rfl, rfl, rfl⟩ := h
  have hmu := As hg
  have hin := DW hmu.1
  have hmu1 := As hin.1
  have hle1 := AB hmu1.1
  have hlln := Ah hle1.1
  have hcat := Ah hlln.1
  obtain ⟨la, y', k', hyk, lb⟩ := Cz hl hcat.1
  simp only [List.cons.injEq, and_true] at hyk
  obtain ⟨rfl, rfl⟩ := hyk
  refine ⟨la, fun loc w vq hpc hcl hq => ?_⟩
  have hle0 := hcl.le
  obtain ⟨B, ⟨hBn, hBF, hBl⟩, hR0, hbel⟩ := hcl
  have hone : (1 : Int) ≤ (k2.ev e).int := by
   have := hmu1.2 hpc
   rw [hle1.2] at this
   exact of_decide_eq_true this
  obtain ⟨hb0, hb1⟩ := hin.2.1 (hmu.2 hpc)
  obtain ⟨bs, m, qc, qb, us, e1, hkm, rfl, e4, e5, e6, e7⟩ := lb loc w vq B hR0 hq
  have hm1 : m ≠ 0 := by omega
  obtain ⟨b, o, rfl, q1, _⟩ := e7 hm1
  have hul : us.length = m * tu.size := by rw [e6.1, e5, c3]
  have hcatev : (g1.push .cat [.e, y]).1.ev e = .l bs := hcat.2 _ (by simp [D.ev, e1, L.AV])
  have hkev : ((g1.push .cat [.e, y]).2.push (.lln tu.size) [(g1.push .cat [.e, y]).1]).1.ev e = .i ((m : Nat) : Int) := by
   have hq : bs.length / tu.size = m := by
    rw [e5, c3]
    exact Nat.mul_div_cancel _ (by omega)
   rw [SC hle1.1 hcatev, hq]
  rw [hkev] at hb1
  simp only [A.Ai, L.Aw] at hb1
  have hnm : m ≤ 1000000 := by omega
  have hmul : (0 + m) * tu.bytes ≤ 140737488355328 := by
   calc (0 + m) * tu.bytes ≤ 1000000 * 1000 := Nat.mul_le_mul (by omega) (by omega)
    _ ≤ 140737488355328 := by decide
  obtain ⟨x, w', h1, h2, h3, h4, h5⟩ := run_append_own_at (P := P) w w0.w.heap.size t ty2 u i z tu.size tu.bytes hun i1 i4 i2 i3 i5 (by omega) (.slice none 0 0) 0 [] ⟨by simp, .inl ⟨rfl, rfl⟩⟩ ⟨b, o, none⟩ m qc us hul
   (fun j u' hj => by rw [addr_add]; exact q1 j u' hj) (e6.one e4) (by simp only [maxLen]; omega) hmul hle0
  obtain ⟨g1', g2⟩ := h2
  rcases g2 with ⟨_, g2⟩ | ⟨gb, cap, cur, rfl, gB, gh, gk, gc, gs, gt⟩
  ·omega
  ·rw [Nat.zero_add] at gt gk
   have hvs : cur = (us ++ cur.toList.drop (m * tu.size)).toArray := by
    apply Array.ext'
    rw [List.nil_append] at gt
    rw [← gt]
    simp
   have hnew : w.heap.size ≤ gb := by
    rcases h5 with h5 | h5
    ·cases h5
    ·simp only [Value.ownBlock, Option.some.injEq] at h5
     omega
   have hstab : ∀ j, B.F j → w'.heap[j]? = w.heap[j]? := fun j hj => h3.block j (hBl.2 j hj) (fun h0 => by cases h0)
   have hR : Ad e loc rows w' B := hR0.MB hstab fun s y hs hy => h3.block _ (hR0.Co hs hy) (fun h0 => by cases h0)
   have hadd := hR.SG (x := .QA gb 0 cap 0) (q := ⟨true, u, ss, (g1.push .cat [.e, y]).1, ((g1.push .cat [.e, y]).2.push (.lln tu.size) [(g1.push .cat [.e, y]).1]).1⟩) rfl (fun _ s y hs hy h0 => by
    have := hR0.Co hs hy
    simp only at h0
    omega) ⟨bs, m, hcatev, by simp only; exact e5, by simp only; rw [hkev]; rfl, e4, by
     rw [if_pos rfl]
     rw [Ap, if_neg (by simp)]
     refine ⟨rfl, hBl.Zt hnew, gc, us, cur.toList.drop (m * tu.size), by rw [← hvs]; exact gh, ?_, ?_⟩
     ·have : (us ++ cur.toList.drop (m * tu.size)).length = cur.size := by
       conv => rhs; rw [hvs]
       simp
      simp only
      rw [this, gs, c3]
     ·rw [DX hstab]
      exact e6⟩
   refine ⟨_, w', h1, AN loc rows.length (.QA gb 0 cap 0), Bi _ _ _, by simp [AM], ⟨⟨by simp [AM], by rw [hkev]; simp only [A.Ai]; omega, fun he => ?_⟩, rfl, .inr ?_⟩, B, ⟨hBn, hBF, hBl.mono h3.size⟩, hadd, hbel.grown h3 hle0 (fun bb hbb => by cases hbb)⟩
   ·rw [Ap] at he
    simp at he
   ·simp only [K.Bl]
    rw [Ap, hkev]
    simp only [A.Ai, Int.toNat_natCast, Bool.false_eq_true, if_false, Nat.zero_add]
 ·cases h
theorem AaZ {c : Call} (hX : B5 P X.Ay) (hC : KP P T X.ctr) (hF : TA P X.fns) (hI : HC P T e w0 inl) (ho : o.op = .call c) : Bv P T e w0 fr rows gs pc o g (execOp X inl fr rows gs pc o g) := by
 obtain ⟨dst, op', ty, pos, after, guard⟩ := o
 simp only at ho
 subst ho
 obtain ⟨callee, cargs, argTypes⟩ := c
 simp only [execOp, Option.bind_eq_bind, Ctx.ty]
 cases ha : Qu fr gs cargs.toList with
 | none => trivial
 | some args =>
  simp only [Option.bind_some]
  have hargs : ∀ loc (a : Act), Ax e rows.length loc fr a.tmps → Holds e gs → AA e rows.length loc args (cargs.toList.map a.eval) := fun loc a hf hg => G1 ha hf hg
  split
  ·rename_i f
   cases hp : Db fr gs f with
   | none => trivial
   | some p =>
    simp only [Option.bind_some]
    split
    ·rename_i f a b
     refine G6 hC hF hI fun fn loc act _ _ h1 h2 h3 hgs hfr => ?_
     obtain ⟨va, vb, e1, e2, e3⟩ := Aa hp hfr hgs
     refine ⟨va ++ cargs.toList.map act.eval ++ vb, F7 (F7 (MT e2) (hargs loc act hfr hgs)) (MT e3), fun w => ?_⟩
     have h4 : ¬ fn.body = none := by
      intro hb
      rw [hb] at h3
      cases h3
     have h2' : ¬ fn.name = "runtime.NumGoroutine" := by simpa using h2
     have h5 : va.toArray ++ (Array.map act.eval cargs ++ vb.toArray) = (va ++ (List.map act.eval cargs.toList ++ vb)).toArray := by apply Array.ext'; simp
     simp [Go.execOp, resolve, Deferred.ofValue, invoke, callFunc, e1, h1, h2', h4, h5]
    ·rename_i x0 f h
     refine MU hC hF hI fun t fn loc act ht h1 h2 h3 hgs hfr => ?_
     have e1 := Aa hp hfr hgs
     simp only [PV.rel, C.rel, ht] at e1
     refine ⟨cargs.toList.map act.eval, hargs loc act hfr hgs, fun w => ?_⟩
     have h4 : ¬ fn.body = none := by
      intro hb
      rw [hb] at h3
      cases h3
     have h2' : ¬ fn.name = "runtime.NumGoroutine" := by simpa using h2
     have h5 : Array.map act.eval cargs = (List.map act.eval cargs.toList).toArray := by apply Array.ext'; simp
     cases t
     ·simp only [Bool.false_eq_true, if_false] at h1 e1 ⊢
      simp [Go.execOp, resolve, Deferred.ofValue, invoke, callFunc, e1, h1, h2', h4, h5]
     ·simp only [if_true] at h1 e1 ⊢
      simp [Go.execOp, resolve, Deferred.ofValue, invoke, callFunc, e1, h1, h2', h4, h5]
    ·trivial
  ·cases ht0 : argTypes[0]? with
   | none => trivial
   | some t =>
    simp only [Option.bind_some]
    cases ht : look t X.Ay with
    | none => trivial
    | some tt =>
     have htt := hX t tt ht
     simp only [Option.bind_some]
     have hrun : ∀ (a : Act) (v : Value) w, cargs.toList.map a.eval = [v] → ∀ r, (Builtin.len_ argTypes ty #[v]).run P w = .ok r w → (Go.execOp a.eval ⟨dst, .call ⟨.builtin .len, cargs, argTypes⟩, ty, pos, after, guard⟩).run P w = .ok (.value r) w := fun a v w h r hr => by
      have h' : cargs.map a.eval = #[v] := by apply Array.ext'; simpa using h
      simp [Go.execOp, resolve, invoke, builtin, h', hr]
     split
     ·rename_i e0 r off m hk
      refine Ae fun hg => ⟨hg, fun loc a w1 _ hgs hfr _ => ?_⟩
      obtain ⟨v, hv, hv1⟩ := B9 (hargs loc a hfr hgs)
      obtain ⟨r1, r2⟩ := D4 hv1
      exact ⟨_, BN (i := (m : Int)) rfl, fun w _ => hrun a v w hv _ (by simp [Builtin.len_, ht0, run_underlying (AD htt hk), r2, goInt])⟩
     ·rename_i e0 r off es m cap hk
      refine Ae fun hg => ⟨hg, fun loc a w1 _ hgs hfr _ => ?_⟩
      obtain ⟨v, hv, hv1⟩ := B9 (hargs loc a hfr hgs)
      obtain ⟨r1, r2⟩ := GA hv1
      exact ⟨_, BN (i := (m : Int)) rfl, fun w _ => hrun a v w hv _ (by simp [Builtin.len_, ht0, run_underlying (AD htt hk), r2, goInt])⟩
     ·rename_i e0 r k hk
      refine Ae fun hg => ⟨hg, fun loc a w1 _ hgs hfr _ => ?_⟩
      obtain ⟨v, hv, hv1⟩ := B9 (hargs loc a hfr hgs)
      obtain ⟨m, ad, cp, q1, q2⟩ := TI hv1
      exact ⟨_, BN (i := (m : Int)) q1, fun w _ => hrun a v w hv _ (by simp [Builtin.len_, ht0, run_underlying (AD htt hk), q2, goInt])⟩
     ·rename_i e0 r k hk
      refine Ae fun hg => ⟨hg, fun loc a w1 _ hgs hfr _ => ?_⟩
      obtain ⟨v, hv, hv1⟩ := B9 (hargs loc a hfr hgs)
      obtain ⟨m, ad, cp, q1, q2⟩ := TJ hv1
      exact ⟨_, BN (i := (m : Int)) q1, fun w _ => hrun a v w hv _ (by simp [Builtin.len_, ht0, run_underlying (AD htt hk), q2, goInt])⟩
     ·rename_i e0 hk
      refine Ae fun hg => ⟨hg, fun loc a w1 _ hgs hfr _ => ?_⟩
      obtain ⟨v, hv, hv1⟩ := B9 (hargs loc a hfr hgs)
      have r2 := Dk hv1
      exact ⟨_, BN (i := 0) rfl, fun w _ => hrun a v w hv _ (by simp [Builtin.len_, ht0, run_underlying (AD htt hk), r2, goInt])⟩
     ·rename_i e0 x hk
      refine Ae fun hg => ?_
      have hgood := Ah hg
      refine ⟨hgood.1, fun loc a w1 _ hgs hfr _ => ?_⟩
      obtain ⟨v, hv, hv1⟩ := B9 (hargs loc a hfr hgs)
      have r2 := AaY hv1
      obtain ⟨ad, m, cp, q1, q2⟩ := Vo (x.ev e).val
      rw [q1] at r2
      have hz := hgood.2 (.i (AaL (x.ev e).val)) rfl
      refine ⟨.int .i64 (m : Int), BN (by rw [hz]; exact q2), fun w _ => hrun a v w hv _ (by simp [Builtin.len_, ht0, run_underlying (AD htt hk), r2, goInt])⟩
     ·rename_i x hk
      refine Ae fun hg => ?_
      have hgood := Ny hg
      refine ⟨hgood.1, fun loc a w1 _ hgs hfr _ => ?_⟩
      obtain ⟨v, hv, hv1⟩ := B9 (hargs loc a hfr hgs)
      have r2 := Oo hv1
      have hz := hgood.2
      refine ⟨.int .i64 ((x.ev e).str.size : Int), BN (by rw [hz]; rfl), fun w _ => hrun a v w hv _ (by simp [Builtin.len_, ht0, run_underlying (BE htt hk), r2, goInt])⟩
     ·trivial
  ·split
   ·rename_i k x k' y
    split
    ·rename_i hk
     have hk := BD hk
     subst hk
     refine Ae fun hg => ?_
     have hgood := XM hg
     refine ⟨hgood.1, fun loc a w1 _ hgs hfr _ => ?_⟩
     obtain ⟨v, u, hv, hv1, hv2⟩ := CS (hargs loc a hfr hgs)
     have r1 := Ca hv1
     have r2 := Ca hv2
     have hz := hgood.2
     have h' : cargs.map a.eval = #[v, u] := by apply Array.ext'; simpa using hv
     refine ⟨.int k (if (y.ev e).int < (x.ev e).int then (y.ev e).int else (x.ev e).int), BN (by rw [hz]; rfl), fun w _ => ?_⟩
     simp [Go.execOp, resolve, invoke, builtin, h', Builtin.min_, Builtin.min2, r1, r2]
    ·trivial
   ·trivial
  ·split
   ·rename_i k x k' y
    split
    ·rename_i hk
     have hk := BD hk
     subst hk
     refine Ae fun hg => ?_
     have hgood := Ah hg
     refine ⟨hgood.1, fun loc a w1 _ hgs hfr _ => ?_⟩
     obtain ⟨v, u, hv, hv1, hv2⟩ := CS (hargs loc a hfr hgs)
     have r1 := Ca hv1
     have r2 := Ca hv2
     have hz := hgood.2 _ rfl
     have h' : cargs.map a.eval = #[v, u] := by apply Array.ext'; simpa using hv
     refine ⟨.int k (if (x.ev e).int < (y.ev e).int then (y.ev e).int else (x.ev e).int), BN (by rw [hz]; rfl), fun w _ => ?_⟩
     simp [Go.execOp, resolve, invoke, builtin, h', Builtin.max_, Builtin.max2, r1, r2]
    ·trivial
   ·trivial
  ·cases ht0 : argTypes[0]? with
   | none => trivial
   | some t =>
    simp only [Option.bind_some]
    cases ht : look t X.Ay with
    | none => trivial
    | some tt =>
     have htt := hX t tt ht
     simp only [Option.bind_some]
     split
     ·rename_i u p q hk
      cases hu : look u X.Ay with
      | none => trivial
      | some tu =>
       have htu := hX u tu hu
       simp only [Option.bind_some]
       split
       ·trivial
       ·rename_i hsz
        have hsz : tu.size = 1 := by simpa using hsz
        split
        ·trivial
        ·rename_i hts
         simp only [bne_iff_ne, ne_eq, Decidable.not_not] at hts
         have hts' : argTypes = #[t, t] := by apply Array.ext'; simpa using hts
         cases hap : Ri rows p q pc g with
         | none =>
          cases hap2 : Rk rows p q g with
          | none => simp only [hap2]; trivial
          | some r =>
           obtain ⟨v, rr, g'⟩ := r
           cases rr with
           | none => exact (Vn hap2).elim
           | some rows' =>
            simp only [hap2]
            refine fun hg => ?_
            obtain ⟨hgg, hap⟩ := TH (w0 := w0) (t := t) (ty := ty) htu hsz (AD htt hk) hap2 hg
            refine ⟨hgg, fun loc a w hpc hgs hfr hw => ?_⟩
            obtain ⟨vp, vq, hv, hv1, hv2⟩ := CS (hargs loc a hfr hgs)
            have h' : cargs.map a.eval = #[vp, vq] := by apply Array.ext'; simpa using hv
            obtain ⟨x, w', h1, h2⟩ := hap loc w vp vq hw hv1 hv2
            refine .inl ⟨x, w', .inl ?_, h2⟩
            simp [Go.execOp, resolve, invoke, builtin, h', hts', h1]
         | some r =>
          obtain ⟨v, rr, g'⟩ := r
          cases rr with
          | none => exact (Vm hap).elim
          | some rows' =>
           refine fun hg => ?_
           obtain ⟨hgg, hap⟩ := TE (w0 := w0) (t := t) (ty := ty) htu hsz (AD htt hk) hap hg
           refine ⟨hgg, fun loc a w hpc hgs hfr hw => ?_⟩
           obtain ⟨vp, vq, hv, hv1, hv2⟩ := CS (hargs loc a hfr hgs)
           have h' : cargs.map a.eval = #[vp, vq] := by apply Array.ext'; simpa using hv
           obtain ⟨x, w', h1, h2⟩ := hap loc w vp vq hpc hw hv1 hv2
           refine .inl ⟨x, w', .inl ?_, h2⟩
           simp [Go.execOp, resolve, invoke, builtin, h', hts', h1]
     ·trivial
  ·cases ht0 : argTypes[0]? with
   | none => trivial
   | some t =>
    simp only [Option.bind_some]
    cases ht : look t X.Ay with
    | none => trivial
    | some tt =>
     have htt := hX t tt ht
     simp only [Option.bind_some]
     split
     ·rename_i u p q hk
      cases hu : look u X.Ay with
      | none => trivial
      | some tu =>
       have htu := hX u tu hu
       simp only [Option.bind_some]
       split
       ·trivial
       ·split
        ·trivial
        ·rename_i hts
         simp only [bne_iff_ne, ne_eq, Decidable.not_not] at hts
         have hts' : argTypes = #[t, t] := by apply Array.ext'; simpa using hts
         split
         ·rename_i r0 k0
          cases hap : Js rows u tu.size tu.bytes (.one (.k (.lsl r0 k0))) q pc g with
          | none => trivial
          | some r =>
           obtain ⟨v, rr, g'⟩ := r
           cases rr with
           | none => exact (SK hap).elim
           | some rows' =>
            refine fun hg => ?_
            obtain ⟨hgg, hap⟩ := QL (w0 := w0) (t := t) (ty2 := ty) htu (AD htt hk) hap hg
            refine ⟨hgg, fun loc a w hpc hgs hfr hw => ?_⟩
            obtain ⟨vp, vq, hv, hv1, hv2⟩ := CS (hargs loc a hfr hgs)
            have h' : cargs.map a.eval = #[vp, vq] := by apply Array.ext'; simpa using hv
            obtain ⟨x, w', h1, h2⟩ := hap loc w vp vq hpc hw hv1 hv2
            refine .inl ⟨x, w', .inl ?_, h2⟩
            simp [Go.execOp, resolve, invoke, builtin, h', hts', h1]
         ·cases hgs0 : U2 u X.muts with
          | some gss =>
           simp only
           cases hap : Jt rows u gss tu.size tu.bytes q pc g with
           | none => trivial
           | some r =>
            obtain ⟨v, rr, g'⟩ := r
            cases rr with
            | none => exact (SL hap).elim
            | some rows' =>
             refine fun hg => ?_
             obtain ⟨hgg, hap⟩ := QM (w0 := w0) (t := t) (ty2 := ty) htu (AD htt hk) hap hg
             refine ⟨hgg, fun loc a w hpc hgs hfr hw => ?_⟩
             obtain ⟨vp, vq, hv, hv1, hv2⟩ := CS (hargs loc a hfr hgs)
             have hvn := Dk hv1
             subst hvn
             have h' : cargs.map a.eval = #[.slice none 0 0, vq] := by apply Array.ext'; simpa using hv
             obtain ⟨x, w', h1, h2⟩ := hap loc w vq hpc hw hv2
             refine .inl ⟨x, w', .inl ?_, h2⟩
             simp [Go.execOp, resolve, invoke, builtin, h', hts', h1]
          | none =>
           simp only
           cases hap : D2 rows u tu.size tu.bytes (.one (.k .nilslc)) q g with
           | none => trivial
           | some r =>
            obtain ⟨v, rr, g'⟩ := r
            cases rr with
            | none => exact (Lw hap).elim
            | some rows' =>
             refine fun hg => ?_
             have hgg := Rw hap
             subst hgg
             refine ⟨hg, fun loc a w _ hgs hfr hw => ?_⟩
             obtain ⟨vp, vq, hv, hv1, hv2⟩ := CS (hargs loc a hfr hgs)
             have h' : cargs.map a.eval = #[vp, vq] := by apply Array.ext'; simpa using hv
             obtain ⟨_, x, w', h1, h2⟩ := Lu (t := t) (ty2 := ty) htu (AD htt hk) hap hw hv1 hv2
             refine .inl ⟨x, w', .inl ?_, h2⟩
             simp [Go.execOp, resolve, invoke, builtin, h', hts', h1]
         ·cases hap : D2 rows u tu.size tu.bytes p q g with
          | none => trivial
          | some r =>
           obtain ⟨v, rr, g'⟩ := r
           cases rr with
           | none => exact (Lw hap).elim
           | some rows' =>
            refine fun hg => ?_
            have hgg := Rw hap
            subst hgg
            refine ⟨hg, fun loc a w _ hgs hfr hw => ?_⟩
            obtain ⟨vp, vq, hv, hv1, hv2⟩ := CS (hargs loc a hfr hgs)
            have h' : cargs.map a.eval = #[vp, vq] := by apply Array.ext'; simpa using hv
            obtain ⟨_, x, w', h1, h2⟩ := Lu (t := t) (ty2 := ty) htu (AD htt hk) hap hw hv1 hv2
            refine .inl ⟨x, w', .inl ?_, h2⟩
            simp [Go.execOp, resolve, invoke, builtin, h', hts', h1]
     ·trivial
  ·trivial
end
end Rx
namespace Rx
open Go Go.RowKit
def ZK (P : Program) (T : Nat → List A → Bool × List A) (m : YZ) : Prop :=
 ∀ (as : List A) (k x : A) (n B : Nat) (sv : Value) (w : World), k.int = (n : Nat) → as.length = n → n ≤ 1000000 → (T m.f [.l as, k, x]).1 = true → w.ownsRow B m.ty 1 sv n (B0 m.ss as) → B ≤ w.heap.size → (∀ w', Below B w w' → O1 P w') →
  Calls P m.f #[sv, .int .i64 x.int, .int .i64 10] w fun en w' => ∃ (v' : Value) (bs : List A), en = .returned v' ∧ (T m.f [.l as, k, x]).2 = [.l (as ++ bs)] ∧ 1 ≤ bs.length ∧ w'.ownsRow B m.ty 1 v' (n + bs.length) (B0 m.ss (as ++ bs)) ∧ Below B w w' ∧
   (∀ j, j < w.heap.size → some j ≠ sv.ownBlock → w'.heap[j]? = w.heap[j]?) ∧ (v'.ownBlock = sv.ownBlock ∨ ∃ k, v'.ownBlock = some k ∧ w.heap.size ≤ k)
def AbB (P : Program) (T : Nat → List A → Bool × List A) (m : YZ) : Prop :=
 match m.grow with
 | true => ZK P T m
 | false => AbA P T m
def ZL (P : Program) (T : Nat → List A → Bool × List A) (l : List (Nat × YZ)) : Prop := ∀ f m, look f l = some m → AbB P T m
theorem Vp {P : Program} {T : Nat → List A → Bool × List A} : ZL P T [] := fun f m h => by simp [look] at h
section
variable {T : Nat → List A → Bool × List A} {e : Nat → A} {n n' : Nat} {loc loc' : Loc} {P : Program} {X : Ctx} {w0 : W0}
variable {fr : List SV} {rows : List Row} {gs : List (L × Bool)} {pc : L} {o : Oper} {g : G} {inl : Inline}
theorem F9 {m : YZ} {rows1 : List Row} {y n x : L} {v : SV} {rows' : List Row} {g' : G} (hT : O1 P w0.w) (hm : ZK P T m) (hss : Sd m.ss = true) (h : Lg m rows1 y n x pc g = some (v, rows', g')) (hg : Good T e g') :
  Good T e g ∧ ∀ (loc : Loc) (vp : Value) (w : World) (B : Bd) (as : List A) (k : Nat) (blk : Option Nat), (pc.ev e).bool = true → y.ev e = .l as → (n.ev e).int = (k : Nat) → as.length = k →
   B.n = w0.w.heap.size → (∀ k, B.F k → w0.S k ∨ B.n ≤ k) → B.le w → Ad e loc rows1 w B → Below w0.w.heap.size w0.w w →
   w.ownsRow w0.w.heap.size m.ty 1 vp k (B0 m.ss as) → vp.ownBlock = blk → (∀ b, blk = some b → B.own b) →
   (∀ s y, rows1[s]? = some y → (y.own = true ∨ B6 loc s y) → (loc s).blk < w.heap.size ∧ some (loc s).blk ≠ blk) →
   Calls P m.f [vp, .int .i64 (x.ev e).int, .int .i64 10].toArray w fun en w' => ∃ u, en = .returned u ∧ ∃ loc', AO rows1.length loc loc' ∧ rows1.length ≤ rows'.length ∧ v.rel e rows'.length loc' u ∧ Bn e w0 loc' rows' w' := by
 simp only [Lg, Option.some.injEq, Prod.mk.injEq] at h
 obtain ⟨rfl, rfl, rfl⟩ := h
 have hk := Ah hg
 have hm2 := As hk.1
 have hp := Dh hm2.1
 have hm1 := As hp.1
 have hle := AB hm1.1
 refine ⟨hle.1, fun loc vp w B as k blk hpc hy hn hal hBn hBF hBl hR hbel hown hblk hB hsep => ?_⟩
 have h1 : k ≤ 1000000 := by
  have := hm1.2 hpc
  rw [hle.2, hn] at this
  have : (k : Int) ≤ 1000000 := of_decide_eq_true this
  omega
 obtain ⟨ik, hik⟩ := MS hss
 have hpre := hm2.2 hpc
 have e0 := hp.2 0 (.b (T m.f [.l as, n.ev e, x.ev e]).1) (by simp [D.ev, hy])
 rw [Nat.add_zero] at e0
 have hpre : (T m.f [.l as, n.ev e, x.ev e]).1 = true := by
  simp only [L.ev, e0] at hpre
  exact hpre
 have hle0 : w0.w.heap.size ≤ w.heap.size := hbel.size
 refine (hm as (n.ev e) (x.ev e) k w0.w.heap.size vp w hn hal h1 hpre hown hle0 (fun w' hw' => hT.on (hbel.trans hw'))).mono ?_
 rintro en w' ⟨v', bs, rfl, t1, t2, t3, t4, t5, t6⟩
 have hz := hp.2 1 (.l (as ++ bs)) (by simp [D.ev, hy, t1])
 have hkv := hk.2 (.i ((k + bs.length : Nat) : Int)) (by
  simp only [List.map_cons, List.map_nil, L.Ak, hz, D.ev, A.AJ, List.getElem?_cons_zero, Nat.div_one, List.length_append, hal])
 obtain ⟨q1, q2⟩ := t3
 have hsize : w.heap.size ≤ w'.heap.size := t4.size
 rcases q2 with ⟨_, q2⟩ | ⟨gb, cap, cur, rfl, gB, gh, gk, gc, gs, gt⟩
 ·omega
 have hgbB : B.own gb := by
  rcases t6 with t6 | ⟨kk, t6, t7⟩
  ·exact hB gb (by rw [← hblk, ← t6]; rfl)
  ·simp only [Value.ownBlock, Option.some.injEq] at t6
   exact hBl.Zt (by omega)
 have hstab : ∀ j, B.F j → w'.heap[j]? = w.heap[j]? := fun j hj => t5 j (hBl.2 j hj) (fun h0 => by
  rw [hblk] at h0
  exact (hB j h0.symm).2 hj)
 have hR2 : Ad e loc rows1 w' B := hR.MB hstab fun s y hs hy => by
  obtain ⟨q1, q2⟩ := hsep s y hs hy
  exact t5 _ q1 (by rw [hblk]; exact q2)
 have hvs : cur = (B0 m.ss (as ++ bs) ++ cur.toList.drop (k + bs.length)).toArray := by
  apply Array.ext'
  rw [Nat.mul_one] at gt
  rw [← gt]
  simp
 have hadd := hR2.SG (x := .QA gb 0 cap 0) (q := ⟨true, m.ty, m.ss, .var (((((AK .leq n (.n 1000000) g).2.Bo pc (AK .leq n (.n 1000000) g).1).BJ (.call m.f) [y, n, x] 2).1 + 1)), ((((((AK .leq n (.n 1000000) g).2.Bo pc (AK .leq n (.n 1000000) g).1).BJ (.call m.f) [y, n, x] 2).2.Bo pc (.var (((AK .leq n (.n 1000000) g).2.Bo pc (AK .leq n (.n 1000000) g).1).BJ (.call m.f) [y, n, x] 2).1)).push (.lln 1) [.var ((((AK .leq n (.n 1000000) g).2.Bo pc (AK .leq n (.n 1000000) g).1).BJ (.call m.f) [y, n, x] 2).1 + 1)]).1)⟩) rfl (fun _ s y hs hy h0 => by
   obtain ⟨q1, q2⟩ := hsep s y hs hy
   simp only at h0
   rcases t6 with t6 | ⟨kk, t6, t7⟩
   ·rw [hblk] at t6
    exact q2 (by rw [← t6, h0]; rfl)
   ·simp only [Value.ownBlock, Option.some.injEq] at t6
    omega) ⟨as ++ bs, k + bs.length, hz, by simp only; rw [List.length_append, hal, hik]; exact (Nat.mul_one _).symm, by simp only; rw [hkv]; rfl, by rw [hik]; exact Nat.one_pos, by
    rw [if_pos rfl]
    rw [Ap, if_neg (by simp)]
    refine ⟨rfl, hgbB, gc, B0 m.ss (as ++ bs), cur.toList.drop (k + bs.length), by rw [← hvs]; exact gh, ?_, ?_⟩
    ·simp only
     have : (B0 m.ss (as ++ bs) ++ cur.toList.drop (k + bs.length)).length = cur.size := by
      conv => rhs; rw [hvs]
      simp
     rw [this, gs, hik]
     rfl
    ·exact Cg.Gw (by rw [hik]; exact Nat.one_pos) (by rw [hik]; rfl)⟩
 refine ⟨_, rfl, AN loc rows1.length (.QA gb 0 cap 0), Bi _ _ _, by simp [AM], ⟨⟨by simp [AM], by rw [hkv]; simp only [A.Ai]; omega, fun he => ?_⟩, rfl, .inr ?_⟩, B, ⟨hBn, hBF, hBl.mono hsize⟩, hadd, hbel.trans t4⟩
 ·rw [Ap] at he
  simp at he
 ·simp only [K.Bl]
  rw [Ap, hkv]
  simp only [A.Ai, Int.toNat_natCast, Bool.false_eq_true, if_false]
theorem O5 {m : YZ} {args : List PV} {v : SV} {rows' : List Row} {g' : G} (hT : O1 P w0.w) (hm : ZK P T m) (h : OH m args rows pc g = some (v, rows', g')) (hg : Good T e g') :
  Good T e g ∧ ∀ (loc : Loc) (vs : List Value) (w : World), (pc.ev e).bool = true → AA e rows.length loc args vs → Bn e w0 loc rows w →
   Calls P m.f vs.toArray w fun en w' => ∃ u, en = .returned u ∧ ∃ loc', AO rows.length loc loc' ∧ rows.length ≤ rows'.length ∧ v.rel e rows'.length loc' u ∧ Bn e w0 loc' rows' w' := by
 unfold OH at h
 split at h
 ·rename_i p x t
  split at h
  ·cases h
  rename_i hc
  simp only [Bool.or_eq_true, bne_iff_ne, ne_eq, Bool.not_eq_true', not_or, Decidable.not_not, Bool.not_eq_false] at hc
  obtain ⟨rfl, hss⟩ := hc
  obtain ⟨ik, hik⟩ := MS hss
  have args3 : ∀ {loc : Loc} {vs : List Value}, AA e rows.length loc [p, .one (.k (.int .i64 x)), .one (.k (.int .i64 (.n 10)))] vs → ∃ vp, vs = [vp, .int .i64 (x.ev e).int, .int .i64 10] ∧ p.rel e rows.length loc vp := fun {loc vs} hvs => by
   match vs, hvs with
   | [a, b, c], hvs =>
    obtain ⟨h1, h2, h3, _⟩ := hvs
    have e2 := Ca h2
    have e3 := Ca h3
    subst e2 e3
    exact ⟨a, rfl, h1⟩
  split at h
  ·obtain ⟨k1, k2⟩ := F9 hT hm hss h hg
   refine ⟨k1, fun loc vs w hpc hvs hcl => ?_⟩
   obtain ⟨vp, rfl, hp⟩ := args3 hvs
   have hv := Dk hp
   subst hv
   obtain ⟨B, ⟨hBn, hBF, hBl⟩, hR, hbel⟩ := hcl
   exact k2 loc _ w B [] 0 none hpc rfl rfl rfl hBn hBF hBl hR hbel ⟨by simp [B0], .inl ⟨rfl, rfl⟩⟩ rfl (fun b hb => by cases hb) (fun s y hs hy => ⟨hR.Co hs hy, by simp⟩)
  ·rename_i r k
   split at h
   ·cases h
   rename_i row hrow
   split at h
   ·cases h
   rename_i a ha
   split at h
   ·cases h
   rename_i hc
   simp only [Bool.or_eq_true, Bool.not_eq_true', bne_iff_ne, ne_eq, not_or, Decidable.not_not, Bool.not_eq_false] at hc
   obtain ⟨⟨⟨c1, c2⟩, c3⟩, c4⟩ := hc
   have c2 := B3 c2
   have c4 := L.Af c4
   obtain ⟨k1, k2⟩ := F9 hT hm hss h hg
   refine ⟨k1, fun loc vs w hpc hvs hcl => ?_⟩
   obtain ⟨vp, rfl, hp⟩ := args3 hvs
   obtain ⟨B, ⟨hBn, hBF, hBl⟩, hR, hbel⟩ := hcl
   have hr1 : r < rows.length := Ac hrow
   obtain ⟨as, na, l1, l2, l3, l4, l5⟩ := (hR.lst r row a hrow ha).2
   rw [if_pos c1] at l5
   have hna : as.length = na := by rw [l2, c2, hik]; exact Nat.mul_one _
   have hsg : a.ss.all Au.single = true := by rw [c2, hik]; rfl
   have hrest : ∀ s y, (rows.set r Row.dead)[s]? = some y → (y.own = true ∨ B6 loc s y) → s ≠ r ∧ rows[s]? = some y := fun s y hs hy => by
    have hne : s ≠ r := fun h0 => by
     subst h0
     rw [List.getElem?_set_self hr1] at hs
     injection hs with hs
     subst hs
     rcases hy with hy | ⟨_, hy, _⟩ <;> simp [Row.dead] at hy
    exact ⟨hne, by rwa [List.getElem?_set_ne (Ne.symm hne)] at hs⟩
   have hapart : ∀ s y, (rows.set r Row.dead)[s]? = some y → (y.own = true ∨ B6 loc s y) → (loc r).emp = false → (loc s).blk ≠ (loc r).blk := fun s y hs hy he => by
    obtain ⟨q1, q2⟩ := hrest s y hs hy
    have hlo : B6 loc r row := ⟨a, ha, c1, he⟩
    refine fun h0 => hR.lapart r s row y hrow q2 hlo ?_ h0.symm
    rcases hy with hy | hy
    ·exact .inl hy
    ·exact .inr ⟨hy, Ne.symm q1⟩
   obtain ⟨h1, _, h3⟩ := hp
   simp only [K.ok] at h1
   have hn : (a.n.ev e).int = (na : Nat) := l3
   have hK := hR.kill r
   have hlt : ∀ s y, (rows.set r Row.dead)[s]? = some y → (y.own = true ∨ B6 loc s y) → (loc s).blk < w.heap.size := fun s y hs hy => hR.Co (hrest s y hs hy).2 hy
   have fin := fun (blk : Option Nat) p1 p2 p3 p4 => k2 loc vp w B as na blk hpc l1 (by rw [c4]; exact hn) hna hBn hBF hBl hK hbel p1 p2 p3 p4
   rw [List.length_set] at fin
   rcases h3 with h3 | h3
   ·cases h3
   ·cases he : (loc r).emp
    ·simp only [K.Bl, he, Bool.false_eq_true, if_false] at h3
     rw [if_neg (by simp [he])] at l5
     obtain ⟨g1, g2, g3, vs, sp, g4, g5, g6⟩ := l5
     have hvs := g6.single l4 hsg
     subst hvs
     rw [c2] at g4 g5
     have g5' : (B0 m.ss as ++ sp).length = (loc r).cap := by rw [g5, hik]; exact Nat.mul_one _
     have hcap : na ≤ (loc r).cap := by
      rw [← g5', List.length_append, Cf, hna]
      exact Nat.le_add_right _ _
     refine fin (some (loc r).blk) ⟨by rw [Cf, hna, Nat.mul_one], .inr ⟨(loc r).blk, (loc r).cap, (B0 m.ss as ++ sp).toArray, by rw [h3, g1, c4, hn]; simp, hBn ▸ g2.1, by rw [g4, c3], hcap, g3, by rw [Nat.mul_one, ← g5']; simp, ?_⟩⟩ (by rw [h3]; rfl) (fun b hb => by injection hb with hb; subst hb; exact g2) (fun s y hs hy => ⟨hlt s y hs hy, fun h0 => ?_⟩)
     ·rw [Nat.mul_one, ← hna, ← Cf (ss := m.ss)]
      simp
     ·injection h0 with h0
      exact hapart s y hs hy he h0
    ·obtain ⟨hv, hz⟩ := h1.2.2 he
     simp only [K.Bl, he, if_true] at h3
     have hna0 : na = 0 := by
      rw [c4, hn] at hz
      omega
     have has : as = [] := List.eq_nil_of_length_eq_zero (by rw [hna, hna0])
     have hvp : vp = .slice none 0 0 := by rw [h3, hv]
     refine fin none ⟨by rw [Cf, hna, Nat.mul_one], .inl ⟨hvp, hna0⟩⟩ (by rw [hvp]; rfl) (fun b hb => by cases hb) (fun s y hs hy => ⟨hlt s y hs hy, by simp⟩)
  ·rename_i r k
   split at h
   ·cases h
   rename_i row hrow
   split at h
   ·cases h
   rename_i hc
   simp only [Bool.or_eq_true, Bool.not_eq_true', bne_iff_ne, ne_eq, not_or, Decidable.not_not, Bool.not_eq_false] at hc
   obtain ⟨⟨⟨c1, c2⟩, c3⟩, c4⟩ := hc
   split at h
   ·rename_i kd hkd
    split at h
    ·cases h
    rename_i xs hxs
    obtain ⟨k1, k2⟩ := F9 hT hm hss h hg
    have hpu := Ah k1
    refine ⟨hpu.1, fun loc vs w hpc hvs hcl => ?_⟩
    obtain ⟨vp, rfl, hp⟩ := args3 hvs
    obtain ⟨B, ⟨hBn, hBF, hBl⟩, hR, hbel⟩ := hcl
    have hz := hpu.2 (.l (xs.map (L.ev e))) (by simp [D.ev])
    obtain ⟨r1, r2⟩ := D4 hp
    have hrr := hR.row r row hrow
    unfold AH at hrr
    rw [if_pos c1] at hrr
    obtain ⟨b1, b2, b3, b4, vs, sp, b5, b6, b7⟩ := hrr
    obtain ⟨x1, x2⟩ := JL hxs b6
    have hsem : B0 m.ss (xs.map (L.ev e)) = vs := by
     rw [hkd, Is, x2, List.map_map]
     rfl
    have hvl : vs.length = k := by rw [x2, List.length_map, x1, c4]
    have hv : vp = .slice (some ⟨(loc r).blk, 0, none⟩) k (loc r).cap := by rw [r2, b1]; simp
    have b7' : (vs ++ sp).length = (loc r).cap := by rw [b7, c2]; exact Nat.mul_one _
    have hkc : k ≤ (loc r).cap := by
     rw [← b7', List.length_append, hvl]
     exact Nat.le_add_right _ _
    have := k2 loc vp w B (xs.map (L.ev e)) k (some (loc r).blk) hpc hz rfl (by rw [List.length_map, x1, c4]) hBn hBF hBl (hR.kill r) hbel (by rw [hsem]; exact ⟨by rw [hvl, Nat.mul_one], .inr ⟨(loc r).blk, (loc r).cap, (vs ++ sp).toArray, hv, hBn ▸ b3.1, by rw [b5, c3], hkc, b4, by rw [Nat.mul_one, ← b7']; simp, by rw [Nat.mul_one, ← hvl]; simp⟩⟩) (by rw [hv]; rfl)
     (fun b hb => by injection hb with hb; subst hb; exact b3) (fun s y hs hy => by
      by_cases hsr : s = r
      ·subst hsr
       rw [List.getElem?_set_self r1] at hs
       injection hs with hs
       subst hs
       rcases hy with hy | ⟨_, hy, _⟩ <;> simp [Row.dead] at hy
      ·rw [List.getElem?_set_ne (Ne.symm hsr)] at hs
       refine ⟨hR.Co hs hy, fun h0 => ?_⟩
       injection h0 with h0
       rcases hy with hy | hy
       ·exact hR.apart s r y row hs hrow hy c1 hsr h0
       ·exact hR.lapart s r y row hs hrow hy (.inl c1) h0)
    rw [List.length_set] at this
    exact this
   ·cases h
  ·cases h
 ·cases h
end
end Rx
namespace Rx
open Go Go.RowKit
def Acu (S : Nat → Prop) (w w' : World) : RS → List A → Value → Prop
 | .c agg ss, as, v => Vi (agg, ss) as v
 | .lst ss ty, as, v => ∃ (as' : List A) (k : A) (m : Nat), as = [.l as', k] ∧ as'.length = m * ss.length ∧ k.int = (m : Nat) ∧ 0 < ss.length ∧ ss.all Au.single = true ∧
   ((m = 0 ∧ v = .slice none 0 0) ∨ ∃ (b cap : Nat) (spare : List Value), v = .slice (some ⟨b, 0, none⟩) m cap ∧ w.heap.size ≤ b ∧ cap ≤ maxLen ∧
    w'.heap[b]? = some (.cells (B0 ss as' ++ spare).toArray ty (0, 0)) ∧ (B0 ss as' ++ spare).length = cap * ss.length)
 | .d agg ss, as, v => Acs (Dy (fun k => S k ∨ w.heap.size ≤ k) w') agg ss as v
def MV (S : Nat → Prop) (w w' : World) : List RS → List A → List Value → Prop
 | [], as, vs => as = [] ∧ vs = []
 | r :: rs, as, vs => ∃ v vr a1 a2, vs = v :: vr ∧ as = a1 ++ a2 ∧ Acu S w w' r a1 v ∧ MV S w w' rs a2 vr
def Ry (P : Program) (T : Nat → List A → Bool × List A) (c : WQ) : Prop :=
 ∀ (lits : List (Option Int)) (as : List A) (vs : List Value) (w : World) (S : Nat → Prop), O1 P w → (∀ k, S k → k < w.heap.size) → c.ok lits = true → Xb lits as → Cb (Dy S w) c.ps vs as → (T c.f as).1 = true →
  Calls P c.f vs.toArray w fun en w' => ∃ us, en = .returned (Ip us) ∧ MV S w w' c.rs (T c.f as).2 us ∧ Below w.heap.size w w'
def SM (P : Program) (T : Nat → List A → Bool × List A) (l : List (Nat × WQ)) : Prop := ∀ x ∈ l, x.2.f = x.1 ∧ Ry P T x.2
section
variable {T : Nat → List A → Bool × List A} {e : Nat → A} {n n' : Nat} {loc loc' : Loc} {P : Program} {X : Ctx} {w0 : W0}
variable {rows : List Row} {pc : L} {g : G}
theorem G7 {S : Nat → Prop} {w w' : World} {r : Nat} : ∀ {rs : List RS} {b b' : Nat} {ps : List PV} {news : List Row} {as : List A} {us : List Value}, Kz rs b r = some (ps, news, b') → MV S w w' rs as us → (∀ j a, as[j]? = some a → e (b + j) = a) →
  (news = [] ∧ ∀ N loc, AA e N loc ps us) ∨
  ∃ (q : FD) (x : Lc), news = [{ own := false, ty := 0, es := 0, cells := [], lst := some q }] ∧ q.own = true ∧ (x.emp = false → w.heap.size ≤ x.blk) ∧
   (∀ (loc : Loc) (B : Bd) (s : Nat), B.le w → loc s = x → BM e loc w' B s q) ∧ ∀ N loc, r < N → loc r = x → AA e N loc ps us
 | [], b, b', ps, news, as, us, h, hr, he => by
  simp only [Kz, Option.some.injEq, Prod.mk.injEq] at h
  obtain ⟨rfl, rfl, rfl⟩ := h
  obtain ⟨_, rfl⟩ := hr
  exact .inl ⟨rfl, fun _ _ => trivial⟩
 | .c agg ss :: l, b, b', ps, news, as, us, h, hr, he => by
  simp only [Kz, Option.bind_eq_bind, Option.bind_eq_some_iff] at h
  obtain ⟨p, hp, ⟨ps', rw', b2⟩, h2, h⟩ := h
  simp only [Option.some.injEq, Prod.mk.injEq] at h
  obtain ⟨rfl, rfl, rfl⟩ := h
  obtain ⟨v, vr, a1, a2, rfl, rfl, h1, h3⟩ := hr
  have hl : a1.length = ss.length := h1.1
  have hone : ∀ N loc, p.rel e N loc v := fun N loc => by
   have hv := JK (e := e) (n := N) (loc := loc) (b := b) hl (fun j a hj => he j a (by rw [List.getElem?_append_left (Ac hj)]; exact hj))
   rcases BG hp with ⟨ha, rfl⟩ | ⟨ha, c, hc, rfl⟩
   ·have h4 := h1.2
    rw [if_pos ha] at h4
    exact ⟨_, h4, hv⟩
   ·have h4 := h1.2
    rw [if_neg (by simp [ha])] at h4
    obtain ⟨s, a, q1, q2, q3⟩ := h4
    simp only at q1
    subst q1
    subst q2
    rw [hc] at hv
    rw [q3]
    exact hv.1
  have he2 : ∀ j a, a2[j]? = some a → e (b + ss.length + j) = a := fun j a hj => by
   have := he (ss.length + j) a (by rw [List.getElem?_append_right (by omega), hl]; simpa using hj)
   rwa [Nat.add_assoc]
  rcases G7 h2 h3 he2 with ⟨rfl, hq⟩ | ⟨q, x, rfl, m1, m2, m3, m4⟩
  ·exact .inl ⟨rfl, fun N loc => ⟨hone N loc, hq N loc⟩⟩
  ·exact .inr ⟨q, x, rfl, m1, m2, m3, fun N loc hN hloc => ⟨hone N loc, m4 N loc hN hloc⟩⟩
 | .lst ss ty :: l, b, b', ps, news, as, us, h, hr, he => by
  simp only [Kz, Option.bind_eq_bind] at h
  simp only [Option.bind_eq_some_iff] at h
  obtain ⟨⟨ps', rw', b2⟩, h2, h⟩ := h
  simp only at h
  split at h
  ·cases h
  ·rename_i hrw
   simp only [Bool.or_eq_true, Bool.not_eq_true', List.isEmpty_eq_false_iff, ne_eq, beq_iff_eq, not_or, Decidable.not_not, Bool.not_eq_false] at hrw
   obtain ⟨⟨hrw, hsg⟩, hs0⟩ := hrw
   subst hrw
   simp only [Option.some.injEq, Prod.mk.injEq] at h
   obtain ⟨rfl, rfl, rfl⟩ := h
   obtain ⟨v, vr, a1, a2, rfl, rfl, ⟨as', k, m, rfl, hl, hk, hs, hsg', hv⟩, h3⟩ := hr
   have e0 : e b = .l as' := he 0 _ rfl
   have e1 : e (b + 1) = k := he 1 _ rfl
   have he2 : ∀ j a, a2[j]? = some a → e (b + 2 + j) = a := fun j a hj => by
    have := he (2 + j) a (by rw [List.getElem?_append_right (by simp)]; simpa using hj)
    rwa [Nat.add_assoc]
   rcases G7 (S := S) (w := w) (w' := w') h2 h3 he2 with ⟨_, hq⟩ | ⟨_, _, h0, _⟩
   ·rcases hv with ⟨hm, rfl⟩ | ⟨bk, cap, spare, rfl, q1, q2, q3, q4⟩
    ·refine .inr ⟨_, ⟨0, 0, 0, 0, .slice none 0 0, true⟩, rfl, rfl, fun h => by simp at h, fun loc B s hB hloc => ⟨as', m, e0, hl, by rw [← hk]; exact congrArg A.int e1, hs, ?_⟩, fun N loc hN hloc => ⟨⟨⟨hN, ?_, fun _ => ⟨by rw [hloc], ?_⟩⟩, rfl, .inr ?_⟩, hq N loc⟩⟩
     ·rw [if_pos rfl]
      rw [hloc, if_pos rfl]
      exact ⟨hm, rfl⟩
     ·simp only [L.Ak, e1, hk]; omega
     ·simp only [L.Ak, e1, hk]; omega
     ·simp only [K.Bl]
      rw [hloc]
      rfl
    ·refine .inr ⟨_, ⟨bk, 0, cap, 0, Go.undef, false⟩, rfl, rfl, fun _ => q1, fun loc B s hB hloc => ⟨as', m, e0, hl, by rw [← hk]; exact congrArg A.int e1, hs, ?_⟩, fun N loc hN hloc => ⟨⟨⟨hN, ?_, fun he => ?_⟩, rfl, .inr ?_⟩, hq N loc⟩⟩
     ·rw [if_pos rfl]
      rw [hloc, if_neg (by simp)]
      exact ⟨rfl, hB.Zt q1, q2, B0 ss as', spare, q3, q4, .Gw hs hsg'⟩
     ·simp only [L.Ak, e1, hk]; omega
     ·rw [hloc] at he; simp at he
     ·simp only [K.Bl]
      rw [hloc]
      simp only [L.Ak, e1, hk]
      simp
   ·cases h0
theorem FM {M : Addr → Option Value} {s : Au} {l : List Au} {b b' r : Nat} {cs : List C} {nw : List Row} {as : List A} {vs : List Value} (hs : s.single = true)
  (h0 : D1 (s :: l) b r = (do
   let (cs, nw, b') ← D1 l (b + 1) r
   some (.k (s.mk (.var b)) :: cs, nw, b')))
  (ih : ∀ {b b' r : Nat} {cs : List C} {nw : List Row} {as : List A} {vs : List Value}, D1 l b r = some (cs, nw, b') → BO M l as vs → (∀ j a, as[j]? = some a → e (b + j) = a) →
   b' = b + as.length ∧ ∃ xs : List Value, xs.length = nw.length ∧ (∀ (t : Nat) row, nw[t]? = some row → ∃ v, xs[t]? = some v ∧ EM e M row v) ∧
    ∀ (N : Nat) (loc : Loc), r + nw.length ≤ N → (∀ (t : Nat) v, xs[t]? = some v → loc (r + t) = Ew v) → Aj e N loc cs vs)
  (h : D1 (s :: l) b r = some (cs, nw, b')) (hd : BO M (s :: l) as vs) (he : ∀ j a, as[j]? = some a → e (b + j) = a) :
  b' = b + as.length ∧ ∃ xs : List Value, xs.length = nw.length ∧ (∀ (t : Nat) row, nw[t]? = some row → ∃ v, xs[t]? = some v ∧ EM e M row v) ∧
   ∀ (N : Nat) (loc : Loc), r + nw.length ≤ N → (∀ (t : Nat) v, xs[t]? = some v → loc (r + t) = Ew v) → Aj e N loc cs vs := by
 rw [h0] at h
 simp only [Option.bind_eq_bind, Option.bind_eq_some_iff, Option.some.injEq, Prod.mk.injEq] at h
 obtain ⟨⟨cs', nw', b2⟩, h2, rfl, rfl, rfl⟩ := h
 have hd' : ∃ a ar cr, as = a :: ar ∧ vs = s.Bl a :: cr ∧ BO M l ar cr := by
  cases s with
  | sl x => simp [Au.single] at hs
  | _ => exact hd
 obtain ⟨a, ar, cr, rfl, rfl, hd'⟩ := hd'
 obtain ⟨h3, xs, h4, h5, h6⟩ := ih h2 hd' (fun j a hj => by
  have := he (1 + j) a (by rw [Nat.add_comm]; simpa using hj)
  rwa [Nat.add_assoc])
 refine ⟨by rw [h3]; simp; omega, xs, h4, h5, fun N loc hN hloc => ⟨?_, h6 N loc hN hloc⟩⟩
 exact GB (he 0 _ rfl)
theorem CA {M : Addr → Option Value} : ∀ {ss : List Au} {b b' r : Nat} {cs : List C} {nw : List Row} {as : List A} {vs : List Value}, D1 ss b r = some (cs, nw, b') → BO M ss as vs → (∀ j a, as[j]? = some a → e (b + j) = a) →
  b' = b + as.length ∧ ∃ xs : List Value, xs.length = nw.length ∧ (∀ (t : Nat) row, nw[t]? = some row → ∃ v, xs[t]? = some v ∧ EM e M row v) ∧
   ∀ (N : Nat) (loc : Loc), r + nw.length ≤ N → (∀ (t : Nat) v, xs[t]? = some v → loc (r + t) = Ew v) → Aj e N loc cs vs
 | [], b, b', r, cs, nw, as, vs, h, hd, he => by
  simp only [D1, Option.some.injEq, Prod.mk.injEq] at h
  obtain ⟨rfl, rfl, rfl⟩ := h
  obtain ⟨rfl, rfl⟩ := hd
  exact ⟨rfl, [], rfl, fun t row h => by simp at h, fun _ _ _ _ => trivial⟩
 | .sl ss :: l, b, b', r, cs, nw, as, vs, h, hd, he => by
  simp only [D1, Option.bind_eq_bind] at h
  split at h
  ·cases h
  ·rename_i hs0
   simp only [Option.bind_eq_some_iff, Option.some.injEq, Prod.mk.injEq] at h
   obtain ⟨⟨cs', nw', b2⟩, h2, rfl, rfl, rfl⟩ := h
   obtain ⟨a, k, ar, bb, m, c, cr, rfl, rfl, hk, hs, hf, hr⟩ := hd
   obtain ⟨h3, xs, h4, h5, h6⟩ := CA h2 hr (fun j a hj => by
    have := he (2 + j) a (by rw [show 2 + j = j + 1 + 1 by omega]; simpa using hj)
    rwa [Nat.add_assoc])
   have e0 : e b = a := he 0 _ rfl
   have e1 : e (b + 1) = k := he 1 _ rfl
   obtain ⟨as', m', c', b0, z1, z2, z3, z4⟩ := hf.slice
   injection z2 with z2 z5 z6
   subst z2 z5 z6
   refine ⟨by rw [h3]; simp; omega, .slice bb m c :: xs, by simp [h4], fun t row ht => ?_, fun N loc hN hloc => ⟨?_, h6 N loc (by simp at hN; omega) fun t v ht => by
    have := hloc (t + 1) v (by simpa using ht)
    rwa [show r + 1 + t = r + (t + 1) by omega]⟩⟩
   ·cases t with
    | zero =>
     simp only [List.getElem?_cons_zero, Option.some.injEq] at ht
     subst ht
     exact ⟨_, rfl, rfl, rfl, _, as', m, rfl, rfl, hs, by rw [← z1]; exact e0, z3, by simp only [L.Ak, e1, hk], by rw [z1] at hf; exact hf⟩
    | succ t => simpa using h5 t row (by simpa using ht)
   ·have hl := hloc 0 (.slice bb m c) rfl
    rw [Nat.add_zero] at hl
    refine ⟨⟨by simp at hN; omega, by simp only [L.Ak, e1, hk]; omega, bb, c, by rw [hl, CR]; simp only [L.Ak, e1, hk]; simp⟩, rfl, .inr (by simp only [K.Bl]; rw [hl, CR])⟩
 | .int kd :: l, b, b', r, cs, nw, as, vs, h, hd, he => FM (s := .int kd) rfl rfl (fun h hd he => CA h hd he) h hd he
 | .bool :: l, b, b', r, cs, nw, as, vs, h, hd, he => FM (s := .bool) rfl rfl (fun h hd he => CA h hd he) h hd he
 | .str :: l, b, b', r, cs, nw, as, vs, h, hd, he => FM (s := .str) rfl rfl (fun h hd he => CA h hd he) h hd he
 | .val :: l, b, b', r, cs, nw, as, vs, h, hd, he => FM (s := .val) rfl rfl (fun h hd he => CA h hd he) h hd he
theorem Vq {agg : Bool} {ss : List Au} {b : Nat} {a1 : List A} {v : Value} {p : PV} (hp : Et agg (Re ss b) = some p) (h1 : Vi (agg, ss) a1 v) (he : ∀ j a, a1[j]? = some a → e (b + j) = a) : ∀ N loc, p.rel e N loc v := fun N loc => by
 have hv := JK (e := e) (n := N) (loc := loc) (b := b) h1.1 he
 rcases BG hp with ⟨ha, rfl⟩ | ⟨ha, c, hc, rfl⟩
 ·have h4 := h1.2
  rw [if_pos ha] at h4
  exact ⟨_, h4, hv⟩
 ·have h4 := h1.2
  rw [if_neg (by simp [ha])] at h4
  obtain ⟨s, a, q1, q2, q3⟩ := h4
  simp only at q1
  subst q1
  subst q2
  rw [hc] at hv
  rw [q3]
  exact hv.1
theorem Ga {S : Nat → Prop} {w w' : World} : ∀ {rs : List RS} {b b' r : Nat} {ps : List PV} {news : List Row} {as : List A} {us : List Value}, FG rs b r = some (ps, news, b') → MV S w w' rs as us → (∀ j a, as[j]? = some a → e (b + j) = a) →
  ∃ xs : List Value, xs.length = news.length ∧ (∀ (t : Nat) row, news[t]? = some row → ∃ v, xs[t]? = some v ∧ EM e (Dy (fun k => S k ∨ w.heap.size ≤ k) w') row v) ∧
   ∀ (N : Nat) (loc : Loc), r + news.length ≤ N → (∀ (t : Nat) v, xs[t]? = some v → loc (r + t) = Ew v) → AA e N loc ps us
 | [], b, b', r, ps, news, as, us, h, hr, he => by
  simp only [FG, Option.some.injEq, Prod.mk.injEq] at h
  obtain ⟨rfl, rfl, rfl⟩ := h
  obtain ⟨_, rfl⟩ := hr
  exact ⟨[], rfl, fun t row h => by simp at h, fun _ _ _ _ => trivial⟩
 | .c agg ss :: l, b, b', r, ps, news, as, us, h, hr, he => by
  simp only [FG, Option.bind_eq_bind, Option.bind_eq_some_iff] at h
  obtain ⟨p, hp, ⟨ps', rw', b2⟩, h2, h⟩ := h
  simp only [Option.some.injEq, Prod.mk.injEq] at h
  obtain ⟨rfl, rfl, rfl⟩ := h
  obtain ⟨v, vr, a1, a2, rfl, rfl, h1, h3⟩ := hr
  have hl : a1.length = ss.length := h1.1
  obtain ⟨xs, x1, x2, x3⟩ := Ga h2 h3 (fun j a hj => by
   have := he (ss.length + j) a (by rw [List.getElem?_append_right (by omega), hl]; simpa using hj)
   rwa [Nat.add_assoc])
  exact ⟨xs, x1, x2, fun N loc hN hloc => ⟨Vq hp h1 (fun j a hj => he j a (by rw [List.getElem?_append_left (Ac hj)]; exact hj)) N loc, x3 N loc hN hloc⟩⟩
 | .lst _ _ :: _, _, _, _, _, _, _, _, h, _, _ => by simp [FG] at h
 | .d agg ss :: l, b, b', r, ps, news, as, us, h, hr, he => by
  simp only [FG, Option.bind_eq_bind, Option.bind_eq_some_iff] at h
  obtain ⟨⟨cs, nw, b1⟩, hd, p, hp, ⟨ps', rw', b2⟩, h2, h⟩ := h
  dsimp only at hd hp h2 h
  simp only [Option.some.injEq, Prod.mk.injEq] at h
  obtain ⟨rfl, rfl, rfl⟩ := h
  obtain ⟨v, vr, a1, a2, rfl, rfl, ⟨cv, hc1, hc2⟩, h3⟩ := hr
  obtain ⟨d1, xs, d2, d3, d4⟩ := CA hd hc2 (fun j a hj => he j a (by rw [List.getElem?_append_left (Ac hj)]; exact hj))
  obtain ⟨ys, y1, y2, y3⟩ := Ga h2 h3 (fun j a hj => by
   have := he (a1.length + j) a (by rw [List.getElem?_append_right (by omega)]; simpa using hj)
   rw [d1, Nat.add_assoc]; exact this)
  refine ⟨xs ++ ys, by simp [d2, y1], fun t row ht => ?_, fun N loc hN hloc => ⟨?_, y3 N loc (by simp at hN; omega) fun t v ht => ?_⟩⟩
  ·rw [List.getElem?_append] at ht
   split at ht
   ·obtain ⟨v, v1, v2⟩ := d3 t row ht
    exact ⟨v, by rw [List.getElem?_append_left (Ac v1)]; exact v1, v2⟩
   ·obtain ⟨v, v1, v2⟩ := y2 _ row ht
    exact ⟨v, by rw [List.getElem?_append_right (by omega), d2]; exact v1, v2⟩
  ·have hcs := d4 N loc (by simp at hN; omega) fun t v ht => hloc t v (by rw [List.getElem?_append_left (Ac ht)]; exact ht)
   rcases BG hp with ⟨ha, rfl⟩ | ⟨ha, c, hc, rfl⟩
   ·rw [if_pos ha] at hc1
    exact ⟨cv, hc1, hcs⟩
   ·rw [if_neg (by simp [ha])] at hc1
    subst hc1
    rw [hc] at hcs
    exact hcs.1
  ·have := hloc (nw.length + t) v (by rw [List.getElem?_append_right (by omega), ← d2]; simpa using ht)
   rwa [← Nat.add_assoc] at this
theorem FN : ∀ {l : List Nat} {rows : List Row}, (EH l rows).length = rows.length
 | [], _ => rfl
 | a :: l, rows => by
  show (EH l (rows.set a Row.dead)).length = _
  rw [FN, List.length_set]
theorem NK : ∀ {l : List Nat} {rows : List Row} {s : Nat} {y : Row}, (EH l rows)[s]? = some y → y = Row.dead ∨ (s ∉ l ∧ rows[s]? = some y)
 | [], _, _, _, h => .inr ⟨by simp, h⟩
 | a :: l, rows, s, y, h => by
  rcases NK (l := l) (rows := rows.set a Row.dead) h with h | ⟨h1, h2⟩
  ·exact .inl h
  ·by_cases hs : s = a
   ·subst hs
    rw [List.getElem?_set] at h2
    simp only [if_true] at h2
    split at h2
    ·injection h2 with h2; exact .inl h2.symm
    ·cases h2
   ·rw [List.getElem?_set_ne (Ne.symm hs)] at h2
    exact .inr ⟨by simp [hs, h1], h2⟩
theorem Ad.EH {B : Bd} {w : World} : ∀ {l : List Nat} {rows : List Row}, Ad e loc rows w B → Ad e loc (EH l rows) w B
 | [], _, h => h
 | _ :: l, _, h => Ad.EH (l := l) (h.kill _)
def Cu (rows : List Row) (loc : Loc) (B : Bd) (l : List Nat) (k : Nat) : Prop := B.F k ∨ ∃ r ∈ l, (∃ row, rows[r]? = some row ∧ (row.own = true ∨ B6 loc r row)) ∧ k = (loc r).blk
theorem QN {c : WQ} {args : List PV} {v : SV} {rows' : List Row} {g' : G} (hbig : Ry P T c) (hT : O1 P w0.w) (hcall : R9 c args rows pc g = some (v, rows', g')) (hg : Good T e g') :
  Good T e g ∧ ∀ (loc : Loc) (vs : List Value) (w : World), (pc.ev e).bool = true → AA e rows.length loc args vs → Bn e w0 loc rows w →
   Calls P c.f vs.toArray w fun en w' => ∃ u, en = .returned u ∧ ∃ loc', AO rows.length loc loc' ∧ rows.length ≤ rows'.length ∧ v.rel e rows'.length loc' u ∧ Bn e w0 loc' rows' w' := by
 simp only [R9, Option.bind_eq_bind, Option.bind_eq_some_iff] at hcall
 obtain ⟨⟨ls, g0⟩, hls, hcall⟩ := hcall
 simp only at hcall
 split at hcall
 ·cases hcall
 ·rename_i hok
  split at hcall
  ·simp only [Option.bind_eq_some_iff, Option.some.injEq, Prod.mk.injEq] at hcall
   obtain ⟨⟨ps, news, b⟩, hres, hv', hr', hg'⟩ := hcall
   dsimp only at hres hv' hr' hg'
   subst hv' hr' hg'
   have hmust := As hg
   have hgood := Dh hmust.1
   obtain ⟨fa1, fa2⟩ := DG hls hgood.1
   refine ⟨fa1, fun loc vs w hpc hvs hw => ?_⟩
   have hpre : (T c.f (ls.map (L.ev e))).1 = true := by
    have h1 := hmust.2 hpc
    have h2 := hgood.2 0 _ rfl
    simp only [G.BJ, Nat.add_zero] at h2
    rw [L.Ak, h2] at h1
    exact h1
   obtain ⟨B, ⟨hBn, hBF, hBl⟩, hR, hbel⟩ := hw
   have hsz : ∀ k, Cu rows loc B (Ba rows args) k → k < w.heap.size := fun k hk => by
    rcases hk with hk | ⟨r, _, ⟨row, h1, h2⟩, rfl⟩
    ·exact hBl.2 k hk
    ·exact hR.Co h1 h2
   have hcov : TB rows loc w B (Dy (Cu rows loc B (Ba rows args)) w) (Ba rows args) :=
    ⟨Gr (fun k hk => .inl hk) (fun _ _ => rfl), fun r hr hrow o u hu => DD hu (.inr ⟨r, hr, hrow, rfl⟩)⟩
   refine (hbig (ls.map OD) (ls.map (L.ev e)) vs w _ (hT.on hbel) hsz (by simpa using hok) (KQ ls) (fa2 loc w vs B _ hR hcov hvs) hpre).mono ?_
   rintro en w' ⟨us, rfl, hus, hb⟩
   have henv : ∀ j a, (T c.f (ls.map (L.ev e))).2[j]? = some a → e (g0.next + 1 + j) = a := fun j a hj => by
    have := hgood.2 (j + 1) a (by simpa [D.ev] using hj)
    simpa [G.BJ, Nat.add_assoc, Nat.add_comm 1 j] using this
   obtain ⟨xs, x1, x2, x3⟩ := Ga hres hus henv
   have apart : ∀ (s : Nat) (y : Row), (EH (Ba rows args) rows)[s]? = some y → (y.own = true ∨ B6 loc s y) → rows[s]? = some y ∧ ¬ Cu rows loc B (Ba rows args) (loc s).blk := fun s y hs hy => by
    rcases NK hs with rfl | ⟨hn, hs'⟩
    ·rcases hy with hy | ⟨_, hy, _⟩ <;> simp [Row.dead] at hy
    ·refine ⟨hs', fun hk => ?_⟩
     have hown : B.own (loc s).blk := by
      rcases hy with hy | hy
      ·have := hR.row s y hs'
       unfold AH at this
       rw [if_pos hy] at this
       exact this.2.2.1
      ·exact (hR.Su hs' hy).2
     rcases hk with hk | ⟨r, hr, ⟨row, h1, h2⟩, h3⟩
     ·exact hown.2 hk
     ·have hne : s ≠ r := fun h0 => hn (h0 ▸ hr)
      rcases hy with hy | hy
      ·rcases h2 with h2 | h2
       ·exact hR.apart s r y row hs' h1 hy h2 hne h3
       ·exact hR.lapart r s row y h1 hs' h2 (.inl hy) h3.symm
      ·rcases h2 with h2 | h2
       ·exact hR.lapart s r y row hs' h1 hy (.inl h2) h3
       ·exact hR.lapart s r y row hs' h1 hy (.inr ⟨h2, hne⟩) h3
   have hR1 := (hR.EH (l := Ba rows args)).To (F := Cu rows loc B (Ba rows args)) (fun k hk => .inl hk) (fun s y hs hy => (apart s y hs hy).2)
   have hle1 : Bd.le ⟨B.n, Cu rows loc B (Ba rows args)⟩ w := ⟨hBl.1, hsz⟩
   have hR2 := hR1.below hle1 hb
   let F' : Nat → Prop := fun k => Cu rows loc B (Ba rows args) k ∨ (w.heap.size ≤ k ∧ k < w'.heap.size)
   have hR3 := hR2.To (F := F') (fun k hk => .inl hk) (fun s y hs hy => by
    obtain ⟨q1, q2⟩ := apart s y hs hy
    have := hR.Co q1 hy
    rintro (h | h)
    ·exact q2 h
    ·omega)
   have hM : ∀ a u, Dy (fun k => Cu rows loc B (Ba rows args) k ∨ w.heap.size ≤ k) w' a = some u → Dy F' w' a = some u := fun a u hu => by
    obtain ⟨h1, h2⟩ := Ds hu
    refine DD h1 ?_
    rcases h2 with h2 | h2
    ·exact .inl h2
    ·exact .inr ⟨h2, World.block_lt_of_cell? w' _ h1⟩
   have hadd := hR3.OW (news := news) (vs := xs) (fun t row ht => by
    obtain ⟨v, v1, v2⟩ := x2 t row ht
    obtain ⟨f1, f2, q, as, m, f3, f4, f5, f6, f7, f8, f9⟩ := v2
    exact ⟨v, v1, f1, f2, q, as, m, f3, f4, f5, f6, f7, f8, f9.mono hM⟩)
   rw [FN] at hadd
   refine ⟨_, rfl, CG loc rows.length xs, Cn _ _ _, by rw [List.length_append, FN]; omega, ?_, ⟨B.n, F'⟩, ⟨hBn, fun k hk => ?_, ⟨Nat.le_trans hBl.1 hb.size, fun k hk => ?_⟩⟩, hadd, hbel.trans (hb.mono (by rw [← hBn]; exact hBl.1))⟩
   ·exact GC (x3 _ _ (by rw [List.length_append, FN]; omega) fun t v ht => DY loc _ xs ht)
   ·rcases hk with (hk | ⟨r, _, ⟨row, h1, h2⟩, rfl⟩) | hk
    ·exact hBF k hk
    ·refine .inr ?_
     rcases h2 with h2 | h2
     ·have := hR.row r row h1
      unfold AH at this
      rw [if_pos h2] at this
      exact this.2.2.1.1
     ·exact (hR.Su h1 h2).2.1
    ·exact .inr (Nat.le_trans hBl.1 hk.1)
   ·rcases hk with hk | hk
    ·exact Nat.lt_of_lt_of_le (hsz k hk) hb.size
    ·exact hk.2
  ·simp only [Option.bind_eq_some_iff, Option.some.injEq, Prod.mk.injEq] at hcall
   obtain ⟨⟨ps, news, b⟩, hres, hv', hr', hg'⟩ := hcall
   dsimp only at hres hv' hr' hg'
   subst hv' hr' hg'
   have hmust := As hg
   have hgood := Dh hmust.1
   obtain ⟨fa1, fa2⟩ := DG hls hgood.1
   refine ⟨fa1, fun loc vs w hpc hvs hw => ?_⟩
   have hpre : (T c.f (ls.map (L.ev e))).1 = true := by
    have h1 := hmust.2 hpc
    have h2 := hgood.2 0 _ rfl
    simp only [G.BJ, Nat.add_zero] at h2
    rw [L.Ak, h2] at h1
    exact h1
   have hw2 := hw
   obtain ⟨B, ⟨hBn, hBF, hBl⟩, hR, hbel⟩ := hw
   have hcov : TB rows loc w B (Dy (fun k => k < w.heap.size) w) (Ba rows args) :=
    ⟨Gr hBl.2 (fun _ _ => rfl), fun r hr hrow o u hu => DD hu (World.block_lt_of_cell? w _ hu)⟩
   refine (hbig (ls.map OD) (ls.map (L.ev e)) vs w _ (hT.on hbel) (fun _ h => h) (by simpa using hok) (KQ ls) (fa2 loc w vs B _ hR hcov hvs) hpre).mono ?_
   rintro en w' ⟨us, rfl, hus, hb⟩
   have henv : ∀ j a, (T c.f (ls.map (L.ev e))).2[j]? = some a → e (g0.next + 1 + j) = a := fun j a hj => by
    have := hgood.2 (j + 1) a (by simpa [D.ev] using hj)
    simpa [G.BJ, Nat.add_assoc, Nat.add_comm 1 j] using this
   have hw' := hw2.Ij hb
   rcases G7 hres hus henv with ⟨rfl, hq⟩ | ⟨q, x, rfl, m1, m2, m3, m4⟩
   ·refine ⟨_, rfl, loc, AO.refl _ _, by simp, ?_, by simpa using hw'⟩
    exact GC (hq _ _)
   ·refine ⟨_, rfl, AN loc rows.length x, Bi _ _ _, by simp, ?_, B, ⟨hBn, hBF, hBl.mono hb.size⟩, ?_, hw'.bel⟩
    ·exact GC (m4 _ _ (by simp) (Ap _ _ _))
    ·refine (hR.below hBl hb).SG m1 (fun hx s y hs ho => ?_) (m3 _ _ _ hBl (Ap _ _ _))
     have := hR.Co hs ho
     have := m2 hx
     omega
theorem G8 {f : Nat} {args : List PV} {v : SV} {rows' : List Row} {g' : G} : ∀ {l : List (Nat × WQ)}, SM P T l → O1 P w0.w → OE f args rows pc g l = some (v, rows', g') → Good T e g' →
  Good T e g ∧ ∀ (loc : Loc) (vs : List Value) (w : World), (pc.ev e).bool = true → AA e rows.length loc args vs → Bn e w0 loc rows w →
   Calls P f vs.toArray w fun en w' => ∃ u, en = .returned u ∧ ∃ loc', AO rows.length loc loc' ∧ rows.length ≤ rows'.length ∧ v.rel e rows'.length loc' u ∧ Bn e w0 loc' rows' w'
 | (f', c) :: l, hC, hT, h, hg => by
  unfold OE at h
  have hl : SM P T l := fun x hx => hC x (by simp [hx])
  split at h
  ·rename_i hf
   have hf : f' = f := by simpa using hf
   subst hf
   obtain ⟨h1, h2⟩ := hC (f', c) (by simp)
   simp only at h1 h2
   subst h1
   split at h
   ·rename_i r hr
    injection h with h
    subst h
    exact QN h2 hT hr hg
   ·exact G8 hl hT h hg
  ·exact G8 hl hT h hg
end
end Rx
namespace Rx
open Go Go.RowKit
section
variable {P : Program} {l : List Oper} {n : Nat} {Cl : World → Prop}
theorem It (h : Sl (l.take n) = true) {j : Nat} {o : Oper} (hj : j < n) (ho : l[j]? = some o) : ∀ e ∈ o.after, Region.binds .any e = true → e.on < j := by
 intro e he hb
 simp only [Sl, List.all_eq_true, Bool.or_eq_true, Bool.not_eq_true', decide_eq_true_eq] at h
 have hm : (o, j) ∈ (l.take n).zipIdx := by
  rw [List.mem_zipIdx_iff_getElem?]
  simp only
  rw [List.getElem?_take_of_lt hj]
  exact ho
 exact (h _ hm e (by simpa using he)).resolve_left (by rw [hb]; simp)
theorem TL (h : Ol (l.take n) n = true) {j : Nat} {o : Oper} (hj : j < n) (ho : l[j]? = some o) (tmps : Array Value) :
  Region.wanted o (yielded (l.take n).toArray tmps) = Region.wanted o (yielded l.toArray tmps) := by
 simp only [Ol, List.all_eq_true] at h
 have hm : o ∈ l.take n := List.mem_of_getElem? (i := j) (by rw [List.getElem?_take_of_lt hj]; exact ho)
 have := h o hm
 unfold Region.wanted
 cases hg : o.guard with
 | none => rfl
 | some x =>
  obtain ⟨i, want⟩ := x
  rw [hg] at this
  have hi : i < n := by simpa using this
  simp only [yielded]
  rw [show ((l.take n).toArray)[i]? = (l.toArray)[i]? by simp [List.getElem?_take_of_lt hi]]
theorem TM {l : List Bool} (h : l.count false = 0) : ∀ i, i < l.length → l[i]? = some true := by
 intro i hi
 cases hb : l[i]? with
 | none => rw [List.getElem?_eq_none_iff] at hb; omega
 | some b =>
  cases b with
  | true => rfl
  | false => exact absurd (List.mem_of_getElem? hb) (List.count_eq_zero.1 h)
theorem NT {l : List Bool} {k : Nat} (h : l.count false = k + 1) : ∃ i, i < l.length ∧ l[i]? = some false ∧ ∀ j, j < i → l[j]? = some true := by
 induction l generalizing k with
 | nil => simp at h
 | cons b l ih =>
  cases b with
  | false => exact ⟨0, by simp, rfl, fun j hj => by omega⟩
  | true =>
   have h' : l.count false = k + 1 := by simpa using h
   obtain ⟨i, h1, h2, h3⟩ := ih h'
   refine ⟨i + 1, by simp [h1], by simpa using h2, fun j hj => ?_⟩
   cases j with
   | zero => rfl
   | succ j => simpa using h3 j (by omega)
structure XP (n : Nat) (listed listed' : Array Bool) : Prop where
 size : listed'.size = n
 le : n ≤ listed.size
 same : ∀ i, i < n → listed'[i]? = listed[i]?
theorem XP.getD {n : Nat} {a b : Array Bool} (h : XP n a b) {i : Nat} (hi : i < n) (d : Bool) : b.getD i d = a.getD i d := by
 have := h.same i hi
 simp only [Array.getD_eq_getD_getElem?, this]
theorem XP.set {n : Nat} {a b : Array Bool} (h : XP n a b) (i : Nat) : XP n (a.setIfInBounds i true) (b.setIfInBounds i true) :=
 ⟨by simp [h.size], by simp [h.le], fun j hj => by
  rw [Array.getElem?_setIfInBounds, Array.getElem?_setIfInBounds]
  have h1 := h.size
  have h2 := h.le
  split
  ·rename_i hij
   subst hij
   rw [if_pos (by omega), if_pos (by omega)]
  ·exact h.same j hj⟩
theorem O6 {Q' : Exit → Act → World → Prop} {Q1 : Act → Prop} {g : Nat} (hs : Region.sinkB .any l.toArray n = true) (hc : Region.chainB .any l.toArray n = true) (hn : n < l.length)
  (he : Sl (l.take n) = true) (hgd : Ol (l.take n) n = true)
  (hQ : ∀ listed a w, Cl w → (∀ i, i < n → listed[i]? = some true) → HeadInv .any l.toArray n listed → Q1 a → wpAny P .any l.toArray Q' g listed a w) :
  ∀ (f : Nat) (listed listed' : Array Bool) (a : Act) (w : World), HeadInv .any l.toArray n listed → XP n listed listed' → listed'.toList.count false = f → Cl w →
   wpAnyQ P .any (l.take n).toArray Cl Q1 f listed' a → wpAny P .any l.toArray Q' (f + g) listed a w
 | 0, listed, listed', a, w, inv, sm, hcount, hw, h => by
  rw [Nat.zero_add]
  refine hQ listed a w hw (fun i hi => ?_) inv h.2
  rw [← sm.same i hi]
  have := TM hcount i (by simp [sm.size, hi])
  simpa using this
 | f + 1, listed, listed', a, w, inv, sm, hcount, hw, h => by
  obtain ⟨k, k1, k2, k3⟩ := NT hcount
  have hkn : k < n := by simpa [sm.size] using k1
  have hunk : listed.getD k true = false := by
   rw [← sm.getD hkn, Array.getD_eq_getD_getElem?]
   have : listed'[k]? = some false := by simpa using k2
   rw [this]; rfl
  have hready : ∀ i, i < n → (i ∈ Region.ready .any l.toArray listed ↔ i ∈ Region.ready .any (l.take n).toArray listed') := fun i hi => by
   rw [mem_ready, mem_ready, sm.getD hi]
   have e1 : ((l.take n).toArray)[i]? = (l.toArray)[i]? := by simp [List.getElem?_take_of_lt hi]
   rw [e1]
   constructor
   ·rintro ⟨a1, o, ho, a2⟩
    refine ⟨a1, o, ho, fun e hee hb => ?_⟩
    have := It he hi (by simpa using ho) e hee hb
    rw [sm.getD (by omega)]
    exact a2 e hee hb
   ·rintro ⟨a1, o, ho, a2⟩
    refine ⟨a1, o, ho, fun e hee hb => ?_⟩
    have := It he hi (by simpa using ho) e hee hb
    rw [← sm.getD (by omega)]
    exact a2 e hee hb
  have hk : k ∈ Region.ready .any l.toArray listed := by
   rw [mem_ready]
   have hlt : k < l.length := by omega
   refine ⟨hunk, l[k], by simp [hlt], fun e hee hb => ?_⟩
   have hlt2 := It he hkn (show l[k]? = some l[k] by simp [hlt]) e hee hb
   rw [← sm.getD (by omega), Array.getD_eq_getD_getElem?]
   have : listed'[e.on]? = some true := by simpa using k3 e.on hlt2
   rw [this]; rfl
  rw [show f + 1 + g = (f + g) + 1 by omega]
  refine ⟨fun h0 => (by rw [h0] at hk; cases hk), fun i hi => ?_⟩
  have hin : i < n := by
   rcases Nat.lt_or_ge i n with h' | h'
   ·exact h'
   ·exact absurd hi (tail_waits hs hc (by simpa using hn) inv _ k rfl hkn hunk i h')
  have hq := h.2 i ((hready i hin).1 hi)
  have e1 : ((l.take n).toArray)[i]? = (l.toArray)[i]? := by simp [List.getElem?_take_of_lt hin]
  have hun := (mem_ready.1 hi).1
  have hcount' : (listed'.setIfInBounds i true).toList.count false = f := by
   have hlen : i < listed'.toList.length := by simp [sm.size, hin]
   have hf : listed'.toList[i] = false := by
    have : listed'.getD i true = false := by rw [sm.getD hin]; exact hun
    rw [Array.getD_eq_getD_getElem?, Array.getElem?_eq_getElem (by simpa using hlen)] at this
    simpa using this
   rw [Array.toList_setIfInBounds, List.count_set hlen, hf, hcount]
   simp
  have ih := fun a' w' hw' => O6 hs hc hn he hgd hQ f (listed.setIfInBounds i true) (listed'.setIfInBounds i true) a' w' (inv.set hi hin) (sm.set i) hcount' hw'
  unfold qOp at hq
  unfold wpOp
  rw [e1] at hq
  have hlt : i < l.length := by omega
  have ho : (l.toArray)[i]? = some l[i] := by simp [hlt]
  rw [ho] at hq ⊢
  simp only at hq ⊢
  rw [TL hgd hin (show l[i]? = some l[i] by simp [hlt])] at hq
  split
  ·rename_i hwt
   rw [if_pos hwt] at hq
   exact .inl (Oper.wp_of_quiet hw (fun a' w' hw' hk' => ih a' w' hw' hk') hq)
  ·rename_i hwt
   rw [if_neg hwt] at hq
   exact ih _ w hw hq
theorem NU {id : Nat} {Q : Exit → Act → World → Prop} {a : Act} {w : World} (hm : P.follows .mixedOrders = true) (hB : U4 l n = true) (hC : Cl { w with drawn := w.drawn + 1 })
  (h : wpQuiet P (l.take n).toArray Cl (fun a' => ∀ w', Cl w' → wpList P l.toArray Q (l.drop n) a' w') (l.take n) a) : (Code.region id l.toArray true).wp P Q a w := by
 simp only [U4, Bool.and_eq_true, decide_eq_true_eq] at hB
 obtain ⟨⟨⟨⟨⟨⟨hn, hs⟩, hc⟩, he⟩, hgd⟩, hlex⟩, hseq⟩ := hB
 simp only [Region.lexB, Bool.and_eq_true] at hlex
 have htl : (l.take n).length = n := by simp; omega
 refine wp_region_any hm ?_
 have hpre := wpAnyQ_lex (P := P) (C := Cl) (md := .any) (ops := (l.take n).toArray) hlex.1 (l.take n) 0 (Array.replicate n false) a (by simp) (by
  have := hlex.2
  simpa [htl, Nat.min_eq_left (Nat.le_of_lt hn)] using this) h
 rw [htl] at hpre
 have inv0 : HeadInv .any l.toArray n (Array.replicate l.toArray.size false) :=
  ⟨by simp, fun j oj _ hl => (by rw [getD_replicate_false] at hl; cases hl), fun t _ ht => getD_in (by simpa using ht) (getD_replicate_false _ _)⟩
 have := O6 (P := P) (Q' := Q) (g := l.length - n) hs hc hn he hgd (fun listed a' w' hw' hall inv hq => by
  have hlist : listed = Array.replicate n true ++ Array.replicate (l.length - n) false := by
   have hsz : listed.size = l.length := by simpa using inv.size
   apply Array.ext_getElem?
   intro i
   by_cases hi : i < n
   ·rw [hall i hi, Array.getElem?_append_left (by simpa using hi)]
    simp [hi]
   ·by_cases hi2 : i < l.length
    ·have := inv.tail i (by omega) (by simpa using hi2)
     rw [Array.getD_eq_getD_getElem?, Array.getElem?_eq_getElem (by omega)] at this
     rw [Array.getElem?_append_right (by simp; omega), Array.getElem?_eq_getElem (by omega)]
     simp only [Option.getD_some] at this
     rw [this]
     rw [Array.size_replicate, Array.getElem?_replicate, if_pos (by omega)]
    ·rw [Array.getElem?_eq_none (by omega), Array.getElem?_eq_none (by simp; omega)]
  subst hlist
  have := wpAny_of_seq (P := P) (md := .any) (Q' := Q) (ops := l.toArray) (l.drop n) n _ a' w' (fun j => by simp [List.getElem?_drop]) (by simpa using hseq) (hq w' hw')
  simpa using this) n _ _ a { w with drawn := w.drawn + 1 } inv0 ⟨by simp, by simp; omega, fun i hi => by
   rw [Array.getElem?_replicate, Array.getElem?_replicate, if_pos hi, if_pos (by simp; omega)]⟩ (by simp) hC hpre
 rw [show n + (l.length - n) = l.toArray.size by simp; omega] at this
 exact this
end
end Rx
