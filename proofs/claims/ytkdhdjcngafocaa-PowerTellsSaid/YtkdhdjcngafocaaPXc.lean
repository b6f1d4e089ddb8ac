import Derived.Test.YtkdhdjcngafocaaPXb
import Derived.OpenShut
import Derived.Deep.Slices
import Derived.KernelRfl
set_option linter.unusedVariables false
set_option linter.unusedSimpArgs false
namespace Rx
open Go Go.RowKit
section
variable {T : Nat → List A → Bool × List A} {e : Nat → A} {n n' : Nat} {loc loc' : Loc} {P : Program} {X : Ctx} {w0 : W0}
variable {fr : List SV} {rows : List Row} {gs : List (L × Bool)} {pc : L} {o : Oper} {g : G} {inl : Inline}
structure XOK (P : Program) (T : Nat → List A → Bool × List A) (X : Ctx) : Prop where
 Aw : BE P X.Aw
 eqs : S4 P X.eqs
 ctr : Jf P T X.ctr
 fns : QM P X.fns
 mixed : P.follows .mixedOrders = true
 big : P3 P T X.big
 muts : R1 P T X.muts := by exact R2
theorem W6 (hX : XOK P T X) (hI : HC P T e w0 inl) (o : Oper) : A5 P T e w0 fr rows gs pc o g (execOp X inl fr rows gs pc o g) := by
 have none_ : execOp X inl fr rows gs pc o g = none → A5 P T e w0 fr rows gs pc o g (execOp X inl fr rows gs pc o g) := fun h => by rw [h]; trivial
 cases h : o.op with
 | move x => exact S3 (.inl h)
 | assign x => exact S3 (.inr h)
 | pick c a b => exact Wk h
 | alloc t => exact U8 hX.Aw h
 | box t x => exact Xm hX.Aw h
 | build t ps => exact U7 hX.Aw h
 | buildSlice t n ps =>
  by_cases hn : n = 0
  ·subst hn; exact MQ hX.Aw h
  ·exact N5 hX.Aw hn h
 | load t a => exact Wn hX.Aw h
 | store t a x => exact Va hX.Aw h
 | nilCheck x => exact QH h
 | binOp op t x y yt => exact U2 hX.Aw hX.eqs h
 | unOp op t x => exact Wl h
 | convert s d x => exact RY hX.Aw h
 | makeFunc f a b =>
  cases f with
  | func f => exact QK h
  | _ => exact none_ (by simp [execOp, h])
 | makeSlice t x y => exact PZ hX.Aw h
 | panic x => exact U4 h
 | makeInterface t x => exact KB hX.Aw h
 | slice t x lo hi mx =>
  cases mx with
  | none => exact Vc hX.Aw h
  | some _ => exact none_ (by simp [execOp, h])
 | fieldAddr s x f => exact PW hX.Aw h
 | field t x f => exact U3 hX.Aw h
 | indexAddr t x i => exact PX hX.Aw h
 | index t x i => exact U6 hX.Aw h
 | extract x i => exact RV h
 | call c => exact Wq hX.Aw hX.ctr hX.fns hI h
 | _ => exact none_ (by simp [execOp, h])
def Gp : Value → Option Bool
 | .bool b => some b
 | _ => none
theorem R6 {ops : List Oper} {tm : Array Value} {j : Nat} {oj : Oper} {d : Nat} {s : SV} (h1 : ops[j]? = some oj) (h2 : oj.dst = some d) (h3 : fr[d]? = some s) (hf : An e n loc fr tm) :
  ∃ v, s.rel e n loc v ∧ yielded ops.toArray tm j = Gp v := by
 obtain ⟨v, hv, _, hr⟩ := hf.get h3
 refine ⟨v, hr, ?_⟩
 have h1' : ops.toArray[j]? = some oj := by simpa using h1
 unfold yielded
 rw [h1']
 simp only [Option.bind_some, h2, hv]
 cases v <;> rfl
theorem BY {ops : List Oper} {tm : Array Value} {r : Option (List (L × Bool))} (h : PB fr ops o = some r) (hf : An e n loc fr tm) :
  match r with
  | none => Region.wanted o (yielded ops.toArray tm) = false
  | some gs => (Region.wanted o (yielded ops.toArray tm) = true ↔ AK e gs) := by
 unfold PB at h
 cases hg : o.guard with
 | none =>
  rw [hg] at h
  injection h with h
  subst h
  simp only [Region.wanted, hg, true_iff]
  intro x hx
  cases hx
 | some jw =>
  obtain ⟨j, want⟩ := jw
  rw [hg] at h
  simp only [Option.bind_eq_bind, Option.bind_eq_some_iff] at h
  obtain ⟨oj, hoj, d, hd, s, hs, h⟩ := h
  obtain ⟨v, hv, hy⟩ := R6 hoj hd hs hf
  have hwt : Region.wanted o (yielded ops.toArray tm) = (Gp v == some want) := by
   simp only [Region.wanted, hg, hy]
  rw [hwt]
  split at h
  ·injection h with h
   subst h
   simp only [SV.rel] at hv
   subst hv
   rfl
  ·rename_i b
   injection h with h
   have := Eo (x := .t b) hv
   subst this
   subst h
   simp only [L.A3, A.At]
   cases b <;> cases want <;> simp [AK, Gp]
  ·rename_i x _
   injection h with h
   have := Eo hv
   subst this
   subst h
   simp [AK, Gp]
  ·rename_i gs b
   by_cases hh : AK e gs
   ·have := Eo (x := .t b) (hv.1 hh)
    subst this
    simp only [L.A3, A.At]
    split at h
    ·rename_i hb
     injection h with h
     subst h
     have hb : b = want := by simpa using hb
     subst hb
     simp [hh, Gp]
    ·rename_i hb
     injection h with h
     subst h
     simpa [Gp] using hb
   ·have := hv.2 hh
    subst this
    split at h
    ·injection h with h
     subst h
     simp [hh, Go.undef, Gp]
    ·injection h with h
     subst h
     rfl
  ·rename_i gs x _
   injection h with h
   subst h
   by_cases hh : AK e gs
   ·have := Eo (hv.1 hh)
    subst this
    simp only
    constructor
    ·intro h1
     exact Jc (by simpa [Gp] using h1) hh
    ·intro h1
     simpa [Gp] using h1 (x, want) (by simp)
   ·have := hv.2 hh
    subst this
    constructor
    ·intro h1
     cases h1
    ·intro h1
     exact absurd (fun y hy => h1 y (List.mem_cons_of_mem _ hy)) hh
  ·cases h
theorem FU {v v' : SV} {u : Value} (h : UN gs v = some v') (hv : AK e gs → v.rel e n loc u) (hu : ¬ AK e gs → u = Go.undef) : v'.rel e n loc u := by
 unfold UN at h
 split at h
 ·injection h with h
  subst h
  exact hv (fun x hx => by cases hx)
 ·injection h with h
  subst h
  exact ⟨hv, hu⟩
 ·cases h
theorem P4 {p : L} {r r' : Row} {g g' : G} (h : PC p r g = some (r', g')) (hg : Good T e g') :
  Good T e g ∧ (∃ ss z m, r' = BD ss z m) ∧ ((p.ev e).bool = true → MF e r r') ∧ ((p.ev e).bool = false → ∀ M, Er e M r' (.slice none 0 0)) := by
 unfold PC at h
 split at h
 ·rename_i q hq
  split at h
  ·cases h
  ·rename_i hc
   simp only [Bool.or_eq_true, Bool.not_eq_true', beq_iff_eq, bne_iff_ne, ne_eq, not_or, Bool.not_eq_true, Bool.not_eq_false, Decidable.not_not] at hc
   obtain ⟨⟨⟨⟨c1, c2⟩, c3⟩, c4⟩, c5⟩ := hc
   simp only [Option.some.injEq, Prod.mk.injEq] at h
   obtain ⟨rfl, rfl⟩ := h
   have m1 := CH hg
   have m2 := Hq m1.1
   refine ⟨m2.1, ⟨_, _, _, rfl⟩, fun hp => ⟨fun h => by simp [BD] at h, fun _ _ => rfl, fun p' hp' => ?_, fun n loc w B s _ => ?_⟩, fun hp M => ?_⟩
   ·simp only [BD, Option.some.injEq] at hp'
    subst hp'
    exact ⟨q, hq, c3.symm, c5.symm, rfl, by rw [m2.2]; simp [hp], by rw [m1.2]; simp [hp]⟩
   ·unfold AA; simp [BD]
   ·exact ⟨rfl, rfl, _, [], 0, rfl, rfl, Nat.pos_of_ne_zero c4, by rw [m2.2]; simp [hp], by simp, by rw [m1.2]; simp [hp], .emp⟩
 ·cases h
theorem IJ {p : L} : ∀ {l l' : List Row} {g g' : G}, Hn p l g = some (l', g') → Good T e g' →
  Good T e g ∧ l'.length = l.length ∧ ∀ (t : Nat) x', l'[t]? = some x' → (∃ ss z m, x' = BD ss z m) ∧ ((p.ev e).bool = true → ∃ x, l[t]? = some x ∧ MF e x x') ∧ ((p.ev e).bool = false → ∀ M, Er e M x' (.slice none 0 0))
 | [], l', g, g', h, hg => by
  simp only [Hn, Option.some.injEq, Prod.mk.injEq] at h
  obtain ⟨rfl, rfl⟩ := h
  exact ⟨hg, rfl, fun t x' h => by simp at h⟩
 | r :: l, l', g, g', h, hg => by
  simp only [Hn, Option.bind_eq_bind, Option.bind_eq_some_iff, Option.some.injEq, Prod.mk.injEq] at h
  obtain ⟨⟨r', g1⟩, h1, ⟨l1, g2⟩, h2, rfl, rfl⟩ := h
  obtain ⟨k1, k2, k3⟩ := IJ h2 hg
  obtain ⟨j1, j2⟩ := P4 h1 k1
  refine ⟨j1, by simp [k2], fun t x' ht => ?_⟩
  cases t with
  | zero =>
   simp only [List.getElem?_cons_zero, Option.some.injEq] at ht
   subst ht
   exact ⟨j2.1, fun hp => ⟨r, rfl, j2.2.1 hp⟩, j2.2.2⟩
  | succ t => simpa using k3 t x' (by simpa using ht)
section
variable {news : List Row} {w : World} {B : Bd} {N : Nat}
theorem OX (hf : ∀ (t : Nat) x, news[t]? = some x → ∃ ss z m, x = BD ss z m) (hR : Ad e loc (rows ++ news) w B) {k : K} {v : Value} (hk : k.rel e N loc v) : (OK rows.length news k).rel e N loc v := by
 unfold OK
 split
 ·rename_i r n
  split
  ·exact hk
  ·rename_i hr
   split
   ·rename_i row hrow
    split
    ·rename_i q hq
     obtain ⟨ss, z, m, rfl⟩ := hf _ _ hrow
     simp only [BD, Option.some.injEq] at hq
     subst hq
     have hrow' : (rows ++ news)[r]? = some (BD ss z m) := by rw [List.getElem?_append_right (by omega)]; exact hrow
     obtain ⟨as, m', _, _, l3, _, l5⟩ := (hR.lst r _ _ hrow' rfl).2
     rw [if_neg (by simp)] at l5
     obtain ⟨⟨a, c, g1, _⟩, _⟩ := l5
     obtain ⟨h1, h2, h3⟩ := hk
     refine ⟨⟨h1.1, by rw [l3]; omega, a, c, by rw [l3]; simpa using g1⟩, h2, .inr ?_⟩
     rcases h3 with h3 | h3
     ·cases h3
     ·exact h3
    ·exact K.BU hk
   ·exact K.BU hk
 ·exact hk
theorem Jh (hf : ∀ (t : Nat) x, news[t]? = some x → ∃ ss z m, x = BD ss z m) (hR : Ad e loc (rows ++ news) w B) : ∀ {l : List K} {vs : List Value}, Cr e N loc l vs → Cr e N loc (l.map (OK rows.length news)) vs
 | [], [], _ => trivial
 | _ :: _, _ :: _, h => ⟨OX hf hR h.1, Jh hf hR h.2⟩
theorem OY (hf : ∀ (t : Nat) x, news[t]? = some x → ∃ ss z m, x = BD ss z m) (hR : Ad e loc (rows ++ news) w B) {c : C} {v : Value} (hk : c.rel e N loc v) : (SR rows.length news c).rel e N loc v := by
 cases c with
 | k x => exact OX hf hR hk
 | clo f a b =>
  obtain ⟨va, vb, h1, h2, h3⟩ := hk
  exact ⟨va, vb, h1, Jh hf hR h2, Jh hf hR h3⟩
 | cfn x f h => exact hk
theorem MV (hf : ∀ (t : Nat) x, news[t]? = some x → ∃ ss z m, x = BD ss z m) (hR : Ad e loc (rows ++ news) w B) : ∀ {l : List C} {vs : List Value}, Ag e N loc l vs → Ag e N loc (l.map (SR rows.length news)) vs
 | [], [], _ => trivial
 | _ :: _, _ :: _, h => ⟨OY hf hR h.1, MV hf hR h.2⟩
theorem R7 (hf : ∀ (t : Nat) x, news[t]? = some x → ∃ ss z m, x = BD ss z m) (hR : Ad e loc (rows ++ news) w B) {p : PV} {v : Value} (hk : p.rel e N loc v) : (UO rows.length news p).rel e N loc v := by
 cases p with
 | one c => exact OY hf hR hk
 | agg l => obtain ⟨vs, h1, h2⟩ := hk; exact ⟨vs, h1, MV hf hR h2⟩
end
theorem Ji : ∀ {a b : List C}, IX a b = true → a = b
 | [], [], _ => rfl
 | [], _ :: _, h => by simp [IX] at h
 | _ :: _, [], h => by simp [IX] at h
 | a :: l, b :: m, h => by
  simp only [IX, Bool.and_eq_true] at h
  rw [C.Ae h.1, Ji h.2]
theorem MW : ∀ {a b : Option F5}, Ic a b = true → a = b
 | none, none, _ => rfl
 | none, some _, h => by simp [Ic] at h
 | some _, none, h => by simp [Ic] at h
 | some ⟨a1, a2, a3, a4, a5⟩, some ⟨b1, b2, b3, b4, b5⟩, h => by
  simp only [Ic, Bool.and_eq_true, beq_iff_eq] at h
  obtain ⟨⟨⟨⟨h1, h2⟩, h3⟩, h4⟩, h5⟩ := h
  rw [h1, h2, BI h3, L.Ae h4, L.Ae h5]
theorem ET : ∀ {a b : List Row}, DA a b = true → a = b
 | [], [], _ => rfl
 | [], _ :: _, h => by simp [DA] at h
 | _ :: _, [], h => by simp [DA] at h
 | ⟨a1, a2, a3, a4, a5⟩ :: l, ⟨b1, b2, b3, b4, b5⟩ :: m, h => by
  simp only [DA, Bool.and_eq_true, beq_iff_eq] at h
  obtain ⟨⟨⟨⟨⟨h1, h2⟩, h3⟩, h4⟩, h6⟩, h5⟩ := h
  rw [h1, h2, h3, Ji h4, MW h6, ET h5]
theorem TL {v : SV} {rows' : List Row} {g' : G} (hl : My o = true) (h : execOp X inl fr rows gs pc o g = some (v, some rows', g')) : ∃ news, rows' = rows ++ news := by
 obtain ⟨dst, op', ty, pos, after, guard⟩ := o
 unfold My at hl
 simp only at hl
 split at hl
 ·rename_i t x
  simp only [execOp, Option.bind_eq_bind, Option.bind_eq_some_iff] at h
  obtain ⟨ty', _, p, _, h⟩ := h
  unfold UI at h
  split at h
  ·simp only [Option.bind_eq_bind, Option.bind_eq_some_iff] at h
   obtain ⟨_, _, _, _, h⟩ := h
   split at h
   ·cases h
   ·simp only [Option.bind_eq_some_iff, one, Option.some.injEq, Prod.mk.injEq] at h
    obtain ⟨_, _, _, h, _⟩ := h
    cases h
  ·simp only [Option.bind_eq_bind, Option.bind_eq_some_iff, one, Option.some.injEq, Prod.mk.injEq] at h
   obtain ⟨_, _, _, _, _, _, _, h, _⟩ := h
   cases h
  ·simp only [Option.bind_eq_bind, Option.bind_eq_some_iff] at h
   obtain ⟨_, _, _, _, h⟩ := h
   split at h
   ·cases h
   ·simp only [Option.bind_eq_some_iff] at h
    obtain ⟨⟨cs, news, g2⟩, _, vv, _, h⟩ := h
    simp only at h
    split at h
    ·simp only [one, Option.some.injEq, Prod.mk.injEq] at h
     obtain ⟨_, h, _⟩ := h
     cases h
    ·simp only [Option.some.injEq, Prod.mk.injEq] at h
     exact ⟨news, h.2.1.symm⟩
  ·cases h
 ·cases hl
theorem Ad.pad {rows : List Row} {w : World} {B : Bd} (h : Ad e loc rows w B) (R : Nat) : Ad e loc (Au rows R) w B := by
 have split_ : ∀ (s : Nat) (y : Row), (Au rows R)[s]? = some y → rows[s]? = some y ∨ y = Row.dead := fun s y hs => by
  unfold Au at hs
  rw [List.getElem?_append] at hs
  split at hs
  ·exact .inl hs
  ·have := List.mem_of_getElem? hs
   rw [List.mem_replicate] at this
   exact .inr this.2
 have own_ : ∀ (s : Nat) (y : Row), (Au rows R)[s]? = some y → (y.own = true ∨ y.lst ≠ none) → rows[s]? = some y := fun s y hs hy => by
  rcases split_ s y hs with h1 | rfl
  ·exact h1
  ·simp [Row.dead] at hy
 refine ⟨fun s y hs => ?_, fun s y q hs hq => h.lst s y q (own_ s y hs (.inr (by simp [hq]))) hq, fun s t x y hs ht ox oy => ?_, fun s t x y hs ht ox oy hne => h.apart s t x y (own_ s x hs (.inl ox)) (own_ t y ht (.inl oy)) ox oy hne⟩
 ·rcases split_ s y hs with h1 | rfl
  ·exact (h.row s y h1).ext (Ab h1) (AG.refl _ _) (by simp [Au])
  ·exact Row.PN
 ·obtain ⟨q, q1, q2, q3⟩ := ox
  refine h.lapart s t x y (own_ s x hs (.inr (by simp [q1]))) (own_ t y ht ?_) ⟨q, q1, q2, q3⟩ oy
  rcases oy with oy | ⟨⟨p, p1, _⟩, _⟩
  ·exact .inl oy
  ·exact .inr (by simp [p1])
theorem OZ {kd : IntKind} {n : Nat} : ∀ {cs : List C} {xs : List L} {vs : List Value}, Qw kd cs = some xs → Ag e n loc cs vs → xs.length = cs.length ∧ vs = xs.map fun x => Value.int kd (x.ev e).int
 | [], xs, vs, h, hr => by
  simp only [Qw, Option.some.injEq] at h
  subst h
  match vs, hr with
  | [], _ => exact ⟨rfl, rfl⟩
 | c :: l, xs, vs, h, hr => by
  match c, h with
  | .k (.int k x), h =>
   unfold Qw at h
   split at h
   ·rename_i hk
    split at h
    ·rename_i r hr'
     simp only [Option.some.injEq] at h
     subst h
     match vs, hr with
     | v :: vs, hr =>
      obtain ⟨h1, h2⟩ := OZ hr' hr.2
      have hv : v = Value.int k (x.ev e).int := by
       rcases hr.1.2.2 with h3 | h3
       ·cases h3
       ·exact h3
      rw [Bc hk] at hv
      exact ⟨by simp [h1], by rw [hv, h2]; rfl⟩
    ·cases h
   ·cases h
theorem Oc {v0 v : SV} {rows1 rows' : List Row} {g1 g' : G} (h : PD rows rows1 gs v0 g1 = some (v, rows', g')) (hg : Good T e g') :
  Good T e g1 ∧ rows.length ≤ rows'.length ∧
  (AK e gs → ∀ (loc : Loc) (w : World) u, v0.rel e rows1.length loc u → A8 e w0 loc rows1 w → ∃ loc', AG rows.length loc loc' ∧ v.rel e rows'.length loc' u ∧ A8 e w0 loc' rows' w) ∧
  (¬ AK e gs → ∀ (loc : Loc) (w : World), A8 e w0 loc rows w → ∃ loc', AG rows.length loc loc' ∧ v.rel e rows'.length loc' Go.undef ∧ A8 e w0 loc' rows' w) := by
 unfold PD at h
 split at h
 ·rename_i r m
  split at h
  ·cases h
  rename_i hc
  simp only [Bool.or_eq_true, bne_iff_ne, ne_eq, Bool.not_eq_true', not_or, Decidable.not_not, Bool.not_eq_false] at hc
  obtain ⟨⟨rfl, c2⟩, c3⟩ := hc
  have c2 := ET c2
  split at h
  ·cases h
  rename_i row hrow
  split at h
  ·cases h
  rename_i hd
  simp only [Bool.or_eq_true, bne_iff_ne, ne_eq, Bool.not_eq_true', not_or, Decidable.not_not, Bool.not_eq_false] at hd
  obtain ⟨⟨d1, d2⟩, d3⟩ := hd
  split at h
  ·cases h
  rename_i xs hxs
  simp only [Option.some.injEq, Prod.mk.injEq] at h
  obtain ⟨rfl, rfl, rfl⟩ := h
  have q1 := CH hg
  have q2 := Hq q1.1
  have q3 := Bu q2.1
  have q4 := Ah q3.1
  have ez := q4.2 (.l (xs.map (L.ev e))) (by simp [D.ev])
  have hrows1 : rows1 = rows ++ [row] := by
   apply List.ext_getElem?
   intro i
   by_cases hi : i < rows.length
   ·rw [List.getElem?_append_left hi]
    conv => rhs; rw [c2]
    rw [List.getElem?_take_of_lt hi]
   ·by_cases hi2 : i = rows.length
    ·subst hi2
     rw [hrow]
     simp
    ·rw [List.getElem?_eq_none (by omega), List.getElem?_eq_none (by simp; omega)]
  clear c2
  subst hrows1
  refine ⟨q4.1, by simp, fun hh loc w u hu hcl => ?_, fun hh loc w hcl => ?_⟩
  ·have hp := q3.2.2 ⟨rfl, hh⟩
   obtain ⟨B, ⟨b1, b2, b3⟩, hR, hbel⟩ := hcl
   have hown := hR.row rows.length row (by simp)
   unfold AA at hown
   rw [if_pos d1] at hown
   obtain ⟨o1, o2, o3, o4, vs, sp, o5, o6, o7⟩ := hown
   obtain ⟨_, hu⟩ := D1 hu
   have hK := hR.kill rows.length
   have hset : (rows ++ [row]).set rows.length Row.dead = rows ++ [Row.dead] := by simp
   rw [hset] at hK
   obtain ⟨x1, x2⟩ := OZ hxs o6
   have hW := hK.QE (F := fun k => B.F k ∨ k = (loc rows.length).blk) (fun k hk => .inl hk) (fun s z hs hz hF => by
    have hs2 : s < rows.length ∧ rows[s]? = some z := by
     rw [List.getElem?_append] at hs
     split at hs
     ·exact ⟨by assumption, hs⟩
     ·rename_i hge
      have : z = Row.dead := by
       have := List.mem_of_getElem? hs
       simpa using this
      subst this
      rcases hz with hz | ⟨q, hq, _⟩
      ·simp [Row.dead] at hz
      ·simp [Row.dead] at hq
    have hs3 : (rows ++ [row])[s]? = some z := by rw [List.getElem?_append_left hs2.1]; exact hs2.2
    have hr3 : (rows ++ [row])[rows.length]? = some row := by simp
    rcases hF with hF | hF
    ·rcases hz with hz | hz
     ·have := hR.row s z hs3
      unfold AA at this
      rw [if_pos hz] at this
      exact this.2.2.1.2 hF
     ·exact (hR.PL hs3 hz).2.2 hF
    ·rcases hz with hz | hz
     ·exact hR.apart s rows.length z row hs3 hr3 hz d1 (by omega) hF
     ·exact hR.lapart s rows.length z row hs3 hr3 hz (.inl d1) hF)
   have hvl : vs.length = m := by rw [x2, List.length_map, x1, d3]
   have hF : Er e (Cb ⟨B.n, fun k => B.F k ∨ k = (loc rows.length).blk⟩ w) (BD [.int (UP row.cells)] (E8 (AL (.t true) gs (g1.push .mkl xs).2).1 (g1.push .mkl xs).1 .e (AL (.t true) gs (g1.push .mkl xs).2).2).1
     (Ef (AL (.t true) gs (g1.push .mkl xs).2).1 (.n m) (.n 0) (E8 (AL (.t true) gs (g1.push .mkl xs).2).1 (g1.push .mkl xs).1 .e (AL (.t true) gs (g1.push .mkl xs).2).2).2).1) u := by
    refine ⟨rfl, rfl, _, xs.map (L.ev e), m, rfl, rfl, Nat.one_pos, by rw [q2.2, hp]; exact ez, by rw [List.length_map, x1, d3]; exact (Nat.mul_one m).symm, by rw [q1.2, hp]; rfl, ?_⟩
    rw [hu]
    refine Hh.sl (us := vs) Nat.one_pos (by rw [List.length_map, x1, d3]; exact (Nat.mul_one m).symm) (by rw [List.length_map, hvl, x1, d3]) (fun j v hj => ?_) fun j s a v h1 h2 h3 => ?_
    ·refine CX ?_ (.inr rfl)
     simp only [World.cell?, o5, o1, Nat.zero_mul, Nat.zero_add]
     have hjl := Ab hj
     simp only [Option.isSome_none, Bool.false_eq_true, if_false]
     rw [List.getElem?_toArray, List.getElem?_append_left hjl]
     exact hj
    ·simp only [List.length_cons, List.length_nil, Nat.zero_add, Nat.mod_one, List.getElem?_cons_zero, Option.some.injEq] at h1
     subst h1
     rw [x2, List.getElem?_map] at h3
     rw [List.getElem?_map] at h2
     cases hx : xs[j]? with
     | none => rw [hx] at h2; cases h2
     | some x =>
      rw [hx] at h2 h3
      simp only [Option.map_some, Option.some.injEq] at h2 h3
      subst h2 h3
      exact Hh.sc rfl
   have hlen : (rows ++ [Row.dead]).length = rows.length + 1 := by simp
   have hadd := hW.N4 (news := [BD [.int (UP row.cells)] _ _]) (vs := [u]) fun t x ht => by
    cases t with
    | zero =>
     simp only [List.getElem?_cons_zero, Option.some.injEq] at ht
     subst ht
     exact ⟨u, rfl, hF⟩
    | succ t => simp at ht
   rw [hlen] at hadd
   have hat := Ed loc (rows.length + 1) [u] (t := 0) rfl
   rw [Nat.add_zero] at hat
   refine ⟨CB loc (rows.length + 1) [u], fun r hr => Ce loc (rows.length + 1) [u] r (Nat.lt_succ_of_lt hr), ⟨fun _ => ?_, fun h0 => absurd hh h0⟩, ⟨B.n, fun k => B.F k ∨ k = (loc rows.length).blk⟩, ⟨b1, ?_, ?_⟩, hadd, hbel⟩
   ·refine ⟨⟨by simp, by rw [q1.2, hp]; exact Int.natCast_nonneg _, ?_⟩, by rw [hu]; rfl, .inr ?_⟩
    ·rw [hat, CA, q1.2, hp, hu]
     exact ⟨_, _, rfl⟩
    ·show _ = (CB loc (rows.length + 1) [u] (rows.length + 1)).v
     rw [hat, CA]
   ·intro k hk
    rcases hk with hk | hk
    ·exact b2 k hk
    ·exact .inr (hk ▸ o3.1)
   ·refine ⟨b3.1, fun k hk => ?_⟩
    rcases hk with hk | hk
    ·exact b3.2 k hk
    ·exact hk ▸ DY o5
  ·have hp : ((AL (.t true) gs (g1.push .mkl xs).2).1.ev e).bool = false := by
    cases hb : ((AL (.t true) gs (g1.push .mkl xs).2).1.ev e).bool
    ·rfl
    ·exact absurd (q3.2.1 hb).2 hh
   obtain ⟨B, hB, hR, hbel⟩ := hcl
   have hpd := hR.pad (rows.length + 1)
   have hpe : Au rows (rows.length + 1) = rows ++ [Row.dead] := by
    unfold Au
    rw [show rows.length + 1 - rows.length = 1 by omega]
    rfl
   rw [hpe] at hpd
   have hlen : (rows ++ [Row.dead]).length = rows.length + 1 := by simp
   have hadd := hpd.N4 (news := [BD [.int (UP row.cells)] (E8 (AL (.t true) gs (g1.push .mkl xs).2).1 (g1.push .mkl xs).1 .e (AL (.t true) gs (g1.push .mkl xs).2).2).1
     (Ef (AL (.t true) gs (g1.push .mkl xs).2).1 (.n m) (.n 0) (E8 (AL (.t true) gs (g1.push .mkl xs).2).1 (g1.push .mkl xs).1 .e (AL (.t true) gs (g1.push .mkl xs).2).2).2).1]) (vs := [.slice none 0 0]) fun t x ht => by
    cases t with
    | zero =>
     simp only [List.getElem?_cons_zero, Option.some.injEq] at ht
     subst ht
     refine ⟨_, rfl, rfl, rfl, _, [], 0, rfl, rfl, Nat.one_pos, by rw [q2.2, hp]; rfl, rfl, by rw [q1.2, hp]; rfl, Hh.emp⟩
    | succ t => simp at ht
   rw [hlen] at hadd
   exact ⟨CB loc (rows.length + 1) [.slice none 0 0], fun r hr => Ce loc (rows.length + 1) [.slice none 0 0] r (Nat.lt_succ_of_lt hr), ⟨fun h0 => absurd h0 hh, fun _ => rfl⟩, B, hB, hadd, hbel⟩
 ·cases h
theorem R8 {v0 v : SV} {rows1 rows' : List Row} {g1 g' : G} (hld : My o = true → ∃ news, rows1 = rows ++ news) (h : PE rows rows1 gs o v0 g1 = some (v, rows', g')) (hg : Good T e g') :
  Good T e g1 ∧ rows.length ≤ rows'.length ∧
  (AK e gs → ∀ (loc : Loc) (w : World) u, v0.rel e rows1.length loc u → A8 e w0 loc rows1 w → ∃ loc', AG rows.length loc loc' ∧ v.rel e rows'.length loc' u ∧ A8 e w0 loc' rows' w) ∧
  (¬ AK e gs → ∀ (loc : Loc) (w : World), A8 e w0 loc rows w → ∃ loc', AG rows.length loc loc' ∧ v.rel e rows'.length loc' Go.undef ∧ A8 e w0 loc' rows' w) := by
 unfold PE at h
 split at h
 ·rename_i hl
  obtain ⟨news, rfl⟩ := hld hl
  split at h
  ·rename_i p
   simp only [Option.bind_eq_bind, Option.bind_eq_some_iff, Option.some.injEq, Prod.mk.injEq, List.drop_left] at h
   obtain ⟨⟨news', g2⟩, hc, rfl, rfl, rfl⟩ := h
   obtain ⟨k1, k2, k3⟩ := IJ hc hg
   have hq := Bu k1
   have hf : ∀ (t : Nat) x, news'[t]? = some x → ∃ ss z m, x = BD ss z m := fun t x ht => (k3 t x ht).1
   refine ⟨hq.1, by simp, fun hh loc w u hu hcl => ?_, fun hh loc w hcl => ?_⟩
   ·have hp : ((AL (.t true) gs g1).1.ev e).bool = true := hq.2.2 ⟨rfl, hh⟩
    obtain ⟨B, hB, hR, hbel⟩ := hcl
    have hR' : Ad e loc (rows ++ news') w B := hR.S2 (by simp [k2]) fun r x' hx => by
     by_cases hr : r < rows.length
     ·rw [List.getElem?_append_left hr] at hx
      exact .inr ⟨x', by rw [List.getElem?_append_left hr]; exact hx, MF.refl x'⟩
     ·rw [List.getElem?_append_right (by omega)] at hx
      obtain ⟨x, h1, h2⟩ := (k3 _ _ hx).2.1 hp
      exact .inr ⟨x, by rw [List.getElem?_append_right (by omega)]; exact h1, h2⟩
    have hlen : (rows ++ news').length = (rows ++ news).length := by simp [k2]
    refine ⟨loc, AG.refl _ _, ⟨fun _ => ?_, fun h0 => absurd hh h0⟩, B, hB, hR', hbel⟩
    rw [hlen]
    exact R7 hf hR' hu
   ·have hp : ((AL (.t true) gs g1).1.ev e).bool = false := by
     cases hb : ((AL (.t true) gs g1).1.ev e).bool
     ·rfl
     ·exact absurd (hq.2.1 hb).2 hh
    obtain ⟨B, hB, hR, hbel⟩ := hcl
    have hadd := hR.N4 (news := news') (vs := List.replicate news'.length (.slice none 0 0)) fun t x hx => ⟨.slice none 0 0, by
     rw [List.getElem?_replicate, if_pos (Ab hx)], (k3 t x hx).2.2 hp _⟩
    exact ⟨_, Ce _ _ _, ⟨fun h0 => absurd h0 hh, fun _ => rfl⟩, B, hB, hadd, hbel⟩
  ·cases h
 ·split at h
  ·rename_i hs
   have hs := ET hs
   subst hs
   split at h
   ·simp only [Option.some.injEq, Prod.mk.injEq] at h
    obtain ⟨rfl, rfl, rfl⟩ := h
    exact ⟨hg, Nat.le_refl _, fun hh loc w u hu hcl => ⟨loc, AG.refl _ _, ⟨fun _ => hu, fun h0 => absurd hh h0⟩, hcl⟩, fun hh loc w hcl => ⟨loc, AG.refl _ _, ⟨fun h0 => absurd h0 hh, fun _ => rfl⟩, hcl⟩⟩
   ·cases h
  ·exact Oc h hg
theorem Dn (hX : XOK P T X) (hI : HC P T e w0 inl) {ops : List Oper} : ∀ {l : List Oper} {fr : List SV} {rows : List Row} {g : G} {fr' : List SV} {rows' : List Row} {g' : G},
  BB X inl true ops pc l fr rows g = some (fr', rows', g') → Good T e g' → Good T e g ∧ rows' = rows ∧
   ∀ (loc : Loc) (a : Act) (w1 : World) (Q : Act → Prop), (pc.ev e).bool = true → An e rows.length loc fr a.tmps → A8 e w0 loc rows w1 →
    (∀ a' : Act, An e rows.length loc fr' a'.tmps → a'.defers = a.defers → Q a') → wpQuiet P ops.toArray (A8 e w0 loc rows) Q l a
 | [], fr, rows, g, fr', rows', g', h, hg => by
  simp only [BB, Option.some.injEq, Prod.mk.injEq] at h
  obtain ⟨rfl, rfl, rfl⟩ := h
  exact ⟨hg, rfl, fun loc a w1 Q _ hf _ hQ => hQ a hf rfl⟩
 | o :: l, fr, rows, g, fr', rows', g', h, hg => by
  simp only [BB, Option.bind_eq_bind, Option.bind_eq_some_iff] at h
  obtain ⟨wt, hwt, h⟩ := h
  cases wt with
  | none =>
   simp only at h
   obtain ⟨h1, h2, h3⟩ := Dn hX hI h hg
   refine ⟨h1, h2, fun loc a w1 Q hpc hf hw1 hQ => ?_⟩
   have := BY hwt hf
   simp only at this
   unfold wpQuiet
   rw [if_neg (by rw [this]; simp)]
   exact h3 loc _ w1 Q hpc (hf.put (s := .undef) rfl o.dst) hw1 fun a' hf' hd => hQ a' hf' (by rw [hd]; cases o.dst <;> rfl)
  | some gs =>
   simp only [Option.bind_eq_some_iff] at h
   obtain ⟨⟨v, r, g1⟩, hop, h⟩ := h
   simp only [Option.bind_eq_some_iff] at h
   obtain ⟨v', hv', h⟩ := h
   cases r with
   | some rows1 => simp at h
   | none =>
    simp only at h
    obtain ⟨h1, h2, h3⟩ := Dn hX hI h hg
    have hok := W6 (fr := fr) (rows := rows) (gs := gs) (pc := (AL pc gs g).1) (g := (AL pc gs g).2) hX hI o
    rw [hop] at hok
    obtain ⟨hg2, hq⟩ := hok h1
    have hgp := Bu hg2
    refine ⟨hgp.1, h2, fun loc a w1 Q hpc hf hw1 hQ => ?_⟩
    have hwanted := BY hwt hf
    simp only at hwanted
    unfold wpQuiet
    by_cases hh : AK e gs
    ·rw [if_pos (hwanted.2 hh)]
     obtain ⟨u, hu, hdo⟩ := hq loc a w1 (hgp.2.2 ⟨hpc, hh⟩) hh hf hw1
     exact ⟨u, fun w hw => (hdo w hw).quietAt, h3 loc _ w1 Q hpc (hf.put (FU hv' (fun _ => hu) (fun h0 => absurd hh h0)) o.dst) hw1 fun a' hf' hd => hQ a' hf' (by rw [hd]; cases o.dst <;> rfl)⟩
    ·rw [if_neg (fun h0 => hh (hwanted.1 h0))]
     exact h3 loc _ w1 Q hpc (hf.put (FU hv' (fun h0 => absurd h0 hh) (fun _ => rfl)) o.dst) hw1 fun a' hf' hd => hQ a' hf' (by rw [hd]; cases o.dst <;> rfl)
theorem Bw (hX : XOK P T X) (hI : HC P T e w0 inl) {ops : List Oper} : ∀ {l : List Oper} {fr : List SV} {rows : List Row} {g : G} {fr' : List SV} {rows' : List Row} {g' : G},
  BB X inl false ops pc l fr rows g = some (fr', rows', g') → Good T e g' → Good T e g ∧
   ∀ (loc : Loc) (a : Act) (w : World) (Q : Exit → Act → World → Prop), (pc.ev e).bool = true → An e rows.length loc fr a.tmps → A8 e w0 loc rows w →
    (∀ (loc' : Loc) (a' : Act) (w' : World), AG rows.length loc loc' → rows.length ≤ rows'.length → An e rows'.length loc' fr' a'.tmps → a'.defers = a.defers → A8 e w0 loc' rows' w' → Q .normal a' w') →
     wpList P ops.toArray Q l a w
 | [], fr, rows, g, fr', rows', g', h, hg => by
  simp only [BB, Option.some.injEq, Prod.mk.injEq] at h
  obtain ⟨rfl, rfl, rfl⟩ := h
  exact ⟨hg, fun loc a w Q _ hf hw hQ => hQ loc a w (AG.refl _ _) (Nat.le_refl _) hf rfl hw⟩
 | o :: l, fr, rows, g, fr', rows', g', h, hg => by
  simp only [BB, Option.bind_eq_bind, Option.bind_eq_some_iff] at h
  obtain ⟨wt, hwt, h⟩ := h
  cases wt with
  | none =>
   simp only at h
   obtain ⟨h1, h3⟩ := Bw hX hI h hg
   refine ⟨h1, fun loc a w Q hpc hf hw hQ => ?_⟩
   have := BY hwt hf
   simp only at this
   unfold wpList
   rw [if_neg (by rw [this]; simp)]
   exact h3 loc _ w Q hpc (hf.put (s := .undef) rfl o.dst) hw fun loc' a' w' hx hl hf' hd hw' => hQ loc' a' w' hx hl hf' (by rw [hd]; cases o.dst <;> rfl) hw'
  | some gs =>
   simp only [Option.bind_eq_some_iff] at h
   obtain ⟨⟨v, r, g1⟩, hop, h⟩ := h
   simp only [Option.bind_eq_some_iff] at h
   obtain ⟨v', hv', h⟩ := h
   have hok := W6 (fr := fr) (rows := rows) (gs := gs) (pc := (AL pc gs g).1) (g := (AL pc gs g).2) hX hI o
   rw [hop] at hok
   cases r with
   | none =>
    simp only at h
    obtain ⟨h1, h3⟩ := Bw hX hI h hg
    obtain ⟨hg2, hq⟩ := hok h1
    have hgp := Bu hg2
    refine ⟨hgp.1, fun loc a w Q hpc hf hw hQ => ?_⟩
    have hwanted := BY hwt hf
    simp only at hwanted
    unfold wpList
    by_cases hh : AK e gs
    ·rw [if_pos (hwanted.2 hh)]
     obtain ⟨u, hu, hdo⟩ := hq loc a w (hgp.2.2 ⟨hpc, hh⟩) hh hf hw
     refine .inl (((hdo w hw).YI (R := fun u' w' => u' = u ∧ A8 e w0 loc rows w') hw fun w' hw' => ⟨rfl, hw'⟩).wp ?_)
     rintro u' w' ⟨rfl, hw'⟩
     exact h3 loc _ w' Q hpc (hf.put (FU hv' (fun _ => hu) (fun h0 => absurd hh h0)) o.dst) hw' fun loc' a' w' hx hl hf' hd hw' => hQ loc' a' w' hx hl hf' (by rw [hd]; cases o.dst <;> rfl) hw'
    ·rw [if_neg (fun h0 => hh (hwanted.1 h0))]
     exact h3 loc _ w Q hpc (hf.put (FU hv' (fun h0 => absurd h0 hh) (fun _ => rfl)) o.dst) hw fun loc' a' w' hx hl hf' hd hw' => hQ loc' a' w' hx hl hf' (by rw [hd]; cases o.dst <;> rfl) hw'
   | some rows1 =>
    simp only [Bool.false_eq_true, if_false] at h
    split at h
    ·rename_i hge
     have hgs : gs = [] := by simpa using hge
     subst hgs
     have hhold : AK e ([] : List (L × Bool)) := fun x hx => by cases hx
     obtain ⟨h1, h3⟩ := Bw hX hI h hg
     obtain ⟨hg2, hq⟩ := hok h1
     have hgp := Bu hg2
     refine ⟨hgp.1, fun loc a w Q hpc hf hw hQ => ?_⟩
     have hwanted := BY hwt hf
     simp only at hwanted
     unfold wpList
     rw [if_pos (hwanted.2 hhold)]
     refine .inl ((hq loc a w (hgp.2.2 ⟨hpc, hhold⟩) hhold hf hw).wp ?_)
     rintro u w' ⟨loc1, hx1, hl1, hu, hw1⟩
     have hv2 : v'.rel e rows1.length loc1 u := FU hv' (fun _ => hu) (fun h0 => absurd hhold h0)
     exact h3 loc1 _ w' Q hpc ((hf.ext hx1 hl1).put hv2 o.dst) hw1 fun loc' a' w' hx hl hf' hd hw' => hQ loc' a' w' (hx1.trans hx hl1) (Nat.le_trans hl1 hl) hf' (by rw [hd]; cases o.dst <;> rfl) hw'
    ·simp only [Option.bind_eq_some_iff] at h
     obtain ⟨⟨v2, rows2, g2⟩, hcalm, h⟩ := h
     simp only at h
     obtain ⟨h1, h3⟩ := Bw hX hI h hg
     have hld : My o = true → ∃ news, rows1 = rows ++ news := fun hl => TL hl hop
     obtain ⟨c1, c2, c3, c4⟩ := R8 (w0 := w0) hld hcalm h1
     obtain ⟨hg2, hq⟩ := hok c1
     have hgp := Bu hg2
     refine ⟨hgp.1, fun loc a w Q hpc hf hw hQ => ?_⟩
     have hwanted := BY hwt hf
     simp only at hwanted
     unfold wpList
     by_cases hh : AK e gs
     ·rw [if_pos (hwanted.2 hh)]
      refine .inl ((hq loc a w (hgp.2.2 ⟨hpc, hh⟩) hh hf hw).wp ?_)
      rintro u w' ⟨loc1, hx1, hl1, hu, hw1⟩
      obtain ⟨loc2, hx2, d3, d4⟩ := c3 hh loc1 w' u hu hw1
      have hx3 := hx1.trans hx2 (Nat.le_refl _)
      exact h3 loc2 _ w' Q hpc ((hf.ext hx3 c2).put d3 o.dst) d4 fun loc' a' w' hx hl hf' hd hw' => hQ loc' a' w' (hx3.trans hx c2) (Nat.le_trans c2 hl) hf' (by rw [hd]; cases o.dst <;> rfl) hw'
     ·rw [if_neg (fun h0 => hh (hwanted.1 h0))]
      obtain ⟨loc1, hx1, d3, d4⟩ := c4 hh loc w hw
      exact h3 loc1 _ w Q hpc ((hf.ext hx1 c2).put d3 o.dst) d4 fun loc' a' w' hx hl hf' hd hw' => hQ loc' a' w' (hx1.trans hx c2) (Nat.le_trans c2 hl) hf' (by rw [hd]; cases o.dst <;> rfl) hw'
end
end Rx
namespace Rx
open Go Go.RowKit
theorem D3 : ∀ {a b : List FD}, CG a b = true → a = b
 | [], [], _ => rfl
 | [], _ :: _, h => by simp [CG] at h
 | _ :: _, [], h => by simp [CG] at h
 | ⟨a1, a2, a3⟩ :: l, ⟨b1, b2, b3⟩ :: m, h => by
  simp only [CG, Bool.and_eq_true] at h
  obtain ⟨⟨⟨h1, h2⟩, h3⟩, h4⟩ := h
  rw [D.Ae h1, L.Cw h2, L.Cw h3, D3 h4]
theorem EU : ∀ {a b : List Def}, DB a b = true → a = b
 | [], [], _ => rfl
 | [], _ :: _, h => by simp [DB] at h
 | _ :: _, [], h => by simp [DB] at h
 | ⟨a1, a2, a3⟩ :: l, ⟨b1, b2, b3⟩ :: m, h => by
  simp only [DB, Bool.and_eq_true, beq_iff_eq, D.same, decide_eq_true_eq] at h
  obtain ⟨⟨⟨h1, h2⟩, h3⟩, h4⟩ := h
  rw [h1, h2, L.Cw h3, EU h4]
theorem PV.Ae {a b : PV} (h : a.same b = true) : a = b := by
 cases a <;> cases b <;> simp [PV.same] at h
 ·rw [C.Ae h]
 ·rw [Ji h]
theorem MX : ∀ {a b : List PV}, Ie a b = true → a = b
 | [], [], _ => rfl
 | [], _ :: _, h => by simp [Ie] at h
 | _ :: _, [], h => by simp [Ie] at h
 | a :: l, b :: m, h => by
  simp only [Ie, Bool.and_eq_true] at h
  rw [PV.Ae h.1, MX h.2]
theorem KI : ∀ {a b : List (L × Bool)}, I4 a b = true → a = b
 | [], [], _ => rfl
 | [], _ :: _, h => by simp [I4] at h
 | _ :: _, [], h => by simp [I4] at h
 | (a, a') :: l, (b, b') :: m, h => by
  simp only [I4, Bool.and_eq_true, beq_iff_eq] at h
  rw [L.Ae h.1.1, h.1.2, KI h.2]
theorem SV.Ae {a b : SV} (h : a.same b = true) : a = b := by
 cases a <;> cases b <;> simp [SV.same] at h
 ·rw [PV.Ae h]
 ·rw [MX h]
 ·rw [KI h.1, PV.Ae h.2]
 ·rfl
 ·rfl
theorem MY : ∀ {a b : List SV}, Ig a b = true → a = b
 | [], [], _ => rfl
 | [], _ :: _, h => by simp [Ig] at h
 | _ :: _, [], h => by simp [Ig] at h
 | a :: l, b :: m, h => by
  simp only [Ig, Bool.and_eq_true] at h
  rw [SV.Ae h.1, MY h.2]
theorem Gq : ∀ {a b : List Bool}, Eb a b = true → a = b
 | [], [], _ => rfl
 | [], _ :: _, h => by simp [Eb] at h
 | _ :: _, [], h => by simp [Eb] at h
 | a :: l, b :: m, h => by
  simp only [Eb, Bool.and_eq_true, beq_iff_eq] at h
  rw [h.1, Gq h.2]
theorem Nd.Ae {a b : Nd} (hl : a.listed = b.listed) (h : a.same b = true) : a = b := by
 obtain ⟨a1, a2, a3, a4, a5, a6, a7⟩ := a
 obtain ⟨b1, b2, b3, b4, b5, b6, b7⟩ := b
 simp only [Nd.same, Bool.and_eq_true, beq_iff_eq] at h
 obtain ⟨⟨⟨⟨⟨h1, h2⟩, h3⟩, h4⟩, h5⟩, h6⟩ := h
 simp only at hl
 rw [hl, MY h1, ET h2, h3, EU h4, L.Cw h5, D3 h6]
end Rx
namespace Rx
open Go Go.RowKit
section
variable {T : Nat → List A → Bool × List A} {e e1 : Nat → A} {n : Nat} {loc : Loc} {P : Program} {X : Ctx} {w0 : W0} {σ : Nat → L}
theorem Is (h : ∀ i, e1 i = (σ i).ev e) (x : L) : (Cj σ x).ev e = x.ev e1 := by
 cases x <;> simp [Cj, L.ev, h]
theorem QV (h : ∀ i, e1 i = (σ i).ev e) {k : K} {v : Value} : (TC σ k).rel e n loc v ↔ k.rel e1 n loc v := by
 cases k <;> simp [TC, K.rel, K.ok, K.A7, Is h]
theorem O0 (h : ∀ i, e1 i = (σ i).ev e) : ∀ {l : List K} {vs : List Value}, Cr e n loc (l.map (TC σ)) vs ↔ Cr e1 n loc l vs
 | [], [] => by simp [Cr]
 | [], _ :: _ => by simp [Cr]
 | _ :: _, [] => by simp [Cr]
 | _ :: _, _ :: _ => by simp [Cr, QV h, O0 h]
theorem JJ (h : ∀ i, e1 i = (σ i).ev e) {c : C} {v : Value} : (RK σ c).rel e n loc v ↔ c.rel e1 n loc v := by
 cases c with
 | k x => exact QV h
 | clo f a b => simp [RK, C.rel, O0 h]
 | cfn x f g => simp [RK, C.rel, Is h]
theorem KJ (h : ∀ i, e1 i = (σ i).ev e) : ∀ {l : List C} {vs : List Value}, Ag e n loc (l.map (RK σ)) vs ↔ Ag e1 n loc l vs
 | [], [] => by simp [Ag]
 | [], _ :: _ => by simp [Ag]
 | _ :: _, [] => by simp [Ag]
 | _ :: _, _ :: _ => by simp [Ag, JJ h, KJ h]
theorem KK (h : ∀ i, e1 i = (σ i).ev e) {p : PV} {v : Value} : (OL σ p).rel e n loc v ↔ p.rel e1 n loc v := by
 cases p with
 | one c => exact JJ h
 | agg l => simp [OL, PV.rel, KJ h]
theorem MZ (h : ∀ i, e1 i = (σ i).ev e) : ∀ {l : List PV} {vs : List Value}, Ar e n loc (l.map (OL σ)) vs ↔ Ar e1 n loc l vs
 | [], [] => by simp [Ar]
 | [], _ :: _ => by simp [Ar]
 | _ :: _, [] => by simp [Ar]
 | _ :: _, _ :: _ => by simp [Ar, KK h, MZ h]
theorem O1 (h : ∀ i, e1 i = (σ i).ev e) {s : SV} {v : Value} : (MB σ s).rel e n loc v ↔ s.rel e1 n loc v := by
 cases s with
 | pv p => exact KK h
 | tup l => simp [MB, SV.rel, MZ h]
 | cond gs p =>
  have : AK e (gs.map fun x => (Cj σ x.1, x.2)) ↔ AK e1 gs := by
   unfold AK
   constructor
   ·intro hh x hx
    have := hh (Cj σ x.1, x.2) (List.mem_map.2 ⟨x, hx, rfl⟩)
    simpa [Is h] using this
   ·intro hh x hx
    obtain ⟨y, hy, rfl⟩ := List.mem_map.1 hx
    simpa [Is h] using hh y hy
  simp [MB, SV.rel, KK h, this]
 | undef => simp [MB, SV.rel]
 | junk => simp [MB, SV.rel]
theorem FV (h : ∀ i, e1 i = (σ i).ev e) {fr : List SV} {tm : Array Value} : An e n loc (fr.map (MB σ)) tm ↔ An e1 n loc fr tm := by
 constructor
 ·intro hh
  refine ⟨by simpa using hh.len, fun i s v hs hv => (O1 h).1 (hh.at_ i _ v (by rw [List.getElem?_map, hs]; rfl) hv)⟩
 ·intro hh
  refine ⟨by simpa using hh.len, fun i s v hs hv => ?_⟩
  rw [List.getElem?_map] at hs
  cases ht : fr[i]? with
  | none => rw [ht] at hs; cases hs
  | some t =>
   rw [ht] at hs
   simp only [Option.map_some, Option.some.injEq] at hs
   subst hs
   exact (O1 h).2 (hh.at_ i t v ht hv)
theorem O2 (h : ∀ i, e1 i = (σ i).ev e) {w : World} {B : Bd} {r : Nat} {x : Row} : AA e n loc w B r (Ej σ x) ↔ AA e1 n loc w B r x := by
 unfold AA
 simp only [Ej, KJ h, List.map_eq_nil_iff, ne_eq, List.getElem?_map, Option.map_eq_some_iff]
 constructor
 ·intro hh
  split
  ·rename_i ho; rw [if_pos ho] at hh; exact hh
  ·rename_i ho
   rw [if_neg ho] at hh
   intro hc
   obtain ⟨h1, h2, h3⟩ := hh hc
   refine ⟨h1, h2, fun j c hj => ?_⟩
   obtain ⟨v, hv, hr⟩ := h3 j _ ⟨c, hj, rfl⟩
   exact ⟨v, hv, (JJ h).1 hr⟩
 ·intro hh
  split
  ·rename_i ho; rw [if_pos ho] at hh; exact hh
  ·rename_i ho
   rw [if_neg ho] at hh
   intro hc
   obtain ⟨h1, h2, h3⟩ := hh hc
   refine ⟨h1, h2, fun j c hj => ?_⟩
   obtain ⟨c', hc', rfl⟩ := hj
   obtain ⟨v, hv, hr⟩ := h3 j _ hc'
   exact ⟨v, hv, (JJ h).2 hr⟩
theorem O3 (h : ∀ i, e1 i = (σ i).ev e) {w : World} {B : Bd} {r : Nat} {q : F5} : Bk e loc w B r { q with x := Cj σ q.x, n := Cj σ q.n } ↔ Bk e1 loc w B r q := by
 unfold Bk
 simp only [Is h]
theorem Ev (h : ∀ i, e1 i = (σ i).ev e) {w : World} {B : Bd} {rows : List Row} : Ad e loc (rows.map (Ej σ)) w B ↔ Ad e1 loc rows w B := by
 have at_ : ∀ (r : Nat) (y : Row), (rows.map (Ej σ))[r]? = some y ↔ ∃ x, rows[r]? = some x ∧ Ej σ x = y := fun r y => by
  rw [List.getElem?_map, Option.map_eq_some_iff]
 have lo : ∀ (r : Nat) (x : Row), BT loc r (Ej σ x) ↔ BT loc r x := fun r x => by
  unfold BT
  simp only [Ej, Option.map_eq_some_iff]
  constructor
  ·rintro ⟨q, ⟨q0, h1, rfl⟩, h2, h3⟩
   exact ⟨q0, h1, h2, h3⟩
  ·rintro ⟨q, h1, h2, h3⟩
   exact ⟨_, ⟨q, h1, rfl⟩, h2, h3⟩
 constructor
 ·intro hh
  refine ⟨fun r x hr => ?_, fun r x q hr hq => ?_, fun r s x y hr hs ox oy => ?_, fun r s x y hr hs ox oy hne => ?_⟩
  ·have := hh.row r _ ((at_ r _).2 ⟨x, hr, rfl⟩)
   rw [List.length_map] at this
   exact (O2 h).1 this
  ·have := hh.lst r _ _ ((at_ r _).2 ⟨x, hr, rfl⟩) (show (Ej σ x).lst = some { q with x := Cj σ q.x, n := Cj σ q.n } by simp [Ej, hq])
   exact ⟨this.1, (O3 h).1 this.2⟩
  ·refine hh.lapart r s _ _ ((at_ r _).2 ⟨x, hr, rfl⟩) ((at_ s _).2 ⟨y, hs, rfl⟩) ((lo r x).2 ox) ?_
   rcases oy with oy | ⟨oy, hne⟩
   ·exact .inl oy
   ·exact .inr ⟨(lo s y).2 oy, hne⟩
  ·exact hh.apart r s _ _ ((at_ r _).2 ⟨x, hr, rfl⟩) ((at_ s _).2 ⟨y, hs, rfl⟩) ox oy hne
 ·intro hh
  refine ⟨fun r x' hr => ?_, fun r x' q hr hq => ?_, fun r s x' y' hr hs ox oy => ?_, fun r s x' y' hr hs ox oy hne => ?_⟩
  ·obtain ⟨x, hx, rfl⟩ := (at_ r _).1 hr
   rw [List.length_map]
   exact (O2 h).2 (hh.row r x hx)
  ·obtain ⟨x, hx, rfl⟩ := (at_ r _).1 hr
   simp only [Ej, Option.map_eq_some_iff] at hq
   obtain ⟨q0, h1, rfl⟩ := hq
   have := hh.lst r x q0 hx h1
   exact ⟨this.1, (O3 h).2 this.2⟩
  ·obtain ⟨x, hx, rfl⟩ := (at_ r _).1 hr
   obtain ⟨y, hy, rfl⟩ := (at_ s _).1 hs
   refine hh.lapart r s x y hx hy ((lo r x).1 ox) ?_
   rcases oy with oy | ⟨oy, hne⟩
   ·exact .inl oy
   ·exact .inr ⟨(lo s y).1 oy, hne⟩
  ·obtain ⟨x, hx, rfl⟩ := (at_ r _).1 hr
   obtain ⟨y, hy, rfl⟩ := (at_ s _).1 hs
   exact hh.apart r s x y hx hy ox oy hne
def M0 : Lc := ⟨0, 0, 0, 0, .slice none 0 0, true⟩
def Ew (loc : Loc) (ρ : Nat → Option Nat) : Loc := fun r => match ρ r with | some r' => loc r' | none => M0
theorem JK {α : Type} {f : α → α → Bool} : ∀ {l m : List α}, Cp f l m = true → l.length = m.length ∧ ∀ (i : Nat) a, l[i]? = some a → ∃ b, m[i]? = some b ∧ f a b = true
 | [], [], _ => ⟨rfl, fun i a h => by simp at h⟩
 | [], _ :: _, h => by simp [Cp] at h
 | _ :: _, [], h => by simp [Cp] at h
 | a :: l, b :: m, h => by
  simp only [Cp, Bool.and_eq_true] at h
  obtain ⟨h1, h2⟩ := JK h.2
  refine ⟨by simp [h1], fun i x hx => ?_⟩
  cases i with
  | zero => simp at hx; subst hx; exact ⟨b, rfl, h.1⟩
  | succ i => simpa using h2 i x (by simpa using hx)
variable {ρ : Nat → Option Nat} {N : Nat}
theorem Bg {r r' : Nat} (h : ρ r = some r') : Ew loc ρ r = loc r' := by simp [Ew, h]
theorem It {r : Nat} (h : ρ r = none) : Ew loc ρ r = M0 := by simp [Ew, h]
theorem Tc {M : Nat} {t k : K} {v : Value} (h : XG M ρ t k = true) (hk : k.rel e N loc v) : t.rel e M (Ew loc ρ) v := by
 unfold XG at h
 split at h
 ·exact ⟨trivial, hk.2.1, .inl rfl⟩
 ·simp only [Bool.and_eq_true] at h
  rw [Bc h.1, L.Ae h.2]; exact ⟨trivial, hk.2.1, .inr (hk.2.2.resolve_left (by simp))⟩
 ·rw [L.Ae h]; exact ⟨trivial, hk.2.1, .inr (hk.2.2.resolve_left (by simp))⟩
 ·rw [L.Ae h]; exact ⟨trivial, hk.2.1, .inr (hk.2.2.resolve_left (by simp))⟩
 ·rw [L.Ae h]; exact ⟨trivial, hk.2.1, .inr (hk.2.2.resolve_left (by simp))⟩
 ·simp only [Bool.and_eq_true, decide_eq_true_eq, beq_iff_eq] at h
  obtain ⟨⟨h0, h1⟩, h2⟩ := h
  subst h2
  obtain ⟨a1, a2, a3⟩ := hk
  refine ⟨h0, a2, .inr ?_⟩
  rcases a3 with a3 | a3
  ·cases a3
  ·rw [a3]; simp only [K.A7]; rw [Bg h1]
 ·simp only [Bool.and_eq_true, decide_eq_true_eq, beq_iff_eq] at h
  obtain ⟨⟨⟨⟨⟨h0, h1⟩, h2⟩, h3⟩, h4⟩, h5⟩ := h
  have h5 := L.Ae h5
  subst h2 h3 h4 h5
  obtain ⟨a1, a2, a3⟩ := hk
  refine ⟨⟨h0, a1.2⟩, a2, .inr ?_⟩
  rcases a3 with a3 | a3
  ·cases a3
  ·rw [a3]; simp only [K.A7]; rw [Bg h1]
 ·simp only [Bool.and_eq_true, decide_eq_true_eq, beq_iff_eq] at h
  obtain ⟨⟨⟨h0, h1⟩, h2⟩, h3⟩ := h
  subst h2 h3
  obtain ⟨a1, a2, a3⟩ := hk
  refine ⟨h0, a2, .inr ?_⟩
  rcases a3 with a3 | a3
  ·cases a3
  ·rw [a3]; simp only [K.A7]; rw [Bg h1]
 ·simp only [Bool.and_eq_true, decide_eq_true_eq, beq_iff_eq] at h
  obtain ⟨⟨⟨⟨⟨h0, h1⟩, h2⟩, h3⟩, h4⟩, h5⟩ := h
  subst h2 h3 h4 h5
  obtain ⟨a1, a2, a3⟩ := hk
  refine ⟨h0, a2, .inr ?_⟩
  rcases a3 with a3 | a3
  ·cases a3
  ·rw [a3]; simp only [K.A7]; rw [Bg h1]
 ·simp only [Bool.and_eq_true, decide_eq_true_eq] at h
  obtain ⟨⟨h0, h1⟩, h2⟩ := h
  have h2 := L.Ae h2
  subst h2
  obtain ⟨a1, a2, a3⟩ := hk
  refine ⟨⟨h0, a1.2.1, by rw [Bg h1]; exact a1.2.2⟩, a2, .inr ?_⟩
  rcases a3 with a3 | a3
  ·cases a3
  ·rw [a3]; simp only [K.A7]; rw [Bg h1]
 ·simp only [Bool.and_eq_true, decide_eq_true_eq] at h
  obtain ⟨⟨h0, h1⟩, h2⟩ := h
  have h2 := L.Ae h2
  subst h2
  obtain ⟨a1, a2, a3⟩ := hk
  refine ⟨⟨h0, by simp, fun _ => ⟨by rw [It h1]; rfl, by simp⟩⟩, a2, .inr ?_⟩
  rcases a3 with a3 | a3
  ·cases a3
  ·rw [a3]; simp only [K.A7]; rw [It h1]; rfl
 ·simp only [Bool.and_eq_true, decide_eq_true_eq] at h
  obtain ⟨⟨h0, h1⟩, h2⟩ := h
  have h2 := L.Ae h2
  subst h2
  obtain ⟨a1, a2, a3⟩ := hk
  refine ⟨⟨h0, a1.2.1, by rw [Bg h1]; exact a1.2.2⟩, a2, .inr ?_⟩
  rcases a3 with a3 | a3
  ·cases a3
  ·rw [a3]; simp only [K.A7]; rw [Bg h1]
 ·simp only [Bool.and_eq_true, decide_eq_true_eq, beq_iff_eq] at h
  obtain ⟨⟨⟨⟨⟨h0, h1⟩, h2⟩, h3⟩, h4⟩, h5⟩ := h
  have h4 := L.Ae h4
  have h5 := L.Ae h5
  subst h2 h3 h4 h5
  obtain ⟨a1, a2, a3⟩ := hk
  refine ⟨⟨h0, a1.2⟩, a2, .inr ?_⟩
  rcases a3 with a3 | a3
  ·cases a3
  ·rw [a3]; simp only [K.A7]; rw [Bg h1]
 ·exact ⟨trivial, hk.2.1, .inr (hk.2.2.resolve_left (by simp))⟩
 ·exact ⟨trivial, hk.2.1, .inr (hk.2.2.resolve_left (by simp))⟩
 ·exact ⟨trivial, hk.2.1, .inr (hk.2.2.resolve_left (by simp))⟩
 ·cases h
theorem M1 {M : Nat} : ∀ {t k : List K} {vs : List Value}, Cp (XG M ρ) t k = true → Cr e N loc k vs → Cr e M (Ew loc ρ) t vs
 | [], [], [], _, _ => trivial
 | _ :: _, _ :: _, _ :: _, h, hk => by
  simp only [Cp, Bool.and_eq_true] at h
  exact ⟨Tc h.1 hk.1, M1 h.2 hk.2⟩
 | [], _ :: _, _, h, _ => by simp [Cp] at h
 | _ :: _, [], _, h, _ => by simp [Cp] at h
 | [], [], _ :: _, _, hk => hk.elim
 | _ :: _, _ :: _, [], _, hk => hk.elim
theorem P5 {M : Nat} {t k : C} {v : Value} (h : Xf M ρ t k = true) (hk : k.rel e N loc v) : t.rel e M (Ew loc ρ) v := by
 unfold Xf at h
 split at h
 ·exact ⟨trivial, C.Mk hk, .inl rfl⟩
 ·exact Tc h hk
 ·simp only [Bool.and_eq_true, beq_iff_eq] at h
  obtain ⟨⟨h1, h2⟩, h3⟩ := h
  obtain ⟨va, vb, a1, a2, a3⟩ := hk
  exact ⟨va, vb, by rw [h1]; exact a1, M1 h2 a2, M1 h3 a3⟩
 ·cases h
theorem M3 {M : Nat} : ∀ {t k : List C} {vs : List Value}, Cp (Xf M ρ) t k = true → Ag e N loc k vs → Ag e M (Ew loc ρ) t vs
 | [], [], [], _, _ => trivial
 | _ :: _, _ :: _, _ :: _, h, hk => by
  simp only [Cp, Bool.and_eq_true] at h
  exact ⟨P5 h.1 hk.1, M3 h.2 hk.2⟩
 | [], _ :: _, _, h, _ => by simp [Cp] at h
 | _ :: _, [], _, h, _ => by simp [Cp] at h
 | [], [], _ :: _, _, hk => hk.elim
 | _ :: _, _ :: _, [], _, hk => hk.elim
theorem M4 {M : Nat} {t k : PV} {v : Value} (h : TA M ρ t k = true) (hk : k.rel e N loc v) : t.rel e M (Ew loc ρ) v := by
 unfold TA at h
 split at h
 ·exact P5 h hk
 ·obtain ⟨vs, h1, h2⟩ := hk
  exact ⟨vs, h1, M3 h h2⟩
 ·cases h
theorem O4 {M : Nat} : ∀ {t k : List PV} {vs : List Value}, Cp (TA M ρ) t k = true → Ar e N loc k vs → Ar e M (Ew loc ρ) t vs
 | [], [], [], _, _ => trivial
 | _ :: _, _ :: _, _ :: _, h, hk => by
  simp only [Cp, Bool.and_eq_true] at h
  exact ⟨M4 h.1 hk.1, O4 h.2 hk.2⟩
 | [], _ :: _, _, h, _ => by simp [Cp] at h
 | _ :: _, [], _, h, _ => by simp [Cp] at h
 | [], [], _ :: _, _, hk => hk.elim
 | _ :: _, _ :: _, [], _, hk => hk.elim
theorem Vg {M : Nat} {t k : SV} {v : Value} (h : Wg M ρ t k = true) (hk : k.rel e N loc v) : t.rel e M (Ew loc ρ) v := by
 unfold Wg at h
 split at h
 ·trivial
 ·exact hk
 ·exact M4 h hk
 ·obtain ⟨vs, h1, h2⟩ := hk
  exact ⟨vs, h1, O4 h h2⟩
 ·simp only [Bool.and_eq_true] at h
  rw [KI h.1]
  exact ⟨fun hg => M4 h.2 (hk.1 hg), hk.2⟩
 ·cases h
theorem Vh {M : Nat} {t k : List SV} {tm : Array Value} (h : Cp (Wg M ρ) t k = true) (hk : An e N loc k tm) : An e M (Ew loc ρ) t tm := by
 obtain ⟨h1, h2⟩ := JK h
 refine ⟨by rw [h1]; exact hk.len, fun i s v hs hv => ?_⟩
 obtain ⟨b, h3, h4⟩ := h2 i s hs
 exact Vg h4 (hk.at_ i b v h3 hv)
theorem IK : ∀ {l : List Row} {b i x : Nat} {t : Row}, l[i]? = some t → t.owned = true → ρ (b + i) = some x → x ∈ BW ρ b l
 | y :: l, b, i, x, t, h, ho, hx => by
  cases i with
  | zero =>
   simp only [List.getElem?_cons_zero, Option.some.injEq] at h
   subst h
   unfold BW
   rw [Nat.add_zero] at hx
   rw [if_pos ho, hx]
   exact List.mem_cons_self ..
  | succ i =>
   have := IK (l := l) (b := b + 1) (i := i) (by simpa using h) ho (by rw [← hx]; congr 1; omega)
   unfold BW
   split
   ·cases ρ b with
    | some z => exact List.mem_cons_of_mem _ this
    | none => exact this
   ·exact this
theorem JL {l : List Row} {b i j x y : Nat} {t u : Row} (hn : I5 (BW ρ b l) = true) (hij : i < j) (ht : l[i]? = some t) (hu : l[j]? = some u) (ot : t.owned = true) (ou : u.owned = true) (hx : ρ (b + i) = some x) (hy : ρ (b + j) = some y) : x ≠ y := by
 induction l generalizing b i j with
 | nil => simp at ht
 | cons z l ih =>
  obtain ⟨j, rfl⟩ : ∃ j', j = j' + 1 := ⟨j - 1, by omega⟩
  have hu' : l[j]? = some u := by simpa using hu
  have hy' : ρ (b + 1 + j) = some y := by rw [← hy]; congr 1; omega
  unfold BW at hn
  cases i with
  | zero =>
   simp only [List.getElem?_cons_zero, Option.some.injEq] at ht
   subst ht
   rw [Nat.add_zero] at hx
   rw [if_pos ot, hx] at hn
   simp only [PI, I5, Bool.and_eq_true, List.all_eq_true, bne_iff_ne, ne_eq] at hn
   exact hn.1 y (IK hu' ou hy')
  | succ i =>
   have hn' : I5 (BW ρ (b + 1) l) = true := by
    split at hn
    ·cases hb : ρ b with
     | some z' =>
      rw [hb] at hn
      simp only [PI, I5, Bool.and_eq_true] at hn
      exact hn.2
     | none => rw [hb] at hn; exact hn
    ·exact hn
   exact ih (i := i) (j := j) hn' (by omega) (by simpa using ht) hu' (by rw [← hx]; congr 1; omega) hy'
theorem JM {M : Nat} {rows : List Row} : ∀ {l : List Row} {b i : Nat} {t : Row}, Ho M ρ rows b l = true → l[i]? = some t → PH M ρ rows (b + i) t = true
 | y :: l, b, i, t, h, ht => by
  simp only [Ho, Bool.and_eq_true] at h
  cases i with
  | zero => simp at ht; subst ht; exact h.1
  | succ i =>
   have := JM h.2 (i := i) (by simpa using ht)
   rwa [show b + 1 + i = b + (i + 1) by omega] at this
theorem TM {w : World} {B : Bd} {rows tr : List Row} (hck : Ho tr.length ρ rows 0 tr = true) (hnd : I5 (BW ρ 0 tr) = true) (h : Ad e loc rows w B) : Ad e (Ew loc ρ) tr w B := by
 have cases_ : ∀ (r : Nat) (t : Row), tr[r]? = some t → t.PG = true ∨ (∃ r' s, ρ r = some r' ∧ rows[r']? = some s ∧ SS tr.length ρ t s = true) ∨ (ρ r = none ∧ Mj t = true) := fun r t ht => by
  have := JM hck ht
  rw [Nat.zero_add] at this
  unfold PH at this
  rw [Bool.or_eq_true] at this
  rcases this with h1 | h1
  ·exact .inl h1
  ·cases hr : ρ r with
   | none => rw [hr] at h1; exact .inr (.inr ⟨rfl, h1⟩)
   | some r' =>
    rw [hr] at h1
    simp only at h1
    cases hs : rows[r']? with
    | none => rw [hs] at h1; cases h1
    | some s => rw [hs] at h1; exact .inr (.inl ⟨r', s, rfl, hs, h1⟩)
 have dead_ : ∀ {t : Row}, t.PG = true → t.own = false ∧ t.cells = [] ∧ t.lst = none := fun {t} ht => by
  simp only [Row.PG, Bool.and_eq_true, Bool.not_eq_true', List.isEmpty_iff, Option.isNone_iff_eq_none] at ht
  exact ⟨ht.1.1, ht.1.2, ht.2⟩
 have empty_ : ∀ {t : Row}, Mj t = true → t.own = false ∧ t.cells = [] ∧ ∃ q, t.lst = some q ∧ q.own = true ∧ q.x = .e ∧ q.n = .n 0 ∧ q.ss.length ≠ 0 := fun {t} ht => by
  unfold Mj at ht
  simp only [Bool.and_eq_true, Bool.not_eq_true', List.isEmpty_iff] at ht
  obtain ⟨⟨h1, h2⟩, h3⟩ := ht
  cases hq : t.lst with
  | none => rw [hq] at h3; cases h3
  | some q =>
   rw [hq] at h3
   simp only [Bool.and_eq_true, bne_iff_ne, ne_eq] at h3
   obtain ⟨⟨⟨a1, a2⟩, a3⟩, a4⟩ := h3
   exact ⟨h1, h2, q, rfl, a1, L.Ae a2, L.Ae a3, a4⟩
 have row_ : ∀ {t s : Row}, SS tr.length ρ t s = true → t.own = s.own ∧ t.ty = s.ty ∧ t.es = s.es ∧ Cp (Xf tr.length ρ) t.cells s.cells = true ∧ t.lst = s.lst := fun {t s} ht => by
  unfold SS at ht
  simp only [Bool.and_eq_true, beq_iff_eq] at ht
  obtain ⟨⟨⟨⟨a1, a2⟩, a3⟩, a4⟩, a5⟩ := ht
  exact ⟨a1, a2, a3, a4, MW a5⟩
 have own_ : ∀ (r : Nat) (t : Row), tr[r]? = some t → t.own = true ∨ BT (Ew loc ρ) r t → t.owned = true ∧ ∃ r' s, ρ r = some r' ∧ rows[r']? = some s ∧ Ew loc ρ r = loc r' ∧ (t.own = true → s.own = true) ∧ (BT (Ew loc ρ) r t → BT loc r' s) := fun r t ht ho => by
  rcases cases_ r t ht with h1 | ⟨r', s, h1, h2, h3⟩ | ⟨h1, h2⟩
  ·obtain ⟨d1, d2, d3⟩ := dead_ h1
   rcases ho with ho | ⟨q, ho, _⟩
   ·rw [d1] at ho; cases ho
   ·rw [d3] at ho; cases ho
  ·obtain ⟨a1, a2, a3, a4, a5⟩ := row_ h3
   have hl := Bg (loc := loc) h1
   refine ⟨?_, r', s, h1, h2, hl, fun h => by rw [← a1]; exact h, fun ⟨q, q1, q2, q3⟩ => ⟨q, by rw [← a5]; exact q1, q2, by rw [← hl]; exact q3⟩⟩
   unfold Row.owned
   rcases ho with ho | ⟨q, q1, q2, _⟩
   ·rw [ho]; rfl
   ·rw [q1, Bool.or_eq_true]; exact .inr q2
  ·obtain ⟨d1, d2, q, q1, q2, _⟩ := empty_ h2
   rcases ho with ho | ⟨q', _, _, q3⟩
   ·rw [d1] at ho; cases ho
   ·rw [It h1] at q3; cases q3
 have diff_ : ∀ (r s : Nat) (t u : Row) (r' s' : Nat), tr[r]? = some t → tr[s]? = some u → t.owned = true → u.owned = true → ρ r = some r' → ρ s = some s' → r ≠ s → r' ≠ s' := fun r s t u r' s' ht hu ot ou hr hs hne => by
  rcases Nat.lt_or_gt_of_ne hne with h1 | h1
  ·exact JL hnd h1 ht hu ot ou (by rw [Nat.zero_add]; exact hr) (by rw [Nat.zero_add]; exact hs)
  ·exact (JL hnd h1 hu ht ou ot (by rw [Nat.zero_add]; exact hs) (by rw [Nat.zero_add]; exact hr)).symm
 refine ⟨fun r t ht => ?_, fun r t q ht hq => ?_, fun r s t u ht hu ot ou => ?_, fun r s t u ht hu ot ou hne => ?_⟩
 ·rcases cases_ r t ht with h1 | ⟨r', s, h1, h2, h3⟩ | ⟨h1, h2⟩
  ·obtain ⟨d1, d2, d3⟩ := dead_ h1
   unfold AA
   rw [if_neg (by simp [d1])]
   exact fun hc => absurd d2 hc
  ·obtain ⟨a1, a2, a3, a4, a5⟩ := row_ h3
   have hrow := h.row r' s h2
   unfold AA at hrow ⊢
   rw [Bg h1, a1, a2, a3]
   split
   ·rename_i ho
    rw [if_pos ho] at hrow
    obtain ⟨b1, b2, b3, b4, vs, sp, b5, b6, b7⟩ := hrow
    exact ⟨b1, b2, b3, b4, vs, sp, b5, M3 a4 b6, b7⟩
   ·rename_i ho
    rw [if_neg ho] at hrow
    intro hc
    obtain ⟨l1, l2⟩ := JK a4
    obtain ⟨b1, b2, b3⟩ := hrow (fun h0 => hc (List.eq_nil_of_length_eq_zero (by rw [l1, h0]; rfl)))
    refine ⟨b1, b2, fun j c hj => ?_⟩
    obtain ⟨c', hc', hcc⟩ := l2 j c hj
    obtain ⟨v, hv, hr⟩ := b3 j c' hc'
    exact ⟨v, hv, P5 hcc hr⟩
  ·obtain ⟨d1, d2, _⟩ := empty_ h2
   unfold AA
   rw [if_neg (by simp [d1])]
   exact fun hc => absurd d2 hc
 ·rcases cases_ r t ht with h1 | ⟨r', s, h1, h2, h3⟩ | ⟨h1, h2⟩
  ·rw [(dead_ h1).2.2] at hq; cases hq
  ·obtain ⟨a1, a2, a3, a4, a5⟩ := row_ h3
   rw [a5] at hq
   obtain ⟨k1, k2⟩ := h.lst r' s q h2 hq
   exact ⟨by rw [a1]; exact k1, k2.at_ (Bg h1)⟩
  ·obtain ⟨d1, d2, q', q1, q2, q3, q4, q5⟩ := empty_ h2
   rw [q1] at hq
   injection hq with hq
   subst hq
   refine ⟨d1, [], 0, by rw [q3]; rfl, by simp, by rw [q4]; rfl, by omega, ?_⟩
   rw [if_pos q2, It h1]
   rw [if_pos (show M0.emp = true from rfl)]
   exact ⟨rfl, rfl⟩
 ·obtain ⟨o1, r', x, r1, r2, r3, r4, r5⟩ := own_ r t ht (.inr ot)
  have hou : u.own = true ∨ BT (Ew loc ρ) s u := by
   rcases ou with ou | ou
   ·exact .inl ou
   ·exact .inr ou.1
  obtain ⟨p1, s', y, s1, s2, s3, s4, s5⟩ := own_ s u hu hou
  rw [r3, s3]
  refine h.lapart r' s' x y r2 s2 (r5 ot) ?_
  rcases ou with ou | ⟨ou, hne⟩
  ·exact .inl (s4 ou)
  ·exact .inr ⟨s5 ou, diff_ r s t u r' s' ht hu o1 p1 r1 s1 hne⟩
 ·obtain ⟨o1, r', x, r1, r2, r3, r4, r5⟩ := own_ r t ht (.inl ot)
  obtain ⟨p1, s', y, s1, s2, s3, s4, s5⟩ := own_ s u hu (.inl ou)
  rw [r3, s3]
  exact h.apart r' s' x y r2 s2 (r4 ot) (s4 ou) (diff_ r s t u r' s' ht hu o1 p1 r1 s1 hne)
theorem Ey {m : Nat} {t s : St} (h : TB ρ m t s = true) : m ≤ s.rows.length ∧ m ≤ t.rows.length ∧ AG m loc (Ew loc ρ) ∧
  (∀ tm, An e s.rows.length loc s.fr tm → An e t.rows.length (Ew loc ρ) t.fr tm) ∧ ∀ w, A8 e w0 loc s.rows w → A8 e w0 (Ew loc ρ) t.rows w := by
 unfold TB at h
 simp only [Bool.and_eq_true, decide_eq_true_eq] at h
 obtain ⟨⟨⟨⟨⟨h1, h2⟩, h3⟩, h4⟩, h5⟩, h6⟩ := h
 refine ⟨h5, h6, fun r hr => ?_, fun tm hf => Vh h1 hf, fun w hc => by obtain ⟨B, hB, hR, hbel⟩ := hc; exact ⟨B, hB, TM h2 h3 hR, hbel⟩⟩
 unfold UQ at h4
 rw [List.all_eq_true] at h4
 exact Bg (by simpa using h4 r (by simpa using hr))
end
end Rx
namespace Rx
open Go Go.RowKit
def M5 (bs : Nat) (n m : Nd) : Prop :=
 m.listed = n.listed ∧ m.g = n.g ∧ (bs ≤ n.rows.length → bs ≤ m.rows.length) ∧ ∀ (e : Nat → A) (w0 : W0) (loc : Loc) (tm : Array Value) (w : World), An e n.rows.length loc n.fr tm → A8 e w0 loc n.rows w →
  ∃ loc', AG bs loc loc' ∧ An e m.rows.length loc' m.fr tm ∧ A8 e w0 loc' m.rows w
theorem M5.refl (bs : Nat) (n : Nd) : M5 bs n n := ⟨rfl, rfl, id, fun e w0 loc tm w hf hc => ⟨loc, AG.refl _ _, hf, hc⟩⟩
theorem Vi {bs : Nat} {m n : Nd} (hl : m.listed = n.listed) (h : m.fits bs n = true) : M5 bs n m := by
 simp only [Nd.fits, Bool.and_eq_true, beq_iff_eq] at h
 obtain ⟨⟨⟨⟨h1, h2⟩, h3⟩, h4⟩, h5⟩ := h
 have hg : m.g = n.g := by
  obtain ⟨_, _, _, a, b, c, d⟩ := m
  obtain ⟨_, _, _, a', b', c', d'⟩ := n
  simp only at h1 h2 h3 h4
  rw [h1, EU h2, L.Cw h3, D3 h4]
 refine ⟨hl, hg, fun _ => ?_, fun e w0 loc tm w hf hc => ?_⟩
 ·exact (Ey (e := fun _ => .i 0) (loc := fun _ => default) (w0 := default) h5).2.1
 ·obtain ⟨k1, k2, k3, k4, k5⟩ := Ey (e := e) (loc := loc) (w0 := w0) h5
  exact ⟨_, k3, k4 tm hf, k5 w hc⟩
theorem O5 {bs : Nat} {n : Nd} : ∀ {l r : List Nd}, Qx bs n l = some r → (∃ m ∈ r, M5 bs n m) ∧ ∀ m ∈ l, m ∈ r
 | [], r, h => by
  simp only [Qx, Option.some.injEq] at h
  subst h
  exact ⟨⟨n, by simp, .refl _ _⟩, fun m hm => by cases hm⟩
 | m :: l, r, h => by
  simp only [Qx] at h
  split at h
  ·rename_i hb
   split at h
   ·rename_i hs
    injection h with h
    subst h
    refine ⟨⟨m, by simp, ?_⟩, fun x hx => hx⟩
    rw [Bool.or_eq_true] at hs
    rcases hs with hs | hs
    ·rw [← Nd.Ae (Gq hb) hs]; exact .refl _ _
    ·exact Vi (Gq hb) hs
   ·cases h
  ·simp only [Option.bind_eq_bind, Option.bind_eq_some_iff, Option.some.injEq] at h
   obtain ⟨r', hr, rfl⟩ := h
   obtain ⟨⟨x, hx, h1⟩, h2⟩ := O5 hr
   exact ⟨⟨x, by simp [hx], h1⟩, fun x hx => by
    rcases List.mem_cons.1 hx with rfl | hx
    ·simp
    ·simp [h2 x hx]⟩
theorem M6 {bs : Nat} : ∀ {ns l r : List Nd}, Mz bs ns l = some r → (∀ m ∈ ns, ∃ m' ∈ r, M5 bs m m') ∧ ∀ m ∈ l, m ∈ r
 | [], l, r, h => by
  simp only [Mz, Option.some.injEq] at h
  subst h
  exact ⟨fun m hm => (by cases hm), fun m hm => hm⟩
 | n :: ns, l, r, h => by
  simp only [Mz, Option.bind_eq_bind, Option.bind_eq_some_iff] at h
  obtain ⟨l', h1, h2⟩ := h
  obtain ⟨⟨x, hx, a1⟩, a2⟩ := O5 h1
  obtain ⟨b1, b2⟩ := M6 h2
  exact ⟨fun m hm => by
   rcases List.mem_cons.1 hm with rfl | hm
   ·exact ⟨x, b2 _ hx, a1⟩
   ·exact b1 m hm, fun m hm => b2 _ (a2 m hm)⟩
theorem Ls {X : Ctx} {inl : Inline} {ops : List Oper} {pc : L} {bs : Nat} : ∀ {l out r : List Nd}, Jw X inl ops pc bs l out = some r → (∀ nd ∈ l, ∃ ns, UU X inl ops pc nd = some ns ∧ ∀ m ∈ ns, ∃ m' ∈ r, M5 bs m m') ∧ ∀ m ∈ out, m ∈ r
 | [], out, r, h => by
  simp only [Jw, Option.some.injEq] at h
  subst h
  exact ⟨fun nd hnd => (by cases hnd), fun m hm => hm⟩
 | nd :: l, out, r, h => by
  simp only [Jw, Option.bind_eq_bind, Option.bind_eq_some_iff] at h
  obtain ⟨ns, h1, out', h2, h3⟩ := h
  obtain ⟨a1, a2⟩ := M6 h2
  obtain ⟨b1, b2⟩ := Ls h3
  exact ⟨fun x hx => by
   rcases List.mem_cons.1 hx with rfl | hx
   ·exact ⟨ns, h1, fun m hm => by
     obtain ⟨m', h4, h5⟩ := a1 m hm
     exact ⟨m', b2 _ h4, h5⟩⟩
   ·exact b1 x hx, fun m hm => b2 _ (a2 m hm)⟩
end Rx
namespace Rx
open Go Go.RowKit
section
variable {T : Nat → List A → Bool × List A} {e : Nat → A} {n n' : Nat} {loc loc' : Loc} {P : Program} {X : Ctx} {w0 : W0}
variable {fr : List SV} {rows : List Row} {gs : List (L × Bool)} {pc : L} {o : Oper} {g : G} {inl : Inline}
theorem Oper.Ws {K : Act → World → Prop} {Q : Exit → Act → World → Prop} {a : Act} {w : World} (h : o.wp P a w K (Exit.then K Q)) : o.wp P a w K Q := by
 unfold Oper.wp at *
 generalize (Go.execOp a.eval o).run P w = r at *
 cases r with
 | ok n w' =>
  cases n <;> simp only [Oper.upon] at h ⊢ <;> first | exact h | exact Calls.mono h (fun e w'' he => by cases e <;> exact he)
 | halt x w' => cases x <;> simp only [Oper.upon] at h ⊢ <;> exact h
theorem Od (hX : XOK P T X) (hI : HC P T e w0 inl) {ops : List Oper} {nd nd' : Nd} {i : Nat} (h : Ga X inl ops pc nd i = some nd') (hg : Good T e nd'.g) :
  nd'.listed = nd.listed.set i true ∧ Good T e nd.g ∧ ∀ (loc : Loc) (a : Act) (w : World) (K : Act → World → Prop) (Q : Exit → Act → World → Prop), (pc.ev e).bool = true → An e nd.rows.length loc nd.fr a.tmps → A8 e w0 loc nd.rows w →
   (∀ (loc' : Loc) (a' : Act) (w' : World), AG nd.rows.length loc loc' → nd.rows.length ≤ nd'.rows.length → An e nd'.rows.length loc' nd'.fr a'.tmps → a'.defers = a.defers → A8 e w0 loc' nd'.rows w' → K a' w') → wpOp P ops.toArray Q i K a w := by
 simp only [Ga, Option.bind_eq_bind, Option.bind_eq_some_iff] at h
 obtain ⟨o, ho, ⟨fr1, rows1, g1⟩, hex, h⟩ := h
 simp only at h
 split at h
 case isFalse => cases h
 injection h with h
 subst h
 obtain ⟨k1, k2⟩ := Bw hX hI hex hg
 refine ⟨rfl, k1, fun loc a w K Q hpc hf hw hK => ?_⟩
 have := k2 loc a w (Exit.then K Q) hpc hf hw hK
 unfold wpOp
 have ho' : ops.toArray[i]? = some o := by simpa using ho
 rw [ho']
 simp only
 unfold wpList at this
 split
 ·rename_i hwt
  rw [if_pos hwt] at this
  rcases this with h1 | h1
  ·exact .inl (Oper.Ws h1)
  ·exact .inr h1
 ·rename_i hwt
  rw [if_neg hwt] at this
  exact this
theorem Lt {ops : List Oper} {nd nd' : Nd} {i : Nat} (h : Ga X inl ops pc nd i = some nd') : nd.rows.length ≤ nd'.rows.length := by
 simp only [Ga, Option.bind_eq_bind, Option.bind_eq_some_iff] at h
 obtain ⟨o, ho, ⟨fr1, rows1, g1⟩, hex, h⟩ := h
 simp only at h
 split at h
 ·rename_i hle
  injection h with h
  subst h
  exact hle
 ·cases h
theorem QW {α β : Type} {f : α → Option β} : ∀ {l : List α} {r : List β}, Wh f l = some r → ∀ a ∈ l, ∃ b ∈ r, f a = some b
 | [], r, _, a, ha => by cases ha
 | x :: l, r, h, a, ha => by
  simp only [Wh, Option.bind_eq_bind, Option.bind_eq_some_iff, Option.some.injEq] at h
  obtain ⟨b, hb, r', hr, rfl⟩ := h
  rcases List.mem_cons.1 ha with rfl | ha
  ·exact ⟨b, by simp, hb⟩
  ·obtain ⟨b', h1, h2⟩ := QW hr a ha
   exact ⟨b', by simp [h1], h2⟩
theorem IL (hX : XOK P T X) (hI : HC P T e w0 inl) {ops : List Oper} {bs : Nat} (hns : Region.noSelect ops.toArray = true) {E : Nd} (hE : Region.ready .any ops.toArray E.listed.toArray = []) (hg : Good T e E.g) :
  ∀ (k : Nat) (l : List Nd), explore X inl ops pc bs k l = some [E] → ∀ nd ∈ l, Good T e nd.g ∧
   (bs ≤ nd.rows.length → bs ≤ E.rows.length ∧ ∀ (loc : Loc) (a : Act) (w : World) (Q : Exit → Act → World → Prop), (pc.ev e).bool = true → An e nd.rows.length loc nd.fr a.tmps → A8 e w0 loc nd.rows w →
    (∀ c a w, ¬ Q (.panic c) a w) → ¬ LetsOut Q →
    (∀ (loc' : Loc) (a' : Act) (w' : World), AG bs loc loc' → An e E.rows.length loc' E.fr a'.tmps → a'.defers = a.defers → A8 e w0 loc' E.rows w' → Q .normal a' w') →
     wpAny P .any ops.toArray Q k nd.listed.toArray a w)
 | 0, l, h, nd, hnd => by
  simp only [explore, Option.some.injEq] at h
  subst h
  simp only [List.mem_singleton] at hnd
  subst hnd
  exact ⟨hg, fun hb => ⟨hb, fun loc a w Q hpc hf hw _ _ hQ => ⟨hE, hQ loc a w (AG.refl _ _) hf rfl hw⟩⟩⟩
 | k + 1, l, h, nd, hnd => by
  simp only [explore, Option.bind_eq_bind, Option.bind_eq_some_iff] at h
  obtain ⟨l', h1, h2⟩ := h
  obtain ⟨ns, hs, hmem⟩ := (Ls h1).1 nd hnd
  have ih := IL hX hI hns hE hg k l' h2
  have hset : ∀ i, (nd.listed.set i true).toArray = nd.listed.toArray.setIfInBounds i true := fun i => by simp
  have step : ∀ i n, Ga X inl ops pc nd i = some n → (∃ m' ∈ l', M5 bs n m') → Good T e nd.g ∧ (bs ≤ nd.rows.length → nd.rows.length ≤ n.rows.length → bs ≤ E.rows.length) ∧ ∀ (loc : Loc) (a : Act) (w : World) (Q : Exit → Act → World → Prop), bs ≤ nd.rows.length → (pc.ev e).bool = true → An e nd.rows.length loc nd.fr a.tmps → A8 e w0 loc nd.rows w →
    (∀ c a w, ¬ Q (.panic c) a w) → ¬ LetsOut Q →
    (∀ (loc' : Loc) (a' : Act) (w' : World), AG bs loc loc' → An e E.rows.length loc' E.fr a'.tmps → a'.defers = a.defers → A8 e w0 loc' E.rows w' → Q .normal a' w') →
     wpOp P ops.toArray Q i (wpAny P .any ops.toArray Q k (nd.listed.toArray.setIfInBounds i true)) a w := fun i n hn ⟨m, hm, r1, r2, r3, r4⟩ => by
   obtain ⟨i1, i2⟩ := ih m hm
   rw [r2] at i1
   obtain ⟨s1, s2, s3⟩ := Od hX hI hn i1
   refine ⟨s2, fun hb hle => (i2 (r3 (Nat.le_trans hb hle))).1, fun loc a w Q hb hpc hf hw hp ho hQ => s3 loc a w _ Q hpc hf hw fun loc1 a1 w1 q1 q2 q3 q4 q5 => ?_⟩
   obtain ⟨loc2, z1, z2, z3⟩ := r4 e w0 loc1 a1.tmps w1 q3 q5
   have := (i2 (r3 (Nat.le_trans hb q2))).2 loc2 a1 w1 Q hpc z2 z3 hp ho fun loc' a' w' y1 y3 y4 y5 => hQ loc' a' w' (fun r hr => ((z1.trans y1 (Nat.le_refl _)) r hr).trans (q1 r (Nat.lt_of_lt_of_le hr hb))) y3 (y4.trans q4) y5
   rw [r1, s1, hset] at this
   exact this
  unfold UU at hs
  simp only at hs
  split at hs
  ·rename_i i hfind
   simp only [Option.bind_eq_bind, Option.bind_eq_some_iff, Option.some.injEq] at hs
   obtain ⟨n, hn, rfl⟩ := hs
   obtain ⟨s1, s0, s2⟩ := step i n hn (hmem n (by simp))
   have hready := List.mem_of_find?_eq_some hfind
   have hpure := List.find?_some hfind
   have hlen : nd.rows.length ≤ n.rows.length := Lt hn
   refine ⟨s1, fun hb => ⟨s0 hb hlen, fun loc a w Q hpc hf hw hp ho hQ => ?_⟩⟩
   have hop := s2 loc a w Q hb hpc hf hw hp ho hQ
   unfold UT at hpure
   split at hpure
   ·rename_i o hoi
    have hoi' : ops.toArray[i]? = some o := by simpa using hoi
    have key : ∀ x, (∀ (ρ : Operand → Value), Go.execOp ρ o = pure (.value (ρ x))) → Region.free .any ops.toArray nd.listed.toArray i = true → wpAny P .any ops.toArray Q (k + 1) nd.listed.toArray a w := fun x hx hfree => by
     have hrun : ∀ w, (Go.execOp a.eval o).run P w = .ok (.value (a.eval x)) w := fun w => by rw [hx]; simp
     unfold wpOp at hop
     rw [hoi'] at hop
     simp only at hop
     by_cases hwt : Region.wanted o (yielded ops.toArray a.tmps) = true
     ·rw [if_pos hwt] at hop
      refine wpAny_take hoi' hns hfree (by simpa using hready) (fun c a w h0 => absurd h0 (hp _ _ _)) (v := a.eval x) (.inl ⟨hwt, hrun⟩) ?_
      rcases hop with h1 | h1
      ·unfold Oper.wp at h1
       rw [hrun] at h1
       exact h1
      ·exact absurd h1.2 ho
     ·rw [if_neg hwt] at hop
      exact wpAny_take hoi' hns hfree (by simpa using hready) (fun c a w h0 => absurd h0 (hp _ _ _)) (v := undef) (.inr ⟨by simpa using hwt, rfl⟩) hop
    split at hpure
    ·rename_i x hox
     exact key x (fun ρ => by simp [Go.execOp, hox]) hpure
    ·rename_i x hox
     exact key x (fun ρ => by simp [Go.execOp, hox]) hpure
    ·cases hpure
   ·cases hpure
  ·split at hs
   ·cases hs
   ·rename_i hne
    have hne : Region.ready .any ops.toArray nd.listed.toArray ≠ [] := by simpa using hne
    have hall := QW hs
    obtain ⟨i0, hi0⟩ := List.exists_mem_of_ne_nil _ hne
    obtain ⟨n0, hn1, hn2⟩ := hall i0 hi0
    refine ⟨(step i0 n0 hn2 (hmem n0 hn1)).1, fun hb => ⟨(step i0 n0 hn2 (hmem n0 hn1)).2.1 hb (Lt hn2), fun loc a w Q hpc hf hw hp ho hQ => ⟨fun h0 => absurd h0 hne, fun i hi => ?_⟩⟩⟩
    obtain ⟨n, hn1, hn2⟩ := hall i hi
    exact (step i n hn2 (hmem n hn1)).2.2 loc a w Q hb hpc hf hw hp ho hQ
theorem Lu (hX : XOK P T X) (hI : HC P T e w0 inl) {ops : List Oper} {S S' : St} {g g' : G} (h : SX X inl ops S g = some (S', g')) (hg : Good T e g') :
  Good T e g ∧ S'.pc = S.pc ∧ ∀ (id : Nat) (loc : Loc) (a : Act) (w : World) (Q : Exit → Act → World → Prop), (S.pc.ev e).bool = true → An e S.rows.length loc S.fr a.tmps → A8 e w0 loc S.rows w →
   (∀ (loc' : Loc) (a' : Act) (w' : World), AG S.rows.length loc loc' → S.rows.length ≤ S'.rows.length → An e S'.rows.length loc' S'.fr a'.tmps → a'.defers = a.defers → A8 e w0 loc' S'.rows w' → Q .normal a' w') →
    (Code.region id ops.toArray true).wp P Q a w := by
 have drew : ∀ {loc : Loc} {rows : List Row} {w : World}, A8 e w0 loc rows w → A8 e w0 loc rows { w with drawn := w.drawn + 1 } := fun {loc rows w} hw =>
  hw.Ht ⟨rfl, rfl, rfl, Nat.le_refl _, fun _ _ => rfl⟩
 unfold SX at h
 split at h
 ·rename_i hns
  split at h
  ·rename_i E hex
   split at h
   ·rename_i hE
    simp only [Option.some.injEq, Prod.mk.injEq] at h
    obtain ⟨rfl, rfl⟩ := h
    have hE : Region.ready .any ops.toArray E.listed.toArray = [] := by simpa using hE
    obtain ⟨k1, k2⟩ := IL hX hI hns hE hg _ _ hex _ (List.mem_singleton.2 rfl)
    obtain ⟨k2, k3⟩ := k2 (Nat.le_refl _)
    refine ⟨k1, rfl, fun id loc a w Q hpc hf hw hQ => ?_⟩
    refine wp_mono (Q := fun e a w => match e with | .normal => Q .normal a w | _ => False) ?_ (fun e a w h0 => by cases e <;> first | exact h0 | exact h0.elim)
    refine wp_region_any hX.mixed ?_
    have := k3 loc a { w with drawn := w.drawn + 1 } (fun e a w => match e with | .normal => Q .normal a w | _ => False) hpc hf (drew hw) (fun _ _ _ h0 => h0) (fun ⟨_, _, h0⟩ => h0) (fun loc' a' w' y1 y2 y3 y4 => hQ loc' a' w' y1 k2 y2 y3 y4)
    simpa using this
   ·cases h
  ·cases h
 ·cases h
theorem KL (hX : XOK P T X) (hI : HC P T e w0 inl) {ops : List Oper} {draw : Bool} {S S' : St} {g g' : G} (h : I7 X inl ops draw S g = some (S', g')) (hg : Good T e g') :
  Good T e g ∧ S'.pc = S.pc ∧ ∀ (id : Nat) (loc : Loc) (a : Act) (w : World) (Q : Exit → Act → World → Prop), (S.pc.ev e).bool = true → An e S.rows.length loc S.fr a.tmps → A8 e w0 loc S.rows w →
   (∀ (loc' : Loc) (a' : Act) (w' : World), AG S.rows.length loc loc' → S.rows.length ≤ S'.rows.length → An e S'.rows.length loc' S'.fr a'.tmps → a'.defers = a.defers → A8 e w0 loc' S'.rows w' → Q .normal a' w') →
    (Code.region id ops.toArray draw).wp P Q a w := by
 have drew : ∀ {loc : Loc} {rows : List Row} {w : World}, A8 e w0 loc rows w → A8 e w0 loc rows { w with drawn := w.drawn + 1 } := fun {loc rows w} hw =>
  hw.Ht ⟨rfl, rfl, rfl, Nat.le_refl _, fun _ _ => rfl⟩
 unfold I7 at h
 split at h
 ·rename_i hd
  subst hd
  split at h
  ·rename_i r hq
   injection h with h
   subst h
   unfold SU at hq
   split at hq
   ·split at hq
    ·rename_i hB
     simp only [Option.bind_eq_bind, Option.bind_eq_some_iff] at hq
     obtain ⟨⟨fr1, rows1, g1⟩, h1, h⟩ := hq
     simp only [Option.some.injEq, Prod.mk.injEq] at h
     obtain ⟨rfl, rfl⟩ := h
     obtain ⟨k1, rfl, k3⟩ := Dn hX hI h1 hg
     refine ⟨k1, rfl, fun id loc a w Q hpc hf hw hQ => ?_⟩
     refine wp_region_quiet (C := A8 e w0 loc S.rows) hX.mixed hB (drew hw) ?_
     exact k3 loc a w _ hpc hf hw fun a' hf' hd w' hw' => hQ loc a' w' (AG.refl _ _) (Nat.le_refl _) hf' hd hw'
    ·cases hq
   ·cases hq
  ·split at h
   ·rename_i r hq
    injection h with h
    subst h
    unfold SW at hq
    split at hq
    ·rename_i hB
     simp only [Option.bind_eq_bind, Option.bind_eq_some_iff] at hq
     obtain ⟨⟨fr1, rows1, g1⟩, h1, ⟨fr2, rows2, g2⟩, h2, h⟩ := hq
     simp only [Option.some.injEq, Prod.mk.injEq] at h
     obtain ⟨rfl, rfl⟩ := h
     obtain ⟨k1, k2⟩ := Bw hX hI h2 hg
     obtain ⟨q1, rfl, q3⟩ := Dn hX hI h1 k1
     refine ⟨q1, rfl, fun id loc a w Q hpc hf hw hQ => ?_⟩
     refine Lz (Cl := A8 e w0 loc S.rows) hX.mixed hB (drew hw) ?_
     exact q3 loc a w _ hpc hf hw fun a' hf' hd w' hw' => k2 loc a' w' Q hpc hf' hw' fun loc' a'' w'' hx hl hf'' hd' hw'' => hQ loc' a'' w'' hx hl hf'' (by rw [hd', hd]) hw''
    ·cases hq
   ·split at h
    ·rename_i r hq
     injection h with h
     subst h
     exact Lu hX hI hq hg
    ·split at h
     ·rename_i fr1 rows1 g1 h1
      obtain ⟨k1, k2⟩ := Lu hX hI h hg
      exact ⟨(Bw hX hI h1 k1).1, k2⟩
     ·cases h
 ·rename_i hd
  have hd : draw = false := by simpa using hd
  subst hd
  simp only [Option.bind_eq_bind, Option.bind_eq_some_iff] at h
  obtain ⟨⟨fr1, rows1, g1⟩, h1, h⟩ := h
  simp only [Option.some.injEq, Prod.mk.injEq] at h
  obtain ⟨rfl, rfl⟩ := h
  obtain ⟨k1, k2⟩ := Bw hX hI h1 hg
  exact ⟨k1, rfl, fun id loc a w Q hpc hf hw hQ => wp_region_lit (k2 loc a w Q hpc hf hw hQ)⟩
end
end Rx
namespace Rx
open Go Go.RowKit
section
variable {T : Nat → List A → Bool × List A} {e : Nat → A} {n n' : Nat} {loc loc' : Loc} {P : Program} {X : Ctx} {w0 : W0}
theorem FE.DF {x y : FE} : x.same y = true ↔ x = y := by
 cases x <;> cases y <;> simp [FE.same]
theorem Av {x : FE} {s : St} {l : Aj} : Aj.get x ((x, s) :: l) = some s := by
 simp [Aj.get, FE.DF]
theorem AJ {x y : FE} {s : St} {l : Aj} (h : x ≠ y) : Aj.get x ((y, s) :: l) = Aj.get x l := by
 have : x.same y = false := by
  cases hs : x.same y with
  | false => rfl
  | true => exact absurd (FE.DF.1 hs) h
 simp [Aj.get, this]
theorem AN {x y : FE} (h : x ≠ y) : ∀ {l : Aj}, Aj.get x (Aj.drop y l) = Aj.get x l
 | [] => rfl
 | (z, s) :: l => by
  unfold Aj.drop
  split
  ·rename_i hz
   have hz := FE.DF.1 hz
   subst hz
   rw [AJ h, AN h]
  ·by_cases hxz : x = z
   ·subst hxz
    rw [Av, Av]
   ·rw [AJ hxz, AJ hxz, AN h]
theorem FW {x : FE} : ∀ {l : Aj}, Aj.get x (Aj.drop x l) = none
 | [] => rfl
 | (z, s) :: l => by
  unfold Aj.drop
  split
  ·exact FW
  ·rename_i hz
   rw [AJ (fun h0 => hz (FE.DF.2 h0)), FW]
def Ref (e : Nat → A) (w0 : W0) (s u : St) : Prop :=
 ∀ (loc : Loc) (tm : Array Value) (w : World), An e s.rows.length loc s.fr tm → A8 e w0 loc s.rows w → ∃ loc' : Loc, AG s.rows.length loc loc' ∧ s.rows.length ≤ u.rows.length ∧ An e u.rows.length loc' u.fr tm ∧ A8 e w0 loc' u.rows w
theorem Ref.refl (s : St) : Ref e w0 s s := fun loc _ _ h h' => ⟨loc, AG.refl _ _, Nat.le_refl _, h, h'⟩
theorem Ref.pc {s : St} (pc : L) : Ref e w0 s { s with pc } := fun loc _ _ h h' => ⟨loc, AG.refl _ _, Nat.le_refl _, h, h'⟩
theorem Ref.trans {s t u : St} (h1 : Ref e w0 s t) (h2 : Ref e w0 t u) : Ref e w0 s u := fun loc tm w a b => by
 obtain ⟨l1, x1, n1, f1, c1⟩ := h1 loc tm w a b
 obtain ⟨l2, x2, n2, f2, c2⟩ := h2 l1 tm w f1 c1
 exact ⟨l2, x1.trans x2 n1, Nat.le_trans n1 n2, f2, c2⟩
theorem Wu {N r R : Nat} {k : K} {v : Value} (h : k.rel e N loc v) (hR : N ≤ R) : (YB r R k).rel e (R + 1) (AH loc R (loc r)) v := by
 have hx : AG N loc (AH loc R (loc r)) := fun s hs => by simp [AH, Nat.ne_of_lt (Nat.lt_of_lt_of_le hs hR)]
 unfold YB
 split
 ·rename_i r' m
  split
  ·rename_i hr
   have hr : r' = r := by simpa using hr
   subst hr
   obtain ⟨h1, h2, h3⟩ := h
   simp only [K.ok] at h1
   refine ⟨⟨by omega, h1.2.1, fun he => ?_⟩, h2, .inr ?_⟩
   ·rw [Ao] at he ⊢
    exact h1.2.2 he
   ·rcases h3 with h3 | h3
    ·cases h3
    ·rw [h3]
     simp only [K.A7]
     rw [Ao]
  ·exact K.Bp h hx (by omega)
 ·exact K.Bp h hx (by omega)
theorem Td {N r R : Nat} {k : C} {v : Value} (h : k.rel e N loc v) (hR : N ≤ R) : (Yr r R k).rel e (R + 1) (AH loc R (loc r)) v := by
 cases k with
 | k x => exact Wu h hR
 | clo f a b =>
  have hx : AG N loc (AH loc R (loc r)) := fun s hs => by simp [AH, Nat.ne_of_lt (Nat.lt_of_lt_of_le hs hR)]
  exact C.Bp h hx (by omega)
 | cfn x f h' => exact h
theorem QX {N r R : Nat} (hR : N ≤ R) : ∀ {l : List C} {vs : List Value}, Ag e N loc l vs → Ag e (R + 1) (AH loc R (loc r)) (l.map (Yr r R)) vs
 | [], [], _ => trivial
 | _ :: _, _ :: _, h => ⟨Td h.1 hR, QX hR h.2⟩
theorem M7 {N r R : Nat} {p : PV} {v : Value} (h : p.rel e N loc v) (hR : N ≤ R) : (UD r R p).rel e (R + 1) (AH loc R (loc r)) v := by
 cases p with
 | one c => exact Td h hR
 | agg l => obtain ⟨vs, h1, h2⟩ := h; exact ⟨vs, h1, QX hR h2⟩
theorem O6 {N r R : Nat} (hR : N ≤ R) : ∀ {l : List PV} {vs : List Value}, Ar e N loc l vs → Ar e (R + 1) (AH loc R (loc r)) (l.map (UD r R)) vs
 | [], [], _ => trivial
 | _ :: _, _ :: _, h => ⟨M7 h.1 hR, O6 hR h.2⟩
theorem Vj {N r R : Nat} {p : SV} {v : Value} (h : p.rel e N loc v) (hR : N ≤ R) : (XM r R p).rel e (R + 1) (AH loc R (loc r)) v := by
 cases p with
 | pv p => exact M7 h hR
 | tup l => obtain ⟨vs, h1, h2⟩ := h; exact ⟨vs, h1, O6 hR h2⟩
 | cond gs p => exact ⟨fun hg => M7 (h.1 hg) hR, h.2⟩
 | undef => exact h
 | junk => trivial
theorem Wv {r R : Nat} {s : St} : (RG r R s).pc = s.pc := by
 unfold RG
 split
 ·split
  ·split <;> rfl
  ·rfl
 ·rfl
theorem Vk {r R : Nat} {s : St} (h : s.rows.length ≤ R) : (RG r R s).rows.length ≤ R + 1 := by
 unfold RG
 split
 ·split
  ·split
   ·simp [AW, Au]; omega
   ·omega
  ·omega
 ·omega
theorem Vl {r R : Nat} {s : St} : Ref e w0 s (RG r R s) := by
 unfold RG
 split
 ·rename_i row hrow
  split
  ·rename_i q hq
   split
   ·rename_i hc
    simp only [Bool.and_eq_true, decide_eq_true_eq] at hc
    obtain ⟨c1, c2⟩ := hc
    intro loc tm w hf hcl
    have hlen : (Au (s.rows.set r Row.dead) R).length = R := by simp [Au]; omega
    obtain ⟨B, hB, hR, hbel⟩ := hcl
    have hl := (hR.lst r row q hrow hq).2
    have hr1 := Ab hrow
    have hadd := ((hR.kill r).pad R).TG (x := loc r) (q := q) c1 (fun he s' y hs ho => ?_) (hl.at_ (by rw [hlen]; exact Ao _ _ _))
    ·rw [hlen] at hadd
     refine ⟨AH loc R (loc r), fun s' hs' => by simp [AH, Nat.ne_of_lt (Nat.lt_of_lt_of_le hs' c2)], by simp only [AW, List.length_append, hlen]; simp; omega, ?_, B, hB, hadd, hbel⟩
     have hlen2 : (AW (Au (s.rows.set r Row.dead) R) q).length = R + 1 := by simp [AW, hlen]
     rw [hlen2]
     refine ⟨by simpa using hf.len, fun i t v ht hv => ?_⟩
     rw [List.getElem?_map] at ht
     cases hs : s.fr[i]? with
     | none => rw [hs] at ht; cases ht
     | some x =>
      rw [hs] at ht
      simp only [Option.map_some, Option.some.injEq] at ht
      subst ht
      exact Vj (hf.at_ i x v hs hv) c2
    ·have hy : s' ≠ r ∧ s.rows[s']? = some y := by
      unfold Au at hs
      rw [List.getElem?_append] at hs
      split at hs
      ·by_cases hsr : s' = r
       ·subst hsr
        rw [List.getElem?_set_self hr1] at hs
        injection hs with hs
        subst hs
        rcases ho with ho | ⟨_, ho, _⟩ <;> simp [Row.dead] at ho
       ·exact ⟨hsr, by rwa [List.getElem?_set_ne (Ne.symm hsr)] at hs⟩
      ·have := List.mem_of_getElem? hs
       rw [List.mem_replicate] at this
       rw [this.2] at ho
       rcases ho with ho | ⟨_, ho, _⟩ <;> simp [Row.dead] at ho
     refine (hR.lapart r s' row y hrow hy.2 ⟨q, hq, c1, he⟩ ?_).symm
     rcases ho with ho | ho
     ·exact .inl ho
     ·exact .inr ⟨ho, Ne.symm hy.1⟩
   ·exact Ref.refl _
  ·exact Ref.refl _
 ·exact Ref.refl _
theorem Vm {i R : Nat} {q : Option F5} {s : St} : (Mr i R q s).pc = s.pc := by
 unfold Mr
 split
 ·split
  ·split <;> rfl
  ·rfl
 ·rfl
theorem TN {i R : Nat} {q : Option F5} {s : St} (h : s.rows.length ≤ R) : (Mr i R q s).rows.length ≤ R + 1 := by
 unfold Mr
 split
 ·split
  ·split
   ·simp [AW, Au]; omega
   ·omega
  ·omega
 ·omega
theorem TO {i R : Nat} {o : Option F5} {s : St} : Ref e w0 s (Mr i R o s) := by
 unfold Mr
 split
 ·rename_i q
  split
  ·rename_i hi
   split
   ·rename_i hc
    simp only [Bool.and_eq_true, decide_eq_true_eq, bne_iff_ne, ne_eq] at hc
    obtain ⟨⟨c0, c1⟩, c2⟩ := hc
    intro loc tm w hf hcl
    have hlen : (Au s.rows R).length = R := by simp [Au]; omega
    obtain ⟨B, hB, hR, hbel⟩ := hcl
    have hadd := (hR.pad R).TG (x := M0) (q := { own := true, ty := q.ty, ss := q.ss, x := .e, n := .n 0 }) rfl (fun he => by cases he) (by
     refine ⟨[], 0, rfl, by simp, rfl, Nat.pos_of_ne_zero c1, ?_⟩
     rw [if_pos rfl, Ao, if_pos (show M0.emp = true from rfl)]
     exact ⟨rfl, rfl⟩)
    rw [hlen] at hadd
    have hx : AG s.rows.length loc (AH loc R M0) := fun s' hs' => by simp [AH, Nat.ne_of_lt (Nat.lt_of_lt_of_le hs' c2)]
    have hlen2 : (AW (Au s.rows R) { own := true, ty := q.ty, ss := q.ss, x := .e, n := .n 0 }).length = R + 1 := by simp [AW, hlen]
    refine ⟨AH loc R M0, hx, by show s.rows.length ≤ (AW _ _).length; rw [hlen2]; exact Nat.le_succ_of_le c2, ?_, B, hB, hadd, hbel⟩
    show An e (AW _ _).length _ _ _
    rw [hlen2]
    refine ⟨by simpa using hf.len, fun j t v ht hv => ?_⟩
    by_cases hj : i = j
    ·subst hj
     rw [List.getElem?_set_self (Ab hi)] at ht
     injection ht with ht
     subst ht
     have := hf.at_ i _ v hi hv
     have hv' : v = .slice none 0 0 := by
      have h3 := this.2.2
      rcases h3 with h3 | h3
      ·cases h3
      ·exact h3
     refine ⟨⟨by omega, by simp, fun _ => ⟨by rw [Ao]; rfl, by simp⟩⟩, this.2.1, .inr ?_⟩
     rw [hv']
     simp only [K.A7]
     rw [Ao]
     rfl
    ·rw [List.getElem?_set_ne hj] at ht
     exact SV.Bp (hf.at_ j t v ht hv) hx (by omega)
   ·exact Ref.refl _
  ·exact Ref.refl _
 ·exact Ref.refl _
theorem Te {x : Nat × Bool} {R : Nat} {q : Option F5} {s : St} : (NX x R q s).pc = s.pc := by
 unfold NX
 split
 ·exact Wv
 ·exact Vm
theorem QY {x : Nat × Bool} {R : Nat} {q : Option F5} {s : St} (h : s.rows.length ≤ R) : (NX x R q s).rows.length ≤ R + 1 := by
 unfold NX
 split
 ·exact Vk h
 ·exact TN h
theorem QZ {x : Nat × Bool} {R : Nat} {q : Option F5} {s : St} : Ref e w0 s (NX x R q s) := by
 unfold NX
 split
 ·exact Vl
 ·exact TO
theorem Lv : ∀ {l : List ((Nat × Bool) × (Nat × Bool))} {R : Nat} {s t : St}, s.rows.length ≤ R → t.rows.length ≤ R →
  Ref e w0 s (F7 l R (s, t)).1 ∧ Ref e w0 t (F7 l R (s, t)).2 ∧ (F7 l R (s, t)).1.pc = s.pc ∧ (F7 l R (s, t)).2.pc = t.pc
 | [], R, s, t, _, _ => ⟨Ref.refl _, Ref.refl _, rfl, rfl⟩
 | (a, b) :: l, R, s, t, hs, ht => by
  obtain ⟨h1, h2, h3, h4⟩ := Lv (l := l) (R := R + 1) (s := NX a R (SL b t) s) (t := NX b R (SL a s) t) (QY hs) (QY ht)
  exact ⟨QZ.trans h1, QZ.trans h2, h3.trans Te, h4.trans Te⟩
theorem Ad.Vn {rows rows' : List Row} {w : World} {B : Bd} (h : Ad e loc rows w B) (hl : rows'.length = rows.length)
  (hr : ∀ (r : Nat) x', rows'[r]? = some x' → ∃ x, rows[r]? = some x ∧ x'.own = x.own ∧ x'.ty = x.ty ∧ x'.es = x.es ∧ x'.lst = x.lst ∧ (x' = x ∨ (x.own = true ∧ ∀ vs, Ag e rows.length loc x.cells vs → Ag e rows.length loc x'.cells vs))) : Ad e loc rows' w B := by
 have lo : ∀ {r : Nat} {x x' : Row}, x'.lst = x.lst → BT loc r x' → BT loc r x := fun {r x x'} hx ⟨q, q1, q2, q3⟩ => ⟨q, by rw [← hx]; exact q1, q2, q3⟩
 refine ⟨fun r x' hx => ?_, fun r x' q hx hq => ?_, fun r s x' y' hx hy ox oy => ?_, fun r s x' y' hx hy ox oy hne => ?_⟩
 ·obtain ⟨x, h1, h2, h3, h4, h5, h6⟩ := hr r x' hx
  rcases h6 with rfl | ⟨h6, h7⟩
  ·rw [hl]; exact h.row r _ h1
  ·have := h.row r x h1
   unfold AA at this ⊢
   rw [if_pos h6] at this
   rw [if_pos (h2.trans h6), h3, h4, hl]
   obtain ⟨a1, a2, a3, a4, vs, sp, a5, a6, a7⟩ := this
   exact ⟨a1, a2, a3, a4, vs, sp, a5, h7 vs a6, a7⟩
 ·obtain ⟨x, h1, h2, h3, h4, h5, h6⟩ := hr r x' hx
  rw [h5] at hq
  obtain ⟨k1, k2⟩ := h.lst r x q h1 hq
  exact ⟨h2.trans k1, k2⟩
 ·obtain ⟨x, h1, h2, _, _, h5, _⟩ := hr r x' hx
  obtain ⟨y, g1, g2, _, _, g5, _⟩ := hr s y' hy
  refine h.lapart r s x y h1 g1 (lo h5 ox) ?_
  rcases oy with oy | ⟨oy, hne⟩
  ·exact .inl (g2.symm.trans oy)
  ·exact .inr ⟨lo g5 oy, hne⟩
 ·obtain ⟨x, h1, h2, _⟩ := hr r x' hx
  obtain ⟨y, g1, g2, _⟩ := hr s y' hy
  exact h.apart r s x y h1 g1 (h2.symm.trans ox) (g2.symm.trans oy) hne
section
variable {N r R : Nat} {q : L}
theorem Ww (hq : ∀ (v : Value), (K.lsl r q).rel e N loc v → (K.fsl R q).rel e N loc v) {k : K} {v : Value} (h : k.rel e N loc v) : (YC r R q k).rel e N loc v := by
 unfold YC
 split
 ·split
  ·rename_i hr
   have hr := eq_of_beq hr
   subst hr
   split
   ·rename_i hn
    have := L.Ae hn
    subst this
    exact hq v h
   ·exact K.BU h
  ·exact h
 ·exact h
theorem Tf (hq : ∀ (v : Value), (K.lsl r q).rel e N loc v → (K.fsl R q).rel e N loc v) {k : C} {v : Value} (h : k.rel e N loc v) : (XN r R q k).rel e N loc v := by
 cases k with
 | k x => exact Ww hq h
 | clo f a b => exact h
 | cfn x f h' => exact h
theorem M8 (hq : ∀ (v : Value), (K.lsl r q).rel e N loc v → (K.fsl R q).rel e N loc v) : ∀ {l : List C} {vs : List Value}, Ag e N loc l vs → Ag e N loc (l.map (XN r R q)) vs
 | [], [], _ => trivial
 | _ :: _, _ :: _, h => ⟨Tf hq h.1, M8 hq h.2⟩
theorem M9 (hq : ∀ (v : Value), (K.lsl r q).rel e N loc v → (K.fsl R q).rel e N loc v) {p : PV} {v : Value} (h : p.rel e N loc v) : (UE r R q p).rel e N loc v := by
 cases p with
 | one c => exact Tf hq h
 | agg l => obtain ⟨vs, h1, h2⟩ := h; exact ⟨vs, h1, M8 hq h2⟩
theorem O7 (hq : ∀ (v : Value), (K.lsl r q).rel e N loc v → (K.fsl R q).rel e N loc v) : ∀ {l : List PV} {vs : List Value}, Ar e N loc l vs → Ar e N loc (l.map (UE r R q)) vs
 | [], [], _ => trivial
 | _ :: _, _ :: _, h => ⟨M9 hq h.1, O7 hq h.2⟩
theorem Vo (hq : ∀ (v : Value), (K.lsl r q).rel e N loc v → (K.fsl R q).rel e N loc v) {p : SV} {v : Value} (h : p.rel e N loc v) : (Xb r R q p).rel e N loc v := by
 cases p with
 | pv p => exact M9 hq h
 | tup l => obtain ⟨vs, h1, h2⟩ := h; exact ⟨vs, h1, O7 hq h2⟩
 | cond gs p => exact ⟨fun hg => M9 hq (h.1 hg), h.2⟩
 | undef => exact h
 | junk => trivial
end
theorem Q0 {r R : Nat} {s : St} : (Iz r R s).pc = s.pc := by
 unfold Iz
 split
 ·split
  ·split <;> rfl
  ·rfl
 ·rfl
theorem O8 {r R : Nat} {s : St} (h : s.rows.length ≤ R) : (Iz r R s).rows.length ≤ R + 1 := by
 unfold Iz
 split
 ·split
  ·split
   ·simp [Au]; omega
   ·omega
  ·omega
 ·omega
theorem EV {l : List Row} {R : Nat} (h : l.length ≤ R) : (Au l R).length = R := by simp [Au]; omega
theorem Ref.N4 {s : St} {R : Nat} {x : Row} {fr : List SV} {rows : List Row} {pc : L} (hR : s.rows.length ≤ R)
  (hrl : rows.length = R + 1)
  (h : ∀ (loc : Loc) (tm : Array Value) (w : World) (B : Bd), An e s.rows.length loc s.fr tm → Ad e loc s.rows w B → B.le w → ∃ (F : Nat → Prop) (v : Value), (∀ k, B.F k → F k) ∧ (∀ k, F k → B.F k ∨ (B.n ≤ k ∧ k < w.heap.size)) ∧ ∃ rows0 : List Row, rows0.length ≤ R ∧
   Ad e loc rows0 w ⟨B.n, F⟩ ∧ Er e (Cb ⟨B.n, F⟩ w) x v ∧
   (∀ loc', AG R loc loc' → loc' R = DN v → An e (R + 1) loc' s.fr tm → Ad e loc' (Au rows0 R ++ [x]) w ⟨B.n, F⟩ → An e (R + 1) loc' fr tm ∧ Ad e loc' rows w ⟨B.n, F⟩)) : Ref e w0 s ⟨fr, rows, pc⟩ := by
 intro loc tm w hf hcl
 obtain ⟨B, ⟨hBn, hBF, hBl⟩, hR0, hbel⟩ := hcl
 obtain ⟨F, v, f1, f2, rows0, hl0, hR1, hx, hfin⟩ := h loc tm w B hf hR0 hBl
 have hpl := EV hl0
 have hadd := (hR1.pad R).N4 (news := [x]) (vs := [v]) fun t row ht => by
  cases t with
  | zero =>
   simp only [List.getElem?_cons_zero, Option.some.injEq] at ht
   subst ht
   exact ⟨v, rfl, hx⟩
  | succ t => simp at ht
 rw [hpl] at hadd
 have hx1 : AG R loc (CB loc R [v]) := Ce loc R [v]
 have hat : CB loc R [v] R = DN v := by have := Ed loc R [v] (t := 0) rfl; simpa using this
 obtain ⟨k1, k2⟩ := hfin _ hx1 hat (hf.ext (fun r hr => hx1 r (by omega)) (by omega)) hadd
 refine ⟨_, fun r hr => hx1 r (by omega), by show s.rows.length ≤ rows.length; omega, by show An e rows.length _ fr tm; rw [hrl]; exact k1, ⟨B.n, F⟩, ⟨hBn, fun k hk => ?_, hBl.1, fun k hk => ?_⟩, k2, hbel⟩
 ·rcases f2 k hk with h1 | h1
  ·exact hBF k h1
  ·exact .inr h1.1
 ·rcases f2 k hk with h1 | h1
  ·exact hBl.2 k h1
  ·exact h1.2
theorem O9 {r R : Nat} {s : St} : Ref e w0 s (Iz r R s) := by
 unfold Iz
 split
 ·rename_i row hrow
  split
  ·rename_i q hq
   split
   ·rename_i hc
    simp only [Bool.and_eq_true, decide_eq_true_eq] at hc
    obtain ⟨c1, c2⟩ := hc
    have hr1 := Ab hrow
    refine Ref.N4 (x := BD q.ss q.x q.n) c2 (by simp [Au]; omega) fun loc tm w B hf hR0 hBl => ?_
    obtain ⟨as, m, l1, l2, l3, l4, l5⟩ := (hR0.lst r row q hrow hq).2
    rw [if_pos c1] at l5
    have rest : ∀ (v : Value), (∀ u, (K.lsl r q.n).rel e (R + 1) loc u → u = v ∧ ∃ a c, v = .slice a m c) → ∀ (F : Nat → Prop), ∀ loc', AG R loc loc' → loc' R = DN v → An e (R + 1) loc' s.fr tm → Ad e loc' (Au (s.rows.set r Row.dead) R ++ [BD q.ss q.x q.n]) w ⟨B.n, F⟩ →
      An e (R + 1) loc' (s.fr.map (Xb r R q.n)) tm ∧ Ad e loc' ((Au (s.rows.set r Row.dead) R ++ [BD q.ss q.x q.n]).map (UF r R q.n)) w ⟨B.n, F⟩ := fun v hv F loc' hx hat hf' hR' => by
     have hpl : (Au (s.rows.set r Row.dead) R).length = R := EV (by simpa using c2)
     have hq' : ∀ u, (K.lsl r q.n).rel e (R + 1) loc' u → (K.fsl R q.n).rel e (R + 1) loc' u := fun u hu => by
      have hlr : loc' r = loc r := hx r (by omega)
      have hu0 : (K.lsl r q.n).rel e (R + 1) loc u := by
       obtain ⟨h1, h2, h3⟩ := hu
       simp only [K.ok, K.A7, hlr] at h1 h3
       exact ⟨h1, h2, h3⟩
      obtain ⟨rfl, a, c, hv2⟩ := hv u hu0
      refine ⟨⟨by omega, hu.1.2.1, a, c, by rw [hat, CA, l3]; simpa using hv2⟩, hu.2.1, .inr ?_⟩
      simp only [K.A7]
      rw [hat, CA]
     refine ⟨⟨by simpa using hf'.len, fun i t u ht hu => ?_⟩, hR'.Vn (by simp) fun r' x' hx' => ?_⟩
     ·rw [List.getElem?_map] at ht
      cases hs : s.fr[i]? with
      | none => rw [hs] at ht; cases ht
      | some y =>
       rw [hs] at ht
       simp only [Option.map_some, Option.some.injEq] at ht
       subst ht
       exact Vo hq' (hf'.at_ i y u hs hu)
     ·rw [List.getElem?_map] at hx'
      cases hs : (Au (s.rows.set r Row.dead) R ++ [BD q.ss q.x q.n])[r']? with
      | none => rw [hs] at hx'; cases hx'
      | some y =>
       rw [hs] at hx'
       simp only [Option.map_some, Option.some.injEq] at hx'
       subst hx'
       refine ⟨y, rfl, ?_⟩
       unfold UF
       split
       ·rename_i ho
        refine ⟨rfl, rfl, rfl, rfl, .inr ⟨ho, fun vs hvs => ?_⟩⟩
        have hll : (Au (s.rows.set r Row.dead) R ++ [BD q.ss q.x q.n]).length = R + 1 := by simp [hpl]
        rw [hll] at hvs ⊢
        exact M8 hq' hvs
       ·exact ⟨rfl, rfl, rfl, rfl, .inl rfl⟩
    cases he : (loc r).emp
    ·rw [if_neg (by simp [he])] at l5
     obtain ⟨g1, g2, g3, us, sp, g4, g5, g6⟩ := l5
     have hF : ∀ k, B.F k → (B.F k ∨ k = (loc r).blk) := fun k hk => .inl hk
     have hm : ∀ a u, Cb B w a = some u → Cb ⟨B.n, fun k => B.F k ∨ k = (loc r).blk⟩ w a = some u := FJ hF fun _ _ => rfl
     refine ⟨fun k => B.F k ∨ k = (loc r).blk, .slice (some ⟨(loc r).blk, 0, none⟩) m (loc r).cap, hF, fun k hk => ?_, s.rows.set r Row.dead, by simpa using c2, (hR0.kill r).QE hF fun s' x hs ho => ?_, ⟨rfl, rfl, _, as, m, rfl, rfl, l4, l1, l2, l3, ?_⟩, rest _ (fun u hu => ?_) _⟩
     ·rcases hk with hk | rfl
      ·exact .inl hk
      ·exact .inr ⟨g2.1, DY g4⟩
     ·intro h0
      by_cases hsr : s' = r
      ·subst hsr
       rw [List.getElem?_set_self hr1] at hs
       injection hs with hs
       subst hs
       rcases ho with ho | ⟨_, ho, _⟩ <;> simp [Row.dead] at ho
      ·rw [List.getElem?_set_ne (Ne.symm hsr)] at hs
       have hlo : BT loc r row := ⟨q, hq, c1, he⟩
       rcases h0 with h0 | h0
       ·rcases ho with ho | ho
        ·have := hR0.row s' x hs
         unfold AA at this
         rw [if_pos ho] at this
         exact this.2.2.1.2 h0
        ·exact (hR0.PL hs ho).2.2 h0
       ·refine hR0.lapart r s' row x hrow hs hlo ?_ h0.symm
        rcases ho with ho | ho
        ·exact .inl ho
        ·exact .inr ⟨ho, Ne.symm hsr⟩
     ·have hul : us.length = as.length := g6.1
      by_cases hm0 : as = []
      ·subst hm0
       have : m = 0 := by
        rcases Nat.mul_eq_zero.1 (show m * q.ss.length = 0 from l2.symm) with h | h
        ·exact h
        ·omega
       subst this
       exact .emp
      ·refine .sl l4 l2 hul (fun j u hu => ?_) (fun j s' a u h1 h2 h3 => (g6.2 j s' a u h1 h2 h3).mono hm)
       refine CX ?_ (.inr rfl)
       simp only [World.cell?, g4, Nat.zero_add]
       simp [List.getElem?_append_left (Ab hu), hu]
     ·obtain ⟨h1, _, h3⟩ := hu
      rcases h3 with h3 | h3
      ·cases h3
      ·simp only [K.A7, he, Bool.false_eq_true, if_false] at h3
       rw [g1, l3] at h3
       exact ⟨by simpa using h3, _, _, rfl⟩
    ·rw [if_pos he] at l5
     have has : as = [] := List.eq_nil_of_length_eq_zero (by rw [l2, l5.1]; simp)
     subst has
     refine ⟨B.F, .slice none 0 0, fun k hk => hk, fun k hk => .inl hk, s.rows.set r Row.dead, by simpa using c2, hR0.kill r, ⟨rfl, rfl, _, [], m, rfl, rfl, l4, l1, l2, l3, .emp⟩, rest _ (fun u hu => ?_) _⟩
     obtain ⟨h1, _, h3⟩ := hu
     rcases h3 with h3 | h3
     ·cases h3
     ·simp only [K.A7, he, if_true] at h3
      exact ⟨h3.trans l5.2, none, 0, by rw [l5.1]⟩
   ·exact Ref.refl _
  ·exact Ref.refl _
 ·exact Ref.refl _
theorem Q2 {s : St} {p : Pos} {k : K} (h : XO s p = some k) : (∃ i, p = .slot i ∧ s.fr[i]? = some (.pv (.one (.k k)))) ∨ (∃ r j row, p = .cell r j ∧ s.rows[r]? = some row ∧ row.own = true ∧ row.cells[j]? = some (.k k)) := by
 unfold XO at h
 split at h
 ·rename_i i
  split at h
  ·injection h with h; subst h; exact .inl ⟨i, rfl, ‹_›⟩
  ·cases h
 ·rename_i r j
  split at h
  ·rename_i row hrow
   split at h
   ·rename_i k' hk
    split at h
    ·rename_i ho
     injection h with h; subst h
     exact .inr ⟨r, j, row, rfl, hrow, ho, hk⟩
    ·cases h
   ·cases h
  ·cases h
theorem IM {N : Nat} {k : C} : ∀ {l : List C} {vs : List Value} {j : Nat} {c : C}, l[j]? = some c → (∀ v, c.rel e N loc v → k.rel e N loc v) → Ag e N loc l vs → Ag e N loc (l.set j k) vs
 | [], _, _, _, h, _, _ => by simp at h
 | a :: l, [], _, _, _, _, h => h.elim
 | a :: l, v :: vs, 0, c, h, hk, hv => by
  simp only [List.getElem?_cons_zero, Option.some.injEq] at h
  subst h
  exact ⟨hk v hv.1, hv.2⟩
 | a :: l, v :: vs, j + 1, c, h, hk, hv => ⟨hv.1, IM (by simpa using h) hk hv.2⟩
theorem Vp {s : St} {p : Pos} {R : Nat} {k : K} {ss : List Ak} {x n : L} (hk : XO s p = some k) (hR : s.rows.length ≤ R)
  (h : ∀ (loc : Loc) (w : World) (B : Bd), Ad e loc s.rows w B → (∃ u, k.rel e s.rows.length loc u) → ∃ v, Er e (Cb B w) (BD ss x n) v ∧ ∀ u, k.rel e (R + 1) loc u → u = v) :
  Ref e w0 s (Hc { s with rows := Au s.rows R ++ [BD ss x n] } p (.fsl R n)) := by
 have hpl := EV hR
 have hlen : ∀ {s' : St}, (Hc s' p (.fsl R n)).rows.length = s'.rows.length := fun {s'} => by
  unfold Hc
  split
  ·rfl
  ·split <;> simp
 have hpc : ∀ {s' : St}, (Hc s' p (.fsl R n)).pc = s'.pc := fun {s'} => by
  unfold Hc
  split
  ·rfl
  ·split <;> rfl
 intro loc tm w hf hcl
 refine (Ref.N4 (e := e) (w0 := w0) (s := s) (R := R) (x := BD ss x n) (fr := (Hc { s with rows := Au s.rows R ++ [BD ss x n] } p (.fsl R n)).fr) (rows := (Hc { s with rows := Au s.rows R ++ [BD ss x n] } p (.fsl R n)).rows) (pc := (Hc { s with rows := Au s.rows R ++ [BD ss x n] } p (.fsl R n)).pc) hR (by rw [hlen]; simp [hpl]) fun loc tm w B hf hR0 hBl => ?_) loc tm w hf hcl
 have hu0 : ∃ u, k.rel e s.rows.length loc u := by
  rcases Q2 hk with ⟨i, _, hi⟩ | ⟨r, j, row, _, hrow, ho, hc⟩
  ·obtain ⟨v, _, _, h3⟩ := hf.get hi
   exact ⟨v, h3⟩
  ·obtain ⟨v, _, h3⟩ := hR0.cell hrow hc
   exact ⟨v, h3⟩
 obtain ⟨v, hx, hv⟩ := h loc w B hR0 hu0
 refine ⟨B.F, v, fun k hk => hk, fun k hk => .inl hk, s.rows, hR, hR0, hx, fun loc' hx1 hat hf' hR' => ?_⟩
 have hll : (Au s.rows R ++ [BD ss x n]).length = R + 1 := by simp [hpl]
 have hkk : ∀ u, k.rel e s.rows.length loc u → (K.fsl R n).rel e (R + 1) loc' u := fun u hu => by
  have e1 := hv u (K.Bp hu (AG.refl _ _) (by omega))
  subst e1
  obtain ⟨_, _, q, as, m, q1, q2, q3, q4, q5, q6, q7⟩ := hx
  simp only [BD, Option.some.injEq] at q1
  subst q1
  obtain ⟨as', m', c, b, k1, k2, k3, k4⟩ := q7.slice
  injection k1 with k1
  subst k1
  have : m' = m := Nat.eq_of_mul_eq_mul_right q3 (by rw [← k3, q5])
  subst this
  refine ⟨⟨by omega, by rw [q6]; omega, b, c, by rw [hat, CA, q6]; simpa using k2⟩, hu.2.1, .inr ?_⟩
  simp only [K.A7]
  rw [hat, CA]
 rcases Q2 hk with ⟨i, rfl, hi⟩ | ⟨r, j, row, rfl, hrow, ho, hc⟩
 ·refine ⟨?_, hR'⟩
  refine ⟨by simpa [Hc] using hf'.len, fun i' t u ht hu => ?_⟩
  simp only [Hc] at ht
  by_cases hii : i = i'
  ·subst hii
   rw [List.getElem?_set_self (Ab hi)] at ht
   injection ht with ht
   subst ht
   exact hkk u (hf.at_ i _ u hi hu)
  ·rw [List.getElem?_set_ne hii] at ht
   exact hf'.at_ i' t u ht hu
 ·have hr1 := Ab hrow
  have hrow' : (Au s.rows R ++ [BD ss x n])[r]? = some row := by
   rw [List.getElem?_append_left (by omega)]
   unfold Au
   rw [List.getElem?_append_left hr1]
   exact hrow
  have hput : Hc { s with rows := Au s.rows R ++ [BD ss x n] } (.cell r j) (.fsl R n) = { s with rows := (Au s.rows R ++ [BD ss x n]).set r { row with cells := row.cells.set j (.k (.fsl R n)) } } := by
   simp only [Hc, hrow']
  rw [hput]
  refine ⟨hf', hR'.Vn (by simp) fun r' x' hx' => ?_⟩
  by_cases hrr : r = r'
  ·subst hrr
   rw [List.getElem?_set_self (by omega)] at hx'
   injection hx' with hx'
   subst hx'
   refine ⟨row, hrow', rfl, rfl, rfl, rfl, .inr ⟨ho, fun vs hvs => ?_⟩⟩
   have hrow0 := hR0.row r row hrow
   unfold AA at hrow0
   rw [if_pos ho] at hrow0
   obtain ⟨_, _, _, _, vs0, sp0, b5, b6, _⟩ := hrow0
   have hrow1 := hR'.row r row hrow'
   rw [hll] at hvs ⊢
   refine IM (c := .k k) hc (fun u hu => ?_) hvs
   refine hkk u ?_
   obtain ⟨u1, _, h3⟩ := hR0.cell hrow hc
   have h3' : k.rel e (R + 1) loc' u1 := K.Bp h3 (fun r hr => hx1 r (by omega)) (by omega)
   have hs : k.CE = true := by
    cases k with
    | junk =>
     have e1 := hv u (K.BU (k := .junk) hu)
     have hb : (PV.one (.k .junk)).rel e (R + 1) loc (.bool true) := K.BU (k := .bool (.t true)) ⟨trivial, rfl, .inr rfl⟩
     have hb2 : (PV.one (.k .junk)).rel e (R + 1) loc (.bool false) := K.BU (k := .bool (.t false)) ⟨trivial, rfl, .inr rfl⟩
     have e2 := hv _ hb
     have e3 := hv _ hb2
     rw [← e2] at e3
     cases e3
    | _ => rfl
   rw [K.Cc hs hu h3']
   exact h3
  ·rw [List.getElem?_set_ne hrr] at hx'
   exact ⟨x', hx', rfl, rfl, rfl, rfl, .inl rfl⟩
theorem Q3 {p : Pos} {R : Nat} {ss : List Ak} {s : St} : Ref e w0 s (NY p R ss s) := by
 unfold NY
 split
 ·rename_i r n hk
  split
  ·rename_i row hrow
   split
   ·rename_i q hq
    split
    ·rename_i hc
     simp only [Bool.and_eq_true, Bool.not_eq_true', decide_eq_true_eq] at hc
     obtain ⟨⟨c1, c2⟩, c3⟩ := hc
     have c2 := L.Ae c2
     refine Vp hk c3 fun loc w B hR0 _ => ?_
     obtain ⟨as, m, l1, l2, l3, l4, l5⟩ := (hR0.lst r row q hrow hq).2
     rw [if_neg (by simp [c1])] at l5
     refine ⟨(loc r).v, ⟨rfl, rfl, _, as, m, rfl, rfl, l4, l1, l2, l3, l5.2⟩, fun u hu => ?_⟩
     rcases hu.2.2 with h3 | h3
     ·cases h3
     ·exact h3
    ·exact Ref.refl _
   ·exact Ref.refl _
  ·exact Ref.refl _
 ·rename_i hk
  split
  ·rename_i hc
   simp only [Bool.and_eq_true, bne_iff_ne, ne_eq, decide_eq_true_eq] at hc
   obtain ⟨c1, c2⟩ := hc
   refine Vp hk c2 fun loc w B hR0 _ => ⟨.slice none 0 0, ⟨rfl, rfl, _, [], 0, rfl, rfl, Nat.pos_of_ne_zero c1, rfl, by simp, rfl, .emp⟩, fun u hu => ?_⟩
   rcases hu.2.2 with h3 | h3
   ·cases h3
   ·exact h3
  ·exact Ref.refl _
 ·exact Ref.refl _
theorem Tg {p : Pos} {R : Nat} {ss : List Ak} {s : St} : (NY p R ss s).pc = s.pc := by
 have hpc : ∀ {s' : St} {k : K}, (Hc s' p k).pc = s'.pc := fun {s' k} => by
  unfold Hc
  split
  ·rfl
  ·split <;> rfl
 unfold NY
 split
 ·split
  ·split
   ·split
    ·exact hpc
    ·rfl
   ·rfl
  ·rfl
 ·split
  ·exact hpc
  ·rfl
 ·rfl
theorem Q4 {p : Pos} {R : Nat} {ss : List Ak} {s : St} (h : s.rows.length ≤ R) : (NY p R ss s).rows.length ≤ R + 1 := by
 have hlen : ∀ {s' : St} {k : K}, (Hc s' p k).rows.length = s'.rows.length := fun {s' k} => by
  unfold Hc
  split
  ·rfl
  ·split <;> simp
 have hp : ∀ (x : Row), (Au s.rows R ++ [x]).length = R + 1 := fun x => by simp [EV h]
 unfold NY
 split
 ·split
  ·split
   ·split
    ·rw [hlen, hp]; exact Nat.le_refl _
    ·omega
   ·omega
  ·omega
 ·split
  ·rw [hlen, hp]; exact Nat.le_refl _
  ·omega
 ·omega
theorem Na : ∀ {l : List Nat} {R : Nat} {s t : St}, s.rows.length ≤ R → t.rows.length ≤ R →
  Ref e w0 s (I0 l R (s, t)).1 ∧ Ref e w0 t (I0 l R (s, t)).2 ∧ (I0 l R (s, t)).1.pc = s.pc ∧ (I0 l R (s, t)).2.pc = t.pc
 | [], R, s, t, _, _ => ⟨Ref.refl _, Ref.refl _, rfl, rfl⟩
 | r :: l, R, s, t, hs, ht => by
  obtain ⟨h1, h2, h3, h4⟩ := Na (l := l) (R := R + 1) (s := Iz r R s) (t := Iz r R t) (O8 hs) (O8 ht)
  exact ⟨O9.trans h1, O9.trans h2, h3.trans Q0, h4.trans Q0⟩
theorem Pa : ∀ {l : List (Pos × K × K)} {R : Nat} {s t : St}, s.rows.length ≤ R → t.rows.length ≤ R →
  Ref e w0 s (OE l R (s, t)).1 ∧ Ref e w0 t (OE l R (s, t)).2 ∧ (OE l R (s, t)).1.pc = s.pc ∧ (OE l R (s, t)).2.pc = t.pc
 | [], R, s, t, _, _ => ⟨Ref.refl _, Ref.refl _, rfl, rfl⟩
 | (p, _, _) :: l, R, s, t, hs, ht => by
  obtain ⟨h1, h2, h3, h4⟩ := Pa (l := l) (R := R + 1) (s := NY p R (We p t) s) (t := NY p R (We p s) t) (Q4 hs) (Q4 ht)
  exact ⟨Q3.trans h1, Q3.trans h2, h3.trans Tg, h4.trans Tg⟩
theorem Oe {s t : St} : Ref e w0 s (CF s t).1 ∧ Ref e w0 t (CF s t).2 ∧ (CF s t).1.pc = s.pc ∧ (CF s t).2.pc = t.pc := by
 unfold CF
 obtain ⟨a1, a2, a3, a4⟩ := Lv (e := e) (w0 := w0) (l := IZ s.fr t.fr 0 []) (R := max s.rows.length t.rows.length) (s := s) (t := t) (by omega) (by omega)
 generalize F7 (IZ s.fr t.fr 0 []) (max s.rows.length t.rows.length) (s, t) = x at a1 a2 a3 a4 ⊢
 obtain ⟨s1, t1⟩ := x
 simp only at a1 a2 a3 a4
 unfold UG
 split
 ·exact ⟨a1, a2, a3, a4⟩
 ·rename_i ps hps
  obtain ⟨b1, b2, b3, b4⟩ := Na (e := e) (w0 := w0) (l := OD (Ms s1 t1)) (R := F8 (s1, t1)) (s := s1) (t := t1) (by simp only [F8]; omega) (by simp only [F8]; omega)
  simp only
  generalize I0 (OD (Ms s1 t1)) (F8 (s1, t1)) (s1, t1) = y at b1 b2 b3 b4 ⊢
  obtain ⟨s2, t2⟩ := y
  simp only at b1 b2 b3 b4
  obtain ⟨d1, d2, d3, d4⟩ := Pa (e := e) (w0 := w0) (l := Ms s2 t2) (R := F8 (s2, t2)) (s := s2) (t := t2) (by simp only [F8]; omega) (by simp only [F8]; omega)
  exact ⟨a1.trans (b1.trans d1), a2.trans (b2.trans d2), d3.trans (b3.trans a3), d4.trans (b4.trans a4)⟩
theorem P6 {c : L} {both : Option (L × L × L)} {s t : L} {g : G} (h : Good T e (EI c both s t g).2)
  (hb : ∀ p x y, both = some (p, x, y) → (x.ev e).bool = ((p.ev e).bool && (c.ev e).bool) ∧ (y.ev e).bool = ((p.ev e).bool && !(c.ev e).bool)) :
  Good T e g ∧ ((EI c both s t g).1.ev e).bool = ((pick (c.ev e).bool s t).ev e).bool := by
 unfold EI at h ⊢
 split at h
 ·rename_i p x y
  split at h
  ·rename_i hs
   simp only [hs, if_true]
   simp only [Bool.and_eq_true] at hs
   obtain ⟨b1, b2⟩ := hb _ _ _ rfl
   rw [← L.Ae hs.1] at b1
   rw [← L.Ae hs.2] at b2
   refine ⟨h, ?_⟩
   cases hc : (c.ev e).bool <;> simp [pick, hc] at b1 b2 ⊢
   ·exact b2.symm
   ·exact b1.symm
  ·rename_i hs
   simp only [hs, Bool.false_eq_true, if_false]
   have := DC h
   refine ⟨this.1, this.2.trans ?_⟩
   cases hc : (c.ev e).bool <;> simp [pick]
 ·have := DC h
  refine ⟨this.1, this.2.trans ?_⟩
  cases hc : (c.ev e).bool <;> simp [pick]
theorem D4 {c : L} {both : Option (L × L × L)} {s t : St} {g : G} (h : Good T e (BJ c both s t g).2)
  (hb : ∀ p x y, both = some (p, x, y) → (x.ev e).bool = ((p.ev e).bool && (c.ev e).bool) ∧ (y.ev e).bool = ((p.ev e).bool && !(c.ev e).bool)) :
  Good T e g ∧ Ref e w0 (pick (c.ev e).bool s t) (BJ c both s t g).1 ∧ ((BJ c both s t g).1.pc.ev e).bool = ((pick (c.ev e).bool s t).pc.ev e).bool := by
 unfold BJ at h ⊢
 obtain ⟨ra, rb, pa, pb⟩ := Oe (e := e) (w0 := w0) (s := s) (t := t)
 generalize CF s t = st at h ra rb pa pb ⊢
 obtain ⟨s', t'⟩ := st
 simp only at h ra rb pa pb ⊢
 suffices hh : Good T e g ∧ Ref e w0 (pick (c.ev e).bool s' t') ⟨(A1 c s'.fr t'.fr g).1, (AZ c s'.rows t'.rows (A1 c s'.fr t'.fr g).2).1, (EI c both s'.pc t'.pc (AZ c s'.rows t'.rows (A1 c s'.fr t'.fr g).2).2).1⟩ ∧
   ((EI c both s'.pc t'.pc (AZ c s'.rows t'.rows (A1 c s'.fr t'.fr g).2).2).1.ev e).bool = ((pick (c.ev e).bool s' t').pc.ev e).bool by
  obtain ⟨k1, k2, k3⟩ := hh
  refine ⟨k1, Ref.trans ?_ k2, k3.trans ?_⟩
  ·cases hc : (c.ev e).bool
   ·exact rb
   ·exact ra
  ·cases hc : (c.ev e).bool
   ·simp only [pick, Bool.false_eq_true, if_false, pb]
   ·simp only [pick, if_true, pa]
 revert h
 generalize s' = s
 generalize t' = t
 intro h
 obtain ⟨hg1, hpc1⟩ := P6 h hb
 have hr := CY hg1
 have hf := D0 hr.1
 refine ⟨hf.1, fun loc tm w h1 h2 => ?_, ?_⟩
 ·have q1 : (pick (c.ev e).bool s t).fr = pick (c.ev e).bool s.fr t.fr := by cases (c.ev e).bool <;> rfl
  have q2 : (pick (c.ev e).bool s t).rows = pick (c.ev e).bool s.rows t.rows := by cases (c.ev e).bool <;> rfl
  rw [q1, q2] at h1
  rw [q2] at h2 ⊢
  have hlen : (pick (c.ev e).bool s.rows t.rows).length ≤ (AZ c s.rows t.rows (A1 c s.fr t.fr g).2).1.length := by
   cases hc : (c.ev e).bool
   ·exact hr.2.2.1
   ·exact hr.2.1
  exact ⟨loc, AG.refl _ _, hlen, (An.merge hr.1 h1).ext (AG.refl _ _) hlen, by obtain ⟨B, hB, hR, hbel⟩ := h2; exact ⟨B, hB, Ad.merge hg1 hR, hbel⟩⟩
 ·rw [hpc1]
  cases (c.ev e).bool <;> rfl
theorem Jj {nc : L} : ∀ {o : Aj} {g : G}, Good T e (Mt nc o g).2 → Good T e g ∧
  (∀ x u, Aj.get x (Mt nc o g).1 = some u → (u.pc.ev e).bool = true → (nc.ev e).bool = true ∧ ∃ t, Aj.get x o = some t ∧ (t.pc.ev e).bool = true) ∧
  ((nc.ev e).bool = true → ∀ x t, Aj.get x o = some t → (t.pc.ev e).bool = true → ∃ u, Aj.get x (Mt nc o g).1 = some u ∧ (u.pc.ev e).bool = true ∧ Ref e w0 t u)
 | [], g, h => ⟨h, fun x u hx => by simp [Mt, Aj.get] at hx, fun _ x t hx => by simp [Aj.get] at hx⟩
 | (y, t) :: l, g, h => by
  unfold Mt at h ⊢
  simp only at h ⊢
  have h2 := Jj h
  have h1 := AI h2.1
  refine ⟨h1.1, fun x u hx hu => ?_, fun hnc x s hx hs => ?_⟩
  ·by_cases hxy : x = y
   ·subst hxy
    rw [Av] at hx
    injection hx with hx
    subst hx
    simp only at hu
    rw [h1.2, Bool.and_eq_true] at hu
    exact ⟨hu.1, t, Av, hu.2⟩
   ·rw [AJ hxy] at hx
    obtain ⟨a1, s, a2, a3⟩ := h2.2.1 x u hx hu
    exact ⟨a1, s, by rw [AJ hxy]; exact a2, a3⟩
  ·by_cases hxy : x = y
   ·subst hxy
    rw [Av] at hx
    injection hx with hx
    subst hx
    exact ⟨_, Av, by simp only; rw [h1.2, hnc, hs]; rfl, Ref.pc _⟩
   ·rw [AJ hxy] at hx
    obtain ⟨u, a1, a2, a3⟩ := h2.2.2 hnc x s hx hs
    exact ⟨u, by rw [AJ hxy]; exact a1, a2, a3⟩
theorem C1 {c nc : L} {both : Option (L × L × L)} (hnc : (nc.ev e).bool = !(c.ev e).bool)
  (hb : ∀ p x y, both = some (p, x, y) → (x.ev e).bool = ((p.ev e).bool && (c.ev e).bool) ∧ (y.ev e).bool = ((p.ev e).bool && !(c.ev e).bool)) : ∀ {o1 o2 : Aj} {g : G},
  Good T e (combine c nc both o1 o2 g).2 → Good T e g ∧
  (∀ x u, Aj.get x (combine c nc both o1 o2 g).1 = some u → (u.pc.ev e).bool = true →
   ((c.ev e).bool = true ∧ ∃ s, Aj.get x o1 = some s ∧ (s.pc.ev e).bool = true) ∨ ((c.ev e).bool = false ∧ ∃ t, Aj.get x o2 = some t ∧ (t.pc.ev e).bool = true)) ∧
  ((c.ev e).bool = true → ∀ x s, Aj.get x o1 = some s → (s.pc.ev e).bool = true → ∃ u, Aj.get x (combine c nc both o1 o2 g).1 = some u ∧ (u.pc.ev e).bool = true ∧ Ref e w0 s u) ∧
  ((c.ev e).bool = false → ∀ x t, Aj.get x o2 = some t → (t.pc.ev e).bool = true → ∃ u, Aj.get x (combine c nc both o1 o2 g).1 = some u ∧ (u.pc.ev e).bool = true ∧ Ref e w0 t u)
 | [], o2, g, h => by
  unfold combine at h ⊢
  have h1 := Jj (w0 := w0) h
  refine ⟨h1.1, fun x u hx hu => ?_, fun _ x s hx => by simp [Aj.get] at hx, fun hc => h1.2.2 (by rw [hnc, hc]; rfl)⟩
  obtain ⟨a1, a2⟩ := h1.2.1 x u hx hu
  exact .inr ⟨by rw [hnc] at a1; simpa using a1, a2⟩
 | (y, s) :: l, o2, g, h => by
  unfold combine at h ⊢
  cases ht : Aj.get y o2 with
  | some t =>
   rw [ht] at h
   simp only at h ⊢
   have h2 := C1 hnc hb h
   have h1 := D4 (w0 := w0) h2.1 hb
   refine ⟨h1.1, fun x u hx hu => ?_, fun hc x s' hx hs' => ?_, fun hc x t' hx ht' => ?_⟩
   ·by_cases hxy : x = y
    ·subst hxy
     rw [Av] at hx
     injection hx with hx
     subst hx
     rw [h1.2.2] at hu
     cases hc : (c.ev e).bool <;> simp only [pick, hc, if_true, if_false, Bool.false_eq_true] at hu
     ·exact .inr ⟨rfl, t, ht, hu⟩
     ·exact .inl ⟨rfl, s, Av, hu⟩
    ·rw [AJ hxy] at hx
     rw [AJ hxy]
     rcases h2.2.1 x u hx hu with a | ⟨a, b⟩
     ·exact .inl a
     ·exact .inr ⟨a, by rwa [AN hxy] at b⟩
   ·by_cases hxy : x = y
    ·subst hxy
     rw [Av] at hx
     injection hx with hx
     subst hx
     refine ⟨_, Av, ?_, ?_⟩
     ·rw [h1.2.2]; simp only [pick, hc, if_true]; exact hs'
     ·have := h1.2.1; simp only [pick, hc, if_true] at this; exact this
    ·rw [AJ hxy] at hx
     obtain ⟨u, a1, a2, a3⟩ := h2.2.2.1 hc x s' hx hs'
     exact ⟨u, by rw [AJ hxy]; exact a1, a2, a3⟩
   ·by_cases hxy : x = y
    ·subst hxy
     rw [ht] at hx
     injection hx with hx
     subst hx
     refine ⟨_, Av, ?_, ?_⟩
     ·rw [h1.2.2]; simp only [pick, hc, Bool.false_eq_true, if_false]; exact ht'
     ·have := h1.2.1; simp only [pick, hc, Bool.false_eq_true, if_false] at this; exact this
    ·obtain ⟨u, a1, a2, a3⟩ := h2.2.2.2 hc x t' (by rw [AN hxy]; exact hx) ht'
     exact ⟨u, by rw [AJ hxy]; exact a1, a2, a3⟩
  | none =>
   rw [ht] at h
   simp only at h ⊢
   have h2 := C1 hnc hb h
   have h1 := AI h2.1
   refine ⟨h1.1, fun x u hx hu => ?_, fun hc x s' hx hs' => ?_, fun hc x t' hx ht' => ?_⟩
   ·by_cases hxy : x = y
    ·subst hxy
     rw [Av] at hx
     injection hx with hx
     subst hx
     simp only at hu
     rw [h1.2, Bool.and_eq_true] at hu
     exact .inl ⟨hu.1, s, Av, hu.2⟩
    ·rw [AJ hxy] at hx
     rw [AJ hxy]
     exact h2.2.1 x u hx hu
   ·by_cases hxy : x = y
    ·subst hxy
     rw [Av] at hx
     injection hx with hx
     subst hx
     exact ⟨_, Av, by simp only; rw [h1.2, hc, hs']; rfl, Ref.pc _⟩
    ·rw [AJ hxy] at hx
     obtain ⟨u, a1, a2, a3⟩ := h2.2.2.1 hc x s' hx hs'
     exact ⟨u, by rw [AJ hxy]; exact a1, a2, a3⟩
   ·have hxy : x ≠ y := fun h0 => by rw [h0, ht] at hx; cases hx
    obtain ⟨u, a1, a2, a3⟩ := h2.2.2.2 hc x t' hx ht'
    exact ⟨u, by rw [AJ hxy]; exact a1, a2, a3⟩
def FE.to : FE → Exit
 | .norm => .normal
 | .exit id => .exit id
 | .ret => .ret
def Q5 (e : Nat → A) (w0 : W0) (loc : Loc) (m : Nat) (a : Act) (s : St) (Q : Act → World → Prop) : Prop :=
 ∀ (loc' : Loc) (a' : Act) (w' : World), AG m loc loc' → m ≤ s.rows.length → An e s.rows.length loc' s.fr a'.tmps → a'.defers = a.defers → A8 e w0 loc' s.rows w' → Q a' w'
structure Ends (P : Program) (T : Nat → List A → Bool × List A) (e : Nat → A) (w0 : W0) (S : St) (W : (Exit → Act → World → Prop) → Act → World → Prop) (outs : Aj) : Prop where
 pc : ∀ x s, Aj.get x outs = some s → (s.pc.ev e).bool = true → (S.pc.ev e).bool = true
 one : ∀ x y s t, Aj.get x outs = some s → Aj.get y outs = some t → (s.pc.ev e).bool = true → (t.pc.ev e).bool = true → x = y
 wp : ∀ (loc : Loc) (a : Act) (w : World) (Q : Exit → Act → World → Prop), (S.pc.ev e).bool = true → An e S.rows.length loc S.fr a.tmps → A8 e w0 loc S.rows w →
  (∀ x s, Aj.get x outs = some s → (s.pc.ev e).bool = true → Q5 e w0 loc S.rows.length a s (Q x.to)) → W Q a w
theorem Q5.mono {m : Nat} {a : Act} {s : St} {Q Q' : Act → World → Prop} (h : Q5 e w0 loc m a s Q) (hq : ∀ a w, Q a w → Q' a w) : Q5 e w0 loc m a s Q' :=
 fun loc' a' w' h1 h2 h3 h4 h5 => hq _ _ (h loc' a' w' h1 h2 h3 h4 h5)
theorem Q5.ref {m : Nat} {a : Act} {s u : St} {Q : Act → World → Prop} (h : Q5 e w0 loc m a u Q) (hr : Ref e w0 s u) : Q5 e w0 loc m a s Q :=
 fun loc' a' w' h1 h2 h3 h4 h5 => by
  obtain ⟨loc2, x2, r1, r2, r3⟩ := hr loc' a'.tmps w' h3 h5
  exact h loc2 a' w' (h1.trans x2 h2) (Nat.le_trans h2 r1) r2 h4 r3
end
end Rx
namespace Rx
open Go Go.RowKit
def LW (P : Program) (c : Code) (Q : Exit → Act → World → Prop) (a : Act) (w : World) : Prop :=
 ∀ (b : Frame) (k : List Item) (cs : List Frame), ∃ e a' w', Q e a' w' ∧ Arrives P (lone (b.at a (.code c :: .inLoop c :: k)) cs w) b k cs e a' w'
theorem LW.of {P : Program} {c : Code} {Q : Exit → Act → World → Prop} {a : Act} {w : World} (h : c.wp P (Exit.then (LW P c Q) Q) a w) : LW P c Q a w := by
 intro b k cs
 obtain ⟨e, a₁, w₁, hq, harr⟩ := h b (.inLoop c :: k) cs
 cases e with
 | normal =>
  obtain ⟨e₂, a₂, w₂, hq₂, harr₂⟩ := hq b k cs
  exact ⟨e₂, a₂, w₂, hq₂, .of_steps (Steps.trans harr (.one step_inLoop)) harr₂⟩
 | exit id => exact ⟨_, a₁, w₁, hq, .pass (x := .inLoop c) rfl (fun _ _ => .inl (by simp)) harr⟩
 | goto l => exact ⟨_, a₁, w₁, hq, .pass (x := .inLoop c) rfl (fun _ _ => .inl (by simp)) harr⟩
 | ret => exact ⟨_, a₁, w₁, hq, .pass (x := .inLoop c) rfl (fun _ _ => .inl (by simp)) harr⟩
 | panic ch => exact ⟨_, a₁, w₁, hq, .pass (x := .inLoop c) rfl (fun _ _ => .inl (by simp)) harr⟩
 | outgrown => exact ⟨_, a₁, w₁, hq, .pass (x := .inLoop c) rfl (fun _ _ => .inl (by simp)) harr⟩
theorem LW.wp {P : Program} {c : Code} {Q : Exit → Act → World → Prop} {a : Act} {w : World} (h : LW P c Q a w) : (Code.loop c).wp P Q a w :=
 fun b k cs => let ⟨e, a', w', hq, harr⟩ := h b k cs; ⟨e, a', w', hq, .of_steps (.one step_loop) harr⟩
section
variable {T : Nat → List A → Bool × List A} {e : Nat → A} {n n' : Nat} {loc loc' : Loc} {P : Program} {X : Ctx} {w0 : W0}
theorem R9 {l : L} (h : isFalse l = true) : (l.ev e).bool = false := by
 unfold isFalse at h
 split at h
 ·rfl
 ·cases h
theorem Mo {N : Act → World → Prop} {Q : Exit → Act → World → Prop} {x : FE} (h : x ≠ .norm) : Exit.then N Q x.to = Q x.to := by
 cases x with
 | norm => exact absurd rfl h
 | exit id => rfl
 | ret => rfl
abbrev Wt := (Exit → Act → World → Prop) → Act → World → Prop
theorem Pb {S : St} {Wa Wb Wr : Wt} {o : Aj} (hW : ∀ Q a w, Wa (Exit.then (Wb Q) Q) a w → Wr Q a w) (ha : Ends P T e w0 S Wa o) (h : Aj.get .norm o = none) : Ends P T e w0 S Wr o :=
 ⟨ha.pc, ha.one, fun loc a w Q hpc hf hw hQ => hW _ _ _ (ha.wp loc a w _ hpc hf hw fun x s hx hs => by
  rw [Mo (fun h0 => by rw [h0, h] at hx; cases hx)]
  exact hQ x s hx hs)⟩
theorem Nb {S s : St} {Wa Wb Wr : Wt} {o : Aj} (hW : ∀ Q a w, Wa (Exit.then (Wb Q) Q) a w → Wr Q a w) (ha : Ends P T e w0 S Wa o) (h : Aj.get .norm o = some s) (hf : isFalse s.pc = true) :
  Ends P T e w0 S Wr (Aj.drop .norm o) := by
 have back : ∀ {x s'}, Aj.get x (Aj.drop .norm o) = some s' → x ≠ .norm ∧ Aj.get x o = some s' := fun {x s'} hx => by
  by_cases h0 : x = .norm
  ·subst h0; rw [FW] at hx; cases hx
  ·exact ⟨h0, by rwa [AN h0] at hx⟩
 refine ⟨fun x s' hx hs => ha.pc x s' (back hx).2 hs, fun x y s' t' hx hy hs ht => ha.one x y s' t' (back hx).2 (back hy).2 hs ht, fun loc a w Q hpc hfr hw hQ => hW _ _ _ (ha.wp loc a w _ hpc hfr hw fun x s' hx hs => ?_)⟩
 by_cases h0 : x = .norm
 ·subst h0
  rw [h] at hx
  injection hx with hx
  subst hx
  rw [R9 hf] at hs
  cases hs
 ·rw [Mo h0]
  exact hQ x s' (by rw [AN h0]; exact hx) hs
theorem Q6 {S s : St} {Wa Wb Wr : Wt} {o o2 r : Aj} (hW : ∀ Q a w, Wa (Exit.then (Wb Q) Q) a w → Wr Q a w) (ha : Ends P T e w0 S Wa o) (h : Aj.get .norm o = some s) (hb : Ends P T e w0 s Wb o2)
  (hr : (∀ x u, Aj.get x r = some u → (u.pc.ev e).bool = true →
    ((s.pc.ev e).bool = true ∧ ∃ t, Aj.get x o2 = some t ∧ (t.pc.ev e).bool = true) ∨ ((s.pc.ev e).bool = false ∧ ∃ t, Aj.get x (Aj.drop .norm o) = some t ∧ (t.pc.ev e).bool = true)) ∧
   ((s.pc.ev e).bool = true → ∀ x t, Aj.get x o2 = some t → (t.pc.ev e).bool = true → ∃ u, Aj.get x r = some u ∧ (u.pc.ev e).bool = true ∧ Ref e w0 t u) ∧
   ((s.pc.ev e).bool = false → ∀ x t, Aj.get x (Aj.drop .norm o) = some t → (t.pc.ev e).bool = true → ∃ u, Aj.get x r = some u ∧ (u.pc.ev e).bool = true ∧ Ref e w0 t u)) : Ends P T e w0 S Wr r := by
 have back : ∀ {x s'}, Aj.get x (Aj.drop .norm o) = some s' → x ≠ .norm ∧ Aj.get x o = some s' := fun {x s'} hx => by
  by_cases h0 : x = .norm
  ·subst h0; rw [FW] at hx; cases hx
  ·exact ⟨h0, by rwa [AN h0] at hx⟩
 obtain ⟨h1, h2, h3⟩ := hr
 refine ⟨fun x u hx hu => ?_, fun x y u v hx hy hu hv => ?_, fun loc a w Q hpc hfr hw hQ => hW _ _ _ (ha.wp loc a w _ hpc hfr hw fun x s' hx hs => ?_)⟩
 ·rcases h1 x u hx hu with ⟨a, _⟩ | ⟨_, t, b1, b2⟩
  ·exact ha.pc _ _ h a
  ·exact ha.pc _ _ (back b1).2 b2
 ·rcases h1 x u hx hu with ⟨a, t, b1, b2⟩ | ⟨a, t, b1, b2⟩
  ·rcases h1 y v hy hv with ⟨a', t', b1', b2'⟩ | ⟨a', t', b1', b2'⟩
   ·exact hb.one _ _ _ _ b1 b1' b2 b2'
   ·rw [a] at a'; cases a'
  ·rcases h1 y v hy hv with ⟨a', t', b1', b2'⟩ | ⟨a', t', b1', b2'⟩
   ·rw [a] at a'; cases a'
   ·exact ha.one _ _ _ _ (back b1).2 (back b1').2 b2 b2'
 ·by_cases h0 : x = .norm
  ·subst h0
   rw [h] at hx
   injection hx with hx
   subst hx
   intro loc' a' w' q1 q2 q3 q4 q5
   show Wb Q a' w'
   refine hb.wp loc' a' w' Q hs q3 q5 fun y t hy ht => ?_
   obtain ⟨u, u1, u2, u3⟩ := h2 hs y t hy ht
   have := (hQ y u u1 u2).ref u3
   intro loc2 a2 w2 r1 r2 r3 r4 r5
   exact this loc2 a2 w2 (q1.trans r1 q2) (Nat.le_trans q2 r2) r3 (r4.trans q4) r5
  ·rw [Mo h0]
   have hsf : (s.pc.ev e).bool = false := by
    cases hc : (s.pc.ev e).bool with
    | false => rfl
    | true => exact absurd (ha.one _ _ _ _ hx h hs hc) h0
   obtain ⟨u, u1, u2, u3⟩ := h3 hsf x s' (by rw [AN h0]; exact hx) hs
   exact (hQ x u u1 u2).ref u3
theorem Fj (hX : BE P X.Aw) {S : St} : ∀ {l : List ResultVar} {g g' : G} {rs : List PV}, results X S l g = some (rs, g') → g' = g ∧
  ∀ (loc : Loc) (tm : Array Value) (w : World), An e S.rows.length loc S.fr tm → A8 e w0 loc S.rows w → ∃ vs : List Value, Ar e S.rows.length loc rs vs ∧
   (l.mapM fun | .tmp t => pure (tm.getD t Go.undef) | .cell a t => do loadVar t (← asAddr (tm.getD a Go.undef)) : Sem (List Value)).run P w = .ok vs w
 | [], g, g', rs, h => by
  simp only [results, Option.some.injEq, Prod.mk.injEq] at h
  obtain ⟨rfl, rfl⟩ := h
  exact ⟨rfl, fun loc tm w hf _ => ⟨[], trivial, by simp⟩⟩
 | .tmp t :: l, g, g', rs, h => by
  simp only [results, Option.bind_eq_bind, Option.bind_eq_some_iff] at h
  obtain ⟨p, hp, ⟨r, g1⟩, hr, h⟩ := h
  simp only [Option.some.injEq, Prod.mk.injEq] at h
  obtain ⟨rfl, rfl⟩ := h
  obtain ⟨h1, h2⟩ := Fj hX hr
  refine ⟨h1, fun loc tm w hf hw => ?_⟩
  obtain ⟨vs, v1, v2⟩ := h2 loc tm w hf hw
  refine ⟨tm.getD t Go.undef :: vs, ⟨Jb hp hf (fun x hx => by cases hx), v1⟩, ?_⟩
  simp only [List.mapM_cons, Sem.run_bind, Sem.run_pure, Result.andThen_ok, v2]
 | .cell a t :: l, g, g', rs, h => by
  simp only [results, Option.bind_eq_bind, Option.bind_eq_some_iff] at h
  obtain ⟨p, hp, ty, ht, h⟩ := h
  split at h
  ·rename_i r off
   simp only [Option.bind_eq_some_iff] at h
   obtain ⟨row, hrow, cs, hcs, v, hv, ⟨q, g1⟩, hr, h⟩ := h
   simp only [Option.some.injEq, Prod.mk.injEq] at h
   obtain ⟨rfl, rfl⟩ := h
   obtain ⟨h1, h2⟩ := Fj hX hr
   refine ⟨h1, fun loc tm w hf hw => ?_⟩
   obtain ⟨vs, v1, v2⟩ := h2 loc tm w hf hw
   obtain ⟨r1, r2⟩ := Gj (Jb hp hf (fun x hx => by cases hx))
   obtain ⟨us, u1, u2⟩ := Cy (e := e) (n := S.rows.length) (loc := loc) (w := w) (b := (loc r).blk) (o := (loc r).off + off) (cs := cs) (fun j c hj => by
    obtain ⟨v, z1, z2⟩ := hw.cell hrow (Ee hcs hj)
    exact ⟨v, by rw [Nat.add_assoc]; exact z1, z2⟩)
   obtain ⟨x, x1, x2⟩ := AT (hX t ty ht) u1 u2 (Bj hcs).2.2 hv
   have x3 : (loadVar t ⟨(loc r).blk, (loc r).off + off, none⟩).run P w = .ok x w := by
    have := x2
    simp only [Instr.loadAt, Instr.sureAddr, Sem.run_bind, Sem.run_pure, Result.andThen_ok] at this
    exact this
   refine ⟨x :: vs, ⟨x1, v1⟩, ?_⟩
   have x4 : ∀ a : Addr, asAddr (.pointer (some a)) = pure a := fun _ => rfl
   simp only [List.mapM_cons, Sem.run_bind, Sem.run_pure, r2, x4, Result.andThen_ok, x3, v2]
  ·cases h
theorem Q7 {fn : Func} {tm : Array Value} {w : World} {vs : List Value}
  (h : (fn.results.toList.mapM fun | .tmp t => pure (tm.getD t Go.undef) | .cell a t => do loadVar t (← asAddr (tm.getD a Go.undef)) : Sem (List Value)).run P w = .ok vs w) :
  (Go.results fn tm).run P w = .ok (Hy vs) w := by
 unfold Go.results
 rw [Array.mapM_eq_mapM_toList]
 simp only [Sem.run_bind, Sem.run_map, Sem.run_pure]
 refine (congrArg (fun r : Result (List Value) => (r.andThen fun a w' => Result.ok a.toArray w').andThen fun a w' => Result.ok (if h : a.size = 1 then a[0] else Value.tuple a) w') h).trans ?_
 simp only [Result.andThen_ok]
 congr 1
 match vs with
 | [] => rfl
 | [v] => rfl
 | v :: u :: vs => simp [Hy]
end
end Rx
namespace Rx
open Go Go.RowKit
section
variable {T : Nat → List A → Bool × List A} {e : Nat → A} {P : Program} {X : Ctx} {w0 : W0}
theorem EW {S s : St} {W : Wt} {x : FE} (hpc : s.pc = S.pc)
  (h : ∀ (loc : Loc) (a : Act) (w : World) (Q : Exit → Act → World → Prop), (S.pc.ev e).bool = true → An e S.rows.length loc S.fr a.tmps → A8 e w0 loc S.rows w → Q5 e w0 loc S.rows.length a s (Q x.to) → W Q a w) :
  Ends P T e w0 S W [(x, s)] := by
 have back : ∀ {y t}, Aj.get y [(x, s)] = some t → y = x ∧ t = s := fun {y t} hy => by
  by_cases h0 : y = x
  ·subst h0; rw [Av] at hy; injection hy with hy; exact ⟨rfl, hy.symm⟩
  ·rw [AJ h0] at hy; cases hy
 refine ⟨fun y t hy ht => ?_, fun y z t u hy hz _ _ => ?_, fun loc a w Q hp hf hw hQ => h loc a w Q hp hf hw (hQ x s Av (by rw [hpc]; exact hp))⟩
 ·obtain ⟨rfl, rfl⟩ := back hy; rw [← hpc]; exact ht
 ·rw [(back hy).1, (back hz).1]
theorem JN {S s : St} {Wa Wb Wr : Wt} {o o2 : Aj} {g : G} (hW : ∀ Q a w, Wa (Exit.then (Wb Q) Q) a w → Wr Q a w) (ha : Ends P T e w0 S Wa o) (h : Aj.get .norm o = some s) (hb : Ends P T e w0 s Wb o2)
  {nc : L} (hnc : (nc.ev e).bool = !(s.pc.ev e).bool) (hg : Good T e (combine s.pc nc none o2 (Aj.drop .norm o) g).2) : Ends P T e w0 S Wr (combine s.pc nc none o2 (Aj.drop .norm o) g).1 :=
 Q6 hW ha h hb (C1 hnc (fun _ _ _ h0 => by cases h0) hg).2
theorem Nc {S s : St} {Wa Wb Wr : Wt} {o o2 : Aj} (hW : ∀ Q a w, Wa (Exit.then (Wb Q) Q) a w → Wr Q a w) (ha : Ends P T e w0 S Wa o) (h : Aj.get .norm o = some s) (hb : Ends P T e w0 s Wb o2)
  (hr : (Aj.drop .norm o).isEmpty = true) : Ends P T e w0 S Wr o2 := by
 have hr : Aj.drop .norm o = [] := by simpa using hr
 refine Q6 hW ha h hb ⟨fun x u hx hu => .inl ⟨hb.pc x u hx hu, u, hx, hu⟩, fun _ x t hx ht => ⟨t, hx, ht, Ref.refl _⟩, fun _ x t hx => by rw [hr] at hx; cases hx⟩
theorem P7 {S s' : St} {W : Wt} {o : Aj} {g g' : G} (he : Ends P T e w0 S W o) (h : MA o g = some (s', g')) (hg : Good T e g') :
  Good T e g ∧ ∀ x s, Aj.get x o = some s → (s.pc.ev e).bool = true → (x = .norm ∨ x = .ret) ∧ Ref e w0 s s' := by
 unfold MA at h
 split at h
 ·simp only [Option.some.injEq, Prod.mk.injEq] at h
  obtain ⟨rfl, rfl⟩ := h
  refine ⟨hg, fun x s hx hs => ?_⟩
  by_cases h0 : x = .norm
  ·subst h0; rw [Av] at hx; injection hx with hx; subst hx; exact ⟨.inl rfl, Ref.refl _⟩
  ·rw [AJ h0] at hx; cases hx
 ·simp only [Option.some.injEq, Prod.mk.injEq] at h
  obtain ⟨rfl, rfl⟩ := h
  refine ⟨hg, fun x s hx hs => ?_⟩
  by_cases h0 : x = .ret
  ·subst h0; rw [Av] at hx; injection hx with hx; subst hx; exact ⟨.inr rfl, Ref.refl _⟩
  ·rw [AJ h0] at hx; cases hx
 ·rename_i s t
  simp only [Option.some.injEq] at h
  have hm := D4 (T := T) (e := e) (w0 := w0) (c := s.pc) (both := none) (s := s) (t := t) (g := g) (by rw [h]; exact hg) (fun _ _ _ h0 => by cases h0)
  rw [h] at hm
  refine ⟨hm.1, fun x u hx hu => ?_⟩
  by_cases h0 : x = .norm
  ·subst h0
   rw [Av] at hx; injection hx with hx; subst hx
   have := hm.2.1
   simp only [pick, hu, if_true] at this
   exact ⟨.inl rfl, this⟩
  ·by_cases h1 : x = .ret
   ·subst h1
    rw [AJ h0, Av] at hx; injection hx with hx; subst hx
    have hsf : (s.pc.ev e).bool = false := by
     cases hc : (s.pc.ev e).bool with
     | false => rfl
     | true => exact absurd (he.one .norm .ret s t Av (by rw [AJ h0, Av]) hc hu) (by simp)
    have := hm.2.1
    simp only [pick, hsf, Bool.false_eq_true, if_false] at this
    exact ⟨.inr rfl, this⟩
   ·rw [AJ h0, AJ h1] at hx; cases hx
 ·rename_i t s
  simp only [Option.some.injEq] at h
  have hm := D4 (T := T) (e := e) (w0 := w0) (c := s.pc) (both := none) (s := s) (t := t) (g := g) (by rw [h]; exact hg) (fun _ _ _ h0 => by cases h0)
  rw [h] at hm
  refine ⟨hm.1, fun x u hx hu => ?_⟩
  by_cases h1 : x = .ret
  ·subst h1
   rw [Av] at hx; injection hx with hx; subst hx
   have hsf : (s.pc.ev e).bool = false := by
    cases hc : (s.pc.ev e).bool with
    | false => rfl
    | true => exact absurd (he.one .norm .ret s t (by rw [AJ (by simp), Av]) Av hc hu) (by simp)
   have := hm.2.1
   simp only [pick, hsf, Bool.false_eq_true, if_false] at this
   exact ⟨.inr rfl, this⟩
  ·by_cases h0 : x = .norm
   ·subst h0
    rw [AJ h1, Av] at hx; injection hx with hx; subst hx
    have := hm.2.1
    simp only [pick, hu, if_true] at this
    exact ⟨.inl rfl, this⟩
   ·rw [AJ h1, AJ h0] at hx; cases hx
 ·cases h
theorem Sa {S : St} {id : Nat} {c : Code} {o : Aj} {g g' : G} {outs : Aj} (ha : Ends P T e w0 S (fun Q a w => c.wp P Q a w) o)
  (h : (match Aj.get (.exit id) o, Aj.get .norm o with
   | none, _ => some (o, g)
   | some t, none => some ((.norm, t) :: Aj.drop (.exit id) o, g)
   | some t, some s =>
    let (u, g) := BJ s.pc none s t g
    some ((.norm, u) :: Aj.drop (.exit id) (Aj.drop .norm o), g)) = some (outs, g')) (hg : Good T e g') :
  Good T e g ∧ Ends P T e w0 S (fun Q a w => (Code.block id c).wp P Q a w) outs := by
 have inb : ∀ {x : FE} {Q : Exit → Act → World → Prop}, x ≠ .exit id → Exit.inBlock id Q x.to = Q x.to := fun {x Q} hx => by
  cases x with
  | norm => rfl
  | ret => rfl
  | exit id' =>
   have : id' ≠ id := fun h0 => hx (by rw [h0])
   funext a w
   simp [FE.to, Exit.inBlock, this]
 have inb2 : ∀ {Q : Exit → Act → World → Prop}, Exit.inBlock id Q (FE.exit id).to = Q .normal := fun {Q} => by
  funext a w
  simp [FE.to, Exit.inBlock]
 split at h
 ·rename_i hx0
  simp only [Option.some.injEq, Prod.mk.injEq] at h
  obtain ⟨rfl, rfl⟩ := h
  refine ⟨hg, ha.pc, ha.one, fun loc a w Q hpc hf hw hQ => wp_block (ha.wp loc a w _ hpc hf hw fun x s hx hs => ?_)⟩
  rw [inb (fun h0 => by rw [h0, hx0] at hx; cases hx)]
  exact hQ x s hx hs
 ·rename_i t ht hn
  simp only [Option.some.injEq, Prod.mk.injEq] at h
  obtain ⟨rfl, rfl⟩ := h
  have back : ∀ {x s}, Aj.get x ((.norm, t) :: Aj.drop (.exit id) o) = some s → (x = .norm ∧ s = t) ∨ (x ≠ .norm ∧ x ≠ .exit id ∧ Aj.get x o = some s) := fun {x s} hx => by
   by_cases h0 : x = .norm
   ·subst h0; rw [Av] at hx; injection hx with hx; exact .inl ⟨rfl, hx.symm⟩
   ·rw [AJ h0] at hx
    by_cases h1 : x = .exit id
    ·subst h1; rw [FW] at hx; cases hx
    ·rw [AN h1] at hx; exact .inr ⟨h0, h1, hx⟩
  refine ⟨hg, fun x s hx hs => ?_, fun x y s u hx hy hs hu => ?_, fun loc a w Q hpc hf hw hQ => wp_block (ha.wp loc a w _ hpc hf hw fun x s hx hs => ?_)⟩
  ·rcases back hx with ⟨_, rfl⟩ | ⟨_, _, h3⟩
   ·exact ha.pc _ _ ht hs
   ·exact ha.pc _ _ h3 hs
  ·rcases back hx with ⟨rfl, rfl⟩ | ⟨h1, h2, h3⟩ <;> rcases back hy with ⟨rfl, rfl⟩ | ⟨h1', h2', h3'⟩
   ·rfl
   ·exact absurd (ha.one _ _ _ _ h3' ht hu hs) h2'
   ·exact absurd (ha.one _ _ _ _ h3 ht hs hu) h2
   ·exact ha.one _ _ _ _ h3 h3' hs hu
  ·by_cases h1 : x = .exit id
   ·subst h1
    rw [ht] at hx
    injection hx with hx
    subst hx
    rw [inb2]
    exact hQ .norm t Av hs
   ·rw [inb h1]
    have h0 : x ≠ .norm := fun h0 => by rw [h0, hn] at hx; cases hx
    exact hQ x s (by rw [AJ h0, AN h1]; exact hx) hs
 ·rename_i t s ht hn
  simp only [Option.some.injEq, Prod.mk.injEq] at h
  obtain ⟨rfl, rfl⟩ := h
  have hm := D4 (w0 := w0) hg (fun _ _ _ h0 => by cases h0)
  have back : ∀ {x u}, Aj.get x ((.norm, (BJ s.pc none s t g).1) :: Aj.drop (.exit id) (Aj.drop .norm o)) = some u →
    (x = .norm ∧ u = (BJ s.pc none s t g).1) ∨ (x ≠ .norm ∧ x ≠ .exit id ∧ Aj.get x o = some u) := fun {x u} hx => by
   by_cases h0 : x = .norm
   ·subst h0; rw [Av] at hx; injection hx with hx; exact .inl ⟨rfl, hx.symm⟩
   ·rw [AJ h0] at hx
    by_cases h1 : x = .exit id
    ·subst h1; rw [FW] at hx; cases hx
    ·rw [AN h1, AN h0] at hx; exact .inr ⟨h0, h1, hx⟩
  have mpc : (((BJ s.pc none s t g).1).pc.ev e).bool = true → ∃ z v, (z = .norm ∨ z = .exit id) ∧ Aj.get z o = some v ∧ (v.pc.ev e).bool = true := fun hu => by
   rw [hm.2.2] at hu
   cases hc : (s.pc.ev e).bool <;> simp only [pick, hc, if_true, if_false, Bool.false_eq_true] at hu
   ·exact ⟨.exit id, t, .inr rfl, ht, hu⟩
   ·exact ⟨.norm, s, .inl rfl, hn, hc⟩
  refine ⟨hm.1, fun x u hx hu => ?_, fun x y u v hx hy hu hv => ?_, fun loc a w Q hpc hf hw hQ => wp_block (ha.wp loc a w _ hpc hf hw fun x u hx hu => ?_)⟩
  ·rcases back hx with ⟨_, rfl⟩ | ⟨_, _, h3⟩
   ·obtain ⟨z, v, _, hz, hv⟩ := mpc hu
    exact ha.pc _ _ hz hv
   ·exact ha.pc _ _ h3 hu
  ·rcases back hx with ⟨rfl, rfl⟩ | ⟨h1, h2, h3⟩ <;> rcases back hy with ⟨rfl, rfl⟩ | ⟨h1', h2', h3'⟩
   ·rfl
   ·obtain ⟨z, v', hz0, hz, hv'⟩ := mpc hu
    have := ha.one _ _ _ _ h3' hz hv hv'
    subst this
    rcases hz0 with hz0 | hz0
    ·exact absurd hz0 h1'
    ·exact absurd hz0 h2'
   ·obtain ⟨z, v', hz0, hz, hv'⟩ := mpc hv
    have := ha.one _ _ _ _ h3 hz hu hv'
    subst this
    rcases hz0 with hz0 | hz0
    ·exact absurd hz0 h1
    ·exact absurd hz0 h2
   ·exact ha.one _ _ _ _ h3 h3' hu hv
  ·by_cases h1 : x = .exit id
   ·subst h1
    rw [ht] at hx
    injection hx with hx
    subst hx
    rw [inb2]
    have hsf : (s.pc.ev e).bool = false := by
     cases hc : (s.pc.ev e).bool with
     | false => rfl
     | true => exact absurd (ha.one _ _ _ _ hn ht hc hu) (by simp)
    have hr := hm.2.1
    simp only [pick, hsf, Bool.false_eq_true, if_false] at hr
    exact (hQ .norm _ Av (by rw [hm.2.2]; simp only [pick, hsf, Bool.false_eq_true, if_false]; exact hu)).ref hr
   ·rw [inb h1]
    by_cases h0 : x = .norm
    ·subst h0
     rw [hn] at hx
     injection hx with hx
     subst hx
     have hr := hm.2.1
     simp only [pick, hu, if_true] at hr
     exact (hQ .norm _ Av (by rw [hm.2.2]; simp only [pick, hu, if_true])).ref hr
    ·exact hQ x u (by rw [AJ h0, AN h1, AN h0]; exact hx) hu
end
end Rx
namespace Rx
open Go Go.RowKit
def Gr : Tag → A → A → Prop
 | .i, a, b => a.int = b.int
 | .b, a, b => a.bool = b.bool
 | .v, a, b => a.val = b.val
 | .any, a, b => a = b
 | .no, _, _ => True
theorem Gr.of_eq {t : Tag} {a b : A} (h : a = b) : Gr t a b := by
 subst h
 cases t <;> first | rfl | trivial
section
variable {T : Nat → List A → Bool × List A} {e e1 e2 : Nat → A} {n : Nat} {loc : Loc} {P : Program} {X : Ctx} {w0 : W0} {tg : Nat → Tag}
theorem B7 (h : ∀ i, Gr (tg i) (e1 i) (e2 i)) {t : Tag} {x : L} (hx : Hp tg t x = true) : Gr t (x.ev e1) (x.ev e2) := by
 unfold Hp at hx
 split at hx
 ·rename_i i
  simp only [Bool.or_eq_true, beq_iff_eq] at hx
  have hi := h i
  rcases hx with hx | hx
  ·rw [hx] at hi; exact hi
  ·rw [hx] at hi; exact .of_eq hi
 ·rename_i hnv
  refine .of_eq ?_
  cases x with
  | var i => exact absurd rfl (hnv i)
  | _ => rfl
theorem Q8 (h : ∀ i, Gr (tg i) (e1 i) (e2 i)) {k : K} {v : Value} (hu : TD tg k = true) (hk : k.rel e1 n loc v) : k.rel e2 n loc v := by
 obtain ⟨h1, h2, h3⟩ := hk
 cases k
 case int kd x =>
  have := B7 h (t := .i) hu
  simp only [Gr] at this
  exact ⟨trivial, h2, .inr (by rw [h3.resolve_left (by simp)]; simp only [K.A7, this])⟩
 case bool x =>
  have := B7 h (t := .b) hu
  simp only [Gr] at this
  exact ⟨trivial, h2, .inr (by rw [h3.resolve_left (by simp)]; simp only [K.A7, this])⟩
 case str x =>
  have := B7 h (t := .v) hu
  simp only [Gr] at this
  exact ⟨trivial, h2, .inr (by rw [h3.resolve_left (by simp)]; simp only [K.A7, A.str, this])⟩
 case val x =>
  have := B7 h (t := .v) hu
  simp only [Gr] at this
  exact ⟨trivial, h2, .inr (by rw [h3.resolve_left (by simp)]; simp only [K.A7, this])⟩
 case sptr r o s m x =>
  have := B7 h (t := .i) hu
  simp only [Gr] at this
  simp only [K.ok, this] at h1
  exact ⟨h1, h2, .inr (by rw [h3.resolve_left (by simp)]; simp only [K.A7, this])⟩
 case lsl r m =>
  have := B7 h (t := .i) hu
  simp only [Gr] at this
  simp only [K.ok, this] at h1
  exact ⟨h1, h2, .inr (by rw [h3.resolve_left (by simp)]; simp only [K.A7, this])⟩
 case fsl r m =>
  have := B7 h (t := .i) hu
  simp only [Gr] at this
  simp only [K.ok, this] at h1
  exact ⟨h1, h2, .inr (by rw [h3.resolve_left (by simp)]; simp only [K.A7])⟩
 case lptr r o s x m =>
  simp only [TD, Bool.and_eq_true] at hu
  have q1 := B7 h (t := .i) hu.1
  have q2 := B7 h (t := .i) hu.2
  simp only [Gr] at q1 q2
  simp only [K.ok, q1, q2] at h1
  exact ⟨h1, h2, .inr (by rw [h3.resolve_left (by simp)]; simp only [K.A7, q1])⟩
 all_goals exact ⟨h1, h2, h3⟩
theorem KM (h : ∀ i, Gr (tg i) (e1 i) (e2 i)) : ∀ {l : List K} {vs : List Value}, l.all (TD tg) = true → Cr e1 n loc l vs → Cr e2 n loc l vs
 | [], [], _, _ => trivial
 | _ :: _, _ :: _, hu, hk => by
  simp only [List.all_cons, Bool.and_eq_true] at hu
  exact ⟨Q8 h hu.1 hk.1, KM h hu.2 hk.2⟩
theorem Nf (h : ∀ i, Gr (tg i) (e1 i) (e2 i)) {c : C} {v : Value} (hu : RL tg c = true) (hk : c.rel e1 n loc v) : c.rel e2 n loc v := by
 cases c with
 | k x => exact Q8 h hu hk
 | clo f a b =>
  simp only [RL, Bool.and_eq_true] at hu
  obtain ⟨va, vb, a1, a2, a3⟩ := hk
  exact ⟨va, vb, a1, KM h hu.1 a2, KM h hu.2 a3⟩
 | cfn x f g =>
  have q := B7 h (t := .b) (x := x) hu
  simp only [Gr] at q
  simp only [C.rel, ← q]
  exact hk
theorem KN (h : ∀ i, Gr (tg i) (e1 i) (e2 i)) : ∀ {l : List C} {vs : List Value}, l.all (RL tg) = true → Ag e1 n loc l vs → Ag e2 n loc l vs
 | [], [], _, _ => trivial
 | _ :: _, _ :: _, hu, hk => by
  simp only [List.all_cons, Bool.and_eq_true] at hu
  exact ⟨Nf h hu.1 hk.1, KN h hu.2 hk.2⟩
theorem Pc (h : ∀ i, Gr (tg i) (e1 i) (e2 i)) {c : PV} {v : Value} (hu : SY tg c = true) (hk : c.rel e1 n loc v) : c.rel e2 n loc v := by
 cases c with
 | one x => exact Nf h hu hk
 | agg l => obtain ⟨vs, a1, a2⟩ := hk; exact ⟨vs, a1, KN h hu a2⟩
theorem Ng (h : ∀ i, Gr (tg i) (e1 i) (e2 i)) : ∀ {l : List PV} {vs : List Value}, l.all (SY tg) = true → Ar e1 n loc l vs → Ar e2 n loc l vs
 | [], [], _, _ => trivial
 | _ :: _, _ :: _, hu, hk => by
  simp only [List.all_cons, Bool.and_eq_true] at hu
  exact ⟨Pc h hu.1 hk.1, Ng h hu.2 hk.2⟩
theorem TP (h : ∀ i, Gr (tg i) (e1 i) (e2 i)) {c : SV} {v : Value} (hu : SZ tg c = true) (hk : c.rel e1 n loc v) : c.rel e2 n loc v := by
 cases c with
 | pv p => exact Pc h hu hk
 | tup l => obtain ⟨vs, a1, a2⟩ := hk; exact ⟨vs, a1, Ng h hu a2⟩
 | cond gs p => simp [SZ] at hu
 | undef => exact hk
 | junk => trivial
theorem Pd (h : ∀ i, Gr (tg i) (e1 i) (e2 i)) {fr : List SV} {tm : Array Value} (hu : fr.all (SZ tg) = true) (hk : An e1 n loc fr tm) : An e2 n loc fr tm :=
 ⟨hk.len, fun i s v hs hv => TP h (by rw [List.all_eq_true] at hu; exact hu _ (List.mem_of_getElem? hs)) (hk.at_ i s v hs hv)⟩
theorem Nh (h : ∀ i, Gr (tg i) (e1 i) (e2 i)) {w : World} {B : Bd} {rows : List Row} (hu : rows.all (RM tg) = true) (hk : Ad e1 loc rows w B) : Ad e2 loc rows w B := by
 rw [List.all_eq_true] at hu
 have use_ : ∀ (r : Nat) (x : Row), rows[r]? = some x → x.cells.all (RL tg) = true ∧ ∀ q, x.lst = some q → Hp tg .any q.x = true ∧ Hp tg .i q.n = true := fun r x hr => by
  have := hu x (List.mem_of_getElem? hr)
  simp only [RM, Bool.and_eq_true] at this
  refine ⟨this.1, fun q hq => ?_⟩
  have h2 := this.2
  rw [hq] at h2
  simpa using h2
 refine ⟨fun r x hr => ?_, fun r x q hr hq => ?_, hk.lapart, hk.apart⟩
 ·have hrow := hk.row r x hr
  obtain ⟨u1, _⟩ := use_ r x hr
  unfold AA at hrow ⊢
  split
  ·rename_i ho
   rw [if_pos ho] at hrow
   obtain ⟨b1, b2, b3, b4, vs, sp, b5, b6, b7⟩ := hrow
   exact ⟨b1, b2, b3, b4, vs, sp, b5, KN h u1 b6, b7⟩
  ·rename_i ho
   rw [if_neg ho] at hrow
   intro hc
   obtain ⟨b1, b2, b3⟩ := hrow hc
   refine ⟨b1, b2, fun j c hj => ?_⟩
   obtain ⟨v, hv, hr'⟩ := b3 j c hj
   rw [List.all_eq_true] at u1
   exact ⟨v, hv, Nf h (u1 c (List.mem_of_getElem? hj)) hr'⟩
 ·obtain ⟨k1, as, m, l1, l2, l3, l4, l5⟩ := hk.lst r x q hr hq
  obtain ⟨u1, u2⟩ := (use_ r x hr).2 q hq
  have q1 := B7 h u1
  have q2 := B7 h u2
  simp only [Gr] at q1 q2
  exact ⟨k1, as, m, by rw [← q1]; exact l1, l2, by rw [← q2]; exact l3, l4, l5⟩
def LA (as : List A) (i : Nat) : A := as.getD i (.i 0)
def Q9 (q : Lp) (as outs : List A) (i : Nat) : A :=
 if i < q.k then (if q.Mq.getD i false then as.getD i (.i 0) else .i 0) else outs.getD (i - q.k) (.i 0)
def BN (P : Program) (T : Nat → List A → Bool × List A) (q : Lp) (code : Code) : Prop :=
 (∀ as, (T q.id as).1 = true → (T q.id as).2.length = q.w) ∧
 ∀ (as : List A) (w0 : W0) (loc : Loc) (a : Act) (w : World) (Q : Exit → Act → World → Prop), as.length = q.k → (T q.id as).1 = true →
  An (LA as) q.tm.rows.length loc q.tm.fr a.tmps → A8 (LA as) w0 loc q.tm.rows w →
  (∀ x s e', (x, s) ∈ q.outs → (∀ i, Gr (q.tag i) (e' i) (Q9 q as (T q.id as).2 i)) → (s.pc.ev e').bool = true → ∀ (loc' : Loc) (a' : Act) (w' : World), AG q.m loc loc' →
   An e' s.rows.length loc' s.fr a'.tmps → a'.defers = a.defers → A8 e' w0 loc' s.rows w' → Q x.to a' w') → LW P code Q a w
theorem IN {σ : Nat → L} {pc : L} : ∀ {l : List (FE × St)} {g : G}, Good T e (Ca σ pc l g).2 → Good T e g ∧
  (∀ x u, Aj.get x (Ca σ pc l g).1 = some u → ∃ s, (x, s) ∈ l ∧ u.fr = (De σ s).fr ∧ u.rows = (De σ s).rows ∧ (u.pc.ev e).bool = ((pc.ev e).bool && ((Cj σ s.pc).ev e).bool)) ∧
  (S1 l = true → ∀ x s, (x, s) ∈ l → ∃ u, Aj.get x (Ca σ pc l g).1 = some u ∧ u.fr = (De σ s).fr ∧ u.rows = (De σ s).rows ∧ (u.pc.ev e).bool = ((pc.ev e).bool && ((Cj σ s.pc).ev e).bool))
 | [], g, h => ⟨h, fun x u hx => by simp [Ca, Aj.get] at hx, fun _ x s hs => by cases hs⟩
 | (y, t) :: l, g, h => by
  unfold Ca at h ⊢
  simp only at h ⊢
  obtain ⟨h1, h2, h3⟩ := IN h
  have hm := AI h1
  refine ⟨hm.1, fun x u hx => ?_, fun hb x s hs => ?_⟩
  ·by_cases hxy : x = y
   ·subst hxy
    rw [Av] at hx
    injection hx with hx
    subst hx
    exact ⟨t, List.mem_cons_self .., rfl, rfl, hm.2⟩
   ·rw [AJ hxy] at hx
    obtain ⟨s, s1, s2⟩ := h2 x u hx
    exact ⟨s, List.mem_cons_of_mem _ s1, s2⟩
  ·simp only [S1, Bool.and_eq_true, List.all_eq_true] at hb
   rcases List.mem_cons.1 hs with heq | hs
   ·injection heq with h5 h6
    subst h5 h6
    exact ⟨_, Av, rfl, rfl, hm.2⟩
   ·have hne : x ≠ y := fun h0 => by
     have := hb.1 _ hs
     rw [h0] at this
     simp [FE.DF.2 rfl] at this
    obtain ⟨u, u1, u2⟩ := h3 hb.2 x s hs
    exact ⟨u, by rw [AJ hne]; exact u1, u2⟩
theorem HE {pc a : L} : ∀ {l : List L} {g : G}, Good T e (Ii pc a l g) → Good T e g ∧ ((pc.ev e).bool = true → ∀ b ∈ l, ¬ ((a.ev e).bool = true ∧ (b.ev e).bool = true))
 | [], g, h => ⟨h, fun _ b hb => by cases hb⟩
 | b :: l, g, h => by
  unfold Ii at h
  simp only at h
  obtain ⟨h1, h2⟩ := HE h
  have hm := Ax h1
  have hn := Bi hm.1
  have ha := AI hn.1
  refine ⟨ha.1, fun hpc c hc => ?_⟩
  rcases List.mem_cons.1 hc with rfl | hc
  ·have := hm.2 hpc
   rw [hn.2] at this
   simp only [A.At, ha.2] at this
   intro ⟨k1, k2⟩
   rw [k1, k2] at this
   cases this
  ·exact h2 hpc c hc
theorem EX {pc : L} : ∀ {l : List L} {g : G}, Good T e (Bt pc l g) → Good T e g ∧ ((pc.ev e).bool = true → ∀ (i j : Nat) a b, i < j → l[i]? = some a → l[j]? = some b → ¬ ((a.ev e).bool = true ∧ (b.ev e).bool = true))
 | [], g, h => ⟨h, fun _ i j a b _ ha => by simp at ha⟩
 | c :: l, g, h => by
  unfold Bt at h
  obtain ⟨h1, h2⟩ := EX h
  obtain ⟨h3, h4⟩ := HE h1
  refine ⟨h3, fun hpc i j a b hij ha hb => ?_⟩
  obtain ⟨j, rfl⟩ : ∃ j', j = j' + 1 := ⟨j - 1, by omega⟩
  have hb' : l[j]? = some b := by simpa using hb
  cases i with
  | zero =>
   simp only [List.getElem?_cons_zero, Option.some.injEq] at ha
   subst ha
   exact h4 hpc b (List.mem_of_getElem? hb')
  | succ i => exact h2 hpc i j a b (by omega) (by simpa using ha) hb'
theorem Of {q : Lp} {code : Code} {S : St} {outs : Aj} {g g' : G} (hq : BN P T q code) (h : PJ q S g = some (outs, g')) (hg : Good T e g') :
  Good T e g ∧ Ends P T e w0 S (fun Q a w => LW P code Q a w) outs := by
 unfold PJ at h
 split at h
 rename_i ml ρ _
 simp at h
 obtain ⟨hm, ⟨⟨c1, c2⟩, c3⟩, h⟩ := h
 generalize hls : Ek ml q.k = ls at h c1
 have hlen : ls.length = q.k := by rw [← hls]; simp [Ek]
 have hgl : Good T e (Ca (B9 q ls (El (g.next + 1) q.w)) S.pc q.outs (Bt S.pc (q.outs.map fun x => Cj (B9 q ls (El (g.next + 1) q.w)) x.2.pc) ((g.BH (.call q.id) ls (1 + q.w)).2.BC S.pc (.var g.next)))).2 := by
  have h' : Ca (B9 q ls (El (g.next + 1) q.w)) S.pc q.outs (Bt S.pc (q.outs.map fun x => Cj (B9 q ls (El (g.next + 1) q.w)) x.2.pc) ((g.BH (.call q.id) ls (1 + q.w)).2.BC S.pc (.var g.next))) = (outs, g') := h
  rw [h']
  exact hg
 have houts : outs = (Ca (B9 q ls (El (g.next + 1) q.w)) S.pc q.outs (Bt S.pc (q.outs.map fun x => Cj (B9 q ls (El (g.next + 1) q.w)) x.2.pc) ((g.BH (.call q.id) ls (1 + q.w)).2.BC S.pc (.var g.next)))).1 := by
  have h' : Ca (B9 q ls (El (g.next + 1) q.w)) S.pc q.outs (Bt S.pc (q.outs.map fun x => Cj (B9 q ls (El (g.next + 1) q.w)) x.2.pc) ((g.BH (.call q.id) ls (1 + q.w)).2.BC S.pc (.var g.next))) = (outs, g') := h
  rw [h']
 clear h hg
 generalize hσ : B9 q ls (El (g.next + 1) q.w) = σ at hgl houts
 obtain ⟨h1, h2, h3⟩ := IN hgl
 obtain ⟨h4, h5⟩ := EX h1
 have hmu := Ax h4
 have hpn := Dh hmu.1
 rw [← houts] at h2 h3
 refine ⟨hpn.1, fun x u hx hu => ?_, fun x y u v hx hy hu hv => ?_, fun loc a w Q hpc hf hw hQ => ?_⟩
 ·obtain ⟨s, _, _, _, s4⟩ := h2 x u hx
  rw [s4, Bool.and_eq_true] at hu
  exact hu.1
 ·obtain ⟨s, s1, _, _, s4⟩ := h2 x u hx
  obtain ⟨t, t1, _, _, t4⟩ := h2 y v hy
  rw [s4, Bool.and_eq_true] at hu
  rw [t4, Bool.and_eq_true] at hv
  obtain ⟨i, hi, hi2⟩ := List.mem_iff_getElem.1 s1
  obtain ⟨j, hj, hj2⟩ := List.mem_iff_getElem.1 t1
  have gi : (q.outs.map fun x => Cj σ x.2.pc)[i]? = some (Cj σ s.pc) := by rw [List.getElem?_map, List.getElem?_eq_getElem hi, hi2]; rfl
  have gj : (q.outs.map fun x => Cj σ x.2.pc)[j]? = some (Cj σ t.pc) := by rw [List.getElem?_map, List.getElem?_eq_getElem hj, hj2]; rfl
  rcases Nat.lt_trichotomy i j with hij | hij | hij
  ·exact absurd ⟨hu.2, hv.2⟩ (h5 hu.1 i j _ _ hij gi gj)
  ·subst hij
   rw [hi2] at hj2
   injection hj2
  ·exact absurd ⟨hv.2, hu.2⟩ (h5 hu.1 j i _ _ hij gj gi)
 ·-- the head
  obtain ⟨k1, k2, k3, k4, k5⟩ := Ey (e := e) (loc := loc) (w0 := w0) c1
  have he1 : ∀ i, LA (ls.map (L.ev e)) i = (Bs ls i).ev e := fun i => by
   unfold LA Bs
   rw [List.getD, List.getElem?_map]
   cases ls[i]? <;> rfl
  have hpre : (T q.id (ls.map (L.ev e))).1 = true := by
   have p1 := hmu.2 hpc
   have p2 := hpn.2 0 _ rfl
   simp only [G.BH, Nat.add_zero] at p2
   rw [L.Al, p2] at p1
   exact p1
  have hfr := k4 _ hf
  have hcl := k5 _ hw
  have hrl : (De (Bs ls) q.tm).rows.length = q.tm.rows.length := by simp [De]
  rw [hrl] at hfr
  refine hq.2 (ls.map (L.ev e)) w0 (Ew loc ρ) a w Q (by simpa using hlen) hpre ((FV he1).1 hfr) (by obtain ⟨B, hB, hR, hbel⟩ := hcl; exact ⟨B, hB, (Ev he1).1 hR, hbel⟩) fun x s e' hxs hag hs loc' a' w' q1 q2 q3 q4 => ?_
  obtain ⟨u, u1, u2, u3, u4⟩ := h3 c2 x s hxs
  have hus := c3 _ _ hxs
  simp only [Bool.and_eq_true, S0] at hus
  obtain ⟨⟨⟨us1, us2⟩, us3⟩, us4⟩ := hus
  have hw' := hq.1 _ hpre
  have he2 : ∀ i, Q9 q (ls.map (L.ev e)) (T q.id (ls.map (L.ev e))).2 i = (σ i).ev e := fun i => by
   rw [← hσ]
   unfold Q9 B9
   split
   ·split
    ·exact he1 i
    ·rfl
   ·unfold Bs El
    generalize i - q.k = j
    by_cases hj : j < q.w
    ·have hj' : (T q.id (ls.map (L.ev e))).2[j]? = some ((T q.id (ls.map (L.ev e))).2[j]'(by omega)) := List.getElem?_eq_getElem (by omega)
     have := hpn.2 (j + 1) _ (show (D.ev T (.call q.id) (ls.map (L.ev e)))[j + 1]? = some _ from hj')
     simp only [G.BH] at this
     rw [List.getD, hj', List.getElem?_map, List.getElem?_range hj]
     simp only [Option.map_some, Option.getD_some, L.Al]
     rw [← this]
     congr 1
     omega
    ·rw [List.getD, List.getElem?_eq_none (by omega), List.getElem?_eq_none (by simp; omega)]
     rfl
  have hfr2 := Pd hag us1 q2
  obtain ⟨B4, hB4, hR4, hbel4⟩ := q4
  have hrw2 := Nh hag us2 hR4
  have hpc2 := B7 hag us3
  simp only [Gr] at hpc2
  have hrl2 : (De σ s).rows.length = s.rows.length := by simp [De]
  refine hQ x u u1 (by rw [u4, hpc, Is he2, ← hpc2, hs]; rfl) loc' a' w' (by rw [hm]; exact k3.trans q1 (Nat.le_refl _)) (by rw [hm, u3, hrl2]; exact us4) ?_ q3 ?_
  ·rw [u2, u3, hrl2]
   exact (FV he2).2 hfr2
  ·rw [u3]
   exact ⟨B4, hB4, (Ev he2).2 hrw2, hbel4⟩
end
end Rx
namespace Rx
open Go Go.RowKit
section
variable {T : Nat → List A → Bool × List A} {e : Nat → A} {P : Program} {X : Ctx} {w0 : W0}
theorem An.enter {n : Nat} {loc : Loc} {args : List PV} {vs : List Value} {m : Nat} (h : Ar e n loc args vs) :
  An e n loc (args.map .pv ++ List.replicate (m - args.length) .undef) (vs.toArray ++ Array.replicate (m - vs.toArray.size) Go.undef) := by
 have hl := Gb h
 have at_ : ∀ {args : List PV} {vs : List Value} (i : Nat) (p : PV) (v : Value), Ar e n loc args vs → args[i]? = some p → vs[i]? = some v → p.rel e n loc v := by
  intro args
  induction args with
  | nil => intro vs i p v _ h; simp at h
  | cons a l ih =>
   intro vs i p v h hp hv
   cases vs with
   | nil => exact h.elim
   | cons b vs =>
    cases i with
    | zero => simp at hp hv; subst hp hv; exact h.1
    | succ i => exact ih i p v h.2 (by simpa using hp) (by simpa using hv)
 refine ⟨by simp [hl], fun i s v hs hv => ?_⟩
 by_cases hi : i < args.length
 ·rw [List.getElem?_append_left (by simpa using hi)] at hs
  rw [Array.getElem?_append_left (by simp; omega)] at hv
  simp only [List.getElem?_map, Option.map_eq_some_iff] at hs
  obtain ⟨p, hp, rfl⟩ := hs
  exact at_ i p v h hp (by simpa using hv)
 ·rw [List.getElem?_append_right (by simp; omega)] at hs
  rw [Array.getElem?_append_right (by simp; omega)] at hv
  have hs' := List.mem_of_getElem? hs
  have hv' := Array.mem_of_getElem? hv
  rw [List.mem_replicate] at hs'
  rw [Array.mem_replicate] at hv'
  rw [hs'.2, hv'.2]
  rfl
theorem P8 {c : L} {both : Option (L × L × L)} {s t : L} {g : G} (h : Good T e (EI c both s t g).2) : Good T e g := by
 unfold EI at h
 split at h
 ·split at h
  ·exact h
  ·exact (DC h).1
 ·exact (DC h).1
theorem D5 {c : L} {both : Option (L × L × L)} {s t : St} {g : G} (h : Good T e (BJ c both s t g).2) : Good T e g := by
 unfold BJ at h
 generalize CF s t = st at h
 simp only at h
 exact (D0 (CY (P8 h)).1).1
theorem C2 {c nc : L} {both : Option (L × L × L)} : ∀ {o1 o2 : Aj} {g : G}, Good T e (combine c nc both o1 o2 g).2 → Good T e g
 | [], o2, g, h => (Jj (w0 := default) h).1
 | (y, s) :: l, o2, g, h => by
  unfold combine at h
  cases ht : Aj.get y o2 with
  | some t =>
   rw [ht] at h
   simp only at h
   exact D5 (C2 h)
  | none =>
   rw [ht] at h
   simp only at h
   exact (AI (C2 h)).1
theorem Sb {id : Nat} {o : Aj} {g g' : G} {outs : Aj} (h : (match Aj.get (.exit id) o, Aj.get .norm o with
   | none, _ => some (o, g)
   | some t, none => some ((.norm, t) :: Aj.drop (.exit id) o, g)
   | some t, some s =>
    let (u, g) := BJ s.pc none s t g
    some ((.norm, u) :: Aj.drop (.exit id) (Aj.drop .norm o), g)) = some (outs, g')) (hg : Good T e g') : Good T e g := by
 split at h
 ·simp only [Option.some.injEq, Prod.mk.injEq] at h
  obtain ⟨_, rfl⟩ := h
  exact hg
 ·simp only [Option.some.injEq, Prod.mk.injEq] at h
  obtain ⟨_, rfl⟩ := h
  exact hg
 ·simp only [Option.some.injEq, Prod.mk.injEq] at h
  obtain ⟨_, rfl⟩ := h
  exact D5 hg
theorem Ra {o : Aj} {g g' : G} {s : St} (h : MA o g = some (s, g')) (hg : Good T e g') : Good T e g := by
 unfold MA at h
 split at h
 ·simp only [Option.some.injEq, Prod.mk.injEq] at h
  obtain ⟨_, rfl⟩ := h
  exact hg
 ·simp only [Option.some.injEq, Prod.mk.injEq] at h
  obtain ⟨_, rfl⟩ := h
  exact hg
 ·simp only [Option.some.injEq] at h
  exact D5 (c := _) (both := none) (s := _) (t := _) (by rw [h]; exact hg)
 ·simp only [Option.some.injEq] at h
  exact D5 (c := _) (both := none) (s := _) (t := _) (by rw [h]; exact hg)
 ·cases h
def child : Code → Bool → Option Code
 | .seq a b, t => some (if t then b else a)
 | .cond _ a b, t => some (if t then b else a)
 | .block _ c, false => some c
 | .loop c, false => some c
 | _, _ => none
def CO : List Bool → Code → Option Code
 | [], c => some c
 | b :: p, c => match CO p c with | some d => child d b | none => none
def XI (X : Ctx) (f : Nat) (pa : List Bool) (c : Code) : Prop := ∃ fn body, X.fns f = some fn ∧ fn.body = some body ∧ CO pa body = some c
theorem XI.child {f : Nat} {pa : List Bool} {c d : Code} {b : Bool} (h : XI X f pa c) (hd : Rx.child c b = some d) : XI X f (b :: pa) d := by
 obtain ⟨fn, body, h1, h2, h3⟩ := h
 exact ⟨fn, body, h1, h2, by simp only [CO, h3, hd]⟩
structure XL (P : Program) (T : Nat → List A → Bool × List A) (X : Ctx) : Prop extends XOK P T X where
 lps : ∀ q ∈ X.lps, ∀ fn body c, X.fns q.f = some fn → fn.body = some body → CO q.p body = some (.loop c) → BN P T q c
theorem Pe : ∀ {a b : List Bool}, Cp (· == ·) a b = true → a = b
 | [], [], _ => rfl
 | [], _ :: _, h => by simp [Cp] at h
 | _ :: _, [], h => by simp [Cp] at h
 | a :: l, b :: m, h => by
  simp only [Cp, Bool.and_eq_true, beq_iff_eq] at h
  rw [h.1, Pe h.2]
theorem Ez {f : Nat} {pa : List Bool} {S : St} {c : Code} {outs : Aj} {g g' : G} : ∀ {l : List Lp}, (∀ q ∈ l, q.f = f → q.p = pa → BN P T q c) → FH f pa S g l = some (outs, g') → Good T e g' →
  Good T e g ∧ Ends P T e w0 S (fun Q a w => LW P c Q a w) outs
 | [], _, h, _ => by simp [FH] at h
 | q :: l, hl, h, hg => by
  unfold FH at h
  have hl' : ∀ q ∈ l, q.f = f → q.p = pa → BN P T q c := fun q hq => hl q (by simp [hq])
  split at h
  ·rename_i hc
   simp only [Bool.and_eq_true, beq_iff_eq] at hc
   split at h
   ·rename_i r hr
    injection h with h
    subst h
    exact Of (hl q (by simp) hc.1 (Pe hc.2)) hr hg
   ·exact Ez hl' h hg
  ·exact Ez hl' h hg
theorem Gs (hX : XL P T X) : ∀ n : Nat,
  (∀ (f : Nat) (pa : List Bool) (c : Code) (S : St) (g : G) (outs : Aj) (g' : G), XI X f pa c → exec X n f pa c S g = some (outs, g') → Good T e g' → Good T e g ∧ Ends P T e w0 S (fun Q a w => c.wp P Q a w) outs) ∧
  (∀ (f : Nat) (pa : List Bool) (c : Code) (S : St) (k : Nat) (g : G) (outs : Aj) (g' : G), XI X f pa c → rounds X n f pa c S k g = some (outs, g') → Good T e g' → Good T e g ∧ Ends P T e w0 S (fun Q a w => LW P c Q a w) outs) ∧
  HC P T e w0 (inline X n)
 | 0 => ⟨fun f pa c S g outs g' _ h => by simp [exec] at h, fun f pa c S k g outs g' _ h => by simp [rounds] at h, fun f args rows pc g v rows' g' h => by simp [inline] at h⟩
 | n + 1 => by
  obtain ⟨ih1, ih2, ih3⟩ := Gs hX n
  refine ⟨fun f pa c S g outs g' hat h hg => ?_, fun f pa c S k g outs g' hat h hg => ?_, fun f args rows pc g v rows' g' h hg => ?_⟩
  ·cases c with
   | skip =>
    simp only [exec, Option.some.injEq, Prod.mk.injEq] at h
    obtain ⟨rfl, rfl⟩ := h
    exact ⟨hg, EW rfl fun loc a w Q hpc hf hw hc => wp_skip (hc loc a w (AG.refl _ _) (Nat.le_refl _) hf rfl hw)⟩
   | ret =>
    simp only [exec, Option.some.injEq, Prod.mk.injEq] at h
    obtain ⟨rfl, rfl⟩ := h
    exact ⟨hg, EW rfl fun loc a w Q hpc hf hw hc => wp_ret (hc loc a w (AG.refl _ _) (Nat.le_refl _) hf rfl hw)⟩
   | exit id =>
    simp only [exec, Option.some.injEq, Prod.mk.injEq] at h
    obtain ⟨rfl, rfl⟩ := h
    exact ⟨hg, EW rfl fun loc a w Q hpc hf hw hc => wp_exit (hc loc a w (AG.refl _ _) (Nat.le_refl _) hf rfl hw)⟩
   | region id ops draw =>
    simp only [exec, Option.bind_eq_bind, Option.bind_eq_some_iff, Option.some.injEq, Prod.mk.injEq] at h
    obtain ⟨⟨S', g1⟩, h1, rfl, rfl⟩ := h
    obtain ⟨k1, k2, k3⟩ := KL hX.toXOK ih3 h1 hg
    refine ⟨k1, EW k2 fun loc a w Q hpc hf hw hc => ?_⟩
    have := k3 id loc a w Q hpc hf hw hc
    simpa using this
   | seq x y =>
    simp only [exec, Option.bind_eq_bind, Option.bind_eq_some_iff] at h
    obtain ⟨⟨o, g1⟩, h1, h⟩ := h
    simp only at h
    have hW : ∀ Q a w, x.wp P (Exit.then (y.wp P Q) Q) a w → (Code.seq x y).wp P Q a w := fun Q a w hh => wp_seq hh
    split at h
    ·rename_i hn
     simp only [Option.some.injEq, Prod.mk.injEq] at h
     obtain ⟨rfl, rfl⟩ := h
     obtain ⟨k1, k2⟩ := ih1 _ _ _ _ _ _ _ (hat.child rfl) h1 hg
     exact ⟨k1, Pb (Wb := fun Q a w => y.wp P Q a w) hW k2 hn⟩
    ·rename_i s hn
     split at h
     ·rename_i hf
      simp only [Option.some.injEq, Prod.mk.injEq] at h
      obtain ⟨rfl, rfl⟩ := h
      obtain ⟨k1, k2⟩ := ih1 _ _ _ _ _ _ _ (hat.child rfl) h1 hg
      exact ⟨k1, Nb (Wb := fun Q a w => y.wp P Q a w) hW k2 hn hf⟩
     ·simp only [Option.bind_eq_some_iff] at h
      obtain ⟨⟨o2, g2⟩, h2, h⟩ := h
      simp only at h
      split at h
      ·rename_i hr
       simp only [Option.some.injEq, Prod.mk.injEq] at h
       obtain ⟨rfl, rfl⟩ := h
       obtain ⟨q1, q2⟩ := ih1 _ _ _ _ _ _ _ (hat.child rfl) h2 hg
       obtain ⟨k1, k2⟩ := ih1 _ _ _ _ _ _ _ (hat.child rfl) h1 q1
       exact ⟨k1, Nc hW k2 hn q2 hr⟩
      ·simp only [Option.some.injEq] at h
       have hgc : Good T e (combine s.pc (mkNot s.pc g2).1 none o2 (Aj.drop .norm o) (mkNot s.pc g2).2).2 := by rw [h]; exact hg
       have hcg := C1 (w0 := w0) (T := T) (e := e) (c := s.pc) (nc := (mkNot s.pc g2).1) (both := none) (o1 := o2) (o2 := Aj.drop .norm o) (g := (mkNot s.pc g2).2)
       have hgn : Good T e (mkNot s.pc g2).2 := C2 hgc
       have hnot := Bi hgn
       obtain ⟨q1, q2⟩ := ih1 _ _ _ _ _ _ _ (hat.child rfl) h2 hnot.1
       obtain ⟨k1, k2⟩ := ih1 _ _ _ _ _ _ _ (hat.child rfl) h1 q1
       have := JN hW k2 hn q2 (nc := (mkNot s.pc g2).1) (by rw [hnot.2]; rfl) hgc
       rw [h] at this
       exact ⟨k1, this⟩
   | cond c x y =>
    simp only [exec, Option.bind_eq_bind, Option.bind_eq_some_iff] at h
    obtain ⟨p, hp, b, hb, h⟩ := h
    have hev : ∀ loc (a : Act), An e S.rows.length loc S.fr a.tmps → a.eval c = .bool (b.ev e).bool := fun loc a hf => PV.MI hb (Aa hp hf (fun x hx => by cases hx))
    split at h
    ·obtain ⟨k1, k2⟩ := ih1 _ _ _ _ _ _ _ (hat.child rfl) h hg
     exact ⟨k1, k2.pc, k2.one, fun loc a w Q hpc hf hw hQ => wp_cond_true (hev loc a hf) (k2.wp loc a w Q hpc hf hw hQ)⟩
    ·obtain ⟨k1, k2⟩ := ih1 _ _ _ _ _ _ _ (hat.child rfl) h hg
     exact ⟨k1, k2.pc, k2.one, fun loc a w Q hpc hf hw hQ => wp_cond_false (hev loc a hf) (k2.wp loc a w Q hpc hf hw hQ)⟩
    ·simp only [Option.bind_eq_some_iff] at h
     obtain ⟨⟨o1, g1⟩, h1, ⟨o2, g2⟩, h2, h⟩ := h
     simp only [Option.some.injEq] at h
     obtain ⟨nx, gn, hnx⟩ : ∃ nx gn, mkNot b g = (nx, gn) := ⟨_, _, rfl⟩
     obtain ⟨p1, ga, hp1⟩ : ∃ p1 ga, mkAnd S.pc b gn = (p1, ga) := ⟨_, _, rfl⟩
     obtain ⟨p2, gb, hp2⟩ : ∃ p2 gb, mkAnd S.pc nx ga = (p2, gb) := ⟨_, _, rfl⟩
     simp only [hnx, hp1, hp2] at h h1 h2
     have hgc : Good T e (combine b nx (some (S.pc, p1, p2)) o1 o2 g2).2 := by rw [h]; exact hg
     have hg2 : Good T e g2 := C2 hgc
     obtain ⟨q1, q2⟩ := ih1 _ _ _ _ _ _ _ (hat.child rfl) h2 hg2
     obtain ⟨k1, k2⟩ := ih1 _ _ _ _ _ _ _ (hat.child rfl) h1 q1
     have m2 := AI (T := T) (e := e) (a := S.pc) (b := nx) (g := ga) (by rw [hp2]; exact k1)
     rw [hp2] at m2
     have m1 := AI (T := T) (e := e) (a := S.pc) (b := b) (g := gn) (by rw [hp1]; exact m2.1)
     rw [hp1] at m1
     have m0 := Bi (T := T) (e := e) (a := b) (g := g) (by rw [hnx]; exact m1.1)
     rw [hnx] at m0
     have hnc : (nx.ev e).bool = !(b.ev e).bool := by rw [m0.2]; rfl
     have hcg := (C1 (w0 := w0) hnc (fun p x y h0 => by
      simp only [Option.some.injEq, Prod.mk.injEq] at h0
      obtain ⟨rfl, rfl, rfl⟩ := h0
      exact ⟨m1.2, by rw [m2.2, hnc]⟩) hgc).2
     rw [h] at hcg
     obtain ⟨c1, c2, c3⟩ := hcg
     refine ⟨m0.1, fun x u hx hu => ?_, fun x y u v hx hy hu hv => ?_, fun loc a w Q hpc hf hw hQ => ?_⟩
     ·rcases c1 x u hx hu with ⟨_, s, s1, s2⟩ | ⟨_, s, s1, s2⟩
      ·have := k2.pc x s s1 s2
       simp only [m1.2, Bool.and_eq_true] at this
       exact this.1
      ·have := q2.pc x s s1 s2
       simp only [m2.2, Bool.and_eq_true] at this
       exact this.1
     ·rcases c1 x u hx hu with ⟨a1, s, s1, s2⟩ | ⟨a1, s, s1, s2⟩ <;> rcases c1 y v hy hv with ⟨a2, t, t1, t2⟩ | ⟨a2, t, t1, t2⟩
      ·exact k2.one _ _ _ _ s1 t1 s2 t2
      ·rw [a1] at a2; cases a2
      ·rw [a1] at a2; cases a2
      ·exact q2.one _ _ _ _ s1 t1 s2 t2
     ·refine wp_cond_split (hev loc a hf) (fun ht => ?_) (fun ht => ?_)
      ·refine k2.wp loc a w Q (by simp only [m1.2, hpc, ht, Bool.and_self]) hf hw fun x s hx hs => ?_
       obtain ⟨u, u1, u2, u3⟩ := c2 ht x s hx hs
       exact (hQ x u u1 u2).ref u3
      ·refine q2.wp loc a w Q (by simp only [m2.2, hpc, hnc, ht]; rfl) hf hw fun x s hx hs => ?_
       obtain ⟨u, u1, u2, u3⟩ := c3 ht x s hx hs
       exact (hQ x u u1 u2).ref u3
   | block id c =>
    simp only [exec, Option.bind_eq_bind, Option.bind_eq_some_iff] at h
    obtain ⟨⟨o, g1⟩, h1, h⟩ := h
    simp only at h
    have hg1 : Good T e g1 := Sb h hg
    obtain ⟨k1, k2⟩ := ih1 _ _ _ _ _ _ _ (hat.child rfl) h1 hg1
    exact ⟨k1, (Sa k2 h hg).2⟩
   | loop c =>
    simp only [exec] at h
    split at h
    ·obtain ⟨fn, body, f1, f2, f3⟩ := hat
     obtain ⟨k1, k2⟩ := Ez (w0 := w0) (c := c) (fun q hq hf hp => hX.lps q hq fn body c (by rw [hf]; exact f1) f2 (by rw [hp]; exact f3)) h hg
     exact ⟨k1, k2.pc, k2.one, fun loc a w Q hpc hf hw hQ => (k2.wp loc a w Q hpc hf hw hQ).wp⟩
    obtain ⟨k1, k2⟩ := ih2 _ _ _ _ _ _ _ _ (hat.child rfl) h hg
    exact ⟨k1, k2.pc, k2.one, fun loc a w Q hpc hf hw hQ => (k2.wp loc a w Q hpc hf hw hQ).wp⟩
   | _ => simp [exec] at h
  ·simp only [rounds, Option.bind_eq_bind] at h
   have hW : ∀ Q a w, c.wp P (Exit.then (LW P c Q) Q) a w → LW P c Q a w := fun Q a w hh => .of hh
   split at h
   ·simp only [Option.some.injEq, Prod.mk.injEq] at h
    obtain ⟨rfl, rfl⟩ := h
    have hm := Ax hg
    have hn := Bi hm.1
    have hf : (S.pc.ev e).bool = false := by
     have := hm.2 rfl
     rw [hn.2] at this
     simpa using this
    exact ⟨hn.1, fun x s hx => by simp [Aj.get] at hx, fun x y s t hx => by simp [Aj.get] at hx, fun loc a w Q hpc => by rw [hf] at hpc; cases hpc⟩
   ·simp only [Option.bind_eq_some_iff] at h
    obtain ⟨⟨o, g1⟩, h1, h⟩ := h
    simp only at h
    split at h
    ·rename_i hn
     simp only [Option.some.injEq, Prod.mk.injEq] at h
     obtain ⟨rfl, rfl⟩ := h
     obtain ⟨k1, k2⟩ := ih1 _ _ _ _ _ _ _ hat h1 hg
     exact ⟨k1, Pb (Wb := fun Q a w => LW P c Q a w) hW k2 hn⟩
    ·rename_i s hn
     split at h
     ·rename_i hf
      simp only [Option.some.injEq, Prod.mk.injEq] at h
      obtain ⟨rfl, rfl⟩ := h
      obtain ⟨k1, k2⟩ := ih1 _ _ _ _ _ _ _ hat h1 hg
      exact ⟨k1, Nb (Wb := fun Q a w => LW P c Q a w) hW k2 hn hf⟩
     ·simp only [Option.bind_eq_some_iff] at h
      obtain ⟨⟨o2, g2⟩, h2, h⟩ := h
      simp only at h
      split at h
      ·rename_i hr
       simp only [Option.some.injEq, Prod.mk.injEq] at h
       obtain ⟨rfl, rfl⟩ := h
       obtain ⟨q1, q2⟩ := ih2 _ _ _ _ _ _ _ _ hat h2 hg
       obtain ⟨k1, k2⟩ := ih1 _ _ _ _ _ _ _ hat h1 q1
       exact ⟨k1, Nc hW k2 hn q2 hr⟩
      ·simp only [Option.some.injEq] at h
       have hgc : Good T e (combine s.pc (mkNot s.pc g2).1 none o2 (Aj.drop .norm o) (mkNot s.pc g2).2).2 := by rw [h]; exact hg
       have hgn : Good T e (mkNot s.pc g2).2 := C2 hgc
       have hnot := Bi hgn
       obtain ⟨q1, q2⟩ := ih2 _ _ _ _ _ _ _ _ hat h2 hnot.1
       obtain ⟨k1, k2⟩ := ih1 _ _ _ _ _ _ _ hat h1 q1
       have := JN hW k2 hn q2 (nc := (mkNot s.pc g2).1) (by rw [hnot.2]; rfl) hgc
       rw [h] at this
       exact ⟨k1, this⟩
  ·simp only [inline] at h
   split at h
   ·exact Gn hX.big h hg
   split at h
   ·rename_i m hm
    split at h
    ·rename_i hf
     have hf : m.f = f := by simpa using hf
     obtain ⟨q1, q2⟩ := N7 (hX.muts _ _ hm) h hg
     rw [hf] at q2
     exact ⟨q1, q2⟩
    ·cases h
   simp only [Option.bind_eq_bind, Option.bind_eq_some_iff] at h
   obtain ⟨fn, hfn, body, hbody, ⟨o, g1⟩, h1, ⟨s, g2⟩, h2, ⟨rs, g3⟩, h3, h⟩ := h
   simp only [Option.some.injEq, Prod.mk.injEq] at h
   obtain ⟨rfl, rfl, rfl⟩ := h
   obtain ⟨f1, _, _⟩ := hX.fns f fn hfn
   obtain ⟨r1, r2⟩ := Fj (P := P) (e := e) (w0 := w0) hX.Aw h3
   subst r1
   have hg1 : Good T e g1 := Ra h2 hg
   obtain ⟨k1, k2⟩ := ih1 _ _ _ _ _ _ _ ⟨fn, body, hfn, hbody, rfl⟩ h1 hg1
   obtain ⟨_, j2⟩ := P7 k2 h2 hg
   refine ⟨k1, fun loc vs w hpc hvs hw => ?_⟩
   refine calls_of_wp f1 hbody (k2.wp loc _ w _ hpc (An.enter hvs) hw fun x s1 hx hs1 => ?_)
   obtain ⟨j3, j4⟩ := j2 x s1 hx hs1
   intro loc' a' w' q1 q2 q3 q4 q5
   obtain ⟨loc2, t0, t1, t2, t3⟩ := j4 loc' a'.tmps w' q3 q5
   obtain ⟨us, u1, u2⟩ := r2 loc2 a'.tmps w' t2 t3
   have : a'.defers = [] ∧ ∃ v, (Go.results fn a'.tmps).run P w' = .ok v w' ∧ (fun en w'' => ∃ u, en = Ending.returned u ∧ ∃ loc', AG rows.length loc loc' ∧ rows.length ≤ s.rows.length ∧ (Jt rs).rel e s.rows.length loc' u ∧ A8 e w0 loc' s.rows w'') (.returned v) w' :=
    ⟨q4, Hy us, Q7 u2, Hy us, rfl, loc2, q1.trans t0 q2, Nat.le_trans q2 t1, FT u1, t3⟩
   rcases j3 with rfl | rfl
   ·exact this
   ·exact this
end
end Rx
namespace Rx
open Go Go.RowKit
section
variable {T : Nat → List A → Bool × List A} {e : Nat → A} {P : Program} {X : Ctx} {w0 : W0}
def ext (T : Nat → List A → Bool × List A) (e : Nat → A) (d : Def) : Nat → A := fun j =>
 if d.base ≤ j then (match (d.d.ev T (d.args.map (L.ev e)))[j - d.base]? with | some a => a | none => e j) else e j
def CP (T : Nat → List A → Bool × List A) (e : Nat → A) : List Def → Nat → A
 | [] => e
 | d :: l => ext T (CP T e l) d
def BZ (k : Nat) : List L → Bool
 | [] => true
 | .var i :: l => decide (i < k) && BZ k l
 | _ :: l => BZ k l
def Def.width (ws : List (Nat × Nat)) (d : Def) : Nat :=
 match d.d with
 | .call f => (look f ws).getD 0
 | .upd => d.args.length - 2
 | _ => 1
def HF (ws : List (Nat × Nat)) : List Def → Nat → Bool
 | [], _ => true
 | d :: l, top => BZ d.base d.args && decide (d.base + d.width ws ≤ top) && (match d.d with | .call f => (look f ws).isSome | _ => true) && HF ws l d.base
def D6 (T : Nat → List A → Bool × List A) (ws : List (Nat × Nat)) : Prop := ∀ f k, look f ws = some k → ∀ as, (T f as).2.length + 1 ≤ k
theorem Xn {ws : List (Nat × Nat)} (hw : D6 T ws) (d : Def) (hd : (match d.d with | .call f => (look f ws).isSome | _ => true) = true) : (d.d.ev T (d.args.map (L.ev e))).length ≤ d.width ws := by
 obtain ⟨b, dd, args⟩ := d
 unfold Def.width
 cases dd
 case call f =>
  simp only at hd
  cases hk : look f ws with
  | none => rw [hk] at hd; cases hd
  | some k => simpa [D.ev, hk] using hw f k hk (args.map (L.ev e))
 case upd =>
  match args with
  | [] => simp [D.ev]
  | [_] => simp [D.ev]
  | _ :: _ :: l => simp [D.ev]
 case rep =>
  match args with
  | [] => simp [D.ev]
  | _ :: l => simp [D.ev]
 case mkl => simp [D.ev]
 case sel =>
  match args with
  | [] => simp [D.ev]
  | _ :: l => simp [D.ev]
 all_goals
  match args with
  | [] => simp [D.ev]
  | [_] => simp [D.ev]
  | [_, _] => simp [D.ev]
  | [_, _, _] => simp [D.ev]
  | _ :: _ :: _ :: _ :: _ => simp [D.ev]
theorem BO {k : Nat} {e e' : Nat → A} (he : ∀ j, j < k → e' j = e j) : ∀ {l : List L}, BZ k l = true → l.map (L.ev e') = l.map (L.ev e)
 | [], _ => rfl
 | .var i :: l, h => by
  simp only [BZ, Bool.and_eq_true, decide_eq_true_eq] at h
  simp only [List.map_cons, L.ev, he i h.1, BO he h.2]
 | .e :: l, h => by simp only [BZ] at h; simp only [List.map_cons, L.ev, BO he h]
 | .n _ :: l, h => by simp only [BZ] at h; simp only [List.map_cons, L.ev, BO he h]
 | .t _ :: l, h => by simp only [BZ] at h; simp only [List.map_cons, L.ev, BO he h]
 | .s _ :: l, h => by simp only [BZ] at h; simp only [List.map_cons, L.ev, BO he h]
theorem Iu {ws : List (Nat × Nat)} (hw : D6 T ws) (e : Nat → A) : ∀ {l : List Def} {top : Nat}, HF ws l top = true → ∀ d ∈ l, d.holds T (CP T e l)
 | d :: l, top, h, x, hx => by
  simp only [HF, Bool.and_eq_true, decide_eq_true_eq] at h
  obtain ⟨⟨⟨h1, h2⟩, hcd⟩, h3⟩ := h
  have below : ∀ j, j < d.base → CP T e (d :: l) j = CP T e l j := fun j hj => by
   show ext T (CP T e l) d j = _
   unfold ext
   rw [if_neg (by omega)]
  rcases List.mem_cons.1 hx with rfl | hx
  ·intro j a ha
   rw [BO below h1] at ha
   show ext T (CP T e l) x (x.base + j) = a
   unfold ext
   rw [if_pos (by omega), show x.base + j - x.base = j by omega, ha]
  ·have ih := Iu hw e h3 x hx
   have htop : ∀ {l : List Def} {top : Nat}, HF ws l top = true → ∀ d ∈ l, d.base + d.width ws ≤ top ∧ BZ d.base d.args = true ∧ (match d.d with | .call f => (look f ws).isSome | _ => true) = true := by
    intro l
    induction l with
    | nil => intro top _ d hd; cases hd
    | cons y l ih =>
     intro top h d hd
     simp only [HF, Bool.and_eq_true, decide_eq_true_eq] at h
     rcases List.mem_cons.1 hd with rfl | hd
     ·exact ⟨h.1.1.2, h.1.1.1, h.1.2⟩
     ·have := ih h.2 d hd
      have h5 := h.1.1.2
      exact ⟨by omega, this.2⟩
   obtain ⟨k1, k2, k3⟩ := htop h3 x hx
   intro j a ha
   rw [BO (e := CP T e l) (fun i hi => below i (by omega)) k2] at ha
   have hj : j < (x.d.ev T (x.args.map (L.ev (CP T e l)))).length := Ab ha
   have hwd := Xn (e := CP T e l) hw x k3
   rw [below _ (by omega)]
   exact ih j a ha
theorem TQ (hX : XL P T X) {n f next : Nat} {args : List PV} {rows rows' : List Row} {v : SV} {g : G} {kn : List FD} (h : run X n f args rows next kn = some (v, rows', g)) (hg : Good T e g)
  {loc : Loc} {vs : List Value} {w : World} (hvs : Ar e rows.length loc args vs) {S : Nat → Prop} (hS : ∀ k, S k → k < w.heap.size) (hrows : Ad e loc rows w ⟨w.heap.size, S⟩) :
  Calls P f vs.toArray w fun en w' => ∃ u, en = .returned u ∧ (∃ loc', v.rel e rows'.length loc' u) ∧ Below w.heap.size w w' := by
 have := (Gs (T := T) (e := e) (w0 := ⟨w, S⟩) hX n).2.2 f args rows (.t true) _ v rows' g h hg
 exact (this.2 loc vs w rfl hvs ⟨_, ⟨rfl, fun k hk => .inl hk, Nat.le_refl _, hS⟩, hrows, Below.refl _ _⟩).mono fun en w' ⟨u, h1, loc', h2, h3, h4, h5⟩ => ⟨u, h1, ⟨loc', h4⟩, h5.XH⟩
end
end Rx
namespace Rx
open Go Go.RowKit
def Th (lf : Nat → L) : List Ak → Nat → List C
 | [], _ => []
 | s :: l, b => .k (s.mk (lf b)) :: Th lf l (b + 1)
def FX (lf : Nat → L) (ss : List Ak) : Nat → Nat → List C
 | 0, _ => []
 | n + 1, b => Th lf ss b ++ FX lf ss n (b + ss.length)
def Rb (lits : List (Nat × Int)) (i : Nat) : L := match look i lits with | some x => .n x | none => .var i
def JO : List Ak → Nat
 | [] => 0
 | .sl _ :: ss => JO ss + 2
 | _ :: ss => JO ss + 1
def HG (lf : Nat → L) : List Ak → Nat → Nat → List C
 | [], _, _ => []
 | .sl _ :: ss, b, r => .k (.fsl r (lf (b + 1))) :: HG lf ss (b + 2) (r + 1)
 | s :: ss, b, r => .k (s.mk (lf b)) :: HG lf ss (b + 1) r
def Cf (lf : Nat → L) : List Ak → Nat → List Row
 | [], _ => []
 | .sl ss' :: ss, b => { own := false, ty := 0, es := 0, cells := [], lst := some ⟨false, 0, ss', lf b, lf (b + 1)⟩ } :: Cf lf ss (b + 2)
 | _ :: ss, b => Cf lf ss (b + 1)
def Df (lf : Nat → L) : List PS → List Nat → Nat → Nat → Option (List PV × List Row × Nat)
 | [], [], b, _ => some ([], [], b)
 | .c agg ss :: l, ns, b, r => do
  let p ← DK agg (Th lf ss b)
  let (ps, rows, k) ← Df lf l ns (b + ss.length) r
  some (p :: ps, rows, k)
 | .slc ss :: l, n :: ns, b, r => do
  let (ps, rows, k) ← Df lf l ns (b + (1 + n * ss.length)) (r + 1)
  some (.one (.k (.slc r 0 n)) :: ps, { own := false, ty := 0, es := ss.length, cells := FX lf ss n (b + 1) } :: rows, k)
 | .nil :: l, ns, b, r => do
  let (ps, rows, k) ← Df lf l ns b r
  some (.one (.k .nilslc) :: ps, rows, k)
 | .d agg ss :: l, ns, b, r => do
  let p ← DK agg (HG lf ss b r)
  let (ps, rows, k) ← Df lf l ns (b + JO ss) (r + (Cf lf ss b).length)
  some (p :: ps, Cf lf ss b ++ rows, k)
 | .lst ss :: l, ns, b, r => do
  let (ps, rows, k) ← Df lf l ns (b + 2) (r + 1)
  some (.one (.k (.fsl r (lf (b + 1)))) :: ps, { own := false, ty := 0, es := 0, cells := [], lst := some ⟨false, 0, ss, lf b, lf (b + 1)⟩ } :: rows, k)
 | _, _, _, _ => none
def P9 : List PS → List Nat → List A → Prop
 | [], ns, as => ns = [] ∧ as = []
 | .c _ ss :: l, ns, as => ∃ a1 a2, as = a1 ++ a2 ∧ a1.length = ss.length ∧ P9 l ns a2
 | .slc ss :: l, ns, as => ∃ n ns' a1 a2, ns = n :: ns' ∧ as = (A.i n :: a1) ++ a2 ∧ a1.length = n * ss.length ∧ P9 l ns' a2
 | .nil :: l, ns, as => P9 l ns as
 | .lst _ :: l, ns, as => ∃ a k as', as = a :: k :: as' ∧ P9 l ns as'
 | .d _ ss :: l, ns, as => ∃ a1 a2, as = a1 ++ a2 ∧ a1.length = JO ss ∧ P9 l ns a2
def Dp : List (Bool × List Ak) → List PV → Option (List L)
 | [], [] => some []
 | (agg, ss) :: rs, p :: ps => do
  let a ← H9 [] (.c agg ss) p
  let r ← Dp rs ps
  some (a ++ r)
 | _, _ => none
def Ni (rs : List (Bool × List Ak)) : SV → Option (List L)
 | .pv p => Dp rs [p]
 | .tup l => if l.length == 1 then none else Dp rs l
 | _ => none
section
variable {T : Nat → List A → Bool × List A} {e : Nat → A} {P : Program} {X : Ctx} {w0 : W0}
theorem KO {n : Nat} {loc : Loc} {lf : Nat → L} : ∀ {ss : List Ak} {as : List A} {b : Nat}, as.length = ss.length → (∀ j a, as[j]? = some a → (lf (b + j)).ev e = a) → Ag e n loc (Th lf ss b) (Af ss as)
 | [], [], _, _, _ => trivial
 | [], _ :: _, _, h, _ => by simp at h
 | _ :: _, [], _, h, _ => by simp at h
 | s :: ss, a :: as, b, h, hh => ⟨FR (by simpa using hh 0 a rfl), KO (by simpa using h) fun j x hx => by
   have := hh (j + 1) x (by simpa using hx)
   rwa [show b + 1 + j = b + (j + 1) by omega]⟩
theorem JP {n : Nat} {loc : Loc} {lf : Nat → L} {ss : List Ak} : ∀ {m b : Nat} {as : List A}, as.length = m * ss.length → (∀ j a, as[j]? = some a → (lf (b + j)).ev e = a) → Ag e n loc (FX lf ss m b) (Iq ss m as)
 | 0, _, _, _, _ => trivial
 | m + 1, b, as, h, hh => by
  have hle : ss.length ≤ as.length := by rw [h, Nat.succ_mul]; omega
  refine DX (KO (by simp [hle]) fun j a hj => ?_) (JP (by rw [List.length_drop, h, Nat.succ_mul]; omega) fun j a hj => ?_)
  ·rw [List.getElem?_take] at hj
   split at hj
   ·exact hh j a hj
   ·cases hj
  ·rw [List.getElem?_drop] at hj
   rw [Nat.add_assoc]
   exact hh _ a hj
theorem Cg {M : Addr → Option Value} : ∀ {ss : List Ak} {as : List A} {cs : List Value}, A2 M ss as cs → as.length = JO ss ∧ cs.length = ss.length
 | [], _, _, h => by obtain ⟨rfl, rfl⟩ := h; exact ⟨rfl, rfl⟩
 | .sl _ :: _, _, _, h => by
  obtain ⟨a, k, ar, b, m, c, cr, rfl, rfl, _, _, _, h⟩ := h
  have := Cg h
  simp [JO, this]
 | .int _ :: _, _, _, h => by obtain ⟨a, ar, cr, rfl, rfl, h⟩ := h; have := Cg h; simp [JO, this]
 | .bool :: _, _, _, h => by obtain ⟨a, ar, cr, rfl, rfl, h⟩ := h; have := Cg h; simp [JO, this]
 | .str :: _, _, _, h => by obtain ⟨a, ar, cr, rfl, rfl, h⟩ := h; have := Cg h; simp [JO, this]
 | .val :: _, _, _, h => by obtain ⟨a, ar, cr, rfl, rfl, h⟩ := h; have := Cg h; simp [JO, this]
theorem BM.mono {M M' : Addr → Option Value} (hm : ∀ a u, M a = some u → M' a = some u) : ∀ {ps : List PS} {vs : List Value} {as : List A}, BM M ps vs as → BM M' ps vs as
 | [], _, _, h => h
 | p :: ps, _, _, h => by
  obtain ⟨v, vr, a1, a2, h1, h2, h3, h4⟩ := h
  refine ⟨v, vr, a1, a2, h1, h2, ?_, h4.mono hm⟩
  cases p with
  | c => exact h3
  | nil => exact h3
  | slc ss =>
   obtain ⟨b, o, n, c, rest, q1, q2, q3, q4⟩ := h3
   exact ⟨b, o, n, c, rest, q1, q2, q3, fun j u hu => hm _ _ (q4 j u hu)⟩
  | lst ss =>
   obtain ⟨a, k, b, m, c, q1, q2, q3, q4, q5⟩ := h3
   exact ⟨a, k, b, m, c, q1, q2, q3, q4, q5.mono hm⟩
  | d agg ss =>
   obtain ⟨cs, q1, q2⟩ := h3
   exact ⟨cs, q1, q2.mono hm⟩
theorem Ti {S : Nat → Prop} {w : World} {ss : List Ak} {x kk : A} {bb : Option Addr} {m c : Nat} {l0 l1 : L} (e0 : l0.ev e = x) (e1 : l1.ev e = kk) (hk : kk.int = (m : Nat)) (hs : 0 < ss.length) (hfsc : Hh (CS S w) (.sl ss) x (.slice bb m c)) :
  Er e (CS S w) { own := false, ty := 0, es := 0, cells := [], lst := some ⟨false, 0, ss, l0, l1⟩ } (.slice bb m c) ∧ ∀ (N r : Nat) (loc : Loc), r < N → loc r = DN (.slice bb m c) → (K.fsl r l1).rel e N loc (.slice bb m c) := by
 obtain ⟨as1, m', c', b', z1, z2, z3, z4⟩ := hfsc.slice
 injection z2 with z2 z5 z6
 subst z2 z5 z6
 refine ⟨⟨rfl, rfl, _, as1, m, rfl, rfl, hs, by rw [← z1]; exact e0, z3, by simp only; rw [e1]; exact hk, by rw [z1] at hfsc; exact hfsc⟩, fun N r loc hr hloc => ?_⟩
 refine ⟨⟨hr, by rw [e1, hk]; omega, ?_⟩, rfl, .inr ?_⟩
 ·rw [hloc, CA, e1, hk]
  exact ⟨bb, c, by simp⟩
 ·simp only [K.A7]
  rw [hloc, CA]
theorem Gt {S : Nat → Prop} {lf : Nat → L} {w : World} {s : Ak} {ss : List Ak} {as : List A} {vs : List Value} {b r : Nat} (h0 : HG lf (s :: ss) b r = .k (s.mk (lf b)) :: HG lf ss (b + 1) r) (h0' : Cf lf (s :: ss) b = Cf lf ss (b + 1))
  (ih : ∀ {as : List A} {vs : List Value} {b r : Nat}, A2 (CS S w) ss as vs → (∀ j a, as[j]? = some a → (lf (b + j)).ev e = a) → ∃ xs : List Value, xs.length = (Cf lf ss b).length ∧ (∀ (t : Nat) row, (Cf lf ss b)[t]? = some row → ∃ v, xs[t]? = some v ∧ Er e (CS S w) row v) ∧
   ∀ (N : Nat) (loc : Loc), r + (Cf lf ss b).length ≤ N → (∀ (t : Nat) v, xs[t]? = some v → loc (r + t) = DN v) → Ag e N loc (HG lf ss b r) vs)
  (h : ∃ a ar cr, as = a :: ar ∧ vs = s.A7 a :: cr ∧ A2 (CS S w) ss ar cr) (he : ∀ j a, as[j]? = some a → (lf (b + j)).ev e = a) :
  ∃ xs : List Value, xs.length = (Cf lf (s :: ss) b).length ∧ (∀ (t : Nat) row, (Cf lf (s :: ss) b)[t]? = some row → ∃ v, xs[t]? = some v ∧ Er e (CS S w) row v) ∧
   ∀ (N : Nat) (loc : Loc), r + (Cf lf (s :: ss) b).length ≤ N → (∀ (t : Nat) v, xs[t]? = some v → loc (r + t) = DN v) → Ag e N loc (HG lf (s :: ss) b r) vs := by
 obtain ⟨a, ar, cr, rfl, rfl, hr⟩ := h
 obtain ⟨xs, x1, x2, x3⟩ := ih (b := b + 1) (r := r) hr (fun j a hj => by
  have := he (1 + j) a (by rw [Nat.add_comm]; simpa using hj)
  rwa [Nat.add_assoc])
 rw [h0, h0']
 exact ⟨xs, x1, x2, fun N loc hN hloc => ⟨FR (he 0 _ rfl), x3 N loc hN hloc⟩⟩
theorem Ck {S : Nat → Prop} {lf : Nat → L} {w : World} : ∀ {ss : List Ak} {as : List A} {vs : List Value} {b r : Nat}, A2 (CS S w) ss as vs → (∀ j a, as[j]? = some a → (lf (b + j)).ev e = a) →
  ∃ xs : List Value, xs.length = (Cf lf ss b).length ∧ (∀ (t : Nat) row, (Cf lf ss b)[t]? = some row → ∃ v, xs[t]? = some v ∧ Er e (CS S w) row v) ∧
   ∀ (N : Nat) (loc : Loc), r + (Cf lf ss b).length ≤ N → (∀ (t : Nat) v, xs[t]? = some v → loc (r + t) = DN v) → Ag e N loc (HG lf ss b r) vs
 | [], _, _, _, _, h, _ => by
  obtain ⟨rfl, rfl⟩ := h
  exact ⟨[], rfl, fun t row h => by simp [Cf] at h, fun _ _ _ _ => trivial⟩
 | .sl ss' :: ss, _, _, b, r, h, he => by
  obtain ⟨a, k, ar, bb, m, c, cr, rfl, rfl, hk, hs, hf, hr⟩ := h
  obtain ⟨xs, x1, x2, x3⟩ := Ck (b := b + 2) (r := r + 1) hr (fun j a hj => by
   have := he (2 + j) a (by rw [show 2 + j = j + 1 + 1 by omega]; simpa using hj)
   rwa [Nat.add_assoc])
  obtain ⟨f1, f2⟩ := Ti (he 0 _ rfl) (he 1 _ rfl) hk hs hf
  refine ⟨.slice bb m c :: xs, by simp [Cf, x1], fun t row ht => ?_, fun N loc hN hloc => ?_⟩
  ·cases t with
   | zero =>
    simp only [Cf, List.getElem?_cons_zero, Option.some.injEq] at ht
    subst ht
    exact ⟨_, rfl, f1⟩
   | succ t => simpa using x2 t row (by simpa [Cf] using ht)
  ·simp only [Cf, List.length_cons] at hN
   refine ⟨f2 N r loc (by omega) (by simpa using hloc 0 _ rfl), x3 N loc (by omega) fun t v ht => ?_⟩
   have := hloc (t + 1) v (by simpa using ht)
   rwa [show r + 1 + t = r + (t + 1) by omega]
 | .int kd :: ss, _, _, b, r, h, he => Gt (s := .int kd) rfl rfl (fun h he => Ck h he) h he
 | .bool :: ss, _, _, b, r, h, he => Gt (s := .bool) rfl rfl (fun h he => Ck h he) h he
 | .str :: ss, _, _, b, r, h, he => Gt (s := .str) rfl rfl (fun h he => Ck h he) h he
 | .val :: ss, _, _, b, r, h, he => Gt (s := .val) rfl rfl (fun h he => Ck h he) h he
theorem Cm {S : Nat → Prop} {lf : Nat → L} {w : World} (hS : ∀ k, S k → k < w.heap.size) : ∀ {ps : List PS} {ns : List Nat} {b r k : Nat} {args : List PV} {rows : List Row} {vs : List Value} {as : List A},
  Df lf ps ns b r = some (args, rows, k) → BM (CS S w) ps vs as → P9 ps ns as → (∀ j a, as[j]? = some a → (lf (b + j)).ev e = a) →
  k = b + as.length ∧ ∃ locs : List Lc, locs.length = rows.length ∧ ∀ (loc : Loc) (N : Nat), (∀ i x, locs[i]? = some x → loc (r + i) = x) → r + rows.length ≤ N →
   Ar e N loc args vs ∧ ∀ i row, rows[i]? = some row → row.own = false ∧ AA e N loc w ⟨w.heap.size, S⟩ (r + i) row ∧ ∀ q, row.lst = some q → q.own = false ∧ Bk e loc w ⟨w.heap.size, S⟩ (r + i) q
 | [], [], b, r, k, args, rows, vs, as, h, ha, hl, he => by
  simp only [Df, Option.some.injEq, Prod.mk.injEq] at h
  obtain ⟨rfl, rfl, rfl⟩ := h
  rw [ha.1, ha.2]
  exact ⟨rfl, [], rfl, fun loc N _ _ => ⟨trivial, fun i row h => by simp at h⟩⟩
 | [], _ :: _, _, _, _, _, _, _, _, h, _, _, _ => by simp [Df] at h
 | .c agg ss :: l, ns, b, r, k, args, rows, vs, as, h, ha, hl, he => by
  simp only [Df, Option.bind_eq_bind, Option.bind_eq_some_iff] at h
  obtain ⟨p, hp, ⟨ps', rows', k'⟩, hr, h⟩ := h
  simp only [Option.some.injEq, Prod.mk.injEq] at h
  obtain ⟨rfl, rfl, rfl⟩ := h
  obtain ⟨v, vr, a1, a2, rfl, rfl, h1, h2⟩ := ha
  obtain ⟨b1, b2, hb, hb1, hb2⟩ := hl
  have hlen : a1.length = ss.length := h1.1
  obtain ⟨rfl, rfl⟩ := List.append_inj hb (by rw [hlen, hb1])
  obtain ⟨k1, locs, l1, l2⟩ := Cm hS hr h2 hb2 (fun j a hj => by
   have := he (ss.length + j) a (by rw [List.getElem?_append_right (by omega), hlen]; simpa using hj)
   rwa [Nat.add_assoc])
  refine ⟨by rw [k1, List.length_append, hlen]; omega, locs, l1, fun loc N q1 q2 => ?_⟩
  obtain ⟨m1, m2⟩ := l2 loc N q1 q2
  refine ⟨⟨?_, m1⟩, m2⟩
  have hv := KO (lf := lf) (e := e) (n := N) (loc := loc) (b := b) hlen (fun j a hj => he j a (by rw [List.getElem?_append_left (Ab hj)]; exact hj))
  have h3 := h1.2
  rcases Bf hp with ⟨hag, rfl⟩ | ⟨hag, c, hc, rfl⟩
  ·rw [if_pos hag] at h3
   exact ⟨_, h3, hv⟩
  ·rw [if_neg (by simp [hag])] at h3
   obtain ⟨s, a, z1, z2, z3⟩ := h3
   subst z1
   subst z2
   rw [hc] at hv
   rw [z3]
   exact hv.1
 | .slc ss :: l, [], b, r, k, args, rows, vs, as, h, ha, hl, he => by simp [Df] at h
 | .slc ss :: l, n :: ns, b, r, k, args, rows, vs, as, h, ha, hl, he => by
  simp only [Df, Option.bind_eq_bind, Option.bind_eq_some_iff] at h
  obtain ⟨⟨ps', rows', k'⟩, hr, h⟩ := h
  simp only [Option.some.injEq, Prod.mk.injEq] at h
  obtain ⟨rfl, rfl, rfl⟩ := h
  obtain ⟨v, vr, a1, a2, rfl, rfl, ⟨bb, o, m, c, rest, rfl, rfl, h1, h1'⟩, h2⟩ := ha
  obtain ⟨n', ns', b1, b2, hn, hb, hb1, hb2⟩ := hl
  injection hn with hn1 hn2
  subst hn1
  subst hn2
  have hmn : m = n := by
   have := congrArg (·[0]?) hb
   simp at this
   omega
  subst hmn
  obtain ⟨hc1, rfl⟩ := List.append_inj hb (by simp [h1, hb1])
  obtain ⟨_, rfl⟩ := List.cons.inj hc1
  obtain ⟨k1, locs, l1, l2⟩ := Cm hS hr h2 hb2 (fun j a hj => by
   have := he (1 + m * ss.length + j) a (by
    rw [List.getElem?_append_right (by simp [h1]; omega)]
    simp only [List.length_cons, h1]
    rw [show 1 + m * ss.length + j - (m * ss.length + 1) = j by omega]
    exact hj)
   rwa [Nat.add_assoc])
  refine ⟨by rw [k1, List.length_append, List.length_cons, h1]; omega, .QD bb o c ss.length :: locs, by simp [l1], fun loc N q1 q2 => ?_⟩
  have hloc : loc r = .QD bb o c ss.length := q1 0 _ rfl
  simp only [List.length_cons] at q2
  obtain ⟨m1, m2⟩ := l2 loc N (fun i x hi => by
   have := q1 (i + 1) x (by simpa using hi)
   rwa [show r + 1 + i = r + (i + 1) by omega]) (by omega)
  have hrest : Ag e N loc (FX lf ss m (b + 1)) (Iq ss m rest) := JP h1 (fun j a hj => by
   have := he (j + 1) a (by
    rw [List.cons_append, List.getElem?_cons_succ, List.getElem?_append_left (Ab hj)]
    exact hj)
   rwa [show b + 1 + j = b + (j + 1) by omega])
  refine ⟨⟨PY (by omega) (by rw [hloc]; simp), m1⟩, fun i row hi => ?_⟩
  cases i with
  | zero =>
   simp only [List.getElem?_cons_zero, Option.some.injEq] at hi
   subst hi
   refine ⟨rfl, ?_, fun q hq => by simp at hq⟩
   unfold AA
   rw [if_neg (by simp)]
   intro hne
   rw [Nat.add_zero, hloc]
   have hcell : ∀ j cc, (FX lf ss m (b + 1))[j]? = some cc → ∃ v, w.cell? ⟨bb, o + j, none⟩ = some v ∧ cc.rel e N loc v := fun j cc hj => by
    obtain ⟨v, v1, v2⟩ := CJ hrest hj
    exact ⟨v, (CI (h1' j v v1)).1, v2⟩
   refine ⟨rfl, ?_, hcell⟩
   simp only at hne
   cases hcc : FX lf ss m (b + 1) with
   | nil => exact absurd hcc hne
   | cons c0 cs0 =>
    obtain ⟨v, v1, v2⟩ := CJ hrest (j := 0) (c := c0) (by rw [hcc]; rfl)
    exact (CI (h1' 0 v v1)).2
  | succ i =>
   have := m2 i row (by simpa using hi)
   rwa [show r + (i + 1) = r + 1 + i by omega]
 | .nil :: l, ns, b, r, k, args, rows, vs, as, h, ha, hl, he => by
  simp only [Df, Option.bind_eq_bind, Option.bind_eq_some_iff] at h
  obtain ⟨⟨ps', rows', k'⟩, hr, h⟩ := h
  simp only [Option.some.injEq, Prod.mk.injEq] at h
  obtain ⟨rfl, rfl, rfl⟩ := h
  obtain ⟨v, vr, a1, a2, rfl, rfl, ⟨rfl, rfl⟩, h2⟩ := ha
  obtain ⟨k1, locs, l1, l2⟩ := Cm hS hr h2 hl he
  refine ⟨k1, locs, l1, fun loc N q1 q2 => ?_⟩
  obtain ⟨m1, m2⟩ := l2 loc N q1 q2
  exact ⟨⟨⟨trivial, rfl, .inr rfl⟩, m1⟩, m2⟩
 | .lst ss :: l, ns, b, r, k, args, rows, vs, as, h, ha, hl, he => by
  simp only [Df, Option.bind_eq_bind, Option.bind_eq_some_iff] at h
  obtain ⟨⟨ps', rows', k'⟩, hr, h⟩ := h
  simp only [Option.some.injEq, Prod.mk.injEq] at h
  obtain ⟨rfl, rfl, rfl⟩ := h
  obtain ⟨v, vr, a1, a2, rfl, rfl, ⟨x, kk, bb, m, c, rfl, hk, rfl, hs, hfsc⟩, h2⟩ := ha
  obtain ⟨x', kk', as', hb, hb2⟩ := hl
  simp only [List.cons_append, List.nil_append, List.cons.injEq] at hb
  obtain ⟨rfl, rfl, rfl⟩ := hb
  obtain ⟨k1, locs, l1, l2⟩ := Cm hS hr h2 hb2 (fun j a hj => by
   have := he (2 + j) a (by rw [List.getElem?_append_right (by simp)]; simpa using hj)
   rwa [Nat.add_assoc])
  have e0 : (lf b).ev e = x := he 0 _ rfl
  have e1 : (lf (b + 1)).ev e = kk := he 1 _ rfl
  obtain ⟨f1, f2⟩ := Ti e0 e1 hk hs hfsc
  refine ⟨by rw [k1]; simp; omega, DN (.slice bb m c) :: locs, by simp [l1], fun loc N q1 q2 => ?_⟩
  have hloc : loc r = DN (.slice bb m c) := q1 0 _ rfl
  simp only [List.length_cons] at q2
  obtain ⟨m1, m2⟩ := l2 loc N (fun i x hi => by
   have := q1 (i + 1) x (by simpa using hi)
   rwa [show r + 1 + i = r + (i + 1) by omega]) (by omega)
  refine ⟨⟨f2 N r loc (by omega) hloc, m1⟩, fun i row hi => ?_⟩
  cases i with
  | zero =>
   simp only [List.getElem?_cons_zero, Option.some.injEq] at hi
   subst hi
   obtain ⟨z1, q, z2, z3, z4⟩ := Er.ok (B := ⟨w.heap.size, S⟩) (n := N) (r := r) f1 hloc
   exact ⟨rfl, z1, fun q' hq' => by rw [z2] at hq'; injection hq' with hq'; subst hq'; exact ⟨z3, z4⟩⟩
  | succ i =>
   have := m2 i row (by simpa using hi)
   rwa [show r + (i + 1) = r + 1 + i by omega]
 | .d agg ss :: l, ns, b, r, k, args, rows, vs, as, h, ha, hl, he => by
  simp only [Df, Option.bind_eq_bind, Option.bind_eq_some_iff] at h
  obtain ⟨p, hp, ⟨ps', rows', k'⟩, hr, h⟩ := h
  simp only [Option.some.injEq, Prod.mk.injEq] at h
  obtain ⟨rfl, rfl, rfl⟩ := h
  obtain ⟨v, vr, a1, a2, rfl, rfl, ⟨cs, hc1, hc2⟩, h2⟩ := ha
  obtain ⟨b1, b2, hb, hb1, hb2⟩ := hl
  have hlen := (Cg hc2).1
  obtain ⟨rfl, rfl⟩ := List.append_inj hb (by rw [hlen, hb1])
  obtain ⟨xs, x1, x2, x3⟩ := Ck (lf := lf) (b := b) (r := r) hc2 (fun j a hj => he j a (by rw [List.getElem?_append_left (Ab hj)]; exact hj))
  obtain ⟨k1, locs, l1, l2⟩ := Cm hS hr h2 hb2 (fun j a hj => by
   have := he (JO ss + j) a (by rw [List.getElem?_append_right (by omega), hlen]; simpa using hj)
   rwa [Nat.add_assoc])
  refine ⟨by rw [k1, List.length_append, hlen]; omega, xs.map DN ++ locs, by simp [x1, l1], fun loc N q1 q2 => ?_⟩
  rw [List.length_append] at q2
  have hxs : ∀ (t : Nat) v, xs[t]? = some v → loc (r + t) = DN v := fun t v ht => q1 t _ (by rw [List.getElem?_append_left (by simpa using Ab ht)]; simp [ht])
  obtain ⟨m1, m2⟩ := l2 loc N (fun i x hi => by
   have := q1 ((Cf lf ss b).length + i) x (by rw [List.getElem?_append_right (by simp [x1])]; simpa [x1] using hi)
   rwa [← Nat.add_assoc] at this) (by omega)
  refine ⟨⟨?_, m1⟩, fun i row hi => ?_⟩
  ·have hcs := x3 N loc (by omega) hxs
   rcases Bf hp with ⟨ha, rfl⟩ | ⟨ha, c, hc, rfl⟩
   ·rw [if_pos ha] at hc1
    exact ⟨cs, hc1, hcs⟩
   ·rw [if_neg (by simp [ha])] at hc1
    subst hc1
    rw [hc] at hcs
    exact hcs.1
  ·rw [List.getElem?_append] at hi
   split at hi
   ·rename_i hlt
    obtain ⟨v, v1, v2⟩ := x2 i row hi
    obtain ⟨z1, q, z2, z3, z4⟩ := Er.ok (B := ⟨w.heap.size, S⟩) (n := N) (r := r + i) v2 (hxs i v v1)
    exact ⟨v2.1, z1, fun q' hq' => by rw [z2] at hq'; injection hq' with hq'; subst hq'; exact ⟨z3, z4⟩⟩
   ·have := m2 _ row hi
    rwa [show r + (Cf lf ss b).length + (i - (Cf lf ss b).length) = r + i by omega] at this
 termination_by ps => ps.length
theorem EY {e0 : Nat → A} {k : Nat} : ∀ {l : List Def}, (l.all fun d => decide (k ≤ d.base)) = true → ∀ j, j < k → CP T e0 l j = e0 j
 | [], _, _, _ => rfl
 | d :: l, h, j, hj => by
  simp only [List.all_cons, Bool.and_eq_true, decide_eq_true_eq] at h
  show ext T (CP T e0 l) d j = _
  unfold ext
  rw [if_neg (by omega)]
  exact EY h.2 j hj
theorem EA : ∀ {s1 s2 : List Ak} {a1 a2 : List A}, a1.length = s1.length → Af (s1 ++ s2) (a1 ++ a2) = Af s1 a1 ++ Af s2 a2
 | [], _, [], _, _ => rfl
 | [], _, _ :: _, _, h => by simp at h
 | _ :: _, _, [], _, h => by simp at h
 | s :: s1, s2, a :: a1, a2, h => by simp [Af, EA (s1 := s1) (a1 := a1) (by simpa using h)]
theorem Ct {n : Nat} {loc : Loc} : ∀ {rs : List (Bool × List Ak)} {ps : List PV} {ls : List L} {vs : List Value} {out : List A}, Dp rs ps = some ls → Ar e n loc ps vs →
  out.length = ls.length → Af (rs.flatMap (·.2)) out = Af (rs.flatMap (·.2)) (ls.map (L.ev e)) → EO rs out vs
 | [], [], ls, vs, out, h, hv, ho, hs => by
  simp [Dp] at h
  subst h
  cases vs with
  | nil => exact ⟨by simpa using ho, rfl⟩
  | cons => exact hv.elim
 | (agg, ss) :: rs, p :: ps, ls, vs, out, h, hv, ho, hs => by
  simp only [Dp, Option.bind_eq_bind, Option.bind_eq_some_iff, Option.some.injEq] at h
  obtain ⟨a, ha, r, hr, rfl⟩ := h
  cases vs with
  | nil => exact hv.elim
  | cons v vs =>
   have h1 : KE (fun _ => none) (.c agg ss) v (a.map (L.ev e)) := by
    unfold H9 at ha
    split at ha
    ·rename_i s c heq
     obtain ⟨hag, rfl⟩ := PS.c.inj heq
     cases hv1 : GS [s] [c] with
     | none => rw [hv1] at ha; cases ha
     | some l =>
      rw [hv1] at ha
      injection ha with ha
      subst ha
      obtain ⟨q1, q2, q3⟩ := CN (vs := [v]) hv1 ⟨hv.1, trivial⟩
      obtain ⟨y, rfl⟩ : ∃ y, l = [y] := by
       match l, q1 with
       | [y], _ => exact ⟨y, rfl⟩
      subst hag
      refine ⟨by simp, ?_⟩
      simp only [Bool.false_eq_true, if_false]
      exact ⟨s, y.ev e, rfl, rfl, by simpa [Af] using q3⟩
    ·rename_i ss' l heq
     obtain ⟨hag, rfl⟩ := PS.c.inj heq
     subst hag
     obtain ⟨us, rfl, hu⟩ := hv.1
     obtain ⟨q1, q2, q3⟩ := CN ha hu
     refine ⟨by simpa using q1, ?_⟩
     simp only [if_true]
     rw [q3]
    ·rename_i heq; cases heq
    ·rename_i heq; cases heq
    ·rename_i heq; cases heq
    ·cases ha
   have hal : a.length = ss.length := by simpa using h1.1
   have hlo : ss.length ≤ out.length := by rw [ho, List.length_append]; omega
   have e1 : out = out.take ss.length ++ out.drop ss.length := (List.take_append_drop _ _).symm
   rw [e1, List.map_append, List.flatMap_cons, EA (by simp [hlo]), EA (by simp [hal])] at hs
   obtain ⟨s1, s2⟩ := List.append_inj hs (by rw [Hz (by simp [hlo]), Hz (by simp [hal])])
   refine ⟨v, vs, out.take ss.length, out.drop ss.length, rfl, e1, ⟨by simp [hlo], ?_⟩, Ct hr hv.2 (by rw [List.length_drop, ho, List.length_append]; omega) s2⟩
   have h3 := h1.2
   simp only
   split at h3
   ·rename_i hag
    rw [if_pos hag, s1]
    exact h3
   ·rename_i hag
    rw [if_neg hag]
    obtain ⟨s, x, z1, z2, z3⟩ := h3
    subst z1
    obtain ⟨o, ho1⟩ : ∃ o, out.take 1 = [o] := by
     match out, hlo with
     | o :: _, _ => exact ⟨o, rfl⟩
    simp only [List.length_singleton] at s1 ⊢
    rw [ho1, z2] at s1
    simp only [Af, List.cons.injEq, and_true] at s1
    exact ⟨s, o, rfl, ho1, by rw [s1]; exact z3⟩
 | [], _ :: _, _, _, _, h, _, _, _ => by simp [Dp] at h
 | _ :: _, [], _, _, _, h, _, _, _ => by simp [Dp] at h
theorem Qa {n : Nat} {loc : Loc} {rs : List (Bool × List Ak)} {v : SV} {ls : List L} {u : Value} {out : List A} (h : Ni rs v = some ls) (hv : v.rel e n loc u)
  (ho : out.length = ls.length) (hs : Af (rs.flatMap (·.2)) out = Af (rs.flatMap (·.2)) (ls.map (L.ev e))) : Je rs out u := by
 unfold Ni at h
 split at h
 ·exact ⟨[u], Ct h ⟨hv, trivial⟩ ho hs, rfl⟩
 ·split at h
  ·cases h
  ·rename_i hl
   obtain ⟨us, rfl, hu⟩ := hv
   refine ⟨us, Ct h hu ho hs, ?_⟩
   have := Gb hu
   match us with
   | [] => rfl
   | [_] => simp at this; simp [this] at hl
   | _ :: _ :: _ => rfl
 ·cases h
theorem Rc {e : Nat → A} {loc : Loc} {w : World} {B : Bd} {rows : List Row} (m2 : ∀ (i : Nat) row, rows[i]? = some row → row.own = false ∧ AA e rows.length loc w B (0 + i) row ∧ ∀ q, row.lst = some q → q.own = false ∧ Bk e loc w B (0 + i) q) : Ad e loc rows w B := by
 simp only [Nat.zero_add] at m2
 refine ⟨fun r x hx => (m2 r x hx).2.1, fun r x q hx hq => ⟨(m2 r x hx).1, ((m2 r x hx).2.2 q hq).2⟩, fun r s x y hx hy ox oy => ?_, fun r s x y hx _ ox => by rw [(m2 r x hx).1] at ox; cases ox⟩
 obtain ⟨q, o1, o2, _⟩ := ox
 rw [((m2 r x hx).2.2 q o1).1] at o2
 cases o2
theorem Qb (hX : XL P T X) {ws : List (Nat × Nat)} (hws : D6 T ws) {c : Iy} {lits : List (Nat × Int)} {ns : List Nat} {n k : Nat} {kn : List FD} {more : List A} {args : List PV} {rows rows' : List Row} {v : SV} {g : G} {ls : List L}
  (hpar : Df (Rb lits) c.ps ns 0 0 = some (args, rows, k)) (hrun : run X n c.f args rows (k + more.length) kn = some (v, rows', g)) (hdefs : HF ws g.defs g.next = true)
  (hbase : (g.defs.all fun d => decide (k + more.length ≤ d.base)) = true)
  (hls : Ni c.rs v = some ls) {as : List A} {vs : List Value} {w : World} (hargs : BM w.cell? c.ps vs as) (hlens : P9 c.ps ns as)
  (hlits : ∀ i x, look i lits = some x → ∀ a, as[i]? = some a → a = .i x)
  (hlen : (T c.f as).2.length = ls.length)
  (hpure : ∀ e, (∀ j a, (as ++ more)[j]? = some a → e j = a) → (∀ d ∈ g.defs, d.holds T e) → (∀ x ∈ g.known, x.holds T e) ∧ (∀ o ∈ g.obs, (o.ev e).bool = true) ∧
   Af (c.rs.flatMap (·.2)) (T c.f as).2 = Af (c.rs.flatMap (·.2)) (ls.map (L.ev e))) :
  Calls P c.f vs.toArray w fun en w' => ∃ u, en = .returned u ∧ Je c.rs (T c.f as).2 u ∧ Below w.heap.size w w' := by
 have lfe : ∀ (e : Nat → A), (∀ j a, as[j]? = some a → e j = a) → ∀ j a, as[j]? = some a → (Rb lits (0 + j)).ev e = a := fun e he j a hj => by
  rw [Nat.zero_add]
  unfold Rb
  split
  ·rename_i x hx
   exact (hlits j x hx a hj).symm
  ·exact he j a hj
 have hargs := BM.mono (M' := CS (fun k => k < w.heap.size) w) (fun a u hu => CX hu (World.block_lt_of_cell? w _ hu)) hargs
 have hk : k = as.length := by
  have := (Cm (fun _ h => h) (e := fun i => as.getD i (.i 0)) hpar hargs hlens (lfe _ fun j a hj => by simp [hj])).1
  omega
 have hev0 : ∀ j a, (as ++ more)[j]? = some a → CP T (fun i => (as ++ more).getD i (.i 0)) g.defs j = a := fun j a hj => by
  rw [EY hbase j (by have := Ab hj; rw [List.length_append] at this; omega)]
  simp [hj]
 have hev := lfe _ (fun j a hj => hev0 j a (by rw [List.getElem?_append_left (Ab hj)]; exact hj))
 have hd := Iu hws (fun i => (as ++ more).getD i (.i 0)) hdefs
 obtain ⟨hkn, hobs, hres⟩ := hpure _ hev0 hd
 have hg : Good T (CP T (fun i => (as ++ more).getD i (.i 0)) g.defs) g := ⟨hd, hobs, hkn⟩
 obtain ⟨_, locs, l1, l2⟩ := Cm (fun _ h => h) hpar hargs hlens hev
 obtain ⟨m1, m2⟩ := l2 (fun i => locs.getD i default) rows.length (fun i x hx => by simp [hx]) (by omega)
 have hrows : Ad (CP T (fun i => (as ++ more).getD i (.i 0)) g.defs) (fun i => locs.getD i default) rows w ⟨w.heap.size, fun k => k < w.heap.size⟩ :=
  Rc m2
 refine (TQ hX hrun hg m1 (fun _ h => h) hrows).mono ?_
 rintro en w' ⟨u, rfl, ⟨loc', hv⟩, hb⟩
 exact ⟨u, rfl, Qa hls hv hlen hres, hb⟩
end
end Rx
namespace Rx
open Go Go.RowKit
def Tj (rows : List Row) (ss : List Ak) (c : C) : Option (List L) :=
 match EK rows ss (.one c) ⟨0, [], [], []⟩ with
 | some (ls, ⟨_, [], [], []⟩) => some ls
 | _ => none
def A6 (rows : List Row) : List Ak → List C → Option (List L)
 | [], [] => some []
 | .sl ss :: r, c :: cs => do let a ← Tj rows ss c; let b ← A6 rows r cs; some (a ++ b)
 | s :: r, .k x :: cs => do
  let (u, y) ← x.Qu
  if !u.same s then none
  let b ← A6 rows r cs
  some (y :: b)
 | _, _ => none
def Nj : List Ak → List A → List A → Prop
 | [], as, bs => as = [] ∧ bs = []
 | .sl _ :: ss, as, bs => ∃ x k r y m s, as = x :: k :: r ∧ bs = y :: m :: s ∧ x = y ∧ k.int = m.int ∧ Nj ss r s
 | s :: ss, as, bs => ∃ x r y q, as = x :: r ∧ bs = y :: q ∧ s.A7 x = s.A7 y ∧ Nj ss r q
def BP (rows : List Row) : List RS → List PV → Option (List L)
 | [], [] => some []
 | .c agg ss :: rs, p :: ps => do
  let a ← H9 [] (.c agg ss) p
  let r ← BP rows rs ps
  some (a ++ r)
 | .lst ss ty :: rs, p :: ps =>
  if ss.length == 0 || !ss.all Ak.single then none else
  match p with
  | .one (.k (.lsl r k)) => do
   let row ← rows[r]?
   let a ← row.lst
   if !a.own || a.ty != ty || !BR a.ss ss || !k.same a.n then none
   let q ← BP rows rs ps
   some ([a.x, a.n] ++ q)
  | .one (.k .nilslc) => do
   let q ← BP rows rs ps
   some ([.e, .n 0] ++ q)
  | _ => none
 | .d agg ss :: rs, p :: ps => do
  let a ← (match agg, p with | true, .agg l => A6 rows ss l | false, .one c => A6 rows ss [c] | _, _ => none)
  let q ← BP rows rs ps
  some (a ++ q)
 | _, _ => none
def Pf : List RS → List A → List A → Prop
 | [], as, bs => as = [] ∧ bs = []
 | .c _ ss :: rs, as, bs => ∃ a1 a2 b1 b2, as = a1 ++ a2 ∧ bs = b1 ++ b2 ∧ a1.length = ss.length ∧ b1.length = ss.length ∧ Af ss a1 = Af ss b1 ∧ Pf rs a2 b2
 | .lst _ _ :: rs, as, bs => ∃ x k r y m s, as = x :: k :: r ∧ bs = y :: m :: s ∧ x = y ∧ k.int = m.int ∧ Pf rs r s
 | .d _ ss :: rs, as, bs => ∃ a1 a2 b1 b2, as = a1 ++ a2 ∧ bs = b1 ++ b2 ∧ a1.length = JO ss ∧ b1.length = JO ss ∧ Nj ss a1 b1 ∧ Pf rs a2 b2
def Iv (rows : List Row) (rs : List RS) : SV → Option (List L)
 | .pv p => BP rows rs [p]
 | .tup l => if l.length == 1 then none else BP rows rs l
 | _ => none
section
variable {T : Nat → List A → Bool × List A} {e : Nat → A} {P : Program} {X : Ctx} {w0 : W0}
theorem Nj.cells {M : Addr → Option Value} : ∀ {ss : List Ak} {as bs : List A} {vs : List Value}, Nj ss as bs → A2 M ss bs vs → A2 M ss as vs
 | [], _, _, _, h, hd => ⟨h.1, hd.2⟩
 | .sl _ :: _, _, _, _, h, hd => by
  obtain ⟨x, k, r, y, m, s, rfl, rfl, rfl, hkm, h⟩ := h
  obtain ⟨a, k', ar, b, m', c, cr, e1, rfl, e3, e4, e5, hd⟩ := hd
  simp only [List.cons.injEq] at e1
  obtain ⟨rfl, rfl, rfl⟩ := e1
  exact ⟨x, k, r, b, m', c, cr, rfl, rfl, hkm.trans e3, e4, e5, h.cells hd⟩
 | .int _ :: _, _, _, _, h, hd => by
  obtain ⟨x, r, y, q, rfl, rfl, hs, h⟩ := h
  obtain ⟨a, ar, cr, e1, rfl, hd⟩ := hd
  simp only [List.cons.injEq] at e1
  obtain ⟨rfl, rfl⟩ := e1
  exact ⟨x, r, cr, rfl, by rw [hs], h.cells hd⟩
 | .bool :: _, _, _, _, h, hd => by
  obtain ⟨x, r, y, q, rfl, rfl, hs, h⟩ := h
  obtain ⟨a, ar, cr, e1, rfl, hd⟩ := hd
  simp only [List.cons.injEq] at e1
  obtain ⟨rfl, rfl⟩ := e1
  exact ⟨x, r, cr, rfl, by rw [hs], h.cells hd⟩
 | .str :: _, _, _, _, h, hd => by
  obtain ⟨x, r, y, q, rfl, rfl, hs, h⟩ := h
  obtain ⟨a, ar, cr, e1, rfl, hd⟩ := hd
  simp only [List.cons.injEq] at e1
  obtain ⟨rfl, rfl⟩ := e1
  exact ⟨x, r, cr, rfl, by rw [hs], h.cells hd⟩
 | .val :: _, _, _, _, h, hd => by
  obtain ⟨x, r, y, q, rfl, rfl, hs, h⟩ := h
  obtain ⟨a, ar, cr, e1, rfl, hd⟩ := hd
  simp only [List.cons.injEq] at e1
  obtain ⟨rfl, rfl⟩ := e1
  exact ⟨x, r, cr, rfl, by rw [hs], h.cells hd⟩
theorem Gu {rows : List Row} {s : Ak} {r : List Ak} {x : K} {cs : List C} {ls : List L} {loc : Loc} {w : World} {vs : List Value} {B : Bd} {M : Addr → Option Value} (hs : s.single = true)
  (h0 : A6 rows (s :: r) (.k x :: cs) = some ls → (do
   let (u, y) ← x.Qu
   if !u.same s then none
   let b ← A6 rows r cs
   some (y :: b) : Option (List L)) = some ls)
  (ih : ∀ {ls : List L}, A6 rows r cs = some ls → ∀ {vs : List Value}, Ad e loc rows w B → QN rows loc w B M (cs.flatMap (CV rows)) → Ag e rows.length loc cs vs → A2 M r (ls.map (L.ev e)) vs)
  (h : A6 rows (s :: r) (.k x :: cs) = some ls) (hR : Ad e loc rows w B) (hC : QN rows loc w B M ((C.k x :: cs).flatMap (CV rows))) (hv : Ag e rows.length loc (.k x :: cs) vs) : A2 M (s :: r) (ls.map (L.ev e)) vs := by
 replace h := h0 h
 clear h0
 simp only [Option.bind_eq_bind, Option.bind_eq_some_iff] at h
 obtain ⟨⟨u, y⟩, hy, h⟩ := h
 simp only at h
 split at h
 ·cases h
 ·rename_i hus
  have hus := Ak.Ae (by simpa using hus)
  subst hus
  have hy := K.CZ hy
  subst hy
  simp only [Option.bind_eq_some_iff, Option.some.injEq] at h
  obtain ⟨b, hb, rfl⟩ := h
  cases vs with
  | nil => exact hv.elim
  | cons v vs =>
   have h3 := ih hb (vs := vs) hR (hC.sub fun x hx => by simp only [List.flatMap_cons, List.mem_append]; exact .inr hx) hv.2
   have h4 := R0 (e := e) hv.1
   cases u with
   | sl a => simp [Ak.single] at hs
   | int k => exact ⟨y.ev e, _, vs, rfl, by rw [h4], h3⟩
   | bool => exact ⟨y.ev e, _, vs, rfl, by rw [h4], h3⟩
   | str => exact ⟨y.ev e, _, vs, rfl, by rw [h4], h3⟩
   | val => exact ⟨y.ev e, _, vs, rfl, by rw [h4], h3⟩
theorem Bm {rows : List Row} : ∀ {ss : List Ak} {cs : List C} {ls : List L}, A6 rows ss cs = some ls → ∀ {loc : Loc} {w : World} {vs : List Value} {B : Bd} {M : Addr → Option Value}, Ad e loc rows w B → QN rows loc w B M (cs.flatMap (CV rows)) → Ag e rows.length loc cs vs → A2 M ss (ls.map (L.ev e)) vs
 | [], [], ls, h, loc, w, vs, B, M, hR, hC, hv => by
  simp only [A6, Option.some.injEq] at h
  subst h
  cases vs with
  | nil => exact ⟨rfl, rfl⟩
  | cons => exact hv.elim
 | .sl ss :: r, c :: cs, ls, h, loc, w, vs, B, M, hR, hC, hv => by
  simp only [A6, Option.bind_eq_bind, Option.bind_eq_some_iff, Option.some.injEq] at h
  obtain ⟨a, ha, b, hb, rfl⟩ := h
  unfold Tj at ha
  split at ha
  ·rename_i ls' nx hla
   injection ha with ha
   subst ha
   have hg : Good (fun _ _ => (true, [])) e ⟨nx, [], [], []⟩ := ⟨fun d h => by simp at h, fun d h => by simp at h, fun d h => by simp at h⟩
   obtain ⟨_, y, k, rfl, h4⟩ := Ff hla hg
   cases vs with
   | nil => exact hv.elim
   | cons v vs =>
    obtain ⟨q1, bb, m, cc, q2, rfl, q3⟩ := h4 loc w v B M hR (hC.sub fun x hx => by
     simp only [AR, PV.cells, List.flatMap_cons, List.flatMap_nil, List.append_nil] at hx
     simp [hx]) hv.1
    exact ⟨y.ev e, k.ev e, _, bb, m, cc, vs, rfl, rfl, q2, q1, q3, Bm hb hR (hC.sub fun x hx => by simp only [List.flatMap_cons, List.mem_append]; exact .inr hx) hv.2⟩
  ·cases ha
 | .int kd :: r, .k x :: cs, ls, h, loc, w, vs, B, M, hR, hC, hv => Gu (s := .int kd) rfl (fun h => h) (fun h _ hR hC hv => Bm h hR hC hv) h hR hC hv
 | .bool :: r, .k x :: cs, ls, h, loc, w, vs, B, M, hR, hC, hv => Gu (s := .bool) rfl (fun h => h) (fun h _ hR hC hv => Bm h hR hC hv) h hR hC hv
 | .str :: r, .k x :: cs, ls, h, loc, w, vs, B, M, hR, hC, hv => Gu (s := .str) rfl (fun h => h) (fun h _ hR hC hv => Bm h hR hC hv) h hR hC hv
 | .val :: r, .k x :: cs, ls, h, loc, w, vs, B, M, hR, hC, hv => Gu (s := .val) rfl (fun h => h) (fun h _ hR hC hv => Bm h hR hC hv) h hR hC hv
 | .int _ :: _, .clo .. :: _, _, h, _, _, _, _, _, _, _, _ => by simp [A6] at h
 | .bool :: _, .clo .. :: _, _, h, _, _, _, _, _, _, _, _ => by simp [A6] at h
 | .str :: _, .clo .. :: _, _, h, _, _, _, _, _, _, _, _ => by simp [A6] at h
 | .val :: _, .clo .. :: _, _, h, _, _, _, _, _, _, _, _ => by simp [A6] at h
 | .int _ :: _, .cfn .. :: _, _, h, _, _, _, _, _, _, _, _ => by simp [A6] at h
 | .bool :: _, .cfn .. :: _, _, h, _, _, _, _, _, _, _, _ => by simp [A6] at h
 | .str :: _, .cfn .. :: _, _, h, _, _, _, _, _, _, _, _ => by simp [A6] at h
 | .val :: _, .cfn .. :: _, _, h, _, _, _, _, _, _, _, _ => by simp [A6] at h
 | [], _ :: _, _, h, _, _, _, _, _, _, _, _ => by simp [A6] at h
 | .int _ :: _, [], _, h, _, _, _, _, _, _, _, _ => by simp [A6] at h
 | .bool :: _, [], _, h, _, _, _, _, _, _, _, _ => by simp [A6] at h
 | .str :: _, [], _, h, _, _, _, _, _, _, _, _ => by simp [A6] at h
 | .val :: _, [], _, h, _, _, _, _, _, _, _, _ => by simp [A6] at h
 | .sl _ :: _, [], _, h, _, _, _, _, _, _, _, _ => by simp [A6] at h
theorem B0 {S : Nat → Prop} {n : Nat} {loc : Loc} {rows : List Row} {w w' : World} {B : Bd} (hn : n = rows.length) (hBn : B.n = w.heap.size) (hBF : ∀ k, B.F k → S k ∨ B.n ≤ k) (hrows : Ad e loc rows w' B) : ∀ {rs : List RS} {ps : List PV} {ls : List L} {us : List Value} {out : List A}, BP rows rs ps = some ls → Ar e n loc ps us →
  Pf rs out (ls.map (L.ev e)) → KH S w w' rs out us
 | [], [], ls, us, out, h, hv, hs => by
  simp [BP] at h
  subst h
  cases us with
  | nil => exact ⟨hs.1, rfl⟩
  | cons => exact hv.elim
 | .c agg ss :: rs, p :: ps, ls, us, out, h, hv, hs => by
  simp only [BP, Option.bind_eq_bind, Option.bind_eq_some_iff, Option.some.injEq] at h
  obtain ⟨a, ha, r, hr, rfl⟩ := h
  cases us with
  | nil => exact hv.elim
  | cons v vs =>
   obtain ⟨a1, a2, b1, b2, rfl, hb, hl1, hl2, hsem, hrest⟩ := hs
   have hfr : Dp [(agg, ss)] [p] = some a := by simp [Dp, ha]
   have hal : a.length = ss.length := by
    have := Ct (e := e) (vs := [v]) (out := a.map (L.ev e)) hfr ⟨hv.1, trivial⟩ (by simp) rfl
    obtain ⟨v', vr, c1, c2, h1, h2, h3, h4⟩ := this
    rw [h4.1, List.append_nil] at h2
    have := h3.1
    rw [← h2] at this
    simpa using this
   rw [List.map_append] at hb
   obtain ⟨e1, e2⟩ := List.append_inj hb (by simp [hal, hl2])
   subst e1 e2
   refine ⟨v, vs, a1, a2, rfl, rfl, ?_, B0 hn hBn hBF hrows hr hv.2 hrest⟩
   obtain ⟨v', vr, c1, c2, h1, h2, h3, h4⟩ := Ct (e := e) (vs := [v]) (out := a1) hfr ⟨hv.1, trivial⟩ (by rw [hl1, hal]) (by simpa using hsem)
   injection h1 with h1 h1'
   subst h1
   rw [h4.1, List.append_nil] at h2
   rw [h2]
   exact h3
 | .lst ss ty :: rs, p :: ps, ls, us, out, h, hv, hs => by
  unfold BP at h
  split at h
  ·cases h
  ·rename_i hss
   simp only [Bool.or_eq_true, beq_iff_eq, Bool.not_eq_true', not_or, Bool.not_eq_false] at hss
   obtain ⟨x, k, r, y, m, s, rfl, hb, rfl, hkm, hrest⟩ := hs
   cases us with
   | nil => exact hv.elim
   | cons v vs =>
    split at h
    ·rename_i r' k'
     simp only [Option.bind_eq_bind, Option.bind_eq_some_iff] at h
     obtain ⟨row, hrow, a, ha, h⟩ := h
     split at h
     ·cases h
     ·rename_i hc
      simp only [Bool.or_eq_true, Bool.not_eq_true', bne_iff_ne, ne_eq, not_or, Decidable.not_not, Bool.not_eq_false] at hc
      obtain ⟨⟨⟨c1, c2⟩, c3⟩, c4⟩ := hc
      have c3 := BI c3
      have c4 := L.Ae c4
      simp only [Option.bind_eq_some_iff, Option.some.injEq] at h
      obtain ⟨q, hq, rfl⟩ := h
      simp only [List.cons_append, List.nil_append, List.map_cons, List.cons.injEq] at hb
      obtain ⟨hb1, hb2, rfl⟩ := hb
      obtain ⟨as, mm, l1, l2, l3, l4, l5⟩ := (hrows.lst r' row a hrow ha).2
      rw [if_pos c1] at l5
      have l6 := l5
      obtain ⟨h1, _, h3⟩ := hv.1
      simp only [K.ok] at h1
      have h3 := h3.resolve_left (by simp)
      refine ⟨v, vs, [x, k], r, rfl, rfl, ⟨as, k, mm, by rw [← hb1, l1], by rw [l2, c3], by rw [hkm, ← hb2]; exact l3, by rw [← c3]; exact l4, hss.2, ?_⟩, B0 hn hBn hBF hrows hq hv.2 hrest⟩
      cases he : (loc r').emp
      ·rw [if_neg (by simp [he])] at l6
       obtain ⟨g1, g2, g3, us', sp, g4, g5, g6⟩ := l6
       have g7 := g6.single l4 (by rw [c3]; exact hss.2)
       subst g7
       refine .inr ⟨(loc r').blk, (loc r').cap, sp, ?_, hBn ▸ g2.1, g3, by rw [← c2, ← c3]; exact g4, by rw [← c3]; exact g5⟩
       rw [h3]
       simp only [K.A7, he, Bool.false_eq_true, if_false, g1, c4, l3]
       simp
      ·rw [if_pos he] at l6
       refine .inl ⟨l6.1, ?_⟩
       rw [h3]
       simp only [K.A7, he, if_true]
       exact l6.2
    ·simp only [Option.bind_eq_bind, Option.bind_eq_some_iff, Option.some.injEq] at h
     obtain ⟨q, hq, rfl⟩ := h
     simp only [List.cons_append, List.nil_append, List.map_cons, List.cons.injEq] at hb
     obtain ⟨hb1, hb2, rfl⟩ := hb
     refine ⟨v, vs, [x, k], r, rfl, rfl, ⟨[], k, 0, by rw [← hb1]; rfl, by simp, by rw [hkm, ← hb2]; rfl, by omega, hss.2, .inl ⟨rfl, Es hv.1⟩⟩, B0 hn hBn hBF hrows hq hv.2 hrest⟩
    ·cases h
 | .d agg ss :: rs, p :: ps, ls, us, out, h, hv, hs => by
  simp only [BP, Option.bind_eq_bind, Option.bind_eq_some_iff, Option.some.injEq] at h
  obtain ⟨a, ha, r, hr, rfl⟩ := h
  cases us with
  | nil => exact hv.elim
  | cons v vs =>
   obtain ⟨a1, a2, b1, b2, rfl, hb, hl1, hl2, hsem, hrest⟩ := hs
   have hcov : ∀ l, QN rows loc w' B (CS (fun k => S k ∨ w.heap.size ≤ k) w') l := fun l =>
    ⟨FJ (fun k hk => hBn ▸ hBF k hk) (fun _ _ => rfl), fun r hr ⟨row, h1, h2⟩ o u hu => CX hu (.inr (by
     rcases h2 with h2 | h2
     ·have := hrows.row r row h1
      unfold AA at this
      rw [if_pos h2] at this
      exact hBn ▸ this.2.2.1.1
     ·exact hBn ▸ (hrows.PL h1 h2).2.1))⟩
   have hd : ∃ cs : List Value, (if agg then v = .agg cs.toArray else cs = [v]) ∧ A2 (CS (fun k => S k ∨ w.heap.size ≤ k) w') ss (a.map (L.ev e)) cs := by
    split at ha
    ·rename_i l
     obtain ⟨cs, rfl, hcs⟩ := hv.1
     exact ⟨cs, by simp, Bm ha hrows (hcov _) (hn ▸ hcs)⟩
    ·rename_i c
     exact ⟨[v], by simp, Bm ha hrows (hcov _) (hn ▸ ⟨hv.1, trivial⟩)⟩
    ·cases ha
   obtain ⟨cs, hc1, hc2⟩ := hd
   rw [List.map_append] at hb
   obtain ⟨e1, e2⟩ := List.append_inj hb (by rw [hl2]; exact (Cg hc2).1)
   subst e1 e2
   exact ⟨v, vs, a1, a2, rfl, rfl, ⟨cs, hc1, hsem.cells hc2⟩, B0 hn hBn hBF hrows hr hv.2 hrest⟩
 | [], _ :: _, _, _, _, h, _, _ => by simp [BP] at h
 | .d _ _ :: _, [], _, _, _, h, _, _ => by simp [BP] at h
 | .c _ _ :: _, [], _, _, _, h, _, _ => by simp [BP] at h
 | .lst _ _ :: _, [], _, _, _, h, _, _ => by simp [BP] at h
theorem Sc (hX : XL P T X) {ws : List (Nat × Nat)} (hws : D6 T ws) {c : SK} {lits : List (Nat × Int)} {ns : List Nat} {n k : Nat} {kn : List FD} {more : List A} {args : List PV} {rows rows' : List Row} {v : SV} {g : G} {ls : List L}
  (hpar : Df (Rb lits) c.ps ns 0 0 = some (args, rows, k)) (hrun : run X n c.f args rows (k + more.length) kn = some (v, rows', g)) (hdefs : HF ws g.defs g.next = true)
  (hbase : (g.defs.all fun d => decide (k + more.length ≤ d.base)) = true)
  (hls : Iv rows' c.rs v = some ls) {as : List A} {vs : List Value} {w : World} {S : Nat → Prop} (hS : ∀ k, S k → k < w.heap.size) (hargs : BM (CS S w) c.ps vs as) (hlens : P9 c.ps ns as)
  (hlits : ∀ i x, look i lits = some x → ∀ a, as[i]? = some a → a = .i x)
  (hpure : ∀ e, (∀ j a, (as ++ more)[j]? = some a → e j = a) → (∀ d ∈ g.defs, d.holds T e) → (∀ x ∈ g.known, x.holds T e) ∧ (∀ o ∈ g.obs, (o.ev e).bool = true) ∧
   Pf c.rs (T c.f as).2 (ls.map (L.ev e))) :
  Calls P c.f vs.toArray w fun en w' => ∃ us, en = .returned (Hy us) ∧ KH S w w' c.rs (T c.f as).2 us ∧ Below w.heap.size w w' := by
 have lfe : ∀ (e : Nat → A), (∀ j a, as[j]? = some a → e j = a) → ∀ j a, as[j]? = some a → (Rb lits (0 + j)).ev e = a := fun e he j a hj => by
  rw [Nat.zero_add]
  unfold Rb
  split
  ·rename_i x hx
   exact (hlits j x hx a hj).symm
  ·exact he j a hj
 have hk : k = as.length := by
  have := (Cm hS (e := fun i => as.getD i (.i 0)) hpar hargs hlens (lfe _ fun j a hj => by simp [hj])).1
  omega
 have hev0 : ∀ j a, (as ++ more)[j]? = some a → CP T (fun i => (as ++ more).getD i (.i 0)) g.defs j = a := fun j a hj => by
  rw [EY hbase j (by have := Ab hj; rw [List.length_append] at this; omega)]
  simp [hj]
 have hev := lfe _ (fun j a hj => hev0 j a (by rw [List.getElem?_append_left (Ab hj)]; exact hj))
 have hd := Iu hws (fun i => (as ++ more).getD i (.i 0)) hdefs
 obtain ⟨hkn, hobs, hres⟩ := hpure _ hev0 hd
 have hg : Good T (CP T (fun i => (as ++ more).getD i (.i 0)) g.defs) g := ⟨hd, hobs, hkn⟩
 obtain ⟨_, locs, l1, l2⟩ := Cm hS hpar hargs hlens hev
 obtain ⟨m1, m2⟩ := l2 (fun i => locs.getD i default) rows.length (fun i x hx => by simp [hx]) (by omega)
 have hrows : Ad (CP T (fun i => (as ++ more).getD i (.i 0)) g.defs) (fun i => locs.getD i default) rows w ⟨w.heap.size, S⟩ :=
  Rc m2
 have := (Gs (T := T) (e := CP T (fun i => (as ++ more).getD i (.i 0)) g.defs) (w0 := ⟨w, S⟩) hX n).2.2 c.f args rows (.t true) _ v rows' g hrun hg
 refine (this.2 _ vs w rfl m1 ⟨_, ⟨rfl, fun k hk => .inl hk, Nat.le_refl _, hS⟩, hrows, Below.refl _ _⟩).mono ?_
 rintro en w' ⟨u, rfl, loc', q1, q2, q3, B, ⟨hBn, hBF, hBl⟩, q4, q5⟩
 unfold Iv at hls
 split at hls
 ·exact ⟨[u], rfl, B0 rfl hBn hBF q4 hls ⟨q3, trivial⟩ hres, q5⟩
 ·split at hls
  ·cases hls
  ·rename_i hl
   obtain ⟨us, rfl, hu⟩ := q3
   refine ⟨us, ?_, B0 rfl hBn hBF q4 hls hu hres, q5⟩
   have := Gb hu
   match us with
   | [] => rfl
   | [_] => simp at this; simp [this] at hl
   | _ :: _ :: _ => rfl
 ·cases hls
end
end Rx
namespace Rx
open Go Go.RowKit
section
variable {T : Nat → List A → Bool × List A} {e : Nat → A} {P : Program} {X : Ctx} {w0 : W0} {loc loc' : Loc}
theorem AG.le {n m : Nat} (h : AG n loc loc') (hm : m ≤ n) : AG m loc loc' := fun r hr => h r (Nat.lt_of_lt_of_le hr hm)
theorem get_mem {x : FE} {s : St} : ∀ {o : Aj}, Aj.get x o = some s → (x, s) ∈ o
 | [], h => by simp [Aj.get] at h
 | (y, t) :: l, h => by
  unfold Aj.get at h
  split at h
  ·rename_i hxy
   have hxy := FE.DF.1 hxy
   injection h with h
   subst h hxy
   exact List.mem_cons_self ..
  ·exact List.mem_cons_of_mem _ (get_mem h)
theorem Pg {x : FE} {s : St} : ∀ {o : List (FE × St)}, Qz x o = some s → (x, s) ∈ o
 | [], h => by simp [Qz] at h
 | (y, t) :: l, h => by
  unfold Qz at h
  split at h
  ·rename_i hxy
   have hxy := FE.DF.1 hxy
   injection h with h
   subst h hxy
   exact List.mem_cons_self ..
  ·exact List.mem_cons_of_mem _ (Pg h)
theorem Lw {q : Lp} {x : FE} {s : St} : ∀ {o : Aj} {exs : List Ex}, Ij q o = some exs → (x, s) ∈ o → x ≠ .norm → ∃ t y, (x, t) ∈ q.outs ∧ UX q x t s = some y ∧ y ∈ exs
 | [], _, _, h, _ => by cases h
 | (y, u) :: l, exs, h, hm, hx => by
  simp only [Ij, Option.bind_eq_bind, Option.bind_eq_some_iff] at h
  obtain ⟨r, hr, h⟩ := h
  rcases List.mem_cons.1 hm with heq | hm
  ·injection heq with h1 h2
   subst h1 h2
   rw [if_neg (fun h0 => hx (FE.DF.1 h0))] at h
   simp only [Option.bind_eq_some_iff, Option.some.injEq] at h
   obtain ⟨t, ht, y, hy, rfl⟩ := h
   exact ⟨t, y, Pg ht, hy, List.mem_cons_self ..⟩
  ·obtain ⟨t, y', h1, h2, h3⟩ := Lw hr hm hx
   refine ⟨t, y', h1, h2, ?_⟩
   split at h
   ·injection h with h
    subst h
    exact h3
   ·simp only [Option.bind_eq_some_iff, Option.some.injEq] at h
    obtain ⟨_, _, _, _, rfl⟩ := h
    exact List.mem_cons_of_mem _ h3
theorem Rd (hX : XL P T X) {ws : List (Nat × Nat)} (hws : D6 T ws) {q : Lp} {f : Nat} {pa : List Bool} {code : Code} {n : Nat} {outs : Aj} {g : G} {back : Option (L × List L)} {exs : List Ex}
  (hat : XI X f pa code) (hrun : exec X n f pa code (Jx q) ⟨q.k, [], [], []⟩ = some (outs, g)) (hdefs : HF ws g.defs g.next = true) (hbase : (g.defs.all fun d => decide (q.k ≤ d.base)) = true) (hknown : g.known = []) (hm : decide (q.m ≤ q.tm.rows.length) = true)
  (hback : PK q outs = some back) (hexs : Ij q outs = some exs) (hlen : ∀ as, (T q.id as).1 = true → (T q.id as).2.length = q.w) (meas : List A → Nat)
  (hpure : ∀ (as : List A) (e : Nat → A), as.length = q.k → (∀ (i : Nat) x, as[i]? = some x → e i = x) → (T q.id as).1 = true → (∀ d ∈ g.defs, d.holds T e) →
   (∀ o ∈ g.obs, (o.ev e).bool = true) ∧
   (∀ pc ls, back = some (pc, ls) → (pc.ev e).bool = true → (T q.id (ls.map (L.ev e))).1 = true ∧ (T q.id (ls.map (L.ev e))).2 = (T q.id as).2 ∧ meas (ls.map (L.ev e)) < meas as) ∧
   ∀ x ∈ exs, (x.pc.ev e).bool = true → ∀ (j : Nat) l, x.lx[j]? = some (some l) → Gr (q.tags.getD j .any) (l.ev e) ((T q.id as).2.getD j (.i 0))) : BN P T q code := by
 refine ⟨hlen, fun as w0 loc a w Q => ?_⟩
 generalize hN : meas as = N
 induction N using Nat.strongRecOn generalizing as loc a w with
 | ind N ih =>
  intro hal hpre hfr hcl hQ
  have he0 : ∀ i, i < q.k → CP T (LA as) g.defs i = LA as i := fun i hi => EY hbase i hi
  generalize hE : CP T (LA as) g.defs = e at he0
  have hd : ∀ d ∈ g.defs, d.holds T e := by rw [← hE]; exact Iu hws _ hdefs
  have hei : ∀ (i : Nat) x, as[i]? = some x → e i = x := fun i x hx => by
   rw [he0 i (by rw [← hal]; exact Ab hx)]
   simp [LA, hx]
  obtain ⟨p1, p2, p3⟩ := hpure as e hal hei hpre hd
  have hg : Good T e g := ⟨hd, p1, by rw [hknown]; exact fun k hk => by cases hk⟩
  obtain ⟨_, hends⟩ := (Gs (e := e) (w0 := w0) hX n).1 f pa code (Jx q) _ outs g hat hrun hg
  have hs0 : ∀ i, LA as i = ((fun i => if i < q.k then L.var i else .n 0) i).ev e := fun i => by
   simp only
   split
   ·rename_i hi
    rw [L.Al, he0 i hi]
   ·rename_i hi
    simp [LA, List.getD, List.getElem?_eq_none (show as.length ≤ i by omega)]
  have hrl : (Jx q).rows.length = q.tm.rows.length := by simp [Jx, De]
  refine LW.of (hends.wp loc a w _ rfl (by rw [hrl]; exact (FV hs0).2 hfr) (by obtain ⟨B, hB, hR, hbel⟩ := hcl; exact ⟨B, hB, (Ev hs0).2 hR, hbel⟩) fun x s hx hs => ?_)
  intro loc' a' w' q1 q2 q3 q4 q5
  by_cases hxn : x = .norm
  ·subst hxn
   show LW P code Q a' w'
   unfold PK at hback
   rw [hx] at hback
   simp only at hback
   cases hb : UW q s with
   | none => rw [hb] at hback; cases hback
   | some ls =>
    rw [hb] at hback
    injection hback with hback
    obtain ⟨r1, r2, r3⟩ := p2 s.pc ls hback.symm hs
    unfold UW at hb
    generalize hmt : Ih q.m q.tm s = mt at hb
    obtain ⟨ml, ρ⟩ := mt
    simp only at hb
    split at hb
    ·rename_i hc
     injection hb with hb
     rw [hb] at hc
     simp only [Bool.and_eq_true] at hc
     obtain ⟨c1, c2⟩ := hc
     obtain ⟨k1, k2, k3, k4, k5⟩ := Ey (e := e) (loc := loc') (w0 := w0) c1
     have hll : ls.length = q.k := by rw [← hb]; simp [Ek]
     have he1 : ∀ i, LA (ls.map (L.ev e)) i = (Bs ls i).ev e := fun i => by
      unfold LA Bs
      rw [List.getD, List.getElem?_map]
      cases ls[i]? <;> rfl
     have hrl2 : (De (Bs ls) q.tm).rows.length = q.tm.rows.length := by simp [De]
     have hfr2 := k4 _ q3
     obtain ⟨B2, hB2, hR2, hbel2⟩ := k5 _ q5
     rw [hrl2] at hfr2 k2
     refine ih _ (by rw [← hN]; exact r3) (ls.map (L.ev e)) (Ew loc' ρ) a' w' rfl (by simpa using hll) r1 ((FV he1).1 hfr2) ⟨B2, hB2, (Ev he1).1 hR2, hbel2⟩ fun y t e' h1 h2 h3 loc2 a2 w2 h4 h5 h6 h7 => ?_
     refine hQ y t e' h1 (fun i => ?_) h3 loc2 a2 w2 ((q1.le (by rw [hrl]; exact k2)).trans (k3.trans h4 (Nat.le_refl _)) (Nat.le_refl _)) h5 (h6.trans q4) h7
     have := h2 i
     rw [r2] at this
     have hxx : Q9 q (ls.map (L.ev e)) (T q.id as).2 i = Q9 q as (T q.id as).2 i := by
      unfold Q9
      split
      ·rename_i hi
       split
       ·rename_i hk
        unfold W5 at c2
        rw [List.all_eq_true] at c2
        have := c2 i (by simpa using hi)
        rw [hk] at this
        simp only [Bool.not_true, Bool.false_or] at this
        have h9 := he1 i
        rw [L.Ae this, L.Al, he0 i hi] at h9
        exact h9
       ·rfl
      ·rfl
     rw [hxx] at this
     exact this
    ·cases hb
  ·rw [Mo hxn]
   obtain ⟨t, y, t1, t2, t3⟩ := Lw hexs (get_mem hx) hxn
   unfold UX at t2
   generalize hmt : Ih q.m t s = mt at t2
   obtain ⟨ml, ρ⟩ := mt
   simp only at t2
   generalize hlx : Xi q t.pc ml = lx at t2
   split at t2
   ·rename_i hc
    injection t2 with t2
    subst t2
    simp only [Bool.and_eq_true] at hc
    obtain ⟨⟨c1, c2⟩, c3⟩ := hc
    obtain ⟨k1, k2, k3, k4, k5⟩ := Ey (e := e) (loc := loc') (w0 := w0) c1
    have hfr2 := k4 _ q3
    obtain ⟨B2, hB2, hR2, hbel2⟩ := k5 _ q5
    have hrl2 : (De (B9 q (Qy q.k) (OM lx)) t).rows.length = t.rows.length := by simp [De]
    rw [hrl2] at hfr2 k2
    let e2 : Nat → A := fun i => (B9 q (Qy q.k) (OM lx) i).ev e
    let e3 : Nat → A := fun i => if i < q.k then e2 i else match lx.getD (i - q.k) none with | some l => l.ev e | none => (T q.id as).2.getD (i - q.k) (.i 0)
    have hfr3 := (FV (e1 := e2) (fun i => rfl)).1 hfr2
    have hcl3 := (Ev (e1 := e2) (fun i => rfl)).1 hR2
    have h23 : ∀ i, Gr (Xh q lx i) (e2 i) (e3 i) := fun i => by
     simp only [e3, Xh]
     split
     ·exact .of_eq rfl
     ·rename_i hi
      have : e2 i = (Bs (OM lx) (i - q.k)).ev e := by simp only [e2, B9, if_neg hi]
      rw [this]
      cases hl : lx.getD (i - q.k) none with
      | none => trivial
      | some l =>
       refine .of_eq ?_
       rw [List.getD] at hl
       cases hl2 : lx[i - q.k]? with
       | none => rw [hl2] at hl; simp at hl
       | some o =>
        rw [hl2] at hl
        simp only [Option.getD_some] at hl
        subst hl
        simp [Bs, OM, hl2]
    simp only [S0, Bool.and_eq_true] at c2
    obtain ⟨⟨u1, u2⟩, u3⟩ := c2
    have hag : ∀ i, Gr (q.tag i) (e3 i) (Q9 q as (T q.id as).2 i) := fun i => by
     simp only [e3, Lp.tag, Q9]
     split
     ·rename_i hi
      refine .of_eq ?_
      simp only [e2, B9, if_pos hi]
      split
      ·have : Bs (Qy q.k) i = .var i := by simp [Bs, Qy, hi]
       rw [this, L.Al, he0 i hi]
       rfl
      ·rfl
     ·rename_i hi
      cases hl : lx.getD (i - q.k) none with
      | none => exact .of_eq rfl
      | some l =>
       rw [List.getD] at hl
       cases hl2 : lx[i - q.k]? with
       | none => rw [hl2] at hl; simp at hl
       | some o =>
        rw [hl2] at hl
        simp only [Option.getD_some] at hl
        subst hl
        exact p3 _ t3 hs (i - q.k) l hl2
    refine hQ x t e3 t1 hag ?_ (Ew loc' ρ) a' w' ((q1.le (by rw [hrl]; exact of_decide_eq_true hm)).trans k3 (Nat.le_refl _)) (Pd h23 u1 hfr3) q4 ⟨B2, hB2, Nh h23 u2 hcl3, hbel2⟩
    ·have hp := B7 h23 u3
     simp only [Gr] at hp
     rw [← hp]
     cases hpc : t.pc with
     | var i =>
      rw [hpc] at hlx c3
      simp only [Xi] at hlx
      simp only [YZ, Bool.and_eq_true, decide_eq_true_eq] at c3
      rw [L.Al]
      have hlx2 : lx[i - q.k]? = some (some (.t true)) := by
       rw [← hlx, List.getElem?_set_self (by simp; omega)]
      simp only [e2, B9, if_neg (show ¬ i < q.k by omega)]
      simp [Bs, OM, hlx2]
     | t b =>
      rw [hpc] at c3
      cases b
      ·cases c3
      ·rfl
     | n _ => rw [hpc] at c3; cases c3
     | s _ => rw [hpc] at c3; cases c3
     | e => rw [hpc] at c3; cases c3
   ·cases t2
end
end Rx
namespace Rx
open Go Go.RowKit
section
variable {T : Nat → List A → Bool × List A} {e : Nat → A}
theorem Ay {b : Nat} {d : D} {args : List L} {x : A} (h : d.ev T (args.map (L.ev e)) = [x]) : Def.holds T e ⟨b, d, args⟩ ↔ e b = x := by
 unfold Def.holds
 simp only [h]
 constructor
 ·intro hh
  simpa using hh 0 x rfl
 ·intro hh j a ha
  cases j with
  | zero => simp at ha; subst ha; simpa using hh
  | succ j => simp at ha
theorem Re {b op k x y} : Def.holds T e ⟨b, .ar op k, [x, y]⟩ ↔ e b = .i (F6 op k (x.ev e).int (y.ev e).int) := Ay rfl
theorem Rf {b op k x y} : Def.holds T e ⟨b, .dv op k, [x, y]⟩ ↔ e b = .i (GR op k (x.ev e).int (y.ev e).int) := Ay rfl
theorem Vq {b op k x y} : Def.holds T e ⟨b, .bt op k, [x, y]⟩ ↔ e b = .i (FC op k (x.ev e).int (y.ev e).int) := Ay rfl
theorem TR {b op x y} : Def.holds T e ⟨b, .cmp op, [x, y]⟩ ↔ e b = .b (Br op (x.ev e).int (y.ev e).int) := Ay rfl
theorem Nk {b k x} : Def.holds T e ⟨b, .conv k, [x]⟩ ↔ e b = .i (k.wrap (x.ev e).int) := Ay rfl
theorem TS {b k x} : Def.holds T e ⟨b, .neg k, [x]⟩ ↔ e b = .i (k.wrap (0 - (x.ev e).int)) := Ay rfl
theorem TT {b x} : Def.holds T e ⟨b, .not, [x]⟩ ↔ e b = .b (!(x.ev e).bool) := Ay rfl
theorem TU {b x y} : Def.holds T e ⟨b, .and, [x, y]⟩ ↔ e b = .b ((x.ev e).bool && (y.ev e).bool) := Ay rfl
theorem Vr {b x y} : Def.holds T e ⟨b, .or, [x, y]⟩ ↔ e b = .b ((x.ev e).bool || (y.ev e).bool) := Ay rfl
theorem TV {b x y} : Def.holds T e ⟨b, .imp, [x, y]⟩ ↔ e b = .b (!(x.ev e).bool || (y.ev e).bool) := Ay rfl
theorem Nl {b x y z} : Def.holds T e ⟨b, .iteI, [x, y, z]⟩ ↔ e b = .i (if (x.ev e).bool then (y.ev e).int else (z.ev e).int) := Ay rfl
theorem Sd {b x y z} : Def.holds T e ⟨b, .iteB, [x, y, z]⟩ ↔ e b = .b (if (x.ev e).bool then (y.ev e).bool else (z.ev e).bool) := Ay rfl
theorem Se {b x y z} : Def.holds T e ⟨b, .iteV, [x, y, z]⟩ ↔ e b = .v (if (x.ev e).bool then (y.ev e).val else (z.ev e).val) := Ay rfl
theorem TW {b x y} : Def.holds T e ⟨b, .V6, [x, y]⟩ ↔ e b = .b ((x.ev e).bool == (y.ev e).bool) := Ay rfl
theorem TX {b x y} : Def.holds T e ⟨b, .eqS, [x, y]⟩ ↔ e b = .b ((x.ev e).str == (y.ev e).str) := Ay rfl
theorem Vs {b x y} : Def.holds T e ⟨b, .mn, [x, y]⟩ ↔ e b = .i (if (y.ev e).int < (x.ev e).int then (y.ev e).int else (x.ev e).int) := Ay rfl
theorem Vt {b x y} : Def.holds T e ⟨b, .mx, [x, y]⟩ ↔ e b = .i (if (x.ev e).int < (y.ev e).int then (y.ev e).int else (x.ev e).int) := Ay rfl
theorem Sf {b x} : Def.holds T e ⟨b, .slen, [x]⟩ ↔ e b = .i ((x.ev e).str.size : Int) := Ay rfl
theorem Sg {b x y z} : Def.holds T e ⟨b, .iteA, [x, y, z]⟩ ↔ e b = (if (x.ev e).bool then y.ev e else z.ev e) := Ay rfl
theorem TY {b o s x i} : Def.holds T e ⟨b, .pix o s, [x, i]⟩ ↔ e b = (x.ev e).Bq.getD (o + s * (i.ev e).int.toNat) (.i 0) := Ay rfl
theorem Sh {b o s x i y} : Def.holds T e ⟨b, .pset o s, [x, i, y]⟩ ↔ e b = .l ((x.ev e).Bq.set (o + s * (i.ev e).int.toNat) (y.ev e)) := Ay rfl
theorem TZ {b s x} : Def.holds T e ⟨b, .lln s, [x]⟩ ↔ e b = .i (((x.ev e).Bq.length / s : Nat) : Int) := Ay rfl
theorem T0 {b x zs} : Def.holds T e ⟨b, .rep, x :: zs⟩ ↔ e b = .l (List.replicate (x.ev e).int.toNat (zs.map (L.ev e))).flatten := Ay rfl
theorem T1 {b l} : Def.holds T e ⟨b, .mkl, l⟩ ↔ e b = .l (l.map (L.ev e)) := Ay rfl
theorem T2 {b x y m} : Def.holds T e ⟨b, .cpy, [x, y, m]⟩ ↔ e b = .l ((y.ev e).Bq.take (m.ev e).int.toNat ++ (x.ev e).Bq.drop (m.ev e).int.toNat) := Ay rfl
theorem T3 {b x y} : Def.holds T e ⟨b, .cat, [x, y]⟩ ↔ e b = .l ((x.ev e).Bq ++ (y.ev e).Bq) := Ay rfl
theorem T4 {b x l} : Def.holds T e ⟨b, .sel, x :: l⟩ ↔ e b = (l.map (L.ev e))[(x.ev e).int.toNat]?.getD (.i 0) := Ay rfl
end
end Rx
namespace Rx
open Go Go.RowKit
inductive LS where
 | s (x : Ak) | sl (t e : Nat)
def LS.Qu : LS → Ak
 | .s x => x
 | .sl .. => .val
section
variable {H : Type} {enc : TypeId × Value → H} {P : Program} {w : World} {base : Nat} {spare : Nat → Bool} {held : Bool}
end
end Rx
namespace Rx
open Go Go.RowKit
def gi (as : List A) (i : Nat) : Int := (as.getD i (.i 0)).int
def gb (as : List A) (i : Nat) : Bool := (as.getD i (.i 0)).bool
def gs (as : List A) (i : Nat) : ByteArray := (as.getD i (.i 0)).str
def gv (as : List A) (i : Nat) : Value := (as.getD i (.i 0)).val
def Y7 (l : List (Nat × (List A → Bool × List A))) (f : Nat) (as : List A) : Bool × List A :=
 match look f l with
 | some t => t as
 | none => (false, [])
def DG (P : Program) (f : Nat) (fn : Func) : Prop := P.funcs[f]? = some fn ∧ (fn.name == "runtime.NumGoroutine") = false ∧ fn.body.isSome = true
def Bb (P : Program) : List (Nat × Func) → Prop
 | [] => True
 | x :: l => DG P x.1 x.2 ∧ Bb P l
section
variable {T : Nat → List A → Bool × List A} {e : Nat → A} {P : Program}
theorem Az {l : List (Nat × Func)} (h : Bb P l) : QM P (fun f => look f l) := fun f fn hf => by
 induction l with
 | nil => cases hf
 | cons x l ih =>
  simp only [look] at hf
  split at hf
  ·rename_i hx
   injection hf with hf
   have hx : x.1 = f := by simpa using hx
   subst hx
   subst hf
   exact h.1
  ·exact ih h.2 hf
theorem YK {b op k x y} (h : Def.holds T e ⟨b, .ar op k, [x, y]⟩) : (e b).int = F6 op k (x.ev e).int (y.ev e).int := by rw [Re.1 h]; rfl
theorem YL {b op k x y} (h : Def.holds T e ⟨b, .dv op k, [x, y]⟩) : (e b).int = GR op k (x.ev e).int (y.ev e).int := by rw [Rf.1 h]; rfl
theorem YM {b op k x y} (h : Def.holds T e ⟨b, .bt op k, [x, y]⟩) : (e b).int = FC op k (x.ev e).int (y.ev e).int := by rw [Vq.1 h]; rfl
theorem XV {b op x y} (h : Def.holds T e ⟨b, .cmp op, [x, y]⟩) : (e b).bool = Br op (x.ev e).int (y.ev e).int := by rw [TR.1 h]; rfl
theorem Xo {b k x} (h : Def.holds T e ⟨b, .conv k, [x]⟩) : (e b).int = k.wrap (x.ev e).int := by rw [Nk.1 h]; rfl
theorem XW {b k x} (h : Def.holds T e ⟨b, .neg k, [x]⟩) : (e b).int = k.wrap (0 - (x.ev e).int) := by rw [TS.1 h]; rfl
theorem XX {b x} (h : Def.holds T e ⟨b, .not, [x]⟩) : (e b).bool = !(x.ev e).bool := by rw [TT.1 h]; rfl
theorem XY {b x y} (h : Def.holds T e ⟨b, .and, [x, y]⟩) : (e b).bool = ((x.ev e).bool && (y.ev e).bool) := by rw [TU.1 h]; rfl
theorem YN {b x y} (h : Def.holds T e ⟨b, .or, [x, y]⟩) : (e b).bool = ((x.ev e).bool || (y.ev e).bool) := by rw [Vr.1 h]; rfl
theorem XZ {b x y} (h : Def.holds T e ⟨b, .imp, [x, y]⟩) : (e b).bool = (!(x.ev e).bool || (y.ev e).bool) := by rw [TV.1 h]; rfl
theorem Xp {b x y z} (h : Def.holds T e ⟨b, .iteI, [x, y, z]⟩) : (e b).int = (if (x.ev e).bool then (y.ev e).int else (z.ev e).int) := by rw [Nl.1 h]; rfl
theorem Xq {b x y z} (h : Def.holds T e ⟨b, .iteB, [x, y, z]⟩) : (e b).bool = (if (x.ev e).bool then (y.ev e).bool else (z.ev e).bool) := by rw [Sd.1 h]; rfl
theorem Vu {b x y z} (h : Def.holds T e ⟨b, .iteV, [x, y, z]⟩) : (e b).val = (if (x.ev e).bool then (y.ev e).val else (z.ev e).val) := by rw [Se.1 h]; rfl
theorem X0 {b x y} (h : Def.holds T e ⟨b, .V6, [x, y]⟩) : (e b).bool = ((x.ev e).bool == (y.ev e).bool) := by rw [TW.1 h]; rfl
theorem X1 {b x y} (h : Def.holds T e ⟨b, .eqS, [x, y]⟩) : (e b).bool = ((x.ev e).str == (y.ev e).str) := by rw [TX.1 h]; rfl
theorem YO {b x y} (h : Def.holds T e ⟨b, .mn, [x, y]⟩) : (e b).int = (if (y.ev e).int < (x.ev e).int then (y.ev e).int else (x.ev e).int) := by rw [Vs.1 h]; rfl
theorem YP {b x y} (h : Def.holds T e ⟨b, .mx, [x, y]⟩) : (e b).int = (if (x.ev e).int < (y.ev e).int then (y.ev e).int else (x.ev e).int) := by rw [Vt.1 h]; rfl
theorem Xr {b x} (h : Def.holds T e ⟨b, .slen, [x]⟩) : (e b).int = ((x.ev e).str.size : Int) := by rw [Sf.1 h]; rfl
theorem Vv (l : List L) (i : Nat) : ((l.map (L.ev e))[i]?.getD (.i 0)).int = (l.map fun a => (a.ev e).int).getD i 0 := by
 rw [List.getD, List.getElem?_map, List.getElem?_map]
 cases l[i]? <;> rfl
theorem Xs {b x l} (h : Def.holds T e ⟨b, .sel, x :: l⟩) : (e b).int = (l.map fun a => (a.ev e).int).getD (x.ev e).int.toNat 0 := by rw [T4.1 h]; exact Vv _ _
theorem Xt {b x y l j a} (h : Def.holds T e ⟨b, .upd, x :: y :: l⟩) (ha : l[j]? = some a) : e (b + j) = if (x.ev e).int.toNat = j then y.ev e else a.ev e := by
 have hj : j < l.length := Ab ha
 refine h j _ ?_
 show ((l.map (L.ev e)).set _ _)[j]? = _
 rw [List.getElem?_set]
 split
 ·rename_i hx
  rw [if_pos (by simpa [hx] using hj)]
 ·rename_i hx
  rw [List.getElem?_map, ha]
  rfl
theorem Xu {b x y l} (j : Nat) {a} (h : Def.holds T e ⟨b, .upd, x :: y :: l⟩) (ha : l[j]? = some a) : (e (b + j)).int = if (x.ev e).int.toNat = j then (y.ev e).int else (a.ev e).int := by
 rw [Xt h ha]; split <;> rfl
theorem Bn {b f args} {t : List A → Bool × List A} (ht : T f = t) (h : Def.holds T e ⟨b, .call f, args⟩) : (e b).bool = (t (args.map (L.ev e))).1 := by
 have := h 0 (.b (T f (args.map (L.ev e))).1) rfl
 rw [ht, Nat.add_zero] at this
 rw [this]
 rfl
theorem Ba {b f args} {t : List A → Bool × List A} (ht : T f = t) (j : Nat) {a : A} (h : Def.holds T e ⟨b, .call f, args⟩) (ha : (t (args.map (L.ev e))).2[j]? = some a) : e (b + (j + 1)) = a := by
 refine h (j + 1) a ?_
 show (_ :: (T f (args.map (L.ev e))).2)[j + 1]? = _
 rw [List.getElem?_cons_succ, ht]
 exact ha
theorem Si {as more : List A} (he : ∀ j a, (as ++ more)[j]? = some a → e j = a) {n : Nat} (hn : as.length = n) : as = (List.range n).map e := by
 apply List.ext_getElem?
 intro i
 by_cases hi : i < as.length
 ·have h1 : (as ++ more)[i]? = some as[i] := by rw [List.getElem?_append_left hi]; simp
  rw [List.getElem?_map, List.getElem?_range (by omega), List.getElem?_eq_getElem hi]
  simp [he i _ h1]
 ·rw [List.getElem?_eq_none (by omega), List.getElem?_eq_none (by simp; omega)]
def Qc : PS → Bool
 | .slc _ => false
 | _ => true
def D7 : PS → Nat
 | .c _ l => l.length
 | .lst _ => 2
 | .d _ l => JO l
 | _ => 0
theorem KP {M : Addr → Option Value} : ∀ {ps : List PS} {vs : List Value} {as : List A}, BM M ps vs as → ps.all Qc = true → P9 ps [] as ∧ as.length = (ps.map D7).sum
 | [], vs, as, h, _ => by rw [h.2]; exact ⟨⟨rfl, rfl⟩, rfl⟩
 | p :: ps, vs, as, h, hp => by
  obtain ⟨v, vr, a1, a2, rfl, rfl, h1, h2⟩ := h
  simp only [List.all_cons, Bool.and_eq_true] at hp
  obtain ⟨k1, k2⟩ := KP h2 hp.2
  cases p with
  | c agg ss => exact ⟨⟨a1, a2, rfl, h1.1, k1⟩, by simp [D7, h1.1, k2]⟩
  | slc ss => simp [Qc] at hp
  | lst ss =>
   obtain ⟨x, k, _, _, _, rfl, _⟩ := h1
   exact ⟨⟨x, k, a2, rfl, k1⟩, by simp [D7, k2]; omega⟩
  | nil =>
   obtain ⟨_, rfl⟩ := h1
   exact ⟨k1, by simpa [D7] using k2⟩
  | d agg ss =>
   obtain ⟨cs, _, hd⟩ := h1
   have := (Cg hd).1
   exact ⟨⟨a1, a2, rfl, this, k1⟩, by simp [D7, this, k2]⟩
theorem Rg {k : IntKind} {ss : List Ak} {a b : A} {as bs : List A} (h : a.int = b.int) (hr : Af ss as = Af ss bs) : Af (.int k :: ss) (a :: as) = Af (.int k :: ss) (b :: bs) := by
 simp only [Af, Ak.A7, h, hr]
theorem JQ {ss : List Ak} {a b : A} {as bs : List A} (h : a.bool = b.bool) (hr : Af ss as = Af ss bs) : Af (.bool :: ss) (a :: as) = Af (.bool :: ss) (b :: bs) := by
 simp only [Af, Ak.A7, h, hr]
theorem wrap64 {x : Int} (h1 : -9223372036854775808 ≤ x) (h2 : x ≤ 9223372036854775807) : IntKind.wrap .i64 x = x := by
 simp only [IntKind.wrap, IntKind.signed, IntKind.bits]
 simp
 omega
end
end Rx
namespace Rx
open Go Go.RowKit
section
variable {T : Nat → List A → Bool × List A} {e : Nat → A} {P : Program}
def Tk (P : Program) (T : Nat → List A → Bool × List A) : List (Nat × Iy) → Prop
 | [] => True
 | x :: l => (x.2.f = x.1 ∧ BV P T x.2) ∧ Tk P T l
theorem Ap : ∀ {l : List (Nat × Iy)}, Tk P T l → Jf P T l
 | [], _ => fun x hx => by cases hx
 | y :: l, h => fun x hx => by
  rcases List.mem_cons.1 hx with rfl | hx
  ·exact h.1
  ·exact Ap h.2 x hx
def Tl (P : Program) (T : Nat → List A → Bool × List A) : List (Nat × SK) → Prop
 | [] => True
 | x :: l => (x.2.f = x.1 ∧ OW P T x.2) ∧ Tl P T l
theorem Aq : ∀ {l : List (Nat × SK)}, Tl P T l → P3 P T l
 | [], _ => fun x hx => by cases hx
 | y :: l, h => fun x hx => by
  rcases List.mem_cons.1 hx with rfl | hx
  ·exact h.1
  ·exact Aq h.2 x hx
def Tm (P : Program) (T : Nat → List A → Bool × List A) : List (Nat × W1) → Prop
 | [] => True
 | x :: l => (x.2.f = x.1 ∧ Tb P T x.2) ∧ Tm P T l
theorem KQ : ∀ {l : List (Nat × W1)}, Tm P T l → R1 P T l
 | [], _ => fun f m h => by simp [look] at h
 | y :: l, h => fun f m hm => by
  unfold look at hm
  split at hm
  ·injection hm with hm
   subst hm
   exact h.1.2
  ·exact KQ h.2 f m hm
def C3 (e : Nat → A) : List L → Prop
 | [] => True
 | o :: l => (o.ev e).bool = true ∧ C3 e l
theorem Qd : ∀ {l : List L}, C3 e l → ∀ o ∈ l, (o.ev e).bool = true
 | [], _ => fun x hx => by cases hx
 | y :: l, h => fun x hx => by
  rcases List.mem_cons.1 hx with rfl | hx
  ·exact h.1
  ·exact Qd h.2 x hx
end
end Rx
namespace Rx
open Go Go.RowKit
abbrev V := L.var
abbrev N := L.n
abbrev B := L.t
section
variable {T : Nat → List A → Bool × List A} {e : Nat → A}
theorem A.AF (b : ByteArray) : (A.v (.string b)).str = b := rfl
def V7 (a : A) : Prop := a = .i a.int
def Hi {α : Type} (c : Bool) (x y : α) : α := if c then x else y
def CC (i j : Nat) (x y : Int) : Int := if i = j then x else y
def IP (x y u v : Int) : Int := if x < y then u else v
def Cn (e : Nat → A) (x y : L) (b : Nat) : Nat → List L → Prop
 | _, [] => True
 | j, a :: l => (e (b + j)).int = CC (x.ev e).int.toNat j (y.ev e).int (a.ev e).int ∧ Cn e x y b (j + 1) l
def Def.q (T : Nat → List A → Bool × List A) (e : Nat → A) : Def → Prop
 | ⟨b, .ar op k, [x, y]⟩ => (e b).int = F6 op k (x.ev e).int (y.ev e).int ∧ V7 (e b)
 | ⟨b, .dv op k, [x, y]⟩ => (e b).int = GR op k (x.ev e).int (y.ev e).int ∧ V7 (e b)
 | ⟨b, .bt op k, [x, y]⟩ => (e b).int = FC op k (x.ev e).int (y.ev e).int
 | ⟨b, .cmp op, [x, y]⟩ => (e b).bool = Br op (x.ev e).int (y.ev e).int
 | ⟨b, .conv k, [x]⟩ => (e b).int = k.wrap (x.ev e).int ∧ V7 (e b)
 | ⟨b, .neg k, [x]⟩ => (e b).int = k.wrap (0 - (x.ev e).int)
 | ⟨b, .not, [x]⟩ => (e b).bool = !(x.ev e).bool
 | ⟨b, .and, [x, y]⟩ => (e b).bool = ((x.ev e).bool && (y.ev e).bool)
 | ⟨b, .or, [x, y]⟩ => (e b).bool = ((x.ev e).bool || (y.ev e).bool)
 | ⟨b, .imp, [x, y]⟩ => (e b).bool = (!(x.ev e).bool || (y.ev e).bool)
 | ⟨b, .iteI, [c, x, y]⟩ => (e b).int = Hi (c.ev e).bool (x.ev e).int (y.ev e).int ∧ V7 (e b)
 | ⟨b, .iteB, [c, x, y]⟩ => (e b).bool = Hi (c.ev e).bool (x.ev e).bool (y.ev e).bool
 | ⟨b, .iteV, [c, x, y]⟩ => (e b).val = Hi (c.ev e).bool (x.ev e).val (y.ev e).val ∧ (e b).str = Hi (c.ev e).bool (x.ev e).str (y.ev e).str
 | ⟨b, .iteA, [c, x, y]⟩ => e b = Hi (c.ev e).bool (x.ev e) (y.ev e)
 | ⟨b, .V6, [x, y]⟩ => (e b).bool = ((x.ev e).bool == (y.ev e).bool)
 | ⟨b, .eqS, [x, y]⟩ => (e b).bool = ((x.ev e).str == (y.ev e).str)
 | ⟨b, .mn, [x, y]⟩ => (e b).int = IP (y.ev e).int (x.ev e).int (y.ev e).int (x.ev e).int
 | ⟨b, .mx, [x, y]⟩ => (e b).int = IP (x.ev e).int (y.ev e).int (y.ev e).int (x.ev e).int
 | ⟨b, .slen, [x]⟩ => (e b).int = ((x.ev e).str.size : Int)
 | ⟨b, .sel, x :: l⟩ => (e b).int = (l.map fun a => (a.ev e).int).getD (x.ev e).int.toNat 0
 | ⟨b, .upd, x :: y :: l⟩ => Cn e x y b 0 l
 | ⟨b, .pix o s, [x, i]⟩ => e b = (x.ev e).Bq.getD (o + s * (i.ev e).int.toNat) (.i 0)
 | ⟨b, .pset o s, [x, i, y]⟩ => e b = .l ((x.ev e).Bq.set (o + s * (i.ev e).int.toNat) (y.ev e))
 | ⟨b, .lln s, [x]⟩ => (e b).int = (((x.ev e).Bq.length / s : Nat) : Int)
 | ⟨b, .rep, x :: zs⟩ => e b = .l (List.replicate (x.ev e).int.toNat (zs.map (L.ev e))).flatten
 | ⟨b, .mkl, l⟩ => e b = .l (l.map (L.ev e))
 | ⟨b, .cat, [x, y]⟩ => e b = .l ((x.ev e).Bq ++ (y.ev e).Bq)
 | ⟨b, .cpy, [x, y, m]⟩ => e b = .l ((y.ev e).Bq.take (m.ev e).int.toNat ++ (x.ev e).Bq.drop (m.ev e).int.toNat)
 | ⟨b, .scat, [x, y]⟩ => (e b).str = (x.ev e).str ++ (y.ev e).str
 | ⟨b, .sget, [x, i]⟩ => (e b).int = (((x.ev e).str.data.toList.getD (i.ev e).int.toNat 0).toNat : Int)
 | ⟨b, .ssub, [x, i, j]⟩ => (e b).str = (x.ev e).str.extract (i.ev e).int.toNat (j.ev e).int.toNat
 | ⟨b, .mks, [x]⟩ => (e b).str = ⟨((x.ev e).Bq.map fun a => UInt8.ofNat a.int.toNat).toArray⟩
 | ⟨b, .sby, [x]⟩ => e b = .l ((x.ev e).str.data.toList.map fun b => .i (b.toNat : Int))
 | ⟨b, .sh op k, [x, y]⟩ => (e b).int = Hg op k (x.ev e).int (y.ev e).int ∧ V7 (e b)
 | d => d.holds T e
theorem Tn {x y : L} {b : Nat} {l0 : List L} (h : Def.holds T e ⟨b, .upd, x :: y :: l0⟩) : ∀ {l : List L} {j : Nat}, (∀ (i : Nat) a, l[i]? = some a → l0[j + i]? = some a) → Cn e x y b j l
 | [], _, _ => trivial
 | a :: l, j, hl => ⟨Xu j h (hl 0 a rfl), Tn h fun i c hc => by
   have := hl (i + 1) c (by simpa using hc)
   rwa [show j + 1 + i = j + (i + 1) by omega]⟩
theorem YQ {d : Def} (h : d.holds T e) : d.q T e := by
 unfold Def.q
 split
 ·exact ⟨YK h, by rw [Re.1 h]; rfl⟩
 ·exact ⟨YL h, by rw [Rf.1 h]; rfl⟩
 ·exact YM h
 ·exact XV h
 ·exact ⟨Xo h, by rw [Nk.1 h]; rfl⟩
 ·exact XW h
 ·exact XX h
 ·exact XY h
 ·exact YN h
 ·exact XZ h
 ·exact ⟨Xp h, by rw [Nl.1 h]; rfl⟩
 ·exact Xq h
 ·refine ⟨Vu h, ?_⟩
  have := Vu h
  unfold A.str
  rw [this]
  split <;> rename_i hc <;> simp [Hi, hc]
 ·exact Sg.1 h
 ·exact X0 h
 ·exact X1 h
 ·exact YO h
 ·exact YP h
 ·exact Xr h
 ·exact Xs h
 ·exact Tn h fun i a ha => by simpa using ha
 ·exact TY.1 h
 ·exact Sh.1 h
 ·rw [TZ.1 h]; rfl
 ·exact T0.1 h
 ·exact T1.1 h
 ·exact T3.1 h
 ·exact T2.1 h
 ·exact congrArg A.str (h 0 _ rfl)
 ·exact congrArg A.int (h 0 _ rfl)
 ·exact congrArg A.str (h 0 _ rfl)
 ·exact congrArg A.str (h 0 _ rfl)
 ·exact h 0 _ rfl
 ·rename_i b op k x y
  have h2 : e b = _ := h 0 _ rfl
  rw [h2]
  exact ⟨rfl, rfl⟩
 ·exact h
def Ai (T : Nat → List A → Bool × List A) (e : Nat → A) : List Def → Prop
 | [] => True
 | d :: l => d.q T e ∧ Ai T e l
theorem Iw : ∀ {l : List Def}, (∀ d ∈ l, d.holds T e) → Ai T e l
 | [], _ => trivial
 | d :: l, h => ⟨YQ (h d (by simp)), Iw fun x hx => h x (by simp [hx])⟩
def ge (as : List A) (i : Nat) : A := as.getD i (.i 0)
end
end Rx
namespace Rx
open Go Go.RowKit
def Nn (n : Nat) (l : List (Nat × SV)) : List SV := l.foldl (fun a x => a.set x.1 x.2) (List.replicate n .junk)
section
variable {T : Nat → List A → Bool × List A} {e : Nat → A} {P : Program} {X : Ctx}
def Rh (a b : G) : Bool := a.next == b.next && DB a.defs b.defs && L.Ix a.obs b.obs && CG a.known b.known
theorem No {a b : G} (h : Rh a b = true) : a = b := by
 obtain ⟨a1, a2, a3, a4⟩ := a
 obtain ⟨b1, b2, b3, b4⟩ := b
 simp only [Rh, Bool.and_eq_true, beq_iff_eq] at h
 obtain ⟨⟨⟨h1, h2⟩, h3⟩, h4⟩ := h
 rw [h1, EU h2, L.Cw h3, D3 h4]
def X2 (ws : List (Nat × Nat)) (X : Ctx) (c : Iy) (g : G) (ls : List L) : Bool :=
 match Df (Rb []) c.ps [] 0 0 with
 | some (args, rows, k) => match run X 2000 c.f args rows k [] with
  | some (v, _, g') => Rh g' g && (match Ni c.rs v with | some l => L.Ix l ls | none => false) && HF ws g.defs g.next && g.defs.all (fun d => decide (k ≤ d.base)) && c.ps.all Qc && k == (c.ps.map D7).sum
  | none => false
 | none => false
theorem BF (hX : XL P T X) {ws : List (Nat × Nat)} (hws : D6 T ws) {c : Iy} {g : G} {ls : List L} (h : X2 ws X c g ls = true)
  (hlen : ∀ as, (T c.f as).2.length = ls.length)
  (hpure : ∀ (as : List A) (e : Nat → A), as = (List.range (c.ps.map D7).sum).map e → (T c.f as).1 = true → Ai T e g.defs → C3 e g.obs ∧ Af (c.rs.flatMap (·.2)) (T c.f as).2 = Af (c.rs.flatMap (·.2)) (ls.map (L.ev e))) (hkn : g.known = [] := by rfl) : BV P T c := by
 intro lits as vs w _ _ hargs hpre
 unfold X2 at h
 split at h
 ·rename_i args rows k hpar
  split at h
  ·rename_i v rows' g' hrun
   simp only [Bool.and_eq_true] at h
   obtain ⟨⟨⟨⟨⟨h1, h2⟩, h3⟩, h4⟩, h5⟩, h6⟩ := h
   have h1 := No h1
   subst h1
   cases hfl : Ni c.rs v with
   | none => rw [hfl] at h2; cases h2
   | some l =>
    rw [hfl] at h2
    have h2 := L.Cw h2
    subst h2
    obtain ⟨a1, a2⟩ := KP hargs h5
    refine Qb (more := []) (kn := []) hX hws hpar (by simpa using hrun) h3 (by simpa using h4) hfl hargs a1 (fun i x hx => by cases hx) (hlen as) fun e he hd => ?_
    obtain ⟨p1, p2⟩ := hpure as e (by
     have := Si (more := []) he rfl
     rw [a2] at this
     exact this) hpre (Iw hd)
    exact ⟨by rw [hkn]; exact fun x hx => (by cases hx), Qd p1, p2⟩
  ·cases h
 ·cases h
def X3 (ws : List (Nat × Nat)) (X : Ctx) (c : SK) (g : G) (ls : List L) : Bool :=
 match Df (Rb []) c.ps [] 0 0 with
 | some (args, rows, k) => match run X 2000 c.f args rows k [] with
  | some (v, rows', g') => Rh g' g && (match Iv rows' c.rs v with | some l => L.Ix l ls | none => false) && HF ws g.defs g.next && g.defs.all (fun d => decide (k ≤ d.base)) && c.ps.all Qc && k == (c.ps.map D7).sum
  | none => false
 | none => false
theorem Vw (hX : XL P T X) {ws : List (Nat × Nat)} (hws : D6 T ws) {c : SK} {g : G} {ls : List L} (h : X3 ws X c g ls = true)
  (hpure : ∀ (as : List A) (e : Nat → A), as = (List.range (c.ps.map D7).sum).map e → (T c.f as).1 = true → Ai T e g.defs → C3 e g.obs ∧ Pf c.rs (T c.f as).2 (ls.map (L.ev e))) (hkn : g.known = [] := by rfl) : OW P T c := by
 intro lits as vs w S hS _ _ hargs hpre
 unfold X3 at h
 split at h
 ·rename_i args rows k hpar
  split at h
  ·rename_i v rows' g' hrun
   simp only [Bool.and_eq_true] at h
   obtain ⟨⟨⟨⟨⟨h1, h2⟩, h3⟩, h4⟩, h5⟩, h6⟩ := h
   have h1 := No h1
   subst h1
   cases hfl : Iv rows' c.rs v with
   | none => rw [hfl] at h2; cases h2
   | some l =>
    rw [hfl] at h2
    have h2 := L.Cw h2
    subst h2
    obtain ⟨a1, a2⟩ := KP hargs h5
    refine Sc (more := []) (kn := []) hX hws hpar (by simpa using hrun) h3 (by simpa using h4) hfl hS hargs a1 (fun i x hx => by cases hx) fun e he hd => ?_
    obtain ⟨p1, p2⟩ := hpure as e (by
     have := Si (more := []) he rfl
     rw [a2] at this
     exact this) hpre (Iw hd)
    exact ⟨by rw [hkn]; exact fun x hx => (by cases hx), Qd p1, p2⟩
  ·cases h
 ·cases h
def Vx (a : List Ex) (b : List (L × List (Option L))) : Bool :=
 Cp (fun x y => x) (a.map fun _ => true) (b.map fun _ => true) && (a.zip b).all fun x => x.1.pc.same x.2.1 && x.1.lx.length == x.2.2.length && (x.1.lx.zip x.2.2).all fun y => match y.1, y.2 with | some l, some m => l.same m | none, none => true | _, _ => false
def Ri (a b : Option (L × List L)) : Bool :=
 match a, b with
 | none, none => true
 | some x, some y => x.1.same y.1 && L.Ix x.2 y.2
 | _, _ => false
def Sj (X : Ctx) (f : Nat) (p : List Bool) : Option Code :=
 match X.fns f with
 | some fn => match fn.body with
  | some b => match CO p b with
   | some (.loop c) => some c
   | _ => none
  | none => none
 | none => none
def W7 (ws : List (Nat × Nat)) (X : Ctx) (q : Lp) (g : G) (back : Option (L × List L)) (exs : List (L × List (Option L))) : Bool :=
 match Sj X q.f q.p with
 | some c => match exec X 2000 q.f (false :: q.p) c (Jx q) ⟨q.k, [], [], []⟩ with
  | some (outs, g') => Rh g' g && HF ws g.defs g.next && g.defs.all (fun d => decide (q.k ≤ d.base)) && decide (q.m ≤ q.tm.rows.length) &&
    (match PK q outs with | some b => Ri b back | none => false) && (match Ij q outs with | some x => Vx x exs | none => false)
  | none => false
 | none => false
theorem D8 (hX : XL P T X) {ws : List (Nat × Nat)} (hws : D6 T ws) {q : Lp} {g : G} {back : Option (L × List L)} {exs : List (L × List (Option L))} (h : W7 ws X q g back exs = true)
  (hlen : ∀ as, (T q.id as).2.length = q.w) (meas : List A → Nat)
  (hpure : ∀ (as : List A) (e : Nat → A), as = (List.range q.k).map e → (T q.id as).1 = true → Ai T e g.defs → C3 e g.obs ∧
   (∀ pc ls, back = some (pc, ls) → (pc.ev e).bool = true → (T q.id (ls.map (L.ev e))).1 = true ∧ (T q.id (ls.map (L.ev e))).2 = (T q.id as).2 ∧ meas (ls.map (L.ev e)) < meas as) ∧
   ∀ x ∈ exs, (x.1.ev e).bool = true → ∀ (j : Nat) l, x.2[j]? = some (some l) → Gr (q.tags.getD j .any) (l.ev e) ((T q.id as).2.getD j (.i 0))) (hkn : g.known = [] := by rfl) :
  ∀ fn body c, X.fns q.f = some fn → fn.body = some body → CO q.p body = some (.loop c) → BN P T q c := by
 intro fn body c f1 f2 f3
 unfold W7 at h
 have hb : Sj X q.f q.p = some c := by simp only [Sj, f1, f2, f3]
 rw [hb] at h
 simp only at h
 split at h
 ·rename_i outs g' hrun
  simp only [Bool.and_eq_true, decide_eq_true_eq] at h
  obtain ⟨⟨⟨⟨⟨h1, h2⟩, h3⟩, h4⟩, h5⟩, h6⟩ := h
  have h1 := No h1
  subst h1
  cases hbk : PK q outs with
  | none => rw [hbk] at h5; cases h5
  | some b =>
   cases hex : Ij q outs with
   | none => rw [hex] at h6; cases h6
   | some xs =>
    rw [hbk] at h5
    rw [hex] at h6
    simp only at h5 h6
    refine Rd hX hws ⟨fn, body, f1, f2, by simp only [CO, f3]; rfl⟩ hrun h2 h3 hkn (by simpa using h4) hbk hex (fun as _ => hlen as) meas fun as e hal he hpre hd => ?_
    have has : as = (List.range q.k).map e := Si (more := []) (by simpa using he) hal
    obtain ⟨p1, p2, p3⟩ := hpure as e has hpre (Iw hd)
    refine ⟨Qd p1, fun pc ls hb' => p2 pc ls ?_, fun x hx hpc j l hj => ?_⟩
    ·unfold Ri at h5
     split at h5
     ·exact hb'
     ·simp only [Bool.and_eq_true] at h5
      rename_i x y
      rw [← hb']
      exact congrArg some (Prod.ext (L.Ae h5.1).symm (L.Cw h5.2).symm)
     ·cases h5
    ·unfold Vx at h6
     simp only [Bool.and_eq_true, List.all_eq_true] at h6
     obtain ⟨k1, k2⟩ := h6
     obtain ⟨i, hi, hi2⟩ := List.mem_iff_getElem.1 hx
     have hl := (JK k1).1
     simp only [List.length_map] at hl
     have hy : i < exs.length := by omega
     have hz : (x, exs[i]'hy) ∈ xs.zip exs := by
      rw [← hi2]
      exact List.mem_iff_getElem.2 ⟨i, by simp; omega, by simp⟩
     obtain ⟨⟨m1, m2⟩, m3⟩ := by
      have := k2 _ hz
      simp only [Bool.and_eq_true] at this
      exact this
     have m1 := L.Ae m1
     simp only [beq_iff_eq] at m2
     have hjl : j < x.lx.length := Ab hj
     have hj2 : j < (exs[i]'hy).2.length := by omega
     have hzz : (x.lx[j]'hjl, (exs[i]'hy).2[j]'hj2) ∈ x.lx.zip (exs[i]'hy).2 := List.mem_iff_getElem.2 ⟨j, by simp; omega, by simp⟩
     have m4 := m3 _ hzz
     rw [List.getElem?_eq_getElem hjl] at hj
     injection hj with hj
     rw [hj] at m4
     simp only at m4
     refine p3 _ (List.getElem_mem hy) (by rw [← m1]; exact hpc) j l ?_
     rw [List.getElem?_eq_getElem hj2]
     cases ho : (exs[i]'hy).2[j]'hj2 with
     | none => rw [ho] at m4; cases m4
     | some mm => rw [ho] at m4; simp only at m4; rw [L.Ae m4]
 ·cases h
theorem AX {X : Ctx} (h : X.lps = []) : ∀ q ∈ X.lps, ∀ fn body c, X.fns q.f = some fn → fn.body = some body → CO q.p body = some (.loop c) → BN P T q c := by
 rw [h]; intro q hq; cases hq
def Sk (P : Program) (T : Nat → List A → Bool × List A) (X : Ctx) : List Lp → Prop
 | [] => True
 | q :: l => (∀ fn body c, X.fns q.f = some fn → fn.body = some body → CO q.p body = some (.loop c) → BN P T q c) ∧ Sk P T X l
theorem Ph {X : Ctx} : ∀ {l : List Lp}, Sk P T X l → ∀ q ∈ l, ∀ fn body c, X.fns q.f = some fn → fn.body = some body → CO q.p body = some (.loop c) → BN P T q c
 | [], _ => fun x hx => by cases hx
 | y :: l, h => fun x hx => by
  rcases List.mem_cons.1 hx with rfl | hx
  ·exact h.1
  ·exact Ph h.2 x hx
theorem C4 {X : Ctx} (h : Sk P T X X.lps) : ∀ q ∈ X.lps, ∀ fn body c, X.fns q.f = some fn → fn.body = some body → CO q.p body = some (.loop c) → BN P T q c := Ph h
end
end Rx
namespace Rx
open Go Go.RowKit
def La (F : Nat → Option (List Ak)) (Aw : List (Nat × Ty)) : List (Nat × Nat) → Nat → Option (List Ak)
 | [], _ => some []
 | (t, off) :: l, o => do
  let ty ← look t Aw
  let a ← F t
  if off == o && a.length == ty.size then let r ← La F Aw l (o + ty.size); some (a ++ r) else none
def NN (Aw : List (Nat × Ty)) : Nat → Nat → Option (List Ak)
 | 0, _ => none
 | n + 1, t => do
  let ty ← look t Aw
  match ty.kind with
  | .int k => some [.int k]
  | .bool => some [.bool]
  | .string => some [.str]
  | .slice e => do
   let te ← look e Aw
   let l ← NN Aw n e
   if l.length == te.size && l.length != 0 then some [.sl l] else none
  | .arr m e => do
   let te ← look e Aw
   let l ← La (NN Aw n) Aw ((List.range m).map fun i => (e, i * te.size)) 0
   if l.length == ty.size then some l else none
  | .struct fs => do
   let l ← La (NN Aw n) Aw fs 0
   if l.length == ty.size then some l else none
  | _ => none
inductive V9 : Ak → A → Prop
 | int {k : IntKind} {n : Int} : k.min ≤ n → n ≤ k.max → V9 (.int k) (.i n)
 | bool {b : Bool} : V9 .bool (.b b)
 | str {s : ByteArray} : s.size ≤ maxLen → V9 .str (.v (.string s))
 | sl {ss : List Ak} {as : List A} {n : Nat} : as.length = n * ss.length → n ≤ maxLen → (∀ (j : Nat) s a, ss[j % ss.length]? = some s → as[j]? = some a → V9 s a) → V9 (.sl ss) (.l as)
def L5 : List Ak → List A → Prop
 | [], [] => True
 | s :: ss, a :: as => V9 s a ∧ L5 ss as
 | _, _ => False
def Dk (M : Addr → Option Value) : List Ak → List A → List Value → Prop
 | [], [], [] => True
 | s :: ss, a :: as, c :: cs => Hh M s a c ∧ Dk M ss as cs
 | _, _, _ => False
theorem Lx : ∀ {s1 s2 : List Ak} {a1 a2 : List A}, L5 s1 a1 → L5 s2 a2 → L5 (s1 ++ s2) (a1 ++ a2)
 | [], _, [], _, _, h => h
 | _ :: _, _, _ :: _, _, h, h' => ⟨h.1, Lx h.2 h'⟩
 | [], _, _ :: _, _, h, _ => h.elim
 | _ :: _, _, [], _, h, _ => h.elim
theorem IS {M : Addr → Option Value} : ∀ {s1 s2 : List Ak} {a1 a2 : List A} {c1 c2 : List Value}, Dk M s1 a1 c1 → Dk M s2 a2 c2 → Dk M (s1 ++ s2) (a1 ++ a2) (c1 ++ c2)
 | [], _, [], _, [], _, _, h => h
 | _ :: _, _, _ :: _, _, _ :: _, _, h, h' => ⟨h.1, IS h.2 h'⟩
 | [], _, [], _, _ :: _, _, h, _ => h.elim
 | [], _, _ :: _, _, _, _, h, _ => h.elim
 | _ :: _, _, [], _, _, _, h, _ => h.elim
 | _ :: _, _, _ :: _, _, [], _, h, _ => h.elim
theorem NO {M : Addr → Option Value} : ∀ {ss : List Ak} {as : List A} {cs : List Value}, Dk M ss as cs → as.length = ss.length ∧ cs.length = ss.length
 | [], [], [], _ => ⟨rfl, rfl⟩
 | _ :: _, _ :: _, _ :: _, h => by
  have := NO h.2
  simp [this]
 | [], [], _ :: _, h => h.elim
 | [], _ :: _, _, h => h.elim
 | _ :: _, [], _, h => h.elim
 | _ :: _, _ :: _, [], h => h.elim
theorem NP {M : Addr → Option Value} : ∀ {ss : List Ak} {as : List A} {cs : List Value}, Dk M ss as cs → ∀ {j : Nat} {s : Ak} {a : A} {c : Value}, ss[j]? = some s → as[j]? = some a → cs[j]? = some c → Hh M s a c
 | [], [], [], _, j, s, a, c, h, _, _ => by simp at h
 | _ :: _, _ :: _, _ :: _, h, 0, s, a, c, h1, h2, h3 => by simp at h1 h2 h3; subst h1 h2 h3; exact h.1
 | _ :: _, _ :: _, _ :: _, h, j + 1, s, a, c, h1, h2, h3 => NP h.2 (j := j) (by simpa using h1) (by simpa using h2) (by simpa using h3)
 | [], [], _ :: _, h, _, _, _, _, _, _, _ => h.elim
 | [], _ :: _, _, h, _, _, _, _, _, _, _ => h.elim
 | _ :: _, [], _, h, _, _, _, _, _, _, _ => h.elim
 | _ :: _, _ :: _, [], h, _, _, _, _, _, _, _ => h.elim
theorem Rz : ∀ {ss : List Ak} {as : List A}, L5 ss as → ∀ {j : Nat} {s : Ak} {a : A}, ss[j]? = some s → as[j]? = some a → V9 s a
 | [], [], _, j, s, a, h, _ => by simp at h
 | _ :: _, _ :: _, h, 0, s, a, h1, h2 => by simp at h1 h2; subst h1 h2; exact h.1
 | _ :: _, _ :: _, h, j + 1, s, a, h1, h2 => Rz h.2 (j := j) (by simpa using h1) (by simpa using h2)
 | [], _ :: _, h, _, _, _, _, _ => h.elim
 | _ :: _, [], h, _, _, _, _, _ => h.elim
theorem RA : ∀ {ss : List Ak} {as : List A}, L5 ss as → as.length = ss.length
 | [], [], _ => rfl
 | _ :: _, _ :: _, h => by simp [RA h.2]
 | [], _ :: _, h => h.elim
 | _ :: _, [], h => h.elim
theorem Kg {α : Type} {m : Nat} {f : Nat → List α} : ∀ {n : Nat}, (∀ i, i < n → (f i).length = m) → ((List.range n).flatMap f).length = n * m
 | 0, _ => by simp
 | n + 1, h => by
  rw [List.range_succ, List.flatMap_append, List.length_append, Kg (n := n) fun i hi => h i (by omega)]
  simp [h n (by omega), Nat.succ_mul]
theorem HY {α : Type} {m : Nat} (hm : 0 < m) {f : Nat → List α} : ∀ {n : Nat}, (∀ i, i < n → (f i).length = m) → ∀ j, j < n * m → ((List.range n).flatMap f)[j]? = (f (j / m))[j % m]?
 | 0, _, j, hj => by simp at hj
 | n + 1, h, j, hj => by
  have hl := Kg (n := n) (f := f) fun i hi => h i (by omega)
  rw [List.range_succ, List.flatMap_append]
  by_cases hjn : j < n * m
  ·rw [List.getElem?_append_left (by rw [hl]; exact hjn)]
   exact HY hm (fun i hi => h i (by omega)) j hjn
  ·rw [List.getElem?_append_right (by rw [hl]; omega), hl]
   have e1 : j - n * m < m := by rw [Nat.succ_mul] at hj; omega
   have e2 : j = m * n + (j - n * m) := by rw [Nat.mul_comm m n]; omega
   have e3 : j / m = n := by rw [e2, Nat.mul_add_div hm, Nat.div_eq_of_lt e1, Nat.add_zero]
   have e4 : j % m = j - n * m := by conv => lhs; rw [e2]; rw [Nat.mul_add_mod, Nat.mod_eq_of_lt e1]
   simp [e3, e4]
section
variable {H : Type} {enc : TypeId × Value → H} {P : Program} {w : World} {base : Nat} {spare : Nat → Bool} {held : Bool}
theorem HZ {Aw : List (Nat × Ty)} (hX : BE P Aw) {n : Nat} {F : Nat → Option (List Ak)}
  (hF : ∀ t ss, F t = some ss → ∀ fuel cs x, DataW.trod enc P w base spare held fuel t cs = some x → ∃ as, L5 ss as ∧ Dk w.cell? ss as cs) (cs : List Value) :
  ∀ (fl : List (Nat × Nat)) (o : Nat) (ss : List Ak), La F Aw fl o = some ss → (∀ f ∈ fl, ∃ y, DataW.trod enc P w base spare held n f.1 ((cs.drop f.2).take (P.cellsOf f.1)) = some y) →
   ∃ as, L5 ss as ∧ Dk w.cell? ss as ((cs.drop o).take ss.length)
 | [], o, ss, h, _ => by
  simp only [La, Option.some.injEq] at h
  subst h
  exact ⟨[], trivial, by simp [Dk]⟩
 | (t, off) :: fl, o, ss, h, hf => by
  simp only [La, Option.bind_eq_bind, Option.bind_eq_some_iff] at h
  obtain ⟨ty, hty, a, ha, h⟩ := h
  split at h
  ·rename_i hc
   simp only [Bool.and_eq_true, beq_iff_eq] at hc
   obtain ⟨rfl, hlen⟩ := hc
   simp only [Option.bind_eq_some_iff, Option.some.injEq] at h
   obtain ⟨r, hr, rfl⟩ := h
   obtain ⟨y, hy⟩ := hf (t, off) (by simp)
   simp only at hy
   have hsz : P.cellsOf t = ty.size := by
    obtain ⟨i, z, h1, h2, _⟩ := (hX t ty hty).info
    rw [Program.cellsOf, h1]
    exact h2
   obtain ⟨as1, h1, h2⟩ := hF t a ha n _ y hy
   obtain ⟨as2, h3, h4⟩ := HZ hX hF cs fl (off + ty.size) r hr (fun f hf' => hf f (by simp [hf']))
   refine ⟨as1 ++ as2, Lx h1 h3, ?_⟩
   rw [List.length_append, List.take_add, List.drop_drop, hlen]
   rw [hsz] at h2
   exact IS h2 h4
  ·cases h
theorem Uu {a : Addr} {k : Nat} {cs : List Value} (h : w.cells? base a k = some cs) : cs.length = k ∧ ∀ j, j < k → w.cell? (a.add j) = cs[j]? := by
 unfold World.cells? at h
 split at h
 ·exact ⟨by simpa using mapM_some_length h, fun j hj => mapM_some_get h j j (by simp [hj])⟩
 ·cases h
theorem Uv {a : Addr} {v : Value} (h : w.cell? a = some v) : a = ⟨a.block, a.off, none⟩ := by
 obtain ⟨b, o, s⟩ := a
 unfold World.cell? at h
 split at h
 ·simp only at h
  split at h
  ·cases h
  ·rename_i hs
   cases s with
   | none => rfl
   | some => simp at hs
 ·cases h
theorem GK {Aw : List (Nat × Ty)} (hX : BE P Aw) : ∀ (n t : Nat) (ss : List Ak), NN Aw n t = some ss → ∀ (fuel : Nat) (cs : List Value) (x : DataW H × List MemPlace), DataW.trod enc P w base spare held fuel t cs = some x →
  ∃ as, L5 ss as ∧ Dk w.cell? ss as cs
 | 0, t, ss, h => by simp [NN] at h
 | n + 1, t, ss, h => fun fuel cs x hx => by
  simp only [NN, Option.bind_eq_bind, Option.bind_eq_some_iff] at h
  obtain ⟨ty, hty, h⟩ := h
  have hT := hX t ty hty
  obtain ⟨d, hd, hk⟩ := hT.kind
  split at h
  ·rename_i k hkk
   injection h with h
   subst h
   rw [hkk] at hk
   cases d <;> simp only [TK.okB, Bool.false_eq_true] at hk
   rw [← Bc hk] at hd
   obtain ⟨m, rfl, _, hw⟩ := DataW.trod_int hd hx
   simp only [Lit.wf, Bool.and_eq_true, decide_eq_true_eq] at hw
   exact ⟨[.i m], ⟨.int hw.1 hw.2, trivial⟩, .sc rfl, trivial⟩
  ·rename_i hkk
   injection h with h
   subst h
   rw [hkk] at hk
   cases d <;> simp only [TK.okB, Bool.false_eq_true] at hk
   obtain ⟨m, rfl, _⟩ := DataW.trod_bool hd hx
   exact ⟨[.b m], ⟨.bool, trivial⟩, .sc rfl, trivial⟩
  ·rename_i hkk
   injection h with h
   subst h
   rw [hkk] at hk
   cases d <;> simp only [TK.okB, Bool.false_eq_true] at hk
   obtain ⟨m, rfl, _, hl⟩ := DataW.trod_string hd hx
   exact ⟨[.v (.string m)], ⟨.str hl, trivial⟩, .sc rfl, trivial⟩
  ·rename_i e hkk
   simp only [Option.bind_eq_some_iff] at h
   obtain ⟨te, hte, l, hl, h⟩ := h
   split at h
   ·rename_i hlen
    simp only [Bool.and_eq_true, beq_iff_eq, bne_iff_ne, ne_eq] at hlen
    obtain ⟨hlen, hl0⟩ := hlen
    injection h with h
    subst h
    rw [hkk] at hk
    cases d <;> simp only [TK.okB, Bool.false_eq_true, beq_iff_eq] at hk
    subst hk
    have hse : P.cellsOf e = l.length := by
     obtain ⟨i, z, h1, h2, _⟩ := (hX e te hte).info
     rw [Program.cellsOf, h1, hlen]
     exact h2
    rcases DataW.trod_slice hd hx with ⟨rfl, _⟩ | ⟨a, len, cap, elems, rest, q, _, rfl, _, _, hlc, hcm, hel, hge, _⟩
    ·exact ⟨[.l []], ⟨.sl (n := 0) (by simp) (by omega) (fun j s a h1 h2 => by simp at h2), trivial⟩, .emp, trivial⟩
    ·have key : ∀ i, i < len → ∃ (as : List A) (us : List Value), L5 l as ∧ Dk w.cell? l as us ∧ ∀ j, j < l.length → w.cell? (a.add (i * l.length + j)) = us[j]? := fun i hi => by
      have h1 := hge i hi
      rw [List.getElem?_eq_getElem (by omega)] at h1
      obtain ⟨us, h2, h3⟩ := Option.bind_eq_some_iff.1 h1
      rw [hse] at h2
      obtain ⟨as, h4, h5⟩ := GK hX n e l hl q us _ h3
      refine ⟨as, us, h4, h5, fun j hj => ?_⟩
      rw [← (Uu h2).2 j hj, Go.Deep.add_add]
     let fa : Nat → List A := fun i => if h : i < len then (key i h).choose else []
     let fu : Nat → List Value := fun i => if h : i < len then (key i h).choose_spec.choose else []
     have hfa : ∀ i, i < len → L5 l (fa i) ∧ Dk w.cell? l (fa i) (fu i) ∧ ∀ j, j < l.length → w.cell? (a.add (i * l.length + j)) = (fu i)[j]? := fun i hi => by
      simp only [fa, fu, hi, dif_pos]
      exact (key i hi).choose_spec.choose_spec
     have la : ∀ i, i < len → (fa i).length = l.length := fun i hi => RA (hfa i hi).1
     have lu : ∀ i, i < len → (fu i).length = l.length := fun i hi => (NO (hfa i hi).2.1).2
     have hpos : 0 < l.length := by omega
     have tot := Kg la
     have totu := Kg lu
     have dm : ∀ j, j < len * l.length → j / l.length < len ∧ j % l.length < l.length ∧ j = j / l.length * l.length + j % l.length := fun j hj =>
      ⟨Nat.div_lt_of_lt_mul (by rw [Nat.mul_comm]; exact hj), Nat.mod_lt _ hpos, by rw [Nat.mul_comm]; exact (Nat.div_add_mod j l.length).symm⟩
     refine ⟨[.l ((List.range len).flatMap fa)], ⟨.sl (n := len) tot (by omega) fun j s b h1 h2 => ?_, trivial⟩, ?_, trivial⟩
     ·have hj : j < len * l.length := by rw [← tot]; exact Ab h2
      rw [HY hpos la j hj] at h2
      obtain ⟨d1, d2, d3⟩ := dm j hj
      exact Rz (hfa _ d1).1 h1 h2
     ·cases len with
      | zero => exact .emp
      | succ len =>
       have h0 := (hfa 0 (by omega)).2.2 0 hpos
       have hu0 : 0 < (fu 0).length := by rw [lu 0 (by omega)]; exact hpos
       rw [List.getElem?_eq_getElem hu0] at h0
       simp only [Nat.zero_mul, Nat.add_zero] at h0
       have ha : a = ⟨a.block, a.off, none⟩ := Uv (by simpa [Addr.add] using h0)
       generalize a.block = b at ha
       generalize a.off = o at ha
       subst ha
       refine .sl (us := (List.range (len + 1)).flatMap fu) hpos tot (by rw [totu, tot]) (fun j u hu => ?_) fun j s x u h1 h2 h3 => ?_
       ·have hj : j < (len + 1) * l.length := by rw [← totu]; exact Ab hu
        rw [HY hpos lu j hj] at hu
        obtain ⟨d1, d2, d3⟩ := dm j hj
        have := (hfa _ d1).2.2 _ d2
        rw [← d3, hu] at this
        rw [← this]
        unfold Addr.add
        split
        ·rename_i hz; rw [hz]; rfl
        ·rfl
       ·have hj : j < (len + 1) * l.length := by rw [← tot]; exact Ab h2
        rw [HY hpos la j hj] at h2
        rw [HY hpos lu j hj] at h3
        obtain ⟨d1, d2, d3⟩ := dm j hj
        exact NP (hfa _ d1).2.1 h1 h2 h3
   ·cases h
  ·rename_i m e hkk
   simp only [Option.bind_eq_some_iff] at h
   obtain ⟨te, hte, l, hl, h⟩ := h
   split at h
   ·rename_i hlen
    have hlen : l.length = ty.size := by simpa using hlen
    injection h with h
    subst h
    rw [hkk] at hk
    cases d <;> simp only [TK.okB, Bool.false_eq_true, Bool.and_eq_true, beq_iff_eq] at hk
    obtain ⟨rfl, rfl⟩ := hk
    obtain ⟨xs, q, rfl, _, hcl, hxl, hel⟩ := DataW.trod_array hd hx
    have hsz : P.cellsOf t = ty.size := by
     obtain ⟨i, z, h1, h2, _⟩ := hT.info
     rw [Program.cellsOf, h1]
     exact h2
    have hse : P.cellsOf e = te.size := by
     obtain ⟨i, z, h1, h2, _⟩ := (hX e te hte).info
     rw [Program.cellsOf, h1]
     exact h2
    obtain ⟨as, h1, h2⟩ := HZ (n := q) hX (fun t ss h => GK hX n t ss h) cs _ 0 l hl (fun f hf => by
     obtain ⟨i, hi, rfl⟩ := List.mem_map.1 hf
     have hi : i < m := by simpa using hi
     refine ⟨xs[i]'(by omega), ?_⟩
     have := hel i hi
     simp only [hse] at this ⊢
     rw [this]
     simp)
    refine ⟨as, h1, ?_⟩
    rw [List.drop_zero, List.take_of_length_le (by omega)] at h2
    exact h2
   ·cases h
  ·rename_i fs hkk
   simp only [Option.bind_eq_some_iff] at h
   obtain ⟨l, hl, h⟩ := h
   split at h
   ·rename_i hlen
    have hlen : l.length = ty.size := by simpa using hlen
    injection h with h
    subst h
    rw [hkk] at hk
    cases d <;> simp only [TK.okB, Bool.false_eq_true] at hk
    rename_i gs
    have hfs := Ky hk
    subst hfs
    have hsz : P.cellsOf t = ty.size := by
     obtain ⟨i, z, h1, h2, _⟩ := hT.info
     rw [Program.cellsOf, h1]
     exact h2
    obtain ⟨xs, q, rfl, _, hcl, hxl, hel⟩ := DataW.trod_struct hd hx
    obtain ⟨as, h1, h2⟩ := HZ (n := q) hX (fun t ss h => GK hX n t ss h) cs _ 0 l hl (fun f hf => by
     obtain ⟨fd, hfd, rfl⟩ := List.mem_map.1 hf
     obtain ⟨i, hi, hi2⟩ := List.getElem_of_mem hfd
     have hi' : i < gs.size := by simpa using hi
     refine ⟨xs[i]'(by omega), ?_⟩
     have := hel i fd (by rw [← hi2]; simp [hi'])
     rw [this]
     simp)
    refine ⟨as, h1, ?_⟩
    rw [List.drop_zero, List.take_of_length_le (by omega)] at h2
    exact h2
   ·cases h
  ·cases h
end
end Rx
