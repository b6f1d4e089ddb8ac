import Derived.Test.YtmpinegdphkbjaaDoorVXb
import Derived.OpenShut
import Derived.Deep.Slices
import Derived.KernelRfl
set_option linter.unusedVariables false
set_option linter.unusedSimpArgs false
namespace Rx
open Go Go.RowKit
section
variable {T : Nat → List A → Bool × List A} {e : Nat → A} {n n' : Nat} {loc loc' : Loc} {P : Program} {X : Ctx} {w0 : W0}
variable {fr : List SV} {rows : List Row} {gs : List (L × Bool)} {pc : L} {o : Oper} {g : G} {inl : Inline}
structure XOK (P : Program) (T : Nat → List A → Bool × List A) (X : Ctx) : Prop where
 Ax : Bj P X.Ax
 eqs : P8 P X.eqs
 ctr : Hx P T X.ctr
 fns : N6 P X.fns
 mixed : P.follows .mixedOrders = true
 big : Nt P T X.big
 muts : Pj P T X.muts := by exact Pk
theorem Tz (hX : XOK P T X) (hI : F0 P T e w0 inl) (o : Oper) : A0 P T e w0 fr rows gs pc o g (execOp X inl fr rows gs pc o g) := by
 have none_ : execOp X inl fr rows gs pc o g = none → A0 P T e w0 fr rows gs pc o g (execOp X inl fr rows gs pc o g) := fun h => by rw [h]; trivial
 cases h : o.op with
 | move x => exact P7 (.inl h)
 | assign x => exact P7 (.inr h)
 | pick c a b => exact S3 h
 | alloc t => exact R0 hX.Ax h
 | box t x => exact TO hX.Ax h
 | build t ps => exact RZ hX.Ax h
 | buildSlice t n ps =>
  by_cases hn : n = 0
  ·subst hn; exact Kk hX.Ax h
  ·exact Lm hX.Ax hn h
 | load t a => exact S6 hX.Ax h
 | store t a x => exact R2 hX.Ax h
 | nilCheck x => exact NY h
 | binOp op t x y yt => exact RV hX.Ax hX.eqs h
 | unOp op t x => exact S4 h
 | convert s d x => exact Pf hX.Ax h
 | makeFunc f a b =>
  cases f with
  | func f => exact N1 h
  | _ => exact none_ (by simp [execOp, h])
 | makeSlice t x y => exact Nn hX.Ax h
 | panic x => exact RX h
 | makeInterface t x => exact II hX.Ax h
 | slice t x lo hi mx =>
  cases mx with
  | none => exact R5 hX.Ax h
  | some _ => exact none_ (by simp [execOp, h])
 | fieldAddr s x f => exact Nj hX.Ax h
 | field t x f => exact RW hX.Ax h
 | indexAddr t x i => exact Nk hX.Ax h
 | index t x i => exact RY hX.Ax h
 | extract x i => exact Pa h
 | call c => exact S9 hX.Ax hX.ctr hX.fns hI h
 | _ => exact none_ (by simp [execOp, h])
def Fh : Value → Option Bool
 | .bool b => some b
 | _ => none
theorem Pm {ops : List Oper} {tm : Array Value} {j : Nat} {oj : Oper} {d : Nat} {s : SV} (h1 : ops[j]? = some oj) (h2 : oj.dst = some d) (h3 : fr[d]? = some s) (hf : Am e n loc fr tm) :
  ∃ v, s.rel e n loc v ∧ yielded ops.toArray tm j = Fh v := by
 obtain ⟨v, hv, _, hr⟩ := hf.get h3
 refine ⟨v, hr, ?_⟩
 have h1' : ops.toArray[j]? = some oj := by simpa using h1
 unfold yielded
 rw [h1']
 simp only [Option.bind_some, h2, hv]
 cases v <;> rfl
theorem BM {ops : List Oper} {tm : Array Value} {r : Option (List (L × Bool))} (h : MY fr ops o = some r) (hf : Am e n loc fr tm) :
  match r with
  | none => Region.wanted o (yielded ops.toArray tm) = false
  | some gs => (Region.wanted o (yielded ops.toArray tm) = true ↔ Holds e gs) := by
 unfold MY at h
 cases hg : o.guard with
 | none =>
  rw [hg] at h
  injection h with h
  subst h
  simp only [Region.wanted, hg, true_iff]
  intro x hx
  cases hx
 | some jw =>
  obtain ⟨j, want⟩ := jw
  rw [hg] at h
  simp only [Option.bind_eq_bind, Option.bind_eq_some_iff] at h
  obtain ⟨oj, hoj, d, hd, s, hs, h⟩ := h
  obtain ⟨v, hv, hy⟩ := Pm hoj hd hs hf
  have hwt : Region.wanted o (yielded ops.toArray tm) = (Fh v == some want) := by
   simp only [Region.wanted, hg, hy]
  rw [hwt]
  split at h
  ·injection h with h
   subst h
   simp only [SV.rel] at hv
   subst hv
   rfl
  ·rename_i b
   injection h with h
   have := DN (x := .t b) hv
   subst this
   subst h
   simp only [L.Db, A.AX]
   cases b <;> cases want <;> simp [Holds, Fh]
  ·rename_i x _
   injection h with h
   have := DN hv
   subst this
   subst h
   simp [Holds, Fh]
  ·rename_i gs b
   by_cases hh : Holds e gs
   ·have := DN (x := .t b) (hv.1 hh)
    subst this
    simp only [L.Db, A.AX]
    split at h
    ·rename_i hb
     injection h with h
     subst h
     have hb : b = want := by simpa using hb
     subst hb
     simp [hh, Fh]
    ·rename_i hb
     injection h with h
     subst h
     simpa [Fh] using hb
   ·have := hv.2 hh
    subst this
    split at h
    ·injection h with h
     subst h
     simp [hh, Go.undef, Fh]
    ·injection h with h
     subst h
     rfl
  ·rename_i gs x _
   injection h with h
   subst h
   by_cases hh : Holds e gs
   ·have := DN (hv.1 hh)
    subst this
    simp only
    constructor
    ·intro h1
     exact Hs (by simpa [Fh] using h1) hh
    ·intro h1
     simpa [Fh] using h1 (x, want) (by simp)
   ·have := hv.2 hh
    subst this
    constructor
    ·intro h1
     cases h1
    ·intro h1
     exact absurd (fun y hy => h1 y (List.mem_cons_of_mem _ hy)) hh
  ·cases h
theorem ET {v v' : SV} {u : Value} (h : RF gs v = some v') (hv : Holds e gs → v.rel e n loc u) (hu : ¬ Holds e gs → u = Go.undef) : v'.rel e n loc u := by
 unfold RF at h
 split at h
 ·injection h with h
  subst h
  exact hv (fun x hx => by cases hx)
 ·injection h with h
  subst h
  exact ⟨hv, hu⟩
 ·cases h
theorem Nu {p : L} {r r' : Row} {g g' : G} (h : MZ p r g = some (r', g')) (hg : Good T e g') :
  Good T e g ∧ (∃ ss z m, r' = Bb ss z m) ∧ ((p.ev e).bool = true → J8 e r r') ∧ ((p.ev e).bool = false → ∀ M, Dt e M r' (.slice none 0 0)) := by
 unfold MZ at h
 split at h
 ·rename_i q hq
  split at h
  ·cases h
  ·rename_i hc
   simp only [Bool.or_eq_true, Bool.not_eq_true', beq_iff_eq, bne_iff_ne, ne_eq, not_or, Bool.not_eq_true, Bool.not_eq_false, Decidable.not_not] at hc
   obtain ⟨⟨⟨⟨c1, c2⟩, c3⟩, c4⟩, c5⟩ := hc
   simp only [Option.some.injEq, Prod.mk.injEq] at h
   obtain ⟨rfl, rfl⟩ := h
   have m1 := Co hg
   have m2 := FP m1.1
   refine ⟨m2.1, ⟨_, _, _, rfl⟩, fun hp => ⟨fun h => by simp [Bb] at h, fun _ _ => rfl, fun p' hp' => ?_, fun n loc w B s _ => ?_⟩, fun hp M => ?_⟩
   ·simp only [Bb, Option.some.injEq] at hp'
    subst hp'
    exact ⟨q, hq, c3.symm, c5.symm, rfl, by rw [m2.2]; simp [hp], by rw [m1.2]; simp [hp]⟩
   ·unfold Au; simp [Bb]
   ·exact ⟨rfl, rfl, _, [], 0, rfl, rfl, Nat.pos_of_ne_zero c4, by rw [m2.2]; simp [hp], by simp, by rw [m1.2]; simp [hp], .emp⟩
 ·cases h
theorem GZ {p : L} : ∀ {l l' : List Row} {g g' : G}, FM p l g = some (l', g') → Good T e g' →
  Good T e g ∧ l'.length = l.length ∧ ∀ (t : Nat) x', l'[t]? = some x' → (∃ ss z m, x' = Bb ss z m) ∧ ((p.ev e).bool = true → ∃ x, l[t]? = some x ∧ J8 e x x') ∧ ((p.ev e).bool = false → ∀ M, Dt e M x' (.slice none 0 0))
 | [], l', g, g', h, hg => by
  simp only [FM, Option.some.injEq, Prod.mk.injEq] at h
  obtain ⟨rfl, rfl⟩ := h
  exact ⟨hg, rfl, fun t x' h => by simp at h⟩
 | r :: l, l', g, g', h, hg => by
  simp only [FM, Option.bind_eq_bind, Option.bind_eq_some_iff, Option.some.injEq, Prod.mk.injEq] at h
  obtain ⟨⟨r', g1⟩, h1, ⟨l1, g2⟩, h2, rfl, rfl⟩ := h
  obtain ⟨k1, k2, k3⟩ := GZ h2 hg
  obtain ⟨j1, j2⟩ := Nu h1 k1
  refine ⟨j1, by simp [k2], fun t x' ht => ?_⟩
  cases t with
  | zero =>
   simp only [List.getElem?_cons_zero, Option.some.injEq] at ht
   subst ht
   exact ⟨j2.1, fun hp => ⟨r, rfl, j2.2.1 hp⟩, j2.2.2⟩
  | succ t => simpa using k3 t x' (by simpa using ht)
section
variable {news : List Row} {w : World} {B : Bd} {N : Nat}
theorem Mf (hf : ∀ (t : Nat) x, news[t]? = some x → ∃ ss z m, x = Bb ss z m) (hR : Ad e loc (rows ++ news) w B) {k : K} {v : Value} (hk : k.rel e N loc v) : (L0 rows.length news k).rel e N loc v := by
 unfold L0
 split
 ·rename_i r n
  split
  ·exact hk
  ·rename_i hr
   split
   ·rename_i row hrow
    split
    ·rename_i q hq
     obtain ⟨ss, z, m, rfl⟩ := hf _ _ hrow
     simp only [Bb, Option.some.injEq] at hq
     subst hq
     have hrow' : (rows ++ news)[r]? = some (Bb ss z m) := by rw [List.getElem?_append_right (by omega)]; exact hrow
     obtain ⟨as, m', _, _, l3, _, l5⟩ := (hR.lst r _ _ hrow' rfl).2
     rw [if_neg (by simp)] at l5
     obtain ⟨⟨a, c, g1, _⟩, _⟩ := l5
     obtain ⟨h1, h2, h3⟩ := hk
     refine ⟨⟨h1.1, by rw [l3]; omega, a, c, by rw [l3]; simpa using g1⟩, h2, .inr ?_⟩
     rcases h3 with h3 | h3
     ·cases h3
     ·exact h3
    ·exact K.BI hk
   ·exact K.BI hk
 ·exact hk
theorem Hz (hf : ∀ (t : Nat) x, news[t]? = some x → ∃ ss z m, x = Bb ss z m) (hR : Ad e loc (rows ++ news) w B) : ∀ {l : List K} {vs : List Value}, Cc e N loc l vs → Cc e N loc (l.map (L0 rows.length news)) vs
 | [], [], _ => trivial
 | _ :: _, _ :: _, h => ⟨Mf hf hR h.1, Hz hf hR h.2⟩
theorem Mg (hf : ∀ (t : Nat) x, news[t]? = some x → ∃ ss z m, x = Bb ss z m) (hR : Ad e loc (rows ++ news) w B) {c : C} {v : Value} (hk : c.rel e N loc v) : (PY rows.length news c).rel e N loc v := by
 cases c with
 | k x => exact Mf hf hR hk
 | clo f a b =>
  obtain ⟨va, vb, h1, h2, h3⟩ := hk
  exact ⟨va, vb, h1, Hz hf hR h2, Hz hf hR h3⟩
 | cfn x f h => exact hk
theorem Kq (hf : ∀ (t : Nat) x, news[t]? = some x → ∃ ss z m, x = Bb ss z m) (hR : Ad e loc (rows ++ news) w B) : ∀ {l : List C} {vs : List Value}, Ag e N loc l vs → Ag e N loc (l.map (PY rows.length news)) vs
 | [], [], _ => trivial
 | _ :: _, _ :: _, h => ⟨Mg hf hR h.1, Kq hf hR h.2⟩
theorem Pn (hf : ∀ (t : Nat) x, news[t]? = some x → ∃ ss z m, x = Bb ss z m) (hR : Ad e loc (rows ++ news) w B) {p : PV} {v : Value} (hk : p.rel e N loc v) : (RG rows.length news p).rel e N loc v := by
 cases p with
 | one c => exact Mg hf hR hk
 | agg l => obtain ⟨vs, h1, h2⟩ := hk; exact ⟨vs, h1, Kq hf hR h2⟩
end
theorem HA : ∀ {a b : List C}, Hc a b = true → a = b
 | [], [], _ => rfl
 | [], _ :: _, h => by simp [Hc] at h
 | _ :: _, [], h => by simp [Hc] at h
 | a :: l, b :: m, h => by
  simp only [Hc, Bool.and_eq_true] at h
  rw [C.Ae h.1, HA h.2]
theorem Kr : ∀ {a b : Option EZ}, Gs a b = true → a = b
 | none, none, _ => rfl
 | none, some _, h => by simp [Gs] at h
 | some _, none, h => by simp [Gs] at h
 | some ⟨a1, a2, a3, a4, a5⟩, some ⟨b1, b2, b3, b4, b5⟩, h => by
  simp only [Gs, Bool.and_eq_true, beq_iff_eq] at h
  obtain ⟨⟨⟨⟨h1, h2⟩, h3⟩, h4⟩, h5⟩ := h
  rw [h1, h2, Bw h3, L.Ae h4, L.Ae h5]
theorem D7 : ∀ {a b : List Row}, C1 a b = true → a = b
 | [], [], _ => rfl
 | [], _ :: _, h => by simp [C1] at h
 | _ :: _, [], h => by simp [C1] at h
 | ⟨a1, a2, a3, a4, a5⟩ :: l, ⟨b1, b2, b3, b4, b5⟩ :: m, h => by
  simp only [C1, Bool.and_eq_true, beq_iff_eq] at h
  obtain ⟨⟨⟨⟨⟨h1, h2⟩, h3⟩, h4⟩, h6⟩, h5⟩ := h
  rw [h1, h2, h3, HA h4, Kr h6, D7 h5]
theorem QN {v : SV} {rows' : List Row} {g' : G} (hl : J1 o = true) (h : execOp X inl fr rows gs pc o g = some (v, some rows', g')) : ∃ news, rows' = rows ++ news := by
 obtain ⟨dst, op', ty, pos, after, guard⟩ := o
 unfold J1 at hl
 simp only at hl
 split at hl
 ·rename_i t x
  simp only [execOp, Option.bind_eq_bind, Option.bind_eq_some_iff] at h
  obtain ⟨ty', _, p, _, h⟩ := h
  unfold Rz at h
  split at h
  ·simp only [Option.bind_eq_bind, Option.bind_eq_some_iff] at h
   obtain ⟨_, _, _, _, h⟩ := h
   split at h
   ·cases h
   ·simp only [Option.bind_eq_some_iff, one, Option.some.injEq, Prod.mk.injEq] at h
    obtain ⟨_, _, _, h, _⟩ := h
    cases h
  ·simp only [Option.bind_eq_bind, Option.bind_eq_some_iff, one, Option.some.injEq, Prod.mk.injEq] at h
   obtain ⟨_, _, _, _, _, _, _, h, _⟩ := h
   cases h
  ·simp only [Option.bind_eq_bind, Option.bind_eq_some_iff] at h
   obtain ⟨_, _, _, _, h⟩ := h
   split at h
   ·cases h
   ·simp only [Option.bind_eq_some_iff] at h
    obtain ⟨⟨cs, news, g2⟩, _, vv, _, h⟩ := h
    simp only at h
    split at h
    ·simp only [one, Option.some.injEq, Prod.mk.injEq] at h
     obtain ⟨_, h, _⟩ := h
     cases h
    ·simp only [Option.some.injEq, Prod.mk.injEq] at h
     exact ⟨news, h.2.1.symm⟩
  ·cases h
 ·rename_i t x lo hi mx
  cases mx with
  | some => simp [execOp] at h
  | none =>
   simp only [execOp, Option.bind_eq_bind, Option.bind_eq_some_iff] at h
   obtain ⟨ty', _, p, _, l', _, h', _, h⟩ := h
   split at h
   ·simp only [Option.bind_eq_some_iff] at h
    obtain ⟨_, _, h⟩ := h
    unfold MX at h
    split at h
    ·simp only [Option.bind_eq_bind, Option.bind_eq_some_iff] at h
     obtain ⟨_, _, _, _, h⟩ := h
     split at h
     ·simp [one] at h
     ·cases h
    ·cases h
   ·simp only [Option.bind_eq_some_iff] at h
    obtain ⟨_, _, h⟩ := h
    exact N5 h
   ·cases h
 ·cases hl
theorem Ad.pad {rows : List Row} {w : World} {B : Bd} (h : Ad e loc rows w B) (R : Nat) : Ad e loc (Aq rows R) w B := by
 have split_ : ∀ (s : Nat) (y : Row), (Aq rows R)[s]? = some y → rows[s]? = some y ∨ y = Row.dead := fun s y hs => by
  unfold Aq at hs
  rw [List.getElem?_append] at hs
  split at hs
  ·exact .inl hs
  ·have := List.mem_of_getElem? hs
   rw [List.mem_replicate] at this
   exact .inr this.2
 have own_ : ∀ (s : Nat) (y : Row), (Aq rows R)[s]? = some y → (y.own = true ∨ y.lst ≠ none) → rows[s]? = some y := fun s y hs hy => by
  rcases split_ s y hs with h1 | rfl
  ·exact h1
  ·simp [Row.dead] at hy
 refine ⟨fun s y hs => ?_, fun s y q hs hq => h.lst s y q (own_ s y hs (.inr (by simp [hq]))) hq, fun s t x y hs ht ox oy => ?_, fun s t x y hs ht ox oy hne => h.apart s t x y (own_ s x hs (.inl ox)) (own_ t y ht (.inl oy)) ox oy hne⟩
 ·rcases split_ s y hs with h1 | rfl
  ·exact (h.row s y h1).ext (Ab h1) (Ay.refl _ _) (by simp [Aq])
  ·exact Row.Na
 ·obtain ⟨q, q1, q2, q3⟩ := ox
  refine h.lapart s t x y (own_ s x hs (.inr (by simp [q1]))) (own_ t y ht ?_) ⟨q, q1, q2, q3⟩ oy
  rcases oy with oy | ⟨⟨p, p1, _⟩, _⟩
  ·exact .inl oy
  ·exact .inr (by simp [p1])
theorem Lv {v0 v : SV} {rows1 rows' : List Row} {g1 g' : G} (h : M0 rows rows1 gs v0 g1 = some (v, rows', g')) (hg : Good T e g') :
  Good T e g1 ∧ rows.length ≤ rows'.length ∧
  (Holds e gs → ∀ (loc : Loc) (w : World) u, v0.rel e rows1.length loc u → AV e w0 loc rows1 w → ∃ loc', Ay rows.length loc loc' ∧ v.rel e rows'.length loc' u ∧ AV e w0 loc' rows' w) ∧
  (¬ Holds e gs → ∀ (loc : Loc) (w : World), AV e w0 loc rows w → ∃ loc', Ay rows.length loc loc' ∧ v.rel e rows'.length loc' Go.undef ∧ AV e w0 loc' rows' w) := by
 unfold M0 at h
 split at h
 ·rename_i r m
  split at h
  ·cases h
  rename_i hc
  simp only [Bool.or_eq_true, bne_iff_ne, ne_eq, Bool.not_eq_true', not_or, Decidable.not_not, Bool.not_eq_false] at hc
  obtain ⟨⟨rfl, c2⟩, c3⟩ := hc
  have c2 := D7 c2
  split at h
  ·cases h
  rename_i row hrow
  split at h
  ·cases h
  rename_i hd
  simp only [Bool.or_eq_true, bne_iff_ne, ne_eq, Bool.not_eq_true', not_or, Decidable.not_not, Bool.not_eq_false] at hd
  obtain ⟨⟨d1, d2⟩, d3⟩ := hd
  split at h
  ·cases h
  rename_i xs hxs
  simp only [Option.some.injEq, Prod.mk.injEq] at h
  obtain ⟨rfl, rfl, rfl⟩ := h
  have q1 := Co hg
  have q2 := FP q1.1
  have q3 := Bn q2.1
  have q4 := Af q3.1
  have ez := q4.2 (.l (xs.map (L.ev e))) (by simp [D.ev])
  have hrows1 : rows1 = rows ++ [row] := by
   apply List.ext_getElem?
   intro i
   by_cases hi : i < rows.length
   ·rw [List.getElem?_append_left hi]
    conv => rhs; rw [c2]
    rw [List.getElem?_take_of_lt hi]
   ·by_cases hi2 : i = rows.length
    ·subst hi2
     rw [hrow]
     simp
    ·rw [List.getElem?_eq_none (by omega), List.getElem?_eq_none (by simp; omega)]
  clear c2
  subst hrows1
  refine ⟨q4.1, by simp, fun hh loc w u hu hcl => ?_, fun hh loc w hcl => ?_⟩
  ·have hp := q3.2.2 ⟨rfl, hh⟩
   obtain ⟨B, ⟨b1, b2, b3⟩, hR, hbel⟩ := hcl
   have hown := hR.row rows.length row (by simp)
   unfold Au at hown
   rw [if_pos d1] at hown
   obtain ⟨o1, o2, o3, o4, vs, sp, o5, o6, o7⟩ := hown
   obtain ⟨_, hu⟩ := CT hu
   have hK := hR.kill rows.length
   have hset : (rows ++ [row]).set rows.length Row.dead = rows ++ [Row.dead] := by simp
   rw [hset] at hK
   obtain ⟨x1, x2⟩ := IP hxs o6
   have hW := hK.NV (F := fun k => B.F k ∨ k = (loc rows.length).blk) (fun k hk => .inl hk) (fun s z hs hz hF => by
    have hs2 : s < rows.length ∧ rows[s]? = some z := by
     rw [List.getElem?_append] at hs
     split at hs
     ·exact ⟨by assumption, hs⟩
     ·rename_i hge
      have : z = Row.dead := by
       have := List.mem_of_getElem? hs
       simpa using this
      subst this
      rcases hz with hz | ⟨q, hq, _⟩
      ·simp [Row.dead] at hz
      ·simp [Row.dead] at hq
    have hs3 : (rows ++ [row])[s]? = some z := by rw [List.getElem?_append_left hs2.1]; exact hs2.2
    have hr3 : (rows ++ [row])[rows.length]? = some row := by simp
    rcases hF with hF | hF
    ·rcases hz with hz | hz
     ·have := hR.row s z hs3
      unfold Au at this
      rw [if_pos hz] at this
      exact this.2.2.1.2 hF
     ·exact (hR.NU hs3 hz).2.2 hF
    ·rcases hz with hz | hz
     ·exact hR.apart s rows.length z row hs3 hr3 hz d1 (by omega) hF
     ·exact hR.lapart s rows.length z row hs3 hr3 hz (.inl d1) hF)
   have hvl : vs.length = m := by rw [x2, List.length_map, x1, d3]
   have hF : Dt e (BO ⟨B.n, fun k => B.F k ∨ k = (loc rows.length).blk⟩ w) (Bb [.int (RC row.cells)] (Ej (AG (.t true) gs (g1.push .mkl xs).2).1 (g1.push .mkl xs).1 .e (AG (.t true) gs (g1.push .mkl xs).2).2).1
     (DG (AG (.t true) gs (g1.push .mkl xs).2).1 (.n m) (.n 0) (Ej (AG (.t true) gs (g1.push .mkl xs).2).1 (g1.push .mkl xs).1 .e (AG (.t true) gs (g1.push .mkl xs).2).2).2).1) u := by
    refine ⟨rfl, rfl, _, xs.map (L.ev e), m, rfl, rfl, Nat.one_pos, by rw [q2.2, hp]; exact ez, by rw [List.length_map, x1, d3]; exact (Nat.mul_one m).symm, by rw [q1.2, hp]; rfl, ?_⟩
    rw [hu]
    refine EH.sl (us := vs) (by rw [d2, Nat.mul_one, List.length_append, hvl] at o7; omega) Nat.one_pos (by rw [List.length_map, x1, d3]; exact (Nat.mul_one m).symm) (by rw [List.length_map, hvl, x1, d3]) (fun j v hj => ?_) fun j s a v h1 h2 h3 => ?_
    ·refine CS ?_ (.inr rfl)
     simp only [World.cell?, o5, o1, Nat.zero_mul, Nat.zero_add]
     have hjl := Ab hj
     simp only [Option.isSome_none, Bool.false_eq_true, if_false]
     rw [List.getElem?_toArray, List.getElem?_append_left hjl]
     exact hj
    ·simp only [List.length_cons, List.length_nil, Nat.zero_add, Nat.mod_one, List.getElem?_cons_zero, Option.some.injEq] at h1
     subst h1
     rw [x2, List.getElem?_map] at h3
     rw [List.getElem?_map] at h2
     cases hx : xs[j]? with
     | none => rw [hx] at h2; cases h2
     | some x =>
      rw [hx] at h2 h3
      simp only [Option.map_some, Option.some.injEq] at h2 h3
      subst h2 h3
      exact EH.sc rfl
   have hlen : (rows ++ [Row.dead]).length = rows.length + 1 := by simp
   have hadd := hW.Kf (news := [Bb [.int (RC row.cells)] _ _]) (vs := [u]) fun t x ht => by
    cases t with
    | zero =>
     simp only [List.getElem?_cons_zero, Option.some.injEq] at ht
     subst ht
     exact ⟨u, rfl, hF⟩
    | succ t => simp at ht
   rw [hlen] at hadd
   have hat := CL loc (rows.length + 1) [u] (t := 0) rfl
   rw [Nat.add_zero] at hat
   refine ⟨BP loc (rows.length + 1) [u], fun r hr => BB loc (rows.length + 1) [u] r (Nat.lt_succ_of_lt hr), ⟨fun _ => ?_, fun h0 => absurd hh h0⟩, ⟨B.n, fun k => B.F k ∨ k = (loc rows.length).blk⟩, ⟨b1, ?_, ?_⟩, hadd, hbel⟩
   ·refine ⟨⟨by simp, by rw [q1.2, hp]; exact Int.natCast_nonneg _, ?_⟩, by rw [hu]; rfl, .inr ?_⟩
    ·rw [hat, BY, q1.2, hp, hu]
     exact ⟨_, _, rfl⟩
    ·show _ = (BP loc (rows.length + 1) [u] (rows.length + 1)).v
     rw [hat, BY]
   ·intro k hk
    rcases hk with hk | hk
    ·exact b2 k hk
    ·exact .inr (hk ▸ o3.1)
   ·refine ⟨b3.1, fun k hk => ?_⟩
    rcases hk with hk | hk
    ·exact b3.2 k hk
    ·exact hk ▸ D1 o5
  ·have hp : ((AG (.t true) gs (g1.push .mkl xs).2).1.ev e).bool = false := by
    cases hb : ((AG (.t true) gs (g1.push .mkl xs).2).1.ev e).bool
    ·rfl
    ·exact absurd (q3.2.1 hb).2 hh
   obtain ⟨B, hB, hR, hbel⟩ := hcl
   have hpd := hR.pad (rows.length + 1)
   have hpe : Aq rows (rows.length + 1) = rows ++ [Row.dead] := by
    unfold Aq
    rw [show rows.length + 1 - rows.length = 1 by omega]
    rfl
   rw [hpe] at hpd
   have hlen : (rows ++ [Row.dead]).length = rows.length + 1 := by simp
   have hadd := hpd.Kf (news := [Bb [.int (RC row.cells)] (Ej (AG (.t true) gs (g1.push .mkl xs).2).1 (g1.push .mkl xs).1 .e (AG (.t true) gs (g1.push .mkl xs).2).2).1
     (DG (AG (.t true) gs (g1.push .mkl xs).2).1 (.n m) (.n 0) (Ej (AG (.t true) gs (g1.push .mkl xs).2).1 (g1.push .mkl xs).1 .e (AG (.t true) gs (g1.push .mkl xs).2).2).2).1]) (vs := [.slice none 0 0]) fun t x ht => by
    cases t with
    | zero =>
     simp only [List.getElem?_cons_zero, Option.some.injEq] at ht
     subst ht
     refine ⟨_, rfl, rfl, rfl, _, [], 0, rfl, rfl, Nat.one_pos, by rw [q2.2, hp]; rfl, rfl, by rw [q1.2, hp]; rfl, EH.emp⟩
    | succ t => simp at ht
   rw [hlen] at hadd
   exact ⟨BP loc (rows.length + 1) [.slice none 0 0], fun r hr => BB loc (rows.length + 1) [.slice none 0 0] r (Nat.lt_succ_of_lt hr), ⟨fun h0 => absurd h0 hh, fun _ => rfl⟩, B, hB, hadd, hbel⟩
 ·cases h
theorem Po {v0 v : SV} {rows1 rows' : List Row} {g1 g' : G} (hld : J1 o = true → ∃ news, rows1 = rows ++ news) (h : M1 rows rows1 gs o v0 g1 = some (v, rows', g')) (hg : Good T e g') :
  Good T e g1 ∧ rows.length ≤ rows'.length ∧
  (Holds e gs → ∀ (loc : Loc) (w : World) u, v0.rel e rows1.length loc u → AV e w0 loc rows1 w → ∃ loc', Ay rows.length loc loc' ∧ v.rel e rows'.length loc' u ∧ AV e w0 loc' rows' w) ∧
  (¬ Holds e gs → ∀ (loc : Loc) (w : World), AV e w0 loc rows w → ∃ loc', Ay rows.length loc loc' ∧ v.rel e rows'.length loc' Go.undef ∧ AV e w0 loc' rows' w) := by
 unfold M1 at h
 split at h
 ·rename_i hl
  obtain ⟨news, rfl⟩ := hld hl
  split at h
  ·rename_i p
   simp only [Option.bind_eq_bind, Option.bind_eq_some_iff, Option.some.injEq, Prod.mk.injEq, List.drop_left] at h
   obtain ⟨⟨news', g2⟩, hc, rfl, rfl, rfl⟩ := h
   obtain ⟨k1, k2, k3⟩ := GZ hc hg
   have hq := Bn k1
   have hf : ∀ (t : Nat) x, news'[t]? = some x → ∃ ss z m, x = Bb ss z m := fun t x ht => (k3 t x ht).1
   refine ⟨hq.1, by simp, fun hh loc w u hu hcl => ?_, fun hh loc w hcl => ?_⟩
   ·have hp : ((AG (.t true) gs g1).1.ev e).bool = true := hq.2.2 ⟨rfl, hh⟩
    obtain ⟨B, hB, hR, hbel⟩ := hcl
    have hR' : Ad e loc (rows ++ news') w B := hR.P6 (by simp [k2]) fun r x' hx => by
     by_cases hr : r < rows.length
     ·rw [List.getElem?_append_left hr] at hx
      exact .inr ⟨x', by rw [List.getElem?_append_left hr]; exact hx, J8.refl x'⟩
     ·rw [List.getElem?_append_right (by omega)] at hx
      obtain ⟨x, h1, h2⟩ := (k3 _ _ hx).2.1 hp
      exact .inr ⟨x, by rw [List.getElem?_append_right (by omega)]; exact h1, h2⟩
    have hlen : (rows ++ news').length = (rows ++ news).length := by simp [k2]
    refine ⟨loc, Ay.refl _ _, ⟨fun _ => ?_, fun h0 => absurd hh h0⟩, B, hB, hR', hbel⟩
    rw [hlen]
    exact Pn hf hR' hu
   ·have hp : ((AG (.t true) gs g1).1.ev e).bool = false := by
     cases hb : ((AG (.t true) gs g1).1.ev e).bool
     ·rfl
     ·exact absurd (hq.2.1 hb).2 hh
    obtain ⟨B, hB, hR, hbel⟩ := hcl
    have hadd := hR.Kf (news := news') (vs := List.replicate news'.length (.slice none 0 0)) fun t x hx => ⟨.slice none 0 0, by
     rw [List.getElem?_replicate, if_pos (Ab hx)], (k3 t x hx).2.2 hp _⟩
    exact ⟨_, BB _ _ _, ⟨fun h0 => absurd h0 hh, fun _ => rfl⟩, B, hB, hadd, hbel⟩
  ·cases h
 ·split at h
  ·rename_i hs
   have hs := D7 hs
   subst hs
   split at h
   ·simp only [Option.some.injEq, Prod.mk.injEq] at h
    obtain ⟨rfl, rfl, rfl⟩ := h
    exact ⟨hg, Nat.le_refl _, fun hh loc w u hu hcl => ⟨loc, Ay.refl _ _, ⟨fun _ => hu, fun h0 => absurd hh h0⟩, hcl⟩, fun hh loc w hcl => ⟨loc, Ay.refl _ _, ⟨fun h0 => absurd h0 hh, fun _ => rfl⟩, hcl⟩⟩
   ·cases h
  ·exact Lv h hg
theorem CU (hX : XOK P T X) (hI : F0 P T e w0 inl) {ops : List Oper} : ∀ {l : List Oper} {fr : List SV} {rows : List Row} {g : G} {fr' : List SV} {rows' : List Row} {g' : G},
  Bt X inl true ops pc l fr rows g = some (fr', rows', g') → Good T e g' → Good T e g ∧ rows' = rows ∧
   ∀ (loc : Loc) (a : Act) (w1 : World) (Q : Act → Prop), (pc.ev e).bool = true → Am e rows.length loc fr a.tmps → AV e w0 loc rows w1 →
    (∀ a' : Act, Am e rows.length loc fr' a'.tmps → a'.defers = a.defers → Q a') → wpQuiet P ops.toArray (AV e w0 loc rows) Q l a
 | [], fr, rows, g, fr', rows', g', h, hg => by
  simp only [Bt, Option.some.injEq, Prod.mk.injEq] at h
  obtain ⟨rfl, rfl, rfl⟩ := h
  exact ⟨hg, rfl, fun loc a w1 Q _ hf _ hQ => hQ a hf rfl⟩
 | o :: l, fr, rows, g, fr', rows', g', h, hg => by
  simp only [Bt, Option.bind_eq_bind, Option.bind_eq_some_iff] at h
  obtain ⟨wt, hwt, h⟩ := h
  cases wt with
  | none =>
   simp only at h
   obtain ⟨h1, h2, h3⟩ := CU hX hI h hg
   refine ⟨h1, h2, fun loc a w1 Q hpc hf hw1 hQ => ?_⟩
   have := BM hwt hf
   simp only at this
   unfold wpQuiet
   rw [if_neg (by rw [this]; simp)]
   exact h3 loc _ w1 Q hpc (hf.put (s := .undef) rfl o.dst) hw1 fun a' hf' hd => hQ a' hf' (by rw [hd]; cases o.dst <;> rfl)
  | some gs =>
   simp only [Option.bind_eq_some_iff] at h
   obtain ⟨⟨v, r, g1⟩, hop, h⟩ := h
   simp only [Option.bind_eq_some_iff] at h
   obtain ⟨v', hv', h⟩ := h
   cases r with
   | some rows1 => simp at h
   | none =>
    simp only at h
    obtain ⟨h1, h2, h3⟩ := CU hX hI h hg
    have hok := Tz (fr := fr) (rows := rows) (gs := gs) (pc := (AG pc gs g).1) (g := (AG pc gs g).2) hX hI o
    rw [hop] at hok
    obtain ⟨hg2, hq⟩ := hok h1
    have hgp := Bn hg2
    refine ⟨hgp.1, h2, fun loc a w1 Q hpc hf hw1 hQ => ?_⟩
    have hwanted := BM hwt hf
    simp only at hwanted
    unfold wpQuiet
    by_cases hh : Holds e gs
    ·rw [if_pos (hwanted.2 hh)]
     obtain ⟨u, hu, hdo⟩ := hq loc a w1 (hgp.2.2 ⟨hpc, hh⟩) hh hf hw1
     exact ⟨u, fun w hw => (hdo w hw).quietAt, h3 loc _ w1 Q hpc (hf.put (ET hv' (fun _ => hu) (fun h0 => absurd hh h0)) o.dst) hw1 fun a' hf' hd => hQ a' hf' (by rw [hd]; cases o.dst <;> rfl)⟩
    ·rw [if_neg (fun h0 => hh (hwanted.1 h0))]
     exact h3 loc _ w1 Q hpc (hf.put (ET hv' (fun h0 => absurd h0 hh) (fun _ => rfl)) o.dst) hw1 fun a' hf' hd => hQ a' hf' (by rw [hd]; cases o.dst <;> rfl)
theorem A3 (hX : XOK P T X) (hI : F0 P T e w0 inl) {ops : List Oper} : ∀ {l : List Oper} {fr : List SV} {rows : List Row} {g : G} {fr' : List SV} {rows' : List Row} {g' : G},
  Bt X inl false ops pc l fr rows g = some (fr', rows', g') → Good T e g' → Good T e g ∧
   ∀ (loc : Loc) (a : Act) (w : World) (Q : Exit → Act → World → Prop), (pc.ev e).bool = true → Am e rows.length loc fr a.tmps → AV e w0 loc rows w →
    (∀ (loc' : Loc) (a' : Act) (w' : World), Ay rows.length loc loc' → rows.length ≤ rows'.length → Am e rows'.length loc' fr' a'.tmps → a'.defers = a.defers → AV e w0 loc' rows' w' → Q .normal a' w') →
     wpList P ops.toArray Q l a w
 | [], fr, rows, g, fr', rows', g', h, hg => by
  simp only [Bt, Option.some.injEq, Prod.mk.injEq] at h
  obtain ⟨rfl, rfl, rfl⟩ := h
  exact ⟨hg, fun loc a w Q _ hf hw hQ => hQ loc a w (Ay.refl _ _) (Nat.le_refl _) hf rfl hw⟩
 | o :: l, fr, rows, g, fr', rows', g', h, hg => by
  simp only [Bt, Option.bind_eq_bind, Option.bind_eq_some_iff] at h
  obtain ⟨wt, hwt, h⟩ := h
  cases wt with
  | none =>
   simp only at h
   obtain ⟨h1, h3⟩ := A3 hX hI h hg
   refine ⟨h1, fun loc a w Q hpc hf hw hQ => ?_⟩
   have := BM hwt hf
   simp only at this
   unfold wpList
   rw [if_neg (by rw [this]; simp)]
   exact h3 loc _ w Q hpc (hf.put (s := .undef) rfl o.dst) hw fun loc' a' w' hx hl hf' hd hw' => hQ loc' a' w' hx hl hf' (by rw [hd]; cases o.dst <;> rfl) hw'
  | some gs =>
   simp only [Option.bind_eq_some_iff] at h
   obtain ⟨⟨v, r, g1⟩, hop, h⟩ := h
   simp only [Option.bind_eq_some_iff] at h
   obtain ⟨v', hv', h⟩ := h
   have hok := Tz (fr := fr) (rows := rows) (gs := gs) (pc := (AG pc gs g).1) (g := (AG pc gs g).2) hX hI o
   rw [hop] at hok
   cases r with
   | none =>
    simp only at h
    obtain ⟨h1, h3⟩ := A3 hX hI h hg
    obtain ⟨hg2, hq⟩ := hok h1
    have hgp := Bn hg2
    refine ⟨hgp.1, fun loc a w Q hpc hf hw hQ => ?_⟩
    have hwanted := BM hwt hf
    simp only at hwanted
    unfold wpList
    by_cases hh : Holds e gs
    ·rw [if_pos (hwanted.2 hh)]
     obtain ⟨u, hu, hdo⟩ := hq loc a w (hgp.2.2 ⟨hpc, hh⟩) hh hf hw
     refine .inl (((hdo w hw).U0 (R := fun u' w' => u' = u ∧ AV e w0 loc rows w') hw fun w' hw' => ⟨rfl, hw'⟩).wp ?_)
     rintro u' w' ⟨rfl, hw'⟩
     exact h3 loc _ w' Q hpc (hf.put (ET hv' (fun _ => hu) (fun h0 => absurd hh h0)) o.dst) hw' fun loc' a' w' hx hl hf' hd hw' => hQ loc' a' w' hx hl hf' (by rw [hd]; cases o.dst <;> rfl) hw'
    ·rw [if_neg (fun h0 => hh (hwanted.1 h0))]
     exact h3 loc _ w Q hpc (hf.put (ET hv' (fun h0 => absurd h0 hh) (fun _ => rfl)) o.dst) hw fun loc' a' w' hx hl hf' hd hw' => hQ loc' a' w' hx hl hf' (by rw [hd]; cases o.dst <;> rfl) hw'
   | some rows1 =>
    simp only [Bool.false_eq_true, if_false] at h
    split at h
    ·rename_i hge
     have hgs : gs = [] := by simpa using hge
     subst hgs
     have hhold : Holds e ([] : List (L × Bool)) := fun x hx => by cases hx
     obtain ⟨h1, h3⟩ := A3 hX hI h hg
     obtain ⟨hg2, hq⟩ := hok h1
     have hgp := Bn hg2
     refine ⟨hgp.1, fun loc a w Q hpc hf hw hQ => ?_⟩
     have hwanted := BM hwt hf
     simp only at hwanted
     unfold wpList
     rw [if_pos (hwanted.2 hhold)]
     refine .inl ((hq loc a w (hgp.2.2 ⟨hpc, hhold⟩) hhold hf hw).wp ?_)
     rintro u w' ⟨loc1, hx1, hl1, hu, hw1⟩
     have hv2 : v'.rel e rows1.length loc1 u := ET hv' (fun _ => hu) (fun h0 => absurd hhold h0)
     exact h3 loc1 _ w' Q hpc ((hf.ext hx1 hl1).put hv2 o.dst) hw1 fun loc' a' w' hx hl hf' hd hw' => hQ loc' a' w' (hx1.trans hx hl1) (Nat.le_trans hl1 hl) hf' (by rw [hd]; cases o.dst <;> rfl) hw'
    ·simp only [Option.bind_eq_some_iff] at h
     obtain ⟨⟨v2, rows2, g2⟩, hcalm, h⟩ := h
     simp only at h
     obtain ⟨h1, h3⟩ := A3 hX hI h hg
     have hld : J1 o = true → ∃ news, rows1 = rows ++ news := fun hl => QN hl hop
     obtain ⟨c1, c2, c3, c4⟩ := Po (w0 := w0) hld hcalm h1
     obtain ⟨hg2, hq⟩ := hok c1
     have hgp := Bn hg2
     refine ⟨hgp.1, fun loc a w Q hpc hf hw hQ => ?_⟩
     have hwanted := BM hwt hf
     simp only at hwanted
     unfold wpList
     by_cases hh : Holds e gs
     ·rw [if_pos (hwanted.2 hh)]
      refine .inl ((hq loc a w (hgp.2.2 ⟨hpc, hh⟩) hh hf hw).wp ?_)
      rintro u w' ⟨loc1, hx1, hl1, hu, hw1⟩
      obtain ⟨loc2, hx2, d3, d4⟩ := c3 hh loc1 w' u hu hw1
      have hx3 := hx1.trans hx2 (Nat.le_refl _)
      exact h3 loc2 _ w' Q hpc ((hf.ext hx3 c2).put d3 o.dst) d4 fun loc' a' w' hx hl hf' hd hw' => hQ loc' a' w' (hx3.trans hx c2) (Nat.le_trans c2 hl) hf' (by rw [hd]; cases o.dst <;> rfl) hw'
     ·rw [if_neg (fun h0 => hh (hwanted.1 h0))]
      obtain ⟨loc1, hx1, d3, d4⟩ := c4 hh loc w hw
      exact h3 loc1 _ w Q hpc ((hf.ext hx1 c2).put d3 o.dst) d4 fun loc' a' w' hx hl hf' hd hw' => hQ loc' a' w' (hx1.trans hx c2) (Nat.le_trans c2 hl) hf' (by rw [hd]; cases o.dst <;> rfl) hw'
end
end Rx
namespace Rx
open Go Go.RowKit
theorem Dw : ∀ {a b : List DF}, Cn a b = true → a = b
 | [], [], _ => rfl
 | [], _ :: _, h => by simp [Cn] at h
 | _ :: _, [], h => by simp [Cn] at h
 | ⟨a1, a2, a3⟩ :: l, ⟨b1, b2, b3⟩ :: m, h => by
  simp only [Cn, Bool.and_eq_true] at h
  obtain ⟨⟨⟨h1, h2⟩, h3⟩, h4⟩ := h
  rw [D.Ae h1, L.Cx h2, L.Cx h3, Dw h4]
theorem D8 : ∀ {a b : List Def}, C2 a b = true → a = b
 | [], [], _ => rfl
 | [], _ :: _, h => by simp [C2] at h
 | _ :: _, [], h => by simp [C2] at h
 | ⟨a1, a2, a3⟩ :: l, ⟨b1, b2, b3⟩ :: m, h => by
  simp only [C2, Bool.and_eq_true, beq_iff_eq, D.same, decide_eq_true_eq] at h
  obtain ⟨⟨⟨h1, h2⟩, h3⟩, h4⟩ := h
  rw [h1, h2, L.Cx h3, D8 h4]
theorem PV.Ae {a b : PV} (h : a.same b = true) : a = b := by
 cases a <;> cases b <;> simp [PV.same] at h
 ·rw [C.Ae h]
 ·rw [HA h]
theorem Ks : ∀ {a b : List PV}, Gt a b = true → a = b
 | [], [], _ => rfl
 | [], _ :: _, h => by simp [Gt] at h
 | _ :: _, [], h => by simp [Gt] at h
 | a :: l, b :: m, h => by
  simp only [Gt, Bool.and_eq_true] at h
  rw [PV.Ae h.1, Ks h.2]
theorem IQ : ∀ {a b : List (L × Bool)}, Hj a b = true → a = b
 | [], [], _ => rfl
 | [], _ :: _, h => by simp [Hj] at h
 | _ :: _, [], h => by simp [Hj] at h
 | (a, a') :: l, (b, b') :: m, h => by
  simp only [Hj, Bool.and_eq_true, beq_iff_eq] at h
  rw [L.Ae h.1.1, h.1.2, IQ h.2]
theorem SV.Ae {a b : SV} (h : a.same b = true) : a = b := by
 cases a <;> cases b <;> simp [SV.same] at h
 ·rw [PV.Ae h]
 ·rw [Ks h]
 ·rw [IQ h.1, PV.Ae h.2]
 ·rfl
 ·rfl
theorem Kt : ∀ {a b : List SV}, Gu a b = true → a = b
 | [], [], _ => rfl
 | [], _ :: _, h => by simp [Gu] at h
 | _ :: _, [], h => by simp [Gu] at h
 | a :: l, b :: m, h => by
  simp only [Gu, Bool.and_eq_true] at h
  rw [SV.Ae h.1, Kt h.2]
theorem Fi : ∀ {a b : List Bool}, DC a b = true → a = b
 | [], [], _ => rfl
 | [], _ :: _, h => by simp [DC] at h
 | _ :: _, [], h => by simp [DC] at h
 | a :: l, b :: m, h => by
  simp only [DC, Bool.and_eq_true, beq_iff_eq] at h
  rw [h.1, Fi h.2]
theorem Nd.Ae {a b : Nd} (hl : a.listed = b.listed) (h : a.same b = true) : a = b := by
 obtain ⟨a1, a2, a3, a4, a5, a6, a7⟩ := a
 obtain ⟨b1, b2, b3, b4, b5, b6, b7⟩ := b
 simp only [Nd.same, Bool.and_eq_true, beq_iff_eq] at h
 obtain ⟨⟨⟨⟨⟨h1, h2⟩, h3⟩, h4⟩, h5⟩, h6⟩ := h
 simp only at hl
 rw [hl, Kt h1, D7 h2, h3, D8 h4, L.Cx h5, Dw h6]
end Rx
namespace Rx
open Go Go.RowKit
section
variable {T : Nat → List A → Bool × List A} {e e1 : Nat → A} {n : Nat} {loc : Loc} {P : Program} {X : Ctx} {w0 : W0} {σ : Nat → L}
theorem GI (h : ∀ i, e1 i = (σ i).ev e) (x : L) : (B5 σ x).ev e = x.ev e1 := by
 cases x <;> simp [B5, L.ev, h]
theorem Oe (h : ∀ i, e1 i = (σ i).ev e) {k : K} {v : Value} : (QH σ k).rel e n loc v ↔ k.rel e1 n loc v := by
 cases k <;> simp [QH, K.rel, K.ok, K.AZ, GI h]
theorem Mh (h : ∀ i, e1 i = (σ i).ev e) : ∀ {l : List K} {vs : List Value}, Cc e n loc (l.map (QH σ)) vs ↔ Cc e1 n loc l vs
 | [], [] => by simp [Cc]
 | [], _ :: _ => by simp [Cc]
 | _ :: _, [] => by simp [Cc]
 | _ :: _, _ :: _ => by simp [Cc, Oe h, Mh h]
theorem H7 (h : ∀ i, e1 i = (σ i).ev e) {c : C} {v : Value} : (O0 σ c).rel e n loc v ↔ c.rel e1 n loc v := by
 cases c with
 | k x => exact Oe h
 | clo f a b => simp [O0, C.rel, Mh h]
 | cfn x f g => simp [O0, C.rel, GI h]
theorem IS (h : ∀ i, e1 i = (σ i).ev e) : ∀ {l : List C} {vs : List Value}, Ag e n loc (l.map (O0 σ)) vs ↔ Ag e1 n loc l vs
 | [], [] => by simp [Ag]
 | [], _ :: _ => by simp [Ag]
 | _ :: _, [] => by simp [Ag]
 | _ :: _, _ :: _ => by simp [Ag, H7 h, IS h]
theorem IT (h : ∀ i, e1 i = (σ i).ev e) {p : PV} {v : Value} : (L2 σ p).rel e n loc v ↔ p.rel e1 n loc v := by
 cases p with
 | one c => exact H7 h
 | agg l => simp [L2, PV.rel, IS h]
theorem Ku (h : ∀ i, e1 i = (σ i).ev e) : ∀ {l : List PV} {vs : List Value}, An e n loc (l.map (L2 σ)) vs ↔ An e1 n loc l vs
 | [], [] => by simp [An]
 | [], _ :: _ => by simp [An]
 | _ :: _, [] => by simp [An]
 | _ :: _, _ :: _ => by simp [An, IT h, Ku h]
theorem Mi (h : ∀ i, e1 i = (σ i).ev e) {s : SV} {v : Value} : (J4 σ s).rel e n loc v ↔ s.rel e1 n loc v := by
 cases s with
 | pv p => exact IT h
 | tup l => simp [J4, SV.rel, Ku h]
 | cond gs p =>
  have : Holds e (gs.map fun x => (B5 σ x.1, x.2)) ↔ Holds e1 gs := by
   unfold Holds
   constructor
   ·intro hh x hx
    have := hh (B5 σ x.1, x.2) (List.mem_map.2 ⟨x, hx, rfl⟩)
    simpa [GI h] using this
   ·intro hh x hx
    obtain ⟨y, hy, rfl⟩ := List.mem_map.1 hx
    simpa [GI h] using hh y hy
  simp [J4, SV.rel, IT h, this]
 | undef => simp [J4, SV.rel]
 | junk => simp [J4, SV.rel]
theorem EU (h : ∀ i, e1 i = (σ i).ev e) {fr : List SV} {tm : Array Value} : Am e n loc (fr.map (J4 σ)) tm ↔ Am e1 n loc fr tm := by
 constructor
 ·intro hh
  refine ⟨by simpa using hh.len, fun i s v hs hv => (Mi h).1 (hh.at_ i _ v (by rw [List.getElem?_map, hs]; rfl) hv)⟩
 ·intro hh
  refine ⟨by simpa using hh.len, fun i s v hs hv => ?_⟩
  rw [List.getElem?_map] at hs
  cases ht : fr[i]? with
  | none => rw [ht] at hs; cases hs
  | some t =>
   rw [ht] at hs
   simp only [Option.map_some, Option.some.injEq] at hs
   subst hs
   exact (Mi h).2 (hh.at_ i t v ht hv)
theorem Mj (h : ∀ i, e1 i = (σ i).ev e) {w : World} {B : Bd} {r : Nat} {x : Row} : Au e n loc w B r (DK σ x) ↔ Au e1 n loc w B r x := by
 unfold Au
 simp only [DK, IS h, List.map_eq_nil_iff, ne_eq, List.getElem?_map, Option.map_eq_some_iff]
 constructor
 ·intro hh
  split
  ·rename_i ho; rw [if_pos ho] at hh; exact hh
  ·rename_i ho
   rw [if_neg ho] at hh
   intro hc
   obtain ⟨h1, h2, h3⟩ := hh hc
   refine ⟨h1, h2, fun j c hj => ?_⟩
   obtain ⟨v, hv, hr⟩ := h3 j _ ⟨c, hj, rfl⟩
   exact ⟨v, hv, (H7 h).1 hr⟩
 ·intro hh
  split
  ·rename_i ho; rw [if_pos ho] at hh; exact hh
  ·rename_i ho
   rw [if_neg ho] at hh
   intro hc
   obtain ⟨h1, h2, h3⟩ := hh hc
   refine ⟨h1, h2, fun j c hj => ?_⟩
   obtain ⟨c', hc', rfl⟩ := hj
   obtain ⟨v, hv, hr⟩ := h3 j _ hc'
   exact ⟨v, hv, (H7 h).2 hr⟩
theorem Mk (h : ∀ i, e1 i = (σ i).ev e) {w : World} {B : Bd} {r : Nat} {q : EZ} : Be e loc w B r { q with x := B5 σ q.x, n := B5 σ q.n } ↔ Be e1 loc w B r q := by
 unfold Be
 simp only [GI h]
theorem DQ (h : ∀ i, e1 i = (σ i).ev e) {w : World} {B : Bd} {rows : List Row} : Ad e loc (rows.map (DK σ)) w B ↔ Ad e1 loc rows w B := by
 have at_ : ∀ (r : Nat) (y : Row), (rows.map (DK σ))[r]? = some y ↔ ∃ x, rows[r]? = some x ∧ DK σ x = y := fun r y => by
  rw [List.getElem?_map, Option.map_eq_some_iff]
 have lo : ∀ (r : Nat) (x : Row), Bp loc r (DK σ x) ↔ Bp loc r x := fun r x => by
  unfold Bp
  simp only [DK, Option.map_eq_some_iff]
  constructor
  ·rintro ⟨q, ⟨q0, h1, rfl⟩, h2, h3⟩
   exact ⟨q0, h1, h2, h3⟩
  ·rintro ⟨q, h1, h2, h3⟩
   exact ⟨_, ⟨q, h1, rfl⟩, h2, h3⟩
 constructor
 ·intro hh
  refine ⟨fun r x hr => ?_, fun r x q hr hq => ?_, fun r s x y hr hs ox oy => ?_, fun r s x y hr hs ox oy hne => ?_⟩
  ·have := hh.row r _ ((at_ r _).2 ⟨x, hr, rfl⟩)
   rw [List.length_map] at this
   exact (Mj h).1 this
  ·have := hh.lst r _ _ ((at_ r _).2 ⟨x, hr, rfl⟩) (show (DK σ x).lst = some { q with x := B5 σ q.x, n := B5 σ q.n } by simp [DK, hq])
   exact ⟨this.1, (Mk h).1 this.2⟩
  ·refine hh.lapart r s _ _ ((at_ r _).2 ⟨x, hr, rfl⟩) ((at_ s _).2 ⟨y, hs, rfl⟩) ((lo r x).2 ox) ?_
   rcases oy with oy | ⟨oy, hne⟩
   ·exact .inl oy
   ·exact .inr ⟨(lo s y).2 oy, hne⟩
  ·exact hh.apart r s _ _ ((at_ r _).2 ⟨x, hr, rfl⟩) ((at_ s _).2 ⟨y, hs, rfl⟩) ox oy hne
 ·intro hh
  refine ⟨fun r x' hr => ?_, fun r x' q hr hq => ?_, fun r s x' y' hr hs ox oy => ?_, fun r s x' y' hr hs ox oy hne => ?_⟩
  ·obtain ⟨x, hx, rfl⟩ := (at_ r _).1 hr
   rw [List.length_map]
   exact (Mj h).2 (hh.row r x hx)
  ·obtain ⟨x, hx, rfl⟩ := (at_ r _).1 hr
   simp only [DK, Option.map_eq_some_iff] at hq
   obtain ⟨q0, h1, rfl⟩ := hq
   have := hh.lst r x q0 hx h1
   exact ⟨this.1, (Mk h).2 this.2⟩
  ·obtain ⟨x, hx, rfl⟩ := (at_ r _).1 hr
   obtain ⟨y, hy, rfl⟩ := (at_ s _).1 hs
   refine hh.lapart r s x y hx hy ((lo r x).1 ox) ?_
   rcases oy with oy | ⟨oy, hne⟩
   ·exact .inl oy
   ·exact .inr ⟨(lo s y).1 oy, hne⟩
  ·obtain ⟨x, hx, rfl⟩ := (at_ r _).1 hr
   obtain ⟨y, hy, rfl⟩ := (at_ s _).1 hs
   exact hh.apart r s x y hx hy ox oy hne
def Kv : Lc := ⟨0, 0, 0, 0, .slice none 0 0, true⟩
def DR (loc : Loc) (ρ : Nat → Option Nat) : Loc := fun r => match ρ r with | some r' => loc r' | none => Kv
theorem H8 {α : Type} {f : α → α → Bool} : ∀ {l m : List α}, Cb f l m = true → l.length = m.length ∧ ∀ (i : Nat) a, l[i]? = some a → ∃ b, m[i]? = some b ∧ f a b = true
 | [], [], _ => ⟨rfl, fun i a h => by simp at h⟩
 | [], _ :: _, h => by simp [Cb] at h
 | _ :: _, [], h => by simp [Cb] at h
 | a :: l, b :: m, h => by
  simp only [Cb, Bool.and_eq_true] at h
  obtain ⟨h1, h2⟩ := H8 h.2
  refine ⟨by simp [h1], fun i x hx => ?_⟩
  cases i with
  | zero => simp at hx; subst hx; exact ⟨b, rfl, h.1⟩
  | succ i => simpa using h2 i x (by simpa using hx)
variable {ρ : Nat → Option Nat} {N : Nat}
theorem A7 {r r' : Nat} (h : ρ r = some r') : DR loc ρ r = loc r' := by simp [DR, h]
theorem GJ {r : Nat} (h : ρ r = none) : DR loc ρ r = Kv := by simp [DR, h]
theorem Qf {M : Nat} {t k : K} {v : Value} (h : Uc M ρ t k = true) (hk : k.rel e N loc v) : t.rel e M (DR loc ρ) v := by
 unfold Uc at h
 split at h
 ·exact ⟨trivial, hk.2.1, .inl rfl⟩
 ·simp only [Bool.and_eq_true] at h
  rw [AY h.1, L.Ae h.2]; exact ⟨trivial, hk.2.1, .inr (hk.2.2.resolve_left (by simp))⟩
 ·rw [L.Ae h]; exact ⟨trivial, hk.2.1, .inr (hk.2.2.resolve_left (by simp))⟩
 ·rw [L.Ae h]; exact ⟨trivial, hk.2.1, .inr (hk.2.2.resolve_left (by simp))⟩
 ·rw [L.Ae h]; exact ⟨trivial, hk.2.1, .inr (hk.2.2.resolve_left (by simp))⟩
 ·simp only [Bool.and_eq_true, decide_eq_true_eq, beq_iff_eq] at h
  obtain ⟨⟨h0, h1⟩, h2⟩ := h
  subst h2
  obtain ⟨a1, a2, a3⟩ := hk
  refine ⟨h0, a2, .inr ?_⟩
  rcases a3 with a3 | a3
  ·cases a3
  ·rw [a3]; simp only [K.AZ]; rw [A7 h1]
 ·simp only [Bool.and_eq_true, decide_eq_true_eq, beq_iff_eq] at h
  obtain ⟨⟨⟨⟨⟨h0, h1⟩, h2⟩, h3⟩, h4⟩, h5⟩ := h
  have h5 := L.Ae h5
  subst h2 h3 h4 h5
  obtain ⟨a1, a2, a3⟩ := hk
  refine ⟨⟨h0, a1.2⟩, a2, .inr ?_⟩
  rcases a3 with a3 | a3
  ·cases a3
  ·rw [a3]; simp only [K.AZ]; rw [A7 h1]
 ·simp only [Bool.and_eq_true, decide_eq_true_eq, beq_iff_eq] at h
  obtain ⟨⟨⟨h0, h1⟩, h2⟩, h3⟩ := h
  subst h2 h3
  obtain ⟨a1, a2, a3⟩ := hk
  refine ⟨h0, a2, .inr ?_⟩
  rcases a3 with a3 | a3
  ·cases a3
  ·rw [a3]; simp only [K.AZ]; rw [A7 h1]
 ·simp only [Bool.and_eq_true, decide_eq_true_eq, beq_iff_eq] at h
  obtain ⟨⟨⟨⟨⟨h0, h1⟩, h2⟩, h3⟩, h4⟩, h5⟩ := h
  subst h2 h3 h4 h5
  obtain ⟨a1, a2, a3⟩ := hk
  refine ⟨h0, a2, .inr ?_⟩
  rcases a3 with a3 | a3
  ·cases a3
  ·rw [a3]; simp only [K.AZ]; rw [A7 h1]
 ·simp only [Bool.and_eq_true, decide_eq_true_eq] at h
  obtain ⟨⟨h0, h1⟩, h2⟩ := h
  have h2 := L.Ae h2
  subst h2
  obtain ⟨a1, a2, a3⟩ := hk
  refine ⟨⟨h0, a1.2.1, by rw [A7 h1]; exact a1.2.2⟩, a2, .inr ?_⟩
  rcases a3 with a3 | a3
  ·cases a3
  ·rw [a3]; simp only [K.AZ]; rw [A7 h1]
 ·simp only [Bool.and_eq_true, decide_eq_true_eq] at h
  obtain ⟨⟨h0, h1⟩, h2⟩ := h
  have h2 := L.Ae h2
  subst h2
  obtain ⟨a1, a2, a3⟩ := hk
  refine ⟨⟨h0, by simp, fun _ => ⟨by rw [GJ h1]; rfl, by simp⟩⟩, a2, .inr ?_⟩
  rcases a3 with a3 | a3
  ·cases a3
  ·rw [a3]; simp only [K.AZ]; rw [GJ h1]; rfl
 ·simp only [Bool.and_eq_true, decide_eq_true_eq] at h
  obtain ⟨⟨h0, h1⟩, h2⟩ := h
  have h2 := L.Ae h2
  subst h2
  obtain ⟨a1, a2, a3⟩ := hk
  refine ⟨⟨h0, a1.2.1, by rw [A7 h1]; exact a1.2.2⟩, a2, .inr ?_⟩
  rcases a3 with a3 | a3
  ·cases a3
  ·rw [a3]; simp only [K.AZ]; rw [A7 h1]
 ·simp only [Bool.and_eq_true, decide_eq_true_eq, beq_iff_eq] at h
  obtain ⟨⟨⟨⟨⟨h0, h1⟩, h2⟩, h3⟩, h4⟩, h5⟩ := h
  have h4 := L.Ae h4
  have h5 := L.Ae h5
  subst h2 h3 h4 h5
  obtain ⟨a1, a2, a3⟩ := hk
  refine ⟨⟨h0, a1.2⟩, a2, .inr ?_⟩
  rcases a3 with a3 | a3
  ·cases a3
  ·rw [a3]; simp only [K.AZ]; rw [A7 h1]
 ·exact ⟨trivial, hk.2.1, .inr (hk.2.2.resolve_left (by simp))⟩
 ·exact ⟨trivial, hk.2.1, .inr (hk.2.2.resolve_left (by simp))⟩
 ·exact ⟨trivial, hk.2.1, .inr (hk.2.2.resolve_left (by simp))⟩
 ·cases h
theorem Kw {M : Nat} : ∀ {t k : List K} {vs : List Value}, Cb (Uc M ρ) t k = true → Cc e N loc k vs → Cc e M (DR loc ρ) t vs
 | [], [], [], _, _ => trivial
 | _ :: _, _ :: _, _ :: _, h, hk => by
  simp only [Cb, Bool.and_eq_true] at h
  exact ⟨Qf h.1 hk.1, Kw h.2 hk.2⟩
 | [], _ :: _, _, h, _ => by simp [Cb] at h
 | _ :: _, [], _, h, _ => by simp [Cb] at h
 | [], [], _ :: _, _, hk => hk.elim
 | _ :: _, _ :: _, [], _, hk => hk.elim
theorem Nv {M : Nat} {t k : C} {v : Value} (h : TH M ρ t k = true) (hk : k.rel e N loc v) : t.rel e M (DR loc ρ) v := by
 unfold TH at h
 split at h
 ·exact ⟨trivial, C.JL hk, .inl rfl⟩
 ·exact Qf h hk
 ·simp only [Bool.and_eq_true, beq_iff_eq] at h
  obtain ⟨⟨h1, h2⟩, h3⟩ := h
  obtain ⟨va, vb, a1, a2, a3⟩ := hk
  exact ⟨va, vb, by rw [h1]; exact a1, Kw h2 a2, Kw h3 a3⟩
 ·cases h
theorem Kx {M : Nat} : ∀ {t k : List C} {vs : List Value}, Cb (TH M ρ) t k = true → Ag e N loc k vs → Ag e M (DR loc ρ) t vs
 | [], [], [], _, _ => trivial
 | _ :: _, _ :: _, _ :: _, h, hk => by
  simp only [Cb, Bool.and_eq_true] at h
  exact ⟨Nv h.1 hk.1, Kx h.2 hk.2⟩
 | [], _ :: _, _, h, _ => by simp [Cb] at h
 | _ :: _, [], _, h, _ => by simp [Cb] at h
 | [], [], _ :: _, _, hk => hk.elim
 | _ :: _, _ :: _, [], _, hk => hk.elim
theorem Ky {M : Nat} {t k : PV} {v : Value} (h : QF M ρ t k = true) (hk : k.rel e N loc v) : t.rel e M (DR loc ρ) v := by
 unfold QF at h
 split at h
 ·exact Nv h hk
 ·obtain ⟨vs, h1, h2⟩ := hk
  exact ⟨vs, h1, Kx h h2⟩
 ·cases h
theorem Ml {M : Nat} : ∀ {t k : List PV} {vs : List Value}, Cb (QF M ρ) t k = true → An e N loc k vs → An e M (DR loc ρ) t vs
 | [], [], [], _, _ => trivial
 | _ :: _, _ :: _, _ :: _, h, hk => by
  simp only [Cb, Bool.and_eq_true] at h
  exact ⟨Ky h.1 hk.1, Ml h.2 hk.2⟩
 | [], _ :: _, _, h, _ => by simp [Cb] at h
 | _ :: _, [], _, h, _ => by simp [Cb] at h
 | [], [], _ :: _, _, hk => hk.elim
 | _ :: _, _ :: _, [], _, hk => hk.elim
theorem Sb {M : Nat} {t k : SV} {v : Value} (h : SY M ρ t k = true) (hk : k.rel e N loc v) : t.rel e M (DR loc ρ) v := by
 unfold SY at h
 split at h
 ·trivial
 ·exact hk
 ·exact Ky h hk
 ·obtain ⟨vs, h1, h2⟩ := hk
  exact ⟨vs, h1, Ml h h2⟩
 ·simp only [Bool.and_eq_true] at h
  rw [IQ h.1]
  exact ⟨fun hg => Ky h.2 (hk.1 hg), hk.2⟩
 ·cases h
theorem Sc {M : Nat} {t k : List SV} {tm : Array Value} (h : Cb (SY M ρ) t k = true) (hk : Am e N loc k tm) : Am e M (DR loc ρ) t tm := by
 obtain ⟨h1, h2⟩ := H8 h
 refine ⟨by rw [h1]; exact hk.len, fun i s v hs hv => ?_⟩
 obtain ⟨b, h3, h4⟩ := h2 i s hs
 exact Sb h4 (hk.at_ i b v h3 hv)
theorem G0 : ∀ {l : List Row} {b i x : Nat} {t : Row}, l[i]? = some t → t.owned = true → ρ (b + i) = some x → x ∈ BK ρ b l
 | y :: l, b, i, x, t, h, ho, hx => by
  cases i with
  | zero =>
   simp only [List.getElem?_cons_zero, Option.some.injEq] at h
   subst h
   unfold BK
   rw [Nat.add_zero] at hx
   rw [if_pos ho, hx]
   exact List.mem_cons_self ..
  | succ i =>
   have := G0 (l := l) (b := b + 1) (i := i) (by simpa using h) ho (by rw [← hx]; congr 1; omega)
   unfold BK
   split
   ·cases ρ b with
    | some z => exact List.mem_cons_of_mem _ this
    | none => exact this
   ·exact this
theorem H9 {l : List Row} {b i j x y : Nat} {t u : Row} (hn : Hk (BK ρ b l) = true) (hij : i < j) (ht : l[i]? = some t) (hu : l[j]? = some u) (ot : t.owned = true) (ou : u.owned = true) (hx : ρ (b + i) = some x) (hy : ρ (b + j) = some y) : x ≠ y := by
 induction l generalizing b i j with
 | nil => simp at ht
 | cons z l ih =>
  obtain ⟨j, rfl⟩ : ∃ j', j = j' + 1 := ⟨j - 1, by omega⟩
  have hu' : l[j]? = some u := by simpa using hu
  have hy' : ρ (b + 1 + j) = some y := by rw [← hy]; congr 1; omega
  unfold BK at hn
  cases i with
  | zero =>
   simp only [List.getElem?_cons_zero, Option.some.injEq] at ht
   subst ht
   rw [Nat.add_zero] at hx
   rw [if_pos ot, hx] at hn
   simp only [M6, Hk, Bool.and_eq_true, List.all_eq_true, bne_iff_ne, ne_eq] at hn
   exact hn.1 y (G0 hu' ou hy')
  | succ i =>
   have hn' : Hk (BK ρ (b + 1) l) = true := by
    split at hn
    ·cases hb : ρ b with
     | some z' =>
      rw [hb] at hn
      simp only [M6, Hk, Bool.and_eq_true] at hn
      exact hn.2
     | none => rw [hb] at hn; exact hn
    ·exact hn
   exact ih (i := i) (j := j) hn' (by omega) (by simpa using ht) hu' (by rw [← hx]; congr 1; omega) hy'
theorem Ia {M : Nat} {rows : List Row} : ∀ {l : List Row} {b i : Nat} {t : Row}, FN M ρ rows b l = true → l[i]? = some t → M5 M ρ rows (b + i) t = true
 | y :: l, b, i, t, h, ht => by
  simp only [FN, Bool.and_eq_true] at h
  cases i with
  | zero => simp at ht; subst ht; exact h.1
  | succ i =>
   have := Ia h.2 (i := i) (by simpa using ht)
   rwa [show b + 1 + i = b + (i + 1) by omega] at this
theorem QO {w : World} {B : Bd} {rows tr : List Row} (hck : FN tr.length ρ rows 0 tr = true) (hnd : Hk (BK ρ 0 tr) = true) (h : Ad e loc rows w B) : Ad e (DR loc ρ) tr w B := by
 have cases_ : ∀ (r : Nat) (t : Row), tr[r]? = some t → t.M4 = true ∨ (∃ r' s, ρ r = some r' ∧ rows[r']? = some s ∧ PZ tr.length ρ t s = true) ∨ (ρ r = none ∧ JK t = true) := fun r t ht => by
  have := Ia hck ht
  rw [Nat.zero_add] at this
  unfold M5 at this
  rw [Bool.or_eq_true] at this
  rcases this with h1 | h1
  ·exact .inl h1
  ·cases hr : ρ r with
   | none => rw [hr] at h1; exact .inr (.inr ⟨rfl, h1⟩)
   | some r' =>
    rw [hr] at h1
    simp only at h1
    cases hs : rows[r']? with
    | none => rw [hs] at h1; cases h1
    | some s => rw [hs] at h1; exact .inr (.inl ⟨r', s, rfl, hs, h1⟩)
 have dead_ : ∀ {t : Row}, t.M4 = true → t.own = false ∧ t.cells = [] ∧ t.lst = none := fun {t} ht => by
  simp only [Row.M4, Bool.and_eq_true, Bool.not_eq_true', List.isEmpty_iff, Option.isNone_iff_eq_none] at ht
  exact ⟨ht.1.1, ht.1.2, ht.2⟩
 have empty_ : ∀ {t : Row}, JK t = true → t.own = false ∧ t.cells = [] ∧ ∃ q, t.lst = some q ∧ q.own = true ∧ q.x = .e ∧ q.n = .n 0 ∧ q.ss.length ≠ 0 := fun {t} ht => by
  unfold JK at ht
  simp only [Bool.and_eq_true, Bool.not_eq_true', List.isEmpty_iff] at ht
  obtain ⟨⟨h1, h2⟩, h3⟩ := ht
  cases hq : t.lst with
  | none => rw [hq] at h3; cases h3
  | some q =>
   rw [hq] at h3
   simp only [Bool.and_eq_true, bne_iff_ne, ne_eq] at h3
   obtain ⟨⟨⟨a1, a2⟩, a3⟩, a4⟩ := h3
   exact ⟨h1, h2, q, rfl, a1, L.Ae a2, L.Ae a3, a4⟩
 have row_ : ∀ {t s : Row}, PZ tr.length ρ t s = true → t.own = s.own ∧ t.ty = s.ty ∧ t.es = s.es ∧ Cb (TH tr.length ρ) t.cells s.cells = true ∧ t.lst = s.lst := fun {t s} ht => by
  unfold PZ at ht
  simp only [Bool.and_eq_true, beq_iff_eq] at ht
  obtain ⟨⟨⟨⟨a1, a2⟩, a3⟩, a4⟩, a5⟩ := ht
  exact ⟨a1, a2, a3, a4, Kr a5⟩
 have own_ : ∀ (r : Nat) (t : Row), tr[r]? = some t → t.own = true ∨ Bp (DR loc ρ) r t → t.owned = true ∧ ∃ r' s, ρ r = some r' ∧ rows[r']? = some s ∧ DR loc ρ r = loc r' ∧ (t.own = true → s.own = true) ∧ (Bp (DR loc ρ) r t → Bp loc r' s) := fun r t ht ho => by
  rcases cases_ r t ht with h1 | ⟨r', s, h1, h2, h3⟩ | ⟨h1, h2⟩
  ·obtain ⟨d1, d2, d3⟩ := dead_ h1
   rcases ho with ho | ⟨q, ho, _⟩
   ·rw [d1] at ho; cases ho
   ·rw [d3] at ho; cases ho
  ·obtain ⟨a1, a2, a3, a4, a5⟩ := row_ h3
   have hl := A7 (loc := loc) h1
   refine ⟨?_, r', s, h1, h2, hl, fun h => by rw [← a1]; exact h, fun ⟨q, q1, q2, q3⟩ => ⟨q, by rw [← a5]; exact q1, q2, by rw [← hl]; exact q3⟩⟩
   unfold Row.owned
   rcases ho with ho | ⟨q, q1, q2, _⟩
   ·rw [ho]; rfl
   ·rw [q1, Bool.or_eq_true]; exact .inr q2
  ·obtain ⟨d1, d2, q, q1, q2, _⟩ := empty_ h2
   rcases ho with ho | ⟨q', _, _, q3⟩
   ·rw [d1] at ho; cases ho
   ·rw [GJ h1] at q3; cases q3
 have diff_ : ∀ (r s : Nat) (t u : Row) (r' s' : Nat), tr[r]? = some t → tr[s]? = some u → t.owned = true → u.owned = true → ρ r = some r' → ρ s = some s' → r ≠ s → r' ≠ s' := fun r s t u r' s' ht hu ot ou hr hs hne => by
  rcases Nat.lt_or_gt_of_ne hne with h1 | h1
  ·exact H9 hnd h1 ht hu ot ou (by rw [Nat.zero_add]; exact hr) (by rw [Nat.zero_add]; exact hs)
  ·exact (H9 hnd h1 hu ht ou ot (by rw [Nat.zero_add]; exact hs) (by rw [Nat.zero_add]; exact hr)).symm
 refine ⟨fun r t ht => ?_, fun r t q ht hq => ?_, fun r s t u ht hu ot ou => ?_, fun r s t u ht hu ot ou hne => ?_⟩
 ·rcases cases_ r t ht with h1 | ⟨r', s, h1, h2, h3⟩ | ⟨h1, h2⟩
  ·obtain ⟨d1, d2, d3⟩ := dead_ h1
   unfold Au
   rw [if_neg (by simp [d1])]
   exact fun hc => absurd d2 hc
  ·obtain ⟨a1, a2, a3, a4, a5⟩ := row_ h3
   have hrow := h.row r' s h2
   unfold Au at hrow ⊢
   rw [A7 h1, a1, a2, a3]
   split
   ·rename_i ho
    rw [if_pos ho] at hrow
    obtain ⟨b1, b2, b3, b4, vs, sp, b5, b6, b7⟩ := hrow
    exact ⟨b1, b2, b3, b4, vs, sp, b5, Kx a4 b6, b7⟩
   ·rename_i ho
    rw [if_neg ho] at hrow
    intro hc
    obtain ⟨l1, l2⟩ := H8 a4
    obtain ⟨b1, b2, b3⟩ := hrow (fun h0 => hc (List.eq_nil_of_length_eq_zero (by rw [l1, h0]; rfl)))
    refine ⟨b1, b2, fun j c hj => ?_⟩
    obtain ⟨c', hc', hcc⟩ := l2 j c hj
    obtain ⟨v, hv, hr⟩ := b3 j c' hc'
    exact ⟨v, hv, Nv hcc hr⟩
  ·obtain ⟨d1, d2, _⟩ := empty_ h2
   unfold Au
   rw [if_neg (by simp [d1])]
   exact fun hc => absurd d2 hc
 ·rcases cases_ r t ht with h1 | ⟨r', s, h1, h2, h3⟩ | ⟨h1, h2⟩
  ·rw [(dead_ h1).2.2] at hq; cases hq
  ·obtain ⟨a1, a2, a3, a4, a5⟩ := row_ h3
   rw [a5] at hq
   obtain ⟨k1, k2⟩ := h.lst r' s q h2 hq
   exact ⟨by rw [a1]; exact k1, k2.at_ (A7 h1)⟩
  ·obtain ⟨d1, d2, q', q1, q2, q3, q4, q5⟩ := empty_ h2
   rw [q1] at hq
   injection hq with hq
   subst hq
   refine ⟨d1, [], 0, by rw [q3]; rfl, by simp, by rw [q4]; rfl, by omega, ?_⟩
   rw [if_pos q2, GJ h1]
   rw [if_pos (show Kv.emp = true from rfl)]
   exact ⟨rfl, rfl⟩
 ·obtain ⟨o1, r', x, r1, r2, r3, r4, r5⟩ := own_ r t ht (.inr ot)
  have hou : u.own = true ∨ Bp (DR loc ρ) s u := by
   rcases ou with ou | ou
   ·exact .inl ou
   ·exact .inr ou.1
  obtain ⟨p1, s', y, s1, s2, s3, s4, s5⟩ := own_ s u hu hou
  rw [r3, s3]
  refine h.lapart r' s' x y r2 s2 (r5 ot) ?_
  rcases ou with ou | ⟨ou, hne⟩
  ·exact .inl (s4 ou)
  ·exact .inr ⟨s5 ou, diff_ r s t u r' s' ht hu o1 p1 r1 s1 hne⟩
 ·obtain ⟨o1, r', x, r1, r2, r3, r4, r5⟩ := own_ r t ht (.inl ot)
  obtain ⟨p1, s', y, s1, s2, s3, s4, s5⟩ := own_ s u hu (.inl ou)
  rw [r3, s3]
  exact h.apart r' s' x y r2 s2 (r4 ot) (s4 ou) (diff_ r s t u r' s' ht hu o1 p1 r1 s1 hne)
theorem DS {m : Nat} {t s : St} (h : QG ρ m t s = true) : m ≤ s.rows.length ∧ m ≤ t.rows.length ∧ Ay m loc (DR loc ρ) ∧
  (∀ tm, Am e s.rows.length loc s.fr tm → Am e t.rows.length (DR loc ρ) t.fr tm) ∧ ∀ w, AV e w0 loc s.rows w → AV e w0 (DR loc ρ) t.rows w := by
 unfold QG at h
 simp only [Bool.and_eq_true, decide_eq_true_eq] at h
 obtain ⟨⟨⟨⟨⟨h1, h2⟩, h3⟩, h4⟩, h5⟩, h6⟩ := h
 refine ⟨h5, h6, fun r hr => ?_, fun tm hf => Sc h1 hf, fun w hc => by obtain ⟨B, hB, hR, hbel⟩ := hc; exact ⟨B, hB, QO h2 h3 hR, hbel⟩⟩
 unfold RH at h4
 rw [List.all_eq_true] at h4
 exact A7 (by simpa using h4 r (by simpa using hr))
end
end Rx
namespace Rx
open Go Go.RowKit
def Kz (bs : Nat) (n m : Nd) : Prop :=
 m.listed = n.listed ∧ m.g = n.g ∧ (bs ≤ n.rows.length → bs ≤ m.rows.length) ∧ ∀ (e : Nat → A) (w0 : W0) (loc : Loc) (tm : Array Value) (w : World), Am e n.rows.length loc n.fr tm → AV e w0 loc n.rows w →
  ∃ loc', Ay bs loc loc' ∧ Am e m.rows.length loc' m.fr tm ∧ AV e w0 loc' m.rows w
theorem Kz.refl (bs : Nat) (n : Nd) : Kz bs n n := ⟨rfl, rfl, id, fun e w0 loc tm w hf hc => ⟨loc, Ay.refl _ _, hf, hc⟩⟩
theorem Sd {bs : Nat} {m n : Nd} (hl : m.listed = n.listed) (h : m.fits bs n = true) : Kz bs n m := by
 simp only [Nd.fits, Bool.and_eq_true, beq_iff_eq] at h
 obtain ⟨⟨⟨⟨h1, h2⟩, h3⟩, h4⟩, h5⟩ := h
 have hg : m.g = n.g := by
  obtain ⟨_, _, _, a, b, c, d⟩ := m
  obtain ⟨_, _, _, a', b', c', d'⟩ := n
  simp only at h1 h2 h3 h4
  rw [h1, D8 h2, L.Cx h3, Dw h4]
 refine ⟨hl, hg, fun _ => ?_, fun e w0 loc tm w hf hc => ?_⟩
 ·exact (DS (e := fun _ => .i 0) (loc := fun _ => default) (w0 := default) h5).2.1
 ·obtain ⟨k1, k2, k3, k4, k5⟩ := DS (e := e) (loc := loc) (w0 := w0) h5
  exact ⟨_, k3, k4 tm hf, k5 w hc⟩
theorem Mm {bs : Nat} {n : Nd} : ∀ {l r : List Nd}, NN bs n l = some r → (∃ m ∈ r, Kz bs n m) ∧ ∀ m ∈ l, m ∈ r
 | [], r, h => by
  simp only [NN, Option.some.injEq] at h
  subst h
  exact ⟨⟨n, by simp, .refl _ _⟩, fun m hm => by cases hm⟩
 | m :: l, r, h => by
  simp only [NN] at h
  split at h
  ·rename_i hb
   split at h
   ·rename_i hs
    injection h with h
    subst h
    refine ⟨⟨m, by simp, ?_⟩, fun x hx => hx⟩
    rw [Bool.or_eq_true] at hs
    rcases hs with hs | hs
    ·rw [← Nd.Ae (Fi hb) hs]; exact .refl _ _
    ·exact Sd (Fi hb) hs
   ·cases h
  ·simp only [Option.bind_eq_bind, Option.bind_eq_some_iff, Option.some.injEq] at h
   obtain ⟨r', hr, rfl⟩ := h
   obtain ⟨⟨x, hx, h1⟩, h2⟩ := Mm hr
   exact ⟨⟨x, by simp [hx], h1⟩, fun x hx => by
    rcases List.mem_cons.1 hx with rfl | hx
    ·simp
    ·simp [h2 x hx]⟩
theorem KA {bs : Nat} : ∀ {ns l r : List Nd}, J2 bs ns l = some r → (∀ m ∈ ns, ∃ m' ∈ r, Kz bs m m') ∧ ∀ m ∈ l, m ∈ r
 | [], l, r, h => by
  simp only [J2, Option.some.injEq] at h
  subst h
  exact ⟨fun m hm => (by cases hm), fun m hm => hm⟩
 | n :: ns, l, r, h => by
  simp only [J2, Option.bind_eq_bind, Option.bind_eq_some_iff] at h
  obtain ⟨l', h1, h2⟩ := h
  obtain ⟨⟨x, hx, a1⟩, a2⟩ := Mm h1
  obtain ⟨b1, b2⟩ := KA h2
  exact ⟨fun m hm => by
   rcases List.mem_cons.1 hm with rfl | hm
   ·exact ⟨x, b2 _ hx, a1⟩
   ·exact b1 m hm, fun m hm => b2 _ (a2 m hm)⟩
theorem Jk {X : Ctx} {inl : Inline} {ops : List Oper} {pc : L} {bs : Nat} : ∀ {l out r : List Nd}, HR X inl ops pc bs l out = some r → (∀ nd ∈ l, ∃ ns, RL X inl ops pc nd = some ns ∧ ∀ m ∈ ns, ∃ m' ∈ r, Kz bs m m') ∧ ∀ m ∈ out, m ∈ r
 | [], out, r, h => by
  simp only [HR, Option.some.injEq] at h
  subst h
  exact ⟨fun nd hnd => (by cases hnd), fun m hm => hm⟩
 | nd :: l, out, r, h => by
  simp only [HR, Option.bind_eq_bind, Option.bind_eq_some_iff] at h
  obtain ⟨ns, h1, out', h2, h3⟩ := h
  obtain ⟨a1, a2⟩ := KA h2
  obtain ⟨b1, b2⟩ := Jk h3
  exact ⟨fun x hx => by
   rcases List.mem_cons.1 hx with rfl | hx
   ·exact ⟨ns, h1, fun m hm => by
     obtain ⟨m', h4, h5⟩ := a1 m hm
     exact ⟨m', b2 _ h4, h5⟩⟩
   ·exact b1 x hx, fun m hm => b2 _ (a2 m hm)⟩
end Rx
namespace Rx
open Go Go.RowKit
section
variable {T : Nat → List A → Bool × List A} {e : Nat → A} {n n' : Nat} {loc loc' : Loc} {P : Program} {X : Ctx} {w0 : W0}
variable {fr : List SV} {rows : List Row} {gs : List (L × Bool)} {pc : L} {o : Oper} {g : G} {inl : Inline}
theorem Oper.Ta {K : Act → World → Prop} {Q : Exit → Act → World → Prop} {a : Act} {w : World} (h : o.wp P a w K (Exit.then K Q)) : o.wp P a w K Q := by
 unfold Oper.wp at *
 generalize (Go.execOp a.eval o).run P w = r at *
 cases r with
 | ok n w' =>
  cases n <;> simp only [Oper.upon] at h ⊢ <;> first | exact h | exact Calls.mono h (fun e w'' he => by cases e <;> exact he)
 | halt x w' => cases x <;> simp only [Oper.upon] at h ⊢ <;> exact h
theorem Lw (hX : XOK P T X) (hI : F0 P T e w0 inl) {ops : List Oper} {nd nd' : Nd} {i : Nat} (h : E4 X inl ops pc nd i = some nd') (hg : Good T e nd'.g) :
  nd'.listed = nd.listed.set i true ∧ Good T e nd.g ∧ ∀ (loc : Loc) (a : Act) (w : World) (K : Act → World → Prop) (Q : Exit → Act → World → Prop), (pc.ev e).bool = true → Am e nd.rows.length loc nd.fr a.tmps → AV e w0 loc nd.rows w →
   (∀ (loc' : Loc) (a' : Act) (w' : World), Ay nd.rows.length loc loc' → nd.rows.length ≤ nd'.rows.length → Am e nd'.rows.length loc' nd'.fr a'.tmps → a'.defers = a.defers → AV e w0 loc' nd'.rows w' → K a' w') → wpOp P ops.toArray Q i K a w := by
 simp only [E4, Option.bind_eq_bind, Option.bind_eq_some_iff] at h
 obtain ⟨o, ho, ⟨fr1, rows1, g1⟩, hex, h⟩ := h
 simp only at h
 split at h
 case isFalse => cases h
 injection h with h
 subst h
 obtain ⟨k1, k2⟩ := A3 hX hI hex hg
 refine ⟨rfl, k1, fun loc a w K Q hpc hf hw hK => ?_⟩
 have := k2 loc a w (Exit.then K Q) hpc hf hw hK
 unfold wpOp
 have ho' : ops.toArray[i]? = some o := by simpa using ho
 rw [ho']
 simp only
 unfold wpList at this
 split
 ·rename_i hwt
  rw [if_pos hwt] at this
  rcases this with h1 | h1
  ·exact .inl (Oper.Ta h1)
  ·exact .inr h1
 ·rename_i hwt
  rw [if_neg hwt] at this
  exact this
theorem Jl {ops : List Oper} {nd nd' : Nd} {i : Nat} (h : E4 X inl ops pc nd i = some nd') : nd.rows.length ≤ nd'.rows.length := by
 simp only [E4, Option.bind_eq_bind, Option.bind_eq_some_iff] at h
 obtain ⟨o, ho, ⟨fr1, rows1, g1⟩, hex, h⟩ := h
 simp only at h
 split at h
 ·rename_i hle
  injection h with h
  subst h
  exact hle
 ·cases h
theorem Of {α β : Type} {f : α → Option β} : ∀ {l : List α} {r : List β}, SZ f l = some r → ∀ a ∈ l, ∃ b ∈ r, f a = some b
 | [], r, _, a, ha => by cases ha
 | x :: l, r, h, a, ha => by
  simp only [SZ, Option.bind_eq_bind, Option.bind_eq_some_iff, Option.some.injEq] at h
  obtain ⟨b, hb, r', hr, rfl⟩ := h
  rcases List.mem_cons.1 ha with rfl | ha
  ·exact ⟨b, by simp, hb⟩
  ·obtain ⟨b', h1, h2⟩ := Of hr a ha
   exact ⟨b', by simp [h1], h2⟩
theorem G1 (hX : XOK P T X) (hI : F0 P T e w0 inl) {ops : List Oper} {bs : Nat} (hns : Region.noSelect ops.toArray = true) {E : Nd} (hE : Region.ready .any ops.toArray E.listed.toArray = []) (hg : Good T e E.g) :
  ∀ (k : Nat) (l : List Nd), explore X inl ops pc bs k l = some [E] → ∀ nd ∈ l, Good T e nd.g ∧
   (bs ≤ nd.rows.length → bs ≤ E.rows.length ∧ ∀ (loc : Loc) (a : Act) (w : World) (Q : Exit → Act → World → Prop), (pc.ev e).bool = true → Am e nd.rows.length loc nd.fr a.tmps → AV e w0 loc nd.rows w →
    (∀ c a w, ¬ Q (.panic c) a w) → ¬ LetsOut Q →
    (∀ (loc' : Loc) (a' : Act) (w' : World), Ay bs loc loc' → Am e E.rows.length loc' E.fr a'.tmps → a'.defers = a.defers → AV e w0 loc' E.rows w' → Q .normal a' w') →
     wpAny P .any ops.toArray Q k nd.listed.toArray a w)
 | 0, l, h, nd, hnd => by
  simp only [explore, Option.some.injEq] at h
  subst h
  simp only [List.mem_singleton] at hnd
  subst hnd
  exact ⟨hg, fun hb => ⟨hb, fun loc a w Q hpc hf hw _ _ hQ => ⟨hE, hQ loc a w (Ay.refl _ _) hf rfl hw⟩⟩⟩
 | k + 1, l, h, nd, hnd => by
  simp only [explore, Option.bind_eq_bind, Option.bind_eq_some_iff] at h
  obtain ⟨l', h1, h2⟩ := h
  obtain ⟨ns, hs, hmem⟩ := (Jk h1).1 nd hnd
  have ih := G1 hX hI hns hE hg k l' h2
  have hset : ∀ i, (nd.listed.set i true).toArray = nd.listed.toArray.setIfInBounds i true := fun i => by simp
  have step : ∀ i n, E4 X inl ops pc nd i = some n → (∃ m' ∈ l', Kz bs n m') → Good T e nd.g ∧ (bs ≤ nd.rows.length → nd.rows.length ≤ n.rows.length → bs ≤ E.rows.length) ∧ ∀ (loc : Loc) (a : Act) (w : World) (Q : Exit → Act → World → Prop), bs ≤ nd.rows.length → (pc.ev e).bool = true → Am e nd.rows.length loc nd.fr a.tmps → AV e w0 loc nd.rows w →
    (∀ c a w, ¬ Q (.panic c) a w) → ¬ LetsOut Q →
    (∀ (loc' : Loc) (a' : Act) (w' : World), Ay bs loc loc' → Am e E.rows.length loc' E.fr a'.tmps → a'.defers = a.defers → AV e w0 loc' E.rows w' → Q .normal a' w') →
     wpOp P ops.toArray Q i (wpAny P .any ops.toArray Q k (nd.listed.toArray.setIfInBounds i true)) a w := fun i n hn ⟨m, hm, r1, r2, r3, r4⟩ => by
   obtain ⟨i1, i2⟩ := ih m hm
   rw [r2] at i1
   obtain ⟨s1, s2, s3⟩ := Lw hX hI hn i1
   refine ⟨s2, fun hb hle => (i2 (r3 (Nat.le_trans hb hle))).1, fun loc a w Q hb hpc hf hw hp ho hQ => s3 loc a w _ Q hpc hf hw fun loc1 a1 w1 q1 q2 q3 q4 q5 => ?_⟩
   obtain ⟨loc2, z1, z2, z3⟩ := r4 e w0 loc1 a1.tmps w1 q3 q5
   have := (i2 (r3 (Nat.le_trans hb q2))).2 loc2 a1 w1 Q hpc z2 z3 hp ho fun loc' a' w' y1 y3 y4 y5 => hQ loc' a' w' (fun r hr => ((z1.trans y1 (Nat.le_refl _)) r hr).trans (q1 r (Nat.lt_of_lt_of_le hr hb))) y3 (y4.trans q4) y5
   rw [r1, s1, hset] at this
   exact this
  unfold RL at hs
  simp only at hs
  split at hs
  ·rename_i i hfind
   simp only [Option.bind_eq_bind, Option.bind_eq_some_iff, Option.some.injEq] at hs
   obtain ⟨n, hn, rfl⟩ := hs
   obtain ⟨s1, s0, s2⟩ := step i n hn (hmem n (by simp))
   have hready := List.mem_of_find?_eq_some hfind
   have hpure := List.find?_some hfind
   have hlen : nd.rows.length ≤ n.rows.length := Jl hn
   refine ⟨s1, fun hb => ⟨s0 hb hlen, fun loc a w Q hpc hf hw hp ho hQ => ?_⟩⟩
   have hop := s2 loc a w Q hb hpc hf hw hp ho hQ
   unfold RK at hpure
   split at hpure
   ·rename_i o hoi
    have hoi' : ops.toArray[i]? = some o := by simpa using hoi
    have key : ∀ x, (∀ (ρ : Operand → Value), Go.execOp ρ o = pure (.value (ρ x))) → Region.free .any ops.toArray nd.listed.toArray i = true → wpAny P .any ops.toArray Q (k + 1) nd.listed.toArray a w := fun x hx hfree => by
     have hrun : ∀ w, (Go.execOp a.eval o).run P w = .ok (.value (a.eval x)) w := fun w => by rw [hx]; simp
     unfold wpOp at hop
     rw [hoi'] at hop
     simp only at hop
     by_cases hwt : Region.wanted o (yielded ops.toArray a.tmps) = true
     ·rw [if_pos hwt] at hop
      refine wpAny_take hoi' hns hfree (by simpa using hready) (fun c a w h0 => absurd h0 (hp _ _ _)) (v := a.eval x) (.inl ⟨hwt, hrun⟩) ?_
      rcases hop with h1 | h1
      ·unfold Oper.wp at h1
       rw [hrun] at h1
       exact h1
      ·exact absurd h1.2 ho
     ·rw [if_neg hwt] at hop
      exact wpAny_take hoi' hns hfree (by simpa using hready) (fun c a w h0 => absurd h0 (hp _ _ _)) (v := undef) (.inr ⟨by simpa using hwt, rfl⟩) hop
    split at hpure
    ·rename_i x hox
     exact key x (fun ρ => by simp [Go.execOp, hox]) hpure
    ·rename_i x hox
     exact key x (fun ρ => by simp [Go.execOp, hox]) hpure
    ·cases hpure
   ·cases hpure
  ·split at hs
   ·cases hs
   ·rename_i hne
    have hne : Region.ready .any ops.toArray nd.listed.toArray ≠ [] := by simpa using hne
    have hall := Of hs
    obtain ⟨i0, hi0⟩ := List.exists_mem_of_ne_nil _ hne
    obtain ⟨n0, hn1, hn2⟩ := hall i0 hi0
    refine ⟨(step i0 n0 hn2 (hmem n0 hn1)).1, fun hb => ⟨(step i0 n0 hn2 (hmem n0 hn1)).2.1 hb (Jl hn2), fun loc a w Q hpc hf hw hp ho hQ => ⟨fun h0 => absurd h0 hne, fun i hi => ?_⟩⟩⟩
    obtain ⟨n, hn1, hn2⟩ := hall i hi
    exact (step i n hn2 (hmem n hn1)).2.2 loc a w Q hb hpc hf hw hp ho hQ
theorem F2 (hX : XOK P T X) (hI : F0 P T e w0 inl) {ops : List Oper} {S S' : St} {g g' : G} (h : NO X inl ops S g = some (S', g')) (hg : Good T e g') :
  Good T e g ∧ S'.pc = S.pc ∧ ∀ (id : Nat) (loc : Loc) (a : Act) (w : World) (Q : Exit → Act → World → Prop), (S.pc.ev e).bool = true → Am e S.rows.length loc S.fr a.tmps → AV e w0 loc S.rows w →
   (∀ (loc' : Loc) (a' : Act) (w' : World), Ay S.rows.length loc loc' → S.rows.length ≤ S'.rows.length → Am e S'.rows.length loc' S'.fr a'.tmps → a'.defers = a.defers → AV e w0 loc' S'.rows w' → Q .normal a' w') →
    (Code.region id ops.toArray true).wp P Q a w := by
 have drew : ∀ {loc : Loc} {rows : List Row} {w : World}, AV e w0 loc rows w → AV e w0 loc rows { w with drawn := w.drawn + 1 } := fun {loc rows w} hw =>
  hw.FR ⟨rfl, rfl, rfl, Nat.le_refl _, fun _ _ => rfl⟩
 unfold NO at h
 split at h
 ·rename_i hns
  split at h
  ·rename_i E hex
   split at h
   ·rename_i hE
    simp only [Option.some.injEq, Prod.mk.injEq] at h
    obtain ⟨rfl, rfl⟩ := h
    have hE : Region.ready .any ops.toArray E.listed.toArray = [] := by simpa using hE
    obtain ⟨k1, k2⟩ := G1 hX hI hns hE hg _ _ hex _ (List.mem_singleton.2 rfl)
    obtain ⟨k2, k3⟩ := k2 (Nat.le_refl _)
    refine ⟨k1, rfl, fun id loc a w Q hpc hf hw hQ => ?_⟩
    refine wp_mono (Q := fun e a w => match e with | .normal => Q .normal a w | _ => False) ?_ (fun e a w h0 => by cases e <;> first | exact h0 | exact h0.elim)
    refine wp_region_any hX.mixed ?_
    have := k3 loc a { w with drawn := w.drawn + 1 } (fun e a w => match e with | .normal => Q .normal a w | _ => False) hpc hf (drew hw) (fun _ _ _ h0 => h0) (fun ⟨_, _, h0⟩ => h0) (fun loc' a' w' y1 y2 y3 y4 => hQ loc' a' w' y1 k2 y2 y3 y4)
    simpa using this
   ·cases h
  ·cases h
 ·cases h
theorem Pp {k : DF} (h : MK k = true) : k.holds T e := by
 obtain ⟨d, as, rs⟩ := k
 simp only [MK, Bool.and_eq_true, List.isEmpty_iff] at h
 obtain ⟨⟨h1, rfl⟩, rfl⟩ := h
 have := D.Ae h1
 subst this
 rfl
theorem IU (hX : XOK P T X) (hI : F0 P T e w0 inl) {ops : List Oper} {draw : Bool} {S S' : St} {g g' : G} (h : Hm X inl ops draw S g = some (S', g')) (hg : Good T e g') :
  Good T e g ∧ S'.pc = S.pc ∧ ∀ (id : Nat) (loc : Loc) (a : Act) (w : World) (Q : Exit → Act → World → Prop), (S.pc.ev e).bool = true → Am e S.rows.length loc S.fr a.tmps → AV e w0 loc S.rows w →
   (∀ (loc' : Loc) (a' : Act) (w' : World), Ay S.rows.length loc loc' → S.rows.length ≤ S'.rows.length → Am e S'.rows.length loc' S'.fr a'.tmps → a'.defers = a.defers → AV e w0 loc' S'.rows w' → Q .normal a' w') →
    (Code.region id ops.toArray draw).wp P Q a w := by
 have drew : ∀ {loc : Loc} {rows : List Row} {w : World}, AV e w0 loc rows w → AV e w0 loc rows { w with drawn := w.drawn + 1 } := fun {loc rows w} hw =>
  hw.FR ⟨rfl, rfl, rfl, Nat.le_refl _, fun _ _ => rfl⟩
 unfold Hm at h
 split at h
 ·rename_i hd
  subst hd
  split at h
  ·rename_i r hq
   injection h with h
   subst h
   unfold P0 at hq
   split at hq
   ·split at hq
    ·rename_i hB
     simp only [Option.bind_eq_bind, Option.bind_eq_some_iff] at hq
     obtain ⟨⟨fr1, rows1, g1⟩, h1, h⟩ := hq
     simp only [Option.some.injEq, Prod.mk.injEq] at h
     obtain ⟨rfl, rfl⟩ := h
     obtain ⟨k1, rfl, k3⟩ := CU hX hI h1 hg
     refine ⟨k1, rfl, fun id loc a w Q hpc hf hw hQ => ?_⟩
     refine wp_region_quiet (C := AV e w0 loc S.rows) hX.mixed hB (drew hw) ?_
     exact k3 loc a w _ hpc hf hw fun a' hf' hd w' hw' => hQ loc a' w' (Ay.refl _ _) (Nat.le_refl _) hf' hd hw'
    ·cases hq
   ·cases hq
  ·split at h
   ·rename_i r hq
    injection h with h
    subst h
    unfold P1 at hq
    split at hq
    ·rename_i hB
     simp only [Option.bind_eq_bind, Option.bind_eq_some_iff] at hq
     obtain ⟨⟨fr1, rows1, g1⟩, h1, ⟨fr2, rows2, g2⟩, h2, h⟩ := hq
     simp only [Option.some.injEq, Prod.mk.injEq] at h
     obtain ⟨rfl, rfl⟩ := h
     obtain ⟨k1, k2⟩ := A3 hX hI h2 hg
     obtain ⟨q1, rfl, q3⟩ := CU hX hI h1 k1
     refine ⟨q1, rfl, fun id loc a w Q hpc hf hw hQ => ?_⟩
     refine Ju (Cl := AV e w0 loc S.rows) hX.mixed hB (drew hw) ?_
     exact q3 loc a w _ hpc hf hw fun a' hf' hd w' hw' => k2 loc a' w' Q hpc hf' hw' fun loc' a'' w'' hx hl hf'' hd' hw'' => hQ loc' a'' w'' hx hl hf'' (by rw [hd', hd]) hw''
    ·cases hq
   ·split at h
    ·rename_i r hq
     injection h with h
     subst h
     exact F2 hX hI hq hg
    ·split at h
     ·rename_i fr1 rows1 g1 h1
      split at h
      ·rename_i r hq
       injection h with h
       subst h
       obtain ⟨k1, k2⟩ := F2 hX hI hq hg
       exact ⟨(A3 hX hI h1 k1).1, k2⟩
      ·unfold RM at h
       split at h
       ·rename_i S2 g2 hq
        split at h
        ·rename_i k l hkl
         split at h
         ·rename_i hm
          simp only [Option.some.injEq, Prod.mk.injEq] at h
          obtain ⟨rfl, rfl⟩ := h
          have hg2 : Good T e g2 := ⟨hg.1, hg.2.1, fun x hx => by
           rw [hkl] at hx
           rcases List.mem_cons.1 hx with rfl | hx
           ·exact Pp hm
           ·exact hg.2.2 x hx⟩
          obtain ⟨k1, k2⟩ := F2 hX hI hq hg2
          exact ⟨(A3 hX hI h1 ⟨k1.1, k1.2.1, fun x hx => k1.2.2 x (List.mem_cons_of_mem _ hx)⟩).1, k2⟩
         ·cases h
        ·cases h
       ·cases h
     ·cases h
 ·rename_i hd
  have hd : draw = false := by simpa using hd
  subst hd
  simp only [Option.bind_eq_bind, Option.bind_eq_some_iff] at h
  obtain ⟨⟨fr1, rows1, g1⟩, h1, h⟩ := h
  simp only [Option.some.injEq, Prod.mk.injEq] at h
  obtain ⟨rfl, rfl⟩ := h
  obtain ⟨k1, k2⟩ := A3 hX hI h1 hg
  exact ⟨k1, rfl, fun id loc a w Q hpc hf hw hQ => wp_region_lit (k2 loc a w Q hpc hf hw hQ)⟩
end
end Rx
namespace Rx
open Go Go.RowKit
section
variable {T : Nat → List A → Bool × List A} {e : Nat → A} {n n' : Nat} {loc loc' : Loc} {P : Program} {X : Ctx} {w0 : W0}
theorem EB.C7 {x y : EB} : x.same y = true ↔ x = y := by
 cases x <;> cases y <;> simp [EB.same]
theorem Ar {x : EB} {s : St} {l : Ah} : Ah.get x ((x, s) :: l) = some s := by
 simp [Ah.get, EB.C7]
theorem AF {x y : EB} {s : St} {l : Ah} (h : x ≠ y) : Ah.get x ((y, s) :: l) = Ah.get x l := by
 have : x.same y = false := by
  cases hs : x.same y with
  | false => rfl
  | true => exact absurd (EB.C7.1 hs) h
 simp [Ah.get, this]
theorem AJ {x y : EB} (h : x ≠ y) : ∀ {l : Ah}, Ah.get x (Ah.drop y l) = Ah.get x l
 | [] => rfl
 | (z, s) :: l => by
  unfold Ah.drop
  split
  ·rename_i hz
   have hz := EB.C7.1 hz
   subst hz
   rw [AF h, AJ h]
  ·by_cases hxz : x = z
   ·subst hxz
    rw [Ar, Ar]
   ·rw [AF hxz, AF hxz, AJ h]
theorem EV {x : EB} : ∀ {l : Ah}, Ah.get x (Ah.drop x l) = none
 | [] => rfl
 | (z, s) :: l => by
  unfold Ah.drop
  split
  ·exact EV
  ·rename_i hz
   rw [AF (fun h0 => hz (EB.C7.2 h0)), EV]
def Ref (e : Nat → A) (w0 : W0) (s u : St) : Prop :=
 ∀ (loc : Loc) (tm : Array Value) (w : World), Am e s.rows.length loc s.fr tm → AV e w0 loc s.rows w → ∃ loc' : Loc, Ay s.rows.length loc loc' ∧ s.rows.length ≤ u.rows.length ∧ Am e u.rows.length loc' u.fr tm ∧ AV e w0 loc' u.rows w
theorem Ref.refl (s : St) : Ref e w0 s s := fun loc _ _ h h' => ⟨loc, Ay.refl _ _, Nat.le_refl _, h, h'⟩
theorem Ref.pc {s : St} (pc : L) : Ref e w0 s { s with pc } := fun loc _ _ h h' => ⟨loc, Ay.refl _ _, Nat.le_refl _, h, h'⟩
theorem Ref.trans {s t u : St} (h1 : Ref e w0 s t) (h2 : Ref e w0 t u) : Ref e w0 s u := fun loc tm w a b => by
 obtain ⟨l1, x1, n1, f1, c1⟩ := h1 loc tm w a b
 obtain ⟨l2, x2, n2, f2, c2⟩ := h2 l1 tm w f1 c1
 exact ⟨l2, x1.trans x2 n1, Nat.le_trans n1 n2, f2, c2⟩
theorem Tb {N r R : Nat} {k : K} {v : Value} (h : k.rel e N loc v) (hR : N ≤ R) : (US r R k).rel e (R + 1) (Az loc R (loc r)) v := by
 have hx : Ay N loc (Az loc R (loc r)) := fun s hs => by simp [Az, Nat.ne_of_lt (Nat.lt_of_lt_of_le hs hR)]
 unfold US
 split
 ·rename_i r' m
  split
  ·rename_i hr
   have hr : r' = r := by simpa using hr
   subst hr
   obtain ⟨h1, h2, h3⟩ := h
   simp only [K.ok] at h1
   refine ⟨⟨by omega, h1.2.1, fun he => ?_⟩, h2, .inr ?_⟩
   ·rw [Ai] at he ⊢
    exact h1.2.2 he
   ·rcases h3 with h3 | h3
    ·cases h3
    ·rw [h3]
     simp only [K.AZ]
     rw [Ai]
  ·exact K.Bh h hx (by omega)
 ·exact K.Bh h hx (by omega)
theorem Qg {N r R : Nat} {k : C} {v : Value} (h : k.rel e N loc v) (hR : N ≤ R) : (UM r R k).rel e (R + 1) (Az loc R (loc r)) v := by
 cases k with
 | k x => exact Tb h hR
 | clo f a b =>
  have hx : Ay N loc (Az loc R (loc r)) := fun s hs => by simp [Az, Nat.ne_of_lt (Nat.lt_of_lt_of_le hs hR)]
  exact C.Bh h hx (by omega)
 | cfn x f h' => exact h
theorem Og {N r R : Nat} (hR : N ≤ R) : ∀ {l : List C} {vs : List Value}, Ag e N loc l vs → Ag e (R + 1) (Az loc R (loc r)) (l.map (UM r R)) vs
 | [], [], _ => trivial
 | _ :: _, _ :: _, h => ⟨Qg h.1 hR, Og hR h.2⟩
theorem KB {N r R : Nat} {p : PV} {v : Value} (h : p.rel e N loc v) (hR : N ≤ R) : (Rt r R p).rel e (R + 1) (Az loc R (loc r)) v := by
 cases p with
 | one c => exact Qg h hR
 | agg l => obtain ⟨vs, h1, h2⟩ := h; exact ⟨vs, h1, Og hR h2⟩
theorem Mn {N r R : Nat} (hR : N ≤ R) : ∀ {l : List PV} {vs : List Value}, An e N loc l vs → An e (R + 1) (Az loc R (loc r)) (l.map (Rt r R)) vs
 | [], [], _ => trivial
 | _ :: _, _ :: _, h => ⟨KB h.1 hR, Mn hR h.2⟩
theorem Se {N r R : Nat} {p : SV} {v : Value} (h : p.rel e N loc v) (hR : N ≤ R) : (Uh r R p).rel e (R + 1) (Az loc R (loc r)) v := by
 cases p with
 | pv p => exact KB h hR
 | tup l => obtain ⟨vs, h1, h2⟩ := h; exact ⟨vs, h1, Mn hR h2⟩
 | cond gs p => exact ⟨fun hg => KB (h.1 hg) hR, h.2⟩
 | undef => exact h
 | junk => trivial
theorem Tc {r R : Nat} {s : St} : (OW r R s).pc = s.pc := by
 unfold OW
 split
 ·split
  ·split <;> rfl
  ·rfl
 ·rfl
theorem Sf {r R : Nat} {s : St} (h : s.rows.length ≤ R) : (OW r R s).rows.length ≤ R + 1 := by
 unfold OW
 split
 ·split
  ·split
   ·simp [AD, Aq]; omega
   ·omega
  ·omega
 ·omega
theorem Sg {r R : Nat} {s : St} : Ref e w0 s (OW r R s) := by
 unfold OW
 split
 ·rename_i row hrow
  split
  ·rename_i q hq
   split
   ·rename_i hc
    simp only [Bool.and_eq_true, decide_eq_true_eq] at hc
    obtain ⟨c1, c2⟩ := hc
    intro loc tm w hf hcl
    have hlen : (Aq (s.rows.set r Row.dead) R).length = R := by simp [Aq]; omega
    obtain ⟨B, hB, hR, hbel⟩ := hcl
    have hl := (hR.lst r row q hrow hq).2
    have hr1 := Ab hrow
    have hadd := ((hR.kill r).pad R).N3 (x := loc r) (q := q) c1 (fun he s' y hs ho => ?_) (hl.at_ (by rw [hlen]; exact Ai _ _ _))
    ·rw [hlen] at hadd
     refine ⟨Az loc R (loc r), fun s' hs' => by simp [Az, Nat.ne_of_lt (Nat.lt_of_lt_of_le hs' c2)], by simp only [AD, List.length_append, hlen]; simp; omega, ?_, B, hB, hadd, hbel⟩
     have hlen2 : (AD (Aq (s.rows.set r Row.dead) R) q).length = R + 1 := by simp [AD, hlen]
     rw [hlen2]
     refine ⟨by simpa using hf.len, fun i t v ht hv => ?_⟩
     rw [List.getElem?_map] at ht
     cases hs : s.fr[i]? with
     | none => rw [hs] at ht; cases ht
     | some x =>
      rw [hs] at ht
      simp only [Option.map_some, Option.some.injEq] at ht
      subst ht
      exact Se (hf.at_ i x v hs hv) c2
    ·have hy : s' ≠ r ∧ s.rows[s']? = some y := by
      unfold Aq at hs
      rw [List.getElem?_append] at hs
      split at hs
      ·by_cases hsr : s' = r
       ·subst hsr
        rw [List.getElem?_set_self hr1] at hs
        injection hs with hs
        subst hs
        rcases ho with ho | ⟨_, ho, _⟩ <;> simp [Row.dead] at ho
       ·exact ⟨hsr, by rwa [List.getElem?_set_ne (Ne.symm hsr)] at hs⟩
      ·have := List.mem_of_getElem? hs
       rw [List.mem_replicate] at this
       rw [this.2] at ho
       rcases ho with ho | ⟨_, ho, _⟩ <;> simp [Row.dead] at ho
     refine (hR.lapart r s' row y hrow hy.2 ⟨q, hq, c1, he⟩ ?_).symm
     rcases ho with ho | ho
     ·exact .inl ho
     ·exact .inr ⟨ho, Ne.symm hy.1⟩
   ·exact Ref.refl _
  ·exact Ref.refl _
 ·exact Ref.refl _
theorem Sh {i R : Nat} {q : Option EZ} {s : St} : (JT i R q s).pc = s.pc := by
 unfold JT
 split
 ·split
  ·split <;> rfl
  ·rfl
 ·rfl
theorem QP {i R : Nat} {q : Option EZ} {s : St} (h : s.rows.length ≤ R) : (JT i R q s).rows.length ≤ R + 1 := by
 unfold JT
 split
 ·split
  ·split
   ·simp [AD, Aq]; omega
   ·omega
  ·omega
 ·omega
theorem QQ {i R : Nat} {o : Option EZ} {s : St} : Ref e w0 s (JT i R o s) := by
 unfold JT
 split
 ·rename_i q
  split
  ·rename_i hi
   split
   ·rename_i hc
    simp only [Bool.and_eq_true, decide_eq_true_eq, bne_iff_ne, ne_eq] at hc
    obtain ⟨⟨c0, c1⟩, c2⟩ := hc
    intro loc tm w hf hcl
    have hlen : (Aq s.rows R).length = R := by simp [Aq]; omega
    obtain ⟨B, hB, hR, hbel⟩ := hcl
    have hadd := (hR.pad R).N3 (x := Kv) (q := { own := true, ty := q.ty, ss := q.ss, x := .e, n := .n 0 }) rfl (fun he => by cases he) (by
     refine ⟨[], 0, rfl, by simp, rfl, Nat.pos_of_ne_zero c1, ?_⟩
     rw [if_pos rfl, Ai, if_pos (show Kv.emp = true from rfl)]
     exact ⟨rfl, rfl⟩)
    rw [hlen] at hadd
    have hx : Ay s.rows.length loc (Az loc R Kv) := fun s' hs' => by simp [Az, Nat.ne_of_lt (Nat.lt_of_lt_of_le hs' c2)]
    have hlen2 : (AD (Aq s.rows R) { own := true, ty := q.ty, ss := q.ss, x := .e, n := .n 0 }).length = R + 1 := by simp [AD, hlen]
    refine ⟨Az loc R Kv, hx, by show s.rows.length ≤ (AD _ _).length; rw [hlen2]; exact Nat.le_succ_of_le c2, ?_, B, hB, hadd, hbel⟩
    show Am e (AD _ _).length _ _ _
    rw [hlen2]
    refine ⟨by simpa using hf.len, fun j t v ht hv => ?_⟩
    by_cases hj : i = j
    ·subst hj
     rw [List.getElem?_set_self (Ab hi)] at ht
     injection ht with ht
     subst ht
     have := hf.at_ i _ v hi hv
     have hv' : v = .slice none 0 0 := by
      have h3 := this.2.2
      rcases h3 with h3 | h3
      ·cases h3
      ·exact h3
     refine ⟨⟨by omega, by simp, fun _ => ⟨by rw [Ai]; rfl, by simp⟩⟩, this.2.1, .inr ?_⟩
     rw [hv']
     simp only [K.AZ]
     rw [Ai]
     rfl
    ·rw [List.getElem?_set_ne hj] at ht
     exact SV.Bh (hf.at_ j t v ht hv) hx (by omega)
   ·exact Ref.refl _
  ·exact Ref.refl _
 ·exact Ref.refl _
theorem Qh {x : Nat × Bool} {R : Nat} {q : Option EZ} {s : St} : (Ld x R q s).pc = s.pc := by
 unfold Ld
 split
 ·exact Tc
 ·exact Sh
theorem Oh {x : Nat × Bool} {R : Nat} {q : Option EZ} {s : St} (h : s.rows.length ≤ R) : (Ld x R q s).rows.length ≤ R + 1 := by
 unfold Ld
 split
 ·exact Sf h
 ·exact QP h
theorem Oi {x : Nat × Bool} {R : Nat} {q : Option EZ} {s : St} : Ref e w0 s (Ld x R q s) := by
 unfold Ld
 split
 ·exact Sg
 ·exact QQ
theorem Jm : ∀ {l : List ((Nat × Bool) × (Nat × Bool))} {R : Nat} {s t : St}, s.rows.length ≤ R → t.rows.length ≤ R →
  Ref e w0 s (E1 l R (s, t)).1 ∧ Ref e w0 t (E1 l R (s, t)).2 ∧ (E1 l R (s, t)).1.pc = s.pc ∧ (E1 l R (s, t)).2.pc = t.pc
 | [], R, s, t, _, _ => ⟨Ref.refl _, Ref.refl _, rfl, rfl⟩
 | (a, b) :: l, R, s, t, hs, ht => by
  obtain ⟨h1, h2, h3, h4⟩ := Jm (l := l) (R := R + 1) (s := Ld a R (PR b t) s) (t := Ld b R (PR a s) t) (Oh hs) (Oh ht)
  exact ⟨Oi.trans h1, Oi.trans h2, h3.trans Qh, h4.trans Qh⟩
theorem Ad.Si {rows rows' : List Row} {w : World} {B : Bd} (h : Ad e loc rows w B) (hl : rows'.length = rows.length)
  (hr : ∀ (r : Nat) x', rows'[r]? = some x' → ∃ x, rows[r]? = some x ∧ x'.own = x.own ∧ x'.ty = x.ty ∧ x'.es = x.es ∧ x'.lst = x.lst ∧ (x' = x ∨ (x.own = true ∧ ∀ vs, Ag e rows.length loc x.cells vs → Ag e rows.length loc x'.cells vs))) : Ad e loc rows' w B := by
 have lo : ∀ {r : Nat} {x x' : Row}, x'.lst = x.lst → Bp loc r x' → Bp loc r x := fun {r x x'} hx ⟨q, q1, q2, q3⟩ => ⟨q, by rw [← hx]; exact q1, q2, q3⟩
 refine ⟨fun r x' hx => ?_, fun r x' q hx hq => ?_, fun r s x' y' hx hy ox oy => ?_, fun r s x' y' hx hy ox oy hne => ?_⟩
 ·obtain ⟨x, h1, h2, h3, h4, h5, h6⟩ := hr r x' hx
  rcases h6 with rfl | ⟨h6, h7⟩
  ·rw [hl]; exact h.row r _ h1
  ·have := h.row r x h1
   unfold Au at this ⊢
   rw [if_pos h6] at this
   rw [if_pos (h2.trans h6), h3, h4, hl]
   obtain ⟨a1, a2, a3, a4, vs, sp, a5, a6, a7⟩ := this
   exact ⟨a1, a2, a3, a4, vs, sp, a5, h7 vs a6, a7⟩
 ·obtain ⟨x, h1, h2, h3, h4, h5, h6⟩ := hr r x' hx
  rw [h5] at hq
  obtain ⟨k1, k2⟩ := h.lst r x q h1 hq
  exact ⟨h2.trans k1, k2⟩
 ·obtain ⟨x, h1, h2, _, _, h5, _⟩ := hr r x' hx
  obtain ⟨y, g1, g2, _, _, g5, _⟩ := hr s y' hy
  refine h.lapart r s x y h1 g1 (lo h5 ox) ?_
  rcases oy with oy | ⟨oy, hne⟩
  ·exact .inl (g2.symm.trans oy)
  ·exact .inr ⟨lo g5 oy, hne⟩
 ·obtain ⟨x, h1, h2, _⟩ := hr r x' hx
  obtain ⟨y, g1, g2, _⟩ := hr s y' hy
  exact h.apart r s x y h1 g1 (h2.symm.trans ox) (g2.symm.trans oy) hne
section
variable {N r R : Nat} {q : L}
theorem Td (hq : ∀ (v : Value), (K.lsl r q).rel e N loc v → (K.fsl R q).rel e N loc v) {k : K} {v : Value} (h : k.rel e N loc v) : (UT r R q k).rel e N loc v := by
 unfold UT
 split
 ·split
  ·rename_i hr
   have hr := eq_of_beq hr
   subst hr
   split
   ·rename_i hn
    have := L.Ae hn
    subst this
    exact hq v h
   ·exact K.BI h
  ·exact h
 ·exact h
theorem Qi (hq : ∀ (v : Value), (K.lsl r q).rel e N loc v → (K.fsl R q).rel e N loc v) {k : C} {v : Value} (h : k.rel e N loc v) : (Ui r R q k).rel e N loc v := by
 cases k with
 | k x => exact Td hq h
 | clo f a b => exact h
 | cfn x f h' => exact h
theorem KC (hq : ∀ (v : Value), (K.lsl r q).rel e N loc v → (K.fsl R q).rel e N loc v) : ∀ {l : List C} {vs : List Value}, Ag e N loc l vs → Ag e N loc (l.map (Ui r R q)) vs
 | [], [], _ => trivial
 | _ :: _, _ :: _, h => ⟨Qi hq h.1, KC hq h.2⟩
theorem KD (hq : ∀ (v : Value), (K.lsl r q).rel e N loc v → (K.fsl R q).rel e N loc v) {p : PV} {v : Value} (h : p.rel e N loc v) : (Ru r R q p).rel e N loc v := by
 cases p with
 | one c => exact Qi hq h
 | agg l => obtain ⟨vs, h1, h2⟩ := h; exact ⟨vs, h1, KC hq h2⟩
theorem Mo (hq : ∀ (v : Value), (K.lsl r q).rel e N loc v → (K.fsl R q).rel e N loc v) : ∀ {l : List PV} {vs : List Value}, An e N loc l vs → An e N loc (l.map (Ru r R q)) vs
 | [], [], _ => trivial
 | _ :: _, _ :: _, h => ⟨KD hq h.1, Mo hq h.2⟩
theorem Sj (hq : ∀ (v : Value), (K.lsl r q).rel e N loc v → (K.fsl R q).rel e N loc v) {p : SV} {v : Value} (h : p.rel e N loc v) : (TD r R q p).rel e N loc v := by
 cases p with
 | pv p => exact KD hq h
 | tup l => obtain ⟨vs, h1, h2⟩ := h; exact ⟨vs, h1, Mo hq h2⟩
 | cond gs p => exact ⟨fun hg => KD hq (h.1 hg), h.2⟩
 | undef => exact h
 | junk => trivial
end
theorem Oj {r R : Nat} {s : St} : (GP r R s).pc = s.pc := by
 unfold GP
 split
 ·split
  ·split <;> rfl
  ·rfl
 ·rfl
theorem Mp {r R : Nat} {s : St} (h : s.rows.length ≤ R) : (GP r R s).rows.length ≤ R + 1 := by
 unfold GP
 split
 ·split
  ·split
   ·simp [Aq]; omega
   ·omega
  ·omega
 ·omega
theorem D9 {l : List Row} {R : Nat} (h : l.length ≤ R) : (Aq l R).length = R := by simp [Aq]; omega
theorem Ref.Kf {s : St} {R : Nat} {x : Row} {fr : List SV} {rows : List Row} {pc : L} (hR : s.rows.length ≤ R)
  (hrl : rows.length = R + 1)
  (h : ∀ (loc : Loc) (tm : Array Value) (w : World) (B : Bd), Am e s.rows.length loc s.fr tm → Ad e loc s.rows w B → B.le w → ∃ (F : Nat → Prop) (v : Value), (∀ k, B.F k → F k) ∧ (∀ k, F k → B.F k ∨ (B.n ≤ k ∧ k < w.heap.size)) ∧ ∃ rows0 : List Row, rows0.length ≤ R ∧
   Ad e loc rows0 w ⟨B.n, F⟩ ∧ Dt e (BO ⟨B.n, F⟩ w) x v ∧
   (∀ loc', Ay R loc loc' → loc' R = Dd v → Am e (R + 1) loc' s.fr tm → Ad e loc' (Aq rows0 R ++ [x]) w ⟨B.n, F⟩ → Am e (R + 1) loc' fr tm ∧ Ad e loc' rows w ⟨B.n, F⟩)) : Ref e w0 s ⟨fr, rows, pc⟩ := by
 intro loc tm w hf hcl
 obtain ⟨B, ⟨hBn, hBF, hBl⟩, hR0, hbel⟩ := hcl
 obtain ⟨F, v, f1, f2, rows0, hl0, hR1, hx, hfin⟩ := h loc tm w B hf hR0 hBl
 have hpl := D9 hl0
 have hadd := (hR1.pad R).Kf (news := [x]) (vs := [v]) fun t row ht => by
  cases t with
  | zero =>
   simp only [List.getElem?_cons_zero, Option.some.injEq] at ht
   subst ht
   exact ⟨v, rfl, hx⟩
  | succ t => simp at ht
 rw [hpl] at hadd
 have hx1 : Ay R loc (BP loc R [v]) := BB loc R [v]
 have hat : BP loc R [v] R = Dd v := by have := CL loc R [v] (t := 0) rfl; simpa using this
 obtain ⟨k1, k2⟩ := hfin _ hx1 hat (hf.ext (fun r hr => hx1 r (by omega)) (by omega)) hadd
 refine ⟨_, fun r hr => hx1 r (by omega), by show s.rows.length ≤ rows.length; omega, by show Am e rows.length _ fr tm; rw [hrl]; exact k1, ⟨B.n, F⟩, ⟨hBn, fun k hk => ?_, hBl.1, fun k hk => ?_⟩, k2, hbel⟩
 ·rcases f2 k hk with h1 | h1
  ·exact hBF k h1
  ·exact .inr h1.1
 ·rcases f2 k hk with h1 | h1
  ·exact hBl.2 k h1
  ·exact h1.2
theorem Mq {r R : Nat} {s : St} : Ref e w0 s (GP r R s) := by
 unfold GP
 split
 ·rename_i row hrow
  split
  ·rename_i q hq
   split
   ·rename_i hc
    simp only [Bool.and_eq_true, decide_eq_true_eq] at hc
    obtain ⟨c1, c2⟩ := hc
    have hr1 := Ab hrow
    refine Ref.Kf (x := Bb q.ss q.x q.n) c2 (by simp [Aq]; omega) fun loc tm w B hf hR0 hBl => ?_
    obtain ⟨as, m, l1, l2, l3, l4, l5⟩ := (hR0.lst r row q hrow hq).2
    rw [if_pos c1] at l5
    have rest : ∀ (v : Value), (∀ u, (K.lsl r q.n).rel e (R + 1) loc u → u = v ∧ ∃ a c, v = .slice a m c) → ∀ (F : Nat → Prop), ∀ loc', Ay R loc loc' → loc' R = Dd v → Am e (R + 1) loc' s.fr tm → Ad e loc' (Aq (s.rows.set r Row.dead) R ++ [Bb q.ss q.x q.n]) w ⟨B.n, F⟩ →
      Am e (R + 1) loc' (s.fr.map (TD r R q.n)) tm ∧ Ad e loc' ((Aq (s.rows.set r Row.dead) R ++ [Bb q.ss q.x q.n]).map (Rv r R q.n)) w ⟨B.n, F⟩ := fun v hv F loc' hx hat hf' hR' => by
     have hpl : (Aq (s.rows.set r Row.dead) R).length = R := D9 (by simpa using c2)
     have hq' : ∀ u, (K.lsl r q.n).rel e (R + 1) loc' u → (K.fsl R q.n).rel e (R + 1) loc' u := fun u hu => by
      have hlr : loc' r = loc r := hx r (by omega)
      have hu0 : (K.lsl r q.n).rel e (R + 1) loc u := by
       obtain ⟨h1, h2, h3⟩ := hu
       simp only [K.ok, K.AZ, hlr] at h1 h3
       exact ⟨h1, h2, h3⟩
      obtain ⟨rfl, a, c, hv2⟩ := hv u hu0
      refine ⟨⟨by omega, hu.1.2.1, a, c, by rw [hat, BY, l3]; simpa using hv2⟩, hu.2.1, .inr ?_⟩
      simp only [K.AZ]
      rw [hat, BY]
     refine ⟨⟨by simpa using hf'.len, fun i t u ht hu => ?_⟩, hR'.Si (by simp) fun r' x' hx' => ?_⟩
     ·rw [List.getElem?_map] at ht
      cases hs : s.fr[i]? with
      | none => rw [hs] at ht; cases ht
      | some y =>
       rw [hs] at ht
       simp only [Option.map_some, Option.some.injEq] at ht
       subst ht
       exact Sj hq' (hf'.at_ i y u hs hu)
     ·rw [List.getElem?_map] at hx'
      cases hs : (Aq (s.rows.set r Row.dead) R ++ [Bb q.ss q.x q.n])[r']? with
      | none => rw [hs] at hx'; cases hx'
      | some y =>
       rw [hs] at hx'
       simp only [Option.map_some, Option.some.injEq] at hx'
       subst hx'
       refine ⟨y, rfl, ?_⟩
       unfold Rv
       split
       ·rename_i ho
        refine ⟨rfl, rfl, rfl, rfl, .inr ⟨ho, fun vs hvs => ?_⟩⟩
        have hll : (Aq (s.rows.set r Row.dead) R ++ [Bb q.ss q.x q.n]).length = R + 1 := by simp [hpl]
        rw [hll] at hvs ⊢
        exact KC hq' hvs
       ·exact ⟨rfl, rfl, rfl, rfl, .inl rfl⟩
    cases he : (loc r).emp
    ·rw [if_neg (by simp [he])] at l5
     obtain ⟨g1, g2, g3, us, sp, g4, g5, g6⟩ := l5
     have hF : ∀ k, B.F k → (B.F k ∨ k = (loc r).blk) := fun k hk => .inl hk
     have hm : ∀ a u, BO B w a = some u → BO ⟨B.n, fun k => B.F k ∨ k = (loc r).blk⟩ w a = some u := GA hF fun _ _ => rfl
     refine ⟨fun k => B.F k ∨ k = (loc r).blk, .slice (some ⟨(loc r).blk, 0, none⟩) m (loc r).cap, hF, fun k hk => ?_, s.rows.set r Row.dead, by simpa using c2, (hR0.kill r).NV hF fun s' x hs ho => ?_, ⟨rfl, rfl, _, as, m, rfl, rfl, l4, l1, l2, l3, ?_⟩, rest _ (fun u hu => ?_) _⟩
     ·rcases hk with hk | rfl
      ·exact .inl hk
      ·exact .inr ⟨g2.1, D1 g4⟩
     ·intro h0
      by_cases hsr : s' = r
      ·subst hsr
       rw [List.getElem?_set_self hr1] at hs
       injection hs with hs
       subst hs
       rcases ho with ho | ⟨_, ho, _⟩ <;> simp [Row.dead] at ho
      ·rw [List.getElem?_set_ne (Ne.symm hsr)] at hs
       have hlo : Bp loc r row := ⟨q, hq, c1, he⟩
       rcases h0 with h0 | h0
       ·rcases ho with ho | ho
        ·have := hR0.row s' x hs
         unfold Au at this
         rw [if_pos ho] at this
         exact this.2.2.1.2 h0
        ·exact (hR0.NU hs ho).2.2 h0
       ·refine hR0.lapart r s' row x hrow hs hlo ?_ h0.symm
        rcases ho with ho | ho
        ·exact .inl ho
        ·exact .inr ⟨ho, Ne.symm hsr⟩
     ·have hul : us.length = as.length := g6.1
      by_cases hm0 : as = []
      ·subst hm0
       have : m = 0 := by
        rcases Nat.mul_eq_zero.1 (show m * q.ss.length = 0 from l2.symm) with h | h
        ·exact h
        ·omega
       subst this
       exact .emp
      ·refine .sl (by
        have : m * q.ss.length ≤ (loc r).cap * q.ss.length := by
         rw [← g5, List.length_append, hul, l2]
         exact Nat.le_add_right _ _
        exact Nat.le_of_mul_le_mul_right this l4) l4 l2 hul (fun j u hu => ?_) (fun j s' a u h1 h2 h3 => (g6.2 j s' a u h1 h2 h3).mono hm)
       refine CS ?_ (.inr rfl)
       simp only [World.cell?, g4, Nat.zero_add]
       simp [List.getElem?_append_left (Ab hu), hu]
     ·obtain ⟨h1, _, h3⟩ := hu
      rcases h3 with h3 | h3
      ·cases h3
      ·simp only [K.AZ, he, Bool.false_eq_true, if_false] at h3
       rw [g1, l3] at h3
       exact ⟨by simpa using h3, _, _, rfl⟩
    ·rw [if_pos he] at l5
     have has : as = [] := List.eq_nil_of_length_eq_zero (by rw [l2, l5.1]; simp)
     subst has
     refine ⟨B.F, .slice none 0 0, fun k hk => hk, fun k hk => .inl hk, s.rows.set r Row.dead, by simpa using c2, hR0.kill r, ⟨rfl, rfl, _, [], m, rfl, rfl, l4, l1, l2, l3, .emp⟩, rest _ (fun u hu => ?_) _⟩
     obtain ⟨h1, _, h3⟩ := hu
     rcases h3 with h3 | h3
     ·cases h3
     ·simp only [K.AZ, he, if_true] at h3
      exact ⟨h3.trans l5.2, none, 0, by rw [l5.1]⟩
   ·exact Ref.refl _
  ·exact Ref.refl _
 ·exact Ref.refl _
theorem Ol {s : St} {p : Pos} {k : K} (h : Uj s p = some k) : (∃ i, p = .slot i ∧ s.fr[i]? = some (.pv (.one (.k k)))) ∨ (∃ r j row, p = .cell r j ∧ s.rows[r]? = some row ∧ row.own = true ∧ row.cells[j]? = some (.k k)) := by
 unfold Uj at h
 split at h
 ·rename_i i
  split at h
  ·injection h with h; subst h; exact .inl ⟨i, rfl, ‹_›⟩
  ·cases h
 ·rename_i r j
  split at h
  ·rename_i row hrow
   split at h
   ·rename_i k' hk
    split at h
    ·rename_i ho
     injection h with h; subst h
     exact .inr ⟨r, j, row, rfl, hrow, ho, hk⟩
    ·cases h
   ·cases h
  ·cases h
theorem G2 {N : Nat} {k : C} : ∀ {l : List C} {vs : List Value} {j : Nat} {c : C}, l[j]? = some c → (∀ v, c.rel e N loc v → k.rel e N loc v) → Ag e N loc l vs → Ag e N loc (l.set j k) vs
 | [], _, _, _, h, _, _ => by simp at h
 | a :: l, [], _, _, _, _, h => h.elim
 | a :: l, v :: vs, 0, c, h, hk, hv => by
  simp only [List.getElem?_cons_zero, Option.some.injEq] at h
  subst h
  exact ⟨hk v hv.1, hv.2⟩
 | a :: l, v :: vs, j + 1, c, h, hk, hv => ⟨hv.1, G2 (by simpa using h) hk hv.2⟩
theorem Sk {s : St} {p : Pos} {R : Nat} {k : K} {ss : List Ak} {x n : L} (hk : Uj s p = some k) (hR : s.rows.length ≤ R)
  (h : ∀ (loc : Loc) (w : World) (B : Bd), Ad e loc s.rows w B → (∃ u, k.rel e s.rows.length loc u) → ∃ v, Dt e (BO B w) (Bb ss x n) v ∧ ∀ u, k.rel e (R + 1) loc u → u = v) :
  Ref e w0 s (FE { s with rows := Aq s.rows R ++ [Bb ss x n] } p (.fsl R n)) := by
 have hpl := D9 hR
 have hlen : ∀ {s' : St}, (FE s' p (.fsl R n)).rows.length = s'.rows.length := fun {s'} => by
  unfold FE
  split
  ·rfl
  ·split <;> simp
 have hpc : ∀ {s' : St}, (FE s' p (.fsl R n)).pc = s'.pc := fun {s'} => by
  unfold FE
  split
  ·rfl
  ·split <;> rfl
 intro loc tm w hf hcl
 refine (Ref.Kf (e := e) (w0 := w0) (s := s) (R := R) (x := Bb ss x n) (fr := (FE { s with rows := Aq s.rows R ++ [Bb ss x n] } p (.fsl R n)).fr) (rows := (FE { s with rows := Aq s.rows R ++ [Bb ss x n] } p (.fsl R n)).rows) (pc := (FE { s with rows := Aq s.rows R ++ [Bb ss x n] } p (.fsl R n)).pc) hR (by rw [hlen]; simp [hpl]) fun loc tm w B hf hR0 hBl => ?_) loc tm w hf hcl
 have hu0 : ∃ u, k.rel e s.rows.length loc u := by
  rcases Ol hk with ⟨i, _, hi⟩ | ⟨r, j, row, _, hrow, ho, hc⟩
  ·obtain ⟨v, _, _, h3⟩ := hf.get hi
   exact ⟨v, h3⟩
  ·obtain ⟨v, _, h3⟩ := hR0.cell hrow hc
   exact ⟨v, h3⟩
 obtain ⟨v, hx, hv⟩ := h loc w B hR0 hu0
 refine ⟨B.F, v, fun k hk => hk, fun k hk => .inl hk, s.rows, hR, hR0, hx, fun loc' hx1 hat hf' hR' => ?_⟩
 have hll : (Aq s.rows R ++ [Bb ss x n]).length = R + 1 := by simp [hpl]
 have hkk : ∀ u, k.rel e s.rows.length loc u → (K.fsl R n).rel e (R + 1) loc' u := fun u hu => by
  have e1 := hv u (K.Bh hu (Ay.refl _ _) (by omega))
  subst e1
  obtain ⟨_, _, q, as, m, q1, q2, q3, q4, q5, q6, q7⟩ := hx
  simp only [Bb, Option.some.injEq] at q1
  subst q1
  obtain ⟨as', m', c, b, k1, k2, k3, k4⟩ := q7.slice
  injection k1 with k1
  subst k1
  have : m' = m := Nat.eq_of_mul_eq_mul_right q3 (by rw [← k3, q5])
  subst this
  refine ⟨⟨by omega, by rw [q6]; omega, b, c, by rw [hat, BY, q6]; simpa using k2⟩, hu.2.1, .inr ?_⟩
  simp only [K.AZ]
  rw [hat, BY]
 rcases Ol hk with ⟨i, rfl, hi⟩ | ⟨r, j, row, rfl, hrow, ho, hc⟩
 ·refine ⟨?_, hR'⟩
  refine ⟨by simpa [FE] using hf'.len, fun i' t u ht hu => ?_⟩
  simp only [FE] at ht
  by_cases hii : i = i'
  ·subst hii
   rw [List.getElem?_set_self (Ab hi)] at ht
   injection ht with ht
   subst ht
   exact hkk u (hf.at_ i _ u hi hu)
  ·rw [List.getElem?_set_ne hii] at ht
   exact hf'.at_ i' t u ht hu
 ·have hr1 := Ab hrow
  have hrow' : (Aq s.rows R ++ [Bb ss x n])[r]? = some row := by
   rw [List.getElem?_append_left (by omega)]
   unfold Aq
   rw [List.getElem?_append_left hr1]
   exact hrow
  have hput : FE { s with rows := Aq s.rows R ++ [Bb ss x n] } (.cell r j) (.fsl R n) = { s with rows := (Aq s.rows R ++ [Bb ss x n]).set r { row with cells := row.cells.set j (.k (.fsl R n)) } } := by
   simp only [FE, hrow']
  rw [hput]
  refine ⟨hf', hR'.Si (by simp) fun r' x' hx' => ?_⟩
  by_cases hrr : r = r'
  ·subst hrr
   rw [List.getElem?_set_self (by omega)] at hx'
   injection hx' with hx'
   subst hx'
   refine ⟨row, hrow', rfl, rfl, rfl, rfl, .inr ⟨ho, fun vs hvs => ?_⟩⟩
   have hrow0 := hR0.row r row hrow
   unfold Au at hrow0
   rw [if_pos ho] at hrow0
   obtain ⟨_, _, _, _, vs0, sp0, b5, b6, _⟩ := hrow0
   have hrow1 := hR'.row r row hrow'
   rw [hll] at hvs ⊢
   refine G2 (c := .k k) hc (fun u hu => ?_) hvs
   refine hkk u ?_
   obtain ⟨u1, _, h3⟩ := hR0.cell hrow hc
   have h3' : k.rel e (R + 1) loc' u1 := K.Bh h3 (fun r hr => hx1 r (by omega)) (by omega)
   have hs : k.Ck = true := by
    cases k with
    | junk =>
     have e1 := hv u (K.BI (k := .junk) hu)
     have hb : (PV.one (.k .junk)).rel e (R + 1) loc (.bool true) := K.BI (k := .bool (.t true)) ⟨trivial, rfl, .inr rfl⟩
     have hb2 : (PV.one (.k .junk)).rel e (R + 1) loc (.bool false) := K.BI (k := .bool (.t false)) ⟨trivial, rfl, .inr rfl⟩
     have e2 := hv _ hb
     have e3 := hv _ hb2
     rw [← e2] at e3
     cases e3
    | _ => rfl
   rw [K.BW hs hu h3']
   exact h3
  ·rw [List.getElem?_set_ne hrr] at hx'
   exact ⟨x', hx', rfl, rfl, rfl, rfl, .inl rfl⟩
theorem Om {p : Pos} {R : Nat} {ss : List Ak} {s : St} : Ref e w0 s (Le p R ss s) := by
 unfold Le
 split
 ·rename_i r n hk
  split
  ·rename_i row hrow
   split
   ·rename_i q hq
    split
    ·rename_i hc
     simp only [Bool.and_eq_true, Bool.not_eq_true', decide_eq_true_eq] at hc
     obtain ⟨⟨c1, c2⟩, c3⟩ := hc
     have c2 := L.Ae c2
     refine Sk hk c3 fun loc w B hR0 _ => ?_
     obtain ⟨as, m, l1, l2, l3, l4, l5⟩ := (hR0.lst r row q hrow hq).2
     rw [if_neg (by simp [c1])] at l5
     refine ⟨(loc r).v, ⟨rfl, rfl, _, as, m, rfl, rfl, l4, l1, l2, l3, l5.2⟩, fun u hu => ?_⟩
     rcases hu.2.2 with h3 | h3
     ·cases h3
     ·exact h3
    ·exact Ref.refl _
   ·exact Ref.refl _
  ·exact Ref.refl _
 ·rename_i hk
  split
  ·rename_i hc
   simp only [Bool.and_eq_true, bne_iff_ne, ne_eq, decide_eq_true_eq] at hc
   obtain ⟨c1, c2⟩ := hc
   refine Sk hk c2 fun loc w B hR0 _ => ⟨.slice none 0 0, ⟨rfl, rfl, _, [], 0, rfl, rfl, Nat.pos_of_ne_zero c1, rfl, by simp, rfl, .emp⟩, fun u hu => ?_⟩
   rcases hu.2.2 with h3 | h3
   ·cases h3
   ·exact h3
  ·exact Ref.refl _
 ·exact Ref.refl _
theorem Qj {p : Pos} {R : Nat} {ss : List Ak} {s : St} : (Le p R ss s).pc = s.pc := by
 have hpc : ∀ {s' : St} {k : K}, (FE s' p k).pc = s'.pc := fun {s' k} => by
  unfold FE
  split
  ·rfl
  ·split <;> rfl
 unfold Le
 split
 ·split
  ·split
   ·split
    ·exact hpc
    ·rfl
   ·rfl
  ·rfl
 ·split
  ·exact hpc
  ·rfl
 ·rfl
theorem On {p : Pos} {R : Nat} {ss : List Ak} {s : St} (h : s.rows.length ≤ R) : (Le p R ss s).rows.length ≤ R + 1 := by
 have hlen : ∀ {s' : St} {k : K}, (FE s' p k).rows.length = s'.rows.length := fun {s' k} => by
  unfold FE
  split
  ·rfl
  ·split <;> simp
 have hp : ∀ (x : Row), (Aq s.rows R ++ [x]).length = R + 1 := fun x => by simp [D9 h]
 unfold Le
 split
 ·split
  ·split
   ·split
    ·rw [hlen, hp]; exact Nat.le_refl _
    ·omega
   ·omega
  ·omega
 ·split
  ·rw [hlen, hp]; exact Nat.le_refl _
  ·omega
 ·omega
theorem KE : ∀ {l : List Nat} {R : Nat} {s t : St}, s.rows.length ≤ R → t.rows.length ≤ R →
  Ref e w0 s (Hf l R (s, t)).1 ∧ Ref e w0 t (Hf l R (s, t)).2 ∧ (Hf l R (s, t)).1.pc = s.pc ∧ (Hf l R (s, t)).2.pc = t.pc
 | [], R, s, t, _, _ => ⟨Ref.refl _, Ref.refl _, rfl, rfl⟩
 | r :: l, R, s, t, hs, ht => by
  obtain ⟨h1, h2, h3, h4⟩ := KE (l := l) (R := R + 1) (s := GP r R s) (t := GP r R t) (Mp hs) (Mp ht)
  exact ⟨Mq.trans h1, Mq.trans h2, h3.trans Oj, h4.trans Oj⟩
theorem Mr : ∀ {l : List (Pos × K × K)} {R : Nat} {s t : St}, s.rows.length ≤ R → t.rows.length ≤ R →
  Ref e w0 s (LP l R (s, t)).1 ∧ Ref e w0 t (LP l R (s, t)).2 ∧ (LP l R (s, t)).1.pc = s.pc ∧ (LP l R (s, t)).2.pc = t.pc
 | [], R, s, t, _, _ => ⟨Ref.refl _, Ref.refl _, rfl, rfl⟩
 | (p, _, _) :: l, R, s, t, hs, ht => by
  obtain ⟨h1, h2, h3, h4⟩ := Mr (l := l) (R := R + 1) (s := Le p R (SX p t) s) (t := Le p R (SX p s) t) (On hs) (On ht)
  exact ⟨Om.trans h1, Om.trans h2, h3.trans Qj, h4.trans Qj⟩
theorem Lx {s t : St} : Ref e w0 s (Cm s t).1 ∧ Ref e w0 t (Cm s t).2 ∧ (Cm s t).1.pc = s.pc ∧ (Cm s t).2.pc = t.pc := by
 unfold Cm
 obtain ⟨a1, a2, a3, a4⟩ := Jm (e := e) (w0 := w0) (l := He s.fr t.fr 0 []) (R := max s.rows.length t.rows.length) (s := s) (t := t) (by omega) (by omega)
 generalize E1 (He s.fr t.fr 0 []) (max s.rows.length t.rows.length) (s, t) = x at a1 a2 a3 a4 ⊢
 obtain ⟨s1, t1⟩ := x
 simp only at a1 a2 a3 a4
 unfold Rw
 split
 ·exact ⟨a1, a2, a3, a4⟩
 ·rename_i ps hps
  obtain ⟨b1, b2, b3, b4⟩ := KE (e := e) (w0 := w0) (l := LO (JU s1 t1)) (R := E2 (s1, t1)) (s := s1) (t := t1) (by simp only [E2]; omega) (by simp only [E2]; omega)
  simp only
  generalize Hf (LO (JU s1 t1)) (E2 (s1, t1)) (s1, t1) = y at b1 b2 b3 b4 ⊢
  obtain ⟨s2, t2⟩ := y
  simp only at b1 b2 b3 b4
  obtain ⟨d1, d2, d3, d4⟩ := Mr (e := e) (w0 := w0) (l := JU s2 t2) (R := E2 (s2, t2)) (s := s2) (t := t2) (by simp only [E2]; omega) (by simp only [E2]; omega)
  exact ⟨a1.trans (b1.trans d1), a2.trans (b2.trans d2), d3.trans (b3.trans a3), d4.trans (b4.trans a4)⟩
theorem Nw {c : L} {both : Option (L × L × L)} {s t : L} {g : G} (h : Good T e (DX c both s t g).2)
  (hb : ∀ p x y, both = some (p, x, y) → (x.ev e).bool = ((p.ev e).bool && (c.ev e).bool) ∧ (y.ev e).bool = ((p.ev e).bool && !(c.ev e).bool)) :
  Good T e g ∧ ((DX c both s t g).1.ev e).bool = ((pick (c.ev e).bool s t).ev e).bool := by
 unfold DX at h ⊢
 split at h
 ·rename_i p x y
  split at h
  ·rename_i hs
   simp only [hs, if_true]
   simp only [Bool.and_eq_true] at hs
   obtain ⟨b1, b2⟩ := hb _ _ _ rfl
   rw [← L.Ae hs.1] at b1
   rw [← L.Ae hs.2] at b2
   refine ⟨h, ?_⟩
   cases hc : (c.ev e).bool <;> simp [pick, hc] at b1 b2 ⊢
   ·exact b2.symm
   ·exact b1.symm
  ·rename_i hs
   simp only [hs, Bool.false_eq_true, if_false]
   have := C3 h
   refine ⟨this.1, this.2.trans ?_⟩
   cases hc : (c.ev e).bool <;> simp [pick]
 ·have := C3 h
  refine ⟨this.1, this.2.trans ?_⟩
  cases hc : (c.ev e).bool <;> simp [pick]
theorem Dx {c : L} {both : Option (L × L × L)} {s t : St} {g : G} (h : Good T e (Bx c both s t g).2)
  (hb : ∀ p x y, both = some (p, x, y) → (x.ev e).bool = ((p.ev e).bool && (c.ev e).bool) ∧ (y.ev e).bool = ((p.ev e).bool && !(c.ev e).bool)) :
  Good T e g ∧ Ref e w0 (pick (c.ev e).bool s t) (Bx c both s t g).1 ∧ ((Bx c both s t g).1.pc.ev e).bool = ((pick (c.ev e).bool s t).pc.ev e).bool := by
 unfold Bx at h ⊢
 obtain ⟨ra, rb, pa, pb⟩ := Lx (e := e) (w0 := w0) (s := s) (t := t)
 generalize Cm s t = st at h ra rb pa pb ⊢
 obtain ⟨s', t'⟩ := st
 simp only at h ra rb pa pb ⊢
 suffices hh : Good T e g ∧ Ref e w0 (pick (c.ev e).bool s' t') ⟨(AU c s'.fr t'.fr g).1, (AS c s'.rows t'.rows (AU c s'.fr t'.fr g).2).1, (DX c both s'.pc t'.pc (AS c s'.rows t'.rows (AU c s'.fr t'.fr g).2).2).1⟩ ∧
   ((DX c both s'.pc t'.pc (AS c s'.rows t'.rows (AU c s'.fr t'.fr g).2).2).1.ev e).bool = ((pick (c.ev e).bool s' t').pc.ev e).bool by
  obtain ⟨k1, k2, k3⟩ := hh
  refine ⟨k1, Ref.trans ?_ k2, k3.trans ?_⟩
  ·cases hc : (c.ev e).bool
   ·exact rb
   ·exact ra
  ·cases hc : (c.ev e).bool
   ·simp only [pick, Bool.false_eq_true, if_false, pb]
   ·simp only [pick, if_true, pa]
 revert h
 generalize s' = s
 generalize t' = t
 intro h
 obtain ⟨hg1, hpc1⟩ := Nw h hb
 have hr := Cy hg1
 have hf := Ds hr.1
 refine ⟨hf.1, fun loc tm w h1 h2 => ?_, ?_⟩
 ·have q1 : (pick (c.ev e).bool s t).fr = pick (c.ev e).bool s.fr t.fr := by cases (c.ev e).bool <;> rfl
  have q2 : (pick (c.ev e).bool s t).rows = pick (c.ev e).bool s.rows t.rows := by cases (c.ev e).bool <;> rfl
  rw [q1, q2] at h1
  rw [q2] at h2 ⊢
  have hlen : (pick (c.ev e).bool s.rows t.rows).length ≤ (AS c s.rows t.rows (AU c s.fr t.fr g).2).1.length := by
   cases hc : (c.ev e).bool
   ·exact hr.2.2.1
   ·exact hr.2.1
  exact ⟨loc, Ay.refl _ _, hlen, (Am.merge hr.1 h1).ext (Ay.refl _ _) hlen, by obtain ⟨B, hB, hR, hbel⟩ := h2; exact ⟨B, hB, Ad.merge hg1 hR, hbel⟩⟩
 ·rw [hpc1]
  cases (c.ev e).bool <;> rfl
theorem HC {nc : L} : ∀ {o : Ah} {g : G}, Good T e (JV nc o g).2 → Good T e g ∧
  (∀ x u, Ah.get x (JV nc o g).1 = some u → (u.pc.ev e).bool = true → (nc.ev e).bool = true ∧ ∃ t, Ah.get x o = some t ∧ (t.pc.ev e).bool = true) ∧
  ((nc.ev e).bool = true → ∀ x t, Ah.get x o = some t → (t.pc.ev e).bool = true → ∃ u, Ah.get x (JV nc o g).1 = some u ∧ (u.pc.ev e).bool = true ∧ Ref e w0 t u)
 | [], g, h => ⟨h, fun x u hx => by simp [JV, Ah.get] at hx, fun _ x t hx => by simp [Ah.get] at hx⟩
 | (y, t) :: l, g, h => by
  unfold JV at h ⊢
  simp only at h ⊢
  have h2 := HC h
  have h1 := AE h2.1
  refine ⟨h1.1, fun x u hx hu => ?_, fun hnc x s hx hs => ?_⟩
  ·by_cases hxy : x = y
   ·subst hxy
    rw [Ar] at hx
    injection hx with hx
    subst hx
    simp only at hu
    rw [h1.2, Bool.and_eq_true] at hu
    exact ⟨hu.1, t, Ar, hu.2⟩
   ·rw [AF hxy] at hx
    obtain ⟨a1, s, a2, a3⟩ := h2.2.1 x u hx hu
    exact ⟨a1, s, by rw [AF hxy]; exact a2, a3⟩
  ·by_cases hxy : x = y
   ·subst hxy
    rw [Ar] at hx
    injection hx with hx
    subst hx
    exact ⟨_, Ar, by simp only; rw [h1.2, hnc, hs]; rfl, Ref.pc _⟩
   ·rw [AF hxy] at hx
    obtain ⟨u, a1, a2, a3⟩ := h2.2.2 hnc x s hx hs
    exact ⟨u, by rw [AF hxy]; exact a1, a2, a3⟩
theorem CA {c nc : L} {both : Option (L × L × L)} (hnc : (nc.ev e).bool = !(c.ev e).bool)
  (hb : ∀ p x y, both = some (p, x, y) → (x.ev e).bool = ((p.ev e).bool && (c.ev e).bool) ∧ (y.ev e).bool = ((p.ev e).bool && !(c.ev e).bool)) : ∀ {o1 o2 : Ah} {g : G},
  Good T e (combine c nc both o1 o2 g).2 → Good T e g ∧
  (∀ x u, Ah.get x (combine c nc both o1 o2 g).1 = some u → (u.pc.ev e).bool = true →
   ((c.ev e).bool = true ∧ ∃ s, Ah.get x o1 = some s ∧ (s.pc.ev e).bool = true) ∨ ((c.ev e).bool = false ∧ ∃ t, Ah.get x o2 = some t ∧ (t.pc.ev e).bool = true)) ∧
  ((c.ev e).bool = true → ∀ x s, Ah.get x o1 = some s → (s.pc.ev e).bool = true → ∃ u, Ah.get x (combine c nc both o1 o2 g).1 = some u ∧ (u.pc.ev e).bool = true ∧ Ref e w0 s u) ∧
  ((c.ev e).bool = false → ∀ x t, Ah.get x o2 = some t → (t.pc.ev e).bool = true → ∃ u, Ah.get x (combine c nc both o1 o2 g).1 = some u ∧ (u.pc.ev e).bool = true ∧ Ref e w0 t u)
 | [], o2, g, h => by
  unfold combine at h ⊢
  have h1 := HC (w0 := w0) h
  refine ⟨h1.1, fun x u hx hu => ?_, fun _ x s hx => by simp [Ah.get] at hx, fun hc => h1.2.2 (by rw [hnc, hc]; rfl)⟩
  obtain ⟨a1, a2⟩ := h1.2.1 x u hx hu
  exact .inr ⟨by rw [hnc] at a1; simpa using a1, a2⟩
 | (y, s) :: l, o2, g, h => by
  unfold combine at h ⊢
  cases ht : Ah.get y o2 with
  | some t =>
   rw [ht] at h
   simp only at h ⊢
   have h2 := CA hnc hb h
   have h1 := Dx (w0 := w0) h2.1 hb
   refine ⟨h1.1, fun x u hx hu => ?_, fun hc x s' hx hs' => ?_, fun hc x t' hx ht' => ?_⟩
   ·by_cases hxy : x = y
    ·subst hxy
     rw [Ar] at hx
     injection hx with hx
     subst hx
     rw [h1.2.2] at hu
     cases hc : (c.ev e).bool <;> simp only [pick, hc, if_true, if_false, Bool.false_eq_true] at hu
     ·exact .inr ⟨rfl, t, ht, hu⟩
     ·exact .inl ⟨rfl, s, Ar, hu⟩
    ·rw [AF hxy] at hx
     rw [AF hxy]
     rcases h2.2.1 x u hx hu with a | ⟨a, b⟩
     ·exact .inl a
     ·exact .inr ⟨a, by rwa [AJ hxy] at b⟩
   ·by_cases hxy : x = y
    ·subst hxy
     rw [Ar] at hx
     injection hx with hx
     subst hx
     refine ⟨_, Ar, ?_, ?_⟩
     ·rw [h1.2.2]; simp only [pick, hc, if_true]; exact hs'
     ·have := h1.2.1; simp only [pick, hc, if_true] at this; exact this
    ·rw [AF hxy] at hx
     obtain ⟨u, a1, a2, a3⟩ := h2.2.2.1 hc x s' hx hs'
     exact ⟨u, by rw [AF hxy]; exact a1, a2, a3⟩
   ·by_cases hxy : x = y
    ·subst hxy
     rw [ht] at hx
     injection hx with hx
     subst hx
     refine ⟨_, Ar, ?_, ?_⟩
     ·rw [h1.2.2]; simp only [pick, hc, Bool.false_eq_true, if_false]; exact ht'
     ·have := h1.2.1; simp only [pick, hc, Bool.false_eq_true, if_false] at this; exact this
    ·obtain ⟨u, a1, a2, a3⟩ := h2.2.2.2 hc x t' (by rw [AJ hxy]; exact hx) ht'
     exact ⟨u, by rw [AF hxy]; exact a1, a2, a3⟩
  | none =>
   rw [ht] at h
   simp only at h ⊢
   have h2 := CA hnc hb h
   have h1 := AE h2.1
   refine ⟨h1.1, fun x u hx hu => ?_, fun hc x s' hx hs' => ?_, fun hc x t' hx ht' => ?_⟩
   ·by_cases hxy : x = y
    ·subst hxy
     rw [Ar] at hx
     injection hx with hx
     subst hx
     simp only at hu
     rw [h1.2, Bool.and_eq_true] at hu
     exact .inl ⟨hu.1, s, Ar, hu.2⟩
    ·rw [AF hxy] at hx
     rw [AF hxy]
     exact h2.2.1 x u hx hu
   ·by_cases hxy : x = y
    ·subst hxy
     rw [Ar] at hx
     injection hx with hx
     subst hx
     exact ⟨_, Ar, by simp only; rw [h1.2, hc, hs']; rfl, Ref.pc _⟩
    ·rw [AF hxy] at hx
     obtain ⟨u, a1, a2, a3⟩ := h2.2.2.1 hc x s' hx hs'
     exact ⟨u, by rw [AF hxy]; exact a1, a2, a3⟩
   ·have hxy : x ≠ y := fun h0 => by rw [h0, ht] at hx; cases hx
    obtain ⟨u, a1, a2, a3⟩ := h2.2.2.2 hc x t' hx ht'
    exact ⟨u, by rw [AF hxy]; exact a1, a2, a3⟩
def EB.to : EB → Exit
 | .norm => .normal
 | .exit id => .exit id
 | .ret => .ret
def Oo (e : Nat → A) (w0 : W0) (loc : Loc) (m : Nat) (a : Act) (s : St) (Q : Act → World → Prop) : Prop :=
 ∀ (loc' : Loc) (a' : Act) (w' : World), Ay m loc loc' → m ≤ s.rows.length → Am e s.rows.length loc' s.fr a'.tmps → a'.defers = a.defers → AV e w0 loc' s.rows w' → Q a' w'
structure Ends (P : Program) (T : Nat → List A → Bool × List A) (e : Nat → A) (w0 : W0) (S : St) (W : (Exit → Act → World → Prop) → Act → World → Prop) (outs : Ah) : Prop where
 pc : ∀ x s, Ah.get x outs = some s → (s.pc.ev e).bool = true → (S.pc.ev e).bool = true
 one : ∀ x y s t, Ah.get x outs = some s → Ah.get y outs = some t → (s.pc.ev e).bool = true → (t.pc.ev e).bool = true → x = y
 wp : ∀ (loc : Loc) (a : Act) (w : World) (Q : Exit → Act → World → Prop), (S.pc.ev e).bool = true → Am e S.rows.length loc S.fr a.tmps → AV e w0 loc S.rows w →
  (∀ x s, Ah.get x outs = some s → (s.pc.ev e).bool = true → Oo e w0 loc S.rows.length a s (Q x.to)) → W Q a w
theorem Oo.mono {m : Nat} {a : Act} {s : St} {Q Q' : Act → World → Prop} (h : Oo e w0 loc m a s Q) (hq : ∀ a w, Q a w → Q' a w) : Oo e w0 loc m a s Q' :=
 fun loc' a' w' h1 h2 h3 h4 h5 => hq _ _ (h loc' a' w' h1 h2 h3 h4 h5)
theorem Oo.ref {m : Nat} {a : Act} {s u : St} {Q : Act → World → Prop} (h : Oo e w0 loc m a u Q) (hr : Ref e w0 s u) : Oo e w0 loc m a s Q :=
 fun loc' a' w' h1 h2 h3 h4 h5 => by
  obtain ⟨loc2, x2, r1, r2, r3⟩ := hr loc' a'.tmps w' h3 h5
  exact h loc2 a' w' (h1.trans x2 h2) (Nat.le_trans h2 r1) r2 h4 r3
end
end Rx
namespace Rx
open Go Go.RowKit
def LW (P : Program) (c : Code) (Q : Exit → Act → World → Prop) (a : Act) (w : World) : Prop :=
 ∀ (b : Frame) (k : List Item) (cs : List Frame), ∃ e a' w', Q e a' w' ∧ Arrives P (lone (b.at a (.code c :: .inLoop c :: k)) cs w) b k cs e a' w'
theorem LW.of {P : Program} {c : Code} {Q : Exit → Act → World → Prop} {a : Act} {w : World} (h : c.wp P (Exit.then (LW P c Q) Q) a w) : LW P c Q a w := by
 intro b k cs
 obtain ⟨e, a₁, w₁, hq, harr⟩ := h b (.inLoop c :: k) cs
 cases e with
 | normal =>
  obtain ⟨e₂, a₂, w₂, hq₂, harr₂⟩ := hq b k cs
  exact ⟨e₂, a₂, w₂, hq₂, .of_steps (Steps.trans harr (.one step_inLoop)) harr₂⟩
 | exit id => exact ⟨_, a₁, w₁, hq, .pass (x := .inLoop c) rfl (fun _ _ => .inl (by simp)) harr⟩
 | goto l => exact ⟨_, a₁, w₁, hq, .pass (x := .inLoop c) rfl (fun _ _ => .inl (by simp)) harr⟩
 | ret => exact ⟨_, a₁, w₁, hq, .pass (x := .inLoop c) rfl (fun _ _ => .inl (by simp)) harr⟩
 | panic ch => exact ⟨_, a₁, w₁, hq, .pass (x := .inLoop c) rfl (fun _ _ => .inl (by simp)) harr⟩
 | outgrown => exact ⟨_, a₁, w₁, hq, .pass (x := .inLoop c) rfl (fun _ _ => .inl (by simp)) harr⟩
theorem LW.wp {P : Program} {c : Code} {Q : Exit → Act → World → Prop} {a : Act} {w : World} (h : LW P c Q a w) : (Code.loop c).wp P Q a w :=
 fun b k cs => let ⟨e, a', w', hq, harr⟩ := h b k cs; ⟨e, a', w', hq, .of_steps (.one step_loop) harr⟩
section
variable {T : Nat → List A → Bool × List A} {e : Nat → A} {n n' : Nat} {loc loc' : Loc} {P : Program} {X : Ctx} {w0 : W0}
theorem Pq {l : L} (h : isFalse l = true) : (l.ev e).bool = false := by
 unfold isFalse at h
 split at h
 ·rfl
 ·cases h
theorem JQ {N : Act → World → Prop} {Q : Exit → Act → World → Prop} {x : EB} (h : x ≠ .norm) : Exit.then N Q x.to = Q x.to := by
 cases x with
 | norm => exact absurd rfl h
 | exit id => rfl
 | ret => rfl
abbrev Wt := (Exit → Act → World → Prop) → Act → World → Prop
theorem Ms {S : St} {Wa Wb Wr : Wt} {o : Ah} (hW : ∀ Q a w, Wa (Exit.then (Wb Q) Q) a w → Wr Q a w) (ha : Ends P T e w0 S Wa o) (h : Ah.get .norm o = none) : Ends P T e w0 S Wr o :=
 ⟨ha.pc, ha.one, fun loc a w Q hpc hf hw hQ => hW _ _ _ (ha.wp loc a w _ hpc hf hw fun x s hx hs => by
  rw [JQ (fun h0 => by rw [h0, h] at hx; cases hx)]
  exact hQ x s hx hs)⟩
theorem KF {S s : St} {Wa Wb Wr : Wt} {o : Ah} (hW : ∀ Q a w, Wa (Exit.then (Wb Q) Q) a w → Wr Q a w) (ha : Ends P T e w0 S Wa o) (h : Ah.get .norm o = some s) (hf : isFalse s.pc = true) :
  Ends P T e w0 S Wr (Ah.drop .norm o) := by
 have back : ∀ {x s'}, Ah.get x (Ah.drop .norm o) = some s' → x ≠ .norm ∧ Ah.get x o = some s' := fun {x s'} hx => by
  by_cases h0 : x = .norm
  ·subst h0; rw [EV] at hx; cases hx
  ·exact ⟨h0, by rwa [AJ h0] at hx⟩
 refine ⟨fun x s' hx hs => ha.pc x s' (back hx).2 hs, fun x y s' t' hx hy hs ht => ha.one x y s' t' (back hx).2 (back hy).2 hs ht, fun loc a w Q hpc hfr hw hQ => hW _ _ _ (ha.wp loc a w _ hpc hfr hw fun x s' hx hs => ?_)⟩
 by_cases h0 : x = .norm
 ·subst h0
  rw [h] at hx
  injection hx with hx
  subst hx
  rw [Pq hf] at hs
  cases hs
 ·rw [JQ h0]
  exact hQ x s' (by rw [AJ h0]; exact hx) hs
theorem Oq {S s : St} {Wa Wb Wr : Wt} {o o2 r : Ah} (hW : ∀ Q a w, Wa (Exit.then (Wb Q) Q) a w → Wr Q a w) (ha : Ends P T e w0 S Wa o) (h : Ah.get .norm o = some s) (hb : Ends P T e w0 s Wb o2)
  (hr : (∀ x u, Ah.get x r = some u → (u.pc.ev e).bool = true →
    ((s.pc.ev e).bool = true ∧ ∃ t, Ah.get x o2 = some t ∧ (t.pc.ev e).bool = true) ∨ ((s.pc.ev e).bool = false ∧ ∃ t, Ah.get x (Ah.drop .norm o) = some t ∧ (t.pc.ev e).bool = true)) ∧
   ((s.pc.ev e).bool = true → ∀ x t, Ah.get x o2 = some t → (t.pc.ev e).bool = true → ∃ u, Ah.get x r = some u ∧ (u.pc.ev e).bool = true ∧ Ref e w0 t u) ∧
   ((s.pc.ev e).bool = false → ∀ x t, Ah.get x (Ah.drop .norm o) = some t → (t.pc.ev e).bool = true → ∃ u, Ah.get x r = some u ∧ (u.pc.ev e).bool = true ∧ Ref e w0 t u)) : Ends P T e w0 S Wr r := by
 have back : ∀ {x s'}, Ah.get x (Ah.drop .norm o) = some s' → x ≠ .norm ∧ Ah.get x o = some s' := fun {x s'} hx => by
  by_cases h0 : x = .norm
  ·subst h0; rw [EV] at hx; cases hx
  ·exact ⟨h0, by rwa [AJ h0] at hx⟩
 obtain ⟨h1, h2, h3⟩ := hr
 refine ⟨fun x u hx hu => ?_, fun x y u v hx hy hu hv => ?_, fun loc a w Q hpc hfr hw hQ => hW _ _ _ (ha.wp loc a w _ hpc hfr hw fun x s' hx hs => ?_)⟩
 ·rcases h1 x u hx hu with ⟨a, _⟩ | ⟨_, t, b1, b2⟩
  ·exact ha.pc _ _ h a
  ·exact ha.pc _ _ (back b1).2 b2
 ·rcases h1 x u hx hu with ⟨a, t, b1, b2⟩ | ⟨a, t, b1, b2⟩
  ·rcases h1 y v hy hv with ⟨a', t', b1', b2'⟩ | ⟨a', t', b1', b2'⟩
   ·exact hb.one _ _ _ _ b1 b1' b2 b2'
   ·rw [a] at a'; cases a'
  ·rcases h1 y v hy hv with ⟨a', t', b1', b2'⟩ | ⟨a', t', b1', b2'⟩
   ·rw [a] at a'; cases a'
   ·exact ha.one _ _ _ _ (back b1).2 (back b1').2 b2 b2'
 ·by_cases h0 : x = .norm
  ·subst h0
   rw [h] at hx
   injection hx with hx
   subst hx
   intro loc' a' w' q1 q2 q3 q4 q5
   show Wb Q a' w'
   refine hb.wp loc' a' w' Q hs q3 q5 fun y t hy ht => ?_
   obtain ⟨u, u1, u2, u3⟩ := h2 hs y t hy ht
   have := (hQ y u u1 u2).ref u3
   intro loc2 a2 w2 r1 r2 r3 r4 r5
   exact this loc2 a2 w2 (q1.trans r1 q2) (Nat.le_trans q2 r2) r3 (r4.trans q4) r5
  ·rw [JQ h0]
   have hsf : (s.pc.ev e).bool = false := by
    cases hc : (s.pc.ev e).bool with
    | false => rfl
    | true => exact absurd (ha.one _ _ _ _ hx h hs hc) h0
   obtain ⟨u, u1, u2, u3⟩ := h3 hsf x s' (by rw [AJ h0]; exact hx) hs
   exact (hQ x u u1 u2).ref u3
theorem Eu (hX : Bj P X.Ax) {S : St} : ∀ {l : List ResultVar} {g g' : G} {rs : List PV}, results X S l g = some (rs, g') → g' = g ∧
  ∀ (loc : Loc) (tm : Array Value) (w : World), Am e S.rows.length loc S.fr tm → AV e w0 loc S.rows w → ∃ vs : List Value, An e S.rows.length loc rs vs ∧
   (l.mapM fun | .tmp t => pure (tm.getD t Go.undef) | .cell a t => do loadVar t (← asAddr (tm.getD a Go.undef)) : Sem (List Value)).run P w = .ok vs w
 | [], g, g', rs, h => by
  simp only [results, Option.some.injEq, Prod.mk.injEq] at h
  obtain ⟨rfl, rfl⟩ := h
  exact ⟨rfl, fun loc tm w hf _ => ⟨[], trivial, by simp⟩⟩
 | .tmp t :: l, g, g', rs, h => by
  simp only [results, Option.bind_eq_bind, Option.bind_eq_some_iff] at h
  obtain ⟨p, hp, ⟨r, g1⟩, hr, h⟩ := h
  simp only [Option.some.injEq, Prod.mk.injEq] at h
  obtain ⟨rfl, rfl⟩ := h
  obtain ⟨h1, h2⟩ := Eu hX hr
  refine ⟨h1, fun loc tm w hf hw => ?_⟩
  obtain ⟨vs, v1, v2⟩ := h2 loc tm w hf hw
  refine ⟨tm.getD t Go.undef :: vs, ⟨Hr hp hf (fun x hx => by cases hx), v1⟩, ?_⟩
  simp only [List.mapM_cons, Sem.run_bind, Sem.run_pure, Result.andThen_ok, v2]
 | .cell a t :: l, g, g', rs, h => by
  simp only [results, Option.bind_eq_bind, Option.bind_eq_some_iff] at h
  obtain ⟨p, hp, ty, ht, h⟩ := h
  split at h
  ·rename_i r off
   simp only [Option.bind_eq_some_iff] at h
   obtain ⟨row, hrow, cs, hcs, v, hv, ⟨q, g1⟩, hr, h⟩ := h
   simp only [Option.some.injEq, Prod.mk.injEq] at h
   obtain ⟨rfl, rfl⟩ := h
   obtain ⟨h1, h2⟩ := Eu hX hr
   refine ⟨h1, fun loc tm w hf hw => ?_⟩
   obtain ⟨vs, v1, v2⟩ := h2 loc tm w hf hw
   obtain ⟨r1, r2⟩ := Fb (Hr hp hf (fun x hx => by cases hx))
   obtain ⟨us, u1, u2⟩ := Cg (e := e) (n := S.rows.length) (loc := loc) (w := w) (b := (loc r).blk) (o := (loc r).off + off) (cs := cs) (fun j c hj => by
    obtain ⟨v, z1, z2⟩ := hw.cell hrow (DE hcs hj)
    exact ⟨v, by rw [Nat.add_assoc]; exact z1, z2⟩)
   obtain ⟨x, x1, x2⟩ := AM (hX t ty ht) u1 u2 (A2 hcs).2.2 hv
   have x3 : (loadVar t ⟨(loc r).blk, (loc r).off + off, none⟩).run P w = .ok x w := by
    have := x2
    simp only [Instr.loadAt, Instr.sureAddr, Sem.run_bind, Sem.run_pure, Result.andThen_ok] at this
    exact this
   refine ⟨x :: vs, ⟨x1, v1⟩, ?_⟩
   have x4 : ∀ a : Addr, asAddr (.pointer (some a)) = pure a := fun _ => rfl
   simp only [List.mapM_cons, Sem.run_bind, Sem.run_pure, r2, x4, Result.andThen_ok, x3, v2]
  ·cases h
theorem Ot {fn : Func} {tm : Array Value} {w : World} {vs : List Value}
  (h : (fn.results.toList.mapM fun | .tmp t => pure (tm.getD t Go.undef) | .cell a t => do loadVar t (← asAddr (tm.getD a Go.undef)) : Sem (List Value)).run P w = .ok vs w) :
  (Go.results fn tm).run P w = .ok (Hv vs) w := by
 unfold Go.results
 rw [Array.mapM_eq_mapM_toList]
 simp only [Sem.run_bind, Sem.run_map, Sem.run_pure]
 refine (congrArg (fun r : Result (List Value) => (r.andThen fun a w' => Result.ok a.toArray w').andThen fun a w' => Result.ok (if h : a.size = 1 then a[0] else Value.tuple a) w') h).trans ?_
 simp only [Result.andThen_ok]
 congr 1
 match vs with
 | [] => rfl
 | [v] => rfl
 | v :: u :: vs => simp [Hv]
end
end Rx
namespace Rx
open Go Go.RowKit
section
variable {T : Nat → List A → Bool × List A} {e : Nat → A} {P : Program} {X : Ctx} {w0 : W0}
theorem Ea {S s : St} {W : Wt} {x : EB} (hpc : s.pc = S.pc)
  (h : ∀ (loc : Loc) (a : Act) (w : World) (Q : Exit → Act → World → Prop), (S.pc.ev e).bool = true → Am e S.rows.length loc S.fr a.tmps → AV e w0 loc S.rows w → Oo e w0 loc S.rows.length a s (Q x.to) → W Q a w) :
  Ends P T e w0 S W [(x, s)] := by
 have back : ∀ {y t}, Ah.get y [(x, s)] = some t → y = x ∧ t = s := fun {y t} hy => by
  by_cases h0 : y = x
  ·subst h0; rw [Ar] at hy; injection hy with hy; exact ⟨rfl, hy.symm⟩
  ·rw [AF h0] at hy; cases hy
 refine ⟨fun y t hy ht => ?_, fun y z t u hy hz _ _ => ?_, fun loc a w Q hp hf hw hQ => h loc a w Q hp hf hw (hQ x s Ar (by rw [hpc]; exact hp))⟩
 ·obtain ⟨rfl, rfl⟩ := back hy; rw [← hpc]; exact ht
 ·rw [(back hy).1, (back hz).1]
theorem Ib {S s : St} {Wa Wb Wr : Wt} {o o2 : Ah} {g : G} (hW : ∀ Q a w, Wa (Exit.then (Wb Q) Q) a w → Wr Q a w) (ha : Ends P T e w0 S Wa o) (h : Ah.get .norm o = some s) (hb : Ends P T e w0 s Wb o2)
  {nc : L} (hnc : (nc.ev e).bool = !(s.pc.ev e).bool) (hg : Good T e (combine s.pc nc none o2 (Ah.drop .norm o) g).2) : Ends P T e w0 S Wr (combine s.pc nc none o2 (Ah.drop .norm o) g).1 :=
 Oq hW ha h hb (CA hnc (fun _ _ _ h0 => by cases h0) hg).2
theorem KG {S s : St} {Wa Wb Wr : Wt} {o o2 : Ah} (hW : ∀ Q a w, Wa (Exit.then (Wb Q) Q) a w → Wr Q a w) (ha : Ends P T e w0 S Wa o) (h : Ah.get .norm o = some s) (hb : Ends P T e w0 s Wb o2)
  (hr : (Ah.drop .norm o).isEmpty = true) : Ends P T e w0 S Wr o2 := by
 have hr : Ah.drop .norm o = [] := by simpa using hr
 refine Oq hW ha h hb ⟨fun x u hx hu => .inl ⟨hb.pc x u hx hu, u, hx, hu⟩, fun _ x t hx ht => ⟨t, hx, ht, Ref.refl _⟩, fun _ x t hx => by rw [hr] at hx; cases hx⟩
theorem Nx {S s' : St} {W : Wt} {o : Ah} {g g' : G} (he : Ends P T e w0 S W o) (h : J3 o g = some (s', g')) (hg : Good T e g') :
  Good T e g ∧ ∀ x s, Ah.get x o = some s → (s.pc.ev e).bool = true → (x = .norm ∨ x = .ret) ∧ Ref e w0 s s' := by
 unfold J3 at h
 split at h
 ·simp only [Option.some.injEq, Prod.mk.injEq] at h
  obtain ⟨rfl, rfl⟩ := h
  refine ⟨hg, fun x s hx hs => ?_⟩
  by_cases h0 : x = .norm
  ·subst h0; rw [Ar] at hx; injection hx with hx; subst hx; exact ⟨.inl rfl, Ref.refl _⟩
  ·rw [AF h0] at hx; cases hx
 ·simp only [Option.some.injEq, Prod.mk.injEq] at h
  obtain ⟨rfl, rfl⟩ := h
  refine ⟨hg, fun x s hx hs => ?_⟩
  by_cases h0 : x = .ret
  ·subst h0; rw [Ar] at hx; injection hx with hx; subst hx; exact ⟨.inr rfl, Ref.refl _⟩
  ·rw [AF h0] at hx; cases hx
 ·rename_i s t
  simp only [Option.some.injEq] at h
  have hm := Dx (T := T) (e := e) (w0 := w0) (c := s.pc) (both := none) (s := s) (t := t) (g := g) (by rw [h]; exact hg) (fun _ _ _ h0 => by cases h0)
  rw [h] at hm
  refine ⟨hm.1, fun x u hx hu => ?_⟩
  by_cases h0 : x = .norm
  ·subst h0
   rw [Ar] at hx; injection hx with hx; subst hx
   have := hm.2.1
   simp only [pick, hu, if_true] at this
   exact ⟨.inl rfl, this⟩
  ·by_cases h1 : x = .ret
   ·subst h1
    rw [AF h0, Ar] at hx; injection hx with hx; subst hx
    have hsf : (s.pc.ev e).bool = false := by
     cases hc : (s.pc.ev e).bool with
     | false => rfl
     | true => exact absurd (he.one .norm .ret s t Ar (by rw [AF h0, Ar]) hc hu) (by simp)
    have := hm.2.1
    simp only [pick, hsf, Bool.false_eq_true, if_false] at this
    exact ⟨.inr rfl, this⟩
   ·rw [AF h0, AF h1] at hx; cases hx
 ·rename_i t s
  simp only [Option.some.injEq] at h
  have hm := Dx (T := T) (e := e) (w0 := w0) (c := s.pc) (both := none) (s := s) (t := t) (g := g) (by rw [h]; exact hg) (fun _ _ _ h0 => by cases h0)
  rw [h] at hm
  refine ⟨hm.1, fun x u hx hu => ?_⟩
  by_cases h1 : x = .ret
  ·subst h1
   rw [Ar] at hx; injection hx with hx; subst hx
   have hsf : (s.pc.ev e).bool = false := by
    cases hc : (s.pc.ev e).bool with
    | false => rfl
    | true => exact absurd (he.one .norm .ret s t (by rw [AF (by simp), Ar]) Ar hc hu) (by simp)
   have := hm.2.1
   simp only [pick, hsf, Bool.false_eq_true, if_false] at this
   exact ⟨.inr rfl, this⟩
  ·by_cases h0 : x = .norm
   ·subst h0
    rw [AF h1, Ar] at hx; injection hx with hx; subst hx
    have := hm.2.1
    simp only [pick, hu, if_true] at this
    exact ⟨.inl rfl, this⟩
   ·rw [AF h1, AF h0] at hx; cases hx
 ·cases h
theorem Pr {S : St} {id : Nat} {c : Code} {o : Ah} {g g' : G} {outs : Ah} (ha : Ends P T e w0 S (fun Q a w => c.wp P Q a w) o)
  (h : (match Ah.get (.exit id) o, Ah.get .norm o with
   | none, _ => some (o, g)
   | some t, none => some ((.norm, t) :: Ah.drop (.exit id) o, g)
   | some t, some s =>
    let (u, g) := Bx s.pc none s t g
    some ((.norm, u) :: Ah.drop (.exit id) (Ah.drop .norm o), g)) = some (outs, g')) (hg : Good T e g') :
  Good T e g ∧ Ends P T e w0 S (fun Q a w => (Code.block id c).wp P Q a w) outs := by
 have inb : ∀ {x : EB} {Q : Exit → Act → World → Prop}, x ≠ .exit id → Exit.inBlock id Q x.to = Q x.to := fun {x Q} hx => by
  cases x with
  | norm => rfl
  | ret => rfl
  | exit id' =>
   have : id' ≠ id := fun h0 => hx (by rw [h0])
   funext a w
   simp [EB.to, Exit.inBlock, this]
 have inb2 : ∀ {Q : Exit → Act → World → Prop}, Exit.inBlock id Q (EB.exit id).to = Q .normal := fun {Q} => by
  funext a w
  simp [EB.to, Exit.inBlock]
 split at h
 ·rename_i hx0
  simp only [Option.some.injEq, Prod.mk.injEq] at h
  obtain ⟨rfl, rfl⟩ := h
  refine ⟨hg, ha.pc, ha.one, fun loc a w Q hpc hf hw hQ => wp_block (ha.wp loc a w _ hpc hf hw fun x s hx hs => ?_)⟩
  rw [inb (fun h0 => by rw [h0, hx0] at hx; cases hx)]
  exact hQ x s hx hs
 ·rename_i t ht hn
  simp only [Option.some.injEq, Prod.mk.injEq] at h
  obtain ⟨rfl, rfl⟩ := h
  have back : ∀ {x s}, Ah.get x ((.norm, t) :: Ah.drop (.exit id) o) = some s → (x = .norm ∧ s = t) ∨ (x ≠ .norm ∧ x ≠ .exit id ∧ Ah.get x o = some s) := fun {x s} hx => by
   by_cases h0 : x = .norm
   ·subst h0; rw [Ar] at hx; injection hx with hx; exact .inl ⟨rfl, hx.symm⟩
   ·rw [AF h0] at hx
    by_cases h1 : x = .exit id
    ·subst h1; rw [EV] at hx; cases hx
    ·rw [AJ h1] at hx; exact .inr ⟨h0, h1, hx⟩
  refine ⟨hg, fun x s hx hs => ?_, fun x y s u hx hy hs hu => ?_, fun loc a w Q hpc hf hw hQ => wp_block (ha.wp loc a w _ hpc hf hw fun x s hx hs => ?_)⟩
  ·rcases back hx with ⟨_, rfl⟩ | ⟨_, _, h3⟩
   ·exact ha.pc _ _ ht hs
   ·exact ha.pc _ _ h3 hs
  ·rcases back hx with ⟨rfl, rfl⟩ | ⟨h1, h2, h3⟩ <;> rcases back hy with ⟨rfl, rfl⟩ | ⟨h1', h2', h3'⟩
   ·rfl
   ·exact absurd (ha.one _ _ _ _ h3' ht hu hs) h2'
   ·exact absurd (ha.one _ _ _ _ h3 ht hs hu) h2
   ·exact ha.one _ _ _ _ h3 h3' hs hu
  ·by_cases h1 : x = .exit id
   ·subst h1
    rw [ht] at hx
    injection hx with hx
    subst hx
    rw [inb2]
    exact hQ .norm t Ar hs
   ·rw [inb h1]
    have h0 : x ≠ .norm := fun h0 => by rw [h0, hn] at hx; cases hx
    exact hQ x s (by rw [AF h0, AJ h1]; exact hx) hs
 ·rename_i t s ht hn
  simp only [Option.some.injEq, Prod.mk.injEq] at h
  obtain ⟨rfl, rfl⟩ := h
  have hm := Dx (w0 := w0) hg (fun _ _ _ h0 => by cases h0)
  have back : ∀ {x u}, Ah.get x ((.norm, (Bx s.pc none s t g).1) :: Ah.drop (.exit id) (Ah.drop .norm o)) = some u →
    (x = .norm ∧ u = (Bx s.pc none s t g).1) ∨ (x ≠ .norm ∧ x ≠ .exit id ∧ Ah.get x o = some u) := fun {x u} hx => by
   by_cases h0 : x = .norm
   ·subst h0; rw [Ar] at hx; injection hx with hx; exact .inl ⟨rfl, hx.symm⟩
   ·rw [AF h0] at hx
    by_cases h1 : x = .exit id
    ·subst h1; rw [EV] at hx; cases hx
    ·rw [AJ h1, AJ h0] at hx; exact .inr ⟨h0, h1, hx⟩
  have mpc : (((Bx s.pc none s t g).1).pc.ev e).bool = true → ∃ z v, (z = .norm ∨ z = .exit id) ∧ Ah.get z o = some v ∧ (v.pc.ev e).bool = true := fun hu => by
   rw [hm.2.2] at hu
   cases hc : (s.pc.ev e).bool <;> simp only [pick, hc, if_true, if_false, Bool.false_eq_true] at hu
   ·exact ⟨.exit id, t, .inr rfl, ht, hu⟩
   ·exact ⟨.norm, s, .inl rfl, hn, hc⟩
  refine ⟨hm.1, fun x u hx hu => ?_, fun x y u v hx hy hu hv => ?_, fun loc a w Q hpc hf hw hQ => wp_block (ha.wp loc a w _ hpc hf hw fun x u hx hu => ?_)⟩
  ·rcases back hx with ⟨_, rfl⟩ | ⟨_, _, h3⟩
   ·obtain ⟨z, v, _, hz, hv⟩ := mpc hu
    exact ha.pc _ _ hz hv
   ·exact ha.pc _ _ h3 hu
  ·rcases back hx with ⟨rfl, rfl⟩ | ⟨h1, h2, h3⟩ <;> rcases back hy with ⟨rfl, rfl⟩ | ⟨h1', h2', h3'⟩
   ·rfl
   ·obtain ⟨z, v', hz0, hz, hv'⟩ := mpc hu
    have := ha.one _ _ _ _ h3' hz hv hv'
    subst this
    rcases hz0 with hz0 | hz0
    ·exact absurd hz0 h1'
    ·exact absurd hz0 h2'
   ·obtain ⟨z, v', hz0, hz, hv'⟩ := mpc hv
    have := ha.one _ _ _ _ h3 hz hu hv'
    subst this
    rcases hz0 with hz0 | hz0
    ·exact absurd hz0 h1
    ·exact absurd hz0 h2
   ·exact ha.one _ _ _ _ h3 h3' hu hv
  ·by_cases h1 : x = .exit id
   ·subst h1
    rw [ht] at hx
    injection hx with hx
    subst hx
    rw [inb2]
    have hsf : (s.pc.ev e).bool = false := by
     cases hc : (s.pc.ev e).bool with
     | false => rfl
     | true => exact absurd (ha.one _ _ _ _ hn ht hc hu) (by simp)
    have hr := hm.2.1
    simp only [pick, hsf, Bool.false_eq_true, if_false] at hr
    exact (hQ .norm _ Ar (by rw [hm.2.2]; simp only [pick, hsf, Bool.false_eq_true, if_false]; exact hu)).ref hr
   ·rw [inb h1]
    by_cases h0 : x = .norm
    ·subst h0
     rw [hn] at hx
     injection hx with hx
     subst hx
     have hr := hm.2.1
     simp only [pick, hu, if_true] at hr
     exact (hQ .norm _ Ar (by rw [hm.2.2]; simp only [pick, hu, if_true])).ref hr
    ·exact hQ x u (by rw [AF h0, AJ h1, AJ h0]; exact hx) hu
end
end Rx
namespace Rx
open Go Go.RowKit
def FG : Tag → A → A → Prop
 | .i, a, b => a.int = b.int
 | .b, a, b => a.bool = b.bool
 | .v, a, b => a.val = b.val
 | .s, a, b => a.str = b.str
 | .any, a, b => a = b
 | .no, _, _ => True
theorem FG.of_eq {t : Tag} {a b : A} (h : a = b) : FG t a b := by
 subst h
 cases t <;> first | rfl | trivial
section
variable {T : Nat → List A → Bool × List A} {e e1 e2 : Nat → A} {n : Nat} {loc : Loc} {P : Program} {X : Ctx} {w0 : W0} {tg : Nat → Tag}
theorem BS (h : ∀ i, FG (tg i) (e1 i) (e2 i)) {t : Tag} {x : L} (hx : FO tg t x = true) : FG t (x.ev e1) (x.ev e2) := by
 unfold FO at hx
 split at hx
 ·rename_i i
  simp only [Bool.or_eq_true, beq_iff_eq] at hx
  have hi := h i
  rcases hx with hx | hx
  ·rw [hx] at hi; exact hi
  ·rw [hx] at hi; exact .of_eq hi
 ·rename_i hnv
  refine .of_eq ?_
  cases x with
  | var i => exact absurd rfl (hnv i)
  | _ => rfl
theorem Ou (h : ∀ i, FG (tg i) (e1 i) (e2 i)) {k : K} {v : Value} (hu : QI tg k = true) (hk : k.rel e1 n loc v) : k.rel e2 n loc v := by
 obtain ⟨h1, h2, h3⟩ := hk
 cases k
 case int kd x =>
  have := BS h (t := .i) hu
  simp only [FG] at this
  exact ⟨trivial, h2, .inr (by rw [h3.resolve_left (by simp)]; simp only [K.AZ, this])⟩
 case bool x =>
  have := BS h (t := .b) hu
  simp only [FG] at this
  exact ⟨trivial, h2, .inr (by rw [h3.resolve_left (by simp)]; simp only [K.AZ, this])⟩
 case str x =>
  have := BS h (t := .s) hu
  simp only [FG] at this
  exact ⟨trivial, h2, .inr (by rw [h3.resolve_left (by simp)]; simp only [K.AZ, this])⟩
 case val x =>
  have := BS h (t := .v) hu
  simp only [FG] at this
  exact ⟨trivial, h2, .inr (by rw [h3.resolve_left (by simp)]; simp only [K.AZ, this])⟩
 case sptr r o s m x =>
  have := BS h (t := .i) hu
  simp only [FG] at this
  simp only [K.ok, this] at h1
  exact ⟨h1, h2, .inr (by rw [h3.resolve_left (by simp)]; simp only [K.AZ, this])⟩
 case lsl r m =>
  have := BS h (t := .i) hu
  simp only [FG] at this
  simp only [K.ok, this] at h1
  exact ⟨h1, h2, .inr (by rw [h3.resolve_left (by simp)]; simp only [K.AZ, this])⟩
 case fsl r m =>
  have := BS h (t := .i) hu
  simp only [FG] at this
  simp only [K.ok, this] at h1
  exact ⟨h1, h2, .inr (by rw [h3.resolve_left (by simp)]; simp only [K.AZ])⟩
 case lptr r o s x m =>
  simp only [QI, Bool.and_eq_true] at hu
  have q1 := BS h (t := .i) hu.1
  have q2 := BS h (t := .i) hu.2
  simp only [FG] at q1 q2
  simp only [K.ok, q1, q2] at h1
  exact ⟨h1, h2, .inr (by rw [h3.resolve_left (by simp)]; simp only [K.AZ, q1])⟩
 all_goals exact ⟨h1, h2, h3⟩
theorem IV (h : ∀ i, FG (tg i) (e1 i) (e2 i)) : ∀ {l : List K} {vs : List Value}, l.all (QI tg) = true → Cc e1 n loc l vs → Cc e2 n loc l vs
 | [], [], _, _ => trivial
 | _ :: _, _ :: _, hu, hk => by
  simp only [List.all_cons, Bool.and_eq_true] at hu
  exact ⟨Ou h hu.1 hk.1, IV h hu.2 hk.2⟩
theorem KH (h : ∀ i, FG (tg i) (e1 i) (e2 i)) {c : C} {v : Value} (hu : O1 tg c = true) (hk : c.rel e1 n loc v) : c.rel e2 n loc v := by
 cases c with
 | k x => exact Ou h hu hk
 | clo f a b =>
  simp only [O1, Bool.and_eq_true] at hu
  obtain ⟨va, vb, a1, a2, a3⟩ := hk
  exact ⟨va, vb, a1, IV h hu.1 a2, IV h hu.2 a3⟩
 | cfn x f g =>
  have q := BS h (t := .b) (x := x) hu
  simp only [FG] at q
  simp only [C.rel, ← q]
  exact hk
theorem IW (h : ∀ i, FG (tg i) (e1 i) (e2 i)) : ∀ {l : List C} {vs : List Value}, l.all (O1 tg) = true → Ag e1 n loc l vs → Ag e2 n loc l vs
 | [], [], _, _ => trivial
 | _ :: _, _ :: _, hu, hk => by
  simp only [List.all_cons, Bool.and_eq_true] at hu
  exact ⟨KH h hu.1 hk.1, IW h hu.2 hk.2⟩
theorem Mt (h : ∀ i, FG (tg i) (e1 i) (e2 i)) {c : PV} {v : Value} (hu : P2 tg c = true) (hk : c.rel e1 n loc v) : c.rel e2 n loc v := by
 cases c with
 | one x => exact KH h hu hk
 | agg l => obtain ⟨vs, a1, a2⟩ := hk; exact ⟨vs, a1, IW h hu a2⟩
theorem KI (h : ∀ i, FG (tg i) (e1 i) (e2 i)) : ∀ {l : List PV} {vs : List Value}, l.all (P2 tg) = true → An e1 n loc l vs → An e2 n loc l vs
 | [], [], _, _ => trivial
 | _ :: _, _ :: _, hu, hk => by
  simp only [List.all_cons, Bool.and_eq_true] at hu
  exact ⟨Mt h hu.1 hk.1, KI h hu.2 hk.2⟩
theorem QR (h : ∀ i, FG (tg i) (e1 i) (e2 i)) {c : SV} {v : Value} (hu : P3 tg c = true) (hk : c.rel e1 n loc v) : c.rel e2 n loc v := by
 cases c with
 | pv p => exact Mt h hu hk
 | tup l => obtain ⟨vs, a1, a2⟩ := hk; exact ⟨vs, a1, KI h hu a2⟩
 | cond gs p => simp [P3] at hu
 | undef => exact hk
 | junk => trivial
theorem Mu (h : ∀ i, FG (tg i) (e1 i) (e2 i)) {fr : List SV} {tm : Array Value} (hu : fr.all (P3 tg) = true) (hk : Am e1 n loc fr tm) : Am e2 n loc fr tm :=
 ⟨hk.len, fun i s v hs hv => QR h (by rw [List.all_eq_true] at hu; exact hu _ (List.mem_of_getElem? hs)) (hk.at_ i s v hs hv)⟩
theorem KJ (h : ∀ i, FG (tg i) (e1 i) (e2 i)) {w : World} {B : Bd} {rows : List Row} (hu : rows.all (O2 tg) = true) (hk : Ad e1 loc rows w B) : Ad e2 loc rows w B := by
 rw [List.all_eq_true] at hu
 have use_ : ∀ (r : Nat) (x : Row), rows[r]? = some x → x.cells.all (O1 tg) = true ∧ ∀ q, x.lst = some q → FO tg .any q.x = true ∧ FO tg .i q.n = true := fun r x hr => by
  have := hu x (List.mem_of_getElem? hr)
  simp only [O2, Bool.and_eq_true] at this
  refine ⟨this.1, fun q hq => ?_⟩
  have h2 := this.2
  rw [hq] at h2
  simpa using h2
 refine ⟨fun r x hr => ?_, fun r x q hr hq => ?_, hk.lapart, hk.apart⟩
 ·have hrow := hk.row r x hr
  obtain ⟨u1, _⟩ := use_ r x hr
  unfold Au at hrow ⊢
  split
  ·rename_i ho
   rw [if_pos ho] at hrow
   obtain ⟨b1, b2, b3, b4, vs, sp, b5, b6, b7⟩ := hrow
   exact ⟨b1, b2, b3, b4, vs, sp, b5, IW h u1 b6, b7⟩
  ·rename_i ho
   rw [if_neg ho] at hrow
   intro hc
   obtain ⟨b1, b2, b3⟩ := hrow hc
   refine ⟨b1, b2, fun j c hj => ?_⟩
   obtain ⟨v, hv, hr'⟩ := b3 j c hj
   rw [List.all_eq_true] at u1
   exact ⟨v, hv, KH h (u1 c (List.mem_of_getElem? hj)) hr'⟩
 ·obtain ⟨k1, as, m, l1, l2, l3, l4, l5⟩ := hk.lst r x q hr hq
  obtain ⟨u1, u2⟩ := (use_ r x hr).2 q hq
  have q1 := BS h u1
  have q2 := BS h u2
  simp only [FG] at q1 q2
  exact ⟨k1, as, m, by rw [← q1]; exact l1, l2, by rw [← q2]; exact l3, l4, l5⟩
def Jv (as : List A) (i : Nat) : A := as.getD i (.i 0)
def Ov (q : Lp) (as outs : List A) (i : Nat) : A :=
 if i < q.k then (if q.Iw.getD i false then as.getD i (.i 0) else .i 0) else outs.getD (i - q.k) (.i 0)
def Ca (P : Program) (T : Nat → List A → Bool × List A) (q : Lp) (code : Code) : Prop :=
 (∀ as, (T q.id as).1 = true → (T q.id as).2.length = q.w) ∧
 ∀ (as : List A) (w0 : W0) (loc : Loc) (a : Act) (w : World) (Q : Exit → Act → World → Prop), K9 P w0.w → as.length = q.k → (T q.id as).1 = true →
  Am (Jv as) q.tm.rows.length loc q.tm.fr a.tmps → AV (Jv as) w0 loc q.tm.rows w →
  (∀ x s e', (x, s) ∈ q.outs → (∀ i, FG (q.tag i) (e' i) (Ov q as (T q.id as).2 i)) → (s.pc.ev e').bool = true → ∀ (loc' : Loc) (a' : Act) (w' : World), Ay q.m loc loc' →
   Am e' s.rows.length loc' s.fr a'.tmps → a'.defers = a.defers → AV e' w0 loc' s.rows w' → Q x.to a' w') → LW P code Q a w
theorem G3 {σ : Nat → L} {pc : L} : ∀ {l : List (EB × St)} {g : G}, Good T e (BV σ pc l g).2 → Good T e g ∧
  (∀ x u, Ah.get x (BV σ pc l g).1 = some u → ∃ s, (x, s) ∈ l ∧ u.fr = (CG σ s).fr ∧ u.rows = (CG σ s).rows ∧ (u.pc.ev e).bool = ((pc.ev e).bool && ((B5 σ s.pc).ev e).bool)) ∧
  (P5 l = true → ∀ x s, (x, s) ∈ l → ∃ u, Ah.get x (BV σ pc l g).1 = some u ∧ u.fr = (CG σ s).fr ∧ u.rows = (CG σ s).rows ∧ (u.pc.ev e).bool = ((pc.ev e).bool && ((B5 σ s.pc).ev e).bool))
 | [], g, h => ⟨h, fun x u hx => by simp [BV, Ah.get] at hx, fun _ x s hs => by cases hs⟩
 | (y, t) :: l, g, h => by
  unfold BV at h ⊢
  simp only at h ⊢
  obtain ⟨h1, h2, h3⟩ := G3 h
  have hm := AE h1
  refine ⟨hm.1, fun x u hx => ?_, fun hb x s hs => ?_⟩
  ·by_cases hxy : x = y
   ·subst hxy
    rw [Ar] at hx
    injection hx with hx
    subst hx
    exact ⟨t, List.mem_cons_self .., rfl, rfl, hm.2⟩
   ·rw [AF hxy] at hx
    obtain ⟨s, s1, s2⟩ := h2 x u hx
    exact ⟨s, List.mem_cons_of_mem _ s1, s2⟩
  ·simp only [P5, Bool.and_eq_true, List.all_eq_true] at hb
   rcases List.mem_cons.1 hs with heq | hs
   ·injection heq with h5 h6
    subst h5 h6
    exact ⟨_, Ar, rfl, rfl, hm.2⟩
   ·have hne : x ≠ y := fun h0 => by
     have := hb.1 _ hs
     rw [h0] at this
     simp [EB.C7.2 rfl] at this
    obtain ⟨u, u1, u2⟩ := h3 hb.2 x s hs
    exact ⟨u, by rw [AF hne]; exact u1, u2⟩
theorem F3 {pc a : L} : ∀ {l : List L} {g : G}, Good T e (Gw pc a l g) → Good T e g ∧ ((pc.ev e).bool = true → ∀ b ∈ l, ¬ ((a.ev e).bool = true ∧ (b.ev e).bool = true))
 | [], g, h => ⟨h, fun _ b hb => by cases hb⟩
 | b :: l, g, h => by
  unfold Gw at h
  simp only at h
  obtain ⟨h1, h2⟩ := F3 h
  have hm := Al h1
  have hn := Bc hm.1
  have ha := AE hn.1
  refine ⟨ha.1, fun hpc c hc => ?_⟩
  rcases List.mem_cons.1 hc with rfl | hc
  ·have := hm.2 hpc
   rw [hn.2] at this
   simp only [A.AX, ha.2] at this
   intro ⟨k1, k2⟩
   rw [k1, k2] at this
   cases this
  ·exact h2 hpc c hc
theorem Eb {pc : L} : ∀ {l : List L} {g : G}, Good T e (Bm pc l g) → Good T e g ∧ ((pc.ev e).bool = true → ∀ (i j : Nat) a b, i < j → l[i]? = some a → l[j]? = some b → ¬ ((a.ev e).bool = true ∧ (b.ev e).bool = true))
 | [], g, h => ⟨h, fun _ i j a b _ ha => by simp at ha⟩
 | c :: l, g, h => by
  unfold Bm at h
  obtain ⟨h1, h2⟩ := Eb h
  obtain ⟨h3, h4⟩ := F3 h1
  refine ⟨h3, fun hpc i j a b hij ha hb => ?_⟩
  obtain ⟨j, rfl⟩ : ∃ j', j = j' + 1 := ⟨j - 1, by omega⟩
  have hb' : l[j]? = some b := by simpa using hb
  cases i with
  | zero =>
   simp only [List.getElem?_cons_zero, Option.some.injEq] at ha
   subst ha
   exact h4 hpc b (List.mem_of_getElem? hb')
  | succ i => exact h2 hpc i j a b (by omega) (by simpa using ha) hb'
theorem Ly {q : Lp} {code : Code} {S : St} {outs : Ah} {g g' : G} (hT : K9 P w0.w) (hq : Ca P T q code) (h : M7 q S g = some (outs, g')) (hg : Good T e g') :
  Good T e g ∧ Ends P T e w0 S (fun Q a w => LW P code Q a w) outs := by
 unfold M7 at h
 split at h
 rename_i ml ρ _
 simp at h
 obtain ⟨hm, ⟨⟨c1, c2⟩, c3⟩, h⟩ := h
 generalize hls : DL ml q.k = ls at h c1
 have hlen : ls.length = q.k := by rw [← hls]; simp [DL]
 have hgl : Good T e (BV (BU q ls (DM (g.next + 1) q.w)) S.pc q.outs (Bm S.pc (q.outs.map fun x => B5 (BU q ls (DM (g.next + 1) q.w)) x.2.pc) ((g.Ba (.call q.id) ls (1 + q.w)).2.AT S.pc (.var g.next)))).2 := by
  have h' : BV (BU q ls (DM (g.next + 1) q.w)) S.pc q.outs (Bm S.pc (q.outs.map fun x => B5 (BU q ls (DM (g.next + 1) q.w)) x.2.pc) ((g.Ba (.call q.id) ls (1 + q.w)).2.AT S.pc (.var g.next))) = (outs, g') := h
  rw [h']
  exact hg
 have houts : outs = (BV (BU q ls (DM (g.next + 1) q.w)) S.pc q.outs (Bm S.pc (q.outs.map fun x => B5 (BU q ls (DM (g.next + 1) q.w)) x.2.pc) ((g.Ba (.call q.id) ls (1 + q.w)).2.AT S.pc (.var g.next)))).1 := by
  have h' : BV (BU q ls (DM (g.next + 1) q.w)) S.pc q.outs (Bm S.pc (q.outs.map fun x => B5 (BU q ls (DM (g.next + 1) q.w)) x.2.pc) ((g.Ba (.call q.id) ls (1 + q.w)).2.AT S.pc (.var g.next))) = (outs, g') := h
  rw [h']
 clear h hg
 generalize hσ : BU q ls (DM (g.next + 1) q.w) = σ at hgl houts
 obtain ⟨h1, h2, h3⟩ := G3 hgl
 obtain ⟨h4, h5⟩ := Eb h1
 have hmu := Al h4
 have hpn := Cf hmu.1
 rw [← houts] at h2 h3
 refine ⟨hpn.1, fun x u hx hu => ?_, fun x y u v hx hy hu hv => ?_, fun loc a w Q hpc hf hw hQ => ?_⟩
 ·obtain ⟨s, _, _, _, s4⟩ := h2 x u hx
  rw [s4, Bool.and_eq_true] at hu
  exact hu.1
 ·obtain ⟨s, s1, _, _, s4⟩ := h2 x u hx
  obtain ⟨t, t1, _, _, t4⟩ := h2 y v hy
  rw [s4, Bool.and_eq_true] at hu
  rw [t4, Bool.and_eq_true] at hv
  obtain ⟨i, hi, hi2⟩ := List.mem_iff_getElem.1 s1
  obtain ⟨j, hj, hj2⟩ := List.mem_iff_getElem.1 t1
  have gi : (q.outs.map fun x => B5 σ x.2.pc)[i]? = some (B5 σ s.pc) := by rw [List.getElem?_map, List.getElem?_eq_getElem hi, hi2]; rfl
  have gj : (q.outs.map fun x => B5 σ x.2.pc)[j]? = some (B5 σ t.pc) := by rw [List.getElem?_map, List.getElem?_eq_getElem hj, hj2]; rfl
  rcases Nat.lt_trichotomy i j with hij | hij | hij
  ·exact absurd ⟨hu.2, hv.2⟩ (h5 hu.1 i j _ _ hij gi gj)
  ·subst hij
   rw [hi2] at hj2
   injection hj2
  ·exact absurd ⟨hv.2, hu.2⟩ (h5 hu.1 j i _ _ hij gj gi)
 ·-- the head
  obtain ⟨k1, k2, k3, k4, k5⟩ := DS (e := e) (loc := loc) (w0 := w0) c1
  have he1 : ∀ i, Jv (ls.map (L.ev e)) i = (Bl ls i).ev e := fun i => by
   unfold Jv Bl
   rw [List.getD, List.getElem?_map]
   cases ls[i]? <;> rfl
  have hpre : (T q.id (ls.map (L.ev e))).1 = true := by
   have p1 := hmu.2 hpc
   have p2 := hpn.2 0 _ rfl
   simp only [G.Ba, Nat.add_zero] at p2
   rw [L.Aw, p2] at p1
   exact p1
  have hfr := k4 _ hf
  have hcl := k5 _ hw
  have hrl : (CG (Bl ls) q.tm).rows.length = q.tm.rows.length := by simp [CG]
  rw [hrl] at hfr
  refine hq.2 (ls.map (L.ev e)) w0 (DR loc ρ) a w Q hT (by simpa using hlen) hpre ((EU he1).1 hfr) (by obtain ⟨B, hB, hR, hbel⟩ := hcl; exact ⟨B, hB, (DQ he1).1 hR, hbel⟩) fun x s e' hxs hag hs loc' a' w' q1 q2 q3 q4 => ?_
  obtain ⟨u, u1, u2, u3, u4⟩ := h3 c2 x s hxs
  have hus := c3 _ _ hxs
  simp only [Bool.and_eq_true, P4] at hus
  obtain ⟨⟨⟨us1, us2⟩, us3⟩, us4⟩ := hus
  have hw' := hq.1 _ hpre
  have he2 : ∀ i, Ov q (ls.map (L.ev e)) (T q.id (ls.map (L.ev e))).2 i = (σ i).ev e := fun i => by
   rw [← hσ]
   unfold Ov BU
   split
   ·split
    ·exact he1 i
    ·rfl
   ·unfold Bl DM
    generalize i - q.k = j
    by_cases hj : j < q.w
    ·have hj' : (T q.id (ls.map (L.ev e))).2[j]? = some ((T q.id (ls.map (L.ev e))).2[j]'(by omega)) := List.getElem?_eq_getElem (by omega)
     have := hpn.2 (j + 1) _ (show (D.ev T (.call q.id) (ls.map (L.ev e)))[j + 1]? = some _ from hj')
     simp only [G.Ba] at this
     rw [List.getD, hj', List.getElem?_map, List.getElem?_range hj]
     simp only [Option.map_some, Option.getD_some, L.Aw]
     rw [← this]
     congr 1
     omega
    ·rw [List.getD, List.getElem?_eq_none (by omega), List.getElem?_eq_none (by simp; omega)]
     rfl
  have hfr2 := Mu hag us1 q2
  obtain ⟨B4, hB4, hR4, hbel4⟩ := q4
  have hrw2 := KJ hag us2 hR4
  have hpc2 := BS hag us3
  simp only [FG] at hpc2
  have hrl2 : (CG σ s).rows.length = s.rows.length := by simp [CG]
  refine hQ x u u1 (by rw [u4, hpc, GI he2, ← hpc2, hs]; rfl) loc' a' w' (by rw [hm]; exact k3.trans q1 (Nat.le_refl _)) (by rw [hm, u3, hrl2]; exact us4) ?_ q3 ?_
  ·rw [u2, u3, hrl2]
   exact (EU he2).2 hfr2
  ·rw [u3]
   exact ⟨B4, hB4, (DQ he2).2 hrw2, hbel4⟩
end
end Rx
namespace Rx
open Go Go.RowKit
section
variable {T : Nat → List A → Bool × List A} {e : Nat → A} {P : Program} {X : Ctx} {w0 : W0}
theorem Am.enter {n : Nat} {loc : Loc} {args : List PV} {vs : List Value} {m : Nat} (h : An e n loc args vs) :
  Am e n loc (args.map .pv ++ List.replicate (m - args.length) .undef) (vs.toArray ++ Array.replicate (m - vs.toArray.size) Go.undef) := by
 have hl := Hp h
 have at_ : ∀ {args : List PV} {vs : List Value} (i : Nat) (p : PV) (v : Value), An e n loc args vs → args[i]? = some p → vs[i]? = some v → p.rel e n loc v := by
  intro args
  induction args with
  | nil => intro vs i p v _ h; simp at h
  | cons a l ih =>
   intro vs i p v h hp hv
   cases vs with
   | nil => exact h.elim
   | cons b vs =>
    cases i with
    | zero => simp at hp hv; subst hp hv; exact h.1
    | succ i => exact ih i p v h.2 (by simpa using hp) (by simpa using hv)
 refine ⟨by simp [hl], fun i s v hs hv => ?_⟩
 by_cases hi : i < args.length
 ·rw [List.getElem?_append_left (by simpa using hi)] at hs
  rw [Array.getElem?_append_left (by simp; omega)] at hv
  simp only [List.getElem?_map, Option.map_eq_some_iff] at hs
  obtain ⟨p, hp, rfl⟩ := hs
  exact at_ i p v h hp (by simpa using hv)
 ·rw [List.getElem?_append_right (by simp; omega)] at hs
  rw [Array.getElem?_append_right (by simp; omega)] at hv
  have hs' := List.mem_of_getElem? hs
  have hv' := Array.mem_of_getElem? hv
  rw [List.mem_replicate] at hs'
  rw [Array.mem_replicate] at hv'
  rw [hs'.2, hv'.2]
  rfl
theorem Ny {c : L} {both : Option (L × L × L)} {s t : L} {g : G} (h : Good T e (DX c both s t g).2) : Good T e g := by
 unfold DX at h
 split at h
 ·split at h
  ·exact h
  ·exact (C3 h).1
 ·exact (C3 h).1
theorem Dy {c : L} {both : Option (L × L × L)} {s t : St} {g : G} (h : Good T e (Bx c both s t g).2) : Good T e g := by
 unfold Bx at h
 generalize Cm s t = st at h
 simp only at h
 exact (Ds (Cy (Ny h)).1).1
theorem CB {c nc : L} {both : Option (L × L × L)} : ∀ {o1 o2 : Ah} {g : G}, Good T e (combine c nc both o1 o2 g).2 → Good T e g
 | [], o2, g, h => (HC (w0 := default) h).1
 | (y, s) :: l, o2, g, h => by
  unfold combine at h
  cases ht : Ah.get y o2 with
  | some t =>
   rw [ht] at h
   simp only at h
   exact Dy (CB h)
  | none =>
   rw [ht] at h
   simp only at h
   exact (AE (CB h)).1
theorem Ps {id : Nat} {o : Ah} {g g' : G} {outs : Ah} (h : (match Ah.get (.exit id) o, Ah.get .norm o with
   | none, _ => some (o, g)
   | some t, none => some ((.norm, t) :: Ah.drop (.exit id) o, g)
   | some t, some s =>
    let (u, g) := Bx s.pc none s t g
    some ((.norm, u) :: Ah.drop (.exit id) (Ah.drop .norm o), g)) = some (outs, g')) (hg : Good T e g') : Good T e g := by
 split at h
 ·simp only [Option.some.injEq, Prod.mk.injEq] at h
  obtain ⟨_, rfl⟩ := h
  exact hg
 ·simp only [Option.some.injEq, Prod.mk.injEq] at h
  obtain ⟨_, rfl⟩ := h
  exact hg
 ·simp only [Option.some.injEq, Prod.mk.injEq] at h
  obtain ⟨_, rfl⟩ := h
  exact Dy hg
theorem Ow {o : Ah} {g g' : G} {s : St} (h : J3 o g = some (s, g')) (hg : Good T e g') : Good T e g := by
 unfold J3 at h
 split at h
 ·simp only [Option.some.injEq, Prod.mk.injEq] at h
  obtain ⟨_, rfl⟩ := h
  exact hg
 ·simp only [Option.some.injEq, Prod.mk.injEq] at h
  obtain ⟨_, rfl⟩ := h
  exact hg
 ·simp only [Option.some.injEq] at h
  exact Dy (c := _) (both := none) (s := _) (t := _) (by rw [h]; exact hg)
 ·simp only [Option.some.injEq] at h
  exact Dy (c := _) (both := none) (s := _) (t := _) (by rw [h]; exact hg)
 ·cases h
def child : Code → Bool → Option Code
 | .seq a b, t => some (if t then b else a)
 | .cond _ a b, t => some (if t then b else a)
 | .block _ c, false => some c
 | .loop c, false => some c
 | _, _ => none
def C8 : List Bool → Code → Option Code
 | [], c => some c
 | b :: p, c => match C8 p c with | some d => child d b | none => none
def Ud (X : Ctx) (f : Nat) (pa : List Bool) (c : Code) : Prop := ∃ fn body, X.fns f = some fn ∧ fn.body = some body ∧ C8 pa body = some c
theorem Ud.child {f : Nat} {pa : List Bool} {c d : Code} {b : Bool} (h : Ud X f pa c) (hd : Rx.child c b = some d) : Ud X f (b :: pa) d := by
 obtain ⟨fn, body, h1, h2, h3⟩ := h
 exact ⟨fn, body, h1, h2, by simp only [C8, h3, hd]⟩
structure XL (P : Program) (T : Nat → List A → Bool × List A) (X : Ctx) : Prop extends XOK P T X where
 lps : ∀ q ∈ X.lps, ∀ fn body c, X.fns q.f = some fn → fn.body = some body → C8 q.p body = some (.loop c) → Ca P T q c
theorem Mv : ∀ {a b : List Bool}, Cb (· == ·) a b = true → a = b
 | [], [], _ => rfl
 | [], _ :: _, h => by simp [Cb] at h
 | _ :: _, [], h => by simp [Cb] at h
 | a :: l, b :: m, h => by
  simp only [Cb, Bool.and_eq_true, beq_iff_eq] at h
  rw [h.1, Mv h.2]
theorem DT {f : Nat} {pa : List Bool} {S : St} {c : Code} {outs : Ah} {g g' : G} (hT : K9 P w0.w) : ∀ {l : List Lp}, (∀ q ∈ l, q.f = f → q.p = pa → Ca P T q c) → EE f pa S g l = some (outs, g') → Good T e g' →
  Good T e g ∧ Ends P T e w0 S (fun Q a w => LW P c Q a w) outs
 | [], _, h, _ => by simp [EE] at h
 | q :: l, hl, h, hg => by
  unfold EE at h
  have hl' : ∀ q ∈ l, q.f = f → q.p = pa → Ca P T q c := fun q hq => hl q (by simp [hq])
  split at h
  ·rename_i hc
   simp only [Bool.and_eq_true, beq_iff_eq] at hc
   split at h
   ·rename_i r hr
    injection h with h
    subst h
    exact Ly hT (hl q (by simp) hc.1 (Mv hc.2)) hr hg
   ·exact DT hT hl' h hg
  ·exact DT hT hl' h hg
theorem HD (hX : XL P T X) (hT : K9 P w0.w) : ∀ n : Nat,
  (∀ (f : Nat) (pa : List Bool) (c : Code) (S : St) (g : G) (outs : Ah) (g' : G), Ud X f pa c → exec X n f pa c S g = some (outs, g') → Good T e g' → Good T e g ∧ Ends P T e w0 S (fun Q a w => c.wp P Q a w) outs) ∧
  (∀ (f : Nat) (pa : List Bool) (c : Code) (S : St) (k : Nat) (g : G) (outs : Ah) (g' : G), Ud X f pa c → rounds X n f pa c S k g = some (outs, g') → Good T e g' → Good T e g ∧ Ends P T e w0 S (fun Q a w => LW P c Q a w) outs) ∧
  F0 P T e w0 (inline X n)
 | 0 => ⟨fun f pa c S g outs g' _ h => by simp [exec] at h, fun f pa c S k g outs g' _ h => by simp [rounds] at h, hT, fun f args rows pc g v rows' g' h => by simp [inline] at h⟩
 | n + 1 => by
  obtain ⟨ih1, ih2, ih3⟩ := HD hX hT n
  refine ⟨fun f pa c S g outs g' hat h hg => ?_, fun f pa c S k g outs g' hat h hg => ?_, hT, fun f args rows pc g v rows' g' h hg => ?_⟩
  ·cases c with
   | skip =>
    simp only [exec, Option.some.injEq, Prod.mk.injEq] at h
    obtain ⟨rfl, rfl⟩ := h
    exact ⟨hg, Ea rfl fun loc a w Q hpc hf hw hc => wp_skip (hc loc a w (Ay.refl _ _) (Nat.le_refl _) hf rfl hw)⟩
   | ret =>
    simp only [exec, Option.some.injEq, Prod.mk.injEq] at h
    obtain ⟨rfl, rfl⟩ := h
    exact ⟨hg, Ea rfl fun loc a w Q hpc hf hw hc => wp_ret (hc loc a w (Ay.refl _ _) (Nat.le_refl _) hf rfl hw)⟩
   | exit id =>
    simp only [exec, Option.some.injEq, Prod.mk.injEq] at h
    obtain ⟨rfl, rfl⟩ := h
    exact ⟨hg, Ea rfl fun loc a w Q hpc hf hw hc => wp_exit (hc loc a w (Ay.refl _ _) (Nat.le_refl _) hf rfl hw)⟩
   | region id ops draw =>
    simp only [exec, Option.bind_eq_bind, Option.bind_eq_some_iff, Option.some.injEq, Prod.mk.injEq] at h
    obtain ⟨⟨S', g1⟩, h1, rfl, rfl⟩ := h
    obtain ⟨k1, k2, k3⟩ := IU hX.toXOK ih3 h1 hg
    refine ⟨k1, Ea k2 fun loc a w Q hpc hf hw hc => ?_⟩
    have := k3 id loc a w Q hpc hf hw hc
    simpa using this
   | seq x y =>
    simp only [exec, Option.bind_eq_bind, Option.bind_eq_some_iff] at h
    obtain ⟨⟨o, g1⟩, h1, h⟩ := h
    simp only at h
    have hW : ∀ Q a w, x.wp P (Exit.then (y.wp P Q) Q) a w → (Code.seq x y).wp P Q a w := fun Q a w hh => wp_seq hh
    split at h
    ·rename_i hn
     simp only [Option.some.injEq, Prod.mk.injEq] at h
     obtain ⟨rfl, rfl⟩ := h
     obtain ⟨k1, k2⟩ := ih1 _ _ _ _ _ _ _ (hat.child rfl) h1 hg
     exact ⟨k1, Ms (Wb := fun Q a w => y.wp P Q a w) hW k2 hn⟩
    ·rename_i s hn
     split at h
     ·rename_i hf
      simp only [Option.some.injEq, Prod.mk.injEq] at h
      obtain ⟨rfl, rfl⟩ := h
      obtain ⟨k1, k2⟩ := ih1 _ _ _ _ _ _ _ (hat.child rfl) h1 hg
      exact ⟨k1, KF (Wb := fun Q a w => y.wp P Q a w) hW k2 hn hf⟩
     ·simp only [Option.bind_eq_some_iff] at h
      obtain ⟨⟨o2, g2⟩, h2, h⟩ := h
      simp only at h
      split at h
      ·rename_i hr
       simp only [Option.some.injEq, Prod.mk.injEq] at h
       obtain ⟨rfl, rfl⟩ := h
       obtain ⟨q1, q2⟩ := ih1 _ _ _ _ _ _ _ (hat.child rfl) h2 hg
       obtain ⟨k1, k2⟩ := ih1 _ _ _ _ _ _ _ (hat.child rfl) h1 q1
       exact ⟨k1, KG hW k2 hn q2 hr⟩
      ·simp only [Option.some.injEq] at h
       have hgc : Good T e (combine s.pc (mkNot s.pc g2).1 none o2 (Ah.drop .norm o) (mkNot s.pc g2).2).2 := by rw [h]; exact hg
       have hcg := CA (w0 := w0) (T := T) (e := e) (c := s.pc) (nc := (mkNot s.pc g2).1) (both := none) (o1 := o2) (o2 := Ah.drop .norm o) (g := (mkNot s.pc g2).2)
       have hgn : Good T e (mkNot s.pc g2).2 := CB hgc
       have hnot := Bc hgn
       obtain ⟨q1, q2⟩ := ih1 _ _ _ _ _ _ _ (hat.child rfl) h2 hnot.1
       obtain ⟨k1, k2⟩ := ih1 _ _ _ _ _ _ _ (hat.child rfl) h1 q1
       have := Ib hW k2 hn q2 (nc := (mkNot s.pc g2).1) (by rw [hnot.2]; rfl) hgc
       rw [h] at this
       exact ⟨k1, this⟩
   | cond c x y =>
    simp only [exec, Option.bind_eq_bind, Option.bind_eq_some_iff] at h
    obtain ⟨p, hp, b, hb, h⟩ := h
    have hev : ∀ loc (a : Act), Am e S.rows.length loc S.fr a.tmps → a.eval c = .bool (b.ev e).bool := fun loc a hf => PV.Kb hb (Aa hp hf (fun x hx => by cases hx))
    split at h
    ·obtain ⟨k1, k2⟩ := ih1 _ _ _ _ _ _ _ (hat.child rfl) h hg
     exact ⟨k1, k2.pc, k2.one, fun loc a w Q hpc hf hw hQ => wp_cond_true (hev loc a hf) (k2.wp loc a w Q hpc hf hw hQ)⟩
    ·obtain ⟨k1, k2⟩ := ih1 _ _ _ _ _ _ _ (hat.child rfl) h hg
     exact ⟨k1, k2.pc, k2.one, fun loc a w Q hpc hf hw hQ => wp_cond_false (hev loc a hf) (k2.wp loc a w Q hpc hf hw hQ)⟩
    ·simp only [Option.bind_eq_some_iff] at h
     obtain ⟨⟨o1, g1⟩, h1, ⟨o2, g2⟩, h2, h⟩ := h
     simp only [Option.some.injEq] at h
     obtain ⟨nx, gn, hnx⟩ : ∃ nx gn, mkNot b g = (nx, gn) := ⟨_, _, rfl⟩
     obtain ⟨p1, ga, hp1⟩ : ∃ p1 ga, mkAnd S.pc b gn = (p1, ga) := ⟨_, _, rfl⟩
     obtain ⟨p2, gb, hp2⟩ : ∃ p2 gb, mkAnd S.pc nx ga = (p2, gb) := ⟨_, _, rfl⟩
     simp only [hnx, hp1, hp2] at h h1 h2
     have hgc : Good T e (combine b nx (some (S.pc, p1, p2)) o1 o2 g2).2 := by rw [h]; exact hg
     have hg2 : Good T e g2 := CB hgc
     obtain ⟨q1, q2⟩ := ih1 _ _ _ _ _ _ _ (hat.child rfl) h2 hg2
     obtain ⟨k1, k2⟩ := ih1 _ _ _ _ _ _ _ (hat.child rfl) h1 q1
     have m2 := AE (T := T) (e := e) (a := S.pc) (b := nx) (g := ga) (by rw [hp2]; exact k1)
     rw [hp2] at m2
     have m1 := AE (T := T) (e := e) (a := S.pc) (b := b) (g := gn) (by rw [hp1]; exact m2.1)
     rw [hp1] at m1
     have m0 := Bc (T := T) (e := e) (a := b) (g := g) (by rw [hnx]; exact m1.1)
     rw [hnx] at m0
     have hnc : (nx.ev e).bool = !(b.ev e).bool := by rw [m0.2]; rfl
     have hcg := (CA (w0 := w0) hnc (fun p x y h0 => by
      simp only [Option.some.injEq, Prod.mk.injEq] at h0
      obtain ⟨rfl, rfl, rfl⟩ := h0
      exact ⟨m1.2, by rw [m2.2, hnc]⟩) hgc).2
     rw [h] at hcg
     obtain ⟨c1, c2, c3⟩ := hcg
     refine ⟨m0.1, fun x u hx hu => ?_, fun x y u v hx hy hu hv => ?_, fun loc a w Q hpc hf hw hQ => ?_⟩
     ·rcases c1 x u hx hu with ⟨_, s, s1, s2⟩ | ⟨_, s, s1, s2⟩
      ·have := k2.pc x s s1 s2
       simp only [m1.2, Bool.and_eq_true] at this
       exact this.1
      ·have := q2.pc x s s1 s2
       simp only [m2.2, Bool.and_eq_true] at this
       exact this.1
     ·rcases c1 x u hx hu with ⟨a1, s, s1, s2⟩ | ⟨a1, s, s1, s2⟩ <;> rcases c1 y v hy hv with ⟨a2, t, t1, t2⟩ | ⟨a2, t, t1, t2⟩
      ·exact k2.one _ _ _ _ s1 t1 s2 t2
      ·rw [a1] at a2; cases a2
      ·rw [a1] at a2; cases a2
      ·exact q2.one _ _ _ _ s1 t1 s2 t2
     ·refine wp_cond_split (hev loc a hf) (fun ht => ?_) (fun ht => ?_)
      ·refine k2.wp loc a w Q (by simp only [m1.2, hpc, ht, Bool.and_self]) hf hw fun x s hx hs => ?_
       obtain ⟨u, u1, u2, u3⟩ := c2 ht x s hx hs
       exact (hQ x u u1 u2).ref u3
      ·refine q2.wp loc a w Q (by simp only [m2.2, hpc, hnc, ht]; rfl) hf hw fun x s hx hs => ?_
       obtain ⟨u, u1, u2, u3⟩ := c3 ht x s hx hs
       exact (hQ x u u1 u2).ref u3
   | block id c =>
    simp only [exec, Option.bind_eq_bind, Option.bind_eq_some_iff] at h
    obtain ⟨⟨o, g1⟩, h1, h⟩ := h
    simp only at h
    have hg1 : Good T e g1 := Ps h hg
    obtain ⟨k1, k2⟩ := ih1 _ _ _ _ _ _ _ (hat.child rfl) h1 hg1
    exact ⟨k1, (Pr k2 h hg).2⟩
   | loop c =>
    simp only [exec] at h
    split at h
    ·obtain ⟨fn, body, f1, f2, f3⟩ := hat
     obtain ⟨k1, k2⟩ := DT (w0 := w0) (c := c) hT (fun q hq hf hp => hX.lps q hq fn body c (by rw [hf]; exact f1) f2 (by rw [hp]; exact f3)) h hg
     exact ⟨k1, k2.pc, k2.one, fun loc a w Q hpc hf hw hQ => (k2.wp loc a w Q hpc hf hw hQ).wp⟩
    obtain ⟨k1, k2⟩ := ih2 _ _ _ _ _ _ _ _ (hat.child rfl) h hg
    exact ⟨k1, k2.pc, k2.one, fun loc a w Q hpc hf hw hQ => (k2.wp loc a w Q hpc hf hw hQ).wp⟩
   | _ => simp [exec] at h
  ·simp only [rounds, Option.bind_eq_bind] at h
   have hW : ∀ Q a w, c.wp P (Exit.then (LW P c Q) Q) a w → LW P c Q a w := fun Q a w hh => .of hh
   split at h
   ·simp only [Option.some.injEq, Prod.mk.injEq] at h
    obtain ⟨rfl, rfl⟩ := h
    have hm := Al hg
    have hn := Bc hm.1
    have hf : (S.pc.ev e).bool = false := by
     have := hm.2 rfl
     rw [hn.2] at this
     simpa using this
    exact ⟨hn.1, fun x s hx => by simp [Ah.get] at hx, fun x y s t hx => by simp [Ah.get] at hx, fun loc a w Q hpc => by rw [hf] at hpc; cases hpc⟩
   ·simp only [Option.bind_eq_some_iff] at h
    obtain ⟨⟨o, g1⟩, h1, h⟩ := h
    simp only at h
    split at h
    ·rename_i hn
     simp only [Option.some.injEq, Prod.mk.injEq] at h
     obtain ⟨rfl, rfl⟩ := h
     obtain ⟨k1, k2⟩ := ih1 _ _ _ _ _ _ _ hat h1 hg
     exact ⟨k1, Ms (Wb := fun Q a w => LW P c Q a w) hW k2 hn⟩
    ·rename_i s hn
     split at h
     ·rename_i hf
      simp only [Option.some.injEq, Prod.mk.injEq] at h
      obtain ⟨rfl, rfl⟩ := h
      obtain ⟨k1, k2⟩ := ih1 _ _ _ _ _ _ _ hat h1 hg
      exact ⟨k1, KF (Wb := fun Q a w => LW P c Q a w) hW k2 hn hf⟩
     ·simp only [Option.bind_eq_some_iff] at h
      obtain ⟨⟨o2, g2⟩, h2, h⟩ := h
      simp only at h
      split at h
      ·rename_i hr
       simp only [Option.some.injEq, Prod.mk.injEq] at h
       obtain ⟨rfl, rfl⟩ := h
       obtain ⟨q1, q2⟩ := ih2 _ _ _ _ _ _ _ _ hat h2 hg
       obtain ⟨k1, k2⟩ := ih1 _ _ _ _ _ _ _ hat h1 q1
       exact ⟨k1, KG hW k2 hn q2 hr⟩
      ·simp only [Option.some.injEq] at h
       have hgc : Good T e (combine s.pc (mkNot s.pc g2).1 none o2 (Ah.drop .norm o) (mkNot s.pc g2).2).2 := by rw [h]; exact hg
       have hgn : Good T e (mkNot s.pc g2).2 := CB hgc
       have hnot := Bc hgn
       obtain ⟨q1, q2⟩ := ih2 _ _ _ _ _ _ _ _ hat h2 hnot.1
       obtain ⟨k1, k2⟩ := ih1 _ _ _ _ _ _ _ hat h1 q1
       have := Ib hW k2 hn q2 (nc := (mkNot s.pc g2).1) (by rw [hnot.2]; rfl) hgc
       rw [h] at this
       exact ⟨k1, this⟩
  ·simp only [inline] at h
   split at h
   ·exact Fg hX.big hT h hg
   split at h
   ·rename_i m hm
    split at h
    ·rename_i hf
     have hf : m.f = f := by simpa using hf
     have hmo := hX.muts _ _ hm
     unfold Qe at hmo
     split at h
     ·rename_i hgr
      rw [hgr] at hmo
      obtain ⟨q1, q2⟩ := Kn hT hmo h hg
      rw [hf] at q2
      exact ⟨q1, q2⟩
     ·rename_i hgr
      rw [show m.grow = false by simpa using hgr] at hmo
      obtain ⟨q1, q2⟩ := Lo hmo h hg
      rw [hf] at q2
      exact ⟨q1, q2⟩
    ·cases h
   simp only [Option.bind_eq_bind, Option.bind_eq_some_iff] at h
   obtain ⟨fn, hfn, body, hbody, ⟨o, g1⟩, h1, ⟨s, g2⟩, h2, ⟨rs, g3⟩, h3, h⟩ := h
   simp only [Option.some.injEq, Prod.mk.injEq] at h
   obtain ⟨rfl, rfl, rfl⟩ := h
   obtain ⟨f1, _, _⟩ := hX.fns f fn hfn
   obtain ⟨r1, r2⟩ := Eu (P := P) (e := e) (w0 := w0) hX.Ax h3
   subst r1
   have hg1 : Good T e g1 := Ow h2 hg
   obtain ⟨k1, k2⟩ := ih1 _ _ _ _ _ _ _ ⟨fn, body, hfn, hbody, rfl⟩ h1 hg1
   obtain ⟨_, j2⟩ := Nx k2 h2 hg
   refine ⟨k1, fun loc vs w hpc hvs hw => ?_⟩
   refine calls_of_wp f1 hbody (k2.wp loc _ w _ hpc (Am.enter hvs) hw fun x s1 hx hs1 => ?_)
   obtain ⟨j3, j4⟩ := j2 x s1 hx hs1
   intro loc' a' w' q1 q2 q3 q4 q5
   obtain ⟨loc2, t0, t1, t2, t3⟩ := j4 loc' a'.tmps w' q3 q5
   obtain ⟨us, u1, u2⟩ := r2 loc2 a'.tmps w' t2 t3
   have : a'.defers = [] ∧ ∃ v, (Go.results fn a'.tmps).run P w' = .ok v w' ∧ (fun en w'' => ∃ u, en = Ending.returned u ∧ ∃ loc', Ay rows.length loc loc' ∧ rows.length ≤ s.rows.length ∧ (HM rs).rel e s.rows.length loc' u ∧ AV e w0 loc' s.rows w'') (.returned v) w' :=
    ⟨q4, Hv us, Ot u2, Hv us, rfl, loc2, q1.trans t0 q2, Nat.le_trans q2 t1, ES u1, t3⟩
   rcases j3 with rfl | rfl
   ·exact this
   ·exact this
end
end Rx
namespace Rx
open Go Go.RowKit
section
variable {T : Nat → List A → Bool × List A} {e : Nat → A} {P : Program} {X : Ctx} {w0 : W0}
def ext (T : Nat → List A → Bool × List A) (e : Nat → A) (d : Def) : Nat → A := fun j =>
 if d.base ≤ j then (match (d.d.ev T (d.args.map (L.ev e)))[j - d.base]? with | some a => a | none => e j) else e j
def Di (T : Nat → List A → Bool × List A) (e : Nat → A) : List Def → Nat → A
 | [] => e
 | d :: l => ext T (Di T e l) d
def BN (k : Nat) : List L → Bool
 | [] => true
 | .var i :: l => decide (i < k) && BN k l
 | _ :: l => BN k l
def Def.width (ws : List (Nat × Nat)) (d : Def) : Nat :=
 match d.d with
 | .call f => (look f ws).getD 0
 | .upd => d.args.length - 2
 | _ => 1
def Ic (ws : List (Nat × Nat)) : List Def → Nat → Bool
 | [], _ => true
 | d :: l, top => BN d.base d.args && decide (d.base + d.width ws ≤ top) && (match d.d with | .call f => (look f ws).isSome | _ => true) && Ic ws l d.base
def Fj (T : Nat → List A → Bool × List A) (ws : List (Nat × Nat)) : Prop := ∀ f k, look f ws = some k → ∀ as, (T f as).2.length + 1 ≤ k
theorem TP {ws : List (Nat × Nat)} (hw : Fj T ws) (d : Def) (hd : (match d.d with | .call f => (look f ws).isSome | _ => true) = true) : (d.d.ev T (d.args.map (L.ev e))).length ≤ d.width ws := by
 obtain ⟨b, dd, args⟩ := d
 unfold Def.width
 cases dd
 case call f =>
  simp only at hd
  cases hk : look f ws with
  | none => rw [hk] at hd; cases hd
  | some k => simpa [D.ev, hk] using hw f k hk (args.map (L.ev e))
 case upd =>
  match args with
  | [] => simp [D.ev]
  | [_] => simp [D.ev]
  | _ :: _ :: l => simp [D.ev]
 case rep =>
  match args with
  | [] => simp [D.ev]
  | _ :: l => simp [D.ev]
 case mkl => simp [D.ev]
 case sel =>
  match args with
  | [] => simp [D.ev]
  | _ :: l => simp [D.ev]
 all_goals
  match args with
  | [] => simp [D.ev]
  | [_] => simp [D.ev]
  | [_, _] => simp [D.ev]
  | [_, _, _] => simp [D.ev]
  | _ :: _ :: _ :: _ :: _ => simp [D.ev]
theorem BE {k : Nat} {e e' : Nat → A} (he : ∀ j, j < k → e' j = e j) : ∀ {l : List L}, BN k l = true → l.map (L.ev e') = l.map (L.ev e)
 | [], _ => rfl
 | .var i :: l, h => by
  simp only [BN, Bool.and_eq_true, decide_eq_true_eq] at h
  simp only [List.map_cons, L.ev, he i h.1, BE he h.2]
 | .e :: l, h => by simp only [BN] at h; simp only [List.map_cons, L.ev, BE he h]
 | .n _ :: l, h => by simp only [BN] at h; simp only [List.map_cons, L.ev, BE he h]
 | .t _ :: l, h => by simp only [BN] at h; simp only [List.map_cons, L.ev, BE he h]
 | .s _ :: l, h => by simp only [BN] at h; simp only [List.map_cons, L.ev, BE he h]
theorem IX {ws : List (Nat × Nat)} (hw : Fj T ws) (e : Nat → A) : ∀ {l : List Def} {top : Nat}, Ic ws l top = true → ∀ d ∈ l, d.holds T (Di T e l)
 | d :: l, top, h, x, hx => by
  simp only [Ic, Bool.and_eq_true, decide_eq_true_eq] at h
  obtain ⟨⟨⟨h1, h2⟩, hcd⟩, h3⟩ := h
  have below : ∀ j, j < d.base → Di T e (d :: l) j = Di T e l j := fun j hj => by
   show ext T (Di T e l) d j = _
   unfold ext
   rw [if_neg (by omega)]
  rcases List.mem_cons.1 hx with rfl | hx
  ·intro j a ha
   rw [BE below h1] at ha
   show ext T (Di T e l) x (x.base + j) = a
   unfold ext
   rw [if_pos (by omega), show x.base + j - x.base = j by omega, ha]
  ·have ih := IX hw e h3 x hx
   have htop : ∀ {l : List Def} {top : Nat}, Ic ws l top = true → ∀ d ∈ l, d.base + d.width ws ≤ top ∧ BN d.base d.args = true ∧ (match d.d with | .call f => (look f ws).isSome | _ => true) = true := by
    intro l
    induction l with
    | nil => intro top _ d hd; cases hd
    | cons y l ih =>
     intro top h d hd
     simp only [Ic, Bool.and_eq_true, decide_eq_true_eq] at h
     rcases List.mem_cons.1 hd with rfl | hd
     ·exact ⟨h.1.1.2, h.1.1.1, h.1.2⟩
     ·have := ih h.2 d hd
      have h5 := h.1.1.2
      exact ⟨by omega, this.2⟩
   obtain ⟨k1, k2, k3⟩ := htop h3 x hx
   intro j a ha
   rw [BE (e := Di T e l) (fun i hi => below i (by omega)) k2] at ha
   have hj : j < (x.d.ev T (x.args.map (L.ev (Di T e l)))).length := Ab ha
   have hwd := TP (e := Di T e l) hw x k3
   rw [below _ (by omega)]
   exact ih j a ha
theorem QS (hX : XL P T X) {n f next : Nat} {args : List PV} {rows rows' : List Row} {v : SV} {g : G} {kn : List DF} (h : run X n f args rows next kn = some (v, rows', g)) (hg : Good T e g)
  {loc : Loc} {vs : List Value} {w : World} (hT : K9 P w) (hvs : An e rows.length loc args vs) {S : Nat → Prop} (hS : ∀ k, S k → k < w.heap.size) (hrows : Ad e loc rows w ⟨w.heap.size, S⟩) :
  Calls P f vs.toArray w fun en w' => ∃ u, en = .returned u ∧ (∃ loc', v.rel e rows'.length loc' u) ∧ Below w.heap.size w w' := by
 have := (HD (T := T) (e := e) (w0 := ⟨w, S⟩) hX hT n).2.2.2 f args rows (.t true) _ v rows' g h hg
 exact (this.2 loc vs w rfl hvs ⟨_, ⟨rfl, fun k hk => .inl hk, Nat.le_refl _, hS⟩, hrows, Below.refl _ _⟩).mono fun en w' ⟨u, h1, loc', h2, h3, h4, h5⟩ => ⟨u, h1, ⟨loc', h4⟩, h5.Tw⟩
end
end Rx
namespace Rx
open Go Go.RowKit
def Qk (lf : Nat → L) : List Ak → Nat → List C
 | [], _ => []
 | s :: l, b => .k (s.mk (lf b)) :: Qk lf l (b + 1)
def EW (lf : Nat → L) (ss : List Ak) : Nat → Nat → List C
 | 0, _ => []
 | n + 1, b => Qk lf ss b ++ EW lf ss n (b + ss.length)
def Te (lits : List (Nat × Int)) (i : Nat) : L := match look i lits with | some x => .n x | none => .var i
def Jw : List Ak → Nat
 | [] => 0
 | .sl _ :: ss => Jw ss + 2
 | _ :: ss => Jw ss + 1
def F4 (lf : Nat → L) : List Ak → Nat → Nat → List C
 | [], _, _ => []
 | .sl _ :: ss, b, r => .k (.fsl r (lf (b + 1))) :: F4 lf ss (b + 2) (r + 1)
 | s :: ss, b, r => .k (s.mk (lf b)) :: F4 lf ss (b + 1) r
def BZ (lf : Nat → L) : List Ak → Nat → List Row
 | [], _ => []
 | .sl ss' :: ss, b => { own := false, ty := 0, es := 0, cells := [], lst := some ⟨false, 0, ss', lf b, lf (b + 1)⟩ } :: BZ lf ss (b + 2)
 | _ :: ss, b => BZ lf ss (b + 1)
def Dj (lf : Nat → L) : List PS → List Nat → Nat → Nat → Option (List PV × List Row × Nat)
 | [], [], b, _ => some ([], [], b)
 | .c agg ss :: l, ns, b, r => do
  let p ← C9 agg (Qk lf ss b)
  let (ps, rows, k) ← Dj lf l ns (b + ss.length) r
  some (p :: ps, rows, k)
 | .slc ss :: l, n :: ns, b, r => do
  let (ps, rows, k) ← Dj lf l ns (b + (1 + n * ss.length)) (r + 1)
  some (.one (.k (.slc r 0 n)) :: ps, { own := false, ty := 0, es := ss.length, cells := EW lf ss n (b + 1) } :: rows, k)
 | .nil :: l, ns, b, r => do
  let (ps, rows, k) ← Dj lf l ns b r
  some (.one (.k .nilslc) :: ps, rows, k)
 | .d agg ss :: l, ns, b, r => do
  let p ← C9 agg (F4 lf ss b r)
  let (ps, rows, k) ← Dj lf l ns (b + Jw ss) (r + (BZ lf ss b).length)
  some (p :: ps, BZ lf ss b ++ rows, k)
 | .lst ss :: l, ns, b, r => do
  let (ps, rows, k) ← Dj lf l ns (b + 2) (r + 1)
  some (.one (.k (.fsl r (lf (b + 1)))) :: ps, { own := false, ty := 0, es := 0, cells := [], lst := some ⟨false, 0, ss, lf b, lf (b + 1)⟩ } :: rows, k)
 | _, _, _, _ => none
def Ox : List PS → List Nat → List A → Prop
 | [], ns, as => ns = [] ∧ as = []
 | .c _ ss :: l, ns, as => ∃ a1 a2, as = a1 ++ a2 ∧ a1.length = ss.length ∧ Ox l ns a2
 | .slc ss :: l, ns, as => ∃ n ns' a1 a2, ns = n :: ns' ∧ as = (A.i n :: a1) ++ a2 ∧ a1.length = n * ss.length ∧ Ox l ns' a2
 | .nil :: l, ns, as => Ox l ns as
 | .lst _ :: l, ns, as => ∃ a k as', as = a :: k :: as' ∧ Ox l ns as'
 | .d _ ss :: l, ns, as => ∃ a1 a2, as = a1 ++ a2 ∧ a1.length = Jw ss ∧ Ox l ns a2
def Ec : List (Bool × List Ak) → List PV → Option (List L)
 | [], [] => some []
 | (agg, ss) :: rs, p :: ps => do
  let a ← HL [] (.c agg ss) p
  let r ← Ec rs ps
  some (a ++ r)
 | _, _ => none
def KK (rs : List (Bool × List Ak)) : SV → Option (List L)
 | .pv p => Ec rs [p]
 | .tup l => if l.length == 1 then none else Ec rs l
 | _ => none
section
variable {T : Nat → List A → Bool × List A} {e : Nat → A} {P : Program} {X : Ctx} {w0 : W0}
theorem IY {n : Nat} {loc : Loc} {lf : Nat → L} : ∀ {ss : List Ak} {as : List A} {b : Nat}, as.length = ss.length → (∀ j a, as[j]? = some a → (lf (b + j)).ev e = a) → Ag e n loc (Qk lf ss b) (Aj ss as)
 | [], [], _, _, _ => trivial
 | [], _ :: _, _, h, _ => by simp at h
 | _ :: _, [], _, h, _ => by simp at h
 | s :: ss, a :: as, b, h, hh => ⟨ER (by simpa using hh 0 a rfl), IY (by simpa using h) fun j x hx => by
   have := hh (j + 1) x (by simpa using hx)
   rwa [show b + 1 + j = b + (j + 1) by omega]⟩
theorem Ie {n : Nat} {loc : Loc} {lf : Nat → L} {ss : List Ak} : ∀ {m b : Nat} {as : List A}, as.length = m * ss.length → (∀ j a, as[j]? = some a → (lf (b + j)).ev e = a) → Ag e n loc (EW lf ss m b) (GG ss m as)
 | 0, _, _, _, _ => trivial
 | m + 1, b, as, h, hh => by
  have hle : ss.length ≤ as.length := by rw [h, Nat.succ_mul]; omega
  refine Dq (IY (by simp [hle]) fun j a hj => ?_) (Ie (by rw [List.length_drop, h, Nat.succ_mul]; omega) fun j a hj => ?_)
  ·rw [List.getElem?_take] at hj
   split at hj
   ·exact hh j a hj
   ·cases hj
  ·rw [List.getElem?_drop] at hj
   rw [Nat.add_assoc]
   exact hh _ a hj
theorem Cj {M : Addr → Option Value} : ∀ {ss : List Ak} {as : List A} {cs : List Value}, BD M ss as cs → as.length = Jw ss ∧ cs.length = ss.length
 | [], _, _, h => by obtain ⟨rfl, rfl⟩ := h; exact ⟨rfl, rfl⟩
 | .sl _ :: _, _, _, h => by
  obtain ⟨a, k, ar, b, m, c, cr, rfl, rfl, _, _, _, h⟩ := h
  have := Cj h
  simp [Jw, this]
 | .int _ :: _, _, _, h => by obtain ⟨a, ar, cr, rfl, rfl, h⟩ := h; have := Cj h; simp [Jw, this]
 | .bool :: _, _, _, h => by obtain ⟨a, ar, cr, rfl, rfl, h⟩ := h; have := Cj h; simp [Jw, this]
 | .str :: _, _, _, h => by obtain ⟨a, ar, cr, rfl, rfl, h⟩ := h; have := Cj h; simp [Jw, this]
 | .val :: _, _, _, h => by obtain ⟨a, ar, cr, rfl, rfl, h⟩ := h; have := Cj h; simp [Jw, this]
theorem BR.mono {M M' : Addr → Option Value} (hm : ∀ a u, M a = some u → M' a = some u) : ∀ {ps : List PS} {vs : List Value} {as : List A}, BR M ps vs as → BR M' ps vs as
 | [], _, _, h => h
 | p :: ps, _, _, h => by
  obtain ⟨v, vr, a1, a2, h1, h2, h3, h4⟩ := h
  refine ⟨v, vr, a1, a2, h1, h2, ?_, h4.mono hm⟩
  cases p with
  | c => exact h3
  | nil => exact h3
  | slc ss =>
   obtain ⟨b, o, n, c, rest, q1, q2, q3, q4⟩ := h3
   exact ⟨b, o, n, c, rest, q1, q2, q3, fun j u hu => hm _ _ (q4 j u hu)⟩
  | lst ss =>
   obtain ⟨a, k, b, m, c, q1, q2, q3, q4, q5⟩ := h3
   exact ⟨a, k, b, m, c, q1, q2, q3, q4, q5.mono hm⟩
  | d agg ss =>
   obtain ⟨cs, q1, q2⟩ := h3
   exact ⟨cs, q1, q2.mono hm⟩
theorem Ql {S : Nat → Prop} {w : World} {ss : List Ak} {x kk : A} {bb : Option Addr} {m c : Nat} {l0 l1 : L} (e0 : l0.ev e = x) (e1 : l1.ev e = kk) (hk : kk.int = (m : Nat)) (hs : 0 < ss.length) (hfsc : EH (CJ S w) (.sl ss) x (.slice bb m c)) :
  Dt e (CJ S w) { own := false, ty := 0, es := 0, cells := [], lst := some ⟨false, 0, ss, l0, l1⟩ } (.slice bb m c) ∧ ∀ (N r : Nat) (loc : Loc), r < N → loc r = Dd (.slice bb m c) → (K.fsl r l1).rel e N loc (.slice bb m c) := by
 obtain ⟨as1, m', c', b', z1, z2, z3, z4⟩ := hfsc.slice
 injection z2 with z2 z5 z6
 subst z2 z5 z6
 refine ⟨⟨rfl, rfl, _, as1, m, rfl, rfl, hs, by rw [← z1]; exact e0, z3, by simp only; rw [e1]; exact hk, by rw [z1] at hfsc; exact hfsc⟩, fun N r loc hr hloc => ?_⟩
 refine ⟨⟨hr, by rw [e1, hk]; omega, ?_⟩, rfl, .inr ?_⟩
 ·rw [hloc, BY, e1, hk]
  exact ⟨bb, c, by simp⟩
 ·simp only [K.AZ]
  rw [hloc, BY]
theorem Fk {S : Nat → Prop} {lf : Nat → L} {w : World} {s : Ak} {ss : List Ak} {as : List A} {vs : List Value} {b r : Nat} (h0 : F4 lf (s :: ss) b r = .k (s.mk (lf b)) :: F4 lf ss (b + 1) r) (h0' : BZ lf (s :: ss) b = BZ lf ss (b + 1))
  (ih : ∀ {as : List A} {vs : List Value} {b r : Nat}, BD (CJ S w) ss as vs → (∀ j a, as[j]? = some a → (lf (b + j)).ev e = a) → ∃ xs : List Value, xs.length = (BZ lf ss b).length ∧ (∀ (t : Nat) row, (BZ lf ss b)[t]? = some row → ∃ v, xs[t]? = some v ∧ Dt e (CJ S w) row v) ∧
   ∀ (N : Nat) (loc : Loc), r + (BZ lf ss b).length ≤ N → (∀ (t : Nat) v, xs[t]? = some v → loc (r + t) = Dd v) → Ag e N loc (F4 lf ss b r) vs)
  (h : ∃ a ar cr, as = a :: ar ∧ vs = s.AZ a :: cr ∧ BD (CJ S w) ss ar cr) (he : ∀ j a, as[j]? = some a → (lf (b + j)).ev e = a) :
  ∃ xs : List Value, xs.length = (BZ lf (s :: ss) b).length ∧ (∀ (t : Nat) row, (BZ lf (s :: ss) b)[t]? = some row → ∃ v, xs[t]? = some v ∧ Dt e (CJ S w) row v) ∧
   ∀ (N : Nat) (loc : Loc), r + (BZ lf (s :: ss) b).length ≤ N → (∀ (t : Nat) v, xs[t]? = some v → loc (r + t) = Dd v) → Ag e N loc (F4 lf (s :: ss) b r) vs := by
 obtain ⟨a, ar, cr, rfl, rfl, hr⟩ := h
 obtain ⟨xs, x1, x2, x3⟩ := ih (b := b + 1) (r := r) hr (fun j a hj => by
  have := he (1 + j) a (by rw [Nat.add_comm]; simpa using hj)
  rwa [Nat.add_assoc])
 rw [h0, h0']
 exact ⟨xs, x1, x2, fun N loc hN hloc => ⟨ER (he 0 _ rfl), x3 N loc hN hloc⟩⟩
theorem B7 {S : Nat → Prop} {lf : Nat → L} {w : World} : ∀ {ss : List Ak} {as : List A} {vs : List Value} {b r : Nat}, BD (CJ S w) ss as vs → (∀ j a, as[j]? = some a → (lf (b + j)).ev e = a) →
  ∃ xs : List Value, xs.length = (BZ lf ss b).length ∧ (∀ (t : Nat) row, (BZ lf ss b)[t]? = some row → ∃ v, xs[t]? = some v ∧ Dt e (CJ S w) row v) ∧
   ∀ (N : Nat) (loc : Loc), r + (BZ lf ss b).length ≤ N → (∀ (t : Nat) v, xs[t]? = some v → loc (r + t) = Dd v) → Ag e N loc (F4 lf ss b r) vs
 | [], _, _, _, _, h, _ => by
  obtain ⟨rfl, rfl⟩ := h
  exact ⟨[], rfl, fun t row h => by simp [BZ] at h, fun _ _ _ _ => trivial⟩
 | .sl ss' :: ss, _, _, b, r, h, he => by
  obtain ⟨a, k, ar, bb, m, c, cr, rfl, rfl, hk, hs, hf, hr⟩ := h
  obtain ⟨xs, x1, x2, x3⟩ := B7 (b := b + 2) (r := r + 1) hr (fun j a hj => by
   have := he (2 + j) a (by rw [show 2 + j = j + 1 + 1 by omega]; simpa using hj)
   rwa [Nat.add_assoc])
  obtain ⟨f1, f2⟩ := Ql (he 0 _ rfl) (he 1 _ rfl) hk hs hf
  refine ⟨.slice bb m c :: xs, by simp [BZ, x1], fun t row ht => ?_, fun N loc hN hloc => ?_⟩
  ·cases t with
   | zero =>
    simp only [BZ, List.getElem?_cons_zero, Option.some.injEq] at ht
    subst ht
    exact ⟨_, rfl, f1⟩
   | succ t => simpa using x2 t row (by simpa [BZ] using ht)
  ·simp only [BZ, List.length_cons] at hN
   refine ⟨f2 N r loc (by omega) (by simpa using hloc 0 _ rfl), x3 N loc (by omega) fun t v ht => ?_⟩
   have := hloc (t + 1) v (by simpa using ht)
   rwa [show r + 1 + t = r + (t + 1) by omega]
 | .int kd :: ss, _, _, b, r, h, he => Fk (s := .int kd) rfl rfl (fun h he => B7 h he) h he
 | .bool :: ss, _, _, b, r, h, he => Fk (s := .bool) rfl rfl (fun h he => B7 h he) h he
 | .str :: ss, _, _, b, r, h, he => Fk (s := .str) rfl rfl (fun h he => B7 h he) h he
 | .val :: ss, _, _, b, r, h, he => Fk (s := .val) rfl rfl (fun h he => B7 h he) h he
theorem CN {S : Nat → Prop} {lf : Nat → L} {w : World} (hS : ∀ k, S k → k < w.heap.size) : ∀ {ps : List PS} {ns : List Nat} {b r k : Nat} {args : List PV} {rows : List Row} {vs : List Value} {as : List A},
  Dj lf ps ns b r = some (args, rows, k) → BR (CJ S w) ps vs as → Ox ps ns as → (∀ j a, as[j]? = some a → (lf (b + j)).ev e = a) →
  k = b + as.length ∧ ∃ locs : List Lc, locs.length = rows.length ∧ ∀ (loc : Loc) (N : Nat), (∀ i x, locs[i]? = some x → loc (r + i) = x) → r + rows.length ≤ N →
   An e N loc args vs ∧ ∀ i row, rows[i]? = some row → row.own = false ∧ Au e N loc w ⟨w.heap.size, S⟩ (r + i) row ∧ ∀ q, row.lst = some q → q.own = false ∧ Be e loc w ⟨w.heap.size, S⟩ (r + i) q
 | [], [], b, r, k, args, rows, vs, as, h, ha, hl, he => by
  simp only [Dj, Option.some.injEq, Prod.mk.injEq] at h
  obtain ⟨rfl, rfl, rfl⟩ := h
  rw [ha.1, ha.2]
  exact ⟨rfl, [], rfl, fun loc N _ _ => ⟨trivial, fun i row h => by simp at h⟩⟩
 | [], _ :: _, _, _, _, _, _, _, _, h, _, _, _ => by simp [Dj] at h
 | .c agg ss :: l, ns, b, r, k, args, rows, vs, as, h, ha, hl, he => by
  simp only [Dj, Option.bind_eq_bind, Option.bind_eq_some_iff] at h
  obtain ⟨p, hp, ⟨ps', rows', k'⟩, hr, h⟩ := h
  simp only [Option.some.injEq, Prod.mk.injEq] at h
  obtain ⟨rfl, rfl, rfl⟩ := h
  obtain ⟨v, vr, a1, a2, rfl, rfl, h1, h2⟩ := ha
  obtain ⟨b1, b2, hb, hb1, hb2⟩ := hl
  have hlen : a1.length = ss.length := h1.1
  obtain ⟨rfl, rfl⟩ := List.append_inj hb (by rw [hlen, hb1])
  obtain ⟨k1, locs, l1, l2⟩ := CN hS hr h2 hb2 (fun j a hj => by
   have := he (ss.length + j) a (by rw [List.getElem?_append_right (by omega), hlen]; simpa using hj)
   rwa [Nat.add_assoc])
  refine ⟨by rw [k1, List.length_append, hlen]; omega, locs, l1, fun loc N q1 q2 => ?_⟩
  obtain ⟨m1, m2⟩ := l2 loc N q1 q2
  refine ⟨⟨?_, m1⟩, m2⟩
  have hv := IY (lf := lf) (e := e) (n := N) (loc := loc) (b := b) hlen (fun j a hj => he j a (by rw [List.getElem?_append_left (Ab hj)]; exact hj))
  have h3 := h1.2
  rcases A6 hp with ⟨hag, rfl⟩ | ⟨hag, c, hc, rfl⟩
  ·rw [if_pos hag] at h3
   exact ⟨_, h3, hv⟩
  ·rw [if_neg (by simp [hag])] at h3
   obtain ⟨s, a, z1, z2, z3⟩ := h3
   subst z1
   subst z2
   rw [hc] at hv
   rw [z3]
   exact hv.1
 | .slc ss :: l, [], b, r, k, args, rows, vs, as, h, ha, hl, he => by simp [Dj] at h
 | .slc ss :: l, n :: ns, b, r, k, args, rows, vs, as, h, ha, hl, he => by
  simp only [Dj, Option.bind_eq_bind, Option.bind_eq_some_iff] at h
  obtain ⟨⟨ps', rows', k'⟩, hr, h⟩ := h
  simp only [Option.some.injEq, Prod.mk.injEq] at h
  obtain ⟨rfl, rfl, rfl⟩ := h
  obtain ⟨v, vr, a1, a2, rfl, rfl, ⟨bb, o, m, c, rest, rfl, rfl, h1, h1'⟩, h2⟩ := ha
  obtain ⟨n', ns', b1, b2, hn, hb, hb1, hb2⟩ := hl
  injection hn with hn1 hn2
  subst hn1
  subst hn2
  have hmn : m = n := by
   have := congrArg (·[0]?) hb
   simp at this
   omega
  subst hmn
  obtain ⟨hc1, rfl⟩ := List.append_inj hb (by simp [h1, hb1])
  obtain ⟨_, rfl⟩ := List.cons.inj hc1
  obtain ⟨k1, locs, l1, l2⟩ := CN hS hr h2 hb2 (fun j a hj => by
   have := he (1 + m * ss.length + j) a (by
    rw [List.getElem?_append_right (by simp [h1]; omega)]
    simp only [List.length_cons, h1]
    rw [show 1 + m * ss.length + j - (m * ss.length + 1) = j by omega]
    exact hj)
   rwa [Nat.add_assoc])
  refine ⟨by rw [k1, List.length_append, List.length_cons, h1]; omega, .Lh bb o c ss.length :: locs, by simp [l1], fun loc N q1 q2 => ?_⟩
  have hloc : loc r = .Lh bb o c ss.length := q1 0 _ rfl
  simp only [List.length_cons] at q2
  obtain ⟨m1, m2⟩ := l2 loc N (fun i x hi => by
   have := q1 (i + 1) x (by simpa using hi)
   rwa [show r + 1 + i = r + (i + 1) by omega]) (by omega)
  have hrest : Ag e N loc (EW lf ss m (b + 1)) (GG ss m rest) := Ie h1 (fun j a hj => by
   have := he (j + 1) a (by
    rw [List.cons_append, List.getElem?_cons_succ, List.getElem?_append_left (Ab hj)]
    exact hj)
   rwa [show b + 1 + j = b + (j + 1) by omega])
  refine ⟨⟨Nl (by omega) (by rw [hloc]; simp), m1⟩, fun i row hi => ?_⟩
  cases i with
  | zero =>
   simp only [List.getElem?_cons_zero, Option.some.injEq] at hi
   subst hi
   refine ⟨rfl, ?_, fun q hq => by simp at hq⟩
   unfold Au
   rw [if_neg (by simp)]
   intro hne
   rw [Nat.add_zero, hloc]
   have hcell : ∀ j cc, (EW lf ss m (b + 1))[j]? = some cc → ∃ v, w.cell? ⟨bb, o + j, none⟩ = some v ∧ cc.rel e N loc v := fun j cc hj => by
    obtain ⟨v, v1, v2⟩ := Cq hrest hj
    exact ⟨v, (Cp (h1' j v v1)).1, v2⟩
   refine ⟨rfl, ?_, hcell⟩
   simp only at hne
   cases hcc : EW lf ss m (b + 1) with
   | nil => exact absurd hcc hne
   | cons c0 cs0 =>
    obtain ⟨v, v1, v2⟩ := Cq hrest (j := 0) (c := c0) (by rw [hcc]; rfl)
    exact (Cp (h1' 0 v v1)).2
  | succ i =>
   have := m2 i row (by simpa using hi)
   rwa [show r + (i + 1) = r + 1 + i by omega]
 | .nil :: l, ns, b, r, k, args, rows, vs, as, h, ha, hl, he => by
  simp only [Dj, Option.bind_eq_bind, Option.bind_eq_some_iff] at h
  obtain ⟨⟨ps', rows', k'⟩, hr, h⟩ := h
  simp only [Option.some.injEq, Prod.mk.injEq] at h
  obtain ⟨rfl, rfl, rfl⟩ := h
  obtain ⟨v, vr, a1, a2, rfl, rfl, ⟨rfl, rfl⟩, h2⟩ := ha
  obtain ⟨k1, locs, l1, l2⟩ := CN hS hr h2 hl he
  refine ⟨k1, locs, l1, fun loc N q1 q2 => ?_⟩
  obtain ⟨m1, m2⟩ := l2 loc N q1 q2
  exact ⟨⟨⟨trivial, rfl, .inr rfl⟩, m1⟩, m2⟩
 | .lst ss :: l, ns, b, r, k, args, rows, vs, as, h, ha, hl, he => by
  simp only [Dj, Option.bind_eq_bind, Option.bind_eq_some_iff] at h
  obtain ⟨⟨ps', rows', k'⟩, hr, h⟩ := h
  simp only [Option.some.injEq, Prod.mk.injEq] at h
  obtain ⟨rfl, rfl, rfl⟩ := h
  obtain ⟨v, vr, a1, a2, rfl, rfl, ⟨x, kk, bb, m, c, rfl, hk, rfl, hs, hfsc⟩, h2⟩ := ha
  obtain ⟨x', kk', as', hb, hb2⟩ := hl
  simp only [List.cons_append, List.nil_append, List.cons.injEq] at hb
  obtain ⟨rfl, rfl, rfl⟩ := hb
  obtain ⟨k1, locs, l1, l2⟩ := CN hS hr h2 hb2 (fun j a hj => by
   have := he (2 + j) a (by rw [List.getElem?_append_right (by simp)]; simpa using hj)
   rwa [Nat.add_assoc])
  have e0 : (lf b).ev e = x := he 0 _ rfl
  have e1 : (lf (b + 1)).ev e = kk := he 1 _ rfl
  obtain ⟨f1, f2⟩ := Ql e0 e1 hk hs hfsc
  refine ⟨by rw [k1]; simp; omega, Dd (.slice bb m c) :: locs, by simp [l1], fun loc N q1 q2 => ?_⟩
  have hloc : loc r = Dd (.slice bb m c) := q1 0 _ rfl
  simp only [List.length_cons] at q2
  obtain ⟨m1, m2⟩ := l2 loc N (fun i x hi => by
   have := q1 (i + 1) x (by simpa using hi)
   rwa [show r + 1 + i = r + (i + 1) by omega]) (by omega)
  refine ⟨⟨f2 N r loc (by omega) hloc, m1⟩, fun i row hi => ?_⟩
  cases i with
  | zero =>
   simp only [List.getElem?_cons_zero, Option.some.injEq] at hi
   subst hi
   obtain ⟨z1, q, z2, z3, z4⟩ := Dt.ok (B := ⟨w.heap.size, S⟩) (n := N) (r := r) f1 hloc
   exact ⟨rfl, z1, fun q' hq' => by rw [z2] at hq'; injection hq' with hq'; subst hq'; exact ⟨z3, z4⟩⟩
  | succ i =>
   have := m2 i row (by simpa using hi)
   rwa [show r + (i + 1) = r + 1 + i by omega]
 | .d agg ss :: l, ns, b, r, k, args, rows, vs, as, h, ha, hl, he => by
  simp only [Dj, Option.bind_eq_bind, Option.bind_eq_some_iff] at h
  obtain ⟨p, hp, ⟨ps', rows', k'⟩, hr, h⟩ := h
  simp only [Option.some.injEq, Prod.mk.injEq] at h
  obtain ⟨rfl, rfl, rfl⟩ := h
  obtain ⟨v, vr, a1, a2, rfl, rfl, ⟨cs, hc1, hc2⟩, h2⟩ := ha
  obtain ⟨b1, b2, hb, hb1, hb2⟩ := hl
  have hlen := (Cj hc2).1
  obtain ⟨rfl, rfl⟩ := List.append_inj hb (by rw [hlen, hb1])
  obtain ⟨xs, x1, x2, x3⟩ := B7 (lf := lf) (b := b) (r := r) hc2 (fun j a hj => he j a (by rw [List.getElem?_append_left (Ab hj)]; exact hj))
  obtain ⟨k1, locs, l1, l2⟩ := CN hS hr h2 hb2 (fun j a hj => by
   have := he (Jw ss + j) a (by rw [List.getElem?_append_right (by omega), hlen]; simpa using hj)
   rwa [Nat.add_assoc])
  refine ⟨by rw [k1, List.length_append, hlen]; omega, xs.map Dd ++ locs, by simp [x1, l1], fun loc N q1 q2 => ?_⟩
  rw [List.length_append] at q2
  have hxs : ∀ (t : Nat) v, xs[t]? = some v → loc (r + t) = Dd v := fun t v ht => q1 t _ (by rw [List.getElem?_append_left (by simpa using Ab ht)]; simp [ht])
  obtain ⟨m1, m2⟩ := l2 loc N (fun i x hi => by
   have := q1 ((BZ lf ss b).length + i) x (by rw [List.getElem?_append_right (by simp [x1])]; simpa [x1] using hi)
   rwa [← Nat.add_assoc] at this) (by omega)
  refine ⟨⟨?_, m1⟩, fun i row hi => ?_⟩
  ·have hcs := x3 N loc (by omega) hxs
   rcases A6 hp with ⟨ha, rfl⟩ | ⟨ha, c, hc, rfl⟩
   ·rw [if_pos ha] at hc1
    exact ⟨cs, hc1, hcs⟩
   ·rw [if_neg (by simp [ha])] at hc1
    subst hc1
    rw [hc] at hcs
    exact hcs.1
  ·rw [List.getElem?_append] at hi
   split at hi
   ·rename_i hlt
    obtain ⟨v, v1, v2⟩ := x2 i row hi
    obtain ⟨z1, q, z2, z3, z4⟩ := Dt.ok (B := ⟨w.heap.size, S⟩) (n := N) (r := r + i) v2 (hxs i v v1)
    exact ⟨v2.1, z1, fun q' hq' => by rw [z2] at hq'; injection hq' with hq'; subst hq'; exact ⟨z3, z4⟩⟩
   ·have := m2 _ row hi
    rwa [show r + (BZ lf ss b).length + (i - (BZ lf ss b).length) = r + i by omega] at this
 termination_by ps => ps.length
theorem F5 {e0 : Nat → A} {k : Nat} : ∀ {l : List Def}, (l.all fun d => decide (k ≤ d.base)) = true → ∀ j, j < k → Di T e0 l j = e0 j
 | [], _, _, _ => rfl
 | d :: l, h, j, hj => by
  simp only [List.all_cons, Bool.and_eq_true, decide_eq_true_eq] at h
  show ext T (Di T e0 l) d j = _
  unfold ext
  rw [if_neg (by omega)]
  exact F5 h.2 j hj
theorem CC : ∀ {s1 s2 : List Ak} {a1 a2 : List A}, a1.length = s1.length → Aj (s1 ++ s2) (a1 ++ a2) = Aj s1 a1 ++ Aj s2 a2
 | [], _, [], _, _ => rfl
 | [], _, _ :: _, _, h => by simp at h
 | _ :: _, _, [], _, h => by simp at h
 | s :: s1, s2, a :: a1, a2, h => by simp [Aj, CC (s1 := s1) (a1 := a1) (by simpa using h)]
theorem Ev {n : Nat} {loc : Loc} : ∀ {rs : List (Bool × List Ak)} {ps : List PV} {ls : List L} {vs : List Value} {out : List A}, Ec rs ps = some ls → An e n loc ps vs →
  out.length = ls.length → Aj (rs.flatMap (·.2)) out = Aj (rs.flatMap (·.2)) (ls.map (L.ev e)) → D3 rs out vs
 | [], [], ls, vs, out, h, hv, ho, hs => by
  simp [Ec] at h
  subst h
  cases vs with
  | nil => exact ⟨by simpa using ho, rfl⟩
  | cons => exact hv.elim
 | (agg, ss) :: rs, p :: ps, ls, vs, out, h, hv, ho, hs => by
  simp only [Ec, Option.bind_eq_bind, Option.bind_eq_some_iff, Option.some.injEq] at h
  obtain ⟨a, ha, r, hr, rfl⟩ := h
  cases vs with
  | nil => exact hv.elim
  | cons v vs =>
   have h1 : Hu (fun _ => none) (.c agg ss) v (a.map (L.ev e)) := by
    unfold HL at ha
    split at ha
    ·rename_i s c heq
     obtain ⟨hag, rfl⟩ := PS.c.inj heq
     cases hv1 : Fu [s] [c] with
     | none => rw [hv1] at ha; cases ha
     | some l =>
      rw [hv1] at ha
      injection ha with ha
      subst ha
      obtain ⟨q1, q2, q3⟩ := Cs (vs := [v]) hv1 ⟨hv.1, trivial⟩
      obtain ⟨y, rfl⟩ : ∃ y, l = [y] := by
       match l, q1 with
       | [y], _ => exact ⟨y, rfl⟩
      subst hag
      refine ⟨by simp, ?_⟩
      simp only [Bool.false_eq_true, if_false]
      exact ⟨s, y.ev e, rfl, rfl, by simpa [Aj] using q3⟩
    ·rename_i ss' l heq
     obtain ⟨hag, rfl⟩ := PS.c.inj heq
     subst hag
     obtain ⟨us, rfl, hu⟩ := hv.1
     obtain ⟨q1, q2, q3⟩ := Cs ha hu
     refine ⟨by simpa using q1, ?_⟩
     simp only [if_true]
     rw [q3]
    ·rename_i heq; cases heq
    ·rename_i heq; cases heq
    ·rename_i heq; cases heq
    ·cases ha
   have hal : a.length = ss.length := by simpa using h1.1
   have hlo : ss.length ≤ out.length := by rw [ho, List.length_append]; omega
   have e1 : out = out.take ss.length ++ out.drop ss.length := (List.take_append_drop _ _).symm
   rw [e1, List.map_append, List.flatMap_cons, CC (by simp [hlo]), CC (by simp [hal])] at hs
   obtain ⟨s1, s2⟩ := List.append_inj hs (by rw [FY (by simp [hlo]), FY (by simp [hal])])
   refine ⟨v, vs, out.take ss.length, out.drop ss.length, rfl, e1, ⟨by simp [hlo], ?_⟩, Ev hr hv.2 (by rw [List.length_drop, ho, List.length_append]; omega) s2⟩
   have h3 := h1.2
   simp only
   split at h3
   ·rename_i hag
    rw [if_pos hag, s1]
    exact h3
   ·rename_i hag
    rw [if_neg hag]
    obtain ⟨s, x, z1, z2, z3⟩ := h3
    subst z1
    obtain ⟨o, ho1⟩ : ∃ o, out.take 1 = [o] := by
     match out, hlo with
     | o :: _, _ => exact ⟨o, rfl⟩
    simp only [List.length_singleton] at s1 ⊢
    rw [ho1, z2] at s1
    simp only [Aj, List.cons.injEq, and_true] at s1
    exact ⟨s, o, rfl, ho1, by rw [s1]; exact z3⟩
 | [], _ :: _, _, _, _, h, _, _, _ => by simp [Ec] at h
 | _ :: _, [], _, _, _, h, _, _, _ => by simp [Ec] at h
theorem Nz {n : Nat} {loc : Loc} {rs : List (Bool × List Ak)} {v : SV} {ls : List L} {u : Value} {out : List A} (h : KK rs v = some ls) (hv : v.rel e n loc u)
  (ho : out.length = ls.length) (hs : Aj (rs.flatMap (·.2)) out = Aj (rs.flatMap (·.2)) (ls.map (L.ev e))) : Hw rs out u := by
 unfold KK at h
 split at h
 ·exact ⟨[u], Ev h ⟨hv, trivial⟩ ho hs, rfl⟩
 ·split at h
  ·cases h
  ·rename_i hl
   obtain ⟨us, rfl, hu⟩ := hv
   refine ⟨us, Ev h hu ho hs, ?_⟩
   have := Hp hu
   match us with
   | [] => rfl
   | [_] => simp at this; simp [this] at hl
   | _ :: _ :: _ => rfl
 ·cases h
theorem Sl {e : Nat → A} {loc : Loc} {w : World} {B : Bd} {rows : List Row} (m2 : ∀ (i : Nat) row, rows[i]? = some row → row.own = false ∧ Au e rows.length loc w B (0 + i) row ∧ ∀ q, row.lst = some q → q.own = false ∧ Be e loc w B (0 + i) q) : Ad e loc rows w B := by
 simp only [Nat.zero_add] at m2
 refine ⟨fun r x hx => (m2 r x hx).2.1, fun r x q hx hq => ⟨(m2 r x hx).1, ((m2 r x hx).2.2 q hq).2⟩, fun r s x y hx hy ox oy => ?_, fun r s x y hx _ ox => by rw [(m2 r x hx).1] at ox; cases ox⟩
 obtain ⟨q, o1, o2, _⟩ := ox
 rw [((m2 r x hx).2.2 q o1).1] at o2
 cases o2
theorem NA (hX : XL P T X) {ws : List (Nat × Nat)} (hws : Fj T ws) {c : MM} {lits : List (Nat × Int)} {ns : List Nat} {n k : Nat} {kn : List DF} {more : List A} {args : List PV} {rows rows' : List Row} {v : SV} {g : G} {ls : List L}
  (hpar : Dj (Te lits) c.ps ns 0 0 = some (args, rows, k)) (hrun : run X n c.f args rows (k + more.length) kn = some (v, rows', g)) (hdefs : Ic ws g.defs g.next = true)
  (hbase : (g.defs.all fun d => decide (k + more.length ≤ d.base)) = true)
  (hls : KK c.rs v = some ls) {as : List A} {vs : List Value} {w : World} (hT : K9 P w) (hargs : BR w.cell? c.ps vs as) (hlens : Ox c.ps ns as)
  (hlits : ∀ i x, look i lits = some x → ∀ a, as[i]? = some a → a = .i x)
  (hlen : (T c.f as).2.length = ls.length)
  (hpure : ∀ e, (∀ j a, (as ++ more)[j]? = some a → e j = a) → (∀ d ∈ g.defs, d.holds T e) → (∀ x ∈ g.known, x.holds T e) ∧ (∀ o ∈ g.obs, (o.ev e).bool = true) ∧
   Aj (c.rs.flatMap (·.2)) (T c.f as).2 = Aj (c.rs.flatMap (·.2)) (ls.map (L.ev e))) :
  Calls P c.f vs.toArray w fun en w' => ∃ u, en = .returned u ∧ Hw c.rs (T c.f as).2 u ∧ Below w.heap.size w w' := by
 have lfe : ∀ (e : Nat → A), (∀ j a, as[j]? = some a → e j = a) → ∀ j a, as[j]? = some a → (Te lits (0 + j)).ev e = a := fun e he j a hj => by
  rw [Nat.zero_add]
  unfold Te
  split
  ·rename_i x hx
   exact (hlits j x hx a hj).symm
  ·exact he j a hj
 have hargs := BR.mono (M' := CJ (fun k => k < w.heap.size) w) (fun a u hu => CS hu (World.block_lt_of_cell? w _ hu)) hargs
 have hk : k = as.length := by
  have := (CN (fun _ h => h) (e := fun i => as.getD i (.i 0)) hpar hargs hlens (lfe _ fun j a hj => by simp [hj])).1
  omega
 have hev0 : ∀ j a, (as ++ more)[j]? = some a → Di T (fun i => (as ++ more).getD i (.i 0)) g.defs j = a := fun j a hj => by
  rw [F5 hbase j (by have := Ab hj; rw [List.length_append] at this; omega)]
  simp [hj]
 have hev := lfe _ (fun j a hj => hev0 j a (by rw [List.getElem?_append_left (Ab hj)]; exact hj))
 have hd := IX hws (fun i => (as ++ more).getD i (.i 0)) hdefs
 obtain ⟨hkn, hobs, hres⟩ := hpure _ hev0 hd
 have hg : Good T (Di T (fun i => (as ++ more).getD i (.i 0)) g.defs) g := ⟨hd, hobs, hkn⟩
 obtain ⟨_, locs, l1, l2⟩ := CN (fun _ h => h) hpar hargs hlens hev
 obtain ⟨m1, m2⟩ := l2 (fun i => locs.getD i default) rows.length (fun i x hx => by simp [hx]) (by omega)
 have hrows : Ad (Di T (fun i => (as ++ more).getD i (.i 0)) g.defs) (fun i => locs.getD i default) rows w ⟨w.heap.size, fun k => k < w.heap.size⟩ :=
  Sl m2
 refine (QS hX hrun hg hT m1 (fun _ h => h) hrows).mono ?_
 rintro en w' ⟨u, rfl, ⟨loc', hv⟩, hb⟩
 exact ⟨u, rfl, Nz hls hv hlen hres, hb⟩
end
end Rx
namespace Rx
open Go Go.RowKit
def NB : List Ak → List A → List A → Prop
 | [], as, bs => as = [] ∧ bs = []
 | .sl _ :: ss, as, bs => ∃ x k r y m s, as = x :: k :: r ∧ bs = y :: m :: s ∧ x = y ∧ k.int = m.int ∧ NB ss r s
 | s :: ss, as, bs => ∃ x r y q, as = x :: r ∧ bs = y :: q ∧ s.AZ x = s.AZ y ∧ NB ss r q
section
variable {T : Nat → List A → Bool × List A} {e : Nat → A} {P : Program} {X : Ctx} {w0 : W0}
theorem NB.cells {M : Addr → Option Value} : ∀ {ss : List Ak} {as bs : List A} {vs : List Value}, NB ss as bs → BD M ss bs vs → BD M ss as vs
 | [], _, _, _, h, hd => ⟨h.1, hd.2⟩
 | .sl _ :: _, _, _, _, h, hd => by
  obtain ⟨x, k, r, y, m, s, rfl, rfl, rfl, hkm, h⟩ := h
  obtain ⟨a, k', ar, b, m', c, cr, e1, rfl, e3, e4, e5, hd⟩ := hd
  simp only [List.cons.injEq] at e1
  obtain ⟨rfl, rfl, rfl⟩ := e1
  exact ⟨x, k, r, b, m', c, cr, rfl, rfl, hkm.trans e3, e4, e5, h.cells hd⟩
 | .int _ :: _, _, _, _, h, hd => by
  obtain ⟨x, r, y, q, rfl, rfl, hs, h⟩ := h
  obtain ⟨a, ar, cr, e1, rfl, hd⟩ := hd
  simp only [List.cons.injEq] at e1
  obtain ⟨rfl, rfl⟩ := e1
  exact ⟨x, r, cr, rfl, by rw [hs], h.cells hd⟩
 | .bool :: _, _, _, _, h, hd => by
  obtain ⟨x, r, y, q, rfl, rfl, hs, h⟩ := h
  obtain ⟨a, ar, cr, e1, rfl, hd⟩ := hd
  simp only [List.cons.injEq] at e1
  obtain ⟨rfl, rfl⟩ := e1
  exact ⟨x, r, cr, rfl, by rw [hs], h.cells hd⟩
 | .str :: _, _, _, _, h, hd => by
  obtain ⟨x, r, y, q, rfl, rfl, hs, h⟩ := h
  obtain ⟨a, ar, cr, e1, rfl, hd⟩ := hd
  simp only [List.cons.injEq] at e1
  obtain ⟨rfl, rfl⟩ := e1
  exact ⟨x, r, cr, rfl, by rw [hs], h.cells hd⟩
 | .val :: _, _, _, _, h, hd => by
  obtain ⟨x, r, y, q, rfl, rfl, hs, h⟩ := h
  obtain ⟨a, ar, cr, e1, rfl, hd⟩ := hd
  simp only [List.cons.injEq] at e1
  obtain ⟨rfl, rfl⟩ := e1
  exact ⟨x, r, cr, rfl, by rw [hs], h.cells hd⟩
end
end Rx
namespace Rx
open Go Go.RowKit
section
variable {T : Nat → List A → Bool × List A} {e : Nat → A} {P : Program} {X : Ctx} {w0 : W0} {loc loc' : Loc}
theorem Ay.le {n m : Nat} (h : Ay n loc loc') (hm : m ≤ n) : Ay m loc loc' := fun r hr => h r (Nat.lt_of_lt_of_le hr hm)
theorem get_mem {x : EB} {s : St} : ∀ {o : Ah}, Ah.get x o = some s → (x, s) ∈ o
 | [], h => by simp [Ah.get] at h
 | (y, t) :: l, h => by
  unfold Ah.get at h
  split at h
  ·rename_i hxy
   have hxy := EB.C7.1 hxy
   injection h with h
   subst h hxy
   exact List.mem_cons_self ..
  ·exact List.mem_cons_of_mem _ (get_mem h)
theorem Mw {x : EB} {s : St} : ∀ {o : List (EB × St)}, NQ x o = some s → (x, s) ∈ o
 | [], h => by simp [NQ] at h
 | (y, t) :: l, h => by
  unfold NQ at h
  split at h
  ·rename_i hxy
   have hxy := EB.C7.1 hxy
   injection h with h
   subst h hxy
   exact List.mem_cons_self ..
  ·exact List.mem_cons_of_mem _ (Mw h)
theorem Jn {q : Lp} {x : EB} {s : St} : ∀ {o : Ah} {exs : List Ex}, Gx q o = some exs → (x, s) ∈ o → x ≠ .norm → ∃ t y, (x, t) ∈ q.outs ∧ RO q x t s = some y ∧ y ∈ exs
 | [], _, _, h, _ => by cases h
 | (y, u) :: l, exs, h, hm, hx => by
  simp only [Gx, Option.bind_eq_bind, Option.bind_eq_some_iff] at h
  obtain ⟨r, hr, h⟩ := h
  rcases List.mem_cons.1 hm with heq | hm
  ·injection heq with h1 h2
   subst h1 h2
   rw [if_neg (fun h0 => hx (EB.C7.1 h0))] at h
   simp only [Option.bind_eq_some_iff, Option.some.injEq] at h
   obtain ⟨t, ht, y, hy, rfl⟩ := h
   exact ⟨t, y, Mw ht, hy, List.mem_cons_self ..⟩
  ·obtain ⟨t, y', h1, h2, h3⟩ := Jn hr hm hx
   refine ⟨t, y', h1, h2, ?_⟩
   split at h
   ·injection h with h
    subst h
    exact h3
   ·simp only [Option.bind_eq_some_iff, Option.some.injEq] at h
    obtain ⟨_, _, _, _, rfl⟩ := h
    exact List.mem_cons_of_mem _ h3
theorem Oy (hX : XL P T X) {ws : List (Nat × Nat)} (hws : Fj T ws) {q : Lp} {f : Nat} {pa : List Bool} {code : Code} {n : Nat} {outs : Ah} {g : G} {back : Option (L × List L)} {exs : List Ex}
  (hat : Ud X f pa code) (hrun : exec X n f pa code (HS q) ⟨q.k, [], [], []⟩ = some (outs, g)) (hdefs : Ic ws g.defs g.next = true) (hbase : (g.defs.all fun d => decide (q.k ≤ d.base)) = true) (hknown : g.known = []) (hm : decide (q.m ≤ q.tm.rows.length) = true)
  (hback : M8 q outs = some back) (hexs : Gx q outs = some exs) (hlen : ∀ as, (T q.id as).1 = true → (T q.id as).2.length = q.w) (meas : List A → Nat)
  (hpure : ∀ (as : List A) (e : Nat → A), as.length = q.k → (∀ (i : Nat) x, as[i]? = some x → e i = x) → (T q.id as).1 = true → (∀ d ∈ g.defs, d.holds T e) →
   (∀ o ∈ g.obs, (o.ev e).bool = true) ∧
   (∀ pc ls, back = some (pc, ls) → (pc.ev e).bool = true → (T q.id (ls.map (L.ev e))).1 = true ∧ (T q.id (ls.map (L.ev e))).2 = (T q.id as).2 ∧ meas (ls.map (L.ev e)) < meas as) ∧
   ∀ x ∈ exs, (x.pc.ev e).bool = true → ∀ (j : Nat) l, x.lx[j]? = some (some l) → FG (q.tags.getD j .any) (l.ev e) ((T q.id as).2.getD j (.i 0))) : Ca P T q code := by
 refine ⟨hlen, fun as w0 loc a w Q hT => ?_⟩
 generalize hN : meas as = N
 induction N using Nat.strongRecOn generalizing as loc a w with
 | ind N ih =>
  intro hal hpre hfr hcl hQ
  have he0 : ∀ i, i < q.k → Di T (Jv as) g.defs i = Jv as i := fun i hi => F5 hbase i hi
  generalize hE : Di T (Jv as) g.defs = e at he0
  have hd : ∀ d ∈ g.defs, d.holds T e := by rw [← hE]; exact IX hws _ hdefs
  have hei : ∀ (i : Nat) x, as[i]? = some x → e i = x := fun i x hx => by
   rw [he0 i (by rw [← hal]; exact Ab hx)]
   simp [Jv, hx]
  obtain ⟨p1, p2, p3⟩ := hpure as e hal hei hpre hd
  have hg : Good T e g := ⟨hd, p1, by rw [hknown]; exact fun k hk => by cases hk⟩
  obtain ⟨_, hends⟩ := (HD (e := e) (w0 := w0) hX hT n).1 f pa code (HS q) _ outs g hat hrun hg
  have hs0 : ∀ i, Jv as i = ((fun i => if i < q.k then L.var i else .n 0) i).ev e := fun i => by
   simp only
   split
   ·rename_i hi
    rw [L.Aw, he0 i hi]
   ·rename_i hi
    simp [Jv, List.getD, List.getElem?_eq_none (show as.length ≤ i by omega)]
  have hrl : (HS q).rows.length = q.tm.rows.length := by simp [HS, CG]
  refine LW.of (hends.wp loc a w _ rfl (by rw [hrl]; exact (EU hs0).2 hfr) (by obtain ⟨B, hB, hR, hbel⟩ := hcl; exact ⟨B, hB, (DQ hs0).2 hR, hbel⟩) fun x s hx hs => ?_)
  intro loc' a' w' q1 q2 q3 q4 q5
  by_cases hxn : x = .norm
  ·subst hxn
   show LW P code Q a' w'
   unfold M8 at hback
   rw [hx] at hback
   simp only at hback
   cases hb : RN q s with
   | none => rw [hb] at hback; cases hback
   | some ls =>
    rw [hb] at hback
    injection hback with hback
    obtain ⟨r1, r2, r3⟩ := p2 s.pc ls hback.symm hs
    unfold RN at hb
    generalize hmt : Gv q.m q.tm s = mt at hb
    obtain ⟨ml, ρ⟩ := mt
    simp only at hb
    split at hb
    ·rename_i hc
     injection hb with hb
     rw [hb] at hc
     simp only [Bool.and_eq_true] at hc
     obtain ⟨c1, c2⟩ := hc
     obtain ⟨k1, k2, k3, k4, k5⟩ := DS (e := e) (loc := loc') (w0 := w0) c1
     have hll : ls.length = q.k := by rw [← hb]; simp [DL]
     have he1 : ∀ i, Jv (ls.map (L.ev e)) i = (Bl ls i).ev e := fun i => by
      unfold Jv Bl
      rw [List.getD, List.getElem?_map]
      cases ls[i]? <;> rfl
     have hrl2 : (CG (Bl ls) q.tm).rows.length = q.tm.rows.length := by simp [CG]
     have hfr2 := k4 _ q3
     obtain ⟨B2, hB2, hR2, hbel2⟩ := k5 _ q5
     rw [hrl2] at hfr2 k2
     refine ih _ (by rw [← hN]; exact r3) (ls.map (L.ev e)) (DR loc' ρ) a' w' rfl (by simpa using hll) r1 ((EU he1).1 hfr2) ⟨B2, hB2, (DQ he1).1 hR2, hbel2⟩ fun y t e' h1 h2 h3 loc2 a2 w2 h4 h5 h6 h7 => ?_
     refine hQ y t e' h1 (fun i => ?_) h3 loc2 a2 w2 ((q1.le (by rw [hrl]; exact k2)).trans (k3.trans h4 (Nat.le_refl _)) (Nat.le_refl _)) h5 (h6.trans q4) h7
     have := h2 i
     rw [r2] at this
     have hxx : Ov q (ls.map (L.ev e)) (T q.id as).2 i = Ov q as (T q.id as).2 i := by
      unfold Ov
      split
      ·rename_i hi
       split
       ·rename_i hk
        unfold Tv at c2
        rw [List.all_eq_true] at c2
        have := c2 i (by simpa using hi)
        rw [hk] at this
        simp only [Bool.not_true, Bool.false_or] at this
        have h9 := he1 i
        rw [L.Ae this, L.Aw, he0 i hi] at h9
        exact h9
       ·rfl
      ·rfl
     rw [hxx] at this
     exact this
    ·cases hb
  ·rw [JQ hxn]
   obtain ⟨t, y, t1, t2, t3⟩ := Jn hexs (get_mem hx) hxn
   unfold RO at t2
   generalize hmt : Gv q.m t s = mt at t2
   obtain ⟨ml, ρ⟩ := mt
   simp only at t2
   generalize hlx : TL q t.pc ml = lx at t2
   split at t2
   ·rename_i hc
    injection t2 with t2
    subst t2
    simp only [Bool.and_eq_true] at hc
    obtain ⟨⟨c1, c2⟩, c3⟩ := hc
    obtain ⟨k1, k2, k3, k4, k5⟩ := DS (e := e) (loc := loc') (w0 := w0) c1
    have hfr2 := k4 _ q3
    obtain ⟨B2, hB2, hR2, hbel2⟩ := k5 _ q5
    have hrl2 : (CG (BU q (NP q.k) (L3 lx)) t).rows.length = t.rows.length := by simp [CG]
    rw [hrl2] at hfr2 k2
    let e2 : Nat → A := fun i => (BU q (NP q.k) (L3 lx) i).ev e
    let e3 : Nat → A := fun i => if i < q.k then e2 i else match lx.getD (i - q.k) none with | some l => l.ev e | none => (T q.id as).2.getD (i - q.k) (.i 0)
    have hfr3 := (EU (e1 := e2) (fun i => rfl)).1 hfr2
    have hcl3 := (DQ (e1 := e2) (fun i => rfl)).1 hR2
    have h23 : ∀ i, FG (TJ q lx i) (e2 i) (e3 i) := fun i => by
     simp only [e3, TJ]
     split
     ·exact .of_eq rfl
     ·rename_i hi
      have : e2 i = (Bl (L3 lx) (i - q.k)).ev e := by simp only [e2, BU, if_neg hi]
      rw [this]
      cases hl : lx.getD (i - q.k) none with
      | none => trivial
      | some l =>
       refine .of_eq ?_
       rw [List.getD] at hl
       cases hl2 : lx[i - q.k]? with
       | none => rw [hl2] at hl; simp at hl
       | some o =>
        rw [hl2] at hl
        simp only [Option.getD_some] at hl
        subst hl
        simp [Bl, L3, hl2]
    simp only [P4, Bool.and_eq_true] at c2
    obtain ⟨⟨u1, u2⟩, u3⟩ := c2
    have hag : ∀ i, FG (q.tag i) (e3 i) (Ov q as (T q.id as).2 i) := fun i => by
     simp only [e3, Lp.tag, Ov]
     split
     ·rename_i hi
      refine .of_eq ?_
      simp only [e2, BU, if_pos hi]
      split
      ·have : Bl (NP q.k) i = .var i := by simp [Bl, NP, hi]
       rw [this, L.Aw, he0 i hi]
       rfl
      ·rfl
     ·rename_i hi
      cases hl : lx.getD (i - q.k) none with
      | none => exact .of_eq rfl
      | some l =>
       rw [List.getD] at hl
       cases hl2 : lx[i - q.k]? with
       | none => rw [hl2] at hl; simp at hl
       | some o =>
        rw [hl2] at hl
        simp only [Option.getD_some] at hl
        subst hl
        exact p3 _ t3 hs (i - q.k) l hl2
    refine hQ x t e3 t1 hag ?_ (DR loc' ρ) a' w' ((q1.le (by rw [hrl]; exact of_decide_eq_true hm)).trans k3 (Nat.le_refl _)) (Mu h23 u1 hfr3) q4 ⟨B2, hB2, KJ h23 u2 hcl3, hbel2⟩
    ·have hp := BS h23 u3
     simp only [FG] at hp
     rw [← hp]
     cases hpc : t.pc with
     | var i =>
      rw [hpc] at hlx c3
      simp only [TL] at hlx
      simp only [Ve, Bool.and_eq_true, decide_eq_true_eq] at c3
      rw [L.Aw]
      have hlx2 : lx[i - q.k]? = some (some (.t true)) := by
       rw [← hlx, List.getElem?_set_self (by simp; omega)]
      simp only [e2, BU, if_neg (show ¬ i < q.k by omega)]
      simp [Bl, L3, hlx2]
     | t b =>
      rw [hpc] at c3
      cases b
      ·cases c3
      ·rfl
     | n _ => rw [hpc] at c3; cases c3
     | s _ => rw [hpc] at c3; cases c3
     | e => rw [hpc] at c3; cases c3
   ·cases t2
end
end Rx
namespace Rx
open Go Go.RowKit
section
variable {T : Nat → List A → Bool × List A} {e : Nat → A}
theorem holds_one {b : Nat} {d : D} {args : List L} {x : A} (h : d.ev T (args.map (L.ev e)) = [x]) : Def.holds T e ⟨b, d, args⟩ ↔ e b = x := by
 unfold Def.holds
 simp only [h]
 constructor
 ·intro hh
  simpa using hh 0 x rfl
 ·intro hh j a ha
  cases j with
  | zero => simp at ha; subst ha; simpa using hh
  | succ j => simp at ha
theorem Oz {b op k x y} : Def.holds T e ⟨b, .ar op k, [x, y]⟩ ↔ e b = .i (LL op k (x.ev e).int (y.ev e).int) := holds_one rfl
theorem OA {b op k x y} : Def.holds T e ⟨b, .dv op k, [x, y]⟩ ↔ e b = .i (MJ op k (x.ev e).int (y.ev e).int) := holds_one rfl
theorem Sm {b op k x y} : Def.holds T e ⟨b, .bt op k, [x, y]⟩ ↔ e b = .i (K8 op k (x.ev e).int (y.ev e).int) := holds_one rfl
theorem QT {b op x y} : Def.holds T e ⟨b, .cmp op, [x, y]⟩ ↔ e b = .b (CX op (x.ev e).int (y.ev e).int) := holds_one rfl
theorem KL {b k x} : Def.holds T e ⟨b, .conv k, [x]⟩ ↔ e b = .i (k.wrap (x.ev e).int) := holds_one rfl
theorem QU {b k x} : Def.holds T e ⟨b, .neg k, [x]⟩ ↔ e b = .i (k.wrap (0 - (x.ev e).int)) := holds_one rfl
theorem QV {b x} : Def.holds T e ⟨b, .not, [x]⟩ ↔ e b = .b (!(x.ev e).bool) := holds_one rfl
theorem QW {b x y} : Def.holds T e ⟨b, .and, [x, y]⟩ ↔ e b = .b ((x.ev e).bool && (y.ev e).bool) := holds_one rfl
theorem Sn {b x y} : Def.holds T e ⟨b, .or, [x, y]⟩ ↔ e b = .b ((x.ev e).bool || (y.ev e).bool) := holds_one rfl
theorem QX {b x y} : Def.holds T e ⟨b, .imp, [x, y]⟩ ↔ e b = .b (!(x.ev e).bool || (y.ev e).bool) := holds_one rfl
theorem KM {b x y z} : Def.holds T e ⟨b, .iteI, [x, y, z]⟩ ↔ e b = .i (if (x.ev e).bool then (y.ev e).int else (z.ev e).int) := holds_one rfl
theorem Pt {b x y z} : Def.holds T e ⟨b, .iteB, [x, y, z]⟩ ↔ e b = .b (if (x.ev e).bool then (y.ev e).bool else (z.ev e).bool) := holds_one rfl
theorem Pu {b x y z} : Def.holds T e ⟨b, .iteV, [x, y, z]⟩ ↔ e b = .v (if (x.ev e).bool then (y.ev e).val else (z.ev e).val) := holds_one rfl
theorem QY {b x y} : Def.holds T e ⟨b, .Ts, [x, y]⟩ ↔ e b = .b ((x.ev e).bool == (y.ev e).bool) := holds_one rfl
theorem QZ {b x y} : Def.holds T e ⟨b, .eqS, [x, y]⟩ ↔ e b = .b ((x.ev e).str == (y.ev e).str) := holds_one rfl
theorem Sp {b x y} : Def.holds T e ⟨b, .mn, [x, y]⟩ ↔ e b = .i (if (y.ev e).int < (x.ev e).int then (y.ev e).int else (x.ev e).int) := holds_one rfl
theorem Sq {b x y} : Def.holds T e ⟨b, .mx, [x, y]⟩ ↔ e b = .i (if (x.ev e).int < (y.ev e).int then (y.ev e).int else (x.ev e).int) := holds_one rfl
theorem Pv {b x} : Def.holds T e ⟨b, .slen, [x]⟩ ↔ e b = .i ((x.ev e).str.size : Int) := holds_one rfl
theorem Pw {b x y z} : Def.holds T e ⟨b, .iteA, [x, y, z]⟩ ↔ e b = (if (x.ev e).bool then y.ev e else z.ev e) := holds_one rfl
theorem Q0 {b o s x i} : Def.holds T e ⟨b, .pix o s, [x, i]⟩ ↔ e b = (x.ev e).AL.getD (o + s * (i.ev e).int.toNat) (.i 0) := holds_one rfl
theorem Px {b o s x i y} : Def.holds T e ⟨b, .pset o s, [x, i, y]⟩ ↔ e b = .l ((x.ev e).AL.set (o + s * (i.ev e).int.toNat) (y.ev e)) := holds_one rfl
theorem Q2 {b s x} : Def.holds T e ⟨b, .lln s, [x]⟩ ↔ e b = .i (((x.ev e).AL.length / s : Nat) : Int) := holds_one rfl
theorem Q3 {b x zs} : Def.holds T e ⟨b, .rep, x :: zs⟩ ↔ e b = .l (List.replicate (x.ev e).int.toNat (zs.map (L.ev e))).flatten := holds_one rfl
theorem Q4 {b l} : Def.holds T e ⟨b, .mkl, l⟩ ↔ e b = .l (l.map (L.ev e)) := holds_one rfl
theorem Q5 {b x y m} : Def.holds T e ⟨b, .cpy, [x, y, m]⟩ ↔ e b = .l ((y.ev e).AL.take (m.ev e).int.toNat ++ (x.ev e).AL.drop (m.ev e).int.toNat) := holds_one rfl
theorem Q6 {b x y} : Def.holds T e ⟨b, .cat, [x, y]⟩ ↔ e b = .l ((x.ev e).AL ++ (y.ev e).AL) := holds_one rfl
theorem Q7 {b x l} : Def.holds T e ⟨b, .sel, x :: l⟩ ↔ e b = (l.map (L.ev e))[(x.ev e).int.toNat]?.getD (.i 0) := holds_one rfl
end
end Rx
namespace Rx
open Go Go.RowKit
inductive LS where
 | s (x : Ak) | sl (t e : Nat)
def LS.LN : LS → Ak
 | .s x => x
 | .sl .. => .val
def IZ (F : Nat → Option (List LS)) (Ax : List (Nat × Ty)) : List (Nat × Nat) → Nat → Option (List LS)
 | [], _ => some []
 | (t, off) :: l, o => do
  let ty ← look t Ax
  let a ← F t
  if off == o && a.length == ty.size then let r ← IZ F Ax l (o + ty.size); some (a ++ r) else none
def G4 (Ax : List (Nat × Ty)) : Nat → Nat → Option (List LS)
 | 0, _ => none
 | n + 1, t => do
  let ty ← look t Ax
  match ty.kind with
  | .int k => some [.s (.int k)]
  | .bool => some [.s .bool]
  | .string => some [.s .str]
  | .slice e => some [.sl t e]
  | .arr m e => do
   let te ← look e Ax
   let l ← IZ (G4 Ax n) Ax ((List.range m).map fun i => (e, i * te.size)) 0
   if l.length == ty.size then some l else none
  | .struct fs => do
   let l ← IZ (G4 Ax n) Ax fs 0
   if l.length == ty.size then some l else none
  | _ => none
section
variable {H : Type} {enc : TypeId × Value → H} {P : Program} {w : World} {base : Nat} {spare : Nat → Bool} {held : Bool}
def Sr {H : Type} (enc : TypeId × Value → H) (P : Program) (w : World) (base : Nat) (spare : Nat → Bool) (held : Bool) : LS → A → Prop
 | .s (.int k), a => k.min ≤ a.int ∧ a.int ≤ k.max
 | .s .str, a => a.str.size ≤ maxLen
 | .s _, _ => True
 | .sl t _, a => ∃ fuel x, DataW.trod enc P w base spare held fuel t [E0 a.val] = some x
def CD {H : Type} (enc : TypeId × Value → H) (P : Program) (w : World) (base : Nat) (spare : Nat → Bool) (held : Bool) : List LS → List A → Prop
 | [], as => as = []
 | s :: ss, as => ∃ a r, as = a :: r ∧ Sr enc P w base spare held s a ∧ CD enc P w base spare held ss r
theorem Fx : ∀ {s1 s2 : List LS} {a1 a2 : List A}, CD enc P w base spare held s1 a1 → CD enc P w base spare held s2 a2 → CD enc P w base spare held (s1 ++ s2) (a1 ++ a2)
 | [], _, _, _, h1, h2 => by
  rw [show _ = ([] : List A) from h1]
  exact h2
 | s :: s1, s2, a1, a2, h1, h2 => by
  obtain ⟨a, r, rfl, h3, h4⟩ := h1
  exact ⟨a, r ++ a2, rfl, h3, Fx h4 h2⟩
theorem Fl : ∀ {ss : List LS} {as : List A}, CD enc P w base spare held ss as → as.length = ss.length
 | [], _, h => by rw [show _ = ([] : List A) from h]; rfl
 | s :: ss, as, h => by
  obtain ⟨a, r, rfl, _, h⟩ := h
  simp [Fl h]
theorem F6 {Ax : List (Nat × Ty)} (hX : Bj P Ax) {n : Nat} {F : Nat → Option (List LS)}
  (hF : ∀ t ss, F t = some ss → ∀ fuel cs x, DataW.trod enc P w base spare held fuel t cs = some x → ∃ as, CD enc P w base spare held ss as ∧ cs = Aj (ss.map LS.LN) as) (cs : List Value) :
  ∀ (fl : List (Nat × Nat)) (o : Nat) (ss : List LS), IZ F Ax fl o = some ss → (∀ f ∈ fl, ∃ y, DataW.trod enc P w base spare held n f.1 ((cs.drop f.2).take (P.cellsOf f.1)) = some y) →
   ∃ as, CD enc P w base spare held ss as ∧ (cs.drop o).take ss.length = Aj (ss.map LS.LN) as
 | [], o, ss, h, _ => by
  simp only [IZ, Option.some.injEq] at h
  subst h
  exact ⟨[], rfl, by simp [Aj]⟩
 | (t, off) :: fl, o, ss, h, hf => by
  simp only [IZ, Option.bind_eq_bind, Option.bind_eq_some_iff] at h
  obtain ⟨ty, hty, a, ha, h⟩ := h
  split at h
  ·rename_i hc
   simp only [Bool.and_eq_true, beq_iff_eq] at hc
   obtain ⟨rfl, hlen⟩ := hc
   simp only [Option.bind_eq_some_iff, Option.some.injEq] at h
   obtain ⟨r, hr, rfl⟩ := h
   obtain ⟨y, hy⟩ := hf (t, off) (by simp)
   simp only at hy
   have hsz : P.cellsOf t = ty.size := by
    obtain ⟨i, z, h1, h2, _⟩ := (hX t ty hty).info
    rw [Program.cellsOf, h1]
    exact h2
   obtain ⟨as1, h1, h2⟩ := hF t a ha n _ y hy
   obtain ⟨as2, h3, h4⟩ := F6 hX hF cs fl (off + ty.size) r hr (fun f hf' => hf f (by simp [hf']))
   refine ⟨as1 ++ as2, Fx h1 h3, ?_⟩
   rw [List.length_append, List.take_add, List.drop_drop, hlen, h4, List.map_append, CC (by rw [List.length_map, Fl h1]), ← h2, hsz]
  ·cases h
theorem HE {Ax : List (Nat × Ty)} (hX : Bj P Ax) : ∀ (n t : Nat) (ss : List LS), G4 Ax n t = some ss → ∀ (fuel : Nat) (cs : List Value) (x : DataW H × List MemPlace), DataW.trod enc P w base spare held fuel t cs = some x →
  ∃ as, CD enc P w base spare held ss as ∧ cs = Aj (ss.map LS.LN) as
 | 0, t, ss, h => by simp [G4] at h
 | n + 1, t, ss, h => fun fuel cs x hx => by
  simp only [G4, Option.bind_eq_bind, Option.bind_eq_some_iff] at h
  obtain ⟨ty, hty, h⟩ := h
  have hT := hX t ty hty
  obtain ⟨d, hd, hk⟩ := hT.kind
  have hsz : P.cellsOf t = ty.size := by
   obtain ⟨i, z, h1, h2, _⟩ := hT.info
   rw [Program.cellsOf, h1]
   exact h2
  split at h
  ·rename_i k hkk
   injection h with h
   subst h
   rw [hkk] at hk
   cases d <;> simp only [TK.okB, Bool.false_eq_true] at hk
   rw [← AY hk] at hd
   obtain ⟨m, rfl, _, hw⟩ := DataW.trod_int hd hx
   simp only [Lit.wf, Bool.and_eq_true, decide_eq_true_eq] at hw
   exact ⟨[.i m], ⟨_, _, rfl, hw, rfl⟩, rfl⟩
  ·rename_i hkk
   injection h with h
   subst h
   rw [hkk] at hk
   cases d <;> simp only [TK.okB, Bool.false_eq_true] at hk
   obtain ⟨m, rfl, _⟩ := DataW.trod_bool hd hx
   exact ⟨[.b m], ⟨_, _, rfl, trivial, rfl⟩, rfl⟩
  ·rename_i hkk
   injection h with h
   subst h
   rw [hkk] at hk
   cases d <;> simp only [TK.okB, Bool.false_eq_true] at hk
   obtain ⟨m, rfl, _, hl⟩ := DataW.trod_string hd hx
   exact ⟨[.v (.string m)], ⟨_, _, rfl, hl, rfl⟩, rfl⟩
  ·rename_i e hkk
   injection h with h
   subst h
   rw [hkk] at hk
   cases d <;> simp only [TK.okB, Bool.false_eq_true] at hk
   rcases DataW.trod_slice hd hx with ⟨rfl, _⟩ | ⟨a, len, cap, _, _, _, _, rfl, _⟩
   ·exact ⟨[.v (.slice none 0 0)], ⟨_, _, rfl, ⟨fuel, x, hx⟩, rfl⟩, rfl⟩
   ·exact ⟨[.v (.slice (some a) len cap)], ⟨_, _, rfl, ⟨fuel, x, hx⟩, rfl⟩, rfl⟩
  ·rename_i m e hkk
   simp only [Option.bind_eq_some_iff] at h
   obtain ⟨te, hte, l, hl, h⟩ := h
   split at h
   ·rename_i hlen
    have hlen : l.length = ty.size := by simpa using hlen
    injection h with h
    subst h
    rw [hkk] at hk
    cases d <;> simp only [TK.okB, Bool.false_eq_true, Bool.and_eq_true, beq_iff_eq] at hk
    obtain ⟨rfl, rfl⟩ := hk
    obtain ⟨xs, q, rfl, _, hcl, hxl, hel⟩ := DataW.trod_array hd hx
    have hse : P.cellsOf e = te.size := by
     obtain ⟨i, z, h1, h2, _⟩ := (hX e te hte).info
     rw [Program.cellsOf, h1]
     exact h2
    obtain ⟨as, h1, h2⟩ := F6 (n := q) hX (fun t ss h => HE hX n t ss h) cs _ 0 l hl (fun f hf => by
     obtain ⟨i, hi, rfl⟩ := List.mem_map.1 hf
     have hi : i < m := by simpa using hi
     refine ⟨xs[i]'(by omega), ?_⟩
     have := hel i hi
     simp only [hse] at this ⊢
     rw [this]
     simp)
    refine ⟨as, h1, ?_⟩
    rw [← h2, List.drop_zero, List.take_of_length_le (by omega)]
   ·cases h
  ·rename_i fs hkk
   simp only [Option.bind_eq_some_iff] at h
   obtain ⟨l, hl, h⟩ := h
   split at h
   ·rename_i hlen
    have hlen : l.length = ty.size := by simpa using hlen
    injection h with h
    subst h
    rw [hkk] at hk
    cases d <;> simp only [TK.okB, Bool.false_eq_true] at hk
    rename_i gs
    have hfs := GC hk
    subst hfs
    obtain ⟨xs, q, rfl, _, hcl, hxl, hel⟩ := DataW.trod_struct hd hx
    obtain ⟨as, h1, h2⟩ := F6 (n := q) hX (fun t ss h => HE hX n t ss h) cs _ 0 l hl (fun f hf => by
     obtain ⟨fd, hfd, rfl⟩ := List.mem_map.1 hf
     obtain ⟨i, hi, hi2⟩ := List.getElem_of_mem hfd
     have hi' : i < gs.size := by simpa using hi
     refine ⟨xs[i]'(by omega), ?_⟩
     have := hel i fd (by rw [← hi2]; simp [hi'])
     rw [this]
     simp)
    refine ⟨as, h1, ?_⟩
    rw [← h2, List.drop_zero, List.take_of_length_le (by omega)]
   ·cases h
  ·cases h
theorem Ss {Ax : List (Nat × Ty)} (hX : Bj P Ax) {r : Reach} {b0 n t : Nat} {ty : Ty} {ss : List LS} {v : Value} {d : DataW H} {p : List MemPlace} (hty : look t Ax = some ty) (hs : G4 Ax n t = some ss)
  (hval : Value.okWide P w r b0 t v) (h : DataW.Trod enc P w base spare held t v d p) :
  ∃ as, CD enc P w base spare held ss as ∧ Hu w.cell? (.c ty.kind.agg (ss.map LS.LN)) v as := by
 obtain ⟨fuel, hx⟩ := h
 obtain ⟨as, h1, h2⟩ := HE hX n t ss hs fuel _ _ hx
 obtain ⟨dd, hd, hk⟩ := (hX t ty hty).kind
 refine ⟨as, h1, by rw [List.length_map, Fl h1], ?_⟩
 have hagg : ty.kind.agg = true → ∃ cs, v = .agg cs := by
  intro ha
  cases hkk : ty.kind <;> rw [hkk] at ha hk <;> simp [TK.agg] at ha
  all_goals
   cases dd <;> simp [TK.okB] at hk
   simp only [Value.okWide, hd] at hval
   obtain ⟨cs, h1, _⟩ := hval
   exact ⟨cs, h1⟩
 split
 ·rename_i ha
  obtain ⟨cs, rfl⟩ := hagg ha
  simp only [Value.cells] at h2
  rw [← h2]
 ·rename_i ha
  have h1' : ss.length = 1 := by
   cases n with
   | zero => simp [G4] at hs
   | succ n =>
    simp only [G4, hty, Option.bind_eq_bind, Option.bind_some] at hs
    split at hs
    ·injection hs with hs; subst hs; rfl
    ·injection hs with hs; subst hs; rfl
    ·injection hs with hs; subst hs; rfl
    ·injection hs with hs; subst hs; rfl
    ·rename_i hkk; rw [hkk] at ha; simp [TK.agg] at ha
    ·rename_i hkk; rw [hkk] at ha; simp [TK.agg] at ha
    ·cases hs
  obtain ⟨s, rfl⟩ : ∃ s, ss = [s] := by
   match ss, h1' with
   | [s], _ => exact ⟨s, rfl⟩
  obtain ⟨a, rr, rfl, h3, hr⟩ := h1
  rw [show rr = [] from hr] at h2 ⊢
  refine ⟨s.LN, a, rfl, rfl, ?_⟩
  simp only [List.map_cons, List.map_nil, Aj] at h2
  have hnot : ∀ cs, v ≠ .agg cs := by
   rintro cs rfl
   cases n with
   | zero => simp [G4] at hs
   | succ n =>
    simp only [G4, hty, Option.bind_eq_bind, Option.bind_some] at hs
    cases hkk : ty.kind <;> rw [hkk] at hs hk ha <;> simp [TK.agg] at ha <;> simp at hs <;> cases dd <;> simp [TK.okB] at hk <;>
     simp [Value.okWide, hd, Cell.okWide, Cell.ok] at hval
  cases v <;> first | (exact absurd rfl (hnot _)) | (simpa [Value.cells] using h2)
end
end Rx
namespace Rx
open Go Go.RowKit
def gi (as : List A) (i : Nat) : Int := (as.getD i (.i 0)).int
def gb (as : List A) (i : Nat) : Bool := (as.getD i (.i 0)).bool
def gs (as : List A) (i : Nat) : ByteArray := (as.getD i (.i 0)).str
def gv (as : List A) (i : Nat) : Value := (as.getD i (.i 0)).val
def Vo (l : List (Nat × (List A → Bool × List A))) (f : Nat) (as : List A) : Bool × List A :=
 match look f l with
 | some t => t as
 | none => (false, [])
def KN (P : Program) (f : Nat) (fn : Func) : Prop := P.funcs[f]? = some fn ∧ (fn.name == "runtime.NumGoroutine") = false ∧ fn.body.isSome = true
def F7 (P : Program) : List (Nat × Func) → Prop
 | [] => True
 | x :: l => KN P x.1 x.2 ∧ F7 P l
section
variable {T : Nat → List A → Bool × List A} {e : Nat → A} {P : Program}
theorem BJ {l : List (Nat × Func)} (h : F7 P l) : N6 P (fun f => look f l) := fun f fn hf => by
 induction l with
 | nil => cases hf
 | cons x l ih =>
  simp only [look] at hf
  split at hf
  ·rename_i hx
   injection hf with hf
   have hx : x.1 = f := by simpa using hx
   subst hx
   subst hf
   exact h.1
  ·exact ih h.2 hf
theorem U2 {b op k x y} (h : Def.holds T e ⟨b, .ar op k, [x, y]⟩) : (e b).int = LL op k (x.ev e).int (y.ev e).int := by rw [Oz.1 h]; rfl
theorem U3 {b op k x y} (h : Def.holds T e ⟨b, .dv op k, [x, y]⟩) : (e b).int = MJ op k (x.ev e).int (y.ev e).int := by rw [OA.1 h]; rfl
theorem U4 {b op k x y} (h : Def.holds T e ⟨b, .bt op k, [x, y]⟩) : (e b).int = K8 op k (x.ev e).int (y.ev e).int := by rw [Sm.1 h]; rfl
theorem Uq {b op x y} (h : Def.holds T e ⟨b, .cmp op, [x, y]⟩) : (e b).bool = CX op (x.ev e).int (y.ev e).int := by rw [QT.1 h]; rfl
theorem TQ {b k x} (h : Def.holds T e ⟨b, .conv k, [x]⟩) : (e b).int = k.wrap (x.ev e).int := by rw [KL.1 h]; rfl
theorem Ur {b k x} (h : Def.holds T e ⟨b, .neg k, [x]⟩) : (e b).int = k.wrap (0 - (x.ev e).int) := by rw [QU.1 h]; rfl
theorem Us {b x} (h : Def.holds T e ⟨b, .not, [x]⟩) : (e b).bool = !(x.ev e).bool := by rw [QV.1 h]; rfl
theorem Ut {b x y} (h : Def.holds T e ⟨b, .and, [x, y]⟩) : (e b).bool = ((x.ev e).bool && (y.ev e).bool) := by rw [QW.1 h]; rfl
theorem U5 {b x y} (h : Def.holds T e ⟨b, .or, [x, y]⟩) : (e b).bool = ((x.ev e).bool || (y.ev e).bool) := by rw [Sn.1 h]; rfl
theorem Uu {b x y} (h : Def.holds T e ⟨b, .imp, [x, y]⟩) : (e b).bool = (!(x.ev e).bool || (y.ev e).bool) := by rw [QX.1 h]; rfl
theorem TR {b x y z} (h : Def.holds T e ⟨b, .iteI, [x, y, z]⟩) : (e b).int = (if (x.ev e).bool then (y.ev e).int else (z.ev e).int) := by rw [KM.1 h]; rfl
theorem TS {b x y z} (h : Def.holds T e ⟨b, .iteB, [x, y, z]⟩) : (e b).bool = (if (x.ev e).bool then (y.ev e).bool else (z.ev e).bool) := by rw [Pt.1 h]; rfl
theorem Su {b x y z} (h : Def.holds T e ⟨b, .iteV, [x, y, z]⟩) : (e b).val = (if (x.ev e).bool then (y.ev e).val else (z.ev e).val) := by rw [Pu.1 h]; rfl
theorem Uv {b x y} (h : Def.holds T e ⟨b, .Ts, [x, y]⟩) : (e b).bool = ((x.ev e).bool == (y.ev e).bool) := by rw [QY.1 h]; rfl
theorem Uw {b x y} (h : Def.holds T e ⟨b, .eqS, [x, y]⟩) : (e b).bool = ((x.ev e).str == (y.ev e).str) := by rw [QZ.1 h]; rfl
theorem U6 {b x y} (h : Def.holds T e ⟨b, .mn, [x, y]⟩) : (e b).int = (if (y.ev e).int < (x.ev e).int then (y.ev e).int else (x.ev e).int) := by rw [Sp.1 h]; rfl
theorem U7 {b x y} (h : Def.holds T e ⟨b, .mx, [x, y]⟩) : (e b).int = (if (x.ev e).int < (y.ev e).int then (y.ev e).int else (x.ev e).int) := by rw [Sq.1 h]; rfl
theorem TT {b x} (h : Def.holds T e ⟨b, .slen, [x]⟩) : (e b).int = ((x.ev e).str.size : Int) := by rw [Pv.1 h]; rfl
theorem Sv (l : List L) (i : Nat) : ((l.map (L.ev e))[i]?.getD (.i 0)).int = (l.map fun a => (a.ev e).int).getD i 0 := by
 rw [List.getD, List.getElem?_map, List.getElem?_map]
 cases l[i]? <;> rfl
theorem TU {b x l} (h : Def.holds T e ⟨b, .sel, x :: l⟩) : (e b).int = (l.map fun a => (a.ev e).int).getD (x.ev e).int.toNat 0 := by rw [Q7.1 h]; exact Sv _ _
theorem TV {b x y l j a} (h : Def.holds T e ⟨b, .upd, x :: y :: l⟩) (ha : l[j]? = some a) : e (b + j) = if (x.ev e).int.toNat = j then y.ev e else a.ev e := by
 have hj : j < l.length := Ab ha
 refine h j _ ?_
 show ((l.map (L.ev e)).set _ _)[j]? = _
 rw [List.getElem?_set]
 split
 ·rename_i hx
  rw [if_pos (by simpa [hx] using hj)]
 ·rename_i hx
  rw [List.getElem?_map, ha]
  rfl
theorem TW {b x y l} (j : Nat) {a} (h : Def.holds T e ⟨b, .upd, x :: y :: l⟩) (ha : l[j]? = some a) : (e (b + j)).int = if (x.ev e).int.toNat = j then (y.ev e).int else (a.ev e).int := by
 rw [TV h ha]; split <;> rfl
theorem Fy {b f args} {t : List A → Bool × List A} (ht : T f = t) (h : Def.holds T e ⟨b, .call f, args⟩) : (e b).bool = (t (args.map (L.ev e))).1 := by
 have := h 0 (.b (T f (args.map (L.ev e))).1) rfl
 rw [ht, Nat.add_zero] at this
 rw [this]
 rfl
theorem Fz {b f args} {t : List A → Bool × List A} (ht : T f = t) (j : Nat) {a : A} (h : Def.holds T e ⟨b, .call f, args⟩) (ha : (t (args.map (L.ev e))).2[j]? = some a) : e (b + (j + 1)) = a := by
 refine h (j + 1) a ?_
 show (_ :: (T f (args.map (L.ev e))).2)[j + 1]? = _
 rw [List.getElem?_cons_succ, ht]
 exact ha
theorem Sw {as more : List A} (he : ∀ j a, (as ++ more)[j]? = some a → e j = a) {n : Nat} (hn : as.length = n) : as = (List.range n).map e := by
 apply List.ext_getElem?
 intro i
 by_cases hi : i < as.length
 ·have h1 : (as ++ more)[i]? = some as[i] := by rw [List.getElem?_append_left hi]; simp
  rw [List.getElem?_map, List.getElem?_range (by omega), List.getElem?_eq_getElem hi]
  simp [he i _ h1]
 ·rw [List.getElem?_eq_none (by omega), List.getElem?_eq_none (by simp; omega)]
def Py : PS → Bool
 | .slc _ => false
 | _ => true
def Fm : PS → Nat
 | .c _ l => l.length
 | .lst _ => 2
 | .d _ l => Jw l
 | _ => 0
theorem Mx {M : Addr → Option Value} : ∀ {ps : List PS} {vs : List Value} {as : List A}, BR M ps vs as → ps.all Py = true → Ox ps [] as ∧ as.length = (ps.map Fm).sum
 | [], vs, as, h, _ => by rw [h.2]; exact ⟨⟨rfl, rfl⟩, rfl⟩
 | p :: ps, vs, as, h, hp => by
  obtain ⟨v, vr, a1, a2, rfl, rfl, h1, h2⟩ := h
  simp only [List.all_cons, Bool.and_eq_true] at hp
  obtain ⟨k1, k2⟩ := Mx h2 hp.2
  cases p with
  | c agg ss => exact ⟨⟨a1, a2, rfl, h1.1, k1⟩, by simp [Fm, h1.1, k2]⟩
  | slc ss => simp [Py] at hp
  | lst ss =>
   obtain ⟨x, k, _, _, _, rfl, _⟩ := h1
   exact ⟨⟨x, k, a2, rfl, k1⟩, by simp [Fm, k2]; omega⟩
  | nil =>
   obtain ⟨_, rfl⟩ := h1
   exact ⟨k1, by simpa [Fm] using k2⟩
  | d agg ss =>
   obtain ⟨cs, _, hd⟩ := h1
   have := (Cj hd).1
   exact ⟨⟨a1, a2, rfl, this, k1⟩, by simp [Fm, this, k2]⟩
theorem TX {ss : List Ak} {a b : A} {as bs : List A} (h : a.bool = b.bool) (hr : Aj ss as = Aj ss bs) : Aj (.bool :: ss) (a :: as) = Aj (.bool :: ss) (b :: bs) := by
 simp only [Aj, Ak.AZ, h, hr]
theorem TY {ss : List Ak} {a b : A} {as bs : List A} (h : a.str = b.str) (hr : Aj ss as = Aj ss bs) : Aj (.str :: ss) (a :: as) = Aj (.str :: ss) (b :: bs) := by
 simp only [Aj, Ak.AZ, h, hr]
theorem wrap64 {x : Int} (h1 : -9223372036854775808 ≤ x) (h2 : x ≤ 9223372036854775807) : IntKind.wrap .i64 x = x := by
 simp only [IntKind.wrap, IntKind.signed, IntKind.bits]
 simp
 omega
end
end Rx
namespace Rx
open Go Go.RowKit
section
variable {T : Nat → List A → Bool × List A} {e : Nat → A} {P : Program}
def Qm (P : Program) (T : Nat → List A → Bool × List A) : List (Nat × MM) → Prop
 | [] => True
 | x :: l => (x.2.f = x.1 ∧ FX P T x.2) ∧ Qm P T l
theorem A8 : ∀ {l : List (Nat × MM)}, Qm P T l → Hx P T l
 | [], _ => fun x hx => by cases hx
 | y :: l, h => fun x hx => by
  rcases List.mem_cons.1 hx with rfl | hx
  ·exact h.1
  ·exact A8 h.2 x hx
def Qn (P : Program) (T : Nat → List A → Bool × List A) : List (Nat × SW) → Prop
 | [] => True
 | x :: l => (x.2.f = x.1 ∧ Sa P T x.2) ∧ Qn P T l
theorem A9 : ∀ {l : List (Nat × SW)}, Qn P T l → Nt P T l
 | [], _ => fun x hx => by cases hx
 | y :: l, h => fun x hx => by
  rcases List.mem_cons.1 hx with rfl | hx
  ·exact h.1
  ·exact A9 h.2 x hx
def Qo (P : Program) (T : Nat → List A → Bool × List A) : List (Nat × OV) → Prop
 | [] => True
 | x :: l => (x.2.f = x.1 ∧ Qe P T x.2) ∧ Qo P T l
theorem B8 : ∀ {l : List (Nat × OV)}, Qo P T l → Pj P T l
 | [], _ => fun f m h => by simp [look] at h
 | y :: l, h => fun f m hm => by
  unfold look at hm
  split at hm
  ·injection hm with hm
   subst hm
   exact h.1.2
  ·exact B8 h.2 f m hm
def Ew (e : Nat → A) : List L → Prop
 | [] => True
 | o :: l => (o.ev e).bool = true ∧ Ew e l
theorem Pz : ∀ {l : List L}, Ew e l → ∀ o ∈ l, (o.ev e).bool = true
 | [], _ => fun x hx => by cases hx
 | y :: l, h => fun x hx => by
  rcases List.mem_cons.1 hx with rfl | hx
  ·exact h.1
  ·exact Pz h.2 x hx
end
end Rx
namespace Rx
open Go Go.RowKit
abbrev V := L.var
abbrev N := L.n
abbrev B := L.t
section
variable {T : Nat → List A → Bool × List A} {e : Nat → A}
theorem A.B0 (b : ByteArray) : (A.v (.string b)).str = b := rfl
def Tf (a : A) : Prop := a = .i a.int
def OB {α : Type} (c : Bool) (x y : α) : α := if c then x else y
def Jx (i j : Nat) (x y : Int) : Int := if i = j then x else y
def Q8 (x y u v : Int) : Int := if x < y then u else v
def HF (e : Nat → A) (x y : L) (b : Nat) : Nat → List L → Prop
 | _, [] => True
 | j, a :: l => (e (b + j)).int = Jx (x.ev e).int.toNat j (y.ev e).int (a.ev e).int ∧ HF e x y b (j + 1) l
def Def.q (T : Nat → List A → Bool × List A) (e : Nat → A) : Def → Prop
 | ⟨b, .ar op k, [x, y]⟩ => (e b).int = LL op k (x.ev e).int (y.ev e).int ∧ Tf (e b)
 | ⟨b, .dv op k, [x, y]⟩ => (e b).int = MJ op k (x.ev e).int (y.ev e).int ∧ Tf (e b)
 | ⟨b, .bt op k, [x, y]⟩ => (e b).int = K8 op k (x.ev e).int (y.ev e).int
 | ⟨b, .cmp op, [x, y]⟩ => (e b).bool = CX op (x.ev e).int (y.ev e).int
 | ⟨b, .conv k, [x]⟩ => (e b).int = k.wrap (x.ev e).int ∧ Tf (e b)
 | ⟨b, .neg k, [x]⟩ => (e b).int = k.wrap (0 - (x.ev e).int)
 | ⟨b, .not, [x]⟩ => (e b).bool = !(x.ev e).bool
 | ⟨b, .and, [x, y]⟩ => (e b).bool = ((x.ev e).bool && (y.ev e).bool)
 | ⟨b, .or, [x, y]⟩ => (e b).bool = ((x.ev e).bool || (y.ev e).bool)
 | ⟨b, .imp, [x, y]⟩ => (e b).bool = (!(x.ev e).bool || (y.ev e).bool)
 | ⟨b, .iteI, [c, x, y]⟩ => (e b).int = OB (c.ev e).bool (x.ev e).int (y.ev e).int ∧ Tf (e b)
 | ⟨b, .iteB, [c, x, y]⟩ => (e b).bool = OB (c.ev e).bool (x.ev e).bool (y.ev e).bool
 | ⟨b, .iteV, [c, x, y]⟩ => (e b).val = OB (c.ev e).bool (x.ev e).val (y.ev e).val ∧ (e b).str = OB (c.ev e).bool (x.ev e).str (y.ev e).str
 | ⟨b, .iteA, [c, x, y]⟩ => e b = OB (c.ev e).bool (x.ev e) (y.ev e)
 | ⟨b, .Ts, [x, y]⟩ => (e b).bool = ((x.ev e).bool == (y.ev e).bool)
 | ⟨b, .eqS, [x, y]⟩ => (e b).bool = ((x.ev e).str == (y.ev e).str)
 | ⟨b, .mn, [x, y]⟩ => (e b).int = Q8 (y.ev e).int (x.ev e).int (y.ev e).int (x.ev e).int
 | ⟨b, .mx, [x, y]⟩ => (e b).int = Q8 (x.ev e).int (y.ev e).int (y.ev e).int (x.ev e).int
 | ⟨b, .slen, [x]⟩ => (e b).int = ((x.ev e).str.size : Int)
 | ⟨b, .sel, x :: l⟩ => (e b).int = (l.map fun a => (a.ev e).int).getD (x.ev e).int.toNat 0
 | ⟨b, .upd, x :: y :: l⟩ => HF e x y b 0 l
 | ⟨b, .pix o s, [x, i]⟩ => e b = (x.ev e).AL.getD (o + s * (i.ev e).int.toNat) (.i 0)
 | ⟨b, .pset o s, [x, i, y]⟩ => e b = .l ((x.ev e).AL.set (o + s * (i.ev e).int.toNat) (y.ev e))
 | ⟨b, .lln s, [x]⟩ => (e b).int = (((x.ev e).AL.length / s : Nat) : Int)
 | ⟨b, .rep, x :: zs⟩ => e b = .l (List.replicate (x.ev e).int.toNat (zs.map (L.ev e))).flatten
 | ⟨b, .mkl, l⟩ => e b = .l (l.map (L.ev e))
 | ⟨b, .cat, [x, y]⟩ => e b = .l ((x.ev e).AL ++ (y.ev e).AL)
 | ⟨b, .cpy, [x, y, m]⟩ => e b = .l ((y.ev e).AL.take (m.ev e).int.toNat ++ (x.ev e).AL.drop (m.ev e).int.toNat)
 | ⟨b, .scat, [x, y]⟩ => (e b).str = (x.ev e).str ++ (y.ev e).str
 | ⟨b, .sget, [x, i]⟩ => (e b).int = (((x.ev e).str.data.toList.getD (i.ev e).int.toNat 0).toNat : Int) ∧ Tf (e b)
 | ⟨b, .ssub, [x, i, j]⟩ => (e b).str = (x.ev e).str.extract (i.ev e).int.toNat (j.ev e).int.toNat
 | ⟨b, .mks, [x]⟩ => (e b).str = ⟨((x.ev e).AL.map fun a => UInt8.ofNat a.int.toNat).toArray⟩
 | ⟨b, .sby, [x]⟩ => e b = .l ((x.ev e).str.data.toList.map fun b => .i (b.toNat : Int))
 | ⟨b, .lsub n, [x, i, j]⟩ => e b = .l (((x.ev e).AL.take ((j.ev e).int.toNat * n)).drop ((i.ev e).int.toNat * n))
 | ⟨b, .sh op k, [x, y]⟩ => (e b).int = NJ op k (x.ev e).int (y.ev e).int ∧ Tf (e b)
 | d => d.holds T e
theorem Qp {x y : L} {b : Nat} {l0 : List L} (h : Def.holds T e ⟨b, .upd, x :: y :: l0⟩) : ∀ {l : List L} {j : Nat}, (∀ (i : Nat) a, l[i]? = some a → l0[j + i]? = some a) → HF e x y b j l
 | [], _, _ => trivial
 | a :: l, j, hl => ⟨TW j h (hl 0 a rfl), Qp h fun i c hc => by
   have := hl (i + 1) c (by simpa using hc)
   rwa [show j + 1 + i = j + (i + 1) by omega]⟩
theorem U8 {d : Def} (h : d.holds T e) : d.q T e := by
 unfold Def.q
 split
 ·exact ⟨U2 h, by rw [Oz.1 h]; rfl⟩
 ·exact ⟨U3 h, by rw [OA.1 h]; rfl⟩
 ·exact U4 h
 ·exact Uq h
 ·exact ⟨TQ h, by rw [KL.1 h]; rfl⟩
 ·exact Ur h
 ·exact Us h
 ·exact Ut h
 ·exact U5 h
 ·exact Uu h
 ·exact ⟨TR h, by rw [KM.1 h]; rfl⟩
 ·exact TS h
 ·refine ⟨Su h, ?_⟩
  have := Su h
  unfold A.str
  rw [this]
  split <;> rename_i hc <;> simp [OB, hc]
 ·exact Pw.1 h
 ·exact Uv h
 ·exact Uw h
 ·exact U6 h
 ·exact U7 h
 ·exact TT h
 ·exact TU h
 ·exact Qp h fun i a ha => by simpa using ha
 ·exact Q0.1 h
 ·exact Px.1 h
 ·rw [Q2.1 h]; rfl
 ·exact Q3.1 h
 ·exact Q4.1 h
 ·exact Q6.1 h
 ·exact Q5.1 h
 ·exact congrArg A.str (h 0 _ rfl)
 ·rename_i b x i
  have h2 : e b = _ := h 0 _ rfl
  rw [h2]
  exact ⟨rfl, rfl⟩
 ·exact congrArg A.str (h 0 _ rfl)
 ·exact congrArg A.str (h 0 _ rfl)
 ·exact h 0 _ rfl
 ·exact h 0 _ rfl
 ·rename_i b op k x y
  have h2 : e b = _ := h 0 _ rfl
  rw [h2]
  exact ⟨rfl, rfl⟩
 ·exact h
def AH (T : Nat → List A → Bool × List A) (e : Nat → A) : List Def → Prop
 | [] => True
 | d :: l => d.q T e ∧ AH T e l
theorem I0 : ∀ {l : List Def}, (∀ d ∈ l, d.holds T e) → AH T e l
 | [], _ => trivial
 | d :: l, h => ⟨U8 (h d (by simp)), I0 fun x hx => h x (by simp [hx])⟩
def ge (as : List A) (i : Nat) : A := as.getD i (.i 0)
end
end Rx
namespace Rx
open Go Go.RowKit
def Q9 (n : Nat) (l : List (Nat × SV)) : List SV := l.foldl (fun a x => a.set x.1 x.2) (List.replicate n .junk)
section
variable {T : Nat → List A → Bool × List A} {e : Nat → A} {P : Program} {X : Ctx}
def Qq (a b : G) : Bool := a.next == b.next && C2 a.defs b.defs && L.Hb a.obs b.obs && Cn a.known b.known
theorem OC {a b : G} (h : Qq a b = true) : a = b := by
 obtain ⟨a1, a2, a3, a4⟩ := a
 obtain ⟨b1, b2, b3, b4⟩ := b
 simp only [Qq, Bool.and_eq_true, beq_iff_eq] at h
 obtain ⟨⟨⟨h1, h2⟩, h3⟩, h4⟩ := h
 rw [h1, D8 h2, L.Cx h3, Dw h4]
def Ux (ws : List (Nat × Nat)) (X : Ctx) (c : MM) (g : G) (ls : List L) : Bool :=
 match Dj (Te []) c.ps [] 0 0 with
 | some (args, rows, k) => match run X 2000 c.f args rows k [] with
  | some (v, _, g') => Qq g' g && (match KK c.rs v with | some l => L.Hb l ls | none => false) && Ic ws g.defs g.next && g.defs.all (fun d => decide (k ≤ d.base)) && c.ps.all Py && k == (c.ps.map Fm).sum
  | none => false
 | none => false
theorem I1 (hX : XL P T X) {ws : List (Nat × Nat)} (hws : Fj T ws) {c : MM} {g : G} {ls : List L} (h : Ux ws X c g ls = true)
  (hlen : ∀ as, (T c.f as).2.length = ls.length)
  (hpure : ∀ (as : List A) (e : Nat → A), as = (List.range (c.ps.map Fm).sum).map e → (T c.f as).1 = true → AH T e g.defs → Ew e g.obs ∧ Aj (c.rs.flatMap (·.2)) (T c.f as).2 = Aj (c.rs.flatMap (·.2)) (ls.map (L.ev e))) (hkn : g.known = [] := by rfl) : FX P T c := by
 intro lits as vs w hT _ _ hargs hpre
 unfold Ux at h
 split at h
 ·rename_i args rows k hpar
  split at h
  ·rename_i v rows' g' hrun
   simp only [Bool.and_eq_true] at h
   obtain ⟨⟨⟨⟨⟨h1, h2⟩, h3⟩, h4⟩, h5⟩, h6⟩ := h
   have h1 := OC h1
   subst h1
   cases hfl : KK c.rs v with
   | none => rw [hfl] at h2; cases h2
   | some l =>
    rw [hfl] at h2
    have h2 := L.Cx h2
    subst h2
    obtain ⟨a1, a2⟩ := Mx hargs h5
    refine NA (more := []) (kn := []) hX hws hpar (by simpa using hrun) h3 (by simpa using h4) hfl hT hargs a1 (fun i x hx => by cases hx) (hlen as) fun e he hd => ?_
    obtain ⟨p1, p2⟩ := hpure as e (by
     have := Sw (more := []) he rfl
     rw [a2] at this
     exact this) hpre (I0 hd)
    exact ⟨by rw [hkn]; exact fun x hx => (by cases hx), Pz p1, p2⟩
  ·cases h
 ·cases h
def Sx (a : List Ex) (b : List (L × List (Option L))) : Bool :=
 Cb (fun x y => x) (a.map fun _ => true) (b.map fun _ => true) && (a.zip b).all fun x => x.1.pc.same x.2.1 && x.1.lx.length == x.2.2.length && (x.1.lx.zip x.2.2).all fun y => match y.1, y.2 with | some l, some m => l.same m | none, none => true | _, _ => false
def OD (a b : Option (L × List L)) : Bool :=
 match a, b with
 | none, none => true
 | some x, some y => x.1.same y.1 && L.Hb x.2 y.2
 | _, _ => false
def PA (X : Ctx) (f : Nat) (p : List Bool) : Option Code :=
 match X.fns f with
 | some fn => match fn.body with
  | some b => match C8 p b with
   | some (.loop c) => some c
   | _ => none
  | none => none
 | none => none
def TA (ws : List (Nat × Nat)) (X : Ctx) (q : Lp) (g : G) (back : Option (L × List L)) (exs : List (L × List (Option L))) : Bool :=
 match PA X q.f q.p with
 | some c => match exec X 2000 q.f (false :: q.p) c (HS q) ⟨q.k, [], [], []⟩ with
  | some (outs, g') => Qq g' g && Ic ws g.defs g.next && g.defs.all (fun d => decide (q.k ≤ d.base)) && decide (q.m ≤ q.tm.rows.length) &&
    (match M8 q outs with | some b => OD b back | none => false) && (match Gx q outs with | some x => Sx x exs | none => false)
  | none => false
 | none => false
theorem GK (hX : XL P T X) {ws : List (Nat × Nat)} (hws : Fj T ws) {q : Lp} {g : G} {back : Option (L × List L)} {exs : List (L × List (Option L))} (h : TA ws X q g back exs = true)
  (hlen : ∀ as, (T q.id as).2.length = q.w) (meas : List A → Nat)
  (hpure : ∀ (as : List A) (e : Nat → A), as = (List.range q.k).map e → (T q.id as).1 = true → AH T e g.defs → Ew e g.obs ∧
   (∀ pc ls, back = some (pc, ls) → (pc.ev e).bool = true → (T q.id (ls.map (L.ev e))).1 = true ∧ (T q.id (ls.map (L.ev e))).2 = (T q.id as).2 ∧ meas (ls.map (L.ev e)) < meas as) ∧
   ∀ x ∈ exs, (x.1.ev e).bool = true → ∀ (j : Nat) l, x.2[j]? = some (some l) → FG (q.tags.getD j .any) (l.ev e) ((T q.id as).2.getD j (.i 0))) (hkn : g.known = [] := by rfl) :
  ∀ fn body c, X.fns q.f = some fn → fn.body = some body → C8 q.p body = some (.loop c) → Ca P T q c := by
 intro fn body c f1 f2 f3
 unfold TA at h
 have hb : PA X q.f q.p = some c := by simp only [PA, f1, f2, f3]
 rw [hb] at h
 simp only at h
 split at h
 ·rename_i outs g' hrun
  simp only [Bool.and_eq_true, decide_eq_true_eq] at h
  obtain ⟨⟨⟨⟨⟨h1, h2⟩, h3⟩, h4⟩, h5⟩, h6⟩ := h
  have h1 := OC h1
  subst h1
  cases hbk : M8 q outs with
  | none => rw [hbk] at h5; cases h5
  | some b =>
   cases hex : Gx q outs with
   | none => rw [hex] at h6; cases h6
   | some xs =>
    rw [hbk] at h5
    rw [hex] at h6
    simp only at h5 h6
    refine Oy hX hws ⟨fn, body, f1, f2, by simp only [C8, f3]; rfl⟩ hrun h2 h3 hkn (by simpa using h4) hbk hex (fun as _ => hlen as) meas fun as e hal he hpre hd => ?_
    have has : as = (List.range q.k).map e := Sw (more := []) (by simpa using he) hal
    obtain ⟨p1, p2, p3⟩ := hpure as e has hpre (I0 hd)
    refine ⟨Pz p1, fun pc ls hb' => p2 pc ls ?_, fun x hx hpc j l hj => ?_⟩
    ·unfold OD at h5
     split at h5
     ·exact hb'
     ·simp only [Bool.and_eq_true] at h5
      rename_i x y
      rw [← hb']
      exact congrArg some (Prod.ext (L.Ae h5.1).symm (L.Cx h5.2).symm)
     ·cases h5
    ·unfold Sx at h6
     simp only [Bool.and_eq_true, List.all_eq_true] at h6
     obtain ⟨k1, k2⟩ := h6
     obtain ⟨i, hi, hi2⟩ := List.mem_iff_getElem.1 hx
     have hl := (H8 k1).1
     simp only [List.length_map] at hl
     have hy : i < exs.length := by omega
     have hz : (x, exs[i]'hy) ∈ xs.zip exs := by
      rw [← hi2]
      exact List.mem_iff_getElem.2 ⟨i, by simp; omega, by simp⟩
     obtain ⟨⟨m1, m2⟩, m3⟩ := by
      have := k2 _ hz
      simp only [Bool.and_eq_true] at this
      exact this
     have m1 := L.Ae m1
     simp only [beq_iff_eq] at m2
     have hjl : j < x.lx.length := Ab hj
     have hj2 : j < (exs[i]'hy).2.length := by omega
     have hzz : (x.lx[j]'hjl, (exs[i]'hy).2[j]'hj2) ∈ x.lx.zip (exs[i]'hy).2 := List.mem_iff_getElem.2 ⟨j, by simp; omega, by simp⟩
     have m4 := m3 _ hzz
     rw [List.getElem?_eq_getElem hjl] at hj
     injection hj with hj
     rw [hj] at m4
     simp only at m4
     refine p3 _ (List.getElem_mem hy) (by rw [← m1]; exact hpc) j l ?_
     rw [List.getElem?_eq_getElem hj2]
     cases ho : (exs[i]'hy).2[j]'hj2 with
     | none => rw [ho] at m4; cases m4
     | some mm => rw [ho] at m4; simp only at m4; rw [L.Ae m4]
 ·cases h
theorem GL {X : Ctx} (h : X.lps = []) : ∀ q ∈ X.lps, ∀ fn body c, X.fns q.f = some fn → fn.body = some body → C8 q.p body = some (.loop c) → Ca P T q c := by
 rw [h]; intro q hq; cases hq
def PB (P : Program) (T : Nat → List A → Bool × List A) (X : Ctx) : List Lp → Prop
 | [] => True
 | q :: l => (∀ fn body c, X.fns q.f = some fn → fn.body = some body → C8 q.p body = some (.loop c) → Ca P T q c) ∧ PB P T X l
theorem My {X : Ctx} : ∀ {l : List Lp}, PB P T X l → ∀ q ∈ l, ∀ fn body c, X.fns q.f = some fn → fn.body = some body → C8 q.p body = some (.loop c) → Ca P T q c
 | [], _ => fun x hx => by cases hx
 | y :: l, h => fun x hx => by
  rcases List.mem_cons.1 hx with rfl | hx
  ·exact h.1
  ·exact My h.2 x hx
theorem EX {X : Ctx} (h : PB P T X X.lps) : ∀ q ∈ X.lps, ∀ fn body c, X.fns q.f = some fn → fn.body = some body → C8 q.p body = some (.loop c) → Ca P T q c := My h
end
end Rx
namespace Rx
open Go Go.RowKit
def I2 (F : Nat → Option (List Ak)) (Ax : List (Nat × Ty)) : List (Nat × Nat) → Nat → Option (List Ak)
 | [], _ => some []
 | (t, off) :: l, o => do
  let ty ← look t Ax
  let a ← F t
  if off == o && a.length == ty.size then let r ← I2 F Ax l (o + ty.size); some (a ++ r) else none
def KZ (Ax : List (Nat × Ty)) : Nat → Nat → Option (List Ak)
 | 0, _ => none
 | n + 1, t => do
  let ty ← look t Ax
  match ty.kind with
  | .int k => some [.int k]
  | .bool => some [.bool]
  | .string => some [.str]
  | .slice e => do
   let te ← look e Ax
   let l ← KZ Ax n e
   if l.length == te.size && l.length != 0 then some [.sl l] else none
  | .arr m e => do
   let te ← look e Ax
   let l ← I2 (KZ Ax n) Ax ((List.range m).map fun i => (e, i * te.size)) 0
   if l.length == ty.size then some l else none
  | .struct fs => do
   let l ← I2 (KZ Ax n) Ax fs 0
   if l.length == ty.size then some l else none
  | _ => none
inductive Qy : Ak → A → Prop
 | int {k : IntKind} {n : Int} : k.min ≤ n → n ≤ k.max → Qy (.int k) (.i n)
 | bool {b : Bool} : Qy .bool (.b b)
 | str {s : ByteArray} : s.size ≤ maxLen → Qy .str (.v (.string s))
 | sl {ss : List Ak} {as : List A} {n : Nat} : as.length = n * ss.length → n ≤ maxLen → (∀ (j : Nat) s a, ss[j % ss.length]? = some s → as[j]? = some a → Qy s a) → Qy (.sl ss) (.l as)
def K0 : List Ak → List A → Prop
 | [], [] => True
 | s :: ss, a :: as => Qy s a ∧ K0 ss as
 | _, _ => False
def Dg (M : Addr → Option Value) : List Ak → List A → List Value → Prop
 | [], [], [] => True
 | s :: ss, a :: as, c :: cs => EH M s a c ∧ Dg M ss as cs
 | _, _, _ => False
theorem Js : ∀ {s1 s2 : List Ak} {a1 a2 : List A}, K0 s1 a1 → K0 s2 a2 → K0 (s1 ++ s2) (a1 ++ a2)
 | [], _, [], _, _, h => h
 | _ :: _, _, _ :: _, _, h, h' => ⟨h.1, Js h.2 h'⟩
 | [], _, _ :: _, _, h, _ => h.elim
 | _ :: _, _, [], _, h, _ => h.elim
theorem G6 {M : Addr → Option Value} : ∀ {s1 s2 : List Ak} {a1 a2 : List A} {c1 c2 : List Value}, Dg M s1 a1 c1 → Dg M s2 a2 c2 → Dg M (s1 ++ s2) (a1 ++ a2) (c1 ++ c2)
 | [], _, [], _, [], _, _, h => h
 | _ :: _, _, _ :: _, _, _ :: _, _, h, h' => ⟨h.1, G6 h.2 h'⟩
 | [], _, [], _, _ :: _, _, h, _ => h.elim
 | [], _, _ :: _, _, _, _, h, _ => h.elim
 | _ :: _, _, [], _, _, _, h, _ => h.elim
 | _ :: _, _, _ :: _, _, [], _, h, _ => h.elim
theorem K1 {M : Addr → Option Value} : ∀ {ss : List Ak} {as : List A} {cs : List Value}, Dg M ss as cs → as.length = ss.length ∧ cs.length = ss.length
 | [], [], [], _ => ⟨rfl, rfl⟩
 | _ :: _, _ :: _, _ :: _, h => by
  have := K1 h.2
  simp [this]
 | [], [], _ :: _, h => h.elim
 | [], _ :: _, _, h => h.elim
 | _ :: _, [], _, h => h.elim
 | _ :: _, _ :: _, [], h => h.elim
theorem K2 {M : Addr → Option Value} : ∀ {ss : List Ak} {as : List A} {cs : List Value}, Dg M ss as cs → ∀ {j : Nat} {s : Ak} {a : A} {c : Value}, ss[j]? = some s → as[j]? = some a → cs[j]? = some c → EH M s a c
 | [], [], [], _, j, s, a, c, h, _, _ => by simp at h
 | _ :: _, _ :: _, _ :: _, h, 0, s, a, c, h1, h2, h3 => by simp at h1 h2 h3; subst h1 h2 h3; exact h.1
 | _ :: _, _ :: _, _ :: _, h, j + 1, s, a, c, h1, h2, h3 => K2 h.2 (j := j) (by simpa using h1) (by simpa using h2) (by simpa using h3)
 | [], [], _ :: _, h, _, _, _, _, _, _, _ => h.elim
 | [], _ :: _, _, h, _, _, _, _, _, _, _ => h.elim
 | _ :: _, [], _, h, _, _, _, _, _, _, _ => h.elim
 | _ :: _, _ :: _, [], h, _, _, _, _, _, _, _ => h.elim
theorem OL : ∀ {ss : List Ak} {as : List A}, K0 ss as → ∀ {j : Nat} {s : Ak} {a : A}, ss[j]? = some s → as[j]? = some a → Qy s a
 | [], [], _, j, s, a, h, _ => by simp at h
 | _ :: _, _ :: _, h, 0, s, a, h1, h2 => by simp at h1 h2; subst h1 h2; exact h.1
 | _ :: _, _ :: _, h, j + 1, s, a, h1, h2 => OL h.2 (j := j) (by simpa using h1) (by simpa using h2)
 | [], _ :: _, h, _, _, _, _, _ => h.elim
 | _ :: _, [], h, _, _, _, _, _ => h.elim
theorem OM : ∀ {ss : List Ak} {as : List A}, K0 ss as → as.length = ss.length
 | [], [], _ => rfl
 | _ :: _, _ :: _, h => by simp [OM h.2]
 | [], _ :: _, h => h.elim
 | _ :: _, [], h => h.elim
theorem Im {α : Type} {m : Nat} {f : Nat → List α} : ∀ {n : Nat}, (∀ i, i < n → (f i).length = m) → ((List.range n).flatMap f).length = n * m
 | 0, _ => by simp
 | n + 1, h => by
  rw [List.range_succ, List.flatMap_append, List.length_append, Im (n := n) fun i hi => h i (by omega)]
  simp [h n (by omega), Nat.succ_mul]
theorem Gg {α : Type} {m : Nat} (hm : 0 < m) {f : Nat → List α} : ∀ {n : Nat}, (∀ i, i < n → (f i).length = m) → ∀ j, j < n * m → ((List.range n).flatMap f)[j]? = (f (j / m))[j % m]?
 | 0, _, j, hj => by simp at hj
 | n + 1, h, j, hj => by
  have hl := Im (n := n) (f := f) fun i hi => h i (by omega)
  rw [List.range_succ, List.flatMap_append]
  by_cases hjn : j < n * m
  ·rw [List.getElem?_append_left (by rw [hl]; exact hjn)]
   exact Gg hm (fun i hi => h i (by omega)) j hjn
  ·rw [List.getElem?_append_right (by rw [hl]; omega), hl]
   have e1 : j - n * m < m := by rw [Nat.succ_mul] at hj; omega
   have e2 : j = m * n + (j - n * m) := by rw [Nat.mul_comm m n]; omega
   have e3 : j / m = n := by rw [e2, Nat.mul_add_div hm, Nat.div_eq_of_lt e1, Nat.add_zero]
   have e4 : j % m = j - n * m := by conv => lhs; rw [e2]; rw [Nat.mul_add_mod, Nat.mod_eq_of_lt e1]
   simp [e3, e4]
section
variable {H : Type} {enc : TypeId × Value → H} {P : Program} {w : World} {base : Nat} {spare : Nat → Bool} {held : Bool}
theorem Gh {Ax : List (Nat × Ty)} (hX : Bj P Ax) {n : Nat} {F : Nat → Option (List Ak)}
  (hF : ∀ t ss, F t = some ss → ∀ fuel cs x, DataW.trod enc P w base spare held fuel t cs = some x → ∃ as, K0 ss as ∧ Dg w.cell? ss as cs) (cs : List Value) :
  ∀ (fl : List (Nat × Nat)) (o : Nat) (ss : List Ak), I2 F Ax fl o = some ss → (∀ f ∈ fl, ∃ y, DataW.trod enc P w base spare held n f.1 ((cs.drop f.2).take (P.cellsOf f.1)) = some y) →
   ∃ as, K0 ss as ∧ Dg w.cell? ss as ((cs.drop o).take ss.length)
 | [], o, ss, h, _ => by
  simp only [I2, Option.some.injEq] at h
  subst h
  exact ⟨[], trivial, by simp [Dg]⟩
 | (t, off) :: fl, o, ss, h, hf => by
  simp only [I2, Option.bind_eq_bind, Option.bind_eq_some_iff] at h
  obtain ⟨ty, hty, a, ha, h⟩ := h
  split at h
  ·rename_i hc
   simp only [Bool.and_eq_true, beq_iff_eq] at hc
   obtain ⟨rfl, hlen⟩ := hc
   simp only [Option.bind_eq_some_iff, Option.some.injEq] at h
   obtain ⟨r, hr, rfl⟩ := h
   obtain ⟨y, hy⟩ := hf (t, off) (by simp)
   simp only at hy
   have hsz : P.cellsOf t = ty.size := by
    obtain ⟨i, z, h1, h2, _⟩ := (hX t ty hty).info
    rw [Program.cellsOf, h1]
    exact h2
   obtain ⟨as1, h1, h2⟩ := hF t a ha n _ y hy
   obtain ⟨as2, h3, h4⟩ := Gh hX hF cs fl (off + ty.size) r hr (fun f hf' => hf f (by simp [hf']))
   refine ⟨as1 ++ as2, Js h1 h3, ?_⟩
   rw [List.length_append, List.take_add, List.drop_drop, hlen]
   rw [hsz] at h2
   exact G6 h2 h4
  ·cases h
theorem Rl {a : Addr} {k : Nat} {cs : List Value} (h : w.cells? base a k = some cs) : cs.length = k ∧ ∀ j, j < k → w.cell? (a.add j) = cs[j]? := by
 unfold World.cells? at h
 split at h
 ·exact ⟨by simpa using mapM_some_length h, fun j hj => mapM_some_get h j j (by simp [hj])⟩
 ·cases h
theorem Rm {a : Addr} {v : Value} (h : w.cell? a = some v) : a = ⟨a.block, a.off, none⟩ := by
 obtain ⟨b, o, s⟩ := a
 unfold World.cell? at h
 split at h
 ·simp only at h
  split at h
  ·cases h
  ·rename_i hs
   cases s with
   | none => rfl
   | some => simp at hs
 ·cases h
theorem Fq {Ax : List (Nat × Ty)} (hX : Bj P Ax) : ∀ (n t : Nat) (ss : List Ak), KZ Ax n t = some ss → ∀ (fuel : Nat) (cs : List Value) (x : DataW H × List MemPlace), DataW.trod enc P w base spare held fuel t cs = some x →
  ∃ as, K0 ss as ∧ Dg w.cell? ss as cs
 | 0, t, ss, h => by simp [KZ] at h
 | n + 1, t, ss, h => fun fuel cs x hx => by
  simp only [KZ, Option.bind_eq_bind, Option.bind_eq_some_iff] at h
  obtain ⟨ty, hty, h⟩ := h
  have hT := hX t ty hty
  obtain ⟨d, hd, hk⟩ := hT.kind
  split at h
  ·rename_i k hkk
   injection h with h
   subst h
   rw [hkk] at hk
   cases d <;> simp only [TK.okB, Bool.false_eq_true] at hk
   rw [← AY hk] at hd
   obtain ⟨m, rfl, _, hw⟩ := DataW.trod_int hd hx
   simp only [Lit.wf, Bool.and_eq_true, decide_eq_true_eq] at hw
   exact ⟨[.i m], ⟨.int hw.1 hw.2, trivial⟩, .sc rfl, trivial⟩
  ·rename_i hkk
   injection h with h
   subst h
   rw [hkk] at hk
   cases d <;> simp only [TK.okB, Bool.false_eq_true] at hk
   obtain ⟨m, rfl, _⟩ := DataW.trod_bool hd hx
   exact ⟨[.b m], ⟨.bool, trivial⟩, .sc rfl, trivial⟩
  ·rename_i hkk
   injection h with h
   subst h
   rw [hkk] at hk
   cases d <;> simp only [TK.okB, Bool.false_eq_true] at hk
   obtain ⟨m, rfl, _, hl⟩ := DataW.trod_string hd hx
   exact ⟨[.v (.string m)], ⟨.str hl, trivial⟩, .sc rfl, trivial⟩
  ·rename_i e hkk
   simp only [Option.bind_eq_some_iff] at h
   obtain ⟨te, hte, l, hl, h⟩ := h
   split at h
   ·rename_i hlen
    simp only [Bool.and_eq_true, beq_iff_eq, bne_iff_ne, ne_eq] at hlen
    obtain ⟨hlen, hl0⟩ := hlen
    injection h with h
    subst h
    rw [hkk] at hk
    cases d <;> simp only [TK.okB, Bool.false_eq_true, beq_iff_eq] at hk
    subst hk
    have hse : P.cellsOf e = l.length := by
     obtain ⟨i, z, h1, h2, _⟩ := (hX e te hte).info
     rw [Program.cellsOf, h1, hlen]
     exact h2
    rcases DataW.trod_slice hd hx with ⟨rfl, _⟩ | ⟨a, len, cap, elems, rest, q, _, rfl, _, _, hlc, hcm, hel, hge, _⟩
    ·exact ⟨[.l []], ⟨.sl (n := 0) (by simp) (by omega) (fun j s a h1 h2 => by simp at h2), trivial⟩, .emp, trivial⟩
    ·have key : ∀ i, i < len → ∃ (as : List A) (us : List Value), K0 l as ∧ Dg w.cell? l as us ∧ ∀ j, j < l.length → w.cell? (a.add (i * l.length + j)) = us[j]? := fun i hi => by
      have h1 := hge i hi
      rw [List.getElem?_eq_getElem (by omega)] at h1
      obtain ⟨us, h2, h3⟩ := Option.bind_eq_some_iff.1 h1
      rw [hse] at h2
      obtain ⟨as, h4, h5⟩ := Fq hX n e l hl q us _ h3
      refine ⟨as, us, h4, h5, fun j hj => ?_⟩
      rw [← (Rl h2).2 j hj, Go.Deep.add_add]
     let fa : Nat → List A := fun i => if h : i < len then (key i h).choose else []
     let fu : Nat → List Value := fun i => if h : i < len then (key i h).choose_spec.choose else []
     have hfa : ∀ i, i < len → K0 l (fa i) ∧ Dg w.cell? l (fa i) (fu i) ∧ ∀ j, j < l.length → w.cell? (a.add (i * l.length + j)) = (fu i)[j]? := fun i hi => by
      simp only [fa, fu, hi, dif_pos]
      exact (key i hi).choose_spec.choose_spec
     have la : ∀ i, i < len → (fa i).length = l.length := fun i hi => OM (hfa i hi).1
     have lu : ∀ i, i < len → (fu i).length = l.length := fun i hi => (K1 (hfa i hi).2.1).2
     have hpos : 0 < l.length := by omega
     have tot := Im la
     have totu := Im lu
     have dm : ∀ j, j < len * l.length → j / l.length < len ∧ j % l.length < l.length ∧ j = j / l.length * l.length + j % l.length := fun j hj =>
      ⟨Nat.div_lt_of_lt_mul (by rw [Nat.mul_comm]; exact hj), Nat.mod_lt _ hpos, by rw [Nat.mul_comm]; exact (Nat.div_add_mod j l.length).symm⟩
     refine ⟨[.l ((List.range len).flatMap fa)], ⟨.sl (n := len) tot (by omega) fun j s b h1 h2 => ?_, trivial⟩, ?_, trivial⟩
     ·have hj : j < len * l.length := by rw [← tot]; exact Ab h2
      rw [Gg hpos la j hj] at h2
      obtain ⟨d1, d2, d3⟩ := dm j hj
      exact OL (hfa _ d1).1 h1 h2
     ·cases len with
      | zero => exact .emp
      | succ len =>
       have h0 := (hfa 0 (by omega)).2.2 0 hpos
       have hu0 : 0 < (fu 0).length := by rw [lu 0 (by omega)]; exact hpos
       rw [List.getElem?_eq_getElem hu0] at h0
       simp only [Nat.zero_mul, Nat.add_zero] at h0
       have ha : a = ⟨a.block, a.off, none⟩ := Rm (by simpa [Addr.add] using h0)
       generalize a.block = b at ha
       generalize a.off = o at ha
       subst ha
       refine .sl (us := (List.range (len + 1)).flatMap fu) hlc hpos tot (by rw [totu, tot]) (fun j u hu => ?_) fun j s x u h1 h2 h3 => ?_
       ·have hj : j < (len + 1) * l.length := by rw [← totu]; exact Ab hu
        rw [Gg hpos lu j hj] at hu
        obtain ⟨d1, d2, d3⟩ := dm j hj
        have := (hfa _ d1).2.2 _ d2
        rw [← d3, hu] at this
        rw [← this]
        unfold Addr.add
        split
        ·rename_i hz; rw [hz]; rfl
        ·rfl
       ·have hj : j < (len + 1) * l.length := by rw [← tot]; exact Ab h2
        rw [Gg hpos la j hj] at h2
        rw [Gg hpos lu j hj] at h3
        obtain ⟨d1, d2, d3⟩ := dm j hj
        exact K2 (hfa _ d1).2.1 h1 h2 h3
   ·cases h
  ·rename_i m e hkk
   simp only [Option.bind_eq_some_iff] at h
   obtain ⟨te, hte, l, hl, h⟩ := h
   split at h
   ·rename_i hlen
    have hlen : l.length = ty.size := by simpa using hlen
    injection h with h
    subst h
    rw [hkk] at hk
    cases d <;> simp only [TK.okB, Bool.false_eq_true, Bool.and_eq_true, beq_iff_eq] at hk
    obtain ⟨rfl, rfl⟩ := hk
    obtain ⟨xs, q, rfl, _, hcl, hxl, hel⟩ := DataW.trod_array hd hx
    have hsz : P.cellsOf t = ty.size := by
     obtain ⟨i, z, h1, h2, _⟩ := hT.info
     rw [Program.cellsOf, h1]
     exact h2
    have hse : P.cellsOf e = te.size := by
     obtain ⟨i, z, h1, h2, _⟩ := (hX e te hte).info
     rw [Program.cellsOf, h1]
     exact h2
    obtain ⟨as, h1, h2⟩ := Gh (n := q) hX (fun t ss h => Fq hX n t ss h) cs _ 0 l hl (fun f hf => by
     obtain ⟨i, hi, rfl⟩ := List.mem_map.1 hf
     have hi : i < m := by simpa using hi
     refine ⟨xs[i]'(by omega), ?_⟩
     have := hel i hi
     simp only [hse] at this ⊢
     rw [this]
     simp)
    refine ⟨as, h1, ?_⟩
    rw [List.drop_zero, List.take_of_length_le (by omega)] at h2
    exact h2
   ·cases h
  ·rename_i fs hkk
   simp only [Option.bind_eq_some_iff] at h
   obtain ⟨l, hl, h⟩ := h
   split at h
   ·rename_i hlen
    have hlen : l.length = ty.size := by simpa using hlen
    injection h with h
    subst h
    rw [hkk] at hk
    cases d <;> simp only [TK.okB, Bool.false_eq_true] at hk
    rename_i gs
    have hfs := GC hk
    subst hfs
    have hsz : P.cellsOf t = ty.size := by
     obtain ⟨i, z, h1, h2, _⟩ := hT.info
     rw [Program.cellsOf, h1]
     exact h2
    obtain ⟨xs, q, rfl, _, hcl, hxl, hel⟩ := DataW.trod_struct hd hx
    obtain ⟨as, h1, h2⟩ := Gh (n := q) hX (fun t ss h => Fq hX n t ss h) cs _ 0 l hl (fun f hf => by
     obtain ⟨fd, hfd, rfl⟩ := List.mem_map.1 hf
     obtain ⟨i, hi, hi2⟩ := List.getElem_of_mem hfd
     have hi' : i < gs.size := by simpa using hi
     refine ⟨xs[i]'(by omega), ?_⟩
     have := hel i fd (by rw [← hi2]; simp [hi'])
     rw [this]
     simp)
    refine ⟨as, h1, ?_⟩
    rw [List.drop_zero, List.take_of_length_le (by omega)] at h2
    exact h2
   ·cases h
  ·cases h
theorem SI {Ax : List (Nat × Ty)} (hX : Bj P Ax) {r : Reach} {b0 n t : Nat} {ty : Ty} {ss : List Ak} {v : Value} {d : DataW H} {p : List MemPlace} {e : Nat} (hty : look t Ax = some ty) (hke : ty.kind = .slice e) (hs : KZ Ax n t = some [.sl ss]) (hk : ss.length ≠ 0)
  (hval : Value.okWide P w r b0 t v) (h : DataW.Trod enc P w base spare held t v d p) :
  ∃ (as : List A) (m : Nat), Qy (.sl ss) (.l as) ∧ as.length = m * ss.length ∧ m ≤ maxLen ∧ Hu w.cell? (.lst ss) v [.l as, .i m] := by
 obtain ⟨fuel, hx⟩ := h
 obtain ⟨as, h1, h2⟩ := Fq hX n t _ hs fuel _ _ hx
 obtain ⟨dd, hd, hkd⟩ := (hX t ty hty).kind
 have hnot : ∀ cs, v ≠ .agg cs := by
  rintro cs rfl
  rw [hke] at hkd
  cases dd <;> simp [TK.okB] at hkd
  simp [Value.okWide, hd, Cell.okWide, Cell.ok] at hval
 have hv : v.cells = #[v] := by cases v <;> first | rfl | exact absurd rfl (hnot _)
 rw [hv] at h2
 match as, h1, h2 with
 | [a], h1, h2 =>
  have h3 := h1.1
  have h4 := h2.1
  cases h3 with
  | sl q1 q2 q3 =>
   rename_i as m
   obtain ⟨as', m', c, b, r1, r2, r3, r4⟩ := h4.slice
   injection r1 with r1
   subst r1
   have : m' = m := Nat.eq_of_mul_eq_mul_right (by omega) (r3.symm.trans q1)
   subst this
   exact ⟨as, m', .sl q1 q2 q3, q1, q2, .l as, .i m', b, m', c, rfl, rfl, r2, by omega, h4⟩
 | [], h1, _ => exact h1.elim
 | _ :: _ :: _, h1, _ => exact h1.2.elim
end
end Rx
