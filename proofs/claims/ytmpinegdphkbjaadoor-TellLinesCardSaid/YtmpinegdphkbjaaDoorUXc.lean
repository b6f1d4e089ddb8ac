import Derived.Test.YtmpinegdphkbjaaDoorUXb
import Derived.OpenShut
import Derived.Deep.Slices
import Derived.KernelRfl
set_option linter.unusedVariables false
set_option linter.unusedSimpArgs false
namespace Rx
open Go Go.RowKit
section
variable {T : Nat → List A → Bool × List A} {e : Nat → A} {n n' : Nat} {loc loc' : Loc} {P : Program} {X : Ctx} {w0 : W0}
variable {fr : List SV} {rows : List Row} {gs : List (L × Bool)} {pc : L} {o : Oper} {g : G} {inl : Inline}
structure XOK (P : Program) (T : Nat → List A → Bool × List A) (X : Ctx) : Prop where
 AD : Bz P X.AD
 eqs : Qw P X.eqs
 ctr : HI P T X.ctr
 fns : Oj P X.fns
 mixed : P.follows .mixedOrders = true
 big : NJ P T X.big
 muts : Pz P T X.muts := by exact PA
theorem TU (hX : XOK P T X) (hI : Gb P T e w0 inl) (o : Oper) : AZ P T e w0 fr rows gs pc o g (execOp X inl fr rows gs pc o g) := by
 have none_ : execOp X inl fr rows gs pc o g = none → AZ P T e w0 fr rows gs pc o g (execOp X inl fr rows gs pc o g) := fun h => by rw [h]; trivial
 cases h : o.op with
 | move x => exact Qv (.inl h)
 | assign x => exact Qv (.inr h)
 | pick c a b => exact Tm h
 | alloc t => exact Sl hX.AD h
 | box t x => exact T9 hX.AD h
 | build t ps => exact Sk hX.AD h
 | buildSlice t n ps =>
  by_cases hn : n = 0
  ·subst hn; exact Kz hX.AD h
  ·exact LK hX.AD hn h
 | load t a => exact Tp hX.AD h
 | store t a x => exact Sn hX.AD h
 | nilCheck x => exact Od h
 | binOp op t x y yt => exact Sg hX.AD hX.eqs h
 | unOp op t x => exact Tn h
 | convert s d x => exact Pw hX.AD h
 | makeFunc f a b =>
  cases f with
  | func f => exact Og h
  | _ => exact none_ (by simp [execOp, h])
 | makeSlice t x y => exact NC hX.AD h
 | panic x => exact Si h
 | makeInterface t x => exact IX hX.AD h
 | slice t x lo hi mx =>
  cases mx with
  | none => exact Sq hX.AD h
  | some _ => exact none_ (by simp [execOp, h])
 | fieldAddr s x f => exact Nz hX.AD h
 | field t x f => exact Sh hX.AD h
 | indexAddr t x i => exact NA hX.AD h
 | index t x i => exact Sj hX.AD h
 | extract x i => exact Pr h
 | call c => exact Ts hX.AD hX.ctr hX.fns hI h
 | _ => exact none_ (by simp [execOp, h])
def Fy : Value → Option Bool
 | .bool b => some b
 | _ => none
theorem PC {ops : List Oper} {tm : Array Value} {j : Nat} {oj : Oper} {d : Nat} {s : SV} (h1 : ops[j]? = some oj) (h2 : oj.dst = some d) (h3 : fr[d]? = some s) (hf : Al e n loc fr tm) :
  ∃ v, s.rel e n loc v ∧ yielded ops.toArray tm j = Fy v := by
 obtain ⟨v, hv, _, hr⟩ := hf.get h3
 refine ⟨v, hr, ?_⟩
 have h1' : ops.toArray[j]? = some oj := by simpa using h1
 unfold yielded
 rw [h1']
 simp only [Option.bind_some, h2, hv]
 cases v <;> rfl
theorem BO {ops : List Oper} {tm : Array Value} {r : Option (List (L × Bool))} (h : Nh fr ops o = some r) (hf : Al e n loc fr tm) :
  match r with
  | none => Region.wanted o (yielded ops.toArray tm) = false
  | some gs => (Region.wanted o (yielded ops.toArray tm) = true ↔ Holds e gs) := by
 unfold Nh at h
 cases hg : o.guard with
 | none =>
  rw [hg] at h
  injection h with h
  subst h
  simp only [Region.wanted, hg, true_iff]
  intro x hx
  cases hx
 | some jw =>
  obtain ⟨j, want⟩ := jw
  rw [hg] at h
  simp only [Option.bind_eq_bind, Option.bind_eq_some_iff] at h
  obtain ⟨oj, hoj, d, hd, s, hs, h⟩ := h
  obtain ⟨v, hv, hy⟩ := PC hoj hd hs hf
  have hwt : Region.wanted o (yielded ops.toArray tm) = (Fy v == some want) := by
   simp only [Region.wanted, hg, hy]
  rw [hwt]
  split at h
  ·injection h with h
   subst h
   simp only [SV.rel] at hv
   subst hv
   rfl
  ·rename_i b
   injection h with h
   have := DV (x := .t b) hv
   subst this
   subst h
   simp only [L.CQ, A.AP]
   cases b <;> cases want <;> simp [Holds, Fy]
  ·rename_i x _
   injection h with h
   have := DV hv
   subst this
   subst h
   simp [Holds, Fy]
  ·rename_i gs b
   by_cases hh : Holds e gs
   ·have := DV (x := .t b) (hv.1 hh)
    subst this
    simp only [L.CQ, A.AP]
    split at h
    ·rename_i hb
     injection h with h
     subst h
     have hb : b = want := by simpa using hb
     subst hb
     simp [hh, Fy]
    ·rename_i hb
     injection h with h
     subst h
     simpa [Fy] using hb
   ·have := hv.2 hh
    subst this
    split at h
    ·injection h with h
     subst h
     simp [hh, Go.undef, Fy]
    ·injection h with h
     subst h
     rfl
  ·rename_i gs x _
   injection h with h
   subst h
   by_cases hh : Holds e gs
   ·have := DV (hv.1 hh)
    subst this
    simp only
    constructor
    ·intro h1
     exact HE (by simpa [Fy] using h1) hh
    ·intro h1
     simpa [Fy] using h1 (x, want) (by simp)
   ·have := hv.2 hh
    subst this
    constructor
    ·intro h1
     cases h1
    ·intro h1
     exact absurd (fun y hy => h1 y (List.mem_cons_of_mem _ hy)) hh
  ·cases h
theorem E6 {v v' : SV} {u : Value} (h : R2 gs v = some v') (hv : Holds e gs → v.rel e n loc u) (hu : ¬ Holds e gs → u = Go.undef) : v'.rel e n loc u := by
 unfold R2 at h
 split at h
 ·injection h with h
  subst h
  exact hv (fun x hx => by cases hx)
 ·injection h with h
  subst h
  exact ⟨hv, hu⟩
 ·cases h
theorem NK {p : L} {r r' : Row} {g g' : G} (h : Ni p r g = some (r', g')) (hg : Good T e g') :
  Good T e g ∧ (∃ ss z m, r' = By ss z m) ∧ ((p.ev e).bool = true → Ko e r r') ∧ ((p.ev e).bool = false → ∀ M, DX e M r' (.slice none 0 0)) := by
 unfold Ni at h
 split at h
 ·rename_i q hq
  split at h
  ·cases h
  ·rename_i hc
   simp only [Bool.or_eq_true, Bool.not_eq_true', beq_iff_eq, bne_iff_ne, ne_eq, not_or, Bool.not_eq_true, Bool.not_eq_false, Decidable.not_not] at hc
   obtain ⟨⟨⟨⟨c1, c2⟩, c3⟩, c4⟩, c5⟩ := hc
   simp only [Option.some.injEq, Prod.mk.injEq] at h
   obtain ⟨rfl, rfl⟩ := h
   have m1 := Cu hg
   have m2 := F2 m1.1
   refine ⟨m2.1, ⟨_, _, _, rfl⟩, fun hp => ⟨fun h => by simp [By] at h, fun _ _ => rfl, fun p' hp' => ?_, fun n loc w B s _ => ?_⟩, fun hp M => ?_⟩
   ·simp only [By, Option.some.injEq] at hp'
    subst hp'
    exact ⟨q, hq, c3.symm, c5.symm, rfl, by rw [m2.2]; simp [hp], by rw [m1.2]; simp [hp]⟩
   ·unfold Av; simp [By]
   ·exact ⟨rfl, rfl, _, [], 0, rfl, rfl, Nat.pos_of_ne_zero c4, by rw [m2.2]; simp [hp], by simp, by rw [m1.2]; simp [hp], .emp⟩
 ·cases h
theorem Ha {p : L} : ∀ {l l' : List Row} {g g' : G}, FZ p l g = some (l', g') → Good T e g' →
  Good T e g ∧ l'.length = l.length ∧ ∀ (t : Nat) x', l'[t]? = some x' → (∃ ss z m, x' = By ss z m) ∧ ((p.ev e).bool = true → ∃ x, l[t]? = some x ∧ Ko e x x') ∧ ((p.ev e).bool = false → ∀ M, DX e M x' (.slice none 0 0))
 | [], l', g, g', h, hg => by
  simp only [FZ, Option.some.injEq, Prod.mk.injEq] at h
  obtain ⟨rfl, rfl⟩ := h
  exact ⟨hg, rfl, fun t x' h => by simp at h⟩
 | r :: l, l', g, g', h, hg => by
  simp only [FZ, Option.bind_eq_bind, Option.bind_eq_some_iff, Option.some.injEq, Prod.mk.injEq] at h
  obtain ⟨⟨r', g1⟩, h1, ⟨l1, g2⟩, h2, rfl, rfl⟩ := h
  obtain ⟨k1, k2, k3⟩ := Ha h2 hg
  obtain ⟨j1, j2⟩ := NK h1 k1
  refine ⟨j1, by simp [k2], fun t x' ht => ?_⟩
  cases t with
  | zero =>
   simp only [List.getElem?_cons_zero, Option.some.injEq] at ht
   subst ht
   exact ⟨j2.1, fun hp => ⟨r, rfl, j2.2.1 hp⟩, j2.2.2⟩
  | succ t => simpa using k3 t x' (by simpa using ht)
section
variable {news : List Row} {w : World} {B : Bd} {N : Nat}
theorem Mw (hf : ∀ (t : Nat) x, news[t]? = some x → ∃ ss z m, x = By ss z m) (hR : Ad e loc (rows ++ news) w B) {k : K} {v : Value} (hk : k.rel e N loc v) : (Mj rows.length news k).rel e N loc v := by
 unfold Mj
 split
 ·rename_i r n
  split
  ·exact hk
  ·rename_i hr
   split
   ·rename_i row hrow
    split
    ·rename_i q hq
     obtain ⟨ss, z, m, rfl⟩ := hf _ _ hrow
     simp only [By, Option.some.injEq] at hq
     subst hq
     have hrow' : (rows ++ news)[r]? = some (By ss z m) := by rw [List.getElem?_append_right (by omega)]; exact hrow
     obtain ⟨as, m', _, _, l3, _, l5⟩ := (hR.lst r _ _ hrow' rfl).2
     rw [if_neg (by simp)] at l5
     obtain ⟨⟨a, c, g1, _⟩, _⟩ := l5
     obtain ⟨h1, h2, h3⟩ := hk
     refine ⟨⟨h1.1, by rw [l3]; omega, a, c, by rw [l3]; simpa using g1⟩, h2, .inr ?_⟩
     rcases h3 with h3 | h3
     ·cases h3
     ·exact h3
    ·exact K.BL hk
   ·exact K.BL hk
 ·exact hk
theorem HK (hf : ∀ (t : Nat) x, news[t]? = some x → ∃ ss z m, x = By ss z m) (hR : Ad e loc (rows ++ news) w B) : ∀ {l : List K} {vs : List Value}, Ch e N loc l vs → Ch e N loc (l.map (Mj rows.length news)) vs
 | [], [], _ => trivial
 | _ :: _, _ :: _, h => ⟨Mw hf hR h.1, HK hf hR h.2⟩
theorem Mx (hf : ∀ (t : Nat) x, news[t]? = some x → ∃ ss z m, x = By ss z m) (hR : Ad e loc (rows ++ news) w B) {c : C} {v : Value} (hk : c.rel e N loc v) : (Ql rows.length news c).rel e N loc v := by
 cases c with
 | k x => exact Mw hf hR hk
 | clo f a b =>
  obtain ⟨va, vb, h1, h2, h3⟩ := hk
  exact ⟨va, vb, h1, HK hf hR h2, HK hf hR h3⟩
 | cfn x f h => exact hk
theorem KF (hf : ∀ (t : Nat) x, news[t]? = some x → ∃ ss z m, x = By ss z m) (hR : Ad e loc (rows ++ news) w B) : ∀ {l : List C} {vs : List Value}, Af e N loc l vs → Af e N loc (l.map (Ql rows.length news)) vs
 | [], [], _ => trivial
 | _ :: _, _ :: _, h => ⟨Mx hf hR h.1, KF hf hR h.2⟩
theorem PD (hf : ∀ (t : Nat) x, news[t]? = some x → ∃ ss z m, x = By ss z m) (hR : Ad e loc (rows ++ news) w B) {p : PV} {v : Value} (hk : p.rel e N loc v) : (R3 rows.length news p).rel e N loc v := by
 cases p with
 | one c => exact Mx hf hR hk
 | agg l => obtain ⟨vs, h1, h2⟩ := hk; exact ⟨vs, h1, KF hf hR h2⟩
end
theorem HL : ∀ {a b : List C}, Hn a b = true → a = b
 | [], [], _ => rfl
 | [], _ :: _, h => by simp [Hn] at h
 | _ :: _, [], h => by simp [Hn] at h
 | a :: l, b :: m, h => by
  simp only [Hn, Bool.and_eq_true] at h
  rw [C.Ae h.1, HL h.2]
theorem KG : ∀ {a b : Option Ff}, GF a b = true → a = b
 | none, none, _ => rfl
 | none, some _, h => by simp [GF] at h
 | some _, none, h => by simp [GF] at h
 | some ⟨a1, a2, a3, a4, a5⟩, some ⟨b1, b2, b3, b4, b5⟩, h => by
  simp only [GF, Bool.and_eq_true, beq_iff_eq] at h
  obtain ⟨⟨⟨⟨h1, h2⟩, h3⟩, h4⟩, h5⟩ := h
  rw [h1, h2, BB h3, L.Ae h4, L.Ae h5]
theorem Eh : ∀ {a b : List Row}, C9 a b = true → a = b
 | [], [], _ => rfl
 | [], _ :: _, h => by simp [C9] at h
 | _ :: _, [], h => by simp [C9] at h
 | ⟨a1, a2, a3, a4, a5⟩ :: l, ⟨b1, b2, b3, b4, b5⟩ :: m, h => by
  simp only [C9, Bool.and_eq_true, beq_iff_eq] at h
  obtain ⟨⟨⟨⟨⟨h1, h2⟩, h3⟩, h4⟩, h6⟩, h5⟩ := h
  rw [h1, h2, h3, HL h4, KG h6, Eh h5]
theorem Rb {v : SV} {rows' : List Row} {g' : G} (hl : Kh o = true) (h : execOp X inl fr rows gs pc o g = some (v, some rows', g')) : ∃ news, rows' = rows ++ news := by
 obtain ⟨dst, op', ty, pos, after, guard⟩ := o
 unfold Kh at hl
 simp only at hl
 split at hl
 ·rename_i t x
  simp only [execOp, Option.bind_eq_bind, Option.bind_eq_some_iff] at h
  obtain ⟨ty', _, p, _, h⟩ := h
  unfold RW at h
  split at h
  ·simp only [Option.bind_eq_bind, Option.bind_eq_some_iff] at h
   obtain ⟨_, _, _, _, h⟩ := h
   split at h
   ·cases h
   ·simp only [Option.bind_eq_some_iff, one, Option.some.injEq, Prod.mk.injEq] at h
    obtain ⟨_, _, _, h, _⟩ := h
    cases h
  ·simp only [Option.bind_eq_bind, Option.bind_eq_some_iff, one, Option.some.injEq, Prod.mk.injEq] at h
   obtain ⟨_, _, _, _, _, _, _, h, _⟩ := h
   cases h
  ·simp only [Option.bind_eq_bind, Option.bind_eq_some_iff] at h
   obtain ⟨_, _, _, _, h⟩ := h
   split at h
   ·cases h
   ·simp only [Option.bind_eq_some_iff] at h
    obtain ⟨⟨cs, news, g2⟩, _, vv, _, h⟩ := h
    simp only at h
    split at h
    ·simp only [one, Option.some.injEq, Prod.mk.injEq] at h
     obtain ⟨_, h, _⟩ := h
     cases h
    ·simp only [Option.some.injEq, Prod.mk.injEq] at h
     exact ⟨news, h.2.1.symm⟩
  ·cases h
 ·cases hl
theorem Ad.pad {rows : List Row} {w : World} {B : Bd} (h : Ad e loc rows w B) (R : Nat) : Ad e loc (Ap rows R) w B := by
 have split_ : ∀ (s : Nat) (y : Row), (Ap rows R)[s]? = some y → rows[s]? = some y ∨ y = Row.dead := fun s y hs => by
  unfold Ap at hs
  rw [List.getElem?_append] at hs
  split at hs
  ·exact .inl hs
  ·have := List.mem_of_getElem? hs
   rw [List.mem_replicate] at this
   exact .inr this.2
 have own_ : ∀ (s : Nat) (y : Row), (Ap rows R)[s]? = some y → (y.own = true ∨ y.lst ≠ none) → rows[s]? = some y := fun s y hs hy => by
  rcases split_ s y hs with h1 | rfl
  ·exact h1
  ·simp [Row.dead] at hy
 refine ⟨fun s y hs => ?_, fun s y q hs hq => h.lst s y q (own_ s y hs (.inr (by simp [hq]))) hq, fun s t x y hs ht ox oy => ?_, fun s t x y hs ht ox oy hne => h.apart s t x y (own_ s x hs (.inl ox)) (own_ t y ht (.inl oy)) ox oy hne⟩
 ·rcases split_ s y hs with h1 | rfl
  ·exact (h.row s y h1).ext (Ab h1) (AA.refl _ _) (by simp [Ap])
  ·exact Row.Nt
 ·obtain ⟨q, q1, q2, q3⟩ := ox
  refine h.lapart s t x y (own_ s x hs (.inr (by simp [q1]))) (own_ t y ht ?_) ⟨q, q1, q2, q3⟩ oy
  rcases oy with oy | ⟨⟨p, p1, _⟩, _⟩
  ·exact .inl oy
  ·exact .inr (by simp [p1])
theorem LU {v0 v : SV} {rows1 rows' : List Row} {g1 g' : G} (h : Nj rows rows1 gs v0 g1 = some (v, rows', g')) (hg : Good T e g') :
  Good T e g1 ∧ rows.length ≤ rows'.length ∧
  (Holds e gs → ∀ (loc : Loc) (w : World) u, v0.rel e rows1.length loc u → AY e w0 loc rows1 w → ∃ loc', AA rows.length loc loc' ∧ v.rel e rows'.length loc' u ∧ AY e w0 loc' rows' w) ∧
  (¬ Holds e gs → ∀ (loc : Loc) (w : World), AY e w0 loc rows w → ∃ loc', AA rows.length loc loc' ∧ v.rel e rows'.length loc' Go.undef ∧ AY e w0 loc' rows' w) := by
 unfold Nj at h
 split at h
 ·rename_i r m
  split at h
  ·cases h
  rename_i hc
  simp only [Bool.or_eq_true, bne_iff_ne, ne_eq, Bool.not_eq_true', not_or, Decidable.not_not, Bool.not_eq_false] at hc
  obtain ⟨⟨rfl, c2⟩, c3⟩ := hc
  have c2 := Eh c2
  split at h
  ·cases h
  rename_i row hrow
  split at h
  ·cases h
  rename_i hd
  simp only [Bool.or_eq_true, bne_iff_ne, ne_eq, Bool.not_eq_true', not_or, Decidable.not_not, Bool.not_eq_false] at hd
  obtain ⟨⟨d1, d2⟩, d3⟩ := hd
  split at h
  ·cases h
  rename_i xs hxs
  simp only [Option.some.injEq, Prod.mk.injEq] at h
  obtain ⟨rfl, rfl, rfl⟩ := h
  have q1 := Cu hg
  have q2 := F2 q1.1
  have q3 := Bk q2.1
  have q4 := Ag q3.1
  have ez := q4.2 (.l (xs.map (L.ev e))) (by simp [D.ev])
  have hrows1 : rows1 = rows ++ [row] := by
   apply List.ext_getElem?
   intro i
   by_cases hi : i < rows.length
   ·rw [List.getElem?_append_left hi]
    conv => rhs; rw [c2]
    rw [List.getElem?_take_of_lt hi]
   ·by_cases hi2 : i = rows.length
    ·subst hi2
     rw [hrow]
     simp
    ·rw [List.getElem?_eq_none (by omega), List.getElem?_eq_none (by simp; omega)]
  clear c2
  subst hrows1
  refine ⟨q4.1, by simp, fun hh loc w u hu hcl => ?_, fun hh loc w hcl => ?_⟩
  ·have hp := q3.2.2 ⟨rfl, hh⟩
   obtain ⟨B, ⟨b1, b2, b3⟩, hR, hbel⟩ := hcl
   have hown := hR.row rows.length row (by simp)
   unfold Av at hown
   rw [if_pos d1] at hown
   obtain ⟨o1, o2, o3, o4, vs, sp, o5, o6, o7⟩ := hown
   obtain ⟨_, hu⟩ := C3 hu
   have hK := hR.kill rows.length
   have hset : (rows ++ [row]).set rows.length Row.dead = rows ++ [Row.dead] := by simp
   rw [hset] at hK
   obtain ⟨x1, x2⟩ := I4 hxs o6
   have hW := hK.Oa (F := fun k => B.F k ∨ k = (loc rows.length).blk) (fun k hk => .inl hk) (fun s z hs hz hF => by
    have hs2 : s < rows.length ∧ rows[s]? = some z := by
     rw [List.getElem?_append] at hs
     split at hs
     ·exact ⟨by assumption, hs⟩
     ·rename_i hge
      have : z = Row.dead := by
       have := List.mem_of_getElem? hs
       simpa using this
      subst this
      rcases hz with hz | ⟨q, hq, _⟩
      ·simp [Row.dead] at hz
      ·simp [Row.dead] at hq
    have hs3 : (rows ++ [row])[s]? = some z := by rw [List.getElem?_append_left hs2.1]; exact hs2.2
    have hr3 : (rows ++ [row])[rows.length]? = some row := by simp
    rcases hF with hF | hF
    ·rcases hz with hz | hz
     ·have := hR.row s z hs3
      unfold Av at this
      rw [if_pos hz] at this
      exact this.2.2.1.2 hF
     ·exact (hR.N9 hs3 hz).2.2 hF
    ·rcases hz with hz | hz
     ·exact hR.apart s rows.length z row hs3 hr3 hz d1 (by omega) hF
     ·exact hR.lapart s rows.length z row hs3 hr3 hz (.inl d1) hF)
   have hvl : vs.length = m := by rw [x2, List.length_map, x1, d3]
   have hF : DX e (BZ ⟨B.n, fun k => B.F k ∨ k = (loc rows.length).blk⟩ w) (By [.int (RZ row.cells)] (Ey (AH (.t true) gs (g1.push .mkl xs).2).1 (g1.push .mkl xs).1 .e (AH (.t true) gs (g1.push .mkl xs).2).2).1
     (DO (AH (.t true) gs (g1.push .mkl xs).2).1 (.n m) (.n 0) (Ey (AH (.t true) gs (g1.push .mkl xs).2).1 (g1.push .mkl xs).1 .e (AH (.t true) gs (g1.push .mkl xs).2).2).2).1) u := by
    refine ⟨rfl, rfl, _, xs.map (L.ev e), m, rfl, rfl, Nat.one_pos, by rw [q2.2, hp]; exact ez, by rw [List.length_map, x1, d3]; exact (Nat.mul_one m).symm, by rw [q1.2, hp]; rfl, ?_⟩
    rw [hu]
    refine FU.sl (us := vs) Nat.one_pos (by rw [List.length_map, x1, d3]; exact (Nat.mul_one m).symm) (by rw [List.length_map, hvl, x1, d3]) (fun j v hj => ?_) fun j s a v h1 h2 h3 => ?_
    ·refine C2 ?_ (.inr rfl)
     simp only [World.cell?, o5, o1, Nat.zero_mul, Nat.zero_add]
     have hjl := Ab hj
     simp only [Option.isSome_none, Bool.false_eq_true, if_false]
     rw [List.getElem?_toArray, List.getElem?_append_left hjl]
     exact hj
    ·simp only [List.length_cons, List.length_nil, Nat.zero_add, Nat.mod_one, List.getElem?_cons_zero, Option.some.injEq] at h1
     subst h1
     rw [x2, List.getElem?_map] at h3
     rw [List.getElem?_map] at h2
     cases hx : xs[j]? with
     | none => rw [hx] at h2; cases h2
     | some x =>
      rw [hx] at h2 h3
      simp only [Option.map_some, Option.some.injEq] at h2 h3
      subst h2 h3
      exact FU.sc rfl
   have hlen : (rows ++ [Row.dead]).length = rows.length + 1 := by simp
   have hadd := hW.LJ (news := [By [.int (RZ row.cells)] _ _]) (vs := [u]) fun t x ht => by
    cases t with
    | zero =>
     simp only [List.getElem?_cons_zero, Option.some.injEq] at ht
     subst ht
     exact ⟨u, rfl, hF⟩
    | succ t => simp at ht
   rw [hlen] at hadd
   have hat := DK loc (rows.length + 1) [u] (t := 0) rfl
   rw [Nat.add_zero] at hat
   refine ⟨Co loc (rows.length + 1) [u], fun r hr => B5 loc (rows.length + 1) [u] r (Nat.lt_succ_of_lt hr), ⟨fun _ => ?_, fun h0 => absurd hh h0⟩, ⟨B.n, fun k => B.F k ∨ k = (loc rows.length).blk⟩, ⟨b1, ?_, ?_⟩, hadd, hbel⟩
   ·refine ⟨⟨by simp, by rw [q1.2, hp]; exact Int.natCast_nonneg _, ?_⟩, by rw [hu]; rfl, .inr ?_⟩
    ·rw [hat, Cn, q1.2, hp, hu]
     exact ⟨_, _, rfl⟩
    ·show _ = (Co loc (rows.length + 1) [u] (rows.length + 1)).v
     rw [hat, Cn]
   ·intro k hk
    rcases hk with hk | hk
    ·exact b2 k hk
    ·exact .inr (hk ▸ o3.1)
   ·refine ⟨b3.1, fun k hk => ?_⟩
    rcases hk with hk | hk
    ·exact b3.2 k hk
    ·exact hk ▸ Eb o5
  ·have hp : ((AH (.t true) gs (g1.push .mkl xs).2).1.ev e).bool = false := by
    cases hb : ((AH (.t true) gs (g1.push .mkl xs).2).1.ev e).bool
    ·rfl
    ·exact absurd (q3.2.1 hb).2 hh
   obtain ⟨B, hB, hR, hbel⟩ := hcl
   have hpd := hR.pad (rows.length + 1)
   have hpe : Ap rows (rows.length + 1) = rows ++ [Row.dead] := by
    unfold Ap
    rw [show rows.length + 1 - rows.length = 1 by omega]
    rfl
   rw [hpe] at hpd
   have hlen : (rows ++ [Row.dead]).length = rows.length + 1 := by simp
   have hadd := hpd.LJ (news := [By [.int (RZ row.cells)] (Ey (AH (.t true) gs (g1.push .mkl xs).2).1 (g1.push .mkl xs).1 .e (AH (.t true) gs (g1.push .mkl xs).2).2).1
     (DO (AH (.t true) gs (g1.push .mkl xs).2).1 (.n m) (.n 0) (Ey (AH (.t true) gs (g1.push .mkl xs).2).1 (g1.push .mkl xs).1 .e (AH (.t true) gs (g1.push .mkl xs).2).2).2).1]) (vs := [.slice none 0 0]) fun t x ht => by
    cases t with
    | zero =>
     simp only [List.getElem?_cons_zero, Option.some.injEq] at ht
     subst ht
     refine ⟨_, rfl, rfl, rfl, _, [], 0, rfl, rfl, Nat.one_pos, by rw [q2.2, hp]; rfl, rfl, by rw [q1.2, hp]; rfl, FU.emp⟩
    | succ t => simp at ht
   rw [hlen] at hadd
   exact ⟨Co loc (rows.length + 1) [.slice none 0 0], fun r hr => B5 loc (rows.length + 1) [.slice none 0 0] r (Nat.lt_succ_of_lt hr), ⟨fun h0 => absurd h0 hh, fun _ => rfl⟩, B, hB, hadd, hbel⟩
 ·cases h
theorem PE {v0 v : SV} {rows1 rows' : List Row} {g1 g' : G} (hld : Kh o = true → ∃ news, rows1 = rows ++ news) (h : Nk rows rows1 gs o v0 g1 = some (v, rows', g')) (hg : Good T e g') :
  Good T e g1 ∧ rows.length ≤ rows'.length ∧
  (Holds e gs → ∀ (loc : Loc) (w : World) u, v0.rel e rows1.length loc u → AY e w0 loc rows1 w → ∃ loc', AA rows.length loc loc' ∧ v.rel e rows'.length loc' u ∧ AY e w0 loc' rows' w) ∧
  (¬ Holds e gs → ∀ (loc : Loc) (w : World), AY e w0 loc rows w → ∃ loc', AA rows.length loc loc' ∧ v.rel e rows'.length loc' Go.undef ∧ AY e w0 loc' rows' w) := by
 unfold Nk at h
 split at h
 ·rename_i hl
  obtain ⟨news, rfl⟩ := hld hl
  split at h
  ·rename_i p
   simp only [Option.bind_eq_bind, Option.bind_eq_some_iff, Option.some.injEq, Prod.mk.injEq, List.drop_left] at h
   obtain ⟨⟨news', g2⟩, hc, rfl, rfl, rfl⟩ := h
   obtain ⟨k1, k2, k3⟩ := Ha hc hg
   have hq := Bk k1
   have hf : ∀ (t : Nat) x, news'[t]? = some x → ∃ ss z m, x = By ss z m := fun t x ht => (k3 t x ht).1
   refine ⟨hq.1, by simp, fun hh loc w u hu hcl => ?_, fun hh loc w hcl => ?_⟩
   ·have hp : ((AH (.t true) gs g1).1.ev e).bool = true := hq.2.2 ⟨rfl, hh⟩
    obtain ⟨B, hB, hR, hbel⟩ := hcl
    have hR' : Ad e loc (rows ++ news') w B := hR.Qu (by simp [k2]) fun r x' hx => by
     by_cases hr : r < rows.length
     ·rw [List.getElem?_append_left hr] at hx
      exact .inr ⟨x', by rw [List.getElem?_append_left hr]; exact hx, Ko.refl x'⟩
     ·rw [List.getElem?_append_right (by omega)] at hx
      obtain ⟨x, h1, h2⟩ := (k3 _ _ hx).2.1 hp
      exact .inr ⟨x, by rw [List.getElem?_append_right (by omega)]; exact h1, h2⟩
    have hlen : (rows ++ news').length = (rows ++ news).length := by simp [k2]
    refine ⟨loc, AA.refl _ _, ⟨fun _ => ?_, fun h0 => absurd hh h0⟩, B, hB, hR', hbel⟩
    rw [hlen]
    exact PD hf hR' hu
   ·have hp : ((AH (.t true) gs g1).1.ev e).bool = false := by
     cases hb : ((AH (.t true) gs g1).1.ev e).bool
     ·rfl
     ·exact absurd (hq.2.1 hb).2 hh
    obtain ⟨B, hB, hR, hbel⟩ := hcl
    have hadd := hR.LJ (news := news') (vs := List.replicate news'.length (.slice none 0 0)) fun t x hx => ⟨.slice none 0 0, by
     rw [List.getElem?_replicate, if_pos (Ab hx)], (k3 t x hx).2.2 hp _⟩
    exact ⟨_, B5 _ _ _, ⟨fun h0 => absurd h0 hh, fun _ => rfl⟩, B, hB, hadd, hbel⟩
  ·cases h
 ·split at h
  ·rename_i hs
   have hs := Eh hs
   subst hs
   split at h
   ·simp only [Option.some.injEq, Prod.mk.injEq] at h
    obtain ⟨rfl, rfl, rfl⟩ := h
    exact ⟨hg, Nat.le_refl _, fun hh loc w u hu hcl => ⟨loc, AA.refl _ _, ⟨fun _ => hu, fun h0 => absurd hh h0⟩, hcl⟩, fun hh loc w hcl => ⟨loc, AA.refl _ _, ⟨fun h0 => absurd h0 hh, fun _ => rfl⟩, hcl⟩⟩
   ·cases h
  ·exact LU h hg
theorem C4 (hX : XOK P T X) (hI : Gb P T e w0 inl) {ops : List Oper} : ∀ {l : List Oper} {fr : List SV} {rows : List Row} {g : G} {fr' : List SV} {rows' : List Row} {g' : G},
  Bv X inl true ops pc l fr rows g = some (fr', rows', g') → Good T e g' → Good T e g ∧ rows' = rows ∧
   ∀ (loc : Loc) (a : Act) (w1 : World) (Q : Act → Prop), (pc.ev e).bool = true → Al e rows.length loc fr a.tmps → AY e w0 loc rows w1 →
    (∀ a' : Act, Al e rows.length loc fr' a'.tmps → a'.defers = a.defers → Q a') → wpQuiet P ops.toArray (AY e w0 loc rows) Q l a
 | [], fr, rows, g, fr', rows', g', h, hg => by
  simp only [Bv, Option.some.injEq, Prod.mk.injEq] at h
  obtain ⟨rfl, rfl, rfl⟩ := h
  exact ⟨hg, rfl, fun loc a w1 Q _ hf _ hQ => hQ a hf rfl⟩
 | o :: l, fr, rows, g, fr', rows', g', h, hg => by
  simp only [Bv, Option.bind_eq_bind, Option.bind_eq_some_iff] at h
  obtain ⟨wt, hwt, h⟩ := h
  cases wt with
  | none =>
   simp only at h
   obtain ⟨h1, h2, h3⟩ := C4 hX hI h hg
   refine ⟨h1, h2, fun loc a w1 Q hpc hf hw1 hQ => ?_⟩
   have := BO hwt hf
   simp only at this
   unfold wpQuiet
   rw [if_neg (by rw [this]; simp)]
   exact h3 loc _ w1 Q hpc (hf.put (s := .undef) rfl o.dst) hw1 fun a' hf' hd => hQ a' hf' (by rw [hd]; cases o.dst <;> rfl)
  | some gs =>
   simp only [Option.bind_eq_some_iff] at h
   obtain ⟨⟨v, r, g1⟩, hop, h⟩ := h
   simp only [Option.bind_eq_some_iff] at h
   obtain ⟨v', hv', h⟩ := h
   cases r with
   | some rows1 => simp at h
   | none =>
    simp only at h
    obtain ⟨h1, h2, h3⟩ := C4 hX hI h hg
    have hok := TU (fr := fr) (rows := rows) (gs := gs) (pc := (AH pc gs g).1) (g := (AH pc gs g).2) hX hI o
    rw [hop] at hok
    obtain ⟨hg2, hq⟩ := hok h1
    have hgp := Bk hg2
    refine ⟨hgp.1, h2, fun loc a w1 Q hpc hf hw1 hQ => ?_⟩
    have hwanted := BO hwt hf
    simp only at hwanted
    unfold wpQuiet
    by_cases hh : Holds e gs
    ·rw [if_pos (hwanted.2 hh)]
     obtain ⟨u, hu, hdo⟩ := hq loc a w1 (hgp.2.2 ⟨hpc, hh⟩) hh hf hw1
     exact ⟨u, fun w hw => (hdo w hw).quietAt, h3 loc _ w1 Q hpc (hf.put (E6 hv' (fun _ => hu) (fun h0 => absurd hh h0)) o.dst) hw1 fun a' hf' hd => hQ a' hf' (by rw [hd]; cases o.dst <;> rfl)⟩
    ·rw [if_neg (fun h0 => hh (hwanted.1 h0))]
     exact h3 loc _ w1 Q hpc (hf.put (E6 hv' (fun h0 => absurd h0 hh) (fun _ => rfl)) o.dst) hw1 fun a' hf' hd => hQ a' hf' (by rw [hd]; cases o.dst <;> rfl)
theorem Bn (hX : XOK P T X) (hI : Gb P T e w0 inl) {ops : List Oper} : ∀ {l : List Oper} {fr : List SV} {rows : List Row} {g : G} {fr' : List SV} {rows' : List Row} {g' : G},
  Bv X inl false ops pc l fr rows g = some (fr', rows', g') → Good T e g' → Good T e g ∧
   ∀ (loc : Loc) (a : Act) (w : World) (Q : Exit → Act → World → Prop), (pc.ev e).bool = true → Al e rows.length loc fr a.tmps → AY e w0 loc rows w →
    (∀ (loc' : Loc) (a' : Act) (w' : World), AA rows.length loc loc' → rows.length ≤ rows'.length → Al e rows'.length loc' fr' a'.tmps → a'.defers = a.defers → AY e w0 loc' rows' w' → Q .normal a' w') →
     wpList P ops.toArray Q l a w
 | [], fr, rows, g, fr', rows', g', h, hg => by
  simp only [Bv, Option.some.injEq, Prod.mk.injEq] at h
  obtain ⟨rfl, rfl, rfl⟩ := h
  exact ⟨hg, fun loc a w Q _ hf hw hQ => hQ loc a w (AA.refl _ _) (Nat.le_refl _) hf rfl hw⟩
 | o :: l, fr, rows, g, fr', rows', g', h, hg => by
  simp only [Bv, Option.bind_eq_bind, Option.bind_eq_some_iff] at h
  obtain ⟨wt, hwt, h⟩ := h
  cases wt with
  | none =>
   simp only at h
   obtain ⟨h1, h3⟩ := Bn hX hI h hg
   refine ⟨h1, fun loc a w Q hpc hf hw hQ => ?_⟩
   have := BO hwt hf
   simp only at this
   unfold wpList
   rw [if_neg (by rw [this]; simp)]
   exact h3 loc _ w Q hpc (hf.put (s := .undef) rfl o.dst) hw fun loc' a' w' hx hl hf' hd hw' => hQ loc' a' w' hx hl hf' (by rw [hd]; cases o.dst <;> rfl) hw'
  | some gs =>
   simp only [Option.bind_eq_some_iff] at h
   obtain ⟨⟨v, r, g1⟩, hop, h⟩ := h
   simp only [Option.bind_eq_some_iff] at h
   obtain ⟨v', hv', h⟩ := h
   have hok := TU (fr := fr) (rows := rows) (gs := gs) (pc := (AH pc gs g).1) (g := (AH pc gs g).2) hX hI o
   rw [hop] at hok
   cases r with
   | none =>
    simp only at h
    obtain ⟨h1, h3⟩ := Bn hX hI h hg
    obtain ⟨hg2, hq⟩ := hok h1
    have hgp := Bk hg2
    refine ⟨hgp.1, fun loc a w Q hpc hf hw hQ => ?_⟩
    have hwanted := BO hwt hf
    simp only at hwanted
    unfold wpList
    by_cases hh : Holds e gs
    ·rw [if_pos (hwanted.2 hh)]
     obtain ⟨u, hu, hdo⟩ := hq loc a w (hgp.2.2 ⟨hpc, hh⟩) hh hf hw
     refine .inl (((hdo w hw).Vl (R := fun u' w' => u' = u ∧ AY e w0 loc rows w') hw fun w' hw' => ⟨rfl, hw'⟩).wp ?_)
     rintro u' w' ⟨rfl, hw'⟩
     exact h3 loc _ w' Q hpc (hf.put (E6 hv' (fun _ => hu) (fun h0 => absurd hh h0)) o.dst) hw' fun loc' a' w' hx hl hf' hd hw' => hQ loc' a' w' hx hl hf' (by rw [hd]; cases o.dst <;> rfl) hw'
    ·rw [if_neg (fun h0 => hh (hwanted.1 h0))]
     exact h3 loc _ w Q hpc (hf.put (E6 hv' (fun h0 => absurd h0 hh) (fun _ => rfl)) o.dst) hw fun loc' a' w' hx hl hf' hd hw' => hQ loc' a' w' hx hl hf' (by rw [hd]; cases o.dst <;> rfl) hw'
   | some rows1 =>
    simp only [Bool.false_eq_true, if_false] at h
    split at h
    ·rename_i hge
     have hgs : gs = [] := by simpa using hge
     subst hgs
     have hhold : Holds e ([] : List (L × Bool)) := fun x hx => by cases hx
     obtain ⟨h1, h3⟩ := Bn hX hI h hg
     obtain ⟨hg2, hq⟩ := hok h1
     have hgp := Bk hg2
     refine ⟨hgp.1, fun loc a w Q hpc hf hw hQ => ?_⟩
     have hwanted := BO hwt hf
     simp only at hwanted
     unfold wpList
     rw [if_pos (hwanted.2 hhold)]
     refine .inl ((hq loc a w (hgp.2.2 ⟨hpc, hhold⟩) hhold hf hw).wp ?_)
     rintro u w' ⟨loc1, hx1, hl1, hu, hw1⟩
     have hv2 : v'.rel e rows1.length loc1 u := E6 hv' (fun _ => hu) (fun h0 => absurd hhold h0)
     exact h3 loc1 _ w' Q hpc ((hf.ext hx1 hl1).put hv2 o.dst) hw1 fun loc' a' w' hx hl hf' hd hw' => hQ loc' a' w' (hx1.trans hx hl1) (Nat.le_trans hl1 hl) hf' (by rw [hd]; cases o.dst <;> rfl) hw'
    ·simp only [Option.bind_eq_some_iff] at h
     obtain ⟨⟨v2, rows2, g2⟩, hcalm, h⟩ := h
     simp only at h
     obtain ⟨h1, h3⟩ := Bn hX hI h hg
     have hld : Kh o = true → ∃ news, rows1 = rows ++ news := fun hl => Rb hl hop
     obtain ⟨c1, c2, c3, c4⟩ := PE (w0 := w0) hld hcalm h1
     obtain ⟨hg2, hq⟩ := hok c1
     have hgp := Bk hg2
     refine ⟨hgp.1, fun loc a w Q hpc hf hw hQ => ?_⟩
     have hwanted := BO hwt hf
     simp only at hwanted
     unfold wpList
     by_cases hh : Holds e gs
     ·rw [if_pos (hwanted.2 hh)]
      refine .inl ((hq loc a w (hgp.2.2 ⟨hpc, hh⟩) hh hf hw).wp ?_)
      rintro u w' ⟨loc1, hx1, hl1, hu, hw1⟩
      obtain ⟨loc2, hx2, d3, d4⟩ := c3 hh loc1 w' u hu hw1
      have hx3 := hx1.trans hx2 (Nat.le_refl _)
      exact h3 loc2 _ w' Q hpc ((hf.ext hx3 c2).put d3 o.dst) d4 fun loc' a' w' hx hl hf' hd hw' => hQ loc' a' w' (hx3.trans hx c2) (Nat.le_trans c2 hl) hf' (by rw [hd]; cases o.dst <;> rfl) hw'
     ·rw [if_neg (fun h0 => hh (hwanted.1 h0))]
      obtain ⟨loc1, hx1, d3, d4⟩ := c4 hh loc w hw
      exact h3 loc1 _ w Q hpc ((hf.ext hx1 c2).put d3 o.dst) d4 fun loc' a' w' hx hl hf' hd hw' => hQ loc' a' w' (hx1.trans hx c2) (Nat.le_trans c2 hl) hf' (by rw [hd]; cases o.dst <;> rfl) hw'
end
end Rx
namespace Rx
open Go Go.RowKit
theorem DD : ∀ {a b : List FJ}, Ct a b = true → a = b
 | [], [], _ => rfl
 | [], _ :: _, h => by simp [Ct] at h
 | _ :: _, [], h => by simp [Ct] at h
 | ⟨a1, a2, a3⟩ :: l, ⟨b1, b2, b3⟩ :: m, h => by
  simp only [Ct, Bool.and_eq_true] at h
  obtain ⟨⟨⟨h1, h2⟩, h3⟩, h4⟩ := h
  rw [D.Ae h1, L.CG h2, L.CG h3, DD h4]
theorem Ei : ∀ {a b : List Def}, Da a b = true → a = b
 | [], [], _ => rfl
 | [], _ :: _, h => by simp [Da] at h
 | _ :: _, [], h => by simp [Da] at h
 | ⟨a1, a2, a3⟩ :: l, ⟨b1, b2, b3⟩ :: m, h => by
  simp only [Da, Bool.and_eq_true, beq_iff_eq, D.same, decide_eq_true_eq] at h
  obtain ⟨⟨⟨h1, h2⟩, h3⟩, h4⟩ := h
  rw [h1, h2, L.CG h3, Ei h4]
theorem PV.Ae {a b : PV} (h : a.same b = true) : a = b := by
 cases a <;> cases b <;> simp [PV.same] at h
 ·rw [C.Ae h]
 ·rw [HL h]
theorem KH : ∀ {a b : List PV}, GG a b = true → a = b
 | [], [], _ => rfl
 | [], _ :: _, h => by simp [GG] at h
 | _ :: _, [], h => by simp [GG] at h
 | a :: l, b :: m, h => by
  simp only [GG, Bool.and_eq_true] at h
  rw [PV.Ae h.1, KH h.2]
theorem I5 : ∀ {a b : List (L × Bool)}, Hu a b = true → a = b
 | [], [], _ => rfl
 | [], _ :: _, h => by simp [Hu] at h
 | _ :: _, [], h => by simp [Hu] at h
 | (a, a') :: l, (b, b') :: m, h => by
  simp only [Hu, Bool.and_eq_true, beq_iff_eq] at h
  rw [L.Ae h.1.1, h.1.2, I5 h.2]
theorem SV.Ae {a b : SV} (h : a.same b = true) : a = b := by
 cases a <;> cases b <;> simp [SV.same] at h
 ·rw [PV.Ae h]
 ·rw [KH h]
 ·rw [I5 h.1, PV.Ae h.2]
 ·rfl
 ·rfl
theorem KI : ∀ {a b : List SV}, GH a b = true → a = b
 | [], [], _ => rfl
 | [], _ :: _, h => by simp [GH] at h
 | _ :: _, [], h => by simp [GH] at h
 | a :: l, b :: m, h => by
  simp only [GH, Bool.and_eq_true] at h
  rw [SV.Ae h.1, KI h.2]
theorem Fz : ∀ {a b : List Bool}, DI a b = true → a = b
 | [], [], _ => rfl
 | [], _ :: _, h => by simp [DI] at h
 | _ :: _, [], h => by simp [DI] at h
 | a :: l, b :: m, h => by
  simp only [DI, Bool.and_eq_true, beq_iff_eq] at h
  rw [h.1, Fz h.2]
theorem Nd.Ae {a b : Nd} (hl : a.listed = b.listed) (h : a.same b = true) : a = b := by
 obtain ⟨a1, a2, a3, a4, a5, a6, a7⟩ := a
 obtain ⟨b1, b2, b3, b4, b5, b6, b7⟩ := b
 simp only [Nd.same, Bool.and_eq_true, beq_iff_eq] at h
 obtain ⟨⟨⟨⟨⟨h1, h2⟩, h3⟩, h4⟩, h5⟩, h6⟩ := h
 simp only at hl
 rw [hl, KI h1, Eh h2, h3, Ei h4, L.CG h5, DD h6]
end Rx
namespace Rx
open Go Go.RowKit
section
variable {T : Nat → List A → Bool × List A} {e e1 : Nat → A} {n : Nat} {loc : Loc} {P : Program} {X : Ctx} {w0 : W0} {σ : Nat → L}
theorem GS (h : ∀ i, e1 i = (σ i).ev e) (x : L) : (B9 σ x).ev e = x.ev e1 := by
 cases x <;> simp [B9, L.ev, h]
theorem Ov (h : ∀ i, e1 i = (σ i).ev e) {k : K} {v : Value} : (Q5 σ k).rel e n loc v ↔ k.rel e1 n loc v := by
 cases k <;> simp [Q5, K.rel, K.ok, K.A0, GS h]
theorem My (h : ∀ i, e1 i = (σ i).ev e) : ∀ {l : List K} {vs : List Value}, Ch e n loc (l.map (Q5 σ)) vs ↔ Ch e1 n loc l vs
 | [], [] => by simp [Ch]
 | [], _ :: _ => by simp [Ch]
 | _ :: _, [] => by simp [Ch]
 | _ :: _, _ :: _ => by simp [Ch, Ov h, My h]
theorem Ig (h : ∀ i, e1 i = (σ i).ev e) {c : C} {v : Value} : (Pg σ c).rel e n loc v ↔ c.rel e1 n loc v := by
 cases c with
 | k x => exact Ov h
 | clo f a b => simp [Pg, C.rel, My h]
 | cfn x f g => simp [Pg, C.rel, GS h]
theorem I6 (h : ∀ i, e1 i = (σ i).ev e) : ∀ {l : List C} {vs : List Value}, Af e n loc (l.map (Pg σ)) vs ↔ Af e1 n loc l vs
 | [], [] => by simp [Af]
 | [], _ :: _ => by simp [Af]
 | _ :: _, [] => by simp [Af]
 | _ :: _, _ :: _ => by simp [Af, Ig h, I6 h]
theorem I7 (h : ∀ i, e1 i = (σ i).ev e) {p : PV} {v : Value} : (Mk σ p).rel e n loc v ↔ p.rel e1 n loc v := by
 cases p with
 | one c => exact Ig h
 | agg l => simp [Mk, PV.rel, I6 h]
theorem KJ (h : ∀ i, e1 i = (σ i).ev e) : ∀ {l : List PV} {vs : List Value}, Am e n loc (l.map (Mk σ)) vs ↔ Am e1 n loc l vs
 | [], [] => by simp [Am]
 | [], _ :: _ => by simp [Am]
 | _ :: _, [] => by simp [Am]
 | _ :: _, _ :: _ => by simp [Am, I7 h, KJ h]
theorem Mz (h : ∀ i, e1 i = (σ i).ev e) {s : SV} {v : Value} : (Kk σ s).rel e n loc v ↔ s.rel e1 n loc v := by
 cases s with
 | pv p => exact I7 h
 | tup l => simp [Kk, SV.rel, KJ h]
 | cond gs p =>
  have : Holds e (gs.map fun x => (B9 σ x.1, x.2)) ↔ Holds e1 gs := by
   unfold Holds
   constructor
   ·intro hh x hx
    have := hh (B9 σ x.1, x.2) (List.mem_map.2 ⟨x, hx, rfl⟩)
    simpa [GS h] using this
   ·intro hh x hx
    obtain ⟨y, hy, rfl⟩ := List.mem_map.1 hx
    simpa [GS h] using hh y hy
  simp [Kk, SV.rel, I7 h, this]
 | undef => simp [Kk, SV.rel]
 | junk => simp [Kk, SV.rel]
theorem E7 (h : ∀ i, e1 i = (σ i).ev e) {fr : List SV} {tm : Array Value} : Al e n loc (fr.map (Kk σ)) tm ↔ Al e1 n loc fr tm := by
 constructor
 ·intro hh
  refine ⟨by simpa using hh.len, fun i s v hs hv => (Mz h).1 (hh.at_ i _ v (by rw [List.getElem?_map, hs]; rfl) hv)⟩
 ·intro hh
  refine ⟨by simpa using hh.len, fun i s v hs hv => ?_⟩
  rw [List.getElem?_map] at hs
  cases ht : fr[i]? with
  | none => rw [ht] at hs; cases hs
  | some t =>
   rw [ht] at hs
   simp only [Option.map_some, Option.some.injEq] at hs
   subst hs
   exact (Mz h).2 (hh.at_ i t v ht hv)
theorem MA (h : ∀ i, e1 i = (σ i).ev e) {w : World} {B : Bd} {r : Nat} {x : Row} : Av e n loc w B r (DS σ x) ↔ Av e1 n loc w B r x := by
 unfold Av
 simp only [DS, I6 h, List.map_eq_nil_iff, ne_eq, List.getElem?_map, Option.map_eq_some_iff]
 constructor
 ·intro hh
  split
  ·rename_i ho; rw [if_pos ho] at hh; exact hh
  ·rename_i ho
   rw [if_neg ho] at hh
   intro hc
   obtain ⟨h1, h2, h3⟩ := hh hc
   refine ⟨h1, h2, fun j c hj => ?_⟩
   obtain ⟨v, hv, hr⟩ := h3 j _ ⟨c, hj, rfl⟩
   exact ⟨v, hv, (Ig h).1 hr⟩
 ·intro hh
  split
  ·rename_i ho; rw [if_pos ho] at hh; exact hh
  ·rename_i ho
   rw [if_neg ho] at hh
   intro hc
   obtain ⟨h1, h2, h3⟩ := hh hc
   refine ⟨h1, h2, fun j c hj => ?_⟩
   obtain ⟨c', hc', rfl⟩ := hj
   obtain ⟨v, hv, hr⟩ := h3 j _ hc'
   exact ⟨v, hv, (Ig h).2 hr⟩
theorem MB (h : ∀ i, e1 i = (σ i).ev e) {w : World} {B : Bd} {r : Nat} {q : Ff} : Bb e loc w B r { q with x := B9 σ q.x, n := B9 σ q.n } ↔ Bb e1 loc w B r q := by
 unfold Bb
 simp only [GS h]
theorem DZ (h : ∀ i, e1 i = (σ i).ev e) {w : World} {B : Bd} {rows : List Row} : Ad e loc (rows.map (DS σ)) w B ↔ Ad e1 loc rows w B := by
 have at_ : ∀ (r : Nat) (y : Row), (rows.map (DS σ))[r]? = some y ↔ ∃ x, rows[r]? = some x ∧ DS σ x = y := fun r y => by
  rw [List.getElem?_map, Option.map_eq_some_iff]
 have lo : ∀ (r : Nat) (x : Row), Bq loc r (DS σ x) ↔ Bq loc r x := fun r x => by
  unfold Bq
  simp only [DS, Option.map_eq_some_iff]
  constructor
  ·rintro ⟨q, ⟨q0, h1, rfl⟩, h2, h3⟩
   exact ⟨q0, h1, h2, h3⟩
  ·rintro ⟨q, h1, h2, h3⟩
   exact ⟨_, ⟨q, h1, rfl⟩, h2, h3⟩
 constructor
 ·intro hh
  refine ⟨fun r x hr => ?_, fun r x q hr hq => ?_, fun r s x y hr hs ox oy => ?_, fun r s x y hr hs ox oy hne => ?_⟩
  ·have := hh.row r _ ((at_ r _).2 ⟨x, hr, rfl⟩)
   rw [List.length_map] at this
   exact (MA h).1 this
  ·have := hh.lst r _ _ ((at_ r _).2 ⟨x, hr, rfl⟩) (show (DS σ x).lst = some { q with x := B9 σ q.x, n := B9 σ q.n } by simp [DS, hq])
   exact ⟨this.1, (MB h).1 this.2⟩
  ·refine hh.lapart r s _ _ ((at_ r _).2 ⟨x, hr, rfl⟩) ((at_ s _).2 ⟨y, hs, rfl⟩) ((lo r x).2 ox) ?_
   rcases oy with oy | ⟨oy, hne⟩
   ·exact .inl oy
   ·exact .inr ⟨(lo s y).2 oy, hne⟩
  ·exact hh.apart r s _ _ ((at_ r _).2 ⟨x, hr, rfl⟩) ((at_ s _).2 ⟨y, hs, rfl⟩) ox oy hne
 ·intro hh
  refine ⟨fun r x' hr => ?_, fun r x' q hr hq => ?_, fun r s x' y' hr hs ox oy => ?_, fun r s x' y' hr hs ox oy hne => ?_⟩
  ·obtain ⟨x, hx, rfl⟩ := (at_ r _).1 hr
   rw [List.length_map]
   exact (MA h).2 (hh.row r x hx)
  ·obtain ⟨x, hx, rfl⟩ := (at_ r _).1 hr
   simp only [DS, Option.map_eq_some_iff] at hq
   obtain ⟨q0, h1, rfl⟩ := hq
   have := hh.lst r x q0 hx h1
   exact ⟨this.1, (MB h).2 this.2⟩
  ·obtain ⟨x, hx, rfl⟩ := (at_ r _).1 hr
   obtain ⟨y, hy, rfl⟩ := (at_ s _).1 hs
   refine hh.lapart r s x y hx hy ((lo r x).1 ox) ?_
   rcases oy with oy | ⟨oy, hne⟩
   ·exact .inl oy
   ·exact .inr ⟨(lo s y).1 oy, hne⟩
  ·obtain ⟨x, hx, rfl⟩ := (at_ r _).1 hr
   obtain ⟨y, hy, rfl⟩ := (at_ s _).1 hs
   exact hh.apart r s x y hx hy ox oy hne
def KK : Lc := ⟨0, 0, 0, 0, .slice none 0 0, true⟩
def D0 (loc : Loc) (ρ : Nat → Option Nat) : Loc := fun r => match ρ r with | some r' => loc r' | none => KK
theorem Ih {α : Type} {f : α → α → Bool} : ∀ {l m : List α}, Cg f l m = true → l.length = m.length ∧ ∀ (i : Nat) a, l[i]? = some a → ∃ b, m[i]? = some b ∧ f a b = true
 | [], [], _ => ⟨rfl, fun i a h => by simp at h⟩
 | [], _ :: _, h => by simp [Cg] at h
 | _ :: _, [], h => by simp [Cg] at h
 | a :: l, b :: m, h => by
  simp only [Cg, Bool.and_eq_true] at h
  obtain ⟨h1, h2⟩ := Ih h.2
  refine ⟨by simp [h1], fun i x hx => ?_⟩
  cases i with
  | zero => simp at hx; subst hx; exact ⟨b, rfl, h.1⟩
  | succ i => simpa using h2 i x (by simpa using hx)
variable {ρ : Nat → Option Nat} {N : Nat}
theorem A7 {r r' : Nat} (h : ρ r = some r') : D0 loc ρ r = loc r' := by simp [D0, h]
theorem GU {r : Nat} (h : ρ r = none) : D0 loc ρ r = KK := by simp [D0, h]
theorem QE {M : Nat} {t k : K} {v : Value} (h : Uz M ρ t k = true) (hk : k.rel e N loc v) : t.rel e M (D0 loc ρ) v := by
 unfold Uz at h
 split at h
 ·exact ⟨trivial, hk.2.1, .inl rfl⟩
 ·simp only [Bool.and_eq_true] at h
  rw [A3 h.1, L.Ae h.2]; exact ⟨trivial, hk.2.1, .inr (hk.2.2.resolve_left (by simp))⟩
 ·rw [L.Ae h]; exact ⟨trivial, hk.2.1, .inr (hk.2.2.resolve_left (by simp))⟩
 ·rw [L.Ae h]; exact ⟨trivial, hk.2.1, .inr (hk.2.2.resolve_left (by simp))⟩
 ·rw [L.Ae h]; exact ⟨trivial, hk.2.1, .inr (hk.2.2.resolve_left (by simp))⟩
 ·simp only [Bool.and_eq_true, decide_eq_true_eq, beq_iff_eq] at h
  obtain ⟨⟨h0, h1⟩, h2⟩ := h
  subst h2
  obtain ⟨a1, a2, a3⟩ := hk
  refine ⟨h0, a2, .inr ?_⟩
  rcases a3 with a3 | a3
  ·cases a3
  ·rw [a3]; simp only [K.A0]; rw [A7 h1]
 ·simp only [Bool.and_eq_true, decide_eq_true_eq, beq_iff_eq] at h
  obtain ⟨⟨⟨⟨⟨h0, h1⟩, h2⟩, h3⟩, h4⟩, h5⟩ := h
  have h5 := L.Ae h5
  subst h2 h3 h4 h5
  obtain ⟨a1, a2, a3⟩ := hk
  refine ⟨⟨h0, a1.2⟩, a2, .inr ?_⟩
  rcases a3 with a3 | a3
  ·cases a3
  ·rw [a3]; simp only [K.A0]; rw [A7 h1]
 ·simp only [Bool.and_eq_true, decide_eq_true_eq, beq_iff_eq] at h
  obtain ⟨⟨⟨h0, h1⟩, h2⟩, h3⟩ := h
  subst h2 h3
  obtain ⟨a1, a2, a3⟩ := hk
  refine ⟨h0, a2, .inr ?_⟩
  rcases a3 with a3 | a3
  ·cases a3
  ·rw [a3]; simp only [K.A0]; rw [A7 h1]
 ·simp only [Bool.and_eq_true, decide_eq_true_eq, beq_iff_eq] at h
  obtain ⟨⟨⟨⟨⟨h0, h1⟩, h2⟩, h3⟩, h4⟩, h5⟩ := h
  subst h2 h3 h4 h5
  obtain ⟨a1, a2, a3⟩ := hk
  refine ⟨h0, a2, .inr ?_⟩
  rcases a3 with a3 | a3
  ·cases a3
  ·rw [a3]; simp only [K.A0]; rw [A7 h1]
 ·simp only [Bool.and_eq_true, decide_eq_true_eq] at h
  obtain ⟨⟨h0, h1⟩, h2⟩ := h
  have h2 := L.Ae h2
  subst h2
  obtain ⟨a1, a2, a3⟩ := hk
  refine ⟨⟨h0, a1.2.1, by rw [A7 h1]; exact a1.2.2⟩, a2, .inr ?_⟩
  rcases a3 with a3 | a3
  ·cases a3
  ·rw [a3]; simp only [K.A0]; rw [A7 h1]
 ·simp only [Bool.and_eq_true, decide_eq_true_eq] at h
  obtain ⟨⟨h0, h1⟩, h2⟩ := h
  have h2 := L.Ae h2
  subst h2
  obtain ⟨a1, a2, a3⟩ := hk
  refine ⟨⟨h0, by simp, fun _ => ⟨by rw [GU h1]; rfl, by simp⟩⟩, a2, .inr ?_⟩
  rcases a3 with a3 | a3
  ·cases a3
  ·rw [a3]; simp only [K.A0]; rw [GU h1]; rfl
 ·simp only [Bool.and_eq_true, decide_eq_true_eq] at h
  obtain ⟨⟨h0, h1⟩, h2⟩ := h
  have h2 := L.Ae h2
  subst h2
  obtain ⟨a1, a2, a3⟩ := hk
  refine ⟨⟨h0, a1.2.1, by rw [A7 h1]; exact a1.2.2⟩, a2, .inr ?_⟩
  rcases a3 with a3 | a3
  ·cases a3
  ·rw [a3]; simp only [K.A0]; rw [A7 h1]
 ·simp only [Bool.and_eq_true, decide_eq_true_eq, beq_iff_eq] at h
  obtain ⟨⟨⟨⟨⟨h0, h1⟩, h2⟩, h3⟩, h4⟩, h5⟩ := h
  have h4 := L.Ae h4
  have h5 := L.Ae h5
  subst h2 h3 h4 h5
  obtain ⟨a1, a2, a3⟩ := hk
  refine ⟨⟨h0, a1.2⟩, a2, .inr ?_⟩
  rcases a3 with a3 | a3
  ·cases a3
  ·rw [a3]; simp only [K.A0]; rw [A7 h1]
 ·exact ⟨trivial, hk.2.1, .inr (hk.2.2.resolve_left (by simp))⟩
 ·exact ⟨trivial, hk.2.1, .inr (hk.2.2.resolve_left (by simp))⟩
 ·exact ⟨trivial, hk.2.1, .inr (hk.2.2.resolve_left (by simp))⟩
 ·cases h
theorem KL {M : Nat} : ∀ {t k : List K} {vs : List Value}, Cg (Uz M ρ) t k = true → Ch e N loc k vs → Ch e M (D0 loc ρ) t vs
 | [], [], [], _, _ => trivial
 | _ :: _, _ :: _, _ :: _, h, hk => by
  simp only [Cg, Bool.and_eq_true] at h
  exact ⟨QE h.1 hk.1, KL h.2 hk.2⟩
 | [], _ :: _, _, h, _ => by simp [Cg] at h
 | _ :: _, [], _, h, _ => by simp [Cg] at h
 | [], [], _ :: _, _, hk => hk.elim
 | _ :: _, _ :: _, [], _, hk => hk.elim
theorem NL {M : Nat} {t k : C} {v : Value} (h : T2 M ρ t k = true) (hk : k.rel e N loc v) : t.rel e M (D0 loc ρ) v := by
 unfold T2 at h
 split at h
 ·exact ⟨trivial, C.J2 hk, .inl rfl⟩
 ·exact QE h hk
 ·simp only [Bool.and_eq_true, beq_iff_eq] at h
  obtain ⟨⟨h1, h2⟩, h3⟩ := h
  obtain ⟨va, vb, a1, a2, a3⟩ := hk
  exact ⟨va, vb, by rw [h1]; exact a1, KL h2 a2, KL h3 a3⟩
 ·cases h
theorem KM {M : Nat} : ∀ {t k : List C} {vs : List Value}, Cg (T2 M ρ) t k = true → Af e N loc k vs → Af e M (D0 loc ρ) t vs
 | [], [], [], _, _ => trivial
 | _ :: _, _ :: _, _ :: _, h, hk => by
  simp only [Cg, Bool.and_eq_true] at h
  exact ⟨NL h.1 hk.1, KM h.2 hk.2⟩
 | [], _ :: _, _, h, _ => by simp [Cg] at h
 | _ :: _, [], _, h, _ => by simp [Cg] at h
 | [], [], _ :: _, _, hk => hk.elim
 | _ :: _, _ :: _, [], _, hk => hk.elim
theorem KN {M : Nat} {t k : PV} {v : Value} (h : Q3 M ρ t k = true) (hk : k.rel e N loc v) : t.rel e M (D0 loc ρ) v := by
 unfold Q3 at h
 split at h
 ·exact NL h hk
 ·obtain ⟨vs, h1, h2⟩ := hk
  exact ⟨vs, h1, KM h h2⟩
 ·cases h
theorem MC {M : Nat} : ∀ {t k : List PV} {vs : List Value}, Cg (Q3 M ρ) t k = true → Am e N loc k vs → Am e M (D0 loc ρ) t vs
 | [], [], [], _, _ => trivial
 | _ :: _, _ :: _, _ :: _, h, hk => by
  simp only [Cg, Bool.and_eq_true] at h
  exact ⟨KN h.1 hk.1, MC h.2 hk.2⟩
 | [], _ :: _, _, h, _ => by simp [Cg] at h
 | _ :: _, [], _, h, _ => by simp [Cg] at h
 | [], [], _ :: _, _, hk => hk.elim
 | _ :: _, _ :: _, [], _, hk => hk.elim
theorem Sx {M : Nat} {t k : SV} {v : Value} (h : Ti M ρ t k = true) (hk : k.rel e N loc v) : t.rel e M (D0 loc ρ) v := by
 unfold Ti at h
 split at h
 ·trivial
 ·exact hk
 ·exact KN h hk
 ·obtain ⟨vs, h1, h2⟩ := hk
  exact ⟨vs, h1, MC h h2⟩
 ·simp only [Bool.and_eq_true] at h
  rw [I5 h.1]
  exact ⟨fun hg => KN h.2 (hk.1 hg), hk.2⟩
 ·cases h
theorem Sy {M : Nat} {t k : List SV} {tm : Array Value} (h : Cg (Ti M ρ) t k = true) (hk : Al e N loc k tm) : Al e M (D0 loc ρ) t tm := by
 obtain ⟨h1, h2⟩ := Ih h
 refine ⟨by rw [h1]; exact hk.len, fun i s v hs hv => ?_⟩
 obtain ⟨b, h3, h4⟩ := h2 i s hs
 exact Sx h4 (hk.at_ i b v h3 hv)
theorem Hb : ∀ {l : List Row} {b i x : Nat} {t : Row}, l[i]? = some t → t.owned = true → ρ (b + i) = some x → x ∈ BM ρ b l
 | y :: l, b, i, x, t, h, ho, hx => by
  cases i with
  | zero =>
   simp only [List.getElem?_cons_zero, Option.some.injEq] at h
   subst h
   unfold BM
   rw [Nat.add_zero] at hx
   rw [if_pos ho, hx]
   exact List.mem_cons_self ..
  | succ i =>
   have := Hb (l := l) (b := b + 1) (i := i) (by simpa using h) ho (by rw [← hx]; congr 1; omega)
   unfold BM
   split
   ·cases ρ b with
    | some z => exact List.mem_cons_of_mem _ this
    | none => exact this
   ·exact this
theorem Ii {l : List Row} {b i j x y : Nat} {t u : Row} (hn : Hv (BM ρ b l) = true) (hij : i < j) (ht : l[i]? = some t) (hu : l[j]? = some u) (ot : t.owned = true) (ou : u.owned = true) (hx : ρ (b + i) = some x) (hy : ρ (b + j) = some y) : x ≠ y := by
 induction l generalizing b i j with
 | nil => simp at ht
 | cons z l ih =>
  obtain ⟨j, rfl⟩ : ∃ j', j = j' + 1 := ⟨j - 1, by omega⟩
  have hu' : l[j]? = some u := by simpa using hu
  have hy' : ρ (b + 1 + j) = some y := by rw [← hy]; congr 1; omega
  unfold BM at hn
  cases i with
  | zero =>
   simp only [List.getElem?_cons_zero, Option.some.injEq] at ht
   subst ht
   rw [Nat.add_zero] at hx
   rw [if_pos ot, hx] at hn
   simp only [Np, Hv, Bool.and_eq_true, List.all_eq_true, bne_iff_ne, ne_eq] at hn
   exact hn.1 y (Hb hu' ou hy')
  | succ i =>
   have hn' : Hv (BM ρ (b + 1) l) = true := by
    split at hn
    ·cases hb : ρ b with
     | some z' =>
      rw [hb] at hn
      simp only [Np, Hv, Bool.and_eq_true] at hn
      exact hn.2
     | none => rw [hb] at hn; exact hn
    ·exact hn
   exact ih (i := i) (j := j) hn' (by omega) (by simpa using ht) hu' (by rw [← hx]; congr 1; omega) hy'
theorem Ij {M : Nat} {rows : List Row} : ∀ {l : List Row} {b i : Nat} {t : Row}, F0 M ρ rows b l = true → l[i]? = some t → No M ρ rows (b + i) t = true
 | y :: l, b, i, t, h, ht => by
  simp only [F0, Bool.and_eq_true] at h
  cases i with
  | zero => simp at ht; subst ht; exact h.1
  | succ i =>
   have := Ij h.2 (i := i) (by simpa using ht)
   rwa [show b + 1 + i = b + (i + 1) by omega] at this
theorem Rc {w : World} {B : Bd} {rows tr : List Row} (hck : F0 tr.length ρ rows 0 tr = true) (hnd : Hv (BM ρ 0 tr) = true) (h : Ad e loc rows w B) : Ad e (D0 loc ρ) tr w B := by
 have cases_ : ∀ (r : Nat) (t : Row), tr[r]? = some t → t.Nn = true ∨ (∃ r' s, ρ r = some r' ∧ rows[r']? = some s ∧ Qm tr.length ρ t s = true) ∨ (ρ r = none ∧ J1 t = true) := fun r t ht => by
  have := Ij hck ht
  rw [Nat.zero_add] at this
  unfold No at this
  rw [Bool.or_eq_true] at this
  rcases this with h1 | h1
  ·exact .inl h1
  ·cases hr : ρ r with
   | none => rw [hr] at h1; exact .inr (.inr ⟨rfl, h1⟩)
   | some r' =>
    rw [hr] at h1
    simp only at h1
    cases hs : rows[r']? with
    | none => rw [hs] at h1; cases h1
    | some s => rw [hs] at h1; exact .inr (.inl ⟨r', s, rfl, hs, h1⟩)
 have dead_ : ∀ {t : Row}, t.Nn = true → t.own = false ∧ t.cells = [] ∧ t.lst = none := fun {t} ht => by
  simp only [Row.Nn, Bool.and_eq_true, Bool.not_eq_true', List.isEmpty_iff, Option.isNone_iff_eq_none] at ht
  exact ⟨ht.1.1, ht.1.2, ht.2⟩
 have empty_ : ∀ {t : Row}, J1 t = true → t.own = false ∧ t.cells = [] ∧ ∃ q, t.lst = some q ∧ q.own = true ∧ q.x = .e ∧ q.n = .n 0 ∧ q.ss.length ≠ 0 := fun {t} ht => by
  unfold J1 at ht
  simp only [Bool.and_eq_true, Bool.not_eq_true', List.isEmpty_iff] at ht
  obtain ⟨⟨h1, h2⟩, h3⟩ := ht
  cases hq : t.lst with
  | none => rw [hq] at h3; cases h3
  | some q =>
   rw [hq] at h3
   simp only [Bool.and_eq_true, bne_iff_ne, ne_eq] at h3
   obtain ⟨⟨⟨a1, a2⟩, a3⟩, a4⟩ := h3
   exact ⟨h1, h2, q, rfl, a1, L.Ae a2, L.Ae a3, a4⟩
 have row_ : ∀ {t s : Row}, Qm tr.length ρ t s = true → t.own = s.own ∧ t.ty = s.ty ∧ t.es = s.es ∧ Cg (T2 tr.length ρ) t.cells s.cells = true ∧ t.lst = s.lst := fun {t s} ht => by
  unfold Qm at ht
  simp only [Bool.and_eq_true, beq_iff_eq] at ht
  obtain ⟨⟨⟨⟨a1, a2⟩, a3⟩, a4⟩, a5⟩ := ht
  exact ⟨a1, a2, a3, a4, KG a5⟩
 have own_ : ∀ (r : Nat) (t : Row), tr[r]? = some t → t.own = true ∨ Bq (D0 loc ρ) r t → t.owned = true ∧ ∃ r' s, ρ r = some r' ∧ rows[r']? = some s ∧ D0 loc ρ r = loc r' ∧ (t.own = true → s.own = true) ∧ (Bq (D0 loc ρ) r t → Bq loc r' s) := fun r t ht ho => by
  rcases cases_ r t ht with h1 | ⟨r', s, h1, h2, h3⟩ | ⟨h1, h2⟩
  ·obtain ⟨d1, d2, d3⟩ := dead_ h1
   rcases ho with ho | ⟨q, ho, _⟩
   ·rw [d1] at ho; cases ho
   ·rw [d3] at ho; cases ho
  ·obtain ⟨a1, a2, a3, a4, a5⟩ := row_ h3
   have hl := A7 (loc := loc) h1
   refine ⟨?_, r', s, h1, h2, hl, fun h => by rw [← a1]; exact h, fun ⟨q, q1, q2, q3⟩ => ⟨q, by rw [← a5]; exact q1, q2, by rw [← hl]; exact q3⟩⟩
   unfold Row.owned
   rcases ho with ho | ⟨q, q1, q2, _⟩
   ·rw [ho]; rfl
   ·rw [q1, Bool.or_eq_true]; exact .inr q2
  ·obtain ⟨d1, d2, q, q1, q2, _⟩ := empty_ h2
   rcases ho with ho | ⟨q', _, _, q3⟩
   ·rw [d1] at ho; cases ho
   ·rw [GU h1] at q3; cases q3
 have diff_ : ∀ (r s : Nat) (t u : Row) (r' s' : Nat), tr[r]? = some t → tr[s]? = some u → t.owned = true → u.owned = true → ρ r = some r' → ρ s = some s' → r ≠ s → r' ≠ s' := fun r s t u r' s' ht hu ot ou hr hs hne => by
  rcases Nat.lt_or_gt_of_ne hne with h1 | h1
  ·exact Ii hnd h1 ht hu ot ou (by rw [Nat.zero_add]; exact hr) (by rw [Nat.zero_add]; exact hs)
  ·exact (Ii hnd h1 hu ht ou ot (by rw [Nat.zero_add]; exact hs) (by rw [Nat.zero_add]; exact hr)).symm
 refine ⟨fun r t ht => ?_, fun r t q ht hq => ?_, fun r s t u ht hu ot ou => ?_, fun r s t u ht hu ot ou hne => ?_⟩
 ·rcases cases_ r t ht with h1 | ⟨r', s, h1, h2, h3⟩ | ⟨h1, h2⟩
  ·obtain ⟨d1, d2, d3⟩ := dead_ h1
   unfold Av
   rw [if_neg (by simp [d1])]
   exact fun hc => absurd d2 hc
  ·obtain ⟨a1, a2, a3, a4, a5⟩ := row_ h3
   have hrow := h.row r' s h2
   unfold Av at hrow ⊢
   rw [A7 h1, a1, a2, a3]
   split
   ·rename_i ho
    rw [if_pos ho] at hrow
    obtain ⟨b1, b2, b3, b4, vs, sp, b5, b6, b7⟩ := hrow
    exact ⟨b1, b2, b3, b4, vs, sp, b5, KM a4 b6, b7⟩
   ·rename_i ho
    rw [if_neg ho] at hrow
    intro hc
    obtain ⟨l1, l2⟩ := Ih a4
    obtain ⟨b1, b2, b3⟩ := hrow (fun h0 => hc (List.eq_nil_of_length_eq_zero (by rw [l1, h0]; rfl)))
    refine ⟨b1, b2, fun j c hj => ?_⟩
    obtain ⟨c', hc', hcc⟩ := l2 j c hj
    obtain ⟨v, hv, hr⟩ := b3 j c' hc'
    exact ⟨v, hv, NL hcc hr⟩
  ·obtain ⟨d1, d2, _⟩ := empty_ h2
   unfold Av
   rw [if_neg (by simp [d1])]
   exact fun hc => absurd d2 hc
 ·rcases cases_ r t ht with h1 | ⟨r', s, h1, h2, h3⟩ | ⟨h1, h2⟩
  ·rw [(dead_ h1).2.2] at hq; cases hq
  ·obtain ⟨a1, a2, a3, a4, a5⟩ := row_ h3
   rw [a5] at hq
   obtain ⟨k1, k2⟩ := h.lst r' s q h2 hq
   exact ⟨by rw [a1]; exact k1, k2.at_ (A7 h1)⟩
  ·obtain ⟨d1, d2, q', q1, q2, q3, q4, q5⟩ := empty_ h2
   rw [q1] at hq
   injection hq with hq
   subst hq
   refine ⟨d1, [], 0, by rw [q3]; rfl, by simp, by rw [q4]; rfl, by omega, ?_⟩
   rw [if_pos q2, GU h1]
   rw [if_pos (show KK.emp = true from rfl)]
   exact ⟨rfl, rfl⟩
 ·obtain ⟨o1, r', x, r1, r2, r3, r4, r5⟩ := own_ r t ht (.inr ot)
  have hou : u.own = true ∨ Bq (D0 loc ρ) s u := by
   rcases ou with ou | ou
   ·exact .inl ou
   ·exact .inr ou.1
  obtain ⟨p1, s', y, s1, s2, s3, s4, s5⟩ := own_ s u hu hou
  rw [r3, s3]
  refine h.lapart r' s' x y r2 s2 (r5 ot) ?_
  rcases ou with ou | ⟨ou, hne⟩
  ·exact .inl (s4 ou)
  ·exact .inr ⟨s5 ou, diff_ r s t u r' s' ht hu o1 p1 r1 s1 hne⟩
 ·obtain ⟨o1, r', x, r1, r2, r3, r4, r5⟩ := own_ r t ht (.inl ot)
  obtain ⟨p1, s', y, s1, s2, s3, s4, s5⟩ := own_ s u hu (.inl ou)
  rw [r3, s3]
  exact h.apart r' s' x y r2 s2 (r4 ot) (s4 ou) (diff_ r s t u r' s' ht hu o1 p1 r1 s1 hne)
theorem D1 {m : Nat} {t s : St} (h : Q4 ρ m t s = true) : m ≤ s.rows.length ∧ m ≤ t.rows.length ∧ AA m loc (D0 loc ρ) ∧
  (∀ tm, Al e s.rows.length loc s.fr tm → Al e t.rows.length (D0 loc ρ) t.fr tm) ∧ ∀ w, AY e w0 loc s.rows w → AY e w0 (D0 loc ρ) t.rows w := by
 unfold Q4 at h
 simp only [Bool.and_eq_true, decide_eq_true_eq] at h
 obtain ⟨⟨⟨⟨⟨h1, h2⟩, h3⟩, h4⟩, h5⟩, h6⟩ := h
 refine ⟨h5, h6, fun r hr => ?_, fun tm hf => Sy h1 hf, fun w hc => by obtain ⟨B, hB, hR, hbel⟩ := hc; exact ⟨B, hB, Rc h2 h3 hR, hbel⟩⟩
 unfold R4 at h4
 rw [List.all_eq_true] at h4
 exact A7 (by simpa using h4 r (by simpa using hr))
end
end Rx
namespace Rx
open Go Go.RowKit
def KO (bs : Nat) (n m : Nd) : Prop :=
 m.listed = n.listed ∧ m.g = n.g ∧ (bs ≤ n.rows.length → bs ≤ m.rows.length) ∧ ∀ (e : Nat → A) (w0 : W0) (loc : Loc) (tm : Array Value) (w : World), Al e n.rows.length loc n.fr tm → AY e w0 loc n.rows w →
  ∃ loc', AA bs loc loc' ∧ Al e m.rows.length loc' m.fr tm ∧ AY e w0 loc' m.rows w
theorem KO.refl (bs : Nat) (n : Nd) : KO bs n n := ⟨rfl, rfl, id, fun e w0 loc tm w hf hc => ⟨loc, AA.refl _ _, hf, hc⟩⟩
theorem Sz {bs : Nat} {m n : Nd} (hl : m.listed = n.listed) (h : m.fits bs n = true) : KO bs n m := by
 simp only [Nd.fits, Bool.and_eq_true, beq_iff_eq] at h
 obtain ⟨⟨⟨⟨h1, h2⟩, h3⟩, h4⟩, h5⟩ := h
 have hg : m.g = n.g := by
  obtain ⟨_, _, _, a, b, c, d⟩ := m
  obtain ⟨_, _, _, a', b', c', d'⟩ := n
  simp only at h1 h2 h3 h4
  rw [h1, Ei h2, L.CG h3, DD h4]
 refine ⟨hl, hg, fun _ => ?_, fun e w0 loc tm w hf hc => ?_⟩
 ·exact (D1 (e := fun _ => .i 0) (loc := fun _ => default) (w0 := default) h5).2.1
 ·obtain ⟨k1, k2, k3, k4, k5⟩ := D1 (e := e) (loc := loc) (w0 := w0) h5
  exact ⟨_, k3, k4 tm hf, k5 w hc⟩
theorem MD {bs : Nat} {n : Nd} : ∀ {l r : List Nd}, N3 bs n l = some r → (∃ m ∈ r, KO bs n m) ∧ ∀ m ∈ l, m ∈ r
 | [], r, h => by
  simp only [N3, Option.some.injEq] at h
  subst h
  exact ⟨⟨n, by simp, .refl _ _⟩, fun m hm => by cases hm⟩
 | m :: l, r, h => by
  simp only [N3] at h
  split at h
  ·rename_i hb
   split at h
   ·rename_i hs
    injection h with h
    subst h
    refine ⟨⟨m, by simp, ?_⟩, fun x hx => hx⟩
    rw [Bool.or_eq_true] at hs
    rcases hs with hs | hs
    ·rw [← Nd.Ae (Fz hb) hs]; exact .refl _ _
    ·exact Sz (Fz hb) hs
   ·cases h
  ·simp only [Option.bind_eq_bind, Option.bind_eq_some_iff, Option.some.injEq] at h
   obtain ⟨r', hr, rfl⟩ := h
   obtain ⟨⟨x, hx, h1⟩, h2⟩ := MD hr
   exact ⟨⟨x, by simp [hx], h1⟩, fun x hx => by
    rcases List.mem_cons.1 hx with rfl | hx
    ·simp
    ·simp [h2 x hx]⟩
theorem KP {bs : Nat} : ∀ {ns l r : List Nd}, Ki bs ns l = some r → (∀ m ∈ ns, ∃ m' ∈ r, KO bs m m') ∧ ∀ m ∈ l, m ∈ r
 | [], l, r, h => by
  simp only [Ki, Option.some.injEq] at h
  subst h
  exact ⟨fun m hm => (by cases hm), fun m hm => hm⟩
 | n :: ns, l, r, h => by
  simp only [Ki, Option.bind_eq_bind, Option.bind_eq_some_iff] at h
  obtain ⟨l', h1, h2⟩ := h
  obtain ⟨⟨x, hx, a1⟩, a2⟩ := MD h1
  obtain ⟨b1, b2⟩ := KP h2
  exact ⟨fun m hm => by
   rcases List.mem_cons.1 hm with rfl | hm
   ·exact ⟨x, b2 _ hx, a1⟩
   ·exact b1 m hm, fun m hm => b2 _ (a2 m hm)⟩
theorem JA {X : Ctx} {inl : Inline} {ops : List Oper} {pc : L} {bs : Nat} : ∀ {l out r : List Nd}, HY X inl ops pc bs l out = some r → (∀ nd ∈ l, ∃ ns, R8 X inl ops pc nd = some ns ∧ ∀ m ∈ ns, ∃ m' ∈ r, KO bs m m') ∧ ∀ m ∈ out, m ∈ r
 | [], out, r, h => by
  simp only [HY, Option.some.injEq] at h
  subst h
  exact ⟨fun nd hnd => (by cases hnd), fun m hm => hm⟩
 | nd :: l, out, r, h => by
  simp only [HY, Option.bind_eq_bind, Option.bind_eq_some_iff] at h
  obtain ⟨ns, h1, out', h2, h3⟩ := h
  obtain ⟨a1, a2⟩ := KP h2
  obtain ⟨b1, b2⟩ := JA h3
  exact ⟨fun x hx => by
   rcases List.mem_cons.1 hx with rfl | hx
   ·exact ⟨ns, h1, fun m hm => by
     obtain ⟨m', h4, h5⟩ := a1 m hm
     exact ⟨m', b2 _ h4, h5⟩⟩
   ·exact b1 x hx, fun m hm => b2 _ (a2 m hm)⟩
end Rx
namespace Rx
open Go Go.RowKit
section
variable {T : Nat → List A → Bool × List A} {e : Nat → A} {n n' : Nat} {loc loc' : Loc} {P : Program} {X : Ctx} {w0 : W0}
variable {fr : List SV} {rows : List Row} {gs : List (L × Bool)} {pc : L} {o : Oper} {g : G} {inl : Inline}
theorem Oper.Tt {K : Act → World → Prop} {Q : Exit → Act → World → Prop} {a : Act} {w : World} (h : o.wp P a w K (Exit.then K Q)) : o.wp P a w K Q := by
 unfold Oper.wp at *
 generalize (Go.execOp a.eval o).run P w = r at *
 cases r with
 | ok n w' =>
  cases n <;> simp only [Oper.upon] at h ⊢ <;> first | exact h | exact Calls.mono h (fun e w'' he => by cases e <;> exact he)
 | halt x w' => cases x <;> simp only [Oper.upon] at h ⊢ <;> exact h
theorem LV (hX : XOK P T X) (hI : Gb P T e w0 inl) {ops : List Oper} {nd nd' : Nd} {i : Nat} (h : Fk X inl ops pc nd i = some nd') (hg : Good T e nd'.g) :
  nd'.listed = nd.listed.set i true ∧ Good T e nd.g ∧ ∀ (loc : Loc) (a : Act) (w : World) (K : Act → World → Prop) (Q : Exit → Act → World → Prop), (pc.ev e).bool = true → Al e nd.rows.length loc nd.fr a.tmps → AY e w0 loc nd.rows w →
   (∀ (loc' : Loc) (a' : Act) (w' : World), AA nd.rows.length loc loc' → nd.rows.length ≤ nd'.rows.length → Al e nd'.rows.length loc' nd'.fr a'.tmps → a'.defers = a.defers → AY e w0 loc' nd'.rows w' → K a' w') → wpOp P ops.toArray Q i K a w := by
 simp only [Fk, Option.bind_eq_bind, Option.bind_eq_some_iff] at h
 obtain ⟨o, ho, ⟨fr1, rows1, g1⟩, hex, h⟩ := h
 simp only at h
 split at h
 case isFalse => cases h
 injection h with h
 subst h
 obtain ⟨k1, k2⟩ := Bn hX hI hex hg
 refine ⟨rfl, k1, fun loc a w K Q hpc hf hw hK => ?_⟩
 have := k2 loc a w (Exit.then K Q) hpc hf hw hK
 unfold wpOp
 have ho' : ops.toArray[i]? = some o := by simpa using ho
 rw [ho']
 simp only
 unfold wpList at this
 split
 ·rename_i hwt
  rw [if_pos hwt] at this
  rcases this with h1 | h1
  ·exact .inl (Oper.Tt h1)
  ·exact .inr h1
 ·rename_i hwt
  rw [if_neg hwt] at this
  exact this
theorem JB {ops : List Oper} {nd nd' : Nd} {i : Nat} (h : Fk X inl ops pc nd i = some nd') : nd.rows.length ≤ nd'.rows.length := by
 simp only [Fk, Option.bind_eq_bind, Option.bind_eq_some_iff] at h
 obtain ⟨o, ho, ⟨fr1, rows1, g1⟩, hex, h⟩ := h
 simp only at h
 split at h
 ·rename_i hle
  injection h with h
  subst h
  exact hle
 ·cases h
theorem Ow {α β : Type} {f : α → Option β} : ∀ {l : List α} {r : List β}, Tj f l = some r → ∀ a ∈ l, ∃ b ∈ r, f a = some b
 | [], r, _, a, ha => by cases ha
 | x :: l, r, h, a, ha => by
  simp only [Tj, Option.bind_eq_bind, Option.bind_eq_some_iff, Option.some.injEq] at h
  obtain ⟨b, hb, r', hr, rfl⟩ := h
  rcases List.mem_cons.1 ha with rfl | ha
  ·exact ⟨b, by simp, hb⟩
  ·obtain ⟨b', h1, h2⟩ := Ow hr a ha
   exact ⟨b', by simp [h1], h2⟩
theorem Hc (hX : XOK P T X) (hI : Gb P T e w0 inl) {ops : List Oper} {bs : Nat} (hns : Region.noSelect ops.toArray = true) {E : Nd} (hE : Region.ready .any ops.toArray E.listed.toArray = []) (hg : Good T e E.g) :
  ∀ (k : Nat) (l : List Nd), explore X inl ops pc bs k l = some [E] → ∀ nd ∈ l, Good T e nd.g ∧
   (bs ≤ nd.rows.length → bs ≤ E.rows.length ∧ ∀ (loc : Loc) (a : Act) (w : World) (Q : Exit → Act → World → Prop), (pc.ev e).bool = true → Al e nd.rows.length loc nd.fr a.tmps → AY e w0 loc nd.rows w →
    (∀ c a w, ¬ Q (.panic c) a w) → ¬ LetsOut Q →
    (∀ (loc' : Loc) (a' : Act) (w' : World), AA bs loc loc' → Al e E.rows.length loc' E.fr a'.tmps → a'.defers = a.defers → AY e w0 loc' E.rows w' → Q .normal a' w') →
     wpAny P .any ops.toArray Q k nd.listed.toArray a w)
 | 0, l, h, nd, hnd => by
  simp only [explore, Option.some.injEq] at h
  subst h
  simp only [List.mem_singleton] at hnd
  subst hnd
  exact ⟨hg, fun hb => ⟨hb, fun loc a w Q hpc hf hw _ _ hQ => ⟨hE, hQ loc a w (AA.refl _ _) hf rfl hw⟩⟩⟩
 | k + 1, l, h, nd, hnd => by
  simp only [explore, Option.bind_eq_bind, Option.bind_eq_some_iff] at h
  obtain ⟨l', h1, h2⟩ := h
  obtain ⟨ns, hs, hmem⟩ := (JA h1).1 nd hnd
  have ih := Hc hX hI hns hE hg k l' h2
  have hset : ∀ i, (nd.listed.set i true).toArray = nd.listed.toArray.setIfInBounds i true := fun i => by simp
  have step : ∀ i n, Fk X inl ops pc nd i = some n → (∃ m' ∈ l', KO bs n m') → Good T e nd.g ∧ (bs ≤ nd.rows.length → nd.rows.length ≤ n.rows.length → bs ≤ E.rows.length) ∧ ∀ (loc : Loc) (a : Act) (w : World) (Q : Exit → Act → World → Prop), bs ≤ nd.rows.length → (pc.ev e).bool = true → Al e nd.rows.length loc nd.fr a.tmps → AY e w0 loc nd.rows w →
    (∀ c a w, ¬ Q (.panic c) a w) → ¬ LetsOut Q →
    (∀ (loc' : Loc) (a' : Act) (w' : World), AA bs loc loc' → Al e E.rows.length loc' E.fr a'.tmps → a'.defers = a.defers → AY e w0 loc' E.rows w' → Q .normal a' w') →
     wpOp P ops.toArray Q i (wpAny P .any ops.toArray Q k (nd.listed.toArray.setIfInBounds i true)) a w := fun i n hn ⟨m, hm, r1, r2, r3, r4⟩ => by
   obtain ⟨i1, i2⟩ := ih m hm
   rw [r2] at i1
   obtain ⟨s1, s2, s3⟩ := LV hX hI hn i1
   refine ⟨s2, fun hb hle => (i2 (r3 (Nat.le_trans hb hle))).1, fun loc a w Q hb hpc hf hw hp ho hQ => s3 loc a w _ Q hpc hf hw fun loc1 a1 w1 q1 q2 q3 q4 q5 => ?_⟩
   obtain ⟨loc2, z1, z2, z3⟩ := r4 e w0 loc1 a1.tmps w1 q3 q5
   have := (i2 (r3 (Nat.le_trans hb q2))).2 loc2 a1 w1 Q hpc z2 z3 hp ho fun loc' a' w' y1 y3 y4 y5 => hQ loc' a' w' (fun r hr => ((z1.trans y1 (Nat.le_refl _)) r hr).trans (q1 r (Nat.lt_of_lt_of_le hr hb))) y3 (y4.trans q4) y5
   rw [r1, s1, hset] at this
   exact this
  unfold R8 at hs
  simp only at hs
  split at hs
  ·rename_i i hfind
   simp only [Option.bind_eq_bind, Option.bind_eq_some_iff, Option.some.injEq] at hs
   obtain ⟨n, hn, rfl⟩ := hs
   obtain ⟨s1, s0, s2⟩ := step i n hn (hmem n (by simp))
   have hready := List.mem_of_find?_eq_some hfind
   have hpure := List.find?_some hfind
   have hlen : nd.rows.length ≤ n.rows.length := JB hn
   refine ⟨s1, fun hb => ⟨s0 hb hlen, fun loc a w Q hpc hf hw hp ho hQ => ?_⟩⟩
   have hop := s2 loc a w Q hb hpc hf hw hp ho hQ
   unfold R7 at hpure
   split at hpure
   ·rename_i o hoi
    have hoi' : ops.toArray[i]? = some o := by simpa using hoi
    have key : ∀ x, (∀ (ρ : Operand → Value), Go.execOp ρ o = pure (.value (ρ x))) → Region.free .any ops.toArray nd.listed.toArray i = true → wpAny P .any ops.toArray Q (k + 1) nd.listed.toArray a w := fun x hx hfree => by
     have hrun : ∀ w, (Go.execOp a.eval o).run P w = .ok (.value (a.eval x)) w := fun w => by rw [hx]; simp
     unfold wpOp at hop
     rw [hoi'] at hop
     simp only at hop
     by_cases hwt : Region.wanted o (yielded ops.toArray a.tmps) = true
     ·rw [if_pos hwt] at hop
      refine wpAny_take hoi' hns hfree (by simpa using hready) (fun c a w h0 => absurd h0 (hp _ _ _)) (v := a.eval x) (.inl ⟨hwt, hrun⟩) ?_
      rcases hop with h1 | h1
      ·unfold Oper.wp at h1
       rw [hrun] at h1
       exact h1
      ·exact absurd h1.2 ho
     ·rw [if_neg hwt] at hop
      exact wpAny_take hoi' hns hfree (by simpa using hready) (fun c a w h0 => absurd h0 (hp _ _ _)) (v := undef) (.inr ⟨by simpa using hwt, rfl⟩) hop
    split at hpure
    ·rename_i x hox
     exact key x (fun ρ => by simp [Go.execOp, hox]) hpure
    ·rename_i x hox
     exact key x (fun ρ => by simp [Go.execOp, hox]) hpure
    ·cases hpure
   ·cases hpure
  ·split at hs
   ·cases hs
   ·rename_i hne
    have hne : Region.ready .any ops.toArray nd.listed.toArray ≠ [] := by simpa using hne
    have hall := Ow hs
    obtain ⟨i0, hi0⟩ := List.exists_mem_of_ne_nil _ hne
    obtain ⟨n0, hn1, hn2⟩ := hall i0 hi0
    refine ⟨(step i0 n0 hn2 (hmem n0 hn1)).1, fun hb => ⟨(step i0 n0 hn2 (hmem n0 hn1)).2.1 hb (JB hn2), fun loc a w Q hpc hf hw hp ho hQ => ⟨fun h0 => absurd h0 hne, fun i hi => ?_⟩⟩⟩
    obtain ⟨n, hn1, hn2⟩ := hall i hi
    exact (step i n hn2 (hmem n hn1)).2.2 loc a w Q hb hpc hf hw hp ho hQ
theorem JC (hX : XOK P T X) (hI : Gb P T e w0 inl) {ops : List Oper} {S S' : St} {g g' : G} (h : Qp X inl ops S g = some (S', g')) (hg : Good T e g') :
  Good T e g ∧ S'.pc = S.pc ∧ ∀ (id : Nat) (loc : Loc) (a : Act) (w : World) (Q : Exit → Act → World → Prop), (S.pc.ev e).bool = true → Al e S.rows.length loc S.fr a.tmps → AY e w0 loc S.rows w →
   (∀ (loc' : Loc) (a' : Act) (w' : World), AA S.rows.length loc loc' → S.rows.length ≤ S'.rows.length → Al e S'.rows.length loc' S'.fr a'.tmps → a'.defers = a.defers → AY e w0 loc' S'.rows w' → Q .normal a' w') →
    (Code.region id ops.toArray true).wp P Q a w := by
 have drew : ∀ {loc : Loc} {rows : List Row} {w : World}, AY e w0 loc rows w → AY e w0 loc rows { w with drawn := w.drawn + 1 } := fun {loc rows w} hw =>
  hw.F4 ⟨rfl, rfl, rfl, Nat.le_refl _, fun _ _ => rfl⟩
 unfold Qp at h
 split at h
 ·rename_i hns
  split at h
  ·rename_i E hex
   split at h
   ·rename_i hE
    simp only [Option.some.injEq, Prod.mk.injEq] at h
    obtain ⟨rfl, rfl⟩ := h
    have hE : Region.ready .any ops.toArray E.listed.toArray = [] := by simpa using hE
    obtain ⟨k1, k2⟩ := Hc hX hI hns hE hg _ _ hex _ (List.mem_singleton.2 rfl)
    obtain ⟨k2, k3⟩ := k2 (Nat.le_refl _)
    refine ⟨k1, rfl, fun id loc a w Q hpc hf hw hQ => ?_⟩
    refine wp_mono (Q := fun e a w => match e with | .normal => Q .normal a w | _ => False) ?_ (fun e a w h0 => by cases e <;> first | exact h0 | exact h0.elim)
    refine wp_region_any hX.mixed ?_
    have := k3 loc a { w with drawn := w.drawn + 1 } (fun e a w => match e with | .normal => Q .normal a w | _ => False) hpc hf (drew hw) (fun _ _ _ h0 => h0) (fun ⟨_, _, h0⟩ => h0) (fun loc' a' w' y1 y2 y3 y4 => hQ loc' a' w' y1 k2 y2 y3 y4)
    simpa using this
   ·cases h
  ·cases h
 ·cases h
theorem I8 (hX : XOK P T X) (hI : Gb P T e w0 inl) {ops : List Oper} {draw : Bool} {S S' : St} {g g' : G} (h : Hx X inl ops draw S g = some (S', g')) (hg : Good T e g') :
  Good T e g ∧ S'.pc = S.pc ∧ ∀ (id : Nat) (loc : Loc) (a : Act) (w : World) (Q : Exit → Act → World → Prop), (S.pc.ev e).bool = true → Al e S.rows.length loc S.fr a.tmps → AY e w0 loc S.rows w →
   (∀ (loc' : Loc) (a' : Act) (w' : World), AA S.rows.length loc loc' → S.rows.length ≤ S'.rows.length → Al e S'.rows.length loc' S'.fr a'.tmps → a'.defers = a.defers → AY e w0 loc' S'.rows w' → Q .normal a' w') →
    (Code.region id ops.toArray draw).wp P Q a w := by
 have drew : ∀ {loc : Loc} {rows : List Row} {w : World}, AY e w0 loc rows w → AY e w0 loc rows { w with drawn := w.drawn + 1 } := fun {loc rows w} hw =>
  hw.F4 ⟨rfl, rfl, rfl, Nat.le_refl _, fun _ _ => rfl⟩
 unfold Hx at h
 split at h
 ·rename_i hd
  subst hd
  split at h
  ·rename_i r hq
   injection h with h
   subst h
   unfold Qn at hq
   split at hq
   ·split at hq
    ·rename_i hB
     simp only [Option.bind_eq_bind, Option.bind_eq_some_iff] at hq
     obtain ⟨⟨fr1, rows1, g1⟩, h1, h⟩ := hq
     simp only [Option.some.injEq, Prod.mk.injEq] at h
     obtain ⟨rfl, rfl⟩ := h
     obtain ⟨k1, rfl, k3⟩ := C4 hX hI h1 hg
     refine ⟨k1, rfl, fun id loc a w Q hpc hf hw hQ => ?_⟩
     refine wp_region_quiet (C := AY e w0 loc S.rows) hX.mixed hB (drew hw) ?_
     exact k3 loc a w _ hpc hf hw fun a' hf' hd w' hw' => hQ loc a' w' (AA.refl _ _) (Nat.le_refl _) hf' hd hw'
    ·cases hq
   ·cases hq
  ·split at h
   ·rename_i r hq
    injection h with h
    subst h
    unfold Qo at hq
    split at hq
    ·rename_i hB
     simp only [Option.bind_eq_bind, Option.bind_eq_some_iff] at hq
     obtain ⟨⟨fr1, rows1, g1⟩, h1, ⟨fr2, rows2, g2⟩, h2, h⟩ := hq
     simp only [Option.some.injEq, Prod.mk.injEq] at h
     obtain ⟨rfl, rfl⟩ := h
     obtain ⟨k1, k2⟩ := Bn hX hI h2 hg
     obtain ⟨q1, rfl, q3⟩ := C4 hX hI h1 k1
     refine ⟨q1, rfl, fun id loc a w Q hpc hf hw hQ => ?_⟩
     refine JL (Cl := AY e w0 loc S.rows) hX.mixed hB (drew hw) ?_
     exact q3 loc a w _ hpc hf hw fun a' hf' hd w' hw' => k2 loc a' w' Q hpc hf' hw' fun loc' a'' w'' hx hl hf'' hd' hw'' => hQ loc' a'' w'' hx hl hf'' (by rw [hd', hd]) hw''
    ·cases hq
   ·split at h
    ·rename_i r hq
     injection h with h
     subst h
     exact JC hX hI hq hg
    ·split at h
     ·rename_i fr1 rows1 g1 h1
      obtain ⟨k1, k2⟩ := JC hX hI h hg
      exact ⟨(Bn hX hI h1 k1).1, k2⟩
     ·cases h
 ·rename_i hd
  have hd : draw = false := by simpa using hd
  subst hd
  simp only [Option.bind_eq_bind, Option.bind_eq_some_iff] at h
  obtain ⟨⟨fr1, rows1, g1⟩, h1, h⟩ := h
  simp only [Option.some.injEq, Prod.mk.injEq] at h
  obtain ⟨rfl, rfl⟩ := h
  obtain ⟨k1, k2⟩ := Bn hX hI h1 hg
  exact ⟨k1, rfl, fun id loc a w Q hpc hf hw hQ => wp_region_lit (k2 loc a w Q hpc hf hw hQ)⟩
end
end Rx
namespace Rx
open Go Go.RowKit
section
variable {T : Nat → List A → Bool × List A} {e : Nat → A} {n n' : Nat} {loc loc' : Loc} {P : Program} {X : Ctx} {w0 : W0}
theorem EO.Df {x y : EO} : x.same y = true ↔ x = y := by
 cases x <;> cases y <;> simp [EO.same]
theorem Aq {x : EO} {s : St} {l : Ah} : Ah.get x ((x, s) :: l) = some s := by
 simp [Ah.get, EO.Df]
theorem AG {x y : EO} {s : St} {l : Ah} (h : x ≠ y) : Ah.get x ((y, s) :: l) = Ah.get x l := by
 have : x.same y = false := by
  cases hs : x.same y with
  | false => rfl
  | true => exact absurd (EO.Df.1 hs) h
 simp [Ah.get, this]
theorem AK {x y : EO} (h : x ≠ y) : ∀ {l : Ah}, Ah.get x (Ah.drop y l) = Ah.get x l
 | [] => rfl
 | (z, s) :: l => by
  unfold Ah.drop
  split
  ·rename_i hz
   have hz := EO.Df.1 hz
   subst hz
   rw [AG h, AK h]
  ·by_cases hxz : x = z
   ·subst hxz
    rw [Aq, Aq]
   ·rw [AG hxz, AG hxz, AK h]
theorem E8 {x : EO} : ∀ {l : Ah}, Ah.get x (Ah.drop x l) = none
 | [] => rfl
 | (z, s) :: l => by
  unfold Ah.drop
  split
  ·exact E8
  ·rename_i hz
   rw [AG (fun h0 => hz (EO.Df.2 h0)), E8]
def Ref (e : Nat → A) (w0 : W0) (s u : St) : Prop :=
 ∀ (loc : Loc) (tm : Array Value) (w : World), Al e s.rows.length loc s.fr tm → AY e w0 loc s.rows w → ∃ loc' : Loc, AA s.rows.length loc loc' ∧ s.rows.length ≤ u.rows.length ∧ Al e u.rows.length loc' u.fr tm ∧ AY e w0 loc' u.rows w
theorem Ref.refl (s : St) : Ref e w0 s s := fun loc _ _ h h' => ⟨loc, AA.refl _ _, Nat.le_refl _, h, h'⟩
theorem Ref.pc {s : St} (pc : L) : Ref e w0 s { s with pc } := fun loc _ _ h h' => ⟨loc, AA.refl _ _, Nat.le_refl _, h, h'⟩
theorem Ref.trans {s t u : St} (h1 : Ref e w0 s t) (h2 : Ref e w0 t u) : Ref e w0 s u := fun loc tm w a b => by
 obtain ⟨l1, x1, n1, f1, c1⟩ := h1 loc tm w a b
 obtain ⟨l2, x2, n2, f2, c2⟩ := h2 l1 tm w f1 c1
 exact ⟨l2, x1.trans x2 n1, Nat.le_trans n1 n2, f2, c2⟩
theorem Tu {N r R : Nat} {k : K} {v : Value} (h : k.rel e N loc v) (hR : N ≤ R) : (Ve r R k).rel e (R + 1) (Az loc R (loc r)) v := by
 have hx : AA N loc (Az loc R (loc r)) := fun s hs => by simp [Az, Nat.ne_of_lt (Nat.lt_of_lt_of_le hs hR)]
 unfold Ve
 split
 ·rename_i r' m
  split
  ·rename_i hr
   have hr : r' = r := by simpa using hr
   subst hr
   obtain ⟨h1, h2, h3⟩ := h
   simp only [K.ok] at h1
   refine ⟨⟨by omega, h1.2.1, fun he => ?_⟩, h2, .inr ?_⟩
   ·rw [Ai] at he ⊢
    exact h1.2.2 he
   ·rcases h3 with h3 | h3
    ·cases h3
    ·rw [h3]
     simp only [K.A0]
     rw [Ai]
  ·exact K.Be h hx (by omega)
 ·exact K.Be h hx (by omega)
theorem QF {N r R : Nat} {k : C} {v : Value} (h : k.rel e N loc v) (hR : N ≤ R) : (U8 r R k).rel e (R + 1) (Az loc R (loc r)) v := by
 cases k with
 | k x => exact Tu h hR
 | clo f a b =>
  have hx : AA N loc (Az loc R (loc r)) := fun s hs => by simp [Az, Nat.ne_of_lt (Nat.lt_of_lt_of_le hs hR)]
  exact C.Be h hx (by omega)
 | cfn x f h' => exact h
theorem Ox {N r R : Nat} (hR : N ≤ R) : ∀ {l : List C} {vs : List Value}, Af e N loc l vs → Af e (R + 1) (Az loc R (loc r)) (l.map (U8 r R)) vs
 | [], [], _ => trivial
 | _ :: _, _ :: _, h => ⟨QF h.1 hR, Ox hR h.2⟩
theorem KQ {N r R : Nat} {p : PV} {v : Value} (h : p.rel e N loc v) (hR : N ≤ R) : (RQ r R p).rel e (R + 1) (Az loc R (loc r)) v := by
 cases p with
 | one c => exact QF h hR
 | agg l => obtain ⟨vs, h1, h2⟩ := h; exact ⟨vs, h1, Ox hR h2⟩
theorem ME {N r R : Nat} (hR : N ≤ R) : ∀ {l : List PV} {vs : List Value}, Am e N loc l vs → Am e (R + 1) (Az loc R (loc r)) (l.map (RQ r R)) vs
 | [], [], _ => trivial
 | _ :: _, _ :: _, h => ⟨KQ h.1 hR, ME hR h.2⟩
theorem SA {N r R : Nat} {p : SV} {v : Value} (h : p.rel e N loc v) (hR : N ≤ R) : (UC r R p).rel e (R + 1) (Az loc R (loc r)) v := by
 cases p with
 | pv p => exact KQ h hR
 | tup l => obtain ⟨vs, h1, h2⟩ := h; exact ⟨vs, h1, ME hR h2⟩
 | cond gs p => exact ⟨fun hg => KQ (h.1 hg) hR, h.2⟩
 | undef => exact h
 | junk => trivial
theorem Tv {r R : Nat} {s : St} : (Pc r R s).pc = s.pc := by
 unfold Pc
 split
 ·split
  ·split <;> rfl
  ·rfl
 ·rfl
theorem SB {r R : Nat} {s : St} (h : s.rows.length ≤ R) : (Pc r R s).rows.length ≤ R + 1 := by
 unfold Pc
 split
 ·split
  ·split
   ·simp [AE, Ap]; omega
   ·omega
  ·omega
 ·omega
theorem SC {r R : Nat} {s : St} : Ref e w0 s (Pc r R s) := by
 unfold Pc
 split
 ·rename_i row hrow
  split
  ·rename_i q hq
   split
   ·rename_i hc
    simp only [Bool.and_eq_true, decide_eq_true_eq] at hc
    obtain ⟨c1, c2⟩ := hc
    intro loc tm w hf hcl
    have hlen : (Ap (s.rows.set r Row.dead) R).length = R := by simp [Ap]; omega
    obtain ⟨B, hB, hR, hbel⟩ := hcl
    have hl := (hR.lst r row q hrow hq).2
    have hr1 := Ab hrow
    have hadd := ((hR.kill r).pad R).Oi (x := loc r) (q := q) c1 (fun he s' y hs ho => ?_) (hl.at_ (by rw [hlen]; exact Ai _ _ _))
    ·rw [hlen] at hadd
     refine ⟨Az loc R (loc r), fun s' hs' => by simp [Az, Nat.ne_of_lt (Nat.lt_of_lt_of_le hs' c2)], by simp only [AE, List.length_append, hlen]; simp; omega, ?_, B, hB, hadd, hbel⟩
     have hlen2 : (AE (Ap (s.rows.set r Row.dead) R) q).length = R + 1 := by simp [AE, hlen]
     rw [hlen2]
     refine ⟨by simpa using hf.len, fun i t v ht hv => ?_⟩
     rw [List.getElem?_map] at ht
     cases hs : s.fr[i]? with
     | none => rw [hs] at ht; cases ht
     | some x =>
      rw [hs] at ht
      simp only [Option.map_some, Option.some.injEq] at ht
      subst ht
      exact SA (hf.at_ i x v hs hv) c2
    ·have hy : s' ≠ r ∧ s.rows[s']? = some y := by
      unfold Ap at hs
      rw [List.getElem?_append] at hs
      split at hs
      ·by_cases hsr : s' = r
       ·subst hsr
        rw [List.getElem?_set_self hr1] at hs
        injection hs with hs
        subst hs
        rcases ho with ho | ⟨_, ho, _⟩ <;> simp [Row.dead] at ho
       ·exact ⟨hsr, by rwa [List.getElem?_set_ne (Ne.symm hsr)] at hs⟩
      ·have := List.mem_of_getElem? hs
       rw [List.mem_replicate] at this
       rw [this.2] at ho
       rcases ho with ho | ⟨_, ho, _⟩ <;> simp [Row.dead] at ho
     refine (hR.lapart r s' row y hrow hy.2 ⟨q, hq, c1, he⟩ ?_).symm
     rcases ho with ho | ho
     ·exact .inl ho
     ·exact .inr ⟨ho, Ne.symm hy.1⟩
   ·exact Ref.refl _
  ·exact Ref.refl _
 ·exact Ref.refl _
theorem SD {i R : Nat} {q : Option Ff} {s : St} : (J9 i R q s).pc = s.pc := by
 unfold J9
 split
 ·split
  ·split <;> rfl
  ·rfl
 ·rfl
theorem Re {i R : Nat} {q : Option Ff} {s : St} (h : s.rows.length ≤ R) : (J9 i R q s).rows.length ≤ R + 1 := by
 unfold J9
 split
 ·split
  ·split
   ·simp [AE, Ap]; omega
   ·omega
  ·omega
 ·omega
theorem Rf {i R : Nat} {o : Option Ff} {s : St} : Ref e w0 s (J9 i R o s) := by
 unfold J9
 split
 ·rename_i q
  split
  ·rename_i hi
   split
   ·rename_i hc
    simp only [Bool.and_eq_true, decide_eq_true_eq, bne_iff_ne, ne_eq] at hc
    obtain ⟨⟨c0, c1⟩, c2⟩ := hc
    intro loc tm w hf hcl
    have hlen : (Ap s.rows R).length = R := by simp [Ap]; omega
    obtain ⟨B, hB, hR, hbel⟩ := hcl
    have hadd := (hR.pad R).Oi (x := KK) (q := { own := true, ty := q.ty, ss := q.ss, x := .e, n := .n 0 }) rfl (fun he => by cases he) (by
     refine ⟨[], 0, rfl, by simp, rfl, Nat.pos_of_ne_zero c1, ?_⟩
     rw [if_pos rfl, Ai, if_pos (show KK.emp = true from rfl)]
     exact ⟨rfl, rfl⟩)
    rw [hlen] at hadd
    have hx : AA s.rows.length loc (Az loc R KK) := fun s' hs' => by simp [Az, Nat.ne_of_lt (Nat.lt_of_lt_of_le hs' c2)]
    have hlen2 : (AE (Ap s.rows R) { own := true, ty := q.ty, ss := q.ss, x := .e, n := .n 0 }).length = R + 1 := by simp [AE, hlen]
    refine ⟨Az loc R KK, hx, by show s.rows.length ≤ (AE _ _).length; rw [hlen2]; exact Nat.le_succ_of_le c2, ?_, B, hB, hadd, hbel⟩
    show Al e (AE _ _).length _ _ _
    rw [hlen2]
    refine ⟨by simpa using hf.len, fun j t v ht hv => ?_⟩
    by_cases hj : i = j
    ·subst hj
     rw [List.getElem?_set_self (Ab hi)] at ht
     injection ht with ht
     subst ht
     have := hf.at_ i _ v hi hv
     have hv' : v = .slice none 0 0 := by
      have h3 := this.2.2
      rcases h3 with h3 | h3
      ·cases h3
      ·exact h3
     refine ⟨⟨by omega, by simp, fun _ => ⟨by rw [Ai]; rfl, by simp⟩⟩, this.2.1, .inr ?_⟩
     rw [hv']
     simp only [K.A0]
     rw [Ai]
     rfl
    ·rw [List.getElem?_set_ne hj] at ht
     exact SV.Be (hf.at_ j t v ht hv) hx (by omega)
   ·exact Ref.refl _
  ·exact Ref.refl _
 ·exact Ref.refl _
theorem QG {x : Nat × Bool} {R : Nat} {q : Option Ff} {s : St} : (LA x R q s).pc = s.pc := by
 unfold LA
 split
 ·exact Tv
 ·exact SD
theorem Oy {x : Nat × Bool} {R : Nat} {q : Option Ff} {s : St} (h : s.rows.length ≤ R) : (LA x R q s).rows.length ≤ R + 1 := by
 unfold LA
 split
 ·exact SB h
 ·exact Re h
theorem Oz {x : Nat × Bool} {R : Nat} {q : Option Ff} {s : St} : Ref e w0 s (LA x R q s) := by
 unfold LA
 split
 ·exact SC
 ·exact Rf
theorem JD : ∀ {l : List ((Nat × Bool) × (Nat × Bool))} {R : Nat} {s t : St}, s.rows.length ≤ R → t.rows.length ≤ R →
  Ref e w0 s (Fh l R (s, t)).1 ∧ Ref e w0 t (Fh l R (s, t)).2 ∧ (Fh l R (s, t)).1.pc = s.pc ∧ (Fh l R (s, t)).2.pc = t.pc
 | [], R, s, t, _, _ => ⟨Ref.refl _, Ref.refl _, rfl, rfl⟩
 | (a, b) :: l, R, s, t, hs, ht => by
  obtain ⟨h1, h2, h3, h4⟩ := JD (l := l) (R := R + 1) (s := LA a R (Qf b t) s) (t := LA b R (Qf a s) t) (Oy hs) (Oy ht)
  exact ⟨Oz.trans h1, Oz.trans h2, h3.trans QG, h4.trans QG⟩
theorem Ad.SE {rows rows' : List Row} {w : World} {B : Bd} (h : Ad e loc rows w B) (hl : rows'.length = rows.length)
  (hr : ∀ (r : Nat) x', rows'[r]? = some x' → ∃ x, rows[r]? = some x ∧ x'.own = x.own ∧ x'.ty = x.ty ∧ x'.es = x.es ∧ x'.lst = x.lst ∧ (x' = x ∨ (x.own = true ∧ ∀ vs, Af e rows.length loc x.cells vs → Af e rows.length loc x'.cells vs))) : Ad e loc rows' w B := by
 have lo : ∀ {r : Nat} {x x' : Row}, x'.lst = x.lst → Bq loc r x' → Bq loc r x := fun {r x x'} hx ⟨q, q1, q2, q3⟩ => ⟨q, by rw [← hx]; exact q1, q2, q3⟩
 refine ⟨fun r x' hx => ?_, fun r x' q hx hq => ?_, fun r s x' y' hx hy ox oy => ?_, fun r s x' y' hx hy ox oy hne => ?_⟩
 ·obtain ⟨x, h1, h2, h3, h4, h5, h6⟩ := hr r x' hx
  rcases h6 with rfl | ⟨h6, h7⟩
  ·rw [hl]; exact h.row r _ h1
  ·have := h.row r x h1
   unfold Av at this ⊢
   rw [if_pos h6] at this
   rw [if_pos (h2.trans h6), h3, h4, hl]
   obtain ⟨a1, a2, a3, a4, vs, sp, a5, a6, a7⟩ := this
   exact ⟨a1, a2, a3, a4, vs, sp, a5, h7 vs a6, a7⟩
 ·obtain ⟨x, h1, h2, h3, h4, h5, h6⟩ := hr r x' hx
  rw [h5] at hq
  obtain ⟨k1, k2⟩ := h.lst r x q h1 hq
  exact ⟨h2.trans k1, k2⟩
 ·obtain ⟨x, h1, h2, _, _, h5, _⟩ := hr r x' hx
  obtain ⟨y, g1, g2, _, _, g5, _⟩ := hr s y' hy
  refine h.lapart r s x y h1 g1 (lo h5 ox) ?_
  rcases oy with oy | ⟨oy, hne⟩
  ·exact .inl (g2.symm.trans oy)
  ·exact .inr ⟨lo g5 oy, hne⟩
 ·obtain ⟨x, h1, h2, _⟩ := hr r x' hx
  obtain ⟨y, g1, g2, _⟩ := hr s y' hy
  exact h.apart r s x y h1 g1 (h2.symm.trans ox) (g2.symm.trans oy) hne
section
variable {N r R : Nat} {q : L}
theorem Tw (hq : ∀ (v : Value), (K.lsl r q).rel e N loc v → (K.fsl R q).rel e N loc v) {k : K} {v : Value} (h : k.rel e N loc v) : (Vf r R q k).rel e N loc v := by
 unfold Vf
 split
 ·split
  ·rename_i hr
   have hr := eq_of_beq hr
   subst hr
   split
   ·rename_i hn
    have := L.Ae hn
    subst this
    exact hq v h
   ·exact K.BL h
  ·exact h
 ·exact h
theorem QH (hq : ∀ (v : Value), (K.lsl r q).rel e N loc v → (K.fsl R q).rel e N loc v) {k : C} {v : Value} (h : k.rel e N loc v) : (UD r R q k).rel e N loc v := by
 cases k with
 | k x => exact Tw hq h
 | clo f a b => exact h
 | cfn x f h' => exact h
theorem KR (hq : ∀ (v : Value), (K.lsl r q).rel e N loc v → (K.fsl R q).rel e N loc v) : ∀ {l : List C} {vs : List Value}, Af e N loc l vs → Af e N loc (l.map (UD r R q)) vs
 | [], [], _ => trivial
 | _ :: _, _ :: _, h => ⟨QH hq h.1, KR hq h.2⟩
theorem KS (hq : ∀ (v : Value), (K.lsl r q).rel e N loc v → (K.fsl R q).rel e N loc v) {p : PV} {v : Value} (h : p.rel e N loc v) : (RR r R q p).rel e N loc v := by
 cases p with
 | one c => exact QH hq h
 | agg l => obtain ⟨vs, h1, h2⟩ := h; exact ⟨vs, h1, KR hq h2⟩
theorem MF (hq : ∀ (v : Value), (K.lsl r q).rel e N loc v → (K.fsl R q).rel e N loc v) : ∀ {l : List PV} {vs : List Value}, Am e N loc l vs → Am e N loc (l.map (RR r R q)) vs
 | [], [], _ => trivial
 | _ :: _, _ :: _, h => ⟨KS hq h.1, MF hq h.2⟩
theorem SF (hq : ∀ (v : Value), (K.lsl r q).rel e N loc v → (K.fsl R q).rel e N loc v) {p : SV} {v : Value} (h : p.rel e N loc v) : (TY r R q p).rel e N loc v := by
 cases p with
 | pv p => exact KS hq h
 | tup l => obtain ⟨vs, h1, h2⟩ := h; exact ⟨vs, h1, MF hq h2⟩
 | cond gs p => exact ⟨fun hg => KS hq (h.1 hg), h.2⟩
 | undef => exact h
 | junk => trivial
end
theorem OA {r R : Nat} {s : St} : (G0 r R s).pc = s.pc := by
 unfold G0
 split
 ·split
  ·split <;> rfl
  ·rfl
 ·rfl
theorem MG {r R : Nat} {s : St} (h : s.rows.length ≤ R) : (G0 r R s).rows.length ≤ R + 1 := by
 unfold G0
 split
 ·split
  ·split
   ·simp [Ap]; omega
   ·omega
  ·omega
 ·omega
theorem Ej {l : List Row} {R : Nat} (h : l.length ≤ R) : (Ap l R).length = R := by simp [Ap]; omega
theorem Ref.LJ {s : St} {R : Nat} {x : Row} {fr : List SV} {rows : List Row} {pc : L} (hR : s.rows.length ≤ R)
  (hrl : rows.length = R + 1)
  (h : ∀ (loc : Loc) (tm : Array Value) (w : World) (B : Bd), Al e s.rows.length loc s.fr tm → Ad e loc s.rows w B → B.le w → ∃ (F : Nat → Prop) (v : Value), (∀ k, B.F k → F k) ∧ (∀ k, F k → B.F k ∨ (B.n ≤ k ∧ k < w.heap.size)) ∧ ∃ rows0 : List Row, rows0.length ≤ R ∧
   Ad e loc rows0 w ⟨B.n, F⟩ ∧ DX e (BZ ⟨B.n, F⟩ w) x v ∧
   (∀ loc', AA R loc loc' → loc' R = Dl v → Al e (R + 1) loc' s.fr tm → Ad e loc' (Ap rows0 R ++ [x]) w ⟨B.n, F⟩ → Al e (R + 1) loc' fr tm ∧ Ad e loc' rows w ⟨B.n, F⟩)) : Ref e w0 s ⟨fr, rows, pc⟩ := by
 intro loc tm w hf hcl
 obtain ⟨B, ⟨hBn, hBF, hBl⟩, hR0, hbel⟩ := hcl
 obtain ⟨F, v, f1, f2, rows0, hl0, hR1, hx, hfin⟩ := h loc tm w B hf hR0 hBl
 have hpl := Ej hl0
 have hadd := (hR1.pad R).LJ (news := [x]) (vs := [v]) fun t row ht => by
  cases t with
  | zero =>
   simp only [List.getElem?_cons_zero, Option.some.injEq] at ht
   subst ht
   exact ⟨v, rfl, hx⟩
  | succ t => simp at ht
 rw [hpl] at hadd
 have hx1 : AA R loc (Co loc R [v]) := B5 loc R [v]
 have hat : Co loc R [v] R = Dl v := by have := DK loc R [v] (t := 0) rfl; simpa using this
 obtain ⟨k1, k2⟩ := hfin _ hx1 hat (hf.ext (fun r hr => hx1 r (by omega)) (by omega)) hadd
 refine ⟨_, fun r hr => hx1 r (by omega), by show s.rows.length ≤ rows.length; omega, by show Al e rows.length _ fr tm; rw [hrl]; exact k1, ⟨B.n, F⟩, ⟨hBn, fun k hk => ?_, hBl.1, fun k hk => ?_⟩, k2, hbel⟩
 ·rcases f2 k hk with h1 | h1
  ·exact hBF k h1
  ·exact .inr h1.1
 ·rcases f2 k hk with h1 | h1
  ·exact hBl.2 k h1
  ·exact h1.2
theorem MH {r R : Nat} {s : St} : Ref e w0 s (G0 r R s) := by
 unfold G0
 split
 ·rename_i row hrow
  split
  ·rename_i q hq
   split
   ·rename_i hc
    simp only [Bool.and_eq_true, decide_eq_true_eq] at hc
    obtain ⟨c1, c2⟩ := hc
    have hr1 := Ab hrow
    refine Ref.LJ (x := By q.ss q.x q.n) c2 (by simp [Ap]; omega) fun loc tm w B hf hR0 hBl => ?_
    obtain ⟨as, m, l1, l2, l3, l4, l5⟩ := (hR0.lst r row q hrow hq).2
    rw [if_pos c1] at l5
    have rest : ∀ (v : Value), (∀ u, (K.lsl r q.n).rel e (R + 1) loc u → u = v ∧ ∃ a c, v = .slice a m c) → ∀ (F : Nat → Prop), ∀ loc', AA R loc loc' → loc' R = Dl v → Al e (R + 1) loc' s.fr tm → Ad e loc' (Ap (s.rows.set r Row.dead) R ++ [By q.ss q.x q.n]) w ⟨B.n, F⟩ →
      Al e (R + 1) loc' (s.fr.map (TY r R q.n)) tm ∧ Ad e loc' ((Ap (s.rows.set r Row.dead) R ++ [By q.ss q.x q.n]).map (RT r R q.n)) w ⟨B.n, F⟩ := fun v hv F loc' hx hat hf' hR' => by
     have hpl : (Ap (s.rows.set r Row.dead) R).length = R := Ej (by simpa using c2)
     have hq' : ∀ u, (K.lsl r q.n).rel e (R + 1) loc' u → (K.fsl R q.n).rel e (R + 1) loc' u := fun u hu => by
      have hlr : loc' r = loc r := hx r (by omega)
      have hu0 : (K.lsl r q.n).rel e (R + 1) loc u := by
       obtain ⟨h1, h2, h3⟩ := hu
       simp only [K.ok, K.A0, hlr] at h1 h3
       exact ⟨h1, h2, h3⟩
      obtain ⟨rfl, a, c, hv2⟩ := hv u hu0
      refine ⟨⟨by omega, hu.1.2.1, a, c, by rw [hat, Cn, l3]; simpa using hv2⟩, hu.2.1, .inr ?_⟩
      simp only [K.A0]
      rw [hat, Cn]
     refine ⟨⟨by simpa using hf'.len, fun i t u ht hu => ?_⟩, hR'.SE (by simp) fun r' x' hx' => ?_⟩
     ·rw [List.getElem?_map] at ht
      cases hs : s.fr[i]? with
      | none => rw [hs] at ht; cases ht
      | some y =>
       rw [hs] at ht
       simp only [Option.map_some, Option.some.injEq] at ht
       subst ht
       exact SF hq' (hf'.at_ i y u hs hu)
     ·rw [List.getElem?_map] at hx'
      cases hs : (Ap (s.rows.set r Row.dead) R ++ [By q.ss q.x q.n])[r']? with
      | none => rw [hs] at hx'; cases hx'
      | some y =>
       rw [hs] at hx'
       simp only [Option.map_some, Option.some.injEq] at hx'
       subst hx'
       refine ⟨y, rfl, ?_⟩
       unfold RT
       split
       ·rename_i ho
        refine ⟨rfl, rfl, rfl, rfl, .inr ⟨ho, fun vs hvs => ?_⟩⟩
        have hll : (Ap (s.rows.set r Row.dead) R ++ [By q.ss q.x q.n]).length = R + 1 := by simp [hpl]
        rw [hll] at hvs ⊢
        exact KR hq' hvs
       ·exact ⟨rfl, rfl, rfl, rfl, .inl rfl⟩
    cases he : (loc r).emp
    ·rw [if_neg (by simp [he])] at l5
     obtain ⟨g1, g2, g3, us, sp, g4, g5, g6⟩ := l5
     have hF : ∀ k, B.F k → (B.F k ∨ k = (loc r).blk) := fun k hk => .inl hk
     have hm : ∀ a u, BZ B w a = some u → BZ ⟨B.n, fun k => B.F k ∨ k = (loc r).blk⟩ w a = some u := GM hF fun _ _ => rfl
     refine ⟨fun k => B.F k ∨ k = (loc r).blk, .slice (some ⟨(loc r).blk, 0, none⟩) m (loc r).cap, hF, fun k hk => ?_, s.rows.set r Row.dead, by simpa using c2, (hR0.kill r).Oa hF fun s' x hs ho => ?_, ⟨rfl, rfl, _, as, m, rfl, rfl, l4, l1, l2, l3, ?_⟩, rest _ (fun u hu => ?_) _⟩
     ·rcases hk with hk | rfl
      ·exact .inl hk
      ·exact .inr ⟨g2.1, Eb g4⟩
     ·intro h0
      by_cases hsr : s' = r
      ·subst hsr
       rw [List.getElem?_set_self hr1] at hs
       injection hs with hs
       subst hs
       rcases ho with ho | ⟨_, ho, _⟩ <;> simp [Row.dead] at ho
      ·rw [List.getElem?_set_ne (Ne.symm hsr)] at hs
       have hlo : Bq loc r row := ⟨q, hq, c1, he⟩
       rcases h0 with h0 | h0
       ·rcases ho with ho | ho
        ·have := hR0.row s' x hs
         unfold Av at this
         rw [if_pos ho] at this
         exact this.2.2.1.2 h0
        ·exact (hR0.N9 hs ho).2.2 h0
       ·refine hR0.lapart r s' row x hrow hs hlo ?_ h0.symm
        rcases ho with ho | ho
        ·exact .inl ho
        ·exact .inr ⟨ho, Ne.symm hsr⟩
     ·have hul : us.length = as.length := g6.1
      by_cases hm0 : as = []
      ·subst hm0
       have : m = 0 := by
        rcases Nat.mul_eq_zero.1 (show m * q.ss.length = 0 from l2.symm) with h | h
        ·exact h
        ·omega
       subst this
       exact .emp
      ·refine .sl l4 l2 hul (fun j u hu => ?_) (fun j s' a u h1 h2 h3 => (g6.2 j s' a u h1 h2 h3).mono hm)
       refine C2 ?_ (.inr rfl)
       simp only [World.cell?, g4, Nat.zero_add]
       simp [List.getElem?_append_left (Ab hu), hu]
     ·obtain ⟨h1, _, h3⟩ := hu
      rcases h3 with h3 | h3
      ·cases h3
      ·simp only [K.A0, he, Bool.false_eq_true, if_false] at h3
       rw [g1, l3] at h3
       exact ⟨by simpa using h3, _, _, rfl⟩
    ·rw [if_pos he] at l5
     have has : as = [] := List.eq_nil_of_length_eq_zero (by rw [l2, l5.1]; simp)
     subst has
     refine ⟨B.F, .slice none 0 0, fun k hk => hk, fun k hk => .inl hk, s.rows.set r Row.dead, by simpa using c2, hR0.kill r, ⟨rfl, rfl, _, [], m, rfl, rfl, l4, l1, l2, l3, .emp⟩, rest _ (fun u hu => ?_) _⟩
     obtain ⟨h1, _, h3⟩ := hu
     rcases h3 with h3 | h3
     ·cases h3
     ·simp only [K.A0, he, if_true] at h3
      exact ⟨h3.trans l5.2, none, 0, by rw [l5.1]⟩
   ·exact Ref.refl _
  ·exact Ref.refl _
 ·exact Ref.refl _
theorem OB {s : St} {p : Pos} {k : K} (h : UE s p = some k) : (∃ i, p = .slot i ∧ s.fr[i]? = some (.pv (.one (.k k)))) ∨ (∃ r j row, p = .cell r j ∧ s.rows[r]? = some row ∧ row.own = true ∧ row.cells[j]? = some (.k k)) := by
 unfold UE at h
 split at h
 ·rename_i i
  split at h
  ·injection h with h; subst h; exact .inl ⟨i, rfl, ‹_›⟩
  ·cases h
 ·rename_i r j
  split at h
  ·rename_i row hrow
   split at h
   ·rename_i k' hk
    split at h
    ·rename_i ho
     injection h with h; subst h
     exact .inr ⟨r, j, row, rfl, hrow, ho, hk⟩
    ·cases h
   ·cases h
  ·cases h
theorem Hd {N : Nat} {k : C} : ∀ {l : List C} {vs : List Value} {j : Nat} {c : C}, l[j]? = some c → (∀ v, c.rel e N loc v → k.rel e N loc v) → Af e N loc l vs → Af e N loc (l.set j k) vs
 | [], _, _, _, h, _, _ => by simp at h
 | a :: l, [], _, _, _, _, h => h.elim
 | a :: l, v :: vs, 0, c, h, hk, hv => by
  simp only [List.getElem?_cons_zero, Option.some.injEq] at h
  subst h
  exact ⟨hk v hv.1, hv.2⟩
 | a :: l, v :: vs, j + 1, c, h, hk, hv => ⟨hv.1, Hd (by simpa using h) hk hv.2⟩
theorem SG {s : St} {p : Pos} {R : Nat} {k : K} {ss : List Aj} {x n : L} (hk : UE s p = some k) (hR : s.rows.length ≤ R)
  (h : ∀ (loc : Loc) (w : World) (B : Bd), Ad e loc s.rows w B → (∃ u, k.rel e s.rows.length loc u) → ∃ v, DX e (BZ B w) (By ss x n) v ∧ ∀ u, k.rel e (R + 1) loc u → u = v) :
  Ref e w0 s (FQ { s with rows := Ap s.rows R ++ [By ss x n] } p (.fsl R n)) := by
 have hpl := Ej hR
 have hlen : ∀ {s' : St}, (FQ s' p (.fsl R n)).rows.length = s'.rows.length := fun {s'} => by
  unfold FQ
  split
  ·rfl
  ·split <;> simp
 have hpc : ∀ {s' : St}, (FQ s' p (.fsl R n)).pc = s'.pc := fun {s'} => by
  unfold FQ
  split
  ·rfl
  ·split <;> rfl
 intro loc tm w hf hcl
 refine (Ref.LJ (e := e) (w0 := w0) (s := s) (R := R) (x := By ss x n) (fr := (FQ { s with rows := Ap s.rows R ++ [By ss x n] } p (.fsl R n)).fr) (rows := (FQ { s with rows := Ap s.rows R ++ [By ss x n] } p (.fsl R n)).rows) (pc := (FQ { s with rows := Ap s.rows R ++ [By ss x n] } p (.fsl R n)).pc) hR (by rw [hlen]; simp [hpl]) fun loc tm w B hf hR0 hBl => ?_) loc tm w hf hcl
 have hu0 : ∃ u, k.rel e s.rows.length loc u := by
  rcases OB hk with ⟨i, _, hi⟩ | ⟨r, j, row, _, hrow, ho, hc⟩
  ·obtain ⟨v, _, _, h3⟩ := hf.get hi
   exact ⟨v, h3⟩
  ·obtain ⟨v, _, h3⟩ := hR0.cell hrow hc
   exact ⟨v, h3⟩
 obtain ⟨v, hx, hv⟩ := h loc w B hR0 hu0
 refine ⟨B.F, v, fun k hk => hk, fun k hk => .inl hk, s.rows, hR, hR0, hx, fun loc' hx1 hat hf' hR' => ?_⟩
 have hll : (Ap s.rows R ++ [By ss x n]).length = R + 1 := by simp [hpl]
 have hkk : ∀ u, k.rel e s.rows.length loc u → (K.fsl R n).rel e (R + 1) loc' u := fun u hu => by
  have e1 := hv u (K.Be hu (AA.refl _ _) (by omega))
  subst e1
  obtain ⟨_, _, q, as, m, q1, q2, q3, q4, q5, q6, q7⟩ := hx
  simp only [By, Option.some.injEq] at q1
  subst q1
  obtain ⟨as', m', c, b, k1, k2, k3, k4⟩ := q7.slice
  injection k1 with k1
  subst k1
  have : m' = m := Nat.eq_of_mul_eq_mul_right q3 (by rw [← k3, q5])
  subst this
  refine ⟨⟨by omega, by rw [q6]; omega, b, c, by rw [hat, Cn, q6]; simpa using k2⟩, hu.2.1, .inr ?_⟩
  simp only [K.A0]
  rw [hat, Cn]
 rcases OB hk with ⟨i, rfl, hi⟩ | ⟨r, j, row, rfl, hrow, ho, hc⟩
 ·refine ⟨?_, hR'⟩
  refine ⟨by simpa [FQ] using hf'.len, fun i' t u ht hu => ?_⟩
  simp only [FQ] at ht
  by_cases hii : i = i'
  ·subst hii
   rw [List.getElem?_set_self (Ab hi)] at ht
   injection ht with ht
   subst ht
   exact hkk u (hf.at_ i _ u hi hu)
  ·rw [List.getElem?_set_ne hii] at ht
   exact hf'.at_ i' t u ht hu
 ·have hr1 := Ab hrow
  have hrow' : (Ap s.rows R ++ [By ss x n])[r]? = some row := by
   rw [List.getElem?_append_left (by omega)]
   unfold Ap
   rw [List.getElem?_append_left hr1]
   exact hrow
  have hput : FQ { s with rows := Ap s.rows R ++ [By ss x n] } (.cell r j) (.fsl R n) = { s with rows := (Ap s.rows R ++ [By ss x n]).set r { row with cells := row.cells.set j (.k (.fsl R n)) } } := by
   simp only [FQ, hrow']
  rw [hput]
  refine ⟨hf', hR'.SE (by simp) fun r' x' hx' => ?_⟩
  by_cases hrr : r = r'
  ·subst hrr
   rw [List.getElem?_set_self (by omega)] at hx'
   injection hx' with hx'
   subst hx'
   refine ⟨row, hrow', rfl, rfl, rfl, rfl, .inr ⟨ho, fun vs hvs => ?_⟩⟩
   have hrow0 := hR0.row r row hrow
   unfold Av at hrow0
   rw [if_pos ho] at hrow0
   obtain ⟨_, _, _, _, vs0, sp0, b5, b6, _⟩ := hrow0
   have hrow1 := hR'.row r row hrow'
   rw [hll] at hvs ⊢
   refine Hd (c := .k k) hc (fun u hu => ?_) hvs
   refine hkk u ?_
   obtain ⟨u1, _, h3⟩ := hR0.cell hrow hc
   have h3' : k.rel e (R + 1) loc' u1 := K.Be h3 (fun r hr => hx1 r (by omega)) (by omega)
   have hs : k.Cr = true := by
    cases k with
    | junk =>
     have e1 := hv u (K.BL (k := .junk) hu)
     have hb : (PV.one (.k .junk)).rel e (R + 1) loc (.bool true) := K.BL (k := .bool (.t true)) ⟨trivial, rfl, .inr rfl⟩
     have hb2 : (PV.one (.k .junk)).rel e (R + 1) loc (.bool false) := K.BL (k := .bool (.t false)) ⟨trivial, rfl, .inr rfl⟩
     have e2 := hv _ hb
     have e3 := hv _ hb2
     rw [← e2] at e3
     cases e3
    | _ => rfl
   rw [K.B0 hs hu h3']
   exact h3
  ·rw [List.getElem?_set_ne hrr] at hx'
   exact ⟨x', hx', rfl, rfl, rfl, rfl, .inl rfl⟩
theorem OC {p : Pos} {R : Nat} {ss : List Aj} {s : St} : Ref e w0 s (LB p R ss s) := by
 unfold LB
 split
 ·rename_i r n hk
  split
  ·rename_i row hrow
   split
   ·rename_i q hq
    split
    ·rename_i hc
     simp only [Bool.and_eq_true, Bool.not_eq_true', decide_eq_true_eq] at hc
     obtain ⟨⟨c1, c2⟩, c3⟩ := hc
     have c2 := L.Ae c2
     refine SG hk c3 fun loc w B hR0 _ => ?_
     obtain ⟨as, m, l1, l2, l3, l4, l5⟩ := (hR0.lst r row q hrow hq).2
     rw [if_neg (by simp [c1])] at l5
     refine ⟨(loc r).v, ⟨rfl, rfl, _, as, m, rfl, rfl, l4, l1, l2, l3, l5.2⟩, fun u hu => ?_⟩
     rcases hu.2.2 with h3 | h3
     ·cases h3
     ·exact h3
    ·exact Ref.refl _
   ·exact Ref.refl _
  ·exact Ref.refl _
 ·rename_i hk
  split
  ·rename_i hc
   simp only [Bool.and_eq_true, bne_iff_ne, ne_eq, decide_eq_true_eq] at hc
   obtain ⟨c1, c2⟩ := hc
   refine SG hk c2 fun loc w B hR0 _ => ⟨.slice none 0 0, ⟨rfl, rfl, _, [], 0, rfl, rfl, Nat.pos_of_ne_zero c1, rfl, by simp, rfl, .emp⟩, fun u hu => ?_⟩
   rcases hu.2.2 with h3 | h3
   ·cases h3
   ·exact h3
  ·exact Ref.refl _
 ·exact Ref.refl _
theorem QI {p : Pos} {R : Nat} {ss : List Aj} {s : St} : (LB p R ss s).pc = s.pc := by
 have hpc : ∀ {s' : St} {k : K}, (FQ s' p k).pc = s'.pc := fun {s' k} => by
  unfold FQ
  split
  ·rfl
  ·split <;> rfl
 unfold LB
 split
 ·split
  ·split
   ·split
    ·exact hpc
    ·rfl
   ·rfl
  ·rfl
 ·split
  ·exact hpc
  ·rfl
 ·rfl
theorem OD {p : Pos} {R : Nat} {ss : List Aj} {s : St} (h : s.rows.length ≤ R) : (LB p R ss s).rows.length ≤ R + 1 := by
 have hlen : ∀ {s' : St} {k : K}, (FQ s' p k).rows.length = s'.rows.length := fun {s' k} => by
  unfold FQ
  split
  ·rfl
  ·split <;> simp
 have hp : ∀ (x : Row), (Ap s.rows R ++ [x]).length = R + 1 := fun x => by simp [Ej h]
 unfold LB
 split
 ·split
  ·split
   ·split
    ·rw [hlen, hp]; exact Nat.le_refl _
    ·omega
   ·omega
  ·omega
 ·split
  ·rw [hlen, hp]; exact Nat.le_refl _
  ·omega
 ·omega
theorem KT : ∀ {l : List Nat} {R : Nat} {s t : St}, s.rows.length ≤ R → t.rows.length ≤ R →
  Ref e w0 s (Hq l R (s, t)).1 ∧ Ref e w0 t (Hq l R (s, t)).2 ∧ (Hq l R (s, t)).1.pc = s.pc ∧ (Hq l R (s, t)).2.pc = t.pc
 | [], R, s, t, _, _ => ⟨Ref.refl _, Ref.refl _, rfl, rfl⟩
 | r :: l, R, s, t, hs, ht => by
  obtain ⟨h1, h2, h3, h4⟩ := KT (l := l) (R := R + 1) (s := G0 r R s) (t := G0 r R t) (MG hs) (MG ht)
  exact ⟨MH.trans h1, MH.trans h2, h3.trans OA, h4.trans OA⟩
theorem MI : ∀ {l : List (Pos × K × K)} {R : Nat} {s t : St}, s.rows.length ≤ R → t.rows.length ≤ R →
  Ref e w0 s (Mc l R (s, t)).1 ∧ Ref e w0 t (Mc l R (s, t)).2 ∧ (Mc l R (s, t)).1.pc = s.pc ∧ (Mc l R (s, t)).2.pc = t.pc
 | [], R, s, t, _, _ => ⟨Ref.refl _, Ref.refl _, rfl, rfl⟩
 | (p, _, _) :: l, R, s, t, hs, ht => by
  obtain ⟨h1, h2, h3, h4⟩ := MI (l := l) (R := R + 1) (s := LB p R (Th p t) s) (t := LB p R (Th p s) t) (OD hs) (OD ht)
  exact ⟨OC.trans h1, OC.trans h2, h3.trans QI, h4.trans QI⟩
theorem LX {s t : St} : Ref e w0 s (Cs s t).1 ∧ Ref e w0 t (Cs s t).2 ∧ (Cs s t).1.pc = s.pc ∧ (Cs s t).2.pc = t.pc := by
 unfold Cs
 obtain ⟨a1, a2, a3, a4⟩ := JD (e := e) (w0 := w0) (l := Hp s.fr t.fr 0 []) (R := max s.rows.length t.rows.length) (s := s) (t := t) (by omega) (by omega)
 generalize Fh (Hp s.fr t.fr 0 []) (max s.rows.length t.rows.length) (s, t) = x at a1 a2 a3 a4 ⊢
 obtain ⟨s1, t1⟩ := x
 simp only at a1 a2 a3 a4
 unfold RU
 split
 ·exact ⟨a1, a2, a3, a4⟩
 ·rename_i ps hps
  obtain ⟨b1, b2, b3, b4⟩ := KT (e := e) (w0 := w0) (l := Mb (Ka s1 t1)) (R := Fi (s1, t1)) (s := s1) (t := t1) (by simp only [Fi]; omega) (by simp only [Fi]; omega)
  simp only
  generalize Hq (Mb (Ka s1 t1)) (Fi (s1, t1)) (s1, t1) = y at b1 b2 b3 b4 ⊢
  obtain ⟨s2, t2⟩ := y
  simp only at b1 b2 b3 b4
  obtain ⟨d1, d2, d3, d4⟩ := MI (e := e) (w0 := w0) (l := Ka s2 t2) (R := Fi (s2, t2)) (s := s2) (t := t2) (by simp only [Fi]; omega) (by simp only [Fi]; omega)
  exact ⟨a1.trans (b1.trans d1), a2.trans (b2.trans d2), d3.trans (b3.trans a3), d4.trans (b4.trans a4)⟩
theorem NM {c : L} {both : Option (L × L × L)} {s t : L} {g : G} (h : Good T e (D6 c both s t g).2)
  (hb : ∀ p x y, both = some (p, x, y) → (x.ev e).bool = ((p.ev e).bool && (c.ev e).bool) ∧ (y.ev e).bool = ((p.ev e).bool && !(c.ev e).bool)) :
  Good T e g ∧ ((D6 c both s t g).1.ev e).bool = ((pick (c.ev e).bool s t).ev e).bool := by
 unfold D6 at h ⊢
 split at h
 ·rename_i p x y
  split at h
  ·rename_i hs
   simp only [hs, if_true]
   simp only [Bool.and_eq_true] at hs
   obtain ⟨b1, b2⟩ := hb _ _ _ rfl
   rw [← L.Ae hs.1] at b1
   rw [← L.Ae hs.2] at b2
   refine ⟨h, ?_⟩
   cases hc : (c.ev e).bool <;> simp [pick, hc] at b1 b2 ⊢
   ·exact b2.symm
   ·exact b1.symm
  ·rename_i hs
   simp only [hs, Bool.false_eq_true, if_false]
   have := Db h
   refine ⟨this.1, this.2.trans ?_⟩
   cases hc : (c.ev e).bool <;> simp [pick]
 ·have := Db h
  refine ⟨this.1, this.2.trans ?_⟩
  cases hc : (c.ev e).bool <;> simp [pick]
theorem DE {c : L} {both : Option (L × L × L)} {s t : St} {g : G} (h : Good T e (BD c both s t g).2)
  (hb : ∀ p x y, both = some (p, x, y) → (x.ev e).bool = ((p.ev e).bool && (c.ev e).bool) ∧ (y.ev e).bool = ((p.ev e).bool && !(c.ev e).bool)) :
  Good T e g ∧ Ref e w0 (pick (c.ev e).bool s t) (BD c both s t g).1 ∧ ((BD c both s t g).1.pc.ev e).bool = ((pick (c.ev e).bool s t).pc.ev e).bool := by
 unfold BD at h ⊢
 obtain ⟨ra, rb, pa, pb⟩ := LX (e := e) (w0 := w0) (s := s) (t := t)
 generalize Cs s t = st at h ra rb pa pb ⊢
 obtain ⟨s', t'⟩ := st
 simp only at h ra rb pa pb ⊢
 suffices hh : Good T e g ∧ Ref e w0 (pick (c.ev e).bool s' t') ⟨(AW c s'.fr t'.fr g).1, (AT c s'.rows t'.rows (AW c s'.fr t'.fr g).2).1, (D6 c both s'.pc t'.pc (AT c s'.rows t'.rows (AW c s'.fr t'.fr g).2).2).1⟩ ∧
   ((D6 c both s'.pc t'.pc (AT c s'.rows t'.rows (AW c s'.fr t'.fr g).2).2).1.ev e).bool = ((pick (c.ev e).bool s' t').pc.ev e).bool by
  obtain ⟨k1, k2, k3⟩ := hh
  refine ⟨k1, Ref.trans ?_ k2, k3.trans ?_⟩
  ·cases hc : (c.ev e).bool
   ·exact rb
   ·exact ra
  ·cases hc : (c.ev e).bool
   ·simp only [pick, Bool.false_eq_true, if_false, pb]
   ·simp only [pick, if_true, pa]
 revert h
 generalize s' = s
 generalize t' = t
 intro h
 obtain ⟨hg1, hpc1⟩ := NM h hb
 have hr := CH hg1
 have hf := DA hr.1
 refine ⟨hf.1, fun loc tm w h1 h2 => ?_, ?_⟩
 ·have q1 : (pick (c.ev e).bool s t).fr = pick (c.ev e).bool s.fr t.fr := by cases (c.ev e).bool <;> rfl
  have q2 : (pick (c.ev e).bool s t).rows = pick (c.ev e).bool s.rows t.rows := by cases (c.ev e).bool <;> rfl
  rw [q1, q2] at h1
  rw [q2] at h2 ⊢
  have hlen : (pick (c.ev e).bool s.rows t.rows).length ≤ (AT c s.rows t.rows (AW c s.fr t.fr g).2).1.length := by
   cases hc : (c.ev e).bool
   ·exact hr.2.2.1
   ·exact hr.2.1
  exact ⟨loc, AA.refl _ _, hlen, (Al.merge hr.1 h1).ext (AA.refl _ _) hlen, by obtain ⟨B, hB, hR, hbel⟩ := h2; exact ⟨B, hB, Ad.merge hg1 hR, hbel⟩⟩
 ·rw [hpc1]
  cases (c.ev e).bool <;> rfl
theorem HM {nc : L} : ∀ {o : Ah} {g : G}, Good T e (Kb nc o g).2 → Good T e g ∧
  (∀ x u, Ah.get x (Kb nc o g).1 = some u → (u.pc.ev e).bool = true → (nc.ev e).bool = true ∧ ∃ t, Ah.get x o = some t ∧ (t.pc.ev e).bool = true) ∧
  ((nc.ev e).bool = true → ∀ x t, Ah.get x o = some t → (t.pc.ev e).bool = true → ∃ u, Ah.get x (Kb nc o g).1 = some u ∧ (u.pc.ev e).bool = true ∧ Ref e w0 t u)
 | [], g, h => ⟨h, fun x u hx => by simp [Kb, Ah.get] at hx, fun _ x t hx => by simp [Ah.get] at hx⟩
 | (y, t) :: l, g, h => by
  unfold Kb at h ⊢
  simp only at h ⊢
  have h2 := HM h
  have h1 := AF h2.1
  refine ⟨h1.1, fun x u hx hu => ?_, fun hnc x s hx hs => ?_⟩
  ·by_cases hxy : x = y
   ·subst hxy
    rw [Aq] at hx
    injection hx with hx
    subst hx
    simp only at hu
    rw [h1.2, Bool.and_eq_true] at hu
    exact ⟨hu.1, t, Aq, hu.2⟩
   ·rw [AG hxy] at hx
    obtain ⟨a1, s, a2, a3⟩ := h2.2.1 x u hx hu
    exact ⟨a1, s, by rw [AG hxy]; exact a2, a3⟩
  ·by_cases hxy : x = y
   ·subst hxy
    rw [Aq] at hx
    injection hx with hx
    subst hx
    exact ⟨_, Aq, by simp only; rw [h1.2, hnc, hs]; rfl, Ref.pc _⟩
   ·rw [AG hxy] at hx
    obtain ⟨u, a1, a2, a3⟩ := h2.2.2 hnc x s hx hs
    exact ⟨u, by rw [AG hxy]; exact a1, a2, a3⟩
theorem CJ {c nc : L} {both : Option (L × L × L)} (hnc : (nc.ev e).bool = !(c.ev e).bool)
  (hb : ∀ p x y, both = some (p, x, y) → (x.ev e).bool = ((p.ev e).bool && (c.ev e).bool) ∧ (y.ev e).bool = ((p.ev e).bool && !(c.ev e).bool)) : ∀ {o1 o2 : Ah} {g : G},
  Good T e (combine c nc both o1 o2 g).2 → Good T e g ∧
  (∀ x u, Ah.get x (combine c nc both o1 o2 g).1 = some u → (u.pc.ev e).bool = true →
   ((c.ev e).bool = true ∧ ∃ s, Ah.get x o1 = some s ∧ (s.pc.ev e).bool = true) ∨ ((c.ev e).bool = false ∧ ∃ t, Ah.get x o2 = some t ∧ (t.pc.ev e).bool = true)) ∧
  ((c.ev e).bool = true → ∀ x s, Ah.get x o1 = some s → (s.pc.ev e).bool = true → ∃ u, Ah.get x (combine c nc both o1 o2 g).1 = some u ∧ (u.pc.ev e).bool = true ∧ Ref e w0 s u) ∧
  ((c.ev e).bool = false → ∀ x t, Ah.get x o2 = some t → (t.pc.ev e).bool = true → ∃ u, Ah.get x (combine c nc both o1 o2 g).1 = some u ∧ (u.pc.ev e).bool = true ∧ Ref e w0 t u)
 | [], o2, g, h => by
  unfold combine at h ⊢
  have h1 := HM (w0 := w0) h
  refine ⟨h1.1, fun x u hx hu => ?_, fun _ x s hx => by simp [Ah.get] at hx, fun hc => h1.2.2 (by rw [hnc, hc]; rfl)⟩
  obtain ⟨a1, a2⟩ := h1.2.1 x u hx hu
  exact .inr ⟨by rw [hnc] at a1; simpa using a1, a2⟩
 | (y, s) :: l, o2, g, h => by
  unfold combine at h ⊢
  cases ht : Ah.get y o2 with
  | some t =>
   rw [ht] at h
   simp only at h ⊢
   have h2 := CJ hnc hb h
   have h1 := DE (w0 := w0) h2.1 hb
   refine ⟨h1.1, fun x u hx hu => ?_, fun hc x s' hx hs' => ?_, fun hc x t' hx ht' => ?_⟩
   ·by_cases hxy : x = y
    ·subst hxy
     rw [Aq] at hx
     injection hx with hx
     subst hx
     rw [h1.2.2] at hu
     cases hc : (c.ev e).bool <;> simp only [pick, hc, if_true, if_false, Bool.false_eq_true] at hu
     ·exact .inr ⟨rfl, t, ht, hu⟩
     ·exact .inl ⟨rfl, s, Aq, hu⟩
    ·rw [AG hxy] at hx
     rw [AG hxy]
     rcases h2.2.1 x u hx hu with a | ⟨a, b⟩
     ·exact .inl a
     ·exact .inr ⟨a, by rwa [AK hxy] at b⟩
   ·by_cases hxy : x = y
    ·subst hxy
     rw [Aq] at hx
     injection hx with hx
     subst hx
     refine ⟨_, Aq, ?_, ?_⟩
     ·rw [h1.2.2]; simp only [pick, hc, if_true]; exact hs'
     ·have := h1.2.1; simp only [pick, hc, if_true] at this; exact this
    ·rw [AG hxy] at hx
     obtain ⟨u, a1, a2, a3⟩ := h2.2.2.1 hc x s' hx hs'
     exact ⟨u, by rw [AG hxy]; exact a1, a2, a3⟩
   ·by_cases hxy : x = y
    ·subst hxy
     rw [ht] at hx
     injection hx with hx
     subst hx
     refine ⟨_, Aq, ?_, ?_⟩
     ·rw [h1.2.2]; simp only [pick, hc, Bool.false_eq_true, if_false]; exact ht'
     ·have := h1.2.1; simp only [pick, hc, Bool.false_eq_true, if_false] at this; exact this
    ·obtain ⟨u, a1, a2, a3⟩ := h2.2.2.2 hc x t' (by rw [AK hxy]; exact hx) ht'
     exact ⟨u, by rw [AG hxy]; exact a1, a2, a3⟩
  | none =>
   rw [ht] at h
   simp only at h ⊢
   have h2 := CJ hnc hb h
   have h1 := AF h2.1
   refine ⟨h1.1, fun x u hx hu => ?_, fun hc x s' hx hs' => ?_, fun hc x t' hx ht' => ?_⟩
   ·by_cases hxy : x = y
    ·subst hxy
     rw [Aq] at hx
     injection hx with hx
     subst hx
     simp only at hu
     rw [h1.2, Bool.and_eq_true] at hu
     exact .inl ⟨hu.1, s, Aq, hu.2⟩
    ·rw [AG hxy] at hx
     rw [AG hxy]
     exact h2.2.1 x u hx hu
   ·by_cases hxy : x = y
    ·subst hxy
     rw [Aq] at hx
     injection hx with hx
     subst hx
     exact ⟨_, Aq, by simp only; rw [h1.2, hc, hs']; rfl, Ref.pc _⟩
    ·rw [AG hxy] at hx
     obtain ⟨u, a1, a2, a3⟩ := h2.2.2.1 hc x s' hx hs'
     exact ⟨u, by rw [AG hxy]; exact a1, a2, a3⟩
   ·have hxy : x ≠ y := fun h0 => by rw [h0, ht] at hx; cases hx
    obtain ⟨u, a1, a2, a3⟩ := h2.2.2.2 hc x t' hx ht'
    exact ⟨u, by rw [AG hxy]; exact a1, a2, a3⟩
def EO.to : EO → Exit
 | .norm => .normal
 | .exit id => .exit id
 | .ret => .ret
def OE (e : Nat → A) (w0 : W0) (loc : Loc) (m : Nat) (a : Act) (s : St) (Q : Act → World → Prop) : Prop :=
 ∀ (loc' : Loc) (a' : Act) (w' : World), AA m loc loc' → m ≤ s.rows.length → Al e s.rows.length loc' s.fr a'.tmps → a'.defers = a.defers → AY e w0 loc' s.rows w' → Q a' w'
structure Ends (P : Program) (T : Nat → List A → Bool × List A) (e : Nat → A) (w0 : W0) (S : St) (W : (Exit → Act → World → Prop) → Act → World → Prop) (outs : Ah) : Prop where
 pc : ∀ x s, Ah.get x outs = some s → (s.pc.ev e).bool = true → (S.pc.ev e).bool = true
 one : ∀ x y s t, Ah.get x outs = some s → Ah.get y outs = some t → (s.pc.ev e).bool = true → (t.pc.ev e).bool = true → x = y
 wp : ∀ (loc : Loc) (a : Act) (w : World) (Q : Exit → Act → World → Prop), (S.pc.ev e).bool = true → Al e S.rows.length loc S.fr a.tmps → AY e w0 loc S.rows w →
  (∀ x s, Ah.get x outs = some s → (s.pc.ev e).bool = true → OE e w0 loc S.rows.length a s (Q x.to)) → W Q a w
theorem OE.mono {m : Nat} {a : Act} {s : St} {Q Q' : Act → World → Prop} (h : OE e w0 loc m a s Q) (hq : ∀ a w, Q a w → Q' a w) : OE e w0 loc m a s Q' :=
 fun loc' a' w' h1 h2 h3 h4 h5 => hq _ _ (h loc' a' w' h1 h2 h3 h4 h5)
theorem OE.ref {m : Nat} {a : Act} {s u : St} {Q : Act → World → Prop} (h : OE e w0 loc m a u Q) (hr : Ref e w0 s u) : OE e w0 loc m a s Q :=
 fun loc' a' w' h1 h2 h3 h4 h5 => by
  obtain ⟨loc2, x2, r1, r2, r3⟩ := hr loc' a'.tmps w' h3 h5
  exact h loc2 a' w' (h1.trans x2 h2) (Nat.le_trans h2 r1) r2 h4 r3
end
end Rx
namespace Rx
open Go Go.RowKit
def LW (P : Program) (c : Code) (Q : Exit → Act → World → Prop) (a : Act) (w : World) : Prop :=
 ∀ (b : Frame) (k : List Item) (cs : List Frame), ∃ e a' w', Q e a' w' ∧ Arrives P (lone (b.at a (.code c :: .inLoop c :: k)) cs w) b k cs e a' w'
theorem LW.of {P : Program} {c : Code} {Q : Exit → Act → World → Prop} {a : Act} {w : World} (h : c.wp P (Exit.then (LW P c Q) Q) a w) : LW P c Q a w := by
 intro b k cs
 obtain ⟨e, a₁, w₁, hq, harr⟩ := h b (.inLoop c :: k) cs
 cases e with
 | normal =>
  obtain ⟨e₂, a₂, w₂, hq₂, harr₂⟩ := hq b k cs
  exact ⟨e₂, a₂, w₂, hq₂, .of_steps (Steps.trans harr (.one step_inLoop)) harr₂⟩
 | exit id => exact ⟨_, a₁, w₁, hq, .pass (x := .inLoop c) rfl (fun _ _ => .inl (by simp)) harr⟩
 | goto l => exact ⟨_, a₁, w₁, hq, .pass (x := .inLoop c) rfl (fun _ _ => .inl (by simp)) harr⟩
 | ret => exact ⟨_, a₁, w₁, hq, .pass (x := .inLoop c) rfl (fun _ _ => .inl (by simp)) harr⟩
 | panic ch => exact ⟨_, a₁, w₁, hq, .pass (x := .inLoop c) rfl (fun _ _ => .inl (by simp)) harr⟩
 | outgrown => exact ⟨_, a₁, w₁, hq, .pass (x := .inLoop c) rfl (fun _ _ => .inl (by simp)) harr⟩
theorem LW.wp {P : Program} {c : Code} {Q : Exit → Act → World → Prop} {a : Act} {w : World} (h : LW P c Q a w) : (Code.loop c).wp P Q a w :=
 fun b k cs => let ⟨e, a', w', hq, harr⟩ := h b k cs; ⟨e, a', w', hq, .of_steps (.one step_loop) harr⟩
section
variable {T : Nat → List A → Bool × List A} {e : Nat → A} {n n' : Nat} {loc loc' : Loc} {P : Program} {X : Ctx} {w0 : W0}
theorem PF {l : L} (h : isFalse l = true) : (l.ev e).bool = false := by
 unfold isFalse at h
 split at h
 ·rfl
 ·cases h
theorem J6 {N : Act → World → Prop} {Q : Exit → Act → World → Prop} {x : EO} (h : x ≠ .norm) : Exit.then N Q x.to = Q x.to := by
 cases x with
 | norm => exact absurd rfl h
 | exit id => rfl
 | ret => rfl
abbrev Wt := (Exit → Act → World → Prop) → Act → World → Prop
theorem MJ {S : St} {Wa Wb Wr : Wt} {o : Ah} (hW : ∀ Q a w, Wa (Exit.then (Wb Q) Q) a w → Wr Q a w) (ha : Ends P T e w0 S Wa o) (h : Ah.get .norm o = none) : Ends P T e w0 S Wr o :=
 ⟨ha.pc, ha.one, fun loc a w Q hpc hf hw hQ => hW _ _ _ (ha.wp loc a w _ hpc hf hw fun x s hx hs => by
  rw [J6 (fun h0 => by rw [h0, h] at hx; cases hx)]
  exact hQ x s hx hs)⟩
theorem KU {S s : St} {Wa Wb Wr : Wt} {o : Ah} (hW : ∀ Q a w, Wa (Exit.then (Wb Q) Q) a w → Wr Q a w) (ha : Ends P T e w0 S Wa o) (h : Ah.get .norm o = some s) (hf : isFalse s.pc = true) :
  Ends P T e w0 S Wr (Ah.drop .norm o) := by
 have back : ∀ {x s'}, Ah.get x (Ah.drop .norm o) = some s' → x ≠ .norm ∧ Ah.get x o = some s' := fun {x s'} hx => by
  by_cases h0 : x = .norm
  ·subst h0; rw [E8] at hx; cases hx
  ·exact ⟨h0, by rwa [AK h0] at hx⟩
 refine ⟨fun x s' hx hs => ha.pc x s' (back hx).2 hs, fun x y s' t' hx hy hs ht => ha.one x y s' t' (back hx).2 (back hy).2 hs ht, fun loc a w Q hpc hfr hw hQ => hW _ _ _ (ha.wp loc a w _ hpc hfr hw fun x s' hx hs => ?_)⟩
 by_cases h0 : x = .norm
 ·subst h0
  rw [h] at hx
  injection hx with hx
  subst hx
  rw [PF hf] at hs
  cases hs
 ·rw [J6 h0]
  exact hQ x s' (by rw [AK h0]; exact hx) hs
theorem OF {S s : St} {Wa Wb Wr : Wt} {o o2 r : Ah} (hW : ∀ Q a w, Wa (Exit.then (Wb Q) Q) a w → Wr Q a w) (ha : Ends P T e w0 S Wa o) (h : Ah.get .norm o = some s) (hb : Ends P T e w0 s Wb o2)
  (hr : (∀ x u, Ah.get x r = some u → (u.pc.ev e).bool = true →
    ((s.pc.ev e).bool = true ∧ ∃ t, Ah.get x o2 = some t ∧ (t.pc.ev e).bool = true) ∨ ((s.pc.ev e).bool = false ∧ ∃ t, Ah.get x (Ah.drop .norm o) = some t ∧ (t.pc.ev e).bool = true)) ∧
   ((s.pc.ev e).bool = true → ∀ x t, Ah.get x o2 = some t → (t.pc.ev e).bool = true → ∃ u, Ah.get x r = some u ∧ (u.pc.ev e).bool = true ∧ Ref e w0 t u) ∧
   ((s.pc.ev e).bool = false → ∀ x t, Ah.get x (Ah.drop .norm o) = some t → (t.pc.ev e).bool = true → ∃ u, Ah.get x r = some u ∧ (u.pc.ev e).bool = true ∧ Ref e w0 t u)) : Ends P T e w0 S Wr r := by
 have back : ∀ {x s'}, Ah.get x (Ah.drop .norm o) = some s' → x ≠ .norm ∧ Ah.get x o = some s' := fun {x s'} hx => by
  by_cases h0 : x = .norm
  ·subst h0; rw [E8] at hx; cases hx
  ·exact ⟨h0, by rwa [AK h0] at hx⟩
 obtain ⟨h1, h2, h3⟩ := hr
 refine ⟨fun x u hx hu => ?_, fun x y u v hx hy hu hv => ?_, fun loc a w Q hpc hfr hw hQ => hW _ _ _ (ha.wp loc a w _ hpc hfr hw fun x s' hx hs => ?_)⟩
 ·rcases h1 x u hx hu with ⟨a, _⟩ | ⟨_, t, b1, b2⟩
  ·exact ha.pc _ _ h a
  ·exact ha.pc _ _ (back b1).2 b2
 ·rcases h1 x u hx hu with ⟨a, t, b1, b2⟩ | ⟨a, t, b1, b2⟩
  ·rcases h1 y v hy hv with ⟨a', t', b1', b2'⟩ | ⟨a', t', b1', b2'⟩
   ·exact hb.one _ _ _ _ b1 b1' b2 b2'
   ·rw [a] at a'; cases a'
  ·rcases h1 y v hy hv with ⟨a', t', b1', b2'⟩ | ⟨a', t', b1', b2'⟩
   ·rw [a] at a'; cases a'
   ·exact ha.one _ _ _ _ (back b1).2 (back b1').2 b2 b2'
 ·by_cases h0 : x = .norm
  ·subst h0
   rw [h] at hx
   injection hx with hx
   subst hx
   intro loc' a' w' q1 q2 q3 q4 q5
   show Wb Q a' w'
   refine hb.wp loc' a' w' Q hs q3 q5 fun y t hy ht => ?_
   obtain ⟨u, u1, u2, u3⟩ := h2 hs y t hy ht
   have := (hQ y u u1 u2).ref u3
   intro loc2 a2 w2 r1 r2 r3 r4 r5
   exact this loc2 a2 w2 (q1.trans r1 q2) (Nat.le_trans q2 r2) r3 (r4.trans q4) r5
  ·rw [J6 h0]
   have hsf : (s.pc.ev e).bool = false := by
    cases hc : (s.pc.ev e).bool with
    | false => rfl
    | true => exact absurd (ha.one _ _ _ _ hx h hs hc) h0
   obtain ⟨u, u1, u2, u3⟩ := h3 hsf x s' (by rw [AK h0]; exact hx) hs
   exact (hQ x u u1 u2).ref u3
theorem EH (hX : Bz P X.AD) {S : St} : ∀ {l : List ResultVar} {g g' : G} {rs : List PV}, results X S l g = some (rs, g') → g' = g ∧
  ∀ (loc : Loc) (tm : Array Value) (w : World), Al e S.rows.length loc S.fr tm → AY e w0 loc S.rows w → ∃ vs : List Value, Am e S.rows.length loc rs vs ∧
   (l.mapM fun | .tmp t => pure (tm.getD t Go.undef) | .cell a t => do loadVar t (← asAddr (tm.getD a Go.undef)) : Sem (List Value)).run P w = .ok vs w
 | [], g, g', rs, h => by
  simp only [results, Option.some.injEq, Prod.mk.injEq] at h
  obtain ⟨rfl, rfl⟩ := h
  exact ⟨rfl, fun loc tm w hf _ => ⟨[], trivial, by simp⟩⟩
 | .tmp t :: l, g, g', rs, h => by
  simp only [results, Option.bind_eq_bind, Option.bind_eq_some_iff] at h
  obtain ⟨p, hp, ⟨r, g1⟩, hr, h⟩ := h
  simp only [Option.some.injEq, Prod.mk.injEq] at h
  obtain ⟨rfl, rfl⟩ := h
  obtain ⟨h1, h2⟩ := EH hX hr
  refine ⟨h1, fun loc tm w hf hw => ?_⟩
  obtain ⟨vs, v1, v2⟩ := h2 loc tm w hf hw
  refine ⟨tm.getD t Go.undef :: vs, ⟨HD hp hf (fun x hx => by cases hx), v1⟩, ?_⟩
  simp only [List.mapM_cons, Sem.run_bind, Sem.run_pure, Result.andThen_ok, v2]
 | .cell a t :: l, g, g', rs, h => by
  simp only [results, Option.bind_eq_bind, Option.bind_eq_some_iff] at h
  obtain ⟨p, hp, ty, ht, h⟩ := h
  split at h
  ·rename_i r off
   simp only [Option.bind_eq_some_iff] at h
   obtain ⟨row, hrow, cs, hcs, v, hv, ⟨q, g1⟩, hr, h⟩ := h
   simp only [Option.some.injEq, Prod.mk.injEq] at h
   obtain ⟨rfl, rfl⟩ := h
   obtain ⟨h1, h2⟩ := EH hX hr
   refine ⟨h1, fun loc tm w hf hw => ?_⟩
   obtain ⟨vs, v1, v2⟩ := h2 loc tm w hf hw
   obtain ⟨r1, r2⟩ := Ft (HD hp hf (fun x hx => by cases hx))
   obtain ⟨us, u1, u2⟩ := Ck (e := e) (n := S.rows.length) (loc := loc) (w := w) (b := (loc r).blk) (o := (loc r).off + off) (cs := cs) (fun j c hj => by
    obtain ⟨v, z1, z2⟩ := hw.cell hrow (DL hcs hj)
    exact ⟨v, by rw [Nat.add_assoc]; exact z1, z2⟩)
   obtain ⟨x, x1, x2⟩ := AM (hX t ty ht) u1 u2 (Ba hcs).2.2 hv
   have x3 : (loadVar t ⟨(loc r).blk, (loc r).off + off, none⟩).run P w = .ok x w := by
    have := x2
    simp only [Instr.loadAt, Instr.sureAddr, Sem.run_bind, Sem.run_pure, Result.andThen_ok] at this
    exact this
   refine ⟨x :: vs, ⟨x1, v1⟩, ?_⟩
   have x4 : ∀ a : Addr, asAddr (.pointer (some a)) = pure a := fun _ => rfl
   simp only [List.mapM_cons, Sem.run_bind, Sem.run_pure, r2, x4, Result.andThen_ok, x3, v2]
  ·cases h
theorem OG {fn : Func} {tm : Array Value} {w : World} {vs : List Value}
  (h : (fn.results.toList.mapM fun | .tmp t => pure (tm.getD t Go.undef) | .cell a t => do loadVar t (← asAddr (tm.getD a Go.undef)) : Sem (List Value)).run P w = .ok vs w) :
  (Go.results fn tm).run P w = .ok (HG vs) w := by
 unfold Go.results
 rw [Array.mapM_eq_mapM_toList]
 simp only [Sem.run_bind, Sem.run_map, Sem.run_pure]
 refine (congrArg (fun r : Result (List Value) => (r.andThen fun a w' => Result.ok a.toArray w').andThen fun a w' => Result.ok (if h : a.size = 1 then a[0] else Value.tuple a) w') h).trans ?_
 simp only [Result.andThen_ok]
 congr 1
 match vs with
 | [] => rfl
 | [v] => rfl
 | v :: u :: vs => simp [HG]
end
end Rx
namespace Rx
open Go Go.RowKit
section
variable {T : Nat → List A → Bool × List A} {e : Nat → A} {P : Program} {X : Ctx} {w0 : W0}
theorem Ek {S s : St} {W : Wt} {x : EO} (hpc : s.pc = S.pc)
  (h : ∀ (loc : Loc) (a : Act) (w : World) (Q : Exit → Act → World → Prop), (S.pc.ev e).bool = true → Al e S.rows.length loc S.fr a.tmps → AY e w0 loc S.rows w → OE e w0 loc S.rows.length a s (Q x.to) → W Q a w) :
  Ends P T e w0 S W [(x, s)] := by
 have back : ∀ {y t}, Ah.get y [(x, s)] = some t → y = x ∧ t = s := fun {y t} hy => by
  by_cases h0 : y = x
  ·subst h0; rw [Aq] at hy; injection hy with hy; exact ⟨rfl, hy.symm⟩
  ·rw [AG h0] at hy; cases hy
 refine ⟨fun y t hy ht => ?_, fun y z t u hy hz _ _ => ?_, fun loc a w Q hp hf hw hQ => h loc a w Q hp hf hw (hQ x s Aq (by rw [hpc]; exact hp))⟩
 ·obtain ⟨rfl, rfl⟩ := back hy; rw [← hpc]; exact ht
 ·rw [(back hy).1, (back hz).1]
theorem Ik {S s : St} {Wa Wb Wr : Wt} {o o2 : Ah} {g : G} (hW : ∀ Q a w, Wa (Exit.then (Wb Q) Q) a w → Wr Q a w) (ha : Ends P T e w0 S Wa o) (h : Ah.get .norm o = some s) (hb : Ends P T e w0 s Wb o2)
  {nc : L} (hnc : (nc.ev e).bool = !(s.pc.ev e).bool) (hg : Good T e (combine s.pc nc none o2 (Ah.drop .norm o) g).2) : Ends P T e w0 S Wr (combine s.pc nc none o2 (Ah.drop .norm o) g).1 :=
 OF hW ha h hb (CJ hnc (fun _ _ _ h0 => by cases h0) hg).2
theorem KV {S s : St} {Wa Wb Wr : Wt} {o o2 : Ah} (hW : ∀ Q a w, Wa (Exit.then (Wb Q) Q) a w → Wr Q a w) (ha : Ends P T e w0 S Wa o) (h : Ah.get .norm o = some s) (hb : Ends P T e w0 s Wb o2)
  (hr : (Ah.drop .norm o).isEmpty = true) : Ends P T e w0 S Wr o2 := by
 have hr : Ah.drop .norm o = [] := by simpa using hr
 refine OF hW ha h hb ⟨fun x u hx hu => .inl ⟨hb.pc x u hx hu, u, hx, hu⟩, fun _ x t hx ht => ⟨t, hx, ht, Ref.refl _⟩, fun _ x t hx => by rw [hr] at hx; cases hx⟩
theorem NN {S s' : St} {W : Wt} {o : Ah} {g g' : G} (he : Ends P T e w0 S W o) (h : Kj o g = some (s', g')) (hg : Good T e g') :
  Good T e g ∧ ∀ x s, Ah.get x o = some s → (s.pc.ev e).bool = true → (x = .norm ∨ x = .ret) ∧ Ref e w0 s s' := by
 unfold Kj at h
 split at h
 ·simp only [Option.some.injEq, Prod.mk.injEq] at h
  obtain ⟨rfl, rfl⟩ := h
  refine ⟨hg, fun x s hx hs => ?_⟩
  by_cases h0 : x = .norm
  ·subst h0; rw [Aq] at hx; injection hx with hx; subst hx; exact ⟨.inl rfl, Ref.refl _⟩
  ·rw [AG h0] at hx; cases hx
 ·simp only [Option.some.injEq, Prod.mk.injEq] at h
  obtain ⟨rfl, rfl⟩ := h
  refine ⟨hg, fun x s hx hs => ?_⟩
  by_cases h0 : x = .ret
  ·subst h0; rw [Aq] at hx; injection hx with hx; subst hx; exact ⟨.inr rfl, Ref.refl _⟩
  ·rw [AG h0] at hx; cases hx
 ·rename_i s t
  simp only [Option.some.injEq] at h
  have hm := DE (T := T) (e := e) (w0 := w0) (c := s.pc) (both := none) (s := s) (t := t) (g := g) (by rw [h]; exact hg) (fun _ _ _ h0 => by cases h0)
  rw [h] at hm
  refine ⟨hm.1, fun x u hx hu => ?_⟩
  by_cases h0 : x = .norm
  ·subst h0
   rw [Aq] at hx; injection hx with hx; subst hx
   have := hm.2.1
   simp only [pick, hu, if_true] at this
   exact ⟨.inl rfl, this⟩
  ·by_cases h1 : x = .ret
   ·subst h1
    rw [AG h0, Aq] at hx; injection hx with hx; subst hx
    have hsf : (s.pc.ev e).bool = false := by
     cases hc : (s.pc.ev e).bool with
     | false => rfl
     | true => exact absurd (he.one .norm .ret s t Aq (by rw [AG h0, Aq]) hc hu) (by simp)
    have := hm.2.1
    simp only [pick, hsf, Bool.false_eq_true, if_false] at this
    exact ⟨.inr rfl, this⟩
   ·rw [AG h0, AG h1] at hx; cases hx
 ·rename_i t s
  simp only [Option.some.injEq] at h
  have hm := DE (T := T) (e := e) (w0 := w0) (c := s.pc) (both := none) (s := s) (t := t) (g := g) (by rw [h]; exact hg) (fun _ _ _ h0 => by cases h0)
  rw [h] at hm
  refine ⟨hm.1, fun x u hx hu => ?_⟩
  by_cases h1 : x = .ret
  ·subst h1
   rw [Aq] at hx; injection hx with hx; subst hx
   have hsf : (s.pc.ev e).bool = false := by
    cases hc : (s.pc.ev e).bool with
    | false => rfl
    | true => exact absurd (he.one .norm .ret s t (by rw [AG (by simp), Aq]) Aq hc hu) (by simp)
   have := hm.2.1
   simp only [pick, hsf, Bool.false_eq_true, if_false] at this
   exact ⟨.inr rfl, this⟩
  ·by_cases h0 : x = .norm
   ·subst h0
    rw [AG h1, Aq] at hx; injection hx with hx; subst hx
    have := hm.2.1
    simp only [pick, hu, if_true] at this
    exact ⟨.inl rfl, this⟩
   ·rw [AG h1, AG h0] at hx; cases hx
 ·cases h
theorem PG {S : St} {id : Nat} {c : Code} {o : Ah} {g g' : G} {outs : Ah} (ha : Ends P T e w0 S (fun Q a w => c.wp P Q a w) o)
  (h : (match Ah.get (.exit id) o, Ah.get .norm o with
   | none, _ => some (o, g)
   | some t, none => some ((.norm, t) :: Ah.drop (.exit id) o, g)
   | some t, some s =>
    let (u, g) := BD s.pc none s t g
    some ((.norm, u) :: Ah.drop (.exit id) (Ah.drop .norm o), g)) = some (outs, g')) (hg : Good T e g') :
  Good T e g ∧ Ends P T e w0 S (fun Q a w => (Code.block id c).wp P Q a w) outs := by
 have inb : ∀ {x : EO} {Q : Exit → Act → World → Prop}, x ≠ .exit id → Exit.inBlock id Q x.to = Q x.to := fun {x Q} hx => by
  cases x with
  | norm => rfl
  | ret => rfl
  | exit id' =>
   have : id' ≠ id := fun h0 => hx (by rw [h0])
   funext a w
   simp [EO.to, Exit.inBlock, this]
 have inb2 : ∀ {Q : Exit → Act → World → Prop}, Exit.inBlock id Q (EO.exit id).to = Q .normal := fun {Q} => by
  funext a w
  simp [EO.to, Exit.inBlock]
 split at h
 ·rename_i hx0
  simp only [Option.some.injEq, Prod.mk.injEq] at h
  obtain ⟨rfl, rfl⟩ := h
  refine ⟨hg, ha.pc, ha.one, fun loc a w Q hpc hf hw hQ => wp_block (ha.wp loc a w _ hpc hf hw fun x s hx hs => ?_)⟩
  rw [inb (fun h0 => by rw [h0, hx0] at hx; cases hx)]
  exact hQ x s hx hs
 ·rename_i t ht hn
  simp only [Option.some.injEq, Prod.mk.injEq] at h
  obtain ⟨rfl, rfl⟩ := h
  have back : ∀ {x s}, Ah.get x ((.norm, t) :: Ah.drop (.exit id) o) = some s → (x = .norm ∧ s = t) ∨ (x ≠ .norm ∧ x ≠ .exit id ∧ Ah.get x o = some s) := fun {x s} hx => by
   by_cases h0 : x = .norm
   ·subst h0; rw [Aq] at hx; injection hx with hx; exact .inl ⟨rfl, hx.symm⟩
   ·rw [AG h0] at hx
    by_cases h1 : x = .exit id
    ·subst h1; rw [E8] at hx; cases hx
    ·rw [AK h1] at hx; exact .inr ⟨h0, h1, hx⟩
  refine ⟨hg, fun x s hx hs => ?_, fun x y s u hx hy hs hu => ?_, fun loc a w Q hpc hf hw hQ => wp_block (ha.wp loc a w _ hpc hf hw fun x s hx hs => ?_)⟩
  ·rcases back hx with ⟨_, rfl⟩ | ⟨_, _, h3⟩
   ·exact ha.pc _ _ ht hs
   ·exact ha.pc _ _ h3 hs
  ·rcases back hx with ⟨rfl, rfl⟩ | ⟨h1, h2, h3⟩ <;> rcases back hy with ⟨rfl, rfl⟩ | ⟨h1', h2', h3'⟩
   ·rfl
   ·exact absurd (ha.one _ _ _ _ h3' ht hu hs) h2'
   ·exact absurd (ha.one _ _ _ _ h3 ht hs hu) h2
   ·exact ha.one _ _ _ _ h3 h3' hs hu
  ·by_cases h1 : x = .exit id
   ·subst h1
    rw [ht] at hx
    injection hx with hx
    subst hx
    rw [inb2]
    exact hQ .norm t Aq hs
   ·rw [inb h1]
    have h0 : x ≠ .norm := fun h0 => by rw [h0, hn] at hx; cases hx
    exact hQ x s (by rw [AG h0, AK h1]; exact hx) hs
 ·rename_i t s ht hn
  simp only [Option.some.injEq, Prod.mk.injEq] at h
  obtain ⟨rfl, rfl⟩ := h
  have hm := DE (w0 := w0) hg (fun _ _ _ h0 => by cases h0)
  have back : ∀ {x u}, Ah.get x ((.norm, (BD s.pc none s t g).1) :: Ah.drop (.exit id) (Ah.drop .norm o)) = some u →
    (x = .norm ∧ u = (BD s.pc none s t g).1) ∨ (x ≠ .norm ∧ x ≠ .exit id ∧ Ah.get x o = some u) := fun {x u} hx => by
   by_cases h0 : x = .norm
   ·subst h0; rw [Aq] at hx; injection hx with hx; exact .inl ⟨rfl, hx.symm⟩
   ·rw [AG h0] at hx
    by_cases h1 : x = .exit id
    ·subst h1; rw [E8] at hx; cases hx
    ·rw [AK h1, AK h0] at hx; exact .inr ⟨h0, h1, hx⟩
  have mpc : (((BD s.pc none s t g).1).pc.ev e).bool = true → ∃ z v, (z = .norm ∨ z = .exit id) ∧ Ah.get z o = some v ∧ (v.pc.ev e).bool = true := fun hu => by
   rw [hm.2.2] at hu
   cases hc : (s.pc.ev e).bool <;> simp only [pick, hc, if_true, if_false, Bool.false_eq_true] at hu
   ·exact ⟨.exit id, t, .inr rfl, ht, hu⟩
   ·exact ⟨.norm, s, .inl rfl, hn, hc⟩
  refine ⟨hm.1, fun x u hx hu => ?_, fun x y u v hx hy hu hv => ?_, fun loc a w Q hpc hf hw hQ => wp_block (ha.wp loc a w _ hpc hf hw fun x u hx hu => ?_)⟩
  ·rcases back hx with ⟨_, rfl⟩ | ⟨_, _, h3⟩
   ·obtain ⟨z, v, _, hz, hv⟩ := mpc hu
    exact ha.pc _ _ hz hv
   ·exact ha.pc _ _ h3 hu
  ·rcases back hx with ⟨rfl, rfl⟩ | ⟨h1, h2, h3⟩ <;> rcases back hy with ⟨rfl, rfl⟩ | ⟨h1', h2', h3'⟩
   ·rfl
   ·obtain ⟨z, v', hz0, hz, hv'⟩ := mpc hu
    have := ha.one _ _ _ _ h3' hz hv hv'
    subst this
    rcases hz0 with hz0 | hz0
    ·exact absurd hz0 h1'
    ·exact absurd hz0 h2'
   ·obtain ⟨z, v', hz0, hz, hv'⟩ := mpc hv
    have := ha.one _ _ _ _ h3 hz hu hv'
    subst this
    rcases hz0 with hz0 | hz0
    ·exact absurd hz0 h1
    ·exact absurd hz0 h2
   ·exact ha.one _ _ _ _ h3 h3' hu hv
  ·by_cases h1 : x = .exit id
   ·subst h1
    rw [ht] at hx
    injection hx with hx
    subst hx
    rw [inb2]
    have hsf : (s.pc.ev e).bool = false := by
     cases hc : (s.pc.ev e).bool with
     | false => rfl
     | true => exact absurd (ha.one _ _ _ _ hn ht hc hu) (by simp)
    have hr := hm.2.1
    simp only [pick, hsf, Bool.false_eq_true, if_false] at hr
    exact (hQ .norm _ Aq (by rw [hm.2.2]; simp only [pick, hsf, Bool.false_eq_true, if_false]; exact hu)).ref hr
   ·rw [inb h1]
    by_cases h0 : x = .norm
    ·subst h0
     rw [hn] at hx
     injection hx with hx
     subst hx
     have hr := hm.2.1
     simp only [pick, hu, if_true] at hr
     exact (hQ .norm _ Aq (by rw [hm.2.2]; simp only [pick, hu, if_true])).ref hr
    ·exact hQ x u (by rw [AG h0, AK h1, AK h0]; exact hx) hu
end
end Rx
namespace Rx
open Go Go.RowKit
def FM : Tag → A → A → Prop
 | .i, a, b => a.int = b.int
 | .b, a, b => a.bool = b.bool
 | .v, a, b => a.val = b.val
 | .s, a, b => a.str = b.str
 | .any, a, b => a = b
 | .no, _, _ => True
theorem FM.of_eq {t : Tag} {a b : A} (h : a = b) : FM t a b := by
 subst h
 cases t <;> first | rfl | trivial
section
variable {T : Nat → List A → Bool × List A} {e e1 e2 : Nat → A} {n : Nat} {loc : Loc} {P : Program} {X : Ctx} {w0 : W0} {tg : Nat → Tag}
theorem BV (h : ∀ i, FM (tg i) (e1 i) (e2 i)) {t : Tag} {x : L} (hx : F1 tg t x = true) : FM t (x.ev e1) (x.ev e2) := by
 unfold F1 at hx
 split at hx
 ·rename_i i
  simp only [Bool.or_eq_true, beq_iff_eq] at hx
  have hi := h i
  rcases hx with hx | hx
  ·rw [hx] at hi; exact hi
  ·rw [hx] at hi; exact .of_eq hi
 ·rename_i hnv
  refine .of_eq ?_
  cases x with
  | var i => exact absurd rfl (hnv i)
  | _ => rfl
theorem OH (h : ∀ i, FM (tg i) (e1 i) (e2 i)) {k : K} {v : Value} (hu : Q6 tg k = true) (hk : k.rel e1 n loc v) : k.rel e2 n loc v := by
 obtain ⟨h1, h2, h3⟩ := hk
 cases k
 case int kd x =>
  have := BV h (t := .i) hu
  simp only [FM] at this
  exact ⟨trivial, h2, .inr (by rw [h3.resolve_left (by simp)]; simp only [K.A0, this])⟩
 case bool x =>
  have := BV h (t := .b) hu
  simp only [FM] at this
  exact ⟨trivial, h2, .inr (by rw [h3.resolve_left (by simp)]; simp only [K.A0, this])⟩
 case str x =>
  have := BV h (t := .s) hu
  simp only [FM] at this
  exact ⟨trivial, h2, .inr (by rw [h3.resolve_left (by simp)]; simp only [K.A0, this])⟩
 case val x =>
  have := BV h (t := .v) hu
  simp only [FM] at this
  exact ⟨trivial, h2, .inr (by rw [h3.resolve_left (by simp)]; simp only [K.A0, this])⟩
 case sptr r o s m x =>
  have := BV h (t := .i) hu
  simp only [FM] at this
  simp only [K.ok, this] at h1
  exact ⟨h1, h2, .inr (by rw [h3.resolve_left (by simp)]; simp only [K.A0, this])⟩
 case lsl r m =>
  have := BV h (t := .i) hu
  simp only [FM] at this
  simp only [K.ok, this] at h1
  exact ⟨h1, h2, .inr (by rw [h3.resolve_left (by simp)]; simp only [K.A0, this])⟩
 case fsl r m =>
  have := BV h (t := .i) hu
  simp only [FM] at this
  simp only [K.ok, this] at h1
  exact ⟨h1, h2, .inr (by rw [h3.resolve_left (by simp)]; simp only [K.A0])⟩
 case lptr r o s x m =>
  simp only [Q6, Bool.and_eq_true] at hu
  have q1 := BV h (t := .i) hu.1
  have q2 := BV h (t := .i) hu.2
  simp only [FM] at q1 q2
  simp only [K.ok, q1, q2] at h1
  exact ⟨h1, h2, .inr (by rw [h3.resolve_left (by simp)]; simp only [K.A0, q1])⟩
 all_goals exact ⟨h1, h2, h3⟩
theorem I9 (h : ∀ i, FM (tg i) (e1 i) (e2 i)) : ∀ {l : List K} {vs : List Value}, l.all (Q6 tg) = true → Ch e1 n loc l vs → Ch e2 n loc l vs
 | [], [], _, _ => trivial
 | _ :: _, _ :: _, hu, hk => by
  simp only [List.all_cons, Bool.and_eq_true] at hu
  exact ⟨OH h hu.1 hk.1, I9 h hu.2 hk.2⟩
theorem KW (h : ∀ i, FM (tg i) (e1 i) (e2 i)) {c : C} {v : Value} (hu : Ph tg c = true) (hk : c.rel e1 n loc v) : c.rel e2 n loc v := by
 cases c with
 | k x => exact OH h hu hk
 | clo f a b =>
  simp only [Ph, Bool.and_eq_true] at hu
  obtain ⟨va, vb, a1, a2, a3⟩ := hk
  exact ⟨va, vb, a1, I9 h hu.1 a2, I9 h hu.2 a3⟩
 | cfn x f g =>
  have q := BV h (t := .b) (x := x) hu
  simp only [FM] at q
  simp only [C.rel, ← q]
  exact hk
theorem Ja (h : ∀ i, FM (tg i) (e1 i) (e2 i)) : ∀ {l : List C} {vs : List Value}, l.all (Ph tg) = true → Af e1 n loc l vs → Af e2 n loc l vs
 | [], [], _, _ => trivial
 | _ :: _, _ :: _, hu, hk => by
  simp only [List.all_cons, Bool.and_eq_true] at hu
  exact ⟨KW h hu.1 hk.1, Ja h hu.2 hk.2⟩
theorem MK (h : ∀ i, FM (tg i) (e1 i) (e2 i)) {c : PV} {v : Value} (hu : Qq tg c = true) (hk : c.rel e1 n loc v) : c.rel e2 n loc v := by
 cases c with
 | one x => exact KW h hu hk
 | agg l => obtain ⟨vs, a1, a2⟩ := hk; exact ⟨vs, a1, Ja h hu a2⟩
theorem KX (h : ∀ i, FM (tg i) (e1 i) (e2 i)) : ∀ {l : List PV} {vs : List Value}, l.all (Qq tg) = true → Am e1 n loc l vs → Am e2 n loc l vs
 | [], [], _, _ => trivial
 | _ :: _, _ :: _, hu, hk => by
  simp only [List.all_cons, Bool.and_eq_true] at hu
  exact ⟨MK h hu.1 hk.1, KX h hu.2 hk.2⟩
theorem Rg (h : ∀ i, FM (tg i) (e1 i) (e2 i)) {c : SV} {v : Value} (hu : Qr tg c = true) (hk : c.rel e1 n loc v) : c.rel e2 n loc v := by
 cases c with
 | pv p => exact MK h hu hk
 | tup l => obtain ⟨vs, a1, a2⟩ := hk; exact ⟨vs, a1, KX h hu a2⟩
 | cond gs p => simp [Qr] at hu
 | undef => exact hk
 | junk => trivial
theorem ML (h : ∀ i, FM (tg i) (e1 i) (e2 i)) {fr : List SV} {tm : Array Value} (hu : fr.all (Qr tg) = true) (hk : Al e1 n loc fr tm) : Al e2 n loc fr tm :=
 ⟨hk.len, fun i s v hs hv => Rg h (by rw [List.all_eq_true] at hu; exact hu _ (List.mem_of_getElem? hs)) (hk.at_ i s v hs hv)⟩
theorem KY (h : ∀ i, FM (tg i) (e1 i) (e2 i)) {w : World} {B : Bd} {rows : List Row} (hu : rows.all (Pj tg) = true) (hk : Ad e1 loc rows w B) : Ad e2 loc rows w B := by
 rw [List.all_eq_true] at hu
 have use_ : ∀ (r : Nat) (x : Row), rows[r]? = some x → x.cells.all (Ph tg) = true ∧ ∀ q, x.lst = some q → F1 tg .any q.x = true ∧ F1 tg .i q.n = true := fun r x hr => by
  have := hu x (List.mem_of_getElem? hr)
  simp only [Pj, Bool.and_eq_true] at this
  refine ⟨this.1, fun q hq => ?_⟩
  have h2 := this.2
  rw [hq] at h2
  simpa using h2
 refine ⟨fun r x hr => ?_, fun r x q hr hq => ?_, hk.lapart, hk.apart⟩
 ·have hrow := hk.row r x hr
  obtain ⟨u1, _⟩ := use_ r x hr
  unfold Av at hrow ⊢
  split
  ·rename_i ho
   rw [if_pos ho] at hrow
   obtain ⟨b1, b2, b3, b4, vs, sp, b5, b6, b7⟩ := hrow
   exact ⟨b1, b2, b3, b4, vs, sp, b5, Ja h u1 b6, b7⟩
  ·rename_i ho
   rw [if_neg ho] at hrow
   intro hc
   obtain ⟨b1, b2, b3⟩ := hrow hc
   refine ⟨b1, b2, fun j c hj => ?_⟩
   obtain ⟨v, hv, hr'⟩ := b3 j c hj
   rw [List.all_eq_true] at u1
   exact ⟨v, hv, KW h (u1 c (List.mem_of_getElem? hj)) hr'⟩
 ·obtain ⟨k1, as, m, l1, l2, l3, l4, l5⟩ := hk.lst r x q hr hq
  obtain ⟨u1, u2⟩ := (use_ r x hr).2 q hq
  have q1 := BV h u1
  have q2 := BV h u2
  simp only [FM] at q1 q2
  exact ⟨k1, as, m, by rw [← q1]; exact l1, l2, by rw [← q2]; exact l3, l4, l5⟩
def JM (as : List A) (i : Nat) : A := as.getD i (.i 0)
def OI (q : Lp) (as outs : List A) (i : Nat) : A :=
 if i < q.k then (if q.II.getD i false then as.getD i (.i 0) else .i 0) else outs.getD (i - q.k) (.i 0)
def BR (P : Program) (T : Nat → List A → Bool × List A) (q : Lp) (code : Code) : Prop :=
 (∀ as, (T q.id as).1 = true → (T q.id as).2.length = q.w) ∧
 ∀ (as : List A) (w0 : W0) (loc : Loc) (a : Act) (w : World) (Q : Exit → Act → World → Prop), Lv P w0.w → as.length = q.k → (T q.id as).1 = true →
  Al (JM as) q.tm.rows.length loc q.tm.fr a.tmps → AY (JM as) w0 loc q.tm.rows w →
  (∀ x s e', (x, s) ∈ q.outs → (∀ i, FM (q.tag i) (e' i) (OI q as (T q.id as).2 i)) → (s.pc.ev e').bool = true → ∀ (loc' : Loc) (a' : Act) (w' : World), AA q.m loc loc' →
   Al e' s.rows.length loc' s.fr a'.tmps → a'.defers = a.defers → AY e' w0 loc' s.rows w' → Q x.to a' w') → LW P code Q a w
theorem He {σ : Nat → L} {pc : L} : ∀ {l : List (EO × St)} {g : G}, Good T e (BY σ pc l g).2 → Good T e g ∧
  (∀ x u, Ah.get x (BY σ pc l g).1 = some u → ∃ s, (x, s) ∈ l ∧ u.fr = (CR σ s).fr ∧ u.rows = (CR σ s).rows ∧ (u.pc.ev e).bool = ((pc.ev e).bool && ((B9 σ s.pc).ev e).bool)) ∧
  (Qt l = true → ∀ x s, (x, s) ∈ l → ∃ u, Ah.get x (BY σ pc l g).1 = some u ∧ u.fr = (CR σ s).fr ∧ u.rows = (CR σ s).rows ∧ (u.pc.ev e).bool = ((pc.ev e).bool && ((B9 σ s.pc).ev e).bool))
 | [], g, h => ⟨h, fun x u hx => by simp [BY, Ah.get] at hx, fun _ x s hs => by cases hs⟩
 | (y, t) :: l, g, h => by
  unfold BY at h ⊢
  simp only at h ⊢
  obtain ⟨h1, h2, h3⟩ := He h
  have hm := AF h1
  refine ⟨hm.1, fun x u hx => ?_, fun hb x s hs => ?_⟩
  ·by_cases hxy : x = y
   ·subst hxy
    rw [Aq] at hx
    injection hx with hx
    subst hx
    exact ⟨t, List.mem_cons_self .., rfl, rfl, hm.2⟩
   ·rw [AG hxy] at hx
    obtain ⟨s, s1, s2⟩ := h2 x u hx
    exact ⟨s, List.mem_cons_of_mem _ s1, s2⟩
  ·simp only [Qt, Bool.and_eq_true, List.all_eq_true] at hb
   rcases List.mem_cons.1 hs with heq | hs
   ·injection heq with h5 h6
    subst h5 h6
    exact ⟨_, Aq, rfl, rfl, hm.2⟩
   ·have hne : x ≠ y := fun h0 => by
     have := hb.1 _ hs
     rw [h0] at this
     simp [EO.Df.2 rfl] at this
    obtain ⟨u, u1, u2⟩ := h3 hb.2 x s hs
    exact ⟨u, by rw [AG hne]; exact u1, u2⟩
theorem Gd {pc a : L} : ∀ {l : List L} {g : G}, Good T e (GJ pc a l g) → Good T e g ∧ ((pc.ev e).bool = true → ∀ b ∈ l, ¬ ((a.ev e).bool = true ∧ (b.ev e).bool = true))
 | [], g, h => ⟨h, fun _ b hb => by cases hb⟩
 | b :: l, g, h => by
  unfold GJ at h
  simp only at h
  obtain ⟨h1, h2⟩ := Gd h
  have hm := An h1
  have hn := A9 hm.1
  have ha := AF hn.1
  refine ⟨ha.1, fun hpc c hc => ?_⟩
  rcases List.mem_cons.1 hc with rfl | hc
  ·have := hm.2 hpc
   rw [hn.2] at this
   simp only [A.AP, ha.2] at this
   intro ⟨k1, k2⟩
   rw [k1, k2] at this
   cases this
  ·exact h2 hpc c hc
theorem El {pc : L} : ∀ {l : List L} {g : G}, Good T e (Bi pc l g) → Good T e g ∧ ((pc.ev e).bool = true → ∀ (i j : Nat) a b, i < j → l[i]? = some a → l[j]? = some b → ¬ ((a.ev e).bool = true ∧ (b.ev e).bool = true))
 | [], g, h => ⟨h, fun _ i j a b _ ha => by simp at ha⟩
 | c :: l, g, h => by
  unfold Bi at h
  obtain ⟨h1, h2⟩ := El h
  obtain ⟨h3, h4⟩ := Gd h1
  refine ⟨h3, fun hpc i j a b hij ha hb => ?_⟩
  obtain ⟨j, rfl⟩ : ∃ j', j = j' + 1 := ⟨j - 1, by omega⟩
  have hb' : l[j]? = some b := by simpa using hb
  cases i with
  | zero =>
   simp only [List.getElem?_cons_zero, Option.some.injEq] at ha
   subst ha
   exact h4 hpc b (List.mem_of_getElem? hb')
  | succ i => exact h2 hpc i j a b (by omega) (by simpa using ha) hb'
theorem LY {q : Lp} {code : Code} {S : St} {outs : Ah} {g g' : G} (hT : Lv P w0.w) (hq : BR P T q code) (h : Nq q S g = some (outs, g')) (hg : Good T e g') :
  Good T e g ∧ Ends P T e w0 S (fun Q a w => LW P code Q a w) outs := by
 unfold Nq at h
 split at h
 rename_i ml ρ _
 simp at h
 obtain ⟨hm, ⟨⟨c1, c2⟩, c3⟩, h⟩ := h
 generalize hls : DT ml q.k = ls at h c1
 have hlen : ls.length = q.k := by rw [← hls]; simp [DT]
 have hgl : Good T e (BY (BX q ls (DU (g.next + 1) q.w)) S.pc q.outs (Bi S.pc (q.outs.map fun x => B9 (BX q ls (DU (g.next + 1) q.w)) x.2.pc) ((g.A8 (.call q.id) ls (1 + q.w)).2.A2 S.pc (.var g.next)))).2 := by
  have h' : BY (BX q ls (DU (g.next + 1) q.w)) S.pc q.outs (Bi S.pc (q.outs.map fun x => B9 (BX q ls (DU (g.next + 1) q.w)) x.2.pc) ((g.A8 (.call q.id) ls (1 + q.w)).2.A2 S.pc (.var g.next))) = (outs, g') := h
  rw [h']
  exact hg
 have houts : outs = (BY (BX q ls (DU (g.next + 1) q.w)) S.pc q.outs (Bi S.pc (q.outs.map fun x => B9 (BX q ls (DU (g.next + 1) q.w)) x.2.pc) ((g.A8 (.call q.id) ls (1 + q.w)).2.A2 S.pc (.var g.next)))).1 := by
  have h' : BY (BX q ls (DU (g.next + 1) q.w)) S.pc q.outs (Bi S.pc (q.outs.map fun x => B9 (BX q ls (DU (g.next + 1) q.w)) x.2.pc) ((g.A8 (.call q.id) ls (1 + q.w)).2.A2 S.pc (.var g.next))) = (outs, g') := h
  rw [h']
 clear h hg
 generalize hσ : BX q ls (DU (g.next + 1) q.w) = σ at hgl houts
 obtain ⟨h1, h2, h3⟩ := He hgl
 obtain ⟨h4, h5⟩ := El h1
 have hmu := An h4
 have hpn := Cj hmu.1
 rw [← houts] at h2 h3
 refine ⟨hpn.1, fun x u hx hu => ?_, fun x y u v hx hy hu hv => ?_, fun loc a w Q hpc hf hw hQ => ?_⟩
 ·obtain ⟨s, _, _, _, s4⟩ := h2 x u hx
  rw [s4, Bool.and_eq_true] at hu
  exact hu.1
 ·obtain ⟨s, s1, _, _, s4⟩ := h2 x u hx
  obtain ⟨t, t1, _, _, t4⟩ := h2 y v hy
  rw [s4, Bool.and_eq_true] at hu
  rw [t4, Bool.and_eq_true] at hv
  obtain ⟨i, hi, hi2⟩ := List.mem_iff_getElem.1 s1
  obtain ⟨j, hj, hj2⟩ := List.mem_iff_getElem.1 t1
  have gi : (q.outs.map fun x => B9 σ x.2.pc)[i]? = some (B9 σ s.pc) := by rw [List.getElem?_map, List.getElem?_eq_getElem hi, hi2]; rfl
  have gj : (q.outs.map fun x => B9 σ x.2.pc)[j]? = some (B9 σ t.pc) := by rw [List.getElem?_map, List.getElem?_eq_getElem hj, hj2]; rfl
  rcases Nat.lt_trichotomy i j with hij | hij | hij
  ·exact absurd ⟨hu.2, hv.2⟩ (h5 hu.1 i j _ _ hij gi gj)
  ·subst hij
   rw [hi2] at hj2
   injection hj2
  ·exact absurd ⟨hv.2, hu.2⟩ (h5 hu.1 j i _ _ hij gj gi)
 ·-- the head
  obtain ⟨k1, k2, k3, k4, k5⟩ := D1 (e := e) (loc := loc) (w0 := w0) c1
  have he1 : ∀ i, JM (ls.map (L.ev e)) i = (Bh ls i).ev e := fun i => by
   unfold JM Bh
   rw [List.getD, List.getElem?_map]
   cases ls[i]? <;> rfl
  have hpre : (T q.id (ls.map (L.ev e))).1 = true := by
   have p1 := hmu.2 hpc
   have p2 := hpn.2 0 _ rfl
   simp only [G.A8, Nat.add_zero] at p2
   rw [L.Aw, p2] at p1
   exact p1
  have hfr := k4 _ hf
  have hcl := k5 _ hw
  have hrl : (CR (Bh ls) q.tm).rows.length = q.tm.rows.length := by simp [CR]
  rw [hrl] at hfr
  refine hq.2 (ls.map (L.ev e)) w0 (D0 loc ρ) a w Q hT (by simpa using hlen) hpre ((E7 he1).1 hfr) (by obtain ⟨B, hB, hR, hbel⟩ := hcl; exact ⟨B, hB, (DZ he1).1 hR, hbel⟩) fun x s e' hxs hag hs loc' a' w' q1 q2 q3 q4 => ?_
  obtain ⟨u, u1, u2, u3, u4⟩ := h3 c2 x s hxs
  have hus := c3 _ _ hxs
  simp only [Bool.and_eq_true, Qs] at hus
  obtain ⟨⟨⟨us1, us2⟩, us3⟩, us4⟩ := hus
  have hw' := hq.1 _ hpre
  have he2 : ∀ i, OI q (ls.map (L.ev e)) (T q.id (ls.map (L.ev e))).2 i = (σ i).ev e := fun i => by
   rw [← hσ]
   unfold OI BX
   split
   ·split
    ·exact he1 i
    ·rfl
   ·unfold Bh DU
    generalize i - q.k = j
    by_cases hj : j < q.w
    ·have hj' : (T q.id (ls.map (L.ev e))).2[j]? = some ((T q.id (ls.map (L.ev e))).2[j]'(by omega)) := List.getElem?_eq_getElem (by omega)
     have := hpn.2 (j + 1) _ (show (D.ev T (.call q.id) (ls.map (L.ev e)))[j + 1]? = some _ from hj')
     simp only [G.A8] at this
     rw [List.getD, hj', List.getElem?_map, List.getElem?_range hj]
     simp only [Option.map_some, Option.getD_some, L.Aw]
     rw [← this]
     congr 1
     omega
    ·rw [List.getD, List.getElem?_eq_none (by omega), List.getElem?_eq_none (by simp; omega)]
     rfl
  have hfr2 := ML hag us1 q2
  obtain ⟨B4, hB4, hR4, hbel4⟩ := q4
  have hrw2 := KY hag us2 hR4
  have hpc2 := BV hag us3
  simp only [FM] at hpc2
  have hrl2 : (CR σ s).rows.length = s.rows.length := by simp [CR]
  refine hQ x u u1 (by rw [u4, hpc, GS he2, ← hpc2, hs]; rfl) loc' a' w' (by rw [hm]; exact k3.trans q1 (Nat.le_refl _)) (by rw [hm, u3, hrl2]; exact us4) ?_ q3 ?_
  ·rw [u2, u3, hrl2]
   exact (E7 he2).2 hfr2
  ·rw [u3]
   exact ⟨B4, hB4, (DZ he2).2 hrw2, hbel4⟩
end
end Rx
namespace Rx
open Go Go.RowKit
section
variable {T : Nat → List A → Bool × List A} {e : Nat → A} {P : Program} {X : Ctx} {w0 : W0}
theorem Al.enter {n : Nat} {loc : Loc} {args : List PV} {vs : List Value} {m : Nat} (h : Am e n loc args vs) :
  Al e n loc (args.map .pv ++ List.replicate (m - args.length) .undef) (vs.toArray ++ Array.replicate (m - vs.toArray.size) Go.undef) := by
 have hl := HA h
 have at_ : ∀ {args : List PV} {vs : List Value} (i : Nat) (p : PV) (v : Value), Am e n loc args vs → args[i]? = some p → vs[i]? = some v → p.rel e n loc v := by
  intro args
  induction args with
  | nil => intro vs i p v _ h; simp at h
  | cons a l ih =>
   intro vs i p v h hp hv
   cases vs with
   | nil => exact h.elim
   | cons b vs =>
    cases i with
    | zero => simp at hp hv; subst hp hv; exact h.1
    | succ i => exact ih i p v h.2 (by simpa using hp) (by simpa using hv)
 refine ⟨by simp [hl], fun i s v hs hv => ?_⟩
 by_cases hi : i < args.length
 ·rw [List.getElem?_append_left (by simpa using hi)] at hs
  rw [Array.getElem?_append_left (by simp; omega)] at hv
  simp only [List.getElem?_map, Option.map_eq_some_iff] at hs
  obtain ⟨p, hp, rfl⟩ := hs
  exact at_ i p v h hp (by simpa using hv)
 ·rw [List.getElem?_append_right (by simp; omega)] at hs
  rw [Array.getElem?_append_right (by simp; omega)] at hv
  have hs' := List.mem_of_getElem? hs
  have hv' := Array.mem_of_getElem? hv
  rw [List.mem_replicate] at hs'
  rw [Array.mem_replicate] at hv'
  rw [hs'.2, hv'.2]
  rfl
theorem NO {c : L} {both : Option (L × L × L)} {s t : L} {g : G} (h : Good T e (D6 c both s t g).2) : Good T e g := by
 unfold D6 at h
 split at h
 ·split at h
  ·exact h
  ·exact (Db h).1
 ·exact (Db h).1
theorem DF {c : L} {both : Option (L × L × L)} {s t : St} {g : G} (h : Good T e (BD c both s t g).2) : Good T e g := by
 unfold BD at h
 generalize Cs s t = st at h
 simp only at h
 exact (DA (CH (NO h)).1).1
theorem CK {c nc : L} {both : Option (L × L × L)} : ∀ {o1 o2 : Ah} {g : G}, Good T e (combine c nc both o1 o2 g).2 → Good T e g
 | [], o2, g, h => (HM (w0 := default) h).1
 | (y, s) :: l, o2, g, h => by
  unfold combine at h
  cases ht : Ah.get y o2 with
  | some t =>
   rw [ht] at h
   simp only at h
   exact DF (CK h)
  | none =>
   rw [ht] at h
   simp only at h
   exact (AF (CK h)).1
theorem PH {id : Nat} {o : Ah} {g g' : G} {outs : Ah} (h : (match Ah.get (.exit id) o, Ah.get .norm o with
   | none, _ => some (o, g)
   | some t, none => some ((.norm, t) :: Ah.drop (.exit id) o, g)
   | some t, some s =>
    let (u, g) := BD s.pc none s t g
    some ((.norm, u) :: Ah.drop (.exit id) (Ah.drop .norm o), g)) = some (outs, g')) (hg : Good T e g') : Good T e g := by
 split at h
 ·simp only [Option.some.injEq, Prod.mk.injEq] at h
  obtain ⟨_, rfl⟩ := h
  exact hg
 ·simp only [Option.some.injEq, Prod.mk.injEq] at h
  obtain ⟨_, rfl⟩ := h
  exact hg
 ·simp only [Option.some.injEq, Prod.mk.injEq] at h
  obtain ⟨_, rfl⟩ := h
  exact DF hg
theorem OJ {o : Ah} {g g' : G} {s : St} (h : Kj o g = some (s, g')) (hg : Good T e g') : Good T e g := by
 unfold Kj at h
 split at h
 ·simp only [Option.some.injEq, Prod.mk.injEq] at h
  obtain ⟨_, rfl⟩ := h
  exact hg
 ·simp only [Option.some.injEq, Prod.mk.injEq] at h
  obtain ⟨_, rfl⟩ := h
  exact hg
 ·simp only [Option.some.injEq] at h
  exact DF (c := _) (both := none) (s := _) (t := _) (by rw [h]; exact hg)
 ·simp only [Option.some.injEq] at h
  exact DF (c := _) (both := none) (s := _) (t := _) (by rw [h]; exact hg)
 ·cases h
def child : Code → Bool → Option Code
 | .seq a b, t => some (if t then b else a)
 | .cond _ a b, t => some (if t then b else a)
 | .block _ c, false => some c
 | .loop c, false => some c
 | _, _ => none
def CL : List Bool → Code → Option Code
 | [], c => some c
 | b :: p, c => match CL p c with | some d => child d b | none => none
def UA (X : Ctx) (f : Nat) (pa : List Bool) (c : Code) : Prop := ∃ fn body, X.fns f = some fn ∧ fn.body = some body ∧ CL pa body = some c
theorem UA.child {f : Nat} {pa : List Bool} {c d : Code} {b : Bool} (h : UA X f pa c) (hd : Rx.child c b = some d) : UA X f (b :: pa) d := by
 obtain ⟨fn, body, h1, h2, h3⟩ := h
 exact ⟨fn, body, h1, h2, by simp only [CL, h3, hd]⟩
structure XL (P : Program) (T : Nat → List A → Bool × List A) (X : Ctx) : Prop extends XOK P T X where
 lps : ∀ q ∈ X.lps, ∀ fn body c, X.fns q.f = some fn → fn.body = some body → CL q.p body = some (.loop c) → BR P T q c
theorem MM : ∀ {a b : List Bool}, Cg (· == ·) a b = true → a = b
 | [], [], _ => rfl
 | [], _ :: _, h => by simp [Cg] at h
 | _ :: _, [], h => by simp [Cg] at h
 | a :: l, b :: m, h => by
  simp only [Cg, Bool.and_eq_true, beq_iff_eq] at h
  rw [h.1, MM h.2]
theorem D2 {f : Nat} {pa : List Bool} {S : St} {c : Code} {outs : Ah} {g g' : G} (hT : Lv P w0.w) : ∀ {l : List Lp}, (∀ q ∈ l, q.f = f → q.p = pa → BR P T q c) → ES f pa S g l = some (outs, g') → Good T e g' →
  Good T e g ∧ Ends P T e w0 S (fun Q a w => LW P c Q a w) outs
 | [], _, h, _ => by simp [ES] at h
 | q :: l, hl, h, hg => by
  unfold ES at h
  have hl' : ∀ q ∈ l, q.f = f → q.p = pa → BR P T q c := fun q hq => hl q (by simp [hq])
  split at h
  ·rename_i hc
   simp only [Bool.and_eq_true, beq_iff_eq] at hc
   split at h
   ·rename_i r hr
    injection h with h
    subst h
    exact LY hT (hl q (by simp) hc.1 (MM hc.2)) hr hg
   ·exact D2 hT hl' h hg
  ·exact D2 hT hl' h hg
theorem HN (hX : XL P T X) (hT : Lv P w0.w) : ∀ n : Nat,
  (∀ (f : Nat) (pa : List Bool) (c : Code) (S : St) (g : G) (outs : Ah) (g' : G), UA X f pa c → exec X n f pa c S g = some (outs, g') → Good T e g' → Good T e g ∧ Ends P T e w0 S (fun Q a w => c.wp P Q a w) outs) ∧
  (∀ (f : Nat) (pa : List Bool) (c : Code) (S : St) (k : Nat) (g : G) (outs : Ah) (g' : G), UA X f pa c → rounds X n f pa c S k g = some (outs, g') → Good T e g' → Good T e g ∧ Ends P T e w0 S (fun Q a w => LW P c Q a w) outs) ∧
  Gb P T e w0 (inline X n)
 | 0 => ⟨fun f pa c S g outs g' _ h => by simp [exec] at h, fun f pa c S k g outs g' _ h => by simp [rounds] at h, hT, fun f args rows pc g v rows' g' h => by simp [inline] at h⟩
 | n + 1 => by
  obtain ⟨ih1, ih2, ih3⟩ := HN hX hT n
  refine ⟨fun f pa c S g outs g' hat h hg => ?_, fun f pa c S k g outs g' hat h hg => ?_, hT, fun f args rows pc g v rows' g' h hg => ?_⟩
  ·cases c with
   | skip =>
    simp only [exec, Option.some.injEq, Prod.mk.injEq] at h
    obtain ⟨rfl, rfl⟩ := h
    exact ⟨hg, Ek rfl fun loc a w Q hpc hf hw hc => wp_skip (hc loc a w (AA.refl _ _) (Nat.le_refl _) hf rfl hw)⟩
   | ret =>
    simp only [exec, Option.some.injEq, Prod.mk.injEq] at h
    obtain ⟨rfl, rfl⟩ := h
    exact ⟨hg, Ek rfl fun loc a w Q hpc hf hw hc => wp_ret (hc loc a w (AA.refl _ _) (Nat.le_refl _) hf rfl hw)⟩
   | exit id =>
    simp only [exec, Option.some.injEq, Prod.mk.injEq] at h
    obtain ⟨rfl, rfl⟩ := h
    exact ⟨hg, Ek rfl fun loc a w Q hpc hf hw hc => wp_exit (hc loc a w (AA.refl _ _) (Nat.le_refl _) hf rfl hw)⟩
   | region id ops draw =>
    simp only [exec, Option.bind_eq_bind, Option.bind_eq_some_iff, Option.some.injEq, Prod.mk.injEq] at h
    obtain ⟨⟨S', g1⟩, h1, rfl, rfl⟩ := h
    obtain ⟨k1, k2, k3⟩ := I8 hX.toXOK ih3 h1 hg
    refine ⟨k1, Ek k2 fun loc a w Q hpc hf hw hc => ?_⟩
    have := k3 id loc a w Q hpc hf hw hc
    simpa using this
   | seq x y =>
    simp only [exec, Option.bind_eq_bind, Option.bind_eq_some_iff] at h
    obtain ⟨⟨o, g1⟩, h1, h⟩ := h
    simp only at h
    have hW : ∀ Q a w, x.wp P (Exit.then (y.wp P Q) Q) a w → (Code.seq x y).wp P Q a w := fun Q a w hh => wp_seq hh
    split at h
    ·rename_i hn
     simp only [Option.some.injEq, Prod.mk.injEq] at h
     obtain ⟨rfl, rfl⟩ := h
     obtain ⟨k1, k2⟩ := ih1 _ _ _ _ _ _ _ (hat.child rfl) h1 hg
     exact ⟨k1, MJ (Wb := fun Q a w => y.wp P Q a w) hW k2 hn⟩
    ·rename_i s hn
     split at h
     ·rename_i hf
      simp only [Option.some.injEq, Prod.mk.injEq] at h
      obtain ⟨rfl, rfl⟩ := h
      obtain ⟨k1, k2⟩ := ih1 _ _ _ _ _ _ _ (hat.child rfl) h1 hg
      exact ⟨k1, KU (Wb := fun Q a w => y.wp P Q a w) hW k2 hn hf⟩
     ·simp only [Option.bind_eq_some_iff] at h
      obtain ⟨⟨o2, g2⟩, h2, h⟩ := h
      simp only at h
      split at h
      ·rename_i hr
       simp only [Option.some.injEq, Prod.mk.injEq] at h
       obtain ⟨rfl, rfl⟩ := h
       obtain ⟨q1, q2⟩ := ih1 _ _ _ _ _ _ _ (hat.child rfl) h2 hg
       obtain ⟨k1, k2⟩ := ih1 _ _ _ _ _ _ _ (hat.child rfl) h1 q1
       exact ⟨k1, KV hW k2 hn q2 hr⟩
      ·simp only [Option.some.injEq] at h
       have hgc : Good T e (combine s.pc (mkNot s.pc g2).1 none o2 (Ah.drop .norm o) (mkNot s.pc g2).2).2 := by rw [h]; exact hg
       have hcg := CJ (w0 := w0) (T := T) (e := e) (c := s.pc) (nc := (mkNot s.pc g2).1) (both := none) (o1 := o2) (o2 := Ah.drop .norm o) (g := (mkNot s.pc g2).2)
       have hgn : Good T e (mkNot s.pc g2).2 := CK hgc
       have hnot := A9 hgn
       obtain ⟨q1, q2⟩ := ih1 _ _ _ _ _ _ _ (hat.child rfl) h2 hnot.1
       obtain ⟨k1, k2⟩ := ih1 _ _ _ _ _ _ _ (hat.child rfl) h1 q1
       have := Ik hW k2 hn q2 (nc := (mkNot s.pc g2).1) (by rw [hnot.2]; rfl) hgc
       rw [h] at this
       exact ⟨k1, this⟩
   | cond c x y =>
    simp only [exec, Option.bind_eq_bind, Option.bind_eq_some_iff] at h
    obtain ⟨p, hp, b, hb, h⟩ := h
    have hev : ∀ loc (a : Act), Al e S.rows.length loc S.fr a.tmps → a.eval c = .bool (b.ev e).bool := fun loc a hf => PV.Kr hb (Aa hp hf (fun x hx => by cases hx))
    split at h
    ·obtain ⟨k1, k2⟩ := ih1 _ _ _ _ _ _ _ (hat.child rfl) h hg
     exact ⟨k1, k2.pc, k2.one, fun loc a w Q hpc hf hw hQ => wp_cond_true (hev loc a hf) (k2.wp loc a w Q hpc hf hw hQ)⟩
    ·obtain ⟨k1, k2⟩ := ih1 _ _ _ _ _ _ _ (hat.child rfl) h hg
     exact ⟨k1, k2.pc, k2.one, fun loc a w Q hpc hf hw hQ => wp_cond_false (hev loc a hf) (k2.wp loc a w Q hpc hf hw hQ)⟩
    ·simp only [Option.bind_eq_some_iff] at h
     obtain ⟨⟨o1, g1⟩, h1, ⟨o2, g2⟩, h2, h⟩ := h
     simp only [Option.some.injEq] at h
     obtain ⟨nx, gn, hnx⟩ : ∃ nx gn, mkNot b g = (nx, gn) := ⟨_, _, rfl⟩
     obtain ⟨p1, ga, hp1⟩ : ∃ p1 ga, mkAnd S.pc b gn = (p1, ga) := ⟨_, _, rfl⟩
     obtain ⟨p2, gb, hp2⟩ : ∃ p2 gb, mkAnd S.pc nx ga = (p2, gb) := ⟨_, _, rfl⟩
     simp only [hnx, hp1, hp2] at h h1 h2
     have hgc : Good T e (combine b nx (some (S.pc, p1, p2)) o1 o2 g2).2 := by rw [h]; exact hg
     have hg2 : Good T e g2 := CK hgc
     obtain ⟨q1, q2⟩ := ih1 _ _ _ _ _ _ _ (hat.child rfl) h2 hg2
     obtain ⟨k1, k2⟩ := ih1 _ _ _ _ _ _ _ (hat.child rfl) h1 q1
     have m2 := AF (T := T) (e := e) (a := S.pc) (b := nx) (g := ga) (by rw [hp2]; exact k1)
     rw [hp2] at m2
     have m1 := AF (T := T) (e := e) (a := S.pc) (b := b) (g := gn) (by rw [hp1]; exact m2.1)
     rw [hp1] at m1
     have m0 := A9 (T := T) (e := e) (a := b) (g := g) (by rw [hnx]; exact m1.1)
     rw [hnx] at m0
     have hnc : (nx.ev e).bool = !(b.ev e).bool := by rw [m0.2]; rfl
     have hcg := (CJ (w0 := w0) hnc (fun p x y h0 => by
      simp only [Option.some.injEq, Prod.mk.injEq] at h0
      obtain ⟨rfl, rfl, rfl⟩ := h0
      exact ⟨m1.2, by rw [m2.2, hnc]⟩) hgc).2
     rw [h] at hcg
     obtain ⟨c1, c2, c3⟩ := hcg
     refine ⟨m0.1, fun x u hx hu => ?_, fun x y u v hx hy hu hv => ?_, fun loc a w Q hpc hf hw hQ => ?_⟩
     ·rcases c1 x u hx hu with ⟨_, s, s1, s2⟩ | ⟨_, s, s1, s2⟩
      ·have := k2.pc x s s1 s2
       simp only [m1.2, Bool.and_eq_true] at this
       exact this.1
      ·have := q2.pc x s s1 s2
       simp only [m2.2, Bool.and_eq_true] at this
       exact this.1
     ·rcases c1 x u hx hu with ⟨a1, s, s1, s2⟩ | ⟨a1, s, s1, s2⟩ <;> rcases c1 y v hy hv with ⟨a2, t, t1, t2⟩ | ⟨a2, t, t1, t2⟩
      ·exact k2.one _ _ _ _ s1 t1 s2 t2
      ·rw [a1] at a2; cases a2
      ·rw [a1] at a2; cases a2
      ·exact q2.one _ _ _ _ s1 t1 s2 t2
     ·refine wp_cond_split (hev loc a hf) (fun ht => ?_) (fun ht => ?_)
      ·refine k2.wp loc a w Q (by simp only [m1.2, hpc, ht, Bool.and_self]) hf hw fun x s hx hs => ?_
       obtain ⟨u, u1, u2, u3⟩ := c2 ht x s hx hs
       exact (hQ x u u1 u2).ref u3
      ·refine q2.wp loc a w Q (by simp only [m2.2, hpc, hnc, ht]; rfl) hf hw fun x s hx hs => ?_
       obtain ⟨u, u1, u2, u3⟩ := c3 ht x s hx hs
       exact (hQ x u u1 u2).ref u3
   | block id c =>
    simp only [exec, Option.bind_eq_bind, Option.bind_eq_some_iff] at h
    obtain ⟨⟨o, g1⟩, h1, h⟩ := h
    simp only at h
    have hg1 : Good T e g1 := PH h hg
    obtain ⟨k1, k2⟩ := ih1 _ _ _ _ _ _ _ (hat.child rfl) h1 hg1
    exact ⟨k1, (PG k2 h hg).2⟩
   | loop c =>
    simp only [exec] at h
    split at h
    ·obtain ⟨fn, body, f1, f2, f3⟩ := hat
     obtain ⟨k1, k2⟩ := D2 (w0 := w0) (c := c) hT (fun q hq hf hp => hX.lps q hq fn body c (by rw [hf]; exact f1) f2 (by rw [hp]; exact f3)) h hg
     exact ⟨k1, k2.pc, k2.one, fun loc a w Q hpc hf hw hQ => (k2.wp loc a w Q hpc hf hw hQ).wp⟩
    obtain ⟨k1, k2⟩ := ih2 _ _ _ _ _ _ _ _ (hat.child rfl) h hg
    exact ⟨k1, k2.pc, k2.one, fun loc a w Q hpc hf hw hQ => (k2.wp loc a w Q hpc hf hw hQ).wp⟩
   | _ => simp [exec] at h
  ·simp only [rounds, Option.bind_eq_bind] at h
   have hW : ∀ Q a w, c.wp P (Exit.then (LW P c Q) Q) a w → LW P c Q a w := fun Q a w hh => .of hh
   split at h
   ·simp only [Option.some.injEq, Prod.mk.injEq] at h
    obtain ⟨rfl, rfl⟩ := h
    have hm := An hg
    have hn := A9 hm.1
    have hf : (S.pc.ev e).bool = false := by
     have := hm.2 rfl
     rw [hn.2] at this
     simpa using this
    exact ⟨hn.1, fun x s hx => by simp [Ah.get] at hx, fun x y s t hx => by simp [Ah.get] at hx, fun loc a w Q hpc => by rw [hf] at hpc; cases hpc⟩
   ·simp only [Option.bind_eq_some_iff] at h
    obtain ⟨⟨o, g1⟩, h1, h⟩ := h
    simp only at h
    split at h
    ·rename_i hn
     simp only [Option.some.injEq, Prod.mk.injEq] at h
     obtain ⟨rfl, rfl⟩ := h
     obtain ⟨k1, k2⟩ := ih1 _ _ _ _ _ _ _ hat h1 hg
     exact ⟨k1, MJ (Wb := fun Q a w => LW P c Q a w) hW k2 hn⟩
    ·rename_i s hn
     split at h
     ·rename_i hf
      simp only [Option.some.injEq, Prod.mk.injEq] at h
      obtain ⟨rfl, rfl⟩ := h
      obtain ⟨k1, k2⟩ := ih1 _ _ _ _ _ _ _ hat h1 hg
      exact ⟨k1, KU (Wb := fun Q a w => LW P c Q a w) hW k2 hn hf⟩
     ·simp only [Option.bind_eq_some_iff] at h
      obtain ⟨⟨o2, g2⟩, h2, h⟩ := h
      simp only at h
      split at h
      ·rename_i hr
       simp only [Option.some.injEq, Prod.mk.injEq] at h
       obtain ⟨rfl, rfl⟩ := h
       obtain ⟨q1, q2⟩ := ih2 _ _ _ _ _ _ _ _ hat h2 hg
       obtain ⟨k1, k2⟩ := ih1 _ _ _ _ _ _ _ hat h1 q1
       exact ⟨k1, KV hW k2 hn q2 hr⟩
      ·simp only [Option.some.injEq] at h
       have hgc : Good T e (combine s.pc (mkNot s.pc g2).1 none o2 (Ah.drop .norm o) (mkNot s.pc g2).2).2 := by rw [h]; exact hg
       have hgn : Good T e (mkNot s.pc g2).2 := CK hgc
       have hnot := A9 hgn
       obtain ⟨q1, q2⟩ := ih2 _ _ _ _ _ _ _ _ hat h2 hnot.1
       obtain ⟨k1, k2⟩ := ih1 _ _ _ _ _ _ _ hat h1 q1
       have := Ik hW k2 hn q2 (nc := (mkNot s.pc g2).1) (by rw [hnot.2]; rfl) hgc
       rw [h] at this
       exact ⟨k1, this⟩
  ·simp only [inline] at h
   split at h
   ·exact Fx hX.big hT h hg
   split at h
   ·rename_i m hm
    split at h
    ·rename_i hf
     have hf : m.f = f := by simpa using hf
     have hmo := hX.muts _ _ hm
     unfold QD at hmo
     split at h
     ·rename_i hgr
      rw [hgr] at hmo
      obtain ⟨q1, q2⟩ := KC hT hmo h hg
      rw [hf] at q2
      exact ⟨q1, q2⟩
     ·rename_i hgr
      rw [show m.grow = false by simpa using hgr] at hmo
      obtain ⟨q1, q2⟩ := LM hmo h hg
      rw [hf] at q2
      exact ⟨q1, q2⟩
    ·cases h
   simp only [Option.bind_eq_bind, Option.bind_eq_some_iff] at h
   obtain ⟨fn, hfn, body, hbody, ⟨o, g1⟩, h1, ⟨s, g2⟩, h2, ⟨rs, g3⟩, h3, h⟩ := h
   simp only [Option.some.injEq, Prod.mk.injEq] at h
   obtain ⟨rfl, rfl, rfl⟩ := h
   obtain ⟨f1, _, _⟩ := hX.fns f fn hfn
   obtain ⟨r1, r2⟩ := EH (P := P) (e := e) (w0 := w0) hX.AD h3
   subst r1
   have hg1 : Good T e g1 := OJ h2 hg
   obtain ⟨k1, k2⟩ := ih1 _ _ _ _ _ _ _ ⟨fn, body, hfn, hbody, rfl⟩ h1 hg1
   obtain ⟨_, j2⟩ := NN k2 h2 hg
   refine ⟨k1, fun loc vs w hpc hvs hw => ?_⟩
   refine calls_of_wp f1 hbody (k2.wp loc _ w _ hpc (Al.enter hvs) hw fun x s1 hx hs1 => ?_)
   obtain ⟨j3, j4⟩ := j2 x s1 hx hs1
   intro loc' a' w' q1 q2 q3 q4 q5
   obtain ⟨loc2, t0, t1, t2, t3⟩ := j4 loc' a'.tmps w' q3 q5
   obtain ⟨us, u1, u2⟩ := r2 loc2 a'.tmps w' t2 t3
   have : a'.defers = [] ∧ ∃ v, (Go.results fn a'.tmps).run P w' = .ok v w' ∧ (fun en w'' => ∃ u, en = Ending.returned u ∧ ∃ loc', AA rows.length loc loc' ∧ rows.length ≤ s.rows.length ∧ (HT rs).rel e s.rows.length loc' u ∧ AY e w0 loc' s.rows w'') (.returned v) w' :=
    ⟨q4, HG us, OG u2, HG us, rfl, loc2, q1.trans t0 q2, Nat.le_trans q2 t1, E5 u1, t3⟩
   rcases j3 with rfl | rfl
   ·exact this
   ·exact this
end
end Rx
namespace Rx
open Go Go.RowKit
section
variable {T : Nat → List A → Bool × List A} {e : Nat → A} {P : Program} {X : Ctx} {w0 : W0}
def ext (T : Nat → List A → Bool × List A) (e : Nat → A) (d : Def) : Nat → A := fun j =>
 if d.base ≤ j then (match (d.d.ev T (d.args.map (L.ev e)))[j - d.base]? with | some a => a | none => e j) else e j
def Ds (T : Nat → List A → Bool × List A) (e : Nat → A) : List Def → Nat → A
 | [] => e
 | d :: l => ext T (Ds T e l) d
def BP (k : Nat) : List L → Bool
 | [] => true
 | .var i :: l => decide (i < k) && BP k l
 | _ :: l => BP k l
def Def.width (ws : List (Nat × Nat)) (d : Def) : Nat :=
 match d.d with
 | .call f => (look f ws).getD 0
 | .upd => d.args.length - 2
 | _ => 1
def Il (ws : List (Nat × Nat)) : List Def → Nat → Bool
 | [], _ => true
 | d :: l, top => BP d.base d.args && decide (d.base + d.width ws ≤ top) && (match d.d with | .call f => (look f ws).isSome | _ => true) && Il ws l d.base
def FA (T : Nat → List A → Bool × List A) (ws : List (Nat × Nat)) : Prop := ∀ f k, look f ws = some k → ∀ as, (T f as).2.length + 1 ≤ k
theorem Ua {ws : List (Nat × Nat)} (hw : FA T ws) (d : Def) (hd : (match d.d with | .call f => (look f ws).isSome | _ => true) = true) : (d.d.ev T (d.args.map (L.ev e))).length ≤ d.width ws := by
 obtain ⟨b, dd, args⟩ := d
 unfold Def.width
 cases dd
 case call f =>
  simp only at hd
  cases hk : look f ws with
  | none => rw [hk] at hd; cases hd
  | some k => simpa [D.ev, hk] using hw f k hk (args.map (L.ev e))
 case upd =>
  match args with
  | [] => simp [D.ev]
  | [_] => simp [D.ev]
  | _ :: _ :: l => simp [D.ev]
 case rep =>
  match args with
  | [] => simp [D.ev]
  | _ :: l => simp [D.ev]
 case mkl => simp [D.ev]
 case sel =>
  match args with
  | [] => simp [D.ev]
  | _ :: l => simp [D.ev]
 all_goals
  match args with
  | [] => simp [D.ev]
  | [_] => simp [D.ev]
  | [_, _] => simp [D.ev]
  | [_, _, _] => simp [D.ev]
  | _ :: _ :: _ :: _ :: _ => simp [D.ev]
theorem BI {k : Nat} {e e' : Nat → A} (he : ∀ j, j < k → e' j = e j) : ∀ {l : List L}, BP k l = true → l.map (L.ev e') = l.map (L.ev e)
 | [], _ => rfl
 | .var i :: l, h => by
  simp only [BP, Bool.and_eq_true, decide_eq_true_eq] at h
  simp only [List.map_cons, L.ev, he i h.1, BI he h.2]
 | .e :: l, h => by simp only [BP] at h; simp only [List.map_cons, L.ev, BI he h]
 | .n _ :: l, h => by simp only [BP] at h; simp only [List.map_cons, L.ev, BI he h]
 | .t _ :: l, h => by simp only [BP] at h; simp only [List.map_cons, L.ev, BI he h]
 | .s _ :: l, h => by simp only [BP] at h; simp only [List.map_cons, L.ev, BI he h]
theorem Jb {ws : List (Nat × Nat)} (hw : FA T ws) (e : Nat → A) : ∀ {l : List Def} {top : Nat}, Il ws l top = true → ∀ d ∈ l, d.holds T (Ds T e l)
 | d :: l, top, h, x, hx => by
  simp only [Il, Bool.and_eq_true, decide_eq_true_eq] at h
  obtain ⟨⟨⟨h1, h2⟩, hcd⟩, h3⟩ := h
  have below : ∀ j, j < d.base → Ds T e (d :: l) j = Ds T e l j := fun j hj => by
   show ext T (Ds T e l) d j = _
   unfold ext
   rw [if_neg (by omega)]
  rcases List.mem_cons.1 hx with rfl | hx
  ·intro j a ha
   rw [BI below h1] at ha
   show ext T (Ds T e l) x (x.base + j) = a
   unfold ext
   rw [if_pos (by omega), show x.base + j - x.base = j by omega, ha]
  ·have ih := Jb hw e h3 x hx
   have htop : ∀ {l : List Def} {top : Nat}, Il ws l top = true → ∀ d ∈ l, d.base + d.width ws ≤ top ∧ BP d.base d.args = true ∧ (match d.d with | .call f => (look f ws).isSome | _ => true) = true := by
    intro l
    induction l with
    | nil => intro top _ d hd; cases hd
    | cons y l ih =>
     intro top h d hd
     simp only [Il, Bool.and_eq_true, decide_eq_true_eq] at h
     rcases List.mem_cons.1 hd with rfl | hd
     ·exact ⟨h.1.1.2, h.1.1.1, h.1.2⟩
     ·have := ih h.2 d hd
      have h5 := h.1.1.2
      exact ⟨by omega, this.2⟩
   obtain ⟨k1, k2, k3⟩ := htop h3 x hx
   intro j a ha
   rw [BI (e := Ds T e l) (fun i hi => below i (by omega)) k2] at ha
   have hj : j < (x.d.ev T (x.args.map (L.ev (Ds T e l)))).length := Ab ha
   have hwd := Ua (e := Ds T e l) hw x k3
   rw [below _ (by omega)]
   exact ih j a ha
theorem Rh (hX : XL P T X) {n f next : Nat} {args : List PV} {rows rows' : List Row} {v : SV} {g : G} {kn : List FJ} (h : run X n f args rows next kn = some (v, rows', g)) (hg : Good T e g)
  {loc : Loc} {vs : List Value} {w : World} (hT : Lv P w) (hvs : Am e rows.length loc args vs) {S : Nat → Prop} (hS : ∀ k, S k → k < w.heap.size) (hrows : Ad e loc rows w ⟨w.heap.size, S⟩) :
  Calls P f vs.toArray w fun en w' => ∃ u, en = .returned u ∧ (∃ loc', v.rel e rows'.length loc' u) ∧ Below w.heap.size w w' := by
 have := (HN (T := T) (e := e) (w0 := ⟨w, S⟩) hX hT n).2.2.2 f args rows (.t true) _ v rows' g h hg
 exact (this.2 loc vs w rfl hvs ⟨_, ⟨rfl, fun k hk => .inl hk, Nat.le_refl _, hS⟩, hrows, Below.refl _ _⟩).mono fun en w' ⟨u, h1, loc', h2, h3, h4, h5⟩ => ⟨u, h1, ⟨loc', h4⟩, h5.T7⟩
end
end Rx
namespace Rx
open Go Go.RowKit
def QJ (lf : Nat → L) : List Aj → Nat → List C
 | [], _ => []
 | s :: l, b => .k (s.mk (lf b)) :: QJ lf l (b + 1)
def E9 (lf : Nat → L) (ss : List Aj) : Nat → Nat → List C
 | 0, _ => []
 | n + 1, b => QJ lf ss b ++ E9 lf ss n (b + ss.length)
def Tx (lits : List (Nat × Int)) (i : Nat) : L := match look i lits with | some x => .n x | none => .var i
def JN : List Aj → Nat
 | [] => 0
 | .sl _ :: ss => JN ss + 2
 | _ :: ss => JN ss + 1
def Ge (lf : Nat → L) : List Aj → Nat → Nat → List C
 | [], _, _ => []
 | .sl _ :: ss, b, r => .k (.fsl r (lf (b + 1))) :: Ge lf ss (b + 2) (r + 1)
 | s :: ss, b, r => .k (s.mk (lf b)) :: Ge lf ss (b + 1) r
def B6 (lf : Nat → L) : List Aj → Nat → List Row
 | [], _ => []
 | .sl ss' :: ss, b => { own := false, ty := 0, es := 0, cells := [], lst := some ⟨false, 0, ss', lf b, lf (b + 1)⟩ } :: B6 lf ss (b + 2)
 | _ :: ss, b => B6 lf ss (b + 1)
def Dt (lf : Nat → L) : List PS → List Nat → Nat → Nat → Option (List PV × List Row × Nat)
 | [], [], b, _ => some ([], [], b)
 | .c agg ss :: l, ns, b, r => do
  let p ← Di agg (QJ lf ss b)
  let (ps, rows, k) ← Dt lf l ns (b + ss.length) r
  some (p :: ps, rows, k)
 | .slc ss :: l, n :: ns, b, r => do
  let (ps, rows, k) ← Dt lf l ns (b + (1 + n * ss.length)) (r + 1)
  some (.one (.k (.slc r 0 n)) :: ps, { own := false, ty := 0, es := ss.length, cells := E9 lf ss n (b + 1) } :: rows, k)
 | .nil :: l, ns, b, r => do
  let (ps, rows, k) ← Dt lf l ns b r
  some (.one (.k .nilslc) :: ps, rows, k)
 | .d agg ss :: l, ns, b, r => do
  let p ← Di agg (Ge lf ss b r)
  let (ps, rows, k) ← Dt lf l ns (b + JN ss) (r + (B6 lf ss b).length)
  some (p :: ps, B6 lf ss b ++ rows, k)
 | .lst ss :: l, ns, b, r => do
  let (ps, rows, k) ← Dt lf l ns (b + 2) (r + 1)
  some (.one (.k (.fsl r (lf (b + 1)))) :: ps, { own := false, ty := 0, es := 0, cells := [], lst := some ⟨false, 0, ss, lf b, lf (b + 1)⟩ } :: rows, k)
 | _, _, _, _ => none
def OK : List PS → List Nat → List A → Prop
 | [], ns, as => ns = [] ∧ as = []
 | .c _ ss :: l, ns, as => ∃ a1 a2, as = a1 ++ a2 ∧ a1.length = ss.length ∧ OK l ns a2
 | .slc ss :: l, ns, as => ∃ n ns' a1 a2, ns = n :: ns' ∧ as = (A.i n :: a1) ++ a2 ∧ a1.length = n * ss.length ∧ OK l ns' a2
 | .nil :: l, ns, as => OK l ns as
 | .lst _ :: l, ns, as => ∃ a k as', as = a :: k :: as' ∧ OK l ns as'
 | .d _ ss :: l, ns, as => ∃ a1 a2, as = a1 ++ a2 ∧ a1.length = JN ss ∧ OK l ns a2
def Em : List (Bool × List Aj) → List PV → Option (List L)
 | [], [] => some []
 | (agg, ss) :: rs, p :: ps => do
  let a ← HS [] (.c agg ss) p
  let r ← Em rs ps
  some (a ++ r)
 | _, _ => none
def KZ (rs : List (Bool × List Aj)) : SV → Option (List L)
 | .pv p => Em rs [p]
 | .tup l => if l.length == 1 then none else Em rs l
 | _ => none
section
variable {T : Nat → List A → Bool × List A} {e : Nat → A} {P : Program} {X : Ctx} {w0 : W0}
theorem Jc {n : Nat} {loc : Loc} {lf : Nat → L} : ∀ {ss : List Aj} {as : List A} {b : Nat}, as.length = ss.length → (∀ j a, as[j]? = some a → (lf (b + j)).ev e = a) → Af e n loc (QJ lf ss b) (Ak ss as)
 | [], [], _, _, _ => trivial
 | [], _ :: _, _, h, _ => by simp at h
 | _ :: _, [], _, h, _ => by simp at h
 | s :: ss, a :: as, b, h, hh => ⟨E4 (by simpa using hh 0 a rfl), Jc (by simpa using h) fun j x hx => by
   have := hh (j + 1) x (by simpa using hx)
   rwa [show b + 1 + j = b + (j + 1) by omega]⟩
theorem Im {n : Nat} {loc : Loc} {lf : Nat → L} {ss : List Aj} : ∀ {m b : Nat} {as : List A}, as.length = m * ss.length → (∀ j a, as[j]? = some a → (lf (b + j)).ev e = a) → Af e n loc (E9 lf ss m b) (GQ ss m as)
 | 0, _, _, _, _ => trivial
 | m + 1, b, as, h, hh => by
  have hle : ss.length ≤ as.length := by rw [h, Nat.succ_mul]; omega
  refine Dy (Jc (by simp [hle]) fun j a hj => ?_) (Im (by rw [List.length_drop, h, Nat.succ_mul]; omega) fun j a hj => ?_)
  ·rw [List.getElem?_take] at hj
   split at hj
   ·exact hh j a hj
   ·cases hj
  ·rw [List.getElem?_drop] at hj
   rw [Nat.add_assoc]
   exact hh _ a hj
theorem Cq {M : Addr → Option Value} : ∀ {ss : List Aj} {as : List A} {cs : List Value}, BH M ss as cs → as.length = JN ss ∧ cs.length = ss.length
 | [], _, _, h => by obtain ⟨rfl, rfl⟩ := h; exact ⟨rfl, rfl⟩
 | .sl _ :: _, _, _, h => by
  obtain ⟨a, k, ar, b, m, c, cr, rfl, rfl, _, _, _, h⟩ := h
  have := Cq h
  simp [JN, this]
 | .int _ :: _, _, _, h => by obtain ⟨a, ar, cr, rfl, rfl, h⟩ := h; have := Cq h; simp [JN, this]
 | .bool :: _, _, _, h => by obtain ⟨a, ar, cr, rfl, rfl, h⟩ := h; have := Cq h; simp [JN, this]
 | .str :: _, _, _, h => by obtain ⟨a, ar, cr, rfl, rfl, h⟩ := h; have := Cq h; simp [JN, this]
 | .val :: _, _, _, h => by obtain ⟨a, ar, cr, rfl, rfl, h⟩ := h; have := Cq h; simp [JN, this]
theorem BU.mono {M M' : Addr → Option Value} (hm : ∀ a u, M a = some u → M' a = some u) : ∀ {ps : List PS} {vs : List Value} {as : List A}, BU M ps vs as → BU M' ps vs as
 | [], _, _, h => h
 | p :: ps, _, _, h => by
  obtain ⟨v, vr, a1, a2, h1, h2, h3, h4⟩ := h
  refine ⟨v, vr, a1, a2, h1, h2, ?_, h4.mono hm⟩
  cases p with
  | c => exact h3
  | nil => exact h3
  | slc ss =>
   obtain ⟨b, o, n, c, rest, q1, q2, q3, q4⟩ := h3
   exact ⟨b, o, n, c, rest, q1, q2, q3, fun j u hu => hm _ _ (q4 j u hu)⟩
  | lst ss =>
   obtain ⟨a, k, b, m, c, q1, q2, q3, q4, q5⟩ := h3
   exact ⟨a, k, b, m, c, q1, q2, q3, q4, q5.mono hm⟩
  | d agg ss =>
   obtain ⟨cs, q1, q2⟩ := h3
   exact ⟨cs, q1, q2.mono hm⟩
theorem QK {S : Nat → Prop} {w : World} {ss : List Aj} {x kk : A} {bb : Option Addr} {m c : Nat} {l0 l1 : L} (e0 : l0.ev e = x) (e1 : l1.ev e = kk) (hk : kk.int = (m : Nat)) (hs : 0 < ss.length) (hfsc : FU (CW S w) (.sl ss) x (.slice bb m c)) :
  DX e (CW S w) { own := false, ty := 0, es := 0, cells := [], lst := some ⟨false, 0, ss, l0, l1⟩ } (.slice bb m c) ∧ ∀ (N r : Nat) (loc : Loc), r < N → loc r = Dl (.slice bb m c) → (K.fsl r l1).rel e N loc (.slice bb m c) := by
 obtain ⟨as1, m', c', b', z1, z2, z3, z4⟩ := hfsc.slice
 injection z2 with z2 z5 z6
 subst z2 z5 z6
 refine ⟨⟨rfl, rfl, _, as1, m, rfl, rfl, hs, by rw [← z1]; exact e0, z3, by simp only; rw [e1]; exact hk, by rw [z1] at hfsc; exact hfsc⟩, fun N r loc hr hloc => ?_⟩
 refine ⟨⟨hr, by rw [e1, hk]; omega, ?_⟩, rfl, .inr ?_⟩
 ·rw [hloc, Cn, e1, hk]
  exact ⟨bb, c, by simp⟩
 ·simp only [K.A0]
  rw [hloc, Cn]
theorem FB {S : Nat → Prop} {lf : Nat → L} {w : World} {s : Aj} {ss : List Aj} {as : List A} {vs : List Value} {b r : Nat} (h0 : Ge lf (s :: ss) b r = .k (s.mk (lf b)) :: Ge lf ss (b + 1) r) (h0' : B6 lf (s :: ss) b = B6 lf ss (b + 1))
  (ih : ∀ {as : List A} {vs : List Value} {b r : Nat}, BH (CW S w) ss as vs → (∀ j a, as[j]? = some a → (lf (b + j)).ev e = a) → ∃ xs : List Value, xs.length = (B6 lf ss b).length ∧ (∀ (t : Nat) row, (B6 lf ss b)[t]? = some row → ∃ v, xs[t]? = some v ∧ DX e (CW S w) row v) ∧
   ∀ (N : Nat) (loc : Loc), r + (B6 lf ss b).length ≤ N → (∀ (t : Nat) v, xs[t]? = some v → loc (r + t) = Dl v) → Af e N loc (Ge lf ss b r) vs)
  (h : ∃ a ar cr, as = a :: ar ∧ vs = s.A0 a :: cr ∧ BH (CW S w) ss ar cr) (he : ∀ j a, as[j]? = some a → (lf (b + j)).ev e = a) :
  ∃ xs : List Value, xs.length = (B6 lf (s :: ss) b).length ∧ (∀ (t : Nat) row, (B6 lf (s :: ss) b)[t]? = some row → ∃ v, xs[t]? = some v ∧ DX e (CW S w) row v) ∧
   ∀ (N : Nat) (loc : Loc), r + (B6 lf (s :: ss) b).length ≤ N → (∀ (t : Nat) v, xs[t]? = some v → loc (r + t) = Dl v) → Af e N loc (Ge lf (s :: ss) b r) vs := by
 obtain ⟨a, ar, cr, rfl, rfl, hr⟩ := h
 obtain ⟨xs, x1, x2, x3⟩ := ih (b := b + 1) (r := r) hr (fun j a hj => by
  have := he (1 + j) a (by rw [Nat.add_comm]; simpa using hj)
  rwa [Nat.add_assoc])
 rw [h0, h0']
 exact ⟨xs, x1, x2, fun N loc hN hloc => ⟨E4 (he 0 _ rfl), x3 N loc hN hloc⟩⟩
theorem Ca {S : Nat → Prop} {lf : Nat → L} {w : World} : ∀ {ss : List Aj} {as : List A} {vs : List Value} {b r : Nat}, BH (CW S w) ss as vs → (∀ j a, as[j]? = some a → (lf (b + j)).ev e = a) →
  ∃ xs : List Value, xs.length = (B6 lf ss b).length ∧ (∀ (t : Nat) row, (B6 lf ss b)[t]? = some row → ∃ v, xs[t]? = some v ∧ DX e (CW S w) row v) ∧
   ∀ (N : Nat) (loc : Loc), r + (B6 lf ss b).length ≤ N → (∀ (t : Nat) v, xs[t]? = some v → loc (r + t) = Dl v) → Af e N loc (Ge lf ss b r) vs
 | [], _, _, _, _, h, _ => by
  obtain ⟨rfl, rfl⟩ := h
  exact ⟨[], rfl, fun t row h => by simp [B6] at h, fun _ _ _ _ => trivial⟩
 | .sl ss' :: ss, _, _, b, r, h, he => by
  obtain ⟨a, k, ar, bb, m, c, cr, rfl, rfl, hk, hs, hf, hr⟩ := h
  obtain ⟨xs, x1, x2, x3⟩ := Ca (b := b + 2) (r := r + 1) hr (fun j a hj => by
   have := he (2 + j) a (by rw [show 2 + j = j + 1 + 1 by omega]; simpa using hj)
   rwa [Nat.add_assoc])
  obtain ⟨f1, f2⟩ := QK (he 0 _ rfl) (he 1 _ rfl) hk hs hf
  refine ⟨.slice bb m c :: xs, by simp [B6, x1], fun t row ht => ?_, fun N loc hN hloc => ?_⟩
  ·cases t with
   | zero =>
    simp only [B6, List.getElem?_cons_zero, Option.some.injEq] at ht
    subst ht
    exact ⟨_, rfl, f1⟩
   | succ t => simpa using x2 t row (by simpa [B6] using ht)
  ·simp only [B6, List.length_cons] at hN
   refine ⟨f2 N r loc (by omega) (by simpa using hloc 0 _ rfl), x3 N loc (by omega) fun t v ht => ?_⟩
   have := hloc (t + 1) v (by simpa using ht)
   rwa [show r + 1 + t = r + (t + 1) by omega]
 | .int kd :: ss, _, _, b, r, h, he => FB (s := .int kd) rfl rfl (fun h he => Ca h he) h he
 | .bool :: ss, _, _, b, r, h, he => FB (s := .bool) rfl rfl (fun h he => Ca h he) h he
 | .str :: ss, _, _, b, r, h, he => FB (s := .str) rfl rfl (fun h he => Ca h he) h he
 | .val :: ss, _, _, b, r, h, he => FB (s := .val) rfl rfl (fun h he => Ca h he) h he
theorem CZ {S : Nat → Prop} {lf : Nat → L} {w : World} (hS : ∀ k, S k → k < w.heap.size) : ∀ {ps : List PS} {ns : List Nat} {b r k : Nat} {args : List PV} {rows : List Row} {vs : List Value} {as : List A},
  Dt lf ps ns b r = some (args, rows, k) → BU (CW S w) ps vs as → OK ps ns as → (∀ j a, as[j]? = some a → (lf (b + j)).ev e = a) →
  k = b + as.length ∧ ∃ locs : List Lc, locs.length = rows.length ∧ ∀ (loc : Loc) (N : Nat), (∀ i x, locs[i]? = some x → loc (r + i) = x) → r + rows.length ≤ N →
   Am e N loc args vs ∧ ∀ i row, rows[i]? = some row → row.own = false ∧ Av e N loc w ⟨w.heap.size, S⟩ (r + i) row ∧ ∀ q, row.lst = some q → q.own = false ∧ Bb e loc w ⟨w.heap.size, S⟩ (r + i) q
 | [], [], b, r, k, args, rows, vs, as, h, ha, hl, he => by
  simp only [Dt, Option.some.injEq, Prod.mk.injEq] at h
  obtain ⟨rfl, rfl, rfl⟩ := h
  rw [ha.1, ha.2]
  exact ⟨rfl, [], rfl, fun loc N _ _ => ⟨trivial, fun i row h => by simp at h⟩⟩
 | [], _ :: _, _, _, _, _, _, _, _, h, _, _, _ => by simp [Dt] at h
 | .c agg ss :: l, ns, b, r, k, args, rows, vs, as, h, ha, hl, he => by
  simp only [Dt, Option.bind_eq_bind, Option.bind_eq_some_iff] at h
  obtain ⟨p, hp, ⟨ps', rows', k'⟩, hr, h⟩ := h
  simp only [Option.some.injEq, Prod.mk.injEq] at h
  obtain ⟨rfl, rfl, rfl⟩ := h
  obtain ⟨v, vr, a1, a2, rfl, rfl, h1, h2⟩ := ha
  obtain ⟨b1, b2, hb, hb1, hb2⟩ := hl
  have hlen : a1.length = ss.length := h1.1
  obtain ⟨rfl, rfl⟩ := List.append_inj hb (by rw [hlen, hb1])
  obtain ⟨k1, locs, l1, l2⟩ := CZ hS hr h2 hb2 (fun j a hj => by
   have := he (ss.length + j) a (by rw [List.getElem?_append_right (by omega), hlen]; simpa using hj)
   rwa [Nat.add_assoc])
  refine ⟨by rw [k1, List.length_append, hlen]; omega, locs, l1, fun loc N q1 q2 => ?_⟩
  obtain ⟨m1, m2⟩ := l2 loc N q1 q2
  refine ⟨⟨?_, m1⟩, m2⟩
  have hv := Jc (lf := lf) (e := e) (n := N) (loc := loc) (b := b) hlen (fun j a hj => he j a (by rw [List.getElem?_append_left (Ab hj)]; exact hj))
  have h3 := h1.2
  rcases A6 hp with ⟨hag, rfl⟩ | ⟨hag, c, hc, rfl⟩
  ·rw [if_pos hag] at h3
   exact ⟨_, h3, hv⟩
  ·rw [if_neg (by simp [hag])] at h3
   obtain ⟨s, a, z1, z2, z3⟩ := h3
   subst z1
   subst z2
   rw [hc] at hv
   rw [z3]
   exact hv.1
 | .slc ss :: l, [], b, r, k, args, rows, vs, as, h, ha, hl, he => by simp [Dt] at h
 | .slc ss :: l, n :: ns, b, r, k, args, rows, vs, as, h, ha, hl, he => by
  simp only [Dt, Option.bind_eq_bind, Option.bind_eq_some_iff] at h
  obtain ⟨⟨ps', rows', k'⟩, hr, h⟩ := h
  simp only [Option.some.injEq, Prod.mk.injEq] at h
  obtain ⟨rfl, rfl, rfl⟩ := h
  obtain ⟨v, vr, a1, a2, rfl, rfl, ⟨bb, o, m, c, rest, rfl, rfl, h1, h1'⟩, h2⟩ := ha
  obtain ⟨n', ns', b1, b2, hn, hb, hb1, hb2⟩ := hl
  injection hn with hn1 hn2
  subst hn1
  subst hn2
  have hmn : m = n := by
   have := congrArg (·[0]?) hb
   simp at this
   omega
  subst hmn
  obtain ⟨hc1, rfl⟩ := List.append_inj hb (by simp [h1, hb1])
  obtain ⟨_, rfl⟩ := List.cons.inj hc1
  obtain ⟨k1, locs, l1, l2⟩ := CZ hS hr h2 hb2 (fun j a hj => by
   have := he (1 + m * ss.length + j) a (by
    rw [List.getElem?_append_right (by simp [h1]; omega)]
    simp only [List.length_cons, h1]
    rw [show 1 + m * ss.length + j - (m * ss.length + 1) = j by omega]
    exact hj)
   rwa [Nat.add_assoc])
  refine ⟨by rw [k1, List.length_append, List.length_cons, h1]; omega, .LF bb o c ss.length :: locs, by simp [l1], fun loc N q1 q2 => ?_⟩
  have hloc : loc r = .LF bb o c ss.length := q1 0 _ rfl
  simp only [List.length_cons] at q2
  obtain ⟨m1, m2⟩ := l2 loc N (fun i x hi => by
   have := q1 (i + 1) x (by simpa using hi)
   rwa [show r + 1 + i = r + (i + 1) by omega]) (by omega)
  have hrest : Af e N loc (E9 lf ss m (b + 1)) (GQ ss m rest) := Im h1 (fun j a hj => by
   have := he (j + 1) a (by
    rw [List.cons_append, List.getElem?_cons_succ, List.getElem?_append_left (Ab hj)]
    exact hj)
   rwa [show b + 1 + j = b + (j + 1) by omega])
  refine ⟨⟨NB (by omega) (by rw [hloc]; simp), m1⟩, fun i row hi => ?_⟩
  cases i with
  | zero =>
   simp only [List.getElem?_cons_zero, Option.some.injEq] at hi
   subst hi
   refine ⟨rfl, ?_, fun q hq => by simp at hq⟩
   unfold Av
   rw [if_neg (by simp)]
   intro hne
   rw [Nat.add_zero, hloc]
   have hcell : ∀ j cc, (E9 lf ss m (b + 1))[j]? = some cc → ∃ v, w.cell? ⟨bb, o + j, none⟩ = some v ∧ cc.rel e N loc v := fun j cc hj => by
    obtain ⟨v, v1, v2⟩ := Cw hrest hj
    exact ⟨v, (Cv (h1' j v v1)).1, v2⟩
   refine ⟨rfl, ?_, hcell⟩
   simp only at hne
   cases hcc : E9 lf ss m (b + 1) with
   | nil => exact absurd hcc hne
   | cons c0 cs0 =>
    obtain ⟨v, v1, v2⟩ := Cw hrest (j := 0) (c := c0) (by rw [hcc]; rfl)
    exact (Cv (h1' 0 v v1)).2
  | succ i =>
   have := m2 i row (by simpa using hi)
   rwa [show r + (i + 1) = r + 1 + i by omega]
 | .nil :: l, ns, b, r, k, args, rows, vs, as, h, ha, hl, he => by
  simp only [Dt, Option.bind_eq_bind, Option.bind_eq_some_iff] at h
  obtain ⟨⟨ps', rows', k'⟩, hr, h⟩ := h
  simp only [Option.some.injEq, Prod.mk.injEq] at h
  obtain ⟨rfl, rfl, rfl⟩ := h
  obtain ⟨v, vr, a1, a2, rfl, rfl, ⟨rfl, rfl⟩, h2⟩ := ha
  obtain ⟨k1, locs, l1, l2⟩ := CZ hS hr h2 hl he
  refine ⟨k1, locs, l1, fun loc N q1 q2 => ?_⟩
  obtain ⟨m1, m2⟩ := l2 loc N q1 q2
  exact ⟨⟨⟨trivial, rfl, .inr rfl⟩, m1⟩, m2⟩
 | .lst ss :: l, ns, b, r, k, args, rows, vs, as, h, ha, hl, he => by
  simp only [Dt, Option.bind_eq_bind, Option.bind_eq_some_iff] at h
  obtain ⟨⟨ps', rows', k'⟩, hr, h⟩ := h
  simp only [Option.some.injEq, Prod.mk.injEq] at h
  obtain ⟨rfl, rfl, rfl⟩ := h
  obtain ⟨v, vr, a1, a2, rfl, rfl, ⟨x, kk, bb, m, c, rfl, hk, rfl, hs, hfsc⟩, h2⟩ := ha
  obtain ⟨x', kk', as', hb, hb2⟩ := hl
  simp only [List.cons_append, List.nil_append, List.cons.injEq] at hb
  obtain ⟨rfl, rfl, rfl⟩ := hb
  obtain ⟨k1, locs, l1, l2⟩ := CZ hS hr h2 hb2 (fun j a hj => by
   have := he (2 + j) a (by rw [List.getElem?_append_right (by simp)]; simpa using hj)
   rwa [Nat.add_assoc])
  have e0 : (lf b).ev e = x := he 0 _ rfl
  have e1 : (lf (b + 1)).ev e = kk := he 1 _ rfl
  obtain ⟨f1, f2⟩ := QK e0 e1 hk hs hfsc
  refine ⟨by rw [k1]; simp; omega, Dl (.slice bb m c) :: locs, by simp [l1], fun loc N q1 q2 => ?_⟩
  have hloc : loc r = Dl (.slice bb m c) := q1 0 _ rfl
  simp only [List.length_cons] at q2
  obtain ⟨m1, m2⟩ := l2 loc N (fun i x hi => by
   have := q1 (i + 1) x (by simpa using hi)
   rwa [show r + 1 + i = r + (i + 1) by omega]) (by omega)
  refine ⟨⟨f2 N r loc (by omega) hloc, m1⟩, fun i row hi => ?_⟩
  cases i with
  | zero =>
   simp only [List.getElem?_cons_zero, Option.some.injEq] at hi
   subst hi
   obtain ⟨z1, q, z2, z3, z4⟩ := DX.ok (B := ⟨w.heap.size, S⟩) (n := N) (r := r) f1 hloc
   exact ⟨rfl, z1, fun q' hq' => by rw [z2] at hq'; injection hq' with hq'; subst hq'; exact ⟨z3, z4⟩⟩
  | succ i =>
   have := m2 i row (by simpa using hi)
   rwa [show r + (i + 1) = r + 1 + i by omega]
 | .d agg ss :: l, ns, b, r, k, args, rows, vs, as, h, ha, hl, he => by
  simp only [Dt, Option.bind_eq_bind, Option.bind_eq_some_iff] at h
  obtain ⟨p, hp, ⟨ps', rows', k'⟩, hr, h⟩ := h
  simp only [Option.some.injEq, Prod.mk.injEq] at h
  obtain ⟨rfl, rfl, rfl⟩ := h
  obtain ⟨v, vr, a1, a2, rfl, rfl, ⟨cs, hc1, hc2⟩, h2⟩ := ha
  obtain ⟨b1, b2, hb, hb1, hb2⟩ := hl
  have hlen := (Cq hc2).1
  obtain ⟨rfl, rfl⟩ := List.append_inj hb (by rw [hlen, hb1])
  obtain ⟨xs, x1, x2, x3⟩ := Ca (lf := lf) (b := b) (r := r) hc2 (fun j a hj => he j a (by rw [List.getElem?_append_left (Ab hj)]; exact hj))
  obtain ⟨k1, locs, l1, l2⟩ := CZ hS hr h2 hb2 (fun j a hj => by
   have := he (JN ss + j) a (by rw [List.getElem?_append_right (by omega), hlen]; simpa using hj)
   rwa [Nat.add_assoc])
  refine ⟨by rw [k1, List.length_append, hlen]; omega, xs.map Dl ++ locs, by simp [x1, l1], fun loc N q1 q2 => ?_⟩
  rw [List.length_append] at q2
  have hxs : ∀ (t : Nat) v, xs[t]? = some v → loc (r + t) = Dl v := fun t v ht => q1 t _ (by rw [List.getElem?_append_left (by simpa using Ab ht)]; simp [ht])
  obtain ⟨m1, m2⟩ := l2 loc N (fun i x hi => by
   have := q1 ((B6 lf ss b).length + i) x (by rw [List.getElem?_append_right (by simp [x1])]; simpa [x1] using hi)
   rwa [← Nat.add_assoc] at this) (by omega)
  refine ⟨⟨?_, m1⟩, fun i row hi => ?_⟩
  ·have hcs := x3 N loc (by omega) hxs
   rcases A6 hp with ⟨ha, rfl⟩ | ⟨ha, c, hc, rfl⟩
   ·rw [if_pos ha] at hc1
    exact ⟨cs, hc1, hcs⟩
   ·rw [if_neg (by simp [ha])] at hc1
    subst hc1
    rw [hc] at hcs
    exact hcs.1
  ·rw [List.getElem?_append] at hi
   split at hi
   ·rename_i hlt
    obtain ⟨v, v1, v2⟩ := x2 i row hi
    obtain ⟨z1, q, z2, z3, z4⟩ := DX.ok (B := ⟨w.heap.size, S⟩) (n := N) (r := r + i) v2 (hxs i v v1)
    exact ⟨v2.1, z1, fun q' hq' => by rw [z2] at hq'; injection hq' with hq'; subst hq'; exact ⟨z3, z4⟩⟩
   ·have := m2 _ row hi
    rwa [show r + (B6 lf ss b).length + (i - (B6 lf ss b).length) = r + i by omega] at this
 termination_by ps => ps.length
theorem Gf {e0 : Nat → A} {k : Nat} : ∀ {l : List Def}, (l.all fun d => decide (k ≤ d.base)) = true → ∀ j, j < k → Ds T e0 l j = e0 j
 | [], _, _, _ => rfl
 | d :: l, h, j, hj => by
  simp only [List.all_cons, Bool.and_eq_true, decide_eq_true_eq] at h
  show ext T (Ds T e0 l) d j = _
  unfold ext
  rw [if_neg (by omega)]
  exact Gf h.2 j hj
theorem D3 : ∀ {s1 s2 : List Aj} {a1 a2 : List A}, a1.length = s1.length → Ak (s1 ++ s2) (a1 ++ a2) = Ak s1 a1 ++ Ak s2 a2
 | [], _, [], _, _ => rfl
 | [], _, _ :: _, _, h => by simp at h
 | _ :: _, _, [], _, h => by simp at h
 | s :: s1, s2, a :: a1, a2, h => by simp [Ak, D3 (s1 := s1) (a1 := a1) (by simpa using h)]
theorem EI {n : Nat} {loc : Loc} : ∀ {rs : List (Bool × List Aj)} {ps : List PV} {ls : List L} {vs : List Value} {out : List A}, Em rs ps = some ls → Am e n loc ps vs →
  out.length = ls.length → Ak (rs.flatMap (·.2)) out = Ak (rs.flatMap (·.2)) (ls.map (L.ev e)) → Ed rs out vs
 | [], [], ls, vs, out, h, hv, ho, hs => by
  simp [Em] at h
  subst h
  cases vs with
  | nil => exact ⟨by simpa using ho, rfl⟩
  | cons => exact hv.elim
 | (agg, ss) :: rs, p :: ps, ls, vs, out, h, hv, ho, hs => by
  simp only [Em, Option.bind_eq_bind, Option.bind_eq_some_iff, Option.some.injEq] at h
  obtain ⟨a, ha, r, hr, rfl⟩ := h
  cases vs with
  | nil => exact hv.elim
  | cons v vs =>
   have h1 : I0 (fun _ => none) (.c agg ss) v (a.map (L.ev e)) := by
    unfold HS at ha
    split at ha
    ·rename_i s c heq
     obtain ⟨hag, rfl⟩ := PS.c.inj heq
     cases hv1 : FK [s] [c] with
     | none => rw [hv1] at ha; cases ha
     | some l =>
      rw [hv1] at ha
      injection ha with ha
      subst ha
      obtain ⟨q1, q2, q3⟩ := Cz (vs := [v]) hv1 ⟨hv.1, trivial⟩
      obtain ⟨y, rfl⟩ : ∃ y, l = [y] := by
       match l, q1 with
       | [y], _ => exact ⟨y, rfl⟩
      subst hag
      refine ⟨by simp, ?_⟩
      simp only [Bool.false_eq_true, if_false]
      exact ⟨s, y.ev e, rfl, rfl, by simpa [Ak] using q3⟩
    ·rename_i ss' l heq
     obtain ⟨hag, rfl⟩ := PS.c.inj heq
     subst hag
     obtain ⟨us, rfl, hu⟩ := hv.1
     obtain ⟨q1, q2, q3⟩ := Cz ha hu
     refine ⟨by simpa using q1, ?_⟩
     simp only [if_true]
     rw [q3]
    ·rename_i heq; cases heq
    ·rename_i heq; cases heq
    ·rename_i heq; cases heq
    ·cases ha
   have hal : a.length = ss.length := by simpa using h1.1
   have hlo : ss.length ≤ out.length := by rw [ho, List.length_append]; omega
   have e1 : out = out.take ss.length ++ out.drop ss.length := (List.take_append_drop _ _).symm
   rw [e1, List.map_append, List.flatMap_cons, D3 (by simp [hlo]), D3 (by simp [hal])] at hs
   obtain ⟨s1, s2⟩ := List.append_inj hs (by rw [Ga (by simp [hlo]), Ga (by simp [hal])])
   refine ⟨v, vs, out.take ss.length, out.drop ss.length, rfl, e1, ⟨by simp [hlo], ?_⟩, EI hr hv.2 (by rw [List.length_drop, ho, List.length_append]; omega) s2⟩
   have h3 := h1.2
   simp only
   split at h3
   ·rename_i hag
    rw [if_pos hag, s1]
    exact h3
   ·rename_i hag
    rw [if_neg hag]
    obtain ⟨s, x, z1, z2, z3⟩ := h3
    subst z1
    obtain ⟨o, ho1⟩ : ∃ o, out.take 1 = [o] := by
     match out, hlo with
     | o :: _, _ => exact ⟨o, rfl⟩
    simp only [List.length_singleton] at s1 ⊢
    rw [ho1, z2] at s1
    simp only [Ak, List.cons.injEq, and_true] at s1
    exact ⟨s, o, rfl, ho1, by rw [s1]; exact z3⟩
 | [], _ :: _, _, _, _, h, _, _, _ => by simp [Em] at h
 | _ :: _, [], _, _, _, h, _, _, _ => by simp [Em] at h
theorem NP {n : Nat} {loc : Loc} {rs : List (Bool × List Aj)} {v : SV} {ls : List L} {u : Value} {out : List A} (h : KZ rs v = some ls) (hv : v.rel e n loc u)
  (ho : out.length = ls.length) (hs : Ak (rs.flatMap (·.2)) out = Ak (rs.flatMap (·.2)) (ls.map (L.ev e))) : HH rs out u := by
 unfold KZ at h
 split at h
 ·exact ⟨[u], EI h ⟨hv, trivial⟩ ho hs, rfl⟩
 ·split at h
  ·cases h
  ·rename_i hl
   obtain ⟨us, rfl, hu⟩ := hv
   refine ⟨us, EI h hu ho hs, ?_⟩
   have := HA hu
   match us with
   | [] => rfl
   | [_] => simp at this; simp [this] at hl
   | _ :: _ :: _ => rfl
 ·cases h
theorem SH {e : Nat → A} {loc : Loc} {w : World} {B : Bd} {rows : List Row} (m2 : ∀ (i : Nat) row, rows[i]? = some row → row.own = false ∧ Av e rows.length loc w B (0 + i) row ∧ ∀ q, row.lst = some q → q.own = false ∧ Bb e loc w B (0 + i) q) : Ad e loc rows w B := by
 simp only [Nat.zero_add] at m2
 refine ⟨fun r x hx => (m2 r x hx).2.1, fun r x q hx hq => ⟨(m2 r x hx).1, ((m2 r x hx).2.2 q hq).2⟩, fun r s x y hx hy ox oy => ?_, fun r s x y hx _ ox => by rw [(m2 r x hx).1] at ox; cases ox⟩
 obtain ⟨q, o1, o2, _⟩ := ox
 rw [((m2 r x hx).2.2 q o1).1] at o2
 cases o2
theorem NQ (hX : XL P T X) {ws : List (Nat × Nat)} (hws : FA T ws) {c : M4} {lits : List (Nat × Int)} {ns : List Nat} {n k : Nat} {kn : List FJ} {more : List A} {args : List PV} {rows rows' : List Row} {v : SV} {g : G} {ls : List L}
  (hpar : Dt (Tx lits) c.ps ns 0 0 = some (args, rows, k)) (hrun : run X n c.f args rows (k + more.length) kn = some (v, rows', g)) (hdefs : Il ws g.defs g.next = true)
  (hbase : (g.defs.all fun d => decide (k + more.length ≤ d.base)) = true)
  (hls : KZ c.rs v = some ls) {as : List A} {vs : List Value} {w : World} (hT : Lv P w) (hargs : BU w.cell? c.ps vs as) (hlens : OK c.ps ns as)
  (hlits : ∀ i x, look i lits = some x → ∀ a, as[i]? = some a → a = .i x)
  (hlen : (T c.f as).2.length = ls.length)
  (hpure : ∀ e, (∀ j a, (as ++ more)[j]? = some a → e j = a) → (∀ d ∈ g.defs, d.holds T e) → (∀ x ∈ g.known, x.holds T e) ∧ (∀ o ∈ g.obs, (o.ev e).bool = true) ∧
   Ak (c.rs.flatMap (·.2)) (T c.f as).2 = Ak (c.rs.flatMap (·.2)) (ls.map (L.ev e))) :
  Calls P c.f vs.toArray w fun en w' => ∃ u, en = .returned u ∧ HH c.rs (T c.f as).2 u ∧ Below w.heap.size w w' := by
 have lfe : ∀ (e : Nat → A), (∀ j a, as[j]? = some a → e j = a) → ∀ j a, as[j]? = some a → (Tx lits (0 + j)).ev e = a := fun e he j a hj => by
  rw [Nat.zero_add]
  unfold Tx
  split
  ·rename_i x hx
   exact (hlits j x hx a hj).symm
  ·exact he j a hj
 have hargs := BU.mono (M' := CW (fun k => k < w.heap.size) w) (fun a u hu => C2 hu (World.block_lt_of_cell? w _ hu)) hargs
 have hk : k = as.length := by
  have := (CZ (fun _ h => h) (e := fun i => as.getD i (.i 0)) hpar hargs hlens (lfe _ fun j a hj => by simp [hj])).1
  omega
 have hev0 : ∀ j a, (as ++ more)[j]? = some a → Ds T (fun i => (as ++ more).getD i (.i 0)) g.defs j = a := fun j a hj => by
  rw [Gf hbase j (by have := Ab hj; rw [List.length_append] at this; omega)]
  simp [hj]
 have hev := lfe _ (fun j a hj => hev0 j a (by rw [List.getElem?_append_left (Ab hj)]; exact hj))
 have hd := Jb hws (fun i => (as ++ more).getD i (.i 0)) hdefs
 obtain ⟨hkn, hobs, hres⟩ := hpure _ hev0 hd
 have hg : Good T (Ds T (fun i => (as ++ more).getD i (.i 0)) g.defs) g := ⟨hd, hobs, hkn⟩
 obtain ⟨_, locs, l1, l2⟩ := CZ (fun _ h => h) hpar hargs hlens hev
 obtain ⟨m1, m2⟩ := l2 (fun i => locs.getD i default) rows.length (fun i x hx => by simp [hx]) (by omega)
 have hrows : Ad (Ds T (fun i => (as ++ more).getD i (.i 0)) g.defs) (fun i => locs.getD i default) rows w ⟨w.heap.size, fun k => k < w.heap.size⟩ :=
  SH m2
 refine (Rh hX hrun hg hT m1 (fun _ h => h) hrows).mono ?_
 rintro en w' ⟨u, rfl, ⟨loc', hv⟩, hb⟩
 exact ⟨u, rfl, NP hls hv hlen hres, hb⟩
end
end Rx
namespace Rx
open Go Go.RowKit
def NR : List Aj → List A → List A → Prop
 | [], as, bs => as = [] ∧ bs = []
 | .sl _ :: ss, as, bs => ∃ x k r y m s, as = x :: k :: r ∧ bs = y :: m :: s ∧ x = y ∧ k.int = m.int ∧ NR ss r s
 | s :: ss, as, bs => ∃ x r y q, as = x :: r ∧ bs = y :: q ∧ s.A0 x = s.A0 y ∧ NR ss r q
section
variable {T : Nat → List A → Bool × List A} {e : Nat → A} {P : Program} {X : Ctx} {w0 : W0}
theorem NR.cells {M : Addr → Option Value} : ∀ {ss : List Aj} {as bs : List A} {vs : List Value}, NR ss as bs → BH M ss bs vs → BH M ss as vs
 | [], _, _, _, h, hd => ⟨h.1, hd.2⟩
 | .sl _ :: _, _, _, _, h, hd => by
  obtain ⟨x, k, r, y, m, s, rfl, rfl, rfl, hkm, h⟩ := h
  obtain ⟨a, k', ar, b, m', c, cr, e1, rfl, e3, e4, e5, hd⟩ := hd
  simp only [List.cons.injEq] at e1
  obtain ⟨rfl, rfl, rfl⟩ := e1
  exact ⟨x, k, r, b, m', c, cr, rfl, rfl, hkm.trans e3, e4, e5, h.cells hd⟩
 | .int _ :: _, _, _, _, h, hd => by
  obtain ⟨x, r, y, q, rfl, rfl, hs, h⟩ := h
  obtain ⟨a, ar, cr, e1, rfl, hd⟩ := hd
  simp only [List.cons.injEq] at e1
  obtain ⟨rfl, rfl⟩ := e1
  exact ⟨x, r, cr, rfl, by rw [hs], h.cells hd⟩
 | .bool :: _, _, _, _, h, hd => by
  obtain ⟨x, r, y, q, rfl, rfl, hs, h⟩ := h
  obtain ⟨a, ar, cr, e1, rfl, hd⟩ := hd
  simp only [List.cons.injEq] at e1
  obtain ⟨rfl, rfl⟩ := e1
  exact ⟨x, r, cr, rfl, by rw [hs], h.cells hd⟩
 | .str :: _, _, _, _, h, hd => by
  obtain ⟨x, r, y, q, rfl, rfl, hs, h⟩ := h
  obtain ⟨a, ar, cr, e1, rfl, hd⟩ := hd
  simp only [List.cons.injEq] at e1
  obtain ⟨rfl, rfl⟩ := e1
  exact ⟨x, r, cr, rfl, by rw [hs], h.cells hd⟩
 | .val :: _, _, _, _, h, hd => by
  obtain ⟨x, r, y, q, rfl, rfl, hs, h⟩ := h
  obtain ⟨a, ar, cr, e1, rfl, hd⟩ := hd
  simp only [List.cons.injEq] at e1
  obtain ⟨rfl, rfl⟩ := e1
  exact ⟨x, r, cr, rfl, by rw [hs], h.cells hd⟩
end
end Rx
namespace Rx
open Go Go.RowKit
section
variable {T : Nat → List A → Bool × List A} {e : Nat → A} {P : Program} {X : Ctx} {w0 : W0} {loc loc' : Loc}
theorem AA.le {n m : Nat} (h : AA n loc loc') (hm : m ≤ n) : AA m loc loc' := fun r hr => h r (Nat.lt_of_lt_of_le hr hm)
theorem get_mem {x : EO} {s : St} : ∀ {o : Ah}, Ah.get x o = some s → (x, s) ∈ o
 | [], h => by simp [Ah.get] at h
 | (y, t) :: l, h => by
  unfold Ah.get at h
  split at h
  ·rename_i hxy
   have hxy := EO.Df.1 hxy
   injection h with h
   subst h hxy
   exact List.mem_cons_self ..
  ·exact List.mem_cons_of_mem _ (get_mem h)
theorem MN {x : EO} {s : St} : ∀ {o : List (EO × St)}, N5 x o = some s → (x, s) ∈ o
 | [], h => by simp [N5] at h
 | (y, t) :: l, h => by
  unfold N5 at h
  split at h
  ·rename_i hxy
   have hxy := EO.Df.1 hxy
   injection h with h
   subst h hxy
   exact List.mem_cons_self ..
  ·exact List.mem_cons_of_mem _ (MN h)
theorem JE {q : Lp} {x : EO} {s : St} : ∀ {o : Ah} {exs : List Ex}, GK q o = some exs → (x, s) ∈ o → x ≠ .norm → ∃ t y, (x, t) ∈ q.outs ∧ Sa q x t s = some y ∧ y ∈ exs
 | [], _, _, h, _ => by cases h
 | (y, u) :: l, exs, h, hm, hx => by
  simp only [GK, Option.bind_eq_bind, Option.bind_eq_some_iff] at h
  obtain ⟨r, hr, h⟩ := h
  rcases List.mem_cons.1 hm with heq | hm
  ·injection heq with h1 h2
   subst h1 h2
   rw [if_neg (fun h0 => hx (EO.Df.1 h0))] at h
   simp only [Option.bind_eq_some_iff, Option.some.injEq] at h
   obtain ⟨t, ht, y, hy, rfl⟩ := h
   exact ⟨t, y, MN ht, hy, List.mem_cons_self ..⟩
  ·obtain ⟨t, y', h1, h2, h3⟩ := JE hr hm hx
   refine ⟨t, y', h1, h2, ?_⟩
   split at h
   ·injection h with h
    subst h
    exact h3
   ·simp only [Option.bind_eq_some_iff, Option.some.injEq] at h
    obtain ⟨_, _, _, _, rfl⟩ := h
    exact List.mem_cons_of_mem _ h3
theorem OL (hX : XL P T X) {ws : List (Nat × Nat)} (hws : FA T ws) {q : Lp} {f : Nat} {pa : List Bool} {code : Code} {n : Nat} {outs : Ah} {g : G} {back : Option (L × List L)} {exs : List Ex}
  (hat : UA X f pa code) (hrun : exec X n f pa code (HZ q) ⟨q.k, [], [], []⟩ = some (outs, g)) (hdefs : Il ws g.defs g.next = true) (hbase : (g.defs.all fun d => decide (q.k ≤ d.base)) = true) (hknown : g.known = []) (hm : decide (q.m ≤ q.tm.rows.length) = true)
  (hback : Nr q outs = some back) (hexs : GK q outs = some exs) (hlen : ∀ as, (T q.id as).1 = true → (T q.id as).2.length = q.w) (meas : List A → Nat)
  (hpure : ∀ (as : List A) (e : Nat → A), as.length = q.k → (∀ (i : Nat) x, as[i]? = some x → e i = x) → (T q.id as).1 = true → (∀ d ∈ g.defs, d.holds T e) →
   (∀ o ∈ g.obs, (o.ev e).bool = true) ∧
   (∀ pc ls, back = some (pc, ls) → (pc.ev e).bool = true → (T q.id (ls.map (L.ev e))).1 = true ∧ (T q.id (ls.map (L.ev e))).2 = (T q.id as).2 ∧ meas (ls.map (L.ev e)) < meas as) ∧
   ∀ x ∈ exs, (x.pc.ev e).bool = true → ∀ (j : Nat) l, x.lx[j]? = some (some l) → FM (q.tags.getD j .any) (l.ev e) ((T q.id as).2.getD j (.i 0))) : BR P T q code := by
 refine ⟨hlen, fun as w0 loc a w Q hT => ?_⟩
 generalize hN : meas as = N
 induction N using Nat.strongRecOn generalizing as loc a w with
 | ind N ih =>
  intro hal hpre hfr hcl hQ
  have he0 : ∀ i, i < q.k → Ds T (JM as) g.defs i = JM as i := fun i hi => Gf hbase i hi
  generalize hE : Ds T (JM as) g.defs = e at he0
  have hd : ∀ d ∈ g.defs, d.holds T e := by rw [← hE]; exact Jb hws _ hdefs
  have hei : ∀ (i : Nat) x, as[i]? = some x → e i = x := fun i x hx => by
   rw [he0 i (by rw [← hal]; exact Ab hx)]
   simp [JM, hx]
  obtain ⟨p1, p2, p3⟩ := hpure as e hal hei hpre hd
  have hg : Good T e g := ⟨hd, p1, by rw [hknown]; exact fun k hk => by cases hk⟩
  obtain ⟨_, hends⟩ := (HN (e := e) (w0 := w0) hX hT n).1 f pa code (HZ q) _ outs g hat hrun hg
  have hs0 : ∀ i, JM as i = ((fun i => if i < q.k then L.var i else .n 0) i).ev e := fun i => by
   simp only
   split
   ·rename_i hi
    rw [L.Aw, he0 i hi]
   ·rename_i hi
    simp [JM, List.getD, List.getElem?_eq_none (show as.length ≤ i by omega)]
  have hrl : (HZ q).rows.length = q.tm.rows.length := by simp [HZ, CR]
  refine LW.of (hends.wp loc a w _ rfl (by rw [hrl]; exact (E7 hs0).2 hfr) (by obtain ⟨B, hB, hR, hbel⟩ := hcl; exact ⟨B, hB, (DZ hs0).2 hR, hbel⟩) fun x s hx hs => ?_)
  intro loc' a' w' q1 q2 q3 q4 q5
  by_cases hxn : x = .norm
  ·subst hxn
   show LW P code Q a' w'
   unfold Nr at hback
   rw [hx] at hback
   simp only at hback
   cases hb : R9 q s with
   | none => rw [hb] at hback; cases hback
   | some ls =>
    rw [hb] at hback
    injection hback with hback
    obtain ⟨r1, r2, r3⟩ := p2 s.pc ls hback.symm hs
    unfold R9 at hb
    generalize hmt : GI q.m q.tm s = mt at hb
    obtain ⟨ml, ρ⟩ := mt
    simp only at hb
    split at hb
    ·rename_i hc
     injection hb with hb
     rw [hb] at hc
     simp only [Bool.and_eq_true] at hc
     obtain ⟨c1, c2⟩ := hc
     obtain ⟨k1, k2, k3, k4, k5⟩ := D1 (e := e) (loc := loc') (w0 := w0) c1
     have hll : ls.length = q.k := by rw [← hb]; simp [DT]
     have he1 : ∀ i, JM (ls.map (L.ev e)) i = (Bh ls i).ev e := fun i => by
      unfold JM Bh
      rw [List.getD, List.getElem?_map]
      cases ls[i]? <;> rfl
     have hrl2 : (CR (Bh ls) q.tm).rows.length = q.tm.rows.length := by simp [CR]
     have hfr2 := k4 _ q3
     obtain ⟨B2, hB2, hR2, hbel2⟩ := k5 _ q5
     rw [hrl2] at hfr2 k2
     refine ih _ (by rw [← hN]; exact r3) (ls.map (L.ev e)) (D0 loc' ρ) a' w' rfl (by simpa using hll) r1 ((E7 he1).1 hfr2) ⟨B2, hB2, (DZ he1).1 hR2, hbel2⟩ fun y t e' h1 h2 h3 loc2 a2 w2 h4 h5 h6 h7 => ?_
     refine hQ y t e' h1 (fun i => ?_) h3 loc2 a2 w2 ((q1.le (by rw [hrl]; exact k2)).trans (k3.trans h4 (Nat.le_refl _)) (Nat.le_refl _)) h5 (h6.trans q4) h7
     have := h2 i
     rw [r2] at this
     have hxx : OI q (ls.map (L.ev e)) (T q.id as).2 i = OI q as (T q.id as).2 i := by
      unfold OI
      split
      ·rename_i hi
       split
       ·rename_i hk
        unfold TS at c2
        rw [List.all_eq_true] at c2
        have := c2 i (by simpa using hi)
        rw [hk] at this
        simp only [Bool.not_true, Bool.false_or] at this
        have h9 := he1 i
        rw [L.Ae this, L.Aw, he0 i hi] at h9
        exact h9
       ·rfl
      ·rfl
     rw [hxx] at this
     exact this
    ·cases hb
  ·rw [J6 hxn]
   obtain ⟨t, y, t1, t2, t3⟩ := JE hexs (get_mem hx) hxn
   unfold Sa at t2
   generalize hmt : GI q.m t s = mt at t2
   obtain ⟨ml, ρ⟩ := mt
   simp only at t2
   generalize hlx : T5 q t.pc ml = lx at t2
   split at t2
   ·rename_i hc
    injection t2 with t2
    subst t2
    simp only [Bool.and_eq_true] at hc
    obtain ⟨⟨c1, c2⟩, c3⟩ := hc
    obtain ⟨k1, k2, k3, k4, k5⟩ := D1 (e := e) (loc := loc') (w0 := w0) c1
    have hfr2 := k4 _ q3
    obtain ⟨B2, hB2, hR2, hbel2⟩ := k5 _ q5
    have hrl2 : (CR (BX q (N4 q.k) (Ml lx)) t).rows.length = t.rows.length := by simp [CR]
    rw [hrl2] at hfr2 k2
    let e2 : Nat → A := fun i => (BX q (N4 q.k) (Ml lx) i).ev e
    let e3 : Nat → A := fun i => if i < q.k then e2 i else match lx.getD (i - q.k) none with | some l => l.ev e | none => (T q.id as).2.getD (i - q.k) (.i 0)
    have hfr3 := (E7 (e1 := e2) (fun i => rfl)).1 hfr2
    have hcl3 := (DZ (e1 := e2) (fun i => rfl)).1 hR2
    have h23 : ∀ i, FM (T4 q lx i) (e2 i) (e3 i) := fun i => by
     simp only [e3, T4]
     split
     ·exact .of_eq rfl
     ·rename_i hi
      have : e2 i = (Bh (Ml lx) (i - q.k)).ev e := by simp only [e2, BX, if_neg hi]
      rw [this]
      cases hl : lx.getD (i - q.k) none with
      | none => trivial
      | some l =>
       refine .of_eq ?_
       rw [List.getD] at hl
       cases hl2 : lx[i - q.k]? with
       | none => rw [hl2] at hl; simp at hl
       | some o =>
        rw [hl2] at hl
        simp only [Option.getD_some] at hl
        subst hl
        simp [Bh, Ml, hl2]
    simp only [Qs, Bool.and_eq_true] at c2
    obtain ⟨⟨u1, u2⟩, u3⟩ := c2
    have hag : ∀ i, FM (q.tag i) (e3 i) (OI q as (T q.id as).2 i) := fun i => by
     simp only [e3, Lp.tag, OI]
     split
     ·rename_i hi
      refine .of_eq ?_
      simp only [e2, BX, if_pos hi]
      split
      ·have : Bh (N4 q.k) i = .var i := by simp [Bh, N4, hi]
       rw [this, L.Aw, he0 i hi]
       rfl
      ·rfl
     ·rename_i hi
      cases hl : lx.getD (i - q.k) none with
      | none => exact .of_eq rfl
      | some l =>
       rw [List.getD] at hl
       cases hl2 : lx[i - q.k]? with
       | none => rw [hl2] at hl; simp at hl
       | some o =>
        rw [hl2] at hl
        simp only [Option.getD_some] at hl
        subst hl
        exact p3 _ t3 hs (i - q.k) l hl2
    refine hQ x t e3 t1 hag ?_ (D0 loc' ρ) a' w' ((q1.le (by rw [hrl]; exact of_decide_eq_true hm)).trans k3 (Nat.le_refl _)) (ML h23 u1 hfr3) q4 ⟨B2, hB2, KY h23 u2 hcl3, hbel2⟩
    ·have hp := BV h23 u3
     simp only [FM] at hp
     rw [← hp]
     cases hpc : t.pc with
     | var i =>
      rw [hpc] at hlx c3
      simp only [T5] at hlx
      simp only [Vy, Bool.and_eq_true, decide_eq_true_eq] at c3
      rw [L.Aw]
      have hlx2 : lx[i - q.k]? = some (some (.t true)) := by
       rw [← hlx, List.getElem?_set_self (by simp; omega)]
      simp only [e2, BX, if_neg (show ¬ i < q.k by omega)]
      simp [Bh, Ml, hlx2]
     | t b =>
      rw [hpc] at c3
      cases b
      ·cases c3
      ·rfl
     | n _ => rw [hpc] at c3; cases c3
     | s _ => rw [hpc] at c3; cases c3
     | e => rw [hpc] at c3; cases c3
   ·cases t2
end
end Rx
namespace Rx
open Go Go.RowKit
section
variable {T : Nat → List A → Bool × List A} {e : Nat → A}
theorem holds_one {b : Nat} {d : D} {args : List L} {x : A} (h : d.ev T (args.map (L.ev e)) = [x]) : Def.holds T e ⟨b, d, args⟩ ↔ e b = x := by
 unfold Def.holds
 simp only [h]
 constructor
 ·intro hh
  simpa using hh 0 x rfl
 ·intro hh j a ha
  cases j with
  | zero => simp at ha; subst ha; simpa using hh
  | succ j => simp at ha
theorem OM {b op k x y} : Def.holds T e ⟨b, .ar op k, [x, y]⟩ ↔ e b = .i (Lu op k (x.ev e).int (y.ev e).int) := holds_one rfl
theorem ON {b op k x y} : Def.holds T e ⟨b, .dv op k, [x, y]⟩ ↔ e b = .i (Lx op k (x.ev e).int (y.ev e).int) := holds_one rfl
theorem SI {b op k x y} : Def.holds T e ⟨b, .bt op k, [x, y]⟩ ↔ e b = .i (JV op k (x.ev e).int (y.ev e).int) := holds_one rfl
theorem Ri {b op x y} : Def.holds T e ⟨b, .cmp op, [x, y]⟩ ↔ e b = .b (CP op (x.ev e).int (y.ev e).int) := holds_one rfl
theorem K0 {b k x} : Def.holds T e ⟨b, .conv k, [x]⟩ ↔ e b = .i (k.wrap (x.ev e).int) := holds_one rfl
theorem Rj {b k x} : Def.holds T e ⟨b, .neg k, [x]⟩ ↔ e b = .i (k.wrap (0 - (x.ev e).int)) := holds_one rfl
theorem Rk {b x} : Def.holds T e ⟨b, .not, [x]⟩ ↔ e b = .b (!(x.ev e).bool) := holds_one rfl
theorem Rl {b x y} : Def.holds T e ⟨b, .and, [x, y]⟩ ↔ e b = .b ((x.ev e).bool && (y.ev e).bool) := holds_one rfl
theorem SJ {b x y} : Def.holds T e ⟨b, .or, [x, y]⟩ ↔ e b = .b ((x.ev e).bool || (y.ev e).bool) := holds_one rfl
theorem Rm {b x y} : Def.holds T e ⟨b, .imp, [x, y]⟩ ↔ e b = .b (!(x.ev e).bool || (y.ev e).bool) := holds_one rfl
theorem K1 {b x y z} : Def.holds T e ⟨b, .iteI, [x, y, z]⟩ ↔ e b = .i (if (x.ev e).bool then (y.ev e).int else (z.ev e).int) := holds_one rfl
theorem PI {b x y z} : Def.holds T e ⟨b, .iteB, [x, y, z]⟩ ↔ e b = .b (if (x.ev e).bool then (y.ev e).bool else (z.ev e).bool) := holds_one rfl
theorem PJ {b x y z} : Def.holds T e ⟨b, .iteV, [x, y, z]⟩ ↔ e b = .v (if (x.ev e).bool then (y.ev e).val else (z.ev e).val) := holds_one rfl
theorem Rn {b x y} : Def.holds T e ⟨b, .TP, [x, y]⟩ ↔ e b = .b ((x.ev e).bool == (y.ev e).bool) := holds_one rfl
theorem Ro {b x y} : Def.holds T e ⟨b, .eqS, [x, y]⟩ ↔ e b = .b ((x.ev e).str == (y.ev e).str) := holds_one rfl
theorem SK {b x y} : Def.holds T e ⟨b, .mn, [x, y]⟩ ↔ e b = .i (if (y.ev e).int < (x.ev e).int then (y.ev e).int else (x.ev e).int) := holds_one rfl
theorem SL {b x y} : Def.holds T e ⟨b, .mx, [x, y]⟩ ↔ e b = .i (if (x.ev e).int < (y.ev e).int then (y.ev e).int else (x.ev e).int) := holds_one rfl
theorem PK {b x} : Def.holds T e ⟨b, .slen, [x]⟩ ↔ e b = .i ((x.ev e).str.size : Int) := holds_one rfl
theorem PL {b x y z} : Def.holds T e ⟨b, .iteA, [x, y, z]⟩ ↔ e b = (if (x.ev e).bool then y.ev e else z.ev e) := holds_one rfl
theorem Rp {b o s x i} : Def.holds T e ⟨b, .pix o s, [x, i]⟩ ↔ e b = (x.ev e).AR.getD (o + s * (i.ev e).int.toNat) (.i 0) := holds_one rfl
theorem PM {b o s x i y} : Def.holds T e ⟨b, .pset o s, [x, i, y]⟩ ↔ e b = .l ((x.ev e).AR.set (o + s * (i.ev e).int.toNat) (y.ev e)) := holds_one rfl
theorem Rq {b s x} : Def.holds T e ⟨b, .lln s, [x]⟩ ↔ e b = .i (((x.ev e).AR.length / s : Nat) : Int) := holds_one rfl
theorem Rr {b x zs} : Def.holds T e ⟨b, .rep, x :: zs⟩ ↔ e b = .l (List.replicate (x.ev e).int.toNat (zs.map (L.ev e))).flatten := holds_one rfl
theorem Rs {b l} : Def.holds T e ⟨b, .mkl, l⟩ ↔ e b = .l (l.map (L.ev e)) := holds_one rfl
theorem Rt {b x y m} : Def.holds T e ⟨b, .cpy, [x, y, m]⟩ ↔ e b = .l ((y.ev e).AR.take (m.ev e).int.toNat ++ (x.ev e).AR.drop (m.ev e).int.toNat) := holds_one rfl
theorem Ru {b x y} : Def.holds T e ⟨b, .cat, [x, y]⟩ ↔ e b = .l ((x.ev e).AR ++ (y.ev e).AR) := holds_one rfl
theorem Rv {b x l} : Def.holds T e ⟨b, .sel, x :: l⟩ ↔ e b = (l.map (L.ev e))[(x.ev e).int.toNat]?.getD (.i 0) := holds_one rfl
end
end Rx
namespace Rx
open Go Go.RowKit
inductive LS where
 | s (x : Aj) | sl (t e : Nat)
def LS.Pb : LS → Aj
 | .s x => x
 | .sl .. => .val
section
variable {H : Type} {enc : TypeId × Value → H} {P : Program} {w : World} {base : Nat} {spare : Nat → Bool} {held : Bool}
end
end Rx
namespace Rx
open Go Go.RowKit
def gi (as : List A) (i : Nat) : Int := (as.getD i (.i 0)).int
def gb (as : List A) (i : Nat) : Bool := (as.getD i (.i 0)).bool
def gs (as : List A) (i : Nat) : ByteArray := (as.getD i (.i 0)).str
def gv (as : List A) (i : Nat) : Value := (as.getD i (.i 0)).val
def VI (l : List (Nat × (List A → Bool × List A))) (f : Nat) (as : List A) : Bool × List A :=
 match look f l with
 | some t => t as
 | none => (false, [])
def K2 (P : Program) (f : Nat) (fn : Func) : Prop := P.funcs[f]? = some fn ∧ (fn.name == "runtime.NumGoroutine") = false ∧ fn.body.isSome = true
def Gg (P : Program) : List (Nat × Func) → Prop
 | [] => True
 | x :: l => K2 P x.1 x.2 ∧ Gg P l
section
variable {T : Nat → List A → Bool × List A} {e : Nat → A} {P : Program}
theorem Bo {l : List (Nat × Func)} (h : Gg P l) : Oj P (fun f => look f l) := fun f fn hf => by
 induction l with
 | nil => cases hf
 | cons x l ih =>
  simp only [look] at hf
  split at hf
  ·rename_i hx
   injection hf with hf
   have hx : x.1 = f := by simpa using hx
   subst hx
   subst hf
   exact h.1
  ·exact ih h.2 hf
theorem Vn {b op k x y} (h : Def.holds T e ⟨b, .ar op k, [x, y]⟩) : (e b).int = Lu op k (x.ev e).int (y.ev e).int := by rw [OM.1 h]; rfl
theorem Vo {b op k x y} (h : Def.holds T e ⟨b, .dv op k, [x, y]⟩) : (e b).int = Lx op k (x.ev e).int (y.ev e).int := by rw [ON.1 h]; rfl
theorem Vp {b op k x y} (h : Def.holds T e ⟨b, .bt op k, [x, y]⟩) : (e b).int = JV op k (x.ev e).int (y.ev e).int := by rw [SI.1 h]; rfl
theorem UL {b op x y} (h : Def.holds T e ⟨b, .cmp op, [x, y]⟩) : (e b).bool = CP op (x.ev e).int (y.ev e).int := by rw [Ri.1 h]; rfl
theorem Ub {b k x} (h : Def.holds T e ⟨b, .conv k, [x]⟩) : (e b).int = k.wrap (x.ev e).int := by rw [K0.1 h]; rfl
theorem UM {b k x} (h : Def.holds T e ⟨b, .neg k, [x]⟩) : (e b).int = k.wrap (0 - (x.ev e).int) := by rw [Rj.1 h]; rfl
theorem UN {b x} (h : Def.holds T e ⟨b, .not, [x]⟩) : (e b).bool = !(x.ev e).bool := by rw [Rk.1 h]; rfl
theorem UO {b x y} (h : Def.holds T e ⟨b, .and, [x, y]⟩) : (e b).bool = ((x.ev e).bool && (y.ev e).bool) := by rw [Rl.1 h]; rfl
theorem Vq {b x y} (h : Def.holds T e ⟨b, .or, [x, y]⟩) : (e b).bool = ((x.ev e).bool || (y.ev e).bool) := by rw [SJ.1 h]; rfl
theorem UP {b x y} (h : Def.holds T e ⟨b, .imp, [x, y]⟩) : (e b).bool = (!(x.ev e).bool || (y.ev e).bool) := by rw [Rm.1 h]; rfl
theorem Uc {b x y z} (h : Def.holds T e ⟨b, .iteI, [x, y, z]⟩) : (e b).int = (if (x.ev e).bool then (y.ev e).int else (z.ev e).int) := by rw [K1.1 h]; rfl
theorem Ud {b x y z} (h : Def.holds T e ⟨b, .iteB, [x, y, z]⟩) : (e b).bool = (if (x.ev e).bool then (y.ev e).bool else (z.ev e).bool) := by rw [PI.1 h]; rfl
theorem SM {b x y z} (h : Def.holds T e ⟨b, .iteV, [x, y, z]⟩) : (e b).val = (if (x.ev e).bool then (y.ev e).val else (z.ev e).val) := by rw [PJ.1 h]; rfl
theorem UQ {b x y} (h : Def.holds T e ⟨b, .TP, [x, y]⟩) : (e b).bool = ((x.ev e).bool == (y.ev e).bool) := by rw [Rn.1 h]; rfl
theorem UR {b x y} (h : Def.holds T e ⟨b, .eqS, [x, y]⟩) : (e b).bool = ((x.ev e).str == (y.ev e).str) := by rw [Ro.1 h]; rfl
theorem Vr {b x y} (h : Def.holds T e ⟨b, .mn, [x, y]⟩) : (e b).int = (if (y.ev e).int < (x.ev e).int then (y.ev e).int else (x.ev e).int) := by rw [SK.1 h]; rfl
theorem Vs {b x y} (h : Def.holds T e ⟨b, .mx, [x, y]⟩) : (e b).int = (if (x.ev e).int < (y.ev e).int then (y.ev e).int else (x.ev e).int) := by rw [SL.1 h]; rfl
theorem Ue {b x} (h : Def.holds T e ⟨b, .slen, [x]⟩) : (e b).int = ((x.ev e).str.size : Int) := by rw [PK.1 h]; rfl
theorem SN (l : List L) (i : Nat) : ((l.map (L.ev e))[i]?.getD (.i 0)).int = (l.map fun a => (a.ev e).int).getD i 0 := by
 rw [List.getD, List.getElem?_map, List.getElem?_map]
 cases l[i]? <;> rfl
theorem Uf {b x l} (h : Def.holds T e ⟨b, .sel, x :: l⟩) : (e b).int = (l.map fun a => (a.ev e).int).getD (x.ev e).int.toNat 0 := by rw [Rv.1 h]; exact SN _ _
theorem Ug {b x y l j a} (h : Def.holds T e ⟨b, .upd, x :: y :: l⟩) (ha : l[j]? = some a) : e (b + j) = if (x.ev e).int.toNat = j then y.ev e else a.ev e := by
 have hj : j < l.length := Ab ha
 refine h j _ ?_
 show ((l.map (L.ev e)).set _ _)[j]? = _
 rw [List.getElem?_set]
 split
 ·rename_i hx
  rw [if_pos (by simpa [hx] using hj)]
 ·rename_i hx
  rw [List.getElem?_map, ha]
  rfl
theorem Uh {b x y l} (j : Nat) {a} (h : Def.holds T e ⟨b, .upd, x :: y :: l⟩) (ha : l[j]? = some a) : (e (b + j)).int = if (x.ev e).int.toNat = j then (y.ev e).int else (a.ev e).int := by
 rw [Ug h ha]; split <;> rfl
theorem En {b f args} {t : List A → Bool × List A} (ht : T f = t) (h : Def.holds T e ⟨b, .call f, args⟩) : (e b).bool = (t (args.map (L.ev e))).1 := by
 have := h 0 (.b (T f (args.map (L.ev e))).1) rfl
 rw [ht, Nat.add_zero] at this
 rw [this]
 rfl
theorem Eo {b f args} {t : List A → Bool × List A} (ht : T f = t) (j : Nat) {a : A} (h : Def.holds T e ⟨b, .call f, args⟩) (ha : (t (args.map (L.ev e))).2[j]? = some a) : e (b + (j + 1)) = a := by
 refine h (j + 1) a ?_
 show (_ :: (T f (args.map (L.ev e))).2)[j + 1]? = _
 rw [List.getElem?_cons_succ, ht]
 exact ha
theorem SO {as more : List A} (he : ∀ j a, (as ++ more)[j]? = some a → e j = a) {n : Nat} (hn : as.length = n) : as = (List.range n).map e := by
 apply List.ext_getElem?
 intro i
 by_cases hi : i < as.length
 ·have h1 : (as ++ more)[i]? = some as[i] := by rw [List.getElem?_append_left hi]; simp
  rw [List.getElem?_map, List.getElem?_range (by omega), List.getElem?_eq_getElem hi]
  simp [he i _ h1]
 ·rw [List.getElem?_eq_none (by omega), List.getElem?_eq_none (by simp; omega)]
def PN : PS → Bool
 | .slc _ => false
 | _ => true
def FC : PS → Nat
 | .c _ l => l.length
 | .lst _ => 2
 | .d _ l => JN l
 | _ => 0
theorem MO {M : Addr → Option Value} : ∀ {ps : List PS} {vs : List Value} {as : List A}, BU M ps vs as → ps.all PN = true → OK ps [] as ∧ as.length = (ps.map FC).sum
 | [], vs, as, h, _ => by rw [h.2]; exact ⟨⟨rfl, rfl⟩, rfl⟩
 | p :: ps, vs, as, h, hp => by
  obtain ⟨v, vr, a1, a2, rfl, rfl, h1, h2⟩ := h
  simp only [List.all_cons, Bool.and_eq_true] at hp
  obtain ⟨k1, k2⟩ := MO h2 hp.2
  cases p with
  | c agg ss => exact ⟨⟨a1, a2, rfl, h1.1, k1⟩, by simp [FC, h1.1, k2]⟩
  | slc ss => simp [PN] at hp
  | lst ss =>
   obtain ⟨x, k, _, _, _, rfl, _⟩ := h1
   exact ⟨⟨x, k, a2, rfl, k1⟩, by simp [FC, k2]; omega⟩
  | nil =>
   obtain ⟨_, rfl⟩ := h1
   exact ⟨k1, by simpa [FC] using k2⟩
  | d agg ss =>
   obtain ⟨cs, _, hd⟩ := h1
   have := (Cq hd).1
   exact ⟨⟨a1, a2, rfl, this, k1⟩, by simp [FC, this, k2]⟩
theorem Ui {ss : List Aj} {a b : A} {as bs : List A} (h : a.bool = b.bool) (hr : Ak ss as = Ak ss bs) : Ak (.bool :: ss) (a :: as) = Ak (.bool :: ss) (b :: bs) := by
 simp only [Ak, Aj.A0, h, hr]
theorem Uj {ss : List Aj} {a b : A} {as bs : List A} (h : a.str = b.str) (hr : Ak ss as = Ak ss bs) : Ak (.str :: ss) (a :: as) = Ak (.str :: ss) (b :: bs) := by
 simp only [Ak, Aj.A0, h, hr]
theorem wrap64 {x : Int} (h1 : -9223372036854775808 ≤ x) (h2 : x ≤ 9223372036854775807) : IntKind.wrap .i64 x = x := by
 simp only [IntKind.wrap, IntKind.signed, IntKind.bits]
 simp
 omega
end
end Rx
namespace Rx
open Go Go.RowKit
section
variable {T : Nat → List A → Bool × List A} {e : Nat → A} {P : Program}
def QL (P : Program) (T : Nat → List A → Bool × List A) : List (Nat × M4) → Prop
 | [] => True
 | x :: l => (x.2.f = x.1 ∧ F9 P T x.2) ∧ QL P T l
theorem AU : ∀ {l : List (Nat × M4)}, QL P T l → HI P T l
 | [], _ => fun x hx => by cases hx
 | y :: l, h => fun x hx => by
  rcases List.mem_cons.1 hx with rfl | hx
  ·exact h.1
  ·exact AU h.2 x hx
def QM (P : Program) (T : Nat → List A → Bool × List A) : List (Nat × Tg) → Prop
 | [] => True
 | x :: l => (x.2.f = x.1 ∧ Sw P T x.2) ∧ QM P T l
theorem AV : ∀ {l : List (Nat × Tg)}, QM P T l → NJ P T l
 | [], _ => fun x hx => by cases hx
 | y :: l, h => fun x hx => by
  rcases List.mem_cons.1 hx with rfl | hx
  ·exact h.1
  ·exact AV h.2 x hx
def QN (P : Program) (T : Nat → List A → Bool × List A) : List (Nat × Pa) → Prop
 | [] => True
 | x :: l => (x.2.f = x.1 ∧ QD P T x.2) ∧ QN P T l
theorem Cb : ∀ {l : List (Nat × Pa)}, QN P T l → Pz P T l
 | [], _ => fun f m h => by simp [look] at h
 | y :: l, h => fun f m hm => by
  unfold look at hm
  split at hm
  ·injection hm with hm
   subst hm
   exact h.1.2
  ·exact Cb h.2 f m hm
def Dm (e : Nat → A) : List L → Prop
 | [] => True
 | o :: l => (o.ev e).bool = true ∧ Dm e l
theorem PO : ∀ {l : List L}, Dm e l → ∀ o ∈ l, (o.ev e).bool = true
 | [], _ => fun x hx => by cases hx
 | y :: l, h => fun x hx => by
  rcases List.mem_cons.1 hx with rfl | hx
  ·exact h.1
  ·exact PO h.2 x hx
end
end Rx
namespace Rx
open Go Go.RowKit
abbrev V := L.var
abbrev N := L.n
abbrev B := L.t
section
variable {T : Nat → List A → Bool × List A} {e : Nat → A}
theorem A.BC (b : ByteArray) : (A.v (.string b)).str = b := rfl
def Tz (a : A) : Prop := a = .i a.int
def NS {α : Type} (c : Bool) (x y : α) : α := if c then x else y
def Io (i j : Nat) (x y : Int) : Int := if i = j then x else y
def PQ (x y u v : Int) : Int := if x < y then u else v
def Gh (e : Nat → A) (x y : L) (b : Nat) : Nat → List L → Prop
 | _, [] => True
 | j, a :: l => (e (b + j)).int = Io (x.ev e).int.toNat j (y.ev e).int (a.ev e).int ∧ Gh e x y b (j + 1) l
def Def.q (T : Nat → List A → Bool × List A) (e : Nat → A) : Def → Prop
 | ⟨b, .ar op k, [x, y]⟩ => (e b).int = Lu op k (x.ev e).int (y.ev e).int ∧ Tz (e b)
 | ⟨b, .dv op k, [x, y]⟩ => (e b).int = Lx op k (x.ev e).int (y.ev e).int ∧ Tz (e b)
 | ⟨b, .bt op k, [x, y]⟩ => (e b).int = JV op k (x.ev e).int (y.ev e).int
 | ⟨b, .cmp op, [x, y]⟩ => (e b).bool = CP op (x.ev e).int (y.ev e).int
 | ⟨b, .conv k, [x]⟩ => (e b).int = k.wrap (x.ev e).int ∧ Tz (e b)
 | ⟨b, .neg k, [x]⟩ => (e b).int = k.wrap (0 - (x.ev e).int)
 | ⟨b, .not, [x]⟩ => (e b).bool = !(x.ev e).bool
 | ⟨b, .and, [x, y]⟩ => (e b).bool = ((x.ev e).bool && (y.ev e).bool)
 | ⟨b, .or, [x, y]⟩ => (e b).bool = ((x.ev e).bool || (y.ev e).bool)
 | ⟨b, .imp, [x, y]⟩ => (e b).bool = (!(x.ev e).bool || (y.ev e).bool)
 | ⟨b, .iteI, [c, x, y]⟩ => (e b).int = NS (c.ev e).bool (x.ev e).int (y.ev e).int ∧ Tz (e b)
 | ⟨b, .iteB, [c, x, y]⟩ => (e b).bool = NS (c.ev e).bool (x.ev e).bool (y.ev e).bool
 | ⟨b, .iteV, [c, x, y]⟩ => (e b).val = NS (c.ev e).bool (x.ev e).val (y.ev e).val ∧ (e b).str = NS (c.ev e).bool (x.ev e).str (y.ev e).str
 | ⟨b, .iteA, [c, x, y]⟩ => e b = NS (c.ev e).bool (x.ev e) (y.ev e)
 | ⟨b, .TP, [x, y]⟩ => (e b).bool = ((x.ev e).bool == (y.ev e).bool)
 | ⟨b, .eqS, [x, y]⟩ => (e b).bool = ((x.ev e).str == (y.ev e).str)
 | ⟨b, .mn, [x, y]⟩ => (e b).int = PQ (y.ev e).int (x.ev e).int (y.ev e).int (x.ev e).int
 | ⟨b, .mx, [x, y]⟩ => (e b).int = PQ (x.ev e).int (y.ev e).int (y.ev e).int (x.ev e).int
 | ⟨b, .slen, [x]⟩ => (e b).int = ((x.ev e).str.size : Int)
 | ⟨b, .sel, x :: l⟩ => (e b).int = (l.map fun a => (a.ev e).int).getD (x.ev e).int.toNat 0
 | ⟨b, .upd, x :: y :: l⟩ => Gh e x y b 0 l
 | ⟨b, .pix o s, [x, i]⟩ => e b = (x.ev e).AR.getD (o + s * (i.ev e).int.toNat) (.i 0)
 | ⟨b, .pset o s, [x, i, y]⟩ => e b = .l ((x.ev e).AR.set (o + s * (i.ev e).int.toNat) (y.ev e))
 | ⟨b, .lln s, [x]⟩ => (e b).int = (((x.ev e).AR.length / s : Nat) : Int)
 | ⟨b, .rep, x :: zs⟩ => e b = .l (List.replicate (x.ev e).int.toNat (zs.map (L.ev e))).flatten
 | ⟨b, .mkl, l⟩ => e b = .l (l.map (L.ev e))
 | ⟨b, .cat, [x, y]⟩ => e b = .l ((x.ev e).AR ++ (y.ev e).AR)
 | ⟨b, .cpy, [x, y, m]⟩ => e b = .l ((y.ev e).AR.take (m.ev e).int.toNat ++ (x.ev e).AR.drop (m.ev e).int.toNat)
 | ⟨b, .scat, [x, y]⟩ => (e b).str = (x.ev e).str ++ (y.ev e).str
 | ⟨b, .sget, [x, i]⟩ => (e b).int = (((x.ev e).str.data.toList.getD (i.ev e).int.toNat 0).toNat : Int) ∧ Tz (e b)
 | ⟨b, .ssub, [x, i, j]⟩ => (e b).str = (x.ev e).str.extract (i.ev e).int.toNat (j.ev e).int.toNat
 | ⟨b, .mks, [x]⟩ => (e b).str = ⟨((x.ev e).AR.map fun a => UInt8.ofNat a.int.toNat).toArray⟩
 | ⟨b, .sby, [x]⟩ => e b = .l ((x.ev e).str.data.toList.map fun b => .i (b.toNat : Int))
 | ⟨b, .sh op k, [x, y]⟩ => (e b).int = M1 op k (x.ev e).int (y.ev e).int ∧ Tz (e b)
 | d => d.holds T e
theorem QO {x y : L} {b : Nat} {l0 : List L} (h : Def.holds T e ⟨b, .upd, x :: y :: l0⟩) : ∀ {l : List L} {j : Nat}, (∀ (i : Nat) a, l[i]? = some a → l0[j + i]? = some a) → Gh e x y b j l
 | [], _, _ => trivial
 | a :: l, j, hl => ⟨Uh j h (hl 0 a rfl), QO h fun i c hc => by
   have := hl (i + 1) c (by simpa using hc)
   rwa [show j + 1 + i = j + (i + 1) by omega]⟩
theorem Vt {d : Def} (h : d.holds T e) : d.q T e := by
 unfold Def.q
 split
 ·exact ⟨Vn h, by rw [OM.1 h]; rfl⟩
 ·exact ⟨Vo h, by rw [ON.1 h]; rfl⟩
 ·exact Vp h
 ·exact UL h
 ·exact ⟨Ub h, by rw [K0.1 h]; rfl⟩
 ·exact UM h
 ·exact UN h
 ·exact UO h
 ·exact Vq h
 ·exact UP h
 ·exact ⟨Uc h, by rw [K1.1 h]; rfl⟩
 ·exact Ud h
 ·refine ⟨SM h, ?_⟩
  have := SM h
  unfold A.str
  rw [this]
  split <;> rename_i hc <;> simp [NS, hc]
 ·exact PL.1 h
 ·exact UQ h
 ·exact UR h
 ·exact Vr h
 ·exact Vs h
 ·exact Ue h
 ·exact Uf h
 ·exact QO h fun i a ha => by simpa using ha
 ·exact Rp.1 h
 ·exact PM.1 h
 ·rw [Rq.1 h]; rfl
 ·exact Rr.1 h
 ·exact Rs.1 h
 ·exact Ru.1 h
 ·exact Rt.1 h
 ·exact congrArg A.str (h 0 _ rfl)
 ·rename_i b x i
  have h2 : e b = _ := h 0 _ rfl
  rw [h2]
  exact ⟨rfl, rfl⟩
 ·exact congrArg A.str (h 0 _ rfl)
 ·exact congrArg A.str (h 0 _ rfl)
 ·exact h 0 _ rfl
 ·rename_i b op k x y
  have h2 : e b = _ := h 0 _ rfl
  rw [h2]
  exact ⟨rfl, rfl⟩
 ·exact h
def Ax (T : Nat → List A → Bool × List A) (e : Nat → A) : List Def → Prop
 | [] => True
 | d :: l => d.q T e ∧ Ax T e l
theorem Jd : ∀ {l : List Def}, (∀ d ∈ l, d.holds T e) → Ax T e l
 | [], _ => trivial
 | d :: l, h => ⟨Vt (h d (by simp)), Jd fun x hx => h x (by simp [hx])⟩
def ge (as : List A) (i : Nat) : A := as.getD i (.i 0)
end
end Rx
namespace Rx
open Go Go.RowKit
def NY (n : Nat) (l : List (Nat × SV)) : List SV := l.foldl (fun a x => a.set x.1 x.2) (List.replicate n .junk)
section
variable {T : Nat → List A → Bool × List A} {e : Nat → A} {P : Program} {X : Ctx}
def QP (a b : G) : Bool := a.next == b.next && Da a.defs b.defs && L.Hm a.obs b.obs && Ct a.known b.known
theorem OO {a b : G} (h : QP a b = true) : a = b := by
 obtain ⟨a1, a2, a3, a4⟩ := a
 obtain ⟨b1, b2, b3, b4⟩ := b
 simp only [QP, Bool.and_eq_true, beq_iff_eq] at h
 obtain ⟨⟨⟨h1, h2⟩, h3⟩, h4⟩ := h
 rw [h1, Ei h2, L.CG h3, DD h4]
def US (ws : List (Nat × Nat)) (X : Ctx) (c : M4) (g : G) (ls : List L) : Bool :=
 match Dt (Tx []) c.ps [] 0 0 with
 | some (args, rows, k) => match run X 2000 c.f args rows k [] with
  | some (v, _, g') => QP g' g && (match KZ c.rs v with | some l => L.Hm l ls | none => false) && Il ws g.defs g.next && g.defs.all (fun d => decide (k ≤ d.base)) && c.ps.all PN && k == (c.ps.map FC).sum
  | none => false
 | none => false
theorem Je (hX : XL P T X) {ws : List (Nat × Nat)} (hws : FA T ws) {c : M4} {g : G} {ls : List L} (h : US ws X c g ls = true)
  (hlen : ∀ as, (T c.f as).2.length = ls.length)
  (hpure : ∀ (as : List A) (e : Nat → A), as = (List.range (c.ps.map FC).sum).map e → (T c.f as).1 = true → Ax T e g.defs → Dm e g.obs ∧ Ak (c.rs.flatMap (·.2)) (T c.f as).2 = Ak (c.rs.flatMap (·.2)) (ls.map (L.ev e))) (hkn : g.known = [] := by rfl) : F9 P T c := by
 intro lits as vs w hT _ _ hargs hpre
 unfold US at h
 split at h
 ·rename_i args rows k hpar
  split at h
  ·rename_i v rows' g' hrun
   simp only [Bool.and_eq_true] at h
   obtain ⟨⟨⟨⟨⟨h1, h2⟩, h3⟩, h4⟩, h5⟩, h6⟩ := h
   have h1 := OO h1
   subst h1
   cases hfl : KZ c.rs v with
   | none => rw [hfl] at h2; cases h2
   | some l =>
    rw [hfl] at h2
    have h2 := L.CG h2
    subst h2
    obtain ⟨a1, a2⟩ := MO hargs h5
    refine NQ (more := []) (kn := []) hX hws hpar (by simpa using hrun) h3 (by simpa using h4) hfl hT hargs a1 (fun i x hx => by cases hx) (hlen as) fun e he hd => ?_
    obtain ⟨p1, p2⟩ := hpure as e (by
     have := SO (more := []) he rfl
     rw [a2] at this
     exact this) hpre (Jd hd)
    exact ⟨by rw [hkn]; exact fun x hx => (by cases hx), PO p1, p2⟩
  ·cases h
 ·cases h
def SP (a : List Ex) (b : List (L × List (Option L))) : Bool :=
 Cg (fun x y => x) (a.map fun _ => true) (b.map fun _ => true) && (a.zip b).all fun x => x.1.pc.same x.2.1 && x.1.lx.length == x.2.2.length && (x.1.lx.zip x.2.2).all fun y => match y.1, y.2 with | some l, some m => l.same m | none, none => true | _, _ => false
def OP (a b : Option (L × List L)) : Bool :=
 match a, b with
 | none, none => true
 | some x, some y => x.1.same y.1 && L.Hm x.2 y.2
 | _, _ => false
def PR (X : Ctx) (f : Nat) (p : List Bool) : Option Code :=
 match X.fns f with
 | some fn => match fn.body with
  | some b => match CL p b with
   | some (.loop c) => some c
   | _ => none
  | none => none
 | none => none
def TV (ws : List (Nat × Nat)) (X : Ctx) (q : Lp) (g : G) (back : Option (L × List L)) (exs : List (L × List (Option L))) : Bool :=
 match PR X q.f q.p with
 | some c => match exec X 2000 q.f (false :: q.p) c (HZ q) ⟨q.k, [], [], []⟩ with
  | some (outs, g') => QP g' g && Il ws g.defs g.next && g.defs.all (fun d => decide (q.k ≤ d.base)) && decide (q.m ≤ q.tm.rows.length) &&
    (match Nr q outs with | some b => OP b back | none => false) && (match GK q outs with | some x => SP x exs | none => false)
  | none => false
 | none => false
theorem Ep (hX : XL P T X) {ws : List (Nat × Nat)} (hws : FA T ws) {q : Lp} {g : G} {back : Option (L × List L)} {exs : List (L × List (Option L))} (h : TV ws X q g back exs = true)
  (hlen : ∀ as, (T q.id as).2.length = q.w) (meas : List A → Nat)
  (hpure : ∀ (as : List A) (e : Nat → A), as = (List.range q.k).map e → (T q.id as).1 = true → Ax T e g.defs → Dm e g.obs ∧
   (∀ pc ls, back = some (pc, ls) → (pc.ev e).bool = true → (T q.id (ls.map (L.ev e))).1 = true ∧ (T q.id (ls.map (L.ev e))).2 = (T q.id as).2 ∧ meas (ls.map (L.ev e)) < meas as) ∧
   ∀ x ∈ exs, (x.1.ev e).bool = true → ∀ (j : Nat) l, x.2[j]? = some (some l) → FM (q.tags.getD j .any) (l.ev e) ((T q.id as).2.getD j (.i 0))) (hkn : g.known = [] := by rfl) :
  ∀ fn body c, X.fns q.f = some fn → fn.body = some body → CL q.p body = some (.loop c) → BR P T q c := by
 intro fn body c f1 f2 f3
 unfold TV at h
 have hb : PR X q.f q.p = some c := by simp only [PR, f1, f2, f3]
 rw [hb] at h
 simp only at h
 split at h
 ·rename_i outs g' hrun
  simp only [Bool.and_eq_true, decide_eq_true_eq] at h
  obtain ⟨⟨⟨⟨⟨h1, h2⟩, h3⟩, h4⟩, h5⟩, h6⟩ := h
  have h1 := OO h1
  subst h1
  cases hbk : Nr q outs with
  | none => rw [hbk] at h5; cases h5
  | some b =>
   cases hex : GK q outs with
   | none => rw [hex] at h6; cases h6
   | some xs =>
    rw [hbk] at h5
    rw [hex] at h6
    simp only at h5 h6
    refine OL hX hws ⟨fn, body, f1, f2, by simp only [CL, f3]; rfl⟩ hrun h2 h3 hkn (by simpa using h4) hbk hex (fun as _ => hlen as) meas fun as e hal he hpre hd => ?_
    have has : as = (List.range q.k).map e := SO (more := []) (by simpa using he) hal
    obtain ⟨p1, p2, p3⟩ := hpure as e has hpre (Jd hd)
    refine ⟨PO p1, fun pc ls hb' => p2 pc ls ?_, fun x hx hpc j l hj => ?_⟩
    ·unfold OP at h5
     split at h5
     ·exact hb'
     ·simp only [Bool.and_eq_true] at h5
      rename_i x y
      rw [← hb']
      exact congrArg some (Prod.ext (L.Ae h5.1).symm (L.CG h5.2).symm)
     ·cases h5
    ·unfold SP at h6
     simp only [Bool.and_eq_true, List.all_eq_true] at h6
     obtain ⟨k1, k2⟩ := h6
     obtain ⟨i, hi, hi2⟩ := List.mem_iff_getElem.1 hx
     have hl := (Ih k1).1
     simp only [List.length_map] at hl
     have hy : i < exs.length := by omega
     have hz : (x, exs[i]'hy) ∈ xs.zip exs := by
      rw [← hi2]
      exact List.mem_iff_getElem.2 ⟨i, by simp; omega, by simp⟩
     obtain ⟨⟨m1, m2⟩, m3⟩ := by
      have := k2 _ hz
      simp only [Bool.and_eq_true] at this
      exact this
     have m1 := L.Ae m1
     simp only [beq_iff_eq] at m2
     have hjl : j < x.lx.length := Ab hj
     have hj2 : j < (exs[i]'hy).2.length := by omega
     have hzz : (x.lx[j]'hjl, (exs[i]'hy).2[j]'hj2) ∈ x.lx.zip (exs[i]'hy).2 := List.mem_iff_getElem.2 ⟨j, by simp; omega, by simp⟩
     have m4 := m3 _ hzz
     rw [List.getElem?_eq_getElem hjl] at hj
     injection hj with hj
     rw [hj] at m4
     simp only at m4
     refine p3 _ (List.getElem_mem hy) (by rw [← m1]; exact hpc) j l ?_
     rw [List.getElem?_eq_getElem hj2]
     cases ho : (exs[i]'hy).2[j]'hj2 with
     | none => rw [ho] at m4; cases m4
     | some mm => rw [ho] at m4; simp only at m4; rw [L.Ae m4]
 ·cases h
theorem GV {X : Ctx} (h : X.lps = []) : ∀ q ∈ X.lps, ∀ fn body c, X.fns q.f = some fn → fn.body = some body → CL q.p body = some (.loop c) → BR P T q c := by
 rw [h]; intro q hq; cases hq
def PT (P : Program) (T : Nat → List A → Bool × List A) (X : Ctx) : List Lp → Prop
 | [] => True
 | q :: l => (∀ fn body c, X.fns q.f = some fn → fn.body = some body → CL q.p body = some (.loop c) → BR P T q c) ∧ PT P T X l
theorem MP {X : Ctx} : ∀ {l : List Lp}, PT P T X l → ∀ q ∈ l, ∀ fn body c, X.fns q.f = some fn → fn.body = some body → CL q.p body = some (.loop c) → BR P T q c
 | [], _ => fun x hx => by cases hx
 | y :: l, h => fun x hx => by
  rcases List.mem_cons.1 hx with rfl | hx
  ·exact h.1
  ·exact MP h.2 x hx
theorem Dg {X : Ctx} (h : PT P T X X.lps) : ∀ q ∈ X.lps, ∀ fn body c, X.fns q.f = some fn → fn.body = some body → CL q.p body = some (.loop c) → BR P T q c := MP h
end
end Rx
namespace Rx
open Go Go.RowKit
def Jh (F : Nat → Option (List Aj)) (AD : List (Nat × Ty)) : List (Nat × Nat) → Nat → Option (List Aj)
 | [], _ => some []
 | (t, off) :: l, o => do
  let ty ← look t AD
  let a ← F t
  if off == o && a.length == ty.size then let r ← Jh F AD l (o + ty.size); some (a ++ r) else none
def Ll (AD : List (Nat × Ty)) : Nat → Nat → Option (List Aj)
 | 0, _ => none
 | n + 1, t => do
  let ty ← look t AD
  match ty.kind with
  | .int k => some [.int k]
  | .bool => some [.bool]
  | .string => some [.str]
  | .slice e => do
   let te ← look e AD
   let l ← Ll AD n e
   if l.length == te.size && l.length != 0 then some [.sl l] else none
  | .arr m e => do
   let te ← look e AD
   let l ← Jh (Ll AD n) AD ((List.range m).map fun i => (e, i * te.size)) 0
   if l.length == ty.size then some l else none
  | .struct fs => do
   let l ← Jh (Ll AD n) AD fs 0
   if l.length == ty.size then some l else none
  | _ => none
inductive QW : Aj → A → Prop
 | int {k : IntKind} {n : Int} : k.min ≤ n → n ≤ k.max → QW (.int k) (.i n)
 | bool {b : Bool} : QW .bool (.b b)
 | str {s : ByteArray} : s.size ≤ maxLen → QW .str (.v (.string s))
 | sl {ss : List Aj} {as : List A} {n : Nat} : as.length = n * ss.length → n ≤ maxLen → (∀ (j : Nat) s a, ss[j % ss.length]? = some s → as[j]? = some a → QW s a) → QW (.sl ss) (.l as)
def Lm : List Aj → List A → Prop
 | [], [] => True
 | s :: ss, a :: as => QW s a ∧ Lm ss as
 | _, _ => False
def Dp (M : Addr → Option Value) : List Aj → List A → List Value → Prop
 | [], [], [] => True
 | s :: ss, a :: as, c :: cs => FU M s a c ∧ Dp M ss as cs
 | _, _, _ => False
theorem JJ : ∀ {s1 s2 : List Aj} {a1 a2 : List A}, Lm s1 a1 → Lm s2 a2 → Lm (s1 ++ s2) (a1 ++ a2)
 | [], _, [], _, _, h => h
 | _ :: _, _, _ :: _, _, h, h' => ⟨h.1, JJ h.2 h'⟩
 | [], _, _ :: _, _, h, _ => h.elim
 | _ :: _, _, [], _, h, _ => h.elim
theorem Hh {M : Addr → Option Value} : ∀ {s1 s2 : List Aj} {a1 a2 : List A} {c1 c2 : List Value}, Dp M s1 a1 c1 → Dp M s2 a2 c2 → Dp M (s1 ++ s2) (a1 ++ a2) (c1 ++ c2)
 | [], _, [], _, [], _, _, h => h
 | _ :: _, _, _ :: _, _, _ :: _, _, h, h' => ⟨h.1, Hh h.2 h'⟩
 | [], _, [], _, _ :: _, _, h, _ => h.elim
 | [], _, _ :: _, _, _, _, h, _ => h.elim
 | _ :: _, _, [], _, _, _, h, _ => h.elim
 | _ :: _, _, _ :: _, _, [], _, h, _ => h.elim
theorem Ln {M : Addr → Option Value} : ∀ {ss : List Aj} {as : List A} {cs : List Value}, Dp M ss as cs → as.length = ss.length ∧ cs.length = ss.length
 | [], [], [], _ => ⟨rfl, rfl⟩
 | _ :: _, _ :: _, _ :: _, h => by
  have := Ln h.2
  simp [this]
 | [], [], _ :: _, h => h.elim
 | [], _ :: _, _, h => h.elim
 | _ :: _, [], _, h => h.elim
 | _ :: _, _ :: _, [], h => h.elim
theorem Lo {M : Addr → Option Value} : ∀ {ss : List Aj} {as : List A} {cs : List Value}, Dp M ss as cs → ∀ {j : Nat} {s : Aj} {a : A} {c : Value}, ss[j]? = some s → as[j]? = some a → cs[j]? = some c → FU M s a c
 | [], [], [], _, j, s, a, c, h, _, _ => by simp at h
 | _ :: _, _ :: _, _ :: _, h, 0, s, a, c, h1, h2, h3 => by simp at h1 h2 h3; subst h1 h2 h3; exact h.1
 | _ :: _, _ :: _, _ :: _, h, j + 1, s, a, c, h1, h2, h3 => Lo h.2 (j := j) (by simpa using h1) (by simpa using h2) (by simpa using h3)
 | [], [], _ :: _, h, _, _, _, _, _, _, _ => h.elim
 | [], _ :: _, _, h, _, _, _, _, _, _, _ => h.elim
 | _ :: _, [], _, h, _, _, _, _, _, _, _ => h.elim
 | _ :: _, _ :: _, [], h, _, _, _, _, _, _, _ => h.elim
theorem O0 : ∀ {ss : List Aj} {as : List A}, Lm ss as → ∀ {j : Nat} {s : Aj} {a : A}, ss[j]? = some s → as[j]? = some a → QW s a
 | [], [], _, j, s, a, h, _ => by simp at h
 | _ :: _, _ :: _, h, 0, s, a, h1, h2 => by simp at h1 h2; subst h1 h2; exact h.1
 | _ :: _, _ :: _, h, j + 1, s, a, h1, h2 => O0 h.2 (j := j) (by simpa using h1) (by simpa using h2)
 | [], _ :: _, h, _, _, _, _, _ => h.elim
 | _ :: _, [], h, _, _, _, _, _ => h.elim
theorem O1 : ∀ {ss : List Aj} {as : List A}, Lm ss as → as.length = ss.length
 | [], [], _ => rfl
 | _ :: _, _ :: _, h => by simp [O1 h.2]
 | [], _ :: _, h => h.elim
 | _ :: _, [], h => h.elim
theorem Iy {α : Type} {m : Nat} {f : Nat → List α} : ∀ {n : Nat}, (∀ i, i < n → (f i).length = m) → ((List.range n).flatMap f).length = n * m
 | 0, _ => by simp
 | n + 1, h => by
  rw [List.range_succ, List.flatMap_append, List.length_append, Iy (n := n) fun i hi => h i (by omega)]
  simp [h n (by omega), Nat.succ_mul]
theorem Gt {α : Type} {m : Nat} (hm : 0 < m) {f : Nat → List α} : ∀ {n : Nat}, (∀ i, i < n → (f i).length = m) → ∀ j, j < n * m → ((List.range n).flatMap f)[j]? = (f (j / m))[j % m]?
 | 0, _, j, hj => by simp at hj
 | n + 1, h, j, hj => by
  have hl := Iy (n := n) (f := f) fun i hi => h i (by omega)
  rw [List.range_succ, List.flatMap_append]
  by_cases hjn : j < n * m
  ·rw [List.getElem?_append_left (by rw [hl]; exact hjn)]
   exact Gt hm (fun i hi => h i (by omega)) j hjn
  ·rw [List.getElem?_append_right (by rw [hl]; omega), hl]
   have e1 : j - n * m < m := by rw [Nat.succ_mul] at hj; omega
   have e2 : j = m * n + (j - n * m) := by rw [Nat.mul_comm m n]; omega
   have e3 : j / m = n := by rw [e2, Nat.mul_add_div hm, Nat.div_eq_of_lt e1, Nat.add_zero]
   have e4 : j % m = j - n * m := by conv => lhs; rw [e2]; rw [Nat.mul_add_mod, Nat.mod_eq_of_lt e1]
   simp [e3, e4]
section
variable {H : Type} {enc : TypeId × Value → H} {P : Program} {w : World} {base : Nat} {spare : Nat → Bool} {held : Bool}
theorem Gu {AD : List (Nat × Ty)} (hX : Bz P AD) {n : Nat} {F : Nat → Option (List Aj)}
  (hF : ∀ t ss, F t = some ss → ∀ fuel cs x, DataW.trod enc P w base spare held fuel t cs = some x → ∃ as, Lm ss as ∧ Dp w.cell? ss as cs) (cs : List Value) :
  ∀ (fl : List (Nat × Nat)) (o : Nat) (ss : List Aj), Jh F AD fl o = some ss → (∀ f ∈ fl, ∃ y, DataW.trod enc P w base spare held n f.1 ((cs.drop f.2).take (P.cellsOf f.1)) = some y) →
   ∃ as, Lm ss as ∧ Dp w.cell? ss as ((cs.drop o).take ss.length)
 | [], o, ss, h, _ => by
  simp only [Jh, Option.some.injEq] at h
  subst h
  exact ⟨[], trivial, by simp [Dp]⟩
 | (t, off) :: fl, o, ss, h, hf => by
  simp only [Jh, Option.bind_eq_bind, Option.bind_eq_some_iff] at h
  obtain ⟨ty, hty, a, ha, h⟩ := h
  split at h
  ·rename_i hc
   simp only [Bool.and_eq_true, beq_iff_eq] at hc
   obtain ⟨rfl, hlen⟩ := hc
   simp only [Option.bind_eq_some_iff, Option.some.injEq] at h
   obtain ⟨r, hr, rfl⟩ := h
   obtain ⟨y, hy⟩ := hf (t, off) (by simp)
   simp only at hy
   have hsz : P.cellsOf t = ty.size := by
    obtain ⟨i, z, h1, h2, _⟩ := (hX t ty hty).info
    rw [Program.cellsOf, h1]
    exact h2
   obtain ⟨as1, h1, h2⟩ := hF t a ha n _ y hy
   obtain ⟨as2, h3, h4⟩ := Gu hX hF cs fl (off + ty.size) r hr (fun f hf' => hf f (by simp [hf']))
   refine ⟨as1 ++ as2, JJ h1 h3, ?_⟩
   rw [List.length_append, List.take_add, List.drop_drop, hlen]
   rw [hsz] at h2
   exact Hh h2 h4
  ·cases h
theorem RG {a : Addr} {k : Nat} {cs : List Value} (h : w.cells? base a k = some cs) : cs.length = k ∧ ∀ j, j < k → w.cell? (a.add j) = cs[j]? := by
 unfold World.cells? at h
 split at h
 ·exact ⟨by simpa using mapM_some_length h, fun j hj => mapM_some_get h j j (by simp [hj])⟩
 ·cases h
theorem RH {a : Addr} {v : Value} (h : w.cell? a = some v) : a = ⟨a.block, a.off, none⟩ := by
 obtain ⟨b, o, s⟩ := a
 unfold World.cell? at h
 split at h
 ·simp only at h
  split at h
  ·cases h
  ·rename_i hs
   cases s with
   | none => rfl
   | some => simp at hs
 ·cases h
theorem FG {AD : List (Nat × Ty)} (hX : Bz P AD) : ∀ (n t : Nat) (ss : List Aj), Ll AD n t = some ss → ∀ (fuel : Nat) (cs : List Value) (x : DataW H × List MemPlace), DataW.trod enc P w base spare held fuel t cs = some x →
  ∃ as, Lm ss as ∧ Dp w.cell? ss as cs
 | 0, t, ss, h => by simp [Ll] at h
 | n + 1, t, ss, h => fun fuel cs x hx => by
  simp only [Ll, Option.bind_eq_bind, Option.bind_eq_some_iff] at h
  obtain ⟨ty, hty, h⟩ := h
  have hT := hX t ty hty
  obtain ⟨d, hd, hk⟩ := hT.kind
  split at h
  ·rename_i k hkk
   injection h with h
   subst h
   rw [hkk] at hk
   cases d <;> simp only [TK.okB, Bool.false_eq_true] at hk
   rw [← A3 hk] at hd
   obtain ⟨m, rfl, _, hw⟩ := DataW.trod_int hd hx
   simp only [Lit.wf, Bool.and_eq_true, decide_eq_true_eq] at hw
   exact ⟨[.i m], ⟨.int hw.1 hw.2, trivial⟩, .sc rfl, trivial⟩
  ·rename_i hkk
   injection h with h
   subst h
   rw [hkk] at hk
   cases d <;> simp only [TK.okB, Bool.false_eq_true] at hk
   obtain ⟨m, rfl, _⟩ := DataW.trod_bool hd hx
   exact ⟨[.b m], ⟨.bool, trivial⟩, .sc rfl, trivial⟩
  ·rename_i hkk
   injection h with h
   subst h
   rw [hkk] at hk
   cases d <;> simp only [TK.okB, Bool.false_eq_true] at hk
   obtain ⟨m, rfl, _, hl⟩ := DataW.trod_string hd hx
   exact ⟨[.v (.string m)], ⟨.str hl, trivial⟩, .sc rfl, trivial⟩
  ·rename_i e hkk
   simp only [Option.bind_eq_some_iff] at h
   obtain ⟨te, hte, l, hl, h⟩ := h
   split at h
   ·rename_i hlen
    simp only [Bool.and_eq_true, beq_iff_eq, bne_iff_ne, ne_eq] at hlen
    obtain ⟨hlen, hl0⟩ := hlen
    injection h with h
    subst h
    rw [hkk] at hk
    cases d <;> simp only [TK.okB, Bool.false_eq_true, beq_iff_eq] at hk
    subst hk
    have hse : P.cellsOf e = l.length := by
     obtain ⟨i, z, h1, h2, _⟩ := (hX e te hte).info
     rw [Program.cellsOf, h1, hlen]
     exact h2
    rcases DataW.trod_slice hd hx with ⟨rfl, _⟩ | ⟨a, len, cap, elems, rest, q, _, rfl, _, _, hlc, hcm, hel, hge, _⟩
    ·exact ⟨[.l []], ⟨.sl (n := 0) (by simp) (by omega) (fun j s a h1 h2 => by simp at h2), trivial⟩, .emp, trivial⟩
    ·have key : ∀ i, i < len → ∃ (as : List A) (us : List Value), Lm l as ∧ Dp w.cell? l as us ∧ ∀ j, j < l.length → w.cell? (a.add (i * l.length + j)) = us[j]? := fun i hi => by
      have h1 := hge i hi
      rw [List.getElem?_eq_getElem (by omega)] at h1
      obtain ⟨us, h2, h3⟩ := Option.bind_eq_some_iff.1 h1
      rw [hse] at h2
      obtain ⟨as, h4, h5⟩ := FG hX n e l hl q us _ h3
      refine ⟨as, us, h4, h5, fun j hj => ?_⟩
      rw [← (RG h2).2 j hj, Go.Deep.add_add]
     let fa : Nat → List A := fun i => if h : i < len then (key i h).choose else []
     let fu : Nat → List Value := fun i => if h : i < len then (key i h).choose_spec.choose else []
     have hfa : ∀ i, i < len → Lm l (fa i) ∧ Dp w.cell? l (fa i) (fu i) ∧ ∀ j, j < l.length → w.cell? (a.add (i * l.length + j)) = (fu i)[j]? := fun i hi => by
      simp only [fa, fu, hi, dif_pos]
      exact (key i hi).choose_spec.choose_spec
     have la : ∀ i, i < len → (fa i).length = l.length := fun i hi => O1 (hfa i hi).1
     have lu : ∀ i, i < len → (fu i).length = l.length := fun i hi => (Ln (hfa i hi).2.1).2
     have hpos : 0 < l.length := by omega
     have tot := Iy la
     have totu := Iy lu
     have dm : ∀ j, j < len * l.length → j / l.length < len ∧ j % l.length < l.length ∧ j = j / l.length * l.length + j % l.length := fun j hj =>
      ⟨Nat.div_lt_of_lt_mul (by rw [Nat.mul_comm]; exact hj), Nat.mod_lt _ hpos, by rw [Nat.mul_comm]; exact (Nat.div_add_mod j l.length).symm⟩
     refine ⟨[.l ((List.range len).flatMap fa)], ⟨.sl (n := len) tot (by omega) fun j s b h1 h2 => ?_, trivial⟩, ?_, trivial⟩
     ·have hj : j < len * l.length := by rw [← tot]; exact Ab h2
      rw [Gt hpos la j hj] at h2
      obtain ⟨d1, d2, d3⟩ := dm j hj
      exact O0 (hfa _ d1).1 h1 h2
     ·cases len with
      | zero => exact .emp
      | succ len =>
       have h0 := (hfa 0 (by omega)).2.2 0 hpos
       have hu0 : 0 < (fu 0).length := by rw [lu 0 (by omega)]; exact hpos
       rw [List.getElem?_eq_getElem hu0] at h0
       simp only [Nat.zero_mul, Nat.add_zero] at h0
       have ha : a = ⟨a.block, a.off, none⟩ := RH (by simpa [Addr.add] using h0)
       generalize a.block = b at ha
       generalize a.off = o at ha
       subst ha
       refine .sl (us := (List.range (len + 1)).flatMap fu) hpos tot (by rw [totu, tot]) (fun j u hu => ?_) fun j s x u h1 h2 h3 => ?_
       ·have hj : j < (len + 1) * l.length := by rw [← totu]; exact Ab hu
        rw [Gt hpos lu j hj] at hu
        obtain ⟨d1, d2, d3⟩ := dm j hj
        have := (hfa _ d1).2.2 _ d2
        rw [← d3, hu] at this
        rw [← this]
        unfold Addr.add
        split
        ·rename_i hz; rw [hz]; rfl
        ·rfl
       ·have hj : j < (len + 1) * l.length := by rw [← tot]; exact Ab h2
        rw [Gt hpos la j hj] at h2
        rw [Gt hpos lu j hj] at h3
        obtain ⟨d1, d2, d3⟩ := dm j hj
        exact Lo (hfa _ d1).2.1 h1 h2 h3
   ·cases h
  ·rename_i m e hkk
   simp only [Option.bind_eq_some_iff] at h
   obtain ⟨te, hte, l, hl, h⟩ := h
   split at h
   ·rename_i hlen
    have hlen : l.length = ty.size := by simpa using hlen
    injection h with h
    subst h
    rw [hkk] at hk
    cases d <;> simp only [TK.okB, Bool.false_eq_true, Bool.and_eq_true, beq_iff_eq] at hk
    obtain ⟨rfl, rfl⟩ := hk
    obtain ⟨xs, q, rfl, _, hcl, hxl, hel⟩ := DataW.trod_array hd hx
    have hsz : P.cellsOf t = ty.size := by
     obtain ⟨i, z, h1, h2, _⟩ := hT.info
     rw [Program.cellsOf, h1]
     exact h2
    have hse : P.cellsOf e = te.size := by
     obtain ⟨i, z, h1, h2, _⟩ := (hX e te hte).info
     rw [Program.cellsOf, h1]
     exact h2
    obtain ⟨as, h1, h2⟩ := Gu (n := q) hX (fun t ss h => FG hX n t ss h) cs _ 0 l hl (fun f hf => by
     obtain ⟨i, hi, rfl⟩ := List.mem_map.1 hf
     have hi : i < m := by simpa using hi
     refine ⟨xs[i]'(by omega), ?_⟩
     have := hel i hi
     simp only [hse] at this ⊢
     rw [this]
     simp)
    refine ⟨as, h1, ?_⟩
    rw [List.drop_zero, List.take_of_length_le (by omega)] at h2
    exact h2
   ·cases h
  ·rename_i fs hkk
   simp only [Option.bind_eq_some_iff] at h
   obtain ⟨l, hl, h⟩ := h
   split at h
   ·rename_i hlen
    have hlen : l.length = ty.size := by simpa using hlen
    injection h with h
    subst h
    rw [hkk] at hk
    cases d <;> simp only [TK.okB, Bool.false_eq_true] at hk
    rename_i gs
    have hfs := IU hk
    subst hfs
    have hsz : P.cellsOf t = ty.size := by
     obtain ⟨i, z, h1, h2, _⟩ := hT.info
     rw [Program.cellsOf, h1]
     exact h2
    obtain ⟨xs, q, rfl, _, hcl, hxl, hel⟩ := DataW.trod_struct hd hx
    obtain ⟨as, h1, h2⟩ := Gu (n := q) hX (fun t ss h => FG hX n t ss h) cs _ 0 l hl (fun f hf => by
     obtain ⟨fd, hfd, rfl⟩ := List.mem_map.1 hf
     obtain ⟨i, hi, hi2⟩ := List.getElem_of_mem hfd
     have hi' : i < gs.size := by simpa using hi
     refine ⟨xs[i]'(by omega), ?_⟩
     have := hel i fd (by rw [← hi2]; simp [hi'])
     rw [this]
     simp)
    refine ⟨as, h1, ?_⟩
    rw [List.drop_zero, List.take_of_length_le (by omega)] at h2
    exact h2
   ·cases h
  ·cases h
theorem S2 {AD : List (Nat × Ty)} (hX : Bz P AD) {r : Reach} {b0 n t : Nat} {ty : Ty} {ss : List Aj} {v : Value} {d : DataW H} {p : List MemPlace} {e : Nat} (hty : look t AD = some ty) (hke : ty.kind = .slice e) (hs : Ll AD n t = some [.sl ss]) (hk : ss.length ≠ 0)
  (hval : Value.okWide P w r b0 t v) (h : DataW.Trod enc P w base spare held t v d p) :
  ∃ (as : List A) (m : Nat), QW (.sl ss) (.l as) ∧ as.length = m * ss.length ∧ m ≤ maxLen ∧ I0 w.cell? (.lst ss) v [.l as, .i m] := by
 obtain ⟨fuel, hx⟩ := h
 obtain ⟨as, h1, h2⟩ := FG hX n t _ hs fuel _ _ hx
 obtain ⟨dd, hd, hkd⟩ := (hX t ty hty).kind
 have hnot : ∀ cs, v ≠ .agg cs := by
  rintro cs rfl
  rw [hke] at hkd
  cases dd <;> simp [TK.okB] at hkd
  simp [Value.okWide, hd, Cell.okWide, Cell.ok] at hval
 have hv : v.cells = #[v] := by cases v <;> first | rfl | exact absurd rfl (hnot _)
 rw [hv] at h2
 match as, h1, h2 with
 | [a], h1, h2 =>
  have h3 := h1.1
  have h4 := h2.1
  cases h3 with
  | sl q1 q2 q3 =>
   rename_i as m
   obtain ⟨as', m', c, b, r1, r2, r3, r4⟩ := h4.slice
   injection r1 with r1
   subst r1
   have : m' = m := Nat.eq_of_mul_eq_mul_right (by omega) (r3.symm.trans q1)
   subst this
   exact ⟨as, m', .sl q1 q2 q3, q1, q2, .l as, .i m', b, m', c, rfl, rfl, r2, by omega, h4⟩
 | [], h1, _ => exact h1.elim
 | _ :: _ :: _, h1, _ => exact h1.2.elim
end
end Rx
