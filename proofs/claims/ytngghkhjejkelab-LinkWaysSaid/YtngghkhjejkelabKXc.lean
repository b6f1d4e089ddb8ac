import Derived.Test.YtngghkhjejkelabKXb
import Derived.OpenShut
import Derived.Deep.Slices
import Derived.KernelRfl
set_option linter.unusedVariables false
set_option linter.unusedSimpArgs false
namespace Rx
open Go Go.RowKit
section
variable {T : Nat → List A → Bool × List A} {e : Nat → A} {n n' : Nat} {loc loc' : Loc} {P : Program} {X : Ctx} {w0 : W0}
variable {fr : List SV} {rows : List Row} {gs : List (L × Bool)} {pc : L} {o : Oper} {g : G} {inl : Inline}
structure XOK (P : Program) (T : Nat → List A → Bool × List A) (X : Ctx) : Prop where
 tys : TysOK P X.tys
 eqs : EqsOK P X.eqs
 ctr : CtrsOK P T X.ctr
 fns : FnsOK P X.fns
 mixed : P.follows .mixedOrders = true
 big : BigsOK P T X.big
theorem op_ok (hX : XOK P T X) (hI : InlOK P T e w0 inl) (o : Oper) : OpOK P T e w0 fr rows gs pc o g (execOp X inl fr rows gs pc o g) := by
 have none_ : execOp X inl fr rows gs pc o g = none → OpOK P T e w0 fr rows gs pc o g (execOp X inl fr rows gs pc o g) := fun h => by rw [h]; trivial
 cases h : o.op with
 | move x => exact op_move (.inl h)
 | assign x => exact op_move (.inr h)
 | pick c a b => exact op_pick h
 | alloc t => exact op_alloc hX.tys h
 | box t x => exact op_box hX.tys h
 | build t ps => exact op_build hX.tys h
 | buildSlice t n ps =>
  by_cases hn : n = 0
  ·subst hn; exact op_buildSlice0 hX.tys h
  ·exact op_buildSlice hX.tys hn h
 | load t a => exact op_load hX.tys h
 | store t a x => exact op_store hX.tys h
 | nilCheck x => exact op_nilCheck h
 | binOp op t x y yt => exact op_binOp hX.tys hX.eqs h
 | unOp op t x => exact op_unOp h
 | convert s d x => exact op_convert hX.tys h
 | makeFunc f a b =>
  cases f with
  | func f => exact op_makeFunc h
  | _ => exact none_ (by simp [execOp, h])
 | makeSlice t x y => exact op_makeSlice hX.tys h
 | panic x => exact op_panic h
 | makeInterface t x => exact op_makeInterface hX.tys h
 | slice t x lo hi mx =>
  cases mx with
  | none => exact op_slice hX.tys h
  | some _ => exact none_ (by simp [execOp, h])
 | fieldAddr s x f => exact op_fieldAddr hX.tys h
 | field t x f => exact op_field hX.tys h
 | indexAddr t x i => exact op_indexAddr hX.tys h
 | index t x i => exact op_index hX.tys h
 | extract x i => exact op_extract h
 | call c => exact op_call hX.tys hX.ctr hX.fns hI h
 | _ => exact none_ (by simp [execOp, h])
def boolOf : Value → Option Bool
 | .bool b => some b
 | _ => none
theorem yielded_of {ops : List Oper} {tm : Array Value} {j : Nat} {oj : Oper} {d : Nat} {s : SV} (h1 : ops[j]? = some oj) (h2 : oj.dst = some d) (h3 : fr[d]? = some s) (hf : FrRel e n loc fr tm) :
  ∃ v, s.rel e n loc v ∧ yielded ops.toArray tm j = boolOf v := by
 obtain ⟨v, hv, _, hr⟩ := hf.get h3
 refine ⟨v, hr, ?_⟩
 have h1' : ops.toArray[j]? = some oj := by simpa using h1
 unfold yielded
 rw [h1']
 simp only [Option.bind_some, h2, hv]
 cases v <;> rfl
theorem wantedS_sound {ops : List Oper} {tm : Array Value} {r : Option (List (L × Bool))} (h : wantedS fr ops o = some r) (hf : FrRel e n loc fr tm) :
  match r with
  | none => Region.wanted o (yielded ops.toArray tm) = false
  | some gs => (Region.wanted o (yielded ops.toArray tm) = true ↔ Holds e gs) := by
 unfold wantedS at h
 cases hg : o.guard with
 | none =>
  rw [hg] at h
  injection h with h
  subst h
  simp only [Region.wanted, hg, true_iff]
  intro x hx
  cases hx
 | some jw =>
  obtain ⟨j, want⟩ := jw
  rw [hg] at h
  simp only [Option.bind_eq_bind, Option.bind_eq_some_iff] at h
  obtain ⟨oj, hoj, d, hd, s, hs, h⟩ := h
  obtain ⟨v, hv, hy⟩ := yielded_of hoj hd hs hf
  have hwt : Region.wanted o (yielded ops.toArray tm) = (boolOf v == some want) := by
   simp only [Region.wanted, hg, hy]
  rw [hwt]
  split at h
  ·injection h with h
   subst h
   simp only [SV.rel] at hv
   subst hv
   rfl
  ·rename_i b
   injection h with h
   have := rel_bool (x := .t b) hv
   subst this
   subst h
   simp only [L.ev_t, A.bool_b]
   cases b <;> cases want <;> simp [Holds, boolOf]
  ·rename_i x _
   injection h with h
   have := rel_bool hv
   subst this
   subst h
   simp [Holds, boolOf]
  ·rename_i gs b
   by_cases hh : Holds e gs
   ·have := rel_bool (x := .t b) (hv.1 hh)
    subst this
    simp only [L.ev_t, A.bool_b]
    split at h
    ·rename_i hb
     injection h with h
     subst h
     have hb : b = want := by simpa using hb
     subst hb
     simp [hh, boolOf]
    ·rename_i hb
     injection h with h
     subst h
     simpa [boolOf] using hb
   ·have := hv.2 hh
    subst this
    split at h
    ·injection h with h
     subst h
     simp [hh, Go.undef, boolOf]
    ·injection h with h
     subst h
     rfl
  ·rename_i gs x _
   injection h with h
   subst h
   by_cases hh : Holds e gs
   ·have := rel_bool (hv.1 hh)
    subst this
    simp only
    constructor
    ·intro h1
     exact holds_cons (by simpa [boolOf] using h1) hh
    ·intro h1
     simpa [boolOf] using h1 (x, want) (by simp)
   ·have := hv.2 hh
    subst this
    constructor
    ·intro h1
     cases h1
    ·intro h1
     exact absurd (fun y hy => h1 y (List.mem_cons_of_mem _ hy)) hh
  ·cases h
theorem condS_rel {v v' : SV} {u : Value} (h : condS gs v = some v') (hv : Holds e gs → v.rel e n loc u) (hu : ¬ Holds e gs → u = Go.undef) : v'.rel e n loc u := by
 unfold condS at h
 split at h
 ·injection h with h
  subst h
  exact hv (fun x hx => by cases hx)
 ·injection h with h
  subst h
  exact ⟨hv, hu⟩
 ·cases h
theorem calmRow_good {p : L} {r r' : Row} {g g' : G} (h : calmRow p r g = some (r', g')) (hg : Good T e g') :
  Good T e g ∧ (∃ ss z m, r' = frow ss z m) ∧ ((p.ev e).bool = true → MRow e r r') ∧ ((p.ev e).bool = false → ∀ M, FRow e M r' (.slice none 0 0)) := by
 unfold calmRow at h
 split at h
 ·rename_i q hq
  split at h
  ·cases h
  ·rename_i hc
   simp only [Bool.or_eq_true, Bool.not_eq_true', beq_iff_eq, bne_iff_ne, ne_eq, not_or, Bool.not_eq_true, Bool.not_eq_false, Decidable.not_not] at hc
   obtain ⟨⟨⟨⟨c1, c2⟩, c3⟩, c4⟩, c5⟩ := hc
   simp only [Option.some.injEq, Prod.mk.injEq] at h
   obtain ⟨rfl, rfl⟩ := h
   have m1 := mkIteI_good hg
   have m2 := mkIteA_good m1.1
   refine ⟨m2.1, ⟨_, _, _, rfl⟩, fun hp => ⟨fun h => by simp [frow] at h, fun _ _ => rfl, fun p' hp' => ?_, fun n loc w B s _ => ?_⟩, fun hp M => ?_⟩
   ·simp only [frow, Option.some.injEq] at hp'
    subst hp'
    exact ⟨q, hq, c3.symm, c5.symm, rfl, by rw [m2.2]; simp [hp], by rw [m1.2]; simp [hp]⟩
   ·unfold RowOK; simp [frow]
   ·exact ⟨rfl, rfl, _, [], 0, rfl, rfl, Nat.pos_of_ne_zero c4, by rw [m2.2]; simp [hp], by simp, by rw [m1.2]; simp [hp], .emp⟩
 ·cases h
theorem calmRows_good {p : L} : ∀ {l l' : List Row} {g g' : G}, calmRows p l g = some (l', g') → Good T e g' →
  Good T e g ∧ l'.length = l.length ∧ ∀ (t : Nat) x', l'[t]? = some x' → (∃ ss z m, x' = frow ss z m) ∧ ((p.ev e).bool = true → ∃ x, l[t]? = some x ∧ MRow e x x') ∧ ((p.ev e).bool = false → ∀ M, FRow e M x' (.slice none 0 0))
 | [], l', g, g', h, hg => by
  simp only [calmRows, Option.some.injEq, Prod.mk.injEq] at h
  obtain ⟨rfl, rfl⟩ := h
  exact ⟨hg, rfl, fun t x' h => by simp at h⟩
 | r :: l, l', g, g', h, hg => by
  simp only [calmRows, Option.bind_eq_bind, Option.bind_eq_some_iff, Option.some.injEq, Prod.mk.injEq] at h
  obtain ⟨⟨r', g1⟩, h1, ⟨l1, g2⟩, h2, rfl, rfl⟩ := h
  obtain ⟨k1, k2, k3⟩ := calmRows_good h2 hg
  obtain ⟨j1, j2⟩ := calmRow_good h1 k1
  refine ⟨j1, by simp [k2], fun t x' ht => ?_⟩
  cases t with
  | zero =>
   simp only [List.getElem?_cons_zero, Option.some.injEq] at ht
   subst ht
   exact ⟨j2.1, fun hp => ⟨r, rfl, j2.2.1 hp⟩, j2.2.2⟩
  | succ t => simpa using k3 t x' (by simpa using ht)
section
variable {news : List Row} {w : World} {B : Bd} {N : Nat}
theorem calmK_rel (hf : ∀ (t : Nat) x, news[t]? = some x → ∃ ss z m, x = frow ss z m) (hR : RowsOK e loc (rows ++ news) w B) {k : K} {v : Value} (hk : k.rel e N loc v) : (calmK rows.length news k).rel e N loc v := by
 unfold calmK
 split
 ·rename_i r n
  split
  ·exact hk
  ·rename_i hr
   split
   ·rename_i row hrow
    split
    ·rename_i q hq
     obtain ⟨ss, z, m, rfl⟩ := hf _ _ hrow
     simp only [frow, Option.some.injEq] at hq
     subst hq
     have hrow' : (rows ++ news)[r]? = some (frow ss z m) := by rw [List.getElem?_append_right (by omega)]; exact hrow
     obtain ⟨as, m', _, _, l3, _, l5⟩ := (hR.lst r _ _ hrow' rfl).2
     rw [if_neg (by simp)] at l5
     obtain ⟨⟨a, c, g1, _⟩, _⟩ := l5
     obtain ⟨h1, h2, h3⟩ := hk
     refine ⟨⟨h1.1, by rw [l3]; omega, a, c, by rw [l3]; simpa using g1⟩, h2, .inr ?_⟩
     rcases h3 with h3 | h3
     ·cases h3
     ·exact h3
    ·exact K.rel_junk hk
   ·exact K.rel_junk hk
 ·exact hk
theorem calmKs_rel (hf : ∀ (t : Nat) x, news[t]? = some x → ∃ ss z m, x = frow ss z m) (hR : RowsOK e loc (rows ++ news) w B) : ∀ {l : List K} {vs : List Value}, KsRel e N loc l vs → KsRel e N loc (l.map (calmK rows.length news)) vs
 | [], [], _ => trivial
 | _ :: _, _ :: _, h => ⟨calmK_rel hf hR h.1, calmKs_rel hf hR h.2⟩
theorem calmC_rel (hf : ∀ (t : Nat) x, news[t]? = some x → ∃ ss z m, x = frow ss z m) (hR : RowsOK e loc (rows ++ news) w B) {c : C} {v : Value} (hk : c.rel e N loc v) : (calmC rows.length news c).rel e N loc v := by
 cases c with
 | k x => exact calmK_rel hf hR hk
 | clo f a b =>
  obtain ⟨va, vb, h1, h2, h3⟩ := hk
  exact ⟨va, vb, h1, calmKs_rel hf hR h2, calmKs_rel hf hR h3⟩
 | cfn x f h => exact hk
theorem calmCs_rel (hf : ∀ (t : Nat) x, news[t]? = some x → ∃ ss z m, x = frow ss z m) (hR : RowsOK e loc (rows ++ news) w B) : ∀ {l : List C} {vs : List Value}, CsRel e N loc l vs → CsRel e N loc (l.map (calmC rows.length news)) vs
 | [], [], _ => trivial
 | _ :: _, _ :: _, h => ⟨calmC_rel hf hR h.1, calmCs_rel hf hR h.2⟩
theorem calmPV_rel (hf : ∀ (t : Nat) x, news[t]? = some x → ∃ ss z m, x = frow ss z m) (hR : RowsOK e loc (rows ++ news) w B) {p : PV} {v : Value} (hk : p.rel e N loc v) : (calmPV rows.length news p).rel e N loc v := by
 cases p with
 | one c => exact calmC_rel hf hR hk
 | agg l => obtain ⟨vs, h1, h2⟩ := hk; exact ⟨vs, h1, calmCs_rel hf hR h2⟩
end
theorem load_rows {v : SV} {rows' : List Row} {g' : G} (hl : isLoad o = true) (h : execOp X inl fr rows gs pc o g = some (v, some rows', g')) : ∃ news, rows' = rows ++ news := by
 obtain ⟨dst, op', ty, pos, after, guard⟩ := o
 unfold isLoad at hl
 simp only at hl
 split at hl
 ·rename_i t x
  simp only [execOp, Option.bind_eq_bind, Option.bind_eq_some_iff] at h
  obtain ⟨ty', _, p, _, h⟩ := h
  unfold loadC at h
  split at h
  ·simp only [Option.bind_eq_bind, Option.bind_eq_some_iff] at h
   obtain ⟨_, _, _, _, h⟩ := h
   split at h
   ·cases h
   ·simp only [Option.bind_eq_some_iff, one, Option.some.injEq, Prod.mk.injEq] at h
    obtain ⟨_, _, _, h, _⟩ := h
    cases h
  ·simp only [Option.bind_eq_bind, Option.bind_eq_some_iff, one, Option.some.injEq, Prod.mk.injEq] at h
   obtain ⟨_, _, _, _, _, _, _, h, _⟩ := h
   cases h
  ·simp only [Option.bind_eq_bind, Option.bind_eq_some_iff] at h
   obtain ⟨_, _, _, _, h⟩ := h
   split at h
   ·cases h
   ·simp only [Option.bind_eq_some_iff] at h
    obtain ⟨⟨cs, news, g2⟩, _, vv, _, h⟩ := h
    simp only at h
    split at h
    ·simp only [one, Option.some.injEq, Prod.mk.injEq] at h
     obtain ⟨_, h, _⟩ := h
     cases h
    ·simp only [Option.some.injEq, Prod.mk.injEq] at h
     exact ⟨news, h.2.1.symm⟩
  ·cases h
 ·cases hl
theorem calm_sound {v0 v : SV} {rows1 rows' : List Row} {g1 g' : G} (hld : ∃ news, rows1 = rows ++ news) (h : calmOut rows rows1 gs o v0 g1 = some (v, rows', g')) (hg : Good T e g') :
  Good T e g1 ∧ rows.length ≤ rows'.length ∧
  (Holds e gs → rows'.length = rows1.length ∧ ∀ (loc : Loc) (w : World) u, v0.rel e rows1.length loc u → Cls e w0 loc rows1 w → v.rel e rows'.length loc u ∧ Cls e w0 loc rows' w) ∧
  (¬ Holds e gs → ∀ (loc : Loc) (w : World), Cls e w0 loc rows w → ∃ loc', LExt rows.length loc loc' ∧ v.rel e rows'.length loc' Go.undef ∧ Cls e w0 loc' rows' w) := by
 obtain ⟨news, rfl⟩ := hld
 unfold calmOut at h
 split at h
 ·split at h
  ·rename_i p
   simp only [Option.bind_eq_bind, Option.bind_eq_some_iff, Option.some.injEq, Prod.mk.injEq, List.drop_left] at h
   obtain ⟨⟨news', g2⟩, hc, rfl, rfl, rfl⟩ := h
   obtain ⟨k1, k2, k3⟩ := calmRows_good hc hg
   have hq := guardPc_good k1
   have hf : ∀ (t : Nat) x, news'[t]? = some x → ∃ ss z m, x = frow ss z m := fun t x ht => (k3 t x ht).1
   refine ⟨hq.1, by simp, fun hh => ⟨by simp [k2], fun loc w u hu hcl => ?_⟩, fun hh loc w hcl => ?_⟩
   ·have hp : ((guardPc (.t true) gs g1).1.ev e).bool = true := hq.2.2 ⟨rfl, hh⟩
    obtain ⟨B, hB, hR, hbel⟩ := hcl
    have hR' : RowsOK e loc (rows ++ news') w B := hR.of_mrow (by simp [k2]) fun r x' hx => by
     by_cases hr : r < rows.length
     ·rw [List.getElem?_append_left hr] at hx
      exact .inr ⟨x', by rw [List.getElem?_append_left hr]; exact hx, MRow.refl x'⟩
     ·rw [List.getElem?_append_right (by omega)] at hx
      obtain ⟨x, h1, h2⟩ := (k3 _ _ hx).2.1 hp
      exact .inr ⟨x, by rw [List.getElem?_append_right (by omega)]; exact h1, h2⟩
    have hlen : (rows ++ news').length = (rows ++ news).length := by simp [k2]
    refine ⟨⟨fun _ => ?_, fun h0 => absurd hh h0⟩, B, hB, hR', hbel⟩
    rw [hlen]
    exact calmPV_rel hf hR' hu
   ·have hp : ((guardPc (.t true) gs g1).1.ev e).bool = false := by
     cases hb : ((guardPc (.t true) gs g1).1.ev e).bool
     ·rfl
     ·exact absurd (hq.2.1 hb).2 hh
    obtain ⟨B, hB, hR, hbel⟩ := hcl
    have hadd := hR.addF (news := news') (vs := List.replicate news'.length (.slice none 0 0)) fun t x hx => ⟨.slice none 0 0, by
     rw [List.getElem?_replicate, if_pos (lt_of_get hx)], (k3 t x hx).2.2 hp _⟩
    exact ⟨_, locAdd_ext _ _ _, ⟨fun h0 => absurd h0 hh, fun _ => rfl⟩, B, hB, hadd, hbel⟩
  ·cases h
 ·cases h
theorem execOps_quiet (hX : XOK P T X) (hI : InlOK P T e w0 inl) {ops : List Oper} : ∀ {l : List Oper} {fr : List SV} {rows : List Row} {g : G} {fr' : List SV} {rows' : List Row} {g' : G},
  execOps X inl true ops pc l fr rows g = some (fr', rows', g') → Good T e g' → Good T e g ∧ rows' = rows ∧
   ∀ (loc : Loc) (a : Act) (w1 : World) (Q : Act → Prop), (pc.ev e).bool = true → FrRel e rows.length loc fr a.tmps → Cls e w0 loc rows w1 →
    (∀ a' : Act, FrRel e rows.length loc fr' a'.tmps → a'.defers = a.defers → Q a') → wpQuiet P ops.toArray (Cls e w0 loc rows) Q l a
 | [], fr, rows, g, fr', rows', g', h, hg => by
  simp only [execOps, Option.some.injEq, Prod.mk.injEq] at h
  obtain ⟨rfl, rfl, rfl⟩ := h
  exact ⟨hg, rfl, fun loc a w1 Q _ hf _ hQ => hQ a hf rfl⟩
 | o :: l, fr, rows, g, fr', rows', g', h, hg => by
  simp only [execOps, Option.bind_eq_bind, Option.bind_eq_some_iff] at h
  obtain ⟨wt, hwt, h⟩ := h
  cases wt with
  | none =>
   simp only at h
   obtain ⟨h1, h2, h3⟩ := execOps_quiet hX hI h hg
   refine ⟨h1, h2, fun loc a w1 Q hpc hf hw1 hQ => ?_⟩
   have := wantedS_sound hwt hf
   simp only at this
   unfold wpQuiet
   rw [if_neg (by rw [this]; simp)]
   exact h3 loc _ w1 Q hpc (hf.put (s := .undef) rfl o.dst) hw1 fun a' hf' hd => hQ a' hf' (by rw [hd]; cases o.dst <;> rfl)
  | some gs =>
   simp only [Option.bind_eq_some_iff] at h
   obtain ⟨⟨v, r, g1⟩, hop, h⟩ := h
   simp only [Option.bind_eq_some_iff] at h
   obtain ⟨v', hv', h⟩ := h
   cases r with
   | some rows1 => simp at h
   | none =>
    simp only at h
    obtain ⟨h1, h2, h3⟩ := execOps_quiet hX hI h hg
    have hok := op_ok (fr := fr) (rows := rows) (gs := gs) (pc := (guardPc pc gs g).1) (g := (guardPc pc gs g).2) hX hI o
    rw [hop] at hok
    obtain ⟨hg2, hq⟩ := hok h1
    have hgp := guardPc_good hg2
    refine ⟨hgp.1, h2, fun loc a w1 Q hpc hf hw1 hQ => ?_⟩
    have hwanted := wantedS_sound hwt hf
    simp only at hwanted
    unfold wpQuiet
    by_cases hh : Holds e gs
    ·rw [if_pos (hwanted.2 hh)]
     obtain ⟨u, hu, hdo⟩ := hq loc a w1 (hgp.2.2 ⟨hpc, hh⟩) hh hf hw1
     exact ⟨u, fun w hw => (hdo w hw).quietAt, h3 loc _ w1 Q hpc (hf.put (condS_rel hv' (fun _ => hu) (fun h0 => absurd hh h0)) o.dst) hw1 fun a' hf' hd => hQ a' hf' (by rw [hd]; cases o.dst <;> rfl)⟩
    ·rw [if_neg (fun h0 => hh (hwanted.1 h0))]
     exact h3 loc _ w1 Q hpc (hf.put (condS_rel hv' (fun h0 => absurd h0 hh) (fun _ => rfl)) o.dst) hw1 fun a' hf' hd => hQ a' hf' (by rw [hd]; cases o.dst <;> rfl)
theorem execOps_list (hX : XOK P T X) (hI : InlOK P T e w0 inl) {ops : List Oper} : ∀ {l : List Oper} {fr : List SV} {rows : List Row} {g : G} {fr' : List SV} {rows' : List Row} {g' : G},
  execOps X inl false ops pc l fr rows g = some (fr', rows', g') → Good T e g' → Good T e g ∧
   ∀ (loc : Loc) (a : Act) (w : World) (Q : Exit → Act → World → Prop), (pc.ev e).bool = true → FrRel e rows.length loc fr a.tmps → Cls e w0 loc rows w →
    (∀ (loc' : Loc) (a' : Act) (w' : World), LExt rows.length loc loc' → rows.length ≤ rows'.length → FrRel e rows'.length loc' fr' a'.tmps → a'.defers = a.defers → Cls e w0 loc' rows' w' → Q .normal a' w') →
     wpList P ops.toArray Q l a w
 | [], fr, rows, g, fr', rows', g', h, hg => by
  simp only [execOps, Option.some.injEq, Prod.mk.injEq] at h
  obtain ⟨rfl, rfl, rfl⟩ := h
  exact ⟨hg, fun loc a w Q _ hf hw hQ => hQ loc a w (LExt.refl _ _) (Nat.le_refl _) hf rfl hw⟩
 | o :: l, fr, rows, g, fr', rows', g', h, hg => by
  simp only [execOps, Option.bind_eq_bind, Option.bind_eq_some_iff] at h
  obtain ⟨wt, hwt, h⟩ := h
  cases wt with
  | none =>
   simp only at h
   obtain ⟨h1, h3⟩ := execOps_list hX hI h hg
   refine ⟨h1, fun loc a w Q hpc hf hw hQ => ?_⟩
   have := wantedS_sound hwt hf
   simp only at this
   unfold wpList
   rw [if_neg (by rw [this]; simp)]
   exact h3 loc _ w Q hpc (hf.put (s := .undef) rfl o.dst) hw fun loc' a' w' hx hl hf' hd hw' => hQ loc' a' w' hx hl hf' (by rw [hd]; cases o.dst <;> rfl) hw'
  | some gs =>
   simp only [Option.bind_eq_some_iff] at h
   obtain ⟨⟨v, r, g1⟩, hop, h⟩ := h
   simp only [Option.bind_eq_some_iff] at h
   obtain ⟨v', hv', h⟩ := h
   have hok := op_ok (fr := fr) (rows := rows) (gs := gs) (pc := (guardPc pc gs g).1) (g := (guardPc pc gs g).2) hX hI o
   rw [hop] at hok
   cases r with
   | none =>
    simp only at h
    obtain ⟨h1, h3⟩ := execOps_list hX hI h hg
    obtain ⟨hg2, hq⟩ := hok h1
    have hgp := guardPc_good hg2
    refine ⟨hgp.1, fun loc a w Q hpc hf hw hQ => ?_⟩
    have hwanted := wantedS_sound hwt hf
    simp only at hwanted
    unfold wpList
    by_cases hh : Holds e gs
    ·rw [if_pos (hwanted.2 hh)]
     obtain ⟨u, hu, hdo⟩ := hq loc a w (hgp.2.2 ⟨hpc, hh⟩) hh hf hw
     refine .inl (((hdo w hw).does (R := fun u' w' => u' = u ∧ Cls e w0 loc rows w') hw fun w' hw' => ⟨rfl, hw'⟩).wp ?_)
     rintro u' w' ⟨rfl, hw'⟩
     exact h3 loc _ w' Q hpc (hf.put (condS_rel hv' (fun _ => hu) (fun h0 => absurd hh h0)) o.dst) hw' fun loc' a' w' hx hl hf' hd hw' => hQ loc' a' w' hx hl hf' (by rw [hd]; cases o.dst <;> rfl) hw'
    ·rw [if_neg (fun h0 => hh (hwanted.1 h0))]
     exact h3 loc _ w Q hpc (hf.put (condS_rel hv' (fun h0 => absurd h0 hh) (fun _ => rfl)) o.dst) hw fun loc' a' w' hx hl hf' hd hw' => hQ loc' a' w' hx hl hf' (by rw [hd]; cases o.dst <;> rfl) hw'
   | some rows1 =>
    simp only [Bool.false_eq_true, if_false] at h
    split at h
    ·rename_i hge
     have hgs : gs = [] := by simpa using hge
     subst hgs
     have hhold : Holds e ([] : List (L × Bool)) := fun x hx => by cases hx
     obtain ⟨h1, h3⟩ := execOps_list hX hI h hg
     obtain ⟨hg2, hq⟩ := hok h1
     have hgp := guardPc_good hg2
     refine ⟨hgp.1, fun loc a w Q hpc hf hw hQ => ?_⟩
     have hwanted := wantedS_sound hwt hf
     simp only at hwanted
     unfold wpList
     rw [if_pos (hwanted.2 hhold)]
     refine .inl ((hq loc a w (hgp.2.2 ⟨hpc, hhold⟩) hhold hf hw).wp ?_)
     rintro u w' ⟨loc1, hx1, hl1, hu, hw1⟩
     have hv2 : v'.rel e rows1.length loc1 u := condS_rel hv' (fun _ => hu) (fun h0 => absurd hhold h0)
     exact h3 loc1 _ w' Q hpc ((hf.ext hx1 hl1).put hv2 o.dst) hw1 fun loc' a' w' hx hl hf' hd hw' => hQ loc' a' w' (hx1.trans hx hl1) (Nat.le_trans hl1 hl) hf' (by rw [hd]; cases o.dst <;> rfl) hw'
    ·simp only [Option.bind_eq_some_iff] at h
     obtain ⟨⟨v2, rows2, g2⟩, hcalm, h⟩ := h
     simp only at h
     obtain ⟨h1, h3⟩ := execOps_list hX hI h hg
     have hld : ∃ news, rows1 = rows ++ news := by
      cases hl : isLoad o
      ·unfold calmOut at hcalm
       rw [hl] at hcalm
       simp at hcalm
      ·exact load_rows hl hop
     obtain ⟨c1, c2, c3, c4⟩ := calm_sound (w0 := w0) hld hcalm h1
     obtain ⟨hg2, hq⟩ := hok c1
     have hgp := guardPc_good hg2
     refine ⟨hgp.1, fun loc a w Q hpc hf hw hQ => ?_⟩
     have hwanted := wantedS_sound hwt hf
     simp only at hwanted
     unfold wpList
     by_cases hh : Holds e gs
     ·rw [if_pos (hwanted.2 hh)]
      refine .inl ((hq loc a w (hgp.2.2 ⟨hpc, hh⟩) hh hf hw).wp ?_)
      rintro u w' ⟨loc1, hx1, hl1, hu, hw1⟩
      obtain ⟨d1, d2⟩ := c3 hh
      obtain ⟨d3, d4⟩ := d2 loc1 w' u hu hw1
      exact h3 loc1 _ w' Q hpc ((hf.ext hx1 c2).put d3 o.dst) d4 fun loc' a' w' hx hl hf' hd hw' => hQ loc' a' w' (hx1.trans hx c2) (Nat.le_trans c2 hl) hf' (by rw [hd]; cases o.dst <;> rfl) hw'
     ·rw [if_neg (fun h0 => hh (hwanted.1 h0))]
      obtain ⟨loc1, hx1, d3, d4⟩ := c4 hh loc w hw
      exact h3 loc1 _ w Q hpc ((hf.ext hx1 c2).put d3 o.dst) d4 fun loc' a' w' hx hl hf' hd hw' => hQ loc' a' w' (hx1.trans hx c2) (Nat.le_trans c2 hl) hf' (by rw [hd]; cases o.dst <;> rfl) hw'
end
end Rx
namespace Rx
open Go Go.RowKit
theorem samesC_eq' : ∀ {a b : List C}, samesC a b = true → a = b
 | [], [], _ => rfl
 | [], _ :: _, h => by simp [samesC] at h
 | _ :: _, [], h => by simp [samesC] at h
 | a :: l, b :: m, h => by
  simp only [samesC, Bool.and_eq_true] at h
  rw [C.same_eq h.1, samesC_eq' h.2]
theorem knownSame_eq : ∀ {a b : List Known}, knownSame a b = true → a = b
 | [], [], _ => rfl
 | [], _ :: _, h => by simp [knownSame] at h
 | _ :: _, [], h => by simp [knownSame] at h
 | ⟨a1, a2, a3⟩ :: l, ⟨b1, b2, b3⟩ :: m, h => by
  simp only [knownSame, Bool.and_eq_true] at h
  obtain ⟨⟨⟨h1, h2⟩, h3⟩, h4⟩ := h
  rw [D.same_eq h1, L.beqs_eq h2, L.beqs_eq h3, knownSame_eq h4]
theorem defsSame_eq : ∀ {a b : List Def}, defsSame a b = true → a = b
 | [], [], _ => rfl
 | [], _ :: _, h => by simp [defsSame] at h
 | _ :: _, [], h => by simp [defsSame] at h
 | ⟨a1, a2, a3⟩ :: l, ⟨b1, b2, b3⟩ :: m, h => by
  simp only [defsSame, Bool.and_eq_true, beq_iff_eq, D.same, decide_eq_true_eq] at h
  obtain ⟨⟨⟨h1, h2⟩, h3⟩, h4⟩ := h
  rw [h1, h2, L.beqs_eq h3, defsSame_eq h4]
theorem PV.same_eq {a b : PV} (h : a.same b = true) : a = b := by
 cases a <;> cases b <;> simp [PV.same] at h
 ·rw [C.same_eq h]
 ·rw [samesC_eq' h]
theorem pvsSame_eq : ∀ {a b : List PV}, pvsSame a b = true → a = b
 | [], [], _ => rfl
 | [], _ :: _, h => by simp [pvsSame] at h
 | _ :: _, [], h => by simp [pvsSame] at h
 | a :: l, b :: m, h => by
  simp only [pvsSame, Bool.and_eq_true] at h
  rw [PV.same_eq h.1, pvsSame_eq h.2]
theorem gsSame_eq : ∀ {a b : List (L × Bool)}, gsSame a b = true → a = b
 | [], [], _ => rfl
 | [], _ :: _, h => by simp [gsSame] at h
 | _ :: _, [], h => by simp [gsSame] at h
 | (a, a') :: l, (b, b') :: m, h => by
  simp only [gsSame, Bool.and_eq_true, beq_iff_eq] at h
  rw [L.same_eq h.1.1, h.1.2, gsSame_eq h.2]
theorem SV.same_eq {a b : SV} (h : a.same b = true) : a = b := by
 cases a <;> cases b <;> simp [SV.same] at h
 ·rw [PV.same_eq h]
 ·rw [pvsSame_eq h]
 ·rw [gsSame_eq h.1, PV.same_eq h.2]
 ·rfl
 ·rfl
theorem svsSame_eq : ∀ {a b : List SV}, svsSame a b = true → a = b
 | [], [], _ => rfl
 | [], _ :: _, h => by simp [svsSame] at h
 | _ :: _, [], h => by simp [svsSame] at h
 | a :: l, b :: m, h => by
  simp only [svsSame, Bool.and_eq_true] at h
  rw [SV.same_eq h.1, svsSame_eq h.2]
theorem lstSame_eq : ∀ {a b : Option Lst}, lstSame a b = true → a = b
 | none, none, _ => rfl
 | none, some _, h => by simp [lstSame] at h
 | some _, none, h => by simp [lstSame] at h
 | some ⟨a1, a2, a3, a4, a5⟩, some ⟨b1, b2, b3, b4, b5⟩, h => by
  simp only [lstSame, Bool.and_eq_true, beq_iff_eq] at h
  obtain ⟨⟨⟨⟨h1, h2⟩, h3⟩, h4⟩, h5⟩ := h
  rw [h1, h2, srtsSame_eq h3, L.same_eq h4, L.same_eq h5]
theorem rowsSame_eq : ∀ {a b : List Row}, rowsSame a b = true → a = b
 | [], [], _ => rfl
 | [], _ :: _, h => by simp [rowsSame] at h
 | _ :: _, [], h => by simp [rowsSame] at h
 | ⟨a1, a2, a3, a4, a5⟩ :: l, ⟨b1, b2, b3, b4, b5⟩ :: m, h => by
  simp only [rowsSame, Bool.and_eq_true, beq_iff_eq] at h
  obtain ⟨⟨⟨⟨⟨h1, h2⟩, h3⟩, h4⟩, h6⟩, h5⟩ := h
  rw [h1, h2, h3, samesC_eq' h4, lstSame_eq h6, rowsSame_eq h5]
theorem boolsSame_eq : ∀ {a b : List Bool}, boolsSame a b = true → a = b
 | [], [], _ => rfl
 | [], _ :: _, h => by simp [boolsSame] at h
 | _ :: _, [], h => by simp [boolsSame] at h
 | a :: l, b :: m, h => by
  simp only [boolsSame, Bool.and_eq_true, beq_iff_eq] at h
  rw [h.1, boolsSame_eq h.2]
theorem Nd.same_eq {a b : Nd} (hl : a.listed = b.listed) (h : a.same b = true) : a = b := by
 obtain ⟨a1, a2, a3, a4, a5, a6, a7⟩ := a
 obtain ⟨b1, b2, b3, b4, b5, b6, b7⟩ := b
 simp only [Nd.same, Bool.and_eq_true, beq_iff_eq] at h
 obtain ⟨⟨⟨⟨⟨h1, h2⟩, h3⟩, h4⟩, h5⟩, h6⟩ := h
 simp only at hl
 rw [hl, svsSame_eq h1, rowsSame_eq h2, h3, defsSame_eq h4, L.beqs_eq h5, knownSame_eq h6]
end Rx
namespace Rx
open Go Go.RowKit
section
variable {T : Nat → List A → Bool × List A} {e e1 : Nat → A} {n : Nat} {loc : Loc} {P : Program} {X : Ctx} {w0 : W0} {σ : Nat → L}
theorem subL_ev (h : ∀ i, e1 i = (σ i).ev e) (x : L) : (subL σ x).ev e = x.ev e1 := by
 cases x <;> simp [subL, L.ev, h]
theorem subK_rel (h : ∀ i, e1 i = (σ i).ev e) {k : K} {v : Value} : (subK σ k).rel e n loc v ↔ k.rel e1 n loc v := by
 cases k <;> simp [subK, K.rel, K.ok, K.sem, subL_ev h]
theorem subKs_rel (h : ∀ i, e1 i = (σ i).ev e) : ∀ {l : List K} {vs : List Value}, KsRel e n loc (l.map (subK σ)) vs ↔ KsRel e1 n loc l vs
 | [], [] => by simp [KsRel]
 | [], _ :: _ => by simp [KsRel]
 | _ :: _, [] => by simp [KsRel]
 | _ :: _, _ :: _ => by simp [KsRel, subK_rel h, subKs_rel h]
theorem subC_rel (h : ∀ i, e1 i = (σ i).ev e) {c : C} {v : Value} : (subC σ c).rel e n loc v ↔ c.rel e1 n loc v := by
 cases c with
 | k x => exact subK_rel h
 | clo f a b => simp [subC, C.rel, subKs_rel h]
 | cfn x f g => simp [subC, C.rel, subL_ev h]
theorem subCs_rel (h : ∀ i, e1 i = (σ i).ev e) : ∀ {l : List C} {vs : List Value}, CsRel e n loc (l.map (subC σ)) vs ↔ CsRel e1 n loc l vs
 | [], [] => by simp [CsRel]
 | [], _ :: _ => by simp [CsRel]
 | _ :: _, [] => by simp [CsRel]
 | _ :: _, _ :: _ => by simp [CsRel, subC_rel h, subCs_rel h]
theorem subPV_rel (h : ∀ i, e1 i = (σ i).ev e) {p : PV} {v : Value} : (subPV σ p).rel e n loc v ↔ p.rel e1 n loc v := by
 cases p with
 | one c => exact subC_rel h
 | agg l => simp [subPV, PV.rel, subCs_rel h]
theorem subPVs_rel (h : ∀ i, e1 i = (σ i).ev e) : ∀ {l : List PV} {vs : List Value}, PVsRel e n loc (l.map (subPV σ)) vs ↔ PVsRel e1 n loc l vs
 | [], [] => by simp [PVsRel]
 | [], _ :: _ => by simp [PVsRel]
 | _ :: _, [] => by simp [PVsRel]
 | _ :: _, _ :: _ => by simp [PVsRel, subPV_rel h, subPVs_rel h]
theorem subSV_rel (h : ∀ i, e1 i = (σ i).ev e) {s : SV} {v : Value} : (subSV σ s).rel e n loc v ↔ s.rel e1 n loc v := by
 cases s with
 | pv p => exact subPV_rel h
 | tup l => simp [subSV, SV.rel, subPVs_rel h]
 | cond gs p =>
  have : Holds e (gs.map fun x => (subL σ x.1, x.2)) ↔ Holds e1 gs := by
   unfold Holds
   constructor
   ·intro hh x hx
    have := hh (subL σ x.1, x.2) (List.mem_map.2 ⟨x, hx, rfl⟩)
    simpa [subL_ev h] using this
   ·intro hh x hx
    obtain ⟨y, hy, rfl⟩ := List.mem_map.1 hx
    simpa [subL_ev h] using hh y hy
  simp [subSV, SV.rel, subPV_rel h, this]
 | undef => simp [subSV, SV.rel]
 | junk => simp [subSV, SV.rel]
theorem subFr_rel (h : ∀ i, e1 i = (σ i).ev e) {fr : List SV} {tm : Array Value} : FrRel e n loc (fr.map (subSV σ)) tm ↔ FrRel e1 n loc fr tm := by
 constructor
 ·intro hh
  refine ⟨by simpa using hh.len, fun i s v hs hv => (subSV_rel h).1 (hh.at_ i _ v (by rw [List.getElem?_map, hs]; rfl) hv)⟩
 ·intro hh
  refine ⟨by simpa using hh.len, fun i s v hs hv => ?_⟩
  rw [List.getElem?_map] at hs
  cases ht : fr[i]? with
  | none => rw [ht] at hs; cases hs
  | some t =>
   rw [ht] at hs
   simp only [Option.map_some, Option.some.injEq] at hs
   subst hs
   exact (subSV_rel h).2 (hh.at_ i t v ht hv)
theorem subRow_ok (h : ∀ i, e1 i = (σ i).ev e) {w : World} {B : Bd} {r : Nat} {x : Row} : RowOK e n loc w B r (subRow σ x) ↔ RowOK e1 n loc w B r x := by
 unfold RowOK
 simp only [subRow, subCs_rel h, List.map_eq_nil_iff, ne_eq, List.getElem?_map, Option.map_eq_some_iff]
 constructor
 ·intro hh
  split
  ·rename_i ho; rw [if_pos ho] at hh; exact hh
  ·rename_i ho
   rw [if_neg ho] at hh
   intro hc
   obtain ⟨h1, h2, h3⟩ := hh hc
   refine ⟨h1, h2, fun j c hj => ?_⟩
   obtain ⟨v, hv, hr⟩ := h3 j _ ⟨c, hj, rfl⟩
   exact ⟨v, hv, (subC_rel h).1 hr⟩
 ·intro hh
  split
  ·rename_i ho; rw [if_pos ho] at hh; exact hh
  ·rename_i ho
   rw [if_neg ho] at hh
   intro hc
   obtain ⟨h1, h2, h3⟩ := hh hc
   refine ⟨h1, h2, fun j c hj => ?_⟩
   obtain ⟨c', hc', rfl⟩ := hj
   obtain ⟨v, hv, hr⟩ := h3 j _ hc'
   exact ⟨v, hv, (subC_rel h).2 hr⟩
theorem subLst_ok (h : ∀ i, e1 i = (σ i).ev e) {w : World} {B : Bd} {r : Nat} {q : Lst} : LstOK e loc w B r { q with x := subL σ q.x, n := subL σ q.n } ↔ LstOK e1 loc w B r q := by
 unfold LstOK
 simp only [subL_ev h]
theorem subRows_ok (h : ∀ i, e1 i = (σ i).ev e) {w : World} {B : Bd} {rows : List Row} : RowsOK e loc (rows.map (subRow σ)) w B ↔ RowsOK e1 loc rows w B := by
 have at_ : ∀ (r : Nat) (y : Row), (rows.map (subRow σ))[r]? = some y ↔ ∃ x, rows[r]? = some x ∧ subRow σ x = y := fun r y => by
  rw [List.getElem?_map, Option.map_eq_some_iff]
 have lo : ∀ (r : Nat) (x : Row), lOwn loc r (subRow σ x) ↔ lOwn loc r x := fun r x => by
  unfold lOwn
  simp only [subRow, Option.map_eq_some_iff]
  constructor
  ·rintro ⟨q, ⟨q0, h1, rfl⟩, h2, h3⟩
   exact ⟨q0, h1, h2, h3⟩
  ·rintro ⟨q, h1, h2, h3⟩
   exact ⟨_, ⟨q, h1, rfl⟩, h2, h3⟩
 constructor
 ·intro hh
  refine ⟨fun r x hr => ?_, fun r x q hr hq => ?_, fun r s x y hr hs ox oy => ?_, fun r s x y hr hs ox oy hne => ?_⟩
  ·have := hh.row r _ ((at_ r _).2 ⟨x, hr, rfl⟩)
   rw [List.length_map] at this
   exact (subRow_ok h).1 this
  ·have := hh.lst r _ _ ((at_ r _).2 ⟨x, hr, rfl⟩) (show (subRow σ x).lst = some { q with x := subL σ q.x, n := subL σ q.n } by simp [subRow, hq])
   exact ⟨this.1, (subLst_ok h).1 this.2⟩
  ·refine hh.lapart r s _ _ ((at_ r _).2 ⟨x, hr, rfl⟩) ((at_ s _).2 ⟨y, hs, rfl⟩) ((lo r x).2 ox) ?_
   rcases oy with oy | ⟨oy, hne⟩
   ·exact .inl oy
   ·exact .inr ⟨(lo s y).2 oy, hne⟩
  ·exact hh.apart r s _ _ ((at_ r _).2 ⟨x, hr, rfl⟩) ((at_ s _).2 ⟨y, hs, rfl⟩) ox oy hne
 ·intro hh
  refine ⟨fun r x' hr => ?_, fun r x' q hr hq => ?_, fun r s x' y' hr hs ox oy => ?_, fun r s x' y' hr hs ox oy hne => ?_⟩
  ·obtain ⟨x, hx, rfl⟩ := (at_ r _).1 hr
   rw [List.length_map]
   exact (subRow_ok h).2 (hh.row r x hx)
  ·obtain ⟨x, hx, rfl⟩ := (at_ r _).1 hr
   simp only [subRow, Option.map_eq_some_iff] at hq
   obtain ⟨q0, h1, rfl⟩ := hq
   have := hh.lst r x q0 hx h1
   exact ⟨this.1, (subLst_ok h).2 this.2⟩
  ·obtain ⟨x, hx, rfl⟩ := (at_ r _).1 hr
   obtain ⟨y, hy, rfl⟩ := (at_ s _).1 hs
   refine hh.lapart r s x y hx hy ((lo r x).1 ox) ?_
   rcases oy with oy | ⟨oy, hne⟩
   ·exact .inl oy
   ·exact .inr ⟨(lo s y).1 oy, hne⟩
  ·obtain ⟨x, hx, rfl⟩ := (at_ r _).1 hr
   obtain ⟨y, hy, rfl⟩ := (at_ s _).1 hs
   exact hh.apart r s x y hx hy ox oy hne
def empLc : Lc := ⟨0, 0, 0, 0, .slice none 0 0, true⟩
def locR (loc : Loc) (ρ : Nat → Option Nat) : Loc := fun r => match ρ r with | some r' => loc r' | none => empLc
theorem all2_get {α : Type} {f : α → α → Bool} : ∀ {l m : List α}, all2 f l m = true → l.length = m.length ∧ ∀ (i : Nat) a, l[i]? = some a → ∃ b, m[i]? = some b ∧ f a b = true
 | [], [], _ => ⟨rfl, fun i a h => by simp at h⟩
 | [], _ :: _, h => by simp [all2] at h
 | _ :: _, [], h => by simp [all2] at h
 | a :: l, b :: m, h => by
  simp only [all2, Bool.and_eq_true] at h
  obtain ⟨h1, h2⟩ := all2_get h.2
  refine ⟨by simp [h1], fun i x hx => ?_⟩
  cases i with
  | zero => simp at hx; subst hx; exact ⟨b, rfl, h.1⟩
  | succ i => simpa using h2 i x (by simpa using hx)
variable {ρ : Nat → Option Nat} {N : Nat}
theorem locR_some {r r' : Nat} (h : ρ r = some r') : locR loc ρ r = loc r' := by simp [locR, h]
theorem locR_none {r : Nat} (h : ρ r = none) : locR loc ρ r = empLc := by simp [locR, h]
theorem ckK_rel {M : Nat} {t k : K} {v : Value} (h : ckK M ρ t k = true) (hk : k.rel e N loc v) : t.rel e M (locR loc ρ) v := by
 unfold ckK at h
 split at h
 ·exact ⟨trivial, hk.2.1, .inl rfl⟩
 ·simp only [Bool.and_eq_true] at h
  rw [kindSame_eq h.1, L.same_eq h.2]; exact ⟨trivial, hk.2.1, .inr (hk.2.2.resolve_left (by simp))⟩
 ·rw [L.same_eq h]; exact ⟨trivial, hk.2.1, .inr (hk.2.2.resolve_left (by simp))⟩
 ·rw [L.same_eq h]; exact ⟨trivial, hk.2.1, .inr (hk.2.2.resolve_left (by simp))⟩
 ·rw [L.same_eq h]; exact ⟨trivial, hk.2.1, .inr (hk.2.2.resolve_left (by simp))⟩
 ·simp only [Bool.and_eq_true, decide_eq_true_eq, beq_iff_eq] at h
  obtain ⟨⟨h0, h1⟩, h2⟩ := h
  subst h2
  obtain ⟨a1, a2, a3⟩ := hk
  refine ⟨h0, a2, .inr ?_⟩
  rcases a3 with a3 | a3
  ·cases a3
  ·rw [a3]; simp only [K.sem]; rw [locR_some h1]
 ·simp only [Bool.and_eq_true, decide_eq_true_eq, beq_iff_eq] at h
  obtain ⟨⟨⟨⟨⟨h0, h1⟩, h2⟩, h3⟩, h4⟩, h5⟩ := h
  have h5 := L.same_eq h5
  subst h2 h3 h4 h5
  obtain ⟨a1, a2, a3⟩ := hk
  refine ⟨⟨h0, a1.2⟩, a2, .inr ?_⟩
  rcases a3 with a3 | a3
  ·cases a3
  ·rw [a3]; simp only [K.sem]; rw [locR_some h1]
 ·simp only [Bool.and_eq_true, decide_eq_true_eq, beq_iff_eq] at h
  obtain ⟨⟨⟨h0, h1⟩, h2⟩, h3⟩ := h
  subst h2 h3
  obtain ⟨a1, a2, a3⟩ := hk
  refine ⟨h0, a2, .inr ?_⟩
  rcases a3 with a3 | a3
  ·cases a3
  ·rw [a3]; simp only [K.sem]; rw [locR_some h1]
 ·simp only [Bool.and_eq_true, decide_eq_true_eq, beq_iff_eq] at h
  obtain ⟨⟨⟨⟨⟨h0, h1⟩, h2⟩, h3⟩, h4⟩, h5⟩ := h
  subst h2 h3 h4 h5
  obtain ⟨a1, a2, a3⟩ := hk
  refine ⟨h0, a2, .inr ?_⟩
  rcases a3 with a3 | a3
  ·cases a3
  ·rw [a3]; simp only [K.sem]; rw [locR_some h1]
 ·simp only [Bool.and_eq_true, decide_eq_true_eq] at h
  obtain ⟨⟨h0, h1⟩, h2⟩ := h
  have h2 := L.same_eq h2
  subst h2
  obtain ⟨a1, a2, a3⟩ := hk
  refine ⟨⟨h0, a1.2.1, by rw [locR_some h1]; exact a1.2.2⟩, a2, .inr ?_⟩
  rcases a3 with a3 | a3
  ·cases a3
  ·rw [a3]; simp only [K.sem]; rw [locR_some h1]
 ·simp only [Bool.and_eq_true, decide_eq_true_eq] at h
  obtain ⟨⟨h0, h1⟩, h2⟩ := h
  have h2 := L.same_eq h2
  subst h2
  obtain ⟨a1, a2, a3⟩ := hk
  refine ⟨⟨h0, by simp, fun _ => ⟨by rw [locR_none h1]; rfl, by simp⟩⟩, a2, .inr ?_⟩
  rcases a3 with a3 | a3
  ·cases a3
  ·rw [a3]; simp only [K.sem]; rw [locR_none h1]; rfl
 ·simp only [Bool.and_eq_true, decide_eq_true_eq] at h
  obtain ⟨⟨h0, h1⟩, h2⟩ := h
  have h2 := L.same_eq h2
  subst h2
  obtain ⟨a1, a2, a3⟩ := hk
  refine ⟨⟨h0, a1.2.1, by rw [locR_some h1]; exact a1.2.2⟩, a2, .inr ?_⟩
  rcases a3 with a3 | a3
  ·cases a3
  ·rw [a3]; simp only [K.sem]; rw [locR_some h1]
 ·simp only [Bool.and_eq_true, decide_eq_true_eq, beq_iff_eq] at h
  obtain ⟨⟨⟨⟨⟨h0, h1⟩, h2⟩, h3⟩, h4⟩, h5⟩ := h
  have h4 := L.same_eq h4
  have h5 := L.same_eq h5
  subst h2 h3 h4 h5
  obtain ⟨a1, a2, a3⟩ := hk
  refine ⟨⟨h0, a1.2⟩, a2, .inr ?_⟩
  rcases a3 with a3 | a3
  ·cases a3
  ·rw [a3]; simp only [K.sem]; rw [locR_some h1]
 ·exact ⟨trivial, hk.2.1, .inr (hk.2.2.resolve_left (by simp))⟩
 ·exact ⟨trivial, hk.2.1, .inr (hk.2.2.resolve_left (by simp))⟩
 ·exact ⟨trivial, hk.2.1, .inr (hk.2.2.resolve_left (by simp))⟩
 ·cases h
theorem ckKs_rel {M : Nat} : ∀ {t k : List K} {vs : List Value}, all2 (ckK M ρ) t k = true → KsRel e N loc k vs → KsRel e M (locR loc ρ) t vs
 | [], [], [], _, _ => trivial
 | _ :: _, _ :: _, _ :: _, h, hk => by
  simp only [all2, Bool.and_eq_true] at h
  exact ⟨ckK_rel h.1 hk.1, ckKs_rel h.2 hk.2⟩
 | [], _ :: _, _, h, _ => by simp [all2] at h
 | _ :: _, [], _, h, _ => by simp [all2] at h
 | [], [], _ :: _, _, hk => hk.elim
 | _ :: _, _ :: _, [], _, hk => hk.elim
theorem ckC_rel {M : Nat} {t k : C} {v : Value} (h : ckC M ρ t k = true) (hk : k.rel e N loc v) : t.rel e M (locR loc ρ) v := by
 unfold ckC at h
 split at h
 ·exact ⟨trivial, C.rel_one hk, .inl rfl⟩
 ·exact ckK_rel h hk
 ·simp only [Bool.and_eq_true, beq_iff_eq] at h
  obtain ⟨⟨h1, h2⟩, h3⟩ := h
  obtain ⟨va, vb, a1, a2, a3⟩ := hk
  exact ⟨va, vb, by rw [h1]; exact a1, ckKs_rel h2 a2, ckKs_rel h3 a3⟩
 ·cases h
theorem ckCs_rel {M : Nat} : ∀ {t k : List C} {vs : List Value}, all2 (ckC M ρ) t k = true → CsRel e N loc k vs → CsRel e M (locR loc ρ) t vs
 | [], [], [], _, _ => trivial
 | _ :: _, _ :: _, _ :: _, h, hk => by
  simp only [all2, Bool.and_eq_true] at h
  exact ⟨ckC_rel h.1 hk.1, ckCs_rel h.2 hk.2⟩
 | [], _ :: _, _, h, _ => by simp [all2] at h
 | _ :: _, [], _, h, _ => by simp [all2] at h
 | [], [], _ :: _, _, hk => hk.elim
 | _ :: _, _ :: _, [], _, hk => hk.elim
theorem ckPV_rel {M : Nat} {t k : PV} {v : Value} (h : ckPV M ρ t k = true) (hk : k.rel e N loc v) : t.rel e M (locR loc ρ) v := by
 unfold ckPV at h
 split at h
 ·exact ckC_rel h hk
 ·obtain ⟨vs, h1, h2⟩ := hk
  exact ⟨vs, h1, ckCs_rel h h2⟩
 ·cases h
theorem ckPVs_rel {M : Nat} : ∀ {t k : List PV} {vs : List Value}, all2 (ckPV M ρ) t k = true → PVsRel e N loc k vs → PVsRel e M (locR loc ρ) t vs
 | [], [], [], _, _ => trivial
 | _ :: _, _ :: _, _ :: _, h, hk => by
  simp only [all2, Bool.and_eq_true] at h
  exact ⟨ckPV_rel h.1 hk.1, ckPVs_rel h.2 hk.2⟩
 | [], _ :: _, _, h, _ => by simp [all2] at h
 | _ :: _, [], _, h, _ => by simp [all2] at h
 | [], [], _ :: _, _, hk => hk.elim
 | _ :: _, _ :: _, [], _, hk => hk.elim
theorem ckSV_rel {M : Nat} {t k : SV} {v : Value} (h : ckSV M ρ t k = true) (hk : k.rel e N loc v) : t.rel e M (locR loc ρ) v := by
 unfold ckSV at h
 split at h
 ·trivial
 ·exact hk
 ·exact ckPV_rel h hk
 ·obtain ⟨vs, h1, h2⟩ := hk
  exact ⟨vs, h1, ckPVs_rel h h2⟩
 ·simp only [Bool.and_eq_true] at h
  rw [gsSame_eq h.1]
  exact ⟨fun hg => ckPV_rel h.2 (hk.1 hg), hk.2⟩
 ·cases h
theorem ckFr_rel {M : Nat} {t k : List SV} {tm : Array Value} (h : all2 (ckSV M ρ) t k = true) (hk : FrRel e N loc k tm) : FrRel e M (locR loc ρ) t tm := by
 obtain ⟨h1, h2⟩ := all2_get h
 refine ⟨by rw [h1]; exact hk.len, fun i s v hs hv => ?_⟩
 obtain ⟨b, h3, h4⟩ := h2 i s hs
 exact ckSV_rel h4 (hk.at_ i b v h3 hv)
theorem ownPlaces_mem : ∀ {l : List Row} {b i x : Nat} {t : Row}, l[i]? = some t → t.owned = true → ρ (b + i) = some x → x ∈ ownPlaces ρ b l
 | y :: l, b, i, x, t, h, ho, hx => by
  cases i with
  | zero =>
   simp only [List.getElem?_cons_zero, Option.some.injEq] at h
   subst h
   unfold ownPlaces
   rw [Nat.add_zero] at hx
   rw [if_pos ho, hx]
   exact List.mem_cons_self ..
  | succ i =>
   have := ownPlaces_mem (l := l) (b := b + 1) (i := i) (by simpa using h) ho (by rw [← hx]; congr 1; omega)
   unfold ownPlaces
   split
   ·cases ρ b with
    | some z => exact List.mem_cons_of_mem _ this
    | none => exact this
   ·exact this
theorem ownPlaces_ne {l : List Row} {b i j x y : Nat} {t u : Row} (hn : nodupB (ownPlaces ρ b l) = true) (hij : i < j) (ht : l[i]? = some t) (hu : l[j]? = some u) (ot : t.owned = true) (ou : u.owned = true) (hx : ρ (b + i) = some x) (hy : ρ (b + j) = some y) : x ≠ y := by
 induction l generalizing b i j with
 | nil => simp at ht
 | cons z l ih =>
  obtain ⟨j, rfl⟩ : ∃ j', j = j' + 1 := ⟨j - 1, by omega⟩
  have hu' : l[j]? = some u := by simpa using hu
  have hy' : ρ (b + 1 + j) = some y := by rw [← hy]; congr 1; omega
  unfold ownPlaces at hn
  cases i with
  | zero =>
   simp only [List.getElem?_cons_zero, Option.some.injEq] at ht
   subst ht
   rw [Nat.add_zero] at hx
   rw [if_pos ot, hx] at hn
   simp only [optCons, nodupB, Bool.and_eq_true, List.all_eq_true, bne_iff_ne, ne_eq] at hn
   exact hn.1 y (ownPlaces_mem hu' ou hy')
  | succ i =>
   have hn' : nodupB (ownPlaces ρ (b + 1) l) = true := by
    split at hn
    ·cases hb : ρ b with
     | some z' =>
      rw [hb] at hn
      simp only [optCons, nodupB, Bool.and_eq_true] at hn
      exact hn.2
     | none => rw [hb] at hn; exact hn
    ·exact hn
   exact ih (i := i) (j := j) hn' (by omega) (by simpa using ht) hu' (by rw [← hx]; congr 1; omega) hy'
theorem ckRowsAt_get {M : Nat} {rows : List Row} : ∀ {l : List Row} {b i : Nat} {t : Row}, ckRowsAt M ρ rows b l = true → l[i]? = some t → ckRowAt M ρ rows (b + i) t = true
 | y :: l, b, i, t, h, ht => by
  simp only [ckRowsAt, Bool.and_eq_true] at h
  cases i with
  | zero => simp at ht; subst ht; exact h.1
  | succ i =>
   have := ckRowsAt_get h.2 (i := i) (by simpa using ht)
   rwa [show b + 1 + i = b + (i + 1) by omega] at this
theorem ckRows_ok {w : World} {B : Bd} {rows tr : List Row} (hck : ckRowsAt tr.length ρ rows 0 tr = true) (hnd : nodupB (ownPlaces ρ 0 tr) = true) (h : RowsOK e loc rows w B) : RowsOK e (locR loc ρ) tr w B := by
 have cases_ : ∀ (r : Nat) (t : Row), tr[r]? = some t → t.isDead = true ∨ (∃ r' s, ρ r = some r' ∧ rows[r']? = some s ∧ ckRow tr.length ρ t s = true) ∨ (ρ r = none ∧ ckEmpty t = true) := fun r t ht => by
  have := ckRowsAt_get hck ht
  rw [Nat.zero_add] at this
  unfold ckRowAt at this
  rw [Bool.or_eq_true] at this
  rcases this with h1 | h1
  ·exact .inl h1
  ·cases hr : ρ r with
   | none => rw [hr] at h1; exact .inr (.inr ⟨rfl, h1⟩)
   | some r' =>
    rw [hr] at h1
    simp only at h1
    cases hs : rows[r']? with
    | none => rw [hs] at h1; cases h1
    | some s => rw [hs] at h1; exact .inr (.inl ⟨r', s, rfl, hs, h1⟩)
 have dead_ : ∀ {t : Row}, t.isDead = true → t.own = false ∧ t.cells = [] ∧ t.lst = none := fun {t} ht => by
  simp only [Row.isDead, Bool.and_eq_true, Bool.not_eq_true', List.isEmpty_iff, Option.isNone_iff_eq_none] at ht
  exact ⟨ht.1.1, ht.1.2, ht.2⟩
 have empty_ : ∀ {t : Row}, ckEmpty t = true → t.own = false ∧ t.cells = [] ∧ ∃ q, t.lst = some q ∧ q.own = true ∧ q.x = .e ∧ q.n = .n 0 ∧ q.ss.length ≠ 0 := fun {t} ht => by
  unfold ckEmpty at ht
  simp only [Bool.and_eq_true, Bool.not_eq_true', List.isEmpty_iff] at ht
  obtain ⟨⟨h1, h2⟩, h3⟩ := ht
  cases hq : t.lst with
  | none => rw [hq] at h3; cases h3
  | some q =>
   rw [hq] at h3
   simp only [Bool.and_eq_true, bne_iff_ne, ne_eq] at h3
   obtain ⟨⟨⟨a1, a2⟩, a3⟩, a4⟩ := h3
   exact ⟨h1, h2, q, rfl, a1, L.same_eq a2, L.same_eq a3, a4⟩
 have row_ : ∀ {t s : Row}, ckRow tr.length ρ t s = true → t.own = s.own ∧ t.ty = s.ty ∧ t.es = s.es ∧ all2 (ckC tr.length ρ) t.cells s.cells = true ∧ t.lst = s.lst := fun {t s} ht => by
  unfold ckRow at ht
  simp only [Bool.and_eq_true, beq_iff_eq] at ht
  obtain ⟨⟨⟨⟨a1, a2⟩, a3⟩, a4⟩, a5⟩ := ht
  exact ⟨a1, a2, a3, a4, lstSame_eq a5⟩
 have own_ : ∀ (r : Nat) (t : Row), tr[r]? = some t → t.own = true ∨ lOwn (locR loc ρ) r t → t.owned = true ∧ ∃ r' s, ρ r = some r' ∧ rows[r']? = some s ∧ locR loc ρ r = loc r' ∧ (t.own = true → s.own = true) ∧ (lOwn (locR loc ρ) r t → lOwn loc r' s) := fun r t ht ho => by
  rcases cases_ r t ht with h1 | ⟨r', s, h1, h2, h3⟩ | ⟨h1, h2⟩
  ·obtain ⟨d1, d2, d3⟩ := dead_ h1
   rcases ho with ho | ⟨q, ho, _⟩
   ·rw [d1] at ho; cases ho
   ·rw [d3] at ho; cases ho
  ·obtain ⟨a1, a2, a3, a4, a5⟩ := row_ h3
   have hl := locR_some (loc := loc) h1
   refine ⟨?_, r', s, h1, h2, hl, fun h => by rw [← a1]; exact h, fun ⟨q, q1, q2, q3⟩ => ⟨q, by rw [← a5]; exact q1, q2, by rw [← hl]; exact q3⟩⟩
   unfold Row.owned
   rcases ho with ho | ⟨q, q1, q2, _⟩
   ·rw [ho]; rfl
   ·rw [q1, Bool.or_eq_true]; exact .inr q2
  ·obtain ⟨d1, d2, q, q1, q2, _⟩ := empty_ h2
   rcases ho with ho | ⟨q', _, _, q3⟩
   ·rw [d1] at ho; cases ho
   ·rw [locR_none h1] at q3; cases q3
 have diff_ : ∀ (r s : Nat) (t u : Row) (r' s' : Nat), tr[r]? = some t → tr[s]? = some u → t.owned = true → u.owned = true → ρ r = some r' → ρ s = some s' → r ≠ s → r' ≠ s' := fun r s t u r' s' ht hu ot ou hr hs hne => by
  rcases Nat.lt_or_gt_of_ne hne with h1 | h1
  ·exact ownPlaces_ne hnd h1 ht hu ot ou (by rw [Nat.zero_add]; exact hr) (by rw [Nat.zero_add]; exact hs)
  ·exact (ownPlaces_ne hnd h1 hu ht ou ot (by rw [Nat.zero_add]; exact hs) (by rw [Nat.zero_add]; exact hr)).symm
 refine ⟨fun r t ht => ?_, fun r t q ht hq => ?_, fun r s t u ht hu ot ou => ?_, fun r s t u ht hu ot ou hne => ?_⟩
 ·rcases cases_ r t ht with h1 | ⟨r', s, h1, h2, h3⟩ | ⟨h1, h2⟩
  ·obtain ⟨d1, d2, d3⟩ := dead_ h1
   unfold RowOK
   rw [if_neg (by simp [d1])]
   exact fun hc => absurd d2 hc
  ·obtain ⟨a1, a2, a3, a4, a5⟩ := row_ h3
   have hrow := h.row r' s h2
   unfold RowOK at hrow ⊢
   rw [locR_some h1, a1, a2, a3]
   split
   ·rename_i ho
    rw [if_pos ho] at hrow
    obtain ⟨b1, b2, b3, b4, vs, sp, b5, b6, b7⟩ := hrow
    exact ⟨b1, b2, b3, b4, vs, sp, b5, ckCs_rel a4 b6, b7⟩
   ·rename_i ho
    rw [if_neg ho] at hrow
    intro hc
    obtain ⟨l1, l2⟩ := all2_get a4
    obtain ⟨b1, b2, b3⟩ := hrow (fun h0 => hc (List.eq_nil_of_length_eq_zero (by rw [l1, h0]; rfl)))
    refine ⟨b1, b2, fun j c hj => ?_⟩
    obtain ⟨c', hc', hcc⟩ := l2 j c hj
    obtain ⟨v, hv, hr⟩ := b3 j c' hc'
    exact ⟨v, hv, ckC_rel hcc hr⟩
  ·obtain ⟨d1, d2, _⟩ := empty_ h2
   unfold RowOK
   rw [if_neg (by simp [d1])]
   exact fun hc => absurd d2 hc
 ·rcases cases_ r t ht with h1 | ⟨r', s, h1, h2, h3⟩ | ⟨h1, h2⟩
  ·rw [(dead_ h1).2.2] at hq; cases hq
  ·obtain ⟨a1, a2, a3, a4, a5⟩ := row_ h3
   rw [a5] at hq
   obtain ⟨k1, k2⟩ := h.lst r' s q h2 hq
   exact ⟨by rw [a1]; exact k1, k2.at_ (locR_some h1)⟩
  ·obtain ⟨d1, d2, q', q1, q2, q3, q4, q5⟩ := empty_ h2
   rw [q1] at hq
   injection hq with hq
   subst hq
   refine ⟨d1, [], 0, by rw [q3]; rfl, by simp, by rw [q4]; rfl, by omega, ?_⟩
   rw [if_pos q2, locR_none h1]
   rw [if_pos (show empLc.emp = true from rfl)]
   exact ⟨rfl, rfl⟩
 ·obtain ⟨o1, r', x, r1, r2, r3, r4, r5⟩ := own_ r t ht (.inr ot)
  have hou : u.own = true ∨ lOwn (locR loc ρ) s u := by
   rcases ou with ou | ou
   ·exact .inl ou
   ·exact .inr ou.1
  obtain ⟨p1, s', y, s1, s2, s3, s4, s5⟩ := own_ s u hu hou
  rw [r3, s3]
  refine h.lapart r' s' x y r2 s2 (r5 ot) ?_
  rcases ou with ou | ⟨ou, hne⟩
  ·exact .inl (s4 ou)
  ·exact .inr ⟨s5 ou, diff_ r s t u r' s' ht hu o1 p1 r1 s1 hne⟩
 ·obtain ⟨o1, r', x, r1, r2, r3, r4, r5⟩ := own_ r t ht (.inl ot)
  obtain ⟨p1, s', y, s1, s2, s3, s4, s5⟩ := own_ s u hu (.inl ou)
  rw [r3, s3]
  exact h.apart r' s' x y r2 s2 (r4 ot) (s4 ou) (diff_ r s t u r' s' ht hu o1 p1 r1 s1 hne)
theorem ckSt_sound {m : Nat} {t s : St} (h : ckSt ρ m t s = true) : m ≤ s.rows.length ∧ m ≤ t.rows.length ∧ LExt m loc (locR loc ρ) ∧
  (∀ tm, FrRel e s.rows.length loc s.fr tm → FrRel e t.rows.length (locR loc ρ) t.fr tm) ∧ ∀ w, Cls e w0 loc s.rows w → Cls e w0 (locR loc ρ) t.rows w := by
 unfold ckSt at h
 simp only [Bool.and_eq_true, decide_eq_true_eq] at h
 obtain ⟨⟨⟨⟨⟨h1, h2⟩, h3⟩, h4⟩, h5⟩, h6⟩ := h
 refine ⟨h5, h6, fun r hr => ?_, fun tm hf => ckFr_rel h1 hf, fun w hc => by obtain ⟨B, hB, hR, hbel⟩ := hc; exact ⟨B, hB, ckRows_ok h2 h3 hR, hbel⟩⟩
 unfold identB at h4
 rw [List.all_eq_true] at h4
 exact locR_some (by simpa using h4 r (by simpa using hr))
end
end Rx
namespace Rx
open Go Go.RowKit
def NdRef (bs : Nat) (n m : Nd) : Prop :=
 m.listed = n.listed ∧ m.g = n.g ∧ (bs ≤ n.rows.length → bs ≤ m.rows.length) ∧ ∀ (e : Nat → A) (w0 : W0) (loc : Loc) (tm : Array Value) (w : World), FrRel e n.rows.length loc n.fr tm → Cls e w0 loc n.rows w →
  ∃ loc', LExt bs loc loc' ∧ FrRel e m.rows.length loc' m.fr tm ∧ Cls e w0 loc' m.rows w
theorem NdRef.refl (bs : Nat) (n : Nd) : NdRef bs n n := ⟨rfl, rfl, id, fun e w0 loc tm w hf hc => ⟨loc, LExt.refl _ _, hf, hc⟩⟩
theorem fits_ref {bs : Nat} {m n : Nd} (hl : m.listed = n.listed) (h : m.fits bs n = true) : NdRef bs n m := by
 simp only [Nd.fits, Bool.and_eq_true, beq_iff_eq] at h
 obtain ⟨⟨⟨⟨h1, h2⟩, h3⟩, h4⟩, h5⟩ := h
 have hg : m.g = n.g := by
  obtain ⟨_, _, _, a, b, c, d⟩ := m
  obtain ⟨_, _, _, a', b', c', d'⟩ := n
  simp only at h1 h2 h3 h4
  rw [h1, defsSame_eq h2, L.beqs_eq h3, knownSame_eq h4]
 refine ⟨hl, hg, fun _ => ?_, fun e w0 loc tm w hf hc => ?_⟩
 ·exact (ckSt_sound (e := fun _ => .i 0) (loc := fun _ => default) (w0 := default) h5).2.1
 ·obtain ⟨k1, k2, k3, k4, k5⟩ := ckSt_sound (e := e) (loc := loc) (w0 := w0) h5
  exact ⟨_, k3, k4 tm hf, k5 w hc⟩
theorem insNd_mem {bs : Nat} {n : Nd} : ∀ {l r : List Nd}, insNd bs n l = some r → (∃ m ∈ r, NdRef bs n m) ∧ ∀ m ∈ l, m ∈ r
 | [], r, h => by
  simp only [insNd, Option.some.injEq] at h
  subst h
  exact ⟨⟨n, by simp, .refl _ _⟩, fun m hm => by cases hm⟩
 | m :: l, r, h => by
  simp only [insNd] at h
  split at h
  ·rename_i hb
   split at h
   ·rename_i hs
    injection h with h
    subst h
    refine ⟨⟨m, by simp, ?_⟩, fun x hx => hx⟩
    rw [Bool.or_eq_true] at hs
    rcases hs with hs | hs
    ·rw [← Nd.same_eq (boolsSame_eq hb) hs]; exact .refl _ _
    ·exact fits_ref (boolsSame_eq hb) hs
   ·cases h
  ·simp only [Option.bind_eq_bind, Option.bind_eq_some_iff, Option.some.injEq] at h
   obtain ⟨r', hr, rfl⟩ := h
   obtain ⟨⟨x, hx, h1⟩, h2⟩ := insNd_mem hr
   exact ⟨⟨x, by simp [hx], h1⟩, fun x hx => by
    rcases List.mem_cons.1 hx with rfl | hx
    ·simp
    ·simp [h2 x hx]⟩
theorem insAll_mem {bs : Nat} : ∀ {ns l r : List Nd}, insAll bs ns l = some r → (∀ m ∈ ns, ∃ m' ∈ r, NdRef bs m m') ∧ ∀ m ∈ l, m ∈ r
 | [], l, r, h => by
  simp only [insAll, Option.some.injEq] at h
  subst h
  exact ⟨fun m hm => (by cases hm), fun m hm => hm⟩
 | n :: ns, l, r, h => by
  simp only [insAll, Option.bind_eq_bind, Option.bind_eq_some_iff] at h
  obtain ⟨l', h1, h2⟩ := h
  obtain ⟨⟨x, hx, a1⟩, a2⟩ := insNd_mem h1
  obtain ⟨b1, b2⟩ := insAll_mem h2
  exact ⟨fun m hm => by
   rcases List.mem_cons.1 hm with rfl | hm
   ·exact ⟨x, b2 _ hx, a1⟩
   ·exact b1 m hm, fun m hm => b2 _ (a2 m hm)⟩
theorem stepAll_mem {X : Ctx} {inl : Inline} {ops : List Oper} {pc : L} {bs : Nat} : ∀ {l out r : List Nd}, stepAll X inl ops pc bs l out = some r → (∀ nd ∈ l, ∃ ns, succs X inl ops pc nd = some ns ∧ ∀ m ∈ ns, ∃ m' ∈ r, NdRef bs m m') ∧ ∀ m ∈ out, m ∈ r
 | [], out, r, h => by
  simp only [stepAll, Option.some.injEq] at h
  subst h
  exact ⟨fun nd hnd => (by cases hnd), fun m hm => hm⟩
 | nd :: l, out, r, h => by
  simp only [stepAll, Option.bind_eq_bind, Option.bind_eq_some_iff] at h
  obtain ⟨ns, h1, out', h2, h3⟩ := h
  obtain ⟨a1, a2⟩ := insAll_mem h2
  obtain ⟨b1, b2⟩ := stepAll_mem h3
  exact ⟨fun x hx => by
   rcases List.mem_cons.1 hx with rfl | hx
   ·exact ⟨ns, h1, fun m hm => by
     obtain ⟨m', h4, h5⟩ := a1 m hm
     exact ⟨m', b2 _ h4, h5⟩⟩
   ·exact b1 x hx, fun m hm => b2 _ (a2 m hm)⟩
end Rx
namespace Rx
open Go Go.RowKit
section
variable {T : Nat → List A → Bool × List A} {e : Nat → A} {n n' : Nat} {loc loc' : Loc} {P : Program} {X : Ctx} {w0 : W0}
variable {fr : List SV} {rows : List Row} {gs : List (L × Bool)} {pc : L} {o : Oper} {g : G} {inl : Inline}
theorem Oper.wp_then {K : Act → World → Prop} {Q : Exit → Act → World → Prop} {a : Act} {w : World} (h : o.wp P a w K (Exit.then K Q)) : o.wp P a w K Q := by
 unfold Oper.wp at *
 generalize (Go.execOp a.eval o).run P w = r at *
 cases r with
 | ok n w' =>
  cases n <;> simp only [Oper.upon] at h ⊢ <;> first | exact h | exact Calls.mono h (fun e w'' he => by cases e <;> exact he)
 | halt x w' => cases x <;> simp only [Oper.upon] at h ⊢ <;> exact h
theorem stepOne_sound (hX : XOK P T X) (hI : InlOK P T e w0 inl) {ops : List Oper} {nd nd' : Nd} {i : Nat} (h : stepOne X inl ops pc nd i = some nd') (hg : Good T e nd'.g) :
  nd'.listed = nd.listed.set i true ∧ Good T e nd.g ∧ ∀ (loc : Loc) (a : Act) (w : World) (K : Act → World → Prop) (Q : Exit → Act → World → Prop), (pc.ev e).bool = true → FrRel e nd.rows.length loc nd.fr a.tmps → Cls e w0 loc nd.rows w →
   (∀ (loc' : Loc) (a' : Act) (w' : World), LExt nd.rows.length loc loc' → nd.rows.length ≤ nd'.rows.length → FrRel e nd'.rows.length loc' nd'.fr a'.tmps → a'.defers = a.defers → Cls e w0 loc' nd'.rows w' → K a' w') → wpOp P ops.toArray Q i K a w := by
 simp only [stepOne, Option.bind_eq_bind, Option.bind_eq_some_iff] at h
 obtain ⟨o, ho, ⟨fr1, rows1, g1⟩, hex, h⟩ := h
 simp only at h
 split at h
 case isFalse => cases h
 injection h with h
 subst h
 obtain ⟨k1, k2⟩ := execOps_list hX hI hex hg
 refine ⟨rfl, k1, fun loc a w K Q hpc hf hw hK => ?_⟩
 have := k2 loc a w (Exit.then K Q) hpc hf hw hK
 unfold wpOp
 have ho' : ops.toArray[i]? = some o := by simpa using ho
 rw [ho']
 simp only
 unfold wpList at this
 split
 ·rename_i hwt
  rw [if_pos hwt] at this
  rcases this with h1 | h1
  ·exact .inl (Oper.wp_then h1)
  ·exact .inr h1
 ·rename_i hwt
  rw [if_neg hwt] at this
  exact this
theorem stepOne_len {ops : List Oper} {nd nd' : Nd} {i : Nat} (h : stepOne X inl ops pc nd i = some nd') : nd.rows.length ≤ nd'.rows.length := by
 simp only [stepOne, Option.bind_eq_bind, Option.bind_eq_some_iff] at h
 obtain ⟨o, ho, ⟨fr1, rows1, g1⟩, hex, h⟩ := h
 simp only at h
 split at h
 ·rename_i hle
  injection h with h
  subst h
  exact hle
 ·cases h
theorem mapO_mem {α β : Type} {f : α → Option β} : ∀ {l : List α} {r : List β}, mapO f l = some r → ∀ a ∈ l, ∃ b ∈ r, f a = some b
 | [], r, _, a, ha => by cases ha
 | x :: l, r, h, a, ha => by
  simp only [mapO, Option.bind_eq_bind, Option.bind_eq_some_iff, Option.some.injEq] at h
  obtain ⟨b, hb, r', hr, rfl⟩ := h
  rcases List.mem_cons.1 ha with rfl | ha
  ·exact ⟨b, by simp, hb⟩
  ·obtain ⟨b', h1, h2⟩ := mapO_mem hr a ha
   exact ⟨b', by simp [h1], h2⟩
theorem explore_sound (hX : XOK P T X) (hI : InlOK P T e w0 inl) {ops : List Oper} {bs : Nat} (hns : Region.noSelect ops.toArray = true) {E : Nd} (hE : Region.ready .any ops.toArray E.listed.toArray = []) (hg : Good T e E.g) :
  ∀ (k : Nat) (l : List Nd), explore X inl ops pc bs k l = some [E] → ∀ nd ∈ l, Good T e nd.g ∧
   (bs ≤ nd.rows.length → bs ≤ E.rows.length ∧ ∀ (loc : Loc) (a : Act) (w : World) (Q : Exit → Act → World → Prop), (pc.ev e).bool = true → FrRel e nd.rows.length loc nd.fr a.tmps → Cls e w0 loc nd.rows w →
    (∀ c a w, ¬ Q (.panic c) a w) → ¬ LetsOut Q →
    (∀ (loc' : Loc) (a' : Act) (w' : World), LExt bs loc loc' → FrRel e E.rows.length loc' E.fr a'.tmps → a'.defers = a.defers → Cls e w0 loc' E.rows w' → Q .normal a' w') →
     wpAny P .any ops.toArray Q k nd.listed.toArray a w)
 | 0, l, h, nd, hnd => by
  simp only [explore, Option.some.injEq] at h
  subst h
  simp only [List.mem_singleton] at hnd
  subst hnd
  exact ⟨hg, fun hb => ⟨hb, fun loc a w Q hpc hf hw _ _ hQ => ⟨hE, hQ loc a w (LExt.refl _ _) hf rfl hw⟩⟩⟩
 | k + 1, l, h, nd, hnd => by
  simp only [explore, Option.bind_eq_bind, Option.bind_eq_some_iff] at h
  obtain ⟨l', h1, h2⟩ := h
  obtain ⟨ns, hs, hmem⟩ := (stepAll_mem h1).1 nd hnd
  have ih := explore_sound hX hI hns hE hg k l' h2
  have hset : ∀ i, (nd.listed.set i true).toArray = nd.listed.toArray.setIfInBounds i true := fun i => by simp
  have step : ∀ i n, stepOne X inl ops pc nd i = some n → (∃ m' ∈ l', NdRef bs n m') → Good T e nd.g ∧ (bs ≤ nd.rows.length → nd.rows.length ≤ n.rows.length → bs ≤ E.rows.length) ∧ ∀ (loc : Loc) (a : Act) (w : World) (Q : Exit → Act → World → Prop), bs ≤ nd.rows.length → (pc.ev e).bool = true → FrRel e nd.rows.length loc nd.fr a.tmps → Cls e w0 loc nd.rows w →
    (∀ c a w, ¬ Q (.panic c) a w) → ¬ LetsOut Q →
    (∀ (loc' : Loc) (a' : Act) (w' : World), LExt bs loc loc' → FrRel e E.rows.length loc' E.fr a'.tmps → a'.defers = a.defers → Cls e w0 loc' E.rows w' → Q .normal a' w') →
     wpOp P ops.toArray Q i (wpAny P .any ops.toArray Q k (nd.listed.toArray.setIfInBounds i true)) a w := fun i n hn ⟨m, hm, r1, r2, r3, r4⟩ => by
   obtain ⟨i1, i2⟩ := ih m hm
   rw [r2] at i1
   obtain ⟨s1, s2, s3⟩ := stepOne_sound hX hI hn i1
   refine ⟨s2, fun hb hle => (i2 (r3 (Nat.le_trans hb hle))).1, fun loc a w Q hb hpc hf hw hp ho hQ => s3 loc a w _ Q hpc hf hw fun loc1 a1 w1 q1 q2 q3 q4 q5 => ?_⟩
   obtain ⟨loc2, z1, z2, z3⟩ := r4 e w0 loc1 a1.tmps w1 q3 q5
   have := (i2 (r3 (Nat.le_trans hb q2))).2 loc2 a1 w1 Q hpc z2 z3 hp ho fun loc' a' w' y1 y3 y4 y5 => hQ loc' a' w' (fun r hr => ((z1.trans y1 (Nat.le_refl _)) r hr).trans (q1 r (Nat.lt_of_lt_of_le hr hb))) y3 (y4.trans q4) y5
   rw [r1, s1, hset] at this
   exact this
  unfold succs at hs
  simp only at hs
  split at hs
  ·rename_i i hfind
   simp only [Option.bind_eq_bind, Option.bind_eq_some_iff, Option.some.injEq] at hs
   obtain ⟨n, hn, rfl⟩ := hs
   obtain ⟨s1, s0, s2⟩ := step i n hn (hmem n (by simp))
   have hready := List.mem_of_find?_eq_some hfind
   have hpure := List.find?_some hfind
   have hlen : nd.rows.length ≤ n.rows.length := stepOne_len hn
   refine ⟨s1, fun hb => ⟨s0 hb hlen, fun loc a w Q hpc hf hw hp ho hQ => ?_⟩⟩
   have hop := s2 loc a w Q hb hpc hf hw hp ho hQ
   unfold pureAt at hpure
   split at hpure
   ·rename_i o hoi
    have hoi' : ops.toArray[i]? = some o := by simpa using hoi
    have key : ∀ x, (∀ (ρ : Operand → Value), Go.execOp ρ o = pure (.value (ρ x))) → Region.free .any ops.toArray nd.listed.toArray i = true → wpAny P .any ops.toArray Q (k + 1) nd.listed.toArray a w := fun x hx hfree => by
     have hrun : ∀ w, (Go.execOp a.eval o).run P w = .ok (.value (a.eval x)) w := fun w => by rw [hx]; simp
     unfold wpOp at hop
     rw [hoi'] at hop
     simp only at hop
     by_cases hwt : Region.wanted o (yielded ops.toArray a.tmps) = true
     ·rw [if_pos hwt] at hop
      refine wpAny_take hoi' hns hfree (by simpa using hready) (fun c a w h0 => absurd h0 (hp _ _ _)) (v := a.eval x) (.inl ⟨hwt, hrun⟩) ?_
      rcases hop with h1 | h1
      ·unfold Oper.wp at h1
       rw [hrun] at h1
       exact h1
      ·exact absurd h1.2 ho
     ·rw [if_neg hwt] at hop
      exact wpAny_take hoi' hns hfree (by simpa using hready) (fun c a w h0 => absurd h0 (hp _ _ _)) (v := undef) (.inr ⟨by simpa using hwt, rfl⟩) hop
    split at hpure
    ·rename_i x hox
     exact key x (fun ρ => by simp [Go.execOp, hox]) hpure
    ·rename_i x hox
     exact key x (fun ρ => by simp [Go.execOp, hox]) hpure
    ·cases hpure
   ·cases hpure
  ·split at hs
   ·cases hs
   ·rename_i hne
    have hne : Region.ready .any ops.toArray nd.listed.toArray ≠ [] := by simpa using hne
    have hall := mapO_mem hs
    obtain ⟨i0, hi0⟩ := List.exists_mem_of_ne_nil _ hne
    obtain ⟨n0, hn1, hn2⟩ := hall i0 hi0
    refine ⟨(step i0 n0 hn2 (hmem n0 hn1)).1, fun hb => ⟨(step i0 n0 hn2 (hmem n0 hn1)).2.1 hb (stepOne_len hn2), fun loc a w Q hpc hf hw hp ho hQ => ⟨fun h0 => absurd h0 hne, fun i hi => ?_⟩⟩⟩
    obtain ⟨n, hn1, hn2⟩ := hall i hi
    exact (step i n hn2 (hmem n hn1)).2.2 loc a w Q hb hpc hf hw hp ho hQ
theorem execRegion_sound (hX : XOK P T X) (hI : InlOK P T e w0 inl) {ops : List Oper} {draw : Bool} {S S' : St} {g g' : G} (h : execRegion X inl ops draw S g = some (S', g')) (hg : Good T e g') :
  Good T e g ∧ S'.pc = S.pc ∧ ∀ (id : Nat) (loc : Loc) (a : Act) (w : World) (Q : Exit → Act → World → Prop), (S.pc.ev e).bool = true → FrRel e S.rows.length loc S.fr a.tmps → Cls e w0 loc S.rows w →
   (∀ (loc' : Loc) (a' : Act) (w' : World), LExt S.rows.length loc loc' → S.rows.length ≤ S'.rows.length → FrRel e S'.rows.length loc' S'.fr a'.tmps → a'.defers = a.defers → Cls e w0 loc' S'.rows w' → Q .normal a' w') →
    (Code.region id ops.toArray draw).wp P Q a w := by
 have drew : ∀ {loc : Loc} {rows : List Row} {w : World}, Cls e w0 loc rows w → Cls e w0 loc rows { w with drawn := w.drawn + 1 } := fun {loc rows w} hw =>
  hw.of_below ⟨rfl, rfl, rfl, Nat.le_refl _, fun _ _ => rfl⟩
 unfold execRegion at h
 split at h
 ·rename_i hd
  subst hd
  split at h
  ·rename_i r hq
   injection h with h
   subst h
   unfold exQuiet at hq
   split at hq
   ·split at hq
    ·rename_i hB
     simp only [Option.bind_eq_bind, Option.bind_eq_some_iff] at hq
     obtain ⟨⟨fr1, rows1, g1⟩, h1, h⟩ := hq
     simp only [Option.some.injEq, Prod.mk.injEq] at h
     obtain ⟨rfl, rfl⟩ := h
     obtain ⟨k1, rfl, k3⟩ := execOps_quiet hX hI h1 hg
     refine ⟨k1, rfl, fun id loc a w Q hpc hf hw hQ => ?_⟩
     refine wp_region_quiet (C := Cls e w0 loc S.rows) hX.mixed hB (drew hw) ?_
     exact k3 loc a w _ hpc hf hw fun a' hf' hd w' hw' => hQ loc a' w' (LExt.refl _ _) (Nat.le_refl _) hf' hd hw'
    ·cases hq
   ·cases hq
  ·split at h
   ·rename_i r hq
    injection h with h
    subst h
    unfold exSplit at hq
    split at hq
    ·rename_i hB
     simp only [Option.bind_eq_bind, Option.bind_eq_some_iff] at hq
     obtain ⟨⟨fr1, rows1, g1⟩, h1, ⟨fr2, rows2, g2⟩, h2, h⟩ := hq
     simp only [Option.some.injEq, Prod.mk.injEq] at h
     obtain ⟨rfl, rfl⟩ := h
     obtain ⟨k1, k2⟩ := execOps_list hX hI h2 hg
     obtain ⟨q1, rfl, q3⟩ := execOps_quiet hX hI h1 k1
     refine ⟨q1, rfl, fun id loc a w Q hpc hf hw hQ => ?_⟩
     refine wp_region_split (Cl := Cls e w0 loc S.rows) hX.mixed hB (drew hw) ?_
     exact q3 loc a w _ hpc hf hw fun a' hf' hd w' hw' => k2 loc a' w' Q hpc hf' hw' fun loc' a'' w'' hx hl hf'' hd' hw'' => hQ loc' a'' w'' hx hl hf'' (by rw [hd', hd]) hw''
    ·cases hq
   ·unfold exAny at h
    split at h
    ·rename_i hns
     split at h
     ·rename_i E hex
      split at h
      ·rename_i hE
       simp only [Option.some.injEq, Prod.mk.injEq] at h
       obtain ⟨rfl, rfl⟩ := h
       have hE : Region.ready .any ops.toArray E.listed.toArray = [] := by simpa using hE
       obtain ⟨k1, k2⟩ := explore_sound hX hI hns hE hg _ _ hex _ (List.mem_singleton.2 rfl)
       obtain ⟨k2, k3⟩ := k2 (Nat.le_refl _)
       refine ⟨k1, rfl, fun id loc a w Q hpc hf hw hQ => ?_⟩
       refine wp_mono (Q := fun e a w => match e with | .normal => Q .normal a w | _ => False) ?_ (fun e a w h0 => by cases e <;> first | exact h0 | exact h0.elim)
       refine wp_region_any hX.mixed ?_
       have := k3 loc a { w with drawn := w.drawn + 1 } (fun e a w => match e with | .normal => Q .normal a w | _ => False) hpc hf (drew hw) (fun _ _ _ h0 => h0) (fun ⟨_, _, h0⟩ => h0) (fun loc' a' w' y1 y2 y3 y4 => hQ loc' a' w' y1 k2 y2 y3 y4)
       simpa using this
      ·cases h
     ·cases h
    ·cases h
 ·rename_i hd
  have hd : draw = false := by simpa using hd
  subst hd
  simp only [Option.bind_eq_bind, Option.bind_eq_some_iff] at h
  obtain ⟨⟨fr1, rows1, g1⟩, h1, h⟩ := h
  simp only [Option.some.injEq, Prod.mk.injEq] at h
  obtain ⟨rfl, rfl⟩ := h
  obtain ⟨k1, k2⟩ := execOps_list hX hI h1 hg
  exact ⟨k1, rfl, fun id loc a w Q hpc hf hw hQ => wp_region_lit (k2 loc a w Q hpc hf hw hQ)⟩
end
end Rx
namespace Rx
open Go Go.RowKit
section
variable {T : Nat → List A → Bool × List A} {e : Nat → A} {n n' : Nat} {loc loc' : Loc} {P : Program} {X : Ctx} {w0 : W0}
theorem Xit.same_iff {x y : Xit} : x.same y = true ↔ x = y := by
 cases x <;> cases y <;> simp [Xit.same]
theorem get_self {x : Xit} {s : St} {l : Outs} : Outs.get x ((x, s) :: l) = some s := by
 simp [Outs.get, Xit.same_iff]
theorem get_ne {x y : Xit} {s : St} {l : Outs} (h : x ≠ y) : Outs.get x ((y, s) :: l) = Outs.get x l := by
 have : x.same y = false := by
  cases hs : x.same y with
  | false => rfl
  | true => exact absurd (Xit.same_iff.1 hs) h
 simp [Outs.get, this]
theorem get_drop_ne {x y : Xit} (h : x ≠ y) : ∀ {l : Outs}, Outs.get x (Outs.drop y l) = Outs.get x l
 | [] => rfl
 | (z, s) :: l => by
  unfold Outs.drop
  split
  ·rename_i hz
   have hz := Xit.same_iff.1 hz
   subst hz
   rw [get_ne h, get_drop_ne h]
  ·by_cases hxz : x = z
   ·subst hxz
    rw [get_self, get_self]
   ·rw [get_ne hxz, get_ne hxz, get_drop_ne h]
theorem get_drop {x : Xit} : ∀ {l : Outs}, Outs.get x (Outs.drop x l) = none
 | [] => rfl
 | (z, s) :: l => by
  unfold Outs.drop
  split
  ·exact get_drop
  ·rename_i hz
   rw [get_ne (fun h0 => hz (Xit.same_iff.2 h0)), get_drop]
def Ref (e : Nat → A) (w0 : W0) (s u : St) : Prop :=
 ∀ (loc : Loc) (tm : Array Value) (w : World), FrRel e s.rows.length loc s.fr tm → Cls e w0 loc s.rows w → ∃ loc' : Loc, LExt s.rows.length loc loc' ∧ s.rows.length ≤ u.rows.length ∧ FrRel e u.rows.length loc' u.fr tm ∧ Cls e w0 loc' u.rows w
theorem Ref.refl (s : St) : Ref e w0 s s := fun loc _ _ h h' => ⟨loc, LExt.refl _ _, Nat.le_refl _, h, h'⟩
theorem Ref.pc {s : St} (pc : L) : Ref e w0 s { s with pc } := fun loc _ _ h h' => ⟨loc, LExt.refl _ _, Nat.le_refl _, h, h'⟩
theorem Ref.trans {s t u : St} (h1 : Ref e w0 s t) (h2 : Ref e w0 t u) : Ref e w0 s u := fun loc tm w a b => by
 obtain ⟨l1, x1, n1, f1, c1⟩ := h1 loc tm w a b
 obtain ⟨l2, x2, n2, f2, c2⟩ := h2 l1 tm w f1 c1
 exact ⟨l2, x1.trans x2 n1, Nat.le_trans n1 n2, f2, c2⟩
theorem mvK_rel {N r R : Nat} {k : K} {v : Value} (h : k.rel e N loc v) (hR : N ≤ R) : (mvK r R k).rel e (R + 1) (locNew loc R (loc r)) v := by
 have hx : LExt N loc (locNew loc R (loc r)) := fun s hs => by simp [locNew, Nat.ne_of_lt (Nat.lt_of_lt_of_le hs hR)]
 unfold mvK
 split
 ·rename_i r' m
  split
  ·rename_i hr
   have hr : r' = r := by simpa using hr
   subst hr
   obtain ⟨h1, h2, h3⟩ := h
   simp only [K.ok] at h1
   refine ⟨⟨by omega, h1.2.1, fun he => ?_⟩, h2, .inr ?_⟩
   ·rw [locNew_at] at he ⊢
    exact h1.2.2 he
   ·rcases h3 with h3 | h3
    ·cases h3
    ·rw [h3]
     simp only [K.sem]
     rw [locNew_at]
  ·exact K.rel_ext h hx (by omega)
 ·exact K.rel_ext h hx (by omega)
theorem mvC_rel {N r R : Nat} {k : C} {v : Value} (h : k.rel e N loc v) (hR : N ≤ R) : (mvC r R k).rel e (R + 1) (locNew loc R (loc r)) v := by
 cases k with
 | k x => exact mvK_rel h hR
 | clo f a b =>
  have hx : LExt N loc (locNew loc R (loc r)) := fun s hs => by simp [locNew, Nat.ne_of_lt (Nat.lt_of_lt_of_le hs hR)]
  exact C.rel_ext h hx (by omega)
 | cfn x f h' => exact h
theorem mvCs_rel {N r R : Nat} (hR : N ≤ R) : ∀ {l : List C} {vs : List Value}, CsRel e N loc l vs → CsRel e (R + 1) (locNew loc R (loc r)) (l.map (mvC r R)) vs
 | [], [], _ => trivial
 | _ :: _, _ :: _, h => ⟨mvC_rel h.1 hR, mvCs_rel hR h.2⟩
theorem mvPV_rel {N r R : Nat} {p : PV} {v : Value} (h : p.rel e N loc v) (hR : N ≤ R) : (mvPV r R p).rel e (R + 1) (locNew loc R (loc r)) v := by
 cases p with
 | one c => exact mvC_rel h hR
 | agg l => obtain ⟨vs, h1, h2⟩ := h; exact ⟨vs, h1, mvCs_rel hR h2⟩
theorem mvPVs_rel {N r R : Nat} (hR : N ≤ R) : ∀ {l : List PV} {vs : List Value}, PVsRel e N loc l vs → PVsRel e (R + 1) (locNew loc R (loc r)) (l.map (mvPV r R)) vs
 | [], [], _ => trivial
 | _ :: _, _ :: _, h => ⟨mvPV_rel h.1 hR, mvPVs_rel hR h.2⟩
theorem mvSV_rel {N r R : Nat} {p : SV} {v : Value} (h : p.rel e N loc v) (hR : N ≤ R) : (mvSV r R p).rel e (R + 1) (locNew loc R (loc r)) v := by
 cases p with
 | pv p => exact mvPV_rel h hR
 | tup l => obtain ⟨vs, h1, h2⟩ := h; exact ⟨vs, h1, mvPVs_rel hR h2⟩
 | cond gs p => exact ⟨fun hg => mvPV_rel (h.1 hg) hR, h.2⟩
 | undef => exact h
 | junk => trivial
theorem RowsOK.pad {rows : List Row} {w : World} {B : Bd} (h : RowsOK e loc rows w B) (R : Nat) : RowsOK e loc (padRows rows R) w B := by
 have split_ : ∀ (s : Nat) (y : Row), (padRows rows R)[s]? = some y → rows[s]? = some y ∨ y = Row.dead := fun s y hs => by
  unfold padRows at hs
  rw [List.getElem?_append] at hs
  split at hs
  ·exact .inl hs
  ·have := List.mem_of_getElem? hs
   rw [List.mem_replicate] at this
   exact .inr this.2
 have own_ : ∀ (s : Nat) (y : Row), (padRows rows R)[s]? = some y → (y.own = true ∨ y.lst ≠ none) → rows[s]? = some y := fun s y hs hy => by
  rcases split_ s y hs with h1 | rfl
  ·exact h1
  ·simp [Row.dead] at hy
 refine ⟨fun s y hs => ?_, fun s y q hs hq => h.lst s y q (own_ s y hs (.inr (by simp [hq]))) hq, fun s t x y hs ht ox oy => ?_, fun s t x y hs ht ox oy hne => h.apart s t x y (own_ s x hs (.inl ox)) (own_ t y ht (.inl oy)) ox oy hne⟩
 ·rcases split_ s y hs with h1 | rfl
  ·exact (h.row s y h1).ext (lt_of_get h1) (LExt.refl _ _) (by simp [padRows])
  ·exact Row.dead_ok
 ·obtain ⟨q, q1, q2, q3⟩ := ox
  refine h.lapart s t x y (own_ s x hs (.inr (by simp [q1]))) (own_ t y ht ?_) ⟨q, q1, q2, q3⟩ oy
  rcases oy with oy | ⟨⟨p, p1, _⟩, _⟩
  ·exact .inl oy
  ·exact .inr (by simp [p1])
theorem mvSt_pc {r R : Nat} {s : St} : (mvSt r R s).pc = s.pc := by
 unfold mvSt
 split
 ·split
  ·split <;> rfl
  ·rfl
 ·rfl
theorem mvSt_len {r R : Nat} {s : St} (h : s.rows.length ≤ R) : (mvSt r R s).rows.length ≤ R + 1 := by
 unfold mvSt
 split
 ·split
  ·split
   ·simp [newLst, padRows]; omega
   ·omega
  ·omega
 ·omega
theorem mvSt_ref {r R : Nat} {s : St} : Ref e w0 s (mvSt r R s) := by
 unfold mvSt
 split
 ·rename_i row hrow
  split
  ·rename_i q hq
   split
   ·rename_i hc
    simp only [Bool.and_eq_true, decide_eq_true_eq] at hc
    obtain ⟨c1, c2⟩ := hc
    intro loc tm w hf hcl
    have hlen : (padRows (s.rows.set r Row.dead) R).length = R := by simp [padRows]; omega
    obtain ⟨B, hB, hR, hbel⟩ := hcl
    have hl := (hR.lst r row q hrow hq).2
    have hr1 := lt_of_get hrow
    have hadd := ((hR.kill r).pad R).addL (x := loc r) (q := q) c1 (fun he s' y hs ho => ?_) (hl.at_ (by rw [hlen]; exact locNew_at _ _ _))
    ·rw [hlen] at hadd
     refine ⟨locNew loc R (loc r), fun s' hs' => by simp [locNew, Nat.ne_of_lt (Nat.lt_of_lt_of_le hs' c2)], by simp only [newLst, List.length_append, hlen]; simp; omega, ?_, B, hB, hadd, hbel⟩
     have hlen2 : (newLst (padRows (s.rows.set r Row.dead) R) q).length = R + 1 := by simp [newLst, hlen]
     rw [hlen2]
     refine ⟨by simpa using hf.len, fun i t v ht hv => ?_⟩
     rw [List.getElem?_map] at ht
     cases hs : s.fr[i]? with
     | none => rw [hs] at ht; cases ht
     | some x =>
      rw [hs] at ht
      simp only [Option.map_some, Option.some.injEq] at ht
      subst ht
      exact mvSV_rel (hf.at_ i x v hs hv) c2
    ·have hy : s' ≠ r ∧ s.rows[s']? = some y := by
      unfold padRows at hs
      rw [List.getElem?_append] at hs
      split at hs
      ·by_cases hsr : s' = r
       ·subst hsr
        rw [List.getElem?_set_self hr1] at hs
        injection hs with hs
        subst hs
        rcases ho with ho | ⟨_, ho, _⟩ <;> simp [Row.dead] at ho
       ·exact ⟨hsr, by rwa [List.getElem?_set_ne (Ne.symm hsr)] at hs⟩
      ·have := List.mem_of_getElem? hs
       rw [List.mem_replicate] at this
       rw [this.2] at ho
       rcases ho with ho | ⟨_, ho, _⟩ <;> simp [Row.dead] at ho
     refine (hR.lapart r s' row y hrow hy.2 ⟨q, hq, c1, he⟩ ?_).symm
     rcases ho with ho | ho
     ·exact .inl ho
     ·exact .inr ⟨ho, Ne.symm hy.1⟩
   ·exact Ref.refl _
  ·exact Ref.refl _
 ·exact Ref.refl _
theorem nilSt_pc {i R : Nat} {q : Option Lst} {s : St} : (nilSt i R q s).pc = s.pc := by
 unfold nilSt
 split
 ·split
  ·split <;> rfl
  ·rfl
 ·rfl
theorem nilSt_len {i R : Nat} {q : Option Lst} {s : St} (h : s.rows.length ≤ R) : (nilSt i R q s).rows.length ≤ R + 1 := by
 unfold nilSt
 split
 ·split
  ·split
   ·simp [newLst, padRows]; omega
   ·omega
  ·omega
 ·omega
theorem nilSt_ref {i R : Nat} {o : Option Lst} {s : St} : Ref e w0 s (nilSt i R o s) := by
 unfold nilSt
 split
 ·rename_i q
  split
  ·rename_i hi
   split
   ·rename_i hc
    simp only [Bool.and_eq_true, decide_eq_true_eq, bne_iff_ne, ne_eq] at hc
    obtain ⟨⟨c0, c1⟩, c2⟩ := hc
    intro loc tm w hf hcl
    have hlen : (padRows s.rows R).length = R := by simp [padRows]; omega
    obtain ⟨B, hB, hR, hbel⟩ := hcl
    have hadd := (hR.pad R).addL (x := empLc) (q := { own := true, ty := q.ty, ss := q.ss, x := .e, n := .n 0 }) rfl (fun he => by cases he) (by
     refine ⟨[], 0, rfl, by simp, rfl, Nat.pos_of_ne_zero c1, ?_⟩
     rw [if_pos rfl, locNew_at, if_pos (show empLc.emp = true from rfl)]
     exact ⟨rfl, rfl⟩)
    rw [hlen] at hadd
    have hx : LExt s.rows.length loc (locNew loc R empLc) := fun s' hs' => by simp [locNew, Nat.ne_of_lt (Nat.lt_of_lt_of_le hs' c2)]
    have hlen2 : (newLst (padRows s.rows R) { own := true, ty := q.ty, ss := q.ss, x := .e, n := .n 0 }).length = R + 1 := by simp [newLst, hlen]
    refine ⟨locNew loc R empLc, hx, by show s.rows.length ≤ (newLst _ _).length; rw [hlen2]; exact Nat.le_succ_of_le c2, ?_, B, hB, hadd, hbel⟩
    show FrRel e (newLst _ _).length _ _ _
    rw [hlen2]
    refine ⟨by simpa using hf.len, fun j t v ht hv => ?_⟩
    by_cases hj : i = j
    ·subst hj
     rw [List.getElem?_set_self (lt_of_get hi)] at ht
     injection ht with ht
     subst ht
     have := hf.at_ i _ v hi hv
     have hv' : v = .slice none 0 0 := by
      have h3 := this.2.2
      rcases h3 with h3 | h3
      ·cases h3
      ·exact h3
     refine ⟨⟨by omega, by simp, fun _ => ⟨by rw [locNew_at]; rfl, by simp⟩⟩, this.2.1, .inr ?_⟩
     rw [hv']
     simp only [K.sem]
     rw [locNew_at]
     rfl
    ·rw [List.getElem?_set_ne hj] at ht
     exact SV.rel_ext (hf.at_ j t v ht hv) hx (by omega)
   ·exact Ref.refl _
  ·exact Ref.refl _
 ·exact Ref.refl _
theorem alSt_pc {x : Nat × Bool} {R : Nat} {q : Option Lst} {s : St} : (alSt x R q s).pc = s.pc := by
 unfold alSt
 split
 ·exact mvSt_pc
 ·exact nilSt_pc
theorem alSt_len {x : Nat × Bool} {R : Nat} {q : Option Lst} {s : St} (h : s.rows.length ≤ R) : (alSt x R q s).rows.length ≤ R + 1 := by
 unfold alSt
 split
 ·exact mvSt_len h
 ·exact nilSt_len h
theorem alSt_ref {x : Nat × Bool} {R : Nat} {q : Option Lst} {s : St} : Ref e w0 s (alSt x R q s) := by
 unfold alSt
 split
 ·exact mvSt_ref
 ·exact nilSt_ref
theorem alignSt_ref : ∀ {l : List ((Nat × Bool) × (Nat × Bool))} {R : Nat} {s t : St}, s.rows.length ≤ R → t.rows.length ≤ R →
  Ref e w0 s (alignSt l R (s, t)).1 ∧ Ref e w0 t (alignSt l R (s, t)).2 ∧ (alignSt l R (s, t)).1.pc = s.pc ∧ (alignSt l R (s, t)).2.pc = t.pc
 | [], R, s, t, _, _ => ⟨Ref.refl _, Ref.refl _, rfl, rfl⟩
 | (a, b) :: l, R, s, t, hs, ht => by
  obtain ⟨h1, h2, h3, h4⟩ := alignSt_ref (l := l) (R := R + 1) (s := alSt a R (lstAt b t) s) (t := alSt b R (lstAt a s) t) (alSt_len hs) (alSt_len ht)
  exact ⟨alSt_ref.trans h1, alSt_ref.trans h2, h3.trans alSt_pc, h4.trans alSt_pc⟩
theorem RowsOK.recell {rows rows' : List Row} {w : World} {B : Bd} (h : RowsOK e loc rows w B) (hl : rows'.length = rows.length)
  (hr : ∀ (r : Nat) x', rows'[r]? = some x' → ∃ x, rows[r]? = some x ∧ x'.own = x.own ∧ x'.ty = x.ty ∧ x'.es = x.es ∧ x'.lst = x.lst ∧ (x' = x ∨ (x.own = true ∧ ∀ vs, CsRel e rows.length loc x.cells vs → CsRel e rows.length loc x'.cells vs))) : RowsOK e loc rows' w B := by
 have lo : ∀ {r : Nat} {x x' : Row}, x'.lst = x.lst → lOwn loc r x' → lOwn loc r x := fun {r x x'} hx ⟨q, q1, q2, q3⟩ => ⟨q, by rw [← hx]; exact q1, q2, q3⟩
 refine ⟨fun r x' hx => ?_, fun r x' q hx hq => ?_, fun r s x' y' hx hy ox oy => ?_, fun r s x' y' hx hy ox oy hne => ?_⟩
 ·obtain ⟨x, h1, h2, h3, h4, h5, h6⟩ := hr r x' hx
  rcases h6 with rfl | ⟨h6, h7⟩
  ·rw [hl]; exact h.row r _ h1
  ·have := h.row r x h1
   unfold RowOK at this ⊢
   rw [if_pos h6] at this
   rw [if_pos (h2.trans h6), h3, h4, hl]
   obtain ⟨a1, a2, a3, a4, vs, sp, a5, a6, a7⟩ := this
   exact ⟨a1, a2, a3, a4, vs, sp, a5, h7 vs a6, a7⟩
 ·obtain ⟨x, h1, h2, h3, h4, h5, h6⟩ := hr r x' hx
  rw [h5] at hq
  obtain ⟨k1, k2⟩ := h.lst r x q h1 hq
  exact ⟨h2.trans k1, k2⟩
 ·obtain ⟨x, h1, h2, _, _, h5, _⟩ := hr r x' hx
  obtain ⟨y, g1, g2, _, _, g5, _⟩ := hr s y' hy
  refine h.lapart r s x y h1 g1 (lo h5 ox) ?_
  rcases oy with oy | ⟨oy, hne⟩
  ·exact .inl (g2.symm.trans oy)
  ·exact .inr ⟨lo g5 oy, hne⟩
 ·obtain ⟨x, h1, h2, _⟩ := hr r x' hx
  obtain ⟨y, g1, g2, _⟩ := hr s y' hy
  exact h.apart r s x y h1 g1 (h2.symm.trans ox) (g2.symm.trans oy) hne
section
variable {N r R : Nat} {q : L}
theorem fzK_rel (hq : ∀ (v : Value), (K.lsl r q).rel e N loc v → (K.fsl R q).rel e N loc v) {k : K} {v : Value} (h : k.rel e N loc v) : (fzK r R q k).rel e N loc v := by
 unfold fzK
 split
 ·split
  ·rename_i hr
   have hr := eq_of_beq hr
   subst hr
   split
   ·rename_i hn
    have := L.same_eq hn
    subst this
    exact hq v h
   ·exact K.rel_junk h
  ·exact h
 ·exact h
theorem fzC_rel (hq : ∀ (v : Value), (K.lsl r q).rel e N loc v → (K.fsl R q).rel e N loc v) {k : C} {v : Value} (h : k.rel e N loc v) : (fzC r R q k).rel e N loc v := by
 cases k with
 | k x => exact fzK_rel hq h
 | clo f a b => exact h
 | cfn x f h' => exact h
theorem fzCs_rel (hq : ∀ (v : Value), (K.lsl r q).rel e N loc v → (K.fsl R q).rel e N loc v) : ∀ {l : List C} {vs : List Value}, CsRel e N loc l vs → CsRel e N loc (l.map (fzC r R q)) vs
 | [], [], _ => trivial
 | _ :: _, _ :: _, h => ⟨fzC_rel hq h.1, fzCs_rel hq h.2⟩
theorem fzPV_rel (hq : ∀ (v : Value), (K.lsl r q).rel e N loc v → (K.fsl R q).rel e N loc v) {p : PV} {v : Value} (h : p.rel e N loc v) : (fzPV r R q p).rel e N loc v := by
 cases p with
 | one c => exact fzC_rel hq h
 | agg l => obtain ⟨vs, h1, h2⟩ := h; exact ⟨vs, h1, fzCs_rel hq h2⟩
theorem fzPVs_rel (hq : ∀ (v : Value), (K.lsl r q).rel e N loc v → (K.fsl R q).rel e N loc v) : ∀ {l : List PV} {vs : List Value}, PVsRel e N loc l vs → PVsRel e N loc (l.map (fzPV r R q)) vs
 | [], [], _ => trivial
 | _ :: _, _ :: _, h => ⟨fzPV_rel hq h.1, fzPVs_rel hq h.2⟩
theorem fzSV_rel (hq : ∀ (v : Value), (K.lsl r q).rel e N loc v → (K.fsl R q).rel e N loc v) {p : SV} {v : Value} (h : p.rel e N loc v) : (fzSV r R q p).rel e N loc v := by
 cases p with
 | pv p => exact fzPV_rel hq h
 | tup l => obtain ⟨vs, h1, h2⟩ := h; exact ⟨vs, h1, fzPVs_rel hq h2⟩
 | cond gs p => exact ⟨fun hg => fzPV_rel hq (h.1 hg), h.2⟩
 | undef => exact h
 | junk => trivial
end
theorem frzSt_pc {r R : Nat} {s : St} : (frzSt r R s).pc = s.pc := by
 unfold frzSt
 split
 ·split
  ·split <;> rfl
  ·rfl
 ·rfl
theorem frzSt_len {r R : Nat} {s : St} (h : s.rows.length ≤ R) : (frzSt r R s).rows.length ≤ R + 1 := by
 unfold frzSt
 split
 ·split
  ·split
   ·simp [padRows]; omega
   ·omega
  ·omega
 ·omega
theorem padRows_len {l : List Row} {R : Nat} (h : l.length ≤ R) : (padRows l R).length = R := by simp [padRows]; omega
theorem Ref.addF {s : St} {R : Nat} {x : Row} {fr : List SV} {rows : List Row} {pc : L} (hR : s.rows.length ≤ R)
  (hrl : rows.length = R + 1)
  (h : ∀ (loc : Loc) (tm : Array Value) (w : World) (B : Bd), FrRel e s.rows.length loc s.fr tm → RowsOK e loc s.rows w B → B.le w → ∃ (F : Nat → Prop) (v : Value), (∀ k, B.F k → F k) ∧ (∀ k, F k → B.F k ∨ (B.n ≤ k ∧ k < w.heap.size)) ∧ ∃ rows0 : List Row, rows0.length ≤ R ∧
   RowsOK e loc rows0 w ⟨B.n, F⟩ ∧ FRow e (memB ⟨B.n, F⟩ w) x v ∧
   (∀ loc', LExt R loc loc' → loc' R = lcOf v → FrRel e (R + 1) loc' s.fr tm → RowsOK e loc' (padRows rows0 R ++ [x]) w ⟨B.n, F⟩ → FrRel e (R + 1) loc' fr tm ∧ RowsOK e loc' rows w ⟨B.n, F⟩)) : Ref e w0 s ⟨fr, rows, pc⟩ := by
 intro loc tm w hf hcl
 obtain ⟨B, ⟨hBn, hBF, hBl⟩, hR0, hbel⟩ := hcl
 obtain ⟨F, v, f1, f2, rows0, hl0, hR1, hx, hfin⟩ := h loc tm w B hf hR0 hBl
 have hpl := padRows_len hl0
 have hadd := (hR1.pad R).addF (news := [x]) (vs := [v]) fun t row ht => by
  cases t with
  | zero =>
   simp only [List.getElem?_cons_zero, Option.some.injEq] at ht
   subst ht
   exact ⟨v, rfl, hx⟩
  | succ t => simp at ht
 rw [hpl] at hadd
 have hx1 : LExt R loc (locAdd loc R [v]) := locAdd_ext loc R [v]
 have hat : locAdd loc R [v] R = lcOf v := by have := locAdd_at loc R [v] (t := 0) rfl; simpa using this
 obtain ⟨k1, k2⟩ := hfin _ hx1 hat (hf.ext (fun r hr => hx1 r (by omega)) (by omega)) hadd
 refine ⟨_, fun r hr => hx1 r (by omega), by show s.rows.length ≤ rows.length; omega, by show FrRel e rows.length _ fr tm; rw [hrl]; exact k1, ⟨B.n, F⟩, ⟨hBn, fun k hk => ?_, hBl.1, fun k hk => ?_⟩, k2, hbel⟩
 ·rcases f2 k hk with h1 | h1
  ·exact hBF k h1
  ·exact .inr h1.1
 ·rcases f2 k hk with h1 | h1
  ·exact hBl.2 k h1
  ·exact h1.2
theorem frzSt_ref {r R : Nat} {s : St} : Ref e w0 s (frzSt r R s) := by
 unfold frzSt
 split
 ·rename_i row hrow
  split
  ·rename_i q hq
   split
   ·rename_i hc
    simp only [Bool.and_eq_true, decide_eq_true_eq] at hc
    obtain ⟨c1, c2⟩ := hc
    have hr1 := lt_of_get hrow
    refine Ref.addF (x := frow q.ss q.x q.n) c2 (by simp [padRows]; omega) fun loc tm w B hf hR0 hBl => ?_
    obtain ⟨as, m, l1, l2, l3, l4, l5⟩ := (hR0.lst r row q hrow hq).2
    rw [if_pos c1] at l5
    have rest : ∀ (v : Value), (∀ u, (K.lsl r q.n).rel e (R + 1) loc u → u = v ∧ ∃ a c, v = .slice a m c) → ∀ (F : Nat → Prop), ∀ loc', LExt R loc loc' → loc' R = lcOf v → FrRel e (R + 1) loc' s.fr tm → RowsOK e loc' (padRows (s.rows.set r Row.dead) R ++ [frow q.ss q.x q.n]) w ⟨B.n, F⟩ →
      FrRel e (R + 1) loc' (s.fr.map (fzSV r R q.n)) tm ∧ RowsOK e loc' ((padRows (s.rows.set r Row.dead) R ++ [frow q.ss q.x q.n]).map (fzRow r R q.n)) w ⟨B.n, F⟩ := fun v hv F loc' hx hat hf' hR' => by
     have hpl : (padRows (s.rows.set r Row.dead) R).length = R := padRows_len (by simpa using c2)
     have hq' : ∀ u, (K.lsl r q.n).rel e (R + 1) loc' u → (K.fsl R q.n).rel e (R + 1) loc' u := fun u hu => by
      have hlr : loc' r = loc r := hx r (by omega)
      have hu0 : (K.lsl r q.n).rel e (R + 1) loc u := by
       obtain ⟨h1, h2, h3⟩ := hu
       simp only [K.ok, K.sem, hlr] at h1 h3
       exact ⟨h1, h2, h3⟩
      obtain ⟨rfl, a, c, hv2⟩ := hv u hu0
      refine ⟨⟨by omega, hu.1.2.1, a, c, by rw [hat, lcOf_v, l3]; simpa using hv2⟩, hu.2.1, .inr ?_⟩
      simp only [K.sem]
      rw [hat, lcOf_v]
     refine ⟨⟨by simpa using hf'.len, fun i t u ht hu => ?_⟩, hR'.recell (by simp) fun r' x' hx' => ?_⟩
     ·rw [List.getElem?_map] at ht
      cases hs : s.fr[i]? with
      | none => rw [hs] at ht; cases ht
      | some y =>
       rw [hs] at ht
       simp only [Option.map_some, Option.some.injEq] at ht
       subst ht
       exact fzSV_rel hq' (hf'.at_ i y u hs hu)
     ·rw [List.getElem?_map] at hx'
      cases hs : (padRows (s.rows.set r Row.dead) R ++ [frow q.ss q.x q.n])[r']? with
      | none => rw [hs] at hx'; cases hx'
      | some y =>
       rw [hs] at hx'
       simp only [Option.map_some, Option.some.injEq] at hx'
       subst hx'
       refine ⟨y, rfl, ?_⟩
       unfold fzRow
       split
       ·rename_i ho
        refine ⟨rfl, rfl, rfl, rfl, .inr ⟨ho, fun vs hvs => ?_⟩⟩
        have hll : (padRows (s.rows.set r Row.dead) R ++ [frow q.ss q.x q.n]).length = R + 1 := by simp [hpl]
        rw [hll] at hvs ⊢
        exact fzCs_rel hq' hvs
       ·exact ⟨rfl, rfl, rfl, rfl, .inl rfl⟩
    cases he : (loc r).emp
    ·rw [if_neg (by simp [he])] at l5
     obtain ⟨g1, g2, g3, us, sp, g4, g5, g6⟩ := l5
     have hF : ∀ k, B.F k → (B.F k ∨ k = (loc r).blk) := fun k hk => .inl hk
     have hm : ∀ a u, memB B w a = some u → memB ⟨B.n, fun k => B.F k ∨ k = (loc r).blk⟩ w a = some u := memP_mono hF fun _ _ => rfl
     refine ⟨fun k => B.F k ∨ k = (loc r).blk, .slice (some ⟨(loc r).blk, 0, none⟩) m (loc r).cap, hF, fun k hk => ?_, s.rows.set r Row.dead, by simpa using c2, (hR0.kill r).widen hF fun s' x hs ho => ?_, ⟨rfl, rfl, _, as, m, rfl, rfl, l4, l1, l2, l3, ?_⟩, rest _ (fun u hu => ?_) _⟩
     ·rcases hk with hk | rfl
      ·exact .inl hk
      ·exact .inr ⟨g2.1, heap_lt g4⟩
     ·intro h0
      by_cases hsr : s' = r
      ·subst hsr
       rw [List.getElem?_set_self hr1] at hs
       injection hs with hs
       subst hs
       rcases ho with ho | ⟨_, ho, _⟩ <;> simp [Row.dead] at ho
      ·rw [List.getElem?_set_ne (Ne.symm hsr)] at hs
       have hlo : lOwn loc r row := ⟨q, hq, c1, he⟩
       rcases h0 with h0 | h0
       ·rcases ho with ho | ho
        ·have := hR0.row s' x hs
         unfold RowOK at this
         rw [if_pos ho] at this
         exact this.2.2.1.2 h0
        ·exact (hR0.lown hs ho).2.2 h0
       ·refine hR0.lapart r s' row x hrow hs hlo ?_ h0.symm
        rcases ho with ho | ho
        ·exact .inl ho
        ·exact .inr ⟨ho, Ne.symm hsr⟩
     ·have hul : us.length = as.length := g6.1
      by_cases hm0 : as = []
      ·subst hm0
       have : m = 0 := by
        rcases Nat.mul_eq_zero.1 (show m * q.ss.length = 0 from l2.symm) with h | h
        ·exact h
        ·omega
       subst this
       exact .emp
      ·refine .sl l4 l2 hul (fun j u hu => ?_) (fun j s' a u h1 h2 h3 => (g6.2 j s' a u h1 h2 h3).mono hm)
       refine memP_of ?_ (.inr rfl)
       simp only [World.cell?, g4, Nat.zero_add]
       simp [List.getElem?_append_left (lt_of_get hu), hu]
     ·obtain ⟨h1, _, h3⟩ := hu
      rcases h3 with h3 | h3
      ·cases h3
      ·simp only [K.sem, he, Bool.false_eq_true, if_false] at h3
       rw [g1, l3] at h3
       exact ⟨by simpa using h3, _, _, rfl⟩
    ·rw [if_pos he] at l5
     have has : as = [] := List.eq_nil_of_length_eq_zero (by rw [l2, l5.1]; simp)
     subst has
     refine ⟨B.F, .slice none 0 0, fun k hk => hk, fun k hk => .inl hk, s.rows.set r Row.dead, by simpa using c2, hR0.kill r, ⟨rfl, rfl, _, [], m, rfl, rfl, l4, l1, l2, l3, .emp⟩, rest _ (fun u hu => ?_) _⟩
     obtain ⟨h1, _, h3⟩ := hu
     rcases h3 with h3 | h3
     ·cases h3
     ·simp only [K.sem, he, if_true] at h3
      exact ⟨h3.trans l5.2, none, 0, by rw [l5.1]⟩
   ·exact Ref.refl _
  ·exact Ref.refl _
 ·exact Ref.refl _
theorem kAt_some {s : St} {p : Pos} {k : K} (h : kAt s p = some k) : (∃ i, p = .slot i ∧ s.fr[i]? = some (.pv (.one (.k k)))) ∨ (∃ r j row, p = .cell r j ∧ s.rows[r]? = some row ∧ row.own = true ∧ row.cells[j]? = some (.k k)) := by
 unfold kAt at h
 split at h
 ·rename_i i
  split at h
  ·injection h with h; subst h; exact .inl ⟨i, rfl, ‹_›⟩
  ·cases h
 ·rename_i r j
  split at h
  ·rename_i row hrow
   split at h
   ·rename_i k' hk
    split at h
    ·rename_i ho
     injection h with h; subst h
     exact .inr ⟨r, j, row, rfl, hrow, ho, hk⟩
    ·cases h
   ·cases h
  ·cases h
theorem CsRel_setSame {N : Nat} {k : C} : ∀ {l : List C} {vs : List Value} {j : Nat} {c : C}, l[j]? = some c → (∀ v, c.rel e N loc v → k.rel e N loc v) → CsRel e N loc l vs → CsRel e N loc (l.set j k) vs
 | [], _, _, _, h, _, _ => by simp at h
 | a :: l, [], _, _, _, _, h => h.elim
 | a :: l, v :: vs, 0, c, h, hk, hv => by
  simp only [List.getElem?_cons_zero, Option.some.injEq] at h
  subst h
  exact ⟨hk v hv.1, hv.2⟩
 | a :: l, v :: vs, j + 1, c, h, hk, hv => ⟨hv.1, CsRel_setSame (by simpa using h) hk hv.2⟩
theorem cp_ref {s : St} {p : Pos} {R : Nat} {k : K} {ss : List Srt} {x n : L} (hk : kAt s p = some k) (hR : s.rows.length ≤ R)
  (h : ∀ (loc : Loc) (w : World) (B : Bd), RowsOK e loc s.rows w B → (∃ u, k.rel e s.rows.length loc u) → ∃ v, FRow e (memB B w) (frow ss x n) v ∧ ∀ u, k.rel e (R + 1) loc u → u = v) :
  Ref e w0 s (putK { s with rows := padRows s.rows R ++ [frow ss x n] } p (.fsl R n)) := by
 have hpl := padRows_len hR
 have hlen : ∀ {s' : St}, (putK s' p (.fsl R n)).rows.length = s'.rows.length := fun {s'} => by
  unfold putK
  split
  ·rfl
  ·split <;> simp
 have hpc : ∀ {s' : St}, (putK s' p (.fsl R n)).pc = s'.pc := fun {s'} => by
  unfold putK
  split
  ·rfl
  ·split <;> rfl
 intro loc tm w hf hcl
 refine (Ref.addF (e := e) (w0 := w0) (s := s) (R := R) (x := frow ss x n) (fr := (putK { s with rows := padRows s.rows R ++ [frow ss x n] } p (.fsl R n)).fr) (rows := (putK { s with rows := padRows s.rows R ++ [frow ss x n] } p (.fsl R n)).rows) (pc := (putK { s with rows := padRows s.rows R ++ [frow ss x n] } p (.fsl R n)).pc) hR (by rw [hlen]; simp [hpl]) fun loc tm w B hf hR0 hBl => ?_) loc tm w hf hcl
 have hu0 : ∃ u, k.rel e s.rows.length loc u := by
  rcases kAt_some hk with ⟨i, _, hi⟩ | ⟨r, j, row, _, hrow, ho, hc⟩
  ·obtain ⟨v, _, _, h3⟩ := hf.get hi
   exact ⟨v, h3⟩
  ·obtain ⟨v, _, h3⟩ := hR0.cell hrow hc
   exact ⟨v, h3⟩
 obtain ⟨v, hx, hv⟩ := h loc w B hR0 hu0
 refine ⟨B.F, v, fun k hk => hk, fun k hk => .inl hk, s.rows, hR, hR0, hx, fun loc' hx1 hat hf' hR' => ?_⟩
 have hll : (padRows s.rows R ++ [frow ss x n]).length = R + 1 := by simp [hpl]
 have hkk : ∀ u, k.rel e s.rows.length loc u → (K.fsl R n).rel e (R + 1) loc' u := fun u hu => by
  have e1 := hv u (K.rel_ext hu (LExt.refl _ _) (by omega))
  subst e1
  obtain ⟨_, _, q, as, m, q1, q2, q3, q4, q5, q6, q7⟩ := hx
  simp only [frow, Option.some.injEq] at q1
  subst q1
  obtain ⟨as', m', c, b, k1, k2, k3, k4⟩ := q7.slice
  injection k1 with k1
  subst k1
  have : m' = m := Nat.eq_of_mul_eq_mul_right q3 (by rw [← k3, q5])
  subst this
  refine ⟨⟨by omega, by rw [q6]; omega, b, c, by rw [hat, lcOf_v, q6]; simpa using k2⟩, hu.2.1, .inr ?_⟩
  simp only [K.sem]
  rw [hat, lcOf_v]
 rcases kAt_some hk with ⟨i, rfl, hi⟩ | ⟨r, j, row, rfl, hrow, ho, hc⟩
 ·refine ⟨?_, hR'⟩
  refine ⟨by simpa [putK] using hf'.len, fun i' t u ht hu => ?_⟩
  simp only [putK] at ht
  by_cases hii : i = i'
  ·subst hii
   rw [List.getElem?_set_self (lt_of_get hi)] at ht
   injection ht with ht
   subst ht
   exact hkk u (hf.at_ i _ u hi hu)
  ·rw [List.getElem?_set_ne hii] at ht
   exact hf'.at_ i' t u ht hu
 ·have hr1 := lt_of_get hrow
  have hrow' : (padRows s.rows R ++ [frow ss x n])[r]? = some row := by
   rw [List.getElem?_append_left (by omega)]
   unfold padRows
   rw [List.getElem?_append_left hr1]
   exact hrow
  have hput : putK { s with rows := padRows s.rows R ++ [frow ss x n] } (.cell r j) (.fsl R n) = { s with rows := (padRows s.rows R ++ [frow ss x n]).set r { row with cells := row.cells.set j (.k (.fsl R n)) } } := by
   simp only [putK, hrow']
  rw [hput]
  refine ⟨hf', hR'.recell (by simp) fun r' x' hx' => ?_⟩
  by_cases hrr : r = r'
  ·subst hrr
   rw [List.getElem?_set_self (by omega)] at hx'
   injection hx' with hx'
   subst hx'
   refine ⟨row, hrow', rfl, rfl, rfl, rfl, .inr ⟨ho, fun vs hvs => ?_⟩⟩
   have hrow0 := hR0.row r row hrow
   unfold RowOK at hrow0
   rw [if_pos ho] at hrow0
   obtain ⟨_, _, _, _, vs0, sp0, b5, b6, _⟩ := hrow0
   have hrow1 := hR'.row r row hrow'
   rw [hll] at hvs ⊢
   refine CsRel_setSame (c := .k k) hc (fun u hu => ?_) hvs
   refine hkk u ?_
   obtain ⟨u1, _, h3⟩ := hR0.cell hrow hc
   have h3' : k.rel e (R + 1) loc' u1 := K.rel_ext h3 (fun r hr => hx1 r (by omega)) (by omega)
   have hs : k.solid = true := by
    cases k with
    | junk =>
     have e1 := hv u (K.rel_junk (k := .junk) hu)
     have hb : (PV.one (.k .junk)).rel e (R + 1) loc (.bool true) := K.rel_junk (k := .bool (.t true)) ⟨trivial, rfl, .inr rfl⟩
     have hb2 : (PV.one (.k .junk)).rel e (R + 1) loc (.bool false) := K.rel_junk (k := .bool (.t false)) ⟨trivial, rfl, .inr rfl⟩
     have e2 := hv _ hb
     have e3 := hv _ hb2
     rw [← e2] at e3
     cases e3
    | _ => rfl
   rw [K.rel_unique hs hu h3']
   exact h3
  ·rw [List.getElem?_set_ne hrr] at hx'
   exact ⟨x', hx', rfl, rfl, rfl, rfl, .inl rfl⟩
theorem cpSt_ref {p : Pos} {R : Nat} {ss : List Srt} {s : St} : Ref e w0 s (cpSt p R ss s) := by
 unfold cpSt
 split
 ·rename_i r n hk
  split
  ·rename_i row hrow
   split
   ·rename_i q hq
    split
    ·rename_i hc
     simp only [Bool.and_eq_true, Bool.not_eq_true', decide_eq_true_eq] at hc
     obtain ⟨⟨c1, c2⟩, c3⟩ := hc
     have c2 := L.same_eq c2
     refine cp_ref hk c3 fun loc w B hR0 _ => ?_
     obtain ⟨as, m, l1, l2, l3, l4, l5⟩ := (hR0.lst r row q hrow hq).2
     rw [if_neg (by simp [c1])] at l5
     refine ⟨(loc r).v, ⟨rfl, rfl, _, as, m, rfl, rfl, l4, l1, l2, l3, l5.2⟩, fun u hu => ?_⟩
     rcases hu.2.2 with h3 | h3
     ·cases h3
     ·exact h3
    ·exact Ref.refl _
   ·exact Ref.refl _
  ·exact Ref.refl _
 ·rename_i hk
  split
  ·rename_i hc
   simp only [Bool.and_eq_true, bne_iff_ne, ne_eq, decide_eq_true_eq] at hc
   obtain ⟨c1, c2⟩ := hc
   refine cp_ref hk c2 fun loc w B hR0 _ => ⟨.slice none 0 0, ⟨rfl, rfl, _, [], 0, rfl, rfl, Nat.pos_of_ne_zero c1, rfl, by simp, rfl, .emp⟩, fun u hu => ?_⟩
   rcases hu.2.2 with h3 | h3
   ·cases h3
   ·exact h3
  ·exact Ref.refl _
 ·exact Ref.refl _
theorem cpSt_pc {p : Pos} {R : Nat} {ss : List Srt} {s : St} : (cpSt p R ss s).pc = s.pc := by
 have hpc : ∀ {s' : St} {k : K}, (putK s' p k).pc = s'.pc := fun {s' k} => by
  unfold putK
  split
  ·rfl
  ·split <;> rfl
 unfold cpSt
 split
 ·split
  ·split
   ·split
    ·exact hpc
    ·rfl
   ·rfl
  ·rfl
 ·split
  ·exact hpc
  ·rfl
 ·rfl
theorem cpSt_len {p : Pos} {R : Nat} {ss : List Srt} {s : St} (h : s.rows.length ≤ R) : (cpSt p R ss s).rows.length ≤ R + 1 := by
 have hlen : ∀ {s' : St} {k : K}, (putK s' p k).rows.length = s'.rows.length := fun {s' k} => by
  unfold putK
  split
  ·rfl
  ·split <;> simp
 have hp : ∀ (x : Row), (padRows s.rows R ++ [x]).length = R + 1 := fun x => by simp [padRows_len h]
 unfold cpSt
 split
 ·split
  ·split
   ·split
    ·rw [hlen, hp]; exact Nat.le_refl _
    ·omega
   ·omega
  ·omega
 ·split
  ·rw [hlen, hp]; exact Nat.le_refl _
  ·omega
 ·omega
theorem frzAll_ref : ∀ {l : List Nat} {R : Nat} {s t : St}, s.rows.length ≤ R → t.rows.length ≤ R →
  Ref e w0 s (frzAll l R (s, t)).1 ∧ Ref e w0 t (frzAll l R (s, t)).2 ∧ (frzAll l R (s, t)).1.pc = s.pc ∧ (frzAll l R (s, t)).2.pc = t.pc
 | [], R, s, t, _, _ => ⟨Ref.refl _, Ref.refl _, rfl, rfl⟩
 | r :: l, R, s, t, hs, ht => by
  obtain ⟨h1, h2, h3, h4⟩ := frzAll_ref (l := l) (R := R + 1) (s := frzSt r R s) (t := frzSt r R t) (frzSt_len hs) (frzSt_len ht)
  exact ⟨frzSt_ref.trans h1, frzSt_ref.trans h2, h3.trans frzSt_pc, h4.trans frzSt_pc⟩
theorem cpAll_ref : ∀ {l : List (Pos × K × K)} {R : Nat} {s t : St}, s.rows.length ≤ R → t.rows.length ≤ R →
  Ref e w0 s (cpAll l R (s, t)).1 ∧ Ref e w0 t (cpAll l R (s, t)).2 ∧ (cpAll l R (s, t)).1.pc = s.pc ∧ (cpAll l R (s, t)).2.pc = t.pc
 | [], R, s, t, _, _ => ⟨Ref.refl _, Ref.refl _, rfl, rfl⟩
 | (p, _, _) :: l, R, s, t, hs, ht => by
  obtain ⟨h1, h2, h3, h4⟩ := cpAll_ref (l := l) (R := R + 1) (s := cpSt p R (ssAt p t) s) (t := cpSt p R (ssAt p s) t) (cpSt_len hs) (cpSt_len ht)
  exact ⟨cpSt_ref.trans h1, cpSt_ref.trans h2, h3.trans cpSt_pc, h4.trans cpSt_pc⟩
theorem alignBoth_ref {s t : St} : Ref e w0 s (alignBoth s t).1 ∧ Ref e w0 t (alignBoth s t).2 ∧ (alignBoth s t).1.pc = s.pc ∧ (alignBoth s t).2.pc = t.pc := by
 unfold alignBoth
 obtain ⟨a1, a2, a3, a4⟩ := alignSt_ref (e := e) (w0 := w0) (l := unlike s.fr t.fr 0 []) (R := max s.rows.length t.rows.length) (s := s) (t := t) (by omega) (by omega)
 generalize alignSt (unlike s.fr t.fr 0 []) (max s.rows.length t.rows.length) (s, t) = x at a1 a2 a3 a4 ⊢
 obtain ⟨s1, t1⟩ := x
 simp only at a1 a2 a3 a4
 unfold alignF
 split
 ·exact ⟨a1, a2, a3, a4⟩
 ·rename_i ps hps
  obtain ⟨b1, b2, b3, b4⟩ := frzAll_ref (e := e) (w0 := w0) (l := toFrz (pairsF s1 t1)) (R := topRow (s1, t1)) (s := s1) (t := t1) (by simp only [topRow]; omega) (by simp only [topRow]; omega)
  simp only
  generalize frzAll (toFrz (pairsF s1 t1)) (topRow (s1, t1)) (s1, t1) = y at b1 b2 b3 b4 ⊢
  obtain ⟨s2, t2⟩ := y
  simp only at b1 b2 b3 b4
  obtain ⟨d1, d2, d3, d4⟩ := cpAll_ref (e := e) (w0 := w0) (l := pairsF s2 t2) (R := topRow (s2, t2)) (s := s2) (t := t2) (by simp only [topRow]; omega) (by simp only [topRow]; omega)
  exact ⟨a1.trans (b1.trans d1), a2.trans (b2.trans d2), d3.trans (b3.trans a3), d4.trans (b4.trans a4)⟩
theorem mergePc_good {c : L} {both : Option (L × L × L)} {s t : L} {g : G} (h : Good T e (mergePc c both s t g).2)
  (hb : ∀ p x y, both = some (p, x, y) → (x.ev e).bool = ((p.ev e).bool && (c.ev e).bool) ∧ (y.ev e).bool = ((p.ev e).bool && !(c.ev e).bool)) :
  Good T e g ∧ ((mergePc c both s t g).1.ev e).bool = ((pick (c.ev e).bool s t).ev e).bool := by
 unfold mergePc at h ⊢
 split at h
 ·rename_i p x y
  split at h
  ·rename_i hs
   simp only [hs, if_true]
   simp only [Bool.and_eq_true] at hs
   obtain ⟨b1, b2⟩ := hb _ _ _ rfl
   rw [← L.same_eq hs.1] at b1
   rw [← L.same_eq hs.2] at b2
   refine ⟨h, ?_⟩
   cases hc : (c.ev e).bool <;> simp [pick, hc] at b1 b2 ⊢
   ·exact b2.symm
   ·exact b1.symm
  ·rename_i hs
   simp only [hs, Bool.false_eq_true, if_false]
   have := mkIteB_good h
   refine ⟨this.1, this.2.trans ?_⟩
   cases hc : (c.ev e).bool <;> simp [pick]
 ·have := mkIteB_good h
  refine ⟨this.1, this.2.trans ?_⟩
  cases hc : (c.ev e).bool <;> simp [pick]
theorem mergeSt_good {c : L} {both : Option (L × L × L)} {s t : St} {g : G} (h : Good T e (mergeSt c both s t g).2)
  (hb : ∀ p x y, both = some (p, x, y) → (x.ev e).bool = ((p.ev e).bool && (c.ev e).bool) ∧ (y.ev e).bool = ((p.ev e).bool && !(c.ev e).bool)) :
  Good T e g ∧ Ref e w0 (pick (c.ev e).bool s t) (mergeSt c both s t g).1 ∧ ((mergeSt c both s t g).1.pc.ev e).bool = ((pick (c.ev e).bool s t).pc.ev e).bool := by
 unfold mergeSt at h ⊢
 obtain ⟨ra, rb, pa, pb⟩ := alignBoth_ref (e := e) (w0 := w0) (s := s) (t := t)
 generalize alignBoth s t = st at h ra rb pa pb ⊢
 obtain ⟨s', t'⟩ := st
 simp only at h ra rb pa pb ⊢
 suffices hh : Good T e g ∧ Ref e w0 (pick (c.ev e).bool s' t') ⟨(mergeFr c s'.fr t'.fr g).1, (mergeRows c s'.rows t'.rows (mergeFr c s'.fr t'.fr g).2).1, (mergePc c both s'.pc t'.pc (mergeRows c s'.rows t'.rows (mergeFr c s'.fr t'.fr g).2).2).1⟩ ∧
   ((mergePc c both s'.pc t'.pc (mergeRows c s'.rows t'.rows (mergeFr c s'.fr t'.fr g).2).2).1.ev e).bool = ((pick (c.ev e).bool s' t').pc.ev e).bool by
  obtain ⟨k1, k2, k3⟩ := hh
  refine ⟨k1, Ref.trans ?_ k2, k3.trans ?_⟩
  ·cases hc : (c.ev e).bool
   ·exact rb
   ·exact ra
  ·cases hc : (c.ev e).bool
   ·simp only [pick, Bool.false_eq_true, if_false, pb]
   ·simp only [pick, if_true, pa]
 revert h
 generalize s' = s
 generalize t' = t
 intro h
 obtain ⟨hg1, hpc1⟩ := mergePc_good h hb
 have hr := mergeRows_good hg1
 have hf := mergeFr_good hr.1
 refine ⟨hf.1, fun loc tm w h1 h2 => ?_, ?_⟩
 ·have q1 : (pick (c.ev e).bool s t).fr = pick (c.ev e).bool s.fr t.fr := by cases (c.ev e).bool <;> rfl
  have q2 : (pick (c.ev e).bool s t).rows = pick (c.ev e).bool s.rows t.rows := by cases (c.ev e).bool <;> rfl
  rw [q1, q2] at h1
  rw [q2] at h2 ⊢
  have hlen : (pick (c.ev e).bool s.rows t.rows).length ≤ (mergeRows c s.rows t.rows (mergeFr c s.fr t.fr g).2).1.length := by
   cases hc : (c.ev e).bool
   ·exact hr.2.2.1
   ·exact hr.2.1
  exact ⟨loc, LExt.refl _ _, hlen, (FrRel.merge hr.1 h1).ext (LExt.refl _ _) hlen, by obtain ⟨B, hB, hR, hbel⟩ := h2; exact ⟨B, hB, RowsOK.merge hg1 hR, hbel⟩⟩
 ·rw [hpc1]
  cases (c.ev e).bool <;> rfl
theorem addPc_good {nc : L} : ∀ {o : Outs} {g : G}, Good T e (addPc nc o g).2 → Good T e g ∧
  (∀ x u, Outs.get x (addPc nc o g).1 = some u → (u.pc.ev e).bool = true → (nc.ev e).bool = true ∧ ∃ t, Outs.get x o = some t ∧ (t.pc.ev e).bool = true) ∧
  ((nc.ev e).bool = true → ∀ x t, Outs.get x o = some t → (t.pc.ev e).bool = true → ∃ u, Outs.get x (addPc nc o g).1 = some u ∧ (u.pc.ev e).bool = true ∧ Ref e w0 t u)
 | [], g, h => ⟨h, fun x u hx => by simp [addPc, Outs.get] at hx, fun _ x t hx => by simp [Outs.get] at hx⟩
 | (y, t) :: l, g, h => by
  unfold addPc at h ⊢
  simp only at h ⊢
  have h2 := addPc_good h
  have h1 := mkAnd_good h2.1
  refine ⟨h1.1, fun x u hx hu => ?_, fun hnc x s hx hs => ?_⟩
  ·by_cases hxy : x = y
   ·subst hxy
    rw [get_self] at hx
    injection hx with hx
    subst hx
    simp only at hu
    rw [h1.2, Bool.and_eq_true] at hu
    exact ⟨hu.1, t, get_self, hu.2⟩
   ·rw [get_ne hxy] at hx
    obtain ⟨a1, s, a2, a3⟩ := h2.2.1 x u hx hu
    exact ⟨a1, s, by rw [get_ne hxy]; exact a2, a3⟩
  ·by_cases hxy : x = y
   ·subst hxy
    rw [get_self] at hx
    injection hx with hx
    subst hx
    exact ⟨_, get_self, by simp only; rw [h1.2, hnc, hs]; rfl, Ref.pc _⟩
   ·rw [get_ne hxy] at hx
    obtain ⟨u, a1, a2, a3⟩ := h2.2.2 hnc x s hx hs
    exact ⟨u, by rw [get_ne hxy]; exact a1, a2, a3⟩
theorem combine_good {c nc : L} {both : Option (L × L × L)} (hnc : (nc.ev e).bool = !(c.ev e).bool)
  (hb : ∀ p x y, both = some (p, x, y) → (x.ev e).bool = ((p.ev e).bool && (c.ev e).bool) ∧ (y.ev e).bool = ((p.ev e).bool && !(c.ev e).bool)) : ∀ {o1 o2 : Outs} {g : G},
  Good T e (combine c nc both o1 o2 g).2 → Good T e g ∧
  (∀ x u, Outs.get x (combine c nc both o1 o2 g).1 = some u → (u.pc.ev e).bool = true →
   ((c.ev e).bool = true ∧ ∃ s, Outs.get x o1 = some s ∧ (s.pc.ev e).bool = true) ∨ ((c.ev e).bool = false ∧ ∃ t, Outs.get x o2 = some t ∧ (t.pc.ev e).bool = true)) ∧
  ((c.ev e).bool = true → ∀ x s, Outs.get x o1 = some s → (s.pc.ev e).bool = true → ∃ u, Outs.get x (combine c nc both o1 o2 g).1 = some u ∧ (u.pc.ev e).bool = true ∧ Ref e w0 s u) ∧
  ((c.ev e).bool = false → ∀ x t, Outs.get x o2 = some t → (t.pc.ev e).bool = true → ∃ u, Outs.get x (combine c nc both o1 o2 g).1 = some u ∧ (u.pc.ev e).bool = true ∧ Ref e w0 t u)
 | [], o2, g, h => by
  unfold combine at h ⊢
  have h1 := addPc_good (w0 := w0) h
  refine ⟨h1.1, fun x u hx hu => ?_, fun _ x s hx => by simp [Outs.get] at hx, fun hc => h1.2.2 (by rw [hnc, hc]; rfl)⟩
  obtain ⟨a1, a2⟩ := h1.2.1 x u hx hu
  exact .inr ⟨by rw [hnc] at a1; simpa using a1, a2⟩
 | (y, s) :: l, o2, g, h => by
  unfold combine at h ⊢
  cases ht : Outs.get y o2 with
  | some t =>
   rw [ht] at h
   simp only at h ⊢
   have h2 := combine_good hnc hb h
   have h1 := mergeSt_good (w0 := w0) h2.1 hb
   refine ⟨h1.1, fun x u hx hu => ?_, fun hc x s' hx hs' => ?_, fun hc x t' hx ht' => ?_⟩
   ·by_cases hxy : x = y
    ·subst hxy
     rw [get_self] at hx
     injection hx with hx
     subst hx
     rw [h1.2.2] at hu
     cases hc : (c.ev e).bool <;> simp only [pick, hc, if_true, if_false, Bool.false_eq_true] at hu
     ·exact .inr ⟨rfl, t, ht, hu⟩
     ·exact .inl ⟨rfl, s, get_self, hu⟩
    ·rw [get_ne hxy] at hx
     rw [get_ne hxy]
     rcases h2.2.1 x u hx hu with a | ⟨a, b⟩
     ·exact .inl a
     ·exact .inr ⟨a, by rwa [get_drop_ne hxy] at b⟩
   ·by_cases hxy : x = y
    ·subst hxy
     rw [get_self] at hx
     injection hx with hx
     subst hx
     refine ⟨_, get_self, ?_, ?_⟩
     ·rw [h1.2.2]; simp only [pick, hc, if_true]; exact hs'
     ·have := h1.2.1; simp only [pick, hc, if_true] at this; exact this
    ·rw [get_ne hxy] at hx
     obtain ⟨u, a1, a2, a3⟩ := h2.2.2.1 hc x s' hx hs'
     exact ⟨u, by rw [get_ne hxy]; exact a1, a2, a3⟩
   ·by_cases hxy : x = y
    ·subst hxy
     rw [ht] at hx
     injection hx with hx
     subst hx
     refine ⟨_, get_self, ?_, ?_⟩
     ·rw [h1.2.2]; simp only [pick, hc, Bool.false_eq_true, if_false]; exact ht'
     ·have := h1.2.1; simp only [pick, hc, Bool.false_eq_true, if_false] at this; exact this
    ·obtain ⟨u, a1, a2, a3⟩ := h2.2.2.2 hc x t' (by rw [get_drop_ne hxy]; exact hx) ht'
     exact ⟨u, by rw [get_ne hxy]; exact a1, a2, a3⟩
  | none =>
   rw [ht] at h
   simp only at h ⊢
   have h2 := combine_good hnc hb h
   have h1 := mkAnd_good h2.1
   refine ⟨h1.1, fun x u hx hu => ?_, fun hc x s' hx hs' => ?_, fun hc x t' hx ht' => ?_⟩
   ·by_cases hxy : x = y
    ·subst hxy
     rw [get_self] at hx
     injection hx with hx
     subst hx
     simp only at hu
     rw [h1.2, Bool.and_eq_true] at hu
     exact .inl ⟨hu.1, s, get_self, hu.2⟩
    ·rw [get_ne hxy] at hx
     rw [get_ne hxy]
     exact h2.2.1 x u hx hu
   ·by_cases hxy : x = y
    ·subst hxy
     rw [get_self] at hx
     injection hx with hx
     subst hx
     exact ⟨_, get_self, by simp only; rw [h1.2, hc, hs']; rfl, Ref.pc _⟩
    ·rw [get_ne hxy] at hx
     obtain ⟨u, a1, a2, a3⟩ := h2.2.2.1 hc x s' hx hs'
     exact ⟨u, by rw [get_ne hxy]; exact a1, a2, a3⟩
   ·have hxy : x ≠ y := fun h0 => by rw [h0, ht] at hx; cases hx
    obtain ⟨u, a1, a2, a3⟩ := h2.2.2.2 hc x t' hx ht'
    exact ⟨u, by rw [get_ne hxy]; exact a1, a2, a3⟩
def Xit.to : Xit → Exit
 | .norm => .normal
 | .exit id => .exit id
 | .ret => .ret
def Cont (e : Nat → A) (w0 : W0) (loc : Loc) (m : Nat) (a : Act) (s : St) (Q : Act → World → Prop) : Prop :=
 ∀ (loc' : Loc) (a' : Act) (w' : World), LExt m loc loc' → m ≤ s.rows.length → FrRel e s.rows.length loc' s.fr a'.tmps → a'.defers = a.defers → Cls e w0 loc' s.rows w' → Q a' w'
structure Ends (P : Program) (T : Nat → List A → Bool × List A) (e : Nat → A) (w0 : W0) (S : St) (W : (Exit → Act → World → Prop) → Act → World → Prop) (outs : Outs) : Prop where
 pc : ∀ x s, Outs.get x outs = some s → (s.pc.ev e).bool = true → (S.pc.ev e).bool = true
 one : ∀ x y s t, Outs.get x outs = some s → Outs.get y outs = some t → (s.pc.ev e).bool = true → (t.pc.ev e).bool = true → x = y
 wp : ∀ (loc : Loc) (a : Act) (w : World) (Q : Exit → Act → World → Prop), (S.pc.ev e).bool = true → FrRel e S.rows.length loc S.fr a.tmps → Cls e w0 loc S.rows w →
  (∀ x s, Outs.get x outs = some s → (s.pc.ev e).bool = true → Cont e w0 loc S.rows.length a s (Q x.to)) → W Q a w
theorem Cont.mono {m : Nat} {a : Act} {s : St} {Q Q' : Act → World → Prop} (h : Cont e w0 loc m a s Q) (hq : ∀ a w, Q a w → Q' a w) : Cont e w0 loc m a s Q' :=
 fun loc' a' w' h1 h2 h3 h4 h5 => hq _ _ (h loc' a' w' h1 h2 h3 h4 h5)
theorem Cont.ref {m : Nat} {a : Act} {s u : St} {Q : Act → World → Prop} (h : Cont e w0 loc m a u Q) (hr : Ref e w0 s u) : Cont e w0 loc m a s Q :=
 fun loc' a' w' h1 h2 h3 h4 h5 => by
  obtain ⟨loc2, x2, r1, r2, r3⟩ := hr loc' a'.tmps w' h3 h5
  exact h loc2 a' w' (h1.trans x2 h2) (Nat.le_trans h2 r1) r2 h4 r3
end
end Rx
namespace Rx
open Go Go.RowKit
def LW (P : Program) (c : Code) (Q : Exit → Act → World → Prop) (a : Act) (w : World) : Prop :=
 ∀ (b : Frame) (k : List Item) (cs : List Frame), ∃ e a' w', Q e a' w' ∧ Arrives P (lone (b.at a (.code c :: .inLoop c :: k)) cs w) b k cs e a' w'
theorem LW.of {P : Program} {c : Code} {Q : Exit → Act → World → Prop} {a : Act} {w : World} (h : c.wp P (Exit.then (LW P c Q) Q) a w) : LW P c Q a w := by
 intro b k cs
 obtain ⟨e, a₁, w₁, hq, harr⟩ := h b (.inLoop c :: k) cs
 cases e with
 | normal =>
  obtain ⟨e₂, a₂, w₂, hq₂, harr₂⟩ := hq b k cs
  exact ⟨e₂, a₂, w₂, hq₂, .of_steps (Steps.trans harr (.one step_inLoop)) harr₂⟩
 | exit id => exact ⟨_, a₁, w₁, hq, .pass (x := .inLoop c) rfl (fun _ _ => .inl (by simp)) harr⟩
 | goto l => exact ⟨_, a₁, w₁, hq, .pass (x := .inLoop c) rfl (fun _ _ => .inl (by simp)) harr⟩
 | ret => exact ⟨_, a₁, w₁, hq, .pass (x := .inLoop c) rfl (fun _ _ => .inl (by simp)) harr⟩
 | panic ch => exact ⟨_, a₁, w₁, hq, .pass (x := .inLoop c) rfl (fun _ _ => .inl (by simp)) harr⟩
 | outgrown => exact ⟨_, a₁, w₁, hq, .pass (x := .inLoop c) rfl (fun _ _ => .inl (by simp)) harr⟩
theorem LW.wp {P : Program} {c : Code} {Q : Exit → Act → World → Prop} {a : Act} {w : World} (h : LW P c Q a w) : (Code.loop c).wp P Q a w :=
 fun b k cs => let ⟨e, a', w', hq, harr⟩ := h b k cs; ⟨e, a', w', hq, .of_steps (.one step_loop) harr⟩
section
variable {T : Nat → List A → Bool × List A} {e : Nat → A} {n n' : Nat} {loc loc' : Loc} {P : Program} {X : Ctx} {w0 : W0}
theorem isFalse_ev {l : L} (h : isFalse l = true) : (l.ev e).bool = false := by
 unfold isFalse at h
 split at h
 ·rfl
 ·cases h
theorem then_ne {N : Act → World → Prop} {Q : Exit → Act → World → Prop} {x : Xit} (h : x ≠ .norm) : Exit.then N Q x.to = Q x.to := by
 cases x with
 | norm => exact absurd rfl h
 | exit id => rfl
 | ret => rfl
abbrev Wt := (Exit → Act → World → Prop) → Act → World → Prop
theorem ends_none {S : St} {Wa Wb Wr : Wt} {o : Outs} (hW : ∀ Q a w, Wa (Exit.then (Wb Q) Q) a w → Wr Q a w) (ha : Ends P T e w0 S Wa o) (h : Outs.get .norm o = none) : Ends P T e w0 S Wr o :=
 ⟨ha.pc, ha.one, fun loc a w Q hpc hf hw hQ => hW _ _ _ (ha.wp loc a w _ hpc hf hw fun x s hx hs => by
  rw [then_ne (fun h0 => by rw [h0, h] at hx; cases hx)]
  exact hQ x s hx hs)⟩
theorem ends_false {S s : St} {Wa Wb Wr : Wt} {o : Outs} (hW : ∀ Q a w, Wa (Exit.then (Wb Q) Q) a w → Wr Q a w) (ha : Ends P T e w0 S Wa o) (h : Outs.get .norm o = some s) (hf : isFalse s.pc = true) :
  Ends P T e w0 S Wr (Outs.drop .norm o) := by
 have back : ∀ {x s'}, Outs.get x (Outs.drop .norm o) = some s' → x ≠ .norm ∧ Outs.get x o = some s' := fun {x s'} hx => by
  by_cases h0 : x = .norm
  ·subst h0; rw [get_drop] at hx; cases hx
  ·exact ⟨h0, by rwa [get_drop_ne h0] at hx⟩
 refine ⟨fun x s' hx hs => ha.pc x s' (back hx).2 hs, fun x y s' t' hx hy hs ht => ha.one x y s' t' (back hx).2 (back hy).2 hs ht, fun loc a w Q hpc hfr hw hQ => hW _ _ _ (ha.wp loc a w _ hpc hfr hw fun x s' hx hs => ?_)⟩
 by_cases h0 : x = .norm
 ·subst h0
  rw [h] at hx
  injection hx with hx
  subst hx
  rw [isFalse_ev hf] at hs
  cases hs
 ·rw [then_ne h0]
  exact hQ x s' (by rw [get_drop_ne h0]; exact hx) hs
theorem ends_seq {S s : St} {Wa Wb Wr : Wt} {o o2 r : Outs} (hW : ∀ Q a w, Wa (Exit.then (Wb Q) Q) a w → Wr Q a w) (ha : Ends P T e w0 S Wa o) (h : Outs.get .norm o = some s) (hb : Ends P T e w0 s Wb o2)
  (hr : (∀ x u, Outs.get x r = some u → (u.pc.ev e).bool = true →
    ((s.pc.ev e).bool = true ∧ ∃ t, Outs.get x o2 = some t ∧ (t.pc.ev e).bool = true) ∨ ((s.pc.ev e).bool = false ∧ ∃ t, Outs.get x (Outs.drop .norm o) = some t ∧ (t.pc.ev e).bool = true)) ∧
   ((s.pc.ev e).bool = true → ∀ x t, Outs.get x o2 = some t → (t.pc.ev e).bool = true → ∃ u, Outs.get x r = some u ∧ (u.pc.ev e).bool = true ∧ Ref e w0 t u) ∧
   ((s.pc.ev e).bool = false → ∀ x t, Outs.get x (Outs.drop .norm o) = some t → (t.pc.ev e).bool = true → ∃ u, Outs.get x r = some u ∧ (u.pc.ev e).bool = true ∧ Ref e w0 t u)) : Ends P T e w0 S Wr r := by
 have back : ∀ {x s'}, Outs.get x (Outs.drop .norm o) = some s' → x ≠ .norm ∧ Outs.get x o = some s' := fun {x s'} hx => by
  by_cases h0 : x = .norm
  ·subst h0; rw [get_drop] at hx; cases hx
  ·exact ⟨h0, by rwa [get_drop_ne h0] at hx⟩
 obtain ⟨h1, h2, h3⟩ := hr
 refine ⟨fun x u hx hu => ?_, fun x y u v hx hy hu hv => ?_, fun loc a w Q hpc hfr hw hQ => hW _ _ _ (ha.wp loc a w _ hpc hfr hw fun x s' hx hs => ?_)⟩
 ·rcases h1 x u hx hu with ⟨a, _⟩ | ⟨_, t, b1, b2⟩
  ·exact ha.pc _ _ h a
  ·exact ha.pc _ _ (back b1).2 b2
 ·rcases h1 x u hx hu with ⟨a, t, b1, b2⟩ | ⟨a, t, b1, b2⟩
  ·rcases h1 y v hy hv with ⟨a', t', b1', b2'⟩ | ⟨a', t', b1', b2'⟩
   ·exact hb.one _ _ _ _ b1 b1' b2 b2'
   ·rw [a] at a'; cases a'
  ·rcases h1 y v hy hv with ⟨a', t', b1', b2'⟩ | ⟨a', t', b1', b2'⟩
   ·rw [a] at a'; cases a'
   ·exact ha.one _ _ _ _ (back b1).2 (back b1').2 b2 b2'
 ·by_cases h0 : x = .norm
  ·subst h0
   rw [h] at hx
   injection hx with hx
   subst hx
   intro loc' a' w' q1 q2 q3 q4 q5
   show Wb Q a' w'
   refine hb.wp loc' a' w' Q hs q3 q5 fun y t hy ht => ?_
   obtain ⟨u, u1, u2, u3⟩ := h2 hs y t hy ht
   have := (hQ y u u1 u2).ref u3
   intro loc2 a2 w2 r1 r2 r3 r4 r5
   exact this loc2 a2 w2 (q1.trans r1 q2) (Nat.le_trans q2 r2) r3 (r4.trans q4) r5
  ·rw [then_ne h0]
   have hsf : (s.pc.ev e).bool = false := by
    cases hc : (s.pc.ev e).bool with
    | false => rfl
    | true => exact absurd (ha.one _ _ _ _ hx h hs hc) h0
   obtain ⟨u, u1, u2, u3⟩ := h3 hsf x s' (by rw [get_drop_ne h0]; exact hx) hs
   exact (hQ x u u1 u2).ref u3
theorem results_sound (hX : TysOK P X.tys) {S : St} : ∀ {l : List ResultVar} {g g' : G} {rs : List PV}, results X S l g = some (rs, g') → g' = g ∧
  ∀ (loc : Loc) (tm : Array Value) (w : World), FrRel e S.rows.length loc S.fr tm → Cls e w0 loc S.rows w → ∃ vs : List Value, PVsRel e S.rows.length loc rs vs ∧
   (l.mapM fun | .tmp t => pure (tm.getD t Go.undef) | .cell a t => do loadVar t (← asAddr (tm.getD a Go.undef)) : Sem (List Value)).run P w = .ok vs w
 | [], g, g', rs, h => by
  simp only [results, Option.some.injEq, Prod.mk.injEq] at h
  obtain ⟨rfl, rfl⟩ := h
  exact ⟨rfl, fun loc tm w hf _ => ⟨[], trivial, by simp⟩⟩
 | .tmp t :: l, g, g', rs, h => by
  simp only [results, Option.bind_eq_bind, Option.bind_eq_some_iff] at h
  obtain ⟨p, hp, ⟨r, g1⟩, hr, h⟩ := h
  simp only [Option.some.injEq, Prod.mk.injEq] at h
  obtain ⟨rfl, rfl⟩ := h
  obtain ⟨h1, h2⟩ := results_sound hX hr
  refine ⟨h1, fun loc tm w hf hw => ?_⟩
  obtain ⟨vs, v1, v2⟩ := h2 loc tm w hf hw
  refine ⟨tm.getD t Go.undef :: vs, ⟨slot_sound hp hf (fun x hx => by cases hx), v1⟩, ?_⟩
  simp only [List.mapM_cons, Sem.run_bind, Sem.run_pure, Result.andThen_ok, v2]
 | .cell a t :: l, g, g', rs, h => by
  simp only [results, Option.bind_eq_bind, Option.bind_eq_some_iff] at h
  obtain ⟨p, hp, ty, ht, h⟩ := h
  split at h
  ·rename_i r off
   simp only [Option.bind_eq_some_iff] at h
   obtain ⟨row, hrow, cs, hcs, v, hv, ⟨q, g1⟩, hr, h⟩ := h
   simp only [Option.some.injEq, Prod.mk.injEq] at h
   obtain ⟨rfl, rfl⟩ := h
   obtain ⟨h1, h2⟩ := results_sound hX hr
   refine ⟨h1, fun loc tm w hf hw => ?_⟩
   obtain ⟨vs, v1, v2⟩ := h2 loc tm w hf hw
   obtain ⟨r1, r2⟩ := rel_ptr (slot_sound hp hf (fun x hx => by cases hx))
   obtain ⟨us, u1, u2⟩ := cells_read (e := e) (n := S.rows.length) (loc := loc) (w := w) (b := (loc r).blk) (o := (loc r).off + off) (cs := cs) (fun j c hj => by
    obtain ⟨v, z1, z2⟩ := hw.cell hrow (take?_get hcs hj)
    exact ⟨v, by rw [Nat.add_assoc]; exact z1, z2⟩)
   obtain ⟨x, x1, x2⟩ := run_loadAt_cells (hX t ty ht) u1 u2 (take?_some hcs).2.2 hv
   have x3 : (loadVar t ⟨(loc r).blk, (loc r).off + off, none⟩).run P w = .ok x w := by
    have := x2
    simp only [Instr.loadAt, Instr.sureAddr, Sem.run_bind, Sem.run_pure, Result.andThen_ok] at this
    exact this
   refine ⟨x :: vs, ⟨x1, v1⟩, ?_⟩
   have x4 : ∀ a : Addr, asAddr (.pointer (some a)) = pure a := fun _ => rfl
   simp only [List.mapM_cons, Sem.run_bind, Sem.run_pure, r2, x4, Result.andThen_ok, x3, v2]
  ·cases h
theorem run_results {fn : Func} {tm : Array Value} {w : World} {vs : List Value}
  (h : (fn.results.toList.mapM fun | .tmp t => pure (tm.getD t Go.undef) | .cell a t => do loadVar t (← asAddr (tm.getD a Go.undef)) : Sem (List Value)).run P w = .ok vs w) :
  (Go.results fn tm).run P w = .ok (retVal vs) w := by
 unfold Go.results
 rw [Array.mapM_eq_mapM_toList]
 simp only [Sem.run_bind, Sem.run_map, Sem.run_pure]
 refine (congrArg (fun r : Result (List Value) => (r.andThen fun a w' => Result.ok a.toArray w').andThen fun a w' => Result.ok (if h : a.size = 1 then a[0] else Value.tuple a) w') h).trans ?_
 simp only [Result.andThen_ok]
 congr 1
 match vs with
 | [] => rfl
 | [v] => rfl
 | v :: u :: vs => simp [retVal]
end
end Rx
namespace Rx
open Go Go.RowKit
section
variable {T : Nat → List A → Bool × List A} {e : Nat → A} {P : Program} {X : Ctx} {w0 : W0}
theorem ends_single {S s : St} {W : Wt} {x : Xit} (hpc : s.pc = S.pc)
  (h : ∀ (loc : Loc) (a : Act) (w : World) (Q : Exit → Act → World → Prop), (S.pc.ev e).bool = true → FrRel e S.rows.length loc S.fr a.tmps → Cls e w0 loc S.rows w → Cont e w0 loc S.rows.length a s (Q x.to) → W Q a w) :
  Ends P T e w0 S W [(x, s)] := by
 have back : ∀ {y t}, Outs.get y [(x, s)] = some t → y = x ∧ t = s := fun {y t} hy => by
  by_cases h0 : y = x
  ·subst h0; rw [get_self] at hy; injection hy with hy; exact ⟨rfl, hy.symm⟩
  ·rw [get_ne h0] at hy; cases hy
 refine ⟨fun y t hy ht => ?_, fun y z t u hy hz _ _ => ?_, fun loc a w Q hp hf hw hQ => h loc a w Q hp hf hw (hQ x s get_self (by rw [hpc]; exact hp))⟩
 ·obtain ⟨rfl, rfl⟩ := back hy; rw [← hpc]; exact ht
 ·rw [(back hy).1, (back hz).1]
theorem combine_rest {S s : St} {Wa Wb Wr : Wt} {o o2 : Outs} {g : G} (hW : ∀ Q a w, Wa (Exit.then (Wb Q) Q) a w → Wr Q a w) (ha : Ends P T e w0 S Wa o) (h : Outs.get .norm o = some s) (hb : Ends P T e w0 s Wb o2)
  {nc : L} (hnc : (nc.ev e).bool = !(s.pc.ev e).bool) (hg : Good T e (combine s.pc nc none o2 (Outs.drop .norm o) g).2) : Ends P T e w0 S Wr (combine s.pc nc none o2 (Outs.drop .norm o) g).1 :=
 ends_seq hW ha h hb (combine_good hnc (fun _ _ _ h0 => by cases h0) hg).2
theorem rest_empty {S s : St} {Wa Wb Wr : Wt} {o o2 : Outs} (hW : ∀ Q a w, Wa (Exit.then (Wb Q) Q) a w → Wr Q a w) (ha : Ends P T e w0 S Wa o) (h : Outs.get .norm o = some s) (hb : Ends P T e w0 s Wb o2)
  (hr : (Outs.drop .norm o).isEmpty = true) : Ends P T e w0 S Wr o2 := by
 have hr : Outs.drop .norm o = [] := by simpa using hr
 refine ends_seq hW ha h hb ⟨fun x u hx hu => .inl ⟨hb.pc x u hx hu, u, hx, hu⟩, fun _ x t hx ht => ⟨t, hx, ht, Ref.refl _⟩, fun _ x t hx => by rw [hr] at hx; cases hx⟩
theorem joined_sound {S s' : St} {W : Wt} {o : Outs} {g g' : G} (he : Ends P T e w0 S W o) (h : joined o g = some (s', g')) (hg : Good T e g') :
  Good T e g ∧ ∀ x s, Outs.get x o = some s → (s.pc.ev e).bool = true → (x = .norm ∨ x = .ret) ∧ Ref e w0 s s' := by
 unfold joined at h
 split at h
 ·simp only [Option.some.injEq, Prod.mk.injEq] at h
  obtain ⟨rfl, rfl⟩ := h
  refine ⟨hg, fun x s hx hs => ?_⟩
  by_cases h0 : x = .norm
  ·subst h0; rw [get_self] at hx; injection hx with hx; subst hx; exact ⟨.inl rfl, Ref.refl _⟩
  ·rw [get_ne h0] at hx; cases hx
 ·simp only [Option.some.injEq, Prod.mk.injEq] at h
  obtain ⟨rfl, rfl⟩ := h
  refine ⟨hg, fun x s hx hs => ?_⟩
  by_cases h0 : x = .ret
  ·subst h0; rw [get_self] at hx; injection hx with hx; subst hx; exact ⟨.inr rfl, Ref.refl _⟩
  ·rw [get_ne h0] at hx; cases hx
 ·rename_i s t
  simp only [Option.some.injEq] at h
  have hm := mergeSt_good (T := T) (e := e) (w0 := w0) (c := s.pc) (both := none) (s := s) (t := t) (g := g) (by rw [h]; exact hg) (fun _ _ _ h0 => by cases h0)
  rw [h] at hm
  refine ⟨hm.1, fun x u hx hu => ?_⟩
  by_cases h0 : x = .norm
  ·subst h0
   rw [get_self] at hx; injection hx with hx; subst hx
   have := hm.2.1
   simp only [pick, hu, if_true] at this
   exact ⟨.inl rfl, this⟩
  ·by_cases h1 : x = .ret
   ·subst h1
    rw [get_ne h0, get_self] at hx; injection hx with hx; subst hx
    have hsf : (s.pc.ev e).bool = false := by
     cases hc : (s.pc.ev e).bool with
     | false => rfl
     | true => exact absurd (he.one .norm .ret s t get_self (by rw [get_ne h0, get_self]) hc hu) (by simp)
    have := hm.2.1
    simp only [pick, hsf, Bool.false_eq_true, if_false] at this
    exact ⟨.inr rfl, this⟩
   ·rw [get_ne h0, get_ne h1] at hx; cases hx
 ·rename_i t s
  simp only [Option.some.injEq] at h
  have hm := mergeSt_good (T := T) (e := e) (w0 := w0) (c := s.pc) (both := none) (s := s) (t := t) (g := g) (by rw [h]; exact hg) (fun _ _ _ h0 => by cases h0)
  rw [h] at hm
  refine ⟨hm.1, fun x u hx hu => ?_⟩
  by_cases h1 : x = .ret
  ·subst h1
   rw [get_self] at hx; injection hx with hx; subst hx
   have hsf : (s.pc.ev e).bool = false := by
    cases hc : (s.pc.ev e).bool with
    | false => rfl
    | true => exact absurd (he.one .norm .ret s t (by rw [get_ne (by simp), get_self]) get_self hc hu) (by simp)
   have := hm.2.1
   simp only [pick, hsf, Bool.false_eq_true, if_false] at this
   exact ⟨.inr rfl, this⟩
  ·by_cases h0 : x = .norm
   ·subst h0
    rw [get_ne h1, get_self] at hx; injection hx with hx; subst hx
    have := hm.2.1
    simp only [pick, hu, if_true] at this
    exact ⟨.inl rfl, this⟩
   ·rw [get_ne h1, get_ne h0] at hx; cases hx
 ·cases h
theorem ends_block {S : St} {id : Nat} {c : Code} {o : Outs} {g g' : G} {outs : Outs} (ha : Ends P T e w0 S (fun Q a w => c.wp P Q a w) o)
  (h : (match Outs.get (.exit id) o, Outs.get .norm o with
   | none, _ => some (o, g)
   | some t, none => some ((.norm, t) :: Outs.drop (.exit id) o, g)
   | some t, some s =>
    let (u, g) := mergeSt s.pc none s t g
    some ((.norm, u) :: Outs.drop (.exit id) (Outs.drop .norm o), g)) = some (outs, g')) (hg : Good T e g') :
  Good T e g ∧ Ends P T e w0 S (fun Q a w => (Code.block id c).wp P Q a w) outs := by
 have inb : ∀ {x : Xit} {Q : Exit → Act → World → Prop}, x ≠ .exit id → Exit.inBlock id Q x.to = Q x.to := fun {x Q} hx => by
  cases x with
  | norm => rfl
  | ret => rfl
  | exit id' =>
   have : id' ≠ id := fun h0 => hx (by rw [h0])
   funext a w
   simp [Xit.to, Exit.inBlock, this]
 have inb2 : ∀ {Q : Exit → Act → World → Prop}, Exit.inBlock id Q (Xit.exit id).to = Q .normal := fun {Q} => by
  funext a w
  simp [Xit.to, Exit.inBlock]
 split at h
 ·rename_i hx0
  simp only [Option.some.injEq, Prod.mk.injEq] at h
  obtain ⟨rfl, rfl⟩ := h
  refine ⟨hg, ha.pc, ha.one, fun loc a w Q hpc hf hw hQ => wp_block (ha.wp loc a w _ hpc hf hw fun x s hx hs => ?_)⟩
  rw [inb (fun h0 => by rw [h0, hx0] at hx; cases hx)]
  exact hQ x s hx hs
 ·rename_i t ht hn
  simp only [Option.some.injEq, Prod.mk.injEq] at h
  obtain ⟨rfl, rfl⟩ := h
  have back : ∀ {x s}, Outs.get x ((.norm, t) :: Outs.drop (.exit id) o) = some s → (x = .norm ∧ s = t) ∨ (x ≠ .norm ∧ x ≠ .exit id ∧ Outs.get x o = some s) := fun {x s} hx => by
   by_cases h0 : x = .norm
   ·subst h0; rw [get_self] at hx; injection hx with hx; exact .inl ⟨rfl, hx.symm⟩
   ·rw [get_ne h0] at hx
    by_cases h1 : x = .exit id
    ·subst h1; rw [get_drop] at hx; cases hx
    ·rw [get_drop_ne h1] at hx; exact .inr ⟨h0, h1, hx⟩
  refine ⟨hg, fun x s hx hs => ?_, fun x y s u hx hy hs hu => ?_, fun loc a w Q hpc hf hw hQ => wp_block (ha.wp loc a w _ hpc hf hw fun x s hx hs => ?_)⟩
  ·rcases back hx with ⟨_, rfl⟩ | ⟨_, _, h3⟩
   ·exact ha.pc _ _ ht hs
   ·exact ha.pc _ _ h3 hs
  ·rcases back hx with ⟨rfl, rfl⟩ | ⟨h1, h2, h3⟩ <;> rcases back hy with ⟨rfl, rfl⟩ | ⟨h1', h2', h3'⟩
   ·rfl
   ·exact absurd (ha.one _ _ _ _ h3' ht hu hs) h2'
   ·exact absurd (ha.one _ _ _ _ h3 ht hs hu) h2
   ·exact ha.one _ _ _ _ h3 h3' hs hu
  ·by_cases h1 : x = .exit id
   ·subst h1
    rw [ht] at hx
    injection hx with hx
    subst hx
    rw [inb2]
    exact hQ .norm t get_self hs
   ·rw [inb h1]
    have h0 : x ≠ .norm := fun h0 => by rw [h0, hn] at hx; cases hx
    exact hQ x s (by rw [get_ne h0, get_drop_ne h1]; exact hx) hs
 ·rename_i t s ht hn
  simp only [Option.some.injEq, Prod.mk.injEq] at h
  obtain ⟨rfl, rfl⟩ := h
  have hm := mergeSt_good (w0 := w0) hg (fun _ _ _ h0 => by cases h0)
  have back : ∀ {x u}, Outs.get x ((.norm, (mergeSt s.pc none s t g).1) :: Outs.drop (.exit id) (Outs.drop .norm o)) = some u →
    (x = .norm ∧ u = (mergeSt s.pc none s t g).1) ∨ (x ≠ .norm ∧ x ≠ .exit id ∧ Outs.get x o = some u) := fun {x u} hx => by
   by_cases h0 : x = .norm
   ·subst h0; rw [get_self] at hx; injection hx with hx; exact .inl ⟨rfl, hx.symm⟩
   ·rw [get_ne h0] at hx
    by_cases h1 : x = .exit id
    ·subst h1; rw [get_drop] at hx; cases hx
    ·rw [get_drop_ne h1, get_drop_ne h0] at hx; exact .inr ⟨h0, h1, hx⟩
  have mpc : (((mergeSt s.pc none s t g).1).pc.ev e).bool = true → ∃ z v, (z = .norm ∨ z = .exit id) ∧ Outs.get z o = some v ∧ (v.pc.ev e).bool = true := fun hu => by
   rw [hm.2.2] at hu
   cases hc : (s.pc.ev e).bool <;> simp only [pick, hc, if_true, if_false, Bool.false_eq_true] at hu
   ·exact ⟨.exit id, t, .inr rfl, ht, hu⟩
   ·exact ⟨.norm, s, .inl rfl, hn, hc⟩
  refine ⟨hm.1, fun x u hx hu => ?_, fun x y u v hx hy hu hv => ?_, fun loc a w Q hpc hf hw hQ => wp_block (ha.wp loc a w _ hpc hf hw fun x u hx hu => ?_)⟩
  ·rcases back hx with ⟨_, rfl⟩ | ⟨_, _, h3⟩
   ·obtain ⟨z, v, _, hz, hv⟩ := mpc hu
    exact ha.pc _ _ hz hv
   ·exact ha.pc _ _ h3 hu
  ·rcases back hx with ⟨rfl, rfl⟩ | ⟨h1, h2, h3⟩ <;> rcases back hy with ⟨rfl, rfl⟩ | ⟨h1', h2', h3'⟩
   ·rfl
   ·obtain ⟨z, v', hz0, hz, hv'⟩ := mpc hu
    have := ha.one _ _ _ _ h3' hz hv hv'
    subst this
    rcases hz0 with hz0 | hz0
    ·exact absurd hz0 h1'
    ·exact absurd hz0 h2'
   ·obtain ⟨z, v', hz0, hz, hv'⟩ := mpc hv
    have := ha.one _ _ _ _ h3 hz hu hv'
    subst this
    rcases hz0 with hz0 | hz0
    ·exact absurd hz0 h1
    ·exact absurd hz0 h2
   ·exact ha.one _ _ _ _ h3 h3' hu hv
  ·by_cases h1 : x = .exit id
   ·subst h1
    rw [ht] at hx
    injection hx with hx
    subst hx
    rw [inb2]
    have hsf : (s.pc.ev e).bool = false := by
     cases hc : (s.pc.ev e).bool with
     | false => rfl
     | true => exact absurd (ha.one _ _ _ _ hn ht hc hu) (by simp)
    have hr := hm.2.1
    simp only [pick, hsf, Bool.false_eq_true, if_false] at hr
    exact (hQ .norm _ get_self (by rw [hm.2.2]; simp only [pick, hsf, Bool.false_eq_true, if_false]; exact hu)).ref hr
   ·rw [inb h1]
    by_cases h0 : x = .norm
    ·subst h0
     rw [hn] at hx
     injection hx with hx
     subst hx
     have hr := hm.2.1
     simp only [pick, hu, if_true] at hr
     exact (hQ .norm _ get_self (by rw [hm.2.2]; simp only [pick, hu, if_true])).ref hr
    ·exact hQ x u (by rw [get_ne h0, get_drop_ne h1, get_drop_ne h0]; exact hx) hu
end
end Rx
namespace Rx
open Go Go.RowKit
def Teq : Tag → A → A → Prop
 | .i, a, b => a.int = b.int
 | .b, a, b => a.bool = b.bool
 | .v, a, b => a.val = b.val
 | .any, a, b => a = b
 | .no, _, _ => True
theorem Teq.of_eq {t : Tag} {a b : A} (h : a = b) : Teq t a b := by
 subst h
 cases t <;> first | rfl | trivial
section
variable {T : Nat → List A → Bool × List A} {e e1 e2 : Nat → A} {n : Nat} {loc : Loc} {P : Program} {X : Ctx} {w0 : W0} {tg : Nat → Tag}
theorem useL_eq (h : ∀ i, Teq (tg i) (e1 i) (e2 i)) {t : Tag} {x : L} (hx : useL tg t x = true) : Teq t (x.ev e1) (x.ev e2) := by
 unfold useL at hx
 split at hx
 ·rename_i i
  simp only [Bool.or_eq_true, beq_iff_eq] at hx
  have hi := h i
  rcases hx with hx | hx
  ·rw [hx] at hi; exact hi
  ·rw [hx] at hi; exact .of_eq hi
 ·rename_i hnv
  refine .of_eq ?_
  cases x with
  | var i => exact absurd rfl (hnv i)
  | _ => rfl
theorem useK_rel (h : ∀ i, Teq (tg i) (e1 i) (e2 i)) {k : K} {v : Value} (hu : useK tg k = true) (hk : k.rel e1 n loc v) : k.rel e2 n loc v := by
 obtain ⟨h1, h2, h3⟩ := hk
 cases k
 case int kd x =>
  have := useL_eq h (t := .i) hu
  simp only [Teq] at this
  exact ⟨trivial, h2, .inr (by rw [h3.resolve_left (by simp)]; simp only [K.sem, this])⟩
 case bool x =>
  have := useL_eq h (t := .b) hu
  simp only [Teq] at this
  exact ⟨trivial, h2, .inr (by rw [h3.resolve_left (by simp)]; simp only [K.sem, this])⟩
 case str x =>
  have := useL_eq h (t := .v) hu
  simp only [Teq] at this
  exact ⟨trivial, h2, .inr (by rw [h3.resolve_left (by simp)]; simp only [K.sem, A.str, this])⟩
 case val x =>
  have := useL_eq h (t := .v) hu
  simp only [Teq] at this
  exact ⟨trivial, h2, .inr (by rw [h3.resolve_left (by simp)]; simp only [K.sem, this])⟩
 case sptr r o s m x =>
  have := useL_eq h (t := .i) hu
  simp only [Teq] at this
  simp only [K.ok, this] at h1
  exact ⟨h1, h2, .inr (by rw [h3.resolve_left (by simp)]; simp only [K.sem, this])⟩
 case lsl r m =>
  have := useL_eq h (t := .i) hu
  simp only [Teq] at this
  simp only [K.ok, this] at h1
  exact ⟨h1, h2, .inr (by rw [h3.resolve_left (by simp)]; simp only [K.sem, this])⟩
 case fsl r m =>
  have := useL_eq h (t := .i) hu
  simp only [Teq] at this
  simp only [K.ok, this] at h1
  exact ⟨h1, h2, .inr (by rw [h3.resolve_left (by simp)]; simp only [K.sem])⟩
 case lptr r o s x m =>
  simp only [useK, Bool.and_eq_true] at hu
  have q1 := useL_eq h (t := .i) hu.1
  have q2 := useL_eq h (t := .i) hu.2
  simp only [Teq] at q1 q2
  simp only [K.ok, q1, q2] at h1
  exact ⟨h1, h2, .inr (by rw [h3.resolve_left (by simp)]; simp only [K.sem, q1])⟩
 all_goals exact ⟨h1, h2, h3⟩
theorem useKs_rel (h : ∀ i, Teq (tg i) (e1 i) (e2 i)) : ∀ {l : List K} {vs : List Value}, l.all (useK tg) = true → KsRel e1 n loc l vs → KsRel e2 n loc l vs
 | [], [], _, _ => trivial
 | _ :: _, _ :: _, hu, hk => by
  simp only [List.all_cons, Bool.and_eq_true] at hu
  exact ⟨useK_rel h hu.1 hk.1, useKs_rel h hu.2 hk.2⟩
theorem useC_rel (h : ∀ i, Teq (tg i) (e1 i) (e2 i)) {c : C} {v : Value} (hu : useC tg c = true) (hk : c.rel e1 n loc v) : c.rel e2 n loc v := by
 cases c with
 | k x => exact useK_rel h hu hk
 | clo f a b =>
  simp only [useC, Bool.and_eq_true] at hu
  obtain ⟨va, vb, a1, a2, a3⟩ := hk
  exact ⟨va, vb, a1, useKs_rel h hu.1 a2, useKs_rel h hu.2 a3⟩
 | cfn x f g =>
  have q := useL_eq h (t := .b) (x := x) hu
  simp only [Teq] at q
  simp only [C.rel, ← q]
  exact hk
theorem useCs_rel (h : ∀ i, Teq (tg i) (e1 i) (e2 i)) : ∀ {l : List C} {vs : List Value}, l.all (useC tg) = true → CsRel e1 n loc l vs → CsRel e2 n loc l vs
 | [], [], _, _ => trivial
 | _ :: _, _ :: _, hu, hk => by
  simp only [List.all_cons, Bool.and_eq_true] at hu
  exact ⟨useC_rel h hu.1 hk.1, useCs_rel h hu.2 hk.2⟩
theorem usePV_rel (h : ∀ i, Teq (tg i) (e1 i) (e2 i)) {c : PV} {v : Value} (hu : usePV tg c = true) (hk : c.rel e1 n loc v) : c.rel e2 n loc v := by
 cases c with
 | one x => exact useC_rel h hu hk
 | agg l => obtain ⟨vs, a1, a2⟩ := hk; exact ⟨vs, a1, useCs_rel h hu a2⟩
theorem usePVs_rel (h : ∀ i, Teq (tg i) (e1 i) (e2 i)) : ∀ {l : List PV} {vs : List Value}, l.all (usePV tg) = true → PVsRel e1 n loc l vs → PVsRel e2 n loc l vs
 | [], [], _, _ => trivial
 | _ :: _, _ :: _, hu, hk => by
  simp only [List.all_cons, Bool.and_eq_true] at hu
  exact ⟨usePV_rel h hu.1 hk.1, usePVs_rel h hu.2 hk.2⟩
theorem useSV_rel (h : ∀ i, Teq (tg i) (e1 i) (e2 i)) {c : SV} {v : Value} (hu : useSV tg c = true) (hk : c.rel e1 n loc v) : c.rel e2 n loc v := by
 cases c with
 | pv p => exact usePV_rel h hu hk
 | tup l => obtain ⟨vs, a1, a2⟩ := hk; exact ⟨vs, a1, usePVs_rel h hu a2⟩
 | cond gs p => simp [useSV] at hu
 | undef => exact hk
 | junk => trivial
theorem useFr_rel (h : ∀ i, Teq (tg i) (e1 i) (e2 i)) {fr : List SV} {tm : Array Value} (hu : fr.all (useSV tg) = true) (hk : FrRel e1 n loc fr tm) : FrRel e2 n loc fr tm :=
 ⟨hk.len, fun i s v hs hv => useSV_rel h (by rw [List.all_eq_true] at hu; exact hu _ (List.mem_of_getElem? hs)) (hk.at_ i s v hs hv)⟩
theorem useRows_ok (h : ∀ i, Teq (tg i) (e1 i) (e2 i)) {w : World} {B : Bd} {rows : List Row} (hu : rows.all (useRow tg) = true) (hk : RowsOK e1 loc rows w B) : RowsOK e2 loc rows w B := by
 rw [List.all_eq_true] at hu
 have use_ : ∀ (r : Nat) (x : Row), rows[r]? = some x → x.cells.all (useC tg) = true ∧ ∀ q, x.lst = some q → useL tg .any q.x = true ∧ useL tg .i q.n = true := fun r x hr => by
  have := hu x (List.mem_of_getElem? hr)
  simp only [useRow, Bool.and_eq_true] at this
  refine ⟨this.1, fun q hq => ?_⟩
  have h2 := this.2
  rw [hq] at h2
  simpa using h2
 refine ⟨fun r x hr => ?_, fun r x q hr hq => ?_, hk.lapart, hk.apart⟩
 ·have hrow := hk.row r x hr
  obtain ⟨u1, _⟩ := use_ r x hr
  unfold RowOK at hrow ⊢
  split
  ·rename_i ho
   rw [if_pos ho] at hrow
   obtain ⟨b1, b2, b3, b4, vs, sp, b5, b6, b7⟩ := hrow
   exact ⟨b1, b2, b3, b4, vs, sp, b5, useCs_rel h u1 b6, b7⟩
  ·rename_i ho
   rw [if_neg ho] at hrow
   intro hc
   obtain ⟨b1, b2, b3⟩ := hrow hc
   refine ⟨b1, b2, fun j c hj => ?_⟩
   obtain ⟨v, hv, hr'⟩ := b3 j c hj
   rw [List.all_eq_true] at u1
   exact ⟨v, hv, useC_rel h (u1 c (List.mem_of_getElem? hj)) hr'⟩
 ·obtain ⟨k1, as, m, l1, l2, l3, l4, l5⟩ := hk.lst r x q hr hq
  obtain ⟨u1, u2⟩ := (use_ r x hr).2 q hq
  have q1 := useL_eq h u1
  have q2 := useL_eq h u2
  simp only [Teq] at q1 q2
  exact ⟨k1, as, m, by rw [← q1]; exact l1, l2, by rw [← q2]; exact l3, l4, l5⟩
def envA (as : List A) (i : Nat) : A := as.getD i (.i 0)
def envX (q : Lp) (as outs : List A) (i : Nat) : A :=
 if i < q.k then (if q.keep.getD i false then as.getD i (.i 0) else .i 0) else outs.getD (i - q.k) (.i 0)
def LoopOK (P : Program) (T : Nat → List A → Bool × List A) (q : Lp) (code : Code) : Prop :=
 (∀ as, (T q.id as).1 = true → (T q.id as).2.length = q.w) ∧
 ∀ (as : List A) (w0 : W0) (loc : Loc) (a : Act) (w : World) (Q : Exit → Act → World → Prop), as.length = q.k → (T q.id as).1 = true →
  FrRel (envA as) q.tm.rows.length loc q.tm.fr a.tmps → Cls (envA as) w0 loc q.tm.rows w →
  (∀ x s e', (x, s) ∈ q.outs → (∀ i, Teq (q.tag i) (e' i) (envX q as (T q.id as).2 i)) → (s.pc.ev e').bool = true → ∀ (loc' : Loc) (a' : Act) (w' : World), LExt q.m loc loc' →
   FrRel e' s.rows.length loc' s.fr a'.tmps → a'.defers = a.defers → Cls e' w0 loc' s.rows w' → Q x.to a' w') → LW P code Q a w
theorem loopOuts_good {σ : Nat → L} {pc : L} : ∀ {l : List (Xit × St)} {g : G}, Good T e (loopOuts σ pc l g).2 → Good T e g ∧
  (∀ x u, Outs.get x (loopOuts σ pc l g).1 = some u → ∃ s, (x, s) ∈ l ∧ u.fr = (subSt σ s).fr ∧ u.rows = (subSt σ s).rows ∧ (u.pc.ev e).bool = ((pc.ev e).bool && ((subL σ s.pc).ev e).bool)) ∧
  (xitsB l = true → ∀ x s, (x, s) ∈ l → ∃ u, Outs.get x (loopOuts σ pc l g).1 = some u ∧ u.fr = (subSt σ s).fr ∧ u.rows = (subSt σ s).rows ∧ (u.pc.ev e).bool = ((pc.ev e).bool && ((subL σ s.pc).ev e).bool))
 | [], g, h => ⟨h, fun x u hx => by simp [loopOuts, Outs.get] at hx, fun _ x s hs => by cases hs⟩
 | (y, t) :: l, g, h => by
  unfold loopOuts at h ⊢
  simp only at h ⊢
  obtain ⟨h1, h2, h3⟩ := loopOuts_good h
  have hm := mkAnd_good h1
  refine ⟨hm.1, fun x u hx => ?_, fun hb x s hs => ?_⟩
  ·by_cases hxy : x = y
   ·subst hxy
    rw [get_self] at hx
    injection hx with hx
    subst hx
    exact ⟨t, List.mem_cons_self .., rfl, rfl, hm.2⟩
   ·rw [get_ne hxy] at hx
    obtain ⟨s, s1, s2⟩ := h2 x u hx
    exact ⟨s, List.mem_cons_of_mem _ s1, s2⟩
  ·simp only [xitsB, Bool.and_eq_true, List.all_eq_true] at hb
   rcases List.mem_cons.1 hs with heq | hs
   ·injection heq with h5 h6
    subst h5 h6
    exact ⟨_, get_self, rfl, rfl, hm.2⟩
   ·have hne : x ≠ y := fun h0 => by
     have := hb.1 _ hs
     rw [h0] at this
     simp [Xit.same_iff.2 rfl] at this
    obtain ⟨u, u1, u2⟩ := h3 hb.2 x s hs
    exact ⟨u, by rw [get_ne hne]; exact u1, u2⟩
theorem mustApart_good {pc a : L} : ∀ {l : List L} {g : G}, Good T e (mustApart pc a l g) → Good T e g ∧ ((pc.ev e).bool = true → ∀ b ∈ l, ¬ ((a.ev e).bool = true ∧ (b.ev e).bool = true))
 | [], g, h => ⟨h, fun _ b hb => by cases hb⟩
 | b :: l, g, h => by
  unfold mustApart at h
  simp only at h
  obtain ⟨h1, h2⟩ := mustApart_good h
  have hm := must_good h1
  have hn := mkNot_good hm.1
  have ha := mkAnd_good hn.1
  refine ⟨ha.1, fun hpc c hc => ?_⟩
  rcases List.mem_cons.1 hc with rfl | hc
  ·have := hm.2 hpc
   rw [hn.2] at this
   simp only [A.bool_b, ha.2] at this
   intro ⟨k1, k2⟩
   rw [k1, k2] at this
   cases this
  ·exact h2 hpc c hc
theorem mustAllApart_good {pc : L} : ∀ {l : List L} {g : G}, Good T e (mustAllApart pc l g) → Good T e g ∧ ((pc.ev e).bool = true → ∀ (i j : Nat) a b, i < j → l[i]? = some a → l[j]? = some b → ¬ ((a.ev e).bool = true ∧ (b.ev e).bool = true))
 | [], g, h => ⟨h, fun _ i j a b _ ha => by simp at ha⟩
 | c :: l, g, h => by
  unfold mustAllApart at h
  obtain ⟨h1, h2⟩ := mustAllApart_good h
  obtain ⟨h3, h4⟩ := mustApart_good h1
  refine ⟨h3, fun hpc i j a b hij ha hb => ?_⟩
  obtain ⟨j, rfl⟩ : ∃ j', j = j' + 1 := ⟨j - 1, by omega⟩
  have hb' : l[j]? = some b := by simpa using hb
  cases i with
  | zero =>
   simp only [List.getElem?_cons_zero, Option.some.injEq] at ha
   subst ha
   exact h4 hpc b (List.mem_of_getElem? hb')
  | succ i => exact h2 hpc i j a b (by omega) (by simpa using ha) hb'
theorem tryLoop_sound {q : Lp} {code : Code} {S : St} {outs : Outs} {g g' : G} (hq : LoopOK P T q code) (h : tryLoop q S g = some (outs, g')) (hg : Good T e g') :
  Good T e g ∧ Ends P T e w0 S (fun Q a w => LW P code Q a w) outs := by
 unfold tryLoop at h
 split at h
 rename_i ml ρ _
 simp at h
 obtain ⟨hm, ⟨⟨c1, c2⟩, c3⟩, h⟩ := h
 generalize hls : lettersFor ml q.k = ls at h c1
 have hlen : ls.length = q.k := by rw [← hls]; simp [lettersFor]
 have hgl : Good T e (loopOuts (sigmaX q ls (moreOf (g.next + 1) q.w)) S.pc q.outs (mustAllApart S.pc (q.outs.map fun x => subL (sigmaX q ls (moreOf (g.next + 1) q.w)) x.2.pc) ((g.pushN (.call q.id) ls (1 + q.w)).2.must S.pc (.var g.next)))).2 := by
  have h' : loopOuts (sigmaX q ls (moreOf (g.next + 1) q.w)) S.pc q.outs (mustAllApart S.pc (q.outs.map fun x => subL (sigmaX q ls (moreOf (g.next + 1) q.w)) x.2.pc) ((g.pushN (.call q.id) ls (1 + q.w)).2.must S.pc (.var g.next))) = (outs, g') := h
  rw [h']
  exact hg
 have houts : outs = (loopOuts (sigmaX q ls (moreOf (g.next + 1) q.w)) S.pc q.outs (mustAllApart S.pc (q.outs.map fun x => subL (sigmaX q ls (moreOf (g.next + 1) q.w)) x.2.pc) ((g.pushN (.call q.id) ls (1 + q.w)).2.must S.pc (.var g.next)))).1 := by
  have h' : loopOuts (sigmaX q ls (moreOf (g.next + 1) q.w)) S.pc q.outs (mustAllApart S.pc (q.outs.map fun x => subL (sigmaX q ls (moreOf (g.next + 1) q.w)) x.2.pc) ((g.pushN (.call q.id) ls (1 + q.w)).2.must S.pc (.var g.next))) = (outs, g') := h
  rw [h']
 clear h hg
 generalize hσ : sigmaX q ls (moreOf (g.next + 1) q.w) = σ at hgl houts
 obtain ⟨h1, h2, h3⟩ := loopOuts_good hgl
 obtain ⟨h4, h5⟩ := mustAllApart_good h1
 have hmu := must_good h4
 have hpn := pushN_good hmu.1
 rw [← houts] at h2 h3
 refine ⟨hpn.1, fun x u hx hu => ?_, fun x y u v hx hy hu hv => ?_, fun loc a w Q hpc hf hw hQ => ?_⟩
 ·obtain ⟨s, _, _, _, s4⟩ := h2 x u hx
  rw [s4, Bool.and_eq_true] at hu
  exact hu.1
 ·obtain ⟨s, s1, _, _, s4⟩ := h2 x u hx
  obtain ⟨t, t1, _, _, t4⟩ := h2 y v hy
  rw [s4, Bool.and_eq_true] at hu
  rw [t4, Bool.and_eq_true] at hv
  obtain ⟨i, hi, hi2⟩ := List.mem_iff_getElem.1 s1
  obtain ⟨j, hj, hj2⟩ := List.mem_iff_getElem.1 t1
  have gi : (q.outs.map fun x => subL σ x.2.pc)[i]? = some (subL σ s.pc) := by rw [List.getElem?_map, List.getElem?_eq_getElem hi, hi2]; rfl
  have gj : (q.outs.map fun x => subL σ x.2.pc)[j]? = some (subL σ t.pc) := by rw [List.getElem?_map, List.getElem?_eq_getElem hj, hj2]; rfl
  rcases Nat.lt_trichotomy i j with hij | hij | hij
  ·exact absurd ⟨hu.2, hv.2⟩ (h5 hu.1 i j _ _ hij gi gj)
  ·subst hij
   rw [hi2] at hj2
   injection hj2
  ·exact absurd ⟨hv.2, hu.2⟩ (h5 hu.1 j i _ _ hij gj gi)
 ·-- the head
  obtain ⟨k1, k2, k3, k4, k5⟩ := ckSt_sound (e := e) (loc := loc) (w0 := w0) c1
  have he1 : ∀ i, envA (ls.map (L.ev e)) i = (sigmaOf ls i).ev e := fun i => by
   unfold envA sigmaOf
   rw [List.getD, List.getElem?_map]
   cases ls[i]? <;> rfl
  have hpre : (T q.id (ls.map (L.ev e))).1 = true := by
   have p1 := hmu.2 hpc
   have p2 := hpn.2 0 _ rfl
   simp only [G.pushN, Nat.add_zero] at p2
   rw [L.ev_var, p2] at p1
   exact p1
  have hfr := k4 _ hf
  have hcl := k5 _ hw
  have hrl : (subSt (sigmaOf ls) q.tm).rows.length = q.tm.rows.length := by simp [subSt]
  rw [hrl] at hfr
  refine hq.2 (ls.map (L.ev e)) w0 (locR loc ρ) a w Q (by simpa using hlen) hpre ((subFr_rel he1).1 hfr) (by obtain ⟨B, hB, hR, hbel⟩ := hcl; exact ⟨B, hB, (subRows_ok he1).1 hR, hbel⟩) fun x s e' hxs hag hs loc' a' w' q1 q2 q3 q4 => ?_
  obtain ⟨u, u1, u2, u3, u4⟩ := h3 c2 x s hxs
  have hus := c3 _ _ hxs
  simp only [Bool.and_eq_true, useSt] at hus
  obtain ⟨⟨⟨us1, us2⟩, us3⟩, us4⟩ := hus
  have hw' := hq.1 _ hpre
  have he2 : ∀ i, envX q (ls.map (L.ev e)) (T q.id (ls.map (L.ev e))).2 i = (σ i).ev e := fun i => by
   rw [← hσ]
   unfold envX sigmaX
   split
   ·split
    ·exact he1 i
    ·rfl
   ·unfold sigmaOf moreOf
    generalize i - q.k = j
    by_cases hj : j < q.w
    ·have hj' : (T q.id (ls.map (L.ev e))).2[j]? = some ((T q.id (ls.map (L.ev e))).2[j]'(by omega)) := List.getElem?_eq_getElem (by omega)
     have := hpn.2 (j + 1) _ (show (D.ev T (.call q.id) (ls.map (L.ev e)))[j + 1]? = some _ from hj')
     simp only [G.pushN] at this
     rw [List.getD, hj', List.getElem?_map, List.getElem?_range hj]
     simp only [Option.map_some, Option.getD_some, L.ev_var]
     rw [← this]
     congr 1
     omega
    ·rw [List.getD, List.getElem?_eq_none (by omega), List.getElem?_eq_none (by simp; omega)]
     rfl
  have hfr2 := useFr_rel hag us1 q2
  obtain ⟨B4, hB4, hR4, hbel4⟩ := q4
  have hrw2 := useRows_ok hag us2 hR4
  have hpc2 := useL_eq hag us3
  simp only [Teq] at hpc2
  have hrl2 : (subSt σ s).rows.length = s.rows.length := by simp [subSt]
  refine hQ x u u1 (by rw [u4, hpc, subL_ev he2, ← hpc2, hs]; rfl) loc' a' w' (by rw [hm]; exact k3.trans q1 (Nat.le_refl _)) (by rw [hm, u3, hrl2]; exact us4) ?_ q3 ?_
  ·rw [u2, u3, hrl2]
   exact (subFr_rel he2).2 hfr2
  ·rw [u3]
   exact ⟨B4, hB4, (subRows_ok he2).2 hrw2, hbel4⟩
end
end Rx
namespace Rx
open Go Go.RowKit
section
variable {T : Nat → List A → Bool × List A} {e : Nat → A} {P : Program} {X : Ctx} {w0 : W0}
theorem FrRel.enter {n : Nat} {loc : Loc} {args : List PV} {vs : List Value} {m : Nat} (h : PVsRel e n loc args vs) :
  FrRel e n loc (args.map .pv ++ List.replicate (m - args.length) .undef) (vs.toArray ++ Array.replicate (m - vs.toArray.size) Go.undef) := by
 have hl := PVsRel_len h
 have at_ : ∀ {args : List PV} {vs : List Value} (i : Nat) (p : PV) (v : Value), PVsRel e n loc args vs → args[i]? = some p → vs[i]? = some v → p.rel e n loc v := by
  intro args
  induction args with
  | nil => intro vs i p v _ h; simp at h
  | cons a l ih =>
   intro vs i p v h hp hv
   cases vs with
   | nil => exact h.elim
   | cons b vs =>
    cases i with
    | zero => simp at hp hv; subst hp hv; exact h.1
    | succ i => exact ih i p v h.2 (by simpa using hp) (by simpa using hv)
 refine ⟨by simp [hl], fun i s v hs hv => ?_⟩
 by_cases hi : i < args.length
 ·rw [List.getElem?_append_left (by simpa using hi)] at hs
  rw [Array.getElem?_append_left (by simp; omega)] at hv
  simp only [List.getElem?_map, Option.map_eq_some_iff] at hs
  obtain ⟨p, hp, rfl⟩ := hs
  exact at_ i p v h hp (by simpa using hv)
 ·rw [List.getElem?_append_right (by simp; omega)] at hs
  rw [Array.getElem?_append_right (by simp; omega)] at hv
  have hs' := List.mem_of_getElem? hs
  have hv' := Array.mem_of_getElem? hv
  rw [List.mem_replicate] at hs'
  rw [Array.mem_replicate] at hv'
  rw [hs'.2, hv'.2]
  rfl
theorem mergePc_back {c : L} {both : Option (L × L × L)} {s t : L} {g : G} (h : Good T e (mergePc c both s t g).2) : Good T e g := by
 unfold mergePc at h
 split at h
 ·split at h
  ·exact h
  ·exact (mkIteB_good h).1
 ·exact (mkIteB_good h).1
theorem mergeSt_back {c : L} {both : Option (L × L × L)} {s t : St} {g : G} (h : Good T e (mergeSt c both s t g).2) : Good T e g := by
 unfold mergeSt at h
 generalize alignBoth s t = st at h
 simp only at h
 exact (mergeFr_good (mergeRows_good (mergePc_back h)).1).1
theorem combine_back {c nc : L} {both : Option (L × L × L)} : ∀ {o1 o2 : Outs} {g : G}, Good T e (combine c nc both o1 o2 g).2 → Good T e g
 | [], o2, g, h => (addPc_good (w0 := default) h).1
 | (y, s) :: l, o2, g, h => by
  unfold combine at h
  cases ht : Outs.get y o2 with
  | some t =>
   rw [ht] at h
   simp only at h
   exact mergeSt_back (combine_back h)
  | none =>
   rw [ht] at h
   simp only at h
   exact (mkAnd_good (combine_back h)).1
theorem block_back {id : Nat} {o : Outs} {g g' : G} {outs : Outs} (h : (match Outs.get (.exit id) o, Outs.get .norm o with
   | none, _ => some (o, g)
   | some t, none => some ((.norm, t) :: Outs.drop (.exit id) o, g)
   | some t, some s =>
    let (u, g) := mergeSt s.pc none s t g
    some ((.norm, u) :: Outs.drop (.exit id) (Outs.drop .norm o), g)) = some (outs, g')) (hg : Good T e g') : Good T e g := by
 split at h
 ·simp only [Option.some.injEq, Prod.mk.injEq] at h
  obtain ⟨_, rfl⟩ := h
  exact hg
 ·simp only [Option.some.injEq, Prod.mk.injEq] at h
  obtain ⟨_, rfl⟩ := h
  exact hg
 ·simp only [Option.some.injEq, Prod.mk.injEq] at h
  obtain ⟨_, rfl⟩ := h
  exact mergeSt_back hg
theorem joined_back {o : Outs} {g g' : G} {s : St} (h : joined o g = some (s, g')) (hg : Good T e g') : Good T e g := by
 unfold joined at h
 split at h
 ·simp only [Option.some.injEq, Prod.mk.injEq] at h
  obtain ⟨_, rfl⟩ := h
  exact hg
 ·simp only [Option.some.injEq, Prod.mk.injEq] at h
  obtain ⟨_, rfl⟩ := h
  exact hg
 ·simp only [Option.some.injEq] at h
  exact mergeSt_back (c := _) (both := none) (s := _) (t := _) (by rw [h]; exact hg)
 ·simp only [Option.some.injEq] at h
  exact mergeSt_back (c := _) (both := none) (s := _) (t := _) (by rw [h]; exact hg)
 ·cases h
def child : Code → Bool → Option Code
 | .seq a b, t => some (if t then b else a)
 | .cond _ a b, t => some (if t then b else a)
 | .block _ c, false => some c
 | .loop c, false => some c
 | _, _ => none
def subAt : List Bool → Code → Option Code
 | [], c => some c
 | b :: p, c => match subAt p c with | some d => child d b | none => none
def AtF (X : Ctx) (f : Nat) (pa : List Bool) (c : Code) : Prop := ∃ fn body, X.fns f = some fn ∧ fn.body = some body ∧ subAt pa body = some c
theorem AtF.child {f : Nat} {pa : List Bool} {c d : Code} {b : Bool} (h : AtF X f pa c) (hd : Rx.child c b = some d) : AtF X f (b :: pa) d := by
 obtain ⟨fn, body, h1, h2, h3⟩ := h
 exact ⟨fn, body, h1, h2, by simp only [subAt, h3, hd]⟩
structure XL (P : Program) (T : Nat → List A → Bool × List A) (X : Ctx) : Prop extends XOK P T X where
 lps : ∀ q ∈ X.lps, ∀ fn body c, X.fns q.f = some fn → fn.body = some body → subAt q.p body = some (.loop c) → LoopOK P T q c
theorem all2_path : ∀ {a b : List Bool}, all2 (· == ·) a b = true → a = b
 | [], [], _ => rfl
 | [], _ :: _, h => by simp [all2] at h
 | _ :: _, [], h => by simp [all2] at h
 | a :: l, b :: m, h => by
  simp only [all2, Bool.and_eq_true, beq_iff_eq] at h
  rw [h.1, all2_path h.2]
theorem findLoop_sound {f : Nat} {pa : List Bool} {S : St} {c : Code} {outs : Outs} {g g' : G} : ∀ {l : List Lp}, (∀ q ∈ l, q.f = f → q.p = pa → LoopOK P T q c) → findLoop f pa S g l = some (outs, g') → Good T e g' →
  Good T e g ∧ Ends P T e w0 S (fun Q a w => LW P c Q a w) outs
 | [], _, h, _ => by simp [findLoop] at h
 | q :: l, hl, h, hg => by
  unfold findLoop at h
  have hl' : ∀ q ∈ l, q.f = f → q.p = pa → LoopOK P T q c := fun q hq => hl q (by simp [hq])
  split at h
  ·rename_i hc
   simp only [Bool.and_eq_true, beq_iff_eq] at hc
   split at h
   ·rename_i r hr
    injection h with h
    subst h
    exact tryLoop_sound (hl q (by simp) hc.1 (all2_path hc.2)) hr hg
   ·exact findLoop_sound hl' h hg
  ·exact findLoop_sound hl' h hg
theorem exec_sound (hX : XL P T X) : ∀ n : Nat,
  (∀ (f : Nat) (pa : List Bool) (c : Code) (S : St) (g : G) (outs : Outs) (g' : G), AtF X f pa c → exec X n f pa c S g = some (outs, g') → Good T e g' → Good T e g ∧ Ends P T e w0 S (fun Q a w => c.wp P Q a w) outs) ∧
  (∀ (f : Nat) (pa : List Bool) (c : Code) (S : St) (k : Nat) (g : G) (outs : Outs) (g' : G), AtF X f pa c → rounds X n f pa c S k g = some (outs, g') → Good T e g' → Good T e g ∧ Ends P T e w0 S (fun Q a w => LW P c Q a w) outs) ∧
  InlOK P T e w0 (inline X n)
 | 0 => ⟨fun f pa c S g outs g' _ h => by simp [exec] at h, fun f pa c S k g outs g' _ h => by simp [rounds] at h, fun f args rows pc g v rows' g' h => by simp [inline] at h⟩
 | n + 1 => by
  obtain ⟨ih1, ih2, ih3⟩ := exec_sound hX n
  refine ⟨fun f pa c S g outs g' hat h hg => ?_, fun f pa c S k g outs g' hat h hg => ?_, fun f args rows pc g v rows' g' h hg => ?_⟩
  ·cases c with
   | skip =>
    simp only [exec, Option.some.injEq, Prod.mk.injEq] at h
    obtain ⟨rfl, rfl⟩ := h
    exact ⟨hg, ends_single rfl fun loc a w Q hpc hf hw hc => wp_skip (hc loc a w (LExt.refl _ _) (Nat.le_refl _) hf rfl hw)⟩
   | ret =>
    simp only [exec, Option.some.injEq, Prod.mk.injEq] at h
    obtain ⟨rfl, rfl⟩ := h
    exact ⟨hg, ends_single rfl fun loc a w Q hpc hf hw hc => wp_ret (hc loc a w (LExt.refl _ _) (Nat.le_refl _) hf rfl hw)⟩
   | exit id =>
    simp only [exec, Option.some.injEq, Prod.mk.injEq] at h
    obtain ⟨rfl, rfl⟩ := h
    exact ⟨hg, ends_single rfl fun loc a w Q hpc hf hw hc => wp_exit (hc loc a w (LExt.refl _ _) (Nat.le_refl _) hf rfl hw)⟩
   | region id ops draw =>
    simp only [exec, Option.bind_eq_bind, Option.bind_eq_some_iff, Option.some.injEq, Prod.mk.injEq] at h
    obtain ⟨⟨S', g1⟩, h1, rfl, rfl⟩ := h
    obtain ⟨k1, k2, k3⟩ := execRegion_sound hX.toXOK ih3 h1 hg
    refine ⟨k1, ends_single k2 fun loc a w Q hpc hf hw hc => ?_⟩
    have := k3 id loc a w Q hpc hf hw hc
    simpa using this
   | seq x y =>
    simp only [exec, Option.bind_eq_bind, Option.bind_eq_some_iff] at h
    obtain ⟨⟨o, g1⟩, h1, h⟩ := h
    simp only at h
    have hW : ∀ Q a w, x.wp P (Exit.then (y.wp P Q) Q) a w → (Code.seq x y).wp P Q a w := fun Q a w hh => wp_seq hh
    split at h
    ·rename_i hn
     simp only [Option.some.injEq, Prod.mk.injEq] at h
     obtain ⟨rfl, rfl⟩ := h
     obtain ⟨k1, k2⟩ := ih1 _ _ _ _ _ _ _ (hat.child rfl) h1 hg
     exact ⟨k1, ends_none (Wb := fun Q a w => y.wp P Q a w) hW k2 hn⟩
    ·rename_i s hn
     split at h
     ·rename_i hf
      simp only [Option.some.injEq, Prod.mk.injEq] at h
      obtain ⟨rfl, rfl⟩ := h
      obtain ⟨k1, k2⟩ := ih1 _ _ _ _ _ _ _ (hat.child rfl) h1 hg
      exact ⟨k1, ends_false (Wb := fun Q a w => y.wp P Q a w) hW k2 hn hf⟩
     ·simp only [Option.bind_eq_some_iff] at h
      obtain ⟨⟨o2, g2⟩, h2, h⟩ := h
      simp only at h
      split at h
      ·rename_i hr
       simp only [Option.some.injEq, Prod.mk.injEq] at h
       obtain ⟨rfl, rfl⟩ := h
       obtain ⟨q1, q2⟩ := ih1 _ _ _ _ _ _ _ (hat.child rfl) h2 hg
       obtain ⟨k1, k2⟩ := ih1 _ _ _ _ _ _ _ (hat.child rfl) h1 q1
       exact ⟨k1, rest_empty hW k2 hn q2 hr⟩
      ·simp only [Option.some.injEq] at h
       have hgc : Good T e (combine s.pc (mkNot s.pc g2).1 none o2 (Outs.drop .norm o) (mkNot s.pc g2).2).2 := by rw [h]; exact hg
       have hcg := combine_good (w0 := w0) (T := T) (e := e) (c := s.pc) (nc := (mkNot s.pc g2).1) (both := none) (o1 := o2) (o2 := Outs.drop .norm o) (g := (mkNot s.pc g2).2)
       have hgn : Good T e (mkNot s.pc g2).2 := combine_back hgc
       have hnot := mkNot_good hgn
       obtain ⟨q1, q2⟩ := ih1 _ _ _ _ _ _ _ (hat.child rfl) h2 hnot.1
       obtain ⟨k1, k2⟩ := ih1 _ _ _ _ _ _ _ (hat.child rfl) h1 q1
       have := combine_rest hW k2 hn q2 (nc := (mkNot s.pc g2).1) (by rw [hnot.2]; rfl) hgc
       rw [h] at this
       exact ⟨k1, this⟩
   | cond c x y =>
    simp only [exec, Option.bind_eq_bind, Option.bind_eq_some_iff] at h
    obtain ⟨p, hp, b, hb, h⟩ := h
    have hev : ∀ loc (a : Act), FrRel e S.rows.length loc S.fr a.tmps → a.eval c = .bool (b.ev e).bool := fun loc a hf => PV.bool?_some hb (opd_sound hp hf (fun x hx => by cases hx))
    split at h
    ·obtain ⟨k1, k2⟩ := ih1 _ _ _ _ _ _ _ (hat.child rfl) h hg
     exact ⟨k1, k2.pc, k2.one, fun loc a w Q hpc hf hw hQ => wp_cond_true (hev loc a hf) (k2.wp loc a w Q hpc hf hw hQ)⟩
    ·obtain ⟨k1, k2⟩ := ih1 _ _ _ _ _ _ _ (hat.child rfl) h hg
     exact ⟨k1, k2.pc, k2.one, fun loc a w Q hpc hf hw hQ => wp_cond_false (hev loc a hf) (k2.wp loc a w Q hpc hf hw hQ)⟩
    ·simp only [Option.bind_eq_some_iff] at h
     obtain ⟨⟨o1, g1⟩, h1, ⟨o2, g2⟩, h2, h⟩ := h
     simp only [Option.some.injEq] at h
     obtain ⟨nx, gn, hnx⟩ : ∃ nx gn, mkNot b g = (nx, gn) := ⟨_, _, rfl⟩
     obtain ⟨p1, ga, hp1⟩ : ∃ p1 ga, mkAnd S.pc b gn = (p1, ga) := ⟨_, _, rfl⟩
     obtain ⟨p2, gb, hp2⟩ : ∃ p2 gb, mkAnd S.pc nx ga = (p2, gb) := ⟨_, _, rfl⟩
     simp only [hnx, hp1, hp2] at h h1 h2
     have hgc : Good T e (combine b nx (some (S.pc, p1, p2)) o1 o2 g2).2 := by rw [h]; exact hg
     have hg2 : Good T e g2 := combine_back hgc
     obtain ⟨q1, q2⟩ := ih1 _ _ _ _ _ _ _ (hat.child rfl) h2 hg2
     obtain ⟨k1, k2⟩ := ih1 _ _ _ _ _ _ _ (hat.child rfl) h1 q1
     have m2 := mkAnd_good (T := T) (e := e) (a := S.pc) (b := nx) (g := ga) (by rw [hp2]; exact k1)
     rw [hp2] at m2
     have m1 := mkAnd_good (T := T) (e := e) (a := S.pc) (b := b) (g := gn) (by rw [hp1]; exact m2.1)
     rw [hp1] at m1
     have m0 := mkNot_good (T := T) (e := e) (a := b) (g := g) (by rw [hnx]; exact m1.1)
     rw [hnx] at m0
     have hnc : (nx.ev e).bool = !(b.ev e).bool := by rw [m0.2]; rfl
     have hcg := (combine_good (w0 := w0) hnc (fun p x y h0 => by
      simp only [Option.some.injEq, Prod.mk.injEq] at h0
      obtain ⟨rfl, rfl, rfl⟩ := h0
      exact ⟨m1.2, by rw [m2.2, hnc]⟩) hgc).2
     rw [h] at hcg
     obtain ⟨c1, c2, c3⟩ := hcg
     refine ⟨m0.1, fun x u hx hu => ?_, fun x y u v hx hy hu hv => ?_, fun loc a w Q hpc hf hw hQ => ?_⟩
     ·rcases c1 x u hx hu with ⟨_, s, s1, s2⟩ | ⟨_, s, s1, s2⟩
      ·have := k2.pc x s s1 s2
       simp only [m1.2, Bool.and_eq_true] at this
       exact this.1
      ·have := q2.pc x s s1 s2
       simp only [m2.2, Bool.and_eq_true] at this
       exact this.1
     ·rcases c1 x u hx hu with ⟨a1, s, s1, s2⟩ | ⟨a1, s, s1, s2⟩ <;> rcases c1 y v hy hv with ⟨a2, t, t1, t2⟩ | ⟨a2, t, t1, t2⟩
      ·exact k2.one _ _ _ _ s1 t1 s2 t2
      ·rw [a1] at a2; cases a2
      ·rw [a1] at a2; cases a2
      ·exact q2.one _ _ _ _ s1 t1 s2 t2
     ·refine wp_cond_split (hev loc a hf) (fun ht => ?_) (fun ht => ?_)
      ·refine k2.wp loc a w Q (by simp only [m1.2, hpc, ht, Bool.and_self]) hf hw fun x s hx hs => ?_
       obtain ⟨u, u1, u2, u3⟩ := c2 ht x s hx hs
       exact (hQ x u u1 u2).ref u3
      ·refine q2.wp loc a w Q (by simp only [m2.2, hpc, hnc, ht]; rfl) hf hw fun x s hx hs => ?_
       obtain ⟨u, u1, u2, u3⟩ := c3 ht x s hx hs
       exact (hQ x u u1 u2).ref u3
   | block id c =>
    simp only [exec, Option.bind_eq_bind, Option.bind_eq_some_iff] at h
    obtain ⟨⟨o, g1⟩, h1, h⟩ := h
    simp only at h
    have hg1 : Good T e g1 := block_back h hg
    obtain ⟨k1, k2⟩ := ih1 _ _ _ _ _ _ _ (hat.child rfl) h1 hg1
    exact ⟨k1, (ends_block k2 h hg).2⟩
   | loop c =>
    simp only [exec] at h
    split at h
    ·obtain ⟨fn, body, f1, f2, f3⟩ := hat
     obtain ⟨k1, k2⟩ := findLoop_sound (w0 := w0) (c := c) (fun q hq hf hp => hX.lps q hq fn body c (by rw [hf]; exact f1) f2 (by rw [hp]; exact f3)) h hg
     exact ⟨k1, k2.pc, k2.one, fun loc a w Q hpc hf hw hQ => (k2.wp loc a w Q hpc hf hw hQ).wp⟩
    obtain ⟨k1, k2⟩ := ih2 _ _ _ _ _ _ _ _ (hat.child rfl) h hg
    exact ⟨k1, k2.pc, k2.one, fun loc a w Q hpc hf hw hQ => (k2.wp loc a w Q hpc hf hw hQ).wp⟩
   | _ => simp [exec] at h
  ·simp only [rounds, Option.bind_eq_bind] at h
   have hW : ∀ Q a w, c.wp P (Exit.then (LW P c Q) Q) a w → LW P c Q a w := fun Q a w hh => .of hh
   split at h
   ·simp only [Option.some.injEq, Prod.mk.injEq] at h
    obtain ⟨rfl, rfl⟩ := h
    have hm := must_good hg
    have hn := mkNot_good hm.1
    have hf : (S.pc.ev e).bool = false := by
     have := hm.2 rfl
     rw [hn.2] at this
     simpa using this
    exact ⟨hn.1, fun x s hx => by simp [Outs.get] at hx, fun x y s t hx => by simp [Outs.get] at hx, fun loc a w Q hpc => by rw [hf] at hpc; cases hpc⟩
   ·simp only [Option.bind_eq_some_iff] at h
    obtain ⟨⟨o, g1⟩, h1, h⟩ := h
    simp only at h
    split at h
    ·rename_i hn
     simp only [Option.some.injEq, Prod.mk.injEq] at h
     obtain ⟨rfl, rfl⟩ := h
     obtain ⟨k1, k2⟩ := ih1 _ _ _ _ _ _ _ hat h1 hg
     exact ⟨k1, ends_none (Wb := fun Q a w => LW P c Q a w) hW k2 hn⟩
    ·rename_i s hn
     split at h
     ·rename_i hf
      simp only [Option.some.injEq, Prod.mk.injEq] at h
      obtain ⟨rfl, rfl⟩ := h
      obtain ⟨k1, k2⟩ := ih1 _ _ _ _ _ _ _ hat h1 hg
      exact ⟨k1, ends_false (Wb := fun Q a w => LW P c Q a w) hW k2 hn hf⟩
     ·simp only [Option.bind_eq_some_iff] at h
      obtain ⟨⟨o2, g2⟩, h2, h⟩ := h
      simp only at h
      split at h
      ·rename_i hr
       simp only [Option.some.injEq, Prod.mk.injEq] at h
       obtain ⟨rfl, rfl⟩ := h
       obtain ⟨q1, q2⟩ := ih2 _ _ _ _ _ _ _ _ hat h2 hg
       obtain ⟨k1, k2⟩ := ih1 _ _ _ _ _ _ _ hat h1 q1
       exact ⟨k1, rest_empty hW k2 hn q2 hr⟩
      ·simp only [Option.some.injEq] at h
       have hgc : Good T e (combine s.pc (mkNot s.pc g2).1 none o2 (Outs.drop .norm o) (mkNot s.pc g2).2).2 := by rw [h]; exact hg
       have hgn : Good T e (mkNot s.pc g2).2 := combine_back hgc
       have hnot := mkNot_good hgn
       obtain ⟨q1, q2⟩ := ih2 _ _ _ _ _ _ _ _ hat h2 hnot.1
       obtain ⟨k1, k2⟩ := ih1 _ _ _ _ _ _ _ hat h1 q1
       have := combine_rest hW k2 hn q2 (nc := (mkNot s.pc g2).1) (by rw [hnot.2]; rfl) hgc
       rw [h] at this
       exact ⟨k1, this⟩
  ·simp only [inline] at h
   split at h
   ·exact bigAny_sound hX.big h hg
   simp only [Option.bind_eq_bind, Option.bind_eq_some_iff] at h
   obtain ⟨fn, hfn, body, hbody, ⟨o, g1⟩, h1, ⟨s, g2⟩, h2, ⟨rs, g3⟩, h3, h⟩ := h
   simp only [Option.some.injEq, Prod.mk.injEq] at h
   obtain ⟨rfl, rfl, rfl⟩ := h
   obtain ⟨f1, _, _⟩ := hX.fns f fn hfn
   obtain ⟨r1, r2⟩ := results_sound (P := P) (e := e) (w0 := w0) hX.tys h3
   subst r1
   have hg1 : Good T e g1 := joined_back h2 hg
   obtain ⟨k1, k2⟩ := ih1 _ _ _ _ _ _ _ ⟨fn, body, hfn, hbody, rfl⟩ h1 hg1
   obtain ⟨_, j2⟩ := joined_sound k2 h2 hg
   refine ⟨k1, fun loc vs w hpc hvs hw => ?_⟩
   refine calls_of_wp f1 hbody (k2.wp loc _ w _ hpc (FrRel.enter hvs) hw fun x s1 hx hs1 => ?_)
   obtain ⟨j3, j4⟩ := j2 x s1 hx hs1
   intro loc' a' w' q1 q2 q3 q4 q5
   obtain ⟨loc2, t0, t1, t2, t3⟩ := j4 loc' a'.tmps w' q3 q5
   obtain ⟨us, u1, u2⟩ := r2 loc2 a'.tmps w' t2 t3
   have : a'.defers = [] ∧ ∃ v, (Go.results fn a'.tmps).run P w' = .ok v w' ∧ (fun en w'' => ∃ u, en = Ending.returned u ∧ ∃ loc', LExt rows.length loc loc' ∧ rows.length ≤ s.rows.length ∧ (retSV rs).rel e s.rows.length loc' u ∧ Cls e w0 loc' s.rows w'') (.returned v) w' :=
    ⟨q4, retVal us, run_results u2, retVal us, rfl, loc2, q1.trans t0 q2, Nat.le_trans q2 t1, retSV_rel u1, t3⟩
   rcases j3 with rfl | rfl
   ·exact this
   ·exact this
end
end Rx
namespace Rx
open Go Go.RowKit
section
variable {T : Nat → List A → Bool × List A} {e : Nat → A} {P : Program} {X : Ctx} {w0 : W0}
def ext (T : Nat → List A → Bool × List A) (e : Nat → A) (d : Def) : Nat → A := fun j =>
 if d.base ≤ j then (match (d.d.ev T (d.args.map (L.ev e)))[j - d.base]? with | some a => a | none => e j) else e j
def envOf (T : Nat → List A → Bool × List A) (e : Nat → A) : List Def → Nat → A
 | [] => e
 | d :: l => ext T (envOf T e l) d
def varsBelow (k : Nat) : List L → Bool
 | [] => true
 | .var i :: l => decide (i < k) && varsBelow k l
 | _ :: l => varsBelow k l
def Def.width (ws : List (Nat × Nat)) (d : Def) : Nat :=
 match d.d with
 | .call f => (look f ws).getD 0
 | .upd => d.args.length - 2
 | _ => 1
def defsB (ws : List (Nat × Nat)) : List Def → Nat → Bool
 | [], _ => true
 | d :: l, top => varsBelow d.base d.args && decide (d.base + d.width ws ≤ top) && (match d.d with | .call f => (look f ws).isSome | _ => true) && defsB ws l d.base
def WidthOK (T : Nat → List A → Bool × List A) (ws : List (Nat × Nat)) : Prop := ∀ f k, look f ws = some k → ∀ as, (T f as).2.length + 1 ≤ k
theorem ev_len {ws : List (Nat × Nat)} (hw : WidthOK T ws) (d : Def) (hd : (match d.d with | .call f => (look f ws).isSome | _ => true) = true) : (d.d.ev T (d.args.map (L.ev e))).length ≤ d.width ws := by
 obtain ⟨b, dd, args⟩ := d
 unfold Def.width
 cases dd
 case call f =>
  simp only at hd
  cases hk : look f ws with
  | none => rw [hk] at hd; cases hd
  | some k => simpa [D.ev, hk] using hw f k hk (args.map (L.ev e))
 case upd =>
  match args with
  | [] => simp [D.ev]
  | [_] => simp [D.ev]
  | _ :: _ :: l => simp [D.ev]
 case rep =>
  match args with
  | [] => simp [D.ev]
  | _ :: l => simp [D.ev]
 case mkl => simp [D.ev]
 case sel =>
  match args with
  | [] => simp [D.ev]
  | _ :: l => simp [D.ev]
 all_goals
  match args with
  | [] => simp [D.ev]
  | [_] => simp [D.ev]
  | [_, _] => simp [D.ev]
  | [_, _, _] => simp [D.ev]
  | _ :: _ :: _ :: _ :: _ => simp [D.ev]
theorem varsBelow_ev {k : Nat} {e e' : Nat → A} (he : ∀ j, j < k → e' j = e j) : ∀ {l : List L}, varsBelow k l = true → l.map (L.ev e') = l.map (L.ev e)
 | [], _ => rfl
 | .var i :: l, h => by
  simp only [varsBelow, Bool.and_eq_true, decide_eq_true_eq] at h
  simp only [List.map_cons, L.ev, he i h.1, varsBelow_ev he h.2]
 | .e :: l, h => by simp only [varsBelow] at h; simp only [List.map_cons, L.ev, varsBelow_ev he h]
 | .n _ :: l, h => by simp only [varsBelow] at h; simp only [List.map_cons, L.ev, varsBelow_ev he h]
 | .t _ :: l, h => by simp only [varsBelow] at h; simp only [List.map_cons, L.ev, varsBelow_ev he h]
 | .s _ :: l, h => by simp only [varsBelow] at h; simp only [List.map_cons, L.ev, varsBelow_ev he h]
theorem defs_hold {ws : List (Nat × Nat)} (hw : WidthOK T ws) (e : Nat → A) : ∀ {l : List Def} {top : Nat}, defsB ws l top = true → ∀ d ∈ l, d.holds T (envOf T e l)
 | d :: l, top, h, x, hx => by
  simp only [defsB, Bool.and_eq_true, decide_eq_true_eq] at h
  obtain ⟨⟨⟨h1, h2⟩, hcd⟩, h3⟩ := h
  have below : ∀ j, j < d.base → envOf T e (d :: l) j = envOf T e l j := fun j hj => by
   show ext T (envOf T e l) d j = _
   unfold ext
   rw [if_neg (by omega)]
  rcases List.mem_cons.1 hx with rfl | hx
  ·intro j a ha
   rw [varsBelow_ev below h1] at ha
   show ext T (envOf T e l) x (x.base + j) = a
   unfold ext
   rw [if_pos (by omega), show x.base + j - x.base = j by omega, ha]
  ·have ih := defs_hold hw e h3 x hx
   have htop : ∀ {l : List Def} {top : Nat}, defsB ws l top = true → ∀ d ∈ l, d.base + d.width ws ≤ top ∧ varsBelow d.base d.args = true ∧ (match d.d with | .call f => (look f ws).isSome | _ => true) = true := by
    intro l
    induction l with
    | nil => intro top _ d hd; cases hd
    | cons y l ih =>
     intro top h d hd
     simp only [defsB, Bool.and_eq_true, decide_eq_true_eq] at h
     rcases List.mem_cons.1 hd with rfl | hd
     ·exact ⟨h.1.1.2, h.1.1.1, h.1.2⟩
     ·have := ih h.2 d hd
      have h5 := h.1.1.2
      exact ⟨by omega, this.2⟩
   obtain ⟨k1, k2, k3⟩ := htop h3 x hx
   intro j a ha
   rw [varsBelow_ev (e := envOf T e l) (fun i hi => below i (by omega)) k2] at ha
   have hj : j < (x.d.ev T (x.args.map (L.ev (envOf T e l)))).length := lt_of_get ha
   have hwd := ev_len (e := envOf T e l) hw x k3
   rw [below _ (by omega)]
   exact ih j a ha
theorem run_calls (hX : XL P T X) {n f next : Nat} {args : List PV} {rows rows' : List Row} {v : SV} {g : G} {kn : List Known} (h : run X n f args rows next kn = some (v, rows', g)) (hg : Good T e g)
  {loc : Loc} {vs : List Value} {w : World} (hvs : PVsRel e rows.length loc args vs) {S : Nat → Prop} (hS : ∀ k, S k → k < w.heap.size) (hrows : RowsOK e loc rows w ⟨w.heap.size, S⟩) :
  Calls P f vs.toArray w fun en w' => ∃ u, en = .returned u ∧ (∃ loc', v.rel e rows'.length loc' u) ∧ Below w.heap.size w w' := by
 have := (exec_sound (T := T) (e := e) (w0 := ⟨w, S⟩) hX n).2.2 f args rows (.t true) _ v rows' g h hg
 exact (this.2 loc vs w rfl hvs ⟨_, ⟨rfl, fun k hk => .inl hk, Nat.le_refl _, hS⟩, hrows, Below.refl _ _⟩).mono fun en w' ⟨u, h1, loc', h2, h3, h4, h5⟩ => ⟨u, h1, ⟨loc', h4⟩, h5.bel⟩
end
end Rx
namespace Rx
open Go Go.RowKit
def leafK (lf : Nat → L) : List Srt → Nat → List C
 | [], _ => []
 | s :: l, b => .k (s.mk (lf b)) :: leafK lf l (b + 1)
def leafMany (lf : Nat → L) (ss : List Srt) : Nat → Nat → List C
 | 0, _ => []
 | n + 1, b => leafK lf ss b ++ leafMany lf ss n (b + ss.length)
def lfOf (lits : List (Nat × Int)) (i : Nat) : L := match look i lits with | some x => .n x | none => .var i
def dLen : List Srt → Nat
 | [] => 0
 | .sl _ :: ss => dLen ss + 2
 | _ :: ss => dLen ss + 1
def dLeafs (lf : Nat → L) : List Srt → Nat → Nat → List C
 | [], _, _ => []
 | .sl _ :: ss, b, r => .k (.fsl r (lf (b + 1))) :: dLeafs lf ss (b + 2) (r + 1)
 | s :: ss, b, r => .k (s.mk (lf b)) :: dLeafs lf ss (b + 1) r
def dRows (lf : Nat → L) : List Srt → Nat → List Row
 | [], _ => []
 | .sl ss' :: ss, b => { own := false, ty := 0, es := 0, cells := [], lst := some ⟨false, 0, ss', lf b, lf (b + 1)⟩ } :: dRows lf ss (b + 2)
 | _ :: ss, b => dRows lf ss (b + 1)
def parPV (lf : Nat → L) : List PS → List Nat → Nat → Nat → Option (List PV × List Row × Nat)
 | [], [], b, _ => some ([], [], b)
 | .c agg ss :: l, ns, b, r => do
  let p ← mkPV agg (leafK lf ss b)
  let (ps, rows, k) ← parPV lf l ns (b + ss.length) r
  some (p :: ps, rows, k)
 | .slc ss :: l, n :: ns, b, r => do
  let (ps, rows, k) ← parPV lf l ns (b + (1 + n * ss.length)) (r + 1)
  some (.one (.k (.slc r 0 n)) :: ps, { own := false, ty := 0, es := ss.length, cells := leafMany lf ss n (b + 1) } :: rows, k)
 | .nil :: l, ns, b, r => do
  let (ps, rows, k) ← parPV lf l ns b r
  some (.one (.k .nilslc) :: ps, rows, k)
 | .d agg ss :: l, ns, b, r => do
  let p ← mkPV agg (dLeafs lf ss b r)
  let (ps, rows, k) ← parPV lf l ns (b + dLen ss) (r + (dRows lf ss b).length)
  some (p :: ps, dRows lf ss b ++ rows, k)
 | .lst ss :: l, ns, b, r => do
  let (ps, rows, k) ← parPV lf l ns (b + 2) (r + 1)
  some (.one (.k (.fsl r (lf (b + 1)))) :: ps, { own := false, ty := 0, es := 0, cells := [], lst := some ⟨false, 0, ss, lf b, lf (b + 1)⟩ } :: rows, k)
 | _, _, _, _ => none
def Lens : List PS → List Nat → List A → Prop
 | [], ns, as => ns = [] ∧ as = []
 | .c _ ss :: l, ns, as => ∃ a1 a2, as = a1 ++ a2 ∧ a1.length = ss.length ∧ Lens l ns a2
 | .slc ss :: l, ns, as => ∃ n ns' a1 a2, ns = n :: ns' ∧ as = (A.i n :: a1) ++ a2 ∧ a1.length = n * ss.length ∧ Lens l ns' a2
 | .nil :: l, ns, as => Lens l ns as
 | .lst _ :: l, ns, as => ∃ a k as', as = a :: k :: as' ∧ Lens l ns as'
 | .d _ ss :: l, ns, as => ∃ a1 a2, as = a1 ++ a2 ∧ a1.length = dLen ss ∧ Lens l ns a2
def flatRes : List (Bool × List Srt) → List PV → Option (List L)
 | [], [] => some []
 | (agg, ss) :: rs, p :: ps => do
  let a ← flatArg [] (.c agg ss) p
  let r ← flatRes rs ps
  some (a ++ r)
 | _, _ => none
def flatSV (rs : List (Bool × List Srt)) : SV → Option (List L)
 | .pv p => flatRes rs [p]
 | .tup l => if l.length == 1 then none else flatRes rs l
 | _ => none
section
variable {T : Nat → List A → Bool × List A} {e : Nat → A} {P : Program} {X : Ctx} {w0 : W0}
theorem leafK_rel {n : Nat} {loc : Loc} {lf : Nat → L} : ∀ {ss : List Srt} {as : List A} {b : Nat}, as.length = ss.length → (∀ j a, as[j]? = some a → (lf (b + j)).ev e = a) → CsRel e n loc (leafK lf ss b) (semMany ss as)
 | [], [], _, _, _ => trivial
 | [], _ :: _, _, h, _ => by simp at h
 | _ :: _, [], _, h, _ => by simp at h
 | s :: ss, a :: as, b, h, hh => ⟨mk_of_sem (by simpa using hh 0 a rfl), leafK_rel (by simpa using h) fun j x hx => by
   have := hh (j + 1) x (by simpa using hx)
   rwa [show b + 1 + j = b + (j + 1) by omega]⟩
theorem leafMany_rel {n : Nat} {loc : Loc} {lf : Nat → L} {ss : List Srt} : ∀ {m b : Nat} {as : List A}, as.length = m * ss.length → (∀ j a, as[j]? = some a → (lf (b + j)).ev e = a) → CsRel e n loc (leafMany lf ss m b) (semRows ss m as)
 | 0, _, _, _, _ => trivial
 | m + 1, b, as, h, hh => by
  have hle : ss.length ≤ as.length := by rw [h, Nat.succ_mul]; omega
  refine CsRel_append (leafK_rel (by simp [hle]) fun j a hj => ?_) (leafMany_rel (by rw [List.length_drop, h, Nat.succ_mul]; omega) fun j a hj => ?_)
  ·rw [List.getElem?_take] at hj
   split at hj
   ·exact hh j a hj
   ·cases hj
  ·rw [List.getElem?_drop] at hj
   rw [Nat.add_assoc]
   exact hh _ a hj
theorem DCells_len {M : Addr → Option Value} : ∀ {ss : List Srt} {as : List A} {cs : List Value}, DCells M ss as cs → as.length = dLen ss ∧ cs.length = ss.length
 | [], _, _, h => by obtain ⟨rfl, rfl⟩ := h; exact ⟨rfl, rfl⟩
 | .sl _ :: _, _, _, h => by
  obtain ⟨a, k, ar, b, m, c, cr, rfl, rfl, _, _, _, h⟩ := h
  have := DCells_len h
  simp [dLen, this]
 | .int _ :: _, _, _, h => by obtain ⟨a, ar, cr, rfl, rfl, h⟩ := h; have := DCells_len h; simp [dLen, this]
 | .bool :: _, _, _, h => by obtain ⟨a, ar, cr, rfl, rfl, h⟩ := h; have := DCells_len h; simp [dLen, this]
 | .str :: _, _, _, h => by obtain ⟨a, ar, cr, rfl, rfl, h⟩ := h; have := DCells_len h; simp [dLen, this]
 | .val :: _, _, _, h => by obtain ⟨a, ar, cr, rfl, rfl, h⟩ := h; have := DCells_len h; simp [dLen, this]
theorem ArgsRel.mono {M M' : Addr → Option Value} (hm : ∀ a u, M a = some u → M' a = some u) : ∀ {ps : List PS} {vs : List Value} {as : List A}, ArgsRel M ps vs as → ArgsRel M' ps vs as
 | [], _, _, h => h
 | p :: ps, _, _, h => by
  obtain ⟨v, vr, a1, a2, h1, h2, h3, h4⟩ := h
  refine ⟨v, vr, a1, a2, h1, h2, ?_, h4.mono hm⟩
  cases p with
  | c => exact h3
  | nil => exact h3
  | slc ss =>
   obtain ⟨b, o, n, c, rest, q1, q2, q3, q4⟩ := h3
   exact ⟨b, o, n, c, rest, q1, q2, q3, fun j u hu => hm _ _ (q4 j u hu)⟩
  | lst ss =>
   obtain ⟨a, k, b, m, c, q1, q2, q3, q4, q5⟩ := h3
   exact ⟨a, k, b, m, c, q1, q2, q3, q4, q5.mono hm⟩
  | d agg ss =>
   obtain ⟨cs, q1, q2⟩ := h3
   exact ⟨cs, q1, q2.mono hm⟩
theorem par_fsl {S : Nat → Prop} {w : World} {ss : List Srt} {x kk : A} {bb : Option Addr} {m c : Nat} {l0 l1 : L} (e0 : l0.ev e = x) (e1 : l1.ev e = kk) (hk : kk.int = (m : Nat)) (hs : 0 < ss.length) (hfsc : FSC (memP S w) (.sl ss) x (.slice bb m c)) :
  FRow e (memP S w) { own := false, ty := 0, es := 0, cells := [], lst := some ⟨false, 0, ss, l0, l1⟩ } (.slice bb m c) ∧ ∀ (N r : Nat) (loc : Loc), r < N → loc r = lcOf (.slice bb m c) → (K.fsl r l1).rel e N loc (.slice bb m c) := by
 obtain ⟨as1, m', c', b', z1, z2, z3, z4⟩ := hfsc.slice
 injection z2 with z2 z5 z6
 subst z2 z5 z6
 refine ⟨⟨rfl, rfl, _, as1, m, rfl, rfl, hs, by rw [← z1]; exact e0, z3, by simp only; rw [e1]; exact hk, by rw [z1] at hfsc; exact hfsc⟩, fun N r loc hr hloc => ?_⟩
 refine ⟨⟨hr, by rw [e1, hk]; omega, ?_⟩, rfl, .inr ?_⟩
 ·rw [hloc, lcOf_v, e1, hk]
  exact ⟨bb, c, by simp⟩
 ·simp only [K.sem]
  rw [hloc, lcOf_v]
theorem dLeafs_one {S : Nat → Prop} {lf : Nat → L} {w : World} {s : Srt} {ss : List Srt} {as : List A} {vs : List Value} {b r : Nat} (h0 : dLeafs lf (s :: ss) b r = .k (s.mk (lf b)) :: dLeafs lf ss (b + 1) r) (h0' : dRows lf (s :: ss) b = dRows lf ss (b + 1))
  (ih : ∀ {as : List A} {vs : List Value} {b r : Nat}, DCells (memP S w) ss as vs → (∀ j a, as[j]? = some a → (lf (b + j)).ev e = a) → ∃ xs : List Value, xs.length = (dRows lf ss b).length ∧ (∀ (t : Nat) row, (dRows lf ss b)[t]? = some row → ∃ v, xs[t]? = some v ∧ FRow e (memP S w) row v) ∧
   ∀ (N : Nat) (loc : Loc), r + (dRows lf ss b).length ≤ N → (∀ (t : Nat) v, xs[t]? = some v → loc (r + t) = lcOf v) → CsRel e N loc (dLeafs lf ss b r) vs)
  (h : ∃ a ar cr, as = a :: ar ∧ vs = s.sem a :: cr ∧ DCells (memP S w) ss ar cr) (he : ∀ j a, as[j]? = some a → (lf (b + j)).ev e = a) :
  ∃ xs : List Value, xs.length = (dRows lf (s :: ss) b).length ∧ (∀ (t : Nat) row, (dRows lf (s :: ss) b)[t]? = some row → ∃ v, xs[t]? = some v ∧ FRow e (memP S w) row v) ∧
   ∀ (N : Nat) (loc : Loc), r + (dRows lf (s :: ss) b).length ≤ N → (∀ (t : Nat) v, xs[t]? = some v → loc (r + t) = lcOf v) → CsRel e N loc (dLeafs lf (s :: ss) b r) vs := by
 obtain ⟨a, ar, cr, rfl, rfl, hr⟩ := h
 obtain ⟨xs, x1, x2, x3⟩ := ih (b := b + 1) (r := r) hr (fun j a hj => by
  have := he (1 + j) a (by rw [Nat.add_comm]; simpa using hj)
  rwa [Nat.add_assoc])
 rw [h0, h0']
 exact ⟨xs, x1, x2, fun N loc hN hloc => ⟨mk_of_sem (he 0 _ rfl), x3 N loc hN hloc⟩⟩
theorem dLeafs_sound {S : Nat → Prop} {lf : Nat → L} {w : World} : ∀ {ss : List Srt} {as : List A} {vs : List Value} {b r : Nat}, DCells (memP S w) ss as vs → (∀ j a, as[j]? = some a → (lf (b + j)).ev e = a) →
  ∃ xs : List Value, xs.length = (dRows lf ss b).length ∧ (∀ (t : Nat) row, (dRows lf ss b)[t]? = some row → ∃ v, xs[t]? = some v ∧ FRow e (memP S w) row v) ∧
   ∀ (N : Nat) (loc : Loc), r + (dRows lf ss b).length ≤ N → (∀ (t : Nat) v, xs[t]? = some v → loc (r + t) = lcOf v) → CsRel e N loc (dLeafs lf ss b r) vs
 | [], _, _, _, _, h, _ => by
  obtain ⟨rfl, rfl⟩ := h
  exact ⟨[], rfl, fun t row h => by simp [dRows] at h, fun _ _ _ _ => trivial⟩
 | .sl ss' :: ss, _, _, b, r, h, he => by
  obtain ⟨a, k, ar, bb, m, c, cr, rfl, rfl, hk, hs, hf, hr⟩ := h
  obtain ⟨xs, x1, x2, x3⟩ := dLeafs_sound (b := b + 2) (r := r + 1) hr (fun j a hj => by
   have := he (2 + j) a (by rw [show 2 + j = j + 1 + 1 by omega]; simpa using hj)
   rwa [Nat.add_assoc])
  obtain ⟨f1, f2⟩ := par_fsl (he 0 _ rfl) (he 1 _ rfl) hk hs hf
  refine ⟨.slice bb m c :: xs, by simp [dRows, x1], fun t row ht => ?_, fun N loc hN hloc => ?_⟩
  ·cases t with
   | zero =>
    simp only [dRows, List.getElem?_cons_zero, Option.some.injEq] at ht
    subst ht
    exact ⟨_, rfl, f1⟩
   | succ t => simpa using x2 t row (by simpa [dRows] using ht)
  ·simp only [dRows, List.length_cons] at hN
   refine ⟨f2 N r loc (by omega) (by simpa using hloc 0 _ rfl), x3 N loc (by omega) fun t v ht => ?_⟩
   have := hloc (t + 1) v (by simpa using ht)
   rwa [show r + 1 + t = r + (t + 1) by omega]
 | .int kd :: ss, _, _, b, r, h, he => dLeafs_one (s := .int kd) rfl rfl (fun h he => dLeafs_sound h he) h he
 | .bool :: ss, _, _, b, r, h, he => dLeafs_one (s := .bool) rfl rfl (fun h he => dLeafs_sound h he) h he
 | .str :: ss, _, _, b, r, h, he => dLeafs_one (s := .str) rfl rfl (fun h he => dLeafs_sound h he) h he
 | .val :: ss, _, _, b, r, h, he => dLeafs_one (s := .val) rfl rfl (fun h he => dLeafs_sound h he) h he
theorem par_sound {S : Nat → Prop} {lf : Nat → L} {w : World} (hS : ∀ k, S k → k < w.heap.size) : ∀ {ps : List PS} {ns : List Nat} {b r k : Nat} {args : List PV} {rows : List Row} {vs : List Value} {as : List A},
  parPV lf ps ns b r = some (args, rows, k) → ArgsRel (memP S w) ps vs as → Lens ps ns as → (∀ j a, as[j]? = some a → (lf (b + j)).ev e = a) →
  k = b + as.length ∧ ∃ locs : List Lc, locs.length = rows.length ∧ ∀ (loc : Loc) (N : Nat), (∀ i x, locs[i]? = some x → loc (r + i) = x) → r + rows.length ≤ N →
   PVsRel e N loc args vs ∧ ∀ i row, rows[i]? = some row → row.own = false ∧ RowOK e N loc w ⟨w.heap.size, S⟩ (r + i) row ∧ ∀ q, row.lst = some q → q.own = false ∧ LstOK e loc w ⟨w.heap.size, S⟩ (r + i) q
 | [], [], b, r, k, args, rows, vs, as, h, ha, hl, he => by
  simp only [parPV, Option.some.injEq, Prod.mk.injEq] at h
  obtain ⟨rfl, rfl, rfl⟩ := h
  rw [ha.1, ha.2]
  exact ⟨rfl, [], rfl, fun loc N _ _ => ⟨trivial, fun i row h => by simp at h⟩⟩
 | [], _ :: _, _, _, _, _, _, _, _, h, _, _, _ => by simp [parPV] at h
 | .c agg ss :: l, ns, b, r, k, args, rows, vs, as, h, ha, hl, he => by
  simp only [parPV, Option.bind_eq_bind, Option.bind_eq_some_iff] at h
  obtain ⟨p, hp, ⟨ps', rows', k'⟩, hr, h⟩ := h
  simp only [Option.some.injEq, Prod.mk.injEq] at h
  obtain ⟨rfl, rfl, rfl⟩ := h
  obtain ⟨v, vr, a1, a2, rfl, rfl, h1, h2⟩ := ha
  obtain ⟨b1, b2, hb, hb1, hb2⟩ := hl
  have hlen : a1.length = ss.length := h1.1
  obtain ⟨rfl, rfl⟩ := List.append_inj hb (by rw [hlen, hb1])
  obtain ⟨k1, locs, l1, l2⟩ := par_sound hS hr h2 hb2 (fun j a hj => by
   have := he (ss.length + j) a (by rw [List.getElem?_append_right (by omega), hlen]; simpa using hj)
   rwa [Nat.add_assoc])
  refine ⟨by rw [k1, List.length_append, hlen]; omega, locs, l1, fun loc N q1 q2 => ?_⟩
  obtain ⟨m1, m2⟩ := l2 loc N q1 q2
  refine ⟨⟨?_, m1⟩, m2⟩
  have hv := leafK_rel (lf := lf) (e := e) (n := N) (loc := loc) (b := b) hlen (fun j a hj => he j a (by rw [List.getElem?_append_left (lt_of_get hj)]; exact hj))
  have h3 := h1.2
  rcases mkPV_some hp with ⟨hag, rfl⟩ | ⟨hag, c, hc, rfl⟩
  ·rw [if_pos hag] at h3
   exact ⟨_, h3, hv⟩
  ·rw [if_neg (by simp [hag])] at h3
   obtain ⟨s, a, z1, z2, z3⟩ := h3
   subst z1
   subst z2
   rw [hc] at hv
   rw [z3]
   exact hv.1
 | .slc ss :: l, [], b, r, k, args, rows, vs, as, h, ha, hl, he => by simp [parPV] at h
 | .slc ss :: l, n :: ns, b, r, k, args, rows, vs, as, h, ha, hl, he => by
  simp only [parPV, Option.bind_eq_bind, Option.bind_eq_some_iff] at h
  obtain ⟨⟨ps', rows', k'⟩, hr, h⟩ := h
  simp only [Option.some.injEq, Prod.mk.injEq] at h
  obtain ⟨rfl, rfl, rfl⟩ := h
  obtain ⟨v, vr, a1, a2, rfl, rfl, ⟨bb, o, m, c, rest, rfl, rfl, h1, h1'⟩, h2⟩ := ha
  obtain ⟨n', ns', b1, b2, hn, hb, hb1, hb2⟩ := hl
  injection hn with hn1 hn2
  subst hn1
  subst hn2
  have hmn : m = n := by
   have := congrArg (·[0]?) hb
   simp at this
   omega
  subst hmn
  obtain ⟨hc1, rfl⟩ := List.append_inj hb (by simp [h1, hb1])
  obtain ⟨_, rfl⟩ := List.cons.inj hc1
  obtain ⟨k1, locs, l1, l2⟩ := par_sound hS hr h2 hb2 (fun j a hj => by
   have := he (1 + m * ss.length + j) a (by
    rw [List.getElem?_append_right (by simp [h1]; omega)]
    simp only [List.length_cons, h1]
    rw [show 1 + m * ss.length + j - (m * ss.length + 1) = j by omega]
    exact hj)
   rwa [Nat.add_assoc])
  refine ⟨by rw [k1, List.length_append, List.length_cons, h1]; omega, .mk4 bb o c ss.length :: locs, by simp [l1], fun loc N q1 q2 => ?_⟩
  have hloc : loc r = .mk4 bb o c ss.length := q1 0 _ rfl
  simp only [List.length_cons] at q2
  obtain ⟨m1, m2⟩ := l2 loc N (fun i x hi => by
   have := q1 (i + 1) x (by simpa using hi)
   rwa [show r + 1 + i = r + (i + 1) by omega]) (by omega)
  have hrest : CsRel e N loc (leafMany lf ss m (b + 1)) (semRows ss m rest) := leafMany_rel h1 (fun j a hj => by
   have := he (j + 1) a (by
    rw [List.cons_append, List.getElem?_cons_succ, List.getElem?_append_left (lt_of_get hj)]
    exact hj)
   rwa [show b + 1 + j = b + (j + 1) by omega])
  refine ⟨⟨mk_slc (by omega) (by rw [hloc]; simp), m1⟩, fun i row hi => ?_⟩
  cases i with
  | zero =>
   simp only [List.getElem?_cons_zero, Option.some.injEq] at hi
   subst hi
   refine ⟨rfl, ?_, fun q hq => by simp at hq⟩
   unfold RowOK
   rw [if_neg (by simp)]
   intro hne
   rw [Nat.add_zero, hloc]
   have hcell : ∀ j cc, (leafMany lf ss m (b + 1))[j]? = some cc → ∃ v, w.cell? ⟨bb, o + j, none⟩ = some v ∧ cc.rel e N loc v := fun j cc hj => by
    obtain ⟨v, v1, v2⟩ := CsRel_get hrest hj
    exact ⟨v, (memP_cell (h1' j v v1)).1, v2⟩
   refine ⟨rfl, ?_, hcell⟩
   simp only at hne
   cases hcc : leafMany lf ss m (b + 1) with
   | nil => exact absurd hcc hne
   | cons c0 cs0 =>
    obtain ⟨v, v1, v2⟩ := CsRel_get hrest (j := 0) (c := c0) (by rw [hcc]; rfl)
    exact (memP_cell (h1' 0 v v1)).2
  | succ i =>
   have := m2 i row (by simpa using hi)
   rwa [show r + (i + 1) = r + 1 + i by omega]
 | .nil :: l, ns, b, r, k, args, rows, vs, as, h, ha, hl, he => by
  simp only [parPV, Option.bind_eq_bind, Option.bind_eq_some_iff] at h
  obtain ⟨⟨ps', rows', k'⟩, hr, h⟩ := h
  simp only [Option.some.injEq, Prod.mk.injEq] at h
  obtain ⟨rfl, rfl, rfl⟩ := h
  obtain ⟨v, vr, a1, a2, rfl, rfl, ⟨rfl, rfl⟩, h2⟩ := ha
  obtain ⟨k1, locs, l1, l2⟩ := par_sound hS hr h2 hl he
  refine ⟨k1, locs, l1, fun loc N q1 q2 => ?_⟩
  obtain ⟨m1, m2⟩ := l2 loc N q1 q2
  exact ⟨⟨⟨trivial, rfl, .inr rfl⟩, m1⟩, m2⟩
 | .lst ss :: l, ns, b, r, k, args, rows, vs, as, h, ha, hl, he => by
  simp only [parPV, Option.bind_eq_bind, Option.bind_eq_some_iff] at h
  obtain ⟨⟨ps', rows', k'⟩, hr, h⟩ := h
  simp only [Option.some.injEq, Prod.mk.injEq] at h
  obtain ⟨rfl, rfl, rfl⟩ := h
  obtain ⟨v, vr, a1, a2, rfl, rfl, ⟨x, kk, bb, m, c, rfl, hk, rfl, hs, hfsc⟩, h2⟩ := ha
  obtain ⟨x', kk', as', hb, hb2⟩ := hl
  simp only [List.cons_append, List.nil_append, List.cons.injEq] at hb
  obtain ⟨rfl, rfl, rfl⟩ := hb
  obtain ⟨k1, locs, l1, l2⟩ := par_sound hS hr h2 hb2 (fun j a hj => by
   have := he (2 + j) a (by rw [List.getElem?_append_right (by simp)]; simpa using hj)
   rwa [Nat.add_assoc])
  have e0 : (lf b).ev e = x := he 0 _ rfl
  have e1 : (lf (b + 1)).ev e = kk := he 1 _ rfl
  obtain ⟨f1, f2⟩ := par_fsl e0 e1 hk hs hfsc
  refine ⟨by rw [k1]; simp; omega, lcOf (.slice bb m c) :: locs, by simp [l1], fun loc N q1 q2 => ?_⟩
  have hloc : loc r = lcOf (.slice bb m c) := q1 0 _ rfl
  simp only [List.length_cons] at q2
  obtain ⟨m1, m2⟩ := l2 loc N (fun i x hi => by
   have := q1 (i + 1) x (by simpa using hi)
   rwa [show r + 1 + i = r + (i + 1) by omega]) (by omega)
  refine ⟨⟨f2 N r loc (by omega) hloc, m1⟩, fun i row hi => ?_⟩
  cases i with
  | zero =>
   simp only [List.getElem?_cons_zero, Option.some.injEq] at hi
   subst hi
   obtain ⟨z1, q, z2, z3, z4⟩ := FRow.ok (B := ⟨w.heap.size, S⟩) (n := N) (r := r) f1 hloc
   exact ⟨rfl, z1, fun q' hq' => by rw [z2] at hq'; injection hq' with hq'; subst hq'; exact ⟨z3, z4⟩⟩
  | succ i =>
   have := m2 i row (by simpa using hi)
   rwa [show r + (i + 1) = r + 1 + i by omega]
 | .d agg ss :: l, ns, b, r, k, args, rows, vs, as, h, ha, hl, he => by
  simp only [parPV, Option.bind_eq_bind, Option.bind_eq_some_iff] at h
  obtain ⟨p, hp, ⟨ps', rows', k'⟩, hr, h⟩ := h
  simp only [Option.some.injEq, Prod.mk.injEq] at h
  obtain ⟨rfl, rfl, rfl⟩ := h
  obtain ⟨v, vr, a1, a2, rfl, rfl, ⟨cs, hc1, hc2⟩, h2⟩ := ha
  obtain ⟨b1, b2, hb, hb1, hb2⟩ := hl
  have hlen := (DCells_len hc2).1
  obtain ⟨rfl, rfl⟩ := List.append_inj hb (by rw [hlen, hb1])
  obtain ⟨xs, x1, x2, x3⟩ := dLeafs_sound (lf := lf) (b := b) (r := r) hc2 (fun j a hj => he j a (by rw [List.getElem?_append_left (lt_of_get hj)]; exact hj))
  obtain ⟨k1, locs, l1, l2⟩ := par_sound hS hr h2 hb2 (fun j a hj => by
   have := he (dLen ss + j) a (by rw [List.getElem?_append_right (by omega), hlen]; simpa using hj)
   rwa [Nat.add_assoc])
  refine ⟨by rw [k1, List.length_append, hlen]; omega, xs.map lcOf ++ locs, by simp [x1, l1], fun loc N q1 q2 => ?_⟩
  rw [List.length_append] at q2
  have hxs : ∀ (t : Nat) v, xs[t]? = some v → loc (r + t) = lcOf v := fun t v ht => q1 t _ (by rw [List.getElem?_append_left (by simpa using lt_of_get ht)]; simp [ht])
  obtain ⟨m1, m2⟩ := l2 loc N (fun i x hi => by
   have := q1 ((dRows lf ss b).length + i) x (by rw [List.getElem?_append_right (by simp [x1])]; simpa [x1] using hi)
   rwa [← Nat.add_assoc] at this) (by omega)
  refine ⟨⟨?_, m1⟩, fun i row hi => ?_⟩
  ·have hcs := x3 N loc (by omega) hxs
   rcases mkPV_some hp with ⟨ha, rfl⟩ | ⟨ha, c, hc, rfl⟩
   ·rw [if_pos ha] at hc1
    exact ⟨cs, hc1, hcs⟩
   ·rw [if_neg (by simp [ha])] at hc1
    subst hc1
    rw [hc] at hcs
    exact hcs.1
  ·rw [List.getElem?_append] at hi
   split at hi
   ·rename_i hlt
    obtain ⟨v, v1, v2⟩ := x2 i row hi
    obtain ⟨z1, q, z2, z3, z4⟩ := FRow.ok (B := ⟨w.heap.size, S⟩) (n := N) (r := r + i) v2 (hxs i v v1)
    exact ⟨v2.1, z1, fun q' hq' => by rw [z2] at hq'; injection hq' with hq'; subst hq'; exact ⟨z3, z4⟩⟩
   ·have := m2 _ row hi
    rwa [show r + (dRows lf ss b).length + (i - (dRows lf ss b).length) = r + i by omega] at this
 termination_by ps => ps.length
theorem envOf_below {e0 : Nat → A} {k : Nat} : ∀ {l : List Def}, (l.all fun d => decide (k ≤ d.base)) = true → ∀ j, j < k → envOf T e0 l j = e0 j
 | [], _, _, _ => rfl
 | d :: l, h, j, hj => by
  simp only [List.all_cons, Bool.and_eq_true, decide_eq_true_eq] at h
  show ext T (envOf T e0 l) d j = _
  unfold ext
  rw [if_neg (by omega)]
  exact envOf_below h.2 j hj
theorem semMany_append : ∀ {s1 s2 : List Srt} {a1 a2 : List A}, a1.length = s1.length → semMany (s1 ++ s2) (a1 ++ a2) = semMany s1 a1 ++ semMany s2 a2
 | [], _, [], _, _ => rfl
 | [], _, _ :: _, _, h => by simp at h
 | _ :: _, _, [], _, h => by simp at h
 | s :: s1, s2, a :: a1, a2, h => by simp [semMany, semMany_append (s1 := s1) (a1 := a1) (by simpa using h)]
theorem flatRes_sound {n : Nat} {loc : Loc} : ∀ {rs : List (Bool × List Srt)} {ps : List PV} {ls : List L} {vs : List Value} {out : List A}, flatRes rs ps = some ls → PVsRel e n loc ps vs →
  out.length = ls.length → semMany (rs.flatMap (·.2)) out = semMany (rs.flatMap (·.2)) (ls.map (L.ev e)) → ResList rs out vs
 | [], [], ls, vs, out, h, hv, ho, hs => by
  simp [flatRes] at h
  subst h
  cases vs with
  | nil => exact ⟨by simpa using ho, rfl⟩
  | cons => exact hv.elim
 | (agg, ss) :: rs, p :: ps, ls, vs, out, h, hv, ho, hs => by
  simp only [flatRes, Option.bind_eq_bind, Option.bind_eq_some_iff, Option.some.injEq] at h
  obtain ⟨a, ha, r, hr, rfl⟩ := h
  cases vs with
  | nil => exact hv.elim
  | cons v vs =>
   have h1 : OneArg (fun _ => none) (.c agg ss) v (a.map (L.ev e)) := by
    unfold flatArg at ha
    split at ha
    ·rename_i s c heq
     obtain ⟨hag, rfl⟩ := PS.c.inj heq
     cases hv1 : flatK [s] [c] with
     | none => rw [hv1] at ha; cases ha
     | some l =>
      rw [hv1] at ha
      injection ha with ha
      subst ha
      obtain ⟨q1, q2, q3⟩ := flatK_sound (vs := [v]) hv1 ⟨hv.1, trivial⟩
      obtain ⟨y, rfl⟩ : ∃ y, l = [y] := by
       match l, q1 with
       | [y], _ => exact ⟨y, rfl⟩
      subst hag
      refine ⟨by simp, ?_⟩
      simp only [Bool.false_eq_true, if_false]
      exact ⟨s, y.ev e, rfl, rfl, by simpa [semMany] using q3⟩
    ·rename_i ss' l heq
     obtain ⟨hag, rfl⟩ := PS.c.inj heq
     subst hag
     obtain ⟨us, rfl, hu⟩ := hv.1
     obtain ⟨q1, q2, q3⟩ := flatK_sound ha hu
     refine ⟨by simpa using q1, ?_⟩
     simp only [if_true]
     rw [q3]
    ·rename_i heq; cases heq
    ·rename_i heq; cases heq
    ·rename_i heq; cases heq
    ·cases ha
   have hal : a.length = ss.length := by simpa using h1.1
   have hlo : ss.length ≤ out.length := by rw [ho, List.length_append]; omega
   have e1 : out = out.take ss.length ++ out.drop ss.length := (List.take_append_drop _ _).symm
   rw [e1, List.map_append, List.flatMap_cons, semMany_append (by simp [hlo]), semMany_append (by simp [hal])] at hs
   obtain ⟨s1, s2⟩ := List.append_inj hs (by rw [semMany_len (by simp [hlo]), semMany_len (by simp [hal])])
   refine ⟨v, vs, out.take ss.length, out.drop ss.length, rfl, e1, ⟨by simp [hlo], ?_⟩, flatRes_sound hr hv.2 (by rw [List.length_drop, ho, List.length_append]; omega) s2⟩
   have h3 := h1.2
   simp only
   split at h3
   ·rename_i hag
    rw [if_pos hag, s1]
    exact h3
   ·rename_i hag
    rw [if_neg hag]
    obtain ⟨s, x, z1, z2, z3⟩ := h3
    subst z1
    obtain ⟨o, ho1⟩ : ∃ o, out.take 1 = [o] := by
     match out, hlo with
     | o :: _, _ => exact ⟨o, rfl⟩
    simp only [List.length_singleton] at s1 ⊢
    rw [ho1, z2] at s1
    simp only [semMany, List.cons.injEq, and_true] at s1
    exact ⟨s, o, rfl, ho1, by rw [s1]; exact z3⟩
 | [], _ :: _, _, _, _, h, _, _, _ => by simp [flatRes] at h
 | _ :: _, [], _, _, _, h, _, _, _ => by simp [flatRes] at h
theorem flatSV_sound {n : Nat} {loc : Loc} {rs : List (Bool × List Srt)} {v : SV} {ls : List L} {u : Value} {out : List A} (h : flatSV rs v = some ls) (hv : v.rel e n loc u)
  (ho : out.length = ls.length) (hs : semMany (rs.flatMap (·.2)) out = semMany (rs.flatMap (·.2)) (ls.map (L.ev e))) : ResRel rs out u := by
 unfold flatSV at h
 split at h
 ·exact ⟨[u], flatRes_sound h ⟨hv, trivial⟩ ho hs, rfl⟩
 ·split at h
  ·cases h
  ·rename_i hl
   obtain ⟨us, rfl, hu⟩ := hv
   refine ⟨us, flatRes_sound h hu ho hs, ?_⟩
   have := PVsRel_len hu
   match us with
   | [] => rfl
   | [_] => simp at this; simp [this] at hl
   | _ :: _ :: _ => rfl
 ·cases h
theorem rows_par {e : Nat → A} {loc : Loc} {w : World} {B : Bd} {rows : List Row} (m2 : ∀ (i : Nat) row, rows[i]? = some row → row.own = false ∧ RowOK e rows.length loc w B (0 + i) row ∧ ∀ q, row.lst = some q → q.own = false ∧ LstOK e loc w B (0 + i) q) : RowsOK e loc rows w B := by
 simp only [Nat.zero_add] at m2
 refine ⟨fun r x hx => (m2 r x hx).2.1, fun r x q hx hq => ⟨(m2 r x hx).1, ((m2 r x hx).2.2 q hq).2⟩, fun r s x y hx hy ox oy => ?_, fun r s x y hx _ ox => by rw [(m2 r x hx).1] at ox; cases ox⟩
 obtain ⟨q, o1, o2, _⟩ := ox
 rw [((m2 r x hx).2.2 q o1).1] at o2
 cases o2
theorem calls_of_run (hX : XL P T X) {ws : List (Nat × Nat)} (hws : WidthOK T ws) {c : Ctr} {lits : List (Nat × Int)} {ns : List Nat} {n k : Nat} {kn : List Known} {more : List A} {args : List PV} {rows rows' : List Row} {v : SV} {g : G} {ls : List L}
  (hpar : parPV (lfOf lits) c.ps ns 0 0 = some (args, rows, k)) (hrun : run X n c.f args rows (k + more.length) kn = some (v, rows', g)) (hdefs : defsB ws g.defs g.next = true)
  (hbase : (g.defs.all fun d => decide (k + more.length ≤ d.base)) = true)
  (hls : flatSV c.rs v = some ls) {as : List A} {vs : List Value} {w : World} (hargs : ArgsRel w.cell? c.ps vs as) (hlens : Lens c.ps ns as)
  (hlits : ∀ i x, look i lits = some x → ∀ a, as[i]? = some a → a = .i x)
  (hlen : (T c.f as).2.length = ls.length)
  (hpure : ∀ e, (∀ j a, (as ++ more)[j]? = some a → e j = a) → (∀ d ∈ g.defs, d.holds T e) → (∀ x ∈ g.known, x.holds T e) ∧ (∀ o ∈ g.obs, (o.ev e).bool = true) ∧
   semMany (c.rs.flatMap (·.2)) (T c.f as).2 = semMany (c.rs.flatMap (·.2)) (ls.map (L.ev e))) :
  Calls P c.f vs.toArray w fun en w' => ∃ u, en = .returned u ∧ ResRel c.rs (T c.f as).2 u ∧ Below w.heap.size w w' := by
 have lfe : ∀ (e : Nat → A), (∀ j a, as[j]? = some a → e j = a) → ∀ j a, as[j]? = some a → (lfOf lits (0 + j)).ev e = a := fun e he j a hj => by
  rw [Nat.zero_add]
  unfold lfOf
  split
  ·rename_i x hx
   exact (hlits j x hx a hj).symm
  ·exact he j a hj
 have hargs := ArgsRel.mono (M' := memP (fun k => k < w.heap.size) w) (fun a u hu => memP_of hu (World.block_lt_of_cell? w _ hu)) hargs
 have hk : k = as.length := by
  have := (par_sound (fun _ h => h) (e := fun i => as.getD i (.i 0)) hpar hargs hlens (lfe _ fun j a hj => by simp [hj])).1
  omega
 have hev0 : ∀ j a, (as ++ more)[j]? = some a → envOf T (fun i => (as ++ more).getD i (.i 0)) g.defs j = a := fun j a hj => by
  rw [envOf_below hbase j (by have := lt_of_get hj; rw [List.length_append] at this; omega)]
  simp [hj]
 have hev := lfe _ (fun j a hj => hev0 j a (by rw [List.getElem?_append_left (lt_of_get hj)]; exact hj))
 have hd := defs_hold hws (fun i => (as ++ more).getD i (.i 0)) hdefs
 obtain ⟨hkn, hobs, hres⟩ := hpure _ hev0 hd
 have hg : Good T (envOf T (fun i => (as ++ more).getD i (.i 0)) g.defs) g := ⟨hd, hobs, hkn⟩
 obtain ⟨_, locs, l1, l2⟩ := par_sound (fun _ h => h) hpar hargs hlens hev
 obtain ⟨m1, m2⟩ := l2 (fun i => locs.getD i default) rows.length (fun i x hx => by simp [hx]) (by omega)
 have hrows : RowsOK (envOf T (fun i => (as ++ more).getD i (.i 0)) g.defs) (fun i => locs.getD i default) rows w ⟨w.heap.size, fun k => k < w.heap.size⟩ :=
  rows_par m2
 refine (run_calls hX hrun hg m1 (fun _ h => h) hrows).mono ?_
 rintro en w' ⟨u, rfl, ⟨loc', hv⟩, hb⟩
 exact ⟨u, rfl, flatSV_sound hls hv hlen hres, hb⟩
end
end Rx
namespace Rx
open Go Go.RowKit
def listRes (rows : List Row) (ss : List Srt) (c : C) : Option (List L) :=
 match listArg rows ss (.one c) ⟨0, [], [], []⟩ with
 | some (ls, ⟨_, [], [], []⟩) => some ls
 | _ => none
def deepLs (rows : List Row) : List Srt → List C → Option (List L)
 | [], [] => some []
 | .sl ss :: r, c :: cs => do let a ← listRes rows ss c; let b ← deepLs rows r cs; some (a ++ b)
 | s :: r, .k x :: cs => do
  let (u, y) ← x.srt
  if !u.same s then none
  let b ← deepLs rows r cs
  some (y :: b)
 | _, _ => none
def DeepEq : List Srt → List A → List A → Prop
 | [], as, bs => as = [] ∧ bs = []
 | .sl _ :: ss, as, bs => ∃ x k r y m s, as = x :: k :: r ∧ bs = y :: m :: s ∧ x = y ∧ k.int = m.int ∧ DeepEq ss r s
 | s :: ss, as, bs => ∃ x r y q, as = x :: r ∧ bs = y :: q ∧ s.sem x = s.sem y ∧ DeepEq ss r q
def flatBig (rows : List Row) : List RS → List PV → Option (List L)
 | [], [] => some []
 | .c agg ss :: rs, p :: ps => do
  let a ← flatArg [] (.c agg ss) p
  let r ← flatBig rows rs ps
  some (a ++ r)
 | .lst ss ty :: rs, p :: ps =>
  if ss.length == 0 || !ss.all Srt.single then none else
  match p with
  | .one (.k (.lsl r k)) => do
   let row ← rows[r]?
   let a ← row.lst
   if !a.own || a.ty != ty || !srtsSame a.ss ss || !k.same a.n then none
   let q ← flatBig rows rs ps
   some ([a.x, a.n] ++ q)
  | .one (.k .nilslc) => do
   let q ← flatBig rows rs ps
   some ([.e, .n 0] ++ q)
  | _ => none
 | .d agg ss :: rs, p :: ps => do
  let a ← (match agg, p with | true, .agg l => deepLs rows ss l | false, .one c => deepLs rows ss [c] | _, _ => none)
  let q ← flatBig rows rs ps
  some (a ++ q)
 | _, _ => none
def ResEq : List RS → List A → List A → Prop
 | [], as, bs => as = [] ∧ bs = []
 | .c _ ss :: rs, as, bs => ∃ a1 a2 b1 b2, as = a1 ++ a2 ∧ bs = b1 ++ b2 ∧ a1.length = ss.length ∧ b1.length = ss.length ∧ semMany ss a1 = semMany ss b1 ∧ ResEq rs a2 b2
 | .lst _ _ :: rs, as, bs => ∃ x k r y m s, as = x :: k :: r ∧ bs = y :: m :: s ∧ x = y ∧ k.int = m.int ∧ ResEq rs r s
 | .d _ ss :: rs, as, bs => ∃ a1 a2 b1 b2, as = a1 ++ a2 ∧ bs = b1 ++ b2 ∧ a1.length = dLen ss ∧ b1.length = dLen ss ∧ DeepEq ss a1 b1 ∧ ResEq rs a2 b2
def flatBigSV (rows : List Row) (rs : List RS) : SV → Option (List L)
 | .pv p => flatBig rows rs [p]
 | .tup l => if l.length == 1 then none else flatBig rows rs l
 | _ => none
section
variable {T : Nat → List A → Bool × List A} {e : Nat → A} {P : Program} {X : Ctx} {w0 : W0}
theorem DeepEq.cells {M : Addr → Option Value} : ∀ {ss : List Srt} {as bs : List A} {vs : List Value}, DeepEq ss as bs → DCells M ss bs vs → DCells M ss as vs
 | [], _, _, _, h, hd => ⟨h.1, hd.2⟩
 | .sl _ :: _, _, _, _, h, hd => by
  obtain ⟨x, k, r, y, m, s, rfl, rfl, rfl, hkm, h⟩ := h
  obtain ⟨a, k', ar, b, m', c, cr, e1, rfl, e3, e4, e5, hd⟩ := hd
  simp only [List.cons.injEq] at e1
  obtain ⟨rfl, rfl, rfl⟩ := e1
  exact ⟨x, k, r, b, m', c, cr, rfl, rfl, hkm.trans e3, e4, e5, h.cells hd⟩
 | .int _ :: _, _, _, _, h, hd => by
  obtain ⟨x, r, y, q, rfl, rfl, hs, h⟩ := h
  obtain ⟨a, ar, cr, e1, rfl, hd⟩ := hd
  simp only [List.cons.injEq] at e1
  obtain ⟨rfl, rfl⟩ := e1
  exact ⟨x, r, cr, rfl, by rw [hs], h.cells hd⟩
 | .bool :: _, _, _, _, h, hd => by
  obtain ⟨x, r, y, q, rfl, rfl, hs, h⟩ := h
  obtain ⟨a, ar, cr, e1, rfl, hd⟩ := hd
  simp only [List.cons.injEq] at e1
  obtain ⟨rfl, rfl⟩ := e1
  exact ⟨x, r, cr, rfl, by rw [hs], h.cells hd⟩
 | .str :: _, _, _, _, h, hd => by
  obtain ⟨x, r, y, q, rfl, rfl, hs, h⟩ := h
  obtain ⟨a, ar, cr, e1, rfl, hd⟩ := hd
  simp only [List.cons.injEq] at e1
  obtain ⟨rfl, rfl⟩ := e1
  exact ⟨x, r, cr, rfl, by rw [hs], h.cells hd⟩
 | .val :: _, _, _, _, h, hd => by
  obtain ⟨x, r, y, q, rfl, rfl, hs, h⟩ := h
  obtain ⟨a, ar, cr, e1, rfl, hd⟩ := hd
  simp only [List.cons.injEq] at e1
  obtain ⟨rfl, rfl⟩ := e1
  exact ⟨x, r, cr, rfl, by rw [hs], h.cells hd⟩
theorem deepLs_one {rows : List Row} {s : Srt} {r : List Srt} {x : K} {cs : List C} {ls : List L} {loc : Loc} {w : World} {vs : List Value} {B : Bd} {M : Addr → Option Value} (hs : s.single = true)
  (h0 : deepLs rows (s :: r) (.k x :: cs) = some ls → (do
   let (u, y) ← x.srt
   if !u.same s then none
   let b ← deepLs rows r cs
   some (y :: b) : Option (List L)) = some ls)
  (ih : ∀ {ls : List L}, deepLs rows r cs = some ls → ∀ {vs : List Value}, RowsOK e loc rows w B → Cov rows loc w B M (cs.flatMap (handedC rows)) → CsRel e rows.length loc cs vs → DCells M r (ls.map (L.ev e)) vs)
  (h : deepLs rows (s :: r) (.k x :: cs) = some ls) (hR : RowsOK e loc rows w B) (hC : Cov rows loc w B M ((C.k x :: cs).flatMap (handedC rows))) (hv : CsRel e rows.length loc (.k x :: cs) vs) : DCells M (s :: r) (ls.map (L.ev e)) vs := by
 replace h := h0 h
 clear h0
 simp only [Option.bind_eq_bind, Option.bind_eq_some_iff] at h
 obtain ⟨⟨u, y⟩, hy, h⟩ := h
 simp only at h
 split at h
 ·cases h
 ·rename_i hus
  have hus := Srt.same_eq (by simpa using hus)
  subst hus
  have hy := K.srt_some hy
  subst hy
  simp only [Option.bind_eq_some_iff, Option.some.injEq] at h
  obtain ⟨b, hb, rfl⟩ := h
  cases vs with
  | nil => exact hv.elim
  | cons v vs =>
   have h3 := ih hb (vs := vs) hR (hC.sub fun x hx => by simp only [List.flatMap_cons, List.mem_append]; exact .inr hx) hv.2
   have h4 := mk_sem (e := e) hv.1
   cases u with
   | sl a => simp [Srt.single] at hs
   | int k => exact ⟨y.ev e, _, vs, rfl, by rw [h4], h3⟩
   | bool => exact ⟨y.ev e, _, vs, rfl, by rw [h4], h3⟩
   | str => exact ⟨y.ev e, _, vs, rfl, by rw [h4], h3⟩
   | val => exact ⟨y.ev e, _, vs, rfl, by rw [h4], h3⟩
theorem deepLs_deepArg {rows : List Row} : ∀ {ss : List Srt} {cs : List C} {ls : List L}, deepLs rows ss cs = some ls → ∀ {loc : Loc} {w : World} {vs : List Value} {B : Bd} {M : Addr → Option Value}, RowsOK e loc rows w B → Cov rows loc w B M (cs.flatMap (handedC rows)) → CsRel e rows.length loc cs vs → DCells M ss (ls.map (L.ev e)) vs
 | [], [], ls, h, loc, w, vs, B, M, hR, hC, hv => by
  simp only [deepLs, Option.some.injEq] at h
  subst h
  cases vs with
  | nil => exact ⟨rfl, rfl⟩
  | cons => exact hv.elim
 | .sl ss :: r, c :: cs, ls, h, loc, w, vs, B, M, hR, hC, hv => by
  simp only [deepLs, Option.bind_eq_bind, Option.bind_eq_some_iff, Option.some.injEq] at h
  obtain ⟨a, ha, b, hb, rfl⟩ := h
  unfold listRes at ha
  split at ha
  ·rename_i ls' nx hla
   injection ha with ha
   subst ha
   have hg : Good (fun _ _ => (true, [])) e ⟨nx, [], [], []⟩ := ⟨fun d h => by simp at h, fun d h => by simp at h, fun d h => by simp at h⟩
   obtain ⟨_, y, k, rfl, h4⟩ := listArg_sound hla hg
   cases vs with
   | nil => exact hv.elim
   | cons v vs =>
    obtain ⟨q1, bb, m, cc, q2, rfl, q3⟩ := h4 loc w v B M hR (hC.sub fun x hx => by
     simp only [handed, PV.cells, List.flatMap_cons, List.flatMap_nil, List.append_nil] at hx
     simp [hx]) hv.1
    exact ⟨y.ev e, k.ev e, _, bb, m, cc, vs, rfl, rfl, q2, q1, q3, deepLs_deepArg hb hR (hC.sub fun x hx => by simp only [List.flatMap_cons, List.mem_append]; exact .inr hx) hv.2⟩
  ·cases ha
 | .int kd :: r, .k x :: cs, ls, h, loc, w, vs, B, M, hR, hC, hv => deepLs_one (s := .int kd) rfl (fun h => h) (fun h _ hR hC hv => deepLs_deepArg h hR hC hv) h hR hC hv
 | .bool :: r, .k x :: cs, ls, h, loc, w, vs, B, M, hR, hC, hv => deepLs_one (s := .bool) rfl (fun h => h) (fun h _ hR hC hv => deepLs_deepArg h hR hC hv) h hR hC hv
 | .str :: r, .k x :: cs, ls, h, loc, w, vs, B, M, hR, hC, hv => deepLs_one (s := .str) rfl (fun h => h) (fun h _ hR hC hv => deepLs_deepArg h hR hC hv) h hR hC hv
 | .val :: r, .k x :: cs, ls, h, loc, w, vs, B, M, hR, hC, hv => deepLs_one (s := .val) rfl (fun h => h) (fun h _ hR hC hv => deepLs_deepArg h hR hC hv) h hR hC hv
 | .int _ :: _, .clo .. :: _, _, h, _, _, _, _, _, _, _, _ => by simp [deepLs] at h
 | .bool :: _, .clo .. :: _, _, h, _, _, _, _, _, _, _, _ => by simp [deepLs] at h
 | .str :: _, .clo .. :: _, _, h, _, _, _, _, _, _, _, _ => by simp [deepLs] at h
 | .val :: _, .clo .. :: _, _, h, _, _, _, _, _, _, _, _ => by simp [deepLs] at h
 | .int _ :: _, .cfn .. :: _, _, h, _, _, _, _, _, _, _, _ => by simp [deepLs] at h
 | .bool :: _, .cfn .. :: _, _, h, _, _, _, _, _, _, _, _ => by simp [deepLs] at h
 | .str :: _, .cfn .. :: _, _, h, _, _, _, _, _, _, _, _ => by simp [deepLs] at h
 | .val :: _, .cfn .. :: _, _, h, _, _, _, _, _, _, _, _ => by simp [deepLs] at h
 | [], _ :: _, _, h, _, _, _, _, _, _, _, _ => by simp [deepLs] at h
 | .int _ :: _, [], _, h, _, _, _, _, _, _, _, _ => by simp [deepLs] at h
 | .bool :: _, [], _, h, _, _, _, _, _, _, _, _ => by simp [deepLs] at h
 | .str :: _, [], _, h, _, _, _, _, _, _, _, _ => by simp [deepLs] at h
 | .val :: _, [], _, h, _, _, _, _, _, _, _, _ => by simp [deepLs] at h
 | .sl _ :: _, [], _, h, _, _, _, _, _, _, _, _ => by simp [deepLs] at h
theorem flatBig_sound {S : Nat → Prop} {n : Nat} {loc : Loc} {rows : List Row} {w w' : World} {B : Bd} (hn : n = rows.length) (hBn : B.n = w.heap.size) (hBF : ∀ k, B.F k → S k ∨ B.n ≤ k) (hrows : RowsOK e loc rows w' B) : ∀ {rs : List RS} {ps : List PV} {ls : List L} {us : List Value} {out : List A}, flatBig rows rs ps = some ls → PVsRel e n loc ps us →
  ResEq rs out (ls.map (L.ev e)) → RSList S w w' rs out us
 | [], [], ls, us, out, h, hv, hs => by
  simp [flatBig] at h
  subst h
  cases us with
  | nil => exact ⟨hs.1, rfl⟩
  | cons => exact hv.elim
 | .c agg ss :: rs, p :: ps, ls, us, out, h, hv, hs => by
  simp only [flatBig, Option.bind_eq_bind, Option.bind_eq_some_iff, Option.some.injEq] at h
  obtain ⟨a, ha, r, hr, rfl⟩ := h
  cases us with
  | nil => exact hv.elim
  | cons v vs =>
   obtain ⟨a1, a2, b1, b2, rfl, hb, hl1, hl2, hsem, hrest⟩ := hs
   have hfr : flatRes [(agg, ss)] [p] = some a := by simp [flatRes, ha]
   have hal : a.length = ss.length := by
    have := flatRes_sound (e := e) (vs := [v]) (out := a.map (L.ev e)) hfr ⟨hv.1, trivial⟩ (by simp) rfl
    obtain ⟨v', vr, c1, c2, h1, h2, h3, h4⟩ := this
    rw [h4.1, List.append_nil] at h2
    have := h3.1
    rw [← h2] at this
    simpa using this
   rw [List.map_append] at hb
   obtain ⟨e1, e2⟩ := List.append_inj hb (by simp [hal, hl2])
   subst e1 e2
   refine ⟨v, vs, a1, a2, rfl, rfl, ?_, flatBig_sound hn hBn hBF hrows hr hv.2 hrest⟩
   obtain ⟨v', vr, c1, c2, h1, h2, h3, h4⟩ := flatRes_sound (e := e) (vs := [v]) (out := a1) hfr ⟨hv.1, trivial⟩ (by rw [hl1, hal]) (by simpa using hsem)
   injection h1 with h1 h1'
   subst h1
   rw [h4.1, List.append_nil] at h2
   rw [h2]
   exact h3
 | .lst ss ty :: rs, p :: ps, ls, us, out, h, hv, hs => by
  unfold flatBig at h
  split at h
  ·cases h
  ·rename_i hss
   simp only [Bool.or_eq_true, beq_iff_eq, Bool.not_eq_true', not_or, Bool.not_eq_false] at hss
   obtain ⟨x, k, r, y, m, s, rfl, hb, rfl, hkm, hrest⟩ := hs
   cases us with
   | nil => exact hv.elim
   | cons v vs =>
    split at h
    ·rename_i r' k'
     simp only [Option.bind_eq_bind, Option.bind_eq_some_iff] at h
     obtain ⟨row, hrow, a, ha, h⟩ := h
     split at h
     ·cases h
     ·rename_i hc
      simp only [Bool.or_eq_true, Bool.not_eq_true', bne_iff_ne, ne_eq, not_or, Decidable.not_not, Bool.not_eq_false] at hc
      obtain ⟨⟨⟨c1, c2⟩, c3⟩, c4⟩ := hc
      have c3 := srtsSame_eq c3
      have c4 := L.same_eq c4
      simp only [Option.bind_eq_some_iff, Option.some.injEq] at h
      obtain ⟨q, hq, rfl⟩ := h
      simp only [List.cons_append, List.nil_append, List.map_cons, List.cons.injEq] at hb
      obtain ⟨hb1, hb2, rfl⟩ := hb
      obtain ⟨as, mm, l1, l2, l3, l4, l5⟩ := (hrows.lst r' row a hrow ha).2
      rw [if_pos c1] at l5
      have l6 := l5
      obtain ⟨h1, _, h3⟩ := hv.1
      simp only [K.ok] at h1
      have h3 := h3.resolve_left (by simp)
      refine ⟨v, vs, [x, k], r, rfl, rfl, ⟨as, k, mm, by rw [← hb1, l1], by rw [l2, c3], by rw [hkm, ← hb2]; exact l3, by rw [← c3]; exact l4, hss.2, ?_⟩, flatBig_sound hn hBn hBF hrows hq hv.2 hrest⟩
      cases he : (loc r').emp
      ·rw [if_neg (by simp [he])] at l6
       obtain ⟨g1, g2, g3, us', sp, g4, g5, g6⟩ := l6
       have g7 := g6.single l4 (by rw [c3]; exact hss.2)
       subst g7
       refine .inr ⟨(loc r').blk, (loc r').cap, sp, ?_, hBn ▸ g2.1, g3, by rw [← c2, ← c3]; exact g4, by rw [← c3]; exact g5⟩
       rw [h3]
       simp only [K.sem, he, Bool.false_eq_true, if_false, g1, c4, l3]
       simp
      ·rw [if_pos he] at l6
       refine .inl ⟨l6.1, ?_⟩
       rw [h3]
       simp only [K.sem, he, if_true]
       exact l6.2
    ·simp only [Option.bind_eq_bind, Option.bind_eq_some_iff, Option.some.injEq] at h
     obtain ⟨q, hq, rfl⟩ := h
     simp only [List.cons_append, List.nil_append, List.map_cons, List.cons.injEq] at hb
     obtain ⟨hb1, hb2, rfl⟩ := hb
     refine ⟨v, vs, [x, k], r, rfl, rfl, ⟨[], k, 0, by rw [← hb1]; rfl, by simp, by rw [hkm, ← hb2]; rfl, by omega, hss.2, .inl ⟨rfl, rel_nilslc hv.1⟩⟩, flatBig_sound hn hBn hBF hrows hq hv.2 hrest⟩
    ·cases h
 | .d agg ss :: rs, p :: ps, ls, us, out, h, hv, hs => by
  simp only [flatBig, Option.bind_eq_bind, Option.bind_eq_some_iff, Option.some.injEq] at h
  obtain ⟨a, ha, r, hr, rfl⟩ := h
  cases us with
  | nil => exact hv.elim
  | cons v vs =>
   obtain ⟨a1, a2, b1, b2, rfl, hb, hl1, hl2, hsem, hrest⟩ := hs
   have hcov : ∀ l, Cov rows loc w' B (memP (fun k => S k ∨ w.heap.size ≤ k) w') l := fun l =>
    ⟨memP_mono (fun k hk => hBn ▸ hBF k hk) (fun _ _ => rfl), fun r hr ⟨row, h1, h2⟩ o u hu => memP_of hu (.inr (by
     rcases h2 with h2 | h2
     ·have := hrows.row r row h1
      unfold RowOK at this
      rw [if_pos h2] at this
      exact hBn ▸ this.2.2.1.1
     ·exact hBn ▸ (hrows.lown h1 h2).2.1))⟩
   have hd : ∃ cs : List Value, (if agg then v = .agg cs.toArray else cs = [v]) ∧ DCells (memP (fun k => S k ∨ w.heap.size ≤ k) w') ss (a.map (L.ev e)) cs := by
    split at ha
    ·rename_i l
     obtain ⟨cs, rfl, hcs⟩ := hv.1
     exact ⟨cs, by simp, deepLs_deepArg ha hrows (hcov _) (hn ▸ hcs)⟩
    ·rename_i c
     exact ⟨[v], by simp, deepLs_deepArg ha hrows (hcov _) (hn ▸ ⟨hv.1, trivial⟩)⟩
    ·cases ha
   obtain ⟨cs, hc1, hc2⟩ := hd
   rw [List.map_append] at hb
   obtain ⟨e1, e2⟩ := List.append_inj hb (by rw [hl2]; exact (DCells_len hc2).1)
   subst e1 e2
   exact ⟨v, vs, a1, a2, rfl, rfl, ⟨cs, hc1, hsem.cells hc2⟩, flatBig_sound hn hBn hBF hrows hr hv.2 hrest⟩
 | [], _ :: _, _, _, _, h, _, _ => by simp [flatBig] at h
 | .d _ _ :: _, [], _, _, _, h, _, _ => by simp [flatBig] at h
 | .c _ _ :: _, [], _, _, _, h, _, _ => by simp [flatBig] at h
 | .lst _ _ :: _, [], _, _, _, h, _, _ => by simp [flatBig] at h
theorem big_of_run (hX : XL P T X) {ws : List (Nat × Nat)} (hws : WidthOK T ws) {c : Big} {lits : List (Nat × Int)} {ns : List Nat} {n k : Nat} {kn : List Known} {more : List A} {args : List PV} {rows rows' : List Row} {v : SV} {g : G} {ls : List L}
  (hpar : parPV (lfOf lits) c.ps ns 0 0 = some (args, rows, k)) (hrun : run X n c.f args rows (k + more.length) kn = some (v, rows', g)) (hdefs : defsB ws g.defs g.next = true)
  (hbase : (g.defs.all fun d => decide (k + more.length ≤ d.base)) = true)
  (hls : flatBigSV rows' c.rs v = some ls) {as : List A} {vs : List Value} {w : World} {S : Nat → Prop} (hS : ∀ k, S k → k < w.heap.size) (hargs : ArgsRel (memP S w) c.ps vs as) (hlens : Lens c.ps ns as)
  (hlits : ∀ i x, look i lits = some x → ∀ a, as[i]? = some a → a = .i x)
  (hpure : ∀ e, (∀ j a, (as ++ more)[j]? = some a → e j = a) → (∀ d ∈ g.defs, d.holds T e) → (∀ x ∈ g.known, x.holds T e) ∧ (∀ o ∈ g.obs, (o.ev e).bool = true) ∧
   ResEq c.rs (T c.f as).2 (ls.map (L.ev e))) :
  Calls P c.f vs.toArray w fun en w' => ∃ us, en = .returned (retVal us) ∧ RSList S w w' c.rs (T c.f as).2 us ∧ Below w.heap.size w w' := by
 have lfe : ∀ (e : Nat → A), (∀ j a, as[j]? = some a → e j = a) → ∀ j a, as[j]? = some a → (lfOf lits (0 + j)).ev e = a := fun e he j a hj => by
  rw [Nat.zero_add]
  unfold lfOf
  split
  ·rename_i x hx
   exact (hlits j x hx a hj).symm
  ·exact he j a hj
 have hk : k = as.length := by
  have := (par_sound hS (e := fun i => as.getD i (.i 0)) hpar hargs hlens (lfe _ fun j a hj => by simp [hj])).1
  omega
 have hev0 : ∀ j a, (as ++ more)[j]? = some a → envOf T (fun i => (as ++ more).getD i (.i 0)) g.defs j = a := fun j a hj => by
  rw [envOf_below hbase j (by have := lt_of_get hj; rw [List.length_append] at this; omega)]
  simp [hj]
 have hev := lfe _ (fun j a hj => hev0 j a (by rw [List.getElem?_append_left (lt_of_get hj)]; exact hj))
 have hd := defs_hold hws (fun i => (as ++ more).getD i (.i 0)) hdefs
 obtain ⟨hkn, hobs, hres⟩ := hpure _ hev0 hd
 have hg : Good T (envOf T (fun i => (as ++ more).getD i (.i 0)) g.defs) g := ⟨hd, hobs, hkn⟩
 obtain ⟨_, locs, l1, l2⟩ := par_sound hS hpar hargs hlens hev
 obtain ⟨m1, m2⟩ := l2 (fun i => locs.getD i default) rows.length (fun i x hx => by simp [hx]) (by omega)
 have hrows : RowsOK (envOf T (fun i => (as ++ more).getD i (.i 0)) g.defs) (fun i => locs.getD i default) rows w ⟨w.heap.size, S⟩ :=
  rows_par m2
 have := (exec_sound (T := T) (e := envOf T (fun i => (as ++ more).getD i (.i 0)) g.defs) (w0 := ⟨w, S⟩) hX n).2.2 c.f args rows (.t true) _ v rows' g hrun hg
 refine (this.2 _ vs w rfl m1 ⟨_, ⟨rfl, fun k hk => .inl hk, Nat.le_refl _, hS⟩, hrows, Below.refl _ _⟩).mono ?_
 rintro en w' ⟨u, rfl, loc', q1, q2, q3, B, ⟨hBn, hBF, hBl⟩, q4, q5⟩
 unfold flatBigSV at hls
 split at hls
 ·exact ⟨[u], rfl, flatBig_sound rfl hBn hBF q4 hls ⟨q3, trivial⟩ hres, q5⟩
 ·split at hls
  ·cases hls
  ·rename_i hl
   obtain ⟨us, rfl, hu⟩ := q3
   refine ⟨us, ?_, flatBig_sound rfl hBn hBF q4 hls hu hres, q5⟩
   have := PVsRel_len hu
   match us with
   | [] => rfl
   | [_] => simp at this; simp [this] at hl
   | _ :: _ :: _ => rfl
 ·cases hls
end
end Rx
namespace Rx
open Go Go.RowKit
section
variable {T : Nat → List A → Bool × List A} {e : Nat → A} {P : Program} {X : Ctx} {w0 : W0} {loc loc' : Loc}
theorem LExt.le {n m : Nat} (h : LExt n loc loc') (hm : m ≤ n) : LExt m loc loc' := fun r hr => h r (Nat.lt_of_lt_of_le hr hm)
theorem get_mem {x : Xit} {s : St} : ∀ {o : Outs}, Outs.get x o = some s → (x, s) ∈ o
 | [], h => by simp [Outs.get] at h
 | (y, t) :: l, h => by
  unfold Outs.get at h
  split at h
  ·rename_i hxy
   have hxy := Xit.same_iff.1 hxy
   injection h with h
   subst h hxy
   exact List.mem_cons_self ..
  ·exact List.mem_cons_of_mem _ (get_mem h)
theorem findX_mem {x : Xit} {s : St} : ∀ {o : List (Xit × St)}, findX x o = some s → (x, s) ∈ o
 | [], h => by simp [findX] at h
 | (y, t) :: l, h => by
  unfold findX at h
  split at h
  ·rename_i hxy
   have hxy := Xit.same_iff.1 hxy
   injection h with h
   subst h hxy
   exact List.mem_cons_self ..
  ·exact List.mem_cons_of_mem _ (findX_mem h)
theorem exitsOf_mem {q : Lp} {x : Xit} {s : St} : ∀ {o : Outs} {exs : List Ex}, exitsOf q o = some exs → (x, s) ∈ o → x ≠ .norm → ∃ t y, (x, t) ∈ q.outs ∧ exitL q x t s = some y ∧ y ∈ exs
 | [], _, _, h, _ => by cases h
 | (y, u) :: l, exs, h, hm, hx => by
  simp only [exitsOf, Option.bind_eq_bind, Option.bind_eq_some_iff] at h
  obtain ⟨r, hr, h⟩ := h
  rcases List.mem_cons.1 hm with heq | hm
  ·injection heq with h1 h2
   subst h1 h2
   rw [if_neg (fun h0 => hx (Xit.same_iff.1 h0))] at h
   simp only [Option.bind_eq_some_iff, Option.some.injEq] at h
   obtain ⟨t, ht, y, hy, rfl⟩ := h
   exact ⟨t, y, findX_mem ht, hy, List.mem_cons_self ..⟩
  ·obtain ⟨t, y', h1, h2, h3⟩ := exitsOf_mem hr hm hx
   refine ⟨t, y', h1, h2, ?_⟩
   split at h
   ·injection h with h
    subst h
    exact h3
   ·simp only [Option.bind_eq_some_iff, Option.some.injEq] at h
    obtain ⟨_, _, _, _, rfl⟩ := h
    exact List.mem_cons_of_mem _ h3
theorem loop_of_run (hX : XL P T X) {ws : List (Nat × Nat)} (hws : WidthOK T ws) {q : Lp} {f : Nat} {pa : List Bool} {code : Code} {n : Nat} {outs : Outs} {g : G} {back : Option (L × List L)} {exs : List Ex}
  (hat : AtF X f pa code) (hrun : exec X n f pa code (startSt q) ⟨q.k, [], [], []⟩ = some (outs, g)) (hdefs : defsB ws g.defs g.next = true) (hbase : (g.defs.all fun d => decide (q.k ≤ d.base)) = true) (hknown : g.known = []) (hm : decide (q.m ≤ q.tm.rows.length) = true)
  (hback : backOf q outs = some back) (hexs : exitsOf q outs = some exs) (hlen : ∀ as, (T q.id as).1 = true → (T q.id as).2.length = q.w) (meas : List A → Nat)
  (hpure : ∀ (as : List A) (e : Nat → A), as.length = q.k → (∀ (i : Nat) x, as[i]? = some x → e i = x) → (T q.id as).1 = true → (∀ d ∈ g.defs, d.holds T e) →
   (∀ o ∈ g.obs, (o.ev e).bool = true) ∧
   (∀ pc ls, back = some (pc, ls) → (pc.ev e).bool = true → (T q.id (ls.map (L.ev e))).1 = true ∧ (T q.id (ls.map (L.ev e))).2 = (T q.id as).2 ∧ meas (ls.map (L.ev e)) < meas as) ∧
   ∀ x ∈ exs, (x.pc.ev e).bool = true → ∀ (j : Nat) l, x.lx[j]? = some (some l) → Teq (q.tags.getD j .any) (l.ev e) ((T q.id as).2.getD j (.i 0))) : LoopOK P T q code := by
 refine ⟨hlen, fun as w0 loc a w Q => ?_⟩
 generalize hN : meas as = N
 induction N using Nat.strongRecOn generalizing as loc a w with
 | ind N ih =>
  intro hal hpre hfr hcl hQ
  have he0 : ∀ i, i < q.k → envOf T (envA as) g.defs i = envA as i := fun i hi => envOf_below hbase i hi
  generalize hE : envOf T (envA as) g.defs = e at he0
  have hd : ∀ d ∈ g.defs, d.holds T e := by rw [← hE]; exact defs_hold hws _ hdefs
  have hei : ∀ (i : Nat) x, as[i]? = some x → e i = x := fun i x hx => by
   rw [he0 i (by rw [← hal]; exact lt_of_get hx)]
   simp [envA, hx]
  obtain ⟨p1, p2, p3⟩ := hpure as e hal hei hpre hd
  have hg : Good T e g := ⟨hd, p1, by rw [hknown]; exact fun k hk => by cases hk⟩
  obtain ⟨_, hends⟩ := (exec_sound (e := e) (w0 := w0) hX n).1 f pa code (startSt q) _ outs g hat hrun hg
  have hs0 : ∀ i, envA as i = ((fun i => if i < q.k then L.var i else .n 0) i).ev e := fun i => by
   simp only
   split
   ·rename_i hi
    rw [L.ev_var, he0 i hi]
   ·rename_i hi
    simp [envA, List.getD, List.getElem?_eq_none (show as.length ≤ i by omega)]
  have hrl : (startSt q).rows.length = q.tm.rows.length := by simp [startSt, subSt]
  refine LW.of (hends.wp loc a w _ rfl (by rw [hrl]; exact (subFr_rel hs0).2 hfr) (by obtain ⟨B, hB, hR, hbel⟩ := hcl; exact ⟨B, hB, (subRows_ok hs0).2 hR, hbel⟩) fun x s hx hs => ?_)
  intro loc' a' w' q1 q2 q3 q4 q5
  by_cases hxn : x = .norm
  ·subst hxn
   show LW P code Q a' w'
   unfold backOf at hback
   rw [hx] at hback
   simp only at hback
   cases hb : backL q s with
   | none => rw [hb] at hback; cases hback
   | some ls =>
    rw [hb] at hback
    injection hback with hback
    obtain ⟨r1, r2, r3⟩ := p2 s.pc ls hback.symm hs
    unfold backL at hb
    generalize hmt : matchSt q.m q.tm s = mt at hb
    obtain ⟨ml, ρ⟩ := mt
    simp only at hb
    split at hb
    ·rename_i hc
     injection hb with hb
     rw [hb] at hc
     simp only [Bool.and_eq_true] at hc
     obtain ⟨c1, c2⟩ := hc
     obtain ⟨k1, k2, k3, k4, k5⟩ := ckSt_sound (e := e) (loc := loc') (w0 := w0) c1
     have hll : ls.length = q.k := by rw [← hb]; simp [lettersFor]
     have he1 : ∀ i, envA (ls.map (L.ev e)) i = (sigmaOf ls i).ev e := fun i => by
      unfold envA sigmaOf
      rw [List.getD, List.getElem?_map]
      cases ls[i]? <;> rfl
     have hrl2 : (subSt (sigmaOf ls) q.tm).rows.length = q.tm.rows.length := by simp [subSt]
     have hfr2 := k4 _ q3
     obtain ⟨B2, hB2, hR2, hbel2⟩ := k5 _ q5
     rw [hrl2] at hfr2 k2
     refine ih _ (by rw [← hN]; exact r3) (ls.map (L.ev e)) (locR loc' ρ) a' w' rfl (by simpa using hll) r1 ((subFr_rel he1).1 hfr2) ⟨B2, hB2, (subRows_ok he1).1 hR2, hbel2⟩ fun y t e' h1 h2 h3 loc2 a2 w2 h4 h5 h6 h7 => ?_
     refine hQ y t e' h1 (fun i => ?_) h3 loc2 a2 w2 ((q1.le (by rw [hrl]; exact k2)).trans (k3.trans h4 (Nat.le_refl _)) (Nat.le_refl _)) h5 (h6.trans q4) h7
     have := h2 i
     rw [r2] at this
     have hxx : envX q (ls.map (L.ev e)) (T q.id as).2 i = envX q as (T q.id as).2 i := by
      unfold envX
      split
      ·rename_i hi
       split
       ·rename_i hk
        unfold keepB at c2
        rw [List.all_eq_true] at c2
        have := c2 i (by simpa using hi)
        rw [hk] at this
        simp only [Bool.not_true, Bool.false_or] at this
        have h9 := he1 i
        rw [L.same_eq this, L.ev_var, he0 i hi] at h9
        exact h9
       ·rfl
      ·rfl
     rw [hxx] at this
     exact this
    ·cases hb
  ·rw [then_ne hxn]
   obtain ⟨t, y, t1, t2, t3⟩ := exitsOf_mem hexs (get_mem hx) hxn
   unfold exitL at t2
   generalize hmt : matchSt q.m t s = mt at t2
   obtain ⟨ml, ρ⟩ := mt
   simp only at t2
   generalize hlx : lxOf q t.pc ml = lx at t2
   split at t2
   ·rename_i hc
    injection t2 with t2
    subst t2
    simp only [Bool.and_eq_true] at hc
    obtain ⟨⟨c1, c2⟩, c3⟩ := hc
    obtain ⟨k1, k2, k3, k4, k5⟩ := ckSt_sound (e := e) (loc := loc') (w0 := w0) c1
    have hfr2 := k4 _ q3
    obtain ⟨B2, hB2, hR2, hbel2⟩ := k5 _ q5
    have hrl2 : (subSt (sigmaX q (varsL q.k) (moreX lx)) t).rows.length = t.rows.length := by simp [subSt]
    rw [hrl2] at hfr2 k2
    let e2 : Nat → A := fun i => (sigmaX q (varsL q.k) (moreX lx) i).ev e
    let e3 : Nat → A := fun i => if i < q.k then e2 i else match lx.getD (i - q.k) none with | some l => l.ev e | none => (T q.id as).2.getD (i - q.k) (.i 0)
    have hfr3 := (subFr_rel (e1 := e2) (fun i => rfl)).1 hfr2
    have hcl3 := (subRows_ok (e1 := e2) (fun i => rfl)).1 hR2
    have h23 : ∀ i, Teq (tagX q lx i) (e2 i) (e3 i) := fun i => by
     simp only [e3, tagX]
     split
     ·exact .of_eq rfl
     ·rename_i hi
      have : e2 i = (sigmaOf (moreX lx) (i - q.k)).ev e := by simp only [e2, sigmaX, if_neg hi]
      rw [this]
      cases hl : lx.getD (i - q.k) none with
      | none => trivial
      | some l =>
       refine .of_eq ?_
       rw [List.getD] at hl
       cases hl2 : lx[i - q.k]? with
       | none => rw [hl2] at hl; simp at hl
       | some o =>
        rw [hl2] at hl
        simp only [Option.getD_some] at hl
        subst hl
        simp [sigmaOf, moreX, hl2]
    simp only [useSt, Bool.and_eq_true] at c2
    obtain ⟨⟨u1, u2⟩, u3⟩ := c2
    have hag : ∀ i, Teq (q.tag i) (e3 i) (envX q as (T q.id as).2 i) := fun i => by
     simp only [e3, Lp.tag, envX]
     split
     ·rename_i hi
      refine .of_eq ?_
      simp only [e2, sigmaX, if_pos hi]
      split
      ·have : sigmaOf (varsL q.k) i = .var i := by simp [sigmaOf, varsL, hi]
       rw [this, L.ev_var, he0 i hi]
       rfl
      ·rfl
     ·rename_i hi
      cases hl : lx.getD (i - q.k) none with
      | none => exact .of_eq rfl
      | some l =>
       rw [List.getD] at hl
       cases hl2 : lx[i - q.k]? with
       | none => rw [hl2] at hl; simp at hl
       | some o =>
        rw [hl2] at hl
        simp only [Option.getD_some] at hl
        subst hl
        exact p3 _ t3 hs (i - q.k) l hl2
    refine hQ x t e3 t1 hag ?_ (locR loc' ρ) a' w' ((q1.le (by rw [hrl]; exact of_decide_eq_true hm)).trans k3 (Nat.le_refl _)) (useFr_rel h23 u1 hfr3) q4 ⟨B2, hB2, useRows_ok h23 u2 hcl3, hbel2⟩
    ·have hp := useL_eq h23 u3
     simp only [Teq] at hp
     rw [← hp]
     cases hpc : t.pc with
     | var i =>
      rw [hpc] at hlx c3
      simp only [lxOf] at hlx
      simp only [pcB, Bool.and_eq_true, decide_eq_true_eq] at c3
      rw [L.ev_var]
      have hlx2 : lx[i - q.k]? = some (some (.t true)) := by
       rw [← hlx, List.getElem?_set_self (by simp; omega)]
      simp only [e2, sigmaX, if_neg (show ¬ i < q.k by omega)]
      simp [sigmaOf, moreX, hlx2]
     | t b =>
      rw [hpc] at c3
      cases b
      ·cases c3
      ·rfl
     | n _ => rw [hpc] at c3; cases c3
     | s _ => rw [hpc] at c3; cases c3
     | e => rw [hpc] at c3; cases c3
   ·cases t2
end
end Rx
namespace Rx
open Go Go.RowKit
section
variable {T : Nat → List A → Bool × List A} {e : Nat → A}
theorem holds_one {b : Nat} {d : D} {args : List L} {x : A} (h : d.ev T (args.map (L.ev e)) = [x]) : Def.holds T e ⟨b, d, args⟩ ↔ e b = x := by
 unfold Def.holds
 simp only [h]
 constructor
 ·intro hh
  simpa using hh 0 x rfl
 ·intro hh j a ha
  cases j with
  | zero => simp at ha; subst ha; simpa using hh
  | succ j => simp at ha
theorem holds_ar {b op k x y} : Def.holds T e ⟨b, .ar op k, [x, y]⟩ ↔ e b = .i (arI op k (x.ev e).int (y.ev e).int) := holds_one rfl
theorem holds_dv {b op k x y} : Def.holds T e ⟨b, .dv op k, [x, y]⟩ ↔ e b = .i (dvI op k (x.ev e).int (y.ev e).int) := holds_one rfl
theorem holds_bt {b op k x y} : Def.holds T e ⟨b, .bt op k, [x, y]⟩ ↔ e b = .i (btI op k (x.ev e).int (y.ev e).int) := holds_one rfl
theorem holds_cmp {b op x y} : Def.holds T e ⟨b, .cmp op, [x, y]⟩ ↔ e b = .b (cmpI op (x.ev e).int (y.ev e).int) := holds_one rfl
theorem holds_conv {b k x} : Def.holds T e ⟨b, .conv k, [x]⟩ ↔ e b = .i (k.wrap (x.ev e).int) := holds_one rfl
theorem holds_neg {b k x} : Def.holds T e ⟨b, .neg k, [x]⟩ ↔ e b = .i (k.wrap (0 - (x.ev e).int)) := holds_one rfl
theorem holds_not {b x} : Def.holds T e ⟨b, .not, [x]⟩ ↔ e b = .b (!(x.ev e).bool) := holds_one rfl
theorem holds_and {b x y} : Def.holds T e ⟨b, .and, [x, y]⟩ ↔ e b = .b ((x.ev e).bool && (y.ev e).bool) := holds_one rfl
theorem holds_or {b x y} : Def.holds T e ⟨b, .or, [x, y]⟩ ↔ e b = .b ((x.ev e).bool || (y.ev e).bool) := holds_one rfl
theorem holds_imp {b x y} : Def.holds T e ⟨b, .imp, [x, y]⟩ ↔ e b = .b (!(x.ev e).bool || (y.ev e).bool) := holds_one rfl
theorem holds_iteI {b x y z} : Def.holds T e ⟨b, .iteI, [x, y, z]⟩ ↔ e b = .i (if (x.ev e).bool then (y.ev e).int else (z.ev e).int) := holds_one rfl
theorem holds_iteB {b x y z} : Def.holds T e ⟨b, .iteB, [x, y, z]⟩ ↔ e b = .b (if (x.ev e).bool then (y.ev e).bool else (z.ev e).bool) := holds_one rfl
theorem holds_iteV {b x y z} : Def.holds T e ⟨b, .iteV, [x, y, z]⟩ ↔ e b = .v (if (x.ev e).bool then (y.ev e).val else (z.ev e).val) := holds_one rfl
theorem holds_eqB {b x y} : Def.holds T e ⟨b, .eqB, [x, y]⟩ ↔ e b = .b ((x.ev e).bool == (y.ev e).bool) := holds_one rfl
theorem holds_eqS {b x y} : Def.holds T e ⟨b, .eqS, [x, y]⟩ ↔ e b = .b ((x.ev e).str == (y.ev e).str) := holds_one rfl
theorem holds_mn {b x y} : Def.holds T e ⟨b, .mn, [x, y]⟩ ↔ e b = .i (if (y.ev e).int < (x.ev e).int then (y.ev e).int else (x.ev e).int) := holds_one rfl
theorem holds_mx {b x y} : Def.holds T e ⟨b, .mx, [x, y]⟩ ↔ e b = .i (if (x.ev e).int < (y.ev e).int then (y.ev e).int else (x.ev e).int) := holds_one rfl
theorem holds_slen {b x} : Def.holds T e ⟨b, .slen, [x]⟩ ↔ e b = .i ((x.ev e).str.size : Int) := holds_one rfl
theorem holds_iteA {b x y z} : Def.holds T e ⟨b, .iteA, [x, y, z]⟩ ↔ e b = (if (x.ev e).bool then y.ev e else z.ev e) := holds_one rfl
theorem holds_pix {b o s x i} : Def.holds T e ⟨b, .pix o s, [x, i]⟩ ↔ e b = (x.ev e).els.getD (o + s * (i.ev e).int.toNat) (.i 0) := holds_one rfl
theorem holds_pset {b o s x i y} : Def.holds T e ⟨b, .pset o s, [x, i, y]⟩ ↔ e b = .l ((x.ev e).els.set (o + s * (i.ev e).int.toNat) (y.ev e)) := holds_one rfl
theorem holds_lln {b s x} : Def.holds T e ⟨b, .lln s, [x]⟩ ↔ e b = .i (((x.ev e).els.length / s : Nat) : Int) := holds_one rfl
theorem holds_rep {b x zs} : Def.holds T e ⟨b, .rep, x :: zs⟩ ↔ e b = .l (List.replicate (x.ev e).int.toNat (zs.map (L.ev e))).flatten := holds_one rfl
theorem holds_mkl {b l} : Def.holds T e ⟨b, .mkl, l⟩ ↔ e b = .l (l.map (L.ev e)) := holds_one rfl
theorem holds_cat {b x y} : Def.holds T e ⟨b, .cat, [x, y]⟩ ↔ e b = .l ((x.ev e).els ++ (y.ev e).els) := holds_one rfl
theorem holds_sel {b x l} : Def.holds T e ⟨b, .sel, x :: l⟩ ↔ e b = (l.map (L.ev e))[(x.ev e).int.toNat]?.getD (.i 0) := holds_one rfl
end
end Rx
namespace Rx
open Go Go.RowKit
inductive LS where
 | s (x : Srt) | sl (t e : Nat)
def LS.srt : LS → Srt
 | .s x => x
 | .sl .. => .val
def flatFs (F : Nat → Option (List LS)) (tys : List (Nat × Ty)) : List (Nat × Nat) → Nat → Option (List LS)
 | [], _ => some []
 | (t, off) :: l, o => do
  let ty ← look t tys
  let a ← F t
  if off == o && a.length == ty.size then let r ← flatFs F tys l (o + ty.size); some (a ++ r) else none
def flatT (tys : List (Nat × Ty)) : Nat → Nat → Option (List LS)
 | 0, _ => none
 | n + 1, t => do
  let ty ← look t tys
  match ty.kind with
  | .int k => some [.s (.int k)]
  | .bool => some [.s .bool]
  | .string => some [.s .str]
  | .slice e => some [.sl t e]
  | .arr m e => do
   let te ← look e tys
   let l ← flatFs (flatT tys n) tys ((List.range m).map fun i => (e, i * te.size)) 0
   if l.length == ty.size then some l else none
  | .struct fs => do
   let l ← flatFs (flatT tys n) tys fs 0
   if l.length == ty.size then some l else none
  | _ => none
section
variable {H : Type} {enc : TypeId × Value → H} {P : Program} {w : World} {base : Nat} {spare : Nat → Bool} {held : Bool}
def LeafOK {H : Type} (enc : TypeId × Value → H) (P : Program) (w : World) (base : Nat) (spare : Nat → Bool) (held : Bool) : LS → A → Prop
 | .s (.int k), a => k.min ≤ a.int ∧ a.int ≤ k.max
 | .s .str, a => a.str.size ≤ maxLen
 | .s _, _ => True
 | .sl t _, a => ∃ fuel x, DataW.trod enc P w base spare held fuel t [sliceV a.val] = some x
def LeavesOK {H : Type} (enc : TypeId × Value → H) (P : Program) (w : World) (base : Nat) (spare : Nat → Bool) (held : Bool) : List LS → List A → Prop
 | [], as => as = []
 | s :: ss, as => ∃ a r, as = a :: r ∧ LeafOK enc P w base spare held s a ∧ LeavesOK enc P w base spare held ss r
theorem LeavesOK_append : ∀ {s1 s2 : List LS} {a1 a2 : List A}, LeavesOK enc P w base spare held s1 a1 → LeavesOK enc P w base spare held s2 a2 → LeavesOK enc P w base spare held (s1 ++ s2) (a1 ++ a2)
 | [], _, _, _, h1, h2 => by
  rw [show _ = ([] : List A) from h1]
  exact h2
 | s :: s1, s2, a1, a2, h1, h2 => by
  obtain ⟨a, r, rfl, h3, h4⟩ := h1
  exact ⟨a, r ++ a2, rfl, h3, LeavesOK_append h4 h2⟩
theorem LeavesOK_len : ∀ {ss : List LS} {as : List A}, LeavesOK enc P w base spare held ss as → as.length = ss.length
 | [], _, h => by rw [show _ = ([] : List A) from h]; rfl
 | s :: ss, as, h => by
  obtain ⟨a, r, rfl, _, h⟩ := h
  simp [LeavesOK_len h]
theorem flatFs_open {tys : List (Nat × Ty)} (hX : TysOK P tys) {n : Nat} {F : Nat → Option (List LS)}
  (hF : ∀ t ss, F t = some ss → ∀ fuel cs x, DataW.trod enc P w base spare held fuel t cs = some x → ∃ as, LeavesOK enc P w base spare held ss as ∧ cs = semMany (ss.map LS.srt) as) (cs : List Value) :
  ∀ (fl : List (Nat × Nat)) (o : Nat) (ss : List LS), flatFs F tys fl o = some ss → (∀ f ∈ fl, ∃ y, DataW.trod enc P w base spare held n f.1 ((cs.drop f.2).take (P.cellsOf f.1)) = some y) →
   ∃ as, LeavesOK enc P w base spare held ss as ∧ (cs.drop o).take ss.length = semMany (ss.map LS.srt) as
 | [], o, ss, h, _ => by
  simp only [flatFs, Option.some.injEq] at h
  subst h
  exact ⟨[], rfl, by simp [semMany]⟩
 | (t, off) :: fl, o, ss, h, hf => by
  simp only [flatFs, Option.bind_eq_bind, Option.bind_eq_some_iff] at h
  obtain ⟨ty, hty, a, ha, h⟩ := h
  split at h
  ·rename_i hc
   simp only [Bool.and_eq_true, beq_iff_eq] at hc
   obtain ⟨rfl, hlen⟩ := hc
   simp only [Option.bind_eq_some_iff, Option.some.injEq] at h
   obtain ⟨r, hr, rfl⟩ := h
   obtain ⟨y, hy⟩ := hf (t, off) (by simp)
   simp only at hy
   have hsz : P.cellsOf t = ty.size := by
    obtain ⟨i, z, h1, h2, _⟩ := (hX t ty hty).info
    rw [Program.cellsOf, h1]
    exact h2
   obtain ⟨as1, h1, h2⟩ := hF t a ha n _ y hy
   obtain ⟨as2, h3, h4⟩ := flatFs_open hX hF cs fl (off + ty.size) r hr (fun f hf' => hf f (by simp [hf']))
   refine ⟨as1 ++ as2, LeavesOK_append h1 h3, ?_⟩
   rw [List.length_append, List.take_add, List.drop_drop, hlen, h4, List.map_append, semMany_append (by rw [List.length_map, LeavesOK_len h1]), ← h2, hsz]
  ·cases h
theorem flatT_open {tys : List (Nat × Ty)} (hX : TysOK P tys) : ∀ (n t : Nat) (ss : List LS), flatT tys n t = some ss → ∀ (fuel : Nat) (cs : List Value) (x : DataW H × List MemPlace), DataW.trod enc P w base spare held fuel t cs = some x →
  ∃ as, LeavesOK enc P w base spare held ss as ∧ cs = semMany (ss.map LS.srt) as
 | 0, t, ss, h => by simp [flatT] at h
 | n + 1, t, ss, h => fun fuel cs x hx => by
  simp only [flatT, Option.bind_eq_bind, Option.bind_eq_some_iff] at h
  obtain ⟨ty, hty, h⟩ := h
  have hT := hX t ty hty
  obtain ⟨d, hd, hk⟩ := hT.kind
  have hsz : P.cellsOf t = ty.size := by
   obtain ⟨i, z, h1, h2, _⟩ := hT.info
   rw [Program.cellsOf, h1]
   exact h2
  split at h
  ·rename_i k hkk
   injection h with h
   subst h
   rw [hkk] at hk
   cases d <;> simp only [TK.okB, Bool.false_eq_true] at hk
   rw [← kindSame_eq hk] at hd
   obtain ⟨m, rfl, _, hw⟩ := DataW.trod_int hd hx
   simp only [Lit.wf, Bool.and_eq_true, decide_eq_true_eq] at hw
   exact ⟨[.i m], ⟨_, _, rfl, hw, rfl⟩, rfl⟩
  ·rename_i hkk
   injection h with h
   subst h
   rw [hkk] at hk
   cases d <;> simp only [TK.okB, Bool.false_eq_true] at hk
   obtain ⟨m, rfl, _⟩ := DataW.trod_bool hd hx
   exact ⟨[.b m], ⟨_, _, rfl, trivial, rfl⟩, rfl⟩
  ·rename_i hkk
   injection h with h
   subst h
   rw [hkk] at hk
   cases d <;> simp only [TK.okB, Bool.false_eq_true] at hk
   obtain ⟨m, rfl, _, hl⟩ := DataW.trod_string hd hx
   exact ⟨[.v (.string m)], ⟨_, _, rfl, hl, rfl⟩, rfl⟩
  ·rename_i e hkk
   injection h with h
   subst h
   rw [hkk] at hk
   cases d <;> simp only [TK.okB, Bool.false_eq_true] at hk
   rcases DataW.trod_slice hd hx with ⟨rfl, _⟩ | ⟨a, len, cap, _, _, _, _, rfl, _⟩
   ·exact ⟨[.v (.slice none 0 0)], ⟨_, _, rfl, ⟨fuel, x, hx⟩, rfl⟩, rfl⟩
   ·exact ⟨[.v (.slice (some a) len cap)], ⟨_, _, rfl, ⟨fuel, x, hx⟩, rfl⟩, rfl⟩
  ·rename_i m e hkk
   simp only [Option.bind_eq_some_iff] at h
   obtain ⟨te, hte, l, hl, h⟩ := h
   split at h
   ·rename_i hlen
    have hlen : l.length = ty.size := by simpa using hlen
    injection h with h
    subst h
    rw [hkk] at hk
    cases d <;> simp only [TK.okB, Bool.false_eq_true, Bool.and_eq_true, beq_iff_eq] at hk
    obtain ⟨rfl, rfl⟩ := hk
    obtain ⟨xs, q, rfl, _, hcl, hxl, hel⟩ := DataW.trod_array hd hx
    have hse : P.cellsOf e = te.size := by
     obtain ⟨i, z, h1, h2, _⟩ := (hX e te hte).info
     rw [Program.cellsOf, h1]
     exact h2
    obtain ⟨as, h1, h2⟩ := flatFs_open (n := q) hX (fun t ss h => flatT_open hX n t ss h) cs _ 0 l hl (fun f hf => by
     obtain ⟨i, hi, rfl⟩ := List.mem_map.1 hf
     have hi : i < m := by simpa using hi
     refine ⟨xs[i]'(by omega), ?_⟩
     have := hel i hi
     simp only [hse] at this ⊢
     rw [this]
     simp)
    refine ⟨as, h1, ?_⟩
    rw [← h2, List.drop_zero, List.take_of_length_le (by omega)]
   ·cases h
  ·rename_i fs hkk
   simp only [Option.bind_eq_some_iff] at h
   obtain ⟨l, hl, h⟩ := h
   split at h
   ·rename_i hlen
    have hlen : l.length = ty.size := by simpa using hlen
    injection h with h
    subst h
    rw [hkk] at hk
    cases d <;> simp only [TK.okB, Bool.false_eq_true] at hk
    rename_i gs
    have hfs := sameFs_eq hk
    subst hfs
    obtain ⟨xs, q, rfl, _, hcl, hxl, hel⟩ := DataW.trod_struct hd hx
    obtain ⟨as, h1, h2⟩ := flatFs_open (n := q) hX (fun t ss h => flatT_open hX n t ss h) cs _ 0 l hl (fun f hf => by
     obtain ⟨fd, hfd, rfl⟩ := List.mem_map.1 hf
     obtain ⟨i, hi, hi2⟩ := List.getElem_of_mem hfd
     have hi' : i < gs.size := by simpa using hi
     refine ⟨xs[i]'(by omega), ?_⟩
     have := hel i fd (by rw [← hi2]; simp [hi'])
     rw [this]
     simp)
    refine ⟨as, h1, ?_⟩
    rw [← h2, List.drop_zero, List.take_of_length_le (by omega)]
   ·cases h
  ·cases h
theorem open_arg {tys : List (Nat × Ty)} (hX : TysOK P tys) {r : Reach} {b0 n t : Nat} {ty : Ty} {ss : List LS} {v : Value} {d : DataW H} {p : List MemPlace} (hty : look t tys = some ty) (hs : flatT tys n t = some ss)
  (hval : Value.okWide P w r b0 t v) (h : DataW.Trod enc P w base spare held t v d p) :
  ∃ as, LeavesOK enc P w base spare held ss as ∧ OneArg w.cell? (.c ty.kind.agg (ss.map LS.srt)) v as := by
 obtain ⟨fuel, hx⟩ := h
 obtain ⟨as, h1, h2⟩ := flatT_open hX n t ss hs fuel _ _ hx
 obtain ⟨dd, hd, hk⟩ := (hX t ty hty).kind
 refine ⟨as, h1, by rw [List.length_map, LeavesOK_len h1], ?_⟩
 have hagg : ty.kind.agg = true → ∃ cs, v = .agg cs := by
  intro ha
  cases hkk : ty.kind <;> rw [hkk] at ha hk <;> simp [TK.agg] at ha
  all_goals
   cases dd <;> simp [TK.okB] at hk
   simp only [Value.okWide, hd] at hval
   obtain ⟨cs, h1, _⟩ := hval
   exact ⟨cs, h1⟩
 split
 ·rename_i ha
  obtain ⟨cs, rfl⟩ := hagg ha
  simp only [Value.cells] at h2
  rw [← h2]
 ·rename_i ha
  have h1' : ss.length = 1 := by
   cases n with
   | zero => simp [flatT] at hs
   | succ n =>
    simp only [flatT, hty, Option.bind_eq_bind, Option.bind_some] at hs
    split at hs
    ·injection hs with hs; subst hs; rfl
    ·injection hs with hs; subst hs; rfl
    ·injection hs with hs; subst hs; rfl
    ·injection hs with hs; subst hs; rfl
    ·rename_i hkk; rw [hkk] at ha; simp [TK.agg] at ha
    ·rename_i hkk; rw [hkk] at ha; simp [TK.agg] at ha
    ·cases hs
  obtain ⟨s, rfl⟩ : ∃ s, ss = [s] := by
   match ss, h1' with
   | [s], _ => exact ⟨s, rfl⟩
  obtain ⟨a, rr, rfl, h3, hr⟩ := h1
  rw [show rr = [] from hr] at h2 ⊢
  refine ⟨s.srt, a, rfl, rfl, ?_⟩
  simp only [List.map_cons, List.map_nil, semMany] at h2
  have hnot : ∀ cs, v ≠ .agg cs := by
   rintro cs rfl
   cases n with
   | zero => simp [flatT] at hs
   | succ n =>
    simp only [flatT, hty, Option.bind_eq_bind, Option.bind_some] at hs
    cases hkk : ty.kind <;> rw [hkk] at hs hk ha <;> simp [TK.agg] at ha <;> simp at hs <;> cases dd <;> simp [TK.okB] at hk <;>
     simp [Value.okWide, hd, Cell.okWide, Cell.ok] at hval
  cases v <;> first | (exact absurd rfl (hnot _)) | (simpa [Value.cells] using h2)
end
end Rx
namespace Rx
open Go Go.RowKit
def gi (as : List A) (i : Nat) : Int := (as.getD i (.i 0)).int
def gb (as : List A) (i : Nat) : Bool := (as.getD i (.i 0)).bool
def gs (as : List A) (i : Nat) : ByteArray := (as.getD i (.i 0)).str
def gv (as : List A) (i : Nat) : Value := (as.getD i (.i 0)).val
def tab (l : List (Nat × (List A → Bool × List A))) (f : Nat) (as : List A) : Bool × List A :=
 match look f l with
 | some t => t as
 | none => (false, [])
def FnOK (P : Program) (f : Nat) (fn : Func) : Prop := P.funcs[f]? = some fn ∧ (fn.name == "runtime.NumGoroutine") = false ∧ fn.body.isSome = true
def FnsAll (P : Program) : List (Nat × Func) → Prop
 | [] => True
 | x :: l => FnOK P x.1 x.2 ∧ FnsAll P l
section
variable {T : Nat → List A → Bool × List A} {e : Nat → A} {P : Program}
theorem fnsOK_of {l : List (Nat × Func)} (h : FnsAll P l) : FnsOK P (fun f => look f l) := fun f fn hf => by
 induction l with
 | nil => cases hf
 | cons x l ih =>
  simp only [look] at hf
  split at hf
  ·rename_i hx
   injection hf with hf
   have hx : x.1 = f := by simpa using hx
   subst hx
   subst hf
   exact h.1
  ·exact ih h.2 hf
theorem q_ar {b op k x y} (h : Def.holds T e ⟨b, .ar op k, [x, y]⟩) : (e b).int = arI op k (x.ev e).int (y.ev e).int := by rw [holds_ar.1 h]; rfl
theorem q_dv {b op k x y} (h : Def.holds T e ⟨b, .dv op k, [x, y]⟩) : (e b).int = dvI op k (x.ev e).int (y.ev e).int := by rw [holds_dv.1 h]; rfl
theorem q_bt {b op k x y} (h : Def.holds T e ⟨b, .bt op k, [x, y]⟩) : (e b).int = btI op k (x.ev e).int (y.ev e).int := by rw [holds_bt.1 h]; rfl
theorem q_cmp {b op x y} (h : Def.holds T e ⟨b, .cmp op, [x, y]⟩) : (e b).bool = cmpI op (x.ev e).int (y.ev e).int := by rw [holds_cmp.1 h]; rfl
theorem q_conv {b k x} (h : Def.holds T e ⟨b, .conv k, [x]⟩) : (e b).int = k.wrap (x.ev e).int := by rw [holds_conv.1 h]; rfl
theorem q_neg {b k x} (h : Def.holds T e ⟨b, .neg k, [x]⟩) : (e b).int = k.wrap (0 - (x.ev e).int) := by rw [holds_neg.1 h]; rfl
theorem q_not {b x} (h : Def.holds T e ⟨b, .not, [x]⟩) : (e b).bool = !(x.ev e).bool := by rw [holds_not.1 h]; rfl
theorem q_and {b x y} (h : Def.holds T e ⟨b, .and, [x, y]⟩) : (e b).bool = ((x.ev e).bool && (y.ev e).bool) := by rw [holds_and.1 h]; rfl
theorem q_or {b x y} (h : Def.holds T e ⟨b, .or, [x, y]⟩) : (e b).bool = ((x.ev e).bool || (y.ev e).bool) := by rw [holds_or.1 h]; rfl
theorem q_imp {b x y} (h : Def.holds T e ⟨b, .imp, [x, y]⟩) : (e b).bool = (!(x.ev e).bool || (y.ev e).bool) := by rw [holds_imp.1 h]; rfl
theorem q_iteI {b x y z} (h : Def.holds T e ⟨b, .iteI, [x, y, z]⟩) : (e b).int = (if (x.ev e).bool then (y.ev e).int else (z.ev e).int) := by rw [holds_iteI.1 h]; rfl
theorem q_iteB {b x y z} (h : Def.holds T e ⟨b, .iteB, [x, y, z]⟩) : (e b).bool = (if (x.ev e).bool then (y.ev e).bool else (z.ev e).bool) := by rw [holds_iteB.1 h]; rfl
theorem q_iteV {b x y z} (h : Def.holds T e ⟨b, .iteV, [x, y, z]⟩) : (e b).val = (if (x.ev e).bool then (y.ev e).val else (z.ev e).val) := by rw [holds_iteV.1 h]; rfl
theorem q_eqB {b x y} (h : Def.holds T e ⟨b, .eqB, [x, y]⟩) : (e b).bool = ((x.ev e).bool == (y.ev e).bool) := by rw [holds_eqB.1 h]; rfl
theorem q_eqS {b x y} (h : Def.holds T e ⟨b, .eqS, [x, y]⟩) : (e b).bool = ((x.ev e).str == (y.ev e).str) := by rw [holds_eqS.1 h]; rfl
theorem q_mn {b x y} (h : Def.holds T e ⟨b, .mn, [x, y]⟩) : (e b).int = (if (y.ev e).int < (x.ev e).int then (y.ev e).int else (x.ev e).int) := by rw [holds_mn.1 h]; rfl
theorem q_mx {b x y} (h : Def.holds T e ⟨b, .mx, [x, y]⟩) : (e b).int = (if (x.ev e).int < (y.ev e).int then (y.ev e).int else (x.ev e).int) := by rw [holds_mx.1 h]; rfl
theorem q_slen {b x} (h : Def.holds T e ⟨b, .slen, [x]⟩) : (e b).int = ((x.ev e).str.size : Int) := by rw [holds_slen.1 h]; rfl
theorem getD_int (l : List L) (i : Nat) : ((l.map (L.ev e))[i]?.getD (.i 0)).int = (l.map fun a => (a.ev e).int).getD i 0 := by
 rw [List.getD, List.getElem?_map, List.getElem?_map]
 cases l[i]? <;> rfl
theorem q_selI {b x l} (h : Def.holds T e ⟨b, .sel, x :: l⟩) : (e b).int = (l.map fun a => (a.ev e).int).getD (x.ev e).int.toNat 0 := by rw [holds_sel.1 h]; exact getD_int _ _
theorem upd_at {b x y l j a} (h : Def.holds T e ⟨b, .upd, x :: y :: l⟩) (ha : l[j]? = some a) : e (b + j) = if (x.ev e).int.toNat = j then y.ev e else a.ev e := by
 have hj : j < l.length := lt_of_get ha
 refine h j _ ?_
 show ((l.map (L.ev e)).set _ _)[j]? = _
 rw [List.getElem?_set]
 split
 ·rename_i hx
  rw [if_pos (by simpa [hx] using hj)]
 ·rename_i hx
  rw [List.getElem?_map, ha]
  rfl
theorem q_updI {b x y l} (j : Nat) {a} (h : Def.holds T e ⟨b, .upd, x :: y :: l⟩) (ha : l[j]? = some a) : (e (b + j)).int = if (x.ev e).int.toNat = j then (y.ev e).int else (a.ev e).int := by
 rw [upd_at h ha]; split <;> rfl
theorem q_pre {b f args} {t : List A → Bool × List A} (ht : T f = t) (h : Def.holds T e ⟨b, .call f, args⟩) : (e b).bool = (t (args.map (L.ev e))).1 := by
 have := h 0 (.b (T f (args.map (L.ev e))).1) rfl
 rw [ht, Nat.add_zero] at this
 rw [this]
 rfl
theorem q_out {b f args} {t : List A → Bool × List A} (ht : T f = t) (j : Nat) {a : A} (h : Def.holds T e ⟨b, .call f, args⟩) (ha : (t (args.map (L.ev e))).2[j]? = some a) : e (b + (j + 1)) = a := by
 refine h (j + 1) a ?_
 show (_ :: (T f (args.map (L.ev e))).2)[j + 1]? = _
 rw [List.getElem?_cons_succ, ht]
 exact ha
theorem list_e {as more : List A} (he : ∀ j a, (as ++ more)[j]? = some a → e j = a) {n : Nat} (hn : as.length = n) : as = (List.range n).map e := by
 apply List.ext_getElem?
 intro i
 by_cases hi : i < as.length
 ·have h1 : (as ++ more)[i]? = some as[i] := by rw [List.getElem?_append_left hi]; simp
  rw [List.getElem?_map, List.getElem?_range (by omega), List.getElem?_eq_getElem hi]
  simp [he i _ h1]
 ·rw [List.getElem?_eq_none (by omega), List.getElem?_eq_none (by simp; omega)]
def flatPS : PS → Bool
 | .slc _ => false
 | _ => true
def widthPS : PS → Nat
 | .c _ l => l.length
 | .lst _ => 2
 | .d _ l => dLen l
 | _ => 0
theorem args_flat {M : Addr → Option Value} : ∀ {ps : List PS} {vs : List Value} {as : List A}, ArgsRel M ps vs as → ps.all flatPS = true → Lens ps [] as ∧ as.length = (ps.map widthPS).sum
 | [], vs, as, h, _ => by rw [h.2]; exact ⟨⟨rfl, rfl⟩, rfl⟩
 | p :: ps, vs, as, h, hp => by
  obtain ⟨v, vr, a1, a2, rfl, rfl, h1, h2⟩ := h
  simp only [List.all_cons, Bool.and_eq_true] at hp
  obtain ⟨k1, k2⟩ := args_flat h2 hp.2
  cases p with
  | c agg ss => exact ⟨⟨a1, a2, rfl, h1.1, k1⟩, by simp [widthPS, h1.1, k2]⟩
  | slc ss => simp [flatPS] at hp
  | lst ss =>
   obtain ⟨x, k, _, _, _, rfl, _⟩ := h1
   exact ⟨⟨x, k, a2, rfl, k1⟩, by simp [widthPS, k2]; omega⟩
  | nil =>
   obtain ⟨_, rfl⟩ := h1
   exact ⟨k1, by simpa [widthPS] using k2⟩
  | d agg ss =>
   obtain ⟨cs, _, hd⟩ := h1
   have := (DCells_len hd).1
   exact ⟨⟨a1, a2, rfl, this, k1⟩, by simp [widthPS, this, k2]⟩
theorem semI1 {k : IntKind} {a b : A} (h : a.int = b.int) : (Srt.int k).sem a = (Srt.int k).sem b := by simp only [Srt.sem, h]
theorem semI {k : IntKind} {ss : List Srt} {a b : A} {as bs : List A} (h : a.int = b.int) (hr : semMany ss as = semMany ss bs) : semMany (.int k :: ss) (a :: as) = semMany (.int k :: ss) (b :: bs) := by
 simp only [semMany, Srt.sem, h, hr]
theorem semB {ss : List Srt} {a b : A} {as bs : List A} (h : a.bool = b.bool) (hr : semMany ss as = semMany ss bs) : semMany (.bool :: ss) (a :: as) = semMany (.bool :: ss) (b :: bs) := by
 simp only [semMany, Srt.sem, h, hr]
theorem wrap64 {x : Int} (h1 : -9223372036854775808 ≤ x) (h2 : x ≤ 9223372036854775807) : IntKind.wrap .i64 x = x := by
 simp only [IntKind.wrap, IntKind.signed, IntKind.bits]
 simp
 omega
end
end Rx
namespace Rx
open Go Go.RowKit
section
variable {T : Nat → List A → Bool × List A} {e : Nat → A} {P : Program}
def CtrsAll (P : Program) (T : Nat → List A → Bool × List A) : List (Nat × Ctr) → Prop
 | [] => True
 | x :: l => (x.2.f = x.1 ∧ CtrOK P T x.2) ∧ CtrsAll P T l
theorem ctrsOK_of : ∀ {l : List (Nat × Ctr)}, CtrsAll P T l → CtrsOK P T l
 | [], _ => fun x hx => by cases hx
 | y :: l, h => fun x hx => by
  rcases List.mem_cons.1 hx with rfl | hx
  ·exact h.1
  ·exact ctrsOK_of h.2 x hx
def BigsAll (P : Program) (T : Nat → List A → Bool × List A) : List (Nat × Big) → Prop
 | [] => True
 | x :: l => (x.2.f = x.1 ∧ BigOK P T x.2) ∧ BigsAll P T l
theorem bigsOK_of : ∀ {l : List (Nat × Big)}, BigsAll P T l → BigsOK P T l
 | [], _ => fun x hx => by cases hx
 | y :: l, h => fun x hx => by
  rcases List.mem_cons.1 hx with rfl | hx
  ·exact h.1
  ·exact bigsOK_of h.2 x hx
def ObsAll (e : Nat → A) : List L → Prop
 | [] => True
 | o :: l => (o.ev e).bool = true ∧ ObsAll e l
theorem obs_of : ∀ {l : List L}, ObsAll e l → ∀ o ∈ l, (o.ev e).bool = true
 | [], _ => fun x hx => by cases hx
 | y :: l, h => fun x hx => by
  rcases List.mem_cons.1 hx with rfl | hx
  ·exact h.1
  ·exact obs_of h.2 x hx
end
end Rx
namespace Rx
open Go Go.RowKit
abbrev V := L.var
abbrev N := L.n
abbrev B := L.t
section
variable {T : Nat → List A → Bool × List A} {e : Nat → A}
theorem A.str_v (b : ByteArray) : (A.v (.string b)).str = b := rfl
def isI (a : A) : Prop := a = .i a.int
def ifQ {α : Type} (c : Bool) (x y : α) : α := if c then x else y
def updV (i j : Nat) (x y : Int) : Int := if i = j then x else y
def ltQ (x y u v : Int) : Int := if x < y then u else v
def updQ (e : Nat → A) (x y : L) (b : Nat) : Nat → List L → Prop
 | _, [] => True
 | j, a :: l => (e (b + j)).int = updV (x.ev e).int.toNat j (y.ev e).int (a.ev e).int ∧ updQ e x y b (j + 1) l
def Def.q (T : Nat → List A → Bool × List A) (e : Nat → A) : Def → Prop
 | ⟨b, .ar op k, [x, y]⟩ => (e b).int = arI op k (x.ev e).int (y.ev e).int ∧ isI (e b)
 | ⟨b, .dv op k, [x, y]⟩ => (e b).int = dvI op k (x.ev e).int (y.ev e).int ∧ isI (e b)
 | ⟨b, .bt op k, [x, y]⟩ => (e b).int = btI op k (x.ev e).int (y.ev e).int
 | ⟨b, .cmp op, [x, y]⟩ => (e b).bool = cmpI op (x.ev e).int (y.ev e).int
 | ⟨b, .conv k, [x]⟩ => (e b).int = k.wrap (x.ev e).int ∧ isI (e b)
 | ⟨b, .neg k, [x]⟩ => (e b).int = k.wrap (0 - (x.ev e).int)
 | ⟨b, .not, [x]⟩ => (e b).bool = !(x.ev e).bool
 | ⟨b, .and, [x, y]⟩ => (e b).bool = ((x.ev e).bool && (y.ev e).bool)
 | ⟨b, .or, [x, y]⟩ => (e b).bool = ((x.ev e).bool || (y.ev e).bool)
 | ⟨b, .imp, [x, y]⟩ => (e b).bool = (!(x.ev e).bool || (y.ev e).bool)
 | ⟨b, .iteI, [c, x, y]⟩ => (e b).int = ifQ (c.ev e).bool (x.ev e).int (y.ev e).int ∧ isI (e b)
 | ⟨b, .iteB, [c, x, y]⟩ => (e b).bool = ifQ (c.ev e).bool (x.ev e).bool (y.ev e).bool
 | ⟨b, .iteV, [c, x, y]⟩ => (e b).val = ifQ (c.ev e).bool (x.ev e).val (y.ev e).val ∧ (e b).str = ifQ (c.ev e).bool (x.ev e).str (y.ev e).str
 | ⟨b, .iteA, [c, x, y]⟩ => e b = ifQ (c.ev e).bool (x.ev e) (y.ev e)
 | ⟨b, .eqB, [x, y]⟩ => (e b).bool = ((x.ev e).bool == (y.ev e).bool)
 | ⟨b, .eqS, [x, y]⟩ => (e b).bool = ((x.ev e).str == (y.ev e).str)
 | ⟨b, .mn, [x, y]⟩ => (e b).int = ltQ (y.ev e).int (x.ev e).int (y.ev e).int (x.ev e).int
 | ⟨b, .mx, [x, y]⟩ => (e b).int = ltQ (x.ev e).int (y.ev e).int (y.ev e).int (x.ev e).int
 | ⟨b, .slen, [x]⟩ => (e b).int = ((x.ev e).str.size : Int)
 | ⟨b, .sel, x :: l⟩ => (e b).int = (l.map fun a => (a.ev e).int).getD (x.ev e).int.toNat 0
 | ⟨b, .upd, x :: y :: l⟩ => updQ e x y b 0 l
 | ⟨b, .pix o s, [x, i]⟩ => e b = (x.ev e).els.getD (o + s * (i.ev e).int.toNat) (.i 0)
 | ⟨b, .pset o s, [x, i, y]⟩ => e b = .l ((x.ev e).els.set (o + s * (i.ev e).int.toNat) (y.ev e))
 | ⟨b, .lln s, [x]⟩ => (e b).int = (((x.ev e).els.length / s : Nat) : Int)
 | ⟨b, .rep, x :: zs⟩ => e b = .l (List.replicate (x.ev e).int.toNat (zs.map (L.ev e))).flatten
 | ⟨b, .mkl, l⟩ => e b = .l (l.map (L.ev e))
 | ⟨b, .cat, [x, y]⟩ => e b = .l ((x.ev e).els ++ (y.ev e).els)
 | ⟨b, .scat, [x, y]⟩ => (e b).str = (x.ev e).str ++ (y.ev e).str
 | ⟨b, .sget, [x, i]⟩ => (e b).int = (((x.ev e).str.data.toList.getD (i.ev e).int.toNat 0).toNat : Int)
 | ⟨b, .ssub, [x, i, j]⟩ => (e b).str = (x.ev e).str.extract (i.ev e).int.toNat (j.ev e).int.toNat
 | ⟨b, .mks, [x]⟩ => (e b).str = ⟨((x.ev e).els.map fun a => UInt8.ofNat a.int.toNat).toArray⟩
 | ⟨b, .sby, [x]⟩ => e b = .l ((x.ev e).str.data.toList.map fun b => .i (b.toNat : Int))
 | ⟨b, .sh op k, [x, y]⟩ => (e b).int = shI op k (x.ev e).int (y.ev e).int ∧ isI (e b)
 | d => d.holds T e
theorem updQ_of {x y : L} {b : Nat} {l0 : List L} (h : Def.holds T e ⟨b, .upd, x :: y :: l0⟩) : ∀ {l : List L} {j : Nat}, (∀ (i : Nat) a, l[i]? = some a → l0[j + i]? = some a) → updQ e x y b j l
 | [], _, _ => trivial
 | a :: l, j, hl => ⟨q_updI j h (hl 0 a rfl), updQ_of h fun i c hc => by
   have := hl (i + 1) c (by simpa using hc)
   rwa [show j + 1 + i = j + (i + 1) by omega]⟩
theorem q_of {d : Def} (h : d.holds T e) : d.q T e := by
 unfold Def.q
 split
 ·exact ⟨q_ar h, by rw [holds_ar.1 h]; rfl⟩
 ·exact ⟨q_dv h, by rw [holds_dv.1 h]; rfl⟩
 ·exact q_bt h
 ·exact q_cmp h
 ·exact ⟨q_conv h, by rw [holds_conv.1 h]; rfl⟩
 ·exact q_neg h
 ·exact q_not h
 ·exact q_and h
 ·exact q_or h
 ·exact q_imp h
 ·exact ⟨q_iteI h, by rw [holds_iteI.1 h]; rfl⟩
 ·exact q_iteB h
 ·refine ⟨q_iteV h, ?_⟩
  have := q_iteV h
  unfold A.str
  rw [this]
  split <;> rename_i hc <;> simp [ifQ, hc]
 ·exact holds_iteA.1 h
 ·exact q_eqB h
 ·exact q_eqS h
 ·exact q_mn h
 ·exact q_mx h
 ·exact q_slen h
 ·exact q_selI h
 ·exact updQ_of h fun i a ha => by simpa using ha
 ·exact holds_pix.1 h
 ·exact holds_pset.1 h
 ·rw [holds_lln.1 h]; rfl
 ·exact holds_rep.1 h
 ·exact holds_mkl.1 h
 ·exact holds_cat.1 h
 ·exact congrArg A.str (h 0 _ rfl)
 ·exact congrArg A.int (h 0 _ rfl)
 ·exact congrArg A.str (h 0 _ rfl)
 ·exact congrArg A.str (h 0 _ rfl)
 ·exact h 0 _ rfl
 ·rename_i b op k x y
  have h2 : e b = _ := h 0 _ rfl
  rw [h2]
  exact ⟨rfl, rfl⟩
 ·exact h
def FactsQ (T : Nat → List A → Bool × List A) (e : Nat → A) : List Def → Prop
 | [] => True
 | d :: l => d.q T e ∧ FactsQ T e l
theorem factsQ_of : ∀ {l : List Def}, (∀ d ∈ l, d.holds T e) → FactsQ T e l
 | [], _ => trivial
 | d :: l, h => ⟨q_of (h d (by simp)), factsQ_of fun x hx => h x (by simp [hx])⟩
def ge (as : List A) (i : Nat) : A := as.getD i (.i 0)
end
end Rx
namespace Rx
open Go Go.RowKit
def frS (n : Nat) (l : List (Nat × SV)) : List SV := l.foldl (fun a x => a.set x.1 x.2) (List.replicate n .junk)
section
variable {T : Nat → List A → Bool × List A} {e : Nat → A} {P : Program} {X : Ctx}
def gSame (a b : G) : Bool := a.next == b.next && defsSame a.defs b.defs && L.beqs a.obs b.obs && knownSame a.known b.known
theorem gSame_eq {a b : G} (h : gSame a b = true) : a = b := by
 obtain ⟨a1, a2, a3, a4⟩ := a
 obtain ⟨b1, b2, b3, b4⟩ := b
 simp only [gSame, Bool.and_eq_true, beq_iff_eq] at h
 obtain ⟨⟨⟨h1, h2⟩, h3⟩, h4⟩ := h
 rw [h1, defsSame_eq h2, L.beqs_eq h3, knownSame_eq h4]
def ranB (ws : List (Nat × Nat)) (X : Ctx) (c : Ctr) (g : G) (ls : List L) : Bool :=
 match parPV (lfOf []) c.ps [] 0 0 with
 | some (args, rows, k) => match run X 2000 c.f args rows k [] with
  | some (v, _, g') => gSame g' g && (match flatSV c.rs v with | some l => L.beqs l ls | none => false) && defsB ws g.defs g.next && g.defs.all (fun d => decide (k ≤ d.base)) && c.ps.all flatPS && k == (c.ps.map widthPS).sum
  | none => false
 | none => false
theorem ctr_of (hX : XL P T X) {ws : List (Nat × Nat)} (hws : WidthOK T ws) {c : Ctr} {g : G} {ls : List L} (h : ranB ws X c g ls = true)
  (hlen : ∀ as, (T c.f as).2.length = ls.length)
  (hpure : ∀ (as : List A) (e : Nat → A), as = (List.range (c.ps.map widthPS).sum).map e → (T c.f as).1 = true → FactsQ T e g.defs → ObsAll e g.obs ∧ semMany (c.rs.flatMap (·.2)) (T c.f as).2 = semMany (c.rs.flatMap (·.2)) (ls.map (L.ev e))) (hkn : g.known = [] := by rfl) : CtrOK P T c := by
 intro lits as vs w _ _ hargs hpre
 unfold ranB at h
 split at h
 ·rename_i args rows k hpar
  split at h
  ·rename_i v rows' g' hrun
   simp only [Bool.and_eq_true] at h
   obtain ⟨⟨⟨⟨⟨h1, h2⟩, h3⟩, h4⟩, h5⟩, h6⟩ := h
   have h1 := gSame_eq h1
   subst h1
   cases hfl : flatSV c.rs v with
   | none => rw [hfl] at h2; cases h2
   | some l =>
    rw [hfl] at h2
    have h2 := L.beqs_eq h2
    subst h2
    obtain ⟨a1, a2⟩ := args_flat hargs h5
    refine calls_of_run (more := []) (kn := []) hX hws hpar (by simpa using hrun) h3 (by simpa using h4) hfl hargs a1 (fun i x hx => by cases hx) (hlen as) fun e he hd => ?_
    obtain ⟨p1, p2⟩ := hpure as e (by
     have := list_e (more := []) he rfl
     rw [a2] at this
     exact this) hpre (factsQ_of hd)
    exact ⟨by rw [hkn]; exact fun x hx => (by cases hx), obs_of p1, p2⟩
  ·cases h
 ·cases h
def bigB (ws : List (Nat × Nat)) (X : Ctx) (c : Big) (g : G) (ls : List L) : Bool :=
 match parPV (lfOf []) c.ps [] 0 0 with
 | some (args, rows, k) => match run X 2000 c.f args rows k [] with
  | some (v, rows', g') => gSame g' g && (match flatBigSV rows' c.rs v with | some l => L.beqs l ls | none => false) && defsB ws g.defs g.next && g.defs.all (fun d => decide (k ≤ d.base)) && c.ps.all flatPS && k == (c.ps.map widthPS).sum
  | none => false
 | none => false
theorem big_of (hX : XL P T X) {ws : List (Nat × Nat)} (hws : WidthOK T ws) {c : Big} {g : G} {ls : List L} (h : bigB ws X c g ls = true)
  (hpure : ∀ (as : List A) (e : Nat → A), as = (List.range (c.ps.map widthPS).sum).map e → (T c.f as).1 = true → FactsQ T e g.defs → ObsAll e g.obs ∧ ResEq c.rs (T c.f as).2 (ls.map (L.ev e))) (hkn : g.known = [] := by rfl) : BigOK P T c := by
 intro lits as vs w S hS _ _ hargs hpre
 unfold bigB at h
 split at h
 ·rename_i args rows k hpar
  split at h
  ·rename_i v rows' g' hrun
   simp only [Bool.and_eq_true] at h
   obtain ⟨⟨⟨⟨⟨h1, h2⟩, h3⟩, h4⟩, h5⟩, h6⟩ := h
   have h1 := gSame_eq h1
   subst h1
   cases hfl : flatBigSV rows' c.rs v with
   | none => rw [hfl] at h2; cases h2
   | some l =>
    rw [hfl] at h2
    have h2 := L.beqs_eq h2
    subst h2
    obtain ⟨a1, a2⟩ := args_flat hargs h5
    refine big_of_run (more := []) (kn := []) hX hws hpar (by simpa using hrun) h3 (by simpa using h4) hfl hS hargs a1 (fun i x hx => by cases hx) fun e he hd => ?_
    obtain ⟨p1, p2⟩ := hpure as e (by
     have := list_e (more := []) he rfl
     rw [a2] at this
     exact this) hpre (factsQ_of hd)
    exact ⟨by rw [hkn]; exact fun x hx => (by cases hx), obs_of p1, p2⟩
  ·cases h
 ·cases h
def exSame (a : List Ex) (b : List (L × List (Option L))) : Bool :=
 all2 (fun x y => x) (a.map fun _ => true) (b.map fun _ => true) && (a.zip b).all fun x => x.1.pc.same x.2.1 && x.1.lx.length == x.2.2.length && (x.1.lx.zip x.2.2).all fun y => match y.1, y.2 with | some l, some m => l.same m | none, none => true | _, _ => false
def backSame (a b : Option (L × List L)) : Bool :=
 match a, b with
 | none, none => true
 | some x, some y => x.1.same y.1 && L.beqs x.2 y.2
 | _, _ => false
def bodyAt (X : Ctx) (f : Nat) (p : List Bool) : Option Code :=
 match X.fns f with
 | some fn => match fn.body with
  | some b => match subAt p b with
   | some (.loop c) => some c
   | _ => none
  | none => none
 | none => none
def loopB (ws : List (Nat × Nat)) (X : Ctx) (q : Lp) (g : G) (back : Option (L × List L)) (exs : List (L × List (Option L))) : Bool :=
 match bodyAt X q.f q.p with
 | some c => match exec X 2000 q.f (false :: q.p) c (startSt q) ⟨q.k, [], [], []⟩ with
  | some (outs, g') => gSame g' g && defsB ws g.defs g.next && g.defs.all (fun d => decide (q.k ≤ d.base)) && decide (q.m ≤ q.tm.rows.length) &&
    (match backOf q outs with | some b => backSame b back | none => false) && (match exitsOf q outs with | some x => exSame x exs | none => false)
  | none => false
 | none => false
theorem loop_of (hX : XL P T X) {ws : List (Nat × Nat)} (hws : WidthOK T ws) {q : Lp} {g : G} {back : Option (L × List L)} {exs : List (L × List (Option L))} (h : loopB ws X q g back exs = true)
  (hlen : ∀ as, (T q.id as).2.length = q.w) (meas : List A → Nat)
  (hpure : ∀ (as : List A) (e : Nat → A), as = (List.range q.k).map e → (T q.id as).1 = true → FactsQ T e g.defs → ObsAll e g.obs ∧
   (∀ pc ls, back = some (pc, ls) → (pc.ev e).bool = true → (T q.id (ls.map (L.ev e))).1 = true ∧ (T q.id (ls.map (L.ev e))).2 = (T q.id as).2 ∧ meas (ls.map (L.ev e)) < meas as) ∧
   ∀ x ∈ exs, (x.1.ev e).bool = true → ∀ (j : Nat) l, x.2[j]? = some (some l) → Teq (q.tags.getD j .any) (l.ev e) ((T q.id as).2.getD j (.i 0))) (hkn : g.known = [] := by rfl) :
  ∀ fn body c, X.fns q.f = some fn → fn.body = some body → subAt q.p body = some (.loop c) → LoopOK P T q c := by
 intro fn body c f1 f2 f3
 unfold loopB at h
 have hb : bodyAt X q.f q.p = some c := by simp only [bodyAt, f1, f2, f3]
 rw [hb] at h
 simp only at h
 split at h
 ·rename_i outs g' hrun
  simp only [Bool.and_eq_true, decide_eq_true_eq] at h
  obtain ⟨⟨⟨⟨⟨h1, h2⟩, h3⟩, h4⟩, h5⟩, h6⟩ := h
  have h1 := gSame_eq h1
  subst h1
  cases hbk : backOf q outs with
  | none => rw [hbk] at h5; cases h5
  | some b =>
   cases hex : exitsOf q outs with
   | none => rw [hex] at h6; cases h6
   | some xs =>
    rw [hbk] at h5
    rw [hex] at h6
    simp only at h5 h6
    refine loop_of_run hX hws ⟨fn, body, f1, f2, by simp only [subAt, f3]; rfl⟩ hrun h2 h3 hkn (by simpa using h4) hbk hex (fun as _ => hlen as) meas fun as e hal he hpre hd => ?_
    have has : as = (List.range q.k).map e := list_e (more := []) (by simpa using he) hal
    obtain ⟨p1, p2, p3⟩ := hpure as e has hpre (factsQ_of hd)
    refine ⟨obs_of p1, fun pc ls hb' => p2 pc ls ?_, fun x hx hpc j l hj => ?_⟩
    ·unfold backSame at h5
     split at h5
     ·exact hb'
     ·simp only [Bool.and_eq_true] at h5
      rename_i x y
      rw [← hb']
      exact congrArg some (Prod.ext (L.same_eq h5.1).symm (L.beqs_eq h5.2).symm)
     ·cases h5
    ·unfold exSame at h6
     simp only [Bool.and_eq_true, List.all_eq_true] at h6
     obtain ⟨k1, k2⟩ := h6
     obtain ⟨i, hi, hi2⟩ := List.mem_iff_getElem.1 hx
     have hl := (all2_get k1).1
     simp only [List.length_map] at hl
     have hy : i < exs.length := by omega
     have hz : (x, exs[i]'hy) ∈ xs.zip exs := by
      rw [← hi2]
      exact List.mem_iff_getElem.2 ⟨i, by simp; omega, by simp⟩
     obtain ⟨⟨m1, m2⟩, m3⟩ := by
      have := k2 _ hz
      simp only [Bool.and_eq_true] at this
      exact this
     have m1 := L.same_eq m1
     simp only [beq_iff_eq] at m2
     have hjl : j < x.lx.length := lt_of_get hj
     have hj2 : j < (exs[i]'hy).2.length := by omega
     have hzz : (x.lx[j]'hjl, (exs[i]'hy).2[j]'hj2) ∈ x.lx.zip (exs[i]'hy).2 := List.mem_iff_getElem.2 ⟨j, by simp; omega, by simp⟩
     have m4 := m3 _ hzz
     rw [List.getElem?_eq_getElem hjl] at hj
     injection hj with hj
     rw [hj] at m4
     simp only at m4
     refine p3 _ (List.getElem_mem hy) (by rw [← m1]; exact hpc) j l ?_
     rw [List.getElem?_eq_getElem hj2]
     cases ho : (exs[i]'hy).2[j]'hj2 with
     | none => rw [ho] at m4; cases m4
     | some mm => rw [ho] at m4; simp only at m4; rw [L.same_eq m4]
 ·cases h
theorem lps_nil {X : Ctx} (h : X.lps = []) : ∀ q ∈ X.lps, ∀ fn body c, X.fns q.f = some fn → fn.body = some body → subAt q.p body = some (.loop c) → LoopOK P T q c := by
 rw [h]; intro q hq; cases hq
def LpsAll (P : Program) (T : Nat → List A → Bool × List A) (X : Ctx) : List Lp → Prop
 | [] => True
 | q :: l => (∀ fn body c, X.fns q.f = some fn → fn.body = some body → subAt q.p body = some (.loop c) → LoopOK P T q c) ∧ LpsAll P T X l
theorem lpsOK_all {X : Ctx} : ∀ {l : List Lp}, LpsAll P T X l → ∀ q ∈ l, ∀ fn body c, X.fns q.f = some fn → fn.body = some body → subAt q.p body = some (.loop c) → LoopOK P T q c
 | [], _ => fun x hx => by cases hx
 | y :: l, h => fun x hx => by
  rcases List.mem_cons.1 hx with rfl | hx
  ·exact h.1
  ·exact lpsOK_all h.2 x hx
theorem lpsOK_of {X : Ctx} (h : LpsAll P T X X.lps) : ∀ q ∈ X.lps, ∀ fn body c, X.fns q.f = some fn → fn.body = some body → subAt q.p body = some (.loop c) → LoopOK P T q c := lpsOK_all h
end
end Rx
namespace Rx
open Go Go.RowKit
def flatDs (F : Nat → Option (List Srt)) (tys : List (Nat × Ty)) : List (Nat × Nat) → Nat → Option (List Srt)
 | [], _ => some []
 | (t, off) :: l, o => do
  let ty ← look t tys
  let a ← F t
  if off == o && a.length == ty.size then let r ← flatDs F tys l (o + ty.size); some (a ++ r) else none
def flatD (tys : List (Nat × Ty)) : Nat → Nat → Option (List Srt)
 | 0, _ => none
 | n + 1, t => do
  let ty ← look t tys
  match ty.kind with
  | .int k => some [.int k]
  | .bool => some [.bool]
  | .string => some [.str]
  | .slice e => do
   let te ← look e tys
   let l ← flatD tys n e
   if l.length == te.size && l.length != 0 then some [.sl l] else none
  | .arr m e => do
   let te ← look e tys
   let l ← flatDs (flatD tys n) tys ((List.range m).map fun i => (e, i * te.size)) 0
   if l.length == ty.size then some l else none
  | .struct fs => do
   let l ← flatDs (flatD tys n) tys fs 0
   if l.length == ty.size then some l else none
  | _ => none
inductive OkA : Srt → A → Prop
 | int {k : IntKind} {n : Int} : k.min ≤ n → n ≤ k.max → OkA (.int k) (.i n)
 | bool {b : Bool} : OkA .bool (.b b)
 | str {s : ByteArray} : s.size ≤ maxLen → OkA .str (.v (.string s))
 | sl {ss : List Srt} {as : List A} {n : Nat} : as.length = n * ss.length → n ≤ maxLen → (∀ (j : Nat) s a, ss[j % ss.length]? = some s → as[j]? = some a → OkA s a) → OkA (.sl ss) (.l as)
def OkAs : List Srt → List A → Prop
 | [], [] => True
 | s :: ss, a :: as => OkA s a ∧ OkAs ss as
 | _, _ => False
def FCells (M : Addr → Option Value) : List Srt → List A → List Value → Prop
 | [], [], [] => True
 | s :: ss, a :: as, c :: cs => FSC M s a c ∧ FCells M ss as cs
 | _, _, _ => False
theorem OkAs_append : ∀ {s1 s2 : List Srt} {a1 a2 : List A}, OkAs s1 a1 → OkAs s2 a2 → OkAs (s1 ++ s2) (a1 ++ a2)
 | [], _, [], _, _, h => h
 | _ :: _, _, _ :: _, _, h, h' => ⟨h.1, OkAs_append h.2 h'⟩
 | [], _, _ :: _, _, h, _ => h.elim
 | _ :: _, _, [], _, h, _ => h.elim
theorem FCells_append {M : Addr → Option Value} : ∀ {s1 s2 : List Srt} {a1 a2 : List A} {c1 c2 : List Value}, FCells M s1 a1 c1 → FCells M s2 a2 c2 → FCells M (s1 ++ s2) (a1 ++ a2) (c1 ++ c2)
 | [], _, [], _, [], _, _, h => h
 | _ :: _, _, _ :: _, _, _ :: _, _, h, h' => ⟨h.1, FCells_append h.2 h'⟩
 | [], _, [], _, _ :: _, _, h, _ => h.elim
 | [], _, _ :: _, _, _, _, h, _ => h.elim
 | _ :: _, _, [], _, _, _, h, _ => h.elim
 | _ :: _, _, _ :: _, _, [], _, h, _ => h.elim
theorem FCells_len {M : Addr → Option Value} : ∀ {ss : List Srt} {as : List A} {cs : List Value}, FCells M ss as cs → as.length = ss.length ∧ cs.length = ss.length
 | [], [], [], _ => ⟨rfl, rfl⟩
 | _ :: _, _ :: _, _ :: _, h => by
  have := FCells_len h.2
  simp [this]
 | [], [], _ :: _, h => h.elim
 | [], _ :: _, _, h => h.elim
 | _ :: _, [], _, h => h.elim
 | _ :: _, _ :: _, [], h => h.elim
theorem FCells_get {M : Addr → Option Value} : ∀ {ss : List Srt} {as : List A} {cs : List Value}, FCells M ss as cs → ∀ {j : Nat} {s : Srt} {a : A} {c : Value}, ss[j]? = some s → as[j]? = some a → cs[j]? = some c → FSC M s a c
 | [], [], [], _, j, s, a, c, h, _, _ => by simp at h
 | _ :: _, _ :: _, _ :: _, h, 0, s, a, c, h1, h2, h3 => by simp at h1 h2 h3; subst h1 h2 h3; exact h.1
 | _ :: _, _ :: _, _ :: _, h, j + 1, s, a, c, h1, h2, h3 => FCells_get h.2 (j := j) (by simpa using h1) (by simpa using h2) (by simpa using h3)
 | [], [], _ :: _, h, _, _, _, _, _, _, _ => h.elim
 | [], _ :: _, _, h, _, _, _, _, _, _, _ => h.elim
 | _ :: _, [], _, h, _, _, _, _, _, _, _ => h.elim
 | _ :: _, _ :: _, [], h, _, _, _, _, _, _, _ => h.elim
theorem OkAs_get : ∀ {ss : List Srt} {as : List A}, OkAs ss as → ∀ {j : Nat} {s : Srt} {a : A}, ss[j]? = some s → as[j]? = some a → OkA s a
 | [], [], _, j, s, a, h, _ => by simp at h
 | _ :: _, _ :: _, h, 0, s, a, h1, h2 => by simp at h1 h2; subst h1 h2; exact h.1
 | _ :: _, _ :: _, h, j + 1, s, a, h1, h2 => OkAs_get h.2 (j := j) (by simpa using h1) (by simpa using h2)
 | [], _ :: _, h, _, _, _, _, _ => h.elim
 | _ :: _, [], h, _, _, _, _, _ => h.elim
theorem OkAs_len : ∀ {ss : List Srt} {as : List A}, OkAs ss as → as.length = ss.length
 | [], [], _ => rfl
 | _ :: _, _ :: _, h => by simp [OkAs_len h.2]
 | [], _ :: _, h => h.elim
 | _ :: _, [], h => h.elim
theorem flat_len {α : Type} {m : Nat} {f : Nat → List α} : ∀ {n : Nat}, (∀ i, i < n → (f i).length = m) → ((List.range n).flatMap f).length = n * m
 | 0, _ => by simp
 | n + 1, h => by
  rw [List.range_succ, List.flatMap_append, List.length_append, flat_len (n := n) fun i hi => h i (by omega)]
  simp [h n (by omega), Nat.succ_mul]
theorem flat_get {α : Type} {m : Nat} (hm : 0 < m) {f : Nat → List α} : ∀ {n : Nat}, (∀ i, i < n → (f i).length = m) → ∀ j, j < n * m → ((List.range n).flatMap f)[j]? = (f (j / m))[j % m]?
 | 0, _, j, hj => by simp at hj
 | n + 1, h, j, hj => by
  have hl := flat_len (n := n) (f := f) fun i hi => h i (by omega)
  rw [List.range_succ, List.flatMap_append]
  by_cases hjn : j < n * m
  ·rw [List.getElem?_append_left (by rw [hl]; exact hjn)]
   exact flat_get hm (fun i hi => h i (by omega)) j hjn
  ·rw [List.getElem?_append_right (by rw [hl]; omega), hl]
   have e1 : j - n * m < m := by rw [Nat.succ_mul] at hj; omega
   have e2 : j = m * n + (j - n * m) := by rw [Nat.mul_comm m n]; omega
   have e3 : j / m = n := by rw [e2, Nat.mul_add_div hm, Nat.div_eq_of_lt e1, Nat.add_zero]
   have e4 : j % m = j - n * m := by conv => lhs; rw [e2]; rw [Nat.mul_add_mod, Nat.mod_eq_of_lt e1]
   simp [e3, e4]
section
variable {H : Type} {enc : TypeId × Value → H} {P : Program} {w : World} {base : Nat} {spare : Nat → Bool} {held : Bool}
theorem flatDs_open {tys : List (Nat × Ty)} (hX : TysOK P tys) {n : Nat} {F : Nat → Option (List Srt)}
  (hF : ∀ t ss, F t = some ss → ∀ fuel cs x, DataW.trod enc P w base spare held fuel t cs = some x → ∃ as, OkAs ss as ∧ FCells w.cell? ss as cs) (cs : List Value) :
  ∀ (fl : List (Nat × Nat)) (o : Nat) (ss : List Srt), flatDs F tys fl o = some ss → (∀ f ∈ fl, ∃ y, DataW.trod enc P w base spare held n f.1 ((cs.drop f.2).take (P.cellsOf f.1)) = some y) →
   ∃ as, OkAs ss as ∧ FCells w.cell? ss as ((cs.drop o).take ss.length)
 | [], o, ss, h, _ => by
  simp only [flatDs, Option.some.injEq] at h
  subst h
  exact ⟨[], trivial, by simp [FCells]⟩
 | (t, off) :: fl, o, ss, h, hf => by
  simp only [flatDs, Option.bind_eq_bind, Option.bind_eq_some_iff] at h
  obtain ⟨ty, hty, a, ha, h⟩ := h
  split at h
  ·rename_i hc
   simp only [Bool.and_eq_true, beq_iff_eq] at hc
   obtain ⟨rfl, hlen⟩ := hc
   simp only [Option.bind_eq_some_iff, Option.some.injEq] at h
   obtain ⟨r, hr, rfl⟩ := h
   obtain ⟨y, hy⟩ := hf (t, off) (by simp)
   simp only at hy
   have hsz : P.cellsOf t = ty.size := by
    obtain ⟨i, z, h1, h2, _⟩ := (hX t ty hty).info
    rw [Program.cellsOf, h1]
    exact h2
   obtain ⟨as1, h1, h2⟩ := hF t a ha n _ y hy
   obtain ⟨as2, h3, h4⟩ := flatDs_open hX hF cs fl (off + ty.size) r hr (fun f hf' => hf f (by simp [hf']))
   refine ⟨as1 ++ as2, OkAs_append h1 h3, ?_⟩
   rw [List.length_append, List.take_add, List.drop_drop, hlen]
   rw [hsz] at h2
   exact FCells_append h2 h4
  ·cases h
theorem cells_get {a : Addr} {k : Nat} {cs : List Value} (h : w.cells? base a k = some cs) : cs.length = k ∧ ∀ j, j < k → w.cell? (a.add j) = cs[j]? := by
 unfold World.cells? at h
 split at h
 ·exact ⟨by simpa using mapM_some_length h, fun j hj => mapM_some_get h j j (by simp [hj])⟩
 ·cases h
theorem cell_spot {a : Addr} {v : Value} (h : w.cell? a = some v) : a = ⟨a.block, a.off, none⟩ := by
 obtain ⟨b, o, s⟩ := a
 unfold World.cell? at h
 split at h
 ·simp only at h
  split at h
  ·cases h
  ·rename_i hs
   cases s with
   | none => rfl
   | some => simp at hs
 ·cases h
theorem flatD_open {tys : List (Nat × Ty)} (hX : TysOK P tys) : ∀ (n t : Nat) (ss : List Srt), flatD tys n t = some ss → ∀ (fuel : Nat) (cs : List Value) (x : DataW H × List MemPlace), DataW.trod enc P w base spare held fuel t cs = some x →
  ∃ as, OkAs ss as ∧ FCells w.cell? ss as cs
 | 0, t, ss, h => by simp [flatD] at h
 | n + 1, t, ss, h => fun fuel cs x hx => by
  simp only [flatD, Option.bind_eq_bind, Option.bind_eq_some_iff] at h
  obtain ⟨ty, hty, h⟩ := h
  have hT := hX t ty hty
  obtain ⟨d, hd, hk⟩ := hT.kind
  split at h
  ·rename_i k hkk
   injection h with h
   subst h
   rw [hkk] at hk
   cases d <;> simp only [TK.okB, Bool.false_eq_true] at hk
   rw [← kindSame_eq hk] at hd
   obtain ⟨m, rfl, _, hw⟩ := DataW.trod_int hd hx
   simp only [Lit.wf, Bool.and_eq_true, decide_eq_true_eq] at hw
   exact ⟨[.i m], ⟨.int hw.1 hw.2, trivial⟩, .sc rfl, trivial⟩
  ·rename_i hkk
   injection h with h
   subst h
   rw [hkk] at hk
   cases d <;> simp only [TK.okB, Bool.false_eq_true] at hk
   obtain ⟨m, rfl, _⟩ := DataW.trod_bool hd hx
   exact ⟨[.b m], ⟨.bool, trivial⟩, .sc rfl, trivial⟩
  ·rename_i hkk
   injection h with h
   subst h
   rw [hkk] at hk
   cases d <;> simp only [TK.okB, Bool.false_eq_true] at hk
   obtain ⟨m, rfl, _, hl⟩ := DataW.trod_string hd hx
   exact ⟨[.v (.string m)], ⟨.str hl, trivial⟩, .sc rfl, trivial⟩
  ·rename_i e hkk
   simp only [Option.bind_eq_some_iff] at h
   obtain ⟨te, hte, l, hl, h⟩ := h
   split at h
   ·rename_i hlen
    simp only [Bool.and_eq_true, beq_iff_eq, bne_iff_ne, ne_eq] at hlen
    obtain ⟨hlen, hl0⟩ := hlen
    injection h with h
    subst h
    rw [hkk] at hk
    cases d <;> simp only [TK.okB, Bool.false_eq_true, beq_iff_eq] at hk
    subst hk
    have hse : P.cellsOf e = l.length := by
     obtain ⟨i, z, h1, h2, _⟩ := (hX e te hte).info
     rw [Program.cellsOf, h1, hlen]
     exact h2
    rcases DataW.trod_slice hd hx with ⟨rfl, _⟩ | ⟨a, len, cap, elems, rest, q, _, rfl, _, _, hlc, hcm, hel, hge, _⟩
    ·exact ⟨[.l []], ⟨.sl (n := 0) (by simp) (by omega) (fun j s a h1 h2 => by simp at h2), trivial⟩, .emp, trivial⟩
    ·have key : ∀ i, i < len → ∃ (as : List A) (us : List Value), OkAs l as ∧ FCells w.cell? l as us ∧ ∀ j, j < l.length → w.cell? (a.add (i * l.length + j)) = us[j]? := fun i hi => by
      have h1 := hge i hi
      rw [List.getElem?_eq_getElem (by omega)] at h1
      obtain ⟨us, h2, h3⟩ := Option.bind_eq_some_iff.1 h1
      rw [hse] at h2
      obtain ⟨as, h4, h5⟩ := flatD_open hX n e l hl q us _ h3
      refine ⟨as, us, h4, h5, fun j hj => ?_⟩
      rw [← (cells_get h2).2 j hj, Go.Deep.add_add]
     let fa : Nat → List A := fun i => if h : i < len then (key i h).choose else []
     let fu : Nat → List Value := fun i => if h : i < len then (key i h).choose_spec.choose else []
     have hfa : ∀ i, i < len → OkAs l (fa i) ∧ FCells w.cell? l (fa i) (fu i) ∧ ∀ j, j < l.length → w.cell? (a.add (i * l.length + j)) = (fu i)[j]? := fun i hi => by
      simp only [fa, fu, hi, dif_pos]
      exact (key i hi).choose_spec.choose_spec
     have la : ∀ i, i < len → (fa i).length = l.length := fun i hi => OkAs_len (hfa i hi).1
     have lu : ∀ i, i < len → (fu i).length = l.length := fun i hi => (FCells_len (hfa i hi).2.1).2
     have hpos : 0 < l.length := by omega
     have tot := flat_len la
     have totu := flat_len lu
     have dm : ∀ j, j < len * l.length → j / l.length < len ∧ j % l.length < l.length ∧ j = j / l.length * l.length + j % l.length := fun j hj =>
      ⟨Nat.div_lt_of_lt_mul (by rw [Nat.mul_comm]; exact hj), Nat.mod_lt _ hpos, by rw [Nat.mul_comm]; exact (Nat.div_add_mod j l.length).symm⟩
     refine ⟨[.l ((List.range len).flatMap fa)], ⟨.sl (n := len) tot (by omega) fun j s b h1 h2 => ?_, trivial⟩, ?_, trivial⟩
     ·have hj : j < len * l.length := by rw [← tot]; exact lt_of_get h2
      rw [flat_get hpos la j hj] at h2
      obtain ⟨d1, d2, d3⟩ := dm j hj
      exact OkAs_get (hfa _ d1).1 h1 h2
     ·cases len with
      | zero => exact .emp
      | succ len =>
       have h0 := (hfa 0 (by omega)).2.2 0 hpos
       have hu0 : 0 < (fu 0).length := by rw [lu 0 (by omega)]; exact hpos
       rw [List.getElem?_eq_getElem hu0] at h0
       simp only [Nat.zero_mul, Nat.add_zero] at h0
       have ha : a = ⟨a.block, a.off, none⟩ := cell_spot (by simpa [Addr.add] using h0)
       generalize a.block = b at ha
       generalize a.off = o at ha
       subst ha
       refine .sl (us := (List.range (len + 1)).flatMap fu) hpos tot (by rw [totu, tot]) (fun j u hu => ?_) fun j s x u h1 h2 h3 => ?_
       ·have hj : j < (len + 1) * l.length := by rw [← totu]; exact lt_of_get hu
        rw [flat_get hpos lu j hj] at hu
        obtain ⟨d1, d2, d3⟩ := dm j hj
        have := (hfa _ d1).2.2 _ d2
        rw [← d3, hu] at this
        rw [← this]
        unfold Addr.add
        split
        ·rename_i hz; rw [hz]; rfl
        ·rfl
       ·have hj : j < (len + 1) * l.length := by rw [← tot]; exact lt_of_get h2
        rw [flat_get hpos la j hj] at h2
        rw [flat_get hpos lu j hj] at h3
        obtain ⟨d1, d2, d3⟩ := dm j hj
        exact FCells_get (hfa _ d1).2.1 h1 h2 h3
   ·cases h
  ·rename_i m e hkk
   simp only [Option.bind_eq_some_iff] at h
   obtain ⟨te, hte, l, hl, h⟩ := h
   split at h
   ·rename_i hlen
    have hlen : l.length = ty.size := by simpa using hlen
    injection h with h
    subst h
    rw [hkk] at hk
    cases d <;> simp only [TK.okB, Bool.false_eq_true, Bool.and_eq_true, beq_iff_eq] at hk
    obtain ⟨rfl, rfl⟩ := hk
    obtain ⟨xs, q, rfl, _, hcl, hxl, hel⟩ := DataW.trod_array hd hx
    have hsz : P.cellsOf t = ty.size := by
     obtain ⟨i, z, h1, h2, _⟩ := hT.info
     rw [Program.cellsOf, h1]
     exact h2
    have hse : P.cellsOf e = te.size := by
     obtain ⟨i, z, h1, h2, _⟩ := (hX e te hte).info
     rw [Program.cellsOf, h1]
     exact h2
    obtain ⟨as, h1, h2⟩ := flatDs_open (n := q) hX (fun t ss h => flatD_open hX n t ss h) cs _ 0 l hl (fun f hf => by
     obtain ⟨i, hi, rfl⟩ := List.mem_map.1 hf
     have hi : i < m := by simpa using hi
     refine ⟨xs[i]'(by omega), ?_⟩
     have := hel i hi
     simp only [hse] at this ⊢
     rw [this]
     simp)
    refine ⟨as, h1, ?_⟩
    rw [List.drop_zero, List.take_of_length_le (by omega)] at h2
    exact h2
   ·cases h
  ·rename_i fs hkk
   simp only [Option.bind_eq_some_iff] at h
   obtain ⟨l, hl, h⟩ := h
   split at h
   ·rename_i hlen
    have hlen : l.length = ty.size := by simpa using hlen
    injection h with h
    subst h
    rw [hkk] at hk
    cases d <;> simp only [TK.okB, Bool.false_eq_true] at hk
    rename_i gs
    have hfs := sameFs_eq hk
    subst hfs
    have hsz : P.cellsOf t = ty.size := by
     obtain ⟨i, z, h1, h2, _⟩ := hT.info
     rw [Program.cellsOf, h1]
     exact h2
    obtain ⟨xs, q, rfl, _, hcl, hxl, hel⟩ := DataW.trod_struct hd hx
    obtain ⟨as, h1, h2⟩ := flatDs_open (n := q) hX (fun t ss h => flatD_open hX n t ss h) cs _ 0 l hl (fun f hf => by
     obtain ⟨fd, hfd, rfl⟩ := List.mem_map.1 hf
     obtain ⟨i, hi, hi2⟩ := List.getElem_of_mem hfd
     have hi' : i < gs.size := by simpa using hi
     refine ⟨xs[i]'(by omega), ?_⟩
     have := hel i fd (by rw [← hi2]; simp [hi'])
     rw [this]
     simp)
    refine ⟨as, h1, ?_⟩
    rw [List.drop_zero, List.take_of_length_le (by omega)] at h2
    exact h2
   ·cases h
  ·cases h
theorem open_lst {tys : List (Nat × Ty)} (hX : TysOK P tys) {r : Reach} {b0 n t : Nat} {ty : Ty} {ss : List Srt} {v : Value} {d : DataW H} {p : List MemPlace} {e : Nat} (hty : look t tys = some ty) (hke : ty.kind = .slice e) (hs : flatD tys n t = some [.sl ss]) (hk : ss.length ≠ 0)
  (hval : Value.okWide P w r b0 t v) (h : DataW.Trod enc P w base spare held t v d p) :
  ∃ (as : List A) (m : Nat), OkA (.sl ss) (.l as) ∧ as.length = m * ss.length ∧ m ≤ maxLen ∧ OneArg w.cell? (.lst ss) v [.l as, .i m] := by
 obtain ⟨fuel, hx⟩ := h
 obtain ⟨as, h1, h2⟩ := flatD_open hX n t _ hs fuel _ _ hx
 obtain ⟨dd, hd, hkd⟩ := (hX t ty hty).kind
 have hnot : ∀ cs, v ≠ .agg cs := by
  rintro cs rfl
  rw [hke] at hkd
  cases dd <;> simp [TK.okB] at hkd
  simp [Value.okWide, hd, Cell.okWide, Cell.ok] at hval
 have hv : v.cells = #[v] := by cases v <;> first | rfl | exact absurd rfl (hnot _)
 rw [hv] at h2
 match as, h1, h2 with
 | [a], h1, h2 =>
  have h3 := h1.1
  have h4 := h2.1
  cases h3 with
  | sl q1 q2 q3 =>
   rename_i as m
   obtain ⟨as', m', c, b, r1, r2, r3, r4⟩ := h4.slice
   injection r1 with r1
   subst r1
   have : m' = m := Nat.eq_of_mul_eq_mul_right (by omega) (r3.symm.trans q1)
   subst this
   exact ⟨as, m', .sl q1 q2 q3, q1, q2, .l as, .i m', b, m', c, rfl, rfl, r2, by omega, h4⟩
 | [], h1, _ => exact h1.elim
 | _ :: _ :: _, h1, _ => exact h1.2.elim
end
end Rx
