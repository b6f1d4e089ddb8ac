import Derived.Test.YtikhhempbdimhaaSXb
import Derived.OpenShut
import Derived.Deep.Slices
import Derived.KernelRfl
set_option linter.unusedVariables false
set_option linter.unusedSimpArgs false
namespace Rx
open Go Go.RowKit
section
variable {T : Nat → List A → Bool × List A} {e : Nat → A} {n n' : Nat} {loc loc' : Loc} {P : Program} {X : Ctx} {w0 : W0}
theorem Ad.pad {rows : List Row} {w : World} {B : Bd} (h : Ad e loc rows w B) (R : Nat) : Ad e loc (Av rows R) w B := by
 have split_ : ∀ (s : Nat) (y : Row), (Av rows R)[s]? = some y → rows[s]? = some y ∨ y = Row.dead := fun s y hs => by
  unfold Av at hs
  rw [List.getElem?_append] at hs
  split at hs
  ·exact .inl hs
  ·have := List.mem_of_getElem? hs
   rw [List.mem_replicate] at this
   exact .inr this.2
 have own_ : ∀ (s : Nat) (y : Row), (Av rows R)[s]? = some y → (y.own = true ∨ y.lst ≠ none) → rows[s]? = some y := fun s y hs hy => by
  rcases split_ s y hs with h1 | rfl
  ·exact h1
  ·simp [Row.dead] at hy
 refine ⟨fun s y hs => ?_, fun s y q hs hq => h.lst s y q (own_ s y hs (.inr (by simp [hq]))) hq, fun s t x y hs ht ox oy => ?_, fun s t x y hs ht ox oy hne => h.apart s t x y (own_ s x hs (.inl ox)) (own_ t y ht (.inl oy)) ox oy hne⟩
 ·rcases split_ s y hs with h1 | rfl
  ·exact (h.row s y h1).ext (Ac h1) (AO.refl _ _) (by simp [Av])
  ·exact Row.Sw
 ·obtain ⟨q, q1, q2, q3⟩ := ox
  refine h.lapart s t x y (own_ s x hs (.inr (by simp [q1]))) (own_ t y ht ?_) ⟨q, q1, q2, q3⟩ oy
  rcases oy with oy | ⟨⟨p, p1, _⟩, _⟩
  ·exact .inl oy
  ·exact .inr (by simp [p1])
def Ref (e : Nat → A) (w0 : W0) (s u : St) : Prop :=
 ∀ (loc : Loc) (tm : Array Value) (w : World), Ax e s.rows.length loc s.fr tm → Bn e w0 loc s.rows w → ∃ loc' : Loc, AO s.rows.length loc loc' ∧ s.rows.length ≤ u.rows.length ∧ Ax e u.rows.length loc' u.fr tm ∧ Bn e w0 loc' u.rows w
theorem Ref.refl (s : St) : Ref e w0 s s := fun loc _ _ h h' => ⟨loc, AO.refl _ _, Nat.le_refl _, h, h'⟩
theorem Ref.pc {s : St} (pc : L) : Ref e w0 s { s with pc } := fun loc _ _ h h' => ⟨loc, AO.refl _ _, Nat.le_refl _, h, h'⟩
theorem Ref.trans {s t u : St} (h1 : Ref e w0 s t) (h2 : Ref e w0 t u) : Ref e w0 s u := fun loc tm w a b => by
 obtain ⟨l1, x1, n1, f1, c1⟩ := h1 loc tm w a b
 obtain ⟨l2, x2, n2, f2, c2⟩ := h2 l1 tm w f1 c1
 exact ⟨l2, x1.trans x2 n1, Nat.le_trans n1 n2, f2, c2⟩
theorem Ad.SN {rows rows' : List Row} {w : World} {B : Bd} (h : Ad e loc rows w B) (hl : rows'.length = rows.length)
  (hr : ∀ (r : Nat) x', rows'[r]? = some x' → ∃ x, rows[r]? = some x ∧ x'.own = x.own ∧ x'.ty = x.ty ∧ x'.es = x.es ∧ x'.lst = x.lst ∧ (x' = x ∨ (x.own = true ∧ ∀ vs, Aj e rows.length loc x.cells vs → Aj e rows.length loc x'.cells vs))) : Ad e loc rows' w B := by
 have lo : ∀ {r : Nat} {x x' : Row}, x'.lst = x.lst → B6 loc r x' → B6 loc r x := fun {r x x'} hx ⟨q, q1, q2, q3⟩ => ⟨q, by rw [← hx]; exact q1, q2, q3⟩
 refine ⟨fun r x' hx => ?_, fun r x' q hx hq => ?_, fun r s x' y' hx hy ox oy => ?_, fun r s x' y' hx hy ox oy hne => ?_⟩
 ·obtain ⟨x, h1, h2, h3, h4, h5, h6⟩ := hr r x' hx
  rcases h6 with rfl | ⟨h6, h7⟩
  ·rw [hl]; exact h.row r _ h1
  ·have := h.row r x h1
   unfold AH at this ⊢
   rw [if_pos h6] at this
   rw [if_pos (h2.trans h6), h3, h4, hl]
   obtain ⟨a1, a2, a3, a4, vs, sp, a5, a6, a7⟩ := this
   exact ⟨a1, a2, a3, a4, vs, sp, a5, h7 vs a6, a7⟩
 ·obtain ⟨x, h1, h2, h3, h4, h5, h6⟩ := hr r x' hx
  rw [h5] at hq
  obtain ⟨k1, k2⟩ := h.lst r x q h1 hq
  exact ⟨h2.trans k1, k2⟩
 ·obtain ⟨x, h1, h2, _, _, h5, _⟩ := hr r x' hx
  obtain ⟨y, g1, g2, _, _, g5, _⟩ := hr s y' hy
  refine h.lapart r s x y h1 g1 (lo h5 ox) ?_
  rcases oy with oy | ⟨oy, hne⟩
  ·exact .inl (g2.symm.trans oy)
  ·exact .inr ⟨lo g5 oy, hne⟩
 ·obtain ⟨x, h1, h2, _⟩ := hr r x' hx
  obtain ⟨y, g1, g2, _⟩ := hr s y' hy
  exact h.apart r s x y h1 g1 (h2.symm.trans ox) (g2.symm.trans oy) hne
section
variable {N r R : Nat} {q : L}
theorem Aa0 (hq : ∀ (v : Value), (K.lsl r q).rel e N loc v → (K.fsl R q).rel e N loc v) {k : K} {v : Value} (h : k.rel e N loc v) : (fzK r R q k).rel e N loc v := by
 unfold fzK
 split
 ·split
  ·rename_i hr
   have hr := eq_of_beq hr
   subst hr
   split
   ·rename_i hn
    have := L.Af hn
    subst this
    exact hq v h
   ·exact K.Ct h
  ·exact h
 ·exact h
theorem Xd (hq : ∀ (v : Value), (K.lsl r q).rel e N loc v → (K.fsl R q).rel e N loc v) {k : C} {v : Value} (h : k.rel e N loc v) : (fzC r R q k).rel e N loc v := by
 cases k with
 | k x => exact Aa0 hq h
 | clo f a b => exact h
 | cfn x f h' => exact h
theorem O7 (hq : ∀ (v : Value), (K.lsl r q).rel e N loc v → (K.fsl R q).rel e N loc v) : ∀ {l : List C} {vs : List Value}, Aj e N loc l vs → Aj e N loc (l.map (fzC r R q)) vs
 | [], [], _ => trivial
 | _ :: _, _ :: _, h => ⟨Xd hq h.1, O7 hq h.2⟩
theorem O8 (hq : ∀ (v : Value), (K.lsl r q).rel e N loc v → (K.fsl R q).rel e N loc v) {p : PV} {v : Value} (h : p.rel e N loc v) : (Y9 r R q p).rel e N loc v := by
 cases p with
 | one c => exact Xd hq h
 | agg l => obtain ⟨vs, h1, h2⟩ := h; exact ⟨vs, h1, O7 hq h2⟩
theorem Rz (hq : ∀ (v : Value), (K.lsl r q).rel e N loc v → (K.fsl R q).rel e N loc v) : ∀ {l : List PV} {vs : List Value}, AA e N loc l vs → AA e N loc (l.map (Y9 r R q)) vs
 | [], [], _ => trivial
 | _ :: _, _ :: _, h => ⟨O8 hq h.1, Rz hq h.2⟩
theorem ZM (hq : ∀ (v : Value), (K.lsl r q).rel e N loc v → (K.fsl R q).rel e N loc v) {p : SV} {v : Value} (h : p.rel e N loc v) : (AbL r R q p).rel e N loc v := by
 cases p with
 | pv p => exact O8 hq h
 | tup l => obtain ⟨vs, h1, h2⟩ := h; exact ⟨vs, h1, Rz hq h2⟩
 | cond gs p => exact ⟨fun hg => O8 hq (h.1 hg), h.2⟩
 | undef => exact h
 | junk => trivial
end
theorem TN {r R : Nat} {s : St} : (H9 r R s).pc = s.pc := by
 unfold H9
 split
 ·split
  ·split <;> rfl
  ·rfl
 ·rfl
theorem RA {r R : Nat} {s : St} (h : s.rows.length ≤ R) : (H9 r R s).rows.length ≤ R + 1 := by
 unfold H9
 split
 ·split
  ·split
   ·simp [Av]; omega
   ·omega
  ·omega
 ·omega
theorem FO {l : List Row} {R : Nat} (h : l.length ≤ R) : (Av l R).length = R := by simp [Av]; omega
theorem Ref.OW {s : St} {R : Nat} {x : Row} {fr : List SV} {rows : List Row} {pc : L} (hR : s.rows.length ≤ R)
  (hrl : rows.length = R + 1)
  (h : ∀ (loc : Loc) (tm : Array Value) (w : World) (B : Bd), Ax e s.rows.length loc s.fr tm → Ad e loc s.rows w B → B.le w → ∃ (F : Nat → Prop) (v : Value), (∀ k, B.F k → F k) ∧ (∀ k, F k → B.F k ∨ (B.n ≤ k ∧ k < w.heap.size)) ∧ ∃ rows0 : List Row, rows0.length ≤ R ∧
   Ad e loc rows0 w ⟨B.n, F⟩ ∧ EM e (CF ⟨B.n, F⟩ w) x v ∧
   (∀ loc', AO R loc loc' → loc' R = Ew v → Ax e (R + 1) loc' s.fr tm → Ad e loc' (Av rows0 R ++ [x]) w ⟨B.n, F⟩ → Ax e (R + 1) loc' fr tm ∧ Ad e loc' rows w ⟨B.n, F⟩)) : Ref e w0 s ⟨fr, rows, pc⟩ := by
 intro loc tm w hf hcl
 obtain ⟨B, ⟨hBn, hBF, hBl⟩, hR0, hbel⟩ := hcl
 obtain ⟨F, v, f1, f2, rows0, hl0, hR1, hx, hfin⟩ := h loc tm w B hf hR0 hBl
 have hpl := FO hl0
 have hadd := (hR1.pad R).OW (news := [x]) (vs := [v]) fun t row ht => by
  cases t with
  | zero =>
   simp only [List.getElem?_cons_zero, Option.some.injEq] at ht
   subst ht
   exact ⟨v, rfl, hx⟩
  | succ t => simp at ht
 rw [hpl] at hadd
 have hx1 : AO R loc (CG loc R [v]) := Cn loc R [v]
 have hat : CG loc R [v] R = Ew v := by have := DY loc R [v] (t := 0) rfl; simpa using this
 obtain ⟨k1, k2⟩ := hfin _ hx1 hat (hf.ext (fun r hr => hx1 r (by omega)) (by omega)) hadd
 refine ⟨_, fun r hr => hx1 r (by omega), by show s.rows.length ≤ rows.length; omega, by show Ax e rows.length _ fr tm; rw [hrl]; exact k1, ⟨B.n, F⟩, ⟨hBn, fun k hk => ?_, hBl.1, fun k hk => ?_⟩, k2, hbel⟩
 ·rcases f2 k hk with h1 | h1
  ·exact hBF k h1
  ·exact .inr h1.1
 ·rcases f2 k hk with h1 | h1
  ·exact hBl.2 k h1
  ·exact h1.2
theorem MW {r R : Nat} {s : St} : Ref e w0 s (H9 r R s) := by
 unfold H9
 split
 ·rename_i row hrow
  split
  ·rename_i q hq
   split
   ·rename_i hc
    simp only [Bool.and_eq_true, decide_eq_true_eq] at hc
    obtain ⟨c1, c2⟩ := hc
    have hr1 := Ac hrow
    refine Ref.OW (x := BK q.ss q.x q.n) c2 (by simp [Av]; omega) fun loc tm w B hf hR0 hBl => ?_
    obtain ⟨as, m, l1, l2, l3, l4, l5⟩ := (hR0.lst r row q hrow hq).2
    rw [if_pos c1] at l5
    have rest : ∀ (v : Value), (∀ u, (K.lsl r q.n).rel e (R + 1) loc u → u = v ∧ ∃ a c, v = .slice a m c) → ∀ (F : Nat → Prop), ∀ loc', AO R loc loc' → loc' R = Ew v → Ax e (R + 1) loc' s.fr tm → Ad e loc' (Av (s.rows.set r Row.dead) R ++ [BK q.ss q.x q.n]) w ⟨B.n, F⟩ →
      Ax e (R + 1) loc' (s.fr.map (AbL r R q.n)) tm ∧ Ad e loc' ((Av (s.rows.set r Row.dead) R ++ [BK q.ss q.x q.n]).map (Za r R q.n)) w ⟨B.n, F⟩ := fun v hv F loc' hx hat hf' hR' => by
     have hpl : (Av (s.rows.set r Row.dead) R).length = R := FO (by simpa using c2)
     have hq' : ∀ u, (K.lsl r q.n).rel e (R + 1) loc' u → (K.fsl R q.n).rel e (R + 1) loc' u := fun u hu => by
      have hlr : loc' r = loc r := hx r (by omega)
      have hu0 : (K.lsl r q.n).rel e (R + 1) loc u := by
       obtain ⟨h1, h2, h3⟩ := hu
       simp only [K.ok, K.Bl, hlr] at h1 h3
       exact ⟨h1, h2, h3⟩
      obtain ⟨rfl, a, c, hv2⟩ := hv u hu0
      refine ⟨⟨by omega, hu.1.2.1, a, c, by rw [hat, CR, l3]; simpa using hv2⟩, hu.2.1, .inr ?_⟩
      simp only [K.Bl]
      rw [hat, CR]
     refine ⟨⟨by simpa using hf'.len, fun i t u ht hu => ?_⟩, hR'.SN (by simp) fun r' x' hx' => ?_⟩
     ·rw [List.getElem?_map] at ht
      cases hs : s.fr[i]? with
      | none => rw [hs] at ht; cases ht
      | some y =>
       rw [hs] at ht
       simp only [Option.map_some, Option.some.injEq] at ht
       subst ht
       exact ZM hq' (hf'.at_ i y u hs hu)
     ·rw [List.getElem?_map] at hx'
      cases hs : (Av (s.rows.set r Row.dead) R ++ [BK q.ss q.x q.n])[r']? with
      | none => rw [hs] at hx'; cases hx'
      | some y =>
       rw [hs] at hx'
       simp only [Option.map_some, Option.some.injEq] at hx'
       subst hx'
       refine ⟨y, rfl, ?_⟩
       unfold Za
       split
       ·rename_i ho
        refine ⟨rfl, rfl, rfl, rfl, .inr ⟨ho, fun vs hvs => ?_⟩⟩
        have hll : (Av (s.rows.set r Row.dead) R ++ [BK q.ss q.x q.n]).length = R + 1 := by simp [hpl]
        rw [hll] at hvs ⊢
        exact O7 hq' hvs
       ·exact ⟨rfl, rfl, rfl, rfl, .inl rfl⟩
    cases he : (loc r).emp
    ·rw [if_neg (by simp [he])] at l5
     obtain ⟨g1, g2, g3, us, sp, g4, g5, g6⟩ := l5
     have hF : ∀ k, B.F k → (B.F k ∨ k = (loc r).blk) := fun k hk => .inl hk
     have hm : ∀ a u, CF B w a = some u → CF ⟨B.n, fun k => B.F k ∨ k = (loc r).blk⟩ w a = some u := Gr hF fun _ _ => rfl
     refine ⟨fun k => B.F k ∨ k = (loc r).blk, .slice (some ⟨(loc r).blk, 0, none⟩) m (loc r).cap, hF, fun k hk => ?_, s.rows.set r Row.dead, by simpa using c2, (hR0.kill r).To hF fun s' x hs ho => ?_, ⟨rfl, rfl, _, as, m, rfl, rfl, l4, l1, l2, l3, ?_⟩, rest _ (fun u hu => ?_) _⟩
     ·rcases hk with hk | rfl
      ·exact .inl hk
      ·exact .inr ⟨g2.1, FH g4⟩
     ·intro h0
      by_cases hsr : s' = r
      ·subst hsr
       rw [List.getElem?_set_self hr1] at hs
       injection hs with hs
       subst hs
       rcases ho with ho | ⟨_, ho, _⟩ <;> simp [Row.dead] at ho
      ·rw [List.getElem?_set_ne (Ne.symm hsr)] at hs
       have hlo : B6 loc r row := ⟨q, hq, c1, he⟩
       rcases h0 with h0 | h0
       ·rcases ho with ho | ho
        ·have := hR0.row s' x hs
         unfold AH at this
         rw [if_pos ho] at this
         exact this.2.2.1.2 h0
        ·exact (hR0.Su hs ho).2.2 h0
       ·refine hR0.lapart r s' row x hrow hs hlo ?_ h0.symm
        rcases ho with ho | ho
        ·exact .inl ho
        ·exact .inr ⟨ho, Ne.symm hsr⟩
     ·have hul : us.length = as.length := g6.1
      by_cases hm0 : as = []
      ·subst hm0
       have : m = 0 := by
        rcases Nat.mul_eq_zero.1 (show m * q.ss.length = 0 from l2.symm) with h | h
        ·exact h
        ·omega
       subst this
       exact .emp
      ·refine .sl (by
        have : m * q.ss.length ≤ (loc r).cap * q.ss.length := by
         rw [← g5, List.length_append, hul, l2]
         exact Nat.le_add_right _ _
        exact Nat.le_of_mul_le_mul_right this l4) l4 l2 hul (fun j u hu => ?_) (fun j s' a u h1 h2 h3 => (g6.2 j s' a u h1 h2 h3).mono hm)
       refine DD ?_ (.inr rfl)
       simp only [World.cell?, g4, Nat.zero_add]
       simp [List.getElem?_append_left (Ac hu), hu]
     ·obtain ⟨h1, _, h3⟩ := hu
      rcases h3 with h3 | h3
      ·cases h3
      ·simp only [K.Bl, he, Bool.false_eq_true, if_false] at h3
       rw [g1, l3] at h3
       exact ⟨by simpa using h3, _, _, rfl⟩
    ·rw [if_pos he] at l5
     have has : as = [] := List.eq_nil_of_length_eq_zero (by rw [l2, l5.1]; simp)
     subst has
     refine ⟨B.F, .slice none 0 0, fun k hk => hk, fun k hk => .inl hk, s.rows.set r Row.dead, by simpa using c2, hR0.kill r, ⟨rfl, rfl, _, [], m, rfl, rfl, l4, l1, l2, l3, .emp⟩, rest _ (fun u hu => ?_) _⟩
     obtain ⟨h1, _, h3⟩ := hu
     rcases h3 with h3 | h3
     ·cases h3
     ·simp only [K.Bl, he, if_true] at h3
      exact ⟨h3.trans l5.2, none, 0, by rw [l5.1]⟩
   ·exact Ref.refl _
  ·exact Ref.refl _
 ·exact Ref.refl _
theorem O9 : ∀ (l : List Nat) (rows : List Row) (loc : Loc) (w : World), Bn e w0 loc rows w → ∃ loc', AO rows.length loc loc' ∧ rows.length ≤ (Jv l rows).length ∧ Bn e w0 loc' (Jv l rows) w
 | [], rows, loc, w, h => ⟨loc, AO.refl _ _, Nat.le_refl _, h⟩
 | r :: l, rows, loc, w, h => by
  obtain ⟨l1, x1, n1, _, c1⟩ := MW (e := e) (w0 := w0) (r := r) (R := rows.length) (s := ⟨[], rows, .t true⟩) loc #[] w ⟨by simp, fun i t v ht _ => by simp at ht⟩ h
  obtain ⟨l2, x2, n2, c2⟩ := O9 l _ l1 w c1
  exact ⟨l2, x1.trans x2 n1, Nat.le_trans n1 n2, c2⟩
end
end Rx
namespace Rx
open Go Go.RowKit
section
variable {T : Nat → List A → Bool × List A} {e : Nat → A} {n n' : Nat} {loc loc' : Loc} {P : Program} {X : Ctx} {w0 : W0}
variable {fr : List SV} {rows : List Row} {gs : List (L × Bool)} {pc : L} {o : Oper} {g : G} {inl : Inline}
structure XOK (P : Program) (T : Nat → List A → Bool × List A) (X : Ctx) : Prop where
 Ay : B5 P X.Ay
 eqs : W8 P X.eqs
 ctr : KP P T X.ctr
 fns : TA P X.fns
 mixed : P.follows .mixedOrders = true
 big : SM P T X.big
 muts : ZL P T X.muts := by exact Vp
theorem AbC (hX : XOK P T X) (hI : HC P T e w0 inl) (o : Oper) : Bv P T e w0 fr rows gs pc o g (execOp X inl fr rows gs pc o g) := by
 have none_ : execOp X inl fr rows gs pc o g = none → Bv P T e w0 fr rows gs pc o g (execOp X inl fr rows gs pc o g) := fun h => by rw [h]; trivial
 cases h : o.op with
 | move x => exact W7 (.inl h)
 | assign x => exact W7 (.inr h)
 | pick c a b => exact AaT h
 | alloc t => exact ZC hX.Ay h
 | box t x => exact AbU hX.Ay h
 | build t ps => exact ZB hX.Ay h
 | buildSlice t n ps =>
  by_cases hn : n = 0
  ·subst hn; exact O0 hX.Ay h
  ·exact QG hX.Ay hn h
 | load t a => exact AaW hX.Ay h
 | store t a x => exact ZE hX.Ay h
 | nilCheck x => exact Tr h
 | binOp op t x y yt => exact Zx hX.Ay hX.eqs h
 | unOp op t x => exact AaU h
 | convert s d x => exact Vl hX.Ay h
 | makeFunc f a b =>
  cases f with
  | func f => exact Tu h
  | _ => exact none_ (by simp [execOp, h])
 | makeSlice t x y => exact SH hX.Ay h
 | panic x => exact Zz h
 | makeInterface t x => exact MN hX.Ay h
 | slice t x lo hi mx =>
  cases mx with
  | none => exact ZH hX.Ay h
  | some _ => exact none_ (by simp [execOp, h])
 | fieldAddr s x f => exact SD hX.Ay h
 | field t x f => exact Zy hX.Ay h
 | indexAddr t x i => exact SE hX.Ay h
 | index t x i => exact ZA hX.Ay h
 | extract x i => exact Vf h
 | call c => exact AaZ hX.Ay hX.ctr hX.fns hI h
 | _ => exact none_ (by simp [execOp, h])
def G9 : Value → Option Bool
 | .bool b => some b
 | _ => none
theorem Vr {ops : List Oper} {tm : Array Value} {j : Nat} {oj : Oper} {d : Nat} {s : SV} (h1 : ops[j]? = some oj) (h2 : oj.dst = some d) (h3 : fr[d]? = some s) (hf : Ax e n loc fr tm) :
  ∃ v, s.rel e n loc v ∧ yielded ops.toArray tm j = G9 v := by
 obtain ⟨v, hv, _, hr⟩ := hf.get h3
 refine ⟨v, hr, ?_⟩
 have h1' : ops.toArray[j]? = some oj := by simpa using h1
 unfold yielded
 rw [h1']
 simp only [Option.bind_some, h2, hv]
 cases v <;> rfl
theorem CB {ops : List Oper} {tm : Array Value} {r : Option (List (L × Bool))} (h : Oj fr ops o = some r) (hf : Ax e n loc fr tm) :
  match r with
  | none => Region.wanted o (yielded ops.toArray tm) = false
  | some gs => (Region.wanted o (yielded ops.toArray tm) = true ↔ Holds e gs) := by
 unfold Oj at h
 cases hg : o.guard with
 | none =>
  rw [hg] at h
  injection h with h
  subst h
  simp only [Region.wanted, hg, true_iff]
  intro x hx
  cases hx
 | some jw =>
  obtain ⟨j, want⟩ := jw
  rw [hg] at h
  simp only [Option.bind_eq_bind, Option.bind_eq_some_iff] at h
  obtain ⟨oj, hoj, d, hd, s, hs, h⟩ := h
  obtain ⟨v, hv, hy⟩ := Vr hoj hd hs hf
  have hwt : Region.wanted o (yielded ops.toArray tm) = (G9 v == some want) := by
   simp only [Region.wanted, hg, hy]
  rw [hwt]
  split at h
  ·injection h with h
   subst h
   simp only [SV.rel] at hv
   subst hv
   rfl
  ·rename_i b
   injection h with h
   have := Fh (x := .t b) hv
   subst this
   subst h
   simp only [L.AS, A.Ao]
   cases b <;> cases want <;> simp [Holds, G9]
  ·rename_i x _
   injection h with h
   have := Fh hv
   subst this
   subst h
   simp [Holds, G9]
  ·rename_i gs b
   by_cases hh : Holds e gs
   ·have := Fh (x := .t b) (hv.1 hh)
    subst this
    simp only [L.AS, A.Ao]
    split at h
    ·rename_i hb
     injection h with h
     subst h
     have hb : b = want := by simpa using hb
     subst hb
     simp [hh, G9]
    ·rename_i hb
     injection h with h
     subst h
     simpa [G9] using hb
   ·have := hv.2 hh
    subst this
    split at h
    ·injection h with h
     subst h
     simp [hh, Go.undef, G9]
    ·injection h with h
     subst h
     rfl
  ·rename_i gs x _
   injection h with h
   subst h
   by_cases hh : Holds e gs
   ·have := Fh (hv.1 hh)
    subst this
    simp only
    constructor
    ·intro h1
     exact KM (by simpa [G9] using h1) hh
    ·intro h1
     simpa [G9] using h1 (x, want) (by simp)
   ·have := hv.2 hh
    subst this
    constructor
    ·intro h1
     cases h1
    ·intro h1
     exact absurd (fun y hy => h1 y (List.mem_cons_of_mem _ hy)) hh
  ·cases h
theorem GD {v v' : SV} {u : Value} (h : Zi gs v = some v') (hv : Holds e gs → v.rel e n loc u) (hu : ¬ Holds e gs → u = Go.undef) : v'.rel e n loc u := by
 unfold Zi at h
 split at h
 ·injection h with h
  subst h
  exact hv (fun x hx => by cases hx)
 ·injection h with h
  subst h
  exact ⟨hv, hu⟩
 ·cases h
theorem SO {p : L} {r r' : Row} {g g' : G} (h : Sh p r g = some (r', g')) (hg : Good T e g') :
  Good T e g ∧ (∃ ss z m, r' = BK ss z m) ∧ ((p.ev e).bool = true → OP e r r') ∧ ((p.ev e).bool = false → ∀ M, EM e M r' (.slice none 0 0)) := by
 unfold Sh at h
 split at h
 ·rename_i q hq
  split at h
  ·cases h
  ·rename_i hc
   simp only [Bool.or_eq_true, Bool.not_eq_true', beq_iff_eq, bne_iff_ne, ne_eq, not_or, Bool.not_eq_true, Bool.not_eq_false, Decidable.not_not] at hc
   obtain ⟨⟨⟨⟨c1, c2⟩, c3⟩, c4⟩, c5⟩ := hc
   simp only [Option.some.injEq, Prod.mk.injEq] at h
   obtain ⟨rfl, rfl⟩ := h
   have m1 := Dr hg
   have m2 := Ii m1.1
   refine ⟨m2.1, ⟨_, _, _, rfl⟩, fun hp => ⟨fun h => by simp [BK] at h, fun _ _ => rfl, fun p' hp' => ?_, fun n loc w B s _ => ?_⟩, fun hp M => ?_⟩
   ·simp only [BK, Option.some.injEq] at hp'
    subst hp'
    exact ⟨q, hq, c3.symm, c5.symm, rfl, by rw [m2.2]; simp [hp], by rw [m1.2]; simp [hp]⟩
   ·unfold AH; simp [BK]
   ·exact ⟨rfl, rfl, _, [], 0, rfl, rfl, Nat.pos_of_ne_zero c4, by rw [m2.2]; simp [hp], by simp, by rw [m1.2]; simp [hp], .emp⟩
 ·cases h
theorem Kf {p : L} : ∀ {l l' : List Row} {g g' : G}, Ie p l g = some (l', g') → Good T e g' →
  Good T e g ∧ l'.length = l.length ∧ ∀ (t : Nat) x', l'[t]? = some x' → (∃ ss z m, x' = BK ss z m) ∧ ((p.ev e).bool = true → ∃ x, l[t]? = some x ∧ OP e x x') ∧ ((p.ev e).bool = false → ∀ M, EM e M x' (.slice none 0 0))
 | [], l', g, g', h, hg => by
  simp only [Ie, Option.some.injEq, Prod.mk.injEq] at h
  obtain ⟨rfl, rfl⟩ := h
  exact ⟨hg, rfl, fun t x' h => by simp at h⟩
 | r :: l, l', g, g', h, hg => by
  simp only [Ie, Option.bind_eq_bind, Option.bind_eq_some_iff, Option.some.injEq, Prod.mk.injEq] at h
  obtain ⟨⟨r', g1⟩, h1, ⟨l1, g2⟩, h2, rfl, rfl⟩ := h
  obtain ⟨k1, k2, k3⟩ := Kf h2 hg
  obtain ⟨j1, j2⟩ := SO h1 k1
  refine ⟨j1, by simp [k2], fun t x' ht => ?_⟩
  cases t with
  | zero =>
   simp only [List.getElem?_cons_zero, Option.some.injEq] at ht
   subst ht
   exact ⟨j2.1, fun hp => ⟨r, rfl, j2.2.1 hp⟩, j2.2.2⟩
  | succ t => simpa using k3 t x' (by simpa using ht)
section
variable {news : List Row} {w : World} {B : Bd} {N : Nat}
theorem RB (hf : ∀ (t : Nat) x, news[t]? = some x → ∃ ss z m, x = BK ss z m) (hR : Ad e loc (rows ++ news) w B) {k : K} {v : Value} (hk : k.rel e N loc v) : (Rl rows.length news k).rel e N loc v := by
 unfold Rl
 split
 ·rename_i r n
  split
  ·exact hk
  ·rename_i hr
   split
   ·rename_i row hrow
    split
    ·rename_i q hq
     obtain ⟨ss, z, m, rfl⟩ := hf _ _ hrow
     simp only [BK, Option.some.injEq] at hq
     subst hq
     have hrow' : (rows ++ news)[r]? = some (BK ss z m) := by rw [List.getElem?_append_right (by omega)]; exact hrow
     obtain ⟨as, m', _, _, l3, _, l5⟩ := (hR.lst r _ _ hrow' rfl).2
     rw [if_neg (by simp)] at l5
     obtain ⟨⟨a, c, g1, _⟩, _⟩ := l5
     obtain ⟨h1, h2, h3⟩ := hk
     refine ⟨⟨h1.1, by rw [l3]; omega, a, c, by rw [l3]; simpa using g1⟩, h2, .inr ?_⟩
     rcases h3 with h3 | h3
     ·cases h3
     ·exact h3
    ·exact K.Ct hk
   ·exact K.Ct hk
 ·exact hk
theorem KR (hf : ∀ (t : Nat) x, news[t]? = some x → ∃ ss z m, x = BK ss z m) (hR : Ad e loc (rows ++ news) w B) : ∀ {l : List K} {vs : List Value}, C8 e N loc l vs → C8 e N loc (l.map (Rl rows.length news)) vs
 | [], [], _ => trivial
 | _ :: _, _ :: _, h => ⟨RB hf hR h.1, KR hf hR h.2⟩
theorem RC (hf : ∀ (t : Nat) x, news[t]? = some x → ∃ ss z m, x = BK ss z m) (hR : Ad e loc (rows ++ news) w B) {c : C} {v : Value} (hk : c.rel e N loc v) : (WW rows.length news c).rel e N loc v := by
 cases c with
 | k x => exact RB hf hR hk
 | clo f a b =>
  obtain ⟨va, vb, h1, h2, h3⟩ := hk
  exact ⟨va, vb, h1, KR hf hR h2, KR hf hR h3⟩
 | cfn x f h => exact hk
theorem Pa (hf : ∀ (t : Nat) x, news[t]? = some x → ∃ ss z m, x = BK ss z m) (hR : Ad e loc (rows ++ news) w B) : ∀ {l : List C} {vs : List Value}, Aj e N loc l vs → Aj e N loc (l.map (WW rows.length news)) vs
 | [], [], _ => trivial
 | _ :: _, _ :: _, h => ⟨RC hf hR h.1, Pa hf hR h.2⟩
theorem Vs (hf : ∀ (t : Nat) x, news[t]? = some x → ∃ ss z m, x = BK ss z m) (hR : Ad e loc (rows ++ news) w B) {p : PV} {v : Value} (hk : p.rel e N loc v) : (Zj rows.length news p).rel e N loc v := by
 cases p with
 | one c => exact RC hf hR hk
 | agg l => obtain ⟨vs, h1, h2⟩ := hk; exact ⟨vs, h1, Pa hf hR h2⟩
end
theorem KS : ∀ {a b : List C}, Kw a b = true → a = b
 | [], [], _ => rfl
 | [], _ :: _, h => by simp [Kw] at h
 | _ :: _, [], h => by simp [Kw] at h
 | a :: l, b :: m, h => by
  simp only [Kw, Bool.and_eq_true] at h
  rw [C.Af h.1, KS h.2]
theorem Pb : ∀ {a b : Option FD}, Ju a b = true → a = b
 | none, none, _ => rfl
 | none, some _, h => by simp [Ju] at h
 | some _, none, h => by simp [Ju] at h
 | some ⟨a1, a2, a3, a4, a5⟩, some ⟨b1, b2, b3, b4, b5⟩, h => by
  simp only [Ju, Bool.and_eq_true, beq_iff_eq] at h
  obtain ⟨⟨⟨⟨h1, h2⟩, h3⟩, h4⟩, h5⟩ := h
  rw [h1, h2, B3 h3, L.Af h4, L.Af h5]
theorem Em : ∀ {a b : List Row}, DC a b = true → a = b
 | [], [], _ => rfl
 | [], _ :: _, h => by simp [DC] at h
 | _ :: _, [], h => by simp [DC] at h
 | ⟨a1, a2, a3, a4, a5⟩ :: l, ⟨b1, b2, b3, b4, b5⟩ :: m, h => by
  simp only [DC, Bool.and_eq_true, beq_iff_eq] at h
  obtain ⟨⟨⟨⟨⟨h1, h2⟩, h3⟩, h4⟩, h6⟩, h5⟩ := h
  rw [h1, h2, h3, KS h4, Pb h6, Em h5]
theorem XQ {v : SV} {rows' : List Row} {g' : G} (hl : KC o = true) (h : execOp X inl fr rows gs pc o g = some (v, some rows', g')) : ∃ news, rows' = rows ++ news := by
 obtain ⟨dst, op', ty, pos, after, guard⟩ := o
 unfold KC at hl
 simp only at hl
 split at hl
 ·rename_i t x
  simp only [execOp, Option.bind_eq_bind, Option.bind_eq_some_iff] at h
  obtain ⟨ty', _, p, _, h⟩ := h
  unfold Zd at h
  split at h
  ·simp only [Option.bind_eq_bind, Option.bind_eq_some_iff] at h
   obtain ⟨_, _, _, _, h⟩ := h
   split at h
   ·cases h
   ·simp only [Option.bind_eq_some_iff, one, Option.some.injEq, Prod.mk.injEq] at h
    obtain ⟨_, _, _, h, _⟩ := h
    cases h
  ·simp only [Option.bind_eq_bind, Option.bind_eq_some_iff, one, Option.some.injEq, Prod.mk.injEq] at h
   obtain ⟨_, _, _, _, _, _, _, h, _⟩ := h
   cases h
  ·simp only [Option.bind_eq_bind, Option.bind_eq_some_iff] at h
   obtain ⟨_, _, _, _, h⟩ := h
   split at h
   ·cases h
   ·simp only [Option.bind_eq_some_iff] at h
    obtain ⟨⟨cs, news, g2⟩, _, vv, _, h⟩ := h
    simp only at h
    split at h
    ·simp only [one, Option.some.injEq, Prod.mk.injEq] at h
     obtain ⟨_, h, _⟩ := h
     cases h
    ·simp only [Option.some.injEq, Prod.mk.injEq] at h
     exact ⟨news, h.2.1.symm⟩
  ·cases h
 ·rename_i t x lo hi mx
  cases mx with
  | some => simp [execOp] at h
  | none =>
   simp only [execOp, Option.bind_eq_bind, Option.bind_eq_some_iff] at h
   obtain ⟨ty', _, p, _, l', _, h', _, h⟩ := h
   split at h
   ·simp only [Option.bind_eq_some_iff] at h
    obtain ⟨_, _, h⟩ := h
    unfold Sg at h
    split at h
    ·simp only [Option.bind_eq_bind, Option.bind_eq_some_iff] at h
     obtain ⟨_, _, _, _, h⟩ := h
     split at h
     ·simp [one] at h
     ·cases h
    ·cases h
   ·simp only [Option.bind_eq_some_iff] at h
    obtain ⟨_, _, h⟩ := h
    exact Tx h
   ·exact (Tz h).elim
   ·cases h
 ·cases hl
theorem QO {v0 v : SV} {rows1 rows' : List Row} {g1 g' : G} (h : Si rows rows1 gs v0 g1 = some (v, rows', g')) (hg : Good T e g') :
  Good T e g1 ∧ rows.length ≤ rows'.length ∧
  (Holds e gs → ∀ (loc : Loc) (w : World) u, v0.rel e rows1.length loc u → Bn e w0 loc rows1 w → ∃ loc', AO rows.length loc loc' ∧ v.rel e rows'.length loc' u ∧ Bn e w0 loc' rows' w) ∧
  (¬ Holds e gs → ∀ (loc : Loc) (w : World), Bn e w0 loc rows w → ∃ loc', AO rows.length loc loc' ∧ v.rel e rows'.length loc' Go.undef ∧ Bn e w0 loc' rows' w) := by
 unfold Si at h
 split at h
 ·rename_i r m
  split at h
  ·cases h
  rename_i hc
  simp only [Bool.or_eq_true, bne_iff_ne, ne_eq, Bool.not_eq_true', not_or, Decidable.not_not, Bool.not_eq_false] at hc
  obtain ⟨⟨rfl, c2⟩, c3⟩ := hc
  have c2 := Em c2
  split at h
  ·cases h
  rename_i row hrow
  split at h
  ·cases h
  rename_i hd
  simp only [Bool.or_eq_true, bne_iff_ne, ne_eq, Bool.not_eq_true', not_or, Decidable.not_not, Bool.not_eq_false] at hd
  obtain ⟨⟨d1, d2⟩, d3⟩ := hd
  split at h
  ·cases h
  rename_i xs hxs
  simp only [Option.some.injEq, Prod.mk.injEq] at h
  obtain ⟨rfl, rfl, rfl⟩ := h
  have q1 := Dr hg
  have q2 := Ii q1.1
  have q3 := BZ q2.1
  have q4 := Ah q3.1
  have ez := q4.2 (.l (xs.map (L.ev e))) (by simp [D.ev])
  have hrows1 : rows1 = rows ++ [row] := by
   apply List.ext_getElem?
   intro i
   by_cases hi : i < rows.length
   ·rw [List.getElem?_append_left hi]
    conv => rhs; rw [c2]
    rw [List.getElem?_take_of_lt hi]
   ·by_cases hi2 : i = rows.length
    ·subst hi2
     rw [hrow]
     simp
    ·rw [List.getElem?_eq_none (by omega), List.getElem?_eq_none (by simp; omega)]
  clear c2
  subst hrows1
  refine ⟨q4.1, by simp, fun hh loc w u hu hcl => ?_, fun hh loc w hcl => ?_⟩
  ·have hp := q3.2.2 ⟨rfl, hh⟩
   obtain ⟨B, ⟨b1, b2, b3⟩, hR, hbel⟩ := hcl
   have hown := hR.row rows.length row (by simp)
   unfold AH at hown
   rw [if_pos d1] at hown
   obtain ⟨o1, o2, o3, o4, vs, sp, o5, o6, o7⟩ := hown
   obtain ⟨_, hu⟩ := D4 hu
   have hK := hR.kill rows.length
   have hset : (rows ++ [row]).set rows.length Row.dead = rows ++ [Row.dead] := by simp
   rw [hset] at hK
   obtain ⟨x1, x2⟩ := JL hxs o6
   have hW := hK.To (F := fun k => B.F k ∨ k = (loc rows.length).blk) (fun k hk => .inl hk) (fun s z hs hz hF => by
    have hs2 : s < rows.length ∧ rows[s]? = some z := by
     rw [List.getElem?_append] at hs
     split at hs
     ·exact ⟨by assumption, hs⟩
     ·rename_i hge
      have : z = Row.dead := by
       have := List.mem_of_getElem? hs
       simpa using this
      subst this
      rcases hz with hz | ⟨q, hq, _⟩
      ·simp [Row.dead] at hz
      ·simp [Row.dead] at hq
    have hs3 : (rows ++ [row])[s]? = some z := by rw [List.getElem?_append_left hs2.1]; exact hs2.2
    have hr3 : (rows ++ [row])[rows.length]? = some row := by simp
    rcases hF with hF | hF
    ·rcases hz with hz | hz
     ·have := hR.row s z hs3
      unfold AH at this
      rw [if_pos hz] at this
      exact this.2.2.1.2 hF
     ·exact (hR.Su hs3 hz).2.2 hF
    ·rcases hz with hz | hz
     ·exact hR.apart s rows.length z row hs3 hr3 hz d1 (by omega) hF
     ·exact hR.lapart s rows.length z row hs3 hr3 hz (.inl d1) hF)
   have hvl : vs.length = m := by rw [x2, List.length_map, x1, d3]
   have hF : EM e (CF ⟨B.n, fun k => B.F k ∨ k = (loc rows.length).blk⟩ w) (BK [.int (Se row.cells)] (F2 (AW (.t true) gs (g1.push .mkl xs).2).1 (g1.push .mkl xs).1 .e (AW (.t true) gs (g1.push .mkl xs).2).2).1
     (E6 (AW (.t true) gs (g1.push .mkl xs).2).1 (.n m) (.n 0) (F2 (AW (.t true) gs (g1.push .mkl xs).2).1 (g1.push .mkl xs).1 .e (AW (.t true) gs (g1.push .mkl xs).2).2).2).1) u := by
    refine ⟨rfl, rfl, _, xs.map (L.ev e), m, rfl, rfl, Nat.one_pos, by rw [q2.2, hp]; exact ez, by rw [List.length_map, x1, d3]; exact (Nat.mul_one m).symm, by rw [q1.2, hp]; rfl, ?_⟩
    rw [hu]
    refine GZ.sl (us := vs) (by rw [d2, Nat.mul_one, List.length_append, hvl] at o7; omega) Nat.one_pos (by rw [List.length_map, x1, d3]; exact (Nat.mul_one m).symm) (by rw [List.length_map, hvl, x1, d3]) (fun j v hj => ?_) fun j s a v h1 h2 h3 => ?_
    ·refine DD ?_ (.inr rfl)
     simp only [World.cell?, o5, o1, Nat.zero_mul, Nat.zero_add]
     have hjl := Ac hj
     simp only [Option.isSome_none, Bool.false_eq_true, if_false]
     rw [List.getElem?_toArray, List.getElem?_append_left hjl]
     exact hj
    ·simp only [List.length_cons, List.length_nil, Nat.zero_add, Nat.mod_one, List.getElem?_cons_zero, Option.some.injEq] at h1
     subst h1
     rw [x2, List.getElem?_map] at h3
     rw [List.getElem?_map] at h2
     cases hx : xs[j]? with
     | none => rw [hx] at h2; cases h2
     | some x =>
      rw [hx] at h2 h3
      simp only [Option.map_some, Option.some.injEq] at h2 h3
      subst h2 h3
      exact GZ.sc rfl
   have hlen : (rows ++ [Row.dead]).length = rows.length + 1 := by simp
   have hadd := hW.OW (news := [BK [.int (Se row.cells)] _ _]) (vs := [u]) fun t x ht => by
    cases t with
    | zero =>
     simp only [List.getElem?_cons_zero, Option.some.injEq] at ht
     subst ht
     exact ⟨u, rfl, hF⟩
    | succ t => simp at ht
   rw [hlen] at hadd
   have hat := DY loc (rows.length + 1) [u] (t := 0) rfl
   rw [Nat.add_zero] at hat
   refine ⟨CG loc (rows.length + 1) [u], fun r hr => Cn loc (rows.length + 1) [u] r (Nat.lt_succ_of_lt hr), ⟨fun _ => ?_, fun h0 => absurd hh h0⟩, ⟨B.n, fun k => B.F k ∨ k = (loc rows.length).blk⟩, ⟨b1, ?_, ?_⟩, hadd, hbel⟩
   ·refine ⟨⟨by simp, by rw [q1.2, hp]; exact Int.natCast_nonneg _, ?_⟩, by rw [hu]; rfl, .inr ?_⟩
    ·rw [hat, CR, q1.2, hp, hu]
     exact ⟨_, _, rfl⟩
    ·show _ = (CG loc (rows.length + 1) [u] (rows.length + 1)).v
     rw [hat, CR]
   ·intro k hk
    rcases hk with hk | hk
    ·exact b2 k hk
    ·exact .inr (hk ▸ o3.1)
   ·refine ⟨b3.1, fun k hk => ?_⟩
    rcases hk with hk | hk
    ·exact b3.2 k hk
    ·exact hk ▸ FH o5
  ·have hp : ((AW (.t true) gs (g1.push .mkl xs).2).1.ev e).bool = false := by
    cases hb : ((AW (.t true) gs (g1.push .mkl xs).2).1.ev e).bool
    ·rfl
    ·exact absurd (q3.2.1 hb).2 hh
   obtain ⟨B, hB, hR, hbel⟩ := hcl
   have hpd := hR.pad (rows.length + 1)
   have hpe : Av rows (rows.length + 1) = rows ++ [Row.dead] := by
    unfold Av
    rw [show rows.length + 1 - rows.length = 1 by omega]
    rfl
   rw [hpe] at hpd
   have hlen : (rows ++ [Row.dead]).length = rows.length + 1 := by simp
   have hadd := hpd.OW (news := [BK [.int (Se row.cells)] (F2 (AW (.t true) gs (g1.push .mkl xs).2).1 (g1.push .mkl xs).1 .e (AW (.t true) gs (g1.push .mkl xs).2).2).1
     (E6 (AW (.t true) gs (g1.push .mkl xs).2).1 (.n m) (.n 0) (F2 (AW (.t true) gs (g1.push .mkl xs).2).1 (g1.push .mkl xs).1 .e (AW (.t true) gs (g1.push .mkl xs).2).2).2).1]) (vs := [.slice none 0 0]) fun t x ht => by
    cases t with
    | zero =>
     simp only [List.getElem?_cons_zero, Option.some.injEq] at ht
     subst ht
     refine ⟨_, rfl, rfl, rfl, _, [], 0, rfl, rfl, Nat.one_pos, by rw [q2.2, hp]; rfl, rfl, by rw [q1.2, hp]; rfl, GZ.emp⟩
    | succ t => simp at ht
   rw [hlen] at hadd
   exact ⟨CG loc (rows.length + 1) [.slice none 0 0], fun r hr => Cn loc (rows.length + 1) [.slice none 0 0] r (Nat.lt_succ_of_lt hr), ⟨fun h0 => absurd h0 hh, fun _ => rfl⟩, B, hB, hadd, hbel⟩
 ·cases h
theorem Iu {v0 v : SV} {rows1 rows' : List Row} {g1 g' : G} (hld : ∃ news, rows1 = rows ++ news) (h : Lh rows rows1 gs v0 g1 = some (v, rows', g')) (hg : Good T e g') :
  Good T e g1 ∧ rows.length ≤ rows'.length ∧
  (Holds e gs → ∀ (loc : Loc) (w : World) u, v0.rel e rows1.length loc u → Bn e w0 loc rows1 w → ∃ loc', AO rows.length loc loc' ∧ v.rel e rows'.length loc' u ∧ Bn e w0 loc' rows' w) ∧
  (¬ Holds e gs → ∀ (loc : Loc) (w : World), Bn e w0 loc rows w → ∃ loc', AO rows.length loc loc' ∧ v.rel e rows'.length loc' Go.undef ∧ Bn e w0 loc' rows' w) := by
 unfold Lh at h
 obtain ⟨news, rfl⟩ := hld
 split at h
 ·rename_i p
  simp only [Option.bind_eq_bind, Option.bind_eq_some_iff, Option.some.injEq, Prod.mk.injEq, List.drop_left] at h
  obtain ⟨⟨news', g2⟩, hc, rfl, rfl, rfl⟩ := h
  obtain ⟨k1, k2, k3⟩ := Kf hc hg
  have hq := BZ k1
  have hf : ∀ (t : Nat) x, news'[t]? = some x → ∃ ss z m, x = BK ss z m := fun t x ht => (k3 t x ht).1
  refine ⟨hq.1, by simp, fun hh loc w u hu hcl => ?_, fun hh loc w hcl => ?_⟩
  ·have hp : ((AW (.t true) gs g1).1.ev e).bool = true := hq.2.2 ⟨rfl, hh⟩
   obtain ⟨B, hB, hR, hbel⟩ := hcl
   have hR' : Ad e loc (rows ++ news') w B := hR.W6 (by simp [k2]) fun r x' hx => by
    by_cases hr : r < rows.length
    ·rw [List.getElem?_append_left hr] at hx
     exact .inr ⟨x', by rw [List.getElem?_append_left hr]; exact hx, OP.refl x'⟩
    ·rw [List.getElem?_append_right (by omega)] at hx
     obtain ⟨x, h1, h2⟩ := (k3 _ _ hx).2.1 hp
     exact .inr ⟨x, by rw [List.getElem?_append_right (by omega)]; exact h1, h2⟩
   have hlen : (rows ++ news').length = (rows ++ news).length := by simp [k2]
   refine ⟨loc, AO.refl _ _, ⟨fun _ => ?_, fun h0 => absurd hh h0⟩, B, hB, hR', hbel⟩
   rw [hlen]
   exact Vs hf hR' hu
  ·have hp : ((AW (.t true) gs g1).1.ev e).bool = false := by
    cases hb : ((AW (.t true) gs g1).1.ev e).bool
    ·rfl
    ·exact absurd (hq.2.1 hb).2 hh
   obtain ⟨B, hB, hR, hbel⟩ := hcl
   have hadd := hR.OW (news := news') (vs := List.replicate news'.length (.slice none 0 0)) fun t x hx => ⟨.slice none 0 0, by
    rw [List.getElem?_replicate, if_pos (Ac hx)], (k3 t x hx).2.2 hp _⟩
   exact ⟨_, Cn _ _ _, ⟨fun h0 => absurd h0 hh, fun _ => rfl⟩, B, hB, hadd, hbel⟩
 ·cases h
theorem Vt {v0 v : SV} {rows1 rows' : List Row} {g1 g' : G} (hld : KC o = true → ∃ news, rows1 = rows ++ news) (h : Sj rows rows1 gs o v0 g1 = some (v, rows', g')) (hg : Good T e g') :
  Good T e g1 ∧ rows.length ≤ rows'.length ∧
  (Holds e gs → ∀ (loc : Loc) (w : World) u, v0.rel e rows1.length loc u → Bn e w0 loc rows1 w → ∃ loc', AO rows.length loc loc' ∧ v.rel e rows'.length loc' u ∧ Bn e w0 loc' rows' w) ∧
  (¬ Holds e gs → ∀ (loc : Loc) (w : World), Bn e w0 loc rows w → ∃ loc', AO rows.length loc loc' ∧ v.rel e rows'.length loc' Go.undef ∧ Bn e w0 loc' rows' w) := by
 unfold Sj at h
 split at h
 ·rename_i hl
  exact Iu (hld hl) h hg
 ·split at h
  ·rename_i hs
   have hs := Em hs
   subst hs
   split at h
   ·simp only [Option.some.injEq, Prod.mk.injEq] at h
    obtain ⟨rfl, rfl, rfl⟩ := h
    exact ⟨hg, Nat.le_refl _, fun hh loc w u hu hcl => ⟨loc, AO.refl _ _, ⟨fun _ => hu, fun h0 => absurd hh h0⟩, hcl⟩, fun hh loc w hcl => ⟨loc, AO.refl _ _, ⟨fun h0 => absurd h0 hh, fun _ => rfl⟩, hcl⟩⟩
   ·cases h
  ·split at h
   ·rename_i r hr
    simp only [Option.some.injEq] at h
    subst h
    exact QO hr hg
   ·split at h
    ·rename_i hs
     refine Iu ⟨rows1.drop rows.length, ?_⟩ h hg
     have := Em hs
     conv => rhs; lhs; rw [this]
     exact (List.take_append_drop _ _).symm
    ·cases h
theorem Sy.mono {a : Act} {w : World} {R R' : Value → World → Prop} (h : Sy P o a w R) (f : ∀ u w', R u w' → R' u w') : Sy P o a w R' := by
 rcases h with ⟨u, w', y, hr⟩ | ⟨g, args, h1, h2⟩
 ·exact .inl ⟨u, w', y, f u w' hr⟩
 ·exact .inr ⟨g, args, h1, h2.mono fun en w'' ⟨u, he, hr⟩ => ⟨u, he, f u w'' hr⟩⟩
theorem ZN (hX : XOK P T X) (hI : HC P T e w0 inl) (o : Oper) : Bv P T e w0 fr rows gs pc o g (Jw X inl fr rows gs pc o g) := by
 unfold Jw
 split
 ·rename_i r h
  have := AbC (fr := fr) (rows := rows) (gs := gs) (pc := pc) (g := g) hX hI o
  rw [h] at this
  exact this
 ·split
  ·trivial
  ·rename_i rows1 hf1
   split
   ·rename_i v rows2 g' h
    have hok := AbC (fr := fr) (rows := rows1) (gs := gs) (pc := pc) (g := g) hX hI o
    rw [h] at hok
    intro hg
    obtain ⟨k1, k2⟩ := hok hg
    refine ⟨k1, fun loc a w hpc hgs hf hw => ?_⟩
    obtain ⟨l, rfl⟩ : ∃ l, rows1 = Jv l rows := by
     unfold KD at hf1
     split at hf1
     ·split at hf1
      ·split at hf1
       ·split at hf1
        ·split at hf1
         ·cases hf1
         ·injection hf1 with hf1
          exact ⟨_, hf1.symm⟩
        ·cases hf1
       ·split at hf1
        ·split at hf1
         ·cases hf1
         ·injection hf1 with hf1
          exact ⟨_, hf1.symm⟩
        ·cases hf1
       ·cases hf1
      ·cases hf1
     ·cases hf1
    obtain ⟨loc1, x1, n1, hw1⟩ := O9 l rows loc w hw
    exact Sy.mono (k2 loc1 a w hpc hgs (hf.ext x1 n1) hw1) fun u w' ⟨loc', hx, hl, hv, hc⟩ => ⟨loc', x1.trans hx n1, Nat.le_trans n1 hl, hv, hc⟩
   ·trivial
theorem Vu {v : SV} {rows' : List Row} {g' : G} (hl : KC o = true) (h : Jw X inl fr rows gs pc o g = some (v, some rows', g')) : ∃ news, rows' = rows ++ news := by
 unfold Jw at h
 split at h
 ·rename_i r h0
  rw [h] at h0
  exact XQ hl h0
 ·have : KD fr gs rows o = none := by
   unfold KC at hl
   unfold KD
   split at hl
   ·rename_i ho
    rw [ho]
   ·rename_i ho
    rw [ho]
   ·cases hl
  rw [this] at h
  cases h
theorem D5 (hX : XOK P T X) (hI : HC P T e w0 inl) {ops : List Oper} : ∀ {l : List Oper} {fr : List SV} {rows : List Row} {g : G} {fr' : List SV} {rows' : List Row} {g' : G},
  BW X inl true ops pc l fr rows g = some (fr', rows', g') → Good T e g' → Good T e g ∧ rows' = rows ∧
   ∀ (loc : Loc) (a : Act) (w1 : World) (Q : Act → Prop), (pc.ev e).bool = true → Ax e rows.length loc fr a.tmps → Bn e w0 loc rows w1 →
    (∀ a' : Act, Ax e rows.length loc fr' a'.tmps → a'.defers = a.defers → Q a') → wpQuiet P ops.toArray (Bn e w0 loc rows) Q l a
 | [], fr, rows, g, fr', rows', g', h, hg => by
  simp only [BW, Option.some.injEq, Prod.mk.injEq] at h
  obtain ⟨rfl, rfl, rfl⟩ := h
  exact ⟨hg, rfl, fun loc a w1 Q _ hf _ hQ => hQ a hf rfl⟩
 | o :: l, fr, rows, g, fr', rows', g', h, hg => by
  simp only [BW, Option.bind_eq_bind, Option.bind_eq_some_iff] at h
  obtain ⟨wt, hwt, h⟩ := h
  cases wt with
  | none =>
   simp only at h
   obtain ⟨h1, h2, h3⟩ := D5 hX hI h hg
   refine ⟨h1, h2, fun loc a w1 Q hpc hf hw1 hQ => ?_⟩
   have := CB hwt hf
   simp only at this
   unfold wpQuiet
   rw [if_neg (by rw [this]; simp)]
   exact h3 loc _ w1 Q hpc (hf.put (s := .undef) rfl o.dst) hw1 fun a' hf' hd => hQ a' hf' (by rw [hd]; cases o.dst <;> rfl)
  | some gs =>
   simp only [Option.bind_eq_some_iff] at h
   obtain ⟨⟨v, r, g1⟩, hop, h⟩ := h
   simp only [Option.bind_eq_some_iff] at h
   obtain ⟨v', hv', h⟩ := h
   cases r with
   | some rows1 => simp at h
   | none =>
    simp only at h
    obtain ⟨h1, h2, h3⟩ := D5 hX hI h hg
    have hok := ZN (fr := fr) (rows := rows) (gs := gs) (pc := (AW pc gs g).1) (g := (AW pc gs g).2) hX hI o
    rw [hop] at hok
    obtain ⟨hg2, hq⟩ := hok h1
    have hgp := BZ hg2
    refine ⟨hgp.1, h2, fun loc a w1 Q hpc hf hw1 hQ => ?_⟩
    have hwanted := CB hwt hf
    simp only at hwanted
    unfold wpQuiet
    by_cases hh : Holds e gs
    ·rw [if_pos (hwanted.2 hh)]
     obtain ⟨u, hu, hdo⟩ := hq loc a w1 (hgp.2.2 ⟨hpc, hh⟩) hh hf hw1
     exact ⟨u, fun w hw => (hdo w hw).quietAt, h3 loc _ w1 Q hpc (hf.put (GD hv' (fun _ => hu) (fun h0 => absurd hh h0)) o.dst) hw1 fun a' hf' hd => hQ a' hf' (by rw [hd]; cases o.dst <;> rfl)⟩
    ·rw [if_neg (fun h0 => hh (hwanted.1 h0))]
     exact h3 loc _ w1 Q hpc (hf.put (GD hv' (fun h0 => absurd h0 hh) (fun _ => rfl)) o.dst) hw1 fun a' hf' hd => hQ a' hf' (by rw [hd]; cases o.dst <;> rfl)
theorem BB (hX : XOK P T X) (hI : HC P T e w0 inl) {ops : List Oper} : ∀ {l : List Oper} {fr : List SV} {rows : List Row} {g : G} {fr' : List SV} {rows' : List Row} {g' : G},
  BW X inl false ops pc l fr rows g = some (fr', rows', g') → Good T e g' → Good T e g ∧
   ∀ (loc : Loc) (a : Act) (w : World) (Q : Exit → Act → World → Prop), (pc.ev e).bool = true → Ax e rows.length loc fr a.tmps → Bn e w0 loc rows w →
    (∀ (loc' : Loc) (a' : Act) (w' : World), AO rows.length loc loc' → rows.length ≤ rows'.length → Ax e rows'.length loc' fr' a'.tmps → a'.defers = a.defers → Bn e w0 loc' rows' w' → Q .normal a' w') →
     wpList P ops.toArray Q l a w
 | [], fr, rows, g, fr', rows', g', h, hg => by
  simp only [BW, Option.some.injEq, Prod.mk.injEq] at h
  obtain ⟨rfl, rfl, rfl⟩ := h
  exact ⟨hg, fun loc a w Q _ hf hw hQ => hQ loc a w (AO.refl _ _) (Nat.le_refl _) hf rfl hw⟩
 | o :: l, fr, rows, g, fr', rows', g', h, hg => by
  simp only [BW, Option.bind_eq_bind, Option.bind_eq_some_iff] at h
  obtain ⟨wt, hwt, h⟩ := h
  cases wt with
  | none =>
   simp only at h
   obtain ⟨h1, h3⟩ := BB hX hI h hg
   refine ⟨h1, fun loc a w Q hpc hf hw hQ => ?_⟩
   have := CB hwt hf
   simp only at this
   unfold wpList
   rw [if_neg (by rw [this]; simp)]
   exact h3 loc _ w Q hpc (hf.put (s := .undef) rfl o.dst) hw fun loc' a' w' hx hl hf' hd hw' => hQ loc' a' w' hx hl hf' (by rw [hd]; cases o.dst <;> rfl) hw'
  | some gs =>
   simp only [Option.bind_eq_some_iff] at h
   obtain ⟨⟨v, r, g1⟩, hop, h⟩ := h
   simp only [Option.bind_eq_some_iff] at h
   obtain ⟨v', hv', h⟩ := h
   have hok := ZN (fr := fr) (rows := rows) (gs := gs) (pc := (AW pc gs g).1) (g := (AW pc gs g).2) hX hI o
   rw [hop] at hok
   cases r with
   | none =>
    simp only at h
    obtain ⟨h1, h3⟩ := BB hX hI h hg
    obtain ⟨hg2, hq⟩ := hok h1
    have hgp := BZ hg2
    refine ⟨hgp.1, fun loc a w Q hpc hf hw hQ => ?_⟩
    have hwanted := CB hwt hf
    simp only at hwanted
    unfold wpList
    by_cases hh : Holds e gs
    ·rw [if_pos (hwanted.2 hh)]
     obtain ⟨u, hu, hdo⟩ := hq loc a w (hgp.2.2 ⟨hpc, hh⟩) hh hf hw
     refine .inl (((hdo w hw).Adc (R := fun u' w' => u' = u ∧ Bn e w0 loc rows w') hw fun w' hw' => ⟨rfl, hw'⟩).wp ?_)
     rintro u' w' ⟨rfl, hw'⟩
     exact h3 loc _ w' Q hpc (hf.put (GD hv' (fun _ => hu) (fun h0 => absurd hh h0)) o.dst) hw' fun loc' a' w' hx hl hf' hd hw' => hQ loc' a' w' hx hl hf' (by rw [hd]; cases o.dst <;> rfl) hw'
    ·rw [if_neg (fun h0 => hh (hwanted.1 h0))]
     exact h3 loc _ w Q hpc (hf.put (GD hv' (fun h0 => absurd h0 hh) (fun _ => rfl)) o.dst) hw fun loc' a' w' hx hl hf' hd hw' => hQ loc' a' w' hx hl hf' (by rw [hd]; cases o.dst <;> rfl) hw'
   | some rows1 =>
    simp only [Bool.false_eq_true, if_false] at h
    split at h
    ·rename_i hge
     have hgs : gs = [] := by simpa using hge
     subst hgs
     have hhold : Holds e ([] : List (L × Bool)) := fun x hx => by cases hx
     obtain ⟨h1, h3⟩ := BB hX hI h hg
     obtain ⟨hg2, hq⟩ := hok h1
     have hgp := BZ hg2
     refine ⟨hgp.1, fun loc a w Q hpc hf hw hQ => ?_⟩
     have hwanted := CB hwt hf
     simp only at hwanted
     unfold wpList
     rw [if_pos (hwanted.2 hhold)]
     refine .inl ((hq loc a w (hgp.2.2 ⟨hpc, hhold⟩) hhold hf hw).wp ?_)
     rintro u w' ⟨loc1, hx1, hl1, hu, hw1⟩
     have hv2 : v'.rel e rows1.length loc1 u := GD hv' (fun _ => hu) (fun h0 => absurd hhold h0)
     exact h3 loc1 _ w' Q hpc ((hf.ext hx1 hl1).put hv2 o.dst) hw1 fun loc' a' w' hx hl hf' hd hw' => hQ loc' a' w' (hx1.trans hx hl1) (Nat.le_trans hl1 hl) hf' (by rw [hd]; cases o.dst <;> rfl) hw'
    ·simp only [Option.bind_eq_some_iff] at h
     obtain ⟨⟨v2, rows2, g2⟩, hcalm, h⟩ := h
     simp only at h
     obtain ⟨h1, h3⟩ := BB hX hI h hg
     have hld : KC o = true → ∃ news, rows1 = rows ++ news := fun hl => Vu hl hop
     obtain ⟨c1, c2, c3, c4⟩ := Vt (w0 := w0) hld hcalm h1
     obtain ⟨hg2, hq⟩ := hok c1
     have hgp := BZ hg2
     refine ⟨hgp.1, fun loc a w Q hpc hf hw hQ => ?_⟩
     have hwanted := CB hwt hf
     simp only at hwanted
     unfold wpList
     by_cases hh : Holds e gs
     ·rw [if_pos (hwanted.2 hh)]
      refine .inl ((hq loc a w (hgp.2.2 ⟨hpc, hh⟩) hh hf hw).wp ?_)
      rintro u w' ⟨loc1, hx1, hl1, hu, hw1⟩
      obtain ⟨loc2, hx2, d3, d4⟩ := c3 hh loc1 w' u hu hw1
      have hx3 := hx1.trans hx2 (Nat.le_refl _)
      exact h3 loc2 _ w' Q hpc ((hf.ext hx3 c2).put d3 o.dst) d4 fun loc' a' w' hx hl hf' hd hw' => hQ loc' a' w' (hx3.trans hx c2) (Nat.le_trans c2 hl) hf' (by rw [hd]; cases o.dst <;> rfl) hw'
     ·rw [if_neg (fun h0 => hh (hwanted.1 h0))]
      obtain ⟨loc1, hx1, d3, d4⟩ := c4 hh loc w hw
      exact h3 loc1 _ w Q hpc ((hf.ext hx1 c2).put d3 o.dst) d4 fun loc' a' w' hx hl hf' hd hw' => hQ loc' a' w' (hx1.trans hx c2) (Nat.le_trans c2 hl) hf' (by rw [hd]; cases o.dst <;> rfl) hw'
end
end Rx
namespace Rx
open Go Go.RowKit
theorem EP : ∀ {a b : List ED}, Dq a b = true → a = b
 | [], [], _ => rfl
 | [], _ :: _, h => by simp [Dq] at h
 | _ :: _, [], h => by simp [Dq] at h
 | ⟨a1, a2, a3⟩ :: l, ⟨b1, b2, b3⟩ :: m, h => by
  simp only [Dq, Bool.and_eq_true] at h
  obtain ⟨⟨⟨h1, h2⟩, h3⟩, h4⟩ := h
  rw [D.Af h1, L.Dc h2, L.Dc h3, EP h4]
theorem FP : ∀ {a b : List Def}, Ej a b = true → a = b
 | [], [], _ => rfl
 | [], _ :: _, h => by simp [Ej] at h
 | _ :: _, [], h => by simp [Ej] at h
 | ⟨a1, a2, a3⟩ :: l, ⟨b1, b2, b3⟩ :: m, h => by
  simp only [Ej, Bool.and_eq_true, beq_iff_eq, D.same, decide_eq_true_eq] at h
  obtain ⟨⟨⟨h1, h2⟩, h3⟩, h4⟩ := h
  rw [h1, h2, L.Dc h3, FP h4]
theorem PV.Af {a b : PV} (h : a.same b = true) : a = b := by
 cases a <;> cases b <;> simp [PV.same] at h
 ·rw [C.Af h]
 ·rw [KS h]
theorem Pc : ∀ {a b : List PV}, Jx a b = true → a = b
 | [], [], _ => rfl
 | [], _ :: _, h => by simp [Jx] at h
 | _ :: _, [], h => by simp [Jx] at h
 | a :: l, b :: m, h => by
  simp only [Jx, Bool.and_eq_true] at h
  rw [PV.Af h.1, Pc h.2]
theorem MX : ∀ {a b : List (L × Bool)}, KE a b = true → a = b
 | [], [], _ => rfl
 | [], _ :: _, h => by simp [KE] at h
 | _ :: _, [], h => by simp [KE] at h
 | (a, a') :: l, (b, b') :: m, h => by
  simp only [KE, Bool.and_eq_true, beq_iff_eq] at h
  rw [L.Af h.1.1, h.1.2, MX h.2]
theorem SV.Af {a b : SV} (h : a.same b = true) : a = b := by
 cases a <;> cases b <;> simp [SV.same] at h
 ·rw [PV.Af h]
 ·rw [Pc h]
 ·rw [MX h.1, PV.Af h.2]
 ·rfl
 ·rfl
theorem Pd : ∀ {a b : List SV}, Jy a b = true → a = b
 | [], [], _ => rfl
 | [], _ :: _, h => by simp [Jy] at h
 | _ :: _, [], h => by simp [Jy] at h
 | a :: l, b :: m, h => by
  simp only [Jy, Bool.and_eq_true] at h
  rw [SV.Af h.1, Pd h.2]
theorem Ha : ∀ {a b : List Bool}, E1 a b = true → a = b
 | [], [], _ => rfl
 | [], _ :: _, h => by simp [E1] at h
 | _ :: _, [], h => by simp [E1] at h
 | a :: l, b :: m, h => by
  simp only [E1, Bool.and_eq_true, beq_iff_eq] at h
  rw [h.1, Ha h.2]
theorem Nd.Af {a b : Nd} (hl : a.listed = b.listed) (h : a.same b = true) : a = b := by
 obtain ⟨a1, a2, a3, a4, a5, a6, a7⟩ := a
 obtain ⟨b1, b2, b3, b4, b5, b6, b7⟩ := b
 simp only [Nd.same, Bool.and_eq_true, beq_iff_eq] at h
 obtain ⟨⟨⟨⟨⟨h1, h2⟩, h3⟩, h4⟩, h5⟩, h6⟩ := h
 simp only at hl
 rw [hl, Pd h1, Em h2, h3, FP h4, L.Dc h5, EP h6]
end Rx
namespace Rx
open Go Go.RowKit
section
variable {T : Nat → List A → Bool × List A} {e e1 : Nat → A} {n : Nat} {loc : Loc} {P : Program} {X : Ctx} {w0 : W0} {σ : Nat → L}
theorem JM (h : ∀ i, e1 i = (σ i).ev e) (x : L) : (CX σ x).ev e = x.ev e1 := by
 cases x <;> simp [CX, L.ev, h]
theorem TO (h : ∀ i, e1 i = (σ i).ev e) {k : K} {v : Value} : (XI σ k).rel e n loc v ↔ k.rel e1 n loc v := by
 cases k <;> simp [XI, K.rel, K.ok, K.Bl, JM h]
theorem RD (h : ∀ i, e1 i = (σ i).ev e) : ∀ {l : List K} {vs : List Value}, C8 e n loc (l.map (XI σ)) vs ↔ C8 e1 n loc l vs
 | [], [] => by simp [C8]
 | [], _ :: _ => by simp [C8]
 | _ :: _, [] => by simp [C8]
 | _ :: _, _ :: _ => by simp [C8, TO h, RD h]
theorem Lx (h : ∀ i, e1 i = (σ i).ev e) {c : C} {v : Value} : (U5 σ c).rel e n loc v ↔ c.rel e1 n loc v := by
 cases c with
 | k x => exact TO h
 | clo f a b => simp [U5, C.rel, RD h]
 | cfn x f g => simp [U5, C.rel, JM h]
theorem MY (h : ∀ i, e1 i = (σ i).ev e) : ∀ {l : List C} {vs : List Value}, Aj e n loc (l.map (U5 σ)) vs ↔ Aj e1 n loc l vs
 | [], [] => by simp [Aj]
 | [], _ :: _ => by simp [Aj]
 | _ :: _, [] => by simp [Aj]
 | _ :: _, _ :: _ => by simp [Aj, Lx h, MY h]
theorem MZ (h : ∀ i, e1 i = (σ i).ev e) {p : PV} {v : Value} : (Rm σ p).rel e n loc v ↔ p.rel e1 n loc v := by
 cases p with
 | one c => exact Lx h
 | agg l => simp [Rm, PV.rel, MY h]
theorem Pe (h : ∀ i, e1 i = (σ i).ev e) : ∀ {l : List PV} {vs : List Value}, AA e n loc (l.map (Rm σ)) vs ↔ AA e1 n loc l vs
 | [], [] => by simp [AA]
 | [], _ :: _ => by simp [AA]
 | _ :: _, [] => by simp [AA]
 | _ :: _, _ :: _ => by simp [AA, MZ h, Pe h]
theorem RE (h : ∀ i, e1 i = (σ i).ev e) {s : SV} {v : Value} : (OL σ s).rel e n loc v ↔ s.rel e1 n loc v := by
 cases s with
 | pv p => exact MZ h
 | tup l => simp [OL, SV.rel, Pe h]
 | cond gs p =>
  have : Holds e (gs.map fun x => (CX σ x.1, x.2)) ↔ Holds e1 gs := by
   unfold Holds
   constructor
   ·intro hh x hx
    have := hh (CX σ x.1, x.2) (List.mem_map.2 ⟨x, hx, rfl⟩)
    simpa [JM h] using this
   ·intro hh x hx
    obtain ⟨y, hy, rfl⟩ := List.mem_map.1 hx
    simpa [JM h] using hh y hy
  simp [OL, SV.rel, MZ h, this]
 | undef => simp [OL, SV.rel]
 | junk => simp [OL, SV.rel]
theorem GF (h : ∀ i, e1 i = (σ i).ev e) {fr : List SV} {tm : Array Value} : Ax e n loc (fr.map (OL σ)) tm ↔ Ax e1 n loc fr tm := by
 constructor
 ·intro hh
  refine ⟨by simpa using hh.len, fun i s v hs hv => (RE h).1 (hh.at_ i _ v (by rw [List.getElem?_map, hs]; rfl) hv)⟩
 ·intro hh
  refine ⟨by simpa using hh.len, fun i s v hs hv => ?_⟩
  rw [List.getElem?_map] at hs
  cases ht : fr[i]? with
  | none => rw [ht] at hs; cases hs
  | some t =>
   rw [ht] at hs
   simp only [Option.map_some, Option.some.injEq] at hs
   subst hs
   exact (RE h).2 (hh.at_ i t v ht hv)
theorem RF (h : ∀ i, e1 i = (σ i).ev e) {w : World} {B : Bd} {r : Nat} {x : Row} : AH e n loc w B r (Fa σ x) ↔ AH e1 n loc w B r x := by
 unfold AH
 simp only [Fa, MY h, List.map_eq_nil_iff, ne_eq, List.getElem?_map, Option.map_eq_some_iff]
 constructor
 ·intro hh
  split
  ·rename_i ho; rw [if_pos ho] at hh; exact hh
  ·rename_i ho
   rw [if_neg ho] at hh
   intro hc
   obtain ⟨h1, h2, h3⟩ := hh hc
   refine ⟨h1, h2, fun j c hj => ?_⟩
   obtain ⟨v, hv, hr⟩ := h3 j _ ⟨c, hj, rfl⟩
   exact ⟨v, hv, (Lx h).1 hr⟩
 ·intro hh
  split
  ·rename_i ho; rw [if_pos ho] at hh; exact hh
  ·rename_i ho
   rw [if_neg ho] at hh
   intro hc
   obtain ⟨h1, h2, h3⟩ := hh hc
   refine ⟨h1, h2, fun j c hj => ?_⟩
   obtain ⟨c', hc', rfl⟩ := hj
   obtain ⟨v, hv, hr⟩ := h3 j _ hc'
   exact ⟨v, hv, (Lx h).2 hr⟩
theorem RG (h : ∀ i, e1 i = (σ i).ev e) {w : World} {B : Bd} {r : Nat} {q : FD} : BM e loc w B r { q with x := CX σ q.x, n := CX σ q.n } ↔ BM e1 loc w B r q := by
 unfold BM
 simp only [JM h]
theorem Fk (h : ∀ i, e1 i = (σ i).ev e) {w : World} {B : Bd} {rows : List Row} : Ad e loc (rows.map (Fa σ)) w B ↔ Ad e1 loc rows w B := by
 have at_ : ∀ (r : Nat) (y : Row), (rows.map (Fa σ))[r]? = some y ↔ ∃ x, rows[r]? = some x ∧ Fa σ x = y := fun r y => by
  rw [List.getElem?_map, Option.map_eq_some_iff]
 have lo : ∀ (r : Nat) (x : Row), B6 loc r (Fa σ x) ↔ B6 loc r x := fun r x => by
  unfold B6
  simp only [Fa, Option.map_eq_some_iff]
  constructor
  ·rintro ⟨q, ⟨q0, h1, rfl⟩, h2, h3⟩
   exact ⟨q0, h1, h2, h3⟩
  ·rintro ⟨q, h1, h2, h3⟩
   exact ⟨_, ⟨q, h1, rfl⟩, h2, h3⟩
 constructor
 ·intro hh
  refine ⟨fun r x hr => ?_, fun r x q hr hq => ?_, fun r s x y hr hs ox oy => ?_, fun r s x y hr hs ox oy hne => ?_⟩
  ·have := hh.row r _ ((at_ r _).2 ⟨x, hr, rfl⟩)
   rw [List.length_map] at this
   exact (RF h).1 this
  ·have := hh.lst r _ _ ((at_ r _).2 ⟨x, hr, rfl⟩) (show (Fa σ x).lst = some { q with x := CX σ q.x, n := CX σ q.n } by simp [Fa, hq])
   exact ⟨this.1, (RG h).1 this.2⟩
  ·refine hh.lapart r s _ _ ((at_ r _).2 ⟨x, hr, rfl⟩) ((at_ s _).2 ⟨y, hs, rfl⟩) ((lo r x).2 ox) ?_
   rcases oy with oy | ⟨oy, hne⟩
   ·exact .inl oy
   ·exact .inr ⟨(lo s y).2 oy, hne⟩
  ·exact hh.apart r s _ _ ((at_ r _).2 ⟨x, hr, rfl⟩) ((at_ s _).2 ⟨y, hs, rfl⟩) ox oy hne
 ·intro hh
  refine ⟨fun r x' hr => ?_, fun r x' q hr hq => ?_, fun r s x' y' hr hs ox oy => ?_, fun r s x' y' hr hs ox oy hne => ?_⟩
  ·obtain ⟨x, hx, rfl⟩ := (at_ r _).1 hr
   rw [List.length_map]
   exact (RF h).2 (hh.row r x hx)
  ·obtain ⟨x, hx, rfl⟩ := (at_ r _).1 hr
   simp only [Fa, Option.map_eq_some_iff] at hq
   obtain ⟨q0, h1, rfl⟩ := hq
   have := hh.lst r x q0 hx h1
   exact ⟨this.1, (RG h).2 this.2⟩
  ·obtain ⟨x, hx, rfl⟩ := (at_ r _).1 hr
   obtain ⟨y, hy, rfl⟩ := (at_ s _).1 hs
   refine hh.lapart r s x y hx hy ((lo r x).1 ox) ?_
   rcases oy with oy | ⟨oy, hne⟩
   ·exact .inl oy
   ·exact .inr ⟨(lo s y).1 oy, hne⟩
  ·obtain ⟨x, hx, rfl⟩ := (at_ r _).1 hr
   obtain ⟨y, hy, rfl⟩ := (at_ s _).1 hs
   exact hh.apart r s x y hx hy ox oy hne
def Iv : Lc := ⟨0, 0, 0, 0, .slice none 0 0, true⟩
def Fm (loc : Loc) (ρ : Nat → Option Nat) : Loc := fun r => match ρ r with | some r' => loc r' | none => Iv
theorem Ly {α : Type} {f : α → α → Bool} : ∀ {l m : List α}, C7 f l m = true → l.length = m.length ∧ ∀ (i : Nat) a, l[i]? = some a → ∃ b, m[i]? = some b ∧ f a b = true
 | [], [], _ => ⟨rfl, fun i a h => by simp at h⟩
 | [], _ :: _, h => by simp [C7] at h
 | _ :: _, [], h => by simp [C7] at h
 | a :: l, b :: m, h => by
  simp only [C7, Bool.and_eq_true] at h
  obtain ⟨h1, h2⟩ := Ly h.2
  refine ⟨by simp [h1], fun i x hx => ?_⟩
  cases i with
  | zero => simp at hx; subst hx; exact ⟨b, rfl, h.1⟩
  | succ i => simpa using h2 i x (by simpa using hx)
variable {ρ : Nat → Option Nat} {N : Nat}
theorem BH {r r' : Nat} (h : ρ r = some r') : Fm loc ρ r = loc r' := by simp [Fm, h]
theorem JN {r : Nat} (h : ρ r = none) : Fm loc ρ r = Iv := by simp [Fm, h]
theorem Xe {M : Nat} {t k : K} {v : Value} (h : ckK M ρ t k = true) (hk : k.rel e N loc v) : t.rel e M (Fm loc ρ) v := by
 unfold ckK at h
 split at h
 ·exact ⟨trivial, hk.2.1, .inl rfl⟩
 ·simp only [Bool.and_eq_true] at h
  rw [BD h.1, L.Af h.2]; exact ⟨trivial, hk.2.1, .inr (hk.2.2.resolve_left (by simp))⟩
 ·rw [L.Af h]; exact ⟨trivial, hk.2.1, .inr (hk.2.2.resolve_left (by simp))⟩
 ·rw [L.Af h]; exact ⟨trivial, hk.2.1, .inr (hk.2.2.resolve_left (by simp))⟩
 ·rw [L.Af h]; exact ⟨trivial, hk.2.1, .inr (hk.2.2.resolve_left (by simp))⟩
 ·simp only [Bool.and_eq_true, decide_eq_true_eq, beq_iff_eq] at h
  obtain ⟨⟨h0, h1⟩, h2⟩ := h
  subst h2
  obtain ⟨a1, a2, a3⟩ := hk
  refine ⟨h0, a2, .inr ?_⟩
  rcases a3 with a3 | a3
  ·cases a3
  ·rw [a3]; simp only [K.Bl]; rw [BH h1]
 ·simp only [Bool.and_eq_true, decide_eq_true_eq, beq_iff_eq] at h
  obtain ⟨⟨⟨⟨⟨h0, h1⟩, h2⟩, h3⟩, h4⟩, h5⟩ := h
  have h5 := L.Af h5
  subst h2 h3 h4 h5
  obtain ⟨a1, a2, a3⟩ := hk
  refine ⟨⟨h0, a1.2⟩, a2, .inr ?_⟩
  rcases a3 with a3 | a3
  ·cases a3
  ·rw [a3]; simp only [K.Bl]; rw [BH h1]
 ·simp only [Bool.and_eq_true, decide_eq_true_eq, beq_iff_eq] at h
  obtain ⟨⟨⟨h0, h1⟩, h2⟩, h3⟩ := h
  subst h2 h3
  obtain ⟨a1, a2, a3⟩ := hk
  refine ⟨h0, a2, .inr ?_⟩
  rcases a3 with a3 | a3
  ·cases a3
  ·rw [a3]; simp only [K.Bl]; rw [BH h1]
 ·simp only [Bool.and_eq_true, decide_eq_true_eq, beq_iff_eq] at h
  obtain ⟨⟨⟨⟨⟨h0, h1⟩, h2⟩, h3⟩, h4⟩, h5⟩ := h
  subst h2 h3 h4 h5
  obtain ⟨a1, a2, a3⟩ := hk
  refine ⟨h0, a2, .inr ?_⟩
  rcases a3 with a3 | a3
  ·cases a3
  ·rw [a3]; simp only [K.Bl]; rw [BH h1]
 ·simp only [Bool.and_eq_true, decide_eq_true_eq] at h
  obtain ⟨⟨h0, h1⟩, h2⟩ := h
  have h2 := L.Af h2
  subst h2
  obtain ⟨a1, a2, a3⟩ := hk
  refine ⟨⟨h0, a1.2.1, by rw [BH h1]; exact a1.2.2⟩, a2, .inr ?_⟩
  rcases a3 with a3 | a3
  ·cases a3
  ·rw [a3]; simp only [K.Bl]; rw [BH h1]
 ·simp only [Bool.and_eq_true, decide_eq_true_eq] at h
  obtain ⟨⟨h0, h1⟩, h2⟩ := h
  have h2 := L.Af h2
  subst h2
  obtain ⟨a1, a2, a3⟩ := hk
  refine ⟨⟨h0, by simp, fun _ => ⟨by rw [JN h1]; rfl, by simp⟩⟩, a2, .inr ?_⟩
  rcases a3 with a3 | a3
  ·cases a3
  ·rw [a3]; simp only [K.Bl]; rw [JN h1]; rfl
 ·simp only [Bool.and_eq_true, decide_eq_true_eq] at h
  obtain ⟨⟨h0, h1⟩, h2⟩ := h
  have h2 := L.Af h2
  subst h2
  obtain ⟨a1, a2, a3⟩ := hk
  refine ⟨⟨h0, a1.2.1, by rw [BH h1]; exact a1.2.2⟩, a2, .inr ?_⟩
  rcases a3 with a3 | a3
  ·cases a3
  ·rw [a3]; simp only [K.Bl]; rw [BH h1]
 ·simp only [Bool.and_eq_true, decide_eq_true_eq, beq_iff_eq] at h
  obtain ⟨⟨⟨⟨⟨h0, h1⟩, h2⟩, h3⟩, h4⟩, h5⟩ := h
  have h4 := L.Af h4
  have h5 := L.Af h5
  subst h2 h3 h4 h5
  obtain ⟨a1, a2, a3⟩ := hk
  refine ⟨⟨h0, a1.2⟩, a2, .inr ?_⟩
  rcases a3 with a3 | a3
  ·cases a3
  ·rw [a3]; simp only [K.Bl]; rw [BH h1]
 ·exact ⟨trivial, hk.2.1, .inr (hk.2.2.resolve_left (by simp))⟩
 ·exact ⟨trivial, hk.2.1, .inr (hk.2.2.resolve_left (by simp))⟩
 ·exact ⟨trivial, hk.2.1, .inr (hk.2.2.resolve_left (by simp))⟩
 ·cases h
theorem Pf {M : Nat} : ∀ {t k : List K} {vs : List Value}, C7 (ckK M ρ) t k = true → C8 e N loc k vs → C8 e M (Fm loc ρ) t vs
 | [], [], [], _, _ => trivial
 | _ :: _, _ :: _, _ :: _, h, hk => by
  simp only [C7, Bool.and_eq_true] at h
  exact ⟨Xe h.1 hk.1, Pf h.2 hk.2⟩
 | [], _ :: _, _, h, _ => by simp [C7] at h
 | _ :: _, [], _, h, _ => by simp [C7] at h
 | [], [], _ :: _, _, hk => hk.elim
 | _ :: _, _ :: _, [], _, hk => hk.elim
theorem SP {M : Nat} {t k : C} {v : Value} (h : ckC M ρ t k = true) (hk : k.rel e N loc v) : t.rel e M (Fm loc ρ) v := by
 unfold ckC at h
 split at h
 ·exact ⟨trivial, C.On hk, .inl rfl⟩
 ·exact Xe h hk
 ·simp only [Bool.and_eq_true, beq_iff_eq] at h
  obtain ⟨⟨h1, h2⟩, h3⟩ := h
  obtain ⟨va, vb, a1, a2, a3⟩ := hk
  exact ⟨va, vb, by rw [h1]; exact a1, Pf h2 a2, Pf h3 a3⟩
 ·cases h
theorem Pg {M : Nat} : ∀ {t k : List C} {vs : List Value}, C7 (ckC M ρ) t k = true → Aj e N loc k vs → Aj e M (Fm loc ρ) t vs
 | [], [], [], _, _ => trivial
 | _ :: _, _ :: _, _ :: _, h, hk => by
  simp only [C7, Bool.and_eq_true] at h
  exact ⟨SP h.1 hk.1, Pg h.2 hk.2⟩
 | [], _ :: _, _, h, _ => by simp [C7] at h
 | _ :: _, [], _, h, _ => by simp [C7] at h
 | [], [], _ :: _, _, hk => hk.elim
 | _ :: _, _ :: _, [], _, hk => hk.elim
theorem Ph {M : Nat} {t k : PV} {v : Value} (h : XG M ρ t k = true) (hk : k.rel e N loc v) : t.rel e M (Fm loc ρ) v := by
 unfold XG at h
 split at h
 ·exact SP h hk
 ·obtain ⟨vs, h1, h2⟩ := hk
  exact ⟨vs, h1, Pg h h2⟩
 ·cases h
theorem RH {M : Nat} : ∀ {t k : List PV} {vs : List Value}, C7 (XG M ρ) t k = true → AA e N loc k vs → AA e M (Fm loc ρ) t vs
 | [], [], [], _, _ => trivial
 | _ :: _, _ :: _, _ :: _, h, hk => by
  simp only [C7, Bool.and_eq_true] at h
  exact ⟨Ph h.1 hk.1, RH h.2 hk.2⟩
 | [], _ :: _, _, h, _ => by simp [C7] at h
 | _ :: _, [], _, h, _ => by simp [C7] at h
 | [], [], _ :: _, _, hk => hk.elim
 | _ :: _, _ :: _, [], _, hk => hk.elim
theorem ZO {M : Nat} {t k : SV} {v : Value} (h : AaP M ρ t k = true) (hk : k.rel e N loc v) : t.rel e M (Fm loc ρ) v := by
 unfold AaP at h
 split at h
 ·trivial
 ·exact hk
 ·exact Ph h hk
 ·obtain ⟨vs, h1, h2⟩ := hk
  exact ⟨vs, h1, RH h h2⟩
 ·simp only [Bool.and_eq_true] at h
  rw [MX h.1]
  exact ⟨fun hg => Ph h.2 (hk.1 hg), hk.2⟩
 ·cases h
theorem ZP {M : Nat} {t k : List SV} {tm : Array Value} (h : C7 (AaP M ρ) t k = true) (hk : Ax e N loc k tm) : Ax e M (Fm loc ρ) t tm := by
 obtain ⟨h1, h2⟩ := Ly h
 refine ⟨by rw [h1]; exact hk.len, fun i s v hs hv => ?_⟩
 obtain ⟨b, h3, h4⟩ := h2 i s hs
 exact ZO h4 (hk.at_ i b v h3 hv)
theorem Kg : ∀ {l : List Row} {b i x : Nat} {t : Row}, l[i]? = some t → t.owned = true → ρ (b + i) = some x → x ∈ Cx ρ b l
 | y :: l, b, i, x, t, h, ho, hx => by
  cases i with
  | zero =>
   simp only [List.getElem?_cons_zero, Option.some.injEq] at h
   subst h
   unfold Cx
   rw [Nat.add_zero] at hx
   rw [if_pos ho, hx]
   exact List.mem_cons_self ..
  | succ i =>
   have := Kg (l := l) (b := b + 1) (i := i) (by simpa using h) ho (by rw [← hx]; congr 1; omega)
   unfold Cx
   split
   ·cases ρ b with
    | some z => exact List.mem_cons_of_mem _ this
    | none => exact this
   ·exact this
theorem Lz {l : List Row} {b i j x y : Nat} {t u : Row} (hn : KF (Cx ρ b l) = true) (hij : i < j) (ht : l[i]? = some t) (hu : l[j]? = some u) (ot : t.owned = true) (ou : u.owned = true) (hx : ρ (b + i) = some x) (hy : ρ (b + j) = some y) : x ≠ y := by
 induction l generalizing b i j with
 | nil => simp at ht
 | cons z l ih =>
  obtain ⟨j, rfl⟩ : ∃ j', j = j' + 1 := ⟨j - 1, by omega⟩
  have hu' : l[j]? = some u := by simpa using hu
  have hy' : ρ (b + 1 + j) = some y := by rw [← hy]; congr 1; omega
  unfold Cx at hn
  cases i with
  | zero =>
   simp only [List.getElem?_cons_zero, Option.some.injEq] at ht
   subst ht
   rw [Nat.add_zero] at hx
   rw [if_pos ot, hx] at hn
   simp only [Sp, KF, Bool.and_eq_true, List.all_eq_true, bne_iff_ne, ne_eq] at hn
   exact hn.1 y (Kg hu' ou hy')
  | succ i =>
   have hn' : KF (Cx ρ (b + 1) l) = true := by
    split at hn
    ·cases hb : ρ b with
     | some z' =>
      rw [hb] at hn
      simp only [Sp, KF, Bool.and_eq_true] at hn
      exact hn.2
     | none => rw [hb] at hn; exact hn
    ·exact hn
   exact ih (i := i) (j := j) hn' (by omega) (by simpa using ht) hu' (by rw [← hx]; congr 1; omega) hy'
theorem LA {M : Nat} {rows : List Row} : ∀ {l : List Row} {b i : Nat} {t : Row}, Ig M ρ rows b l = true → l[i]? = some t → Sn M ρ rows (b + i) t = true
 | y :: l, b, i, t, h, ht => by
  simp only [Ig, Bool.and_eq_true] at h
  cases i with
  | zero => simp at ht; subst ht; exact h.1
  | succ i =>
   have := LA h.2 (i := i) (by simpa using ht)
   rwa [show b + 1 + i = b + (i + 1) by omega] at this
theorem XR {w : World} {B : Bd} {rows tr : List Row} (hck : Ig tr.length ρ rows 0 tr = true) (hnd : KF (Cx ρ 0 tr) = true) (h : Ad e loc rows w B) : Ad e (Fm loc ρ) tr w B := by
 have cases_ : ∀ (r : Nat) (t : Row), tr[r]? = some t → t.Sm = true ∨ (∃ r' s, ρ r = some r' ∧ rows[r']? = some s ∧ WX tr.length ρ t s = true) ∨ (ρ r = none ∧ Om t = true) := fun r t ht => by
  have := LA hck ht
  rw [Nat.zero_add] at this
  unfold Sn at this
  rw [Bool.or_eq_true] at this
  rcases this with h1 | h1
  ·exact .inl h1
  ·cases hr : ρ r with
   | none => rw [hr] at h1; exact .inr (.inr ⟨rfl, h1⟩)
   | some r' =>
    rw [hr] at h1
    simp only at h1
    cases hs : rows[r']? with
    | none => rw [hs] at h1; cases h1
    | some s => rw [hs] at h1; exact .inr (.inl ⟨r', s, rfl, hs, h1⟩)
 have dead_ : ∀ {t : Row}, t.Sm = true → t.own = false ∧ t.cells = [] ∧ t.lst = none := fun {t} ht => by
  simp only [Row.Sm, Bool.and_eq_true, Bool.not_eq_true', List.isEmpty_iff, Option.isNone_iff_eq_none] at ht
  exact ⟨ht.1.1, ht.1.2, ht.2⟩
 have empty_ : ∀ {t : Row}, Om t = true → t.own = false ∧ t.cells = [] ∧ ∃ q, t.lst = some q ∧ q.own = true ∧ q.x = .e ∧ q.n = .n 0 ∧ q.ss.length ≠ 0 := fun {t} ht => by
  unfold Om at ht
  simp only [Bool.and_eq_true, Bool.not_eq_true', List.isEmpty_iff] at ht
  obtain ⟨⟨h1, h2⟩, h3⟩ := ht
  cases hq : t.lst with
  | none => rw [hq] at h3; cases h3
  | some q =>
   rw [hq] at h3
   simp only [Bool.and_eq_true, bne_iff_ne, ne_eq] at h3
   obtain ⟨⟨⟨a1, a2⟩, a3⟩, a4⟩ := h3
   exact ⟨h1, h2, q, rfl, a1, L.Af a2, L.Af a3, a4⟩
 have row_ : ∀ {t s : Row}, WX tr.length ρ t s = true → t.own = s.own ∧ t.ty = s.ty ∧ t.es = s.es ∧ C7 (ckC tr.length ρ) t.cells s.cells = true ∧ t.lst = s.lst := fun {t s} ht => by
  unfold WX at ht
  simp only [Bool.and_eq_true, beq_iff_eq] at ht
  obtain ⟨⟨⟨⟨a1, a2⟩, a3⟩, a4⟩, a5⟩ := ht
  exact ⟨a1, a2, a3, a4, Pb a5⟩
 have own_ : ∀ (r : Nat) (t : Row), tr[r]? = some t → t.own = true ∨ B6 (Fm loc ρ) r t → t.owned = true ∧ ∃ r' s, ρ r = some r' ∧ rows[r']? = some s ∧ Fm loc ρ r = loc r' ∧ (t.own = true → s.own = true) ∧ (B6 (Fm loc ρ) r t → B6 loc r' s) := fun r t ht ho => by
  rcases cases_ r t ht with h1 | ⟨r', s, h1, h2, h3⟩ | ⟨h1, h2⟩
  ·obtain ⟨d1, d2, d3⟩ := dead_ h1
   rcases ho with ho | ⟨q, ho, _⟩
   ·rw [d1] at ho; cases ho
   ·rw [d3] at ho; cases ho
  ·obtain ⟨a1, a2, a3, a4, a5⟩ := row_ h3
   have hl := BH (loc := loc) h1
   refine ⟨?_, r', s, h1, h2, hl, fun h => by rw [← a1]; exact h, fun ⟨q, q1, q2, q3⟩ => ⟨q, by rw [← a5]; exact q1, q2, by rw [← hl]; exact q3⟩⟩
   unfold Row.owned
   rcases ho with ho | ⟨q, q1, q2, _⟩
   ·rw [ho]; rfl
   ·rw [q1, Bool.or_eq_true]; exact .inr q2
  ·obtain ⟨d1, d2, q, q1, q2, _⟩ := empty_ h2
   rcases ho with ho | ⟨q', _, _, q3⟩
   ·rw [d1] at ho; cases ho
   ·rw [JN h1] at q3; cases q3
 have diff_ : ∀ (r s : Nat) (t u : Row) (r' s' : Nat), tr[r]? = some t → tr[s]? = some u → t.owned = true → u.owned = true → ρ r = some r' → ρ s = some s' → r ≠ s → r' ≠ s' := fun r s t u r' s' ht hu ot ou hr hs hne => by
  rcases Nat.lt_or_gt_of_ne hne with h1 | h1
  ·exact Lz hnd h1 ht hu ot ou (by rw [Nat.zero_add]; exact hr) (by rw [Nat.zero_add]; exact hs)
  ·exact (Lz hnd h1 hu ht ou ot (by rw [Nat.zero_add]; exact hs) (by rw [Nat.zero_add]; exact hr)).symm
 refine ⟨fun r t ht => ?_, fun r t q ht hq => ?_, fun r s t u ht hu ot ou => ?_, fun r s t u ht hu ot ou hne => ?_⟩
 ·rcases cases_ r t ht with h1 | ⟨r', s, h1, h2, h3⟩ | ⟨h1, h2⟩
  ·obtain ⟨d1, d2, d3⟩ := dead_ h1
   unfold AH
   rw [if_neg (by simp [d1])]
   exact fun hc => absurd d2 hc
  ·obtain ⟨a1, a2, a3, a4, a5⟩ := row_ h3
   have hrow := h.row r' s h2
   unfold AH at hrow ⊢
   rw [BH h1, a1, a2, a3]
   split
   ·rename_i ho
    rw [if_pos ho] at hrow
    obtain ⟨b1, b2, b3, b4, vs, sp, b5, b6, b7⟩ := hrow
    exact ⟨b1, b2, b3, b4, vs, sp, b5, Pg a4 b6, b7⟩
   ·rename_i ho
    rw [if_neg ho] at hrow
    intro hc
    obtain ⟨l1, l2⟩ := Ly a4
    obtain ⟨b1, b2, b3⟩ := hrow (fun h0 => hc (List.eq_nil_of_length_eq_zero (by rw [l1, h0]; rfl)))
    refine ⟨b1, b2, fun j c hj => ?_⟩
    obtain ⟨c', hc', hcc⟩ := l2 j c hj
    obtain ⟨v, hv, hr⟩ := b3 j c' hc'
    exact ⟨v, hv, SP hcc hr⟩
  ·obtain ⟨d1, d2, _⟩ := empty_ h2
   unfold AH
   rw [if_neg (by simp [d1])]
   exact fun hc => absurd d2 hc
 ·rcases cases_ r t ht with h1 | ⟨r', s, h1, h2, h3⟩ | ⟨h1, h2⟩
  ·rw [(dead_ h1).2.2] at hq; cases hq
  ·obtain ⟨a1, a2, a3, a4, a5⟩ := row_ h3
   rw [a5] at hq
   obtain ⟨k1, k2⟩ := h.lst r' s q h2 hq
   exact ⟨by rw [a1]; exact k1, k2.at_ (BH h1)⟩
  ·obtain ⟨d1, d2, q', q1, q2, q3, q4, q5⟩ := empty_ h2
   rw [q1] at hq
   injection hq with hq
   subst hq
   refine ⟨d1, [], 0, by rw [q3]; rfl, by simp, by rw [q4]; rfl, by omega, ?_⟩
   rw [if_pos q2, JN h1]
   rw [if_pos (show Iv.emp = true from rfl)]
   exact ⟨rfl, rfl⟩
 ·obtain ⟨o1, r', x, r1, r2, r3, r4, r5⟩ := own_ r t ht (.inr ot)
  have hou : u.own = true ∨ B6 (Fm loc ρ) s u := by
   rcases ou with ou | ou
   ·exact .inl ou
   ·exact .inr ou.1
  obtain ⟨p1, s', y, s1, s2, s3, s4, s5⟩ := own_ s u hu hou
  rw [r3, s3]
  refine h.lapart r' s' x y r2 s2 (r5 ot) ?_
  rcases ou with ou | ⟨ou, hne⟩
  ·exact .inl (s4 ou)
  ·exact .inr ⟨s5 ou, diff_ r s t u r' s' ht hu o1 p1 r1 s1 hne⟩
 ·obtain ⟨o1, r', x, r1, r2, r3, r4, r5⟩ := own_ r t ht (.inl ot)
  obtain ⟨p1, s', y, s1, s2, s3, s4, s5⟩ := own_ s u hu (.inl ou)
  rw [r3, s3]
  exact h.apart r' s' x y r2 s2 (r4 ot) (s4 ou) (diff_ r s t u r' s' ht hu o1 p1 r1 s1 hne)
theorem Fo {m : Nat} {t s : St} (h : XH ρ m t s = true) : m ≤ s.rows.length ∧ m ≤ t.rows.length ∧ AO m loc (Fm loc ρ) ∧
  (∀ tm, Ax e s.rows.length loc s.fr tm → Ax e t.rows.length (Fm loc ρ) t.fr tm) ∧ ∀ w, Bn e w0 loc s.rows w → Bn e w0 (Fm loc ρ) t.rows w := by
 unfold XH at h
 simp only [Bool.and_eq_true, decide_eq_true_eq] at h
 obtain ⟨⟨⟨⟨⟨h1, h2⟩, h3⟩, h4⟩, h5⟩, h6⟩ := h
 refine ⟨h5, h6, fun r hr => ?_, fun tm hf => ZP h1 hf, fun w hc => by obtain ⟨B, hB, hR, hbel⟩ := hc; exact ⟨B, hB, XR h2 h3 hR, hbel⟩⟩
 unfold Zk at h4
 rw [List.all_eq_true] at h4
 exact BH (by simpa using h4 r (by simpa using hr))
end
end Rx
namespace Rx
open Go Go.RowKit
def Pj (bs : Nat) (n m : Nd) : Prop :=
 m.listed = n.listed ∧ m.g = n.g ∧ (bs ≤ n.rows.length → bs ≤ m.rows.length) ∧ ∀ (e : Nat → A) (w0 : W0) (loc : Loc) (tm : Array Value) (w : World), Ax e n.rows.length loc n.fr tm → Bn e w0 loc n.rows w →
  ∃ loc', AO bs loc loc' ∧ Ax e m.rows.length loc' m.fr tm ∧ Bn e w0 loc' m.rows w
theorem Pj.refl (bs : Nat) (n : Nd) : Pj bs n n := ⟨rfl, rfl, id, fun e w0 loc tm w hf hc => ⟨loc, AO.refl _ _, hf, hc⟩⟩
theorem ZQ {bs : Nat} {m n : Nd} (hl : m.listed = n.listed) (h : m.fits bs n = true) : Pj bs n m := by
 simp only [Nd.fits, Bool.and_eq_true, beq_iff_eq] at h
 obtain ⟨⟨⟨⟨h1, h2⟩, h3⟩, h4⟩, h5⟩ := h
 have hg : m.g = n.g := by
  obtain ⟨_, _, _, a, b, c, d⟩ := m
  obtain ⟨_, _, _, a', b', c', d'⟩ := n
  simp only at h1 h2 h3 h4
  rw [h1, FP h2, L.Dc h3, EP h4]
 refine ⟨hl, hg, fun _ => ?_, fun e w0 loc tm w hf hc => ?_⟩
 ·exact (Fo (e := fun _ => .i 0) (loc := fun _ => default) (w0 := default) h5).2.1
 ·obtain ⟨k1, k2, k3, k4, k5⟩ := Fo (e := e) (loc := loc) (w0 := w0) h5
  exact ⟨_, k3, k4 tm hf, k5 w hc⟩
theorem RI {bs : Nat} {n : Nd} : ∀ {l r : List Nd}, Th bs n l = some r → (∃ m ∈ r, Pj bs n m) ∧ ∀ m ∈ l, m ∈ r
 | [], r, h => by
  simp only [Th, Option.some.injEq] at h
  subst h
  exact ⟨⟨n, by simp, .refl _ _⟩, fun m hm => by cases hm⟩
 | m :: l, r, h => by
  simp only [Th] at h
  split at h
  ·rename_i hb
   split at h
   ·rename_i hs
    injection h with h
    subst h
    refine ⟨⟨m, by simp, ?_⟩, fun x hx => hx⟩
    rw [Bool.or_eq_true] at hs
    rcases hs with hs | hs
    ·rw [← Nd.Af (Ha hb) hs]; exact .refl _ _
    ·exact ZQ (Ha hb) hs
   ·cases h
  ·simp only [Option.bind_eq_bind, Option.bind_eq_some_iff, Option.some.injEq] at h
   obtain ⟨r', hr, rfl⟩ := h
   obtain ⟨⟨x, hx, h1⟩, h2⟩ := RI hr
   exact ⟨⟨x, by simp [hx], h1⟩, fun x hx => by
    rcases List.mem_cons.1 hx with rfl | hx
    ·simp
    ·simp [h2 x hx]⟩
theorem Pk {bs : Nat} : ∀ {ns l r : List Nd}, OJ bs ns l = some r → (∀ m ∈ ns, ∃ m' ∈ r, Pj bs m m') ∧ ∀ m ∈ l, m ∈ r
 | [], l, r, h => by
  simp only [OJ, Option.some.injEq] at h
  subst h
  exact ⟨fun m hm => (by cases hm), fun m hm => hm⟩
 | n :: ns, l, r, h => by
  simp only [OJ, Option.bind_eq_bind, Option.bind_eq_some_iff] at h
  obtain ⟨l', h1, h2⟩ := h
  obtain ⟨⟨x, hx, a1⟩, a2⟩ := RI h1
  obtain ⟨b1, b2⟩ := Pk h2
  exact ⟨fun m hm => by
   rcases List.mem_cons.1 hm with rfl | hm
   ·exact ⟨x, b2 _ hx, a1⟩
   ·exact b1 m hm, fun m hm => b2 _ (a2 m hm)⟩
theorem NL {X : Ctx} {inl : Inline} {ops : List Oper} {pc : L} {bs : Nat} : ∀ {l out r : List Nd}, Li X inl ops pc bs l out = some r → (∀ nd ∈ l, ∃ ns, Zp X inl ops pc nd = some ns ∧ ∀ m ∈ ns, ∃ m' ∈ r, Pj bs m m') ∧ ∀ m ∈ out, m ∈ r
 | [], out, r, h => by
  simp only [Li, Option.some.injEq] at h
  subst h
  exact ⟨fun nd hnd => (by cases hnd), fun m hm => hm⟩
 | nd :: l, out, r, h => by
  simp only [Li, Option.bind_eq_bind, Option.bind_eq_some_iff] at h
  obtain ⟨ns, h1, out', h2, h3⟩ := h
  obtain ⟨a1, a2⟩ := Pk h2
  obtain ⟨b1, b2⟩ := NL h3
  exact ⟨fun x hx => by
   rcases List.mem_cons.1 hx with rfl | hx
   ·exact ⟨ns, h1, fun m hm => by
     obtain ⟨m', h4, h5⟩ := a1 m hm
     exact ⟨m', b2 _ h4, h5⟩⟩
   ·exact b1 x hx, fun m hm => b2 _ (a2 m hm)⟩
end Rx
namespace Rx
open Go Go.RowKit
section
variable {T : Nat → List A → Bool × List A} {e : Nat → A} {n n' : Nat} {loc loc' : Loc} {P : Program} {X : Ctx} {w0 : W0}
variable {fr : List SV} {rows : List Row} {gs : List (L × Bool)} {pc : L} {o : Oper} {g : G} {inl : Inline}
theorem Oper.Aa1 {K : Act → World → Prop} {Q : Exit → Act → World → Prop} {a : Act} {w : World} (h : o.wp P a w K (Exit.then K Q)) : o.wp P a w K Q := by
 unfold Oper.wp at *
 generalize (Go.execOp a.eval o).run P w = r at *
 cases r with
 | ok n w' =>
  cases n <;> simp only [Oper.upon] at h ⊢ <;> first | exact h | exact Calls.mono h (fun e w'' he => by cases e <;> exact he)
 | halt x w' => cases x <;> simp only [Oper.upon] at h ⊢ <;> exact h
theorem QP (hX : XOK P T X) (hI : HC P T e w0 inl) {ops : List Oper} {nd nd' : Nd} {i : Nat} (h : EI X inl ops pc nd i = some nd') (hg : Good T e nd'.g) :
  nd'.listed = nd.listed.set i true ∧ Good T e nd.g ∧ ∀ (loc : Loc) (a : Act) (w : World) (K : Act → World → Prop) (Q : Exit → Act → World → Prop), (pc.ev e).bool = true → Ax e nd.rows.length loc nd.fr a.tmps → Bn e w0 loc nd.rows w →
   (∀ (loc' : Loc) (a' : Act) (w' : World), AO nd.rows.length loc loc' → nd.rows.length ≤ nd'.rows.length → Ax e nd'.rows.length loc' nd'.fr a'.tmps → a'.defers = a.defers → Bn e w0 loc' nd'.rows w' → K a' w') → wpOp P ops.toArray Q i K a w := by
 simp only [EI, Option.bind_eq_bind, Option.bind_eq_some_iff] at h
 obtain ⟨o, ho, ⟨fr1, rows1, g1⟩, hex, h⟩ := h
 simp only at h
 split at h
 case isFalse => cases h
 injection h with h
 subst h
 obtain ⟨k1, k2⟩ := BB hX hI hex hg
 refine ⟨rfl, k1, fun loc a w K Q hpc hf hw hK => ?_⟩
 have := k2 loc a w (Exit.then K Q) hpc hf hw hK
 unfold wpOp
 have ho' : ops.toArray[i]? = some o := by simpa using ho
 rw [ho']
 simp only
 unfold wpList at this
 split
 ·rename_i hwt
  rw [if_pos hwt] at this
  rcases this with h1 | h1
  ·exact .inl (Oper.Aa1 h1)
  ·exact .inr h1
 ·rename_i hwt
  rw [if_neg hwt] at this
  exact this
theorem NM {ops : List Oper} {nd nd' : Nd} {i : Nat} (h : EI X inl ops pc nd i = some nd') : nd.rows.length ≤ nd'.rows.length := by
 simp only [EI, Option.bind_eq_bind, Option.bind_eq_some_iff] at h
 obtain ⟨o, ho, ⟨fr1, rows1, g1⟩, hex, h⟩ := h
 simp only at h
 split at h
 ·rename_i hle
  injection h with h
  subst h
  exact hle
 ·cases h
theorem Pl {ops : List Oper} {nd nd' : Nd} {i : Nat} (h : EI X inl ops pc nd i = some nd') (ho : ops[i]? = some o) (hg : o.guard = none) (hf : ∀ l, KD nd.fr [] nd.rows o ≠ some l) :
  ∃ g1, ∃ r, execOp X inl nd.fr nd.rows [] (AW pc [] nd.g).1 o g1 = some r := by
 simp only [EI, Option.bind_eq_bind, Option.bind_eq_some_iff] at h
 obtain ⟨o', ho', ⟨fr1, rows1, g1⟩, hex, h⟩ := h
 rw [ho] at ho'
 injection ho' with ho'
 subst ho'
 simp only [BW, Oj, hg, Option.bind_eq_bind, Option.bind_some, Option.bind_eq_some_iff] at hex
 obtain ⟨⟨v, r, g2⟩, hop, _⟩ := hex
 unfold Jw at hop
 split at hop
 ·rename_i r' h'
  exact ⟨_, r', h'⟩
 ·split at hop
  ·cases hop
  ·rename_i l hl
   exact absurd hl (hf l)
theorem TP {α β : Type} {f : α → Option β} : ∀ {l : List α} {r : List β}, AaQ f l = some r → ∀ a ∈ l, ∃ b ∈ r, f a = some b
 | [], r, _, a, ha => by cases ha
 | x :: l, r, h, a, ha => by
  simp only [AaQ, Option.bind_eq_bind, Option.bind_eq_some_iff, Option.some.injEq] at h
  obtain ⟨b, hb, r', hr, rfl⟩ := h
  rcases List.mem_cons.1 ha with rfl | ha
  ·exact ⟨b, by simp, hb⟩
  ·obtain ⟨b', h1, h2⟩ := TP hr a ha
   exact ⟨b', by simp [h1], h2⟩
theorem Kh (hX : XOK P T X) (hI : HC P T e w0 inl) {ops : List Oper} {bs : Nat} (hns : Region.noSelect ops.toArray = true) {E : Nd} (hE : Region.ready .any ops.toArray E.listed.toArray = []) (hg : Good T e E.g) :
  ∀ (k : Nat) (l : List Nd), explore X inl ops pc bs k l = some [E] → ∀ nd ∈ l, Good T e nd.g ∧
   (bs ≤ nd.rows.length → bs ≤ E.rows.length ∧ ∀ (loc : Loc) (a : Act) (w : World) (Q : Exit → Act → World → Prop), (pc.ev e).bool = true → Ax e nd.rows.length loc nd.fr a.tmps → Bn e w0 loc nd.rows w →
    (∀ c a w, ¬ Q (.panic c) a w) → ¬ LetsOut Q →
    (∀ (loc' : Loc) (a' : Act) (w' : World), AO bs loc loc' → Ax e E.rows.length loc' E.fr a'.tmps → a'.defers = a.defers → Bn e w0 loc' E.rows w' → Q .normal a' w') →
     wpAny P .any ops.toArray Q k nd.listed.toArray a w)
 | 0, l, h, nd, hnd => by
  simp only [explore, Option.some.injEq] at h
  subst h
  simp only [List.mem_singleton] at hnd
  subst hnd
  exact ⟨hg, fun hb => ⟨hb, fun loc a w Q hpc hf hw _ _ hQ => ⟨hE, hQ loc a w (AO.refl _ _) hf rfl hw⟩⟩⟩
 | k + 1, l, h, nd, hnd => by
  simp only [explore, Option.bind_eq_bind, Option.bind_eq_some_iff] at h
  obtain ⟨l', h1, h2⟩ := h
  obtain ⟨ns, hs, hmem⟩ := (NL h1).1 nd hnd
  have ih := Kh hX hI hns hE hg k l' h2
  have hset : ∀ i, (nd.listed.set i true).toArray = nd.listed.toArray.setIfInBounds i true := fun i => by simp
  have step : ∀ i n, EI X inl ops pc nd i = some n → (∃ m' ∈ l', Pj bs n m') → Good T e nd.g ∧ (bs ≤ nd.rows.length → nd.rows.length ≤ n.rows.length → bs ≤ E.rows.length) ∧ ∀ (loc : Loc) (a : Act) (w : World) (Q : Exit → Act → World → Prop), bs ≤ nd.rows.length → (pc.ev e).bool = true → Ax e nd.rows.length loc nd.fr a.tmps → Bn e w0 loc nd.rows w →
    (∀ c a w, ¬ Q (.panic c) a w) → ¬ LetsOut Q →
    (∀ (loc' : Loc) (a' : Act) (w' : World), AO bs loc loc' → Ax e E.rows.length loc' E.fr a'.tmps → a'.defers = a.defers → Bn e w0 loc' E.rows w' → Q .normal a' w') →
     wpOp P ops.toArray Q i (wpAny P .any ops.toArray Q k (nd.listed.toArray.setIfInBounds i true)) a w := fun i n hn ⟨m, hm, r1, r2, r3, r4⟩ => by
   obtain ⟨i1, i2⟩ := ih m hm
   rw [r2] at i1
   obtain ⟨s1, s2, s3⟩ := QP hX hI hn i1
   refine ⟨s2, fun hb hle => (i2 (r3 (Nat.le_trans hb hle))).1, fun loc a w Q hb hpc hf hw hp ho hQ => s3 loc a w _ Q hpc hf hw fun loc1 a1 w1 q1 q2 q3 q4 q5 => ?_⟩
   obtain ⟨loc2, z1, z2, z3⟩ := r4 e w0 loc1 a1.tmps w1 q3 q5
   have := (i2 (r3 (Nat.le_trans hb q2))).2 loc2 a1 w1 Q hpc z2 z3 hp ho fun loc' a' w' y1 y3 y4 y5 => hQ loc' a' w' (fun r hr => ((z1.trans y1 (Nat.le_refl _)) r hr).trans (q1 r (Nat.lt_of_lt_of_le hr hb))) y3 (y4.trans q4) y5
   rw [r1, s1, hset] at this
   exact this
  unfold Zp at hs
  simp only at hs
  split at hs
  ·rename_i i hfind
   simp only [Option.bind_eq_bind, Option.bind_eq_some_iff, Option.some.injEq] at hs
   obtain ⟨n, hn, rfl⟩ := hs
   obtain ⟨s1, s0, s2⟩ := step i n hn (hmem n (by simp))
   have hready := List.mem_of_find?_eq_some hfind
   have hpure := List.find?_some hfind
   have hlen : nd.rows.length ≤ n.rows.length := NM hn
   refine ⟨s1, fun hb => ⟨s0 hb hlen, fun loc a w Q hpc hf hw hp ho hQ => ?_⟩⟩
   have hop := s2 loc a w Q hb hpc hf hw hp ho hQ
   unfold Zo at hpure
   split at hpure
   ·rename_i o hoi
    have hoi' : ops.toArray[i]? = some o := by simpa using hoi
    have key : (Region.wanted o (yielded ops.toArray a.tmps) = true → ∃ v, ∀ w, (Go.execOp a.eval o).run P w = .ok (.value v) w) → Region.free .any ops.toArray nd.listed.toArray i = true → wpAny P .any ops.toArray Q (k + 1) nd.listed.toArray a w := fun hx hfree => by
     unfold wpOp at hop
     rw [hoi'] at hop
     simp only at hop
     by_cases hwt : Region.wanted o (yielded ops.toArray a.tmps) = true
     ·obtain ⟨v, hrun⟩ := hx hwt
      rw [if_pos hwt] at hop
      refine wpAny_take hoi' hns hfree (by simpa using hready) (fun c a w h0 => absurd h0 (hp _ _ _)) (v := v) (.inl ⟨hwt, hrun⟩) ?_
      rcases hop with h1 | h1
      ·unfold Oper.wp at h1
       rw [hrun] at h1
       exact h1
      ·exact absurd h1.2 ho
     ·rw [if_neg hwt] at hop
      exact wpAny_take hoi' hns hfree (by simpa using hready) (fun c a w h0 => absurd h0 (hp _ _ _)) (v := undef) (.inr ⟨by simpa using hwt, rfl⟩) hop
    split at hpure
    ·rename_i x hox
     exact key (fun _ => ⟨a.eval x, fun w => by simp [Go.execOp, hox]⟩) hpure
    ·rename_i x hox
     exact key (fun _ => ⟨a.eval x, fun w => by simp [Go.execOp, hox]⟩) hpure
    ·rename_i hox
     simp only [Bool.and_eq_true, Option.isNone_iff_eq_none] at hpure
     obtain ⟨r, hr⟩ := Pl hn hoi hpure.1 (by intro l h0; unfold KD at h0; rw [hox] at h0; cases h0)
     exact key (fun _ => QE hX.Ay hox hr.choose_spec hf) hpure.2
    ·rename_i hox
     simp only [Bool.and_eq_true, Option.isNone_iff_eq_none] at hpure
     obtain ⟨r, hr⟩ := Pl hn hoi hpure.1.1.2 (by intro l h0; unfold KD at h0; rw [hox] at h0; cases h0)
     exact key (fun _ => QF hX.Ay hox hpure.1.1.1 hpure.1.2 hr.choose_spec hf) hpure.2
    ·cases hpure
   ·cases hpure
  ·split at hs
   ·cases hs
   ·rename_i hne
    have hne : Region.ready .any ops.toArray nd.listed.toArray ≠ [] := by simpa using hne
    have hall := TP hs
    obtain ⟨i0, hi0⟩ := List.exists_mem_of_ne_nil _ hne
    obtain ⟨n0, hn1, hn2⟩ := hall i0 hi0
    refine ⟨(step i0 n0 hn2 (hmem n0 hn1)).1, fun hb => ⟨(step i0 n0 hn2 (hmem n0 hn1)).2.1 hb (NM hn2), fun loc a w Q hpc hf hw hp ho hQ => ⟨fun h0 => absurd h0 hne, fun i hi => ?_⟩⟩⟩
    obtain ⟨n, hn1, hn2⟩ := hall i hi
    exact (step i n hn2 (hmem n hn1)).2.2 loc a w Q hb hpc hf hw hp ho hQ
theorem Iw (hX : XOK P T X) (hI : HC P T e w0 inl) {ops : List Oper} {S S' : St} {g g' : G} (h : Ti X inl ops S g = some (S', g')) (hg : Good T e g') :
  Good T e g ∧ S'.pc = S.pc ∧ ∀ (id : Nat) (loc : Loc) (a : Act) (w : World) (Q : Exit → Act → World → Prop), (S.pc.ev e).bool = true → Ax e S.rows.length loc S.fr a.tmps → Bn e w0 loc S.rows w →
   (∀ (loc' : Loc) (a' : Act) (w' : World), AO S.rows.length loc loc' → S.rows.length ≤ S'.rows.length → Ax e S'.rows.length loc' S'.fr a'.tmps → a'.defers = a.defers → Bn e w0 loc' S'.rows w' → Q .normal a' w') →
    (Code.region id ops.toArray true).wp P Q a w := by
 have drew : ∀ {loc : Loc} {rows : List Row} {w : World}, Bn e w0 loc rows w → Bn e w0 loc rows { w with drawn := w.drawn + 1 } := fun {loc rows w} hw =>
  hw.Ij ⟨rfl, rfl, rfl, Nat.le_refl _, fun _ _ => rfl⟩
 unfold Ti at h
 split at h
 ·rename_i hns
  split at h
  ·rename_i E hex
   split at h
   ·rename_i hE
    simp only [Option.some.injEq, Prod.mk.injEq] at h
    obtain ⟨rfl, rfl⟩ := h
    have hE : Region.ready .any ops.toArray E.listed.toArray = [] := by simpa using hE
    obtain ⟨k1, k2⟩ := Kh hX hI hns hE hg _ _ hex _ (List.mem_singleton.2 rfl)
    obtain ⟨k2, k3⟩ := k2 (Nat.le_refl _)
    refine ⟨k1, rfl, fun id loc a w Q hpc hf hw hQ => ?_⟩
    refine wp_mono (Q := fun e a w => match e with | .normal => Q .normal a w | _ => False) ?_ (fun e a w h0 => by cases e <;> first | exact h0 | exact h0.elim)
    refine wp_region_any hX.mixed ?_
    have := k3 loc a { w with drawn := w.drawn + 1 } (fun e a w => match e with | .normal => Q .normal a w | _ => False) hpc hf (drew hw) (fun _ _ _ h0 => h0) (fun ⟨_, _, h0⟩ => h0) (fun loc' a' w' y1 y2 y3 y4 => hQ loc' a' w' y1 k2 y2 y3 y4)
    simpa using this
   ·cases h
  ·cases h
 ·cases h
theorem Vv {k : ED} (h : R2 k = true) : k.holds T e := by
 obtain ⟨d, as, rs⟩ := k
 simp only [R2, Bool.and_eq_true, List.isEmpty_iff] at h
 obtain ⟨⟨h1, rfl⟩, rfl⟩ := h
 have := D.Af h1
 subst this
 rfl
theorem M0 (hX : XOK P T X) (hI : HC P T e w0 inl) {ops : List Oper} {draw : Bool} {S S' : St} {g g' : G} (h : KH X inl ops draw S g = some (S', g')) (hg : Good T e g') :
  Good T e g ∧ S'.pc = S.pc ∧ ∀ (id : Nat) (loc : Loc) (a : Act) (w : World) (Q : Exit → Act → World → Prop), (S.pc.ev e).bool = true → Ax e S.rows.length loc S.fr a.tmps → Bn e w0 loc S.rows w →
   (∀ (loc' : Loc) (a' : Act) (w' : World), AO S.rows.length loc loc' → S.rows.length ≤ S'.rows.length → Ax e S'.rows.length loc' S'.fr a'.tmps → a'.defers = a.defers → Bn e w0 loc' S'.rows w' → Q .normal a' w') →
    (Code.region id ops.toArray draw).wp P Q a w := by
 have drew : ∀ {loc : Loc} {rows : List Row} {w : World}, Bn e w0 loc rows w → Bn e w0 loc rows { w with drawn := w.drawn + 1 } := fun {loc rows w} hw =>
  hw.Ij ⟨rfl, rfl, rfl, Nat.le_refl _, fun _ _ => rfl⟩
 unfold KH at h
 split at h
 ·rename_i hd
  subst hd
  split at h
  ·rename_i r hq
   injection h with h
   subst h
   unfold WY at hq
   split at hq
   ·split at hq
    ·rename_i hB
     simp only [Option.bind_eq_bind, Option.bind_eq_some_iff] at hq
     obtain ⟨⟨fr1, rows1, g1⟩, h1, h⟩ := hq
     simp only [Option.some.injEq, Prod.mk.injEq] at h
     obtain ⟨rfl, rfl⟩ := h
     obtain ⟨k1, rfl, k3⟩ := D5 hX hI h1 hg
     refine ⟨k1, rfl, fun id loc a w Q hpc hf hw hQ => ?_⟩
     refine wp_region_quiet (C := Bn e w0 loc S.rows) hX.mixed hB (drew hw) ?_
     exact k3 loc a w _ hpc hf hw fun a' hf' hd w' hw' => hQ loc a' w' (AO.refl _ _) (Nat.le_refl _) hf' hd hw'
    ·cases hq
   ·cases hq
  ·split at h
   ·rename_i r hq
    injection h with h
    subst h
    unfold WZ at hq
    split at hq
    ·rename_i hB
     simp only [Option.bind_eq_bind, Option.bind_eq_some_iff] at hq
     obtain ⟨⟨fr1, rows1, g1⟩, h1, ⟨fr2, rows2, g2⟩, h2, h⟩ := hq
     simp only [Option.some.injEq, Prod.mk.injEq] at h
     obtain ⟨rfl, rfl⟩ := h
     obtain ⟨k1, k2⟩ := BB hX hI h2 hg
     obtain ⟨q1, rfl, q3⟩ := D5 hX hI h1 k1
     refine ⟨q1, rfl, fun id loc a w Q hpc hf hw hQ => ?_⟩
     refine NU (Cl := Bn e w0 loc S.rows) hX.mixed hB (drew hw) ?_
     exact q3 loc a w _ hpc hf hw fun a' hf' hd w' hw' => k2 loc a' w' Q hpc hf' hw' fun loc' a'' w'' hx hl hf'' hd' hw'' => hQ loc' a'' w'' hx hl hf'' (by rw [hd', hd]) hw''
    ·cases hq
   ·split at h
    ·rename_i r hq
     injection h with h
     subst h
     exact Iw hX hI hq hg
    ·split at h
     ·rename_i fr1 rows1 g1 h1
      split at h
      ·rename_i r hq
       injection h with h
       subst h
       obtain ⟨k1, k2⟩ := Iw hX hI hq hg
       exact ⟨(BB hX hI h1 k1).1, k2⟩
      ·unfold Zq at h
       split at h
       ·rename_i S2 g2 hq
        split at h
        ·rename_i k l hkl
         split at h
         ·rename_i hm
          simp only [Option.some.injEq, Prod.mk.injEq] at h
          obtain ⟨rfl, rfl⟩ := h
          have hg2 : Good T e g2 := ⟨hg.1, hg.2.1, fun x hx => by
           rw [hkl] at hx
           rcases List.mem_cons.1 hx with rfl | hx
           ·exact Vv hm
           ·exact hg.2.2 x hx⟩
          obtain ⟨k1, k2⟩ := Iw hX hI hq hg2
          exact ⟨(BB hX hI h1 ⟨k1.1, k1.2.1, fun x hx => k1.2.2 x (List.mem_cons_of_mem _ hx)⟩).1, k2⟩
         ·cases h
        ·cases h
       ·cases h
     ·cases h
 ·rename_i hd
  have hd : draw = false := by simpa using hd
  subst hd
  simp only [Option.bind_eq_bind, Option.bind_eq_some_iff] at h
  obtain ⟨⟨fr1, rows1, g1⟩, h1, h⟩ := h
  simp only [Option.some.injEq, Prod.mk.injEq] at h
  obtain ⟨rfl, rfl⟩ := h
  obtain ⟨k1, k2⟩ := BB hX hI h1 hg
  exact ⟨k1, rfl, fun id loc a w Q hpc hf hw hQ => wp_region_lit (k2 loc a w Q hpc hf hw hQ)⟩
end
end Rx
namespace Rx
open Go Go.RowKit
section
variable {T : Nat → List A → Bool × List A} {e : Nat → A} {n n' : Nat} {loc loc' : Loc} {P : Program} {X : Ctx} {w0 : W0}
theorem Gk.En {x y : Gk} : x.same y = true ↔ x = y := by
 cases x <;> cases y <;> simp [Gk.same]
theorem AG {x : Gk} {s : St} {l : Aq} : Aq.get x ((x, s) :: l) = some s := by
 simp [Aq.get, Gk.En]
theorem AY {x y : Gk} {s : St} {l : Aq} (h : x ≠ y) : Aq.get x ((y, s) :: l) = Aq.get x l := by
 have : x.same y = false := by
  cases hs : x.same y with
  | false => rfl
  | true => exact absurd (Gk.En.1 hs) h
 simp [Aq.get, this]
theorem A6 {x y : Gk} (h : x ≠ y) : ∀ {l : Aq}, Aq.get x (Aq.drop y l) = Aq.get x l
 | [] => rfl
 | (z, s) :: l => by
  unfold Aq.drop
  split
  ·rename_i hz
   have hz := Gk.En.1 hz
   subst hz
   rw [AY h, A6 h]
  ·by_cases hxz : x = z
   ·subst hxz
    rw [AG, AG]
   ·rw [AY hxz, AY hxz, A6 h]
theorem GG {x : Gk} : ∀ {l : Aq}, Aq.get x (Aq.drop x l) = none
 | [] => rfl
 | (z, s) :: l => by
  unfold Aq.drop
  split
  ·exact GG
  ·rename_i hz
   rw [AY (fun h0 => hz (Gk.En.2 h0)), GG]
theorem Aa2 {N r R : Nat} {k : K} {v : Value} (h : k.rel e N loc v) (hR : N ≤ R) : (mvK r R k).rel e (R + 1) (AN loc R (loc r)) v := by
 have hx : AO N loc (AN loc R (loc r)) := fun s hs => by simp [AN, Nat.ne_of_lt (Nat.lt_of_lt_of_le hs hR)]
 unfold mvK
 split
 ·rename_i r' m
  split
  ·rename_i hr
   have hr : r' = r := by simpa using hr
   subst hr
   obtain ⟨h1, h2, h3⟩ := h
   simp only [K.ok] at h1
   refine ⟨⟨by omega, h1.2.1, fun he => ?_⟩, h2, .inr ?_⟩
   ·rw [Ap] at he ⊢
    exact h1.2.2 he
   ·rcases h3 with h3 | h3
    ·cases h3
    ·rw [h3]
     simp only [K.Bl]
     rw [Ap]
  ·exact K.BU h hx (by omega)
 ·exact K.BU h hx (by omega)
theorem Xf {N r R : Nat} {k : C} {v : Value} (h : k.rel e N loc v) (hR : N ≤ R) : (mvC r R k).rel e (R + 1) (AN loc R (loc r)) v := by
 cases k with
 | k x => exact Aa2 h hR
 | clo f a b =>
  have hx : AO N loc (AN loc R (loc r)) := fun s hs => by simp [AN, Nat.ne_of_lt (Nat.lt_of_lt_of_le hs hR)]
  exact C.BU h hx (by omega)
 | cfn x f h' => exact h
theorem TQ {N r R : Nat} (hR : N ≤ R) : ∀ {l : List C} {vs : List Value}, Aj e N loc l vs → Aj e (R + 1) (AN loc R (loc r)) (l.map (mvC r R)) vs
 | [], [], _ => trivial
 | _ :: _, _ :: _, h => ⟨Xf h.1 hR, TQ hR h.2⟩
theorem Pm {N r R : Nat} {p : PV} {v : Value} (h : p.rel e N loc v) (hR : N ≤ R) : (Y8 r R p).rel e (R + 1) (AN loc R (loc r)) v := by
 cases p with
 | one c => exact Xf h hR
 | agg l => obtain ⟨vs, h1, h2⟩ := h; exact ⟨vs, h1, TQ hR h2⟩
theorem RJ {N r R : Nat} (hR : N ≤ R) : ∀ {l : List PV} {vs : List Value}, AA e N loc l vs → AA e (R + 1) (AN loc R (loc r)) (l.map (Y8 r R)) vs
 | [], [], _ => trivial
 | _ :: _, _ :: _, h => ⟨Pm h.1 hR, RJ hR h.2⟩
theorem ZR {N r R : Nat} {p : SV} {v : Value} (h : p.rel e N loc v) (hR : N ≤ R) : (Acp r R p).rel e (R + 1) (AN loc R (loc r)) v := by
 cases p with
 | pv p => exact Pm h hR
 | tup l => obtain ⟨vs, h1, h2⟩ := h; exact ⟨vs, h1, RJ hR h2⟩
 | cond gs p => exact ⟨fun hg => Pm (h.1 hg) hR, h.2⟩
 | undef => exact h
 | junk => trivial
theorem Gb {N : Nat} {k : C} : ∀ {l : List C} {vs : List Value} {j : Nat} {c : C}, l[j]? = some c → (∀ v, c.rel e N loc v → k.rel e N loc v) → Aj e N loc l vs → Aj e N loc (l.set j k) vs
 | [], _, _, _, h, _, _ => by simp at h
 | a :: l, [], _, _, _, _, h => h.elim
 | a :: l, v :: vs, 0, c, h, hk, hv => by
  simp only [List.getElem?_cons_zero, Option.some.injEq] at h
  subst h
  exact ⟨hk v hv.1, hv.2⟩
 | a :: l, v :: vs, j + 1, c, h, hk, hv => ⟨hv.1, Gb (by simpa using h) hk hv.2⟩
theorem ZS {N r R : Nat} {k : K} {v : Value} (h : k.rel e N loc v) (hR : R < N) (hl : loc R = loc r) : (mvK r R k).rel e N loc v := by
 unfold mvK
 split
 ·rename_i r' m
  split
  ·rename_i hr
   have hr : r' = r := by simpa using hr
   subst hr
   obtain ⟨h1, h2, h3⟩ := h
   simp only [K.ok] at h1
   refine ⟨⟨hR, h1.2.1, fun he => ?_⟩, h2, .inr ?_⟩
   ·rw [hl] at he ⊢
    exact h1.2.2 he
   ·rcases h3 with h3 | h3
    ·cases h3
    ·rw [h3]
     simp only [K.Bl]
     rw [hl]
  ·exact h
 ·exact h
theorem ZT {N r R : Nat} {k : C} {v : Value} (h : k.rel e N loc v) (hR : R < N) (hl : loc R = loc r) : (mvC r R k).rel e N loc v := by
 cases k with
 | k x => exact ZS h hR hl
 | clo f a b => exact h
 | cfn x f h' => exact h
theorem RK {N r R : Nat} (hR : R < N) (hl : loc R = loc r) : ∀ {l : List C} {vs : List Value}, Aj e N loc l vs → Aj e N loc (l.map (mvC r R)) vs
 | [], [], _ => trivial
 | _ :: _, _ :: _, h => ⟨ZT h.1 hR hl, RK hR hl h.2⟩
theorem Aa3 {r R : Nat} {s : St} : (U1 r R s).pc = s.pc := by
 unfold U1
 split
 ·split
  ·split <;> rfl
  ·rfl
 ·rfl
theorem ZU {r R : Nat} {s : St} (h : s.rows.length ≤ R) : (U1 r R s).rows.length ≤ R + 1 := by
 unfold U1
 split
 ·split
  ·split
   ·simp [AM, Av]; omega
   ·omega
  ·omega
 ·omega
theorem ZV {r R : Nat} {s : St} : Ref e w0 s (U1 r R s) := by
 unfold U1
 split
 ·rename_i row hrow
  split
  ·rename_i q hq
   split
   ·rename_i hc
    simp only [Bool.and_eq_true, decide_eq_true_eq] at hc
    obtain ⟨c1, c2⟩ := hc
    intro loc tm w hf hcl
    have hlen : (Av (s.rows.set r Row.dead) R).length = R := by simp [Av]; omega
    obtain ⟨B, hB, hR, hbel⟩ := hcl
    have hl := (hR.lst r row q hrow hq).2
    have hr1 := Ac hrow
    have hadd := ((hR.kill r).pad R).SG (x := loc r) (q := q) c1 (fun he s' y hs ho => ?_) (hl.at_ (by rw [hlen]; exact Ap _ _ _))
    ·rw [hlen] at hadd
     have hlen2 : (AM (Av (s.rows.set r Row.dead) R) q).length = R + 1 := by simp [AM, hlen]
     refine ⟨AN loc R (loc r), fun s' hs' => by simp [AN, Nat.ne_of_lt (Nat.lt_of_lt_of_le hs' c2)], by simp only [List.length_map, hlen2]; omega, ?_, B, hB, Ad.SN hadd (by simp [AM]) fun r' x' hx' => ?_, hbel⟩
     rotate_left
     ·rw [List.getElem?_map] at hx'
      cases hs : (AM (Av (s.rows.set r Row.dead) R) q)[r']? with
      | none => rw [hs] at hx'; cases hx'
      | some y =>
       rw [hs] at hx'
       simp only [Option.map_some, Option.some.injEq] at hx'
       subst hx'
       refine ⟨y, rfl, ?_⟩
       unfold Abt
       split
       ·rename_i ho
        refine ⟨rfl, rfl, rfl, rfl, .inr ⟨ho, fun vs hvs => ?_⟩⟩
        rw [hlen2] at hvs ⊢
        exact RK (by omega) (by rw [Ap]; simp [AN, Nat.ne_of_lt (Nat.lt_of_lt_of_le hr1 c2)]) hvs
       ·exact ⟨rfl, rfl, rfl, rfl, .inl rfl⟩
     rw [List.length_map, hlen2]
     refine ⟨by simpa using hf.len, fun i t v ht hv => ?_⟩
     rw [List.getElem?_map] at ht
     cases hs : s.fr[i]? with
     | none => rw [hs] at ht; cases ht
     | some x =>
      rw [hs] at ht
      simp only [Option.map_some, Option.some.injEq] at ht
      subst ht
      exact ZR (hf.at_ i x v hs hv) c2
    ·have hy : s' ≠ r ∧ s.rows[s']? = some y := by
      unfold Av at hs
      rw [List.getElem?_append] at hs
      split at hs
      ·by_cases hsr : s' = r
       ·subst hsr
        rw [List.getElem?_set_self hr1] at hs
        injection hs with hs
        subst hs
        rcases ho with ho | ⟨_, ho, _⟩ <;> simp [Row.dead] at ho
       ·exact ⟨hsr, by rwa [List.getElem?_set_ne (Ne.symm hsr)] at hs⟩
      ·have := List.mem_of_getElem? hs
       rw [List.mem_replicate] at this
       rw [this.2] at ho
       rcases ho with ho | ⟨_, ho, _⟩ <;> simp [Row.dead] at ho
     refine (hR.lapart r s' row y hrow hy.2 ⟨q, hq, c1, he⟩ ?_).symm
     rcases ho with ho | ho
     ·exact .inl ho
     ·exact .inr ⟨ho, Ne.symm hy.1⟩
   ·exact Ref.refl _
  ·exact Ref.refl _
 ·exact Ref.refl _
theorem ZW {i R : Nat} {q : Option FD} {s : St} : (Oz i R q s).pc = s.pc := by
 unfold Oz
 split
 ·split
  ·split <;> rfl
  ·rfl
 ·rfl
theorem XS {i R : Nat} {q : Option FD} {s : St} (h : s.rows.length ≤ R) : (Oz i R q s).rows.length ≤ R + 1 := by
 unfold Oz
 split
 ·split
  ·split
   ·simp [AM, Av]; omega
   ·omega
  ·omega
 ·omega
theorem XT {i R : Nat} {o : Option FD} {s : St} : Ref e w0 s (Oz i R o s) := by
 unfold Oz
 split
 ·rename_i q
  split
  ·rename_i hi
   split
   ·rename_i hc
    simp only [Bool.and_eq_true, decide_eq_true_eq, bne_iff_ne, ne_eq] at hc
    obtain ⟨⟨c0, c1⟩, c2⟩ := hc
    intro loc tm w hf hcl
    have hlen : (Av s.rows R).length = R := by simp [Av]; omega
    obtain ⟨B, hB, hR, hbel⟩ := hcl
    have hadd := (hR.pad R).SG (x := Iv) (q := { own := true, ty := q.ty, ss := q.ss, x := .e, n := .n 0 }) rfl (fun he => by cases he) (by
     refine ⟨[], 0, rfl, by simp, rfl, Nat.pos_of_ne_zero c1, ?_⟩
     rw [if_pos rfl, Ap, if_pos (show Iv.emp = true from rfl)]
     exact ⟨rfl, rfl⟩)
    rw [hlen] at hadd
    have hx : AO s.rows.length loc (AN loc R Iv) := fun s' hs' => by simp [AN, Nat.ne_of_lt (Nat.lt_of_lt_of_le hs' c2)]
    have hlen2 : (AM (Av s.rows R) { own := true, ty := q.ty, ss := q.ss, x := .e, n := .n 0 }).length = R + 1 := by simp [AM, hlen]
    refine ⟨AN loc R Iv, hx, by show s.rows.length ≤ (AM _ _).length; rw [hlen2]; exact Nat.le_succ_of_le c2, ?_, B, hB, hadd, hbel⟩
    show Ax e (AM _ _).length _ _ _
    rw [hlen2]
    refine ⟨by simpa using hf.len, fun j t v ht hv => ?_⟩
    by_cases hj : i = j
    ·subst hj
     rw [List.getElem?_set_self (Ac hi)] at ht
     injection ht with ht
     subst ht
     have := hf.at_ i _ v hi hv
     have hv' : v = .slice none 0 0 := by
      have h3 := this.2.2
      rcases h3 with h3 | h3
      ·cases h3
      ·exact h3
     refine ⟨⟨by omega, by simp, fun _ => ⟨by rw [Ap]; rfl, by simp⟩⟩, this.2.1, .inr ?_⟩
     rw [hv']
     simp only [K.Bl]
     rw [Ap]
     rfl
    ·rw [List.getElem?_set_ne hj] at ht
     exact SV.BU (hf.at_ j t v ht hv) hx (by omega)
   ·exact Ref.refl _
  ·exact Ref.refl _
 ·exact Ref.refl _
theorem Vw {r j R : Nat} {q : Option FD} {s : St} : (GV r j R q s).pc = s.pc := by
 unfold GV
 split
 ·split
  ·split
   ·split <;> rfl
   ·rfl
  ·rfl
 ·rfl
theorem TR {r j R : Nat} {q : Option FD} {s : St} (h : s.rows.length ≤ R) : (GV r j R q s).rows.length ≤ R + 1 := by
 unfold GV
 split
 ·split
  ·split
   ·split
    ·simp [AM, Av]; omega
    ·omega
   ·omega
  ·omega
 ·omega
theorem TS {r j R : Nat} {o : Option FD} {s : St} : Ref e w0 s (GV r j R o s) := by
 unfold GV
 split
 ·rename_i q
  split
  ·rename_i row hrow
   split
   ·rename_i hj
    split
    ·rename_i hc
     simp only [Bool.and_eq_true, decide_eq_true_eq, bne_iff_ne, ne_eq] at hc
     obtain ⟨⟨⟨c0, c1⟩, ho⟩, c2⟩ := hc
     intro loc tm w hf hcl
     have hlen : (Av s.rows R).length = R := by simp [Av]; omega
     obtain ⟨B, hB, hR, hbel⟩ := hcl
     have hadd := (hR.pad R).SG (x := Iv) (q := { own := true, ty := q.ty, ss := q.ss, x := .e, n := .n 0 }) rfl (fun he => by cases he) (by
      refine ⟨[], 0, rfl, by simp, rfl, Nat.pos_of_ne_zero c1, ?_⟩
      rw [if_pos rfl, Ap, if_pos (show Iv.emp = true from rfl)]
      exact ⟨rfl, rfl⟩)
     rw [hlen] at hadd
     have hx : AO s.rows.length loc (AN loc R Iv) := fun s' hs' => by simp [AN, Nat.ne_of_lt (Nat.lt_of_lt_of_le hs' c2)]
     have hlen2 : (AM (Av s.rows R) { own := true, ty := q.ty, ss := q.ss, x := .e, n := .n 0 }).length = R + 1 := by simp [AM, hlen]
     have hr1 := Ac hrow
     have hrow' : (AM (Av s.rows R) { own := true, ty := q.ty, ss := q.ss, x := .e, n := .n 0 })[r]? = some row := by
      unfold AM Av
      rw [List.getElem?_append_left (by rw [List.length_append]; omega), List.getElem?_append_left hr1]
      exact hrow
     refine ⟨AN loc R Iv, hx, by show s.rows.length ≤ List.length (List.set _ _ _); rw [List.length_set, hlen2]; exact Nat.le_succ_of_le c2, ?_, B, hB, Ad.SN hadd (by simp [AM]) fun r' x' hx' => ?_, hbel⟩
     ·show Ax e (List.length (List.set _ _ _)) _ _ _
      rw [List.length_set, hlen2]
      exact hf.ext hx (by omega)
     ·by_cases hrr : r = r'
      ·subst hrr
       rw [List.getElem?_set_self (by omega)] at hx'
       injection hx' with hx'
       subst hx'
       refine ⟨row, hrow', rfl, rfl, rfl, rfl, .inr ⟨ho, fun vs hvs => ?_⟩⟩
       rw [hlen2] at hvs ⊢
       refine Gb (c := .k .nilslc) hj (fun u hu => ?_) hvs
       have hv' : u = .slice none 0 0 := by
        rcases hu.2.2 with h3 | h3
        ·cases h3
        ·exact h3
       refine ⟨⟨by omega, by simp, fun _ => ⟨by rw [Ap]; rfl, by simp⟩⟩, hu.2.1, .inr ?_⟩
       rw [hv']
       simp only [K.Bl]
       rw [Ap]
       rfl
      ·rw [List.getElem?_set_ne hrr] at hx'
       exact ⟨x', hx', rfl, rfl, rfl, rfl, .inl rfl⟩
    ·exact Ref.refl _
   ·exact Ref.refl _
  ·exact Ref.refl _
 ·exact Ref.refl _
theorem Xg {x : Nat × Bool} {R : Nat} {q : Option FD} {s : St} : (Qv x R q s).pc = s.pc := by
 unfold Qv
 split
 ·exact Aa3
 ·split
  ·exact ZW
  ·exact Vw
theorem TT {x : Nat × Bool} {R : Nat} {q : Option FD} {s : St} (h : s.rows.length ≤ R) : (Qv x R q s).rows.length ≤ R + 1 := by
 unfold Qv
 split
 ·exact ZU h
 ·split
  ·exact XS h
  ·exact TR h
theorem TU {x : Nat × Bool} {R : Nat} {q : Option FD} {s : St} : Ref e w0 s (Qv x R q s) := by
 unfold Qv
 split
 ·exact ZV
 ·split
  ·exact XT
  ·exact TS
theorem NN : ∀ {l : List ((Nat × Bool) × (Nat × Bool))} {R : Nat} {s t : St}, s.rows.length ≤ R → t.rows.length ≤ R →
  Ref e w0 s (GW l R (s, t)).1 ∧ Ref e w0 t (GW l R (s, t)).2 ∧ (GW l R (s, t)).1.pc = s.pc ∧ (GW l R (s, t)).2.pc = t.pc
 | [], R, s, t, _, _ => ⟨Ref.refl _, Ref.refl _, rfl, rfl⟩
 | (a, b) :: l, R, s, t, hs, ht => by
  obtain ⟨h1, h2, h3, h4⟩ := NN (l := l) (R := R + 1) (s := Qv a R (WR b t) s) (t := Qv b R (WR a s) t) (TT hs) (TT ht)
  exact ⟨TU.trans h1, TU.trans h2, h3.trans Xg, h4.trans Xg⟩
theorem TV {s : St} {p : Pos} {k : K} (h : kAt s p = some k) : (∃ i, p = .slot i ∧ s.fr[i]? = some (.pv (.one (.k k)))) ∨ (∃ r j row, p = .cell r j ∧ s.rows[r]? = some row ∧ row.own = true ∧ row.cells[j]? = some (.k k)) := by
 unfold kAt at h
 split at h
 ·rename_i i
  split at h
  ·injection h with h; subst h; exact .inl ⟨i, rfl, ‹_›⟩
  ·cases h
 ·rename_i r j
  split at h
  ·rename_i row hrow
   split at h
   ·rename_i k' hk
    split at h
    ·rename_i ho
     injection h with h; subst h
     exact .inr ⟨r, j, row, rfl, hrow, ho, hk⟩
    ·cases h
   ·cases h
  ·cases h
theorem ZX {s : St} {p : Pos} {R : Nat} {k : K} {ss : List Au} {x n : L} (hk : kAt s p = some k) (hR : s.rows.length ≤ R)
  (h : ∀ (loc : Loc) (w : World) (B : Bd), Ad e loc s.rows w B → (∃ u, k.rel e s.rows.length loc u) → ∃ v, EM e (CF B w) (BK ss x n) v ∧ ∀ u, k.rel e (R + 1) loc u → u = v) :
  Ref e w0 s (HX { s with rows := Av s.rows R ++ [BK ss x n] } p (.fsl R n)) := by
 have hpl := FO hR
 have hlen : ∀ {s' : St}, (HX s' p (.fsl R n)).rows.length = s'.rows.length := fun {s'} => by
  unfold HX
  split
  ·rfl
  ·split <;> simp
 have hpc : ∀ {s' : St}, (HX s' p (.fsl R n)).pc = s'.pc := fun {s'} => by
  unfold HX
  split
  ·rfl
  ·split <;> rfl
 intro loc tm w hf hcl
 refine (Ref.OW (e := e) (w0 := w0) (s := s) (R := R) (x := BK ss x n) (fr := (HX { s with rows := Av s.rows R ++ [BK ss x n] } p (.fsl R n)).fr) (rows := (HX { s with rows := Av s.rows R ++ [BK ss x n] } p (.fsl R n)).rows) (pc := (HX { s with rows := Av s.rows R ++ [BK ss x n] } p (.fsl R n)).pc) hR (by rw [hlen]; simp [hpl]) fun loc tm w B hf hR0 hBl => ?_) loc tm w hf hcl
 have hu0 : ∃ u, k.rel e s.rows.length loc u := by
  rcases TV hk with ⟨i, _, hi⟩ | ⟨r, j, row, _, hrow, ho, hc⟩
  ·obtain ⟨v, _, _, h3⟩ := hf.get hi
   exact ⟨v, h3⟩
  ·obtain ⟨v, _, h3⟩ := hR0.cell hrow hc
   exact ⟨v, h3⟩
 obtain ⟨v, hx, hv⟩ := h loc w B hR0 hu0
 refine ⟨B.F, v, fun k hk => hk, fun k hk => .inl hk, s.rows, hR, hR0, hx, fun loc' hx1 hat hf' hR' => ?_⟩
 have hll : (Av s.rows R ++ [BK ss x n]).length = R + 1 := by simp [hpl]
 have hkk : ∀ u, k.rel e s.rows.length loc u → (K.fsl R n).rel e (R + 1) loc' u := fun u hu => by
  have e1 := hv u (K.BU hu (AO.refl _ _) (by omega))
  subst e1
  obtain ⟨_, _, q, as, m, q1, q2, q3, q4, q5, q6, q7⟩ := hx
  simp only [BK, Option.some.injEq] at q1
  subst q1
  obtain ⟨as', m', c, b, k1, k2, k3, k4⟩ := q7.slice
  injection k1 with k1
  subst k1
  have : m' = m := Nat.eq_of_mul_eq_mul_right q3 (by rw [← k3, q5])
  subst this
  refine ⟨⟨by omega, by rw [q6]; omega, b, c, by rw [hat, CR, q6]; simpa using k2⟩, hu.2.1, .inr ?_⟩
  simp only [K.Bl]
  rw [hat, CR]
 rcases TV hk with ⟨i, rfl, hi⟩ | ⟨r, j, row, rfl, hrow, ho, hc⟩
 ·refine ⟨?_, hR'⟩
  refine ⟨by simpa [HX] using hf'.len, fun i' t u ht hu => ?_⟩
  simp only [HX] at ht
  by_cases hii : i = i'
  ·subst hii
   rw [List.getElem?_set_self (Ac hi)] at ht
   injection ht with ht
   subst ht
   exact hkk u (hf.at_ i _ u hi hu)
  ·rw [List.getElem?_set_ne hii] at ht
   exact hf'.at_ i' t u ht hu
 ·have hr1 := Ac hrow
  have hrow' : (Av s.rows R ++ [BK ss x n])[r]? = some row := by
   rw [List.getElem?_append_left (by omega)]
   unfold Av
   rw [List.getElem?_append_left hr1]
   exact hrow
  have hput : HX { s with rows := Av s.rows R ++ [BK ss x n] } (.cell r j) (.fsl R n) = { s with rows := (Av s.rows R ++ [BK ss x n]).set r { row with cells := row.cells.set j (.k (.fsl R n)) } } := by
   simp only [HX, hrow']
  rw [hput]
  refine ⟨hf', hR'.SN (by simp) fun r' x' hx' => ?_⟩
  by_cases hrr : r = r'
  ·subst hrr
   rw [List.getElem?_set_self (by omega)] at hx'
   injection hx' with hx'
   subst hx'
   refine ⟨row, hrow', rfl, rfl, rfl, rfl, .inr ⟨ho, fun vs hvs => ?_⟩⟩
   have hrow0 := hR0.row r row hrow
   unfold AH at hrow0
   rw [if_pos ho] at hrow0
   obtain ⟨_, _, _, _, vs0, sp0, b5, b6, _⟩ := hrow0
   have hrow1 := hR'.row r row hrow'
   rw [hll] at hvs ⊢
   refine Gb (c := .k k) hc (fun u hu => ?_) hvs
   refine hkk u ?_
   obtain ⟨u1, _, h3⟩ := hR0.cell hrow hc
   have h3' : k.rel e (R + 1) loc' u1 := K.BU h3 (fun r hr => hx1 r (by omega)) (by omega)
   have hs : k.Dm = true := by
    cases k with
    | junk =>
     have e1 := hv u (K.Ct (k := .junk) hu)
     have hb : (PV.one (.k .junk)).rel e (R + 1) loc (.bool true) := K.Ct (k := .bool (.t true)) ⟨trivial, rfl, .inr rfl⟩
     have UY : (PV.one (.k .junk)).rel e (R + 1) loc (.bool false) := K.Ct (k := .bool (.t false)) ⟨trivial, rfl, .inr rfl⟩
     have e2 := hv _ hb
     have e3 := hv _ UY
     rw [← e2] at e3
     cases e3
    | _ => rfl
   rw [K.CP hs hu h3']
   exact h3
  ·rw [List.getElem?_set_ne hrr] at hx'
   exact ⟨x', hx', rfl, rfl, rfl, rfl, .inl rfl⟩
theorem TW {p : Pos} {R : Nat} {ss : List Au} {s : St} : Ref e w0 s (Qw p R ss s) := by
 unfold Qw
 split
 ·rename_i r n hk
  split
  ·rename_i row hrow
   split
   ·rename_i q hq
    split
    ·rename_i hc
     simp only [Bool.and_eq_true, Bool.not_eq_true', decide_eq_true_eq] at hc
     obtain ⟨⟨c1, c2⟩, c3⟩ := hc
     have c2 := L.Af c2
     refine ZX hk c3 fun loc w B hR0 _ => ?_
     obtain ⟨as, m, l1, l2, l3, l4, l5⟩ := (hR0.lst r row q hrow hq).2
     rw [if_neg (by simp [c1])] at l5
     refine ⟨(loc r).v, ⟨rfl, rfl, _, as, m, rfl, rfl, l4, l1, l2, l3, l5.2⟩, fun u hu => ?_⟩
     rcases hu.2.2 with h3 | h3
     ·cases h3
     ·exact h3
    ·exact Ref.refl _
   ·exact Ref.refl _
  ·exact Ref.refl _
 ·rename_i hk
  split
  ·rename_i hc
   simp only [Bool.and_eq_true, bne_iff_ne, ne_eq, decide_eq_true_eq] at hc
   obtain ⟨c1, c2⟩ := hc
   refine ZX hk c2 fun loc w B hR0 _ => ⟨.slice none 0 0, ⟨rfl, rfl, _, [], 0, rfl, rfl, Nat.pos_of_ne_zero c1, rfl, by simp, rfl, .emp⟩, fun u hu => ?_⟩
   rcases hu.2.2 with h3 | h3
   ·cases h3
   ·exact h3
  ·exact Ref.refl _
 ·exact Ref.refl _
theorem Xh {p : Pos} {R : Nat} {ss : List Au} {s : St} : (Qw p R ss s).pc = s.pc := by
 have hpc : ∀ {s' : St} {k : K}, (HX s' p k).pc = s'.pc := fun {s' k} => by
  unfold HX
  split
  ·rfl
  ·split <;> rfl
 unfold Qw
 split
 ·split
  ·split
   ·split
    ·exact hpc
    ·rfl
   ·rfl
  ·rfl
 ·split
  ·exact hpc
  ·rfl
 ·rfl
theorem TX {p : Pos} {R : Nat} {ss : List Au} {s : St} (h : s.rows.length ≤ R) : (Qw p R ss s).rows.length ≤ R + 1 := by
 have hlen : ∀ {s' : St} {k : K}, (HX s' p k).rows.length = s'.rows.length := fun {s' k} => by
  unfold HX
  split
  ·rfl
  ·split <;> simp
 have hp : ∀ (x : Row), (Av s.rows R ++ [x]).length = R + 1 := fun x => by simp [FO h]
 unfold Qw
 split
 ·split
  ·split
   ·split
    ·rw [hlen, hp]; exact Nat.le_refl _
    ·omega
   ·omega
  ·omega
 ·split
  ·rw [hlen, hp]; exact Nat.le_refl _
  ·omega
 ·omega
theorem Pn : ∀ {l : List Nat} {R : Nat} {s t : St}, s.rows.length ≤ R → t.rows.length ≤ R →
  Ref e w0 s (Ky l R (s, t)).1 ∧ Ref e w0 t (Ky l R (s, t)).2 ∧ (Ky l R (s, t)).1.pc = s.pc ∧ (Ky l R (s, t)).2.pc = t.pc
 | [], R, s, t, _, _ => ⟨Ref.refl _, Ref.refl _, rfl, rfl⟩
 | r :: l, R, s, t, hs, ht => by
  obtain ⟨h1, h2, h3, h4⟩ := Pn (l := l) (R := R + 1) (s := H9 r R s) (t := H9 r R t) (RA hs) (RA ht)
  exact ⟨MW.trans h1, MW.trans h2, h3.trans TN, h4.trans TN⟩
theorem RL : ∀ {l : List (Pos × K × K)} {R : Nat} {s t : St}, s.rows.length ≤ R → t.rows.length ≤ R →
  Ref e w0 s (Rb l R (s, t)).1 ∧ Ref e w0 t (Rb l R (s, t)).2 ∧ (Rb l R (s, t)).1.pc = s.pc ∧ (Rb l R (s, t)).2.pc = t.pc
 | [], R, s, t, _, _ => ⟨Ref.refl _, Ref.refl _, rfl, rfl⟩
 | (p, _, _) :: l, R, s, t, hs, ht => by
  obtain ⟨h1, h2, h3, h4⟩ := RL (l := l) (R := R + 1) (s := Qw p R (AaO p t) s) (t := Qw p R (AaO p s) t) (TX hs) (TX ht)
  exact ⟨TW.trans h1, TW.trans h2, h3.trans Xh, h4.trans Xh⟩
theorem QQ {s t : St} : Ref e w0 s (Dn s t).1 ∧ Ref e w0 t (Dn s t).2 ∧ (Dn s t).1.pc = s.pc ∧ (Dn s t).2.pc = t.pc := by
 unfold Dn
 obtain ⟨a1, a2, a3, a4⟩ := NN (e := e) (w0 := w0) (l := Of s.rows t.rows 0 (Kx s.fr t.fr 0 [])) (R := max s.rows.length t.rows.length) (s := s) (t := t) (by omega) (by omega)
 generalize GW (Of s.rows t.rows 0 (Kx s.fr t.fr 0 [])) (max s.rows.length t.rows.length) (s, t) = x at a1 a2 a3 a4 ⊢
 obtain ⟨s1, t1⟩ := x
 simp only at a1 a2 a3 a4
 unfold Zb
 split
 ·exact ⟨a1, a2, a3, a4⟩
 ·rename_i ps hps
  obtain ⟨b1, b2, b3, b4⟩ := Pn (e := e) (w0 := w0) (l := Ra (OA s1 t1)) (R := GX (s1, t1)) (s := s1) (t := t1) (by simp only [GX]; omega) (by simp only [GX]; omega)
  simp only
  generalize Ky (Ra (OA s1 t1)) (GX (s1, t1)) (s1, t1) = y at b1 b2 b3 b4 ⊢
  obtain ⟨s2, t2⟩ := y
  simp only at b1 b2 b3 b4
  obtain ⟨d1, d2, d3, d4⟩ := RL (e := e) (w0 := w0) (l := OA s2 t2) (R := GX (s2, t2)) (s := s2) (t := t2) (by simp only [GX]; omega) (by simp only [GX]; omega)
  exact ⟨a1.trans (b1.trans d1), a2.trans (b2.trans d2), d3.trans (b3.trans a3), d4.trans (b4.trans a4)⟩
theorem SQ {c : L} {both : Option (L × L × L)} {s t : L} {g : G} (h : Good T e (FE c both s t g).2)
  (hb : ∀ p x y, both = some (p, x, y) → (x.ev e).bool = ((p.ev e).bool && (c.ev e).bool) ∧ (y.ev e).bool = ((p.ev e).bool && !(c.ev e).bool)) :
  Good T e g ∧ ((FE c both s t g).1.ev e).bool = ((pick (c.ev e).bool s t).ev e).bool := by
 unfold FE at h ⊢
 split at h
 ·rename_i p x y
  split at h
  ·rename_i hs
   simp only [hs, if_true]
   simp only [Bool.and_eq_true] at hs
   obtain ⟨b1, b2⟩ := hb _ _ _ rfl
   rw [← L.Af hs.1] at b1
   rw [← L.Af hs.2] at b2
   refine ⟨h, ?_⟩
   cases hc : (c.ev e).bool <;> simp [pick, hc] at b1 b2 ⊢
   ·exact b2.symm
   ·exact b1.symm
  ·rename_i hs
   simp only [hs, Bool.false_eq_true, if_false]
   have := Ek h
   refine ⟨this.1, this.2.trans ?_⟩
   cases hc : (c.ev e).bool <;> simp [pick]
 ·have := Ek h
  refine ⟨this.1, this.2.trans ?_⟩
  cases hc : (c.ev e).bool <;> simp [pick]
theorem ER {c : L} {both : Option (L × L × L)} {s t : St} {g : G} (h : Good T e (Cj c both s t g).2)
  (hb : ∀ p x y, both = some (p, x, y) → (x.ev e).bool = ((p.ev e).bool && (c.ev e).bool) ∧ (y.ev e).bool = ((p.ev e).bool && !(c.ev e).bool)) :
  Good T e g ∧ Ref e w0 (pick (c.ev e).bool s t) (Cj c both s t g).1 ∧ ((Cj c both s t g).1.pc.ev e).bool = ((pick (c.ev e).bool s t).pc.ev e).bool := by
 unfold Cj at h ⊢
 obtain ⟨ra, rb, pa, pb⟩ := QQ (e := e) (w0 := w0) (s := s) (t := t)
 generalize Dn s t = st at h ra rb pa pb ⊢
 obtain ⟨s', t'⟩ := st
 simp only at h ra rb pa pb ⊢
 suffices hh : Good T e g ∧ Ref e w0 (pick (c.ev e).bool s' t') ⟨(Bu c s'.fr t'.fr g).1, (Bq c s'.rows t'.rows (Bu c s'.fr t'.fr g).2).1, (FE c both s'.pc t'.pc (Bq c s'.rows t'.rows (Bu c s'.fr t'.fr g).2).2).1⟩ ∧
   ((FE c both s'.pc t'.pc (Bq c s'.rows t'.rows (Bu c s'.fr t'.fr g).2).2).1.ev e).bool = ((pick (c.ev e).bool s' t').pc.ev e).bool by
  obtain ⟨k1, k2, k3⟩ := hh
  refine ⟨k1, Ref.trans ?_ k2, k3.trans ?_⟩
  ·cases hc : (c.ev e).bool
   ·exact rb
   ·exact ra
  ·cases hc : (c.ev e).bool
   ·simp only [pick, Bool.false_eq_true, if_false, pb]
   ·simp only [pick, if_true, pa]
 revert h
 generalize s' = s
 generalize t' = t
 intro h
 obtain ⟨hg1, hpc1⟩ := SQ h hb
 have hr := DE hg1
 have hf := EL hr.1
 refine ⟨hf.1, fun loc tm w h1 h2 => ?_, ?_⟩
 ·have q1 : (pick (c.ev e).bool s t).fr = pick (c.ev e).bool s.fr t.fr := by cases (c.ev e).bool <;> rfl
  have q2 : (pick (c.ev e).bool s t).rows = pick (c.ev e).bool s.rows t.rows := by cases (c.ev e).bool <;> rfl
  rw [q1, q2] at h1
  rw [q2] at h2 ⊢
  have hlen : (pick (c.ev e).bool s.rows t.rows).length ≤ (Bq c s.rows t.rows (Bu c s.fr t.fr g).2).1.length := by
   cases hc : (c.ev e).bool
   ·exact hr.2.2.1
   ·exact hr.2.1
  exact ⟨loc, AO.refl _ _, hlen, (Ax.merge hr.1 h1).ext (AO.refl _ _) hlen, by obtain ⟨B, hB, hR, hbel⟩ := h2; exact ⟨B, hB, Ad.merge hg1 hR, hbel⟩⟩
 ·rw [hpc1]
  cases (c.ev e).bool <;> rfl
theorem KT {nc : L} : ∀ {o : Aq} {g : G}, Good T e (OB nc o g).2 → Good T e g ∧
  (∀ x u, Aq.get x (OB nc o g).1 = some u → (u.pc.ev e).bool = true → (nc.ev e).bool = true ∧ ∃ t, Aq.get x o = some t ∧ (t.pc.ev e).bool = true) ∧
  ((nc.ev e).bool = true → ∀ x t, Aq.get x o = some t → (t.pc.ev e).bool = true → ∃ u, Aq.get x (OB nc o g).1 = some u ∧ (u.pc.ev e).bool = true ∧ Ref e w0 t u)
 | [], g, h => ⟨h, fun x u hx => by simp [OB, Aq.get] at hx, fun _ x t hx => by simp [Aq.get] at hx⟩
 | (y, t) :: l, g, h => by
  unfold OB at h ⊢
  simp only at h ⊢
  have h2 := KT h
  have h1 := AX h2.1
  refine ⟨h1.1, fun x u hx hu => ?_, fun hnc x s hx hs => ?_⟩
  ·by_cases hxy : x = y
   ·subst hxy
    rw [AG] at hx
    injection hx with hx
    subst hx
    simp only at hu
    rw [h1.2, Bool.and_eq_true] at hu
    exact ⟨hu.1, t, AG, hu.2⟩
   ·rw [AY hxy] at hx
    obtain ⟨a1, s, a2, a3⟩ := h2.2.1 x u hx hu
    exact ⟨a1, s, by rw [AY hxy]; exact a2, a3⟩
  ·by_cases hxy : x = y
   ·subst hxy
    rw [AG] at hx
    injection hx with hx
    subst hx
    exact ⟨_, AG, by simp only; rw [h1.2, hnc, hs]; rfl, Ref.pc _⟩
   ·rw [AY hxy] at hx
    obtain ⟨u, a1, a2, a3⟩ := h2.2.2 hnc x s hx hs
    exact ⟨u, by rw [AY hxy]; exact a1, a2, a3⟩
theorem DH {c nc : L} {both : Option (L × L × L)} (hnc : (nc.ev e).bool = !(c.ev e).bool)
  (hb : ∀ p x y, both = some (p, x, y) → (x.ev e).bool = ((p.ev e).bool && (c.ev e).bool) ∧ (y.ev e).bool = ((p.ev e).bool && !(c.ev e).bool)) : ∀ {o1 o2 : Aq} {g : G},
  Good T e (combine c nc both o1 o2 g).2 → Good T e g ∧
  (∀ x u, Aq.get x (combine c nc both o1 o2 g).1 = some u → (u.pc.ev e).bool = true →
   ((c.ev e).bool = true ∧ ∃ s, Aq.get x o1 = some s ∧ (s.pc.ev e).bool = true) ∨ ((c.ev e).bool = false ∧ ∃ t, Aq.get x o2 = some t ∧ (t.pc.ev e).bool = true)) ∧
  ((c.ev e).bool = true → ∀ x s, Aq.get x o1 = some s → (s.pc.ev e).bool = true → ∃ u, Aq.get x (combine c nc both o1 o2 g).1 = some u ∧ (u.pc.ev e).bool = true ∧ Ref e w0 s u) ∧
  ((c.ev e).bool = false → ∀ x t, Aq.get x o2 = some t → (t.pc.ev e).bool = true → ∃ u, Aq.get x (combine c nc both o1 o2 g).1 = some u ∧ (u.pc.ev e).bool = true ∧ Ref e w0 t u)
 | [], o2, g, h => by
  unfold combine at h ⊢
  have h1 := KT (w0 := w0) h
  refine ⟨h1.1, fun x u hx hu => ?_, fun _ x s hx => by simp [Aq.get] at hx, fun hc => h1.2.2 (by rw [hnc, hc]; rfl)⟩
  obtain ⟨a1, a2⟩ := h1.2.1 x u hx hu
  exact .inr ⟨by rw [hnc] at a1; simpa using a1, a2⟩
 | (y, s) :: l, o2, g, h => by
  unfold combine at h ⊢
  cases ht : Aq.get y o2 with
  | some t =>
   rw [ht] at h
   simp only at h ⊢
   have h2 := DH hnc hb h
   have h1 := ER (w0 := w0) h2.1 hb
   refine ⟨h1.1, fun x u hx hu => ?_, fun hc x s' hx hs' => ?_, fun hc x t' hx ht' => ?_⟩
   ·by_cases hxy : x = y
    ·subst hxy
     rw [AG] at hx
     injection hx with hx
     subst hx
     rw [h1.2.2] at hu
     cases hc : (c.ev e).bool <;> simp only [pick, hc, if_true, if_false, Bool.false_eq_true] at hu
     ·exact .inr ⟨rfl, t, ht, hu⟩
     ·exact .inl ⟨rfl, s, AG, hu⟩
    ·rw [AY hxy] at hx
     rw [AY hxy]
     rcases h2.2.1 x u hx hu with a | ⟨a, b⟩
     ·exact .inl a
     ·exact .inr ⟨a, by rwa [A6 hxy] at b⟩
   ·by_cases hxy : x = y
    ·subst hxy
     rw [AG] at hx
     injection hx with hx
     subst hx
     refine ⟨_, AG, ?_, ?_⟩
     ·rw [h1.2.2]; simp only [pick, hc, if_true]; exact hs'
     ·have := h1.2.1; simp only [pick, hc, if_true] at this; exact this
    ·rw [AY hxy] at hx
     obtain ⟨u, a1, a2, a3⟩ := h2.2.2.1 hc x s' hx hs'
     exact ⟨u, by rw [AY hxy]; exact a1, a2, a3⟩
   ·by_cases hxy : x = y
    ·subst hxy
     rw [ht] at hx
     injection hx with hx
     subst hx
     refine ⟨_, AG, ?_, ?_⟩
     ·rw [h1.2.2]; simp only [pick, hc, Bool.false_eq_true, if_false]; exact ht'
     ·have := h1.2.1; simp only [pick, hc, Bool.false_eq_true, if_false] at this; exact this
    ·obtain ⟨u, a1, a2, a3⟩ := h2.2.2.2 hc x t' (by rw [A6 hxy]; exact hx) ht'
     exact ⟨u, by rw [AY hxy]; exact a1, a2, a3⟩
  | none =>
   rw [ht] at h
   simp only at h ⊢
   have h2 := DH hnc hb h
   have h1 := AX h2.1
   refine ⟨h1.1, fun x u hx hu => ?_, fun hc x s' hx hs' => ?_, fun hc x t' hx ht' => ?_⟩
   ·by_cases hxy : x = y
    ·subst hxy
     rw [AG] at hx
     injection hx with hx
     subst hx
     simp only at hu
     rw [h1.2, Bool.and_eq_true] at hu
     exact .inl ⟨hu.1, s, AG, hu.2⟩
    ·rw [AY hxy] at hx
     rw [AY hxy]
     exact h2.2.1 x u hx hu
   ·by_cases hxy : x = y
    ·subst hxy
     rw [AG] at hx
     injection hx with hx
     subst hx
     exact ⟨_, AG, by simp only; rw [h1.2, hc, hs']; rfl, Ref.pc _⟩
    ·rw [AY hxy] at hx
     obtain ⟨u, a1, a2, a3⟩ := h2.2.2.1 hc x s' hx hs'
     exact ⟨u, by rw [AY hxy]; exact a1, a2, a3⟩
   ·have hxy : x ≠ y := fun h0 => by rw [h0, ht] at hx; cases hx
    obtain ⟨u, a1, a2, a3⟩ := h2.2.2.2 hc x t' hx ht'
    exact ⟨u, by rw [AY hxy]; exact a1, a2, a3⟩
def Gk.to : Gk → Exit
 | .norm => .normal
 | .exit id => .exit id
 | .ret => .ret
def TY (e : Nat → A) (w0 : W0) (loc : Loc) (m : Nat) (a : Act) (s : St) (Q : Act → World → Prop) : Prop :=
 ∀ (loc' : Loc) (a' : Act) (w' : World), AO m loc loc' → m ≤ s.rows.length → Ax e s.rows.length loc' s.fr a'.tmps → a'.defers = a.defers → Bn e w0 loc' s.rows w' → Q a' w'
structure Ends (P : Program) (T : Nat → List A → Bool × List A) (e : Nat → A) (w0 : W0) (S : St) (W : (Exit → Act → World → Prop) → Act → World → Prop) (outs : Aq) : Prop where
 pc : ∀ x s, Aq.get x outs = some s → (s.pc.ev e).bool = true → (S.pc.ev e).bool = true
 one : ∀ x y s t, Aq.get x outs = some s → Aq.get y outs = some t → (s.pc.ev e).bool = true → (t.pc.ev e).bool = true → x = y
 wp : ∀ (loc : Loc) (a : Act) (w : World) (Q : Exit → Act → World → Prop), (S.pc.ev e).bool = true → Ax e S.rows.length loc S.fr a.tmps → Bn e w0 loc S.rows w →
  (∀ x s, Aq.get x outs = some s → (s.pc.ev e).bool = true → TY e w0 loc S.rows.length a s (Q x.to)) → W Q a w
theorem TY.mono {m : Nat} {a : Act} {s : St} {Q Q' : Act → World → Prop} (h : TY e w0 loc m a s Q) (hq : ∀ a w, Q a w → Q' a w) : TY e w0 loc m a s Q' :=
 fun loc' a' w' h1 h2 h3 h4 h5 => hq _ _ (h loc' a' w' h1 h2 h3 h4 h5)
theorem TY.ref {m : Nat} {a : Act} {s u : St} {Q : Act → World → Prop} (h : TY e w0 loc m a u Q) (hr : Ref e w0 s u) : TY e w0 loc m a s Q :=
 fun loc' a' w' h1 h2 h3 h4 h5 => by
  obtain ⟨loc2, x2, r1, r2, r3⟩ := hr loc' a'.tmps w' h3 h5
  exact h loc2 a' w' (h1.trans x2 h2) (Nat.le_trans h2 r1) r2 h4 r3
end
end Rx
namespace Rx
open Go Go.RowKit
def LW (P : Program) (c : Code) (Q : Exit → Act → World → Prop) (a : Act) (w : World) : Prop :=
 ∀ (b : Frame) (k : List Item) (cs : List Frame), ∃ e a' w', Q e a' w' ∧ Arrives P (lone (b.at a (.code c :: .inLoop c :: k)) cs w) b k cs e a' w'
theorem LW.of {P : Program} {c : Code} {Q : Exit → Act → World → Prop} {a : Act} {w : World} (h : c.wp P (Exit.then (LW P c Q) Q) a w) : LW P c Q a w := by
 intro b k cs
 obtain ⟨e, a₁, w₁, hq, harr⟩ := h b (.inLoop c :: k) cs
 cases e with
 | normal =>
  obtain ⟨e₂, a₂, w₂, hq₂, harr₂⟩ := hq b k cs
  exact ⟨e₂, a₂, w₂, hq₂, .of_steps (Steps.trans harr (.one step_inLoop)) harr₂⟩
 | exit id => exact ⟨_, a₁, w₁, hq, .pass (x := .inLoop c) rfl (fun _ _ => .inl (by simp)) harr⟩
 | goto l => exact ⟨_, a₁, w₁, hq, .pass (x := .inLoop c) rfl (fun _ _ => .inl (by simp)) harr⟩
 | ret => exact ⟨_, a₁, w₁, hq, .pass (x := .inLoop c) rfl (fun _ _ => .inl (by simp)) harr⟩
 | panic ch => exact ⟨_, a₁, w₁, hq, .pass (x := .inLoop c) rfl (fun _ _ => .inl (by simp)) harr⟩
 | outgrown => exact ⟨_, a₁, w₁, hq, .pass (x := .inLoop c) rfl (fun _ _ => .inl (by simp)) harr⟩
theorem LW.wp {P : Program} {c : Code} {Q : Exit → Act → World → Prop} {a : Act} {w : World} (h : LW P c Q a w) : (Code.loop c).wp P Q a w :=
 fun b k cs => let ⟨e, a', w', hq, harr⟩ := h b k cs; ⟨e, a', w', hq, .of_steps (.one step_loop) harr⟩
section
variable {T : Nat → List A → Bool × List A} {e : Nat → A} {n n' : Nat} {loc loc' : Loc} {P : Program} {X : Ctx} {w0 : W0}
theorem Vx {l : L} (h : isFalse l = true) : (l.ev e).bool = false := by
 unfold isFalse at h
 split at h
 ·rfl
 ·cases h
theorem Ow {N : Act → World → Prop} {Q : Exit → Act → World → Prop} {x : Gk} (h : x ≠ .norm) : Exit.then N Q x.to = Q x.to := by
 cases x with
 | norm => exact absurd rfl h
 | exit id => rfl
 | ret => rfl
abbrev Wt := (Exit → Act → World → Prop) → Act → World → Prop
theorem RM {S : St} {Wa Wb Wr : Wt} {o : Aq} (hW : ∀ Q a w, Wa (Exit.then (Wb Q) Q) a w → Wr Q a w) (ha : Ends P T e w0 S Wa o) (h : Aq.get .norm o = none) : Ends P T e w0 S Wr o :=
 ⟨ha.pc, ha.one, fun loc a w Q hpc hf hw hQ => hW _ _ _ (ha.wp loc a w _ hpc hf hw fun x s hx hs => by
  rw [Ow (fun h0 => by rw [h0, h] at hx; cases hx)]
  exact hQ x s hx hs)⟩
theorem Po {S s : St} {Wa Wb Wr : Wt} {o : Aq} (hW : ∀ Q a w, Wa (Exit.then (Wb Q) Q) a w → Wr Q a w) (ha : Ends P T e w0 S Wa o) (h : Aq.get .norm o = some s) (hf : isFalse s.pc = true) :
  Ends P T e w0 S Wr (Aq.drop .norm o) := by
 have back : ∀ {x s'}, Aq.get x (Aq.drop .norm o) = some s' → x ≠ .norm ∧ Aq.get x o = some s' := fun {x s'} hx => by
  by_cases h0 : x = .norm
  ·subst h0; rw [GG] at hx; cases hx
  ·exact ⟨h0, by rwa [A6 h0] at hx⟩
 refine ⟨fun x s' hx hs => ha.pc x s' (back hx).2 hs, fun x y s' t' hx hy hs ht => ha.one x y s' t' (back hx).2 (back hy).2 hs ht, fun loc a w Q hpc hfr hw hQ => hW _ _ _ (ha.wp loc a w _ hpc hfr hw fun x s' hx hs => ?_)⟩
 by_cases h0 : x = .norm
 ·subst h0
  rw [h] at hx
  injection hx with hx
  subst hx
  rw [Vx hf] at hs
  cases hs
 ·rw [Ow h0]
  exact hQ x s' (by rw [A6 h0]; exact hx) hs
theorem TZ {S s : St} {Wa Wb Wr : Wt} {o o2 r : Aq} (hW : ∀ Q a w, Wa (Exit.then (Wb Q) Q) a w → Wr Q a w) (ha : Ends P T e w0 S Wa o) (h : Aq.get .norm o = some s) (hb : Ends P T e w0 s Wb o2)
  (hr : (∀ x u, Aq.get x r = some u → (u.pc.ev e).bool = true →
    ((s.pc.ev e).bool = true ∧ ∃ t, Aq.get x o2 = some t ∧ (t.pc.ev e).bool = true) ∨ ((s.pc.ev e).bool = false ∧ ∃ t, Aq.get x (Aq.drop .norm o) = some t ∧ (t.pc.ev e).bool = true)) ∧
   ((s.pc.ev e).bool = true → ∀ x t, Aq.get x o2 = some t → (t.pc.ev e).bool = true → ∃ u, Aq.get x r = some u ∧ (u.pc.ev e).bool = true ∧ Ref e w0 t u) ∧
   ((s.pc.ev e).bool = false → ∀ x t, Aq.get x (Aq.drop .norm o) = some t → (t.pc.ev e).bool = true → ∃ u, Aq.get x r = some u ∧ (u.pc.ev e).bool = true ∧ Ref e w0 t u)) : Ends P T e w0 S Wr r := by
 have back : ∀ {x s'}, Aq.get x (Aq.drop .norm o) = some s' → x ≠ .norm ∧ Aq.get x o = some s' := fun {x s'} hx => by
  by_cases h0 : x = .norm
  ·subst h0; rw [GG] at hx; cases hx
  ·exact ⟨h0, by rwa [A6 h0] at hx⟩
 obtain ⟨h1, h2, h3⟩ := hr
 refine ⟨fun x u hx hu => ?_, fun x y u v hx hy hu hv => ?_, fun loc a w Q hpc hfr hw hQ => hW _ _ _ (ha.wp loc a w _ hpc hfr hw fun x s' hx hs => ?_)⟩
 ·rcases h1 x u hx hu with ⟨a, _⟩ | ⟨_, t, b1, b2⟩
  ·exact ha.pc _ _ h a
  ·exact ha.pc _ _ (back b1).2 b2
 ·rcases h1 x u hx hu with ⟨a, t, b1, b2⟩ | ⟨a, t, b1, b2⟩
  ·rcases h1 y v hy hv with ⟨a', t', b1', b2'⟩ | ⟨a', t', b1', b2'⟩
   ·exact hb.one _ _ _ _ b1 b1' b2 b2'
   ·rw [a] at a'; cases a'
  ·rcases h1 y v hy hv with ⟨a', t', b1', b2'⟩ | ⟨a', t', b1', b2'⟩
   ·rw [a] at a'; cases a'
   ·exact ha.one _ _ _ _ (back b1).2 (back b1').2 b2 b2'
 ·by_cases h0 : x = .norm
  ·subst h0
   rw [h] at hx
   injection hx with hx
   subst hx
   intro loc' a' w' q1 q2 q3 q4 q5
   show Wb Q a' w'
   refine hb.wp loc' a' w' Q hs q3 q5 fun y t hy ht => ?_
   obtain ⟨u, u1, u2, u3⟩ := h2 hs y t hy ht
   have := (hQ y u u1 u2).ref u3
   intro loc2 a2 w2 r1 r2 r3 r4 r5
   exact this loc2 a2 w2 (q1.trans r1 q2) (Nat.le_trans q2 r2) r3 (r4.trans q4) r5
  ·rw [Ow h0]
   have hsf : (s.pc.ev e).bool = false := by
    cases hc : (s.pc.ev e).bool with
    | false => rfl
    | true => exact absurd (ha.one _ _ _ _ hx h hs hc) h0
   obtain ⟨u, u1, u2, u3⟩ := h3 hsf x s' (by rw [A6 h0]; exact hx) hs
   exact (hQ x u u1 u2).ref u3
theorem Gc (hX : B5 P X.Ay) {S : St} : ∀ {l : List ResultVar} {g g' : G} {rs : List PV}, results X S l g = some (rs, g') → g' = g ∧
  ∀ (loc : Loc) (tm : Array Value) (w : World), Ax e S.rows.length loc S.fr tm → Bn e w0 loc S.rows w → ∃ vs : List Value, AA e S.rows.length loc rs vs ∧
   (l.mapM fun | .tmp t => pure (tm.getD t Go.undef) | .cell a t => do loadVar t (← asAddr (tm.getD a Go.undef)) : Sem (List Value)).run P w = .ok vs w
 | [], g, g', rs, h => by
  simp only [results, Option.some.injEq, Prod.mk.injEq] at h
  obtain ⟨rfl, rfl⟩ := h
  exact ⟨rfl, fun loc tm w hf _ => ⟨[], trivial, by simp⟩⟩
 | .tmp t :: l, g, g', rs, h => by
  simp only [results, Option.bind_eq_bind, Option.bind_eq_some_iff] at h
  obtain ⟨p, hp, ⟨r, g1⟩, hr, h⟩ := h
  simp only [Option.some.injEq, Prod.mk.injEq] at h
  obtain ⟨rfl, rfl⟩ := h
  obtain ⟨h1, h2⟩ := Gc hX hr
  refine ⟨h1, fun loc tm w hf hw => ?_⟩
  obtain ⟨vs, v1, v2⟩ := h2 loc tm w hf hw
  refine ⟨tm.getD t Go.undef :: vs, ⟨KL hp hf (fun x hx => by cases hx), v1⟩, ?_⟩
  simp only [List.mapM_cons, Sem.run_bind, Sem.run_pure, Result.andThen_ok, v2]
 | .cell a t :: l, g, g', rs, h => by
  simp only [results, Option.bind_eq_bind, Option.bind_eq_some_iff] at h
  obtain ⟨p, hp, ty, ht, h⟩ := h
  split at h
  ·rename_i r off
   simp only [Option.bind_eq_some_iff] at h
   obtain ⟨row, hrow, cs, hcs, v, hv, ⟨q, g1⟩, hr, h⟩ := h
   simp only [Option.some.injEq, Prod.mk.injEq] at h
   obtain ⟨rfl, rfl⟩ := h
   obtain ⟨h1, h2⟩ := Gc hX hr
   refine ⟨h1, fun loc tm w hf hw => ?_⟩
   obtain ⟨vs, v1, v2⟩ := h2 loc tm w hf hw
   obtain ⟨r1, r2⟩ := EN (KL hp hf (fun x hx => by cases hx))
   obtain ⟨us, u1, u2⟩ := Di (e := e) (n := S.rows.length) (loc := loc) (w := w) (b := (loc r).blk) (o := (loc r).off + off) (cs := cs) (fun j c hj => by
    obtain ⟨v, z1, z2⟩ := hw.cell hrow (E3 hcs hj)
    exact ⟨v, by rw [Nat.add_assoc]; exact z1, z2⟩)
   obtain ⟨x, x1, x2⟩ := Be (hX t ty ht) u1 u2 (Br hcs).2.2 hv
   have x3 : (loadVar t ⟨(loc r).blk, (loc r).off + off, none⟩).run P w = .ok x w := by
    have := x2
    simp only [Instr.loadAt, Instr.sureAddr, Sem.run_bind, Sem.run_pure, Result.andThen_ok] at this
    exact this
   refine ⟨x :: vs, ⟨x1, v1⟩, ?_⟩
   have x4 : ∀ a : Addr, asAddr (.pointer (some a)) = pure a := fun _ => rfl
   simp only [List.mapM_cons, Sem.run_bind, Sem.run_pure, r2, x4, Result.andThen_ok, x3, v2]
  ·cases h
theorem T0 {fn : Func} {tm : Array Value} {w : World} {vs : List Value}
  (h : (fn.results.toList.mapM fun | .tmp t => pure (tm.getD t Go.undef) | .cell a t => do loadVar t (← asAddr (tm.getD a Go.undef)) : Sem (List Value)).run P w = .ok vs w) :
  (Go.results fn tm).run P w = .ok (Ip vs) w := by
 unfold Go.results
 rw [Array.mapM_eq_mapM_toList]
 simp only [Sem.run_bind, Sem.run_map, Sem.run_pure]
 refine (congrArg (fun r : Result (List Value) => (r.andThen fun a w' => Result.ok a.toArray w').andThen fun a w' => Result.ok (if h : a.size = 1 then a[0] else Value.tuple a) w') h).trans ?_
 simp only [Result.andThen_ok]
 congr 1
 match vs with
 | [] => rfl
 | [v] => rfl
 | v :: u :: vs => simp [Ip]
end
end Rx
namespace Rx
open Go Go.RowKit
section
variable {T : Nat → List A → Bool × List A} {e : Nat → A} {P : Program} {X : Ctx} {w0 : W0}
theorem FQ {S s : St} {W : Wt} {x : Gk} (hpc : s.pc = S.pc)
  (h : ∀ (loc : Loc) (a : Act) (w : World) (Q : Exit → Act → World → Prop), (S.pc.ev e).bool = true → Ax e S.rows.length loc S.fr a.tmps → Bn e w0 loc S.rows w → TY e w0 loc S.rows.length a s (Q x.to) → W Q a w) :
  Ends P T e w0 S W [(x, s)] := by
 have back : ∀ {y t}, Aq.get y [(x, s)] = some t → y = x ∧ t = s := fun {y t} hy => by
  by_cases h0 : y = x
  ·subst h0; rw [AG] at hy; injection hy with hy; exact ⟨rfl, hy.symm⟩
  ·rw [AY h0] at hy; cases hy
 refine ⟨fun y t hy ht => ?_, fun y z t u hy hz _ _ => ?_, fun loc a w Q hp hf hw hQ => h loc a w Q hp hf hw (hQ x s AG (by rw [hpc]; exact hp))⟩
 ·obtain ⟨rfl, rfl⟩ := back hy; rw [← hpc]; exact ht
 ·rw [(back hy).1, (back hz).1]
theorem LB {S s : St} {Wa Wb Wr : Wt} {o o2 : Aq} {g : G} (hW : ∀ Q a w, Wa (Exit.then (Wb Q) Q) a w → Wr Q a w) (ha : Ends P T e w0 S Wa o) (h : Aq.get .norm o = some s) (hb : Ends P T e w0 s Wb o2)
  {nc : L} (hnc : (nc.ev e).bool = !(s.pc.ev e).bool) (hg : Good T e (combine s.pc nc none o2 (Aq.drop .norm o) g).2) : Ends P T e w0 S Wr (combine s.pc nc none o2 (Aq.drop .norm o) g).1 :=
 TZ hW ha h hb (DH hnc (fun _ _ _ h0 => by cases h0) hg).2
theorem Pp {S s : St} {Wa Wb Wr : Wt} {o o2 : Aq} (hW : ∀ Q a w, Wa (Exit.then (Wb Q) Q) a w → Wr Q a w) (ha : Ends P T e w0 S Wa o) (h : Aq.get .norm o = some s) (hb : Ends P T e w0 s Wb o2)
  (hr : (Aq.drop .norm o).isEmpty = true) : Ends P T e w0 S Wr o2 := by
 have hr : Aq.drop .norm o = [] := by simpa using hr
 refine TZ hW ha h hb ⟨fun x u hx hu => .inl ⟨hb.pc x u hx hu, u, hx, hu⟩, fun _ x t hx ht => ⟨t, hx, ht, Ref.refl _⟩, fun _ x t hx => by rw [hr] at hx; cases hx⟩
theorem SR {S s' : St} {W : Wt} {o : Aq} {g g' : G} (he : Ends P T e w0 S W o) (h : OK o g = some (s', g')) (hg : Good T e g') :
  Good T e g ∧ ∀ x s, Aq.get x o = some s → (s.pc.ev e).bool = true → (x = .norm ∨ x = .ret) ∧ Ref e w0 s s' := by
 unfold OK at h
 split at h
 ·simp only [Option.some.injEq, Prod.mk.injEq] at h
  obtain ⟨rfl, rfl⟩ := h
  refine ⟨hg, fun x s hx hs => ?_⟩
  by_cases h0 : x = .norm
  ·subst h0; rw [AG] at hx; injection hx with hx; subst hx; exact ⟨.inl rfl, Ref.refl _⟩
  ·rw [AY h0] at hx; cases hx
 ·simp only [Option.some.injEq, Prod.mk.injEq] at h
  obtain ⟨rfl, rfl⟩ := h
  refine ⟨hg, fun x s hx hs => ?_⟩
  by_cases h0 : x = .ret
  ·subst h0; rw [AG] at hx; injection hx with hx; subst hx; exact ⟨.inr rfl, Ref.refl _⟩
  ·rw [AY h0] at hx; cases hx
 ·rename_i s t
  simp only [Option.some.injEq] at h
  have hm := ER (T := T) (e := e) (w0 := w0) (c := s.pc) (both := none) (s := s) (t := t) (g := g) (by rw [h]; exact hg) (fun _ _ _ h0 => by cases h0)
  rw [h] at hm
  refine ⟨hm.1, fun x u hx hu => ?_⟩
  by_cases h0 : x = .norm
  ·subst h0
   rw [AG] at hx; injection hx with hx; subst hx
   have := hm.2.1
   simp only [pick, hu, if_true] at this
   exact ⟨.inl rfl, this⟩
  ·by_cases h1 : x = .ret
   ·subst h1
    rw [AY h0, AG] at hx; injection hx with hx; subst hx
    have hsf : (s.pc.ev e).bool = false := by
     cases hc : (s.pc.ev e).bool with
     | false => rfl
     | true => exact absurd (he.one .norm .ret s t AG (by rw [AY h0, AG]) hc hu) (by simp)
    have := hm.2.1
    simp only [pick, hsf, Bool.false_eq_true, if_false] at this
    exact ⟨.inr rfl, this⟩
   ·rw [AY h0, AY h1] at hx; cases hx
 ·rename_i t s
  simp only [Option.some.injEq] at h
  have hm := ER (T := T) (e := e) (w0 := w0) (c := s.pc) (both := none) (s := s) (t := t) (g := g) (by rw [h]; exact hg) (fun _ _ _ h0 => by cases h0)
  rw [h] at hm
  refine ⟨hm.1, fun x u hx hu => ?_⟩
  by_cases h1 : x = .ret
  ·subst h1
   rw [AG] at hx; injection hx with hx; subst hx
   have hsf : (s.pc.ev e).bool = false := by
    cases hc : (s.pc.ev e).bool with
    | false => rfl
    | true => exact absurd (he.one .norm .ret s t (by rw [AY (by simp), AG]) AG hc hu) (by simp)
   have := hm.2.1
   simp only [pick, hsf, Bool.false_eq_true, if_false] at this
   exact ⟨.inr rfl, this⟩
  ·by_cases h0 : x = .norm
   ·subst h0
    rw [AY h1, AG] at hx; injection hx with hx; subst hx
    have := hm.2.1
    simp only [pick, hu, if_true] at this
    exact ⟨.inl rfl, this⟩
   ·rw [AY h1, AY h0] at hx; cases hx
 ·cases h
theorem Vy {S : St} {id : Nat} {c : Code} {o : Aq} {g g' : G} {outs : Aq} (ha : Ends P T e w0 S (fun Q a w => c.wp P Q a w) o)
  (h : (match Aq.get (.exit id) o, Aq.get .norm o with
   | none, _ => some (o, g)
   | some t, none => some ((.norm, t) :: Aq.drop (.exit id) o, g)
   | some t, some s =>
    let (u, g) := Cj s.pc none s t g
    some ((.norm, u) :: Aq.drop (.exit id) (Aq.drop .norm o), g)) = some (outs, g')) (hg : Good T e g') :
  Good T e g ∧ Ends P T e w0 S (fun Q a w => (Code.block id c).wp P Q a w) outs := by
 have inb : ∀ {x : Gk} {Q : Exit → Act → World → Prop}, x ≠ .exit id → Exit.inBlock id Q x.to = Q x.to := fun {x Q} hx => by
  cases x with
  | norm => rfl
  | ret => rfl
  | exit id' =>
   have : id' ≠ id := fun h0 => hx (by rw [h0])
   funext a w
   simp [Gk.to, Exit.inBlock, this]
 have inb2 : ∀ {Q : Exit → Act → World → Prop}, Exit.inBlock id Q (Gk.exit id).to = Q .normal := fun {Q} => by
  funext a w
  simp [Gk.to, Exit.inBlock]
 split at h
 ·rename_i hx0
  simp only [Option.some.injEq, Prod.mk.injEq] at h
  obtain ⟨rfl, rfl⟩ := h
  refine ⟨hg, ha.pc, ha.one, fun loc a w Q hpc hf hw hQ => wp_block (ha.wp loc a w _ hpc hf hw fun x s hx hs => ?_)⟩
  rw [inb (fun h0 => by rw [h0, hx0] at hx; cases hx)]
  exact hQ x s hx hs
 ·rename_i t ht hn
  simp only [Option.some.injEq, Prod.mk.injEq] at h
  obtain ⟨rfl, rfl⟩ := h
  have back : ∀ {x s}, Aq.get x ((.norm, t) :: Aq.drop (.exit id) o) = some s → (x = .norm ∧ s = t) ∨ (x ≠ .norm ∧ x ≠ .exit id ∧ Aq.get x o = some s) := fun {x s} hx => by
   by_cases h0 : x = .norm
   ·subst h0; rw [AG] at hx; injection hx with hx; exact .inl ⟨rfl, hx.symm⟩
   ·rw [AY h0] at hx
    by_cases h1 : x = .exit id
    ·subst h1; rw [GG] at hx; cases hx
    ·rw [A6 h1] at hx; exact .inr ⟨h0, h1, hx⟩
  refine ⟨hg, fun x s hx hs => ?_, fun x y s u hx hy hs hu => ?_, fun loc a w Q hpc hf hw hQ => wp_block (ha.wp loc a w _ hpc hf hw fun x s hx hs => ?_)⟩
  ·rcases back hx with ⟨_, rfl⟩ | ⟨_, _, h3⟩
   ·exact ha.pc _ _ ht hs
   ·exact ha.pc _ _ h3 hs
  ·rcases back hx with ⟨rfl, rfl⟩ | ⟨h1, h2, h3⟩ <;> rcases back hy with ⟨rfl, rfl⟩ | ⟨h1', h2', h3'⟩
   ·rfl
   ·exact absurd (ha.one _ _ _ _ h3' ht hu hs) h2'
   ·exact absurd (ha.one _ _ _ _ h3 ht hs hu) h2
   ·exact ha.one _ _ _ _ h3 h3' hs hu
  ·by_cases h1 : x = .exit id
   ·subst h1
    rw [ht] at hx
    injection hx with hx
    subst hx
    rw [inb2]
    exact hQ .norm t AG hs
   ·rw [inb h1]
    have h0 : x ≠ .norm := fun h0 => by rw [h0, hn] at hx; cases hx
    exact hQ x s (by rw [AY h0, A6 h1]; exact hx) hs
 ·rename_i t s ht hn
  simp only [Option.some.injEq, Prod.mk.injEq] at h
  obtain ⟨rfl, rfl⟩ := h
  have hm := ER (w0 := w0) hg (fun _ _ _ h0 => by cases h0)
  have back : ∀ {x u}, Aq.get x ((.norm, (Cj s.pc none s t g).1) :: Aq.drop (.exit id) (Aq.drop .norm o)) = some u →
    (x = .norm ∧ u = (Cj s.pc none s t g).1) ∨ (x ≠ .norm ∧ x ≠ .exit id ∧ Aq.get x o = some u) := fun {x u} hx => by
   by_cases h0 : x = .norm
   ·subst h0; rw [AG] at hx; injection hx with hx; exact .inl ⟨rfl, hx.symm⟩
   ·rw [AY h0] at hx
    by_cases h1 : x = .exit id
    ·subst h1; rw [GG] at hx; cases hx
    ·rw [A6 h1, A6 h0] at hx; exact .inr ⟨h0, h1, hx⟩
  have mpc : (((Cj s.pc none s t g).1).pc.ev e).bool = true → ∃ z v, (z = .norm ∨ z = .exit id) ∧ Aq.get z o = some v ∧ (v.pc.ev e).bool = true := fun hu => by
   rw [hm.2.2] at hu
   cases hc : (s.pc.ev e).bool <;> simp only [pick, hc, if_true, if_false, Bool.false_eq_true] at hu
   ·exact ⟨.exit id, t, .inr rfl, ht, hu⟩
   ·exact ⟨.norm, s, .inl rfl, hn, hc⟩
  refine ⟨hm.1, fun x u hx hu => ?_, fun x y u v hx hy hu hv => ?_, fun loc a w Q hpc hf hw hQ => wp_block (ha.wp loc a w _ hpc hf hw fun x u hx hu => ?_)⟩
  ·rcases back hx with ⟨_, rfl⟩ | ⟨_, _, h3⟩
   ·obtain ⟨z, v, _, hz, hv⟩ := mpc hu
    exact ha.pc _ _ hz hv
   ·exact ha.pc _ _ h3 hu
  ·rcases back hx with ⟨rfl, rfl⟩ | ⟨h1, h2, h3⟩ <;> rcases back hy with ⟨rfl, rfl⟩ | ⟨h1', h2', h3'⟩
   ·rfl
   ·obtain ⟨z, v', hz0, hz, hv'⟩ := mpc hu
    have := ha.one _ _ _ _ h3' hz hv hv'
    subst this
    rcases hz0 with hz0 | hz0
    ·exact absurd hz0 h1'
    ·exact absurd hz0 h2'
   ·obtain ⟨z, v', hz0, hz, hv'⟩ := mpc hv
    have := ha.one _ _ _ _ h3 hz hu hv'
    subst this
    rcases hz0 with hz0 | hz0
    ·exact absurd hz0 h1
    ·exact absurd hz0 h2
   ·exact ha.one _ _ _ _ h3 h3' hu hv
  ·by_cases h1 : x = .exit id
   ·subst h1
    rw [ht] at hx
    injection hx with hx
    subst hx
    rw [inb2]
    have hsf : (s.pc.ev e).bool = false := by
     cases hc : (s.pc.ev e).bool with
     | false => rfl
     | true => exact absurd (ha.one _ _ _ _ hn ht hc hu) (by simp)
    have hr := hm.2.1
    simp only [pick, hsf, Bool.false_eq_true, if_false] at hr
    exact (hQ .norm _ AG (by rw [hm.2.2]; simp only [pick, hsf, Bool.false_eq_true, if_false]; exact hu)).ref hr
   ·rw [inb h1]
    by_cases h0 : x = .norm
    ·subst h0
     rw [hn] at hx
     injection hx with hx
     subst hx
     have hr := hm.2.1
     simp only [pick, hu, if_true] at hr
     exact (hQ .norm _ AG (by rw [hm.2.2]; simp only [pick, hu, if_true])).ref hr
    ·exact hQ x u (by rw [AY h0, A6 h1, A6 h0]; exact hx) hu
end
end Rx
namespace Rx
open Go Go.RowKit
def D6 : Tag → A → A → Prop
 | .i, a, b => a.int = b.int
 | .b, a, b => a.bool = b.bool
 | .v, a, b => a.val = b.val
 | .s, a, b => a.str = b.str
 | .any, a, b => a = b
 | .no, _, _ => True
theorem D6.of_eq {t : Tag} {a b : A} (h : a = b) : D6 t a b := by
 subst h
 cases t <;> first | rfl | trivial
section
variable {T : Nat → List A → Bool × List A} {e e1 e2 : Nat → A} {n : Nat} {loc : Loc} {P : Program} {X : Ctx} {w0 : W0} {tg : Nat → Tag}
theorem CK (h : ∀ i, D6 (tg i) (e1 i) (e2 i)) {t : Tag} {x : L} (hx : Ih tg t x = true) : D6 t (x.ev e1) (x.ev e2) := by
 unfold Ih at hx
 split at hx
 ·rename_i i
  simp only [Bool.or_eq_true, beq_iff_eq] at hx
  have hi := h i
  rcases hx with hx | hx
  ·rw [hx] at hi; exact hi
  ·rw [hx] at hi; exact .of_eq hi
 ·rename_i hnv
  refine .of_eq ?_
  cases x with
  | var i => exact absurd rfl (hnv i)
  | _ => rfl
theorem T1 (h : ∀ i, D6 (tg i) (e1 i) (e2 i)) {k : K} {v : Value} (hu : XJ tg k = true) (hk : k.rel e1 n loc v) : k.rel e2 n loc v := by
 obtain ⟨h1, h2, h3⟩ := hk
 cases k
 case int kd x =>
  have := CK h (t := .i) hu
  simp only [D6] at this
  exact ⟨trivial, h2, .inr (by rw [h3.resolve_left (by simp)]; simp only [K.Bl, this])⟩
 case bool x =>
  have := CK h (t := .b) hu
  simp only [D6] at this
  exact ⟨trivial, h2, .inr (by rw [h3.resolve_left (by simp)]; simp only [K.Bl, this])⟩
 case str x =>
  have := CK h (t := .s) hu
  simp only [D6] at this
  exact ⟨trivial, h2, .inr (by rw [h3.resolve_left (by simp)]; simp only [K.Bl, this])⟩
 case val x =>
  have := CK h (t := .v) hu
  simp only [D6] at this
  exact ⟨trivial, h2, .inr (by rw [h3.resolve_left (by simp)]; simp only [K.Bl, this])⟩
 case sptr r o s m x =>
  have := CK h (t := .i) hu
  simp only [D6] at this
  simp only [K.ok, this] at h1
  exact ⟨h1, h2, .inr (by rw [h3.resolve_left (by simp)]; simp only [K.Bl, this])⟩
 case lsl r m =>
  have := CK h (t := .i) hu
  simp only [D6] at this
  simp only [K.ok, this] at h1
  exact ⟨h1, h2, .inr (by rw [h3.resolve_left (by simp)]; simp only [K.Bl, this])⟩
 case fsl r m =>
  have := CK h (t := .i) hu
  simp only [D6] at this
  simp only [K.ok, this] at h1
  exact ⟨h1, h2, .inr (by rw [h3.resolve_left (by simp)]; simp only [K.Bl])⟩
 case lptr r o s x m =>
  simp only [XJ, Bool.and_eq_true] at hu
  have q1 := CK h (t := .i) hu.1
  have q2 := CK h (t := .i) hu.2
  simp only [D6] at q1 q2
  simp only [K.ok, q1, q2] at h1
  exact ⟨h1, h2, .inr (by rw [h3.resolve_left (by simp)]; simp only [K.Bl, q1])⟩
 all_goals exact ⟨h1, h2, h3⟩
theorem M1 (h : ∀ i, D6 (tg i) (e1 i) (e2 i)) : ∀ {l : List K} {vs : List Value}, l.all (XJ tg) = true → C8 e1 n loc l vs → C8 e2 n loc l vs
 | [], [], _, _ => trivial
 | _ :: _, _ :: _, hu, hk => by
  simp only [List.all_cons, Bool.and_eq_true] at hu
  exact ⟨T1 h hu.1 hk.1, M1 h hu.2 hk.2⟩
theorem Pq (h : ∀ i, D6 (tg i) (e1 i) (e2 i)) {c : C} {v : Value} (hu : U6 tg c = true) (hk : c.rel e1 n loc v) : c.rel e2 n loc v := by
 cases c with
 | k x => exact T1 h hu hk
 | clo f a b =>
  simp only [U6, Bool.and_eq_true] at hu
  obtain ⟨va, vb, a1, a2, a3⟩ := hk
  exact ⟨va, vb, a1, M1 h hu.1 a2, M1 h hu.2 a3⟩
 | cfn x f g =>
  have q := CK h (t := .b) (x := x) hu
  simp only [D6] at q
  simp only [C.rel, ← q]
  exact hk
theorem M3 (h : ∀ i, D6 (tg i) (e1 i) (e2 i)) : ∀ {l : List C} {vs : List Value}, l.all (U6 tg) = true → Aj e1 n loc l vs → Aj e2 n loc l vs
 | [], [], _, _ => trivial
 | _ :: _, _ :: _, hu, hk => by
  simp only [List.all_cons, Bool.and_eq_true] at hu
  exact ⟨Pq h hu.1 hk.1, M3 h hu.2 hk.2⟩
theorem RN (h : ∀ i, D6 (tg i) (e1 i) (e2 i)) {c : PV} {v : Value} (hu : W1 tg c = true) (hk : c.rel e1 n loc v) : c.rel e2 n loc v := by
 cases c with
 | one x => exact Pq h hu hk
 | agg l => obtain ⟨vs, a1, a2⟩ := hk; exact ⟨vs, a1, M3 h hu a2⟩
theorem Pr (h : ∀ i, D6 (tg i) (e1 i) (e2 i)) : ∀ {l : List PV} {vs : List Value}, l.all (W1 tg) = true → AA e1 n loc l vs → AA e2 n loc l vs
 | [], [], _, _ => trivial
 | _ :: _, _ :: _, hu, hk => by
  simp only [List.all_cons, Bool.and_eq_true] at hu
  exact ⟨RN h hu.1 hk.1, Pr h hu.2 hk.2⟩
theorem XU (h : ∀ i, D6 (tg i) (e1 i) (e2 i)) {c : SV} {v : Value} (hu : W3 tg c = true) (hk : c.rel e1 n loc v) : c.rel e2 n loc v := by
 cases c with
 | pv p => exact RN h hu hk
 | tup l => obtain ⟨vs, a1, a2⟩ := hk; exact ⟨vs, a1, Pr h hu a2⟩
 | cond gs p => simp [W3] at hu
 | undef => exact hk
 | junk => trivial
theorem RO (h : ∀ i, D6 (tg i) (e1 i) (e2 i)) {fr : List SV} {tm : Array Value} (hu : fr.all (W3 tg) = true) (hk : Ax e1 n loc fr tm) : Ax e2 n loc fr tm :=
 ⟨hk.len, fun i s v hs hv => XU h (by rw [List.all_eq_true] at hu; exact hu _ (List.mem_of_getElem? hs)) (hk.at_ i s v hs hv)⟩
theorem Ps (h : ∀ i, D6 (tg i) (e1 i) (e2 i)) {w : World} {B : Bd} {rows : List Row} (hu : rows.all (U7 tg) = true) (hk : Ad e1 loc rows w B) : Ad e2 loc rows w B := by
 rw [List.all_eq_true] at hu
 have use_ : ∀ (r : Nat) (x : Row), rows[r]? = some x → x.cells.all (U6 tg) = true ∧ ∀ q, x.lst = some q → Ih tg .any q.x = true ∧ Ih tg .i q.n = true := fun r x hr => by
  have := hu x (List.mem_of_getElem? hr)
  simp only [U7, Bool.and_eq_true] at this
  refine ⟨this.1, fun q hq => ?_⟩
  have h2 := this.2
  rw [hq] at h2
  simpa using h2
 refine ⟨fun r x hr => ?_, fun r x q hr hq => ?_, hk.lapart, hk.apart⟩
 ·have hrow := hk.row r x hr
  obtain ⟨u1, _⟩ := use_ r x hr
  unfold AH at hrow ⊢
  split
  ·rename_i ho
   rw [if_pos ho] at hrow
   obtain ⟨b1, b2, b3, b4, vs, sp, b5, b6, b7⟩ := hrow
   exact ⟨b1, b2, b3, b4, vs, sp, b5, M3 h u1 b6, b7⟩
  ·rename_i ho
   rw [if_neg ho] at hrow
   intro hc
   obtain ⟨b1, b2, b3⟩ := hrow hc
   refine ⟨b1, b2, fun j c hj => ?_⟩
   obtain ⟨v, hv, hr'⟩ := b3 j c hj
   rw [List.all_eq_true] at u1
   exact ⟨v, hv, Pq h (u1 c (List.mem_of_getElem? hj)) hr'⟩
 ·obtain ⟨k1, as, m, l1, l2, l3, l4, l5⟩ := hk.lst r x q hr hq
  obtain ⟨u1, u2⟩ := (use_ r x hr).2 q hq
  have q1 := CK h u1
  have q2 := CK h u2
  simp only [D6] at q1 q2
  exact ⟨k1, as, m, by rw [← q1]; exact l1, l2, by rw [← q2]; exact l3, l4, l5⟩
def NV (as : List A) (i : Nat) : A := as.getD i (.i 0)
def T2 (q : Lp) (as outs : List A) (i : Nat) : A :=
 if i < q.k then (if q.MB.getD i false then as.getD i (.i 0) else .i 0) else outs.getD (i - q.k) (.i 0)
def A2 (P : Program) (T : Nat → List A → Bool × List A) (q : Lp) (code : Code) : Prop :=
 (∀ as, (T q.id as).1 = true → (T q.id as).2.length = q.w) ∧
 ∀ (as : List A) (w0 : W0) (loc : Loc) (a : Act) (w : World) (Q : Exit → Act → World → Prop), O1 P w0.w → as.length = q.k → (T q.id as).1 = true →
  Ax (NV as) q.tm.rows.length loc q.tm.fr a.tmps → Bn (NV as) w0 loc q.tm.rows w →
  (∀ x s e', (x, s) ∈ q.outs → (∀ i, D6 (q.tag i) (e' i) (T2 q as (T q.id as).2 i)) → (s.pc.ev e').bool = true → ∀ (loc' : Loc) (a' : Act) (w' : World), AO q.m loc loc' →
   Ax e' s.rows.length loc' s.fr a'.tmps → a'.defers = a.defers → Bn e' w0 loc' s.rows w' → Q x.to a' w') → LW P code Q a w
theorem Ki {σ : Nat → L} {pc : L} : ∀ {l : List (Gk × St)} {g : G}, Good T e (CO σ pc l g).2 → Good T e g ∧
  (∀ x u, Aq.get x (CO σ pc l g).1 = some u → ∃ s, (x, s) ∈ l ∧ u.fr = (DQ σ s).fr ∧ u.rows = (DQ σ s).rows ∧ (u.pc.ev e).bool = ((pc.ev e).bool && ((CX σ s.pc).ev e).bool)) ∧
  (W5 l = true → ∀ x s, (x, s) ∈ l → ∃ u, Aq.get x (CO σ pc l g).1 = some u ∧ u.fr = (DQ σ s).fr ∧ u.rows = (DQ σ s).rows ∧ (u.pc.ev e).bool = ((pc.ev e).bool && ((CX σ s.pc).ev e).bool))
 | [], g, h => ⟨h, fun x u hx => by simp [CO, Aq.get] at hx, fun _ x s hs => by cases hs⟩
 | (y, t) :: l, g, h => by
  unfold CO at h ⊢
  simp only at h ⊢
  obtain ⟨h1, h2, h3⟩ := Ki h
  have hm := AX h1
  refine ⟨hm.1, fun x u hx => ?_, fun hb x s hs => ?_⟩
  ·by_cases hxy : x = y
   ·subst hxy
    rw [AG] at hx
    injection hx with hx
    subst hx
    exact ⟨t, List.mem_cons_self .., rfl, rfl, hm.2⟩
   ·rw [AY hxy] at hx
    obtain ⟨s, s1, s2⟩ := h2 x u hx
    exact ⟨s, List.mem_cons_of_mem _ s1, s2⟩
  ·simp only [W5, Bool.and_eq_true, List.all_eq_true] at hb
   rcases List.mem_cons.1 hs with heq | hs
   ·injection heq with h5 h6
    subst h5 h6
    exact ⟨_, AG, rfl, rfl, hm.2⟩
   ·have hne : x ≠ y := fun h0 => by
     have := hb.1 _ hs
     rw [h0] at this
     simp [Gk.En.2 rfl] at this
    obtain ⟨u, u1, u2⟩ := h3 hb.2 x s hs
    exact ⟨u, by rw [AY hne]; exact u1, u2⟩
theorem Ix {pc a : L} : ∀ {l : List L} {g : G}, Good T e (JA pc a l g) → Good T e g ∧ ((pc.ev e).bool = true → ∀ b ∈ l, ¬ ((a.ev e).bool = true ∧ (b.ev e).bool = true))
 | [], g, h => ⟨h, fun _ b hb => by cases hb⟩
 | b :: l, g, h => by
  unfold JA at h
  simp only at h
  obtain ⟨h1, h2⟩ := Ix h
  have hm := As h1
  have hn := BL hm.1
  have ha := AX hn.1
  refine ⟨ha.1, fun hpc c hc => ?_⟩
  rcases List.mem_cons.1 hc with rfl | hc
  ·have := hm.2 hpc
   rw [hn.2] at this
   simp only [A.Ao, ha.2] at this
   intro ⟨k1, k2⟩
   rw [k1, k2] at this
   cases this
  ·exact h2 hpc c hc
theorem FR {pc : L} : ∀ {l : List L} {g : G}, Good T e (BY pc l g) → Good T e g ∧ ((pc.ev e).bool = true → ∀ (i j : Nat) a b, i < j → l[i]? = some a → l[j]? = some b → ¬ ((a.ev e).bool = true ∧ (b.ev e).bool = true))
 | [], g, h => ⟨h, fun _ i j a b _ ha => by simp at ha⟩
 | c :: l, g, h => by
  unfold BY at h
  obtain ⟨h1, h2⟩ := FR h
  obtain ⟨h3, h4⟩ := Ix h1
  refine ⟨h3, fun hpc i j a b hij ha hb => ?_⟩
  obtain ⟨j, rfl⟩ : ∃ j', j = j' + 1 := ⟨j - 1, by omega⟩
  have hb' : l[j]? = some b := by simpa using hb
  cases i with
  | zero =>
   simp only [List.getElem?_cons_zero, Option.some.injEq] at ha
   subst ha
   exact h4 hpc b (List.mem_of_getElem? hb')
  | succ i => exact h2 hpc i j a b (by omega) (by simpa using ha) hb'
theorem QR {q : Lp} {code : Code} {S : St} {outs : Aq} {g g' : G} (hT : O1 P w0.w) (hq : A2 P T q code) (h : Sr q S g = some (outs, g')) (hg : Good T e g') :
  Good T e g ∧ Ends P T e w0 S (fun Q a w => LW P code Q a w) outs := by
 unfold Sr at h
 split at h
 rename_i ml ρ _
 simp at h
 obtain ⟨hm, ⟨⟨c1, c2⟩, c3⟩, h⟩ := h
 generalize hls : Fb ml q.k = ls at h c1
 have hlen : ls.length = q.k := by rw [← hls]; simp [Fb]
 have hgl : Good T e (CO (CN q ls (Fc (g.next + 1) q.w)) S.pc q.outs (BY S.pc (q.outs.map fun x => CX (CN q ls (Fc (g.next + 1) q.w)) x.2.pc) ((g.BJ (.call q.id) ls (1 + q.w)).2.Bo S.pc (.var g.next)))).2 := by
  have h' : CO (CN q ls (Fc (g.next + 1) q.w)) S.pc q.outs (BY S.pc (q.outs.map fun x => CX (CN q ls (Fc (g.next + 1) q.w)) x.2.pc) ((g.BJ (.call q.id) ls (1 + q.w)).2.Bo S.pc (.var g.next))) = (outs, g') := h
  rw [h']
  exact hg
 have houts : outs = (CO (CN q ls (Fc (g.next + 1) q.w)) S.pc q.outs (BY S.pc (q.outs.map fun x => CX (CN q ls (Fc (g.next + 1) q.w)) x.2.pc) ((g.BJ (.call q.id) ls (1 + q.w)).2.Bo S.pc (.var g.next)))).1 := by
  have h' : CO (CN q ls (Fc (g.next + 1) q.w)) S.pc q.outs (BY S.pc (q.outs.map fun x => CX (CN q ls (Fc (g.next + 1) q.w)) x.2.pc) ((g.BJ (.call q.id) ls (1 + q.w)).2.Bo S.pc (.var g.next))) = (outs, g') := h
  rw [h']
 clear h hg
 generalize hσ : CN q ls (Fc (g.next + 1) q.w) = σ at hgl houts
 obtain ⟨h1, h2, h3⟩ := Ki hgl
 obtain ⟨h4, h5⟩ := FR h1
 have hmu := As h4
 have hpn := Dh hmu.1
 rw [← houts] at h2 h3
 refine ⟨hpn.1, fun x u hx hu => ?_, fun x y u v hx hy hu hv => ?_, fun loc a w Q hpc hf hw hQ => ?_⟩
 ·obtain ⟨s, _, _, _, s4⟩ := h2 x u hx
  rw [s4, Bool.and_eq_true] at hu
  exact hu.1
 ·obtain ⟨s, s1, _, _, s4⟩ := h2 x u hx
  obtain ⟨t, t1, _, _, t4⟩ := h2 y v hy
  rw [s4, Bool.and_eq_true] at hu
  rw [t4, Bool.and_eq_true] at hv
  obtain ⟨i, hi, hi2⟩ := List.mem_iff_getElem.1 s1
  obtain ⟨j, hj, hj2⟩ := List.mem_iff_getElem.1 t1
  have gi : (q.outs.map fun x => CX σ x.2.pc)[i]? = some (CX σ s.pc) := by rw [List.getElem?_map, List.getElem?_eq_getElem hi, hi2]; rfl
  have gj : (q.outs.map fun x => CX σ x.2.pc)[j]? = some (CX σ t.pc) := by rw [List.getElem?_map, List.getElem?_eq_getElem hj, hj2]; rfl
  rcases Nat.lt_trichotomy i j with hij | hij | hij
  ·exact absurd ⟨hu.2, hv.2⟩ (h5 hu.1 i j _ _ hij gi gj)
  ·subst hij
   rw [hi2] at hj2
   injection hj2
  ·exact absurd ⟨hv.2, hu.2⟩ (h5 hu.1 j i _ _ hij gj gi)
 ·-- the head
  obtain ⟨k1, k2, k3, k4, k5⟩ := Fo (e := e) (loc := loc) (w0 := w0) c1
  have he1 : ∀ i, NV (ls.map (L.ev e)) i = (BX ls i).ev e := fun i => by
   unfold NV BX
   rw [List.getD, List.getElem?_map]
   cases ls[i]? <;> rfl
  have hpre : (T q.id (ls.map (L.ev e))).1 = true := by
   have p1 := hmu.2 hpc
   have p2 := hpn.2 0 _ rfl
   simp only [G.BJ, Nat.add_zero] at p2
   rw [L.Ak, p2] at p1
   exact p1
  have hfr := k4 _ hf
  have hcl := k5 _ hw
  have hrl : (DQ (BX ls) q.tm).rows.length = q.tm.rows.length := by simp [DQ]
  rw [hrl] at hfr
  refine hq.2 (ls.map (L.ev e)) w0 (Fm loc ρ) a w Q hT (by simpa using hlen) hpre ((GF he1).1 hfr) (by obtain ⟨B, hB, hR, hbel⟩ := hcl; exact ⟨B, hB, (Fk he1).1 hR, hbel⟩) fun x s e' hxs hag hs loc' a' w' q1 q2 q3 q4 => ?_
  obtain ⟨u, u1, u2, u3, u4⟩ := h3 c2 x s hxs
  have hus := c3 _ _ hxs
  simp only [Bool.and_eq_true, W4] at hus
  obtain ⟨⟨⟨us1, us2⟩, us3⟩, us4⟩ := hus
  have hw' := hq.1 _ hpre
  have he2 : ∀ i, T2 q (ls.map (L.ev e)) (T q.id (ls.map (L.ev e))).2 i = (σ i).ev e := fun i => by
   rw [← hσ]
   unfold T2 CN
   split
   ·split
    ·exact he1 i
    ·rfl
   ·unfold BX Fc
    generalize i - q.k = j
    by_cases hj : j < q.w
    ·have hj' : (T q.id (ls.map (L.ev e))).2[j]? = some ((T q.id (ls.map (L.ev e))).2[j]'(by omega)) := List.getElem?_eq_getElem (by omega)
     have := hpn.2 (j + 1) _ (show (D.ev T (.call q.id) (ls.map (L.ev e)))[j + 1]? = some _ from hj')
     simp only [G.BJ] at this
     rw [List.getD, hj', List.getElem?_map, List.getElem?_range hj]
     simp only [Option.map_some, Option.getD_some, L.Ak]
     rw [← this]
     congr 1
     omega
    ·rw [List.getD, List.getElem?_eq_none (by omega), List.getElem?_eq_none (by simp; omega)]
     rfl
  have hfr2 := RO hag us1 q2
  obtain ⟨B4, hB4, hR4, hbel4⟩ := q4
  have hrw2 := Ps hag us2 hR4
  have hpc2 := CK hag us3
  simp only [D6] at hpc2
  have hrl2 : (DQ σ s).rows.length = s.rows.length := by simp [DQ]
  refine hQ x u u1 (by rw [u4, hpc, JM he2, ← hpc2, hs]; rfl) loc' a' w' (by rw [hm]; exact k3.trans q1 (Nat.le_refl _)) (by rw [hm, u3, hrl2]; exact us4) ?_ q3 ?_
  ·rw [u2, u3, hrl2]
   exact (GF he2).2 hfr2
  ·rw [u3]
   exact ⟨B4, hB4, (Fk he2).2 hrw2, hbel4⟩
end
end Rx
namespace Rx
open Go Go.RowKit
section
variable {T : Nat → List A → Bool × List A} {e : Nat → A} {P : Program} {X : Ctx} {w0 : W0}
theorem Ax.enter {n : Nat} {loc : Loc} {args : List PV} {vs : List Value} {m : Nat} (h : AA e n loc args vs) :
  Ax e n loc (args.map .pv ++ List.replicate (m - args.length) .undef) (vs.toArray ++ Array.replicate (m - vs.toArray.size) Go.undef) := by
 have hl := G0 h
 have at_ : ∀ {args : List PV} {vs : List Value} (i : Nat) (p : PV) (v : Value), AA e n loc args vs → args[i]? = some p → vs[i]? = some v → p.rel e n loc v := by
  intro args
  induction args with
  | nil => intro vs i p v _ h; simp at h
  | cons a l ih =>
   intro vs i p v h hp hv
   cases vs with
   | nil => exact h.elim
   | cons b vs =>
    cases i with
    | zero => simp at hp hv; subst hp hv; exact h.1
    | succ i => exact ih i p v h.2 (by simpa using hp) (by simpa using hv)
 refine ⟨by simp [hl], fun i s v hs hv => ?_⟩
 by_cases hi : i < args.length
 ·rw [List.getElem?_append_left (by simpa using hi)] at hs
  rw [Array.getElem?_append_left (by simp; omega)] at hv
  simp only [List.getElem?_map, Option.map_eq_some_iff] at hs
  obtain ⟨p, hp, rfl⟩ := hs
  exact at_ i p v h hp (by simpa using hv)
 ·rw [List.getElem?_append_right (by simp; omega)] at hs
  rw [Array.getElem?_append_right (by simp; omega)] at hv
  have hs' := List.mem_of_getElem? hs
  have hv' := Array.mem_of_getElem? hv
  rw [List.mem_replicate] at hs'
  rw [Array.mem_replicate] at hv'
  rw [hs'.2, hv'.2]
  rfl
theorem SS {c : L} {both : Option (L × L × L)} {s t : L} {g : G} (h : Good T e (FE c both s t g).2) : Good T e g := by
 unfold FE at h
 split at h
 ·split at h
  ·exact h
  ·exact (Ek h).1
 ·exact (Ek h).1
theorem ES {c : L} {both : Option (L × L × L)} {s t : St} {g : G} (h : Good T e (Cj c both s t g).2) : Good T e g := by
 unfold Cj at h
 generalize Dn s t = st at h
 simp only at h
 exact (EL (DE (SS h)).1).1
theorem DI {c nc : L} {both : Option (L × L × L)} : ∀ {o1 o2 : Aq} {g : G}, Good T e (combine c nc both o1 o2 g).2 → Good T e g
 | [], o2, g, h => (KT (w0 := default) h).1
 | (y, s) :: l, o2, g, h => by
  unfold combine at h
  cases ht : Aq.get y o2 with
  | some t =>
   rw [ht] at h
   simp only at h
   exact ES (DI h)
  | none =>
   rw [ht] at h
   simp only at h
   exact (AX (DI h)).1
theorem Vz {id : Nat} {o : Aq} {g g' : G} {outs : Aq} (h : (match Aq.get (.exit id) o, Aq.get .norm o with
   | none, _ => some (o, g)
   | some t, none => some ((.norm, t) :: Aq.drop (.exit id) o, g)
   | some t, some s =>
    let (u, g) := Cj s.pc none s t g
    some ((.norm, u) :: Aq.drop (.exit id) (Aq.drop .norm o), g)) = some (outs, g')) (hg : Good T e g') : Good T e g := by
 split at h
 ·simp only [Option.some.injEq, Prod.mk.injEq] at h
  obtain ⟨_, rfl⟩ := h
  exact hg
 ·simp only [Option.some.injEq, Prod.mk.injEq] at h
  obtain ⟨_, rfl⟩ := h
  exact hg
 ·simp only [Option.some.injEq, Prod.mk.injEq] at h
  obtain ⟨_, rfl⟩ := h
  exact ES hg
theorem T3 {o : Aq} {g g' : G} {s : St} (h : OK o g = some (s, g')) (hg : Good T e g') : Good T e g := by
 unfold OK at h
 split at h
 ·simp only [Option.some.injEq, Prod.mk.injEq] at h
  obtain ⟨_, rfl⟩ := h
  exact hg
 ·simp only [Option.some.injEq, Prod.mk.injEq] at h
  obtain ⟨_, rfl⟩ := h
  exact hg
 ·simp only [Option.some.injEq] at h
  exact ES (c := _) (both := none) (s := _) (t := _) (by rw [h]; exact hg)
 ·simp only [Option.some.injEq] at h
  exact ES (c := _) (both := none) (s := _) (t := _) (by rw [h]; exact hg)
 ·cases h
def child : Code → Bool → Option Code
 | .seq a b, t => some (if t then b else a)
 | .cond _ a b, t => some (if t then b else a)
 | .block _ c, false => some c
 | .loop c, false => some c
 | _, _ => none
def Bx : List Bool → Code → Option Code
 | [], c => some c
 | b :: p, c => match Bx p c with | some d => child d b | none => none
def AtF (X : Ctx) (f : Nat) (pa : List Bool) (c : Code) : Prop := ∃ fn body, X.fns f = some fn ∧ fn.body = some body ∧ Bx pa body = some c
theorem AtF.child {f : Nat} {pa : List Bool} {c d : Code} {b : Bool} (h : AtF X f pa c) (hd : Rx.child c b = some d) : AtF X f (b :: pa) d := by
 obtain ⟨fn, body, h1, h2, h3⟩ := h
 exact ⟨fn, body, h1, h2, by simp only [Bx, h3, hd]⟩
structure XL (P : Program) (T : Nat → List A → Bool × List A) (X : Ctx) : Prop extends XOK P T X where
 lps : ∀ q ∈ X.lps, ∀ fn body c, X.fns q.f = some fn → fn.body = some body → Bx q.p body = some (.loop c) → A2 P T q c
theorem RP : ∀ {a b : List Bool}, C7 (· == ·) a b = true → a = b
 | [], [], _ => rfl
 | [], _ :: _, h => by simp [C7] at h
 | _ :: _, [], h => by simp [C7] at h
 | a :: l, b :: m, h => by
  simp only [C7, Bool.and_eq_true, beq_iff_eq] at h
  rw [h.1, RP h.2]
theorem Fp {f : Nat} {pa : List Bool} {S : St} {c : Code} {outs : Aq} {g g' : G} (hT : O1 P w0.w) : ∀ {l : List Lp}, (∀ q ∈ l, q.f = f → q.p = pa → A2 P T q c) → Gn f pa S g l = some (outs, g') → Good T e g' →
  Good T e g ∧ Ends P T e w0 S (fun Q a w => LW P c Q a w) outs
 | [], _, h, _ => by simp [Gn] at h
 | q :: l, hl, h, hg => by
  unfold Gn at h
  have hl' : ∀ q ∈ l, q.f = f → q.p = pa → A2 P T q c := fun q hq => hl q (by simp [hq])
  split at h
  ·rename_i hc
   simp only [Bool.and_eq_true, beq_iff_eq] at hc
   split at h
   ·rename_i r hr
    injection h with h
    subst h
    exact QR hT (hl q (by simp) hc.1 (RP hc.2)) hr hg
   ·exact Fp hT hl' h hg
  ·exact Fp hT hl' h hg
theorem Hb (hX : XL P T X) (hT : O1 P w0.w) : ∀ n : Nat,
  (∀ (f : Nat) (pa : List Bool) (c : Code) (S : St) (g : G) (outs : Aq) (g' : G), AtF X f pa c → exec X n f pa c S g = some (outs, g') → Good T e g' → Good T e g ∧ Ends P T e w0 S (fun Q a w => c.wp P Q a w) outs) ∧
  (∀ (f : Nat) (pa : List Bool) (c : Code) (S : St) (k : Nat) (g : G) (outs : Aq) (g' : G), AtF X f pa c → rounds X n f pa c S k g = some (outs, g') → Good T e g' → Good T e g ∧ Ends P T e w0 S (fun Q a w => LW P c Q a w) outs) ∧
  HC P T e w0 (inline X n)
 | 0 => ⟨fun f pa c S g outs g' _ h => by simp [exec] at h, fun f pa c S k g outs g' _ h => by simp [rounds] at h, hT, fun f args rows pc g v rows' g' h => by simp [inline] at h⟩
 | n + 1 => by
  obtain ⟨ih1, ih2, ih3⟩ := Hb hX hT n
  refine ⟨fun f pa c S g outs g' hat h hg => ?_, fun f pa c S k g outs g' hat h hg => ?_, hT, fun f args rows pc g v rows' g' h hg => ?_⟩
  ·cases c with
   | skip =>
    simp only [exec, Option.some.injEq, Prod.mk.injEq] at h
    obtain ⟨rfl, rfl⟩ := h
    exact ⟨hg, FQ rfl fun loc a w Q hpc hf hw hc => wp_skip (hc loc a w (AO.refl _ _) (Nat.le_refl _) hf rfl hw)⟩
   | ret =>
    simp only [exec, Option.some.injEq, Prod.mk.injEq] at h
    obtain ⟨rfl, rfl⟩ := h
    exact ⟨hg, FQ rfl fun loc a w Q hpc hf hw hc => wp_ret (hc loc a w (AO.refl _ _) (Nat.le_refl _) hf rfl hw)⟩
   | exit id =>
    simp only [exec, Option.some.injEq, Prod.mk.injEq] at h
    obtain ⟨rfl, rfl⟩ := h
    exact ⟨hg, FQ rfl fun loc a w Q hpc hf hw hc => wp_exit (hc loc a w (AO.refl _ _) (Nat.le_refl _) hf rfl hw)⟩
   | region id ops draw =>
    simp only [exec, Option.bind_eq_bind, Option.bind_eq_some_iff, Option.some.injEq, Prod.mk.injEq] at h
    obtain ⟨⟨S', g1⟩, h1, rfl, rfl⟩ := h
    obtain ⟨k1, k2, k3⟩ := M0 hX.toXOK ih3 h1 hg
    refine ⟨k1, FQ k2 fun loc a w Q hpc hf hw hc => ?_⟩
    have := k3 id loc a w Q hpc hf hw hc
    simpa using this
   | seq x y =>
    simp only [exec, Option.bind_eq_bind, Option.bind_eq_some_iff] at h
    obtain ⟨⟨o, g1⟩, h1, h⟩ := h
    simp only at h
    have hW : ∀ Q a w, x.wp P (Exit.then (y.wp P Q) Q) a w → (Code.seq x y).wp P Q a w := fun Q a w hh => wp_seq hh
    split at h
    ·rename_i hn
     simp only [Option.some.injEq, Prod.mk.injEq] at h
     obtain ⟨rfl, rfl⟩ := h
     obtain ⟨k1, k2⟩ := ih1 _ _ _ _ _ _ _ (hat.child rfl) h1 hg
     exact ⟨k1, RM (Wb := fun Q a w => y.wp P Q a w) hW k2 hn⟩
    ·rename_i s hn
     split at h
     ·rename_i hf
      simp only [Option.some.injEq, Prod.mk.injEq] at h
      obtain ⟨rfl, rfl⟩ := h
      obtain ⟨k1, k2⟩ := ih1 _ _ _ _ _ _ _ (hat.child rfl) h1 hg
      exact ⟨k1, Po (Wb := fun Q a w => y.wp P Q a w) hW k2 hn hf⟩
     ·simp only [Option.bind_eq_some_iff] at h
      obtain ⟨⟨o2, g2⟩, h2, h⟩ := h
      simp only at h
      split at h
      ·rename_i hr
       simp only [Option.some.injEq, Prod.mk.injEq] at h
       obtain ⟨rfl, rfl⟩ := h
       obtain ⟨q1, q2⟩ := ih1 _ _ _ _ _ _ _ (hat.child rfl) h2 hg
       obtain ⟨k1, k2⟩ := ih1 _ _ _ _ _ _ _ (hat.child rfl) h1 q1
       exact ⟨k1, Pp hW k2 hn q2 hr⟩
      ·simp only [Option.some.injEq] at h
       have hgc : Good T e (combine s.pc (mkNot s.pc g2).1 none o2 (Aq.drop .norm o) (mkNot s.pc g2).2).2 := by rw [h]; exact hg
       have hcg := DH (w0 := w0) (T := T) (e := e) (c := s.pc) (nc := (mkNot s.pc g2).1) (both := none) (o1 := o2) (o2 := Aq.drop .norm o) (g := (mkNot s.pc g2).2)
       have hgn : Good T e (mkNot s.pc g2).2 := DI hgc
       have hnot := BL hgn
       obtain ⟨q1, q2⟩ := ih1 _ _ _ _ _ _ _ (hat.child rfl) h2 hnot.1
       obtain ⟨k1, k2⟩ := ih1 _ _ _ _ _ _ _ (hat.child rfl) h1 q1
       have := LB hW k2 hn q2 (nc := (mkNot s.pc g2).1) (by rw [hnot.2]; rfl) hgc
       rw [h] at this
       exact ⟨k1, this⟩
   | cond c x y =>
    simp only [exec, Option.bind_eq_bind, Option.bind_eq_some_iff] at h
    obtain ⟨p, hp, b, hb, h⟩ := h
    have hev : ∀ loc (a : Act), Ax e S.rows.length loc S.fr a.tmps → a.eval c = .bool (b.ev e).bool := fun loc a hf => PV.OS hb (Aa hp hf (fun x hx => by cases hx))
    split at h
    ·obtain ⟨k1, k2⟩ := ih1 _ _ _ _ _ _ _ (hat.child rfl) h hg
     exact ⟨k1, k2.pc, k2.one, fun loc a w Q hpc hf hw hQ => wp_cond_true (hev loc a hf) (k2.wp loc a w Q hpc hf hw hQ)⟩
    ·obtain ⟨k1, k2⟩ := ih1 _ _ _ _ _ _ _ (hat.child rfl) h hg
     exact ⟨k1, k2.pc, k2.one, fun loc a w Q hpc hf hw hQ => wp_cond_false (hev loc a hf) (k2.wp loc a w Q hpc hf hw hQ)⟩
    ·simp only [Option.bind_eq_some_iff] at h
     obtain ⟨⟨o1, g1⟩, h1, ⟨o2, g2⟩, h2, h⟩ := h
     simp only [Option.some.injEq] at h
     obtain ⟨nx, gn, hnx⟩ : ∃ nx gn, mkNot b g = (nx, gn) := ⟨_, _, rfl⟩
     obtain ⟨p1, ga, hp1⟩ : ∃ p1 ga, mkAnd S.pc b gn = (p1, ga) := ⟨_, _, rfl⟩
     obtain ⟨p2, gb, hp2⟩ : ∃ p2 gb, mkAnd S.pc nx ga = (p2, gb) := ⟨_, _, rfl⟩
     simp only [hnx, hp1, hp2] at h h1 h2
     have hgc : Good T e (combine b nx (some (S.pc, p1, p2)) o1 o2 g2).2 := by rw [h]; exact hg
     have hg2 : Good T e g2 := DI hgc
     obtain ⟨q1, q2⟩ := ih1 _ _ _ _ _ _ _ (hat.child rfl) h2 hg2
     obtain ⟨k1, k2⟩ := ih1 _ _ _ _ _ _ _ (hat.child rfl) h1 q1
     have m2 := AX (T := T) (e := e) (a := S.pc) (b := nx) (g := ga) (by rw [hp2]; exact k1)
     rw [hp2] at m2
     have m1 := AX (T := T) (e := e) (a := S.pc) (b := b) (g := gn) (by rw [hp1]; exact m2.1)
     rw [hp1] at m1
     have m0 := BL (T := T) (e := e) (a := b) (g := g) (by rw [hnx]; exact m1.1)
     rw [hnx] at m0
     have hnc : (nx.ev e).bool = !(b.ev e).bool := by rw [m0.2]; rfl
     have hcg := (DH (w0 := w0) hnc (fun p x y h0 => by
      simp only [Option.some.injEq, Prod.mk.injEq] at h0
      obtain ⟨rfl, rfl, rfl⟩ := h0
      exact ⟨m1.2, by rw [m2.2, hnc]⟩) hgc).2
     rw [h] at hcg
     obtain ⟨c1, c2, c3⟩ := hcg
     refine ⟨m0.1, fun x u hx hu => ?_, fun x y u v hx hy hu hv => ?_, fun loc a w Q hpc hf hw hQ => ?_⟩
     ·rcases c1 x u hx hu with ⟨_, s, s1, s2⟩ | ⟨_, s, s1, s2⟩
      ·have := k2.pc x s s1 s2
       simp only [m1.2, Bool.and_eq_true] at this
       exact this.1
      ·have := q2.pc x s s1 s2
       simp only [m2.2, Bool.and_eq_true] at this
       exact this.1
     ·rcases c1 x u hx hu with ⟨a1, s, s1, s2⟩ | ⟨a1, s, s1, s2⟩ <;> rcases c1 y v hy hv with ⟨a2, t, t1, t2⟩ | ⟨a2, t, t1, t2⟩
      ·exact k2.one _ _ _ _ s1 t1 s2 t2
      ·rw [a1] at a2; cases a2
      ·rw [a1] at a2; cases a2
      ·exact q2.one _ _ _ _ s1 t1 s2 t2
     ·refine wp_cond_split (hev loc a hf) (fun ht => ?_) (fun ht => ?_)
      ·refine k2.wp loc a w Q (by simp only [m1.2, hpc, ht, Bool.and_self]) hf hw fun x s hx hs => ?_
       obtain ⟨u, u1, u2, u3⟩ := c2 ht x s hx hs
       exact (hQ x u u1 u2).ref u3
      ·refine q2.wp loc a w Q (by simp only [m2.2, hpc, hnc, ht]; rfl) hf hw fun x s hx hs => ?_
       obtain ⟨u, u1, u2, u3⟩ := c3 ht x s hx hs
       exact (hQ x u u1 u2).ref u3
   | block id c =>
    simp only [exec, Option.bind_eq_bind, Option.bind_eq_some_iff] at h
    obtain ⟨⟨o, g1⟩, h1, h⟩ := h
    simp only at h
    have hg1 : Good T e g1 := Vz h hg
    obtain ⟨k1, k2⟩ := ih1 _ _ _ _ _ _ _ (hat.child rfl) h1 hg1
    exact ⟨k1, (Vy k2 h hg).2⟩
   | loop c =>
    simp only [exec] at h
    split at h
    ·obtain ⟨fn, body, f1, f2, f3⟩ := hat
     obtain ⟨k1, k2⟩ := Fp (w0 := w0) (c := c) hT (fun q hq hf hp => hX.lps q hq fn body c (by rw [hf]; exact f1) f2 (by rw [hp]; exact f3)) h hg
     exact ⟨k1, k2.pc, k2.one, fun loc a w Q hpc hf hw hQ => (k2.wp loc a w Q hpc hf hw hQ).wp⟩
    obtain ⟨k1, k2⟩ := ih2 _ _ _ _ _ _ _ _ (hat.child rfl) h hg
    exact ⟨k1, k2.pc, k2.one, fun loc a w Q hpc hf hw hQ => (k2.wp loc a w Q hpc hf hw hQ).wp⟩
   | _ => simp [exec] at h
  ·simp only [rounds, Option.bind_eq_bind] at h
   have hW : ∀ Q a w, c.wp P (Exit.then (LW P c Q) Q) a w → LW P c Q a w := fun Q a w hh => .of hh
   split at h
   ·simp only [Option.some.injEq, Prod.mk.injEq] at h
    obtain ⟨rfl, rfl⟩ := h
    have hm := As hg
    have hn := BL hm.1
    have hf : (S.pc.ev e).bool = false := by
     have := hm.2 rfl
     rw [hn.2] at this
     simpa using this
    exact ⟨hn.1, fun x s hx => by simp [Aq.get] at hx, fun x y s t hx => by simp [Aq.get] at hx, fun loc a w Q hpc => by rw [hf] at hpc; cases hpc⟩
   ·simp only [Option.bind_eq_some_iff] at h
    obtain ⟨⟨o, g1⟩, h1, h⟩ := h
    simp only at h
    split at h
    ·rename_i hn
     simp only [Option.some.injEq, Prod.mk.injEq] at h
     obtain ⟨rfl, rfl⟩ := h
     obtain ⟨k1, k2⟩ := ih1 _ _ _ _ _ _ _ hat h1 hg
     exact ⟨k1, RM (Wb := fun Q a w => LW P c Q a w) hW k2 hn⟩
    ·rename_i s hn
     split at h
     ·rename_i hf
      simp only [Option.some.injEq, Prod.mk.injEq] at h
      obtain ⟨rfl, rfl⟩ := h
      obtain ⟨k1, k2⟩ := ih1 _ _ _ _ _ _ _ hat h1 hg
      exact ⟨k1, Po (Wb := fun Q a w => LW P c Q a w) hW k2 hn hf⟩
     ·simp only [Option.bind_eq_some_iff] at h
      obtain ⟨⟨o2, g2⟩, h2, h⟩ := h
      simp only at h
      split at h
      ·rename_i hr
       simp only [Option.some.injEq, Prod.mk.injEq] at h
       obtain ⟨rfl, rfl⟩ := h
       obtain ⟨q1, q2⟩ := ih2 _ _ _ _ _ _ _ _ hat h2 hg
       obtain ⟨k1, k2⟩ := ih1 _ _ _ _ _ _ _ hat h1 q1
       exact ⟨k1, Pp hW k2 hn q2 hr⟩
      ·simp only [Option.some.injEq] at h
       have hgc : Good T e (combine s.pc (mkNot s.pc g2).1 none o2 (Aq.drop .norm o) (mkNot s.pc g2).2).2 := by rw [h]; exact hg
       have hgn : Good T e (mkNot s.pc g2).2 := DI hgc
       have hnot := BL hgn
       obtain ⟨q1, q2⟩ := ih2 _ _ _ _ _ _ _ _ hat h2 hnot.1
       obtain ⟨k1, k2⟩ := ih1 _ _ _ _ _ _ _ hat h1 q1
       have := LB hW k2 hn q2 (nc := (mkNot s.pc g2).1) (by rw [hnot.2]; rfl) hgc
       rw [h] at this
       exact ⟨k1, this⟩
  ·simp only [inline] at h
   split at h
   ·exact G8 hX.big hT h hg
   split at h
   ·rename_i m hm
    split at h
    ·rename_i hf
     have hf : m.f = f := by simpa using hf
     have hmo := hX.muts _ _ hm
     unfold AbB at hmo
     split at h
     ·rename_i hgr
      rw [hgr] at hmo
      obtain ⟨q1, q2⟩ := O5 hT hmo h hg
      rw [hf] at q2
      exact ⟨q1, q2⟩
     ·rename_i hgr
      rw [show m.grow = false by simpa using hgr] at hmo
      obtain ⟨q1, q2⟩ := QI hmo h hg
      rw [hf] at q2
      exact ⟨q1, q2⟩
    ·cases h
   simp only [Option.bind_eq_bind, Option.bind_eq_some_iff] at h
   obtain ⟨fn, hfn, body, hbody, ⟨o, g1⟩, h1, ⟨s, g2⟩, h2, ⟨rs, g3⟩, h3, h⟩ := h
   simp only [Option.some.injEq, Prod.mk.injEq] at h
   obtain ⟨rfl, rfl, rfl⟩ := h
   obtain ⟨f1, _, _⟩ := hX.fns f fn hfn
   obtain ⟨r1, r2⟩ := Gc (P := P) (e := e) (w0 := w0) hX.Ay h3
   subst r1
   have hg1 : Good T e g1 := T3 h2 hg
   obtain ⟨k1, k2⟩ := ih1 _ _ _ _ _ _ _ ⟨fn, body, hfn, hbody, rfl⟩ h1 hg1
   obtain ⟨_, j2⟩ := SR k2 h2 hg
   refine ⟨k1, fun loc vs w hpc hvs hw => ?_⟩
   refine calls_of_wp f1 hbody (k2.wp loc _ w _ hpc (Ax.enter hvs) hw fun x s1 hx hs1 => ?_)
   obtain ⟨j3, j4⟩ := j2 x s1 hx hs1
   intro loc' a' w' q1 q2 q3 q4 q5
   obtain ⟨loc2, t0, t1, t2, t3⟩ := j4 loc' a'.tmps w' q3 q5
   obtain ⟨us, u1, u2⟩ := r2 loc2 a'.tmps w' t2 t3
   have : a'.defers = [] ∧ ∃ v, (Go.results fn a'.tmps).run P w' = .ok v w' ∧ (fun en w'' => ∃ u, en = Ending.returned u ∧ ∃ loc', AO rows.length loc loc' ∧ rows.length ≤ s.rows.length ∧ (Lb rs).rel e s.rows.length loc' u ∧ Bn e w0 loc' s.rows w'') (.returned v) w' :=
    ⟨q4, Ip us, T0 u2, Ip us, rfl, loc2, q1.trans t0 q2, Nat.le_trans q2 t1, GC u1, t3⟩
   rcases j3 with rfl | rfl
   ·exact this
   ·exact this
end
end Rx
namespace Rx
open Go Go.RowKit
section
variable {T : Nat → List A → Bool × List A} {e : Nat → A} {P : Program} {X : Ctx} {w0 : W0}
def ext (T : Nat → List A → Bool × List A) (e : Nat → A) (d : Def) : Nat → A := fun j =>
 if d.base ≤ j then (match (d.d.ev T (d.args.map (L.ev e)))[j - d.base]? with | some a => a | none => e j) else e j
def Dw (T : Nat → List A → Bool × List A) (e : Nat → A) : List Def → Nat → A
 | [] => e
 | d :: l => ext T (Dw T e l) d
def CC (k : Nat) : List L → Bool
 | [] => true
 | .var i :: l => decide (i < k) && CC k l
 | _ :: l => CC k l
def Def.width (ws : List (Nat × Nat)) (d : Def) : Nat :=
 match d.d with
 | .call f => (look f ws).getD 0
 | .upd => d.args.length - 2
 | _ => 1
def Iy (ws : List (Nat × Nat)) : List Def → Nat → Bool
 | [], _ => true
 | d :: l, top => CC d.base d.args && decide (d.base + d.width ws ≤ top) && (match d.d with | .call f => (look f ws).isSome | _ => true) && Iy ws l d.base
def ET (T : Nat → List A → Bool × List A) (ws : List (Nat × Nat)) : Prop := ∀ f k, look f ws = some k → ∀ as, (T f as).2.length + 1 ≤ k
theorem AbW {ws : List (Nat × Nat)} (hw : ET T ws) (d : Def) (hd : (match d.d with | .call f => (look f ws).isSome | _ => true) = true) : (d.d.ev T (d.args.map (L.ev e))).length ≤ d.width ws := by
 obtain ⟨b, dd, args⟩ := d
 unfold Def.width
 cases dd
 case call f =>
  simp only at hd
  cases hk : look f ws with
  | none => rw [hk] at hd; cases hd
  | some k => simpa [D.ev, hk] using hw f k hk (args.map (L.ev e))
 case upd =>
  match args with
  | [] => simp [D.ev]
  | [_] => simp [D.ev]
  | _ :: _ :: l => simp [D.ev]
 case rep =>
  match args with
  | [] => simp [D.ev]
  | _ :: l => simp [D.ev]
 case mkl => simp [D.ev]
 case sel =>
  match args with
  | [] => simp [D.ev]
  | _ :: l => simp [D.ev]
 all_goals
  match args with
  | [] => simp [D.ev]
  | [_] => simp [D.ev]
  | [_, _] => simp [D.ev]
  | [_, _, _] => simp [D.ev]
  | _ :: _ :: _ :: _ :: _ => simp [D.ev]
theorem Cp {k : Nat} {e e' : Nat → A} (he : ∀ j, j < k → e' j = e j) : ∀ {l : List L}, CC k l = true → l.map (L.ev e') = l.map (L.ev e)
 | [], _ => rfl
 | .var i :: l, h => by
  simp only [CC, Bool.and_eq_true, decide_eq_true_eq] at h
  simp only [List.map_cons, L.ev, he i h.1, Cp he h.2]
 | .e :: l, h => by simp only [CC] at h; simp only [List.map_cons, L.ev, Cp he h]
 | .n _ :: l, h => by simp only [CC] at h; simp only [List.map_cons, L.ev, Cp he h]
 | .t _ :: l, h => by simp only [CC] at h; simp only [List.map_cons, L.ev, Cp he h]
 | .s _ :: l, h => by simp only [CC] at h; simp only [List.map_cons, L.ev, Cp he h]
theorem JO {ws : List (Nat × Nat)} (hw : ET T ws) (e : Nat → A) : ∀ {l : List Def} {top : Nat}, Iy ws l top = true → ∀ d ∈ l, d.holds T (Dw T e l)
 | d :: l, top, h, x, hx => by
  simp only [Iy, Bool.and_eq_true, decide_eq_true_eq] at h
  obtain ⟨⟨⟨h1, h2⟩, hcd⟩, h3⟩ := h
  have below : ∀ j, j < d.base → Dw T e (d :: l) j = Dw T e l j := fun j hj => by
   show ext T (Dw T e l) d j = _
   unfold ext
   rw [if_neg (by omega)]
  rcases List.mem_cons.1 hx with rfl | hx
  ·intro j a ha
   rw [Cp below h1] at ha
   show ext T (Dw T e l) x (x.base + j) = a
   unfold ext
   rw [if_pos (by omega), show x.base + j - x.base = j by omega, ha]
  ·have ih := JO hw e h3 x hx
   have htop : ∀ {l : List Def} {top : Nat}, Iy ws l top = true → ∀ d ∈ l, d.base + d.width ws ≤ top ∧ CC d.base d.args = true ∧ (match d.d with | .call f => (look f ws).isSome | _ => true) = true := by
    intro l
    induction l with
    | nil => intro top _ d hd; cases hd
    | cons y l ih =>
     intro top h d hd
     simp only [Iy, Bool.and_eq_true, decide_eq_true_eq] at h
     rcases List.mem_cons.1 hd with rfl | hd
     ·exact ⟨h.1.1.2, h.1.1.1, h.1.2⟩
     ·have := ih h.2 d hd
      have h5 := h.1.1.2
      exact ⟨by omega, this.2⟩
   obtain ⟨k1, k2, k3⟩ := htop h3 x hx
   intro j a ha
   rw [Cp (e := Dw T e l) (fun i hi => below i (by omega)) k2] at ha
   have hj : j < (x.d.ev T (x.args.map (L.ev (Dw T e l)))).length := Ac ha
   have hwd := AbW (e := Dw T e l) hw x k3
   rw [below _ (by omega)]
   exact ih j a ha
theorem XV (hX : XL P T X) {n f next : Nat} {args : List PV} {rows rows' : List Row} {v : SV} {g : G} {kn : List ED} (h : run X n f args rows next kn = some (v, rows', g)) (hg : Good T e g)
  {loc : Loc} {vs : List Value} {w : World} (hT : O1 P w) (hvs : AA e rows.length loc args vs) {S : Nat → Prop} (hS : ∀ k, S k → k < w.heap.size) (hrows : Ad e loc rows w ⟨w.heap.size, S⟩) :
  Calls P f vs.toArray w fun en w' => ∃ u, en = .returned u ∧ (∃ loc', v.rel e rows'.length loc' u) ∧ Below w.heap.size w w' := by
 have := (Hb (T := T) (e := e) (w0 := ⟨w, S⟩) hX hT n).2.2.2 f args rows (.t true) _ v rows' g h hg
 exact (this.2 loc vs w rfl hvs ⟨_, ⟨rfl, fun k hk => .inl hk, Nat.le_refl _, hS⟩, hrows, Below.refl _ _⟩).mono fun en w' ⟨u, h1, loc', h2, h3, h4, h5⟩ => ⟨u, h1, ⟨loc', h4⟩, h5.bel⟩
end
end Rx
namespace Rx
open Go Go.RowKit
def Xi (lf : Nat → L) : List Au → Nat → List C
 | [], _ => []
 | s :: l, b => .k (s.mk (lf b)) :: Xi lf l (b + 1)
def GH (lf : Nat → L) (ss : List Au) : Nat → Nat → List C
 | 0, _ => []
 | n + 1, b => Xi lf ss b ++ GH lf ss n (b + ss.length)
def T4 (lits : List (Nat × Int)) (i : Nat) : L := match look i lits with | some x => .n x | none => .var i
def LC : List Au → Nat
 | [] => 0
 | .sl _ :: ss => LC ss + 2
 | _ :: ss => LC ss + 1
def Iz (lf : Nat → L) : List Au → Nat → Nat → List C
 | [], _, _ => []
 | .sl _ :: ss, b, r => .k (.fsl r (lf (b + 1))) :: Iz lf ss (b + 2) (r + 1)
 | s :: ss, b, r => .k (s.mk (lf b)) :: Iz lf ss (b + 1) r
def CT (lf : Nat → L) : List Au → Nat → List Row
 | [], _ => []
 | .sl ss' :: ss, b => { own := false, ty := 0, es := 0, cells := [], lst := some ⟨false, 0, ss', lf b, lf (b + 1)⟩ } :: CT lf ss (b + 2)
 | _ :: ss, b => CT lf ss (b + 1)
def DR (lf : Nat → L) : List PS → List Nat → Nat → Nat → Option (List PV × List Row × Nat)
 | [], [], b, _ => some ([], [], b)
 | .c agg ss :: l, ns, b, r => do
  let p ← Et agg (Xi lf ss b)
  let (ps, rows, k) ← DR lf l ns (b + ss.length) r
  some (p :: ps, rows, k)
 | .slc ss :: l, n :: ns, b, r => do
  let (ps, rows, k) ← DR lf l ns (b + (1 + n * ss.length)) (r + 1)
  some (.one (.k (.slc r 0 n)) :: ps, { own := false, ty := 0, es := ss.length, cells := GH lf ss n (b + 1) } :: rows, k)
 | .nil :: l, ns, b, r => do
  let (ps, rows, k) ← DR lf l ns b r
  some (.one (.k .nilslc) :: ps, rows, k)
 | .d agg ss :: l, ns, b, r => do
  let p ← Et agg (Iz lf ss b r)
  let (ps, rows, k) ← DR lf l ns (b + LC ss) (r + (CT lf ss b).length)
  some (p :: ps, CT lf ss b ++ rows, k)
 | .lst ss :: l, ns, b, r => do
  let (ps, rows, k) ← DR lf l ns (b + 2) (r + 1)
  some (.one (.k (.fsl r (lf (b + 1)))) :: ps, { own := false, ty := 0, es := 0, cells := [], lst := some ⟨false, 0, ss, lf b, lf (b + 1)⟩ } :: rows, k)
 | _, _, _, _ => none
def SU : List PS → List Nat → List A → Prop
 | [], ns, as => ns = [] ∧ as = []
 | .c _ ss :: l, ns, as => ∃ a1 a2, as = a1 ++ a2 ∧ a1.length = ss.length ∧ SU l ns a2
 | .slc ss :: l, ns, as => ∃ n ns' a1 a2, ns = n :: ns' ∧ as = (A.i n :: a1) ++ a2 ∧ a1.length = n * ss.length ∧ SU l ns' a2
 | .nil :: l, ns, as => SU l ns as
 | .lst _ :: l, ns, as => ∃ a k as', as = a :: k :: as' ∧ SU l ns as'
 | .d _ ss :: l, ns, as => ∃ a1 a2, as = a1 ++ a2 ∧ a1.length = LC ss ∧ SU l ns a2
def D7 : List (Bool × List Au) → List PV → Option (List L)
 | [], [] => some []
 | (agg, ss) :: rs, p :: ps => do
  let a ← Jq [] (.c agg ss) p
  let r ← D7 rs ps
  some (a ++ r)
 | _, _ => none
def Pt (rs : List (Bool × List Au)) : SV → Option (List L)
 | .pv p => D7 rs [p]
 | .tup l => if l.length == 1 then none else D7 rs l
 | _ => none
section
variable {T : Nat → List A → Bool × List A} {e : Nat → A} {P : Program} {X : Ctx} {w0 : W0}
theorem M4 {n : Nat} {loc : Loc} {lf : Nat → L} : ∀ {ss : List Au} {as : List A} {b : Nat}, as.length = ss.length → (∀ j a, as[j]? = some a → (lf (b + j)).ev e = a) → Aj e n loc (Xi lf ss b) (Ag ss as)
 | [], [], _, _, _ => trivial
 | [], _ :: _, _, h, _ => by simp at h
 | _ :: _, [], _, h, _ => by simp at h
 | s :: ss, a :: as, b, h, hh => ⟨GB (by simpa using hh 0 a rfl), M4 (by simpa using h) fun j x hx => by
   have := hh (j + 1) x (by simpa using hx)
   rwa [show b + 1 + j = b + (j + 1) by omega]⟩
theorem LD {n : Nat} {loc : Loc} {lf : Nat → L} {ss : List Au} : ∀ {m b : Nat} {as : List A}, as.length = m * ss.length → (∀ j a, as[j]? = some a → (lf (b + j)).ev e = a) → Aj e n loc (GH lf ss m b) (JJ ss m as)
 | 0, _, _, _, _ => trivial
 | m + 1, b, as, h, hh => by
  have hle : ss.length ≤ as.length := by rw [h, Nat.succ_mul]; omega
  refine EJ (M4 (by simp [hle]) fun j a hj => ?_) (LD (by rw [List.length_drop, h, Nat.succ_mul]; omega) fun j a hj => ?_)
  ·rw [List.getElem?_take] at hj
   split at hj
   ·exact hh j a hj
   ·cases hj
  ·rw [List.getElem?_drop] at hj
   rw [Nat.add_assoc]
   exact hh _ a hj
theorem CU {M : Addr → Option Value} : ∀ {ss : List Au} {as : List A} {cs : List Value}, BO M ss as cs → as.length = LC ss ∧ cs.length = ss.length
 | [], _, _, h => by obtain ⟨rfl, rfl⟩ := h; exact ⟨rfl, rfl⟩
 | .sl _ :: _, _, _, h => by
  obtain ⟨a, k, ar, b, m, c, cr, rfl, rfl, _, _, _, h⟩ := h
  have := CU h
  simp [LC, this]
 | .int _ :: _, _, _, h => by obtain ⟨a, ar, cr, rfl, rfl, h⟩ := h; have := CU h; simp [LC, this]
 | .bool :: _, _, _, h => by obtain ⟨a, ar, cr, rfl, rfl, h⟩ := h; have := CU h; simp [LC, this]
 | .str :: _, _, _, h => by obtain ⟨a, ar, cr, rfl, rfl, h⟩ := h; have := CU h; simp [LC, this]
 | .val :: _, _, _, h => by obtain ⟨a, ar, cr, rfl, rfl, h⟩ := h; have := CU h; simp [LC, this]
theorem Cb.mono {M M' : Addr → Option Value} (hm : ∀ a u, M a = some u → M' a = some u) : ∀ {ps : List PS} {vs : List Value} {as : List A}, Cb M ps vs as → Cb M' ps vs as
 | [], _, _, h => h
 | p :: ps, _, _, h => by
  obtain ⟨v, vr, a1, a2, h1, h2, h3, h4⟩ := h
  refine ⟨v, vr, a1, a2, h1, h2, ?_, h4.mono hm⟩
  cases p with
  | c => exact h3
  | nil => exact h3
  | slc ss =>
   obtain ⟨b, o, n, c, rest, q1, q2, q3, q4⟩ := h3
   exact ⟨b, o, n, c, rest, q1, q2, q3, fun j u hu => hm _ _ (q4 j u hu)⟩
  | lst ss =>
   obtain ⟨a, k, b, m, c, q1, q2, q3, q4, q5⟩ := h3
   exact ⟨a, k, b, m, c, q1, q2, q3, q4, q5.mono hm⟩
  | d agg ss =>
   obtain ⟨cs, q1, q2⟩ := h3
   exact ⟨cs, q1, q2.mono hm⟩
theorem Xj {S : Nat → Prop} {w : World} {ss : List Au} {x kk : A} {bb : Option Addr} {m c : Nat} {l0 l1 : L} (e0 : l0.ev e = x) (e1 : l1.ev e = kk) (hk : kk.int = (m : Nat)) (hs : 0 < ss.length) (hfsc : GZ (Dy S w) (.sl ss) x (.slice bb m c)) :
  EM e (Dy S w) { own := false, ty := 0, es := 0, cells := [], lst := some ⟨false, 0, ss, l0, l1⟩ } (.slice bb m c) ∧ ∀ (N r : Nat) (loc : Loc), r < N → loc r = Ew (.slice bb m c) → (K.fsl r l1).rel e N loc (.slice bb m c) := by
 obtain ⟨as1, m', c', b', z1, z2, z3, z4⟩ := hfsc.slice
 injection z2 with z2 z5 z6
 subst z2 z5 z6
 refine ⟨⟨rfl, rfl, _, as1, m, rfl, rfl, hs, by rw [← z1]; exact e0, z3, by simp only; rw [e1]; exact hk, by rw [z1] at hfsc; exact hfsc⟩, fun N r loc hr hloc => ?_⟩
 refine ⟨⟨hr, by rw [e1, hk]; omega, ?_⟩, rfl, .inr ?_⟩
 ·rw [hloc, CR, e1, hk]
  exact ⟨bb, c, by simp⟩
 ·simp only [K.Bl]
  rw [hloc, CR]
theorem Hc {S : Nat → Prop} {lf : Nat → L} {w : World} {s : Au} {ss : List Au} {as : List A} {vs : List Value} {b r : Nat} (h0 : Iz lf (s :: ss) b r = .k (s.mk (lf b)) :: Iz lf ss (b + 1) r) (h0' : CT lf (s :: ss) b = CT lf ss (b + 1))
  (ih : ∀ {as : List A} {vs : List Value} {b r : Nat}, BO (Dy S w) ss as vs → (∀ j a, as[j]? = some a → (lf (b + j)).ev e = a) → ∃ xs : List Value, xs.length = (CT lf ss b).length ∧ (∀ (t : Nat) row, (CT lf ss b)[t]? = some row → ∃ v, xs[t]? = some v ∧ EM e (Dy S w) row v) ∧
   ∀ (N : Nat) (loc : Loc), r + (CT lf ss b).length ≤ N → (∀ (t : Nat) v, xs[t]? = some v → loc (r + t) = Ew v) → Aj e N loc (Iz lf ss b r) vs)
  (h : ∃ a ar cr, as = a :: ar ∧ vs = s.Bl a :: cr ∧ BO (Dy S w) ss ar cr) (he : ∀ j a, as[j]? = some a → (lf (b + j)).ev e = a) :
  ∃ xs : List Value, xs.length = (CT lf (s :: ss) b).length ∧ (∀ (t : Nat) row, (CT lf (s :: ss) b)[t]? = some row → ∃ v, xs[t]? = some v ∧ EM e (Dy S w) row v) ∧
   ∀ (N : Nat) (loc : Loc), r + (CT lf (s :: ss) b).length ≤ N → (∀ (t : Nat) v, xs[t]? = some v → loc (r + t) = Ew v) → Aj e N loc (Iz lf (s :: ss) b r) vs := by
 obtain ⟨a, ar, cr, rfl, rfl, hr⟩ := h
 obtain ⟨xs, x1, x2, x3⟩ := ih (b := b + 1) (r := r) hr (fun j a hj => by
  have := he (1 + j) a (by rw [Nat.add_comm]; simpa using hj)
  rwa [Nat.add_assoc])
 rw [h0, h0']
 exact ⟨xs, x1, x2, fun N loc hN hloc => ⟨GB (he 0 _ rfl), x3 N loc hN hloc⟩⟩
theorem CY {S : Nat → Prop} {lf : Nat → L} {w : World} : ∀ {ss : List Au} {as : List A} {vs : List Value} {b r : Nat}, BO (Dy S w) ss as vs → (∀ j a, as[j]? = some a → (lf (b + j)).ev e = a) →
  ∃ xs : List Value, xs.length = (CT lf ss b).length ∧ (∀ (t : Nat) row, (CT lf ss b)[t]? = some row → ∃ v, xs[t]? = some v ∧ EM e (Dy S w) row v) ∧
   ∀ (N : Nat) (loc : Loc), r + (CT lf ss b).length ≤ N → (∀ (t : Nat) v, xs[t]? = some v → loc (r + t) = Ew v) → Aj e N loc (Iz lf ss b r) vs
 | [], _, _, _, _, h, _ => by
  obtain ⟨rfl, rfl⟩ := h
  exact ⟨[], rfl, fun t row h => by simp [CT] at h, fun _ _ _ _ => trivial⟩
 | .sl ss' :: ss, _, _, b, r, h, he => by
  obtain ⟨a, k, ar, bb, m, c, cr, rfl, rfl, hk, hs, hf, hr⟩ := h
  obtain ⟨xs, x1, x2, x3⟩ := CY (b := b + 2) (r := r + 1) hr (fun j a hj => by
   have := he (2 + j) a (by rw [show 2 + j = j + 1 + 1 by omega]; simpa using hj)
   rwa [Nat.add_assoc])
  obtain ⟨f1, f2⟩ := Xj (he 0 _ rfl) (he 1 _ rfl) hk hs hf
  refine ⟨.slice bb m c :: xs, by simp [CT, x1], fun t row ht => ?_, fun N loc hN hloc => ?_⟩
  ·cases t with
   | zero =>
    simp only [CT, List.getElem?_cons_zero, Option.some.injEq] at ht
    subst ht
    exact ⟨_, rfl, f1⟩
   | succ t => simpa using x2 t row (by simpa [CT] using ht)
  ·simp only [CT, List.length_cons] at hN
   refine ⟨f2 N r loc (by omega) (by simpa using hloc 0 _ rfl), x3 N loc (by omega) fun t v ht => ?_⟩
   have := hloc (t + 1) v (by simpa using ht)
   rwa [show r + 1 + t = r + (t + 1) by omega]
 | .int kd :: ss, _, _, b, r, h, he => Hc (s := .int kd) rfl rfl (fun h he => CY h he) h he
 | .bool :: ss, _, _, b, r, h, he => Hc (s := .bool) rfl rfl (fun h he => CY h he) h he
 | .str :: ss, _, _, b, r, h, he => Hc (s := .str) rfl rfl (fun h he => CY h he) h he
 | .val :: ss, _, _, b, r, h, he => Hc (s := .val) rfl rfl (fun h he => CY h he) h he
theorem CZ {S : Nat → Prop} {lf : Nat → L} {w : World} (hS : ∀ k, S k → k < w.heap.size) : ∀ {ps : List PS} {ns : List Nat} {b r k : Nat} {args : List PV} {rows : List Row} {vs : List Value} {as : List A},
  DR lf ps ns b r = some (args, rows, k) → Cb (Dy S w) ps vs as → SU ps ns as → (∀ j a, as[j]? = some a → (lf (b + j)).ev e = a) →
  k = b + as.length ∧ ∃ locs : List Lc, locs.length = rows.length ∧ ∀ (loc : Loc) (N : Nat), (∀ i x, locs[i]? = some x → loc (r + i) = x) → r + rows.length ≤ N →
   AA e N loc args vs ∧ ∀ i row, rows[i]? = some row → row.own = false ∧ AH e N loc w ⟨w.heap.size, S⟩ (r + i) row ∧ ∀ q, row.lst = some q → q.own = false ∧ BM e loc w ⟨w.heap.size, S⟩ (r + i) q
 | [], [], b, r, k, args, rows, vs, as, h, ha, hl, he => by
  simp only [DR, Option.some.injEq, Prod.mk.injEq] at h
  obtain ⟨rfl, rfl, rfl⟩ := h
  rw [ha.1, ha.2]
  exact ⟨rfl, [], rfl, fun loc N _ _ => ⟨trivial, fun i row h => by simp at h⟩⟩
 | [], _ :: _, _, _, _, _, _, _, _, h, _, _, _ => by simp [DR] at h
 | .c agg ss :: l, ns, b, r, k, args, rows, vs, as, h, ha, hl, he => by
  simp only [DR, Option.bind_eq_bind, Option.bind_eq_some_iff] at h
  obtain ⟨p, hp, ⟨ps', rows', k'⟩, hr, h⟩ := h
  simp only [Option.some.injEq, Prod.mk.injEq] at h
  obtain ⟨rfl, rfl, rfl⟩ := h
  obtain ⟨v, vr, a1, a2, rfl, rfl, h1, h2⟩ := ha
  obtain ⟨b1, b2, hb, hb1, UY⟩ := hl
  have hlen : a1.length = ss.length := h1.1
  obtain ⟨rfl, rfl⟩ := List.append_inj hb (by rw [hlen, hb1])
  obtain ⟨k1, locs, l1, l2⟩ := CZ hS hr h2 UY (fun j a hj => by
   have := he (ss.length + j) a (by rw [List.getElem?_append_right (by omega), hlen]; simpa using hj)
   rwa [Nat.add_assoc])
  refine ⟨by rw [k1, List.length_append, hlen]; omega, locs, l1, fun loc N q1 q2 => ?_⟩
  obtain ⟨m1, m2⟩ := l2 loc N q1 q2
  refine ⟨⟨?_, m1⟩, m2⟩
  have hv := M4 (lf := lf) (e := e) (n := N) (loc := loc) (b := b) hlen (fun j a hj => he j a (by rw [List.getElem?_append_left (Ac hj)]; exact hj))
  have h3 := h1.2
  rcases BG hp with ⟨hag, rfl⟩ | ⟨hag, c, hc, rfl⟩
  ·rw [if_pos hag] at h3
   exact ⟨_, h3, hv⟩
  ·rw [if_neg (by simp [hag])] at h3
   obtain ⟨s, a, z1, z2, z3⟩ := h3
   subst z1
   subst z2
   rw [hc] at hv
   rw [z3]
   exact hv.1
 | .slc ss :: l, [], b, r, k, args, rows, vs, as, h, ha, hl, he => by simp [DR] at h
 | .slc ss :: l, n :: ns, b, r, k, args, rows, vs, as, h, ha, hl, he => by
  simp only [DR, Option.bind_eq_bind, Option.bind_eq_some_iff] at h
  obtain ⟨⟨ps', rows', k'⟩, hr, h⟩ := h
  simp only [Option.some.injEq, Prod.mk.injEq] at h
  obtain ⟨rfl, rfl, rfl⟩ := h
  obtain ⟨v, vr, a1, a2, rfl, rfl, ⟨bb, o, m, c, rest, rfl, rfl, h1, h1'⟩, h2⟩ := ha
  obtain ⟨n', ns', b1, b2, hn, hb, hb1, UY⟩ := hl
  injection hn with hn1 hn2
  subst hn1
  subst hn2
  have hmn : m = n := by
   have := congrArg (·[0]?) hb
   simp at this
   omega
  subst hmn
  obtain ⟨hc1, rfl⟩ := List.append_inj hb (by simp [h1, hb1])
  obtain ⟨_, rfl⟩ := List.cons.inj hc1
  obtain ⟨k1, locs, l1, l2⟩ := CZ hS hr h2 UY (fun j a hj => by
   have := he (1 + m * ss.length + j) a (by
    rw [List.getElem?_append_right (by simp [h1]; omega)]
    simp only [List.length_cons, h1]
    rw [show 1 + m * ss.length + j - (m * ss.length + 1) = j by omega]
    exact hj)
   rwa [Nat.add_assoc])
  refine ⟨by rw [k1, List.length_append, List.length_cons, h1]; omega, .QA bb o c ss.length :: locs, by simp [l1], fun loc N q1 q2 => ?_⟩
  have hloc : loc r = .QA bb o c ss.length := q1 0 _ rfl
  simp only [List.length_cons] at q2
  obtain ⟨m1, m2⟩ := l2 loc N (fun i x hi => by
   have := q1 (i + 1) x (by simpa using hi)
   rwa [show r + 1 + i = r + (i + 1) by omega]) (by omega)
  have hrest : Aj e N loc (GH lf ss m (b + 1)) (JJ ss m rest) := LD h1 (fun j a hj => by
   have := he (j + 1) a (by
    rw [List.cons_append, List.getElem?_cons_succ, List.getElem?_append_left (Ac hj)]
    exact hj)
   rwa [show b + 1 + j = b + (j + 1) by omega])
  refine ⟨⟨SF (by omega) (by rw [hloc]; simp), m1⟩, fun i row hi => ?_⟩
  cases i with
  | zero =>
   simp only [List.getElem?_cons_zero, Option.some.injEq] at hi
   subst hi
   refine ⟨rfl, ?_, fun q hq => by simp at hq⟩
   unfold AH
   rw [if_neg (by simp)]
   intro hne
   rw [Nat.add_zero, hloc]
   have hcell : ∀ j cc, (GH lf ss m (b + 1))[j]? = some cc → ∃ v, w.cell? ⟨bb, o + j, none⟩ = some v ∧ cc.rel e N loc v := fun j cc hj => by
    obtain ⟨v, v1, v2⟩ := Dt hrest hj
    exact ⟨v, (Ds (h1' j v v1)).1, v2⟩
   refine ⟨rfl, ?_, hcell⟩
   simp only at hne
   cases hcc : GH lf ss m (b + 1) with
   | nil => exact absurd hcc hne
   | cons c0 cs0 =>
    obtain ⟨v, v1, v2⟩ := Dt hrest (j := 0) (c := c0) (by rw [hcc]; rfl)
    exact (Ds (h1' 0 v v1)).2
  | succ i =>
   have := m2 i row (by simpa using hi)
   rwa [show r + (i + 1) = r + 1 + i by omega]
 | .nil :: l, ns, b, r, k, args, rows, vs, as, h, ha, hl, he => by
  simp only [DR, Option.bind_eq_bind, Option.bind_eq_some_iff] at h
  obtain ⟨⟨ps', rows', k'⟩, hr, h⟩ := h
  simp only [Option.some.injEq, Prod.mk.injEq] at h
  obtain ⟨rfl, rfl, rfl⟩ := h
  obtain ⟨v, vr, a1, a2, rfl, rfl, ⟨rfl, rfl⟩, h2⟩ := ha
  obtain ⟨k1, locs, l1, l2⟩ := CZ hS hr h2 hl he
  refine ⟨k1, locs, l1, fun loc N q1 q2 => ?_⟩
  obtain ⟨m1, m2⟩ := l2 loc N q1 q2
  exact ⟨⟨⟨trivial, rfl, .inr rfl⟩, m1⟩, m2⟩
 | .lst ss :: l, ns, b, r, k, args, rows, vs, as, h, ha, hl, he => by
  simp only [DR, Option.bind_eq_bind, Option.bind_eq_some_iff] at h
  obtain ⟨⟨ps', rows', k'⟩, hr, h⟩ := h
  simp only [Option.some.injEq, Prod.mk.injEq] at h
  obtain ⟨rfl, rfl, rfl⟩ := h
  obtain ⟨v, vr, a1, a2, rfl, rfl, ⟨x, kk, bb, m, c, rfl, hk, rfl, hs, hfsc⟩, h2⟩ := ha
  obtain ⟨x', kk', as', hb, UY⟩ := hl
  simp only [List.cons_append, List.nil_append, List.cons.injEq] at hb
  obtain ⟨rfl, rfl, rfl⟩ := hb
  obtain ⟨k1, locs, l1, l2⟩ := CZ hS hr h2 UY (fun j a hj => by
   have := he (2 + j) a (by rw [List.getElem?_append_right (by simp)]; simpa using hj)
   rwa [Nat.add_assoc])
  have e0 : (lf b).ev e = x := he 0 _ rfl
  have e1 : (lf (b + 1)).ev e = kk := he 1 _ rfl
  obtain ⟨f1, f2⟩ := Xj e0 e1 hk hs hfsc
  refine ⟨by rw [k1]; simp; omega, Ew (.slice bb m c) :: locs, by simp [l1], fun loc N q1 q2 => ?_⟩
  have hloc : loc r = Ew (.slice bb m c) := q1 0 _ rfl
  simp only [List.length_cons] at q2
  obtain ⟨m1, m2⟩ := l2 loc N (fun i x hi => by
   have := q1 (i + 1) x (by simpa using hi)
   rwa [show r + 1 + i = r + (i + 1) by omega]) (by omega)
  refine ⟨⟨f2 N r loc (by omega) hloc, m1⟩, fun i row hi => ?_⟩
  cases i with
  | zero =>
   simp only [List.getElem?_cons_zero, Option.some.injEq] at hi
   subst hi
   obtain ⟨z1, q, z2, z3, z4⟩ := EM.ok (B := ⟨w.heap.size, S⟩) (n := N) (r := r) f1 hloc
   exact ⟨rfl, z1, fun q' hq' => by rw [z2] at hq'; injection hq' with hq'; subst hq'; exact ⟨z3, z4⟩⟩
  | succ i =>
   have := m2 i row (by simpa using hi)
   rwa [show r + (i + 1) = r + 1 + i by omega]
 | .d agg ss :: l, ns, b, r, k, args, rows, vs, as, h, ha, hl, he => by
  simp only [DR, Option.bind_eq_bind, Option.bind_eq_some_iff] at h
  obtain ⟨p, hp, ⟨ps', rows', k'⟩, hr, h⟩ := h
  simp only [Option.some.injEq, Prod.mk.injEq] at h
  obtain ⟨rfl, rfl, rfl⟩ := h
  obtain ⟨v, vr, a1, a2, rfl, rfl, ⟨cs, hc1, hc2⟩, h2⟩ := ha
  obtain ⟨b1, b2, hb, hb1, UY⟩ := hl
  have hlen := (CU hc2).1
  obtain ⟨rfl, rfl⟩ := List.append_inj hb (by rw [hlen, hb1])
  obtain ⟨xs, x1, x2, x3⟩ := CY (lf := lf) (b := b) (r := r) hc2 (fun j a hj => he j a (by rw [List.getElem?_append_left (Ac hj)]; exact hj))
  obtain ⟨k1, locs, l1, l2⟩ := CZ hS hr h2 UY (fun j a hj => by
   have := he (LC ss + j) a (by rw [List.getElem?_append_right (by omega), hlen]; simpa using hj)
   rwa [Nat.add_assoc])
  refine ⟨by rw [k1, List.length_append, hlen]; omega, xs.map Ew ++ locs, by simp [x1, l1], fun loc N q1 q2 => ?_⟩
  rw [List.length_append] at q2
  have hxs : ∀ (t : Nat) v, xs[t]? = some v → loc (r + t) = Ew v := fun t v ht => q1 t _ (by rw [List.getElem?_append_left (by simpa using Ac ht)]; simp [ht])
  obtain ⟨m1, m2⟩ := l2 loc N (fun i x hi => by
   have := q1 ((CT lf ss b).length + i) x (by rw [List.getElem?_append_right (by simp [x1])]; simpa [x1] using hi)
   rwa [← Nat.add_assoc] at this) (by omega)
  refine ⟨⟨?_, m1⟩, fun i row hi => ?_⟩
  ·have hcs := x3 N loc (by omega) hxs
   rcases BG hp with ⟨ha, rfl⟩ | ⟨ha, c, hc, rfl⟩
   ·rw [if_pos ha] at hc1
    exact ⟨cs, hc1, hcs⟩
   ·rw [if_neg (by simp [ha])] at hc1
    subst hc1
    rw [hc] at hcs
    exact hcs.1
  ·rw [List.getElem?_append] at hi
   split at hi
   ·rename_i hlt
    obtain ⟨v, v1, v2⟩ := x2 i row hi
    obtain ⟨z1, q, z2, z3, z4⟩ := EM.ok (B := ⟨w.heap.size, S⟩) (n := N) (r := r + i) v2 (hxs i v v1)
    exact ⟨v2.1, z1, fun q' hq' => by rw [z2] at hq'; injection hq' with hq'; subst hq'; exact ⟨z3, z4⟩⟩
   ·have := m2 _ row hi
    rwa [show r + (CT lf ss b).length + (i - (CT lf ss b).length) = r + i by omega] at this
 termination_by ps => ps.length
theorem FT {e0 : Nat → A} {k : Nat} : ∀ {l : List Def}, (l.all fun d => decide (k ≤ d.base)) = true → ∀ j, j < k → Dw T e0 l j = e0 j
 | [], _, _, _ => rfl
 | d :: l, h, j, hj => by
  simp only [List.all_cons, Bool.and_eq_true, decide_eq_true_eq] at h
  show ext T (Dw T e0 l) d j = _
  unfold ext
  rw [if_neg (by omega)]
  exact FT h.2 j hj
theorem DJ : ∀ {s1 s2 : List Au} {a1 a2 : List A}, a1.length = s1.length → Ag (s1 ++ s2) (a1 ++ a2) = Ag s1 a1 ++ Ag s2 a2
 | [], _, [], _, _ => rfl
 | [], _, _ :: _, _, h => by simp at h
 | _ :: _, _, [], _, h => by simp at h
 | s :: s1, s2, a :: a1, a2, h => by simp [Ag, DJ (s1 := s1) (a1 := a1) (by simpa using h)]
theorem C9 {n : Nat} {loc : Loc} : ∀ {rs : List (Bool × List Au)} {ps : List PV} {ls : List L} {vs : List Value} {out : List A}, D7 rs ps = some ls → AA e n loc ps vs →
  out.length = ls.length → Ag (rs.flatMap (·.2)) out = Ag (rs.flatMap (·.2)) (ls.map (L.ev e)) → FK rs out vs
 | [], [], ls, vs, out, h, hv, ho, hs => by
  simp [D7] at h
  subst h
  cases vs with
  | nil => exact ⟨by simpa using ho, rfl⟩
  | cons => exact hv.elim
 | (agg, ss) :: rs, p :: ps, ls, vs, out, h, hv, ho, hs => by
  simp only [D7, Option.bind_eq_bind, Option.bind_eq_some_iff, Option.some.injEq] at h
  obtain ⟨a, ha, r, hr, rfl⟩ := h
  cases vs with
  | nil => exact hv.elim
  | cons v vs =>
   have h1 : MR (fun _ => none) (.c agg ss) v (a.map (L.ev e)) := by
    unfold Jq at ha
    split at ha
    ·rename_i s c heq
     obtain ⟨hag, rfl⟩ := PS.c.inj heq
     cases hv1 : Hz [s] [c] with
     | none => rw [hv1] at ha; cases ha
     | some l =>
      rw [hv1] at ha
      injection ha with ha
      subst ha
      obtain ⟨q1, q2, q3⟩ := Dv (vs := [v]) hv1 ⟨hv.1, trivial⟩
      obtain ⟨y, rfl⟩ : ∃ y, l = [y] := by
       match l, q1 with
       | [y], _ => exact ⟨y, rfl⟩
      subst hag
      refine ⟨by simp, ?_⟩
      simp only [Bool.false_eq_true, if_false]
      exact ⟨s, y.ev e, rfl, rfl, by simpa [Ag] using q3⟩
    ·rename_i ss' l heq
     obtain ⟨hag, rfl⟩ := PS.c.inj heq
     subst hag
     obtain ⟨us, rfl, hu⟩ := hv.1
     obtain ⟨q1, q2, q3⟩ := Dv ha hu
     refine ⟨by simpa using q1, ?_⟩
     simp only [if_true]
     rw [q3]
    ·rename_i heq; cases heq
    ·rename_i heq; cases heq
    ·rename_i heq; cases heq
    ·cases ha
   have hal : a.length = ss.length := by simpa using h1.1
   have hlo : ss.length ≤ out.length := by rw [ho, List.length_append]; omega
   have e1 : out = out.take ss.length ++ out.drop ss.length := (List.take_append_drop _ _).symm
   rw [e1, List.map_append, List.flatMap_cons, DJ (by simp [hlo]), DJ (by simp [hal])] at hs
   obtain ⟨s1, s2⟩ := List.append_inj hs (by rw [Iq (by simp [hlo]), Iq (by simp [hal])])
   refine ⟨v, vs, out.take ss.length, out.drop ss.length, rfl, e1, ⟨by simp [hlo], ?_⟩, C9 hr hv.2 (by rw [List.length_drop, ho, List.length_append]; omega) s2⟩
   have h3 := h1.2
   simp only
   split at h3
   ·rename_i hag
    rw [if_pos hag, s1]
    exact h3
   ·rename_i hag
    rw [if_neg hag]
    obtain ⟨s, x, z1, z2, z3⟩ := h3
    subst z1
    obtain ⟨o, ho1⟩ : ∃ o, out.take 1 = [o] := by
     match out, hlo with
     | o :: _, _ => exact ⟨o, rfl⟩
    simp only [List.length_singleton] at s1 ⊢
    rw [ho1, z2] at s1
    simp only [Ag, List.cons.injEq, and_true] at s1
    exact ⟨s, o, rfl, ho1, by rw [s1]; exact z3⟩
 | [], _ :: _, _, _, _, h, _, _, _ => by simp [D7] at h
 | _ :: _, [], _, _, _, h, _, _, _ => by simp [D7] at h
theorem SW {n : Nat} {loc : Loc} {rs : List (Bool × List Au)} {v : SV} {ls : List L} {u : Value} {out : List A} (h : Pt rs v = some ls) (hv : v.rel e n loc u)
  (ho : out.length = ls.length) (hs : Ag (rs.flatMap (·.2)) out = Ag (rs.flatMap (·.2)) (ls.map (L.ev e))) : KO rs out u := by
 unfold Pt at h
 split at h
 ·exact ⟨[u], C9 h ⟨hv, trivial⟩ ho hs, rfl⟩
 ·split at h
  ·cases h
  ·rename_i hl
   obtain ⟨us, rfl, hu⟩ := hv
   refine ⟨us, C9 h hu ho hs, ?_⟩
   have := G0 hu
   match us with
   | [] => rfl
   | [_] => simp at this; simp [this] at hl
   | _ :: _ :: _ => rfl
 ·cases h
theorem T5 {e : Nat → A} {loc : Loc} {w : World} {B : Bd} {rows : List Row} (m2 : ∀ (i : Nat) row, rows[i]? = some row → row.own = false ∧ AH e rows.length loc w B (0 + i) row ∧ ∀ q, row.lst = some q → q.own = false ∧ BM e loc w B (0 + i) q) : Ad e loc rows w B := by
 simp only [Nat.zero_add] at m2
 refine ⟨fun r x hx => (m2 r x hx).2.1, fun r x q hx hq => ⟨(m2 r x hx).1, ((m2 r x hx).2.2 q hq).2⟩, fun r s x y hx hy ox oy => ?_, fun r s x y hx _ ox => by rw [(m2 r x hx).1] at ox; cases ox⟩
 obtain ⟨q, o1, o2, _⟩ := ox
 rw [((m2 r x hx).2.2 q o1).1] at o2
 cases o2
theorem SX (hX : XL P T X) {ws : List (Nat × Nat)} (hws : ET T ws) {c : J7} {lits : List (Nat × Int)} {ns : List Nat} {n k : Nat} {kn : List ED} {more : List A} {args : List PV} {rows rows' : List Row} {v : SV} {g : G} {ls : List L}
  (hpar : DR (T4 lits) c.ps ns 0 0 = some (args, rows, k)) (hrun : run X n c.f args rows (k + more.length) kn = some (v, rows', g)) (hdefs : Iy ws g.defs g.next = true)
  (hbase : (g.defs.all fun d => decide (k + more.length ≤ d.base)) = true)
  (hls : Pt c.rs v = some ls) {as : List A} {vs : List Value} {w : World} (hT : O1 P w) (hargs : Cb w.cell? c.ps vs as) (hlens : SU c.ps ns as)
  (hlits : ∀ i x, look i lits = some x → ∀ a, as[i]? = some a → a = .i x)
  (hlen : (T c.f as).2.length = ls.length)
  (hpure : ∀ e, (∀ j a, (as ++ more)[j]? = some a → e j = a) → (∀ d ∈ g.defs, d.holds T e) → (∀ x ∈ g.known, x.holds T e) ∧ (∀ o ∈ g.obs, (o.ev e).bool = true) ∧
   Ag (c.rs.flatMap (·.2)) (T c.f as).2 = Ag (c.rs.flatMap (·.2)) (ls.map (L.ev e))) :
  Calls P c.f vs.toArray w fun en w' => ∃ u, en = .returned u ∧ KO c.rs (T c.f as).2 u ∧ Below w.heap.size w w' := by
 have lfe : ∀ (e : Nat → A), (∀ j a, as[j]? = some a → e j = a) → ∀ j a, as[j]? = some a → (T4 lits (0 + j)).ev e = a := fun e he j a hj => by
  rw [Nat.zero_add]
  unfold T4
  split
  ·rename_i x hx
   exact (hlits j x hx a hj).symm
  ·exact he j a hj
 have hargs := Cb.mono (M' := Dy (fun k => k < w.heap.size) w) (fun a u hu => DD hu (World.block_lt_of_cell? w _ hu)) hargs
 have hk : k = as.length := by
  have := (CZ (fun _ h => h) (e := fun i => as.getD i (.i 0)) hpar hargs hlens (lfe _ fun j a hj => by simp [hj])).1
  omega
 have hev0 : ∀ j a, (as ++ more)[j]? = some a → Dw T (fun i => (as ++ more).getD i (.i 0)) g.defs j = a := fun j a hj => by
  rw [FT hbase j (by have := Ac hj; rw [List.length_append] at this; omega)]
  simp [hj]
 have hev := lfe _ (fun j a hj => hev0 j a (by rw [List.getElem?_append_left (Ac hj)]; exact hj))
 have hd := JO hws (fun i => (as ++ more).getD i (.i 0)) hdefs
 obtain ⟨hkn, hobs, hres⟩ := hpure _ hev0 hd
 have hg : Good T (Dw T (fun i => (as ++ more).getD i (.i 0)) g.defs) g := ⟨hd, hobs, hkn⟩
 obtain ⟨_, locs, l1, l2⟩ := CZ (fun _ h => h) hpar hargs hlens hev
 obtain ⟨m1, m2⟩ := l2 (fun i => locs.getD i default) rows.length (fun i x hx => by simp [hx]) (by omega)
 have hrows : Ad (Dw T (fun i => (as ++ more).getD i (.i 0)) g.defs) (fun i => locs.getD i default) rows w ⟨w.heap.size, fun k => k < w.heap.size⟩ :=
  T5 m2
 refine (XV hX hrun hg hT m1 (fun _ h => h) hrows).mono ?_
 rintro en w' ⟨u, rfl, ⟨loc', hv⟩, hb⟩
 exact ⟨u, rfl, SW hls hv hlen hres, hb⟩
end
end Rx
namespace Rx
open Go Go.RowKit
def Xk (rows : List Row) (ss : List Au) (c : C) : Option (List L) :=
 match Dz rows ss (.one c) ⟨0, [], [], []⟩ with
 | some (ls, ⟨_, [], [], []⟩) => some ls
 | _ => none
def Bz (rows : List Row) : List Au → List C → Option (List L)
 | [], [] => some []
 | .sl ss :: r, c :: cs => do let a ← Xk rows ss c; let b ← Bz rows r cs; some (a ++ b)
 | s :: r, .k x :: cs => do
  let (u, y) ← x.Qr
  if !u.same s then none
  let b ← Bz rows r cs
  some (y :: b)
 | _, _ => none
def Pu : List Au → List A → List A → Prop
 | [], as, bs => as = [] ∧ bs = []
 | .sl _ :: ss, as, bs => ∃ x k r y m s, as = x :: k :: r ∧ bs = y :: m :: s ∧ x = y ∧ k.int = m.int ∧ Pu ss r s
 | s :: ss, as, bs => ∃ x r y q, as = x :: r ∧ bs = y :: q ∧ s.Bl x = s.Bl y ∧ Pu ss r q
def Cq (rows : List Row) : List RS → List PV → Option (List L)
 | [], [] => some []
 | .c agg ss :: rs, p :: ps => do
  let a ← Jq [] (.c agg ss) p
  let r ← Cq rows rs ps
  some (a ++ r)
 | .lst ss ty :: rs, p :: ps =>
  if ss.length == 0 || !ss.all Au.single then none else
  match p with
  | .one (.k (.lsl r k)) => do
   let row ← rows[r]?
   let a ← row.lst
   if !a.own || a.ty != ty || !Ce a.ss ss || !k.same a.n then none
   let q ← Cq rows rs ps
   some ([a.x, a.n] ++ q)
  | .one (.k .nilslc) => do
   let q ← Cq rows rs ps
   some ([.e, .n 0] ++ q)
  | _ => none
 | .d agg ss :: rs, p :: ps => do
  let a ← (match agg, p with | true, .agg l => Bz rows ss l | false, .one c => Bz rows ss [c] | _, _ => none)
  let q ← Cq rows rs ps
  some (a ++ q)
 | _, _ => none
def RQ : List RS → List A → List A → Prop
 | [], as, bs => as = [] ∧ bs = []
 | .c _ ss :: rs, as, bs => ∃ a1 a2 b1 b2, as = a1 ++ a2 ∧ bs = b1 ++ b2 ∧ a1.length = ss.length ∧ b1.length = ss.length ∧ Ag ss a1 = Ag ss b1 ∧ RQ rs a2 b2
 | .lst _ _ :: rs, as, bs => ∃ x k r y m s, as = x :: k :: r ∧ bs = y :: m :: s ∧ x = y ∧ k.int = m.int ∧ RQ rs r s
 | .d _ ss :: rs, as, bs => ∃ a1 a2 b1 b2, as = a1 ++ a2 ∧ bs = b1 ++ b2 ∧ a1.length = LC ss ∧ b1.length = LC ss ∧ Pu ss a1 b1 ∧ RQ rs a2 b2
def JP (rows : List Row) (rs : List RS) : SV → Option (List L)
 | .pv p => Cq rows rs [p]
 | .tup l => if l.length == 1 then none else Cq rows rs l
 | _ => none
section
variable {T : Nat → List A → Bool × List A} {e : Nat → A} {P : Program} {X : Ctx} {w0 : W0}
theorem Pu.cells {M : Addr → Option Value} : ∀ {ss : List Au} {as bs : List A} {vs : List Value}, Pu ss as bs → BO M ss bs vs → BO M ss as vs
 | [], _, _, _, h, hd => ⟨h.1, hd.2⟩
 | .sl _ :: _, _, _, _, h, hd => by
  obtain ⟨x, k, r, y, m, s, rfl, rfl, rfl, hkm, h⟩ := h
  obtain ⟨a, k', ar, b, m', c, cr, e1, rfl, e3, e4, e5, hd⟩ := hd
  simp only [List.cons.injEq] at e1
  obtain ⟨rfl, rfl, rfl⟩ := e1
  exact ⟨x, k, r, b, m', c, cr, rfl, rfl, hkm.trans e3, e4, e5, h.cells hd⟩
 | .int _ :: _, _, _, _, h, hd => by
  obtain ⟨x, r, y, q, rfl, rfl, hs, h⟩ := h
  obtain ⟨a, ar, cr, e1, rfl, hd⟩ := hd
  simp only [List.cons.injEq] at e1
  obtain ⟨rfl, rfl⟩ := e1
  exact ⟨x, r, cr, rfl, by rw [hs], h.cells hd⟩
 | .bool :: _, _, _, _, h, hd => by
  obtain ⟨x, r, y, q, rfl, rfl, hs, h⟩ := h
  obtain ⟨a, ar, cr, e1, rfl, hd⟩ := hd
  simp only [List.cons.injEq] at e1
  obtain ⟨rfl, rfl⟩ := e1
  exact ⟨x, r, cr, rfl, by rw [hs], h.cells hd⟩
 | .str :: _, _, _, _, h, hd => by
  obtain ⟨x, r, y, q, rfl, rfl, hs, h⟩ := h
  obtain ⟨a, ar, cr, e1, rfl, hd⟩ := hd
  simp only [List.cons.injEq] at e1
  obtain ⟨rfl, rfl⟩ := e1
  exact ⟨x, r, cr, rfl, by rw [hs], h.cells hd⟩
 | .val :: _, _, _, _, h, hd => by
  obtain ⟨x, r, y, q, rfl, rfl, hs, h⟩ := h
  obtain ⟨a, ar, cr, e1, rfl, hd⟩ := hd
  simp only [List.cons.injEq] at e1
  obtain ⟨rfl, rfl⟩ := e1
  exact ⟨x, r, cr, rfl, by rw [hs], h.cells hd⟩
theorem Hd {rows : List Row} {s : Au} {r : List Au} {x : K} {cs : List C} {ls : List L} {loc : Loc} {w : World} {vs : List Value} {B : Bd} {M : Addr → Option Value} (hs : s.single = true)
  (h0 : Bz rows (s :: r) (.k x :: cs) = some ls → (do
   let (u, y) ← x.Qr
   if !u.same s then none
   let b ← Bz rows r cs
   some (y :: b) : Option (List L)) = some ls)
  (ih : ∀ {ls : List L}, Bz rows r cs = some ls → ∀ {vs : List Value}, Ad e loc rows w B → TB rows loc w B M (cs.flatMap (DA rows)) → Aj e rows.length loc cs vs → BO M r (ls.map (L.ev e)) vs)
  (h : Bz rows (s :: r) (.k x :: cs) = some ls) (hR : Ad e loc rows w B) (hC : TB rows loc w B M ((C.k x :: cs).flatMap (DA rows))) (hv : Aj e rows.length loc (.k x :: cs) vs) : BO M (s :: r) (ls.map (L.ev e)) vs := by
 replace h := h0 h
 clear h0
 simp only [Option.bind_eq_bind, Option.bind_eq_some_iff] at h
 obtain ⟨⟨u, y⟩, hy, h⟩ := h
 simp only at h
 split at h
 ·cases h
 ·rename_i hus
  have hus := Au.Af (by simpa using hus)
  subst hus
  have hy := K.DF hy
  subst hy
  simp only [Option.bind_eq_some_iff, Option.some.injEq] at h
  obtain ⟨b, hb, rfl⟩ := h
  cases vs with
  | nil => exact hv.elim
  | cons v vs =>
   have h3 := ih hb (vs := vs) hR (hC.sub fun x hx => by simp only [List.flatMap_cons, List.mem_append]; exact .inr hx) hv.2
   have h4 := Vj (e := e) hv.1
   cases u with
   | sl a => simp [Au.single] at hs
   | int k => exact ⟨y.ev e, _, vs, rfl, by rw [h4], h3⟩
   | bool => exact ⟨y.ev e, _, vs, rfl, by rw [h4], h3⟩
   | str => exact ⟨y.ev e, _, vs, rfl, by rw [h4], h3⟩
   | val => exact ⟨y.ev e, _, vs, rfl, by rw [h4], h3⟩
theorem BP {rows : List Row} : ∀ {ss : List Au} {cs : List C} {ls : List L}, Bz rows ss cs = some ls → ∀ {loc : Loc} {w : World} {vs : List Value} {B : Bd} {M : Addr → Option Value}, Ad e loc rows w B → TB rows loc w B M (cs.flatMap (DA rows)) → Aj e rows.length loc cs vs → BO M ss (ls.map (L.ev e)) vs
 | [], [], ls, h, loc, w, vs, B, M, hR, hC, hv => by
  simp only [Bz, Option.some.injEq] at h
  subst h
  cases vs with
  | nil => exact ⟨rfl, rfl⟩
  | cons => exact hv.elim
 | .sl ss :: r, c :: cs, ls, h, loc, w, vs, B, M, hR, hC, hv => by
  simp only [Bz, Option.bind_eq_bind, Option.bind_eq_some_iff, Option.some.injEq] at h
  obtain ⟨a, ha, b, hb, rfl⟩ := h
  unfold Xk at ha
  split at ha
  ·rename_i ls' nx hla
   injection ha with ha
   subst ha
   have hg : Good (fun _ _ => (true, [])) e ⟨nx, [], [], []⟩ := ⟨fun d h => by simp at h, fun d h => by simp at h, fun d h => by simp at h⟩
   obtain ⟨_, y, k, rfl, h4⟩ := F6 hla hg
   cases vs with
   | nil => exact hv.elim
   | cons v vs =>
    obtain ⟨q1, bb, m, cc, q2, rfl, q3⟩ := h4 loc w v B M hR (hC.sub fun x hx => by
     simp only [Ba, PV.cells, List.flatMap_cons, List.flatMap_nil, List.append_nil] at hx
     simp [hx]) hv.1
    exact ⟨y.ev e, k.ev e, _, bb, m, cc, vs, rfl, rfl, q2, q1, q3, BP hb hR (hC.sub fun x hx => by simp only [List.flatMap_cons, List.mem_append]; exact .inr hx) hv.2⟩
  ·cases ha
 | .int kd :: r, .k x :: cs, ls, h, loc, w, vs, B, M, hR, hC, hv => Hd (s := .int kd) rfl (fun h => h) (fun h _ hR hC hv => BP h hR hC hv) h hR hC hv
 | .bool :: r, .k x :: cs, ls, h, loc, w, vs, B, M, hR, hC, hv => Hd (s := .bool) rfl (fun h => h) (fun h _ hR hC hv => BP h hR hC hv) h hR hC hv
 | .str :: r, .k x :: cs, ls, h, loc, w, vs, B, M, hR, hC, hv => Hd (s := .str) rfl (fun h => h) (fun h _ hR hC hv => BP h hR hC hv) h hR hC hv
 | .val :: r, .k x :: cs, ls, h, loc, w, vs, B, M, hR, hC, hv => Hd (s := .val) rfl (fun h => h) (fun h _ hR hC hv => BP h hR hC hv) h hR hC hv
 | .int _ :: _, .clo .. :: _, _, h, _, _, _, _, _, _, _, _ => by simp [Bz] at h
 | .bool :: _, .clo .. :: _, _, h, _, _, _, _, _, _, _, _ => by simp [Bz] at h
 | .str :: _, .clo .. :: _, _, h, _, _, _, _, _, _, _, _ => by simp [Bz] at h
 | .val :: _, .clo .. :: _, _, h, _, _, _, _, _, _, _, _ => by simp [Bz] at h
 | .int _ :: _, .cfn .. :: _, _, h, _, _, _, _, _, _, _, _ => by simp [Bz] at h
 | .bool :: _, .cfn .. :: _, _, h, _, _, _, _, _, _, _, _ => by simp [Bz] at h
 | .str :: _, .cfn .. :: _, _, h, _, _, _, _, _, _, _, _ => by simp [Bz] at h
 | .val :: _, .cfn .. :: _, _, h, _, _, _, _, _, _, _, _ => by simp [Bz] at h
 | [], _ :: _, _, h, _, _, _, _, _, _, _, _ => by simp [Bz] at h
 | .int _ :: _, [], _, h, _, _, _, _, _, _, _, _ => by simp [Bz] at h
 | .bool :: _, [], _, h, _, _, _, _, _, _, _, _ => by simp [Bz] at h
 | .str :: _, [], _, h, _, _, _, _, _, _, _, _ => by simp [Bz] at h
 | .val :: _, [], _, h, _, _, _, _, _, _, _, _ => by simp [Bz] at h
 | .sl _ :: _, [], _, h, _, _, _, _, _, _, _, _ => by simp [Bz] at h
theorem CD {S : Nat → Prop} {n : Nat} {loc : Loc} {rows : List Row} {w w' : World} {B : Bd} (hn : n = rows.length) (hBn : B.n = w.heap.size) (hBF : ∀ k, B.F k → S k ∨ B.n ≤ k) (hrows : Ad e loc rows w' B) : ∀ {rs : List RS} {ps : List PV} {ls : List L} {us : List Value} {out : List A}, Cq rows rs ps = some ls → AA e n loc ps us →
  RQ rs out (ls.map (L.ev e)) → MV S w w' rs out us
 | [], [], ls, us, out, h, hv, hs => by
  simp [Cq] at h
  subst h
  cases us with
  | nil => exact ⟨hs.1, rfl⟩
  | cons => exact hv.elim
 | .c agg ss :: rs, p :: ps, ls, us, out, h, hv, hs => by
  simp only [Cq, Option.bind_eq_bind, Option.bind_eq_some_iff, Option.some.injEq] at h
  obtain ⟨a, ha, r, hr, rfl⟩ := h
  cases us with
  | nil => exact hv.elim
  | cons v vs =>
   obtain ⟨a1, a2, b1, b2, rfl, hb, hl1, hl2, hsem, hrest⟩ := hs
   have hfr : D7 [(agg, ss)] [p] = some a := by simp [D7, ha]
   have hal : a.length = ss.length := by
    have := C9 (e := e) (vs := [v]) (out := a.map (L.ev e)) hfr ⟨hv.1, trivial⟩ (by simp) rfl
    obtain ⟨v', vr, c1, c2, h1, h2, h3, h4⟩ := this
    rw [h4.1, List.append_nil] at h2
    have := h3.1
    rw [← h2] at this
    simpa using this
   rw [List.map_append] at hb
   obtain ⟨e1, e2⟩ := List.append_inj hb (by simp [hal, hl2])
   subst e1 e2
   refine ⟨v, vs, a1, a2, rfl, rfl, ?_, CD hn hBn hBF hrows hr hv.2 hrest⟩
   obtain ⟨v', vr, c1, c2, h1, h2, h3, h4⟩ := C9 (e := e) (vs := [v]) (out := a1) hfr ⟨hv.1, trivial⟩ (by rw [hl1, hal]) (by simpa using hsem)
   injection h1 with h1 h1'
   subst h1
   rw [h4.1, List.append_nil] at h2
   rw [h2]
   exact h3
 | .lst ss ty :: rs, p :: ps, ls, us, out, h, hv, hs => by
  unfold Cq at h
  split at h
  ·cases h
  ·rename_i hss
   simp only [Bool.or_eq_true, beq_iff_eq, Bool.not_eq_true', not_or, Bool.not_eq_false] at hss
   obtain ⟨x, k, r, y, m, s, rfl, hb, rfl, hkm, hrest⟩ := hs
   cases us with
   | nil => exact hv.elim
   | cons v vs =>
    split at h
    ·rename_i r' k'
     simp only [Option.bind_eq_bind, Option.bind_eq_some_iff] at h
     obtain ⟨row, hrow, a, ha, h⟩ := h
     split at h
     ·cases h
     ·rename_i hc
      simp only [Bool.or_eq_true, Bool.not_eq_true', bne_iff_ne, ne_eq, not_or, Decidable.not_not, Bool.not_eq_false] at hc
      obtain ⟨⟨⟨c1, c2⟩, c3⟩, c4⟩ := hc
      have c3 := B3 c3
      have c4 := L.Af c4
      simp only [Option.bind_eq_some_iff, Option.some.injEq] at h
      obtain ⟨q, hq, rfl⟩ := h
      simp only [List.cons_append, List.nil_append, List.map_cons, List.cons.injEq] at hb
      obtain ⟨hb1, UY, rfl⟩ := hb
      obtain ⟨as, mm, l1, l2, l3, l4, l5⟩ := (hrows.lst r' row a hrow ha).2
      rw [if_pos c1] at l5
      have l6 := l5
      obtain ⟨h1, _, h3⟩ := hv.1
      simp only [K.ok] at h1
      have h3 := h3.resolve_left (by simp)
      refine ⟨v, vs, [x, k], r, rfl, rfl, ⟨as, k, mm, by rw [← hb1, l1], by rw [l2, c3], by rw [hkm, ← UY]; exact l3, by rw [← c3]; exact l4, hss.2, ?_⟩, CD hn hBn hBF hrows hq hv.2 hrest⟩
      cases he : (loc r').emp
      ·rw [if_neg (by simp [he])] at l6
       obtain ⟨g1, g2, g3, us', sp, g4, g5, g6⟩ := l6
       have g7 := g6.single l4 (by rw [c3]; exact hss.2)
       subst g7
       refine .inr ⟨(loc r').blk, (loc r').cap, sp, ?_, hBn ▸ g2.1, g3, by rw [← c2, ← c3]; exact g4, by rw [← c3]; exact g5⟩
       rw [h3]
       simp only [K.Bl, he, Bool.false_eq_true, if_false, g1, c4, l3]
       simp
      ·rw [if_pos he] at l6
       refine .inl ⟨l6.1, ?_⟩
       rw [h3]
       simp only [K.Bl, he, if_true]
       exact l6.2
    ·simp only [Option.bind_eq_bind, Option.bind_eq_some_iff, Option.some.injEq] at h
     obtain ⟨q, hq, rfl⟩ := h
     simp only [List.cons_append, List.nil_append, List.map_cons, List.cons.injEq] at hb
     obtain ⟨hb1, UY, rfl⟩ := hb
     refine ⟨v, vs, [x, k], r, rfl, rfl, ⟨[], k, 0, by rw [← hb1]; rfl, by simp, by rw [hkm, ← UY]; rfl, by omega, hss.2, .inl ⟨rfl, Dk hv.1⟩⟩, CD hn hBn hBF hrows hq hv.2 hrest⟩
    ·cases h
 | .d agg ss :: rs, p :: ps, ls, us, out, h, hv, hs => by
  simp only [Cq, Option.bind_eq_bind, Option.bind_eq_some_iff, Option.some.injEq] at h
  obtain ⟨a, ha, r, hr, rfl⟩ := h
  cases us with
  | nil => exact hv.elim
  | cons v vs =>
   obtain ⟨a1, a2, b1, b2, rfl, hb, hl1, hl2, hsem, hrest⟩ := hs
   have hcov : ∀ l, TB rows loc w' B (Dy (fun k => S k ∨ w.heap.size ≤ k) w') l := fun l =>
    ⟨Gr (fun k hk => hBn ▸ hBF k hk) (fun _ _ => rfl), fun r hr ⟨row, h1, h2⟩ o u hu => DD hu (.inr (by
     rcases h2 with h2 | h2
     ·have := hrows.row r row h1
      unfold AH at this
      rw [if_pos h2] at this
      exact hBn ▸ this.2.2.1.1
     ·exact hBn ▸ (hrows.Su h1 h2).2.1))⟩
   have hd : ∃ cs : List Value, (if agg then v = .agg cs.toArray else cs = [v]) ∧ BO (Dy (fun k => S k ∨ w.heap.size ≤ k) w') ss (a.map (L.ev e)) cs := by
    split at ha
    ·rename_i l
     obtain ⟨cs, rfl, hcs⟩ := hv.1
     exact ⟨cs, by simp, BP ha hrows (hcov _) (hn ▸ hcs)⟩
    ·rename_i c
     exact ⟨[v], by simp, BP ha hrows (hcov _) (hn ▸ ⟨hv.1, trivial⟩)⟩
    ·cases ha
   obtain ⟨cs, hc1, hc2⟩ := hd
   rw [List.map_append] at hb
   obtain ⟨e1, e2⟩ := List.append_inj hb (by rw [hl2]; exact (CU hc2).1)
   subst e1 e2
   exact ⟨v, vs, a1, a2, rfl, rfl, ⟨cs, hc1, hsem.cells hc2⟩, CD hn hBn hBF hrows hr hv.2 hrest⟩
 | [], _ :: _, _, _, _, h, _, _ => by simp [Cq] at h
 | .d _ _ :: _, [], _, _, _, h, _, _ => by simp [Cq] at h
 | .c _ _ :: _, [], _, _, _, h, _, _ => by simp [Cq] at h
 | .lst _ _ :: _, [], _, _, _, h, _, _ => by simp [Cq] at h
theorem VA (hX : XL P T X) {ws : List (Nat × Nat)} (hws : ET T ws) {c : WQ} {lits : List (Nat × Int)} {ns : List Nat} {n k : Nat} {kn : List ED} {more : List A} {args : List PV} {rows rows' : List Row} {v : SV} {g : G} {ls : List L}
  (hpar : DR (T4 lits) c.ps ns 0 0 = some (args, rows, k)) (hrun : run X n c.f args rows (k + more.length) kn = some (v, rows', g)) (hdefs : Iy ws g.defs g.next = true)
  (hbase : (g.defs.all fun d => decide (k + more.length ≤ d.base)) = true)
  (hls : JP rows' c.rs v = some ls) {as : List A} {vs : List Value} {w : World} (hT : O1 P w) {S : Nat → Prop} (hS : ∀ k, S k → k < w.heap.size) (hargs : Cb (Dy S w) c.ps vs as) (hlens : SU c.ps ns as)
  (hlits : ∀ i x, look i lits = some x → ∀ a, as[i]? = some a → a = .i x)
  (hpure : ∀ e, (∀ j a, (as ++ more)[j]? = some a → e j = a) → (∀ d ∈ g.defs, d.holds T e) → (∀ x ∈ g.known, x.holds T e) ∧ (∀ o ∈ g.obs, (o.ev e).bool = true) ∧
   RQ c.rs (T c.f as).2 (ls.map (L.ev e))) :
  Calls P c.f vs.toArray w fun en w' => ∃ us, en = .returned (Ip us) ∧ MV S w w' c.rs (T c.f as).2 us ∧ Below w.heap.size w w' := by
 have lfe : ∀ (e : Nat → A), (∀ j a, as[j]? = some a → e j = a) → ∀ j a, as[j]? = some a → (T4 lits (0 + j)).ev e = a := fun e he j a hj => by
  rw [Nat.zero_add]
  unfold T4
  split
  ·rename_i x hx
   exact (hlits j x hx a hj).symm
  ·exact he j a hj
 have hk : k = as.length := by
  have := (CZ hS (e := fun i => as.getD i (.i 0)) hpar hargs hlens (lfe _ fun j a hj => by simp [hj])).1
  omega
 have hev0 : ∀ j a, (as ++ more)[j]? = some a → Dw T (fun i => (as ++ more).getD i (.i 0)) g.defs j = a := fun j a hj => by
  rw [FT hbase j (by have := Ac hj; rw [List.length_append] at this; omega)]
  simp [hj]
 have hev := lfe _ (fun j a hj => hev0 j a (by rw [List.getElem?_append_left (Ac hj)]; exact hj))
 have hd := JO hws (fun i => (as ++ more).getD i (.i 0)) hdefs
 obtain ⟨hkn, hobs, hres⟩ := hpure _ hev0 hd
 have hg : Good T (Dw T (fun i => (as ++ more).getD i (.i 0)) g.defs) g := ⟨hd, hobs, hkn⟩
 obtain ⟨_, locs, l1, l2⟩ := CZ hS hpar hargs hlens hev
 obtain ⟨m1, m2⟩ := l2 (fun i => locs.getD i default) rows.length (fun i x hx => by simp [hx]) (by omega)
 have hrows : Ad (Dw T (fun i => (as ++ more).getD i (.i 0)) g.defs) (fun i => locs.getD i default) rows w ⟨w.heap.size, S⟩ :=
  T5 m2
 have := (Hb (T := T) (e := Dw T (fun i => (as ++ more).getD i (.i 0)) g.defs) (w0 := ⟨w, S⟩) hX hT n).2.2.2 c.f args rows (.t true) _ v rows' g hrun hg
 refine (this.2 _ vs w rfl m1 ⟨_, ⟨rfl, fun k hk => .inl hk, Nat.le_refl _, hS⟩, hrows, Below.refl _ _⟩).mono ?_
 rintro en w' ⟨u, rfl, loc', q1, q2, q3, B, ⟨hBn, hBF, hBl⟩, q4, q5⟩
 unfold JP at hls
 split at hls
 ·exact ⟨[u], rfl, CD rfl hBn hBF q4 hls ⟨q3, trivial⟩ hres, q5⟩
 ·split at hls
  ·cases hls
  ·rename_i hl
   obtain ⟨us, rfl, hu⟩ := q3
   refine ⟨us, ?_, CD rfl hBn hBF q4 hls hu hres, q5⟩
   have := G0 hu
   match us with
   | [] => rfl
   | [_] => simp at this; simp [this] at hl
   | _ :: _ :: _ => rfl
 ·cases hls
end
end Rx
namespace Rx
open Go Go.RowKit
section
variable {T : Nat → List A → Bool × List A} {e : Nat → A} {P : Program} {X : Ctx} {w0 : W0} {loc loc' : Loc}
theorem AO.le {n m : Nat} (h : AO n loc loc') (hm : m ≤ n) : AO m loc loc' := fun r hr => h r (Nat.lt_of_lt_of_le hr hm)
theorem get_mem {x : Gk} {s : St} : ∀ {o : Aq}, Aq.get x o = some s → (x, s) ∈ o
 | [], h => by simp [Aq.get] at h
 | (y, t) :: l, h => by
  unfold Aq.get at h
  split at h
  ·rename_i hxy
   have hxy := Gk.En.1 hxy
   injection h with h
   subst h hxy
   exact List.mem_cons_self ..
  ·exact List.mem_cons_of_mem _ (get_mem h)
theorem RR {x : Gk} {s : St} : ∀ {o : List (Gk × St)}, Tk x o = some s → (x, s) ∈ o
 | [], h => by simp [Tk] at h
 | (y, t) :: l, h => by
  unfold Tk at h
  split at h
  ·rename_i hxy
   have hxy := Gk.En.1 hxy
   injection h with h
   subst h hxy
   exact List.mem_cons_self ..
  ·exact List.mem_cons_of_mem _ (RR h)
theorem NO {q : Lp} {x : Gk} {s : St} : ∀ {o : Aq} {exs : List Ex}, JB q o = some exs → (x, s) ∈ o → x ≠ .norm → ∃ t y, (x, t) ∈ q.outs ∧ Zs q x t s = some y ∧ y ∈ exs
 | [], _, _, h, _ => by cases h
 | (y, u) :: l, exs, h, hm, hx => by
  simp only [JB, Option.bind_eq_bind, Option.bind_eq_some_iff] at h
  obtain ⟨r, hr, h⟩ := h
  rcases List.mem_cons.1 hm with heq | hm
  ·injection heq with h1 h2
   subst h1 h2
   rw [if_neg (fun h0 => hx (Gk.En.1 h0))] at h
   simp only [Option.bind_eq_some_iff, Option.some.injEq] at h
   obtain ⟨t, ht, y, hy, rfl⟩ := h
   exact ⟨t, y, RR ht, hy, List.mem_cons_self ..⟩
  ·obtain ⟨t, y', h1, h2, h3⟩ := NO hr hm hx
   refine ⟨t, y', h1, h2, ?_⟩
   split at h
   ·injection h with h
    subst h
    exact h3
   ·simp only [Option.bind_eq_some_iff, Option.some.injEq] at h
    obtain ⟨_, _, _, _, rfl⟩ := h
    exact List.mem_cons_of_mem _ h3
theorem T6 (hX : XL P T X) {ws : List (Nat × Nat)} (hws : ET T ws) {q : Lp} {f : Nat} {pa : List Bool} {code : Code} {n : Nat} {outs : Aq} {g : G} {back : Option (L × List L)} {exs : List Ex}
  (hat : AtF X f pa code) (hrun : exec X n f pa code (Lj q) ⟨q.k, [], [], []⟩ = some (outs, g)) (hdefs : Iy ws g.defs g.next = true) (hbase : (g.defs.all fun d => decide (q.k ≤ d.base)) = true) (hknown : g.known = []) (hm : decide (q.m ≤ q.tm.rows.length) = true)
  (hback : Ss q outs = some back) (hexs : JB q outs = some exs) (hlen : ∀ as, (T q.id as).1 = true → (T q.id as).2.length = q.w) (meas : List A → Nat)
  (hpure : ∀ (as : List A) (e : Nat → A), as.length = q.k → (∀ (i : Nat) x, as[i]? = some x → e i = x) → (T q.id as).1 = true → (∀ d ∈ g.defs, d.holds T e) →
   (∀ o ∈ g.obs, (o.ev e).bool = true) ∧
   (∀ pc ls, back = some (pc, ls) → (pc.ev e).bool = true → (T q.id (ls.map (L.ev e))).1 = true ∧ (T q.id (ls.map (L.ev e))).2 = (T q.id as).2 ∧ meas (ls.map (L.ev e)) < meas as) ∧
   ∀ x ∈ exs, (x.pc.ev e).bool = true → ∀ (j : Nat) l, x.lx[j]? = some (some l) → D6 (q.tags.getD j .any) (l.ev e) ((T q.id as).2.getD j (.i 0))) : A2 P T q code := by
 refine ⟨hlen, fun as w0 loc a w Q hT => ?_⟩
 generalize hN : meas as = N
 induction N using Nat.strongRecOn generalizing as loc a w with
 | ind N ih =>
  intro hal hpre hfr hcl hQ
  have he0 : ∀ i, i < q.k → Dw T (NV as) g.defs i = NV as i := fun i hi => FT hbase i hi
  generalize hE : Dw T (NV as) g.defs = e at he0
  have hd : ∀ d ∈ g.defs, d.holds T e := by rw [← hE]; exact JO hws _ hdefs
  have hei : ∀ (i : Nat) x, as[i]? = some x → e i = x := fun i x hx => by
   rw [he0 i (by rw [← hal]; exact Ac hx)]
   simp [NV, hx]
  obtain ⟨p1, p2, p3⟩ := hpure as e hal hei hpre hd
  have hg : Good T e g := ⟨hd, p1, by rw [hknown]; exact fun k hk => by cases hk⟩
  obtain ⟨_, hends⟩ := (Hb (e := e) (w0 := w0) hX hT n).1 f pa code (Lj q) _ outs g hat hrun hg
  have hs0 : ∀ i, NV as i = ((fun i => if i < q.k then L.var i else .n 0) i).ev e := fun i => by
   simp only
   split
   ·rename_i hi
    rw [L.Ak, he0 i hi]
   ·rename_i hi
    simp [NV, List.getD, List.getElem?_eq_none (show as.length ≤ i by omega)]
  have hrl : (Lj q).rows.length = q.tm.rows.length := by simp [Lj, DQ]
  refine LW.of (hends.wp loc a w _ rfl (by rw [hrl]; exact (GF hs0).2 hfr) (by obtain ⟨B, hB, hR, hbel⟩ := hcl; exact ⟨B, hB, (Fk hs0).2 hR, hbel⟩) fun x s hx hs => ?_)
  intro loc' a' w' q1 q2 q3 q4 q5
  by_cases hxn : x = .norm
  ·subst hxn
   show LW P code Q a' w'
   unfold Ss at hback
   rw [hx] at hback
   simp only at hback
   cases hb : Zr q s with
   | none => rw [hb] at hback; cases hback
   | some ls =>
    rw [hb] at hback
    injection hback with hback
    obtain ⟨r1, r2, r3⟩ := p2 s.pc ls hback.symm hs
    unfold Zr at hb
    generalize hmt : Jz q.m q.tm s = mt at hb
    obtain ⟨ml, ρ⟩ := mt
    simp only at hb
    split at hb
    ·rename_i hc
     injection hb with hb
     rw [hb] at hc
     simp only [Bool.and_eq_true] at hc
     obtain ⟨c1, c2⟩ := hc
     obtain ⟨k1, k2, k3, k4, k5⟩ := Fo (e := e) (loc := loc') (w0 := w0) c1
     have hll : ls.length = q.k := by rw [← hb]; simp [Fb]
     have he1 : ∀ i, NV (ls.map (L.ev e)) i = (BX ls i).ev e := fun i => by
      unfold NV BX
      rw [List.getD, List.getElem?_map]
      cases ls[i]? <;> rfl
     have hrl2 : (DQ (BX ls) q.tm).rows.length = q.tm.rows.length := by simp [DQ]
     have hfr2 := k4 _ q3
     obtain ⟨B2, hB2, hR2, hbel2⟩ := k5 _ q5
     rw [hrl2] at hfr2 k2
     refine ih _ (by rw [← hN]; exact r3) (ls.map (L.ev e)) (Fm loc' ρ) a' w' rfl (by simpa using hll) r1 ((GF he1).1 hfr2) ⟨B2, hB2, (Fk he1).1 hR2, hbel2⟩ fun y t e' h1 h2 h3 loc2 a2 w2 h4 h5 h6 h7 => ?_
     refine hQ y t e' h1 (fun i => ?_) h3 loc2 a2 w2 ((q1.le (by rw [hrl]; exact k2)).trans (k3.trans h4 (Nat.le_refl _)) (Nat.le_refl _)) h5 (h6.trans q4) h7
     have := h2 i
     rw [r2] at this
     have hxx : T2 q (ls.map (L.ev e)) (T q.id as).2 i = T2 q as (T q.id as).2 i := by
      unfold T2
      split
      ·rename_i hi
       split
       ·rename_i hk
        unfold Aby at c2
        rw [List.all_eq_true] at c2
        have := c2 i (by simpa using hi)
        rw [hk] at this
        simp only [Bool.not_true, Bool.false_or] at this
        have h9 := he1 i
        rw [L.Af this, L.Ak, he0 i hi] at h9
        exact h9
       ·rfl
      ·rfl
     rw [hxx] at this
     exact this
    ·cases hb
  ·rw [Ow hxn]
   obtain ⟨t, y, t1, t2, t3⟩ := NO hexs (get_mem hx) hxn
   unfold Zs at t2
   generalize hmt : Jz q.m t s = mt at t2
   obtain ⟨ml, ρ⟩ := mt
   simp only at t2
   generalize hlx : AbR q t.pc ml = lx at t2
   split at t2
   ·rename_i hc
    injection t2 with t2
    subst t2
    simp only [Bool.and_eq_true] at hc
    obtain ⟨⟨c1, c2⟩, c3⟩ := hc
    obtain ⟨k1, k2, k3, k4, k5⟩ := Fo (e := e) (loc := loc') (w0 := w0) c1
    have hfr2 := k4 _ q3
    obtain ⟨B2, hB2, hR2, hbel2⟩ := k5 _ q5
    have hrl2 : (DQ (CN q (Tj q.k) (Rn lx)) t).rows.length = t.rows.length := by simp [DQ]
    rw [hrl2] at hfr2 k2
    let e2 : Nat → A := fun i => (CN q (Tj q.k) (Rn lx) i).ev e
    let e3 : Nat → A := fun i => if i < q.k then e2 i else match lx.getD (i - q.k) none with | some l => l.ev e | none => (T q.id as).2.getD (i - q.k) (.i 0)
    have hfr3 := (GF (e1 := e2) (fun i => rfl)).1 hfr2
    have hcl3 := (Fk (e1 := e2) (fun i => rfl)).1 hR2
    have h23 : ∀ i, D6 (AbQ q lx i) (e2 i) (e3 i) := fun i => by
     simp only [e3, AbQ]
     split
     ·exact .of_eq rfl
     ·rename_i hi
      have : e2 i = (BX (Rn lx) (i - q.k)).ev e := by simp only [e2, CN, if_neg hi]
      rw [this]
      cases hl : lx.getD (i - q.k) none with
      | none => trivial
      | some l =>
       refine .of_eq ?_
       rw [List.getD] at hl
       cases hl2 : lx[i - q.k]? with
       | none => rw [hl2] at hl; simp at hl
       | some o =>
        rw [hl2] at hl
        simp only [Option.getD_some] at hl
        subst hl
        simp [BX, Rn, hl2]
    simp only [W4, Bool.and_eq_true] at c2
    obtain ⟨⟨u1, u2⟩, u3⟩ := c2
    have hag : ∀ i, D6 (q.tag i) (e3 i) (T2 q as (T q.id as).2 i) := fun i => by
     simp only [e3, Lp.tag, T2]
     split
     ·rename_i hi
      refine .of_eq ?_
      simp only [e2, CN, if_pos hi]
      split
      ·have : BX (Tj q.k) i = .var i := by simp [BX, Tj, hi]
       rw [this, L.Ak, he0 i hi]
       rfl
      ·rfl
     ·rename_i hi
      cases hl : lx.getD (i - q.k) none with
      | none => exact .of_eq rfl
      | some l =>
       rw [List.getD] at hl
       cases hl2 : lx[i - q.k]? with
       | none => rw [hl2] at hl; simp at hl
       | some o =>
        rw [hl2] at hl
        simp only [Option.getD_some] at hl
        subst hl
        exact p3 _ t3 hs (i - q.k) l hl2
    refine hQ x t e3 t1 hag ?_ (Fm loc' ρ) a' w' ((q1.le (by rw [hrl]; exact of_decide_eq_true hm)).trans k3 (Nat.le_refl _)) (RO h23 u1 hfr3) q4 ⟨B2, hB2, Ps h23 u2 hcl3, hbel2⟩
    ·have hp := CK h23 u3
     simp only [D6] at hp
     rw [← hp]
     cases hpc : t.pc with
     | var i =>
      rw [hpc] at hlx c3
      simp only [AbR] at hlx
      simp only [pcB, Bool.and_eq_true, decide_eq_true_eq] at c3
      rw [L.Ak]
      have hlx2 : lx[i - q.k]? = some (some (.t true)) := by
       rw [← hlx, List.getElem?_set_self (by simp; omega)]
      simp only [e2, CN, if_neg (show ¬ i < q.k by omega)]
      simp [BX, Rn, hlx2]
     | t b =>
      rw [hpc] at c3
      cases b
      ·cases c3
      ·rfl
     | n _ => rw [hpc] at c3; cases c3
     | s _ => rw [hpc] at c3; cases c3
     | e => rw [hpc] at c3; cases c3
   ·cases t2
end
end Rx
namespace Rx
open Go Go.RowKit
section
variable {T : Nat → List A → Bool × List A} {e : Nat → A}
theorem holds_one {b : Nat} {d : D} {args : List L} {x : A} (h : d.ev T (args.map (L.ev e)) = [x]) : Def.holds T e ⟨b, d, args⟩ ↔ e b = x := by
 unfold Def.holds
 simp only [h]
 constructor
 ·intro hh
  simpa using hh 0 x rfl
 ·intro hh j a ha
  cases j with
  | zero => simp at ha; subst ha; simpa using hh
  | succ j => simp at ha
theorem T7 {b op k x y} : Def.holds T e ⟨b, .ar op k, [x, y]⟩ ↔ e b = .i (D0 op k (x.ev e).int (y.ev e).int) := holds_one rfl
theorem T8 {b op k x y} : Def.holds T e ⟨b, .dv op k, [x, y]⟩ ↔ e b = .i (Ee op k (x.ev e).int (y.ev e).int) := holds_one rfl
theorem T9 {b op k x y} : Def.holds T e ⟨b, .bt op k, [x, y]⟩ ↔ e b = .i (CW op k (x.ev e).int (y.ev e).int) := holds_one rfl
theorem XW {b op x y} : Def.holds T e ⟨b, .cmp op, [x, y]⟩ ↔ e b = .b (Bg op (x.ev e).int (y.ev e).int) := holds_one rfl
theorem Pv {b k x} : Def.holds T e ⟨b, .conv k, [x]⟩ ↔ e b = .i (k.wrap (x.ev e).int) := holds_one rfl
theorem XX {b k x} : Def.holds T e ⟨b, .neg k, [x]⟩ ↔ e b = .i (k.wrap (0 - (x.ev e).int)) := holds_one rfl
theorem XY {b x} : Def.holds T e ⟨b, .not, [x]⟩ ↔ e b = .b (!(x.ev e).bool) := holds_one rfl
theorem XZ {b x y} : Def.holds T e ⟨b, .and, [x, y]⟩ ↔ e b = .b ((x.ev e).bool && (y.ev e).bool) := holds_one rfl
theorem ZY {b x y} : Def.holds T e ⟨b, .or, [x, y]⟩ ↔ e b = .b ((x.ev e).bool || (y.ev e).bool) := holds_one rfl
theorem X0 {b x y} : Def.holds T e ⟨b, .imp, [x, y]⟩ ↔ e b = .b (!(x.ev e).bool || (y.ev e).bool) := holds_one rfl
theorem Pw {b x y z} : Def.holds T e ⟨b, .iteI, [x, y, z]⟩ ↔ e b = .i (if (x.ev e).bool then (y.ev e).int else (z.ev e).int) := holds_one rfl
theorem VB {b x y z} : Def.holds T e ⟨b, .iteB, [x, y, z]⟩ ↔ e b = .b (if (x.ev e).bool then (y.ev e).bool else (z.ev e).bool) := holds_one rfl
theorem KU {b x y z} : Def.holds T e ⟨b, .iteV, [x, y, z]⟩ ↔ e b = .v (if (x.ev e).bool then (y.ev e).val else (z.ev e).val) := holds_one rfl
theorem X1 {b x y} : Def.holds T e ⟨b, .eqB, [x, y]⟩ ↔ e b = .b ((x.ev e).bool == (y.ev e).bool) := holds_one rfl
theorem X2 {b x y} : Def.holds T e ⟨b, .eqS, [x, y]⟩ ↔ e b = .b ((x.ev e).str == (y.ev e).str) := holds_one rfl
theorem ZZ {b x y} : Def.holds T e ⟨b, .mn, [x, y]⟩ ↔ e b = .i (if (y.ev e).int < (x.ev e).int then (y.ev e).int else (x.ev e).int) := holds_one rfl
theorem Z0 {b x y} : Def.holds T e ⟨b, .mx, [x, y]⟩ ↔ e b = .i (if (x.ev e).int < (y.ev e).int then (y.ev e).int else (x.ev e).int) := holds_one rfl
theorem VC {b x} : Def.holds T e ⟨b, .slen, [x]⟩ ↔ e b = .i ((x.ev e).str.size : Int) := holds_one rfl
theorem VD {b x y z} : Def.holds T e ⟨b, .iteA, [x, y, z]⟩ ↔ e b = (if (x.ev e).bool then y.ev e else z.ev e) := holds_one rfl
theorem X3 {b o s x i} : Def.holds T e ⟨b, .pix o s, [x, i]⟩ ↔ e b = (x.ev e).AJ.getD (o + s * (i.ev e).int.toNat) (.i 0) := holds_one rfl
theorem VE {b o s x i y} : Def.holds T e ⟨b, .pset o s, [x, i, y]⟩ ↔ e b = .l ((x.ev e).AJ.set (o + s * (i.ev e).int.toNat) (y.ev e)) := holds_one rfl
theorem X4 {b s x} : Def.holds T e ⟨b, .lln s, [x]⟩ ↔ e b = .i (((x.ev e).AJ.length / s : Nat) : Int) := holds_one rfl
theorem X5 {b x zs} : Def.holds T e ⟨b, .rep, x :: zs⟩ ↔ e b = .l (List.replicate (x.ev e).int.toNat (zs.map (L.ev e))).flatten := holds_one rfl
theorem X6 {b l} : Def.holds T e ⟨b, .mkl, l⟩ ↔ e b = .l (l.map (L.ev e)) := holds_one rfl
theorem X7 {b x y m} : Def.holds T e ⟨b, .cpy, [x, y, m]⟩ ↔ e b = .l ((y.ev e).AJ.take (m.ev e).int.toNat ++ (x.ev e).AJ.drop (m.ev e).int.toNat) := holds_one rfl
theorem X8 {b x y} : Def.holds T e ⟨b, .cat, [x, y]⟩ ↔ e b = .l ((x.ev e).AJ ++ (y.ev e).AJ) := holds_one rfl
theorem X9 {b x l} : Def.holds T e ⟨b, .sel, x :: l⟩ ↔ e b = (l.map (L.ev e))[(x.ev e).int.toNat]?.getD (.i 0) := holds_one rfl
end
end Rx
namespace Rx
open Go Go.RowKit
inductive LS where
 | s (x : Au) | sl (t e : Nat)
def LS.Qr : LS → Au
 | .s x => x
 | .sl .. => .val
def M5 (F : Nat → Option (List LS)) (Ay : List (Nat × Ty)) : List (Nat × Nat) → Nat → Option (List LS)
 | [], _ => some []
 | (t, off) :: l, o => do
  let ty ← look t Ay
  let a ← F t
  if off == o && a.length == ty.size then let r ← M5 F Ay l (o + ty.size); some (a ++ r) else none
def Kj (Ay : List (Nat × Ty)) : Nat → Nat → Option (List LS)
 | 0, _ => none
 | n + 1, t => do
  let ty ← look t Ay
  match ty.kind with
  | .int k => some [.s (.int k)]
  | .bool => some [.s .bool]
  | .string => some [.s .str]
  | .slice e => some [.sl t e]
  | .arr m e => do
   let te ← look e Ay
   let l ← M5 (Kj Ay n) Ay ((List.range m).map fun i => (e, i * te.size)) 0
   if l.length == ty.size then some l else none
  | .struct fs => do
   let l ← M5 (Kj Ay n) Ay fs 0
   if l.length == ty.size then some l else none
  | _ => none
section
variable {H : Type} {enc : TypeId × Value → H} {P : Program} {w : World} {base : Nat} {spare : Nat → Bool} {held : Bool}
def AbX {H : Type} (enc : TypeId × Value → H) (P : Program) (w : World) (base : Nat) (spare : Nat → Bool) (held : Bool) : LS → A → Prop
 | .s (.int k), a => k.min ≤ a.int ∧ a.int ≤ k.max
 | .s .str, a => a.str.size ≤ maxLen
 | .s _, _ => True
 | .sl t _, a => ∃ fuel x, DataW.trod enc P w base spare held fuel t [GS a.val] = some x
def DK {H : Type} (enc : TypeId × Value → H) (P : Program) (w : World) (base : Nat) (spare : Nat → Bool) (held : Bool) : List LS → List A → Prop
 | [], as => as = []
 | s :: ss, as => ∃ a r, as = a :: r ∧ AbX enc P w base spare held s a ∧ DK enc P w base spare held ss r
theorem HD : ∀ {s1 s2 : List LS} {a1 a2 : List A}, DK enc P w base spare held s1 a1 → DK enc P w base spare held s2 a2 → DK enc P w base spare held (s1 ++ s2) (a1 ++ a2)
 | [], _, _, _, h1, h2 => by
  rw [show _ = ([] : List A) from h1]
  exact h2
 | s :: s1, s2, a1, a2, h1, h2 => by
  obtain ⟨a, r, rfl, h3, h4⟩ := h1
  exact ⟨a, r ++ a2, rfl, h3, HD h4 h2⟩
theorem He : ∀ {ss : List LS} {as : List A}, DK enc P w base spare held ss as → as.length = ss.length
 | [], _, h => by rw [show _ = ([] : List A) from h]; rfl
 | s :: ss, as, h => by
  obtain ⟨a, r, rfl, _, h⟩ := h
  simp [He h]
theorem IA {Ay : List (Nat × Ty)} (hX : B5 P Ay) {n : Nat} {F : Nat → Option (List LS)}
  (hF : ∀ t ss, F t = some ss → ∀ fuel cs x, DataW.trod enc P w base spare held fuel t cs = some x → ∃ as, DK enc P w base spare held ss as ∧ cs = Ag (ss.map LS.Qr) as) (cs : List Value) :
  ∀ (fl : List (Nat × Nat)) (o : Nat) (ss : List LS), M5 F Ay fl o = some ss → (∀ f ∈ fl, ∃ y, DataW.trod enc P w base spare held n f.1 ((cs.drop f.2).take (P.cellsOf f.1)) = some y) →
   ∃ as, DK enc P w base spare held ss as ∧ (cs.drop o).take ss.length = Ag (ss.map LS.Qr) as
 | [], o, ss, h, _ => by
  simp only [M5, Option.some.injEq] at h
  subst h
  exact ⟨[], rfl, by simp [Ag]⟩
 | (t, off) :: fl, o, ss, h, hf => by
  simp only [M5, Option.bind_eq_bind, Option.bind_eq_some_iff] at h
  obtain ⟨ty, hty, a, ha, h⟩ := h
  split at h
  ·rename_i hc
   simp only [Bool.and_eq_true, beq_iff_eq] at hc
   obtain ⟨rfl, hlen⟩ := hc
   simp only [Option.bind_eq_some_iff, Option.some.injEq] at h
   obtain ⟨r, hr, rfl⟩ := h
   obtain ⟨y, hy⟩ := hf (t, off) (by simp)
   simp only at hy
   have hsz : P.cellsOf t = ty.size := by
    obtain ⟨i, z, h1, h2, _⟩ := (hX t ty hty).info
    rw [Program.cellsOf, h1]
    exact h2
   obtain ⟨as1, h1, h2⟩ := hF t a ha n _ y hy
   obtain ⟨as2, h3, h4⟩ := IA hX hF cs fl (off + ty.size) r hr (fun f hf' => hf f (by simp [hf']))
   refine ⟨as1 ++ as2, HD h1 h3, ?_⟩
   rw [List.length_append, List.take_add, List.drop_drop, hlen, h4, List.map_append, DJ (by rw [List.length_map, He h1]), ← h2, hsz]
  ·cases h
theorem KV {Ay : List (Nat × Ty)} (hX : B5 P Ay) : ∀ (n t : Nat) (ss : List LS), Kj Ay n t = some ss → ∀ (fuel : Nat) (cs : List Value) (x : DataW H × List MemPlace), DataW.trod enc P w base spare held fuel t cs = some x →
  ∃ as, DK enc P w base spare held ss as ∧ cs = Ag (ss.map LS.Qr) as
 | 0, t, ss, h => by simp [Kj] at h
 | n + 1, t, ss, h => fun fuel cs x hx => by
  simp only [Kj, Option.bind_eq_bind, Option.bind_eq_some_iff] at h
  obtain ⟨ty, hty, h⟩ := h
  have hT := hX t ty hty
  obtain ⟨d, hd, hk⟩ := hT.kind
  have hsz : P.cellsOf t = ty.size := by
   obtain ⟨i, z, h1, h2, _⟩ := hT.info
   rw [Program.cellsOf, h1]
   exact h2
  split at h
  ·rename_i k hkk
   injection h with h
   subst h
   rw [hkk] at hk
   cases d <;> simp only [TK.okB, Bool.false_eq_true] at hk
   rw [← BD hk] at hd
   obtain ⟨m, rfl, _, hw⟩ := DataW.trod_int hd hx
   simp only [Lit.wf, Bool.and_eq_true, decide_eq_true_eq] at hw
   exact ⟨[.i m], ⟨_, _, rfl, hw, rfl⟩, rfl⟩
  ·rename_i hkk
   injection h with h
   subst h
   rw [hkk] at hk
   cases d <;> simp only [TK.okB, Bool.false_eq_true] at hk
   obtain ⟨m, rfl, _⟩ := DataW.trod_bool hd hx
   exact ⟨[.b m], ⟨_, _, rfl, trivial, rfl⟩, rfl⟩
  ·rename_i hkk
   injection h with h
   subst h
   rw [hkk] at hk
   cases d <;> simp only [TK.okB, Bool.false_eq_true] at hk
   obtain ⟨m, rfl, _, hl⟩ := DataW.trod_string hd hx
   exact ⟨[.v (.string m)], ⟨_, _, rfl, hl, rfl⟩, rfl⟩
  ·rename_i e hkk
   injection h with h
   subst h
   rw [hkk] at hk
   cases d <;> simp only [TK.okB, Bool.false_eq_true] at hk
   rcases DataW.trod_slice hd hx with ⟨rfl, _⟩ | ⟨a, len, cap, _, _, _, _, rfl, _⟩
   ·exact ⟨[.v (.slice none 0 0)], ⟨_, _, rfl, ⟨fuel, x, hx⟩, rfl⟩, rfl⟩
   ·exact ⟨[.v (.slice (some a) len cap)], ⟨_, _, rfl, ⟨fuel, x, hx⟩, rfl⟩, rfl⟩
  ·rename_i m e hkk
   simp only [Option.bind_eq_some_iff] at h
   obtain ⟨te, hte, l, hl, h⟩ := h
   split at h
   ·rename_i hlen
    have hlen : l.length = ty.size := by simpa using hlen
    injection h with h
    subst h
    rw [hkk] at hk
    cases d <;> simp only [TK.okB, Bool.false_eq_true, Bool.and_eq_true, beq_iff_eq] at hk
    obtain ⟨rfl, rfl⟩ := hk
    obtain ⟨xs, q, rfl, _, hcl, hxl, hel⟩ := DataW.trod_array hd hx
    have hse : P.cellsOf e = te.size := by
     obtain ⟨i, z, h1, h2, _⟩ := (hX e te hte).info
     rw [Program.cellsOf, h1]
     exact h2
    obtain ⟨as, h1, h2⟩ := IA (n := q) hX (fun t ss h => KV hX n t ss h) cs _ 0 l hl (fun f hf => by
     obtain ⟨i, hi, rfl⟩ := List.mem_map.1 hf
     have hi : i < m := by simpa using hi
     refine ⟨xs[i]'(by omega), ?_⟩
     have := hel i hi
     simp only [hse] at this ⊢
     rw [this]
     simp)
    refine ⟨as, h1, ?_⟩
    rw [← h2, List.drop_zero, List.take_of_length_le (by omega)]
   ·cases h
  ·rename_i fs hkk
   simp only [Option.bind_eq_some_iff] at h
   obtain ⟨l, hl, h⟩ := h
   split at h
   ·rename_i hlen
    have hlen : l.length = ty.size := by simpa using hlen
    injection h with h
    subst h
    rw [hkk] at hk
    cases d <;> simp only [TK.okB, Bool.false_eq_true] at hk
    rename_i gs
    have hfs := MK hk
    subst hfs
    obtain ⟨xs, q, rfl, _, hcl, hxl, hel⟩ := DataW.trod_struct hd hx
    obtain ⟨as, h1, h2⟩ := IA (n := q) hX (fun t ss h => KV hX n t ss h) cs _ 0 l hl (fun f hf => by
     obtain ⟨fd, hfd, rfl⟩ := List.mem_map.1 hf
     obtain ⟨i, hi, hi2⟩ := List.getElem_of_mem hfd
     have hi' : i < gs.size := by simpa using hi
     refine ⟨xs[i]'(by omega), ?_⟩
     have := hel i fd (by rw [← hi2]; simp [hi'])
     rw [this]
     simp)
    refine ⟨as, h1, ?_⟩
    rw [← h2, List.drop_zero, List.take_of_length_le (by omega)]
   ·cases h
  ·cases h
theorem Ua {Ay : List (Nat × Ty)} (hX : B5 P Ay) {r : Reach} {b0 n t : Nat} {ty : Ty} {ss : List LS} {v : Value} {d : DataW H} {p : List MemPlace} (hty : look t Ay = some ty) (hs : Kj Ay n t = some ss)
  (hval : Value.okWide P w r b0 t v) (h : DataW.Trod enc P w base spare held t v d p) :
  ∃ as, DK enc P w base spare held ss as ∧ MR w.cell? (.c ty.kind.agg (ss.map LS.Qr)) v as := by
 obtain ⟨fuel, hx⟩ := h
 obtain ⟨as, h1, h2⟩ := KV hX n t ss hs fuel _ _ hx
 obtain ⟨dd, hd, hk⟩ := (hX t ty hty).kind
 refine ⟨as, h1, by rw [List.length_map, He h1], ?_⟩
 have hagg : ty.kind.agg = true → ∃ cs, v = .agg cs := by
  intro ha
  cases hkk : ty.kind <;> rw [hkk] at ha hk <;> simp [TK.agg] at ha
  all_goals
   cases dd <;> simp [TK.okB] at hk
   simp only [Value.okWide, hd] at hval
   obtain ⟨cs, h1, _⟩ := hval
   exact ⟨cs, h1⟩
 split
 ·rename_i ha
  obtain ⟨cs, rfl⟩ := hagg ha
  simp only [Value.cells] at h2
  rw [← h2]
 ·rename_i ha
  have h1' : ss.length = 1 := by
   cases n with
   | zero => simp [Kj] at hs
   | succ n =>
    simp only [Kj, hty, Option.bind_eq_bind, Option.bind_some] at hs
    split at hs
    ·injection hs with hs; subst hs; rfl
    ·injection hs with hs; subst hs; rfl
    ·injection hs with hs; subst hs; rfl
    ·injection hs with hs; subst hs; rfl
    ·rename_i hkk; rw [hkk] at ha; simp [TK.agg] at ha
    ·rename_i hkk; rw [hkk] at ha; simp [TK.agg] at ha
    ·cases hs
  obtain ⟨s, rfl⟩ : ∃ s, ss = [s] := by
   match ss, h1' with
   | [s], _ => exact ⟨s, rfl⟩
  obtain ⟨a, rr, rfl, h3, hr⟩ := h1
  rw [show rr = [] from hr] at h2 ⊢
  refine ⟨s.Qr, a, rfl, rfl, ?_⟩
  simp only [List.map_cons, List.map_nil, Ag] at h2
  have hnot : ∀ cs, v ≠ .agg cs := by
   rintro cs rfl
   cases n with
   | zero => simp [Kj] at hs
   | succ n =>
    simp only [Kj, hty, Option.bind_eq_bind, Option.bind_some] at hs
    cases hkk : ty.kind <;> rw [hkk] at hs hk ha <;> simp [TK.agg] at ha <;> simp at hs <;> cases dd <;> simp [TK.okB] at hk <;>
     simp [Value.okWide, hd, Cell.okWide, Cell.ok] at hval
  cases v <;> first | (exact absurd rfl (hnot _)) | (simpa [Value.cells] using h2)
end
end Rx
namespace Rx
open Go Go.RowKit
def gi (as : List A) (i : Nat) : Int := (as.getD i (.i 0)).int
def gb (as : List A) (i : Nat) : Bool := (as.getD i (.i 0)).bool
def gs (as : List A) (i : Nat) : ByteArray := (as.getD i (.i 0)).str
def gv (as : List A) (i : Nat) : Value := (as.getD i (.i 0)).val
def tab (l : List (Nat × (List A → Bool × List A))) (f : Nat) (as : List A) : Bool × List A :=
 match look f l with
 | some t => t as
 | none => (false, [])
def BQ (P : Program) (f : Nat) (fn : Func) : Prop := P.funcs[f]? = some fn ∧ (fn.name == "runtime.NumGoroutine") = false ∧ fn.body.isSome = true
def BR (P : Program) : List (Nat × Func) → Prop
 | [] => True
 | x :: l => BQ P x.1 x.2 ∧ BR P l
section
variable {T : Nat → List A → Bool × List A} {e : Nat → A} {P : Program}
theorem Ar {l : List (Nat × Func)} (h : BR P l) : TA P (fun f => look f l) := fun f fn hf => by
 induction l with
 | nil => cases hf
 | cons x l ih =>
  simp only [look] at hf
  split at hf
  ·rename_i hx
   injection hf with hf
   have hx : x.1 = f := by simpa using hx
   subst hx
   subst hf
   exact h.1
  ·exact ih h.2 hf
theorem Ade {b op k x y} (h : Def.holds T e ⟨b, .ar op k, [x, y]⟩) : (e b).int = D0 op k (x.ev e).int (y.ev e).int := by rw [T7.1 h]; rfl
theorem Adf {b op k x y} (h : Def.holds T e ⟨b, .dv op k, [x, y]⟩) : (e b).int = Ee op k (x.ev e).int (y.ev e).int := by rw [T8.1 h]; rfl
theorem Adg {b op k x y} (h : Def.holds T e ⟨b, .bt op k, [x, y]⟩) : (e b).int = CW op k (x.ev e).int (y.ev e).int := by rw [T9.1 h]; rfl
theorem Acv {b op x y} (h : Def.holds T e ⟨b, .cmp op, [x, y]⟩) : (e b).bool = Bg op (x.ev e).int (y.ev e).int := by rw [XW.1 h]; rfl
theorem AbY {b k x} (h : Def.holds T e ⟨b, .conv k, [x]⟩) : (e b).int = k.wrap (x.ev e).int := by rw [Pv.1 h]; rfl
theorem Acw {b k x} (h : Def.holds T e ⟨b, .neg k, [x]⟩) : (e b).int = k.wrap (0 - (x.ev e).int) := by rw [XX.1 h]; rfl
theorem Acx {b x} (h : Def.holds T e ⟨b, .not, [x]⟩) : (e b).bool = !(x.ev e).bool := by rw [XY.1 h]; rfl
theorem Acy {b x y} (h : Def.holds T e ⟨b, .and, [x, y]⟩) : (e b).bool = ((x.ev e).bool && (y.ev e).bool) := by rw [XZ.1 h]; rfl
theorem Adh {b x y} (h : Def.holds T e ⟨b, .or, [x, y]⟩) : (e b).bool = ((x.ev e).bool || (y.ev e).bool) := by rw [ZY.1 h]; rfl
theorem Acz {b x y} (h : Def.holds T e ⟨b, .imp, [x, y]⟩) : (e b).bool = (!(x.ev e).bool || (y.ev e).bool) := by rw [X0.1 h]; rfl
theorem AbZ {b x y z} (h : Def.holds T e ⟨b, .iteI, [x, y, z]⟩) : (e b).int = (if (x.ev e).bool then (y.ev e).int else (z.ev e).int) := by rw [Pw.1 h]; rfl
theorem Ab0 {b x y z} (h : Def.holds T e ⟨b, .iteB, [x, y, z]⟩) : (e b).bool = (if (x.ev e).bool then (y.ev e).bool else (z.ev e).bool) := by rw [VB.1 h]; rfl
theorem Z1 {b x y z} (h : Def.holds T e ⟨b, .iteV, [x, y, z]⟩) : (e b).val = (if (x.ev e).bool then (y.ev e).val else (z.ev e).val) := by rw [KU.1 h]; rfl
theorem Ab1 {b x y z} (h : Def.holds T e ⟨b, .iteV, [x, y, z]⟩) : (e b).str = (if (x.ev e).bool then (y.ev e).str else (z.ev e).str) := by
 rw [KU.1 h]
 unfold A.str
 simp only [A.Abz]
 split <;> rfl
theorem AcA {b x y} (h : Def.holds T e ⟨b, .eqB, [x, y]⟩) : (e b).bool = ((x.ev e).bool == (y.ev e).bool) := by rw [X1.1 h]; rfl
theorem AcB {b x y} (h : Def.holds T e ⟨b, .eqS, [x, y]⟩) : (e b).bool = ((x.ev e).str == (y.ev e).str) := by rw [X2.1 h]; rfl
theorem Adi {b x y} (h : Def.holds T e ⟨b, .mn, [x, y]⟩) : (e b).int = (if (y.ev e).int < (x.ev e).int then (y.ev e).int else (x.ev e).int) := by rw [ZZ.1 h]; rfl
theorem Adj {b x y} (h : Def.holds T e ⟨b, .mx, [x, y]⟩) : (e b).int = (if (x.ev e).int < (y.ev e).int then (y.ev e).int else (x.ev e).int) := by rw [Z0.1 h]; rfl
theorem Ab2 {b x} (h : Def.holds T e ⟨b, .slen, [x]⟩) : (e b).int = ((x.ev e).str.size : Int) := by rw [VC.1 h]; rfl
theorem Z2 (l : List L) (i : Nat) : ((l.map (L.ev e))[i]?.getD (.i 0)).int = (l.map fun a => (a.ev e).int).getD i 0 := by
 rw [List.getD, List.getElem?_map, List.getElem?_map]
 cases l[i]? <;> rfl
theorem Ab3 {b x l} (h : Def.holds T e ⟨b, .sel, x :: l⟩) : (e b).int = (l.map fun a => (a.ev e).int).getD (x.ev e).int.toNat 0 := by rw [X9.1 h]; exact Z2 _ _
theorem Ab4 {b x y l j a} (h : Def.holds T e ⟨b, .upd, x :: y :: l⟩) (ha : l[j]? = some a) : e (b + j) = if (x.ev e).int.toNat = j then y.ev e else a.ev e := by
 have hj : j < l.length := Ac ha
 refine h j _ ?_
 show ((l.map (L.ev e)).set _ _)[j]? = _
 rw [List.getElem?_set]
 split
 ·rename_i hx
  rw [if_pos (by simpa [hx] using hj)]
 ·rename_i hx
  rw [List.getElem?_map, ha]
  rfl
theorem Ab5 {b x y l} (j : Nat) {a} (h : Def.holds T e ⟨b, .upd, x :: y :: l⟩) (ha : l[j]? = some a) : (e (b + j)).int = if (x.ev e).int.toNat = j then (y.ev e).int else (a.ev e).int := by
 rw [Ab4 h ha]; split <;> rfl
theorem A7 {b f args} {t : List A → Bool × List A} (ht : T f = t) (h : Def.holds T e ⟨b, .call f, args⟩) : (e b).bool = (t (args.map (L.ev e))).1 := by
 have := h 0 (.b (T f (args.map (L.ev e))).1) rfl
 rw [ht, Nat.add_zero] at this
 rw [this]
 rfl
theorem A1 {b f args} {t : List A → Bool × List A} (ht : T f = t) (j : Nat) {a : A} (h : Def.holds T e ⟨b, .call f, args⟩) (ha : (t (args.map (L.ev e))).2[j]? = some a) : e (b + (j + 1)) = a := by
 refine h (j + 1) a ?_
 show (_ :: (T f (args.map (L.ev e))).2)[j + 1]? = _
 rw [List.getElem?_cons_succ, ht]
 exact ha
theorem VF {as more : List A} (he : ∀ j a, (as ++ more)[j]? = some a → e j = a) {n : Nat} (hn : as.length = n) : as = (List.range n).map e := by
 apply List.ext_getElem?
 intro i
 by_cases hi : i < as.length
 ·have h1 : (as ++ more)[i]? = some as[i] := by rw [List.getElem?_append_left hi]; simp
  rw [List.getElem?_map, List.getElem?_range (by omega), List.getElem?_eq_getElem hi]
  simp [he i _ h1]
 ·rw [List.getElem?_eq_none (by omega), List.getElem?_eq_none (by simp; omega)]
def SY : PS → Bool
 | .slc _ => false
 | _ => true
def EU : PS → Nat
 | .c _ l => l.length
 | .lst _ => 2
 | .d _ l => LC l
 | _ => 0
theorem M6 {M : Addr → Option Value} : ∀ {ps : List PS} {vs : List Value} {as : List A}, Cb M ps vs as → ps.all SY = true → SU ps [] as ∧ as.length = (ps.map EU).sum
 | [], vs, as, h, _ => by rw [h.2]; exact ⟨⟨rfl, rfl⟩, rfl⟩
 | p :: ps, vs, as, h, hp => by
  obtain ⟨v, vr, a1, a2, rfl, rfl, h1, h2⟩ := h
  simp only [List.all_cons, Bool.and_eq_true] at hp
  obtain ⟨k1, k2⟩ := M6 h2 hp.2
  cases p with
  | c agg ss => exact ⟨⟨a1, a2, rfl, h1.1, k1⟩, by simp [EU, h1.1, k2]⟩
  | slc ss => simp [SY] at hp
  | lst ss =>
   obtain ⟨x, k, _, _, _, rfl, _⟩ := h1
   exact ⟨⟨x, k, a2, rfl, k1⟩, by simp [EU, k2]; omega⟩
  | nil =>
   obtain ⟨_, rfl⟩ := h1
   exact ⟨k1, by simpa [EU] using k2⟩
  | d agg ss =>
   obtain ⟨cs, _, hd⟩ := h1
   have := (CU hd).1
   exact ⟨⟨a1, a2, rfl, this, k1⟩, by simp [EU, this, k2]⟩
theorem AQ {k : IntKind} {a b : A} (h : a.int = b.int) : (Au.int k).Bl a = (Au.int k).Bl b := by simp only [Au.Bl, h]
theorem AbD {a b : A} (h : a.bool = b.bool) : Au.bool.Bl a = Au.bool.Bl b := by simp only [Au.Bl, h]
theorem Ya {k : IntKind} {ss : List Au} {a b : A} {as bs : List A} (h : a.int = b.int) (hr : Ag ss as = Ag ss bs) : Ag (.int k :: ss) (a :: as) = Ag (.int k :: ss) (b :: bs) := by
 simp only [Ag, Au.Bl, h, hr]
theorem SZ {ss : List Au} {a b : A} {as bs : List A} (h : a.bool = b.bool) (hr : Ag ss as = Ag ss bs) : Ag (.bool :: ss) (a :: as) = Ag (.bool :: ss) (b :: bs) := by
 simp only [Ag, Au.Bl, h, hr]
theorem Z3 {ss : List Au} {a b : A} {as bs : List A} (h : a.str = b.str) (hr : Ag ss as = Ag ss bs) : Ag (.str :: ss) (a :: as) = Ag (.str :: ss) (b :: bs) := by
 simp only [Ag, Au.Bl, h, hr]
theorem wrap64 {x : Int} (h1 : -9223372036854775808 ≤ x) (h2 : x ≤ 9223372036854775807) : IntKind.wrap .i64 x = x := by
 simp only [IntKind.wrap, IntKind.signed, IntKind.bits]
 simp
 omega
end
end Rx
namespace Rx
open Go Go.RowKit
section
variable {T : Nat → List A → Bool × List A} {e : Nat → A} {P : Program}
def Xl (P : Program) (T : Nat → List A → Bool × List A) : List (Nat × J7) → Prop
 | [] => True
 | x :: l => (x.2.f = x.1 ∧ CJ P T x.2) ∧ Xl P T l
theorem Am : ∀ {l : List (Nat × J7)}, Xl P T l → KP P T l
 | [], _ => fun x hx => by cases hx
 | y :: l, h => fun x hx => by
  rcases List.mem_cons.1 hx with rfl | hx
  ·exact h.1
  ·exact Am h.2 x hx
def Xm (P : Program) (T : Nat → List A → Bool × List A) : List (Nat × WQ) → Prop
 | [] => True
 | x :: l => (x.2.f = x.1 ∧ Ry P T x.2) ∧ Xm P T l
theorem An : ∀ {l : List (Nat × WQ)}, Xm P T l → SM P T l
 | [], _ => fun x hx => by cases hx
 | y :: l, h => fun x hx => by
  rcases List.mem_cons.1 hx with rfl | hx
  ·exact h.1
  ·exact An h.2 x hx
def Bj (e : Nat → A) : List L → Prop
 | [] => True
 | o :: l => (o.ev e).bool = true ∧ Bj e l
theorem S0 : ∀ {l : List L}, Bj e l → ∀ o ∈ l, (o.ev e).bool = true
 | [], _ => fun x hx => by cases hx
 | y :: l, h => fun x hx => by
  rcases List.mem_cons.1 hx with rfl | hx
  ·exact h.1
  ·exact S0 h.2 x hx
end
end Rx
namespace Rx
open Go Go.RowKit
abbrev V := L.var
abbrev N := L.n
abbrev B := L.t
section
variable {T : Nat → List A → Bool × List A} {e : Nat → A}
theorem A.AF (b : ByteArray) : (A.v (.string b)).str = b := rfl
def KW (a : A) : Prop := a = .i a.int
def Z4 (a : A) : Prop := a = .v (.string a.str)
theorem RT (e : Nat → A) (l : List UInt8) : Z4 (L.ev e (.s l)) := rfl
def Ey {α : Type} (c : Bool) (x y : α) : α := if c then x else y
def BV (i j : Nat) (x y : Int) : Int := if i = j then x else y
def Fq (x y u v : Int) : Int := if x < y then u else v
def BI (e : Nat → A) (x y : L) (b : Nat) : Nat → List L → Prop
 | _, [] => True
 | j, a :: l => (e (b + j)).int = BV (x.ev e).int.toNat j (y.ev e).int (a.ev e).int ∧ BI e x y b (j + 1) l
def Def.q (T : Nat → List A → Bool × List A) (e : Nat → A) : Def → Prop
 | ⟨b, .ar op k, [x, y]⟩ => (e b).int = D0 op k (x.ev e).int (y.ev e).int ∧ KW (e b)
 | ⟨b, .dv op k, [x, y]⟩ => (e b).int = Ee op k (x.ev e).int (y.ev e).int ∧ KW (e b)
 | ⟨b, .bt op k, [x, y]⟩ => (e b).int = CW op k (x.ev e).int (y.ev e).int ∧ KW (e b)
 | ⟨b, .cmp op, [x, y]⟩ => (e b).bool = Bg op (x.ev e).int (y.ev e).int
 | ⟨b, .conv k, [x]⟩ => (e b).int = k.wrap (x.ev e).int ∧ KW (e b)
 | ⟨b, .neg k, [x]⟩ => (e b).int = k.wrap (0 - (x.ev e).int)
 | ⟨b, .not, [x]⟩ => (e b).bool = !(x.ev e).bool
 | ⟨b, .and, [x, y]⟩ => (e b).bool = ((x.ev e).bool && (y.ev e).bool)
 | ⟨b, .or, [x, y]⟩ => (e b).bool = ((x.ev e).bool || (y.ev e).bool)
 | ⟨b, .imp, [x, y]⟩ => (e b).bool = (!(x.ev e).bool || (y.ev e).bool)
 | ⟨b, .iteI, [c, x, y]⟩ => (e b).int = Ey (c.ev e).bool (x.ev e).int (y.ev e).int ∧ KW (e b)
 | ⟨b, .iteB, [c, x, y]⟩ => (e b).bool = Ey (c.ev e).bool (x.ev e).bool (y.ev e).bool
 | ⟨b, .iteV, [c, x, y]⟩ => (e b).val = Ey (c.ev e).bool (x.ev e).val (y.ev e).val ∧ (e b).str = Ey (c.ev e).bool (x.ev e).str (y.ev e).str ∧ (Z4 (x.ev e) → Z4 (y.ev e) → Z4 (e b))
 | ⟨b, .iteA, [c, x, y]⟩ => e b = Ey (c.ev e).bool (x.ev e) (y.ev e)
 | ⟨b, .eqB, [x, y]⟩ => (e b).bool = ((x.ev e).bool == (y.ev e).bool)
 | ⟨b, .eqS, [x, y]⟩ => (e b).bool = ((x.ev e).str == (y.ev e).str)
 | ⟨b, .mn, [x, y]⟩ => (e b).int = Fq (y.ev e).int (x.ev e).int (y.ev e).int (x.ev e).int
 | ⟨b, .mx, [x, y]⟩ => (e b).int = Fq (x.ev e).int (y.ev e).int (y.ev e).int (x.ev e).int
 | ⟨b, .slen, [x]⟩ => (e b).int = ((x.ev e).str.size : Int)
 | ⟨b, .sel, x :: l⟩ => (e b).int = (l.map fun a => (a.ev e).int).getD (x.ev e).int.toNat 0
 | ⟨b, .upd, x :: y :: l⟩ => BI e x y b 0 l
 | ⟨b, .pix o s, [x, i]⟩ => e b = (x.ev e).AJ.getD (o + s * (i.ev e).int.toNat) (.i 0)
 | ⟨b, .pset o s, [x, i, y]⟩ => e b = .l ((x.ev e).AJ.set (o + s * (i.ev e).int.toNat) (y.ev e))
 | ⟨b, .lln s, [x]⟩ => (e b).int = (((x.ev e).AJ.length / s : Nat) : Int)
 | ⟨b, .rep, x :: zs⟩ => e b = .l (List.replicate (x.ev e).int.toNat (zs.map (L.ev e))).flatten
 | ⟨b, .mkl, l⟩ => e b = .l (l.map (L.ev e))
 | ⟨b, .cat, [x, y]⟩ => e b = .l ((x.ev e).AJ ++ (y.ev e).AJ)
 | ⟨b, .cpy, [x, y, m]⟩ => e b = .l ((y.ev e).AJ.take (m.ev e).int.toNat ++ (x.ev e).AJ.drop (m.ev e).int.toNat)
 | ⟨b, .scat, [x, y]⟩ => (e b).str = (x.ev e).str ++ (y.ev e).str
 | ⟨b, .sget, [x, i]⟩ => (e b).int = (((x.ev e).str.data.toList.getD (i.ev e).int.toNat 0).toNat : Int) ∧ KW (e b)
 | ⟨b, .ssub, [x, i, j]⟩ => (e b).str = (x.ev e).str.extract (i.ev e).int.toNat (j.ev e).int.toNat
 | ⟨b, .mks, [x]⟩ => (e b).str = ⟨((x.ev e).AJ.map fun a => UInt8.ofNat a.int.toNat).toArray⟩ ∧ Z4 (e b)
 | ⟨b, .sby, [x]⟩ => e b = .l ((x.ev e).str.data.toList.map fun b => .i (b.toNat : Int))
 | ⟨b, .lsub n, [x, i, j]⟩ => e b = .l (((x.ev e).AJ.take ((j.ev e).int.toNat * n)).drop ((i.ev e).int.toNat * n))
 | ⟨b, .sh op k, [x, y]⟩ => (e b).int = Ef op k (x.ev e).int (y.ev e).int ∧ KW (e b)
 | d => d.holds T e
theorem Xn {x y : L} {b : Nat} {l0 : List L} (h : Def.holds T e ⟨b, .upd, x :: y :: l0⟩) : ∀ {l : List L} {j : Nat}, (∀ (i : Nat) a, l[i]? = some a → l0[j + i]? = some a) → BI e x y b j l
 | [], _, _ => trivial
 | a :: l, j, hl => ⟨Ab5 j h (hl 0 a rfl), Xn h fun i c hc => by
   have := hl (i + 1) c (by simpa using hc)
   rwa [show j + 1 + i = j + (i + 1) by omega]⟩
theorem Adk {d : Def} (h : d.holds T e) : d.q T e := by
 unfold Def.q
 split
 ·exact ⟨Ade h, by rw [T7.1 h]; rfl⟩
 ·exact ⟨Adf h, by rw [T8.1 h]; rfl⟩
 ·exact ⟨Adg h, by rw [T9.1 h]; rfl⟩
 ·exact Acv h
 ·exact ⟨AbY h, by rw [Pv.1 h]; rfl⟩
 ·exact Acw h
 ·exact Acx h
 ·exact Acy h
 ·exact Adh h
 ·exact Acz h
 ·exact ⟨AbZ h, by rw [Pw.1 h]; rfl⟩
 ·exact Ab0 h
 ·refine ⟨Z1 h, ?_⟩
  have := Z1 h
  refine ⟨?_, fun h1 h2 => ?_⟩
  ·unfold A.str
   rw [this]
   split <;> rename_i hc <;> simp [Ey, hc]
  ·have h3 := KU.1 h
   have h4 := Ab1 h
   unfold Z4
   rw [h4, h3]
   split
   ·rw [h1]; rfl
   ·rw [h2]; rfl
 ·exact VD.1 h
 ·exact AcA h
 ·exact AcB h
 ·exact Adi h
 ·exact Adj h
 ·exact Ab2 h
 ·exact Ab3 h
 ·exact Xn h fun i a ha => by simpa using ha
 ·exact X3.1 h
 ·exact VE.1 h
 ·rw [X4.1 h]; rfl
 ·exact X5.1 h
 ·exact X6.1 h
 ·exact X8.1 h
 ·exact X7.1 h
 ·exact congrArg A.str (h 0 _ rfl)
 ·rename_i b x i
  have h2 : e b = _ := h 0 _ rfl
  rw [h2]
  exact ⟨rfl, rfl⟩
 ·exact congrArg A.str (h 0 _ rfl)
 ·rename_i b x
  have h2 : e b = _ := h 0 _ rfl
  rw [h2]
  exact ⟨rfl, rfl⟩
 ·exact h 0 _ rfl
 ·exact h 0 _ rfl
 ·rename_i b op k x y
  have h2 : e b = _ := h 0 _ rfl
  rw [h2]
  exact ⟨rfl, rfl⟩
 ·exact h
def Ab (T : Nat → List A → Bool × List A) (e : Nat → A) : List Def → Prop
 | [] => True
 | d :: l => d.q T e ∧ Ab T e l
theorem JQ : ∀ {l : List Def}, (∀ d ∈ l, d.holds T e) → Ab T e l
 | [], _ => trivial
 | d :: l, h => ⟨Adk (h d (by simp)), JQ fun x hx => h x (by simp [hx])⟩
def ge (as : List A) (i : Nat) : A := as.getD i (.i 0)
end
end Rx
namespace Rx
open Go Go.RowKit
def Ez (n : Nat) (l : List (Nat × SV)) : List SV := l.foldl (fun a x => a.set x.1 x.2) (List.replicate n .junk)
section
variable {T : Nat → List A → Bool × List A} {e : Nat → A} {P : Program} {X : Ctx}
def Ub (a b : G) : Bool := a.next == b.next && Ej a.defs b.defs && L.J1 a.obs b.obs && Dq a.known b.known
theorem Px {a b : G} (h : Ub a b = true) : a = b := by
 obtain ⟨a1, a2, a3, a4⟩ := a
 obtain ⟨b1, b2, b3, b4⟩ := b
 simp only [Ub, Bool.and_eq_true, beq_iff_eq] at h
 obtain ⟨⟨⟨h1, h2⟩, h3⟩, h4⟩ := h
 rw [h1, FP h2, L.Dc h3, EP h4]
def AcC (ws : List (Nat × Nat)) (X : Ctx) (c : J7) (g : G) (ls : List L) : Bool :=
 match DR (T4 []) c.ps [] 0 0 with
 | some (args, rows, k) => match run X 2000 c.f args rows k [] with
  | some (v, _, g') => Ub g' g && (match Pt c.rs v with | some l => L.J1 l ls | none => false) && Iy ws g.defs g.next && g.defs.all (fun d => decide (k ≤ d.base)) && c.ps.all SY && k == (c.ps.map EU).sum
  | none => false
 | none => false
theorem Cr (hX : XL P T X) {ws : List (Nat × Nat)} (hws : ET T ws) {c : J7} {g : G} {ls : List L} (h : AcC ws X c g ls = true)
  (hlen : ∀ as, (T c.f as).2.length = ls.length)
  (hpure : ∀ (as : List A) (e : Nat → A), as = (List.range (c.ps.map EU).sum).map e → (T c.f as).1 = true → Ab T e g.defs → Bj e g.obs ∧ Ag (c.rs.flatMap (·.2)) (T c.f as).2 = Ag (c.rs.flatMap (·.2)) (ls.map (L.ev e))) (hkn : g.known = [] := by rfl) : CJ P T c := by
 intro lits as vs w hT _ _ hargs hpre
 unfold AcC at h
 split at h
 ·rename_i args rows k hpar
  split at h
  ·rename_i v rows' g' hrun
   simp only [Bool.and_eq_true] at h
   obtain ⟨⟨⟨⟨⟨h1, h2⟩, h3⟩, h4⟩, h5⟩, h6⟩ := h
   have h1 := Px h1
   subst h1
   cases hfl : Pt c.rs v with
   | none => rw [hfl] at h2; cases h2
   | some l =>
    rw [hfl] at h2
    have h2 := L.Dc h2
    subst h2
    obtain ⟨a1, a2⟩ := M6 hargs h5
    refine SX (more := []) (kn := []) hX hws hpar (by simpa using hrun) h3 (by simpa using h4) hfl hT hargs a1 (fun i x hx => by cases hx) (hlen as) fun e he hd => ?_
    obtain ⟨p1, p2⟩ := hpure as e (by
     have := VF (more := []) he rfl
     rw [a2] at this
     exact this) hpre (JQ hd)
    exact ⟨by rw [hkn]; exact fun x hx => (by cases hx), S0 p1, p2⟩
  ·cases h
 ·cases h
def AcD (ws : List (Nat × Nat)) (X : Ctx) (c : WQ) (g : G) (ls : List L) : Bool :=
 match DR (T4 []) c.ps [] 0 0 with
 | some (args, rows, k) => match run X 2000 c.f args rows k [] with
  | some (v, rows', g') => Ub g' g && (match JP rows' c.rs v with | some l => L.J1 l ls | none => false) && Iy ws g.defs g.next && g.defs.all (fun d => decide (k ≤ d.base)) && c.ps.all SY && k == (c.ps.map EU).sum
  | none => false
 | none => false
theorem Z5 (hX : XL P T X) {ws : List (Nat × Nat)} (hws : ET T ws) {c : WQ} {g : G} {ls : List L} (h : AcD ws X c g ls = true)
  (hpure : ∀ (as : List A) (e : Nat → A), as = (List.range (c.ps.map EU).sum).map e → (T c.f as).1 = true → Ab T e g.defs → Bj e g.obs ∧ RQ c.rs (T c.f as).2 (ls.map (L.ev e))) (hkn : g.known = [] := by rfl) : Ry P T c := by
 intro lits as vs w S hT hS _ _ hargs hpre
 unfold AcD at h
 split at h
 ·rename_i args rows k hpar
  split at h
  ·rename_i v rows' g' hrun
   simp only [Bool.and_eq_true] at h
   obtain ⟨⟨⟨⟨⟨h1, h2⟩, h3⟩, h4⟩, h5⟩, h6⟩ := h
   have h1 := Px h1
   subst h1
   cases hfl : JP rows' c.rs v with
   | none => rw [hfl] at h2; cases h2
   | some l =>
    rw [hfl] at h2
    have h2 := L.Dc h2
    subst h2
    obtain ⟨a1, a2⟩ := M6 hargs h5
    refine VA (more := []) (kn := []) hX hws hpar (by simpa using hrun) h3 (by simpa using h4) hfl hT hS hargs a1 (fun i x hx => by cases hx) fun e he hd => ?_
    obtain ⟨p1, p2⟩ := hpure as e (by
     have := VF (more := []) he rfl
     rw [a2] at this
     exact this) hpre (JQ hd)
    exact ⟨by rw [hkn]; exact fun x hx => (by cases hx), S0 p1, p2⟩
  ·cases h
 ·cases h
def Z6 (a : List Ex) (b : List (L × List (Option L))) : Bool :=
 C7 (fun x y => x) (a.map fun _ => true) (b.map fun _ => true) && (a.zip b).all fun x => x.1.pc.same x.2.1 && x.1.lx.length == x.2.2.length && (x.1.lx.zip x.2.2).all fun y => match y.1, y.2 with | some l, some m => l.same m | none, none => true | _, _ => false
def Uc (a b : Option (L × List L)) : Bool :=
 match a, b with
 | none, none => true
 | some x, some y => x.1.same y.1 && L.J1 x.2 y.2
 | _, _ => false
def VG (X : Ctx) (f : Nat) (p : List Bool) : Option Code :=
 match X.fns f with
 | some fn => match fn.body with
  | some b => match Bx p b with
   | some (.loop c) => some c
   | _ => none
  | none => none
 | none => none
def AbE (ws : List (Nat × Nat)) (X : Ctx) (q : Lp) (g : G) (back : Option (L × List L)) (exs : List (L × List (Option L))) : Bool :=
 match VG X q.f q.p with
 | some c => match exec X 2000 q.f (false :: q.p) c (Lj q) ⟨q.k, [], [], []⟩ with
  | some (outs, g') => Ub g' g && Iy ws g.defs g.next && g.defs.all (fun d => decide (q.k ≤ d.base)) && decide (q.m ≤ q.tm.rows.length) &&
    (match Ss q outs with | some b => Uc b back | none => false) && (match JB q outs with | some x => Z6 x exs | none => false)
  | none => false
 | none => false
theorem Bf (hX : XL P T X) {ws : List (Nat × Nat)} (hws : ET T ws) {q : Lp} {g : G} {back : Option (L × List L)} {exs : List (L × List (Option L))} (h : AbE ws X q g back exs = true)
  (hlen : ∀ as, (T q.id as).2.length = q.w) (meas : List A → Nat)
  (hpure : ∀ (as : List A) (e : Nat → A), as = (List.range q.k).map e → (T q.id as).1 = true → Ab T e g.defs → Bj e g.obs ∧
   (∀ pc ls, back = some (pc, ls) → (pc.ev e).bool = true → (T q.id (ls.map (L.ev e))).1 = true ∧ (T q.id (ls.map (L.ev e))).2 = (T q.id as).2 ∧ meas (ls.map (L.ev e)) < meas as) ∧
   ∀ x ∈ exs, (x.1.ev e).bool = true → ∀ (j : Nat) l, x.2[j]? = some (some l) → D6 (q.tags.getD j .any) (l.ev e) ((T q.id as).2.getD j (.i 0))) (hkn : g.known = [] := by rfl) :
  ∀ fn body c, X.fns q.f = some fn → fn.body = some body → Bx q.p body = some (.loop c) → A2 P T q c := by
 intro fn body c f1 f2 f3
 unfold AbE at h
 have hb : VG X q.f q.p = some c := by simp only [VG, f1, f2, f3]
 rw [hb] at h
 simp only at h
 split at h
 ·rename_i outs g' hrun
  simp only [Bool.and_eq_true, decide_eq_true_eq] at h
  obtain ⟨⟨⟨⟨⟨h1, h2⟩, h3⟩, h4⟩, h5⟩, h6⟩ := h
  have h1 := Px h1
  subst h1
  cases hbk : Ss q outs with
  | none => rw [hbk] at h5; cases h5
  | some b =>
   cases hex : JB q outs with
   | none => rw [hex] at h6; cases h6
   | some xs =>
    rw [hbk] at h5
    rw [hex] at h6
    simp only at h5 h6
    refine T6 hX hws ⟨fn, body, f1, f2, by simp only [Bx, f3]; rfl⟩ hrun h2 h3 hkn (by simpa using h4) hbk hex (fun as _ => hlen as) meas fun as e hal he hpre hd => ?_
    have has : as = (List.range q.k).map e := VF (more := []) (by simpa using he) hal
    obtain ⟨p1, p2, p3⟩ := hpure as e has hpre (JQ hd)
    refine ⟨S0 p1, fun pc ls hb' => p2 pc ls ?_, fun x hx hpc j l hj => ?_⟩
    ·unfold Uc at h5
     split at h5
     ·exact hb'
     ·simp only [Bool.and_eq_true] at h5
      rename_i x y
      rw [← hb']
      exact congrArg some (Prod.ext (L.Af h5.1).symm (L.Dc h5.2).symm)
     ·cases h5
    ·unfold Z6 at h6
     simp only [Bool.and_eq_true, List.all_eq_true] at h6
     obtain ⟨k1, k2⟩ := h6
     obtain ⟨i, hi, hi2⟩ := List.mem_iff_getElem.1 hx
     have hl := (Ly k1).1
     simp only [List.length_map] at hl
     have hy : i < exs.length := by omega
     have hz : (x, exs[i]'hy) ∈ xs.zip exs := by
      rw [← hi2]
      exact List.mem_iff_getElem.2 ⟨i, by simp; omega, by simp⟩
     obtain ⟨⟨m1, m2⟩, m3⟩ := by
      have := k2 _ hz
      simp only [Bool.and_eq_true] at this
      exact this
     have m1 := L.Af m1
     simp only [beq_iff_eq] at m2
     have hjl : j < x.lx.length := Ac hj
     have hj2 : j < (exs[i]'hy).2.length := by omega
     have hzz : (x.lx[j]'hjl, (exs[i]'hy).2[j]'hj2) ∈ x.lx.zip (exs[i]'hy).2 := List.mem_iff_getElem.2 ⟨j, by simp; omega, by simp⟩
     have m4 := m3 _ hzz
     rw [List.getElem?_eq_getElem hjl] at hj
     injection hj with hj
     rw [hj] at m4
     simp only at m4
     refine p3 _ (List.getElem_mem hy) (by rw [← m1]; exact hpc) j l ?_
     rw [List.getElem?_eq_getElem hj2]
     cases ho : (exs[i]'hy).2[j]'hj2 with
     | none => rw [ho] at m4; cases m4
     | some mm => rw [ho] at m4; simp only at m4; rw [L.Af m4]
 ·cases h
theorem Bw {X : Ctx} (h : X.lps = []) : ∀ q ∈ X.lps, ∀ fn body c, X.fns q.f = some fn → fn.body = some body → Bx q.p body = some (.loop c) → A2 P T q c := by
 rw [h]; intro q hq; cases hq
def VH (P : Program) (T : Nat → List A → Bool × List A) (X : Ctx) : List Lp → Prop
 | [] => True
 | q :: l => (∀ fn body c, X.fns q.f = some fn → fn.body = some body → Bx q.p body = some (.loop c) → A2 P T q c) ∧ VH P T X l
theorem RU {X : Ctx} : ∀ {l : List Lp}, VH P T X l → ∀ q ∈ l, ∀ fn body c, X.fns q.f = some fn → fn.body = some body → Bx q.p body = some (.loop c) → A2 P T q c
 | [], _ => fun x hx => by cases hx
 | y :: l, h => fun x hx => by
  rcases List.mem_cons.1 hx with rfl | hx
  ·exact h.1
  ·exact RU h.2 x hx
theorem AU {X : Ctx} (h : VH P T X X.lps) : ∀ q ∈ X.lps, ∀ fn body c, X.fns q.f = some fn → fn.body = some body → Bx q.p body = some (.loop c) → A2 P T q c := RU h
end
end Rx
namespace Rx
open Go Go.RowKit
inductive OkA : Au → A → Prop
 | int {k : IntKind} {n : Int} : k.min ≤ n → n ≤ k.max → OkA (.int k) (.i n)
 | bool {b : Bool} : OkA .bool (.b b)
 | str {s : ByteArray} : s.size ≤ maxLen → OkA .str (.v (.string s))
 | sl {ss : List Au} {as : List A} {n : Nat} : as.length = n * ss.length → n ≤ maxLen → (∀ (j : Nat) s a, ss[j % ss.length]? = some s → as[j]? = some a → OkA s a) → OkA (.sl ss) (.l as)
section
variable {H : Type} {enc : TypeId × Value → H} {P : Program} {w : World} {base : Nat} {spare : Nat → Bool} {held : Bool}
end
end Rx
