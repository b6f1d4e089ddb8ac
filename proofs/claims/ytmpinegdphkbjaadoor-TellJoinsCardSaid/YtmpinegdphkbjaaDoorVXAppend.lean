import Derived.Shelf.Strconv.AppendIntPublic10
import Derived.Maps.AppendAt
import Derived.Lib.AppendStr
import Derived.Lib.ItoaLen
set_option linter.unusedVariables false
set_option linter.unusedSimpArgs false
namespace Go.Proofs
open Go.Shelf Go.RowKit Go.Sort Go.Lib
variable {P : Program} {ρ : Ren}
def Ct (w w' : World) (sv v' : Value) : Prop :=
 w.heap.size ≤ w'.heap.size ∧ (∀ j, j < w.heap.size → some j ≠ sv.ownBlock → w'.heap[j]? = w.heap[j]?) ∧ (v'.ownBlock = sv.ownBlock ∨ ∃ k, v'.ownBlock = some k ∧ w.heap.size ≤ k)
theorem Ct.trans {a b c : World} {x y z : Value} (h : Ct a b x y) (k : Ct b c y z) : Ct a c x z := by
 obtain ⟨h1, h2, h3⟩ := h
 obtain ⟨k1, k2, k3⟩ := k
 refine ⟨Nat.le_trans h1 k1, fun j hj hne => ?_, ?_⟩
 ·rw [k2 j (Nat.lt_of_lt_of_le hj h1) (fun h0 => ?_), h2 j hj hne]
  rcases h3 with h3 | ⟨q, h3, h4⟩
  ·exact hne (by rw [h0, h3])
  ·rw [h3] at h0
   injection h0 with h0
   omega
 ·rcases k3 with k3 | ⟨q, k3, k4⟩
  ·rcases h3 with h3 | ⟨q, h3, h4⟩
   ·exact .inl (k3.trans h3)
   ·exact .inr ⟨q, k3.trans h3, h4⟩
  ·exact .inr ⟨q, k3, Nat.le_trans h1 k4⟩
theorem Ct.of {w w1 : World} {sv v : Value} (hg : w.grownBy w1 sv.ownBlock) (h : v.ownBlock = sv.ownBlock ∨ v.ownBlock = some w.heap.size) : Ct w w1 sv v :=
 ⟨hg.size, fun j hj hne => hg.block j hj hne, h.imp id fun h => ⟨_, h, Nat.le_refl _⟩⟩
theorem Ct.first {w w1 w2 : World} {sv v : Value} (hb : Below w.heap.size w w1) (h : Ct w1 w2 sv v) : Ct w w2 sv v :=
 ⟨Nat.le_trans hb.size h.1, fun j hj hne => by rw [h.2.1 j (Nat.lt_of_lt_of_le hj hb.size) hne]; exact hb.block j hj, h.2.2.imp id fun ⟨k, h1, h2⟩ => ⟨k, h1, Nat.le_trans hb.size h2⟩⟩
section
variable (w : World)
theorem LC (base : Nat) (t u ty e : TypeId) (i : TypeInfo) (ht : P.underlying t = some (.slice e)) (hu : P.underlying u = some .string) (hi : P.info? e = some i) (hz : i.zero = some (.int .u8 0))
  (hsize : i.size = 1) (hby : i.bytes = 1) (v : Value) (n : Nat) (xs : List Value) (hown : w.ownsRow base e 1 v n xs) (s : ByteArray) (hpos : 0 < s.size)
  (h63 : n + s.size ≤ maxLen) (hbytes : n + s.size ≤ 140737488355328) (hbase : base ≤ w.heap.size) :
  ∃ v' w', (Builtin.append_ #[t, u] ty #[v, .string s]).run P w = .ok v' w' ∧ w'.ownsRow base e 1 v' (n + s.size) (xs ++ strCells s) ∧ w.grownBy w' v.ownBlock ∧ (v'.ownBlock = v.ownBlock ∨ v'.ownBlock = some w.heap.size) := by
 obtain ⟨v', w', hr, h2, h3, _⟩ := run_append_own_string (P := P) w base t u ty e i ht hu hi hz hsize hby v n xs hown s h63 hbytes hbase
 refine ⟨v', w', hr, h2, h3, ?_⟩
 have h63' : n + s.size ≤ 9223372036854775807 := by simp only [maxLen] at h63; omega
 have hxl : xs.length = n := by simpa using hown.1
 rcases hown.2 with ⟨rfl, rfl⟩ | ⟨g, cap, cur, rfl, hbg, hg, hnc, hcm, hcs, htake⟩
 ·have hr2 := run_append_nil_string (P := P) w t u ty e i (.int .u8 0) ht hu hi hz s (by omega) (by omega) (by rw [hby]; omega)
  rw [hr2] at hr
  injection hr with hr _
  rw [← hr]
  exact .inr rfl
 ·by_cases hroom : n + s.size ≤ cap
  ·have hcs' : cur.size = cap := by simpa using hcs
   have hr2 := run_append_room_string (P := P) w t u ty e i ht hu hi hsize g n cap cur hg s hroom (by omega)
   rw [hr2] at hr
   injection hr with hr _
   rw [← hr]
   exact .inl rfl
  ·have holds : ∀ j u, xs[j]? = some u → w.cell? ((⟨g, 0, none⟩ : Addr).add j) = some u := hown.cells (g := g) rfl
   have hr2 := run_append_grow_string (P := P) w t u ty e i (.int .u8 0) ht hu hi hz ⟨g, 0, none⟩ n cap xs (by rw [hsize]; simpa using hxl) holds s (by omega) (by omega) (by rw [hby]; exact growslice_fits (by omega) (by omega))
   rw [hr2] at hr
   injection hr with hr _
   rw [← hr]
   exact .inr rfl
theorem I3 {ops : Array Oper} {rest : List Oper} {o : Oper} {a : Act} {Q : Exit → Act → World → Prop} (hgd : o.guard = none) (sl x : Operand) (t u : TypeId)
  (ho : o.op = .call { callee := .builtin .append, args := #[sl, x], argTypes := #[t, u] })
  (base : Nat) (e : TypeId) (i : TypeInfo) (ht : P.underlying t = some (.slice e)) (hu : P.underlying u = some .string) (hi : P.info? e = some i) (hz : i.zero = some (.int .u8 0))
  (hsize : i.size = 1) (hby : i.bytes = 1)
  (v : Value) (n : Nat) (xs : List Value) (hs : a.eval sl = v) (hown : w.ownsRow base e 1 v n xs) (s : ByteArray) (hx : a.eval x = .string s) (hpos : 0 < s.size)
  (h63 : n + s.size ≤ maxLen) (hbytes : n + s.size ≤ 140737488355328) (hbase : base ≤ w.heap.size)
  (h : ∀ v' w', w'.ownsRow base e 1 v' (n + s.size) (xs ++ strCells s) → w.grownBy w' v.ownBlock → (v'.ownBlock = v.ownBlock ∨ v'.ownBlock = some w.heap.size) → wpList P ops Q rest (a.put o.dst v') w') : wpList P ops Q (o :: rest) a w := by
 refine wpList_plain hgd fun K hK => ?_
 obtain ⟨v', w', hr, h2, h3, h4⟩ := LC (P := P) w base t u o.type e i ht hu hi hz hsize hby v n xs hown s hpos h63 hbytes hbase
 unfold Oper.wp execOp
 simp only [ho, resolve, invoke, builtin, Sem.run_bind, Sem.run_pure, Result.andThen_ok, List.map_toArray, List.map_cons, List.map_nil, hs, hx, hr]
 exact hK _ _ (h v' w' h2 h3 h4)
end
set_option maxHeartbeats 6400000 in
set_option maxRecDepth 100000 in
theorem SJ (L : LaysM.n288 P ρ) (B n u : Nat) (hu : u < 100) (sv : Value) (xs : List Value) (w : World) (hown : w.ownsRow B (ρ.t 5) 1 sv n xs) (hBw : B ≤ w.heap.size) (hlim : n + 20 ≤ 140737488355328) :
  Calls P (ρ.f 288) #[sv, .int .u64 u, .int .i64 10] w fun e w' => ∃ v', e = .returned v' ∧ w'.ownsRow B (ρ.t 5) 1 v' (n + (decDigits u).length) (xs ++ byteCells (decDigits u)) ∧ Below B w w' ∧ Ct w w' sv v' := by
 have mixed := L.mixed
 have t5 := L.t5; have a5 := L.a5; have z5 := L.z5; have v5 := L.v5
 have t37 := L.t37; have u37 := run_underlying L.t37; have a37 := L.a37; have z37 := L.z37; have v37 := L.v37
 have t53 := L.t53; have a53 := L.a53; have z53 := L.z53; have v53 := L.v53
 have t3 := L.t3; have a3 := L.a3; have z3 := L.z3; have v3 := L.v3
 have t4 := L.t4; have a4 := L.a4; have z4 := L.z4; have v4 := L.v4
 have t9 := L.t9; have a9 := L.a9; have z9 := L.z9; have v9 := L.v9
 have t171 := L.t171; have a171 := L.a171; have z171 := L.z171; have v171 := L.v171
 have t0 := L.t0; have a0 := L.a0; have z0 := L.z0; have v0 := L.v0
 have t173 := L.t173; have a173 := L.a173; have z173 := L.z173; have v173 := L.v173
 have e283 : ∀ args w, (callFunc (ρ.f 283) args).run P w = .ok (.enter (ρ.f 283) args) w := enters_of L.f283 (by kernel_rfl) rfl
 obtain ⟨i0, hi, hz0, hz1, hz2⟩ := info_parts L.i5
 have hnd : 1 ≤ (decDigits u).length := by rw [decDigits_length]; exact nDigits_pos u
 have hlen : (decDigits u).length ≤ 20 := by
  rw [decDigits_length]
  exact nDigits_le20 u (by omega)
 have hsz : (⟨(decDigits u).toArray⟩ : ByteArray).size = (decDigits u).length := by simp [ByteArray.size]
 go_enter L.f288, Body.n288_ntmps ρ
 go_wp2_with (first
  | (go_at_fn (ρ.f 283); refine (Any.internal_strconv_small { L with } u hu _).mono ?_; rintro e w' ⟨rfl, rfl⟩)
  | (at_builtin; refine I3 _ rfl _ _ (ρ.t 37) (ρ.t 9) rfl B (ρ.t 5) i0 L.t37 L.t9 hi hz0 hz1 hz2 _ _ _ rfl hown ⟨(decDigits u).toArray⟩ rfl (by rw [hsz]; omega) (by rw [hsz]; unfold maxLen; omega) (by rw [hsz]; omega) hBw ?_))
 intro v' w1 hown' hgrow hat
 go_wp2
 go_ret
 refine ⟨v', rfl, ?_, (Below.refl B _).grown hgrow hBw (fun k hk => (hown.lt k hk).1), Ct.of hgrow hat⟩
 first | exact hown' | (rw [hsz] at hown'; exact hown')
set_option maxHeartbeats 12800000 in
set_option maxRecDepth 100000 in
theorem T5 (L : LaysM.n288 P ρ) (B n u : Nat) (hu : 100 ≤ u) (hu64 : u < 18446744073709551616) (sv : Value) (xs : List Value) (w : World) (hown : w.ownsRow B (ρ.t 5) 1 sv n xs) (hBw : B ≤ w.heap.size) (hlim : n + 20 ≤ 140737488355328)
  {nm : String} (hnm : ∀ w' : World, Lib.TabIs P w' nm .u64 Lib.pow10Tab → Calls P (ρ.f 284) #[.int .u64 u] w' fun e w'' => e = .returned (.int .i64 (nDigits u : Int)) ∧ w'' = w') (htab : Lib.TabIs P w nm .u64 Lib.pow10Tab) :
  Calls P (ρ.f 288) #[sv, .int .u64 u, .int .i64 10] w fun e w' => ∃ v', e = .returned v' ∧ w'.ownsRow B (ρ.t 5) 1 v' (n + (decDigits u).length) (xs ++ byteCells (decDigits u)) ∧ Below B w w' ∧ Ct w w' sv v' := by
 have mixed := L.mixed
 have t5 := L.t5; have a5 := L.a5; have z5 := L.z5; have v5 := L.v5
 have t37 := L.t37; have u37 := run_underlying L.t37; have a37 := L.a37; have z37 := L.z37; have v37 := L.v37
 have t53 := L.t53; have a53 := L.a53; have z53 := L.z53; have v53 := L.v53
 have t3 := L.t3; have a3 := L.a3; have z3 := L.z3; have v3 := L.v3
 have t4 := L.t4; have a4 := L.a4; have z4 := L.z4; have v4 := L.v4
 have t9 := L.t9; have a9 := L.a9; have z9 := L.z9; have v9 := L.v9
 have t171 := L.t171; have a171 := L.a171; have z171 := L.z171; have v171 := L.v171
 have t0 := L.t0; have a0 := L.a0; have z0 := L.z0; have v0 := L.v0
 have t173 := L.t173; have a173 := L.a173; have z173 := L.z173; have v173 := L.v173
 have e284 : ∀ args w, (callFunc (ρ.f 284) args).run P w = .ok (.enter (ρ.f 284) args) w := enters_of L.f284 (by kernel_rfl) rfl
 have e285 : ∀ args w, (callFunc (ρ.f 285) args).run P w = .ok (.enter (ρ.f 285) args) w := enters_of L.f285 (by kernel_rfl) rfl
 obtain ⟨i0, hi, hz0, hz1, hz2⟩ := info_parts L.i5
 have hu1 : 1 ≤ u := by omega
 have hnd1 := nDigits_pos u
 have hnd20 : nDigits u ≤ 20 := nDigits_le20 u hu64
 have hal : P.arrayLen (ρ.t 171) = 24 := by simp [Program.arrayLen, L.t171]
 have hsl : ∀ W, (Instr.sliceAt (ρ.t 171) (.pointer (some ⟨w.heap.size, 0, none⟩)) none (some (.int .i64 (nDigits u : Int))) none).run P W = .ok (.slice (some ⟨w.heap.size, 0, none⟩) (nDigits u) 24) W := fun W => by
  rw [run_sliceAt_array_h W (ρ.t 171) ⟨w.heap.size, 0, none⟩ (by simp [Program.arrayLen, Program.elem, L.t171]) .i64 (nDigits u : Int) (by omega) (by rw [hal]; omega)]
  go_simp
 have hH0 := holds_zero0 w (ρ.t 171) (nDigits u) (by omega)
 have hfmt := Any.internal_strconv_formatBase10 { L with } w.heap.size 0 24 u (Array.replicate (nDigits u) 0) (w.alloc (.cells zeros24 (ρ.t 171))) hH0 (by rw [Array.size_replicate]; exact lt_pow_nDigits u) hu64 (by rw [Array.size_replicate]; omega)
 rw [Array.size_replicate] at hfmt
 have HH0 := Lib.hid hH0
 have iu : (100 : Int) ≤ (u : Int) := by omega
 have hnum := hnm (w.alloc (.cells zeros24 (ρ.t 171))) (tabIs_alloc htab _)
 clear hH0 hal hnm
 go_enter L.f288, Body.n288_ntmps ρ
 go_wp2_with (first
  | (go_at_fn (ρ.f 284); refine hnum.mono ?_; rintro e w' ⟨rfl, rfl⟩))
 go_at_fn (ρ.f 285)
 refine hfmt.mono ?_
 rintro e w' ⟨rfl, k, v', dk, rfl, hF⟩
 have hcells : ∀ j u', (byteCells (decDigits u))[j]? = some u' → ((putRow (fun (b : UInt8) => Value.int .u8 (b.toNat : Int)) (w.alloc (.cells zeros24 (ρ.t 171))) w.heap.size 0 dk).drewN k).cell? ((⟨w.heap.size, 0, none⟩ : Addr).add j) = some u' := by
  intro j u' hj
  have hjl : j < (decDigits u).length := by
   have h5 := (List.getElem?_eq_some_iff.1 hj).1
   rwa [byteCells_length] at h5
  have e5 : (byteCells (decDigits u))[j]? = some (Value.int .u8 ((decDigits u)[j].toNat : Int)) := by simp [byteCells, hjl]
  rw [e5] at hj
  cases hj
  rw [row_is_numeral hF j hjl, add_plain, World.cell?_drewN]
  exact cell?_putRow (fun (b : UInt8) => Value.int .u8 (b.toNat : Int)) _ w.heap.size 0 _ dk HH0.out (by rw [hF.size, Array.size_replicate]) j (by rw [hF.size]; rw [decDigits_length] at hjl; exact hjl)
 obtain ⟨os, eo⟩ := fin_at w (.cells zeros24 (ρ.t 171)) dk k 0
 have hown2 : ((putRow (fun (b : UInt8) => Value.int .u8 (b.toNat : Int)) (w.alloc (.cells zeros24 (ρ.t 171))) w.heap.size 0 dk).drewN k).ownsRow B (ρ.t 5) 1 sv n xs := by rw [eo]; exact ownsRow_grow hown k os
 have hnx2 : Below B w ((putRow (fun (b : UInt8) => Value.int .u8 (b.toNat : Int)) (w.alloc (.cells zeros24 (ρ.t 171))) w.heap.size 0 dk).drewN k) := by rw [eo]; exact below_grow B w hBw k os
 have hok2 : Below w.heap.size w ((putRow (fun (b : UInt8) => Value.int .u8 (b.toNat : Int)) (w.alloc (.cells zeros24 (ρ.t 171))) w.heap.size 0 dk).drewN k) := by rw [eo]; exact below_grow w.heap.size w (Nat.le_refl _) k os
 have hsz2 : w.heap.size ≤ ((putRow (fun (b : UInt8) => Value.int .u8 (b.toNat : Int)) (w.alloc (.cells zeros24 (ρ.t 171))) w.heap.size 0 dk).drewN k).heap.size := by rw [eo]; exact size_grow w k os
 generalize (putRow (fun (b : UInt8) => Value.int .u8 (b.toNat : Int)) (w.alloc (.cells zeros24 (ρ.t 171))) w.heap.size 0 dk).drewN k = W2 at hcells hown2 hnx2 hok2 hsz2 ⊢
 clear eo HH0 hfmt hnum
 go_wp2_with (at_builtin; refine wpList_append_own_at _ rfl _ _ (ρ.t 37) rfl B (ρ.t 5) i0 (.int .u8 0) 1 1 L.t37 hi hz0 hz1 hz2 rfl (by decide) _ _ _ rfl hown2 ⟨w.heap.size, 0, none⟩ (nDigits u) 24 (byteCells (decDigits u)) rfl ?c0 hcells ?c2 ?c3 ?c4 ?c5 ?_)
 case c0 => rw [byteCells_length, decDigits_length, Nat.mul_one]
 case c2 => intro u' hu'; simp only [byteCells, List.mem_map] at hu'; obtain ⟨b, _, rfl⟩ := hu'; rfl
 case c3 => unfold maxLen; omega
 case c4 => omega
 case c5 => omega
 intro v2 w3 hown' hgrow _ hat
 go_wp2
 go_ret
 refine ⟨v2, rfl, ?_, hnx2.grown hgrow (by omega) (fun k hk => (hown2.lt k hk).1), Ct.first hok2 (Ct.of hgrow hat)⟩
 rw [decDigits_length]
 exact hown'
end Go.Proofs
