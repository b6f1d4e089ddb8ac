import Derived.Test.YtmpinegdphkbjaaDoorVXe
import Derived.Test.YtmpinegdphkbjaaDoorVXg
import Derived.Test.YtmpinegdphkbjaaDoorVXAppend
import Derived.Test.YtmpinegdphkbjaaDoorVXt
import Derived.Shelf.Lay
import Derived.Ground.NamesProg
set_option linter.unusedVariables false
set_option linter.unusedSimpArgs false
namespace Go.Proofs
open Go.Shelf Go.RowKit Go.Sort Go.Lib
variable {P : Program} {ρ : Ren}
theorem Qz (L : LaysM.n288 P ρ) (B n u : Nat) (hu64 : u < 18446744073709551616) (sv : Value) (xs : List Value) (w : World) (hown : w.ownsRow B (ρ.t 5) 1 sv n xs) (hBw : B ≤ w.heap.size) (hlim : n + 20 ≤ 140737488355328)
  (htab : Lib.TabIs P w Rx.Dv .u64 Lib.pow10Tab) :
  Calls P (ρ.f 288) #[sv, .int .u64 u, .int .i64 10] w fun e w' => ∃ v', e = .returned v' ∧ w'.ownsRow B (ρ.t 5) 1 v' (n + (decDigits u).length) (xs ++ byteCells (decDigits u)) ∧ Below B w w' ∧ Ct w w' sv v' := by
 by_cases h : u < 100
 ·exact SJ { L with } B n u h sv xs w hown hBw hlim
 ·exact T5 { L with } B n u (by omega) hu64 sv xs w hown hBw hlim (fun w' hw => Any.internal_strconv_numDigits { L with } u (by omega) hu64 w' hw) htab
set_option maxHeartbeats 6400000 in
set_option maxRecDepth 100000 in
theorem T6 (L : LaysM.n249 P ρ) (B n : Nat) (i : Int) (h0 : -9223372036854775808 ≤ i) (h1 : i ≤ 9223372036854775807) (sv : Value) (xs : List Value) (w : World) (hown : w.ownsRow B (ρ.t 5) 1 sv n xs) (hBw : B ≤ w.heap.size) (hlim : n + 21 ≤ 140737488355328)
  (htab : ∀ w', Below B w w' → Lib.TabIs P w' Rx.Dv .u64 Lib.pow10Tab) :
  Calls P (ρ.f 249) #[sv, .int .i64 i, .int .i64 10] w fun e w' => ∃ v', e = .returned v' ∧ w'.ownsRow B (ρ.t 5) 1 v' (n + (itoa i).length) (xs ++ byteCells (itoa i)) ∧ Below B w w' ∧ Ct w w' sv v' := by
 have mixed := L.mixed
 have t5 := L.t5; have a5 := L.a5; have z5 := L.z5; have v5 := L.v5
 have t37 := L.t37; have u37 := run_underlying L.t37; have a37 := L.a37; have z37 := L.z37; have v37 := L.v37
 have t2 := L.t2; have a2 := L.a2; have z2 := L.z2; have v2 := L.v2
 have t3 := L.t3; have a3 := L.a3; have z3 := L.z3; have v3 := L.v3
 have t53 := L.t53; have a53 := L.a53; have z53 := L.z53; have v53 := L.v53
 have t4 := L.t4; have a4 := L.a4; have z4 := L.z4; have v4 := L.v4
 have e288 : ∀ args w, (callFunc (ρ.f 288) args).run P w = .ok (.enter (ρ.f 288) args) w := enters_of L.f288 (by kernel_rfl) rfl
 obtain ⟨i0, hi, hz0, hz1, hz2⟩ := info_parts L.i5
 by_cases hneg : i < 0
 ·obtain ⟨u, rfl⟩ : ∃ u : Nat, i = -(u : Int) := ⟨i.natAbs, by omega⟩
  have hu1 : 1 ≤ u := by omega
  have hu64 : u < 18446744073709551616 := by omega
  have hwr : IntKind.u64.wrap (-IntKind.u64.wrap (-(u : Int))) = (u : Int) := by rw [IntKind.wrap_u64, IntKind.wrap_u64]; omega
  rw [itoa_neg u hu1]
  go_enter L.f249, Body.n249_ntmps ρ
  go_wp2_with (at_builtin; refine wpList_append_own_at _ rfl _ _ (ρ.t 37) rfl B (ρ.t 5) i0 (.int .u8 0) 1 1 L.t37 hi hz0 hz1 hz2 rfl (by decide) _ _ _ rfl (hown.alloc _) ⟨w.heap.size, 0, none⟩ 1 1 [Value.int .u8 45] rfl rfl (by intro j u' hj; match j, hj with | 0, hj => simp at hj; subst hj; simp [Addr.add]) (by intro u' hu'; simp at hu'; subst hu'; rfl) (by unfold maxLen; omega) (by omega) (by simp; omega) ?_)
  intro v1 w1 hown1 hgrow _ hat
  have hnx1 : Below B w w1 := ((Below.refl B w).alloc hBw _).grown hgrow (by simp; omega) (fun k hk => (hown.lt k hk).1)
  have hok1 : Ct w w1 sv v1 := Ct.first ((Below.refl w.heap.size w).alloc (Nat.le_refl _) _) (Ct.of hgrow (hat.imp id fun h => by rw [h]; simp))
  have htab1 : Lib.TabIs P w1 Rx.Dv .u64 Lib.pow10Tab := htab w1 hnx1
  go_wp2_with (go_at_fn (ρ.f 288); refine (Qz { L with } B (n + 1) u hu64 v1 _ w1 hown1 (by have := hnx1.size; omega) (by omega) htab1).mono ?_; rintro e w2 ⟨v2, rfl, hown2, hnx2, hok2⟩)
  go_wp2
  go_ret
  refine ⟨v2, rfl, ?_, hnx1.trans hnx2, hok1.trans hok2⟩
  have e1 : n + ((decDigits u).length + 1) = n + 1 + (decDigits u).length := by omega
  have e2 : xs ++ byteCells (45 :: decDigits u) = xs ++ [Value.int .u8 45] ++ byteCells (decDigits u) := by simp [byteCells]
  rw [e1, e2]
  exact hown2
 ·obtain ⟨u, rfl⟩ : ∃ u : Nat, i = u := ⟨i.toNat, by omega⟩
  have hu64 : u < 18446744073709551616 := by omega
  rw [itoa_nonneg]
  go_enter L.f249, Body.n249_ntmps ρ
  go_wp2_with (go_at_fn (ρ.f 288); refine (Qz { L with } B n u hu64 sv xs w hown hBw (by omega) (htab w (Below.refl _ _))).mono ?_; rintro e w2 ⟨v2, rfl, hown2, hnx2, hok2⟩)
  go_wp2
  first | go_ret | go_ret2
  exact ⟨v2, rfl, hown2, hnx2, hok2⟩
set_option maxRecDepth 100000 in
theorem T7 (L : LaysM.n176 P ρ) (B n : Nat) (i : Int) (h0 : -9223372036854775808 ≤ i) (h1 : i ≤ 9223372036854775807) (sv : Value) (xs : List Value) (w : World) (hown : w.ownsRow B (ρ.t 5) 1 sv n xs) (hBw : B ≤ w.heap.size) (hlim : n + 21 ≤ 140737488355328)
  (htab : ∀ w', Below B w w' → Lib.TabIs P w' Rx.Dv .u64 Lib.pow10Tab) :
  Calls P (ρ.f 176) #[sv, .int .i64 i, .int .i64 10] w fun e w' => ∃ v', e = .returned v' ∧ w'.ownsRow B (ρ.t 5) 1 v' (n + (itoa i).length) (xs ++ byteCells (itoa i)) ∧ Below B w w' ∧ Ct w w' sv v' := by
 have mixed := L.mixed
 have t5 := L.t5; have a5 := L.a5; have z5 := L.z5; have v5 := L.v5
 have t37 := L.t37; have u37 := run_underlying L.t37; have a37 := L.a37; have z37 := L.z37; have v37 := L.v37
 have t2 := L.t2; have a2 := L.a2; have z2 := L.z2; have v2 := L.v2
 have t3 := L.t3; have a3 := L.a3; have z3 := L.z3; have v3 := L.v3
 have e249 : ∀ args w, (callFunc (ρ.f 249) args).run P w = .ok (.enter (ρ.f 249) args) w := enters_of L.f249 (by kernel_rfl) rfl
 go_enter L.f176, Body.n176_ntmps ρ
 go_wp2_with (go_at_fn (ρ.f 249); refine (T6 { L with } B n i h0 h1 sv xs w hown hBw hlim htab).mono ?_; rintro e w2 ⟨v2, rfl, hown2, hnx2, hok2⟩)
 go_wp2
 go_ret
 exact ⟨v2, rfl, hown2, hnx2, hok2⟩
shelf_lay LaysM.n176 Nm 176 at Tryd as Tryd.laysAI
end Go.Proofs
namespace Rx.S
open Go Rx Go.Proofs Go.Lib
set_option maxRecDepth 100000
def A4 : OV := { f := 20, ss := [.int .u8], ty := 5, grow := true }
theorem QA : ∀ u : Nat, (decDigits u).map (fun b => A.i (b.toNat : Int)) = (Day.OU u).map .i := by
 intro u
 induction u using Nat.strongRecOn with
 | ind u ih =>
  rw [decDigits, Day.OU]
  by_cases h : u < 10
  ·rw [dif_pos h, dif_pos h]
   have : (UInt8.ofNat (48 + u)).toNat = 48 + u := by
    rw [UInt8.toNat_ofNat']
    omega
   simp only [List.map_cons, List.map_nil, this]
   rfl
  ·rw [dif_neg h, dif_neg h, List.map_append, List.map_append, ih (u / 10) (by omega)]
   have : (UInt8.ofNat (48 + u % 10)).toNat = 48 + u % 10 := by
    rw [UInt8.toNat_ofNat']
    omega
   simp only [List.map_cons, List.map_nil, this]
   rfl
theorem QB (x : Int) : (itoa x).map (fun b => A.i (b.toNat : Int)) = Day.Bk (Day.num x) := by
 unfold itoa Day.num Day.Bk
 by_cases h : x < 0
 ·rw [if_pos h, if_pos h, List.map_cons, List.map_cons, QA]
  rfl
 ·rw [if_neg h, if_neg h, QA, show x.toNat = x.natAbs by omega]
theorem A5 : Qe Tryd.prog T A4 := by
 show Qd Tryd.prog T A4
 intro al k x n B sv w hk hal hn hpre hown hBw htab
 have hi : -9223372036854775808 ≤ x.int ∧ x.int ≤ 9223372036854775807 := by
  have : (T 20 [.l al, k, x]).1 = true := hpre
  rw [SG] at this
  exact Day.Qu.1 this
 have hdef : (Tryd.prog.globalNamed Dv).isSome = true := by kernel_rfl
 have ho : w.ownsRow B 5 1 sv n (Bi [.int .u8] al) := hown
 refine (T7 Tryd.laysAI B n x.int hi.1 hi.2 sv (Bi [.int .u8] al) w ho hBw (by omega) (fun w' hw => htab w' hw hdef)).mono ?_
 rintro e w' ⟨v', rfl, h1, h2, h3, h4, h5⟩
 have hb : byteCells (itoa x.int) = Bi [.int .u8] (Day.Bk (Day.num x.int)) := by
  rw [← QB, C6, List.map_map]
  rfl
 have hl : (itoa x.int).length = (Day.Bk (Day.num x.int)).length := by rw [← QB, List.length_map]
 refine ⟨v', Day.Bk (Day.num x.int), rfl, ?_, ?_, ?_, h2, h4, h5⟩
 ·show (T 20 [.l al, k, x]).2 = _
  rw [SG]
  rfl
 ·rw [Day.NG]
  unfold Day.num
  have : 1 ≤ (Day.OU x.int.natAbs).length := by
   rw [Day.OU]
   split <;> simp
  split
  ·simp
  ·exact this
 ·show w'.ownsRow B 5 1 v' _ (Bi [.int .u8] (al ++ _))
  rw [hb, hl] at h1
  have : Bi [.int .u8] (al ++ Day.Bk (Day.num x.int)) = Bi [.int .u8] al ++ Bi [.int .u8] (Day.Bk (Day.num x.int)) := by rw [C6, C6, C6, List.map_append]
  rw [this]
  exact h1
end Rx.S
