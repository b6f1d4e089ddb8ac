import Derived.Test.YtngghkhjejkelaaVXc
import Derived.Test.YtngghkhjejkelaaVXe
import Derived.Test.YtngghkhjejkelaaVXm
import Derived.Test.YtngghkhjejkelaaVXconf
import Derived.Test.YtngghkhjejkelaaVXhear
import Derived.Test.YtngghkhjejkelaaVXring
import Derived.Test.YtngghkhjejkelaaVXtally
import Derived.Test.YtngghkhjejkelaaVXnode
import Derived.Test.YtngghkhjejkelaaVXsay
import Derived.Test.YtngghkhjejkelaaVYact
import Derived.Test.YtngghkhjejkelaaProg
import Derived.WalkKit
import Derived.KernelRfl
import Derived.Deep.RegionWith
import Derived.Deep.QuietTactic
set_option linter.unusedVariables false
set_option linter.unusedSimpArgs false
namespace Rx.S
open Go Rx Go.Proofs
set_option maxRecDepth 100000
set_option maxHeartbeats 4000000
noncomputable def Er : List (Nat × Func) := [(28, Try.f28), (40, Try.f40), (41, Try.f41), (42, Try.f42), (54, Try.f54), (68, Try.f68), (69, Try.f69), (70, Try.f70), (71, Try.f71), (75, Try.f75), (72, Try.f72), (86, Try.f86)]
theorem H2 : AD Try.prog Er := ⟨SK, YA, V6, Xn, Aa2, ZX, YB, AaD, ZY, YC, ZZ, YD, trivial⟩
noncomputable def FL : Ctx := { As := As, eqs := eqs, fns := fun f => look f Er, ctr := [(86, DK), (75, Dk), (41, B1), (42, Fe), (68, Eb), (69, CS)], lim := 30, big := [], lps := [] }
theorem Js : XL Try.prog T FL where
 As := AM
 eqs := AY
 mixed := mixed
 ctr := Ak ⟨⟨rfl, Hf⟩, ⟨rfl, F5⟩, ⟨rfl, CN⟩, ⟨rfl, Hm⟩, ⟨rfl, J4⟩, ⟨rfl, Ff⟩, trivial⟩
 fns := An H2
 big := Al trivial
 lps := Av rfl
def KG : St := ⟨Vu 50 [(0, .pv (.one (.k (.int .i64 (V 0))))), (1, .pv (.agg [.k (.int .i64 (V 1)), .k (.int .i64 (V 2)), .k (.int .i64 (V 3)), .k (.int .i64 (V 4))])), (2, .pv (.agg [.k (.int .i64 (V 5)), .k (.int .i64 (V 6)), .k (.int .i64 (V 7)), .k (.int .i64 (V 8))])), (4, .pv (.one (.k (.ptr 0 0)))), (5, .pv (.one (.k (.ptr 1 0)))), (6, .pv (.one (.k (.ptr 2 0)))), (7, .pv (.one (.k (.int .i64 (N 0))))), (8, .pv (.one (.clo 54 [] []))), (9, .pv (.one (.k (.bool (B true)))))], [⟨true, 46, 4, [.k (.int .i64 (V 1)), .k (.int .i64 (V 2)), .k (.int .i64 (V 3)), .k (.int .i64 (V 4))], none⟩, ⟨true, 47, 4, [.k (.int .i64 (V 5)), .k (.int .i64 (V 6)), .k (.int .i64 (V 7)), .k (.int .i64 (V 8))], none⟩, ⟨true, 46, 4, [.k (.int .i64 (N 0)), .k (.int .i64 (N 0)), .k (.int .i64 (N 0)), .k (.int .i64 (N 0))], none⟩], B true⟩
theorem Jt : PT ws FL 28 [true, true] KG 9 [(true, [.int .i64, .int .i64, .int .i64, .int .i64]), (false, [.int .i64])] B0 [V 50, V 51, V 52, V 53, V 49] = true := by kernel_rfl
theorem H3 (e : Nat → A) (H : Ad T e B0.defs) (hp : (Day.ND.i64 (Day.ND.mk (e 1).int (e 2).int (e 3).int (e 4).int) && Day.AE (e 0).int (Day.Fr.mk (e 5).int (e 6).int) (Day.Fr.mk (e 7).int (e 8).int) && Day.YG (Day.ND.mk (e 1).int (e 2).int (e 3).int (e 4).int) 1) = true) :
  Ej e B0.obs ∧ Aa [.int .i64, .int .i64, .int .i64, .int .i64, .int .i64] [.i (((Day.AI (e 0).int (Day.ND.mk (e 1).int (e 2).int (e 3).int (e 4).int) (Day.Fr.mk (e 5).int (e 6).int) (Day.Fr.mk (e 7).int (e 8).int))).id), .i (((Day.AI (e 0).int (Day.ND.mk (e 1).int (e 2).int (e 3).int (e 4).int) (Day.Fr.mk (e 5).int (e 6).int) (Day.Fr.mk (e 7).int (e 8).int))).mode), .i (((Day.AI (e 0).int (Day.ND.mk (e 1).int (e 2).int (e 3).int (e 4).int) (Day.Fr.mk (e 5).int (e 6).int) (Day.Fr.mk (e 7).int (e 8).int))).count), .i (((Day.AI (e 0).int (Day.ND.mk (e 1).int (e 2).int (e 3).int (e 4).int) (Day.Fr.mk (e 5).int (e 6).int) (Day.Fr.mk (e 7).int (e 8).int))).pos), .i (Day.Bm (e 0).int (Day.ND.mk (e 1).int (e 2).int (e 3).int (e 4).int))] = Aa [.int .i64, .int .i64, .int .i64, .int .i64, .int .i64] ([V 50, V 51, V 52, V 53, V 49].map (L.ev e)) := by
 obtain ⟨ho, hr⟩ := IB e H _ rfl hp
 obtain ⟨r0, r1, r2, r3, r4⟩ := hr
 refine ⟨⟨ho.1, ho.2.1, ho.2.2.1, ho.2.2.2.1, ho.2.2.2.2.1, ho.2.2.2.2.2, trivial⟩, ?_⟩
 exact (AS r0 (AS r1 (AS r2 (AS r3 (AS r4 rfl)))))
noncomputable def FM : List (Nat × Func) := [(28, Try.f28), (40, Try.f40), (41, Try.f41), (42, Try.f42), (55, Try.f55), (68, Try.f68), (69, Try.f69), (70, Try.f70), (71, Try.f71), (75, Try.f75), (72, Try.f72), (86, Try.f86)]
theorem Ju : AD Try.prog FM := ⟨SK, YA, V6, Xn, Aa3, ZX, YB, AaD, ZY, YC, ZZ, YD, trivial⟩
noncomputable def HL : Ctx := { As := As, eqs := eqs, fns := fun f => look f FM, ctr := [(86, DK), (75, Dk), (41, B1), (42, Fe), (68, Eb), (69, CS)], lim := 30, big := [], lps := [] }
theorem LC : XL Try.prog T HL where
 As := AM
 eqs := AY
 mixed := mixed
 ctr := Ak ⟨⟨rfl, Hf⟩, ⟨rfl, F5⟩, ⟨rfl, CN⟩, ⟨rfl, Hm⟩, ⟨rfl, J4⟩, ⟨rfl, Ff⟩, trivial⟩
 fns := An Ju
 big := Al trivial
 lps := Av rfl
def MN : St := ⟨Vu 50 [(0, .pv (.one (.k (.int .i64 (V 0))))), (1, .pv (.agg [.k (.int .i64 (V 1)), .k (.int .i64 (V 2)), .k (.int .i64 (V 3)), .k (.int .i64 (V 4))])), (2, .pv (.agg [.k (.int .i64 (V 5)), .k (.int .i64 (V 6)), .k (.int .i64 (V 7)), .k (.int .i64 (V 8))])), (4, .pv (.one (.k (.ptr 0 0)))), (5, .pv (.one (.k (.ptr 1 0)))), (6, .pv (.one (.k (.ptr 2 0)))), (7, .pv (.one (.k (.int .i64 (N 0))))), (8, .pv (.one (.clo 55 [] []))), (9, .pv (.one (.k (.bool (B true)))))], [⟨true, 46, 4, [.k (.int .i64 (V 1)), .k (.int .i64 (V 2)), .k (.int .i64 (V 3)), .k (.int .i64 (V 4))], none⟩, ⟨true, 47, 4, [.k (.int .i64 (V 5)), .k (.int .i64 (V 6)), .k (.int .i64 (V 7)), .k (.int .i64 (V 8))], none⟩, ⟨true, 46, 4, [.k (.int .i64 (N 0)), .k (.int .i64 (N 0)), .k (.int .i64 (N 0)), .k (.int .i64 (N 0))], none⟩], B true⟩
theorem LD : PT ws HL 28 [true, true] MN 9 [(true, [.int .i64, .int .i64, .int .i64, .int .i64]), (false, [.int .i64])] Cs [V 53, V 54, V 55, V 56, V 52] = true := by kernel_rfl
theorem Jv (e : Nat → A) (H : Ad T e Cs.defs) (hp : (Day.ND.i64 (Day.ND.mk (e 1).int (e 2).int (e 3).int (e 4).int) && Day.AE (e 0).int (Day.Fr.mk (e 5).int (e 6).int) (Day.Fr.mk (e 7).int (e 8).int) && Day.YG (Day.ND.mk (e 1).int (e 2).int (e 3).int (e 4).int) 2) = true) :
  Ej e Cs.obs ∧ Aa [.int .i64, .int .i64, .int .i64, .int .i64, .int .i64] [.i (((Day.AI (e 0).int (Day.ND.mk (e 1).int (e 2).int (e 3).int (e 4).int) (Day.Fr.mk (e 5).int (e 6).int) (Day.Fr.mk (e 7).int (e 8).int))).id), .i (((Day.AI (e 0).int (Day.ND.mk (e 1).int (e 2).int (e 3).int (e 4).int) (Day.Fr.mk (e 5).int (e 6).int) (Day.Fr.mk (e 7).int (e 8).int))).mode), .i (((Day.AI (e 0).int (Day.ND.mk (e 1).int (e 2).int (e 3).int (e 4).int) (Day.Fr.mk (e 5).int (e 6).int) (Day.Fr.mk (e 7).int (e 8).int))).count), .i (((Day.AI (e 0).int (Day.ND.mk (e 1).int (e 2).int (e 3).int (e 4).int) (Day.Fr.mk (e 5).int (e 6).int) (Day.Fr.mk (e 7).int (e 8).int))).pos), .i (Day.Bm (e 0).int (Day.ND.mk (e 1).int (e 2).int (e 3).int (e 4).int))] = Aa [.int .i64, .int .i64, .int .i64, .int .i64, .int .i64] ([V 53, V 54, V 55, V 56, V 52].map (L.ev e)) := by
 obtain ⟨ho, hr⟩ := KH e H _ rfl hp
 obtain ⟨r0, r1, r2, r3, r4⟩ := hr
 refine ⟨⟨ho.1, ho.2.1, ho.2.2.1, ho.2.2.2.1, ho.2.2.2.2.1, ho.2.2.2.2.2, trivial⟩, ?_⟩
 exact (AS r0 (AS r1 (AS r2 (AS r3 (AS r4 rfl)))))
noncomputable def Es : List (Nat × Func) := [(28, Try.f28), (40, Try.f40), (41, Try.f41), (42, Try.f42), (56, Try.f56), (73, Try.f73), (71, Try.f71), (69, Try.f69), (72, Try.f72), (86, Try.f86), (74, Try.f74), (75, Try.f75), (76, Try.f76)]
theorem H4 : AD Try.prog Es := ⟨SK, YA, V6, Xn, Aa4, AaE, ZY, YB, ZZ, YD, AaF, YC, AaG, trivial⟩
noncomputable def FN : Ctx := { As := As, eqs := eqs, fns := fun f => look f Es, ctr := [(86, DK), (75, Dk), (76, EE), (41, B1), (42, Fe), (69, CS), (73, EF), (74, EG)], lim := 30, big := [], lps := [] }
theorem Jw : XL Try.prog T FN where
 As := AM
 eqs := AY
 mixed := mixed
 ctr := Ak ⟨⟨rfl, Hf⟩, ⟨rfl, F5⟩, ⟨rfl, Qa⟩, ⟨rfl, CN⟩, ⟨rfl, Hm⟩, ⟨rfl, Ff⟩, ⟨rfl, Qc⟩, ⟨rfl, Qe⟩, trivial⟩
 fns := An H4
 big := Al trivial
 lps := Av rfl
def KI : St := ⟨Vu 50 [(0, .pv (.one (.k (.int .i64 (V 0))))), (1, .pv (.agg [.k (.int .i64 (V 1)), .k (.int .i64 (V 2)), .k (.int .i64 (V 3)), .k (.int .i64 (V 4))])), (2, .pv (.agg [.k (.int .i64 (V 5)), .k (.int .i64 (V 6)), .k (.int .i64 (V 7)), .k (.int .i64 (V 8))])), (4, .pv (.one (.k (.ptr 0 0)))), (5, .pv (.one (.k (.ptr 1 0)))), (6, .pv (.one (.k (.ptr 2 0)))), (7, .pv (.one (.k (.int .i64 (N 0))))), (8, .pv (.one (.clo 56 [] []))), (9, .pv (.one (.k (.bool (B true)))))], [⟨true, 46, 4, [.k (.int .i64 (V 1)), .k (.int .i64 (V 2)), .k (.int .i64 (V 3)), .k (.int .i64 (V 4))], none⟩, ⟨true, 47, 4, [.k (.int .i64 (V 5)), .k (.int .i64 (V 6)), .k (.int .i64 (V 7)), .k (.int .i64 (V 8))], none⟩, ⟨true, 46, 4, [.k (.int .i64 (N 0)), .k (.int .i64 (N 0)), .k (.int .i64 (N 0)), .k (.int .i64 (N 0))], none⟩], B true⟩
theorem Jx : PT ws FN 28 [true, true] KI 9 [(true, [.int .i64, .int .i64, .int .i64, .int .i64]), (false, [.int .i64])] B3 [V 71, V 72, V 73, V 74, V 70] = true := by kernel_rfl
theorem H5 (e : Nat → A) (H : Ad T e B3.defs) (hp : (Day.ND.i64 (Day.ND.mk (e 1).int (e 2).int (e 3).int (e 4).int) && Day.AE (e 0).int (Day.Fr.mk (e 5).int (e 6).int) (Day.Fr.mk (e 7).int (e 8).int) && Day.YG (Day.ND.mk (e 1).int (e 2).int (e 3).int (e 4).int) 3) = true) :
  Ej e B3.obs ∧ Aa [.int .i64, .int .i64, .int .i64, .int .i64, .int .i64] [.i (((Day.AI (e 0).int (Day.ND.mk (e 1).int (e 2).int (e 3).int (e 4).int) (Day.Fr.mk (e 5).int (e 6).int) (Day.Fr.mk (e 7).int (e 8).int))).id), .i (((Day.AI (e 0).int (Day.ND.mk (e 1).int (e 2).int (e 3).int (e 4).int) (Day.Fr.mk (e 5).int (e 6).int) (Day.Fr.mk (e 7).int (e 8).int))).mode), .i (((Day.AI (e 0).int (Day.ND.mk (e 1).int (e 2).int (e 3).int (e 4).int) (Day.Fr.mk (e 5).int (e 6).int) (Day.Fr.mk (e 7).int (e 8).int))).count), .i (((Day.AI (e 0).int (Day.ND.mk (e 1).int (e 2).int (e 3).int (e 4).int) (Day.Fr.mk (e 5).int (e 6).int) (Day.Fr.mk (e 7).int (e 8).int))).pos), .i (Day.Bm (e 0).int (Day.ND.mk (e 1).int (e 2).int (e 3).int (e 4).int))] = Aa [.int .i64, .int .i64, .int .i64, .int .i64, .int .i64] ([V 71, V 72, V 73, V 74, V 70].map (L.ev e)) := by
 obtain ⟨ho, hr⟩ := IM e H _ rfl hp
 obtain ⟨r0, r1, r2, r3, r4⟩ := hr
 refine ⟨⟨ho.1, ho.2.1, ho.2.2.1, ho.2.2.2.1, ho.2.2.2.2.1, ho.2.2.2.2.2.1, ho.2.2.2.2.2.2.1, ho.2.2.2.2.2.2.2, trivial⟩, ?_⟩
 exact (AS r0 (AS r1 (AS r2 (AS r3 (AS r4 rfl)))))
noncomputable def FO : List (Nat × Func) := [(28, Try.f28), (40, Try.f40), (41, Try.f41), (42, Try.f42)]
theorem Jy : AD Try.prog FO := ⟨SK, YA, V6, Xn, trivial⟩
noncomputable def HM : Ctx := { As := As, eqs := eqs, fns := fun f => look f FO, ctr := [(41, B1), (42, Fe)], lim := 30, big := [], lps := [] }
theorem LF : XL Try.prog T HM where
 As := AM
 eqs := AY
 mixed := mixed
 ctr := Ak ⟨⟨rfl, CN⟩, ⟨rfl, Hm⟩, trivial⟩
 fns := An Jy
 big := Al trivial
 lps := Av rfl
def MR : St := ⟨Vu 50 [(0, .pv (.one (.k (.int .i64 (V 0))))), (1, .pv (.agg [.k (.int .i64 (V 1)), .k (.int .i64 (V 2)), .k (.int .i64 (V 3)), .k (.int .i64 (V 4))])), (2, .pv (.agg [.k (.int .i64 (V 5)), .k (.int .i64 (V 6)), .k (.int .i64 (V 7)), .k (.int .i64 (V 8))])), (4, .pv (.one (.k (.ptr 0 0)))), (5, .pv (.one (.k (.ptr 1 0)))), (6, .pv (.one (.k (.ptr 2 0)))), (7, .pv (.one (.k (.int .i64 (N 0))))), (8, .pv (.one (.k .nilfn))), (9, .pv (.one (.k (.bool (B false)))))], [⟨true, 46, 4, [.k (.int .i64 (V 1)), .k (.int .i64 (V 2)), .k (.int .i64 (V 3)), .k (.int .i64 (V 4))], none⟩, ⟨true, 47, 4, [.k (.int .i64 (V 5)), .k (.int .i64 (V 6)), .k (.int .i64 (V 7)), .k (.int .i64 (V 8))], none⟩, ⟨true, 46, 4, [.k (.int .i64 (N 0)), .k (.int .i64 (N 0)), .k (.int .i64 (N 0)), .k (.int .i64 (N 0))], none⟩], B true⟩
theorem LG : PT ws HM 28 [true, true] MR 9 [(true, [.int .i64, .int .i64, .int .i64, .int .i64]), (false, [.int .i64])] C6 [N 0, N 0, N 0, N 0, N 1] = true := by kernel_rfl
theorem Jz (e : Nat → A) (H : Ad T e C6.defs) (hp : (Day.ND.i64 (Day.ND.mk (e 1).int (e 2).int (e 3).int (e 4).int) && Day.AE (e 0).int (Day.Fr.mk (e 5).int (e 6).int) (Day.Fr.mk (e 7).int (e 8).int) && Day.noM (Day.ND.mk (e 1).int (e 2).int (e 3).int (e 4).int)) = true) :
  Ej e C6.obs ∧ Aa [.int .i64, .int .i64, .int .i64, .int .i64, .int .i64] [.i (((Day.AI (e 0).int (Day.ND.mk (e 1).int (e 2).int (e 3).int (e 4).int) (Day.Fr.mk (e 5).int (e 6).int) (Day.Fr.mk (e 7).int (e 8).int))).id), .i (((Day.AI (e 0).int (Day.ND.mk (e 1).int (e 2).int (e 3).int (e 4).int) (Day.Fr.mk (e 5).int (e 6).int) (Day.Fr.mk (e 7).int (e 8).int))).mode), .i (((Day.AI (e 0).int (Day.ND.mk (e 1).int (e 2).int (e 3).int (e 4).int) (Day.Fr.mk (e 5).int (e 6).int) (Day.Fr.mk (e 7).int (e 8).int))).count), .i (((Day.AI (e 0).int (Day.ND.mk (e 1).int (e 2).int (e 3).int (e 4).int) (Day.Fr.mk (e 5).int (e 6).int) (Day.Fr.mk (e 7).int (e 8).int))).pos), .i (Day.Bm (e 0).int (Day.ND.mk (e 1).int (e 2).int (e 3).int (e 4).int))] = Aa [.int .i64, .int .i64, .int .i64, .int .i64, .int .i64] ([N 0, N 0, N 0, N 0, N 1].map (L.ev e)) := by
 obtain ⟨ho, hr⟩ := KJ e H _ rfl hp
 obtain ⟨r0, r1, r2, r3, r4⟩ := hr
 refine ⟨trivial, ?_⟩
 exact (AS r0 (AS r1 (AS r2 (AS r3 (AS r4 rfl)))))
end Rx.S
namespace Rx.S
open Go Rx Go.Proofs Go.RowKit
set_option maxRecDepth 100000
def kf (k : Int) (f : Nat) (i : Nat) : MapEntry := { key := .int .i64 k, val := .func (.func f) #[] #[], born := i }
def MS : Array MapEntry := #[kf 1 54 0, kf 2 55 1, kf 3 56 2]
theorem AaP (w : World) : (Instr.mapUpdate 73 (.map (some w.heap.size)) (.int .i64 1) (.func (.func 54) #[] #[])).run Try.prog (w.alloc (.map #[] 0)) = .ok () (w.alloc (.map #[kf 1 54 0] 1)) :=
 Bb w (t := 73) (k := 3) (e := 71) Try.underlying73 #[] 0 _ _ Try.underlying3 (by simp [MapKept.IsKey]) (by kernel_rfl)
theorem AaQ (w : World) : (Instr.mapUpdate 73 (.map (some w.heap.size)) (.int .i64 2) (.func (.func 55) #[] #[])).run Try.prog (w.alloc (.map #[kf 1 54 0] 1)) = .ok () (w.alloc (.map #[kf 1 54 0, kf 2 55 1] 2)) :=
 Bb w (t := 73) (k := 3) (e := 71) Try.underlying73 #[kf 1 54 0] 1 _ _ Try.underlying3 (by simp [MapKept.IsKey]) (by kernel_rfl)
theorem AaR (w : World) : (Instr.mapUpdate 73 (.map (some w.heap.size)) (.int .i64 3) (.func (.func 56) #[] #[])).run Try.prog (w.alloc (.map #[kf 1 54 0, kf 2 55 1] 2)) = .ok () (w.alloc (.map #[kf 1 54 0, kf 2 55 1, kf 3 56 2] 3)) :=
 Bb w (t := 73) (k := 3) (e := 71) Try.underlying73 #[kf 1 54 0, kf 2 55 1] 2 _ _ Try.underlying3 (by simp [MapKept.IsKey]) (by kernel_rfl)
theorem T2 (w : World) : Calls Try.prog 40 #[] w fun e w' => e = .returned (.map (some w.heap.size)) ∧ w' = w.alloc (.map MS 3) := by
 have hmm := @run_makeMap Try.prog
 have h0 := AaP w
 have h1 := AaQ w
 have h2 := AaR w
 go_enter Try.func40, Try.ntmps40
 go_wp2
 go_ret
 exact ⟨rfl, rfl⟩
def W3 (x0 x1 x2 x3 y0 y1 y2 y3 : Int) (w : World) : World := ((w.alloc (.cells #[.int .i64 x0, .int .i64 x1, .int .i64 x2, .int .i64 x3] 46)).alloc (.cells #[.int .i64 y0, .int .i64 y1, .int .i64 y2, .int .i64 y3] 47)).alloc (.cells #[.int .i64 0, .int .i64 0, .int .i64 0, .int .i64 0] 46)
def TM (n x0 x1 x2 x3 y0 y1 y2 y3 : Int) (b : Nat) (dv : Value) (okb : Bool) : Array Value := #[.int .i64 n, .agg #[.int .i64 x0, .int .i64 x1, .int .i64 x2, .int .i64 x3], .agg #[.int .i64 y0, .int .i64 y1, .int .i64 y2, .int .i64 y3], Go.undef,
 .pointer (some ⟨b, 0, none⟩), .pointer (some ⟨b + 1, 0, none⟩), .pointer (some ⟨b + 1 + 1, 0, none⟩), .int .i64 0, dv, .bool okb, Go.undef, Go.undef, Go.undef, .tuple #[dv, .bool okb], .map (some (b + 1 + 1 + 1)), .pointer (some ⟨b, 1, none⟩), .int .i64 x1, .tuple #[dv, .bool okb], dv, .bool okb,
 Go.undef, Go.undef, Go.undef, Go.undef, Go.undef, Go.undef, Go.undef, Go.undef, Go.undef, Go.undef, Go.undef, Go.undef, Go.undef, Go.undef, Go.undef, Go.undef, Go.undef, Go.undef, Go.undef, Go.undef, Go.undef, Go.undef, Go.undef, Go.undef, Go.undef, Go.undef, Go.undef, Go.undef, Go.undef, Go.undef]
theorem front (n x0 x1 x2 x3 y0 y1 y2 y3 : Int) (w : World) (dv : Value) (okb : Bool) (R : Ending → World → Prop)
  (hl : (Instr.lookup 73 (.map (some (w.heap.size + 1 + 1 + 1))) (.int .i64 x1) true).run Try.prog ((W3 x0 x1 x2 x3 y0 y1 y2 y3 w).alloc (.map MS 3)).drew = .ok (.tuple #[dv, .bool okb]) ((W3 x0 x1 x2 x3 y0 y1 y2 y3 w).alloc (.map MS 3)).drew)
  (hR : ∀ body rest, Try.f28.body = some body → Eo [true, true] body = some rest → Code.wp Try.prog rest (bodyPost Try.prog Try.f28 R) ⟨TM n x0 x1 x2 x3 y0 y1 y2 y3 w.heap.size dv okb, []⟩ ((W3 x0 x1 x2 x3 y0 y1 y2 y3 w).alloc (.map MS 3)).drew) :
  Calls Try.prog 28 #[.int .i64 n, .agg #[.int .i64 x0, .int .i64 x1, .int .i64 x2, .int .i64 x3], .agg #[.int .i64 y0, .int .i64 y1, .int .i64 y2, .int .i64 y3]] w R := by
 unfold W3 at hl hR
 go_enter Try.func28, Try.ntmps28
 refine Abd fun rest hrest => ?_
 have hR := hR _ rest rfl (by rw [hrest]; rfl)
 clear hrest
 go_wp2_with fail
 go_region_with (go_at_call 40; refine (T2 _).mono ?_; rintro e w' ⟨rfl, rfl⟩)
 all_goals go_wp2_with fail
 all_goals exact hR
end Rx.S
namespace Rx.S
open Go Rx Go.Proofs Go.RowKit
set_option maxRecDepth 100000
set_option maxHeartbeats 4000000
def CO : DD := { f := 28, ps := [.c false [.int .i64], .c true [.int .i64, .int .i64, .int .i64, .int .i64], .c true [.int .i64, .int .i64, .int .i64, .int .i64]], rs := [(true, [.int .i64, .int .i64, .int .i64, .int .i64]), (false, [.int .i64])], ok := fun _ => true }
theorem Pa (w : World) (o : Obj) : (w.alloc o).heap.size = w.heap.size + 1 := Array.size_push ..
def L3 (b : Nat) : Loc := fun r => if r = 2 then .OX (b + 1 + 1) 0 1 4 else if r = 1 then .OX (b + 1) 0 1 4 else .OX b 0 1 4
def fr3 (cv : C) (okb : Bool) : List SV := Vu 50 [(0, .pv (.one (.k (.int .i64 (V 0))))), (1, .pv (.agg [.k (.int .i64 (V 1)), .k (.int .i64 (V 2)), .k (.int .i64 (V 3)), .k (.int .i64 (V 4))])), (2, .pv (.agg [.k (.int .i64 (V 5)), .k (.int .i64 (V 6)), .k (.int .i64 (V 7)), .k (.int .i64 (V 8))])), (4, .pv (.one (.k (.ptr 0 0)))), (5, .pv (.one (.k (.ptr 1 0)))), (6, .pv (.one (.k (.ptr 2 0)))), (7, .pv (.one (.k (.int .i64 (N 0))))), (8, .pv (.one cv)), (9, .pv (.one (.k (.bool (B okb)))))]
def Vz : List Rx.Row := [⟨true, 46, 4, [.k (.int .i64 (V 1)), .k (.int .i64 (V 2)), .k (.int .i64 (V 3)), .k (.int .i64 (V 4))], none⟩, ⟨true, 47, 4, [.k (.int .i64 (V 5)), .k (.int .i64 (V 6)), .k (.int .i64 (V 7)), .k (.int .i64 (V 8))], none⟩, ⟨true, 46, 4, [.k (.int .i64 (N 0)), .k (.int .i64 (N 0)), .k (.int .i64 (N 0)), .k (.int .i64 (N 0))], none⟩]
theorem Z4 (e : Nat → A) (b : Nat) (dv : Value) (okb : Bool) (cv : C) (hcv : cv.rel e 3 (L3 b) dv) :
  At e 3 (L3 b) (fr3 cv okb) (TM (e 0).int (e 1).int (e 2).int (e 3).int (e 4).int (e 5).int (e 6).int (e 7).int (e 8).int b dv okb) := by
 refine At.Vu (by show 50 ≤ 50; exact Nat.le_refl _) fun x hx v hv => ?_
 simp only [List.mem_cons, List.not_mem_nil, or_false] at hx
 rcases hx with rfl | rfl | rfl | rfl | rfl | rfl | rfl | rfl | rfl <;> simp only [TM, List.getElem?_toArray, List.getElem?_cons_zero, List.getElem?_cons_succ, Option.some.injEq] at hv <;> subst hv
 ·exact Bz _
 ·exact ⟨_, rfl, Bz _, Bz _, Bz _, Bz _, trivial⟩
 ·exact ⟨_, rfl, Bz _, Bz _, Bz _, Bz _, trivial⟩
 ·exact GX (by decide) rfl
 ·exact GX (by decide) rfl
 ·exact GX (by decide) rfl
 ·exact IA _
 ·exact hcv
 ·exact ⟨trivial, rfl, .inr rfl⟩
theorem Zo (e : Nat → A) (w : World) :
  BO e ⟨w, fun _ => False⟩ (L3 w.heap.size) Vz ((W3 (e 1).int (e 2).int (e 3).int (e 4).int (e 5).int (e 6).int (e 7).int (e 8).int w).alloc (.map MS 3)).drew := by
 have h1 := GZ (BO.start e (L3 w.heap.size) w) (ty := 46) (es := 4) (cap := 1) (cells := [.k (.int .i64 (V 1)), .k (.int .i64 (V 2)), .k (.int .i64 (V 3)), .k (.int .i64 (V 4))]) (vs := [.int .i64 (e 1).int, .int .i64 (e 2).int, .int .i64 (e 3).int, .int .i64 (e 4).int]) (spare := []) ⟨Bz _, Bz _, Bz _, Bz _, trivial⟩ rfl (by decide)
 have h2 := GZ h1 (ty := 47) (es := 4) (cap := 1) (cells := [.k (.int .i64 (V 5)), .k (.int .i64 (V 6)), .k (.int .i64 (V 7)), .k (.int .i64 (V 8))]) (vs := [.int .i64 (e 5).int, .int .i64 (e 6).int, .int .i64 (e 7).int, .int .i64 (e 8).int]) (spare := []) ⟨Bz _, Bz _, Bz _, Bz _, trivial⟩ rfl (by decide)
 have h3 := GZ h2 (ty := 46) (es := 4) (cap := 1) (cells := [.k (.int .i64 (N 0)), .k (.int .i64 (N 0)), .k (.int .i64 (N 0)), .k (.int .i64 (N 0))]) (vs := [.int .i64 0, .int .i64 0, .int .i64 0, .int .i64 0]) (spare := []) ⟨IA _, IA _, IA _, IA _, trivial⟩ rfl (by decide)
 simp only [Pa] at h3
 have hL : (AO (AO (AO (L3 w.heap.size) ([] : List Rx.Row).length (.OX w.heap.size 0 1 4)) 1 (.OX (w.heap.size + 1) 0 1 4)) 2 (.OX (w.heap.size + 1 + 1) 0 1 4)) = L3 w.heap.size := by
  funext r
  show (if r = 2 then _ else if r = 1 then _ else if r = 0 then _ else L3 w.heap.size r) = L3 w.heap.size r
  unfold L3
  by_cases a : r = 2
  ·rw [if_pos a, if_pos a]
  ·rw [if_neg a, if_neg a]
   by_cases b : r = 1
   ·rw [if_pos b, if_pos b]
   ·rw [if_neg b, if_neg b]
    by_cases c : r = 0
    ·rw [if_pos c]
    ·rw [if_neg c]
     first | done | rw [if_neg a, if_neg b] | skip
 have h4 : BO e ⟨w, fun _ => False⟩ (L3 w.heap.size) Vz (W3 (e 1).int (e 2).int (e 3).int (e 4).int (e 5).int (e 6).int (e 7).int (e 8).int w) := by
  have := h3
  refine Eq.mp ?_ this
  exact congrArg (fun l => BO e ⟨w, fun _ => False⟩ l Vz (W3 (e 1).int (e 2).int (e 3).int (e 4).int (e 5).int (e 6).int (e 7).int (e 8).int w)) hL
 exact (h4.Ih ((Below.refl _ _).alloc (Nat.le_refl _) _)).Ih ⟨rfl, rfl, rfl, Nat.le_refl _, fun _ _ => rfl⟩
theorem Qf (x0 x1 x2 x3 y0 y1 y2 y3 : Int) (w : World) {i : Nat} {v : Value} (hf : Instr.findNow (.int .i64) (.int .i64 x1) MS.toList 0 = some (some (i, v))) :
  (Instr.lookup 73 (.map (some (w.heap.size + 1 + 1 + 1))) (.int .i64 x1) true).run Try.prog ((W3 x0 x1 x2 x3 y0 y1 y2 y3 w).alloc (.map MS 3)).drew = .ok (.tuple #[v, .bool true]) ((W3 x0 x1 x2 x3 y0 y1 y2 y3 w).alloc (.map MS 3)).drew := by
 have hb : (((W3 x0 x1 x2 x3 y0 y1 y2 y3 w).alloc (.map MS 3)).drew).heap[w.heap.size + 1 + 1 + 1]? = some (.map MS 3) := by
  have := Hk (W3 x0 x1 x2 x3 y0 y1 y2 y3 w) (.map MS 3)
  simp only [W3, Pa] at this
  exact this
 exact II _ (t := 73) (k := 3) (e := 71) Try.underlying73 hb _ Try.underlying3 (by simp [MapKept.IsKey]) hf true
theorem We (x0 x1 x2 x3 y0 y1 y2 y3 : Int) (w : World) (hf : Instr.findNow (.int .i64) (.int .i64 x1) MS.toList 0 = some none) :
  (Instr.lookup 73 (.map (some (w.heap.size + 1 + 1 + 1))) (.int .i64 x1) true).run Try.prog ((W3 x0 x1 x2 x3 y0 y1 y2 y3 w).alloc (.map MS 3)).drew = .ok (.tuple #[.nilFunc, .bool false]) ((W3 x0 x1 x2 x3 y0 y1 y2 y3 w).alloc (.map MS 3)).drew := by
 have hb : (((W3 x0 x1 x2 x3 y0 y1 y2 y3 w).alloc (.map MS 3)).drew).heap[w.heap.size + 1 + 1 + 1]? = some (.map MS 3) := by
  have := Hk (W3 x0 x1 x2 x3 y0 y1 y2 y3 w) (.map MS 3)
  simp only [W3, Pa] at this
  exact this
 exact N0 _ (t := 73) (k := 3) (e := 71) Try.underlying73 hb _ Try.underlying3 (by simp [MapKept.IsKey]) hf (by kernel_rfl) true
theorem Hr {X : Ctx} (hX : XL Try.prog T X) (h28 : X.fns 28 = some Try.f28) {cv : C} {okb : Bool} {g : G} {ls : List L} {dv : Value} {al out : List A}
  (h : PT ws X 28 [true, true] ⟨fr3 cv okb, Vz, B true⟩ 9 [(true, [.int .i64, .int .i64, .int .i64, .int .i64]), (false, [.int .i64])] g ls = true)
  (hlen : out.length = ls.length) (hkn : g.known = [])
  (hcv : ∀ (e : Nat → A) (l : Loc), cv.rel e 3 l dv)
  (n x0 x1 x2 x3 y0 y1 y2 y3 : A) (has : al = [n, x0, x1, x2, x3, y0, y1, y2, y3])
  (hpure : ∀ e : Nat → A, (∀ j a, al[j]? = some a → e j = a) → Ad T e g.defs → Ej e g.obs ∧ Aa [.int .i64, .int .i64, .int .i64, .int .i64, .int .i64] out = Aa [.int .i64, .int .i64, .int .i64, .int .i64, .int .i64] (ls.map (L.ev e)))
  (w : World)
  (hl : (Instr.lookup 73 (.map (some (w.heap.size + 1 + 1 + 1))) (.int .i64 x1.int) true).run Try.prog ((W3 x0.int x1.int x2.int x3.int y0.int y1.int y2.int y3.int w).alloc (.map MS 3)).drew = .ok (.tuple #[dv, .bool okb]) ((W3 x0.int x1.int x2.int x3.int y0.int y1.int y2.int y3.int w).alloc (.map MS 3)).drew) :
  Calls Try.prog 28 #[.int .i64 n.int, .agg #[.int .i64 x0.int, .int .i64 x1.int, .int .i64 x2.int, .int .i64 x3.int], .agg #[.int .i64 y0.int, .int .i64 y1.int, .int .i64 y2.int, .int .i64 y3.int]] w fun en w' => ∃ u, en = .returned u ∧ G2 [(true, [.int .i64, .int .i64, .int .i64, .int .i64]), (false, [.int .i64])] out u ∧ Below w.heap.size w w' := by
 subst has
 obtain ⟨e, fn, body, rest, h1, h2, h3, h4, h5⟩ := Zn hX AH h («as» := [n, x0, x1, x2, x3, y0, y1, y2, y3]) rfl hlen hkn hpure
 rw [h28] at h2
 injection h2 with h2
 subst h2
 obtain rfl := h1 0 n rfl
 obtain rfl := h1 1 x0 rfl
 obtain rfl := h1 2 x1 rfl
 obtain rfl := h1 3 x2 rfl
 obtain rfl := h1 4 x3 rfl
 obtain rfl := h1 5 y0 rfl
 obtain rfl := h1 6 y1 rfl
 obtain rfl := h1 7 y2 rfl
 obtain rfl := h1 8 y3 rfl
 refine front _ _ _ _ _ _ _ _ _ w dv okb _ hl fun body' rest' hb hr => ?_
 rw [h3] at hb
 injection hb with hb
 subst hb
 rw [h4] at hr
 injection hr with hr
 subst hr
 exact h5 ⟨w, fun _ => False⟩ (L3 w.heap.size) _ _ _ (Z4 e w.heap.size dv okb cv (hcv e _)) (Zo e w) rfl fun u w' hu hb => ⟨u, rfl, hu, hb⟩
theorem CT : AW Try.prog T CO := by
 intro lits al vs w hok hag hargs hpre
 have hpre : (Zi al).1 = true := by rw [← X5]; exact hpre
 obtain ⟨v, vr, a1, a2, rfl, rfl, o1, v', vr', a3, a4, rfl, rfl, o2, v'', vr'', a5, a6, rfl, rfl, o3, hnil⟩ := hargs
 obtain ⟨rfl, rfl⟩ := hnil
 obtain ⟨l1, o1⟩ := o1
 obtain ⟨l2, o2⟩ := o2
 obtain ⟨l3, o3⟩ := o3
 rw [if_neg (by simp)] at o1
 rw [if_pos rfl] at o2 o3
 obtain ⟨s1, n, e1, rfl, rfl⟩ := o1
 simp only [List.cons.injEq, and_true] at e1
 subst e1
 obtain ⟨x0, x1, x2, x3, rfl⟩ : ∃ x0 x1 x2 x3, a3 = [x0, x1, x2, x3] := by
  match a3, l2 with
  | [x0, x1, x2, x3], _ => exact ⟨_, _, _, _, rfl⟩
 obtain ⟨y0, y1, y2, y3, rfl⟩ : ∃ y0 y1 y2 y3, a5 = [y0, y1, y2, y3] := by
  match a5, l3 with
  | [x0, x1, x2, x3], _ => exact ⟨_, _, _, _, rfl⟩
 subst o2 o3
 rw [show CO.f = 28 from rfl, X5]
 have hp : ∀ (m : Bool), (∀ e : Nat → A, m = true → True) := fun _ _ _ => trivial
 by_cases m1 : x1.int = 1
 ·have hl := Qf x0.int x1.int x2.int x3.int y0.int y1.int y2.int y3.int w (i := 0) (v := .func (.func 54) #[] #[]) (by rw [m1]; kernel_rfl)
  refine Hr Js rfl Jt rfl rfl (fun e l => ⟨[], [], rfl, trivial, trivial⟩) n x0 x1 x2 x3 y0 y1 y2 y3 rfl (fun e h1 h3 => ?_) w hl
  obtain rfl := h1 0 n rfl
  obtain rfl := h1 1 x0 rfl
  obtain rfl := h1 2 x1 rfl
  obtain rfl := h1 3 x2 rfl
  obtain rfl := h1 4 x3 rfl
  obtain rfl := h1 5 y0 rfl
  obtain rfl := h1 6 y1 rfl
  obtain rfl := h1 7 y2 rfl
  obtain rfl := h1 8 y3 rfl
  exact H3 e h3 (by rw [Bool.and_eq_true]; exact ⟨hpre, decide_eq_true m1⟩)
 by_cases m2 : x1.int = 2
 ·have hl := Qf x0.int x1.int x2.int x3.int y0.int y1.int y2.int y3.int w (i := 1) (v := .func (.func 55) #[] #[]) (by rw [m2]; kernel_rfl)
  refine Hr LC rfl LD rfl rfl (fun e l => ⟨[], [], rfl, trivial, trivial⟩) n x0 x1 x2 x3 y0 y1 y2 y3 rfl (fun e h1 h3 => ?_) w hl
  obtain rfl := h1 0 n rfl
  obtain rfl := h1 1 x0 rfl
  obtain rfl := h1 2 x1 rfl
  obtain rfl := h1 3 x2 rfl
  obtain rfl := h1 4 x3 rfl
  obtain rfl := h1 5 y0 rfl
  obtain rfl := h1 6 y1 rfl
  obtain rfl := h1 7 y2 rfl
  obtain rfl := h1 8 y3 rfl
  exact Jv e h3 (by rw [Bool.and_eq_true]; exact ⟨hpre, decide_eq_true m2⟩)
 by_cases m3 : x1.int = 3
 ·have hl := Qf x0.int x1.int x2.int x3.int y0.int y1.int y2.int y3.int w (i := 2) (v := .func (.func 56) #[] #[]) (by rw [m3]; kernel_rfl)
  refine Hr Jw rfl Jx rfl rfl (fun e l => ⟨[], [], rfl, trivial, trivial⟩) n x0 x1 x2 x3 y0 y1 y2 y3 rfl (fun e h1 h3 => ?_) w hl
  obtain rfl := h1 0 n rfl
  obtain rfl := h1 1 x0 rfl
  obtain rfl := h1 2 x1 rfl
  obtain rfl := h1 3 x2 rfl
  obtain rfl := h1 4 x3 rfl
  obtain rfl := h1 5 y0 rfl
  obtain rfl := h1 6 y1 rfl
  obtain rfl := h1 7 y2 rfl
  obtain rfl := h1 8 y3 rfl
  exact H5 e h3 (by rw [Bool.and_eq_true]; exact ⟨hpre, decide_eq_true m3⟩)
 ·have hl := We x0.int x1.int x2.int x3.int y0.int y1.int y2.int y3.int w (by
   have q : ∀ k : Int, k ≠ x1.int → Instr.sameNow (.int .i64) (.int .i64 x1.int) (.int .i64 k) = some false := fun k hk => by
    simp [Instr.sameNow, Ne.symm hk]
   simp only [MS, kf, Instr.findNow, q 1 (Ne.symm m1), q 2 (Ne.symm m2), q 3 (Ne.symm m3)]
   )
  refine Hr LF rfl LG rfl rfl (fun e l => ⟨trivial, rfl, .inr rfl⟩) n x0 x1 x2 x3 y0 y1 y2 y3 rfl (fun e h1 h3 => ?_) w hl
  obtain rfl := h1 0 n rfl
  obtain rfl := h1 1 x0 rfl
  obtain rfl := h1 2 x1 rfl
  obtain rfl := h1 3 x2 rfl
  obtain rfl := h1 4 x3 rfl
  obtain rfl := h1 5 y0 rfl
  obtain rfl := h1 6 y1 rfl
  obtain rfl := h1 7 y2 rfl
  obtain rfl := h1 8 y3 rfl
  exact Jz e h3 (by
   rw [Bool.and_eq_true]
   refine ⟨hpre, ?_⟩
   show Day.noM (Day.ND.mk (e 1).int (e 2).int (e 3).int (e 4).int) = true
   simp [Day.noM, m1, m2, m3])
end Rx.S
namespace Rx.S
open Go Rx Go.Proofs
set_option maxRecDepth 100000
set_option maxHeartbeats 4000000
def C3 : DD := { f := 26, ps := [.c false [.int .i64], .c true [.int .i64, .int .i64, .int .i64, .int .i64]], rs := [(false, [.bool])], ok := fun _ => true }
noncomputable def HN : List (Nat × Func) := [(26, Try.f26)]
theorem LH : AD Try.prog HN := ⟨ZQ, trivial⟩
noncomputable def Q2 : Ctx := { As := As, eqs := eqs, fns := fun f => look f HN, ctr := [], lim := 30, big := [], lps := [] }
theorem N9 : XL Try.prog T Q2 where
 As := AM
 eqs := AY
 mixed := mixed
 ctr := Ak trivial
 fns := An LH
 big := Al trivial
 lps := Av rfl
theorem HO : AW Try.prog T C3 := AJ N9 AH (g := F8) (ls := [V 62]) (by kernel_rfl) (fun aq => by rw [show C3.f = 26 from rfl, X8]; rfl) fun aq e h1 h2 h3 => by
 subst h1
 rw [show C3.f = 26 from rfl, X8] at h2 ⊢
 obtain ⟨ho, hr⟩ := MT e h3 h2
 have r0 := hr
 refine ⟨trivial, ?_⟩
 show Aa [.bool] (Zl _).2 = Aa [.bool] [L.ev e (V 62)]
 exact (Iu r0 rfl)
def DC : DD := { f := 43, ps := [.c false [.int .i64], .c true [.int .i64, .int .i64, .int .i64, .int .i64], .c true [.int .i64, .int .i64, .int .i64, .int .i64]], rs := [(true, [.int .i64, .int .i64, .int .i64, .int .i64])], ok := fun _ => true }
noncomputable def GH : List (Nat × Func) := [(43, Try.f43), (46, Try.f46), (61, Try.f61), (47, Try.f47), (49, Try.f49), (66, Try.f66), (62, Try.f62), (63, Try.f63), (48, Try.f48)]
theorem KS : AD Try.prog GH := ⟨Aaq, ZT, Aaz, Aat, Aau, ZW, AaA, AaB, ZU, trivial⟩
noncomputable def Qr : Ctx := { As := As, eqs := eqs, fns := fun f => look f GH, ctr := [(66, Fi), (48, DA), (63, DV), (46, C4), (61, DW), (62, DX)], lim := 30, big := [], lps := [] }
theorem Na : XL Try.prog T Qr where
 As := AM
 eqs := AY
 mixed := mixed
 ctr := Ak ⟨⟨rfl, LK⟩, ⟨rfl, IW⟩, ⟨rfl, On⟩, ⟨rfl, HS⟩, ⟨rfl, Oq⟩, ⟨rfl, Ou⟩, trivial⟩
 fns := An KS
 big := Al trivial
 lps := Av rfl
theorem Nb : AW Try.prog T DC := AJ Na AH (g := Fl) (ls := [V 1, V 62, V 63, V 64]) (by kernel_rfl) (fun aq => by rw [show DC.f = 43 from rfl, X3]; rfl) fun aq e h1 h2 h3 => by
 subst h1
 rw [show DC.f = 43 from rfl, X3] at h2 ⊢
 obtain ⟨ho, hr⟩ := LR e h3 _ rfl h2
 obtain ⟨r0, r1, r2, r3⟩ := hr
 refine ⟨⟨ho.1, ho.2.1, ho.2.2.1, ho.2.2.2.1, ho.2.2.2.2.1, ho.2.2.2.2.2, trivial⟩, ?_⟩
 show Aa [.int .i64, .int .i64, .int .i64, .int .i64] (Zg _).2 = Aa [.int .i64, .int .i64, .int .i64, .int .i64] [L.ev e (V 1), L.ev e (V 62), L.ev e (V 63), L.ev e (V 64)]
 exact (AS r0 (AS r1 (AS r2 (AS r3 rfl))))
def CU : DD := { f := 30, ps := [.c false [.int .i64], .c true [.int .i64, .int .i64, .int .i64, .int .i64], .c true [.int .i64, .int .i64, .int .i64, .int .i64]], rs := [(true, [.int .i64, .int .i64, .int .i64, .int .i64]), (false, [.int .i64])], ok := fun _ => true }
noncomputable def I0 : List (Nat × Func) := [(30, Try.f30), (29, Try.f29), (43, Try.f43), (44, Try.f44), (45, Try.f45), (46, Try.f46), (48, Try.f48), (47, Try.f47), (49, Try.f49), (66, Try.f66)]
theorem Nc : AD Try.prog I0 := ⟨ZR, V5, Aaq, Aar, Aas, ZT, ZU, Aat, Aau, ZW, trivial⟩
noncomputable def Te : Ctx := { As := As, eqs := eqs, fns := fun f => look f I0, ctr := [(66, Fi), (48, DA), (29, BF), (44, Hv), (45, EI), (46, C4), (43, DC)], lim := 30, big := [], lps := [] }
theorem Qs : XL Try.prog T Te where
 As := AM
 eqs := AY
 mixed := mixed
 ctr := Ak ⟨⟨rfl, LK⟩, ⟨rfl, IW⟩, ⟨rfl, Cr⟩, ⟨rfl, Tc⟩, ⟨rfl, Qq⟩, ⟨rfl, HS⟩, ⟨rfl, Nb⟩, trivial⟩
 fns := An Nc
 big := Al trivial
 lps := Av rfl
theorem Fm : AW Try.prog T CU := AJ Qs AH (g := Hs) (ls := [V 98, V 99, V 100, V 101, V 97]) (by kernel_rfl) (fun aq => by rw [show CU.f = 30 from rfl, X4]; rfl) fun aq e h1 h2 h3 => by
 subst h1
 rw [show CU.f = 30 from rfl, X4] at h2 ⊢
 obtain ⟨ho, hr⟩ := Ob e h3 _ rfl h2
 obtain ⟨r0, r1, r2, r3, r4⟩ := hr
 refine ⟨⟨ho.1, ho.2.1, ho.2.2.1, ho.2.2.2.1, ho.2.2.2.2.1, ho.2.2.2.2.2.1, ho.2.2.2.2.2.2.1, ho.2.2.2.2.2.2.2, trivial⟩, ?_⟩
 show Aa [.int .i64, .int .i64, .int .i64, .int .i64, .int .i64] (Zh _).2 = Aa [.int .i64, .int .i64, .int .i64, .int .i64, .int .i64] [L.ev e (V 98), L.ev e (V 99), L.ev e (V 100), L.ev e (V 101), L.ev e (V 97)]
 exact (AS r0 (AS r1 (AS r2 (AS r3 (AS r4 rfl)))))
def FQ : DD := { f := 31, ps := [.c false [.int .i64], .c true [.int .i64, .int .i64, .int .i64, .int .i64], .c false [.int .i64]], rs := [(true, [.int .i64, .int .i64, .int .i64, .int .i64]), (false, [.int .i64])], ok := fun _ => true }
noncomputable def Gg : List (Nat × Func) := [(31, Try.f31), (28, Try.f28)]
theorem HX : AD Try.prog Gg := ⟨Aao, SK, trivial⟩
noncomputable def J8 : Ctx := { As := As, eqs := eqs, fns := fun f => look f Gg, ctr := [(28, CO)], lim := 30, big := [], lps := [] }
theorem Ov : XL Try.prog T J8 where
 As := AM
 eqs := AY
 mixed := mixed
 ctr := Ak ⟨⟨rfl, CT⟩, trivial⟩
 fns := An HX
 big := Al trivial
 lps := Av rfl
theorem Wf : ∀ fn body c, J8.fns Hx.f = some fn → fn.body = some body → Eo Hx.p body = some (.loop c) → Ei Try.prog T Hx c :=
 Vv Ov AH (g := LZ) (back := some (V 19, [V 0, V 1, V 2, V 3, V 4, V 5, V 6, V 7, V 8, V 9, V 10, V 11, V 12, V 13, V 28, V 22, V 23, V 24, V 25])) (exs := [(V 20, [some (V 15), some (V 16), some (V 17), some (V 18)])]) (by kernel_rfl) (fun aq => by rw [show Hx.id = 1650 from rfl, PJ]; rfl) UW fun aq e h1 h2 h3 => by
  rw [show Hx.id = 1650 from rfl, PJ] at h2 ⊢
  exact UX aq e h1 h2 h3
noncomputable def T6 : Ctx := { As := As, eqs := eqs, fns := fun f => look f Gg, ctr := [(28, CO)], lim := 30, big := [], lps := [Hx] }
theorem Rg : XL Try.prog T T6 where
 As := AM
 eqs := AY
 mixed := mixed
 ctr := Ak ⟨⟨rfl, CT⟩, trivial⟩
 fns := An HX
 big := Al trivial
 lps := TW ⟨Wf, trivial⟩
theorem Rh : AW Try.prog T FQ := AJ Rg AH (g := I1) (ls := [V 47, V 48, V 49, V 50, V 42]) (by kernel_rfl) (fun aq => by rw [show FQ.f = 31 from rfl, X6]; rfl) fun aq e h1 h2 h3 => by
 subst h1
 rw [show FQ.f = 31 from rfl, X6] at h2 ⊢
 obtain ⟨ho, hr⟩ := Qt e h3 _ rfl h2
 obtain ⟨r0, r1, r2, r3, r4⟩ := hr
 refine ⟨⟨ho.1, ho.2, trivial⟩, ?_⟩
 show Aa [.int .i64, .int .i64, .int .i64, .int .i64, .int .i64] (Zj _).2 = Aa [.int .i64, .int .i64, .int .i64, .int .i64, .int .i64] [L.ev e (V 47), L.ev e (V 48), L.ev e (V 49), L.ev e (V 50), L.ev e (V 42)]
 exact (AS r0 (AS r1 (AS r2 (AS r3 (AS r4 rfl)))))
def DY : DD := { f := 32, ps := [.c false [.int .i64], .c true [.int .i64, .int .i64, .int .i64, .int .i64], .c false [.int .i64]], rs := [(true, [.int .i64, .int .i64, .int .i64, .int .i64]), (false, [.int .i64])], ok := fun _ => true }
noncomputable def En : List (Nat × Func) := [(32, Try.f32), (30, Try.f30)]
theorem FR : AD Try.prog En := ⟨Aap, ZR, trivial⟩
noncomputable def HY : Ctx := { As := As, eqs := eqs, fns := fun f => look f En, ctr := [(30, CU)], lim := 30, big := [], lps := [] }
theorem L1 : XL Try.prog T HY where
 As := AM
 eqs := AY
 mixed := mixed
 ctr := Ak ⟨⟨rfl, Fm⟩, trivial⟩
 fns := An FR
 big := Al trivial
 lps := Av rfl
theorem Wg : ∀ fn body c, HY.fns Hy.f = some fn → fn.body = some body → Eo Hy.p body = some (.loop c) → Ei Try.prog T Hy c :=
 Vv L1 AH (g := L0) (back := some (V 19, [V 0, V 1, V 2, V 3, V 4, V 5, V 6, V 28, V 8, V 9, V 10, V 11, V 12, V 13, V 14, V 22, V 23, V 24, V 25])) (exs := [(V 20, [some (V 15), some (V 16), some (V 17), some (V 18)])]) (by kernel_rfl) (fun aq => by rw [show Hy.id = 1660 from rfl, PK]; rfl) UY fun aq e h1 h2 h3 => by
  rw [show Hy.id = 1660 from rfl, PK] at h2 ⊢
  exact UZ aq e h1 h2 h3
noncomputable def Ri : Ctx := { As := As, eqs := eqs, fns := fun f => look f En, ctr := [(30, CU)], lim := 30, big := [], lps := [Hy] }
theorem Ow : XL Try.prog T Ri where
 As := AM
 eqs := AY
 mixed := mixed
 ctr := Ak ⟨⟨rfl, Fm⟩, trivial⟩
 fns := An FR
 big := Al trivial
 lps := TW ⟨Wg, trivial⟩
theorem Ox : AW Try.prog T DY := AJ Ow AH (g := Gh) (ls := [V 47, V 48, V 49, V 50, V 42]) (by kernel_rfl) (fun aq => by rw [show DY.f = 32 from rfl, X7]; rfl) fun aq e h1 h2 h3 => by
 subst h1
 rw [show DY.f = 32 from rfl, X7] at h2 ⊢
 obtain ⟨ho, hr⟩ := Nf e h3 _ rfl h2
 obtain ⟨r0, r1, r2, r3, r4⟩ := hr
 refine ⟨⟨ho.1, ho.2, trivial⟩, ?_⟩
 show Aa [.int .i64, .int .i64, .int .i64, .int .i64, .int .i64] (Zk _).2 = Aa [.int .i64, .int .i64, .int .i64, .int .i64, .int .i64] [L.ev e (V 47), L.ev e (V 48), L.ev e (V 49), L.ev e (V 50), L.ev e (V 42)]
 exact (AS r0 (AS r1 (AS r2 (AS r3 (AS r4 rfl)))))
end Rx.S
