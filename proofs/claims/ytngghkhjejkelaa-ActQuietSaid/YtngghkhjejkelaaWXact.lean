import Derived.Test.YtngghkhjejkelaaWXc
import Derived.Test.YtngghkhjejkelaaWXe
import Derived.Test.YtngghkhjejkelaaWXm
import Derived.Test.YtngghkhjejkelaaWXconf
import Derived.Test.YtngghkhjejkelaaWXhear
import Derived.Test.YtngghkhjejkelaaWXring
import Derived.Test.YtngghkhjejkelaaWXtally
import Derived.Test.YtngghkhjejkelaaWXnode
import Derived.Test.YtngghkhjejkelaaWXsay
import Derived.Test.YtngghkhjejkelaaWYact
import Derived.Test.YtngghkhjejkelaaProg
import Derived.WalkKit
import Derived.KernelRfl
import Derived.Deep.RegionWith
import Derived.Deep.QuietTactic
set_option linter.unusedVariables false
set_option linter.unusedSimpArgs false
namespace Rx.S
open Go Rx Go.Proofs
set_option maxRecDepth 100000
set_option maxHeartbeats 4000000
noncomputable def DC : List (Nat × Func) := [(28, Try.f28), (40, Try.f40), (41, Try.f41), (42, Try.f42), (54, Try.f54), (68, Try.f68), (69, Try.f69), (70, Try.f70), (71, Try.f71), (75, Try.f75), (72, Try.f72), (86, Try.f86)]
theorem Gz : A1 Try.prog DC := ⟨Ss, Ux, Su, TJ, WD, Vt, Uy, V1, Vu, Uz, Vv, UA, trivial⟩
noncomputable def EK : Ctx := { Aw := Aw, eqs := eqs, fns := fun f => look f DC, ctr := [(86, Da), (75, CP), (41, Bq), (42, Ei), (68, Du), (69, Ci)], lim := 30, big := [], lps := [] }
theorem HM : XL Try.prog T EK where
 Aw := BC
 eqs := BM
 mixed := mixed
 ctr := Au ⟨⟨rfl, F6⟩, ⟨rfl, E4⟩, ⟨rfl, Ce⟩, ⟨rfl, Gd⟩, ⟨rfl, Ip⟩, ⟨rfl, Ej⟩, trivial⟩
 fns := AB Gz
 big := Av trivial
 lps := AR rfl
def I4 : St := ⟨SD 50 [(0, .pv (.one (.k (.int .i64 (V 0))))), (1, .pv (.agg [.k (.int .i64 (V 1)), .k (.int .i64 (V 2)), .k (.int .i64 (V 3)), .k (.int .i64 (V 4))])), (2, .pv (.agg [.k (.int .i64 (V 5)), .k (.int .i64 (V 6)), .k (.int .i64 (V 7)), .k (.int .i64 (V 8))])), (4, .pv (.one (.k (.ptr 0 0)))), (5, .pv (.one (.k (.ptr 1 0)))), (6, .pv (.one (.k (.ptr 2 0)))), (7, .pv (.one (.k (.int .i64 (N 0))))), (8, .pv (.one (.clo 54 [] []))), (9, .pv (.one (.k (.bool (B true)))))], [⟨true, 46, 4, [.k (.int .i64 (V 1)), .k (.int .i64 (V 2)), .k (.int .i64 (V 3)), .k (.int .i64 (V 4))], none⟩, ⟨true, 47, 4, [.k (.int .i64 (V 5)), .k (.int .i64 (V 6)), .k (.int .i64 (V 7)), .k (.int .i64 (V 8))], none⟩, ⟨true, 46, 4, [.k (.int .i64 (N 0)), .k (.int .i64 (N 0)), .k (.int .i64 (N 0)), .k (.int .i64 (N 0))], none⟩], B true⟩
theorem HN : MU ws EK 28 [true, true] I4 9 [(true, [.int .i64, .int .i64, .int .i64, .int .i64]), (false, [.int .i64])] Bp [V 50, V 51, V 52, V 53, V 49] = true := by kernel_rfl
theorem GA (e : Nat → A) (H : Ak T e Bp.defs) (hp : (Day.ND.i64 (Day.ND.mk (e 1).int (e 2).int (e 3).int (e 4).int) && Day.A4 (e 0).int (Day.Fr.mk (e 5).int (e 6).int) (Day.Fr.mk (e 7).int (e 8).int) && Day.UC (Day.ND.mk (e 1).int (e 2).int (e 3).int (e 4).int) 1) = true) :
  Ee e Bp.obs ∧ Ab [.int .i64, .int .i64, .int .i64, .int .i64, .int .i64] [.i (((Day.AZ (e 0).int (Day.ND.mk (e 1).int (e 2).int (e 3).int (e 4).int) (Day.Fr.mk (e 5).int (e 6).int) (Day.Fr.mk (e 7).int (e 8).int))).id), .i (((Day.AZ (e 0).int (Day.ND.mk (e 1).int (e 2).int (e 3).int (e 4).int) (Day.Fr.mk (e 5).int (e 6).int) (Day.Fr.mk (e 7).int (e 8).int))).mode), .i (((Day.AZ (e 0).int (Day.ND.mk (e 1).int (e 2).int (e 3).int (e 4).int) (Day.Fr.mk (e 5).int (e 6).int) (Day.Fr.mk (e 7).int (e 8).int))).count), .i (((Day.AZ (e 0).int (Day.ND.mk (e 1).int (e 2).int (e 3).int (e 4).int) (Day.Fr.mk (e 5).int (e 6).int) (Day.Fr.mk (e 7).int (e 8).int))).pos), .i (Day.B7 (e 0).int (Day.ND.mk (e 1).int (e 2).int (e 3).int (e 4).int))] = Ab [.int .i64, .int .i64, .int .i64, .int .i64, .int .i64] ([V 50, V 51, V 52, V 53, V 49].map (L.ev e)) := by
 obtain ⟨ho, hr⟩ := G6 e H _ rfl hp
 obtain ⟨r0, r1, r2, r3, r4⟩ := hr
 refine ⟨⟨ho.1, ho.2.1, ho.2.2.1, ho.2.2.2.1, ho.2.2.2.2.1, ho.2.2.2.2.2, trivial⟩, ?_⟩
 exact (Bg r0 (Bg r1 (Bg r2 (Bg r3 (Bg r4 rfl)))))
noncomputable def EL : List (Nat × Func) := [(28, Try.f28), (40, Try.f40), (41, Try.f41), (42, Try.f42), (55, Try.f55), (68, Try.f68), (69, Try.f69), (70, Try.f70), (71, Try.f71), (75, Try.f75), (72, Try.f72), (86, Try.f86)]
theorem HO : A1 Try.prog EL := ⟨Ss, Ux, Su, TJ, WE, Vt, Uy, V1, Vu, Uz, Vv, UA, trivial⟩
noncomputable def Gt : Ctx := { Aw := Aw, eqs := eqs, fns := fun f => look f EL, ctr := [(86, Da), (75, CP), (41, Bq), (42, Ei), (68, Du), (69, Ci)], lim := 30, big := [], lps := [] }
theorem JP : XL Try.prog T Gt where
 Aw := BC
 eqs := BM
 mixed := mixed
 ctr := Au ⟨⟨rfl, F6⟩, ⟨rfl, E4⟩, ⟨rfl, Ce⟩, ⟨rfl, Gd⟩, ⟨rfl, Ip⟩, ⟨rfl, Ej⟩, trivial⟩
 fns := AB HO
 big := Av trivial
 lps := AR rfl
def KA : St := ⟨SD 50 [(0, .pv (.one (.k (.int .i64 (V 0))))), (1, .pv (.agg [.k (.int .i64 (V 1)), .k (.int .i64 (V 2)), .k (.int .i64 (V 3)), .k (.int .i64 (V 4))])), (2, .pv (.agg [.k (.int .i64 (V 5)), .k (.int .i64 (V 6)), .k (.int .i64 (V 7)), .k (.int .i64 (V 8))])), (4, .pv (.one (.k (.ptr 0 0)))), (5, .pv (.one (.k (.ptr 1 0)))), (6, .pv (.one (.k (.ptr 2 0)))), (7, .pv (.one (.k (.int .i64 (N 0))))), (8, .pv (.one (.clo 55 [] []))), (9, .pv (.one (.k (.bool (B true)))))], [⟨true, 46, 4, [.k (.int .i64 (V 1)), .k (.int .i64 (V 2)), .k (.int .i64 (V 3)), .k (.int .i64 (V 4))], none⟩, ⟨true, 47, 4, [.k (.int .i64 (V 5)), .k (.int .i64 (V 6)), .k (.int .i64 (V 7)), .k (.int .i64 (V 8))], none⟩, ⟨true, 46, 4, [.k (.int .i64 (N 0)), .k (.int .i64 (N 0)), .k (.int .i64 (N 0)), .k (.int .i64 (N 0))], none⟩], B true⟩
theorem JQ : MU ws Gt 28 [true, true] KA 9 [(true, [.int .i64, .int .i64, .int .i64, .int .i64]), (false, [.int .i64])] BO [V 53, V 54, V 55, V 56, V 52] = true := by kernel_rfl
theorem HP (e : Nat → A) (H : Ak T e BO.defs) (hp : (Day.ND.i64 (Day.ND.mk (e 1).int (e 2).int (e 3).int (e 4).int) && Day.A4 (e 0).int (Day.Fr.mk (e 5).int (e 6).int) (Day.Fr.mk (e 7).int (e 8).int) && Day.UC (Day.ND.mk (e 1).int (e 2).int (e 3).int (e 4).int) 2) = true) :
  Ee e BO.obs ∧ Ab [.int .i64, .int .i64, .int .i64, .int .i64, .int .i64] [.i (((Day.AZ (e 0).int (Day.ND.mk (e 1).int (e 2).int (e 3).int (e 4).int) (Day.Fr.mk (e 5).int (e 6).int) (Day.Fr.mk (e 7).int (e 8).int))).id), .i (((Day.AZ (e 0).int (Day.ND.mk (e 1).int (e 2).int (e 3).int (e 4).int) (Day.Fr.mk (e 5).int (e 6).int) (Day.Fr.mk (e 7).int (e 8).int))).mode), .i (((Day.AZ (e 0).int (Day.ND.mk (e 1).int (e 2).int (e 3).int (e 4).int) (Day.Fr.mk (e 5).int (e 6).int) (Day.Fr.mk (e 7).int (e 8).int))).count), .i (((Day.AZ (e 0).int (Day.ND.mk (e 1).int (e 2).int (e 3).int (e 4).int) (Day.Fr.mk (e 5).int (e 6).int) (Day.Fr.mk (e 7).int (e 8).int))).pos), .i (Day.B7 (e 0).int (Day.ND.mk (e 1).int (e 2).int (e 3).int (e 4).int))] = Ab [.int .i64, .int .i64, .int .i64, .int .i64, .int .i64] ([V 53, V 54, V 55, V 56, V 52].map (L.ev e)) := by
 obtain ⟨ho, hr⟩ := I5 e H _ rfl hp
 obtain ⟨r0, r1, r2, r3, r4⟩ := hr
 refine ⟨⟨ho.1, ho.2.1, ho.2.2.1, ho.2.2.2.1, ho.2.2.2.2.1, ho.2.2.2.2.2, trivial⟩, ?_⟩
 exact (Bg r0 (Bg r1 (Bg r2 (Bg r3 (Bg r4 rfl)))))
noncomputable def DD : List (Nat × Func) := [(28, Try.f28), (40, Try.f40), (41, Try.f41), (42, Try.f42), (56, Try.f56), (73, Try.f73), (71, Try.f71), (69, Try.f69), (72, Try.f72), (86, Try.f86), (74, Try.f74), (75, Try.f75), (76, Try.f76)]
theorem GB : A1 Try.prog DD := ⟨Ss, Ux, Su, TJ, WG, V2, Vu, Uy, Vv, UA, V3, Uz, V4, trivial⟩
noncomputable def EM : Ctx := { Aw := Aw, eqs := eqs, fns := fun f => look f DD, ctr := [(86, Da), (75, CP), (76, DO), (41, Bq), (42, Ei), (69, Ci), (73, DP), (74, DQ)], lim := 30, big := [], lps := [] }
theorem HQ : XL Try.prog T EM where
 Aw := BC
 eqs := BM
 mixed := mixed
 ctr := Au ⟨⟨rfl, F6⟩, ⟨rfl, E4⟩, ⟨rfl, Nb⟩, ⟨rfl, Ce⟩, ⟨rfl, Gd⟩, ⟨rfl, Ej⟩, ⟨rfl, Nf⟩, ⟨rfl, Nh⟩, trivial⟩
 fns := AB GB
 big := Av trivial
 lps := AR rfl
def I6 : St := ⟨SD 50 [(0, .pv (.one (.k (.int .i64 (V 0))))), (1, .pv (.agg [.k (.int .i64 (V 1)), .k (.int .i64 (V 2)), .k (.int .i64 (V 3)), .k (.int .i64 (V 4))])), (2, .pv (.agg [.k (.int .i64 (V 5)), .k (.int .i64 (V 6)), .k (.int .i64 (V 7)), .k (.int .i64 (V 8))])), (4, .pv (.one (.k (.ptr 0 0)))), (5, .pv (.one (.k (.ptr 1 0)))), (6, .pv (.one (.k (.ptr 2 0)))), (7, .pv (.one (.k (.int .i64 (N 0))))), (8, .pv (.one (.clo 56 [] []))), (9, .pv (.one (.k (.bool (B true)))))], [⟨true, 46, 4, [.k (.int .i64 (V 1)), .k (.int .i64 (V 2)), .k (.int .i64 (V 3)), .k (.int .i64 (V 4))], none⟩, ⟨true, 47, 4, [.k (.int .i64 (V 5)), .k (.int .i64 (V 6)), .k (.int .i64 (V 7)), .k (.int .i64 (V 8))], none⟩, ⟨true, 46, 4, [.k (.int .i64 (N 0)), .k (.int .i64 (N 0)), .k (.int .i64 (N 0)), .k (.int .i64 (N 0))], none⟩], B true⟩
theorem HR : MU ws EM 28 [true, true] I6 9 [(true, [.int .i64, .int .i64, .int .i64, .int .i64]), (false, [.int .i64])] Br [V 71, V 72, V 73, V 74, V 70] = true := by kernel_rfl
theorem GC (e : Nat → A) (H : Ak T e Br.defs) (hp : (Day.ND.i64 (Day.ND.mk (e 1).int (e 2).int (e 3).int (e 4).int) && Day.A4 (e 0).int (Day.Fr.mk (e 5).int (e 6).int) (Day.Fr.mk (e 7).int (e 8).int) && Day.UC (Day.ND.mk (e 1).int (e 2).int (e 3).int (e 4).int) 3) = true) :
  Ee e Br.obs ∧ Ab [.int .i64, .int .i64, .int .i64, .int .i64, .int .i64] [.i (((Day.AZ (e 0).int (Day.ND.mk (e 1).int (e 2).int (e 3).int (e 4).int) (Day.Fr.mk (e 5).int (e 6).int) (Day.Fr.mk (e 7).int (e 8).int))).id), .i (((Day.AZ (e 0).int (Day.ND.mk (e 1).int (e 2).int (e 3).int (e 4).int) (Day.Fr.mk (e 5).int (e 6).int) (Day.Fr.mk (e 7).int (e 8).int))).mode), .i (((Day.AZ (e 0).int (Day.ND.mk (e 1).int (e 2).int (e 3).int (e 4).int) (Day.Fr.mk (e 5).int (e 6).int) (Day.Fr.mk (e 7).int (e 8).int))).count), .i (((Day.AZ (e 0).int (Day.ND.mk (e 1).int (e 2).int (e 3).int (e 4).int) (Day.Fr.mk (e 5).int (e 6).int) (Day.Fr.mk (e 7).int (e 8).int))).pos), .i (Day.B7 (e 0).int (Day.ND.mk (e 1).int (e 2).int (e 3).int (e 4).int))] = Ab [.int .i64, .int .i64, .int .i64, .int .i64, .int .i64] ([V 71, V 72, V 73, V 74, V 70].map (L.ev e)) := by
 obtain ⟨ho, hr⟩ := Hg e H _ rfl hp
 obtain ⟨r0, r1, r2, r3, r4⟩ := hr
 refine ⟨⟨ho.1, ho.2.1, ho.2.2.1, ho.2.2.2.1, ho.2.2.2.2.1, ho.2.2.2.2.2.1, ho.2.2.2.2.2.2.1, ho.2.2.2.2.2.2.2, trivial⟩, ?_⟩
 exact (Bg r0 (Bg r1 (Bg r2 (Bg r3 (Bg r4 rfl)))))
noncomputable def EN : List (Nat × Func) := [(28, Try.f28), (40, Try.f40), (41, Try.f41), (42, Try.f42)]
theorem HS : A1 Try.prog EN := ⟨Ss, Ux, Su, TJ, trivial⟩
noncomputable def Gu : Ctx := { Aw := Aw, eqs := eqs, fns := fun f => look f EN, ctr := [(41, Bq), (42, Ei)], lim := 30, big := [], lps := [] }
theorem JR : XL Try.prog T Gu where
 Aw := BC
 eqs := BM
 mixed := mixed
 ctr := Au ⟨⟨rfl, Ce⟩, ⟨rfl, Gd⟩, trivial⟩
 fns := AB HS
 big := Av trivial
 lps := AR rfl
def KE : St := ⟨SD 50 [(0, .pv (.one (.k (.int .i64 (V 0))))), (1, .pv (.agg [.k (.int .i64 (V 1)), .k (.int .i64 (V 2)), .k (.int .i64 (V 3)), .k (.int .i64 (V 4))])), (2, .pv (.agg [.k (.int .i64 (V 5)), .k (.int .i64 (V 6)), .k (.int .i64 (V 7)), .k (.int .i64 (V 8))])), (4, .pv (.one (.k (.ptr 0 0)))), (5, .pv (.one (.k (.ptr 1 0)))), (6, .pv (.one (.k (.ptr 2 0)))), (7, .pv (.one (.k (.int .i64 (N 0))))), (8, .pv (.one (.k .nilfn))), (9, .pv (.one (.k (.bool (B false)))))], [⟨true, 46, 4, [.k (.int .i64 (V 1)), .k (.int .i64 (V 2)), .k (.int .i64 (V 3)), .k (.int .i64 (V 4))], none⟩, ⟨true, 47, 4, [.k (.int .i64 (V 5)), .k (.int .i64 (V 6)), .k (.int .i64 (V 7)), .k (.int .i64 (V 8))], none⟩, ⟨true, 46, 4, [.k (.int .i64 (N 0)), .k (.int .i64 (N 0)), .k (.int .i64 (N 0)), .k (.int .i64 (N 0))], none⟩], B true⟩
theorem JS : MU ws Gu 28 [true, true] KE 9 [(true, [.int .i64, .int .i64, .int .i64, .int .i64]), (false, [.int .i64])] CA [N 0, N 0, N 0, N 0, N 1] = true := by kernel_rfl
theorem HT (e : Nat → A) (H : Ak T e CA.defs) (hp : (Day.ND.i64 (Day.ND.mk (e 1).int (e 2).int (e 3).int (e 4).int) && Day.A4 (e 0).int (Day.Fr.mk (e 5).int (e 6).int) (Day.Fr.mk (e 7).int (e 8).int) && Day.Wc (Day.ND.mk (e 1).int (e 2).int (e 3).int (e 4).int)) = true) :
  Ee e CA.obs ∧ Ab [.int .i64, .int .i64, .int .i64, .int .i64, .int .i64] [.i (((Day.AZ (e 0).int (Day.ND.mk (e 1).int (e 2).int (e 3).int (e 4).int) (Day.Fr.mk (e 5).int (e 6).int) (Day.Fr.mk (e 7).int (e 8).int))).id), .i (((Day.AZ (e 0).int (Day.ND.mk (e 1).int (e 2).int (e 3).int (e 4).int) (Day.Fr.mk (e 5).int (e 6).int) (Day.Fr.mk (e 7).int (e 8).int))).mode), .i (((Day.AZ (e 0).int (Day.ND.mk (e 1).int (e 2).int (e 3).int (e 4).int) (Day.Fr.mk (e 5).int (e 6).int) (Day.Fr.mk (e 7).int (e 8).int))).count), .i (((Day.AZ (e 0).int (Day.ND.mk (e 1).int (e 2).int (e 3).int (e 4).int) (Day.Fr.mk (e 5).int (e 6).int) (Day.Fr.mk (e 7).int (e 8).int))).pos), .i (Day.B7 (e 0).int (Day.ND.mk (e 1).int (e 2).int (e 3).int (e 4).int))] = Ab [.int .i64, .int .i64, .int .i64, .int .i64, .int .i64] ([N 0, N 0, N 0, N 0, N 1].map (L.ev e)) := by
 obtain ⟨ho, hr⟩ := I7 e H _ rfl hp
 obtain ⟨r0, r1, r2, r3, r4⟩ := hr
 refine ⟨trivial, ?_⟩
 exact (Bg r0 (Bg r1 (Bg r2 (Bg r3 (Bg r4 rfl)))))
end Rx.S
namespace Rx.S
open Go Rx Go.Proofs Go.RowKit
set_option maxRecDepth 100000
def kf (k : Int) (f : Nat) (i : Nat) : MapEntry := { key := .int .i64 k, val := .func (.func f) #[] #[], born := i }
def MS : Array MapEntry := #[kf 1 54 0, kf 2 55 1, kf 3 56 2]
theorem Wf (w : World) : (Instr.mapUpdate 73 (.map (some w.heap.size)) (.int .i64 1) (.func (.func 54) #[] #[])).run Try.prog (w.alloc (.map #[] 0)) = .ok () (w.alloc (.map #[kf 1 54 0] 1)) :=
 AM w (t := 73) (k := 3) (e := 71) Try.underlying73 #[] 0 _ _ Try.underlying3 (by simp [MapKept.IsKey]) (by kernel_rfl)
theorem Wg (w : World) : (Instr.mapUpdate 73 (.map (some w.heap.size)) (.int .i64 2) (.func (.func 55) #[] #[])).run Try.prog (w.alloc (.map #[kf 1 54 0] 1)) = .ok () (w.alloc (.map #[kf 1 54 0, kf 2 55 1] 2)) :=
 AM w (t := 73) (k := 3) (e := 71) Try.underlying73 #[kf 1 54 0] 1 _ _ Try.underlying3 (by simp [MapKept.IsKey]) (by kernel_rfl)
theorem Wh (w : World) : (Instr.mapUpdate 73 (.map (some w.heap.size)) (.int .i64 3) (.func (.func 56) #[] #[])).run Try.prog (w.alloc (.map #[kf 1 54 0, kf 2 55 1] 2)) = .ok () (w.alloc (.map #[kf 1 54 0, kf 2 55 1, kf 3 56 2] 3)) :=
 AM w (t := 73) (k := 3) (e := 71) Try.underlying73 #[kf 1 54 0, kf 2 55 1] 2 _ _ Try.underlying3 (by simp [MapKept.IsKey]) (by kernel_rfl)
theorem Qt (w : World) : Calls Try.prog 40 #[] w fun e w' => e = .returned (.map (some w.heap.size)) ∧ w' = w.alloc (.map MS 3) := by
 have hmm := @run_makeMap Try.prog
 have h0 := Wf w
 have h1 := Wg w
 have h2 := Wh w
 go_enter Try.func40, Try.ntmps40
 go_wp2
 go_ret
 exact ⟨rfl, rfl⟩
def W3 (x0 x1 x2 x3 y0 y1 y2 y3 : Int) (w : World) : World := ((w.alloc (.cells #[.int .i64 x0, .int .i64 x1, .int .i64 x2, .int .i64 x3] 46)).alloc (.cells #[.int .i64 y0, .int .i64 y1, .int .i64 y2, .int .i64 y3] 47)).alloc (.cells #[.int .i64 0, .int .i64 0, .int .i64 0, .int .i64 0] 46)
def TM (n x0 x1 x2 x3 y0 y1 y2 y3 : Int) (b : Nat) (dv : Value) (okb : Bool) : Array Value := #[.int .i64 n, .agg #[.int .i64 x0, .int .i64 x1, .int .i64 x2, .int .i64 x3], .agg #[.int .i64 y0, .int .i64 y1, .int .i64 y2, .int .i64 y3], Go.undef,
 .pointer (some ⟨b, 0, none⟩), .pointer (some ⟨b + 1, 0, none⟩), .pointer (some ⟨b + 1 + 1, 0, none⟩), .int .i64 0, dv, .bool okb, Go.undef, Go.undef, Go.undef, .tuple #[dv, .bool okb], .map (some (b + 1 + 1 + 1)), .pointer (some ⟨b, 1, none⟩), .int .i64 x1, .tuple #[dv, .bool okb], dv, .bool okb,
 Go.undef, Go.undef, Go.undef, Go.undef, Go.undef, Go.undef, Go.undef, Go.undef, Go.undef, Go.undef, Go.undef, Go.undef, Go.undef, Go.undef, Go.undef, Go.undef, Go.undef, Go.undef, Go.undef, Go.undef, Go.undef, Go.undef, Go.undef, Go.undef, Go.undef, Go.undef, Go.undef, Go.undef, Go.undef, Go.undef]
theorem front (n x0 x1 x2 x3 y0 y1 y2 y3 : Int) (w : World) (dv : Value) (okb : Bool) (R : Ending → World → Prop)
  (hl : (Instr.lookup 73 (.map (some (w.heap.size + 1 + 1 + 1))) (.int .i64 x1) true).run Try.prog ((W3 x0 x1 x2 x3 y0 y1 y2 y3 w).alloc (.map MS 3)).drew = .ok (.tuple #[dv, .bool okb]) ((W3 x0 x1 x2 x3 y0 y1 y2 y3 w).alloc (.map MS 3)).drew)
  (hR : ∀ body rest, Try.f28.body = some body → Ec [true, true] body = some rest → Code.wp Try.prog rest (bodyPost Try.prog Try.f28 R) ⟨TM n x0 x1 x2 x3 y0 y1 y2 y3 w.heap.size dv okb, []⟩ ((W3 x0 x1 x2 x3 y0 y1 y2 y3 w).alloc (.map MS 3)).drew) :
  Calls Try.prog 28 #[.int .i64 n, .agg #[.int .i64 x0, .int .i64 x1, .int .i64 x2, .int .i64 x3], .agg #[.int .i64 y0, .int .i64 y1, .int .i64 y2, .int .i64 y3]] w R := by
 unfold W3 at hl hR
 go_enter Try.func28, Try.ntmps28
 refine WQ fun rest hrest => ?_
 have hR := hR _ rest rfl (by rw [hrest]; rfl)
 clear hrest
 go_wp2_with fail
 go_region_with (go_at_call 40; refine (Qt _).mono ?_; rintro e w' ⟨rfl, rfl⟩)
 all_goals go_wp2_with fail
 all_goals exact hR
end Rx.S
namespace Rx.S
open Go Rx Go.Proofs Go.RowKit
set_option maxRecDepth 100000
set_option maxHeartbeats 4000000
def Ek : GF := { f := 28, ps := [.c false [.int .i64], .c true [.int .i64, .int .i64, .int .i64, .int .i64], .c true [.int .i64, .int .i64, .int .i64, .int .i64]], rs := [(true, [.int .i64, .int .i64, .int .i64, .int .i64]), (false, [.int .i64])], ok := fun _ => true }
theorem Mc (w : World) (o : Obj) : (w.alloc o).heap.size = w.heap.size + 1 := Array.size_push ..
def L3 (b : Nat) : Loc := fun r => if r = 2 then .LY (b + 1 + 1) 0 1 4 else if r = 1 then .LY (b + 1) 0 1 4 else .LY b 0 1 4
def W5 (cv : C) (okb : Bool) : List SV := SD 50 [(0, .pv (.one (.k (.int .i64 (V 0))))), (1, .pv (.agg [.k (.int .i64 (V 1)), .k (.int .i64 (V 2)), .k (.int .i64 (V 3)), .k (.int .i64 (V 4))])), (2, .pv (.agg [.k (.int .i64 (V 5)), .k (.int .i64 (V 6)), .k (.int .i64 (V 7)), .k (.int .i64 (V 8))])), (4, .pv (.one (.k (.ptr 0 0)))), (5, .pv (.one (.k (.ptr 1 0)))), (6, .pv (.one (.k (.ptr 2 0)))), (7, .pv (.one (.k (.int .i64 (N 0))))), (8, .pv (.one cv)), (9, .pv (.one (.k (.bool (B okb)))))]
def RW : List Rx.Row := [⟨true, 46, 4, [.k (.int .i64 (V 1)), .k (.int .i64 (V 2)), .k (.int .i64 (V 3)), .k (.int .i64 (V 4))], none⟩, ⟨true, 47, 4, [.k (.int .i64 (V 5)), .k (.int .i64 (V 6)), .k (.int .i64 (V 7)), .k (.int .i64 (V 8))], none⟩, ⟨true, 46, 4, [.k (.int .i64 (N 0)), .k (.int .i64 (N 0)), .k (.int .i64 (N 0)), .k (.int .i64 (N 0))], none⟩]
theorem VA (e : Nat → A) (b : Nat) (dv : Value) (okb : Bool) (cv : C) (hcv : cv.rel e 3 (L3 b) dv) :
  Aj e 3 (L3 b) (W5 cv okb) (TM (e 0).int (e 1).int (e 2).int (e 3).int (e 4).int (e 5).int (e 6).int (e 7).int (e 8).int b dv okb) := by
 refine Aj.SD (by show 50 ≤ 50; exact Nat.le_refl _) fun x hx v hv => ?_
 simp only [List.mem_cons, List.not_mem_nil, or_false] at hx
 rcases hx with rfl | rfl | rfl | rfl | rfl | rfl | rfl | rfl | rfl <;> simp only [TM, List.getElem?_toArray, List.getElem?_cons_zero, List.getElem?_cons_succ, Option.some.injEq] at hv <;> subst hv
 ·exact A2 _
 ·exact ⟨_, rfl, A2 _, A2 _, A2 _, A2 _, trivial⟩
 ·exact ⟨_, rfl, A2 _, A2 _, A2 _, A2 _, trivial⟩
 ·exact FL (by decide) rfl
 ·exact FL (by decide) rfl
 ·exact FL (by decide) rfl
 ·exact G5 _
 ·exact hcv
 ·exact ⟨trivial, rfl, .inr rfl⟩
theorem U0 (e : Nat → A) (w : World) :
  A5 e ⟨w, fun _ => False⟩ (L3 w.heap.size) RW ((W3 (e 1).int (e 2).int (e 3).int (e 4).int (e 5).int (e 6).int (e 7).int (e 8).int w).alloc (.map MS 3)).drew := by
 have h1 := FN (A5.start e (L3 w.heap.size) w) (ty := 46) (es := 4) (cap := 1) (cells := [.k (.int .i64 (V 1)), .k (.int .i64 (V 2)), .k (.int .i64 (V 3)), .k (.int .i64 (V 4))]) (vs := [.int .i64 (e 1).int, .int .i64 (e 2).int, .int .i64 (e 3).int, .int .i64 (e 4).int]) (spare := []) ⟨A2 _, A2 _, A2 _, A2 _, trivial⟩ rfl (by decide)
 have h2 := FN h1 (ty := 47) (es := 4) (cap := 1) (cells := [.k (.int .i64 (V 5)), .k (.int .i64 (V 6)), .k (.int .i64 (V 7)), .k (.int .i64 (V 8))]) (vs := [.int .i64 (e 5).int, .int .i64 (e 6).int, .int .i64 (e 7).int, .int .i64 (e 8).int]) (spare := []) ⟨A2 _, A2 _, A2 _, A2 _, trivial⟩ rfl (by decide)
 have h3 := FN h2 (ty := 46) (es := 4) (cap := 1) (cells := [.k (.int .i64 (N 0)), .k (.int .i64 (N 0)), .k (.int .i64 (N 0)), .k (.int .i64 (N 0))]) (vs := [.int .i64 0, .int .i64 0, .int .i64 0, .int .i64 0]) (spare := []) ⟨G5 _, G5 _, G5 _, G5 _, trivial⟩ rfl (by decide)
 simp only [Mc] at h3
 have hL : (AA (AA (AA (L3 w.heap.size) ([] : List Rx.Row).length (.LY w.heap.size 0 1 4)) 1 (.LY (w.heap.size + 1) 0 1 4)) 2 (.LY (w.heap.size + 1 + 1) 0 1 4)) = L3 w.heap.size := by
  funext r
  show (if r = 2 then _ else if r = 1 then _ else if r = 0 then _ else L3 w.heap.size r) = L3 w.heap.size r
  unfold L3
  by_cases a : r = 2
  ·rw [if_pos a, if_pos a]
  ·rw [if_neg a, if_neg a]
   by_cases b : r = 1
   ·rw [if_pos b, if_pos b]
   ·rw [if_neg b, if_neg b]
    by_cases c : r = 0
    ·rw [if_pos c]
    ·rw [if_neg c]
     first | done | rw [if_neg a, if_neg b] | skip
 have h4 : A5 e ⟨w, fun _ => False⟩ (L3 w.heap.size) RW (W3 (e 1).int (e 2).int (e 3).int (e 4).int (e 5).int (e 6).int (e 7).int (e 8).int w) := by
  have := h3
  refine Eq.mp ?_ this
  exact congrArg (fun l => A5 e ⟨w, fun _ => False⟩ l RW (W3 (e 1).int (e 2).int (e 3).int (e 4).int (e 5).int (e 6).int (e 7).int (e 8).int w)) hL
 exact (h4.Fk ((Below.refl _ _).alloc (Nat.le_refl _) _)).Fk ⟨rfl, rfl, rfl, Nat.le_refl _, fun _ _ => rfl⟩
theorem Ni (x0 x1 x2 x3 y0 y1 y2 y3 : Int) (w : World) {i : Nat} {v : Value} (hf : Instr.findNow (.int .i64) (.int .i64 x1) MS.toList 0 = some (some (i, v))) :
  (Instr.lookup 73 (.map (some (w.heap.size + 1 + 1 + 1))) (.int .i64 x1) true).run Try.prog ((W3 x0 x1 x2 x3 y0 y1 y2 y3 w).alloc (.map MS 3)).drew = .ok (.tuple #[v, .bool true]) ((W3 x0 x1 x2 x3 y0 y1 y2 y3 w).alloc (.map MS 3)).drew := by
 have hb : (((W3 x0 x1 x2 x3 y0 y1 y2 y3 w).alloc (.map MS 3)).drew).heap[w.heap.size + 1 + 1 + 1]? = some (.map MS 3) := by
  have := Gb (W3 x0 x1 x2 x3 y0 y1 y2 y3 w) (.map MS 3)
  simp only [W3, Mc] at this
  exact this
 exact Hc _ (t := 73) (k := 3) (e := 71) Try.underlying73 hb _ Try.underlying3 (by simp [MapKept.IsKey]) hf true
theorem SA (x0 x1 x2 x3 y0 y1 y2 y3 : Int) (w : World) (hf : Instr.findNow (.int .i64) (.int .i64 x1) MS.toList 0 = some none) :
  (Instr.lookup 73 (.map (some (w.heap.size + 1 + 1 + 1))) (.int .i64 x1) true).run Try.prog ((W3 x0 x1 x2 x3 y0 y1 y2 y3 w).alloc (.map MS 3)).drew = .ok (.tuple #[.nilFunc, .bool false]) ((W3 x0 x1 x2 x3 y0 y1 y2 y3 w).alloc (.map MS 3)).drew := by
 have hb : (((W3 x0 x1 x2 x3 y0 y1 y2 y3 w).alloc (.map MS 3)).drew).heap[w.heap.size + 1 + 1 + 1]? = some (.map MS 3) := by
  have := Gb (W3 x0 x1 x2 x3 y0 y1 y2 y3 w) (.map MS 3)
  simp only [W3, Mc] at this
  exact this
 exact Li _ (t := 73) (k := 3) (e := 71) Try.underlying73 hb _ Try.underlying3 (by simp [MapKept.IsKey]) hf (by kernel_rfl) true
theorem Gi {X : Ctx} (hX : XL Try.prog T X) (h28 : X.fns 28 = some Try.f28) {cv : C} {okb : Bool} {g : G} {ls : List L} {dv : Value} {al out : List A}
  (h : MU ws X 28 [true, true] ⟨W5 cv okb, RW, B true⟩ 9 [(true, [.int .i64, .int .i64, .int .i64, .int .i64]), (false, [.int .i64])] g ls = true)
  (hlen : out.length = ls.length) (hkn : g.known = [])
  (hcv : ∀ (e : Nat → A) (l : Loc), cv.rel e 3 l dv)
  (n x0 x1 x2 x3 y0 y1 y2 y3 : A) (has : al = [n, x0, x1, x2, x3, y0, y1, y2, y3])
  (hpure : ∀ e : Nat → A, (∀ j a, al[j]? = some a → e j = a) → Ak T e g.defs → Ee e g.obs ∧ Ab [.int .i64, .int .i64, .int .i64, .int .i64, .int .i64] out = Ab [.int .i64, .int .i64, .int .i64, .int .i64, .int .i64] (ls.map (L.ev e)))
  (w : World)
  (hl : (Instr.lookup 73 (.map (some (w.heap.size + 1 + 1 + 1))) (.int .i64 x1.int) true).run Try.prog ((W3 x0.int x1.int x2.int x3.int y0.int y1.int y2.int y3.int w).alloc (.map MS 3)).drew = .ok (.tuple #[dv, .bool okb]) ((W3 x0.int x1.int x2.int x3.int y0.int y1.int y2.int y3.int w).alloc (.map MS 3)).drew) :
  Calls Try.prog 28 #[.int .i64 n.int, .agg #[.int .i64 x0.int, .int .i64 x1.int, .int .i64 x2.int, .int .i64 x3.int], .agg #[.int .i64 y0.int, .int .i64 y1.int, .int .i64 y2.int, .int .i64 y3.int]] w fun en w' => ∃ u, en = .returned u ∧ FQ [(true, [.int .i64, .int .i64, .int .i64, .int .i64]), (false, [.int .i64])] out u ∧ Below w.heap.size w w' := by
 subst has
 obtain ⟨e, fn, body, rest, h1, h2, h3, h4, h5⟩ := UZ hX Bj h («as» := [n, x0, x1, x2, x3, y0, y1, y2, y3]) rfl hlen hkn hpure
 rw [h28] at h2
 injection h2 with h2
 subst h2
 obtain rfl := h1 0 n rfl
 obtain rfl := h1 1 x0 rfl
 obtain rfl := h1 2 x1 rfl
 obtain rfl := h1 3 x2 rfl
 obtain rfl := h1 4 x3 rfl
 obtain rfl := h1 5 y0 rfl
 obtain rfl := h1 6 y1 rfl
 obtain rfl := h1 7 y2 rfl
 obtain rfl := h1 8 y3 rfl
 refine front _ _ _ _ _ _ _ _ _ w dv okb _ hl fun body' rest' hb hr => ?_
 rw [h3] at hb
 injection hb with hb
 subst hb
 rw [h4] at hr
 injection hr with hr
 subst hr
 exact h5 ⟨w, fun _ => False⟩ (L3 w.heap.size) _ _ _ (VA e w.heap.size dv okb cv (hcv e _)) (U0 e w) rfl fun u w' hu hb => ⟨u, rfl, hu, hb⟩
theorem Gj : Bz Try.prog T Ek := by
 intro lits al vs w hok hag hargs hpre
 have hpre : (UW al).1 = true := by rw [← T5]; exact hpre
 obtain ⟨v, vr, a1, a2, rfl, rfl, o1, v', vr', a3, a4, rfl, rfl, o2, v'', vr'', a5, a6, rfl, rfl, o3, hnil⟩ := hargs
 obtain ⟨rfl, rfl⟩ := hnil
 obtain ⟨l1, o1⟩ := o1
 obtain ⟨l2, o2⟩ := o2
 obtain ⟨l3, o3⟩ := o3
 rw [if_neg (by simp)] at o1
 rw [if_pos rfl] at o2 o3
 obtain ⟨s1, n, e1, rfl, rfl⟩ := o1
 simp only [List.cons.injEq, and_true] at e1
 subst e1
 obtain ⟨x0, x1, x2, x3, rfl⟩ : ∃ x0 x1 x2 x3, a3 = [x0, x1, x2, x3] := by
  match a3, l2 with
  | [x0, x1, x2, x3], _ => exact ⟨_, _, _, _, rfl⟩
 obtain ⟨y0, y1, y2, y3, rfl⟩ : ∃ y0 y1 y2 y3, a5 = [y0, y1, y2, y3] := by
  match a5, l3 with
  | [x0, x1, x2, x3], _ => exact ⟨_, _, _, _, rfl⟩
 subst o2 o3
 rw [show Ek.f = 28 from rfl, T5]
 have hp : ∀ (m : Bool), (∀ e : Nat → A, m = true → True) := fun _ _ _ => trivial
 by_cases m1 : x1.int = 1
 ·have hl := Ni x0.int x1.int x2.int x3.int y0.int y1.int y2.int y3.int w (i := 0) (v := .func (.func 54) #[] #[]) (by rw [m1]; kernel_rfl)
  refine Gi HM rfl HN rfl rfl (fun e l => ⟨[], [], rfl, trivial, trivial⟩) n x0 x1 x2 x3 y0 y1 y2 y3 rfl (fun e h1 h3 => ?_) w hl
  obtain rfl := h1 0 n rfl
  obtain rfl := h1 1 x0 rfl
  obtain rfl := h1 2 x1 rfl
  obtain rfl := h1 3 x2 rfl
  obtain rfl := h1 4 x3 rfl
  obtain rfl := h1 5 y0 rfl
  obtain rfl := h1 6 y1 rfl
  obtain rfl := h1 7 y2 rfl
  obtain rfl := h1 8 y3 rfl
  exact GA e h3 (by rw [Bool.and_eq_true]; exact ⟨hpre, decide_eq_true m1⟩)
 by_cases m2 : x1.int = 2
 ·have hl := Ni x0.int x1.int x2.int x3.int y0.int y1.int y2.int y3.int w (i := 1) (v := .func (.func 55) #[] #[]) (by rw [m2]; kernel_rfl)
  refine Gi JP rfl JQ rfl rfl (fun e l => ⟨[], [], rfl, trivial, trivial⟩) n x0 x1 x2 x3 y0 y1 y2 y3 rfl (fun e h1 h3 => ?_) w hl
  obtain rfl := h1 0 n rfl
  obtain rfl := h1 1 x0 rfl
  obtain rfl := h1 2 x1 rfl
  obtain rfl := h1 3 x2 rfl
  obtain rfl := h1 4 x3 rfl
  obtain rfl := h1 5 y0 rfl
  obtain rfl := h1 6 y1 rfl
  obtain rfl := h1 7 y2 rfl
  obtain rfl := h1 8 y3 rfl
  exact HP e h3 (by rw [Bool.and_eq_true]; exact ⟨hpre, decide_eq_true m2⟩)
 by_cases m3 : x1.int = 3
 ·have hl := Ni x0.int x1.int x2.int x3.int y0.int y1.int y2.int y3.int w (i := 2) (v := .func (.func 56) #[] #[]) (by rw [m3]; kernel_rfl)
  refine Gi HQ rfl HR rfl rfl (fun e l => ⟨[], [], rfl, trivial, trivial⟩) n x0 x1 x2 x3 y0 y1 y2 y3 rfl (fun e h1 h3 => ?_) w hl
  obtain rfl := h1 0 n rfl
  obtain rfl := h1 1 x0 rfl
  obtain rfl := h1 2 x1 rfl
  obtain rfl := h1 3 x2 rfl
  obtain rfl := h1 4 x3 rfl
  obtain rfl := h1 5 y0 rfl
  obtain rfl := h1 6 y1 rfl
  obtain rfl := h1 7 y2 rfl
  obtain rfl := h1 8 y3 rfl
  exact GC e h3 (by rw [Bool.and_eq_true]; exact ⟨hpre, decide_eq_true m3⟩)
 ·have hl := SA x0.int x1.int x2.int x3.int y0.int y1.int y2.int y3.int w (by
   have q : ∀ k : Int, k ≠ x1.int → Instr.sameNow (.int .i64) (.int .i64 x1.int) (.int .i64 k) = some false := fun k hk => by
    simp [Instr.sameNow, Ne.symm hk]
   simp only [MS, kf, Instr.findNow, q 1 (Ne.symm m1), q 2 (Ne.symm m2), q 3 (Ne.symm m3)]
   )
  refine Gi JR rfl JS rfl rfl (fun e l => ⟨trivial, rfl, .inr rfl⟩) n x0 x1 x2 x3 y0 y1 y2 y3 rfl (fun e h1 h3 => ?_) w hl
  obtain rfl := h1 0 n rfl
  obtain rfl := h1 1 x0 rfl
  obtain rfl := h1 2 x1 rfl
  obtain rfl := h1 3 x2 rfl
  obtain rfl := h1 4 x3 rfl
  obtain rfl := h1 5 y0 rfl
  obtain rfl := h1 6 y1 rfl
  obtain rfl := h1 7 y2 rfl
  obtain rfl := h1 8 y3 rfl
  exact HT e h3 (by
   rw [Bool.and_eq_true]
   refine ⟨hpre, ?_⟩
   show Day.Wc (Day.ND.mk (e 1).int (e 2).int (e 3).int (e 4).int) = true
   simp [Day.Wc, m1, m2, m3])
end Rx.S
namespace Rx.S
open Go Rx Go.Proofs
set_option maxRecDepth 100000
set_option maxHeartbeats 4000000
def EO : GF := { f := 31, ps := [.c false [.int .i64], .c true [.int .i64, .int .i64, .int .i64, .int .i64], .c false [.int .i64]], rs := [(true, [.int .i64, .int .i64, .int .i64, .int .i64]), (false, [.int .i64])], ok := fun _ => true }
noncomputable def E7 : List (Nat × Func) := [(31, Try.f31), (28, Try.f28)]
theorem Gv : A1 Try.prog E7 := ⟨VW, Ss, trivial⟩
noncomputable def Iq : Ctx := { Aw := Aw, eqs := eqs, fns := fun f => look f E7, ctr := [(28, Ek)], lim := 30, big := [], lps := [] }
theorem Ls : XL Try.prog T Iq where
 Aw := BC
 eqs := BM
 mixed := mixed
 ctr := Au ⟨⟨rfl, Gj⟩, trivial⟩
 fns := AB Gv
 big := Av trivial
 lps := AR rfl
theorem SB : ∀ fn body c, Iq.fns F5.f = some fn → fn.body = some body → Ec F5.p body = some (.loop c) → Eb Try.prog T F5 c :=
 Uw Ls Bj (g := JH) (back := some (V 19, [V 0, V 1, V 2, V 3, V 4, V 5, V 6, V 7, V 8, V 9, V 10, V 11, V 12, V 13, V 28, V 22, V 23, V 24, V 25])) (exs := [(V 20, [some (V 15), some (V 16), some (V 17), some (V 18)])]) (by kernel_rfl) (fun aq => by rw [show F5.id = 1650 from rfl, MN]; rfl) Rd fun aq e h1 h2 h3 => by
  rw [show F5.id = 1650 from rfl, MN] at h2 ⊢
  exact Re aq e h1 h2 h3
noncomputable def Qu : Ctx := { Aw := Aw, eqs := eqs, fns := fun f => look f E7, ctr := [(28, Ek)], lim := 30, big := [], lps := [F5] }
theorem NP : XL Try.prog T Qu where
 Aw := BC
 eqs := BM
 mixed := mixed
 ctr := Au ⟨⟨rfl, Gj⟩, trivial⟩
 fns := AB Gv
 big := Av trivial
 lps := TI ⟨SB, trivial⟩
theorem NQ : Bz Try.prog T EO := BA NP Bj (g := G4) (ls := [V 47, V 48, V 49, V 50, V 42]) (by kernel_rfl) (fun aq => by rw [show EO.f = 31 from rfl, T6]; rfl) fun aq e h1 h2 h3 => by
 subst h1
 rw [show EO.f = 31 from rfl, T6] at h2 ⊢
 obtain ⟨ho, hr⟩ := MT e h3 _ rfl h2
 obtain ⟨r0, r1, r2, r3, r4⟩ := hr
 refine ⟨⟨ho.1, ho.2, trivial⟩, ?_⟩
 show Ab [.int .i64, .int .i64, .int .i64, .int .i64, .int .i64] (UX _).2 = Ab [.int .i64, .int .i64, .int .i64, .int .i64, .int .i64] [L.ev e (V 47), L.ev e (V 48), L.ev e (V 49), L.ev e (V 50), L.ev e (V 42)]
 exact (Bg r0 (Bg r1 (Bg r2 (Bg r3 (Bg r4 rfl)))))
end Rx.S
