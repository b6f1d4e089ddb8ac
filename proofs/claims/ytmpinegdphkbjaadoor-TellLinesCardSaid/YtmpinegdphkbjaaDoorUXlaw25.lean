import Derived.Test.YtmpinegdphkbjaaDoorUXe
import Derived.Test.YtmpinegdphkbjaaDoorUXtell
import Derived.Test.YtmpinegdphkbjaaDoorUYlaw25
set_option linter.unusedVariables false
set_option linter.unusedSimpArgs false
namespace Rx.S
open Go Rx Go.Proofs
set_option maxRecDepth 100000
set_option maxHeartbeats 4000000
def BQ : M4 := { f := 7, ps := [], rs := [(false, [.bool])], ok := fun _ => true }
noncomputable def FO : List (Nat × Func) := [(7, Tryd.f7), (9, Tryd.f9), (13, Tryd.f13)]
theorem IB : Gg Tryd.prog FO := ⟨VB, VD, UT, trivial⟩
noncomputable def L8 : Ctx := { AD := AD, eqs := eqs, fns := fun f => look f FO, ctr := [(13, Eu), (9, Ew)], lim := 30, big := [], lps := [] }
theorem JT : XL Tryd.prog T L8 where
 AD := D4
 eqs := Er
 mixed := mixed
 ctr := AU ⟨⟨rfl, L5⟩, ⟨rfl, L7⟩, trivial⟩
 fns := Bo IB
 big := AV trivial
 lps := GV rfl
theorem Dr : F9 Tryd.prog T BQ := Je JT CN (g := EL) (ls := [V 8]) (by kernel_rfl) (fun aq => by rw [show BQ.f = 7 from rfl, U4]; rfl) fun aq e h1 h2 h3 => by
 subst h1
 rw [show BQ.f = 7 from rfl, U4] at h2 ⊢
 obtain ⟨ho, hr⟩ := Jn e h3 h2
 have r0 := hr
 refine ⟨⟨ho.1, ho.2, trivial⟩, ?_⟩
 show Ak [.bool] (Vb _).2 = Ak [.bool] [L.ev e (V 8)]
 exact (Ui r0 rfl)
def CB : M4 := { f := 6, ps := [.lst [.int .i64, .int .i64, .int .i64, .int .i64, .int .i64, .sl [.int .i64, .int .i64, .int .i64, .int .i64]]], rs := [(false, [.bool])], ok := fun _ => true }
noncomputable def EM : List (Nat × Func) := [(6, Tryd.f6)]
theorem FP : Gg Tryd.prog EM := ⟨VA, trivial⟩
noncomputable def Hl : Ctx := { AD := AD, eqs := eqs, fns := fun f => look f EM, ctr := [], lim := 30, big := [], lps := [] }
theorem JU : XL Tryd.prog T Hl where
 AD := D4
 eqs := Er
 mixed := mixed
 ctr := AU trivial
 fns := Bo FP
 big := AV trivial
 lps := GV rfl
theorem RL : ∀ fn body c, Hl.fns FI.f = some fn → fn.body = some body → CL FI.p body = some (.loop c) → BR Tryd.prog T FI c :=
 Ep JU CN (g := IC) (back := some (V 20, [V 0, V 17, V 2, V 3])) (exs := [(V 21, [some (B true), none]), (V 5, [none, some (B true)])]) (by kernel_rfl) (fun aq => by rw [show FI.id = 1110 from rfl, Lg]; rfl) Qc fun aq e h1 h2 h3 => by
  rw [show FI.id = 1110 from rfl, Lg] at h2 ⊢
  exact Qd aq e h1 h2 h3
noncomputable def O7 : Ctx := { AD := AD, eqs := eqs, fns := fun f => look f EM, ctr := [], lim := 30, big := [], lps := [FI] }
theorem L9 : XL Tryd.prog T O7 where
 AD := D4
 eqs := Er
 mixed := mixed
 ctr := AU trivial
 fns := Bo FP
 big := AV trivial
 lps := Dg ⟨RL, trivial⟩
theorem EN : F9 Tryd.prog T CB := Je L9 CN (g := GA) (ls := [V 17]) (by kernel_rfl) (fun aq => by rw [show CB.f = 6 from rfl, U5]; rfl) fun aq e h1 h2 h3 => by
 subst h1
 rw [show CB.f = 6 from rfl, U5] at h2 ⊢
 obtain ⟨ho, hr⟩ := Lt e h3 h2
 have r0 := hr
 refine ⟨⟨ho.1, ho.2, trivial⟩, ?_⟩
 show Ak [.bool] (Vc _).2 = Ak [.bool] [L.ev e (V 17)]
 exact (Ui r0 rfl)
end Rx.S
