import Derived.Test.YtkdhdjcngafocaaQXe
import Derived.Test.YtkdhdjcngafocaaQXpower
import Derived.Test.YtkdhdjcngafocaaQYlaw16
set_option linter.unusedVariables false
set_option linter.unusedSimpArgs false
namespace Rx.S
open Go Rx Go.Proofs
set_option maxRecDepth 100000
set_option maxHeartbeats 4000000
def DO : KB := { f := 12, ps := [.lst [.int .i64], .lst [.int .i64]], rs := [(false, [.bool])], ok := fun _ => true }
noncomputable def Ef : List (Nat × Func) := [(12, Try.f12)]
theorem Fm : C5 Try.prog Ef := ⟨Vg, trivial⟩
noncomputable def GW : Ctx := { Av := Av, eqs := eqs, fns := fun f => look f Ef, ctr := [], lim := 30, big := [], lps := [] }
theorem JO : XL Try.prog T GW where
 Av := Cd
 eqs := Dp
 mixed := mixed
 ctr := AH trivial
 fns := AV Fm
 big := AI trivial
 lps := CU rfl
theorem R3 : ∀ fn body c, GW.fns FV.f = some fn → fn.body = some body → Dm FV.p body = some (.loop c) → Ce Try.prog T FV c :=
 Hn JO B6 (g := I1) (back := some (V 25, [V 0, V 1, V 22, V 3, V 4, V 5])) (exs := [(V 26, [some (B true), none]), (V 7, [none, some (B true)])]) (by kernel_rfl) (fun aq => by rw [show FV.id = 1200 from rfl, LH]; rfl) Ql fun aq e h1 h2 h3 => by
  rw [show FV.id = 1200 from rfl, LH] at h2 ⊢
  exact Qm aq e h1 h2 h3
noncomputable def Oe : Ctx := { Av := Av, eqs := eqs, fns := fun f => look f Ef, ctr := [], lim := 30, big := [], lps := [FV] }
theorem LZ : XL Try.prog T Oe where
 Av := Cd
 eqs := Dp
 mixed := mixed
 ctr := AH trivial
 fns := AV Fm
 big := AI trivial
 lps := Fi ⟨R3, trivial⟩
theorem L0 : D7 Try.prog T DO := EN LZ B6 (g := FW) (ls := [V 19]) (by kernel_rfl) (fun aq => by rw [show DO.f = 12 from rfl, Tp]; rfl) fun aq e h1 h2 h3 => by
 subst h1
 rw [show DO.f = 12 from rfl, Tp] at h2 ⊢
 obtain ⟨ho, hr⟩ := Kl e h3 h2
 have r0 := hr
 refine ⟨⟨ho.1, ho.2, trivial⟩, ?_⟩
 show Ah [.bool] (T5 _).2 = Ah [.bool] [L.ev e (V 19)]
 exact (P8 r0 rfl)
def A2 : KB := { f := 6, ps := [], rs := [(false, [.bool])], ok := fun _ => true }
noncomputable def Gc : List (Nat × Func) := [(6, Try.f6), (10, Try.f10), (7, Try.f7), (12, Try.f12), (8, Try.f8)]
theorem I2 : C5 Try.prog Gc := ⟨VR, Vf, VS, Vg, Ve, trivial⟩
noncomputable def Mu : Ctx := { Av := Av, eqs := eqs, fns := fun f => look f Gc, ctr := [(8, Bp), (7, B7), (12, DO)], lim := 30, big := [(10, ET)], lps := [] }
theorem Km : XL Try.prog T Mu where
 Av := Cd
 eqs := Dp
 mixed := mixed
 ctr := AH ⟨⟨rfl, BF⟩, ⟨rfl, Db⟩, ⟨rfl, L0⟩, trivial⟩
 fns := AV I2
 big := AI ⟨⟨rfl, Ki⟩, trivial⟩
 lps := CU rfl
theorem BL : D7 Try.prog T A2 := EN Km B6 (g := EP) (ls := [V 30]) (by kernel_rfl) (fun aq => by rw [show A2.f = 6 from rfl, Vr]; rfl) fun aq e h1 h2 h3 => by
 subst h1
 rw [show A2.f = 6 from rfl, Vr] at h2 ⊢
 obtain ⟨ho, hr⟩ := JI e h3 h2
 have r0 := hr
 refine ⟨⟨ho.1, ho.2.1, ho.2.2.1, ho.2.2.2.1, ho.2.2.2.2, trivial⟩, ?_⟩
 show Ah [.bool] (Vz _).2 = Ah [.bool] [L.ev e (V 30)]
 exact (P8 r0 rfl)
end Rx.S
