import Derived.Test.YtkdhdjcngafocaaQXe
import Derived.Test.YtkdhdjcngafocaaQYtally
set_option linter.unusedVariables false
set_option linter.unusedSimpArgs false
namespace Rx.S
open Go Rx Go.Proofs
set_option maxRecDepth 100000
set_option maxHeartbeats 4000000
def Cn : KB := { f := 22, ps := [.c false [.int .i64], .c false [.int .i64], .c false [.int .i64]], rs := [(false, [.int .i64])], ok := fun _ => true }
noncomputable def F7 : List (Nat × Func) := [(22, Try.f22)]
theorem IX : C5 Try.prog F7 := ⟨Vj, trivial⟩
noncomputable def Mr : Ctx := { Av := Av, eqs := eqs, fns := fun f => look f F7, ctr := [], lim := 30, big := [], lps := [] }
theorem Kf : XL Try.prog T Mr where
 Av := Cd
 eqs := Dp
 mixed := mixed
 ctr := AH trivial
 fns := AV IX
 big := AI trivial
 lps := CU rfl
theorem F8 : D7 Try.prog T Cn := EN Kf B6 (g := ES) (ls := [V 7]) (by kernel_rfl) (fun aq => by rw [show Cn.f = 22 from rfl, RR]; rfl) fun aq e h1 h2 h3 => by
 subst h1
 rw [show Cn.f = 22 from rfl, RR] at h2 ⊢
 obtain ⟨ho, hr⟩ := JK e h3 h2
 have r0 := hr
 refine ⟨trivial, ?_⟩
 show Ah [.int .i64] (Tl _).2 = Ah [.int .i64] [L.ev e (V 7)]
 exact (TP r0 rfl)
end Rx.S
