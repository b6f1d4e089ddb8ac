import Derived.Test.YtkdhdjcngafocaaPXe
import Derived.Test.YtkdhdjcngafocaaPXpower
import Derived.Test.YtkdhdjcngafocaaPYlaw16
set_option linter.unusedVariables false
set_option linter.unusedSimpArgs false
namespace Rx.S
open Go Rx Go.Proofs
set_option maxRecDepth 100000
set_option maxHeartbeats 4000000
def Dd : Iy := { f := 12, ps := [.lst [.int .i64], .lst [.int .i64]], rs := [(false, [.bool])], ok := fun _ => true }
noncomputable def EH : List (Nat × Func) := [(12, Try.f12)]
theorem F4 : Bb Try.prog EH := ⟨Xw, trivial⟩
noncomputable def H5 : Ctx := { Aw := Aw, eqs := eqs, fns := fun f => look f EH, ctr := [], lim := 30, big := [], lps := [] }
theorem Le : XL Try.prog T H5 where
 Aw := Be
 eqs := Bo
 mixed := mixed
 ctr := Ap trivial
 fns := Az F4
 big := Aq trivial
 lps := AX rfl
theorem UA : ∀ fn body c, H5.fns GO.f = some fn → fn.body = some body → CO GO.p body = some (.loop c) → BN Try.prog T GO c :=
 D8 Le AS (g := Kk) (back := some (V 25, [V 0, V 1, V 22, V 3, V 4, V 5])) (exs := [(V 26, [some (B true), none]), (V 7, [none, some (B true)])]) (by kernel_rfl) (fun aq => by rw [show GO.id = 1200 from rfl, Nz]; rfl) SI fun aq e h1 h2 h3 => by
  rw [show GO.id = 1200 from rfl, Nz] at h2 ⊢
  exact SJ aq e h1 h2 h3
noncomputable def Qr : Ctx := { Aw := Aw, eqs := eqs, fns := fun f => look f EH, ctr := [], lim := 30, big := [], lps := [GO] }
theorem NT : XL Try.prog T Qr where
 Aw := Be
 eqs := Bo
 mixed := mixed
 ctr := Ap trivial
 fns := Az F4
 big := Aq trivial
 lps := C4 ⟨UA, trivial⟩
theorem H6 : BV Try.prog T Dd := BF NT AS (g := GP) (ls := [V 19]) (by kernel_rfl) (fun aq => by rw [show Dd.f = 12 from rfl, V2]; rfl) fun aq e h1 h2 h3 => by
 subst h1
 rw [show Dd.f = 12 from rfl, V2] at h2 ⊢
 obtain ⟨ho, hr⟩ := Mb e h3 h2
 have r0 := hr
 refine ⟨⟨ho.1, ho.2, trivial⟩, ?_⟩
 show Af [.bool] (WX _).2 = Af [.bool] [L.ev e (V 19)]
 exact (JQ r0 rfl)
def Dw : Iy := { f := 6, ps := [], rs := [(false, [.bool])], ok := fun _ => true }
noncomputable def Hb : List (Nat × Func) := [(6, Try.f6), (10, Try.f10), (7, Try.f7), (12, Try.f12), (8, Try.f8)]
theorem Kl : Bb Try.prog Hb := ⟨Y1, Xv, YS, Xw, Ys, trivial⟩
noncomputable def OB : Ctx := { Aw := Aw, eqs := eqs, fns := fun f => look f Hb, ctr := [(8, Di), (7, DI), (12, Dd)], lim := 30, big := [(10, Du)], lps := [] }
theorem Mc : XL Try.prog T OB where
 Aw := Be
 eqs := Bo
 mixed := mixed
 ctr := Ap ⟨⟨rfl, GA⟩, ⟨rfl, IU⟩, ⟨rfl, H6⟩, trivial⟩
 fns := Az Kl
 big := Aq ⟨⟨rfl, G5⟩, trivial⟩
 lps := AX rfl
theorem Md : BV Try.prog T Dw := BF Mc AS (g := FB) (ls := [V 30]) (by kernel_rfl) (fun aq => by rw [show Dw.f = 6 from rfl, Yp]; rfl) fun aq e h1 h2 h3 => by
 subst h1
 rw [show Dw.f = 6 from rfl, Yp] at h2 ⊢
 obtain ⟨ho, hr⟩ := Lf e h3 h2
 have r0 := hr
 refine ⟨⟨ho.1, ho.2.1, ho.2.2.1, ho.2.2.2.1, ho.2.2.2.2, trivial⟩, ?_⟩
 show Af [.bool] (YA _).2 = Af [.bool] [L.ev e (V 30)]
 exact (JQ r0 rfl)
end Rx.S
