import Derived.Test.YtikhhempbdimhaaSXe
import Derived.Test.YtikhhempbdimhaaSYref17
set_option linter.unusedVariables false
set_option linter.unusedSimpArgs false
namespace Rx.S
open Go Rx Go.Proofs
set_option maxRecDepth 100000
set_option maxHeartbeats 4000000
def C2 : J7 := { f := 15, ps := [.lst [.int .i64], .lst [.int .i64]], rs := [(false, [.bool])], ok := fun _ => true }
noncomputable def Fz : List (Nat × Func) := [(15, Try.f15)]
theorem GO : BR Try.prog Fz := ⟨Ab7, trivial⟩
noncomputable def Ji : Ctx := { Ay := Ay, eqs := eqs, fns := fun f => look f Fz, ctr := [], lim := 30, big := [], lps := [] }
theorem Np : XL Try.prog T Ji where
 Ay := AZ
 eqs := A4
 mixed := mixed
 ctr := Am trivial
 fns := Ar GO
 big := An trivial
 lps := Bw rfl
theorem YR : ∀ fn body c, Ji.fns Hp.f = some fn → fn.body = some body → Bx Hp.p body = some (.loop c) → A2 Try.prog T Hp c :=
 Bf Np AI (g := L3) (back := some (V 25, [V 0, V 1, V 22, V 3, V 4, V 5])) (exs := [(V 26, [some (B true), none]), (V 7, [none, some (B true)])]) (by kernel_rfl) (fun aq => by rw [show Hp.id = 1190 from rfl, PZ]; rfl) Wf fun aq e h1 h2 h3 => by
  rw [show Hp.id = 1190 from rfl, PZ] at h2 ⊢
  exact Wg aq e h1 h2 h3
noncomputable def S7 : Ctx := { Ay := Ay, eqs := eqs, fns := fun f => look f Fz, ctr := [], lim := 30, big := [], lps := [Hp] }
theorem Ql : XL Try.prog T S7 where
 Ay := AZ
 eqs := A4
 mixed := mixed
 ctr := Am trivial
 fns := Ar GO
 big := An trivial
 lps := AU ⟨YR, trivial⟩
theorem FA : CJ Try.prog T C2 := Cr Ql AI (g := Hq) (ls := [V 19]) (by kernel_rfl) (fun aq => by rw [show C2.f = 15 from rfl, AaG]; rfl) fun aq e h1 h2 h3 => by
 subst h1
 rw [show C2.f = 15 from rfl, AaG] at h2 ⊢
 obtain ⟨ho, hr⟩ := N7 e h3 h2
 have r0 := hr
 refine ⟨⟨ho.1, ho.2, trivial⟩, ?_⟩
 show Ag [.bool] (Abp _).2 = Ag [.bool] [L.ev e (V 19)]
 exact (SZ r0 rfl)
def Eb : J7 := { f := 16, ps := [.lst [.int .i64, .int .i64, .int .i64, .int .i64], .lst [.int .i64, .int .i64, .int .i64, .int .i64]], rs := [(false, [.bool])], ok := fun _ => true }
noncomputable def EB : List (Nat × Func) := [(16, Try.f16)]
theorem FZ : BR Try.prog EB := ⟨AcE, trivial⟩
noncomputable def HJ : Ctx := { Ay := Ay, eqs := eqs, fns := fun f => look f EB, ctr := [], lim := 30, big := [], lps := [] }
theorem L5 : XL Try.prog T HJ where
 Ay := AZ
 eqs := A4
 mixed := mixed
 ctr := Am trivial
 fns := Ar FZ
 big := An trivial
 lps := Bw rfl
theorem YS : ∀ fn body c, HJ.fns Hr.f = some fn → fn.body = some body → Bx Hr.p body = some (.loop c) → A2 Try.prog T Hr c :=
 Bf L5 AI (g := L4) (back := some (V 38, [V 0, V 1, V 35, V 3, V 4, V 5])) (exs := [(V 39, [some (B true), none]), (V 7, [none, some (B true)])]) (by kernel_rfl) (fun aq => by rw [show Hr.id = 1200 from rfl, P0]; rfl) Wh fun aq e h1 h2 h3 => by
  rw [show Hr.id = 1200 from rfl, P0] at h2 ⊢
  exact Wi aq e h1 h2 h3
noncomputable def Q2 : Ctx := { Ay := Ay, eqs := eqs, fns := fun f => look f EB, ctr := [], lim := 30, big := [], lps := [Hr] }
theorem N8 : XL Try.prog T Q2 where
 Ay := AZ
 eqs := A4
 mixed := mixed
 ctr := Am trivial
 fns := Ar FZ
 big := An trivial
 lps := AU ⟨YS, trivial⟩
theorem N9 : CJ Try.prog T Eb := Cr N8 AI (g := Gh) (ls := [V 19]) (by kernel_rfl) (fun aq => by rw [show Eb.f = 16 from rfl, AaH]; rfl) fun aq e h1 h2 h3 => by
 subst h1
 rw [show Eb.f = 16 from rfl, AaH] at h2 ⊢
 obtain ⟨ho, hr⟩ := Nq e h3 h2
 have r0 := hr
 refine ⟨⟨ho.1, ho.2, trivial⟩, ?_⟩
 show Ag [.bool] (Abq _).2 = Ag [.bool] [L.ev e (V 19)]
 exact (SZ r0 rfl)
end Rx.S
