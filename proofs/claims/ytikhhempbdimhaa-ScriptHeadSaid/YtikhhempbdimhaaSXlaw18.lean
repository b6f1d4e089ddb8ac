import Derived.Test.YtikhhempbdimhaaSXe
import Derived.Test.YtikhhempbdimhaaSXwire
import Derived.Test.YtikhhempbdimhaaSXref18
import Derived.Test.YtikhhempbdimhaaSYlaw18
set_option linter.unusedVariables false
set_option linter.unusedSimpArgs false
namespace Rx.S
open Go Rx Go.Proofs
set_option maxRecDepth 100000
set_option maxHeartbeats 4000000
def Da : J7 := { f := 7, ps := [], rs := [(false, [.bool])], ok := fun _ => true }
noncomputable def HV : List (Nat × Func) := [(7, Try.f7), (9, Try.f9), (18, Try.f18), (19, Try.f19), (22, Try.f22), (20, Try.f20), (21, Try.f21), (23, Try.f23), (39, Try.f39), (50, Try.f50), (40, Try.f40), (51, Try.f51), (12, Try.f12), (29, Try.f29), (30, Try.f30), (43, Try.f43), (31, Try.f31), (44, Try.f44), (53, Try.f53), (45, Try.f45), (54, Try.f54), (32, Try.f32), (46, Try.f46), (33, Try.f33), (47, Try.f47), (10, Try.f10), (8, Try.f8)]
theorem Mx : BR Try.prog HV := ⟨fn7, fn9, AcG, AcH, AcK, AcI, AcJ, AcL, AcM, Ab9, AcN, AcP, Adm, Adq, Adr, Adv, Ads, Adw, AdA, Adx, AdB, Adt, Ady, Adu, Adz, Ab6, fn8, trivial⟩
noncomputable def Q8 : Ctx := { Ay := Ay, eqs := eqs, fns := fun f => look f HV, ctr := [(50, Bb), (8, DO)], lim := 30, big := [(10, EX)], lps := [] }
theorem Od : XL Try.prog T Q8 where
 Ay := AZ
 eqs := A4
 mixed := mixed
 ctr := Am ⟨⟨rfl, A9⟩, ⟨rfl, Jk⟩, trivial⟩
 fns := Ar Mx
 big := An ⟨⟨rfl, Jh⟩, trivial⟩
 lps := Bw rfl
theorem HW : CJ Try.prog T Da := Cr Od AI (g := Gj) (ls := [V 38]) (by kernel_rfl) (fun aq => by rw [show Da.f = 7 from rfl, T_7]; rfl) fun aq e h1 h2 h3 => by
 subst h1
 rw [show Da.f = 7 from rfl, T_7] at h2 ⊢
 obtain ⟨ho, hr⟩ := Nx e h3 h2
 have r0 := hr
 refine ⟨⟨ho.1, ho.2, trivial⟩, ?_⟩
 show Ag [.bool] (t_7 _).2 = Ag [.bool] [L.ev e (V 38)]
 exact (SZ r0 rfl)
end Rx.S
