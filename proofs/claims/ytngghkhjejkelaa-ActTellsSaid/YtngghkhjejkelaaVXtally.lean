import Derived.Test.YtngghkhjejkelaaVXe
import Derived.Test.YtngghkhjejkelaaVYtally
set_option linter.unusedVariables false
set_option linter.unusedSimpArgs false
namespace Rx.S
open Go Rx Go.Proofs
set_option maxRecDepth 100000
set_option maxHeartbeats 4000000
def DK : DD := { f := 86, ps := [.c false [.int .i64], .c false [.int .i64]], rs := [(false, [.int .i64])], ok := fun _ => true }
noncomputable def Lv : List (Nat × Func) := [(86, Try.f86)]
theorem PU : AD Try.prog Lv := ⟨YD, trivial⟩
noncomputable def UL : Ctx := { As := As, eqs := eqs, fns := fun f => look f Lv, ctr := [], lim := 30, big := [], lps := [] }
theorem SP : XL Try.prog T UL where
 As := AM
 eqs := AY
 mixed := mixed
 ctr := Ak trivial
 fns := An PU
 big := Al trivial
 lps := Av rfl
theorem Hf : AW Try.prog T DK := AJ SP AH (g := KC) (ls := [V 7]) (by kernel_rfl) (fun aq => by rw [show DK.f = 86 from rfl, Xu]; rfl) fun aq e h1 h2 h3 => by
 subst h1
 rw [show DK.f = 86 from rfl, Xu] at h2 ⊢
 obtain ⟨ho, hr⟩ := QR e h3 h2
 have r0 := hr
 refine ⟨trivial, ?_⟩
 show Aa [.int .i64] (YI _).2 = Aa [.int .i64] [L.ev e (V 7)]
 exact (AS r0 rfl)
def DR : DD := { f := 58, ps := [.c false [.int .i64], .c false [.int .i64], .c false [.int .i64]], rs := [(false, [.int .i64])], ok := fun _ => true }
noncomputable def HJ : List (Nat × Func) := [(58, Try.f58)]
theorem Lw : AD Try.prog HJ := ⟨Aaw, trivial⟩
noncomputable def QT : Ctx := { As := As, eqs := eqs, fns := fun f => look f HJ, ctr := [], lim := 30, big := [], lps := [] }
theorem NW : XL Try.prog T QT where
 As := AM
 eqs := AY
 mixed := mixed
 ctr := Ak trivial
 fns := An Lw
 big := Al trivial
 lps := Av rfl
theorem NX : AW Try.prog T DR := AJ NW AH (g := F6) (ls := [V 7]) (by kernel_rfl) (fun aq => by rw [show DR.f = 58 from rfl, Xt]; rfl) fun aq e h1 h2 h3 => by
 subst h1
 rw [show DR.f = 58 from rfl, Xt] at h2 ⊢
 obtain ⟨ho, hr⟩ := MH e h3 h2
 have r0 := hr
 refine ⟨trivial, ?_⟩
 show Aa [.int .i64] (YH _).2 = Aa [.int .i64] [L.ev e (V 7)]
 exact (AS r0 rfl)
def Fi : DD := { f := 66, ps := [.c false [.int .i64], .c false [.int .i64]], rs := [(false, [.int .i64])], ok := fun _ => true }
noncomputable def LJ : List (Nat × Func) := [(66, Try.f66)]
theorem Qg : AD Try.prog LJ := ⟨ZW, trivial⟩
noncomputable def US : Ctx := { As := As, eqs := eqs, fns := fun f => look f LJ, ctr := [], lim := 30, big := [], lps := [] }
theorem S7 : XL Try.prog T US where
 As := AM
 eqs := AY
 mixed := mixed
 ctr := Ak trivial
 fns := An Qg
 big := Al trivial
 lps := Av rfl
theorem LK : AW Try.prog T Fi := AJ S7 AH (g := KO) (ls := [V 9]) (by kernel_rfl) (fun aq => by rw [show Fi.f = 66 from rfl, Xv]; rfl) fun aq e h1 h2 h3 => by
 subst h1
 rw [show Fi.f = 66 from rfl, Xv] at h2 ⊢
 obtain ⟨ho, hr⟩ := Q4 e h3 h2
 have r0 := hr
 refine ⟨trivial, ?_⟩
 show Aa [.int .i64] (YJ _).2 = Aa [.int .i64] [L.ev e (V 9)]
 exact (AS r0 rfl)
end Rx.S
