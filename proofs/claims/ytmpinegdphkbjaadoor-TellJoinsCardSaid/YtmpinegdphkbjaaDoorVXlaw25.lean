import Derived.Test.YtmpinegdphkbjaaDoorVXe
import Derived.Test.YtmpinegdphkbjaaDoorVXtell
import Derived.Test.YtmpinegdphkbjaaDoorVYlaw25
set_option linter.unusedVariables false
set_option linter.unusedSimpArgs false
namespace Rx.S
open Go Rx Go.Proofs
set_option maxRecDepth 100000
set_option maxHeartbeats 4000000
def CW : MM := { f := 7, ps := [], rs := [(false, [.bool])], ok := fun _ => true }
noncomputable def FC : List (Nat × Func) := [(7, Tryd.f7), (9, Tryd.f9), (13, Tryd.f13)]
theorem Iq : F7 Tryd.prog FC := ⟨Vh, Vj, Uy, trivial⟩
noncomputable def LI : Ctx := { Ax := Ax, eqs := eqs, fns := fun f => look f FC, ctr := [(13, Ef), (9, Eh)], lim := 30, big := [], lps := [] }
theorem JC : XL Tryd.prog T LI where
 Ax := Ed
 eqs := FA
 mixed := mixed
 ctr := A8 ⟨⟨rfl, LF⟩, ⟨rfl, LH⟩, trivial⟩
 fns := BJ Iq
 big := A9 trivial
 lps := GL rfl
theorem JD : FX Tryd.prog T CW := I1 JC Df (g := Ez) (ls := [V 8]) (by kernel_rfl) (fun aq => by rw [show CW.f = 7 from rfl, UI]; rfl) fun aq e h1 h2 h3 => by
 subst h1
 rw [show CW.f = 7 from rfl, UI] at h2 ⊢
 obtain ⟨ho, hr⟩ := I8 e h3 h2
 have r0 := hr
 refine ⟨⟨ho.1, ho.2, trivial⟩, ?_⟩
 show Aj [.bool] (UP _).2 = Aj [.bool] [L.ev e (V 8)]
 exact (TX r0 rfl)
def Ei : MM := { f := 6, ps := [.lst [.int .i64, .int .i64, .int .i64, .int .i64, .int .i64, .sl [.int .i64, .int .i64, .int .i64, .int .i64]]], rs := [(false, [.bool])], ok := fun _ => true }
noncomputable def EA : List (Nat × Func) := [(6, Tryd.f6)]
theorem FD : F7 Tryd.prog EA := ⟨Vg, trivial⟩
noncomputable def Ha : Ctx := { Ax := Ax, eqs := eqs, fns := fun f => look f EA, ctr := [], lim := 30, big := [], lps := [] }
theorem JE : XL Tryd.prog T Ha where
 Ax := Ed
 eqs := FA
 mixed := mixed
 ctr := A8 trivial
 fns := BJ FD
 big := A9 trivial
 lps := GL rfl
theorem Rq : ∀ fn body c, Ha.fns Ft.f = some fn → fn.body = some body → C8 Ft.p body = some (.loop c) → Ca Tryd.prog T Ft c :=
 GK JE Df (g := Ir) (back := some (V 20, [V 0, V 17, V 2, V 3])) (exs := [(V 21, [some (B true), none]), (V 5, [none, some (B true)])]) (by kernel_rfl) (fun aq => by rw [show Ft.id = 1110 from rfl, KX]; rfl) PN fun aq e h1 h2 h3 => by
  rw [show Ft.id = 1110 from rfl, KX] at h2 ⊢
  exact PO aq e h1 h2 h3
noncomputable def OS : Ctx := { Ax := Ax, eqs := eqs, fns := fun f => look f EA, ctr := [], lim := 30, big := [], lps := [Ft] }
theorem LJ : XL Tryd.prog T OS where
 Ax := Ed
 eqs := FA
 mixed := mixed
 ctr := A8 trivial
 fns := BJ FD
 big := A9 trivial
 lps := EX ⟨Rq, trivial⟩
theorem LK : FX Tryd.prog T Ei := I1 LJ Df (g := Gn) (ls := [V 17]) (by kernel_rfl) (fun aq => by rw [show Ei.f = 6 from rfl, UJ]; rfl) fun aq e h1 h2 h3 => by
 subst h1
 rw [show Ei.f = 6 from rfl, UJ] at h2 ⊢
 obtain ⟨ho, hr⟩ := K7 e h3 h2
 have r0 := hr
 refine ⟨⟨ho.1, ho.2, trivial⟩, ?_⟩
 show Aj [.bool] (UQ _).2 = Aj [.bool] [L.ev e (V 17)]
 exact (TX r0 rfl)
end Rx.S
