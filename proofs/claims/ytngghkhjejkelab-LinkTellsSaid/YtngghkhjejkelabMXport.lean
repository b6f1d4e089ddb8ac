import Derived.Test.YtngghkhjejkelabMXe
import Derived.Test.YtngghkhjejkelabMXClone
import Derived.Test.YtngghkhjejkelabMYport
set_option linter.unusedVariables false
set_option linter.unusedSimpArgs false
namespace Rx.S
open Go Rx Go.Proofs
set_option maxRecDepth 100000
set_option maxHeartbeats 4000000
def K8 : XG := { f := 44, ps := [.lst [.int .i64, .int .i64], .lst [.int .i64, .int .i64]], rs := [.lst [.int .i64, .int .i64] 32, .c false [.int .i64]], ok := fun _ => true, w := 4 }
noncomputable def Hr : List (Nat × Func) := [(44, Try.f44), (59, Try.f59)]
theorem JM : AG Try.prog Hr := ⟨Ahg, Aho, trivial⟩
noncomputable def Mn : Ctx := { At := At, eqs := eqs, fns := fun f => look f Hr, ctr := [], lim := 30, big := [(59, Ru)], lps := [] }
theorem QJ : XL Try.prog T Mn where
 At := AL
 eqs := AP
 mixed := mixed
 ctr := Af trivial
 fns := Am JM
 big := Ag ⟨⟨rfl, Wc⟩, trivial⟩
 lps := Ax rfl
theorem Acq : ∀ fn body c, Mn.fns I9.f = some fn → fn.body = some body → CK I9.p body = some (.loop c) → BT Try.prog T I9 c :=
 CB QJ Aw (g := NU) (back := some (V 8, [V 0, V 1, V 2, V 3, V 28, V 5, V 6, V 27])) (exs := [(V 9, [some (V 7)])]) (by kernel_rfl) (fun aq => by rw [show I9.id = 1890 from rfl, S5]; rfl) Aag fun aq e h1 h2 h3 => by
  rw [show I9.id = 1890 from rfl, S5] at h2 ⊢
  exact Aah aq e h1 h2 h3
noncomputable def YX : Ctx := { At := At, eqs := eqs, fns := fun f => look f Hr, ctr := [], lim := 30, big := [(59, Ru)], lps := [I9] }
theorem U1 : XL Try.prog T YX where
 At := AL
 eqs := AP
 mixed := mixed
 ctr := Af trivial
 fns := Am JM
 big := Ag ⟨⟨rfl, Wc⟩, trivial⟩
 lps := BY ⟨Acq, trivial⟩
theorem U2 : Nm Try.prog T K8 := Sv U1 Aw (g := K7) (ls := [V 16, V 14, V 15]) (by kernel_rfl) fun aq e h1 h2 h3 => by
 subst h1
 rw [show K8.f = 44 from rfl, AfS] at h2 ⊢
 obtain ⟨ho, hr⟩ := TO e h3 h2
 obtain ⟨r0, r1, r2⟩ := hr
 refine ⟨⟨ho.1, ho.2, trivial⟩, ?_⟩
 exact ⟨_, _, _, _, _, _, rfl, rfl, r0, r1, ⟨[_], _, [_], _, rfl, rfl, rfl, rfl, (Ab r2 rfl), ⟨rfl, rfl⟩⟩⟩
def Ju : XG := { f := 28, ps := [.lst [.int .i64, .int .i64], .lst [.int .i64, .int .i64]], rs := [.lst [.int .i64, .int .i64] 32, .c false [.int .i64]], ok := fun _ => true, w := 4 }
noncomputable def GC : List (Nat × Func) := [(28, Try.f28)]
theorem Ih : AG Try.prog GC := ⟨Ag4, trivial⟩
noncomputable def Ll : Ctx := { At := At, eqs := eqs, fns := fun f => look f GC, ctr := [], lim := 30, big := [], lps := [] }
theorem Pz : XL Try.prog T Ll where
 At := AL
 eqs := AP
 mixed := mixed
 ctr := Af trivial
 fns := Am Ih
 big := Ag trivial
 lps := Ax rfl
theorem AcA : ∀ fn body c, Ll.fns Js.f = some fn → fn.body = some body → CK Js.p body = some (.loop c) → BT Try.prog T Js c :=
 CB Pz Aw (g := Oi) (back := some (V 8, [V 0, V 1, V 2, V 32, V 4, V 5, V 6, V 31])) (exs := [(V 9, [some (V 7)])]) (by kernel_rfl) (fun aq => by rw [show Js.id = 1900 from rfl, S6]; rfl) AaC fun aq e h1 h2 h3 => by
  rw [show Js.id = 1900 from rfl, S6] at h2 ⊢
  exact AaD aq e h1 h2 h3
noncomputable def XB : Ctx := { At := At, eqs := eqs, fns := fun f => look f GC, ctr := [], lim := 30, big := [], lps := [Js] }
theorem T7 : XL Try.prog T XB where
 At := AL
 eqs := AP
 mixed := mixed
 ctr := Af trivial
 fns := Am Ih
 big := Ag trivial
 lps := BY ⟨AcA, trivial⟩
theorem T8 : Nm Try.prog T Ju := Sv T7 Aw (g := Jt) (ls := [V 20, V 18, V 19]) (by kernel_rfl) fun aq e h1 h2 h3 => by
 subst h1
 rw [show Ju.f = 28 from rfl, AfT] at h2 ⊢
 obtain ⟨ho, hr⟩ := Q6 e h3 h2
 obtain ⟨r0, r1, r2⟩ := hr
 refine ⟨⟨ho.1, ho.2.1, ho.2.2, trivial⟩, ?_⟩
 exact ⟨_, _, _, _, _, _, rfl, rfl, r0, r1, ⟨[_], _, [_], _, rfl, rfl, rfl, rfl, (Ab r2 rfl), ⟨rfl, rfl⟩⟩⟩
end Rx.S
