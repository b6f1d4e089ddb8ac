import Derived.Test.YtngghkhjejkelaaVXe
import Derived.Test.YtngghkhjejkelaaVXconf
import Derived.Test.YtngghkhjejkelaaVXring
import Derived.Test.YtngghkhjejkelaaVXtally
import Derived.Test.YtngghkhjejkelaaVYnode
set_option linter.unusedVariables false
set_option linter.unusedSimpArgs false
namespace Rx.S
open Go Rx Go.Proofs
set_option maxRecDepth 100000
set_option maxHeartbeats 4000000
def BF : DD := { f := 29, ps := [.c false [.int .i64], .c true [.int .i64, .int .i64, .int .i64, .int .i64]], rs := [(false, [.bool])], ok := fun _ => true }
noncomputable def HI : List (Nat × Func) := [(29, Try.f29), (38, Try.f38)]
theorem Lu : AD Try.prog HI := ⟨V5, Yz, trivial⟩
noncomputable def QQ : Ctx := { As := As, eqs := eqs, fns := fun f => look f HI, ctr := [(38, Cx)], lim := 30, big := [], lps := [] }
theorem NT : XL Try.prog T QQ where
 As := AM
 eqs := AY
 mixed := mixed
 ctr := Ak ⟨⟨rfl, El⟩, trivial⟩
 fns := An Lu
 big := Al trivial
 lps := Av rfl
theorem Cr : AW Try.prog T BF := AJ NT AH (g := F3) (ls := [V 52]) (by kernel_rfl) (fun aq => by rw [show BF.f = 29 from rfl, XQ]; rfl) fun aq e h1 h2 h3 => by
 subst h1
 rw [show BF.f = 29 from rfl, XQ] at h2 ⊢
 obtain ⟨ho, hr⟩ := MF e h3 h2
 have r0 := hr
 refine ⟨⟨ho, trivial⟩, ?_⟩
 show Aa [.bool] (Y3 _).2 = Aa [.bool] [L.ev e (V 52)]
 exact (Iu r0 rfl)
def ED : DD := { f := 57, ps := [.c false [.int .i64], .c false [.int .i64]], rs := [(true, [.int .i64, .int .i64, .int .i64, .int .i64]), (false, [.int .i64])], ok := fun _ => true }
noncomputable def IF : List (Nat × Func) := [(57, Try.f57), (37, Try.f37)]
theorem MJ : AD Try.prog IF := ⟨Aav, ZS, trivial⟩
noncomputable def SU : Ctx := { As := As, eqs := eqs, fns := fun f => look f IF, ctr := [(37, Dz)], lim := 30, big := [], lps := [] }
theorem PZ : XL Try.prog T SU where
 As := AM
 eqs := AY
 mixed := mixed
 ctr := Ak ⟨⟨rfl, IE⟩, trivial⟩
 fns := An MJ
 big := Al trivial
 lps := Av rfl
theorem P0 : AW Try.prog T ED := AJ PZ AH (g := Hi) (ls := [V 21, N 0, N 0, N 0, V 20]) (by kernel_rfl) (fun aq => by rw [show ED.f = 57 from rfl, XO]; rfl) fun aq e h1 h2 h3 => by
 subst h1
 rw [show ED.f = 57 from rfl, XO] at h2 ⊢
 obtain ⟨ho, hr⟩ := NY e h3 _ rfl h2
 obtain ⟨r0, r1, r2, r3, r4⟩ := hr
 refine ⟨⟨ho, trivial⟩, ?_⟩
 show Aa [.int .i64, .int .i64, .int .i64, .int .i64, .int .i64] (Y1 _).2 = Aa [.int .i64, .int .i64, .int .i64, .int .i64, .int .i64] [L.ev e (V 21), L.ev e (N 0), L.ev e (N 0), L.ev e (N 0), L.ev e (V 20)]
 exact (AS r0 (AS r1 (AS r2 (AS r3 (AS r4 rfl)))))
def B1 : DD := { f := 41, ps := [.c false [.int .i64], .c true [.int .i64, .int .i64, .int .i64, .int .i64]], rs := [(false, [.bool])], ok := fun _ => true }
noncomputable def IG : List (Nat × Func) := [(41, Try.f41), (57, Try.f57), (58, Try.f58), (59, Try.f59)]
theorem MK : AD Try.prog IG := ⟨V6, Aav, Aaw, Aax, trivial⟩
noncomputable def SW : Ctx := { As := As, eqs := eqs, fns := fun f => look f IG, ctr := [(58, DR), (59, Hh), (57, ED)], lim := 30, big := [], lps := [] }
theorem P1 : XL Try.prog T SW where
 As := AM
 eqs := AY
 mixed := mixed
 ctr := Ak ⟨⟨rfl, NX⟩, ⟨rfl, SR⟩, ⟨rfl, P0⟩, trivial⟩
 fns := An MK
 big := Al trivial
 lps := Av rfl
theorem CN : AW Try.prog T B1 := AJ P1 AH (g := Hg) (ls := [V 56]) (by kernel_rfl) (fun aq => by rw [show B1.f = 41 from rfl, XP]; rfl) fun aq e h1 h2 h3 => by
 subst h1
 rw [show B1.f = 41 from rfl, XP] at h2 ⊢
 obtain ⟨ho, hr⟩ := NV e h3 h2
 have r0 := hr
 refine ⟨⟨ho.1, ho.2.1, ho.2.2, trivial⟩, ?_⟩
 show Aa [.bool] (Y2 _).2 = Aa [.bool] [L.ev e (V 56)]
 exact (Iu r0 rfl)
end Rx.S
