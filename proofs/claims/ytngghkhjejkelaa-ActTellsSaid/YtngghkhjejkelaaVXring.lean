import Derived.Test.YtngghkhjejkelaaVXe
import Derived.Test.YtngghkhjejkelaaVYring
set_option linter.unusedVariables false
set_option linter.unusedSimpArgs false
namespace Rx.S
open Go Rx Go.Proofs
set_option maxRecDepth 100000
set_option maxHeartbeats 4000000
def Dk : DD := { f := 75, ps := [.c false [.int .i64], .c false [.int .i64]], rs := [(false, [.int .i64])], ok := fun _ => true }
noncomputable def J0 : List (Nat × Func) := [(75, Try.f75)]
theorem NU : AD Try.prog J0 := ⟨YC, trivial⟩
noncomputable def TY : Ctx := { As := As, eqs := eqs, fns := fun f => look f J0, ctr := [], lim := 30, big := [], lps := [] }
theorem QS : XL Try.prog T TY where
 As := AM
 eqs := AY
 mixed := mixed
 ctr := Ak trivial
 fns := An NU
 big := Al trivial
 lps := Av rfl
theorem F5 : AW Try.prog T Dk := AJ QS AH (g := IC) (ls := [V 7]) (by kernel_rfl) (fun aq => by rw [show Dk.f = 75 from rfl, Xx]; rfl) fun aq e h1 h2 h3 => by
 subst h1
 rw [show Dk.f = 75 from rfl, Xx] at h2 ⊢
 obtain ⟨ho, hr⟩ := PW e h3 h2
 have r0 := hr
 refine ⟨trivial, ?_⟩
 show Aa [.int .i64] (YL _).2 = Aa [.int .i64] [L.ev e (V 7)]
 exact (AS r0 rfl)
def Hh : DD := { f := 59, ps := [.c false [.int .i64], .c false [.int .i64]], rs := [(false, [.int .i64])], ok := fun _ => true }
noncomputable def Lx : List (Nat × Func) := [(59, Try.f59)]
theorem PX : AD Try.prog Lx := ⟨Aax, trivial⟩
noncomputable def UM : Ctx := { As := As, eqs := eqs, fns := fun f => look f Lx, ctr := [], lim := 30, big := [], lps := [] }
theorem SQ : XL Try.prog T UM where
 As := AM
 eqs := AY
 mixed := mixed
 ctr := Ak trivial
 fns := An PX
 big := Al trivial
 lps := Av rfl
theorem SR : AW Try.prog T Hh := AJ SQ AH (g := KD) (ls := [V 7]) (by kernel_rfl) (fun aq => by rw [show Hh.f = 59 from rfl, Xw]; rfl) fun aq e h1 h2 h3 => by
 subst h1
 rw [show Hh.f = 59 from rfl, Xw] at h2 ⊢
 obtain ⟨ho, hr⟩ := QU e h3 h2
 have r0 := hr
 refine ⟨⟨ho, trivial⟩, ?_⟩
 show Aa [.int .i64] (YK _).2 = Aa [.int .i64] [L.ev e (V 7)]
 exact (AS r0 rfl)
def Ec : DD := { f := 65, ps := [.c false [.int .i64], .c false [.int .i64]], rs := [(false, [.int .i64])], ok := fun _ => true }
noncomputable def J5 : List (Nat × Func) := [(65, Try.f65)]
theorem Od : AD Try.prog J5 := ⟨ZV, trivial⟩
noncomputable def T3 : Ctx := { As := As, eqs := eqs, fns := fun f => look f J5, ctr := [], lim := 30, big := [], lps := [] }
theorem Q5 : XL Try.prog T T3 where
 As := AM
 eqs := AY
 mixed := mixed
 ctr := Ak trivial
 fns := An Od
 big := Al trivial
 lps := Av rfl
theorem J6 : AW Try.prog T Ec := AJ Q5 AH (g := IU) (ls := [V 5]) (by kernel_rfl) (fun aq => by rw [show Ec.f = 65 from rfl, Xy]; rfl) fun aq e h1 h2 h3 => by
 subst h1
 rw [show Ec.f = 65 from rfl, Xy] at h2 ⊢
 obtain ⟨ho, hr⟩ := Qh e h3 h2
 have r0 := hr
 refine ⟨⟨ho.1, ho.2, trivial⟩, ?_⟩
 show Aa [.int .i64] (YM _).2 = Aa [.int .i64] [L.ev e (V 5)]
 exact (AS r0 rfl)
def DA : DD := { f := 48, ps := [.c false [.int .i64], .c false [.int .i64]], rs := [(false, [.int .i64])], ok := fun _ => true }
noncomputable def IV : List (Nat × Func) := [(48, Try.f48), (65, Try.f65)]
theorem MY : AD Try.prog IV := ⟨ZU, ZV, trivial⟩
noncomputable def S8 : Ctx := { As := As, eqs := eqs, fns := fun f => look f IV, ctr := [(65, Ec)], lim := 30, big := [], lps := [] }
theorem Qi : XL Try.prog T S8 where
 As := AM
 eqs := AY
 mixed := mixed
 ctr := Ak ⟨⟨rfl, J6⟩, trivial⟩
 fns := An MY
 big := Al trivial
 lps := Av rfl
theorem IW : AW Try.prog T DA := AJ Qi AH (g := Ht) (ls := [V 4]) (by kernel_rfl) (fun aq => by rw [show DA.f = 48 from rfl, Xz]; rfl) fun aq e h1 h2 h3 => by
 subst h1
 rw [show DA.f = 48 from rfl, Xz] at h2 ⊢
 obtain ⟨ho, hr⟩ := Oc e h3 h2
 have r0 := hr
 refine ⟨⟨ho, trivial⟩, ?_⟩
 show Aa [.int .i64] (YN _).2 = Aa [.int .i64] [L.ev e (V 4)]
 exact (AS r0 rfl)
def DT : DD := { f := 82, ps := [.c false [.int .i64], .c false [.int .i64], .c false [.int .i64]], rs := [(false, [.int .i64])], ok := fun _ => true }
noncomputable def HQ : List (Nat × Func) := [(82, Try.f82), (65, Try.f65)]
theorem LL : AD Try.prog HQ := ⟨AaM, ZV, trivial⟩
noncomputable def Q7 : Ctx := { As := As, eqs := eqs, fns := fun f => look f HQ, ctr := [(65, Ec)], lim := 30, big := [], lps := [] }
theorem Oe : XL Try.prog T Q7 where
 As := AM
 eqs := AY
 mixed := mixed
 ctr := Ak ⟨⟨rfl, J6⟩, trivial⟩
 fns := An LL
 big := Al trivial
 lps := Av rfl
theorem Of : AW Try.prog T DT := AJ Oe AH (g := Ga) (ls := [V 5]) (by kernel_rfl) (fun aq => by rw [show DT.f = 82 from rfl, XA]; rfl) fun aq e h1 h2 h3 => by
 subst h1
 rw [show DT.f = 82 from rfl, XA] at h2 ⊢
 obtain ⟨ho, hr⟩ := MZ e h3 h2
 have r0 := hr
 refine ⟨⟨ho, trivial⟩, ?_⟩
 show Aa [.int .i64] (YO _).2 = Aa [.int .i64] [L.ev e (V 5)]
 exact (AS r0 rfl)
end Rx.S
