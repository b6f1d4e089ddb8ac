import Derived.Test.YtngghkhjejkelabMXe
import Derived.Test.YtngghkhjejkelabMYring
set_option linter.unusedVariables false
set_option linter.unusedSimpArgs false
namespace Rx.S
open Go Rx Go.Proofs
set_option maxRecDepth 100000
set_option maxHeartbeats 4000000
def IS : DR := { f := 50, ps := [.c false [.int .i64], .c false [.int .i64]], rs := [(false, [.int .i64])], ok := fun _ => true }
noncomputable def NI : List (Nat × Func) := [(50, Try.f50)]
theorem Tm : AG Try.prog NI := ⟨Ahm, trivial⟩
noncomputable def ZY : Ctx := { At := At, eqs := eqs, fns := fun f => look f NI, ctr := [], lim := 30, big := [], lps := [] }
theorem W6 : XL Try.prog T ZY where
 At := AL
 eqs := AP
 mixed := mixed
 ctr := Af trivial
 fns := Am Tm
 big := Ag trivial
 lps := Ax rfl
theorem W7 : A2 Try.prog T IS := AR W6 Aw (g := MS) (ls := [V 7]) (by kernel_rfl) (fun aq => by rw [show IS.f = 50 from rfl, AdQ]; rfl) fun aq e h1 h2 h3 => by
 subst h1
 rw [show IS.f = 50 from rfl, AdQ] at h2 ⊢
 obtain ⟨ho, hr⟩ := UK e h3 h2
 have r0 := hr
 refine ⟨⟨ho, trivial⟩, ?_⟩
 show Aa [.int .i64] (Ae9 _).2 = Aa [.int .i64] [L.ev e (V 7)]
 exact (Ab r0 rfl)
def GW : DR := { f := 36, ps := [.c false [.int .i64], .c false [.int .i64]], rs := [(false, [.int .i64])], ok := fun _ => true }
noncomputable def Mi : List (Nat × Func) := [(36, Try.f36)]
theorem Qv : AG Try.prog Mi := ⟨Ahb, trivial⟩
noncomputable def YK : Ctx := { At := At, eqs := eqs, fns := fun f => look f Mi, ctr := [], lim := 30, big := [], lps := [] }
theorem UP : XL Try.prog T YK where
 At := AL
 eqs := AP
 mixed := mixed
 ctr := Af trivial
 fns := Am Qv
 big := Ag trivial
 lps := Ax rfl
theorem UQ : A2 Try.prog T GW := AR UP Aw (g := KY) (ls := [V 7]) (by kernel_rfl) (fun aq => by rw [show GW.f = 36 from rfl, AdR]; rfl) fun aq e h1 h2 h3 => by
 subst h1
 rw [show GW.f = 36 from rfl, AdR] at h2 ⊢
 obtain ⟨ho, hr⟩ := TA e h3 h2
 have r0 := hr
 refine ⟨trivial, ?_⟩
 show Aa [.int .i64] (Afa _).2 = Aa [.int .i64] [L.ev e (V 7)]
 exact (Ab r0 rfl)
def H9 : DR := { f := 66, ps := [.c false [.int .i64], .c false [.int .i64], .c false [.int .i64]], rs := [(false, [.int .i64])], ok := fun _ => true }
noncomputable def P7 : List (Nat × Func) := [(66, Try.f66)]
theorem UT : AG Try.prog P7 := ⟨Aht, trivial⟩
noncomputable def Ack : Ctx := { At := At, eqs := eqs, fns := fun f => look f P7, ctr := [], lim := 30, big := [], lps := [] }
theorem YN : XL Try.prog T Ack where
 At := AL
 eqs := AP
 mixed := mixed
 ctr := Af trivial
 fns := Am UT
 big := Ag trivial
 lps := Ax rfl
theorem P8 : A2 Try.prog T H9 := AR YN Aw (g := O8) (ls := [V 5]) (by kernel_rfl) (fun aq => by rw [show H9.f = 66 from rfl, AdS]; rfl) fun aq e h1 h2 h3 => by
 subst h1
 rw [show H9.f = 66 from rfl, AdS] at h2 ⊢
 obtain ⟨ho, hr⟩ := Xg e h3 h2
 have r0 := hr
 refine ⟨⟨ho, trivial⟩, ?_⟩
 show Aa [.int .i64] (Afb _).2 = Aa [.int .i64] [L.ev e (V 5)]
 exact (Ab r0 rfl)
def Ef : DR := { f := 52, ps := [.c false [.int .i64], .c false [.int .i64]], rs := [(false, [.int .i64])], ok := fun _ => true }
noncomputable def Mq : List (Nat × Func) := [(52, Try.f52)]
theorem QW : AG Try.prog Mq := ⟨AeU, trivial⟩
noncomputable def Y2 : Ctx := { At := At, eqs := eqs, fns := fun f => look f Mq, ctr := [], lim := 30, big := [], lps := [] }
theorem Va : XL Try.prog T Y2 where
 At := AL
 eqs := AP
 mixed := mixed
 ctr := Af trivial
 fns := Am QW
 big := Ag trivial
 lps := Ax rfl
theorem Hw : A2 Try.prog T Ef := AR Va Aw (g := Le) (ls := [V 5]) (by kernel_rfl) (fun aq => by rw [show Ef.f = 52 from rfl, AdT]; rfl) fun aq e h1 h2 h3 => by
 subst h1
 rw [show Ef.f = 52 from rfl, AdT] at h2 ⊢
 obtain ⟨ho, hr⟩ := TV e h3 h2
 have r0 := hr
 refine ⟨⟨ho.1, ho.2, trivial⟩, ?_⟩
 show Aa [.int .i64] (Afc _).2 = Aa [.int .i64] [L.ev e (V 5)]
 exact (Ab r0 rfl)
def EB : DR := { f := 62, ps := [.c false [.int .i64], .c false [.int .i64]], rs := [(false, [.int .i64])], ok := fun _ => true }
noncomputable def Lf : List (Nat × Func) := [(62, Try.f62), (52, Try.f52)]
theorem Pn : AG Try.prog Lf := ⟨Ahr, AeU, trivial⟩
noncomputable def Xu : Ctx := { At := At, eqs := eqs, fns := fun f => look f Lf, ctr := [(52, Ef)], lim := 30, big := [], lps := [] }
theorem TW : XL Try.prog T Xu where
 At := AL
 eqs := AP
 mixed := mixed
 ctr := Af ⟨⟨rfl, Hw⟩, trivial⟩
 fns := Am Pn
 big := Ag trivial
 lps := Ax rfl
theorem Lg : A2 Try.prog T EB := AR TW Aw (g := Jj) (ls := [V 4]) (by kernel_rfl) (fun aq => by rw [show EB.f = 62 from rfl, AdU]; rfl) fun aq e h1 h2 h3 => by
 subst h1
 rw [show EB.f = 62 from rfl, AdU] at h2 ⊢
 obtain ⟨ho, hr⟩ := QV e h3 h2
 have r0 := hr
 refine ⟨⟨ho, trivial⟩, ?_⟩
 show Aa [.int .i64] (Afd _).2 = Aa [.int .i64] [L.ev e (V 4)]
 exact (Ab r0 rfl)
def Jl : DR := { f := 69, ps := [.c false [.int .i64], .c false [.int .i64], .c false [.int .i64]], rs := [(false, [.int .i64])], ok := fun _ => true }
noncomputable def N8 : List (Nat × Func) := [(69, Try.f69), (52, Try.f52)]
theorem TZ : AG Try.prog N8 := ⟨Ahv, AeU, trivial⟩
noncomputable def Aat : Ctx := { At := At, eqs := eqs, fns := fun f => look f N8, ctr := [(52, Ef)], lim := 30, big := [], lps := [] }
theorem Xw : XL Try.prog T Aat where
 At := AL
 eqs := AP
 mixed := mixed
 ctr := Af ⟨⟨rfl, Hw⟩, trivial⟩
 fns := Am TZ
 big := Ag trivial
 lps := Ax rfl
theorem Xx : A2 Try.prog T Jl := AR Xw Aw (g := MX) (ls := [V 5]) (by kernel_rfl) (fun aq => by rw [show Jl.f = 69 from rfl, AdV]; rfl) fun aq e h1 h2 h3 => by
 subst h1
 rw [show Jl.f = 69 from rfl, AdV] at h2 ⊢
 obtain ⟨ho, hr⟩ := Vb e h3 h2
 have r0 := hr
 refine ⟨⟨ho, trivial⟩, ?_⟩
 show Aa [.int .i64] (Afe _).2 = Aa [.int .i64] [L.ev e (V 5)]
 exact (Ab r0 rfl)
end Rx.S
