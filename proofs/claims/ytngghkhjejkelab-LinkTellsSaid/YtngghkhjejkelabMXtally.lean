import Derived.Test.YtngghkhjejkelabMXe
import Derived.Test.YtngghkhjejkelabMYtally
set_option linter.unusedVariables false
set_option linter.unusedSimpArgs false
namespace Rx.S
open Go Rx Go.Proofs
set_option maxRecDepth 100000
set_option maxHeartbeats 4000000
def ER : DR := { f := 49, ps := [.c false [.int .i64], .c false [.int .i64], .c false [.int .i64]], rs := [(false, [.int .i64])], ok := fun _ => true }
noncomputable def JH : List (Nat × Func) := [(49, Try.f49)]
theorem NH : AG Try.prog JH := ⟨Ahl, trivial⟩
noncomputable def UJ : Ctx := { At := At, eqs := eqs, fns := fun f => look f JH, ctr := [], lim := 30, big := [], lps := [] }
theorem Qp : XL Try.prog T UJ where
 At := AL
 eqs := AP
 mixed := mixed
 ctr := Af trivial
 fns := Am NH
 big := Ag trivial
 lps := Ax rfl
theorem Qq : A2 Try.prog T ER := AR Qp Aw (g := Hm) (ls := [V 7]) (by kernel_rfl) (fun aq => by rw [show ER.f = 49 from rfl, AdK]; rfl) fun aq e h1 h2 h3 => by
 subst h1
 rw [show ER.f = 49 from rfl, AdK] at h2 ⊢
 obtain ⟨ho, hr⟩ := O0 e h3 h2
 have r0 := hr
 refine ⟨trivial, ?_⟩
 show Aa [.int .i64] (Ae3 _).2 = Aa [.int .i64] [L.ev e (V 7)]
 exact (Ab r0 rfl)
def IW : DR := { f := 35, ps := [.c false [.int .i64], .c false [.int .i64]], rs := [(false, [.int .i64])], ok := fun _ => true }
noncomputable def NK : List (Nat × Func) := [(35, Try.f35)]
theorem Tw : AG Try.prog NK := ⟨Aha, trivial⟩
noncomputable def Z2 : Ctx := { At := At, eqs := eqs, fns := fun f => look f NK, ctr := [], lim := 30, big := [], lps := [] }
theorem Xd : XL Try.prog T Z2 where
 At := AL
 eqs := AP
 mixed := mixed
 ctr := Af trivial
 fns := Am Tw
 big := Ag trivial
 lps := Ax rfl
theorem Xe : A2 Try.prog T IW := AR Xd Aw (g := MU) (ls := [V 7]) (by kernel_rfl) (fun aq => by rw [show IW.f = 35 from rfl, AdL]; rfl) fun aq e h1 h2 h3 => by
 subst h1
 rw [show IW.f = 35 from rfl, AdL] at h2 ⊢
 obtain ⟨ho, hr⟩ := UO e h3 h2
 have r0 := hr
 refine ⟨trivial, ?_⟩
 show Aa [.int .i64] (Ae4 _).2 = Aa [.int .i64] [L.ev e (V 7)]
 exact (Ab r0 rfl)
def FM : DR := { f := 33, ps := [.c false [.int .i64]], rs := [(false, [.int .i64])], ok := fun _ => true }
noncomputable def KX : List (Nat × Func) := [(33, Try.f33)]
theorem O5 : AG Try.prog KX := ⟨Ag8, trivial⟩
noncomputable def Xf : Ctx := { At := At, eqs := eqs, fns := fun f => look f KX, ctr := [], lim := 30, big := [], lps := [] }
theorem Tx : XL Try.prog T Xf where
 At := AL
 eqs := AP
 mixed := mixed
 ctr := Af trivial
 fns := Am O5
 big := Ag trivial
 lps := Ax rfl
theorem Tz : A2 Try.prog T FM := AR Tx Aw (g := IX) (ls := [V 2]) (by kernel_rfl) (fun aq => by rw [show FM.f = 33 from rfl, AdM]; rfl) fun aq e h1 h2 h3 => by
 subst h1
 rw [show FM.f = 33 from rfl, AdM] at h2 ⊢
 obtain ⟨ho, hr⟩ := Qu e h3 h2
 have r0 := hr
 refine ⟨trivial, ?_⟩
 show Aa [.int .i64] (Ae5 _).2 = Aa [.int .i64] [L.ev e (V 2)]
 exact (Ab r0 rfl)
def Gx : DR := { f := 60, ps := [.c false [.int .i64], .c false [.int .i64]], rs := [(false, [.int .i64])], ok := fun _ => true }
noncomputable def N4 : List (Nat × Func) := [(60, Try.f60)]
theorem TT : AG Try.prog N4 := ⟨Ahp, trivial⟩
noncomputable def Aaq : Ctx := { At := At, eqs := eqs, fns := fun f => look f N4, ctr := [], lim := 30, big := [], lps := [] }
theorem Xs : XL Try.prog T Aaq where
 At := AL
 eqs := AP
 mixed := mixed
 ctr := Af trivial
 fns := Am TT
 big := Ag trivial
 lps := Ax rfl
theorem N5 : A2 Try.prog T Gx := AR Xs Aw (g := MW) (ls := [V 9]) (by kernel_rfl) (fun aq => by rw [show Gx.f = 60 from rfl, AdO]; rfl) fun aq e h1 h2 h3 => by
 subst h1
 rw [show Gx.f = 60 from rfl, AdO] at h2 ⊢
 obtain ⟨ho, hr⟩ := U9 e h3 h2
 have r0 := hr
 refine ⟨trivial, ?_⟩
 show Aa [.int .i64] (Ae7 _).2 = Aa [.int .i64] [L.ev e (V 9)]
 exact (Ab r0 rfl)
def EA : DR := { f := 61, ps := [.c false [.int .i64]], rs := [(false, [.int .i64])], ok := fun _ => true }
noncomputable def Lb : List (Nat × Func) := [(61, Try.f61)]
theorem Pm : AG Try.prog Lb := ⟨Ahq, trivial⟩
noncomputable def Xt : Ctx := { At := At, eqs := eqs, fns := fun f => look f Lb, ctr := [], lim := 30, big := [], lps := [] }
theorem TU : XL Try.prog T Xt where
 At := AL
 eqs := AP
 mixed := mixed
 ctr := Af trivial
 fns := Am Pm
 big := Ag trivial
 lps := Ax rfl
theorem Ld : A2 Try.prog T EA := AR TU Aw (g := Ji) (ls := [V 5]) (by kernel_rfl) (fun aq => by rw [show EA.f = 61 from rfl, AdP]; rfl) fun aq e h1 h2 h3 => by
 subst h1
 rw [show EA.f = 61 from rfl, AdP] at h2 ⊢
 obtain ⟨ho, hr⟩ := QU e h3 h2
 have r0 := hr
 refine ⟨trivial, ?_⟩
 show Aa [.int .i64] (Ae8 _).2 = Aa [.int .i64] [L.ev e (V 5)]
 exact (Ab r0 rfl)
def EX : DR := { f := 51, ps := [.c false [.int .i64], .c false [.int .i64], .c false [.int .i64]], rs := [(false, [.int .i64])], ok := fun _ => true }
noncomputable def JX : List (Nat × Func) := [(51, Try.f51)]
theorem Oj : AG Try.prog JX := ⟨Ahn, trivial⟩
noncomputable def Vh : Ctx := { At := At, eqs := eqs, fns := fun f => look f JX, ctr := [], lim := 30, big := [], lps := [] }
theorem Q8 : XL Try.prog T Vh where
 At := AL
 eqs := AP
 mixed := mixed
 ctr := Af trivial
 fns := Am Oj
 big := Ag trivial
 lps := Ax rfl
theorem Q9 : A2 Try.prog T EX := AR Q8 Aw (g := HF) (ls := [V 15]) (by kernel_rfl) (fun aq => by rw [show EX.f = 51 from rfl, AdN]; rfl) fun aq e h1 h2 h3 => by
 subst h1
 rw [show EX.f = 51 from rfl, AdN] at h2 ⊢
 obtain ⟨ho, hr⟩ := PE e h3 h2
 have r0 := hr
 refine ⟨trivial, ?_⟩
 show Aa [.int .i64] (Ae6 _).2 = Aa [.int .i64] [L.ev e (V 15)]
 exact (Ab r0 rfl)
end Rx.S
