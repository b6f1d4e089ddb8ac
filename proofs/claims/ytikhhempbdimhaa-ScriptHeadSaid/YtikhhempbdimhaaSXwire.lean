import Derived.Test.YtikhhempbdimhaaSXe
import Derived.Test.YtikhhempbdimhaaSYwire
set_option linter.unusedVariables false
set_option linter.unusedSimpArgs false
namespace Rx.S
open Go Rx Go.Proofs
set_option maxRecDepth 100000
set_option maxHeartbeats 4000000
def Ep : J7 := { f := 62, ps := [.c false [.int .u32], .c false [.int .u8]], rs := [(false, [.int .u32])], ok := fun _ => true }
noncomputable def Ge : List (Nat × Func) := [(62, Try.f62)]
theorem HG : BR Try.prog Ge := ⟨AcY, trivial⟩
noncomputable def Kp : Ctx := { Ay := Ay, eqs := eqs, fns := fun f => look f Ge, ctr := [], lim := 30, big := [], lps := [] }
theorem NZ : XL Try.prog T Kp where
 Ay := AZ
 eqs := A4
 mixed := mixed
 ctr := Am trivial
 fns := Ar HG
 big := An trivial
 lps := Bw rfl
theorem YN : ∀ fn body c, Kp.fns Hm.f = some fn → fn.body = some body → Bx Hm.p body = some (.loop c) → A2 Try.prog T Hm c :=
 Bf NZ AI (g := LY) (back := some (V 6, [V 15, V 1, V 16, V 3, V 4, V 5])) (exs := [(V 7, [some (V 0)])]) (by kernel_rfl) (fun aq => by rw [show Hm.id = 1030 from rfl, PM]; rfl) Wd fun aq e h1 h2 h3 => by
  rw [show Hm.id = 1030 from rfl, PM] at h2 ⊢
  exact We aq e h1 h2 h3
noncomputable def UC : Ctx := { Ay := Ay, eqs := eqs, fns := fun f => look f Ge, ctr := [], lim := 30, big := [], lps := [Hm] }
theorem QW : XL Try.prog T UC where
 Ay := AZ
 eqs := A4
 mixed := mixed
 ctr := Am trivial
 fns := Ar HG
 big := An trivial
 lps := AU ⟨YN, trivial⟩
theorem Kq : CJ Try.prog T Ep := Cr QW AI (g := I9) (ls := [V 5]) (by kernel_rfl) (fun aq => by rw [show Ep.f = 62 from rfl, Aay]; rfl) fun aq e h1 h2 h3 => by
 subst h1
 rw [show Ep.f = 62 from rfl, Aay] at h2 ⊢
 obtain ⟨ho, hr⟩ := Qh e h3 h2
 have r0 := hr
 refine ⟨⟨ho, trivial⟩, ?_⟩
 show Ag [.int .u32] (Abh _).2 = Ag [.int .u32] [L.ev e (V 5)]
 exact (Ya r0 rfl)
def FX : J7 := { f := 60, ps := [.c false [.str]], rs := [(false, [.int .u32])], ok := fun _ => true }
noncomputable def Gf : List (Nat × Func) := [(60, Try.f60), (62, Try.f62)]
theorem HH : BR Try.prog Gf := ⟨AcW, AcY, trivial⟩
noncomputable def Kr : Ctx := { Ay := Ay, eqs := eqs, fns := fun f => look f Gf, ctr := [(62, Ep)], lim := 30, big := [], lps := [] }
theorem N0 : XL Try.prog T Kr where
 Ay := AZ
 eqs := A4
 mixed := mixed
 ctr := Am ⟨⟨rfl, Kq⟩, trivial⟩
 fns := Ar HH
 big := An trivial
 lps := Bw rfl
theorem YO : ∀ fn body c, Kr.fns Hl.f = some fn → fn.body = some body → Bx Hl.p body = some (.loop c) → A2 Try.prog T Hl c :=
 Bf N0 AI (g := LX) (back := some (V 4, [V 0, V 11, V 13])) (exs := [(V 5, [some (V 1)])]) (by kernel_rfl) (fun aq => by rw [show Hl.id = 1050 from rfl, PO]; rfl) V9 fun aq e h1 h2 h3 => by
  rw [show Hl.id = 1050 from rfl, PO] at h2 ⊢
  exact Wc aq e h1 h2 h3
noncomputable def UD : Ctx := { Ay := Ay, eqs := eqs, fns := fun f => look f Gf, ctr := [(62, Ep)], lim := 30, big := [], lps := [Hl] }
theorem QX : XL Try.prog T UD where
 Ay := AZ
 eqs := A4
 mixed := mixed
 ctr := Am ⟨⟨rfl, Kq⟩, trivial⟩
 fns := Ar HH
 big := An trivial
 lps := AU ⟨YO, trivial⟩
theorem QY : CJ Try.prog T FX := Cr QX AI (g := I8) (ls := [V 3]) (by kernel_rfl) (fun aq => by rw [show FX.f = 60 from rfl, AaA]; rfl) fun aq e h1 h2 h3 => by
 subst h1
 rw [show FX.f = 60 from rfl, AaA] at h2 ⊢
 obtain ⟨ho, hr⟩ := Qg e h3 h2
 have r0 := hr
 refine ⟨⟨ho, trivial⟩, ?_⟩
 show Ag [.int .u32] (Abj _).2 = Ag [.int .u32] [L.ev e (V 3)]
 exact (Ya r0 rfl)
def EW : J7 := { f := 59, ps := [.c false [.int .u32]], rs := [(false, [.str])], ok := fun _ => true }
noncomputable def Ja : List (Nat × Func) := [(59, Try.f59)]
theorem Nf : BR Try.prog Ja := ⟨AcV, trivial⟩
noncomputable def S5 : Ctx := { Ay := Ay, eqs := eqs, fns := fun f => look f Ja, ctr := [], lim := 30, big := [], lps := [] }
theorem Qi : XL Try.prog T S5 where
 Ay := AZ
 eqs := A4
 mixed := mixed
 ctr := Am trivial
 fns := Ar Nf
 big := An trivial
 lps := Bw rfl
theorem Qj : CJ Try.prog T EW := Cr Qi AI (g := Hn) (ls := [V 12]) (by kernel_rfl) (fun aq => by rw [show EW.f = 59 from rfl, AaC]; rfl) fun aq e h1 h2 h3 => by
 subst h1
 rw [show EW.f = 59 from rfl, AaC] at h2 ⊢
 obtain ⟨ho, hr⟩ := N1 e h3 h2
 have r0 := hr
 refine ⟨trivial, ?_⟩
 show Ag [.str] (Abl _).2 = Ag [.str] [L.ev e (V 12)]
 exact (Z3 r0 rfl)
def Ea : J7 := { f := 58, ps := [.c true [.int .i64, .int .i64]], rs := [(false, [.bool])], ok := fun _ => true }
noncomputable def HI : List (Nat × Func) := [(58, Try.f58)]
theorem LZ : BR Try.prog HI := ⟨AcU, trivial⟩
noncomputable def QZ : Ctx := { Ay := Ay, eqs := eqs, fns := fun f => look f HI, ctr := [], lim := 30, big := [], lps := [] }
theorem N2 : XL Try.prog T QZ where
 Ay := AZ
 eqs := A4
 mixed := mixed
 ctr := Am trivial
 fns := Ar LZ
 big := An trivial
 lps := Bw rfl
theorem N3 : CJ Try.prog T Ea := Cr N2 AI (g := Gg) (ls := [V 9]) (by kernel_rfl) (fun aq => by rw [show Ea.f = 58 from rfl, AaE]; rfl) fun aq e h1 h2 h3 => by
 subst h1
 rw [show Ea.f = 58 from rfl, AaE] at h2 ⊢
 obtain ⟨ho, hr⟩ := Ng e h3 h2
 have r0 := hr
 refine ⟨trivial, ?_⟩
 show Ag [.bool] (Abn _).2 = Ag [.bool] [L.ev e (V 9)]
 exact (SZ r0 rfl)
def Er : J7 := { f := 52, ps := [.c true [.int .i64, .int .i64]], rs := [(false, [.str])], ok := fun _ => true }
noncomputable def Ks : List (Nat × Func) := [(52, Try.f52), (58, Try.f58), (60, Try.f60), (59, Try.f59)]
theorem N4 : BR Try.prog Ks := ⟨AcQ, AcU, AcW, AcV, trivial⟩
noncomputable def UE : Ctx := { Ay := Ay, eqs := eqs, fns := fun f => look f Ks, ctr := [(60, FX), (59, EW), (58, Ea)], lim := 30, big := [], lps := [] }
theorem Q0 : XL Try.prog T UE where
 Ay := AZ
 eqs := A4
 mixed := mixed
 ctr := Am ⟨⟨rfl, QY⟩, ⟨rfl, Qj⟩, ⟨rfl, N3⟩, trivial⟩
 fns := Ar N4
 big := An trivial
 lps := Bw rfl
theorem Kt : CJ Try.prog T Er := Cr Q0 AI (g := I7) (ls := [V 34]) (by kernel_rfl) (fun aq => by rw [show Er.f = 52 from rfl, AaF]; rfl) fun aq e h1 h2 h3 => by
 subst h1
 rw [show Er.f = 52 from rfl, AaF] at h2 ⊢
 obtain ⟨ho, hr⟩ := Qf e h3 h2
 have r0 := hr
 refine ⟨⟨ho.1, ho.2.1, ho.2.2.1, ho.2.2.2.1, ho.2.2.2.2, trivial⟩, ?_⟩
 show Ag [.str] (Abo _).2 = Ag [.str] [L.ev e (V 34)]
 exact (Z3 r0 rfl)
def GP : J7 := { f := 61, ps := [.c false [.int .u32], .c false [.int .u8]], rs := [(false, [.int .u32])], ok := fun _ => true }
noncomputable def Jl : List (Nat × Func) := [(61, Try.f61)]
theorem Ku : BR Try.prog Jl := ⟨AcX, trivial⟩
noncomputable def NQ : Ctx := { Ay := Ay, eqs := eqs, fns := fun f => look f Jl, ctr := [], lim := 30, big := [], lps := [] }
theorem Q4 : XL Try.prog T NQ where
 Ay := AZ
 eqs := A4
 mixed := mixed
 ctr := Am trivial
 fns := Ar Ku
 big := An trivial
 lps := Bw rfl
theorem YU : ∀ fn body c, NQ.fns Hv.f = some fn → fn.body = some body → Bx Hv.p body = some (.loop c) → A2 Try.prog T Hv c :=
 Bf Q4 AI (g := Mk) (back := some (V 6, [V 12, V 1, V 2, V 3, V 4, V 13])) (exs := [(V 7, [some (V 0)])]) (by kernel_rfl) (fun aq => by rw [show Hv.id = 1020 from rfl, PL]; rfl) WK fun aq e h1 h2 h3 => by
  rw [show Hv.id = 1020 from rfl, PL] at h2 ⊢
  exact WL aq e h1 h2 h3
noncomputable def YV : Ctx := { Ay := Ay, eqs := eqs, fns := fun f => look f Jl, ctr := [], lim := 30, big := [], lps := [Hv] }
theorem UU : XL Try.prog T YV where
 Ay := AZ
 eqs := A4
 mixed := mixed
 ctr := Am trivial
 fns := Ar Ku
 big := An trivial
 lps := AU ⟨YU, trivial⟩
theorem NR : CJ Try.prog T GP := Cr UU AI (g := Nu) (ls := [V 5]) (by kernel_rfl) (fun aq => by rw [show GP.f = 61 from rfl, Aax]; rfl) fun aq e h1 h2 h3 => by
 subst h1
 rw [show GP.f = 61 from rfl, Aax] at h2 ⊢
 obtain ⟨ho, hr⟩ := Ta e h3 h2
 have r0 := hr
 refine ⟨⟨ho, trivial⟩, ?_⟩
 show Ag [.int .u32] (Abg _).2 = Ag [.int .u32] [L.ev e (V 5)]
 exact (Ya r0 rfl)
def JZ : J7 := { f := 57, ps := [.c false [.str]], rs := [(false, [.int .u32])], ok := fun _ => true }
noncomputable def Jm : List (Nat × Func) := [(57, Try.f57), (61, Try.f61)]
theorem Kv : BR Try.prog Jm := ⟨AcT, AcX, trivial⟩
noncomputable def NS : Ctx := { Ay := Ay, eqs := eqs, fns := fun f => look f Jm, ctr := [(61, GP)], lim := 30, big := [], lps := [] }
theorem Q5 : XL Try.prog T NS where
 Ay := AZ
 eqs := A4
 mixed := mixed
 ctr := Am ⟨⟨rfl, NR⟩, trivial⟩
 fns := Ar Kv
 big := An trivial
 lps := Bw rfl
theorem YW : ∀ fn body c, NS.fns Hu.f = some fn → fn.body = some body → Bx Hu.p body = some (.loop c) → A2 Try.prog T Hu c :=
 Bf Q5 AI (g := Mj) (back := some (V 5, [V 0, V 12, V 2, V 14, V 4])) (exs := [(V 6, [some (V 1)])]) (by kernel_rfl) (fun aq => by rw [show Hu.id = 1040 from rfl, PN]; rfl) WI fun aq e h1 h2 h3 => by
  rw [show Hu.id = 1040 from rfl, PN] at h2 ⊢
  exact WJ aq e h1 h2 h3
noncomputable def YX : Ctx := { Ay := Ay, eqs := eqs, fns := fun f => look f Jm, ctr := [(61, GP)], lim := 30, big := [], lps := [Hu] }
theorem UW : XL Try.prog T YX where
 Ay := AZ
 eqs := A4
 mixed := mixed
 ctr := Am ⟨⟨rfl, NR⟩, trivial⟩
 fns := Ar Kv
 big := An trivial
 lps := AU ⟨YW, trivial⟩
theorem UX : CJ Try.prog T JZ := Cr UW AI (g := Nt) (ls := [V 5]) (by kernel_rfl) (fun aq => by rw [show JZ.f = 57 from rfl, Aaz]; rfl) fun aq e h1 h2 h3 => by
 subst h1
 rw [show JZ.f = 57 from rfl, Aaz] at h2 ⊢
 obtain ⟨ho, hr⟩ := S9 e h3 h2
 have r0 := hr
 refine ⟨⟨ho, trivial⟩, ?_⟩
 show Ag [.int .u32] (Abi _).2 = Ag [.int .u32] [L.ev e (V 5)]
 exact (Ya r0 rfl)
def Hw : J7 := { f := 56, ps := [.c false [.int .u32]], rs := [(false, [.str])], ok := fun _ => true }
noncomputable def Ml : List (Nat × Func) := [(56, Try.f56)]
theorem Qn : BR Try.prog Ml := ⟨AcS, trivial⟩
noncomputable def WM : Ctx := { Ay := Ay, eqs := eqs, fns := fun f => look f Ml, ctr := [], lim := 30, big := [], lps := [] }
theorem Tb : XL Try.prog T WM where
 Ay := AZ
 eqs := A4
 mixed := mixed
 ctr := Am trivial
 fns := Ar Qn
 big := An trivial
 lps := Bw rfl
theorem Tc : CJ Try.prog T Hw := Cr Tb AI (g := K4) (ls := [V 9]) (by kernel_rfl) (fun aq => by rw [show Hw.f = 56 from rfl, AaB]; rfl) fun aq e h1 h2 h3 => by
 subst h1
 rw [show Hw.f = 56 from rfl, AaB] at h2 ⊢
 obtain ⟨ho, hr⟩ := Q6 e h3 h2
 have r0 := hr
 refine ⟨trivial, ?_⟩
 show Ag [.str] (Abk _).2 = Ag [.str] [L.ev e (V 9)]
 exact (Z3 r0 rfl)
def EZ : J7 := { f := 55, ps := [.c true [.int .i64, .int .i64]], rs := [(false, [.bool])], ok := fun _ => true }
noncomputable def Jn : List (Nat × Func) := [(55, Try.f55)]
theorem Nv : BR Try.prog Jn := ⟨AcR, trivial⟩
noncomputable def Td : Ctx := { Ay := Ay, eqs := eqs, fns := fun f => look f Jn, ctr := [], lim := 30, big := [], lps := [] }
theorem Qo : XL Try.prog T Td where
 Ay := AZ
 eqs := A4
 mixed := mixed
 ctr := Am trivial
 fns := Ar Nv
 big := An trivial
 lps := Bw rfl
theorem Qp : CJ Try.prog T EZ := Cr Qo AI (g := Hx) (ls := [V 9]) (by kernel_rfl) (fun aq => by rw [show EZ.f = 55 from rfl, AaD]; rfl) fun aq e h1 h2 h3 => by
 subst h1
 rw [show EZ.f = 55 from rfl, AaD] at h2 ⊢
 obtain ⟨ho, hr⟩ := Ob e h3 h2
 have r0 := hr
 refine ⟨trivial, ?_⟩
 show Ag [.bool] (Abm _).2 = Ag [.bool] [L.ev e (V 9)]
 exact (SZ r0 rfl)
def Bb : J7 := { f := 50, ps := [.c true [.int .i64, .int .i64]], rs := [(false, [.str])], ok := fun _ => true }
noncomputable def Mm : List (Nat × Func) := [(50, Try.f50), (55, Try.f55), (57, Try.f57), (56, Try.f56)]
theorem Qq : BR Try.prog Mm := ⟨Ab9, AcR, AcT, AcS, trivial⟩
noncomputable def WN : Ctx := { Ay := Ay, eqs := eqs, fns := fun f => look f Mm, ctr := [(57, JZ), (56, Hw), (55, EZ)], lim := 30, big := [], lps := [] }
theorem Te : XL Try.prog T WN where
 Ay := AZ
 eqs := A4
 mixed := mixed
 ctr := Am ⟨⟨rfl, UX⟩, ⟨rfl, Tc⟩, ⟨rfl, Qp⟩, trivial⟩
 fns := Ar Qq
 big := An trivial
 lps := Bw rfl
theorem A9 : CJ Try.prog T Bb := Cr Te AI (g := K3) (ls := [V 34]) (by kernel_rfl) (fun aq => by rw [show Bb.f = 50 from rfl, Ym]; rfl) fun aq e h1 h2 h3 => by
 subst h1
 rw [show Bb.f = 50 from rfl, Ym] at h2 ⊢
 obtain ⟨ho, hr⟩ := Q3 e h3 h2
 have r0 := hr
 refine ⟨⟨ho.1, ho.2.1, ho.2.2.1, ho.2.2.2.1, ho.2.2.2.2, trivial⟩, ?_⟩
 show Ag [.str] (Aau _).2 = Ag [.str] [L.ev e (V 34)]
 exact (Z3 r0 rfl)
end Rx.S
