import Derived.Test.YtngghkhjejkelaaVXe
import Derived.Test.YtngghkhjejkelaaVYhear
set_option linter.unusedVariables false
set_option linter.unusedSimpArgs false
namespace Rx.S
open Go Rx Go.Proofs
set_option maxRecDepth 100000
set_option maxHeartbeats 4000000
def Eb : DD := { f := 68, ps := [.c true [.int .i64, .int .i64, .int .i64, .int .i64]], rs := [(false, [.int .i64]), (false, [.bool])], ok := fun _ => true }
noncomputable def J3 : List (Nat × Func) := [(68, Try.f68), (83, Try.f83), (92, Try.f92), (84, Try.f84)]
theorem N4 : AD Try.prog J3 := ⟨ZX, Z0, Z3, Aa5, trivial⟩
noncomputable def T1 : Ctx := { As := As, eqs := eqs, fns := fun f => look f J3, ctr := [], lim := 30, big := [], lps := [] }
theorem Q0 : XL Try.prog T T1 where
 As := AM
 eqs := AY
 mixed := mixed
 ctr := Ak trivial
 fns := An N4
 big := Al trivial
 lps := Av rfl
theorem J4 : AW Try.prog T Eb := AJ Q0 AH (g := IK) (ls := [V 40, V 41]) (by kernel_rfl) (fun aq => by rw [show Eb.f = 68 from rfl, XV]; rfl) fun aq e h1 h2 h3 => by
 subst h1
 rw [show Eb.f = 68 from rfl, XV] at h2 ⊢
 obtain ⟨ho, hr⟩ := P7 e h3 h2
 obtain ⟨r0, r1⟩ := hr
 refine ⟨⟨ho, trivial⟩, ?_⟩
 show Aa [.int .i64, .bool] (Y8 _).2 = Aa [.int .i64, .bool] [L.ev e (V 40), L.ev e (V 41)]
 exact (AS r0 (Iu r1 rfl))
def CS : DD := { f := 69, ps := [.c true [.int .i64, .int .i64, .int .i64, .int .i64], .c false [.int .i64]], rs := [(false, [.int .i64]), (false, [.bool])], ok := fun _ => true }
noncomputable def IL : List (Nat × Func) := [(69, Try.f69), (85, Try.f85), (83, Try.f83), (92, Try.f92)]
theorem MM : AD Try.prog IL := ⟨YB, Aa6, Z0, Z3, trivial⟩
noncomputable def S2 : Ctx := { As := As, eqs := eqs, fns := fun f => look f IL, ctr := [], lim := 30, big := [], lps := [] }
theorem P8 : XL Try.prog T S2 where
 As := AM
 eqs := AY
 mixed := mixed
 ctr := Ak trivial
 fns := An MM
 big := Al trivial
 lps := Av rfl
theorem Ff : AW Try.prog T CS := AJ P8 AH (g := Hn) (ls := [V 46, V 47]) (by kernel_rfl) (fun aq => by rw [show CS.f = 69 from rfl, XW]; rfl) fun aq e h1 h2 h3 => by
 subst h1
 rw [show CS.f = 69 from rfl, XW] at h2 ⊢
 obtain ⟨ho, hr⟩ := N5 e h3 h2
 obtain ⟨r0, r1⟩ := hr
 refine ⟨⟨ho, trivial⟩, ?_⟩
 show Aa [.int .i64, .bool] (Y9 _).2 = Aa [.int .i64, .bool] [L.ev e (V 46), L.ev e (V 47)]
 exact (AS r0 (Iu r1 rfl))
def EF : DD := { f := 73, ps := [.c true [.int .i64, .int .i64, .int .i64, .int .i64], .c false [.int .i64]], rs := [(false, [.bool])], ok := fun _ => true }
noncomputable def IP : List (Nat × Func) := [(73, Try.f73), (87, Try.f87), (83, Try.f83), (92, Try.f92)]
theorem MP : AD Try.prog IP := ⟨AaE, Aa7, Z0, Z3, trivial⟩
noncomputable def S4 : Ctx := { As := As, eqs := eqs, fns := fun f => look f IP, ctr := [], lim := 30, big := [], lps := [] }
theorem Qb : XL Try.prog T S4 where
 As := AM
 eqs := AY
 mixed := mixed
 ctr := Ak trivial
 fns := An MP
 big := Al trivial
 lps := Av rfl
theorem Qc : AW Try.prog T EF := AJ Qb AH (g := Hp) (ls := [V 47]) (by kernel_rfl) (fun aq => by rw [show EF.f = 73 from rfl, XX]; rfl) fun aq e h1 h2 h3 => by
 subst h1
 rw [show EF.f = 73 from rfl, XX] at h2 ⊢
 obtain ⟨ho, hr⟩ := N7 e h3 h2
 have r0 := hr
 refine ⟨⟨ho, trivial⟩, ?_⟩
 show Aa [.bool] (Za _).2 = Aa [.bool] [L.ev e (V 47)]
 exact (Iu r0 rfl)
def EG : DD := { f := 74, ps := [.c true [.int .i64, .int .i64, .int .i64, .int .i64], .c false [.int .i64]], rs := [(false, [.bool])], ok := fun _ => true }
noncomputable def IQ : List (Nat × Func) := [(74, Try.f74), (88, Try.f88), (93, Try.f93)]
theorem MQ : AD Try.prog IQ := ⟨AaF, Aa8, Aa9, trivial⟩
noncomputable def S5 : Ctx := { As := As, eqs := eqs, fns := fun f => look f IQ, ctr := [], lim := 30, big := [], lps := [] }
theorem Qd : XL Try.prog T S5 where
 As := AM
 eqs := AY
 mixed := mixed
 ctr := Ak trivial
 fns := An MQ
 big := Al trivial
 lps := Av rfl
theorem Qe : AW Try.prog T EG := AJ Qd AH (g := Hq) (ls := [V 37]) (by kernel_rfl) (fun aq => by rw [show EG.f = 74 from rfl, XY]; rfl) fun aq e h1 h2 h3 => by
 subst h1
 rw [show EG.f = 74 from rfl, XY] at h2 ⊢
 obtain ⟨ho, hr⟩ := N8 e h3 h2
 have r0 := hr
 refine ⟨trivial, ?_⟩
 show Aa [.bool] (Zb _).2 = Aa [.bool] [L.ev e (V 37)]
 exact (Iu r0 rfl)
def EI : DD := { f := 45, ps := [.c true [.int .i64, .int .i64, .int .i64, .int .i64]], rs := [(false, [.int .i64]), (false, [.bool])], ok := fun _ => true }
noncomputable def IZ : List (Nat × Func) := [(45, Try.f45)]
theorem M4 : AD Try.prog IZ := ⟨Aas, trivial⟩
noncomputable def Td : Ctx := { As := As, eqs := eqs, fns := fun f => look f IZ, ctr := [], lim := 30, big := [], lps := [] }
theorem Qp : XL Try.prog T Td where
 As := AM
 eqs := AY
 mixed := mixed
 ctr := Ak trivial
 fns := An M4
 big := Al trivial
 lps := Av rfl
theorem Qq : AW Try.prog T EI := AJ Qp AH (g := Hw) (ls := [V 24, V 25]) (by kernel_rfl) (fun aq => by rw [show EI.f = 45 from rfl, XZ]; rfl) fun aq e h1 h2 h3 => by
 subst h1
 rw [show EI.f = 45 from rfl, XZ] at h2 ⊢
 obtain ⟨ho, hr⟩ := Oi e h3 h2
 obtain ⟨r0, r1⟩ := hr
 refine ⟨trivial, ?_⟩
 show Aa [.int .i64, .bool] (Zc _).2 = Aa [.int .i64, .bool] [L.ev e (V 24), L.ev e (V 25)]
 exact (AS r0 (Iu r1 rfl))
def C4 : DD := { f := 46, ps := [.c true [.int .i64, .int .i64, .int .i64, .int .i64], .c false [.int .i64]], rs := [(false, [.int .i64]), (false, [.bool])], ok := fun _ => true }
noncomputable def HR : List (Nat × Func) := [(46, Try.f46)]
theorem LQ : AD Try.prog HR := ⟨ZT, trivial⟩
noncomputable def Rb : Ctx := { As := As, eqs := eqs, fns := fun f => look f HR, ctr := [], lim := 30, big := [], lps := [] }
theorem Oj : XL Try.prog T Rb where
 As := AM
 eqs := AY
 mixed := mixed
 ctr := Ak trivial
 fns := An LQ
 big := Al trivial
 lps := Av rfl
theorem HS : AW Try.prog T C4 := AJ Oj AH (g := Gb) (ls := [V 31, V 32]) (by kernel_rfl) (fun aq => by rw [show C4.f = 46 from rfl, X0]; rfl) fun aq e h1 h2 h3 => by
 subst h1
 rw [show C4.f = 46 from rfl, X0] at h2 ⊢
 obtain ⟨ho, hr⟩ := M5 e h3 h2
 obtain ⟨r0, r1⟩ := hr
 refine ⟨trivial, ?_⟩
 show Aa [.int .i64, .bool] (Zd _).2 = Aa [.int .i64, .bool] [L.ev e (V 31), L.ev e (V 32)]
 exact (AS r0 (Iu r1 rfl))
def DW : DD := { f := 61, ps := [.c true [.int .i64, .int .i64, .int .i64, .int .i64], .c false [.int .i64]], rs := [(false, [.bool])], ok := fun _ => true }
noncomputable def HV : List (Nat × Func) := [(61, Try.f61)]
theorem LX : AD Try.prog HV := ⟨Aaz, trivial⟩
noncomputable def Re : Ctx := { As := As, eqs := eqs, fns := fun f => look f HV, ctr := [], lim := 30, big := [], lps := [] }
theorem Oo : XL Try.prog T Re where
 As := AM
 eqs := AY
 mixed := mixed
 ctr := Ak trivial
 fns := An LX
 big := Al trivial
 lps := Av rfl
theorem Oq : AW Try.prog T DW := AJ Oo AH (g := Ge) (ls := [V 13]) (by kernel_rfl) (fun aq => by rw [show DW.f = 61 from rfl, X1]; rfl) fun aq e h1 h2 h3 => by
 subst h1
 rw [show DW.f = 61 from rfl, X1] at h2 ⊢
 obtain ⟨ho, hr⟩ := M8 e h3 h2
 have r0 := hr
 refine ⟨trivial, ?_⟩
 show Aa [.bool] (Ze _).2 = Aa [.bool] [L.ev e (V 13)]
 exact (Iu r0 rfl)
def DX : DD := { f := 62, ps := [.c true [.int .i64, .int .i64, .int .i64, .int .i64], .c false [.int .i64]], rs := [(false, [.bool])], ok := fun _ => true }
noncomputable def HW : List (Nat × Func) := [(62, Try.f62)]
theorem LY : AD Try.prog HW := ⟨AaA, trivial⟩
noncomputable def Rf : Ctx := { As := As, eqs := eqs, fns := fun f => look f HW, ctr := [], lim := 30, big := [], lps := [] }
theorem Ot : XL Try.prog T Rf where
 As := AM
 eqs := AY
 mixed := mixed
 ctr := Ak trivial
 fns := An LY
 big := Al trivial
 lps := Av rfl
theorem Ou : AW Try.prog T DX := AJ Ot AH (g := Gf) (ls := [V 13]) (by kernel_rfl) (fun aq => by rw [show DX.f = 62 from rfl, X2]; rfl) fun aq e h1 h2 h3 => by
 subst h1
 rw [show DX.f = 62 from rfl, X2] at h2 ⊢
 obtain ⟨ho, hr⟩ := M9 e h3 h2
 have r0 := hr
 refine ⟨trivial, ?_⟩
 show Aa [.bool] (Zf _).2 = Aa [.bool] [L.ev e (V 13)]
 exact (Iu r0 rfl)
end Rx.S
