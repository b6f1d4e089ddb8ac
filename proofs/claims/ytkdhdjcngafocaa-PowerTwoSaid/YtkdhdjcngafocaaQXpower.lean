import Derived.Test.YtkdhdjcngafocaaQXe
import Derived.Test.YtkdhdjcngafocaaQXconf
import Derived.Test.YtkdhdjcngafocaaQXfault
import Derived.Test.YtkdhdjcngafocaaQXslices
import Derived.Test.YtkdhdjcngafocaaQXtally
import Derived.Test.YtkdhdjcngafocaaQYpower
set_option linter.unusedVariables false
set_option linter.unusedSimpArgs false
namespace Rx.S
open Go Rx Go.Proofs
set_option maxRecDepth 100000
set_option maxHeartbeats 4000000
def Bp : KB := { f := 8, ps := [.lst [.int .i64], .c false [.int .i64], .c false [.int .i64]], rs := [(false, [.bool])], ok := fun _ => true }
noncomputable def IU : List (Nat × Func) := [(8, Try.f8)]
theorem LO : C5 Try.prog IU := ⟨Ve, trivial⟩
noncomputable def Qe : Ctx := { Av := Av, eqs := eqs, fns := fun f => look f IU, ctr := [], lim := 30, big := [], lps := [] }
theorem Ob : XL Try.prog T Qe where
 Av := Cd
 eqs := Dp
 mixed := mixed
 ctr := AH trivial
 fns := AV LO
 big := AI trivial
 lps := CU rfl
theorem BF : D7 Try.prog T Bp := EN Ob B6 (g := Ii) (ls := [V 12]) (by kernel_rfl) (fun aq => by rw [show Bp.f = 8 from rfl, Vo]; rfl) fun aq e h1 h2 h3 => by
 subst h1
 rw [show Bp.f = 8 from rfl, Vo] at h2 ⊢
 obtain ⟨ho, hr⟩ := Mp e h3 h2
 have r0 := hr
 refine ⟨⟨ho, trivial⟩, ?_⟩
 show Ah [.bool] (Vw _).2 = Ah [.bool] [L.ev e (V 12)]
 exact (P8 r0 rfl)
def Cm : KB := { f := 9, ps := [.lst [.int .i64], .c false [.int .i64], .c false [.int .i64]], rs := [(false, [.int .i64])], ok := fun _ => true }
noncomputable def F5 : List (Nat × Func) := [(9, Try.f9), (8, Try.f8)]
theorem IV : C5 Try.prog F5 := ⟨VY, Ve, trivial⟩
noncomputable def Mq : Ctx := { Av := Av, eqs := eqs, fns := fun f => look f F5, ctr := [(8, Bp)], lim := 30, big := [], lps := [] }
theorem Ke : XL Try.prog T Mq where
 Av := Cd
 eqs := Dp
 mixed := mixed
 ctr := AH ⟨⟨rfl, BF⟩, trivial⟩
 fns := AV IV
 big := AI trivial
 lps := CU rfl
theorem F6 : D7 Try.prog T Cm := EN Ke B6 (g := EO) (ls := [V 14]) (by kernel_rfl) (fun aq => by rw [show Cm.f = 9 from rfl, Vp]; rfl) fun aq e h1 h2 h3 => by
 subst h1
 rw [show Cm.f = 9 from rfl, Vp] at h2 ⊢
 obtain ⟨ho, hr⟩ := JH e h3 h2
 have r0 := hr
 refine ⟨⟨ho.1, ho.2, trivial⟩, ?_⟩
 show Ah [.int .i64] (Vx _).2 = Ah [.int .i64] [L.ev e (V 14)]
 exact (TP r0 rfl)
def ET : Re := { f := 10, ps := [.c false [.int .i64], .lst [.int .i64]], rs := [.lst [.int .i64] 3, .c false [.int .i64]], ok := fun _ => true, w := 4 }
noncomputable def Dx : List (Nat × Func) := [(10, Try.f10), (21, Try.f21), (22, Try.f22)]
theorem EA : C5 Try.prog Dx := ⟨Vf, Vi, Vj, trivial⟩
noncomputable def F9 : Ctx := { Av := Av, eqs := eqs, fns := fun f => look f Dx, ctr := [(22, Cn), (21, CX)], lim := 30, big := [], lps := [] }
theorem IY : XL Try.prog T F9 where
 Av := Cd
 eqs := Dp
 mixed := mixed
 ctr := AH ⟨⟨rfl, F8⟩, ⟨rfl, GP⟩, trivial⟩
 fns := AV EA
 big := AI trivial
 lps := CU rfl
theorem RZ : ∀ fn body c, F9.fns FP.f = some fn → fn.body = some body → Dm FP.p body = some (.loop c) → Ce Try.prog T FP c :=
 Hn IY B6 (g := IW) (back := some (V 7, [V 0, V 1, V 2, V 3, V 17, V 5, V 16])) (exs := [(V 8, [some (V 6)])]) (by kernel_rfl) (fun aq => by rw [show FP.id = 1160 from rfl, LF]; rfl) Qf fun aq e h1 h2 h3 => by
  rw [show FP.id = 1160 from rfl, LF] at h2 ⊢
  exact Qg aq e h1 h2 h3
noncomputable def Ms : Ctx := { Av := Av, eqs := eqs, fns := fun f => look f Dx, ctr := [(22, Cn), (21, CX)], lim := 30, big := [], lps := [FP] }
theorem Kh : XL Try.prog T Ms where
 Av := Cd
 eqs := Dp
 mixed := mixed
 ctr := AH ⟨⟨rfl, F8⟩, ⟨rfl, GP⟩, trivial⟩
 fns := AV EA
 big := AI trivial
 lps := Fi ⟨RZ, trivial⟩
theorem Ki : OK Try.prog T ET := UG Kh B6 (g := ER) (ls := [V 22, V 20, V 21]) (by kernel_rfl) fun aq e h1 h2 h3 => by
 subst h1
 rw [show ET.f = 10 from rfl, T6] at h2 ⊢
 obtain ⟨ho, hr⟩ := JJ e h3 h2
 obtain ⟨r0, r1, r2⟩ := hr
 refine ⟨⟨ho.1, ho.2.1, ho.2.2.1, ho.2.2.2, trivial⟩, ?_⟩
 exact ⟨_, _, _, _, _, _, rfl, rfl, r0, r1, ⟨[_], _, [_], _, rfl, rfl, rfl, rfl, (TP r2 rfl), ⟨rfl, rfl⟩⟩⟩
def B7 : KB := { f := 7, ps := [.lst [.int .i64], .c true [.int .i64, .int .i64]], rs := [(false, [.int .i64])], ok := fun _ => true }
noncomputable def EV : List (Nat × Func) := [(7, Try.f7), (19, Try.f19), (20, Try.f20)]
theorem Gb : C5 Try.prog EV := ⟨VS, Vh, VT, trivial⟩
noncomputable def HO : Ctx := { Av := Av, eqs := eqs, fns := fun f => look f EV, ctr := [(19, CY)], lim := 30, big := [], lps := [], muts := [(20, EU)] }
theorem Kk : XL Try.prog T HO where
 Av := Cd
 eqs := Dp
 mixed := mixed
 ctr := AH ⟨⟨rfl, GV⟩, trivial⟩
 fns := AV Gb
 big := AI trivial
 lps := CU rfl
 muts := JB ⟨⟨rfl, Ga⟩, trivial⟩
theorem R2 : ∀ fn body c, HO.fns FR.f = some fn → fn.body = some body → Dm FR.p body = some (.loop c) → Ce Try.prog T FR c :=
 Hn Kk B6 (g := IZ) (back := some (V 7, [V 0, V 1, V 2, V 27, V 29, V 5, V 28])) (exs := [(V 8, [some (V 3), some (V 6)])]) (by kernel_rfl) (fun aq => by rw [show FR.id = 1180 from rfl, LG]; rfl) Qh fun aq e h1 h2 h3 => by
  rw [show FR.id = 1180 from rfl, LG] at h2 ⊢
  exact Qi aq e h1 h2 h3
noncomputable def Pp : Ctx := { Av := Av, eqs := eqs, fns := fun f => look f EV, ctr := [(19, CY)], lim := 30, big := [], lps := [FR], muts := [(20, EU)] }
theorem Mt : XL Try.prog T Pp where
 Av := Cd
 eqs := Dp
 mixed := mixed
 ctr := AH ⟨⟨rfl, GV⟩, trivial⟩
 fns := AV Gb
 big := AI trivial
 lps := Fi ⟨R2, trivial⟩
 muts := JB ⟨⟨rfl, Ga⟩, trivial⟩
theorem Db : D7 Try.prog T B7 := EN Mt B6 (g := GQ) (ls := [V 18]) (by kernel_rfl) (fun aq => by rw [show B7.f = 7 from rfl, Vq]; rfl) fun aq e h1 h2 h3 => by
 subst h1
 rw [show B7.f = 7 from rfl, Vq] at h2 ⊢
 obtain ⟨ho, hr⟩ := LQ e h3 h2
 have r0 := hr
 refine ⟨⟨ho.1, ho.2.1, ho.2.2.1, ho.2.2.2, trivial⟩, ?_⟩
 show Ah [.int .i64] (Vy _).2 = Ah [.int .i64] [L.ev e (V 18)]
 exact (TP r0 rfl)
end Rx.S
