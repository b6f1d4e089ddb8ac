import Derived.Test.YtngghkhjejkelabMXe
import Derived.Test.YtngghkhjejkelabMXvote
import Derived.Test.YtngghkhjejkelabMXvoteb
import Derived.Test.YtngghkhjejkelabMXgate
import Derived.Test.YtngghkhjejkelabMYhub
set_option linter.unusedVariables false
set_option linter.unusedSimpArgs false
namespace Rx.S
open Go Rx Go.Proofs
set_option maxRecDepth 100000
set_option maxHeartbeats 4000000
def I7 : DR := { f := 11, ps := [.c false [.int .i64], .c true [.int .i64, .int .i64, .int .i64, .int .i64, .int .i64, .int .i64, .int .i64, .int .i64, .int .i64, .int .i64, .int .i64, .int .i64], .lst [.int .i64, .int .i64]], rs := [(true, [.int .i64, .int .i64, .int .i64, .int .i64, .int .i64, .int .i64, .int .i64, .int .i64, .int .i64, .int .i64, .int .i64, .int .i64]), (true, [.int .i64, .int .i64]), (false, [.int .i64])], ok := fun _ => true }
noncomputable def NT : List (Nat × Func) := [(11, Try.f11), (21, Try.f21), (22, Try.f22), (23, Try.f23), (24, Try.f24)]
theorem TN : AG Try.prog NT := ⟨AgT, AgZ, Ag0, Ag1, Ag2, trivial⟩
noncomputable def Aaf : Ctx := { At := At, eqs := eqs, fns := fun f => look f NT, ctr := [(21, GX), (23, EU), (22, G1), (24, FQ)], lim := 30, big := [], lps := [] }
theorem Xm : XL Try.prog T Aaf where
 At := AL
 eqs := AP
 mixed := mixed
 ctr := Af ⟨⟨rfl, US⟩, ⟨rfl, QC⟩, ⟨rfl, U0⟩, ⟨rfl, TM⟩, trivial⟩
 fns := Am TN
 big := Ag trivial
 lps := Ax rfl
theorem Xn : A2 Try.prog T I7 := AR Xm Aw (g := MT) (ls := [V 152, V 153, V 154, V 155, V 156, V 157, V 158, V 159, V 160, V 161, V 162, V 163, V 164, V 165, V 138]) (by kernel_rfl) (fun aq => by rw [show I7.f = 11 from rfl, Aeq]; rfl) fun aq e h1 h2 h3 => by
 subst h1
 rw [show I7.f = 11 from rfl, Aeq] at h2 ⊢
 obtain ⟨ho, hr⟩ := UN e h3 _ rfl _ rfl h2
 obtain ⟨r0, r1, r2, r3, r4, r5, r6, r7, r8, r9, r10, r11, r12, r13, r14⟩ := hr
 refine ⟨⟨ho.1, ho.2.1, ho.2.2.1, ho.2.2.2, trivial⟩, ?_⟩
 show Aa [.int .i64, .int .i64, .int .i64, .int .i64, .int .i64, .int .i64, .int .i64, .int .i64, .int .i64, .int .i64, .int .i64, .int .i64, .int .i64, .int .i64, .int .i64] (AfJ _).2 = Aa [.int .i64, .int .i64, .int .i64, .int .i64, .int .i64, .int .i64, .int .i64, .int .i64, .int .i64, .int .i64, .int .i64, .int .i64, .int .i64, .int .i64, .int .i64] [L.ev e (V 152), L.ev e (V 153), L.ev e (V 154), L.ev e (V 155), L.ev e (V 156), L.ev e (V 157), L.ev e (V 158), L.ev e (V 159), L.ev e (V 160), L.ev e (V 161), L.ev e (V 162), L.ev e (V 163), L.ev e (V 164), L.ev e (V 165), L.ev e (V 138)]
 exact (Ab r0 (Ab r1 (Ab r2 (Ab r3 (Ab r4 (Ab r5 (Ab r6 (Ab r7 (Ab r8 (Ab r9 (Ab r10 (Ab r11 (Ab r12 (Ab r13 (Ab r14 rfl)))))))))))))))
def FV : DR := { f := 29, ps := [.c false [.int .i64], .c true [.int .i64, .int .i64, .int .i64, .int .i64, .int .i64, .int .i64, .int .i64, .int .i64, .int .i64, .int .i64, .int .i64, .int .i64], .lst [.int .i64, .int .i64]], rs := [(true, [.int .i64, .int .i64, .int .i64, .int .i64, .int .i64, .int .i64, .int .i64, .int .i64, .int .i64, .int .i64, .int .i64, .int .i64]), (true, [.int .i64, .int .i64]), (false, [.int .i64])], ok := fun _ => true }
noncomputable def Lk : List (Nat × Func) := [(29, Try.f29), (8, Try.f8), (10, Try.f10), (45, Try.f45), (46, Try.f46), (47, Try.f47), (48, Try.f48)]
theorem Py : AG Try.prog Lk := ⟨Ag5, fn8, AeT, Ahh, Ahi, Ahj, Ahk, trivial⟩
noncomputable def XA : Ctx := { At := At, eqs := eqs, fns := fun f => look f Lk, ctr := [(8, A9), (45, FR), (47, EC), (10, DF), (46, FU), (48, EW)], lim := 30, big := [], lps := [] }
theorem T5 : XL Try.prog T XA where
 At := AL
 eqs := AP
 mixed := mixed
 ctr := Af ⟨⟨rfl, Bl⟩, ⟨rfl, TY⟩, ⟨rfl, Pt⟩, ⟨rfl, Gw⟩, ⟨rfl, T4⟩, ⟨rfl, Q5⟩, trivial⟩
 fns := Am Py
 big := Ag trivial
 lps := Ax rfl
theorem T6 : A2 Try.prog T FV := AR T5 Aw (g := Jf) (ls := [V 133, V 134, V 135, V 136, V 137, V 138, V 139, V 140, V 141, V 142, V 143, V 144, V 145, V 146, V 120]) (by kernel_rfl) (fun aq => by rw [show FV.f = 29 from rfl, Aer]; rfl) fun aq e h1 h2 h3 => by
 subst h1
 rw [show FV.f = 29 from rfl, Aer] at h2 ⊢
 obtain ⟨ho, hr⟩ := QS e h3 _ rfl _ rfl h2
 obtain ⟨r0, r1, r2, r3, r4, r5, r6, r7, r8, r9, r10, r11, r12, r13, r14⟩ := hr
 refine ⟨⟨ho.1, ho.2.1, ho.2.2.1, ho.2.2.2.1, ho.2.2.2.2.1, ho.2.2.2.2.2, trivial⟩, ?_⟩
 show Aa [.int .i64, .int .i64, .int .i64, .int .i64, .int .i64, .int .i64, .int .i64, .int .i64, .int .i64, .int .i64, .int .i64, .int .i64, .int .i64, .int .i64, .int .i64] (AfK _).2 = Aa [.int .i64, .int .i64, .int .i64, .int .i64, .int .i64, .int .i64, .int .i64, .int .i64, .int .i64, .int .i64, .int .i64, .int .i64, .int .i64, .int .i64, .int .i64] [L.ev e (V 133), L.ev e (V 134), L.ev e (V 135), L.ev e (V 136), L.ev e (V 137), L.ev e (V 138), L.ev e (V 139), L.ev e (V 140), L.ev e (V 141), L.ev e (V 142), L.ev e (V 143), L.ev e (V 144), L.ev e (V 145), L.ev e (V 146), L.ev e (V 120)]
 exact (Ab r0 (Ab r1 (Ab r2 (Ab r3 (Ab r4 (Ab r5 (Ab r6 (Ab r7 (Ab r8 (Ab r9 (Ab r10 (Ab r11 (Ab r12 (Ab r13 (Ab r14 rfl)))))))))))))))
end Rx.S
