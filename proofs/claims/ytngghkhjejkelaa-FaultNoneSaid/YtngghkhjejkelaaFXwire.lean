import Derived.Test.YtngghkhjejkelaaFXe
import Derived.Test.YtngghkhjejkelaaFYwire
set_option linter.unusedVariables false
set_option linter.unusedSimpArgs false
namespace Rx.S
open Go Rx Go.Proofs
set_option maxRecDepth 100000
set_option maxHeartbeats 4000000
def FL : EB := { f := 67, ps := [.c false [.int .u32], .c false [.int .u8]], rs := [(false, [.int .u32])], ok := fun _ => true }
noncomputable def Hu : List (Nat × Func) := [(67, Try.f67)]
theorem IA : AM Try.prog Hu := ⟨X1, trivial⟩
noncomputable def Ls : Ctx := { Aw := Aw, eqs := eqs, fns := fun f => look f Hu, ctr := [], lim := 30, big := [], lps := [] }
theorem Om : XL Try.prog T Ls where
 Aw := A3
 eqs := A8
 mixed := mixed
 ctr := Am trivial
 fns := Au IA
 big := An trivial
 lps := AF rfl
theorem TR : ∀ fn body c, Ls.fns Gf.f = some fn → fn.body = some body → En Gf.p body = some (.loop c) → C6 Try.prog T Gf c :=
 Mn Om AK (g := JY) (back := some (V 6, [V 12, V 1, V 2, V 3, V 4, V 13])) (exs := [(V 7, [some (V 0)])]) (by kernel_rfl) (fun aq => by rw [show Gf.id = 1020 from rfl, Ns]; rfl) Sh fun aq e h1 h2 h3 => by
  rw [show Gf.id = 1020 from rfl, Ns] at h2 ⊢
  exact Si aq e h1 h2 h3
noncomputable def TS : Ctx := { Aw := Aw, eqs := eqs, fns := fun f => look f Hu, ctr := [], lim := 30, big := [], lps := [Gf] }
theorem Ri : XL Try.prog T TS where
 Aw := A3
 eqs := A8
 mixed := mixed
 ctr := Am trivial
 fns := Au IA
 big := An trivial
 lps := JQ ⟨TR, trivial⟩
theorem Lt : A6 Try.prog T FL := AR Ri AK (g := KT) (ls := [V 5]) (by kernel_rfl) (fun aq => by rw [show FL.f = 67 from rfl, Va]; rfl) fun aq e h1 h2 h3 => by
 subst h1
 rw [show FL.f = 67 from rfl, Va] at h2 ⊢
 obtain ⟨ho, hr⟩ := Qj e h3 h2
 have r0 := hr
 refine ⟨⟨ho, trivial⟩, ?_⟩
 show Aa [.int .u32] (We _).2 = Aa [.int .u32] [L.ev e (V 5)]
 exact (Nk r0 rfl)
def H9 : EB := { f := 53, ps := [.c false [.str]], rs := [(false, [.int .u32])], ok := fun _ => true }
noncomputable def Hv : List (Nat × Func) := [(53, Try.f53), (67, Try.f67)]
theorem IB : AM Try.prog Hv := ⟨X0, X1, trivial⟩
noncomputable def Lu : Ctx := { Aw := Aw, eqs := eqs, fns := fun f => look f Hv, ctr := [(67, FL)], lim := 30, big := [], lps := [] }
theorem On : XL Try.prog T Lu where
 Aw := A3
 eqs := A8
 mixed := mixed
 ctr := Am ⟨⟨rfl, Lt⟩, trivial⟩
 fns := Au IB
 big := An trivial
 lps := AF rfl
theorem TT : ∀ fn body c, Lu.fns Ge.f = some fn → fn.body = some body → En Ge.p body = some (.loop c) → C6 Try.prog T Ge c :=
 Mn On AK (g := JX) (back := some (V 5, [V 0, V 12, V 2, V 14, V 4])) (exs := [(V 6, [some (V 1)])]) (by kernel_rfl) (fun aq => by rw [show Ge.id = 1040 from rfl, Nu]; rfl) Sf fun aq e h1 h2 h3 => by
  rw [show Ge.id = 1040 from rfl, Nu] at h2 ⊢
  exact Sg aq e h1 h2 h3
noncomputable def TU : Ctx := { Aw := Aw, eqs := eqs, fns := fun f => look f Hv, ctr := [(67, FL)], lim := 30, big := [], lps := [Ge] }
theorem Rj : XL Try.prog T TU where
 Aw := A3
 eqs := A8
 mixed := mixed
 ctr := Am ⟨⟨rfl, Lt⟩, trivial⟩
 fns := Au IB
 big := An trivial
 lps := JQ ⟨TT, trivial⟩
theorem Rk : A6 Try.prog T H9 := AR Rj AK (g := KS) (ls := [V 5]) (by kernel_rfl) (fun aq => by rw [show H9.f = 53 from rfl, Vc]; rfl) fun aq e h1 h2 h3 => by
 subst h1
 rw [show H9.f = 53 from rfl, Vc] at h2 ⊢
 obtain ⟨ho, hr⟩ := Qi e h3 h2
 have r0 := hr
 refine ⟨⟨ho, trivial⟩, ?_⟩
 show Aa [.int .u32] (Wg _).2 = Aa [.int .u32] [L.ev e (V 5)]
 exact (Nk r0 rfl)
def Gg : EB := { f := 52, ps := [.c false [.int .u32]], rs := [(false, [.str])], ok := fun _ => true }
noncomputable def JZ : List (Nat × Func) := [(52, Try.f52)]
theorem NG : AM Try.prog JZ := ⟨XZ, trivial⟩
noncomputable def Sj : Ctx := { Aw := Aw, eqs := eqs, fns := fun f => look f JZ, ctr := [], lim := 30, big := [], lps := [] }
theorem Qk : XL Try.prog T Sj where
 Aw := A3
 eqs := A8
 mixed := mixed
 ctr := Am trivial
 fns := Au NG
 big := An trivial
 lps := AF rfl
theorem Ql : A6 Try.prog T Gg := AR Qk AK (g := Ji) (ls := [V 9]) (by kernel_rfl) (fun aq => by rw [show Gg.f = 52 from rfl, Ve]; rfl) fun aq e h1 h2 h3 => by
 subst h1
 rw [show Gg.f = 52 from rfl, Ve] at h2 ⊢
 obtain ⟨ho, hr⟩ := Oo e h3 h2
 have r0 := hr
 refine ⟨trivial, ?_⟩
 show Aa [.str] (Wi _).2 = Aa [.str] [L.ev e (V 9)]
 exact (Oe r0 rfl)
def D3 : EB := { f := 51, ps := [.c true [.int .i64, .int .i64]], rs := [(false, [.bool])], ok := fun _ => true }
noncomputable def Hw : List (Nat × Func) := [(51, Try.f51)]
theorem KU : AM Try.prog Hw := ⟨XY, trivial⟩
noncomputable def Qm : Ctx := { Aw := Aw, eqs := eqs, fns := fun f => look f Hw, ctr := [], lim := 30, big := [], lps := [] }
theorem NH : XL Try.prog T Qm where
 Aw := A3
 eqs := A8
 mixed := mixed
 ctr := Am trivial
 fns := Au KU
 big := An trivial
 lps := AF rfl
theorem NI : A6 Try.prog T D3 := AR NH AK (g := Gh) (ls := [V 9]) (by kernel_rfl) (fun aq => by rw [show D3.f = 51 from rfl, Vg]; rfl) fun aq e h1 h2 h3 => by
 subst h1
 rw [show D3.f = 51 from rfl, Vg] at h2 ⊢
 obtain ⟨ho, hr⟩ := LN e h3 h2
 have r0 := hr
 refine ⟨trivial, ?_⟩
 show Aa [.bool] (Wk _).2 = Aa [.bool] [L.ev e (V 9)]
 exact (GR r0 rfl)
def Ev : EB := { f := 36, ps := [.c true [.int .i64, .int .i64]], rs := [(false, [.str])], ok := fun _ => true }
noncomputable def J0 : List (Nat × Func) := [(36, Try.f36), (51, Try.f51), (53, Try.f53), (52, Try.f52)]
theorem NJ : AM Try.prog J0 := ⟨Xk, XY, X0, XZ, trivial⟩
noncomputable def Sk : Ctx := { Aw := Aw, eqs := eqs, fns := fun f => look f J0, ctr := [(53, H9), (52, Gg), (51, D3)], lim := 30, big := [], lps := [] }
theorem Qn : XL Try.prog T Sk where
 Aw := A3
 eqs := A8
 mixed := mixed
 ctr := Am ⟨⟨rfl, Rk⟩, ⟨rfl, Ql⟩, ⟨rfl, NI⟩, trivial⟩
 fns := Au NJ
 big := An trivial
 lps := AF rfl
theorem J1 : A6 Try.prog T Ev := AR Qn AK (g := Jh) (ls := [V 34]) (by kernel_rfl) (fun aq => by rw [show Ev.f = 36 from rfl, Vi]; rfl) fun aq e h1 h2 h3 => by
 subst h1
 rw [show Ev.f = 36 from rfl, Vi] at h2 ⊢
 obtain ⟨ho, hr⟩ := Ol e h3 h2
 have r0 := hr
 refine ⟨⟨ho.1, ho.2.1, ho.2.2.1, ho.2.2.2.1, ho.2.2.2.2, trivial⟩, ?_⟩
 show Aa [.str] (Wm _).2 = Aa [.str] [L.ev e (V 34)]
 exact (Oe r0 rfl)
def DH : EB := { f := 50, ps := [.c false [.int .u32], .c false [.int .u8]], rs := [(false, [.int .u32])], ok := fun _ => true }
noncomputable def Fg : List (Nat × Func) := [(50, Try.f50)]
theorem GH : AM Try.prog Fg := ⟨XX, trivial⟩
noncomputable def IE : Ctx := { Aw := Aw, eqs := eqs, fns := fun f => look f Fg, ctr := [], lim := 30, big := [], lps := [] }
theorem LZ : XL Try.prog T IE where
 Aw := A3
 eqs := A8
 mixed := mixed
 ctr := Am trivial
 fns := Au GH
 big := An trivial
 lps := AF rfl
theorem TV : ∀ fn body c, IE.fns Gk.f = some fn → fn.body = some body → En Gk.p body = some (.loop c) → C6 Try.prog T Gk c :=
 Mn LZ AK (g := J7) (back := some (V 6, [V 15, V 1, V 16, V 3, V 4, V 5])) (exs := [(V 7, [some (V 0)])]) (by kernel_rfl) (fun aq => by rw [show Gk.id = 1030 from rfl, Nt]; rfl) Sn fun aq e h1 h2 h3 => by
  rw [show Gk.id = 1030 from rfl, Nt] at h2 ⊢
  exact So aq e h1 h2 h3
noncomputable def Rp : Ctx := { Aw := Aw, eqs := eqs, fns := fun f => look f Fg, ctr := [], lim := 30, big := [], lps := [Gk] }
theorem Oy : XL Try.prog T Rp where
 Aw := A3
 eqs := A8
 mixed := mixed
 ctr := Am trivial
 fns := Au GH
 big := An trivial
 lps := JQ ⟨TV, trivial⟩
theorem IF : A6 Try.prog T DH := AR Oy AK (g := HF) (ls := [V 5]) (by kernel_rfl) (fun aq => by rw [show DH.f = 50 from rfl, Vb]; rfl) fun aq e h1 h2 h3 => by
 subst h1
 rw [show DH.f = 50 from rfl, Vb] at h2 ⊢
 obtain ⟨ho, hr⟩ := NP e h3 h2
 have r0 := hr
 refine ⟨⟨ho, trivial⟩, ?_⟩
 show Aa [.int .u32] (Wf _).2 = Aa [.int .u32] [L.ev e (V 5)]
 exact (Nk r0 rfl)
def EU : EB := { f := 35, ps := [.c false [.str]], rs := [(false, [.int .u32])], ok := fun _ => true }
noncomputable def Fh : List (Nat × Func) := [(35, Try.f35), (50, Try.f50)]
theorem GI : AM Try.prog Fh := ⟨XV, XX, trivial⟩
noncomputable def IG : Ctx := { Aw := Aw, eqs := eqs, fns := fun f => look f Fh, ctr := [(50, DH)], lim := 30, big := [], lps := [] }
theorem L0 : XL Try.prog T IG where
 Aw := A3
 eqs := A8
 mixed := mixed
 ctr := Am ⟨⟨rfl, IF⟩, trivial⟩
 fns := Au GI
 big := An trivial
 lps := AF rfl
theorem TW : ∀ fn body c, IG.fns Gj.f = some fn → fn.body = some body → En Gj.p body = some (.loop c) → C6 Try.prog T Gj c :=
 Mn L0 AK (g := J6) (back := some (V 4, [V 0, V 11, V 13])) (exs := [(V 5, [some (V 1)])]) (by kernel_rfl) (fun aq => by rw [show Gj.id = 1050 from rfl, Nv]; rfl) Sl fun aq e h1 h2 h3 => by
  rw [show Gj.id = 1050 from rfl, Nv] at h2 ⊢
  exact Sm aq e h1 h2 h3
noncomputable def Rq : Ctx := { Aw := Aw, eqs := eqs, fns := fun f => look f Fh, ctr := [(50, DH)], lim := 30, big := [], lps := [Gj] }
theorem Oz : XL Try.prog T Rq where
 Aw := A3
 eqs := A8
 mixed := mixed
 ctr := Am ⟨⟨rfl, IF⟩, trivial⟩
 fns := Au GI
 big := An trivial
 lps := JQ ⟨TW, trivial⟩
theorem OA : A6 Try.prog T EU := AR Oz AK (g := HE) (ls := [V 3]) (by kernel_rfl) (fun aq => by rw [show EU.f = 35 from rfl, Vd]; rfl) fun aq e h1 h2 h3 => by
 subst h1
 rw [show EU.f = 35 from rfl, Vd] at h2 ⊢
 obtain ⟨ho, hr⟩ := NO e h3 h2
 have r0 := hr
 refine ⟨⟨ho, trivial⟩, ?_⟩
 show Aa [.int .u32] (Wh _).2 = Aa [.int .u32] [L.ev e (V 3)]
 exact (Nk r0 rfl)
def D4 : EB := { f := 34, ps := [.c false [.int .u32]], rs := [(false, [.str])], ok := fun _ => true }
noncomputable def HG : List (Nat × Func) := [(34, Try.f34)]
theorem K1 : AM Try.prog HG := ⟨XU, trivial⟩
noncomputable def Qp : Ctx := { Aw := Aw, eqs := eqs, fns := fun f => look f HG, ctr := [], lim := 30, big := [], lps := [] }
theorem NQ : XL Try.prog T Qp where
 Aw := A3
 eqs := A8
 mixed := mixed
 ctr := Am trivial
 fns := Au K1
 big := An trivial
 lps := AF rfl
theorem NR : A6 Try.prog T D4 := AR NQ AK (g := Gl) (ls := [V 12]) (by kernel_rfl) (fun aq => by rw [show D4.f = 34 from rfl, Vf]; rfl) fun aq e h1 h2 h3 => by
 subst h1
 rw [show D4.f = 34 from rfl, Vf] at h2 ⊢
 obtain ⟨ho, hr⟩ := L1 e h3 h2
 have r0 := hr
 refine ⟨trivial, ?_⟩
 show Aa [.str] (Wj _).2 = Aa [.str] [L.ev e (V 12)]
 exact (Oe r0 rfl)
def Dv : EB := { f := 33, ps := [.c true [.int .i64, .int .i64]], rs := [(false, [.bool])], ok := fun _ => true }
noncomputable def GJ : List (Nat × Func) := [(33, Try.f33)]
theorem J8 : AM Try.prog GJ := ⟨XT, trivial⟩
noncomputable def OB : Ctx := { Aw := Aw, eqs := eqs, fns := fun f => look f GJ, ctr := [], lim := 30, big := [], lps := [] }
theorem L2 : XL Try.prog T OB where
 Aw := A3
 eqs := A8
 mixed := mixed
 ctr := Am trivial
 fns := Au J8
 big := An trivial
 lps := AF rfl
theorem L3 : A6 Try.prog T Dv := AR L2 AK (g := Fi) (ls := [V 9]) (by kernel_rfl) (fun aq => by rw [show Dv.f = 33 from rfl, Vh]; rfl) fun aq e h1 h2 h3 => by
 subst h1
 rw [show Dv.f = 33 from rfl, Vh] at h2 ⊢
 obtain ⟨ho, hr⟩ := K2 e h3 h2
 have r0 := hr
 refine ⟨trivial, ?_⟩
 show Aa [.bool] (Wl _).2 = Aa [.bool] [L.ev e (V 9)]
 exact (GR r0 rfl)
def CY : EB := { f := 11, ps := [.c true [.int .i64, .int .i64]], rs := [(false, [.str])], ok := fun _ => true }
noncomputable def II : List (Nat × Func) := [(11, Try.f11), (33, Try.f33), (35, Try.f35), (34, Try.f34)]
theorem L4 : AM Try.prog II := ⟨VY, XT, XV, XU, trivial⟩
noncomputable def Rr : Ctx := { Aw := Aw, eqs := eqs, fns := fun f => look f II, ctr := [(35, EU), (34, D4), (33, Dv)], lim := 30, big := [], lps := [] }
theorem OC : XL Try.prog T Rr where
 Aw := A3
 eqs := A8
 mixed := mixed
 ctr := Am ⟨⟨rfl, OA⟩, ⟨rfl, NR⟩, ⟨rfl, L3⟩, trivial⟩
 fns := Au L4
 big := An trivial
 lps := AF rfl
theorem Fj : A6 Try.prog T CY := AR OC AK (g := HD) (ls := [V 34]) (by kernel_rfl) (fun aq => by rw [show CY.f = 11 from rfl, Vj]; rfl) fun aq e h1 h2 h3 => by
 subst h1
 rw [show CY.f = 11 from rfl, Vj] at h2 ⊢
 obtain ⟨ho, hr⟩ := NN e h3 h2
 have r0 := hr
 refine ⟨⟨ho.1, ho.2.1, ho.2.2.1, ho.2.2.2.1, ho.2.2.2.2, trivial⟩, ?_⟩
 show Aa [.str] (Wn _).2 = Aa [.str] [L.ev e (V 34)]
 exact (Oe r0 rfl)
end Rx.S
