import Derived.Test.YtngghkhjejkelaaFXe
import Derived.Test.YtngghkhjejkelaaFXconf
import Derived.Test.YtngghkhjejkelaaFXwire
import Derived.Test.YtngghkhjejkelaaFYfault
set_option linter.unusedVariables false
set_option linter.unusedSimpArgs false
namespace Rx.S
open Go Rx Go.Proofs
set_option maxRecDepth 100000
set_option maxHeartbeats 4000000
def D2 : EB := { f := 39, ps := [.c false [.int .i64], .c false [.int .i64]], rs := [(false, [.int .i64])], ok := fun _ => true }
noncomputable def Hr : List (Nat × Func) := [(39, Try.f39)]
theorem KO : AM Try.prog Hr := ⟨XW, trivial⟩
noncomputable def Qg : Ctx := { Aw := Aw, eqs := eqs, fns := fun f => look f Hr, ctr := [], lim := 30, big := [], lps := [] }
theorem NA : XL Try.prog T Qg where
 Aw := A3
 eqs := A8
 mixed := mixed
 ctr := Am trivial
 fns := Au KO
 big := An trivial
 lps := AF rfl
theorem NB : A6 Try.prog T D2 := AR NA AK (g := Gc) (ls := [V 21]) (by kernel_rfl) (fun aq => by rw [show D2.f = 39 from rfl, Vk]; rfl) fun aq e h1 h2 h3 => by
 subst h1
 rw [show D2.f = 39 from rfl, Vk] at h2 ⊢
 obtain ⟨ho, hr⟩ := LH e h3 h2
 have r0 := hr
 refine ⟨trivial, ?_⟩
 show Aa [.int .i64] (Wo _).2 = Aa [.int .i64] [L.ev e (V 21)]
 exact (Nk r0 rfl)
def BY : EB := { f := 19, ps := [.c false [.int .i64], .c true [.int .i64, .int .i64]], rs := [(false, [.bool])], ok := fun _ => true }
noncomputable def Gx : List (Nat × Func) := [(19, Try.f19), (37, Try.f37), (39, Try.f39)]
theorem JV : AM Try.prog Gx := ⟨V2, Xl, XW, trivial⟩
noncomputable def Oi : Ctx := { Aw := Aw, eqs := eqs, fns := fun f => look f Gx, ctr := [(37, C8), (39, D2)], lim := 30, big := [], lps := [] }
theorem LI : XL Try.prog T Oi where
 Aw := A3
 eqs := A8
 mixed := mixed
 ctr := Am ⟨⟨rfl, Hq⟩, ⟨rfl, NB⟩, trivial⟩
 fns := Au JV
 big := An trivial
 lps := AF rfl
theorem DO : A6 Try.prog T BY := AR LI AK (g := E6) (ls := [V 11]) (by kernel_rfl) (fun aq => by rw [show BY.f = 19 from rfl, Vl]; rfl) fun aq e h1 h2 h3 => by
 subst h1
 rw [show BY.f = 19 from rfl, Vl] at h2 ⊢
 obtain ⟨ho, hr⟩ := KM e h3 h2
 have r0 := hr
 refine ⟨⟨ho.1, ho.2, trivial⟩, ?_⟩
 show Aa [.bool] (Wp _).2 = Aa [.bool] [L.ev e (V 11)]
 exact (GR r0 rfl)
def Ds : EB := { f := 17, ps := [.c false [.int .i64], .c true [.int .i64, .int .i64]], rs := [(true, [.int .i64, .int .i64]), (false, [.int .i64])], ok := fun _ => true }
noncomputable def Gy : List (Nat × Func) := [(17, Try.f17), (37, Try.f37), (19, Try.f19)]
theorem JW : AM Try.prog Gy := ⟨XO, Xl, V2, trivial⟩
noncomputable def Oj : Ctx := { Aw := Aw, eqs := eqs, fns := fun f => look f Gy, ctr := [(37, C8), (19, BY)], lim := 30, big := [], lps := [] }
theorem LJ : XL Try.prog T Oj where
 Aw := A3
 eqs := A8
 mixed := mixed
 ctr := Am ⟨⟨rfl, Hq⟩, ⟨rfl, DO⟩, trivial⟩
 fns := Au JW
 big := An trivial
 lps := AF rfl
theorem LK : A6 Try.prog T Ds := AR LJ AK (g := E7) (ls := [V 21, V 22, V 20]) (by kernel_rfl) (fun aq => by rw [show Ds.f = 17 from rfl, Vm]; rfl) fun aq e h1 h2 h3 => by
 subst h1
 rw [show Ds.f = 17 from rfl, Vm] at h2 ⊢
 obtain ⟨ho, hr⟩ := KP e h3 h2
 obtain ⟨r0, r1, r2⟩ := hr
 refine ⟨⟨ho.1, ho.2, trivial⟩, ?_⟩
 show Aa [.int .i64, .int .i64, .int .i64] (Wq _).2 = Aa [.int .i64, .int .i64, .int .i64] [L.ev e (V 21), L.ev e (V 22), L.ev e (V 20)]
 exact (Nk r0 (Nk r1 (Nk r2 rfl)))
def Cm : EB := { f := 13, ps := [.c true [.int .i64, .int .i64], .c false [.int .i64]], rs := [(false, [.bool])], ok := fun _ => true }
noncomputable def Hs : List (Nat × Func) := [(13, Try.f13)]
theorem KQ : AM Try.prog Hs := ⟨V0, trivial⟩
noncomputable def Qh : Ctx := { Aw := Aw, eqs := eqs, fns := fun f => look f Hs, ctr := [], lim := 30, big := [], lps := [] }
theorem NC : XL Try.prog T Qh where
 Aw := A3
 eqs := A8
 mixed := mixed
 ctr := Am trivial
 fns := Au KQ
 big := An trivial
 lps := AF rfl
theorem Eu : A6 Try.prog T Cm := AR NC AK (g := Gd) (ls := [V 5]) (by kernel_rfl) (fun aq => by rw [show Cm.f = 13 from rfl, Vn]; rfl) fun aq e h1 h2 h3 => by
 subst h1
 rw [show Cm.f = 13 from rfl, Vn] at h2 ⊢
 obtain ⟨ho, hr⟩ := LL e h3 h2
 have r0 := hr
 refine ⟨trivial, ?_⟩
 show Aa [.bool] (Ws _).2 = Aa [.bool] [L.ev e (V 5)]
 exact (GR r0 rfl)
def Cg : EB := { f := 15, ps := [.c true [.int .i64, .int .i64], .c false [.int .i64]], rs := [(false, [.bool])], ok := fun _ => true }
noncomputable def Iz : List (Nat × Func) := [(15, Try.f15)]
theorem LM : AM Try.prog Iz := ⟨UW, trivial⟩
noncomputable def Rf : Ctx := { Aw := Aw, eqs := eqs, fns := fun f => look f Iz, ctr := [], lim := 30, big := [], lps := [] }
theorem Ok : XL Try.prog T Rf where
 Aw := A3
 eqs := A8
 mixed := mixed
 ctr := Am trivial
 fns := Au LM
 big := An trivial
 lps := AF rfl
theorem Dt : A6 Try.prog T Cg := AR Ok AK (g := Ht) (ls := [V 5]) (by kernel_rfl) (fun aq => by rw [show Cg.f = 15 from rfl, Vo]; rfl) fun aq e h1 h2 h3 => by
 subst h1
 rw [show Cg.f = 15 from rfl, Vo] at h2 ⊢
 obtain ⟨ho, hr⟩ := NF e h3 h2
 have r0 := hr
 refine ⟨trivial, ?_⟩
 show Aa [.bool] (Wu _).2 = Aa [.bool] [L.ev e (V 5)]
 exact (GR r0 rfl)
def Cy : EB := { f := 14, ps := [.c true [.int .i64, .int .i64], .d true [.str, .str, .sl [.int .i64], .int .i64], .c false [.int .i64], .c true [.int .i64, .int .i64]], rs := [(true, [.str, .str])], ok := fun _ => true }
noncomputable def Gz : List (Nat × Func) := [(14, Try.f14), (13, Try.f13), (36, Try.f36)]
theorem J2 : AM Try.prog Gz := ⟨Xh, V0, Xk, trivial⟩
noncomputable def Oq : Ctx := { Aw := Aw, eqs := eqs, fns := fun f => look f Gz, ctr := [(36, Ev), (13, Cm)], lim := 30, big := [], lps := [] }
theorem LO : XL Try.prog T Oq where
 Aw := A3
 eqs := A8
 mixed := mixed
 ctr := Am ⟨⟨rfl, J1⟩, ⟨rfl, Eu⟩, trivial⟩
 fns := Au J2
 big := An trivial
 lps := AF rfl
theorem GA : A6 Try.prog T Cy := AR LO AK (g := E8) (ls := [V 17, V 18]) (by kernel_rfl) (fun aq => by rw [show Cy.f = 14 from rfl, Vp]; rfl) fun aq e h1 h2 h3 => by
 subst h1
 rw [show Cy.f = 14 from rfl, Vp] at h2 ⊢
 obtain ⟨ho, hr⟩ := KR e h3 h2
 obtain ⟨r0, r1⟩ := hr
 refine ⟨⟨ho.1, ho.2, trivial⟩, ?_⟩
 show Aa [.str, .str] (Wv _).2 = Aa [.str, .str] [L.ev e (V 17), L.ev e (V 18)]
 exact (Oe r0 (Oe r1 rfl))
def CW : EB := { f := 12, ps := [.c true [.int .i64, .int .i64], .d true [.str, .str, .sl [.int .i64], .int .i64], .c false [.int .i64], .c false [.int .i64], .c true [.int .i64, .int .i64]], rs := [(false, [.str])], ok := fun _ => true }
noncomputable def IC : List (Nat × Func) := [(12, Try.f12), (15, Try.f15), (36, Try.f36)]
theorem LP : AM Try.prog IC := ⟨VZ, UW, Xk, trivial⟩
noncomputable def Rl : Ctx := { Aw := Aw, eqs := eqs, fns := fun f => look f IC, ctr := [(36, Ev), (15, Cg)], lim := 30, big := [], lps := [] }
theorem Ot : XL Try.prog T Rl where
 Aw := A3
 eqs := A8
 mixed := mixed
 ctr := Am ⟨⟨rfl, J1⟩, ⟨rfl, Dt⟩, trivial⟩
 fns := Au LP
 big := An trivial
 lps := AF rfl
theorem E9 : A6 Try.prog T CW := AR Ot AK (g := Hx) (ls := [V 44]) (by kernel_rfl) (fun aq => by rw [show CW.f = 12 from rfl, Vq]; rfl) fun aq e h1 h2 h3 => by
 subst h1
 rw [show CW.f = 12 from rfl, Vq] at h2 ⊢
 obtain ⟨ho, hr⟩ := NK e h3 h2
 have r0 := hr
 refine ⟨⟨ho.1, ho.2.1, ho.2.2.1, ho.2.2.2, trivial⟩, ?_⟩
 show Aa [.str] (Ww _).2 = Aa [.str] [L.ev e (V 44)]
 exact (Oe r0 rfl)
def Bk : EB := { f := 16, ps := [.c true [.int .i64, .int .i64], .d true [.str, .str, .sl [.int .i64], .int .i64]], rs := [(true, [.bool, .bool])], ok := fun _ => true }
noncomputable def Ew : List (Nat × Func) := [(16, Try.f16), (15, Try.f15)]
theorem Hy : AM Try.prog Ew := ⟨V1, UW, trivial⟩
noncomputable def KV : Ctx := { Aw := Aw, eqs := eqs, fns := fun f => look f Ew, ctr := [(15, Cg)], lim := 30, big := [], lps := [] }
theorem Jj : XL Try.prog T KV where
 Aw := A3
 eqs := A8
 mixed := mixed
 ctr := Am ⟨⟨rfl, Dt⟩, trivial⟩
 fns := Au Hy
 big := An trivial
 lps := AF rfl
theorem CL : A6 Try.prog T Bk := AR Jj AK (g := Di) (ls := [V 13, V 18]) (by kernel_rfl) (fun aq => by rw [show Bk.f = 16 from rfl, Vr]; rfl) fun aq e h1 h2 h3 => by
 subst h1
 rw [show Bk.f = 16 from rfl, Vr] at h2 ⊢
 obtain ⟨ho, hr⟩ := Ib e h3 h2
 obtain ⟨r0, r1⟩ := hr
 refine ⟨⟨ho.1, ho.2, trivial⟩, ?_⟩
 show Aa [.bool, .bool] (Wx _).2 = Aa [.bool, .bool] [L.ev e (V 13), L.ev e (V 18)]
 exact (GR r0 (GR r1 rfl))
def CA : EB := { f := 20, ps := [.c false [.int .i64], .c true [.int .i64, .int .i64]], rs := [(false, [.bool])], ok := fun _ => true }
noncomputable def GD : List (Nat × Func) := [(20, Try.f20), (38, Try.f38)]
theorem J4 : AM Try.prog GD := ⟨Xi, Xm, trivial⟩
noncomputable def Ov : Ctx := { Aw := Aw, eqs := eqs, fns := fun f => look f GD, ctr := [(38, Cz)], lim := 30, big := [], lps := [] }
theorem LR : XL Try.prog T Ov where
 Aw := A3
 eqs := A8
 mixed := mixed
 ctr := Am ⟨⟨rfl, GC⟩, trivial⟩
 fns := Au J4
 big := An trivial
 lps := AF rfl
theorem GF : A6 Try.prog T CA := AR LR AK (g := Fa) (ls := [V 31]) (by kernel_rfl) (fun aq => by rw [show CA.f = 20 from rfl, Vs]; rfl) fun aq e h1 h2 h3 => by
 subst h1
 rw [show CA.f = 20 from rfl, Vs] at h2 ⊢
 obtain ⟨ho, hr⟩ := KW e h3 h2
 have r0 := hr
 refine ⟨⟨ho, trivial⟩, ?_⟩
 show Aa [.bool] (Wy _).2 = Aa [.bool] [L.ev e (V 31)]
 exact (GR r0 rfl)
def Du : EB := { f := 18, ps := [.c false [.int .i64], .c true [.int .i64, .int .i64]], rs := [(true, [.int .i64, .int .i64]), (false, [.int .i64])], ok := fun _ => true }
noncomputable def GG : List (Nat × Func) := [(18, Try.f18), (38, Try.f38), (20, Try.f20)]
theorem J5 : AM Try.prog GG := ⟨XP, Xm, Xi, trivial⟩
noncomputable def Ow : Ctx := { Aw := Aw, eqs := eqs, fns := fun f => look f GG, ctr := [(38, Cz), (20, CA)], lim := 30, big := [], lps := [] }
theorem LU : XL Try.prog T Ow where
 Aw := A3
 eqs := A8
 mixed := mixed
 ctr := Am ⟨⟨rfl, GC⟩, ⟨rfl, GF⟩, trivial⟩
 fns := Au J5
 big := An trivial
 lps := AF rfl
theorem LV : A6 Try.prog T Du := AR LU AK (g := Fc) (ls := [V 22, V 23, V 21]) (by kernel_rfl) (fun aq => by rw [show Du.f = 18 from rfl, Vt]; rfl) fun aq e h1 h2 h3 => by
 subst h1
 rw [show Du.f = 18 from rfl, Vt] at h2 ⊢
 obtain ⟨ho, hr⟩ := KY e h3 h2
 obtain ⟨r0, r1, r2⟩ := hr
 refine ⟨⟨ho.1, ho.2, trivial⟩, ?_⟩
 show Aa [.int .i64, .int .i64, .int .i64] (Wz _).2 = Aa [.int .i64, .int .i64, .int .i64] [L.ev e (V 22), L.ev e (V 23), L.ev e (V 21)]
 exact (Nk r0 (Nk r1 (Nk r2 rfl)))
def C9 : EB := { f := 21, ps := [.c true [.int .i64, .int .i64], .c false [.int .i64]], rs := [(false, [.bool])], ok := fun _ => true }
noncomputable def Hz : List (Nat × Func) := [(21, Try.f21)]
theorem KZ : AM Try.prog Hz := ⟨Xj, trivial⟩
noncomputable def Qo : Ctx := { Aw := Aw, eqs := eqs, fns := fun f => look f Hz, ctr := [], lim := 30, big := [], lps := [] }
theorem NL : XL Try.prog T Qo where
 Aw := A3
 eqs := A8
 mixed := mixed
 ctr := Am trivial
 fns := Au KZ
 big := An trivial
 lps := AF rfl
theorem HA : A6 Try.prog T C9 := AR NL AK (g := Gi) (ls := [V 5]) (by kernel_rfl) (fun aq => by rw [show C9.f = 21 from rfl, Vu]; rfl) fun aq e h1 h2 h3 => by
 subst h1
 rw [show C9.f = 21 from rfl, Vu] at h2 ⊢
 obtain ⟨ho, hr⟩ := LX e h3 h2
 have r0 := hr
 refine ⟨trivial, ?_⟩
 show Aa [.bool] (WA _).2 = Aa [.bool] [L.ev e (V 5)]
 exact (GR r0 rfl)
def CX : EB := { f := 22, ps := [.c true [.int .i64, .int .i64], .c false [.int .i64]], rs := [(false, [.bool])], ok := fun _ => true }
noncomputable def ID : List (Nat × Func) := [(22, Try.f22)]
theorem LY : AM Try.prog ID := ⟨V3, trivial⟩
noncomputable def Rm : Ctx := { Aw := Aw, eqs := eqs, fns := fun f => look f ID, ctr := [], lim := 30, big := [], lps := [] }
theorem Ox : XL Try.prog T Rm where
 Aw := A3
 eqs := A8
 mixed := mixed
 ctr := Am trivial
 fns := Au LY
 big := An trivial
 lps := AF rfl
theorem Fe : A6 Try.prog T CX := AR Ox AK (g := HC) (ls := [V 5]) (by kernel_rfl) (fun aq => by rw [show CX.f = 22 from rfl, Vv]; rfl) fun aq e h1 h2 h3 => by
 subst h1
 rw [show CX.f = 22 from rfl, Vv] at h2 ⊢
 obtain ⟨ho, hr⟩ := NM e h3 h2
 have r0 := hr
 refine ⟨trivial, ?_⟩
 show Aa [.bool] (WB _).2 = Aa [.bool] [L.ev e (V 5)]
 exact (GR r0 rfl)
def Dw : EB := { f := 23, ps := [.c true [.int .i64, .int .i64], .d true [.str, .str, .sl [.int .i64], .int .i64], .c false [.int .i64], .c true [.int .i64, .int .i64]], rs := [(true, [.str, .str])], ok := fun _ => true }
noncomputable def GK : List (Nat × Func) := [(23, Try.f23), (21, Try.f21), (11, Try.f11)]
theorem J9 : AM Try.prog GK := ⟨XQ, Xj, VY, trivial⟩
noncomputable def OD : Ctx := { Aw := Aw, eqs := eqs, fns := fun f => look f GK, ctr := [(11, CY), (21, C9)], lim := 30, big := [], lps := [] }
theorem L5 : XL Try.prog T OD where
 Aw := A3
 eqs := A8
 mixed := mixed
 ctr := Am ⟨⟨rfl, Fj⟩, ⟨rfl, HA⟩, trivial⟩
 fns := Au J9
 big := An trivial
 lps := AF rfl
theorem L6 : A6 Try.prog T Dw := AR L5 AK (g := Ff) (ls := [V 17, V 18]) (by kernel_rfl) (fun aq => by rw [show Dw.f = 23 from rfl, Vw]; rfl) fun aq e h1 h2 h3 => by
 subst h1
 rw [show Dw.f = 23 from rfl, Vw] at h2 ⊢
 obtain ⟨ho, hr⟩ := K0 e h3 h2
 obtain ⟨r0, r1⟩ := hr
 refine ⟨⟨ho.1, ho.2, trivial⟩, ?_⟩
 show Aa [.str, .str] (WC _).2 = Aa [.str, .str] [L.ev e (V 17), L.ev e (V 18)]
 exact (Oe r0 (Oe r1 rfl))
def EV : EB := { f := 24, ps := [.c true [.int .i64, .int .i64], .d true [.str, .str, .sl [.int .i64], .int .i64], .c false [.int .i64], .c false [.int .i64], .c true [.int .i64, .int .i64]], rs := [(false, [.str])], ok := fun _ => true }
noncomputable def IJ : List (Nat × Func) := [(24, Try.f24), (22, Try.f22), (11, Try.f11)]
theorem L7 : AM Try.prog IJ := ⟨XR, V3, VY, trivial⟩
noncomputable def Rs : Ctx := { Aw := Aw, eqs := eqs, fns := fun f => look f IJ, ctr := [(11, CY), (22, CX)], lim := 30, big := [], lps := [] }
theorem OE : XL Try.prog T Rs where
 Aw := A3
 eqs := A8
 mixed := mixed
 ctr := Am ⟨⟨rfl, Fj⟩, ⟨rfl, Fe⟩, trivial⟩
 fns := Au L7
 big := An trivial
 lps := AF rfl
theorem OF : A6 Try.prog T EV := AR OE AK (g := HH) (ls := [V 41]) (by kernel_rfl) (fun aq => by rw [show EV.f = 24 from rfl, Vx]; rfl) fun aq e h1 h2 h3 => by
 subst h1
 rw [show EV.f = 24 from rfl, Vx] at h2 ⊢
 obtain ⟨ho, hr⟩ := NS e h3 h2
 have r0 := hr
 refine ⟨⟨ho.1, ho.2.1, ho.2.2.1, ho.2.2.2, trivial⟩, ?_⟩
 show Aa [.str] (WD _).2 = Aa [.str] [L.ev e (V 41)]
 exact (Oe r0 rfl)
def Cn : EB := { f := 25, ps := [.c true [.int .i64, .int .i64], .d true [.str, .str, .sl [.int .i64], .int .i64]], rs := [(true, [.bool, .bool])], ok := fun _ => true }
noncomputable def Ey : List (Nat × Func) := [(25, Try.f25), (22, Try.f22)]
theorem HI : AM Try.prog Ey := ⟨XS, V3, trivial⟩
noncomputable def K3 : Ctx := { Aw := Aw, eqs := eqs, fns := fun f => look f Ey, ctr := [(22, CX)], lim := 30, big := [], lps := [] }
theorem Jk : XL Try.prog T K3 where
 Aw := A3
 eqs := A8
 mixed := mixed
 ctr := Am ⟨⟨rfl, Fe⟩, trivial⟩
 fns := Au HI
 big := An trivial
 lps := AF rfl
theorem Jl : A6 Try.prog T Cn := AR Jk AK (g := Dj) (ls := [V 12, V 17]) (by kernel_rfl) (fun aq => by rw [show Cn.f = 25 from rfl, Vy]; rfl) fun aq e h1 h2 h3 => by
 subst h1
 rw [show Cn.f = 25 from rfl, Vy] at h2 ⊢
 obtain ⟨ho, hr⟩ := Ic e h3 h2
 obtain ⟨r0, r1⟩ := hr
 refine ⟨⟨ho.1, ho.2, trivial⟩, ?_⟩
 show Aa [.bool, .bool] (WE _).2 = Aa [.bool, .bool] [L.ev e (V 12), L.ev e (V 17)]
 exact (GR r0 (GR r1 rfl))
def CB : EB := { f := 9, ps := [.d true [.str, .str, .sl [.int .i64], .int .i64]], rs := [(false, [.bool])], ok := fun _ => true }
noncomputable def GL : List (Nat × Func) := [(9, Try.f9)]
theorem Ka : AM Try.prog GL := ⟨Yu, trivial⟩
noncomputable def OG : Ctx := { Aw := Aw, eqs := eqs, fns := fun f => look f GL, ctr := [], lim := 30, big := [], lps := [] }
theorem L8 : XL Try.prog T OG where
 Aw := A3
 eqs := A8
 mixed := mixed
 ctr := Am trivial
 fns := Au Ka
 big := An trivial
 lps := AF rfl
theorem GM : A6 Try.prog T CB := AR L8 AK (g := Fk) (ls := [V 11]) (by kernel_rfl) (fun aq => by rw [show CB.f = 9 from rfl, X7]; rfl) fun aq e h1 h2 h3 => by
 subst h1
 rw [show CB.f = 9 from rfl, X7] at h2 ⊢
 obtain ⟨ho, hr⟩ := K4 e h3 h2
 have r0 := hr
 refine ⟨trivial, ?_⟩
 show Aa [.bool] (Yc _).2 = Aa [.bool] [L.ev e (V 11)]
 exact (GR r0 rfl)
end Rx.S
