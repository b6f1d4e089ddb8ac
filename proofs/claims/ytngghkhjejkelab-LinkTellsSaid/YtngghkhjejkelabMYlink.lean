import Derived.Test.YtngghkhjejkelabMXt
set_option linter.unusedVariables false
set_option linter.unusedSimpArgs false
namespace Rx.S
open Go Rx
set_option maxRecDepth 100000
set_option maxHeartbeats 1000000
def KO : G := ⟨248, [⟨247, .iteB, [V 49, V 200, V 65]⟩, ⟨246, .iteI, [V 49, V 194, N 0]⟩, ⟨245, .iteI, [V 49, V 193, N 0]⟩, ⟨244, .iteI, [V 49, V 192, N 0]⟩, ⟨243, .iteI, [V 49, V 191, N 0]⟩, ⟨242, .iteI, [V 49, V 190, N 0]⟩, ⟨241, .iteI, [V 49, V 189, N 0]⟩, ⟨240, .iteI, [V 49, V 188, N 0]⟩, ⟨239, .iteI, [V 49, V 187, N 0]⟩, ⟨238, .iteI, [V 49, V 186, N 0]⟩, ⟨237, .iteI, [V 49, V 185, N 0]⟩, ⟨236, .iteI, [V 49, V 184, N 0]⟩, ⟨235, .iteI, [V 49, V 183, N 0]⟩, ⟨234, .iteI, [V 49, V 182, N 0]⟩, ⟨233, .iteI, [V 49, V 181, N 0]⟩, ⟨232, .iteI, [V 49, V 180, N 0]⟩, ⟨231, .iteI, [V 49, V 179, N 0]⟩, ⟨230, .iteI, [V 49, V 178, N 0]⟩, ⟨229, .iteI, [V 49, V 177, N 0]⟩, ⟨228, .iteI, [V 49, V 176, N 0]⟩, ⟨227, .iteI, [V 49, V 175, N 0]⟩, ⟨226, .iteI, [V 49, V 174, N 0]⟩, ⟨225, .iteI, [V 49, V 173, N 0]⟩, ⟨224, .iteI, [V 49, V 172, N 0]⟩, ⟨223, .iteI, [V 49, V 171, N 0]⟩, ⟨222, .iteI, [V 49, V 170, N 0]⟩, ⟨221, .iteI, [V 49, V 169, N 0]⟩, ⟨220, .iteI, [V 49, V 168, N 0]⟩, ⟨219, .iteI, [V 49, V 167, N 0]⟩, ⟨218, .iteB, [V 49, V 40, V 64]⟩, ⟨217, .iteB, [V 49, V 38, V 63]⟩, ⟨216, .iteI, [V 49, V 24, V 62]⟩, ⟨215, .iteI, [V 49, V 23, V 61]⟩, ⟨214, .iteI, [V 49, V 22, V 60]⟩, ⟨213, .iteI, [V 49, V 21, V 59]⟩, ⟨212, .iteI, [V 49, V 20, V 58]⟩, ⟨211, .iteI, [V 49, V 19, V 57]⟩, ⟨210, .iteI, [V 49, V 18, V 56]⟩, ⟨209, .iteI, [V 49, V 17, V 55]⟩, ⟨208, .iteI, [V 49, V 16, V 54]⟩, ⟨207, .iteI, [V 49, V 15, V 53]⟩, ⟨206, .iteI, [V 49, V 14, V 52]⟩, ⟨205, .iteI, [V 49, V 13, V 51]⟩, ⟨204, .iteB, [V 49, B false, B true]⟩, ⟨203, .iteI, [V 49, N 2, V 50]⟩, ⟨202, .iteI, [V 49, V 161, N 1]⟩, ⟨201, .not, [V 49]⟩, ⟨200, .iteB, [V 89, V 89, V 95]⟩, ⟨199, .iteA, [V 89, V 27, V 94]⟩, ⟨198, .iteI, [V 89, V 124, V 90]⟩, ⟨197, .iteA, [V 89, V 123, V 94]⟩, ⟨196, .iteI, [V 89, V 110, V 90]⟩, ⟨195, .iteA, [V 89, V 109, V 94]⟩, ⟨194, .iteI, [V 89, V 157, N 0]⟩, ⟨193, .iteI, [V 89, V 156, N 0]⟩, ⟨192, .iteI, [V 89, V 140, N 0]⟩, ⟨191, .iteI, [V 89, V 139, N 0]⟩, ⟨190, .iteI, [V 89, V 155, N 0]⟩, ⟨189, .iteI, [V 89, V 154, N 0]⟩, ⟨188, .iteI, [V 89, V 153, N 0]⟩, ⟨187, .iteI, [V 89, V 152, N 0]⟩, ⟨186, .iteI, [V 89, V 151, N 0]⟩, ⟨185, .iteI, [V 89, V 150, N 0]⟩, ⟨184, .iteI, [V 89, V 149, N 0]⟩, ⟨183, .iteI, [V 89, V 148, N 0]⟩, ⟨182, .iteI, [V 89, V 147, N 0]⟩, ⟨181, .iteI, [V 89, V 146, N 0]⟩, ⟨180, .iteI, [V 89, V 145, N 0]⟩, ⟨179, .iteI, [V 89, V 144, N 0]⟩, ⟨178, .iteI, [V 89, V 138, N 0]⟩, ⟨177, .iteI, [V 89, V 137, N 0]⟩, ⟨176, .iteI, [V 89, V 136, N 0]⟩, ⟨175, .iteI, [V 89, V 135, N 0]⟩, ⟨174, .iteI, [V 89, V 134, N 0]⟩, ⟨173, .iteI, [V 89, V 133, N 0]⟩, ⟨172, .iteI, [V 89, V 132, N 0]⟩, ⟨171, .iteI, [V 89, V 131, N 0]⟩, ⟨170, .iteI, [V 89, V 130, N 0]⟩, ⟨169, .iteI, [V 89, V 129, N 0]⟩, ⟨168, .iteI, [V 89, V 128, N 0]⟩, ⟨167, .iteI, [V 89, V 127, N 0]⟩, ⟨166, .iteB, [V 89, V 80, V 93]⟩, ⟨165, .iteB, [V 89, V 78, V 92]⟩, ⟨164, .iteB, [V 89, B false, B true]⟩, ⟨163, .iteI, [V 89, N 2, V 91]⟩, ⟨162, .iteI, [V 89, V 28, V 90]⟩, ⟨161, .iteI, [V 89, N 0, N 2]⟩, ⟨160, .not, [V 89]⟩, ⟨159, .imp, [V 89, V 143]⟩, ⟨143, (.call 11), [V 0, V 111, V 112, V 113, V 114, V 115, V 116, V 117, V 118, V 119, V 120, V 121, V 122, V 123, V 124]⟩, ⟨142, .imp, [V 89, V 126]⟩, ⟨126, (.call 11), [V 0, V 97, V 98, V 99, V 100, V 101, V 102, V 103, V 104, V 105, V 106, V 107, V 108, V 109, V 110]⟩, ⟨125, .imp, [V 89, V 96]⟩, ⟨96, (.call 27), [V 1, V 2, V 3, V 4, V 5, V 6, V 7, V 8, V 9, V 10, V 11, V 12, V 13, V 14, V 15, V 16, V 17, V 18, V 19, V 20, V 21, V 22, V 23, V 24, V 25, V 26, V 27, V 28, V 29, V 30]⟩, ⟨95, .iteB, [V 74, V 88, V 76]⟩, ⟨94, .iteA, [V 74, V 27, V 25]⟩, ⟨93, .iteB, [V 74, V 80, V 69]⟩, ⟨92, .iteB, [V 74, V 78, V 67]⟩, ⟨91, .iteI, [V 74, N 1, N 0]⟩, ⟨90, .iteI, [V 74, V 28, V 26]⟩, ⟨89, .and, [V 74, V 85]⟩, ⟨88, .and, [V 86, V 87]⟩, ⟨87, .and, [V 86, V 84]⟩, ⟨86, .not, [V 85]⟩, ⟨85, .and, [V 81, V 83]⟩, ⟨84, .and, [V 80, V 82]⟩, ⟨83, .and, [V 74, V 81]⟩, ⟨82, .and, [V 74, V 80]⟩, ⟨81, .not, [V 80]⟩, ⟨80, .not, [V 78]⟩, ⟨79, .imp, [V 74, V 77]⟩, ⟨77, (.call 26), [V 0, V 27, V 28]⟩, ⟨76, .and, [V 75, V 73]⟩, ⟨75, .not, [V 74]⟩, ⟨74, .and, [V 70, V 72]⟩, ⟨73, .and, [V 69, V 71]⟩, ⟨72, .and, [V 49, V 70]⟩, ⟨71, .and, [V 49, V 69]⟩, ⟨70, .not, [V 69]⟩, ⟨69, .not, [V 67]⟩, ⟨68, .imp, [V 49, V 66]⟩, ⟨66, (.call 26), [V 0, V 25, V 26]⟩, ⟨65, .iteB, [V 34, V 48, V 36]⟩, ⟨64, .iteB, [V 34, V 40, V 33]⟩, ⟨63, .iteB, [V 34, V 38, V 32]⟩, ⟨62, .iteI, [V 34, V 24, V 12]⟩, ⟨61, .iteI, [V 34, V 23, V 11]⟩, ⟨60, .iteI, [V 34, V 22, V 10]⟩, ⟨59, .iteI, [V 34, V 21, V 9]⟩, ⟨58, .iteI, [V 34, V 20, V 8]⟩, ⟨57, .iteI, [V 34, V 19, V 7]⟩, ⟨56, .iteI, [V 34, V 18, V 6]⟩, ⟨55, .iteI, [V 34, V 17, V 5]⟩, ⟨54, .iteI, [V 34, V 16, V 4]⟩, ⟨53, .iteI, [V 34, V 15, V 3]⟩, ⟨52, .iteI, [V 34, V 14, V 2]⟩, ⟨51, .iteI, [V 34, V 13, V 1]⟩, ⟨50, .iteI, [V 34, N 1, N 0]⟩, ⟨49, .and, [V 34, V 45]⟩, ⟨48, .and, [V 46, V 47]⟩, ⟨47, .and, [V 46, V 44]⟩, ⟨46, .not, [V 45]⟩, ⟨45, .and, [V 41, V 43]⟩, ⟨44, .and, [V 40, V 42]⟩, ⟨43, .and, [V 34, V 41]⟩, ⟨42, .and, [V 34, V 40]⟩, ⟨41, .not, [V 40]⟩, ⟨40, .not, [V 38]⟩, ⟨39, .imp, [V 34, V 37]⟩, ⟨37, (.call 25), [V 0, V 13, V 14, V 15, V 16, V 17, V 18, V 19, V 20, V 21, V 22, V 23, V 24]⟩, ⟨36, .and, [V 35, V 33]⟩, ⟨35, .not, [V 34]⟩, ⟨34, .not, [V 33]⟩, ⟨33, .not, [V 32]⟩, ⟨31, (.call 25), [V 0, V 1, V 2, V 3, V 4, V 5, V 6, V 7, V 8, V 9, V 10, V 11, V 12]⟩], [V 159, V 142, V 125, V 79, V 68, V 39, V 31], []⟩
theorem Tl (e : Nat → A) (H : Ac T e KO.defs) : ∀ z0, z0 = (Day.HB.mk [(e 1).int, (e 2).int, (e 3).int, (e 4).int, (e 5).int, (e 6).int, (e 7).int, (e 8).int] (e 9).int (e 10).int (e 11).int (e 12).int) → ∀ z1, z1 = (Day.HB.mk [(e 13).int, (e 14).int, (e 15).int, (e 16).int, (e 17).int, (e 18).int, (e 19).int, (e 20).int] (e 21).int (e 22).int (e 23).int (e 24).int) → ∀ r2, r2 = Day.DI (e 0).int z0 z1 (Day.Ls.mk (e 25) (e 26).int) (Day.Ls.mk (e 27) (e 28).int) (e 29).bool (e 30).bool → ∀ r3, r3 = Day.DJ (e 0).int z0 z1 (Day.Ls.mk (e 25) (e 26).int) (Day.Ls.mk (e 27) (e 28).int) (e 29).bool (e 30).bool → (Day.HB.i64 z0 && (Day.HB.i64 z1 && (Day.Ls.FL (Day.Ls.mk (e 25) (e 26).int) && Day.Ls.FL (Day.Ls.mk (e 27) (e 28).int)))) = true →
  ((e 159).bool = true ∧ (e 142).bool = true ∧ (e 125).bool = true ∧ (e 79).bool = true ∧ (e 68).bool = true ∧ (e 39).bool = true ∧ (e 31).bool = true) ∧ (((r2)).a 0 = (e 219).int ∧ ((r2)).a 1 = (e 220).int ∧ ((r2)).a 2 = (e 221).int ∧ ((r2)).a 3 = (e 222).int ∧ ((r2)).a 4 = (e 223).int ∧ ((r2)).a 5 = (e 224).int ∧ ((r2)).a 6 = (e 225).int ∧ ((r2)).a 7 = (e 226).int ∧ ((r2)).port = (e 227).int ∧ ((r2)).age = (e 228).int ∧ ((r2)).hold = (e 229).int ∧ ((r2)).pos = (e 230).int ∧ ((r3)).a 0 = (e 231).int ∧ ((r3)).a 1 = (e 232).int ∧ ((r3)).a 2 = (e 233).int ∧ ((r3)).a 3 = (e 234).int ∧ ((r3)).a 4 = (e 235).int ∧ ((r3)).a 5 = (e 236).int ∧ ((r3)).a 6 = (e 237).int ∧ ((r3)).a 7 = (e 238).int ∧ ((r3)).port = (e 239).int ∧ ((r3)).age = (e 240).int ∧ ((r3)).hold = (e 241).int ∧ ((r3)).pos = (e 242).int ∧ ((Day.Cv (e 0).int z0 z1 (Day.Ls.mk (e 25) (e 26).int) (Day.Ls.mk (e 27) (e 28).int) (e 29).bool (e 30).bool)).kind = (e 243).int ∧ ((Day.Cv (e 0).int z0 z1 (Day.Ls.mk (e 25) (e 26).int) (Day.Ls.mk (e 27) (e 28).int) (e 29).bool (e 30).bool)).id = (e 244).int ∧ ((Day.Cw (e 0).int z0 z1 (Day.Ls.mk (e 25) (e 26).int) (Day.Ls.mk (e 27) (e 28).int) (e 29).bool (e 30).bool)).kind = (e 245).int ∧ ((Day.Cw (e 0).int z0 z1 (Day.Ls.mk (e 25) (e 26).int) (Day.Ls.mk (e 27) (e 28).int) (e 29).bool (e 30).bool)).id = (e 246).int ∧ Day.CL (e 0).int z0 z1 (Day.Ls.mk (e 25) (e 26).int) (Day.Ls.mk (e 27) (e 28).int) = (e 202).int) := by
 intro z0 hz0 z1 hz1 r2 hr2 r3 hr3 hp
 subst hz0 hz1 hr2 hr3
 simp only [KO, Ac, Def.q, Bc, L.Ae, L.Aq, L.AE, L.AF, L.ev, A.Ad, A.Ah, A.As, A.AJ, List.map_cons, List.map_nil, Nat.zero_add, Nat.add_zero, and_true, true_and, Nat.reduceAdd, Nat.one_mul] at H
 simp only [C0, C1, CN, A3, De, Dg, Bm, Dw, and_true, true_and] at H
 obtain ⟨q247, ⟨q246, -⟩, ⟨q245, -⟩, ⟨q244, -⟩, ⟨q243, -⟩, ⟨q242, -⟩, ⟨q241, -⟩, ⟨q240, -⟩, ⟨q239, -⟩, ⟨q238, -⟩, ⟨q237, -⟩, ⟨q236, -⟩, ⟨q235, -⟩, ⟨q234, -⟩, ⟨q233, -⟩, ⟨q232, -⟩, ⟨q231, -⟩, ⟨q230, -⟩, ⟨q229, -⟩, ⟨q228, -⟩, ⟨q227, -⟩, ⟨q226, -⟩, ⟨q225, -⟩, ⟨q224, -⟩, ⟨q223, -⟩, ⟨q222, -⟩, ⟨q221, -⟩, ⟨q220, -⟩, ⟨q219, -⟩, q218, q217, ⟨q216, -⟩, ⟨q215, -⟩, ⟨q214, -⟩, ⟨q213, -⟩, ⟨q212, -⟩, ⟨q211, -⟩, ⟨q210, -⟩, ⟨q209, -⟩, ⟨q208, -⟩, ⟨q207, -⟩, ⟨q206, -⟩, ⟨q205, -⟩, q204, ⟨q203, -⟩, ⟨q202, -⟩, q201, q200, q199, ⟨q198, -⟩, q197, ⟨q196, -⟩, q195, ⟨q194, -⟩, ⟨q193, -⟩, ⟨q192, -⟩, ⟨q191, -⟩, ⟨q190, -⟩, ⟨q189, -⟩, ⟨q188, -⟩, ⟨q187, -⟩, ⟨q186, -⟩, ⟨q185, -⟩, ⟨q184, -⟩, ⟨q183, -⟩, ⟨q182, -⟩, ⟨q181, -⟩, ⟨q180, -⟩, ⟨q179, -⟩, ⟨q178, -⟩, ⟨q177, -⟩, ⟨q176, -⟩, ⟨q175, -⟩, ⟨q174, -⟩, ⟨q173, -⟩, ⟨q172, -⟩, ⟨q171, -⟩, ⟨q170, -⟩, ⟨q169, -⟩, ⟨q168, -⟩, ⟨q167, -⟩, q166, q165, q164, ⟨q163, -⟩, ⟨q162, -⟩, ⟨q161, -⟩, q160, q159, q143, q142, q126, q125, q96, q95, q94, q93, q92, ⟨q91, -⟩, ⟨q90, -⟩, q89, q88, q87, q86, q85, q84, q83, q82, q81, q80, q79, q77, q76, q75, q74, q73, q72, q71, q70, q69, q68, q66, q65, q64, q63, ⟨q62, -⟩, ⟨q61, -⟩, ⟨q60, -⟩, ⟨q59, -⟩, ⟨q58, -⟩, ⟨q57, -⟩, ⟨q56, -⟩, ⟨q55, -⟩, ⟨q54, -⟩, ⟨q53, -⟩, ⟨q52, -⟩, ⟨q51, -⟩, ⟨q50, -⟩, q49, q48, q47, q46, q45, q44, q43, q42, q41, q40, q39, q37, q36, q35, q34, q33, q31⟩ := H
 replace q143 := NG q143 _ rfl _ rfl
 obtain ⟨q143, q144, q145, q146, q147, q148, q149, q150, q151, q152, q153, q154, q155, q156, q157, q158⟩ := q143
 replace q126 := NG q126 _ rfl _ rfl
 obtain ⟨q126, q127, q128, q129, q130, q131, q132, q133, q134, q135, q136, q137, q138, q139, q140, q141⟩ := q126
 replace q96 := Ti q96 _ rfl _ rfl _ rfl
 obtain ⟨q96, q97, q98, q99, q100, q101, q102, q103, q104, q105, q106, q107, q108, q109, q110, q111, q112, q113, q114, q115, q116, q117, q118, q119, q120, q121, q122, q123, q124⟩ := q96
 replace q77 := Hl q77
 obtain ⟨q77, q78⟩ := q77
 replace q66 := Hl q66
 obtain ⟨q66, q67⟩ := q66
 replace q37 := Cp q37 _ rfl
 obtain ⟨q37, q38⟩ := q37
 replace q31 := Cp q31 _ rfl
 obtain ⟨q31, q32⟩ := q31
 simp only [L.Ae, L.Aq, L.AE, L.AF, L.ev, A.Ad, A.Ah, A.As] at q143 q144 q145 q146 q147 q148 q149 q150 q151 q152 q153 q154 q155 q156 q157 q158 q126 q127 q128 q129 q130 q131 q132 q133 q134 q135 q136 q137 q138 q139 q140 q141 q96 q97 q98 q99 q100 q101 q102 q103 q104 q105 q106 q107 q108 q109 q110 q111 q112 q113 q114 q115 q116 q117 q118 q119 q120 q121 q122 q123 q124 q77 q78 q66 q67 q37 q38 q31 q32
 generalize (e 0).int = x0, (e 1).int = x1, (e 2).int = x2, (e 3).int = x3, (e 4).int = x4, (e 5).int = x5, (e 6).int = x6, (e 7).int = x7, (e 8).int = x8, (e 9).int = x9, (e 10).int = x10, (e 11).int = x11, (e 12).int = x12, (e 13).int = x13, (e 14).int = x14, (e 15).int = x15, (e 16).int = x16, (e 17).int = x17, (e 18).int = x18, (e 19).int = x19, (e 20).int = x20, (e 21).int = x21, (e 22).int = x22, (e 23).int = x23, (e 24).int = x24, e 25 = x25, (e 26).int = x26, e 27 = x27, (e 28).int = x28, (e 29).bool = x29, (e 30).bool = x30, (e 31).bool = v31, (e 32).bool = v32, (e 33).bool = v33, (e 34).bool = v34, (e 35).bool = v35, (e 36).bool = v36, (e 37).bool = v37, (e 38).bool = v38, (e 39).bool = v39, (e 40).bool = v40, (e 41).bool = v41, (e 42).bool = v42, (e 43).bool = v43, (e 44).bool = v44, (e 45).bool = v45, (e 46).bool = v46, (e 47).bool = v47, (e 48).bool = v48, (e 49).bool = v49, (e 50).int = v50, (e 51).int = v51, (e 52).int = v52, (e 53).int = v53, (e 54).int = v54, (e 55).int = v55, (e 56).int = v56, (e 57).int = v57, (e 58).int = v58, (e 59).int = v59, (e 60).int = v60, (e 61).int = v61, (e 62).int = v62, (e 63).bool = v63, (e 64).bool = v64, (e 65).bool = v65, (e 66).bool = v66, (e 67).bool = v67, (e 68).bool = v68, (e 69).bool = v69, (e 70).bool = v70, (e 71).bool = v71, (e 72).bool = v72, (e 73).bool = v73, (e 74).bool = v74, (e 75).bool = v75, (e 76).bool = v76, (e 77).bool = v77, (e 78).bool = v78, (e 79).bool = v79, (e 80).bool = v80, (e 81).bool = v81, (e 82).bool = v82, (e 83).bool = v83, (e 84).bool = v84, (e 85).bool = v85, (e 86).bool = v86, (e 87).bool = v87, (e 88).bool = v88, (e 89).bool = v89, (e 90).int = v90, (e 91).int = v91, (e 92).bool = v92, (e 93).bool = v93, e 94 = v94, (e 95).bool = v95, (e 96).bool = v96, (e 97).int = v97, (e 98).int = v98, (e 99).int = v99, (e 100).int = v100, (e 101).int = v101, (e 102).int = v102, (e 103).int = v103, (e 104).int = v104, (e 105).int = v105, (e 106).int = v106, (e 107).int = v107, (e 108).int = v108, e 109 = v109, (e 110).int = v110, (e 111).int = v111, (e 112).int = v112, (e 113).int = v113, (e 114).int = v114, (e 115).int = v115, (e 116).int = v116, (e 117).int = v117, (e 118).int = v118, (e 119).int = v119, (e 120).int = v120, (e 121).int = v121, (e 122).int = v122, e 123 = v123, (e 124).int = v124, (e 125).bool = v125, (e 126).bool = v126, (e 127).int = v127, (e 128).int = v128, (e 129).int = v129, (e 130).int = v130, (e 131).int = v131, (e 132).int = v132, (e 133).int = v133, (e 134).int = v134, (e 135).int = v135, (e 136).int = v136, (e 137).int = v137, (e 138).int = v138, (e 139).int = v139, (e 140).int = v140, (e 141).int = v141, (e 142).bool = v142, (e 143).bool = v143, (e 144).int = v144, (e 145).int = v145, (e 146).int = v146, (e 147).int = v147, (e 148).int = v148, (e 149).int = v149, (e 150).int = v150, (e 151).int = v151, (e 152).int = v152, (e 153).int = v153, (e 154).int = v154, (e 155).int = v155, (e 156).int = v156, (e 157).int = v157, (e 158).int = v158, (e 159).bool = v159, (e 160).bool = v160, (e 161).int = v161, (e 162).int = v162, (e 163).int = v163, (e 164).bool = v164, (e 165).bool = v165, (e 166).bool = v166, (e 167).int = v167, (e 168).int = v168, (e 169).int = v169, (e 170).int = v170, (e 171).int = v171, (e 172).int = v172, (e 173).int = v173, (e 174).int = v174, (e 175).int = v175, (e 176).int = v176, (e 177).int = v177, (e 178).int = v178, (e 179).int = v179, (e 180).int = v180, (e 181).int = v181, (e 182).int = v182, (e 183).int = v183, (e 184).int = v184, (e 185).int = v185, (e 186).int = v186, (e 187).int = v187, (e 188).int = v188, (e 189).int = v189, (e 190).int = v190, (e 191).int = v191, (e 192).int = v192, (e 193).int = v193, (e 194).int = v194, e 195 = v195, (e 196).int = v196, e 197 = v197, (e 198).int = v198, e 199 = v199, (e 200).bool = v200, (e 201).bool = v201, (e 202).int = v202, (e 203).int = v203, (e 204).bool = v204, (e 205).int = v205, (e 206).int = v206, (e 207).int = v207, (e 208).int = v208, (e 209).int = v209, (e 210).int = v210, (e 211).int = v211, (e 212).int = v212, (e 213).int = v213, (e 214).int = v214, (e 215).int = v215, (e 216).int = v216, (e 217).bool = v217, (e 218).bool = v218, (e 219).int = v219, (e 220).int = v220, (e 221).int = v221, (e 222).int = v222, (e 223).int = v223, (e 224).int = v224, (e 225).int = v225, (e 226).int = v226, (e 227).int = v227, (e 228).int = v228, (e 229).int = v229, (e 230).int = v230, (e 231).int = v231, (e 232).int = v232, (e 233).int = v233, (e 234).int = v234, (e 235).int = v235, (e 236).int = v236, (e 237).int = v237, (e 238).int = v238, (e 239).int = v239, (e 240).int = v240, (e 241).int = v241, (e 242).int = v242, (e 243).int = v243, (e 244).int = v244, (e 245).int = v245, (e 246).int = v246, (e 247).bool = v247 at *
 generalize hA : Day.HB.mk [x1, x2, x3, x4, x5, x6, x7, x8] x9 x10 x11 x12 = A at *
 generalize hB : Day.HB.mk [x13, x14, x15, x16, x17, x18, x19, x20] x21 x22 x23 x24 = B at *
 generalize hQ : Day.Ls.mk x25 x26 = Q at *
 generalize hR : Day.Ls.mk x27 x28 = R at *
 have hlA : A.ages.length = 8 := by rw [← hA]; rfl
 have hlB : B.ages.length = 8 := by rw [← hB]; rfl
 have hqn : x26 = Q.n := by rw [← hQ]
 have hrn : x28 = R.n := by rw [← hR]
 have hqx : x25 = Q.x := by rw [← hQ]
 have hrx : x27 = R.x := by rw [← hR]
 clear hB hQ hR
 simp only [Bool.and_eq_true] at hp
 obtain ⟨hi0, hi1, hf0, hf1⟩ := hp
 obtain ⟨o1, o1'⟩ := Day.Ls.Et.1 hf0
 obtain ⟨o2, o2'⟩ := Day.Ls.Et.1 hf1
 have k1 : Q.ok = true := by simp [Day.Ls.ok, o1]
 have k2 : R.ok = true := by simp [Day.Ls.ok, o2]
 have hmA : Day.HB.mk [v97, v98, v99, v100, v101, v102, v103, v104] v105 v106 v107 v108 = A := by
  rw [q97, q98, q99, q100, q101, q102, q103, q104, q105, q106, q107, q108, ← hA]
  rfl
 clear hA
 cases hr0 : Day.Ak x0 A with
 | false =>
  have hE : Day.CL x0 A B Q R = 1 := by simp [Day.CL, hr0]
  rw [hr0] at q32
  clear hmA q97 q98 q99 q100 q101 q102 q103 q104 q105 q106 q107 q108 q109 q110 q111 q112 q113 q114 q115 q116 q117 q118 q119 q120 q121 q122 q123 q124 q127 q128 q129 q130 q131 q132 q133 q134 q135 q136 q137 q138 q139 q140 q141 q144 q145 q146 q147 q148 q149 q150 q151 q152 q153 q154 q155 q156 q157 q158
  subst_vars
  simp [hE, hi0, hi1, Day.DI, Day.DJ, Day.Cv, Day.Cw, Day.Bp, Day.B3, Day.HB.a]
 | true =>
  rw [hr0] at q32
  cases hr1 : Day.Ak x0 B with
  | false =>
   have hE : Day.CL x0 A B Q R = 1 := by simp [Day.CL, hr0, hr1]
   rw [hr1] at q38
   clear hmA q97 q98 q99 q100 q101 q102 q103 q104 q105 q106 q107 q108 q109 q110 q111 q112 q113 q114 q115 q116 q117 q118 q119 q120 q121 q122 q123 q124 q127 q128 q129 q130 q131 q132 q133 q134 q135 q136 q137 q138 q139 q140 q141 q144 q145 q146 q147 q148 q149 q150 q151 q152 q153 q154 q155 q156 q157 q158
   subst_vars
   simp [hE, hi0, hi1, Day.DI, Day.DJ, Day.Cv, Day.Cw, Day.Bp, Day.B3, Day.HB.a]
  | true =>
   rw [hr1] at q38
   cases t0 : Day.Cg x0 Q with
   | false =>
    have hE : Day.CL x0 A B Q R = 2 := by simp [Day.CL, hr0, hr1, t0]
    rw [t0] at q67
    clear hmA q97 q98 q99 q100 q101 q102 q103 q104 q105 q106 q107 q108 q109 q110 q111 q112 q113 q114 q115 q116 q117 q118 q119 q120 q121 q122 q123 q124 q127 q128 q129 q130 q131 q132 q133 q134 q135 q136 q137 q138 q139 q140 q141 q144 q145 q146 q147 q148 q149 q150 q151 q152 q153 q154 q155 q156 q157 q158
    subst_vars
    simp [hE, hi0, hi1, k1, k2, Day.DI, Day.DJ, Day.Cv, Day.Cw, Day.Bp, Day.B3, Day.HB.a]
   | true =>
   rw [t0] at q67
   cases t1 : Day.Cg x0 R with
   | false =>
    have hE : Day.CL x0 A B Q R = 2 := by simp [Day.CL, hr0, hr1, t0, t1]
    rw [t1] at q78
    clear hmA q97 q98 q99 q100 q101 q102 q103 q104 q105 q106 q107 q108 q109 q110 q111 q112 q113 q114 q115 q116 q117 q118 q119 q120 q121 q122 q123 q124 q127 q128 q129 q130 q131 q132 q133 q134 q135 q136 q137 q138 q139 q140 q141 q144 q145 q146 q147 q148 q149 q150 q151 q152 q153 q154 q155 q156 q157 q158
    subst_vars
    simp [hE, hi0, hi1, k1, k2, Day.DI, Day.DJ, Day.Cv, Day.Cw, Day.Bp, Day.B3, Day.HB.a]
   | true =>
    rw [t1] at q78
    have hE := Day.YH hr0 hr1 t0 t1
    obtain ⟨n1, n2, n3⟩ := Day.Hk t0
    obtain ⟨m1, m2, m3⟩ := Day.Hk t1
    have hRt : Day.right x0 = true := by simp [Day.right, n2]
    have hI : Day.Be Q.n 1000000 = true := by rw [Day.Au]; omega
    have hL : Day.P4 1 Q.n = true := by rw [Day.FK]; omega
    have hEq : Day.Ms Q.n R.n = true := by simp [Day.Ms, n1, m1]
    have s0 : Day.Ls.mk v109 v110 = Day.Md x30 Q R Q := by rw [q109, q110]; rfl
    have s1 : Day.Ls.mk v123 v124 = Day.Md x29 Q R R := by rw [q123, q124]; rfl
    have so0 := Day.Rt (d := x30) (own := Q) hRt n1 m1 n1
    have so1 := Day.Rt (d := x29) (own := R) hRt n1 m1 m1
    have hP := Day.SN (d := x29) hr0 hr1
    have hiP := Day.Ed hP
    have hmP := Day.SL (Day.Me x29 A B) (Day.AdJ hlA hlB)
    rw [← q111, ← q112, ← q113, ← q114, ← q115, ← q116, ← q117, ← q118, ← q119, ← q120, ← q121, ← q122] at hmP
    simp only [hmA, s0] at q126 q127 q128 q129 q130 q131 q132 q133 q134 q135 q136 q137 q138 q139 q140 q141
    simp only [hmP, s1] at q143 q144 q145 q146 q147 q148 q149 q150 q151 q152 q153 q154 q155 q156 q157 q158
    clear q97 q98 q99 q100 q101 q102 q103 q104 q105 q106 q107 q108 q109 q110 q111 q112 q113 q114 q115 q116 q117 q118 q119 q120 q121 q122 q123 q124 hmA hmP s0 s1
    subst_vars
    simp [hE, hi0, hi1, hf0, hf1, k1, k2, hI, hL, hEq, so0, so1, hiP, Day.DI, Day.DJ, Day.Cv, Day.Cw]
def I8 : G := ⟨52, [⟨51, .iteA, [V 28, V 31, V 26]⟩, ⟨50, .iteI, [V 28, V 32, V 27]⟩, ⟨49, .iteI, [V 28, V 11, V 23]⟩, ⟨48, .iteI, [V 28, V 10, V 22]⟩, ⟨47, .iteI, [V 28, V 9, V 21]⟩, ⟨46, .iteI, [V 28, V 8, V 20]⟩, ⟨45, .iteI, [V 28, V 7, V 19]⟩, ⟨44, .iteI, [V 28, V 6, V 18]⟩, ⟨43, .iteI, [V 28, V 5, V 17]⟩, ⟨42, .iteI, [V 28, V 4, V 16]⟩, ⟨41, .iteI, [V 28, V 3, V 15]⟩, ⟨40, .iteI, [V 28, V 2, V 14]⟩, ⟨39, .iteI, [V 28, V 1, V 13]⟩, ⟨38, .iteI, [V 28, V 0, V 12]⟩, ⟨37, .not, [V 28]⟩, ⟨36, .iteA, [V 29, V 31, V 24]⟩, ⟨35, .iteI, [V 29, V 32, V 25]⟩, ⟨34, .not, [V 29]⟩, ⟨30, (.call 44), [V 24, V 25, V 26, V 27]⟩], [V 30], []⟩
theorem QI (e : Nat → A) (H : Ac T e I8.defs) : ∀ z0, z0 = (Day.HB.mk [(e 0).int, (e 1).int, (e 2).int, (e 3).int, (e 4).int, (e 5).int, (e 6).int, (e 7).int] (e 8).int (e 9).int (e 10).int (e 11).int) → ∀ z1, z1 = (Day.HB.mk [(e 12).int, (e 13).int, (e 14).int, (e 15).int, (e 16).int, (e 17).int, (e 18).int, (e 19).int] (e 20).int (e 21).int (e 22).int (e 23).int) → ∀ r2, r2 = Day.Me (e 28).bool z0 z1 → (Day.Ls.FL (Day.Ls.mk (e 24) (e 25).int) && (Day.Ls.FL (Day.Ls.mk (e 26) (e 27).int) && (Day.Be ((Day.Ls.mk (e 24) (e 25).int)).n 1000000 && (Day.P4 1 ((Day.Ls.mk (e 24) (e 25).int)).n && Day.Ms ((Day.Ls.mk (e 24) (e 25).int)).n ((Day.Ls.mk (e 26) (e 27).int)).n)))) = true →
  ((e 30).bool = true) ∧ (((z0)).a 0 = (e 0).int ∧ ((z0)).a 1 = (e 1).int ∧ ((z0)).a 2 = (e 2).int ∧ ((z0)).a 3 = (e 3).int ∧ ((z0)).a 4 = (e 4).int ∧ ((z0)).a 5 = (e 5).int ∧ ((z0)).a 6 = (e 6).int ∧ ((z0)).a 7 = (e 7).int ∧ ((z0)).port = (e 8).int ∧ ((z0)).age = (e 9).int ∧ ((z0)).hold = (e 10).int ∧ ((z0)).pos = (e 11).int ∧ ((Day.Fe (e 29).bool (Day.Ls.mk (e 24) (e 25).int) (Day.Ls.mk (e 26) (e 27).int) (Day.Ls.mk (e 24) (e 25).int))).1 = (e 36) ∧ ((Day.Fe (e 29).bool (Day.Ls.mk (e 24) (e 25).int) (Day.Ls.mk (e 26) (e 27).int) (Day.Ls.mk (e 24) (e 25).int))).2 = (e 35).int ∧ ((r2)).a 0 = (e 38).int ∧ ((r2)).a 1 = (e 39).int ∧ ((r2)).a 2 = (e 40).int ∧ ((r2)).a 3 = (e 41).int ∧ ((r2)).a 4 = (e 42).int ∧ ((r2)).a 5 = (e 43).int ∧ ((r2)).a 6 = (e 44).int ∧ ((r2)).a 7 = (e 45).int ∧ ((r2)).port = (e 46).int ∧ ((r2)).age = (e 47).int ∧ ((r2)).hold = (e 48).int ∧ ((r2)).pos = (e 49).int ∧ ((Day.Fe (e 28).bool (Day.Ls.mk (e 24) (e 25).int) (Day.Ls.mk (e 26) (e 27).int) (Day.Ls.mk (e 26) (e 27).int))).1 = (e 51) ∧ ((Day.Fe (e 28).bool (Day.Ls.mk (e 24) (e 25).int) (Day.Ls.mk (e 26) (e 27).int) (Day.Ls.mk (e 26) (e 27).int))).2 = (e 50).int) := by
 intro z0 hz0 z1 hz1 r2 hr2 hp
 subst hz0 hz1 hr2
 simp only [I8, Ac, Def.q, Bc, L.Ae, L.Aq, L.AE, L.AF, L.ev, A.Ad, A.Ah, A.As, A.AJ, List.map_cons, List.map_nil, Nat.zero_add, Nat.add_zero, and_true, true_and, Nat.reduceAdd, Nat.one_mul] at H
 simp only [C0, C1, CN, A3, De, Dg, Bm, Dw, and_true, true_and] at H
 obtain ⟨q51, ⟨q50, -⟩, ⟨q49, -⟩, ⟨q48, -⟩, ⟨q47, -⟩, ⟨q46, -⟩, ⟨q45, -⟩, ⟨q44, -⟩, ⟨q43, -⟩, ⟨q42, -⟩, ⟨q41, -⟩, ⟨q40, -⟩, ⟨q39, -⟩, ⟨q38, -⟩, q37, q36, ⟨q35, -⟩, q34, q30⟩ := H
 replace q30 := UI q30
 obtain ⟨q30, q31, q32, q33⟩ := q30
 simp only [L.Ae, L.Aq, L.AE, L.AF, L.ev, A.Ad, A.Ah, A.As] at q30 q31 q32 q33
 generalize (e 0).int = x0, (e 1).int = x1, (e 2).int = x2, (e 3).int = x3, (e 4).int = x4, (e 5).int = x5, (e 6).int = x6, (e 7).int = x7, (e 8).int = x8, (e 9).int = x9, (e 10).int = x10, (e 11).int = x11, (e 12).int = x12, (e 13).int = x13, (e 14).int = x14, (e 15).int = x15, (e 16).int = x16, (e 17).int = x17, (e 18).int = x18, (e 19).int = x19, (e 20).int = x20, (e 21).int = x21, (e 22).int = x22, (e 23).int = x23, e 24 = x24, (e 25).int = x25, e 26 = x26, (e 27).int = x27, (e 28).bool = x28, (e 29).bool = x29, (e 30).bool = v30, e 31 = v31, (e 32).int = v32, (e 33).int = v33, (e 34).bool = v34, (e 35).int = v35, e 36 = v36, (e 37).bool = v37, (e 38).int = v38, (e 39).int = v39, (e 40).int = v40, (e 41).int = v41, (e 42).int = v42, (e 43).int = v43, (e 44).int = v44, (e 45).int = v45, (e 46).int = v46, (e 47).int = v47, (e 48).int = v48, (e 49).int = v49, (e 50).int = v50, e 51 = v51 at *
 simp only [Bool.and_eq_true, Day.Au, Day.FK, Day.Ms, decide_eq_true_eq] at hp
 obtain ⟨ha, hb, h1, h2, h3⟩ := hp
 replace h3 : x25 = x27 := h3
 subst h3
 have hI : Day.Be x25 1000000 = true := by rw [Day.Au]; exact h1
 have hB : Day.P4 1 x25 = true := by rw [Day.FK]; exact h2
 subst_vars
 cases x28 <;> cases x29 <;> simp [ha, hb, hI, hB, Day.Fe, Day.Me, Day.Es, Day.HB.a]
def Jb : G := ⟨180, [⟨179, .iteB, [V 40, V 148, V 39]⟩, ⟨178, .iteI, [V 40, V 147, N 0]⟩, ⟨177, .iteI, [V 40, V 146, N 0]⟩, ⟨176, .iteI, [V 40, V 145, N 0]⟩, ⟨175, .iteI, [V 40, V 144, N 0]⟩, ⟨174, .iteI, [V 40, V 143, N 0]⟩, ⟨173, .iteI, [V 40, V 142, N 0]⟩, ⟨172, .iteI, [V 40, V 141, N 0]⟩, ⟨171, .iteI, [V 40, V 140, N 0]⟩, ⟨170, .iteI, [V 40, V 139, N 0]⟩, ⟨169, .iteI, [V 40, V 138, N 0]⟩, ⟨168, .iteI, [V 40, V 137, N 0]⟩, ⟨167, .iteI, [V 40, V 136, N 0]⟩, ⟨166, .iteI, [V 40, V 135, N 0]⟩, ⟨165, .iteI, [V 40, V 134, N 0]⟩, ⟨164, .iteI, [V 40, V 133, N 0]⟩, ⟨163, .iteI, [V 40, V 132, N 0]⟩, ⟨162, .iteI, [V 40, V 131, N 0]⟩, ⟨161, .iteI, [V 40, V 130, N 0]⟩, ⟨160, .iteI, [V 40, V 129, N 0]⟩, ⟨159, .iteI, [V 40, V 128, N 0]⟩, ⟨158, .iteI, [V 40, V 127, N 0]⟩, ⟨157, .iteI, [V 40, V 126, N 0]⟩, ⟨156, .iteI, [V 40, V 125, N 0]⟩, ⟨155, .iteI, [V 40, V 124, N 0]⟩, ⟨154, .iteI, [V 40, V 123, N 0]⟩, ⟨153, .iteI, [V 40, V 122, N 0]⟩, ⟨152, .iteI, [V 40, V 121, N 0]⟩, ⟨151, .iteI, [V 40, V 120, N 0]⟩, ⟨150, .iteI, [V 40, V 119, N 1]⟩, ⟨149, .not, [V 40]⟩, ⟨148, .iteB, [V 56, V 56, V 55]⟩, ⟨147, .iteI, [V 56, V 115, N 0]⟩, ⟨146, .iteI, [V 56, V 114, N 0]⟩, ⟨145, .iteI, [V 56, V 81, N 0]⟩, ⟨144, .iteI, [V 56, V 80, N 0]⟩, ⟨143, .iteI, [V 56, V 113, N 0]⟩, ⟨142, .iteI, [V 56, V 112, N 0]⟩, ⟨141, .iteI, [V 56, V 111, N 0]⟩, ⟨140, .iteI, [V 56, V 110, N 0]⟩, ⟨139, .iteI, [V 56, V 109, N 0]⟩, ⟨138, .iteI, [V 56, V 108, N 0]⟩, ⟨137, .iteI, [V 56, V 107, N 0]⟩, ⟨136, .iteI, [V 56, V 106, N 0]⟩, ⟨135, .iteI, [V 56, V 105, N 0]⟩, ⟨134, .iteI, [V 56, V 104, N 0]⟩, ⟨133, .iteI, [V 56, V 103, N 0]⟩, ⟨132, .iteI, [V 56, V 102, N 0]⟩, ⟨131, .iteI, [V 56, V 79, N 0]⟩, ⟨130, .iteI, [V 56, V 78, N 0]⟩, ⟨129, .iteI, [V 56, V 77, N 0]⟩, ⟨128, .iteI, [V 56, V 76, N 0]⟩, ⟨127, .iteI, [V 56, V 75, N 0]⟩, ⟨126, .iteI, [V 56, V 74, N 0]⟩, ⟨125, .iteI, [V 56, V 73, N 0]⟩, ⟨124, .iteI, [V 56, V 72, N 0]⟩, ⟨123, .iteI, [V 56, V 71, N 0]⟩, ⟨122, .iteI, [V 56, V 70, N 0]⟩, ⟨121, .iteI, [V 56, V 69, N 0]⟩, ⟨120, .iteI, [V 56, V 68, N 0]⟩, ⟨119, .iteI, [V 56, N 0, N 2]⟩, ⟨118, .not, [V 56]⟩, ⟨117, .imp, [V 56, V 101]⟩, ⟨101, (.call 29), [V 0, V 88, V 89, V 90, V 91, V 92, V 93, V 94, V 95, V 96, V 97, V 98, V 99, V 100, V 87]⟩, ⟨100, .iteA, [V 29, V 58, V 27]⟩, ⟨99, .iteI, [V 29, V 12, V 24]⟩, ⟨98, .iteI, [V 29, V 11, V 23]⟩, ⟨97, .iteI, [V 29, V 10, V 22]⟩, ⟨96, .iteI, [V 29, V 9, V 21]⟩, ⟨95, .iteI, [V 29, V 8, V 20]⟩, ⟨94, .iteI, [V 29, V 7, V 19]⟩, ⟨93, .iteI, [V 29, V 6, V 18]⟩, ⟨92, .iteI, [V 29, V 5, V 17]⟩, ⟨91, .iteI, [V 29, V 4, V 16]⟩, ⟨90, .iteI, [V 29, V 3, V 15]⟩, ⟨89, .iteI, [V 29, V 2, V 14]⟩, ⟨88, .iteI, [V 29, V 1, V 13]⟩, ⟨87, .iteI, [V 29, V 59, V 28]⟩, ⟨86, .and, [V 56, V 84]⟩, ⟨85, .and, [V 56, V 29]⟩, ⟨84, .not, [V 29]⟩, ⟨83, .imp, [V 56, V 67]⟩, ⟨67, (.call 29), [V 0, V 1, V 2, V 3, V 4, V 5, V 6, V 7, V 8, V 9, V 10, V 11, V 12, V 66, V 65]⟩, ⟨66, .iteA, [V 30, V 58, V 25]⟩, ⟨65, .iteI, [V 30, V 59, V 26]⟩, ⟨64, .and, [V 56, V 62]⟩, ⟨63, .and, [V 56, V 30]⟩, ⟨62, .not, [V 30]⟩, ⟨61, .imp, [V 56, V 57]⟩, ⟨57, (.call 28), [V 25, V 26, V 27, V 28]⟩, ⟨56, .and, [V 52, V 54]⟩, ⟨55, .and, [V 51, V 53]⟩, ⟨54, .and, [V 40, V 52]⟩, ⟨53, .and, [V 40, V 51]⟩, ⟨52, .not, [V 51]⟩, ⟨51, .iteB, [V 44, B true, V 50]⟩, ⟨50, .not, [V 48]⟩, ⟨49, .imp, [V 46, V 47]⟩, ⟨47, (.call 10), [V 0, V 27, V 28]⟩, ⟨46, .and, [V 40, V 45]⟩, ⟨45, .not, [V 44]⟩, ⟨44, .not, [V 42]⟩, ⟨43, .imp, [V 40, V 41]⟩, ⟨41, (.call 10), [V 0, V 25, V 26]⟩, ⟨40, .not, [V 39]⟩, ⟨39, .iteB, [V 33, B true, V 38]⟩, ⟨38, .not, [V 36]⟩, ⟨37, .imp, [V 34, V 35]⟩, ⟨35, (.call 8), [V 0, V 13, V 14, V 15, V 16, V 17, V 18, V 19, V 20, V 21, V 22, V 23, V 24]⟩, ⟨34, .not, [V 33]⟩, ⟨33, .not, [V 32]⟩, ⟨31, (.call 8), [V 0, V 1, V 2, V 3, V 4, V 5, V 6, V 7, V 8, V 9, V 10, V 11, V 12]⟩], [V 117, V 83, V 61, V 49, V 43, V 37, V 31], []⟩
theorem QL (e : Nat → A) (H : Ac T e Jb.defs) : ∀ z0, z0 = (Day.HB.mk [(e 1).int, (e 2).int, (e 3).int, (e 4).int, (e 5).int, (e 6).int, (e 7).int, (e 8).int] (e 9).int (e 10).int (e 11).int (e 12).int) → ∀ z1, z1 = (Day.HB.mk [(e 13).int, (e 14).int, (e 15).int, (e 16).int, (e 17).int, (e 18).int, (e 19).int, (e 20).int] (e 21).int (e 22).int (e 23).int (e 24).int) → ∀ r2, r2 = Day.DI (e 0).int z0 z1 (Day.Ls.mk (e 25) (e 26).int) (Day.Ls.mk (e 27) (e 28).int) (e 29).bool (e 30).bool → ∀ r3, r3 = Day.DJ (e 0).int z0 z1 (Day.Ls.mk (e 25) (e 26).int) (Day.Ls.mk (e 27) (e 28).int) (e 29).bool (e 30).bool → (Day.HB.i64 z0 && (Day.HB.i64 z1 && (Day.Ls.FL (Day.Ls.mk (e 25) (e 26).int) && Day.Ls.FL (Day.Ls.mk (e 27) (e 28).int)))) = true →
  ((e 117).bool = true ∧ (e 83).bool = true ∧ (e 61).bool = true ∧ (e 49).bool = true ∧ (e 43).bool = true ∧ (e 37).bool = true ∧ (e 31).bool = true) ∧ (((r2)).a 0 = (e 151).int ∧ ((r2)).a 1 = (e 152).int ∧ ((r2)).a 2 = (e 153).int ∧ ((r2)).a 3 = (e 154).int ∧ ((r2)).a 4 = (e 155).int ∧ ((r2)).a 5 = (e 156).int ∧ ((r2)).a 6 = (e 157).int ∧ ((r2)).a 7 = (e 158).int ∧ ((r2)).port = (e 159).int ∧ ((r2)).age = (e 160).int ∧ ((r2)).hold = (e 161).int ∧ ((r2)).pos = (e 162).int ∧ ((r3)).a 0 = (e 163).int ∧ ((r3)).a 1 = (e 164).int ∧ ((r3)).a 2 = (e 165).int ∧ ((r3)).a 3 = (e 166).int ∧ ((r3)).a 4 = (e 167).int ∧ ((r3)).a 5 = (e 168).int ∧ ((r3)).a 6 = (e 169).int ∧ ((r3)).a 7 = (e 170).int ∧ ((r3)).port = (e 171).int ∧ ((r3)).age = (e 172).int ∧ ((r3)).hold = (e 173).int ∧ ((r3)).pos = (e 174).int ∧ ((Day.Cv (e 0).int z0 z1 (Day.Ls.mk (e 25) (e 26).int) (Day.Ls.mk (e 27) (e 28).int) (e 29).bool (e 30).bool)).kind = (e 175).int ∧ ((Day.Cv (e 0).int z0 z1 (Day.Ls.mk (e 25) (e 26).int) (Day.Ls.mk (e 27) (e 28).int) (e 29).bool (e 30).bool)).id = (e 176).int ∧ ((Day.Cw (e 0).int z0 z1 (Day.Ls.mk (e 25) (e 26).int) (Day.Ls.mk (e 27) (e 28).int) (e 29).bool (e 30).bool)).kind = (e 177).int ∧ ((Day.Cw (e 0).int z0 z1 (Day.Ls.mk (e 25) (e 26).int) (Day.Ls.mk (e 27) (e 28).int) (e 29).bool (e 30).bool)).id = (e 178).int ∧ Day.CL (e 0).int z0 z1 (Day.Ls.mk (e 25) (e 26).int) (Day.Ls.mk (e 27) (e 28).int) = (e 150).int) := by
 intro z0 hz0 z1 hz1 r2 hr2 r3 hr3 hp
 subst hz0 hz1 hr2 hr3
 simp only [Jb, Ac, Def.q, Bc, L.Ae, L.Aq, L.AE, L.AF, L.ev, A.Ad, A.Ah, A.As, A.AJ, List.map_cons, List.map_nil, Nat.zero_add, Nat.add_zero, and_true, true_and, Nat.reduceAdd, Nat.one_mul] at H
 simp only [C0, C1, CN, A3, De, Dg, Bm, Dw, and_true, true_and] at H
 obtain ⟨q179, ⟨q178, -⟩, ⟨q177, -⟩, ⟨q176, -⟩, ⟨q175, -⟩, ⟨q174, -⟩, ⟨q173, -⟩, ⟨q172, -⟩, ⟨q171, -⟩, ⟨q170, -⟩, ⟨q169, -⟩, ⟨q168, -⟩, ⟨q167, -⟩, ⟨q166, -⟩, ⟨q165, -⟩, ⟨q164, -⟩, ⟨q163, -⟩, ⟨q162, -⟩, ⟨q161, -⟩, ⟨q160, -⟩, ⟨q159, -⟩, ⟨q158, -⟩, ⟨q157, -⟩, ⟨q156, -⟩, ⟨q155, -⟩, ⟨q154, -⟩, ⟨q153, -⟩, ⟨q152, -⟩, ⟨q151, -⟩, ⟨q150, -⟩, q149, q148, ⟨q147, -⟩, ⟨q146, -⟩, ⟨q145, -⟩, ⟨q144, -⟩, ⟨q143, -⟩, ⟨q142, -⟩, ⟨q141, -⟩, ⟨q140, -⟩, ⟨q139, -⟩, ⟨q138, -⟩, ⟨q137, -⟩, ⟨q136, -⟩, ⟨q135, -⟩, ⟨q134, -⟩, ⟨q133, -⟩, ⟨q132, -⟩, ⟨q131, -⟩, ⟨q130, -⟩, ⟨q129, -⟩, ⟨q128, -⟩, ⟨q127, -⟩, ⟨q126, -⟩, ⟨q125, -⟩, ⟨q124, -⟩, ⟨q123, -⟩, ⟨q122, -⟩, ⟨q121, -⟩, ⟨q120, -⟩, ⟨q119, -⟩, q118, q117, q101, q100, ⟨q99, -⟩, ⟨q98, -⟩, ⟨q97, -⟩, ⟨q96, -⟩, ⟨q95, -⟩, ⟨q94, -⟩, ⟨q93, -⟩, ⟨q92, -⟩, ⟨q91, -⟩, ⟨q90, -⟩, ⟨q89, -⟩, ⟨q88, -⟩, ⟨q87, -⟩, q86, q85, q84, q83, q67, q66, ⟨q65, -⟩, q64, q63, q62, q61, q57, q56, q55, q54, q53, q52, q51, q50, q49, q47, q46, q45, q44, q43, q41, q40, q39, q38, q37, q35, q34, q33, q31⟩ := H
 replace q101 := KM q101 _ rfl _ rfl
 obtain ⟨q101, q102, q103, q104, q105, q106, q107, q108, q109, q110, q111, q112, q113, q114, q115, q116⟩ := q101
 replace q67 := KM q67 _ rfl _ rfl
 obtain ⟨q67, q68, q69, q70, q71, q72, q73, q74, q75, q76, q77, q78, q79, q80, q81, q82⟩ := q67
 replace q57 := Th q57
 obtain ⟨q57, q58, q59, q60⟩ := q57
 replace q47 := Ev q47
 obtain ⟨q47, q48⟩ := q47
 replace q41 := Ev q41
 obtain ⟨q41, q42⟩ := q41
 replace q35 := By q35 _ rfl
 obtain ⟨q35, q36⟩ := q35
 replace q31 := By q31 _ rfl
 obtain ⟨q31, q32⟩ := q31
 simp only [L.Ae, L.Aq, L.AE, L.AF, L.ev, A.Ad, A.Ah, A.As] at q101 q102 q103 q104 q105 q106 q107 q108 q109 q110 q111 q112 q113 q114 q115 q116 q67 q68 q69 q70 q71 q72 q73 q74 q75 q76 q77 q78 q79 q80 q81 q82 q57 q58 q59 q60 q47 q48 q41 q42 q35 q36 q31 q32
 generalize (e 0).int = x0, (e 1).int = x1, (e 2).int = x2, (e 3).int = x3, (e 4).int = x4, (e 5).int = x5, (e 6).int = x6, (e 7).int = x7, (e 8).int = x8, (e 9).int = x9, (e 10).int = x10, (e 11).int = x11, (e 12).int = x12, (e 13).int = x13, (e 14).int = x14, (e 15).int = x15, (e 16).int = x16, (e 17).int = x17, (e 18).int = x18, (e 19).int = x19, (e 20).int = x20, (e 21).int = x21, (e 22).int = x22, (e 23).int = x23, (e 24).int = x24, e 25 = x25, (e 26).int = x26, e 27 = x27, (e 28).int = x28, (e 29).bool = x29, (e 30).bool = x30, (e 31).bool = v31, (e 32).bool = v32, (e 33).bool = v33, (e 34).bool = v34, (e 35).bool = v35, (e 36).bool = v36, (e 37).bool = v37, (e 38).bool = v38, (e 39).bool = v39, (e 40).bool = v40, (e 41).bool = v41, (e 42).bool = v42, (e 43).bool = v43, (e 44).bool = v44, (e 45).bool = v45, (e 46).bool = v46, (e 47).bool = v47, (e 48).bool = v48, (e 49).bool = v49, (e 50).bool = v50, (e 51).bool = v51, (e 52).bool = v52, (e 53).bool = v53, (e 54).bool = v54, (e 55).bool = v55, (e 56).bool = v56, (e 57).bool = v57, e 58 = v58, (e 59).int = v59, (e 60).int = v60, (e 61).bool = v61, (e 62).bool = v62, (e 63).bool = v63, (e 64).bool = v64, (e 65).int = v65, e 66 = v66, (e 67).bool = v67, (e 68).int = v68, (e 69).int = v69, (e 70).int = v70, (e 71).int = v71, (e 72).int = v72, (e 73).int = v73, (e 74).int = v74, (e 75).int = v75, (e 76).int = v76, (e 77).int = v77, (e 78).int = v78, (e 79).int = v79, (e 80).int = v80, (e 81).int = v81, (e 82).int = v82, (e 83).bool = v83, (e 84).bool = v84, (e 85).bool = v85, (e 86).bool = v86, (e 87).int = v87, (e 88).int = v88, (e 89).int = v89, (e 90).int = v90, (e 91).int = v91, (e 92).int = v92, (e 93).int = v93, (e 94).int = v94, (e 95).int = v95, (e 96).int = v96, (e 97).int = v97, (e 98).int = v98, (e 99).int = v99, e 100 = v100, (e 101).bool = v101, (e 102).int = v102, (e 103).int = v103, (e 104).int = v104, (e 105).int = v105, (e 106).int = v106, (e 107).int = v107, (e 108).int = v108, (e 109).int = v109, (e 110).int = v110, (e 111).int = v111, (e 112).int = v112, (e 113).int = v113, (e 114).int = v114, (e 115).int = v115, (e 116).int = v116, (e 117).bool = v117, (e 118).bool = v118, (e 119).int = v119, (e 120).int = v120, (e 121).int = v121, (e 122).int = v122, (e 123).int = v123, (e 124).int = v124, (e 125).int = v125, (e 126).int = v126, (e 127).int = v127, (e 128).int = v128, (e 129).int = v129, (e 130).int = v130, (e 131).int = v131, (e 132).int = v132, (e 133).int = v133, (e 134).int = v134, (e 135).int = v135, (e 136).int = v136, (e 137).int = v137, (e 138).int = v138, (e 139).int = v139, (e 140).int = v140, (e 141).int = v141, (e 142).int = v142, (e 143).int = v143, (e 144).int = v144, (e 145).int = v145, (e 146).int = v146, (e 147).int = v147, (e 148).bool = v148, (e 149).bool = v149, (e 150).int = v150, (e 151).int = v151, (e 152).int = v152, (e 153).int = v153, (e 154).int = v154, (e 155).int = v155, (e 156).int = v156, (e 157).int = v157, (e 158).int = v158, (e 159).int = v159, (e 160).int = v160, (e 161).int = v161, (e 162).int = v162, (e 163).int = v163, (e 164).int = v164, (e 165).int = v165, (e 166).int = v166, (e 167).int = v167, (e 168).int = v168, (e 169).int = v169, (e 170).int = v170, (e 171).int = v171, (e 172).int = v172, (e 173).int = v173, (e 174).int = v174, (e 175).int = v175, (e 176).int = v176, (e 177).int = v177, (e 178).int = v178, (e 179).bool = v179 at *
 generalize hA : Day.HB.mk [x1, x2, x3, x4, x5, x6, x7, x8] x9 x10 x11 x12 = A at *
 generalize hB : Day.HB.mk [x13, x14, x15, x16, x17, x18, x19, x20] x21 x22 x23 x24 = B at *
 generalize hQ : Day.Ls.mk x25 x26 = Q at *
 generalize hR : Day.Ls.mk x27 x28 = R at *
 have hlA : A.ages.length = 8 := by rw [← hA]; rfl
 have hlB : B.ages.length = 8 := by rw [← hB]; rfl
 have hqn : x26 = Q.n := by rw [← hQ]
 have hrn : x28 = R.n := by rw [← hR]
 have hqx : x25 = Q.x := by rw [← hQ]
 have hrx : x27 = R.x := by rw [← hR]
 clear hQ hR
 simp only [Bool.and_eq_true] at hp
 obtain ⟨hi0, hi1, hf0, hf1⟩ := hp
 obtain ⟨o1, o1'⟩ := Day.Ls.Et.1 hf0
 obtain ⟨o2, o2'⟩ := Day.Ls.Et.1 hf1
 have k1 : Q.ok = true := by simp [Day.Ls.ok, o1]
 have k2 : R.ok = true := by simp [Day.Ls.ok, o2]
 have hmP : Day.HB.mk [v88, v89, v90, v91, v92, v93, v94, v95] v96 v97 v98 v99 = Day.Me x29 A B := by
  rw [q88, q89, q90, q91, q92, q93, q94, q95, q96, q97, q98, q99, ← hA, ← hB]
  cases x29 <;> rfl
 clear hA hB
 simp only [hmP] at q101 q102 q103 q104 q105 q106 q107 q108 q109 q110 q111 q112 q113 q114 q115 q116
 clear hmP
 cases hr0 : Day.Ak x0 A with
 | false =>
  have hE : Day.CL x0 A B Q R = 1 := by simp [Day.CL, hr0]
  rw [hr0] at q32
  clear q58 q59 q60 q65 q66 q87 q88 q89 q90 q91 q92 q93 q94 q95 q96 q97 q98 q99 q100 q68 q69 q70 q71 q72 q73 q74 q75 q76 q77 q78 q79 q80 q81 q82 q102 q103 q104 q105 q106 q107 q108 q109 q110 q111 q112 q113 q114 q115 q116
  subst_vars
  simp [hE, hi0, hi1, Day.DI, Day.DJ, Day.Cv, Day.Cw, Day.Bp, Day.B3, Day.HB.a]
 | true =>
  cases hr1 : Day.Ak x0 B with
  | false =>
   have hE : Day.CL x0 A B Q R = 1 := by simp [Day.CL, hr0, hr1]
   rw [hr0] at q32
   rw [hr1] at q36
   clear q58 q59 q60 q65 q66 q87 q88 q89 q90 q91 q92 q93 q94 q95 q96 q97 q98 q99 q100 q68 q69 q70 q71 q72 q73 q74 q75 q76 q77 q78 q79 q80 q81 q82 q102 q103 q104 q105 q106 q107 q108 q109 q110 q111 q112 q113 q114 q115 q116
   subst_vars
   simp [hE, hi0, hi1, Day.DI, Day.DJ, Day.Cv, Day.Cw, Day.Bp, Day.B3, Day.HB.a]
  | true =>
   rw [hr0] at q32
   rw [hr1] at q36
   cases t0 : Day.Cg x0 Q with
   | false =>
    have hE : Day.CL x0 A B Q R = 2 := by simp [Day.CL, hr0, hr1, t0]
    rw [t0] at q42
    clear q58 q59 q60 q65 q66 q87 q88 q89 q90 q91 q92 q93 q94 q95 q96 q97 q98 q99 q100 q68 q69 q70 q71 q72 q73 q74 q75 q76 q77 q78 q79 q80 q81 q82 q102 q103 q104 q105 q106 q107 q108 q109 q110 q111 q112 q113 q114 q115 q116
    subst_vars
    simp [hE, hi0, hi1, k1, k2, Day.DI, Day.DJ, Day.Cv, Day.Cw, Day.Bp, Day.B3, Day.HB.a]
   | true =>
   rw [t0] at q42
   cases t1 : Day.Cg x0 R with
   | false =>
    have hE : Day.CL x0 A B Q R = 2 := by simp [Day.CL, hr0, hr1, t0, t1]
    rw [t1] at q48
    clear q58 q59 q60 q65 q66 q87 q88 q89 q90 q91 q92 q93 q94 q95 q96 q97 q98 q99 q100 q68 q69 q70 q71 q72 q73 q74 q75 q76 q77 q78 q79 q80 q81 q82 q102 q103 q104 q105 q106 q107 q108 q109 q110 q111 q112 q113 q114 q115 q116
    subst_vars
    simp [hE, hi0, hi1, k1, k2, Day.DI, Day.DJ, Day.Cv, Day.Cw, Day.Bp, Day.B3, Day.HB.a]
   | true =>
    have hE := Day.YH hr0 hr1 t0 t1
    obtain ⟨n1, n2, n3⟩ := Day.Hk t0
    obtain ⟨m1, m2, m3⟩ := Day.Hk t1
    have hRt : Day.right x0 = true := by simp [Day.right, n2]
    have hI : Day.Be Q.n 1000000 = true := by rw [Day.Au]; omega
    have hL : Day.P4 1 Q.n = true := by rw [Day.FK]; omega
    have hL2 : Day.P4 1 R.n = true := by rw [Day.FK]; omega
    have s0 : Day.Ls.mk v66 v65 = Day.Md x30 Q R Q := by
     rw [q66, q65, q58, q59, hqx, hqn]
     cases x30 <;> rfl
    have s1 : Day.Ls.mk v100 v87 = Day.Md x29 Q R R := by
     rw [q100, q87, q58, q59, hrx, hrn]
     cases x29 <;> rfl
    have so0 := Day.Rt (d := x30) (own := Q) hRt n1 m1 n1
    have so1 := Day.Rt (d := x29) (own := R) hRt n1 m1 m1
    have hP := Day.SN (d := x29) hr0 hr1
    have hiP := Day.Ed hP
    simp only [s0] at q67 q68 q69 q70 q71 q72 q73 q74 q75 q76 q77 q78 q79 q80 q81 q82
    simp only [s1] at q101 q102 q103 q104 q105 q106 q107 q108 q109 q110 q111 q112 q113 q114 q115 q116
    rw [t1] at q48
    clear q58 q59 q60 q65 q66 q87 q88 q89 q90 q91 q92 q93 q94 q95 q96 q97 q98 q99 q100 s0 s1
    subst_vars
    simp [hE, hi0, hi1, hf0, hf1, k1, k2, hI, hL, hL2, so0, so1, hiP, Day.DI, Day.DJ, Day.Cv, Day.Cw]
def Jv : G := ⟨190, [⟨189, .iteB, [V 69, V 69, V 109]⟩, ⟨188, .iteI, [V 69, V 56, N 0]⟩, ⟨187, .iteI, [V 69, V 55, N 0]⟩, ⟨186, .iteI, [V 69, V 54, N 0]⟩, ⟨185, .iteI, [V 69, V 53, N 0]⟩, ⟨184, .iteI, [V 69, V 52, N 0]⟩, ⟨183, .iteI, [V 69, V 51, N 0]⟩, ⟨182, .iteI, [V 69, V 50, N 0]⟩, ⟨181, .iteI, [V 69, V 49, N 0]⟩, ⟨180, .iteI, [V 69, V 48, N 0]⟩, ⟨179, .iteI, [V 69, V 47, N 0]⟩, ⟨178, .iteI, [V 69, V 46, N 0]⟩, ⟨177, .iteI, [V 69, V 45, N 0]⟩, ⟨176, .iteI, [V 69, V 37, N 0]⟩, ⟨175, .iteI, [V 69, V 36, N 0]⟩, ⟨174, .iteI, [V 69, V 35, N 0]⟩, ⟨173, .iteI, [V 69, V 34, N 0]⟩, ⟨172, .iteI, [V 69, V 33, N 0]⟩, ⟨171, .iteI, [V 69, V 32, N 0]⟩, ⟨170, .iteI, [V 69, V 31, N 0]⟩, ⟨169, .iteI, [V 69, V 30, N 0]⟩, ⟨168, .iteI, [V 69, V 29, N 0]⟩, ⟨167, .iteI, [V 69, V 28, N 0]⟩, ⟨166, .iteI, [V 69, V 27, N 0]⟩, ⟨165, .iteI, [V 69, V 26, N 0]⟩, ⟨164, .iteI, [V 69, V 56, V 24]⟩, ⟨163, .iteI, [V 69, V 55, V 23]⟩, ⟨162, .iteI, [V 69, V 54, V 22]⟩, ⟨161, .iteI, [V 69, V 53, V 21]⟩, ⟨160, .iteI, [V 69, V 52, V 20]⟩, ⟨159, .iteI, [V 69, V 51, V 19]⟩, ⟨158, .iteI, [V 69, V 50, V 18]⟩, ⟨157, .iteI, [V 69, V 49, V 17]⟩, ⟨156, .iteI, [V 69, V 48, V 16]⟩, ⟨155, .iteI, [V 69, V 47, V 15]⟩, ⟨154, .iteI, [V 69, V 46, V 14]⟩, ⟨153, .iteI, [V 69, V 45, V 13]⟩, ⟨152, .iteI, [V 69, V 37, V 108]⟩, ⟨151, .iteI, [V 69, V 36, V 107]⟩, ⟨150, .iteI, [V 69, V 35, V 106]⟩, ⟨149, .iteI, [V 69, V 34, V 105]⟩, ⟨148, .iteI, [V 69, V 33, V 104]⟩, ⟨147, .iteI, [V 69, V 32, V 103]⟩, ⟨146, .iteI, [V 69, V 31, V 102]⟩, ⟨145, .iteI, [V 69, V 30, V 101]⟩, ⟨144, .iteI, [V 69, V 29, V 100]⟩, ⟨143, .iteI, [V 69, V 28, V 99]⟩, ⟨142, .iteI, [V 69, V 27, V 98]⟩, ⟨141, .iteI, [V 69, V 26, V 97]⟩, ⟨140, .iteB, [V 69, V 59, V 96]⟩, ⟨139, .iteI, [V 69, V 56, V 95]⟩, ⟨138, .iteI, [V 69, V 55, V 94]⟩, ⟨137, .iteI, [V 69, V 54, V 93]⟩, ⟨136, .iteI, [V 69, V 53, V 92]⟩, ⟨135, .iteI, [V 69, V 52, V 91]⟩, ⟨134, .iteI, [V 69, V 51, V 90]⟩, ⟨133, .iteI, [V 69, V 50, V 89]⟩, ⟨132, .iteI, [V 69, V 49, V 88]⟩, ⟨131, .iteI, [V 69, V 48, V 87]⟩, ⟨130, .iteI, [V 69, V 47, V 86]⟩, ⟨129, .iteI, [V 69, V 46, V 85]⟩, ⟨128, .iteI, [V 69, V 45, V 84]⟩, ⟨127, .iteI, [V 69, V 24, V 83]⟩, ⟨126, .iteI, [V 69, V 23, V 82]⟩, ⟨125, .iteI, [V 69, V 22, V 81]⟩, ⟨124, .iteI, [V 69, V 21, V 80]⟩, ⟨123, .iteI, [V 69, V 20, V 79]⟩, ⟨122, .iteI, [V 69, V 19, V 78]⟩, ⟨121, .iteI, [V 69, V 18, V 77]⟩, ⟨120, .iteI, [V 69, V 17, V 76]⟩, ⟨119, .iteI, [V 69, V 16, V 75]⟩, ⟨118, .iteI, [V 69, V 15, V 74]⟩, ⟨117, .iteI, [V 69, V 14, V 73]⟩, ⟨116, .iteI, [V 69, V 13, V 72]⟩, ⟨115, .iteB, [V 69, B false, B true]⟩, ⟨114, .iteI, [V 69, N 2, V 71]⟩, ⟨113, .iteI, [V 69, V 57, V 70]⟩, ⟨112, .iteI, [V 69, N 1, V 71]⟩, ⟨111, .iteI, [V 69, N 0, V 70]⟩, ⟨110, .not, [V 69]⟩, ⟨109, .iteB, [V 40, V 68, V 43]⟩, ⟨108, .iteI, [V 40, V 37, V 12]⟩, ⟨107, .iteI, [V 40, V 36, V 11]⟩, ⟨106, .iteI, [V 40, V 35, V 10]⟩, ⟨105, .iteI, [V 40, V 34, V 9]⟩, ⟨104, .iteI, [V 40, V 33, V 8]⟩, ⟨103, .iteI, [V 40, V 32, V 7]⟩, ⟨102, .iteI, [V 40, V 31, V 6]⟩, ⟨101, .iteI, [V 40, V 30, V 5]⟩, ⟨100, .iteI, [V 40, V 29, V 4]⟩, ⟨99, .iteI, [V 40, V 28, V 3]⟩, ⟨98, .iteI, [V 40, V 27, V 2]⟩, ⟨97, .iteI, [V 40, V 26, V 1]⟩, ⟨96, .iteB, [V 40, V 59, V 39]⟩, ⟨95, .iteI, [V 40, V 56, V 37]⟩, ⟨94, .iteI, [V 40, V 55, V 36]⟩, ⟨93, .iteI, [V 40, V 54, V 35]⟩, ⟨92, .iteI, [V 40, V 53, V 34]⟩, ⟨91, .iteI, [V 40, V 52, V 33]⟩, ⟨90, .iteI, [V 40, V 51, V 32]⟩, ⟨89, .iteI, [V 40, V 50, V 31]⟩, ⟨88, .iteI, [V 40, V 49, V 30]⟩, ⟨87, .iteI, [V 40, V 48, V 29]⟩, ⟨86, .iteI, [V 40, V 47, V 28]⟩, ⟨85, .iteI, [V 40, V 46, V 27]⟩, ⟨84, .iteI, [V 40, V 45, V 26]⟩, ⟨83, .iteI, [V 40, V 24, V 12]⟩, ⟨82, .iteI, [V 40, V 23, V 11]⟩, ⟨81, .iteI, [V 40, V 22, V 10]⟩, ⟨80, .iteI, [V 40, V 21, V 9]⟩, ⟨79, .iteI, [V 40, V 20, V 8]⟩, ⟨78, .iteI, [V 40, V 19, V 7]⟩, ⟨77, .iteI, [V 40, V 18, V 6]⟩, ⟨76, .iteI, [V 40, V 17, V 5]⟩, ⟨75, .iteI, [V 40, V 16, V 4]⟩, ⟨74, .iteI, [V 40, V 15, V 3]⟩, ⟨73, .iteI, [V 40, V 14, V 2]⟩, ⟨72, .iteI, [V 40, V 13, V 1]⟩, ⟨71, .iteI, [V 40, N 1, N 0]⟩, ⟨70, .iteI, [V 40, V 57, V 38]⟩, ⟨69, .and, [V 40, V 64]⟩, ⟨68, .and, [V 65, V 67]⟩, ⟨67, .and, [V 65, V 66]⟩, ⟨66, .and, [V 65, V 63]⟩, ⟨65, .not, [V 64]⟩, ⟨64, .and, [V 60, V 62]⟩, ⟨63, .and, [V 59, V 61]⟩, ⟨62, .and, [V 40, V 60]⟩, ⟨61, .and, [V 40, V 59]⟩, ⟨60, .not, [V 59]⟩, ⟨59, (.cmp .neq), [V 57, N 0]⟩, ⟨58, .imp, [V 40, V 44]⟩, ⟨44, (.call 30), [V 0, V 13, V 14, V 15, V 16, V 17, V 18, V 19, V 20, V 21, V 22, V 23, V 24]⟩, ⟨43, .and, [V 41, V 42]⟩, ⟨42, .and, [V 41, V 39]⟩, ⟨41, .not, [V 40]⟩, ⟨40, .not, [V 39]⟩, ⟨39, (.cmp .neq), [V 38, N 0]⟩, ⟨25, (.call 30), [V 0, V 1, V 2, V 3, V 4, V 5, V 6, V 7, V 8, V 9, V 10, V 11, V 12]⟩], [V 58, V 25], []⟩
theorem Q7 (e : Nat → A) (H : Ac T e Jv.defs) : ∀ z0, z0 = (Day.HB.mk [(e 1).int, (e 2).int, (e 3).int, (e 4).int, (e 5).int, (e 6).int, (e 7).int, (e 8).int] (e 9).int (e 10).int (e 11).int (e 12).int) → ∀ z1, z1 = (Day.HB.mk [(e 13).int, (e 14).int, (e 15).int, (e 16).int, (e 17).int, (e 18).int, (e 19).int, (e 20).int] (e 21).int (e 22).int (e 23).int (e 24).int) → ∀ r2, r2 = Day.AB (e 0).int z0 → ∀ r3, r3 = Day.AB (e 0).int z1 → (Day.HB.i64 z0 && Day.HB.i64 z1) = true →
  ((e 58).bool = true ∧ (e 25).bool = true) ∧ (((r2)).a 0 = (e 165).int ∧ ((r2)).a 1 = (e 166).int ∧ ((r2)).a 2 = (e 167).int ∧ ((r2)).a 3 = (e 168).int ∧ ((r2)).a 4 = (e 169).int ∧ ((r2)).a 5 = (e 170).int ∧ ((r2)).a 6 = (e 171).int ∧ ((r2)).a 7 = (e 172).int ∧ ((r2)).port = (e 173).int ∧ ((r2)).age = (e 174).int ∧ ((r2)).hold = (e 175).int ∧ ((r2)).pos = (e 176).int ∧ ((r3)).a 0 = (e 177).int ∧ ((r3)).a 1 = (e 178).int ∧ ((r3)).a 2 = (e 179).int ∧ ((r3)).a 3 = (e 180).int ∧ ((r3)).a 4 = (e 181).int ∧ ((r3)).a 5 = (e 182).int ∧ ((r3)).a 6 = (e 183).int ∧ ((r3)).a 7 = (e 184).int ∧ ((r3)).port = (e 185).int ∧ ((r3)).age = (e 186).int ∧ ((r3)).hold = (e 187).int ∧ ((r3)).pos = (e 188).int ∧ Day.BV (e 0).int = (e 111).int) := by
 intro z0 hz0 z1 hz1 r2 hr2 r3 hr3 hp
 subst hz0 hz1 hr2 hr3
 simp only [Jv, Ac, Def.q, Bc, L.Ae, L.Aq, L.AE, L.AF, L.ev, A.Ad, A.Ah, A.As, A.AJ, List.map_cons, List.map_nil, Nat.zero_add, Nat.add_zero, and_true, true_and, Nat.reduceAdd, Nat.one_mul] at H
 simp only [C0, C1, CN, A3, De, Dg, Bm, Dw, and_true, true_and] at H
 obtain ⟨q189, ⟨q188, -⟩, ⟨q187, -⟩, ⟨q186, -⟩, ⟨q185, -⟩, ⟨q184, -⟩, ⟨q183, -⟩, ⟨q182, -⟩, ⟨q181, -⟩, ⟨q180, -⟩, ⟨q179, -⟩, ⟨q178, -⟩, ⟨q177, -⟩, ⟨q176, -⟩, ⟨q175, -⟩, ⟨q174, -⟩, ⟨q173, -⟩, ⟨q172, -⟩, ⟨q171, -⟩, ⟨q170, -⟩, ⟨q169, -⟩, ⟨q168, -⟩, ⟨q167, -⟩, ⟨q166, -⟩, ⟨q165, -⟩, ⟨q164, -⟩, ⟨q163, -⟩, ⟨q162, -⟩, ⟨q161, -⟩, ⟨q160, -⟩, ⟨q159, -⟩, ⟨q158, -⟩, ⟨q157, -⟩, ⟨q156, -⟩, ⟨q155, -⟩, ⟨q154, -⟩, ⟨q153, -⟩, ⟨q152, -⟩, ⟨q151, -⟩, ⟨q150, -⟩, ⟨q149, -⟩, ⟨q148, -⟩, ⟨q147, -⟩, ⟨q146, -⟩, ⟨q145, -⟩, ⟨q144, -⟩, ⟨q143, -⟩, ⟨q142, -⟩, ⟨q141, -⟩, q140, ⟨q139, -⟩, ⟨q138, -⟩, ⟨q137, -⟩, ⟨q136, -⟩, ⟨q135, -⟩, ⟨q134, -⟩, ⟨q133, -⟩, ⟨q132, -⟩, ⟨q131, -⟩, ⟨q130, -⟩, ⟨q129, -⟩, ⟨q128, -⟩, ⟨q127, -⟩, ⟨q126, -⟩, ⟨q125, -⟩, ⟨q124, -⟩, ⟨q123, -⟩, ⟨q122, -⟩, ⟨q121, -⟩, ⟨q120, -⟩, ⟨q119, -⟩, ⟨q118, -⟩, ⟨q117, -⟩, ⟨q116, -⟩, q115, ⟨q114, -⟩, ⟨q113, -⟩, ⟨q112, -⟩, ⟨q111, -⟩, q110, q109, ⟨q108, -⟩, ⟨q107, -⟩, ⟨q106, -⟩, ⟨q105, -⟩, ⟨q104, -⟩, ⟨q103, -⟩, ⟨q102, -⟩, ⟨q101, -⟩, ⟨q100, -⟩, ⟨q99, -⟩, ⟨q98, -⟩, ⟨q97, -⟩, q96, ⟨q95, -⟩, ⟨q94, -⟩, ⟨q93, -⟩, ⟨q92, -⟩, ⟨q91, -⟩, ⟨q90, -⟩, ⟨q89, -⟩, ⟨q88, -⟩, ⟨q87, -⟩, ⟨q86, -⟩, ⟨q85, -⟩, ⟨q84, -⟩, ⟨q83, -⟩, ⟨q82, -⟩, ⟨q81, -⟩, ⟨q80, -⟩, ⟨q79, -⟩, ⟨q78, -⟩, ⟨q77, -⟩, ⟨q76, -⟩, ⟨q75, -⟩, ⟨q74, -⟩, ⟨q73, -⟩, ⟨q72, -⟩, ⟨q71, -⟩, ⟨q70, -⟩, q69, q68, q67, q66, q65, q64, q63, q62, q61, q60, q59, q58, q44, q43, q42, q41, q40, q39, q25⟩ := H
 replace q44 := Gr q44 _ rfl _ rfl
 obtain ⟨q44, q45, q46, q47, q48, q49, q50, q51, q52, q53, q54, q55, q56, q57⟩ := q44
 replace q25 := Gr q25 _ rfl _ rfl
 obtain ⟨q25, q26, q27, q28, q29, q30, q31, q32, q33, q34, q35, q36, q37, q38⟩ := q25
 simp only [L.Ae, L.Aq, L.AE, L.AF, L.ev, A.Ad, A.Ah, A.As] at q44 q45 q46 q47 q48 q49 q50 q51 q52 q53 q54 q55 q56 q57 q25 q26 q27 q28 q29 q30 q31 q32 q33 q34 q35 q36 q37 q38
 generalize (e 0).int = x0, (e 1).int = x1, (e 2).int = x2, (e 3).int = x3, (e 4).int = x4, (e 5).int = x5, (e 6).int = x6, (e 7).int = x7, (e 8).int = x8, (e 9).int = x9, (e 10).int = x10, (e 11).int = x11, (e 12).int = x12, (e 13).int = x13, (e 14).int = x14, (e 15).int = x15, (e 16).int = x16, (e 17).int = x17, (e 18).int = x18, (e 19).int = x19, (e 20).int = x20, (e 21).int = x21, (e 22).int = x22, (e 23).int = x23, (e 24).int = x24, (e 25).bool = v25, (e 26).int = v26, (e 27).int = v27, (e 28).int = v28, (e 29).int = v29, (e 30).int = v30, (e 31).int = v31, (e 32).int = v32, (e 33).int = v33, (e 34).int = v34, (e 35).int = v35, (e 36).int = v36, (e 37).int = v37, (e 38).int = v38, (e 39).bool = v39, (e 40).bool = v40, (e 41).bool = v41, (e 42).bool = v42, (e 43).bool = v43, (e 44).bool = v44, (e 45).int = v45, (e 46).int = v46, (e 47).int = v47, (e 48).int = v48, (e 49).int = v49, (e 50).int = v50, (e 51).int = v51, (e 52).int = v52, (e 53).int = v53, (e 54).int = v54, (e 55).int = v55, (e 56).int = v56, (e 57).int = v57, (e 58).bool = v58, (e 59).bool = v59, (e 60).bool = v60, (e 61).bool = v61, (e 62).bool = v62, (e 63).bool = v63, (e 64).bool = v64, (e 65).bool = v65, (e 66).bool = v66, (e 67).bool = v67, (e 68).bool = v68, (e 69).bool = v69, (e 70).int = v70, (e 71).int = v71, (e 72).int = v72, (e 73).int = v73, (e 74).int = v74, (e 75).int = v75, (e 76).int = v76, (e 77).int = v77, (e 78).int = v78, (e 79).int = v79, (e 80).int = v80, (e 81).int = v81, (e 82).int = v82, (e 83).int = v83, (e 84).int = v84, (e 85).int = v85, (e 86).int = v86, (e 87).int = v87, (e 88).int = v88, (e 89).int = v89, (e 90).int = v90, (e 91).int = v91, (e 92).int = v92, (e 93).int = v93, (e 94).int = v94, (e 95).int = v95, (e 96).bool = v96, (e 97).int = v97, (e 98).int = v98, (e 99).int = v99, (e 100).int = v100, (e 101).int = v101, (e 102).int = v102, (e 103).int = v103, (e 104).int = v104, (e 105).int = v105, (e 106).int = v106, (e 107).int = v107, (e 108).int = v108, (e 109).bool = v109, (e 110).bool = v110, (e 111).int = v111, (e 112).int = v112, (e 113).int = v113, (e 114).int = v114, (e 115).bool = v115, (e 116).int = v116, (e 117).int = v117, (e 118).int = v118, (e 119).int = v119, (e 120).int = v120, (e 121).int = v121, (e 122).int = v122, (e 123).int = v123, (e 124).int = v124, (e 125).int = v125, (e 126).int = v126, (e 127).int = v127, (e 128).int = v128, (e 129).int = v129, (e 130).int = v130, (e 131).int = v131, (e 132).int = v132, (e 133).int = v133, (e 134).int = v134, (e 135).int = v135, (e 136).int = v136, (e 137).int = v137, (e 138).int = v138, (e 139).int = v139, (e 140).bool = v140, (e 141).int = v141, (e 142).int = v142, (e 143).int = v143, (e 144).int = v144, (e 145).int = v145, (e 146).int = v146, (e 147).int = v147, (e 148).int = v148, (e 149).int = v149, (e 150).int = v150, (e 151).int = v151, (e 152).int = v152, (e 153).int = v153, (e 154).int = v154, (e 155).int = v155, (e 156).int = v156, (e 157).int = v157, (e 158).int = v158, (e 159).int = v159, (e 160).int = v160, (e 161).int = v161, (e 162).int = v162, (e 163).int = v163, (e 164).int = v164, (e 165).int = v165, (e 166).int = v166, (e 167).int = v167, (e 168).int = v168, (e 169).int = v169, (e 170).int = v170, (e 171).int = v171, (e 172).int = v172, (e 173).int = v173, (e 174).int = v174, (e 175).int = v175, (e 176).int = v176, (e 177).int = v177, (e 178).int = v178, (e 179).int = v179, (e 180).int = v180, (e 181).int = v181, (e 182).int = v182, (e 183).int = v183, (e 184).int = v184, (e 185).int = v185, (e 186).int = v186, (e 187).int = v187, (e 188).int = v188, (e 189).bool = v189 at *
 simp only [Bool.and_eq_true] at hp
 obtain ⟨hi0, hi1⟩ := hp
 generalize Day.HB.mk [x1, x2, x3, x4, x5, x6, x7, x8] x9 x10 x11 x12 = A at *
 generalize Day.HB.mk [x13, x14, x15, x16, x17, x18, x19, x20] x21 x22 x23 x24 = B at *
 cases hR : Day.right x0 with
 | false =>
  have hz : ∀ h, Day.AB x0 h = Day.Bp := fun h => by simp [Day.AB, hR]
  have hE : Day.BV x0 = 1 := by simp [Day.BV, hR]
  simp only [hz, hE] at *
  subst_vars
  simp [hi0, hi1, Day.Bp, Day.HB.a]
 | true =>
  have hE : Day.BV x0 = 0 := by simp [Day.BV, hR]
  simp only [hE] at *
  subst_vars
  simp [hi0, hi1]
def HD : G := ⟨83, [⟨82, .iteB, [V 40, V 40, V 39]⟩, ⟨81, .iteI, [V 40, V 53, N 0]⟩, ⟨80, .iteI, [V 40, V 52, N 0]⟩, ⟨79, .iteI, [V 40, V 51, N 0]⟩, ⟨78, .iteI, [V 40, V 50, N 0]⟩, ⟨77, .iteI, [V 40, V 49, N 0]⟩, ⟨76, .iteI, [V 40, V 48, N 0]⟩, ⟨75, .iteI, [V 40, V 47, N 0]⟩, ⟨74, .iteI, [V 40, V 46, N 0]⟩, ⟨73, .iteI, [V 40, V 45, N 0]⟩, ⟨72, .iteI, [V 40, V 44, N 0]⟩, ⟨71, .iteI, [V 40, V 43, N 0]⟩, ⟨70, .iteI, [V 40, V 42, N 0]⟩, ⟨69, .iteI, [V 40, V 37, N 0]⟩, ⟨68, .iteI, [V 40, V 36, N 0]⟩, ⟨67, .iteI, [V 40, V 35, N 0]⟩, ⟨66, .iteI, [V 40, V 34, N 0]⟩, ⟨65, .iteI, [V 40, V 33, N 0]⟩, ⟨64, .iteI, [V 40, V 32, N 0]⟩, ⟨63, .iteI, [V 40, V 31, N 0]⟩, ⟨62, .iteI, [V 40, V 30, N 0]⟩, ⟨61, .iteI, [V 40, V 29, N 0]⟩, ⟨60, .iteI, [V 40, V 28, N 0]⟩, ⟨59, .iteI, [V 40, V 27, N 0]⟩, ⟨58, .iteI, [V 40, V 26, N 0]⟩, ⟨57, .iteI, [V 40, N 0, V 38]⟩, ⟨56, .not, [V 40]⟩, ⟨55, .imp, [V 40, V 41]⟩, ⟨41, (.call 31), [V 0, V 13, V 14, V 15, V 16, V 17, V 18, V 19, V 20, V 21, V 22, V 23, V 24]⟩, ⟨40, .not, [V 39]⟩, ⟨39, (.cmp .neq), [V 38, N 0]⟩, ⟨25, (.call 31), [V 0, V 1, V 2, V 3, V 4, V 5, V 6, V 7, V 8, V 9, V 10, V 11, V 12]⟩], [V 55, V 25], []⟩
theorem PC (e : Nat → A) (H : Ac T e HD.defs) : ∀ z0, z0 = (Day.HB.mk [(e 1).int, (e 2).int, (e 3).int, (e 4).int, (e 5).int, (e 6).int, (e 7).int, (e 8).int] (e 9).int (e 10).int (e 11).int (e 12).int) → ∀ z1, z1 = (Day.HB.mk [(e 13).int, (e 14).int, (e 15).int, (e 16).int, (e 17).int, (e 18).int, (e 19).int, (e 20).int] (e 21).int (e 22).int (e 23).int (e 24).int) → ∀ r2, r2 = Day.AB (e 0).int z0 → ∀ r3, r3 = Day.AB (e 0).int z1 → (Day.HB.i64 z0 && Day.HB.i64 z1) = true →
  ((e 55).bool = true ∧ (e 25).bool = true) ∧ (((r2)).a 0 = (e 58).int ∧ ((r2)).a 1 = (e 59).int ∧ ((r2)).a 2 = (e 60).int ∧ ((r2)).a 3 = (e 61).int ∧ ((r2)).a 4 = (e 62).int ∧ ((r2)).a 5 = (e 63).int ∧ ((r2)).a 6 = (e 64).int ∧ ((r2)).a 7 = (e 65).int ∧ ((r2)).port = (e 66).int ∧ ((r2)).age = (e 67).int ∧ ((r2)).hold = (e 68).int ∧ ((r2)).pos = (e 69).int ∧ ((r3)).a 0 = (e 70).int ∧ ((r3)).a 1 = (e 71).int ∧ ((r3)).a 2 = (e 72).int ∧ ((r3)).a 3 = (e 73).int ∧ ((r3)).a 4 = (e 74).int ∧ ((r3)).a 5 = (e 75).int ∧ ((r3)).a 6 = (e 76).int ∧ ((r3)).a 7 = (e 77).int ∧ ((r3)).port = (e 78).int ∧ ((r3)).age = (e 79).int ∧ ((r3)).hold = (e 80).int ∧ ((r3)).pos = (e 81).int ∧ Day.BV (e 0).int = (e 57).int) := by
 intro z0 hz0 z1 hz1 r2 hr2 r3 hr3 hp
 subst hz0 hz1 hr2 hr3
 simp only [HD, Ac, Def.q, Bc, L.Ae, L.Aq, L.AE, L.AF, L.ev, A.Ad, A.Ah, A.As, A.AJ, List.map_cons, List.map_nil, Nat.zero_add, Nat.add_zero, and_true, true_and, Nat.reduceAdd, Nat.one_mul] at H
 simp only [C0, C1, CN, A3, De, Dg, Bm, Dw, and_true, true_and] at H
 obtain ⟨q82, ⟨q81, -⟩, ⟨q80, -⟩, ⟨q79, -⟩, ⟨q78, -⟩, ⟨q77, -⟩, ⟨q76, -⟩, ⟨q75, -⟩, ⟨q74, -⟩, ⟨q73, -⟩, ⟨q72, -⟩, ⟨q71, -⟩, ⟨q70, -⟩, ⟨q69, -⟩, ⟨q68, -⟩, ⟨q67, -⟩, ⟨q66, -⟩, ⟨q65, -⟩, ⟨q64, -⟩, ⟨q63, -⟩, ⟨q62, -⟩, ⟨q61, -⟩, ⟨q60, -⟩, ⟨q59, -⟩, ⟨q58, -⟩, ⟨q57, -⟩, q56, q55, q41, q40, q39, q25⟩ := H
 replace q41 := JC q41 _ rfl _ rfl
 obtain ⟨q41, q42, q43, q44, q45, q46, q47, q48, q49, q50, q51, q52, q53, q54⟩ := q41
 replace q25 := JC q25 _ rfl _ rfl
 obtain ⟨q25, q26, q27, q28, q29, q30, q31, q32, q33, q34, q35, q36, q37, q38⟩ := q25
 simp only [L.Ae, L.Aq, L.AE, L.AF, L.ev, A.Ad, A.Ah, A.As] at q41 q42 q43 q44 q45 q46 q47 q48 q49 q50 q51 q52 q53 q54 q25 q26 q27 q28 q29 q30 q31 q32 q33 q34 q35 q36 q37 q38
 generalize (e 0).int = x0, (e 1).int = x1, (e 2).int = x2, (e 3).int = x3, (e 4).int = x4, (e 5).int = x5, (e 6).int = x6, (e 7).int = x7, (e 8).int = x8, (e 9).int = x9, (e 10).int = x10, (e 11).int = x11, (e 12).int = x12, (e 13).int = x13, (e 14).int = x14, (e 15).int = x15, (e 16).int = x16, (e 17).int = x17, (e 18).int = x18, (e 19).int = x19, (e 20).int = x20, (e 21).int = x21, (e 22).int = x22, (e 23).int = x23, (e 24).int = x24, (e 25).bool = v25, (e 26).int = v26, (e 27).int = v27, (e 28).int = v28, (e 29).int = v29, (e 30).int = v30, (e 31).int = v31, (e 32).int = v32, (e 33).int = v33, (e 34).int = v34, (e 35).int = v35, (e 36).int = v36, (e 37).int = v37, (e 38).int = v38, (e 39).bool = v39, (e 40).bool = v40, (e 41).bool = v41, (e 42).int = v42, (e 43).int = v43, (e 44).int = v44, (e 45).int = v45, (e 46).int = v46, (e 47).int = v47, (e 48).int = v48, (e 49).int = v49, (e 50).int = v50, (e 51).int = v51, (e 52).int = v52, (e 53).int = v53, (e 54).int = v54, (e 55).bool = v55, (e 56).bool = v56, (e 57).int = v57, (e 58).int = v58, (e 59).int = v59, (e 60).int = v60, (e 61).int = v61, (e 62).int = v62, (e 63).int = v63, (e 64).int = v64, (e 65).int = v65, (e 66).int = v66, (e 67).int = v67, (e 68).int = v68, (e 69).int = v69, (e 70).int = v70, (e 71).int = v71, (e 72).int = v72, (e 73).int = v73, (e 74).int = v74, (e 75).int = v75, (e 76).int = v76, (e 77).int = v77, (e 78).int = v78, (e 79).int = v79, (e 80).int = v80, (e 81).int = v81, (e 82).bool = v82 at *
 simp only [Bool.and_eq_true] at hp
 obtain ⟨hi0, hi1⟩ := hp
 generalize Day.HB.mk [x1, x2, x3, x4, x5, x6, x7, x8] x9 x10 x11 x12 = A at *
 generalize Day.HB.mk [x13, x14, x15, x16, x17, x18, x19, x20] x21 x22 x23 x24 = B at *
 cases hR : Day.right x0 with
 | false =>
  have hz : ∀ h, Day.AB x0 h = Day.Bp := fun h => by simp [Day.AB, hR]
  have hE : Day.BV x0 = 1 := by simp [Day.BV, hR]
  simp only [hz, hE] at *
  subst_vars
  simp [hi0, hi1, Day.Bp, Day.HB.a]
 | true =>
  have hE : Day.BV x0 = 0 := by simp [Day.BV, hR]
  simp only [hE] at *
  subst_vars
  simp [hi0, hi1]
end Rx.S
