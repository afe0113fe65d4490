import Derived.Test.YtbboehjbfcajdaaHUtfBad
import Derived.Test.YtbboehjbfcajdaaPUtfx5
namespace Go.Proofs.Ytbboehjbfcajdaa.PUtf
open Go.RowKit Go.Proofs.YtbboehjbfcajdaaW.PrintWords Go.Proofs.YtbboehjbfcajdaaW.PrintLast Go.Proofs.YtbboehjbfcajdaaW.PrintMore
set_option linter.unusedVariables false
set_option linter.unusedSimpArgs false
def copperplatelaw02_awake.f : Option Bool := some true
theorem nx1 : nextOf ⟨#[97, 195, 169]⟩ 0 = (97, 1) := by decide +kernel
theorem nx2 : nextOf ⟨#[97, 195, 169]⟩ 1 = (233, 2) := by decide +kernel
theorem nx3 : nextOf ⟨#[97, 195]⟩ 0 = (97, 1) := by decide +kernel
theorem nx4 : nextOf ⟨#[97, 195]⟩ 1 = (0, 0) := by decide +kernel
theorem al1 : allP ⟨#[97, 195, 169]⟩ 0 = [(0, true), (1, true)] := by
  rw [allP_good (by decide) (by rw [nx1]; decide), nx1, show 0 + ((97, 1) : Int × Int).2.toNat = 1 from rfl, allP_good (by decide) (by rw [nx2]; decide), nx2, allP_end (by decide)]
  rfl
theorem al2 : allP ⟨#[97, 195]⟩ 0 = [(0, true), (1, false)] := by
  rw [allP_good (by decide) (by rw [nx3]; decide), nx3, show 0 + ((97, 1) : Int × Int).2.toNat = 1 from rfl, allP_bad (by decide) (by rw [nx4])]
  rfl
set_option maxHeartbeats 1000000 in
set_option maxRecDepth 100000 in
theorem copperplatelaw02_awake.calls (r : Bool) (w : World) (h : copperplatelaw02_awake.f = some r) :
    Calls Try.prog 9 #[] w fun e w' => e = .returned (.bool r) ∧ Below w.heap.size w w' := by
  obtain rfl : true = r := Option.some.inj h
  clear h
  have e1 : utf_Next.f ⟨#[97, 195, 169]⟩ 1 = some (233, 2) := by unfold utf_Next.f; rw [if_pos (by decide), if_neg (by decide), show (1 : Int).toNat = 1 from rfl, nx2]
  have e2 : utf_Put.f 233 = some ⟨#[195, 169]⟩ := by decide +kernel
  have e3 : utf_Put.f 0 = some ⟨#[]⟩ := by decide +kernel
  have e4 : utf_Put.f 55296 = some ⟨#[]⟩ := by decide +kernel
  have e5 : utf_May.f ⟨#[97, 195, 169]⟩ = some true := by unfold utf_May.f utf_Bad.f; rw [if_pos (by decide), al1]; rfl
  have e6 : utf_Bad.f ⟨#[97, 195]⟩ = some 1 := by unfold utf_Bad.f; rw [if_pos (by decide), al2]; rfl
  go_enter Try.func9, Try.ntmps9
  go_wp2_with fail
  refine (utf_Next.calls _ _ _ _ _ e1).mono ?_
  rintro e w1 ⟨rfl, hb1⟩
  go_wp2_with fail
  refine (utf_Put.calls _ _ _ e2).mono ?_
  rintro e w2 ⟨rfl, hb2⟩
  have HB2 := hb1.trans (hb2.mono hb1.size)
  clear hb1 hb2
  go_wp2_with fail
  refine (utf_Put.calls _ _ _ e3).mono ?_
  rintro e w3 ⟨rfl, hb⟩
  have HB3 := HB2.trans (hb.mono HB2.size)
  clear hb HB2
  go_wp2_with fail
  refine (utf_Put.calls _ _ _ e4).mono ?_
  rintro e w4 ⟨rfl, hb⟩
  have HB4 := HB3.trans (hb.mono HB3.size)
  clear hb HB3
  go_wp2_with fail
  refine (utf_May.calls _ _ _ e5).mono ?_
  rintro e w5 ⟨rfl, hb⟩
  have HB5 := HB4.trans (hb.mono HB4.size)
  clear hb HB4
  go_wp2_with fail
  refine (utf_Bad.calls _ _ _ e6).mono ?_
  rintro e w6 ⟨rfl, hb⟩
  have HB6 := HB5.trans (hb.mono HB5.size)
  clear hb HB5
  go_wp2
  all_goals go_ret
  all_goals exact ⟨by first | rfl | (simp; done), by repeat' (first | exact HB6 | refine pw_below_drewN ?_ _ | refine below_drew ?_ | refine below_alloc ?_ _)⟩
end Go.Proofs.Ytbboehjbfcajdaa.PUtf
