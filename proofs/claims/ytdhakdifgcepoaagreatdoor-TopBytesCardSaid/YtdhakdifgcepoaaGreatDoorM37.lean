/-
  THE PROGRAM's TIE, AND THE BUILDER OF A TIED CARD WHOSE LAW STARTS GOROUTINES. ..
-/
import Derived.Test.YtdhakdifgcepoaaGreatDoorCards
import Derived.SevenTiedAt
import Derived.Carry
import Derived.ChangeMaps5
import Derived.Test.YtdhakdifgcepoaaGreatDoorM24
import Derived.Test.YtdhakdifgcepoaaGreatDoorM28
import Derived.Test.YtdhakdifgcepoaaGreatDoorM29
import Derived.Test.YtdhakdifgcepoaaGreatDoorM30
import Derived.Test.YtdhakdifgcepoaaGreatDoorM32
import Derived.Test.YtdhakdifgcepoaaGreatDoorM33
import Derived.Test.YtdhakdifgcepoaaGreatDoorM34
import Derived.Test.YtdhakdifgcepoaaGreatDoorM35
import Derived.Test.YtdhakdifgcepoaaGreatDoorM36
/-
  THE PROGRAM's TIE, AND THE BUILDER OF A TIED CARD WHOSE LAW STARTS GOROUTINES.
-/
namespace Go.Cx
noncomputable section
open Go Go.Proofs Go.Proofs.YtdhakdifgcepoaaGreatDoor

theorem prog_tie : Tryz.prog.laidByTextLater laidT [.sentinel, .sentinel, .sentinel, .sentinel, .sentinel, .data, .handle] true :=
  Program.laidByTextLater_by_run_h 400 8 t1 t2 t3 t4 t5 t6 tA tB tC tD

theorem card_goes (Lk : Looks) {p : Pinned} {s : OpenSpec} {c : OpenClaim} (kinds : List LaidKind) (tests : Bool) (har : Bool × String) (lk : Bool)
    (hc : c.holds p s) (hw : c.wfByText s = true) (htie : c.laidByTextAt Lk p kinds tests)
    (hst : c.start = .entering) (hnb : c.noBlocks = false ∧ c.again = false) (hm : p.checked.prog.mainIs = some (har.1, har.2.toList)) (hn : (!har.1 && har.2.isEmpty && !lk) = false)
    (hl : ∀ f fn, p.checked.prog.funcNamed c.func = some f → p.checked.prog.funcs[f]? = some fn → lk = p.checked.prog.looks [] ∧ ∀ (j : Nat) t, fn.params[j]? = some t → p.checked.prog.wantsStandIn t = false)
    (hg : true = c.goesBy p.checked.prog) :
    Claim7.holds p (.plain s) { stood := { row := c, standIns := [], harness := har, looks := lk }, kinds := [], alts := [], goes := true, laidByText := true, laidKinds := kinds, laidTests := tests, laidLooks := Lk } := by
  have h6 : ∀ r : OpenClaim, Claim7.isSixth { stood := { row := r, standIns := [], harness := har, looks := lk }, kinds := [] } = false := fun r => by simpa [Claim7.isSixth] using hn
  refine ⟨Claim7.tied_new_at Lk kinds tests (Claim7.new_of_sixth hc har lk hst hnb hm (h6 c) hl) hw, fun D hD => (by cases hD), htie, (fun h => by cases h), hg⟩

theorem main_is : Tryz.pinned.checked.prog.mainIs = some (true, "77d834d28bba8e5a24ff33f55045148f13441ab3d678089aca9e5baf4a4b23bb".toList) := by kernel_rfl
theorem looks_is : true = Tryz.pinned.checked.prog.looks [] := by kernel_rfl
end
end Go.Cx

/-
  TopBytes: THE ROW AND THE CARD.
-/
namespace Go.Cx
noncomputable section
open Go Go.Proofs Go.Conc Go.Proofs.YtdhakdifgcepoaaGreatDoor
open Go.ChangeShapes Go.WideShapes Go.ChangeMaps Go.RowKit

theorem h12t_eq : h12t = heapOf startL := by kernel_rfl
theorem params7 : Tryz.f7.params = #[9, 22, 5] := by kernel_rfl
theorem results7 : Tryz.f7.resultTypes = #[4] := by kernel_rfl
theorem u9 : Q.underlying 9 = some .string := by kernel_rfl
theorem u22 : Q.underlying 22 = some (.int .u16) := by kernel_rfl
theorem u4 : Q.underlying 4 = some .bool := by kernel_rfl
theorem wf_u16 {n : Int} (h : (Lit.int .u16 n).wf = true) : ∃ a : Nat, n = .ofNat a ∧ a < 65536 := by
  simp [Lit.wf, IntKind.min, IntKind.max, IntKind.signed, IntKind.bits] at h
  exact ⟨n.toNat, (Int.toNat_of_nonneg h.1).symm, by omega⟩
theorem wf_u8 {n : Int} (h : (Lit.int .u8 n).wf = true) : ∃ a : Nat, n = .ofNat a ∧ a < 256 := by
  simp [Lit.wf, IntKind.min, IntKind.max, IntKind.signed, IntKind.bits] at h
  exact ⟨n.toNat, (Int.toNat_of_nonneg h.1).symm, by omega⟩

set_option maxRecDepth 100000 in
theorem topBytes_lifted (os : Os) (started : os.Started) (H : Type) (enc : TypeId × Value → H) :
    ReturnsInLeavingWide {} Tryz.checked os 7 .any (fun w args => (Rows.topBytesSpec.pre enc Q Tryz.f7 Rows.topBytesRow.domain false w args ∧ laidMetH Q laidL w) ∧ sizedMet enc Q Tryz.f7 (OpenSpec.ofChange Rows.topBytesSpec) false w args)
      (Rows.topBytesSpec.post enc Q Tryz.f7 false true false false) := by
  refine leaving_and (C := Tryz.checked) (X := fun w _ => laidMetH Q laidL w) (fun _ _ _ hh h => h.of_heap hh) own started Tryz.func7
    (ChangeSpec.witness_shaped (enc := enc) (C := Tryz.checked) (os := os) (X := fun w _ => laidMetH Q laidL w) false (World.doorLaid Q 400 os) #[.string ⟨#[]⟩, .int .u16 0, .int .u8 0] 8 rfl (door_shaped os _) (by kernel_rfl) (by kernel_rfl) (by kernel_rfl) (door_met os _)) ?_
  intro W base args ds gs before hval0 hW _ _ hL
  have hval : ∀ (j : Nat) t v, Tryz.f7.params[j]? = some t → args[j]? = some v → Value.okWide Q W .any base t v := hval0
  have hW' := hW
  obtain ⟨p, q, hA0, hV, rfl, _, _⟩ := hW
  have hA : DataW.TrodAll enc Q W 0 (fun _ => true) true Tryz.f7.params.toList args.toList ds p := hA0
  rw [params7] at hA hval
  obtain ⟨v0, v1, v2, e0, e1, e2, p0, p1, p2, rfl, rfl, rfl, t0, t1, t2⟩ := trodAll_three hA
  obtain ⟨rfl, rfl⟩ := trodVars_none hV
  obtain ⟨s, rfl, rfl, rfl, hs⟩ := open_string u9 (hval 0 9 v0 rfl rfl) t0
  obtain ⟨n, rfl, rfl, rfl, hn⟩ := open_int u22 (hval 1 22 v1 rfl rfl) t1
  obtain ⟨m, rfl, rfl, rfl, hm⟩ := open_int u5 (hval 2 5 v2 rfl rfl) t2
  obtain ⟨a, rfl, ha⟩ := wf_u16 hn
  obtain ⟨b, rfl, hb⟩ := wf_u8 hm
  refine (topbytes_snd _ s.data.toList ha hb).runs Tryz.func7 rfl (by kernel_rfl) (.cons ?_ (.cons (.int _ _) (.cons (.int _ _) .nil))) (by rw [h12t_eq]; exact start_hs (begun_of hL)) ?_
  · have : s = ⟨s.data.toList.toArray⟩ := by cases s; simp
    conv => rhs; rw [this]
    exact .str _
  intro env' h' V W' _ hV hH
  cases hV
  refine ⟨_, [], _, [], [], [], hW', ?_, ?_, rfl, keptBut_of_same hH.same, fun h => by cases h⟩
  · rw [results7]; exact trodAll_mk1 (shut_bool u4 true)
  · rw [params7]; exact trodAll_mk3 (shut_string u9 hs) (shut_int u22 hn) (shut_int u5 hm)

theorem topBytes_holds : Rows.TopBytesSaid :=
  OpenClaim.holds_of_wide_leaving 7 Tryz.f7 rfl rfl rfl rfl rfl rfl rfl ⟨rfl, rfl, rfl, rfl, rfl⟩ rfl rfl rfl rfl rfl topBytes_named Tryz.func7 topBytes_joined topBytes_inst topBytes_wrap
    (fun os started H enc _ => topBytes_lifted os started H enc)

theorem topBytes_row_tie : Rows.topBytesRow.laidByTextAt .later Tryz.pinned [.sentinel, .sentinel, .sentinel, .sentinel, .sentinel, .data, .handle] true :=
  OpenClaim.laidByTextAt_later rfl rfl prog_tie noOwnUnsafe'
theorem topBytes_stand : ([9, 22, 5].all fun u => !Tryz.prog.wantsStandIn u) = true := by kernel_rfl
end
end Go.Cx
namespace Go.Proofs.YtdhakdifgcepoaaGreatDoor
open Go Go.Cx
theorem topBytes_card_holds : Rows.TopBytesCardSaid :=
  card_goes .later _ true _ true topBytes_holds topBytes_wf topBytes_row_tie rfl ⟨rfl, rfl⟩ main_is rfl
    (fun f fn hf hfn => by
      obtain rfl : f = 7 := Option.some.inj (topBytes_named.symm.trans hf) |>.symm
      obtain rfl : fn = Tryz.f7 := (Option.some.inj (Tryz.func7.symm.trans hfn)).symm
      exact ⟨looks_is, fun j t ht => by
        rw [params7] at ht
        have hm : t ∈ [9, 22, 5] := by simpa using Array.mem_of_getElem? ht
        exact (show Tryz.prog.wantsStandIn t = false by simpa using List.all_eq_true.1 topBytes_stand t hm)⟩)
    topBytes_goes
end Go.Proofs.YtdhakdifgcepoaaGreatDoor

