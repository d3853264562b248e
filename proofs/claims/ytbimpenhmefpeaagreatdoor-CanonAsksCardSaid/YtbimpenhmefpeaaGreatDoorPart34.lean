/- For every two numbers and every text the law CanonAsks of package periscopelaw17 returns true and leaves what it was given; no condition beyond the card's own (three laid tables start as the program's text lays them). -/
import Derived.Test.YtbimpenhmefpeaaGreatDoorPart32
import Derived.Test.YtbimpenhmefpeaaGreatDoorPart33
import Derived.Test.YtbimpenhmefpeaaGreatDoorRows
import Derived.ProofKit
import Derived.LaidMore
import Derived.ChangeMaps5
import Derived.OpenShut
import Derived.Stop.Joined
import Derived.Test.YtbimpenhmefpeaaGreatDoorCards
import Derived.Test.YtbimpenhmefpeaaGreatDoorTie
import Derived.SevenTiedAt
set_option linter.all false
namespace Go.Proofs.YtbimpenhmefpeaaGreatDoor
open Go.RowKit Go.Maps
theorem asks_any (a b : Int) (text : List UInt8) (w : World) (hT : Tab w) (htx : text.length < 9223372036854775808) : Calls Tryz.prog 3 #[.int .i64 a, .int .i64 b, Str text] w fun e w' => e = .returned (.bool true) ∧ Below w.heap.size w w' := by
  obtain ⟨r, h⟩ := exL_shared (Pv.exOf_mem a) (Pv.exOf_mem b)
  cases r with
  | none => exact casks_none a b text w hT htx h
  | some t => exact casks_some a b t text w hT htx h
end Go.Proofs.YtbimpenhmefpeaaGreatDoor
namespace Go.Proofs.YtbimpenhmefpeaaGreatDoor
open Go.ChangeShapes Go.ChangeMaps Go.WideShapes Go.ChangeAt Go.WideMaps Go.WideElems Go.RowKit

abbrev laid3 : List (String × DataW Unit) := [("math/bits.deBruijn32tab", Rows.laid_math_bits_deBruijn32tab), ("math/bits.deBruijn64tab", Rows.laid_math_bits_deBruijn64tab), ("internal/strconv.uint64pow10", Rows.laid_internal_strconv_uint64pow10)]
theorem ownK : ownKnob Tryz.prog.godebug = none := by kernel_rfl
theorem g64 : Tryz.prog.globalNamed "math/bits.deBruijn64tab" = some 0 := by kernel_rfl
theorem t64 : (Tryz.prog.globals[0]?).map (·.type) = some 270 := by kernel_rfl
theorem door_met (os : Os) (args : Array Value) : laidMetH Tryz.prog laid3 ((World.doorLaid Tryz.prog 400 os).forCall (fun _ _ => 0) ⟨#[], args, []⟩).memory :=
  laidMetH_of_parts3 (fuel := 8) (laidMet_of_run' 8 (by kernel_rfl) (by kernel_rfl)) (by kernel_rfl) (by kernel_rfl)
theorem laid64_eq : (Rows.laid_math_bits_deBruijn64tab : DataW Unit) = .agg (Lib.deBruijn64tab.map fun (k : Nat) => DataW.lit (.int .u8 (k : Int))) := rfl
theorem arr_cells {P : Program} {W : World} {b0 : Nat} {sp : Nat → Bool} {held : Bool} {fuel : Nat} {T e : TypeId} {n : Nat} {cs : List Value} {l : List Nat} {q : List MemPlace} {enc : TypeId × Value → Unit} (hT : P.underlying T = some (.array n e)) (he : P.underlying e = some (.int .u8)) (hc : P.cellsOf e = 1)
    (hd : DataW.trod enc P W b0 sp held fuel T cs = some (.agg (l.map fun (k : Nat) => DataW.lit (.int .u8 (k : Int))), q)) (hl : l.length = n) : ∀ j, j < n → cs[j]? = some (.int .u8 (l.getD j 0)) := by
  intro j hj
  obtain ⟨xs, m, _, hx, _, hn, hel⟩ := DataW.trod_array hT hd
  simp only [Prod.mk.injEq, DataW.agg.injEq] at hx
  have h1 := hel j hj
  rw [hc, Nat.mul_one] at h1
  have hjx : j < xs.length := by omega
  rw [List.getElem?_eq_getElem hjx] at h1
  obtain ⟨k, e1, e2, _⟩ := DataW.trod_int he h1
  have h2 : (l.map fun (k : Nat) => (DataW.lit (.int .u8 (k : Int)) : DataW Unit))[j]? = (xs.map (·.1))[j]? := by rw [hx.1]
  rw [List.getElem?_map, List.getElem?_map, List.getElem?_eq_getElem hjx, List.getElem?_eq_getElem (by omega), e2] at h2
  simp only [Option.map_some, Option.some.injEq, DataW.lit.injEq, Lit.int.injEq, true_and] at h2
  have h3 : (cs.drop j)[0]? = some (.int .u8 k) := by
    have : ((cs.drop j).take 1)[0]? = some (.int .u8 k) := by rw [e1]; rfl
    simpa using this
  rw [List.getElem?_drop, Nat.add_zero] at h3
  rw [h3, List.getD_eq_getElem?_getD, List.getElem?_eq_getElem (by omega), ← h2]
  rfl
/-- what the listed variables give: the table of trailing zeros -/
theorem tab_of_laid {W : World} (h : laidMetH Tryz.prog laid3 W) : Tab W := by
  rw [MakeChecks.laidMetH_plain _ _ _ (by kernel_rfl)] at h
  obtain ⟨ps, ⟨g0, t0, cs0, f0, p0, q0, _, _, _, _, ⟨g1, t1, cs1, f1, p1, q1, hg1, ht1, hv1, hd1, _⟩, _⟩, _, _⟩ := h
  obtain rfl := Option.some.inj (g64.symm.trans hg1)
  obtain rfl := Option.some.inj (t64.symm.trans ht1)
  rw [laid64_eq] at hd1
  have h64 := arr_cells Tryz.underlying270 Tryz.underlying5 (by kernel_rfl) (l := Lib.deBruijn64tab) hd1 (by decide)
  intro j hj
  have := World.var?_cell hg1 hv1 j
  rw [this, ← Array.getElem?_toList]
  exact h64 j hj
set_option maxRecDepth 100000 in
theorem asks_lifted (os : Os) (started : os.Started) (H : Type) (enc : TypeId × Value → H) :
    ReturnsInHanded {} Tryz.checked os 3 .any (fun w args => (Rows.canonAsksSpec.pre enc Tryz.prog Tryz.f3 [] false w args ∧ laidMetH Tryz.prog laid3 w) ∧ sizedMet enc Tryz.prog Tryz.f3 (OpenSpec.ofChange Rows.canonAsksSpec) false w args)
      (Rows.canonAsksSpec.post enc Tryz.prog Tryz.f3 false true false false) := by
  refine returnsInHanded_of_change_and (C := Tryz.checked) (X := fun w _ => laidMetH Tryz.prog laid3 w) (fun _ _ _ hh h => h.of_heap hh) ownK started (by kernel_rfl) Tryz.func3
    (ChangeSpec.witness_shaped (enc := enc) (C := Tryz.checked) (os := os) (X := fun w _ => laidMetH Tryz.prog laid3 w) false (World.doorLaid Tryz.prog 400 os) #[.int .i64 0, .int .i64 0, .string ⟨#[]⟩] 8 rfl (World.shaped_of_RefB (by kernel_rfl) (by kernel_rfl)) (by kernel_rfl) (by kernel_rfl) (by kernel_rfl) (door_met os _)) ?_
  intro W base args ds gs before hval0 hW _ _ hL _
  have hval : ∀ (j : Nat) t v, Tryz.f3.params[j]? = some t → args[j]? = some v → Value.okWide Tryz.prog W .any base t v := hval0
  have hW' := hW
  obtain ⟨p, q, hA0, hV, rfl, hfz, hnd⟩ := hW
  have hA : DataW.TrodAll enc Tryz.prog W 0 (fun _ => true) true Tryz.f3.params.toList args.toList ds p := hA0
  rw [Tryz.params3] at hA hval
  obtain ⟨v0, v1, v2, d0, d1, d2, p0, p1, p2, rfl, rfl, rfl, h0, h1, h2⟩ := trodAll_three hA
  obtain ⟨rfl, rfl⟩ := trodVars_none hV
  obtain ⟨a, rfl, rfl, rfl, ha⟩ := open_int Tryz.underlying3 (hval 0 3 v0 rfl rfl) h0
  obtain ⟨b, rfl, rfl, rfl, hb⟩ := open_int Tryz.underlying3 (hval 1 3 v1 rfl rfl) h1
  obtain ⟨s, rfl, rfl, rfl, hs⟩ := open_string Tryz.underlying9 (hval 2 9 v2 rfl rfl) h2
  have hT := tab_of_laid hL
  clear hA0 hval0 hL
  simp only [List.append_nil] at hW'
  have hstr : Value.string s = Str s.data.toList := by
    show Value.string s = Value.string ⟨s.data.toList.toArray⟩
    rw [Array.toArray_toList]
  have hsl : s.data.toList.length < 9223372036854775808 := by
    have h3 : s.data.toList.length = s.size := Array.length_toList
    rw [h3]
    unfold maxLen at hs
    omega
  have hask := asks_any a b s.data.toList W hT hsl
  rw [← hstr] at hask
  refine hask.mono ?_
  rintro e W' ⟨rfl, hbel⟩
  refine ⟨_, rfl, _, _, _, [], [], [], hW', ?_, ?_, rfl, Below.frame hbel _, fun h => by cases h⟩
  · exact trodAll_mk1 (shut_bool Tryz.underlying4 _)
  · exact trodAll_mk3 (shut_int Tryz.underlying3 ha) (shut_int Tryz.underlying3 hb) (shut_string Tryz.underlying9 hs)
theorem canonAsks_said : Rows.CanonAsksSaid :=
  OpenClaim.holds_of_wide 3 Tryz.f3 rfl rfl rfl rfl rfl rfl rfl ⟨rfl, rfl, rfl, rfl, rfl⟩ rfl rfl rfl rfl rfl (by kernel_rfl) Tryz.func3 (by kernel_rfl)
    (of_decide_eq_true (by kernel_rfl)) (by unfold Func.isWrapper; first | (rw [if_pos (by decide +kernel)]; kernel_rfl) | (rw [if_neg (by decide +kernel)]; exact ⟨rfl, rfl⟩))
    (fun os started H enc _ => asks_lifted os started H enc)
end Go.Proofs.YtbimpenhmefpeaaGreatDoor
namespace Go.Proofs.YtbimpenhmefpeaaGreatDoor
open Go
theorem canonAsks_holds : Rows.CanonAsksCardSaid :=
  Claim7.holds_tied_plain_at .later [] [.data, .data, .data] true (true, "fb2de4d0a0ac8d9c3c96458ea43e727b602dfb7fe4b6a57c9a442cb1f5f6da53") false
    canonAsks_said (fun _ h => by cases h) (by kernel_rfl) (fun _ h => by cases h) canonAsks_row_tie rfl ⟨rfl, rfl⟩ (by kernel_rfl) rfl
    (fun f fn hf hfn => by
      obtain rfl : f = 3 := Option.some.inj ((show Tryz.prog.funcNamed "periscope/periscopelaw17.CanonAsks" = some 3 by kernel_rfl).symm.trans hf) |>.symm
      obtain rfl : fn = Tryz.f3 := (Option.some.inj (Tryz.func3.symm.trans hfn)).symm
      exact ⟨by kernel_rfl, fun j t ht => by
        rw [Tryz.params3] at ht
        have hm : t ∈ [3, 3, 9] := by simpa using Array.mem_of_getElem? ht
        have hall : ([3, 3, 9].all fun u => !Tryz.prog.wantsStandIn u) = true := by kernel_rfl
        exact (show Tryz.prog.wantsStandIn t = false by simpa using List.all_eq_true.1 hall t hm)⟩)
    (by kernel_rfl)
end Go.Proofs.YtbimpenhmefpeaaGreatDoor
