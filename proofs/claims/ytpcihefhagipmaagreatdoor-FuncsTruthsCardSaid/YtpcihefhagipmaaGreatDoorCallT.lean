/-
  The calls of FuncsTruths, one by one: what each answers at values that may be.
-/
import Derived.Test.YtpcihefhagipmaaGreatDoorKnownF
import Derived.Test.YtpcihefhagipmaaGreatDoorCallS
import Derived.Test.YtpcihefhagipmaaGreatDoorTruthL
import Derived.Test.YtpcihefhagipmaaGreatDoorMayR
namespace Go.Proofs.YtpcihefhagipmaaGreatDoor
open Go Go.RowKit
set_option maxRecDepth 100000

theorem callS_ok {s : ByteArray} {vs : List V} {r : V} (h : vs.all mayG = true) (ht : takesAll s (vs.map fun _ => false) = true) : callS s vs r = r := by
  unfold callS
  rw [h, ht]
  rfl
/-- An argument's cells, as a call of one value has them. -/
def aCells (v : V) : List Value := [.bool false, .int .i64 v.tag, .int .i64 v.num, .string v.str, .bool v.is, .int .i64 v.code, .int .i64 0, .int .i64 0, .int .i64 0, .int .i64 0, .slice none 0 0]
theorem aCells_one (v : V) : argFlat ([v].map single) = aCells v := rfl
theorem aCells_two (u v : V) : argFlat ([u, v].map single) = aCells u ++ aCells v := rfl
theorem aCells_three (t u v : V) : argFlat ([t, u, v].map single) = aCells t ++ (aCells u ++ aCells v) := rfl

section
variable (b : Nat) (w : World) (h : Ready w b) (A : Option Addr) (c : Nat) (tx : Int)
include h
theorem call_is (t : Int) (s : ByteArray) (ho : ownTab s = some (1, 1, .tagged t)) (hs : takesAll s [false] = true) (x : V) (hx : mayG x = true) (hr : Reads w w.heap.size 11 A 1 (argFlat ([x].map single))) :
    Calls Tryz.prog 10 #[.pointer (some ⟨b, 0, none⟩), .string s, .slice A 1 c, .int .i64 tx] w fun e w' => e = .returned (Value.agg #[Value.int .i64 (truthG (x.tag == t)).tag, Value.int .i64 (truthG (x.tag == t)).num, Value.string (truthG (x.tag == t)).str, Value.bool (truthG (x.tag == t)).is, Value.int .i64 (truthG (x.tag == t)).code]) ∧ Below w.heap.size w w' := by
  have h1 := call_tagged b t tx s ho x A c w.heap.size w h hr
  rw [callS_ok (by simp [hx]) hs] at h1
  exact h1
theorem call_iferr (x y : V) (hx : mayG x = true) (hy : mayG y = true) (hr : Reads w w.heap.size 11 A 2 (argFlat ([x, y].map single))) :
    Calls Tryz.prog 10 #[.pointer (some ⟨b, 0, none⟩), .string ⟨#[73, 70, 69, 82, 82]⟩, .slice A 2 c, .int .i64 tx] w fun e w' => e = .returned (Value.agg #[Value.int .i64 (iferrG [x, y]).tag, Value.int .i64 (iferrG [x, y]).num, Value.string (iferrG [x, y]).str, Value.bool (iferrG [x, y]).is, Value.int .i64 (iferrG [x, y]).code]) ∧ Below w.heap.size w w' := by
  have h1 := call_plain b 80 (fun _ _ => rfl) tx ⟨#[73, 70, 69, 82, 82]⟩ 2 2 rfl [x, y] A 2 c w.heap.size w h hr (by decide) (iferrG [x, y]) (fun w' g c' _ hH _ _ => funcs_iferr x y g c' w' hH)
  rw [callS_ok (by simp [hx, hy]) (by show takesAll _ [false, false] = true; decide +kernel)] at h1
  exact h1
theorem call_if3 (x y z : V) (hx : mayG x = true) (hy : mayG y = true) (hz : mayG z = true) (hr : Reads w w.heap.size 11 A 3 (argFlat ([x, y, z].map single))) :
    Calls Tryz.prog 10 #[.pointer (some ⟨b, 0, none⟩), .string ⟨#[73, 70]⟩, .slice A 3 c, .int .i64 tx] w fun e w' => e = .returned (Value.agg #[Value.int .i64 (choiceG [x, y, z]).tag, Value.int .i64 (choiceG [x, y, z]).num, Value.string (choiceG [x, y, z]).str, Value.bool (choiceG [x, y, z]).is, Value.int .i64 (choiceG [x, y, z]).code]) ∧ Below w.heap.size w w' := by
  have h1 := call_plain b 74 (fun _ _ => rfl) tx ⟨#[73, 70]⟩ 2 3 rfl [x, y, z] A 3 c w.heap.size w h hr (by decide) (choiceG [x, y, z]) (fun w' g c' _ hH _ _ => funcs_choice3 x y z g c' w' hH)
  rw [callS_ok (by simp [hx, hy, hz]) (by show takesAll _ [false, false, false] = true; decide +kernel)] at h1
  exact h1
theorem call_not (x : V) (hx : mayG x = true) (hr : Reads w w.heap.size 11 A 1 (argFlat ([x].map single))) :
    Calls Tryz.prog 10 #[.pointer (some ⟨b, 0, none⟩), .string ⟨#[78, 79, 84]⟩, .slice A 1 c, .int .i64 tx] w fun e w' => e = .returned (Value.agg #[Value.int .i64 (truthsG fyNot [x]).tag, Value.int .i64 (truthsG fyNot [x]).num, Value.string (truthsG fyNot [x]).str, Value.bool (truthsG fyNot [x]).is, Value.int .i64 (truthsG fyNot [x]).code]) ∧ Below w.heap.size w w' := by
  have h1 := call_truths b 79 fyNot (fun _ _ => rfl) own4_ok tx ⟨#[78, 79, 84]⟩ 1 1 rfl [x] A 1 c w.heap.size w h hr (by decide)
  rw [callS_ok (by simp [hx]) (by show takesAll _ [false] = true; decide +kernel)] at h1
  exact h1
theorem call_and (x y : V) (hx : mayG x = true) (hy : mayG y = true) (hr : Reads w w.heap.size 11 A 2 (argFlat ([x, y].map single))) :
    Calls Tryz.prog 10 #[.pointer (some ⟨b, 0, none⟩), .string ⟨#[65, 78, 68]⟩, .slice A 2 c, .int .i64 tx] w fun e w' => e = .returned (Value.agg #[Value.int .i64 (truthsG fyAnd [x, y]).tag, Value.int .i64 (truthsG fyAnd [x, y]).num, Value.string (truthsG fyAnd [x, y]).str, Value.bool (truthsG fyAnd [x, y]).is, Value.int .i64 (truthsG fyAnd [x, y]).code]) ∧ Below w.heap.size w w' := by
  have h1 := call_truths b 76 fyAnd (fun _ _ => rfl) own1_ok tx ⟨#[65, 78, 68]⟩ 1 16 rfl [x, y] A 2 c w.heap.size w h hr (by decide)
  rw [callS_ok (by simp [hx, hy]) (by show takesAll _ [false, false] = true; decide +kernel)] at h1
  exact h1
theorem call_or (x y : V) (hx : mayG x = true) (hy : mayG y = true) (hr : Reads w w.heap.size 11 A 2 (argFlat ([x, y].map single))) :
    Calls Tryz.prog 10 #[.pointer (some ⟨b, 0, none⟩), .string ⟨#[79, 82]⟩, .slice A 2 c, .int .i64 tx] w fun e w' => e = .returned (Value.agg #[Value.int .i64 (truthsG fyOr [x, y]).tag, Value.int .i64 (truthsG fyOr [x, y]).num, Value.string (truthsG fyOr [x, y]).str, Value.bool (truthsG fyOr [x, y]).is, Value.int .i64 (truthsG fyOr [x, y]).code]) ∧ Below w.heap.size w w' := by
  have h1 := call_truths b 77 fyOr (fun _ _ => rfl) own2_ok tx ⟨#[79, 82]⟩ 1 16 rfl [x, y] A 2 c w.heap.size w h hr (by decide)
  rw [callS_ok (by simp [hx, hy]) (by show takesAll _ [false, false] = true; decide +kernel)] at h1
  exact h1
theorem call_choose (x y : V) (hx : mayG x = true) (hy : mayG y = true) (hr : Reads w w.heap.size 11 A 3 (argFlat ([⟨1, 20000, ⟨#[]⟩, false, 0⟩, x, y].map single))) :
    Calls Tryz.prog 10 #[.pointer (some ⟨b, 0, none⟩), .string ⟨#[67, 72, 79, 79, 83, 69]⟩, .slice A 3 c, .int .i64 tx] w fun e w' => e = .returned (Value.agg #[Value.int .i64 (y).tag, Value.int .i64 (y).num, Value.string (y).str, Value.bool (y).is, Value.int .i64 (y).code]) ∧ Below w.heap.size w w' := by
  have h1 := call_plain b 86 (fun _ _ => rfl) tx ⟨#[67, 72, 79, 79, 83, 69]⟩ 2 16 rfl [⟨1, 20000, ⟨#[]⟩, false, 0⟩, x, y] A 3 c w.heap.size w h hr (by decide) (chooseG [⟨1, 20000, ⟨#[]⟩, false, 0⟩, x, y]) (fun w' g c' _ hH _ _ => funcs_choose _ [x, y] (by decide) (by decide) g c' (by show 2 ≤ 1000000; decide) w' hH)
  rw [callS_ok (by simp [hx, hy]; decide +kernel) (by show takesAll _ [false, false, false] = true; decide +kernel), law_choose] at h1
  exact h1
theorem call_errno (x : V) (hx : mayG x = true) (hr : Reads w w.heap.size 11 A 1 (argFlat ([x].map single))) :
    Calls Tryz.prog 10 #[.pointer (some ⟨b, 0, none⟩), .string ⟨#[69, 82, 82, 78, 79]⟩, .slice A 1 c, .int .i64 tx] w fun e w' => e = .returned (Value.agg #[Value.int .i64 (errnoG x).tag, Value.int .i64 (errnoG x).num, Value.string (errnoG x).str, Value.bool (errnoG x).is, Value.int .i64 (errnoG x).code]) ∧ Below w.heap.size w w' := by
  have h1 := call_plain b 84 (fun _ _ => rfl) tx ⟨#[69, 82, 82, 78, 79]⟩ 1 1 rfl [x] A 1 c w.heap.size w h hr (by decide) (errnoG x) (fun w' g c' _ hH _ _ => funcs_errno x (fun h4 => by
    obtain ⟨_, h1, h8⟩ := may_fault hx h4
    simp [isCode, h1, h8]) g c' w' hH)
  rw [callS_ok (by simp [hx]) (by show takesAll _ [false] = true; decide +kernel)] at h1
  exact h1
theorem call_err (n : V) (hn : mayG n = true) (hlo : -9223372036854775808 ≤ n.num) (hhi : n.num ≤ 9223372036854775807) (hr : Reads w w.heap.size 11 A 1 (argFlat ([n].map single))) :
    Calls Tryz.prog 10 #[.pointer (some ⟨b, 0, none⟩), .string ⟨#[69, 82, 82]⟩, .slice A 1 c, .int .i64 tx] w fun e w' => e = .returned (Value.agg #[Value.int .i64 (faultG n).tag, Value.int .i64 (faultG n).num, Value.string (faultG n).str, Value.bool (faultG n).is, Value.int .i64 (faultG n).code]) ∧ Below w.heap.size w w' := by
  have h1 := call_plain b 85 (fun _ _ => rfl) tx ⟨#[69, 82, 82]⟩ 1 1 rfl [n] A 1 c w.heap.size w h hr (by decide) (faultG n) (fun w' g c' _ hH _ _ => funcs_fault n hlo hhi g c' w' hH)
  rw [callS_ok (by simp [hn]) (by show takesAll _ [false] = true; decide +kernel)] at h1
  exact h1
end
end Go.Proofs.YtpcihefhagipmaaGreatDoor
