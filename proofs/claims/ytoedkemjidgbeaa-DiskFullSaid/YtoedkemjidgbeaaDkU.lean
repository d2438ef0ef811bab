/- What a device says in the laws of a rename and of a cut: plain Lean. -/
import Derived.Test.YtoedkemjidgbeaaDkS
namespace Go.Proofs.Ytoedkemjidgbeaa.Dk
open Go Go.RowKit Go.Proofs.YtoedkemjidgbeaaW.PrintWords Go.Proofs.YtoedkemjidgbeaaPw
set_option linter.unusedVariables false
set_option linter.unusedSimpArgs false
theorem append_ok {d : DS} {s : ByteArray} {xs : List Int} (hr : d.ready s = 0) (hl : (xs.length : Int) ≤ d.free) (hg : d.goes = false) : d.append s xs = (0, d.act.put { d.fileOr s with b := (d.fileOr s).b ++ xs }) := by
  unfold DS.append
  rw [if_neg (fun h => h hr), if_neg (by omega)]
  simp only [hg]
  rfl
theorem sync_ok {d : DS} {s : ByteArray} (ht : d.there s = 0) (hg : d.goes = false) : d.sync s = (0, d.act.put { d.fileOr s with safe := (d.fileOr s).b.length }) := by
  unfold DS.sync
  rw [if_neg (fun h => h ht), hg]
  rfl
theorem fall_no {d : DS} {done : DS → DS} (hg : d.goes = false) : d.fall done = (0, done d.act) := by
  unfold DS.fall
  rw [hg]
  rfl
theorem fall_yes {d : DS} {done : DS → DS} (hg : d.goes = true) : d.fall done = (7, (if 0 < d.keep then done d.act else d.act).ends) := by
  unfold DS.fall
  rw [hg]
  rfl
theorem read_ok {d : DS} {s : ByteArray} {f : Fl} (hr : d.ready s = 0) (hf : findF d.files s = some f) : d.read s = (f.b, 0) := by
  have ht : d.there s = 0 := by
    unfold DS.there
    rw [if_neg (fun h => h hr), hf]
    rfl
  unfold DS.read
  rw [if_neg (fun h => h ht), fileOr_some hf]
theorem read_no {d : DS} {s : ByteArray} (hr : d.ready s = 0) (hf : findF d.files s = none) : d.read s = ([], 5) := by
  have ht : d.there s = 5 := by
    unfold DS.there
    rw [if_neg (fun h => h hr), hf]
    rfl
  unfold DS.read
  rw [if_pos (by rw [ht]; decide), ht]
theorem lose_safe (keep : Int) (torn : Bool) (nm : ByteArray) (b : List Int) : lose1 keep torn ⟨nm, b, b.length⟩ = ⟨nm, b, b.length⟩ := by
  have hk : kept keep ⟨nm, b, b.length⟩ = 0 := by unfold kept; simp only; omega
  have hl : loseB keep torn ⟨nm, b, b.length⟩ = b := by
    unfold loseB
    rw [hk, if_neg (fun h => by omega)]
    simp
  unfold lose1
  rw [hl]
/-- A device of 2^20 bytes. -/
abbrev BD (l : List Fl) (down : Bool) (acts fuse keep : Int) (torn : Bool) : DS := ⟨l, 1048576, down, acts, fuse, keep, torn⟩
theorem off_bd (l : List Fl) (acts fuse keep k : Int) (torn t : Bool) : (BD l false acts fuse keep torn).off k t = BD (l.map (lose1 k t)) true acts 0 keep torn := rfl
theorem off_bd2 (l : List Fl) (acts fuse keep k : Int) (torn t : Bool) : (BD l true acts fuse keep torn).off k t = BD l true acts fuse keep torn := rfl
def aN : ByteArray := ⟨#[97]⟩
def bN : ByteArray := ⟨#[98]⟩
def gN : ByteArray := ⟨#[103]⟩
section
variable (xs ys : List Int) (k : Int) (n keep : Int) (torn : Bool)
theorem rn1 (h : xs.length ≤ 4096) : (new 1048576).append aN xs = (0, BD [⟨aN, xs, 0⟩] false 1 0 0 false) := by
  rw [append_ok (by kernel_rfl) (show (xs.length : Int) ≤ 1048576 by omega) (by kernel_rfl)]
  rfl
theorem rn2 : (BD [⟨aN, xs, 0⟩] false 1 0 0 false).sync aN = (0, BD [⟨aN, xs, xs.length⟩] false 2 0 0 false) := by
  rw [sync_ok (by kernel_rfl) (by kernel_rfl)]
  kernel_rfl
theorem rn3 (h : xs.length ≤ 4096) (h2 : ys.length ≤ 4096) : (BD [⟨aN, xs, xs.length⟩] false 2 0 0 false).append bN ys = (0, BD [⟨aN, xs, xs.length⟩, ⟨bN, ys, 0⟩] false 3 0 0 false) := by
  rw [append_ok (by kernel_rfl) (by unfold DS.free sizes; simp only [List.map_cons, List.map_nil, List.sum_cons, List.sum_nil]; omega) (by kernel_rfl)]
  kernel_rfl
theorem rn4 : (BD [⟨aN, xs, xs.length⟩, ⟨bN, ys, 0⟩] false 3 0 0 false).sync bN = (0, BD [⟨aN, xs, xs.length⟩, ⟨bN, ys, ys.length⟩] false 4 0 0 false) := by
  rw [sync_ok (by kernel_rfl) (by kernel_rfl)]
  kernel_rfl
abbrev rnA : DS := BD [⟨aN, xs, xs.length⟩, ⟨bN, ys, ys.length⟩] false 4 (max n 0) keep torn
theorem rn5 : (BD [⟨aN, xs, xs.length⟩, ⟨bN, ys, ys.length⟩] false 4 0 0 false).arm n keep torn = rnA xs ys n keep torn := rfl
theorem rn_there : (rnA xs ys n keep torn).there aN = 0 := by kernel_rfl
theorem rn_name : nameOk bN = true := by kernel_rfl
theorem rn_eq : (rnA xs ys n keep torn).rename aN bN = (rnA xs ys n keep torn).fall fun e => (e.drop aN).put ⟨bN, (e.fileOr aN).b, (e.fileOr aN).safe⟩ := by
  unfold DS.rename
  rw [if_neg (fun h => h (rn_there xs ys n keep torn)), if_neg (by rw [rn_name]; simp)]
theorem rn6a (h : ¬ n = 1) : (rnA xs ys n keep torn).rename aN bN = (0, BD [⟨bN, xs, xs.length⟩] false 5 (if max n 0 = 0 then 0 else max n 0 - 1) keep torn) := by
  rw [rn_eq, fall_no (decide_eq_false (by show ¬ max n 0 = 1; omega))]
  kernel_rfl
theorem rn7a (f : Int) : ((BD [⟨bN, xs, xs.length⟩] false 5 f keep torn).off keep torn) = BD [⟨bN, xs, xs.length⟩] true 5 0 keep torn := by
  rw [off_bd, List.map_cons, List.map_nil, lose_safe]
theorem rn6b (h : n = 1) (hk : 0 < keep) : (rnA xs ys n keep torn).rename aN bN = (7, BD [⟨bN, xs, xs.length⟩] true 5 0 keep torn) := by
  subst h
  rw [rn_eq, fall_yes (by kernel_rfl), if_pos hk]
  have e : ((rnA xs ys 1 keep torn).act.drop aN).put ⟨bN, ((rnA xs ys 1 keep torn).act.fileOr aN).b, ((rnA xs ys 1 keep torn).act.fileOr aN).safe⟩ = BD [⟨bN, xs, xs.length⟩] false 5 0 keep torn := by kernel_rfl
  rw [e]
  show (7, (BD [⟨bN, xs, xs.length⟩] false 5 0 keep torn).off keep torn) = _
  rw [rn7a]
theorem rn6c (h : n = 1) (hk : ¬ 0 < keep) : (rnA xs ys n keep torn).rename aN bN = (7, BD [⟨aN, xs, xs.length⟩, ⟨bN, ys, ys.length⟩] true 5 0 keep torn) := by
  subst h
  rw [rn_eq, fall_yes (by kernel_rfl), if_neg hk]
  show (7, (BD [⟨aN, xs, xs.length⟩, ⟨bN, ys, ys.length⟩] false 5 0 keep torn).off keep torn) = _
  rw [off_bd, List.map_cons, List.map_cons, List.map_nil, lose_safe, lose_safe]
theorem rn9a : (BD [⟨bN, xs, xs.length⟩] false 5 0 keep torn).read aN = ([], 5) := read_no (by kernel_rfl) (by kernel_rfl)
theorem rn9b : (BD [⟨bN, xs, xs.length⟩] false 5 0 keep torn).read bN = (xs, 0) := read_ok (f := ⟨bN, xs, xs.length⟩) (by kernel_rfl) (by kernel_rfl)
theorem rn9c : (BD [⟨aN, xs, xs.length⟩, ⟨bN, ys, ys.length⟩] false 5 0 keep torn).read aN = (xs, 0) := read_ok (f := ⟨aN, xs, xs.length⟩) (by kernel_rfl) (by kernel_rfl)
theorem rn9d : (BD [⟨aN, xs, xs.length⟩, ⟨bN, ys, ys.length⟩] false 5 0 keep torn).read bN = (ys, 0) := read_ok (f := ⟨bN, ys, ys.length⟩) (by kernel_rfl) (by kernel_rfl)
end
end Go.Proofs.Ytoedkemjidgbeaa.Dk
