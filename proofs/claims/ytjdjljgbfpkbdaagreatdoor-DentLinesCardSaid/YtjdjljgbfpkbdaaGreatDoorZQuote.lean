import Derived.Test.YtjdjljgbfpkbdaaGreatDoorZR
set_option linter.unusedVariables false
set_option linter.unusedSimpArgs false
namespace Go.Proofs.YtjdjljgbfpkbdaaGreatDoor.R
open Go.RowKit Go.Proofs.YtjdjljgbfpkbdaaGreatDoorW.PrintWords
def quoteB (b : UInt8) : List UInt8 := if b = 34 then [92, 34] else if b = 92 then [92, 92] else if b = 10 then [92, 110] else if b = 9 then [92, 116] else [b]
def quoteL (l : List UInt8) : List UInt8 := 34 :: (l.flatMap quoteB ++ [34])
def nats (l : List UInt8) : List Int := l.map fun x => (x.toNat : Int)
theorem nats_append (l m : List UInt8) : nats (l ++ m) = nats l ++ nats m := by simp [nats]
theorem nats_length (l : List UInt8) : (nats l).length = l.length := by simp [nats]
theorem strOf_nats (l : List UInt8) : strOfNums (nats l) = ⟨l.toArray⟩ := by
  unfold strOfNums nats
  rw [List.map_map]
  exact congrArg (fun l : List UInt8 => (⟨l.toArray⟩ : ByteArray)) ((List.map_congr_left fun x _ => by simp).trans (List.map_id l))
theorem quoteB_length (b : UInt8) : (quoteB b).length ≤ 2 := by
  unfold quoteB
  split
  · decide
  · split
    · decide
    · split
      · decide
      · split <;> simp
theorem quoteL_length (l : List UInt8) : (quoteL l).length ≤ 2 * l.length + 2 := by
  have : (l.flatMap quoteB).length ≤ 2 * l.length := by
    induction l with
    | nil => simp
    | cons b l ih =>
      rw [List.flatMap_cons, List.length_append, List.length_cons]
      have := quoteB_length b
      omega
  simp only [quoteL, List.length_cons, List.length_append, List.length_nil]
  omega
end Go.Proofs.YtjdjljgbfpkbdaaGreatDoor.R
