/- TableLacks answers true for every input: plain part, over what the program's table.Locks computes. -/
import Derived.Test.YtomabpniflfmmaaDoorZPk
import Derived.Test.YtomabpniflfmmaaDoorZQ13
namespace Go.Proofs.YtomabpniflfmmaaDoor.Pure
open Go.RowKit Go.Proofs.YtomabpniflfmmaaDoor.Q Go.Proofs.YtomabpniflfmmaaDoorW.PrintWords Go.Proofs.YtomabpniflfmmaaDoorW.PrintLast
def rep : Nat → ByteArray → ByteArray
  | 0, s => s
  | n + 1, s => rep n ((⟨#[35, 32, 120, 10]⟩ : ByteArray) ++ s)
def tailText : ByteArray := ⟨#[91, 91, 108, 111, 99, 107, 93, 93, 10, 114, 111, 111, 116, 32, 61, 32, 34, 99, 34, 10, 114, 101, 118, 105, 115, 105, 111, 110, 32, 61, 32, 34, 49, 34, 10]⟩
theorem lacks_l0 (x1 : Bool) (a2 x7 : Int) : ∀ (d k : Nat) (i : Int) (s : ByteArray), 0 ≤ i → i + d = win a2 5 → s.size + 4 * d ≤ 1000 →
    transhumancelaw6_TableLacks.l0 (d + (k + 1)) x1 a2 x7 s i = if x1 = true then transhumancelaw6_TableLacks.j1 k x7 (rep d s) (rep d s) else transhumancelaw6_TableLacks.j1 k x7 (rep d s) (rep d s ++ tailText)
  | 0, k, i, s, h0, hd, hz => by
    rw [Nat.zero_add, transhumancelaw6_TableLacks.l0.eq_2, within_f a2 5 (by decide) (by decide), Option.bind_some, if_neg (by omega)]
    rw [if_pos (by omega : s.size + 35 ≤ 9223372036854775807)]
    rfl
  | d + 1, k, i, s, h0, hd, hz => by
    have hb := (win_bd a2 5 (by decide)).2
    have hw : wrap64 (i + 1) = i + 1 := by unfold wrap64; omega
    have e4 : ((⟨#[35, 32, 120, 10]⟩ : ByteArray)).size = 4 := rfl
    rw [Nat.add_right_comm, transhumancelaw6_TableLacks.l0.eq_2, within_f a2 5 (by decide) (by decide), Option.bind_some, if_pos (by omega), if_pos (by omega), hw]
    rw [lacks_l0 x1 a2 x7 d k (i + 1) _ (by omega) (by omega) (by rw [ByteArray.size_append, e4]; omega)]
    rfl
def bads : List ByteArray := [(⟨#[91, 91, 108, 111, 99, 107, 93, 93, 10, 118, 101, 114, 115, 105, 111, 110, 32, 61, 32, 34, 118, 49, 46, 48, 46, 48, 34, 10]⟩ : ByteArray), (⟨#[91, 91, 108, 111, 99, 107, 93, 93, 10, 114, 111, 111, 116, 32, 61, 32, 34, 97, 34, 10]⟩ : ByteArray), (⟨#[91, 91, 108, 111, 99, 107, 93, 93, 10, 114, 111, 111, 116, 32, 61, 32, 34, 97, 34, 10, 118, 101, 114, 115, 105, 111, 110, 32, 61, 32, 34, 34, 10, 114, 101, 118, 105, 115, 105, 111, 110, 32, 61, 32, 34, 34, 10]⟩ : ByteArray), (⟨#[91, 91, 108, 111, 99, 107, 93, 93, 10]⟩ : ByteArray), (⟨#[91, 91, 108, 111, 99, 107, 93, 93, 10, 114, 111, 111, 116, 32, 61, 32, 34, 98, 34, 10, 114, 101, 118, 105, 115, 105, 111, 110, 32, 61, 32, 34, 49, 34, 10]⟩ : ByteArray) ++ (⟨#[91, 91, 108, 111, 99, 107, 93, 93, 10, 114, 111, 111, 116, 32, 61, 32, 34, 98, 34, 10, 114, 101, 118, 105, 115, 105, 111, 110, 32, 61, 32, 34, 49, 34, 10]⟩ : ByteArray)]
set_option maxRecDepth 1000000 in
theorem lacks_all : ∀ x : Fin 5, ∀ z : Fin 5, transhumancelaw6_TableLacks.j1 300 (x.val : Int) (rep z.val (rdOf ByteArray.empty bads (x.val : Int))) (rep z.val (rdOf ByteArray.empty bads (x.val : Int))) = some true
    ∧ transhumancelaw6_TableLacks.j1 300 (x.val : Int) (rep z.val (rdOf ByteArray.empty bads (x.val : Int))) (rep z.val (rdOf ByteArray.empty bads (x.val : Int)) ++ tailText) = some true := by decide +kernel
theorem bads_size : ∀ x : Fin 5, (rdOf ByteArray.empty bads (x.val : Int)).size ≤ 100 := by decide +kernel
theorem TableLacks : transhumancelaw6_TableLacks.Pure := by
  intro a0 a1 a2 _ _
  obtain ⟨x, hx⟩ := win_fin a0 5 (by decide)
  obtain ⟨z, hz⟩ := win_fin a2 5 (by decide)
  have hx' : win a0 5 = (x.val : Int) := hx
  have hz' : win a2 5 = (z.val : Int) := hz
  refine ⟨z.val + (300 + 1), ?_⟩
  unfold transhumancelaw6_TableLacks.f
  rw [known_true, Option.bind_some, if_pos rfl, within_f a0 5 (by decide) (by decide), Option.bind_some, if_pos (by decide), Option.bind_some, hx']
  show (if 0 ≤ (x.val : Int) then (if (x.val : Int) < ((5 : Nat) : Int) then transhumancelaw6_TableLacks.l0 (z.val + (300 + 1)) a1 a2 (x.val : Int) (rdOf ByteArray.empty bads (x.val : Int)) 0 else none) else none) = some true
  have hx5 := x.isLt
  have hz5 := z.isLt
  rw [if_pos (by omega), if_pos (by omega), lacks_l0 a1 a2 (x.val : Int) z.val 300 0 _ (by omega) (by omega) (by have := bads_size x; omega)]
  obtain ⟨h1, h2⟩ := lacks_all x z
  cases a1
  · exact h2
  · exact h1
end Go.Proofs.YtomabpniflfmmaaDoor.Pure
