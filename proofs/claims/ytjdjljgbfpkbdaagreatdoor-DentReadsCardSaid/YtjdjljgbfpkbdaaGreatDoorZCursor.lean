import Derived.Test.YtjdjljgbfpkbdaaGreatDoorZR1g
import Derived.Test.YtjdjljgbfpkbdaaGreatDoorZShelf
import Derived.StillTailTactics
set_option linter.unusedVariables false
set_option linter.unusedSimpArgs false
namespace Go.Proofs.YtjdjljgbfpkbdaaGreatDoor.Q
open Go.RowKit Go.Proofs.YtjdjljgbfpkbdaaGreatDoorW.PrintWords
def Cur (w:World) (c:Nat) (s:ByteArray) (a:Int):Prop:=Blk w c 149 #[.string s,.int .i64 a]
theorem drop_at (s:ByteArray) (i:Nat) (h:i<s.size):s.data.toList.drop i=s[i] :: s.data.toList.drop (i+1):=by
  rw [List.drop_eq_getElem_cons (by simpa using h)];rfl
section
variable (w:World) (c:Nat) (s:ByteArray)
set_option maxHeartbeats 400000 in
theorem new_calls :
    Calls Tryz.prog 113 #[.string s] w fun e w' => e=.returned (.pointer (some ⟨w.heap.size,0,none⟩))∧w'=w.alloc (.cells #[.string s,.int .i64 0] 149):=by
  go_enter Tryz.func113,Tryz.ntmps113
  go_wp2
  go_ret
  exact ⟨rfl,rfl⟩
set_option maxHeartbeats 400000 in
theorem at_calls (a:Int) (h:Cur w c s a) :
    Calls Tryz.prog 117 #[.pointer (some ⟨c,0,none⟩)] w fun e w' => e=.returned (.int .i64 a)∧w=w':=by
  have h1:=h.cell 1
  clear h
  go_enter Tryz.func117,Tryz.ntmps117
  go_wp2
  go_ret
  exact ⟨rfl,rfl⟩
set_option maxHeartbeats 400000 in
theorem peek_end (a:Nat) (h:Cur w c s a) (ha:s.size≤a) :
    Calls Tryz.prog 115 #[.pointer (some ⟨c,0,none⟩)] w fun e w' => e=.returned (.tuple #[.int .u8 0,.bool false])∧Drawn0 w w':=by
  have h0:=h.cell 0
  have h1:=h.cell 1
  clear h
  go_enter Tryz.func115,Tryz.ntmps115
  go_wp2
  go_quiet (fail)
  go_wp2
  go_ret2
  exact ⟨rfl,⟨_,rfl⟩⟩
set_option maxHeartbeats 400000 in
theorem peek_mid (a:Nat) (h:Cur w c s a) (ha:a<s.size) :
    Calls Tryz.prog 115 #[.pointer (some ⟨c,0,none⟩)] w fun e w' => e=.returned (.tuple #[.int .u8 s[a].toNat,.bool true])∧Drawn0 w w':=by
  have h0:=h.cell 0
  have h1:=h.cell 1
  clear h
  go_enter Tryz.func115,Tryz.ntmps115
  go_wp2
  go_quiet (fail)
  go_wp2
  go_quiet (fail)
  go_wp2
  go_ret2
  exact ⟨rfl,((Drawn0.refl w).step _).step _⟩
theorem hasPrefix_drop (s p:ByteArray) (a:Nat) (h:a≤s.size):Lib.hasPrefix (s.extract a s.size).data.toList p.data.toList=Lib.hasPrefix (s.data.toList.drop a) p.data.toList:=by
  congr 1
  simp [ByteArray.data_extract]
  exact List.take_of_length_le (by simp)
theorem prefix_call (p:ByteArray) (a:Nat) (ha:a≤s.size) (b:Bool) (hp:Lib.hasPrefix (s.data.toList.drop a) p.data.toList=b) :
    Calls Tryz.prog 120 #[.string (s.extract a s.size),.string p] w fun e w' => e=.returned (.bool b)∧w'=w:=by
  have h:=Tryz.strings_HasPrefix (s.extract a s.size) p w
  rw [hasPrefix_drop s p a ha,hp] at h
  exact h
set_option maxHeartbeats 800000 in
theorem take_no (p:ByteArray) (a:Nat) (h:Cur w c s a) (ha:a≤s.size) (hp:Lib.hasPrefix (s.data.toList.drop a) p.data.toList=false) :
    Calls Tryz.prog 114 #[.pointer (some ⟨c,0,none⟩),.string p] w fun e w' => e=.returned (.bool false)∧Drawn0 w w':=by
  have h0:=h.cell 0
  have HP:=fun w => Lib.hid (prefix_call w s p a ha false hp)
  have HC:=Lib.hid h
  clear h hp
  go_enter Tryz.func114,Tryz.ntmps114
  go_wp2
  go_quiet ((first|(go_at_call 117;exact quiet_eq' (at_calls _ _ _ _ (HC.out.drewN _)))|(go_at_call 120;exact quiet_eq (HP _).out)))
  go_wp2
  go_ret
  exact ⟨rfl,(Drawn0.refl w).step _⟩
set_option maxHeartbeats 800000 in
theorem take_yes (p:ByteArray) (a:Nat) (h:Cur w c s a) (ha:a≤s.size) (hs:s.size≤140737488351232) (hp:Lib.hasPrefix (s.data.toList.drop a) p.data.toList=true) :
    Calls Tryz.prog 114 #[.pointer (some ⟨c,0,none⟩),.string p] w fun e w' => e=.returned (.bool true)∧Cur w' c s (a+p.size)∧Fr (·=c) w w':=by
  have h0:=h.cell 0
  have h1:=h.cell 1
  have f1:=h.unfrozen 1
  have HP:=fun w => Lib.hid (prefix_call w s p a ha true hp)
  have HC:=Lib.hid h
  have hl:p.size≤s.size - a:=by
    have:=(List.isPrefixOf_iff_prefix.1 hp).length_le
    simpa using this
  clear h hp
  go_enter Tryz.func114,Tryz.ntmps114
  go_wp2
  go_quiet ((first|(go_at_call 117;exact quiet_eq' (at_calls _ _ _ _ (HC.out.drewN _)))|(go_at_call 120;exact quiet_eq (HP _).out)))
  go_wp2
  go_ret
  exact ⟨rfl,(HC.out.drewN _).put 1 _,((Fr.refl (·=c) w).drewN _).put (.inl rfl) _⟩
def byteAt (s:ByteArray) (a:Nat):Int:=if h:a<s.size then (s[a].toNat:Int) else 0
theorem byteAt_lt {a:Nat} (h:a<s.size):byteAt s a=s[a].toNat:=by unfold byteAt;rw [dif_pos h]
theorem byteAt_ge {a:Nat} (h:s.size≤a):byteAt s a=0:=by unfold byteAt;rw [dif_neg (by omega)]
theorem byteAt_bd (a:Nat):0≤byteAt s a∧byteAt s a<256:=by
  unfold byteAt
  split
  · have:=(s[a]).toNat_lt
    omega
  · omega
theorem peek_calls (a:Nat) (h:Cur w c s a) :
    Calls Tryz.prog 115 #[.pointer (some ⟨c,0,none⟩)] w fun e w' => e=.returned (.tuple #[.int .u8 (byteAt s a),.bool (decide (a<s.size))])∧Drawn0 w w':=by
  by_cases ha:a<s.size
  · rw [byteAt_lt s ha,decide_eq_true ha]
    exact peek_mid w c s a h ha
  · rw [byteAt_ge s (by omega),decide_eq_false ha]
    exact peek_end w c s a h (by omega)
set_option maxHeartbeats 400000 in
theorem clone_calls (hs:s.size≤281474976710656) :
    Calls Tryz.prog 61 #[.string s] w fun e w' => e=.returned (.string s)∧Below w.heap.size w w':=by
  go_enter Tryz.func61,Tryz.ntmps61
  go_wp2_with (go_at_call 93;refine (Tryz.stringslite_Clone _ _ hs).mono ?_;rintro e w1 ⟨rfl,hb⟩)
  go_ret
  exact ⟨rfl,hb⟩
end
end Go.Proofs.YtjdjljgbfpkbdaaGreatDoor.Q
