import Derived.Test.YtjdjljgbfpkbdaaGreatDoorZDLocks
import Derived.Test.YtjdjljgbfpkbdaaGreatDoorZDWrite
set_option linter.unusedVariables false
set_option linter.unusedSimpArgs false
namespace Go.Proofs.YtjdjljgbfpkbdaaGreatDoor.Q
open Go.RowKit Go.Shelf Go.Proofs.YtjdjljgbfpkbdaaGreatDoorW.PrintWords Go.Proofs.YtjdjljgbfpkbdaaGreatDoorW.PrintLast Go.Proofs.YtjdjljgbfpkbdaaGreatDoorW.PrintMore
attribute [local go_sem] Oper.semAt_some
def knT:ByteArray:=⟨#[108,111,99,107,115,58,10,35,32,115,111,10,45,32,114,111,111,116,58,32,97,10,32,32,118,101,114,115,105,111,110,58,32,34,118,49,46,48,46,48,34,10]⟩
def knU:ByteArray:=⟨#[108,111,99,107,115,58,10,45,32,114,111,111,116,58,32,97,10,32,32,32,118,101,114,115,105,111,110,58,32,98,10]⟩
def knL:S43:=⟨⟨#[97]⟩,⟨#[118,49,46,48,46,48]⟩,⟨#[]⟩,⟨#[]⟩,⟨#[]⟩⟩
theorem kn_none:dent_Locks.f ⟨#[]⟩=some ([],0,0,0):=by kernel_rfl
theorem kn_one:dent_Locks.f knT=some ([knL],0,0,0):=by kernel_rfl
theorem kn_bad:dent_Locks.f knU=some ([],3,4,1):=by kernel_rfl
theorem kn_write:dent_Write.f []=some ⟨#[]⟩:=rfl
section
variable (w:World)
set_option maxHeartbeats 1000000 in
set_option maxRecDepth 100000 in
theorem known_calls (hG:GL w):Calls Tryz.prog 8 #[] w fun e w' => e=.returned (.bool true)∧Below w.heap.size w w':=by
 have HG:=Lib.hid hG
 clear hG
 go_enter Tryz.func8,Tryz.ntmps8
 go_wp2_with (fail)
 refine (dent_Locks.calls _ _ _ _ _ w HG.out kn_none).mono ?_
 rintro e w1 ⟨v1,rfl,hv1,hb1⟩
 obtain ⟨A1,c1,rfl⟩:=Kd.R_slice hv1
 have HB1:=Lib.hid (hb1.alloc hb1.size (.cells #[.int .i64 0,.int .i64 0] 29))
 clear hb1 hv1
 go_wp2_with (fail)
 refine (dent_Locks.calls knT _ _ _ _ _ (HG.out.below0 HB1.out) kn_one).mono ?_
 rintro e w2 ⟨v2,rfl,hv2,hb2⟩
 obtain ⟨A2,c2,rfl⟩:=Kd.R_slice hv2
 have hc2:=(Kd.R_reads' hv2).2.2
 have hb12:=below_then HB1.out HB1.out.size hb2
 have HB2:=Lib.hid (hb12.alloc hb12.size (.cells #[.int .i64 0,.int .i64 0] 29))
 obtain ⟨ad,rfl,h20,h21,h22,h23,h24⟩:=at_T43 hc2 0 (by decide) (by decide)
 obtain ⟨q,rfl⟩:∃ q,ad=⟨q,0,none⟩:=by
  obtain ⟨_,inner,hown,_⟩:=hv2
  rcases hown.2 with ⟨he,_⟩|⟨q,cap,cs,he,_⟩
  ·cases he
  ·injection he with he
   injection he with he
   exact ⟨q,he⟩
 have h21:w2.cell? ⟨q,1,none⟩=some (.string ⟨#[118,49,46,48,46,48]⟩):=h21
 have hb2a:Below w2.heap.size w2 (w2.alloc (.cells #[.int .i64 0,.int .i64 0] 29)):=(Below.refl _ w2).alloc (Nat.le_refl _) _
 have H21:=Lib.hid (pw_cell_below hb2a h21)
 clear hb2 hb12 hc2 hv2 h20 h21 h22 h23 h24 hb2a HB1
 go_wp2_with (fail)
 refine (dent_Locks.calls knU _ _ _ _ _ (HG.out.below0 HB2.out) kn_bad).mono ?_
 rintro e w3 ⟨v3,rfl,hv3,hb3⟩
 obtain ⟨A3,c3,rfl⟩:=Kd.R_slice hv3
 have hb13:=below_then HB2.out HB2.out.size hb3
 have HB3:=Lib.hid (hb13.alloc hb13.size (.cells #[.int .i64 3,.int .i64 4] 29))
 have h31:=pw_cell_below hb3 H21.out
 have hb3a:Below w3.heap.size w3 (w3.alloc (.cells #[.int .i64 3,.int .i64 4] 29)):=(Below.refl _ w3).alloc (Nat.le_refl _) _
 have h41:=pw_cell_below hb3a h31
 have hp3:=Blk.new w3 29 #[.int .i64 3,.int .i64 4]
 have HWR:=Lib.hid (fun W (hG:GL W) => dent_Write.calls none 0 [] _ W hG (by exact ⟨rfl,by decide,fun h => by cases h⟩) (by decide) kn_write)
 have HP3:=Lib.hid hp3
 have H41:=Lib.hid h41
 clear hb3 hb13 hv3 h31 hb3a hp3 H21 HB2 h41
 go_upto_region 4 with (fail)
 have h41:=H41.out
 have p0:(w3.alloc (.cells #[.int .i64 3,.int .i64 4] 29)).cell? ⟨w3.heap.size,0,none⟩=some (.int .i64 3):=HP3.out.cell 0
 have p1:(w3.alloc (.cells #[.int .i64 3,.int .i64 4] 29)).cell? ⟨w3.heap.size,1,none⟩=some (.int .i64 4):=HP3.out.cell 1
 generalize w3.heap.size=P at *
 generalize w3.alloc (.cells #[.int .i64 3,.int .i64 4] 29)=w4 at *
 clear H41 HP3
 go_wp2_with (fail)
 refine (HWR.out _ (HG.out.below0 HB3.out)).mono ?_
 rintro e w5 ⟨rfl,hb5⟩
 have HZ:=Lib.hid (below_then HB3.out HB3.out.size hb5)
 clear hb5
 go_wp2_with (fail)
 go_ret
 exact ⟨rfl,HZ.out⟩
end
def transhumancelaw7_known.f:Option Bool:=some true
theorem transhumancelaw7_known.calls (r:Bool) (w:World) (hG:GL w) (h:transhumancelaw7_known.f=some r):Calls Tryz.prog 8 #[] w fun e w' => e=.returned (.bool r)∧Below w.heap.size w w':=by
 obtain rfl:=Option.some.inj h
 exact known_calls w hG
end Go.Proofs.YtjdjljgbfpkbdaaGreatDoor.Q
