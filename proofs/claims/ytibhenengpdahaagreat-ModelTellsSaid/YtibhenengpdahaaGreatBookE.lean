/- Of a kind of which no list is kept Book's functions do nothing. Conditions: the kind's cell of the book holds no list. (Printed by genempty.py.) -/
import Derived.Test.YtibhenengpdahaaGreatJA
set_option linter.unusedVariables false
set_option linter.unusedSimpArgs false
namespace Go.Proofs.YtibhenengpdahaaGreat.Bk
open Go.RowKit Go.Proofs.YtibhenengpdahaaGreatW.PrintWords Go.Proofs.YtibhenengpdahaaGreatW.PrintLast Go.Proofs.YtibhenengpdahaaGreatW.PrintMore

theorem stillTexts_none (bk : Nat) (w : World) (h0 : w.cell? ⟨bk, 2, none⟩ = some (.slice none 0 0)) :
  Calls Tryz.prog 38 #[.pointer (some ⟨bk, 0, none⟩)] w fun e w' => e = .returned (.bool true) ∧ w' = w := by
 go_enter Tryz.func38, Tryz.ntmps38
 go_wp2_with fail
 go_loopw [3] (fun i wr => i = .int .i64 0 ∧ wr = w) (fun _ _ => 0)
 case atStart => exact ⟨rfl, rfl⟩
 case round =>
  obtain ⟨rfl, rfl⟩ := hrel
  go_wp2_with fail
  go_ret
  exact ⟨rfl, rfl⟩
theorem putTexts_none (bk : Nat) (w : World) (h0 : w.cell? ⟨bk, 2, none⟩ = some (.slice none 0 0)) :
  Calls Tryz.prog 47 #[.pointer (some ⟨bk, 0, none⟩)] w fun e w' => e = .returned (.tuple #[]) ∧ w' = w := by
 go_enter Tryz.func47, Tryz.ntmps47
 go_wp2_with fail
 go_loopw [2] (fun i wr => i = .int .i64 0 ∧ wr = w) (fun _ _ => 0)
 case atStart => exact ⟨rfl, rfl⟩
 case round =>
  obtain ⟨rfl, rfl⟩ := hrel
  go_wp2_with fail

  go_end0
  exact ⟨rfl, rfl⟩
theorem growTexts_none (bk : Nat) (w : World) (h0 : w.cell? ⟨bk, 2, none⟩ = some (.slice none 0 0)) :
  Calls Tryz.prog 54 #[.pointer (some ⟨bk, 0, none⟩)] w fun e w' => e = .returned (.slice none 0 0) ∧ w' = w := by
 go_enter Tryz.func54, Tryz.ntmps54
 go_wp2_with fail
 go_loopw [3, 4] (fun o i wr => o = .slice none 0 0 ∧ i = .int .i64 0 ∧ wr = w) (fun _ _ _ => 0)
 case atStart => exact ⟨rfl, rfl, rfl⟩
 case round =>
  obtain ⟨rfl, rfl, rfl⟩ := hrel
  go_wp2_with fail
  go_ret
  exact ⟨rfl, rfl⟩
theorem markedTexts_none (w : World) :
  Calls Tryz.prog 62 #[.slice none 0 0] w fun e w' => e = .returned (.bool true) ∧ w' = w := by
 go_enter Tryz.func62, Tryz.ntmps62
 go_wp2_with fail
 go_loopw [3] (fun i wr => i = .int .i64 0 ∧ wr = w) (fun _ _ => 0)
 case atStart => exact ⟨rfl, rfl⟩
 case round =>
  obtain ⟨rfl, rfl⟩ := hrel
  go_wp2_with fail
  go_ret
  exact ⟨rfl, rfl⟩
theorem stillRows_none (bk : Nat) (w : World) (h0 : w.cell? ⟨bk, 4, none⟩ = some (.slice none 0 0)) :
  Calls Tryz.prog 39 #[.pointer (some ⟨bk, 0, none⟩)] w fun e w' => e = .returned (.bool true) ∧ w' = w := by
 go_enter Tryz.func39, Tryz.ntmps39
 go_wp2_with fail
 go_loopw [3] (fun i wr => i = .int .i64 0 ∧ wr = w) (fun _ _ => 0)
 case atStart => exact ⟨rfl, rfl⟩
 case round =>
  obtain ⟨rfl, rfl⟩ := hrel
  go_wp2_with fail
  go_ret
  exact ⟨rfl, rfl⟩
theorem putRows_none (bk : Nat) (w : World) (h0 : w.cell? ⟨bk, 4, none⟩ = some (.slice none 0 0)) :
  Calls Tryz.prog 48 #[.pointer (some ⟨bk, 0, none⟩)] w fun e w' => e = .returned (.tuple #[]) ∧ w' = w := by
 go_enter Tryz.func48, Tryz.ntmps48
 go_wp2_with fail
 go_loopw [2] (fun i wr => i = .int .i64 0 ∧ wr = w) (fun _ _ => 0)
 case atStart => exact ⟨rfl, rfl⟩
 case round =>
  obtain ⟨rfl, rfl⟩ := hrel
  go_wp2_with fail

  go_end0
  exact ⟨rfl, rfl⟩
theorem growRows_none (bk : Nat) (w : World) (h0 : w.cell? ⟨bk, 4, none⟩ = some (.slice none 0 0)) :
  Calls Tryz.prog 55 #[.pointer (some ⟨bk, 0, none⟩)] w fun e w' => e = .returned (.slice none 0 0) ∧ w' = w := by
 go_enter Tryz.func55, Tryz.ntmps55
 go_wp2_with fail
 go_loopw [3, 4] (fun o i wr => o = .slice none 0 0 ∧ i = .int .i64 0 ∧ wr = w) (fun _ _ _ => 0)
 case atStart => exact ⟨rfl, rfl, rfl⟩
 case round =>
  obtain ⟨rfl, rfl, rfl⟩ := hrel
  go_wp2_with fail
  go_ret
  exact ⟨rfl, rfl⟩
theorem markedRows_none (w : World) :
  Calls Tryz.prog 63 #[.slice none 0 0] w fun e w' => e = .returned (.bool true) ∧ w' = w := by
 go_enter Tryz.func63, Tryz.ntmps63
 go_wp2_with fail
 go_loopw [3] (fun i wr => i = .int .i64 0 ∧ wr = w) (fun _ _ => 0)
 case atStart => exact ⟨rfl, rfl⟩
 case round =>
  obtain ⟨rfl, rfl⟩ := hrel
  go_wp2_with fail
  go_ret
  exact ⟨rfl, rfl⟩
theorem stillPoints_none (bk : Nat) (w : World) (h0 : w.cell? ⟨bk, 10, none⟩ = some (.slice none 0 0)) :
  Calls Tryz.prog 42 #[.pointer (some ⟨bk, 0, none⟩)] w fun e w' => e = .returned (.bool true) ∧ w' = w := by
 go_enter Tryz.func42, Tryz.ntmps42
 go_wp2_with fail
 go_loopw [3] (fun i wr => i = .int .i64 0 ∧ wr = w) (fun _ _ => 0)
 case atStart => exact ⟨rfl, rfl⟩
 case round =>
  obtain ⟨rfl, rfl⟩ := hrel
  go_wp2_with fail
  go_ret
  exact ⟨rfl, rfl⟩
theorem putPoints_none (bk : Nat) (w : World) (h0 : w.cell? ⟨bk, 10, none⟩ = some (.slice none 0 0)) :
  Calls Tryz.prog 51 #[.pointer (some ⟨bk, 0, none⟩)] w fun e w' => e = .returned (.tuple #[]) ∧ w' = w := by
 go_enter Tryz.func51, Tryz.ntmps51
 go_wp2_with fail
 go_loopw [2] (fun i wr => i = .int .i64 0 ∧ wr = w) (fun _ _ => 0)
 case atStart => exact ⟨rfl, rfl⟩
 case round =>
  obtain ⟨rfl, rfl⟩ := hrel
  go_wp2_with fail

  go_end0
  exact ⟨rfl, rfl⟩
theorem growPoints_none (bk : Nat) (w : World) (h0 : w.cell? ⟨bk, 10, none⟩ = some (.slice none 0 0)) :
  Calls Tryz.prog 58 #[.pointer (some ⟨bk, 0, none⟩)] w fun e w' => e = .returned (.slice none 0 0) ∧ w' = w := by
 go_enter Tryz.func58, Tryz.ntmps58
 go_wp2_with fail
 go_loopw [3, 4] (fun o i wr => o = .slice none 0 0 ∧ i = .int .i64 0 ∧ wr = w) (fun _ _ _ => 0)
 case atStart => exact ⟨rfl, rfl, rfl⟩
 case round =>
  obtain ⟨rfl, rfl, rfl⟩ := hrel
  go_wp2_with fail
  go_ret
  exact ⟨rfl, rfl⟩
theorem markedPoints_none (w : World) :
  Calls Tryz.prog 66 #[.slice none 0 0] w fun e w' => e = .returned (.bool true) ∧ w' = w := by
 go_enter Tryz.func66, Tryz.ntmps66
 go_wp2_with fail
 go_loopw [3] (fun i wr => i = .int .i64 0 ∧ wr = w) (fun _ _ => 0)
 case atStart => exact ⟨rfl, rfl⟩
 case round =>
  obtain ⟨rfl, rfl⟩ := hrel
  go_wp2_with fail
  go_ret
  exact ⟨rfl, rfl⟩
theorem stillBools_none (bk : Nat) (w : World) (h0 : w.cell? ⟨bk, 12, none⟩ = some (.slice none 0 0)) :
  Calls Tryz.prog 43 #[.pointer (some ⟨bk, 0, none⟩)] w fun e w' => e = .returned (.bool true) ∧ w' = w := by
 go_enter Tryz.func43, Tryz.ntmps43
 go_wp2_with fail
 go_loopw [3] (fun i wr => i = .int .i64 0 ∧ wr = w) (fun _ _ => 0)
 case atStart => exact ⟨rfl, rfl⟩
 case round =>
  obtain ⟨rfl, rfl⟩ := hrel
  go_wp2_with fail
  go_ret
  exact ⟨rfl, rfl⟩
theorem putBools_none (bk : Nat) (w : World) (h0 : w.cell? ⟨bk, 12, none⟩ = some (.slice none 0 0)) :
  Calls Tryz.prog 52 #[.pointer (some ⟨bk, 0, none⟩)] w fun e w' => e = .returned (.tuple #[]) ∧ w' = w := by
 go_enter Tryz.func52, Tryz.ntmps52
 go_wp2_with fail
 go_loopw [2] (fun i wr => i = .int .i64 0 ∧ wr = w) (fun _ _ => 0)
 case atStart => exact ⟨rfl, rfl⟩
 case round =>
  obtain ⟨rfl, rfl⟩ := hrel
  go_wp2_with fail

  go_end0
  exact ⟨rfl, rfl⟩
theorem growBools_none (bk : Nat) (w : World) (h0 : w.cell? ⟨bk, 12, none⟩ = some (.slice none 0 0)) :
  Calls Tryz.prog 59 #[.pointer (some ⟨bk, 0, none⟩)] w fun e w' => e = .returned (.slice none 0 0) ∧ w' = w := by
 go_enter Tryz.func59, Tryz.ntmps59
 go_wp2_with fail
 go_loopw [3, 4] (fun o i wr => o = .slice none 0 0 ∧ i = .int .i64 0 ∧ wr = w) (fun _ _ _ => 0)
 case atStart => exact ⟨rfl, rfl, rfl⟩
 case round =>
  obtain ⟨rfl, rfl, rfl⟩ := hrel
  go_wp2_with fail
  go_ret
  exact ⟨rfl, rfl⟩
theorem markedBools_none (w : World) :
  Calls Tryz.prog 67 #[.slice none 0 0] w fun e w' => e = .returned (.bool true) ∧ w' = w := by
 go_enter Tryz.func67, Tryz.ntmps67
 go_wp2_with fail
 go_loopw [3] (fun i wr => i = .int .i64 0 ∧ wr = w) (fun _ _ => 0)
 case atStart => exact ⟨rfl, rfl⟩
 case round =>
  obtain ⟨rfl, rfl⟩ := hrel
  go_wp2_with fail
  go_ret
  exact ⟨rfl, rfl⟩
theorem stillEvents_none (bk : Nat) (w : World) (h0 : w.cell? ⟨bk, 14, none⟩ = some (.slice none 0 0)) :
  Calls Tryz.prog 44 #[.pointer (some ⟨bk, 0, none⟩)] w fun e w' => e = .returned (.bool true) ∧ w' = w := by
 go_enter Tryz.func44, Tryz.ntmps44
 go_wp2_with fail
 go_loopw [3] (fun i wr => i = .int .i64 0 ∧ wr = w) (fun _ _ => 0)
 case atStart => exact ⟨rfl, rfl⟩
 case round =>
  obtain ⟨rfl, rfl⟩ := hrel
  go_wp2_with fail
  go_ret
  exact ⟨rfl, rfl⟩
theorem putEvents_none (bk : Nat) (w : World) (h0 : w.cell? ⟨bk, 14, none⟩ = some (.slice none 0 0)) :
  Calls Tryz.prog 45 #[.pointer (some ⟨bk, 0, none⟩)] w fun e w' => e = .returned (.tuple #[]) ∧ w' = w := by
 go_enter Tryz.func45, Tryz.ntmps45
 go_wp2_with fail
 go_loopw [2] (fun i wr => i = .int .i64 0 ∧ wr = w) (fun _ _ => 0)
 case atStart => exact ⟨rfl, rfl⟩
 case round =>
  obtain ⟨rfl, rfl⟩ := hrel
  go_wp2_with fail

  go_end0
  exact ⟨rfl, rfl⟩
theorem growEvents_none (bk : Nat) (w : World) (h0 : w.cell? ⟨bk, 14, none⟩ = some (.slice none 0 0)) :
  Calls Tryz.prog 60 #[.pointer (some ⟨bk, 0, none⟩)] w fun e w' => e = .returned (.slice none 0 0) ∧ w' = w := by
 go_enter Tryz.func60, Tryz.ntmps60
 go_wp2_with fail
 go_loopw [3, 4] (fun o i wr => o = .slice none 0 0 ∧ i = .int .i64 0 ∧ wr = w) (fun _ _ _ => 0)
 case atStart => exact ⟨rfl, rfl, rfl⟩
 case round =>
  obtain ⟨rfl, rfl, rfl⟩ := hrel
  go_wp2_with fail
  go_ret
  exact ⟨rfl, rfl⟩
theorem markedEvents_none (w : World) :
  Calls Tryz.prog 68 #[.slice none 0 0] w fun e w' => e = .returned (.bool true) ∧ w' = w := by
 go_enter Tryz.func68, Tryz.ntmps68
 go_wp2_with fail
 go_loopw [3] (fun i wr => i = .int .i64 0 ∧ wr = w) (fun _ _ => 0)
 case atStart => exact ⟨rfl, rfl⟩
 case round =>
  obtain ⟨rfl, rfl⟩ := hrel
  go_wp2_with fail
  go_ret
  exact ⟨rfl, rfl⟩
end Go.Proofs.YtibhenengpdahaaGreat.Bk
