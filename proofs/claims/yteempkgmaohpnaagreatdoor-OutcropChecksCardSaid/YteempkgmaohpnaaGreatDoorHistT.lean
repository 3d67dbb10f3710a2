/-
  klippe/history.Check on events with tilts behind them: its runs.
-/
import Derived.Test.YteempkgmaohpnaaGreatDoorHistX
set_option linter.unusedSectionVars false
set_option linter.unusedVariables false
set_option linter.unusedSimpArgs false
namespace Go.Proofs.YteempkgmaohpnaaGreatDoor
open Go Ev Klp
set_option maxRecDepth 100000
theorem runC_t11_0 : allL (fun l => runC b0 (itemsOf 0 l ++ List.replicate (11 - l.length) tiltI) 0) 0 = true := by kernel_rfl
theorem runC_t11_1 : allL (fun l => runC b0 (itemsOf 0 l ++ List.replicate (11 - l.length) tiltI) 0) 1 = true := by kernel_rfl
theorem runC_t11_2 : allL (fun l => runC b0 (itemsOf 0 l ++ List.replicate (11 - l.length) tiltI) 0) 2 = true := by kernel_rfl
theorem runC_t11_3 : allL (fun l => runC b0 (itemsOf 0 l ++ List.replicate (11 - l.length) tiltI) 0) 3 = true := by kernel_rfl
theorem runC_t11_4 : allL (fun l => runC b0 (itemsOf 0 l ++ List.replicate (11 - l.length) tiltI) 0) 4 = true := by kernel_rfl
theorem runC_t11_5 : allL (fun l => runC b0 (itemsOf 0 l ++ List.replicate (11 - l.length) tiltI) 0) 5 = true := by kernel_rfl
theorem runC_t11_6 : allL (fun l => runC b0 (itemsOf 0 l ++ List.replicate (11 - l.length) tiltI) 0) 6 = true := by kernel_rfl
theorem runC_t11_7 : allL (fun l => runC b0 (itemsOf 0 l ++ List.replicate (11 - l.length) tiltI) 0) 7 = true := by kernel_rfl
theorem runC_t11 : ∀ i,i < 8 → allL (fun l => runC b0 (itemsOf 0 l ++ List.replicate (11 - l.length) tiltI) 0) i = true
 | 0,_ => runC_t11_0
 | 1,_ => runC_t11_1
 | 2,_ => runC_t11_2
 | 3,_ => runC_t11_3
 | 4,_ => runC_t11_4
 | 5,_ => runC_t11_5
 | 6,_ => runC_t11_6
 | 7,_ => runC_t11_7
 | n + 8,h => absurd h (by omega)
theorem runC_t12_0 : allL (fun l => runC b0 (itemsOf 0 l ++ List.replicate (12 - l.length) tiltI) 0) 0 = true := by kernel_rfl
theorem runC_t12_1 : allL (fun l => runC b0 (itemsOf 0 l ++ List.replicate (12 - l.length) tiltI) 0) 1 = true := by kernel_rfl
theorem runC_t12_2 : allL (fun l => runC b0 (itemsOf 0 l ++ List.replicate (12 - l.length) tiltI) 0) 2 = true := by kernel_rfl
theorem runC_t12_3 : allL (fun l => runC b0 (itemsOf 0 l ++ List.replicate (12 - l.length) tiltI) 0) 3 = true := by kernel_rfl
theorem runC_t12_4 : allL (fun l => runC b0 (itemsOf 0 l ++ List.replicate (12 - l.length) tiltI) 0) 4 = true := by kernel_rfl
theorem runC_t12_5 : allL (fun l => runC b0 (itemsOf 0 l ++ List.replicate (12 - l.length) tiltI) 0) 5 = true := by kernel_rfl
theorem runC_t12_6 : allL (fun l => runC b0 (itemsOf 0 l ++ List.replicate (12 - l.length) tiltI) 0) 6 = true := by kernel_rfl
theorem runC_t12_7 : allL (fun l => runC b0 (itemsOf 0 l ++ List.replicate (12 - l.length) tiltI) 0) 7 = true := by kernel_rfl
theorem runC_t12 : ∀ i,i < 8 → allL (fun l => runC b0 (itemsOf 0 l ++ List.replicate (12 - l.length) tiltI) 0) i = true
 | 0,_ => runC_t12_0
 | 1,_ => runC_t12_1
 | 2,_ => runC_t12_2
 | 3,_ => runC_t12_3
 | 4,_ => runC_t12_4
 | 5,_ => runC_t12_5
 | 6,_ => runC_t12_6
 | 7,_ => runC_t12_7
 | n + 8,h => absurd h (by omega)
end Go.Proofs.YteempkgmaohpnaaGreatDoor
