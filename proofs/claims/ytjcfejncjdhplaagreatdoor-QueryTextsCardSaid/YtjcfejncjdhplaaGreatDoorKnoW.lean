/-
  klippelaw53.known returns true, and keeps what stands.
-/
import Derived.Test.YtjcfejncjdhplaaGreatDoorEvKnownA
import Derived.Test.YtjcfejncjdhplaaGreatDoorSplW
set_option linter.unusedSectionVars false
set_option linter.unusedVariables false
set_option linter.unusedSimpArgs false
namespace Go.Proofs.YtjcfejncjdhplaaGreatDoor
open Go.RowKit Go Ev
theorem gPow : Tryz.prog.globalNamed "internal/strconv.uint64pow10" = some 1 := by kernel_rfl
theorem pow_cells : ∀ E : Ev.Env, Ev.VRL E pow10 (Lib.pow10Tab.map fun z => Value.int .u64 z) := by
  intro E
  show Ev.VRL E [.int .u64 1, .int .u64 10, .int .u64 100, .int .u64 1000, .int .u64 10000, .int .u64 100000, .int .u64 1000000, .int .u64 10000000, .int .u64 100000000, .int .u64 1000000000, .int .u64 10000000000, .int .u64 100000000000, .int .u64 1000000000000, .int .u64 10000000000000, .int .u64 100000000000000, .int .u64 1000000000000000, .int .u64 10000000000000000, .int .u64 100000000000000000, .int .u64 1000000000000000000, .int .u64 10000000000000000000] _
  exact ⟨_, _, rfl, rfl, _, _, rfl, rfl, _, _, rfl, rfl, _, _, rfl, rfl, _, _, rfl, rfl, _, _, rfl, rfl, _, _, rfl, rfl, _, _, rfl, rfl, _, _, rfl, rfl, _, _, rfl, rfl, _, _, rfl, rfl, _, _, rfl, rfl, _, _, rfl, rfl, _, _, rfl, rfl, _, _, rfl, rfl, _, _, rfl, rfl, _, _, rfl, rfl, _, _, rfl, rfl, _, _, rfl, rfl, _, _, rfl, rfl, rfl⟩
theorem var_heap {W : World} {cs : Array Value} (h : W.var? Tryz.prog "internal/strconv.uint64pow10" = some cs) : ∃ e fr, W.heap[1]? = some (.cells cs e fr) := by
  unfold World.var? at h
  rw [gPow] at h
  simp only [Option.bind_some] at h
  split at h
  · rename_i c e fr hc
    exact ⟨e, fr, by rw [hc, Option.some.inj h]⟩
  · cases h
theorem known_kp {W : World} (ht : PTab W) (w : World) (hk : Kp W w) : Calls Tryz.prog 5 #[] w fun e w' => e = .returned (.bool true) ∧ Kp w w' := by
  let B : Base := { toMem := ⟨W.heap, fun _ => True⟩, sym := fun _ => .nilFunc }
  have hone : ∀ i, oneV (B.sym i) := fun _ => trivial
  have hp : Pow B := by
    obtain ⟨e, fr, hc⟩ := var_heap ht
    exact ⟨⟨(Array.getElem?_eq_some_iff.1 hc).1, trivial⟩, _, e, fr, hc, fun E => ⟨_, [], pow_cells E, by simp⟩⟩
  refine (known_true (fnOk hp) (baseE B hone) w [] base_stat rfl hk.size fun b hb _ => hk.block b hb).mono ?_
  rintro e w' ⟨x, rfl, hv, hgr, hs⟩
  exact ⟨by rw [show x = .bool true from hv], ⟨hgr.os, hgr.tape, hgr.output, hgr.size, hs⟩⟩
end Go.Proofs.YtjcfejncjdhplaaGreatDoor
