/-
  klippelaw34.OutcropFrames at any plan and any triangle: true.
-/
import Derived.Test.YtkgiaicagecmpaaGreatDoorLawZ
import Derived.Test.YtkgiaicagecmpaaGreatDoorEvKnownA
import Derived.Test.YtkgiaicagecmpaaGreatDoorTerr
import Derived.Test.YtkgiaicagecmpaaGreatDoorShapes
import Derived.Test.YtkgiaicagecmpaaGreatDoorMakeR3
import Derived.Test.YtkgiaicagecmpaaGreatDoorMakeR4
import Derived.Test.YtkgiaicagecmpaaGreatDoorMakeR5
import Derived.Test.YtkgiaicagecmpaaGreatDoorMakeR6
import Derived.Test.YtkgiaicagecmpaaGreatDoorMesh0
import Derived.Test.YtkgiaicagecmpaaGreatDoorMesh1
import Derived.Test.YtkgiaicagecmpaaGreatDoorMesh2
import Derived.Test.YtkgiaicagecmpaaGreatDoorMesh3
import Derived.Test.YtkgiaicagecmpaaGreatDoorMesh4
import Derived.Test.YtkgiaicagecmpaaGreatDoorMesh5
import Derived.Test.YtkgiaicagecmpaaGreatDoorMesh6
import Derived.Test.YtkgiaicagecmpaaGreatDoorMesh7
import Derived.Test.YtkgiaicagecmpaaGreatDoorLaw0
import Derived.Test.YtkgiaicagecmpaaGreatDoorLaw2
import Derived.Test.YtkgiaicagecmpaaGreatDoorLaw3
import Derived.Test.YtkgiaicagecmpaaGreatDoorLaw4
import Derived.Test.YtkgiaicagecmpaaGreatDoorLaw6
import Derived.Test.YtkgiaicagecmpaaGreatDoorLaw7
set_option linter.unusedSectionVars false
set_option linter.unusedVariables false
set_option linter.unusedSimpArgs false
namespace Go.Proofs.YtkgiaicagecmpaaGreatDoor
open Go Ev Klp
structure MeshAll (K : Nat) (hf : Bool) (t : LawT) : Prop where
  ok : t.Ok
  np : goodNp t.np
  mesh : ∀ {M : Mem}, Good M → ∀ {k s0 s1 : Int}, (0 ≤ k ∧ k ≤ 255) → (-128 ≤ s0 ∧ s0 ≤ 127) → (-128 ≤ s1 ∧ s1 ≤ 127) → k.tmod 8 = K → ∀ {w : World}, M.On w →
    Calls Tryz.prog 37 #[.agg #[.int .u8 k, .int .i8 s0, .int .i8 s1, .bool hf]] w (RetM M w (Post12 t.np t.nt (MeshRaw t.d (s0.tmod 8) (s1.tmod 8) t.pts t.tris t.nt)))
theorem all00 : MeshAll 0 false lw00 := ⟨lw00_ok, .inr (.inl rfl), fun hg _ _ _ hk h0 h1 hK _ hw => me00_ok.mesh hg hk h0 h1 hK hw⟩
theorem all01 : MeshAll 0 true lw01 := ⟨lw01_ok, .inr (.inl rfl), fun hg _ _ _ hk h0 h1 hK _ hw => me01_ok.mesh hg hk h0 h1 hK hw⟩
theorem all10 : MeshAll 1 false lw10 := ⟨lw10_ok, .inr (.inl rfl), fun hg _ _ _ hk h0 h1 hK _ hw => me10_ok.mesh hg hk h0 h1 hK hw⟩
theorem all11 : MeshAll 1 true lw11 := ⟨lw11_ok, .inr (.inl rfl), fun hg _ _ _ hk h0 h1 hK _ hw => me11_ok.mesh hg hk h0 h1 hK hw⟩
theorem all20 : MeshAll 2 false lw20 := ⟨lw20_ok, .inr (.inr (.inl rfl)), fun hg _ _ _ hk h0 h1 hK _ hw => me20_ok.mesh hg hk h0 h1 hK hw⟩
theorem all21 : MeshAll 2 true lw21 := ⟨lw21_ok, .inr (.inr (.inl rfl)), fun hg _ _ _ hk h0 h1 hK _ hw => me21_ok.mesh hg hk h0 h1 hK hw⟩
theorem all30 : MeshAll 3 false lw30 := ⟨lw30_ok, .inl rfl, fun hg _ _ _ hk h0 h1 hK _ hw => me30_ok.mesh hg hk h0 h1 hK hw⟩
theorem all31 : MeshAll 3 true lw31 := ⟨lw31_ok, .inl rfl, fun hg _ _ _ hk h0 h1 hK _ hw => me31_ok.mesh hg hk h0 h1 hK hw⟩
theorem all40 : MeshAll 4 false lw40 := ⟨lw40_ok, .inr (.inr (.inr rfl)), fun hg _ _ _ hk h0 h1 hK _ hw => me40_ok.mesh hg hk h0 h1 hK hw⟩
theorem all41 : MeshAll 4 true lw41 := ⟨lw41_ok, .inr (.inr (.inr rfl)), fun hg _ _ _ hk h0 h1 hK _ hw => me41_ok.mesh hg hk h0 h1 hK hw⟩
theorem all50 : MeshAll 5 false lw50 := ⟨lw50_ok, .inr (.inl rfl), fun hg _ _ _ hk h0 h1 hK _ hw => me50_ok.mesh hg hk h0 h1 hK hw⟩
theorem all51 : MeshAll 5 true lw51 := ⟨lw51_ok, .inr (.inl rfl), fun hg _ _ _ hk h0 h1 hK _ hw => me51_ok.mesh hg hk h0 h1 hK hw⟩
theorem all60 : MeshAll 6 false lw60 := ⟨lw60_ok, .inr (.inr (.inl rfl)), fun hg _ _ _ hk h0 h1 hK _ hw => me60_ok.mesh hg hk h0 h1 hK hw⟩
theorem all61 : MeshAll 6 true lw61 := ⟨lw61_ok, .inr (.inr (.inl rfl)), fun hg _ _ _ hk h0 h1 hK _ hw => me61_ok.mesh hg hk h0 h1 hK hw⟩
theorem all70 : MeshAll 7 false lw70 := ⟨lw70_ok, .inr (.inl rfl), fun hg _ _ _ hk h0 h1 hK _ hw => me70_ok.mesh hg hk h0 h1 hK hw⟩
theorem all71 : MeshAll 7 true lw71 := ⟨lw71_ok, .inr (.inl rfl), fun hg _ _ _ hk h0 h1 hK _ hw => me71_ok.mesh hg hk h0 h1 hK hw⟩
theorem mesh_all {K : Nat} (hK : K < 8) (hf : Bool) : ∃ t, MeshAll K hf t := by
  have : K = 0 ∨ K = 1 ∨ K = 2 ∨ K = 3 ∨ K = 4 ∨ K = 5 ∨ K = 6 ∨ K = 7 := by omega
  cases hf
  · rcases this with rfl | rfl | rfl | rfl | rfl | rfl | rfl | rfl
    · exact ⟨_, all00⟩
    · exact ⟨_, all10⟩
    · exact ⟨_, all20⟩
    · exact ⟨_, all30⟩
    · exact ⟨_, all40⟩
    · exact ⟨_, all50⟩
    · exact ⟨_, all60⟩
    · exact ⟨_, all70⟩
  · rcases this with rfl | rfl | rfl | rfl | rfl | rfl | rfl | rfl
    · exact ⟨_, all01⟩
    · exact ⟨_, all11⟩
    · exact ⟨_, all21⟩
    · exact ⟨_, all31⟩
    · exact ⟨_, all41⟩
    · exact ⟨_, all51⟩
    · exact ⟨_, all61⟩
    · exact ⟨_, all71⟩
theorem terr_all {np : Nat} (hn : goodNp np) (half : Bool) : ∃ t : TerrT, t.ok = true ∧ t.np = np ∧ t.half = half := by
  rcases hn with rfl | rfl | rfl | rfl <;> cases half
  · exact ⟨te03, te03_ok, rfl, rfl⟩
  · exact ⟨te13, te13_ok, rfl, rfl⟩
  · exact ⟨te04, te04_ok, rfl, rfl⟩
  · exact ⟨te14, te14_ok, rfl, rfl⟩
  · exact ⟨te05, te05_ok, rfl, rfl⟩
  · exact ⟨te15, te15_ok, rfl, rfl⟩
  · exact ⟨te06, te06_ok, rfl, rfl⟩
  · exact ⟨te16, te16_ok, rfl, rfl⟩
theorem runs_one {np : Nat} (hn : goodNp np) : ∀ a ∈ S0 np, runM [a] = true := by
  rcases hn with rfl | rfl | rfl | rfl
  · exact List.all_eq_true.1 runsA3
  · exact List.all_eq_true.1 runsA4
  · exact List.all_eq_true.1 runsA5
  · exact List.all_eq_true.1 runsA6
theorem runs_two {np : Nat} (hn : goodNp np) : ∀ a ∈ S0 np, ∀ b ∈ S1 np, runM [a, b] = true := by
  rcases hn with rfl | rfl | rfl | rfl
  · exact fun a ha => List.all_eq_true.1 (List.all_eq_true.1 runsB3 a ha)
  · exact fun a ha => List.all_eq_true.1 (List.all_eq_true.1 runsB4 a ha)
  · exact fun a ha => List.all_eq_true.1 (List.all_eq_true.1 runsB5 a ha)
  · exact fun a ha => List.all_eq_true.1 (List.all_eq_true.1 runsB6 a ha)
def Shaped (kind sub : Nat) : Prop := (kind = 2 ∧ sub = 0) ∨ (kind = 4 ∧ sub = 0) ∨ (kind = 3 ∧ sub < 6) ∨ (kind = 5 ∧ sub < 6) ∨ (kind = 1 ∧ sub < 3)
theorem tmod_nat {z : Int} {n : Nat} (hn : 0 < n) (hz : 0 ≤ z) : ∃ m : Nat, m < n ∧ z.tmod n = m := by
  obtain ⟨h1, h2⟩ := tmod_rn (z := z) hn hz
  exact ⟨(z.tmod n).toNat, by omega, by omega⟩
theorem kinded_of {dd : Nat → Int} (h : DeedOk dd) : ∃ kind sub, Kinded dd kind sub ∧ Shaped kind sub := by
  obtain ⟨m, hm, e⟩ := tmod_nat (z := dd 0) (n := 5) (by omega) (h.byte 0 (by omega)).1
  have e : (dd 0).tmod 5 = m := e
  have h8 := (h.byte 8 (by omega)).1
  have h11 := (h.byte 11 (by omega)).1
  have : m = 0 ∨ m = 1 ∨ m = 2 ∨ m = 3 ∨ m = 4 := by omega
  rcases this with rfl | rfl | rfl | rfl | rfl
  · obtain ⟨s, hs, e8⟩ := tmod_nat (z := dd 8) (n := 3) (by omega) h8
    exact ⟨1, s, ⟨e, e8⟩, .inr (.inr (.inr (.inr ⟨rfl, hs⟩)))⟩
  · exact ⟨2, 0, ⟨e, rfl⟩, .inl ⟨rfl, rfl⟩⟩
  · obtain ⟨s, hs, e8⟩ := tmod_nat (z := dd 8) (n := 3) (by omega) h8
    obtain ⟨u, hu, e11⟩ := tmod_nat (z := dd 11) (n := 2) (by omega) h11
    have e8 : (dd 8).tmod 3 = s := e8
    have e11 : (dd 11).tmod 2 = u := e11
    refine ⟨3, 2 * s + u, ⟨e, ?_, ?_⟩, .inr (.inr (.inl ⟨rfl, by omega⟩))⟩
    · rw [e8]; congr 1; omega
    · rw [e11]; congr 1; omega
  · exact ⟨4, 0, ⟨e, rfl⟩, .inr (.inl ⟨rfl, rfl⟩)⟩
  · obtain ⟨s, hs, e8⟩ := tmod_nat (z := dd 8) (n := 6) (by omega) h8
    exact ⟨5, s, ⟨e, e8⟩, .inr (.inr (.inr (.inl ⟨rfl, hs⟩)))⟩
theorem shaped_lt {kind sub : Nat} (h : Shaped kind sub) : shOf kind sub < 7 := by
  rcases h with ⟨rfl, rfl⟩ | ⟨rfl, rfl⟩ | ⟨rfl, h⟩ | ⟨rfl, h⟩ | ⟨rfl, h⟩ <;> simp only [shOf] <;> omega
structure Dealt (np : Nat) (dds : List (Nat → Int)) (l : List DealT) : Prop where
  len : dds.length = l.length
  few : l.length ≤ 2
  idx : ∀ (i : Nat) (d : DealT), l[i]? = some d → d.e = i ∧ d.np = np ∧ d.ok = true
  shp : ∀ d ∈ l, shOf d.kind d.sub < 7
  kin : ∀ (i : Nat) (d : DealT) (dd : Nat → Int), l[i]? = some d → dds[i]? = some dd → DeedOk dd ∧ Kinded dd d.kind d.sub
  run : runM l = true
theorem dealt {np : Nat} (hn : goodNp np) {dds : List (Nat → Int)} (hd : ∀ dd ∈ dds, DeedOk dd) (hl : dds.length ≤ 2) : ∃ l, Dealt np dds l := by
  match dds, hl with
  | [], _ => exact ⟨[], ⟨rfl, by simp, (fun i d h => by simp at h), (fun d h => by cases h), (fun i d dd h => by simp at h), runs0⟩⟩
  | [a], _ =>
    have ha := hd a (by simp)
    obtain ⟨k, s, hk, hs⟩ := kinded_of ha
    obtain ⟨d, hm, rfl, rfl⟩ := S0_has hn hs
    refine ⟨[d], rfl, by simp, fun i x h => ?_, fun x h => ?_, fun i x dd h h' => ?_, runs_one hn d hm⟩
    · match i, h with
      | 0, h => simp at h; subst h; exact S0_ok hn d hm
      | i + 1, h => simp at h
    · rw [List.mem_singleton.1 h]; exact shaped_lt hs
    · match i, h, h' with
      | 0, h, h' => simp at h h'; subst h; subst h'; exact ⟨ha, hk⟩
      | i + 1, h, _ => simp at h
  | [a, b], _ =>
    have ha := hd a (by simp)
    have hb := hd b (by simp)
    obtain ⟨k, s, hk, hs⟩ := kinded_of ha
    obtain ⟨k', s', hk', hs'⟩ := kinded_of hb
    obtain ⟨d, hm, rfl, rfl⟩ := S0_has hn hs
    obtain ⟨d', hm', rfl, rfl⟩ := S1_has hn hs'
    refine ⟨[d, d'], rfl, by simp, fun i x h => ?_, fun x h => ?_, fun i x dd h h' => ?_, runs_two hn d hm d' hm'⟩
    · match i, h with
      | 0, h => simp at h; subst h; exact S0_ok hn d hm
      | 1, h => simp at h; subst h; exact S1_ok hn d' hm'
      | i + 2, h => simp at h
    · simp only [List.mem_cons, List.not_mem_nil, or_false] at h
      rcases h with rfl | rfl
      · exact shaped_lt hs
      · exact shaped_lt hs'
    · match i, h, h' with
      | 0, h, h' => simp at h h'; subst h; subst h'; exact ⟨ha, hk⟩
      | 1, h, h' => simp at h h'; subst h; subst h'; exact ⟨hb, hk'⟩
      | i + 2, h, _ => simp at h
  | _ :: _ :: _ :: _, h => exact absurd h (by simp)
theorem known_calls {M : Mem} (hg : Good M) (w : World) (hw : M.On w) : Calls Tryz.prog 4 #[] w (QuietP (.bool true) w) := by
  let B : Base := { toMem := M, sym := fun _ => .nilFunc }
  have hone : ∀ i, oneV (B.sym i) := fun _ => trivial
  refine (known_true (fnOk (hg.pow _ _)) (baseE B hone) w [] base_stat rfl hw.size hw.same).mono ?_
  rintro e w' ⟨x, rfl, hv, hgr, hs⟩
  exact ⟨by rw [show x = .bool true from hv], hgr, hs⟩
theorem zT_bd {half : Bool} {hv : Nat → Int} (i : Nat) : -38 ≤ zT half hv i ∧ zT half hv i ≤ 38 := by
  have h : -19 ≤ (hv i).tmod 20 ∧ (hv i).tmod 20 ≤ 19 := tmod_rg (z := hv i) (n := 20) (by omega)
  unfold zT
  cases half <;> simp only [cond_true, cond_false] <;> omega
theorem law_true {W : World} (hg : Good ⟨W.heap, fun _ => True⟩) {k s0 s1 : Int} (hk : 0 ≤ k ∧ k ≤ 255) (hs0 : -128 ≤ s0 ∧ s0 ≤ 127) (hs1 : -128 ≤ s1 ∧ s1 ≤ 127) {hf half : Bool} {ds : Value} {hv : Nat → Int} (hh : HeightsOk hv) {dds : List (Nat → Int)}
    (hds : DeedsRaw ⟨W.heap, fun _ => True⟩ ds dds) (hdd : ∀ dd ∈ dds, DeedOk dd) {tri : Int} (htri : -9223372036854775808 ≤ tri ∧ tri ≤ 9223372036854775807) :
    Calls Tryz.prog 3 #[planR k s0 s1 hf half ds hv, .int .i64 tri] W (LawP W) := by
  have hon : (⟨W.heap, fun _ => True⟩ : Mem).On W := Mem.On.self W _
  have hkn := known_calls hg
  obtain ⟨b, cap, e, hcap, _⟩ := id hds
  by_cases hn : dds.length ≤ 2
  · obtain ⟨K, hK, eK⟩ := tmod_nat (z := k) (n := 8) (by omega) hk.1
    obtain ⟨t, ht⟩ := mesh_all hK hf
    obtain ⟨l, hl⟩ := dealt ht.np hdd hn
    obtain ⟨te, h1, h2, h3⟩ := terr_all ht.np half
    have t8 : ∀ z : Int, -7 ≤ z.tmod 8 ∧ z.tmod 8 ≤ 7 := fun z => tmod_rg (z := z) (n := 8) (by omega)
    have hX : ∀ m0 m1 M M', M.Le M' → MeshRaw t.d (s0.tmod 8) (s1.tmod 8) t.pts t.tris t.nt m0 m1 M → MeshRaw t.d (s0.tmod 8) (s1.tmod 8) t.pts t.tris t.nt m0 m1 M' := fun _ _ _ _ hle h => h.le hle
    have h30 : ∀ w, (⟨W.heap, fun _ => True⟩ : Mem).On w → Calls Tryz.prog 17 #[.agg #[.int .u8 k, .int .i8 s0, .int .i8 s1, .bool hf, ds]] w (RetM ⟨W.heap, fun _ => True⟩ w (Post30 t.np t.nt (MeshRaw t.d (s0.tmod 8) (s1.tmod 8) t.pts t.tris t.nt))) := fun w hw =>
      make30 hg hX hw (fun w hw => ht.mesh hg hk hs0 hs1 eK hw) hl.few hl.idx hl.shp hl.len hl.kin hds hl.run
    have hods : oneV ds := by rw [e]; trivial
    have hm : ∀ w, (⟨W.heap, fun _ => True⟩ : Mem).On w → Calls Tryz.prog 6 #[planR k s0 s1 hf half ds hv] w (RetM ⟨W.heap, fun _ => True⟩ w (Post34 t.np t.nt (MeshRaw t.d (s0.tmod 8) (s1.tmod 8) t.pts t.tris t.nt) (zT half hv))) := fun w hw => by
      have h6 : t.np ≤ 6 := by rcases ht.np with h | h | h | h <;> omega
      have := make34 hg hX hods hh hw h30 h1 h2 h6
      rw [h3] at this
      exact this
    rw [e] at hm ⊢
    exact law_few hg hon hkn hn ht.ok (t8 s0) (t8 s1) (fun i _ => zT_bd i) htri hm
  · rw [e]
    exact law_many hon hkn (by omega)
end Go.Proofs.YtkgiaicagecmpaaGreatDoor
