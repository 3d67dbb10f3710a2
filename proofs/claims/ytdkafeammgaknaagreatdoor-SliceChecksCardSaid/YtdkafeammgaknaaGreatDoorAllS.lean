/-
  klippelaw32.SliceChecks at any plan, any change, any frame and polygon in their place: true.
-/
import Derived.Test.YtdkafeammgaknaaGreatDoorWalkW
import Derived.Test.YtdkafeammgaknaaGreatDoorSlcB
import Derived.Test.YtdkafeammgaknaaGreatDoorMakeZ
import Derived.Test.YtdkafeammgaknaaGreatDoorAllG
import Derived.Test.YtdkafeammgaknaaGreatDoorEvKnownA
set_option linter.unusedSectionVars false
set_option linter.unusedVariables false
set_option linter.unusedSimpArgs false
namespace Go.Proofs.YtdkafeammgaknaaGreatDoor
open Go.RowKit Go Ev Klp
def planS (k s0 s1 : Int) (hf : Bool) (ds : Value) (fv : Nat → Int) (sh a b : Int) : List Value :=
 [.int .u8 k,.int .i8 s0,.int .i8 s1,.bool hf,ds,.int .i8 (fv 0),.int .i8 (fv 1),.int .i8 (fv 2),.int .i8 (fv 3),.int .i8 (fv 4),.int .i8 (fv 5),.int .i8 (fv 6),.int .i8 (fv 7),.int .i8 (fv 8),.int .u8 sh,.int .i8 a,.int .i8 b]
theorem quesR_eq (a b c d pv : Value) (f : Nat → Int) : (quesR [a,b,c,d] f pv).toArray = #[a,b,c,d,numV (f 0),numV (f 1),numV (f 2),numV (f 3),numV (f 4),numV (f 5),numV (f 6),numV (f 7),numV (f 8),pv] := rfl
def PostQ (np nt : Nat) (X : Value → Value → Mem → Prop) (f : Nat → Int) (pts : List (Int × Int)) (y : Value) (M' : Mem) : Prop :=
 ∃ b0 c0 b1 c1 sv pv,y = .agg (quesR [slV b0 np c0,slV b1 nt c1,strB baseB,sv] f pv).toArray ∧ (∃ a n c,sv = Value.slice a n c) ∧ CallOk Tryz.prog M' 27 [.agg #[slV b0 np c0,slV b1 nt c1]] (.int .i64 0) ∧ X (slV b0 np c0) (slV b1 nt c1) M' ∧
  HistR M' (slV b0 np c0) (slV b1 nt c1) sv ∧ GonRaw M' pts pv
theorem retM_mono {M : Mem} {w : World} {Q Q' : Value → Mem → Prop} (h : ∀ y M',Q y M' → Q' y M') {e : Ending} {w' : World} (hr : RetM M w Q e w') : RetM M w Q' e w' := by
 obtain ⟨y,M',h1,h2,h3,h4,h5,h6,h7⟩ := hr
 exact ⟨y,M',h1,h2,h3,h4,h5,h6,h _ _ h7⟩
theorem numV_str (x : Int) : ∃ s : ByteArray,numV x = .string s := ⟨_,rfl⟩
theorem quest_ok {M : Mem} {np nt : Nat} {X : Value → Value → Mem → Prop} (hX : ∀ m0 m1 M M',M.Le M' → X m0 m1 M → X m0 m1 M') {k s0 s1 : Int} {hf : Bool} {ds : Value} {fv : Nat → Int} {sh a b : Int} {f : Nat → Int} {pts : List (Int × Int)} {w : World} (hw : M.On w)
  (h30 : ∀ w,M.On w → Calls Tryz.prog 21 #[.agg #[.int .u8 k,.int .i8 s0,.int .i8 s1,.bool hf,ds]] w (RetM M w (Post30 np nt X)))
  (hfr : CallOk Tryz.prog M 22 [.agg (flatR fv).toArray] (.agg (nineR f).toArray))
  (hgn : ∀ M1 w,M.Le M1 → M1.On w → Calls Tryz.prog 23 #[.agg (planS k s0 s1 hf ds fv sh a b).toArray] w (RetM M1 w fun y M' => GonRaw M' pts y)) :
  Calls Tryz.prog 6 #[.agg (planS k s0 s1 hf ds fv sh a b).toArray] w (RetM M w (PostQ np nt X f pts)) := by
 obtain ⟨g0,e0⟩ := numV_str (f 0)
 obtain ⟨g1,e1⟩ := numV_str (f 1)
 obtain ⟨g2,e2⟩ := numV_str (f 2)
 obtain ⟨g3,e3⟩ := numV_str (f 3)
 obtain ⟨g4,e4⟩ := numV_str (f 4)
 obtain ⟨g5,e5⟩ := numV_str (f 5)
 obtain ⟨g6,e6⟩ := numV_str (f 6)
 obtain ⟨g7,e7⟩ := numV_str (f 7)
 obtain ⟨g8,e8⟩ := numV_str (f 8)
 have e9 : (nineR f).toArray = #[.string g0,.string g1,.string g2,.string g3,.string g4,.string g5,.string g6,.string g7,.string g8] := by
  rw [← e0,← e1,← e2,← e3,← e4,← e5,← e6,← e7,← e8]; rfl
 rw [e9] at hfr
 refine Calls.mono (quest_walk (np := np) (nt := nt) (P30 := fun b0 c0 b1 c1 sv M' => CallOk Tryz.prog M' 27 [.agg #[slV b0 np c0,slV b1 nt c1]] (.int .i64 0) ∧ X (slV b0 np c0) (slV b1 nt c1) M' ∧ HistR M' (slV b0 np c0) (slV b1 nt c1) sv) (GON := fun y M' => GonRaw M' pts y)
  (fun b0 c0 b1 c1 sv M M' hl h => ⟨h.1.le hl,hX _ _ _ _ hl h.2.1,h.2.2.le hl⟩) (fun y M M' hl h => h.le hl) (fun y M h => by obtain ⟨a,c,e⟩ := h.slice; exact ⟨_,_,_,e⟩) hw
  (fun w hw => Calls.mono (h30 w hw) fun e w' h => retM_mono (fun y M' h => by
   obtain ⟨b0,c0,b1,c1,sv,rfl,⟨sva,svn,svc,rfl⟩,h1,h2,h3⟩ := h
   exact ⟨b0,c0,b1,c1,sva,svn,svc,rfl,h1,h2,h3⟩) h)
  (fun w hw => Calls.mono (hfr w hw.size hw.same) fun e w' h => h) hgn) fun e w' h => retM_mono (fun y M' h => by
   obtain ⟨b0,c0,b1,c1,sva,svn,svc,pa,pn,pc,rfl,⟨h1,h2,h3⟩,h4⟩ := h
   refine ⟨b0,c0,b1,c1,.slice sva svn svc,.slice pa pn pc,?_,⟨_,_,_,rfl⟩,h1,h2,h3,h4⟩
   rw [quesR_eq,e0,e1,e2,e3,e4,e5,e6,e7,e8]
   rfl) h
end Go.Proofs.YtdkafeammgaknaaGreatDoor
namespace Go.Proofs.YtdkafeammgaknaaGreatDoor
open Go Ev Klp
theorem known_calls {M : Mem} (hg : Good M) (w : World) (hw : M.On w) : Calls Tryz.prog 4 #[] w (QuietP (.bool true) w) := by
 let B : Base := { toMem := M,sym := fun _ => .nilFunc }
 have hone : ∀ i,oneV (B.sym i) := fun _ => trivial
 refine (known_true (fnOk (hg.pow _ _)) (baseE B hone) w [] base_stat rfl hw.size hw.same).mono ?_
 rintro e w' ⟨x,rfl,hv,hgr,hs⟩
 exact ⟨by rw [show x = .bool true from hv],hgr,hs⟩
theorem body_eq : Tryz.f3.body = some (head1.seq (head2.seq (head3.seq (head4.seq (gonS.seq tailS))))) := rfl
theorem law_true {W : World} (hg : Good ⟨W.heap,fun _ => True⟩) {k s0 s1 : Int} (hk : 0 ≤ k ∧ k ≤ 255) (hs0 : -128 ≤ s0 ∧ s0 ≤ 127) (hs1 : -128 ≤ s1 ∧ s1 ≤ 127) {hf : Bool} {ds : Value} {fv : Nat → Int} (hfv : ∀ i,i < 9 → -128 ≤ fv i ∧ fv i ≤ 127)
  {sh a b : Int} (hsh : 0 ≤ sh ∧ sh ≤ 255) (ha : -128 ≤ a ∧ a ≤ 127) (hb : -128 ≤ b ∧ b ≤ 127) {dds : List (Nat → Int)} (hds : DeedsRaw ⟨W.heap,fun _ => True⟩ ds dds) (hdd : ∀ dd ∈ dds,DeedOk dd) {kx at_ : Int} (hkx : 0 ≤ kx ∧ kx ≤ 255) (hat : 0 ≤ at_ ∧ at_ ≤ 255)
  {l : Value} {zs : List (Int × Int)} (hzs : PairsRaw ⟨W.heap,fun _ => True⟩ l zs) (hz : ∀ p ∈ zs,I8 p.1 ∧ I8 p.2) :
  Calls Tryz.prog 3 #[.agg (planS k s0 s1 hf ds fv sh a b).toArray,slipR kx at_,l] W (LawP W) := by
 have hon : (⟨W.heap,fun _ => True⟩ : Mem).On W := Mem.On.self W _
 have hkn := known_calls hg
 obtain ⟨db,dcap,rfl,hcap,_⟩ := id hds
 obtain ⟨lb,lc,rfl,_⟩ := id hzs
 have hfit := fun w => fits30_walk (k := k) (s0 := s0) (s1 := s1) (hf := hf) (b := db) (n := dds.length) (c := dcap) w
 by_cases hn : dds.length ≤ 3
 ·rw [decide_eq_true (by omega)] at hfit
  by_cases hl : zs.length ≤ 6
  ·obtain ⟨K,hK,eK⟩ := tmod_nat (z := k) (n := 8) (by omega) hk.1
   obtain ⟨t,ht⟩ := mesh_all hK hf
   obtain ⟨dl,hdl⟩ := dealt ht.np hdd hn
   obtain ⟨j,hj,ej⟩ := tmod_nat (z := sh) (n := 4) (by omega) hsh.1
   have t8 : ∀ z : Int,-7 ≤ z.tmod 8 ∧ z.tmod 8 ≤ 7 := fun z => tmod_rg (z := z) (n := 8) (by omega)
   have hX : ∀ m0 m1 M M',M.Le M' → t.X (s0.tmod 8) (s1.tmod 8) m0 m1 M → t.X (s0.tmod 8) (s1.tmod 8) m0 m1 M' := fun _ _ _ _ hle h => MeshRaw.le hle h
   have h30 : ∀ w,(⟨W.heap,fun _ => True⟩ : Mem).On w → Calls Tryz.prog 21 #[.agg #[.int .u8 k,.int .i8 s0,.int .i8 s1,.bool hf,.slice db dds.length dcap]] w (RetM ⟨W.heap,fun _ => True⟩ w (Post30 t.pts.length t.nt (t.X (s0.tmod 8) (s1.tmod 8)))) := fun w hw =>
    make30 hg hX hw (fun w hw => ht.mesh hg hk hs0 hs1 eK hw) hdl.few hdl.idx hdl.shp hdl.hox hdl.len hdl.kin hds hdl.run
   obtain ⟨f,hnine,hfr⟩ := make32_ok hg hfv
   have hgn : ∀ M1 w,(⟨W.heap,fun _ => True⟩ : Mem).Le M1 → M1.On w → Calls Tryz.prog 23 #[.agg (planS k s0 s1 hf (.slice db dds.length dcap) fv sh a b).toArray] w (RetM M1 w fun y M' => GonRaw M' (ptsG j a b) y) := fun M1 w hle hw =>
    gon32_ok (hg.le hle) (ps := [.int .u8 k,.int .i8 s0,.int .i8 s1,.bool hf,.slice db dds.length dcap,.int .i8 (fv 0),.int .i8 (fv 1),.int .i8 (fv 2),.int .i8 (fv 3),.int .i8 (fv 4),.int .i8 (fv 5),.int .i8 (fv 6),.int .i8 (fv 7),.int .i8 (fv 8)]) rfl
     (by intro x hx; simp only [List.mem_cons,List.not_mem_nil,or_false] at hx; rcases hx with rfl | rfl | rfl | rfl | rfl | rfl | rfl | rfl | rfl | rfl | rfl | rfl | rfl | rfl <;> trivial) hsh ha hb hj ej hw
   obtain ⟨g0,e0⟩ := numV_str (f 0)
   obtain ⟨g1,e1⟩ := numV_str (f 1)
   obtain ⟨g2,e2⟩ := numV_str (f 2)
   obtain ⟨g3,e3⟩ := numV_str (f 3)
   obtain ⟨g4,e4⟩ := numV_str (f 4)
   obtain ⟨g5,e5⟩ := numV_str (f 5)
   obtain ⟨g6,e6⟩ := numV_str (f 6)
   obtain ⟨g7,e7⟩ := numV_str (f 7)
   obtain ⟨g8,e8⟩ := numV_str (f 8)
   have hq : ∀ w,(⟨W.heap,fun _ => True⟩ : Mem).On w → Calls Tryz.prog 6 #[.agg (planS k s0 s1 hf (.slice db dds.length dcap) fv sh a b).toArray] w (RetM ⟨W.heap,fun _ => True⟩ w fun y M' => ∃ b0 c0 b1 c1 sva svn svc pa pn pc,
     y = .agg #[.slice (some ⟨b0,0,none⟩) t.pts.length c0,.slice (some ⟨b1,0,none⟩) t.nt c1,.string ⟨#[98,97,115,101]⟩,.slice sva svn svc,.string g0,.string g1,.string g2,.string g3,.string g4,.string g5,.string g6,.string g7,.string g8,.slice pa pn pc] ∧
     (CallOk Tryz.prog M' 27 [.agg #[slV b0 t.pts.length c0,slV b1 t.nt c1]] (.int .i64 0) ∧ t.X (s0.tmod 8) (s1.tmod 8) (slV b0 t.pts.length c0) (slV b1 t.nt c1) M' ∧ HistR M' (slV b0 t.pts.length c0) (slV b1 t.nt c1) (.slice sva svn svc) ∧ GonRaw M' (ptsG j a b) (.slice pa pn pc))) := fun w hw =>
    Calls.mono (quest_ok hX hw h30 hfr hgn) fun e w' h => retM_mono (fun y M' h => by
     obtain ⟨b0,c0,b1,c1,sv,pv,rfl,⟨sva,svn,svc,rfl⟩,h1,h2,h3,h4⟩ := h
     obtain ⟨pa,pc,rfl⟩ := h4.slice
     refine ⟨b0,c0,b1,c1,sva,svn,svc,pa,_,pc,?_,h1,h2,h3,h4⟩
     rw [quesR_eq,e0,e1,e2,e3,e4,e5,e6,e7,e8]
     rfl) h
   refine calls_of_wp Tryz.func3 body_eq ?_
   refine few_wpS hon hkn hfit hl (PQ := fun b0 c0 b1 c1 sv pv M' => CallOk Tryz.prog M' 27 [.agg #[slV b0 t.pts.length c0,slV b1 t.nt c1]] (.int .i64 0) ∧ t.X (s0.tmod 8) (s1.tmod 8) (slV b0 t.pts.length c0) (slV b1 t.nt c1) M' ∧ HistR M' (slV b0 t.pts.length c0) (slV b1 t.nt c1) sv ∧ GonRaw M' (ptsG j a b) pv)
    (PC := fun b0 c0 m1' bs' sv' pv M' => (∃ h : Int,(0 ≤ h ∧ h ≤ 40) ∧ CallOk Tryz.prog M' 10 [.agg #[slV b0 t.pts.length c0,m1',bs',sv']] (.int .i64 h)) ∧ GonRaw M' (ptsG j a b) pv) hq (fun M1 b0 c0 b1 c1 sv pv w hle hon hpq => ?_) (QQ := bodyPost Tryz.prog Tryz.f3 (LawP W)) ?_
   ·obtain ⟨hck,hx,hh,hgon⟩ := hpq
    obtain rfl := raw_nt hx
    refine Calls.mono (chg_hist (hg.le hle) ht.nt hck hh (ht.cut (hg.le hle) (t8 s0) (t8 s1) hx) hkx hat hon) ?_
    rintro e w' ⟨y,M',rfl,g1,g2,g3,g4,g5,m1',bs',sv',rfl,⟨ma,mn,mc,rfl⟩,⟨bt,rfl⟩,⟨ea,en,ec,rfl⟩,h,hr,hH,_⟩
    exact ⟨_,M',rfl,g1,g2,g3,g4,g5,ma,mn,mc,bt,ea,en,ec,rfl,⟨h,hr,hH⟩,hgon.le g4⟩
   ·rintro M' b0 c0 ma mn mc bt ea en ec pa pn pc p7 ac w' hw' ts t2 t7 hdf h7 z7 q7 ⟨⟨h,hr,hH⟩,hgon⟩
    have h41 : ∀ x ∈ [slV b0 t.pts.length c0,.slice ma mn mc,.string bt,.slice ea en ec],oneV x := by
     intro x hx
     simp only [List.mem_cons,List.not_mem_nil,or_false] at hx
     rcases hx with rfl | rfl | rfl | rfl <;> trivial
    have h7' : w'.heap[p7]? = some (.cells (quesR [slV b0 t.pts.length c0,.slice ma mn mc,.string bt,.slice ea en ec] f (.slice pa pn pc)).toArray 52 (0,0)) := by
     rw [h7,quesR_eq,e0,e1,e2,e3,e4,e5,e6,e7,e8]
     rfl
    refine wp_seq (gon_run (w := W) (hg.le hw'.le) (h4 := [slV b0 t.pts.length c0,.slice ma mn mc,.string bt,.slice ea en ec]) rfl h41 hnine (ptsG_len hj a b) (ptsG_rg hj a b) hgon (hzs.le hw'.le) hl hz hw'.on ts t2 t7 hdf h7' z7 ?_)
    intro M2 f' pts' pv' a2 w2 hle2 hon2 ts2 t72 hdf2 hb2 z72 hgr2 hfr2 hn' hp5 hpr hgon'
    have hg2 := hg.le (hw'.le.trans hle2)
    obtain ⟨zf,hzf,hlaw,hown⟩ := frame_ok hg2 hn'
    obtain ⟨u,hu,hpc⟩ := gon_ok hg2 hp5 hpr hgon'
    have opv : oneV pv' := by obtain ⟨_,_,rfl⟩ := hgon'.slice; trivial
    exact checksB hg2 (l := quesR [slV b0 t.pts.length c0,.slice ma mn mc,.string bt,.slice ea en ec] f' pv') rfl (fun x hx => by
     simp only [quesR,List.mem_append,List.mem_singleton] at hx
     rcases hx with hx | hx | rfl
     ·exact h41 x hx
     ·simp only [nineR,List.mem_map] at hx
      obtain ⟨i,_,rfl⟩ := hx
      trivial
     ·exact opv) hon2 ts2 t72 hdf2 hb2 z72 (hw'.grew.trans hgr2) (fun b hb => (hfr2 b (Nat.lt_of_lt_of_le hb hw'.lt) (by omega)).trans (hw'.old b hb)) q7 hr (hH.le hle2) hzf hlaw hown hu rfl hpc
  ·refine calls_of_wp Tryz.func3 body_eq ?_
   exact long_wpS hon hkn hfit (by omega) _
 ·rw [decide_eq_false (by omega)] at hfit
  refine calls_of_wp Tryz.func3 body_eq ?_
  exact many_wpS hon hkn hfit _
end Go.Proofs.YtdkafeammgaknaaGreatDoor
