/-
  klippelaw53.QueryYounger: the arguments as the row reads them, and the law between them.
-/
import Derived.Test.YtkjinnjopoehhaaGreatDoorAllY
import Derived.Test.YtkjinnjopoehhaaGreatDoorAllP
import Derived.Test.YtkjinnjopoehhaaGreatDoorRows
import Derived.Test.YtkjinnjopoehhaaGreatDoorRowAY
import Derived.ProofKit
import Derived.LaidMore
import Derived.OpenShut
import Derived.Stop.Joined
import Derived.Stop.LaidErr
import Derived.Deep.Strs
import Derived.Lib.SmallJoins
import Derived.Laws.IdiomArrays
import Derived.Lay
set_option linter.unusedSectionVars false
set_option linter.unusedVariables false
set_option linter.unusedSimpArgs false
namespace Go.Proofs.YtkjinnjopoehhaaGreatDoor
open Go.ChangeShapes Go.WideShapes Go.ChangeAt Go.WideMaps Go.WideElems Go.RowKit Go.Deep
theorem own:ownKnob Tryz.prog.godebug=none:=by kernel_rfl
theorem gPow:Tryz.prog.globalNamed "internal/strconv.uint64pow10" = some 1:=by kernel_rfl
theorem met_heap {P:Program} {l:List (String × DataW Unit)} {w w':World} (hh:w.heap=w'.heap) (h:laidMetH P l w):laidMetH P l w':=h.of_heap hh
abbrev laidL:List (String × DataW Unit):=Rows.queryYoungerRow.laid
theorem tab_of {W:World} (h:laidMetH Tryz.prog laidL W):PTab W:=by
 rw [MakeChecks.laidMetH_plain _ _ _ (by kernel_rfl)] at h
 exact Lib.tabIs_of_head gPow (by kernel_rfl) Tryz.underlying385 Tryz.underlying297 (by kernel_rfl) (by kernel_rfl) h
theorem pow_cells:∀ E:Ev.Env,Ev.VRL E pow10 (Lib.pow10Tab.map fun z=>Value.int .u64 z):=by
 intro E
 show Ev.VRL E [.int .u64 1,.int .u64 10,.int .u64 100,.int .u64 1000,.int .u64 10000,.int .u64 100000,.int .u64 1000000,.int .u64 10000000,.int .u64 100000000,.int .u64 1000000000,.int .u64 10000000000,.int .u64 100000000000,.int .u64 1000000000000,.int .u64 10000000000000,.int .u64 100000000000000,.int .u64 1000000000000000,.int .u64 10000000000000000,.int .u64 100000000000000000,.int .u64 1000000000000000000,.int .u64 10000000000000000000] _
 exact⟨_,_,rfl,rfl,_,_,rfl,rfl,_,_,rfl,rfl,_,_,rfl,rfl,_,_,rfl,rfl,_,_,rfl,rfl,_,_,rfl,rfl,_,_,rfl,rfl,_,_,rfl,rfl,_,_,rfl,rfl,_,_,rfl,rfl,_,_,rfl,rfl,_,_,rfl,rfl,_,_,rfl,rfl,_,_,rfl,rfl,_,_,rfl,rfl,_,_,rfl,rfl,_,_,rfl,rfl,_,_,rfl,rfl,_,_,rfl,rfl,rfl⟩
theorem var_heap {W:World} {cs:Array Value} (h:W.var? Tryz.prog "internal/strconv.uint64pow10" = some cs):∃ e fr,W.heap[1]? = some (.cells cs e fr):=by
 unfold World.var? at h
 rw [gPow] at h
 simp only [Option.bind_some] at h
 split at h
 ·rename_i c e fr hc
  exact⟨e,fr,by rw [hc,Option.some.inj h]⟩
 ·cases h
theorem pow_of {W:World} (h:PTab W) (s:Nat→Value) (st:Nat→Ev.Info):Pow ⟨⟨W.heap,fun _=>True⟩,s,st⟩:=by
 obtain⟨e,fr,hc⟩:=var_heap h
 refine⟨⟨?_,trivial⟩,_,e,fr,hc,fun E=>⟨_,[],pow_cells E,by simp⟩⟩
 have:=(Array.getElem?_eq_some_iff.1 hc).1
 exact this
theorem tab_later {W w:World} (h:PTab W) (h1:W.heap.size≤w.heap.size) (h2:∀ b,b<W.heap.size→w.heap[b]? = W.heap[b]?):PTab w:=by
 obtain⟨e,fr,hc⟩:=var_heap h
 have:=(Array.getElem?_eq_some_iff.1 hc).1
 have hw:=(h2 _ this).trans hc
 show w.var? Tryz.prog _=_
 unfold World.var?
 rw [gPow]
 simp only [Option.bind_some,hw]
theorem keptBut_of {W W':World} {may:MemPlace→Prop} (ho:W'.os=W.os) (hp:W'.output=W.output) (hb:∀ b,b<W.heap.size→W'.heap[b]? = W.heap[b]?):W.keptBut W' may:=by
 refine⟨ho,hp,fun i hi => ?_⟩
 rw [hb i hi]
 cases h:W.heap[i]? with
 | none=>rfl
 | some o=>
  cases o with
  | cells c t fr=>exact⟨rfl,rfl,rfl,fun _ _=>rfl⟩
  | map es clock=>exact .inr ⟨rfl,rfl⟩
  | _=>rfl
theorem good_of {W:World} (h:PTab W):Good ⟨W.heap,fun _=>True⟩:=⟨fun s st=>pow_of h s st,fun w h1 h2=>tab_later h h1 fun b hb=>h2 b hb trivial⟩
noncomputable abbrev doorW (os:Os):World:=World.laidAll Tryz.prog os laidL
abbrev args0:Array Value := #[.agg #[.int .u8 0,.int .i8 0,.int .i8 0,.bool false,.slice none 0 0,.int .i8 0,.int .i8 0,.int .i8 0,.int .i8 0,.int .i8 0,.int .i8 0,.bool false,.int .u8 0]]
theorem door_shaped (os:Os):((doorW os).forCall (fun _ _=>0) ⟨#[],args0,[]⟩).Shaped Tryz.prog:=World.shaped_of_ZipB (by kernel_rfl) (by kernel_rfl)
theorem door_ok (os:Os):Input.okWideB Tryz.prog ((doorW os).forCall (fun _ _=>0) ⟨#[],args0,[]⟩) 3 ⟨#[],args0,[]⟩=true:=by kernel_rfl
theorem door_pre {H:Type} (enc:TypeId × Value→H) (os:Os):Rows.queryYoungerSpec.preB enc Tryz.prog Tryz.f3 [] false ((doorW os).forCall (fun _ _=>0) ⟨#[],args0,[]⟩).memory args0 8=true:=by kernel_rfl
theorem door_sized {H:Type} (enc:TypeId × Value→H) (os:Os):Rows.queryYoungerSpec.sizedB enc Tryz.prog Tryz.f3 false ((doorW os).forCall (fun _ _=>0) ⟨#[],args0,[]⟩).memory args0 8=true:=by kernel_rfl
theorem door_met (os:Os) (args:Array Value):laidMetH Tryz.prog laidL ((doorW os).forCall (fun _ _=>0) ⟨#[],args,[]⟩).memory:=by
 rw [MakeChecks.laidMetH_plain _ _ _ (by kernel_rfl)]
 exact laidMet_laidAll _ (by kernel_rfl) (by kernel_rfl)
theorem no_init:Tryz.prog.inits.idxOf? 3=none:=by kernel_rfl
theorem x_ok:∀ (w w':World) (args:Array Value),w.heap=w'.heap→laidMetH Tryz.prog laidL w→laidMetH Tryz.prog laidL w':=fun w w' _ hh h=>@met_heap Tryz.prog laidL w w' hh h
theorem wit {H:Type} (enc:TypeId × Value→H) (os:Os):∃ (w:World) (tape:Tape) (i:Input),w.os=os∧(w.forCall tape i).Shaped Tryz.checked.prog∧i.vars=[]∧Input.okWide Tryz.checked.prog (w.forCall tape i) .any w.heap.size 3 i ∧
   ((Rows.queryYoungerSpec.pre enc Tryz.checked.prog Tryz.f3 [] false (w.forCall tape i).memory i.args∧laidMetH Tryz.prog laidL (w.forCall tape i).memory)∧sizedMet enc Tryz.checked.prog Tryz.f3 (OpenSpec.ofChange Rows.queryYoungerSpec) false (w.forCall tape i).memory i.args)∧({}:Assume).holds Tryz.checked.prog (lone (Frame.enter Tryz.checked.prog 3 i.args .normal) [] (w.forCall tape i)):=
 ChangeSpec.witness_shaped (enc:=enc) (C:=Tryz.checked) (os:=os) (X:=fun w _=>laidMetH Tryz.prog laidL w) false (doorW os) args0 8 (World.laidAll_os _ _ _) (door_shaped os) (door_ok os) (door_pre enc os) (door_sized enc os) (door_met os _)
def planL:List Leaf:=[.int .u8,.int .i8,.int .i8,.bool,.slice 26,.int .i8,.int .i8,.int .i8,.int .i8,.int .i8,.int .i8,.bool,.int .u8]
theorem plan_leaves:leavesOf Tryz.prog 6 33=some planL:=by kernel_rfl
theorem deed_leaves:leavesOf Tryz.prog 3 116=some deedL:=by kernel_rfl
theorem deeds_und:Tryz.prog.underlying 26=some (.slice 116):=by kernel_rfl
theorem deed_cells:Tryz.prog.cellsOf 116=12:=by kernel_rfl
theorem laid_out:laidOutB Tryz.prog=true:=j2
theorem readable:([33].all fun t=>Tryz.prog.readableRec t&&decide (t<Tryz.prog.types.size))=true:=by kernel_rfl
theorem plan_open {H:Type} {enc:TypeId × Value→H} {W:World} {cs:List Value} (h:LeafAll enc Tryz.prog W 0 (fun _=>true) true planL cs):∃ (k s0 s1:Int) (hf half:Bool) (ds:Value) (hv:Nat→Int) (dn:Int) (dds:List (Nat→Int)),
  cs=[.int .u8 k,.int .i8 s0,.int .i8 s1,.bool hf,ds,.int .i8 (hv 0),.int .i8 (hv 1),.int .i8 (hv 2),.int .i8 (hv 3),.int .i8 (hv 4),.int .i8 (hv 5),.bool half,.int .u8 dn]∧(0≤k∧k≤255)∧(-128≤s0∧s0≤127)∧(-128≤s1∧s1≤127)∧HeightsOk hv ∧
   (0≤dn∧dn≤255)∧DeedsRaw ⟨W.heap,fun _=>True⟩ ds dds ∧ ∀ dd∈dds,DeedOk dd:=by
 obtain⟨z0,r0,rfl,h0,q0⟩:=h.int_inv
 obtain⟨z1,r1,rfl,h1,q1⟩:=q0.int_inv
 obtain⟨z2,r2,rfl,h2,q2⟩:=q1.int_inv
 obtain⟨b3,r3,rfl,q3⟩:=q2.bool_inv
 obtain⟨c4,r4,rfl,⟨fl,x,h4⟩,q4⟩:=q3.slice_inv
 obtain⟨z5,r5,rfl,h5,q5⟩:=q4.int_inv
 obtain⟨z6,r6,rfl,h6,q6⟩:=q5.int_inv
 obtain⟨z7,r7,rfl,h7,q7⟩:=q6.int_inv
 obtain⟨z8,r8,rfl,h8,q8⟩:=q7.int_inv
 obtain⟨z9,r9,rfl,h9,q9⟩:=q8.int_inv
 obtain⟨z10,r10,rfl,h10,q10⟩:=q9.int_inv
 obtain⟨b11,r11,rfl,q11⟩:=q10.bool_inv
 obtain⟨z12,r12,rfl,h12,q12⟩:=q11.int_inv
 obtain rfl:=q12.nil_inv
 obtain⟨dds,g1,g2⟩:=deeds_of deeds_und deed_cells deed_leaves h4
 have b5:=bounds_i8 h5
 have b6:=bounds_i8 h6
 have b7:=bounds_i8 h7
 have b8:=bounds_i8 h8
 have b9:=bounds_i8 h9
 have b10:=bounds_i8 h10
 refine⟨z0,z1,z2,b3,b11,c4,fun k=>(([z5,z6,z7,z8,z9,z10]:List Int)[k]?).getD 0,z12,dds,rfl,bounds_u8 h0,bounds_i8 h1,bounds_i8 h2,⟨fun k hk => ?_⟩,bounds_u8 h12,g1,g2⟩
 have:k=0∨k=1∨k=2∨k=3∨k=4∨k=5:=by omega
 rcases this with rfl | rfl | rfl | rfl | rfl | rfl <;> simpa
set_option maxRecDepth 100000 in
set_option maxHeartbeats 4000000 in
theorem lifted (os:Os) (started:os.Started) (H:Type) (enc:TypeId × Value→H) :
  ReturnsInHanded {} Tryz.checked os 3 .any (fun w args=>(Rows.queryYoungerSpec.pre enc Tryz.prog Tryz.f3 [] false w args∧laidMetH Tryz.prog laidL w)∧sizedMet enc Tryz.prog Tryz.f3 (OpenSpec.ofChange Rows.queryYoungerSpec) false w args)
   (Rows.queryYoungerSpec.post enc Tryz.prog Tryz.f3 false true false false):=by
 refine returnsInHanded_of_change_and (C:=Tryz.checked) (X:=fun w _=>laidMetH Tryz.prog laidL w) x_ok own started no_init Tryz.func3 (wit enc os) ?_
 intro W base args ds gs before hval0 hW _ _ hL _
 have hval:∀ (j:Nat) t v,Tryz.f3.params[j]? = some t→args[j]? = some v→Value.okWide Tryz.prog W .any base t v:=hval0
 have hW':=hW
 obtain⟨p,q,hA0,hV,rfl,hfz,hnd⟩:=hW
 have hA:DataW.TrodAll enc Tryz.prog W 0 (fun _=>true) true Tryz.f3.params.toList args.toList ds p:=hA0
 rw [Tryz.params3] at hA hval
 have hA1:=hA
 obtain⟨v0,d0,rfl,rfl,⟨f0,h0⟩⟩:=trodAll_one hA
 obtain⟨rfl,rfl⟩:=trodVars_none hV
 obtain⟨⟨c0⟩,rfl,_⟩:=okWide_struct Tryz.underlying33 (hval 0 _ v0 rfl rfl)
 obtain⟨k,s0,s1,hf,half,dsv,hv,dn,dds,rfl,hk,hs0,hs1,hh,hdn,hds,hdd⟩:=plan_open (leavesOf_ok plan_leaves h0)
 have ht:=tab_of hL
 have law:=law_true (good_of ht) hk hs0 hs1 (hf:=hf) (half:=half) hh hds hdd hdn
 refine Calls.mono law ?_
 rintro en W' ⟨rfl,hgr,hheap⟩
 refine⟨_,rfl,_,_,_,[],p,[],hW',?_,?_,rfl,keptBut_of hgr.os hgr.output hheap,fun h=>by cases h⟩
 ·exact trodAll_mk1 (shut_bool Tryz.underlying4 true)
 ·have hr:∀ t∈[33],Tryz.prog.readableRec t=true∧t<Tryz.prog.types.size:=fun t ht=>by
   have:=List.all_eq_true.1 readable t ht
   simpa using this
  have hargs:=trodAll_again laid_out hheap (sp:=fun b=>decide (b<W.heap.size)) hr hA1 (fun x hx=>by simpa using DataW.TrodAll.lt hA1 x hx)
  rw [Tryz.params3]
  exact hargs
end Go.Proofs.YtkjinnjopoehhaaGreatDoor
