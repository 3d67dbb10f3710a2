/-
  klippelaw53.QueryYounger at any plan: true.
-/
import Derived.Test.YtkjinnjopoehhaaGreatDoorTailY
import Derived.Test.YtkjinnjopoehhaaGreatDoorModQ
import Derived.Test.YtkjinnjopoehhaaGreatDoorAllG
import Derived.Test.YtkjinnjopoehhaaGreatDoorAllP
set_option linter.unusedSectionVars false
set_option linter.unusedVariables false
set_option linter.unusedSimpArgs false
namespace Go.Proofs.YtkjinnjopoehhaaGreatDoor
open Go.RowKit Go Ev
section
variable {M:Mem} {k s0 s1:Int} {hf half:Bool} {ds:Value} {hv:Nat→Int} {dn:Int} {w:World} (hw:M.On w) (hk:∀ w,M.On w→Calls Tryz.prog 5 #[] w (QuietP (.bool true) w))
include hw hk
set_option maxHeartbeats 1000000 in
set_option maxRecDepth 4000 in
theorem many_wpY (hfit:∀ w,Calls Tryz.prog 6 #[planQ k s0 s1 hf half ds hv dn] w (QuietP (.bool false) w)) (rest:Code) :
  Code.wp Tryz.prog (headY1.seq (headY2.seq (headY3.seq rest))) (bodyPost Tryz.prog Tryz.f3 (LawY w)) { tmps := #[.agg #[.int .u8 k,.int .i8 s0,.int .i8 s1,.bool hf,ds,.int .i8 (hv 0),.int .i8 (hv 1),.int .i8 (hv 2),.int .i8 (hv 3),.int .i8 (hv 4),.int .i8 (hv 5),.bool half,.int .u8 dn]]++Array.replicate (68-1) undef,defers:=[] } w:=by
 have W0:=Lib.hid (Went.refl hw); clear hw
 have K:=Lib.hid hk; clear hk
 have F:=Lib.hid hfit; clear hfit
 unfold planQ at F
 simp only [headY1,headY2,headY3,bodyY,syA,syB,Tryz.f3,Option.getD_some,List.size_toArray,List.length_cons,List.length_nil,Nat.reduceAdd,Nat.reduceSub,Array.replicate_succ,Array.replicate_zero,List.push_toArray,List.append_toArray,List.nil_append,List.cons_append]
 go_wp2_with fail
 refine Calls.mono (K.out _ (W0.out.alloc _).on) ?_
 rintro e w1 ⟨rfl,hgr,hsm⟩
 have W1:=Lib.hid ((W0.out.alloc _).quiet hgr hsm)
 have HB:=Lib.hid (quiet_old hsm (new_alloc _ _))
 clear hgr hsm
 go_wp2_with (refine wl_load (t:=33) rfl rfl rfl (plan_load rfl HB.out) ?_)
 refine Calls.mono (F.out _) ?_
 rintro e w2 ⟨rfl,hgr,hsm⟩
 have W2:=Lib.hid (W1.out.quiet hgr hsm)
 clear hgr hsm
 go_wp2_with fail
 refine Calls.mono (K.out _ W2.out.on) ?_
 rintro e w3 ⟨rfl,hgr,hsm⟩
 have W3:=Lib.hid (W2.out.quiet hgr hsm)
 clear hgr hsm
 go_wp2_with fail
 go_ret
 exact⟨rfl,W3.out.grew,W3.out.old⟩
end
section
variable {M:Mem} {k s0 s1:Int} {hf half:Bool} {ds:Value} {hv:Nat→Int} {dn:Int} {w:World} (hw:M.On w) (hk:∀ w,M.On w→Calls Tryz.prog 5 #[] w (QuietP (.bool true) w))
include hw hk
set_option maxHeartbeats 1000000 in
set_option maxRecDepth 4000 in
theorem few_wpY (hfit:∀ w,Calls Tryz.prog 6 #[planQ k s0 s1 hf half ds hv dn] w (QuietP (.bool true) w)) {np nt:Nat} {PQ:Nat→Nat→Nat→Nat→Value→Value→ByteArray→Mem→Prop}
  (hm:∀ w,M.On w→Calls Tryz.prog 7 #[planQ k s0 s1 hf half ds hv dn] w (RetM M w fun y M' => ∃ b0 c0 b1 c1 sva svn svc tva tvn tvc g0,y = .agg #[.slice (some ⟨b0,0,none⟩) np c0,.slice (some ⟨b1,0,none⟩) nt c1,.string ⟨#[98,97,115,101]⟩,.slice sva svn svc,.slice tva tvn tvc,.string g0]∧PQ b0 c0 b1 c1 (.slice sva svn svc) (.slice tva tvn tvc) g0 M'))
  {QQ:Exit→Act→World→Prop} {rest:Code} (hQ:∀ (M':Mem) (b0 c0 b1 c1:Nat) (sva:Option Addr) (svn svc:Nat) (tva:Option Addr) (tvn tvc:Nat) (g0:ByteArray) (p7:Nat) (ac:Act) (w':World),Went M w M' w'→ac.tmps.size=68→ac.tmps[3]? = some (.pointer (some ⟨p7,0,none⟩))→ac.defers=[] →
   w'.heap[p7]? = some (.cells #[.slice (some ⟨b0,0,none⟩) np c0,.slice (some ⟨b1,0,none⟩) nt c1,.string ⟨#[98,97,115,101]⟩,.slice sva svn svc,.slice tva tvn tvc,.string g0] 47 (0,0)) → ¬ (p7<M'.heap.size∧M'.frz p7)→w.heap.size≤p7 →
   PQ b0 c0 b1 c1 (.slice sva svn svc) (.slice tva tvn tvc) g0 M'→rest.wp Tryz.prog QQ ac w') :
  Code.wp Tryz.prog (headY1.seq (headY2.seq (headY3.seq rest))) QQ { tmps := #[.agg #[.int .u8 k,.int .i8 s0,.int .i8 s1,.bool hf,ds,.int .i8 (hv 0),.int .i8 (hv 1),.int .i8 (hv 2),.int .i8 (hv 3),.int .i8 (hv 4),.int .i8 (hv 5),.bool half,.int .u8 dn]]++Array.replicate (68-1) undef,defers:=[] } w:=by
 have HM:=Lib.hid hm; clear hm
 have HQ:=Lib.hid hQ; clear hQ
 have W0:=Lib.hid (Went.refl hw); clear hw
 have K:=Lib.hid hk; clear hk
 have F:=Lib.hid hfit; clear hfit
 unfold planQ at F HM
 simp only [headY1,headY2,headY3,bodyY,syA,syB,Tryz.f3,Option.getD_some,List.size_toArray,List.length_cons,List.length_nil,Nat.reduceAdd,Nat.reduceSub,Array.replicate_succ,Array.replicate_zero,List.push_toArray,List.append_toArray,List.nil_append,List.cons_append]
 go_wp2_with fail
 refine Calls.mono (K.out _ (W0.out.alloc _).on) ?_
 rintro e w1 ⟨rfl,hgr,hsm⟩
 have W1:=Lib.hid ((W0.out.alloc _).quiet hgr hsm)
 have hb:=quiet_old hsm (new_alloc _ _)
 have HB:=Lib.hid hb; clear hb hgr hsm
 go_wp2_with (refine wl_load (t:=33) rfl rfl rfl (plan_load rfl HB.out) ?_)
 refine Calls.mono (F.out _) ?_
 rintro e w2 ⟨rfl,hgr,hsm⟩
 have W2:=Lib.hid (W1.out.quiet hgr hsm)
 have HB2:=Lib.hid (quiet_old hsm HB.out)
 clear hgr hsm
 go_wp2_with (refine wl_load (t:=33) rfl rfl rfl (plan_load rfl HB2.out) ?_)
 refine Calls.mono (HM.out _ W2.out.on) ?_
 rintro e w3 ⟨y,M1,rfl,hgr,hsm,hh,hle,hz,b0,d0,b1,d1,sva,svn,svc,tva,tvn,tvc,g0,rfl,hpq⟩
 have W3:=Lib.hid (W2.out.ret hgr hsm hh hle hz)
 clear hgr hsm hh hz hle
 have HPQ:=Lib.hid hpq; clear hpq
 go_wp2_with fail
 exact HQ.out M1 b0 d0 b1 d1 sva svn svc tva tvn tvc g0 w3.heap.size _ _ (W3.out.alloc _) rfl rfl rfl (new_alloc _ _) (W3.out.own (Nat.le_refl _)) W3.out.lt HPQ.out
end
end Go.Proofs.YtkjinnjopoehhaaGreatDoor
namespace Go.Proofs.YtkjinnjopoehhaaGreatDoor
open Go Ev Klp
theorem body_eqY:Tryz.f3.body=some (headY1.seq (headY2.seq (headY3.seq restY))):=rfl
theorem pair_zero {M:Mem} (hg:Good M) {np:Nat} (hn:np∈[3,4,5,6]) {z:Nat→Int} (hz:∀ i,i<6 → -38≤z i∧z i≤38) {m0 m1 bs sv tv:Value} (hm0:∃ a k,m0=Value.slice a np k) (o1:oneV m1) (o2:oneV bs) (o3:oneV sv) (hck:CallOk Tryz.prog M 52 [.agg #[m0,m1]] (.int .i64 0))
  (hhist:CallOk Tryz.prog M 27 [.agg #[m0,m1,bs,sv]] (.int .i64 0)) (ht:TerrRaw M np z tv) {fl:Int} (hfl : -60≤fl∧fl≤60) (hlow:∀ k,k<np→fl<z k):PairQ M [m0,m1,bs,sv,tv,qV fl 2] 0:=by
 have o0:oneV m0:=by obtain⟨_,_,rfl⟩:=hm0; trivial
 have otv:oneV tv:=by obtain⟨_,_,rfl,_⟩:=ht; trivial
 have hfield:=field_0 hg hn hz hm0 o1 hck ht.texts
 obtain⟨⟨hl,_⟩,hmin,he,hm⟩:=ends_at hg hn hz ht
 generalize lowE np z=l at *
 generalize hiE np z=h at *
 have hn6:np≤6:=by simp only [List.mem_cons,List.not_mem_nil,or_false] at hn; omega
 have hzl:=hz l (by omega)
 have hlt:=hlow l hl
 exact pair_floor hg o0 o1 o2 o3 otv hhist hfield (show oneV (qV (z h) 2) from trivial) hfl (by omega) he hm (above:=false) ⟨fun e=>absurd e (by decide),fun e=>by omega⟩
set_option maxHeartbeats 1000000 in
theorem law_true {W:World} (hg:Good ⟨W.heap,fun _=>True⟩) {k s0 s1:Int} (hk:0≤k∧k≤255) (hs0 : -128≤s0∧s0≤127) (hs1 : -128≤s1∧s1≤127) {hf half:Bool} {ds:Value} {hv:Nat→Int} (hh:HeightsOk hv) {dds:List (Nat→Int)}
  (hds:DeedsRaw ⟨W.heap,fun _=>True⟩ ds dds) (hdd:∀ dd∈dds,DeedOk dd) {dn:Int} (hdn:0≤dn∧dn≤255) :
  Calls Tryz.prog 3 #[planQ k s0 s1 hf half ds hv dn] W (LawY W):=by
 have hon:(⟨W.heap,fun _=>True⟩:Mem).On W:=Mem.On.self W _
 have hkn:=known_calls hg
 obtain⟨db,dcap,rfl,hcap,_⟩:=id hds
 have hfit:=fun w=>fitsQ_walk (k:=k) (s0:=s0) (s1:=s1) (hf:=hf) (half:=half) (b:=db) (n:=dds.length) (c:=dcap) (hv:=hv) (dn:=dn) w
 by_cases hn:dds.length≤2
 ·rw [decide_eq_true (by omega)] at hfit
  obtain⟨K,hK,eK⟩:=tmod_nat (z:=k) (n:=8) (by omega) hk.1
  obtain⟨t,ht⟩:=mesh_all hK hf
  obtain⟨dl,hdl⟩:=dealt ht.np hdd (by omega)
  have t8:∀ z:Int,-7≤z.tmod 8∧z.tmod 8≤7:=fun z=>tmod_rg (z:=z) (n:=8) (by omega)
  have hX:∀ m0 m1 M M',M.Le M'→t.X (s0.tmod 8) (s1.tmod 8) m0 m1 M→t.X (s0.tmod 8) (s1.tmod 8) m0 m1 M':=fun _ _ _ _ hle h=>MeshRaw.le hle h
  have h30:∀ w,(⟨W.heap,fun _=>True⟩:Mem).On w→Calls Tryz.prog 18 #[.agg #[.int .u8 k,.int .i8 s0,.int .i8 s1,.bool hf,.slice db dds.length dcap]] w (RetM ⟨W.heap,fun _=>True⟩ w (Post30N t.pts.length t.nt dl.length (t.X (s0.tmod 8) (s1.tmod 8)))):=fun w hw=>
   make30N hg hX hw (fun w hw=>ht.mesh hg hk hs0 hs1 eK hw) hdl.few hdl.idx hdl.shp hdl.hox hdl.len hdl.kin hds hdl.run
  have hnp:=good_mem ht.np
  have hdn6:0≤dn.tmod 6∧dn.tmod 6≤5:=tmod_rn (n:=6) (by omega) hdn.1
  have hl2:dl.length≤2:=by have:=hdl.len; omega
  let PQ:Nat→Nat→Nat→Nat→Value→Value→ByteArray→Mem→Prop:=fun b0 c0 b1 c1 sv tv g0 M'=>CallOk Tryz.prog M' 52 [.agg #[slV b0 t.pts.length c0,slV b1 t.nt c1]] (.int .i64 0)∧(∃ a c,sv=Value.slice a dl.length c) ∧
   HistR M' (slV b0 t.pts.length c0) (slV b1 t.nt c1) sv∧TerrRaw M' t.pts.length (zT half hv) tv ∧ ∃ fl:Int,(-60≤fl∧fl≤60) ∧ .string g0=qV fl 2 ∧ ∀ k,k<t.pts.length→fl<zT half hv k
  have hm:∀ w,(⟨W.heap,fun _=>True⟩:Mem).On w→Calls Tryz.prog 7 #[planQ k s0 s1 hf half (.slice db dds.length dcap) hv dn] w (RetM ⟨W.heap,fun _=>True⟩ w fun y M' => ∃ b0 c0 b1 c1 sva svn svc tva tvn tvc g0,
    y = .agg #[.slice (some ⟨b0,0,none⟩) t.pts.length c0,.slice (some ⟨b1,0,none⟩) t.nt c1,.string ⟨#[98,97,115,101]⟩,.slice sva svn svc,.slice tva tvn tvc,.string g0]∧PQ b0 c0 b1 c1 (.slice sva svn svc) (.slice tva tvn tvc) g0 M'):=fun w hw=>
   Calls.mono (make53 hg hnp hX (show oneV (.slice db dds.length dcap) from trivial) hh hdn hw h30) fun e w' h=>retM_mono (fun y M' h=>by
    obtain⟨b0,c0,b1,c1,sv,tv,l,rfl,⟨sva,svc,rfl⟩,h1,h2,h3,h4,h5,h6⟩:=h
    obtain⟨b2,c2,e2,h4'⟩:=id h4
    subst e2
    have hzl:=zT_bd (half:=half) (hv:=hv) l
    exact⟨b0,c0,b1,c1,sva,_,svc,_,_,_,_,rfl,h1,⟨_,_,rfl⟩,h3,h4,_,by omega,rfl,fun k hk=>by have:=h6 k hk; omega⟩) h
  have hz:∀ i,i<6 → -38≤zT half hv i∧zT half hv i≤38:=fun i _=>zT_bd i
  refine calls_of_wp Tryz.func3 body_eqY ?_
  refine few_wpY hon hkn hfit (PQ:=PQ) hm (QQ:=bodyPost Tryz.prog Tryz.f3 (LawY W)) ?_
  rintro M' b0 c0 b1 c1 sva svn svc tva tvn tvc g0 p3 ac w' hw' ts t3 hdf h3 z3 q3 ⟨hck,⟨sa,sc,esv⟩,hhist,hterr,fl,hfl,efl,hlow⟩
  have hg':=hg.le hw'.le
  have hp:=pair_zero hg' hnp hz (m0:=slV b0 t.pts.length c0) ⟨_,_,rfl⟩ (show oneV (slV b1 t.nt c1) from trivial) (show oneV (strB baseB) from trivial) (show oneV (.slice sva svn svc) from trivial) hck hhist.chk hterr hfl hlow
  rw [← efl] at hp
  obtain⟨evs,_,hr,hin⟩:=hhist.evs
  have hel:evs.length≤2:=by
   rcases hr with⟨he,_⟩ | ⟨_,b,c,rc,t',fr,rest,hsv,_⟩
   ·rw [he]; simp
   ·rw [esv] at hsv
    have:=(Value.slice.inj hsv).2.1
    omega
  exact tailY_run hg' (by exact trivial) (by exact trivial) (by exact trivial) (by exact trivial) hel (fun p hp=>by
   obtain⟨k,hk⟩:=List.mem_iff_getElem?.1 hp
   exact (hin k p hk).few) (fun k p hk=>(hin k p hk).raw) hr hhist.chk hp.2 hw'.on ts t3 hdf h3 z3 hw'.grew hw'.old q3
 ·rw [decide_eq_false (by omega)] at hfit
  refine calls_of_wp Tryz.func3 body_eqY ?_
  exact many_wpY hon hkn hfit _
end Go.Proofs.YtkjinnjopoehhaaGreatDoor
