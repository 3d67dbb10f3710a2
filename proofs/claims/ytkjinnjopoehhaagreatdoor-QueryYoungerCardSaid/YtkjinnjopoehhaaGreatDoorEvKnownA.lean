/-
  The closed call of the seat: its value, by the evaluator (made by a program).
-/
import Derived.Test.YtkjinnjopoehhaaGreatDoorEvTab
import Derived.Test.YtkjinnjopoehhaaGreatDoorShelf
import Derived.Test.YtkjinnjopoehhaaGreatDoorSymX
set_option linter.unusedSectionVars false
set_option linter.unusedVariables false
set_option linter.unusedSimpArgs false
namespace Go.Proofs.YtkjinnjopoehhaaGreatDoor
open Go.RowKit Go Ev
def joinRM (l:List (List UInt8)) (r:List UInt8):RM:=⟨[.slice 64 0 l.length (2*l.length),.str [32]],[.cells (l.map .str) 9 0 false],.str r,[],0⟩
theorem strsJ {E:Env}:∀ l:List (List UInt8),VRL E (l.map .str) (l.map fun b=>Value.string ⟨b.toArray⟩)
 | []=>rfl
 | x::l=>VRL.cons rfl (strsJ l)
theorem join_rm {w0:Base} (l:List (List UInt8)) (r:List UInt8) (hl:l.length≤100) (hr:Lib.join l [32]=r) (hlen:r.length≤1000):RmOk Tryz.prog w0 74 (joinRM l r):=by
 intro E w xs ho hx
 obtain⟨y0,r0,rfl,⟨i,hi,rfl⟩,y1,r1,rfl,hy1,hn⟩:=hx
 have e1:y1 = .string ⟨#[32]⟩:=hy1
 subst e1
 rw [show r1=[] from hn]
 have hg:(T.ofList .e 64 (joinRM l r).sub:T O).get 64=some (.cells (l.map .str) 9 0 false):=by
  rw [T.get_ofList]; rfl
 obtain⟨i',hi',hu,rc,fr,f1,f2,f3,zs,rest,hzs,hrc⟩:=ho.rel.obj _ _ hg
 rw [hi] at hi'; cases hi'
 have hz:zs=l.map fun b=>Value.string ⟨b.toArray⟩:=VRL.det _ _ _ hzs (strsJ l)
 subst hz
 have hc:capOf i 0 (2*l.length)=l.length:=by unfold capOf; rw [if_pos (by omega)]; omega
 have hd:((l.map fun b=>(⟨b.toArray⟩:ByteArray)).map fun b=>b.data.toList)=l:=by
  rw [List.map_map]
  conv=>rhs; rw [← List.map_id l]
  exact List.map_congr_left fun b _=>by simp
 have h:=Tryz.strings_Join i.blk 0 l.length (l.map fun b=>⟨b.toArray⟩) ⟨#[32]⟩ w (fun j x hj=>by
  have hj':l.length≤rc.size:=by rw [← Array.length_toList,hrc]; simp
  have hjl:j<l.length:=by
   have:=(List.getElem?_eq_some_iff.1 hj).1
   simpa using this
  rw [List.getElem?_map,List.getElem?_eq_getElem hjl,Option.map_some] at hj
  cases hj
  unfold World.cell?
  simp only [f1,Nat.zero_add]
  rw [← Array.getElem?_toList,hrc,List.getElem?_append_left (by simpa using hjl),List.getElem?_map,List.getElem?_eq_getElem hjl]; rfl)
  (Array.getElem?_eq_some_iff.1 f1).1 (by simp; omega) (by simp) (by rw [hd]; show (Lib.join l [32]).length≤_; rw [hr]; omega)
 rw [hd,List.length_map] at h
 rw [hc]
 refine Calls.mono h ?_
 rintro e w' ⟨rfl,hb⟩
 refine⟨_,rfl,E,_,?_,Step.quiet ho.rel ho.fresh ⟨hb.tape,hb.os,hb.output,hb.size⟩ hb.block,fun p hp=>by cases hp⟩
 show Value.string _ = .string ⟨r.toArray⟩
 rw [← hr]
def joins:List RM:=[joinRM [[48],[49,47,52],[98,97,115,101]] [48,32,49,47,52,32,98,97,115,101],joinRM [[49,47,52],[49,47,50],[114,111,99,107]] [49,47,52,32,49,47,50,32,114,111,99,107],
 joinRM [[49,47,50],[49],[98,97,115,101]] [49,47,50,32,49,32,98,97,115,101],joinRM [[100],[49]] [100,32,49]]
noncomputable def tbJ:Tab:={ tb0 with rm:=fun f=>cond (Nat.beq f 74) (some joins) none }
theorem tabOkJ:TabOk tbJ Tryz.prog:=⟨tabOk.fn,tabOk.und,tabOk.inf,tabOk.guard,tabOk.held⟩
theorem fnOkJ {w0:Base} (h:FnOk tb0 Tryz.prog w0):FnOk tbJ Tryz.prog w0:=by
 refine⟨h.mixed,fun E hE=>⟨(h.syms E hE).eqs,(h.syms E hE).eqi,(h.syms E hE).bin,(h.syms E hE).conv,(h.syms E hE).key,(h.syms E hE).len,(h.syms E hE).cut,(h.syms E hE).adr⟩,h.glob,h.ld,h.enter,h.ext,h.prim,fun f es hes => ?_⟩
 replace hes:cond (Nat.beq f 74) (some joins) none=some es:=hes
 cases hb:Nat.beq f 74 with
 | false=>rw [hb] at hes; cases hes
 | true=>
  rw [hb] at hes
  have hf:=nbeq_true hb
  subst hf
  cases hes
  intro e he
  simp only [joins,List.mem_cons,List.not_mem_nil,or_false] at he
  rcases he with rfl | rfl | rfl | rfl
  ·exact join_rm _ _ (by decide) rfl (by decide)
  ·exact join_rm _ _ (by decide) rfl (by decide)
  ·exact join_rm _ _ (by decide) rfl (by decide)
  ·exact join_rm _ _ (by decide) rfl (by decide)
end Go.Proofs.YtkjinnjopoehhaaGreatDoor
namespace Go.Proofs.YtkjinnjopoehhaaGreatDoor
open Go Ev Ab
set_option maxRecDepth 100000
def P31_1:List (List V × V):=[([d 48],g 0)]
def P32_1:List (List V × V):=[([d 48,d 48],g 0),([.str [49,47,52],.str [49,47,52]],g 0),([d 49,d 49],g 0),([d 50,d 50],g 0)]
def P37_1:List (List V × V):=[([g 0],d 48),([g 1],d 49),([g 2],d 50),([g 3],d 51),([g 4],d 52)]
def P38_1:List (List V × V):=[([.str [114,111,99,107]],.str [114,111,99,107]),([.str [98,97,115,101]],.str [98,97,115,101])]
def P53_1:List (List V × V):=[([.str [114,111,99,107]],.bool true)]
def P68_1:List (List V × V):=[([.str [45,49,50]],.tup [g (-12),g 1,.bool true]),([.str [45,49,54]],.tup [g (-16),g 1,.bool true]),([.str [45,49]],.tup [g (-1),g 1,.bool true]),([.str [45,50]],.tup [g (-2),g 1,.bool true]),([.str [45,51]],.tup [g (-3),g 1,.bool true]),([.str [45,52]],.tup [g (-4),g 1,.bool true]),([d 48],.tup [g 0,g 1,.bool true]),([.str [49,47,49,54]],.tup [g 1,g 16,.bool true]),([.str [49,47,50]],.tup [g 1,g 2,.bool true]),([.str [49,47,51]],.tup [g 1,g 3,.bool true]),([.str [49,47,52]],.tup [g 1,g 4,.bool true]),([.str [49,50]],.tup [g 12,g 1,.bool true]),([.str [49,54]],.tup [g 16,g 1,.bool true]),([d 49],.tup [g 1,g 1,.bool true]),([d 50],.tup [g 2,g 1,.bool true]),([.str [51,47,52]],.tup [g 3,g 4,.bool true]),([d 51],.tup [g 3,g 1,.bool true]),([d 52],.tup [g 4,g 1,.bool true])]
def P69_1:List (List V × V):=[([.str [45,49,54]],.tup [.str [45,49,54],d 49]),([.str [49,54]],.tup [.str [49,54],d 49])]
def P111_1:List (List V × V):=[([.agg [g 4,d 100,.nils,.nils,.nils,.str [],.str [],.str [],.str [],.str [],.str [],.str [],.str [],.str [],.str [],.nils,.str [],.str [],.str [],d 49,d 48,d 48,d 49,d 49,.str [114,111,99,107],g 0,g 0,g 0,g 0,.str [],.str [],.str []]],.agg [.fn 267 [] [],.fn 268 [] [],.fn 269 [] [],.fn 270 [] [],.fn 271 [] []])]
def P125_1:List (List V × V):=[([d 50,g 18],.tup [g 2,.bool true]),([d 51,g 18],.tup [g 3,.bool true]),([d 52,g 18],.tup [g 4,.bool true])]
def P150_1:List (List V × V):=[([d 48],.tup [g 0,.nili]),([d 49],.tup [g 1,.nili])]
def P154_1:List (List V × V):=[([.str [78,32,78,32,78],d 32],g 1),([.str [78,32,78],d 32],g 1),([.str [97,116,32,78,32,78],d 32],g 2)]
def P160_1:List (List V × V):=[([d 48,.str [45,49,54]],.str [49,54])]
def P171_1:List (List V × V):=[([.str [45,49]],g (-1)),([d 48],g 0),([.str [49,47,50]],g 1),([.str [49,50]],g 1),([.str [49,54]],g 1),([d 49],g 1),([d 50],g 1),([d 52],g 1)]
def P204_1:List (List V × V):=[([.str [45,52],d 48],d 48),([d 48,.str [45,51]],d 48),([d 48,.str [45,52]],d 48),([d 48,d 48],d 48),([d 48,d 49],d 48),([d 48,d 50],d 48),([d 48,d 51],d 48),([d 48,d 52],d 48),([.str [49,47,49,54],d 48],d 48),([.str [49,47,50],d 48],d 48),([.str [49,47,50],d 49],.str [49,47,50]),([.str [49,47,51],d 48],d 48),([.str [49,47,52],d 48],d 48),([d 49,d 48],d 48),([d 49,d 49],d 49),([d 49,d 50],d 50),([d 49,.str [51,47,50]],.str [51,47,50]),([d 49,d 51],d 51),([d 49,d 52],d 52),([d 52,d 48],d 48),([d 52,d 49],d 52)]
def P228_1:List (List V × V):=[([d 48,d 48],d 48),([d 48,.str [49,47,50]],.str [49,47,50]),([d 48,d 49],d 49),([d 48,d 50],d 50),([d 48,d 52],d 52),([.str [49,47,50],d 48],.str [49,47,50]),([.str [49,47,52],d 48],.str [49,47,52]),([d 49,d 48],d 49),([d 50,d 48],d 50),([.str [51,47,50],d 48],.str [51,47,50]),([d 51,d 48],d 51),([d 52,d 48],d 52)]
def P229_1:List (List V × V):=[([.str [45,49,50]],.str [49,50]),([d 48],d 48),([.str [49,50]],.str [45,49,50]),([.str [49,54]],.str [45,49,54]),([d 49],.str [45,49]),([d 50],.str [45,50]),([d 52],.str [45,52])]
def P269_1:List (List V × V):=[([.agg [g 4,d 100,.nils,.nils,.nils,.str [],.str [],.str [],.str [],.str [],.str [],.str [],.str [],.str [],.str [],.nils,.str [],.str [],.str [],d 49,d 48,d 48,d 49,d 49,.str [114,111,99,107],g 0,g 0,g 0,g 0,.str [],.str [],.str []]],g 2)]
def P282_1:List (List V × V):=[([d 49,d 45],.bool false),([d 50,d 45],.bool false),([d 51,d 45],.bool false),([d 52,d 45],.bool false)]
def P290_1:List (List V × V):=[([g 12,g 1],.str [49,50]),([g 16,g 1],.str [49,54])]
def P297_1:List (List V × V):=[([g 4],g 1)]
def P298_1:List (List V × V):=[([.int .u64 (3)],g 2),([.int .u64 (4)],g 3)]
def P299_1:List (List V × V):=[([.bool true],g 1)]
def P330_1:List (List V × V):=[([.str [45,49,54]],.str [49,54])]
def P331_1:List (List V × V):=[([.str [45,49],.str [49,54]],.str [45,49,47,49,54]),([d 49,.str [49,54]],.str [49,47,49,54])]
def P386_1:List (List V × V):=[([.agg [d 49,d 48,d 48]],.bool false)]
def P451_1:List (List V × V):=[([.nils],.nils)]
def P516_1:List (List V × V):=[([.agg [d 49,d 48,d 48,d 48,d 49,d 48,d 48,d 48,d 49,d 48,d 48,d 48]],.agg [d 49,d 48,d 48,d 48,d 49,d 48,d 48,d 48,d 49])]
def P518_1:List (List V × V):=[([.agg [d 48,d 48,d 48]],.agg [d 48,d 48,d 48])]
def kL1:Memo:=[(31,P31_1),(32,P32_1),(37,P37_1),(38,P38_1),(53,P53_1),(68,P68_1),(69,P69_1),(111,P111_1),(125,P125_1),(150,P150_1),(154,P154_1),(160,P160_1),(171,P171_1),(204,P204_1),(228,P228_1),(229,P229_1),(269,P269_1),(282,P282_1),(290,P290_1),(297,P297_1),(298,P298_1),(299,P299_1),(330,P330_1),(331,P331_1),(386,P386_1),(451,P451_1),(516,P516_1),(518,P518_1)]
def kT1:T (List (List V × V)):=(m (m (m (p (m (l P31_1) (q (l P111_1)))) (m (p (p (q (q (l P451_1))))) (p (m (q (p (l P331_1))) (p (b (l P299_1) P171_1)))))) (m (q (p (q (p (p (l P297_1)))))) (m (m (c (l P69_1) P37_1 (q (l P229_1))) (l P53_1)) (m (p (p (p (l P269_1)))) (q (l P125_1)))))) (m (m (p (p (a P32_1 (p (l P160_1))))) (m (p (m (b (p (p (l P516_1))) P68_1) (q (l P228_1)))) (p (p (q (l P204_1)))))) (m (m (p (m (p (q (l P386_1))) (p (p (l P290_1))))) (m (m (q (p (l P330_1))) (p (p (l P298_1)))) (p (p (b (l P282_1) P154_1))))) (p (m (b (p (p (p (l P518_1)))) P38_1) (p (p (l P150_1))))))))
theorem kT1_eq:kT1=mkMemo kL1:=by kernel_rfl
def N47_1:List RM:=[⟨[],[],s 70 0 11 22,[(70,C [.str [117,110,105,116,32,97,116,32,78,32,78,32,78],.fn 90 [] [],.nils,.str [111,117,116,99,114,111,112,32,97,116,32,78,32,78],.fn 91 [] [],s 64 0 1 2,.str [104,101,105,103,104,116,32,97,116,32,78,32,78],.fn 92 [] [],s 65 0 1 2,.str [100,101,112,116,104,32,111,102,32,85,32,97,116,32,78,32,78],.fn 93 [] [],s 66 0 1 2,.str [108,111,103,32,97,116,32,78,32,78],.fn 94 [] [],s 67 0 1 2,.str [99,114,111,115,115,105,110,103,115,32,102,114,111,109,32,78,32,78,32,78,32,116,111,32,78,32,78,32,78],.fn 95 [] [],.nils,.str [116,114,97,99,101,32,102,114,111,109,32,78,32,78,32,116,111,32,78,32,78],.fn 96 [] [],s 68 0 2 4,.str [118,111,108,117,109,101,32,111,102,32,85],.fn 97 [] [],.nils,.str [115,101,99,116,105,111,110,32,111,102,32,85,32,102,114,111,109,32,78,32,78,32,116,111,32,78,32,78],.fn 98 [] [],s 69 0 2 4,.str [121,111,117,110,103,101,114,32,85,32,116,104,97,110,32,85],.fn 99 [] [],.nils,.str [117,110,105,116,115],.fn 100 [] [],.nils] 126 0),(64,C [g 0] 3 0),(65,C [g 0] 3 0),(66,C [g 0] 3 0),(67,C [g 0] 3 0),(68,C [g 0,g 2] 3 0),(69,C [g 0,g 2] 3 0)],7⟩]
def N55_1:List RM:=[⟨[.agg [g 4,d 100,.nils,.nils,.nils,.str [],.str [],.str [],.str [],.str [],.str [],.str [],.str [],.str [],.str [],.nils,.str [],.str [],.str [],d 49,d 48,d 48,d 49,d 49,.str [114,111,99,107],g 0,g 0,g 0,g 0,.str [],.str [],.str []]],[],s 65 0 1 2,[(65,C [.str [114,111,99,107]] 9 0)],2⟩]
def N104_1:List RM:=[⟨[.agg [g 4,s 64 0 1 3,s 65 0 2 5],g 0],[C [.str [114,111,99,107]] 9 1,C [d 49,d 49] 45 1],.agg [d 49,d 49],[(64,C [.str [114,111,99,107]] 9 1),(65,C [d 49,d 49] 45 1)],2⟩,⟨[.agg [g 4,s 64 0 1 3,s 65 0 2 5],g 0],[C [.str [114,111,99,107]] 9 1,C [d 51,d 49] 45 1],.agg [d 51,d 49],[(64,C [.str [114,111,99,107]] 9 1),(65,C [d 51,d 49] 45 1)],2⟩,⟨[.agg [g 7,.nils,s 64 0 4 9],g 0],[C [d 48,d 49,d 52,d 49] 45 1],.agg [d 48,d 49],[(64,C [d 48,d 49,d 52,d 49] 45 1)],2⟩,⟨[.agg [g 7,.nils,s 64 0 4 9],g 2],[C [d 48,d 49,d 52,d 49] 45 1],.agg [d 52,d 49],[(64,C [d 48,d 49,d 52,d 49] 45 1)],2⟩]
def N114_1:List RM:=[⟨[s 64 0 2 5,.str [114,111,99,107]],[C [.str [98,97,115,101],.str [114,111,99,107]] 9 1],g 1,[(64,C [.str [98,97,115,101],.str [114,111,99,107]] 9 1)],0⟩]
def N176_1:List RM:=[⟨[.agg [s 64 0 4 9,s 65 0 2 4],g 0],[C [d 48,d 48,d 52,d 48,d 52,d 52,d 48,d 52] 158 2,C [g 0,g 1,g 2,g 0,g 2,g 3] 181 0],.agg [d 48,d 48,d 52,d 48,d 52,d 52],[(64,C [d 48,d 48,d 52,d 48,d 52,d 52,d 48,d 52] 158 2),(65,C [g 0,g 1,g 2,g 0,g 2,g 3] 181 0)],3⟩,⟨[.agg [s 64 0 4 9,s 65 0 2 4],g 1],[C [d 48,d 48,d 52,d 48,d 52,d 52,d 48,d 52] 158 2,C [g 0,g 1,g 2,g 0,g 2,g 3] 181 0],.agg [d 48,d 48,d 52,d 52,d 48,d 52],[(64,C [d 48,d 48,d 52,d 48,d 52,d 52,d 48,d 52] 158 2),(65,C [g 0,g 1,g 2,g 0,g 2,g 3] 181 0)],3⟩]
def N247_1:List RM:=[⟨[g 0,.ptr 64 0,.ptr 67 0,.ptr 69 0],[C [s 65 0 4 9,s 66 0 2 4] 39 0,C [d 48,d 48,d 52,d 48,d 52,d 52,d 48,d 52] 158 2,C [g 0,g 1,g 2,g 0,g 2,g 3] 181 0,C [s 68 0 4 9] 104 0,C [g 0,g 1,g 2,g 3] 3 1,C [g 4] 3 0],.agg [d 48,d 48],[(64,C [s 65 0 4 9,s 66 0 2 4] 39 0),(65,C [d 48,d 48,d 52,d 48,d 52,d 52,d 48,d 52] 158 2),(66,C [g 0,g 1,g 2,g 0,g 2,g 3] 181 0),(67,C [s 68 0 4 9] 104 0),(68,C [g 0,g 1,g 2,g 3] 3 1),(69,C [g 4] 3 0)],1⟩,⟨[g 1,.ptr 64 0,.ptr 67 0,.ptr 69 0],[C [s 65 0 4 9,s 66 0 2 4] 39 0,C [d 48,d 48,d 52,d 48,d 52,d 52,d 48,d 52] 158 2,C [g 0,g 1,g 2,g 0,g 2,g 3] 181 0,C [s 68 0 4 9] 104 0,C [g 0,g 1,g 2,g 3] 3 1,C [g 4] 3 0],.agg [d 52,d 48],[(64,C [s 65 0 4 9,s 66 0 2 4] 39 0),(65,C [d 48,d 48,d 52,d 48,d 52,d 52,d 48,d 52] 158 2),(66,C [g 0,g 1,g 2,g 0,g 2,g 3] 181 0),(67,C [s 68 0 4 9] 104 0),(68,C [g 0,g 1,g 2,g 3] 3 1),(69,C [g 4] 3 0)],1⟩,⟨[g 2,.ptr 64 0,.ptr 67 0,.ptr 69 0],[C [s 65 0 4 9,s 66 0 2 4] 39 0,C [d 48,d 48,d 52,d 48,d 52,d 52,d 48,d 52] 158 2,C [g 0,g 1,g 2,g 0,g 2,g 3] 181 0,C [s 68 0 4 9] 104 0,C [g 0,g 1,g 2,g 3] 3 1,C [g 4] 3 0],.agg [d 52,d 52],[(64,C [s 65 0 4 9,s 66 0 2 4] 39 0),(65,C [d 48,d 48,d 52,d 48,d 52,d 52,d 48,d 52] 158 2),(66,C [g 0,g 1,g 2,g 0,g 2,g 3] 181 0),(67,C [s 68 0 4 9] 104 0),(68,C [g 0,g 1,g 2,g 3] 3 1),(69,C [g 4] 3 0)],1⟩,⟨[g 3,.ptr 64 0,.ptr 67 0,.ptr 69 0],[C [s 65 0 4 9,s 66 0 2 4] 39 0,C [d 48,d 48,d 52,d 48,d 52,d 52,d 48,d 52] 158 2,C [g 0,g 1,g 2,g 0,g 2,g 3] 181 0,C [s 68 0 4 9] 104 0,C [g 0,g 1,g 2,g 3] 3 1,C [g 4] 3 0],.agg [d 48,d 52],[(64,C [s 65 0 4 9,s 66 0 2 4] 39 0),(65,C [d 48,d 48,d 52,d 48,d 52,d 52,d 48,d 52] 158 2),(66,C [g 0,g 1,g 2,g 0,g 2,g 3] 181 0),(67,C [s 68 0 4 9] 104 0),(68,C [g 0,g 1,g 2,g 3] 3 1),(69,C [g 4] 3 0)],1⟩,⟨[g 4,.ptr 64 0,.ptr 67 0,.ptr 69 0],[C [s 65 0 4 9,s 66 0 2 4] 39 0,C [d 48,d 48,d 52,d 48,d 52,d 52,d 48,d 52] 158 2,C [g 0,g 1,g 2,g 0,g 2,g 3] 181 0,C [s 68 0 4 9] 104 0,C [g 0,g 1,g 2,g 3] 3 1,C [g 4] 3 0],.agg [d 48,d 48],[(64,C [s 65 0 4 9,s 66 0 2 4] 39 0),(65,C [d 48,d 48,d 52,d 48,d 52,d 52,d 48,d 52] 158 2),(66,C [g 0,g 1,g 2,g 0,g 2,g 3] 181 0),(67,C [s 68 0 4 9] 104 0),(68,C [g 0,g 1,g 2,g 3] 3 1),(69,C [g 4] 3 0)],1⟩,⟨[g 5,.ptr 64 0,.ptr 67 0,.ptr 69 0],[C [s 65 0 4 9,s 66 0 2 4] 39 0,C [d 48,d 48,d 52,d 48,d 52,d 52,d 48,d 52] 158 2,C [g 0,g 1,g 2,g 0,g 2,g 3] 181 0,C [s 68 0 4 9] 104 0,C [g 0,g 1,g 2,g 3] 3 1,C [g 4] 3 0],.agg [d 52,d 48],[(64,C [s 65 0 4 9,s 66 0 2 4] 39 0),(65,C [d 48,d 48,d 52,d 48,d 52,d 52,d 48,d 52] 158 2),(66,C [g 0,g 1,g 2,g 0,g 2,g 3] 181 0),(67,C [s 68 0 4 9] 104 0),(68,C [g 0,g 1,g 2,g 3] 3 1),(69,C [g 4] 3 0)],1⟩]
def N398_1:List RM:=[⟨[s 64 0 2 4],[C [d 48,d 49] 45 0],s 64 0 2 4,[(64,C [d 48,d 49] 45 0)],0⟩]
def N451_1:List RM:=[⟨[s 64 0 1 3],[C [g 1] 3 1],s 66 0 1 3,[(66,C [g 1] 3 1),(64,C [g 1] 3 1)],2⟩,⟨[s 64 0 1 3],[C [g 2] 3 1],s 66 0 1 3,[(66,C [g 2] 3 1),(64,C [g 2] 3 1)],2⟩]
def kM1:Kept:=[(47,N47_1),(55,N55_1),(104,N104_1),(114,N114_1),(176,N176_1),(247,N247_1),(398,N398_1),(451,N451_1)]
def kU1:T (List RM):=(m (p (m (m (q (l N47_1)) (q (a N55_1 (q (l N247_1))))) (p (p (p (q (q (l N451_1)))))))) (m (p (m (q (q (p (l N176_1)))) (p (q (l N104_1))))) (m (p (q (q (l N114_1)))) (q (p (p (p (q (l N398_1)))))))))
theorem kU1_eq:kU1=mkKept kM1:=by kernel_rfl
theorem kP1:chk tbJ 10000 60 kL1=true:=by kernel_rfl
theorem kN1:chkRs tbJ 10000 60 kM1=true:=by kernel_rfl
noncomputable def kb1:Tab:=tbJ.over kT1 kU1
theorem kO1:TabOk kb1 Tryz.prog:=TabOk.over tabOkJ kT1 kU1
theorem kF1 {w0:Base} (hF:FnOk tb0 Tryz.prog w0):FnOk kb1 Tryz.prog w0:=FnOk.over tabOkJ (fnOkJ hF) kT1_eq kP1 kU1_eq kN1
def P32_2:List (List V × V):=[([d 48,.str [49,47,52]],g (-1)),([d 48,d 49],g (-1)),([d 48,d 50],g (-1)),([d 48,d 52],g (-1)),([.str [49,47,50],d 49],g (-1)),([.str [49,47,52],d 48],g 1),([.str [49,47,52],d 49],g (-1)),([d 49,d 48],g 1),([d 50,d 49],g 1),([d 52,d 48],g 1)]
def P37_2:List (List V × V):=[([g (-1)],.str [45,49])]
def P45_2:List (List V × V):=[([g 1],d 49)]
def P65_2:List (List V × V):=[([d 49],g 0),([d 50],g 0),([d 51],g 0),([d 52],g 0)]
def P122_2:List (List V × V):=[([d 49],g 1)]
def P123_2:List (List V × V):=[([d 49,d 45],d 49)]
def P125_2:List (List V × V):=[([d 49,g 18],.tup [g 1,.bool true])]
def P126_2:List (List V × V):=[([g 1],d 49)]
def P160_2:List (List V × V):=[([d 48,.str [45,52]],d 52),([d 48,d 48],d 48),([d 48,d 50],.str [45,50]),([d 48,d 52],.str [45,52]),([.str [49,50],d 48],.str [49,50]),([.str [49,54],d 48],.str [49,54]),([d 49,d 48],d 49),([d 50,d 48],d 50),([.str [51,47,50],d 49],.str [49,47,50]),([d 51,d 48],d 51),([d 52,d 48],d 52)]
def P204_2:List (List V × V):=[([.str [45,52],.str [45,51]],.str [49,50]),([.str [45,52],.str [45,52]],.str [49,54]),([.str [49,47,51],.str [51,47,52]],.str [49,47,52]),([.str [49,47,52],d 52],d 49),([d 52,d 52],.str [49,54])]
def P228_2:List (List V × V):=[([.str [49,47,52],.str [49,47,52]],.str [49,47,50])]
def P249_2:List (List V × V):=[([d 49,.str [49,54]],.tup [.str [49,47,49,54],g 0])]
def P290_2:List (List V × V):=[([g (-12),g 1],.str [45,49,50]),([g (-16),g 1],.str [45,49,54]),([g (-3),g 1],.str [45,51]),([g (-4),g 1],.str [45,52]),([g 0,g 1],d 48),([g 1,g 1],d 49),([g 16,g 16],d 49),([g 2,g 1],d 50),([g 3,g 1],d 51),([g 4,g 1],d 52),([g 4,g 16],.str [49,47,52])]
def kL2:Memo:=[(32,P32_2),(37,P37_2),(45,P45_2),(65,P65_2),(122,P122_2),(123,P123_2),(125,P125_2),(126,P126_2),(160,P160_2),(204,P204_2),(228,P228_2),(249,P249_2),(290,P290_2)]
def kT2:T (List (List V × V)):=(m (m (q (q (q (q (l P123_2))))) (m (m (p (p (l P65_2))) (q (q (q (l P249_2))))) (m (p (l P37_2)) (m (l P45_2) (q (l P125_2)))))) (m (m (p (p (a P32_2 (p (l P160_2))))) (m (p (q (q (l P228_2)))) (p (p (q (l P204_2)))))) (m (m (p (q (p (p (l P290_2))))) (q (q (l P122_2)))) (q (q (q (l P126_2)))))))
theorem kT2_eq:kT2=mkMemo kL2:=by kernel_rfl
def N46_2:List RM:=[⟨[.str [100,101,112,116,104,32,111,102,32,85,32,97,116,32,78,32,78],d 32],[],s 64 0 6 12,[(64,C [.str [100,101,112,116,104],.str [111,102],d 85,.str [97,116],d 78,d 78] 9 0)],1⟩,⟨[.str [104,101,105,103,104,116,32,97,116,32,78,32,78],d 32],[],s 64 0 4 8,[(64,C [.str [104,101,105,103,104,116],.str [97,116],d 78,d 78] 9 0)],1⟩,⟨[.str [111,117,116,99,114,111,112,32,97,116,32,78,32,78],d 32],[],s 64 0 4 8,[(64,C [.str [111,117,116,99,114,111,112],.str [97,116],d 78,d 78] 9 0)],1⟩,⟨[.str [116,114,97,99,101,32,102,114,111,109,32,78,32,78,32,116,111,32,78,32,78],d 32],[],s 64 0 7 14,[(64,C [.str [116,114,97,99,101],.str [102,114,111,109],d 78,d 78,.str [116,111],d 78,d 78] 9 0)],1⟩,⟨[.str [117,110,105,116,32,97,116,32,78,32,78,32,78],d 32],[],s 64 0 5 10,[(64,C [.str [117,110,105,116],.str [97,116],d 78,d 78,d 78] 9 0)],1⟩]
def N169_2:List RM:=[⟨[.agg [s 64 0 4 9,s 65 0 2 4,.str [98,97,115,101],s 66 0 1 2]],[C [d 48,d 48,d 52,d 48,d 52,d 52,d 48,d 52] 158 2,C [g 0,g 1,g 2,g 0,g 2,g 3] 181 0,C [g 4,d 100,.nils,.nils,.nils,.str [],.str [],.str [],.str [],.str [],.str [],.str [],.str [],.str [],.str [],.nils,.str [],.str [],.str [],d 49,d 48,d 48,d 49,d 49,.str [114,111,99,107],g 0,g 0,g 0,g 0,.str [],.str [],.str []] 95 0],s 72 0 2 5,[(72,C [.str [98,97,115,101],.str [114,111,99,107]] 9 1),(64,C [d 48,d 48,d 52,d 48,d 52,d 52,d 48,d 52] 158 2),(65,C [g 0,g 1,g 2,g 0,g 2,g 3] 181 0),(66,C [g 4,d 100,.nils,.nils,.nils,.str [],.str [],.str [],.str [],.str [],.str [],.str [],.str [],.str [],.str [],.nils,.str [],.str [],.str [],d 49,d 48,d 48,d 49,d 49,.str [114,111,99,107],g 0,g 0,g 0,g 0,.str [],.str [],.str []] 95 0)],6⟩]
def N289_2:List RM:=[⟨[s 64 0 3 6],[C [d 48,d 48,d 48] 45 0],d 48,[(64,C [d 48,d 48,d 48] 45 0)],0⟩,⟨[s 64 0 3 6],[C [d 48,d 48,d 50] 45 0],d 50,[(64,C [d 48,d 48,d 50] 45 0)],0⟩,⟨[s 64 0 3 6],[C [d 48,d 49,d 48] 45 0],d 49,[(64,C [d 48,d 49,d 48] 45 0)],0⟩,⟨[s 64 0 3 6],[C [d 49,d 48,d 48] 45 0],d 49,[(64,C [d 49,d 48,d 48] 45 0)],0⟩,⟨[s 64 0 3 6],[C [d 50,d 48,d 48] 45 0],d 50,[(64,C [d 50,d 48,d 48] 45 0)],0⟩,⟨[s 64 0 3 6],[C [.str [51,47,50],d 48,d 48] 45 0],.str [51,47,50],[(64,C [.str [51,47,50],d 48,d 48] 45 0)],0⟩,⟨[s 64 0 3 6],[C [d 51,d 48,d 48] 45 0],d 51,[(64,C [d 51,d 48,d 48] 45 0)],0⟩,⟨[s 64 0 3 6],[C [d 52,d 48,d 48] 45 0],d 52,[(64,C [d 52,d 48,d 48] 45 0)],0⟩]
def kM2:Kept:=[(46,N46_2),(169,N169_2),(289,N289_2)]
def kU2:T (List RM):=(m (q (p (m (p (q (p (p (l N289_2))))) (p (q (p (l N169_2))))))) (q (q (q (p (l N46_2))))))
theorem kU2_eq:kU2=mkKept kM2:=by kernel_rfl
theorem kP2:chk kb1 10000 60 kL2=true:=by kernel_rfl
theorem kN2:chkRs kb1 10000 60 kM2=true:=by kernel_rfl
noncomputable def kb2:Tab:=kb1.over kT2 kU2
theorem kO2:TabOk kb2 Tryz.prog:=TabOk.over kO1 kT2 kU2
theorem kF2 {w0:Base} (hF:FnOk tb0 Tryz.prog w0):FnOk kb2 Tryz.prog w0:=FnOk.over kO1 (kF1 hF) kT2_eq kP2 kU2_eq kN2
def P22_3:List (List V × V):=[([g 0,g 1],d 48)]
def P31_3:List (List V × V):=[([.str [49,47,52]],g 0),([d 49],g 0),([d 50],g 0),([d 51],g 0),([d 52],g 0)]
def P66_3:List (List V × V):=[([d 50,d 49],g 1)]
def P107_3:List (List V × V):=[([.agg [d 48,d 48],.agg [d 52,d 48],.agg [d 52,d 52]],g 1)]
def P139_3:List (List V × V):=[([g 0,g 1],.tup [d 48,g 0]),([g 4,g 1],.tup [d 52,g 0])]
def P160_3:List (List V × V):=[([.str [49,50],.str [49,50]],d 48),([d 49,d 49],d 48),([d 49,d 52],.str [45,51]),([d 51,d 49],d 50),([d 51,d 50],d 49),([d 51,d 51],d 48),([d 52,d 49],d 51),([d 52,d 50],d 50),([d 52,d 52],d 48)]
def P172_3:List (List V × V):=[([.agg [d 48,d 48],.agg [d 52,d 48],.agg [d 48,d 49]],d 52),([.agg [d 48,d 48],.agg [d 52,d 48],.agg [d 52,d 49]],d 52),([.agg [d 48,d 48],.agg [d 52,d 52],.agg [d 48,d 49]],d 52),([.agg [d 48,d 48],.agg [d 52,d 52],.agg [d 52,d 49]],.str [45,49,50])]
def P204_3:List (List V × V):=[([.str [45,52],d 52],.str [45,49,54]),([d 52,.str [45,52]],.str [45,49,54])]
def P228_3:List (List V × V):=[([d 49,d 49],d 50),([d 50,.str [45,49]],d 49),([d 50,.str [45,50]],d 48)]
def P290_3:List (List V × V):=[([g (-1),g 1],.str [45,49])]
def P330_3:List (List V × V):=[([d 49],.str [45,49])]
def P392_3:List (List V × V):=[([d 48,d 49,d 48],d 48),([d 48,d 49,.str [49,47,51]],.str [49,47,51]),([d 48,d 49,d 49],d 49),([d 50,d 48,d 48],d 50)]
def kL3:Memo:=[(22,P22_3),(31,P31_3),(66,P66_3),(107,P107_3),(139,P139_3),(160,P160_3),(172,P172_3),(204,P204_3),(228,P228_3),(290,P290_3),(330,P330_3),(392,P392_3)]
def kT3:T (List (List V × V)):=(m (p (m (p (p (l P31_3))) (q (p (m (p (l P139_3)) (l P107_3)))))) (m (m (m (p (q (p (l P160_3)))) (p (p (p (q (l P392_3)))))) (m (p (q (q (l P228_3)))) (p (m (q (l P204_3)) (p (l P172_3)))))) (m (m (p (m (l P66_3) (p (p (l P290_3))))) (p (p (q (p (l P330_3)))))) (p (l P22_3)))))
theorem kT3_eq:kT3=mkMemo kL3:=by kernel_rfl
def N73_3:List RM:=[⟨[.agg [s 64 0 4 9,s 65 0 2 4,.str [98,97,115,101],s 66 0 1 2],.agg [.str [51,47,50],d 48,d 48]],[C [d 48,d 48,d 52,d 48,d 52,d 52,d 48,d 52] 158 2,C [g 0,g 1,g 2,g 0,g 2,g 3] 181 0,C [g 4,d 100,.nils,.nils,.nils,.str [],.str [],.str [],.str [],.str [],.str [],.str [],.str [],.str [],.str [],.nils,.str [],.str [],.str [],d 49,d 48,d 48,d 49,d 49,.str [114,111,99,107],g 0,g 0,g 0,g 0,.str [],.str [],.str []] 95 0],.agg [.str [114,111,99,107],s 82 0 1 3,g 0,.str [51,47,50],d 48,d 48],[(82,C [g 1] 3 1),(64,C [d 48,d 48,d 52,d 48,d 52,d 52,d 48,d 52] 158 2),(65,C [g 0,g 1,g 2,g 0,g 2,g 3] 181 0),(66,C [g 4,d 100,.nils,.nils,.nils,.str [],.str [],.str [],.str [],.str [],.str [],.str [],.str [],.str [],.str [],.nils,.str [],.str [],.str [],d 49,d 48,d 48,d 49,d 49,.str [114,111,99,107],g 0,g 0,g 0,g 0,.str [],.str [],.str []] 95 0)],17⟩]
def N101_3:List RM:=[⟨[.agg [.str [100,101,112,116,104,32,111,102,32,85,32,97,116,32,78,32,78],.fn 93 [] [],s 64 0 1 2],d 78],[C [g 0] 3 0],g 2,[(64,C [g 0] 3 0)],2⟩,⟨[.agg [.str [100,101,112,116,104,32,111,102,32,85,32,97,116,32,78,32,78],.fn 93 [] [],s 64 0 1 2],d 85],[C [g 0] 3 0],g 1,[(64,C [g 0] 3 0)],2⟩]
def N248_3:List RM:=[⟨[g 3,.ptr 64 0],[C [.fn 247 [] [.ptr 65 0,.ptr 68 0,.ptr 70 0]] 367 0,C [s 66 0 4 9,s 67 0 2 4] 39 0,C [d 48,d 48,d 52,d 48,d 52,d 52,d 48,d 52] 158 2,C [g 0,g 1,g 2,g 0,g 2,g 3] 181 0,C [s 69 0 4 9] 104 0,C [g 0,g 1,g 2,g 3] 3 1,C [g 4] 3 0],.bool false,[(64,C [.fn 247 [] [.ptr 65 0,.ptr 68 0,.ptr 70 0]] 367 0),(65,C [s 66 0 4 9,s 67 0 2 4] 39 0),(66,C [d 48,d 48,d 52,d 48,d 52,d 52,d 48,d 52] 158 2),(67,C [g 0,g 1,g 2,g 0,g 2,g 3] 181 0),(68,C [s 69 0 4 9] 104 0),(69,C [g 0,g 1,g 2,g 3] 3 1),(70,C [g 4] 3 0)],2⟩]
def N397_3:List RM:=[⟨[s 64 0 2 4,.fn 32 [] []],[C [d 48,d 49] 45 0],.tup [],[(64,C [d 48,d 49] 45 0)],0⟩]
def kM3:Kept:=[(73,N73_3),(101,N101_3),(248,N248_3),(397,N397_3)]
def kU3:T (List RM):=(m (q (m (q (p (p (l N73_3)))) (m (p (q (l N101_3))) (p (p (p (q (l N397_3)))))))) (p (p (q (q (q (q (l N248_3))))))))
theorem kU3_eq:kU3=mkKept kM3:=by kernel_rfl
theorem kP3:chk kb2 10000 60 kL3=true:=by kernel_rfl
theorem kN3:chkRs kb2 10000 60 kM3=true:=by kernel_rfl
noncomputable def kb3:Tab:=kb2.over kT3 kU3
theorem kO3:TabOk kb3 Tryz.prog:=TabOk.over kO2 kT3 kU3
theorem kF3 {w0:Base} (hF:FnOk tb0 Tryz.prog w0):FnOk kb3 Tryz.prog w0:=FnOk.over kO2 (kF2 hF) kT3_eq kP3 kU3_eq kN3
def P31_4:List (List V × V):=[([.str [49,47,50]],g 0),([.str [51,47,50]],g 0)]
def P34_4:List (List V × V):=[([.agg [d 48,d 49,d 50]],g 0),([.agg [d 49,d 49,d 50]],g 0),([.agg [d 50,d 49,d 50]],g 0),([.agg [d 51,d 49,d 48]],g 0),([.agg [d 51,d 49,d 50]],g 0),([.agg [d 52,d 49,d 50]],g 0)]
def P106_4:List (List V × V):=[([.agg [d 48,d 49]],g 0),([.agg [d 52,d 49]],g 0)]
def P160_4:List (List V × V):=[([d 49,d 50],.str [45,49]),([d 50,d 50],d 48),([d 51,d 52],.str [45,49])]
def P172_4:List (List V × V):=[([.agg [d 48,d 52],.agg [d 48,d 48],.agg [d 48,d 49]],d 48),([.agg [d 52,d 48],.agg [d 52,d 52],.agg [d 48,d 49]],.str [49,54]),([.agg [d 52,d 48],.agg [d 52,d 52],.agg [d 52,d 49]],d 48),([.agg [d 52,d 52],.agg [d 48,d 48],.agg [d 48,d 49]],.str [45,52]),([.agg [d 52,d 52],.agg [d 48,d 48],.agg [d 52,d 49]],.str [49,50]),([.agg [d 52,d 52],.agg [d 48,d 52],.agg [d 48,d 49]],.str [49,50])]
def P309_4:List (List V × V):=[([d 50],.tup [d 50,g 0])]
def P334_4:List (List V × V):=[([.agg [d 49,d 48,d 48,d 49]],g 0)]
def P392_4:List (List V × V):=[([d 49,d 49,d 48],d 49),([d 49,d 49,.str [49,47,50]],d 49),([d 49,d 49,d 49],d 49),([d 50,d 48,.str [49,47,50]],d 49),([d 50,d 48,d 49],d 48)]
def P454_4:List (List V × V):=[([.agg [d 49,d 48,d 48,d 49],.agg [d 49,d 49,d 50]],d 48)]
def P484_4:List (List V × V):=[([.agg [d 49,d 48,d 48,d 48,d 49,d 48,d 48,d 48,d 49,d 48,d 48,d 48]],g 0)]
def kL4:Memo:=[(31,P31_4),(34,P34_4),(106,P106_4),(160,P160_4),(172,P172_4),(309,P309_4),(334,P334_4),(392,P392_4),(454,P454_4),(484,P484_4)]
def kT4:T (List (List V × V)):=(m (m (p (p (p (l P31_4)))) (q (p (q (q (p (p (l P309_4)))))))) (m (m (m (p (q (p (l P160_4)))) (p (p (p (q (l P392_4)))))) (m (p (q (q (q (l P484_4))))) (p (q (p (l P172_4)))))) (m (m (p (l P34_4)) (p (q (l P106_4)))) (m (p (p (q (q (l P454_4))))) (p (p (q (p (l P334_4)))))))))
theorem kT4_eq:kT4=mkMemo kL4:=by kernel_rfl
def N49_4:List RM:=[⟨[.agg [g 4,s 64 0 1 3,s 65 0 2 5]],[C [.str [114,111,99,107]] 9 1,C [d 49,d 49] 45 1],g 0,[(64,C [.str [114,111,99,107]] 9 1),(65,C [d 49,d 49] 45 1)],13⟩,⟨[.agg [g 4,s 64 0 1 3,s 65 0 2 5]],[C [.str [114,111,99,107]] 9 1,C [d 51,d 49] 45 1],g 0,[(64,C [.str [114,111,99,107]] 9 1),(65,C [d 51,d 49] 45 1)],13⟩,⟨[.agg [g 7,.nils,s 64 0 4 9]],[C [d 48,d 49,d 52,d 49] 45 1],g 0,[(64,C [d 48,d 49,d 52,d 49] 45 1)],13⟩]
def N52_4:List RM:=[⟨[.agg [s 64 0 4 9,s 65 0 2 4]],[C [d 48,d 48,d 52,d 48,d 52,d 52,d 48,d 52] 158 2,C [g 0,g 1,g 2,g 0,g 2,g 3] 181 0],g 0,[(64,C [d 48,d 48,d 52,d 48,d 52,d 52,d 48,d 52] 158 2),(65,C [g 0,g 1,g 2,g 0,g 2,g 3] 181 0)],116⟩]
def N242_4:List RM:=[⟨[.agg [s 64 0 4 9,s 65 0 2 4,.str [98,97,115,101],s 66 0 1 2,s 67 0 4 8,d 48,d 49,d 52,d 49,d 48,d 50]],[C [d 48,d 48,d 52,d 48,d 52,d 52,d 48,d 52] 158 2,C [g 0,g 1,g 2,g 0,g 2,g 3] 181 0,C [g 4,d 100,.nils,.nils,.nils,.str [],.str [],.str [],.str [],.str [],.str [],.str [],.str [],.str [],.str [],.nils,.str [],.str [],.str [],d 49,d 48,d 48,d 49,d 49,.str [114,111,99,107],g 0,g 0,g 0,g 0,.str [],.str [],.str []] 95 0,C [d 50,d 50,d 50,d 50] 45 0],.agg [d 48,d 49,d 48,d 52,d 48,d 48,d 48,d 48,d 49],[(64,C [d 48,d 48,d 52,d 48,d 52,d 52,d 48,d 52] 158 2),(65,C [g 0,g 1,g 2,g 0,g 2,g 3] 181 0),(66,C [g 4,d 100,.nils,.nils,.nils,.str [],.str [],.str [],.str [],.str [],.str [],.str [],.str [],.str [],.str [],.nils,.str [],.str [],.str [],d 49,d 48,d 48,d 49,d 49,.str [114,111,99,107],g 0,g 0,g 0,g 0,.str [],.str [],.str []] 95 0),(67,C [d 50,d 50,d 50,d 50] 45 0)],2⟩]
def kM4:Kept:=[(49,N49_4),(52,N52_4),(242,N242_4)]
def kU4:T (List RM):=(m (q (p (p (q (l N49_4))))) (m (q (p (q (l N52_4)))) (p (p (q (q (q (l N242_4))))))))
theorem kU4_eq:kU4=mkKept kM4:=by kernel_rfl
theorem kP4:chk kb3 10000 60 kL4=true:=by kernel_rfl
theorem kN4:chkRs kb3 10000 60 kM4=true:=by kernel_rfl
noncomputable def kb4:Tab:=kb3.over kT4 kU4
theorem kO4:TabOk kb4 Tryz.prog:=TabOk.over kO3 kT4 kU4
theorem kF4 {w0:Base} (hF:FnOk tb0 Tryz.prog w0):FnOk kb4 Tryz.prog w0:=FnOk.over kO3 (kF3 hF) kT4_eq kP4 kU4_eq kN4
def P34_5:List (List V × V):=[([.agg [.str [51,47,50],d 48,d 48]],g 0)]
def P365_5:List (List V × V):=[([],.agg [d 49,d 48,d 48,d 48,d 49,d 48,d 48,d 48,d 49,d 48,d 48,d 48])]
def P392_5:List (List V × V):=[([d 50,d 50,d 48],d 50),([d 50,d 50,.str [49,47,50]],d 50),([d 50,d 50,d 49],d 50)]
def P393_5:List (List V × V):=[([.agg [d 48,d 49,d 49,d 49,d 50,d 52,d 49,d 50],.str [49,47,51]],.agg [d 50,d 49,d 50])]
def P454_5:List (List V × V):=[([.agg [d 49,d 48,d 48,d 50],.agg [d 49,d 49,d 50]],.str [45,49])]
def kL5:Memo:=[(34,P34_5),(365,P365_5),(392,P392_5),(393,P393_5),(454,P454_5)]
def kT5:T (List (List V × V)):=(m (q (m (q (p (p (p (q (l P393_5)))))) (q (p (q (q (p (l P365_5)))))))) (m (p (q (p (p (p (q (l P392_5))))))) (m (p (p (l P34_5))) (p (p (p (q (q (l P454_5)))))))))
theorem kT5_eq:kT5=mkMemo kL5:=by kernel_rfl
def N49_5:List RM:=[⟨[.agg [g 1,.nils,s 64 0 3 7]],[C [.str [51,47,50],d 48,d 48] 45 1],g 0,[(64,C [.str [51,47,50],d 48,d 48] 45 1)],13⟩]
def N54_5:List RM:=[⟨[.agg [s 64 0 4 9,s 65 0 2 4],.agg [g 4,d 100,.nils,.nils,.nils,.str [],.str [],.str [],.str [],.str [],.str [],.str [],.str [],.str [],.str [],.nils,.str [],.str [],.str [],d 49,d 48,d 48,d 49,d 49,.str [114,111,99,107],g 0,g 0,g 0,g 0,.str [],.str [],.str []]],[C [d 48,d 48,d 52,d 48,d 52,d 52,d 48,d 52] 158 2,C [g 0,g 1,g 2,g 0,g 2,g 3] 181 0],g 0,[(64,C [d 48,d 48,d 52,d 48,d 52,d 52,d 48,d 52] 158 2),(65,C [g 0,g 1,g 2,g 0,g 2,g 3] 181 0)],124⟩]
def N57_5:List RM:=[⟨[.agg [s 64 0 4 9,s 65 0 2 4],s 66 0 1 2],[C [d 48,d 48,d 52,d 48,d 52,d 52,d 48,d 52] 158 2,C [g 0,g 1,g 2,g 0,g 2,g 3] 181 0,C [s 67 0 4 8] 44 0,C [d 50,d 50,d 50,d 50] 45 0],g 0,[(64,C [d 48,d 48,d 52,d 48,d 52,d 52,d 48,d 52] 158 2),(65,C [g 0,g 1,g 2,g 0,g 2,g 3] 181 0),(66,C [s 67 0 4 8] 44 0),(67,C [d 50,d 50,d 50,d 50] 45 0)],117⟩]
def N103_5:List RM:=[⟨[.agg [s 64 0 4 9,s 65 0 2 4],.agg [d 48,d 49]],[C [d 48,d 48,d 52,d 48,d 52,d 52,d 48,d 52] 158 2,C [g 0,g 1,g 2,g 0,g 2,g 3] 181 0],.tup [.bool true,g 0],[(64,C [d 48,d 48,d 52,d 48,d 52,d 52,d 48,d 52] 158 2),(65,C [g 0,g 1,g 2,g 0,g 2,g 3] 181 0)],150⟩,⟨[.agg [s 64 0 4 9,s 65 0 2 4],.agg [d 52,d 49]],[C [d 48,d 48,d 52,d 48,d 52,d 52,d 48,d 52] 158 2,C [g 0,g 1,g 2,g 0,g 2,g 3] 181 0],.tup [.bool true,g 0],[(64,C [d 48,d 48,d 52,d 48,d 52,d 52,d 48,d 52] 158 2),(65,C [g 0,g 1,g 2,g 0,g 2,g 3] 181 0)],144⟩]
def N170_5:List RM:=[⟨[.agg [s 64 0 4 9,s 65 0 2 4],.agg [d 49,d 49]],[C [d 48,d 48,d 52,d 48,d 52,d 52,d 48,d 52] 158 2,C [g 0,g 1,g 2,g 0,g 2,g 3] 181 0],.tup [s 235 0 2 5,g 0],[(235,C [g 0,g 1] 3 1),(64,C [d 48,d 48,d 52,d 48,d 52,d 52,d 48,d 52] 158 2),(65,C [g 0,g 1,g 2,g 0,g 2,g 3] 181 0)],170⟩,⟨[.agg [s 64 0 4 9,s 65 0 2 4],.agg [d 51,d 49]],[C [d 48,d 48,d 52,d 48,d 52,d 52,d 48,d 52] 158 2,C [g 0,g 1,g 2,g 0,g 2,g 3] 181 0],.tup [s 210 0 1 3,g 0],[(210,C [g 0] 3 1),(64,C [d 48,d 48,d 52,d 48,d 52,d 52,d 48,d 52] 158 2),(65,C [g 0,g 1,g 2,g 0,g 2,g 3] 181 0)],157⟩]
def N234_5:List RM:=[⟨[.agg [s 64 0 4 9,s 65 0 2 4,.str [98,97,115,101],s 66 0 1 2,s 67 0 4 8,d 48,d 49,d 52,d 49,d 48,d 50],.str [49,47,52],d 50],[C [d 48,d 48,d 52,d 48,d 52,d 52,d 48,d 52] 158 2,C [g 0,g 1,g 2,g 0,g 2,g 3] 181 0,C [g 4,d 100,.nils,.nils,.nils,.str [],.str [],.str [],.str [],.str [],.str [],.str [],.str [],.str [],.str [],.nils,.str [],.str [],.str [],d 49,d 48,d 48,d 49,d 49,.str [114,111,99,107],g 0,g 0,g 0,g 0,.str [],.str [],.str []] 95 0,C [d 50,d 50,d 50,d 50] 45 0],.agg [d 49,d 49,d 50],[(64,C [d 48,d 48,d 52,d 48,d 52,d 52,d 48,d 52] 158 2),(65,C [g 0,g 1,g 2,g 0,g 2,g 3] 181 0),(66,C [g 4,d 100,.nils,.nils,.nils,.str [],.str [],.str [],.str [],.str [],.str [],.str [],.str [],.str [],.str [],.nils,.str [],.str [],.str [],d 49,d 48,d 48,d 49,d 49,.str [114,111,99,107],g 0,g 0,g 0,g 0,.str [],.str [],.str []] 95 0),(67,C [d 50,d 50,d 50,d 50] 45 0)],5⟩]
def N348_5:List RM:=[⟨[.agg [s 64 0 4 9,s 65 0 2 4],s 66 0 4 8,g 0],[C [d 48,d 48,d 52,d 48,d 52,d 52,d 48,d 52] 158 2,C [g 0,g 1,g 2,g 0,g 2,g 3] 181 0,C [d 50,d 50,d 50,d 50] 45 0],.agg [d 48,d 48],[(64,C [d 48,d 48,d 52,d 48,d 52,d 52,d 48,d 52] 158 2),(65,C [g 0,g 1,g 2,g 0,g 2,g 3] 181 0),(66,C [d 50,d 50,d 50,d 50] 45 0)],5⟩,⟨[.agg [s 64 0 4 9,s 65 0 2 4],s 66 0 4 8,g 1],[C [d 48,d 48,d 52,d 48,d 52,d 52,d 48,d 52] 158 2,C [g 0,g 1,g 2,g 0,g 2,g 3] 181 0,C [d 50,d 50,d 50,d 50] 45 0],.agg [d 48,d 48],[(64,C [d 48,d 48,d 52,d 48,d 52,d 52,d 48,d 52] 158 2),(65,C [g 0,g 1,g 2,g 0,g 2,g 3] 181 0),(66,C [d 50,d 50,d 50,d 50] 45 0)],5⟩]
def kM5:Kept:=[(49,N49_5),(54,N54_5),(57,N57_5),(103,N103_5),(170,N170_5),(234,N234_5),(348,N348_5)]
def kU5:T (List RM):=(m (m (p (q (p (q (l N103_5))))) (p (m (q (l N49_5)) (q (l N57_5))))) (m (q (q (q (p (q (p (l N348_5))))))) (m (q (p (q (m (l N170_5) (l N234_5))))) (p (q (l N54_5))))))
theorem kU5_eq:kU5=mkKept kM5:=by kernel_rfl
theorem kP5:chk kb4 10000 60 kL5=true:=by kernel_rfl
theorem kN5:chkRs kb4 10000 60 kM5=true:=by kernel_rfl
noncomputable def kb5:Tab:=kb4.over kT5 kU5
theorem kO5:TabOk kb5 Tryz.prog:=TabOk.over kO4 kT5 kU5
theorem kF5 {w0:Base} (hF:FnOk tb0 Tryz.prog w0):FnOk kb5 Tryz.prog w0:=FnOk.over kO4 (kF4 hF) kT5_eq kP5 kU5_eq kN5
def kL6:Memo:=[]
def kT6:T (List (List V × V)):=.e
theorem kT6_eq:kT6=mkMemo kL6:=by kernel_rfl
def N27_6:List RM:=[⟨[.agg [s 64 0 4 9,s 65 0 2 4,.str [98,97,115,101],s 66 0 1 2]],[C [d 48,d 48,d 52,d 48,d 52,d 52,d 48,d 52] 158 2,C [g 0,g 1,g 2,g 0,g 2,g 3] 181 0,C [g 4,d 100,.nils,.nils,.nils,.str [],.str [],.str [],.str [],.str [],.str [],.str [],.str [],.str [],.str [],.nils,.str [],.str [],.str [],d 49,d 48,d 48,d 49,d 49,.str [114,111,99,107],g 0,g 0,g 0,g 0,.str [],.str [],.str []] 95 0],g 0,[(64,C [d 48,d 48,d 52,d 48,d 52,d 52,d 48,d 52] 158 2),(65,C [g 0,g 1,g 2,g 0,g 2,g 3] 181 0),(66,C [g 4,d 100,.nils,.nils,.nils,.str [],.str [],.str [],.str [],.str [],.str [],.str [],.str [],.str [],.str [],.nils,.str [],.str [],.str [],d 49,d 48,d 48,d 49,d 49,.str [114,111,99,107],g 0,g 0,g 0,g 0,.str [],.str [],.str []] 95 0)],249⟩]
def N28_6:List RM:=[⟨[.agg [s 64 0 4 9,s 65 0 2 4],s 66 0 4 8],[C [d 48,d 48,d 52,d 48,d 52,d 52,d 48,d 52] 158 2,C [g 0,g 1,g 2,g 0,g 2,g 3] 181 0,C [d 50,d 50,d 50,d 50] 45 0],g 0,[(64,C [d 48,d 48,d 52,d 48,d 52,d 52,d 48,d 52] 158 2),(65,C [g 0,g 1,g 2,g 0,g 2,g 3] 181 0),(66,C [d 50,d 50,d 50,d 50] 45 0)],119⟩]
def N412_6:List RM:=[⟨[.agg [s 64 0 4 9,s 65 0 2 4],.agg [g 4,d 100,.nils,.nils,.nils,.str [],.str [],.str [],.str [],.str [],.str [],.str [],.str [],.str [],.str [],.nils,.str [],.str [],.str [],d 49,d 48,d 48,d 49,d 49,.str [114,111,99,107],g 0,g 0,g 0,g 0,.str [],.str [],.str []],g 0],[C [d 48,d 48,d 52,d 48,d 52,d 52,d 48,d 52] 158 2,C [g 0,g 1,g 2,g 0,g 2,g 3] 181 0],.tup [s 196 0 2 4,g 0],[(196,C [d 49,d 48,d 48,d 49,d 49,d 48,d 48,d 50] 83 0),(64,C [d 48,d 48,d 52,d 48,d 52,d 52,d 48,d 52] 158 2),(65,C [g 0,g 1,g 2,g 0,g 2,g 3] 181 0)],135⟩]
def N456_6:List RM:=[⟨[.agg [s 64 0 4 9,s 65 0 2 4],.agg [g 4,d 100,.nils,.nils,.nils,.str [],.str [],.str [],.str [],.str [],.str [],.str [],.str [],.str [],.str [],.nils,.str [],.str [],.str [],d 49,d 48,d 48,d 49,d 49,.str [114,111,99,107],g 0,g 0,g 0,g 0,.str [],.str [],.str []],g 1],[C [d 48,d 48,d 52,d 48,d 52,d 52,d 48,d 52] 158 2,C [g 0,g 1,g 2,g 0,g 2,g 3] 181 0],.tup [.str [114,111,99,107],.bool true,g 0],[(64,C [d 48,d 48,d 52,d 48,d 52,d 52,d 48,d 52] 158 2),(65,C [g 0,g 1,g 2,g 0,g 2,g 3] 181 0)],128⟩]
def N510_6:List RM:=[⟨[.agg [s 64 0 4 9,s 65 0 2 4],.agg [g 4,d 100,.nils,.nils,.nils,.str [],.str [],.str [],.str [],.str [],.str [],.str [],.str [],.str [],.str [],.nils,.str [],.str [],.str [],d 49,d 48,d 48,d 49,d 49,.str [114,111,99,107],g 0,g 0,g 0,g 0,.str [],.str [],.str []],g 0],[C [d 48,d 48,d 52,d 48,d 52,d 52,d 48,d 52] 158 2,C [g 0,g 1,g 2,g 0,g 2,g 3] 181 0],g 0,[(64,C [d 48,d 48,d 52,d 48,d 52,d 52,d 48,d 52] 158 2),(65,C [g 0,g 1,g 2,g 0,g 2,g 3] 181 0)],126⟩,⟨[.agg [s 64 0 4 9,s 65 0 2 4],.agg [g 4,d 100,.nils,.nils,.nils,.str [],.str [],.str [],.str [],.str [],.str [],.str [],.str [],.str [],.str [],.nils,.str [],.str [],.str [],d 49,d 48,d 48,d 49,d 49,.str [114,111,99,107],g 0,g 0,g 0,g 0,.str [],.str [],.str []],g 2],[C [d 48,d 48,d 52,d 48,d 52,d 52,d 48,d 52] 158 2,C [g 0,g 1,g 2,g 0,g 2,g 3] 181 0],g 0,[(64,C [d 48,d 48,d 52,d 48,d 52,d 52,d 48,d 52] 158 2),(65,C [g 0,g 1,g 2,g 0,g 2,g 3] 181 0)],126⟩]
def kM6:Kept:=[(27,N27_6),(28,N28_6),(412,N412_6),(456,N456_6),(510,N510_6)]
def kU6:T (List RM):=(m (p (q (q (l N27_6)))) (m (m (q (p (p (q (q (l N456_6)))))) (q (a N28_6 (p (p (q (l N412_6))))))) (q (q (q (q (q (q (l N510_6)))))))))
theorem kU6_eq:kU6=mkKept kM6:=by kernel_rfl
theorem kP6:chk kb5 10000 60 kL6=true:=by kernel_rfl
theorem kN6:chkRs kb5 10000 60 kM6=true:=by kernel_rfl
noncomputable def kb6:Tab:=kb5.over kT6 kU6
theorem kO6:TabOk kb6 Tryz.prog:=TabOk.over kO5 kT6 kU6
theorem kF6 {w0:Base} (hF:FnOk tb0 Tryz.prog w0):FnOk kb6 Tryz.prog w0:=FnOk.over kO5 (kF5 hF) kT6_eq kP6 kU6_eq kN6
def kL7:Memo:=[]
def kT7:T (List (List V × V)):=.e
theorem kT7_eq:kT7=mkMemo kL7:=by kernel_rfl
def N12_7:List RM:=[⟨[.agg [s 64 0 4 9,s 65 0 2 4,.str [98,97,115,101],s 66 0 1 2,s 67 0 4 8,d 48]],[C [d 48,d 48,d 52,d 48,d 52,d 52,d 48,d 52] 158 2,C [g 0,g 1,g 2,g 0,g 2,g 3] 181 0,C [g 4,d 100,.nils,.nils,.nils,.str [],.str [],.str [],.str [],.str [],.str [],.str [],.str [],.str [],.str [],.nils,.str [],.str [],.str [],d 49,d 48,d 48,d 49,d 49,.str [114,111,99,107],g 0,g 0,g 0,g 0,.str [],.str [],.str []] 95 0,C [d 50,d 50,d 50,d 50] 45 0],g 0,[(64,C [d 48,d 48,d 52,d 48,d 52,d 52,d 48,d 52] 158 2),(65,C [g 0,g 1,g 2,g 0,g 2,g 3] 181 0),(66,C [g 4,d 100,.nils,.nils,.nils,.str [],.str [],.str [],.str [],.str [],.str [],.str [],.str [],.str [],.str [],.nils,.str [],.str [],.str [],d 49,d 48,d 48,d 49,d 49,.str [114,111,99,107],g 0,g 0,g 0,g 0,.str [],.str [],.str []] 95 0),(67,C [d 50,d 50,d 50,d 50] 45 0)],369⟩]
def N72_7:List RM:=[⟨[.agg [s 64 0 4 9,s 65 0 2 4,.str [98,97,115,101],s 66 0 1 2],.agg [.str [51,47,50],d 48,d 48]],[C [d 48,d 48,d 52,d 48,d 52,d 52,d 48,d 52] 158 2,C [g 0,g 1,g 2,g 0,g 2,g 3] 181 0,C [g 4,d 100,.nils,.nils,.nils,.str [],.str [],.str [],.str [],.str [],.str [],.str [],.str [],.str [],.str [],.nils,.str [],.str [],.str [],d 49,d 48,d 48,d 49,d 49,.str [114,111,99,107],g 0,g 0,g 0,g 0,.str [],.str [],.str []] 95 0],g 0,[(64,C [d 48,d 48,d 52,d 48,d 52,d 52,d 48,d 52] 158 2),(65,C [g 0,g 1,g 2,g 0,g 2,g 3] 181 0),(66,C [g 4,d 100,.nils,.nils,.nils,.str [],.str [],.str [],.str [],.str [],.str [],.str [],.str [],.str [],.str [],.nils,.str [],.str [],.str [],d 49,d 48,d 48,d 49,d 49,.str [114,111,99,107],g 0,g 0,g 0,g 0,.str [],.str [],.str []] 95 0)],251⟩]
def N102_7:List RM:=[⟨[.agg [s 64 0 4 9,s 65 0 2 4,.str [98,97,115,101],s 66 0 1 2],.str [114,111,99,107]],[C [d 48,d 48,d 52,d 48,d 52,d 52,d 48,d 52] 158 2,C [g 0,g 1,g 2,g 0,g 2,g 3] 181 0,C [g 4,d 100,.nils,.nils,.nils,.str [],.str [],.str [],.str [],.str [],.str [],.str [],.str [],.str [],.str [],.nils,.str [],.str [],.str [],d 49,d 48,d 48,d 49,d 49,.str [114,111,99,107],g 0,g 0,g 0,g 0,.str [],.str [],.str []] 95 0],.tup [g 1,g 0],[(64,C [d 48,d 48,d 52,d 48,d 52,d 52,d 48,d 52] 158 2),(65,C [g 0,g 1,g 2,g 0,g 2,g 3] 181 0),(66,C [g 4,d 100,.nils,.nils,.nils,.str [],.str [],.str [],.str [],.str [],.str [],.str [],.str [],.str [],.str [],.nils,.str [],.str [],.str [],d 49,d 48,d 48,d 49,d 49,.str [114,111,99,107],g 0,g 0,g 0,g 0,.str [],.str [],.str []] 95 0)],256⟩]
def N223_7:List RM:=[⟨[.agg [s 64 0 4 9,s 65 0 2 4,.str [98,97,115,101],s 66 0 1 2],.agg [d 49,d 49,d 50],d 50],[C [d 48,d 48,d 52,d 48,d 52,d 52,d 48,d 52] 158 2,C [g 0,g 1,g 2,g 0,g 2,g 3] 181 0,C [g 4,d 100,.nils,.nils,.nils,.str [],.str [],.str [],.str [],.str [],.str [],.str [],.str [],.str [],.str [],.nils,.str [],.str [],.str [],d 49,d 48,d 48,d 49,d 49,.str [114,111,99,107],g 0,g 0,g 0,g 0,.str [],.str [],.str []] 95 0],.tup [.agg [d 49,d 49,d 48],g 0],[(64,C [d 48,d 48,d 52,d 48,d 52,d 52,d 48,d 52] 158 2),(65,C [g 0,g 1,g 2,g 0,g 2,g 3] 181 0),(66,C [g 4,d 100,.nils,.nils,.nils,.str [],.str [],.str [],.str [],.str [],.str [],.str [],.str [],.str [],.str [],.nils,.str [],.str [],.str [],d 49,d 48,d 48,d 49,d 49,.str [114,111,99,107],g 0,g 0,g 0,g 0,.str [],.str [],.str []] 95 0)],252⟩,⟨[.agg [s 64 0 4 9,s 65 0 2 4,.str [98,97,115,101],s 66 0 1 2],.agg [d 51,d 49,d 50],d 50],[C [d 48,d 48,d 52,d 48,d 52,d 52,d 48,d 52] 158 2,C [g 0,g 1,g 2,g 0,g 2,g 3] 181 0,C [g 4,d 100,.nils,.nils,.nils,.str [],.str [],.str [],.str [],.str [],.str [],.str [],.str [],.str [],.str [],.nils,.str [],.str [],.str [],d 49,d 48,d 48,d 49,d 49,.str [114,111,99,107],g 0,g 0,g 0,g 0,.str [],.str [],.str []] 95 0],.tup [.agg [d 51,d 49,d 48],g 0],[(64,C [d 48,d 48,d 52,d 48,d 52,d 52,d 48,d 52] 158 2),(65,C [g 0,g 1,g 2,g 0,g 2,g 3] 181 0),(66,C [g 4,d 100,.nils,.nils,.nils,.str [],.str [],.str [],.str [],.str [],.str [],.str [],.str [],.str [],.str [],.nils,.str [],.str [],.str [],d 49,d 48,d 48,d 49,d 49,.str [114,111,99,107],g 0,g 0,g 0,g 0,.str [],.str [],.str []] 95 0)],252⟩]
def N224_7:List RM:=[⟨[.agg [s 64 0 4 9,s 65 0 2 4,.str [98,97,115,101],s 66 0 1 2],.str [114,111,99,107]],[C [d 48,d 48,d 52,d 48,d 52,d 52,d 48,d 52] 158 2,C [g 0,g 1,g 2,g 0,g 2,g 3] 181 0,C [g 4,d 100,.nils,.nils,.nils,.str [],.str [],.str [],.str [],.str [],.str [],.str [],.str [],.str [],.str [],.nils,.str [],.str [],.str [],d 49,d 48,d 48,d 49,d 49,.str [114,111,99,107],g 0,g 0,g 0,g 0,.str [],.str [],.str []] 95 0],.bool true,[(64,C [d 48,d 48,d 52,d 48,d 52,d 52,d 48,d 52] 158 2),(65,C [g 0,g 1,g 2,g 0,g 2,g 3] 181 0),(66,C [g 4,d 100,.nils,.nils,.nils,.str [],.str [],.str [],.str [],.str [],.str [],.str [],.str [],.str [],.str [],.nils,.str [],.str [],.str [],d 49,d 48,d 48,d 49,d 49,.str [114,111,99,107],g 0,g 0,g 0,g 0,.str [],.str [],.str []] 95 0)],257⟩]
def N456_7:List RM:=[⟨[.agg [s 64 0 4 9,s 65 0 2 4],.agg [g 4,d 100,.nils,.nils,.nils,.str [],.str [],.str [],.str [],.str [],.str [],.str [],.str [],.str [],.str [],.nils,.str [],.str [],.str [],d 49,d 48,d 48,d 49,d 49,.str [114,111,99,107],g 0,g 0,g 0,g 0,.str [],.str [],.str []],g 2],[C [d 48,d 48,d 52,d 48,d 52,d 52,d 48,d 52] 158 2,C [g 0,g 1,g 2,g 0,g 2,g 3] 181 0],.tup [.str [],.bool false,g 0],[(64,C [d 48,d 48,d 52,d 48,d 52,d 52,d 48,d 52] 158 2),(65,C [g 0,g 1,g 2,g 0,g 2,g 3] 181 0)],128⟩]
def N457_7:List RM:=[⟨[.agg [s 64 0 4 9,s 65 0 2 4],.agg [g 4,d 100,.nils,.nils,.nils,.str [],.str [],.str [],.str [],.str [],.str [],.str [],.str [],.str [],.str [],.nils,.str [],.str [],.str [],d 49,d 48,d 48,d 49,d 49,.str [114,111,99,107],g 0,g 0,g 0,g 0,.str [],.str [],.str []],g 2],[C [d 48,d 48,d 52,d 48,d 52,d 52,d 48,d 52] 158 2,C [g 0,g 1,g 2,g 0,g 2,g 3] 181 0],.tup [.agg [d 49,d 48,d 48,d 48,d 49,d 48,d 48,d 48,d 49,d 48,d 48,d 48],g 0],[(64,C [d 48,d 48,d 52,d 48,d 52,d 52,d 48,d 52] 158 2),(65,C [g 0,g 1,g 2,g 0,g 2,g 3] 181 0)],130⟩]
def kM7:Kept:=[(12,N12_7),(72,N72_7),(102,N102_7),(223,N223_7),(224,N224_7),(456,N456_7),(457,N457_7)]
def kU7:T (List RM):=(m (m (p (p (p (q (q (l N223_7)))))) (p (q (p (p (q (q (l N457_7)))))))) (m (m (m (p (q (q (l N224_7)))) (p (p (a N72_7 (q (l N456_7)))))) (l N12_7)) (q (p (p (q (l N102_7)))))))
theorem kU7_eq:kU7=mkKept kM7:=by kernel_rfl
theorem kP7:chk kb6 10000 60 kL7=true:=by kernel_rfl
theorem kN7:chkRs kb6 10000 60 kM7=true:=by kernel_rfl
noncomputable def kb7:Tab:=kb6.over kT7 kU7
theorem kO7:TabOk kb7 Tryz.prog:=TabOk.over kO6 kT7 kU7
theorem kF7 {w0:Base} (hF:FnOk tb0 Tryz.prog w0):FnOk kb7 Tryz.prog w0:=FnOk.over kO6 (kF6 hF) kT7_eq kP7 kU7_eq kN7
def kL8:Memo:=[]
def kT8:T (List (List V × V)):=.e
theorem kT8_eq:kT8=mkMemo kL8:=by kernel_rfl
def N93_8:List RM:=[⟨[.agg [s 64 0 4 9,s 65 0 2 4,.str [98,97,115,101],s 66 0 1 2,s 67 0 4 8,d 48],.agg [g 4,s 68 0 1 3,s 69 0 2 5]],[C [d 48,d 48,d 52,d 48,d 52,d 52,d 48,d 52] 158 2,C [g 0,g 1,g 2,g 0,g 2,g 3] 181 0,C [g 4,d 100,.nils,.nils,.nils,.str [],.str [],.str [],.str [],.str [],.str [],.str [],.str [],.str [],.str [],.nils,.str [],.str [],.str [],d 49,d 48,d 48,d 49,d 49,.str [114,111,99,107],g 0,g 0,g 0,g 0,.str [],.str [],.str []] 95 0,C [d 50,d 50,d 50,d 50] 45 0,C [.str [114,111,99,107]] 9 1,C [d 51,d 49] 45 1],.tup [s 2035 0 1 2,g 0],[(2035,C [.str [110,111,110,101]] 9 0),(64,C [d 48,d 48,d 52,d 48,d 52,d 52,d 48,d 52] 158 2),(65,C [g 0,g 1,g 2,g 0,g 2,g 3] 181 0),(66,C [g 4,d 100,.nils,.nils,.nils,.str [],.str [],.str [],.str [],.str [],.str [],.str [],.str [],.str [],.str [],.nils,.str [],.str [],.str [],d 49,d 48,d 48,d 49,d 49,.str [114,111,99,107],g 0,g 0,g 0,g 0,.str [],.str [],.str []] 95 0),(67,C [d 50,d 50,d 50,d 50] 45 0),(68,C [.str [114,111,99,107]] 9 1),(69,C [d 51,d 49] 45 1)],1966⟩]
def N351_8:List RM:=[⟨[.agg [d 48,d 49,d 49,d 49,d 50,d 52,d 49,d 50],.agg [s 64 0 4 9,s 65 0 2 4,.str [98,97,115,101],s 66 0 1 2],g 1,.nils,.ptr 67 0],[C [d 48,d 48,d 52,d 48,d 52,d 52,d 48,d 52] 158 2,C [g 0,g 1,g 2,g 0,g 2,g 3] 181 0,C [g 4,d 100,.nils,.nils,.nils,.str [],.str [],.str [],.str [],.str [],.str [],.str [],.str [],.str [],.str [],.nils,.str [],.str [],.str [],d 49,d 48,d 48,d 49,d 49,.str [114,111,99,107],g 0,g 0,g 0,g 0,.str [],.str [],.str []] 95 0,C [.nils] 397 0],g 0,[(64,C [d 48,d 48,d 52,d 48,d 52,d 52,d 48,d 52] 158 2),(65,C [g 0,g 1,g 2,g 0,g 2,g 3] 181 0),(66,C [g 4,d 100,.nils,.nils,.nils,.str [],.str [],.str [],.str [],.str [],.str [],.str [],.str [],.str [],.str [],.nils,.str [],.str [],.str [],d 49,d 48,d 48,d 49,d 49,.str [114,111,99,107],g 0,g 0,g 0,g 0,.str [],.str [],.str []] 95 0),(67,C [s 977 0 2 5] 397 0),(977,C [d 48,.str [49,47,51],.str [114,111,99,107],s 500 0 1 3,.str [49,47,51],d 49,.str [98,97,115,101],s 976 0 1 3] 401 4),(500,C [g 1] 3 1),(976,C [g 2] 3 1)],910⟩]
def kM8:Kept:=[(93,N93_8),(351,N351_8)]
def kU8:T (List RM):=(p (m (p (p (p (q (q (p (l N351_8))))))) (q (q (q (p (l N93_8)))))))
theorem kU8_eq:kU8=mkKept kM8:=by kernel_rfl
theorem kP8:chk kb7 10000 60 kL8=true:=by kernel_rfl
theorem kN8:chkRs kb7 10000 60 kM8=true:=by kernel_rfl
noncomputable def kb8:Tab:=kb7.over kT8 kU8
theorem kO8:TabOk kb8 Tryz.prog:=TabOk.over kO7 kT8 kU8
theorem kF8 {w0:Base} (hF:FnOk tb0 Tryz.prog w0):FnOk kb8 Tryz.prog w0:=FnOk.over kO7 (kF7 hF) kT8_eq kP8 kU8_eq kN8
def kL9:Memo:=[]
def kT9:T (List (List V × V)):=.e
theorem kT9_eq:kT9=mkMemo kL9:=by kernel_rfl
def N164_9:List RM:=[⟨[.agg [s 64 0 4 9,s 65 0 2 4,.str [98,97,115,101],s 66 0 1 2,s 67 0 4 8,d 48,d 49,d 52,d 49,d 48,d 50]],[C [d 48,d 48,d 52,d 48,d 52,d 52,d 48,d 52] 158 2,C [g 0,g 1,g 2,g 0,g 2,g 3] 181 0,C [g 4,d 100,.nils,.nils,.nils,.str [],.str [],.str [],.str [],.str [],.str [],.str [],.str [],.str [],.str [],.nils,.str [],.str [],.str [],d 49,d 48,d 48,d 49,d 49,.str [114,111,99,107],g 0,g 0,g 0,g 0,.str [],.str [],.str []] 95 0,C [d 50,d 50,d 50,d 50] 45 0],.tup [s 3459 0 3 7,g 0],[(3459,C [d 48,.str [49,47,52],.str [98,97,115,101],.str [49,47,52],.str [49,47,50],.str [114,111,99,107],.str [49,47,50],d 49,.str [98,97,115,101]] 333 3),(64,C [d 48,d 48,d 52,d 48,d 52,d 52,d 48,d 52] 158 2),(65,C [g 0,g 1,g 2,g 0,g 2,g 3] 181 0),(66,C [g 4,d 100,.nils,.nils,.nils,.str [],.str [],.str [],.str [],.str [],.str [],.str [],.str [],.str [],.str [],.nils,.str [],.str [],.str [],d 49,d 48,d 48,d 49,d 49,.str [114,111,99,107],g 0,g 0,g 0,g 0,.str [],.str [],.str []] 95 0),(67,C [d 50,d 50,d 50,d 50] 45 0)],3392⟩]
def kM9:Kept:=[(164,N164_9)]
def kU9:T (List RM):=(q (p (q (p (p (q (p (l N164_9))))))))
theorem kU9_eq:kU9=mkKept kM9:=by kernel_rfl
theorem kP9:chk kb8 10000 60 kL9=true:=by kernel_rfl
theorem kN9:chkRs kb8 10000 60 kM9=true:=by kernel_rfl
noncomputable def kb9:Tab:=kb8.over kT9 kU9
theorem kO9:TabOk kb9 Tryz.prog:=TabOk.over kO8 kT9 kU9
theorem kF9 {w0:Base} (hF:FnOk tb0 Tryz.prog w0):FnOk kb9 Tryz.prog w0:=FnOk.over kO8 (kF8 hF) kT9_eq kP9 kU9_eq kN9
theorem root_chk:memoOk kb9 10000 60 5 [] (.bool true)=true:=by kernel_rfl
theorem known_true {w0:Base} (hF:FnOk tb0 Tryz.prog w0):Contract Tryz.prog w0 5 [] (.bool true):=memo_ok kO9 (kF9 hF) root_chk
end Go.Proofs.YtkjinnjopoehhaaGreatDoor
