/-
  The row of QueryTexts: its closed facts, one by one.
-/
import Derived.Test.YtjcfejncjdhplaaGreatDoorRows
import Derived.JoinedOf
import Derived.KernelRfl
set_option linter.unusedSectionVars false
set_option linter.unusedVariables false
set_option linter.unusedSimpArgs false
namespace Go.Proofs.YtjcfejncjdhplaaGreatDoor
open Go
set_option maxRecDepth 100000
theorem fNamed : Tryz.prog.funcNamed "klippe/klippelaw53.QueryTexts" = some 4 := by kernel_rfl
theorem j1 : Rows.queryTextsRow.wf (OpenSpec.ofChange Rows.queryTextsSpec) = true := by kernel_rfl
theorem range_split (f : Nat → Bool) (a b : Nat) (h1 : (List.range a).all f = true) (h2 : (List.range b).all (fun i => f (a + i)) = true) : (List.range (a + b)).all f = true := by
  rw [List.range_add, List.all_append, List.all_map, h1, Bool.true_and]
  exact h2
theorem typesN : Tryz.prog.types.size = 701 := by kernel_rfl
theorem rf1 : (List.range 200).all (rowFine Tryz.prog) = true := by kernel_rfl
theorem rf2 : (List.range 200).all (fun i => rowFine Tryz.prog (200 + i)) = true := by kernel_rfl
theorem rf3 : (List.range 200).all (fun i => rowFine Tryz.prog (200 + (200 + i))) = true := by kernel_rfl
theorem rf4 : (List.range 101).all (fun i => rowFine Tryz.prog (200 + (200 + (200 + i)))) = true := by kernel_rfl
theorem rf5 : Tryz.prog.globals.all (fun g => decide (g.type < Tryz.prog.types.size)) = true := by
  rw [typesN]
  kernel_rfl
theorem rf6 : Tryz.prog.funcs.all (fun f => f.params.all fun t => decide (t < Tryz.prog.types.size)) = true := by
  rw [typesN]
  kernel_rfl
theorem j2 : laidOutB Tryz.prog = true := by
  have h : (List.range Tryz.prog.types.size).all (rowFine Tryz.prog) = true := by
    rw [typesN]
    exact range_split _ 200 501 rf1 (range_split _ 200 301 rf2 (range_split _ 200 101 rf3 rf4))
  unfold laidOutB
  rw [h, rf5, rf6]
  rfl
theorem j3 : mapsRowed Tryz.prog = true := by kernel_rfl
theorem j4 : (Tryz.f4.params.all (Tryz.prog.readableRec ·) && namedTie Tryz.prog Rows.queryTextsRow.named Rows.queryTextsSpec.vars && (Rows.queryTextsRow.stops == []) && (Tryz.prog.stops == []) && (Rows.queryTextsRow.knobs == []) && (Tryz.prog.stopKnobs == [])) = true := by kernel_rfl
def cloP (P : Program) : Nat → List FuncId → Nat → List FuncId → List FuncId
  | 0, _, _, seen => seen.reverse
  | _, [], _, seen => seen.reverse
  | n + 1, f :: todo, m, seen => if m.testBit f then cloP P n todo m seen else cloP P n ((P.funcs[f]?).elim [] P.leadsTo ++ todo) (m ||| 2 ^ f) (f :: seen)
theorem via_bits (P : Program) : ∀ (n : Nat) (todo seen : List FuncId) (m : Nat), (∀ f : Nat, seen.contains f = m.testBit f) → P.closureVia n todo seen = cloP P n todo m seen
  | 0, _, _, _, _ => rfl
  | n + 1, [], _, _, _ => rfl
  | n + 1, f :: todo, seen, m, h => by
    show (if seen.contains f then P.closureVia n todo seen else P.closureVia n ((P.funcs[f]?).elim [] P.leadsTo ++ todo) (f :: seen)) = (if m.testBit f then cloP P n todo m seen else cloP P n ((P.funcs[f]?).elim [] P.leadsTo ++ todo) (m ||| 2 ^ f) (f :: seen))
    rw [h f]
    split
    · exact via_bits P n todo seen m h
    · refine via_bits P n _ (f :: seen) _ fun g => ?_
      have e : (g == f) = decide (f = g) := by rw [Bool.eq_iff_iff, beq_iff_eq, decide_eq_true_iff]; exact eq_comm
      rw [List.contains_cons, h g, Nat.testBit_or, Nat.testBit_two_pow, e, Bool.or_comm]
theorem clo_of {P : Program} {f : FuncId} {F : Nat} {L : List FuncId} (hF : 1 + (P.funcs.toList.map fun g => (P.leadsTo g).length + 1).sum = F) (hL : cloP P F [f] 0 [] = L) : P.closure f = L := by
  unfold Program.closure
  rw [hF, via_bits P F [f] [] 0 (fun g => by rw [Nat.zero_testBit]; rfl), hL]
theorem fuelF : 1 + (Tryz.prog.funcs.toList.map fun g => (Tryz.prog.leadsTo g).length + 1).sum = 2155 := by kernel_rfl
def cloL : List Nat := [4,5,14,32,64,65,114,110,39,75,131,205,206,268,267,269,207,208,270,271,354,355,185,106,173,242,216,274,63,109,176,244,314,246,319,320,245,315,418,316,317,419,318,111,105,172,177,178,112,179,180,247,181,195,182,113,183,102,170,184,248,58,59,275,277,276,33,66,116,115,186,98,95,164,56,100,101,165,238,167,239,166,168,240,237,169,241,15,34,67,117,187,72,30,60,104,135,97,162,210,211,212,272,61,62,107,174,108,175,243,188,249,85,143,142,122,215,123,124,217,149,201,189,250,321,420,251,252,322,323,69,190,253,254,264,324,255,325,29,118,191,192,256,326,327,68,121,120,160,421,328,329,196,261,330,221,285,273,356,357,422,222,331,332,423,484,424,36,333,334,335,336,337,425,338,339,426,340,341,342,343,344,345,346,347,427,225,286,485,348,349,350,193,257,351,258,259,352,260,119,194,70,6,18,40,76,132,133,209,77,134,78,19,41,80,79,73,74,127,197,128,198,262,263,199,200,129,130,203,202,204,265,224,266,353,26,42,82,81,136,214,213,43,83,44,84,137,138,94,161,139,146,218,278,279,358,428,429,359,430,486,236,313,527,574,575,602,576,414,415,577,603,604,610,578,579,580,581,487,488,528,582,380,432,431,365,438,500,501,534,502,503,535,536,587,504,505,506,507,366,360,361,362,433,489,434,490,435,293,384,383,461,462,520,571,601,572,491,492,493,529,583,584,586,606,605,585,436,494,496,498,497,531,532,530,499,533,495,280,363,281,141,140,45,86,144,145,87,38,27,57,103,171,46,88,47,90,151,150,89,147,219,125,220,282,364,437,368,367,283,284,148,157,48,91,152,223,226,227,287,369,296,288,370,289,290,291,371,439,508,537,538,539,589,588,541,540,391,467,440,509,542,543,590,544,545,591,592,607,546,547,548,549,441,443,442,444,445,372,387,466,446,389,386,447,373,448,388,449,376,450,510,550,551,593,552,553,594,595,608,554,555,556,557,451,374,375,377,452,453,455,454,511,558,559,596,560,561,597,598,609,562,563,564,565,153,228,292,378,379,456,512,513,566,570,600,567,457,514,294,385,463,464,465,515,516,568,599,381,458,517,382,459,518,460,519,569,229,295,154,49,92,155,230,231,297,390,298,392,301,401,403,402,394,470,393,468,521,469,395,471,472,522,156,232,299,396,474,523,473,300,397,475,398,476,477,524,525,573,399,400,478,233,303,302,234,304,404,410,482,405,479,406,407,480,481,526,408,409,411,412,158,235,305,306,413,307,308,416,417,483,309,310,311,312,159,50,93,51,20,12,28,35,71,126,16,37,17,9,10,21,23,24,25,52,54,53,96,55,99,163,11,13,31,8,22]
theorem cloF : cloP Tryz.prog 2155 [4] 0 [] = cloL := by kernel_rfl
theorem cloC : Tryz.prog.closure 4 = cloL := clo_of fuelF cloF
theorem j5 : (Rows.queryTextsRow.inPlace == Tryz.prog.inPlace 4) = true := by
  unfold Program.inPlace
  rw [cloC]
  kernel_rfl
theorem j6a : Tryz.prog.unfollowed 4 = true := by
  unfold Program.unfollowed
  rw [cloC]
  kernel_rfl
theorem j6 : (Rows.queryTextsRow.unfollowed == Tryz.prog.unfollowed 4) = true := by
  rw [j6a]
  rfl
theorem j7 : (Rows.queryTextsRow.recurses == Tryz.prog.recurses 4) = true := by
  unfold Program.recurses
  rw [j6a]
  rfl
theorem j8 : (Rows.queryTextsRow.named == Tryz.prog.varsNamed 4) = true := by
  unfold Program.varsNamed
  rw [cloC]
  kernel_rfl
end Go.Proofs.YtjcfejncjdhplaaGreatDoor
