/-
  The row of QueryYounger: its closed facts, one by one.
-/
import Derived.Test.YtkjinnjopoehhaaGreatDoorRows
import Derived.JoinedOf
import Derived.KernelRfl
set_option linter.unusedSectionVars false
set_option linter.unusedVariables false
set_option linter.unusedSimpArgs false
namespace Go.Proofs.YtkjinnjopoehhaaGreatDoor
open Go
set_option maxRecDepth 100000
theorem fNamed:Tryz.prog.funcNamed "klippe/klippelaw53.QueryYounger" = some 3:=by kernel_rfl
theorem j1:Rows.queryYoungerRow.wf (OpenSpec.ofChange Rows.queryYoungerSpec)=true:=by kernel_rfl
theorem range_split (f:Nat→Bool) (a b:Nat) (h1:(List.range a).all f=true) (h2:(List.range b).all (fun i=>f (a+i))=true):(List.range (a+b)).all f=true:=by
 rw [List.range_add,List.all_append,List.all_map,h1,Bool.true_and]
 exact h2
theorem typesN:Tryz.prog.types.size=727:=by kernel_rfl
theorem rf1:(List.range 200).all (rowFine Tryz.prog)=true:=by kernel_rfl
theorem rf2:(List.range 200).all (fun i=>rowFine Tryz.prog (200+i))=true:=by kernel_rfl
theorem rf3:(List.range 200).all (fun i=>rowFine Tryz.prog (200+(200+i)))=true:=by kernel_rfl
theorem rf4:(List.range 127).all (fun i=>rowFine Tryz.prog (200+(200+(200+i))))=true:=by kernel_rfl
theorem rf5:Tryz.prog.globals.all (fun g=>decide (g.type<Tryz.prog.types.size))=true:=by
 rw [typesN]
 kernel_rfl
theorem rf6:Tryz.prog.funcs.all (fun f=>f.params.all fun t=>decide (t<Tryz.prog.types.size))=true:=by
 rw [typesN]
 kernel_rfl
theorem j2:laidOutB Tryz.prog=true:=by
 have h:(List.range Tryz.prog.types.size).all (rowFine Tryz.prog)=true:=by
  rw [typesN]
  exact range_split _ 200 527 rf1 (range_split _ 200 327 rf2 (range_split _ 200 127 rf3 rf4))
 unfold laidOutB
 rw [h,rf5,rf6]
 rfl
theorem j3:mapsRowed Tryz.prog=true:=by kernel_rfl
theorem j4:(Tryz.f3.params.all (Tryz.prog.readableRec ·)&&namedTie Tryz.prog Rows.queryYoungerRow.named Rows.queryYoungerSpec.vars&&(Rows.queryYoungerRow.stops == [])&&(Tryz.prog.stops == [])&&(Rows.queryYoungerRow.knobs == [])&&(Tryz.prog.stopKnobs == []))=true:=by kernel_rfl
def cloP (P:Program):Nat→List FuncId→Nat→List FuncId→List FuncId
 | 0,_,_,seen=>seen.reverse
 | _,[],_,seen=>seen.reverse
 | n+1,f::todo,m,seen=>if m.testBit f then cloP P n todo m seen else cloP P n ((P.funcs[f]?).elim [] P.leadsTo++todo) (m ||| 2 ^ f) (f::seen)
theorem via_bits (P:Program):∀ (n:Nat) (todo seen:List FuncId) (m:Nat),(∀ f:Nat,seen.contains f=m.testBit f)→P.closureVia n todo seen=cloP P n todo m seen
 | 0,_,_,_,_=>rfl
 | n+1,[],_,_,_=>rfl
 | n+1,f::todo,seen,m,h=>by
  show (if seen.contains f then P.closureVia n todo seen else P.closureVia n ((P.funcs[f]?).elim [] P.leadsTo++todo) (f::seen))=(if m.testBit f then cloP P n todo m seen else cloP P n ((P.funcs[f]?).elim [] P.leadsTo++todo) (m ||| 2 ^ f) (f::seen))
  rw [h f]
  split
  ·exact via_bits P n todo seen m h
  ·refine via_bits P n _ (f::seen) _ fun g => ?_
   have e:(g == f)=decide (f=g):=by rw [Bool.eq_iff_iff,beq_iff_eq,decide_eq_true_iff]; exact eq_comm
   rw [List.contains_cons,h g,Nat.testBit_or,Nat.testBit_two_pow,e,Bool.or_comm]
theorem clo_of {P:Program} {f:FuncId} {F:Nat} {L:List FuncId} (hF:1+(P.funcs.toList.map fun g=>(P.leadsTo g).length+1).sum=F) (hL:cloP P F [f] 0 []=L):P.closure f=L:=by
 unfold Program.closure
 rw [hF,via_bits P F [f] [] 0 (fun g=>by rw [Nat.zero_testBit]; rfl),hL]
theorem fuelF:1+(Tryz.prog.funcs.toList.map fun g=>(Tryz.prog.leadsTo g).length+1).sum=2257:=by kernel_rfl
def cloL:List Nat:=[3,5,16,39,76,77,139,126,37,75,138,208,209,298,297,299,210,211,300,301,344,345,212,122,187,282,291,330,67,125,150,217,303,284,340,341,218,304,346,305,306,347,307,127,121,186,190,191,128,192,193,285,194,130,195,129,196,206,295,197,286,136,137,342,349,331,40,22,45,44,85,86,115,87,62,119,88,143,148,144,214,151,146,216,147,145,215,8,12,27,52,106,71,31,64,120,185,117,184,279,280,281,339,65,66,123,188,124,189,283,107,172,160,229,228,68,290,69,70,311,204,171,108,173,246,329,174,175,247,248,32,109,176,177,249,250,178,251,53,54,110,111,179,252,253,28,57,56,114,332,254,255,170,245,256,315,357,348,388,389,333,289,257,258,334,386,335,34,259,260,261,262,263,336,264,265,337,266,267,268,269,270,271,272,273,338,317,358,387,274,275,276,112,180,277,181,182,278,183,55,113,33,23,46,89,152,219,220,308,153,221,154,47,90,156,155,72,73,131,198,132,199,287,288,200,201,133,134,203,202,205,292,293,294,343,38,91,104,157,222,310,309,92,158,93,159,223,224,168,169,225,232,312,350,351,390,450,451,391,452,506,328,385,547,594,595,622,596,446,447,597,623,624,630,598,599,600,601,507,508,548,602,412,454,453,397,460,520,521,554,522,523,555,556,607,524,525,526,527,398,392,393,394,455,509,456,510,457,365,416,415,483,484,540,591,621,592,511,512,513,549,603,604,606,626,625,605,458,514,516,518,517,551,552,550,519,553,515,352,395,353,227,226,94,161,230,231,162,36,74,135,207,296,95,163,96,165,236,235,164,233,313,103,314,354,396,459,400,399,355,356,234,242,97,166,237,316,318,319,359,401,368,360,402,361,362,363,403,461,528,557,558,559,609,608,561,560,423,489,462,529,562,563,610,564,565,611,612,627,566,567,568,569,463,465,464,466,467,404,419,488,468,421,418,469,405,470,420,471,408,472,530,570,571,613,572,573,614,615,628,574,575,576,577,473,406,407,409,474,475,477,476,531,578,579,616,580,581,617,618,629,582,583,584,585,238,320,364,410,411,478,532,533,586,590,620,587,479,534,366,417,485,486,487,535,536,588,619,413,480,537,414,481,538,482,539,589,321,367,239,98,167,240,322,323,369,422,370,424,373,433,435,434,426,492,425,490,541,491,427,493,494,542,241,324,371,428,496,543,495,372,429,497,430,498,499,544,545,593,431,432,500,325,375,374,326,376,436,442,504,437,501,438,439,502,503,546,440,441,443,444,243,327,377,378,445,379,380,448,449,505,381,382,383,384,244,99,102,100,48,49,101,24,50,105,15,35,9,6,17,7,18,41,78,26,51,140,79,141,42,81,82,58,60,84,149,83,80,142,213,302,21,43,19,20,30,63]
theorem cloF:cloP Tryz.prog 2257 [3] 0 []=cloL:=by kernel_rfl
theorem cloC:Tryz.prog.closure 3=cloL:=clo_of fuelF cloF
theorem j5:(Rows.queryYoungerRow.inPlace == Tryz.prog.inPlace 3)=true:=by
 unfold Program.inPlace
 rw [cloC]
 kernel_rfl
theorem j6a:Tryz.prog.unfollowed 3=true:=by
 unfold Program.unfollowed
 rw [cloC]
 kernel_rfl
theorem j6:(Rows.queryYoungerRow.unfollowed == Tryz.prog.unfollowed 3)=true:=by
 rw [j6a]
 rfl
theorem j7:(Rows.queryYoungerRow.recurses == Tryz.prog.recurses 3)=true:=by
 unfold Program.recurses
 rw [j6a]
 rfl
theorem j8:(Rows.queryYoungerRow.named == Tryz.prog.varsNamed 3)=true:=by
 unfold Program.varsNamed
 rw [cloC]
 kernel_rfl
end Go.Proofs.YtkjinnjopoehhaaGreatDoor
