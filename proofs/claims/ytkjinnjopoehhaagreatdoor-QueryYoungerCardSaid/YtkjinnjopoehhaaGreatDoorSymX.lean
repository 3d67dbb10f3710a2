/-
  The abstract evaluator on symbols: ints, texts of numbers, signs, and values that nothing is known of; what is reckoned of them.
-/
import Derived.Test.YtkjinnjopoehhaaGreatDoorSymPoly
import Derived.Test.YtkjinnjopoehhaaGreatDoorEvMemo
import Derived.Test.YtkjinnjopoehhaaGreatDoorWkNum
import Derived.Test.YtkjinnjopoehhaaGreatDoorEvTab
set_option linter.unusedSectionVars false
set_option linter.unusedVariables false
set_option linter.unusedSimpArgs false
namespace Go.Proofs.YtkjinnjopoehhaaGreatDoor
open Go Ev Klp
noncomputable section
inductive SE where
 | int (k:IntKind) (p:Poly)
 | num (a:Num)
 | sgn (q:Poly)
 | opq (j:Nat)
def dig? (c:UInt8):Bool:=Nat.ble 48 c.toNat&&Nat.ble c.toNat 57
def digs:List UInt8→Option Nat
 | [a]=>cond (dig? a) (some (a.toNat-48)) none
 | [a,b]=>cond (dig? a&&dig? b&&Nat.blt 48 a.toNat) (some (10*(a.toNat-48)+(b.toNat-48))) none
 | [a,b,c]=>cond (dig? a&&dig? b&&dig? c&&Nat.blt 48 a.toNat) (some (100*(a.toNat-48)+(10*(b.toNat-48)+(c.toNat-48)))) none
 | _=>none
def stroke:List UInt8→List UInt8 × Option (List UInt8)
 | []=>([],none)
 | c::l=>cond (Nat.beq c.toNat 47) ([],some l) (c::(stroke l).1,(stroke l).2)
def fracOf (minus:Bool) (l:List UInt8):Option Num:=
 match digs (stroke l).1 with
 | none=>none
 | some n=>cond (minus&&Nat.beq n 0) none (
  match (stroke l).2 with
  | none=>some ⟨[([],cond minus (-(n:Int)) n)],1⟩
  | some r=>match digs r with
   | none=>none
   | some d=>cond (Nat.blt 1 d&&Nat.beq (Nat.gcd n d) 1) (some ⟨[([],cond minus (-(n:Int)) n)],d⟩) none)
def constNum:List UInt8→Option Num
 | []=>none
 | c::l=>cond (Nat.beq c.toNat 45) (fracOf true l) (fracOf false (c::l))
structure CX where
 tab:T SE
 bd:T Iv
 fs:Facts
 rems:List (Poly × Nat × Poly)
 lens:List (Nat × Nat)
def CX.b (c:CX) (v:Nat):Iv:=(c.bd.get v).getD (0,0)
def lenIn:List (Nat × Nat)→Nat→Option Nat
 | [],_=>none
 | p::l,i=>cond (Nat.beq p.1 i) (some p.2) (lenIn l i)
def intE (c:CX):V→Option (IntKind × Poly)
 | .int k n=>some (k,[([],n)])
 | .sym i=>match c.tab.get i with
  | some (.int k p)=>some (k,p)
  | _=>none
 | _=>none
def numE (c:CX):V→Option Num
 | .sym i=>match c.tab.get i with
  | some (.num a)=>cond (Nat.blt 0 a.d) (some a) none
  | _=>none
 | .str l=>constNum l
 | _=>none
def sgnE (c:CX):V→Option Poly
 | .sym i=>match c.tab.get i with
  | some (.sgn q)=>some q
  | _=>none
 | _=>none
def psub (p q:Poly):Poly:=Poly.add p (Poly.scl (-1) q)
def CX.sg (c:CX) (q:Poly):SS:=signs c.b c.fs q
def cmpS (op:BinOp) (s:SS):Option Bool:=
 match op with
 | .eql=>s.test false true false
 | .neq=>s.test true false true
 | .lss=>s.test true false false
 | .leq=>s.test true true false
 | .gtr=>s.test false false true
 | .geq=>s.test false true true
 | _=>none
def cmpC (op:BinOp) (s:SS) (k:Int):Option Bool:=
 match op with
 | .eql=>s.test (decide ((-1:Int)=k)) (decide ((0:Int)=k)) (decide ((1:Int)=k))
 | .neq=>s.test (!decide ((-1:Int)=k)) (!decide ((0:Int)=k)) (!decide ((1:Int)=k))
 | .lss=>s.test (decide ((-1:Int)<k)) (decide ((0:Int)<k)) (decide ((1:Int)<k))
 | .leq=>s.test (decide ((-1:Int)≤k)) (decide ((0:Int)≤k)) (decide ((1:Int)≤k))
 | .gtr=>s.test (decide ((-1:Int) > k)) (decide ((0:Int) > k)) (decide ((1:Int) > k))
 | .geq=>s.test (decide ((-1:Int) ≥ k)) (decide ((0:Int) ≥ k)) (decide ((1:Int) ≥ k))
 | _=>none
structure BinRow where
 op:BinOp
 a:V
 b:V
 v:V
def opEq:BinOp→BinOp→Bool
 | .add,.add | .sub,.sub | .mul,.mul | .rem,.rem=>true
 | _,_=>false
def inKind (k:IntKind) (i:Iv):Bool:=ile k.min i.1&&ile i.2 k.max
def remIn (p:Poly) (n:Nat) (u:Poly):List (Poly × Nat × Poly)→Bool
 | []=>false
 | r::l=>cond (Poly.same r.1 p&&Nat.beq r.2.1 n&&Poly.same r.2.2 u) true (remIn p n u l)
def constP:Poly→Option Int
 | []=>some 0
 | [([],k)]=>some k
 | _=>none
def binRowOk (c:CX) (r:BinRow):Bool:=
 match intE c r.a,intE c r.b,intE c r.v with
 | some (j,p),some (k,q),some (l,u)=>kindEq j k&&kindEq j l&&(
   match r.op with
   | .add=>Poly.same (Poly.add p q) u&&inKind j (ivP c.b u)
   | .sub=>Poly.same (psub p q) u&&inKind j (ivP c.b u)
   | .mul=>Poly.same (Poly.mul p q) u&&inKind j (ivP c.b u)
   | .rem=>(match constP q with
    | some (.ofNat (n+1))=>remIn p (n+1) u c.rems||(Poly.same p u&&ile 0 (ivP c.b p).1&&ile (ivP c.b p).2 n)
    | _=>false)
   | _=>false)
 | _,_,_=>false
def rowsAll (c:CX) (l:List BinRow):Bool:=l.all (binRowOk c)
def binLook (op:BinOp) (a b:V):List BinRow→Option V
 | []=>none
 | r::l=>cond (opEq r.op op&&V.eq r.a a&&V.eq r.b b) (some r.v) (binLook op a b l)
structure ConvRow where
 i:Nat
 k:IntKind
 v:V
def convRowOk (c:CX) (r:ConvRow):Bool:=
 match intE c (.sym r.i),intE c r.v with
 | some (_,p),some (k,u)=>kindEq k r.k&&(Poly.same p u||(kindEq k .u8&&Poly.same (Poly.add p [([],256)]) u))&&inKind r.k (ivP c.b u)
 | _,_=>false
def convLook (i:Nat) (k:IntKind):List ConvRow→Option V
 | []=>none
 | r::l=>cond (Nat.beq r.i i&&kindEq r.k k) (some r.v) (convLook i k l)
def eqsX (c:CX) (a b:V):Option Bool:=
 match numE c a,numE c b with
 | some p,some q=>cmpS .eql (c.sg (Num.diff p q))
 | some _,none=>match b with
  | .str []=>some false
  | _=>none
 | none,some _=>match a with
  | .str []=>some false
  | _=>none
 | _,_=>none
def eqiX (c:CX) (a b:V):Option Bool:=
 match intE c a,intE c b with
 | some (j,p),some (k,q)=>cond (kindEq j k) (cmpS .eql (c.sg (psub p q))) none
 | _,_=>none
def cmpInt (c:CX) (op:BinOp) (a b:V):Option Bool:=
 match intE c a,intE c b with
 | some (j,p),some (k,q)=>cond (kindEq j k) (cmpS op (c.sg (psub p q))) none
 | _,_=>match sgnE c a,b with
  | some q,.int .i64 n=>cmpC op (c.sg q) n
  | _,_=>none
def binX (c:CX) (rows:List BinRow) (op:BinOp) (a b:V):Option V:=
 match op with
 | .eql=>match cmpInt c .eql a b with
  | some r=>some (.bool r)
  | none=>(eqsX c a b).map .bool
 | .neq=>match cmpInt c .neq a b with
  | some r=>some (.bool r)
  | none=>(eqsX c a b).map fun r=>.bool (!r)
 | .lss | .leq | .gtr | .geq=>(cmpInt c op a b).map .bool
 | _=>binLook op a b rows
def convX (tb:Tab) (rows:List ConvRow) (src dst:Nat) (a:V):Option V:=
 match a with
 | .sym i=>match tb.und src,tb.und dst with
  | some _,some (.int k)=>convLook i k rows
  | _,_=>none
 | _=>none
def keyX (c:CX) (i:Nat):Bool:=match c.tab.get i with | some (.int ..) | some (.num ..) | some (.sgn ..)=>true | _=>false
def sgnV (c:CX) (q:Poly) (v:V):Bool:=
 match v with
 | .int .i64 k=>match (c.sg q).test (decide ((-1:Int)=k)) (decide ((0:Int)=k)) (decide ((1:Int)=k)) with
  | some true=>true
  | _=>false
 | v=>match sgnE c v with
  | some u=>Poly.same q u
  | none=>false
def twoOk (c:CX) (f:Nat) (p q:Num) (v:V):Bool:=
 match v with
 | .tup [u,.int .i64 (.ofNat 0)]=>match numE c u,constP q.p with
  | some r,some (.ofNat (k+1))=>Nat.beq f 249&&Num.divOk p q r (Int.ofNat (k+1))
  | _,_=>false
 | v=>cond (Nat.beq f 32) (sgnV c (Num.diff p q) v) (match numE c v with
  | some r=>(Nat.beq f 228&&Num.addOk p q r)||(Nat.beq f 160&&Num.subOk p q r)||(Nat.beq f 204&&Num.mulOk p q r) ||
    (p.br c.b&&q.br c.b&&((Nat.beq f 42&&Num.addOk p q r)||(Nat.beq f 302&&Num.mulOk p q r)))
  | none=>false)
def oneOk (c:CX) (f:Nat) (p:Num) (v:V):Bool:=
 match v with
 | .int .i64 (.ofNat 0)=>Nat.beq f 31||(Nat.beq f 171&&sgnV c p.p v)
 | .bool false=>Nat.beq f 423
 | v=>cond (Nat.beq f 171) (sgnV c p.p v) (match numE c v with
  | some r=>(Nat.beq f 229||Nat.beq f 43)&&Num.negOk p r
  | none=>false)
def intsOk (c:CX) (f:Nat) (p q:Poly) (v:V):Bool:=
 match constP q with
 | some (.ofNat (k+1))=>Nat.blt k 999&&ile (-99999999) (ivP c.b p).1&&ile (ivP c.b p).2 99999999&&(
   match v with
   | .tup [u,.int .i64 (.ofNat 0)]=>Nat.beq f 139&&Nat.ble k 1&&ile (-8) (ivP c.b p).1&&ile (ivP c.b p).2 14&&(match numE c u with
    | some r=>Poly.same (Poly.scl r.d p) (Poly.scl ((k+1:Nat):Int) r.p)
    | none=>false)
   | v=>Nat.beq f 22&&(match numE c v with
    | some r=>Poly.same (Poly.scl r.d p) (Poly.scl ((k+1:Nat):Int) r.p)
    | none=>false))
 | _=>false
def rowX (c:CX) (f:Nat) (args:List V) (v:V):Bool:=
 match args with
 | [a,e]=>match numE c a,numE c e with
  | some p,some q=>p.fits c.b&&q.fits c.b&&twoOk c f p q v
  | _,_=>match intE c a,intE c e with
   | some (.i64,p),some (.i64,q)=>intsOk c f p q v
   | _,_=>false
 | [a]=>match numE c a with
  | some p=>p.fits c.b&&oneOk c f p v
  | none=>match intE c a,numE c v with
   | some (.i64,p),some r=>Nat.beq f 292&&ile (-1000000000) (ivP c.b p).1&&ile (ivP c.b p).2 1000000000&&Poly.same (Poly.scl r.d p) r.p
   | _,_=>false
 | _=>false
abbrev Rows:=T (T (List (List V × V)))
def keyOf:List V→Nat
 | .sym i::_=>i+1
 | _ :: .sym i::_=>i+1
 | _=>0
def rowIn (r:T (List (List V × V))) (k:Nat) (args:List V):Option V:=
 match r.get k with
 | none=>none
 | some l=>Ev.look l args
def rowLook (t:Rows) (f:Nat) (args:List V):Option V:=
 match t.get f with
 | none=>none
 | some r=>match rowIn r (keyOf args) args with
  | some v=>some v
  | none=>rowIn r 0 args
def tall {α:Type} (p:Nat→α→Bool):T α→(Nat→Nat)→Bool
 | .e,_=>true
 | .n a v b,g=>(match v with | some x=>p (g 0) x | none=>true)&&tall p a (fun k=>g (2*k+1))&&tall p b (fun k=>g (2*k+2))
def rowsX (c:CX) (t:Rows):Bool:=tall (fun f r=>tall (fun _ l=>l.all fun p=>rowX c f p.1 p.2) r id) t id
end
end Go.Proofs.YtkjinnjopoehhaaGreatDoor
namespace Go.Proofs.YtkjinnjopoehhaaGreatDoor.Ab
open Go Ev Klp
def q {α:Type} (b:T α):T α:=.n .e none b
def p {α:Type} (a:T α):T α:=.n a none .e
def m {α:Type} (a b:T α):T α:=.n a none b
def l {α:Type} (x:α):T α:=.n .e (some x) .e
def a {α:Type} (x:α) (b:T α):T α:=.n .e (some x) b
def b {α:Type} (a:T α) (x:α):T α:=.n a (some x) .e
def c {α:Type} (a:T α) (x:α) (b:T α):T α:=.n a (some x) b
def y (e n:Nat):V:=.sym (256*e+n)
def r (e i j k:Nat):List V × V:=([y e i,y e j],y e k)
def o (e i j:Nat):List V × V:=([y e i],y e j)
def z (e i:Nat):List V × V:=([y e i],.int .i64 0)
def n (v:Nat):SE:=.num ⟨[([v],1)],1⟩
def i (v:Nat):SE:=.int .i64 [([v],1)]
def i8 (v:Nat):SE:=.int .i8 [([v],1)]
def k (t:List (Nat × Int)) (d:Nat):SE:=.num ⟨t.map fun u=>([u.1],u.2),d⟩
def g (x:Int):V:=.int .i64 x
def d (x:UInt8):V:=.str [x]
def s (a b c d:Nat):V:=.slice a b c d
def C (x:List V) (e u:Nat):O:=.cells x e u false
def t (f a b c d e h:Nat) (x:Int) (made:Nat):Nat × RM:=(f,⟨[.agg [.sym a,.sym b],.agg [.sym c,.sym d],.agg [.sym e,.sym h]],[],.int .i64 x,[],made⟩)
def u (a b:Nat):V:=.agg [.sym a,.sym b]
def w (a b:Int):V:=.agg [.int .i64 a,.int .i64 b]
end Go.Proofs.YtkjinnjopoehhaaGreatDoor.Ab
namespace Go.Proofs.YtkjinnjopoehhaaGreatDoor
open Go Ev Klp
noncomputable def symX (x:Nat→Int) (o:Nat→Value) (tab:T SE) (i:Nat):Value:=
 match tab.get i with
 | some (.int k p)=>.int k (Poly.ev x p)
 | some (.num a)=>strV (canon (a.val x))
 | some (.sgn q)=>.int .i64 (sgnI (Poly.ev x q))
 | some (.opq j)=>o j
 | none=>.nilFunc
theorem symX_one {x:Nat→Int} {o:Nat→Value} {tab:T SE} (ho:∀ j,oneV (o j)) (i:Nat):oneV (symX x o tab i):=by
 unfold symX
 split
 ·trivial
 ·trivial
 ·trivial
 ·exact ho _
 ·trivial
theorem u8_dig {c:UInt8} (h:dig? c=true):48≤c.toNat∧c.toNat≤57:=by
 simp only [dig?,Bool.and_eq_true] at h
 exact⟨nble_le h.1,nble_le h.2⟩
theorem u8_of {c:UInt8} (h:dig? c=true):UInt8.ofNat (48+(c.toNat-48))=c:=by
 have:=u8_dig h
 rw [show 48+(c.toNat-48)=c.toNat from by omega]; simp
theorem digs_ok:∀ {l:List UInt8} {n:Nat},digs l=some n→l=Lib.decDigits n
 | [],n,h=>by cases h
 | [a],n,h=>by
  simp only [digs] at h
  cases hd:dig? a with
  | false=>rw [hd] at h; cases h
  | true=>
   rw [hd] at h
   cases h
   have:=u8_dig hd
   rw [dec_small (by omega),u8_of hd]
 | [a,b],n,h=>by
  simp only [digs] at h
  cases hd:(dig? a&&dig? b&&Nat.blt 48 a.toNat) with
  | false=>rw [hd] at h; cases h
  | true=>
   rw [hd] at h
   cases h
   simp only [Bool.and_eq_true] at hd
   have h1:=u8_dig hd.1.1
   have h2:=u8_dig hd.1.2
   have h3:=nblt_lt hd.2
   rw [dec_big (by omega),show (10*(a.toNat-48)+(b.toNat-48))/10=a.toNat-48 from by omega,show (10*(a.toNat-48)+(b.toNat-48))%10=b.toNat-48 from by omega,dec_small (by omega),u8_of hd.1.1,u8_of hd.1.2]
   rfl
 | [a,b,c],n,h=>by
  simp only [digs] at h
  cases hd:(dig? a&&dig? b&&dig? c&&Nat.blt 48 a.toNat) with
  | false=>rw [hd] at h; cases h
  | true=>
   rw [hd] at h
   cases h
   simp only [Bool.and_eq_true] at hd
   have h1:=u8_dig hd.1.1.1
   have h2:=u8_dig hd.1.1.2
   have h4:=u8_dig hd.1.2
   have h3:=nblt_lt hd.2
   rw [dec_big (by omega),show (100*(a.toNat-48)+(10*(b.toNat-48)+(c.toNat-48)))/10=10*(a.toNat-48)+(b.toNat-48) from by omega,show (100*(a.toNat-48)+(10*(b.toNat-48)+(c.toNat-48)))%10=c.toNat-48 from by omega,
    dec_big (by omega),show (10*(a.toNat-48)+(b.toNat-48))/10=a.toNat-48 from by omega,show (10*(a.toNat-48)+(b.toNat-48))%10=b.toNat-48 from by omega,dec_small (by omega),u8_of hd.1.1.1,u8_of hd.1.1.2,u8_of hd.1.2]
   rfl
 | _::_::_::_::_,n,h=>by cases h
theorem stroke_ok:∀ l:List UInt8,l=(stroke l).1++(match (stroke l).2 with | some r=>47::r | none=>[])
 | []=>rfl
 | c::l=>by
  simp only [stroke]
  cases h:Nat.beq c.toNat 47 with
  | true=>
   have e:c.toNat=47:=nbeq_true h
   have:c=47:=by
    rw [← UInt8.toNat_inj,e]; rfl
   rw [this]; rfl
  | false=>
   have:=stroke_ok l
   simp only [cond_false,List.cons_append]
   exact congrArg (c :: ·) this
theorem canon_frac (m:Int) (d:Nat) (hd:0<d) (hg:Nat.gcd m.natAbs d=1):canon ((m:Rat)/((d:Int):Rat))=rs m d:=by
 have e:(m:Rat)/((d:Int):Rat)=mkRat m d:=by rw [← Rat.divInt_eq_div,← Rat.divInt_ofNat]
 rw [e]
 unfold canon
 have h1:d.gcd m.natAbs=1:=by rw [Nat.gcd_comm]; exact hg
 rw [Rat.num_mkRat,Rat.den_mkRat,if_neg (by omega),if_neg (by omega),h1]
 simp
theorem frac_ok {x:Nat→Int} {minus:Bool} {l:List UInt8} {a:Num} (h:fracOf minus l=some a):canon (a.val x)=(if minus then 45::l else l)∧0<a.d:=by
 unfold fracOf at h
 split at h
 ·cases h
 ·rename_i n hn
  have hn:=digs_ok hn
  cases hm:(minus&&Nat.beq n 0) with
  | true=>rw [hm] at h; cases h
  | false=>
   rw [hm,cond_false] at h
   have hm':minus=true→n≠0:=by
    rintro rfl rfl
    simp at hm
   have hi:(if minus then 45::Lib.decDigits n else Lib.decDigits n)=Lib.itoa (cond minus (-(n:Int)) n):=by
    cases minus with
    | true=>
     have:=hm' rfl
     rw [if_pos rfl,cond_true,itoa_neg' (by omega),Int.natAbs_neg,Int.natAbs_natCast]
    | false=>rw [cond_false,itoa_pos' (by omega),Int.natAbs_natCast]; rfl
   have hl:=stroke_ok l
   split at h
   ·rename_i hs
    cases h
    rw [hs] at hl
    simp only [List.append_nil] at hl
    refine⟨?_,by show 0<1; omega⟩
    unfold Num.val
    simp only [Poly.ev,Poly.evM,Int.mul_one,Int.add_zero]
    rw [canon_frac _ 1 (by omega) (by simp),show ((1:Nat):Int)=1 from rfl,rs_one,← hi]
    rw [hl,hn]
   ·rename_i r hs
    split at h
    ·cases h
    ·rename_i d hd
     have hd:=digs_ok hd
     cases hg:(Nat.blt 1 d&&Nat.beq (Nat.gcd n d) 1) with
     | false=>rw [hg] at h; cases h
     | true=>
      rw [hg] at h
      cases h
      simp only [Bool.and_eq_true] at hg
      have g1:=nblt_lt hg.1
      have g2:=nbeq_true hg.2
      rw [hs] at hl
      refine⟨?_,by show 0<d; omega⟩
      unfold Num.val
      simp only [Poly.ev,Poly.evM,Int.mul_one,Int.add_zero]
      have hna:(cond minus (-(n:Int)) (n:Int)).natAbs=n:=by cases minus <;> simp
      rw [canon_frac _ d (by omega) (by rw [hna]; exact g2),rs_of (by omega),← hi,itoa_pos' (by omega),Int.natAbs_natCast]
      simp only at hl
      rw [hl,hn,hd]
      cases minus <;> simp
theorem constNum_ok {x:Nat→Int} {l:List UInt8} {a:Num} (h:constNum l=some a):l=canon (a.val x)∧0<a.d:=by
 unfold constNum at h
 split at h
 ·cases h
 ·rename_i c l
  cases hc:Nat.beq c.toNat 45 with
  | true=>
   rw [hc] at h
   have e:c=45:=by rw [← UInt8.toNat_inj,nbeq_true hc]; rfl
   obtain⟨h1,h2⟩:=frac_ok (x:=x) h
   rw [if_pos rfl] at h1
   exact⟨by rw [h1,e],h2⟩
  | false=>
   rw [hc] at h
   obtain⟨h1,h2⟩:=frac_ok (x:=x) h
   exact⟨h1.symm,h2⟩
theorem lenIn_mem:∀ {l:List (Nat × Nat)} {i n:Nat},lenIn l i=some n→(i,n)∈l
 | [],_,_,h=>by cases h
 | p::l,i,n,h=>by
  simp only [lenIn] at h
  cases hb:Nat.beq p.1 i with
  | true=>rw [hb] at h; cases h; rw [← nbeq_true hb]; exact List.mem_cons_self ..
  | false=>rw [hb] at h; exact List.mem_cons_of_mem _ (lenIn_mem h)
structure CXOk (w0:Base) (x:Nat→Int) (o:Nat→Value) (c:CX):Prop where
 sym:∀ i e,c.tab.get i=some e→w0.sym i=symX x o c.tab i
 bd:∀ v,(c.b v).has (x v)
 fs:FactsHold x c.fs
 rems:∀ r∈c.rems,(Poly.ev x r.1).tmod (r.2.1:Int)=Poly.ev x r.2.2
 lens:∀ p∈c.lens,∃ a k,w0.sym p.1 = .slice a p.2 k
 one:∀ j,oneV (o j)
 pow:Pow w0
 tabs:∀ w:World,w0.heap.size≤w.heap.size→(∀ b,b<w0.heap.size→w0.frz b→w.heap[b]? = w0.heap[b]?)→PTab w
section
variable {w0:Base} {x:Nat→Int} {o:Nat→Value} {c:CX} (hC:CXOk w0 x o c) {E:Env} (hE:StatOk w0 E)
include hC hE
theorem sym_val {i:Nat} {e:SE} (h:c.tab.get i=some e):E.sym i=symX x o c.tab i:=by rw [hE.sym,hC.sym i e h]
theorem intE_ok {v:V} {k:IntKind} {p:Poly} {r:Value} (h:intE c v=some (k,p)) (hv:VR E v r):r = .int k (Poly.ev x p):=by
 unfold intE at h
 split at h
 ·cases h
  rw [show r=_ from hv]
  simp [Poly.ev,Poly.evM]
 ·rename_i i
  split at h
  ·rename_i k' p' ht
   cases h
   rw [show r=E.sym i from hv,sym_val hC hE ht]
   unfold symX
   rw [ht]
  ·cases h
 ·cases h
theorem int_ret {v:V} {k:IntKind} {p:Poly} (h:intE c v=some (k,p)):VR E v (.int k (Poly.ev x p)):=by
 cases v with
 | sym i=>exact (intE_ok hC hE h (show VR E (.sym i) (E.sym i) from rfl)).symm
 | int k' n=>exact (intE_ok hC hE h (show VR E (.int k' n) (.int k' n) from rfl)).symm
 | _=>cases h
theorem numE_ok {v:V} {a:Num} {r:Value} (h:numE c v=some a) (hv:VR E v r):r=strV (canon (a.val x))∧0<a.d:=by
 unfold numE at h
 split at h
 ·rename_i i
  split at h
  ·rename_i a' ht
   cases hb:Nat.blt 0 a'.d with
   | false=>rw [hb] at h; cases h
   | true=>
    rw [hb] at h
    cases h
    rw [show r=E.sym i from hv,sym_val hC hE ht]
    unfold symX
    rw [ht]
    exact⟨rfl,nblt_lt hb⟩
  ·cases h
 ·rename_i l
  obtain⟨h1,h2⟩:=constNum_ok (x:=x) h
  rw [show r=_ from hv]
  exact⟨by rw [← h1],h2⟩
 ·cases h
theorem num_ret {v:V} {a:Num} (h:numE c v=some a):VR E v (strV (canon (a.val x))):=by
 cases v with
 | sym i=>exact (numE_ok hC hE h (show VR E (.sym i) (E.sym i) from rfl)).1.symm
 | str l=>exact (numE_ok hC hE h (show VR E (.str l) (.string ⟨l.toArray⟩) from rfl)).1.symm
 | _=>cases h
theorem sgnE_ok {v:V} {q:Poly} {r:Value} (h:sgnE c v=some q) (hv:VR E v r):r = .int .i64 (sgnI (Poly.ev x q)):=by
 unfold sgnE at h
 split at h
 ·rename_i i
  split at h
  ·rename_i q' ht
   cases h
   rw [show r=E.sym i from hv,sym_val hC hE ht]
   unfold symX
   rw [ht]
  ·cases h
 ·cases h
theorem sgn_ret {v:V} {q:Poly} (h:sgnE c v=some q):VR E v (.int .i64 (sgnI (Poly.ev x q))):=by
 cases v with
 | sym i=>exact (sgnE_ok hC hE h (show VR E (.sym i) (E.sym i) from rfl)).symm
 | _=>cases h
end
theorem ev_psub (x:Nat→Int) (p q:Poly):Poly.ev x (psub p q)=Poly.ev x p-Poly.ev x q:=by
 simp only [psub,Poly.ev_add,Poly.ev_scl]; omega
theorem cmpS_ok {op:BinOp} {s:SS} {m n:Int} {r:Bool} (h:cmpS op s=some r) (hs:s.has (m-n)) (k:IntKind):intOp op k m n=some (.bool r):=by
 have tri:m-n<0∨m-n=0∨0<m-n:=by omega
 cases op <;> simp only [cmpS] at h <;> try (cases h; done)
 all_goals
  obtain⟨h1,h2,h3⟩:=SS.test_ok h hs
  simp only [intOp]
  congr 2
  rcases tri with t | t | t
  ·rw [h1 t]; first | rw [decide_eq_true (by omega)] | rw [decide_eq_false (by omega)] | (rw [beq_eq_false_iff_ne]; omega) | (rw [bne_iff_ne]; omega)
  ·rw [h2 t]; first | rw [decide_eq_true (by omega)] | rw [decide_eq_false (by omega)] | (rw [beq_iff_eq]; omega) | (rw [bne_eq_false_iff_eq]; omega)
  ·rw [h3 t]; first | rw [decide_eq_true (by omega)] | rw [decide_eq_false (by omega)] | (rw [beq_eq_false_iff_ne]; omega) | (rw [bne_iff_ne]; omega)
theorem cmpC_ok {op:BinOp} {s:SS} {z k:Int} {r:Bool} (h:cmpC op s k=some r) (hs:s.has z) (kd:IntKind):intOp op kd (sgnI z) k=some (.bool r):=by
 have tri:z<0∨z=0∨0<z:=by omega
 have e1:z<0→sgnI z = -1:=sgnI_neg
 have e2:z=0→sgnI z=0:=sgnI_zero
 have e3:0<z→sgnI z=1:=sgnI_pos
 cases op <;> simp only [cmpC] at h <;> try (cases h; done)
 all_goals
  obtain⟨h1,h2,h3⟩:=SS.test_ok h hs
  simp only [intOp]
  congr 2
  rcases tri with t | t | t
  ·rw [h1 t,e1 t]; all_goals (first | rfl | (rw [Bool.eq_iff_iff]; simp))
  ·rw [h2 t,e2 t]; all_goals (first | rfl | (rw [Bool.eq_iff_iff]; simp))
  ·rw [h3 t,e3 t]; all_goals (first | rfl | (rw [Bool.eq_iff_iff]; simp))
theorem opEq_eq {a b:BinOp} (h:opEq a b=true):a=b:=by cases a <;> cases b <;> first | rfl | cases h
theorem constP_ok {p:Poly} {k:Int} (h:constP p=some k) (x:Nat→Int):Poly.ev x p=k:=by
 unfold constP at h
 split at h
 ·cases h; rfl
 ·cases h; simp [Poly.ev,Poly.evM]
 ·cases h
theorem binLook_mem {op:BinOp} {a b v:V}:∀ {l:List BinRow},binLook op a b l=some v→(⟨op,a,b,v⟩:BinRow)∈l
 | [],h=>by cases h
 | r::l,h=>by
  simp only [binLook] at h
  cases hb:(opEq r.op op&&V.eq r.a a&&V.eq r.b b) with
  | true=>
   rw [hb] at h
   cases h
   simp only [Bool.and_eq_true] at hb
   have e1:=opEq_eq hb.1.1
   have e2:=V.eq_eq _ _ hb.1.2
   have e3:=V.eq_eq _ _ hb.2
   obtain⟨o,a',b',v'⟩:=r
   simp only at e1 e2 e3
   subst e1; subst e2; subst e3
   exact List.mem_cons_self ..
  | false=>rw [hb] at h; exact List.mem_cons_of_mem _ (binLook_mem h)
theorem convLook_mem {i:Nat} {k:IntKind} {v:V}:∀ {l:List ConvRow},convLook i k l=some v→(⟨i,k,v⟩:ConvRow)∈l
 | [],h=>by cases h
 | r::l,h=>by
  simp only [convLook] at h
  cases hb:(Nat.beq r.i i&&kindEq r.k k) with
  | true=>
   rw [hb] at h
   cases h
   simp only [Bool.and_eq_true] at hb
   have e1:=nbeq_true hb.1
   have e2:=kindEq_iff.1 hb.2
   obtain⟨i',k',v'⟩:=r
   simp only at e1 e2
   subst e1; subst e2
   exact List.mem_cons_self ..
  | false=>rw [hb] at h; exact List.mem_cons_of_mem _ (convLook_mem h)
noncomputable def Tab.symX (tb:Tab) (c:CX) (bins:List BinRow) (convs:List ConvRow):Tab:=
 { tb with eqs:=eqsX c,eqi:=eqiX c,bin:=binX c bins,conv:=convX tb convs,keyS:=keyX c,lenS:=lenIn c.lens }
section
variable {w0:Base} {x:Nat→Int} {o:Nat→Value} {c:CX} (hC:CXOk w0 x o c) {E:Env} (hE:StatOk w0 E)
include hC
theorem sg_ok (q:Poly):(c.sg q).has (Poly.ev x q):=signs_has hC.bd hC.fs q
omit hC in
theorem canon_ne_nil (q:Rat):canon q≠[]:=by
 by_cases h:q.num<0
 ·show Klp.rs _ _≠[]
  rw [rs_neg h]; simp
 ·obtain⟨d,r,h1,_⟩:=rs_head (d:=q.den) h
  show Klp.rs _ _≠[]
  rw [h1]; simp
include hE
theorem eqsX_ok {a b:V} {r:Bool} (h:eqsX c a b=some r) {ra rb:Value} (va:VR E a ra) (vb:VR E b rb):∃ s t:ByteArray,ra = .string s∧rb = .string t∧r=(s.toList == t.toList):=by
 unfold eqsX at h
 split at h
 ·rename_i p q hp hq
  obtain⟨e1,d1⟩:=numE_ok hC hE hp va
  obtain⟨e2,d2⟩:=numE_ok hC hE hq vb
  refine⟨_,_,e1,e2,?_⟩
  rw [toList_mk,toList_mk]
  have hs:=sg_ok hC (Num.diff p q)
  have hd:=(Num.diff_val (x:=x) d1 d2).2
  simp only [cmpS] at h
  obtain⟨h1,h2,h3⟩:=SS.test_ok h hs
  by_cases he:p.val x=q.val x
  ·rw [h2 (hd.1 he),he,beq_self_eq_true]
  ·have hne:Poly.ev x (Num.diff p q)≠0:=fun e=>he (hd.2 e)
   have:r=false:=by
    rcases Int.lt_or_gt_of_ne hne with t | t
    ·exact h1 t
    ·exact h3 t
   rw [this]
   symm
   rw [beq_eq_false_iff_ne]
   exact fun e=>he (canon_inj e)
 ·rename_i p hp hq
  split at h
  ·cases h
   obtain⟨e1,d1⟩:=numE_ok hC hE hp va
   refine⟨_,_,e1,show rb = .string ⟨([]:List UInt8).toArray⟩ from vb,?_⟩
   rw [toList_mk,toList_mk]
   symm
   rw [beq_eq_false_iff_ne]
   exact canon_ne_nil _
  ·cases h
 ·rename_i p hp hq
  split at h
  ·cases h
   obtain⟨e1,d1⟩:=numE_ok hC hE hq vb
   refine⟨_,_,show ra = .string ⟨([]:List UInt8).toArray⟩ from va,e1,?_⟩
   rw [toList_mk,toList_mk]
   symm
   rw [beq_eq_false_iff_ne]
   exact fun e=>canon_ne_nil _ e.symm
  ·cases h
 ·cases h
theorem eqiX_ok {a b:V} {r:Bool} (h:eqiX c a b=some r) {ra rb:Value} (va:VR E a ra) (vb:VR E b rb):∃ (k:IntKind) (m n:Int),ra = .int k m∧rb = .int k n∧r=(m == n):=by
 unfold eqiX at h
 split at h
 ·rename_i j p k q hp hq
  cases hk:kindEq j k with
  | false=>rw [hk] at h; cases h
  | true=>
   rw [hk,cond_true] at h
   obtain rfl:=kindEq_iff.1 hk
   refine⟨j,_,_,intE_ok hC hE hp va,intE_ok hC hE hq vb,?_⟩
   have:=cmpS_ok h (by rw [← ev_psub]; exact sg_ok hC _) j
   simp only [intOp,Option.some.injEq,V.bool.injEq] at this
   exact this.symm
 ·cases h
theorem cmpInt_ok {op:BinOp} {a b:V} {r:Bool} (h:cmpInt c op a b=some r) {ra rb:Value} (va:VR E a ra) (vb:VR E b rb):∃ (k:IntKind) (m n:Int),ra = .int k m∧rb = .int k n∧intOp op k m n=some (.bool r):=by
 unfold cmpInt at h
 split at h
 ·rename_i j p k q hp hq
  cases hk:kindEq j k with
  | false=>rw [hk] at h; cases h
  | true=>
   rw [hk,cond_true] at h
   obtain rfl:=kindEq_iff.1 hk
   exact⟨j,_,_,intE_ok hC hE hp va,intE_ok hC hE hq vb,cmpS_ok h (by rw [← ev_psub]; exact sg_ok hC _) j⟩
 ·split at h
  ·rename_i q n hq hnot
   exact⟨.i64,_,n,sgnE_ok hC hE hq va,vb,cmpC_ok h (sg_ok hC _) _⟩
  ·cases h
omit hC hE in
theorem base_sr:SR tb0 Tryz.prog E:=⟨(fun _ _ _ h=>by cases h),(fun _ _ _ h=>by cases h),(fun _ _ _ _ h=>by cases h),(fun _ _ _ _ h=>by cases h),(fun _ h=>by cases h),(fun _ _ h=>by cases h),(fun _ _ _ _ h=>by cases h),(fun _ _ _ _ h=>by cases h)⟩
omit hC hE in
theorem int_bin {op:BinOp} {k:IntKind} {m n:Int} {v:V} (hop:op ≠ .shl∧op ≠ .shr) (h:intOp op k m n=some v) (t:TypeId) (y z:Operand) (w:World) :
  ∃ r,(do eqGuard op t y z (.int k m) (.int k n); Go.binOp op t (.int k m) (.int k n):Sem Value).run Tryz.prog w = .ok r w∧VR E v r:=by
 haveI:SR tb0 Tryz.prog E:=base_sr
 refine binOp_ok (tb:=tb0) (a:=.int k m) (b:=.int k n) tabOk ?_ rfl rfl w
 show intBin op k k m n=some v
 unfold intBin
 have hk:kindEq k k=true:=kindEq_iff.2 rfl
 cases op <;> first | exact absurd rfl hop.1 | exact absurd rfl hop.2 | (simp only [hk,cond_true]; exact h)
omit hC hE in
theorem wrap_in {k:IntKind} {n:Int} (h1:k.min≤n) (h2:n≤k.max):k.wrap n=n:=by
 unfold IntKind.wrap
 cases k <;> simp [IntKind.min,IntKind.max,IntKind.bits,IntKind.signed] at h1 h2 ⊢ <;> (try split) <;> omega
omit hE in
theorem inKind_ok {k:IntKind} {u:Poly} (h:inKind k (ivP c.b u)=true):k.wrap (Poly.ev x u)=Poly.ev x u:=by
 simp only [inKind,ile,Bool.and_eq_true,decide_eq_true_eq] at h
 obtain⟨i1,i2⟩:=ivP_ok hC.bd u
 exact wrap_in (by omega) (by omega)
omit hE in
theorem remIn_ok {p u:Poly} {n:Nat}:∀ {l:List (Poly × Nat × Poly)},(∀ r∈l,(Poly.ev x r.1).tmod (r.2.1:Int)=Poly.ev x r.2.2)→remIn p n u l=true→(Poly.ev x p).tmod (n:Int)=Poly.ev x u
 | [],_,h=>by cases h
 | r::l,hl,h=>by
  simp only [remIn] at h
  cases hb:(Poly.same r.1 p&&Nat.beq r.2.1 n&&Poly.same r.2.2 u) with
  | true=>
   simp only [Bool.and_eq_true] at hb
   have:=hl r (List.mem_cons_self ..)
   rw [← Poly.ev_same x hb.1.1,← Poly.ev_same x hb.2,← nbeq_true hb.1.2]
   exact this
  | false=>
   rw [hb] at h
   exact remIn_ok (fun r hr=>hl r (List.mem_cons_of_mem _ hr)) h
theorem binRow_ok {r:BinRow} (h:binRowOk c r=true) {ra rb:Value} (va:VR E r.a ra) (vb:VR E r.b rb) (t:TypeId) (y z:Operand) (w:World) :
  ∃ rr,(do eqGuard r.op t y z ra rb; Go.binOp r.op t ra rb:Sem Value).run Tryz.prog w = .ok rr w∧VR E r.v rr:=by
 unfold binRowOk at h
 split at h
 ·rename_i j p k q l u hp hq hu
  simp only [Bool.and_eq_true] at h
  obtain⟨⟨hk,hl⟩,h⟩:=h
  obtain rfl:=kindEq_iff.1 hk
  obtain rfl:=kindEq_iff.1 hl
  rw [intE_ok hC hE hp va,intE_ok hC hE hq vb]
  have fin:∀ {v:V},(r.op ≠ .shl∧r.op ≠ .shr)→intOp r.op j (Poly.ev x p) (Poly.ev x q)=some (.int j (Poly.ev x u)) →
    ∃ rr,(do eqGuard r.op t y z (.int j (Poly.ev x p)) (.int j (Poly.ev x q)); Go.binOp r.op t (.int j (Poly.ev x p)) (.int j (Poly.ev x q)):Sem Value).run Tryz.prog w = .ok rr w∧VR E r.v rr:=by
   intro v hop he
   obtain⟨rr,h1,h2⟩:=int_bin (E:=E) hop he t y z w
   exact⟨rr,h1,by rw [show rr=_ from h2]; exact int_ret hC hE hu⟩
  obtain⟨op,a,b,v⟩:=r
  simp only at h fin ⊢
  cases op <;> simp only at h <;> try (cases h; done)
  ·simp only [Bool.and_eq_true] at h
   refine fin (v:=v) ⟨by simp,by simp⟩ ?_
   simp only [intOp]
   rw [← Poly.ev_add,Poly.ev_same x h.1,inKind_ok hC h.2]
  ·simp only [Bool.and_eq_true] at h
   refine fin (v:=v) ⟨by simp,by simp⟩ ?_
   simp only [intOp]
   rw [← ev_psub,Poly.ev_same x h.1,inKind_ok hC h.2]
  ·simp only [Bool.and_eq_true] at h
   refine fin (v:=v) ⟨by simp,by simp⟩ ?_
   simp only [intOp]
   rw [← Poly.ev_mul,Poly.ev_same x h.1,inKind_ok hC h.2]
  ·split at h
   ·rename_i n hn
    have hqv:=constP_ok hn x
    refine fin (v:=v) ⟨by simp,by simp⟩ ?_
    simp only [intOp]
    rw [hqv]
    have hz:intEq (Int.ofNat (n+1)) 0=false:=rfl
    rw [hz,cond_false]
    congr 2
    simp only [Bool.or_eq_true,Bool.and_eq_true,ile,decide_eq_true_eq] at h
    rcases h with h | ⟨⟨h1,h2⟩,h3⟩
    ·exact remIn_ok hC hC.rems h
    ·obtain⟨i1,i2⟩:=ivP_ok hC.bd p
     rw [← Poly.ev_same x h1]
     exact Int.tmod_eq_of_lt (by omega) (by show _<((n+1:Nat):Int); omega)
   ·cases h
 ·cases h
theorem symX_sr {tb:Tab} (hT:TabOk tb Tryz.prog) (hq:(∀ ty i k v,tb.cutS ty i k=some v→False)∧(∀ ty i k v,tb.adrS ty i k=some v→False)) {bins:List BinRow} {convs:List ConvRow} (hb:rowsAll c bins=true) (hv:convs.all (convRowOk c)=true):SR (Tab.symX tb c bins convs) Tryz.prog E where
 eqs a b r h ra rb va vb:=eqsX_ok hC hE h va vb
 eqi a b r h ra rb va vb:=eqiX_ok hC hE h va vb
 bin op a b v h ra rb va vb t y z w:=by
  replace h:binX c bins op a b=some v:=h
  have cmp:∀ {r:Bool},cmpInt c op a b=some r→(op ≠ .shl∧op ≠ .shr) → ∃ rr,(do eqGuard op t y z ra rb; Go.binOp op t ra rb:Sem Value).run Tryz.prog w = .ok rr w∧VR E (.bool r) rr:=by
   intro r hr hop
   obtain⟨k,m,n,e1,e2,e3⟩:=cmpInt_ok hC hE hr va vb
   rw [e1,e2]
   exact int_bin hop e3 t y z w
  unfold binX at h
  split at h
  ·split at h
   ·rename_i r hr
    cases h
    exact cmp hr ⟨by simp,by simp⟩
   ·obtain⟨r,hr,rfl⟩:=Option.map_eq_some_iff.1 h
    obtain⟨s,q,rfl,rfl,rfl⟩:=eqsX_ok hC hE hr va vb
    have hstr:(eqGuard .eql t y z (.string s) (.string q)).run Tryz.prog w = .ok () w:=by unfold eqGuard; split <;> rfl
    refine⟨.bool (s.toList == q.toList),?_,rfl⟩
    simp only [Sem.run_bind,hstr,Result.andThen_ok]
    rfl
  ·split at h
   ·rename_i r hr
    cases h
    exact cmp hr ⟨by simp,by simp⟩
   ·obtain⟨r,hr,rfl⟩:=Option.map_eq_some_iff.1 h
    obtain⟨s,q,rfl,rfl,rfl⟩:=eqsX_ok hC hE hr va vb
    have hstr:(eqGuard .neq t y z (.string s) (.string q)).run Tryz.prog w = .ok () w:=by unfold eqGuard; split <;> rfl
    refine⟨.bool (!(s.toList == q.toList)),?_,rfl⟩
    simp only [Sem.run_bind,hstr,Result.andThen_ok]
    rfl
  ·obtain⟨r,hr,rfl⟩:=Option.map_eq_some_iff.1 h
   exact cmp hr ⟨by simp,by simp⟩
  ·obtain⟨r,hr,rfl⟩:=Option.map_eq_some_iff.1 h
   exact cmp hr ⟨by simp,by simp⟩
  ·obtain⟨r,hr,rfl⟩:=Option.map_eq_some_iff.1 h
   exact cmp hr ⟨by simp,by simp⟩
  ·obtain⟨r,hr,rfl⟩:=Option.map_eq_some_iff.1 h
   exact cmp hr ⟨by simp,by simp⟩
  ·have hm:=List.all_eq_true.1 hb _ (binLook_mem h)
   exact binRow_ok hC hE hm va vb t y z w
 conv src dst a v h ra va w:=by
  replace h:convX tb convs src dst a=some v:=h
  unfold convX at h
  split at h
  ·rename_i i
   split at h
   ·rename_i d k h1 h2
    have hm:=List.all_eq_true.1 hv _ (convLook_mem h)
    unfold convRowOk at hm
    simp only at hm
    split at hm
    ·rename_i j p k' u hp hu
     simp only [Bool.and_eq_true] at hm
     obtain⟨⟨m1,m2⟩,m3⟩:=hm
     obtain rfl:=kindEq_iff.1 m1
     rw [intE_ok hC hE hp va]
     have hw:k'.wrap (Poly.ev x p)=k'.wrap (Poly.ev x u):=by
      rcases Bool.or_eq_true_iff.1 m2 with m2 | m2
      ·rw [Poly.ev_same x m2]
      ·simp only [Bool.and_eq_true] at m2
       obtain⟨m4,m5⟩:=m2
       rw [kindEq_iff.1 m4,← Poly.ev_same x m5,Poly.ev_add]
       show (Poly.ev x p)%256=(Poly.ev x p+(256*1+0))%256
       omega
     refine⟨.int k' (Poly.ev x u),?_,int_ret hC hE hu⟩
     have hus:=hT.und _ _ h1
     have hud:=hT.und _ _ h2
     simp only [Go.convert,Sem.run_bind,run_underlying hus,run_underlying hud,Result.andThen_ok]
     have:(Result.ok (Value.int k' (k'.wrap (Poly.ev x p))) w:Result Value) = .ok (.int k' (Poly.ev x u)) w:=by rw [hw,inKind_ok hC m3]
     cases d <;> exact this
    ·cases hm
   ·cases h
  ·cases h
 key i h:=by
  replace h:keyX c i=true:=h
  unfold keyX at h
  split at h
  ·rename_i k p ht; rw [sym_val hC hE ht]; unfold Go.Proofs.YtkjinnjopoehhaaGreatDoor.symX; rw [ht]; exact .inl ⟨_,_,rfl⟩
  ·rename_i a ht; rw [sym_val hC hE ht]; unfold Go.Proofs.YtkjinnjopoehhaaGreatDoor.symX; rw [ht]; exact .inr ⟨_,rfl⟩
  ·rename_i q ht; rw [sym_val hC hE ht]; unfold Go.Proofs.YtkjinnjopoehhaaGreatDoor.symX; rw [ht]; exact .inl ⟨_,_,rfl⟩
  ·cases h
 len i n h:=by
  obtain⟨a,k,e⟩:=hC.lens _ (lenIn_mem h)
  exact⟨a,k,by rw [hE.sym]; exact e⟩
 cut ty i k v h:=by cases hq.1 ty i k v h
 adr ty i k v h:=by cases hq.2 ty i k v h
end
end Go.Proofs.YtkjinnjopoehhaaGreatDoor
