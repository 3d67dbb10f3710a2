/-
  klippe/history.Check on changed events: items with any names, of which one may be wrong; its runs.
-/
import Derived.Test.YtkjinnjopoehhaaGreatDoorCaseX
set_option linter.unusedSectionVars false
set_option linter.unusedVariables false
set_option linter.unusedSimpArgs false
namespace Go.Proofs.YtkjinnjopoehhaaGreatDoor
open Go Ev Klp
noncomputable def tmk {α:Type}:List (Nat × α)→T α
 | []=>.e
 | e::r=>(tmk r).set e.1 e.2
theorem tmk_mem {α:Type}:∀ {l:List (Nat × α)} {f:Nat} {r:α},(tmk l).get f=some r→(f,r)∈l
 | [],f,r,h=>by rw [tmk,T.get_e] at h; cases h
 | e::l,f,r,h=>by
  rw [tmk,T.get_set] at h
  by_cases hf:f=e.1
  ·subst hf
   simp at h
   subst h
   exact List.mem_cons_self ..
  ·rw [if_neg hf] at h
   exact List.mem_cons_of_mem _ (tmk_mem h)
theorem tmk_prim {w0:Base} {l:Memo} (hl:Memos Tryz.prog w0 l) {f:Nat} {args:List V} {v:V} (h:primOf (tmk l) f args=some v):Contract Tryz.prog w0 f args v:=by
 unfold primOf at h
 split at h
 ·rename_i r hr
  exact hl _ (tmk_mem hr) _ (look_mem h)
 ·cases h
theorem _root_.Ev.VRL.of_get {E:Env}:∀ {vs:List V} {xs:List Value},vs.length=xs.length→(∀ (l:Nat) (v:V) (x:Value),vs[l]? = some v→xs[l]? = some x→VR E v x)→VRL E vs xs
 | [],xs,h,_=>by
  cases xs with
  | nil=>rfl
  | cons _ _=>simp at h
 | v::vs,xs,h,hg=>by
  cases xs with
  | nil=>simp at h
  | cons x xs=>exact⟨x,xs,rfl,hg 0 v x rfl rfl,Ev.VRL.of_get (by simpa using h) fun l v' x' h1 h2=>hg (l+1) v' x' (by simpa using h1) (by simpa using h2)⟩
structure Good (M:Mem):Prop where
 pow:∀ s st,Pow ⟨M,s,st⟩
 tabs:∀ w:World,M.heap.size≤w.heap.size→(∀ b,b<M.heap.size→M.frz b→w.heap[b]? = M.heap[b]?)→PTab w
theorem Good.le {M M':Mem} (h:Good M) (hl:M.Le M'):Good M':=
 ⟨fun s st=>by
  obtain⟨⟨g1,z⟩,rc,e,fr,g2,g3⟩:=h.pow s st
  obtain⟨z',e'⟩:=hl.same _ g1 z
  exact⟨⟨Nat.lt_of_lt_of_le g1 hl.size,z'⟩,rc,e,fr,e'.trans g2,g3⟩,fun w g1 g2=>h.tabs w (Nat.le_trans hl.size g1) (hl.on g2)⟩
def shKind (sh:Nat):Nat:=cond (Nat.blt sh 3) 1 (sh-1)
def u8 (n:Nat):UInt8:=UInt8.ofNat n
def nameB (e:Nat):List UInt8:=[101,u8 (48+e)]
def dikeB (e sh:Nat):List UInt8:=cond (Nat.beq sh 5) [107,u8 (48+e)] []
def unitB (e j:Nat):List UInt8:=[u8 (65+e),u8 (49+j)]
def unitsB (e sh:Nat):List (List UInt8):=(List.range (sh+1)).map (unitB e)
def leafS (e sh l:Nat):V:=
 cond (Nat.beq l 0) (.int .i64 (Int.ofNat (shKind sh))) (cond (Nat.beq l 1) (.str (nameB e)) (cond (Nat.beq l 3) (cond (Nat.blt sh 3) (.slice (33+e) 0 (sh+1) (2*(sh+1)+1)) .nils)
  (cond (Nat.beq l 24) (.str (dikeB e sh)) (.sym (32*e+l)))))
def leafsS (e sh:Nat):List V:=(List.range 32).map (leafS e sh)
def strB (l:List UInt8):Value:=.string ⟨l.toArray⟩
structure EvRaw (M:Mem) (m:Value) (e sh:Nat) (ls:List Value):Prop where
 len:ls.length=32
 one:∀ x∈ls,oneV x
 kind:ls[0]? = some (.int .i64 (Int.ofNat (shKind sh)))
 name:ls[1]? = some (strB (nameB e))
 units:sh<3 → ∃ b c rc t fr rest,ls[3]? = some (.slice (some ⟨b,0,none⟩) (sh+1) c)∧sh+1≤c∧M.frz b∧M.heap[b]? = some (.cells rc t fr)∧rc.toList=(unitsB e sh).map strB++rest
 nounits:¬ sh<3→ls[3]? = some (.slice none 0 0)
 dike:ls[24]? = some (strB (dikeB e sh))
 chk:CallOk Tryz.prog M 54 [m,.agg ls.toArray] (.int .i64 0)
theorem EvRaw.le {M M':Mem} (hl:M.Le M') {m:Value} {e sh:Nat} {ls:List Value} (h:EvRaw M m e sh ls):EvRaw M' m e sh ls:=
 ⟨h.len,h.one,h.kind,h.name,fun hs=>by
  obtain⟨b,c,rc,t,fr,rest,g1,g2,z,g3,g4⟩:=h.units hs
  obtain⟨z',e'⟩:=hl.same b (Array.getElem?_eq_some_iff.1 g3).1 z
  exact⟨b,c,rc,t,fr,rest,g1,g2,z',e'.trans g3,g4⟩,h.nounits,h.dike,h.chk.le hl⟩
def evsH (l:List Nat):V:=match l with
 | []=>.nils
 | l=>.slice 32 0 l.length (2*l.length+1)
def cellsH:Nat→List Nat→List V
 | _,[]=>[]
 | e,sh::l=>leafsS e sh++cellsH (e+1) l
def unitsH:Nat→List Nat→List (Nat × List V)
 | _,[]=>[]
 | e,sh::l=>cond (Nat.blt sh 3) [(33+e,(unitsB e sh).map .str)] []++unitsH (e+1) l
def glH (l:List Nat):List (Nat × List V):=(match l with | []=>[] | l=>[(32,cellsH 0 l)])++unitsH 0 l
set_option maxRecDepth 100000
theorem leafs_ok {M:Mem} {m:Value} {e sh:Nat} {ls:List Value} (h:EvRaw M m e sh ls) {E:Env} (hs:∀ j,j<32→E.sym (32*e+j)=(ls[j]?).getD .nilFunc)
  (hu:∀ b c,ls[3]? = some (.slice (some ⟨b,0,none⟩) (sh+1) c)→sh<3 → ∃ i,E.at_ (33+e)=some i∧i.blk=b∧capOf i 0 (2*(sh+1)+1)=c):VRL E (leafsS e sh) ls:=by
 refine VRL.of_get (by simp [leafsS,h.len]) fun l v x h1 h2 => ?_
 have hl:l<32:=by
  have:=(List.getElem?_eq_some_iff.1 h2).1
  rw [h.len] at this; exact this
 have hv:v=leafS e sh l:=by
  simp [leafsS,hl] at h1
  exact h1.symm
 subst hv
 unfold leafS
 by_cases c0:l=0
 ·subst c0
  rw [show Nat.beq 0 0=true from rfl,cond_true]
  rw [h.kind] at h2; cases h2; rfl
 rw [nbeq_false c0,cond_false]
 by_cases c1:l=1
 ·subst c1
  rw [show Nat.beq 1 1=true from rfl,cond_true]
  rw [h.name] at h2; cases h2; rfl
 rw [nbeq_false c1,cond_false]
 by_cases c3:l=3
 ·subst c3
  rw [show Nat.beq 3 3=true from rfl,cond_true]
  by_cases hsh:sh<3
  ·rw [show Nat.blt sh 3=true from Nat.ble_eq_true_of_le hsh,cond_true]
   obtain⟨b,c,rc,t,fr,rest,g1,g2,gz,g3,g4⟩:=h.units hsh
   rw [g1] at h2; cases h2
   obtain⟨i,hi,hb,hc⟩:=hu b c g1 hsh
   exact⟨i,hi,by rw [hb,hc]⟩
  ·have:Nat.blt sh 3=false:=by rw [← Bool.not_eq_true]; exact fun hh=>hsh (nblt_lt hh)
   rw [this,cond_false]
   rw [h.nounits hsh] at h2; cases h2; rfl
 rw [nbeq_false c3,cond_false]
 by_cases c24:l=24
 ·subst c24
  rw [show Nat.beq 24 24=true from rfl,cond_true]
  rw [h.dike] at h2; cases h2; rfl
 rw [nbeq_false c24,cond_false]
 show x=E.sym (32*e+l)
 rw [hs l hl,h2]; rfl
def EvsRaw (M:Mem) (evs:List (Nat × List Value)) (sv:Value):Prop:=
 (evs=[]∧sv = .slice none 0 0)∨(evs≠[] ∧ ∃ b c rc t fr rest,sv = .slice (some ⟨b,0,none⟩) evs.length c∧evs.length≤c∧M.frz b∧M.heap[b]? = some (.cells rc t fr)∧rc.toList=(evs.map (·.2)).flatten++rest)
theorem unitsH_mem {l:List Nat} {e:Nat} {p:Nat × List V} (h:p∈unitsH e l):∃ k sh,l[k]? = some sh∧sh<3∧p=(33+(e+k),(unitsB (e+k) sh).map .str):=by
 induction l generalizing e with
 | nil=>cases h
 | cons x l ih=>
  rcases List.mem_append.1 h with h | h
  ·by_cases hx:x<3
   ·rw [show Nat.blt x 3=true from Nat.ble_eq_true_of_le hx,cond_true] at h
    exact⟨0,x,rfl,hx,List.mem_singleton.1 h⟩
   ·have:Nat.blt x 3=false:=by rw [← Bool.not_eq_true]; exact fun hh=>hx (nblt_lt hh)
    rw [this,cond_false] at h; cases h
  ·obtain⟨k,sh,h1,h2,rfl⟩:=ih h
   exact⟨k+1,sh,by simpa using h1,h2,by rw [show e+1+k=e+(k+1) from by omega]⟩
theorem cells_ok {E:Env}:∀ {l:List (Nat × List Value)} {e:Nat},(∀ (k:Nat) (p:Nat × List Value),l[k]? = some p→VRL E (leafsS (e+k) p.1) p.2)→VRL E (cellsH e (l.map (·.1))) ((l.map (·.2)).flatten)
 | [],_,_=>rfl
 | p::l,e,h=>by
  simp only [List.map_cons,cellsH,List.flatten_cons]
  exact (h 0 p rfl).append (cells_ok fun k q hq=>by rw [show e+1+k=e+(k+1) from by omega]; exact h (k+1) q (by simpa using hq))
theorem strs_ok {E:Env}:∀ l:List (List UInt8),VRL E (l.map .str) (l.map strB)
 | []=>rfl
 | x::l=>VRL.cons rfl (strs_ok l)
theorem unitInfo {M:Mem} {m:Value} {e sh:Nat} {ls:List Value} (h:EvRaw M m e sh ls):∃ i:Info,(∀ b c,ls[3]? = some (.slice (some ⟨b,0,none⟩) (sh+1) c)→sh<3→i.blk=b∧capOf i 0 (2*(sh+1)+1)=c):=by
 by_cases hsh:sh<3
 ·obtain⟨b,c,rc,t,fr,rest,g1,g2,gz,g3,g4⟩:=h.units hsh
  refine⟨{ blk:=b,size:=c,unit:=1 },fun b' c' h1 _ => ?_⟩
  rw [g1] at h1; cases h1
  refine⟨rfl,?_⟩
  unfold capOf
  rw [if_neg (by omega)]
  simp only [Nat.sub_zero,Nat.div_one]
  omega
 ·exact⟨{ blk:=0,size:=0,unit:=0 },fun _ _ _ h=>absurd h hsh⟩
structure Item where
 e:Nat
 sh:Nat
 res:Option Int
def shKindC (sh:Nat):Nat:=cond (Nat.beq sh 7) 4 (shKind sh)
def dikeC (e sh:Nat):List UInt8:=cond (Nat.beq sh 7) [122] (dikeB e sh)
def leafC (p e sh l:Nat):V:=
 cond (Nat.ble 8 sh) (.sym (32*p+l)) (cond (Nat.beq l 0) (.int .i64 (Int.ofNat (shKindC sh))) (cond (Nat.beq l 3) (cond (Nat.blt sh 3) (.slice (33+p) 0 (sh+1) (2*(sh+1)+1)) .nils)
  (cond (Nat.beq l 24) (.str (dikeC e sh)) (.sym (32*p+l)))))
def leafsC (p e sh:Nat):List V:=(List.range 32).map (leafC p e sh)
structure EvC (M:Mem) (m:Value) (t:Item) (ls:List Value):Prop where
 len:ls.length=32
 one:∀ x∈ls,oneV x
 kind:t.sh<8→ls[0]? = some (.int .i64 (Int.ofNat (shKindC t.sh)))
 units:t.sh<3 → ∃ b c rc u fr rest,ls[3]? = some (.slice (some ⟨b,0,none⟩) (t.sh+1) c)∧t.sh+1≤c∧M.frz b∧M.heap[b]? = some (.cells rc u fr)∧rc.toList=(unitsB t.e t.sh).map strB++rest
 nounits:t.sh<8 → ¬ t.sh<3→ls[3]? = some (.slice none 0 0)
 dike:t.sh<8→ls[24]? = some (strB (dikeC t.e t.sh))
 chk:∀ z,t.res=some z→CallOk Tryz.prog M 54 [m,.agg ls.toArray] (.int .i64 z)
 nou:t.sh=9→CallOk Tryz.prog M 55 [.agg ls.toArray] (.slice none 0 0)
theorem EvC.le {M M':Mem} (hl:M.Le M') {m:Value} {t:Item} {ls:List Value} (h:EvC M m t ls):EvC M' m t ls:=
 ⟨h.len,h.one,h.kind,fun hs=>by
  obtain⟨b,c,rc,u,fr,rest,g1,g2,z,g3,g4⟩:=h.units hs
  obtain⟨z',e'⟩:=hl.same b (Array.getElem?_eq_some_iff.1 g3).1 z
  exact⟨b,c,rc,u,fr,rest,g1,g2,z',e'.trans g3,g4⟩,h.nounits,h.dike,fun z hz=>(h.chk z hz).le hl,fun h9=>(h.nou h9).le hl⟩
theorem EvRaw.toC {M:Mem} {m:Value} {e sh:Nat} {ls:List Value} (h:EvRaw M m e sh ls) (hs:sh<7):EvC M m ⟨e,sh,some 0⟩ ls:=by
 have n7:Nat.beq sh 7=false:=nbeq_false (by omega)
 refine⟨h.len,h.one,fun _ => ?_,h.units,fun _=>h.nounits,fun _ => ?_,fun z hz=>by cases hz; exact h.chk,fun (h9:sh=9)=>absurd hs (by omega)⟩
 ·show ls[0]? = some (.int .i64 (Int.ofNat (cond (Nat.beq sh 7) 4 (shKind sh))))
  rw [n7,cond_false]; exact h.kind
 ·show ls[24]? = some (strB (cond (Nat.beq sh 7) [122] (dikeB e sh)))
  rw [n7,cond_false]; exact h.dike
noncomputable def cxC:CX:=⟨T.ofList .e 0 ((List.range 386).map .opq),.e,[],[],[]⟩
def meshC:List V:=[.sym 384,.sym 385]
def evsC (n:Nat):V:=match n with
 | 0=>.nils
 | n+1=>.slice 32 0 (n+1) (2*(n+1)+1)
def cellsC:Nat→List Item→List V
 | _,[]=>[]
 | p,t::l=>leafsC p t.e t.sh++cellsC (p+1) l
def memoC:Nat→List Item→List (List V × V)
 | _,[]=>[]
 | p,t::l=>match t.res with
  | some z=>([.agg meshC,.agg (leafsC p t.e t.sh)],.int .i64 z)::memoC (p+1) l
  | none=>memoC (p+1) l
def memoU:Nat→List Item→List (List V × V)
 | _,[]=>[]
 | p,t::l=>cond (Nat.beq t.sh 9) [([.agg (leafsC p t.e t.sh)],.nils)] []++memoU (p+1) l
def unitsC:Nat→List Item→List (Nat × List V)
 | _,[]=>[]
 | p,t::l=>cond (Nat.blt t.sh 3) [(33+p,(unitsB t.e t.sh).map .str)] []++unitsC (p+1) l
def memoCC (l:List Item):Memo:=[(52,[([.agg meshC],.int .i64 0)]),(54,memoC 0 l),(55,memoU 0 l)]
def glC (l:List Item):List (Nat × List V):=(match l with | []=>[] | l=>[(32,cellsC 0 l)])++unitsC 0 l
noncomputable def kitC (l:List Item):Kit:=⟨cxC,[],[],.e,tmk (memoCC l),.e,tmk (glC l),⟨[],[],[]⟩⟩
def argC (bs:List UInt8) (l:List Item):List V:=[.agg (meshC++[.str bs,evsC l.length])]
noncomputable def runC (bs:List UInt8) (l:List Item) (z:Int):Bool:=memoOk (kitC l).tab 10000 60 27 (argC bs l) (.int .i64 z)
theorem chkC (l:List Item):(kitC l).chk=true:=rfl
def itemsOf:Nat→List Nat→List Item
 | _,[]=>[]
 | e,sh::l=>⟨e,sh,some 0⟩::itemsOf (e+1) l
def CL:List Nat:=[0,1,2,5,9]
def cls (sh:Nat):Nat:=cond (Nat.beq sh 3||Nat.beq sh 4||Nat.beq sh 6) 9 sh
noncomputable def partC (f:List Nat→Bool) (a:Nat):Bool:=f [a]&&CL.all fun b=>f [a,b]&&CL.all fun c=>f [a,b,c]
def nthC (l:List Nat) (k:Nat):Nat:=(l[k]?).getD 9
def b0:List UInt8:=[98,97,115,101]
def bA:List UInt8:=[65,49]
def bK:List UInt8:=[107,48]
def tiltI:Item:=⟨0,9,some 0⟩
def anyI:Item:=⟨0,8,none⟩
def badI (z:Int):Item:=⟨0,8,some z⟩
def firstSh (l:List Nat):Nat:=match l with | a::_=>a | []=>6
def dupSh (sh:Nat):Int:=cond (Nat.blt sh 3||Nat.beq sh 5) 9 0
def errsC:List Int:=[7,8,12]
noncomputable def cxQ (n:Option Nat):CX:=⟨T.ofList .e 0 ((List.range 3).map .opq),.e,[],[],match n with | some n=>[(2,n)] | none=>[]⟩
def memoQ (z:Int):Memo:=[(52,[([.agg [.sym 0,.sym 1]],.int .i64 z)])]
noncomputable def kitQ (n:Option Nat) (z:Int):Kit:=⟨cxQ n,[],[],.e,tmk (memoQ z),.e,.e,⟨[],[],[]⟩⟩
noncomputable def runQ (n:Option Nat) (z:Int) (bs:List UInt8) (u:Int):Bool:=memoOk (kitQ n z).tab 10000 60 27 [.agg [.sym 0,.sym 1,.str bs,.sym 2]] (.int .i64 u)
end Go.Proofs.YtkjinnjopoehhaaGreatDoor
