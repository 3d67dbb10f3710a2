/-
  klippe/rational.Compare and Sign, at the texts of small numbers.
-/
import Derived.Lib.ItoaMem
import Derived.Lib.ItoaLen
import Derived.Lib.Atoi
import Derived.Lib.IndexMore
import Derived.Lib.Strings
import Derived.Test.YtkjinnjopoehhaaGreatDoorProg
import Derived.WalkKit
import Derived.WalkSpells
import Derived.WalkLawsBesides
import Derived.Lib.Hide
import Derived.RegionTactic
import Derived.Deep.QuietTactic
import Derived.BigQuiet
import Derived.Lib.LaidTab
import Derived.Lib.AppendIntMem
import Derived.Test.YtkjinnjopoehhaaGreatDoorShelf
import Derived.Lib.AtoiErrMem
set_option linter.unusedSectionVars false
set_option linter.unusedVariables false
set_option linter.unusedSimpArgs false
namespace Klp
open Go Go.Lib
def dval (l:List UInt8):Int:=l.foldl (fun a c=>10*a+((c.toNat:Int)-48)) 0
theorem dval_snoc (l:List UInt8) (c:UInt8):dval (l++[c])=10*dval l+((c.toNat:Int)-48):=by simp [dval]
def isDig (c:UInt8):Prop:=48≤c.toNat∧c.toNat≤57
theorem toNat_dig {u:Nat} (h:u<10):(UInt8.ofNat (48+u)).toNat=48+u:=by
 have:48+u<256:=by omega
 simp [Nat.mod_eq_of_lt this]
theorem dec_small {u:Nat} (h:u<10):decDigits u=[UInt8.ofNat (48+u)]:=by rw [decDigits,dif_pos h]
theorem dec_big {u:Nat} (h:¬ u<10):decDigits u=decDigits (u/10)++[UInt8.ofNat (48+u%10)]:=by rw [decDigits,dif_neg h]
theorem dec_dig (u:Nat):∀ c∈decDigits u,isDig c:=by
 induction u using Nat.strongRecOn with
 | _ u ih=>
  intro c hc
  by_cases h:u<10
  ·rw [dec_small h,List.mem_singleton] at hc
   subst hc
   unfold isDig
   rw [toNat_dig h]; omega
  ·rw [dec_big h,List.mem_append] at hc
   rcases hc with hc | hc
   ·exact ih (u/10) (by omega) c hc
   ·rw [List.mem_singleton] at hc
    subst hc
    unfold isDig
    rw [toNat_dig (by omega)]; omega
theorem dec_val (u:Nat):dval (decDigits u)=u:=by
 induction u using Nat.strongRecOn with
 | _ u ih=>
  by_cases h:u<10
  ·rw [dec_small h]
   simp only [dval,List.foldl_cons,List.foldl_nil,toNat_dig h]; omega
  ·rw [dec_big h,dval_snoc,ih (u/10) (by omega),toNat_dig (by omega)]; omega
theorem dec_pos (u:Nat):0<(decDigits u).length:=by rw [decDigits_length]; exact nDigits_pos u
theorem dec_len {u k:Nat} (hk:1≤k) (h:u<10 ^ k):(decDigits u).length≤k:=by
 rw [decDigits_length]
 induction k generalizing u with
 | zero=>omega
 | succ k ih=>
  by_cases hu:u<10
  ·rw [nDigits_small hu]; omega
  ·rw [nDigits_big hu]
   rw [Nat.pow_succ] at h
   by_cases hk0:k=0
   ·subst hk0; omega
   ·have:=ih (u:=u/10) (by omega) (by omega); omega
theorem dec_head {u:Nat} (h:0<u):∃ c r,decDigits u=c::r∧c.toNat≠48∧isDig c:=by
 induction u using Nat.strongRecOn with
 | _ u ih=>
  by_cases h10:u<10
  ·exact⟨_,[],dec_small h10,by rw [toNat_dig h10]; omega,by unfold isDig; rw [toNat_dig h10]; omega⟩
  ·obtain⟨c,r,e,hc,hd⟩:=ih (u/10) (by omega) (by omega)
   exact⟨c,r++[UInt8.ofNat (48+u%10)],by rw [dec_big h10,e]; rfl,hc,hd⟩
theorem dec_zero:decDigits 0=[48]:=by rw [dec_small (by omega)]; rfl
theorem itoa_eq (n:Int):itoa n=(if n<0 then [45] else [])++decDigits n.natAbs:=by
 unfold itoa
 by_cases h:n<0
 ·rw [if_pos h,if_pos h]; rfl
 ·rw [if_neg h,if_neg h,List.nil_append]; congr 1; omega
theorem itoa_neg' {n:Int} (h:n<0):itoa n=45::decDigits n.natAbs:=by rw [itoa_eq,if_pos h]; rfl
theorem itoa_pos' {n:Int} (h:¬ n<0):itoa n=decDigits n.natAbs:=by rw [itoa_eq,if_neg h]; rfl
theorem itoa_mem {n:Int} {c:UInt8} (h:c∈itoa n):c=45∨isDig c:=by
 rw [itoa_eq,List.mem_append] at h
 rcases h with h | h
 ·by_cases hn:n<0
  ·rw [if_pos hn,List.mem_singleton] at h; exact .inl h
  ·rw [if_neg hn] at h; cases h
 ·exact .inr (dec_dig _ c h)
theorem itoa_no_stroke {n:Int} {c:UInt8} (h:c∈itoa n):c≠47:=by
 rcases itoa_mem h with rfl | h
 ·decide
 ·rintro rfl; exact absurd h.1 (by decide)
theorem dval_nn:∀ (l:List UInt8) (a:Int),(∀ c∈l,isDig c)→0≤a → ∀ k:Nat,decFrom k l=some (l.foldl (fun (m:Nat) c=>m*10+(c.toNat-48)) k)
 | [],_,_,_,k=>rfl
 | c::l,a,h,ha,k=>by
  have hc:=h c (List.mem_cons_self ..)
  unfold isDig at hc
  simp only [decFrom,digitVal,hc,and_self,if_true,List.foldl_cons]
  exact dval_nn l a (fun x hx=>h x (List.mem_cons_of_mem _ hx)) ha _
theorem fold_cast:∀ (l:List UInt8) (k:Nat),(∀ c∈l,isDig c)→((l.foldl (fun (m:Nat) c=>m*10+(c.toNat-48)) k:Nat):Int)=l.foldl (fun a c=>10*a+((c.toNat:Int)-48)) (k:Int)
 | [],_,_=>rfl
 | c::l,k,h=>by
  have hc:=h c (List.mem_cons_self ..)
  unfold isDig at hc
  simp only [List.foldl_cons]
  rw [fold_cast l _ fun x hx=>h x (List.mem_cons_of_mem _ hx)]
  congr 1
  omega
theorem decNat_dec (u:Nat):decNat (decDigits u)=some u:=by
 have hp:=dec_pos u
 unfold decNat
 rw [if_neg (by simp; intro e; rw [e] at hp; simp at hp)]
 rw [dval_nn _ 0 (dec_dig u) (Int.le_refl 0) 0]
 have h1:=fold_cast (decDigits u) 0 (dec_dig u)
 have h2:=dec_val u
 unfold dval at h2
 have h3:((0:Nat):Int)=0:=rfl
 rw [h3,h2] at h1
 rw [Option.some.injEq]
 omega
theorem atoi_itoa (n:Int):atoi (itoa n)=some n:=by
 by_cases h:n<0
 ·rw [itoa_neg' h]
  simp only [atoi,beq_self_eq_true,if_true,decNat_dec,Option.map_some,Option.some.injEq]
  omega
 ·rw [itoa_pos' h]
  have hp:=dec_pos n.natAbs
  cases hd:decDigits n.natAbs with
  | nil=>rw [hd] at hp; simp at hp
  | cons c r=>
   have hc:isDig c:=dec_dig n.natAbs c (by rw [hd]; exact List.mem_cons_self ..)
   unfold isDig at hc
   have h1:(c == 45)=false:=by rw [beq_eq_false_iff_ne]; rintro rfl; exact absurd hc.1 (by decide)
   have h2:(c == 43)=false:=by rw [beq_eq_false_iff_ne]; rintro rfl; exact absurd hc.1 (by decide)
   have h3:=decNat_dec n.natAbs
   rw [hd] at h3
   simp only [atoi,h1,h2,Bool.false_eq_true,if_false,h3,Option.map_some,Option.some.injEq]
   omega
theorem itoa_inj {m n:Int} (h:itoa m=itoa n):m=n:=by
 have h1:=atoi_itoa m
 rw [h,atoi_itoa n] at h1
 exact (Option.some.inj h1).symm
theorem itoa_zero:itoa 0=[48]:=by rw [itoa_pos' (by omega)]; exact dec_zero
theorem itoa_one:itoa 1=[49]:=by rw [itoa_pos' (by omega)]; exact dec_small (by omega)
def rs (n d:Int):List UInt8:=if d=1 then itoa n else itoa n++47::itoa d
theorem rs_one (n:Int):rs n 1=itoa n:=by simp [rs]
theorem rs_of {n d:Int} (h:d≠1):rs n d=itoa n++47::itoa d:=by simp [rs,h]
theorem index_none {l:List UInt8} (h:∀ c∈l,c≠47):indexByte l 47 = -1:=by
 induction l with
 | nil=>rfl
 | cons b l ih=>
  have h1:(b == 47)=false:=by rw [beq_eq_false_iff_ne]; exact h b (List.mem_cons_self ..)
  rw [indexByte,h1,ih fun c hc=>h c (List.mem_cons_of_mem _ hc)]; rfl
theorem index_at {l r:List UInt8} (h:∀ c∈l,c≠47):indexByte (l++47::r) 47=l.length:=by
 induction l with
 | nil=>simp [indexByte]
 | cons b l ih=>
  have h1:(b == 47)=false:=by rw [beq_eq_false_iff_ne]; exact h b (List.mem_cons_self ..)
  rw [List.cons_append,indexByte,h1,ih fun c hc=>h c (List.mem_cons_of_mem _ hc)]
  have:(((l.length:Nat):Int) == -1)=false:=by rw [beq_eq_false_iff_ne]; omega
  simp [this]
theorem rs_inj {n d m e:Int} (h:rs n d=rs m e):n=m∧d=e:=by
 by_cases hd:d=1
 ·subst hd
  by_cases he:e=1
  ·subst he; rw [rs_one,rs_one] at h; exact⟨itoa_inj h,rfl⟩
  ·rw [rs_one,rs_of he] at h
   have:=itoa_no_stroke (n:=n) (c:=47) (by rw [h]; simp)
   exact absurd rfl this
 ·by_cases he:e=1
  ·subst he
   rw [rs_one,rs_of hd] at h
   have:=itoa_no_stroke (n:=m) (c:=47) (by rw [← h]; simp)
   exact absurd rfl this
  ·rw [rs_of hd,rs_of he] at h
   have h1:=index_at (r:=itoa d) fun c hc=>itoa_no_stroke (n:=n) hc
   have h2:=index_at (r:=itoa e) fun c hc=>itoa_no_stroke (n:=m) hc
   rw [h,h2] at h1
   have hl:(itoa n).length=(itoa m).length:=by omega
   obtain⟨e1,e2⟩:=List.append_inj h hl
   refine⟨itoa_inj e1,itoa_inj ?_⟩
   simpa using e2
theorem rs_len {n d:Int} (h1 : -1000000000<n) (h2:n<1000000000) (h3:0<d) (h4:d<1000000000):(rs n d).length≤20:=by
 have p9:(10:Nat) ^ 9=1000000000:=by decide
 have a:(itoa n).length≤10:=by
  rw [itoa_eq,List.length_append]
  have h5:=dec_len (u:=n.natAbs) (k:=9) (by omega) (by omega)
  have h6:(if n<0 then [(45:UInt8)] else []).length≤1:=by split <;> simp
  omega
 have b:(itoa d).length≤9:=by
  rw [itoa_pos' (by omega)]
  exact dec_len (by omega) (by omega)
 unfold rs
 split
 ·omega
 ·rw [List.length_append,List.length_cons]; omega
end Klp
namespace Go.Proofs.YtkjinnjopoehhaaGreatDoor
open Go.RowKit Go Klp
def valTo (s:ByteArray) (o k:Nat):Int:=dval ((s.data.toList.drop o).take (k-o))
theorem valTo_zero (s:ByteArray) (o:Nat):valTo s o o=0:=by simp [valTo,dval]
theorem valTo_succ (s:ByteArray) (o k:Nat) (h:k<s.size) (ho:o≤k):valTo s o (k+1)=10*valTo s o k+((s[k].toNat:Int)-48):=by
 unfold valTo
 have h1:k-o<(s.data.toList.drop o).length:=by simp; have:s.size=s.data.size:=rfl; omega
 have h2:o+(k-o)=k:=by omega
 rw [show k+1-o=(k-o)+1 from by omega,List.take_succ_eq_append_getElem h1,dval_snoc]
 simp only [List.getElem_drop,h2]
 rfl
def digTo (s:ByteArray) (o n:Nat):Prop := ∀ k (h:k<s.size),o≤k→k<n→48≤s[k].toNat∧s[k].toNat≤57
theorem valTo_bd (s:ByteArray) (o n:Nat) (hd:digTo s o n) (hn:n≤s.size):∀ j,o+j≤n→0≤valTo s o (o+j)∧valTo s o (o+j)<10 ^ j
 | 0,_=>by simp [valTo_zero]
 | j+1,hk=>by
  have ih:=valTo_bd s o n hd hn j (by omega)
  have h2:=hd (o+j) (by omega) (by omega) (by omega)
  rw [show o+(j+1)=(o+j)+1 from by omega,valTo_succ s o (o+j) (by omega) (by omega),Int.pow_succ]
  omega
theorem pow_le9 (k:Nat) (h:k≤9):(10:Int) ^ k≤1000000000:=by
 have:k=0∨k=1∨k=2∨k=3∨k=4∨k=5∨k=6∨k=7∨k=8∨k=9:=by omega
 rcases this with rfl | rfl | rfl | rfl | rfl | rfl | rfl | rfl | rfl | rfl <;> decide
theorem valTo_lt (s:ByteArray) (o n k:Nat) (hd:digTo s o n) (hn:n≤s.size) (ho:o≤k) (hk:k≤n) (h9:n≤o+9):0≤valTo s o k∧valTo s o k<1000000000:=by
 have h:=valTo_bd s o n hd hn (k-o) (by omega)
 have hp:=pow_le9 (k-o) (by omega)
 rw [show o+(k-o)=k from by omega] at h
 omega
set_option maxHeartbeats 1000000 in
theorem quick_pn (s:ByteArray) (w:World) (B:Nat) (hB:B≤9) (hB0:0<B) (h0:0<s.size) (h45:((s[0].toNat:Int) == 45)=false) (hd:digTo s 0 B) (hs:s.size=B) :
  Calls Tryz.prog 68 #[.string s] w fun e w'=>e = .returned (.tuple #[.int .i64 (valTo s 0 B),.int .i64 (1),.bool true])∧w'=w:=by
 have HD:=Lib.hid hd; clear hd
 have HS:=Lib.hid hs
 have hs1:s.size≤30:=by omega
 have hs2:B≤s.size:=by omega
 clear hs
 go_enter Tryz.func68,Tryz.ntmps68
 go_wp2
 go_loop [2,3,4,5] (fun n d f i => ∃ k:Nat,0≤k∧k≤B∧i = .int .i64 k∧n = .int .i64 (valTo s 0 k)∧d = .int .i64 0∧f = .bool false) (fun _ _ _ i=>100-(intOf i).toNat)
 case atStart=>exact⟨0,by omega,by omega,rfl,by rw [valTo_zero],rfl,rfl⟩
 case round=>
  obtain⟨k,hk0,hk,rfl,rfl,rfl,rfl⟩:=hrel
  have hb:=valTo_lt s 0 B k HD.out hs2 hk0 hk (by omega)
  by_cases hlt:k<B
  ·have hkl:k<s.size:=by omega
   have hdk:=HD.out k hkl hk0 hlt
   have HP:=Lib.hid (valTo_succ s 0 k hkl hk0)
   have h47':((s[k].toNat:Int) != 47)=true:=by simp; omega
   go_wp2
   go_round
   case rel=>exact⟨k+1,by omega,by omega,by go_num,by rw [HP.out],rfl,rfl⟩
   case measure=>simp [intOf]; omega
  ·obtain rfl:k=B:=by omega
   have hge:¬ k<s.size:=by have:=HS.out; omega
   have heq:(((k:Int)) == (s.size:Int))=true:=by have:=HS.out; simp; omega
   go_wp2
   go_ret3
   exact⟨rfl,rfl⟩
set_option maxHeartbeats 1000000 in
theorem quick_ps (s:ByteArray) (w:World) (B:Nat) (hB:B≤9) (hB0:0<B) (h0:0<s.size) (h45:((s[0].toNat:Int) == 45)=false) (hd:digTo s 0 B) (M:Nat) (hM:M≤B+10) (hs:s.size=M) (hsl:B<s.size) (h47:((s[B].toNat:Int) != 47)=false) (hd2:digTo s (B+1) M) :
  Calls Tryz.prog 68 #[.string s] w fun e w'=>e = .returned (.tuple #[.int .i64 (valTo s 0 B),.int .i64 (valTo s (B+1) M),.bool true])∧w'=w:=by
 have HD:=Lib.hid hd; clear hd
 have HS:=Lib.hid hs
 have hs1:s.size≤30:=by omega
 have hs2:B≤s.size:=by omega
 have HD2:=Lib.hid hd2; clear hd2
 have H47:=Lib.hid h47; clear h47
 clear hs
 go_enter Tryz.func68,Tryz.ntmps68
 go_wp2
 go_loop [2,3,4,5] (fun n d f i => ∃ k:Nat,0≤k∧k≤B∧i = .int .i64 k∧n = .int .i64 (valTo s 0 k)∧d = .int .i64 0∧f = .bool false) (fun _ _ _ i=>100-(intOf i).toNat)
 case atStart=>exact⟨0,by omega,by omega,rfl,by rw [valTo_zero],rfl,rfl⟩
 case round=>
  obtain⟨k,hk0,hk,rfl,rfl,rfl,rfl⟩:=hrel
  have hb:=valTo_lt s 0 B k HD.out hs2 hk0 hk (by omega)
  by_cases hlt:k<B
  ·have hkl:k<s.size:=by omega
   have hdk:=HD.out k hkl hk0 hlt
   have HP:=Lib.hid (valTo_succ s 0 k hkl hk0)
   have h47':((s[k].toNat:Int) != 47)=true:=by simp; omega
   go_wp2
   go_round
   case rel=>exact⟨k+1,by omega,by omega,by go_num,by rw [HP.out],rfl,rfl⟩
   case measure=>simp [intOf]; omega
  ·obtain rfl:k=B:=by omega
   have h47:=H47.out
   have hne:(((k:Int)) == (s.size:Int))=false:=by have:=HS.out; simp; omega
   go_wp2
   go_loop [2,3,4,5] (fun m n f i => ∃ j:Nat,k+1≤j∧j≤M∧i = .int .i64 j∧n = .int .i64 (valTo s (k+1) j)∧m = .int .i64 (valTo s 0 k)∧f = .bool false) (fun _ _ _ i=>100-(intOf i).toNat)
   case atStart=>exact⟨k+1,by omega,by have:=HS.out; omega,by go_num,by rw [valTo_zero],rfl,rfl⟩
   case round=>
    obtain⟨j,hj0,hj,rfl,rfl,rfl,rfl⟩:=hrel
    have hb2:=valTo_lt s (k+1) M j HD2.out (by have:=HS.out; omega) hj0 hj (by omega)
    have hjs:j≤s.size:=by have:=HS.out; omega
    by_cases hlt2:j<M
    ·have hkl:j<s.size:=by have:=HS.out; omega
     have hdk:=HD2.out j hkl hj0 hlt2
     have HP:=Lib.hid (valTo_succ s (k+1) j hkl hj0)
     have h9:(((j:Int)-((k:Int)+1)) == 9)=false:=by simp; omega
     go_wp2
     go_round
     case rel=>exact⟨j+1,by omega,by omega,by go_num,by rw [HP.out],rfl,rfl⟩
     case measure=>simp [intOf]; omega
    ·obtain rfl:j=M:=by omega
     have hge:¬ j<s.size:=by have:=HS.out; omega
     go_wp2
     go_ret3
     exact⟨rfl,rfl⟩
set_option maxHeartbeats 1000000 in
theorem quick_mn (s:ByteArray) (w:World) (B:Nat) (hB:B≤10) (hB0:1<B) (h0:0<s.size) (h45:((s[0].toNat:Int) == 45)=true) (hd:digTo s 1 B) (hs:s.size=B) :
  Calls Tryz.prog 68 #[.string s] w fun e w'=>e = .returned (.tuple #[.int .i64 (-valTo s 1 B),.int .i64 (1),.bool true])∧w'=w:=by
 have HD:=Lib.hid hd; clear hd
 have HS:=Lib.hid hs
 have hs1:s.size≤30:=by omega
 have hs2:B≤s.size:=by omega
 clear hs
 go_enter Tryz.func68,Tryz.ntmps68
 go_wp2
 go_loop [2,3,4,5] (fun n d f i => ∃ k:Nat,1≤k∧k≤B∧i = .int .i64 k∧n = .int .i64 (valTo s 1 k)∧d = .int .i64 0∧f = .bool false) (fun _ _ _ i=>100-(intOf i).toNat)
 case atStart=>exact⟨1,by omega,by omega,rfl,by rw [valTo_zero],rfl,rfl⟩
 case round=>
  obtain⟨k,hk0,hk,rfl,rfl,rfl,rfl⟩:=hrel
  have hb:=valTo_lt s 1 B k HD.out hs2 hk0 hk (by omega)
  by_cases hlt:k<B
  ·have hkl:k<s.size:=by omega
   have hdk:=HD.out k hkl hk0 hlt
   have HP:=Lib.hid (valTo_succ s 1 k hkl hk0)
   have h47':((s[k].toNat:Int) != 47)=true:=by simp; omega
   go_wp2
   go_round
   case rel=>exact⟨k+1,by omega,by omega,by go_num,by rw [HP.out],rfl,rfl⟩
   case measure=>simp [intOf]; omega
  ·obtain rfl:k=B:=by omega
   have hge:¬ k<s.size:=by have:=HS.out; omega
   have heq:(((k:Int)) == (s.size:Int))=true:=by have:=HS.out; simp; omega
   go_wp2
   go_ret3
   exact⟨rfl,rfl⟩
set_option maxHeartbeats 1000000 in
theorem quick_ms (s:ByteArray) (w:World) (B:Nat) (hB:B≤10) (hB0:1<B) (h0:0<s.size) (h45:((s[0].toNat:Int) == 45)=true) (hd:digTo s 1 B) (M:Nat) (hM:M≤B+10) (hs:s.size=M) (hsl:B<s.size) (h47:((s[B].toNat:Int) != 47)=false) (hd2:digTo s (B+1) M) :
  Calls Tryz.prog 68 #[.string s] w fun e w'=>e = .returned (.tuple #[.int .i64 (-valTo s 1 B),.int .i64 (valTo s (B+1) M),.bool true])∧w'=w:=by
 have HD:=Lib.hid hd; clear hd
 have HS:=Lib.hid hs
 have hs1:s.size≤30:=by omega
 have hs2:B≤s.size:=by omega
 have HD2:=Lib.hid hd2; clear hd2
 have H47:=Lib.hid h47; clear h47
 clear hs
 go_enter Tryz.func68,Tryz.ntmps68
 go_wp2
 go_loop [2,3,4,5] (fun n d f i => ∃ k:Nat,1≤k∧k≤B∧i = .int .i64 k∧n = .int .i64 (valTo s 1 k)∧d = .int .i64 0∧f = .bool false) (fun _ _ _ i=>100-(intOf i).toNat)
 case atStart=>exact⟨1,by omega,by omega,rfl,by rw [valTo_zero],rfl,rfl⟩
 case round=>
  obtain⟨k,hk0,hk,rfl,rfl,rfl,rfl⟩:=hrel
  have hb:=valTo_lt s 1 B k HD.out hs2 hk0 hk (by omega)
  by_cases hlt:k<B
  ·have hkl:k<s.size:=by omega
   have hdk:=HD.out k hkl hk0 hlt
   have HP:=Lib.hid (valTo_succ s 1 k hkl hk0)
   have h47':((s[k].toNat:Int) != 47)=true:=by simp; omega
   go_wp2
   go_round
   case rel=>exact⟨k+1,by omega,by omega,by go_num,by rw [HP.out],rfl,rfl⟩
   case measure=>simp [intOf]; omega
  ·obtain rfl:k=B:=by omega
   have h47:=H47.out
   have hne:(((k:Int)) == (s.size:Int))=false:=by have:=HS.out; simp; omega
   go_wp2
   go_loop [2,3,4,5] (fun m n f i => ∃ j:Nat,k+1≤j∧j≤M∧i = .int .i64 j∧n = .int .i64 (valTo s (k+1) j)∧m = .int .i64 (-valTo s 1 k)∧f = .bool false) (fun _ _ _ i=>100-(intOf i).toNat)
   case atStart=>exact⟨k+1,by omega,by have:=HS.out; omega,by go_num,by rw [valTo_zero],rfl,rfl⟩
   case round=>
    obtain⟨j,hj0,hj,rfl,rfl,rfl,rfl⟩:=hrel
    have hb2:=valTo_lt s (k+1) M j HD2.out (by have:=HS.out; omega) hj0 hj (by omega)
    have hjs:j≤s.size:=by have:=HS.out; omega
    by_cases hlt2:j<M
    ·have hkl:j<s.size:=by have:=HS.out; omega
     have hdk:=HD2.out j hkl hj0 hlt2
     have HP:=Lib.hid (valTo_succ s (k+1) j hkl hj0)
     have h9:(((j:Int)-((k:Int)+1)) == 9)=false:=by simp; omega
     go_wp2
     go_round
     case rel=>exact⟨j+1,by omega,by omega,by go_num,by rw [HP.out],rfl,rfl⟩
     case measure=>simp [intOf]; omega
    ·obtain rfl:j=M:=by omega
     have hge:¬ j<s.size:=by have:=HS.out; omega
     go_wp2
     go_ret3
     exact⟨rfl,rfl⟩
theorem size_mk (l:List UInt8):(⟨l.toArray⟩:ByteArray).size=l.length:=by simp [ByteArray.size]
theorem get_mk (l:List UInt8) (k:Nat) (h:k<(⟨l.toArray⟩:ByteArray).size) (h':k<l.length):(⟨l.toArray⟩:ByteArray)[k]=l[k]:=rfl
theorem digTo_mk {p q r:List UInt8} (hq:∀ c∈q,isDig c):digTo ⟨(p++(q++r)).toArray⟩ p.length (p.length+q.length):=by
 intro k h h1 h2
 have hk:k<(p++(q++r)).length:=by rw [size_mk] at h; exact h
 rw [get_mk _ k h hk,List.getElem_append_right h1,List.getElem_append_left (by omega)]
 exact hq _ (List.getElem_mem ..)
theorem valTo_mk (p q r:List UInt8):valTo ⟨(p++(q++r)).toArray⟩ p.length (p.length+q.length)=dval q:=by
 unfold valTo
 simp only [List.drop_left,Nat.add_sub_cancel_left,List.take_left]
theorem quick_rs (n d:Int) (w:World) (h1 : -1000000000<n) (h2:n<1000000000) (h3:0<d) (h4:d<1000000000) :
  Calls Tryz.prog 68 #[.string ⟨(rs n d).toArray⟩] w fun e w'=>e = .returned (.tuple #[.int .i64 n,.int .i64 d,.bool true])∧w'=w:=by
 have p9:(10:Nat) ^ 9=1000000000:=by decide
 have l1:=dec_len (u:=n.natAbs) (k:=9) (by omega) (by omega)
 have l2:=dec_len (u:=d.natAbs) (k:=9) (by omega) (by omega)
 have q1:=dec_pos n.natAbs
 have q2:=dec_pos d.natAbs
 have v1:=dec_val n.natAbs
 have v2:=dec_val d.natAbs
 have hdp:¬ d<0:=by omega
 by_cases hn:n<0
 ·by_cases hd:d=1
  ·subst hd
   rw [rs_one,itoa_neg' hn]
   have e:(45::Lib.decDigits n.natAbs)=[45]++(Lib.decDigits n.natAbs++[]):=by simp
   have hv:=valTo_mk [45] (Lib.decDigits n.natAbs) []
   have hdg:=digTo_mk (p:=[45]) (r:=[]) (dec_dig n.natAbs)
   rw [← e] at hv hdg
   simp only [List.length_singleton] at hv hdg
   refine (quick_mn ⟨(45::Lib.decDigits n.natAbs).toArray⟩ w (1+(Lib.decDigits n.natAbs).length) (by omega) (by omega) (by rw [size_mk]; simp) rfl hdg (by rw [size_mk]; simp; omega)).mono ?_
   rintro e w' ⟨rfl,rfl⟩
   refine⟨?_,rfl⟩
   rw [hv,v1]
   congr 5
   omega
  ·rw [rs_of hd,itoa_neg' hn,itoa_pos' hdp]
   have e:(45::Lib.decDigits n.natAbs++47::Lib.decDigits d.natAbs)=[45]++(Lib.decDigits n.natAbs++47::Lib.decDigits d.natAbs):=by simp
   have e':(45::Lib.decDigits n.natAbs++47::Lib.decDigits d.natAbs)=([45]++Lib.decDigits n.natAbs++[47])++(Lib.decDigits d.natAbs++[]):=by simp
   have hv:=valTo_mk [45] (Lib.decDigits n.natAbs) (47::Lib.decDigits d.natAbs)
   have hdg:=digTo_mk (p:=[45]) (r:=47::Lib.decDigits d.natAbs) (dec_dig n.natAbs)
   have hv2:=valTo_mk ([45]++Lib.decDigits n.natAbs++[47]) (Lib.decDigits d.natAbs) []
   have hdg2:=digTo_mk (p:=[45]++Lib.decDigits n.natAbs++[47]) (r:=[]) (dec_dig d.natAbs)
   rw [← e] at hv hdg
   rw [← e'] at hv2 hdg2
   have el:([45]++Lib.decDigits n.natAbs++[47]).length=1+(Lib.decDigits n.natAbs).length+1:=by simp; omega
   rw [el] at hv2 hdg2
   simp only [List.length_singleton] at hv hdg
   have hs:(⟨(45::Lib.decDigits n.natAbs++47::Lib.decDigits d.natAbs).toArray⟩:ByteArray).size=1+(Lib.decDigits n.natAbs).length+1+(Lib.decDigits d.natAbs).length:=by rw [size_mk]; simp; omega
   refine (quick_ms ⟨(45::Lib.decDigits n.natAbs++47::Lib.decDigits d.natAbs).toArray⟩ w (1+(Lib.decDigits n.natAbs).length) (by omega) (by omega) (by omega) rfl hdg (1+(Lib.decDigits n.natAbs).length+1+(Lib.decDigits d.natAbs).length) (by omega) hs (by omega) ?_ hdg2).mono ?_
   ·rw [get_mk _ _ (by omega) (by simp; omega),List.getElem_append_right (by simp; omega)]
    simp [Nat.add_comm]
   ·rintro e w' ⟨rfl,rfl⟩
    refine⟨?_,rfl⟩
    rw [hv,v1,hv2,v2]
    have a1 : -((n.natAbs:Nat):Int)=n:=by omega
    have a2:((d.natAbs:Nat):Int)=d:=by omega
    rw [a1,a2]
 ·obtain⟨c,r,hc,hcd⟩:∃ c r,Lib.decDigits n.natAbs=c::r∧isDig c:=by
   cases hl:Lib.decDigits n.natAbs with
   | nil=>rw [hl] at q1; simp at q1
   | cons c r=>exact⟨c,r,rfl,dec_dig n.natAbs c (by rw [hl]; exact List.mem_cons_self ..)⟩
  unfold isDig at hcd
  have h45:(((c.toNat:Nat):Int) == 45)=false:=by rw [beq_eq_false_iff_ne]; omega
  by_cases hd:d=1
  ·subst hd
   rw [rs_one,itoa_pos' hn]
   have e:Lib.decDigits n.natAbs=[]++(Lib.decDigits n.natAbs++[]):=by simp
   have hv:=valTo_mk [] (Lib.decDigits n.natAbs) []
   have hdg:=digTo_mk (p:=[]) (r:=[]) (dec_dig n.natAbs)
   rw [← e] at hv hdg
   simp only [List.length_nil,Nat.zero_add] at hv hdg
   refine (quick_pn ⟨(Lib.decDigits n.natAbs).toArray⟩ w (Lib.decDigits n.natAbs).length (by omega) (by omega) (by rw [size_mk]; omega) ?_ hdg (by rw [size_mk])).mono ?_
   ·rw [get_mk _ 0 (by rw [size_mk]; omega) q1]
    simp only [hc,List.getElem_cons_zero]
    exact h45
   ·rintro e w' ⟨rfl,rfl⟩
    refine⟨?_,rfl⟩
    rw [hv,v1]
    have a1:((n.natAbs:Nat):Int)=n:=by omega
    rw [a1]
  ·rw [rs_of hd,itoa_pos' hn,itoa_pos' hdp]
   have e:(Lib.decDigits n.natAbs++47::Lib.decDigits d.natAbs)=[]++(Lib.decDigits n.natAbs++47::Lib.decDigits d.natAbs):=by simp
   have e':(Lib.decDigits n.natAbs++47::Lib.decDigits d.natAbs)=(Lib.decDigits n.natAbs++[47])++(Lib.decDigits d.natAbs++[]):=by simp
   have hv:=valTo_mk [] (Lib.decDigits n.natAbs) (47::Lib.decDigits d.natAbs)
   have hdg:=digTo_mk (p:=[]) (r:=47::Lib.decDigits d.natAbs) (dec_dig n.natAbs)
   have hv2:=valTo_mk (Lib.decDigits n.natAbs++[47]) (Lib.decDigits d.natAbs) []
   have hdg2:=digTo_mk (p:=Lib.decDigits n.natAbs++[47]) (r:=[]) (dec_dig d.natAbs)
   rw [← e] at hv hdg
   rw [← e'] at hv2 hdg2
   have el:(Lib.decDigits n.natAbs++[47]).length=(Lib.decDigits n.natAbs).length+1:=by simp
   rw [el] at hv2 hdg2
   simp only [List.length_nil,Nat.zero_add] at hv hdg
   have hs:(⟨(Lib.decDigits n.natAbs++47::Lib.decDigits d.natAbs).toArray⟩:ByteArray).size=(Lib.decDigits n.natAbs).length+1+(Lib.decDigits d.natAbs).length:=by rw [size_mk]; simp; omega
   refine (quick_ps ⟨(Lib.decDigits n.natAbs++47::Lib.decDigits d.natAbs).toArray⟩ w (Lib.decDigits n.natAbs).length (by omega) (by omega) (by omega) ?_ hdg ((Lib.decDigits n.natAbs).length+1+(Lib.decDigits d.natAbs).length) (by omega) hs (by omega) ?_ hdg2).mono ?_
   ·rw [get_mk _ 0 (by omega) (by simp; omega),List.getElem_append_left (by omega)]
    simp only [hc,List.getElem_cons_zero]
    exact h45
   ·rw [get_mk _ _ (by omega) (by simp),List.getElem_append_right (by omega)]
    simp
   ·rintro e w' ⟨rfl,rfl⟩
    refine⟨?_,rfl⟩
    rw [hv,v1,hv2,v2]
    have a1:((n.natAbs:Nat):Int)=n:=by omega
    have a2:((d.natAbs:Nat):Int)=d:=by omega
    rw [a1,a2]
end Go.Proofs.YtkjinnjopoehhaaGreatDoor
namespace Go.Proofs.YtkjinnjopoehhaaGreatDoor
open Go.RowKit Go
abbrev Kp (w w':World):Prop:=Below w.heap.size w w'
theorem Kp.refl (w:World):Kp w w:=Below.refl _ _
theorem Kp.then {a b c:World} (h:Kp a b) (h':Kp b c):Kp a c:=h.trans (h'.mono h.size)
theorem Kp.drewN (w:World) (n:Nat):Kp w (w.drewN n):=⟨rfl,rfl,rfl,Nat.le_refl _,fun _ _=>rfl⟩
theorem Kp.drew (w:World):Kp w w.drew:=⟨rfl,rfl,rfl,Nat.le_refl _,fun _ _=>rfl⟩
theorem Kp.grow (w:World) (os:Array Obj):Kp w (Go.Sort.grow w os):=by
 refine⟨rfl,rfl,rfl,?_,?_⟩
 ·simp [Go.Sort.grow]
 ·intro b hb; simp [Go.Sort.grow,Array.getElem?_append,hb]
def PTab (w:World):Prop:=Lib.TabIs Tryz.prog w "internal/strconv.uint64pow10" .u64 Lib.pow10Tab
theorem PTab.kp {w w':World} (h:PTab w) (hk:Kp w w'):PTab w':=Lib.tabBelow_of_tabIs h w' hk
theorem itoa_any (n:Int) (w:World) (h0 : -9223372036854775808≤n) (h1:n≤9223372036854775807) (ht:PTab w) :
  Calls Tryz.prog 37 #[.int .i64 n] w fun e w'=>e = .returned (.string ⟨(Lib.itoa n).toArray⟩)∧Kp w w':=
 (Tryz.strconv_Itoa n h0 h1 w ht).mono fun e w' ⟨h,k,os,hw⟩=>⟨h,by rw [hw]; exact (Kp.drewN w k).then (Kp.grow _ os)⟩
def ratS (n d:Int):ByteArray:=if d=1 then ⟨(Lib.itoa n).toArray⟩ else ⟨(Lib.itoa n).toArray⟩++⟨#[47]⟩++⟨(Lib.itoa d).toArray⟩
theorem gcd_step (x y:Int):(Int.gcd y (x.tmod y):Int)=Int.gcd x y:=by
 unfold Int.gcd
 rw [Int.natAbs_tmod,Nat.gcd_comm x.natAbs,Nat.gcd_rec y.natAbs x.natAbs,Nat.gcd_comm (x.natAbs%y.natAbs)]
theorem tmod_lt (x y:Int) (hy:¬ y=0):(x.tmod y).natAbs<y.natAbs:=by
 rw [Int.natAbs_tmod]
 exact Nat.mod_lt _ (by omega)
theorem tmod_bd (x y:Int) (h1 : -9223372036854775807≤x) (h2:x≤9223372036854775807) : -9223372036854775807≤x.tmod y∧x.tmod y≤9223372036854775807:=by
 have h:(x.tmod y).natAbs≤x.natAbs:=by rw [Int.natAbs_tmod]; exact Nat.mod_le _ _
 omega
set_option maxHeartbeats 400000 in
theorem small_any (n d g n' d':Int) (w:World) (hn : -9223372036854775807≤n) (hn':n≤9223372036854775807) (hd:1≤d) (hd':d≤9223372036854775807)
  (hg1:1≤g) (hg2:g≤d) (hgcd:(Int.gcd n d:Int)=g) (hq1:n.tdiv g=n') (hq2:d/g=d') (hb1 : -9223372036854775807≤n') (hb2:n'≤9223372036854775807) (hb3:1≤d') (hb4:d'≤9223372036854775807) (ht:PTab w) :
  Calls Tryz.prog 290 #[.int .i64 n,.int .i64 d] w fun e w'=>e = .returned (.string (ratS n' d'))∧Kp w w':=by
 have HT:=Lib.hid ht; clear ht
 have HGC:=Lib.hid hgcd; clear hgcd
 have HQ1:=Lib.hid hq1; clear hq1
 have HQ2:=Lib.hid hq2; clear hq2
 go_enter Tryz.func290,Tryz.ntmps290
 go_wp2
 go_loopw [5,6] (fun a b wr => ∃ x y:Int,a = .int .i64 x∧b = .int .i64 y∧(Int.gcd x y:Int)=g ∧ -9223372036854775807≤x∧x≤9223372036854775807 ∧ -9223372036854775807≤y∧y≤9223372036854775807∧Kp w wr) (fun _ b _=>(intOf b).natAbs)
 case atStart=>exact⟨n,d,rfl,rfl,HGC.out,by omega,by omega,by omega,by omega,Kp.refl w⟩
 case round=>
  obtain⟨x,y,rfl,rfl,hg,hx1,hx2,hy1,hy2,hk⟩:=hrel
  have HG:=Lib.hid hg; clear hg
  have HK:=Lib.hid hk; clear hk
  by_cases hy:y=0
  ·subst hy
   have hxg:x=g∨x = -g:=by have:=HG.out; rw [Int.gcd_zero_right] at this; omega
   have hq1:=HQ1.out
   have hq2:=HQ2.out
   clear HG
   have hgz:(g == 0)=false:=by simp; omega
   rcases hxg with rfl | rfl
   ·go_wp2
    go_region
    by_cases h1:d'=1
    ·have H1:=Lib.hid h1; clear h1
     have h1':(d' == 1)=true:=by simp [H1.out]
     go_wp2_with fail
     refine (itoa_any n' _ (by omega) (by omega) (HT.out.kp (HK.out.then (Kp.drew _)))).mono ?_
     rintro e w1 ⟨rfl,hk1⟩
     have HK1:=Lib.hid hk1; clear hk1
     go_wp2_with fail
     go_ret
     exact⟨by rw [ratS,if_pos H1.out]; rfl,HK.out.then ((Kp.drew _).then HK1.out)⟩
    ·have H1:=Lib.hid h1; clear h1
     have h1':(d' == 1)=false:=by simp [H1.out]
     have z1:=Lib.itoa_length_le n' (by omega) (by omega)
     have z2:=Lib.itoa_length_le d' (by omega) (by omega)
     have a1:=fun w=>run_string_add_sum (P:=Tryz.prog) (w:=w) ⟨(Lib.itoa n').toArray⟩ ⟨#[47]⟩ (by simp [ByteArray.size]; omega)
     have a2:=fun w=>run_string_add_sum (P:=Tryz.prog) (w:=w) (⟨(Lib.itoa n').toArray⟩++⟨#[47]⟩) ⟨(Lib.itoa d').toArray⟩ (by simp [ByteArray.size]; omega)
     go_wp2_with fail
     refine (itoa_any n' _ (by omega) (by omega) (HT.out.kp (HK.out.then (Kp.drew _)))).mono ?_
     rintro e w1 ⟨rfl,hk1⟩
     have HK1:=Lib.hid hk1; clear hk1
     go_wp2_with fail
     refine (itoa_any d' _ (by omega) (by omega) (HT.out.kp (HK.out.then ((Kp.drew _).then HK1.out)))).mono ?_
     rintro e w2 ⟨rfl,hk2⟩
     have HK2:=Lib.hid hk2; clear hk2
     go_wp2_with fail
     go_ret
     exact⟨by rw [ratS,if_neg H1.out]; rfl,(HK.out.then ((Kp.drew _).then HK1.out)).then HK2.out⟩
   ·go_wp2
    go_region
    by_cases h1:d'=1
    ·have H1:=Lib.hid h1; clear h1
     have h1':(d' == 1)=true:=by simp [H1.out]
     go_wp2_with fail
     refine (itoa_any n' _ (by omega) (by omega) (HT.out.kp (HK.out.then (Kp.drew _)))).mono ?_
     rintro e w1 ⟨rfl,hk1⟩
     have HK1:=Lib.hid hk1; clear hk1
     go_wp2_with fail
     go_ret
     exact⟨by rw [ratS,if_pos H1.out]; rfl,HK.out.then ((Kp.drew _).then HK1.out)⟩
    ·have H1:=Lib.hid h1; clear h1
     have h1':(d' == 1)=false:=by simp [H1.out]
     have z1:=Lib.itoa_length_le n' (by omega) (by omega)
     have z2:=Lib.itoa_length_le d' (by omega) (by omega)
     have a1:=fun w=>run_string_add_sum (P:=Tryz.prog) (w:=w) ⟨(Lib.itoa n').toArray⟩ ⟨#[47]⟩ (by simp [ByteArray.size]; omega)
     have a2:=fun w=>run_string_add_sum (P:=Tryz.prog) (w:=w) (⟨(Lib.itoa n').toArray⟩++⟨#[47]⟩) ⟨(Lib.itoa d').toArray⟩ (by simp [ByteArray.size]; omega)
     go_wp2_with fail
     refine (itoa_any n' _ (by omega) (by omega) (HT.out.kp (HK.out.then (Kp.drew _)))).mono ?_
     rintro e w1 ⟨rfl,hk1⟩
     have HK1:=Lib.hid hk1; clear hk1
     go_wp2_with fail
     refine (itoa_any d' _ (by omega) (by omega) (HT.out.kp (HK.out.then ((Kp.drew _).then HK1.out)))).mono ?_
     rintro e w2 ⟨rfl,hk2⟩
     have HK2:=Lib.hid hk2; clear hk2
     go_wp2_with fail
     go_ret
     exact⟨by rw [ratS,if_neg H1.out]; rfl,(HK.out.then ((Kp.drew _).then HK1.out)).then HK2.out⟩
  ·have hy0:(y != 0)=true:=by simpa using hy
   have hyf:(y == 0)=false:=by simpa using hy
   go_wp2
   go_region
   go_wp2
   go_roundw
   case rel=>exact⟨y,x.tmod y,rfl,rfl,(gcd_step x y).trans HG.out,hy1,hy2,(tmod_bd x y hx1 hx2).1,(tmod_bd x y hx1 hx2).2,HK.out.then (Kp.drew _)⟩
   case measure=>simp only [intOf]; exact tmod_lt x y hy
end Go.Proofs.YtkjinnjopoehhaaGreatDoor
namespace Go.Proofs.YtkjinnjopoehhaaGreatDoor
open Go.RowKit Go Klp
def canon (q:Rat):List UInt8:=rs q.num q.den
abbrev strV (l:List UInt8):Value:=.string ⟨l.toArray⟩
structure Sm (q:Rat):Prop where
 lo : -1000000000<q.num
 hi:q.num<1000000000
 den:q.den<1000000000
theorem canon_inj {a b:Rat} (h:canon a=canon b):a=b:=by
 obtain⟨h1,h2⟩:=rs_inj h
 exact Rat.ext h1 (by omega)
theorem canon_zero:canon 0=[48]:=by show rs 0 1=_; rw [rs_one,itoa_zero]
theorem canon_one:canon 1=[49]:=by show rs 1 1=_; rw [rs_one,itoa_one]
theorem canon_is_zero (q:Rat):(canon q == [48])=decide (q=0):=by
 by_cases h:q=0
 ·subst h; rw [canon_zero]; rfl
 ·rw [decide_eq_false h,beq_eq_false_iff_ne]
  intro e; rw [← canon_zero] at e; exact h (canon_inj e)
theorem canon_is_one (q:Rat):(canon q == [49])=decide (q=1):=by
 by_cases h:q=1
 ·subst h; rw [canon_one]; rfl
 ·rw [decide_eq_false h,beq_eq_false_iff_ne]
  intro e; rw [← canon_one] at e; exact h (canon_inj e)
theorem ratS_eq (n d:Int):ratS n d=⟨(rs n d).toArray⟩:=by
 unfold ratS rs
 split
 ·rfl
 ·apply ByteArray.ext; simp
theorem rs_neg {n d:Int} (h:n<0):rs n d=45::rs (-n) d:=by
 have e:Lib.itoa n=45::Lib.itoa (-n):=by
  rw [itoa_neg' h,itoa_pos' (by omega)]; congr 2; omega
 unfold rs
 rw [e]
 split <;> simp
theorem rs_head {n d:Int} (h:¬ n<0):∃ c r,rs n d=c::r∧isDig c:=by
 have:∃ c r,Lib.decDigits n.natAbs=c::r∧isDig c:=by
  cases hl:Lib.decDigits n.natAbs with
  | nil=>have:=dec_pos n.natAbs; rw [hl] at this; simp at this
  | cons c r=>exact⟨c,r,rfl,dec_dig n.natAbs c (by rw [hl]; exact List.mem_cons_self ..)⟩
 obtain⟨c,r,hc,hd⟩:=this
 unfold rs
 rw [itoa_pos' h,hc]
 split
 ·exact⟨c,r,rfl,hd⟩
 ·exact⟨c,r++47::Lib.itoa d,rfl,hd⟩
theorem small_rat (n d:Int) (w:World) (hn : -9223372036854775807≤n) (hn':n≤9223372036854775807) (hd:1≤d) (hd':d≤9223372036854775807) (ht:PTab w) :
  Calls Tryz.prog 290 #[.int .i64 n,.int .i64 d] w fun e w'=>e = .returned (strV (canon (mkRat n d.toNat)))∧Kp w w':=by
 have hg0:0<Int.gcd n d:=Int.gcd_pos_of_ne_zero_right _ (by omega)
 have hgd:(Int.gcd n d:Int) ∣ d:=Int.gcd_dvd_right ..
 have hgn:(Int.gcd n d:Int) ∣ n:=Int.gcd_dvd_left ..
 have hle:(Int.gcd n d:Int)≤d:=Int.le_of_dvd (by omega) hgd
 obtain⟨a,ha⟩:=hgn
 obtain⟨b,hb⟩:=hgd
 generalize hgg:(Int.gcd n d:Int)=g at *
 have hg1:1≤g:=by omega
 have q1:n.tdiv g=a:=by rw [ha]; exact Int.mul_tdiv_cancel_left _ (by omega)
 have q2:d/g=b:=by rw [hb]; exact Int.mul_ediv_cancel_left _ (by omega)
 have hab:a.natAbs≤n.natAbs:=by
  rw [ha,Int.natAbs_mul]
  exact Nat.le_mul_of_pos_left _ (by omega)
 have hb1:1≤b:=by
  rcases Int.lt_or_le b 1 with h | h
  ·exfalso
   have:g*b≤0:=Int.mul_nonpos_of_nonneg_of_nonpos (by omega) (by omega)
   omega
  ·exact h
 have hb2:b≤d:=by
  have:1*b≤g*b:=Int.mul_le_mul_of_nonneg_right hg1 (by omega)
  omega
 refine (small_any n d g a b w hn hn' hd hd' hg1 hle (hgg ▸ rfl) q1 q2 (by omega) (by omega) hb1 (by omega) ht).mono ?_
 rintro e w' ⟨rfl,hk⟩
 refine⟨?_,hk⟩
 rw [ratS_eq]
 have hdn:d.toNat≠0:=by omega
 have hgcd:((d.toNat.gcd n.natAbs:Nat):Int)=g:=by
  rw [← hgg]
  unfold Int.gcd
  rw [Nat.gcd_comm,show d.toNat=d.natAbs from by omega]
 have e1:(mkRat n d.toNat).num=a:=by
  rw [Rat.num_mkRat,if_neg hdn,hgcd,ha]; exact Int.mul_ediv_cancel_left _ (by omega)
 have e2:((mkRat n d.toNat).den:Int)=b:=by
  rw [Rat.den_mkRat,if_neg hdn,Int.natCast_ediv,hgcd,show ((d.toNat:Nat):Int)=d from by omega]; exact q2
 unfold canon
 rw [e1,e2]
set_option maxHeartbeats 400000 in
theorem neg_zero_walk (w:World):Calls Tryz.prog 229 #[strV [48]] w fun e w'=>e = .returned (strV [48])∧w'=w:=by
 go_enter Tryz.func229,Tryz.ntmps229
 go_wp2
 go_ret
 exact⟨rfl,rfl⟩
set_option maxHeartbeats 400000 in
theorem neg_minus_walk (r:List UInt8) (w:World) (hr:0<r.length) (hr2:r.length≤1000):Calls Tryz.prog 229 #[.string ⟨(45::r).toArray⟩] w fun e w'=>e = .returned (strV r)∧w'=w:=by
 obtain⟨l,hl⟩:∃ l,l=45::r:=⟨_,rfl⟩
 have h1:(l == [48])=false:=by rw [beq_eq_false_iff_ne,hl]; intro e; cases e
 have h2:0<l.length:=by rw [hl]; simp
 have h3:((((⟨l.toArray⟩:ByteArray)[0]'(by rw [size_mk]; exact h2)).toNat:Int) == 45)=true:=by subst hl; rfl
 have HL:=Lib.hid hl
 rw [← hl]
 have h4:l.length≤1001:=by rw [hl]; simp; omega
 clear hl
 go_enter Tryz.func229,Tryz.ntmps229
 go_wp2
 go_ret
 refine⟨?_,rfl⟩
 show Ending.returned (.string ((⟨l.toArray⟩:ByteArray).extract 1 l.length))=_
 rw [HL.out]
 congr 2
 apply ByteArray.ext
 simp [ByteArray.data_extract]
set_option maxHeartbeats 400000 in
theorem neg_plus_walk (l:List UInt8) (w:World) (h1:(l == [48])=false) (h2:0<l.length) (h3:(((⟨l.toArray⟩:ByteArray)[0].toNat:Int) == 45)=false) (h4:l.length≤1000) :
  Calls Tryz.prog 229 #[.string ⟨l.toArray⟩] w fun e w'=>e = .returned (strV (45::l))∧w'=w:=by
 have a1:=fun w=>run_string_add_sum (P:=Tryz.prog) (w:=w) ⟨#[45]⟩ ⟨l.toArray⟩ (by simp [ByteArray.size]; omega)
 go_enter Tryz.func229,Tryz.ntmps229
 go_wp2
 go_ret
 refine⟨?_,rfl⟩
 show Ending.returned (.string (⟨#[45]⟩++⟨l.toArray⟩))=_
 congr 2
theorem neg_rs (n d:Int) (w:World) (hl:(rs n d).length≤40) (h0:n=0→d=1):Calls Tryz.prog 229 #[strV (rs n d)] w fun e w'=>e = .returned (strV (rs (-n) d))∧w'=w:=by
 by_cases hz:n=0
 ·obtain rfl:=h0 hz
  subst hz
  rw [rs_one,show Lib.itoa 0=[48] from itoa_zero,show -(0:Int)=0 from rfl,rs_one,itoa_zero]
  exact neg_zero_walk w
 ·by_cases hn:n<0
  ·rw [rs_neg hn]
   obtain⟨c,r,hc,_⟩:=rs_head (n := -n) (d:=d) (by omega)
   have:(rs n d).length=(rs (-n) d).length+1:=by rw [rs_neg hn]; rfl
   exact neg_minus_walk (rs (-n) d) w (by rw [hc]; simp) (by omega)
  ·obtain⟨c,r,hc,hd⟩:=rs_head (n:=n) (d:=d) hn
   unfold isDig at hd
   rw [rs_neg (n := -n) (by omega),Int.neg_neg]
   refine neg_plus_walk (rs n d) w ?_ (by rw [hc]; simp) ?_ (by omega)
   ·rw [beq_eq_false_iff_ne]; intro e
    rw [← itoa_zero,← rs_one] at e
    exact hz (rs_inj e).1
   ·rw [beq_eq_false_iff_ne]
    intro e
    have hz0:0<(⟨(rs n d).toArray⟩:ByteArray).size:=by rw [size_mk,hc]; simp
    have hx:(⟨(rs n d).toArray⟩:ByteArray)[0]'hz0=c:=by rw [get_mk _ 0 hz0 (by rw [hc]; simp)]; simp [hc]
    rw [hx] at e
    omega
theorem neg_rat (a:Rat) (w:World) (ha:Sm a):Calls Tryz.prog 229 #[strV (canon a)] w fun e w'=>e = .returned (strV (canon (-a)))∧w'=w:=by
 have hd:=a.den_pos
 have:=rs_len ha.lo ha.hi (d:=a.den) (by omega) (by have:=ha.den; omega)
 have h:=neg_rs a.num a.den w (by omega) (fun h=>by
  have:=a.reduced
  rw [h] at this
  have h1:a.den=1:=by simpa using this
  omega)
 exact h
theorem mul_bd {a b:Int} {k:Nat} (h1 : -(k:Int)≤a) (h2:a≤k) {m:Nat} (h3 : -(m:Int)≤b) (h4:b≤m) : -((k*m:Nat):Int)≤a*b∧a*b≤((k*m:Nat):Int):=by
 have h:(a*b).natAbs≤k*m:=by rw [Int.natAbs_mul]; exact Nat.mul_le_mul (by omega) (by omega)
 omega
set_option maxHeartbeats 400000 in
theorem add_zero1 (l:List UInt8) (w:World):Calls Tryz.prog 228 #[.string ⟨([48]:List UInt8).toArray⟩,.string ⟨l.toArray⟩] w fun e w'=>e = .returned (strV l)∧w'=w:=by
 go_enter Tryz.func228,Tryz.ntmps228
 go_wp2_with fail
 go_ret
 exact⟨rfl,rfl⟩
set_option maxHeartbeats 400000 in
theorem add_zero2 (l:List UInt8) (w:World) (h:(l == [48])=false):Calls Tryz.prog 228 #[.string ⟨l.toArray⟩,.string ⟨([48]:List UInt8).toArray⟩] w fun e w'=>e = .returned (strV l)∧w'=w:=by
 go_enter Tryz.func228,Tryz.ntmps228
 go_wp2_with fail
 go_ret
 exact⟨rfl,rfl⟩
set_option maxHeartbeats 400000 in
theorem add_walk (la lb:List UInt8) (n d m e:Int) (w:World) (h1:(la == [48])=false) (h2:(lb == [48])=false)
  (qa:∀ w,Calls Tryz.prog 68 #[.string ⟨la.toArray⟩] w fun x w'=>x = .returned (.tuple #[.int .i64 n,.int .i64 d,.bool true])∧w'=w)
  (qb:∀ w,Calls Tryz.prog 68 #[.string ⟨lb.toArray⟩] w fun x w'=>x = .returned (.tuple #[.int .i64 m,.int .i64 e,.bool true])∧w'=w)
  (b1 : -1000000000000000000≤n*e) (b2:n*e≤1000000000000000000) (b3 : -1000000000000000000≤m*d) (b4:m*d≤1000000000000000000) (b5:1≤d*e) (b6:d*e≤1000000000000000000) (ht:PTab w) :
  Calls Tryz.prog 228 #[.string ⟨la.toArray⟩,.string ⟨lb.toArray⟩] w fun x w'=>x = .returned (strV (canon (mkRat (n*e+m*d) (d*e).toNat)))∧Kp w w':=by
 have HA:=Lib.hid qa; clear qa
 have HB:=Lib.hid qb; clear qb
 have HT:=Lib.hid ht; clear ht
 go_enter Tryz.func228,Tryz.ntmps228
 go_wp2_with fail
 refine (HA.out w).mono ?_
 rintro x w' ⟨rfl,hw⟩
 subst hw
 go_wp2_with fail
 refine (HB.out _).mono ?_
 rintro x w' ⟨rfl,hw⟩
 subst hw
 go_wp2_with fail
 refine (small_rat (n*e+m*d) (d*e) _ (by omega) (by omega) (by omega) (by omega) HT.out).mono ?_
 rintro x w' ⟨rfl,hk⟩
 have HK:=Lib.hid hk; clear hk
 go_wp2_with fail
 go_ret
 exact⟨rfl,HK.out⟩
theorem add_rat (a b:Rat) (w:World) (ha:Sm a) (hb:Sm b) (ht:PTab w):Calls Tryz.prog 228 #[strV (canon a),strV (canon b)] w fun e w'=>e = .returned (strV (canon (a+b)))∧Kp w w':=by
 by_cases h1:a=0
 ·subst h1
  rw [canon_zero,Rat.zero_add]
  exact (add_zero1 (canon b) w).mono fun e w' ⟨h,hw⟩=>⟨h,hw ▸ Kp.refl _⟩
 ·have z1:(canon a == [48])=false:=by rw [canon_is_zero,decide_eq_false h1]
  by_cases h2:b=0
  ·subst h2
   rw [canon_zero,Rat.add_zero]
   exact (add_zero2 (canon a) w z1).mono fun e w' ⟨h,hw⟩=>⟨h,hw ▸ Kp.refl _⟩
  ·have z2:(canon b == [48])=false:=by rw [canon_is_zero,decide_eq_false h2]
   have d1:=a.den_pos
   have d2:=b.den_pos
   have ⟨p1,p2,p3⟩:=ha
   have ⟨q1,q2,q3⟩:=hb
   have m1:=mul_bd (a:=a.num) (b:=b.den) (k:=1000000000) (m:=1000000000) (by omega) (by omega) (by omega) (by omega)
   have m2:=mul_bd (a:=b.num) (b:=a.den) (k:=1000000000) (m:=1000000000) (by omega) (by omega) (by omega) (by omega)
   have m3:=mul_bd (a:=a.den) (b:=b.den) (k:=1000000000) (m:=1000000000) (by omega) (by omega) (by omega) (by omega)
   have m4:0<(a.den:Int)*b.den:=Int.mul_pos (by omega) (by omega)
   have h:=add_walk (canon a) (canon b) a.num a.den b.num b.den w z1 z2 (fun w=>quick_rs _ _ w p1 p2 (by omega) (by omega)) (fun w=>quick_rs _ _ w q1 q2 (by omega) (by omega)) (by omega) (by omega) (by omega) (by omega) (by omega) (by omega) ht
   rw [Rat.add_def']
   have:((a.den:Int)*b.den).toNat=a.den*b.den:=by rw [← Int.natCast_mul]; rfl
   rw [this] at h
   exact h
set_option maxHeartbeats 400000 in
theorem mul_zero1 (l:List UInt8) (w:World):Calls Tryz.prog 204 #[.string ⟨([48]:List UInt8).toArray⟩,.string ⟨l.toArray⟩] w fun e w'=>e = .returned (strV [48])∧w'=w:=by
 go_enter Tryz.func204,Tryz.ntmps204
 go_wp2_with fail
 go_ret
 exact⟨rfl,rfl⟩
set_option maxHeartbeats 400000 in
theorem mul_zero2 (l:List UInt8) (w:World) (h:(l == [48])=false):Calls Tryz.prog 204 #[.string ⟨l.toArray⟩,.string ⟨([48]:List UInt8).toArray⟩] w fun e w'=>e = .returned (strV [48])∧w'=w:=by
 go_enter Tryz.func204,Tryz.ntmps204
 go_wp2_with fail
 go_ret
 exact⟨rfl,rfl⟩
set_option maxHeartbeats 400000 in
theorem mul_one1 (l:List UInt8) (w:World) (h:(l == [48])=false):Calls Tryz.prog 204 #[.string ⟨([49]:List UInt8).toArray⟩,.string ⟨l.toArray⟩] w fun e w'=>e = .returned (strV l)∧w'=w:=by
 go_enter Tryz.func204,Tryz.ntmps204
 go_wp2_with fail
 go_ret
 exact⟨rfl,rfl⟩
set_option maxHeartbeats 400000 in
theorem mul_one2 (l:List UInt8) (w:World) (h:(l == [48])=false) (h':(l == [49])=false):Calls Tryz.prog 204 #[.string ⟨l.toArray⟩,.string ⟨([49]:List UInt8).toArray⟩] w fun e w'=>e = .returned (strV l)∧w'=w:=by
 go_enter Tryz.func204,Tryz.ntmps204
 go_wp2_with fail
 go_ret
 exact⟨rfl,rfl⟩
set_option maxHeartbeats 400000 in
theorem mul_walk (la lb:List UInt8) (n d m e:Int) (w:World) (h1:(la == [48])=false) (h2:(lb == [48])=false) (h3:(la == [49])=false) (h4:(lb == [49])=false)
  (qa:∀ w,Calls Tryz.prog 68 #[.string ⟨la.toArray⟩] w fun x w'=>x = .returned (.tuple #[.int .i64 n,.int .i64 d,.bool true])∧w'=w)
  (qb:∀ w,Calls Tryz.prog 68 #[.string ⟨lb.toArray⟩] w fun x w'=>x = .returned (.tuple #[.int .i64 m,.int .i64 e,.bool true])∧w'=w)
  (b1 : -1000000000000000000≤n*m) (b2:n*m≤1000000000000000000) (b5:1≤d*e) (b6:d*e≤1000000000000000000) (ht:PTab w) :
  Calls Tryz.prog 204 #[.string ⟨la.toArray⟩,.string ⟨lb.toArray⟩] w fun x w'=>x = .returned (strV (canon (mkRat (n*m) (d*e).toNat)))∧Kp w w':=by
 have HA:=Lib.hid qa; clear qa
 have HB:=Lib.hid qb; clear qb
 have HT:=Lib.hid ht; clear ht
 go_enter Tryz.func204,Tryz.ntmps204
 go_wp2_with fail
 refine (HA.out w).mono ?_
 rintro x w' ⟨rfl,hw⟩
 subst hw
 go_wp2_with fail
 refine (HB.out _).mono ?_
 rintro x w' ⟨rfl,hw⟩
 subst hw
 go_wp2_with fail
 refine (small_rat (n*m) (d*e) _ (by omega) (by omega) (by omega) (by omega) HT.out).mono ?_
 rintro x w' ⟨rfl,hk⟩
 have HK:=Lib.hid hk; clear hk
 go_wp2_with fail
 go_ret
 exact⟨rfl,HK.out⟩
theorem mul_rat (a b:Rat) (w:World) (ha:Sm a) (hb:Sm b) (ht:PTab w):Calls Tryz.prog 204 #[strV (canon a),strV (canon b)] w fun e w'=>e = .returned (strV (canon (a*b)))∧Kp w w':=by
 by_cases h1:a=0
 ·subst h1
  rw [Rat.zero_mul,canon_zero]
  exact (mul_zero1 (canon b) w).mono fun e w' ⟨h,hw⟩=>⟨h,hw ▸ Kp.refl _⟩
 have z1:(canon a == [48])=false:=by rw [canon_is_zero,decide_eq_false h1]
 by_cases h2:b=0
 ·subst h2
  rw [Rat.mul_zero,canon_zero]
  exact (mul_zero2 (canon a) w z1).mono fun e w' ⟨h,hw⟩=>⟨h,hw ▸ Kp.refl _⟩
 have z2:(canon b == [48])=false:=by rw [canon_is_zero,decide_eq_false h2]
 by_cases h3:a=1
 ·subst h3
  rw [Rat.one_mul,canon_one]
  exact (mul_one1 (canon b) w z2).mono fun e w' ⟨h,hw⟩=>⟨h,hw ▸ Kp.refl _⟩
 have z3:(canon a == [49])=false:=by rw [canon_is_one,decide_eq_false h3]
 by_cases h4:b=1
 ·subst h4
  rw [Rat.mul_one,canon_one]
  exact (mul_one2 (canon a) w z1 z3).mono fun e w' ⟨h,hw⟩=>⟨h,hw ▸ Kp.refl _⟩
 have z4:(canon b == [49])=false:=by rw [canon_is_one,decide_eq_false h4]
 have d1:=a.den_pos
 have d2:=b.den_pos
 have ⟨p1,p2,p3⟩:=ha
 have ⟨q1,q2,q3⟩:=hb
 have m1:=mul_bd (a:=a.num) (b:=b.num) (k:=1000000000) (m:=1000000000) (by omega) (by omega) (by omega) (by omega)
 have m3:=mul_bd (a:=a.den) (b:=b.den) (k:=1000000000) (m:=1000000000) (by omega) (by omega) (by omega) (by omega)
 have m4:0<(a.den:Int)*b.den:=Int.mul_pos (by omega) (by omega)
 have h:=mul_walk (canon a) (canon b) a.num a.den b.num b.den w z1 z2 z3 z4 (fun w=>quick_rs _ _ w p1 p2 (by omega) (by omega)) (fun w=>quick_rs _ _ w q1 q2 (by omega) (by omega)) (by omega) (by omega) (by omega) (by omega) ht
 rw [Rat.mul_def']
 have:((a.den:Int)*b.den).toNat=a.den*b.den:=by rw [← Int.natCast_mul]; rfl
 rw [this] at h
 exact h
theorem indexOne (l:List UInt8) (w:World):Calls Tryz.prog 185 #[.string ⟨l.toArray⟩,.string ⟨#[47]⟩] w fun e w'=>e = .returned (.int .i64 (Lib.indexByte l 47))∧w'=w:=
 Tryz.stringslite_Index_one ⟨l.toArray⟩ 47 w
set_option maxHeartbeats 400000 in
theorem cutIn_none (l:List UInt8) (w:World) (h:Lib.indexByte l 47 = -1):Calls Tryz.prog 120 #[.string ⟨l.toArray⟩,.string ⟨#[47]⟩] w fun e w'=>e = .returned (.tuple #[.string ⟨l.toArray⟩,.string ⟨#[]⟩,.bool false])∧Kp w w':=by
 have H:=Lib.hid h; clear h
 go_enter Tryz.func120,Tryz.ntmps120
 go_wp2_with fail
 refine (indexOne l _).mono ?_
 rintro e w' ⟨rfl,hw⟩
 rw [H.out]
 subst hw
 go_wp2_with fail
 go_ret3
 exact⟨rfl,Kp.refl _⟩
set_option maxHeartbeats 400000 in
theorem cutIn_at (l:List UInt8) (k:Nat) (w:World) (h:Lib.indexByte l 47=(k:Int)) (hk:k<l.length) (hl:l.length≤1000):Calls Tryz.prog 120 #[.string ⟨l.toArray⟩,.string ⟨#[47]⟩] w fun e w'=>e = .returned (.tuple #[.string ⟨(l.take k).toArray⟩,.string ⟨(l.drop (k+1)).toArray⟩,.bool true])∧Kp w w':=by
 have H:=Lib.hid h; clear h
 go_enter Tryz.func120,Tryz.ntmps120
 go_wp2_with fail
 refine (indexOne l _).mono ?_
 rintro e w' ⟨rfl,hw⟩
 rw [H.out]
 subst hw
 go_wp2_with fail
 go_region
 go_wp2_with fail
 go_ret3
 refine⟨?_,Kp.drew _⟩
 show Ending.returned (.tuple #[.string ((⟨l.toArray⟩:ByteArray).extract 0 k),.string ((⟨l.toArray⟩:ByteArray).extract (k+1) l.length),.bool true])=_
 have e1:(⟨l.toArray⟩:ByteArray).extract 0 k=⟨(l.take k).toArray⟩:=by apply ByteArray.ext; simp [ByteArray.data_extract]
 have e2:(⟨l.toArray⟩:ByteArray).extract (k+1) l.length=⟨(l.drop (k+1)).toArray⟩:=by apply ByteArray.ext; simp [ByteArray.data_extract]; exact List.take_of_length_le (by simp)
 rw [e1,e2]
set_option maxHeartbeats 400000 in
theorem sign_walk (l:List UInt8) (w:World) (b:Bool) (h:Lib.hasPrefix l [45]=b) (hz:(l == [48])=false):Calls Tryz.prog 122 #[.string ⟨l.toArray⟩] w fun e w'=>e = .returned (.int .i64 (if b then -1 else 1))∧w'=w:=by
 have H:=Lib.hid h; clear h
 go_enter Tryz.func122,Tryz.ntmps122
 go_wp2_with fail
 refine (Tryz.strings_HasPrefix ⟨l.toArray⟩ ⟨#[45]⟩ _).mono ?_
 rintro e w' ⟨rfl,hw⟩
 rw [H.out]
 subst hw
 cases b
 all_goals
  go_wp2_with fail
  go_ret
  exact⟨rfl,rfl⟩
set_option maxHeartbeats 400000 in
theorem cut_none (l:List UInt8) (w:World) (h:Lib.indexByte l 47 = -1):Calls Tryz.prog 64 #[.string ⟨l.toArray⟩,.string ⟨#[47]⟩] w fun e w'=>e = .returned (.tuple #[.string ⟨l.toArray⟩,.string ⟨#[]⟩,.bool false])∧Kp w w':=by
 have H:=Lib.hid h; clear h
 go_enter Tryz.func64,Tryz.ntmps64
 go_wp2_with fail
 refine (cutIn_none l _ H.out).mono ?_
 rintro e w' ⟨rfl,hk⟩
 have HK:=Lib.hid hk; clear hk
 go_wp2_with fail
 go_ret3
 exact⟨rfl,HK.out⟩
set_option maxHeartbeats 400000 in
theorem cut_at (p q:List UInt8) (w:World) (h:Lib.indexByte (p++47::q) 47=(p.length:Int)) (hl:p.length+q.length<1000):Calls Tryz.prog 64 #[.string ⟨(p++47::q).toArray⟩,.string ⟨#[47]⟩] w fun e w'=>e = .returned (.tuple #[.string ⟨p.toArray⟩,.string ⟨q.toArray⟩,.bool true])∧Kp w w':=by
 have H:=Lib.hid h; clear h
 obtain⟨l,hl'⟩:∃ l,l=p++47::q:=⟨_,rfl⟩
 have HL:=Lib.hid hl'
 rw [← hl']
 clear hl'
 go_enter Tryz.func64,Tryz.ntmps64
 go_wp2_with fail
 refine (cutIn_at l p.length _ (by rw [HL.out]; exact H.out) (by rw [HL.out]; simp) (by rw [HL.out]; simp; omega)).mono ?_
 rintro e w' ⟨rfl,hk⟩
 have e1:l.take p.length=p:=by rw [HL.out]; simp
 have e2:l.drop (p.length+1)=q:=by rw [HL.out]; simp
 rw [e1,e2]
 clear e1 e2
 have HK:=Lib.hid hk; clear hk
 go_wp2_with fail
 go_ret3
 exact⟨rfl,HK.out⟩
set_option maxHeartbeats 400000 in
theorem sign_zero (w:World):Calls Tryz.prog 122 #[.string ⟨([48]:List UInt8).toArray⟩] w fun e w'=>e = .returned (.int .i64 0)∧w'=w:=by
 go_enter Tryz.func122,Tryz.ntmps122
 go_wp2_with fail
 go_ret
 exact⟨rfl,rfl⟩
theorem pre_itoa (n:Int):Lib.hasPrefix (Lib.itoa n) [45]=decide (n<0):=by
 by_cases h:n<0
 ·rw [itoa_neg' h,decide_eq_true h]; rfl
 ·rw [itoa_pos' h,decide_eq_false h]
  cases hl:Lib.decDigits n.natAbs with
  | nil=>rfl
  | cons c r=>
   have hc:=dec_dig n.natAbs c (by rw [hl]; exact List.mem_cons_self ..)
   unfold isDig at hc
   have:((45:UInt8) == c)=false:=by rw [beq_eq_false_iff_ne]; rintro rfl; exact absurd hc.1 (by decide)
   simp [Lib.hasPrefix,List.isPrefixOf,this]
theorem itoa_is_zero (n:Int):(Lib.itoa n == [48])=decide (n=0):=by
 by_cases h:n=0
 ·subst h; rw [itoa_zero]; rfl
 ·rw [decide_eq_false h,beq_eq_false_iff_ne]; intro e; rw [← itoa_zero] at e; exact h (itoa_inj e)
theorem itoa_is_one (n:Int):(Lib.itoa n == [49])=decide (n=1):=by
 by_cases h:n=1
 ·subst h; rw [itoa_one]; rfl
 ·rw [decide_eq_false h,beq_eq_false_iff_ne]; intro e; rw [← itoa_one] at e; exact h (itoa_inj e)
theorem sign_itoa (n:Int) (w:World):Calls Tryz.prog 122 #[.string ⟨(Lib.itoa n).toArray⟩] w fun e w'=>e = .returned (.int .i64 (if n=0 then 0 else if n<0 then -1 else 1))∧w'=w:=by
 by_cases h:n=0
 ·subst h; rw [itoa_zero]; exact sign_zero w
 ·refine (sign_walk (Lib.itoa n) w (decide (n<0)) (pre_itoa n) (by rw [itoa_is_zero,decide_eq_false h])).mono fun e w' ⟨h1,h2⟩=>⟨?_,h2⟩
  rw [h1,if_neg h]
  by_cases hn:n<0 <;> simp [hn]
theorem itoa_short {n:Int} (h1 : -9223372036854775808≤n) (h2:n≤9223372036854775807):(Lib.itoa n).length≤21:=Lib.itoa_length_le n h1 h2
theorem cutPre (l:List UInt8) (w:World):Calls Tryz.prog 121 #[.string ⟨l.toArray⟩,.string ⟨#[45]⟩] w fun e w'=>e = .returned (.tuple #[.string ⟨(Lib.trimPrefix l [45]).toArray⟩,.bool (Lib.hasPrefix l [45])])∧w'=w:=
 Tryz.strings_CutPrefix ⟨l.toArray⟩ ⟨#[45]⟩ w
theorem trimPre (l:List UInt8) (w:World):Calls Tryz.prog 123 #[.string ⟨l.toArray⟩,.string ⟨#[45]⟩] w fun e w'=>e = .returned (.string ⟨(Lib.trimPrefix l [45]).toArray⟩)∧w'=w:=
 Tryz.strings_TrimPrefix ⟨l.toArray⟩ ⟨#[45]⟩ w
theorem trim_itoa (n:Int):Lib.trimPrefix (Lib.itoa n) [45]=Lib.decDigits n.natAbs:=by
 unfold Lib.trimPrefix
 rw [pre_itoa]
 by_cases h:n<0
 ·rw [decide_eq_true h,if_pos rfl,itoa_neg' h]; rfl
 ·rw [decide_eq_false h,itoa_pos' h]; rfl
set_option maxHeartbeats 1000000 in
theorem icheck_walk (l s:List UInt8) (m:Bool) (w:World) (h1:Lib.trimPrefix l [45]=s) (h2:Lib.hasPrefix l [45]=m) (hd:∀ c∈s,isDig c) (hp:0<s.length) (h200:s.length≤200)
  (hz:((((⟨s.toArray⟩:ByteArray)[0]'(by rw [size_mk]; exact hp)).toNat:Int) == 48)=false) :
  Calls Tryz.prog 65 #[.string ⟨l.toArray⟩] w fun e w'=>e = .returned (.int .i64 0)∧w'=w:=by
 have H1:=Lib.hid h1; clear h1
 have H2:=Lib.hid h2; clear h2
 have HD:=Lib.hid hd; clear hd
 have he:(s == [])=false:=by rw [beq_eq_false_iff_ne]; intro e; rw [e] at hp; simp at hp
 have he':s.isEmpty=false:=by cases s <;> simp_all
 go_enter Tryz.func65,Tryz.ntmps65
 go_wp2_with fail
 refine (cutPre l _).mono ?_
 rintro e w' ⟨rfl,hw⟩
 rw [H1.out,H2.out]
 subst hw
 have hz2:decide ((200:Int)<(s.length:Int))=false:=by simp; omega
 go_wp2_with fail
 go_loop [2,33] (fun r i => ∃ k:Nat,k≤s.length∧i = .int .i64 k∧r = .int .i64 0) (fun _ i=>1000-(intOf i).toNat)
 case atStart=>exact⟨0,Nat.zero_le _,rfl,rfl⟩
 case round=>
  obtain⟨k,hk,rfl,rfl⟩:=hrel
  by_cases hlt:k<s.length
  ·have hks:k<(⟨s.toArray⟩:ByteArray).size:=by rw [size_mk]; exact hlt
   have hdk:=HD.out s[k] (List.getElem_mem hlt)
   unfold isDig at hdk
   rw [← get_mk s k hks hlt] at hdk
   go_wp2_with fail
   go_round
   case rel=>exact⟨k+1,by omega,by go_num,rfl⟩
   case measure=>simp [intOf]; omega
  ·obtain rfl:k=s.length:=by omega
   go_wp2_with fail
   go_ret
   exact⟨rfl,rfl⟩
set_option maxHeartbeats 1000000 in
theorem icheck_zero (w:World):Calls Tryz.prog 65 #[.string ⟨([48]:List UInt8).toArray⟩] w fun e w'=>e = .returned (.int .i64 0)∧w'=w:=by
 go_enter Tryz.func65,Tryz.ntmps65
 go_wp2_with fail
 refine (cutPre [48] _).mono ?_
 rintro e w' ⟨rfl,hw⟩
 have e1:Lib.trimPrefix [48] [45]=[48]:=by decide
 have e2:Lib.hasPrefix [48] [45]=false:=by decide
 rw [e1,e2]
 clear e1 e2
 subst hw
 have h48:((((⟨([48]:List UInt8).toArray⟩:ByteArray)[0]'(by decide)).toNat:Int) == 48)=true:=by decide
 go_wp2_with fail
 go_loop [2,33] (fun r i => ∃ k:Nat,k≤1∧i = .int .i64 k∧r = .int .i64 0) (fun _ i=>1000-(intOf i).toNat)
 case atStart=>exact⟨0,Nat.zero_le _,rfl,rfl⟩
 case round=>
  obtain⟨k,hk,rfl,rfl⟩:=hrel
  have:k=0∨k=1:=by omega
  rcases this with rfl | rfl
  ·go_wp2_with fail
   go_round
   case rel=>exact⟨1,by omega,by go_num,rfl⟩
   case measure=>simp [intOf]
  ·go_wp2_with fail
   go_ret
   exact⟨rfl,rfl⟩
theorem icheck_itoa (n:Int) (w:World) (h1 : -9223372036854775807≤n) (h2:n≤9223372036854775807):Calls Tryz.prog 65 #[strV (Lib.itoa n)] w fun e w'=>e = .returned (.int .i64 0)∧w'=w:=by
 by_cases h:n=0
 ·subst h; rw [itoa_zero]; exact icheck_zero w
 ·obtain⟨c,r,hc,hne,_⟩:=dec_head (u:=n.natAbs) (by omega)
  have hl:=itoa_short (n:=n) (by omega) h2
  rw [itoa_eq,List.length_append] at hl
  refine icheck_walk (Lib.itoa n) (Lib.decDigits n.natAbs) _ w (trim_itoa n) (pre_itoa n) (dec_dig _) (dec_pos _) (by omega) ?_
  rw [beq_eq_false_iff_ne]
  intro e
  have hz0:0<(⟨(Lib.decDigits n.natAbs).toArray⟩:ByteArray).size:=by rw [size_mk]; exact dec_pos _
  have hx:(⟨(Lib.decDigits n.natAbs).toArray⟩:ByteArray)[0]'hz0=c:=by rw [get_mk _ 0 hz0 (dec_pos _)]; simp [hc]
  rw [hx] at e
  omega
theorem signOne (w:World):Calls Tryz.prog 122 #[.string ⟨#[49]⟩] w fun e w'=>e = .returned (.int .i64 1)∧w'=w:=by
 have:=sign_itoa 1 w
 rw [itoa_one] at this
 exact this
theorem trimOne (w:World):Calls Tryz.prog 123 #[.string ⟨#[49]⟩,.string ⟨#[45]⟩] w fun e w'=>e = .returned (.string ⟨#[49]⟩)∧w'=w:=trimPre [49] w
theorem cmpOne (s:List UInt8) (w:World):Calls Tryz.prog 124 #[.string ⟨s.toArray⟩,.string ⟨#[49]⟩] w fun e w'=>e = .returned (.int .i64 (Lib.compareBytes s [49]))∧w'=w:=Tryz.strings_Compare ⟨s.toArray⟩ ⟨#[49]⟩ w
set_option maxHeartbeats 1000000 in
theorem compare_walk (l s:List UInt8) (w:World) (hs:∀ w,Calls Tryz.prog 122 #[.string ⟨l.toArray⟩] w fun e w'=>e = .returned (.int .i64 1)∧w'=w) (h1:Lib.trimPrefix l [45]=s) (hp:0<s.length) (h200:s.length≤200)
  (hc:s.length=1→Lib.compareBytes s [49]=1):Calls Tryz.prog 66 #[.string ⟨l.toArray⟩,.string ⟨#[49]⟩] w fun e w'=>e = .returned (.int .i64 1)∧w'=w:=by
 have HS:=Lib.hid hs; clear hs
 have H1:=Lib.hid h1; clear h1
 have HC:=Lib.hid hc; clear hc
 go_enter Tryz.func66,Tryz.ntmps66
 go_wp2_with fail
 refine (HS.out _).mono ?_
 rintro e w' ⟨rfl,hw⟩
 subst hw
 go_wp2_with fail
 refine (signOne _).mono ?_
 rintro e w' ⟨rfl,hw⟩
 subst hw
 go_wp2_with fail
 refine (trimPre l _).mono ?_
 rintro e w' ⟨rfl,hw⟩
 rw [H1.out]
 subst hw
 go_wp2_with fail
 refine (trimOne _).mono ?_
 rintro e w' ⟨rfl,hw⟩
 subst hw
 by_cases h:s.length=1
 ·have hq:(((s.length:Nat):Int) != 1)=false:=by simp [h]
  have HH:=Lib.hid h; clear h
  go_wp2_with fail
  refine (cmpOne s _).mono ?_
  rintro e w' ⟨rfl,hw⟩
  rw [HC.out HH.out]
  subst hw
  go_wp2_with fail
  go_ret
  exact⟨rfl,rfl⟩
 ·have hq:(((s.length:Nat):Int) != 1)=true:=by simp; omega
  have hq2:¬ (((s.length:Nat):Int)<1):=by omega
  go_wp2_with fail
  go_ret
  exact⟨rfl,rfl⟩
theorem compare_itoa (b:Int) (w:World) (h1:2≤b) (h2:b≤9223372036854775807):Calls Tryz.prog 66 #[strV (Lib.itoa b),.string ⟨#[49]⟩] w fun e w'=>e = .returned (.int .i64 1)∧w'=w:=by
 have hl:=itoa_short (n:=b) (by omega) h2
 rw [itoa_eq,List.length_append] at hl
 refine compare_walk (Lib.itoa b) (Lib.decDigits b.natAbs) w (fun w=>(sign_itoa b w).mono fun e w' ⟨a,c⟩=>⟨by rw [a,if_neg (by omega),if_neg (by omega)],c⟩) (trim_itoa b) (dec_pos _) (by omega) ?_
 intro h
 have hb:b.natAbs<10:=by
  rcases Nat.lt_or_ge b.natAbs 10 with h' | h'
  ·exact h'
  ·rw [dec_big (by omega),List.length_append,List.length_singleton] at h
   have:=dec_pos (b.natAbs/10)
   omega
 rw [dec_small hb]
 have ht:=toNat_dig hb
 have e1:¬ (UInt8.ofNat (48+b.natAbs)<49):=by rw [UInt8.lt_iff_toNat_lt,ht]; show ¬ (48+b.natAbs<49); omega
 have e2:(49:UInt8)<UInt8.ofNat (48+b.natAbs):=by rw [UInt8.lt_iff_toNat_lt,ht]; show 49<48+b.natAbs; omega
 rw [Lib.compareBytes,if_neg e1,if_pos e2]
set_option maxHeartbeats 1000000 in
theorem iquick_walk (l:List UInt8) (n:Int) (w:World) (hl:l.length≤18) (ha:Lib.atoi l=some n) :
  Calls Tryz.prog 125 #[.string ⟨l.toArray⟩,.int .i64 18] w fun e w'=>e = .returned (.tuple #[.int .i64 n,.bool true])∧Kp w w':=by
 have HA:=Lib.hid ha; clear ha
 go_enter Tryz.func125,Tryz.ntmps125
 go_wp2_with fail
 refine (Tryz.strconv_Atoi ⟨l.toArray⟩ n (by rw [size_mk]; exact hl) HA.out _).mono ?_
 rintro e w' ⟨rfl,t,hw⟩
 have HK:Hid (Kp w w'):=Lib.hid (by rw [hw]; exact Lib.bytesWorld_below w 5 t)
 clear hw
 go_wp2_with fail
 go_region
 go_wp2_with fail
 go_ret2
 exact⟨rfl,HK.out.then (Kp.drew _)⟩
set_option maxHeartbeats 400000 in
theorem of_any (n:Int) (w:World) (h0 : -9223372036854775808≤n) (h1:n≤9223372036854775807) (ht:PTab w):Calls Tryz.prog 126 #[.int .i64 n] w fun e w'=>e = .returned (strV (Lib.itoa n))∧Kp w w':=by
 have HT:=Lib.hid ht; clear ht
 go_enter Tryz.func126,Tryz.ntmps126
 go_wp2_with fail
 refine (itoa_any n _ h0 h1 HT.out).mono ?_
 rintro e w' ⟨rfl,hk⟩
 have HK:=Lib.hid hk; clear hk
 go_wp2_with fail
 go_ret
 exact⟨rfl,HK.out⟩
set_option maxHeartbeats 400000 in
theorem whole_any (n:Int) (w:World) (h0 : -9223372036854775808≤n) (h1:n≤9223372036854775807) (ht:PTab w):Calls Tryz.prog 292 #[.int .i64 n] w fun e w'=>e = .returned (strV (Lib.itoa n))∧Kp w w':=by
 have HT:=Lib.hid ht; clear ht
 go_enter Tryz.func292,Tryz.ntmps292
 go_wp2_with fail
 refine (of_any n _ h0 h1 HT.out).mono ?_
 rintro e w' ⟨rfl,hk⟩
 have HK:=Lib.hid hk; clear hk
 go_wp2_with fail
 go_ret
 exact⟨rfl,HK.out⟩
set_option maxHeartbeats 1000000 in
theorem gcd_walk (la lb:List UInt8) (n d g:Int) (w:World)
  (qa:∀ w,Calls Tryz.prog 125 #[.string ⟨la.toArray⟩,.int .i64 18] w fun e w'=>e = .returned (.tuple #[.int .i64 n,.bool true])∧Kp w w')
  (qb:∀ w,Calls Tryz.prog 125 #[.string ⟨lb.toArray⟩,.int .i64 18] w fun e w'=>e = .returned (.tuple #[.int .i64 d,.bool true])∧Kp w w')
  (hn : -9223372036854775807≤n) (hn':n≤9223372036854775807) (hd : -9223372036854775807≤d) (hd':d≤9223372036854775807) (hgcd:(Int.gcd n d:Int)=g) (ht:PTab w) :
  Calls Tryz.prog 67 #[.string ⟨la.toArray⟩,.string ⟨lb.toArray⟩] w fun e w'=>e = .returned (strV (Lib.itoa g))∧Kp w w':=by
 have HA:=Lib.hid qa; clear qa
 have HB:=Lib.hid qb; clear qb
 have HT:=Lib.hid ht; clear ht
 have HGC:=Lib.hid hgcd; clear hgcd
 go_enter Tryz.func67,Tryz.ntmps67
 go_wp2_with fail
 refine (HA.out _).mono ?_
 rintro e w1 ⟨rfl,hk1⟩
 have HK1:=Lib.hid hk1; clear hk1
 go_wp2_with fail
 refine (HB.out _).mono ?_
 rintro e w2 ⟨rfl,hk2⟩
 have HK2:Hid (Kp w w2):=Lib.hid (HK1.out.then hk2); clear hk2
 go_wp2_with fail
 go_loopw [5,7] (fun a b wr => ∃ x y:Int,a = .int .i64 x∧b = .int .i64 y∧(Int.gcd x y:Int)=g ∧ -9223372036854775807≤x∧x≤9223372036854775807 ∧ -9223372036854775807≤y∧y≤9223372036854775807∧Kp w wr) (fun _ b _=>(intOf b).natAbs)
 case atStart=>exact⟨n,d,rfl,rfl,HGC.out,by omega,by omega,by omega,by omega,HK2.out⟩
 case round=>
  obtain⟨x,y,rfl,rfl,hg,hx1,hx2,hy1,hy2,hk⟩:=hrel
  have HG:=Lib.hid hg; clear hg
  have HK:=Lib.hid hk; clear hk
  by_cases hy:y=0
  ·subst hy
   have hg0:(0:Int)≤g:=by have:=HG.out; omega
   have hxg:x=g∨x = -g:=by have:=HG.out; rw [Int.gcd_zero_right] at this; omega
   clear HG
   rcases hxg with rfl | rfl
   ·have HM:Hid (max x (-x)=x):=Lib.hid (by omega)
    go_wp2_with fail
    refine (of_any (max x (-x)) _ (by omega) (by omega) (HT.out.kp HK.out)).mono ?_
    rintro e w' ⟨rfl,hk⟩
    rw [HM.out]
    have HK3:=Lib.hid (HK.out.then hk); clear hk
    go_wp2_with fail
    go_ret
    exact⟨rfl,HK3.out⟩
   ·have HM:Hid (max (-g) g=g):=Lib.hid (by omega)
    go_wp2_with fail
    refine (of_any (max (-g) g) _ (by omega) (by omega) (HT.out.kp HK.out)).mono ?_
    rintro e w' ⟨rfl,hk⟩
    rw [HM.out]
    have HK3:=Lib.hid (HK.out.then hk); clear hk
    go_wp2_with fail
    go_ret
    exact⟨rfl,HK3.out⟩
  ·have hy0:(y != 0)=true:=by simpa using hy
   have hyf:(y == 0)=false:=by simpa using hy
   go_wp2_with fail
   go_region
   go_wp2_with fail
   go_roundw
   case rel=>exact⟨y,x.tmod y,rfl,rfl,(gcd_step x y).trans HG.out,hy1,hy2,(tmod_bd x y hx1 hx2).1,(tmod_bd x y hx1 hx2).2,HK.out.then (Kp.drew _)⟩
   case measure=>simp only [intOf]; exact tmod_lt x y hy
theorem cut_rs_one (n:Int) (w:World):Calls Tryz.prog 64 #[.string ⟨(Lib.itoa n).toArray⟩,.string ⟨#[47]⟩] w fun e w'=>e = .returned (.tuple #[.string ⟨(Lib.itoa n).toArray⟩,.string ⟨#[]⟩,.bool false])∧Kp w w':=
 cut_none _ w (index_none fun _ hc=>itoa_no_stroke hc)
theorem cut_rs_of (n d:Int) (w:World) (hl:(Lib.itoa n).length+(Lib.itoa d).length<1000):Calls Tryz.prog 64 #[.string ⟨(Lib.itoa n++47::Lib.itoa d).toArray⟩,.string ⟨#[47]⟩] w fun e w'=>e = .returned (.tuple #[.string ⟨(Lib.itoa n).toArray⟩,.string ⟨(Lib.itoa d).toArray⟩,.bool true])∧Kp w w':=
 cut_at _ _ w (index_at fun _ hc=>itoa_no_stroke hc) hl
set_option maxHeartbeats 400000 in
theorem parts_walk1 (l p q:List UInt8) (w:World) (hc:∀ w,Calls Tryz.prog 64 #[.string ⟨l.toArray⟩,.string ⟨#[47]⟩] w fun e w'=>e = .returned (.tuple #[.string ⟨p.toArray⟩,.string ⟨q.toArray⟩,.bool true])∧Kp w w') :
  Calls Tryz.prog 69 #[.string ⟨l.toArray⟩] w fun e w'=>e = .returned (.tuple #[strV p,strV q])∧Kp w w':=by
 have HC:=Lib.hid hc; clear hc
 go_enter Tryz.func69,Tryz.ntmps69
 go_wp2_with fail
 refine (HC.out _).mono ?_
 rintro e w' ⟨rfl,hk⟩
 have HK:=Lib.hid hk; clear hk
 go_wp2_with fail
 go_ret2
 exact⟨rfl,HK.out⟩
set_option maxHeartbeats 400000 in
theorem parts_walk0 (l p:List UInt8) (w:World) (hc:∀ w,Calls Tryz.prog 64 #[.string ⟨l.toArray⟩,.string ⟨#[47]⟩] w fun e w'=>e = .returned (.tuple #[.string ⟨p.toArray⟩,.string ⟨#[]⟩,.bool false])∧Kp w w') :
  Calls Tryz.prog 69 #[.string ⟨l.toArray⟩] w fun e w'=>e = .returned (.tuple #[strV p,strV [49]])∧Kp w w':=by
 have HC:=Lib.hid hc; clear hc
 go_enter Tryz.func69,Tryz.ntmps69
 go_wp2_with fail
 refine (HC.out _).mono ?_
 rintro e w' ⟨rfl,hk⟩
 have HK:=Lib.hid hk; clear hk
 go_wp2_with fail
 go_ret2
 exact⟨rfl,HK.out⟩
theorem parts_rs (n d:Int) (w:World) (hl:(Lib.itoa n).length+(Lib.itoa d).length<1000):Calls Tryz.prog 69 #[strV (rs n d)] w fun e w'=>e = .returned (.tuple #[strV (Lib.itoa n),strV (Lib.itoa d)])∧Kp w w':=by
 by_cases h:d=1
 ·subst h
  rw [rs_one,itoa_one]
  exact parts_walk0 _ _ w fun w=>cut_rs_one n w
 ·rw [rs_of h]
  exact parts_walk1 _ _ _ w fun w=>cut_rs_of n d w hl
set_option maxHeartbeats 400000 in
theorem check_walk0 (l:List UInt8) (w:World) (hc:∀ w,Calls Tryz.prog 64 #[.string ⟨l.toArray⟩,.string ⟨#[47]⟩] w fun e w'=>e = .returned (.tuple #[.string ⟨l.toArray⟩,.string ⟨#[]⟩,.bool false])∧Kp w w')
  (hi:∀ w,Calls Tryz.prog 65 #[.string ⟨l.toArray⟩] w fun e w'=>e = .returned (.int .i64 0)∧w'=w) :
  Calls Tryz.prog 31 #[.string ⟨l.toArray⟩] w fun e w'=>e = .returned (.int .i64 0)∧Kp w w':=by
 have HC:=Lib.hid hc; clear hc
 have HI:=Lib.hid hi; clear hi
 go_enter Tryz.func31,Tryz.ntmps31
 go_wp2_with fail
 refine (HC.out _).mono ?_
 rintro e w' ⟨rfl,hk⟩
 have HK:=Lib.hid hk; clear hk
 go_wp2_with fail
 refine (HI.out _).mono ?_
 rintro e w'' ⟨rfl,hw⟩
 subst hw
 go_wp2_with fail
 go_ret
 exact⟨rfl,HK.out⟩
set_option maxHeartbeats 1000000 in
theorem check_walk1 (l p q:List UInt8) (w:World) (hc:∀ w,Calls Tryz.prog 64 #[.string ⟨l.toArray⟩,.string ⟨#[47]⟩] w fun e w'=>e = .returned (.tuple #[.string ⟨p.toArray⟩,.string ⟨q.toArray⟩,.bool true])∧Kp w w')
  (hi:∀ w,Calls Tryz.prog 65 #[.string ⟨p.toArray⟩] w fun e w'=>e = .returned (.int .i64 0)∧w'=w)
  (hj:∀ w,Calls Tryz.prog 65 #[.string ⟨q.toArray⟩] w fun e w'=>e = .returned (.int .i64 0)∧w'=w)
  (hm:∀ w,Calls Tryz.prog 66 #[.string ⟨q.toArray⟩,.string ⟨#[49]⟩] w fun e w'=>e = .returned (.int .i64 1)∧w'=w)
  (hz:(p == [48])=false) (ht:PTab w)
  (hg:∀ w,PTab w→Calls Tryz.prog 67 #[.string ⟨p.toArray⟩,.string ⟨q.toArray⟩] w fun e w'=>e = .returned (.string ⟨#[49]⟩)∧Kp w w') :
  Calls Tryz.prog 31 #[.string ⟨l.toArray⟩] w fun e w'=>e = .returned (.int .i64 0)∧Kp w w':=by
 have HC:=Lib.hid hc; clear hc
 have HI:=Lib.hid hi; clear hi
 have HJ:=Lib.hid hj; clear hj
 have HM:=Lib.hid hm; clear hm
 have HG:=Lib.hid hg; clear hg
 have HT:=Lib.hid ht; clear ht
 go_enter Tryz.func31,Tryz.ntmps31
 go_wp2_with fail
 refine (HC.out _).mono ?_
 rintro e w' ⟨rfl,hk⟩
 have HK:=Lib.hid hk; clear hk
 go_wp2_with fail
 refine (HI.out _).mono ?_
 rintro e w'' ⟨rfl,hw⟩
 subst hw
 go_wp2_with fail
 refine (HJ.out _).mono ?_
 rintro e w'' ⟨rfl,hw⟩
 subst hw
 go_wp2_with fail
 refine (HM.out _).mono ?_
 rintro e w'' ⟨rfl,hw⟩
 subst hw
 go_wp2_with fail
 refine (HG.out _ (HT.out.kp HK.out)).mono ?_
 rintro e w3 ⟨rfl,hk3⟩
 have HK3:=Lib.hid (HK.out.then hk3); clear hk3
 go_wp2_with fail
 go_ret
 exact⟨rfl,HK3.out⟩
theorem itoa_len18 {n:Int} (h1 : -1000000000<n) (h2:n<1000000000):(Lib.itoa n).length≤10:=by
 have p9:(10:Nat) ^ 9=1000000000:=by decide
 rw [itoa_eq,List.length_append]
 have h5:=dec_len (u:=n.natAbs) (k:=9) (by omega) (by omega)
 have h6:(if n<0 then [(45:UInt8)] else []).length≤1:=by split <;> simp
 omega
theorem gcd_itoa (n d:Int) (w:World) (h1 : -1000000000<n) (h2:n<1000000000) (h3 : -1000000000<d) (h4:d<1000000000) (ht:PTab w) :
  Calls Tryz.prog 67 #[.string ⟨(Lib.itoa n).toArray⟩,.string ⟨(Lib.itoa d).toArray⟩] w fun e w'=>e = .returned (strV (Lib.itoa (Int.gcd n d)))∧Kp w w':=by
 have l1:=itoa_len18 h1 h2
 have l2:=itoa_len18 h3 h4
 exact gcd_walk _ _ n d _ w (fun w=>iquick_walk _ n w (by omega) (atoi_itoa n)) (fun w=>iquick_walk _ d w (by omega) (atoi_itoa d)) (by omega) (by omega) (by omega) (by omega) rfl ht
theorem check_rat (a:Rat) (w:World) (ha:Sm a) (ht:PTab w):Calls Tryz.prog 31 #[strV (canon a)] w fun e w'=>e = .returned (.int .i64 0)∧Kp w w':=by
 have ⟨p1,p2,p3⟩:=ha
 have hd:=a.den_pos
 have hred:=a.reduced
 unfold canon
 by_cases h:(a.den:Int)=1
 ·rw [h,rs_one]
  exact check_walk0 _ w (fun w=>cut_rs_one _ w) (fun w=>icheck_itoa _ w (by omega) (by omega))
 ·rw [rs_of h]
  have l1:=itoa_len18 p1 p2
  have l2:=itoa_len18 (n:=a.den) (by omega) (by omega)
  refine check_walk1 _ (Lib.itoa a.num) (Lib.itoa a.den) w (fun w=>cut_rs_of _ _ w (by omega)) (fun w=>icheck_itoa _ w (by omega) (by omega)) (fun w=>icheck_itoa _ w (by omega) (by omega)) (fun w=>compare_itoa _ w (by omega) (by omega)) ?_ ht (fun w hw => ?_)
  ·rw [itoa_is_zero,decide_eq_false]
   intro e
   rw [e] at hred
   have:a.den=1:=by simpa using hred
   omega
  ·have hg:=gcd_itoa a.num a.den w p1 p2 (by omega) (by omega) hw
   have e1:((Int.gcd a.num a.den:Nat):Int)=1:=by
    unfold Int.gcd
    rw [Int.natAbs_natCast]
    have:a.num.natAbs.gcd a.den=1:=hred
    rw [this]; rfl
   rw [e1,itoa_one] at hg
   exact hg
set_option maxHeartbeats 400000 in
theorem sub_walk (la lb lc lr:List UInt8) (w:World) (hn:∀ w,Calls Tryz.prog 229 #[.string ⟨lb.toArray⟩] w fun e w'=>e = .returned (strV lc)∧w'=w)
  (ha:∀ w,PTab w→Calls Tryz.prog 228 #[.string ⟨la.toArray⟩,.string ⟨lc.toArray⟩] w fun e w'=>e = .returned (strV lr)∧Kp w w') (ht:PTab w) :
  Calls Tryz.prog 160 #[.string ⟨la.toArray⟩,.string ⟨lb.toArray⟩] w fun e w'=>e = .returned (strV lr)∧Kp w w':=by
 have HN:=Lib.hid hn; clear hn
 have HA:=Lib.hid ha; clear ha
 have HT:=Lib.hid ht; clear ht
 go_enter Tryz.func160,Tryz.ntmps160
 go_wp2_with fail
 refine (HN.out _).mono ?_
 rintro e w' ⟨rfl,hw⟩
 subst hw
 go_wp2_with fail
 refine (HA.out _ HT.out).mono ?_
 rintro e w1 ⟨rfl,hk⟩
 have HK:=Lib.hid hk; clear hk
 go_wp2_with fail
 go_ret
 exact⟨rfl,HK.out⟩
theorem Sm.neg {a:Rat} (h:Sm a):Sm (-a):=by
 obtain⟨h1,h2,h3⟩:=h
 refine⟨?_,?_,h3⟩
 ·show -1000000000 < -a.num; omega
 ·show -a.num<1000000000; omega
theorem sub_rat (a b:Rat) (w:World) (ha:Sm a) (hb:Sm b) (ht:PTab w):Calls Tryz.prog 160 #[strV (canon a),strV (canon b)] w fun e w'=>e = .returned (strV (canon (a-b)))∧Kp w w':=by
 rw [Rat.sub_eq_add_neg]
 exact sub_walk _ _ (canon (-b)) _ w (fun w=>neg_rat b w hb) (fun w hw=>add_rat a (-b) w ha hb.neg hw) ht
set_option maxHeartbeats 400000 in
theorem join_walk1 (p q:List UInt8) (w:World) (h:(q == [49])=true):Calls Tryz.prog 331 #[.string ⟨p.toArray⟩,.string ⟨q.toArray⟩] w fun e w'=>e = .returned (strV p)∧w'=w:=by
 go_enter Tryz.func331,Tryz.ntmps331
 go_wp2_with fail
 go_ret
 exact⟨rfl,rfl⟩
set_option maxHeartbeats 400000 in
theorem join_walk0 (p q:List UInt8) (w:World) (h:(q == [49])=false) (h1:p.length≤1000) (h2:q.length≤1000):Calls Tryz.prog 331 #[.string ⟨p.toArray⟩,.string ⟨q.toArray⟩] w fun e w'=>e = .returned (strV (p++47::q))∧w'=w:=by
 have a1:=fun w=>run_string_add_sum (P:=Tryz.prog) (w:=w) ⟨p.toArray⟩ ⟨#[47]⟩ (by simp [ByteArray.size]; omega)
 have a2:=fun w=>run_string_add_sum (P:=Tryz.prog) (w:=w) (⟨p.toArray⟩++⟨#[47]⟩) ⟨q.toArray⟩ (by simp [ByteArray.size]; omega)
 go_enter Tryz.func331,Tryz.ntmps331
 go_wp2_with fail
 go_ret
 refine⟨?_,rfl⟩
 show Ending.returned (.string (⟨p.toArray⟩++⟨#[47]⟩++⟨q.toArray⟩))=_
 congr 2
 apply ByteArray.ext
 simp
theorem join_itoa (n d:Int) (w:World) (h1:(Lib.itoa n).length≤1000) (h2:(Lib.itoa d).length≤1000):Calls Tryz.prog 331 #[strV (Lib.itoa n),strV (Lib.itoa d)] w fun e w'=>e = .returned (strV (rs n d))∧w'=w:=by
 by_cases h:d=1
 ·have:=join_walk1 (Lib.itoa n) (Lib.itoa d) w (by rw [itoa_is_one,decide_eq_true h])
  rw [h,rs_one]
  rw [h] at this
  exact this
 ·rw [rs_of h]
  exact join_walk0 _ _ w (by rw [itoa_is_one,decide_eq_false h]) h1 h2
set_option maxHeartbeats 1000000 in
theorem div_walkp (la lb p q j r:List UInt8) (w:World) (hz:(lb == [48])=false) (hp:∀ w,Calls Tryz.prog 69 #[.string ⟨lb.toArray⟩] w fun e w'=>e = .returned (.tuple #[strV p,strV q])∧Kp w w')
  (h0:0<lb.length) (h45:(((⟨lb.toArray⟩:ByteArray)[0].toNat:Int) == 45)=false)
  (hj:∀ w,Calls Tryz.prog 331 #[.string ⟨q.toArray⟩,.string ⟨p.toArray⟩] w fun e w'=>e = .returned (strV j)∧w'=w)
  (hm:∀ w,PTab w→Calls Tryz.prog 204 #[.string ⟨la.toArray⟩,.string ⟨j.toArray⟩] w fun e w'=>e = .returned (strV r)∧Kp w w') (ht:PTab w) :
  Calls Tryz.prog 249 #[.string ⟨la.toArray⟩,.string ⟨lb.toArray⟩] w fun e w'=>e = .returned (.tuple #[strV r,.int .i64 0])∧Kp w w':=by
 have HP:=Lib.hid hp; clear hp
 have HJ:=Lib.hid hj; clear hj
 have HM:=Lib.hid hm; clear hm
 have HT:=Lib.hid ht; clear ht
 go_enter Tryz.func249,Tryz.ntmps249
 go_wp2_with fail
 refine (HP.out _).mono ?_
 rintro e w' ⟨rfl,hk⟩
 have HK:=Lib.hid hk; clear hk
 go_wp2_with fail
 refine (HJ.out _).mono ?_
 rintro e w1 ⟨rfl,hw⟩
 subst hw
 go_wp2_with fail
 refine (HM.out _ (HT.out.kp HK.out)).mono ?_
 rintro e w2 ⟨rfl,hk2⟩
 have HK2:=Lib.hid (HK.out.then hk2); clear hk2
 go_wp2_with fail
 go_ret2
 exact⟨rfl,HK2.out⟩
theorem rs_first {n d:Int} (h:¬ n<0):0<(rs n d).length ∧ ∀ h0:0<(⟨(rs n d).toArray⟩:ByteArray).size,((((⟨(rs n d).toArray⟩:ByteArray)[0]'h0).toNat:Int) == 45)=false:=by
 obtain⟨c,r,hc,hd⟩:=rs_head (n:=n) (d:=d) h
 unfold isDig at hd
 refine⟨by rw [hc]; simp,fun h0 => ?_⟩
 rw [beq_eq_false_iff_ne]
 intro e
 have hx:(⟨(rs n d).toArray⟩:ByteArray)[0]'h0=c:=by rw [get_mk _ 0 h0 (by rw [hc]; simp)]; simp [hc]
 rw [hx] at e
 omega
theorem div_rat (a b:Rat) (w:World) (ha:Sm a) (hb:Sm b) (hp:0<b.num) (ht:PTab w):Calls Tryz.prog 249 #[strV (canon a),strV (canon b)] w fun e w'=>e = .returned (.tuple #[strV (canon (a/b)),.int .i64 0])∧Kp w w':=by
 have ⟨q1,q2,q3⟩:=hb
 have hd:=b.den_pos
 have l1:=itoa_len18 q1 q2
 have l2:=itoa_len18 (n:=b.den) (by omega) (by omega)
 have hinv:(b⁻¹).num=b.den∧((b⁻¹).den:Int)=b.num:=by
  rw [Rat.inv_def]
  have h1:b.num≠0:=by omega
  have e:Rat.divInt b.den b.num=mkRat b.den b.num.natAbs:=by
   rw [← Rat.divInt_ofNat]; congr 1; omega
  rw [e]
  have hg:b.num.natAbs.gcd b.den=1:=b.reduced
  constructor
  ·rw [Rat.num_mkRat,if_neg (by omega),Int.natAbs_natCast,hg]; simp
  ·rw [Rat.den_mkRat,if_neg (by omega),Int.natAbs_natCast,hg]; simp; omega
 have hsm:Sm b⁻¹:=⟨by omega,by omega,by omega⟩
 have hcan:canon b⁻¹=rs b.den b.num:=by unfold canon; rw [hinv.1,hinv.2]
 have hz:b≠0:=by intro e; rw [e] at hp; exact absurd hp (by decide)
 obtain⟨f1,f2⟩:=rs_first (n:=b.num) (d:=b.den) (by omega)
 rw [Rat.div_def]
 refine div_walkp (canon a) (canon b) (Lib.itoa b.num) (Lib.itoa b.den) (canon b⁻¹) _ w (by rw [canon_is_zero,decide_eq_false hz]) (fun w=>parts_rs _ _ w (by omega)) f1 (f2 (by rw [size_mk]; exact f1)) (fun w => ?_) (fun w hw=>mul_rat a b⁻¹ w ha hsm hw) ht
 rw [hcan]
 exact join_itoa _ _ w (by omega) (by omega)
set_option maxHeartbeats 400000 in
theorem abs_walk (l s:List UInt8) (w:World) (h:Lib.trimPrefix l [45]=s):Calls Tryz.prog 489 #[.string ⟨l.toArray⟩] w fun e w'=>e = .returned (strV s)∧w'=w:=by
 have H:=Lib.hid h; clear h
 go_enter Tryz.func489,Tryz.ntmps489
 go_wp2_with fail
 refine (trimPre l _).mono ?_
 rintro e w' ⟨rfl,hw⟩
 rw [H.out]
 subst hw
 go_wp2_with fail
 go_ret
 exact⟨rfl,rfl⟩
set_option maxHeartbeats 400000 in
theorem long_walk (l p q s:List UInt8) (w:World) (hp:∀ w,Calls Tryz.prog 69 #[.string ⟨l.toArray⟩] w fun e w'=>e = .returned (.tuple #[strV p,strV q])∧Kp w w')
  (ha:∀ w,Calls Tryz.prog 489 #[.string ⟨p.toArray⟩] w fun e w'=>e = .returned (strV s)∧w'=w) (h1:decide ((200:Int)<(s.length:Int))=false) (h2:decide ((200:Int)<(q.length:Int))=false) :
  Calls Tryz.prog 423 #[.string ⟨l.toArray⟩] w fun e w'=>e = .returned (.bool false)∧Kp w w':=by
 have HP:=Lib.hid hp; clear hp
 have HA:=Lib.hid ha; clear ha
 go_enter Tryz.func423,Tryz.ntmps423
 go_wp2_with fail
 refine (HP.out _).mono ?_
 rintro e w' ⟨rfl,hk⟩
 have HK:=Lib.hid hk; clear hk
 go_wp2_with fail
 refine (HA.out _).mono ?_
 rintro e w1 ⟨rfl,hw⟩
 subst hw
 go_wp2_with fail
 go_ret
 exact⟨rfl,HK.out⟩
theorem long_rat (a:Rat) (w:World) (ha:Sm a):Calls Tryz.prog 423 #[strV (canon a)] w fun e w'=>e = .returned (.bool false)∧Kp w w':=by
 have ⟨p1,p2,p3⟩:=ha
 have hd:=a.den_pos
 have l1:=itoa_len18 p1 p2
 have l2:=itoa_len18 (n:=a.den) (by omega) (by omega)
 have l3:=l1
 rw [itoa_eq,List.length_append] at l3
 exact long_walk _ (Lib.itoa a.num) (Lib.itoa a.den) (Lib.decDigits a.num.natAbs) w (fun w=>parts_rs _ _ w (by omega)) (fun w=>abs_walk _ _ w (trim_itoa _)) (by simp; omega) (by simp; omega)
def sgnI (z:Int):Int:=if z<0 then -1 else if z=0 then 0 else 1
theorem sgnI_neg {z:Int} (h:z<0):sgnI z = -1:=by unfold sgnI; rw [if_pos h]
theorem sgnI_zero {z:Int} (h:z=0):sgnI z=0:=by unfold sgnI; rw [if_neg (by omega),if_pos h]
theorem sgnI_pos {z:Int} (h:0<z):sgnI z=1:=by unfold sgnI; rw [if_neg (by omega),if_neg (by omega)]
set_option maxHeartbeats 400000 in
theorem rsign_zero (w:World):Calls Tryz.prog 171 #[strV [48]] w fun e w'=>e = .returned (.int .i64 0)∧w'=w:=by
 go_enter Tryz.func171,Tryz.ntmps171
 go_wp2
 go_ret
 exact⟨rfl,rfl⟩
set_option maxHeartbeats 400000 in
theorem rsign_minus (l:List UInt8) (w:World) (h1:(l == [48])=false) (h2:0<l.length) (h3:(((⟨l.toArray⟩:ByteArray)[0].toNat:Int) == 45)=true) :
  Calls Tryz.prog 171 #[.string ⟨l.toArray⟩] w fun e w'=>e = .returned (.int .i64 (-1))∧w'=w:=by
 go_enter Tryz.func171,Tryz.ntmps171
 go_wp2
 go_ret
 exact⟨rfl,rfl⟩
set_option maxHeartbeats 400000 in
theorem rsign_plus (l:List UInt8) (w:World) (h1:(l == [48])=false) (h2:0<l.length) (h3:(((⟨l.toArray⟩:ByteArray)[0].toNat:Int) == 45)=false) :
  Calls Tryz.prog 171 #[.string ⟨l.toArray⟩] w fun e w'=>e = .returned (.int .i64 1)∧w'=w:=by
 go_enter Tryz.func171,Tryz.ntmps171
 go_wp2
 go_ret
 exact⟨rfl,rfl⟩
theorem sign_rat (a:Rat) (w:World):Calls Tryz.prog 171 #[strV (canon a)] w fun e w'=>e = .returned (.int .i64 (sgnI a.num))∧w'=w:=by
 by_cases hz:a=0
 ·subst hz
  rw [canon_zero]
  exact rsign_zero w
 ·have z1:(canon a == [48])=false:=by rw [canon_is_zero,decide_eq_false hz]
  by_cases hn:a.num<0
  ·have e:canon a=45::rs (-a.num) a.den:=rs_neg hn
   obtain⟨l,hl⟩:∃ l,canon a=l:=⟨_,rfl⟩
   rw [sgnI_neg hn,hl]
   rw [hl] at e z1
   have h2:0<l.length:=by rw [e]; simp
   refine rsign_minus l w z1 h2 ?_
   rw [beq_iff_eq]
   have hz0:0<(⟨l.toArray⟩:ByteArray).size:=by rw [size_mk]; exact h2
   have hx:(⟨l.toArray⟩:ByteArray)[0]'hz0=45:=by rw [get_mk l 0 hz0 h2]; simp [e]
   rw [hx]; rfl
  ·obtain⟨c,r,hc,hd⟩:=rs_head (n:=a.num) (d:=a.den) hn
   unfold isDig at hd
   have hp:0<a.num:=by
    rcases Int.lt_or_eq_of_le (show 0≤a.num by omega) with h | h
    ·exact h
    ·exact absurd (Rat.num_eq_zero.1 h.symm) hz
   rw [sgnI_pos hp]
   refine rsign_plus (canon a) w z1 ?_ ?_
   ·show 0<(rs a.num a.den).length
    rw [hc]; simp
   ·rw [beq_eq_false_iff_ne]
    intro e
    have hz0:0<(⟨(rs a.num a.den).toArray⟩:ByteArray).size:=by rw [size_mk,hc]; simp
    have hx:(⟨(rs a.num a.den).toArray⟩:ByteArray)[0]'hz0=c:=by rw [get_mk _ 0 hz0 (by rw [hc]; simp)]; simp [hc]
    have e':((((⟨(rs a.num a.den).toArray⟩:ByteArray)[0]'hz0).toNat:Nat):Int)=45:=e
    rw [hx] at e'
    omega
set_option maxHeartbeats 400000 in
theorem cmp_same (l:List UInt8) (w:World):Calls Tryz.prog 32 #[.string ⟨l.toArray⟩,.string ⟨l.toArray⟩] w fun e w'=>e = .returned (.int .i64 0)∧w'=w:=by
 have h:(l == l)=true:=beq_self_eq_true l
 go_enter Tryz.func32,Tryz.ntmps32
 go_wp2_with fail
 go_ret
 exact⟨rfl,rfl⟩
set_option maxHeartbeats 1000000 in
theorem cmp_walk (la lb:List UInt8) (n d m e r:Int) (w:World) (h1:(la == lb)=false)
  (qa:∀ w,Calls Tryz.prog 68 #[.string ⟨la.toArray⟩] w fun x w'=>x = .returned (.tuple #[.int .i64 n,.int .i64 d,.bool true])∧w'=w)
  (qb:∀ w,Calls Tryz.prog 68 #[.string ⟨lb.toArray⟩] w fun x w'=>x = .returned (.tuple #[.int .i64 m,.int .i64 e,.bool true])∧w'=w)
  (b1 : -1000000000000000000≤n*e) (b2:n*e≤1000000000000000000) (b3 : -1000000000000000000≤m*d) (b4:m*d≤1000000000000000000)
  (hr:r=sgnI (n*e-m*d)) (hlt:decide (n*e<m*d)=decide (r = -1)) (hgt:decide (m*d<n*e)=decide (r=1)) (hr3:r = -1∨r=0∨r=1) :
  Calls Tryz.prog 32 #[.string ⟨la.toArray⟩,.string ⟨lb.toArray⟩] w fun x w'=>x = .returned (.int .i64 r)∧w'=w:=by
 have HA:=Lib.hid qa; clear qa
 have HB:=Lib.hid qb; clear qb
 clear hr
 rcases hr3 with rfl | rfl | rfl
 ·have k1:decide (n*e<m*d)=true:=by rw [hlt]; rfl
  clear hlt hgt
  go_enter Tryz.func32,Tryz.ntmps32
  go_wp2_with fail
  refine (HA.out _).mono ?_
  rintro x w' ⟨rfl,hw⟩
  subst hw
  go_wp2_with fail
  refine (HB.out _).mono ?_
  rintro x w' ⟨rfl,hw⟩
  subst hw
  go_wp2_with fail
  go_ret
  exact⟨rfl,rfl⟩
 ·have k1:decide (n*e<m*d)=false:=by rw [hlt]; rfl
  have k2:decide (m*d<n*e)=false:=by rw [hgt]; rfl
  clear hlt hgt
  go_enter Tryz.func32,Tryz.ntmps32
  go_wp2_with fail
  refine (HA.out _).mono ?_
  rintro x w' ⟨rfl,hw⟩
  subst hw
  go_wp2_with fail
  refine (HB.out _).mono ?_
  rintro x w' ⟨rfl,hw⟩
  subst hw
  go_wp2_with fail
  go_ret
  exact⟨rfl,rfl⟩
 ·have k1:decide (n*e<m*d)=false:=by rw [hlt]; rfl
  have k2:decide (m*d<n*e)=true:=by rw [hgt]; rfl
  clear hlt hgt
  go_enter Tryz.func32,Tryz.ntmps32
  go_wp2_with fail
  refine (HA.out _).mono ?_
  rintro x w' ⟨rfl,hw⟩
  subst hw
  go_wp2_with fail
  refine (HB.out _).mono ?_
  rintro x w' ⟨rfl,hw⟩
  subst hw
  go_wp2_with fail
  go_ret
  exact⟨rfl,rfl⟩
theorem sub_num_sign (a b:Rat):sgnI (a-b).num=sgnI (a.num*b.den-b.num*a.den):=by
 have e:a-b=mkRat (a.num*b.den-b.num*a.den) (a.den*b.den):=Rat.sub_def' ..
 have d1:=a.den_pos
 have d2:=b.den_pos
 have hd:a.den*b.den≠0:=by
  intro h
  rcases Nat.mul_eq_zero.1 h with h | h <;> omega
 rw [e]
 generalize a.num*b.den-b.num*a.den=z
 generalize a.den*b.den=t at *
 rw [Rat.num_mkRat,if_neg hd]
 have hg:0<t.gcd z.natAbs:=Nat.gcd_pos_of_pos_left _ (by omega)
 obtain⟨y,hy⟩:((t.gcd z.natAbs:Nat):Int) ∣ z:=Int.ofNat_dvd_left.2 (Nat.gcd_dvd_right ..)
 have hq:z/((t.gcd z.natAbs:Nat):Int)=y:=by
  conv=>lhs; arg 1; rw [hy]
  exact Int.mul_ediv_cancel_left _ (by omega)
 rw [hq]
 generalize t.gcd z.natAbs=g at *
 have hg':(0:Int)<(g:Int):=by omega
 rcases Int.lt_trichotomy y 0 with h | h | h
 ·rw [sgnI_neg h,sgnI_neg (by rw [hy]; exact Int.mul_neg_of_pos_of_neg hg' h)]
 ·rw [sgnI_zero h,sgnI_zero (by rw [hy,h]; simp)]
 ·rw [sgnI_pos h,sgnI_pos (by rw [hy]; exact Int.mul_pos hg' h)]
theorem cmp_rat (a b:Rat) (w:World) (ha:Sm a) (hb:Sm b):Calls Tryz.prog 32 #[strV (canon a),strV (canon b)] w fun e w'=>e = .returned (.int .i64 (sgnI (a-b).num))∧w'=w:=by
 by_cases h:a=b
 ·subst h
  rw [Rat.sub_self]
  exact cmp_same (canon a) w
 ·have z1:(canon a == canon b)=false:=by rw [beq_eq_false_iff_ne]; exact fun e=>h (canon_inj e)
  have d1:=a.den_pos
  have d2:=b.den_pos
  have ⟨p1,p2,p3⟩:=ha
  have ⟨q1,q2,q3⟩:=hb
  have m1:=mul_bd (a:=a.num) (b:=b.den) (k:=1000000000) (m:=1000000000) (by omega) (by omega) (by omega) (by omega)
  have m2:=mul_bd (a:=b.num) (b:=a.den) (k:=1000000000) (m:=1000000000) (by omega) (by omega) (by omega) (by omega)
  rw [sub_num_sign]
  generalize hz:a.num*(b.den:Int)=s at *
  generalize hy:b.num*(a.den:Int)=t at *
  refine cmp_walk (canon a) (canon b) a.num a.den b.num b.den _ w z1 (fun w=>quick_rs _ _ w p1 p2 (by omega) (by omega)) (fun w=>quick_rs _ _ w q1 q2 (by omega) (by omega)) (by rw [hz]; omega) (by rw [hz]; omega) (by rw [hy]; omega) (by rw [hy]; omega) (by rw [hz,hy]) ?_ ?_ ?_
  ·rw [hz,hy]
   rcases Int.lt_trichotomy (s-t) 0 with u | u | u
   ·rw [sgnI_neg u]; simp; omega
   ·rw [sgnI_zero u]; simp; omega
   ·rw [sgnI_pos u]; simp; omega
  ·rw [hz,hy]
   rcases Int.lt_trichotomy (s-t) 0 with u | u | u
   ·rw [sgnI_neg u]; simp; omega
   ·rw [sgnI_zero u]; simp; omega
   ·rw [sgnI_pos u]; simp; omega
  ·rcases Int.lt_trichotomy (s-t) 0 with u | u | u
   ·exact .inl (sgnI_neg u)
   ·exact .inr (.inl (sgnI_zero u))
   ·exact .inr (.inr (sgnI_pos u))
end Go.Proofs.YtkjinnjopoehhaaGreatDoor
