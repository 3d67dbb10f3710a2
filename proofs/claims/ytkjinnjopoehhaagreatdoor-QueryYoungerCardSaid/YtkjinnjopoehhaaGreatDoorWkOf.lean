/-
  klippe/klipperef01 and klipperef02.Right, Sign, Sub, Compare at the texts of small numbers.
-/
import Derived.Test.YtkjinnjopoehhaaGreatDoorWkNum
set_option linter.unusedSectionVars false
set_option linter.unusedVariables false
set_option linter.unusedSimpArgs false
namespace Go.Proofs.YtkjinnjopoehhaaGreatDoor
open Go.RowKit Go Klp
set_option maxHeartbeats 1000000 in
theorem brief_pn (s:ByteArray) (w:World) (B:Nat) (hB:B≤9) (hB0:0<B) (h0:0<s.size) (h45:((s[0].toNat:Int) == 45)=false) (hd:digTo s 0 B) (hs:s.size=B) :
  Calls Tryz.prog 81 #[.string s] w fun e w'=>e = .returned (.tuple #[.int .i64 (1*valTo s 0 B),.int .i64 (1),.bool true])∧w'=w:=by
 have HD:=Lib.hid hd; clear hd
 have HS:=Lib.hid hs
 have hs1:s.size≤9:=by omega
 have hs9:decide ((9:Int)<(s.size:Int))=false:=by simp; omega
 have hs2:B≤s.size:=by omega
 clear hs
 go_enter Tryz.func81,Tryz.ntmps81
 go_wp2
 go_loop [2,5] (fun n i => ∃ k:Nat,0≤k∧k≤B∧i = .int .i64 k∧n = .int .i64 (valTo s 0 k)) (fun _ i=>100-(intOf i).toNat)
 case atStart=>exact⟨0,by omega,by omega,rfl,by rw [valTo_zero]⟩
 case round=>
  obtain⟨k,hk0,hk,rfl,rfl⟩:=hrel
  have hb:=valTo_lt s 0 B k HD.out hs2 hk0 hk (by omega)
  by_cases hlt:k<B
  ·have hkl:k<s.size:=by omega
   have hdk:=HD.out k hkl hk0 hlt
   have HP:=Lib.hid (valTo_succ s 0 k hkl hk0)
   have h47':((s[k].toNat:Int) != 47)=true:=by simp; omega
   go_wp2
   go_round
   case rel=>exact⟨k+1,by omega,by omega,by go_num,by rw [HP.out]⟩
   case measure=>simp [intOf]; omega
  ·obtain rfl:k=B:=by omega
   have hge:¬ k<s.size:=by have:=HS.out; omega
   go_wp2
   go_ret3
   exact⟨rfl,rfl⟩
set_option maxHeartbeats 1000000 in
theorem brief_ps (s:ByteArray) (w:World) (B:Nat) (hB:B≤9) (hB0:0<B) (h0:0<s.size) (h45:((s[0].toNat:Int) == 45)=false) (hd:digTo s 0 B) (M:Nat) (hM:M≤9) (hs:s.size=M) (hsl:B<s.size) (h47:((s[B].toNat:Int) != 47)=false) (hd2:digTo s (B+1) M) :
  Calls Tryz.prog 81 #[.string s] w fun e w'=>e = .returned (.tuple #[.int .i64 (1*valTo s 0 B),.int .i64 (valTo s (B+1) M),.bool true])∧w'=w:=by
 have HD:=Lib.hid hd; clear hd
 have HS:=Lib.hid hs
 have hs1:s.size≤9:=by omega
 have hs9:decide ((9:Int)<(s.size:Int))=false:=by simp; omega
 have hs2:B≤s.size:=by omega
 have HD2:=Lib.hid hd2; clear hd2
 have H47:=Lib.hid h47; clear h47
 clear hs
 go_enter Tryz.func81,Tryz.ntmps81
 go_wp2
 go_loop [2,5] (fun n i => ∃ k:Nat,0≤k∧k≤B∧i = .int .i64 k∧n = .int .i64 (valTo s 0 k)) (fun _ i=>100-(intOf i).toNat)
 case atStart=>exact⟨0,by omega,by omega,rfl,by rw [valTo_zero]⟩
 case round=>
  obtain⟨k,hk0,hk,rfl,rfl⟩:=hrel
  have hb:=valTo_lt s 0 B k HD.out hs2 hk0 hk (by omega)
  by_cases hlt:k<B
  ·have hkl:k<s.size:=by omega
   have hdk:=HD.out k hkl hk0 hlt
   have HP:=Lib.hid (valTo_succ s 0 k hkl hk0)
   have h47':((s[k].toNat:Int) != 47)=true:=by simp; omega
   go_wp2
   go_round
   case rel=>exact⟨k+1,by omega,by omega,by go_num,by rw [HP.out]⟩
   case measure=>simp [intOf]; omega
  ·obtain rfl:k=B:=by omega
   have h47:=H47.out
   have hks:k<s.size:=by have:=HS.out; omega
   go_wp2
   go_loop [3,5] (fun d i => ∃ j:Nat,k+1≤j∧j≤M∧i = .int .i64 j∧d = .int .i64 (valTo s (k+1) j)) (fun _ i=>100-(intOf i).toNat)
   case atStart=>exact⟨k+1,by omega,by have:=HS.out; omega,by go_num,by rw [valTo_zero]⟩
   case round=>
    obtain⟨j,hj0,hj,rfl,rfl⟩:=hrel
    have hb2:=valTo_lt s (k+1) M j HD2.out (by have:=HS.out; omega) hj0 hj (by omega)
    have hjs:j≤s.size:=by have:=HS.out; omega
    by_cases hlt2:j<M
    ·have hkl:j<s.size:=by have:=HS.out; omega
     have hdk:=HD2.out j hkl hj0 hlt2
     have HP:=Lib.hid (valTo_succ s (k+1) j hkl hj0)
     go_wp2
     go_round
     case rel=>exact⟨j+1,by omega,by omega,by go_num,by rw [HP.out]⟩
     case measure=>simp [intOf]; omega
    ·obtain rfl:j=M:=by omega
     have hge:¬ j<s.size:=by have:=HS.out; omega
     go_wp2
     go_ret3
     exact⟨rfl,rfl⟩
set_option maxHeartbeats 1000000 in
theorem brief_mn (s:ByteArray) (w:World) (B:Nat) (hB:B≤9) (hB0:1<B) (h0:0<s.size) (h45:((s[0].toNat:Int) == 45)=true) (hd:digTo s 1 B) (hs:s.size=B) :
  Calls Tryz.prog 81 #[.string s] w fun e w'=>e = .returned (.tuple #[.int .i64 (-1*valTo s 1 B),.int .i64 (1),.bool true])∧w'=w:=by
 have HD:=Lib.hid hd; clear hd
 have HS:=Lib.hid hs
 have hs1:s.size≤9:=by omega
 have hs9:decide ((9:Int)<(s.size:Int))=false:=by simp; omega
 have hs2:B≤s.size:=by omega
 clear hs
 go_enter Tryz.func81,Tryz.ntmps81
 go_wp2
 go_loop [2,5] (fun n i => ∃ k:Nat,1≤k∧k≤B∧i = .int .i64 k∧n = .int .i64 (valTo s 1 k)) (fun _ i=>100-(intOf i).toNat)
 case atStart=>exact⟨1,by omega,by omega,rfl,by rw [valTo_zero]⟩
 case round=>
  obtain⟨k,hk0,hk,rfl,rfl⟩:=hrel
  have hb:=valTo_lt s 1 B k HD.out hs2 hk0 hk (by omega)
  by_cases hlt:k<B
  ·have hkl:k<s.size:=by omega
   have hdk:=HD.out k hkl hk0 hlt
   have HP:=Lib.hid (valTo_succ s 1 k hkl hk0)
   have h47':((s[k].toNat:Int) != 47)=true:=by simp; omega
   go_wp2
   go_round
   case rel=>exact⟨k+1,by omega,by omega,by go_num,by rw [HP.out]⟩
   case measure=>simp [intOf]; omega
  ·obtain rfl:k=B:=by omega
   have hge:¬ k<s.size:=by have:=HS.out; omega
   go_wp2
   go_ret3
   exact⟨rfl,rfl⟩
set_option maxHeartbeats 1000000 in
theorem brief_ms (s:ByteArray) (w:World) (B:Nat) (hB:B≤9) (hB0:1<B) (h0:0<s.size) (h45:((s[0].toNat:Int) == 45)=true) (hd:digTo s 1 B) (M:Nat) (hM:M≤9) (hs:s.size=M) (hsl:B<s.size) (h47:((s[B].toNat:Int) != 47)=false) (hd2:digTo s (B+1) M) :
  Calls Tryz.prog 81 #[.string s] w fun e w'=>e = .returned (.tuple #[.int .i64 (-1*valTo s 1 B),.int .i64 (valTo s (B+1) M),.bool true])∧w'=w:=by
 have HD:=Lib.hid hd; clear hd
 have HS:=Lib.hid hs
 have hs1:s.size≤9:=by omega
 have hs9:decide ((9:Int)<(s.size:Int))=false:=by simp; omega
 have hs2:B≤s.size:=by omega
 have HD2:=Lib.hid hd2; clear hd2
 have H47:=Lib.hid h47; clear h47
 clear hs
 go_enter Tryz.func81,Tryz.ntmps81
 go_wp2
 go_loop [2,5] (fun n i => ∃ k:Nat,1≤k∧k≤B∧i = .int .i64 k∧n = .int .i64 (valTo s 1 k)) (fun _ i=>100-(intOf i).toNat)
 case atStart=>exact⟨1,by omega,by omega,rfl,by rw [valTo_zero]⟩
 case round=>
  obtain⟨k,hk0,hk,rfl,rfl⟩:=hrel
  have hb:=valTo_lt s 1 B k HD.out hs2 hk0 hk (by omega)
  by_cases hlt:k<B
  ·have hkl:k<s.size:=by omega
   have hdk:=HD.out k hkl hk0 hlt
   have HP:=Lib.hid (valTo_succ s 1 k hkl hk0)
   have h47':((s[k].toNat:Int) != 47)=true:=by simp; omega
   go_wp2
   go_round
   case rel=>exact⟨k+1,by omega,by omega,by go_num,by rw [HP.out]⟩
   case measure=>simp [intOf]; omega
  ·obtain rfl:k=B:=by omega
   have h47:=H47.out
   have hks:k<s.size:=by have:=HS.out; omega
   go_wp2
   go_loop [3,5] (fun d i => ∃ j:Nat,k+1≤j∧j≤M∧i = .int .i64 j∧d = .int .i64 (valTo s (k+1) j)) (fun _ i=>100-(intOf i).toNat)
   case atStart=>exact⟨k+1,by omega,by have:=HS.out; omega,by go_num,by rw [valTo_zero]⟩
   case round=>
    obtain⟨j,hj0,hj,rfl,rfl⟩:=hrel
    have hb2:=valTo_lt s (k+1) M j HD2.out (by have:=HS.out; omega) hj0 hj (by omega)
    have hjs:j≤s.size:=by have:=HS.out; omega
    by_cases hlt2:j<M
    ·have hkl:j<s.size:=by have:=HS.out; omega
     have hdk:=HD2.out j hkl hj0 hlt2
     have HP:=Lib.hid (valTo_succ s (k+1) j hkl hj0)
     go_wp2
     go_round
     case rel=>exact⟨j+1,by omega,by omega,by go_num,by rw [HP.out]⟩
     case measure=>simp [intOf]; omega
    ·obtain rfl:j=M:=by omega
     have hge:¬ j<s.size:=by have:=HS.out; omega
     go_wp2
     go_ret3
     exact⟨rfl,rfl⟩
theorem brief_rs (n d:Int) (w:World) (h3:0<d) (hl:(rs n d).length≤9) :
  Calls Tryz.prog 81 #[.string ⟨(rs n d).toArray⟩] w fun e w'=>e = .returned (.tuple #[.int .i64 n,.int .i64 d,.bool true])∧w'=w:=by
 have q1:=dec_pos n.natAbs
 have q2:=dec_pos d.natAbs
 have v1:=dec_val n.natAbs
 have v2:=dec_val d.natAbs
 have hdp:¬ d<0:=by omega
 by_cases hn:n<0
 ·by_cases hd:d=1
  ·subst hd
   rw [rs_one,itoa_neg' hn] at hl ⊢
   try simp only [List.length_append,List.length_cons] at hl
   have e:(45::Lib.decDigits n.natAbs)=[45]++(Lib.decDigits n.natAbs++[]):=by simp
   have hv:=valTo_mk [45] (Lib.decDigits n.natAbs) []
   have hdg:=digTo_mk (p:=[45]) (r:=[]) (dec_dig n.natAbs)
   rw [← e] at hv hdg
   simp only [List.length_singleton] at hv hdg
   refine (brief_mn ⟨(45::Lib.decDigits n.natAbs).toArray⟩ w (1+(Lib.decDigits n.natAbs).length) (by omega) (by omega) (by rw [size_mk]; simp) rfl hdg (by rw [size_mk]; simp; omega)).mono ?_
   rintro e w' ⟨rfl,rfl⟩
   refine⟨?_,rfl⟩
   rw [hv,v1]
   have a1 : -1*((n.natAbs:Nat):Int)=n:=by omega
   rw [a1]
  ·rw [rs_of hd,itoa_neg' hn,itoa_pos' hdp] at hl ⊢
   try simp only [List.length_append,List.length_cons] at hl
   have e:(45::Lib.decDigits n.natAbs++47::Lib.decDigits d.natAbs)=[45]++(Lib.decDigits n.natAbs++47::Lib.decDigits d.natAbs):=by simp
   have e':(45::Lib.decDigits n.natAbs++47::Lib.decDigits d.natAbs)=([45]++Lib.decDigits n.natAbs++[47])++(Lib.decDigits d.natAbs++[]):=by simp
   have hv:=valTo_mk [45] (Lib.decDigits n.natAbs) (47::Lib.decDigits d.natAbs)
   have hdg:=digTo_mk (p:=[45]) (r:=47::Lib.decDigits d.natAbs) (dec_dig n.natAbs)
   have hv2:=valTo_mk ([45]++Lib.decDigits n.natAbs++[47]) (Lib.decDigits d.natAbs) []
   have hdg2:=digTo_mk (p:=[45]++Lib.decDigits n.natAbs++[47]) (r:=[]) (dec_dig d.natAbs)
   rw [← e] at hv hdg
   rw [← e'] at hv2 hdg2
   have el:([45]++Lib.decDigits n.natAbs++[47]).length=1+(Lib.decDigits n.natAbs).length+1:=by simp; omega
   rw [el] at hv2 hdg2
   simp only [List.length_singleton] at hv hdg
   have hs:(⟨(45::Lib.decDigits n.natAbs++47::Lib.decDigits d.natAbs).toArray⟩:ByteArray).size=1+(Lib.decDigits n.natAbs).length+1+(Lib.decDigits d.natAbs).length:=by rw [size_mk]; simp; omega
   refine (brief_ms ⟨(45::Lib.decDigits n.natAbs++47::Lib.decDigits d.natAbs).toArray⟩ w (1+(Lib.decDigits n.natAbs).length) (by omega) (by omega) (by omega) rfl hdg (1+(Lib.decDigits n.natAbs).length+1+(Lib.decDigits d.natAbs).length) (by omega) hs (by omega) ?_ hdg2).mono ?_
   ·rw [get_mk _ _ (by omega) (by simp; omega),List.getElem_append_right (by simp; omega)]
    simp [Nat.add_comm]
   ·rintro e w' ⟨rfl,rfl⟩
    refine⟨?_,rfl⟩
    rw [hv,v1,hv2,v2]
    have a1 : -1*((n.natAbs:Nat):Int)=n:=by omega
    have a2:((d.natAbs:Nat):Int)=d:=by omega
    rw [a1,a2]
 ·obtain⟨c,r,hc,hcd⟩:∃ c r,Lib.decDigits n.natAbs=c::r∧isDig c:=by
   cases hl:Lib.decDigits n.natAbs with
   | nil=>rw [hl] at q1; simp at q1
   | cons c r=>exact⟨c,r,rfl,dec_dig n.natAbs c (by rw [hl]; exact List.mem_cons_self ..)⟩
  unfold isDig at hcd
  have h45:(((c.toNat:Nat):Int) == 45)=false:=by rw [beq_eq_false_iff_ne]; omega
  by_cases hd:d=1
  ·subst hd
   rw [rs_one,itoa_pos' hn] at hl ⊢
   try simp only [List.length_append,List.length_cons] at hl
   have e:Lib.decDigits n.natAbs=[]++(Lib.decDigits n.natAbs++[]):=by simp
   have hv:=valTo_mk [] (Lib.decDigits n.natAbs) []
   have hdg:=digTo_mk (p:=[]) (r:=[]) (dec_dig n.natAbs)
   rw [← e] at hv hdg
   simp only [List.length_nil,Nat.zero_add] at hv hdg
   refine (brief_pn ⟨(Lib.decDigits n.natAbs).toArray⟩ w (Lib.decDigits n.natAbs).length (by omega) (by omega) (by rw [size_mk]; omega) ?_ hdg (by rw [size_mk])).mono ?_
   ·rw [get_mk _ 0 (by rw [size_mk]; omega) q1]
    simp only [hc,List.getElem_cons_zero]
    exact h45
   ·rintro e w' ⟨rfl,rfl⟩
    refine⟨?_,rfl⟩
    rw [hv,v1]
    have a1:1*((n.natAbs:Nat):Int)=n:=by omega
    rw [a1]
  ·rw [rs_of hd,itoa_pos' hn,itoa_pos' hdp] at hl ⊢
   try simp only [List.length_append,List.length_cons] at hl
   have e:(Lib.decDigits n.natAbs++47::Lib.decDigits d.natAbs)=[]++(Lib.decDigits n.natAbs++47::Lib.decDigits d.natAbs):=by simp
   have e':(Lib.decDigits n.natAbs++47::Lib.decDigits d.natAbs)=(Lib.decDigits n.natAbs++[47])++(Lib.decDigits d.natAbs++[]):=by simp
   have hv:=valTo_mk [] (Lib.decDigits n.natAbs) (47::Lib.decDigits d.natAbs)
   have hdg:=digTo_mk (p:=[]) (r:=47::Lib.decDigits d.natAbs) (dec_dig n.natAbs)
   have hv2:=valTo_mk (Lib.decDigits n.natAbs++[47]) (Lib.decDigits d.natAbs) []
   have hdg2:=digTo_mk (p:=Lib.decDigits n.natAbs++[47]) (r:=[]) (dec_dig d.natAbs)
   rw [← e] at hv hdg
   rw [← e'] at hv2 hdg2
   have el:(Lib.decDigits n.natAbs++[47]).length=(Lib.decDigits n.natAbs).length+1:=by simp
   rw [el] at hv2 hdg2
   simp only [List.length_nil,Nat.zero_add] at hv hdg
   have hs:(⟨(Lib.decDigits n.natAbs++47::Lib.decDigits d.natAbs).toArray⟩:ByteArray).size=(Lib.decDigits n.natAbs).length+1+(Lib.decDigits d.natAbs).length:=by rw [size_mk]; simp; omega
   refine (brief_ps ⟨(Lib.decDigits n.natAbs++47::Lib.decDigits d.natAbs).toArray⟩ w (Lib.decDigits n.natAbs).length (by omega) (by omega) (by omega) ?_ hdg ((Lib.decDigits n.natAbs).length+1+(Lib.decDigits d.natAbs).length) (by omega) hs (by omega) ?_ hdg2).mono ?_
   ·rw [get_mk _ 0 (by omega) (by simp; omega),List.getElem_append_left (by omega)]
    simp only [hc,List.getElem_cons_zero]
    exact h45
   ·rw [get_mk _ _ (by omega) (by simp),List.getElem_append_right (by omega)]
    simp
   ·rintro e w' ⟨rfl,rfl⟩
    refine⟨?_,rfl⟩
    rw [hv,v1,hv2,v2]
    have a1:1*((n.natAbs:Nat):Int)=n:=by omega
    have a2:((d.natAbs:Nat):Int)=d:=by omega
    rw [a1,a2]
def Br (q:Rat):Prop:=(canon q).length≤9
set_option maxHeartbeats 400000 in
theorem lowest_one (n:Int) (w:World) (hn : -9223372036854775807≤n) (hn':n≤9223372036854775807) (ht:PTab w) :
  Calls Tryz.prog 82 #[.int .i64 n,.int .i64 1] w fun e w'=>e = .returned (.string ⟨(Lib.itoa n).toArray⟩)∧Kp w w':=by
 have HT:=Lib.hid ht; clear ht
 go_enter Tryz.func82,Tryz.ntmps82
 go_wp2_with fail
 refine (itoa_any n _ (by omega) (by omega) HT.out).mono ?_
 rintro e w1 ⟨rfl,hk1⟩
 have HK1:=Lib.hid hk1; clear hk1
 go_wp2_with fail
 go_ret
 exact⟨rfl,HK1.out⟩
set_option maxHeartbeats 1000000 in
theorem lowest_any (n d g n' d' m:Int) (w:World) (hd1:(d != 1)=true) (hm:max n (-n)=m) (hm1:0≤m) (hm2:m≤9223372036854775807) (hn : -9223372036854775807≤n) (hn':n≤9223372036854775807) (hd:1≤d) (hd':d≤9223372036854775807)
  (hg1:1≤g) (hg2:g≤d) (hgcd:(Int.gcd m d:Int)=g) (hq1:n.tdiv g=n') (hq2:d/g=d') (hb1 : -9223372036854775807≤n') (hb2:n'≤9223372036854775807) (hb3:1≤d') (hb4:d'≤9223372036854775807) (ht:PTab w) :
  Calls Tryz.prog 82 #[.int .i64 n,.int .i64 d] w fun e w'=>e = .returned (.string (ratS n' d'))∧Kp w w':=by
 have HT:=Lib.hid ht; clear ht
 have HM:=Lib.hid hm; clear hm
 have HGC:=Lib.hid hgcd; clear hgcd
 have HQ1:=Lib.hid hq1; clear hq1
 have HQ2:=Lib.hid hq2; clear hq2
 go_enter Tryz.func82,Tryz.ntmps82
 go_wp2
 go_loopw [5,6] (fun a b wr => ∃ x y:Int,a = .int .i64 x∧b = .int .i64 y∧(Int.gcd x y:Int)=g∧0≤x∧x≤9223372036854775807∧0≤y∧y≤9223372036854775807∧Kp w wr) (fun _ b _=>(intOf b).natAbs)
 case atStart=>exact⟨m,d,by rw [HM.out],rfl,HGC.out,by omega,by omega,by omega,by omega,Kp.refl w⟩
 case round=>
  obtain⟨x,y,rfl,rfl,hg,hx1,hx2,hy1,hy2,hk⟩:=hrel
  have HG:=Lib.hid hg; clear hg
  have HK:=Lib.hid hk; clear hk
  by_cases hy:y=0
  ·subst hy
   obtain rfl:x=g:=by have:=HG.out; rw [Int.gcd_zero_right] at this; omega
   have hq1:=HQ1.out
   have hq2:=HQ2.out
   clear HG
   have hgz:(x == 0)=false:=by simp; omega
   go_wp2
   go_region
   by_cases h1:d'=1
   ·have H1:=Lib.hid h1; clear h1
    have h1':(d' == 1)=true:=by simp [H1.out]
    go_wp2_with fail
    refine (itoa_any n' _ (by omega) (by omega) (HT.out.kp (HK.out.then (Kp.drew _)))).mono ?_
    rintro e w1 ⟨rfl,hk1⟩
    have HK1:=Lib.hid hk1; clear hk1
    go_wp2_with fail
    go_ret
    exact⟨by rw [ratS,if_pos H1.out]; rfl,HK.out.then ((Kp.drew _).then HK1.out)⟩
   ·have H1:=Lib.hid h1; clear h1
    have h1':(d' == 1)=false:=by simp [H1.out]
    have z1:=Lib.itoa_length_le n' (by omega) (by omega)
    have z2:=Lib.itoa_length_le d' (by omega) (by omega)
    have a1:=fun w=>run_string_add_sum (P:=Tryz.prog) (w:=w) ⟨(Lib.itoa n').toArray⟩ ⟨#[47]⟩ (by simp [ByteArray.size]; omega)
    have a2:=fun w=>run_string_add_sum (P:=Tryz.prog) (w:=w) (⟨(Lib.itoa n').toArray⟩++⟨#[47]⟩) ⟨(Lib.itoa d').toArray⟩ (by simp [ByteArray.size]; omega)
    go_wp2_with fail
    refine (itoa_any n' _ (by omega) (by omega) (HT.out.kp (HK.out.then (Kp.drew _)))).mono ?_
    rintro e w1 ⟨rfl,hk1⟩
    have HK1:=Lib.hid hk1; clear hk1
    go_wp2_with fail
    refine (itoa_any d' _ (by omega) (by omega) (HT.out.kp (HK.out.then ((Kp.drew _).then HK1.out)))).mono ?_
    rintro e w2 ⟨rfl,hk2⟩
    have HK2:=Lib.hid hk2; clear hk2
    go_wp2_with fail
    go_ret
    exact⟨by rw [ratS,if_neg H1.out]; rfl,(HK.out.then ((Kp.drew _).then HK1.out)).then HK2.out⟩
  ·have hy0:(y != 0)=true:=by simpa using hy
   have hyf:(y == 0)=false:=by simpa using hy
   go_wp2
   go_region
   go_wp2
   go_roundw
   case rel=>
    have e:x%y=x.tmod y:=(Int.tmod_eq_emod_of_nonneg hx1).symm
    have g1:=(gcd_step x y).trans HG.out
    rw [← e] at g1
    exact⟨y,x%y,rfl,rfl,g1,hy1,hy2,Int.emod_nonneg _ hy,by have:=Int.emod_lt_of_pos x (show 0<y by omega); omega,HK.out.then (Kp.drew _)⟩
   case measure=>
    have:=Int.emod_nonneg x hy
    have:=Int.emod_lt_of_pos x (show 0<y by omega)
    simp only [intOf]; omega
theorem lowest_rat (n d:Int) (w:World) (hn : -9223372036854775807≤n) (hn':n≤9223372036854775807) (hd:1≤d) (hd':d≤9223372036854775807) (ht:PTab w) :
  Calls Tryz.prog 82 #[.int .i64 n,.int .i64 d] w fun e w'=>e = .returned (strV (canon (mkRat n d.toNat)))∧Kp w w':=by
 by_cases h1:d=1
 ·subst h1
  refine (lowest_one n w hn hn' ht).mono fun e w' ⟨h,hk⟩=>⟨?_,hk⟩
  rw [h]
  have:mkRat n (1:Int).toNat=(n:Rat):=Rat.mkRat_one ..
  rw [this]
  show _=Ending.returned (strV (Klp.rs n 1))
  rw [rs_one]
 ·have hg0:0<Int.gcd n d:=Int.gcd_pos_of_ne_zero_right _ (by omega)
  have hgd:(Int.gcd n d:Int) ∣ d:=Int.gcd_dvd_right ..
  have hgn:(Int.gcd n d:Int) ∣ n:=Int.gcd_dvd_left ..
  have hle:(Int.gcd n d:Int)≤d:=Int.le_of_dvd (by omega) hgd
  obtain⟨a,ha⟩:=hgn
  obtain⟨b,hb⟩:=hgd
  generalize hgg:(Int.gcd n d:Int)=g at *
  have hg1:1≤g:=by omega
  have q1:n.tdiv g=a:=by rw [ha]; exact Int.mul_tdiv_cancel_left _ (by omega)
  have q2:d/g=b:=by rw [hb]; exact Int.mul_ediv_cancel_left _ (by omega)
  have hab:a.natAbs≤n.natAbs:=by
   rw [ha,Int.natAbs_mul]
   exact Nat.le_mul_of_pos_left _ (by omega)
  have hb1:1≤b:=by
   rcases Int.lt_or_le b 1 with h | h
   ·exfalso
    have:g*b≤0:=Int.mul_nonpos_of_nonneg_of_nonpos (by omega) (by omega)
    omega
   ·exact h
  have hb2:b≤d:=by
   have:1*b≤g*b:=Int.mul_le_mul_of_nonneg_right hg1 (by omega)
   omega
  have hgm:(Int.gcd (n.natAbs:Int) d:Int)=g:=by rw [← hgg]; unfold Int.gcd; simp
  refine (lowest_any n d g a b n.natAbs w (by simpa using h1) (by omega) (by omega) (by omega) hn hn' hd hd' hg1 hle hgm q1 q2 (by omega) (by omega) hb1 (by omega) ht).mono ?_
  rintro e w' ⟨rfl,hk⟩
  refine⟨?_,hk⟩
  rw [ratS_eq]
  have hdn:d.toNat≠0:=by omega
  have hgcd:((d.toNat.gcd n.natAbs:Nat):Int)=g:=by
   rw [← hgg]
   unfold Int.gcd
   rw [Nat.gcd_comm,show d.toNat=d.natAbs from by omega]
  have e1:(mkRat n d.toNat).num=a:=by
   rw [Rat.num_mkRat,if_neg hdn,hgcd,ha]; exact Int.mul_ediv_cancel_left _ (by omega)
  have e2:((mkRat n d.toNat).den:Int)=b:=by
   rw [Rat.den_mkRat,if_neg hdn,Int.natCast_ediv,hgcd,show ((d.toNat:Nat):Int)=d from by omega]; exact q2
  unfold canon
  rw [e1,e2]
set_option maxHeartbeats 400000 in
theorem radd_walk (la lb:List UInt8) (n d m e:Int) (w:World)
  (qa:∀ w,Calls Tryz.prog 81 #[.string ⟨la.toArray⟩] w fun x w'=>x = .returned (.tuple #[.int .i64 n,.int .i64 d,.bool true])∧w'=w)
  (qb:∀ w,Calls Tryz.prog 81 #[.string ⟨lb.toArray⟩] w fun x w'=>x = .returned (.tuple #[.int .i64 m,.int .i64 e,.bool true])∧w'=w)
  (b1 : -1000000000000000000≤n*e) (b2:n*e≤1000000000000000000) (b3 : -1000000000000000000≤m*d) (b4:m*d≤1000000000000000000) (b5:1≤d*e) (b6:d*e≤1000000000000000000) (b7 : -1000000000000000000≤n*m) (b8:n*m≤1000000000000000000) (ht:PTab w) :
  Calls Tryz.prog 42 #[.string ⟨la.toArray⟩,.string ⟨lb.toArray⟩] w fun x w'=>x = .returned (strV (canon (mkRat (n*e+m*d) (d*e).toNat)))∧Kp w w':=by
 have HA:=Lib.hid qa; clear qa
 have HB:=Lib.hid qb; clear qb
 have HT:=Lib.hid ht; clear ht
 go_enter Tryz.func42,Tryz.ntmps42
 go_wp2_with fail
 refine (HA.out w).mono ?_
 rintro x w' ⟨rfl,hw⟩
 subst hw
 go_wp2_with fail
 refine (HB.out _).mono ?_
 rintro x w' ⟨rfl,hw⟩
 subst hw
 go_wp2_with fail
 refine (lowest_rat (n*e+m*d) (d*e) _ (by omega) (by omega) (by omega) (by omega) HT.out).mono ?_
 rintro x w' ⟨rfl,hk⟩
 have HK:=Lib.hid hk; clear hk
 go_wp2_with fail
 go_ret
 exact⟨rfl,HK.out⟩
theorem radd_rat (a b:Rat) (w:World) (ha:Sm a) (hb:Sm b) (ba:Br a) (bb:Br b) (ht:PTab w):Calls Tryz.prog 42 #[strV (canon a),strV (canon b)] w fun e w'=>e = .returned (strV (canon (a+b)))∧Kp w w':=by
 have d1:=a.den_pos
 have d2:=b.den_pos
 have ⟨p1,p2,p3⟩:=ha
 have ⟨q1,q2,q3⟩:=hb
 have m1:=mul_bd (a:=a.num) (b:=b.den) (k:=1000000000) (m:=1000000000) (by omega) (by omega) (by omega) (by omega)
 have m2:=mul_bd (a:=b.num) (b:=a.den) (k:=1000000000) (m:=1000000000) (by omega) (by omega) (by omega) (by omega)
 have m3:=mul_bd (a:=a.den) (b:=b.den) (k:=1000000000) (m:=1000000000) (by omega) (by omega) (by omega) (by omega)
 have m5:=mul_bd (a:=a.num) (b:=b.num) (k:=1000000000) (m:=1000000000) (by omega) (by omega) (by omega) (by omega)
 have m4:0<(a.den:Int)*b.den:=Int.mul_pos (by omega) (by omega)
 have h:=radd_walk (canon a) (canon b) a.num a.den b.num b.den w (fun w=>brief_rs _ _ w (by omega) ba) (fun w=>brief_rs _ _ w (by omega) bb) (by omega) (by omega) (by omega) (by omega) (by omega) (by omega) (by omega) (by omega) ht
 rw [Rat.add_def']
 have:((a.den:Int)*b.den).toNat=a.den*b.den:=by rw [← Int.natCast_mul]; rfl
 rw [this] at h
 exact h
set_option maxHeartbeats 400000 in
theorem rmul_walk (la lb:List UInt8) (n d m e:Int) (w:World)
  (qa:∀ w,Calls Tryz.prog 81 #[.string ⟨la.toArray⟩] w fun x w'=>x = .returned (.tuple #[.int .i64 n,.int .i64 d,.bool true])∧w'=w)
  (qb:∀ w,Calls Tryz.prog 81 #[.string ⟨lb.toArray⟩] w fun x w'=>x = .returned (.tuple #[.int .i64 m,.int .i64 e,.bool true])∧w'=w)
  (b1 : -1000000000000000000≤n*e) (b2:n*e≤1000000000000000000) (b3 : -1000000000000000000≤m*d) (b4:m*d≤1000000000000000000) (b5:1≤d*e) (b6:d*e≤1000000000000000000) (b7 : -1000000000000000000≤n*m) (b8:n*m≤1000000000000000000) (ht:PTab w) :
  Calls Tryz.prog 302 #[.string ⟨la.toArray⟩,.string ⟨lb.toArray⟩] w fun x w'=>x = .returned (strV (canon (mkRat (n*m) (d*e).toNat)))∧Kp w w':=by
 have HA:=Lib.hid qa; clear qa
 have HB:=Lib.hid qb; clear qb
 have HT:=Lib.hid ht; clear ht
 go_enter Tryz.func302,Tryz.ntmps302
 go_wp2_with fail
 refine (HA.out w).mono ?_
 rintro x w' ⟨rfl,hw⟩
 subst hw
 go_wp2_with fail
 refine (HB.out _).mono ?_
 rintro x w' ⟨rfl,hw⟩
 subst hw
 go_wp2_with fail
 refine (lowest_rat (n*m) (d*e) _ (by omega) (by omega) (by omega) (by omega) HT.out).mono ?_
 rintro x w' ⟨rfl,hk⟩
 have HK:=Lib.hid hk; clear hk
 go_wp2_with fail
 go_ret
 exact⟨rfl,HK.out⟩
theorem rmul_rat (a b:Rat) (w:World) (ha:Sm a) (hb:Sm b) (ba:Br a) (bb:Br b) (ht:PTab w):Calls Tryz.prog 302 #[strV (canon a),strV (canon b)] w fun e w'=>e = .returned (strV (canon (a*b)))∧Kp w w':=by
 have d1:=a.den_pos
 have d2:=b.den_pos
 have ⟨p1,p2,p3⟩:=ha
 have ⟨q1,q2,q3⟩:=hb
 have m1:=mul_bd (a:=a.num) (b:=b.den) (k:=1000000000) (m:=1000000000) (by omega) (by omega) (by omega) (by omega)
 have m2:=mul_bd (a:=b.num) (b:=a.den) (k:=1000000000) (m:=1000000000) (by omega) (by omega) (by omega) (by omega)
 have m3:=mul_bd (a:=a.den) (b:=b.den) (k:=1000000000) (m:=1000000000) (by omega) (by omega) (by omega) (by omega)
 have m5:=mul_bd (a:=a.num) (b:=b.num) (k:=1000000000) (m:=1000000000) (by omega) (by omega) (by omega) (by omega)
 have m4:0<(a.den:Int)*b.den:=Int.mul_pos (by omega) (by omega)
 have h:=rmul_walk (canon a) (canon b) a.num a.den b.num b.den w (fun w=>brief_rs _ _ w (by omega) ba) (fun w=>brief_rs _ _ w (by omega) bb) (by omega) (by omega) (by omega) (by omega) (by omega) (by omega) (by omega) (by omega) ht
 rw [Rat.mul_def']
 have:((a.den:Int)*b.den).toNat=a.den*b.den:=by rw [← Int.natCast_mul]; rfl
 rw [this] at h
 exact h
set_option maxHeartbeats 400000 in
theorem refneg_zero_walk (w:World):Calls Tryz.prog 43 #[strV [48]] w fun e w'=>e = .returned (strV [48])∧w'=w:=by
 go_enter Tryz.func43,Tryz.ntmps43
 go_wp2
 go_ret
 exact⟨rfl,rfl⟩
set_option maxHeartbeats 400000 in
theorem refneg_minus_walk (r:List UInt8) (w:World) (hr:0<r.length) (hr2:r.length≤1000):Calls Tryz.prog 43 #[.string ⟨(45::r).toArray⟩] w fun e w'=>e = .returned (strV r)∧w'=w:=by
 obtain⟨l,hl⟩:∃ l,l=45::r:=⟨_,rfl⟩
 have h1:(l == [48])=false:=by rw [beq_eq_false_iff_ne,hl]; intro e; cases e
 have h2:0<l.length:=by rw [hl]; simp
 have h3:((((⟨l.toArray⟩:ByteArray)[0]'(by rw [size_mk]; exact h2)).toNat:Int) == 45)=true:=by subst hl; rfl
 have HL:=Lib.hid hl
 rw [← hl]
 have h4:l.length≤1001:=by rw [hl]; simp; omega
 clear hl
 go_enter Tryz.func43,Tryz.ntmps43
 go_wp2
 go_ret
 refine⟨?_,rfl⟩
 show Ending.returned (.string ((⟨l.toArray⟩:ByteArray).extract 1 l.length))=_
 rw [HL.out]
 congr 2
 apply ByteArray.ext
 simp [ByteArray.data_extract]
set_option maxHeartbeats 400000 in
theorem refneg_plus_walk (l:List UInt8) (w:World) (h1:(l == [48])=false) (h2:0<l.length) (h3:(((⟨l.toArray⟩:ByteArray)[0].toNat:Int) == 45)=false) (h4:l.length≤1000) :
  Calls Tryz.prog 43 #[.string ⟨l.toArray⟩] w fun e w'=>e = .returned (strV (45::l))∧w'=w:=by
 have a1:=fun w=>run_string_add_sum (P:=Tryz.prog) (w:=w) ⟨#[45]⟩ ⟨l.toArray⟩ (by simp [ByteArray.size]; omega)
 go_enter Tryz.func43,Tryz.ntmps43
 go_wp2
 go_ret
 refine⟨?_,rfl⟩
 show Ending.returned (.string (⟨#[45]⟩++⟨l.toArray⟩))=_
 congr 2
theorem refneg_rs (n d:Int) (w:World) (hl:(rs n d).length≤40) (h0:n=0→d=1):Calls Tryz.prog 43 #[strV (rs n d)] w fun e w'=>e = .returned (strV (rs (-n) d))∧w'=w:=by
 by_cases hz:n=0
 ·obtain rfl:=h0 hz
  subst hz
  rw [rs_one,show Lib.itoa 0=[48] from itoa_zero,show -(0:Int)=0 from rfl,rs_one,itoa_zero]
  exact refneg_zero_walk w
 ·by_cases hn:n<0
  ·rw [rs_neg hn]
   obtain⟨c,r,hc,_⟩:=rs_head (n := -n) (d:=d) (by omega)
   have:(rs n d).length=(rs (-n) d).length+1:=by rw [rs_neg hn]; rfl
   exact refneg_minus_walk (rs (-n) d) w (by rw [hc]; simp) (by omega)
  ·obtain⟨c,r,hc,hd⟩:=rs_head (n:=n) (d:=d) hn
   unfold isDig at hd
   rw [rs_neg (n := -n) (by omega),Int.neg_neg]
   refine refneg_plus_walk (rs n d) w ?_ (by rw [hc]; simp) ?_ (by omega)
   ·rw [beq_eq_false_iff_ne]; intro e
    rw [← itoa_zero,← rs_one] at e
    exact hz (rs_inj e).1
   ·rw [beq_eq_false_iff_ne]
    intro e
    have hz0:0<(⟨(rs n d).toArray⟩:ByteArray).size:=by rw [size_mk,hc]; simp
    have hx:(⟨(rs n d).toArray⟩:ByteArray)[0]'hz0=c:=by rw [get_mk _ 0 hz0 (by rw [hc]; simp)]; simp [hc]
    rw [hx] at e
    omega
theorem refneg_rat (a:Rat) (w:World) (ha:Sm a):Calls Tryz.prog 43 #[strV (canon a)] w fun e w'=>e = .returned (strV (canon (-a)))∧w'=w:=by
 have hd:=a.den_pos
 have:=rs_len ha.lo ha.hi (d:=a.den) (by omega) (by have:=ha.den; omega)
 have h:=refneg_rs a.num a.den w (by omega) (fun h=>by
  have:=a.reduced
  rw [h] at this
  have h1:a.den=1:=by simpa using this
  omega)
 exact h
set_option maxHeartbeats 1000000 in
theorem fsmall_neg (la lb:List UInt8) (n d g n' d' m:Int) (w:World) (la9:la.length≤9) (lb9:lb.length≤9) (ha:Lib.atoi la=some n) (hb:Lib.atoi lb=some d) (hneg:n<0) (hm : -n=m) (hm1:0≤m) (hm2:m≤9223372036854775807) (hn : -9223372036854775807≤n) (hn':n≤9223372036854775807) (hd:1≤d) (hd':d≤9223372036854775807)
  (hg1:1≤g) (hg2:g≤d) (hgcd:(Int.gcd m d:Int)=g) (hq1:n.tdiv g=n') (hq2:d/g=d') (hb1 : -9223372036854775807≤n') (hb2:n'≤9223372036854775807) (hb3:1≤d') (hb4:d'≤9223372036854775807) (ht:PTab w) :
  Calls Tryz.prog 85 #[.string ⟨la.toArray⟩,.string ⟨lb.toArray⟩] w fun e w'=>e = .returned (.string (ratS n' d'))∧Kp w w':=by
 have HA:=Lib.hid ha; clear ha
 have HB:=Lib.hid hb; clear hb
 have HT:=Lib.hid ht; clear ht
 have HM:=Lib.hid hm; clear hm
 have HGC:=Lib.hid hgcd; clear hgcd
 have HQ1:=Lib.hid hq1; clear hq1
 have HQ2:=Lib.hid hq2; clear hq2
 go_enter Tryz.func85,Tryz.ntmps85
 go_wp2_with fail
 refine (Tryz.strconv_Atoi ⟨la.toArray⟩ n (by rw [size_mk]; omega) HA.out _).mono ?_
 rintro e w1 ⟨rfl,t,hw⟩
 have HK1:Hid (Kp w w1):=Lib.hid (by rw [hw]; exact Lib.bytesWorld_below w 5 t)
 clear hw
 go_wp2_with fail
 refine (Tryz.strconv_Atoi ⟨lb.toArray⟩ d (by rw [size_mk]; omega) HB.out _).mono ?_
 rintro e w2 ⟨rfl,t2,hw⟩
 have HK2:Hid (Kp w w2):=Lib.hid (HK1.out.then (by rw [hw]; exact Lib.bytesWorld_below w1 5 t2))
 clear hw
 go_wp2
 go_loopw [9,10] (fun a b wr => ∃ x y:Int,a = .int .i64 x∧b = .int .i64 y∧(Int.gcd x y:Int)=g∧0≤x∧x≤9223372036854775807∧0≤y∧y≤9223372036854775807∧Kp w wr) (fun _ b _=>(intOf b).natAbs)
 case atStart=>exact⟨m,d,by first | rw [HM.out] | rfl | (have:=HM.out; simp_all),rfl,HGC.out,by omega,by omega,by omega,by omega,HK2.out⟩
 case round=>
  obtain⟨x,y,rfl,rfl,hg,hx1,hx2,hy1,hy2,hk⟩:=hrel
  have HG:=Lib.hid hg; clear hg
  have HK:=Lib.hid hk; clear hk
  by_cases hy:y=0
  ·subst hy
   obtain rfl:x=g:=by have:=HG.out; rw [Int.gcd_zero_right] at this; omega
   have hq1:=HQ1.out
   have hq2:=HQ2.out
   clear HG
   have hgz:(x == 0)=false:=by simp; omega
   go_wp2
   go_region
   by_cases h1:d'=1
   ·have H1:=Lib.hid h1; clear h1
    have h1':(d' == 1)=true:=by simp [H1.out]
    go_wp2_with fail
    refine (itoa_any n' _ (by omega) (by omega) (HT.out.kp (HK.out.then (Kp.drew _)))).mono ?_
    rintro e w1 ⟨rfl,hk1⟩
    have HK1:=Lib.hid hk1; clear hk1
    go_wp2_with fail
    go_ret
    exact⟨by rw [ratS,if_pos H1.out]; rfl,HK.out.then ((Kp.drew _).then HK1.out)⟩
   ·have H1:=Lib.hid h1; clear h1
    have h1':(d' == 1)=false:=by simp [H1.out]
    have z1:=Lib.itoa_length_le n' (by omega) (by omega)
    have z2:=Lib.itoa_length_le d' (by omega) (by omega)
    have a1:=fun w=>run_string_add_sum (P:=Tryz.prog) (w:=w) ⟨(Lib.itoa n').toArray⟩ ⟨#[47]⟩ (by simp [ByteArray.size]; omega)
    have a2:=fun w=>run_string_add_sum (P:=Tryz.prog) (w:=w) (⟨(Lib.itoa n').toArray⟩++⟨#[47]⟩) ⟨(Lib.itoa d').toArray⟩ (by simp [ByteArray.size]; omega)
    go_wp2_with fail
    refine (itoa_any n' _ (by omega) (by omega) (HT.out.kp (HK.out.then (Kp.drew _)))).mono ?_
    rintro e w1 ⟨rfl,hk1⟩
    have HK1:=Lib.hid hk1; clear hk1
    go_wp2_with fail
    refine (itoa_any d' _ (by omega) (by omega) (HT.out.kp (HK.out.then ((Kp.drew _).then HK1.out)))).mono ?_
    rintro e w2 ⟨rfl,hk2⟩
    have HK2:=Lib.hid hk2; clear hk2
    go_wp2_with fail
    go_ret
    exact⟨by rw [ratS,if_neg H1.out]; rfl,(HK.out.then ((Kp.drew _).then HK1.out)).then HK2.out⟩
  ·have hy0:(y != 0)=true:=by simpa using hy
   have hyf:(y == 0)=false:=by simpa using hy
   go_wp2
   go_region
   go_wp2
   go_roundw
   case rel=>
    have e:x%y=x.tmod y:=(Int.tmod_eq_emod_of_nonneg hx1).symm
    have g1:=(gcd_step x y).trans HG.out
    rw [← e] at g1
    exact⟨y,x%y,rfl,rfl,g1,hy1,hy2,Int.emod_nonneg _ hy,by have:=Int.emod_lt_of_pos x (show 0<y by omega); omega,HK.out.then (Kp.drew _)⟩
   case measure=>
    have:=Int.emod_nonneg x hy
    have:=Int.emod_lt_of_pos x (show 0<y by omega)
    simp only [intOf]; omega
set_option maxHeartbeats 1000000 in
theorem fsmall_pos (la lb:List UInt8) (n d g n' d' m:Int) (w:World) (la9:la.length≤9) (lb9:lb.length≤9) (ha:Lib.atoi la=some n) (hb:Lib.atoi lb=some d) (hneg:¬ n<0) (hm:n=m) (hm1:0≤m) (hm2:m≤9223372036854775807) (hn : -9223372036854775807≤n) (hn':n≤9223372036854775807) (hd:1≤d) (hd':d≤9223372036854775807)
  (hg1:1≤g) (hg2:g≤d) (hgcd:(Int.gcd m d:Int)=g) (hq1:n.tdiv g=n') (hq2:d/g=d') (hb1 : -9223372036854775807≤n') (hb2:n'≤9223372036854775807) (hb3:1≤d') (hb4:d'≤9223372036854775807) (ht:PTab w) :
  Calls Tryz.prog 85 #[.string ⟨la.toArray⟩,.string ⟨lb.toArray⟩] w fun e w'=>e = .returned (.string (ratS n' d'))∧Kp w w':=by
 have HA:=Lib.hid ha; clear ha
 have HB:=Lib.hid hb; clear hb
 have HT:=Lib.hid ht; clear ht
 have HM:=Lib.hid hm; clear hm
 have HGC:=Lib.hid hgcd; clear hgcd
 have HQ1:=Lib.hid hq1; clear hq1
 have HQ2:=Lib.hid hq2; clear hq2
 go_enter Tryz.func85,Tryz.ntmps85
 go_wp2_with fail
 refine (Tryz.strconv_Atoi ⟨la.toArray⟩ n (by rw [size_mk]; omega) HA.out _).mono ?_
 rintro e w1 ⟨rfl,t,hw⟩
 have HK1:Hid (Kp w w1):=Lib.hid (by rw [hw]; exact Lib.bytesWorld_below w 5 t)
 clear hw
 go_wp2_with fail
 refine (Tryz.strconv_Atoi ⟨lb.toArray⟩ d (by rw [size_mk]; omega) HB.out _).mono ?_
 rintro e w2 ⟨rfl,t2,hw⟩
 have HK2:Hid (Kp w w2):=Lib.hid (HK1.out.then (by rw [hw]; exact Lib.bytesWorld_below w1 5 t2))
 clear hw
 go_wp2
 go_loopw [9,10] (fun a b wr => ∃ x y:Int,a = .int .i64 x∧b = .int .i64 y∧(Int.gcd x y:Int)=g∧0≤x∧x≤9223372036854775807∧0≤y∧y≤9223372036854775807∧Kp w wr) (fun _ b _=>(intOf b).natAbs)
 case atStart=>exact⟨m,d,by first | rw [HM.out] | rfl | (have:=HM.out; simp_all),rfl,HGC.out,by omega,by omega,by omega,by omega,HK2.out⟩
 case round=>
  obtain⟨x,y,rfl,rfl,hg,hx1,hx2,hy1,hy2,hk⟩:=hrel
  have HG:=Lib.hid hg; clear hg
  have HK:=Lib.hid hk; clear hk
  by_cases hy:y=0
  ·subst hy
   obtain rfl:x=g:=by have:=HG.out; rw [Int.gcd_zero_right] at this; omega
   have hq1:=HQ1.out
   have hq2:=HQ2.out
   clear HG
   have hgz:(x == 0)=false:=by simp; omega
   go_wp2
   go_region
   by_cases h1:d'=1
   ·have H1:=Lib.hid h1; clear h1
    have h1':(d' == 1)=true:=by simp [H1.out]
    go_wp2_with fail
    refine (itoa_any n' _ (by omega) (by omega) (HT.out.kp (HK.out.then (Kp.drew _)))).mono ?_
    rintro e w1 ⟨rfl,hk1⟩
    have HK1:=Lib.hid hk1; clear hk1
    go_wp2_with fail
    go_ret
    exact⟨by rw [ratS,if_pos H1.out]; rfl,HK.out.then ((Kp.drew _).then HK1.out)⟩
   ·have H1:=Lib.hid h1; clear h1
    have h1':(d' == 1)=false:=by simp [H1.out]
    have z1:=Lib.itoa_length_le n' (by omega) (by omega)
    have z2:=Lib.itoa_length_le d' (by omega) (by omega)
    have a1:=fun w=>run_string_add_sum (P:=Tryz.prog) (w:=w) ⟨(Lib.itoa n').toArray⟩ ⟨#[47]⟩ (by simp [ByteArray.size]; omega)
    have a2:=fun w=>run_string_add_sum (P:=Tryz.prog) (w:=w) (⟨(Lib.itoa n').toArray⟩++⟨#[47]⟩) ⟨(Lib.itoa d').toArray⟩ (by simp [ByteArray.size]; omega)
    go_wp2_with fail
    refine (itoa_any n' _ (by omega) (by omega) (HT.out.kp (HK.out.then (Kp.drew _)))).mono ?_
    rintro e w1 ⟨rfl,hk1⟩
    have HK1:=Lib.hid hk1; clear hk1
    go_wp2_with fail
    refine (itoa_any d' _ (by omega) (by omega) (HT.out.kp (HK.out.then ((Kp.drew _).then HK1.out)))).mono ?_
    rintro e w2 ⟨rfl,hk2⟩
    have HK2:=Lib.hid hk2; clear hk2
    go_wp2_with fail
    go_ret
    exact⟨by rw [ratS,if_neg H1.out]; rfl,(HK.out.then ((Kp.drew _).then HK1.out)).then HK2.out⟩
  ·have hy0:(y != 0)=true:=by simpa using hy
   have hyf:(y == 0)=false:=by simpa using hy
   go_wp2
   go_region
   go_wp2
   go_roundw
   case rel=>
    have e:x%y=x.tmod y:=(Int.tmod_eq_emod_of_nonneg hx1).symm
    have g1:=(gcd_step x y).trans HG.out
    rw [← e] at g1
    exact⟨y,x%y,rfl,rfl,g1,hy1,hy2,Int.emod_nonneg _ hy,by have:=Int.emod_lt_of_pos x (show 0<y by omega); omega,HK.out.then (Kp.drew _)⟩
   case measure=>
    have:=Int.emod_nonneg x hy
    have:=Int.emod_lt_of_pos x (show 0<y by omega)
    simp only [intOf]; omega
theorem fsmall_rat (n d:Int) (w:World) (hn : -100000000<n) (hn':n<1000000000) (hd:1≤d) (hd':d<1000000000) (ht:PTab w) :
  Calls Tryz.prog 85 #[strV (Lib.itoa n),strV (Lib.itoa d)] w fun e w'=>e = .returned (strV (canon (mkRat n d.toNat)))∧Kp w w':=by
 have hg0:0<Int.gcd n d:=Int.gcd_pos_of_ne_zero_right _ (by omega)
 have hgd:(Int.gcd n d:Int) ∣ d:=Int.gcd_dvd_right ..
 have hgn:(Int.gcd n d:Int) ∣ n:=Int.gcd_dvd_left ..
 have hle:(Int.gcd n d:Int)≤d:=Int.le_of_dvd (by omega) hgd
 obtain⟨a,ha⟩:=hgn
 obtain⟨b,hb⟩:=hgd
 generalize hgg:(Int.gcd n d:Int)=g at *
 have hg1:1≤g:=by omega
 have q1:n.tdiv g=a:=by rw [ha]; exact Int.mul_tdiv_cancel_left _ (by omega)
 have q2:d/g=b:=by rw [hb]; exact Int.mul_ediv_cancel_left _ (by omega)
 have hab:a.natAbs≤n.natAbs:=by
  rw [ha,Int.natAbs_mul]
  exact Nat.le_mul_of_pos_left _ (by omega)
 have hb1:1≤b:=by
  rcases Int.lt_or_le b 1 with h | h
  ·exfalso
   have:g*b≤0:=Int.mul_nonpos_of_nonneg_of_nonpos (by omega) (by omega)
   omega
  ·exact h
 have hb2:b≤d:=by
  have:1*b≤g*b:=Int.mul_le_mul_of_nonneg_right hg1 (by omega)
  omega
 have p9:(10:Nat) ^ 9=1000000000:=by decide
 have p8:(10:Nat) ^ 8=100000000:=by decide
 have l2:(Lib.itoa d).length≤9:=by
  rw [itoa_pos' (by omega)]
  exact dec_len (by omega) (by omega)
 have l1:(Lib.itoa n).length≤9:=by
  by_cases h:n<0
  ·rw [itoa_neg' h]
   have:=dec_len (u:=n.natAbs) (k:=8) (by omega) (by omega)
   simp; omega
  ·rw [itoa_pos' h]
   exact dec_len (by omega) (by omega)
 have fin:ratS a b=⟨(canon (mkRat n d.toNat)).toArray⟩:=by
  rw [ratS_eq]
  have hdn:d.toNat≠0:=by omega
  have hgcd:((d.toNat.gcd n.natAbs:Nat):Int)=g:=by
   rw [← hgg]
   unfold Int.gcd
   rw [Nat.gcd_comm,show d.toNat=d.natAbs from by omega]
  have e1:(mkRat n d.toNat).num=a:=by
   rw [Rat.num_mkRat,if_neg hdn,hgcd,ha]; exact Int.mul_ediv_cancel_left _ (by omega)
  have e2:((mkRat n d.toNat).den:Int)=b:=by
   rw [Rat.den_mkRat,if_neg hdn,Int.natCast_ediv,hgcd,show ((d.toNat:Nat):Int)=d from by omega]; exact q2
  unfold canon
  rw [e1,e2]
 by_cases h:n<0
 ·have hgm:(Int.gcd (-n) d:Int)=g:=by rw [← hgg]; unfold Int.gcd; simp
  refine (fsmall_neg _ _ n d g a b (-n) w l1 l2 (atoi_itoa n) (atoi_itoa d) h rfl (by omega) (by omega) (by omega) (by omega) hd (by omega) hg1 hle hgm q1 q2 (by omega) (by omega) hb1 (by omega) ht).mono ?_
  rintro e w' ⟨rfl,hk⟩
  exact⟨by rw [fin],hk⟩
 ·refine (fsmall_pos _ _ n d g a b n w l1 l2 (atoi_itoa n) (atoi_itoa d) h rfl (by omega) (by omega) (by omega) (by omega) hd (by omega) hg1 hle hgg q1 q2 (by omega) (by omega) hb1 (by omega) ht).mono ?_
  rintro e w' ⟨rfl,hk⟩
  exact⟨by rw [fin],hk⟩
set_option maxHeartbeats 400000 in
theorem fraction_walk (la lb lr:List UInt8) (w:World) (h1:la.length≤9) (h2:lb.length≤9) (ht:PTab w)
  (hs:∀ w,PTab w→Calls Tryz.prog 85 #[.string ⟨la.toArray⟩,.string ⟨lb.toArray⟩] w fun e w'=>e = .returned (strV lr)∧Kp w w') :
  Calls Tryz.prog 44 #[.string ⟨la.toArray⟩,.string ⟨lb.toArray⟩] w fun e w'=>e = .returned (strV lr)∧Kp w w':=by
 have HS:=Lib.hid hs; clear hs
 have HT:=Lib.hid ht; clear ht
 have k1:decide ((la.length:Int)≤9)=true:=by simp; omega
 have k2:decide ((lb.length:Int)≤9)=true:=by simp; omega
 go_enter Tryz.func44,Tryz.ntmps44
 go_wp2_with fail
 refine (HS.out _ HT.out).mono ?_
 rintro e w' ⟨rfl,hk⟩
 have HK:=Lib.hid hk; clear hk
 go_wp2_with fail
 go_ret
 exact⟨rfl,HK.out⟩
set_option maxHeartbeats 400000 in
theorem rOfInt (n:Int) (w:World) (h0 : -9223372036854775808≤n) (h1:n≤9223372036854775807) (ht:PTab w):Calls Tryz.prog 45 #[.int .i64 n] w fun e w'=>e = .returned (strV (Lib.itoa n))∧Kp w w':=by
 have HT:=Lib.hid ht; clear ht
 go_enter Tryz.func45,Tryz.ntmps45
 go_wp2_with fail
 refine (itoa_any n _ h0 h1 HT.out).mono ?_
 rintro e w' ⟨rfl,hk⟩
 have HK:=Lib.hid hk; clear hk
 go_wp2_with fail
 go_ret
 exact⟨rfl,HK.out⟩
set_option maxHeartbeats 400000 in
theorem rof_walk (n d:Int) (la lb lr:List UInt8) (w:World) (ht:PTab w)
  (ha:∀ w,PTab w→Calls Tryz.prog 45 #[.int .i64 n] w fun e w'=>e = .returned (strV la)∧Kp w w')
  (hb:∀ w,PTab w→Calls Tryz.prog 45 #[.int .i64 d] w fun e w'=>e = .returned (strV lb)∧Kp w w')
  (hf:∀ w,PTab w→Calls Tryz.prog 44 #[.string ⟨la.toArray⟩,.string ⟨lb.toArray⟩] w fun e w'=>e = .returned (strV lr)∧Kp w w') :
  Calls Tryz.prog 22 #[.int .i64 n,.int .i64 d] w fun e w'=>e = .returned (strV lr)∧Kp w w':=by
 have HT:=Lib.hid ht; clear ht
 have HA:=Lib.hid ha; clear ha
 have HB:=Lib.hid hb; clear hb
 have HF:=Lib.hid hf; clear hf
 go_enter Tryz.func22,Tryz.ntmps22
 go_wp2_with fail
 refine (HA.out _ HT.out).mono ?_
 rintro e w1 ⟨rfl,hk⟩
 have HK1:=Lib.hid hk; clear hk
 go_wp2_with fail
 refine (HB.out _ (HT.out.kp HK1.out)).mono ?_
 rintro e w2 ⟨rfl,hk⟩
 have HK2:Hid (Kp w w2):=Lib.hid (HK1.out.then hk); clear hk
 go_wp2_with fail
 refine (HF.out _ (HT.out.kp HK2.out)).mono ?_
 rintro e w3 ⟨rfl,hk⟩
 have HK3:Hid (Kp w w3):=Lib.hid (HK2.out.then hk); clear hk
 go_wp2_with fail
 go_ret
 exact⟨rfl,HK3.out⟩
theorem rof_rat (n d:Int) (w:World) (hn : -100000000<n) (hn':n<1000000000) (hd:1≤d) (hd':d<1000000000) (ht:PTab w) :
  Calls Tryz.prog 22 #[.int .i64 n,.int .i64 d] w fun e w'=>e = .returned (strV (canon (mkRat n d.toNat)))∧Kp w w':=by
 have p8:(10:Nat) ^ 8=100000000:=by decide
 have p9:(10:Nat) ^ 9=1000000000:=by decide
 have l2:(Lib.itoa d).length≤9:=by
  rw [itoa_pos' (by omega)]
  exact dec_len (by omega) (by omega)
 have l1:(Lib.itoa n).length≤9:=by
  by_cases h:n<0
  ·rw [itoa_neg' h]
   have:=dec_len (u:=n.natAbs) (k:=8) (by omega) (by omega)
   simp; omega
  ·rw [itoa_pos' h]
   exact dec_len (by omega) (by omega)
 exact rof_walk n d _ _ _ w ht (fun w h=>rOfInt n w (by omega) (by omega) h) (fun w h=>rOfInt d w (by omega) (by omega) h)
  (fun w h=>fraction_walk _ _ _ w l1 l2 h fun w h=>fsmall_rat n d w hn hn' hd hd' h)
set_option maxHeartbeats 400000 in
theorem rlow_walk1 (la lb lr:List UInt8) (w:World) (ht:PTab w)
  (hs:∀ w,Calls Tryz.prog 122 #[.string ⟨lb.toArray⟩] w fun e w'=>e = .returned (.int .i64 1)∧w'=w)
  (hg:∀ w,PTab w→Calls Tryz.prog 67 #[.string ⟨la.toArray⟩,.string ⟨lb.toArray⟩] w fun e w'=>e = .returned (.string ⟨#[49]⟩)∧Kp w w')
  (hj:∀ w,Calls Tryz.prog 331 #[.string ⟨la.toArray⟩,.string ⟨lb.toArray⟩] w fun e w'=>e = .returned (strV lr)∧w'=w) :
  Calls Tryz.prog 291 #[.string ⟨la.toArray⟩,.string ⟨lb.toArray⟩] w fun e w'=>e = .returned (strV lr)∧Kp w w':=by
 have HT:=Lib.hid ht; clear ht
 have HS:=Lib.hid hs; clear hs
 have HG:=Lib.hid hg; clear hg
 have HJ:=Lib.hid hj; clear hj
 go_enter Tryz.func291,Tryz.ntmps291
 go_wp2_with fail
 refine (HS.out _).mono ?_
 rintro e w' ⟨rfl,hw⟩
 subst hw
 go_wp2_with fail
 refine (HG.out _ HT.out).mono ?_
 rintro e w1 ⟨rfl,hk⟩
 have HK:=Lib.hid hk; clear hk
 go_wp2_with fail
 refine (HJ.out _).mono ?_
 rintro e w' ⟨rfl,hw⟩
 subst hw
 go_wp2_with fail
 go_ret
 exact⟨rfl,HK.out⟩
set_option maxHeartbeats 400000 in
theorem rlow_walk2 (la lb g na nb ra rb lr:List UInt8) (w:World) (ht:PTab w) (hg1:(g == [49])=false)
  (hs:∀ w,Calls Tryz.prog 122 #[.string ⟨lb.toArray⟩] w fun e w'=>e = .returned (.int .i64 1)∧w'=w)
  (hg:∀ w,PTab w→Calls Tryz.prog 67 #[.string ⟨la.toArray⟩,.string ⟨lb.toArray⟩] w fun e w'=>e = .returned (strV g)∧Kp w w')
  (ha:∀ w1,Kp w w1→Calls Tryz.prog 342 #[.string ⟨la.toArray⟩,.string ⟨g.toArray⟩] w1 fun e w'=>e = .returned (.tuple #[strV na,strV ra,.int .i64 0])∧Kp w1 w')
  (hb:∀ w1,Kp w w1→Calls Tryz.prog 342 #[.string ⟨lb.toArray⟩,.string ⟨g.toArray⟩] w1 fun e w'=>e = .returned (.tuple #[strV nb,strV rb,.int .i64 0])∧Kp w1 w')
  (hj:∀ w,Calls Tryz.prog 331 #[.string ⟨na.toArray⟩,.string ⟨nb.toArray⟩] w fun e w'=>e = .returned (strV lr)∧w'=w) :
  Calls Tryz.prog 291 #[.string ⟨la.toArray⟩,.string ⟨lb.toArray⟩] w fun e w'=>e = .returned (strV lr)∧Kp w w':=by
 have HT:=Lib.hid ht; clear ht
 have HS:=Lib.hid hs; clear hs
 have HG:=Lib.hid hg; clear hg
 have HA:=Lib.hid ha; clear ha
 have HB:=Lib.hid hb; clear hb
 have HJ:=Lib.hid hj; clear hj
 go_enter Tryz.func291,Tryz.ntmps291
 go_wp2_with fail
 refine (HS.out _).mono ?_
 rintro e w' ⟨rfl,hw⟩
 subst hw
 go_wp2_with fail
 refine (HG.out _ HT.out).mono ?_
 rintro e w1 ⟨rfl,hk⟩
 have HK:=Lib.hid hk; clear hk
 go_wp2_with fail
 refine (HA.out _ HK.out).mono ?_
 rintro e w2 ⟨rfl,hk⟩
 have HK2:Hid (Kp w' w2):=Lib.hid (HK.out.then hk); clear hk
 go_wp2_with fail
 refine (HB.out _ HK2.out).mono ?_
 rintro e w3 ⟨rfl,hk⟩
 have HK3:Hid (Kp w' w3):=Lib.hid (HK2.out.then hk); clear hk
 go_wp2_with fail
 refine (HJ.out _).mono ?_
 rintro e w4 ⟨rfl,hw⟩
 subst hw
 go_wp2_with fail
 go_ret
 exact⟨rfl,HK3.out⟩
set_option maxHeartbeats 400000 in
theorem new_walk (la lb lr:List UInt8) (w:World)
  (hs:∀ w,Calls Tryz.prog 122 #[.string ⟨lb.toArray⟩] w fun e w'=>e = .returned (.int .i64 1)∧w'=w)
  (hl:Calls Tryz.prog 291 #[.string ⟨la.toArray⟩,.string ⟨lb.toArray⟩] w fun e w'=>e = .returned (strV lr)∧Kp w w') :
  Calls Tryz.prog 212 #[.string ⟨la.toArray⟩,.string ⟨lb.toArray⟩] w fun e w'=>e = .returned (.tuple #[strV lr,.int .i64 0])∧Kp w w':=by
 have HS:=Lib.hid hs; clear hs
 have HL:=Lib.hid hl; clear hl
 go_enter Tryz.func212,Tryz.ntmps212
 go_wp2_with fail
 refine (HS.out _).mono ?_
 rintro e w' ⟨rfl,hw⟩
 subst hw
 go_wp2_with fail
 refine HL.out.mono ?_
 rintro e w1 ⟨rfl,hk⟩
 have HK:=Lib.hid hk; clear hk
 go_wp2_with fail
 go_ret2
 exact⟨rfl,HK.out⟩
set_option maxHeartbeats 400000 in
theorem ofi_walk (n d:Int) (la lb lr:List UInt8) (w:World) (ht:PTab w)
  (ha:∀ w,PTab w→Calls Tryz.prog 126 #[.int .i64 n] w fun e w'=>e = .returned (strV la)∧Kp w w')
  (hb:∀ w,PTab w→Calls Tryz.prog 126 #[.int .i64 d] w fun e w'=>e = .returned (strV lb)∧Kp w w')
  (hn:∀ w1,Kp w w1→Calls Tryz.prog 212 #[.string ⟨la.toArray⟩,.string ⟨lb.toArray⟩] w1 fun e w'=>e = .returned (.tuple #[strV lr,.int .i64 0])∧Kp w1 w') :
  Calls Tryz.prog 139 #[.int .i64 n,.int .i64 d] w fun e w'=>e = .returned (.tuple #[strV lr,.int .i64 0])∧Kp w w':=by
 have HT:=Lib.hid ht; clear ht
 have HA:=Lib.hid ha; clear ha
 have HB:=Lib.hid hb; clear hb
 have HN:=Lib.hid hn; clear hn
 go_enter Tryz.func139,Tryz.ntmps139
 go_wp2_with fail
 refine (HA.out _ HT.out).mono ?_
 rintro e w1 ⟨rfl,hk⟩
 have HK1:=Lib.hid hk; clear hk
 go_wp2_with fail
 refine (HB.out _ (HT.out.kp HK1.out)).mono ?_
 rintro e w2 ⟨rfl,hk⟩
 have HK2:Hid (Kp w w2):=Lib.hid (HK1.out.then hk); clear hk
 go_wp2_with fail
 refine (HN.out _ HK2.out).mono ?_
 rintro e w3 ⟨rfl,hk⟩
 have HK3:Hid (Kp w w3):=Lib.hid (HK2.out.then hk); clear hk
 go_wp2_with fail
 go_ret2
 exact⟨rfl,HK3.out⟩
theorem of_coprime (n d:Int) (w:World) (h1 : -1000000000<n) (h2:n<1000000000) (h3:0<d) (h4:d<1000000000) (hg:Int.gcd n d=1) (ht:PTab w) :
  Calls Tryz.prog 139 #[.int .i64 n,.int .i64 d] w fun e w'=>e = .returned (.tuple #[strV (canon (mkRat n d.toNat)),.int .i64 0])∧Kp w w':=by
 have l1:=itoa_len18 h1 h2
 have l2:=itoa_len18 (n:=d) (by omega) h4
 have hs:∀ w,Calls Tryz.prog 122 #[.string ⟨(Lib.itoa d).toArray⟩] w fun e w'=>e = .returned (.int .i64 1)∧w'=w:=fun w=>
  (sign_itoa d w).mono fun e w' ⟨a,b⟩=>⟨by rw [a,if_neg (by omega),if_neg (by omega)],b⟩
 have hdn:d.toNat≠0:=by omega
 have hgc:d.toNat.gcd n.natAbs=1:=by
  have:Int.gcd n d=n.natAbs.gcd d.natAbs:=rfl
  rw [Nat.gcd_comm,show d.toNat=d.natAbs from by omega,← this,hg]
 have e:canon (mkRat n d.toNat)=rs n d:=by
  unfold canon
  rw [Rat.num_mkRat,Rat.den_mkRat,if_neg hdn,if_neg hdn,hgc]
  simp only [Int.natCast_one,Int.ediv_one,Nat.div_one]
  rw [show ((d.toNat:Nat):Int)=d from by omega]
 rw [e]
 refine ofi_walk n d _ _ _ w ht (fun w h=>of_any n w (by omega) (by omega) h) (fun w h=>of_any d w (by omega) (by omega) h) fun w1 hk => ?_
 refine new_walk _ _ _ w1 hs ?_
 refine rlow_walk1 _ _ _ w1 (ht.kp hk) hs (fun w h => ?_) (fun w=>join_itoa n d w (by omega) (by omega))
 refine (gcd_itoa n d w h1 h2 (by omega) h4 h).mono fun e w' ⟨a,b⟩=>⟨?_,b⟩
 rw [a,hg]
 show Ending.returned (strV (Lib.itoa 1))=_
 rw [itoa_one]
theorem of_even (m:Int) (w:World) (h1 : -400000000<m) (h2:m<400000000) (ht:PTab w) {ra rb:List UInt8}
  (ha:∀ w1,Kp w w1→Calls Tryz.prog 342 #[strV (Lib.itoa (2*m)),strV [50]] w1 fun e w'=>e = .returned (.tuple #[strV (Lib.itoa m),strV ra,.int .i64 0])∧Kp w1 w')
  (hb:∀ w1,Kp w w1→Calls Tryz.prog 342 #[strV [50],strV [50]] w1 fun e w'=>e = .returned (.tuple #[strV [49],strV rb,.int .i64 0])∧Kp w1 w') :
  Calls Tryz.prog 139 #[.int .i64 (2*m),.int .i64 2] w fun e w'=>e = .returned (.tuple #[strV (Lib.itoa m),.int .i64 0])∧Kp w w':=by
 have i2:Lib.itoa 2=[50]:=by rw [itoa_pos' (by omega)]; exact dec_small (by omega)
 have hs:∀ w,Calls Tryz.prog 122 #[.string ⟨([50]:List UInt8).toArray⟩] w fun e w'=>e = .returned (.int .i64 1)∧w'=w:=fun w=>by
  have:=sign_itoa 2 w
  rw [i2] at this
  exact this
 refine ofi_walk (2*m) 2 (Lib.itoa (2*m)) [50] _ w ht (fun w h=>of_any (2*m) w (by omega) (by omega) h) (fun w h=>by have:=of_any 2 w (by omega) (by omega) h; rw [i2] at this; exact this) fun w1 hk => ?_
 refine new_walk _ _ _ w1 hs ?_
 refine rlow_walk2 _ _ [50] (Lib.itoa m) [49] ra rb _ w1 (ht.kp hk) (by decide) hs (fun w h => ?_) (fun w2 h=>ha w2 (hk.then h)) (fun w2 h=>hb w2 (hk.then h)) (fun w => ?_)
 ·have:=gcd_itoa (2*m) 2 w (by omega) (by omega) (by omega) (by omega) h
  have hg:Int.gcd (2*m) 2=2:=by
   unfold Int.gcd
   rw [Int.natAbs_mul]
   exact Nat.gcd_eq_right (Nat.dvd_mul_right 2 _)
  rw [hg,i2] at this
  refine this.mono fun e w' ⟨a,b⟩=>⟨?_,b⟩
  rw [a]
  show Ending.returned (strV (Lib.itoa 2))=_
  rw [i2]
 ·have:=join_itoa m 1 w (by have:=itoa_len18 (n:=m) (by omega) (by omega); omega) (by rw [itoa_one]; simp)
  rw [itoa_one,rs_one] at this
  exact this
set_option maxHeartbeats 400000 in
theorem refsg_zero (w:World):Calls Tryz.prog 63 #[strV [48]] w fun e w'=>e = .returned (.int .i64 0)∧w'=w:=by
 go_enter Tryz.func63,Tryz.ntmps63
 go_wp2
 go_ret
 exact⟨rfl,rfl⟩
set_option maxHeartbeats 400000 in
theorem refsg_minus (l:List UInt8) (w:World) (h1:(l == [48])=false) (h2:0<l.length) (h3:(((⟨l.toArray⟩:ByteArray)[0].toNat:Int) == 45)=true) :
  Calls Tryz.prog 63 #[.string ⟨l.toArray⟩] w fun e w'=>e = .returned (.int .i64 (-1))∧w'=w:=by
 go_enter Tryz.func63,Tryz.ntmps63
 go_wp2
 go_ret
 exact⟨rfl,rfl⟩
set_option maxHeartbeats 400000 in
theorem refsg_plus (l:List UInt8) (w:World) (h1:(l == [48])=false) (h2:0<l.length) (h3:(((⟨l.toArray⟩:ByteArray)[0].toNat:Int) == 45)=false) :
  Calls Tryz.prog 63 #[.string ⟨l.toArray⟩] w fun e w'=>e = .returned (.int .i64 1)∧w'=w:=by
 go_enter Tryz.func63,Tryz.ntmps63
 go_wp2
 go_ret
 exact⟨rfl,rfl⟩
theorem refsign_rat (a:Rat) (w:World):Calls Tryz.prog 63 #[strV (canon a)] w fun e w'=>e = .returned (.int .i64 (sgnI a.num))∧w'=w:=by
 by_cases hz:a=0
 ·subst hz
  rw [canon_zero]
  exact refsg_zero w
 ·have z1:(canon a == [48])=false:=by rw [canon_is_zero,decide_eq_false hz]
  by_cases hn:a.num<0
  ·have e:canon a=45::rs (-a.num) a.den:=rs_neg hn
   obtain⟨l,hl⟩:∃ l,canon a=l:=⟨_,rfl⟩
   rw [sgnI_neg hn,hl]
   rw [hl] at e z1
   have h2:0<l.length:=by rw [e]; simp
   refine refsg_minus l w z1 h2 ?_
   rw [beq_iff_eq]
   have hz0:0<(⟨l.toArray⟩:ByteArray).size:=by rw [size_mk]; exact h2
   have hx:(⟨l.toArray⟩:ByteArray)[0]'hz0=45:=by rw [get_mk l 0 hz0 h2]; simp [e]
   rw [hx]; rfl
  ·obtain⟨c,r,hc,hd⟩:=rs_head (n:=a.num) (d:=a.den) hn
   unfold isDig at hd
   have hp:0<a.num:=by
    rcases Int.lt_or_eq_of_le (show 0≤a.num by omega) with h | h
    ·exact h
    ·exact absurd (Rat.num_eq_zero.1 h.symm) hz
   rw [sgnI_pos hp]
   refine refsg_plus (canon a) w z1 ?_ ?_
   ·show 0<(rs a.num a.den).length
    rw [hc]; simp
   ·rw [beq_eq_false_iff_ne]
    intro e
    have hz0:0<(⟨(rs a.num a.den).toArray⟩:ByteArray).size:=by rw [size_mk,hc]; simp
    have hx:(⟨(rs a.num a.den).toArray⟩:ByteArray)[0]'hz0=c:=by rw [get_mk _ 0 hz0 (by rw [hc]; simp)]; simp [hc]
    have e':((((⟨(rs a.num a.den).toArray⟩:ByteArray)[0]'hz0).toNat:Nat):Int)=45:=e
    rw [hx] at e'
    omega
set_option maxHeartbeats 400000 in
theorem rsub_walk (a b:Rat) (w:World) (hb:Sm b) (h:∀ w,PTab w→Calls Tryz.prog 42 #[strV (canon a),strV (canon (-b))] w fun e w'=>e = .returned (strV (canon (a-b)))∧Kp w w') (ht:PTab w) :
  Calls Tryz.prog 21 #[strV (canon a),strV (canon b)] w fun e w'=>e = .returned (strV (canon (a-b)))∧Kp w w':=by
 have HA:=Lib.hid h; clear h
 have HT:=Lib.hid ht; clear ht
 have HN:=Lib.hid (fun w=>refneg_rat b w hb); clear hb
 go_enter Tryz.func21,Tryz.ntmps21
 go_wp2_with fail
 refine (HN.out _).mono ?_
 rintro x w' ⟨rfl,hw⟩
 subst hw
 go_wp2_with fail
 refine (HA.out _ HT.out).mono ?_
 rintro x w' ⟨rfl,hk⟩
 have HK:=Lib.hid hk; clear hk
 go_wp2_with fail
 go_ret
 exact⟨rfl,HK.out⟩
theorem rsub_rat (a b:Rat) (w:World) (ha:Sm a) (hb:Sm b) (ba:Br a) (bb:Br (-b)) (ht:PTab w):Calls Tryz.prog 21 #[strV (canon a),strV (canon b)] w fun e w'=>e = .returned (strV (canon (a-b)))∧Kp w w':=
 rsub_walk a b w hb (fun w ht=>by rw [Rat.sub_eq_add_neg]; exact radd_rat a (-b) w ha hb.neg ba bb ht) ht
set_option maxHeartbeats 400000 in
theorem rcmp_walk (a b:Rat) (w:World) (h:∀ w,PTab w→Calls Tryz.prog 21 #[strV (canon a),strV (canon b)] w fun e w'=>e = .returned (strV (canon (a-b)))∧Kp w w') (ht:PTab w) :
  Calls Tryz.prog 30 #[strV (canon a),strV (canon b)] w fun e w'=>e = .returned (.int .i64 (sgnI (a-b).num))∧Kp w w':=by
 have HA:=Lib.hid h; clear h
 have HT:=Lib.hid ht; clear ht
 go_enter Tryz.func30,Tryz.ntmps30
 go_wp2_with fail
 refine (HA.out _ HT.out).mono ?_
 rintro x w' ⟨rfl,hk⟩
 have HK:=Lib.hid hk; clear hk
 go_wp2_with fail
 refine (refsign_rat _ _).mono ?_
 rintro x w'' ⟨rfl,hw⟩
 subst hw
 go_wp2_with fail
 go_ret
 exact⟨rfl,HK.out⟩
theorem rcmp_rat (a b:Rat) (w:World) (ha:Sm a) (hb:Sm b) (ba:Br a) (bb:Br (-b)) (ht:PTab w):Calls Tryz.prog 30 #[strV (canon a),strV (canon b)] w fun e w'=>e = .returned (.int .i64 (sgnI (a-b).num))∧Kp w w':=
 rcmp_walk a b w (fun w ht=>rsub_rat a b w ha hb ba bb ht) ht
set_option maxHeartbeats 400000 in
theorem split_minus (l r:List UInt8) (w:World) (hlr:l=45::r) (hl:l.length≤1000):Calls Tryz.prog 115 #[.string ⟨l.toArray⟩] w fun e w'=>e = .returned (.tuple #[.bool true,.string ⟨r.toArray⟩])∧Kp w w':=by
 have h2:0<l.length:=by rw [hlr]; simp
 have h0:0<(⟨l.toArray⟩:ByteArray).size:=by rw [size_mk]; exact h2
 have h45:((((⟨l.toArray⟩:ByteArray)[0]).toNat:Int) == 45)=true:=by
  rw [get_mk l 0 h0 h2]
  simp [hlr]
 have hlen:(0:Int)<(l.length:Int):=by omega
 have HL:=Lib.hid hlr; clear hlr
 go_enter Tryz.func115,Tryz.ntmps115
 go_wp2_with fail
 go_region
 go_wp2_with fail
 go_ret2
 refine⟨?_,Kp.drew _⟩
 show Ending.returned (.tuple #[.bool true,.string ((⟨l.toArray⟩:ByteArray).extract 1 l.length)])=_
 have:(⟨l.toArray⟩:ByteArray).extract 1 l.length=⟨r.toArray⟩:=by
  rw [HL.out]
  apply ByteArray.ext
  simp [ByteArray.data_extract]
 rw [this]
set_option maxHeartbeats 400000 in
theorem split_plus (l:List UInt8) (w:World) (hl:l.length≤1000) (hp:0<l.length) (h45:((((⟨l.toArray⟩:ByteArray)[0]'(by rw [size_mk]; exact hp)).toNat:Int) == 45)=false) :
  Calls Tryz.prog 115 #[.string ⟨l.toArray⟩] w fun e w'=>e = .returned (.tuple #[.bool false,.string ⟨l.toArray⟩])∧w'=w:=by
 have h0:0<(⟨l.toArray⟩:ByteArray).size:=by rw [size_mk]; exact hp
 have hlen:(0:Int)<(l.length:Int):=by omega
 go_enter Tryz.func115,Tryz.ntmps115
 go_wp2_with fail
 go_ret2
 exact⟨rfl,rfl⟩
theorem dec_not45 (u:Nat):((((⟨(Lib.decDigits u).toArray⟩:ByteArray)[0]'(by rw [size_mk]; exact dec_pos u)).toNat:Int) == 45)=false:=by
 have hz0:0<(⟨(Lib.decDigits u).toArray⟩:ByteArray).size:=by rw [size_mk]; exact dec_pos _
 have h:=dec_dig u ((Lib.decDigits u)[0]'(dec_pos u)) (List.getElem_mem _)
 unfold isDig at h
 rw [beq_eq_false_iff_ne]
 intro e
 have hx:(⟨(Lib.decDigits u).toArray⟩:ByteArray)[0]'hz0=(Lib.decDigits u)[0]'(dec_pos u):=get_mk _ 0 hz0 (dec_pos _)
 rw [hx] at e
 omega
theorem Kp.of_eq' {w w':World} (h:w'=w):Kp w w':=h ▸ Kp.refl _
def Sm9 (n:Int):Prop := -1000000000<n∧n<1000000000
theorem dec_le9 {n:Int} (h:Sm9 n):(Lib.decDigits n.natAbs).length≤9:=dec_len (by omega) (by have:=h.1; have:=h.2; omega)
theorem split_dec {n:Int} (h:Sm9 n) (w:World):Calls Tryz.prog 115 #[.string ⟨(Lib.decDigits n.natAbs).toArray⟩] w fun e w'=>e = .returned (.tuple #[.bool false,.string ⟨(Lib.decDigits n.natAbs).toArray⟩])∧w'=w:=
 split_plus _ w (by have:=dec_le9 h; omega) (dec_pos _) (dec_not45 _)
theorem split_itoa {n:Int} (h:Sm9 n) (w:World):Calls Tryz.prog 115 #[.string ⟨(Lib.itoa n).toArray⟩] w fun e w'=>e = .returned (.tuple #[.bool (decide (n<0)),.string ⟨(Lib.decDigits n.natAbs).toArray⟩])∧Kp w w':=by
 have hl:=dec_le9 h
 by_cases h0:n<0
 ·rw [itoa_neg' h0,decide_eq_true h0]; exact split_minus _ _ w rfl (by simp only [List.length_cons]; omega)
 ·rw [itoa_pos' h0,decide_eq_false h0]; exact (split_dec h w).mono fun e w' ⟨h1,h2⟩=>⟨h1,Kp.of_eq' h2⟩
set_option maxHeartbeats 1000000 in
theorem canonical_walk (l s:List UInt8) (m:Bool) (w:World) (hs:∀ w,Calls Tryz.prog 115 #[.string ⟨l.toArray⟩] w fun e w'=>e = .returned (.tuple #[.bool m,.string ⟨s.toArray⟩])∧Kp w w') (hd:∀ c∈s,isDig c) (hp:0<s.length) (h9:s.length≤9)
  (hz:((((⟨s.toArray⟩:ByteArray)[0]'(by rw [size_mk]; exact hp)).toNat:Int) == 48)=false) :
  Calls Tryz.prog 116 #[.string ⟨l.toArray⟩] w fun e w'=>e = .returned (.bool true)∧Kp w w':=by
 have HS:=Lib.hid hs; clear hs
 have HD:=Lib.hid hd; clear hd
 have h0:0<(⟨s.toArray⟩:ByteArray).size:=by rw [size_mk]; exact hp
 have hl0:((s.length:Int) == 0)=false:=by simp; intro e; rw [e] at hp; simp at hp
 go_enter Tryz.func116,Tryz.ntmps116
 go_wp2_with fail
 refine (HS.out _).mono ?_
 rintro e w' ⟨rfl,hk⟩
 have HK:=Lib.hid hk; clear hk
 go_wp2_with fail
 go_loop [2,5] (fun r i => ∃ k:Nat,k≤s.length∧i = .int .i64 k∧r = .bool false) (fun _ i=>1000-(intOf i).toNat)
 case atStart=>exact⟨0,Nat.zero_le _,rfl,rfl⟩
 case round=>
  obtain⟨k,hk,rfl,rfl⟩:=hrel
  by_cases hlt:k<s.length
  ·have hks:k<(⟨s.toArray⟩:ByteArray).size:=by rw [size_mk]; exact hlt
   have hdk:=HD.out s[k] (List.getElem_mem hlt)
   unfold isDig at hdk
   rw [← get_mk s k hks hlt] at hdk
   go_wp2_with fail
   go_round
   case rel=>exact⟨k+1,by omega,by go_num,rfl⟩
   case measure=>simp [intOf]; omega
  ·obtain rfl:k=s.length:=by omega
   go_wp2_with fail
   go_ret
   exact⟨rfl,HK.out⟩
set_option maxHeartbeats 1000000 in
theorem canonical_zero (w:World):Calls Tryz.prog 116 #[.string ⟨([48]:List UInt8).toArray⟩] w fun e w'=>e = .returned (.bool true)∧w'=w:=by
 have h48:((((⟨([48]:List UInt8).toArray⟩:ByteArray)[0]'(by decide)).toNat:Int) == 48)=true:=by decide
 go_enter Tryz.func116,Tryz.ntmps116
 go_wp2_with fail
 refine (split_plus [48] _ (by decide) (by decide) (by decide)).mono ?_
 rintro e w' ⟨rfl,hw⟩
 subst hw
 go_wp2_with fail
 go_loop [2,5] (fun r i => ∃ k:Nat,k≤1∧i = .int .i64 k∧r = .bool false) (fun _ i=>1000-(intOf i).toNat)
 case atStart=>exact⟨0,Nat.zero_le _,rfl,rfl⟩
 case round=>
  obtain⟨k,hk,rfl,rfl⟩:=hrel
  have:k=0∨k=1:=by omega
  rcases this with rfl | rfl
  ·go_wp2_with fail
   go_round
   case rel=>exact⟨1,by omega,by go_num,rfl⟩
   case measure=>simp [intOf]
  ·go_wp2_with fail
   go_ret
   exact⟨rfl,rfl⟩
theorem canonical_itoa {n:Int} (h:Sm9 n) (w:World):Calls Tryz.prog 116 #[.string ⟨(Lib.itoa n).toArray⟩] w fun e w'=>e = .returned (.bool true)∧Kp w w':=by
 by_cases h0:n=0
 ·subst h0; rw [itoa_zero]; exact (canonical_zero w).mono fun e w' ⟨h1,h2⟩=>⟨h1,Kp.of_eq' h2⟩
 ·obtain⟨c,r,hc,hne,_⟩:=dec_head (u:=n.natAbs) (by omega)
  refine canonical_walk (Lib.itoa n) (Lib.decDigits n.natAbs) _ w (fun w=>split_itoa h w) (dec_dig _) (dec_pos _) (dec_le9 h) ?_
  rw [beq_eq_false_iff_ne]
  intro e
  have hz0:0<(⟨(Lib.decDigits n.natAbs).toArray⟩:ByteArray).size:=by rw [size_mk]; exact dec_pos _
  have hx:(⟨(Lib.decDigits n.natAbs).toArray⟩:ByteArray)[0]'hz0=c:=by rw [get_mk _ 0 hz0 (dec_pos _)]; simp [hc]
  rw [hx] at e
  omega
set_option maxHeartbeats 400000 in
theorem right01_itoa {n:Int} (h:Sm9 n) (w:World):Calls Tryz.prog 59 #[.string ⟨(Lib.itoa n).toArray⟩] w fun e w'=>e = .returned (.bool true)∧Kp w w':=by
 have HS:=Lib.hid fun w=>split_itoa h w
 have HC:=Lib.hid fun w=>canonical_itoa h w
 have hl:=dec_le9 h
 have hl2:((Lib.decDigits n.natAbs).length:Int)≤200:=by omega
 clear hl
 go_enter Tryz.func59,Tryz.ntmps59
 go_wp2_with fail
 refine (HS.out _).mono ?_
 rintro e w' ⟨rfl,hk⟩
 have HK:=Lib.hid hk; clear hk
 go_wp2_with fail
 refine (HC.out _).mono ?_
 rintro e w2 ⟨rfl,hk⟩
 have HK2:=Lib.hid (HK.out.then hk); clear hk
 go_wp2_with fail
 go_ret
 exact⟨rfl,HK2.out⟩
theorem over_no {v d:Int} (h0:0≤v) (h1:v<1000000000) (hd:0≤d∧d≤9):¬ (-v<(-9223372036854775808+d).tdiv 10):=by
 have e:(-9223372036854775808+d).tdiv 10 = -((9223372036854775808-d)/10):=by
  rw [show -9223372036854775808+d = -(9223372036854775808-d) from by omega,Int.neg_tdiv,Int.tdiv_eq_ediv_of_nonneg (by omega)]
 rw [e]
 omega
set_option maxHeartbeats 1000000 in
theorem small01_walk (l s:List UInt8) (m:Bool) (w:World) (hs:∀ w,Calls Tryz.prog 115 #[.string ⟨l.toArray⟩] w fun e w'=>e = .returned (.tuple #[.bool m,.string ⟨s.toArray⟩])∧Kp w w') (hd:∀ c∈s,isDig c) (h9:s.length≤9) :
  Calls Tryz.prog 148 #[.string ⟨l.toArray⟩] w fun e w'=>e = .returned (.tuple #[.int .i64 (if m then -dval s else dval s),.bool true])∧Kp w w':=by
 have HS:=Lib.hid hs; clear hs
 have hdig:digTo ⟨s.toArray⟩ 0 s.length:=by
  have:=digTo_mk (p:=[]) (q:=s) (r:=[]) hd
  simpa using this
 have hval:valTo ⟨s.toArray⟩ 0 s.length=dval s:=by
  have:=valTo_mk [] s []
  simpa using this
 have HD:=Lib.hid hdig; clear hdig hd
 have HV:=Lib.hid hval; clear hval
 have hsz:(⟨s.toArray⟩:ByteArray).size=s.length:=size_mk s
 have hl19:¬ (19:Int)<(s.length:Int):=by omega
 go_enter Tryz.func148,Tryz.ntmps148
 go_wp2_with fail
 refine (HS.out _).mono ?_
 rintro e w' ⟨rfl,hk⟩
 have HK:=Lib.hid hk; clear hk
 go_wp2_with fail
 go_loop [2,3,6,7,8] (fun r2 r3 n i d => ∃ k:Nat,k≤s.length∧i = .int .i64 k∧n = .int .i64 (-(valTo ⟨s.toArray⟩ 0 k))∧r2 = .int .i64 0∧r3 = .bool false) (fun _ _ _ i _=>1000-(intOf i).toNat)
 case atStart=>exact⟨0,Nat.zero_le _,rfl,by rw [valTo_zero]; rfl,rfl,rfl⟩
 case round=>
  obtain⟨k,hk,rfl,rfl,rfl,rfl⟩:=hrel
  have hb:=valTo_lt ⟨s.toArray⟩ 0 s.length k HD.out (by omega) (Nat.zero_le _) hk (by omega)
  by_cases hlt:k<s.length
  ·have hks:k<(⟨s.toArray⟩:ByteArray).size:=by omega
   have hdk:=HD.out k hks (Nat.zero_le _) hlt
   have HP:=Lib.hid (valTo_succ ⟨s.toArray⟩ 0 k hks (Nat.zero_le _))
   have hov:=over_no (v:=valTo ⟨s.toArray⟩ 0 k) (d:=((⟨s.toArray⟩:ByteArray)[k].toNat:Int)-48) hb.1 hb.2 (by omega)
   go_wp2_with fail
   go_round
   case rel=>exact⟨k+1,by omega,by go_num,by rw [HP.out]; go_num,rfl,rfl⟩
   case measure=>simp [intOf]; omega
  ·obtain rfl:k=s.length:=by omega
   have hv:=HV.out
   cases m
   ·have hne:((-(valTo ⟨s.toArray⟩ 0 s.length)) == -9223372036854775808)=false:=by simp; omega
    go_wp2_with fail
    go_ret2
    exact⟨by rw [← HV.out]; simp,HK.out⟩
   ·go_wp2_with fail
    go_ret2
    exact⟨by rw [← HV.out]; simp,HK.out⟩
theorem dval_dec (u:Nat):dval (Lib.decDigits u)=u:=dec_val u
theorem small01_itoa {n:Int} (h:Sm9 n) (w:World):Calls Tryz.prog 148 #[.string ⟨(Lib.itoa n).toArray⟩] w fun e w'=>e = .returned (.tuple #[.int .i64 n,.bool true])∧Kp w w':=by
 refine (small01_walk (Lib.itoa n) (Lib.decDigits n.natAbs) _ w (fun w=>split_itoa h w) (dec_dig _) (dec_le9 h)).mono fun e w' ⟨h1,h2⟩=>⟨?_,h2⟩
 rw [h1,dval_dec]
 by_cases h0:n<0
 ·rw [decide_eq_true h0,if_pos rfl,show -((n.natAbs:Nat):Int)=n from by omega]
 ·rw [decide_eq_false h0,if_neg (by simp),show ((n.natAbs:Nat):Int)=n from by omega]
set_option maxHeartbeats 400000 in
theorem brief01_itoa {n:Int} (h:Sm9 n) (w:World):Calls Tryz.prog 143 #[.string ⟨(Lib.itoa n).toArray⟩] w fun e w'=>e = .returned (.tuple #[.int .i64 n,.bool true])∧Kp w w':=by
 have HS:=Lib.hid fun w=>split_itoa h w
 have HM:=Lib.hid fun w=>small01_itoa h w
 have hl:=dec_le9 h
 have hl17:¬ (17:Int)<((Lib.decDigits n.natAbs).length:Int):=by omega
 clear hl
 go_enter Tryz.func143,Tryz.ntmps143
 go_wp2_with fail
 refine (HS.out _).mono ?_
 rintro e w' ⟨rfl,hk⟩
 have HK:=Lib.hid hk; clear hk
 go_wp2_with fail
 refine (HM.out _).mono ?_
 rintro e w2 ⟨rfl,hk⟩
 have HK2:=Lib.hid (HK.out.then hk); clear hk
 go_wp2_with fail
 go_ret2
 exact⟨rfl,HK2.out⟩
set_option maxHeartbeats 400000 in
theorem neg01_one (w:World):Calls Tryz.prog 87 #[.string ⟨#[49]⟩] w fun e w'=>e = .returned (.string ⟨(Lib.itoa (-1)).toArray⟩)∧w'=w:=by
 have a1:=fun w=>run_string_add_sum (P:=Tryz.prog) (w:=w) ⟨#[45]⟩ ⟨#[49]⟩ (by decide)
 go_enter Tryz.func87,Tryz.ntmps87
 go_wp2_with fail
 refine (split_plus [49] _ (by decide) (by decide) (by decide)).mono ?_
 rintro e w' ⟨rfl,hw⟩
 subst hw
 go_wp2_with fail
 go_ret
 refine⟨?_,rfl⟩
 have:Lib.itoa (-1)=[45,49]:=by rw [itoa_neg' (by omega)]; show 45::Lib.decDigits 1=_; rw [dec_small (by omega)]; rfl
 rw [this]
 rfl
set_option maxHeartbeats 400000 in
theorem add01_itoa {x y:Int} (hx:Sm9 x) (hy:Sm9 y) (w:World) (ht:PTab w):Calls Tryz.prog 83 #[.string ⟨(Lib.itoa x).toArray⟩,.string ⟨(Lib.itoa y).toArray⟩] w fun e w'=>e = .returned (strV (Lib.itoa (x+y)))∧Kp w w':=by
 have HX:=Lib.hid fun w=>brief01_itoa hx w
 have HY:=Lib.hid fun w=>brief01_itoa hy w
 have HT:=Lib.hid ht; clear ht
 have b1:=hx.1; have b2:=hx.2; have b3:=hy.1; have b4:=hy.2
 go_enter Tryz.func83,Tryz.ntmps83
 go_wp2_with fail
 refine (HX.out _).mono ?_
 rintro e w1 ⟨rfl,hk⟩
 have HK1:=Lib.hid hk; clear hk
 go_wp2_with fail
 refine (HY.out _).mono ?_
 rintro e w2 ⟨rfl,hk⟩
 have HK2:=Lib.hid (HK1.out.then hk); clear hk
 go_wp2_with fail
 refine (rOfInt (x+y) _ (by omega) (by omega) (HT.out.kp HK2.out)).mono ?_
 rintro e w' ⟨rfl,hk⟩
 have HK:=Lib.hid (HK2.out.then hk); clear hk
 go_wp2_with fail
 go_ret
 exact⟨rfl,HK.out⟩
set_option maxHeartbeats 400000 in
theorem sign01_pos {n:Int} (h:Sm9 n) (h0:0<n) (w:World):Calls Tryz.prog 86 #[.string ⟨(Lib.itoa n).toArray⟩] w fun e w'=>e = .returned (.int .i64 1)∧Kp w w':=by
 have hs:=fun w=>split_itoa h w
 rw [decide_eq_false (by omega)] at hs
 have HS:=Lib.hid hs; clear hs
 have hz:(Lib.itoa n == [48])=false:=by rw [itoa_is_zero,decide_eq_false (by omega)]
 go_enter Tryz.func86,Tryz.ntmps86
 go_wp2_with fail
 refine (HS.out _).mono ?_
 rintro e w' ⟨rfl,hk⟩
 have HK:=Lib.hid hk; clear hk
 go_wp2_with fail
 go_ret
 exact⟨rfl,HK.out⟩
set_option maxHeartbeats 400000 in
theorem sub01_one {d:Int} (h:Sm9 d) (h2:2≤d) (w:World) (ht:PTab w):Calls Tryz.prog 118 #[.string ⟨(Lib.itoa d).toArray⟩,.string ⟨#[49]⟩] w fun e w'=>e = .returned (strV (Lib.itoa (d-1)))∧Kp w w':=by
 have HT:=Lib.hid ht; clear ht
 go_enter Tryz.func118,Tryz.ntmps118
 go_wp2_with fail
 refine (neg01_one _).mono ?_
 rintro e w' ⟨rfl,hw⟩
 subst hw
 go_wp2_with fail
 refine (add01_itoa h (show Sm9 (-1) from ⟨by omega,by omega⟩) _ HT.out).mono ?_
 rintro e w' ⟨rfl,hk⟩
 have HK:=Lib.hid hk; clear hk
 go_wp2_with fail
 go_ret
 exact⟨rfl,HK.out⟩
set_option maxHeartbeats 400000 in
theorem cmp01_one {d:Int} (h:Sm9 d) (h2:2≤d) (w:World) (ht:PTab w):Calls Tryz.prog 61 #[.string ⟨(Lib.itoa d).toArray⟩,.string ⟨#[49]⟩] w fun e w'=>e = .returned (.int .i64 1)∧Kp w w':=by
 have HT:=Lib.hid ht; clear ht
 go_enter Tryz.func61,Tryz.ntmps61
 go_wp2_with fail
 refine (sub01_one h h2 _ HT.out).mono ?_
 rintro e w' ⟨rfl,hk⟩
 have HK:=Lib.hid hk; clear hk
 go_wp2_with fail
 refine (sign01_pos (n:=d-1) ⟨by have:=h.1; omega,by have:=h.2; omega⟩ (by omega) _).mono ?_
 rintro e w2 ⟨rfl,hk⟩
 have HK2:=Lib.hid (HK.out.then hk); clear hk
 go_wp2_with fail
 go_ret
 exact⟨rfl,HK2.out⟩
set_option maxHeartbeats 400000 in
theorem abs01_itoa {n:Int} (h:Sm9 n) (w:World):Calls Tryz.prog 119 #[.string ⟨(Lib.itoa n).toArray⟩] w fun e w'=>e = .returned (.string ⟨(Lib.itoa (n.natAbs:Int)).toArray⟩)∧Kp w w':=by
 have HS:=Lib.hid fun w=>split_itoa h w
 go_enter Tryz.func119,Tryz.ntmps119
 go_wp2_with fail
 refine (HS.out _).mono ?_
 rintro e w' ⟨rfl,hk⟩
 have HK:=Lib.hid hk; clear hk
 go_wp2_with fail
 go_ret
 refine⟨?_,HK.out⟩
 rw [itoa_pos' (n:=(n.natAbs:Int)) (by omega)]
 rfl
set_option maxHeartbeats 1000000 in
theorem divmod01 {x y:Int} (hx:Sm9 x) (h0:0≤x) (hy:Sm9 y) (h1:0<y) (w:World) (ht:PTab w) :
  Calls Tryz.prog 88 #[.string ⟨(Lib.itoa x).toArray⟩,.string ⟨(Lib.itoa y).toArray⟩] w fun e w'=>e = .returned (.tuple #[.string ⟨(Lib.itoa (x/y)).toArray⟩,.string ⟨(Lib.itoa (x%y)).toArray⟩])∧Kp w w':=by
 have HX:=Lib.hid fun w=>brief01_itoa hx w
 have HY:=Lib.hid fun w=>brief01_itoa hy w
 have HT:=Lib.hid ht; clear ht
 have b1:=hx.2; have b2:=hy.2
 have m1:=Int.emod_nonneg x (show y≠0 by omega)
 have m2:=Int.emod_lt_of_pos x h1
 have q1:0≤x/y:=Int.ediv_nonneg h0 (by omega)
 have q2:x/y≤x:=Int.ediv_le_self _ h0
 have hyz:(y == 0)=false:=by simp; omega
 have hrn:¬ x%y<0:=by omega
 go_enter Tryz.func88,Tryz.ntmps88
 go_wp2_with fail
 refine (HX.out _).mono ?_
 rintro e w3 ⟨rfl,hk⟩
 have HK3:=Lib.hid hk; clear hk
 go_wp2_with fail
 refine (HY.out _).mono ?_
 rintro e w4 ⟨rfl,hk⟩
 have HK4:=Lib.hid (HK3.out.then hk); clear hk
 go_wp2_with fail
 go_region
 go_wp2_with fail
 refine (rOfInt (x/y) _ (by omega) (by omega) (HT.out.kp (HK4.out.then (Kp.drew _)))).mono ?_
 rintro e w1 ⟨rfl,hk⟩
 have HK:=Lib.hid ((HK4.out.then (Kp.drew _)).then hk); clear hk
 go_wp2_with fail
 refine (rOfInt (x%y) _ (by omega) (by omega) (HT.out.kp HK.out)).mono ?_
 rintro e w2 ⟨rfl,hk⟩
 have HK2:=Lib.hid (HK.out.then hk); clear hk
 go_wp2_with fail
 go_ret2
 exact⟨rfl,HK2.out⟩
set_option maxHeartbeats 1000000 in
theorem gcd01 {n d:Int} (hn:Sm9 n) (hd:Sm9 d) (w:World) (ht:PTab w) :
  Calls Tryz.prog 62 #[.string ⟨(Lib.itoa n).toArray⟩,.string ⟨(Lib.itoa d).toArray⟩] w fun e w'=>e = .returned (.string ⟨(Lib.itoa (Int.gcd n d:Int)).toArray⟩)∧Kp w w':=by
 have HA:=Lib.hid fun w=>abs01_itoa hn w
 have HB:=Lib.hid fun w=>abs01_itoa hd w
 have HT:=Lib.hid ht; clear ht
 have b1:=hn.1; have b2:=hn.2; have b3:=hd.1; have b4:=hd.2
 go_enter Tryz.func62,Tryz.ntmps62
 go_wp2_with fail
 refine (HA.out _).mono ?_
 rintro e w3 ⟨rfl,hk⟩
 have HK3:=Lib.hid hk; clear hk
 go_wp2_with fail
 refine (HB.out _).mono ?_
 rintro e w4 ⟨rfl,hk⟩
 have HK4:=Lib.hid (HK3.out.then hk); clear hk
 go_wp2_with fail
 go_loopw [0,1,5,6] (fun a b _ _ wr => ∃ x y:Int,a = .string ⟨(Lib.itoa x).toArray⟩∧b = .string ⟨(Lib.itoa y).toArray⟩∧(Int.gcd x y:Int)=Int.gcd n d∧0≤x∧x<1000000000∧0≤y∧y<1000000000∧Kp w wr) (fun _ b _ _ _=>match b with | .string s=>((Lib.atoi s.data.toList).getD 0).natAbs | _=>0)
 case atStart=>exact⟨n.natAbs,d.natAbs,rfl,rfl,by unfold Int.gcd; simp,by omega,by omega,by omega,by omega,HK4.out⟩
 case round=>
  obtain⟨x,y,rfl,rfl,hg,hx1,hx2,hy1,hy2,hk⟩:=hrel
  have HG:=Lib.hid hg; clear hg
  have HK:=Lib.hid hk; clear hk
  by_cases hy:y=0
  ·subst hy
   have hz:(Lib.itoa 0 == [48])=true:=by rw [itoa_is_zero]; rfl
   have hzn:(Lib.itoa 0 != [48])=false:=by rw [bne,hz]; rfl
   have hgx:x=Int.gcd n d:=by have:=HG.out; rw [Int.gcd_zero_right] at this; omega
   have HX:=Lib.hid hgx; clear hgx HG
   go_wp2_with fail
   go_ret
   exact⟨by rw [← HX.out]; rfl,HK.out⟩
  ·have hz:(Lib.itoa y == [48])=false:=by rw [itoa_is_zero,decide_eq_false hy]
   have hzn:(Lib.itoa y != [48])=true:=by rw [bne,hz]; rfl
   have m1:=Int.emod_nonneg x hy
   have m2:=Int.emod_lt_of_pos x (show 0<y by omega)
   go_wp2_with fail
   refine (divmod01 (x:=x) (y:=y) ⟨by omega,hx2⟩ hx1 ⟨by omega,hy2⟩ (by omega) _ (HT.out.kp HK.out)).mono ?_
   rintro e w1 ⟨rfl,hk1⟩
   have HK1:=Lib.hid (HK.out.then hk1); clear hk1
   go_wp2_with fail
   go_roundw
   case rel=>
    have e:x%y=x.tmod y:=(Int.tmod_eq_emod_of_nonneg hx1).symm
    have g1:=(gcd_step x y).trans HG.out
    rw [← e] at g1
    exact⟨y,x%y,rfl,rfl,g1,hy1,hy2,m1,by omega,HK1.out⟩
   case measure=>
    show ((Lib.atoi (Lib.itoa (x%y))).getD 0).natAbs<((Lib.atoi (Lib.itoa y)).getD 0).natAbs
    rw [atoi_itoa,atoi_itoa]
    simp only [Option.getD_some]
    omega
theorem idxB (l:List UInt8) (w:World):Calls Tryz.prog 60 #[.string ⟨l.toArray⟩,.int .u8 47] w fun e w'=>e = .returned (.int .i64 (Lib.indexByte l 47))∧w'=w:=Tryz.strings_IndexByte ⟨l.toArray⟩ 47 w
set_option maxHeartbeats 400000 in
theorem parts02_none (l:List UInt8) (w:World) (h:Lib.indexByte l 47 = -1):Calls Tryz.prog 58 #[.string ⟨l.toArray⟩] w fun e w'=>e = .returned (.tuple #[.string ⟨l.toArray⟩,.string ⟨#[49]⟩])∧Kp w w':=by
 have H:=Lib.hid h; clear h
 go_enter Tryz.func58,Tryz.ntmps58
 go_wp2_with fail
 refine (idxB l _).mono ?_
 rintro e w' ⟨rfl,hw⟩
 rw [H.out]
 subst hw
 go_wp2_with fail
 go_ret2
 exact⟨rfl,Kp.refl _⟩
set_option maxHeartbeats 400000 in
theorem parts02_at (l:List UInt8) (k:Nat) (w:World) (h:Lib.indexByte l 47=(k:Int)) (hk:k<l.length) (hl:l.length≤1000):Calls Tryz.prog 58 #[.string ⟨l.toArray⟩] w fun e w'=>e = .returned (.tuple #[.string ⟨(l.take k).toArray⟩,.string ⟨(l.drop (k+1)).toArray⟩])∧Kp w w':=by
 have H:=Lib.hid h; clear h
 go_enter Tryz.func58,Tryz.ntmps58
 go_wp2_with fail
 refine (idxB l _).mono ?_
 rintro e w' ⟨rfl,hw⟩
 rw [H.out]
 subst hw
 go_wp2_with fail
 go_region
 go_wp2_with fail
 go_ret2
 refine⟨?_,Kp.drew _⟩
 show Ending.returned (.tuple #[.string ((⟨l.toArray⟩:ByteArray).extract 0 k),.string ((⟨l.toArray⟩:ByteArray).extract (k+1) l.length)])=_
 have e1:(⟨l.toArray⟩:ByteArray).extract 0 k=⟨(l.take k).toArray⟩:=by apply ByteArray.ext; simp [ByteArray.data_extract]
 have e2:(⟨l.toArray⟩:ByteArray).extract (k+1) l.length=⟨(l.drop (k+1)).toArray⟩:=by apply ByteArray.ext; simp [ByteArray.data_extract]; exact List.take_of_length_le (by simp)
 rw [e1,e2]
set_option maxHeartbeats 400000 in
theorem right02_one {n:Int} (hn:Sm9 n) (w:World):Calls Tryz.prog 29 #[.string ⟨(Lib.itoa n).toArray⟩] w fun e w'=>e = .returned (.bool true)∧Kp w w':=by
 have HI:=Lib.hid (index_none (l:=Lib.itoa n) fun c hc=>itoa_no_stroke hc)
 have HN:=Lib.hid fun w=>right01_itoa hn w
 have h1:=fun w=>right01_itoa (n:=1) ⟨by omega,by omega⟩ w
 rw [itoa_one] at h1
 have H1:=Lib.hid h1; clear h1
 go_enter Tryz.func29,Tryz.ntmps29
 go_wp2_with fail
 refine (parts02_none _ _ HI.out).mono ?_
 rintro e w' ⟨rfl,hk⟩
 have HK:=Lib.hid hk; clear hk
 go_wp2_with fail
 refine (HN.out _).mono ?_
 rintro e w2 ⟨rfl,hk⟩
 have HK2:=Lib.hid (HK.out.then hk); clear hk
 go_wp2_with fail
 refine (H1.out _).mono ?_
 rintro e w3 ⟨rfl,hk⟩
 have HK3:=Lib.hid (HK2.out.then hk); clear hk
 go_wp2_with fail
 refine (idxB _ _).mono ?_
 rintro e w2 ⟨rfl,hw⟩
 rw [HI.out]
 subst hw
 go_wp2_with fail
 go_ret
 exact⟨rfl,HK3.out⟩
set_option maxHeartbeats 1000000 in
theorem right02_of {n d:Int} (hn:Sm9 n) (hd:Sm9 d) (h0:n≠0) (h2:2≤d) (hg:Int.gcd n d=1) (w:World) (ht:PTab w):Calls Tryz.prog 29 #[.string ⟨(Lib.itoa n++47::Lib.itoa d).toArray⟩] w fun e w'=>e = .returned (.bool true)∧Kp w w':=by
 have hi:=index_at (l:=Lib.itoa n) (r:=Lib.itoa d) fun c hc=>itoa_no_stroke hc
 have hln:=itoa_len18 hn.1 hn.2
 have hld:=itoa_len18 hd.1 hd.2
 have hp:=fun w=>parts02_at (Lib.itoa n++47::Lib.itoa d) (Lib.itoa n).length w hi (by simp) (by simp; omega)
 have e1:(Lib.itoa n++47::Lib.itoa d).take (Lib.itoa n).length=Lib.itoa n:=by simp
 have e2:(Lib.itoa n++47::Lib.itoa d).drop ((Lib.itoa n).length+1)=Lib.itoa d:=by simp
 rw [e1,e2] at hp
 have HP:=Lib.hid hp; clear hp
 have HI:=Lib.hid hi; clear hi
 have HN:=Lib.hid fun w=>right01_itoa hn w
 have HD:=Lib.hid fun w=>right01_itoa hd w
 have hgc:=fun w h=>gcd01 hn hd w h
 rw [hg] at hgc
 have HG:=Lib.hid hgc; clear hgc
 have HC:=Lib.hid fun w h=>cmp01_one hd h2 w h
 have hz:(Lib.itoa n == [48])=false:=by rw [itoa_is_zero,decide_eq_false h0]
 have hzn:(Lib.itoa n != [48])=true:=by rw [bne,hz]; rfl
 have h1:(Lib.itoa ((1:Nat):Int) == [49])=true:=by rw [itoa_is_one]; rfl
 have hneg:¬ (((Lib.itoa n).length:Int)<0):=by omega
 have HT:=Lib.hid ht; clear ht
 clear e1 e2 hln hld
 generalize Lib.itoa n++47::Lib.itoa d=l at *
 go_enter Tryz.func29,Tryz.ntmps29
 go_wp2_with fail
 refine (HP.out _).mono ?_
 rintro e w' ⟨rfl,hk⟩
 have HK:=Lib.hid hk; clear hk
 go_wp2_with fail
 refine (HN.out _).mono ?_
 rintro e w5 ⟨rfl,hk⟩
 have HK5:=Lib.hid (HK.out.then hk); clear hk
 go_wp2_with fail
 refine (HD.out _).mono ?_
 rintro e w6 ⟨rfl,hk⟩
 have HK6:=Lib.hid (HK5.out.then hk); clear hk
 go_wp2_with fail
 refine (idxB _ _).mono ?_
 rintro e w2 ⟨rfl,hw⟩
 rw [HI.out]
 subst hw
 go_wp2_with fail
 refine (HC.out _ (HT.out.kp HK6.out)).mono ?_
 rintro e w2 ⟨rfl,hk⟩
 have HK2:=Lib.hid (HK6.out.then hk); clear hk
 go_wp2_with fail
 refine (HG.out _ (HT.out.kp HK2.out)).mono ?_
 rintro e w3 ⟨rfl,hk⟩
 have HK3:=Lib.hid (HK2.out.then hk); clear hk
 go_wp2_with fail
 go_ret
 exact⟨by show Ending.returned (.bool (Lib.itoa 1 == [49]))=_; rw [itoa_is_one]; rfl,HK3.out⟩
theorem right02_rat (a:Rat) (w:World) (ha:Sm a) (ht:PTab w):Calls Tryz.prog 29 #[strV (canon a)] w fun e w'=>e = .returned (.bool true)∧Kp w w':=by
 have ⟨p1,p2,p3⟩:=ha
 have hp:=a.den_pos
 have hn:Sm9 a.num:=⟨by omega,by omega⟩
 show Calls _ _ #[strV (rs a.num a.den)] _ _
 by_cases h1:(a.den:Int)=1
 ·rw [h1,rs_one]; exact right02_one hn w
 ·rw [rs_of h1]
  refine right02_of hn ⟨by omega,by omega⟩ (fun h => ?_) (by omega) ?_ w ht
  ·have hr:=a.reduced
   rw [h] at hr
   simp [Nat.Coprime] at hr
   omega
  ·unfold Int.gcd
   simpa [Nat.Coprime] using a.reduced
end Go.Proofs.YtkjinnjopoehhaaGreatDoor
