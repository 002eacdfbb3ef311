/-
  The reference: a tag, a command's word, what a literal needs.
-/
import Derived.Test.YtfdmdmahddjjmaaGreatDoorKRfB
import Derived.Test.YtfdmdmahddjjmaaGreatDoorPkU
import Derived.Test.YtfdmdmahddjjmaaGreatDoorPkIm1
import Derived.Test.YtfdmdmahddjjmaaGreatDoorPkNd
import Derived.Test.YtfdmdmahddjjmaaGreatDoorPkIm2
set_option linter.unusedVariables false
set_option linter.unusedSimpArgs false
set_option maxRecDepth 100000
namespace Go.Proofs.YtfdmdmahddjjmaaGreatDoor
open Go.RowKit Own Im
attribute [local go_sem] str_toList str_size
theorem tagB_sp:tagB 32 = false:=by decide
theorem tagS_eq (s:Bt):tagS s = if (Lib.cut s [32]).2.2 = false∨(Lib.cut s [32]).1 = [] then [] else if (Lib.cut s [32]).1.all tagB then (Lib.cut s [32]).1 else []:=rfl
theorem tag_at {a b:Bt} (ha:(32:UInt8) ∉ a):tagS (a ++ 32 :: b) = if a.all tagB = true then a else []:=by
 rw [tagS_eq,Spl.cut_at b ha]
 dsimp only
 by_cases h:a = []
 · subst h;simp
 · simp [h]
theorem tag_no {s:Bt} (h:(32:UInt8) ∉ s):tagS s = []:=by rw [tagS_eq,Spl.cut_none h];simp
theorem mid_at (a b:Bt):(a ++ 32 :: b)[a.length]? = some 32:=by simp
theorem tag_stop {s:Bt} {i:Nat} (hall:∀ (j:Nat) (c:UInt8),j < i→s[j]? = some c→tagB c = true) (h:s[i]? = some 32):tagS s = s.take i:=by
 rcases Spl.first 32 s with hn | ⟨a,b,rfl,ha⟩
 · exact absurd (List.mem_of_getElem? h) hn
 · have hi:i = a.length:=by
     rcases Nat.lt_trichotomy i a.length with h1 | h1 | h1
     · rw [List.getElem?_append_left h1] at h
       exact absurd (List.mem_of_getElem? h) ha
     · exact h1
     · have:=hall a.length 32 h1 (mid_at a b)
       rw [tagB_sp] at this
       cases this
   subst hi
   rw [tag_at ha,List.take_left' rfl,if_pos]
   rw [List.all_eq_true]
   intro c hc
   obtain ⟨j,hj,hx⟩:=List.mem_iff_getElem.1 hc
   exact hall j c hj (by rw [List.getElem?_append_left hj,List.getElem?_eq_getElem hj,hx])
theorem tag_bad {s:Bt} {i:Nat} {c:UInt8} (hall:∀ (j:Nat) (c:UInt8),j < i→s[j]? = some c→tagB c = true) (h:s[i]? = some c) (hc:c ≠ 32) (hb:tagB c = false):tagS s = []:=by
 rcases Spl.first 32 s with hn | ⟨a,b,rfl,ha⟩
 · exact tag_no hn
 · have hi:i < a.length:=by
     rcases Nat.lt_trichotomy i a.length with h1 | h1 | h1
     · exact h1
     · subst h1
       rw [mid_at] at h
       cases h
       exact absurd rfl hc
     · have:=hall a.length 32 h1 (mid_at a b)
       rw [tagB_sp] at this
       cases this
   rw [List.getElem?_append_left hi] at h
   rw [tag_at ha,if_neg]
   intro hx
   rw [List.all_eq_true] at hx
   rw [hx c (List.mem_of_getElem? h)] at hb
   cases hb
theorem tag_end {s:Bt} (hall:∀ (j:Nat) (c:UInt8),j < s.length→s[j]? = some c→tagB c = true):tagS s = []:=by
 rcases Spl.first 32 s with hn | ⟨a,b,rfl,ha⟩
 · exact tag_no hn
 · have:=hall a.length 32 (by simp) (mid_at a b)
   rw [tagB_sp] at this
   cases this
set_option maxHeartbeats 2000000 in
theorem rtag_any (s:Bt) (w:World) (hs:s.length ≤ 2147483648) :
  Calls Tryz.prog 19 #[.string (str s)] w fun e w'=>e = .returned (.string (str (tagS s)))∧w = w':=by
 have hz:=str_size s
 obtain ⟨T,hT⟩:∃ T,tagS s = T:=⟨_,rfl⟩
 rw [hT]
 have HT:=hid hT
 clear hT
 go_enter Tryz.func19,Tryz.ntmps19
 go_wp2_with fail
 go_loop [3] (fun v3=>∃ i:Nat,i ≤ s.length∧v3 = .int .i64 i∧∀ (j:Nat) (c:UInt8),j < i→s[j]? = some c→tagB c = true) (fun v3=>s.length - (intOf v3).toNat)
 case atStart=>exact ⟨0,Nat.zero_le _,rfl,fun j d h=>absurd h (Nat.not_lt_zero _)⟩
 case round =>
  obtain ⟨i,hi,rfl,hno⟩:=hrel
  have HN:=hid hno
  clear hno
  by_cases hil:i < s.length
  · obtain ⟨c,hc⟩:∃ c,s[i]? = some c:=⟨_,List.getElem?_eq_getElem hil⟩
    have hix:=str_ix hc
    have HC:=hid hc
    have e32:((c.toNat:Int) == 32) = decide (c = 32):=byte_eq2 32 c
    have e43:((c.toNat:Int) == 43) = decide (c = 43):=byte_eq2 43 c
    have hat:=fun W=>ratom_any c W
    clear hc
    by_cases h32:c = 32
    · rw [decide_eq_true h32] at e32
      have hx:=tag_stop HN.out (by rw [HC.out,h32])
      clear h32
      obtain rfl:T = s.take i:=HT.out.symm.trans hx
      have x1:(str s).extract 0 i = str (s.take i):=str_upto s i
      have X1:=hid x1
      clear hat e43 hx x1
      go_wp2_with fail
      go_ret
      refine ⟨?_,rfl⟩
      rw [X1.out]
      rfl
    · rw [decide_eq_false h32] at e32
      obtain ⟨A,hA⟩:∃ A,atomB c = A:=⟨_,rfl⟩
      obtain ⟨E,hE⟩:∃ E,decide (c = 43) = E:=⟨_,rfl⟩
      have htb:tagB c = (A && !E):=by unfold tagB;rw [hA,hE]
      rw [hA] at hat
      rw [hE] at e43
      have HAT:=hid hat
      have HTB:=hid htb
      have H32:=hid h32
      clear hA hE htb hat h32
      cases A with
      | true =>
       cases E with
       | true =>
        obtain rfl:T = []:=HT.out.symm.trans (tag_bad HN.out HC.out H32.out HTB.out)
        go_wp2_with (go_at_call 40;refine (HAT.out _).mono ?_;rintro e w1 ⟨rfl,rfl⟩)
        go_ret
        exact ⟨rfl,rfl⟩
       | false =>
        go_wp2_with (go_at_call 40;refine (HAT.out _).mono ?_;rintro e w1 ⟨rfl,rfl⟩)
        go_round
        case rel =>
         refine ⟨i + 1,by omega,by go_num,fun j x hj hx=>?_⟩
         rcases Nat.lt_or_ge j i with h | h
         · exact HN.out j x h hx
         · obtain rfl:j = i:=by omega
           rw [HC.out] at hx
           cases hx
           exact HTB.out
        case measure=>simp [intOf];omega
      | false =>
       obtain rfl:T = []:=HT.out.symm.trans (tag_bad HN.out HC.out H32.out HTB.out)
       go_wp2_with (go_at_call 40;refine (HAT.out _).mono ?_;rintro e w1 ⟨rfl,rfl⟩)
       go_ret
       exact ⟨rfl,rfl⟩
  · obtain rfl:i = s.length:=by omega
    obtain rfl:T = []:=HT.out.symm.trans (tag_end HN.out)
    go_wp2_with fail
    go_ret
    exact ⟨rfl,rfl⟩
def knownL:List Bt:=[[67,65,80,65,66,73,76,73,84,89],[78,79,79,80],[76,79,71,79,85,84],[67,72,69,67,75],[67,76,79,83,69],[69,88,80,85,78,71,69],[76,79,71,73,78],[83,69,76,69,67,84],[69,88,65,77,73,78,69],[67,82,69,65,84,69],[68,69,76,69,84,69],[83,85,66,83,67,82,73,66,69],[85,78,83,85,66,83,67,82,73,66,69],[82,69,78,65,77,69],[76,73,83,84],[76,83,85,66],[83,84,65,84,85,83],[65,80,80,69,78,68],[83,84,79,82,69],[67,79,80,89],[70,69,84,67,72],[83,69,65,82,67,72]]
theorem known_form (x:Bt):knownL.contains x = (formK x).isSome:=by
 have h1:∀ y ∈ knownL,y ∈ Im.forms.map (·.1):=by decide
 have h2:∀ y ∈ Im.forms.map (·.1),y ∈ knownL:=by decide
 have h3:(formK x).isSome = true ↔ x ∈ Im.forms.map (·.1):=by
  unfold formK
  rw [Option.isSome_map,List.find?_isSome,List.mem_map]
  exact ⟨fun ⟨p,h,e⟩=>⟨p,h,beq_iff_eq.1 e⟩,fun ⟨p,h,e⟩=>⟨p,h,beq_iff_eq.2 e⟩⟩
 rw [Bool.eq_iff_iff,List.contains_iff_mem,h3]
 exact ⟨h1 x,h2 x⟩
set_option maxHeartbeats 4000000 in
theorem rknown_any (x:Bt) (w:World) :
  Calls Tryz.prog 35 #[.string (str x)] w fun e w'=>e = .returned (.bool (formK x).isSome)∧Below w.heap.size w w':=by
 rw [← known_form]
 obtain ⟨K,hK⟩:∃ K,knownL.contains x = K:=⟨_,rfl⟩
 rw [hK]
 have HK:=hid hK
 clear hK
 go_enter Tryz.func35,Tryz.ntmps35
 go_wp2_with fail
 have hcell:=two_cells w knownL _ w.heap.size rfl (show (#[.string ⟨#[67,65,80,65,66,73,76,73,84,89]⟩,.string ⟨#[78,79,79,80]⟩,.string ⟨#[76,79,71,79,85,84]⟩,.string ⟨#[67,72,69,67,75]⟩,.string ⟨#[67,76,79,83,69]⟩,.string ⟨#[69,88,80,85,78,71,69]⟩,.string ⟨#[76,79,71,73,78]⟩,.string ⟨#[83,69,76,69,67,84]⟩,.string ⟨#[69,88,65,77,73,78,69]⟩,.string ⟨#[67,82,69,65,84,69]⟩,.string ⟨#[68,69,76,69,84,69]⟩,.string ⟨#[83,85,66,83,67,82,73,66,69]⟩,.string ⟨#[85,78,83,85,66,83,67,82,73,66,69]⟩,.string ⟨#[82,69,78,65,77,69]⟩,.string ⟨#[76,73,83,84]⟩,.string ⟨#[76,83,85,66]⟩,.string ⟨#[83,84,65,84,85,83]⟩,.string ⟨#[65,80,80,69,78,68]⟩,.string ⟨#[83,84,79,82,69]⟩,.string ⟨#[67,79,80,89]⟩,.string ⟨#[70,69,84,67,72]⟩,.string ⟨#[83,69,65,82,67,72]⟩]:Array Value).toList = sv knownL from rfl)
 obtain ⟨W,hW⟩:∃ W,W = w.alloc (.cells #[.string ⟨#[67,65,80,65,66,73,76,73,84,89]⟩,.string ⟨#[78,79,79,80]⟩,.string ⟨#[76,79,71,79,85,84]⟩,.string ⟨#[67,72,69,67,75]⟩,.string ⟨#[67,76,79,83,69]⟩,.string ⟨#[69,88,80,85,78,71,69]⟩,.string ⟨#[76,79,71,73,78]⟩,.string ⟨#[83,69,76,69,67,84]⟩,.string ⟨#[69,88,65,77,73,78,69]⟩,.string ⟨#[67,82,69,65,84,69]⟩,.string ⟨#[68,69,76,69,84,69]⟩,.string ⟨#[83,85,66,83,67,82,73,66,69]⟩,.string ⟨#[85,78,83,85,66,83,67,82,73,66,69]⟩,.string ⟨#[82,69,78,65,77,69]⟩,.string ⟨#[76,73,83,84]⟩,.string ⟨#[76,83,85,66]⟩,.string ⟨#[83,84,65,84,85,83]⟩,.string ⟨#[65,80,80,69,78,68]⟩,.string ⟨#[83,84,79,82,69]⟩,.string ⟨#[67,79,80,89]⟩,.string ⟨#[70,69,84,67,72]⟩,.string ⟨#[83,69,65,82,67,72]⟩] 9):=⟨_,rfl⟩
 have hbel:Below w.heap.size w W:=by rw [hW];exact (Below.refl _ _).alloc (Nat.le_refl _) _
 rw [← hW] at hcell
 rw [← hW]
 have HB:=hid hbel
 have HC:=hid hcell
 clear hbel hcell hW
 go_loop [4] (fun v4=>∃ i:Nat,i ≤ 22∧v4 = .int .i64 i∧∀ (j:Nat) (d:Bt),j < i→knownL[j]? = some d→d ≠ x) (fun v4=>22 - (intOf v4).toNat)
 case atStart=>exact ⟨0,Nat.zero_le _,rfl,fun j d h=>absurd h (Nat.not_lt_zero _)⟩
 case round =>
  obtain ⟨i,hi,rfl,hno⟩:=hrel
  have HN:=hid hno
  clear hno
  by_cases hil:i < 22
  · obtain ⟨d,hd⟩:∃ d,knownL[i]? = some d:=⟨_,List.getElem?_eq_getElem (by simpa [knownL] using hil)⟩
    have x1:=HC.out i d hd
    have HD:=hid hd
    have i0:(0:Int) ≤ (i:Int):=by omega
    have i1:(i:Int) < 22:=by omega
    cases hdx:(d == x) with
    | true =>
     have hcon:knownL.contains x = true:=by rw [List.contains_iff_mem];exact (beq_iff_eq.1 hdx) ▸ List.mem_of_getElem? hd
     obtain rfl:K = true:=HK.out.symm.trans hcon
     clear hd hcon
     go_wp2_with fail
     go_ret
     exact ⟨rfl,HB.out⟩
    | false =>
     clear hd
     go_wp2_with fail
     go_round
     case rel =>
      refine ⟨i + 1,by omega,by go_num,fun j y hj hy=>?_⟩
      rcases Nat.lt_or_ge j i with h | h
      · exact HN.out j y h hy
      · obtain rfl:j = i:=by omega
        rw [HD.out] at hy
        cases hy
        exact beq_eq_false_iff_ne.1 hdx
     case measure=>simp [intOf];omega
  · obtain rfl:i = 22:=by omega
    have hcon:knownL.contains x = false:=by
     rw [Bool.eq_false_iff]
     intro h
     rw [List.contains_iff_mem] at h
     obtain ⟨j,hj,hx⟩:=List.mem_iff_getElem.1 h
     exact HN.out j x (by simpa [knownL] using hj) (by rw [List.getElem?_eq_getElem hj,hx]) rfl
    obtain rfl:K = false:=HK.out.symm.trans hcon
    clear hcon
    go_wp2_with fail
    go_ret
    exact ⟨rfl,HB.out⟩
end Go.Proofs.YtfdmdmahddjjmaaGreatDoor
