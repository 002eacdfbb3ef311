/-
  Joined texts: ImN RfW.
-/
import Derived.Test.YtfdmdmahddjjmaaGreatDoorPkIm0
import Derived.Test.YtfdmdmahddjjmaaGreatDoorPkAd
import Derived.Test.YtfdmdmahddjjmaaGreatDoorKRfA
set_option linter.unusedVariables false
set_option linter.unusedSimpArgs false
set_option maxRecDepth 100000
namespace Go.Proofs.YtfdmdmahddjjmaaGreatDoor
open Go.RowKit Own Im
attribute [local go_sem] str_toList str_size
theorem suf_nil:Lib.hasSuffix [] [125] = false:=rfl
theorem suf_snoc (t:Bt) (c:UInt8):Lib.hasSuffix (t ++ [c]) [125] = decide (c = 125):=by
 unfold Lib.hasSuffix List.isSuffixOf
 rw [List.reverse_append]
 simp [List.isPrefixOf]
 by_cases h:c = 125
 · subst h;simp
 · rw [decide_eq_false h];simpa using fun k=>h k.symm
theorem last_split (l:Bt):(123 ∉ l∧Lib.lastIndexByte (str l) 123 = -1)∨∃ x y,l = x ++ 123 :: y∧123 ∉ y∧Lib.lastIndexByte (str l) 123 = (x.length:Int):=by
 have hg:∀ j (hj:j < l.length),(str l).data[j]! = l[j]:=by
  intro j hj
  show (l.toArray)[j]! = l[j]
  rw [getElem!_pos l.toArray j (by simpa using hj)]
  simp
 rcases Lib.lastIndexByte_spec (str l) 123 with ⟨h1,h2⟩ | ⟨i,h1,h2,h3,h4⟩
 · left
   refine ⟨?_,h1⟩
   intro hm
   obtain ⟨j,hj,he⟩:=List.getElem_of_mem hm
   have:=h2 j (by rw [str_size];exact hj)
   rw [hg j hj,he] at this
   exact this rfl
 · right
   rw [str_size] at h1 h4
   have e0:l[i] = 123:=by
    rw [hg i h1] at h3
    have:l[i].toNat = 123:=by omega
    exact UInt8.toNat_inj.1 this
   have e1:l = l.take i ++ 123 :: l.drop (i + 1):=by
    conv=>lhs;rw [← List.take_append_drop i l,List.drop_eq_getElem_cons h1,e0]
   refine ⟨l.take i,l.drop (i + 1),e1,?_,?_⟩
   · intro hm
     obtain ⟨j,hj,he⟩:=List.getElem_of_mem hm
     rw [List.length_drop] at hj
     have:=h4 (i + 1 + j) (by omega) (by omega)
     rw [hg _ (by omega)] at this
     rw [List.getElem_drop] at he
     rw [he] at this
     exact this rfl
   · rw [h2,List.length_take,Nat.min_eq_left (Nat.le_of_lt h1)]
theorem back_run (x y:Bt) (h:123 ∉ y):((x ++ 123 :: y).reverse.takeWhile (fun c=>c != 123)).reverse = y:=by
 rw [List.reverse_append,List.reverse_cons,List.append_assoc]
 have hy:∀ c ∈ y.reverse,(c != 123) = true:=by
  intro c hc
  rw [bne_iff_ne]
  rintro rfl
  exact h (List.mem_reverse.1 hc)
 rw [List.takeWhile_append_of_pos hy]
 simp
theorem needS_at (s x y:Bt) (hs:s = x ++ 123 :: y ++ [125]) (h:123 ∉ y):needS s = Dec.numR y most:=by
 subst hs
 unfold needS
 have e1:(x ++ 123 :: y ++ [125]).getLast? = some 125:=List.getLast?_concat ..
 have e2:(x ++ 123 :: y ++ [125]).dropLast = x ++ 123 :: y:=List.dropLast_concat ..
 rw [if_pos e1,e2,if_pos (by simp),back_run x y h]
theorem needS_none (s t:Bt) (c:UInt8) (hs:s = t ++ [c]) (h:c ≠ 125∨123 ∉ t):needS s = (0,false):=by
 subst hs
 unfold needS
 have e1:(t ++ [c]).getLast? = some c:=by simp
 have e2:(t ++ [c]).dropLast = t:=by simp
 rw [e1,e2]
 rcases h with h | h
 · rw [if_neg (by simpa using h)]
 · rw [if_neg h]
   simp
set_option maxHeartbeats 1000000 in
theorem need_any (s:Bt) (w:World) (hG:GoodC w) (hl:s.length ≤ 4294967296) :
  Calls Tryz.prog 15 #[.string (str s)] w fun e w'=>e = .returned (.tuple #[.int .i64 (needS s).1,.bool (needS s).2])∧Below w.heap.size w w':=by
 have hcs:∀ W:World,Calls Tryz.prog 29 #[.string (str s),.string (str [125])] W fun e w'=>e = .returned (.tuple #[.string (str (Lib.trimSuffix s [125])),.bool (Lib.hasSuffix s [125])])∧w' = W:=fun W=>Tryz.strings_CutSuffix (str s) (str [125]) W (by rw [str_size];omega)
 rcases List.eq_nil_or_concat s with rfl | ⟨t,c,rfl⟩
 · have hli:=fun W=>Tryz.strings_LastIndexByte (str []) 123 (by rw [str_size];decide) W
   rw [show Lib.lastIndexByte (str []) 123 = -1 by rfl] at hli
   rw [show Lib.trimSuffix [] [125] = [] by rfl,suf_nil] at hcs
   have e0:needS [] = (0,false):=rfl
   rw [e0]
   go_enter Tryz.func15,Tryz.ntmps15
   go_wp2_with (first
    | (go_at_call 29;refine (hcs _).mono ?_;rintro e w1 ⟨rfl,rfl⟩)
    | (go_at_call 30;refine (hli _).mono ?_;rintro e w2 ⟨rfl,rfl⟩))
   exact bodyPost_ret (v:=.tuple #[.int .i64 0,.bool false]) (by simp [results,Tryz.results15,go_sem]) rfl ⟨rfl,Below.refl _ _⟩
 · rw [List.concat_eq_append] at *
   rw [suf_snoc] at hcs
   by_cases hc:c = 125
   · subst hc
     have e1:Lib.trimSuffix (t ++ [125]) [125] = t:=by
      unfold Lib.trimSuffix
      rw [suf_snoc]
      simp
     rw [e1,decide_eq_true rfl] at hcs
     have hli:=fun W=>Tryz.strings_LastIndexByte (str t) 123 (by rw [str_size];simp at hl;omega) W
     rcases last_split t with ⟨h1,h2⟩ | ⟨x,y,rfl,h1,h2⟩
     · rw [h2] at hli
       rw [needS_none _ t 125 rfl (.inr h1)]
       clear h1 h2
       go_enter Tryz.func15,Tryz.ntmps15
       go_wp2_with (first
        | (go_at_call 29;refine (hcs _).mono ?_;rintro e w1 ⟨rfl,rfl⟩)
        | (go_at_call 30;refine (hli _).mono ?_;rintro e w2 ⟨rfl,rfl⟩))
       exact bodyPost_ret (v:=.tuple #[.int .i64 0,.bool false]) (by simp [results,Tryz.results15,go_sem]) rfl ⟨rfl,Below.refl _ _⟩
     · rw [h2] at hli
       rw [needS_at _ x y rfl h1]
       have hnu:=fun W hW=>number_any y most W hW
       obtain ⟨n,ok,hq⟩:∃ n ok,Dec.numR y most = (n,ok):=⟨_,_,rfl⟩
       rw [hq] at hnu ⊢
       obtain ⟨T,hT⟩:∃ T,T = x ++ 123 :: y:=⟨_,rfl⟩
       have hlen:T.length = x.length + 1 + y.length:=by rw [hT];simp;omega
       have hsz:=str_size T
       rw [hlen] at hsz
       have hx:x.length + 1 + y.length ≤ 4294967296:=by simp at hl;omega
       have ex:(str T).extract (x.length + 1) (x.length + 1 + y.length) = str y:=by
        rw [str_from T (x.length + 1) (x.length + 1 + y.length) hlen.symm]
        congr 1
        rw [hT,show x ++ 123 :: y = (x ++ [123]) ++ y by simp,List.drop_left' (by simp)]
       rw [← hT] at hcs hli ⊢
       clear hq h1 h2 e1 hl hT
       obtain ⟨k,hk⟩:∃ k,k = x.length:=⟨_,rfl⟩
       rw [← hk] at *
       clear hk
       go_enter Tryz.func15,Tryz.ntmps15
       go_wp2_with (first
        | (go_at_call 29;refine (hcs _).mono ?_;rintro e w1 ⟨rfl,rfl⟩)
        | (go_at_call 30;refine (hli _).mono ?_;rintro e w2 ⟨rfl,rfl⟩)
        | (go_at_call 31;first | rw [ex] | skip;refine (hnu _ hG).mono ?_;rintro e w3 ⟨rfl,b3⟩;have B3:=hid b3;clear b3))
       exact bodyPost_ret (v:=.tuple #[.int .i64 n,.bool ok]) (by simp [results,Tryz.results15,go_sem]) rfl ⟨rfl,B3.out⟩
   · rw [needS_none _ t c rfl (.inl hc)]
     rw [decide_eq_false hc] at hcs
     have hli:∀ W,∃ k:Int,Calls Tryz.prog 30 #[.string (str (Lib.trimSuffix (t ++ [c]) [125])),.int .u8 123] W fun e w'=>e = .returned (.int .i64 k)∧w' = W:=fun W=>⟨_,Tryz.strings_LastIndexByte _ 123 (by
      unfold Lib.trimSuffix
      rw [suf_snoc,decide_eq_false hc,if_neg (by simp)]
      have:=str_size (t ++ [c])
      show (str (t ++ [c])).size < _
      omega) W⟩
     go_enter Tryz.func15,Tryz.ntmps15
     go_wp2_with (first
      | (go_at_call 29;refine (hcs _).mono ?_;rintro e w1 ⟨rfl,rfl⟩)
      | (go_at_call 30;obtain ⟨k,hk⟩:=hli _;refine hk.mono ?_;rintro e w2 ⟨rfl,rfl⟩))
     exact bodyPost_ret (v:=.tuple #[.int .i64 0,.bool false]) (by simp [results,Tryz.results15,go_sem]) rfl ⟨rfl,Below.refl _ _⟩
end Go.Proofs.YtfdmdmahddjjmaaGreatDoor
namespace Go.Proofs.YtfdmdmahddjjmaaGreatDoor
open Go.RowKit Own Im
attribute [local go_sem] str_toList str_size
theorem need_short {s:Bt} (h:s.length < 3):needS s = (0,false):=by
 match s,h with
 | [],_=>rfl
 | [c],_=>exact needS_none [c] [] c rfl (.inr (by simp))
 | [c,d],_ =>
  by_cases hd:d = 125
  · subst hd
    by_cases hc:c = 123
    · subst hc
      rw [needS_at [123,125] [] [] rfl (by simp)]
      exact numR_short [] most (.inl (by decide))
    · exact needS_none [c,125] [c] 125 rfl (.inr (by simpa using fun h=>hc h.symm))
  · exact needS_none [c,d] [c] d rfl (.inl hd)
 | _ :: _ :: _ :: _,h=>simp at h;omega
theorem digs_split (t:Bt):∃ u g,t = u ++ g∧(∀ c ∈ g,isDg c = true)∧(u = []∨∃ v x,u = v ++ [x]∧isDg x = false):=by
 have h:=List.takeWhile_append_dropWhile (p:=isDg) (l:=t.reverse)
 refine ⟨(t.reverse.dropWhile isDg).reverse,(t.reverse.takeWhile isDg).reverse,?_,?_,?_⟩
 · rw [← List.reverse_append,h,List.reverse_reverse]
 · intro c hc
   rw [List.mem_reverse] at hc
   exact List.all_eq_true.1 (List.all_takeWhile (p:=isDg) (l:=t.reverse)) c hc
 · cases hd:t.reverse.dropWhile isDg with
   | nil=>exact .inl rfl
   | cons x r =>
    refine .inr ⟨r.reverse,x,by simp,?_⟩
    have:=List.head?_dropWhile_not isDg t.reverse
    rw [hd] at this
    simpa using this
theorem need_dig {u g:Bt} (hg:∀ c ∈ g,isDg c = true):needS (u ++ [123] ++ g ++ [125]) = Dec.numR g most:=by
 refine needS_at _ u g (by simp) fun h=>?_
 have:=hg 123 h
 revert this
 decide
theorem need_no {v g:Bt} {x:UInt8} (hg:∀ c ∈ g,isDg c = true) (hx:isDg x = false) (h1:x ≠ 123):needS (v ++ [x] ++ g ++ [125]) = (0,false):=by
 have h123:123 ∉ g:=fun h=>by
  have:=hg 123 h
  revert this
  decide
 rcases last_split v with ⟨h2,-⟩ | ⟨a,y,rfl,h3,-⟩
 · exact needS_none _ (v ++ [x] ++ g) 125 rfl (.inr (by simp;exact ⟨h2,fun h=>h1 h.symm,h123⟩))
 · rw [needS_at _ a (y ++ [x] ++ g) (by simp) (by simp;exact ⟨h3,fun h=>h1 h.symm,h123⟩)]
   refine numR_other _ most fun hd=>?_
   have:=hd x (by simp)
   unfold Dec.isDig at this
   unfold isDg at hx
   simp at hx
   omega
theorem need_all {g:Bt} (hg:∀ c ∈ g,isDg c = true):needS (g ++ [125]) = (0,false):=needS_none _ g 125 rfl (.inr fun h=>by
 have:=hg 123 h
 revert this
 decide)
set_option maxHeartbeats 4000000 in
theorem rneed_any (s:Bt) (w:World) (hl:s.length ≤ 4294967296) :
  Calls Tryz.prog 18 #[.string (str s)] w fun e w'=>e = .returned (.tuple #[.int .i64 (needS s).1,.bool (needS s).2])∧Below w.heap.size w w':=by
 have hz:=str_size s
 obtain ⟨R,hR⟩:∃ R,needS s = R:=⟨_,rfl⟩
 rw [hR]
 rcases Nat.lt_or_ge s.length 3 with h3 | h3
 · obtain rfl:R = (0,false):=hR.symm.trans (need_short h3)
   have i3:decide ((s.length:Int) < 3) = true:=decide_eq_true (by omega)
   clear hR h3
   go_enter Tryz.func18,Tryz.ntmps18
   go_wp2_with fail
   exact bodyPost_ret (v:=.tuple #[.int .i64 0,.bool false]) (by simp [results,Tryz.results18,go_sem]) rfl ⟨rfl,Below.refl _ _⟩
 obtain ⟨t,e,hs⟩:∃ t e,s = t ++ [e]:=by
  rcases List.eq_nil_or_concat s with rfl | ⟨t,c,rfl⟩
  · simp at h3
  · exact ⟨t,c,by simp⟩
 have hlen:s.length = t.length + 1:=by rw [hs];simp
 have i3:decide ((s.length:Int) < 3) = false:=decide_eq_false (by omega)
 have hw1:IntKind.i64.wrap ((s.length:Int) - 1) = (t.length:Int):=by rw [IntKind.wrap_i64];omega
 have hget:∀ (j:Nat) (d:UInt8),s[j]? = some d→∀ h,(str s)[j]'h = d:=by
  intro j d hd h
  obtain ⟨h1,h2⟩:=List.getElem?_eq_some_iff.1 hd
  exact h2
 have hix:=hget t.length e (by rw [hs];simp)
 have i0:(0:Int) ≤ (t.length:Int):=by omega
 have i1:(t.length:Int) < (s.length:Int):=by omega
 have he:((e.toNat:Int) != 125) = !decide (e = 125):=congrArg Bool.not (byte_eq2 125 e)
 by_cases h125:e = 125
 case neg =>
  obtain rfl:R = (0,false):=hR.symm.trans (needS_none s t e hs (.inl h125))
  rw [decide_eq_false h125] at he
  clear hR h3 hs hget h125 hlen
  go_enter Tryz.func18,Tryz.ntmps18
  go_wp2_with fail
  exact bodyPost_ret (v:=.tuple #[.int .i64 0,.bool false]) (by simp [results,Tryz.results18,go_sem]) rfl ⟨rfl,Below.refl _ _⟩
 rw [decide_eq_true h125] at he
 subst h125
 obtain ⟨u,g,rfl,hg,hu⟩:=digs_split t
 obtain ⟨n,hn⟩:∃ n,n = (u ++ g).length:=⟨_,rfl⟩
 have hng:n = u.length + g.length:=by rw [hn];simp
 rw [← hn] at hlen hw1 hix i0 i1
 have HR:=hid hR
 have HS:=hid hs
 have HG:=hid hg
 have HU:=hid hu
 have HT:=hid hget
 have HN:=hid hn
 have HLEN:=hid hlen
 have HNG:=hid hng
 clear hR hs hg hu hget h3 hn hlen hng
 go_enter Tryz.func18,Tryz.ntmps18
 go_wp2_with fail
 go_loop [4] (fun v4=>∃ k:Nat,u.length ≤ k∧k ≤ n∧v4 = .int .i64 k) (fun v4=>(intOf v4).toNat)
 case atStart=>exact ⟨n,by have:=HNG.out;omega,Nat.le_refl _,rfl⟩
 case round =>
  obtain ⟨k,hk1,hk2,rfl⟩:=hrel
  have hng:=HNG.out
  by_cases hku:u.length < k
  · obtain ⟨j,hj⟩:∃ j,k = j + 1:=⟨k - 1,by omega⟩
    have k0:decide ((0:Int) < (k:Int)) = true:=decide_eq_true (by omega)
    have k0':decide ((k:Int) > 0) = true:=decide_eq_true (by omega)
    have hwk:IntKind.i64.wrap ((k:Int) - 1) = (j:Int):=by rw [IntKind.wrap_i64];omega
    obtain ⟨d,hd⟩:∃ d,s[j]? = some d:=⟨_,List.getElem?_eq_getElem (by have:=HLEN.out;omega)⟩
    have hdg:isDg d = true:=by
     rw [HS.out,List.getElem?_append_left (by simp;omega),List.getElem?_append_right (by omega)] at hd
     exact HG.out d (List.mem_of_getElem? hd)
    have hxd:=HT.out j d hd
    have j0:(0:Int) ≤ (j:Int):=by omega
    have j1:(j:Int) < (s.length:Int):=by have:=HLEN.out;omega
    have hdig:=fun W=>rdigit_any d W
    rw [hdg] at hdig
    have HJ:=hid hj
    clear hd hng hj
    go_wp2_with (go_at_call 38;refine (hdig _).mono ?_;rintro e w1 ⟨rfl,rfl⟩)
    go_round
    case rel=>exact ⟨j,by have:=HJ.out;omega,by have:=HJ.out;omega,by go_num⟩
    case measure=>have:=HJ.out;simp [intOf];omega
  · obtain rfl:k = u.length:=by omega
    rcases HU.out with hu | ⟨v,x,hu,hx⟩
    · have hR:R = (0,false):=by
        rw [← HR.out,HS.out,hu]
        exact need_all HG.out
      subst hR
      have hu0:u.length = 0:=by rw [hu];rfl
      obtain ⟨q,hq⟩:∃ q,q = u.length:=⟨_,rfl⟩
      rw [← hq] at hu0 ⊢
      subst hu0
      clear hq hng
      go_wp2_with fail
      exact bodyPost_ret (v:=.tuple #[.int .i64 0,.bool false]) (by simp [results,Tryz.results18,go_sem]) rfl ⟨rfl,Below.refl _ _⟩
    · have hul:u.length = v.length + 1:=by rw [hu];simp
      have hd:s[v.length]? = some x:=by rw [HS.out,hu];simp
      have hxd:=HT.out v.length x hd
      obtain ⟨k,hk⟩:∃ k,k = u.length:=⟨_,rfl⟩
      obtain ⟨j,hj⟩:∃ j,j = v.length:=⟨_,rfl⟩
      have hkj:k = j + 1:=by omega
      have hkn:n = k + g.length:=by omega
      rw [← hk]
      rw [← hj] at hd hxd
      have k0:decide ((0:Int) < (k:Int)) = true:=decide_eq_true (by omega)
      have k0':decide ((k:Int) > 0) = true:=decide_eq_true (by omega)
      have k1:((k:Int) == 0) = false:=by simp;omega
      have k2:0 < k:=by omega
      have k3:k ≤ n:=by omega
      have hwk:IntKind.i64.wrap ((k:Int) - 1) = (j:Int):=by rw [IntKind.wrap_i64];omega
      have j0:(0:Int) ≤ (j:Int):=by omega
      have j1:(j:Int) < (s.length:Int):=by have:=HLEN.out;omega
      have hdig:=fun W=>rdigit_any x W
      rw [hx] at hdig
      have hb:((x.toNat:Int) != 123) = !decide (x = 123):=congrArg Bool.not (byte_eq2 123 x)
      by_cases h123:x = 123
      case neg =>
       have hR:R = (0,false):=by
        rw [← HR.out,HS.out,hu]
        exact need_no HG.out hx h123
       subst hR
       rw [decide_eq_false h123] at hb
       clear hu hd hul hj hk hng hkj hkn
       go_wp2_with (go_at_call 38;refine (hdig _).mono ?_;rintro e w1 ⟨rfl,rfl⟩)
       exact bodyPost_ret (v:=.tuple #[.int .i64 0,.bool false]) (by simp [results,Tryz.results18,go_sem]) rfl ⟨rfl,Below.refl _ _⟩
      · subst h123
        have hR:R = Dec.numR g most:=by
         rw [← HR.out,HS.out,hu]
         exact need_dig HG.out
        have hb:((123:Int) != 123) = false:=by decide
        have hex:(str s).extract k n = str g:=by
         rw [St.str_sl]
         unfold St.sl
         rw [HS.out,hu]
         congr 1
         have e1:(v ++ [123] ++ g ++ [125]).drop k = g ++ [125]:=by
          rw [List.append_assoc,List.drop_left' (by simp;omega)]
         rw [List.drop_take]
         rw [e1]
         have e2:n - k = g.length:=by omega
         rw [e2]
         simp
        have hnu:=fun W=>rnumber_any g 4294967295 W (by have:=HLEN.out;have:=HNG.out;omega)
        have hmost:most = 4294967295:=rfl
        rw [hmost] at hR
        obtain ⟨z,ok,hq⟩:∃ z ok,Dec.numR g 4294967295 = (z,ok):=⟨_,_,rfl⟩
        rw [hq] at hnu hR
        subst hR
        have kn:(k:Int) ≤ (n:Int):=by omega
        have ns:(n:Int) ≤ (s.length:Int):=by have:=HLEN.out;omega
        clear hu hd hq hul hj hk hng hkj hkn
        go_wp2_with (first
         | (go_at_call 38;refine (hdig _).mono ?_;rintro e w1 ⟨rfl,rfl⟩)
         | (go_at_call 39;first | rw [hex] | skip;refine (hnu _).mono ?_;rintro e w3 ⟨rfl,b3⟩;have B3:=hid b3;clear b3))
        exact bodyPost_ret (v:=.tuple #[.int .i64 z,.bool ok]) (by simp [results,Tryz.results18,go_sem]) rfl ⟨rfl,B3.out⟩
end Go.Proofs.YtfdmdmahddjjmaaGreatDoor
