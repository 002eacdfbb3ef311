/-
  Joined texts: ImY ImZ.
-/
import Derived.Test.YtfdmdmahddjjmaaGreatDoorPkIm1
import Derived.Test.YtfdmdmahddjjmaaGreatDoorPkAd
import Derived.Test.YtfdmdmahddjjmaaGreatDoorPkIm0
import Derived.Test.YtfdmdmahddjjmaaGreatDoorKImX
import Derived.Test.YtfdmdmahddjjmaaGreatDoorPkNd
import Derived.Deep.CutRange
set_option linter.unusedVariables false
set_option linter.unusedSimpArgs false
set_option maxRecDepth 100000
namespace Go.Proofs.YtfdmdmahddjjmaaGreatDoor
open Go.RowKit Own Im
attribute [local go_sem] str_toList str_size
theorem i64_and1 (n:Int):bits .and .i64 n 1 = n % 2:=by
 have h1:(BitVec.ofInt 64 1).toNat = 2 ^ 1 - 1:=by decide
 have key:(BitVec.ofInt 64 n &&& BitVec.ofInt 64 1).toNat = (n % ((2 ^ 64:Nat):Int)).toNat % 2 ^ 1:=by
  rw [BitVec.toNat_and,BitVec.toNat_ofInt,h1,Nat.and_two_pow_sub_one_eq_mod]
 show IntKind.i64.wrap ((BitVec.ofInt 64 n &&& BitVec.ofInt 64 1).toNat:Nat) = n % 2
 rw [key,IntKind.wrap_i64]
 omega
def flagT (n:Int) (i:Nat):List Bt:=((flagNames.zipIdx.take i).filter fun p=>decide (n / 2 ^ p.2 % 2 = 1)).map fun p=>92 :: p.1
theorem flagT_next (n:Int) (i:Nat) (y:Bt) (h:flagNames[i]? = some y):flagT n (i + 1) = if n / 2 ^ i % 2 = 1 then flagT n i ++ [92 :: y] else flagT n i:=by
 have hz:flagNames.zipIdx[i]? = some (y,i):=by rw [List.getElem?_zipIdx,h];simp
 unfold flagT
 rw [List.take_add_one,hz]
 simp only [Option.toList_some,List.filter_append,List.map_append]
 by_cases hb:n / 2 ^ i % 2 = 1
 · rw [if_pos hb];simp [hb]
 · rw [if_neg hb];simp [hb]
theorem flagT_all (n:Int):flagsS n = [40] ++ Lib.join (flagT n 5) [32] ++ [41]:=rfl
theorem flagT_len (n:Int) (i:Nat) (hi:i ≤ 5):(flagT n i).length ≤ 5∧∀ x ∈ flagT n i,x.length ≤ 20:=by
 constructor
 · unfold flagT
   rw [List.length_map]
   refine Nat.le_trans (List.length_filter_le _ _) ?_
   rw [List.length_take]
   omega
 · intro x hx
   unfold flagT at hx
   obtain ⟨p,hp,rfl⟩:=List.mem_map.1 hx
   have hm:=List.mem_of_mem_take (List.mem_filter.1 hp).1
   have:∀ p ∈ flagNames.zipIdx,(92 :: p.1).length ≤ 20:=by decide
   exact this p hm
theorem join_none (A:Option Addr) (c:Nat) (sep:ByteArray) (w:World):Calls Tryz.prog 42 #[.slice A 0 c,.string sep] w fun e w'=>e = .returned (.string (str []))∧w = w':=by
 go_enter Tryz.func42,Tryz.ntmps42
 go_wp2
 go_ret
 exact ⟨rfl,rfl⟩
theorem join_any (A:Option Addr) (n c:Nat) (xs:List (List UInt8)) (w:World) (hn:n = xs.length) (hc:n ≤ c) (hA:A = none→xs = []) (hs:∀ p,A = some p→∃ g,p = ⟨g,0,none⟩∧∀ j x,xs[j]? = some x→w.cell? ⟨g,j,none⟩ = some (.string (str x))) (hl:xs.length ≤ 1000000) (hlen:(Lib.join xs [32]).length ≤ 140737488355328) :
  Calls Tryz.prog 42 #[.slice A n c,.string (str [32])] w fun e w'=>e = .returned (.string (str (Lib.join xs [32])))∧Below w.heap.size w w':=by
 subst hn
 cases A with
 | none =>
  have hx:=hA rfl
  subst hx
  refine (join_none none c (str [32]) w).mono ?_
  rintro e w' ⟨rfl,rfl⟩
  exact ⟨rfl,Below.refl _ _⟩
 | some p =>
  obtain ⟨g,rfl,hcell⟩:=hs p rfl
  by_cases hx:xs = []
  · subst hx
    refine (join_none _ c (str [32]) w).mono ?_
    rintro e w' ⟨rfl,rfl⟩
    exact ⟨rfl,Below.refl _ _⟩
  · have hg:g < w.heap.size:=by
      cases xs with
      | nil=>exact absurd rfl hx
      | cons x r=>exact World.block_lt_of_cell? w ⟨g,0,none⟩ (hcell 0 x rfl)
    have hm:(xs.map str).map (·.data.toList) = xs:=by
     rw [List.map_map]
     conv=>rhs;rw [← List.map_id xs]
     apply List.map_congr_left
     intro x _
     simp [str]
    have hj:=Tryz.strings_Join g 0 c (xs.map str) (str [32]) w (by
     intro j x hxj
     rw [Nat.zero_add]
     rw [List.getElem?_map] at hxj
     cases hq:xs[j]? with
     | none=>rw [hq] at hxj;cases hxj
     | some y =>
      rw [hq] at hxj
      obtain rfl:str y = x:=by simpa using hxj
      exact hcell j y hq) hg (by rw [List.length_map];omega) (by rw [List.length_map];exact hc) (by rw [hm];exact hlen)
    rw [hm,List.length_map] at hj
    exact hj
set_option maxHeartbeats 4000000 in
theorem iflags_any (n:Int) (w:World):Calls Tryz.prog 20 #[.int .i64 n] w fun e w'=>e = .returned (.string (str (flagsS n)))∧Below w.heap.size w w':=by
 have hand:=fun m=>i64_and1 m
 go_enter Tryz.func20,Tryz.ntmps20
 go_wp2_with (first
  | (go_at_call 41;refine (flags_any _).mono ?_;rintro e w1 ⟨g,rfl,g1,g2,g3,b3⟩;have B1:=hid b3;have G3:=hid g3;clear b3 g3))
 go_loopw [3,8] (fun v3 v8 wr=>∃ i:Nat,i ≤ 5∧v8 = .int .i64 i∧SBuf w1.heap.size wr v3 (flagT n i)∧Below w1.heap.size w1 wr) (fun _ v8 _=>5 - (intOf v8).toNat)
 case atStart=>exact ⟨0,by omega,rfl,SBuf.nil (Nat.le_refl _),Below.refl _ _⟩
 case round =>
  obtain ⟨i,hi,rfl,hbuf,hbel⟩:=hrel
  have HB:=hid hbel
  have HBUF:=hid hbuf
  by_cases hil:i < 5
  · obtain ⟨y,hy⟩:∃ y,flagNames[i]? = some y:=⟨_,List.getElem?_eq_getElem (by simpa [flagNames] using hil)⟩
    have hcell:=(hbel.cell g2).trans (G3.out i y hy)
    have hyl:y.length ≤ 20:=by
     have:∀ z ∈ flagNames,z.length ≤ 20:=by decide
     exact this y (List.mem_of_getElem? hy)
    have hnx:=flagT_next n i y hy
    have HN:=hid hnx
    have hlen:=(flagT_len n i hi).1
    have hsh:n.fdiv (2 ^ i) = n / 2 ^ i:=Int.fdiv_eq_ediv_of_nonneg n (Int.pow_nonneg (by decide))
    have hmin:min i 64 = i:=by omega
    have hi0:¬ (i:Int) < 0:=by omega
    clear hbuf hbel hnx hy
    by_cases hb:n / 2 ^ i % 2 = 1
    · have hb2:(n / 2 ^ i % 2 == 1) = true:=by simpa using hb
      go_wp2_with (refine wpList_sbuf w1.heap.size _ (by rfl) _ _ (by rfl) _ (flagT n i) (92 :: y) (by rfl) (HBUF.out.alloc _) _ 1 (by rfl) (slit _ (92 :: y) _ _ _ (by rfl) (by show [Value.string (str [92] ++ str y)] = _;rw [str_append];rfl)) (by omega) ?_;intro v7 w7 hb7 hbel7;have m7:=((Below.refl w1.heap.size wr).alloc HB.out.size _).trans hbel7;have B7:=hid hb7;have M7:=hid m7;clear hb7 hbel7 m7)
      exact ⟨⟨i + 1,by omega,by go_num,by rw [HN.out,if_pos hb];exact B7.out,HB.out.trans M7.out⟩,by simp [intOf];omega⟩
    · have hb2:(n / 2 ^ i % 2 == 1) = false:=by simpa using hb
      go_wp2_with fail
      go_roundw
      case rel=>exact ⟨i + 1,by omega,by go_num,by rw [HN.out,if_neg hb];exact HBUF.out,HB.out⟩
      case measure=>simp [intOf];omega
  · obtain rfl:i = 5:=by omega
    obtain ⟨A,cc,rfl,hcc,hA,hs⟩:=hbuf.full
    obtain ⟨hl1,hl2⟩:=flagT_len n 5 (by decide)
    have hjl:=Ad.join_len [32] 20 (flagT n 5) hl2
    have hjl2:(Lib.join (flagT n 5) [32]).length ≤ 105:=by
     have:(flagT n 5).length * (20 + [(32:UInt8)].length) ≤ 5 * 21:=Nat.mul_le_mul hl1 (by decide)
     omega
    have hs:∀ p,A = some p→∃ g,p = ⟨g,0,none⟩∧∀ (j:Nat) (x:Bt),(flagT n 5)[j]? = some x→wr.cell? ⟨g,j,none⟩ = some (.string (str x)):=fun p hp=>by
     obtain ⟨g,h1,-,h2⟩:=hs p hp
     exact ⟨g,h1,h2⟩
    go_wp2_with (go_at_call 42;refine (join_any A _ cc (flagT n 5) _ rfl hcc hA hs (by omega) (by omega)).mono ?_;rintro e w9 ⟨rfl,b9⟩;have B9:=hid b9;clear b9)
    go_ret
    refine ⟨?_,B1.out.trans ((HB.out.mono B1.out.size).trans (B9.out.mono (Nat.le_trans B1.out.size HB.out.size)))⟩
    rw [flagT_all,← str_append,← str_append]
    rfl
end Go.Proofs.YtfdmdmahddjjmaaGreatDoor
namespace Go.Proofs.YtfdmdmahddjjmaaGreatDoor
open Go.RowKit Own Im
attribute [local go_sem] str_toList str_size
theorem Gd.below {w w':World} (h:Gd w) (hb:Below w.heap.size w w'):Gd w':=⟨h.c.below hb,h.lens.below hb h.lt,Nat.lt_of_lt_of_le h.lt hb.size⟩
theorem form_of {x:Bt} {K:Nat} (hK:formK x = some K) (hf:FormC (fidOf K) (readF K)):∀ k,formK x = some k→FormC (fidOf k) (readF k):=by
 intro k hk
 rw [hK] at hk
 cases hk
 exact hf
theorem form_no {x:Bt} (hK:formK x = none):∀ k,formK x = some k→FormC (fidOf k) (readF k):=by
 intro k hk
 rw [hK] at hk
 cases hk
theorem shownP1:parseS [97,49,32,108,111,103,105,110,32,34,97,32,98,34,32,123,50,125,13,10,120,121] = ({ tag:=[97,49],word:=[76,79,71,73,78],names:=[[97,32,98],[120,121]] },0):=by kernel_rfl
theorem shownP2:parseS [97,32,117,105,100,32,102,101,116,99,104,32,49,58,42,32,40,70,76,65,71,83,32,66,79,68,89,46,80,69,69,75,91,49,46,77,73,77,69,93,60,48,46,57,62,41] = ({ tag:=[97],word:=[70,69,84,67,72],uid:=true,set:=[(1,0)],items:=[{ kind:=1,of:=-1 },{ kind:=7,sec:=[1],what:=3,peek:=true,of:=9 }] },0):=by kernel_rfl
theorem shownP3:parseS [97,32,74,85,77,80] = ({ tag:=[97] },161):=by kernel_rfl
theorem shownP4:parseS [97,32,78,79,79,80,32,120] = ({ tag:=[97] },160):=by kernel_rfl
theorem shownF1:∀ k,formK (headS (List.drop ((tagS [97,49,32,108,111,103,105,110,32,34,97,32,98,34,32,123,50,125,13,10,120,121]).length + 1) [97,49,32,108,111,103,105,110,32,34,97,32,98,34,32,123,50,125,13,10,120,121])).1 = some k→FormC (fidOf k) (readF k):=form_of (K:=3) (by kernel_rfl) login_any
theorem shownF2:∀ k,formK (headS (List.drop ((tagS [97,32,117,105,100,32,102,101,116,99,104,32,49,58,42,32,40,70,76,65,71,83,32,66,79,68,89,46,80,69,69,75,91,49,46,77,73,77,69,93,60,48,46,57,62,41]).length + 1) [97,32,117,105,100,32,102,101,116,99,104,32,49,58,42,32,40,70,76,65,71,83,32,66,79,68,89,46,80,69,69,75,91,49,46,77,73,77,69,93,60,48,46,57,62,41])).1 = some k→FormC (fidOf k) (readF k):=form_of (K:=9) (by kernel_rfl) fetch_any
theorem shownF3:∀ k,formK (headS (List.drop ((tagS [97,32,74,85,77,80]).length + 1) [97,32,74,85,77,80])).1 = some k→FormC (fidOf k) (readF k):=form_no (by kernel_rfl)
theorem shownF4:∀ k,formK (headS (List.drop ((tagS [97,32,78,79,79,80,32,120]).length + 1) [97,32,78,79,79,80,32,120])).1 = some k→FormC (fidOf k) (readF k):=form_of (K:=0) (by kernel_rfl) nothing_any
theorem items_cells {B:Nat} {w:World} {a b:It} {v:Value} (h:vItems B [a,b] v w):∃ A c,v = .slice A 2 c∧2 ≤ c∧∃ g,A = some ⟨g,0,none⟩∧w.cell? ⟨g,8,none⟩ = some (.int .i64 b.what)∧w.cell? ⟨g,11,none⟩ = some (.int .i64 b.of):=by
 obtain ⟨xs,hb,s1,r1,rfl,-,s2,r2,rfl,-,rfl⟩:=h
 obtain ⟨A,c,rfl,hc,hA,hs⟩:=hb.full
 cases A with
 | none=>exact absurd (hA rfl).1 (by simp)
 | some p =>
  obtain ⟨g,rfl,-,hcell⟩:=hs p rfl
  exact ⟨_,c,rfl,hc,g,rfl,hcell 8 _ rfl,hcell 11 _ rfl⟩
theorem names_cells {B:Nat} {w:World} {a b:Bt} {v:Value} (h:SBuf B w v [a,b]):∃ A c,v = .slice A 2 c∧2 ≤ c∧∃ g,A = some ⟨g,0,none⟩∧w.cell? ⟨g,0,none⟩ = some (.string (str a))∧w.cell? ⟨g,1,none⟩ = some (.string (str b)):=by
 obtain ⟨A,c,rfl,hc,hA,hs⟩:=h.full
 cases A with
 | none=>cases hA rfl
 | some p =>
  obtain ⟨g,rfl,-,hcell⟩:=hs p rfl
  exact ⟨_,c,rfl,hc,g,rfl,hcell 0 _ rfl,hcell 1 _ rfl⟩
set_option maxHeartbeats 16000000 in
theorem shown_any (w:World) (hG:Gd w):Calls Tryz.prog 8 #[] w fun e w'=>e = .returned (.bool true)∧Below w.heap.size w w':=by
 have HG:=hid hG
 clear hG
 have n1:needS [97,32,123,51,125] = (3,true):=by kernel_rfl
 have n2:(needS [97,32,123,48,51,125]).2 = false:=by kernel_rfl
 have N1:=hid n1
 have N2:=hid n2
 have hf9:flagsS 9 = [40,92,83,101,101,110,32,92,68,101,108,101,116,101,100,41]:=by kernel_rfl
 have ht9:tagS [40,97,32,78,79,79,80] = []:=by kernel_rfl
 have F9:=hid hf9
 have T9:=hid ht9
 clear n1 n2 hf9 ht9
 have tok0:Tk 0:=⟨⟩
 go_enter Tryz.func8,Tryz.ntmps8
 go_upto_region 7 with (first
  | (go_at_call 15;have t_:Tk 0:=‹Tk 0›;refine (need_any [97,32,123,51,125] _ HG.out.c (by decide)).mono ?_;rw [N1.out];rintro e w1 ⟨rfl,b1⟩;have B1:=hid b1;clear b1 <;> (clear t_ tok0;have tok1:Tk 1:=⟨⟩))
  | (go_at_call 15;have t_:Tk 1:=‹Tk 1›;refine (need_any [97,32,123,48,51,125] _ (HG.out.below B1.out).c (by decide)).mono ?_;rw [N2.out];rintro e w2 ⟨rfl,b2⟩;have B2:=hid (below_then B1.out b2);clear b2 <;> (clear t_ tok1;have tok2:Tk 2:=⟨⟩))
  | (go_at_call 10;have t_:Tk 2:=‹Tk 2›;refine (parse_any [97,49,32,108,111,103,105,110,32,34,97,32,98,34,32,123,50,125,13,10,120,121] _ (HG.out.below B2.out) (by decide) shownF1).mono ?_;intro e wp1 hp;rw [shownP1] at hp;obtain ⟨⟨vs,vn,vi,vk,vl⟩,rfl,hr,hb⟩:=hp;obtain ⟨As1,ks1,hvs,-,-⟩:=hr.set.full;dsimp only at hvs;subst hvs;obtain ⟨An1,kn1,hvn,hkn1,gn1,rfl,cn1a,cn1b⟩:=names_cells hr.names;dsimp only at hvn;subst hvn;have CN1a:=hid cn1a;have CN1b:=hid cn1b;clear cn1a cn1b;obtain ⟨Ai1,ki1,hvi,-,-,-⟩:=hr.items.choose_spec.1.full;dsimp only at hvi;subst hvi;obtain ⟨Ak1,kk1,hvk,-,-,-⟩:=hr.keys.choose_spec.1.full;dsimp only at hvk;subst hvk;obtain ⟨Al1,kl1,hvl,-,-,-⟩:=hr.lit.full;dsimp only at hvl;subst hvl;have Bp1:=hid (below_then B2.out hb);have L1:=hid hb;clear hr hb <;> (clear t_ tok2;have tok3:Tk 3:=⟨⟩))
  | (go_at_call 10;have t_:Tk 3:=‹Tk 3›;refine (parse_any [97,32,117,105,100,32,102,101,116,99,104,32,49,58,42,32,40,70,76,65,71,83,32,66,79,68,89,46,80,69,69,75,91,49,46,77,73,77,69,93,60,48,46,57,62,41] _ (HG.out.below (Bp1.out.alloc Bp1.out.size _)) (by decide) shownF2).mono ?_;intro e wp2 hp;rw [shownP2] at hp;obtain ⟨⟨vs,vn,vi,vk,vl⟩,rfl,hr,hb⟩:=hp;obtain ⟨As2,ks2,hvs,-,-⟩:=hr.set.full;dsimp only at hvs;subst hvs;obtain ⟨An2,kn2,hvn,-,-,-⟩:=hr.names.full;dsimp only at hvn;subst hvn;obtain ⟨Ai2,ki2,hvi,hki2,gi2,rfl,ci2a,ci2b⟩:=items_cells hr.items;dsimp only at hvi;subst hvi;have CI2a:=hid ci2a;have CI2b:=hid ci2b;clear ci2a ci2b;obtain ⟨Ak2,kk2,hvk,-,-,-⟩:=hr.keys.choose_spec.1.full;dsimp only at hvk;subst hvk;obtain ⟨Al2,kl2,hvl,-,-,-⟩:=hr.lit.full;dsimp only at hvl;subst hvl;have Bp2:=hid (below_then (Bp1.out.alloc Bp1.out.size _) hb);have L2:=hid hb;clear hr hb <;> (clear t_ tok3;have tok4:Tk 4:=⟨⟩))
  | (go_at_call 10;have t_:Tk 4:=‹Tk 4›;refine (parse_any [97,32,74,85,77,80] _ (HG.out.below (Bp2.out.alloc Bp2.out.size _)) (by decide) shownF3).mono ?_;intro e wp3 hp;rw [shownP3] at hp;obtain ⟨⟨vs,vn,vi,vk,vl⟩,rfl,hr,hb⟩:=hp;obtain ⟨As3,ks3,hvs,-,-⟩:=hr.set.full;dsimp only at hvs;subst hvs;obtain ⟨An3,kn3,hvn,-,-,-⟩:=hr.names.full;dsimp only at hvn;subst hvn;obtain ⟨Ai3,ki3,hvi,-,-,-⟩:=hr.items.choose_spec.1.full;dsimp only at hvi;subst hvi;obtain ⟨Ak3,kk3,hvk,-,-,-⟩:=hr.keys.choose_spec.1.full;dsimp only at hvk;subst hvk;obtain ⟨Al3,kl3,hvl,-,-,-⟩:=hr.lit.full;dsimp only at hvl;subst hvl;have Bp3:=hid (below_then (Bp2.out.alloc Bp2.out.size _) hb);have L3:=hid hb;clear hr hb <;> (clear t_ tok4;have tok5:Tk 5:=⟨⟩))
  | (go_at_call 10;have t_:Tk 5:=‹Tk 5›;refine (parse_any [97,32,78,79,79,80,32,120] _ (HG.out.below (Bp3.out.alloc Bp3.out.size _)) (by decide) shownF4).mono ?_;intro e wp4 hp;rw [shownP4] at hp;obtain ⟨⟨vs,vn,vi,vk,vl⟩,rfl,hr,hb⟩:=hp;obtain ⟨As4,ks4,hvs,-,-⟩:=hr.set.full;dsimp only at hvs;subst hvs;obtain ⟨An4,kn4,hvn,-,-,-⟩:=hr.names.full;dsimp only at hvn;subst hvn;obtain ⟨Ai4,ki4,hvi,-,-,-⟩:=hr.items.choose_spec.1.full;dsimp only at hvi;subst hvi;obtain ⟨Ak4,kk4,hvk,-,-,-⟩:=hr.keys.choose_spec.1.full;dsimp only at hvk;subst hvk;obtain ⟨Al4,kl4,hvl,-,-,-⟩:=hr.lit.full;dsimp only at hvl;subst hvl;have Bp4:=hid (below_then (Bp3.out.alloc Bp3.out.size _) hb);have L4:=hid hb;clear hr hb <;> (clear t_ tok5;have tok6:Tk 6:=⟨⟩)))
 have k1:CmAt (wp1.alloc (.cells (cmC ({ tag:=[97,49],word:=[76,79,71,73,78],names:=[[97,32,98],[120,121]] }) (⟨.slice As1 0 ks1,.slice (some ⟨gn1,0,none⟩) 2 kn1,.slice Ai1 0 ki1,.slice Ak1 0 kk1,.slice Al1 0 kl1⟩)) 30)) wp1.heap.size ({ tag:=[97,49],word:=[76,79,71,73,78],names:=[[97,32,98],[120,121]] }) (⟨.slice As1 0 ks1,.slice (some ⟨gn1,0,none⟩) 2 kn1,.slice Ai1 0 ki1,.slice Ak1 0 kk1,.slice Al1 0 kl1⟩):=heap_alloc_new _ _
 have k2:CmAt (wp2.alloc (.cells (cmC ({ tag:=[97],word:=[70,69,84,67,72],uid:=true,set:=[(1,0)],items:=[{ kind:=1,of:=-1 },{ kind:=7,sec:=[1],what:=3,peek:=true,of:=9 }] }) (⟨.slice As2 1 ks2,.slice An2 0 kn2,.slice (some ⟨gi2,0,none⟩) 2 ki2,.slice Ak2 0 kk2,.slice Al2 0 kl2⟩)) 30)) wp2.heap.size ({ tag:=[97],word:=[70,69,84,67,72],uid:=true,set:=[(1,0)],items:=[{ kind:=1,of:=-1 },{ kind:=7,sec:=[1],what:=3,peek:=true,of:=9 }] }) (⟨.slice As2 1 ks2,.slice An2 0 kn2,.slice (some ⟨gi2,0,none⟩) 2 ki2,.slice Ak2 0 kk2,.slice Al2 0 kl2⟩):=heap_alloc_new _ _
 have k3:CmAt (wp3.alloc (.cells (cmC ({ tag:=[97] }) (⟨.slice As3 0 ks3,.slice An3 0 kn3,.slice Ai3 0 ki3,.slice Ak3 0 kk3,.slice Al3 0 kl3⟩)) 30)) wp3.heap.size ({ tag:=[97] }) (⟨.slice As3 0 ks3,.slice An3 0 kn3,.slice Ai3 0 ki3,.slice Ak3 0 kk3,.slice Al3 0 kl3⟩):=heap_alloc_new _ _
 have k4:CmAt (wp4.alloc (.cells (cmC ({ tag:=[97] }) (⟨.slice As4 0 ks4,.slice An4 0 kn4,.slice Ai4 0 ki4,.slice Ak4 0 kk4,.slice Al4 0 kl4⟩)) 30)) wp4.heap.size ({ tag:=[97] }) (⟨.slice As4 0 ks4,.slice An4 0 kn4,.slice Ai4 0 ki4,.slice Ak4 0 kk4,.slice Al4 0 kl4⟩):=heap_alloc_new _ _
 have a1:Below wp1.heap.size wp1 (wp1.alloc (.cells (cmC ({ tag:=[97,49],word:=[76,79,71,73,78],names:=[[97,32,98],[120,121]] }) (⟨.slice As1 0 ks1,.slice (some ⟨gn1,0,none⟩) 2 kn1,.slice Ai1 0 ki1,.slice Ak1 0 kk1,.slice Al1 0 kl1⟩)) 30)):=(Below.refl _ _).alloc (Nat.le_refl _) _
 have a2:Below wp2.heap.size wp2 (wp2.alloc (.cells (cmC ({ tag:=[97],word:=[70,69,84,67,72],uid:=true,set:=[(1,0)],items:=[{ kind:=1,of:=-1 },{ kind:=7,sec:=[1],what:=3,peek:=true,of:=9 }] }) (⟨.slice As2 1 ks2,.slice An2 0 kn2,.slice (some ⟨gi2,0,none⟩) 2 ki2,.slice Ak2 0 kk2,.slice Al2 0 kl2⟩)) 30)):=(Below.refl _ _).alloc (Nat.le_refl _) _
 have a3:Below wp3.heap.size wp3 (wp3.alloc (.cells (cmC ({ tag:=[97] }) (⟨.slice As3 0 ks3,.slice An3 0 kn3,.slice Ai3 0 ki3,.slice Ak3 0 kk3,.slice Al3 0 kl3⟩)) 30)):=(Below.refl _ _).alloc (Nat.le_refl _) _
 have a4:Below wp4.heap.size wp4 (wp4.alloc (.cells (cmC ({ tag:=[97] }) (⟨.slice As4 0 ks4,.slice An4 0 kn4,.slice Ai4 0 ki4,.slice Ak4 0 kk4,.slice Al4 0 kl4⟩)) 30)):=(Below.refl _ _).alloc (Nat.le_refl _) _
 have d3:Below wp3.heap.size wp3 _:=below_then a3 (below_then L4.out a4)
 have d2:Below wp2.heap.size wp2 _:=below_then a2 (below_then L3.out d3)
 have d1:Below wp1.heap.size wp1 _:=below_then a1 (below_then L2.out d2)
 have K1:=k1.below (below_then L2.out d2)
 have K2:=k2.below (below_then L3.out d3)
 have K3:=k3.below (below_then L4.out a4)
 have y1:(wp4.alloc (.cells #[.string (str [97]),.string (str []),.bool false,.slice As4 0 ks4,.string (str []),.string (str []),.slice An4 0 kn4,.int .i64 0,.int .i64 0,.bool false,.slice Ai4 0 ki4,.slice Ak4 0 kk4,.int .i64 0,.slice Al4 0 kl4] 30)).cell? ⟨wp1.heap.size,0,none⟩ = some (.string (str [97,49])):=K1.c0
 have y2:(wp4.alloc (.cells #[.string (str [97]),.string (str []),.bool false,.slice As4 0 ks4,.string (str []),.string (str []),.slice An4 0 kn4,.int .i64 0,.int .i64 0,.bool false,.slice Ai4 0 ki4,.slice Ak4 0 kk4,.int .i64 0,.slice Al4 0 kl4] 30)).cell? ⟨wp1.heap.size,1,none⟩ = some (.string (str [76,79,71,73,78])):=K1.c1
 have y3:(wp4.alloc (.cells #[.string (str [97]),.string (str []),.bool false,.slice As4 0 ks4,.string (str []),.string (str []),.slice An4 0 kn4,.int .i64 0,.int .i64 0,.bool false,.slice Ai4 0 ki4,.slice Ak4 0 kk4,.int .i64 0,.slice Al4 0 kl4] 30)).cell? ⟨wp1.heap.size,6,none⟩ = some (.slice (some ⟨gn1,0,none⟩) 2 kn1):=K1.c6
 have y4:(wp4.alloc (.cells #[.string (str [97]),.string (str []),.bool false,.slice As4 0 ks4,.string (str []),.string (str []),.slice An4 0 kn4,.int .i64 0,.int .i64 0,.bool false,.slice Ai4 0 ki4,.slice Ak4 0 kk4,.int .i64 0,.slice Al4 0 kl4] 30)).cell? ⟨gn1,0,none⟩ = some (.string (str [97,32,98])):=keep_below d1 rfl CN1a.out
 have y5:(wp4.alloc (.cells #[.string (str [97]),.string (str []),.bool false,.slice As4 0 ks4,.string (str []),.string (str []),.slice An4 0 kn4,.int .i64 0,.int .i64 0,.bool false,.slice Ai4 0 ki4,.slice Ak4 0 kk4,.int .i64 0,.slice Al4 0 kl4] 30)).cell? ⟨gn1,1,none⟩ = some (.string (str [120,121])):=keep_below d1 rfl CN1b.out
 have y6:(wp4.alloc (.cells #[.string (str [97]),.string (str []),.bool false,.slice As4 0 ks4,.string (str []),.string (str []),.slice An4 0 kn4,.int .i64 0,.int .i64 0,.bool false,.slice Ai4 0 ki4,.slice Ak4 0 kk4,.int .i64 0,.slice Al4 0 kl4] 30)).cell? ⟨wp2.heap.size,2,none⟩ = some (.bool true):=K2.c2
 have y7:(wp4.alloc (.cells #[.string (str [97]),.string (str []),.bool false,.slice As4 0 ks4,.string (str []),.string (str []),.slice An4 0 kn4,.int .i64 0,.int .i64 0,.bool false,.slice Ai4 0 ki4,.slice Ak4 0 kk4,.int .i64 0,.slice Al4 0 kl4] 30)).cell? ⟨wp2.heap.size,1,none⟩ = some (.string (str [70,69,84,67,72])):=K2.c1
 have y8:(wp4.alloc (.cells #[.string (str [97]),.string (str []),.bool false,.slice As4 0 ks4,.string (str []),.string (str []),.slice An4 0 kn4,.int .i64 0,.int .i64 0,.bool false,.slice Ai4 0 ki4,.slice Ak4 0 kk4,.int .i64 0,.slice Al4 0 kl4] 30)).cell? ⟨wp2.heap.size,10,none⟩ = some (.slice (some ⟨gi2,0,none⟩) 2 ki2):=K2.c10
 have y9:(wp4.alloc (.cells #[.string (str [97]),.string (str []),.bool false,.slice As4 0 ks4,.string (str []),.string (str []),.slice An4 0 kn4,.int .i64 0,.int .i64 0,.bool false,.slice Ai4 0 ki4,.slice Ak4 0 kk4,.int .i64 0,.slice Al4 0 kl4] 30)).cell? ⟨gi2,8,none⟩ = some (.int .i64 3):=keep_below d2 rfl CI2a.out
 have y10:(wp4.alloc (.cells #[.string (str [97]),.string (str []),.bool false,.slice As4 0 ks4,.string (str []),.string (str []),.slice An4 0 kn4,.int .i64 0,.int .i64 0,.bool false,.slice Ai4 0 ki4,.slice Ak4 0 kk4,.int .i64 0,.slice Al4 0 kl4] 30)).cell? ⟨gi2,11,none⟩ = some (.int .i64 9):=keep_below d2 rfl CI2b.out
 have y11:(wp4.alloc (.cells #[.string (str [97]),.string (str []),.bool false,.slice As4 0 ks4,.string (str []),.string (str []),.slice An4 0 kn4,.int .i64 0,.int .i64 0,.bool false,.slice Ai4 0 ki4,.slice Ak4 0 kk4,.int .i64 0,.slice Al4 0 kl4] 30)).cell? ⟨wp3.heap.size,0,none⟩ = some (.string (str [97])):=K3.c0
 have y12:(wp4.alloc (.cells #[.string (str [97]),.string (str []),.bool false,.slice As4 0 ks4,.string (str []),.string (str []),.slice An4 0 kn4,.int .i64 0,.int .i64 0,.bool false,.slice Ai4 0 ki4,.slice Ak4 0 kk4,.int .i64 0,.slice Al4 0 kl4] 30)).cell? ⟨wp4.heap.size,0,none⟩ = some (.string (str [97])):=k4.c0
 have BW:=hid (Bp4.out.alloc Bp4.out.size (.cells (cmC ({ tag:=[97] }) (⟨.slice As4 0 ks4,.slice An4 0 kn4,.slice Ai4 0 ki4,.slice Ak4 0 kk4,.slice Al4 0 kl4⟩)) 30))
 clear k1 k2 k3 k4 a1 a2 a3 a4 d1 d2 d3 K1 K2 K3
 go_wp2_with (first
  | (go_at_call 20;refine (iflags_any 9 _).mono ?_;rw [F9.out];rintro e w8 ⟨rfl,b8⟩;have B8:=hid (below_then BW.out b8);clear b8)
  | (go_at_call 9;refine (tag_any [40,97,32,78,79,79,80] _ (HG.out.below B8.out).c.a (by decide)).mono ?_;rw [T9.out];rintro e w9 ⟨rfl,b9⟩;have B9:=hid (below_then B8.out b9);clear b9))
 go_ret
 exact ⟨rfl,B9.out⟩
end Go.Proofs.YtfdmdmahddjjmaaGreatDoor
