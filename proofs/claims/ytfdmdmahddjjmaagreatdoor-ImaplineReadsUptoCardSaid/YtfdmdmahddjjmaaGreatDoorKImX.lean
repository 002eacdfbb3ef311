/-
  Parse of a command: its walk.
-/
import Derived.Test.YtfdmdmahddjjmaaGreatDoorPkU
import Derived.Test.YtfdmdmahddjjmaaGreatDoorKImT
set_option linter.unusedVariables false
set_option linter.unusedSimpArgs false
set_option maxRecDepth 100000
namespace Go.Proofs.YtfdmdmahddjjmaaGreatDoor
open Go.RowKit Own Im
attribute [local go_sem] str_toList str_size
set_option maxHeartbeats 16000000 in
theorem parse_any (s:Bt) (w:World) (hG:Gd w) (hs:s.length ≤ 100000000) (hform:∀ k,formK (headS (s.drop ((tagS s).length + 1))).1 = some k→FormC (fidOf k) (readF k)) :
  Calls Tryz.prog 10 #[.string (str s)] w fun e w'=>ParsePost w (parseS s) e w':=by
 have hmf:∀ (fn:Fn) (first cap:Array Value) (w:World),(Instr.makeFunc fn first cap).run Tryz.prog w = .ok (.func fn first cap) w:=fun _ _ _ _=>rfl
 have hz:=str_size s
 have a0:Below w.heap.size w ((w.alloc (.cells #[.string (str []),.string (str []),.bool false,nilV,.string (str []),.string (str []),nilV,.int .i64 0,.int .i64 0,.bool false,nilV,nilV,.int .i64 0,nilV] 30)).alloc (.cells #[.int .i64 0] 31)):=((Below.refl _ _).alloc (Nat.le_refl _) _).alloc (by simp) _
 have htag:=tag_any s ((w.alloc (.cells #[.string (str []),.string (str []),.bool false,nilV,.string (str []),.string (str []),nilV,.int .i64 0,.int .i64 0,.bool false,nilV,nilV,.int .i64 0,nilV] 30)).alloc (.cells #[.int .i64 0] 31)) (hG.c.below a0).a (by omega)
 have X0:((w.alloc (.cells #[.string (str []),.string (str []),.bool false,nilV,.string (str []),.string (str []),nilV,.int .i64 0,.int .i64 0,.bool false,nilV,nilV,.int .i64 0,nilV] 30)).alloc (.cells #[.int .i64 0] 31)).heap[w.heap.size]? = some (.cells #[.string (str []),.string (str []),.bool false,nilV,.string (str []),.string (str []),nilV,.int .i64 0,.int .i64 0,.bool false,nilV,nilV,.int .i64 0,nilV] 30):=(((Below.refl (w.alloc (.cells #[.string (str []),.string (str []),.bool false,nilV,.string (str []),.string (str []),nilV,.int .i64 0,.int .i64 0,.bool false,nilV,nilV,.int .i64 0,nilV] 30)).heap.size (w.alloc (.cells #[.string (str []),.string (str []),.bool false,nilV,.string (str []),.string (str []),nilV,.int .i64 0,.int .i64 0,.bool false,nilV,nilV,.int .i64 0,nilV] 30))).alloc (Nat.le_refl _) (.cells #[.int .i64 0] 31)).block w.heap.size (by simp)).trans (heap_alloc_new w _)
 have E0:((w.alloc (.cells #[.string (str []),.string (str []),.bool false,nilV,.string (str []),.string (str []),nilV,.int .i64 0,.int .i64 0,.bool false,nilV,nilV,.int .i64 0,nilV] 30)).alloc (.cells #[.int .i64 0] 31)).heap[w.heap.size + 1]? = some (.cells #[.int .i64 0] 31):=two_new w _ _
 have A0:=hid a0
 have HX0:=hid X0
 have HE0:=hid E0
 have HG:=hid hG
 clear a0 X0 E0 hG
 by_cases ht:tagS s = []
 · have hP:parseS s = ({},160):=by unfold parseS;rw [if_pos ht]
   rw [hP]
   rw [ht] at htag
   go_enter_defers Tryz.func10,Tryz.ntmps10
   go_upto_if 12 with ((go_at_call 9;refine htag.mono ?_;rintro e w1 ⟨rfl,b1⟩;have kx:CmAt w1 w.heap.size {} v0:=(b1.block w.heap.size (by simp;omega)).trans HX0.out;have ke:=(b1.block (w.heap.size + 1) (by simp)).trans HE0.out;have B1:=hid (A0.out.trans (b1.mono (by simp;omega)));have KX:=hid kx;have KE:=hid ke;clear b1 kx ke))
   have a2:Below w1.heap.size w1 (w1.alloc (.cells #[.string (str [])] 9)):=(Below.refl _ _).alloc (Nat.le_refl _) _
   have kx:=KX.out.below a2
   have ke:=(a2.block (w.heap.size + 1) (lt_of_block KE.out)).trans KE.out
   have x0:=kx.c0
   have x1:=kx.c1
   have x2:=kx.c2
   have x3:=kx.c3
   have x4:=kx.c4
   have x5:=kx.c5
   have x6:=kx.c6
   have x7:=kx.c7
   have x8:=kx.c8
   have x9:=kx.c9
   have x10:=kx.c10
   have x11:=kx.c11
   have x12:=kx.c12
   have x13:=kx.c13
   have fx:=kx.free
   have e0:=cells_at ke 0
   have fe:=free_at ke 0
   have HK:=hid kx
   have HE:=hid ke
   have B2:=hid (B1.out.trans (a2.mono B1.out.size))
   clear kx ke a2
   go_wp2_with fail
   exact ⟨_,res_at (x:={}) (v:=v0) ((set_far _ (by omega)).trans (fill_at HK.out _ _ _ _ _ _ _ _ _ _ _ _ _ _)) (block_set ((fill_far (by omega) _ _ _ _ _ _ _ _ _ _ _ _ _ _).trans HE.out) _) _ rfl rfl,v0,rfl,CmRows.none (by have:=B2.out.size;simpa [World.setCell] using this) rfl rfl rfl rfl rfl,(fill_below B2.out (Nat.le_refl _) _ _ _ _ _ _ _ _ _ _ _ _ _ _).setCell (p:=⟨w.heap.size + 1,0,none⟩) (by simp) _⟩
 · have hlen:=tagS_len ht
   rw [parse_at ht]
   obtain ⟨tag,htg⟩:∃ tag,tag = tagS s:=⟨_,rfl⟩
   rw [← htg] at ht htag hlen hform ⊢
   obtain ⟨s0,hs0⟩:∃ s0,s0 = s.drop (tag.length + 1):=⟨_,rfl⟩
   have hext:(str s).extract (tag.length + 1) s.length = str s0:=by rw [hs0];exact str_from s _ _ rfl
   have hl0:s0.length ≤ 100000000:=by rw [hs0];simp;omega
   rw [← hs0] at hform ⊢
   obtain ⟨x1,s1,s2,d,hw,hcase,hhd⟩:=head_split s0
   obtain ⟨h1,h2,hhd2,hd1,hd2⟩:∃ h1 h2,headS s0 = (h1,d,h2)∧(d = true→Im.word s2 = (h1,h2))∧(d = false→h1 = x1∧h2 = s2):=by
    cases d with
    | true=>exact ⟨_,_,hhd,fun _=>rfl,fun h=>by cases h⟩
    | false=>exact ⟨_,_,hhd,fun h=>(by cases h),fun _=>⟨rfl,rfl⟩⟩
   rw [hhd2] at hform ⊢
   dsimp only at hform ⊢
   obtain ⟨C,N,hP⟩:∃ C N,tailS tag h1 d h2 = (C,N):=⟨_,_,rfl⟩
   rw [hP]
   have HP:=hid hP
   have hzt:=str_size tag
   have hne1:(tag == []) = false:=by rw [beq_eq_false_iff_ne];exact ht
   have hne2:tag.isEmpty = false:=by rw [Bool.eq_false_iff,Ne,List.isEmpty_iff];exact ht
   clear hP hhd hhd2 hs0 htg ht
   go_enter_defers Tryz.func10,Tryz.ntmps10
   go_upto_region 6 with ((go_at_call 9;refine htag.mono ?_;rintro e w1 ⟨rfl,b1⟩;have kx:CmAt w1 w.heap.size {} v0:=(b1.block w.heap.size (by simp;omega)).trans HX0.out;have ke:=(b1.block (w.heap.size + 1) (by simp)).trans HE0.out;have B1:=hid (A0.out.trans (b1.mono (by simp;omega)));have KX:=hid kx;have KE:=hid ke;clear b1 kx ke))
   have a2:Below w1.heap.size w1 (w1.alloc (.cells #[.string (str tag)] 9)):=(Below.refl _ _).alloc (Nat.le_refl _) _
   have a3:Below w1.heap.size w1 ((w1.alloc (.cells #[.string (str tag)] 9)).alloc (.cells #[.string (str s0)] 54)):=a2.alloc a2.size _
   have hpk:PK w w.heap.size (w.heap.size + 1) w1.heap.size tag ((w1.alloc (.cells #[.string (str tag)] 9)).alloc (.cells #[.string (str s0)] 54)):=⟨KX.out.below a3,(a3.block _ (lt_of_block KE.out)).trans KE.out,(((Below.refl (w1.alloc (.cells #[.string (str tag)] 9)).heap.size (w1.alloc (.cells #[.string (str tag)] 9))).alloc (Nat.le_refl _) (.cells #[.string (str s0)] 54)).block w1.heap.size (by simp)).trans (heap_alloc_new w1 _),B1.out.trans (a3.mono B1.out.size)⟩
   have hrd:RdI ((w1.alloc (.cells #[.string (str tag)] 9)).alloc (.cells #[.string (str s0)] 54)) (w1.heap.size + 1) s0:=by
    have h:=HG.out.rd (W:=w1.alloc (.cells #[.string (str tag)] 9)) (B1.out.trans (a2.mono B1.out.size)) s0 hl0
    rwa [show (w1.alloc (.cells #[.string (str tag)] 9)).heap.size = w1.heap.size + 1 by simp] at h
   have hXT:w.heap.size + 1 < w1.heap.size:=lt_of_block KE.out
   have HK:=hid hpk
   have HRD:=hid hrd
   clear a2 a3 hpk hrd htag HX0 HE0 A0
   have hwd:=fun W hW=>word_any (w1.heap.size + 1) s0 W hW
   rw [hw] at hwd
   go_cut [6] from 22 to 25 (fun v6 wx=>∃ c,v6 = .pointer (some ⟨c,0,none⟩)∧w1.heap.size + 1 < c∧Mid w w.heap.size (w.heap.size + 1) w1.heap.size (w1.heap.size + 1) c tag { tag:=tag,word:=x1 } s1 wx)
   case first =>
    refine wp_region_noPanic ?_
    refine wp_region_held_drew (S:=fun w'=>w'.heap[w1.heap.size]? = some (.cells #[.string (str tag)] 9 (0,0))) (by kernel_rfl) HK.out.t (fun hHeld=>?_)
    refine wpAnyH_take (i:=0) (oi:=_) (v:=?vp6_0) rfl (by kernel_rfl) (by kernel_rfl) (by kernel_rfl) (fun _ _ _ h=>h) (Or.inl ⟨by rfl,?yp6_0⟩) (by assumption) ?rp6_0
    case yp6_0=>(intro w hSw;(try dsimp only at hSw);have c_:=cells_at hSw 0;go_simp;try with_reducible rfl)
    try simp only [sxa,sxb,sxc,Act.put,sxd,sxe,sxf]
    refine wpAnyH_take (i:=1) (oi:=_) (v:=?vp6_1) rfl (by kernel_rfl) (by kernel_rfl) (by kernel_rfl) (fun _ _ _ h=>h) (Or.inl ⟨by rfl,?yp6_1⟩) (by assumption) ?rp6_1
    case yp6_1=>(intro w hSw;(try dsimp only at hSw);go_simp;try with_reducible rfl)
    try simp only [sxa,sxb,sxc,Act.put,sxd,sxe,sxf]
    refine wpAnyH_ready (rs:=[2,4]) (by kernel_rfl) (by simp) ?_
    refine AllReadyH.cons (o:=_) rfl (fun K hK=>?_) (AllReadyH.cons (o:=_) rfl (fun K hK=>?_) AllReadyH.nil)
    · go_simp
      refine (hwd _ HRD.out.drew).mono ?_
      rintro e w6 ⟨rfl,r6,o6⟩
      have O6:=hid o6
      have R6:=hid r6
      have P6:=hid ((HK.out.grow (Below.refl _ _).drew).only o6 (by omega) (by omega) (by omega) (by omega))
      clear r6 o6
      go_wp2_with fail
      refine hK.out _ _ ?hs1 (fun hHeld2=>?_)
      case hs1=>exact (O6.out.block (by omega) (lt_of_block hHeld)).trans hHeld
      clear hK K hHeld
      have hHeld:=hHeld2
      clear hHeld2
      try simp only [sxa,sxb,sxc,Act.put,sxd,sxe,sxf]
      refine wpAnyH_take (i:=3) (oi:=_) (v:=?vt1_3) rfl (by kernel_rfl) (by kernel_rfl) (by kernel_rfl) (fun _ _ _ h=>h) (Or.inl ⟨by rfl,?yt1_3⟩) (by assumption) ?rt1_3
      case yt1_3=>(intro w hSw;(try dsimp only at hSw);go_simp;try with_reducible rfl)
      try simp only [sxa,sxb,sxc,Act.put,sxd,sxe,sxf]
      refine wpAnyH_ready (rs:=[4]) (by kernel_rfl) (by simp) ?_
      refine AllReadyH.cons (o:=_) rfl (fun K hK=>?_) AllReadyH.nil
      go_simp
      refine hK.out _ _ ?hs2 (fun hHeld2=>?_)
      case hs2=>exact (((Below.refl _ _).alloc (Nat.le_refl _) _).block _ (lt_of_block hHeld)).trans hHeld
      clear hK K hHeld
      have hHeld:=hHeld2
      clear hHeld2
      try simp only [sxa,sxb,sxc,Act.put,sxd,sxe,sxf]
      refine wpAnyH_ready (rs:=[5]) (by kernel_rfl) (by simp) ?_
      refine AllReadyH.cons (o:=_) rfl (fun K hK=>?_) AllReadyH.nil
      go_simp
      refine hK.out _ _ ?hs3 (fun hHeld2=>?_)
      case hs3=>exact (((Below.refl _ _).alloc (Nat.le_refl _) _).block _ (lt_of_block P6.out.t)).trans P6.out.t
      clear hK K hHeld
      have hHeld:=hHeld2
      clear hHeld2
      try simp only [sxa,sxb,sxc,Act.put,sxd,sxe,sxf]
      refine wpAnyH_done (by kernel_rfl) ?_ _
      refine NoPanic.normal ?_
      go_wp2_with fail
      go_meet
      case rel=>exact ⟨w6.heap.size,rfl,R6.out.lt,heap_alloc_new w6 _,R6.out.below ((Below.refl _ _).alloc (Nat.le_refl _) _),P6.out.grow ((Below.refl _ _).alloc (Nat.le_refl _) _)⟩
    · go_simp
      refine hK.out _ _ ?hs4 (fun hHeld2=>?_)
      case hs4=>exact (((Below.refl _ _).alloc (Nat.le_refl _) _).block _ (lt_of_block hHeld)).trans hHeld
      clear hK K hHeld
      have hHeld:=hHeld2
      clear hHeld2
      try simp only [sxa,sxb,sxc,Act.put,sxd,sxe,sxf]
      refine wpAnyH_ready (rs:=[2]) (by kernel_rfl) (by simp) ?_
      refine AllReadyH.cons (o:=_) rfl (fun K hK=>?_) AllReadyH.nil
      go_simp
      refine (hwd _ ((HRD.out.drew).below ((Below.refl _ _).alloc (Nat.le_refl _) _))).mono ?_
      rintro e w6 ⟨rfl,r6,o6⟩
      have k6:=(show CmAt (((w1.alloc (.cells #[.string (str tag)] 9)).alloc (.cells #[.string (str s0)] 54)).drew.alloc (.cells #[.string (str []),.string (str []),.bool false,nilV,.string (str []),.string (str []),nilV,.int .i64 0,.int .i64 0,.bool false,nilV,nilV,.int .i64 0,nilV] 30)) ((w1.alloc (.cells #[.string (str tag)] 9)).alloc (.cells #[.string (str s0)] 54)).drew.heap.size {} v0 from heap_alloc_new _ _).only o6 (by simp)
      simp only [show ((w1.alloc (.cells #[.string (str tag)] 9)).alloc (.cells #[.string (str s0)] 54)).drew.heap.size = w1.heap.size + 1 + 1 by simp] at k6
      have z0:=k6.c0
      have z1:=k6.c1
      have z2:=k6.c2
      have z3:=k6.c3
      have z4:=k6.c4
      have z5:=k6.c5
      have z6:=k6.c6
      have z7:=k6.c7
      have z8:=k6.c8
      have z9:=k6.c9
      have z10:=k6.c10
      have z11:=k6.c11
      have z12:=k6.c12
      have z13:=k6.c13
      have f6:=k6.free
      have O6:=hid o6
      have R6:=hid r6
      have K6:=hid k6
      have P6:=hid (((HK.out.grow (Below.refl _ _).drew).grow ((Below.refl _ _).alloc (Nat.le_refl _) (.cells #[.string (str []),.string (str []),.bool false,nilV,.string (str []),.string (str []),nilV,.int .i64 0,.int .i64 0,.bool false,nilV,nilV,.int .i64 0,nilV] 30))).only o6 (by omega) (by omega) (by omega) (by omega))
      clear r6 o6 k6
      go_wp2_with fail
      refine hK.out _ _ ?hs5 (fun hHeld2=>?_)
      case hs5=>exact (O6.out.block (by omega) (lt_of_block hHeld)).trans hHeld
      clear hK K hHeld
      have hHeld:=hHeld2
      clear hHeld2
      try simp only [sxa,sxb,sxc,Act.put,sxd,sxe,sxf]
      refine wpAnyH_take (i:=3) (oi:=_) (v:=?vt5_3) rfl (by kernel_rfl) (by kernel_rfl) (by kernel_rfl) (fun _ _ _ h=>h) (Or.inl ⟨by rfl,?yt5_3⟩) (by assumption) ?rt5_3
      case yt5_3=>(intro w hSw;(try dsimp only at hSw);go_simp;try with_reducible rfl)
      try simp only [sxa,sxb,sxc,Act.put,sxd,sxe,sxf]
      refine wpAnyH_ready (rs:=[5]) (by kernel_rfl) (by simp) ?_
      refine AllReadyH.cons (o:=_) rfl (fun K hK=>?_) AllReadyH.nil
      go_simp
      refine hK.out _ _ ?hs6 (fun hHeld2=>?_)
      case hs6=>exact (fill_far (by omega) _ _ _ _ _ _ _ _ _ _ _ _ _ _).trans P6.out.t
      clear hK K hHeld
      have hHeld:=hHeld2
      clear hHeld2
      try simp only [sxa,sxb,sxc,Act.put,sxd,sxe,sxf]
      refine wpAnyH_done (by kernel_rfl) ?_ _
      refine NoPanic.normal ?_
      go_wp2_with fail
      go_meet
      case rel=>exact ⟨w1.heap.size + 1 + 1,rfl,by omega,fill_at K6.out _ _ _ _ _ _ _ _ _ _ _ _ _ _,R6.out.below' (fill_below (Below.refl _ _) (Nat.le_refl _) _ _ _ _ _ _ _ _ _ _ _ _ _ _) (by omega),P6.out.next (fill_below (Below.refl _ _) (Nat.le_refl _) _ _ _ _ _ _ _ _ _ _ _ _ _ _) (by omega) (by omega) (by omega) (by have:=B1.out.size;omega)⟩
   case rest =>
    obtain ⟨c,rfl,hbc,hmid⟩:=hcut
    have hwb:w.heap.size ≤ w1.heap.size + 1:=by have:=B1.out.size;omega
    have m1:=hmid.c.c1
    have HM:=hid hmid
    clear hmid
    go_upto_region 7 with fail
    go_cut [32] from 26 to 32 (fun v32 wx=>v32 = .bool d∧Mid w w.heap.size (w.heap.size + 1) w1.heap.size (w1.heap.size + 1) c tag { tag:=tag,word:=x1 } s2 wx)
    case first =>
     rcases hcase with ⟨e1,rfl,rfl⟩ | ⟨e1,e2⟩
     · go_wp2_with fail
       go_meet
       case rel=>exact ⟨rfl,HM.out⟩
     · have htk:=fun W hW=>takes_any (w1.heap.size + 1) s1 [32] W hW
       rw [e2] at htk
       go_wp2_with (go_at_call 26;refine (htk _ HM.out.r).mono ?_;rintro e w7 ⟨rfl,r7,o7⟩;have R7:=hid r7;have O7:=hid o7;clear r7 o7)
       go_meet
       case rel=>exact ⟨rfl,HM.out.c.only O7.out (by omega),R7.out,HM.out.k.only O7.out (by omega) (by omega) (by omega) hwb⟩
    case rest =>
     obtain ⟨rfl,hmid⟩:=hcut
     have f2:=hmid.c.free 2
     have m2:=hmid.c.c2
     have HM:=hid hmid
     clear hmid m1
     go_upto_if 32 with fail
     go_cut [] from 33 to 36 (fun wx=>Mid w w.heap.size (w.heap.size + 1) w1.heap.size (w1.heap.size + 1) c tag { tag:=tag,word:=h1,uid:=d } h2 wx)
     case first =>
      cases d with
      | false =>
       obtain ⟨rfl,rfl⟩:=hd2 rfl
       go_wp2_with fail
       go_meet
       case rel=>exact HM.out
      | true =>
       have hw2:=hd1 rfl
       have hwd2:=fun W hW=>word_any (w1.heap.size + 1) s2 W hW
       rw [hw2] at hwd2
       go_wp2_with (go_at_call 25;refine (hwd2 _ (HM.out.r.far hbc _)).mono ?_;rintro e w7 ⟨rfl,r7,o7⟩;have k7:=(HM.out.c.set2 true).only o7 (by omega);have g1:=k7.c1;have g2:=k7.free 1;have R7:=hid r7;have O7:=hid o7;have K7:=hid k7;clear r7 o7 k7)
       go_meet
       case rel=>exact ⟨K7.out.set1 h1,R7.out.far hbc _,(((HM.out.k.next ((Below.refl (w1.heap.size + 1) _).setCell (p:=⟨c,2,none⟩) (Nat.le_of_lt hbc) _) (by omega) (by omega) (by omega) hwb).only O7.out (by omega) (by omega) (by omega) hwb).next ((Below.refl (w1.heap.size + 1) _).setCell (p:=⟨c,1,none⟩) (Nat.le_of_lt hbc) _) (by omega) (by omega) (by omega) hwb)⟩
     case rest =>
      have hmid:=hcut
      have HM:=hid hmid
      clear hcut hmid f2 m2 hwd hw hcase hd1 hd2
      have hcw:c < wc.heap.size:=HM.out.c.lt
      have hlook:=look_forms h1
      cases hq:formK h1 with
      | none =>
       have hlk2:Value.tuple #[(lookL formsV h1).getD (.agg #[.bool false,.nilFunc]),.bool (lookL formsV h1).isSome] = .tuple #[.agg #[.bool false,.nilFunc],.bool false]:=by rw [hlook,hq];rfl
       have hP:=HP.out
       rw [tail_none hq] at hP
       obtain ⟨rfl,rfl⟩:=Prod.mk.inj hP
       clear hlook hP HP
       go_upto_region 10 with fail
       go_cut [7,8] from 37 to 43 (fun v7 v8 wx=>∃ f,v7 = .pointer (some ⟨f,0,none⟩)∧v8 = .bool false∧wx.cell? ⟨f,0,none⟩ = some (.bool false)∧wx.cell? ⟨f,1,none⟩ = some .nilFunc∧Mid w w.heap.size (w.heap.size + 1) w1.heap.size (w1.heap.size + 1) c tag { tag:=tag,word:=h1,uid:=d } h2 wx)
       case first =>
        refine wp_region_noPanic ?_
        refine wp_region_held_drew (S:=(fun w'=>CmAt w' c { tag:=tag,word:=h1,uid:=d } v0)) (by kernel_rfl) HM.out.c.drew (fun hHeld=>?_)
        refine wpAnyH_take (i:=1) (oi:=_) (v:=?vna1) rfl (by kernel_rfl) (by kernel_rfl) (by kernel_rfl) (fun _ _ _ h=>h) (Or.inl ⟨by rfl,?yna1⟩) (by assumption) ?rna1
        case yna1=>(intro w hSw;(try dsimp only at hSw);go_simp;try with_reducible rfl)
        try simp only [sxa,sxb,sxc,Act.put,sxd,sxe,sxf]
        refine wpAnyH_take (i:=2) (oi:=_) (v:=?vna2) rfl (by kernel_rfl) (by kernel_rfl) (by kernel_rfl) (fun _ _ _ h=>h) (Or.inl ⟨by rfl,?yna2⟩) (by assumption) ?rna2
        case yna2=>(intro w hSw;(try dsimp only at hSw);have c_:=hSw.c1;go_simp;try with_reducible rfl)
        try simp only [sxa,sxb,sxc,Act.put,sxd,sxe,sxf]
        refine wpAnyH_ready (rs:=[0,7]) (by kernel_rfl) (by simp) ?_
        refine AllReadyH.cons (o:=_) rfl (fun K hK=>?_) (AllReadyH.cons (o:=_) rfl (fun K hK=>?_) AllReadyH.nil)
        · go_simp
          refine (forms_any _).mono ?_
          rintro e w10 ⟨m,rfl,hmap,b10,hm10⟩
          have B10:=hid b10
          have MP:=hid hmap
          clear b10 hmap
          go_wp2_with fail
          refine hK.out _ _ ?hs101 (fun hHeld2=>?_)
          case hs101=>exact hHeld.below B10.out
          clear hK K hHeld
          have hHeld:=hHeld2
          clear hHeld2
          try simp only [sxa,sxb,sxc,Act.put,sxd,sxe,sxf]
          refine Reg.swap (T:=(fun w'=>CmAt w' c { tag:=tag,word:=h1,uid:=d } v0∧MapAt w' m formsV)) (fun w h=>h.1) _ _ _ _ ?_
          have hHeld:(fun w'=>CmAt w' c { tag:=tag,word:=h1,uid:=d } v0∧MapAt w' m formsV) _:=⟨hHeld,MP.out⟩
          have HW:=hid hHeld
          refine wpAnyH_take (i:=3) (oi:=_) (v:=?vt101_3) rfl (by kernel_rfl) (by kernel_rfl) (by kernel_rfl) (fun _ _ _ h=>h) (Or.inl ⟨by rfl,?yt101_3⟩) (by assumption) ?rt101_3
          case yt101_3=>(intro w hSw;(try dsimp only at hSw);have hlk:=run_look_ok Tryz.underlying60 Tryz.underlying9 hSw.2 h1 (zero_form w);rw [hlk2] at hlk;go_simp;try with_reducible rfl)
          try simp only [sxa,sxb,sxc,Act.put,sxd,sxe,sxf]
          refine wpAnyH_take (i:=4) (oi:=_) (v:=?vt101_4) rfl (by kernel_rfl) (by kernel_rfl) (by kernel_rfl) (fun _ _ _ h=>h) (Or.inl ⟨by rfl,?yt101_4⟩) (by assumption) ?rt101_4
          case yt101_4=>(intro w hSw;(try dsimp only at hSw);go_simp;try with_reducible rfl)
          try simp only [sxa,sxb,sxc,Act.put,sxd,sxe,sxf]
          refine wpAnyH_take (i:=5) (oi:=_) (v:=?vt101_5) rfl (by kernel_rfl) (by kernel_rfl) (by kernel_rfl) (fun _ _ _ h=>h) (Or.inl ⟨by rfl,?yt101_5⟩) (by assumption) ?rt101_5
          case yt101_5=>(intro w hSw;(try dsimp only at hSw);go_simp;try with_reducible rfl)
          try simp only [sxa,sxb,sxc,Act.put,sxd,sxe,sxf]
          refine wpAnyH_take (i:=6) (oi:=_) (v:=?vt101_6) rfl (by kernel_rfl) (by kernel_rfl) (by kernel_rfl) (fun _ _ _ h=>h) (Or.inl ⟨by rfl,?yt101_6⟩) (by assumption) ?rt101_6
          case yt101_6=>(intro w hSw;(try dsimp only at hSw);go_simp;try with_reducible rfl)
          try simp only [sxa,sxb,sxc,Act.put,sxd,sxe,sxf]
          refine wpAnyH_ready (rs:=[7]) (by kernel_rfl) (by simp) ?_
          refine AllReadyH.cons (o:=_) rfl (fun K hK=>?_) AllReadyH.nil
          go_simp
          refine hK.out _ _ ?hs102 (fun hHeld2=>?_)
          case hs102=>exact ⟨hHeld.1.below ((Below.refl _ _).alloc (Nat.le_refl _) _),hHeld.2.below ((Below.refl _ _).alloc (Nat.le_refl _) _)⟩
          clear hK K hHeld
          have hHeld:=hHeld2
          clear hHeld2
          try simp only [sxa,sxb,sxc,Act.put,sxd,sxe,sxf]
          refine wpAnyH_ready (rs:=[8]) (by kernel_rfl) (by simp) ?_
          refine AllReadyH.cons (o:=_) rfl (fun K hK=>?_) AllReadyH.nil
          go_simp
          refine hK.out _ _ ?hs103 (fun hHeld2=>?_)
          case hs103=>exact ⟨HW.out.1.below ((Below.refl _ _).alloc (Nat.le_refl _) _),HW.out.2.below ((Below.refl _ _).alloc (Nat.le_refl _) _)⟩
          clear hK K hHeld
          have hHeld:=hHeld2
          clear hHeld2
          try simp only [sxa,sxb,sxc,Act.put,sxd,sxe,sxf]
          refine wpAnyH_take (i:=9) (oi:=_) (v:=?vt103_9) rfl (by kernel_rfl) (by kernel_rfl) (by kernel_rfl) (fun _ _ _ h=>h) (Or.inl ⟨by rfl,?yt103_9⟩) (by assumption) ?rt103_9
          case yt103_9=>(intro w hSw;(try dsimp only at hSw);go_simp;try with_reducible rfl)
          try simp only [sxa,sxb,sxc,Act.put,sxd,sxe,sxf]
          refine wpAnyH_done (by kernel_rfl) ?_ _
          refine NoPanic.normal ?_
          go_wp2_with fail
          go_meet
          case rel=>exact ⟨w10.heap.size,rfl,rfl,by rw [cells_at (heap_alloc_new w10 _)];rfl,by rw [cells_at (heap_alloc_new w10 _)];rfl,(HM.out.c.drew.below B10.out).below ((Below.refl _ _).alloc (Nat.le_refl _) _),(HM.out.r.drew.below B10.out).below ((Below.refl _ _).alloc (Nat.le_refl _) _),((HM.out.k.grow (Below.refl _ _).drew).grow B10.out).grow ((Below.refl _ _).alloc (Nat.le_refl _) _)⟩
        · go_simp
          refine hK.out _ _ ?hs104 (fun hHeld2=>?_)
          case hs104=>exact hHeld.below ((Below.refl _ _).alloc (Nat.le_refl _) _)
          clear hK K hHeld
          have hHeld:=hHeld2
          clear hHeld2
          try simp only [sxa,sxb,sxc,Act.put,sxd,sxe,sxf]
          refine wpAnyH_ready (rs:=[0]) (by kernel_rfl) (by simp) ?_
          refine AllReadyH.cons (o:=_) rfl (fun K hK=>?_) AllReadyH.nil
          go_simp
          refine (forms_any _).mono ?_
          rintro e w10 ⟨m,rfl,hmap,b10,hm10⟩
          have B10:=hid b10
          have MP:=hid hmap
          have blk:w10.heap[wc.heap.size]? = some (.cells #[.bool false,.nilFunc] 58 (0,0)):=(b10.block wc.heap.size (by simp)).trans (heap_alloc_new wc.drew _)
          have cA:=cells_at blk 0
          have cB:=cells_at blk 1
          have fA:=free_at blk 0
          have fB:=free_at blk 1
          have cA:w10.cell? ⟨wc.heap.size,0,none⟩ = some (.bool false):=cA
          have cB:w10.cell? ⟨wc.heap.size,1,none⟩ = some .nilFunc:=cB
          have hm8:m ≠ wc.heap.size:=by have:wc.heap.size + 1 ≤ m:=(by simpa using hm10);omega
          clear b10 hmap
          go_wp2_with fail
          refine hK.out _ _ ?hs105 (fun hHeld2=>?_)
          case hs105=>exact hHeld.below B10.out
          clear hK K hHeld
          have hHeld:=hHeld2
          clear hHeld2
          try simp only [sxa,sxb,sxc,Act.put,sxd,sxe,sxf]
          refine Reg.swap (T:=(fun w'=>CmAt w' c { tag:=tag,word:=h1,uid:=d } v0∧MapAt w' m formsV)) (fun w h=>h.1) _ _ _ _ ?_
          have hHeld:(fun w'=>CmAt w' c { tag:=tag,word:=h1,uid:=d } v0∧MapAt w' m formsV) _:=⟨hHeld,MP.out⟩
          have HW:=hid hHeld
          refine wpAnyH_take (i:=3) (oi:=_) (v:=?vt105_3) rfl (by kernel_rfl) (by kernel_rfl) (by kernel_rfl) (fun _ _ _ h=>h) (Or.inl ⟨by rfl,?yt105_3⟩) (by assumption) ?rt105_3
          case yt105_3=>(intro w hSw;(try dsimp only at hSw);have hlk:=run_look_ok Tryz.underlying60 Tryz.underlying9 hSw.2 h1 (zero_form w);rw [hlk2] at hlk;go_simp;try with_reducible rfl)
          try simp only [sxa,sxb,sxc,Act.put,sxd,sxe,sxf]
          refine wpAnyH_take (i:=4) (oi:=_) (v:=?vt105_4) rfl (by kernel_rfl) (by kernel_rfl) (by kernel_rfl) (fun _ _ _ h=>h) (Or.inl ⟨by rfl,?yt105_4⟩) (by assumption) ?rt105_4
          case yt105_4=>(intro w hSw;(try dsimp only at hSw);go_simp;try with_reducible rfl)
          try simp only [sxa,sxb,sxc,Act.put,sxd,sxe,sxf]
          refine wpAnyH_take (i:=5) (oi:=_) (v:=?vt105_5) rfl (by kernel_rfl) (by kernel_rfl) (by kernel_rfl) (fun _ _ _ h=>h) (Or.inl ⟨by rfl,?yt105_5⟩) (by assumption) ?rt105_5
          case yt105_5=>(intro w hSw;(try dsimp only at hSw);go_simp;try with_reducible rfl)
          try simp only [sxa,sxb,sxc,Act.put,sxd,sxe,sxf]
          refine wpAnyH_take (i:=6) (oi:=_) (v:=?vt105_6) rfl (by kernel_rfl) (by kernel_rfl) (by kernel_rfl) (fun _ _ _ h=>h) (Or.inl ⟨by rfl,?yt105_6⟩) (by assumption) ?rt105_6
          case yt105_6=>(intro w hSw;(try dsimp only at hSw);go_simp;try with_reducible rfl)
          try simp only [sxa,sxb,sxc,Act.put,sxd,sxe,sxf]
          refine wpAnyH_ready (rs:=[8]) (by kernel_rfl) (by simp) ?_
          refine AllReadyH.cons (o:=_) rfl (fun K hK=>?_) AllReadyH.nil
          go_simp
          refine hK.out _ _ ?hs106 (fun hHeld2=>?_)
          case hs106=>exact ⟨(hHeld.1.far (by omega) _).far (by omega) _,(hHeld.2.far hm8 _).far hm8 _⟩
          clear hK K hHeld
          have hHeld:=hHeld2
          clear hHeld2
          try simp only [sxa,sxb,sxc,Act.put,sxd,sxe,sxf]
          refine wpAnyH_take (i:=9) (oi:=_) (v:=?vt106_9) rfl (by kernel_rfl) (by kernel_rfl) (by kernel_rfl) (fun _ _ _ h=>h) (Or.inl ⟨by rfl,?yt106_9⟩) (by assumption) ?rt106_9
          case yt106_9=>(intro w hSw;(try dsimp only at hSw);go_simp;try with_reducible rfl)
          try simp only [sxa,sxb,sxc,Act.put,sxd,sxe,sxf]
          refine wpAnyH_done (by kernel_rfl) ?_ _
          refine NoPanic.normal ?_
          go_wp2_with fail
          go_meet
          case rel=>exact ⟨wc.heap.size,rfl,rfl,by rw [cells_at (block_set (block_set blk _) _)];rfl,by rw [cells_at (block_set (block_set blk _) _)];rfl,hHeld.1,(((HM.out.r.drew.below ((Below.refl _ _).alloc (Nat.le_refl _) _)).below B10.out).far HM.out.r.lt _).far HM.out.r.lt _,((((HM.out.k.grow (Below.refl _ _).drew).grow ((Below.refl _ _).alloc (Nat.le_refl _) _)).grow B10.out).next ((Below.refl wc.heap.size _).setCell (p:=⟨wc.heap.size,0,none⟩) (Nat.le_refl _) _) HM.out.k.x.lt (lt_of_block HM.out.k.e) (lt_of_block HM.out.k.t) HM.out.k.low.size).next ((Below.refl wc.heap.size _).setCell (p:=⟨wc.heap.size,1,none⟩) (Nat.le_refl _) _) HM.out.k.x.lt (lt_of_block HM.out.k.e) (lt_of_block HM.out.k.t) HM.out.k.low.size⟩
       case rest =>
        obtain ⟨f,rfl,rfl,k0,k1,hmid⟩:=hcut
        have mt:=cells_at hmid.k.t 0
        have xx0:=hmid.k.x.c0
        have xx1:=hmid.k.x.c1
        have xx2:=hmid.k.x.c2
        have xx3:=hmid.k.x.c3
        have xx4:=hmid.k.x.c4
        have xx5:=hmid.k.x.c5
        have xx6:=hmid.k.x.c6
        have xx7:=hmid.k.x.c7
        have xx8:=hmid.k.x.c8
        have xx9:=hmid.k.x.c9
        have xx10:=hmid.k.x.c10
        have xx11:=hmid.k.x.c11
        have xx12:=hmid.k.x.c12
        have xx13:=hmid.k.x.c13
        have fx:=hmid.k.x.free
        have e0:=cells_at hmid.k.e 0
        have fe:=free_at hmid.k.e 0
        have HK2:=hid hmid.k
        clear hmid
        go_wp2_with fail
        exact leaves_word HK2.out (Nat.le_refl _) (by omega) (by omega) _ rfl rfl
      | some k =>
       have hen:=enters_fid k (formK_le hq)
       obtain ⟨fid,hfid⟩:∃ fid,fid = fidOf k:=⟨_,rfl⟩
       have hrd:=hform k hq
       rw [← hfid] at hrd hen
       obtain ⟨U,hU⟩:∃ U,U = uidF k:=⟨_,rfl⟩
       have hlk2:Value.tuple #[(lookL formsV h1).getD (.agg #[.bool false,.nilFunc]),.bool (lookL formsV h1).isSome] = .tuple #[.agg #[.bool U,.func (.func fid) #[] #[]],.bool true]:=by rw [hlook,hq,hfid,hU];rfl
       have HU:=hid hU
       clear hlook hform hfid hU
       go_upto_region 10 with fail
       go_cut [7,8] from 37 to 43 (fun v7 v8 wx=>∃ f,v7 = .pointer (some ⟨f,0,none⟩)∧v8 = .bool true∧wx.cell? ⟨f,0,none⟩ = some (.bool U)∧wx.cell? ⟨f,1,none⟩ = some (.func (.func fid) #[] #[])∧Mid w w.heap.size (w.heap.size + 1) w1.heap.size (w1.heap.size + 1) c tag { tag:=tag,word:=h1,uid:=d } h2 wx)
       case first =>
        refine wp_region_noPanic ?_
        refine wp_region_held_drew (S:=(fun w'=>CmAt w' c { tag:=tag,word:=h1,uid:=d } v0)) (by kernel_rfl) HM.out.c.drew (fun hHeld=>?_)
        refine wpAnyH_take (i:=1) (oi:=_) (v:=?vsa1) rfl (by kernel_rfl) (by kernel_rfl) (by kernel_rfl) (fun _ _ _ h=>h) (Or.inl ⟨by rfl,?ysa1⟩) (by assumption) ?rsa1
        case ysa1=>(intro w hSw;(try dsimp only at hSw);go_simp;try with_reducible rfl)
        try simp only [sxa,sxb,sxc,Act.put,sxd,sxe,sxf]
        refine wpAnyH_take (i:=2) (oi:=_) (v:=?vsa2) rfl (by kernel_rfl) (by kernel_rfl) (by kernel_rfl) (fun _ _ _ h=>h) (Or.inl ⟨by rfl,?ysa2⟩) (by assumption) ?rsa2
        case ysa2=>(intro w hSw;(try dsimp only at hSw);have c_:=hSw.c1;go_simp;try with_reducible rfl)
        try simp only [sxa,sxb,sxc,Act.put,sxd,sxe,sxf]
        refine wpAnyH_ready (rs:=[0,7]) (by kernel_rfl) (by simp) ?_
        refine AllReadyH.cons (o:=_) rfl (fun K hK=>?_) (AllReadyH.cons (o:=_) rfl (fun K hK=>?_) AllReadyH.nil)
        · go_simp
          refine (forms_any _).mono ?_
          rintro e w10 ⟨m,rfl,hmap,b10,hm10⟩
          have B10:=hid b10
          have MP:=hid hmap
          clear b10 hmap
          go_wp2_with fail
          refine hK.out _ _ ?hs201 (fun hHeld2=>?_)
          case hs201=>exact hHeld.below B10.out
          clear hK K hHeld
          have hHeld:=hHeld2
          clear hHeld2
          try simp only [sxa,sxb,sxc,Act.put,sxd,sxe,sxf]
          refine Reg.swap (T:=(fun w'=>CmAt w' c { tag:=tag,word:=h1,uid:=d } v0∧MapAt w' m formsV)) (fun w h=>h.1) _ _ _ _ ?_
          have hHeld:(fun w'=>CmAt w' c { tag:=tag,word:=h1,uid:=d } v0∧MapAt w' m formsV) _:=⟨hHeld,MP.out⟩
          have HW:=hid hHeld
          refine wpAnyH_take (i:=3) (oi:=_) (v:=?vt201_3) rfl (by kernel_rfl) (by kernel_rfl) (by kernel_rfl) (fun _ _ _ h=>h) (Or.inl ⟨by rfl,?yt201_3⟩) (by assumption) ?rt201_3
          case yt201_3=>(intro w hSw;(try dsimp only at hSw);have hlk:=run_look_ok Tryz.underlying60 Tryz.underlying9 hSw.2 h1 (zero_form w);rw [hlk2] at hlk;go_simp;try with_reducible rfl)
          try simp only [sxa,sxb,sxc,Act.put,sxd,sxe,sxf]
          refine wpAnyH_take (i:=4) (oi:=_) (v:=?vt201_4) rfl (by kernel_rfl) (by kernel_rfl) (by kernel_rfl) (fun _ _ _ h=>h) (Or.inl ⟨by rfl,?yt201_4⟩) (by assumption) ?rt201_4
          case yt201_4=>(intro w hSw;(try dsimp only at hSw);go_simp;try with_reducible rfl)
          try simp only [sxa,sxb,sxc,Act.put,sxd,sxe,sxf]
          refine wpAnyH_take (i:=5) (oi:=_) (v:=?vt201_5) rfl (by kernel_rfl) (by kernel_rfl) (by kernel_rfl) (fun _ _ _ h=>h) (Or.inl ⟨by rfl,?yt201_5⟩) (by assumption) ?rt201_5
          case yt201_5=>(intro w hSw;(try dsimp only at hSw);go_simp;try with_reducible rfl)
          try simp only [sxa,sxb,sxc,Act.put,sxd,sxe,sxf]
          refine wpAnyH_take (i:=6) (oi:=_) (v:=?vt201_6) rfl (by kernel_rfl) (by kernel_rfl) (by kernel_rfl) (fun _ _ _ h=>h) (Or.inl ⟨by rfl,?yt201_6⟩) (by assumption) ?rt201_6
          case yt201_6=>(intro w hSw;(try dsimp only at hSw);go_simp;try with_reducible rfl)
          try simp only [sxa,sxb,sxc,Act.put,sxd,sxe,sxf]
          refine wpAnyH_ready (rs:=[7]) (by kernel_rfl) (by simp) ?_
          refine AllReadyH.cons (o:=_) rfl (fun K hK=>?_) AllReadyH.nil
          go_simp
          refine hK.out _ _ ?hs202 (fun hHeld2=>?_)
          case hs202=>exact ⟨hHeld.1.below ((Below.refl _ _).alloc (Nat.le_refl _) _),hHeld.2.below ((Below.refl _ _).alloc (Nat.le_refl _) _)⟩
          clear hK K hHeld
          have hHeld:=hHeld2
          clear hHeld2
          try simp only [sxa,sxb,sxc,Act.put,sxd,sxe,sxf]
          refine wpAnyH_ready (rs:=[8]) (by kernel_rfl) (by simp) ?_
          refine AllReadyH.cons (o:=_) rfl (fun K hK=>?_) AllReadyH.nil
          go_simp
          refine hK.out _ _ ?hs203 (fun hHeld2=>?_)
          case hs203=>exact ⟨HW.out.1.below ((Below.refl _ _).alloc (Nat.le_refl _) _),HW.out.2.below ((Below.refl _ _).alloc (Nat.le_refl _) _)⟩
          clear hK K hHeld
          have hHeld:=hHeld2
          clear hHeld2
          try simp only [sxa,sxb,sxc,Act.put,sxd,sxe,sxf]
          refine wpAnyH_take (i:=9) (oi:=_) (v:=?vt203_9) rfl (by kernel_rfl) (by kernel_rfl) (by kernel_rfl) (fun _ _ _ h=>h) (Or.inl ⟨by rfl,?yt203_9⟩) (by assumption) ?rt203_9
          case yt203_9=>(intro w hSw;(try dsimp only at hSw);go_simp;try with_reducible rfl)
          try simp only [sxa,sxb,sxc,Act.put,sxd,sxe,sxf]
          refine wpAnyH_done (by kernel_rfl) ?_ _
          refine NoPanic.normal ?_
          go_wp2_with fail
          go_meet
          case rel=>exact ⟨w10.heap.size,rfl,rfl,by rw [cells_at (heap_alloc_new w10 _)];rfl,by rw [cells_at (heap_alloc_new w10 _)];rfl,(HM.out.c.drew.below B10.out).below ((Below.refl _ _).alloc (Nat.le_refl _) _),(HM.out.r.drew.below B10.out).below ((Below.refl _ _).alloc (Nat.le_refl _) _),((HM.out.k.grow (Below.refl _ _).drew).grow B10.out).grow ((Below.refl _ _).alloc (Nat.le_refl _) _)⟩
        · go_simp
          refine hK.out _ _ ?hs204 (fun hHeld2=>?_)
          case hs204=>exact hHeld.below ((Below.refl _ _).alloc (Nat.le_refl _) _)
          clear hK K hHeld
          have hHeld:=hHeld2
          clear hHeld2
          try simp only [sxa,sxb,sxc,Act.put,sxd,sxe,sxf]
          refine wpAnyH_ready (rs:=[0]) (by kernel_rfl) (by simp) ?_
          refine AllReadyH.cons (o:=_) rfl (fun K hK=>?_) AllReadyH.nil
          go_simp
          refine (forms_any _).mono ?_
          rintro e w10 ⟨m,rfl,hmap,b10,hm10⟩
          have B10:=hid b10
          have MP:=hid hmap
          have blk:w10.heap[wc.heap.size]? = some (.cells #[.bool false,.nilFunc] 58 (0,0)):=(b10.block wc.heap.size (by simp)).trans (heap_alloc_new wc.drew _)
          have cA:=cells_at blk 0
          have cB:=cells_at blk 1
          have fA:=free_at blk 0
          have fB:=free_at blk 1
          have cA:w10.cell? ⟨wc.heap.size,0,none⟩ = some (.bool false):=cA
          have cB:w10.cell? ⟨wc.heap.size,1,none⟩ = some .nilFunc:=cB
          have hm8:m ≠ wc.heap.size:=by have:wc.heap.size + 1 ≤ m:=(by simpa using hm10);omega
          clear b10 hmap
          go_wp2_with fail
          refine hK.out _ _ ?hs205 (fun hHeld2=>?_)
          case hs205=>exact hHeld.below B10.out
          clear hK K hHeld
          have hHeld:=hHeld2
          clear hHeld2
          try simp only [sxa,sxb,sxc,Act.put,sxd,sxe,sxf]
          refine Reg.swap (T:=(fun w'=>CmAt w' c { tag:=tag,word:=h1,uid:=d } v0∧MapAt w' m formsV)) (fun w h=>h.1) _ _ _ _ ?_
          have hHeld:(fun w'=>CmAt w' c { tag:=tag,word:=h1,uid:=d } v0∧MapAt w' m formsV) _:=⟨hHeld,MP.out⟩
          have HW:=hid hHeld
          refine wpAnyH_take (i:=3) (oi:=_) (v:=?vt205_3) rfl (by kernel_rfl) (by kernel_rfl) (by kernel_rfl) (fun _ _ _ h=>h) (Or.inl ⟨by rfl,?yt205_3⟩) (by assumption) ?rt205_3
          case yt205_3=>(intro w hSw;(try dsimp only at hSw);have hlk:=run_look_ok Tryz.underlying60 Tryz.underlying9 hSw.2 h1 (zero_form w);rw [hlk2] at hlk;go_simp;try with_reducible rfl)
          try simp only [sxa,sxb,sxc,Act.put,sxd,sxe,sxf]
          refine wpAnyH_take (i:=4) (oi:=_) (v:=?vt205_4) rfl (by kernel_rfl) (by kernel_rfl) (by kernel_rfl) (fun _ _ _ h=>h) (Or.inl ⟨by rfl,?yt205_4⟩) (by assumption) ?rt205_4
          case yt205_4=>(intro w hSw;(try dsimp only at hSw);go_simp;try with_reducible rfl)
          try simp only [sxa,sxb,sxc,Act.put,sxd,sxe,sxf]
          refine wpAnyH_take (i:=5) (oi:=_) (v:=?vt205_5) rfl (by kernel_rfl) (by kernel_rfl) (by kernel_rfl) (fun _ _ _ h=>h) (Or.inl ⟨by rfl,?yt205_5⟩) (by assumption) ?rt205_5
          case yt205_5=>(intro w hSw;(try dsimp only at hSw);go_simp;try with_reducible rfl)
          try simp only [sxa,sxb,sxc,Act.put,sxd,sxe,sxf]
          refine wpAnyH_take (i:=6) (oi:=_) (v:=?vt205_6) rfl (by kernel_rfl) (by kernel_rfl) (by kernel_rfl) (fun _ _ _ h=>h) (Or.inl ⟨by rfl,?yt205_6⟩) (by assumption) ?rt205_6
          case yt205_6=>(intro w hSw;(try dsimp only at hSw);go_simp;try with_reducible rfl)
          try simp only [sxa,sxb,sxc,Act.put,sxd,sxe,sxf]
          refine wpAnyH_ready (rs:=[8]) (by kernel_rfl) (by simp) ?_
          refine AllReadyH.cons (o:=_) rfl (fun K hK=>?_) AllReadyH.nil
          go_simp
          refine hK.out _ _ ?hs206 (fun hHeld2=>?_)
          case hs206=>exact ⟨(hHeld.1.far (by omega) _).far (by omega) _,(hHeld.2.far hm8 _).far hm8 _⟩
          clear hK K hHeld
          have hHeld:=hHeld2
          clear hHeld2
          try simp only [sxa,sxb,sxc,Act.put,sxd,sxe,sxf]
          refine wpAnyH_take (i:=9) (oi:=_) (v:=?vt206_9) rfl (by kernel_rfl) (by kernel_rfl) (by kernel_rfl) (fun _ _ _ h=>h) (Or.inl ⟨by rfl,?yt206_9⟩) (by assumption) ?rt206_9
          case yt206_9=>(intro w hSw;(try dsimp only at hSw);go_simp;try with_reducible rfl)
          try simp only [sxa,sxb,sxc,Act.put,sxd,sxe,sxf]
          refine wpAnyH_done (by kernel_rfl) ?_ _
          refine NoPanic.normal ?_
          go_wp2_with fail
          go_meet
          case rel=>exact ⟨wc.heap.size,rfl,rfl,by rw [cells_at (block_set (block_set blk _) _)];rfl,by rw [cells_at (block_set (block_set blk _) _)];rfl,hHeld.1,(((HM.out.r.drew.below ((Below.refl _ _).alloc (Nat.le_refl _) _)).below B10.out).far HM.out.r.lt _).far HM.out.r.lt _,((((HM.out.k.grow (Below.refl _ _).drew).grow ((Below.refl _ _).alloc (Nat.le_refl _) _)).grow B10.out).next ((Below.refl wc.heap.size _).setCell (p:=⟨wc.heap.size,0,none⟩) (Nat.le_refl _) _) HM.out.k.x.lt (lt_of_block HM.out.k.e) (lt_of_block HM.out.k.t) HM.out.k.low.size).next ((Below.refl wc.heap.size _).setCell (p:=⟨wc.heap.size,1,none⟩) (Nat.le_refl _) _) HM.out.k.x.lt (lt_of_block HM.out.k.e) (lt_of_block HM.out.k.t) HM.out.k.low.size⟩
       case rest =>
        obtain ⟨f,rfl,rfl,k0,k1,hmid⟩:=hcut
        have mt:=cells_at hmid.k.t 0
        have m2:=hmid.c.c2
        by_cases hu:d = true∧U = false
        · have hP:=HP.out
          rw [tail_uid hq (by rw [← HU.out];exact hu)] at hP
          obtain ⟨rfl,rfl⟩:=Prod.mk.inj hP
          obtain ⟨rfl,rfl⟩:=hu
          have xx0:=hmid.k.x.c0
          have xx1:=hmid.k.x.c1
          have xx2:=hmid.k.x.c2
          have xx3:=hmid.k.x.c3
          have xx4:=hmid.k.x.c4
          have xx5:=hmid.k.x.c5
          have xx6:=hmid.k.x.c6
          have xx7:=hmid.k.x.c7
          have xx8:=hmid.k.x.c8
          have xx9:=hmid.k.x.c9
          have xx10:=hmid.k.x.c10
          have xx11:=hmid.k.x.c11
          have xx12:=hmid.k.x.c12
          have xx13:=hmid.k.x.c13
          have fx:=hmid.k.x.free
          have e0:=cells_at hmid.k.e 0
          have fe:=free_at hmid.k.e 0
          have HK2:=hid hmid.k
          clear hmid hP HP hrd hlk2
          go_wp2_with fail
          exact leaves_word HK2.out (Nat.le_refl _) (by omega) (by omega) _ rfl rfl
        · have hu2:¬ (d = true∧uidF k = false):=by rw [← HU.out];exact hu
          have HU2:NotUid d k:=hu2
          have hkb:=HM.out.c.lt
          have hcl:=hmid.c.lt
          have HM2:=hid hmid
          have hrd2:=hrd (w1.heap.size + 1) c wc.heap.size h2 { tag:=tag,word:=h1,uid:=d } v0 wc hmid.r hmid.c (CmRows.none (Nat.le_refl _) rfl rfl rfl rfl rfl) hbc hcl (Nat.le_refl _) rfl ⟨rfl,rfl⟩
          have hways:(d = false∧U = false)∨(d = false∧U = true)∨(d = true∧U = true):=by
           cases d
           · cases U
             · exact .inl ⟨rfl,rfl⟩
             · exact .inr (.inl ⟨rfl,rfl⟩)
           · cases U
             · exact absurd ⟨rfl,rfl⟩ hu
             · exact .inr (.inr ⟨rfl,rfl⟩)
          clear hmid hrd hlk2 HM hkb hu hu2
          rcases hways with ⟨rfl,rfl⟩ | ⟨rfl,rfl⟩ | ⟨rfl,rfl⟩
          all_goals
           go_wp2_with (first | (refine hrd2.mono ?_;intro e w11 h11;rcases h11.cases with ⟨q11,rfl,o11⟩ | ⟨x11,t11,v11,q11,rfl,r11,c11,s11,o11⟩ <;> (first | (obtain ⟨vs,vn,vi,vk,vl⟩:=v11;obtain ⟨A1,n1,hv1,-,-⟩:=s11.set.full;dsimp only at hv1;subst hv1;obtain ⟨A2,n2,hv2,-,-,-⟩:=s11.names.full;dsimp only at hv2;subst hv2;obtain ⟨A3,n3,hv3,-,-,-⟩:=s11.items.choose_spec.1.full;dsimp only at hv3;subst hv3;obtain ⟨A4,n4,hv4,-,-,-⟩:=s11.keys.choose_spec.1.full;dsimp only at hv4;subst hv4;obtain ⟨A5,n5,hv5,-,-,-⟩:=s11.lit.full;dsimp only at hv5;subst hv5;have p11:=HM2.out.k.next o11.low (by omega) (by omega) (by omega) hwb;have r0:=r11.c;have g0:=c11.c0;have g1:=c11.c1;have g2:=c11.c2;have g3:=c11.c3;have g4:=c11.c4;have g5:=c11.c5;have g6:=c11.c6;have g7:=c11.c7;have g8:=c11.c8;have g9:=c11.c9;have g10:=c11.c10;have g11:=c11.c11;have g12:=c11.c12;have g13:=c11.c13;have xx0:=p11.x.c0;have xx1:=p11.x.c1;have xx2:=p11.x.c2;have xx3:=p11.x.c3;have xx4:=p11.x.c4;have xx5:=p11.x.c5;have xx6:=p11.x.c6;have xx7:=p11.x.c7;have xx8:=p11.x.c8;have xx9:=p11.x.c9;have xx10:=p11.x.c10;have xx11:=p11.x.c11;have xx12:=p11.x.c12;have xx13:=p11.x.c13;have fx:=p11.x.free;have e0:=cells_at p11.e 0;have fe:=free_at p11.e 0;have P11:=hid p11;have C11:=hid c11;have S11:=hid s11;have Q11:=hid q11;clear q11 r11 c11 s11 o11 h11 p11;rcases t11 with _ | ⟨c0,t11⟩) | (have p11:=HM2.out.k.next o11.low (by omega) (by omega) (by omega) hwb;have P11:=hid p11;have Q11:=hid q11;clear q11 o11 h11 p11))) | (go_at_call 28;first | (refine (must_t _).mono ?_;rintro e w12 ⟨rfl,he⟩;obtain rfl:=he.symm) | (refine (must_f _).mono ?_;rintro e w12 ⟨rfl,he⟩;obtain rfl:=he.symm)))
           · have hP:=HP.out
             rw [tail_thrown hq HU2 Q11.out] at hP
             obtain ⟨rfl,rfl⟩:=Prod.mk.inj hP
             exact leaves_thr P11.out (Nat.le_refl _) (by omega) (by omega) _ rfl rfl
           · have hP:=HP.out
             rw [tail_ok hq HU2 Q11.out] at hP
             obtain ⟨rfl,rfl⟩:=Prod.mk.inj hP
             exact leaves_ok (x:=x11) (v:=⟨.slice A1 x11.set.length n1,.slice A2 x11.names.length n2,.slice A3 x11.items.length n3,.slice A4 x11.keys.length n4,.slice A5 x11.lit.length n5⟩) P11.out (Nat.le_refl _) (by omega) (by omega) (by omega) (by omega) S11.out _ rfl rfl
           · have hP:=HP.out
             rw [tail_more hq HU2 Q11.out (by simp)] at hP
             obtain ⟨rfl,rfl⟩:=Prod.mk.inj hP
             exact leaves_thr P11.out (Nat.le_refl _) (by omega) (by omega) _ rfl rfl
end Go.Proofs.YtfdmdmahddjjmaaGreatDoor
