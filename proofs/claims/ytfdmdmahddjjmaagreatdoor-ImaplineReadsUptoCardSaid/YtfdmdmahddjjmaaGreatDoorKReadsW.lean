/-
  ImaplineReads: the walk.
-/
import Derived.Test.YtfdmdmahddjjmaaGreatDoorKRfV
import Derived.Test.YtfdmdmahddjjmaaGreatDoorPkNd
import Derived.Test.YtfdmdmahddjjmaaGreatDoorPkRx
import Derived.Test.YtfdmdmahddjjmaaGreatDoorKRfJ
import Derived.Test.YtfdmdmahddjjmaaGreatDoorPkZ
set_option linter.unusedVariables false
set_option linter.unusedSimpArgs false
set_option maxRecDepth 100000
namespace Go.Proofs.YtfdmdmahddjjmaaGreatDoor
open Go.RowKit Own Im
attribute [local go_sem] str_toList str_size
set_option maxHeartbeats 16000000 in
theorem reads_walk (s:List UInt8) (w:World) (hG:Gd w) (hs:s.length ≤ 1048576) :
  Calls Tryz.prog 5 #[.string (str s)] w fun e w'=>e = .returned (.bool true)∧Below w.heap.size w w':=by
 have HG:=hid hG
 clear hG
 obtain ⟨x,N,hP⟩:∃ x N,parseS s = (x,N):=⟨_,_,rfl⟩
 obtain ⟨m,is,hN⟩:∃ m is,needS s = (m,is):=⟨_,_,rfl⟩
 obtain ⟨tg,hT⟩:∃ tg,tagS s = tg:=⟨_,rfl⟩
 have hne:=fun W hW=>need_any s W hW (by omega)
 have hrn:=fun W=>rneed_any s W (by omega)
 have htg:=fun W hW=>tag_any s W hW (by omega)
 have hrt:=fun W=>rtag_any s W (by omega)
 rw [hN] at hne hrn
 rw [hT] at htg hrt
 dsimp only at hne hrn
 have HP:=hid hP
 clear hP hN hT
 have f0:(N == N) = true:=by simp
 have f1:(m == m) = true:=by simp
 have f2:(is == is) = true:=by simp
 have f3:(tg == tg) = true:=by simp
 go_enter Tryz.func5,Tryz.ntmps5
 go_wp2_with (first
  | (go_at_call 8;refine (shown_any w HG.out).mono ?_;rintro e w1 ⟨rfl,c1⟩;have b3:=hid c1;clear c1)
  | (go_at_call 10;refine (parse_every s _ (HG.out.below b3.out) (by omega)).mono ?_;intro e w4 hp;rw [HP.out] at hp;obtain ⟨⟨vs1,vn1,vi1,vk1,vl1⟩,rfl,hr1,hb⟩:=hp;dsimp only at hr1;obtain ⟨As1,ks1,hvs1,-,-⟩:=hr1.set.full;dsimp only at hvs1;subst hvs1;obtain ⟨An1,kn1,hvn1,-,-,-⟩:=hr1.names.full;dsimp only at hvn1;subst hvn1;obtain ⟨Ai1,ki1,hvi1,-,-,-⟩:=hr1.items.choose_spec.1.full;dsimp only at hvi1;subst hvi1;obtain ⟨Ay1,ky1,hvy1,-,-,-⟩:=hr1.keys.choose_spec.1.full;dsimp only at hvy1;subst hvy1;obtain ⟨Al1,kl1,hvl1,-,-⟩:=hr1.lit.full;dsimp only at hvl1;subst hvl1;have a5:=(Below.refl w4.heap.size w4).alloc (Nat.le_refl _) (.cells #[.string (str x.tag),.string (str x.word),.bool x.uid,.slice As1 x.set.length ks1,.string (str x.box),.string (str x.dest),.slice An1 x.names.length kn1,.int .i64 x.flags,.int .i64 x.mode,.bool x.silent,.slice Ai1 x.items.length ki1,.slice Ay1 x.keys.length ky1,.int .i64 x.date,.slice Al1 x.lit.length kl1] 30);have RW1:=hid (hr1.stays (Below.stays a5));have K1:Hid (CmAt (w4.alloc (.cells #[.string (str x.tag),.string (str x.word),.bool x.uid,.slice As1 x.set.length ks1,.string (str x.box),.string (str x.dest),.slice An1 x.names.length kn1,.int .i64 x.flags,.int .i64 x.mode,.bool x.silent,.slice Ai1 x.items.length ki1,.slice Ay1 x.keys.length ky1,.int .i64 x.date,.slice Al1 x.lit.length kl1] 30)) w4.heap.size x ⟨.slice As1 x.set.length ks1,.slice An1 x.names.length kn1,.slice Ai1 x.items.length ki1,.slice Ay1 x.keys.length ky1,.slice Al1 x.lit.length kl1⟩):=hid (heap_alloc_new w4 _);have b5:=hid (below_then (below_then b3.out hb) a5);clear hr1 hb a5;dsimp only [cmC])
  | (go_at_call 16;refine (rparse_any s _ (HG.out.below b5.out) (by omega)).mono ?_;intro e w7 hp;rw [HP.out] at hp;obtain ⟨⟨vs2,vn2,vi2,vk2,vl2⟩,rfl,hr2,hb⟩:=hp;dsimp only at hr2;obtain ⟨As2,ks2,hvs2,-,-⟩:=hr2.set.full;dsimp only at hvs2;subst hvs2;obtain ⟨An2,kn2,hvn2,-,-,-⟩:=hr2.names.full;dsimp only at hvn2;subst hvn2;obtain ⟨Ai2,ki2,hvi2,-,-,-⟩:=hr2.items.choose_spec.1.full;dsimp only at hvi2;subst hvi2;obtain ⟨Ay2,ky2,hvy2,-,-,-⟩:=hr2.keys.choose_spec.1.full;dsimp only at hvy2;subst hvy2;obtain ⟨Al2,kl2,hvl2,-,-⟩:=hr2.lit.full;dsimp only at hvl2;subst hvl2;have a8:=(Below.refl w7.heap.size w7).alloc (Nat.le_refl _) (.cells #[.string (str x.tag),.string (str x.word),.bool x.uid,.slice As2 x.set.length ks2,.string (str x.box),.string (str x.dest),.slice An2 x.names.length kn2,.int .i64 x.flags,.int .i64 x.mode,.bool x.silent,.slice Ai2 x.items.length ki2,.slice Ay2 x.keys.length ky2,.int .i64 x.date,.slice Al2 x.lit.length kl2] 30);have RW8:=hid ((RW1.out.stays (Below.stays hb)).stays (Below.stays a8));have RW9:=hid (hr2.stays (Below.stays a8));have k8:=(K1.out.below hb).below a8;have k9:CmAt (w7.alloc (.cells #[.string (str x.tag),.string (str x.word),.bool x.uid,.slice As2 x.set.length ks2,.string (str x.box),.string (str x.dest),.slice An2 x.names.length kn2,.int .i64 x.flags,.int .i64 x.mode,.bool x.silent,.slice Ai2 x.items.length ki2,.slice Ay2 x.keys.length ky2,.int .i64 x.date,.slice Al2 x.lit.length kl2] 30)) w7.heap.size x ⟨.slice As2 x.set.length ks2,.slice An2 x.names.length kn2,.slice Ai2 x.items.length ki2,.slice Ay2 x.keys.length ky2,.slice Al2 x.lit.length kl2⟩:=heap_alloc_new w7 _;have c0:=k8.c0;have d0:=k9.c0;have c1:=k8.c1;have d1:=k9.c1;have c2:=k8.c2;have d2:=k9.c2;have c3:=k8.c3;have d3:=k9.c3;have c4:=k8.c4;have d4:=k9.c4;have c5:=k8.c5;have d5:=k9.c5;have c6:=k8.c6;have d6:=k9.c6;have c7:=k8.c7;have d7:=k9.c7;have c8:=k8.c8;have d8:=k9.c8;have c9:=k8.c9;have d9:=k9.c9;have c10:=k8.c10;have d10:=k9.c10;have c11:=k8.c11;have d11:=k9.c11;have c12:=k8.c12;have d12:=k9.c12;have c13:=k8.c13;have d13:=k9.c13;have b8:=hid (below_then (below_then b5.out hb) a8);clear hr2 hb a8 k8 k9;dsimp only [cmC])
  | (go_at_call 17;refine (rsame_any x ⟨.slice As1 x.set.length ks1,.slice An1 x.names.length kn1,.slice Ai1 x.items.length ki1,.slice Ay1 x.keys.length ky1,.slice Al1 x.lit.length kl1⟩ ⟨.slice As2 x.set.length ks2,.slice An2 x.names.length kn2,.slice Ai2 x.items.length ki2,.slice Ay2 x.keys.length ky2,.slice Al2 x.lit.length kl2⟩ _ RW8.out RW9.out).mono ?_;rintro e w10 ⟨rfl,c10⟩;have b10:=hid (below_then b8.out c10);clear c10)
  | (go_at_call 15;refine (hne _ (HG.out.below b10.out).c).mono ?_;rintro e w11 ⟨rfl,c11⟩;have b11:=hid (below_then b10.out c11);clear c11)
  | (go_at_call 18;refine (hrn _).mono ?_;rintro e w12 ⟨rfl,c12⟩;have b12:=hid (below_then b11.out c12);clear c12)
  | (go_at_call 9;refine (htg _ (HG.out.below b12.out).c.a).mono ?_;rintro e w13 ⟨rfl,c13⟩;have b13:=hid (below_then b12.out c13);clear c13)
  | (go_at_call 19;refine (hrt _).mono ?_;rintro e w14 ⟨rfl,rfl⟩))
 go_ret
 exact ⟨rfl,b13.out⟩
end Go.Proofs.YtfdmdmahddjjmaaGreatDoor
