/-
  Joined texts: ImS ImU ImW.
-/
import Derived.Test.YtfdmdmahddjjmaaGreatDoorPkIm0
import Derived.Test.YtfdmdmahddjjmaaGreatDoorPkAd
import Derived.Test.YtfdmdmahddjjmaaGreatDoorPkIm3
import Derived.Defers
import Derived.Recover
import Derived.Tactics2
import Derived.Test.YtfdmdmahddjjmaaGreatDoorPkIm2
import Derived.Test.YtfdmdmahddjjmaaGreatDoorPkOwn
import Derived.Deep.RegionHeld3
import Derived.Deep.CutRange
set_option linter.unusedVariables false
set_option linter.unusedSimpArgs false
set_option maxRecDepth 100000
namespace Go.Proofs.YtfdmdmahddjjmaaGreatDoor
open Go.RowKit Own Im
attribute [local go_sem] str_toList str_size
theorem GoodC.a {w:World} (h:GoodC w):GoodA w:=⟨h.max⟩
theorem below_q (w:World) (q:Nat):Below w.heap.size w (w.drewN q):=⟨rfl,rfl,rfl,Nat.le_refl _,fun _ _=>rfl⟩
theorem cutsp_any (s:List UInt8) (w:World) (hG:GoodA w) (hs:s.length ≤ 2147483648):Calls Tryz.prog 22 #[.string (str s),.string { data:=#[32] }] w fun e w'=>e = .returned (.tuple #[.string (str (Lib.cut s [32]).1),.string (str (Lib.cut s [32]).2.1),.bool (Lib.cut s [32]).2.2])∧Below w.heap.size w w':=by
 refine (cut_exact 32 s w hG hs).mono ?_
 rintro e w' ⟨rfl,q,rfl⟩
 exact ⟨rfl,below_q w q⟩
def tagB (c:UInt8):Bool:=atomB c && !decide (c = 43)
theorem cut_le (s:Bt):(Lib.cut s [32]).1.length ≤ s.length:=by
 rcases Spl.first 32 s with hn | ⟨x,y,rfl,hx⟩
 · rw [Spl.cut_none hn];exact Nat.le_refl _
 · rw [Spl.cut_at _ hx];simp
set_option maxHeartbeats 2000000 in
theorem tag_any (s:Bt) (w:World) (hG:GoodA w) (hs:s.length ≤ 2147483648) :
  Calls Tryz.prog 9 #[.string (str s)] w fun e w'=>e = .returned (.string (str (tagS s)))∧Below w.heap.size w w':=by
 have hcut:=cutsp_any s w hG hs
 have hl:=cut_le s
 have e0:tagS s = if (Lib.cut s [32]).2.2 = false∨(Lib.cut s [32]).1 = [] then [] else if (Lib.cut s [32]).1.all tagB then (Lib.cut s [32]).1 else []:=rfl
 rw [e0]
 clear e0
 obtain ⟨T,rest,ok,hq⟩:∃ T rest ok,Lib.cut s [32] = (T,rest,ok):=⟨_,_,_,rfl⟩
 rw [hq] at hcut hl ⊢
 dsimp only at hcut hl ⊢
 clear hq
 have hsz:=str_size T
 cases ok with
 | false =>
  rw [if_pos (.inl rfl)]
  go_enter Tryz.func9,Tryz.ntmps9
  go_wp2_with (first
   | (go_at_call 22;refine hcut.mono ?_;rintro e w1 ⟨rfl,b1⟩;have B1:=hid b1;clear b1))
  go_ret
  exact ⟨rfl,B1.out⟩
 | true =>
  by_cases hT0:T = []
  · subst hT0
    rw [if_pos (.inr rfl)]
    go_enter Tryz.func9,Tryz.ntmps9
    go_wp2_with (first
     | (go_at_call 22;refine hcut.mono ?_;rintro e w1 ⟨rfl,b1⟩;have B1:=hid b1;clear b1))
    go_ret
    exact ⟨rfl,B1.out⟩
  · rw [if_neg (by rintro (h | h);cases h;exact hT0 h)]
    have hne1:(T == []) = false:=by rw [beq_eq_false_iff_ne];exact hT0
    have hne2:T.isEmpty = false:=by rw [Bool.eq_false_iff,Ne,List.isEmpty_iff];exact hT0
    obtain ⟨R,hR⟩:∃ R,R = if T.all tagB = true then T else []:=⟨_,rfl⟩
    rw [← hR]
    have HR:=hid hR
    clear hR
    go_enter Tryz.func9,Tryz.ntmps9
    go_wp2_with (first
     | (go_at_call 22;refine hcut.mono ?_;rintro e w1 ⟨rfl,b1⟩;have B1:=hid b1;clear b1))
    go_loopw [6,21] (fun v6 v21 wr=>∃ i:Nat,i ≤ T.length∧v21 = .int .i64 i∧(∀ (j:Nat) (c:UInt8),j < i→T[j]? = some c→tagB c = true)∧Below w.heap.size w wr) (fun _ v21 _=>T.length - (intOf v21).toNat)
    case atStart=>exact ⟨0,Nat.zero_le _,rfl,fun j c h=>absurd h (Nat.not_lt_zero _),B1.out⟩
    case round =>
     obtain ⟨i,hi,rfl,hno,hbel⟩:=hrel
     have HB:=hid hbel
     have HN:=hid hno
     clear hno hbel
     by_cases hil:i < T.length
     · obtain ⟨c,hc⟩:∃ c,T[i]? = some c:=⟨_,List.getElem?_eq_getElem hil⟩
       have hix:=str_ix hc
       have hat:=fun W=>atomc_any c W
       have h43:((c.toNat:Int) == 43) = decide (c = 43):=byte_eq c 43 (by decide)
       have htb:tagB c = (atomB c && !decide (c = 43)):=rfl
       have HC:=hid hc
       obtain ⟨D,hD⟩:∃ D,D = atomB c:=⟨_,rfl⟩
       obtain ⟨E,hE⟩:∃ E,E = decide (c = 43):=⟨_,rfl⟩
       rw [← hD,← hE] at htb
       rw [← hD] at hat
       rw [← hE] at h43
       have HT:=hid htb
       clear hD hE hc htb
       have hbad:T.all tagB = false∨tagB c = true:=by
        cases h:tagB c with
        | true=>exact .inr rfl
        | false =>
         left
         rw [Bool.eq_false_iff,Ne,List.all_eq_true]
         intro hall
         rw [hall c (List.mem_of_getElem? HC.out)] at h
         cases h
       have HBAD:=hid hbad
       clear hbad
       cases D <;> cases E
       all_goals
        go_wp2_with (go_at_call 23;refine (hat _).mono ?_;rintro e w2 ⟨rfl,rfl⟩)
       all_goals first
        | (go_ret
           refine ⟨?_,HB.out⟩
           have:T.all tagB = false:=HBAD.out.resolve_right (by rw [HT.out];simp)
           rw [HR.out,this]
           rfl)
        | (go_roundw
           case rel =>
            refine ⟨i + 1,by omega,by go_num,?_,HB.out⟩
            intro j z hj hz
            rcases Nat.lt_succ_iff_lt_or_eq.1 hj with h | rfl
            · exact HN.out j z h hz
            · have:=hz.symm.trans HC.out
              cases this
              rw [HT.out];rfl
           case measure=>simp [intOf];omega)
     · obtain rfl:i = T.length:=by omega
       go_wp2_with fail
       go_ret
       refine ⟨?_,HB.out⟩
       have:T.all tagB = true:=by
        rw [List.all_eq_true]
        intro z hz
        obtain ⟨j,hj,rfl⟩:=List.getElem_of_mem hz
        exact HN.out j _ hj (List.getElem?_eq_getElem hj)
       rw [HR.out,this]
       rfl
end Go.Proofs.YtfdmdmahddjjmaaGreatDoor
namespace Go.Proofs.YtfdmdmahddjjmaaGreatDoor
open Go.RowKit Own Im
attribute [local go_sem] str_toList str_size
abbrev nilV:Value:=.slice none 0 0
abbrev v0:CmV:=⟨nilV,nilV,nilV,nilV,nilV⟩
structure PK (w:World) (X E T:Nat) (tag:Bt) (wx:World):Prop where
 x:CmAt wx X {} v0
 e:wx.heap[E]? = some (.cells #[.int .i64 0] 31 (0,0))
 t:wx.heap[T]? = some (.cells #[.string (str tag)] 9 (0,0))
 low:Below w.heap.size w wx
theorem PK.next {w wx wy:World} {X E T b:Nat} {tag:Bt} (h:PK w X E T tag wx) (hb:Below b wx wy) (h1:X < b) (h2:E < b) (h3:T < b) (h4:w.heap.size ≤ b):PK w X E T tag wy :=
 ⟨(hb.block X h1).trans h.x,(hb.block E h2).trans h.e,(hb.block T h3).trans h.t,h.low.trans (hb.mono h4)⟩
theorem PK.grow {w wx wy:World} {X E T:Nat} {tag:Bt} (h:PK w X E T tag wx) (hb:Below wx.heap.size wx wy):PK w X E T tag wy :=
 h.next hb h.x.lt (lt_of_block h.e) (lt_of_block h.t) h.low.size
def ParsePost (w:World) (q:Cm × Int) (e:Ending) (w':World):Prop :=
 ∃ v,e = .returned (.tuple #[.agg (cmC q.1 v),.int .i64 q.2])∧CmRows w.heap.size w' q.1 v∧Below w.heap.size w w'
theorem CmRows.none {B:Nat} {w:World} {x:Cm} (h:B ≤ w.heap.size) (h1:x.set = []) (h2:x.names = []) (h3:x.items = []) (h4:x.keys = []) (h5:x.lit = []):CmRows B w x v0 :=
 ⟨by rw [h1];exact Sq.RBuf.nil h,by rw [h2];exact SBuf.nil h,by rw [h3];exact vItems.nil h,by rw [h4];exact vKeys.nil h,by rw [h5];exact LBuf.nil h⟩
abbrev fill (w:World) (c:Nat) (a0 a1 a2 a3 a4 a5 a6 a7 a8 a9 a10 a11 a12 a13:Value):World:=((((((((((((((w.setCell ⟨c,0,none⟩ a0).setCell ⟨c,1,none⟩ a1).setCell ⟨c,2,none⟩ a2).setCell ⟨c,3,none⟩ a3).setCell ⟨c,4,none⟩ a4).setCell ⟨c,5,none⟩ a5).setCell ⟨c,6,none⟩ a6).setCell ⟨c,7,none⟩ a7).setCell ⟨c,8,none⟩ a8).setCell ⟨c,9,none⟩ a9).setCell ⟨c,10,none⟩ a10).setCell ⟨c,11,none⟩ a11).setCell ⟨c,12,none⟩ a12).setCell ⟨c,13,none⟩ a13)
theorem fill_at {w:World} {c:Nat} {x:Cm} {v:CmV} (h:CmAt w c x v) (a0 a1 a2 a3 a4 a5 a6 a7 a8 a9 a10 a11 a12 a13:Value):(fill w c a0 a1 a2 a3 a4 a5 a6 a7 a8 a9 a10 a11 a12 a13).heap[c]? = some (.cells #[a0,a1,a2,a3,a4,a5,a6,a7,a8,a9,a10,a11,a12,a13] 30 (0,0)):=by
 have h0:(w.setCell ⟨c,0,none⟩ a0).heap[c]? = some (.cells #[a0,(.string (str x.word)),(.bool x.uid),v.set,(.string (str x.box)),(.string (str x.dest)),v.names,(.int .i64 x.flags),(.int .i64 x.mode),(.bool x.silent),v.items,v.keys,(.int .i64 x.date),v.lit] 30 (0,0)):=block_set h a0
 have h1:((w.setCell ⟨c,0,none⟩ a0).setCell ⟨c,1,none⟩ a1).heap[c]? = some (.cells #[a0,a1,(.bool x.uid),v.set,(.string (str x.box)),(.string (str x.dest)),v.names,(.int .i64 x.flags),(.int .i64 x.mode),(.bool x.silent),v.items,v.keys,(.int .i64 x.date),v.lit] 30 (0,0)):=block_set h0 a1
 have h2:(((w.setCell ⟨c,0,none⟩ a0).setCell ⟨c,1,none⟩ a1).setCell ⟨c,2,none⟩ a2).heap[c]? = some (.cells #[a0,a1,a2,v.set,(.string (str x.box)),(.string (str x.dest)),v.names,(.int .i64 x.flags),(.int .i64 x.mode),(.bool x.silent),v.items,v.keys,(.int .i64 x.date),v.lit] 30 (0,0)):=block_set h1 a2
 have h3:((((w.setCell ⟨c,0,none⟩ a0).setCell ⟨c,1,none⟩ a1).setCell ⟨c,2,none⟩ a2).setCell ⟨c,3,none⟩ a3).heap[c]? = some (.cells #[a0,a1,a2,a3,(.string (str x.box)),(.string (str x.dest)),v.names,(.int .i64 x.flags),(.int .i64 x.mode),(.bool x.silent),v.items,v.keys,(.int .i64 x.date),v.lit] 30 (0,0)):=block_set h2 a3
 have h4:(((((w.setCell ⟨c,0,none⟩ a0).setCell ⟨c,1,none⟩ a1).setCell ⟨c,2,none⟩ a2).setCell ⟨c,3,none⟩ a3).setCell ⟨c,4,none⟩ a4).heap[c]? = some (.cells #[a0,a1,a2,a3,a4,(.string (str x.dest)),v.names,(.int .i64 x.flags),(.int .i64 x.mode),(.bool x.silent),v.items,v.keys,(.int .i64 x.date),v.lit] 30 (0,0)):=block_set h3 a4
 have h5:((((((w.setCell ⟨c,0,none⟩ a0).setCell ⟨c,1,none⟩ a1).setCell ⟨c,2,none⟩ a2).setCell ⟨c,3,none⟩ a3).setCell ⟨c,4,none⟩ a4).setCell ⟨c,5,none⟩ a5).heap[c]? = some (.cells #[a0,a1,a2,a3,a4,a5,v.names,(.int .i64 x.flags),(.int .i64 x.mode),(.bool x.silent),v.items,v.keys,(.int .i64 x.date),v.lit] 30 (0,0)):=block_set h4 a5
 have h6:(((((((w.setCell ⟨c,0,none⟩ a0).setCell ⟨c,1,none⟩ a1).setCell ⟨c,2,none⟩ a2).setCell ⟨c,3,none⟩ a3).setCell ⟨c,4,none⟩ a4).setCell ⟨c,5,none⟩ a5).setCell ⟨c,6,none⟩ a6).heap[c]? = some (.cells #[a0,a1,a2,a3,a4,a5,a6,(.int .i64 x.flags),(.int .i64 x.mode),(.bool x.silent),v.items,v.keys,(.int .i64 x.date),v.lit] 30 (0,0)):=block_set h5 a6
 have h7:((((((((w.setCell ⟨c,0,none⟩ a0).setCell ⟨c,1,none⟩ a1).setCell ⟨c,2,none⟩ a2).setCell ⟨c,3,none⟩ a3).setCell ⟨c,4,none⟩ a4).setCell ⟨c,5,none⟩ a5).setCell ⟨c,6,none⟩ a6).setCell ⟨c,7,none⟩ a7).heap[c]? = some (.cells #[a0,a1,a2,a3,a4,a5,a6,a7,(.int .i64 x.mode),(.bool x.silent),v.items,v.keys,(.int .i64 x.date),v.lit] 30 (0,0)):=block_set h6 a7
 have h8:(((((((((w.setCell ⟨c,0,none⟩ a0).setCell ⟨c,1,none⟩ a1).setCell ⟨c,2,none⟩ a2).setCell ⟨c,3,none⟩ a3).setCell ⟨c,4,none⟩ a4).setCell ⟨c,5,none⟩ a5).setCell ⟨c,6,none⟩ a6).setCell ⟨c,7,none⟩ a7).setCell ⟨c,8,none⟩ a8).heap[c]? = some (.cells #[a0,a1,a2,a3,a4,a5,a6,a7,a8,(.bool x.silent),v.items,v.keys,(.int .i64 x.date),v.lit] 30 (0,0)):=block_set h7 a8
 have h9:((((((((((w.setCell ⟨c,0,none⟩ a0).setCell ⟨c,1,none⟩ a1).setCell ⟨c,2,none⟩ a2).setCell ⟨c,3,none⟩ a3).setCell ⟨c,4,none⟩ a4).setCell ⟨c,5,none⟩ a5).setCell ⟨c,6,none⟩ a6).setCell ⟨c,7,none⟩ a7).setCell ⟨c,8,none⟩ a8).setCell ⟨c,9,none⟩ a9).heap[c]? = some (.cells #[a0,a1,a2,a3,a4,a5,a6,a7,a8,a9,v.items,v.keys,(.int .i64 x.date),v.lit] 30 (0,0)):=block_set h8 a9
 have h10:(((((((((((w.setCell ⟨c,0,none⟩ a0).setCell ⟨c,1,none⟩ a1).setCell ⟨c,2,none⟩ a2).setCell ⟨c,3,none⟩ a3).setCell ⟨c,4,none⟩ a4).setCell ⟨c,5,none⟩ a5).setCell ⟨c,6,none⟩ a6).setCell ⟨c,7,none⟩ a7).setCell ⟨c,8,none⟩ a8).setCell ⟨c,9,none⟩ a9).setCell ⟨c,10,none⟩ a10).heap[c]? = some (.cells #[a0,a1,a2,a3,a4,a5,a6,a7,a8,a9,a10,v.keys,(.int .i64 x.date),v.lit] 30 (0,0)):=block_set h9 a10
 have h11:((((((((((((w.setCell ⟨c,0,none⟩ a0).setCell ⟨c,1,none⟩ a1).setCell ⟨c,2,none⟩ a2).setCell ⟨c,3,none⟩ a3).setCell ⟨c,4,none⟩ a4).setCell ⟨c,5,none⟩ a5).setCell ⟨c,6,none⟩ a6).setCell ⟨c,7,none⟩ a7).setCell ⟨c,8,none⟩ a8).setCell ⟨c,9,none⟩ a9).setCell ⟨c,10,none⟩ a10).setCell ⟨c,11,none⟩ a11).heap[c]? = some (.cells #[a0,a1,a2,a3,a4,a5,a6,a7,a8,a9,a10,a11,(.int .i64 x.date),v.lit] 30 (0,0)):=block_set h10 a11
 have h12:(((((((((((((w.setCell ⟨c,0,none⟩ a0).setCell ⟨c,1,none⟩ a1).setCell ⟨c,2,none⟩ a2).setCell ⟨c,3,none⟩ a3).setCell ⟨c,4,none⟩ a4).setCell ⟨c,5,none⟩ a5).setCell ⟨c,6,none⟩ a6).setCell ⟨c,7,none⟩ a7).setCell ⟨c,8,none⟩ a8).setCell ⟨c,9,none⟩ a9).setCell ⟨c,10,none⟩ a10).setCell ⟨c,11,none⟩ a11).setCell ⟨c,12,none⟩ a12).heap[c]? = some (.cells #[a0,a1,a2,a3,a4,a5,a6,a7,a8,a9,a10,a11,a12,v.lit] 30 (0,0)):=block_set h11 a12
 have h13:((((((((((((((w.setCell ⟨c,0,none⟩ a0).setCell ⟨c,1,none⟩ a1).setCell ⟨c,2,none⟩ a2).setCell ⟨c,3,none⟩ a3).setCell ⟨c,4,none⟩ a4).setCell ⟨c,5,none⟩ a5).setCell ⟨c,6,none⟩ a6).setCell ⟨c,7,none⟩ a7).setCell ⟨c,8,none⟩ a8).setCell ⟨c,9,none⟩ a9).setCell ⟨c,10,none⟩ a10).setCell ⟨c,11,none⟩ a11).setCell ⟨c,12,none⟩ a12).setCell ⟨c,13,none⟩ a13).heap[c]? = some (.cells #[a0,a1,a2,a3,a4,a5,a6,a7,a8,a9,a10,a11,a12,a13] 30 (0,0)):=block_set h12 a13
 exact h13
theorem set_far {w:World} {c j k:Nat} (v:Value) (hk:k ≠ c):(w.setCell ⟨c,j,none⟩ v).heap[k]? = w.heap[k]?:=Below.heap_setCell w ⟨c,j,none⟩ v k hk
theorem fill_far {w:World} {c k:Nat} (hk:k ≠ c) (a0 a1 a2 a3 a4 a5 a6 a7 a8 a9 a10 a11 a12 a13:Value):(fill w c a0 a1 a2 a3 a4 a5 a6 a7 a8 a9 a10 a11 a12 a13).heap[k]? = w.heap[k]?:=by
 unfold fill
 repeat rw [set_far _ hk]
theorem fill_size {w:World} {c:Nat} (a0 a1 a2 a3 a4 a5 a6 a7 a8 a9 a10 a11 a12 a13:Value):(fill w c a0 a1 a2 a3 a4 a5 a6 a7 a8 a9 a10 a11 a12 a13).heap.size = w.heap.size:=by simp [fill]
theorem fill_below {B:Nat} {w w':World} {c:Nat} (h:Below B w w') (hc:B ≤ c) (a0 a1 a2 a3 a4 a5 a6 a7 a8 a9 a10 a11 a12 a13:Value):Below B w (fill w' c a0 a1 a2 a3 a4 a5 a6 a7 a8 a9 a10 a11 a12 a13):=((((((((((((((h.setCell (p:=⟨c,0,none⟩) hc _).setCell (p:=⟨c,1,none⟩) hc _).setCell (p:=⟨c,2,none⟩) hc _).setCell (p:=⟨c,3,none⟩) hc _).setCell (p:=⟨c,4,none⟩) hc _).setCell (p:=⟨c,5,none⟩) hc _).setCell (p:=⟨c,6,none⟩) hc _).setCell (p:=⟨c,7,none⟩) hc _).setCell (p:=⟨c,8,none⟩) hc _).setCell (p:=⟨c,9,none⟩) hc _).setCell (p:=⟨c,10,none⟩) hc _).setCell (p:=⟨c,11,none⟩) hc _).setCell (p:=⟨c,12,none⟩) hc _).setCell (p:=⟨c,13,none⟩) hc _)
theorem catch_idle (T X E:Addr) (w:World) :
  CallsD Tryz.prog 24 #[.pointer (some T),.pointer (some X),.pointer (some E)] .returning w fun e u' w'=>e = .returned (.tuple #[])∧u' = .returning∧w' = w:=by
 refine callsD_of_wpS Tryz.func24 rfl fun c₀ cs hu=>?_
 apply wpS_seq
 apply wpS_region
 simp [wpOpsS,go_sem,recoverD,hu,Tryz.ntmps24,Exit.thenS]
 refine wpS_of_wp ?_
 go_wp2
 refine ⟨rfl,.returning,?_,.tuple #[],by simp [results,Tryz.results24,go_sem],rfl,rfl,rfl⟩
 cases c₀
 simp_all
theorem assert_wrong (v:Value) (W:World):(Instr.typeAssert (.iface 51 v) 20 51 true).run Tryz.prog W = .ok (.tuple #[v,.bool true]) W:=by kernel_rfl
abbrev caught:List PanicEntry:=[{ v:=.iface 51 (.agg #[]),recovered:=true }]
theorem catch_thrown {w:World} {X E T:Nat} {tag:Bt} {wx:World} (h:PK w X E T tag wx) (hX:w.heap.size ≤ X) (hE:w.heap.size ≤ E) (hXE:X ≠ E) :
  CallsD Tryz.prog 24 #[.pointer (some ⟨T,0,none⟩),.pointer (some ⟨X,0,none⟩),.pointer (some ⟨E,0,none⟩)] (.panicking thrown) wx fun e u' w' =>
   e = .returned (.tuple #[])∧u' = .panicking caught∧CmAt w' X { tag:=tag } v0∧w'.heap[E]? = some (.cells #[.int .i64 160] 31 (0,0))∧Below w.heap.size w w':=by
 have has:=fun W=>assert_wrong (.agg #[]) W
 have H:=hid h
 have ht:wx.cell? ⟨T,0,none⟩ = some (.string (str tag)):=by rw [cells_at h.t];rfl
 have a1:=(Below.refl wx.heap.size wx).alloc (Nat.le_refl _) (.cells #[] 51)
 have t1:=keep_below a1 rfl ht
 have k1:=h.x.below a1
 have e1:=(a1.block E (lt_of_block h.e)).trans h.e
 have x0:=k1.c0
 have x1:=k1.c1
 have x2:=k1.c2
 have x3:=k1.c3
 have x4:=k1.c4
 have x5:=k1.c5
 have x6:=k1.c6
 have x7:=k1.c7
 have x8:=k1.c8
 have x9:=k1.c9
 have x10:=k1.c10
 have x11:=k1.c11
 have x12:=k1.c12
 have x13:=k1.c13
 have fx:=k1.free
 have e0:=cells_at e1 0
 have fe:=free_at e1 0
 have K1:=hid k1
 have E1:=hid e1
 have A1:=hid a1
 clear h k1 e1 a1
 refine callsD_of_wpS Tryz.func24 rfl fun c₀ cs hu=>?_
 apply wpS_seq
 apply wpS_region
 simp [wpOpsS,go_sem,recoverD,hu,Tryz.ntmps24,Exit.thenS]
 refine wpS_of_wp ?_
 go_wp2
 refine ⟨rfl,.panicking caught,rfl,.tuple #[],by simp [results,Tryz.results24,go_sem],rfl,rfl,?_,?_,?_⟩
 · exact (set_far _ hXE).trans (fill_at K1.out _ _ _ _ _ _ _ _ _ _ _ _ _ _)
 · exact block_set ((fill_far (Ne.symm hXE) _ _ _ _ _ _ _ _ _ _ _ _ _ _).trans E1.out) _
 · exact (fill_below (H.out.low.trans (A1.out.mono H.out.low.size)) hX _ _ _ _ _ _ _ _ _ _ _ _ _ _).setCell (p:=⟨E,0,none⟩) hE _
end Go.Proofs.YtfdmdmahddjjmaaGreatDoor
namespace Go.Proofs.YtfdmdmahddjjmaaGreatDoor
open Go.RowKit Own Im
attribute [local go_sem] str_toList str_size
theorem zero_form (w:World):(zeroValue 58).run Tryz.prog w = .ok (.agg #[.bool false,.nilFunc]) w:=by
 have h:(Tryz.prog.info? 58).map (fun i=>i.zero) = some (some (.agg #[.bool false,.nilFunc])):=by kernel_rfl
 obtain ⟨i,hi,hz⟩:=Option.map_eq_some_iff.1 h
 simp [zeroValue,typeInfo,hi,hz,Result.andThen]
theorem MapAt.far {w:World} {b k j:Nat} {l:List (Bt × Value)} (h:MapAt w b l) (hk:b ≠ k) (x:Value):MapAt (w.setCell ⟨k,j,none⟩ x) b l:=by
 obtain ⟨es,clock,h1,h2⟩:=h
 exact ⟨es,clock,(Below.heap_setCell w ⟨k,j,none⟩ x b hk).trans h1,h2⟩
theorem two_new (w:World) (o o2:Obj):((w.alloc o).alloc o2).heap[w.heap.size + 1]? = some o2:=by
 have h:=heap_alloc_new (w.alloc o) o2
 rw [show (w.alloc o).heap.size = w.heap.size + 1 by simp] at h
 exact h
theorem forms_le:∀ p ∈ Im.forms,p.2 ≤ 10:=by decide
theorem formK_le {w:Bt} {k:Nat} (h:formK w = some k):k ≤ 10:=by
 unfold formK at h
 obtain ⟨p,hp,rfl⟩:=Option.map_eq_some_iff.1 h
 exact forms_le p (List.mem_of_find?_eq_some hp)
theorem enters_fid (k:Nat) (hk:k ≤ 10):∀ args w,(callFunc (fidOf k) args).run Tryz.prog w = .ok (.enter (fidOf k) args) w:=by
 match k,hk with
 | 0,_=>exact enters_of Tryz.func49 (by kernel_rfl) rfl
 | 1,_=>exact enters_of Tryz.func50 (by kernel_rfl) rfl
 | 2,_=>exact enters_of Tryz.func52 (by kernel_rfl) rfl
 | 3,_=>exact enters_of Tryz.func56 (by kernel_rfl) rfl
 | 4,_=>exact enters_of Tryz.func57 (by kernel_rfl) rfl
 | 5,_=>exact enters_of Tryz.func58 (by kernel_rfl) rfl
 | 6,_=>exact enters_of Tryz.func59 (by kernel_rfl) rfl
 | 7,_=>exact enters_of Tryz.func60 (by kernel_rfl) rfl
 | 8,_=>exact enters_of Tryz.func61 (by kernel_rfl) rfl
 | 9,_=>exact enters_of Tryz.func63 (by kernel_rfl) rfl
 | 10,_=>exact enters_of Tryz.func65 (by kernel_rfl) rfl
theorem tagS_len {s:Bt} (h:tagS s ≠ []):(tagS s).length + 1 ≤ s.length:=by
 have e0:tagS s = if (Lib.cut s [32]).2.2 = false∨(Lib.cut s [32]).1 = [] then [] else if (Lib.cut s [32]).1.all tagB then (Lib.cut s [32]).1 else []:=rfl
 rw [e0] at h ⊢
 split at h
 · exact absurd rfl h
 · rename_i hc
   rw [if_neg hc]
   split at h
   · rename_i hall
     rw [if_pos hall]
     rcases Spl.first 32 s with hn | ⟨x,y,rfl,hx⟩
     · rw [Spl.cut_none hn] at hc;simp at hc
     · rw [Spl.cut_at _ hx];simp
   · exact absurd rfl h
theorem head_split (s0:Bt):∃ (x1 s1 s2:Bt) (d:Bool),Im.word s0 = (x1,s1)∧((x1 == [85,73,68]) = false∧d = false∧s2 = s1∨(x1 == [85,73,68]) = true∧takes [32] s1 = (d,s2))∧headS s0 = if d = true then ((Im.word s2).1,true,(Im.word s2).2) else (x1,false,s2):=by
 obtain ⟨x1,s1,hw⟩:∃ x1 s1,Im.word s0 = (x1,s1):=⟨_,_,rfl⟩
 unfold headS
 rw [hw]
 dsimp only
 by_cases hx:x1 = [85,73,68]
 · obtain ⟨d,s2,ht⟩:∃ d s2,takes [32] s1 = (d,s2):=⟨_,_,rfl⟩
   refine ⟨x1,s1,s2,d,rfl,.inr ⟨by simpa using hx,ht⟩,?_⟩
   rw [ht]
   cases d with
   | true=>simp [hx]
   | false =>
    have:=takes_no ht
    subst this
    simp [hx]
 · exact ⟨x1,s1,s1,false,rfl,.inl ⟨by simpa using hx,rfl,rfl⟩,by simp [hx]⟩
def tailS (tag h1:Bt) (d:Bool) (h2:Bt):Cm × Int:=match formK h1 with
 | none=>({ tag:=tag },161)
 | some k=>if d = true∧uidF k = false then ({ tag:=tag },161) else
   match readF k { tag:=tag,word:=h1,uid:=d } h2 with
   | some (x,[])=>(x,0)
   | _=>({ tag:=tag },160)
theorem parse_at {s:Bt} (h:tagS s ≠ []):parseS s = tailS (tagS s) (headS (s.drop ((tagS s).length + 1))).1 (headS (s.drop ((tagS s).length + 1))).2.1 (headS (s.drop ((tagS s).length + 1))).2.2:=by
 unfold parseS
 rw [if_neg h]
 rfl
theorem tail_none {tag h1 h2:Bt} {d:Bool} (h:formK h1 = none):tailS tag h1 d h2 = ({ tag:=tag },161):=by unfold tailS;rw [h]
theorem tail_uid {tag h1 h2:Bt} {d:Bool} {k:Nat} (h:formK h1 = some k) (hu:d = true∧uidF k = false):tailS tag h1 d h2 = ({ tag:=tag },161):=by unfold tailS;rw [h];exact if_pos hu
theorem tail_thrown {tag h1 h2:Bt} {d:Bool} {k:Nat} (h:formK h1 = some k) (hu:¬ (d = true∧uidF k = false)) (hr:readF k { tag:=tag,word:=h1,uid:=d } h2 = none):tailS tag h1 d h2 = ({ tag:=tag },160):=by
 unfold tailS;rw [h]
 dsimp only
 rw [if_neg hu,hr]
theorem tail_more {tag h1 h2:Bt} {d:Bool} {k:Nat} {x:Cm} {t:Bt} (h:formK h1 = some k) (hu:¬ (d = true∧uidF k = false)) (hr:readF k { tag:=tag,word:=h1,uid:=d } h2 = some (x,t)) (ht:t ≠ []):tailS tag h1 d h2 = ({ tag:=tag },160):=by
 unfold tailS;rw [h]
 dsimp only
 rw [if_neg hu,hr]
 cases t with
 | nil=>exact absurd rfl ht
 | cons c t=>rfl
theorem tail_ok {tag h1 h2:Bt} {d:Bool} {k:Nat} {x:Cm} (h:formK h1 = some k) (hu:¬ (d = true∧uidF k = false)) (hr:readF k { tag:=tag,word:=h1,uid:=d } h2 = some (x,[])):tailS tag h1 d h2 = (x,0):=by
 unfold tailS;rw [h]
 dsimp only
 rw [if_neg hu,hr]
theorem Gd.rd {w W:World} (h:Gd w) (hb:Below w.heap.size w W) (s0:Bt) (hl:s0.length ≤ 100000000):RdI (W.alloc (.cells #[.string (str s0)] 54)) W.heap.size s0 :=
 ⟨heap_alloc_new W _,hl,⟨w,h,hb.size,hb.alloc hb.size _⟩⟩
theorem fill_stays {w:World} {c:Nat} (a0 a1 a2 a3 a4 a5 a6 a7 a8 a9 a10 a11 a12 a13:Value):Stays (c + 1) w (fill w c a0 a1 a2 a3 a4 a5 a6 a7 a8 a9 a10 a11 a12 a13):=⟨by rw [fill_size];exact Nat.le_refl _,fun k h _=>fill_far (by omega) a0 a1 a2 a3 a4 a5 a6 a7 a8 a9 a10 a11 a12 a13⟩
structure Mid (w:World) (X E T b c:Nat) (tag:Bt) (x:Cm) (t:Bt) (wx:World):Prop where
 c:CmAt wx c x v0
 r:RdI wx b t
 k:PK w X E T tag wx
theorem PK.only {w wx wy:World} {X E T b:Nat} {tag:Bt} (h:PK w X E T tag wx) (ho:Only b wx wy) (h1:X < b) (h2:E < b) (h3:T < b) (h4:w.heap.size ≤ b):PK w X E T tag wy:=h.next ho.low h1 h2 h3 h4
abbrev dfr (X E T:Nat):Deferred:={ target:=.fn (.func 24) #[.pointer (some ⟨T,0,none⟩),.pointer (some ⟨X,0,none⟩),.pointer (some ⟨E,0,none⟩)],args:=#[] }
theorem res_at {W:World} {X E:Nat} {x:Cm} {v:CmV} {n:Int} (hx:CmAt W X x v) (he:W.heap[E]? = some (.cells #[.int .i64 n] 31 (0,0))) (tmps:Array Value) (h2:tmps[2]? = some (.pointer (some ⟨X,0,none⟩))) (h3:tmps[3]? = some (.pointer (some ⟨E,0,none⟩))) :
  (results Tryz.f10 tmps).run Tryz.prog W = .ok (.tuple #[.agg (cmC x v),.int .i64 n]) W:=by
 have e0:=cells_at he 0
 simp [results,Tryz.results10,go_sem,h2,h3,hx.c0,hx.c1,hx.c2,hx.c3,hx.c4,hx.c5,hx.c6,hx.c7,hx.c8,hx.c9,hx.c10,hx.c11,hx.c12,hx.c13,e0]
theorem leaves_idle {W:World} {X E T:Nat} {x:Cm} {v:CmV} {n:Int} {R:Ending→World→Prop} (hx:CmAt W X x v) (he:W.heap[E]? = some (.cells #[.int .i64 n] 31 (0,0))) (tmps:Array Value) (h2:tmps[2]? = some (.pointer (some ⟨X,0,none⟩))) (h3:tmps[3]? = some (.pointer (some ⟨E,0,none⟩)))
  (hR:R (.returned (.tuple #[.agg (cmC x v),.int .i64 n])) W):Leaves Tryz.prog Tryz.f10 tmps R [dfr X E T] .returning W:=by
 refine leaves_cons (f:=24) (args:=#[.pointer (some ⟨T,0,none⟩),.pointer (some ⟨X,0,none⟩),.pointer (some ⟨E,0,none⟩)]) (by simp) (by simp [go_sem]) ?_
 refine (catch_idle _ _ _ _).mono ?_
 rintro e u' w'' ⟨rfl,rfl,rfl⟩
 exact ⟨_,res_at hx he tmps h2 h3,hR⟩
theorem leaves_thrown {w W:World} {X E T:Nat} {tag:Bt} {R:Ending→World→Prop} (h:PK w X E T tag W) (hX:w.heap.size ≤ X) (hE:w.heap.size ≤ E) (hXE:X ≠ E) (tmps:Array Value) (h2:tmps[2]? = some (.pointer (some ⟨X,0,none⟩))) (h3:tmps[3]? = some (.pointer (some ⟨E,0,none⟩)))
  (hR:∀ w',Below w.heap.size w w'→R (.returned (.tuple #[.agg (cmC { tag:=tag } v0),.int .i64 160])) w'):Leaves Tryz.prog Tryz.f10 tmps R [dfr X E T] (.panicking thrown) W:=by
 refine leaves_cons (f:=24) (args:=#[.pointer (some ⟨T,0,none⟩),.pointer (some ⟨X,0,none⟩),.pointer (some ⟨E,0,none⟩)]) (by simp) (by simp [go_sem]) ?_
 refine (catch_thrown h hX hE hXE).mono ?_
 rintro e u' w'' ⟨rfl,rfl,hx,he,hb⟩
 exact ⟨_,res_at hx he tmps h2 h3,hR _ hb⟩
def NotUid (d:Bool) (k:Nat):Prop:=¬ (d = true∧uidF k = false)
theorem leaves_ok0 {w W:World} {X E T B:Nat} {tag:Bt} {x:Cm} {v:CmV} {n:Int} (hk:PK w X E T tag W) (hX:w.heap.size ≤ X) (hE:w.heap.size ≤ E) (hXE:X ≠ E) (hXB:X < B) (hEB:E < B) (hr:CmRows B W x v) (tmps:Array Value) (h2:tmps[2]? = some (.pointer (some ⟨X,0,none⟩))) (h3:tmps[3]? = some (.pointer (some ⟨E,0,none⟩))) :
  Leaves Tryz.prog Tryz.f10 tmps (fun e w'=>ParsePost w (x,n) e w') [dfr X E T] .returning ((fill W X (.string (str x.tag)) (.string (str x.word)) (.bool x.uid) v.set (.string (str x.box)) (.string (str x.dest)) v.names (.int .i64 x.flags) (.int .i64 x.mode) (.bool x.silent) v.items v.keys (.int .i64 x.date) v.lit).setCell ⟨E,0,none⟩ (.int .i64 n)):=by
 have hx:CmAt ((fill W X (.string (str x.tag)) (.string (str x.word)) (.bool x.uid) v.set (.string (str x.box)) (.string (str x.dest)) v.names (.int .i64 x.flags) (.int .i64 x.mode) (.bool x.silent) v.items v.keys (.int .i64 x.date) v.lit).setCell ⟨E,0,none⟩ (.int .i64 n)) X x v:=(set_far _ hXE).trans (fill_at hk.x (.string (str x.tag)) (.string (str x.word)) (.bool x.uid) v.set (.string (str x.box)) (.string (str x.dest)) v.names (.int .i64 x.flags) (.int .i64 x.mode) (.bool x.silent) v.items v.keys (.int .i64 x.date) v.lit)
 have he:((fill W X (.string (str x.tag)) (.string (str x.word)) (.bool x.uid) v.set (.string (str x.box)) (.string (str x.dest)) v.names (.int .i64 x.flags) (.int .i64 x.mode) (.bool x.silent) v.items v.keys (.int .i64 x.date) v.lit).setCell ⟨E,0,none⟩ (.int .i64 n)).heap[E]? = some (.cells #[.int .i64 n] 31 (0,0)):=block_set ((fill_far (Ne.symm hXE) (.string (str x.tag)) (.string (str x.word)) (.bool x.uid) v.set (.string (str x.box)) (.string (str x.dest)) v.names (.int .i64 x.flags) (.int .i64 x.mode) (.bool x.silent) v.items v.keys (.int .i64 x.date) v.lit).trans hk.e) _
 have hs:Stays B W ((fill W X (.string (str x.tag)) (.string (str x.word)) (.bool x.uid) v.set (.string (str x.box)) (.string (str x.dest)) v.names (.int .i64 x.flags) (.int .i64 x.mode) (.bool x.silent) v.items v.keys (.int .i64 x.date) v.lit).setCell ⟨E,0,none⟩ (.int .i64 n)):=by
  refine ⟨by rw [World.size_setCell,fill_size];exact Nat.le_refl _,fun k h1 h2=>?_⟩
  exact (set_far _ (by omega)).trans (fill_far (by omega) (.string (str x.tag)) (.string (str x.word)) (.bool x.uid) v.set (.string (str x.box)) (.string (str x.dest)) v.names (.int .i64 x.flags) (.int .i64 x.mode) (.bool x.silent) v.items v.keys (.int .i64 x.date) v.lit)
 exact leaves_idle hx he tmps h2 h3 ⟨v,rfl,(hr.stays hs).mono (by omega),(fill_below hk.low hX (.string (str x.tag)) (.string (str x.word)) (.bool x.uid) v.set (.string (str x.box)) (.string (str x.dest)) v.names (.int .i64 x.flags) (.int .i64 x.mode) (.bool x.silent) v.items v.keys (.int .i64 x.date) v.lit).setCell (p:=⟨E,0,none⟩) hE _⟩
theorem leaves_word0 {w W:World} {X E T:Nat} {tag:Bt} {n:Int} (hk:PK w X E T tag W) (hX:w.heap.size ≤ X) (hE:w.heap.size ≤ E) (hXE:X ≠ E) (tmps:Array Value) (h2:tmps[2]? = some (.pointer (some ⟨X,0,none⟩))) (h3:tmps[3]? = some (.pointer (some ⟨E,0,none⟩))) :
  Leaves Tryz.prog Tryz.f10 tmps (fun e w'=>ParsePost w ({ tag:=tag },n) e w') [dfr X E T] .returning ((fill W X (.string (str tag)) (.string { data:=#[] }) (.bool false) nilV (.string { data:=#[] }) (.string { data:=#[] }) nilV (.int .i64 0) (.int .i64 0) (.bool false) nilV nilV (.int .i64 0) nilV).setCell ⟨E,0,none⟩ (.int .i64 n)):=by
 have h1:=hk.x.lt
 have h4:=lt_of_block hk.e
 exact leaves_ok0 (B:=W.heap.size) (x:={ tag:=tag }) (v:=v0) hk hX hE hXE h1 h4 (CmRows.none (Nat.le_refl _) rfl rfl rfl rfl rfl) tmps h2 h3
theorem leaves_thr0 {w W:World} {X E T:Nat} {tag:Bt} (h:PK w X E T tag W) (hX:w.heap.size ≤ X) (hE:w.heap.size ≤ E) (hXE:X ≠ E) (tmps:Array Value) (h2:tmps[2]? = some (.pointer (some ⟨X,0,none⟩))) (h3:tmps[3]? = some (.pointer (some ⟨E,0,none⟩))) :
  Leaves Tryz.prog Tryz.f10 tmps (fun e w'=>ParsePost w ({ tag:=tag },160) e w') [dfr X E T] (.panicking thrown) W :=
 leaves_thrown h hX hE hXE tmps h2 h3 (fun w' hb=>⟨v0,rfl,CmRows.none hb.size rfl rfl rfl rfl rfl,hb⟩)
theorem leaves_ok {w W:World} {X E T B:Nat} {tag:Bt} {x:Cm} {v:CmV} {n:Int} (hk:PK w X E T tag W) (hX:w.heap.size ≤ X) (hE:w.heap.size ≤ E) (hXE:X ≠ E) (hXB:X < B) (hEB:E < B) (hr:CmRows B W x v) (tmps:Array Value) (h2:tmps[2]? = some (.pointer (some ⟨X,0,none⟩))) (h3:tmps[3]? = some (.pointer (some ⟨E,0,none⟩))) :
  bodyPostD Tryz.prog Tryz.f10 (fun e w'=>ParsePost w (x,n) e w') Exit.ret { tmps:=tmps,defers:=[dfr X E T] } ((fill W X (.string (str x.tag)) (.string (str x.word)) (.bool x.uid) v.set (.string (str x.box)) (.string (str x.dest)) v.names (.int .i64 x.flags) (.int .i64 x.mode) (.bool x.silent) v.items v.keys (.int .i64 x.date) v.lit).setCell ⟨E,0,none⟩ (.int .i64 n)):=by
 show Leaves Tryz.prog Tryz.f10 tmps (fun e w'=>ParsePost w (x,n) e w') [dfr X E T] .returning ((fill W X (.string (str x.tag)) (.string (str x.word)) (.bool x.uid) v.set (.string (str x.box)) (.string (str x.dest)) v.names (.int .i64 x.flags) (.int .i64 x.mode) (.bool x.silent) v.items v.keys (.int .i64 x.date) v.lit).setCell ⟨E,0,none⟩ (.int .i64 n))
 exact leaves_ok0 hk hX hE hXE hXB hEB hr tmps h2 h3
theorem leaves_word {w W:World} {X E T:Nat} {tag:Bt} {n:Int} (hk:PK w X E T tag W) (hX:w.heap.size ≤ X) (hE:w.heap.size ≤ E) (hXE:X ≠ E) (tmps:Array Value) (h2:tmps[2]? = some (.pointer (some ⟨X,0,none⟩))) (h3:tmps[3]? = some (.pointer (some ⟨E,0,none⟩))) :
  bodyPostD Tryz.prog Tryz.f10 (fun e w'=>ParsePost w ({ tag:=tag },n) e w') Exit.ret { tmps:=tmps,defers:=[dfr X E T] } ((fill W X (.string (str tag)) (.string { data:=#[] }) (.bool false) nilV (.string { data:=#[] }) (.string { data:=#[] }) nilV (.int .i64 0) (.int .i64 0) (.bool false) nilV nilV (.int .i64 0) nilV).setCell ⟨E,0,none⟩ (.int .i64 n)):=by
 show Leaves Tryz.prog Tryz.f10 tmps (fun e w'=>ParsePost w ({ tag:=tag },n) e w') [dfr X E T] .returning ((fill W X (.string (str tag)) (.string { data:=#[] }) (.bool false) nilV (.string { data:=#[] }) (.string { data:=#[] }) nilV (.int .i64 0) (.int .i64 0) (.bool false) nilV nilV (.int .i64 0) nilV).setCell ⟨E,0,none⟩ (.int .i64 n))
 exact leaves_word0 hk hX hE hXE tmps h2 h3
theorem leaves_thr {w W:World} {X E T:Nat} {tag:Bt} (h:PK w X E T tag W) (hX:w.heap.size ≤ X) (hE:w.heap.size ≤ E) (hXE:X ≠ E) (tmps:Array Value) (h2:tmps[2]? = some (.pointer (some ⟨X,0,none⟩))) (h3:tmps[3]? = some (.pointer (some ⟨E,0,none⟩))) :
  bodyPostD Tryz.prog Tryz.f10 (fun e w'=>ParsePost w ({ tag:=tag },160) e w') (Exit.panic thrown) { tmps:=tmps,defers:=[dfr X E T] } W:=by
 show Leaves Tryz.prog Tryz.f10 tmps (fun e w'=>ParsePost w ({ tag:=tag },160) e w') [dfr X E T] (.panicking thrown) W
 exact leaves_thr0 h hX hE hXE tmps h2 h3
end Go.Proofs.YtfdmdmahddjjmaaGreatDoor
