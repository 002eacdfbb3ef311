/-
  Joined texts: Ad Atom Atom2 Texts Dot AGood APath Only Numb Bld WByte Enc Idx Cuts RNumb SBuf.
-/
import Derived.Test.YtfdmdmahddjjmaaGreatDoorPkOwn
import Derived.Test.YtfdmdmahddjjmaaGreatDoorShelf
import Derived.LoopTactic
import Derived.Deep.LoopGhost
import Derived.Deep.DeepCutAuto
import Derived.Deep.CutBlock
import Derived.Deep.QuietTactic
import Derived.BigQuiet
import Derived.IntWalk
import Derived.Lib.Split
import Derived.Lib.AtoiErrMem
import Derived.Lib.AtoiBound
import Derived.Shelf.Strconv.ErrVar
import Derived.Shelf.GgClosure.Gives
import Derived.Shelf.Strings.Builder1
import Derived.Lib.Builder
import Derived.Laws.CopyOwn
import Derived.Laws.RangeString
import Derived.Laws.RangeAny
import Derived.Shelf.GgClosure.StringsIndexFuncTop
set_option linter.unusedVariables false
set_option linter.unusedSimpArgs false
set_option maxRecDepth 100000
namespace Go.Proofs.YtfdmdmahddjjmaaGreatDoor.Ad
open Go.Proofs.YtfdmdmahddjjmaaGreatDoor
abbrev Ad:=List UInt8 × List UInt8 × List UInt8
def isLet (c:UInt8):Bool:=decide (97 ≤ c.toNat∧c.toNat ≤ 122∨65 ≤ c.toNat∧c.toNat ≤ 90∨48 ≤ c.toNat∧c.toNat ≤ 57)
def specials:List UInt8:=[33,35,36,37,38,39,42,43,45,47,61,63,94,95,96,123,124,125,126]
def isAt (c:UInt8):Bool:=isLet c || specials.contains c
def atomP (s:List UInt8):Bool:=s.all isAt && !s.isEmpty
def labelP (s:List UInt8):Bool:=s.all (fun c=>isLet c || c == 45) && !s.isEmpty && s.head? != some 45 && s.getLast? != some 45
def dottedP (is:List UInt8→Bool) (s:List UInt8):Bool:=(Spl.splitL 46 s).all is && decide (s.length ≤ 64)
def goodP (l d:List UInt8):Bool:=dottedP atomP l && dottedP labelP d
def parseP (s:List UInt8):Ad × Int:=if goodP (Lib.cut s [64]).1 (Lib.cut s [64]).2.1 = true then (([],(Lib.cut s [64]).1,(Lib.cut s [64]).2.1),0) else (([],[],[]),90)
def pathP:List UInt8→Ad × Int
 | 60 :: t=>if t = [62] then (([],[],[]),0) else if t.getLast? = some 62 then parseP t.dropLast else (([],[],[]),90)
 | _=>(([],[],[]),90)
def isBl (c:UInt8):Bool:=c == 32 || c == 9
def blanksP (s:List UInt8):List UInt8:=s.dropWhile isBl
def isPl (c:UInt8):Bool:=isAt c || c == 46
def qs (acc:List UInt8):List UInt8→Option (List UInt8 × List UInt8)
 | []=>none
 | 34 :: r=>some (acc,r)
 | [92]=>none
 | 92 :: c :: r=>if c = 13∨c = 10 then none else qs (acc ++ [c]) r
 | c :: r=>if c = 13∨c = 10 then none else qs (acc ++ [c]) r
def word (s:List UInt8):Option (List UInt8 × List UInt8) :=
 if s.head? = some 34 then qs [] s.tail else if (s.takeWhile isPl).length = 0 then none else some (s.takeWhile isPl,s.dropWhile isPl)
def phr:Nat→List (List UInt8)→List UInt8→Option (Option (List (List UInt8) × List UInt8))
 | 0,_,_=>none
 | f + 1,ws,s=>if s.head? = some 60 then some (some (ws,s)) else match word s with
   | none=>some none
   | some (w,r)=>phr f (ws ++ [w]) (blanksP r)
def isCut (c:UInt8):Bool:=c == 44 || c == 32 || c == 9
def one (f:Nat) (s:List UInt8):Option (Option (Ad × List UInt8)) :=
 let r:=blanksP s
 let p:=parseP (r.takeWhile fun c=>!isCut c)
 if p.2 = 0 then some (some (p.1,blanksP (r.dropWhile fun c=>!isCut c))) else match phr f [] r with
  | none=>none
  | some none=>some none
  | some (some (ws,t))=>if (62:UInt8) ∈ t∧ws ≠ [] then
      let q:=pathP (t.takeWhile (fun c=>c != 62) ++ [62])
      if q.2 = 0∧q.1.2.1 ≠ [] then some (some ((Lib.join ws [32],q.1.2),blanksP (t.dropWhile (fun c=>c != 62)).tail)) else some none
    else some none
def fin (l:List Ad):List Ad × Int:=if 16 < l.length then ([],5) else (l,0)
end Go.Proofs.YtfdmdmahddjjmaaGreatDoor.Ad
namespace Go.Proofs.YtfdmdmahddjjmaaGreatDoor
open Go.RowKit Own Ad
end Go.Proofs.YtfdmdmahddjjmaaGreatDoor
namespace Go.Proofs.YtfdmdmahddjjmaaGreatDoor
open Go.RowKit Own Ad
attribute [local go_sem] str_toList
theorem indexByte_mem (l:List UInt8) (c:UInt8):(c ∈ l∧0 ≤ Lib.indexByte l c)∨(c ∉ l∧Lib.indexByte l c = -1):=by
 induction l with
 | nil=>right;simp [Lib.indexByte]
 | cons b l ih =>
  by_cases hb:b = c
  · left;subst hb;simp [Lib.indexByte]
  · have hb2:(b == c) = false:=by simpa using hb
    rcases ih with ⟨h1,h2⟩ | ⟨h1,h2⟩
    · left
      refine ⟨by simp [h1],?_⟩
      have h3:(Lib.indexByte l c == -1) = false:=by rw [beq_eq_false_iff_ne];omega
      unfold Lib.indexByte
      simp only [hb2,h3,Bool.false_eq_true,if_false]
      omega
    · right
      refine ⟨by simp [h1,Ne.symm hb],?_⟩
      unfold Lib.indexByte
      simp [hb2,h2]
theorem str_ix {l:List UInt8} {i:Nat} {c:UInt8} (h:l[i]? = some c):∀ h,(str l)[i]'h = c:=by
 obtain ⟨h1,h2⟩:=List.getElem?_eq_some_iff.1 h
 intro h
 rw [← h2];rfl
namespace Ad
end Ad
end Go.Proofs.YtfdmdmahddjjmaaGreatDoor
namespace Go.Proofs.YtfdmdmahddjjmaaGreatDoor
open Go.RowKit Own Ad
structure GoodA (w:World):Prop where
 max:∃ m,w.cell? ⟨0,0,none⟩ = some (.int .i64 m)
theorem GoodA.below {w w':World} (h:GoodA w) (hb:Below w.heap.size w w'):GoodA w':=by
 obtain ⟨m,h3⟩:=h
 exact ⟨m,keep_below hb rfl h3⟩
theorem below_dn' (w:World) (q:Nat):Below w.heap.size w (w.drewN q):=⟨rfl,rfl,rfl,Nat.le_refl _,fun _ _=>rfl⟩
def SrcS (w:World) (A:Option Addr) (l:List (List UInt8)):Prop:=Src w A (l.map fun s=>.string (str s))
theorem srcS_at {w:World} {p:Addr} {l:List (List UInt8)} (h:SrcS w (some p) l) {j:Nat} {x:List UInt8} (hx:l[j]? = some x):w.cell? (p.add j) = some (.string (str x)):=h.2 p rfl j _ (by simp [hx])
theorem list_str (xs:List ByteArray):(xs.map (·.data.toList)).map str = xs:=by
 rw [List.map_map]
 conv=>rhs;rw [← List.map_id xs]
 apply List.map_congr_left
 intro x _
 simp [str]
theorem splitB_str (c:UInt8) (l:List UInt8):Lib.splitB (str [c]) 0 (Lib.countB (str l) (str [c])) (str l) = (Spl.splitL c l).map str:=by
 have h:=Lib.splitB_data (str [c]) 0 (Lib.countB (str l) (str [c])) (str l)
 have h2:=Spl.split_eq c l.length l (Nat.le_refl _)
 rw [← list_str (Lib.splitB _ _ _ _),h,← h2]
 rfl
theorem split_any (c:UInt8) (l:List UInt8) (w:World) (hG:GoodA w) (hl:l.length ≤ 2147483648) :
  Calls Tryz.prog 130 #[.string (str l),.string (str [c])] w fun e w'=>e = .returned (.slice (some ⟨w.heap.size,0,none⟩) (Spl.splitL c l).length (Spl.splitL c l).length)∧SrcS w' (some ⟨w.heap.size,0,none⟩) (Spl.splitL c l)∧Below w.heap.size w w':=by
 obtain ⟨m,hm⟩:=hG.max
 refine (Tryz.strings_Split (str l) (str [c]) m w (by rw [str_size];omega) hm (by rw [str_size];simp)).mono ?_
 rintro e w' ⟨rfl,rfl⟩
 have hlen:(Lib.splitB (str [c]) 0 (Lib.countB (str l) (str [c])) (str l)).length = Lib.countB (str l) (str [c]) + 1:=Lib.splitB_all (str [c]) (by rw [str_size];simp) 0 _ _ rfl
 rw [splitB_str,List.length_map] at hlen
 rw [hlen,splitB_str,List.map_map]
 exact ⟨rfl,src_lit w _ _ _,(Below.refl _ _).alloc (Nat.le_refl _) _⟩
theorem cut_any (c:UInt8) (l:List UInt8) (w:World) (hG:GoodA w) (hl:l.length ≤ 2147483648) :
  Calls Tryz.prog 22 #[.string (str l),.string (str [c])] w fun e w'=>e = .returned (.tuple #[.string (str (Lib.cut l [c]).1),.string (str (Lib.cut l [c]).2.1),.bool (Lib.cut l [c]).2.2])∧Below w.heap.size w w':=by
 obtain ⟨m,hm⟩:=hG.max
 refine (Tryz.strings_Cut (str l) (str [c]) m w (by rw [str_size];omega) hm).mono ?_
 rintro e w' ⟨rfl,q,rfl⟩
 exact ⟨rfl,below_dn' w q⟩
theorem cut_exact (c:UInt8) (l:List UInt8) (w:World) (hG:GoodA w) (hl:l.length ≤ 2147483648) :
  Calls Tryz.prog 22 #[.string (str l),.string (str [c])] w fun e w'=>e = .returned (.tuple #[.string (str (Lib.cut l [c]).1),.string (str (Lib.cut l [c]).2.1),.bool (Lib.cut l [c]).2.2])∧∃ q,w' = w.drewN q:=by
 obtain ⟨m,hm⟩:=hG.max
 refine (Tryz.strings_Cut (str l) (str [c]) m w (by rw [str_size];omega) hm).mono ?_
 rintro e w' ⟨rfl,q,rfl⟩
 exact ⟨rfl,q,rfl⟩
end Go.Proofs.YtfdmdmahddjjmaaGreatDoor
namespace Go.Proofs.YtfdmdmahddjjmaaGreatDoor
open Go.RowKit Own Ad
end Go.Proofs.YtfdmdmahddjjmaaGreatDoor
namespace Go.Proofs.YtfdmdmahddjjmaaGreatDoor
open Go.RowKit Own Ad
structure Tk (n:Nat):Prop where
attribute [local go_sem] str_toList
section
variable {w w':World} {b:Nat} {a:Ad}
end
theorem block_set {w:World} {b j:Nat} {cs:Array Value} {t:TypeId} {fr:Nat × Nat} (h:w.heap[b]? = some (.cells cs t fr)) (v:Value):(w.setCell ⟨b,j,none⟩ v).heap[b]? = some (.cells (cs.setIfInBounds j v) t fr):=by
 simp [World.setCell,Array.getElem?_modify,h]
section
variable {w:World} {b:Nat} {n l d:List UInt8}
end
end Go.Proofs.YtfdmdmahddjjmaaGreatDoor
namespace Go.Proofs.YtfdmdmahddjjmaaGreatDoor
open Go.RowKit Own Ad
attribute [local go_sem] str_toList
end Go.Proofs.YtfdmdmahddjjmaaGreatDoor
namespace Go.Proofs.YtfdmdmahddjjmaaGreatDoor
open Go.RowKit Own Ad
structure Only (b:Nat) (w w':World):Prop where
 low:Below b w w'
 high:∀ k,b < k→k < w.heap.size→w'.heap[k]? = w.heap[k]?
section
variable {b:Nat} {w w' w2:World}
theorem Only.refl (b:Nat) (w:World):Only b w w:=⟨Below.refl _ _,fun _ _ _=>rfl⟩
theorem Only.trans (h:Only b w w') (k:Only b w' w2):Only b w w2:=⟨h.low.trans k.low,fun i h1 h2=>(k.high i h1 (Nat.lt_of_lt_of_le h2 h.low.size)).trans (h.high i h1 h2)⟩
theorem Only.of (h:Below w.heap.size w w') (hb:b ≤ w.heap.size):Only b w w':=⟨h.mono hb,fun i _ h2=>h.block i h2⟩
theorem Only.trans' {B:Nat} (h:Only b w w') (k:Below B w' w2) (hb:b < B) (hw:w.heap.size ≤ B):Only b w w2:=⟨h.low.trans (k.mono (Nat.le_of_lt hb)),fun i h1 h2=>(k.block i (Nat.lt_of_lt_of_le h2 hw)).trans (h.high i h1 h2)⟩
theorem Only.set (w:World) (b j:Nat) (v:Value):Only b w (w.setCell ⟨b,j,none⟩ v):=⟨(Below.refl b w).setCell (p:=⟨b,j,none⟩) (Nat.le_refl b) v,fun k h _=>Below.heap_setCell w ⟨b,j,none⟩ v k (by simp;omega)⟩
theorem Only.block (h:Only b w w') {k:Nat} (hk:k ≠ b) (hlt:k < w.heap.size):w'.heap[k]? = w.heap[k]?:=by
 rcases Nat.lt_or_ge k b with h1 | h1
 · exact h.low.block k h1
 · exact h.high k (by omega) hlt
theorem Only.size (h:Only b w w'):w.heap.size ≤ w'.heap.size:=h.low.size
theorem Only.good (h:Only b w w') (hG:GoodA w) (hb:0 < b):GoodA w':=by
 obtain ⟨m,hm⟩:=hG
 exact ⟨m,(h.low.cell hb).trans hm⟩
end
end Go.Proofs.YtfdmdmahddjjmaaGreatDoor
namespace Go.Proofs.YtfdmdmahddjjmaaGreatDoor
open Go.RowKit Own Dec
theorem var_below {w w':World} {n:String} {cs:Array Value} (h:w.var? Tryz.prog n = some cs) (hb:Below w.heap.size w w'):w'.var? Tryz.prog n = some cs:=by
 unfold World.var? at h ⊢
 cases hg:Tryz.prog.globalNamed n with
 | none=>simp [hg] at h
 | some g =>
  simp only [hg,Option.bind_some] at h ⊢
  have hlt:g < w.heap.size:=by
   rcases Nat.lt_or_ge g w.heap.size with h' | h'
   · exact h'
   · simp [Array.getElem?_eq_none h'] at h
  rw [hb.block g hlt]
  exact h
structure GoodC (w:World):Prop where
 tab : Lib.TabIs Tryz.prog w "internal/strconv.uint64pow10" .u64 Lib.pow10Tab
 err : ∃ tp p, w.var? Tryz.prog "strconv.ErrSyntax" = some #[.iface tp p]
 max:∃ m,w.cell? ⟨0,0,none⟩ = some (.int .i64 m)
theorem GoodC.below {w w':World} (h:GoodC w) (hb:Below w.heap.size w w'):GoodC w':=by
 obtain ⟨h1,⟨tp,p,h2⟩,m,h3⟩:=h
 exact ⟨var_below h1 hb,⟨tp,p,var_below h2 hb⟩,m,keep_below hb rfl h3⟩
theorem itoa_any (n:Int) (h0:-9223372036854775808 ≤ n) (h1:n ≤ 9223372036854775807) (w:World) (hG:GoodC w) :
  Calls Tryz.prog 70 #[.int .i64 n] w fun e w'=>e = .returned (.string (str (Lib.itoa n)))∧Below w.heap.size w w':=by
 refine (Tryz.strconv_Itoa n h0 h1 w hG.tab).mono ?_
 rintro e w' ⟨rfl,k,os,rfl⟩
 exact ⟨rfl,Go.Proofs.below_grown w k os⟩
attribute [local go_sem] str_toList str_size
theorem number_any (l:List UInt8) (most:Int) (w:World) (hG:GoodC w) :
  Calls Tryz.prog 31 #[.string (str l),.int .i64 most] w fun e w'=>e = .returned (.tuple #[.int .i64 (numR l most).1,.bool (numR l most).2])∧Below w.heap.size w w':=by
 rw [← num_eq]
 have hsz:=str_size l
 by_cases h10:10 < l.length
 · have e1:decide (10 < (l.length:Int)) = true:=decide_eq_true (by omega)
   have hR:numP l most = (0,false):=by unfold numP;rw [if_pos h10]
   go_enter Tryz.func31,Tryz.ntmps31
   go_wp2
   exact bodyPost_ret (v:=.tuple #[.int .i64 0,.bool false]) (by simp [results,Tryz.results31,go_sem]) rfl ⟨by first | rfl | simp [hR],Below.refl _ _⟩
 have e1:decide (10 < (l.length:Int)) = false:=decide_eq_false (by omega)
 cases ha:Lib.atoi l with
 | none =>
  have hR:numP l most = (0,false):=by unfold numP;rw [if_neg h10,ha]
  obtain ⟨tp,p,hvar⟩:=hG.err
  have hat:=Tryz.strconv_Atoi_err_var (str l) (by omega) ha tp p w hvar
  clear ha
  go_enter Tryz.func31,Tryz.ntmps31
  go_wp2_with ((go_at_call 69;refine hat.mono ?_;rintro e w1 ⟨N,rfl,hN,hcell,hb1⟩))
  exact bodyPost_ret (v:=.tuple #[.int .i64 0,.bool false]) (by simp [results,Tryz.results31,go_sem]) rfl ⟨by first | rfl | simp [hR],hb1⟩
 | some n =>
  have hat:=Tryz.strconv_Atoi (str l) n (by omega) ha w
  have hbd:=Lib.atoi_bound ha (by omega)
  have hR:numP l most = if Lib.itoa n ≠ l∨n < 0∨most < n then (0,false) else (n,true):=by unfold numP;rw [if_neg h10,ha]
  have hit:=fun w' (g:GoodC w')=>itoa_any n (by omega) (by omega) w' g
  clear ha
  by_cases c1:Lib.itoa n = l
  · by_cases c2:n < 0
    · have hR2:numP l most = (0,false):=by rw [hR,if_pos (.inr (.inl c2))]
      have e3:decide (n < 0) = true:=decide_eq_true c2
      rw [c1] at hit
      clear hR c1 c2 hbd
      go_enter Tryz.func31,Tryz.ntmps31
      go_wp2_with (first
       | (go_at_call 69;refine hat.mono ?_;rintro e w1 ⟨rfl,t,rfl⟩;have b1:=Lib.bytesWorld_below w 5 t)
       | (go_at_call 70;refine (hit _ (hG.below b1)).mono ?_;rintro e w2 ⟨rfl,b2⟩;have b3:=below_then b1 b2))
      exact bodyPost_ret (v:=.tuple #[.int .i64 0,.bool false]) (by simp [results,Tryz.results31,go_sem]) rfl ⟨by first | rfl | simp [hR2],b3⟩
    · by_cases c3:most < n
      · have hR2:numP l most = (0,false):=by rw [hR,if_pos (.inr (.inr c3))]
        have e3:decide (n < 0) = false:=decide_eq_false c2
        have e4:decide (most < n) = true:=decide_eq_true c3
        rw [c1] at hit
        clear hR c1 c2 c3 hbd
        go_enter Tryz.func31,Tryz.ntmps31
        go_wp2_with (first
         | (go_at_call 69;refine hat.mono ?_;rintro e w1 ⟨rfl,t,rfl⟩;have b1:=Lib.bytesWorld_below w 5 t)
         | (go_at_call 70;refine (hit _ (hG.below b1)).mono ?_;rintro e w2 ⟨rfl,b2⟩;have b3:=below_then b1 b2))
        exact bodyPost_ret (v:=.tuple #[.int .i64 0,.bool false]) (by simp [results,Tryz.results31,go_sem]) rfl ⟨by first | rfl | simp [hR2],b3⟩
      · have hR2:numP l most = (n,true):=by rw [hR,if_neg (by rintro (h | h | h);exact h c1;exact c2 h;exact c3 h)]
        have e3:decide (n < 0) = false:=decide_eq_false c2
        have e4:decide (most < n) = false:=decide_eq_false c3
        rw [c1] at hit
        clear hR c1 c2 c3 hbd
        go_enter Tryz.func31,Tryz.ntmps31
        go_wp2_with (first
         | (go_at_call 69;refine hat.mono ?_;rintro e w1 ⟨rfl,t,rfl⟩;have b1:=Lib.bytesWorld_below w 5 t)
         | (go_at_call 70;refine (hit _ (hG.below b1)).mono ?_;rintro e w2 ⟨rfl,b2⟩;have b3:=below_then b1 b2))
        exact bodyPost_ret (v:=.tuple #[.int .i64 n,.bool true]) (by simp [results,Tryz.results31,go_sem]) rfl ⟨by first | rfl | simp [hR2],b3⟩
  · have hR2:numP l most = (0,false):=by rw [hR,if_pos (.inl c1)]
    have e3:(Lib.itoa n == l) = false:=by simpa using c1
    clear hR c1 hbd
    generalize Lib.itoa n = I at *
    go_enter Tryz.func31,Tryz.ntmps31
    go_wp2_with (first
     | (go_at_call 69;refine hat.mono ?_;rintro e w1 ⟨rfl,t,rfl⟩;have b1:=Lib.bytesWorld_below w 5 t)
     | (go_at_call 70;refine (hit _ (hG.below b1)).mono ?_;rintro e w2 ⟨rfl,b2⟩;have b3:=below_then b1 b2))
    exact bodyPost_ret (v:=.tuple #[.int .i64 0,.bool false]) (by simp [results,Tryz.results31,go_sem]) rfl ⟨by first | rfl | simp [hR2],b3⟩
end Go.Proofs.YtfdmdmahddjjmaaGreatDoor
namespace Go.Proofs.YtfdmdmahddjjmaaGreatDoor
open Go.RowKit Own
theorem size_bld:(Tryz.prog.info? 93).map (·.size) = some 2:=by kernel_rfl
theorem lies_bld:liesAt Tryz.prog Tryz.prog.depth 93 (2 / Tryz.prog.cellsOf 93) 0 93 1 = true:=by kernel_rfl
set_option maxHeartbeats 1000000 in
theorem check_used (b:Nat) (w:World) (h0:w.cell? ⟨b,0,none⟩ = some (.pointer (some ⟨b,0,none⟩))) :
  Calls Tryz.prog 114 #[.pointer (some ⟨b,0,none⟩)] w fun e w'=>e = .returned (.tuple #[])∧w' = w:=by
 obtain ⟨j,hj,_⟩:=Option.map_eq_some_iff.1 size_bld
 go_enter Tryz.func114,Tryz.ntmps114
 go_wp2
 rw [Lib.run_neq_ptr_same w _ Tryz.underlying91 hj]
 go_wp2
 go_end0
 exact ⟨rfl,rfl⟩
set_option maxHeartbeats 1000000 in
theorem check_fresh (b:Nat) (w:World) (h0:w.cell? ⟨b,0,none⟩ = some (.pointer none)) (hsh:w.shape? b = some (93,2)) (hfz:w.frozen? ⟨b,0,none⟩ = false) :
  Calls Tryz.prog 114 #[.pointer (some ⟨b,0,none⟩)] w fun e w'=>e = .returned (.tuple #[])∧w' = w.setCell ⟨b,0,none⟩ (.pointer (some ⟨b,0,none⟩)):=by
 obtain ⟨j,hj,hjs⟩:=Option.map_eq_some_iff.1 size_bld
 go_enter Tryz.func114,Tryz.ntmps114
 go_wp2
 rw [Lib.run_to_unsafe w ⟨b,0,none⟩ Tryz.underlying91 Tryz.underlying127 hj (by rw [hjs];decide) hsh (Nat.zero_lt_succ 1)]
 simp only [Result.andThen]
 rw [Oper.upon_value]
 go_wp2
 rw [run_callFunc_extern Tryz.func144 (by kernel_rfl) (by kernel_rfl) (by kernel_rfl) (e:=Extern.AbiNoEscape.same) (by kernel_rfl),Lib.run_noEscape]
 simp only [Result.andThen]
 rw [Oper.upon_value]
 go_wp2
 rw [Lib.run_from_unsafe w ⟨b,0,none⟩ Tryz.underlying127 Tryz.underlying91 hj hsh lies_bld]
 simp only [Result.andThen]
 rw [Oper.upon_value]
 go_wp2
 go_end0
 exact ⟨rfl,rfl⟩
theorem check_any (B b:Nat) (bs:List Value) (w:World) (h:Lib.IsBuilder 93 5 B b bs w) :
  Calls Tryz.prog 114 #[.pointer (some ⟨b,0,none⟩)] w fun e w'=>e = .returned (.tuple #[])∧Lib.BuilderAt 93 5 B b (.pointer (some ⟨b,0,none⟩)) bs w'∧Below B w w':=by
 rcases h with h | h
 · refine (check_fresh b w h.cell0 h.shape h.frozen0).mono ?_
   rintro e w' ⟨rfl,rfl⟩
   exact ⟨rfl,h.used _,(Below.refl B w).setCell (p:=⟨b,0,none⟩) h.1 _⟩
 · refine (check_used b w h.cell0).mono ?_
   rintro e w' ⟨rfl,rfl⟩
   exact ⟨rfl,h,Below.refl B _⟩
set_option maxHeartbeats 2000000 in
theorem wb_raw (B b:Nat) (l:List UInt8) (c:UInt8) (w:World) (h:Lib.IsBuilder 93 5 B b (bv l) w) (hl:l.length ≤ 140737488355327) (hBw:B ≤ w.heap.size) :
  Calls Tryz.prog 122 #[.pointer (some ⟨b,0,none⟩),.int .u8 c.toNat] w fun e w'=>e = .returned .nilIface∧Lib.IsBuilder 93 5 B b (bv (l ++ [c])) w'∧Below B w w':=by
 obtain ⟨i0,hi,hz0,hz1,hz2⟩:=info_parts info_byte
 have hck:=check_any B b (bv l) w h
 go_enter Tryz.func122,Tryz.ntmps122
 go_wp2_with (go_at_call 114;refine hck.mono ?_)
 rintro e w1 ⟨rfl,h1,hb1⟩
 obtain ⟨hB,v,hbk,hown,hne⟩:=h1
 have c0:w1.cell? ⟨b,0,none⟩ = some (.pointer (some ⟨b,0,none⟩)):=by rw [Lib.cell_of_heap hbk];rfl
 have c1:w1.cell? ⟨b,1,none⟩ = some v:=by rw [Lib.cell_of_heap hbk];rfl
 go_wp2_with (at_builtin;refine wpList_append_own _ rfl _ _ 28 rfl B 5 i0 (.int .u8 0) 1 1 Tryz.underlying28 hi hz0 hz1 hz2 rfl (by decide) _ _ _ rfl (hown.alloc _) ⟨w1.heap.size,0,none⟩ 1 1 [.int .u8 c.toNat] rfl rfl ?c1 ?c2 ?c3 ?c4 ?c5 ?_)
 case c1 =>
  intro j u hj
  match j,hj with
  | 0,hj=>simp at hj;subst hj;simp [Addr.add]
 case c2=>intro u hu;simp at hu;subst hu;rfl
 case c3=>rw [bv_len];unfold maxLen;omega
 case c4=>rw [bv_len];omega
 case c5=>have:=hb1.size;simp;omega
 intro v' w2 hown' hgrow _
 have hlt:b < w1.heap.size:=lt_of_block hbk
 have hb2:w2.heap[b]? = some (.cells #[.pointer (some ⟨b,0,none⟩),v] 93 (0,0)):=by
  rw [hgrow.block b (by simp;omega) (fun e=>hne e.symm),Lib.alloc_old w1 _ b hlt]
  exact hbk
 have d0:w2.cell? ⟨b,0,none⟩ = some (.pointer (some ⟨b,0,none⟩)):=by rw [Lib.cell_of_heap hb2];rfl
 have d1:w2.cell? ⟨b,1,none⟩ = some v:=by rw [Lib.cell_of_heap hb2];rfl
 have f1:w2.frozen? ⟨b,1,none⟩ = false:=Lib.frozen_of_heap hb2 1
 obtain ⟨g,cap,rfl⟩:∃ g cap,v' = .slice (some ⟨g,0,none⟩) ((bv l).length + 1) cap:=by
  rcases hown'.2 with ⟨_,h0⟩ | ⟨g,cap,cur,hv,_⟩
  · omega
  · exact ⟨g,cap,hv⟩
 go_wp2
 go_ret
 refine ⟨rfl,.inr ?_,?_⟩
 · have e1:bv (l ++ [c]) = bv l ++ [.int .u8 c.toNat]:=by simp [bv]
   rw [e1]
   exact Lib.BuilderAt.put (T:=93) (e:=5) hB hb2 (bs':=bv l ++ [.int .u8 c.toNat]) (by simpa using hown') (by decide)
 · exact ((hb1.alloc (by have:=hb1.size;omega) _).grown hgrow (by have:=hb1.size;simp;omega) (fun k hk=>(hown.lt k hk).1)).setCell (p:=⟨b,1,none⟩) hB _
end Go.Proofs.YtfdmdmahddjjmaaGreatDoor
namespace Go.Proofs.YtfdmdmahddjjmaaGreatDoor
open Go.RowKit Own
def Bld (B b:Nat) (l:List UInt8) (w:World):Prop:=Lib.IsBuilder 93 5 B b (Lib.byteCells l) w∧B ≤ w.heap.size
theorem cells_bv (l:List UInt8):Lib.byteCells l = bv l:=by simp [Lib.byteCells,bv]
theorem wbyte_any (B b:Nat) (l:List UInt8) (c:UInt8) (w:World) (h:Bld B b l w) (hl:l.length ≤ 70368744177664) :
  Calls Tryz.prog 122 #[.pointer (some ⟨b,0,none⟩),.int .u8 c.toNat] w fun e w'=>e = .returned .nilIface∧Bld B b (l ++ [c]) w'∧Below B w w':=by
 obtain ⟨h1,h2⟩:=h
 rw [cells_bv] at h1
 refine (wb_raw B b l c w h1 (by omega) h2).mono ?_
 rintro e w' ⟨rfl,hb,hbel⟩
 exact ⟨rfl,⟨by rw [cells_bv];exact hb,Nat.le_trans h2 hbel.size⟩,hbel⟩
theorem bstring_any (B b:Nat) (l:List UInt8) (w:World) (h:Bld B b l w) :
  Calls Tryz.prog 85 #[.pointer (some ⟨b,0,none⟩)] w fun e w'=>e = .returned (.string ⟨l.toArray⟩)∧Below B w w' :=
 Tryz.Builder_String_any B b l w h.1 h.2
end Go.Proofs.YtfdmdmahddjjmaaGreatDoor
namespace Go.Proofs.YtfdmdmahddjjmaaGreatDoor
open Go.RowKit Own Dec
theorem ownsRow_keep {w w':World} {B:Nat} {e:TypeId} {z:Nat} {v:Value} {n:Nat} {xs:List Value} (h:w.ownsRow B e z v n xs) (hb:Below w.heap.size w w'):w'.ownsRow B e z v n xs:=by
 refine ⟨h.1,?_⟩
 rcases h.2 with hn | ⟨g,cap,cur,rfl,hb2,hg,rest⟩
 · exact .inl hn
 · exact .inr ⟨g,cap,cur,rfl,hb2,(hb.block g (lt_of_block hg)).trans hg,rest⟩
theorem Bld.keep {B b:Nat} {l:List UInt8} {w w':World} (h:Bld B b l w) (hb:Below w.heap.size w w'):Bld B b l w':=by
 refine ⟨?_,Nat.le_trans h.2 hb.size⟩
 rcases h.1 with ⟨h1,v,h2,h3,h4⟩ | ⟨h1,v,h2,h3,h4⟩
 · exact .inl ⟨h1,v,(hb.block b (lt_of_block h2)).trans h2,ownsRow_keep h3 hb,h4⟩
 · exact .inr ⟨h1,v,(hb.block b (lt_of_block h2)).trans h2,ownsRow_keep h3 hb,h4⟩
theorem Bld.alloc {B b:Nat} {l:List UInt8} {w:World} (h:Bld B b l w) (o:Obj):Bld B b l (w.alloc o):=h.keep ((Below.refl _ w).alloc (Nat.le_refl _) o)
namespace Enc
def dv:Nat→Nat | 0=>262144 | 1=>4096 | 2=>64 | _=>1
def sg (v n k:Nat):UInt8:=if n < k then 61 else Lc (v / dv k % 64)
end Enc
end Go.Proofs.YtfdmdmahddjjmaaGreatDoor
namespace Go.Proofs.YtfdmdmahddjjmaaGreatDoor
open Go.RowKit Own Dec
end Go.Proofs.YtfdmdmahddjjmaaGreatDoor
namespace Go.Proofs.YtfdmdmahddjjmaaGreatDoor
open Go.RowKit Own
theorem str_cut (l:List UInt8) (i j:Nat):(str l).extract i j = str ((l.take j).drop i):=by
 apply ByteArray.ext
 apply Array.ext'
 simp [str,ByteArray.data_extract,Array.toList_extract,List.extract_eq_take_drop,List.drop_take]
theorem str_from (l:List UInt8) (i n:Nat) (hn:n = l.length):(str l).extract i n = str (l.drop i):=by
 rw [str_cut,hn,List.take_length]
theorem str_upto (l:List UInt8) (n:Nat):(str l).extract 0 n = str (l.take n):=by rw [str_cut,List.drop_zero]
theorem u8_eq (c:UInt8) (n:Nat) (hn:n < 256):(((c.toNat:Int) == (n:Int)) = true ↔ c = UInt8.ofNat n):=by
 rw [beq_iff_eq]
 constructor
 · intro h
   apply UInt8.toNat_inj.1
   rw [UInt8.toNat_ofNat',Nat.mod_eq_of_lt (by simpa using hn)]
   omega
 · rintro rfl
   rw [UInt8.toNat_ofNat',Nat.mod_eq_of_lt (by simpa using hn)]
end Go.Proofs.YtfdmdmahddjjmaaGreatDoor
namespace Go.Proofs.YtfdmdmahddjjmaaGreatDoor
open Go.RowKit Own Dec
attribute [local go_sem] str_toList str_size
theorem rnumber_any (l:List UInt8) (most:Int) (w:World) (hl:l.length ≤ 9223372036854775806) :
  Calls Tryz.prog 39 #[.string (str l),.int .i64 most] w fun e w'=>e = .returned (.tuple #[.int .i64 (numR l most).1,.bool (numR l most).2])∧Below w.heap.size w w':=by
 have hsz:=str_size l
 by_cases h1:l.length < 1
 · have e1:decide ((l.length:Int) < 1) = true:=decide_eq_true (by omega)
   have hR:=numR_short l most (.inl h1)
   go_enter Tryz.func39,Tryz.ntmps39
   go_wp2
   exact bodyPost_ret (v:=.tuple #[.int .i64 0,.bool false]) (by simp [results,Tryz.results39,go_sem]) rfl ⟨by first | rfl | simp [hR],Below.refl _ _⟩
 have e1:decide ((l.length:Int) < 1) = false:=decide_eq_false (by omega)
 by_cases h2:10 < l.length
 · have e2:decide (10 < (l.length:Int)) = true:=decide_eq_true (by omega)
   have hR:=numR_short l most (.inr h2)
   go_enter Tryz.func39,Tryz.ntmps39
   go_wp2
   exact bodyPost_ret (v:=.tuple #[.int .i64 0,.bool false]) (by simp [results,Tryz.results39,go_sem]) rfl ⟨by first | rfl | simp [hR],Below.refl _ _⟩
 have e2:decide (10 < (l.length:Int)) = false:=decide_eq_false (by omega)
 obtain ⟨out,hout⟩:∃ out,out = numR l most:=⟨_,rfl⟩
 rw [← hout]
 have HO:=hid hout
 clear hout
 go_enter Tryz.func39,Tryz.ntmps39
 go_upto_if 15 with fail
 go_cut [15] (fun v15 wx=>v15 = .bool false∧w = wx)
 case first =>
  go_wp2
  go_meet
  case rel=>exact ⟨rfl,rfl⟩
 case rest =>
 obtain ⟨rfl,rfl⟩:=hcut
 clear e1 e2
 go_wp2_with fail
 go_loopw [6,7] (fun v4 v5 wr=>∃ i:Nat,i ≤ l.length∧v4 = .int .i64 (numF 0 (l.take i))∧v5 = .int .i64 i∧(∀ c ∈ l.take i,isDig c)∧w = wr) (fun _ v5 _=>l.length - (intOf v5).toNat)
 case atStart=>exact ⟨0,Nat.zero_le _,by simp [numF],rfl,by simp,rfl⟩
 case round =>
  obtain ⟨i,hi,rfl,rfl,hall,rfl⟩:=hrel
  have hb:=numF_lt (l.take i) 0 0 (by decide) hall
  have hb2:=Nat.pow_le_pow_right (show 0 < 10 by omega) (show 0 + (l.take i).length ≤ 10 by simp;omega)
  have h10:(10:Nat) ^ 10 = 10000000000:=rfl
  by_cases hil:i < l.length
  · have e1:decide ((i:Int) < l.length) = true:=decide_eq_true (by omega)
    obtain ⟨c,hc⟩:∃ c,c = l[i]:=⟨_,rfl⟩
    have hix:∀ h,(str l)[i]'h = c:=by intro h;rw [hc];rfl
    have hmem:c ∈ l:=by rw [hc];exact List.getElem_mem hil
    have htk:l.take (i + 1) = l.take i ++ [c]:=by rw [List.take_succ_eq_append_getElem hil,hc]
    by_cases hd:isDig c
    · have hall1:∀ c ∈ l.take (i + 1),isDig c:=by
        rw [htk]
        intro x hx
        rcases List.mem_append.mp hx with h | h
        · exact hall x h
        · rw [List.mem_singleton.mp h];exact hd
      have hnext:numF 0 (l.take (i + 1)) = 10 * numF 0 (l.take i) + (c.toNat - 48):=by rw [htk,numF_snoc]
      have hn:numF 0 (l.take i) < 10000000000:=by omega
      have hdi:=hd
      unfold isDig at hdi
      have HA:=hid hall1
      have HN:=hid hnext
      clear hall1 hall hnext hb hb2 h10 hmem hc htk hd
      obtain ⟨n,hn2⟩:∃ n,n = numF 0 (l.take i):=⟨_,rfl⟩
      rw [← hn2] at hn ⊢
      have HN2:=hid hn2
      clear hn2
      have hcm:((c.toNat:Int) - 48) % 256 = (c.toNat:Int) - 48:=by omega
      have e2:decide ((c.toNat:Int) < 48) = false:=decide_eq_false (by omega)
      have e3:decide (57 < (c.toNat:Int)) = false:=decide_eq_false (by omega)
      go_wp2
      go_roundw
      case rel =>
       refine ⟨i + 1,by omega,?_,by simp,HA.out,by trivial⟩
       rw [HN.out,← HN2.out]
       simp [hix,hcm];omega
      case measure=>simp [intOf];omega
    · have hR:out = (0,false):=by rw [HO.out];exact numR_other l most (fun h=>hd (h c hmem))
      clear hall hb hb2 h10 hmem hc htk
      generalize numF 0 (l.take i) = n at *
      by_cases h48:c.toNat < 48
      · have e2:decide ((c.toNat:Int) < 48) = true:=decide_eq_true (by omega)
        clear hd
        go_wp2
        exact bodyPost_ret (v:=.tuple #[.int .i64 0,.bool false]) (by simp [results,Tryz.results39,go_sem]) rfl ⟨by first | rfl | simp [hR],Below.refl _ _⟩
      · have e2:decide ((c.toNat:Int) < 48) = false:=decide_eq_false (by omega)
        have e3:decide (57 < (c.toNat:Int)) = true:=by
         unfold isDig at hd;exact decide_eq_true (by omega)
        clear hd
        go_wp2
        exact bodyPost_ret (v:=.tuple #[.int .i64 0,.bool false]) (by simp [results,Tryz.results39,go_sem]) rfl ⟨by first | rfl | simp [hR],Below.refl _ _⟩
  · have e1:decide ((i:Int) < l.length) = false:=decide_eq_false (by omega)
    have:i = l.length:=by omega
    subst this
    rw [List.take_length] at hall hb hb2 ⊢
    have hR:out = if Text.digs (numF 0 l) ≠ l∨most < (numF 0 l:Int) then (0,false) else ((numF 0 l:Int),true):=by rw [HO.out];exact numR_digits l most (by omega) (by omega) hall
    have hn:numF 0 l ≤ 9223372036854775807:=by omega
    have hdg:=fun w'=>digits_any (numF 0 l) w' hn
    generalize numF 0 l = n at *
    clear hall hb hb2 h10
    by_cases c1:Text.digs n = l
    · have e2:(Text.digs n == l) = true:=by simpa using c1
      by_cases c2:most < (n:Int)
      · have e3:decide (most < (n:Int)) = true:=decide_eq_true c2
        have hR2:out = (0,false):=by rw [hR,if_pos (.inr c2)]
        clear c1 c2 hR
        generalize Text.digs n = D at *
        go_wp2_with ((go_at_call 14;refine (hdg _).mono ?_;rintro e w1 ⟨rfl,hb1⟩))
        exact bodyPost_ret (v:=.tuple #[.int .i64 0,.bool false]) (by simp [results,Tryz.results39,go_sem]) rfl ⟨by first | rfl | simp [hR2],hb1⟩
      · have e3:decide (most < (n:Int)) = false:=decide_eq_false c2
        have hR2:out = ((n:Int),true):=by rw [hR,if_neg (by rintro (h | h);exact h c1;exact c2 h)]
        clear c1 c2 hR
        generalize Text.digs n = D at *
        go_wp2_with ((go_at_call 14;refine (hdg _).mono ?_;rintro e w1 ⟨rfl,hb1⟩))
        exact bodyPost_ret (v:=.tuple #[.int .i64 n,.bool true]) (by simp [results,Tryz.results39,go_sem]) rfl ⟨by first | rfl | simp [hR2],hb1⟩
    · have e2:(Text.digs n == l) = false:=by simpa using c1
      have hR2:out = (0,false):=by rw [hR,if_pos (.inl c1)]
      clear c1 hR
      generalize Text.digs n = D at *
      go_wp2_with ((go_at_call 14;refine (hdg _).mono ?_;rintro e w1 ⟨rfl,hb1⟩))
      exact bodyPost_ret (v:=.tuple #[.int .i64 0,.bool false]) (by simp [results,Tryz.results39,go_sem]) rfl ⟨by first | rfl | simp [hR2],hb1⟩
end Go.Proofs.YtfdmdmahddjjmaaGreatDoor
namespace Go.Proofs.YtfdmdmahddjjmaaGreatDoor
open Go.RowKit Own Ad
namespace Ad
theorem join_len (sep:List UInt8) (k:Nat):∀ l:List (List UInt8),(∀ x ∈ l,x.length ≤ k)→(Lib.join l sep).length ≤ l.length * (k + sep.length)
 | [],_=>by simp [Lib.join_nil]
 | x :: r,h=>by
   rw [Lib.join_cons,List.length_append]
   have ht:∀ r:List (List UInt8),(∀ x ∈ r,x.length ≤ k)→(Lib.joinTail sep r).length ≤ r.length * (k + sep.length):=by
    intro r hr
    induction r with
    | nil=>simp [Lib.joinTail]
    | cons y r ih =>
     have:=ih (fun x hx=>hr x (by simp [hx]))
     have hy:=hr y (by simp)
     have e:Lib.joinTail sep (y :: r) = sep ++ y ++ Lib.joinTail sep r:=by simp [Lib.joinTail]
     rw [e,List.length_append,List.length_append,List.length_cons,Nat.add_mul]
     omega
   have h1:=ht r (fun x hx=>h x (by simp [hx]))
   have h2:=h x (by simp)
   rw [List.length_cons,Nat.add_mul]
   omega
end Ad
theorem info_string:(Tryz.prog.info? 9).map (fun i=>(i.zero,i.size,i.bytes)) = some (some (.string ByteArray.empty),1,16):=by kernel_rfl
def sv (l:List (List UInt8)):List Value:=l.map fun s=>.string (str s)
theorem sv_append (l m:List (List UInt8)):sv (l ++ m) = sv l ++ sv m:=by simp [sv]
theorem sv_one (l:List (List UInt8)):∀ u ∈ sv l,u.oneCell' = true:=by
 intro u hu
 simp only [sv,List.mem_map] at hu
 obtain ⟨r,_,rfl⟩:=hu
 rfl
def SBuf (B:Nat) (w:World) (v:Value) (l:List (List UInt8)):Prop:=GBuf 9 1 B w v l.length (sv l)
theorem SBuf.keep {B:Nat} {w w':World} {v:Value} {l:List (List UInt8)} (h:SBuf B w v l) (hb:Below w.heap.size w w'):SBuf B w' v l:=GBuf.keep h hb
theorem SBuf.alloc {B:Nat} {w:World} {v:Value} {l:List (List UInt8)} (h:SBuf B w v l) (o:Obj):SBuf B (w.alloc o) v l:=GBuf.alloc h o
theorem SBuf.mono {B B2:Nat} {w:World} {v:Value} {l:List (List UInt8)} (h:SBuf B2 w v l) (hB:B ≤ B2):SBuf B w v l:=GBuf.mono h hB
theorem SBuf.nil {B:Nat} {w:World} (h:B ≤ w.heap.size):SBuf B w (.slice none 0 0) []:=GBuf.nil h
theorem SBuf.full {B:Nat} {w:World} {v:Value} {l:List (List UInt8)} (h:SBuf B w v l):∃ A c,v = .slice A l.length c∧l.length ≤ c∧(A = none→l = [])∧∀ p,A = some p→∃ g,p = ⟨g,0,none⟩∧B ≤ g∧∀ j x,l[j]? = some x→w.cell? ⟨g,j,none⟩ = some (.string (str x)):=by
 obtain ⟨A,c,hv,hc,h1,h2⟩:=GBuf.full h
 refine ⟨A,c,hv,hc,(fun ha=>List.eq_nil_of_length_eq_zero (h1 ha).1),fun p hp=>?_⟩
 obtain ⟨g,rfl,hg,hcell⟩:=h2 p hp
 exact ⟨g,rfl,hg,fun j x hx=>hcell j _ (by simp [sv,hx])⟩
theorem slit (w:World) (x:List UInt8) (cs:Array Value) (fr:Nat × Nat) (n:Nat) (hn:n = w.heap.size) (h:cs.toList = sv [x]):∀ j u,(sv [x])[j]? = some u→(w.alloc (.cells cs 9 fr)).cell? ((⟨n,0,none⟩:Addr).add j) = some u:=by
 rw [← h]
 exact lit_cells w cs _ fr n hn
theorem wpList_sbuf {ops:Array Oper} {rest:List Oper} {o:Oper} {a:Act} {Q:Exit→Act→World→Prop} (B:Nat) (w:World) (hgd:o.guard = none) (s x:Operand)
  (ho:o.op = .call { callee:=.builtin .append,args:=#[s,x],argTypes:=#[25,25] }) (v:Value) (l:List (List UInt8)) (r:List UInt8) (hs:a.eval s = v) (hbuf:SBuf B w v l)
  (ad:Addr) (c:Nat) (hx:a.eval x = .slice (some ad) 1 c) (hnews:∀ j u,(sv [r])[j]? = some u→w.cell? (ad.add j) = some u) (hlen:l.length ≤ 1000000000)
  (h:∀ v' w',SBuf B w' v' (l ++ [r])→Below B w w'→wpList Tryz.prog ops Q rest (a.put o.dst v') w'):wpList Tryz.prog ops Q (o :: rest) a w:=by
 refine wpList_gbuf B w hgd s x 25 9 1 16 _ ho Tryz.underlying25 info_string rfl (by decide) v l.length (sv l) hs hbuf ad 1 c (sv [r]) hx rfl hnews (sv_one [r]) (by unfold maxLen;omega) (by omega) ?_
 intro v' w' h1 h2
 refine h v' w' ?_ h2
 unfold SBuf
 rw [sv_append,List.length_append]
 exact h1
theorem SBuf.only {B b:Nat} {w w':World} {v:Value} {l:List (List UInt8)} (h:SBuf B w v l) (ho:Only b w w') (hb:b < B):SBuf B w' v l:=by
 refine ⟨⟨h.1.1,?_⟩,Nat.le_trans h.2 ho.size⟩
 rcases h.1.2 with hn | ⟨g,cap,cur,rfl,hb2,hg,rest⟩
 · exact .inl hn
 · exact .inr ⟨g,cap,cur,rfl,hb2,(ho.block (by omega) (lt_of_block hg)).trans hg,rest⟩
end Go.Proofs.YtfdmdmahddjjmaaGreatDoor
