/-
  Joined texts: SqSet SqRHas SqRows2 SqParse.
-/
import Derived.Test.YtfdmdmahddjjmaaGreatDoorPkOwn
import Derived.Test.YtfdmdmahddjjmaaGreatDoorPkAd
set_option linter.unusedVariables false
set_option linter.unusedSimpArgs false
set_option maxRecDepth 100000
namespace Go.Proofs.YtfdmdmahddjjmaaGreatDoor.Sq.Sq
open Go.Proofs.YtfdmdmahddjjmaaGreatDoor
abbrev Rg:=Int × Int
def numS (l:List UInt8):Int × Bool:=if l = [42] then (0,true) else ((Dec.numR l 4294967295).1,(Dec.numR l 4294967295).2 && decide (0 < (Dec.numR l 4294967295).1))
def end_ (g k:Int):Int:=if k = 0 then g else k
def inR (n g:Int) (r:Rg):Bool:=if g < 1∧(r.1 = 0∨r.2 = 0) then false else decide (min (end_ g r.1) (end_ g r.2) ≤ n) && decide (n ≤ max (end_ g r.1) (end_ g r.2))
def has (l:List Rg) (n g:Int):Bool:=decide (1 ≤ n) && l.any (inR n g)
def great (l:List Int):Int:=l.foldl max 0
def partS (x:List UInt8):Option Rg :=
 if (numS (Lib.cut x [58]).1).2 && (numS (if (Lib.cut x [58]).2.2 = true then (Lib.cut x [58]).2.1 else (Lib.cut x [58]).1)).2 = true
 then some ((numS (Lib.cut x [58]).1).1,(numS (if (Lib.cut x [58]).2.2 = true then (Lib.cut x [58]).2.1 else (Lib.cut x [58]).1)).1) else none
def partsS:List (List UInt8)→Option (List Rg)
 | []=>some []
 | x :: t=>match partS x with
   | none=>none
   | some r=>(partsS t).map fun l=>r :: l
theorem partsS_none {x:List UInt8} (t:List (List UInt8)) (h:partS x = none):partsS (x :: t) = none:=by unfold partsS;rw [h]
theorem partsS_some {x:List UInt8} (t:List (List UInt8)) {r:Rg} (h:partS x = some r):partsS (x :: t) = (partsS t).map fun l=>r :: l:=by
 conv=>lhs;unfold partsS
 rw [h]
def parseV:Option (List Rg)→List Rg × Int
 | none=>([],190)
 | some r=>if 16 < r.length then ([],5) else (r,0)
def parseS (l:List UInt8):List Rg × Int:=parseV (partsS (Spl.splitL 44 l))
end Go.Proofs.YtfdmdmahddjjmaaGreatDoor.Sq.Sq
namespace Go.Proofs.YtfdmdmahddjjmaaGreatDoor.Sq
open Go.RowKit Own Dec Sq
def SrcR (w:World) (A:Option Addr) (l:List Rg):Prop :=
 (A = none→l = [])∧∀ p,A = some p→∀ j r,l[j]? = some r→w.cell? (p.add (j * 2)) = some (.int .i64 r.1)∧w.cell? (p.add (j * 2 + 1)) = some (.int .i64 r.2)
theorem SrcR.below {w w':World} {A:Option Addr} {l:List Rg} (h:SrcR w A l) (hb:Below w.heap.size w w'):SrcR w' A l :=
 ⟨h.1,fun p hp j r hr=>by
  obtain ⟨h1,h2⟩:=h.2 p hp j r hr
  exact ⟨(hb.cell (World.block_lt_of_cell? w _ h1)).trans h1,(hb.cell (World.block_lt_of_cell? w _ h2)).trans h2⟩⟩
theorem spot_of {w:World} {p:Addr} {v:Value} (h:w.cell? p = some v):p.spot = none:=by
 unfold World.cell? at h
 split at h
 · split at h
   · cases h
   · rename_i hs
     cases hp:p.spot with
     | none=>rfl
     | some x=>rw [hp] at hs;simp at hs
 · cases h
theorem srcR_some {w:World} {A:Option Addr} {l:List Rg} (h:SrcR w A l) (hne:l ≠ []):∃ b o,A = some ⟨b,o,none⟩:=by
 cases A with
 | none=>exact absurd (h.1 rfl) hne
 | some p =>
  cases l with
  | nil=>exact absurd rfl hne
  | cons r l =>
   have h1:=(h.2 p rfl 0 r rfl).1
   rw [Nat.zero_mul] at h1
   have h2:=spot_of h1
   obtain ⟨b,o,s⟩:=p
   have:s = none:=h2
   exact ⟨b,o,by rw [this]⟩
theorem SrcR.at_ {w:World} {b o:Nat} {l:List Rg} (h:SrcR w (some ⟨b,o,none⟩) l) {j:Nat} {x y:Int} (hr:l[j]? = some (x,y)) :
  w.cell? ⟨b,o + j * 2,none⟩ = some (.int .i64 x)∧w.cell? ⟨b,o + j * 2 + 1,none⟩ = some (.int .i64 y):=by
 obtain ⟨h1,h2⟩:=h.2 _ rfl j _ hr
 rw [Addr.add_lit] at h1 h2
 exact ⟨h1,by rw [← Nat.add_assoc] at h2;exact h2⟩
end Go.Proofs.YtfdmdmahddjjmaaGreatDoor.Sq
namespace Go.Proofs.YtfdmdmahddjjmaaGreatDoor.Sq
open Go.RowKit Own Dec Sq
theorem info_range:(Tryz.prog.info? 89).map (fun i=>(i.zero,i.size,i.bytes)) = some (some (.agg #[.int .i64 0,.int .i64 0]),2,16):=by kernel_rfl
def rv (l:List Rg):List Value:=l.flatMap fun r=>[.int .i64 r.1,.int .i64 r.2]
theorem rv_cons (r:Rg) (l:List Rg):rv (r :: l) = [.int .i64 r.1,.int .i64 r.2] ++ rv l:=by simp [rv]
theorem rv_append (l m:List Rg):rv (l ++ m) = rv l ++ rv m:=by simp [rv]
theorem rv_at:∀ {l:List Rg} {j:Nat} {r:Rg},l[j]? = some r→(rv l)[j * 2]? = some (.int .i64 r.1)∧(rv l)[j * 2 + 1]? = some (.int .i64 r.2)
 | [],j,r,h=>by simp at h
 | x :: l,0,r,h=>by
   obtain rfl:x = r:=by simpa using h
   rw [rv_cons]
   exact ⟨rfl,rfl⟩
 | x :: l,j + 1,r,h=>by
   have:=rv_at (l:=l) (j:=j) (r:=r) (by simpa using h)
   rw [rv_cons,show (j + 1) * 2 = j * 2 + 2 by omega]
   exact ⟨by simpa using this.1,by simpa using this.2⟩
theorem rv_one (l:List Rg):∀ u ∈ rv l,u.oneCell' = true:=by
 intro u hu
 simp only [rv,List.mem_flatMap] at hu
 obtain ⟨r,_,h⟩:=hu
 simp at h
 rcases h with rfl | rfl <;> rfl
def RBuf (B:Nat) (w:World) (v:Value) (l:List Rg):Prop:=GBuf 89 2 B w v l.length (rv l)
theorem RBuf.keep {B:Nat} {w w':World} {v:Value} {l:List Rg} (h:RBuf B w v l) (hb:Below w.heap.size w w'):RBuf B w' v l:=GBuf.keep h hb
theorem RBuf.alloc {B:Nat} {w:World} {v:Value} {l:List Rg} (h:RBuf B w v l) (o:Obj):RBuf B (w.alloc o) v l:=GBuf.alloc h o
theorem RBuf.mono {B B2:Nat} {w:World} {v:Value} {l:List Rg} (h:RBuf B2 w v l) (hB:B ≤ B2):RBuf B w v l:=GBuf.mono h hB
theorem RBuf.nil {B:Nat} {w:World} (h:B ≤ w.heap.size):RBuf B w (.slice none 0 0) []:=GBuf.nil h
theorem RBuf.size {B:Nat} {w:World} {v:Value} {l:List Rg} (h:RBuf B w v l):B ≤ w.heap.size:=h.2
theorem RBuf.full {B:Nat} {w:World} {v:Value} {l:List Rg} (h:RBuf B w v l):∃ A c,v = .slice A l.length c∧l.length ≤ c∧SrcR w A l:=by
 obtain ⟨A,c,hv,hc,h1,h2⟩:=GBuf.full h
 refine ⟨A,c,hv,hc,(fun ha=>List.eq_nil_of_length_eq_zero (h1 ha).1),fun p hp j r hr=>?_⟩
 obtain ⟨g,rfl,_,hcell⟩:=h2 p hp
 obtain ⟨k1,k2⟩:=rv_at hr
 rw [Addr.add_lit,Addr.add_lit,Nat.zero_add,Nat.zero_add]
 exact ⟨hcell _ _ k1,hcell _ _ k2⟩
theorem RBuf.lit (w:World) (l:List Rg) (cs:Array Value) (fr:Nat × Nat) (n:Nat) (hn:n = w.heap.size) (h:cs.toList = rv l):SrcR (w.alloc (.cells cs 89 fr)) (some ⟨n,0,none⟩) l:=by
 refine ⟨(fun hh=>by cases hh),fun p hp j r hr=>?_⟩
 obtain rfl:(⟨n,0,none⟩:Addr) = p:=Option.some.inj hp
 obtain ⟨k1,k2⟩:=rv_at hr
 rw [← h] at k1 k2
 exact ⟨lit_cells w cs _ fr n hn _ _ k1,lit_cells w cs _ fr n hn _ _ k2⟩
theorem wpList_rbuf {ops:Array Oper} {rest:List Oper} {o:Oper} {a:Act} {Q:Exit→Act→World→Prop} (B:Nat) (w:World) (hgd:o.guard = none) (s x:Operand)
  (ho:o.op = .call { callee:=.builtin .append,args:=#[s,x],argTypes:=#[24,24] }) (v:Value) (l:List Rg) (r:Rg) (hs:a.eval s = v) (hbuf:RBuf B w v l)
  (ad:Addr) (c:Nat) (hx:a.eval x = .slice (some ad) 1 c) (hnews:∀ j u,(rv [r])[j]? = some u→w.cell? (ad.add j) = some u) (hlen:l.length ≤ 1000000000)
  (h:∀ v' w',RBuf B w' v' (l ++ [r])→Below B w w'→wpList Tryz.prog ops Q rest (a.put o.dst v') w'):wpList Tryz.prog ops Q (o :: rest) a w:=by
 refine wpList_gbuf B w hgd s x 24 89 2 16 _ ho Tryz.underlying24 info_range rfl (by decide) v l.length (rv l) hs hbuf ad 1 c (rv [r]) hx rfl hnews (rv_one [r]) (by unfold maxLen;omega) (by omega) ?_
 intro v' w' h1 h2
 refine h v' w' ?_ h2
 unfold RBuf
 rw [rv_append,List.length_append]
 exact h1
theorem rlit (w:World) (r:Rg) (cs:Array Value) (fr:Nat × Nat) (n:Nat) (hn:n = w.heap.size) (h:cs.toList = rv [r]):∀ j u,(rv [r])[j]? = some u→(w.alloc (.cells cs 89 fr)).cell? ((⟨n,0,none⟩:Addr).add j) = some u:=by
 rw [← h]
 exact lit_cells w cs _ fr n hn
def SrcS (w:World) (A:Option Addr) (l:List (List UInt8)):Prop:=Src w A (l.map fun s=>.string (str s))
theorem srcS_at {w:World} {p:Addr} {l:List (List UInt8)} (h:SrcS w (some p) l) {j:Nat} {x:List UInt8} (hx:l[j]? = some x):w.cell? (p.add j) = some (.string (str x)):=h.2 p rfl j _ (by simp [hx])
theorem list_str (xs:List ByteArray):(xs.map (·.data.toList)).map str = xs:=by
 rw [List.map_map]
 conv=>rhs;rw [← List.map_id xs]
 apply List.map_congr_left
 intro x _
 simp [str]
theorem splitB_str (c:UInt8) (l:List UInt8):Lib.splitB (str [c]) 0 (Lib.countB (str l) (str [c])) (str l) = (Spl.splitL c l).map str:=by
 have h:=Lib.splitB_data (str [c]) 0 (Lib.countB (str l) (str [c])) (str l)
 have h2:=Spl.split_eq c l.length l (Nat.le_refl _)
 rw [← list_str (Lib.splitB _ _ _ _),h,← h2]
 rfl
theorem split_any (c:UInt8) (l:List UInt8) (w:World) (hG:GoodC w) (hl:l.length ≤ 2147483648) :
  Calls Tryz.prog 130 #[.string (str l),.string (str [c])] w fun e w'=>e = .returned (.slice (some ⟨w.heap.size,0,none⟩) (Spl.splitL c l).length (Spl.splitL c l).length)∧SrcS w' (some ⟨w.heap.size,0,none⟩) (Spl.splitL c l)∧Below w.heap.size w w':=by
 obtain ⟨m,hm⟩:=hG.max
 refine (Tryz.strings_Split (str l) (str [c]) m w (by rw [str_size];omega) hm (by rw [str_size];simp)).mono ?_
 rintro e w' ⟨rfl,rfl⟩
 have hlen:(Lib.splitB (str [c]) 0 (Lib.countB (str l) (str [c])) (str l)).length = Lib.countB (str l) (str [c]) + 1:=Lib.splitB_all (str [c]) (by rw [str_size];simp) 0 _ _ rfl
 rw [splitB_str,List.length_map] at hlen
 rw [hlen,splitB_str,List.map_map]
 exact ⟨rfl,src_lit w _ _ _,(Below.refl _ _).alloc (Nat.le_refl _) _⟩
theorem cut_any (c:UInt8) (l:List UInt8) (w:World) (hG:GoodC w) (hl:l.length ≤ 2147483648) :
  Calls Tryz.prog 22 #[.string (str l),.string (str [c])] w fun e w'=>e = .returned (.tuple #[.string (str (Lib.cut l [c]).1),.string (str (Lib.cut l [c]).2.1),.bool (Lib.cut l [c]).2.2])∧Below w.heap.size w w':=by
 obtain ⟨m,hm⟩:=hG.max
 refine (Tryz.strings_Cut (str l) (str [c]) m w (by rw [str_size];omega) hm).mono ?_
 rintro e w' ⟨rfl,q,rfl⟩
 exact ⟨rfl,below_dn' w q⟩
where
 below_dn' (w:World) (q:Nat):Below w.heap.size w (w.drewN q):=⟨rfl,rfl,rfl,Nat.le_refl _,fun _ _=>rfl⟩
attribute [local go_sem] str_toList
theorem numS_any (l:List UInt8) (w:World) (hG:GoodC w) :
  Calls Tryz.prog 131 #[.string (str l)] w fun e w'=>e = .returned (.tuple #[.int .i64 (numS l).1,.bool (numS l).2])∧Below w.heap.size w w':=by
 by_cases h:l = [42]
 · have e1:(l == [42]) = true:=by simpa using h
   have hn:numS l = (0,true):=by unfold numS;rw [if_pos h]
   rw [hn]
   clear h hn
   go_enter Tryz.func131,Tryz.ntmps131
   go_wp2
   exact bodyPost_ret (v:=.tuple #[.int .i64 0,.bool true]) (by simp [results,Tryz.results131,go_sem]) rfl ⟨rfl,Below.refl _ _⟩
 · have e1:(l == [42]) = false:=by simpa using h
   have hn:numS l = ((numR l 4294967295).1,(numR l 4294967295).2 && decide (0 < (numR l 4294967295).1)):=by unfold numS;rw [if_neg h]
   rw [hn]
   have hnum:=fun W g=>number_any l 4294967295 W g
   obtain ⟨n,b,hnb⟩:∃ n b,numR l 4294967295 = (n,b):=⟨_,_,rfl⟩
   rw [hnb] at hnum ⊢
   clear h hn hnb
   cases b with
   | false =>
    go_enter Tryz.func131,Tryz.ntmps131
    go_wp2_with (go_at_call 31;refine (hnum _ hG).mono ?_;rintro e w1 ⟨rfl,hb1⟩)
    exact bodyPost_ret (v:=.tuple #[.int .i64 n,.bool false]) (by simp [results,Tryz.results131,go_sem]) rfl ⟨rfl,hb1⟩
   | true =>
    go_enter Tryz.func131,Tryz.ntmps131
    go_wp2_with (go_at_call 31;refine (hnum _ hG).mono ?_;rintro e w1 ⟨rfl,hb1⟩)
    exact bodyPost_ret (v:=.tuple #[.int .i64 n,.bool (decide (0 < n))]) (by simp [results,Tryz.results131,go_sem]) rfl ⟨rfl,hb1⟩
theorem rnumS_any (l:List UInt8) (w:World) (hl:l.length ≤ 2147483648) :
  Calls Tryz.prog 142 #[.string (str l)] w fun e w'=>e = .returned (.tuple #[.int .i64 (numS l).1,.bool (numS l).2])∧Below w.heap.size w w':=by
 by_cases h:l = [42]
 · have e1:(l == [42]) = true:=by simpa using h
   have hn:numS l = (0,true):=by unfold numS;rw [if_pos h]
   rw [hn]
   clear h hn
   go_enter Tryz.func142,Tryz.ntmps142
   go_wp2
   exact bodyPost_ret (v:=.tuple #[.int .i64 0,.bool true]) (by simp [results,Tryz.results142,go_sem]) rfl ⟨rfl,Below.refl _ _⟩
 · have e1:(l == [42]) = false:=by simpa using h
   have hn:numS l = ((numR l 4294967295).1,(numR l 4294967295).2 && decide (0 < (numR l 4294967295).1)):=by unfold numS;rw [if_neg h]
   rw [hn]
   have hnum:=fun W=>rnumber_any l 4294967295 W (by omega)
   obtain ⟨n,b,hnb⟩:∃ n b,numR l 4294967295 = (n,b):=⟨_,_,rfl⟩
   rw [hnb] at hnum ⊢
   clear h hn hnb
   cases b with
   | false =>
    go_enter Tryz.func142,Tryz.ntmps142
    go_wp2_with (go_at_call 39;refine (hnum _).mono ?_;rintro e w1 ⟨rfl,hb1⟩)
    exact bodyPost_ret (v:=.tuple #[.int .i64 n,.bool false]) (by simp [results,Tryz.results142,go_sem]) rfl ⟨rfl,hb1⟩
   | true =>
    go_enter Tryz.func142,Tryz.ntmps142
    go_wp2_with (go_at_call 39;refine (hnum _).mono ?_;rintro e w1 ⟨rfl,hb1⟩)
    exact bodyPost_ret (v:=.tuple #[.int .i64 n,.bool (decide (0 < n))]) (by simp [results,Tryz.results142,go_sem]) rfl ⟨rfl,hb1⟩
end Go.Proofs.YtfdmdmahddjjmaaGreatDoor.Sq
namespace Go.Proofs.YtfdmdmahddjjmaaGreatDoor.Sq
open Go.RowKit Own Dec Sq
structure Tk (n:Nat):Prop
set_option maxHeartbeats 4000000 in
theorem parse_any (l:List UInt8) (w:World) (hG:GoodC w) (hl:l.length ≤ 100000000) :
  Calls Tryz.prog 98 #[.string (str l)] w fun e w'=>∃ v,e = .returned (.tuple #[v,.int .i64 (parseS l).2])∧RBuf w.heap.size w' v (parseS l).1∧Below w.heap.size w w':=by
 have hsp:=split_any 44 l w hG (by omega)
 have hple:=Spl.splitL_len 44 l
 have hpp:=Spl.splitL_parts 44 l
 obtain ⟨R,E,hRE⟩:∃ R E,parseS l = (R,E):=⟨_,_,rfl⟩
 have hre:parseV (partsS (Spl.splitL 44 l)) = (R,E):=hRE
 rw [hRE]
 obtain ⟨ps,hps⟩:∃ ps,ps = Spl.splitL 44 l:=⟨_,rfl⟩
 rw [← hps] at hsp hple hpp hre
 have HRE:=hid hre
 have HPP:=hid hpp
 clear hRE hps hre hpp
 go_enter Tryz.func98,Tryz.ntmps98
 go_wp2_with (go_at_call 130;refine hsp.mono ?_;rintro e w1 ⟨rfl,hs1,c1⟩;have S1:=hid hs1;have b1:=hid c1;clear hs1 c1)
 go_loopw [4,17] (fun v4 v17 wr=>∃ (i:Nat) (o:List Rg),i ≤ ps.length∧v17 = .int .i64 i∧(partsS (ps.drop i)).map (fun x=>o ++ x) = partsS ps∧o.length ≤ i∧RBuf w1.heap.size wr v4 o∧Below w.heap.size w wr∧Below w1.heap.size w1 wr) (fun _ v17 _=>ps.length - (intOf v17).toNat)
 case atStart=>exact ⟨0,[],Nat.zero_le _,rfl,by simp,by simp,RBuf.nil (Nat.le_refl _),b1.out,Below.refl _ _⟩
 case round =>
  obtain ⟨i,o,hi,rfl,hpr,hoi,hbuf,hbel,hbel1⟩:=hrel
  have HPR:=hid hpr
  have HBUF:=hid hbuf
  have HBE:=hid hbel
  have HBE1:=hid hbel1
  by_cases hil:i < ps.length
  · obtain ⟨x,hx⟩:∃ x,ps[i]? = some x:=⟨_,List.getElem?_eq_getElem hil⟩
    have hcell:=srcS_at (S1.out.below hbel1) hx
    rw [Addr.add_lit,Nat.zero_add] at hcell
    have hdr:ps.drop i = x :: ps.drop (i + 1):=by
     obtain ⟨h1,h2⟩:=List.getElem?_eq_some_iff.1 hx
     rw [List.drop_eq_getElem_cons hil,h2]
    have hxl:=(HPP.out x (List.mem_of_getElem? hx)).2
    have hcut:=fun W g=>cut_any 58 x W g (by omega)
    obtain ⟨ca,cb,two,hc⟩:∃ ca cb two,Lib.cut x [58] = (ca,cb,two):=⟨_,_,_,rfl⟩
    rw [hc] at hcut
    obtain ⟨n1,b1',hn1⟩:∃ n b,numS ca = (n,b):=⟨_,_,rfl⟩
    obtain ⟨cb',hcb⟩:∃ cb',cb' = if two = true then cb else ca:=⟨_,rfl⟩
    obtain ⟨n2,b2',hn2⟩:∃ n b,numS cb' = (n,b):=⟨_,_,rfl⟩
    have hnum1:=fun W g=>numS_any ca W g
    have hnum2:=fun W g=>numS_any cb' W g
    rw [hn1] at hnum1
    rw [hn2] at hnum2
    have hp:partS x = if b1' && b2' = true then some (n1,n2) else none:=by
     unfold partS
     rw [hc]
     show (if (numS ca).2 && (numS (if two = true then cb else ca)).2 = true then some ((numS ca).1,(numS (if two = true then cb else ca)).1) else none) = _
     rw [← hcb,hn1,hn2]
    have HP:=hid hp
    have HDR:=hid hdr
    clear hx hdr hxl hc hn1 hn2 hp hbuf hbel hbel1 hpr
    dsimp only at hcut hnum1 hnum2
    cases hb:(b1' && b2') with
    | true =>
     obtain ⟨rfl,rfl⟩:b1' = true∧b2' = true:=by simpa using hb
     have hpr:=HPR.out
     rw [HDR.out,partsS_some _ (r:=(n1,n2)) (by rw [HP.out];rfl)] at hpr
     have hpr2:(partsS (ps.drop (i + 1))).map (fun x=>(o ++ [(n1,n2)]) ++ x) = partsS ps:=by
      rw [← hpr]
      cases partsS (ps.drop (i + 1)) <;> simp
     have HPR2:=hid hpr2
     clear hpr hpr2 hb
     cases two
     · obtain rfl:cb' = ca:=hcb
       have tok0:Tk 0:=⟨⟩
       go_wp2_with (first
        | (go_at_call 22;refine (hcut _ (hG.below HBE.out)).mono ?_;rintro e w2 ⟨rfl,c2⟩;have b2:=hid (below_then HBE.out c2);have d2:=hid (below_then HBE1.out c2);have H2:=hid (HBUF.out.keep c2);clear c2)
        | (go_at_call 131;have t_:Tk 0:=‹Tk 0›;refine (hnum1 _ (hG.below b2.out)).mono ?_;rintro e w3 ⟨rfl,c3⟩;have b3:=hid (below_then b2.out c3);have d3:=hid (below_then d2.out c3);have H3:=hid (H2.out.keep c3);clear c3;clear t_;clear tok0;have tok1:Tk 1:=⟨⟩)
        | (go_at_call 131;have t_:Tk 1:=‹Tk 1›;refine (hnum2 _ (hG.below b3.out)).mono ?_;rintro e w4 ⟨rfl,c4⟩;have b4:=hid (below_then b3.out c4);have d4:=hid (below_then d3.out c4);have H4:=hid (H3.out.keep c4);clear c4;clear t_;clear tok1;have tok2:Tk 2:=⟨⟩)
        | (at_builtin;refine wpList_rbuf w1.heap.size _ rfl _ _ rfl u4 o (n1,n2) rfl (H4.out.alloc _) _ 1 rfl (rlit _ (n1,n2) _ _ _ rfl rfl) (by omega) ?_;intro v' w5 hr5 hb5))
       go_roundw
       case rel=>exact ⟨i + 1,o ++ [(n1,n2)],by omega,by go_num,HPR2.out,by simp;omega,hr5,(b4.out.alloc b4.out.size _).trans (hb5.mono b1.out.size),(d4.out.alloc d4.out.size _).trans hb5⟩
       case measure=>simp [intOf];omega
     · obtain rfl:cb' = cb:=hcb
       have tok0:Tk 0:=⟨⟩
       go_wp2_with (first
        | (go_at_call 22;refine (hcut _ (hG.below HBE.out)).mono ?_;rintro e w2 ⟨rfl,c2⟩;have b2:=hid (below_then HBE.out c2);have d2:=hid (below_then HBE1.out c2);have H2:=hid (HBUF.out.keep c2);clear c2)
        | (go_at_call 131;have t_:Tk 0:=‹Tk 0›;refine (hnum1 _ (hG.below b2.out)).mono ?_;rintro e w3 ⟨rfl,c3⟩;have b3:=hid (below_then b2.out c3);have d3:=hid (below_then d2.out c3);have H3:=hid (H2.out.keep c3);clear c3;clear t_;clear tok0;have tok1:Tk 1:=⟨⟩)
        | (go_at_call 131;have t_:Tk 1:=‹Tk 1›;refine (hnum2 _ (hG.below b3.out)).mono ?_;rintro e w4 ⟨rfl,c4⟩;have b4:=hid (below_then b3.out c4);have d4:=hid (below_then d3.out c4);have H4:=hid (H3.out.keep c4);clear c4;clear t_;clear tok1;have tok2:Tk 2:=⟨⟩)
        | (at_builtin;refine wpList_rbuf w1.heap.size _ rfl _ _ rfl u4 o (n1,n2) rfl (H4.out.alloc _) _ 1 rfl (rlit _ (n1,n2) _ _ _ rfl rfl) (by omega) ?_;intro v' w5 hr5 hb5))
       go_roundw
       case rel=>exact ⟨i + 1,o ++ [(n1,n2)],by omega,by go_num,HPR2.out,by simp;omega,hr5,(b4.out.alloc b4.out.size _).trans (hb5.mono b1.out.size),(d4.out.alloc d4.out.size _).trans hb5⟩
       case measure=>simp [intOf];omega
    | false =>
     have hpr:=HPR.out
     have hpn:partS x = none:=by rw [HP.out];revert hb;cases b1' <;> cases b2' <;> simp
     rw [HDR.out,partsS_none _ hpn] at hpr
     clear hpn
     have hre:=HRE.out
     rw [← hpr] at hre
     have he:R = []∧E = 190:=by
      have h2:(([]:List Rg),(190:Int)) = (R,E):=hre
      simp only [Prod.mk.injEq] at h2
      exact ⟨h2.1.symm,h2.2.symm⟩
     have HE:=hid he
     clear hpr hre he
     have hb2:b1' = false∨b1' = true∧b2' = false:=by cases b1' <;> simp_all
     clear hb
     rcases hb2 with rfl | ⟨rfl,rfl⟩
     all_goals cases two
     · obtain rfl:cb' = ca:=hcb
       have tok0:Tk 0:=⟨⟩
       go_wp2_with (first
        | (go_at_call 22;refine (hcut _ (hG.below HBE.out)).mono ?_;rintro e w2 ⟨rfl,c2⟩;have b2:=hid (below_then HBE.out c2);have d2:=hid (below_then HBE1.out c2);have H2:=hid (HBUF.out.keep c2);clear c2)
        | (go_at_call 131;have t_:Tk 0:=‹Tk 0›;refine (hnum1 _ (hG.below b2.out)).mono ?_;rintro e w3 ⟨rfl,c3⟩;have b3:=hid (below_then b2.out c3);have d3:=hid (below_then d2.out c3);have H3:=hid (H2.out.keep c3);clear c3;clear t_;clear tok0;have tok1:Tk 1:=⟨⟩)
        | (go_at_call 131;have t_:Tk 1:=‹Tk 1›;refine (hnum2 _ (hG.below b3.out)).mono ?_;rintro e w4 ⟨rfl,c4⟩;have b4:=hid (below_then b3.out c4);have d4:=hid (below_then d3.out c4);have H4:=hid (H3.out.keep c4);clear c4;clear t_;clear tok1;have tok2:Tk 2:=⟨⟩))
       exact bodyPost_ret (v:=.tuple #[.slice none 0 0,.int .i64 190]) (by simp [results,Tryz.results98,go_sem]) rfl ⟨_,by rw [HE.out.2],by rw [HE.out.1];exact RBuf.nil b4.out.size,b4.out⟩
     · obtain rfl:cb' = cb:=hcb
       have tok0:Tk 0:=⟨⟩
       go_wp2_with (first
        | (go_at_call 22;refine (hcut _ (hG.below HBE.out)).mono ?_;rintro e w2 ⟨rfl,c2⟩;have b2:=hid (below_then HBE.out c2);have d2:=hid (below_then HBE1.out c2);have H2:=hid (HBUF.out.keep c2);clear c2)
        | (go_at_call 131;have t_:Tk 0:=‹Tk 0›;refine (hnum1 _ (hG.below b2.out)).mono ?_;rintro e w3 ⟨rfl,c3⟩;have b3:=hid (below_then b2.out c3);have d3:=hid (below_then d2.out c3);have H3:=hid (H2.out.keep c3);clear c3;clear t_;clear tok0;have tok1:Tk 1:=⟨⟩)
        | (go_at_call 131;have t_:Tk 1:=‹Tk 1›;refine (hnum2 _ (hG.below b3.out)).mono ?_;rintro e w4 ⟨rfl,c4⟩;have b4:=hid (below_then b3.out c4);have d4:=hid (below_then d3.out c4);have H4:=hid (H3.out.keep c4);clear c4;clear t_;clear tok1;have tok2:Tk 2:=⟨⟩))
       exact bodyPost_ret (v:=.tuple #[.slice none 0 0,.int .i64 190]) (by simp [results,Tryz.results98,go_sem]) rfl ⟨_,by rw [HE.out.2],by rw [HE.out.1];exact RBuf.nil b4.out.size,b4.out⟩
     · obtain rfl:cb' = ca:=hcb
       have tok0:Tk 0:=⟨⟩
       go_wp2_with (first
        | (go_at_call 22;refine (hcut _ (hG.below HBE.out)).mono ?_;rintro e w2 ⟨rfl,c2⟩;have b2:=hid (below_then HBE.out c2);have d2:=hid (below_then HBE1.out c2);have H2:=hid (HBUF.out.keep c2);clear c2)
        | (go_at_call 131;have t_:Tk 0:=‹Tk 0›;refine (hnum1 _ (hG.below b2.out)).mono ?_;rintro e w3 ⟨rfl,c3⟩;have b3:=hid (below_then b2.out c3);have d3:=hid (below_then d2.out c3);have H3:=hid (H2.out.keep c3);clear c3;clear t_;clear tok0;have tok1:Tk 1:=⟨⟩)
        | (go_at_call 131;have t_:Tk 1:=‹Tk 1›;refine (hnum2 _ (hG.below b3.out)).mono ?_;rintro e w4 ⟨rfl,c4⟩;have b4:=hid (below_then b3.out c4);have d4:=hid (below_then d3.out c4);have H4:=hid (H3.out.keep c4);clear c4;clear t_;clear tok1;have tok2:Tk 2:=⟨⟩))
       exact bodyPost_ret (v:=.tuple #[.slice none 0 0,.int .i64 190]) (by simp [results,Tryz.results98,go_sem]) rfl ⟨_,by rw [HE.out.2],by rw [HE.out.1];exact RBuf.nil b4.out.size,b4.out⟩
     · obtain rfl:cb' = cb:=hcb
       have tok0:Tk 0:=⟨⟩
       go_wp2_with (first
        | (go_at_call 22;refine (hcut _ (hG.below HBE.out)).mono ?_;rintro e w2 ⟨rfl,c2⟩;have b2:=hid (below_then HBE.out c2);have d2:=hid (below_then HBE1.out c2);have H2:=hid (HBUF.out.keep c2);clear c2)
        | (go_at_call 131;have t_:Tk 0:=‹Tk 0›;refine (hnum1 _ (hG.below b2.out)).mono ?_;rintro e w3 ⟨rfl,c3⟩;have b3:=hid (below_then b2.out c3);have d3:=hid (below_then d2.out c3);have H3:=hid (H2.out.keep c3);clear c3;clear t_;clear tok0;have tok1:Tk 1:=⟨⟩)
        | (go_at_call 131;have t_:Tk 1:=‹Tk 1›;refine (hnum2 _ (hG.below b3.out)).mono ?_;rintro e w4 ⟨rfl,c4⟩;have b4:=hid (below_then b3.out c4);have d4:=hid (below_then d3.out c4);have H4:=hid (H3.out.keep c4);clear c4;clear t_;clear tok1;have tok2:Tk 2:=⟨⟩))
       exact bodyPost_ret (v:=.tuple #[.slice none 0 0,.int .i64 190]) (by simp [results,Tryz.results98,go_sem]) rfl ⟨_,by rw [HE.out.2],by rw [HE.out.1];exact RBuf.nil b4.out.size,b4.out⟩
  · obtain rfl:i = ps.length:=by omega
    have hpr:=HPR.out
    rw [List.drop_length] at hpr
    have hpo:partsS ps = some o:=by rw [← hpr];simp [partsS]
    have hre:=HRE.out
    rw [hpo] at hre
    have hre2:(if 16 < o.length then (([]:List Rg),(5:Int)) else (o,0)) = (R,E):=hre
    have ho:=hoi
    obtain ⟨Av,cv,rfl,hcv,-⟩:=HBUF.out.full
    clear hpr hpo hre hbuf hbel hbel1 hil hi hcv
    by_cases h16:16 < o.length
    · rw [if_pos h16] at hre2
      simp only [Prod.mk.injEq] at hre2
      have HE:=hid (And.intro hre2.1.symm hre2.2.symm)
      clear hre2
      go_wp2_with fail
      exact bodyPost_ret (v:=.tuple #[.slice none 0 0,.int .i64 5]) (by simp [results,Tryz.results98,go_sem]) rfl ⟨_,by rw [HE.out.2],by rw [HE.out.1];exact RBuf.nil HBE.out.size,HBE.out⟩
    · rw [if_neg h16] at hre2
      simp only [Prod.mk.injEq] at hre2
      have HE:=hid (And.intro hre2.1.symm hre2.2.symm)
      clear hre2
      go_wp2_with fail
      exact bodyPost_ret (v:=.tuple #[.slice Av o.length cv,.int .i64 0]) (by simp [results,Tryz.results98,go_sem]) rfl ⟨_,by rw [HE.out.2],by rw [HE.out.1];exact HBUF.out.mono b1.out.size,HBE.out⟩
end Go.Proofs.YtfdmdmahddjjmaaGreatDoor.Sq
