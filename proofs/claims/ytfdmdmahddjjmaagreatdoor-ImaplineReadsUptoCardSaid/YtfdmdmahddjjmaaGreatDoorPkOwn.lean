/-
  Joined texts: Own Text Digits Held Dec Split Turn Str GBuf Case Buf EncLaw Bits Reg MapL.
-/
import Derived.WalkKit
import Derived.Laws.AppendOwn
import Derived.OwnWalk
import Derived.Deep.Draws
import Derived.DataElems
import Derived.Test.YtfdmdmahddjjmaaGreatDoorProg
import Derived.WalkSpells
import Derived.WalkLawsBesides
import Derived.LoopTactic
import Derived.Lib.Bytes
import Derived.Laws.BytesString
import Derived.Deep.RegionHeld3
import Derived.Lib.Atoi
import Derived.Lib.ItoaNum
import Derived.Lib.Split
import Derived.Lib.Join
import Derived.Lib.ConvBytes
import Derived.Deep.LoopGhost
import Derived.Deep.DeepCutAuto
import Derived.Deep.CutBlock
import Derived.Deep.QuietTactic
import Derived.BigQuiet
import Derived.IntWalk
import Derived.Laws.OwnMore
import Derived.Deep.Onto
import Derived.Laws.Bits128
import Derived.WideMake
set_option linter.unusedVariables false
set_option linter.unusedSimpArgs false
set_option maxRecDepth 100000
namespace Go.Proofs.YtfdmdmahddjjmaaGreatDoor.Own
open Go.RowKit
theorem sxa {α:Type} (xs:List α) (i:Nat) (h:i < xs.toArray.size):xs.toArray[i] = xs[i]'(by simpa using h):=rfl
theorem sxb {α:Type} (a:α) (l:List α) (h:0 < (a :: l).length):(a :: l)[0] = a:=rfl
theorem sxc {α:Type} (a:α) (l:List α) (i:Nat) (h:i + 1 < (a :: l).length):(a :: l)[i + 1] = l[i]'(by simpa using h):=rfl
theorem sxd {α:Type} (xs:List α) (i:Nat) (a:α):xs.toArray.setIfInBounds i a = (xs.set i a).toArray:=by simp
theorem sxe {α:Type} (a b:α) (l:List α):(a :: l).set 0 b = b :: l:=rfl
theorem sxf {α:Type} (a b:α) (l:List α) (i:Nat):(a :: l).set (i + 1) b = a :: l.set i b:=rfl
theorem hid {p:Prop} (h:p):Hid p:=h
structure Fr (S:Nat→Prop) (w w':World):Prop where
 os:w'.os = w.os
 tape:w'.tape = w.tape
 output:w'.output = w.output
 size:w.heap.size ≤ w'.heap.size
 block:∀ k,k < w.heap.size→¬ S k→w'.heap[k]? = w.heap[k]?
section
variable {S T:Nat→Prop} {w w' a b c:World}
theorem Fr.refl (S:Nat→Prop) (w:World):Fr S w w:=⟨rfl,rfl,rfl,Nat.le_refl _,fun _ _ _=>rfl⟩
theorem Fr.trans (h:Fr S a b) (k:Fr T b c) (hT:∀ i,T i→S i∨a.heap.size ≤ i):Fr S a c :=
 ⟨k.os.trans h.os,k.tape.trans h.tape,k.output.trans h.output,Nat.le_trans h.size k.size,
  fun i hi hS=>(k.block i (Nat.lt_of_lt_of_le hi h.size) (fun ht=>(hT i ht).elim hS (fun h2=>absurd hi (by omega)))).trans (h.block i hi hS)⟩
theorem Fr.mono (h:Fr S w w') (hS:∀ k,S k→T k∨w.heap.size ≤ k):Fr T w w' :=
 ⟨h.os,h.tape,h.output,h.size,fun k hk hn=>h.block k hk (fun hs=>(hS k hs).elim hn (fun h2=>absurd hk (by omega)))⟩
theorem Fr.below {B:Nat} (h:Fr S w w') (hS:∀ k,S k→B ≤ k) (hB:B ≤ w.heap.size):Below B w w' :=
 ⟨h.os,h.tape,h.output,h.size,fun k hk=>h.block k (by omega) (fun hs=>by have:=hS k hs;omega)⟩
theorem Fr.cell (h:Fr S w w') {p:Addr} {v:Value} (hc:w.cell? p = some v) (hn:¬ S p.block):w'.cell? p = some v :=
 (World.cell?_of_block (h.block p.block (World.block_lt_of_cell? w p hc) hn)).trans hc
theorem Fr.heap (h:Fr S w w') {k:Nat} {o:Obj} (hc:w.heap[k]? = some o) (hn:¬ S k):w'.heap[k]? = some o :=
 (h.block k (Array.getElem?_eq_some_iff.1 hc).1 hn).trans hc
theorem Fr.alloc (S:Nat→Prop) (w:World) (o:Obj):Fr S w (w.alloc o):=⟨rfl,rfl,rfl,by simp,fun k hk _=>Below.heap_alloc w o k hk⟩
theorem Fr.drewN (S:Nat→Prop) (w:World) (n:Nat):Fr S w (w.drewN n):=⟨rfl,rfl,rfl,Nat.le_refl _,fun _ _ _=>rfl⟩
theorem Fr.drew (S:Nat→Prop) (w:World):Fr S w w.drew:=⟨rfl,rfl,rfl,Nat.le_refl _,fun _ _ _=>rfl⟩
theorem Fr.setCell (w:World) {p:Addr} (hp:S p.block) (v:Value):Fr S w (w.setCell p v) :=
 ⟨rfl,rfl,rfl,by simp [World.setCell],fun k _ hn=>Below.heap_setCell w p v k (fun e=>hn (e ▸ hp))⟩
def ext (S:Nat→Prop) (w w':World):Nat→Prop:=fun k=>S k∨(w.heap.size ≤ k∧k < w'.heap.size)
def In (S:Nat→Prop) (w:World):Prop:=∀ k,S k→k < w.heap.size
theorem In.ext (h:In S w) (hs:w.heap.size ≤ w'.heap.size):In (ext S w w') w':=fun k hk=>hk.elim (fun h1=>by have:=h k h1;omega) (fun h1=>h1.2)
def Row (e:TypeId) (S:Nat→Prop) (w:World) (v:Value) (xs:List Value):Prop :=
 w.ownsRow 0 e 1 v xs.length xs∧∀ k,v.ownBlock = some k→S k
theorem Row.nil (e:TypeId) (S:Nat→Prop) (w:World):Row e S w (.slice none 0 0) []:=⟨World.ownsRow_nil w 0 e 1,fun k hk=>by simp [Value.ownBlock] at hk⟩
theorem Row.mono {e:TypeId} {v:Value} {xs:List Value} (h:Row e S w v xs) (hS:∀ k,S k→T k):Row e T w v xs:=⟨h.1,fun k hk=>hS k (h.2 k hk)⟩
theorem Row.only {e:TypeId} {v:Value} {xs:List Value} (h:Row e S w v xs):Row e (fun k=>v.ownBlock = some k) w v xs:=⟨h.1,fun _ hk=>hk⟩
theorem Row.fr {e:TypeId} {v:Value} {xs:List Value} (h:Row e S w v xs) (hf:Fr T w w') (hd:∀ k,S k→¬ T k):Row e S w' v xs:=by
 refine ⟨⟨h.1.1,?_⟩,h.2⟩
 rcases h.1.2 with hn | ⟨g,cap,cur,rfl,hb,hg,rest⟩
 · exact .inl hn
 · exact .inr ⟨g,cap,cur,rfl,hb,hf.heap hg (hd g (h.2 g rfl)),rest⟩
theorem Row.slice {e:TypeId} {v:Value} {xs:List Value} (h:Row e S w v xs):∃ A c,v = .slice A xs.length c∧xs.length ≤ c∧c ≤ maxLen∧(A = none→xs = []∧c = 0)∧∀ p,A = some p→S p.block∧∀ j u,xs[j]? = some u→w.cell? (p.add j) = some u:=by
 rcases h.1.2 with ⟨rfl,hn⟩ | ⟨g,cap,cur,rfl,hb,hg,hnc,hcm,hcs,htake⟩
 · have hx:xs = []:=List.eq_nil_of_length_eq_zero hn
   subst hx
   exact ⟨none,0,rfl,Nat.le_refl _,by simp [maxLen],fun _=>⟨rfl,rfl⟩,fun p hp=>by simp at hp⟩
 · exact ⟨some ⟨g,0,none⟩,cap,rfl,hnc,hcm,fun h=>by simp at h,fun p hp=>by
     simp at hp
     subst hp
     exact ⟨h.2 g rfl,h.1.cells (g:=g) rfl⟩⟩
def Src (w:World) (A:Option Addr) (xs:List Value):Prop:=(A = none→xs = [])∧∀ p,A = some p→∀ j u,xs[j]? = some u→w.cell? (p.add j) = some u
theorem Src.fr {A:Option Addr} {xs:List Value} (h:Src w A xs) (hf:Fr T w w') (hd:∀ p,A = some p→¬ T p.block):Src w' A xs :=
 ⟨h.1,fun p hp j u hu=>hf.cell (h.2 p hp j u hu) (by have:=hd p hp;unfold Addr.add;split <;> exact this)⟩
theorem Src.below {A:Option Addr} {xs:List Value} (h:Src w A xs) (hb:Below w.heap.size w w'):Src w' A xs :=
 ⟨h.1,fun p hp j u hu=>(hb.cell (World.block_lt_of_cell? w _ (h.2 p hp j u hu))).trans (h.2 p hp j u hu)⟩
theorem Src.take {A:Option Addr} {xs:List Value} (h:Src w A xs) (n:Nat):Src w A (xs.take n) :=
 ⟨fun ha=>by rw [h.1 ha];simp,fun p hp j u hu=>h.2 p hp j u (by rw [List.getElem?_take] at hu;split at hu <;> simp_all)⟩
theorem Src.drop {A:Option Addr} {xs:List Value} (h:Src w A xs) (n:Nat):Src w (Option.map (fun x=>x.add n) A) (xs.drop n) :=
 ⟨fun ha=>by cases A with
  | none=>rw [h.1 rfl];simp
  | some p=>simp at ha,fun p hp j u hu=>by
  cases A with
  | none=>simp at hp
  | some q =>
   simp at hp
   subst hp
   rw [List.getElem?_drop] at hu
   have:=h.2 q rfl (n + j) u hu
   rwa [Addr.add_add]⟩
theorem Src.empty {A:Option Addr}:Src w A []:=⟨fun _=>rfl,fun p hp j u hu=>by simp at hu⟩
theorem Row.src {e:TypeId} {A:Option Addr} {n c:Nat} {xs:List Value} (h:Row e S w (.slice A n c) xs):Src w A xs:=by
 obtain ⟨A',c',he,h1,h2,h3,h4⟩:=h.slice
 simp at he
 obtain ⟨rfl,rfl,rfl⟩:=he
 exact ⟨fun ha=>(h3 ha).1,fun p hp=>(h4 p hp).2⟩
end
section
variable {P:Program}
theorem run_append_row (w:World) (t ty e:TypeId) (i:TypeInfo) (z:Value) (bytes:Nat) (ht:P.underlying t = some (.slice e)) (hi:P.info? e = some i) (hz:i.zero = some z)
  (hsize:i.size = 1) (hby:i.bytes = bytes) (hzs:z.cells.size = 1) {S:Nat→Prop} (v:Value) (xs ys:List Value) (hrow:Row e S w v xs) (A:Option Addr) (c:Nat) (hsrc:Src w A ys)
  (h1:∀ u ∈ ys,u.oneCell' = true) (hlen:xs.length + ys.length ≤ 70368744177664) (hbytes:(xs.length + ys.length) * bytes ≤ 140737488355328) :
  ∃ v' w',(Builtin.append_ #[t,t] ty #[v,.slice A ys.length c]).run P w = .ok v' w'∧Row e (fun k=>S k∨k = w.heap.size∧k < w'.heap.size) w' v' (xs ++ ys)∧Fr (fun k=>v.ownBlock = some k) w w':=by
 have hmax:∀ n,n ≤ 70368744177664→n ≤ maxLen:=fun n hn=>by unfold maxLen;omega
 cases A with
 | none =>
  have hy:ys = []:=hsrc.1 rfl
  subst hy
  refine ⟨v,w,?_,?_,Fr.refl _ _⟩
  · rcases hrow.1.2 with ⟨rfl,hn⟩ | ⟨g,cap,cur,rfl,hb,hg,hnc,rest⟩
    · simp [Builtin.append_,run_underlying ht,sizeOf,typeInfo,hi,Builtin.lenOf,Builtin.firstCells,loadCells,loadCellsFrom]
    · simp [Builtin.append_,run_underlying ht,sizeOf,typeInfo,hi,Builtin.lenOf,Builtin.firstCells,hnc,storeCells]
  · simp only [List.append_nil]
    exact hrow.mono fun k hk=>.inl hk
 | some p =>
  have hl:ys.length = ys.length * i.size:=by rw [hsize];simp
  have hnews:=hsrc.2 p rfl
  have grown:∀ (old:Nat),old < xs.length + ys.length →
    Row e (fun k=>S k∨k = w.heap.size∧k < (w.drew.alloc (.cells (xs.toArray ++ ys.toArray ++ Builtin.zeroCells z.cells (grownCap w (xs.length + ys.length) old e - (xs.length + ys.length))) e)).heap.size)
     (w.drew.alloc (.cells (xs.toArray ++ ys.toArray ++ Builtin.zeroCells z.cells (grownCap w (xs.length + ys.length) old e - (xs.length + ys.length))) e))
     (.slice (some ⟨w.heap.size,0,none⟩) (xs.length + ys.length) (grownCap w (xs.length + ys.length) old e)) (xs ++ ys):=by
   intro old ho
   have hge:=grownCap_ge w (xs.length + ys.length) old e
   have hcm:grownCap w (xs.length + ys.length) old e ≤ maxLen:=grownCap_le_maxLen w _ old e (hmax _ hlen)
   refine ⟨⟨by simp,.inr ⟨w.heap.size,_,_,by rw [List.length_append],Nat.zero_le _,heap_alloc_new w.drew _,by rw [List.length_append];exact hge,hcm,?_,?_⟩⟩,fun k hk=>?_⟩
   · simp only [Array.size_append,List.size_toArray,size_zeroCells,hzs]
     omega
   · simp only [Array.toList_append,List.append_assoc,Nat.mul_one,List.length_append]
     rw [← List.append_assoc,← List.length_append]
     exact List.take_left
   · simp [Value.ownBlock] at hk
     subst hk
     exact .inr ⟨rfl,by simp⟩
  rcases hrow.1.2 with ⟨rfl,hn⟩ | ⟨g,cap,cur,rfl,hbg,hg,hnc,hcm,hcs,htake⟩
  · have hx:xs = []:=List.eq_nil_of_length_eq_zero hn
    subst hx
    by_cases hm:ys.length = 0
    · have hy:ys = []:=List.eq_nil_of_length_eq_zero hm
      subst hy
      refine ⟨.slice none 0 0,w,?_,Row.nil _ _ _,Fr.refl _ _⟩
      simp [Builtin.append_,run_underlying ht,sizeOf,typeInfo,hi,Builtin.lenOf,Builtin.firstCells,loadCells,loadCellsFrom]
    · have hr:=run_append_nil (P:=P) w t ty e i z ht hi hz p ys.length c ys hl hnews (by omega) (by simp only [List.length_nil] at hlen;omega) (by simp only [List.length_nil,Nat.zero_add] at hbytes;rw [hby];omega)
      have hgr:=grown 0 (by omega)
      simp only [List.length_nil,Nat.zero_add,List.nil_append,Array.empty_append] at hgr ⊢
      exact ⟨_,_,hr,hgr,⟨rfl,rfl,rfl,by simp,fun k hk _=>Below.heap_alloc w.drew _ k hk⟩⟩
  · by_cases hroom:xs.length + ys.length ≤ cap
    · have hfit:xs.length * i.size + ys.length ≤ cur.size:=by rw [hsize,hcs];omega
      have hr:=run_append_room (P:=P) w t ty e i ht hi g xs.length cap cur hg p ys.length c ys hl hnews h1 hroom hfit
      refine ⟨_,_,hr,⟨⟨by simp,.inr ⟨g,cap,_,by rw [List.length_append],hbg,setRow_heap w g cur _ e _ hg,by rw [List.length_append];exact hroom,hcm,?_,?_⟩⟩,fun k hk=>?_⟩,⟨rfl,rfl,rfl,by simp,fun k _ hk=>setRow_other w g k _ (fun e=>hk (by simp [Value.ownBlock,e]))⟩⟩
      · simp only [List.size_toArray,List.length_append,List.length_take,List.length_drop,Array.length_toList]
        rw [hsize]
        omega
      · rw [hsize,htake,Nat.mul_one]
        exact List.take_left
      · simp [Value.ownBlock] at hk
        subst hk
        exact .inl (hrow.2 g rfl)
    · have holds:∀ j u,xs[j]? = some u→w.cell? ((⟨g,0,none⟩:Addr).add j) = some u:=hrow.1.cells (g:=g) rfl
      have hr:=run_append_grow (P:=P) w t ty e i z ht hi hz ⟨g,0,none⟩ xs.length cap xs (by rw [hsize];simp) holds p ys.length c ys hl hnews (by omega) (by omega) (growslice_fits (by omega) (by rw [hby];exact hbytes))
      have hgr:=grown cap (by omega)
      exact ⟨_,_,hr,hgr,⟨rfl,rfl,rfl,by simp,fun k hk _=>Below.heap_alloc w.drew _ k hk⟩⟩
theorem wpList_append_row {ops:Array Oper} {rest:List Oper} {o:Oper} {a:Act} {Q:Exit→Act→World→Prop} (w:World) (hgd:o.guard = none) (s x:Operand) (t e:TypeId)
  (ho:o.op = .call { callee:=.builtin .append,args:=#[s,x],argTypes:=#[t,t] }) (z:Value) (bytes:Nat) (ht:P.underlying t = some (.slice e))
  (hinfo:(P.info? e).map (fun i=>(i.zero,i.size,i.bytes)) = some (some z,1,bytes)) (hzs:z.cells.size = 1) {S:Nat→Prop} (v:Value) (xs ys:List Value) (hs:a.eval s = v) (hrow:Row e S w v xs)
  (A:Option Addr) (n c:Nat) (hx:a.eval x = .slice A n c) (hn:n = ys.length) (hsrc:Src w A ys) (h1:∀ u ∈ ys,u.oneCell' = true) (hlen:xs.length + ys.length ≤ 70368744177664) (hbytes:(xs.length + ys.length) * bytes ≤ 140737488355328)
  (h:∀ v' w',Row e (fun k=>S k∨k = w.heap.size∧k < w'.heap.size) w' v' (xs ++ ys)→Fr (fun k=>v.ownBlock = some k) w w'→wpList P ops Q rest (a.put o.dst v') w'):wpList P ops Q (o :: rest) a w:=by
 refine wpList_plain hgd fun K hK=>?_
 obtain ⟨i,hi,hz,hsize,hby⟩:=info_parts hinfo
 subst hn
 obtain ⟨v',w',hrun,hr,hf⟩:=run_append_row (P:=P) w t o.type e i z bytes ht hi hz hsize hby hzs v xs ys hrow A c hsrc h1 hlen hbytes
 unfold Oper.wp
 simp [execOp,ho,resolve,invoke,builtin,hs,hx,hrun,Result.andThen]
 exact hK _ _ (h v' w' hr hf)
end
theorem cells_at {w:World} {g:Nat} {cs:Array Value} {t:TypeId} {fr:Nat × Nat} (h:w.heap[g]? = some (.cells cs t fr)) (j:Nat):w.cell? ⟨g,j,none⟩ = cs[j]?:=by
 simp [World.cell?,h]
theorem free_at {w:World} {g:Nat} {cs:Array Value} {t:TypeId} (h:w.heap[g]? = some (.cells cs t (0,0))) (j:Nat):w.frozen? ⟨g,j,none⟩ = false:=by
 simp [World.frozen?,h]
theorem block_set {w:World} {g:Nat} {cs:Array Value} {t:TypeId} {fr:Nat × Nat} (h:w.heap[g]? = some (.cells cs t fr)) (j:Nat) (u:Value) :
  (w.setCell ⟨g,j,none⟩ u).heap[g]? = some (.cells (cs.setIfInBounds j u) t fr):=by
 simp [World.setCell,Array.getElem?_modify,h]
theorem lt_of_block {w:World} {g:Nat} {o:Obj} (h:w.heap[g]? = some o):g < w.heap.size:=(Array.getElem?_eq_some_iff.1 h).1
end Go.Proofs.YtfdmdmahddjjmaaGreatDoor.Own
namespace Go.Proofs.YtfdmdmahddjjmaaGreatDoor.Text
def dg (n:Nat):UInt8:=UInt8.ofNat (48 + n % 10)
def lastL:Nat→Nat→List UInt8
 | 0,_=>[]
 | k + 1,n=>dg (n / 10 ^ k) :: lastL k n
def digs (n:Nat):List UInt8:=if h:n < 10 then [dg n] else digs (n / 10) ++ [dg n]
termination_by n
theorem lastL_len:∀ k n,(lastL k n).length = k
 | 0,_=>rfl
 | k + 1,n=>by simp [lastL,lastL_len k n]
theorem digs_small {n:Nat} (h:n < 10):digs n = [dg n]:=by rw [digs,dif_pos h]
theorem digs_big {n:Nat} (h:¬ n < 10):digs n = digs (n / 10) ++ [dg n]:=by rw [digs,dif_neg h]
theorem digs_last (n:Nat):∀ k,10 ^ k ≤ n∨k = 0→digs n = digs (n / 10 ^ k) ++ lastL k n
 | 0,_=>by simp [lastL]
 | k + 1,h=>by
   have hk:10 ^ (k + 1) ≤ n:=by omega
   have h1:10 ^ k ≤ n:=Nat.le_trans (Nat.pow_le_pow_right (by omega) (by omega)) hk
   rw [digs_last n k (.inl h1)]
   have h2:¬ n / 10 ^ k < 10:=by
    intro h3
    have:=(Nat.div_lt_iff_lt_mul (Nat.pow_pos (by omega:0 < 10))).1 h3
    rw [Nat.pow_succ] at hk
    omega
   rw [digs_big h2,Nat.div_div_eq_div_mul,← Nat.pow_succ]
   simp [lastL]
theorem digs_len_pos (n:Nat):0 < (digs n).length:=by
 rw [digs]
 split <;> simp
theorem dg_nat (n:Nat):(dg n).toNat = 48 + n % 10:=by
 unfold dg
 rw [UInt8.toNat_ofNat']
 omega
end Go.Proofs.YtfdmdmahddjjmaaGreatDoor.Text
namespace Go.Proofs.YtfdmdmahddjjmaaGreatDoor
open Go.RowKit Own
def str (l:List UInt8):ByteArray:=⟨l.toArray⟩
theorem str_append (a b:List UInt8):str a ++ str b = str (a ++ b):=by
 apply ByteArray.ext
 simp [str,ByteArray.data_append]
theorem str_size (l:List UInt8):(str l).size = l.length:=by simp [str,ByteArray.size]
theorem str_list (s:ByteArray):∃ l,s = str l:=⟨s.data.toList,by simp [str]⟩
theorem str_inj {a b:List UInt8} (h:str a = str b):a = b:=by
 have:=congrArg (fun s=>s.data.toList) h
 simpa [str] using this
def bv (l:List UInt8):List Value:=l.map fun b=>.int .u8 b.toNat
theorem bv_len (l:List UInt8):(bv l).length = l.length:=by simp [bv]
theorem bv_append (l m:List UInt8):bv (l ++ m) = bv l ++ bv m:=by simp [bv]
theorem bv_one (l:List UInt8):∀ u ∈ bv l,u.oneCell' = true:=by
 intro u hu
 simp [bv] at hu
 obtain ⟨b,_,rfl⟩:=hu
 rfl
def nums (l:List UInt8):List Int:=l.map fun b=>(b.toNat:Int)
theorem src_lit (w:World) (cs:Array Value) (e:TypeId) (fr:Nat × Nat):Src (w.alloc (.cells cs e fr)) (some ⟨w.heap.size,0,none⟩) cs.toList:=by
 refine ⟨fun h=>by simp at h,fun p hp j u hu=>?_⟩
 simp at hp
 subst hp
 have hh:=heap_alloc_new w (.cells cs e fr)
 rw [Addr.add_lit,cells_at hh,Nat.zero_add]
 simpa using hu
theorem conv_src {w:World} {A:Option Addr} {out:List UInt8} (h:Src w A (bv out)) (n c:Nat) (hn:n = out.length):(convert 28 9 (.slice A n c)).run Tryz.prog w = .ok (.string (str out)) w:=by
 subst hn
 cases A with
 | none =>
  have ho:out = []:=by simpa [bv] using h.1 rfl
  subst ho
  exact run_convert_bytes_nil w 28 5 Tryz.underlying28 Tryz.underlying5 0 c 9 Tryz.underlying9
 | some ad =>
  have hl:(loadCells ad out.length).run Tryz.prog w = .ok ((nums out).map (Value.int .u8)).toArray w:=by
   have:=run_loadCells_list (P:=Tryz.prog) w ad (bv out) (fun j v hj=>h.2 ad rfl j v hj)
   rw [bv_len] at this
   rw [this]
   simp [bv,nums,Function.comp_def]
  rw [run_convert_bytes_string w 28 9 5 _ _ c Tryz.underlying28 Tryz.underlying5 Tryz.underlying9,run_bytesToString w ad _ c (nums out) hl,foldl_push_bytes]
  simp [nums,str,ByteArray.empty,ByteArray.emptyWithCapacity,Function.comp_def]
  rfl
theorem conv_one (w:World) (c:UInt8) (x:Int) (hx:x = (c.toNat:Int)):(convert 28 9 (.slice (some ⟨w.heap.size,0,none⟩) 1 1)).run Tryz.prog (w.alloc (.cells #[.int .u8 x] 5)) = .ok (.string (str [c])) (w.alloc (.cells #[.int .u8 x] 5)):=by
 subst hx
 exact conv_src (out:=[c]) (src_lit w #[.int .u8 c.toNat] 5 (0,0)) 1 1 rfl
theorem pow_le {k n:Nat} (h:10 ^ k ≤ n) (hn:n ≤ 9223372036854775807):k ≤ 18:=by
 rcases Nat.lt_or_ge 18 k with c | c
 · have:=Nat.pow_le_pow_right (show 0 < 10 by omega) (show 19 ≤ k by omega)
   omega
 · exact c
theorem digits_any (n:Nat) (w:World) (hn:n ≤ 9223372036854775807) :
  Calls Tryz.prog 14 #[.int .i64 n] w fun e w'=>e = .returned (.string (str (Text.digs n)))∧Below w.heap.size w w':=by
 go_enter Tryz.func14,Tryz.ntmps14
 go_wp2_with fail
 go_loopw [0,3] (fun v0 v3 wr=>∃ k:Nat,v0 = .int .i64 ((n / 10 ^ k:Nat):Int)∧v3 = .string (str (Text.lastL k n))∧(10 ^ k ≤ n∨k = 0)∧k ≤ 25∧Below w.heap.size w wr) (fun v0 _ _=>(intOf v0).toNat)
 case atStart=>exact ⟨0,by simp,rfl,.inr rfl,by omega,Below.refl _ _⟩
 case round =>
  obtain ⟨k,rfl,rfl,hk,hk2,hbel⟩:=hrel
  obtain ⟨m,hm⟩:∃ m,m = n / 10 ^ k:=⟨_,rfl⟩
  have hmn:m ≤ n:=by rw [hm];exact Nat.div_le_self _ _
  have hl:=Text.lastL_len k n
  have hsz:=str_size (Text.lastL k n)
  rw [hl] at hsz
  rw [← hm]
  have HM:=hid hm
  have HSZ:=hid hsz
  have hs2:(str (Text.lastL k n)).size ≤ 25:=by omega
  clear hm hl hsz
  by_cases h9:9 < m
  · have e1:decide ((9:Int) < m) = true:=decide_eq_true (by omega)
    have cv:=conv_one wr (Text.dg m) (48 + (m:Int) % 10) (by rw [Text.dg_nat];omega)
    have ht:str [Text.dg m] ++ str (Text.lastL k n) = str (Text.lastL (k + 1) n):=by rw [str_append,HM.out];rfl
    have hs3:(str [Text.dg m]).size ≤ 1:=by rw [str_size];simp
    have hp:10 ^ (k + 1) ≤ n:=by
     have h1:=Nat.div_add_mod n (10 ^ k)
     rw [← HM.out] at h1
     rw [Nat.pow_succ]
     have h2:10 ^ k * 10 ≤ 10 ^ k * m:=Nat.mul_le_mul_left _ (by omega)
     omega
    have hk3:=pow_le hp hn
    have HP:=hid hp
    have HT:=hid ht
    clear hp
    go_wp2
    go_roundw
    case rel=>exact ⟨k + 1,by rw [Nat.pow_succ,← Nat.div_div_eq_div_mul,← HM.out];go_num,rfl,.inl HP.out,by omega,hbel.alloc hbel.size _⟩
    case measure=>simp [intOf];omega
  · have e1:decide ((9:Int) < m) = false:=decide_eq_false (by omega)
    have cv:=conv_one wr (Text.dg m) (48 + (m:Int)) (by rw [Text.dg_nat];omega)
    have hs3:(str [Text.dg m]).size ≤ 1:=by rw [str_size];simp
    have ht:str [Text.dg m] ++ str (Text.lastL k n) = str (Text.digs n):=by
     rw [str_append,Text.digs_last n k hk,← HM.out,Text.digs_small (by omega)]
    go_wp2
    go_ret
    exact ⟨rfl,hbel.alloc hbel.size _⟩
end Go.Proofs.YtfdmdmahddjjmaaGreatDoor
namespace Go.Proofs.YtfdmdmahddjjmaaGreatDoor
open Go.RowKit Own
theorem keep_below {B:Nat} {w w':World} {p:Addr} {v:Value} (hb:Below B w w') (hB:B = w.heap.size) (hc:w.cell? p = some v):w'.cell? p = some v:=by
 subst hB;exact (hb.cell (World.block_lt_of_cell? w _ hc)).trans hc
theorem keep_below_free {B:Nat} {w w':World} {p:Addr} (hb:Below B w w') (hB:p.block < B) (hc:w.frozen? p = false):w'.frozen? p = false:=(hb.frozen hB).trans hc
theorem below_then {a b c:World} (h:Below a.heap.size a b) (k:Below b.heap.size b c):Below a.heap.size a c:=h.trans (k.mono h.size)
end Go.Proofs.YtfdmdmahddjjmaaGreatDoor
namespace Go.Proofs.YtfdmdmahddjjmaaGreatDoor.Dec
open Go.Proofs.YtfdmdmahddjjmaaGreatDoor
def isDig (c:UInt8):Prop:=48 ≤ c.toNat∧c.toNat ≤ 57
instance (c:UInt8):Decidable (isDig c):=by unfold isDig;infer_instance
def numF (n:Nat) (l:List UInt8):Nat:=l.foldl (fun n c=>10 * n + (c.toNat - 48)) n
theorem numF_cons (n:Nat) (c:UInt8) (l:List UInt8):numF n (c :: l) = numF (10 * n + (c.toNat - 48)) l:=by simp only [numF,List.foldl_cons]
theorem numF_snoc (n:Nat) (l:List UInt8) (c:UInt8):numF n (l ++ [c]) = 10 * numF n l + (c.toNat - 48):=by simp [numF]
theorem numF_lt (l:List UInt8):∀ n k:Nat,n < 10 ^ k→(∀ c ∈ l,isDig c)→numF n l < 10 ^ (k + l.length):=by
 induction l with
 | nil=>intro n k h _;simpa only [numF,List.foldl_nil,List.length_nil,Nat.add_zero] using h
 | cons c l ih =>
  intro n k h hd
  have hc:=hd c (by simp)
  unfold isDig at hc
  have h1:10 * n + (c.toNat - 48) < 10 ^ (k + 1):=by rw [Nat.pow_succ];omega
  have:=ih _ _ h1 (fun x hx=>hd x (by simp [hx]))
  rw [numF_cons,List.length_cons,show k + (l.length + 1) = k + 1 + l.length by omega]
  exact this
theorem decFrom_all (l:List UInt8):∀ n:Nat,(∀ c ∈ l,isDig c)→Lib.decFrom n l = some (numF n l):=by
 induction l with
 | nil=>intro n _;rfl
 | cons c l ih =>
  intro n hd
  have hc:=hd c (by simp)
  unfold isDig at hc
  unfold Lib.decFrom Lib.digitVal
  rw [if_pos hc]
  show Lib.decFrom (n * 10 + (c.toNat - 48)) l = _
  rw [ih _ (fun x hx=>hd x (by simp [hx])),numF_cons,Nat.mul_comm]
theorem dg_dig (n:Nat):isDig (Text.dg n):=by unfold isDig;rw [Text.dg_nat];omega
theorem digs_dig (n:Nat):∀ c ∈ Text.digs n,isDig c:=by
 induction n using Text.digs.induct with
 | case1 n h=>rw [Text.digs_small h];intro c hc;rw [List.mem_singleton.mp hc];exact dg_dig n
 | case2 n h ih =>
  rw [Text.digs_big h]
  intro c hc
  rcases List.mem_append.mp hc with e | e
  · exact ih c e
  · rw [List.mem_singleton.mp e];exact dg_dig n
theorem digs_num (n:Nat):numF 0 (Text.digs n) = n:=by
 induction n using Text.digs.induct with
 | case1 n h=>rw [Text.digs_small h];simp [numF,Text.dg_nat];omega
 | case2 n h ih =>
  rw [Text.digs_big h,numF_snoc,ih,Text.dg_nat]
  omega
theorem digs_ne (n:Nat):Text.digs n ≠ []:=by
 intro h
 have:=Text.digs_len_pos n
 rw [h] at this
 simp at this
theorem decDigits_digs (n:Nat):Lib.decDigits n = Text.digs n:=by
 induction n using Text.digs.induct with
 | case1 n h =>
  rw [Text.digs_small h,Lib.decDigits,dif_pos h]
  unfold Text.dg
  rw [Nat.mod_eq_of_lt h]
 | case2 n h ih =>
  rw [Text.digs_big h,Lib.decDigits,dif_neg h,ih]
  rfl
theorem itoa_digs (n:Nat):Lib.itoa n = Text.digs n:=by
 unfold Lib.itoa
 rw [if_neg (by omega),Int.toNat_natCast,decDigits_digs]
def numP (l:List UInt8) (most:Int):Int × Bool :=
 if 10 < l.length then (0,false) else match Lib.atoi l with
  | none=>(0,false)
  | some n=>if Lib.itoa n ≠ l∨n < 0∨most < n then (0,false) else (n,true)
def numR (l:List UInt8) (most:Int):Int × Bool :=
 if l.length < 1∨10 < l.length then (0,false)
 else if ¬ ∀ c ∈ l,isDig c then (0,false)
 else if Text.digs (numF 0 l) ≠ l∨most < (numF 0 l:Int) then (0,false) else ((numF 0 l:Int),true)
theorem atoi_digits (l:List UInt8) (hne:l ≠ []) (hd:∀ c ∈ l,isDig c):Lib.atoi l = some (numF 0 l:Int):=by
 cases l with
 | nil=>exact absurd rfl hne
 | cons b r =>
  have hb:=hd b (by simp)
  unfold isDig at hb
  have h45:(b == 45) = false:=by rw [beq_eq_false_iff_ne];rintro rfl;exact absurd hb.1 (by decide)
  have h43:(b == 43) = false:=by rw [beq_eq_false_iff_ne];rintro rfl;exact absurd hb.1 (by decide)
  show (if (b == 45) = true then _ else if (b == 43) = true then _ else (Lib.decNat (b :: r)).map fun (m:Nat)=>(m:Int)) = _
  rw [h45,h43,if_neg (by decide),if_neg (by decide)]
  unfold Lib.decNat
  rw [if_neg (by simp),decFrom_all _ _ hd]
  rfl
theorem num_canon (n:Int) (l:List UInt8) (h0:0 ≤ n) (h:Lib.itoa n = l):l ≠ []∧(∀ c ∈ l,isDig c)∧(numF 0 l:Int) = n:=by
 obtain ⟨k,rfl⟩:∃ k:Nat,n = k:=⟨n.toNat,by omega⟩
 rw [itoa_digs] at h
 subst h
 exact ⟨digs_ne k,digs_dig k,by rw [digs_num]⟩
theorem num_eq (l:List UInt8) (most:Int):numP l most = numR l most:=by
 unfold numP numR
 by_cases h10:10 < l.length
 · rw [if_pos h10,if_pos (.inr h10)]
 rw [if_neg h10]
 by_cases h1:l.length < 1
 · rw [if_pos (.inl h1)]
   have:l = []:=List.eq_nil_of_length_eq_zero (by omega)
   subst this
   rfl
 rw [if_neg (show ¬ (l.length < 1∨10 < l.length) by omega)]
 have hne:l ≠ []:=by rintro rfl;simp at h1
 by_cases hd:∀ c ∈ l,isDig c
 · rw [if_neg (by simpa using hd),atoi_digits l hne hd]
   show (if Lib.itoa (numF 0 l:Int) ≠ l∨(numF 0 l:Int) < 0∨most < (numF 0 l:Int) then ((0:Int),false) else ((numF 0 l:Int),true)) = _
   rw [itoa_digs]
   by_cases hc:Text.digs (numF 0 l) ≠ l∨most < (numF 0 l:Int)
   · rw [if_pos hc,if_pos (by rcases hc with e | e;exact .inl e;exact .inr (.inr e))]
   · rw [if_neg hc,if_neg (by rintro (e | e | e);exact hc (.inl e);omega;exact hc (.inr e))]
 · rw [if_pos hd]
   cases ha:Lib.atoi l with
   | none=>rfl
   | some n =>
    show (if Lib.itoa n ≠ l∨n < 0∨most < n then ((0:Int),false) else (n,true)) = _
    rw [if_pos]
    by_cases h0:n < 0
    · exact .inr (.inl h0)
    · exact .inl (fun e=>hd (num_canon n l (by omega) e).2.1)
end Go.Proofs.YtfdmdmahddjjmaaGreatDoor.Dec
namespace Go.Proofs.YtfdmdmahddjjmaaGreatDoor.Spl
open Go
def splitL (c:UInt8):List UInt8→List (List UInt8)
 | []=>[[]]
 | x :: t=>if x = c then [] :: splitL c t else match splitL c t with
   | []=>[[x]]
   | h :: r=>(x :: h) :: r
theorem splitL_ne (c:UInt8):∀ l:List UInt8,splitL c l ≠ []
 | []=>by simp [splitL]
 | x :: t=>by
   unfold splitL
   split
   · simp
   · split <;> simp
theorem splitL_none {c:UInt8}:∀ {l:List UInt8},c ∉ l→splitL c l = [l]
 | [],_=>rfl
 | x :: t,h=>by
   have h1:x ≠ c:=fun e=>h (by rw [e];simp)
   have h2:c ∉ t:=fun e=>h (by simp [e])
   unfold splitL
   rw [if_neg h1,splitL_none h2]
theorem splitL_at {c:UInt8}:∀ {a:List UInt8} (b:List UInt8),c ∉ a→splitL c (a ++ c :: b) = a :: splitL c b
 | [],b,_=>by simp [splitL]
 | x :: t,b,h=>by
   have h1:x ≠ c:=fun e=>h (by rw [e];simp)
   have h2:c ∉ t:=fun e=>h (by simp [e])
   rw [List.cons_append]
   show (if x = c then _ else _) = _
   rw [if_neg h1,splitL_at b h2]
theorem first (c:UInt8):∀ l:List UInt8,c ∉ l∨∃ a b,l = a ++ c :: b∧c ∉ a
 | []=>.inl (by simp)
 | x :: t=>by
   by_cases hx:x = c
   · exact .inr ⟨[],t,by rw [hx];rfl,by simp⟩
   · rcases first c t with h | ⟨a,b,h,h2⟩
     · exact .inl (by simp [Ne.symm hx,h])
     · exact .inr ⟨x :: a,b,by rw [h];rfl,by simp [Ne.symm hx,h2]⟩
theorem index_none {c:UInt8}:∀ {l:List UInt8},c ∉ l→Lib.index l [c] = -1
 | [],_=>by simp [Lib.index,List.isPrefixOf]
 | x :: t,h=>by
   have h1:(c == x) = false:=by rw [beq_eq_false_iff_ne];exact fun e=>h (by rw [e];simp)
   have h2:c ∉ t:=fun e=>h (by simp [e])
   unfold Lib.index
   simp [List.isPrefixOf,h1,index_none h2]
theorem index_at {c:UInt8}:∀ {a:List UInt8} (b:List UInt8),c ∉ a→Lib.index (a ++ c :: b) [c] = a.length
 | [],b,_=>by simp [Lib.index,List.isPrefixOf]
 | x :: t,b,h=>by
   have h1:(c == x) = false:=by rw [beq_eq_false_iff_ne];exact fun e=>h (by rw [e];simp)
   have h2:c ∉ t:=fun e=>h (by simp [e])
   rw [List.cons_append]
   unfold Lib.index
   have hne:((t.length:Int) == -1) = false:=by rw [beq_eq_false_iff_ne];omega
   simp [List.isPrefixOf,h1,index_at b h2,hne]
theorem cut_none {c:UInt8} {l:List UInt8} (h:c ∉ l):Lib.cut l [c] = (l,[],false):=by
 unfold Lib.cut
 rw [index_none h,if_neg (by decide)]
theorem cut_at {c:UInt8} {a:List UInt8} (b:List UInt8) (h:c ∉ a):Lib.cut (a ++ c :: b) [c] = (a,b,true):=by
 unfold Lib.cut
 rw [index_at b h,if_pos (by omega)]
 simp
theorem split_eq (c:UInt8):∀ (n:Nat) (l:List UInt8),l.length ≤ n→Lib.split l [c] = splitL c l
 | n,l,hn=>by
   unfold Lib.split
   rcases first c l with h | ⟨a,b,rfl,h⟩
   · rw [Lib.count_miss (index_none h),splitL_none h];rfl
   · have hi:=index_at b h
     rw [Lib.count_hit (i:=a.length) (by simp) hi,splitL_at b h,Nat.add_comm 1]
     cases n with
     | zero=>simp at hn
     | succ n =>
      have ih:=split_eq c n b (by simp at hn;omega)
      unfold Lib.split at ih
      have hd:(a ++ c :: b).drop (a.length + [c].length) = b:=by
       rw [show a ++ c :: b = (a ++ [c]) ++ b by simp,show a.length + [c].length = (a ++ [c]).length by simp,List.drop_left]
      have hm:¬ (Lib.index (a ++ c :: b) [c] == -1) = true:=fun e=>by have:=beq_iff_eq.1 e;omega
      unfold Lib.splitK
      rw [if_neg hm,hi,Int.toNat_natCast,hd,ih,Nat.add_zero,List.take_left]
theorem splitL_len (c:UInt8):∀ l:List UInt8,(splitL c l).length ≤ l.length + 1
 | []=>by simp [splitL]
 | x :: t=>by
   have:=splitL_len c t
   unfold splitL
   split
   · simp;omega
   · split
     · simp
     · rename_i h r he;rw [he] at this;simp at this ⊢;omega
theorem splitL_parts (c:UInt8):∀ (l:List UInt8),∀ x ∈ splitL c l,c ∉ x∧x.length ≤ l.length
 | [],x,hx=>by simp [splitL] at hx;subst hx;simp
 | y :: t,x,hx=>by
   have ih:=splitL_parts c t
   unfold splitL at hx
   split at hx
   · rcases List.mem_cons.1 hx with rfl | h
     · simp
     · obtain ⟨h1,h2⟩:=ih x h
       exact ⟨h1,by simp;omega⟩
   · rename_i hy
     split at hx
     · simp at hx
       subst hx
       exact ⟨by simp [Ne.symm hy],by simp⟩
     · rename_i h r he
       rcases List.mem_cons.1 hx with rfl | h3
       · obtain ⟨h1,h2⟩:=ih h (by rw [he];simp)
         exact ⟨by simp [Ne.symm hy,h1],by simp;omega⟩
       · obtain ⟨h1,h2⟩:=ih x (by rw [he];simp [h3])
         exact ⟨h1,by simp;omega⟩
end Go.Proofs.YtfdmdmahddjjmaaGreatDoor.Spl
namespace Go.Proofs.YtfdmdmahddjjmaaGreatDoor
open Go.RowKit Own
theorem free_below {w:World} {g:Nat} {cs:Array Value} {t:TypeId} {f1 f2:Nat} (h:w.heap[g]? = some (.cells cs t (f1,f2))) (j:Nat) (hj:j < f1):w.frozen? ⟨g,j,none⟩ = false:=by
 simp [World.frozen?,h];omega
def mapMix (f:UInt8→UInt8) (i:Nat) (l:List UInt8):List UInt8:=(l.map f).take i ++ l.drop i
theorem mapMix_len (f:UInt8→UInt8) (i:Nat) (l:List UInt8):(mapMix f i l).length = l.length:=by simp [mapMix];omega
theorem mapMix_zero (f:UInt8→UInt8) (l:List UInt8):mapMix f 0 l = l:=by simp [mapMix]
theorem mapMix_all (f:UInt8→UInt8) (l:List UInt8):mapMix f l.length l = l.map f:=by
 unfold mapMix
 rw [List.take_of_length_le (by simp),List.drop_length,List.append_nil]
theorem mapMix_at (f:UInt8→UInt8) (i:Nat) (l:List UInt8) (h:i < l.length):(mapMix f i l)[i]? = some l[i]:=by
 simp [mapMix,List.getElem?_append,h,Nat.le_of_lt h]
theorem mapMix_set (f:UInt8→UInt8) (i:Nat) (l:List UInt8) (h:i < l.length):(mapMix f i l).set i (f l[i]) = mapMix f (i + 1) l:=by
 apply List.ext_getElem?
 intro k
 by_cases hk:k = i
 · subst hk
   simp [mapMix,mapMix_len,List.getElem?_set,List.getElem?_append,List.getElem?_take,h,Nat.le_of_lt h]
   omega
 · simp only [List.getElem?_set,Ne.symm hk,if_false,mapMix,List.getElem?_append,List.length_take,List.length_map,List.getElem?_drop,List.getElem?_take]
   rcases Nat.lt_or_ge k i with c | c
   · simp [Nat.min_eq_left (Nat.le_of_lt h),c,Nat.min_eq_left (show i + 1 ≤ l.length by omega),show k < i + 1 by omega]
   · have:¬ k < i + 1:=by omega
     simp [Nat.min_eq_left (Nat.le_of_lt h),Nat.not_lt.mpr c,Nat.min_eq_left (show i + 1 ≤ l.length by omega),this]
     congr 1;omega
def mapCells (f:UInt8→UInt8) (i:Nat) (l:List UInt8) (rest:List Value):Array Value:=(bv (mapMix f i l) ++ rest).toArray
theorem mapCells_at (f:UInt8→UInt8) (i:Nat) (l:List UInt8) (rest:List Value) (h:i < l.length):(mapCells f i l rest)[i]? = some (.int .u8 l[i].toNat):=by
 have h2:=mapMix_len f i l
 have h3:=mapMix_at f i l h
 simp only [mapCells,List.getElem?_toArray]
 rw [List.getElem?_append_left (by rw [bv_len];omega)]
 simp [bv,h3]
theorem mapCells_set (f:UInt8→UInt8) (i:Nat) (l:List UInt8) (rest:List Value) (h:i < l.length):(mapCells f i l rest).setIfInBounds i (.int .u8 (f l[i]).toNat) = mapCells f (i + 1) l rest:=by
 have h2:=mapMix_len f i l
 unfold mapCells
 rw [List.setIfInBounds_toArray]
 congr 1
 rw [List.set_append_left _ _ (by rw [bv_len];omega),← mapMix_set f i l h]
 simp [bv,List.map_set]
theorem mapCells_keep (f:UInt8→UInt8) (i:Nat) (l:List UInt8) (rest:List Value) (h:i < l.length) (hk:f l[i] = l[i]):mapCells f i l rest = mapCells f (i + 1) l rest:=by
 have h2:=mapMix_len f i l
 unfold mapCells
 congr 2
 rw [← mapMix_set f i l h,hk]
 congr 1
 symm
 apply List.ext_getElem?
 intro k
 rw [List.getElem?_set]
 split
 · rename_i e;subst e;rw [mapMix_at f i l h];simp [h2,h]
 · rfl
def moveB (a b:Nat) (c:UInt8):UInt8:=if a ≤ c.toNat∧c.toNat < a + 26 then UInt8.ofNat (c.toNat - a + b) else c
theorem turned_any (l:List UInt8) (a b:Nat) (ha:a + 26 ≤ 255) (hb:b + 26 ≤ 255) (w:World) (hl:l.length ≤ 9223372036854775806) :
  Calls Tryz.prog 88 #[.string (str l),.int .u8 a,.int .u8 b] w fun e w'=>e = .returned (.string (str (l.map (moveB a b))))∧Below w.heap.size w w':=by
 have hsz:=str_size l
 have cv:=Lib.run_convert_string_bytes (P:=Tryz.prog) w 9 28 5 (str l) Tryz.underlying9 Tryz.underlying28 Tryz.underlying5
 go_enter Tryz.func88,Tryz.ntmps88
 go_wp2_with fail
 have hb1:=Lib.bytesWorld_at_new w 5 (str l)
 have hcs:Lib.bytesCells w 5 (str l) = mapCells (moveB a b) 0 l (List.replicate (grownCap w (str l).size 0 5 - (str l).size) (.int .u8 0)):=by
  apply Array.ext'
  simp [Lib.bytesCells,mapCells,mapMix_zero,bv,str]
 have hf:∃ f,(Lib.bytesCells w 5 (str l)).size = f∧l.length ≤ f:=⟨_,rfl,by rw [hcs];simp [mapCells,bv_len,mapMix_len]⟩
 obtain ⟨f,hf,hlf⟩:=hf
 rw [hf] at hb1
 have L1:Below w.heap.size w (Lib.bytesWorld w 5 (str l)):=⟨rfl,rfl,rfl,by rw [Lib.bytesWorld_size];omega,fun k hk=>Lib.bytesWorld_at_old _ _ _ k hk⟩
 generalize List.replicate (grownCap w (str l).size 0 5 - (str l).size) (Value.int .u8 0) = rest at hcs
 rw [hcs] at hb1
 have HB1:=hid hb1
 have HL1:=hid L1
 clear hb1 L1 hf hcs cv
 go_loopw [14] (fun v10 wr=>∃ i:Nat,i ≤ l.length∧v10 = .int .i64 i∧wr.heap[w.heap.size]? = some (.cells (mapCells (moveB a b) i l rest) 5 (f,f + 1))∧Below w.heap.size w wr) (fun v10 _=>l.length - (intOf v10).toNat)
 case atStart=>exact ⟨0,Nat.zero_le _,rfl,HB1.out,HL1.out⟩
 case round =>
  obtain ⟨i,him,rfl,hB,hbel⟩:=hrel
  have HB:=hid hB
  have HBE:=hid hbel
  clear hB hbel
  by_cases hil:i < l.length
  · have e1:decide ((i:Int) < l.length) = true:=decide_eq_true (by omega)
    obtain ⟨c,hc⟩:∃ c,c = l[i]:=⟨_,rfl⟩
    have hcell:wr.cell? ⟨w.heap.size,i,none⟩ = some (.int .u8 c.toNat):=by
     rw [cells_at HB.out,mapCells_at _ i l rest hil,hc]
    have hf:=free_below HB.out i (by omega)
    have hset:=mapCells_set (moveB a b) i l rest hil
    have hkeep:=mapCells_keep (moveB a b) i l rest hil
    rw [← hc] at hset hkeep
    have HS:=hid hset
    have HK:=hid hkeep
    have hlt:=c.toNat_lt
    clear hset hkeep hc
    by_cases h1:a ≤ c.toNat
    · have e2:decide ((a:Int) ≤ (c.toNat:Int)) = true:=decide_eq_true (by omega)
      by_cases h2:c.toNat < a + 26
      · have e3:decide ((c.toNat:Int) < (a:Int) + 26) = true:=decide_eq_true (by omega)
        have hm:(moveB a b c).toNat = c.toNat - a + b:=by
         unfold moveB
         rw [if_pos ⟨h1,h2⟩]
         simp
         omega
        have HM:=hid hm
        clear hm
        go_wp2
        go_roundw
        case rel =>
         have hB2:=block_set HB.out i (.int .u8 (moveB a b c).toNat)
         rw [HS.out,HM.out] at hB2
         refine ⟨i + 1,by omega,by go_num,?_,HBE.out.setCell (by simp) _⟩
         have hv:((c.toNat:Int) - a + b) = ((c.toNat - a + b:Nat):Int):=by omega
         rw [hv]
         exact hB2
        case measure=>simp [intOf];omega
      · have e3:decide ((c.toNat:Int) < (a:Int) + 26) = false:=decide_eq_false (by omega)
        have hk:moveB a b c = c:=by unfold moveB;rw [if_neg (fun h=>h2 h.2)]
        have hB1:=HB.out
        rw [HK.out hk] at hB1
        have HB1':=hid hB1
        clear hB1 hk
        go_wp2
        go_roundw
        case rel=>exact ⟨i + 1,by omega,by go_num,HB1'.out,HBE.out⟩
        case measure=>simp [intOf];omega
    · have e2:decide ((a:Int) ≤ (c.toNat:Int)) = false:=decide_eq_false (by omega)
      have hk:moveB a b c = c:=by unfold moveB;rw [if_neg (fun h=>h1 h.1)]
      have hB1:=HB.out
      rw [HK.out hk] at hB1
      have HB1':=hid hB1
      clear hB1 hk
      go_wp2
      go_roundw
      case rel=>exact ⟨i + 1,by omega,by go_num,HB1'.out,HBE.out⟩
      case measure=>simp [intOf];omega
  · have e1:decide ((i:Int) < l.length) = false:=decide_eq_false (by omega)
    have hi2:i = l.length:=by omega
    have hsrc:Src wr (some ⟨w.heap.size,0,none⟩) (bv (l.map (moveB a b))):=by
     refine ⟨fun h=>by simp at h,fun p hp j u hu=>?_⟩
     simp at hp
     subst hp
     have hj:j < (bv (l.map (moveB a b))).length:=(List.getElem?_eq_some_iff.1 hu).1
     rw [Addr.add_lit,cells_at HB.out,Nat.zero_add]
     subst hi2
     simp only [mapCells,List.getElem?_toArray,mapMix_all]
     rw [List.getElem?_append_left hj]
     exact hu
    have cv:=conv_src hsrc l.length (grownCap w l.length 0 5) (by simp)
    clear hi2 hsrc
    go_wp2
    go_ret
    exact ⟨rfl,HBE.out⟩
end Go.Proofs.YtfdmdmahddjjmaaGreatDoor
namespace Go.Proofs.YtfdmdmahddjjmaaGreatDoor
open Go.RowKit Own Dec
theorem str_toList (l:List UInt8):(str l).toList = l:=ByteArray.toList_mk l
attribute [local go_sem] str_toList
theorem numR_short (l:List UInt8) (most:Int) (h:l.length < 1∨10 < l.length):numR l most = (0,false):=by unfold numR;rw [if_pos h]
theorem numR_other (l:List UInt8) (most:Int) (h:¬ ∀ c ∈ l,isDig c):numR l most = (0,false):=by
 unfold numR
 split
 · rfl
 · first | rfl | rw [if_pos h]
theorem numR_digits (l:List UInt8) (most:Int) (h1:1 ≤ l.length) (h2:l.length ≤ 10) (h:∀ c ∈ l,isDig c) :
  numR l most = if Text.digs (numF 0 l) ≠ l∨most < (numF 0 l:Int) then (0,false) else ((numF 0 l:Int),true):=by
 unfold numR
 rw [if_neg (by omega),if_neg (fun c=>c h)]
end Go.Proofs.YtfdmdmahddjjmaaGreatDoor
namespace Go.Proofs.YtfdmdmahddjjmaaGreatDoor
open Go.RowKit Own
def GBuf (e:TypeId) (sz:Nat) (B:Nat) (w:World) (v:Value) (n:Nat) (xs:List Value):Prop:=w.ownsRow B e sz v n xs∧B ≤ w.heap.size
section
variable {e:TypeId} {sz B:Nat} {w w':World} {v:Value} {n:Nat} {xs:List Value}
theorem GBuf.nil (h:B ≤ w.heap.size):GBuf e sz B w (.slice none 0 0) 0 []:=⟨World.ownsRow_nil w B e sz,h⟩
theorem GBuf.keep (h:GBuf e sz B w v n xs) (hb:Below w.heap.size w w'):GBuf e sz B w' v n xs:=by
 refine ⟨⟨h.1.1,?_⟩,Nat.le_trans h.2 hb.size⟩
 rcases h.1.2 with hn | ⟨g,cap,cur,rfl,hb2,hg,rest⟩
 · exact .inl hn
 · exact .inr ⟨g,cap,cur,rfl,hb2,(hb.block g (lt_of_block hg)).trans hg,rest⟩
theorem GBuf.alloc (h:GBuf e sz B w v n xs) (o:Obj):GBuf e sz B (w.alloc o) v n xs:=h.keep ((Below.refl _ _).alloc (Nat.le_refl _) o)
theorem GBuf.mono {B2:Nat} (h:GBuf e sz B2 w v n xs) (hB:B ≤ B2):GBuf e sz B w v n xs:=⟨h.1.mono hB,Nat.le_trans hB h.2⟩
theorem GBuf.full (h:GBuf e sz B w v n xs):∃ A c,v = .slice A n c∧n ≤ c∧(A = none→n = 0∧xs = [])∧∀ p,A = some p→∃ g,p = ⟨g,0,none⟩∧B ≤ g∧∀ j u,xs[j]? = some u→w.cell? ⟨g,j,none⟩ = some u:=by
 rcases h.1.2 with ⟨rfl,rfl⟩ | ⟨g,cap,cur,rfl,hb2,hg,h1,h2,h3,h4⟩
 · have hx:xs = []:=List.eq_nil_of_length_eq_zero (by rw [h.1.1];simp)
   exact ⟨none,0,rfl,Nat.le_refl _,fun _=>⟨rfl,hx⟩,fun p hp=>by cases hp⟩
 · refine ⟨_,_,rfl,h1,(fun hh=>by cases hh),fun p hp=>?_⟩
   obtain rfl:(⟨g,0,none⟩:Addr) = p:=Option.some.inj hp
   refine ⟨g,rfl,hb2,fun j u hu=>?_⟩
   have:=h.1.cells (g:=g) rfl j u hu
   rwa [Addr.add_lit,Nat.zero_add] at this
theorem GBuf.lit (w:World) (cs:Array Value) (n:Nat) (hn:n ≤ 1000000) (hs:cs.size = n * sz):GBuf e sz w.heap.size (w.alloc (.cells cs e (0,0))) (.slice (some ⟨w.heap.size,0,none⟩) n n) n cs.toList:=by
 refine ⟨⟨by rw [Array.length_toList,hs],.inr ⟨w.heap.size,n,cs,rfl,Nat.le_refl _,heap_alloc_new w _,Nat.le_refl _,by unfold maxLen;omega,hs,?_⟩⟩,by simp⟩
 exact List.take_of_length_le (by rw [Array.length_toList,hs];exact Nat.le_refl _)
theorem lit_cells (w:World) (cs:Array Value) (e:TypeId) (fr:Nat × Nat) (n:Nat) (hn:n = w.heap.size):∀ j u,cs.toList[j]? = some u→(w.alloc (.cells cs e fr)).cell? ((⟨n,0,none⟩:Addr).add j) = some u:=by
 subst hn
 intro j u hu
 rw [Addr.add_lit,cells_at (heap_alloc_new w _),Nat.zero_add]
 simpa using hu
end
theorem wpList_gbuf {P:Program} {ops:Array Oper} {rest:List Oper} {o:Oper} {a:Act} {Q:Exit→Act→World→Prop} (B:Nat) (w:World) (hgd:o.guard = none) (s x:Operand) (t e:TypeId) (sz bytes:Nat) (z:Value)
  (ho:o.op = .call { callee:=.builtin .append,args:=#[s,x],argTypes:=#[t,t] }) (ht:P.underlying t = some (.slice e)) (hinfo:(P.info? e).map (fun i=>(i.zero,i.size,i.bytes)) = some (some z,sz,bytes)) (hzs:z.cells.size = sz) (hsz:0 < sz)
  (v:Value) (n:Nat) (xs:List Value) (hs:a.eval s = v) (hbuf:GBuf e sz B w v n xs)
  (ad:Addr) (m c:Nat) (news:List Value) (hx:a.eval x = .slice (some ad) m c) (hl:news.length = m * sz) (hnews:∀ j u,news[j]? = some u→w.cell? (ad.add j) = some u) (h1:∀ u ∈ news,u.oneCell' = true)
  (hlen:n + m ≤ maxLen) (hbytes:(n + m) * bytes ≤ 140737488355328)
  (h:∀ v' w',GBuf e sz B w' v' (n + m) (xs ++ news)→Below B w w'→wpList P ops Q rest (a.put o.dst v') w'):wpList P ops Q (o :: rest) a w:=by
 obtain ⟨i,hi,hz,hsize,hby⟩:=info_parts hinfo
 refine wpList_append_own w hgd s x t ho B e i z sz bytes ht hi hz hsize hby hzs hsz v n xs hs hbuf.1 ad m c news hx hl hnews h1 hlen hbytes hbuf.2 ?_
 intro v' w' h2 h3 _
 exact h v' w' ⟨h2,Nat.le_trans hbuf.2 h3.size⟩ ⟨h3.os,h3.tape,h3.output,h3.size,fun k hk=>h3.block k (by have:=hbuf.2;omega) (fun e=>by have:=(hbuf.1.lt k e.symm).1;omega)⟩
end Go.Proofs.YtfdmdmahddjjmaaGreatDoor
namespace Go.Proofs.YtfdmdmahddjjmaaGreatDoor
open Go.RowKit Own
theorem great_any (l:List UInt8) (w:World) (hl:l.length ≤ 9223372036854775806) :
  Calls Tryz.prog 45 #[.string (str l)] w fun e w'=>e = .returned (.string (str (l.map (moveB 97 65))))∧Below w.heap.size w w':=by
 have ht:=turned_any l 97 65 (by omega) (by omega) w hl
 go_enter Tryz.func45,Tryz.ntmps45
 go_wp2_with ((go_at_call 88;refine ht.mono ?_;rintro e w1 ⟨rfl,hb⟩))
 go_ret
 exact ⟨rfl,hb⟩
theorem rgreat_any (l:List UInt8) (w:World) (hl:l.length ≤ 9223372036854775806) :
  Calls Tryz.prog 12 #[.string (str l)] w fun e w'=>e = .returned (.string (str (l.map (moveB 97 65))))∧Below w.heap.size w w':=by
 have hsz:=str_size l
 have cv:=Lib.run_convert_string_bytes (P:=Tryz.prog) w 9 28 5 (str l) Tryz.underlying9 Tryz.underlying28 Tryz.underlying5
 go_enter Tryz.func12,Tryz.ntmps12
 go_wp2_with fail
 have hb1:=Lib.bytesWorld_at_new w 5 (str l)
 have hcs:Lib.bytesCells w 5 (str l) = mapCells (moveB 97 65) 0 l (List.replicate (grownCap w (str l).size 0 5 - (str l).size) (.int .u8 0)):=by
  apply Array.ext'
  simp [Lib.bytesCells,mapCells,mapMix_zero,bv,str]
 have hf:∃ f,(Lib.bytesCells w 5 (str l)).size = f∧l.length ≤ f:=⟨_,rfl,by rw [hcs];simp [mapCells,bv_len,mapMix_len]⟩
 obtain ⟨f,hf,hlf⟩:=hf
 rw [hf] at hb1
 have L1:Below w.heap.size w (Lib.bytesWorld w 5 (str l)):=⟨rfl,rfl,rfl,by rw [Lib.bytesWorld_size];omega,fun k hk=>Lib.bytesWorld_at_old _ _ _ k hk⟩
 generalize List.replicate (grownCap w (str l).size 0 5 - (str l).size) (Value.int .u8 0) = rest at hcs
 rw [hcs] at hb1
 have HB1:=hid hb1
 have HL1:=hid L1
 clear hb1 L1 hf hcs cv
 go_loopw [4] (fun v10 wr=>∃ i:Nat,i ≤ l.length∧v10 = .int .i64 i∧wr.heap[w.heap.size]? = some (.cells (mapCells (moveB 97 65) i l rest) 5 (f,f + 1))∧Below w.heap.size w wr) (fun v10 _=>l.length - (intOf v10).toNat)
 case atStart=>exact ⟨0,Nat.zero_le _,rfl,HB1.out,HL1.out⟩
 case round =>
  obtain ⟨i,him,rfl,hB,hbel⟩:=hrel
  have HB:=hid hB
  have HBE:=hid hbel
  clear hB hbel
  by_cases hil:i < l.length
  · have e1:decide ((i:Int) < l.length) = true:=decide_eq_true (by omega)
    obtain ⟨c,hc⟩:∃ c,c = l[i]:=⟨_,rfl⟩
    have hcell:wr.cell? ⟨w.heap.size,i,none⟩ = some (.int .u8 c.toNat):=by
     rw [cells_at HB.out,mapCells_at _ i l rest hil,hc]
    have hf:=free_below HB.out i (by omega)
    have hset:=mapCells_set (moveB 97 65) i l rest hil
    have hkeep:=mapCells_keep (moveB 97 65) i l rest hil
    rw [← hc] at hset hkeep
    have HS:=hid hset
    have HK:=hid hkeep
    have hlt:=c.toNat_lt
    clear hset hkeep hc
    by_cases h1:97 ≤ c.toNat
    · have e2:decide (97 ≤ (c.toNat:Int)) = true:=decide_eq_true (by omega)
      by_cases h2:c.toNat ≤ 122
      · have e3:decide ((c.toNat:Int) ≤ 122) = true:=decide_eq_true (by omega)
        have hm:((moveB 97 65 c).toNat:Int) = (c.toNat:Int) - 32:=by
         unfold moveB
         rw [if_pos ⟨h1,by omega⟩]
         simp
         omega
        have HM:=hid hm
        clear hm
        go_wp2
        go_roundw
        case rel =>
         have hB2:=block_set HB.out i (.int .u8 (moveB 97 65 c).toNat)
         rw [HS.out,HM.out] at hB2
         exact ⟨i + 1,by omega,by go_num,hB2,HBE.out.setCell (by simp) _⟩
        case measure=>simp [intOf];omega
      · have e3:decide ((c.toNat:Int) ≤ 122) = false:=decide_eq_false (by omega)
        have hk:moveB 97 65 c = c:=by unfold moveB;rw [if_neg (fun h=>h2 (by omega))]
        have hB1:=HB.out
        rw [HK.out hk] at hB1
        have HB1':=hid hB1
        clear hB1 hk
        go_wp2
        go_roundw
        case rel=>exact ⟨i + 1,by omega,by go_num,HB1'.out,HBE.out⟩
        case measure=>simp [intOf];omega
    · have e2:decide (97 ≤ (c.toNat:Int)) = false:=decide_eq_false (by omega)
      have hk:moveB 97 65 c = c:=by unfold moveB;rw [if_neg (fun h=>h1 h.1)]
      have hB1:=HB.out
      rw [HK.out hk] at hB1
      have HB1':=hid hB1
      clear hB1 hk
      go_wp2
      go_roundw
      case rel=>exact ⟨i + 1,by omega,by go_num,HB1'.out,HBE.out⟩
      case measure=>simp [intOf];omega
  · have e1:decide ((i:Int) < l.length) = false:=decide_eq_false (by omega)
    have hi2:i = l.length:=by omega
    have hsrc:Src wr (some ⟨w.heap.size,0,none⟩) (bv (l.map (moveB 97 65))):=by
     refine ⟨fun h=>by simp at h,fun p hp j u hu=>?_⟩
     simp at hp
     subst hp
     have hj:j < (bv (l.map (moveB 97 65))).length:=(List.getElem?_eq_some_iff.1 hu).1
     rw [Addr.add_lit,cells_at HB.out,Nat.zero_add]
     subst hi2
     simp only [mapCells,List.getElem?_toArray,mapMix_all]
     rw [List.getElem?_append_left hj]
     exact hu
    have cv:=conv_src hsrc l.length (grownCap w l.length 0 5) (by simp)
    clear hi2 hsrc
    go_wp2
    go_ret
    exact ⟨rfl,HBE.out⟩
end Go.Proofs.YtfdmdmahddjjmaaGreatDoor
namespace Go.Proofs.YtfdmdmahddjjmaaGreatDoor
open Go.RowKit Own
theorem info_byte:(Tryz.prog.info? 5).map (fun i=>(i.zero,i.size,i.bytes)) = some (some (.int .u8 0),1,1):=by kernel_rfl
def Buf (B:Nat) (w:World) (v:Value) (bs:List UInt8):Prop:=Row 5 (fun k=>B ≤ k) w v (bv bs)∧B ≤ w.heap.size
theorem Buf.nil {B:Nat} {w:World} (h:B ≤ w.heap.size):Buf B w (.slice none 0 0) []:=⟨Row.nil _ _ _,h⟩
theorem Buf.alloc {B:Nat} {w:World} {v:Value} {bs:List UInt8} (h:Buf B w v bs) (o:Obj):Buf B (w.alloc o) v bs:=⟨h.1.fr (Fr.alloc (fun _=>False) w o) (fun _ _ h=>h),by have:=h.2;simp;omega⟩
theorem Buf.drewN {B:Nat} {w:World} {v:Value} {bs:List UInt8} (h:Buf B w v bs) (n:Nat):Buf B (w.drewN n) v bs:=⟨h.1.fr (Fr.drewN (fun _=>False) w n) (fun _ _ h=>h),h.2⟩
theorem Buf.drew {B:Nat} {w:World} {v:Value} {bs:List UInt8} (h:Buf B w v bs):Buf B w.drew v bs:=⟨h.1.fr (Fr.drew (fun _=>False) w) (fun _ _ h=>h),h.2⟩
theorem Buf.keep {B:Nat} {w w':World} {v:Value} {bs:List UInt8} (h:Buf B w v bs) (hb:Below w.heap.size w w'):Buf B w' v bs:=by
 refine ⟨⟨⟨h.1.1.1,?_⟩,h.1.2⟩,Nat.le_trans h.2 hb.size⟩
 rcases h.1.1.2 with hn | ⟨g,cap,cur,rfl,hb2,hg,rest⟩
 · exact .inl hn
 · exact .inr ⟨g,cap,cur,rfl,hb2,(hb.block g (lt_of_block hg)).trans hg,rest⟩
theorem Buf.slice {B:Nat} {w:World} {v:Value} {bs:List UInt8} (h:Buf B w v bs):∃ A c,v = .slice A bs.length c∧Src w A (bv bs):=by
 obtain ⟨A,c,he,_⟩:=h.1.slice
 rw [bv_len] at he
 subst he
 exact ⟨A,c,rfl,h.1.src⟩
theorem Buf.lit (w:World) (bs:List UInt8) (hl:bs.length ≤ 1000000):Buf w.heap.size (w.alloc (.cells (bv bs).toArray 5 (0,0))) (.slice (some ⟨w.heap.size,0,none⟩) bs.length bs.length) bs:=by
 refine ⟨⟨⟨?_,.inr ⟨w.heap.size,bs.length,(bv bs).toArray,?_,Nat.zero_le _,heap_alloc_new w _,?_,?_,?_,?_⟩⟩,fun k hk=>?_⟩,by simp⟩
 · simp
 · simp [bv_len]
 · simp [bv_len]
 · unfold maxLen;omega
 · simp [bv_len]
 · simp [bv_len];exact List.take_of_length_le (by rw [bv_len];exact Nat.le_refl _)
 · simp [Value.ownBlock] at hk;omega
theorem one_src (w:World) (c:UInt8) (x:Int) (hx:x = (c.toNat:Int)):Src (w.alloc (.cells #[.int .u8 x] 5)) (some ⟨w.heap.size,0,none⟩) (bv [c]):=by
 subst hx
 exact src_lit w #[.int .u8 c.toNat] 5 (0,0)
theorem wpList_buf {ops:Array Oper} {rest:List Oper} {o:Oper} {a:Act} {Q:Exit→Act→World→Prop} (B:Nat) (w:World) (hgd:o.guard = none) (s x:Operand)
  (ho:o.op = .call { callee:=.builtin .append,args:=#[s,x],argTypes:=#[28,28] }) (v:Value) (bs ys:List UInt8) (hs:a.eval s = v) (hbuf:Buf B w v bs)
  (A:Option Addr) (n c:Nat) (hx:a.eval x = .slice A n c) (hn:n = ys.length) (hsrc:Src w A (bv ys)) (hlen:bs.length + ys.length ≤ 70368744177664)
  (h:∀ v' w',Buf B w' v' (bs ++ ys)→Below B w w'→wpList Tryz.prog ops Q rest (a.put o.dst v') w'):wpList Tryz.prog ops Q (o :: rest) a w:=by
 refine wpList_append_row w hgd s x 28 5 ho (.int .u8 0) 1 Tryz.underlying28 info_byte rfl v (bv bs) (bv ys) hs hbuf.1 A n c hx (by rw [hn,bv_len]) hsrc (bv_one ys) (by rw [bv_len,bv_len];omega) (by rw [bv_len,bv_len];omega) ?_
 intro v' w' hr hf
 refine h v' w' ⟨?_,Nat.le_trans hbuf.2 hf.size⟩ (hf.below (fun k hk=>hbuf.1.2 k hk) hbuf.2)
 rw [bv_append]
 exact hr.mono fun k hk=>by
  rcases hk with h1 | ⟨h1,_⟩
  · exact h1
  · have:=hbuf.2;omega
theorem Buf.conv {B:Nat} {w:World} {A:Option Addr} {n c:Nat} {bs:List UInt8} (h:Buf B w (.slice A n c) bs):(convert 28 9 (.slice A n c)).run Tryz.prog w = .ok (.string (str bs)) w:=by
 obtain ⟨A',c',he,hs⟩:=h.slice
 obtain ⟨rfl,rfl,rfl⟩:A = A'∧n = bs.length∧c = c':=by simpa using he
 exact conv_src hs bs.length c rfl
end Go.Proofs.YtfdmdmahddjjmaaGreatDoor
namespace Go.Proofs.YtfdmdmahddjjmaaGreatDoor.Enc
def L64:List UInt8:=[65,66,67,68,69,70,71,72,73,74,75,76,77,78,79,80,81,82,83,84,85,86,87,88,89,90,97,98,99,100,101,102,103,104,105,106,107,108,109,110,111,112,113,114,115,116,117,118,119,120,121,122,48,49,50,51,52,53,54,55,56,57,43,47]
def Lc (n:Nat):UInt8:=L64.getD n 0
def fl (n m:Nat):List UInt8 × Nat × Nat :=
 if h:3 ≤ m then (Lc (n / 4 ^ (m - 3)) :: (fl (n % 4 ^ (m - 3)) (m - 3)).1,(fl (n % 4 ^ (m - 3)) (m - 3)).2) else ([],n,m)
termination_by m
def fin (n m:Nat):List UInt8:=if m = 0 then [] else Lc (n * 4 ^ (3 - m)) :: List.replicate (3 - m) 61
def encR:Nat→Nat→List UInt8→List UInt8
 | n,m,[]=>fin n m
 | n,m,c :: l=>(fl (256 * n + c.toNat) (m + 4)).1 ++ encR (fl (256 * n + c.toNat) (m + 4)).2.1 (fl (256 * n + c.toNat) (m + 4)).2.2 l
def enc (l:List UInt8):List UInt8:=encR 0 0 l
end Go.Proofs.YtfdmdmahddjjmaaGreatDoor.Enc
namespace Go.Proofs.YtfdmdmahddjjmaaGreatDoor.Bit
theorem ofInt_nat (a:Nat) (ha:a < 9223372036854775808):(BitVec.ofInt 64 (a:Int)).toNat = a:=by
 rw [BitVec.ofInt_natCast,BitVec.toNat_ofNat];exact Nat.mod_eq_of_lt (by omega)
theorem or_nat (a b:Nat) (ha:a < 9223372036854775808) (hb:b < 9223372036854775808):bits .or .i64 (a:Int) (b:Int) = ((a ||| b:Nat):Int):=by
 have hx:a ||| b < 2 ^ 63:=Nat.or_lt_two_pow (by omega) (by omega)
 show IntKind.i64.wrap ((BitVec.ofInt 64 (a:Int) ||| BitVec.ofInt 64 (b:Int)).toNat:Int) = _
 rw [BitVec.toNat_or,ofInt_nat a ha,ofInt_nat b hb,IntKind.wrap_i64]
 omega
theorem and_nat (a b:Nat) (ha:a < 9223372036854775808) (hb:b < 9223372036854775808):bits .and .i64 (a:Int) (b:Int) = ((a &&& b:Nat):Int):=by
 have hx:a &&& b < 2 ^ 63:=Nat.and_lt_two_pow _ (by omega)
 show IntKind.i64.wrap ((BitVec.ofInt 64 (a:Int) &&& BitVec.ofInt 64 (b:Int)).toNat:Int) = _
 rw [BitVec.toNat_and,ofInt_nat a ha,ofInt_nat b hb,IntKind.wrap_i64]
 omega
theorem low (k:Nat) (hk:k < 63) (a:Nat) (ha:a < 9223372036854775808) (m:Nat) (hm:m = 2 ^ k - 1):bits .and .i64 (a:Int) (m:Int) = ((a % 2 ^ k:Nat):Int):=by
 subst hm
 have h2:2 ^ k ≤ 2 ^ 62:=Nat.pow_le_pow_right (by omega) (by omega)
 rw [and_nat a _ ha (by omega),Nat.and_two_pow_sub_one_eq_mod]
theorem join (k:Nat) (a b:Nat) (hb:b < 2 ^ k) (ha:a * 2 ^ k + b < 9223372036854775808):bits .or .i64 ((a * 2 ^ k:Nat):Int) (b:Int) = ((a * 2 ^ k + b:Nat):Int):=by
 rw [or_nat _ _ (by omega) (by omega)]
 congr 1
 rw [Nat.mul_comm a,← Nat.two_pow_add_eq_or_of_lt hb]
end Go.Proofs.YtfdmdmahddjjmaaGreatDoor.Bit
namespace Go.Proofs.YtfdmdmahddjjmaaGreatDoor.Reg
open Go
section
variable {P:Program} {ops:Array Oper} {Q:Exit→Act→World→Prop} {md:Region.Mode} {S T:World→Prop}
theorem swap (h:∀ w,T w→S w):∀ (fuel:Nat) (listed:Array Bool) (a:Act) (w:World),wpAnyH P md ops Q T fuel listed a w→wpAnyH P md ops Q S fuel listed a w
 | 0,_,_,_,k=>k
 | fuel + 1,_,_,_,k=>⟨k.1,fun i hi=>wpOp_mono (fun a' w' h'=>⟨h w' h'.1,swap h fuel _ a' w' h'.2⟩) (k.2 i hi)⟩
end
end Go.Proofs.YtfdmdmahddjjmaaGreatDoor.Reg
namespace Go.Proofs.YtfdmdmahddjjmaaGreatDoor
open Go.RowKit Own
def MapAt (w:World) (b:Nat) (l:List (List UInt8 × Value)):Prop :=
 ∃ es clock,w.heap[b]? = some (.map es clock)∧es.toList.map (fun e=>(e.key,e.val)) = l.map fun p=>(Value.string (str p.1),p.2)
def lookL (l:List (List UInt8 × Value)) (k:List UInt8):Option Value:=(l.find? fun p=>p.1 == k).map (·.2)
theorem MapAt.new (w:World):MapAt (w.alloc (.map #[] 0)) w.heap.size []:=⟨#[],0,heap_alloc_new w _,rfl⟩
theorem MapAt.below {w w':World} {b:Nat} {l:List (List UInt8 × Value)} (h:MapAt w b l) (hb:Below w.heap.size w w'):MapAt w' b l:=by
 obtain ⟨es,clock,h1,h2⟩:=h
 exact ⟨es,clock,(hb.block b (lt_of_block h1)).trans h1,h2⟩
theorem MapAt.lt {w:World} {b:Nat} {l:List (List UInt8 × Value)} (h:MapAt w b l):b < w.heap.size:=by
 obtain ⟨es,clock,h1,_⟩:=h
 exact lt_of_block h1
theorem find_look (k:List UInt8):∀ (l:List (List UInt8 × Value)) (es:List MapEntry) (i:Nat),es.map (fun e=>(e.key,e.val)) = l.map (fun p=>(Value.string (str p.1),p.2)) →
  ∃ a,Instr.findNow .string (.string (str k)) es i = some a∧a.map (·.2) = lookL l k
 | [],[],i,_=>⟨none,rfl,rfl⟩
 | [],e :: es,i,h=>by simp at h
 | p :: l,[],i,h=>by simp at h
 | p :: l,e :: es,i,h=>by
   simp only [List.map_cons,List.cons.injEq,Prod.mk.injEq] at h
   obtain ⟨⟨hk,hv⟩,h⟩:=h
   have hs:Instr.sameNow .string (.string (str k)) e.key = some (str k == str p.1):=by rw [hk];rfl
   by_cases he:p.1 = k
   · refine ⟨some (i,e.val),?_,?_⟩
     · have:(str k == str p.1) = true:=by rw [he];exact (MapKept.bytes_beq _ _).2 rfl
       simp [Instr.findNow,hs,this]
     · unfold lookL
       rw [List.find?_cons_of_pos (by simpa using he),hv];rfl
   · have hn:(str k == str p.1) = false:=by
       rw [Bool.eq_false_iff]
       intro h2
       exact he (str_inj ((MapKept.bytes_beq _ _).1 h2)).symm
     obtain ⟨a,h1,h2⟩:=find_look k l es (i + 1) h
     refine ⟨a,by simp [Instr.findNow,hs,hn,h1],?_⟩
     rw [h2]
     unfold lookL
     rw [List.find?_cons_of_neg (by simpa using he)]
section
variable {P:Program} {mt kt et:TypeId}
theorem run_look_ok {w:World} {b:Nat} {l:List (List UInt8 × Value)} (hm:P.underlying mt = some (.map kt et)) (hk:P.underlying kt = some .string) (h:MapAt w b l) (k:List UInt8) {z:Value} (hz:(zeroValue et).run P w = .ok z w) :
  (Instr.lookup mt (.map (some b)) (.string (str k)) true).run P w = .ok (.tuple #[(lookL l k).getD z,.bool (lookL l k).isSome]) w:=by
 obtain ⟨es,clock,hb,hes⟩:=h
 obtain ⟨a,h1,h2⟩:=find_look k l es.toList 0 hes
 have hc:=fun e=>MapKept.run_checkKey (P:=P) (w:=w) (k:=.string (str k)) hk (by simp [MapKept.IsKey]) e 9999
 cases a with
 | none =>
  rw [← h2]
  simp [Instr.lookup,run_underlying hm,MapKept.run_getObj_map hb,hc,MapKept.run_findKey hk h1,hz,Result.andThen]
 | some q =>
  rw [← h2]
  simp [Instr.lookup,run_underlying hm,MapKept.run_getObj_map hb,hc,MapKept.run_findKey hk h1,Result.andThen]
theorem run_look {w:World} {b:Nat} {l:List (List UInt8 × Value)} (hm:P.underlying mt = some (.map kt et)) (hk:P.underlying kt = some .string) (h:MapAt w b l) (k:List UInt8) {z:Value} (hz:(zeroValue et).run P w = .ok z w) :
  (Instr.lookup mt (.map (some b)) (.string (str k)) false).run P w = .ok ((lookL l k).getD z) w:=by
 obtain ⟨es,clock,hb,hes⟩:=h
 obtain ⟨a,h1,h2⟩:=find_look k l es.toList 0 hes
 have hc:=fun e=>MapKept.run_checkKey (P:=P) (w:=w) (k:=.string (str k)) hk (by simp [MapKept.IsKey]) e 9999
 cases a with
 | none =>
  rw [← h2]
  simp [Instr.lookup,run_underlying hm,MapKept.run_getObj_map hb,hc,MapKept.run_findKey hk h1,hz,Result.andThen]
 | some q =>
  rw [← h2]
  simp [Instr.lookup,run_underlying hm,MapKept.run_getObj_map hb,hc,MapKept.run_findKey hk h1,Result.andThen]
theorem run_put {w:World} {b:Nat} {l:List (List UInt8 × Value)} (hm:P.underlying mt = some (.map kt et)) (hk:P.underlying kt = some .string) (h:MapAt w b l) (k:List UInt8) (v:Value) (hno:lookL l k = none) :
  ∃ w',(Instr.mapUpdate mt (.map (some b)) (.string (str k)) v).run P w = .ok () w'∧MapAt w' b (l ++ [(k,v)])∧Below b w w'∧w'.heap.size = w.heap.size:=by
 obtain ⟨es,clock,hb,hes⟩:=h
 obtain ⟨a,h1,h2⟩:=find_look k l es.toList 0 hes
 have hc:=fun e=>MapKept.run_checkKey (P:=P) (w:=w) (k:=.string (str k)) hk (by simp [MapKept.IsKey]) e 9999
 cases a with
 | some q=>rw [hno] at h2;cases h2
 | none =>
  refine ⟨{ w with heap:=w.heap.setIfInBounds b (.map (es.push { key:=.string (str k),val:=v,born:=clock }) (clock + 1)) },?_,⟨_,_,(MapKept.heap_set hb).1,?_⟩,⟨rfl,rfl,rfl,?_,?_⟩,?_⟩
  · simp [Instr.mapUpdate,run_underlying hm,MapKept.run_getObj_map hb,hc,MapKept.run_findKey hk h1,MapKept.run_setObj_map _ hb,Result.andThen]
  · simp [hes]
  · simp
  · intro j hj
    exact (MapKept.heap_set hb).2 j (by omega)
  · simp
theorem wpList_put {ops:Array Oper} {rest:List Oper} {o:Oper} {a:Act} {Q:Exit→Act→World→Prop} (w:World) (hgd:o.guard = none) (m x v:Operand) (hop:o.op = Op.insert mt m x v)
  (hm:P.underlying mt = some (.map kt et)) (hk:P.underlying kt = some .string) (b:Nat) (l:List (List UInt8 × Value)) (hma:a.eval m = .map (some b)) (h:MapAt w b l) (k:List UInt8) (hx:a.eval x = .string (str k)) (val:Value) (hv:a.eval v = val)
  (hno:lookL l k = none) (hK:∀ w',MapAt w' b (l ++ [(k,val)])→Below b w w'→w'.heap.size = w.heap.size→wpList P ops Q rest (a.put o.dst undef) w'):wpList P ops Q (o :: rest) a w:=by
 refine wpList_plain hgd fun K' hK'=>?_
 obtain ⟨w',hrun,r1,r2,r3⟩:=run_put hm hk h k val hno
 unfold Oper.wp
 simp [execOp,hop,hma,hx,hv,hrun,Result.andThen]
 exact hK' _ _ (hK w' r1 r2 r3)
end
end Go.Proofs.YtfdmdmahddjjmaaGreatDoor
