/-
  Parse of a command.
-/
import Derived.Test.YtfdmdmahddjjmaaGreatDoorKImU
import Derived.Test.YtfdmdmahddjjmaaGreatDoorKImTa
import Derived.Test.YtfdmdmahddjjmaaGreatDoorKImR
import Derived.Test.YtfdmdmahddjjmaaGreatDoorPkOwn
import Derived.Deep.RegionHeld3
import Derived.Deep.CutRange
namespace Go.Proofs.YtfdmdmahddjjmaaGreatDoor
open Go.RowKit Own Im
set_option linter.unusedVariables false
set_option linter.unusedSimpArgs false
set_option maxRecDepth 100000
attribute [local go_sem] str_toList str_size

theorem zero_form (w : World) : (zeroValue 58).run Tryz.prog w = .ok (.agg #[.bool false, .nilFunc]) w := by
  have h : (Tryz.prog.info? 58).map (fun i => i.zero) = some (some (.agg #[.bool false, .nilFunc])) := by kernel_rfl
  obtain ⟨i, hi, hz⟩ := Option.map_eq_some_iff.1 h
  simp [zeroValue, typeInfo, hi, hz, Result.andThen]
theorem MapAt.far {w : World} {b k j : Nat} {l : List (Bt × Value)} (h : MapAt w b l) (hk : b ≠ k) (x : Value) : MapAt (w.setCell ⟨k, j, none⟩ x) b l := by
  obtain ⟨es, clock, h1, h2⟩ := h
  exact ⟨es, clock, (Below.heap_setCell w ⟨k, j, none⟩ x b hk).trans h1, h2⟩
theorem two_new (w : World) (o o2 : Obj) : ((w.alloc o).alloc o2).heap[w.heap.size + 1]? = some o2 := by
  have h := heap_alloc_new (w.alloc o) o2
  rw [show (w.alloc o).heap.size = w.heap.size + 1 by simp] at h
  exact h
theorem forms_le : ∀ p ∈ Im.forms, p.2 ≤ 10 := by decide
theorem formK_le {w : Bt} {k : Nat} (h : formK w = some k) : k ≤ 10 := by
  unfold formK at h
  obtain ⟨p, hp, rfl⟩ := Option.map_eq_some_iff.1 h
  exact forms_le p (List.mem_of_find?_eq_some hp)
theorem enters_fid (k : Nat) (hk : k ≤ 10) : ∀ args w, (callFunc (fidOf k) args).run Tryz.prog w = .ok (.enter (fidOf k) args) w := by
  match k, hk with
  | 0, _ => exact enters_of Tryz.func49 (by kernel_rfl) rfl
  | 1, _ => exact enters_of Tryz.func50 (by kernel_rfl) rfl
  | 2, _ => exact enters_of Tryz.func52 (by kernel_rfl) rfl
  | 3, _ => exact enters_of Tryz.func56 (by kernel_rfl) rfl
  | 4, _ => exact enters_of Tryz.func57 (by kernel_rfl) rfl
  | 5, _ => exact enters_of Tryz.func58 (by kernel_rfl) rfl
  | 6, _ => exact enters_of Tryz.func59 (by kernel_rfl) rfl
  | 7, _ => exact enters_of Tryz.func60 (by kernel_rfl) rfl
  | 8, _ => exact enters_of Tryz.func61 (by kernel_rfl) rfl
  | 9, _ => exact enters_of Tryz.func63 (by kernel_rfl) rfl
  | 10, _ => exact enters_of Tryz.func65 (by kernel_rfl) rfl
theorem tagS_len {s : Bt} (h : tagS s ≠ []) : (tagS s).length + 1 ≤ s.length := by
  have e0 : tagS s = if (Lib.cut s [32]).2.2 = false ∨ (Lib.cut s [32]).1 = [] then [] else if (Lib.cut s [32]).1.all tagB then (Lib.cut s [32]).1 else [] := rfl
  rw [e0] at h ⊢
  split at h
  · exact absurd rfl h
  · rename_i hc
    rw [if_neg hc]
    split at h
    · rename_i hall
      rw [if_pos hall]
      rcases Spl.first 32 s with hn | ⟨x, y, rfl, hx⟩
      · rw [Spl.cut_none hn] at hc; simp at hc
      · rw [Spl.cut_at _ hx]; simp
    · exact absurd rfl h
theorem head_split (s0 : Bt) : ∃ (x1 s1 s2 : Bt) (d : Bool), Im.word s0 = (x1, s1) ∧ ((x1 == [85, 73, 68]) = false ∧ d = false ∧ s2 = s1 ∨ (x1 == [85, 73, 68]) = true ∧ takes [32] s1 = (d, s2)) ∧ headS s0 = if d = true then ((Im.word s2).1, true, (Im.word s2).2) else (x1, false, s2) := by
  obtain ⟨x1, s1, hw⟩ : ∃ x1 s1, Im.word s0 = (x1, s1) := ⟨_, _, rfl⟩
  unfold headS
  rw [hw]
  dsimp only
  by_cases hx : x1 = [85, 73, 68]
  · obtain ⟨d, s2, ht⟩ : ∃ d s2, takes [32] s1 = (d, s2) := ⟨_, _, rfl⟩
    refine ⟨x1, s1, s2, d, rfl, .inr ⟨by simpa using hx, ht⟩, ?_⟩
    rw [ht]
    cases d with
    | true => simp [hx]
    | false =>
      have := takes_no ht
      subst this
      simp [hx]
  · exact ⟨x1, s1, s1, false, rfl, .inl ⟨by simpa using hx, rfl, rfl⟩, by simp [hx]⟩
/-- What Parse says behind the word. -/
def tailS (tag h1 : Bt) (d : Bool) (h2 : Bt) : Cm × Int := match formK h1 with
  | none => ({ tag := tag }, 161)
  | some k => if d = true ∧ uidF k = false then ({ tag := tag }, 161) else
    match readF k { tag := tag, word := h1, uid := d } h2 with
    | some (x, []) => (x, 0)
    | _ => ({ tag := tag }, 160)
theorem parse_at {s : Bt} (h : tagS s ≠ []) : parseS s = tailS (tagS s) (headS (s.drop ((tagS s).length + 1))).1 (headS (s.drop ((tagS s).length + 1))).2.1 (headS (s.drop ((tagS s).length + 1))).2.2 := by
  unfold parseS
  rw [if_neg h]
  rfl
theorem tail_none {tag h1 h2 : Bt} {d : Bool} (h : formK h1 = none) : tailS tag h1 d h2 = ({ tag := tag }, 161) := by unfold tailS; rw [h]
theorem tail_uid {tag h1 h2 : Bt} {d : Bool} {k : Nat} (h : formK h1 = some k) (hu : d = true ∧ uidF k = false) : tailS tag h1 d h2 = ({ tag := tag }, 161) := by unfold tailS; rw [h]; exact if_pos hu
theorem tail_thrown {tag h1 h2 : Bt} {d : Bool} {k : Nat} (h : formK h1 = some k) (hu : ¬ (d = true ∧ uidF k = false)) (hr : readF k { tag := tag, word := h1, uid := d } h2 = none) : tailS tag h1 d h2 = ({ tag := tag }, 160) := by
  unfold tailS; rw [h]
  dsimp only
  rw [if_neg hu, hr]
theorem tail_more {tag h1 h2 : Bt} {d : Bool} {k : Nat} {x : Cm} {t : Bt} (h : formK h1 = some k) (hu : ¬ (d = true ∧ uidF k = false)) (hr : readF k { tag := tag, word := h1, uid := d } h2 = some (x, t)) (ht : t ≠ []) : tailS tag h1 d h2 = ({ tag := tag }, 160) := by
  unfold tailS; rw [h]
  dsimp only
  rw [if_neg hu, hr]
  cases t with
  | nil => exact absurd rfl ht
  | cons c t => rfl
theorem tail_ok {tag h1 h2 : Bt} {d : Bool} {k : Nat} {x : Cm} (h : formK h1 = some k) (hu : ¬ (d = true ∧ uidF k = false)) (hr : readF k { tag := tag, word := h1, uid := d } h2 = some (x, [])) : tailS tag h1 d h2 = (x, 0) := by
  unfold tailS; rw [h]
  dsimp only
  rw [if_neg hu, hr]
theorem Gd.rd {w W : World} (h : Gd w) (hb : Below w.heap.size w W) (s0 : Bt) (hl : s0.length ≤ 100000000) : RdI (W.alloc (.cells #[.string (str s0)] 54)) W.heap.size s0 :=
  ⟨heap_alloc_new W _, hl, ⟨w, h, hb.size, hb.alloc hb.size _⟩⟩
theorem fill_stays {w : World} {c : Nat} (a0 a1 a2 a3 a4 a5 a6 a7 a8 a9 a10 a11 a12 a13 : Value) : Stays (c + 1) w (fill w c a0 a1 a2 a3 a4 a5 a6 a7 a8 a9 a10 a11 a12 a13) := ⟨by rw [fill_size]; exact Nat.le_refl _, fun k h _ => fill_far (by omega) a0 a1 a2 a3 a4 a5 a6 a7 a8 a9 a10 a11 a12 a13⟩
/-- What Parse has at hand: the reader, the command, its own memory. -/
structure Mid (w : World) (X E T b c : Nat) (tag : Bt) (x : Cm) (t : Bt) (wx : World) : Prop where
  c : CmAt wx c x v0
  r : RdI wx b t
  k : PK w X E T tag wx
theorem PK.only {w wx wy : World} {X E T b : Nat} {tag : Bt} (h : PK w X E T tag wx) (ho : Only b wx wy) (h1 : X < b) (h2 : E < b) (h3 : T < b) (h4 : w.heap.size ≤ b) : PK w X E T tag wy := h.next ho.low h1 h2 h3 h4
abbrev dfr (X E T : Nat) : Deferred := { target := .fn (.func 24) #[.pointer (some ⟨T, 0, none⟩), .pointer (some ⟨X, 0, none⟩), .pointer (some ⟨E, 0, none⟩)], args := #[] }
theorem res_at {W : World} {X E : Nat} {x : Cm} {v : CmV} {n : Int} (hx : CmAt W X x v) (he : W.heap[E]? = some (.cells #[.int .i64 n] 31 (0, 0))) (tmps : Array Value) (h2 : tmps[2]? = some (.pointer (some ⟨X, 0, none⟩))) (h3 : tmps[3]? = some (.pointer (some ⟨E, 0, none⟩))) :
    (results Tryz.f10 tmps).run Tryz.prog W = .ok (.tuple #[.agg (cmC x v), .int .i64 n]) W := by
  have e0 := cells_at he 0
  simp [results, Tryz.results10, go_sem, h2, h3, hx.c0, hx.c1, hx.c2, hx.c3, hx.c4, hx.c5, hx.c6, hx.c7, hx.c8, hx.c9, hx.c10, hx.c11, hx.c12, hx.c13, e0]
theorem leaves_idle {W : World} {X E T : Nat} {x : Cm} {v : CmV} {n : Int} {R : Ending → World → Prop} (hx : CmAt W X x v) (he : W.heap[E]? = some (.cells #[.int .i64 n] 31 (0, 0))) (tmps : Array Value) (h2 : tmps[2]? = some (.pointer (some ⟨X, 0, none⟩))) (h3 : tmps[3]? = some (.pointer (some ⟨E, 0, none⟩)))
    (hR : R (.returned (.tuple #[.agg (cmC x v), .int .i64 n])) W) : Leaves Tryz.prog Tryz.f10 tmps R [dfr X E T] .returning W := by
  refine leaves_cons (f := 24) (args := #[.pointer (some ⟨T, 0, none⟩), .pointer (some ⟨X, 0, none⟩), .pointer (some ⟨E, 0, none⟩)]) (by simp) (by simp [go_sem]) ?_
  refine (catch_idle _ _ _ _).mono ?_
  rintro e u' w'' ⟨rfl, rfl, rfl⟩
  exact ⟨_, res_at hx he tmps h2 h3, hR⟩
theorem leaves_thrown {w W : World} {X E T : Nat} {tag : Bt} {R : Ending → World → Prop} (h : PK w X E T tag W) (hX : w.heap.size ≤ X) (hE : w.heap.size ≤ E) (hXE : X ≠ E) (tmps : Array Value) (h2 : tmps[2]? = some (.pointer (some ⟨X, 0, none⟩))) (h3 : tmps[3]? = some (.pointer (some ⟨E, 0, none⟩)))
    (hR : ∀ w', Below w.heap.size w w' → R (.returned (.tuple #[.agg (cmC { tag := tag } v0), .int .i64 160])) w') : Leaves Tryz.prog Tryz.f10 tmps R [dfr X E T] (.panicking thrown) W := by
  refine leaves_cons (f := 24) (args := #[.pointer (some ⟨T, 0, none⟩), .pointer (some ⟨X, 0, none⟩), .pointer (some ⟨E, 0, none⟩)]) (by simp) (by simp [go_sem]) ?_
  refine (catch_thrown h hX hE hXE).mono ?_
  rintro e u' w'' ⟨rfl, rfl, hx, he, hb⟩
  exact ⟨_, res_at hx he tmps h2 h3, hR _ hb⟩
/-- UID stands ahead of a word that bears it, or not at all. -/
def NotUid (d : Bool) (k : Nat) : Prop := ¬ (d = true ∧ uidF k = false)
theorem leaves_ok0 {w W : World} {X E T B : Nat} {tag : Bt} {x : Cm} {v : CmV} {n : Int} (hk : PK w X E T tag W) (hX : w.heap.size ≤ X) (hE : w.heap.size ≤ E) (hXE : X ≠ E) (hXB : X < B) (hEB : E < B) (hr : CmRows B W x v) (tmps : Array Value) (h2 : tmps[2]? = some (.pointer (some ⟨X, 0, none⟩))) (h3 : tmps[3]? = some (.pointer (some ⟨E, 0, none⟩))) :
    Leaves Tryz.prog Tryz.f10 tmps (fun e w' => ParsePost w (x, n) e w') [dfr X E T] .returning ((fill W X (.string (str x.tag)) (.string (str x.word)) (.bool x.uid) v.set (.string (str x.box)) (.string (str x.dest)) v.names (.int .i64 x.flags) (.int .i64 x.mode) (.bool x.silent) v.items v.keys (.int .i64 x.date) v.lit).setCell ⟨E, 0, none⟩ (.int .i64 n)) := by
  have hx : CmAt ((fill W X (.string (str x.tag)) (.string (str x.word)) (.bool x.uid) v.set (.string (str x.box)) (.string (str x.dest)) v.names (.int .i64 x.flags) (.int .i64 x.mode) (.bool x.silent) v.items v.keys (.int .i64 x.date) v.lit).setCell ⟨E, 0, none⟩ (.int .i64 n)) X x v := (set_far _ hXE).trans (fill_at hk.x (.string (str x.tag)) (.string (str x.word)) (.bool x.uid) v.set (.string (str x.box)) (.string (str x.dest)) v.names (.int .i64 x.flags) (.int .i64 x.mode) (.bool x.silent) v.items v.keys (.int .i64 x.date) v.lit)
  have he : ((fill W X (.string (str x.tag)) (.string (str x.word)) (.bool x.uid) v.set (.string (str x.box)) (.string (str x.dest)) v.names (.int .i64 x.flags) (.int .i64 x.mode) (.bool x.silent) v.items v.keys (.int .i64 x.date) v.lit).setCell ⟨E, 0, none⟩ (.int .i64 n)).heap[E]? = some (.cells #[.int .i64 n] 31 (0, 0)) := block_set ((fill_far (Ne.symm hXE) (.string (str x.tag)) (.string (str x.word)) (.bool x.uid) v.set (.string (str x.box)) (.string (str x.dest)) v.names (.int .i64 x.flags) (.int .i64 x.mode) (.bool x.silent) v.items v.keys (.int .i64 x.date) v.lit).trans hk.e) _
  have hs : Stays B W ((fill W X (.string (str x.tag)) (.string (str x.word)) (.bool x.uid) v.set (.string (str x.box)) (.string (str x.dest)) v.names (.int .i64 x.flags) (.int .i64 x.mode) (.bool x.silent) v.items v.keys (.int .i64 x.date) v.lit).setCell ⟨E, 0, none⟩ (.int .i64 n)) := by
    refine ⟨by rw [World.size_setCell, fill_size]; exact Nat.le_refl _, fun k h1 h2 => ?_⟩
    exact (set_far _ (by omega)).trans (fill_far (by omega) (.string (str x.tag)) (.string (str x.word)) (.bool x.uid) v.set (.string (str x.box)) (.string (str x.dest)) v.names (.int .i64 x.flags) (.int .i64 x.mode) (.bool x.silent) v.items v.keys (.int .i64 x.date) v.lit)
  exact leaves_idle hx he tmps h2 h3 ⟨v, rfl, (hr.stays hs).mono (by omega), (fill_below hk.low hX (.string (str x.tag)) (.string (str x.word)) (.bool x.uid) v.set (.string (str x.box)) (.string (str x.dest)) v.names (.int .i64 x.flags) (.int .i64 x.mode) (.bool x.silent) v.items v.keys (.int .i64 x.date) v.lit).setCell (p := ⟨E, 0, none⟩) hE _⟩
theorem leaves_word0 {w W : World} {X E T : Nat} {tag : Bt} {n : Int} (hk : PK w X E T tag W) (hX : w.heap.size ≤ X) (hE : w.heap.size ≤ E) (hXE : X ≠ E) (tmps : Array Value) (h2 : tmps[2]? = some (.pointer (some ⟨X, 0, none⟩))) (h3 : tmps[3]? = some (.pointer (some ⟨E, 0, none⟩))) :
    Leaves Tryz.prog Tryz.f10 tmps (fun e w' => ParsePost w ({ tag := tag }, n) e w') [dfr X E T] .returning ((fill W X (.string (str tag)) (.string { data := #[] }) (.bool false) nilV (.string { data := #[] }) (.string { data := #[] }) nilV (.int .i64 0) (.int .i64 0) (.bool false) nilV nilV (.int .i64 0) nilV).setCell ⟨E, 0, none⟩ (.int .i64 n)) := by
  have h1 := hk.x.lt
  have h4 := lt_of_block hk.e
  exact leaves_ok0 (B := W.heap.size) (x := { tag := tag }) (v := v0) hk hX hE hXE h1 h4 (CmRows.none (Nat.le_refl _) rfl rfl rfl rfl rfl) tmps h2 h3
theorem leaves_thr0 {w W : World} {X E T : Nat} {tag : Bt} (h : PK w X E T tag W) (hX : w.heap.size ≤ X) (hE : w.heap.size ≤ E) (hXE : X ≠ E) (tmps : Array Value) (h2 : tmps[2]? = some (.pointer (some ⟨X, 0, none⟩))) (h3 : tmps[3]? = some (.pointer (some ⟨E, 0, none⟩))) :
    Leaves Tryz.prog Tryz.f10 tmps (fun e w' => ParsePost w ({ tag := tag }, 160) e w') [dfr X E T] (.panicking thrown) W :=
  leaves_thrown h hX hE hXE tmps h2 h3 (fun w' hb => ⟨v0, rfl, CmRows.none hb.size rfl rfl rfl rfl rfl, hb⟩)
theorem leaves_ok {w W : World} {X E T B : Nat} {tag : Bt} {x : Cm} {v : CmV} {n : Int} (hk : PK w X E T tag W) (hX : w.heap.size ≤ X) (hE : w.heap.size ≤ E) (hXE : X ≠ E) (hXB : X < B) (hEB : E < B) (hr : CmRows B W x v) (tmps : Array Value) (h2 : tmps[2]? = some (.pointer (some ⟨X, 0, none⟩))) (h3 : tmps[3]? = some (.pointer (some ⟨E, 0, none⟩))) :
    bodyPostD Tryz.prog Tryz.f10 (fun e w' => ParsePost w (x, n) e w') Exit.ret { tmps := tmps, defers := [dfr X E T] } ((fill W X (.string (str x.tag)) (.string (str x.word)) (.bool x.uid) v.set (.string (str x.box)) (.string (str x.dest)) v.names (.int .i64 x.flags) (.int .i64 x.mode) (.bool x.silent) v.items v.keys (.int .i64 x.date) v.lit).setCell ⟨E, 0, none⟩ (.int .i64 n)) := by
  show Leaves Tryz.prog Tryz.f10 tmps (fun e w' => ParsePost w (x, n) e w') [dfr X E T] .returning ((fill W X (.string (str x.tag)) (.string (str x.word)) (.bool x.uid) v.set (.string (str x.box)) (.string (str x.dest)) v.names (.int .i64 x.flags) (.int .i64 x.mode) (.bool x.silent) v.items v.keys (.int .i64 x.date) v.lit).setCell ⟨E, 0, none⟩ (.int .i64 n))
  exact leaves_ok0 hk hX hE hXE hXB hEB hr tmps h2 h3
theorem leaves_word {w W : World} {X E T : Nat} {tag : Bt} {n : Int} (hk : PK w X E T tag W) (hX : w.heap.size ≤ X) (hE : w.heap.size ≤ E) (hXE : X ≠ E) (tmps : Array Value) (h2 : tmps[2]? = some (.pointer (some ⟨X, 0, none⟩))) (h3 : tmps[3]? = some (.pointer (some ⟨E, 0, none⟩))) :
    bodyPostD Tryz.prog Tryz.f10 (fun e w' => ParsePost w ({ tag := tag }, n) e w') Exit.ret { tmps := tmps, defers := [dfr X E T] } ((fill W X (.string (str tag)) (.string { data := #[] }) (.bool false) nilV (.string { data := #[] }) (.string { data := #[] }) nilV (.int .i64 0) (.int .i64 0) (.bool false) nilV nilV (.int .i64 0) nilV).setCell ⟨E, 0, none⟩ (.int .i64 n)) := by
  show Leaves Tryz.prog Tryz.f10 tmps (fun e w' => ParsePost w ({ tag := tag }, n) e w') [dfr X E T] .returning ((fill W X (.string (str tag)) (.string { data := #[] }) (.bool false) nilV (.string { data := #[] }) (.string { data := #[] }) nilV (.int .i64 0) (.int .i64 0) (.bool false) nilV nilV (.int .i64 0) nilV).setCell ⟨E, 0, none⟩ (.int .i64 n))
  exact leaves_word0 hk hX hE hXE tmps h2 h3
theorem leaves_thr {w W : World} {X E T : Nat} {tag : Bt} (h : PK w X E T tag W) (hX : w.heap.size ≤ X) (hE : w.heap.size ≤ E) (hXE : X ≠ E) (tmps : Array Value) (h2 : tmps[2]? = some (.pointer (some ⟨X, 0, none⟩))) (h3 : tmps[3]? = some (.pointer (some ⟨E, 0, none⟩))) :
    bodyPostD Tryz.prog Tryz.f10 (fun e w' => ParsePost w ({ tag := tag }, 160) e w') (Exit.panic thrown) { tmps := tmps, defers := [dfr X E T] } W := by
  show Leaves Tryz.prog Tryz.f10 tmps (fun e w' => ParsePost w ({ tag := tag }, 160) e w') [dfr X E T] (.panicking thrown) W
  exact leaves_thr0 h hX hE hXE tmps h2 h3
end Go.Proofs.YtfdmdmahddjjmaaGreatDoor
