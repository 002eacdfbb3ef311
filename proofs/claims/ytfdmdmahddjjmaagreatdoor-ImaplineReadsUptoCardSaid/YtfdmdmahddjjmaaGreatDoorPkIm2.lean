/-
  Joined texts: ImK ImM ImO ImP ImTa.
-/
import Derived.Test.YtfdmdmahddjjmaaGreatDoorKImJ
import Derived.Test.YtfdmdmahddjjmaaGreatDoorPkOwn
import Derived.Test.YtfdmdmahddjjmaaGreatDoorPkIm0
import Derived.Deep.AppendLies
import Derived.MapKept
import Derived.Laws.EntriesVeiled
import Derived.Deep.RegionHeld3
set_option linter.unusedVariables false
set_option linter.unusedSimpArgs false
set_option maxRecDepth 100000
namespace Go.Proofs.YtfdmdmahddjjmaaGreatDoor
open Go.RowKit Own Im
attribute [local go_sem] str_toList str_size
structure MapIn (w0 w:World) (b:Nat) (l:List (Bt × Value)):Prop where
 map:MapAt w b l
 low:Below w0.heap.size w0 w
 new:w0.heap.size ≤ b
theorem MapIn.new' (w:World):MapIn w (w.alloc (.map #[] 0)) w.heap.size []:=⟨MapAt.new w,(Below.refl _ _).alloc (Nat.le_refl _) _,Nat.le_refl _⟩
theorem wpList_putIn {ops:Array Oper} {rest:List Oper} {o:Oper} {a:Act} {Q:Exit→Act→World→Prop} {mt kt et:TypeId} (w0 w:World) (hgd:o.guard = none) (m x v:Operand) (hop:o.op = Op.insert mt m x v)
  (hm:Tryz.prog.underlying mt = some (.map kt et)) (hk:Tryz.prog.underlying kt = some .string) (b:Nat) (l:List (Bt × Value)) (hma:a.eval m = .map (some b)) (h:MapIn w0 w b l) (k:Bt) (hx:a.eval x = .string (str k)) (val:Value) (hv:a.eval v = val)
  (hno:lookL l k = none) (hK:∀ w',MapIn w0 w' b (l ++ [(k,val)])→wpList Tryz.prog ops Q rest (a.put o.dst undef) w'):wpList Tryz.prog ops Q (o :: rest) a w:=by
 refine wpList_put w hgd m x v hop hm hk b l hma h.map k hx val hv hno ?_
 intro w' h1 h2 h3
 exact hK w' ⟨h1,h.low.trans (h2.mono h.new),h.new⟩
def kindV (l:List (Bt × Int)):List (Bt × Value):=l.map fun p=>(p.1,.int .i64 p.2)
theorem look_kind (l:List (Bt × Int)) (x:Bt):(lookL (kindV l) x).getD (.int .i64 0) = .int .i64 (kindOf l x):=by
 unfold lookL kindV kindOf
 rw [List.find?_map]
 show (Option.map _ (Option.map _ (List.find? (fun p:Bt × Int=>p.1 == x) l))).getD _ = _
 cases List.find? (fun p:Bt × Int=>p.1 == x) l <;> rfl
theorem zero_int (w:World):(zeroValue 3).run Tryz.prog w = .ok (.int .i64 0) w:=by
 have h:(Tryz.prog.info? 3).map (fun i=>i.zero) = some (some (.int .i64 0)):=by kernel_rfl
 obtain ⟨i,hi,hz⟩:=Option.map_eq_some_iff.1 h
 simp [zeroValue,typeInfo,hi,hz,Result.andThen]
theorem lookK (l:List (Bt × Int)) (x:Bt) {w:World} {m:Nat} (h:MapAt w m (kindV l)):(Instr.lookup 100 (.map (some m)) (.string (str x)) false).run Tryz.prog w = .ok (.int .i64 (kindOf l x)) w:=by
 have:=run_look Tryz.underlying100 Tryz.underlying9 h x (zero_int w)
 rw [look_kind] at this
 exact this
theorem SecPost.cases {b c:Nat} {w w':World} {k:Int} {pk:Bool} {fr of:Int} {r:Option ((List Int × Int) × Bt)} {e:Ending} (h:SecPost b c w k pk fr of r e w') :
  (r = none∧e = .panicked thrown∧Two b c w w')∨∃ l wh t sv,r = some ((l,wh),t)∧e = .returned (.tuple #[])∧RdI w' b t∧NBuf w.heap.size w' sv l∧ItAt w' c k sv wh pk fr of∧Two b c w w':=by
 obtain ⟨ho,h⟩:=h
 rcases r with _ | ⟨⟨l,wh⟩,t⟩
 · exact .inl ⟨rfl,h,ho⟩
 · obtain ⟨h1,h2,sv,h3,h4⟩:=h
   exact .inr ⟨l,wh,t,sv,rfl,h1,h2,h3,h4,ho⟩
theorem Only.two_trans {b c:Nat} {w w' w2:World} (h:Only b w w') (k:Two b c w' w2) (hc:w.heap.size ≤ c):Only b w w2:=(h.two.trans k).only hc
theorem Only.setNew {b d j:Nat} {w w':World} (h:Only b w w') (hb:b < w.heap.size) (hd:w.heap.size ≤ d) (x:Value):Only b w (w'.setCell ⟨d,j,none⟩ x):=h.two_trans (Two.set w' (Nat.lt_of_lt_of_le hb hd) j x) hd
theorem ItAt.two {b c d:Nat} {w w':World} {k wh fr of:Int} {sv:Value} {pk:Bool} (h:ItAt w d k sv wh pk fr of) (ho:Two b c w w') (h1:d ≠ b) (h2:d ≠ c):ItAt w' d k sv wh pk fr of:=(ho.block h1 h2 h.lt).trans h
theorem ItAt.far {w:World} {c d j:Nat} {k wh fr of:Int} {sv:Value} {pk:Bool} (h:ItAt w d k sv wh pk fr of) (hc:d ≠ c) (x:Value):ItAt (w.setCell ⟨c,j,none⟩ x) d k sv wh pk fr of:=(Below.heap_setCell w ⟨c,j,none⟩ x d hc).trans h
theorem kind_nonneg (x:Bt):0 ≤ kindOf itemKinds x:=by
 unfold kindOf
 cases h:itemKinds.find? fun p=>p.1 == x with
 | none=>decide
 | some p =>
  have:=List.mem_of_find?_eq_some h
  have hall:∀ p ∈ itemKinds,0 ≤ p.2:=by decide
  exact hall p this
end Go.Proofs.YtfdmdmahddjjmaaGreatDoor
namespace Go.Proofs.YtfdmdmahddjjmaaGreatDoor
open Go.RowKit Own Im
attribute [local go_sem] str_toList str_size
set_option maxHeartbeats 8000000 in
theorem item_any (b:Nat) (s:Bt) (w:World) (h:RdI w b s) :
  Calls Tryz.prog 100 #[.pointer (some ⟨b,0,none⟩)] w fun e w'=>Reads b w (vItem w.heap.size) (Im.item s) e w':=by
 have hmm:=@run_makeMap Tryz.prog
 have hwd:=fun W hW=>word_any b s W hW
 have hblt:=h.lt
 have hdb:w.heap.size ≠ b:=by omega
 have H:=hid h
 clear h
 obtain ⟨R,hR⟩:∃ R,R = Im.item s:=⟨_,rfl⟩
 rw [← hR]
 unfold Im.item at hR
 obtain ⟨x,s1,hw⟩:∃ x s1,Im.word s = (x,s1):=⟨_,_,rfl⟩
 rw [hw] at hR hwd
 dsimp only at hR hwd
 obtain ⟨K,hK⟩:∃ K,kindOf itemKinds x = K:=⟨_,rfl⟩
 have hK0:0 ≤ K:=by rw [← hK];exact kind_nonneg x
 rw [hK] at hR
 obtain ⟨pk,hpk⟩:∃ pk,(x == [66,79,68,89,46,80,69,69,75]) = pk:=⟨_,rfl⟩
 have hpk2:decide (x = [66,79,68,89,46,80,69,69,75]) = pk:=by rw [← hpk];by_cases hx:x = [66,79,68,89,46,80,69,69,75] <;> simp [hx]
 rw [hpk2] at hR
 clear hpk2 hw
 by_cases k0:K = 0
 · rw [if_pos k0] at hR
   have HR:=hid hR
   clear hR
   subst k0
   go_enter Tryz.func100,Tryz.ntmps100
   go_wp2_with (first
    | (go_at_call 25;refine (hwd _ (H.out.below ((Below.refl _ _).alloc (Nat.le_refl _) _))).mono ?_;rintro e w1 ⟨rfl,r1,o1⟩;have hM:=MapIn.new' w1;have R1:=hid r1;have O1:=hid (Only.trans (Only.of ((Below.refl w.heap.size w).alloc (Nat.le_refl _) (.cells #[.int .i64 0,.slice none 0 0,.int .i64 0,.bool false,.int .i64 0,.int .i64 0] 37)) (Nat.le_of_lt H.out.lt)) o1);have Z1:=hid ((show ItAt (w.alloc (.cells #[.int .i64 0,.slice none 0 0,.int .i64 0,.bool false,.int .i64 0,.int .i64 0] 37)) w.heap.size 0 (.slice none 0 0) 0 false 0 0 from heap_alloc_new w _).only o1 hdb);clear r1 o1)
    | (refine wpList_putIn w1 _ rfl _ _ _ rfl Tryz.underlying100 Tryz.underlying9 _ _ rfl (by assumption) _ rfl _ rfl (by rfl) ?_;intro w_ h_;try (have hlk:=lookK itemKinds x h_.map;rw [hK] at hlk))
    | (go_at_call 28;refine (must_f _).mono ?_;rintro e w2 ⟨rfl,he⟩;obtain rfl:=he.symm))
   exact ⟨rfl,Reads.panic HR.out (O1.out.trans (Only.of (h_.low.alloc h_.low.size _) (Nat.le_of_lt R1.out.lt)))⟩
 rw [if_neg k0] at hR
 have kpos:0 < K:=by omega
 by_cases k7:K ≠ 7
 · rw [if_pos k7] at hR
   have HR:=hid hR
   clear hR
   have kne:(K != 7) = true:=by simpa using k7
   have kpk:pk = false:=by
    rw [← hpk,beq_eq_false_iff_ne]
    rintro rfl
    exact k7 hK.symm
   subst kpk
   go_enter Tryz.func100,Tryz.ntmps100
   go_wp2_with (first
    | (go_at_call 25;refine (hwd _ (H.out.below ((Below.refl _ _).alloc (Nat.le_refl _) _))).mono ?_;rintro e w1 ⟨rfl,r1,o1⟩;have hM:=MapIn.new' w1;have R1:=hid r1;have O1:=hid (Only.trans (Only.of ((Below.refl w.heap.size w).alloc (Nat.le_refl _) (.cells #[.int .i64 0,.slice none 0 0,.int .i64 0,.bool false,.int .i64 0,.int .i64 0] 37)) (Nat.le_of_lt H.out.lt)) o1);have Z1:=hid ((show ItAt (w.alloc (.cells #[.int .i64 0,.slice none 0 0,.int .i64 0,.bool false,.int .i64 0,.int .i64 0] 37)) w.heap.size 0 (.slice none 0 0) 0 false 0 0 from heap_alloc_new w _).only o1 hdb);clear r1 o1)
    | (refine wpList_putIn w1 _ rfl _ _ _ rfl Tryz.underlying100 Tryz.underlying9 _ _ rfl (by assumption) _ rfl _ rfl (by rfl) ?_;intro w_ h_;try (have hlk:=lookK itemKinds x h_.map;rw [hK] at hlk))
    | (go_at_call 28;refine (must_t _).mono ?_;rintro e w2 ⟨rfl,he⟩;obtain rfl:=he.symm;have a2:=h_.low.alloc h_.low.size (.cells #[.int .i64 K,.slice none 0 0,.int .i64 0,.bool false,.int .i64 0,.int .i64 (-1)] 37);have O2:=hid (O1.out.trans (Only.of a2 (Nat.le_of_lt R1.out.lt)));have R2:=hid (R1.out.below a2);have k2:ItAt _ w_.heap.size K (.slice none 0 0) 0 false 0 (-1):=heap_alloc_new w_ (.cells #[.int .i64 K,.slice none 0 0,.int .i64 0,.bool false,.int .i64 0,.int .i64 (-1)] 37);have z2:=Z1.out.below a2;have hwl:=h_.low.size;have hcd:w.heap.size ≠ w_.heap.size:=(by have:=O1.out.size;have:=Z1.out.lt;omega);have p0:=k2.c0;have pf0:=k2.free 0;have p1:=k2.c1;have pf1:=k2.free 1;have p2:=k2.c2;have pf2:=k2.free 2;have p3:=k2.c3;have pf3:=k2.free 3;have p4:=k2.c4;have pf4:=k2.free 4;have p5:=k2.c5;have pf5:=k2.free 5;have y0:=z2.c0;have yf0:=z2.free 0;have y1:=z2.c1;have yf1:=z2.free 1;have y2:=z2.c2;have yf2:=z2.free 2;have y3:=z2.c3;have yf3:=z2.free 3;have y4:=z2.c4;have yf4:=z2.free 4;have y5:=z2.c5;have yf5:=z2.free 5;clear a2 k2 z2))
   refine bodyPost_ret (v:=.agg #[.int .i64 K,.slice none 0 0,.int .i64 0,.bool false,.int .i64 0,.int .i64 (-1)]) (by first | (simp [results,Tryz.results100,go_sem,y0,y1,y2,y3,y4,y5];done) | (simp [results,Tryz.results100,go_sem,y0,y1,y2,y3,y4,y5];rfl)) rfl ?_
   exact Reads.give HR.out ((((((O2.out.setNew hblt (Nat.le_refl _) _).setNew hblt (Nat.le_refl _) _).setNew hblt (Nat.le_refl _) _).setNew hblt (Nat.le_refl _) _).setNew hblt (Nat.le_refl _) _).setNew hblt (Nat.le_refl _) _) ⟨_,rfl,GBuf.nil (by have:=O2.out.size;simpa [World.setCell] using this)⟩ ((((((R2.out.far hblt _).far hblt _).far hblt _).far hblt _).far hblt _).far hblt _)
 · rw [if_neg k7] at hR
   have k7:K = 7:=Decidable.not_not.1 k7
   subst k7
   have HR:=hid hR
   clear hR
   have tok0:Tk 0:=⟨⟩
   go_enter Tryz.func100,Tryz.ntmps100
   go_wp2_with (first
    | (go_at_call 25;refine (hwd _ (H.out.below ((Below.refl _ _).alloc (Nat.le_refl _) _))).mono ?_;rintro e w1 ⟨rfl,r1,o1⟩;have hM:=MapIn.new' w1;have R1:=hid r1;have O1:=hid (Only.trans (Only.of ((Below.refl w.heap.size w).alloc (Nat.le_refl _) (.cells #[.int .i64 0,.slice none 0 0,.int .i64 0,.bool false,.int .i64 0,.int .i64 0] 37)) (Nat.le_of_lt H.out.lt)) o1);have Z1:=hid ((show ItAt (w.alloc (.cells #[.int .i64 0,.slice none 0 0,.int .i64 0,.bool false,.int .i64 0,.int .i64 0] 37)) w.heap.size 0 (.slice none 0 0) 0 false 0 0 from heap_alloc_new w _).only o1 hdb);clear r1 o1)
    | (refine wpList_putIn w1 _ rfl _ _ _ rfl Tryz.underlying100 Tryz.underlying9 _ _ rfl (by assumption) _ rfl _ rfl (by rfl) ?_;intro w_ h_;try (have hlk:=lookK itemKinds x h_.map;rw [hK] at hlk))
    | (go_at_call 28;refine (must_t _).mono ?_;rintro e w2 ⟨rfl,he⟩;obtain rfl:=he.symm;have a2:=h_.low.alloc h_.low.size (.cells #[.int .i64 7,.slice none 0 0,.int .i64 0,.bool pk,.int .i64 0,.int .i64 (-1)] 37);have O2:=hid (O1.out.trans (Only.of a2 (Nat.le_of_lt R1.out.lt)));have R2:=hid (R1.out.below a2);have K2:=hid (show ItAt _ w_.heap.size 7 (.slice none 0 0) 0 pk 0 (-1) from heap_alloc_new w_ (.cells #[.int .i64 7,.slice none 0 0,.int .i64 0,.bool pk,.int .i64 0,.int .i64 (-1)] 37));have Z2:=hid (Z1.out.below a2);have hwl:=h_.low.size;have hwc:w.heap.size ≤ w_.heap.size:=(by have:=O1.out.size;omega);have hcd:w.heap.size ≠ w_.heap.size:=(by have:=Z1.out.lt;omega);have hcb:w_.heap.size ≠ b:=(by have:=R1.out.lt;omega);have hbc:b < w_.heap.size:=(by have:=R1.out.lt;omega);clear a2)
    | (go_at_call 53;have t_:Tk 0:=‹Tk 0›;refine (sign_any b s1 [91] _ R2.out).mono ?_;intro e w3 h3;rcases sign_cases h3 with ⟨q3,rfl,o3⟩ | ⟨s3,q3,rfl,r3,o3⟩ <;> (first | (have R3:=hid r3;have Q3:=hid q3;have O3:=hid (O2.out.trans o3);have k3:=K2.out.only o3 hcb;have z3:=Z2.out.only o3 hdb;have K3:=hid k3;have Z3:=hid z3;clear k3 z3;have Y3:=hid o3;clear o3 q3 r3 h3) | (have O3:=hid (O2.out.trans o3);have Q3:=hid q3;clear o3 q3 h3)) <;> (clear t_ tok0;have tok1:Tk 1:=⟨⟩))
    | (go_at_call 132;refine (section_any b w_.heap.size s3 _ 7 pk 0 (-1) R3.out K3.out hbc).mono ?_;intro e w4 h4;rcases h4.cases with ⟨q4,rfl,o4⟩ | ⟨sec,wh,s4,sv,q4,rfl,r4,n4,k4,o4⟩ <;> (first | (obtain ⟨A4,c4,rfl,-,-,-⟩:=n4.full;have O4:=hid (O3.out.two_trans o4 hwc);have Q4:=hid q4;have Z4:=hid (Z3.out.two o4 hdb hcd);have R4:=hid r4;have N4:=hid n4;have K4:=hid k4;clear q4 r4 n4 k4 o4 h4) | (have O4:=hid (O3.out.two_trans o4 hwc);have Q4:=hid q4;clear q4 o4 h4)))
    | (go_at_call 53;have t_:Tk 1:=‹Tk 1›;refine (sign_any b s4 [93] _ R4.out).mono ?_;intro e w5 h5;rcases sign_cases h5 with ⟨q5,rfl,o5⟩ | ⟨s5,q5,rfl,r5,o5⟩ <;> (first | (have R5:=hid r5;have Q5:=hid q5;have O5:=hid (O4.out.trans o5);have k5:=K4.out.only o5 hcb;have z5:=Z4.out.only o5 hdb;have K5:=hid k5;have Z5:=hid z5;clear k5 z5;have Y5:=hid o5;clear o5 q5 r5 h5) | (have O5:=hid (O4.out.trans o5);have Q5:=hid q5;clear o5 q5 h5)) <;> (clear t_ tok1;have tok2:Tk 2:=⟨⟩))
    | (go_at_call 26;refine (takes_any b s5 [60] _ R5.out).mono ?_;intro e w6 h6;rcases takes_cases h6 with ⟨s6,q6,rfl,r6,o6⟩ | ⟨s6,q6,rfl,r6,o6⟩ <;> (have Q6:=hid q6;have R6:=hid r6;have O6:=hid (O5.out.trans o6);have k6:=K5.out.only o6 hcb;have z6:=Z5.out.only o6 hdb;have Y6:=hid o6;clear q6 r6 o6 h6) <;> (first | (have l6:=takes_no Q6.out;have p0:=k6.c0;have pf0:=k6.free 0;have p1:=k6.c1;have pf1:=k6.free 1;have p2:=k6.c2;have pf2:=k6.free 2;have p3:=k6.c3;have pf3:=k6.free 3;have p4:=k6.c4;have pf4:=k6.free 4;have p5:=k6.c5;have pf5:=k6.free 5;have y0:=z6.c0;have yf0:=z6.free 0;have y1:=z6.c1;have yf1:=z6.free 1;have y2:=z6.c2;have yf2:=z6.free 2;have y3:=z6.c3;have yf3:=z6.free 3;have y4:=z6.c4;have yf4:=z6.free 4;have y5:=z6.c5;have yf5:=z6.free 5;have K6:=hid k6;have Z6:=hid z6;clear k6 z6) | (have K6:=hid k6;have Z6:=hid z6;clear k6 z6)))
    | (go_at_call 103;have t_:Tk 2:=‹Tk 2›;refine (num_any b s6 0 4294967295 _ R6.out).mono ?_;intro e w7 h7;rcases h7.cases with ⟨q7,rfl,o7⟩ | ⟨n7,s7,y7,q7,rfl,rfl,r7,o7⟩ <;> (first | (have k7:=K6.out.only o7 hcb;have u7:=k7.c4;have v7:=k7.free 4;have R7:Hid (RdI (w7.setCell ⟨w_.heap.size,4,none⟩ (.int .i64 n7)) b s7):=hid (r7.far hbc _);have Q7:=hid q7;have K7:=hid (k7.set4 n7);have Z7:Hid (ItAt (w7.setCell ⟨w_.heap.size,4,none⟩ (.int .i64 n7)) w.heap.size 0 (.slice none 0 0) 0 false 0 0):=hid ((Z6.out.only o7 hdb).far hcd _);have O7:Hid (Only b w (w7.setCell ⟨w_.heap.size,4,none⟩ (.int .i64 n7))):=hid ((O6.out.trans o7).setNew hblt hwc _);have Y7:=hid o7;clear r7 q7 o7 h7 k7) | (have O7:=hid (O6.out.trans o7);have Q7:=hid q7;clear q7 o7 h7)) <;> (clear t_ tok2;have tok3:Tk 3:=⟨⟩))
    | (go_at_call 53;have t_:Tk 3:=‹Tk 3›;refine (sign_any b s7 [46] _ R7.out).mono ?_;intro e w8 h8;rcases sign_cases h8 with ⟨q8,rfl,o8⟩ | ⟨s8,q8,rfl,r8,o8⟩ <;> (first | (have R8:=hid r8;have Q8:=hid q8;have O8:=hid (O7.out.trans o8);have k8:=K7.out.only o8 hcb;have z8:=Z7.out.only o8 hdb;have K8:=hid k8;have Z8:=hid z8;clear k8 z8;have Y8:=hid o8;clear o8 q8 r8 h8) | (have O8:=hid (O7.out.trans o8);have Q8:=hid q8;clear o8 q8 h8)) <;> (clear t_ tok3;have tok4:Tk 4:=⟨⟩))
    | (go_at_call 103;have t_:Tk 4:=‹Tk 4›;refine (num_any b s8 1 4294967295 _ R8.out).mono ?_;intro e w9 h9;rcases h9.cases with ⟨q9,rfl,o9⟩ | ⟨n9,s9,y9,q9,rfl,rfl,r9,o9⟩ <;> (first | (have k9:=K8.out.only o9 hcb;have u9:=k9.c5;have v9:=k9.free 5;have R9:Hid (RdI (w9.setCell ⟨w_.heap.size,5,none⟩ (.int .i64 n9)) b s9):=hid (r9.far hbc _);have Q9:=hid q9;have K9:=hid (k9.set5 n9);have Z9:Hid (ItAt (w9.setCell ⟨w_.heap.size,5,none⟩ (.int .i64 n9)) w.heap.size 0 (.slice none 0 0) 0 false 0 0):=hid ((Z8.out.only o9 hdb).far hcd _);have O9:Hid (Only b w (w9.setCell ⟨w_.heap.size,5,none⟩ (.int .i64 n9))):=hid ((O8.out.trans o9).setNew hblt hwc _);have Y9:=hid o9;clear r9 q9 o9 h9 k9) | (have O9:=hid (O8.out.trans o9);have Q9:=hid q9;clear q9 o9 h9)) <;> (clear t_ tok4;have tok5:Tk 5:=⟨⟩))
    | (go_at_call 53;have t_:Tk 5:=‹Tk 5›;refine (sign_any b s9 [62] _ R9.out).mono ?_;intro e w10 h10;rcases sign_cases h10 with ⟨q10,rfl,o10⟩ | ⟨s10,q10,rfl,r10,o10⟩ <;> (first | (have R10:=hid r10;have Q10:=hid q10;have O10:=hid (O9.out.trans o10);have k10:=K9.out.only o10 hcb;have z10:=Z9.out.only o10 hdb;have p0:=k10.c0;have pf0:=k10.free 0;have p1:=k10.c1;have pf1:=k10.free 1;have p2:=k10.c2;have pf2:=k10.free 2;have p3:=k10.c3;have pf3:=k10.free 3;have p4:=k10.c4;have pf4:=k10.free 4;have p5:=k10.c5;have pf5:=k10.free 5;have y0:=z10.c0;have yf0:=z10.free 0;have y1:=z10.c1;have yf1:=z10.free 1;have y2:=z10.c2;have yf2:=z10.free 2;have y3:=z10.c3;have yf3:=z10.free 3;have y4:=z10.c4;have yf4:=z10.free 4;have y5:=z10.c5;have yf5:=z10.free 5;have K10:=hid k10;have Z10:=hid z10;clear k10 z10;have Y10:=hid o10;clear o10 q10 r10 h10) | (have O10:=hid (O9.out.trans o10);have Q10:=hid q10;clear o10 q10 h10)) <;> (clear t_ tok5;have tok6:Tk 6:=⟨⟩)))
   all_goals first
    | (refine ⟨rfl,Reads.panic ?_ O10.out⟩;rw [HR.out];simp [most,Q3.out,Q4.out,Q5.out,Q6.out,Q7.out,Q8.out,Q9.out,Q10.out];done)
    | (refine ⟨rfl,Reads.panic ?_ O9.out⟩;rw [HR.out];simp [most,Q3.out,Q4.out,Q5.out,Q6.out,Q7.out,Q8.out,Q9.out];done)
    | (refine ⟨rfl,Reads.panic ?_ O8.out⟩;rw [HR.out];simp [most,Q3.out,Q4.out,Q5.out,Q6.out,Q7.out,Q8.out];done)
    | (refine ⟨rfl,Reads.panic ?_ O7.out⟩;rw [HR.out];simp [most,Q3.out,Q4.out,Q5.out,Q6.out,Q7.out];done)
    | (refine ⟨rfl,Reads.panic ?_ O5.out⟩;rw [HR.out];simp [most,Q3.out,Q4.out,Q5.out];done)
    | (refine ⟨rfl,Reads.panic ?_ O4.out⟩;rw [HR.out];simp [most,Q3.out,Q4.out];done)
    | (refine ⟨rfl,Reads.panic ?_ O3.out⟩;rw [HR.out];simp [most,Q3.out];done)
    | skip
   all_goals clear hmm hwd
   · have hb3:=R3.out.lt
     have hc3:w_.heap.size + 1 ≤ w3.heap.size:=K3.out.lt
     have hd3:w.heap.size + 1 ≤ w3.heap.size:=Z3.out.lt
     have hw3:w.heap.size ≤ w3.heap.size:=by omega
     have N6:=(GBuf.stays (GBuf.stays N4.out (Y5.out.stays hb3)) (Y6.out.stays hb3))
     refine bodyPost_ret (v:=.agg #[.int .i64 7,.slice A4 sec.length c4,.int .i64 wh,.bool pk,.int .i64 0,.int .i64 (-1)]) (by first | (simp [results,Tryz.results100,go_sem,y0,y1,y2,y3,y4,y5];done) | (simp [results,Tryz.results100,go_sem,y0,y1,y2,y3,y4,y5];rfl)) rfl ?_
     exact Reads.give (x:={ kind:=7,sec:=sec,what:=wh,peek:=pk,frm:=0,of:=-1 }) (by rw [HR.out];simp [Q3.out,Q4.out,Q5.out,Q6.out,takes_no Q6.out]) ((((((O6.out.setNew hblt (Nat.le_refl _) _).setNew hblt (Nat.le_refl _) _).setNew hblt (Nat.le_refl _) _).setNew hblt (Nat.le_refl _) _).setNew hblt (Nat.le_refl _) _).setNew hblt (Nat.le_refl _) _) ⟨_,rfl,GBuf.mono (GBuf.stays (GBuf.stays (GBuf.stays (GBuf.stays (GBuf.stays (GBuf.stays N6 ((setStays _ _ _ _).mono hd3)) ((setStays _ _ _ _).mono hd3)) ((setStays _ _ _ _).mono hd3)) ((setStays _ _ _ _).mono hd3)) ((setStays _ _ _ _).mono hd3)) ((setStays _ _ _ _).mono hd3)) hw3⟩ ((((((R6.out.far hblt _).far hblt _).far hblt _).far hblt _).far hblt _).far hblt _)
   · have hb3:=R3.out.lt
     have hc3:w_.heap.size + 1 ≤ w3.heap.size:=K3.out.lt
     have hd3:w.heap.size + 1 ≤ w3.heap.size:=Z3.out.lt
     have hw3:w.heap.size ≤ w3.heap.size:=by omega
     have N6:=(GBuf.stays (GBuf.stays (GBuf.stays (GBuf.stays (GBuf.stays (GBuf.stays (GBuf.stays (GBuf.stays N4.out (Y5.out.stays hb3)) (Y6.out.stays hb3)) (Y7.out.stays hb3)) ((setStays _ _ _ _).mono hc3)) (Y8.out.stays hb3)) (Y9.out.stays hb3)) ((setStays _ _ _ _).mono hc3)) (Y10.out.stays hb3))
     refine bodyPost_ret (v:=.agg #[.int .i64 7,.slice A4 sec.length c4,.int .i64 wh,.bool pk,.int .i64 n7,.int .i64 n9]) (by first | (simp [results,Tryz.results100,go_sem,y0,y1,y2,y3,y4,y5];done) | (simp [results,Tryz.results100,go_sem,y0,y1,y2,y3,y4,y5];rfl)) rfl ?_
     exact Reads.give (x:={ kind:=7,sec:=sec,what:=wh,peek:=pk,frm:=n7,of:=n9 }) (by rw [HR.out];simp [most,Q3.out,Q4.out,Q5.out,Q6.out,Q7.out,Q8.out,Q9.out,Q10.out]) ((((((O10.out.setNew hblt (Nat.le_refl _) _).setNew hblt (Nat.le_refl _) _).setNew hblt (Nat.le_refl _) _).setNew hblt (Nat.le_refl _) _).setNew hblt (Nat.le_refl _) _).setNew hblt (Nat.le_refl _) _) ⟨_,rfl,GBuf.mono (GBuf.stays (GBuf.stays (GBuf.stays (GBuf.stays (GBuf.stays (GBuf.stays N6 ((setStays _ _ _ _).mono hd3)) ((setStays _ _ _ _).mono hd3)) ((setStays _ _ _ _).mono hd3)) ((setStays _ _ _ _).mono hd3)) ((setStays _ _ _ _).mono hd3)) ((setStays _ _ _ _).mono hd3)) hw3⟩ ((((((R10.out.far hblt _).far hblt _).far hblt _).far hblt _).far hblt _).far hblt _)
end Go.Proofs.YtfdmdmahddjjmaaGreatDoor
namespace Go.Proofs.YtfdmdmahddjjmaaGreatDoor
open Go.RowKit Own Im
attribute [local go_sem] str_toList str_size
theorem GBuf.grown {e e2:TypeId} {sz sz2 B B2:Nat} {w w':World} {v u:Value} {n m:Nat} {xs ys:List Value} (he:e ≠ e2) (h:GBuf e sz B w u n xs) (ho:GBuf e2 sz2 B2 w v m ys) (hg:w.grownBy w' v.ownBlock):GBuf e sz B w' u n xs:=by
 refine ⟨⟨h.1.1,?_⟩,Nat.le_trans h.2 hg.size⟩
 rcases h.1.2 with hn | ⟨g,cap,cur,rfl,hb2,hb,rest⟩
 · exact .inl hn
 · refine .inr ⟨g,cap,cur,rfl,hb2,(hg.block g (lt_of_block hb) ?_).trans hb,rest⟩
   intro hq
   rcases ho.1.2 with ⟨hv,-⟩ | ⟨g2,cap2,cur2,rfl,-,hb2',-⟩
   · subst hv
     cases hq
   · have:g2 = g:=by simpa [Value.ownBlock] using hq.symm
     subst this
     rw [hb] at hb2'
     injection hb2' with h1
     injection h1 with h2 h3
     exact he h3
theorem ItCells.grown {B B2:Nat} {w w':World} {v:Value} {m:Nat} {ys:List Value} (ho:GBuf 37 6 B2 w v m ys) (hg:w.grownBy w' v.ownBlock):∀ {l:List It} {xs:List Value},ItCells B w l xs→ItCells B w' l xs
 | [],_,h=>h
 | it :: l,xs,⟨sv,r,h1,h2,h3⟩=>⟨sv,r,h1,h2.grown (by decide) ho hg,ItCells.grown ho hg h3⟩
theorem KyCells.grown {B B2:Nat} {w w':World} {v:Value} {m:Nat} {ys:List Value} (ho:GBuf 39 5 B2 w v m ys) (hg:w.grownBy w' v.ownBlock):∀ {l:List Ky} {xs:List Value},KyCells B w l xs→KyCells B w' l xs
 | [],_,h=>h
 | k :: l,xs,⟨sv,r,h1,h2,h3⟩=>⟨sv,r,h1,GBuf.grown (by decide) h2 ho hg,KyCells.grown ho hg h3⟩
theorem itC_one (it:It) (A:Option Addr) (n k:Nat):∀ u ∈ itC it (.slice A n k),u.oneCell' = true:=by
 intro u hu
 simp at hu
 rcases hu with rfl | rfl | rfl | rfl | rfl | rfl <;> rfl
theorem kyC_one (x:Ky) (A:Option Addr) (n k:Nat):∀ u ∈ kyC x (.slice A n k),u.oneCell' = true:=by
 intro u hu
 simp at hu
 rcases hu with rfl | rfl | rfl | rfl | rfl <;> rfl
theorem own_below {w w':World} {e:TypeId} {sz B n:Nat} {v:Value} {xs:List Value} (hbuf:GBuf e sz B w v n xs) (h3:w.grownBy w' v.ownBlock):Below B w w' :=
 ⟨h3.os,h3.tape,h3.output,h3.size,fun k hk=>h3.block k (by have:=hbuf.2;omega) (fun e=>by have:=(hbuf.1.lt k e.symm).1;omega)⟩
theorem wpList_ibuf {ops:Array Oper} {rest:List Oper} {o:Oper} {a:Act} {Q:Exit→Act→World→Prop} (B:Nat) (w:World) (hgd:o.guard = none) (s x:Operand)
  (ho:o.op = .call { callee:=.builtin .append,args:=#[s,x],argTypes:=#[26,26] }) (v:Value) (l:List It) (hs:a.eval s = v) (hbuf:vItems B l v w)
  (it:It) (A:Option Addr) (n k:Nat) (hit:NBuf B w (.slice A n k) it.sec)
  (ad:Addr) (c:Nat) (hx:a.eval x = .slice (some ad) 1 c) (hnews:∀ (j:Nat) u,(itC it (.slice A n k))[j]? = some u→w.cell? (ad.add j) = some u) (hlen:l.length ≤ 1000000000)
  (h:∀ v' w',vItems B (l ++ [it]) v' w'→Below B w w'→wpList Tryz.prog ops Q rest (a.put o.dst v') w'):wpList Tryz.prog ops Q (o :: rest) a w:=by
 obtain ⟨xs,hb,hcs⟩:=hbuf
 obtain ⟨i,hi,hz,hsize,hby⟩:=info_parts info_item
 refine wpList_append_own w hgd s x 26 ho B 37 i _ 6 64 Tryz.underlying26 hi hz hsize hby rfl (by decide) v l.length xs hs hb.1 ad 1 c (itC it (.slice A n k)) hx rfl hnews (itC_one it A n k) (by unfold maxLen;omega) (by omega) hb.2 ?_
 intro v' w' h2 h3 _
 refine h v' w' ⟨xs ++ itC it (.slice A n k),?_,(ItCells.grown hb h3 hcs).snoc (GBuf.grown (by decide) hit hb h3)⟩ (own_below hb h3)
 rw [List.length_append]
 exact ⟨h2,Nat.le_trans hb.2 h3.size⟩
theorem vItems.one {B:Nat} (w:World) (it:It) (A:Option Addr) (n k:Nat) (hB:B ≤ w.heap.size) (hit:NBuf B w (.slice A n k) it.sec) (cs:Array Value) (hcs:cs.toList = itC it (.slice A n k)):vItems B [it] (.slice (some ⟨w.heap.size,0,none⟩) 1 1) (w.alloc (.cells cs 37)) :=
 ⟨itC it (.slice A n k),by rw [← hcs];exact (GBuf.lit w cs 1 (by decide) (by rw [← Array.length_toList,hcs];rfl)).mono hB,ItCells.snoc (l:=[]) (xs:=[]) (hit.alloc _) rfl⟩
theorem vKeys.one {B:Nat} (w:World) (x:Ky) (A:Option Addr) (n k:Nat) (hB:B ≤ w.heap.size) (hit:Sq.RBuf B w (.slice A n k) x.set) (cs:Array Value) (hcs:cs.toList = kyC x (.slice A n k)):vKeys B [x] (.slice (some ⟨w.heap.size,0,none⟩) 1 1) (w.alloc (.cells cs 39)) :=
 ⟨kyC x (.slice A n k),by rw [← hcs];exact (GBuf.lit w cs 1 (by decide) (by rw [← Array.length_toList,hcs];rfl)).mono hB,KyCells.snoc (l:=[]) (xs:=[]) (hit.alloc _) rfl⟩
theorem vItems.nil {B:Nat} {w:World} (h:B ≤ w.heap.size):vItems B [] (.slice none 0 0) w:=⟨[],GBuf.nil h,rfl⟩
theorem vKeys.nil {B:Nat} {w:World} (h:B ≤ w.heap.size):vKeys B [] (.slice none 0 0) w:=⟨[],GBuf.nil h,rfl⟩
end Go.Proofs.YtfdmdmahddjjmaaGreatDoor
namespace Go.Proofs.YtfdmdmahddjjmaaGreatDoor
open Go.RowKit Own Im
attribute [local go_sem] str_toList str_size
theorem GBuf.part {e:TypeId} {sz:Nat} (w:World) (cs:Array Value) (n cap:Nat) (hcap:cap ≤ 1000000) (hn:n ≤ cap) (hs:cs.size = cap * sz):GBuf e sz w.heap.size (w.alloc (.cells cs e (0,0))) (.slice (some ⟨w.heap.size,0,none⟩) n cap) n (cs.toList.take (n * sz)):=by
 have hle:n * sz ≤ cap * sz:=Nat.mul_le_mul_right sz hn
 refine ⟨⟨?_,.inr ⟨w.heap.size,cap,cs,rfl,Nat.le_refl _,heap_alloc_new w _,hn,by unfold maxLen;omega,hs,rfl⟩⟩,by simp⟩
 rw [List.length_take,Array.length_toList,hs]
 omega
theorem short_vals (x:Bt):kindOf short x = 0∨kindOf short x = 3∨kindOf short x = 4:=by
 unfold kindOf
 cases h:short.find? fun p=>p.1 == x with
 | none=>exact .inl rfl
 | some p =>
  have:=List.mem_of_find?_eq_some h
  have hall:∀ p ∈ short,p.2 = 0∨p.2 = 3∨p.2 = 4:=by decide
  exact hall p this
def itemsEnd (q:List It × Bt):Option (List It × Bt):=(sign [41] q.2).bind fun s=>if q.1.length ≤ 16 then some (q.1,s) else none
theorem itemsL_on {f:Nat} {l:List It} {s t:Bt} (h:takes [32] s = (true,t)):itemsL (f + 1) l s = (item t).bind fun q=>itemsL f (l ++ [q.1]) q.2:=by
 rw [itemsL.eq_def]
 simp [h]
theorem itemsL_end {f:Nat} {l:List It} {s t:Bt} (h:takes [32] s = (false,t)):itemsL (f + 1) l s = some (l,s):=by
 rw [itemsL.eq_def]
 simp [h]
theorem fourCells (B:Nat) (w:World) (h:B ≤ w.heap.size):ItCells B w four (four.flatMap fun it=>itC it (.slice none 0 0)) :=
 ⟨.slice none 0 0,_,rfl,GBuf.nil h,.slice none 0 0,_,rfl,GBuf.nil h,.slice none 0 0,_,rfl,GBuf.nil h,.slice none 0 0,_,rfl,GBuf.nil h,rfl⟩
theorem threeCells (B:Nat) (w:World) (h:B ≤ w.heap.size):ItCells B w (four.take 3) ((four.take 3).flatMap fun it=>itC it (.slice none 0 0)) :=
 ⟨.slice none 0 0,_,rfl,GBuf.nil h,.slice none 0 0,_,rfl,GBuf.nil h,.slice none 0 0,_,rfl,GBuf.nil h,rfl⟩
theorem items_short (B:Nat) (w:World) (h:B ≤ w.heap.size) (n g:Nat) (hn:n = 3∨n = 4) (hg:g = w.heap.size) (cs:Array Value) (hcs:cs.toList = four.flatMap fun it=>itC it (.slice none 0 0)):vItems B (four.take n) (.slice (some ⟨g,0,none⟩) n 4) (w.alloc (.cells cs 37)):=by
 subst hg
 have hs:cs.size = 4 * 6:=by rw [← Array.length_toList,hcs];rfl
 have hB:B ≤ (w.alloc (.cells cs 37)).heap.size:=by simp;omega
 have hp:=(GBuf.part (e:=37) (sz:=6) w cs n 4 (by decide) (by omega) hs).mono h
 have hl:(four.take n).length = n:=by rcases hn with rfl | rfl <;> rfl
 refine ⟨_,by rw [hl];exact hp,?_⟩
 rw [hcs]
 rcases hn with rfl | rfl
 · exact threeCells B _ hB
 · exact fourCells B _ hB
set_option maxHeartbeats 8000000 in
theorem items_any (b:Nat) (s:Bt) (w:World) (h:RdI w b s) :
  Calls Tryz.prog 64 #[.pointer (some ⟨b,0,none⟩)] w fun e w'=>Reads b w (vItems w.heap.size) (Im.items s) e w':=by
 have hmm:=@run_makeMap Tryz.prog
 have hgr:=fun W=>great_any s W (by have:=h.len;omega)
 have hblt:=h.lt
 have hc0:=h.c
 have hM:=MapIn.new' w
 have hlen:=h.len
 have H:=hid h
 clear h
 obtain ⟨R,hR⟩:∃ R,R = Im.items s:=⟨_,rfl⟩
 rw [← hR]
 unfold Im.items at hR
 obtain ⟨G,hG⟩:∃ G,s.map (moveB 97 65) = G:=⟨_,rfl⟩
 rw [hG] at hgr
 rw [show great s = G from hG] at hR
 clear hG
 obtain ⟨K,hK⟩:∃ K,kindOf short G = K:=⟨_,rfl⟩
 have hKv:=short_vals G
 rw [hK] at hR hKv
 rcases hKv with rfl | hKv
 · rw [if_neg (by decide)] at hR
   have HR:=hid hR
   clear hR
   go_enter Tryz.func64,Tryz.ntmps64
   go_wp2_with (first
    | (refine wpList_putIn w _ rfl _ _ _ rfl Tryz.underlying100 Tryz.underlying9 _ _ rfl (by assumption) _ rfl _ rfl (by rfl) ?_;intro w_ h_;have c_:=(h_.low.cell hblt).trans hc0)
    | (go_at_call 45;refine (hgr _).mono ?_;rintro e w2 ⟨rfl,b2⟩;have hlk:=lookK short G ((show MapAt w_ _ (kindV short) from h_.map).below b2);rw [hK] at hlk;have bb:=below_then h_.low b2;have r2:=H.out.below bb;have c2:=r2.c;have f2:=r2.free;have R2:=hid r2;have O2:=hid (Only.of (b:=b) bb (Nat.le_of_lt hblt));clear b2 r2 bb)
    | (go_at_call 26;refine (takes_any b s [40] _ R2.out).mono ?_;intro e w3 h3;rcases takes_cases h3 with ⟨s3,q3,rfl,r3,o3⟩ | ⟨s3,q3,rfl,r3,o3⟩ <;> (have O3:=hid o3;have Q3:=hid q3;have R3:=hid r3;clear o3 q3 r3 h3))
    | (go_at_call 100;refine (item_any b s3 _ R3.out).mono ?_;intro e w4 h4;rcases h4.cases with ⟨q4,rfl,o4⟩ | ⟨it4,s4,y4,q4,rfl,v4,r4,o4⟩ <;> (first | (obtain ⟨sv4,rfl,n4⟩:=v4;obtain ⟨A4,k4,rfl,-,-,-⟩:=n4.full;have l4:=item_le q4;have P4:=hid ((hid (O2.out.trans O3.out)).out.size);have N4:=hid n4;have R4:=hid r4;have Q4:=hid q4;have Y4:=hid o4;have O4:=hid ((hid (O2.out.trans O3.out)).out.trans o4);clear q4 r4 o4 n4 h4) | (have O4:=hid ((hid (O2.out.trans O3.out)).out.trans o4);have Q4:=hid q4;clear o4 q4 h4))))
   all_goals first
    | (refine ⟨rfl,Reads.panic ?_ O4.out⟩;rw [HR.out];simp [Q3.out,Q4.out];done)
    | (refine ⟨rfl,Reads.panic ?_ O4.out⟩;have e3:=takes_no Q3.out;subst e3;rw [HR.out];simp [Q3.out,Q4.out];done)
    | skip
   · have e3:=takes_no Q3.out
     subst e3
     go_ret
     refine Reads.give (x:=[it4]) (by rw [HR.out];simp [Q3.out,Q4.out]) (O4.out.trans (Only.of ((Below.refl _ _).alloc (Nat.le_refl _) _) (Nat.le_of_lt R4.out.lt))) ?_ (R4.out.below ((Below.refl _ _).alloc (Nat.le_refl _) _))
     exact vItems.one _ it4 A4 it4.sec.length k4 O4.out.size (GBuf.mono N4.out P4.out) _ rfl
   · have hR2:R = (itemsL (s4.length + 1) [it4] s4).bind itemsEnd:=by rw [HR.out];simp [Q3.out,Q4.out];rfl
     have hl3:=takes_lt Q3.out
     have hB4:=hid (vItems.one w4 it4 A4 it4.sec.length k4 O4.out.size (GBuf.mono N4.out P4.out) (itC it4 (.slice A4 it4.sec.length k4)).toArray rfl)
     have hO4:=hid (O4.out.trans (Only.of ((Below.refl w4.heap.size w4).alloc (Nat.le_refl _) (.cells (itC it4 (.slice A4 it4.sec.length k4)).toArray 37)) (Nat.le_of_lt R4.out.lt)))
     have hRd4:=hid (R4.out.below ((Below.refl w4.heap.size w4).alloc (Nat.le_refl _) (.cells (itC it4 (.slice A4 it4.sec.length k4)).toArray 37)))
     go_loopw [4] (fun v4 wr=>∃ (f:Nat) (l:List It) (t:Bt),R = (itemsL f l t).bind itemsEnd∧t.length < f∧l.length + t.length ≤ 100000001∧RdI wr b t∧vItems w.heap.size l v4 wr∧Only b w wr) (fun _ wr=>rdLen b wr)
     case atStart=>exact ⟨_,[it4],s4,hR2,Nat.lt_succ_self _,by simp at l4 ⊢;omega,hRd4.out,hB4.out,hO4.out⟩
     case round =>
      obtain ⟨f,l,t,hr,hl,hl8,hrd,hbuf,ho⟩:=hrel
      obtain ⟨f,rfl⟩:∃ k,f = k + 1:=⟨f - 1,by omega⟩
      have HB:=hid hbuf
      obtain ⟨xs,hb0,-⟩:=hbuf
      obtain ⟨A,cc,rfl,hcc,-,-⟩:=hb0.full
      have HRd:=hid hrd
      have HO:=hid ho
      have HR2:=hid hr
      clear hrd ho hb0 hr hR2 hM hc0 hmm hgr c_ hlk c2 f2
      go_wp2_with (first
       | (refine wpList_ibuf w.heap.size _ (by rfl) _ _ (by rfl) _ l (by rfl) (((HB.out.stays (O5.out.stays hblt)).stays (Y6.out.stays hblt)).stays (Below.stays ((Below.refl _ _).alloc (Nat.le_refl _) _))) it6 A6 it6.sec.length k6 ((GBuf.mono N6.out P6.out).alloc _) _ 1 (by rfl) (fun j u hu=>lit_cells _ _ _ _ _ (by rfl) j u hu) (by omega) ?_;intro v7 w7 hb7 hbel7;have m7:=((Below.refl w.heap.size w6).alloc (by have:=O6.out.size;omega) _).trans hbel7;have R7:=hid (R6.out.below' m7 hblt);have B7:=hid hb7;have O7:=hid (O6.out.trans' m7 hblt (Nat.le_refl _));clear hb7 hbel7 m7)
       | (go_at_call 26;refine (takes_any b t [32] _ HRd.out).mono ?_;intro e w5 h5;rcases takes_cases h5 with ⟨s5,q5,rfl,r5,o5⟩ | ⟨s5,q5,rfl,r5,o5⟩ <;> (have O5:=hid o5;have Q5:=hid q5;have R5:=hid r5;clear o5 q5 r5 h5))
       | (go_at_call 100;refine (item_any b s5 _ R5.out).mono ?_;intro e w6 h6;rcases h6.cases with ⟨q6,rfl,o6⟩ | ⟨it6,s6,y6,q6,rfl,v6,r6,o6⟩ <;> (first | (obtain ⟨sv6,rfl,n6⟩:=v6;obtain ⟨A6,k6,rfl,-,-,-⟩:=n6.full;have l6:=item_le q6;have P6:=hid ((hid (HO.out.trans O5.out)).out.size);have N6:=hid n6;have R6:=hid r6;have Q6:=hid q6;have Y6:=hid o6;have O6:=hid ((hid (HO.out.trans O5.out)).out.trans o6);clear q6 r6 o6 n6 h6) | (have O6:=hid ((hid (HO.out.trans O5.out)).out.trans o6);have Q6:=hid q6;clear o6 q6 h6)))
       | (go_at_call 53;refine (sign_any b s5 [41] _ R5.out).mono ?_;intro e w8 h8;rcases sign_cases h8 with ⟨q8,rfl,o8⟩ | ⟨s8,q8,rfl,r8,o8⟩ <;> (first | (have O8:=hid o8;have Q8:=hid q8;have R8:=hid r8;clear o8 q8 r8 h8) | (have O8:=hid o8;have Q8:=hid q8;clear o8 q8 h8)))
       | (go_at_call 28;refine (must_any _ _).mono ?_;rintro e w9 ⟨h9,he⟩;obtain rfl:=he.symm;rcases must_split h9 with ⟨m9,rfl⟩ | ⟨m9,rfl⟩ <;> (first | (have M9:=hid (of_decide_eq_true m9);clear m9 h9) | (have M9:=hid (of_decide_eq_false m9);clear m9 h9))))
      all_goals first
       | (refine ⟨rfl,Reads.panic ?_ O6.out⟩;rw [HR2.out,itemsL_on Q5.out,Q6.out];rfl)
       | (refine ⟨rfl,Reads.panic ?_ ((HO.out.trans O5.out).trans O8.out)⟩;have e5:=takes_no Q5.out;subst e5;rw [HR2.out,itemsL_end Q5.out];simp [itemsEnd,Q8.out];done)
       | (refine ⟨rfl,Reads.panic ?_ ((HO.out.trans O5.out).trans O8.out)⟩;have e5:=takes_no Q5.out;subst e5;have m9:=M9.out;rw [HR2.out,itemsL_end Q5.out];simp [itemsEnd,Q8.out];omega)
       | (go_ret;have e5:=takes_no Q5.out;subst e5;exact Reads.give (x:=l) (t:=s8) (by have m9:=M9.out;rw [HR2.out,itemsL_end Q5.out];simp [itemsEnd,Q8.out];omega) ((HO.out.trans O5.out).trans O8.out) ((HB.out.stays (O5.out.stays hblt)).stays (O8.out.stays hblt)) R8.out)
       | (have hl5:=takes_lt Q5.out;exact ⟨⟨f,l ++ [it6],s6,(by rw [HR2.out,itemsL_on Q5.out,Q6.out];rfl),(by simp at hl5;omega),(by simp at hl5 ⊢;omega),R7.out,B7.out,O7.out⟩,(by rw [rdLen_of R7.out,rdLen_of HRd.out];simp at hl5;omega)⟩)
 · have HR:Hid (R = some (four.take K.toNat,[])):=hid (by rw [hR,if_pos (by omega)])
   clear hR
   rcases hKv with rfl | rfl
   all_goals
    go_enter Tryz.func64,Tryz.ntmps64
    go_wp2_with (first
     | (refine wpList_putIn w _ rfl _ _ _ rfl Tryz.underlying100 Tryz.underlying9 _ _ rfl (by assumption) _ rfl _ rfl (by rfl) ?_;intro w_ h_;have c_:=(h_.low.cell hblt).trans hc0)
     | (go_at_call 45;refine (hgr _).mono ?_;rintro e w2 ⟨rfl,b2⟩;have hlk:=lookK short G ((show MapAt w_ _ (kindV short) from h_.map).below b2);rw [hK] at hlk;have bb:=below_then h_.low b2;have r2:=H.out.below bb;have c2:=r2.c;have f2:=r2.free;have R2:=hid r2;have O2:=hid (Only.of (b:=b) bb (Nat.le_of_lt hblt));clear b2 r2 bb))
    go_ret
    have hs2:=O2.out.size
    exact Reads.give HR.out ((O2.out.trans (Only.set _ _ _ _)).trans (Only.of ((Below.refl _ _).alloc (Nat.le_refl _) _) (by have:=R2.out.lt;simp;omega))) (items_short _ _ (by simpa using hs2) _ _ (by omega) (by simp) _ rfl) ((R2.out.set [] (Nat.zero_le _)).below ((Below.refl _ _).alloc (Nat.le_refl _) _))
end Go.Proofs.YtfdmdmahddjjmaaGreatDoor
namespace Go.Proofs.YtfdmdmahddjjmaaGreatDoor
open Go.RowKit Own Im
attribute [local go_sem] str_toList str_size
def fidOf:Nat→FuncId
 | 0=>49
 | 1=>50
 | 2=>52
 | 3=>56
 | 4=>57
 | 5=>58
 | 6=>59
 | 7=>60
 | 8=>61
 | 9=>63
 | _=>65
def formV (k:Nat):Value:=.agg #[.bool (uidF k),.func (.func (fidOf k)) #[] #[]]
def formsV:List (Bt × Value):=Im.forms.map fun p=>(p.1,formV p.2)
theorem look_forms (w:Bt):lookL formsV w = (formK w).map formV:=by
 unfold lookL formsV formK
 rw [List.find?_map]
 show Option.map _ (Option.map _ (List.find? (fun p=>p.1 == w) Im.forms)) = _
 cases List.find? (fun p:Bt × Nat=>p.1 == w) Im.forms <;> rfl
end Go.Proofs.YtfdmdmahddjjmaaGreatDoor
