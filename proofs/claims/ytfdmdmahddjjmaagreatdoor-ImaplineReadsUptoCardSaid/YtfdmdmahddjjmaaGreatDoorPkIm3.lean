/-
  Joined texts: ImQ ImR ImSa ImSb.
-/
import Derived.Test.YtfdmdmahddjjmaaGreatDoorPkIm2
import Derived.Test.YtfdmdmahddjjmaaGreatDoorPkIm1
import Derived.Test.YtfdmdmahddjjmaaGreatDoorPkSt2
import Derived.Deep.CutBlock
import Derived.Deep.DeepCutAuto
set_option linter.unusedVariables false
set_option linter.unusedSimpArgs false
set_option maxRecDepth 100000
namespace Go.Proofs.YtfdmdmahddjjmaaGreatDoor
open Go.RowKit Own Im
attribute [local go_sem] str_toList str_size
section
variable {w w':World} {c:Nat} {x:Cm} {v:CmV}
theorem CmAt.lt (h:CmAt w c x v):c < w.heap.size:=lt_of_block h
theorem CmAt.free (h:CmAt w c x v) (j:Nat):w.frozen? ⟨c,j,none⟩ = false:=by unfold World.frozen?;rw [h];simp
theorem CmAt.below (h:CmAt w c x v) (hb:Below w.heap.size w w'):CmAt w' c x v:=(hb.block c h.lt).trans h
theorem CmAt.below' {B:Nat} (h:CmAt w c x v) (hb:Below B w w') (hc:c < B):CmAt w' c x v:=(hb.block c hc).trans h
theorem CmAt.only {b:Nat} (h:CmAt w c x v) (ho:Only b w w') (hcb:c ≠ b):CmAt w' c x v:=(ho.block hcb h.lt).trans h
theorem CmAt.far {d j:Nat} (h:CmAt w c x v) (hd:c ≠ d) (y:Value):CmAt (w.setCell ⟨d,j,none⟩ y) c x v:=(Below.heap_setCell w ⟨d,j,none⟩ y c hd).trans h
theorem CmAt.drew (h:CmAt w c x v):CmAt w.drew c x v:=h
theorem CmAt.c0 (h:CmAt w c x v):w.cell? ⟨c,0,none⟩ = some (.string (str x.tag)):=by rw [cells_at h];rfl
theorem CmAt.c1 (h:CmAt w c x v):w.cell? ⟨c,1,none⟩ = some (.string (str x.word)):=by rw [cells_at h];rfl
theorem CmAt.c2 (h:CmAt w c x v):w.cell? ⟨c,2,none⟩ = some (.bool x.uid):=by rw [cells_at h];rfl
theorem CmAt.c3 (h:CmAt w c x v):w.cell? ⟨c,3,none⟩ = some (v.set):=by rw [cells_at h];rfl
theorem CmAt.c4 (h:CmAt w c x v):w.cell? ⟨c,4,none⟩ = some (.string (str x.box)):=by rw [cells_at h];rfl
theorem CmAt.c5 (h:CmAt w c x v):w.cell? ⟨c,5,none⟩ = some (.string (str x.dest)):=by rw [cells_at h];rfl
theorem CmAt.c6 (h:CmAt w c x v):w.cell? ⟨c,6,none⟩ = some (v.names):=by rw [cells_at h];rfl
theorem CmAt.c7 (h:CmAt w c x v):w.cell? ⟨c,7,none⟩ = some (.int .i64 x.flags):=by rw [cells_at h];rfl
theorem CmAt.c8 (h:CmAt w c x v):w.cell? ⟨c,8,none⟩ = some (.int .i64 x.mode):=by rw [cells_at h];rfl
theorem CmAt.c9 (h:CmAt w c x v):w.cell? ⟨c,9,none⟩ = some (.bool x.silent):=by rw [cells_at h];rfl
theorem CmAt.c10 (h:CmAt w c x v):w.cell? ⟨c,10,none⟩ = some (v.items):=by rw [cells_at h];rfl
theorem CmAt.c11 (h:CmAt w c x v):w.cell? ⟨c,11,none⟩ = some (v.keys):=by rw [cells_at h];rfl
theorem CmAt.c12 (h:CmAt w c x v):w.cell? ⟨c,12,none⟩ = some (.int .i64 x.date):=by rw [cells_at h];rfl
theorem CmAt.c13 (h:CmAt w c x v):w.cell? ⟨c,13,none⟩ = some (v.lit):=by rw [cells_at h];rfl
theorem CmAt.set0 (h:CmAt w c x v) (y:Bt):CmAt (w.setCell ⟨c,0,none⟩ (.string (str y))) c { x with tag:=y } v:=block_set h _
theorem CmAt.set1 (h:CmAt w c x v) (y:Bt):CmAt (w.setCell ⟨c,1,none⟩ (.string (str y))) c { x with word:=y } v:=block_set h _
theorem CmAt.set2 (h:CmAt w c x v) (y:Bool):CmAt (w.setCell ⟨c,2,none⟩ (.bool y)) c { x with uid:=y } v:=block_set h _
theorem CmAt.set3 (h:CmAt w c x v) (y:Value) (l:List Rg):CmAt (w.setCell ⟨c,3,none⟩ y) c { x with set:=l } { v with set:=y }:=block_set h _
theorem CmAt.set4 (h:CmAt w c x v) (y:Bt):CmAt (w.setCell ⟨c,4,none⟩ (.string (str y))) c { x with box:=y } v:=block_set h _
theorem CmAt.set5 (h:CmAt w c x v) (y:Bt):CmAt (w.setCell ⟨c,5,none⟩ (.string (str y))) c { x with dest:=y } v:=block_set h _
theorem CmAt.set6 (h:CmAt w c x v) (y:Value) (l:List Bt):CmAt (w.setCell ⟨c,6,none⟩ y) c { x with names:=l } { v with names:=y }:=block_set h _
theorem CmAt.set7 (h:CmAt w c x v) (y:Nat):CmAt (w.setCell ⟨c,7,none⟩ (.int .i64 y)) c { x with flags:=y } v:=block_set h _
theorem CmAt.set8 (h:CmAt w c x v) (y:Int):CmAt (w.setCell ⟨c,8,none⟩ (.int .i64 y)) c { x with mode:=y } v:=block_set h _
theorem CmAt.set9 (h:CmAt w c x v) (y:Bool):CmAt (w.setCell ⟨c,9,none⟩ (.bool y)) c { x with silent:=y } v:=block_set h _
theorem CmAt.set10 (h:CmAt w c x v) (y:Value) (l:List It):CmAt (w.setCell ⟨c,10,none⟩ y) c { x with items:=l } { v with items:=y }:=block_set h _
theorem CmAt.set11 (h:CmAt w c x v) (y:Value) (l:List Ky):CmAt (w.setCell ⟨c,11,none⟩ y) c { x with keys:=l } { v with keys:=y }:=block_set h _
theorem CmAt.set12 (h:CmAt w c x v) (y:Int):CmAt (w.setCell ⟨c,12,none⟩ (.int .i64 y)) c { x with date:=y } v:=block_set h _
theorem CmAt.set13 (h:CmAt w c x v) (y:Value) (l:Bt):CmAt (w.setCell ⟨c,13,none⟩ y) c { x with lit:=l } { v with lit:=y }:=block_set h _
end
theorem CmRows.as {B c:Nat} {w:World} {x:Cm} {v:CmV} (_:CmAt w c x v) (h1:Sq.RBuf B w v.set x.set) (h2:SBuf B w v.names x.names) (h3:vItems B x.items v.items w) (h4:vKeys B x.keys v.keys w) (h5:LBuf B w v.lit x.lit):CmRows B w x v:=⟨h1,h2,h3,h4,h5⟩
def FormPost (b c B:Nat) (w:World) (r:Option (Cm × Bt)) (e:Ending) (w':World):Prop :=
 Two b c w w'∧match r with
  | none=>e = .panicked thrown
  | some q=>e = .returned (.tuple #[])∧RdI w' b q.2∧∃ v,CmAt w' c q.1 v∧CmRows B w' q.1 v
theorem FormPost.panic {b c B:Nat} {w w':World} {r:Option (Cm × Bt)} (hr:r = none) (ho:Two b c w w'):FormPost b c B w r (.panicked thrown) w':=by
 subst hr
 exact ⟨ho,rfl⟩
theorem FormPost.give {b c B:Nat} {w w':World} {r:Option (Cm × Bt)} {x:Cm} {t:Bt} {v:CmV} (hr:r = some (x,t)) (ho:Two b c w w') (ht:RdI w' b t) (hc:CmAt w' c x v) (hv:CmRows B w' x v):FormPost b c B w r (.returned (.tuple #[])) w':=by
 subst hr
 exact ⟨ho,rfl,ht,v,hc,hv⟩
theorem FormPost.cases {b c B:Nat} {w w':World} {r:Option (Cm × Bt)} {e:Ending} (h:FormPost b c B w r e w') :
  (r = none∧e = .panicked thrown∧Two b c w w')∨∃ x t v,r = some (x,t)∧e = .returned (.tuple #[])∧RdI w' b t∧CmAt w' c x v∧CmRows B w' x v∧Two b c w w':=by
 obtain ⟨ho,h⟩:=h
 rcases r with _ | ⟨x,t⟩
 · exact .inl ⟨rfl,h,ho⟩
 · obtain ⟨h1,h2,v,h3,h4⟩:=h
   exact .inr ⟨x,t,v,rfl,h1,h2,h3,h4,ho⟩
def FormC (fid:FuncId) (rd:Cm→Rd Cm):Prop:=∀ (b c B:Nat) (s:Bt) (x:Cm) (v:CmV) (w:World),RdI w b s→CmAt w c x v→CmRows B w x v→b < c→c < B→B ≤ w.heap.size→x.flags = 0→(x.names = []∧v.names = .slice none 0 0) →
 Calls Tryz.prog fid #[.pointer (some ⟨b,0,none⟩),.pointer (some ⟨c,0,none⟩)] w fun e w'=>FormPost b c B w (rd x s) e w'
end Go.Proofs.YtfdmdmahddjjmaaGreatDoor
namespace Go.Proofs.YtfdmdmahddjjmaaGreatDoor
open Go.RowKit Own Im
attribute [local go_sem] str_toList str_size
theorem nothing_any:FormC 49 (readF 0):=by
 intro b c B s x v w h hc hv hbc hcB hB _ _
 go_enter Tryz.func49,Tryz.ntmps49
 go_wp2
 go_end0
 exact FormPost.give rfl (Two.refl _ _ _) h hc hv
set_option maxHeartbeats 4000000 in
theorem box_any:FormC 50 (readF 1):=by
 intro b c B s x v w h hc hv hbc hcB hB hx7 hx6
 have hbB:b < B:=by omega
 have hcb:c ≠ b:=by omega
 have H:=hid h
 have K0:=hid hc
 have S0:=hid hv
 have T0:=hid (Two.refl b c w)
 clear h hc hv
 obtain ⟨R,hR⟩:∃ R,R = (readF 1) x s:=⟨_,rfl⟩
 rw [← hR]
 have HR:=hid hR
 clear hR
 have tok0:Tk 0:=⟨⟩
 go_enter Tryz.func50,Tryz.ntmps50
 go_wp2_with (first
  | (go_at_call 51;have t_:Tk 0:=‹Tk 0›;refine (then_any b s _ H.out).mono ?_;intro e w1 h1;rcases h1.cases with ⟨q1,rfl,o1⟩ | ⟨x1,s1,y1,q1,rfl,rfl,r1,o1⟩ <;> (first | (have k1:=K0.out.only o1 hcb;have u1:=k1.c4;have f1:=k1.free 4;have K1:=hid (k1.set4 x1);have e1:=(show CmRows B (w1.setCell ⟨c,4,none⟩ (.string (str x1))) _ _ from (S0.out.stays (o1.stays hbB)).stays ((setStays _ _ _ _).mono hcB));have S1:=hid (CmRows.as K1.out e1.set e1.names e1.items e1.keys e1.lit);clear e1;have T1:Hid (Two b c w (w1.setCell ⟨c,4,none⟩ (.string (str x1)))):=hid ((T0.out.trans o1.two).trans (Two.set _ hbc _ _));have R1:Hid (RdI (w1.setCell ⟨c,4,none⟩ (.string (str x1))) b s1):=hid (r1.far hbc _); have Q1:=hid q1; clear r1 q1 o1 h1) | (have Q1:=hid q1;have T1:=hid (T0.out.trans o1.two);clear q1 o1 h1)) <;> (clear t_ tok0;have tok1:Tk 1:=⟨⟩)))
 all_goals first
  | (refine ⟨rfl,FormPost.panic ?_ T1.out⟩;rw [HR.out];simp [readF,oneF,Q1.out];done)
  | skip
 go_end0
 exact FormPost.give (by rw [HR.out];simp [readF,oneF,Q1.out];try rfl) T1.out R1.out K1.out S1.out
set_option maxHeartbeats 4000000 in
theorem listed_any:FormC 52 (readF 2):=by
 intro b c B s x v w h hc hv hbc hcB hB hx7 hx6
 have hbB:b < B:=by omega
 have hcb:c ≠ b:=by omega
 have H:=hid h
 have K0:=hid hc
 have S0:=hid hv
 have T0:=hid (Two.refl b c w)
 clear h hc hv
 have htx:=fun s1 W hW=>text_any 55 patB (enters_of Tryz.func55 (by kernel_rfl) rfl) pattern_any b s1 W hW
 obtain ⟨R,hR⟩:∃ R,R = (readF 2) x s:=⟨_,rfl⟩
 rw [← hR]
 have HR:=hid hR
 clear hR
 have tok0:Tk 0:=⟨⟩
 go_enter Tryz.func52,Tryz.ntmps52
 go_wp2_with (first
  | (go_at_call 51;have t_:Tk 0:=‹Tk 0›;refine (then_any b s _ H.out).mono ?_;intro e w1 h1;rcases h1.cases with ⟨q1,rfl,o1⟩ | ⟨x1,s1,y1,q1,rfl,rfl,r1,o1⟩ <;> (first | (have k1:=K0.out.only o1 hcb;have u1:=k1.c4;have f1:=k1.free 4;have K1:=hid (k1.set4 x1);have e1:=(show CmRows B (w1.setCell ⟨c,4,none⟩ (.string (str x1))) _ _ from (S0.out.stays (o1.stays hbB)).stays ((setStays _ _ _ _).mono hcB));have S1:=hid (CmRows.as K1.out e1.set e1.names e1.items e1.keys e1.lit);clear e1;have T1:Hid (Two b c w (w1.setCell ⟨c,4,none⟩ (.string (str x1)))):=hid ((T0.out.trans o1.two).trans (Two.set _ hbc _ _));have R1:Hid (RdI (w1.setCell ⟨c,4,none⟩ (.string (str x1))) b s1):=hid (r1.far hbc _); have Q1:=hid q1; clear r1 q1 o1 h1) | (have Q1:=hid q1;have T1:=hid (T0.out.trans o1.two);clear q1 o1 h1)) <;> (clear t_ tok0;have tok1:Tk 1:=⟨⟩))
  | (go_at_call 53;have t_:Tk 1:=‹Tk 1›;refine (sign_any b s1 [32] _ R1.out).mono ?_;intro e w2 h2;rcases sign_cases h2 with ⟨q2,rfl,o2⟩ | ⟨s2,q2,rfl,r2,o2⟩ <;> (first | (have K2:Hid (CmAt w2 c _ _):=hid (K1.out.only o2 hcb);have S2:=hid (S1.out.stays (o2.stays hbB));have T2:=hid (T1.out.trans o2.two);have R2:=hid r2;have Q2:=hid q2;clear r2 q2 o2 h2) | (have Q2:=hid q2;have T2:=hid (T1.out.trans o2.two);clear q2 o2 h2)) <;> (clear t_ tok1;have tok2:Tk 2:=⟨⟩))
  | (go_at_call 54;have t_:Tk 2:=‹Tk 2›;refine (htx s2 _ R2.out).mono ?_;intro e w3 h3;rcases h3.cases with ⟨q3,rfl,o3⟩ | ⟨x3,s3,y3,q3,rfl,rfl,r3,o3⟩ <;> (first | (have k3:=K2.out.only o3 hcb;have u3:=k3.c5;have f3:=k3.free 5;have K3:=hid (k3.set5 x3);have e3:=(show CmRows B (w3.setCell ⟨c,5,none⟩ (.string (str x3))) _ _ from (S2.out.stays (o3.stays hbB)).stays ((setStays _ _ _ _).mono hcB));have S3:=hid (CmRows.as K3.out e3.set e3.names e3.items e3.keys e3.lit);clear e3;have T3:Hid (Two b c w (w3.setCell ⟨c,5,none⟩ (.string (str x3)))):=hid ((T2.out.trans o3.two).trans (Two.set _ hbc _ _));have R3:Hid (RdI (w3.setCell ⟨c,5,none⟩ (.string (str x3))) b s3):=hid (r3.far hbc _); have Q3:=hid q3; clear r3 q3 o3 h3) | (have Q3:=hid q3;have T3:=hid (T2.out.trans o3.two);clear q3 o3 h3)) <;> (clear t_ tok2;have tok3:Tk 3:=⟨⟩)))
 all_goals first
  | (refine ⟨rfl,FormPost.panic ?_ T3.out⟩;rw [HR.out];simp [readF,listF,Q1.out,Q2.out,Q3.out];done)
  | (refine ⟨rfl,FormPost.panic ?_ T2.out⟩;rw [HR.out];simp [readF,listF,Q1.out,Q2.out];done)
  | (refine ⟨rfl,FormPost.panic ?_ T1.out⟩;rw [HR.out];simp [readF,listF,Q1.out];done)
  | skip
 go_end0
 exact FormPost.give (by rw [HR.out];simp [readF,listF,Q1.out,Q2.out,Q3.out];try rfl) T3.out R3.out K3.out S3.out
set_option maxHeartbeats 4000000 in
theorem rename_any:FormC 57 (readF 4):=by
 intro b c B s x v w h hc hv hbc hcB hB hx7 hx6
 have hbB:b < B:=by omega
 have hcb:c ≠ b:=by omega
 have H:=hid h
 have K0:=hid hc
 have S0:=hid hv
 have T0:=hid (Two.refl b c w)
 clear h hc hv
 obtain ⟨R,hR⟩:∃ R,R = (readF 4) x s:=⟨_,rfl⟩
 rw [← hR]
 have HR:=hid hR
 clear hR
 have tok0:Tk 0:=⟨⟩
 go_enter Tryz.func57,Tryz.ntmps57
 go_wp2_with (first
  | (go_at_call 51;have t_:Tk 0:=‹Tk 0›;refine (then_any b s _ H.out).mono ?_;intro e w1 h1;rcases h1.cases with ⟨q1,rfl,o1⟩ | ⟨x1,s1,y1,q1,rfl,rfl,r1,o1⟩ <;> (first | (have K1:Hid (CmAt w1 c _ _):=hid (K0.out.only o1 hcb);have S1:=hid (S0.out.stays (o1.stays hbB));have T1:=hid (T0.out.trans o1.two);have R1:=hid r1; have Q1:=hid q1; clear r1 q1 o1 h1) | (have Q1:=hid q1;have T1:=hid (T0.out.trans o1.two);clear q1 o1 h1)) <;> (clear t_ tok0;have tok1:Tk 1:=⟨⟩))
  | (go_at_call 51;have t_:Tk 1:=‹Tk 1›;refine (then_any b s1 _ R1.out).mono ?_;intro e w2 h2;rcases h2.cases with ⟨q2,rfl,o2⟩ | ⟨x2,s2,y2,q2,rfl,rfl,r2,o2⟩ <;> (first | (have K2:Hid (CmAt w2 c _ _):=hid (K1.out.only o2 hcb);have S2:=hid (S1.out.stays (o2.stays hbB));have T2:=hid (T1.out.trans o2.two);have R2:=hid r2; have Q2:=hid q2;have k2:=K1.out.only o2 hcb;have u4:=k2.c4;have u5:=k2.c5;have f4:=k2.free 4;have f5:=k2.free 5;clear r2 q2 o2 h2) | (have Q2:=hid q2;have T2:=hid (T1.out.trans o2.two);clear q2 o2 h2)) <;> (clear t_ tok1;have tok2:Tk 2:=⟨⟩)))
 all_goals first
  | (refine ⟨rfl,FormPost.panic ?_ T2.out⟩;rw [HR.out];simp [readF,renameF,Q1.out,Q2.out];done)
  | (refine ⟨rfl,FormPost.panic ?_ T1.out⟩;rw [HR.out];simp [readF,renameF,Q1.out];done)
  | skip
 go_end0
 exact FormPost.give (by rw [HR.out];simp [readF,renameF,Q1.out,Q2.out]) ((T2.out.trans (Two.set _ hbc _ _)).trans (Two.set _ hbc _ _)) ((R2.out.far hbc _).far hbc _) ((K2.out.set4 x1).set5 x2) (have e:=(S2.out.stays ((setStays w2 c 4 (.string (str x1))).mono hcB)).stays ((setStays _ c 5 (.string (str x2))).mono hcB);⟨e.set,e.names,e.items,e.keys,e.lit⟩)
set_option maxHeartbeats 4000000 in
theorem copy_any:FormC 61 (readF 8):=by
 intro b c B s x v w h hc hv hbc hcB hB hx7 hx6
 have hbB:b < B:=by omega
 have hcb:c ≠ b:=by omega
 have H:=hid h
 have K0:=hid hc
 have S0:=hid hv
 have T0:=hid (Two.refl b c w)
 clear h hc hv
 obtain ⟨R,hR⟩:∃ R,R = (readF 8) x s:=⟨_,rfl⟩
 rw [← hR]
 have HR:=hid hR
 clear hR
 have tok0:Tk 0:=⟨⟩
 go_enter Tryz.func61,Tryz.ntmps61
 go_wp2_with (first
  | (go_at_call 53;have t_:Tk 0:=‹Tk 0›;refine (sign_any b s [32] _ H.out).mono ?_;intro e w1 h1;rcases sign_cases h1 with ⟨q1,rfl,o1⟩ | ⟨s1,q1,rfl,r1,o1⟩ <;> (first | (have K1:Hid (CmAt w1 c _ _):=hid (K0.out.only o1 hcb);have S1:=hid (S0.out.stays (o1.stays hbB));have T1:=hid (T0.out.trans o1.two);have R1:=hid r1;have Q1:=hid q1;clear r1 q1 o1 h1) | (have Q1:=hid q1;have T1:=hid (T0.out.trans o1.two);clear q1 o1 h1)) <;> (clear t_ tok0;have tok1:Tk 1:=⟨⟩))
  | (go_at_call 62;have t_:Tk 1:=‹Tk 1›;refine (set_any b s1 _ R1.out).mono ?_;intro e w2 h2;rcases h2.cases with ⟨q2,rfl,o2⟩ | ⟨x2,s2,y2,q2,rfl,v2,r2,o2⟩ <;> (first | (obtain ⟨A2,c2,rfl,-,-⟩:=v2.full;have k2:=K1.out.only o2 hcb;have u2:=k2.c3;have f2:=k2.free 3;have K2:=hid (k2.set3 (.slice A2 x2.length c2) x2);have e2:=(show CmRows B (w2.setCell ⟨c,3,none⟩ (.slice A2 x2.length c2)) _ _ from (S1.out.stays (o2.stays hbB)).stays ((setStays _ _ _ _).mono hcB));have S2:=hid (CmRows.as K2.out ((v2.mono (Nat.le_trans hB T1.out.size)).stays ((setStays _ _ _ _).mono hcB)) e2.names e2.items e2.keys e2.lit);clear e2;have T2:Hid (Two b c w (w2.setCell ⟨c,3,none⟩ (.slice A2 x2.length c2))):=hid ((T1.out.trans o2.two).trans (Two.set _ hbc _ _));have R2:Hid (RdI (w2.setCell ⟨c,3,none⟩ (.slice A2 x2.length c2)) b s2):=hid (r2.far hbc _); have Q2:=hid q2; clear r2 q2 o2 h2) | (have Q2:=hid q2;have T2:=hid (T1.out.trans o2.two);clear q2 o2 h2)) <;> (clear t_ tok1;have tok2:Tk 2:=⟨⟩))
  | (go_at_call 51;have t_:Tk 2:=‹Tk 2›;refine (then_any b s2 _ R2.out).mono ?_;intro e w3 h3;rcases h3.cases with ⟨q3,rfl,o3⟩ | ⟨x3,s3,y3,q3,rfl,rfl,r3,o3⟩ <;> (first | (have k3:=K2.out.only o3 hcb;have u3:=k3.c4;have f3:=k3.free 4;have K3:=hid (k3.set4 x3);have e3:=(show CmRows B (w3.setCell ⟨c,4,none⟩ (.string (str x3))) _ _ from (S2.out.stays (o3.stays hbB)).stays ((setStays _ _ _ _).mono hcB));have S3:=hid (CmRows.as K3.out e3.set e3.names e3.items e3.keys e3.lit);clear e3;have T3:Hid (Two b c w (w3.setCell ⟨c,4,none⟩ (.string (str x3)))):=hid ((T2.out.trans o3.two).trans (Two.set _ hbc _ _));have R3:Hid (RdI (w3.setCell ⟨c,4,none⟩ (.string (str x3))) b s3):=hid (r3.far hbc _); have Q3:=hid q3; clear r3 q3 o3 h3) | (have Q3:=hid q3;have T3:=hid (T2.out.trans o3.two);clear q3 o3 h3)) <;> (clear t_ tok2;have tok3:Tk 3:=⟨⟩)))
 all_goals first
  | (refine ⟨rfl,FormPost.panic ?_ T3.out⟩;rw [HR.out];simp [readF,copyF,Q1.out,Q2.out,Q3.out];done)
  | (refine ⟨rfl,FormPost.panic ?_ T2.out⟩;rw [HR.out];simp [readF,copyF,Q1.out,Q2.out];done)
  | (refine ⟨rfl,FormPost.panic ?_ T1.out⟩;rw [HR.out];simp [readF,copyF,Q1.out];done)
  | skip
 go_end0
 exact FormPost.give (by rw [HR.out];simp [readF,copyF,Q1.out,Q2.out,Q3.out];try rfl) T3.out R3.out K3.out S3.out
set_option maxHeartbeats 4000000 in
theorem fetch_any:FormC 63 (readF 9):=by
 intro b c B s x v w h hc hv hbc hcB hB hx7 hx6
 have hbB:b < B:=by omega
 have hcb:c ≠ b:=by omega
 have H:=hid h
 have K0:=hid hc
 have S0:=hid hv
 have T0:=hid (Two.refl b c w)
 clear h hc hv
 obtain ⟨R,hR⟩:∃ R,R = (readF 9) x s:=⟨_,rfl⟩
 rw [← hR]
 have HR:=hid hR
 clear hR
 have tok0:Tk 0:=⟨⟩
 go_enter Tryz.func63,Tryz.ntmps63
 go_wp2_with (first
  | (go_at_call 53;have t_:Tk 0:=‹Tk 0›;refine (sign_any b s [32] _ H.out).mono ?_;intro e w1 h1;rcases sign_cases h1 with ⟨q1,rfl,o1⟩ | ⟨s1,q1,rfl,r1,o1⟩ <;> (first | (have K1:Hid (CmAt w1 c _ _):=hid (K0.out.only o1 hcb);have S1:=hid (S0.out.stays (o1.stays hbB));have T1:=hid (T0.out.trans o1.two);have R1:=hid r1;have Q1:=hid q1;clear r1 q1 o1 h1) | (have Q1:=hid q1;have T1:=hid (T0.out.trans o1.two);clear q1 o1 h1)) <;> (clear t_ tok0;have tok1:Tk 1:=⟨⟩))
  | (go_at_call 62;have t_:Tk 1:=‹Tk 1›;refine (set_any b s1 _ R1.out).mono ?_;intro e w2 h2;rcases h2.cases with ⟨q2,rfl,o2⟩ | ⟨x2,s2,y2,q2,rfl,v2,r2,o2⟩ <;> (first | (obtain ⟨A2,c2,rfl,-,-⟩:=v2.full;have k2:=K1.out.only o2 hcb;have u2:=k2.c3;have f2:=k2.free 3;have K2:=hid (k2.set3 (.slice A2 x2.length c2) x2);have e2:=(show CmRows B (w2.setCell ⟨c,3,none⟩ (.slice A2 x2.length c2)) _ _ from (S1.out.stays (o2.stays hbB)).stays ((setStays _ _ _ _).mono hcB));have S2:=hid (CmRows.as K2.out ((v2.mono (Nat.le_trans hB T1.out.size)).stays ((setStays _ _ _ _).mono hcB)) e2.names e2.items e2.keys e2.lit);clear e2;have T2:Hid (Two b c w (w2.setCell ⟨c,3,none⟩ (.slice A2 x2.length c2))):=hid ((T1.out.trans o2.two).trans (Two.set _ hbc _ _));have R2:Hid (RdI (w2.setCell ⟨c,3,none⟩ (.slice A2 x2.length c2)) b s2):=hid (r2.far hbc _); have Q2:=hid q2; clear r2 q2 o2 h2) | (have Q2:=hid q2;have T2:=hid (T1.out.trans o2.two);clear q2 o2 h2)) <;> (clear t_ tok1;have tok2:Tk 2:=⟨⟩))
  | (go_at_call 53;have t_:Tk 2:=‹Tk 2›;refine (sign_any b s2 [32] _ R2.out).mono ?_;intro e w3 h3;rcases sign_cases h3 with ⟨q3,rfl,o3⟩ | ⟨s3,q3,rfl,r3,o3⟩ <;> (first | (have K3:Hid (CmAt w3 c _ _):=hid (K2.out.only o3 hcb);have S3:=hid (S2.out.stays (o3.stays hbB));have T3:=hid (T2.out.trans o3.two);have R3:=hid r3;have Q3:=hid q3;clear r3 q3 o3 h3) | (have Q3:=hid q3;have T3:=hid (T2.out.trans o3.two);clear q3 o3 h3)) <;> (clear t_ tok2;have tok3:Tk 3:=⟨⟩))
  | (go_at_call 64;have t_:Tk 3:=‹Tk 3›;refine (items_any b s3 _ R3.out).mono ?_;intro e w4 h4;rcases h4.cases with ⟨q4,rfl,o4⟩ | ⟨x4,s4,y4,q4,rfl,v4,r4,o4⟩ <;> (first | (obtain ⟨A4,c4,rfl,-,-,-⟩:=v4.choose_spec.1.full;have k4:=K3.out.only o4 hcb;have u4:=k4.c10;have f4:=k4.free 10;have K4:=hid (k4.set10 (.slice A4 x4.length c4) x4);have e4:=(show CmRows B (w4.setCell ⟨c,10,none⟩ (.slice A4 x4.length c4)) _ _ from (S3.out.stays (o4.stays hbB)).stays ((setStays _ _ _ _).mono hcB));have S4:=hid (CmRows.as K4.out e4.set e4.names ((v4.mono (Nat.le_trans hB T3.out.size)).stays ((setStays _ _ _ _).mono hcB)) e4.keys e4.lit);clear e4;have T4:Hid (Two b c w (w4.setCell ⟨c,10,none⟩ (.slice A4 x4.length c4))):=hid ((T3.out.trans o4.two).trans (Two.set _ hbc _ _));have R4:Hid (RdI (w4.setCell ⟨c,10,none⟩ (.slice A4 x4.length c4)) b s4):=hid (r4.far hbc _); have Q4:=hid q4; clear r4 q4 o4 h4) | (have Q4:=hid q4;have T4:=hid (T3.out.trans o4.two);clear q4 o4 h4)) <;> (clear t_ tok3;have tok4:Tk 4:=⟨⟩)))
 all_goals first
  | (refine ⟨rfl,FormPost.panic ?_ T4.out⟩;rw [HR.out];simp [readF,fetchF,Q1.out,Q2.out,Q3.out,Q4.out];done)
  | (refine ⟨rfl,FormPost.panic ?_ T3.out⟩;rw [HR.out];simp [readF,fetchF,Q1.out,Q2.out,Q3.out];done)
  | (refine ⟨rfl,FormPost.panic ?_ T2.out⟩;rw [HR.out];simp [readF,fetchF,Q1.out,Q2.out];done)
  | (refine ⟨rfl,FormPost.panic ?_ T1.out⟩;rw [HR.out];simp [readF,fetchF,Q1.out];done)
  | skip
 go_end0
 exact FormPost.give (by rw [HR.out];simp [readF,fetchF,Q1.out,Q2.out,Q3.out,Q4.out];try rfl) T4.out R4.out K4.out S4.out
set_option maxHeartbeats 4000000 in
theorem login_any:FormC 56 (readF 3):=by
 intro b c B s x v w h hc hv hbc hcB hB hx7 hx6
 have hbB:b < B:=by omega
 have hcb:c ≠ b:=by omega
 have H:=hid h
 have K0:=hid hc
 have S0:=hid hv
 have T0:=hid (Two.refl b c w)
 clear h hc hv
 obtain ⟨R,hR⟩:∃ R,R = (readF 3) x s:=⟨_,rfl⟩
 rw [← hR]
 have HR:=hid hR
 clear hR
 have tok0:Tk 0:=⟨⟩
 go_enter Tryz.func56,Tryz.ntmps56
 go_wp2_with (first
  | (go_at_call 51;have t_:Tk 0:=‹Tk 0›;refine (then_any b s _ H.out).mono ?_;intro e w1 h1;rcases h1.cases with ⟨q1,rfl,o1⟩ | ⟨x1,s1,y1,q1,rfl,rfl,r1,o1⟩ <;> (first | (have K1:Hid (CmAt w1 c _ _):=hid (K0.out.only o1 hcb);have S1:=hid (S0.out.stays (o1.stays hbB));have T1:=hid (T0.out.trans o1.two);have R1:=hid r1; have Q1:=hid q1; clear r1 q1 o1 h1) | (have Q1:=hid q1;have T1:=hid (T0.out.trans o1.two);clear q1 o1 h1)) <;> (clear t_ tok0;have tok1:Tk 1:=⟨⟩))
  | (go_at_call 51;have t_:Tk 1:=‹Tk 1›;refine (then_any b s1 _ R1.out).mono ?_;intro e w2 h2;rcases h2.cases with ⟨q2,rfl,o2⟩ | ⟨x2,s2,y2,q2,rfl,rfl,r2,o2⟩ <;> (first | (have K2:Hid (CmAt w2 c _ _):=hid (K1.out.only o2 hcb);have S2:=hid (S1.out.stays (o2.stays hbB));have T2:=hid (T1.out.trans o2.two);have R2:=hid r2; have Q2:=hid q2;have k2:=(K1.out.only o2 hcb);have u6:=fun ob=>keep_below ((Below.refl w2.heap.size w2).alloc (Nat.le_refl _) ob) rfl k2.c6;have f6:=fun ob=>keep_below_free ((Below.refl w2.heap.size w2).alloc (Nat.le_refl _) ob) k2.lt (k2.free 6);clear r2 q2 o2 h2) | (have Q2:=hid q2;have T2:=hid (T1.out.trans o2.two);clear q2 o2 h2)) <;> (clear t_ tok1;have tok2:Tk 2:=⟨⟩)))
 all_goals first
  | (refine ⟨rfl,FormPost.panic ?_ T2.out⟩;rw [HR.out];simp [readF,loginF,Q1.out,Q2.out];done)
  | (refine ⟨rfl,FormPost.panic ?_ T1.out⟩;rw [HR.out];simp [readF,loginF,Q1.out];done)
  | skip
 go_end0
 have hn:SBuf B (w2.alloc (.cells #[.string (str x1),.string (str x2)] 9)) (.slice (some ⟨w2.heap.size,0,none⟩) 2 2) [x1,x2]:=GBuf.mono (GBuf.lit w2 #[.string (str x1),.string (str x2)] 2 (by decide) rfl) (Nat.le_trans hB T2.out.size)
 exact FormPost.give (by rw [HR.out];simp [readF,loginF,Q1.out,Q2.out]) ((T2.out.trans (Two.of ((Below.refl _ _).alloc (Nat.le_refl _) _) (Nat.le_of_lt R2.out.lt))).trans (Two.set _ hbc _ _)) ((R2.out.below ((Below.refl _ _).alloc (Nat.le_refl _) _)).far hbc _) ((K2.out.below ((Below.refl _ _).alloc (Nat.le_refl _) _)).set6 _ [x1,x2]) (have e:=(S2.out.stays (Below.stays ((Below.refl w2.heap.size w2).alloc (Nat.le_refl _) (.cells #[.string (str x1),.string (str x2)] 9)))).stays ((setStays _ c 6 (.slice (some ⟨w2.heap.size,0,none⟩) 2 2)).mono hcB);⟨e.set,hn.stays ((setStays _ _ _ _).mono hcB),e.items,e.keys,e.lit⟩)
end Go.Proofs.YtfdmdmahddjjmaaGreatDoor
namespace Go.Proofs.YtfdmdmahddjjmaaGreatDoor
open Go.RowKit Own Im
attribute [local go_sem] str_toList str_size
theorem ItCells.grownE {e2:TypeId} {sz2 B B2:Nat} {w w':World} {v:Value} {m:Nat} {ys:List Value} (he:3 ≠ e2) (ho:GBuf e2 sz2 B2 w v m ys) (hg:w.grownBy w' v.ownBlock):∀ {l:List It} {xs:List Value},ItCells B w l xs→ItCells B w' l xs
 | [],_,h=>h
 | it :: l,xs,⟨sv,r,h1,h2,h3⟩=>⟨sv,r,h1,h2.grown he ho hg,ItCells.grownE he ho hg h3⟩
theorem KyCells.grownE {e2:TypeId} {sz2 B B2:Nat} {w w':World} {v:Value} {m:Nat} {ys:List Value} (he:89 ≠ e2) (ho:GBuf e2 sz2 B2 w v m ys) (hg:w.grownBy w' v.ownBlock):∀ {l:List Ky} {xs:List Value},KyCells B w l xs→KyCells B w' l xs
 | [],_,h=>h
 | k :: l,xs,⟨sv,r,h1,h2,h3⟩=>⟨sv,r,h1,GBuf.grown he h2 ho hg,KyCells.grownE he ho hg h3⟩
theorem LBuf.grown {e2:TypeId} {sz2 B B2:Nat} {w w':World} {u v:Value} {m:Nat} {ys:List Value} {l:Bt} (he:5 ≠ e2) (h:LBuf B w u l) (ho:GBuf e2 sz2 B2 w v m ys) (hg:w.grownBy w' v.ownBlock):LBuf B w' u l:=by
 obtain ⟨A,c,h1,h2,h3,h4,h5⟩:=h
 refine ⟨A,c,h1,h2,h3,Nat.le_trans h4 hg.size,fun p hp=>?_⟩
 obtain ⟨g,cs,f,e1,e2,e3,e4⟩:=h5 p hp
 refine ⟨g,cs,f,e1,e2,(hg.block g (lt_of_block e3) ?_).trans e3,e4⟩
 intro hq
 rcases ho.1.2 with ⟨hv,-⟩ | ⟨g2,cap2,cur2,rfl,-,hb2,-⟩
 · subst hv
   cases hq
 · have:g2 = g:=by simpa [Value.ownBlock] using hq.symm
   subst this
   rw [e3] at hb2
   injection hb2 with h1
   injection h1 with h2 h3
   exact he h3
theorem CmRows.namesGrown {B:Nat} {w w':World} {x:Cm} {v:CmV} {v':Value} {l':List Bt} (h:CmRows B w x v) (hg:w.grownBy w' v.names.ownBlock) (hn:SBuf B w' v' l'):CmRows B w' { x with names:=l' } { v with names:=v' }:=by
 obtain ⟨xi,hi1,hi2⟩:=h.items
 obtain ⟨xk,hk1,hk2⟩:=h.keys
 have ho:GBuf 9 1 B w v.names x.names.length (sv x.names):=h.names
 exact ⟨GBuf.grown (by decide) h.set ho hg,hn,⟨xi,GBuf.grown (by decide) hi1 ho hg,hi2.grownE (by decide) ho hg⟩,⟨xk,GBuf.grown (by decide) hk1 ho hg,hk2.grownE (by decide) ho hg⟩,LBuf.grown (by decide) h.lit ho hg⟩
theorem CmRows.keysGrown {B:Nat} {w w':World} {x:Cm} {v:CmV} {v':Value} {l':List Ky} (h:CmRows B w x v) (hg:w.grownBy w' v.keys.ownBlock) (hk:vKeys B l' v' w'):CmRows B w' { x with keys:=l' } { v with keys:=v' }:=by
 obtain ⟨xi,hi1,hi2⟩:=h.items
 obtain ⟨xk,hk1,hk2⟩:=h.keys
 have hs:GBuf 9 1 B w v.names x.names.length (sv x.names):=h.names
 exact ⟨GBuf.grown (by decide) h.set hk1 hg,GBuf.grown (by decide) hs hk1 hg,⟨xi,GBuf.grown (by decide) hi1 hk1 hg,hi2.grownE (by decide) hk1 hg⟩,hk,LBuf.grown (by decide) h.lit hk1 hg⟩
theorem wpList_tbuf {ops:Array Oper} {rest:List Oper} {o:Oper} {a:Act} {Q:Exit→Act→World→Prop} (B:Nat) (w:World) (hgd:o.guard = none) (s x:Operand)
  (ho:o.op = .call { callee:=.builtin .append,args:=#[s,x],argTypes:=#[25,25] }) (v:Value) (l:List Bt) (r:Bt) (hs:a.eval s = v) (hbuf:SBuf B w v l)
  (ad:Addr) (c:Nat) (hx:a.eval x = .slice (some ad) 1 c) (hnews:∀ j u,(sv [r])[j]? = some u→w.cell? (ad.add j) = some u) (hlen:l.length ≤ 1000000000)
  (h:∀ v' w',SBuf B w' v' (l ++ [r])→Below B w w'→w.grownBy w' v.ownBlock→wpList Tryz.prog ops Q rest (a.put o.dst v') w'):wpList Tryz.prog ops Q (o :: rest) a w:=by
 obtain ⟨i,hi,hz,hsize,hby⟩:=info_parts info_string
 refine wpList_append_own w hgd s x 25 ho B 9 i _ 1 16 Tryz.underlying25 hi hz hsize hby rfl (by decide) v l.length (sv l) hs hbuf.1 ad 1 c (sv [r]) hx rfl hnews (sv_one [r]) (by unfold maxLen;omega) (by omega) hbuf.2 ?_
 intro v' w' h2 h3 _
 refine h v' w' ?_ (own_below hbuf h3) h3
 unfold SBuf
 rw [sv_append,List.length_append]
 exact ⟨h2,Nat.le_trans hbuf.2 h3.size⟩
theorem SBuf.slc {B:Nat} {w:World} {v:Value} {l:List Bt} (h:SBuf B w v l):∃ A n c,v = .slice A n c:=by
 obtain ⟨A,c,h1,-⟩:=h.full
 exact ⟨A,_,c,h1⟩
theorem contains_any (l:List Bt) (x:Bt) (k:Bool) (hk:l.contains x = k) (hl:l.length ≤ 10) (g c:Nat) (W:World) (hc:∀ (j:Nat) (y:Bt),l[j]? = some y→W.cell? ⟨g,j,none⟩ = some (.string (str y))) :
  Calls Tryz.prog 94 #[.slice (some ⟨g,0,none⟩) l.length c,.string (str x)] W fun e w'=>e = .returned (.bool k)∧w' = W:=by
 refine (Tryz.slices_Contains_string g 0 l.length c (l.map str) (str x) W (by simp) (by omega) (fun j hj=>?_)).mono ?_
 · rw [List.length_map] at hj
   rw [Nat.zero_add,hc j _ (List.getElem?_eq_getElem hj),List.getD_eq_getElem?_getD,List.getElem?_map,List.getElem?_eq_getElem hj]
   rfl
 · rintro e w' ⟨rfl,rfl⟩
   refine ⟨?_,rfl⟩
   rw [List.take_of_length_le (by simp),← hk]
   have h:Lib.containsS (l.map str) (str x) = l.contains x:=by
    rw [Bool.eq_iff_iff,Lib.containsS_iff,List.contains_iff_mem,List.mem_map]
    exact ⟨fun ⟨y,h1,h2⟩=>str_inj h2 ▸ h1,fun h=>⟨x,h,rfl⟩⟩
   rw [h]
theorem statusL_on {f:Nat} {l:List Bt} {s w t r:Bt} (h:Im.word s = (w,t)) (hc:statusNames.contains w = true) (hk:takes [32] t = (true,r)):statusL (f + 1) l s = statusL f (l ++ [w]) r:=by
 rw [statusL.eq_def]
 dsimp only
 rw [h]
 dsimp only
 rw [if_pos hc,hk]
 rfl
theorem statusL_end {f:Nat} {l:List Bt} {s w t r:Bt} (h:Im.word s = (w,t)) (hc:statusNames.contains w = true) (hk:takes [32] t = (false,r)):statusL (f + 1) l s = some (l ++ [w],t):=by
 rw [statusL.eq_def]
 dsimp only
 rw [h]
 dsimp only
 rw [if_pos hc,hk]
 rfl
theorem statusL_none {f:Nat} {l:List Bt} {s w t:Bt} (h:Im.word s = (w,t)) (hc:statusNames.contains w = false):statusL (f + 1) l s = none:=by
 rw [statusL.eq_def]
 dsimp only
 rw [h]
 dsimp only
 rw [if_neg (by rw [hc];simp)]
def statM (b:Nat) (v:Value) (w:World):Nat:=match v with
 | .bool true=>rdLen b w + 1
 | _=>0
def statEnd (x:Cm) (r:List Bt × Bt):Option (Cm × Bt):=(sign [41] r.2).map fun s=>({ x with names:=r.1 },s)
set_option maxHeartbeats 4000000 in
theorem status_any:FormC 58 (readF 5):=by
 intro b c B s x v w h hc hv hbc hcB hB hx7 hx6
 have hbB:b < B:=by omega
 have hcb:c ≠ b:=by omega
 have H:=hid h
 have K0:=hid hc
 have S0:=hid hv
 have T0:=hid (Two.refl b c w)
 clear h hc hv
 obtain ⟨R,hR⟩:∃ R,R = (readF 5) x s:=⟨_,rfl⟩
 rw [← hR]
 have HR:=hid hR
 clear hR
 have tok0:Tk 0:=⟨⟩
 go_enter Tryz.func58,Tryz.ntmps58
 go_wp2_with (first
  | (go_at_call 51;have t_:Tk 0:=‹Tk 0›;refine (then_any b s _ H.out).mono ?_;intro e w1 h1;rcases h1.cases with ⟨q1,rfl,o1⟩ | ⟨x1,s1,y1,q1,rfl,rfl,r1,o1⟩ <;> (first | (have k1:=K0.out.only o1 hcb;have u1:=k1.c4;have f1:=k1.free 4;have K1:=hid (k1.set4 x1);have e1:=(show CmRows B (w1.setCell ⟨c,4,none⟩ (.string (str x1))) _ _ from (S0.out.stays (o1.stays hbB)).stays ((setStays _ _ _ _).mono hcB));have S1:=hid (CmRows.as K1.out e1.set e1.names e1.items e1.keys e1.lit);clear e1;have T1:Hid (Two b c w (w1.setCell ⟨c,4,none⟩ (.string (str x1)))):=hid ((T0.out.trans o1.two).trans (Two.set _ hbc _ _));have R1:Hid (RdI (w1.setCell ⟨c,4,none⟩ (.string (str x1))) b s1):=hid (r1.far hbc _); have Q1:=hid q1; clear r1 q1 o1 h1) | (have Q1:=hid q1;have T1:=hid (T0.out.trans o1.two);clear q1 o1 h1)) <;> (clear t_ tok0;have tok1:Tk 1:=⟨⟩))
  | (go_at_call 53;have t_:Tk 1:=‹Tk 1›;refine (sign_any b s1 [32,40] _ R1.out).mono ?_;intro e w2 h2;rcases sign_cases h2 with ⟨q2,rfl,o2⟩ | ⟨s2,q2,rfl,r2,o2⟩ <;> (first | (have K2:Hid (CmAt w2 c _ _):=hid (K1.out.only o2 hcb);have S2:=hid (S1.out.stays (o2.stays hbB));have T2:=hid (T1.out.trans o2.two);have R2:=hid r2;have Q2:=hid q2;clear r2 q2 o2 h2) | (have Q2:=hid q2;have T2:=hid (T1.out.trans o2.two);clear q2 o2 h2)) <;> (clear t_ tok1;have tok2:Tk 2:=⟨⟩)))
 all_goals first
  | (refine ⟨rfl,FormPost.panic ?_ T2.out⟩;rw [HR.out];simp [readF,statusF,Q1.out,Q2.out];done)
  | (refine ⟨rfl,FormPost.panic ?_ T1.out⟩;rw [HR.out];simp [readF,statusF,Q1.out];done)
  | skip
 obtain ⟨hx6,hxn⟩:=hx6
 have hR3:R = (statusL (s2.length + 1) [] s2).bind (statEnd { x with box:=x1 }):=by rw [HR.out];simp [readF,statusF,Q1.out,Q2.out,hx6,statEnd];try rfl
 clear HR
 go_loopw [4] (fun v4 wr=>∃ (more:Bool) (f:Nat) (l:List Bt) (vn:Value) (t:Bt),v4 = .bool more∧(more = true→R = (statusL f l t).bind (statEnd { x with box:=x1 })∧t.length < f∧l.length + t.length ≤ 100000000)∧(more = false→R = statEnd { x with box:=x1 } (l,t))∧CmAt wr c { x with box:=x1,names:=l } { v with names:=vn }∧CmRows B wr { x with box:=x1,names:=l } { v with names:=vn }∧SBuf w.heap.size wr vn l∧RdI wr b t∧Two b c w wr) (fun v4 wr=>statM b v4 wr)
 case atStart=>exact ⟨true,_,[],v.names,s2,rfl,fun _=>⟨hR3,Nat.lt_succ_self _,by have:=R2.out.len;simp;omega⟩,(fun h=>by cases h),(show CmAt w2 c _ _ from by have k:=K2.out;unfold CmAt at k ⊢;rw [k,hx6]),(have e:=S2.out;⟨e.set,by rw [← hx6];exact e.names,e.items,e.keys,e.lit⟩),(by rw [hxn];exact SBuf.nil T2.out.size),R2.out,T2.out⟩
 case round =>
  obtain ⟨more,f,l,vn,t,rfl,hr1,hr2,hc,hv,hnb,hrd,ht⟩:=hrel
  have NB:=hid hnb
  have hbw:b < w.heap.size:=by omega
  have KC:=hid hc
  have SC:=hid hv
  have RC:=hid hrd
  have TC:=hid ht
  cases more with
  | false =>
   have HR6:=hid (hr2 rfl)
   clear hc hv hrd ht hnb hr1 hr2 hR3
   go_wp2_with (go_at_call 53;refine (sign_any b t [41] _ RC.out).mono ?_;intro e w9 h9;rcases sign_cases h9 with ⟨q9,rfl,o9⟩ | ⟨s9,q9,rfl,r9,o9⟩ <;> (first | (have K9:=hid (KC.out.only o9 hcb);have S9:=hid (SC.out.stays (o9.stays hbB));have T9:=hid (TC.out.trans o9.two);have R9:=hid r9;have Q9:=hid q9;clear r9 q9 o9 h9) | (have T9:=hid (TC.out.trans o9.two);have Q9:=hid q9;clear q9 o9 h9)))
   · exact ⟨rfl,FormPost.panic (by rw [HR6.out];simp [statEnd,Q9.out]) T9.out⟩
   · go_end0
     exact FormPost.give (by rw [HR6.out];simp [statEnd,Q9.out]) T9.out R9.out K9.out S9.out
  | true =>
   obtain ⟨hr3,hlf,hlen⟩:=hr1 rfl
   obtain ⟨f,rfl⟩:∃ k,f = k + 1:=⟨f - 1,by omega⟩
   obtain ⟨wd,t1,hw⟩:∃ wd t1,Im.word t = (wd,t1):=⟨_,_,rfl⟩
   have hwd:=fun W hW=>word_any b t W hW
   have hle:=word_le t
   rw [hw] at hwd hle
   dsimp only at hwd hle
   have HW:=hid hw
   clear hc hv hrd ht hnb hr1 hr2 hR3 hw
   cases hcn:statusNames.contains wd with
   | false =>
    have HR6:Hid (R = none):=hid (by rw [hr3,statusL_none HW.out hcn];rfl)
    clear hr3
    go_wp2_with (first
     | (go_at_call 25;refine (hwd _ RC.out).mono ?_;rintro e w5 ⟨rfl,r5,o5⟩;have k5:=KC.out.only o5 hcb;have u6:=fun ob=>keep_below ((Below.refl w5.heap.size w5).alloc (Nat.le_refl _) ob) rfl k5.c6;have K5:=hid k5;have S5:=hid (SC.out.stays (o5.stays hbB));have R5:=hid r5;have N5:=hid (NB.out.stays (o5.stays hbw));have T5:=hid (TC.out.trans o5.two);have hB5:w.heap.size ≤ w5.heap.size:=T5.out.size;clear r5 o5 k5)
     | (go_at_call 94;refine (contains_any statusNames wd false hcn (by decide) _ _ _ (two_cells w5 statusNames _ _ (by rfl) rfl)).mono ?_;rintro e w6 ⟨rfl,he⟩;obtain rfl:=he.symm)
     | (go_at_call 28;refine (must_f _).mono ?_;rintro e w11 ⟨rfl,he⟩;obtain rfl:=he.symm))
    exact ⟨rfl,FormPost.panic HR6.out (T5.out.trans (Two.of ((Below.refl _ _).alloc (Nat.le_refl _) _) (Nat.le_of_lt R5.out.lt)))⟩
   | true =>
    have HR3:=hid hr3
    have HCN:=hid hcn
    clear hr3
    go_wp2_with (first
     | (go_at_call 25;refine (hwd _ RC.out).mono ?_;rintro e w5 ⟨rfl,r5,o5⟩;have k5:=KC.out.only o5 hcb;have u6:=fun ob=>keep_below ((Below.refl w5.heap.size w5).alloc (Nat.le_refl _) ob) rfl k5.c6;have K5:=hid k5;have S5:=hid (SC.out.stays (o5.stays hbB));have R5:=hid r5;have N5:=hid (NB.out.stays (o5.stays hbw));have T5:=hid (TC.out.trans o5.two);have hB5:w.heap.size ≤ w5.heap.size:=T5.out.size;clear r5 o5 k5)
     | (go_at_call 94;refine (contains_any statusNames wd true hcn (by decide) _ _ _ (two_cells w5 statusNames _ _ (by rfl) rfl)).mono ?_;rintro e w6 ⟨rfl,he⟩;obtain rfl:=he.symm)
     | (go_at_call 28;refine (must_t _).mono ?_;rintro e w11 ⟨rfl,he⟩;obtain rfl:=he.symm)
     | (at_builtin;go_loud (refine wpList_tbuf w.heap.size _ (by rfl) _ _ (by rfl) _ l wd (by rfl) ((N5.out.alloc _).alloc _) _ 1 (by rfl) (slit _ wd _ _ _ (by simp) rfl) (by omega) ?_);intro v7 w7 hb7 hbel7 hg7;obtain ⟨A7,n7,c7,rfl⟩:=hb7.slc;have m7:=(((Below.refl w.heap.size w5).alloc hB5 _).alloc (by simp;omega) _).trans hbel7;have k7:=K5.out.below' m7 (by omega);have f6:=k7.free 6;have u7:=k7.c6;have K7:=hid k7;have R7:=hid (R5.out.below' m7 hbw);have T7:=hid (T5.out.below m7 hbw (Nat.le_refl _));have S7:=hid ((((S5.out.stays (Below.stays ((Below.refl _ _).alloc (Nat.le_refl _) _))).stays (Below.stays ((Below.refl _ _).alloc (Nat.le_refl _) _))).namesGrown hg7 (GBuf.mono hb7 hB)));have N7:=hid hb7;clear hb7 hbel7 hg7 m7 k7)
     | (go_at_call 26;refine (takes_any b t1 [32] _ (R7.out.far hbc _)).mono ?_;intro e w8 h8;rcases takes_cases h8 with ⟨s8,q8,rfl,r8,o8⟩ | ⟨s8,q8,rfl,r8,o8⟩ <;> (have Q8:=hid q8;have R8:=hid r8;have K8:=hid ((K7.out.set6 (.slice A7 n7 c7) (l ++ [wd])).only o8 hcb);have e8:=(S7.out.stays ((setStays w7 c 6 (.slice A7 n7 c7)).mono hcB)).stays (o8.stays hbB);have S8:Hid (CmRows B w8 { x with box:=x1,names:=l ++ [wd] } { v with names:=.slice A7 n7 c7 }):=hid ⟨e8.set,e8.names,e8.items,e8.keys,e8.lit⟩;have N8:=hid ((N7.out.stays ((setStays w7 c 6 (.slice A7 n7 c7)).mono (show c + 1 ≤ w.heap.size by omega))).stays (o8.stays hbw));have T8:=hid ((T7.out.trans (Two.set _ hbc _ _)).trans o8.two);clear q8 r8 o8 h8 e8)))
    · exact ⟨⟨false,f,l ++ [wd],.slice A7 n7 c7,s8,rfl,(fun h=>by cases h),(fun _=>by rw [HR3.out,statusL_end HW.out HCN.out Q8.out,takes_no Q8.out];rfl),K8.out,S8.out,N8.out,R8.out,T8.out⟩,by simp [statM]⟩
    · exact ⟨⟨true,f,l ++ [wd],.slice A7 n7 c7,s8,rfl,(fun _=>⟨by rw [HR3.out,statusL_on HW.out HCN.out Q8.out],by have:=takes_lt Q8.out;simp at this;omega,by have:=takes_lt Q8.out;simp at this ⊢;omega⟩),(fun h=>by cases h),K8.out,S8.out,N8.out,R8.out,T8.out⟩,by have:=takes_lt Q8.out;simp at this;simp [statM,rdLen_of R8.out,rdLen_of RC.out];omega⟩
end Go.Proofs.YtfdmdmahddjjmaaGreatDoor
namespace Go.Proofs.YtfdmdmahddjjmaaGreatDoor
open Go.RowKit Own Im
attribute [local go_sem] str_toList str_size
def apT2 (x1:Bt) (x:Cm) (fl:Nat) (d:Int) (s:Bt):Option (Cm × Bt):=(literal s).map fun u=>({ x with box:=x1,flags:=fl,date:=d,lit:=u.1 },u.2)
def apQ (s:Bt):Option (Int × Bt):=if Lib.hasPrefix s [34] = true then (Im.quoted s).bind fun t=>if (St.parseP t.1).2 = 0 then (sign [32] t.2).map fun s=>((St.parseP t.1).1,s) else none else some (-1,s)
def apT1 (x1:Bt) (x:Cm) (fl:Nat) (s:Bt):Option (Cm × Bt):=(apQ s).bind fun t=>apT2 x1 x fl t.1 t.2
def apL (n:Nat) (s:Bt):Option (Nat × Bt):=if Lib.hasPrefix s [40] = true then (Im.list s).bind fun r=>(sign [32] r.2).map fun s=>(r.1,s) else some (n,s)
theorem append_at {x:Cm} {s s1 s2 x1:Bt} (h1:then_ s = some (x1,s1)) (h2:sign [32] s1 = some s2):appendF x s = (apL x.flags s2).bind fun r=>apT1 x1 x r.1 r.2:=by
 unfold appendF apT1 apQ apL apT2
 rw [h1,Option.bind_some]
 dsimp only
 rw [h2,Option.bind_some]
theorem GoodI.stamp {b:Nat} {w:World} (h:GoodI b w):(∃ m,w.cell? ⟨0,0,none⟩ = some (.int .i64 m))∧St.Lens w∧3 < w.heap.size:=by
 obtain ⟨w0,g,h1,h2⟩:=h
 exact ⟨(g.c.below h2).max,g.lens.below h2 g.lt,Nat.lt_of_lt_of_le g.lt h2.size⟩
theorem stamp_any {b:Nat} {t x:Bt} {w:World} (h:RdI w b t) (n e:Int) (hp:St.parseP x = (n,e)) :
  Calls Tryz.prog 96 #[.string (str x)] w fun r w'=>r = .returned (.tuple #[.int .i64 n,.int .i64 e])∧Below w.heap.size w w':=by
 obtain ⟨⟨m,hm⟩,hl,hlt⟩:=h.good.stamp
 have:=St.parse_any x m w hm hl hlt
 rw [hp] at this
 exact this
set_option maxHeartbeats 4000000 in
theorem append_any:FormC 59 (readF 6):=by
 intro b c B s x v w h hc hv hbc hcB hB hx7 hx6
 have hbB:b < B:=by omega
 have hcb:c ≠ b:=by omega
 have H:=hid h
 have K0:=hid hc
 have S0:=hid hv
 have T0:=hid (Two.refl b c w)
 clear h hc hv
 obtain ⟨R,hR⟩:∃ R,R = (readF 6) x s:=⟨_,rfl⟩
 rw [← hR]
 have HR:=hid hR
 clear hR
 have u12:=K0.out.c12
 have f12:=K0.out.free 12
 have kc:=fun (W:World) (s:ByteArray)=>Lib.run_convert_string_bytes (P:=Tryz.prog) W 9 28 5 s Tryz.underlying9 Tryz.underlying28 Tryz.underlying5
 have K1:=hid (K0.out.set12 (-1))
 have e1:=S0.out.stays ((setStays w c 12 (.int .i64 (-1))).mono hcB)
 have S1:Hid (CmRows B (w.setCell ⟨c,12,none⟩ (.int .i64 (-1))) { x with date:=-1 } v):=hid ⟨e1.set,e1.names,e1.items,e1.keys,e1.lit⟩
 have T1:=hid (T0.out.trans (Two.set w hbc 12 (.int .i64 (-1))))
 have R1:=hid (H.out.far hbc (j:=12) (.int .i64 (-1)))
 clear e1
 have tok0:Tk 0:=⟨⟩
 go_enter Tryz.func59,Tryz.ntmps59
 go_upto_region 3 with (first
  | (go_at_call 51;have t_:Tk 0:=‹Tk 0›;refine (then_any b s _ R1.out).mono ?_;intro e w2 h2;rcases h2.cases with ⟨q2,rfl,o2⟩ | ⟨x2,s2,y2,q2,rfl,rfl,r2,o2⟩ <;> (first | (have k2:=K1.out.only o2 hcb;have u2:=k2.c4;have f2:=k2.free 4;have K2:=hid (k2.set4 x2);have e2:=(show CmRows B (w2.setCell ⟨c,4,none⟩ (.string (str x2))) _ _ from (S1.out.stays (o2.stays hbB)).stays ((setStays _ _ _ _).mono hcB));have S2:=hid (CmRows.as K2.out e2.set e2.names e2.items e2.keys e2.lit);clear e2;have T2:Hid (Two b c w (w2.setCell ⟨c,4,none⟩ (.string (str x2)))):=hid ((T1.out.trans o2.two).trans (Two.set _ hbc _ _));have R2:Hid (RdI (w2.setCell ⟨c,4,none⟩ (.string (str x2))) b s2):=hid (r2.far hbc _); have Q2:=hid q2; clear r2 q2 o2 h2) | (have Q2:=hid q2;have T2:=hid (T1.out.trans o2.two);clear q2 o2 h2)) <;> (clear t_ tok0;have tok1:Tk 1:=⟨⟩))
  | (go_at_call 53;have t_:Tk 1:=‹Tk 1›;refine (sign_any b s2 [32] _ R2.out).mono ?_;intro e w3 h3;rcases sign_cases h3 with ⟨q3,rfl,o3⟩ | ⟨s3,q3,rfl,r3,o3⟩ <;> (first | (have K3:Hid (CmAt w3 c _ _):=hid (K2.out.only o3 hcb);have S3:=hid (S2.out.stays (o3.stays hbB));have T3:=hid (T2.out.trans o3.two);have R3:=hid r3;have Q3:=hid q3;clear r3 q3 o3 h3) | (have Q3:=hid q3;have T3:=hid (T2.out.trans o3.two);clear q3 o3 h3)) <;> (clear t_ tok1;have tok2:Tk 2:=⟨⟩)))
 all_goals first
  | (refine ⟨rfl,FormPost.panic ?_ T3.out⟩;rw [HR.out];simp [readF,appendF,Q2.out,Q3.out];done)
  | (refine ⟨rfl,FormPost.panic ?_ T2.out⟩;rw [HR.out];simp [readF,appendF,Q2.out];done)
  | skip
 have hR3:=HR.out.trans (append_at (x:=x) Q2.out Q3.out)
 clear HR
 obtain ⟨pk,hp4⟩:∃ pk,Lib.hasPrefix s3 [40] = pk:=⟨_,rfl⟩
 have u7:=K3.out.c7
 have f7:=K3.out.free 7
 go_upto_if 17 with (go_at_call 91;have t_:Tk 2:=‹Tk 2›;refine (sees_any b s3 [40] _ R3.out).mono ?_;rintro e w4 ⟨h4,he⟩;obtain rfl:=he.symm;rw [hp4] at h4;obtain rfl:=h4 <;> (clear t_ tok2;have tok3:Tk 3:=⟨⟩))
 go_cut [] from 18 to 24 (fun wx=>∃ (fl:Nat) (t:Bt),R = apT1 x2 x fl t∧CmAt wx c { x with date:=-1,box:=x2,flags:=fl } v∧CmRows B wx { x with date:=-1,box:=x2,flags:=fl } v∧RdI wx b t∧Two b c w wx)
 case first =>
  unfold apL at hR3
  rw [hp4] at hR3
  cases pk with
  | false =>
   have HR4:Hid (R = apT1 x2 x x.flags s3):=hid hR3
   clear hR3
   go_wp2_with fail
   go_meet
   exact ⟨x.flags,s3,HR4.out,K3.out,(have e:=S3.out;⟨e.set,e.names,e.items,e.keys,e.lit⟩),R3.out,T3.out⟩
  | true =>
   have HR4:Hid (R = ((Im.list s3).bind fun r=>(sign [32] r.2).map fun s=>(r.1,s)).bind fun r=>apT1 x2 x r.1 r.2):=hid hR3
   clear hR3
   have e3:=S3.out
   go_wp2_with (first
    | (go_at_call 95;have t_:Tk 3:=‹Tk 3›;refine (list_any b s3 _ R3.out).mono ?_;intro e w5 h5;rcases h5.cases with ⟨q5,rfl,o5⟩ | ⟨x5,s5,y5,q5,rfl,rfl,r5,o5⟩ <;> (first | (have k5:=K3.out.only o5 hcb;have u5:=k5.c7;have f5:=k5.free 7;have K5:=hid (k5.set7 x5);have e5:=(show CmRows B (w5.setCell ⟨c,7,none⟩ (.int .i64 x5)) _ _ from (S3.out.stays (o5.stays hbB)).stays ((setStays _ _ _ _).mono hcB));have S5:=hid (CmRows.as K5.out e5.set e5.names e5.items e5.keys e5.lit);clear e5;have T5:Hid (Two b c w (w5.setCell ⟨c,7,none⟩ (.int .i64 x5))):=hid ((T3.out.trans o5.two).trans (Two.set _ hbc _ _));have R5:Hid (RdI (w5.setCell ⟨c,7,none⟩ (.int .i64 x5)) b s5):=hid (r5.far hbc _); have Q5:=hid q5; clear r5 q5 o5 h5) | (have Q5:=hid q5;have T5:=hid (T3.out.trans o5.two);clear q5 o5 h5)) <;> (clear t_ tok3;have tok4:Tk 4:=⟨⟩))
    | (go_at_call 53;have t_:Tk 4:=‹Tk 4›;refine (sign_any b s5 [32] _ R5.out).mono ?_;intro e w6 h6;rcases sign_cases h6 with ⟨q6,rfl,o6⟩ | ⟨s6,q6,rfl,r6,o6⟩ <;> (first | (have K6:Hid (CmAt w6 c _ _):=hid (K5.out.only o6 hcb);have S6:=hid (S5.out.stays (o6.stays hbB));have T6:=hid (T5.out.trans o6.two);have R6:=hid r6;have Q6:=hid q6;clear r6 q6 o6 h6) | (have Q6:=hid q6;have T6:=hid (T5.out.trans o6.two);clear q6 o6 h6)) <;> (clear t_ tok4;have tok5:Tk 5:=⟨⟩)))
   all_goals first
    | (refine ⟨rfl,FormPost.panic ?_ T6.out⟩;rw [HR4.out];simp [Q5.out,Q6.out];done)
    | (refine ⟨rfl,FormPost.panic ?_ T5.out⟩;rw [HR4.out];simp [Q5.out];done)
    | skip
   go_meet
   exact ⟨x5,s6,(by rw [HR4.out];simp [Q5.out,Q6.out]),K6.out,(have e:=S6.out;⟨e.set,e.names,e.items,e.keys,e.lit⟩),R6.out,T6.out⟩
 case rest =>
  obtain ⟨fl,t,hR7,hc7,hv7,hr7,ht7⟩:=hcut
  have K7:=hid hc7
  have S7:=hid hv7
  have R7:=hid hr7
  have T7:=hid ht7
  have u12:=hc7.c12
  have f12:=hc7.free 12
  clear hc7 hv7 hr7 ht7 hR3
  obtain ⟨qk,hp8⟩:∃ qk,Lib.hasPrefix t [34] = qk:=⟨_,rfl⟩
  have tok3:Tk 3:=⟨⟩
  go_upto_if 26 with (go_at_call 91;have t_:Tk 3:=‹Tk 3›;refine (sees_any b t [34] _ R7.out).mono ?_;rintro e w8 ⟨h8,he⟩;obtain rfl:=he.symm;rw [hp8] at h8;obtain rfl:=h8 <;> (clear t_ tok3;have tok4:Tk 4:=⟨⟩))
  go_cut [] from 4 to 41 (fun wx=>∃ (d:Int) (t2:Bt),R = apT2 x2 x fl d t2∧CmAt wx c { x with date:=d,box:=x2,flags:=fl } v∧CmRows B wx { x with date:=d,box:=x2,flags:=fl } v∧RdI wx b t2∧Two b c w wx)
  case first =>
   unfold apT1 apQ at hR7
   rw [hp8] at hR7
   cases qk with
   | false =>
    have HR8:Hid (R = apT2 x2 x fl (-1) t):=hid hR7
    clear hR7
    go_wp2_with fail
    go_meet
    exact ⟨-1,t,HR8.out,K7.out,S7.out,R7.out,T7.out⟩
   | true =>
    have HR8:Hid (R = ((Im.quoted t).bind fun t=>if (St.parseP t.1).2 = 0 then (sign [32] t.2).map fun s=>((St.parseP t.1).1,s) else none).bind fun t=>apT2 x2 x fl t.1 t.2):=hid hR7
    clear hR7
    go_wp2_with (first
     | (go_at_call 92;have t_:Tk 4:=‹Tk 4›;refine (quoted_any b t _ R7.out).mono ?_;intro e w9 h9;rcases h9.cases with ⟨q9,rfl,o9⟩ | ⟨x9,s9,y9,q9,rfl,rfl,r9,o9⟩ <;> (first | (have K9:Hid (CmAt w9 c _ _):=hid (K7.out.only o9 hcb);have S9:=hid (S7.out.stays (o9.stays hbB));have T9:=hid (T7.out.trans o9.two);have R9:=hid r9; have Q9:=hid q9; clear r9 q9 o9 h9) | (have Q9:=hid q9;have T9:=hid (T7.out.trans o9.two);clear q9 o9 h9)) <;> (clear t_ tok4;have tok5:Tk 5:=⟨⟩))
     | (go_at_call 96;have t_:Tk 5:=‹Tk 5›;obtain ⟨pn,pe,p10⟩:∃ pn pe,St.parseP x9 = (pn,pe):=⟨_,_,rfl⟩;refine (stamp_any R9.out pn pe p10).mono ?_;rintro e w10 ⟨rfl,b10⟩;have P10:=hid p10;have k10:=K9.out.below b10;have u12:=k10.c12;have f12:=k10.free 12;have K10:=hid k10;have S10:=hid (S9.out.stays (Below.stays b10));have R10:=hid (R9.out.below b10);have T10:=hid (T9.out.trans (Two.of b10 (Nat.le_of_lt R9.out.lt)));clear p10 b10 k10 <;> (clear t_ tok5;have tok6:Tk 6:=⟨⟩))
     | (go_at_call 28;have t_:Tk 6:=‹Tk 6›;refine (must_any _ _).mono ?_;rintro e w11 ⟨h11,he⟩;obtain rfl:=he.symm;rcases must_split h11 with ⟨m11,rfl⟩ | ⟨m11,rfl⟩ <;> (first | (have M11:Hid (pe = 0):=hid (by simpa using m11);clear m11 h11;have K11:=hid (K10.out.set12 pn);have S11:Hid (CmRows B (w10.setCell ⟨c,12,none⟩ (.int .i64 pn)) { x with date:=pn,box:=x2,flags:=fl } v):=hid (have e:=S10.out.stays ((setStays w10 c 12 (.int .i64 pn)).mono hcB);⟨e.set,e.names,e.items,e.keys,e.lit⟩);have R11:=hid (R10.out.far hbc (j:=12) (.int .i64 pn));have T11:=hid (T10.out.trans (Two.set w10 hbc 12 (.int .i64 pn)))) | (have M11:Hid (¬ pe = 0):=hid (by simpa using m11);clear m11 h11)) <;> (clear t_ tok6;have tok7:Tk 7:=⟨⟩))
     | (go_at_call 53;have t_:Tk 7:=‹Tk 7›;refine (sign_any b s9 [32] _ R11.out).mono ?_;intro e w12 h12;rcases sign_cases h12 with ⟨q12,rfl,o12⟩ | ⟨s12,q12,rfl,r12,o12⟩ <;> (first | (have K12:Hid (CmAt w12 c _ _):=hid (K11.out.only o12 hcb);have S12:=hid (S11.out.stays (o12.stays hbB));have T12:=hid (T11.out.trans o12.two);have R12:=hid r12;have Q12:=hid q12;clear r12 q12 o12 h12) | (have Q12:=hid q12;have T12:=hid (T11.out.trans o12.two);clear q12 o12 h12)) <;> (clear t_ tok7;have tok8:Tk 8:=⟨⟩)))
    all_goals first
     | (refine ⟨rfl,FormPost.panic ?_ T9.out⟩;rw [HR8.out];simp [Q9.out];done)
     | (refine ⟨rfl,FormPost.panic ?_ T10.out⟩;have m11:=M11.out;rw [HR8.out];simp [Q9.out,P10.out,m11];done)
     | (refine ⟨rfl,FormPost.panic ?_ T12.out⟩;have m11:=M11.out;rw [HR8.out];simp [Q9.out,P10.out,m11,Q12.out];done)
     | skip
    go_meet
    exact ⟨pn,s12,(by have m11:=M11.out;rw [HR8.out];simp [Q9.out,P10.out,m11,Q12.out]),K12.out,(have e:=S12.out;⟨e.set,e.names,e.items,e.keys,e.lit⟩),R12.out,T12.out⟩
  case rest =>
   obtain ⟨d,t2,hR13,hc13,hv13,hr13,ht13⟩:=hcut
   have K13:=hid hc13
   have S13:=hid hv13
   have R13:=hid hr13
   have T13:=hid ht13
   have HR13:=hid hR13
   clear hc13 hv13 hr13 ht13 hR13 hR7
   go_wp2_with (go_at_call 93;refine (literal_any b t2 _ R13.out).mono ?_;intro e w14 h14;rcases h14.cases with ⟨q14,rfl,o14⟩ | ⟨x14,s14,y14,q14,rfl,rfl,r14,o14⟩ <;> (first | (have k14:=K13.out.only o14 hcb;have g14:=k14.below (Lib.bytesWorld_below w14 5 (str x14));have u13:=g14.c13;have f13:=g14.free 13;have z14:=str_size x14;have S14:=hid (S13.out.stays (o14.stays hbB));have T14:=hid (T13.out.trans o14.two);have K14:=hid k14;have R14:=hid r14;have Q14:=hid q14;clear r14 o14 q14 h14 k14 g14) | (have T14:=hid (T13.out.trans o14.two);have Q14:=hid q14;clear o14 q14 h14)))
   · refine ⟨rfl,FormPost.panic ?_ T14.out⟩
     rw [HR13.out]
     simp [apT2,Q14.out]
   · go_end0
     have hb:=Lib.bytesWorld_below w14 5 (str x14)
     have hn:=(LBuf.bytes w14 x14 x14.length _ rfl (grownCap_ge w14 x14.length 0 5)).mono (show B ≤ w14.heap.size by have:=T14.out.size;omega)
     have e:=(S14.out.stays (Below.stays hb)).stays ((setStays _ c 13 (.slice (some ⟨w14.heap.size,0,none⟩) x14.length (grownCap w14 x14.length 0 5))).mono hcB)
     exact FormPost.give (by rw [HR13.out];simp [apT2,Q14.out]) ((T14.out.trans (Two.of hb (Nat.le_of_lt R14.out.lt))).trans (Two.set _ hbc _ _)) ((R14.out.below hb).far hbc _) ((K14.out.below hb).set13 _ x14) ⟨e.set,e.names,e.items,e.keys,hn.stays ((setStays _ _ _ _).mono hcB)⟩
end Go.Proofs.YtfdmdmahddjjmaaGreatDoor
