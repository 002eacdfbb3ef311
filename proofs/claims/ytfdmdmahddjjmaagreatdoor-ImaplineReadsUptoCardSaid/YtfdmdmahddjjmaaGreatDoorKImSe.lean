/-
  A key's walk whole; the reader of SEARCH.
-/
import Derived.Test.YtfdmdmahddjjmaaGreatDoorPkKy
import Derived.Test.YtfdmdmahddjjmaaGreatDoorKImKd
import Derived.Test.YtfdmdmahddjjmaaGreatDoorPkIm3
import Derived.Test.YtfdmdmahddjjmaaGreatDoorPkIm0
import Derived.Deep.AppendLies
set_option linter.unusedVariables false
set_option linter.unusedSimpArgs false
set_option maxRecDepth 100000
namespace Go.Proofs.YtfdmdmahddjjmaaGreatDoor
open Go.RowKit Own Im
attribute [local go_sem] str_toList str_size
set_option maxHeartbeats 2000000 in
theorem key_ways (dp:Int) (nx:Option (Rd Ky)) (h0:0 ≤ dp) (b:Nat) (hn:nx = none→8 ≤ dp) (hs:∀ f,nx = some f→dp < 8∧∀ (s:Bt) (W:World),RdI W b s→Calls Tryz.prog 66 #[.pointer (some ⟨b,0,none⟩),.int .i64 (dp + 1)] W fun e w'=>Reads b W (vKey W.heap.size) (f s) e w') (s:Bt) (w:World) (h:RdI w b s) :
  Calls Tryz.prog 66 #[.pointer (some ⟨b,0,none⟩),.int .i64 dp] w fun e w'=>Reads b w (vKey w.heap.size) (if headB s = true then keyS s else keyW nx (Im.word s).1 (Im.word s).2) e w':=by
 cases hh:headB s with
 | true =>
  rw [if_pos rfl]
  exact key_set dp b s w h hh _ rfl
 | false =>
  rw [if_neg (by simp)]
  obtain ⟨wd,t1,hw⟩:∃ wd t1,Im.word s = (wd,t1):=⟨_,_,rfl⟩
  rw [hw]
  obtain ⟨un,nm,htk⟩:∃ un nm,takes [85,78] wd = (un,nm):=⟨_,_,rfl⟩
  unfold keyW
  rw [htk]
  dsimp only
  cases hq:flagAt nm with
  | some i=>exact key_flag dp b s w h hh wd t1 nm un hw htk i hq _ rfl
  | none =>
   dsimp only
   obtain ⟨K1,hK1⟩:∃ K,kindOf textKinds wd = K:=⟨_,rfl⟩
   obtain ⟨K2,hK2⟩:∃ K,kindOf sizeKinds wd = K:=⟨_,rfl⟩
   have p1:0 ≤ K1:=by rw [← hK1];exact kind_pos (by decide) wd
   have p2:0 ≤ K2:=by rw [← hK2];exact kind_pos (by decide) wd
   rw [hK1,hK2]
   by_cases e1:wd = [65,76,76]
   · rw [if_pos e1]
     exact key_all dp b s w h hh wd t1 nm un hw htk hq K1 K2 hK1 hK2 (by simpa using e1) _ rfl
   rw [if_neg e1]
   have f1:(wd == [65,76,76]) = false:=by simpa using e1
   by_cases e2:wd = [78,79,84]
   · rw [if_pos e2]
     have f2:(wd == [78,79,84]) = true:=by simpa using e2
     cases nx with
     | none=>exact key_deep dp b s w h hh wd t1 nm un hw htk hq K1 K2 hK1 hK2 f1 f2 (hn rfl) _ rfl
     | some f=>exact key_not dp b s w h hh wd t1 nm un hw htk hq K1 K2 hK1 hK2 f1 f2 h0 (hs f rfl).1 _ rfl f (hs f rfl).2 _ rfl
   rw [if_neg e2]
   have f2:(wd == [78,79,84]) = false:=by simpa using e2
   by_cases e3:wd = [85,73,68]
   · rw [if_pos e3]
     exact key_uid dp b s w h hh wd t1 nm un hw htk hq K1 K2 hK1 hK2 f1 f2 (by simpa using e3) _ rfl
   rw [if_neg e3]
   have f3:(wd == [85,73,68]) = false:=by simpa using e3
   by_cases e4:0 < K1
   · rw [if_pos e4]
     exact key_text dp b s w h hh wd t1 nm un hw htk hq K1 K2 hK1 hK2 f1 f2 f3 e4 _ rfl
   rw [if_neg e4]
   by_cases e5:0 < K2
   · rw [if_pos e5]
     exact key_size dp b s w h hh wd t1 nm un hw htk hq K1 K2 hK1 hK2 f1 f2 f3 (by omega) e5 _ rfl
   rw [if_neg e5]
   exact key_bad dp b s w h hh wd t1 nm un hw htk hq K1 K2 hK1 hK2 f1 f2 f3 (by omega) (by omega) _ rfl
theorem key_any (d:Nat):d ≤ 8→∀ (b:Nat) (s:Bt) (w:World),RdI w b s→Calls Tryz.prog 66 #[.pointer (some ⟨b,0,none⟩),.int .i64 (8 - (d:Int))] w fun e w'=>Reads b w (vKey w.heap.size) (Im.key d s) e w':=by
 induction d with
 | zero =>
  intro _ b s w h
  rw [key_eq0]
  exact key_ways (8 - ((0:Nat):Int)) none (by decide) b (fun _=>by decide) (fun f h=>by cases h) s w h
 | succ d ih =>
  intro hd b s w h
  rw [key_eq]
  refine key_ways (8 - ((d + 1:Nat):Int)) (some (Im.key d)) (by omega) b (fun h=>by cases h) (fun f h=>?_) s w h
  cases h
  refine ⟨by omega,fun s W hW=>?_⟩
  have:=ih (by omega) b s W hW
  rw [show (8:Int) - ((d + 1:Nat):Int) + 1 = 8 - (d:Int) by omega]
  exact this
theorem key_top (b:Nat) (s:Bt) (w:World) (h:RdI w b s):Calls Tryz.prog 66 #[.pointer (some ⟨b,0,none⟩),.int .i64 0] w fun e w'=>Reads b w (vKey w.heap.size) (Im.key 8 s) e w':=key_any 8 (Nat.le_refl _) b s w h
theorem keysL_on {f:Nat} {l:List Ky} {s t:Bt} (h:takes [32] s = (true,t)):keysL (f + 1) l s = (Im.key 8 t).bind fun q=>keysL f (l ++ [q.1]) q.2:=by
 rw [keysL.eq_def]
 simp [h]
theorem keysL_end {f:Nat} {l:List Ky} {s t:Bt} (h:takes [32] s = (false,t)):keysL (f + 1) l s = some (l,s):=by
 rw [keysL.eq_def]
 simp [h]
def keysEnd (x:Cm) (r:List Ky × Bt):Option (Cm × Bt):=if r.1.length ≤ 16 then some ({ x with keys:=r.1 },r.2) else none
theorem step_kbufG {ops:Array Oper} {o:Oper} {a:Act} {K:Act→World→Prop} {Q:Exit→Act→World→Prop} {E:Prop} (B:Nat) (w:World) (hgd:o.guard = none) (s x:Operand)
  (ho:o.op = .call { callee:=.builtin .append,args:=#[s,x],argTypes:=#[27,27] }) (v:Value) (l:List Ky) (hs:a.eval s = v) (hbuf:vKeys B l v w)
  (it:Ky) (A:Option Addr) (n k:Nat) (hit:Sq.RBuf B w (.slice A n k) it.set)
  (ad:Addr) (c:Nat) (hx:a.eval x = .slice (some ad) 1 c) (hnews:∀ (j:Nat) u,(kyC it (.slice A n k))[j]? = some u→w.cell? (ad.add j) = some u) (hlen:l.length ≤ 1000000000)
  (h:∀ g cap w',vKeys B (l ++ [it]) (.slice (some ⟨g,0,none⟩) (l.length + 1) cap) w'→Below B w w'→w.grownBy w' v.ownBlock→K (a.put o.dst (.slice (some ⟨g,0,none⟩) (l.length + 1) cap)) w'):if Region.wanted o (yielded ops a.tmps) = true then Oper.wp Tryz.prog o a w K Q else E:=by
 obtain ⟨xs,hb,hcs⟩:=hbuf
 obtain ⟨i,hi,hz,hsize,hby⟩:=info_parts info_key
 refine step_append_lies w hgd s x 27 ho B 39 i _ 5 64 Tryz.underlying27 hi hz hsize hby rfl (by decide) v l.length xs hs hb.1 ad 1 c (kyC it (.slice A n k)) hx rfl hnews (kyC_one it A n k) (by decide) (by unfold maxLen;omega) (by omega) hb.2 _ rfl ?_
 intro g cap w' h2 h3 _ _
 refine h g cap w' ⟨xs ++ kyC it (.slice A n k),?_,(KyCells.grown hb h3 hcs).snoc (GBuf.grown (by decide) hit hb h3)⟩ (own_below hb h3) h3
 rw [List.length_append]
 exact ⟨h2,Nat.le_trans hb.2 h3.size⟩
set_option maxHeartbeats 4000000 in
theorem search_any:FormC 65 (readF 10):=by
 intro b c B s x v w h hc hv hbc hcB hB hx7 hx6
 have hbB:b < B:=by omega
 have hcb:c ≠ b:=by omega
 have H:=hid h
 have K0:=hid hc
 have S0:=hid hv
 have T0:=hid (Two.refl b c w)
 clear h hc hv
 obtain ⟨R,hR⟩:∃ R,R = (readF 10) x s:=⟨_,rfl⟩
 rw [← hR]
 have HR:=hid hR
 clear hR
 have tok0:Tk 0:=⟨⟩
 go_enter Tryz.func65,Tryz.ntmps65
 go_wp2_with (first
  | (go_at_call 53;have t_:Tk 0:=‹Tk 0›;refine (sign_any b s [32] _ H.out).mono ?_;intro e w1 h1;rcases sign_cases h1 with ⟨q1,rfl,o1⟩ | ⟨s1,q1,rfl,r1,o1⟩ <;> (first | (have K1:Hid (CmAt w1 c _ _):=hid (K0.out.only o1 hcb);have S1:=hid (S0.out.stays (o1.stays hbB));have T1:=hid (T0.out.trans o1.two);have R1:=hid r1;have Q1:=hid q1;clear r1 q1 o1 h1) | (have Q1:=hid q1;have T1:=hid (T0.out.trans o1.two);clear q1 o1 h1)) <;> (clear t_ tok0;have tok1:Tk 1:=⟨⟩))
  | (go_at_call 66;have t_:Tk 1:=‹Tk 1›;refine (key_top b s1 _ R1.out).mono ?_;intro e w2 h2;rcases h2.cases with ⟨q2,rfl,o2⟩ | ⟨k2,s2,y2,q2,rfl,n2,r2,o2⟩ <;> (first | (obtain ⟨sv2,rfl,n2⟩:=n2;obtain ⟨A2,c2,rfl,-,-⟩:=n2.full;have g2:=K1.out.only o2 hcb;have z11:=fun ob=>keep_below ((Below.refl w2.heap.size w2).alloc (Nat.le_refl _) ob) rfl g2.c11;have f11:=fun ob=>keep_below_free ((Below.refl w2.heap.size w2).alloc (Nat.le_refl _) ob) g2.lt (g2.free 11);have K2:=hid g2;have N2:=hid (n2.mono T1.out.size);have S2:=hid (S1.out.stays (o2.stays hbB));have T2:=hid (T1.out.trans o2.two);have R2:=hid r2;have Q2:=hid q2;clear q2 o2 n2 r2 h2 g2) | (have T2:=hid (T1.out.trans o2.two);have Q2:=hid q2;clear q2 o2 h2)) <;> (clear t_ tok1;have tok2:Tk 2:=⟨⟩)))
 all_goals first
  | (refine ⟨rfl,FormPost.panic ?_ T2.out⟩;rw [HR.out];simp [readF,searchF,Q1.out,Q2.out];done)
  | (refine ⟨rfl,FormPost.panic ?_ T1.out⟩;rw [HR.out];simp [readF,searchF,Q1.out];done)
  | skip
 have hR3:R = (keysL (s2.length + 1) [k2] s2).bind (keysEnd x):=by rw [HR.out];simp [readF,searchF,Q1.out,Q2.out];rfl
 have hbw:b < w.heap.size:=by omega
 have hcw:c + 1 ≤ w.heap.size:=by omega
 have a3:Below w2.heap.size w2 (w2.alloc (.cells #[.int .i64 k2.kind,.bool k2.not,.string (str k2.text),.int .i64 k2.n,.slice A2 k2.set.length c2] 39)):=(Below.refl _ _).alloc (Nat.le_refl _) _
 have N3:=hid ((vKeys.one (B:=w.heap.size) w2 k2 A2 k2.set.length c2 T2.out.size N2.out #[.int .i64 k2.kind,.bool k2.not,.string (str k2.text),.int .i64 k2.n,.slice A2 k2.set.length c2] rfl).stays ((setStays _ c 11 (.slice (some ⟨w2.heap.size,0,none⟩) 1 1)).mono hcw))
 have e3:=(S2.out.stays (Below.stays a3)).stays ((setStays _ c 11 (.slice (some ⟨w2.heap.size,0,none⟩) 1 1)).mono hcB)
 have S3:Hid (CmRows B ((w2.alloc (.cells #[.int .i64 k2.kind,.bool k2.not,.string (str k2.text),.int .i64 k2.n,.slice A2 k2.set.length c2] 39)).setCell ⟨c,11,none⟩ (.slice (some ⟨w2.heap.size,0,none⟩) 1 1)) { x with keys:=[k2] } { v with keys:=.slice (some ⟨w2.heap.size,0,none⟩) 1 1 }):=hid ⟨e3.set,e3.names,e3.items,N3.out.mono hB,e3.lit⟩
 have K3:=hid ((K2.out.below a3).set11 (.slice (some ⟨w2.heap.size,0,none⟩) 1 1) [k2])
 have R3:=hid ((R2.out.below a3).far hbc (j:=11) (.slice (some ⟨w2.heap.size,0,none⟩) 1 1))
 have T3:=hid ((T2.out.trans (Two.of (c:=c) a3 (Nat.le_of_lt R2.out.lt))).trans (Two.set _ hbc 11 (.slice (some ⟨w2.heap.size,0,none⟩) 1 1)))
 have hl2:=R2.out.len
 clear e3 a3 HR
 go_loopw [] (fun wr=>∃ (f:Nat) (l:List Ky) (t:Bt) (vk:Value),R = (keysL f l t).bind (keysEnd x)∧t.length < f∧l.length + t.length ≤ 100000001∧CmAt wr c { x with keys:=l } { v with keys:=vk }∧CmRows B wr { x with keys:=l } { v with keys:=vk }∧vKeys w.heap.size l vk wr∧RdI wr b t∧Two b c w wr) (fun wr=>rdLen b wr)
 case atStart=>exact ⟨_,[k2],s2,_,hR3,Nat.lt_succ_self _,by simp;omega,K3.out,S3.out,N3.out,R3.out,T3.out⟩
 case round =>
  obtain ⟨f,l,t,vk,hr,hlf,hlen,hc,hv,hnb,hrd,ht⟩:=hrel
  obtain ⟨f,rfl⟩:∃ k,f = k + 1:=⟨f - 1,by omega⟩
  have NB:=hid hnb
  obtain ⟨xs,hb0,-⟩:=hnb
  obtain ⟨A,cc,rfl,hcc,-,-⟩:=hb0.full
  have KC:=hid hc
  have SC:=hid hv
  have RC:=hid hrd
  have TC:=hid ht
  have HR3:=hid hr
  clear hc hv hrd ht hb0 hr hR3 z11 f11
  go_wp2_with (first
   | (go_at_call 26;refine (takes_any b t [32] _ RC.out).mono ?_;intro e w5 h5;rcases takes_cases h5 with ⟨s5,q5,rfl,r5,o5⟩ | ⟨s5,q5,rfl,r5,o5⟩ <;> (have Q5:=hid q5;have R5:=hid r5;have k5:=KC.out.only o5 hcb;have i5:w5.cell? ⟨c,11,none⟩ = some (.slice A l.length cc):=k5.c11;have K5:=hid k5;have S5:=hid (SC.out.stays (o5.stays hbB));have N5:=hid (NB.out.stays (o5.stays hbw));have T5:=hid (TC.out.trans o5.two);clear q5 r5 o5 h5 k5))
   | (go_at_call 28;refine (must_any _ _).mono ?_;rintro e w9 ⟨h9,he⟩;obtain rfl:=he.symm;rcases must_split h9 with ⟨m9,rfl⟩ | ⟨m9,rfl⟩ <;> (first | (have M9:=hid (of_decide_eq_true m9);clear m9 h9) | (have M9:=hid (of_decide_eq_false m9);clear m9 h9))))
  · have e5:=takes_no Q5.out
    have m9:=M9.out
    exact ⟨rfl,FormPost.panic (by rw [HR3.out,keysL_end Q5.out];simp [keysEnd];omega) T5.out⟩
  · go_end0
    have e5:=takes_no Q5.out
    subst e5
    have m9:=M9.out
    exact FormPost.give (x:={ x with keys:=l }) (t:=s5) (by rw [HR3.out,keysL_end Q5.out];simp [keysEnd];omega) T5.out R5.out K5.out S5.out
  · have hl5:=takes_lt Q5.out
    simp only [List.length_cons,List.length_nil] at hl5
    have hkey:=fun W hW=>key_top b s5 W hW
    obtain ⟨q,hq⟩:∃ q,Im.key 8 s5 = q:=⟨_,rfl⟩
    rw [hq] at hkey
    have hkl:=fun r u (h:q = some (r,u))=>key_le 8 (hq.trans h)
    have HQ:=hid hq
    have i0:w5.drew.cell? ⟨c,11,none⟩ = some (.slice A l.length cc):=i5
    clear hq
    cases q with
    | none =>
     have HR4:Hid (R = none):=hid (by rw [HR3.out,keysL_on Q5.out,HQ.out];rfl)
     refine wp_region_held_drew (S:=fun w'=>w'.cell? ⟨c,11,none⟩ = some (.slice A l.length cc)) (by kernel_rfl) i0 (fun hHeld=>?_)
     refine wpAnyH_take (i:=0) (oi:=_) (v:=?vn0) rfl (by kernel_rfl) (by kernel_rfl) (by kernel_rfl) (fun _ _ _ h=>h) (Or.inl ⟨by rfl,?yn0⟩) (by assumption) ?rn0
     case yn0=>(intro w hSw;(try dsimp only at hSw);go_simp;try with_reducible rfl)
     try simp only [sxa,sxb,sxc,Act.put,sxd,sxe,sxf]
     refine wpAnyH_take (i:=1) (oi:=_) (v:=?vn1) rfl (by kernel_rfl) (by kernel_rfl) (by kernel_rfl) (fun _ _ _ h=>h) (Or.inl ⟨by rfl,?yn1⟩) (by assumption) ?rn1
     case yn1=>(intro w hSw;(try dsimp only at hSw);go_simp;try with_reducible rfl)
     try simp only [sxa,sxb,sxc,Act.put,sxd,sxe,sxf]
     refine wpAnyH_take (i:=2) (oi:=_) (v:=?vn2) rfl (by kernel_rfl) (by kernel_rfl) (by kernel_rfl) (fun _ _ _ h=>h) (Or.inl ⟨by rfl,?yn2⟩) (by assumption) ?rn2
     case yn2=>(intro w hSw;(try dsimp only at hSw);go_simp;try with_reducible rfl)
     try simp only [sxa,sxb,sxc,Act.put,sxd,sxe,sxf]
     refine wpAnyH_take (i:=3) (oi:=_) (v:=?vn3) rfl (by kernel_rfl) (by kernel_rfl) (by kernel_rfl) (fun _ _ _ h=>h) (Or.inl ⟨by rfl,?yn3⟩) (by assumption) ?rn3
     case yn3=>(intro w hSw;(try dsimp only at hSw);go_simp;try with_reducible rfl)
     try simp only [sxa,sxb,sxc,Act.put,sxd,sxe,sxf]
     refine wpAnyH_take (i:=4) (oi:=_) (v:=?vn4) rfl (by kernel_rfl) (by kernel_rfl) (by kernel_rfl) (fun _ _ _ h=>h) (Or.inl ⟨by rfl,?yn4⟩) (by assumption) ?rn4
     case yn4=>(intro w hSw;(try dsimp only at hSw);go_simp;try with_reducible rfl)
     try simp only [sxa,sxb,sxc,Act.put,sxd,sxe,sxf]
     refine wpAnyH_take (i:=5) (oi:=_) (v:=?vn5) rfl (by kernel_rfl) (by kernel_rfl) (by kernel_rfl) (fun _ _ _ h=>h) (Or.inl ⟨by rfl,?yn5⟩) (by assumption) ?rn5
     case yn5=>(intro w hSw;(try dsimp only at hSw);go_simp;try with_reducible rfl)
     try simp only [sxa,sxb,sxc,Act.put,sxd,sxe,sxf]
     refine wpAnyH_ready (rs:=[6]) (by kernel_rfl) (by simp) ?_
     refine AllReadyH.cons (o:=_) rfl (fun K hK=>?_) AllReadyH.nil
     go_simp
     refine (hkey _ R5.out.drew).mono ?_
     rintro e w6 ⟨o6,rfl⟩
     exact ⟨rfl,FormPost.panic HR4.out (T5.out.trans (Only.trans (Only.of (Below.refl _ _).drew (Nat.le_of_lt R5.out.lt)) o6).two)⟩
    | some q =>
     obtain ⟨k6,s6⟩:=q
     have hl6:=hkl k6 s6 rfl
     have HR4:Hid (R = (keysL f (l ++ [k6]) s6).bind (keysEnd x)):=hid (by rw [HR3.out,keysL_on Q5.out,HQ.out];rfl)
     clear hkl
     refine wp_region_held_drew (S:=fun _=>True) (by kernel_rfl) trivial (fun hHeld=>?_)
     refine wpAnyH_take (i:=0) (oi:=_) (v:=?vs0) rfl (by kernel_rfl) (by kernel_rfl) (by kernel_rfl) (fun _ _ _ h=>h) (Or.inl ⟨by rfl,?ys0⟩) (by assumption) ?rs0
     case ys0=>(intro w hSw;(try dsimp only at hSw);go_simp;try with_reducible rfl)
     try simp only [sxa,sxb,sxc,Act.put,sxd,sxe,sxf]
     refine wpAnyH_take (i:=1) (oi:=_) (v:=?vs1) rfl (by kernel_rfl) (by kernel_rfl) (by kernel_rfl) (fun _ _ _ h=>h) (Or.inl ⟨by rfl,?ys1⟩) (by assumption) ?rs1
     case ys1=>(intro w hSw;(try dsimp only at hSw);go_simp;try with_reducible rfl)
     try simp only [sxa,sxb,sxc,Act.put,sxd,sxe,sxf]
     refine wpAnyH_take (i:=2) (oi:=_) (v:=?vs2) rfl (by kernel_rfl) (by kernel_rfl) (by kernel_rfl) (fun _ _ _ h=>h) (Or.inl ⟨by rfl,?ys2⟩) (by assumption) ?rs2
     case ys2=>(intro w hSw;(try dsimp only at hSw);go_simp;try with_reducible rfl)
     try simp only [sxa,sxb,sxc,Act.put,sxd,sxe,sxf]
     refine wpAnyH_take (i:=3) (oi:=_) (v:=?vs3) rfl (by kernel_rfl) (by kernel_rfl) (by kernel_rfl) (fun _ _ _ h=>h) (Or.inl ⟨by rfl,?ys3⟩) (by assumption) ?rs3
     case ys3=>(intro w hSw;(try dsimp only at hSw);go_simp;try with_reducible rfl)
     try simp only [sxa,sxb,sxc,Act.put,sxd,sxe,sxf]
     refine wpAnyH_take (i:=5) (oi:=_) (v:=?vs5) rfl (by kernel_rfl) (by kernel_rfl) (by kernel_rfl) (fun _ _ _ h=>h) (Or.inl ⟨by rfl,?ys5⟩) (by assumption) ?rs5
     case ys5=>(intro w hSw;(try dsimp only at hSw);go_simp;try with_reducible rfl)
     try simp only [sxa,sxb,sxc,Act.put,sxd,sxe,sxf]
     refine wpAnyH_ready (rs:=[4,6]) (by kernel_rfl) (by simp) ?_
     refine AllReadyH.cons (o:=_) rfl (fun K hK=>?_) (AllReadyH.cons (o:=_) rfl (fun K hK=>?_) AllReadyH.nil)
     · go_simp
       refine hK.out _ _ trivial (fun hHeld=>?_)
       clear hK K hHeld
       have hHeld:True:=trivial
       try simp only [sxa,sxb,sxc,Act.put,sxd,sxe,sxf]
       refine wpAnyH_ready (rs:=[6]) (by kernel_rfl) (by simp) ?_
       refine AllReadyH.cons (o:=_) rfl (fun K hK=>?_) AllReadyH.nil
       go_simp
       refine (hkey _ R5.out.drew).mono ?_
       rintro e w6 ⟨o6,y6,rfl,n6,r6⟩
       obtain ⟨sv6,rfl,n6⟩:=n6
       obtain ⟨A6,c6,rfl,-,-⟩:=n6.full
       have D6:=Only.trans (Only.of (Below.refl w5.heap.size w5).drew (Nat.le_of_lt R5.out.lt)) o6
       have k6_:=K5.out.only D6 hcb
       have i6:w6.cell? ⟨c,11,none⟩ = some (.slice A l.length cc):=k6_.c11
       have i7:=fun ob=>keep_below ((Below.refl w6.heap.size w6).alloc (Nat.le_refl _) ob) rfl i6
       have S6:=hid (S5.out.stays (D6.stays hbB))
       have B6:=hid (N5.out.stays (D6.stays hbw))
       have T6:=hid (T5.out.trans D6.two)
       have N6:=hid (n6.mono (show w.heap.size ≤ w5.drew.heap.size from T5.out.size))
       have R6:=hid r6
       have K6:=hid k6_
       clear r6 o6 k6_ n6 D6
       go_wp2_with fail
       refine hK.out _ _ trivial (fun hHeld=>?_)
       clear hK K hHeld
       have hHeld:True:=trivial
       try simp only [sxa,sxb,sxc,Act.put,sxd,sxe,sxf]
       refine wpAnyH_ready (rs:=[7]) (by kernel_rfl) (by simp) ?_
       refine AllReadyH.cons (o:=_) rfl (fun K hK=>?_) AllReadyH.nil
       go_simp
       refine hK.out _ _ trivial (fun hHeld=>?_)
       clear hK K hHeld
       have hHeld:True:=trivial
       try simp only [sxa,sxb,sxc,Act.put,sxd,sxe,sxf]
       refine wpAnyH_ready (rs:=[8]) (by kernel_rfl) (by simp) ?_
       refine AllReadyH.cons (o:=_) rfl (fun K hK=>?_) AllReadyH.nil
       refine step_kbufG w.heap.size _ (by rfl) _ _ (by rfl) _ l (by rfl) (B6.out.stays (Below.stays ((Below.refl _ _).alloc (Nat.le_refl _) _))) k6 A6 k6.set.length c6 (N6.out.stays (Below.stays ((Below.refl _ _).alloc (Nat.le_refl _) _))) _ 1 (by rfl) (fun j u hu=>lit_cells _ _ _ _ _ (by rfl) j u hu) (by omega) ?_
       intro g7 cap7 w7 hb7 hbel7 hg7
       have m7:=((Below.refl w.heap.size w6).alloc T6.out.size _).trans hbel7
       have k7:=K6.out.below' m7 (by omega)
       have i8:=k7.c11
       have j8:=k7.free 11
       have R7:=hid (R6.out.below' m7 hbw)
       have K7:=hid k7
       have B7:=hid hb7
       have S7:=hid ((S6.out.stays (Below.stays ((Below.refl _ _).alloc (Nat.le_refl _) _))).keysGrown hg7 (hb7.mono hB))
       have T7:=hid (T6.out.below m7 hbw (Nat.le_refl _))
       clear hb7 hbel7 hg7 m7 k7
       refine hK.out _ _ trivial (fun hHeld=>?_)
       clear hK K hHeld
       have hHeld:True:=trivial
       try simp only [sxa,sxb,sxc,Act.put,sxd,sxe,sxf]
       refine wpAnyH_take (i:=9) (oi:=_) (v:=?vt4_9) rfl (by kernel_rfl) (by kernel_rfl) (by kernel_rfl) (fun _ _ _ h=>h) (Or.inl ⟨by rfl,?yt4_9⟩) (by assumption) ?rt4_9
       case yt4_9=>(intro w hSw;(try dsimp only at hSw);go_simp;try with_reducible rfl)
       try simp only [sxa,sxb,sxc,Act.put,sxd,sxe,sxf]
       refine wpAnyH_take (i:=10) (oi:=_) (v:=?vt4_10) rfl (by kernel_rfl) (by kernel_rfl) (by kernel_rfl) (fun _ _ _ h=>h) (Or.inl ⟨by rfl,?yt4_10⟩) (by assumption) ?rt4_10
       case yt4_10=>(intro w hSw;(try dsimp only at hSw);go_simp;try with_reducible rfl)
       try simp only [sxa,sxb,sxc,Act.put,sxd,sxe,sxf]
       refine wpAnyH_ready (rs:=[11]) (by kernel_rfl) (by simp) ?_
       refine AllReadyH.cons (o:=_) rfl (fun K hK=>?_) AllReadyH.nil
       go_simp
       refine hK.out _ _ trivial (fun hHeld=>?_)
       clear hK K hHeld
       have hHeld:True:=trivial
       try simp only [sxa,sxb,sxc,Act.put,sxd,sxe,sxf]
       refine wpAnyH_done (by kernel_rfl) ?_ _
       go_wp2_with fail
       refine ⟨⟨f,l ++ [k6],s6,.slice (some ⟨g7,0,none⟩) (l.length + 1) cap7,HR4.out,(by omega),(by simp;omega),K7.out.set11 _ (l ++ [k6]),?_,B7.out.stays ((setStays _ _ _ _).mono hcw),R7.out.far hbc _,T7.out.trans (Two.set _ hbc _ _)⟩,?_⟩
       · have e:=S7.out.stays ((setStays w7 c 11 (.slice (some ⟨g7,0,none⟩) (l.length + 1) cap7)).mono hcB)
         exact ⟨e.set,e.names,e.items,e.keys,e.lit⟩
       · rw [rdLen_of (R7.out.far hbc _),rdLen_of RC.out]
         omega
     · go_simp
       refine (hkey _ R5.out.drew).mono ?_
       rintro e w6 ⟨o6,y6,rfl,n6,r6⟩
       obtain ⟨sv6,rfl,n6⟩:=n6
       obtain ⟨A6,c6,rfl,-,-⟩:=n6.full
       have D6:=Only.trans (Only.of (Below.refl w5.heap.size w5).drew (Nat.le_of_lt R5.out.lt)) o6
       have k6_:=K5.out.only D6 hcb
       have i6:w6.cell? ⟨c,11,none⟩ = some (.slice A l.length cc):=k6_.c11
       have i7:=fun ob=>keep_below ((Below.refl w6.heap.size w6).alloc (Nat.le_refl _) ob) rfl i6
       have S6:=hid (S5.out.stays (D6.stays hbB))
       have B6:=hid (N5.out.stays (D6.stays hbw))
       have T6:=hid (T5.out.trans D6.two)
       have N6:=hid (n6.mono (show w.heap.size ≤ w5.drew.heap.size from T5.out.size))
       have R6:=hid r6
       have K6:=hid k6_
       clear r6 o6 k6_ n6 D6
       go_wp2_with fail
       refine hK.out _ _ trivial (fun hHeld=>?_)
       clear hK K hHeld
       have hHeld:True:=trivial
       try simp only [sxa,sxb,sxc,Act.put,sxd,sxe,sxf]
       refine wpAnyH_ready (rs:=[4,7]) (by kernel_rfl) (by simp) ?_
       refine AllReadyH.cons (o:=_) rfl (fun K hK=>?_) (AllReadyH.cons (o:=_) rfl (fun K hK=>?_) AllReadyH.nil)
       · go_simp
         refine hK.out _ _ trivial (fun hHeld=>?_)
         clear hK K hHeld
         have hHeld:True:=trivial
         try simp only [sxa,sxb,sxc,Act.put,sxd,sxe,sxf]
         refine wpAnyH_ready (rs:=[7]) (by kernel_rfl) (by simp) ?_
         refine AllReadyH.cons (o:=_) rfl (fun K hK=>?_) AllReadyH.nil
         go_simp
         refine hK.out _ _ trivial (fun hHeld=>?_)
         clear hK K hHeld
         have hHeld:True:=trivial
         try simp only [sxa,sxb,sxc,Act.put,sxd,sxe,sxf]
         refine wpAnyH_ready (rs:=[8]) (by kernel_rfl) (by simp) ?_
         refine AllReadyH.cons (o:=_) rfl (fun K hK=>?_) AllReadyH.nil
         refine step_kbufG w.heap.size _ (by rfl) _ _ (by rfl) _ l (by rfl) (B6.out.stays (Below.stays ((Below.refl _ _).alloc (Nat.le_refl _) _))) k6 A6 k6.set.length c6 (N6.out.stays (Below.stays ((Below.refl _ _).alloc (Nat.le_refl _) _))) _ 1 (by rfl) (fun j u hu=>lit_cells _ _ _ _ _ (by rfl) j u hu) (by omega) ?_
         intro g7 cap7 w7 hb7 hbel7 hg7
         have m7:=((Below.refl w.heap.size w6).alloc T6.out.size _).trans hbel7
         have k7:=K6.out.below' m7 (by omega)
         have i8:=k7.c11
         have j8:=k7.free 11
         have R7:=hid (R6.out.below' m7 hbw)
         have K7:=hid k7
         have B7:=hid hb7
         have S7:=hid ((S6.out.stays (Below.stays ((Below.refl _ _).alloc (Nat.le_refl _) _))).keysGrown hg7 (hb7.mono hB))
         have T7:=hid (T6.out.below m7 hbw (Nat.le_refl _))
         clear hb7 hbel7 hg7 m7 k7
         refine hK.out _ _ trivial (fun hHeld=>?_)
         clear hK K hHeld
         have hHeld:True:=trivial
         try simp only [sxa,sxb,sxc,Act.put,sxd,sxe,sxf]
         refine wpAnyH_take (i:=9) (oi:=_) (v:=?vt9_9) rfl (by kernel_rfl) (by kernel_rfl) (by kernel_rfl) (fun _ _ _ h=>h) (Or.inl ⟨by rfl,?yt9_9⟩) (by assumption) ?rt9_9
         case yt9_9=>(intro w hSw;(try dsimp only at hSw);go_simp;try with_reducible rfl)
         try simp only [sxa,sxb,sxc,Act.put,sxd,sxe,sxf]
         refine wpAnyH_take (i:=10) (oi:=_) (v:=?vt9_10) rfl (by kernel_rfl) (by kernel_rfl) (by kernel_rfl) (fun _ _ _ h=>h) (Or.inl ⟨by rfl,?yt9_10⟩) (by assumption) ?rt9_10
         case yt9_10=>(intro w hSw;(try dsimp only at hSw);go_simp;try with_reducible rfl)
         try simp only [sxa,sxb,sxc,Act.put,sxd,sxe,sxf]
         refine wpAnyH_ready (rs:=[11]) (by kernel_rfl) (by simp) ?_
         refine AllReadyH.cons (o:=_) rfl (fun K hK=>?_) AllReadyH.nil
         go_simp
         refine hK.out _ _ trivial (fun hHeld=>?_)
         clear hK K hHeld
         have hHeld:True:=trivial
         try simp only [sxa,sxb,sxc,Act.put,sxd,sxe,sxf]
         refine wpAnyH_done (by kernel_rfl) ?_ _
         go_wp2_with fail
         refine ⟨⟨f,l ++ [k6],s6,.slice (some ⟨g7,0,none⟩) (l.length + 1) cap7,HR4.out,(by omega),(by simp;omega),K7.out.set11 _ (l ++ [k6]),?_,B7.out.stays ((setStays _ _ _ _).mono hcw),R7.out.far hbc _,T7.out.trans (Two.set _ hbc _ _)⟩,?_⟩
         · have e:=S7.out.stays ((setStays w7 c 11 (.slice (some ⟨g7,0,none⟩) (l.length + 1) cap7)).mono hcB)
           exact ⟨e.set,e.names,e.items,e.keys,e.lit⟩
         · rw [rdLen_of (R7.out.far hbc _),rdLen_of RC.out]
           omega
       · go_simp
         refine hK.out _ _ trivial (fun hHeld=>?_)
         clear hK K hHeld
         have hHeld:True:=trivial
         try simp only [sxa,sxb,sxc,Act.put,sxd,sxe,sxf]
         refine wpAnyH_ready (rs:=[4]) (by kernel_rfl) (by simp) ?_
         refine AllReadyH.cons (o:=_) rfl (fun K hK=>?_) AllReadyH.nil
         go_simp
         refine hK.out _ _ trivial (fun hHeld=>?_)
         clear hK K hHeld
         have hHeld:True:=trivial
         try simp only [sxa,sxb,sxc,Act.put,sxd,sxe,sxf]
         refine wpAnyH_ready (rs:=[8]) (by kernel_rfl) (by simp) ?_
         refine AllReadyH.cons (o:=_) rfl (fun K hK=>?_) AllReadyH.nil
         refine step_kbufG w.heap.size _ (by rfl) _ _ (by rfl) _ l (by rfl) (B6.out.stays (Below.stays ((Below.refl _ _).alloc (Nat.le_refl _) _))) k6 A6 k6.set.length c6 (N6.out.stays (Below.stays ((Below.refl _ _).alloc (Nat.le_refl _) _))) _ 1 (by rfl) (fun j u hu=>lit_cells _ _ _ _ _ (by rfl) j u hu) (by omega) ?_
         intro g7 cap7 w7 hb7 hbel7 hg7
         have m7:=((Below.refl w.heap.size w6).alloc T6.out.size _).trans hbel7
         have k7:=K6.out.below' m7 (by omega)
         have i8:=k7.c11
         have j8:=k7.free 11
         have R7:=hid (R6.out.below' m7 hbw)
         have K7:=hid k7
         have B7:=hid hb7
         have S7:=hid ((S6.out.stays (Below.stays ((Below.refl _ _).alloc (Nat.le_refl _) _))).keysGrown hg7 (hb7.mono hB))
         have T7:=hid (T6.out.below m7 hbw (Nat.le_refl _))
         clear hb7 hbel7 hg7 m7 k7
         refine hK.out _ _ trivial (fun hHeld=>?_)
         clear hK K hHeld
         have hHeld:True:=trivial
         try simp only [sxa,sxb,sxc,Act.put,sxd,sxe,sxf]
         refine wpAnyH_take (i:=9) (oi:=_) (v:=?vt13_9) rfl (by kernel_rfl) (by kernel_rfl) (by kernel_rfl) (fun _ _ _ h=>h) (Or.inl ⟨by rfl,?yt13_9⟩) (by assumption) ?rt13_9
         case yt13_9=>(intro w hSw;(try dsimp only at hSw);go_simp;try with_reducible rfl)
         try simp only [sxa,sxb,sxc,Act.put,sxd,sxe,sxf]
         refine wpAnyH_take (i:=10) (oi:=_) (v:=?vt13_10) rfl (by kernel_rfl) (by kernel_rfl) (by kernel_rfl) (fun _ _ _ h=>h) (Or.inl ⟨by rfl,?yt13_10⟩) (by assumption) ?rt13_10
         case yt13_10=>(intro w hSw;(try dsimp only at hSw);go_simp;try with_reducible rfl)
         try simp only [sxa,sxb,sxc,Act.put,sxd,sxe,sxf]
         refine wpAnyH_ready (rs:=[11]) (by kernel_rfl) (by simp) ?_
         refine AllReadyH.cons (o:=_) rfl (fun K hK=>?_) AllReadyH.nil
         go_simp
         refine hK.out _ _ trivial (fun hHeld=>?_)
         clear hK K hHeld
         have hHeld:True:=trivial
         try simp only [sxa,sxb,sxc,Act.put,sxd,sxe,sxf]
         refine wpAnyH_done (by kernel_rfl) ?_ _
         go_wp2_with fail
         refine ⟨⟨f,l ++ [k6],s6,.slice (some ⟨g7,0,none⟩) (l.length + 1) cap7,HR4.out,(by omega),(by simp;omega),K7.out.set11 _ (l ++ [k6]),?_,B7.out.stays ((setStays _ _ _ _).mono hcw),R7.out.far hbc _,T7.out.trans (Two.set _ hbc _ _)⟩,?_⟩
         · have e:=S7.out.stays ((setStays w7 c 11 (.slice (some ⟨g7,0,none⟩) (l.length + 1) cap7)).mono hcB)
           exact ⟨e.set,e.names,e.items,e.keys,e.lit⟩
         · rw [rdLen_of (R7.out.far hbc _),rdLen_of RC.out]
           omega
end Go.Proofs.YtfdmdmahddjjmaaGreatDoor
