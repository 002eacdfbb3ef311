/-
  Joined texts: RfF RfG.
-/
import Derived.Test.YtfdmdmahddjjmaaGreatDoorPkRc
import Derived.Test.YtfdmdmahddjjmaaGreatDoorPkIm1
import Derived.Test.YtfdmdmahddjjmaaGreatDoorPkAd
import Derived.Test.YtfdmdmahddjjmaaGreatDoorPkIm2
import Derived.Test.YtfdmdmahddjjmaaGreatDoorPkOwn
import Derived.Deep.RegionHeld3
import Derived.Deep.AppendLies
set_option linter.unusedVariables false
set_option linter.unusedSimpArgs false
set_option maxRecDepth 100000
namespace Go.Proofs.YtfdmdmahddjjmaaGreatDoor
open Go.RowKit Own Im
attribute [local go_sem] str_toList str_size
def RunC (b:Nat) (k:Int) (p:UInt8→Bool):Prop:=∀ (s:Bt) (bad:Bool) (W:World),RtT W b s bad→Calls Tryz.prog 71 #[.pointer (some ⟨b,0,none⟩),.int .i64 k] W fun e w'=>e = .returned (.string (str (s.takeWhile p)))∧RtT w' b (s.dropWhile p) bad∧Only b W w'
set_option maxHeartbeats 4000000 in
theorem rany_any (k:Int) (p:UInt8→Bool) (b:Nat) (hrun:RunC b k p) (s:Bt) (bad:Bool) (w:World) (h:RtT w b s bad) :
  Calls Tryz.prog 73 #[.pointer (some ⟨b,0,none⟩),.int .i64 k] w fun e w'=>Goes b w s bad vText (Im.text p s) e w':=by
 have H:=hid h
 clear h
 obtain ⟨R,hR⟩:∃ R,R = Im.text p s:=⟨_,rfl⟩
 rw [← hR]
 obtain ⟨k1,h1⟩:∃ k1,Lib.hasPrefix s [34] = k1:=⟨_,rfl⟩
 have hs1:=fun W hW=>rsees_any 34 34 rfl b s bad W hW
 rw [h1] at hs1
 cases k1 with
 | true =>
  have HR:Hid (R = Im.quoted s):=hid (by rw [hR];unfold Im.text;rw [if_pos h1])
  clear hR h1
  go_enter Tryz.func73,Tryz.ntmps73
  go_wp2_with (first
   | (go_at_call 33;refine (hs1 _ H.out).mono ?_;rintro e w1 ⟨rfl,he⟩;obtain rfl:=he.symm)
   | (go_at_call 76;refine (rquoted_any b s bad _ H.out).mono ?_;rintro e w2 ⟨v,a,s2,d2,rfl,rfl,g⟩;have G:=hid g;clear g))
  go_ret
  rw [HR.out]
  exact ⟨_,a,s2,d2,rfl,rfl,G.out⟩
 | false =>
  obtain ⟨k2,h2⟩:∃ k2,Lib.hasPrefix s [123] = k2:=⟨_,rfl⟩
  have hs2:=fun W hW=>rsees_any 123 123 rfl b s bad W hW
  rw [h2] at hs2
  have HS1:=hid hs1
  have HS2:=hid hs2
  clear hs1 hs2
  cases k2 with
  | true =>
   have HR:Hid (R = literal s):=hid (by rw [hR];unfold Im.text;rw [if_neg (by rw [h1];simp),if_pos h2])
   clear hR h1 h2
   have tok0:Tk 0:=⟨⟩
   go_enter Tryz.func73,Tryz.ntmps73
   go_wp2_with (first
    | (go_at_call 33;have t_:Tk 0:=‹Tk 0›;refine (HS1.out _ H.out).mono ?_;rintro e w1 ⟨rfl,he⟩;obtain rfl:=he.symm;clear t_ tok0;have tok1:Tk 1:=⟨⟩)
    | (go_at_call 33;have t_:Tk 1:=‹Tk 1›;refine (HS2.out _ H.out).mono ?_;rintro e w1 ⟨rfl,he⟩;obtain rfl:=he.symm;clear t_ tok1;have tok2:Tk 2:=⟨⟩)
    | (go_at_call 77;refine (rliteral_any b s bad _ H.out).mono ?_;rintro e w2 ⟨v,a,s2,d2,rfl,rfl,g⟩;have G:=hid g;clear g))
   go_ret
   rw [HR.out]
   exact ⟨_,a,s2,d2,rfl,rfl,G.out⟩
  | false =>
   have hspec:R = if s.takeWhile p = [] then none else some (s.takeWhile p,s.dropWhile p):=by rw [hR];unfold Im.text;rw [if_neg (by rw [h1];simp),if_neg (by rw [h2];simp)]
   have hrl:=rest_len p s
   obtain ⟨x,hx⟩:∃ x,s.takeWhile p = x:=⟨_,rfl⟩
   have HRun:=hid hrun
   obtain ⟨q,hq,hqq⟩:∃ q:Bool,(x == []) = q∧(x = [] ↔ q = true):=⟨_,rfl,by simp⟩
   have hrr:=fun W hW=>HRun.out s bad W hW
   rw [hx] at hspec hrr
   have HR:=hid hspec
   have HQ:=hid hqq
   clear hR h1 h2 hspec hx hrun hqq
   have tok0:Tk 0:=⟨⟩
   cases bad <;> cases q
   all_goals
    go_enter Tryz.func73,Tryz.ntmps73
    go_wp2_with (first
     | (go_at_call 33;have t_:Tk 0:=‹Tk 0›;refine (HS1.out _ H.out).mono ?_;rintro e w1 ⟨rfl,he⟩;obtain rfl:=he.symm;clear t_ tok0;have tok1:Tk 1:=⟨⟩)
     | (go_at_call 33;have t_:Tk 1:=‹Tk 1›;refine (HS2.out _ H.out).mono ?_;rintro e w1 ⟨rfl,he⟩;obtain rfl:=he.symm;clear t_ tok1;have tok2:Tk 2:=⟨⟩)
     | (go_at_call 71;refine (hrr _ H.out).mono ?_;rintro e w2 ⟨rfl,r2,o2⟩;have c1:=r2.c1;have f1:=r2.free 1;have R2:=hid r2;have O2:=hid o2;clear r2 o2))
    go_ret
    first
     | exact ⟨_,x,_,true,rfl,rfl,R2.out.set1 true,hrl,O2.out.trans (Only.set _ _ _ _),fun _=>rfl,fun e _=>by first | (cases e;done) | (rw [HR.out,if_pos (by have h:=HQ.out;simpa using h)]),fun e1 e2=>by cases e2⟩
     | exact ⟨_,x,_,false,rfl,rfl,R2.out.set1 false,hrl,O2.out.trans (Only.set _ _ _ _),fun e=>(by cases e),fun _ e=>(by cases e),fun _ _=>by rw [HR.out,if_neg (by have h:=HQ.out;simpa using h)]⟩
def rtM (b:Nat) (w:World):Nat:=match w.cell? ⟨b,1,none⟩ with
 | some (.bool false)=>rtLen b w + 1
 | _=>0
theorem rtM_true {b:Nat} {w:World} {s:Bt} (h:RtT w b s true):rtM b w = 0:=by
 unfold rtM
 rw [h.c1]
theorem rtM_false {b:Nat} {w:World} {s:Bt} (h:RtT w b s false):rtM b w = s.length + 1:=by
 unfold rtM
 rw [h.c1]
 dsimp only
 rw [rtLen_of h]
theorem takes_one (c:UInt8) (t:Bt):takes [c] t = (Lib.hasPrefix t [c],if Lib.hasPrefix t [c] = true then t.drop 1 else t):=by
 unfold takes
 cases Lib.hasPrefix t [c] <;> rfl
theorem list_see {f n:Nat} {fst:Bool} {t:Bt} (h:Lib.hasPrefix t [41] = true):listL (f + 1) fst n t = (signR 41 t).bind fun q=>some (n,q.2):=by
 rw [listL.eq_def]
 dsimp only
 rw [takes_one,h]
 unfold signR sign
 rw [if_pos h]
 simp
theorem list_flag {f n:Nat} {t:Bt} (h:Lib.hasPrefix t [41] = false):listL (f + 1) true n t = (Im.flag t).bind fun q=>listL f false (n ||| q.1) q.2:=by
 rw [listL_t,takes_one,h]
 simp
theorem list_next {f n:Nat} {t:Bt} (h:Lib.hasPrefix t [41] = false):listL (f + 1) false n t = (signR 32 t).bind fun q=>if Lib.hasPrefix q.2 [41] = true then none else listL (f + 1) true n q.2:=by
 rw [listL_f,takes_one,h]
 simp only [Bool.false_eq_true,if_false]
 unfold signR
 cases sign [32] t with
 | none=>rfl
 | some u =>
  simp only [Option.bind_some,Option.map_some]
  cases hu:Lib.hasPrefix u [41] with
  | true =>
   rw [if_pos rfl]
   cases u with
   | nil=>rw [prefix_nil] at hu;cases hu
   | cons d r =>
    rw [prefix_one] at hu
    have:d = 41:=of_decide_eq_true hu
    subst this
    unfold Im.flag
    rw [sign_cons,if_neg (by decide)]
    rfl
  | false=>rw [if_neg (by simp),list_flag hu]
set_option maxHeartbeats 4000000 in
theorem rflags_l (b:Nat) (s:Bt) (bad:Bool) (w:World) (h:RtT w b s bad) :
  Calls Tryz.prog 74 #[.pointer (some ⟨b,0,none⟩)] w fun e w'=>Goes b w s bad vFlag5 (Im.list s) e w':=by
 have H:=hid h
 have hlen:=h.len
 clear h
 obtain ⟨R,hR⟩:∃ R,R = Im.list s:=⟨_,rfl⟩
 rw [← hR]
 have hI2:Inv bad R bad ((signR 40 s).bind fun q=>listL (q.2.length + 1) true 0 q.2):=(Inv.start bad R).to fun _=>by
  rw [hR]
  unfold Im.list signR
  cases sign [40] s <;> rfl
 have HI:=hid hI2
 clear hR hI2
 go_enter Tryz.func74,Tryz.ntmps74
 go_wp2_with (go_at_call 72;refine (rsign_any 40 40 rfl b s bad _ H.out).mono ?_;rintro e w1 ⟨v1,a1,s1,d1,rfl,rfl,r1,l1,o1,t1⟩;have R1:=hid r1;have O1:=hid o1;have I1:=hid (HI.out.step t1);clear r1 o1 t1)
 go_loopw [3] (fun v3 wr=>∃ (f n:Nat) (t:Bt) (d:Bool),v3 = .int .i64 n∧n < 32∧Inv bad R d (listL f true n t)∧(d = false→t.length < f)∧RtT wr b t d∧Only b w wr∧t.length ≤ s.length) (fun _ wr=>rtM b wr)
 case atStart=>exact ⟨_,0,s1,d1,rfl,by decide,I1.out,fun _=>Nat.lt_succ_self _,R1.out,O1.out,l1⟩
 case round =>
  obtain ⟨f,n,t,d,rfl,hn,hi,hf,hrt,ho,hl⟩:=hrel
  have II:=hid hi
  have RT:=hid hrt
  have OO:=hid ho
  have c1:=hrt.c1
  obtain ⟨k,hk⟩:∃ k,Lib.hasPrefix t [41] = k:=⟨_,rfl⟩
  have hse:=fun W hW=>rsees_any 41 41 rfl b t d W hW
  rw [hk] at hse
  have HSE:=hid hse
  clear hi hrt ho hse
  by_cases hend:k = true∨d = true
  · have I2:Inv bad R d ((signR 41 t).bind fun q=>some (n,q.2)):=II.out.to fun hd=>by
      subst hd
      have hf:=hf rfl
      obtain ⟨g,rfl⟩:∃ g,f = g + 1:=⟨f - 1,by omega⟩
      rcases hend with h | h
      · rw [list_see (by rw [hk,h])]
      · cases h
    have J2:=hid I2
    clear I2 hk hf
    cases k with
    | true =>
     clear hend
     go_wp2_with (first
      | (go_at_call 33;refine (HSE.out _ RT.out).mono ?_;rintro e w2 ⟨rfl,he⟩;obtain rfl:=he.symm)
      | (go_at_call 72;refine (rsign_any 41 41 rfl b t d _ RT.out).mono ?_;rintro e w5 ⟨v5,a5,s5,d5,rfl,rfl,r5,l5,o5,t5⟩;have R5:=hid r5;have O5:=hid (OO.out.trans o5);have I5:=hid (J2.out.step t5);have L5:=hid l5;clear r5 o5 t5 l5))
     go_ret
     exact ⟨_,n,s5,d5,rfl,⟨rfl,hn⟩,R5.out,Nat.le_trans L5.out hl,O5.out,Inv.out I5.out⟩
    | false =>
     obtain rfl:d = true:=by
      rcases hend with h | h
      · cases h
      · exact h
     clear hend
     go_wp2_with (first
      | (go_at_call 33;refine (HSE.out _ RT.out).mono ?_;rintro e w2 ⟨rfl,he⟩;obtain rfl:=he.symm)
      | (go_at_call 72;refine (rsign_any 41 41 rfl b t true _ RT.out).mono ?_;rintro e w5 ⟨v5,a5,s5,d5,rfl,rfl,r5,l5,o5,t5⟩;have R5:=hid r5;have O5:=hid (OO.out.trans o5);have I5:=hid (J2.out.step t5);have L5:=hid l5;clear r5 o5 t5 l5))
     go_ret
     exact ⟨_,n,s5,d5,rfl,⟨rfl,hn⟩,R5.out,Nat.le_trans L5.out hl,O5.out,Inv.out I5.out⟩
  · obtain rfl:k = false:=by
      cases k with
      | true=>exact absurd (.inl rfl) hend
      | false=>rfl
    obtain rfl:d = false:=by
     cases d with
     | true=>exact absurd (.inr rfl) hend
     | false=>rfl
    have hf:=hf rfl
    obtain ⟨g,rfl⟩:∃ g,f = g + 1:=⟨f - 1,by omega⟩
    have I2:Inv bad R false ((Im.flag t).bind fun q=>listL g false (n ||| q.1) q.2):=II.out.to fun _=>list_flag hk
    have J2:=hid I2
    have L0:=hid hl
    have F0:=hid hf
    clear I2 hk hf hend hl
    have tok0:Tk 0:=⟨⟩
    go_wp2_with (first
     | (go_at_call 33;have t_:Tk 0:=‹Tk 0›;refine (HSE.out _ RT.out).mono ?_;rintro e w2 ⟨rfl,he⟩;obtain rfl:=he.symm;clear t_ tok0;have tok1:Tk 1:=⟨⟩)
     | (go_at_call 79;refine (rflag_any b t false _ RT.out).mono ?_;rintro e w3 ⟨v3,i,s3,d3,rfl,⟨rfl,h32⟩,r3,l3,o3,t3⟩;have hor:=or_i64 n i hn h32;have R3:=hid r3;have O3:=hid (OO.out.trans o3);have T3:=hid t3;have I3:=hid (J2.out.step t3);have L3:=hid l3;obtain ⟨k3,hk3⟩:∃ k3,Lib.hasPrefix s3 [41] = k3:=⟨_,rfl⟩;have K3:=hid hk3;clear r3 o3 t3 l3 hk3)
     | (go_at_call 33;have t_:Tk 1:=‹Tk 1›;have hse3:=rsees_any 41 41 rfl b s3 d3 w3 R3.out;rw [K3.out] at hse3;refine hse3.mono ?_;clear hse3;rintro e w4 ⟨rfl,he⟩;obtain rfl:=he.symm;clear t_ tok1;have tok2:Tk 2:=⟨⟩;cases k3)
     | (go_at_call 34;refine (rblank_any b s3 d3 _ R3.out).mono ?_;rintro e w5 ⟨v5,a5,s5,d5,rfl,rfl,r5,l5,o5,t5⟩;have c5:=r5.c1;have f5:=r5.free 1;have R5:=hid r5;have O5:=hid (O3.out.trans o5);have T5:=hid t5;have L5:=hid l5;clear r5 o5 t5 l5;cases d5)
     | (go_at_call 33;have t_:Tk 2:=‹Tk 2›;obtain ⟨k5,hk5⟩:∃ k5,Lib.hasPrefix s5 [41] = k5:=⟨_,rfl⟩;have hse5:=rsees_any 41 41 rfl b s5 _ w5 R5.out;rw [hk5] at hse5;refine hse5.mono ?_;clear hse5;rintro e w6 ⟨rfl,he⟩;obtain rfl:=he.symm;have K5:=hid hk5;clear hk5 t_ tok2;have tok3:Tk 3:=⟨⟩))
    all_goals
     have hfl:d3 = false→s3.length < t.length:=fun hd=>flag_lt (T3.out.2.2 rfl hd)
     have hmw:=rtM_false RT.out
     have l0:=L0.out
     have l3:=L3.out
     have f0:=F0.out
    · have hd3:d3 = false:=by
        cases d3 with
        | false=>rfl
        | true=>exact absurd (T5.out.1 rfl) (by simp)
      have hlt:=hfl hd3
      have l5:=L5.out
      obtain ⟨g',rfl⟩:∃ k,g = k + 1:=⟨g - 1,by omega⟩
      have I4:=(I3.out.to fun _=>list_next K3.out).step T5.out
      dsimp only at I4
      rw [K5.out] at I4
      refine ⟨⟨g' + 1,n ||| i,s5,k5,rfl,or_lt n i hn h32,I4.guard,fun _=>by omega,R5.out.set1 k5,O5.out.trans (Only.set _ _ _ _),by omega⟩,?_⟩
      rw [hmw]
      cases k5 with
      | true=>rw [rtM_true (R5.out.set1 true)];omega
      | false=>rw [rtM_false (R5.out.set1 false)];omega
    · have l5:=L5.out
      refine ⟨⟨g,n ||| i,s5,true,rfl,or_lt n i hn h32,⟨fun _=>?_,fun h=>(by cases h)⟩,fun h=>(by cases h),R5.out.set1 true,O5.out.trans (Only.set _ _ _ _),by omega⟩,?_⟩
      · cases d3 with
        | true=>exact I3.out.1 rfl
        | false =>
         have hlt:=hfl rfl
         obtain ⟨g',rfl⟩:∃ k,g = k + 1:=⟨g - 1,by omega⟩
         exact ((I3.out.to fun _=>list_next K3.out).step T5.out).1 rfl
      · rw [hmw,rtM_true (R5.out.set1 true)]
        omega
    · refine ⟨⟨g,n ||| i,s3,d3,rfl,or_lt n i hn h32,I3.out.to fun hd=>?_,fun hd=>?_,R3.out,O3.out,by omega⟩,?_⟩
      · have hlt:=hfl hd
        obtain ⟨g',rfl⟩:∃ k,g = k + 1:=⟨g - 1,by omega⟩
        rw [list_see K3.out,list_see K3.out]
      · have hlt:=hfl hd
        omega
      · rw [hmw]
        cases d3 with
        | true=>rw [rtM_true R3.out];omega
        | false=>rw [rtM_false R3.out];have:=hfl rfl;omega
end Go.Proofs.YtfdmdmahddjjmaaGreatDoor
namespace Go.Proofs.YtfdmdmahddjjmaaGreatDoor
open Go.RowKit Own Im
attribute [local go_sem] str_toList str_size
def SecGo (b c:Nat) (w:World) (s:Bt) (bad:Bool) (k:Int) (pk:Bool) (fr of:Int) (r:Option ((List Int × Int) × Bt)) (e:Ending) (w':World):Prop :=
 ∃ l wh s' bad' sv,e = .returned (.tuple #[])∧RtT w' b s' bad'∧s'.length ≤ s.length∧Two b c w w'∧NBuf w.heap.size w' sv l∧ItAt w' c k sv wh pk fr of∧Step bad r (l,wh) s' bad'
def secK (f:Nat) (l:List Int) (t:Bt):Option ((List Int × Int) × Bt):=(numsL f l t).bind secEnd
def secC (f:Nat) (l:List Int) (s:Bt):Option ((List Int × Int) × Bt):=if Lib.hasPrefix s [46] = true then secK f l (s.drop 1) else some ((l,0),s)
theorem NBuf.slc {B:Nat} {w:World} {v:Value} {l:List Int} (h:NBuf B w v l):∃ A m c,v = .slice A m c∧m = l.length:=by
 obtain ⟨A,c,h1,-⟩:=GBuf.full h
 exact ⟨A,_,c,h1,rfl⟩
theorem head_ways (t:Bt):t = []∨(∃ c r,t = c :: r∧isDg c = true)∨(∃ c r,t = c :: r∧isDg c = false):=by
 cases t with
 | nil=>exact .inl rfl
 | cons d r =>
  cases hd:isDg d with
  | true=>exact .inr (.inl ⟨d,r,rfl,hd⟩)
  | false=>exact .inr (.inr ⟨d,r,rfl,hd⟩)
theorem signR_len {c:UInt8} {s t:Bt} {a:Unit} (h:signR c s = some (a,t)):t.length + 1 = s.length:=by
 unfold signR at h
 obtain ⟨q,hq,he⟩:=Option.map_eq_some_iff.1 h
 cases he
 simpa using sign_le hq
theorem number_nil:number 1 99 [] = none:=by
 unfold number
 rw [if_neg (by rintro ⟨h,-⟩;exact absurd h (by decide))]
theorem whatOf_nil (l:List Int):whatOf l [] = none:=by
 unfold whatOf
 split
 · rfl
 · rw [if_neg (by decide)]
theorem secK_num {f:Nat} {l:List Int} {t:Bt} (h:t = []∨∃ c r,t = c :: r∧isDg c = true):secK (f + 1) l t = (number 1 99 t).bind fun q=>if decide (8 < (l ++ [q.1]).length) = true then none else secC f (l ++ [q.1]) q.2:=by
 unfold secK
 rcases h with rfl | ⟨c,r,rfl,hc⟩
 · rw [nums_end (.inl rfl),number_nil,Option.bind_some]
   unfold secEnd
   rw [if_neg (by simp)]
   rw [show (Im.word []).1 = [] from rfl,whatOf_nil]
   rfl
 · rw [nums_on hc]
   cases number 1 99 (c :: r) with
   | none=>rfl
   | some q =>
    simp only [Option.bind_some]
    by_cases hl:l.length + 1 ≤ 8
    · have hd:decide (8 < (l ++ [q.1]).length) = false:=decide_eq_false (by simp;omega)
      rw [if_pos hl,hd]
      simp only [Bool.false_eq_true,if_false]
      unfold secC
      rw [takes_one]
      cases hk:Lib.hasPrefix q.2 [46] with
      | true=>simp [secK]
      | false=>simp [secEnd]
    · have hd:decide (8 < (l ++ [q.1]).length) = true:=decide_eq_true (by simp;omega)
      rw [if_neg hl,hd]
      rfl
theorem secC_no {f:Nat} {l:List Int} {s:Bt} (h:Lib.hasPrefix s [46] = false):secC f l s = some ((l,0),s):=by unfold secC;rw [if_neg (by rw [h];simp)]
theorem secC_on {f:Nat} {l:List Int} {s:Bt} (h:Lib.hasPrefix s [46] = true):secC f l s = (signR 46 s).bind fun q=>secK f l q.2:=by
 unfold secC signR sign
 rw [if_pos h,if_pos h]
 rfl
theorem secK_word {f:Nat} {l:List Int} {c:UInt8} {r:Bt} {wd t:Bt} (hl:l ≠ []) (hc:isDg c = false) (hw:Im.word (c :: r) = (wd,t)):secK (f + 1) l (c :: r) = if (wd != [77,73,77,69]) = true then none else some ((l,3),t):=by
 unfold secK
 rw [nums_end (.inr ⟨c,r,rfl,hc⟩),Option.bind_some]
 unfold secEnd
 rw [if_neg (by simp),hw]
 dsimp only
 unfold whatOf
 rw [if_neg hl]
 by_cases h:wd = [77,73,77,69]
 · rw [if_pos h,if_neg (by simp [h])];rfl
 · rw [if_neg h,if_pos (by simpa using h)];rfl
theorem secK_head {f:Nat} {c:UInt8} {r:Bt} {wd t:Bt} (hc:isDg c = false) (hw:Im.word (c :: r) = (wd,t)):secK (f + 1) [] (c :: r) = if wd = [72,69,65,68,69,82] then some (([],1),t) else if wd = [84,69,88,84] then some (([],2),t) else none:=by
 unfold secK
 rw [nums_end (.inr ⟨c,r,rfl,hc⟩),Option.bind_some]
 unfold secEnd
 rw [if_neg (by simp),hw]
 dsimp only
 unfold whatOf
 rw [if_pos rfl]
 by_cases h:wd = [72,69,65,68,69,82]
 · rw [if_pos h,if_pos h];rfl
 rw [if_neg h,if_neg h]
 by_cases h2:wd = [84,69,88,84]
 · rw [if_pos h2,if_pos h2];rfl
 · rw [if_neg h2,if_neg h2];rfl
set_option maxHeartbeats 16000000 in
theorem rsection_any (b c:Nat) (s:Bt) (bad:Bool) (w:World) (k:Int) (pk:Bool) (fr of:Int) (h:RtT w b s bad) (hc:ItAt w c k (.slice none 0 0) 0 pk fr of) (hbc:b < c) :
  Calls Tryz.prog 143 #[.pointer (some ⟨b,0,none⟩),.pointer (some ⟨c,0,none⟩)] w fun e w'=>SecGo b c w s bad k pk fr of (section_ s) e w':=by
 have hclt:=hc.lt
 have hcb:c ≠ b:=by omega
 have HI:=hid hc
 have H:=hid h
 clear h hc
 obtain ⟨R,hR⟩:∃ R,R = section_ s:=⟨_,rfl⟩
 rw [← hR]
 obtain ⟨k1,h1⟩:∃ k1,Lib.hasPrefix s [93] = k1:=⟨_,rfl⟩
 have hse:=fun W hW=>rsees_any 93 93 rfl b s bad W hW
 rw [h1] at hse
 have HSE:=hid hse
 clear hse
 cases k1 with
 | true =>
  have HR:=hid (hR.trans (section_see h1))
  clear hR h1
  go_enter Tryz.func143,Tryz.ntmps143
  go_wp2_with (go_at_call 33;refine (HSE.out _ H.out).mono ?_;rintro e w2 ⟨rfl,he⟩;obtain rfl:=he.symm)
  go_end0
  exact ⟨[],0,s,bad,.slice none 0 0,rfl,H.out,Nat.le_refl _,Two.refl _ _ _,GBuf.nil (Nat.le_refl _),HI.out,((Inv.start bad R).to fun _=>HR.out).out⟩
 | false =>
  have hI2:Inv bad R bad (secK (s.length + 1) [] s):=(Inv.start bad R).to fun _=>hR.trans (section_go h1)
  have II:=hid hI2
  clear hR h1 hI2
  have c0:=H.out.c0
  have i2:=HI.out.c2
  have j2:=HI.out.free 2
  by_cases hnd:∃ d r,s = d :: r∧isDg d = false
  · obtain ⟨d,r,rfl,hd⟩:=hnd
    have hix:∀ h:0 < (str (d :: r)).size,(str (d :: r))[0] = d:=fun h=>rfl
    have hz:=str_size (d :: r)
    have hdg:=fun W=>rdigit_any d W
    rw [hd] at hdg
    have DG:=hid hdg
    have hle:=word_le (d :: r)
    obtain ⟨wd,t,hw⟩:∃ wd t,Im.word (d :: r) = (wd,t):=⟨_,_,rfl⟩
    have hwd:=fun W hW=>rword_any b (d :: r) bad W hW
    rw [hw] at hwd hle
    dsimp only at hwd hle
    have HWD:=hid hwd
    have I2:=hid (II.out.to fun _=>secK_head hd hw)
    clear hdg hwd hd hw II
    by_cases h1:wd = [72,69,65,68,69,82]
    · subst h1
      have I3:=hid (I2.out.to fun _=>by rw [if_pos rfl])
      clear I2
      go_enter Tryz.func143,Tryz.ntmps143
      go_wp2_with (first
       | (go_at_call 33;refine (HSE.out _ H.out).mono ?_;rintro e w2 ⟨rfl,he⟩;obtain rfl:=he.symm)
       | (go_at_call 38;refine (DG.out _).mono ?_;rintro e w4 ⟨rfl,rfl⟩)
       | (go_at_call 32;refine (HWD.out _ H.out).mono ?_;rintro e w3 ⟨rfl,r3,o3⟩;have k3:=HI.out.only o3 hcb;have i2:=k3.c2;have j2:=k3.free 2;have d1:=r3.c1;have f1:=r3.free 1;have R3:=hid r3;have O3:=hid o3;have K3:=hid k3;clear r3 o3 k3))
      go_end0
      exact ⟨[],1,t,bad,.slice none 0 0,rfl,R3.out.far hbc _,hle,O3.out.two.trans (Two.set _ hbc _ _),GBuf.nil (by have:=O3.out.size;simpa [World.setCell] using this),K3.out.set2 1,I3.out.out⟩
    by_cases h2:wd = [84,69,88,84]
    · subst h2
      have I3:=hid (I2.out.to fun _=>by rw [if_neg h1,if_pos rfl])
      clear I2
      go_enter Tryz.func143,Tryz.ntmps143
      go_wp2_with (first
       | (go_at_call 33;refine (HSE.out _ H.out).mono ?_;rintro e w2 ⟨rfl,he⟩;obtain rfl:=he.symm)
       | (go_at_call 38;refine (DG.out _).mono ?_;rintro e w4 ⟨rfl,rfl⟩)
       | (go_at_call 32;refine (HWD.out _ H.out).mono ?_;rintro e w3 ⟨rfl,r3,o3⟩;have k3:=HI.out.only o3 hcb;have i2:=k3.c2;have j2:=k3.free 2;have d1:=r3.c1;have f1:=r3.free 1;have R3:=hid r3;have O3:=hid o3;have K3:=hid k3;clear r3 o3 k3))
      go_end0
      exact ⟨[],2,t,bad,.slice none 0 0,rfl,R3.out.far hbc _,hle,O3.out.two.trans (Two.set _ hbc _ _),GBuf.nil (by have:=O3.out.size;simpa [World.setCell] using this),K3.out.set2 2,I3.out.out⟩
    have e1:(wd == [72,69,65,68,69,82]) = false:=by simpa using h1
    have e2:(wd == [84,69,88,84]) = false:=by simpa using h2
    have I3:=hid (I2.out.to (K':=none) fun _=>by rw [if_neg h1,if_neg h2])
    clear I2 h1 h2
    go_enter Tryz.func143,Tryz.ntmps143
    go_wp2_with (first
     | (go_at_call 33;refine (HSE.out _ H.out).mono ?_;rintro e w2 ⟨rfl,he⟩;obtain rfl:=he.symm)
     | (go_at_call 38;refine (DG.out _).mono ?_;rintro e w4 ⟨rfl,rfl⟩)
     | (go_at_call 32;refine (HWD.out _ H.out).mono ?_;rintro e w3 ⟨rfl,r3,o3⟩;have k3:=HI.out.only o3 hcb;have i2:=k3.c2;have j2:=k3.free 2;have d1:=r3.c1;have f1:=r3.free 1;have R3:=hid r3;have O3:=hid o3;have K3:=hid k3;clear r3 o3 k3))
    go_end0
    exact ⟨[],0,t,true,.slice none 0 0,rfl,R3.out.set1 true,hle,(O3.out.trans (Only.set _ _ _ _)).two,GBuf.nil (by have:=O3.out.size;simpa [World.setCell] using this),K3.out.far hcb _,(Inv.fault I3.out).out⟩
  · have hdd:s = []∨∃ c r,s = c :: r∧isDg c = true:=by
      cases s with
      | nil=>exact .inl rfl
      | cons d r =>
       cases hd:isDg d with
       | true=>exact .inr ⟨d,r,rfl,hd⟩
       | false=>exact absurd ⟨d,r,rfl,hd⟩ hnd
    clear hnd i2 j2
    have HDD:=hid hdd
    go_enter Tryz.func143,Tryz.ntmps143
    go_upto_region 1 with (go_at_call 33;refine (HSE.out _ H.out).mono ?_;rintro e w2 ⟨rfl,he⟩;obtain rfl:=he.symm)
    go_cut [20] from 6 to 19 (fun v20 wx=>v20 = .bool false∧wx = w)
    case first =>
     rcases hdd with rfl | ⟨d,r,rfl,hd⟩
     · go_wp2_with fail
       go_meet
       exact ⟨rfl,rfl⟩
     · have hix:∀ h:0 < (str (d :: r)).size,(str (d :: r))[0] = d:=fun h=>rfl
       have hz:=str_size (d :: r)
       have hdg:=fun W=>rdigit_any d W
       rw [hd] at hdg
       have DG:=hid hdg
       clear hdg hd
       go_wp2_with (go_at_call 38;refine (DG.out _).mono ?_;rintro e w4 ⟨rfl,rfl⟩)
       go_meet
       exact ⟨rfl,rfl⟩
    case rest =>
     obtain ⟨rfl,he⟩:=hcut
     obtain rfl:=he.symm
     clear hdd c0
     go_wp2_with fail
     go_loopw [] (fun wr=>∃ (f:Nat) (l:List Int) (t:Bt) (d:Bool) (sv:Value),Inv bad R d (secK f l t)∧(d = false→t.length < f∧l.length ≤ 8∧(t = []∨∃ c r,t = c :: r∧isDg c = true))∧RtT wr b t d∧NBuf w.heap.size wr sv l∧ItAt wr c k sv 0 pk fr of∧Two b c w wr∧t.length ≤ s.length) (fun wr=>rtM b wr)
     case atStart=>exact ⟨_,[],s,bad,_,II.out,fun _=>⟨Nat.lt_succ_self _,by decide,HDD.out⟩,H.out,GBuf.nil (Nat.le_refl _),HI.out,Two.refl _ _ _,Nat.le_refl _⟩
     case round =>
      obtain ⟨f,l,t,d,sv,hi,hf,hrt,hbuf,hit,ho,hl⟩:=hrel
      have J2:=hid hi
      have RT:=hid hrt
      have HB:=hid hbuf
      have HT:=hid hit
      have OO:=hid ho
      have L0:=hid hl
      obtain ⟨A,cc,rfl,hcc,-,-⟩:=hbuf.full
      have c1:=hrt.c1
      have i1:=hit.c1
      have i0:wr.drew.cell? ⟨c,1,none⟩ = some (.slice A l.length cc):=i1
      have hwc:w.heap.size ≤ wr.heap.size:=ho.size
      clear hi hrt hbuf hit ho hl II HSE
      cases d with
      | true =>
       go_wp2_with fail
       go_end0
       exact ⟨l,0,t,true,.slice A l.length cc,rfl,RT.out,L0.out,OO.out,HB.out,HT.out,(J2.out.to (K':=some ((l,0),t)) fun h=>by cases h).out⟩
      | false =>
       obtain ⟨hf1,hl8,hdt⟩:=hf rfl
       obtain ⟨f,rfl⟩:∃ k,f = k + 1:=⟨f - 1,by omega⟩
       have I3:=hid (J2.out.to fun _=>secK_num hdt)
       have F1:=hid hf1
       clear J2 hf hdt hf1
       go_upto_region 9 with fail
       go_cut [] from 41 to 51 (fun wx=>∃ (d6:Bool) (s6:Bt) (n:Int) (sv':Value),Step false (number 1 99 t) n s6 d6∧RtT wx b s6 d6∧s6.length ≤ t.length∧Two b c w wx∧NBuf w.heap.size wx sv' (l ++ [n])∧ItAt wx c k sv' 0 pk fr of)
       case first =>
        refine wp_region_held_drew (S:=fun _=>True) (by kernel_rfl) trivial (fun hHeld=>?_)
        refine wpAnyH_take (i:=0) (oi:=_) (v:=?vs0) rfl (by kernel_rfl) (by kernel_rfl) (by kernel_rfl) (fun _ _ _ h=>h) (Or.inl ⟨by rfl,?ys0⟩) (by assumption) ?rs0
        case ys0=>(intro w hSw;(try dsimp only at hSw);go_simp;try with_reducible rfl)
        try simp only [sxa,sxb,sxc,Act.put,sxd,sxe,sxf]
        refine wpAnyH_take (i:=1) (oi:=_) (v:=?vs1) rfl (by kernel_rfl) (by kernel_rfl) (by kernel_rfl) (fun _ _ _ h=>h) (Or.inl ⟨by rfl,?ys1⟩) (by assumption) ?rs1
        case ys1=>(intro w hSw;(try dsimp only at hSw);go_simp;try with_reducible rfl)
        try simp only [sxa,sxb,sxc,Act.put,sxd,sxe,sxf]
        refine wpAnyH_take (i:=2) (oi:=_) (v:=?vs2) rfl (by kernel_rfl) (by kernel_rfl) (by kernel_rfl) (fun _ _ _ h=>h) (Or.inl ⟨by rfl,?ys2⟩) (by assumption) ?rs2
        case ys2=>(intro w hSw;(try dsimp only at hSw);go_simp;try with_reducible rfl)
        try simp only [sxa,sxb,sxc,Act.put,sxd,sxe,sxf]
        refine wpAnyH_take (i:=3) (oi:=_) (v:=?vs3) rfl (by kernel_rfl) (by kernel_rfl) (by kernel_rfl) (fun _ _ _ h=>h) (Or.inl ⟨by rfl,?ys3⟩) (by assumption) ?rs3
        case ys3=>(intro w hSw;(try dsimp only at hSw);go_simp;try with_reducible rfl)
        try simp only [sxa,sxb,sxc,Act.put,sxd,sxe,sxf]
        refine wpAnyH_take (i:=5) (oi:=_) (v:=?vs5) rfl (by kernel_rfl) (by kernel_rfl) (by kernel_rfl) (fun _ _ _ h=>h) (Or.inl ⟨by rfl,?ys5⟩) (by assumption) ?rs5
        case ys5=>(intro w hSw;(try dsimp only at hSw);go_simp;try with_reducible rfl)
        try simp only [sxa,sxb,sxc,Act.put,sxd,sxe,sxf]
        refine wpAnyH_ready (rs:=[4,6]) (by kernel_rfl) (by simp) ?_
        refine AllReadyH.cons (o:=_) rfl (fun K hK=>?_) (AllReadyH.cons (o:=_) rfl (fun K hK=>?_) AllReadyH.nil)
        · go_simp
          refine hK.out _ _ trivial (fun hHeld=>?_)
          clear hK K hHeld
          have hHeld:True:=trivial
          try simp only [sxa,sxb,sxc,Act.put,sxd,sxe,sxf]
          refine wpAnyH_ready (rs:=[6]) (by kernel_rfl) (by simp) ?_
          refine AllReadyH.cons (o:=_) rfl (fun K hK=>?_) AllReadyH.nil
          go_simp
          refine (rnum_any b t 1 99 false _ RT.out.drew).mono ?_
          rintro e w6 ⟨v6,n,s6,d6,rfl,rfl,r6,l6,o6,t6⟩
          have D6:=Only.trans (Only.of (Below.refl wr.heap.size wr).drew (Nat.le_of_lt RT.out.lt)) o6
          have k6:=HT.out.only D6 hcb
          have i6:=k6.c1
          have i7:=fun ob=>keep_below ((Below.refl w6.heap.size w6).alloc (Nat.le_refl _) ob) rfl i6
          have O6:=hid D6
          have R6:=hid r6
          have K6:=hid k6
          have T6:=hid t6
          have L6:=hid l6
          clear r6 o6 k6 t6 l6 D6
          go_wp2_with fail
          refine hK.out _ _ trivial (fun hHeld=>?_)
          clear hK K hHeld
          have hHeld:True:=trivial
          try simp only [sxa,sxb,sxc,Act.put,sxd,sxe,sxf]
          refine wpAnyH_ready (rs:=[7]) (by kernel_rfl) (by simp) ?_
          refine AllReadyH.cons (o:=_) rfl (fun K hK=>?_) AllReadyH.nil
          go_simp
          refine hK.out _ _ trivial (fun hHeld=>?_)
          clear hK K hHeld
          have hHeld:True:=trivial
          try simp only [sxa,sxb,sxc,Act.put,sxd,sxe,sxf]
          refine wpAnyH_ready (rs:=[8]) (by kernel_rfl) (by simp) ?_
          refine AllReadyH.cons (o:=_) rfl (fun K hK=>?_) AllReadyH.nil
          refine step_nbuf w.heap.size _ (by rfl) _ _ (by rfl) _ l n (by rfl) ((HB.out.stays (O6.out.stays (by omega))).alloc _) _ 1 (by rfl) (fun j u hu=>lit_cells _ _ _ _ _ (by rfl) j u hu) (by omega) ?_
          intro g7 cap7 w7 hb7 hbel7
          have m7:=((Below.refl w.heap.size w6).alloc (by have:=O6.out.size;omega) _).trans hbel7
          have k7:=K6.out.below' m7 hclt
          have i8:=k7.c1
          have j8:=k7.free 1
          have R7:=hid (R6.out.below' m7 (by omega))
          have K7:=hid k7
          have B7b:Hid (NBuf w.heap.size w7 (.slice (some ⟨g7,0,none⟩) (l.length + 1) cap7) (l ++ [n])):=hid hb7
          have T7:=hid ((OO.out.trans O6.out.two).below m7 (by omega) (Nat.le_refl _))
          clear hb7 hbel7 m7 k7
          refine hK.out _ _ trivial (fun hHeld=>?_)
          clear hK K hHeld
          have hHeld:True:=trivial
          try simp only [sxa,sxb,sxc,Act.put,sxd,sxe,sxf]
          refine wpAnyH_take (i:=9) (oi:=_) (v:=?vt4_9) rfl (by kernel_rfl) (by kernel_rfl) (by kernel_rfl) (fun _ _ _ h=>h) (Or.inl ⟨by rfl,?yt4_9⟩) (by assumption) ?rt4_9
          case yt4_9=>(intro w hSw;(try dsimp only at hSw);go_simp;try with_reducible rfl)
          try simp only [sxa,sxb,sxc,Act.put,sxd,sxe,sxf]
          refine wpAnyH_take (i:=10) (oi:=_) (v:=?vt4_10) rfl (by kernel_rfl) (by kernel_rfl) (by kernel_rfl) (fun _ _ _ h=>h) (Or.inl ⟨by rfl,?yt4_10⟩) (by assumption) ?rt4_10
          case yt4_10=>(intro w hSw;(try dsimp only at hSw);go_simp;try with_reducible rfl)
          try simp only [sxa,sxb,sxc,Act.put,sxd,sxe,sxf]
          refine wpAnyH_ready (rs:=[11]) (by kernel_rfl) (by simp) ?_
          refine AllReadyH.cons (o:=_) rfl (fun K hK=>?_) AllReadyH.nil
          go_simp
          refine hK.out _ _ trivial (fun hHeld=>?_)
          clear hK K hHeld
          have hHeld:True:=trivial
          try simp only [sxa,sxb,sxc,Act.put,sxd,sxe,sxf]
          refine wpAnyH_done (by kernel_rfl) ?_ _
          have hwl:c + 1 ≤ w.heap.size:=hclt
          go_wp2_with fail
          go_meet
          exact ⟨d6,s6,n,_,T6.out,R7.out.far hbc _,L6.out,T7.out.trans (Two.set _ hbc _ _),B7b.out.stays ((setStays _ _ _ _).mono hwl),K7.out.set1 _⟩
        · go_simp
          refine (rnum_any b t 1 99 false _ RT.out.drew).mono ?_
          rintro e w6 ⟨v6,n,s6,d6,rfl,rfl,r6,l6,o6,t6⟩
          have D6:=Only.trans (Only.of (Below.refl wr.heap.size wr).drew (Nat.le_of_lt RT.out.lt)) o6
          have k6:=HT.out.only D6 hcb
          have i6:=k6.c1
          have i7:=fun ob=>keep_below ((Below.refl w6.heap.size w6).alloc (Nat.le_refl _) ob) rfl i6
          have O6:=hid D6
          have R6:=hid r6
          have K6:=hid k6
          have T6:=hid t6
          have L6:=hid l6
          clear r6 o6 k6 t6 l6 D6
          go_wp2_with fail
          refine hK.out _ _ trivial (fun hHeld=>?_)
          clear hK K hHeld
          have hHeld:True:=trivial
          try simp only [sxa,sxb,sxc,Act.put,sxd,sxe,sxf]
          refine wpAnyH_ready (rs:=[4,7]) (by kernel_rfl) (by simp) ?_
          refine AllReadyH.cons (o:=_) rfl (fun K hK=>?_) (AllReadyH.cons (o:=_) rfl (fun K hK=>?_) AllReadyH.nil)
          · go_simp
            refine hK.out _ _ trivial (fun hHeld=>?_)
            clear hK K hHeld
            have hHeld:True:=trivial
            try simp only [sxa,sxb,sxc,Act.put,sxd,sxe,sxf]
            refine wpAnyH_ready (rs:=[7]) (by kernel_rfl) (by simp) ?_
            refine AllReadyH.cons (o:=_) rfl (fun K hK=>?_) AllReadyH.nil
            go_simp
            refine hK.out _ _ trivial (fun hHeld=>?_)
            clear hK K hHeld
            have hHeld:True:=trivial
            try simp only [sxa,sxb,sxc,Act.put,sxd,sxe,sxf]
            refine wpAnyH_ready (rs:=[8]) (by kernel_rfl) (by simp) ?_
            refine AllReadyH.cons (o:=_) rfl (fun K hK=>?_) AllReadyH.nil
            refine step_nbuf w.heap.size _ (by rfl) _ _ (by rfl) _ l n (by rfl) ((HB.out.stays (O6.out.stays (by omega))).alloc _) _ 1 (by rfl) (fun j u hu=>lit_cells _ _ _ _ _ (by rfl) j u hu) (by omega) ?_
            intro g7 cap7 w7 hb7 hbel7
            have m7:=((Below.refl w.heap.size w6).alloc (by have:=O6.out.size;omega) _).trans hbel7
            have k7:=K6.out.below' m7 hclt
            have i8:=k7.c1
            have j8:=k7.free 1
            have R7:=hid (R6.out.below' m7 (by omega))
            have K7:=hid k7
            have B7b:Hid (NBuf w.heap.size w7 (.slice (some ⟨g7,0,none⟩) (l.length + 1) cap7) (l ++ [n])):=hid hb7
            have T7:=hid ((OO.out.trans O6.out.two).below m7 (by omega) (Nat.le_refl _))
            clear hb7 hbel7 m7 k7
            refine hK.out _ _ trivial (fun hHeld=>?_)
            clear hK K hHeld
            have hHeld:True:=trivial
            try simp only [sxa,sxb,sxc,Act.put,sxd,sxe,sxf]
            refine wpAnyH_take (i:=9) (oi:=_) (v:=?vt9_9) rfl (by kernel_rfl) (by kernel_rfl) (by kernel_rfl) (fun _ _ _ h=>h) (Or.inl ⟨by rfl,?yt9_9⟩) (by assumption) ?rt9_9
            case yt9_9=>(intro w hSw;(try dsimp only at hSw);go_simp;try with_reducible rfl)
            try simp only [sxa,sxb,sxc,Act.put,sxd,sxe,sxf]
            refine wpAnyH_take (i:=10) (oi:=_) (v:=?vt9_10) rfl (by kernel_rfl) (by kernel_rfl) (by kernel_rfl) (fun _ _ _ h=>h) (Or.inl ⟨by rfl,?yt9_10⟩) (by assumption) ?rt9_10
            case yt9_10=>(intro w hSw;(try dsimp only at hSw);go_simp;try with_reducible rfl)
            try simp only [sxa,sxb,sxc,Act.put,sxd,sxe,sxf]
            refine wpAnyH_ready (rs:=[11]) (by kernel_rfl) (by simp) ?_
            refine AllReadyH.cons (o:=_) rfl (fun K hK=>?_) AllReadyH.nil
            go_simp
            refine hK.out _ _ trivial (fun hHeld=>?_)
            clear hK K hHeld
            have hHeld:True:=trivial
            try simp only [sxa,sxb,sxc,Act.put,sxd,sxe,sxf]
            refine wpAnyH_done (by kernel_rfl) ?_ _
            have hwl:c + 1 ≤ w.heap.size:=hclt
            go_wp2_with fail
            go_meet
            exact ⟨d6,s6,n,_,T6.out,R7.out.far hbc _,L6.out,T7.out.trans (Two.set _ hbc _ _),B7b.out.stays ((setStays _ _ _ _).mono hwl),K7.out.set1 _⟩
          · go_simp
            refine hK.out _ _ trivial (fun hHeld=>?_)
            clear hK K hHeld
            have hHeld:True:=trivial
            try simp only [sxa,sxb,sxc,Act.put,sxd,sxe,sxf]
            refine wpAnyH_ready (rs:=[4]) (by kernel_rfl) (by simp) ?_
            refine AllReadyH.cons (o:=_) rfl (fun K hK=>?_) AllReadyH.nil
            go_simp
            refine hK.out _ _ trivial (fun hHeld=>?_)
            clear hK K hHeld
            have hHeld:True:=trivial
            try simp only [sxa,sxb,sxc,Act.put,sxd,sxe,sxf]
            refine wpAnyH_ready (rs:=[8]) (by kernel_rfl) (by simp) ?_
            refine AllReadyH.cons (o:=_) rfl (fun K hK=>?_) AllReadyH.nil
            refine step_nbuf w.heap.size _ (by rfl) _ _ (by rfl) _ l n (by rfl) ((HB.out.stays (O6.out.stays (by omega))).alloc _) _ 1 (by rfl) (fun j u hu=>lit_cells _ _ _ _ _ (by rfl) j u hu) (by omega) ?_
            intro g7 cap7 w7 hb7 hbel7
            have m7:=((Below.refl w.heap.size w6).alloc (by have:=O6.out.size;omega) _).trans hbel7
            have k7:=K6.out.below' m7 hclt
            have i8:=k7.c1
            have j8:=k7.free 1
            have R7:=hid (R6.out.below' m7 (by omega))
            have K7:=hid k7
            have B7b:Hid (NBuf w.heap.size w7 (.slice (some ⟨g7,0,none⟩) (l.length + 1) cap7) (l ++ [n])):=hid hb7
            have T7:=hid ((OO.out.trans O6.out.two).below m7 (by omega) (Nat.le_refl _))
            clear hb7 hbel7 m7 k7
            refine hK.out _ _ trivial (fun hHeld=>?_)
            clear hK K hHeld
            have hHeld:True:=trivial
            try simp only [sxa,sxb,sxc,Act.put,sxd,sxe,sxf]
            refine wpAnyH_take (i:=9) (oi:=_) (v:=?vt13_9) rfl (by kernel_rfl) (by kernel_rfl) (by kernel_rfl) (fun _ _ _ h=>h) (Or.inl ⟨by rfl,?yt13_9⟩) (by assumption) ?rt13_9
            case yt13_9=>(intro w hSw;(try dsimp only at hSw);go_simp;try with_reducible rfl)
            try simp only [sxa,sxb,sxc,Act.put,sxd,sxe,sxf]
            refine wpAnyH_take (i:=10) (oi:=_) (v:=?vt13_10) rfl (by kernel_rfl) (by kernel_rfl) (by kernel_rfl) (fun _ _ _ h=>h) (Or.inl ⟨by rfl,?yt13_10⟩) (by assumption) ?rt13_10
            case yt13_10=>(intro w hSw;(try dsimp only at hSw);go_simp;try with_reducible rfl)
            try simp only [sxa,sxb,sxc,Act.put,sxd,sxe,sxf]
            refine wpAnyH_ready (rs:=[11]) (by kernel_rfl) (by simp) ?_
            refine AllReadyH.cons (o:=_) rfl (fun K hK=>?_) AllReadyH.nil
            go_simp
            refine hK.out _ _ trivial (fun hHeld=>?_)
            clear hK K hHeld
            have hHeld:True:=trivial
            try simp only [sxa,sxb,sxc,Act.put,sxd,sxe,sxf]
            refine wpAnyH_done (by kernel_rfl) ?_ _
            have hwl:c + 1 ≤ w.heap.size:=hclt
            go_wp2_with fail
            go_meet
            exact ⟨d6,s6,n,_,T6.out,R7.out.far hbc _,L6.out,T7.out.trans (Two.set _ hbc _ _),B7b.out.stays ((setStays _ _ _ _).mono hwl),K7.out.set1 _⟩
       case rest =>
        obtain ⟨d6,s6,n,sv6,t6,r6,l6,o6,n6,i6⟩:=hcut
        obtain ⟨A6,m6,c6,rfl,hm6⟩:=NBuf.slc n6
        have J6:=I3.out.step t6
        dsimp only at J6
        have hmw:=rtM_false RT.out
        obtain ⟨E,hE⟩:∃ E,decide (8 < (l ++ [n]).length) = E:=⟨_,rfl⟩
        have hE2:decide ((8:Int) < (m6:Int)) = E:=by rw [← hE,hm6];by_cases h:8 < (l ++ [n]).length <;> simp at h ⊢ <;> omega
        rw [hE] at J6
        have HM6:=hid hm6
        clear hm6
        have I7:=hid J6.guard
        have HE:=hid hE
        have c1:=r6.c1
        have f1:=r6.free 1
        have i1:=i6.c1
        obtain ⟨k6,hk6⟩:∃ k6,Lib.hasPrefix s6 [46] = k6:=⟨_,rfl⟩
        have HK6:=hid hk6
        have R6:=hid r6
        have N6:=hid n6
        have K6:=hid i6
        have T6:=hid o6
        have L6:=hid l6
        have l0:=L0.out
        have f0:=F1.out
        have hwl:b + 1 ≤ w.heap.size:=by omega
        have hwc2:c + 1 ≤ w.heap.size:=hclt
        clear t6 r6 l6 o6 n6 i6 hE hk6 J6
        cases d6 with
        | true =>
         have R8:=hid (R6.out.set1 true)
         have N8:=hid (N6.out.stays ((setStays wc b 1 (.bool true)).mono hwl))
         have K8:=hid (K6.out.far hcb (j:=1) (.bool true))
         have T8:=hid (T6.out.trans (Only.set wc b 1 (.bool true)).two)
         have I8:Hid (Inv bad R true (secC f (l ++ [n]) s6)):=hid I7.out
         have i2:=K8.out.c2
         have j2:=K8.out.free 2
         have hse:=rsees_any 46 46 rfl b s6 true _ R8.out
         rw [HK6.out] at hse
         have HSE2:=hid hse
         clear hse
         cases k6 with
         | false =>
          have I9:=hid (I8.out.to fun _=>secC_no HK6.out)
          go_wp2_with (go_at_call 33;refine HSE2.out.mono ?_;rintro e w9 ⟨rfl,he⟩;obtain rfl:=he.symm)
          go_end0
          exact ⟨l ++ [n],0,s6,true,_,rfl,R8.out,by have:=L6.out;omega,T8.out,N8.out,K8.out,I9.out.out⟩
         | true =>
          have I9:=hid (I8.out.to fun _=>secC_on HK6.out)
          have tok0:Tk 0:=⟨⟩
          go_wp2_with (first
           | (go_at_call 33;refine HSE2.out.mono ?_;rintro e w9 ⟨rfl,he⟩;obtain rfl:=he.symm)
           | (go_at_call 72;refine (rsign_any 46 46 rfl b s6 true _ R8.out).mono ?_;rintro e w10 ⟨v10,a10,s10,d10,rfl,rfl,r10,l10,o10,t10⟩;have I10:=hid (I9.out.step t10);have c10:=r10.c0;have b10:=r10.c1;have g10:=r10.free 1;have k10:=K8.out.only o10 hcb;have i2:=k10.c2;have j2:=k10.free 2;have R10:=hid r10;have L10:=hid l10;have T10:=hid t10;have N10:=hid (N8.out.stays (o10.stays hwl));have K10:=hid k10;have O10:=hid (T8.out.trans o10.two);clear r10 l10 o10 t10 k10;rcases head_ways s10 with rfl | ⟨x,y,rfl,hx⟩ | ⟨x,y,rfl,hx⟩ <;> (first | (have hix:∀ h:0 < (str (x :: y)).size,(str (x :: y))[0] = x:=fun h=>rfl;have hz:=str_size (x :: y);have hdg:=fun W=>rdigit_any x W;rw [hx] at hdg;have DG:=hid hdg;have HX:=hid hx;clear hdg hx) | skip) <;> (obtain rfl:d10 = true:=T10.out.1 rfl))
           | (go_at_call 38;refine (DG.out _).mono ?_;rintro e w11 ⟨rfl,rfl⟩)
           | (go_at_call 32;obtain ⟨wd,u,hw⟩:∃ wd u,Im.word (x :: y) = (wd,u):=⟨_,_,rfl⟩;have hwd:=rword_any b (x :: y) _ _ R10.out;have hle:=word_le (x :: y);rw [hw] at hwd hle;dsimp only at hwd hle;refine hwd.mono ?_;clear hwd;rintro e w12 ⟨rfl,r12,o12⟩;have HW:=hid hw;have LW:=hid hle;have k12:=K10.out.only o12 hcb;have i2:=k12.c2;have j2:=k12.free 2;have b12:=r12.c1;have g12:=r12.free 1;have R12:=hid r12;have K12:=hid k12;have N12:=hid (N10.out.stays (o12.stays hwl));have O12:=hid (O10.out.trans o12.two);obtain ⟨M,hM⟩:∃ M,(wd == [77,73,77,69]) = M:=⟨_,rfl⟩;have HM:=hid hM;clear r12 o12 k12 hw hle;cases M))
          all_goals first
           | (exact ⟨⟨f,l ++ [n],_,true,_,I10.out,fun h=>(by cases h),R10.out,N10.out,K10.out,O10.out,(by have:=L10.out;have:=L6.out;omega)⟩,(by rw [rtM_true R10.out,hmw];omega)⟩)
           | (go_end0;exact ⟨l ++ [n],3,_,true,_,rfl,(R10.out.set1 true).far hbc _,(by have:=L10.out;have:=L6.out;omega),(O10.out.trans (Only.set _ _ _ _).two).trans (Two.set _ hbc _ _),(N10.out.stays ((setStays _ _ _ _).mono hwl)).stays ((setStays _ _ _ _).mono hwc2),(K10.out.far hcb _).set2 3,(I10.out.to (K':=some ((l ++ [n],3),x :: y)) fun h=>by cases h).out⟩)
        | false =>
         cases E with
         | true =>
          have R8:=hid (R6.out.set1 true)
          have N8:=hid (N6.out.stays ((setStays wc b 1 (.bool true)).mono hwl))
          have K8:=hid (K6.out.far hcb (j:=1) (.bool true))
          have T8:=hid (T6.out.trans (Only.set wc b 1 (.bool true)).two)
          have I8:Hid (Inv bad R true (secC f (l ++ [n]) s6)):=hid I7.out
          have i2:=K8.out.c2
          have j2:=K8.out.free 2
          have hse:=rsees_any 46 46 rfl b s6 true _ R8.out
          rw [HK6.out] at hse
          have HSE2:=hid hse
          clear hse
          cases k6 with
          | false =>
           have I9:=hid (I8.out.to fun _=>secC_no HK6.out)
           go_wp2_with (go_at_call 33;refine HSE2.out.mono ?_;rintro e w9 ⟨rfl,he⟩;obtain rfl:=he.symm)
           go_end0
           exact ⟨l ++ [n],0,s6,true,_,rfl,R8.out,by have:=L6.out;omega,T8.out,N8.out,K8.out,I9.out.out⟩
          | true =>
           have I9:=hid (I8.out.to fun _=>secC_on HK6.out)
           have tok0:Tk 0:=⟨⟩
           go_wp2_with (first
            | (go_at_call 33;refine HSE2.out.mono ?_;rintro e w9 ⟨rfl,he⟩;obtain rfl:=he.symm)
            | (go_at_call 72;refine (rsign_any 46 46 rfl b s6 true _ R8.out).mono ?_;rintro e w10 ⟨v10,a10,s10,d10,rfl,rfl,r10,l10,o10,t10⟩;have I10:=hid (I9.out.step t10);have c10:=r10.c0;have b10:=r10.c1;have g10:=r10.free 1;have k10:=K8.out.only o10 hcb;have i2:=k10.c2;have j2:=k10.free 2;have R10:=hid r10;have L10:=hid l10;have T10:=hid t10;have N10:=hid (N8.out.stays (o10.stays hwl));have K10:=hid k10;have O10:=hid (T8.out.trans o10.two);clear r10 l10 o10 t10 k10;rcases head_ways s10 with rfl | ⟨x,y,rfl,hx⟩ | ⟨x,y,rfl,hx⟩ <;> (first | (have hix:∀ h:0 < (str (x :: y)).size,(str (x :: y))[0] = x:=fun h=>rfl;have hz:=str_size (x :: y);have hdg:=fun W=>rdigit_any x W;rw [hx] at hdg;have DG:=hid hdg;have HX:=hid hx;clear hdg hx) | skip) <;> (obtain rfl:d10 = true:=T10.out.1 rfl))
            | (go_at_call 38;refine (DG.out _).mono ?_;rintro e w11 ⟨rfl,rfl⟩)
            | (go_at_call 32;obtain ⟨wd,u,hw⟩:∃ wd u,Im.word (x :: y) = (wd,u):=⟨_,_,rfl⟩;have hwd:=rword_any b (x :: y) _ _ R10.out;have hle:=word_le (x :: y);rw [hw] at hwd hle;dsimp only at hwd hle;refine hwd.mono ?_;clear hwd;rintro e w12 ⟨rfl,r12,o12⟩;have HW:=hid hw;have LW:=hid hle;have k12:=K10.out.only o12 hcb;have i2:=k12.c2;have j2:=k12.free 2;have b12:=r12.c1;have g12:=r12.free 1;have R12:=hid r12;have K12:=hid k12;have N12:=hid (N10.out.stays (o12.stays hwl));have O12:=hid (O10.out.trans o12.two);obtain ⟨M,hM⟩:∃ M,(wd == [77,73,77,69]) = M:=⟨_,rfl⟩;have HM:=hid hM;clear r12 o12 k12 hw hle;cases M))
           all_goals first
            | (exact ⟨⟨f,l ++ [n],_,true,_,I10.out,fun h=>(by cases h),R10.out,N10.out,K10.out,O10.out,(by have:=L10.out;have:=L6.out;omega)⟩,(by rw [rtM_true R10.out,hmw];omega)⟩)
            | (go_end0;exact ⟨l ++ [n],3,_,true,_,rfl,(R10.out.set1 true).far hbc _,(by have:=L10.out;have:=L6.out;omega),(O10.out.trans (Only.set _ _ _ _).two).trans (Two.set _ hbc _ _),(N10.out.stays ((setStays _ _ _ _).mono hwl)).stays ((setStays _ _ _ _).mono hwc2),(K10.out.far hcb _).set2 3,(I10.out.to (K':=some ((l ++ [n],3),x :: y)) fun h=>by cases h).out⟩)
         | false =>
          have R8:=hid (R6.out.set1 false)
          have N8:=hid (N6.out.stays ((setStays wc b 1 (.bool false)).mono hwl))
          have K8:=hid (K6.out.far hcb (j:=1) (.bool false))
          have T8:=hid (T6.out.trans (Only.set wc b 1 (.bool false)).two)
          have I8:Hid (Inv bad R false (secC f (l ++ [n]) s6)):=hid I7.out
          have i2:=K8.out.c2
          have j2:=K8.out.free 2
          have hse:=rsees_any 46 46 rfl b s6 false _ R8.out
          rw [HK6.out] at hse
          have HSE2:=hid hse
          clear hse
          cases k6 with
          | false =>
           have I9:=hid (I8.out.to fun _=>secC_no HK6.out)
           go_wp2_with (go_at_call 33;refine HSE2.out.mono ?_;rintro e w9 ⟨rfl,he⟩;obtain rfl:=he.symm)
           go_end0
           exact ⟨l ++ [n],0,s6,false,_,rfl,R8.out,by have:=L6.out;omega,T8.out,N8.out,K8.out,I9.out.out⟩
          | true =>
           have I9:=hid (I8.out.to fun _=>secC_on HK6.out)
           have tok0:Tk 0:=⟨⟩
           go_wp2_with (first
            | (go_at_call 33;refine HSE2.out.mono ?_;rintro e w9 ⟨rfl,he⟩;obtain rfl:=he.symm)
            | (go_at_call 72;refine (rsign_any 46 46 rfl b s6 false _ R8.out).mono ?_;rintro e w10 ⟨v10,a10,s10,d10,rfl,rfl,r10,l10,o10,t10⟩;have I10:=hid (I9.out.step t10);have c10:=r10.c0;have b10:=r10.c1;have g10:=r10.free 1;have k10:=K8.out.only o10 hcb;have i2:=k10.c2;have j2:=k10.free 2;have R10:=hid r10;have L10:=hid l10;have T10:=hid t10;have N10:=hid (N8.out.stays (o10.stays hwl));have K10:=hid k10;have O10:=hid (T8.out.trans o10.two);clear r10 l10 o10 t10 k10;rcases head_ways s10 with rfl | ⟨x,y,rfl,hx⟩ | ⟨x,y,rfl,hx⟩ <;> (first | (have hix:∀ h:0 < (str (x :: y)).size,(str (x :: y))[0] = x:=fun h=>rfl;have hz:=str_size (x :: y);have hdg:=fun W=>rdigit_any x W;rw [hx] at hdg;have DG:=hid hdg;have HX:=hid hx;clear hdg hx) | skip) <;> cases d10)
            | (go_at_call 38;refine (DG.out _).mono ?_;rintro e w11 ⟨rfl,rfl⟩)
            | (go_at_call 32;obtain ⟨wd,u,hw⟩:∃ wd u,Im.word (x :: y) = (wd,u):=⟨_,_,rfl⟩;have hwd:=rword_any b (x :: y) _ _ R10.out;have hle:=word_le (x :: y);rw [hw] at hwd hle;dsimp only at hwd hle;refine hwd.mono ?_;clear hwd;rintro e w12 ⟨rfl,r12,o12⟩;have HW:=hid hw;have LW:=hid hle;have k12:=K10.out.only o12 hcb;have i2:=k12.c2;have j2:=k12.free 2;have b12:=r12.c1;have g12:=r12.free 1;have R12:=hid r12;have K12:=hid k12;have N12:=hid (N10.out.stays (o12.stays hwl));have O12:=hid (O10.out.trans o12.two);obtain ⟨M,hM⟩:∃ M,(wd == [77,73,77,69]) = M:=⟨_,rfl⟩;have HM:=hid hM;clear r12 o12 k12 hw hle;cases M))
           all_goals first
            | (exact ⟨⟨f,l ++ [n],_,true,_,I10.out,fun h=>(by cases h),R10.out,N10.out,K10.out,O10.out,(by have:=L10.out;have:=L6.out;omega)⟩,(by rw [rtM_true R10.out,hmw];omega)⟩)
            | (go_end0;exact ⟨l ++ [n],3,_,true,_,rfl,(R10.out.set1 true).far hbc _,(by have:=L10.out;have:=L6.out;omega),(O10.out.trans (Only.set _ _ _ _).two).trans (Two.set _ hbc _ _),(N10.out.stays ((setStays _ _ _ _).mono hwl)).stays ((setStays _ _ _ _).mono hwc2),(K10.out.far hcb _).set2 3,(I10.out.to (K':=some ((l ++ [n],3),x :: y)) fun h=>by cases h).out⟩)
            | (exact ⟨⟨f,l ++ [n],_,false,_,I10.out,fun _=>⟨(by have:=signR_len (T10.out.2.2 rfl rfl);have:=L6.out;omega),(by have:=of_decide_eq_false HE.out;omega),(by first | exact .inl rfl | exact .inr ⟨x,y,rfl,HX.out⟩)⟩,R10.out,N10.out,K10.out,O10.out,(by have:=L10.out;have:=L6.out;omega)⟩,(by rw [rtM_false R10.out,hmw];have:=signR_len (T10.out.2.2 rfl rfl);have:=L6.out;omega)⟩)
            | (go_end0;have hln:l ++ [n] ≠ []:=(by simp);obtain ⟨f',rfl⟩:∃ k,f = k + 1:=⟨f - 1,by have:=signR_len (T10.out.2.2 rfl rfl);have:=L6.out;omega⟩;have J:=I10.out.to fun _=>secK_word hln HX.out HW.out;exact ⟨l ++ [n],3,u,false,_,rfl,(R12.out.set1 false).far hbc _,(by have:=LW.out;have:=L10.out;have:=L6.out;omega),(O12.out.trans (Only.set _ _ _ _).two).trans (Two.set _ hbc _ _),(N12.out.stays ((setStays _ _ _ _).mono hwl)).stays ((setStays _ _ _ _).mono hwc2),(K12.out.far hcb _).set2 3,(J.to fun _=>by rw [if_neg (by have h:=HM.out;simpa using h)]).out⟩)
            | (go_end0;have hln:l ++ [n] ≠ []:=(by simp);obtain ⟨f',rfl⟩:∃ k,f = k + 1:=⟨f - 1,by have:=signR_len (T10.out.2.2 rfl rfl);have:=L6.out;omega⟩;have J:=I10.out.to fun _=>secK_word hln HX.out HW.out;exact ⟨l ++ [n],3,u,true,_,rfl,(R12.out.set1 true).far hbc _,(by have:=LW.out;have:=L10.out;have:=L6.out;omega),(O12.out.trans (Only.set _ _ _ _).two).trans (Two.set _ hbc _ _),(N12.out.stays ((setStays _ _ _ _).mono hwl)).stays ((setStays _ _ _ _).mono hwc2),(K12.out.far hcb _).set2 3,(Inv.fault (J.to (K':=none) fun _=>by rw [if_pos (by have h:=HM.out;simpa using h)])).out⟩)
end Go.Proofs.YtfdmdmahddjjmaaGreatDoor
