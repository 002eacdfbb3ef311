/-
  Joined texts: StList26 StParse2.
-/
import Derived.Test.YtfdmdmahddjjmaaGreatDoorPkSt
import Derived.Deep.DeepCutAuto
import Derived.Deep.CutBlock
import Derived.Deep.QuietTactic
import Derived.BigQuiet
set_option linter.unusedVariables false
set_option linter.unusedSimpArgs false
set_option maxRecDepth 100000
namespace Go.Proofs.YtfdmdmahddjjmaaGreatDoor.St
open Go.RowKit Own
set_option maxRecDepth 10000
theorem enc_valid (c:UInt8):Utf8.valid (c.toNat:Int) = true:=by
 have:=c.toNat_lt
 simp only [Utf8.valid,Bool.or_eq_true,Bool.and_eq_true,decide_eq_true_eq]
 exact Or.inl ⟨by omega,by omega⟩
theorem encL_small (c:UInt8) (h:c.toNat < 128):encL c = [c]:=by
 have hv:=enc_valid c
 unfold encL Utf8.encode
 simp only [hv,if_true,Int.toNat_natCast]
 rw [if_pos h]
 show [UInt8.ofNat c.toNat] = [c]
 rw [UInt8.ofNat_toNat]
theorem encL_great (c:UInt8) (h:128 ≤ c.toNat):2 ≤ (encL c).length∧(encL c).length ≤ 4:=by
 have:=encode_facts (c.toNat:Int) (enc_valid c) (by omega)
 have e:(encL c).length = (Utf8.encode (c.toNat:Int)).size:=by simp only [encL,ByteArray.size,Array.length_toList]
 rw [e]
 exact ⟨this.1,this.2.1⟩
theorem encL_len (c:UInt8):(encL c).length ≤ 4:=by
 by_cases h:c.toNat < 128
 · rw [encL_small c h];show 1 ≤ 4;omega
 · exact (encL_great c (by omega)).2
theorem uncons {n:Nat} (l:List UInt8) (h:l.length = n + 1):∃ c l',l = c :: l'∧l'.length = n:=by
 cases l with
 | nil=>simp at h
 | cons c l'=>exact ⟨c,l',rfl,by simpa using h⟩
theorem list26 (l:List UInt8) (h:l.length = 26):∃ c0 c1 c2 c3 c4 c5 c6 c7 c8 c9 c10 c11 c12 c13 c14 c15 c16 c17 c18 c19 c20 c21 c22 c23 c24 c25:UInt8,l = [c0,c1,c2,c3,c4,c5,c6,c7,c8,c9,c10,c11,c12,c13,c14,c15,c16,c17,c18,c19,c20,c21,c22,c23,c24,c25]:=by
 obtain ⟨c0,l0,rfl,h0⟩:=uncons l h
 obtain ⟨c1,l1,rfl,h1⟩:=uncons l0 h0
 obtain ⟨c2,l2,rfl,h2⟩:=uncons l1 h1
 obtain ⟨c3,l3,rfl,h3⟩:=uncons l2 h2
 obtain ⟨c4,l4,rfl,h4⟩:=uncons l3 h3
 obtain ⟨c5,l5,rfl,h5⟩:=uncons l4 h4
 obtain ⟨c6,l6,rfl,h6⟩:=uncons l5 h5
 obtain ⟨c7,l7,rfl,h7⟩:=uncons l6 h6
 obtain ⟨c8,l8,rfl,h8⟩:=uncons l7 h7
 obtain ⟨c9,l9,rfl,h9⟩:=uncons l8 h8
 obtain ⟨c10,l10,rfl,h10⟩:=uncons l9 h9
 obtain ⟨c11,l11,rfl,h11⟩:=uncons l10 h10
 obtain ⟨c12,l12,rfl,h12⟩:=uncons l11 h11
 obtain ⟨c13,l13,rfl,h13⟩:=uncons l12 h12
 obtain ⟨c14,l14,rfl,h14⟩:=uncons l13 h13
 obtain ⟨c15,l15,rfl,h15⟩:=uncons l14 h14
 obtain ⟨c16,l16,rfl,h16⟩:=uncons l15 h15
 obtain ⟨c17,l17,rfl,h17⟩:=uncons l16 h16
 obtain ⟨c18,l18,rfl,h18⟩:=uncons l17 h17
 obtain ⟨c19,l19,rfl,h19⟩:=uncons l18 h18
 obtain ⟨c20,l20,rfl,h20⟩:=uncons l19 h19
 obtain ⟨c21,l21,rfl,h21⟩:=uncons l20 h20
 obtain ⟨c22,l22,rfl,h22⟩:=uncons l21 h21
 obtain ⟨c23,l23,rfl,h23⟩:=uncons l22 h22
 obtain ⟨c24,l24,rfl,h24⟩:=uncons l23 h23
 obtain ⟨c25,l25,rfl,h25⟩:=uncons l24 h24
 have:l25 = []:=List.eq_nil_of_length_eq_zero h25
 subst this
 exact ⟨c0,c1,c2,c3,c4,c5,c6,c7,c8,c9,c10,c11,c12,c13,c14,c15,c16,c17,c18,c19,c20,c21,c22,c23,c24,c25,rfl⟩
theorem shB_dig (k:Nat) (c:UInt8) (h:shB k c = 57):isDig c:=by
 by_cases hd:isDig c
 · exact hd
 · unfold shB at h
   rw [if_neg hd] at h
   split at h
   · exact absurd h (by decide)
   · subst h;exact ⟨by decide,by decide⟩
theorem shB_self (k:Nat) (c x:UInt8) (h:shB k c = x) (h1:x ≠ 57) (h2:x ≠ 43):c = x:=by
 unfold shB at h
 split at h
 · exact absurd h.symm h1
 · split at h
   · exact absurd h.symm h2
   · exact h
theorem shB_sign (c:UInt8) (h:shB 21 c = 43):c = 43∨c = 45:=by
 unfold shB at h
 split at h
 · exact absurd h (by decide)
 · split at h
   · rename_i h2;exact .inr (UInt8.toNat_inj.mp h2.2)
   · exact .inl h
def Shaped26 (l:List UInt8):Prop :=
 isDig (dig0 l)∧restL l = dig0 l :: (sl 1 3 l ++ [120,120,120] ++ sl 6 26 l)∧(∀ c ∈ sl 1 2 l,isDig c)∧l[2]? = some 45∧l[6]? = some 45∧(∀ c ∈ sl 7 11 l,isDig c)∧l[11]? = some 32∧(∀ c ∈ sl 12 14 l,isDig c)∧l[14]? = some 58∧(∀ c ∈ sl 15 17 l,isDig c)∧l[17]? = some 58∧(∀ c ∈ sl 18 20 l,isDig c)∧l[20]? = some 32∧(l[21]? = some 43∨l[21]? = some 45)∧(∀ c ∈ sl 22 24 l,isDig c)∧(∀ c ∈ sl 24 26 l,isDig c)
theorem shape_says (l:List UInt8) (h:l.length = 26) (hs:shL (restL l) = patL):Shaped26 l:=by
 obtain ⟨c0,c1,c2,c3,c4,c5,c6,c7,c8,c9,c10,c11,c12,c13,c14,c15,c16,c17,c18,c19,c20,c21,c22,c23,c24,c25,rfl⟩:=list26 l h
 have hsm:(dig0 [c0,c1,c2,c3,c4,c5,c6,c7,c8,c9,c10,c11,c12,c13,c14,c15,c16,c17,c18,c19,c20,c21,c22,c23,c24,c25]).toNat < 128:=by
  rcases Nat.lt_or_ge (dig0 [c0,c1,c2,c3,c4,c5,c6,c7,c8,c9,c10,c11,c12,c13,c14,c15,c16,c17,c18,c19,c20,c21,c22,c23,c24,c25]).toNat 128 with c | c
  · exact c
  · have h2:=(encL_great _ c).1
    have h3:=congrArg List.length hs
    rw [shL_len] at h3
    simp [restL,sl,patL] at h3
    omega
 have hr:restL [c0,c1,c2,c3,c4,c5,c6,c7,c8,c9,c10,c11,c12,c13,c14,c15,c16,c17,c18,c19,c20,c21,c22,c23,c24,c25] = dig0 [c0,c1,c2,c3,c4,c5,c6,c7,c8,c9,c10,c11,c12,c13,c14,c15,c16,c17,c18,c19,c20,c21,c22,c23,c24,c25] :: (sl 1 3 [c0,c1,c2,c3,c4,c5,c6,c7,c8,c9,c10,c11,c12,c13,c14,c15,c16,c17,c18,c19,c20,c21,c22,c23,c24,c25] ++ [120,120,120] ++ sl 6 26 [c0,c1,c2,c3,c4,c5,c6,c7,c8,c9,c10,c11,c12,c13,c14,c15,c16,c17,c18,c19,c20,c21,c22,c23,c24,c25]):=by
  unfold restL
  rw [encL_small _ hsm]
  rfl
 refine ⟨?_,hr,?_⟩
 all_goals
  rw [hr] at hs
  generalize dig0 [c0,c1,c2,c3,c4,c5,c6,c7,c8,c9,c10,c11,c12,c13,c14,c15,c16,c17,c18,c19,c20,c21,c22,c23,c24,c25] = d at *
  simp only [sl,List.take_succ_cons,List.take_zero,List.drop_succ_cons,List.drop_zero,List.cons_append,List.nil_append,shL,List.mapIdx_cons,List.mapIdx_nil,patL,List.cons.injEq,Nat.zero_add,Nat.reduceAdd] at hs
  obtain ⟨k0,k1,k2,_,_,_,k6,k7,k8,k9,k10,k11,k12,k13,k14,k15,k16,k17,k18,k19,k20,k21,k22,k23,k24,k25,_⟩:=hs
 · exact shB_dig 0 d k0
 · have m2:=shB_self _ _ _ k2 (by decide) (by decide)
   have m6:=shB_self _ _ _ k6 (by decide) (by decide)
   have m11:=shB_self _ _ _ k11 (by decide) (by decide)
   have m14:=shB_self _ _ _ k14 (by decide) (by decide)
   have m17:=shB_self _ _ _ k17 (by decide) (by decide)
   have m20:=shB_self _ _ _ k20 (by decide) (by decide)
   have m21:=shB_sign _ k21
   have d1:=shB_dig _ _ k1
   have d7:=shB_dig _ _ k7
   have d8:=shB_dig _ _ k8
   have d9:=shB_dig _ _ k9
   have d10:=shB_dig _ _ k10
   have d12:=shB_dig _ _ k12
   have d13:=shB_dig _ _ k13
   have d15:=shB_dig _ _ k15
   have d16:=shB_dig _ _ k16
   have d18:=shB_dig _ _ k18
   have d19:=shB_dig _ _ k19
   have d22:=shB_dig _ _ k22
   have d23:=shB_dig _ _ k23
   have d24:=shB_dig _ _ k24
   have d25:=shB_dig _ _ k25
   simp [sl,m2,m6,m11,m14,m17,m20,d1,d7,d8,d9,d10,d12,d13,d15,d16,d18,d19,d22,d23,d24,d25]
   exact m21
end Go.Proofs.YtfdmdmahddjjmaaGreatDoor.St
namespace Go.Proofs.YtfdmdmahddjjmaaGreatDoor.St
open Go.RowKit Own
theorem numI_up (l:List UInt8):∀ n k:Nat,n < 10 ^ k→(∀ c ∈ l,isDig c)→∃ r:Nat,numI n l = r∧r < 10 ^ (k + l.length):=by
 induction l with
 | nil=>intro n k h _;exact ⟨n,rfl,by simpa using h⟩
 | cons c l ih =>
  intro n k h hd
  have hc:=hd c (by simp)
  unfold isDig at hc
  have h1:10 * n + (c.toNat - 48) < 10 ^ (k + 1):=by rw [Nat.pow_succ];omega
  obtain ⟨r,hr,hr2⟩:=ih _ _ h1 (fun x hx=>hd x (by simp [hx]))
  refine ⟨r,?_,by rw [List.length_cons];rwa [show k + (l.length + 1) = k + 1 + l.length by omega]⟩
  rw [← hr]
  show numI (10 * n + ((c.toNat:Int) - 48)) l = _
  congr 1
  omega
theorem numI_rng (l:List UInt8) (h:l.length ≤ 8) (hd:∀ c ∈ l,isDig c):0 ≤ numI 0 l∧numI 0 l ≤ 100000000:=by
 obtain ⟨r,hr,hr2⟩:=numI_up l 0 0 (by decide) hd
 have:=Nat.pow_le_pow_right (show 0 < 10 by omega) (show 0 + l.length ≤ 8 by omega)
 have h8:(10:Nat) ^ 8 = 100000000:=rfl
 rw [show ((0:Nat):Int) = 0 from rfl] at hr
 omega
theorem secPair_rng (y m d h mi s:Int):-40000000000 ≤ (secPair y m d h mi s).1∧(secPair y m d h mi s).1 ≤ 40000000000:=by
 unfold secPair
 split
 · rename_i hv
   obtain ⟨v0,v1,v2,v3,v4,v5,v6,v7,v8,v9,v10,v11⟩:=hv
   have hml:=Date.mlen_rng y m
   have hdb1:=Date.dby_mono (show 1999 ≤ y by omega)
   have hdb2:=Date.dby_mono (show y ≤ 2137 by omega)
   rw [show Date.dby 1999 = -365 by decide] at hdb1
   rw [show Date.dby 2137 = 50039 by decide] at hdb2
   have hcr:=Date.cum_rng y m (by omega) (by omega)
   show -40000000000 ≤ secsOf y m d h mi s∧secsOf y m d h mi s ≤ 40000000000
   unfold secsOf
   omega
 · exact ⟨by decide,by decide⟩
theorem str_toList (l:List UInt8):(str l).toList = l:=ByteArray.toList_mk l
attribute [local go_sem] str_toList str_size ByteArray.size_append
set_option maxHeartbeats 400000 in
theorem parse_ok (l:List UInt8) (m:Int) (w:World) (hm:w.cell? ⟨0,0,none⟩ = some (.int .i64 m)) (h:l.length = 26) (h0:l.headD 0 ≠ 48) (hL:Lens w) (hg:3 < w.heap.size) :
  Calls Tryz.prog 96 #[.string (str l)] w fun e w'=>e = .returned (parseV (if monI l < 0∨0 < monI l % 3∨shL (restL l) ≠ patL then (0,80) else momP ((secsP l).1 + offI l) ((secsP l).2 && zoneB l)))∧Below w.heap.size w w':=by
 have hsz:=str_size l
 have e1:((l.length:Int) == 26) = true:=by simp;omega
 have sl3:=str_sl l 3 6
 have hmon:Lib.index monLit.data.toList (str (sl 3 6 l)).data.toList = monI l:=rfl
 have hmr:-1 ≤ monI l∧monI l ≤ 36:=⟨Lib.index_ge _ _,by
  rcases Lib.index_spec monLit.data.toList (sl 3 6 l) with ⟨h,_⟩ | ⟨i,h1,h2,_⟩
  · unfold monI;omega
  · unfold monI;rw [h1];have:monLit.data.toList.length = 36:=rfl;omega⟩
 have hidx:∀ w':World,w'.cell? ⟨0,0,none⟩ = some (.int .i64 m)→Calls Tryz.prog 124 #[.string monLit,.string (str (sl 3 6 l))] w' fun e w2=>e = .returned (.int .i64 (monI l))∧w' = w2:=by
  intro w' hm'
  exact (Tryz.strings_Index monLit _ m w' (by decide) hm').mono fun _ _ ⟨he,hw⟩=>⟨he,hw.symm⟩
 obtain ⟨c,l',hl⟩:∃ c l',l = c :: l':=by
  cases l with
  | nil=>simp at h
  | cons c l'=>exact ⟨c,l',rfl⟩
 have e2:((c.toNat:Int) == 48) = false:=by
  rw [hl] at h0
  simp at h0 ⊢
  intro h2
  exact h0 (UInt8.toNat_inj.mp (by simpa using (by omega:c.toNat = 48)))
 have hix:∀ h,(str l)[0]'h = c:=by intro h;subst hl;rfl
 have hc0:l.headD 0 = c:=by subst hl;rfl
 have HL:=hid hl
 clear hl
 have hd0:dig0 l = if c = 32 then 48 else c:=by unfold dig0;rw [hc0]
 obtain ⟨s,hs⟩:∃ s,s = str l:=⟨_,rfl⟩
 rw [← hs] at hsz hix sl3
 rw [← hs]
 have HS:=hid hs
 clear hs
 have HD0:=hid hd0
 clear hd0 hc0 h0 hmon
 obtain ⟨mi,hmi⟩:∃ mi,mi = monI l:=⟨_,rfl⟩
 rw [← hmi] at hidx hmr ⊢
 obtain ⟨out,hout⟩:∃ out,out = (if mi < 0∨0 < mi % 3∨shL (restL l) ≠ patL then ((0:Int),(80:Int)) else momP ((secsP l).1 + offI l) ((secsP l).2 && zoneB l)):=⟨_,rfl⟩
 rw [← hout]
 have HMI:=hid hmi
 have HOUT:=hid hout
 clear hmi hout
 go_enter Tryz.func96,Tryz.ntmps96
 go_upto_if 26 with ((go_at_call 124;refine (hidx _ hm).mono ?_;rintro e w1 ⟨rfl,rfl⟩))
 go_cut [5] (fun v5 wx=>v5 = .int .u8 (dig0 l).toNat∧w = wx)
 case first =>
  by_cases hd:c = 32
  · have hc:((c.toNat:Int) == 32) = true:=by rw [hd];rfl
    have hday:dig0 l = 48:=by rw [HD0.out,if_pos hd]
    go_wp2
    go_meet
    case rel=>exact ⟨by rw [hday];rfl,rfl⟩
  · have hc:((c.toNat:Int) == 32) = false:=by
      simp
      intro h2
      exact hd (UInt8.toNat_inj.mp (by simpa using (by omega:c.toNat = 32)))
    have hday:dig0 l = c:=by rw [HD0.out,if_neg hd]
    go_wp2
    go_meet
    case rel=>exact ⟨by rw [hday],rfl⟩
 case rest =>
 obtain ⟨rfl,rfl⟩:=hcut
 have hen:Utf8.encode (dig0 l).toNat = str (encL (dig0 l)):=by simp [encL,str]
 have hel:=encL_len (dig0 l)
 have sl1:s.extract 1 3 = str (sl 1 3 l):=by rw [HS.out];exact str_sl l 1 3
 have sl6:s.extract 6 26 = str (sl 6 26 l):=by rw [HS.out];exact str_sl l 6 26
 have n1:(sl 1 3 l).length = 2:=sl_len l 1 3 (by omega)
 have n6:(sl 6 26 l).length = 20:=sl_len l 6 26 (by omega)
 go_upto_region 8 with fail
 go_cut [6] (fun v6 wx=>v6 = .string (str (restL l))∧Below w.heap.size w wx)
 case first =>
  go_quiet (fail)
  go_step
  go_step
  go_meet
  case rel =>
   refine ⟨congrArg Value.string ?_,below_drewN (Below.refl _ _) _⟩
   rw [show ({ data:=#[120,120,120] }:ByteArray) = str [120,120,120] from rfl,str_append,str_append,str_append]
   rfl
 case rest =>
 obtain ⟨rfl,hb⟩:=hcut
 obtain ⟨w2,hw2⟩:∃ w2:World,w2 = wc:=⟨_,rfl⟩
 rw [← hw2] at hb
 rw [← hw2]
 clear hw2
 have hL2:Lens w2:=hL.below hb hg
 have hg2:3 < w2.heap.size:=by have:=hb.size;omega
 have hrl:(restL l).length ≤ 64:=by simp [restL];omega
 clear hen hel n1 n6 sl1 sl6 sl3
 by_cases c1:mi < 0
 · have e3:decide (mi < 0) = true:=decide_eq_true c1
   have ho:out = (0,80):=by rw [HOUT.out,if_pos (.inl c1)]
   clear hmr c1
   go_wp2
   exact bodyPost_ret (v:=.tuple #[.int .i64 0,.int .i64 80]) (by simp [results,Tryz.results96,go_sem]) rfl ⟨by rw [ho];rfl,hb⟩
 have e3:decide (mi < 0) = false:=decide_eq_false c1
 by_cases c2:0 < mi % 3
 · have e4:decide (0 < mi.tmod 3) = true:=by rw [Int.tmod_eq_emod_of_nonneg (by omega)];exact decide_eq_true c2
   have ho:out = (0,80):=by rw [HOUT.out,if_pos (.inr (.inl c2))]
   clear c1 c2
   go_wp2
   exact bodyPost_ret (v:=.tuple #[.int .i64 0,.int .i64 80]) (by simp [results,Tryz.results96,go_sem]) rfl ⟨by rw [ho];rfl,hb⟩
 have e4:decide (0 < mi.tmod 3) = false:=by rw [Int.tmod_eq_emod_of_nonneg (by omega)];exact decide_eq_false c2
 by_cases c3:shL (restL l) ≠ patL
 · have e5:(shL (restL l) == [57,57,45,120,120,120,45,57,57,57,57,32,57,57,58,57,57,58,57,57,32,43,57,57,57,57]) = false:=by
     rw [beq_eq_false_iff_ne]
     exact c3
   have hsh:∀ w',Calls Tryz.prog 125 #[.string (str (restL l))] w' fun e w1=>e = .returned (.string (str (shL (restL l))))∧Below w'.heap.size w' w1:=fun w'=>shape_any _ w' hrl
   have ho:out = (0,80):=by rw [HOUT.out,if_pos (.inr (.inr c3))]
   clear HOUT
   clear c3
   generalize shL (restL l) = sh at *
   go_wp2_with ((go_at_call 125;refine (hsh _).mono ?_;rintro e w3 ⟨rfl,hb3⟩))
   exact bodyPost_ret (v:=.tuple #[.int .i64 0,.int .i64 80]) (by simp [results,Tryz.results96,go_sem]) rfl ⟨by rw [ho];rfl,below_then hb hb3⟩
 have c3':shL (restL l) = patL:=Decidable.byContradiction c3
 have e5:(shL (restL l) == [57,57,45,120,120,120,45,57,57,57,57,32,57,57,58,57,57,58,57,57,32,43,57,57,57,57]) = true:=by
  rw [c3'];rfl
 have ho:out = momP ((secsP l).1 + offI l) ((secsP l).2 && zoneB l):=by
  rw [HOUT.out,if_neg (by rintro (h | h | h);exact c1 h;exact c2 h;exact h c3')]
 have hsh:∀ w',Calls Tryz.prog 125 #[.string (str (restL l))] w' fun e w1=>e = .returned (.string (str (shL (restL l))))∧Below w'.heap.size w' w1:=fun w'=>shape_any _ w' hrl
 obtain ⟨z0,z1,z2,-,-,z7,-,z12,-,z15,-,z18,-,zs,z22,z24⟩:=shape_says l h c3'
 have hrl2:(restL l).length = 26:=by rw [← shL_len,c3'];rfl
 have zr:∀ c ∈ sl 0 2 (restL l),isDig c:=by
  have e:sl 0 2 (restL l) = dig0 l :: sl 1 2 l:=by
   rw [z1]
   obtain ⟨a0,l0,rfl,h0⟩:=uncons l h
   obtain ⟨a1,l1,rfl,h1⟩:=uncons l0 h0
   simp [sl]
  rw [e]
  intro x hx
  rcases List.mem_cons.mp hx with h | h
  · rw [h];exact z0
  · exact z2 x h
 have mi0:0 ≤ mi∧mi ≤ 36:=by omega
 have MI0:=hid mi0
 clear HOUT c1 c2 c3 z0 z1 z2 mi0
 have n7:(sl 7 11 l).length ≤ 8:=by rw [sl_len _ _ _ (by omega)];omega
 have n12:(sl 12 14 l).length ≤ 8:=by rw [sl_len _ _ _ (by omega)];omega
 have n15:(sl 15 17 l).length ≤ 8:=by rw [sl_len _ _ _ (by omega)];omega
 have n18:(sl 18 20 l).length ≤ 8:=by rw [sl_len _ _ _ (by omega)];omega
 have n22:(sl 22 24 l).length ≤ 8:=by rw [sl_len _ _ _ (by omega)];omega
 have n24:(sl 24 26 l).length ≤ 8:=by rw [sl_len _ _ _ (by omega)];omega
 have nr:(sl 0 2 (restL l)).length ≤ 8:=by rw [sl_len _ _ _ (by omega)];omega
 have HO:=hid ho
 have ZS:=hid zs
 clear ho zs c3'
 clear hsh
 have s7:s.extract 7 11 = str (sl 7 11 l):=by rw [HS.out];exact str_sl l 7 11
 have s12:s.extract 12 14 = str (sl 12 14 l):=by rw [HS.out];exact str_sl l 12 14
 have s15:s.extract 15 17 = str (sl 15 17 l):=by rw [HS.out];exact str_sl l 15 17
 have s18:s.extract 18 20 = str (sl 18 20 l):=by rw [HS.out];exact str_sl l 18 20
 have s22:s.extract 22 24 = str (sl 22 24 l):=by rw [HS.out];exact str_sl l 22 24
 have s24:s.extract 24 26 = str (sl 24 26 l):=by rw [HS.out];exact str_sl l 24 26
 have srr:(str (restL l)).extract 0 2 = str (sl 0 2 (restL l)):=str_sl _ 0 2
 generalize hq7:sl 7 11 l = q7 at *
 generalize hq12:sl 12 14 l = q12 at *
 generalize hq15:sl 15 17 l = q15 at *
 generalize hq18:sl 18 20 l = q18 at *
 generalize hq22:sl 22 24 l = q22 at *
 generalize hq24:sl 24 26 l = q24 at *
 generalize hqr:sl 0 2 (restL l) = qr at *
 have HQ:=hid (And.intro hq7 (And.intro hq12 (And.intro hq15 (And.intro hq18 (And.intro hq22 (And.intro hq24 hqr))))))
 clear hq7 hq12 hq15 hq18 hq22 hq24 hqr
 go_upto_region 11 with ((go_at_call 125;refine (shape_any _ _ hrl).mono ?_;rintro e w3 ⟨rfl,hb3⟩))
 go_cut [7,8] (fun v7 v8 wx=>v7 = .int .i64 (numI 0 (q22))∧v8 = .int .i64 (numI 0 (q24))∧Below w3.heap.size w3 wx)
 case first =>
  go_quiet ((go_at_call 126;exact Calls.quiet_of_same ((number_any _ _ (by assumption) (by assumption)).mono fun _ _ ⟨he,hw⟩=>⟨he,hw.symm⟩)))
  go_step
  go_step
  go_meet
  case rel=>exact ⟨rfl,rfl,below_drewN (Below.refl _ _) _⟩
 case rest =>
 obtain ⟨rfl,rfl,hb4⟩:=hcut
 obtain ⟨w4,hw4⟩:∃ w4:World,w4 = wc:=⟨_,rfl⟩
 rw [← hw4] at hb4
 rw [← hw4]
 clear hw4
 have hb5:=below_then hb (below_then hb3 hb4)
 have hL4:Lens w4:=hL.below hb5 hg
 have hg4:3 < w4.heap.size:=by have:=hb5.size;omega
 clear hb hb3 hb4 hL2 hg2
 obtain ⟨q,hq⟩:∃ q,q = mi / 3:=⟨_,rfl⟩
 have hqt:mi.tdiv 3 = q:=by rw [Int.tdiv_eq_ediv_of_nonneg MI0.out.1,hq]
 have hqr:0 ≤ q∧q ≤ 12:=by have:=MI0.out;omega
 obtain ⟨mo,hmo⟩:∃ mo,mo = q + 1:=⟨_,rfl⟩
 obtain ⟨q2,hq2⟩:∃ q2,q2 = q:=⟨_,rfl⟩
 have x1:IntKind.i64.wrap q = q2:=by rw [hq2];exact IntWalk.i64_in _ (by omega)
 have x2:IntKind.i64.wrap (q2 + 1) = mo:=by rw [hmo,hq2];exact IntWalk.i64_in _ (by omega)
 have HQ3:=hid (And.intro hq hmo)
 clear hq hmo hq2 hqr hmr e3 e4
 rcases hsp:secPair (numI 0 q7) mo (numI 0 qr) (numI 0 q12) (numI 0 q15) (numI 0 q18) with ⟨sn,sok⟩
 have hsec:=fun w' h1 h2=>seconds_any (numI 0 q7) mo (numI 0 qr) (numI 0 q12) (numI 0 q15) (numI 0 q18) 0 w' h1 h2
 rw [hsp] at hsec
 unfold time7 at hsec
 have HSP:=hid hsp
 clear hsp
 go_upto_region 12 with fail
 go_cut [9,10] (fun v9 v10 wx=>v9 = .int .i64 sn∧v10 = .bool sok∧Below w4.heap.size w4 wx)
 case first =>
  go_region_held3 (fun w'=>True)
   (trivial)
   (first
     | (go_at_call 126;refine (number_any _ _ (by assumption) (by assumption)).mono ?_;rintro e w2 ⟨rfl,rfl⟩)
     | (go_at_call 127;refine (hsec w4.drew (fun j hj=>hL4 j hj) hg4).mono ?_;rintro e w2 ⟨rfl,hb2⟩))
  go_step
  go_step
  go_meet
  case rel=>exact ⟨rfl,rfl,below_then ((Below.refl _ _).drew) hb2⟩
 case rest =>
 obtain ⟨rfl,rfl,hb6⟩:=hcut
 obtain ⟨w6,hw6⟩:∃ w6:World,w6 = wc:=⟨_,rfl⟩
 rw [← hw6] at hb6
 rw [← hw6]
 clear hw6
 have hb7:=below_then hb5 hb6
 have bs:-40000000000 ≤ sn∧sn ≤ 40000000000:=by
  have:=secPair_rng (numI 0 q7) mo (numI 0 qr) (numI 0 q12) (numI 0 q15) (numI 0 q18)
  rw [HSP.out] at this
  exact this
 have b22:=numI_rng q22 (by assumption) (by assumption)
 have b24:=numI_rng q24 (by assumption) (by assumption)
 obtain ⟨sg,hsg⟩:∃ sg,l[21]? = some sg:=by
  rcases ZS.out with h | h
  · exact ⟨_,h⟩
  · exact ⟨_,h⟩
 have hi21:∀ h,s[21]'h = sg:=by
  intro h
  have e:=HS.out
  subst e
  have:(str l)[21]'h = l[21]'(by omega):=rfl
  rw [this]
  rw [List.getElem?_eq_getElem (by omega)] at hsg
  exact Option.some.inj hsg
 obtain ⟨g7,g12,g15,g18,g22,g24,gr⟩:=HQ.out
 have HQ4:∀ x:Int,x = offI l→momOf (sn + x) (sok && (decide (numI 0 q22 ≤ 14) && decide (numI 0 q24 ≤ 59))) = parseV out:=by
  intro x hx
  have e:secsP l = (sn,sok):=by
   unfold secsP
   rw [g7,g12,g15,g18,gr,← HMI.out,← HQ3.out.1,← HQ3.out.2]
   exact HSP.out
  have ez:zoneB l = (decide (numI 0 q22 ≤ 14) && decide (numI 0 q24 ≤ 59)):=by unfold zoneB;rw [g22,g24]
  rw [HO.out,e,ez,hx]
  rfl
 have hoff:offI l = if sg = 43 then -(numI 0 q22 * 3600 + numI 0 q24 * 60) else numI 0 q22 * 3600 + numI 0 q24 * 60:=by
  unfold offI
  rw [g22,g24,show l.getD 21 0 = sg by simp [List.getD,hsg]]
 clear g7 g12 g15 g18 g22 g24 gr
 have HOFF:=hid hoff
 have HH4:=hid HQ4
 clear hL hg hm hidx hb5 hL4 hg4 hb6 x1 x2 hqt hrl hrl2 hoff HQ4 hsg hsec s7 s12 s15 s18 s22 s24 srr n7 n12 n15 n18 n22 n24 nr z7 z12 z15 z18 z22 z24 zr hix e1 e2
 generalize numI 0 q22 = hh at *
 generalize numI 0 q24 = mm at *
 have hs26:s.size = 26:=by omega
 have hs21:21 < s.size:=by omega
 have hi22:=hi21 hs21
 clear hsz h hi21
 obtain ⟨o1,ho1⟩:∃ o1,o1 = hh * 3600 + mm * 60:=⟨_,rfl⟩
 have HO1:=hid ho1
 clear ho1
 go_upto_region 12 with fail
 go_cut [11] (fun v11 wx=>v11 = .int .i64 o1∧w6 = wx)
 case first =>
  go_wp2
  go_meet
  case rel=>exact ⟨by rw [HO1.out];first | done | go_num,rfl⟩
 case rest =>
 obtain ⟨rfl,rfl⟩:=hcut
 have bo:-1000000000000 ≤ offI l∧offI l ≤ 1000000000000:=by
  rw [HOFF.out];split <;> omega
 have hoff:=HOFF.out
 have bo1:0 ≤ o1∧o1 ≤ 1000000000000:=by rw [HO1.out];omega
 rw [← HO1.out] at hoff
 have HOFF2:=hid hoff
 have BO:=hid bo
 clear hoff b22 b24 HOFF bo
 go_upto_if 84 with fail
 clear hi22 hs21 hs26 e5
 go_cut [11] (fun v11 wx=>v11 = .int .i64 (offI l)∧w6 = wx)
 case first =>
  by_cases c:sg = 43
  · have hc:((sg.toNat:Int) == 43) = true:=by rw [c];rfl
    have ho2:=HOFF2.out
    rw [if_pos c] at ho2
    have HO2:=hid ho2
    clear c ho2
    go_wp2
    go_meet
    case rel=>exact ⟨by rw [HO2.out],rfl⟩
  · have hc:((sg.toNat:Int) == 43) = false:=by
      simp
      intro h2
      exact c (UInt8.toNat_inj.mp (by simpa using (by omega:sg.toNat = 43)))
    have ho2:=HOFF2.out
    rw [if_neg c] at ho2
    have HO2:=hid ho2
    clear c ho2
    go_wp2
    go_meet
    case rel=>exact ⟨by rw [HO2.out],rfl⟩
 case rest =>
 obtain ⟨rfl,rfl⟩:=hcut
 have bo:=BO.out
 have hsum:=HH4.out (offI l) rfl
 generalize offI l = oo at *
 obtain ⟨tt,htt⟩:∃ tt,tt = sn + oo:=⟨_,rfl⟩
 have y1:IntKind.i64.wrap (sn + oo) = tt:=by rw [htt];exact IntWalk.i64_in _ (by omega)
 rw [← htt] at hsum
 have HSUM:=hid hsum
 clear hsum htt bo bs bo1 HOFF2 HH4 BO HO1
 have fin:∀ b:Bool,b = (sok && (decide (hh ≤ 14) && decide (mm ≤ 59)))→Calls Tryz.prog 128 #[.int .i64 tt,.bool b] w6 fun e w1=>e = .returned (.tuple #[.int .i64 out.1,.int .i64 out.2])∧w6 = w1:=by
  intro b hb
  have:=moment_any tt b w6
  rw [hb,HSUM.out] at this
  rw [hb]
  exact this
 cases sok with
 | false =>
  have fin1:=fin false (by simp)
  clear fin
  go_wp2_with ((go_at_call 128;refine fin1.mono ?_;rintro e w7 ⟨rfl,rfl⟩))
  exact bodyPost_ret (v:=.tuple #[.int .i64 out.1,.int .i64 out.2]) (by simp [results,Tryz.results96,go_sem]) rfl ⟨rfl,hb7⟩
 | true =>
  by_cases d1:hh ≤ 14
  · by_cases d2:mm ≤ 59
    · have fin1:=fin true (by simp [d1,d2])
      have j1:decide (hh ≤ 14) = true:=decide_eq_true d1
      have j2:decide (mm ≤ 59) = true:=decide_eq_true d2
      clear fin d1 d2
      go_wp2_with ((go_at_call 128;refine fin1.mono ?_;rintro e w7 ⟨rfl,rfl⟩))
      exact bodyPost_ret (v:=.tuple #[.int .i64 out.1,.int .i64 out.2]) (by simp [results,Tryz.results96,go_sem]) rfl ⟨rfl,hb7⟩
    · have fin1:=fin false (by simp [d1,d2])
      have j1:decide (hh ≤ 14) = true:=decide_eq_true d1
      have j2:decide (mm ≤ 59) = false:=decide_eq_false d2
      clear fin d1 d2
      go_wp2_with ((go_at_call 128;refine fin1.mono ?_;rintro e w7 ⟨rfl,rfl⟩))
      exact bodyPost_ret (v:=.tuple #[.int .i64 out.1,.int .i64 out.2]) (by simp [results,Tryz.results96,go_sem]) rfl ⟨rfl,hb7⟩
  · have fin1:=fin false (by simp [d1])
    have j1:decide (hh ≤ 14) = false:=decide_eq_false d1
    clear fin d1
    go_wp2_with ((go_at_call 128;refine fin1.mono ?_;rintro e w7 ⟨rfl,rfl⟩))
    exact bodyPost_ret (v:=.tuple #[.int .i64 out.1,.int .i64 out.2]) (by simp [results,Tryz.results96,go_sem]) rfl ⟨rfl,hb7⟩
theorem parse_any (l:List UInt8) (m:Int) (w:World) (hm:w.cell? ⟨0,0,none⟩ = some (.int .i64 m)) (hL:Lens w) (hg:3 < w.heap.size) :
  Calls Tryz.prog 96 #[.string (str l)] w fun e w'=>e = .returned (parseV (parseP l))∧Below w.heap.size w w':=by
 unfold parseP
 by_cases h:l.length = 26
 · by_cases h0:l.headD 0 = 48
   · rw [if_pos (.inr h0)]
     exact (parse_zero l w h h0).mono fun _ _ ⟨he,hw⟩=>⟨he,hw ▸ Below.refl _ _⟩
   · rw [if_neg (by rintro (c | c);exact c h;exact h0 c)]
     exact parse_ok l m w hm h h0 hL hg
 · rw [if_pos (.inl h)]
   exact (parse_len l w h).mono fun _ _ ⟨he,hw⟩=>⟨he,hw ▸ Below.refl _ _⟩
end Go.Proofs.YtfdmdmahddjjmaaGreatDoor.St
