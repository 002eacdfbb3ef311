/-
  ImaplineReads holds where what it reads is of bulk at most 1048576: whatever the input, where the listed variables of the library read as the program's own text lays them, the call answers true, and each argument reads behind it as it read before; and its tied card.
-/
import Derived.Test.YtfdmdmahddjjmaaGreatDoorPkLd
import Derived.Test.YtfdmdmahddjjmaaGreatDoorKReadsW
set_option linter.unusedVariables false
set_option linter.unusedSimpArgs false
set_option maxRecDepth 100000
namespace Go.Proofs.YtfdmdmahddjjmaaGreatDoor.imaplineReads
open Go.ChangeShapes Go.WideShapes Go.ChangeAt Go.RowKit Own
open Go.ChangeMaps (open_string shut_string)
theorem reads (os:Os) {H:Type} (enc:TypeId × Value→H):∃ places,DataW.whole enc Tryz.prog ((laidWorld os).forCall (fun _ _=>0) ⟨#[],#[.string ByteArray.empty],[]⟩).memory Tryz.f5.params.toList Rows.imaplineReadsSpec.vars false (#[.string ByteArray.empty]:Array Value).toList 8 = some ([.lit (.string [])],[],places):=⟨[],by kernel_rfl⟩
theorem lifted (os:Os) (started:os.Started) (H:Type) (enc:TypeId × Value→H) (F:Stop.Interp) :
  ReturnsInHanded {} Tryz.checked os 5 .any ((Rows.OpenSpec.upto Rows.imaplineReadsSpec).preRow enc Tryz.prog Tryz.f5 Rows.imaplineReadsUptoRow.domain false Rows.imaplineReadsUptoRow.laid) (((Rows.OpenSpec.upto Rows.imaplineReadsSpec).at F).post enc Tryz.prog Tryz.f5 false true false false):=by
 obtain ⟨places,hx⟩:=reads os enc
 refine returnsInHanded_of_row (C:=Tryz.checked) (s:=Rows.OpenSpec.upto Rows.imaplineReadsSpec) own started (by kernel_rfl) Tryz.func5
  (witness_row_atRef (enc:=enc) (C:=Tryz.checked) false (laidWorld os) #[.string ByteArray.empty] rfl (laid_refs os _) (laid_rest os _) (by kernel_rfl)
    (OpenSpec.preRow_of_cond 8 hx (by kernel_rfl) (fun k hk=>by cases hk;kernel_rfl) (by kernel_rfl) (laid_met os _))) ?_
 intro W base args ds gs before hval0 hW _ hcond hsz0 hL hshape _
 have hval:∀ (j:Nat) t v,Tryz.f5.params[j]? = some t→args[j]? = some v→Value.okWide Tryz.prog W .any base t v:=hval0
 have hW':=hW
 obtain ⟨p,q,hA0,hV0,rfl,hfz,hnd⟩:=hW
 have hA:DataW.TrodAll enc Tryz.prog W 0 (fun _=>true) true Tryz.f5.params.toList args.toList ds p:=hA0
 have hV:DataW.TrodVars enc Tryz.prog W (fun _=>true) [] gs q:=hV0
 rw [Tryz.params5] at hA hval
 obtain ⟨v0,vs0,d0,ds0,p0,q0,hargs,rfl,rfl,h0,r0⟩:=trodAll_cons hA
 obtain ⟨rfl,rfl,rfl⟩:=trodAll_nil r0
 obtain rfl:args = #[v0]:=by cases args;simp_all
 obtain ⟨rfl,rfl⟩:=trodVars_none hV
 have hk:Rows.uptoSmall H _ = true:=hcond _ rfl
 obtain ⟨a0,rfl,rfl,rfl,y0⟩:=open_string Tryz.underlying9 (hval 0 9 v0 rfl rfl) h0
 have z0:a0.data.toList.length ≤ 1048576:=Bulk.text hk (by simp)
 obtain ⟨l0,rfl⟩:=str_list a0
 have z0:l0.length ≤ 1048576:=z0
 have hgood:=good_of hL hshape
 clear hA0 hval0 hsz0
 refine (reads_walk l0 W hgood (by omega)).mono fun e W' ⟨he,bel⟩=>?_
 subst he
 exact ⟨_,rfl,_,_,_,[],_,[],hW',trodAll_mk1 (shut_bool Tryz.underlying4 _),(trodAll_cons_mk (shut_string Tryz.underlying9 y0) trodAll_mk0),rfl,bel.frame _,fun h=>by cases h⟩
theorem row_holds:Rows.ImaplineReadsUptoSaid :=
 OpenClaim.holds_of_cond 5 Tryz.f5 rfl rfl rfl rfl rfl rfl rfl ⟨rfl,rfl,rfl,rfl,rfl⟩ rfl rfl rfl rfl rfl (by kernel_rfl) Tryz.func5 (by kernel_rfl)
  (of_decide_eq_true (by kernel_rfl)) (by unfold Func.isWrapper;first | (rw [if_pos (by decide +kernel)];kernel_rfl) | (rw [if_neg (by decide +kernel)];exact ⟨rfl,rfl⟩))
  (fun os started H enc _ F=>by rw [OpenClaim.pre_eq_preRow];exact lifted os started H enc F)
theorem plain (f : FuncId) (fn : Func) (hf : Tryz.pinned.checked.prog.funcNamed "estafette/estafettelaw20.ImaplineReads" = some f) (hfn : Tryz.pinned.checked.prog.funcs[f]? = some fn) :
  true = Tryz.pinned.checked.prog.looks []∧∀ (j:Nat) t,fn.params[j]? = some t→Tryz.pinned.checked.prog.wantsStandIn t = false:=by
 obtain rfl : f = 5 := Option.some.inj ((show Tryz.prog.funcNamed "estafette/estafettelaw20.ImaplineReads" = some 5 by kernel_rfl).symm.trans hf) |>.symm
 obtain rfl:fn = Tryz.f5:=(Option.some.inj (Tryz.func5.symm.trans hfn)).symm
 refine ⟨by kernel_rfl,fun j t ht=>?_⟩
 rw [Tryz.params5] at ht
 have h3:t = 9:=by
  match j,ht with
  | 0,ht=>exact (by simpa using ht.symm)
  | _ + 1,ht=>simp at ht
 subst h3
 exact (show Tryz.prog.wantsStandIn 9 = false by kernel_rfl)
theorem card_holds:Rows.ImaplineReadsUptoCardSaid :=
 Claim7.holds_tied_plain_at .later [] _ _ _ _ row_holds (fun _ h=>by cases h) (by kernel_rfl) (fun _ h=>by cases h) imaplineReadsUpto_row_tie rfl ⟨rfl,rfl⟩ (by kernel_rfl) rfl plain (by kernel_rfl)
#print axioms card_holds
end Go.Proofs.YtfdmdmahddjjmaaGreatDoor.imaplineReads
namespace Go.Proofs.YtfdmdmahddjjmaaGreatDoor
theorem imaplineReads_holds:Rows.ImaplineReadsUptoCardSaid:=imaplineReads.card_holds
end Go.Proofs.YtfdmdmahddjjmaaGreatDoor
