/- The theorem: the last one of this text. -/
import Derived.Test.YtnpikfdkjmebjaaLF
import Derived.Test.YtnpikfdkjmebjaaRows
section
namespace Go.Proofs.Ytnpikfdkjmebjaa
open Go.AI Go.ChangeShapes Go.WideShapes Go.ChangeAt Go.RowKit
theorem own:ownKnob Try.prog.godebug=none:=by kernel_rfl
set_option maxRecDepth 100000 in
theorem JiY (os:Os) (started:os.Started) (H:Type) (enc:TypeId×Value->H) :
  ReturnsInHanded {} Try.checked os 3 .any (Rows.admitMatchesReferenceSpec.pre6 enc Try.prog Try.f3 Rows.admitMatchesReferenceRow.domain false) (Rows.admitMatchesReferenceSpec.post enc Try.prog Try.f3 false true false false):=by
 refine returnsInHanded_of_change (C:=Try.checked) own started (by kernel_rfl) Try.func3
  (ChangeSpec.witness6 (enc:=enc) (C:=Try.checked) false ⟨#[],#[.agg #[.int .u8 0,.int .u8 0,.slice none 0 0]],[]⟩ 8 (by kernel_rfl) (by kernel_rfl) (by kernel_rfl) (by kernel_rfl)) ?_
 intro W base args ds gs before hval0 hW hcnd _;have hval:∀ (j:Nat) t v,Try.f3.params[j]?=some t->args[j]?=some v->Value.okWide Try.prog W .any base t v:=hval0;have hW':=hW;obtain⟨p,q,hA0,hV,rfl,hfz,hnd⟩:=hW;have hA:DataW.TrodAll enc Try.prog W 0 (λ _=>true) true Try.f3.params.toList args.toList ds p:=hA0;have hlt:=hA.lt;rw[Try.params3]at hA hval;obtain⟨v0,vs0,d0,ds0,p0,q0,hargs,rfl,rfl,h0,r0⟩:=trodAll_cons hA;obtain⟨rfl,rfl,rfl⟩:=trodAll_nil r0;obtain rfl:args=#[v0]:=by cases args;simp_all
 obtain⟨rfl,rfl⟩:=trodVars_none hV;obtain⟨cs0,hc0,_⟩:=okWide_struct Try.underlying24 (hval 0 24 v0 rfl rfl);obtain⟨a0,k0,rep0⟩:=Jej hc0 h0 Jln;clear hA0 hval0;simp only[List.append_nil]at hW' hlt;obtain⟨n,hn⟩:=ZE a0 k0;refine(Jb5 (G4 hn) (Jek rep0 JiP)).mono λ e W' ⟨he,hg,hold⟩=>?_;subst he;exact⟨_,rfl,Ze (pv:=[]) hW' (λ _ _ _=>(trodAll_cons_mk (shut_bool Try.underlying4 _) trodAll_mk0)) (λ sp hsp=>trodAll_cons_mk (Jko (by kernel_rfl) (by kernel_rfl) (of_decide_eq_true (by kernel_rfl)) h0 (λ p hp=>hlt p (by simp[hp])) (λ p hp=>hsp p (by simp[hp])) hold) trodAll_mk0) (λ _ _=>rfl) (by simp) (hg _) hold (ok_one (by kernel_rfl) rfl (okWide_bool_mk Try.underlying4 _))⟩
theorem Jlp:Rows.admitMatchesReferenceRow.holds Try.pinned (OpenSpec.ofChange Rows.admitMatchesReferenceSpec):=
 OpenClaim.holds_of_wide 3 Try.f3 rfl rfl rfl rfl rfl rfl rfl ⟨rfl,rfl,rfl,rfl,rfl⟩ rfl rfl rfl rfl rfl (by kernel_rfl) Try.func3 (by kernel_rfl)
  (of_decide_eq_true (by kernel_rfl)) (by unfold Func.isWrapper;first|(rw[if_pos (by decide +kernel)];kernel_rfl)|(rw[if_neg (by decide +kernel)];exact⟨rfl,rfl⟩))
  (λ os started H enc _=>JiY os started H enc)
theorem admitMatchesReference_holds:Rows.AdmitMatchesReferenceSaid:=Jlp
end Go.Proofs.Ytnpikfdkjmebjaa
end
