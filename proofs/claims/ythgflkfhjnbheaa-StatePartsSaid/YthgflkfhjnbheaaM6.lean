/- What the functions that the law reaches answer, for every argument. No condition but those in each statement. -/
import Derived.Test.YthgflkfhjnbheaaGRC
set_option linter.unusedSimpArgs false
set_option linter.unusedVariables false
set_option linter.unusedSectionVars false
set_option maxRecDepth 10000
namespace Go.Proofs.Ythgflkfhjnbheaa.G14
open Go Go.Proofs.Ythgflkfhjnbheaa.Eng
theorem back_len {b s w a r : Int} {S : StS} (fi : FitS S) (h : okT b s w a r S = true) : (encT b S).length = zIk (s * w).toNat (Bt.newN b) b.toNat ∧ rawT (s * w).toNat (Bt.newN b) b.toNat (encT b S) = S:=by
 unfold okT at h
 rw [Bool.and_eq_true] at h
 have gg:=zF5 h.1
 have G:=zDo gg.b1 gg.a1.2 (fun x hx=>(fi.s.2 x hx).u8) h.2
 exact ⟨zF9 G gg.a1.2,zJu G gg.b1.2 gg.a1.2⟩
theorem back1 {b s w a r : Int} {S : StS} (fi : FitS S) (h : okT b s w a r S = true) : decE b s w a r (encT b S) = 0 ∧ decA b s w a r (encT b S) = S ∧ ((encT b S).length : Int) = Gm.byB b s w a r:=by
 obtain ⟨h1,h2⟩:=back_len fi h
 unfold okT at h
 rw [Bool.and_eq_true] at h
 have hd : decOk b s w a r (encT b S) = true:=by
  unfold decOk
  rw [h.1,h2,decide_eq_true h1,h.2,decide_eq_true rfl]; rfl
 refine ⟨by unfold decE; rw [hd,h.1]; rfl,by unfold decA; rw [hd,h2]; rfl,?_⟩
 unfold Gm.byB
 rw [h.1,cond_true,zOy (zF5 h.1),h1]
theorem back3 {b s w a r : Int} {S T : StS} (fi : FitS S) (fi' : FitS T) (h : okT b s w a r S = true) (h' : okT b s w a r T = true) : decide (encT b S = encT b T) = decide (S = T):=by
 unfold okT at h h'
 rw [Bool.and_eq_true] at h h'
 have gg:=zF5 h.1
 have:=enc_inj (zDo gg.b1 gg.a1.2 (fun x hx=>(fi.s.2 x hx).u8) h.2) (zDo gg.b1 gg.a1.2 (fun x hx=>(fi'.s.2 x hx).u8) h'.2) gg.b1.2 gg.a1.2
 by_cases e : S = T
 ·rw [decide_eq_true e,decide_eq_true (this.2 e)]
 ·rw [decide_eq_false e,decide_eq_false (fun q=>e (this.1 q))]
end Go.Proofs.Ythgflkfhjnbheaa.G14
