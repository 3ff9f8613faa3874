/- What the functions that the law reaches answer, for every argument. No condition but those in each statement. -/
import Derived.Test.YtbmmnfeeapnhkaaGreatN
import Derived.Test.YtbmmnfeeapnhkaaGreatE5
import Derived.Test.YtbmmnfeeapnhkaaGreatE6
set_option linter.unusedSimpArgs false
set_option linter.unusedVariables false
set_option linter.unusedSectionVars false
set_option maxRecDepth 10000
section
namespace Go.Proofs.YtbmmnfeeapnhkaaGreat.G08.Gm
open Go Go.Proofs.YtbmmnfeeapnhkaaGreat.Eng
def btw (n a b : Int) : Bool:=decide (n ≥ a) && decide (n ≤ b)
theorem between (a b c : Int) (h : zAa) : (envL prog).call 97 [.int .i64 a,.int .i64 b,.int .i64 c] h = some (.bool (btw a b c),h):=by
 rw [c97]
 unfold b97 btw
 simp -implicitDefEqProofs (maxSteps:=5000000) only [go_sem,simprocAttr]
def geo (b s w a r : Int) : AV:=.agg [.int .i64 b,.int .i64 s,.int .i64 w,.int .i64 a,.int .i64 r]
def zD8 (b s w : Int) : Int:=IntKind.i64.wrap (IntKind.i64.wrap (IntKind.i64.wrap (10 + IntKind.i64.wrap (s * w)) + b) + IntKind.i64.wrap (8 * IntKind.i64.wrap (IntKind.i64.wrap (4 + IntKind.i64.wrap ((IntKind.i64.wrap (b + 7)).tdiv 8)) + b)))
theorem zSx (b s w a r : Int) (h : zAa) : (envL prog).call 98 [geo b s w a r] h = some (.int .i64 (zD8 b s w),h):=by
 rw [c98]
 unfold b98 geo zD8
 simp -implicitDefEqProofs (maxSteps:=5000000) only [go_sem,simprocAttr]
theorem bytesR (b s w a r : Int) (h : zAa) : (envL prog).call 43 [geo b s w a r] h = some (.int .i64 (zD8 b s w),h):=by
 rw [c43]
 unfold b43 geo zD8
 simp -implicitDefEqProofs (maxSteps:=5000000) only [go_sem,simprocAttr]
def zE6 (n : Int) : Int:=bif decide (n < 1) then 0 else IntKind.i64.wrap (IntKind.i64.wrap ((IntKind.i64.wrap (n - 1)).tdiv 48) + 1)
theorem countL (n : Int) (h : zAa) : (envL prog).call 96 [.int .i64 n] h = some (.int .i64 (zE6 n),h):=by
 rw [c96]
 unfold b96 zE6
 cases hn : decide (n < 1) <;> simp -implicitDefEqProofs (maxSteps:=5000000) only [go_sem,simprocAttr,hn]
theorem zSq (n : Int) (h : zAa) : (envL prog).call 44 [.int .i64 n] h = some (.int .i64 (zE6 n),h):=by
 rw [c44]
 unfold b44 zE6
 cases hn : decide (n < 1) <;> simp -implicitDefEqProofs (maxSteps:=5000000) only [go_sem,simprocAttr,hn]
def zKh (b s w a : Int) : Bool:=btw b 1 64 && btw s 1 8 && btw w 1 4 && btw a 0 200
theorem shapeR (b s w a r : Int) (h : zAa) : (envL prog).call 94 [geo b s w a r] h = some (.bool (zKh b s w a),h):=by
 rw [c94]
 unfold b94 geo zKh btw
 simp -implicitDefEqProofs (maxSteps:=5000000) only [go_sem,simprocAttr,Bool.and_assoc]
def goodB (b s w a r : Int) : Bool:=zKh b s w a && btw r (IntKind.i64.wrap (zE6 (zD8 b s w) + 2)) 256
theorem goodL (b s w a r : Int) (h : zAa) : (envL prog).call 45 [geo b s w a r] h = some (.bool (goodB b s w a r),h):=by
 rw [c45]
 unfold b45 goodB zKh
 have hb:=zSx b s w a r
 unfold geo at hb ⊢
 simp -implicitDefEqProofs (maxSteps:=5000000) only [go_sem,simprocAttr,between,hb,countL]
 cases btw b 1 64 <;> cases btw s 1 8 <;> cases btw w 1 4 <;> cases btw a 0 200 <;> simp -implicitDefEqProofs (maxSteps:=5000000) only [go_sem,simprocAttr]
theorem goodR (b s w a r : Int) (h : zAa) : (envL prog).call 34 [geo b s w a r] h = some (.bool (goodB b s w a r),h):=by
 rw [c34]
 unfold b34 goodB btw
 have hs:=shapeR b s w a r
 have hb:=bytesR b s w a r
 unfold geo at hb hs ⊢
 simp -implicitDefEqProofs (maxSteps:=5000000) only [go_sem,simprocAttr,hs,hb,zSq,Bool.and_assoc]
 cases zKh b s w a <;> simp -implicitDefEqProofs (maxSteps:=5000000) only [go_sem,simprocAttr,hs,hb,zSq]
def byB (b s w a r : Int) : Int:=bif goodB b s w a r then zD8 b s w else 0
theorem bytesG (b s w a r : Int) (h : zAa) : (envL prog).call 47 [geo b s w a r] h = some (.int .i64 (byB b s w a r),h):=by
 rw [c47]
 unfold b47 byB
 have h1:=goodL b s w a r
 have h2:=zSx b s w a r
 unfold geo at h1 h2 ⊢
 simp -implicitDefEqProofs (maxSteps:=5000000) only [go_sem,simprocAttr,h1,h2]
 cases goodB b s w a r <;> simp -implicitDefEqProofs (maxSteps:=5000000) only [go_sem,simprocAttr]
def at2 (r : Int) : Int:=IntKind.i64.wrap (2 + r)
def zO2 (b s w a r : Int) : Int:=zE6 (byB b s w a r)
theorem zR4 (b s w a r : Int) (h : zAa) : (envL prog).call 38 [geo b s w a r] h = some (.int .i64 (zO2 b s w a r),h):=by
 rw [c38]
 unfold b38 zO2
 have h1:=bytesG b s w a r
 unfold geo at h1 ⊢
 simp -implicitDefEqProofs (maxSteps:=5000000) only [go_sem,simprocAttr,h1,countL]
def at3 (b s w a r : Int) : Int:=IntKind.i64.wrap (at2 r + zO2 b s w a r)
def at4 (b s w a r : Int) : Int:=IntKind.i64.wrap (at3 b s w a r + IntKind.i64.wrap (s * w))
def zP0 (b s w a r : Int) : List AV:=[.int .i64 b,.int .i64 s,.int .i64 w,.int .i64 a,.int .i64 r]
theorem fastG (b s w a r : Int) (h : zAa) : (envL prog).call 126 [geo b s w a r] h = some (.fn 141 [.ptr h.length 0],h ++ [.rw (zP0 b s w a r)]):=by
 rw [c126]
 unfold b126 geo zP0
 simp -implicitDefEqProofs (maxSteps:=5000000) only [go_sem,simprocAttr,zCd,itr,itq]
theorem whereG1 (b s w a r : Int) (h : zAa) : (envL prog).call 95 [geo b s w a r,.int .i64 1] h = some (.int .i64 (bif goodB b s w a r then 2 else 0),h):=by
 rw [c95]
 unfold b95
 have h1:=goodL b s w a r
 have h2:=fastG b s w a r
 have h3:=zR4 b s w a r
 unfold geo at h1 h2 h3 ⊢
 unfold zP0 at h2
 rcases Bool.eq_false_or_eq_true (goodB b s w a r) with hg | hg
 ·rw [hg] at h1 ⊢
  simp -implicitDefEqProofs (maxSteps:=5000000) only [c141,b141,l141x0,zI9,zI8,zLf,zLd,go_sem,simprocAttr,zCd,itr,itq,h1,h2,h3]
 ·rw [hg] at h1 ⊢
  simp -implicitDefEqProofs (maxSteps:=5000000) only [c141,b141,l141x0,zI9,zI8,zLf,zLd,go_sem,simprocAttr,zCd,itr,itq,h1,h2,h3]
theorem whereG2 (b s w a r : Int) (h : zAa) : (envL prog).call 95 [geo b s w a r,.int .i64 2] h = some (.int .i64 (bif goodB b s w a r then at2 r else 0),h):=by
 rw [c95]
 unfold b95
 have h1:=goodL b s w a r
 have h2:=fastG b s w a r
 have h3:=zR4 b s w a r
 unfold geo at h1 h2 h3 ⊢
 unfold at2
 unfold zP0 at h2
 rcases Bool.eq_false_or_eq_true (goodB b s w a r) with hg | hg
 ·rw [hg] at h1 ⊢
  simp -implicitDefEqProofs (maxSteps:=5000000) only [c141,b141,l141x0,zI9,zI8,zLf,zLd,go_sem,simprocAttr,zCd,itr,itq,h1,h2,h3]
 ·rw [hg] at h1 ⊢
  simp -implicitDefEqProofs (maxSteps:=5000000) only [c141,b141,l141x0,zI9,zI8,zLf,zLd,go_sem,simprocAttr,zCd,itr,itq,h1,h2,h3]
theorem whereG4 (b s w a r : Int) (h : zAa) : (envL prog).call 95 [geo b s w a r,.int .i64 4] h = some (.int .i64 (bif goodB b s w a r then at4 b s w a r else 0),h):=by
 rw [c95]
 unfold b95
 have h1:=goodL b s w a r
 have h2:=fastG b s w a r
 have h3:=zR4 b s w a r
 unfold geo at h1 h2 h3 ⊢
 unfold at4 at3 at2
 unfold zP0 at h2
 rcases Bool.eq_false_or_eq_true (goodB b s w a r) with hg | hg
 ·rw [hg] at h1 ⊢
  simp -implicitDefEqProofs (maxSteps:=5000000) only [c141,b141,l141x0,zI9,zI8,zLf,zLd,go_sem,simprocAttr,zCd,itr,itq,h1,h2,h3]
 ·rw [hg] at h1 ⊢
  simp -implicitDefEqProofs (maxSteps:=5000000) only [c141,b141,l141x0,zI9,zI8,zLf,zLd,go_sem,simprocAttr,zCd,itr,itq,h1,h2,h3]
theorem ringG (b s w a r : Int) (h : zAa) : (envL prog).call 56 [geo b s w a r] h = some (.int .i64 (bif goodB b s w a r then 2 else 0),h):=by
 rw [c56]
 unfold b56
 have h1:=whereG1 b s w a r
 unfold geo at h1 ⊢
 simp -implicitDefEqProofs (maxSteps:=5000000) only [go_sem,simprocAttr,zCd,itr,itq,h1]
theorem homeG (b s w a r : Int) (h : zAa) : (envL prog).call 59 [geo b s w a r] h = some (.int .i64 (bif goodB b s w a r then at2 r else 0),h):=by
 rw [c59]
 unfold b59
 have h1:=whereG2 b s w a r
 unfold geo at h1 ⊢
 simp -implicitDefEqProofs (maxSteps:=5000000) only [go_sem,simprocAttr,zCd,itr,itq,h1]
theorem fastZ (b s w a r : Int) (h : zAa) : (envL prog).call 35 [geo b s w a r] h = some (.int .i64 (bif goodB b s w a r then at4 b s w a r else 0),h):=by
 rw [c35]
 unfold b35
 have h1:=whereG4 b s w a r
 unfold geo at h1 ⊢
 simp -implicitDefEqProofs (maxSteps:=5000000) only [go_sem,simprocAttr,zCd,itr,itq,h1]
theorem slowZ (b s w a r : Int) (h : zAa) : (envL prog).call 36 [geo b s w a r] h = some (.int .i64 (bif goodB b s w a r then IntKind.i64.wrap (b + a) else 0),h):=by
 rw [c36]
 unfold b36
 have h1:=goodL b s w a r
 unfold geo at h1 ⊢
 simp -implicitDefEqProofs (maxSteps:=5000000) only [go_sem,simprocAttr,zCd,itr,itq,h1]
 cases goodB b s w a r <;> simp -implicitDefEqProofs (maxSteps:=5000000) only [go_sem,simprocAttr,zCd,itr,itq]
def ofL (b s w a r : Int) : List AV:=bif goodB b s w a r then [.int .i64 (zD8 b s w),.int .i64 (zE6 (zD8 b s w)),.int .i64 (IntKind.i64.wrap (s * w)),.int .i64 2,.int .i64 (at2 r),.int .i64 (IntKind.i64.wrap (at2 r + zE6 (zD8 b s w))),.int .i64 (IntKind.i64.wrap (IntKind.i64.wrap (at2 r + zE6 (zD8 b s w)) + IntKind.i64.wrap (s * w))),.int .i64 (IntKind.i64.wrap (b + a))]
 else [.int .i64 0,.int .i64 0,.int .i64 0,.int .i64 0,.int .i64 0,.int .i64 0,.int .i64 0,.int .i64 0]
theorem ofR (b s w a r : Int) (h : zAa) : (envL prog).call 14 [geo b s w a r] h = some (.agg (ofL b s w a r),h):=by
 rw [c14]
 unfold b14 ofL at2
 have h1:=goodR b s w a r
 have h2:=bytesR b s w a r
 unfold geo at h1 h2 ⊢
 rcases Bool.eq_false_or_eq_true (goodB b s w a r) with hg | hg
 ·rw [hg] at h1 ⊢
  simp -implicitDefEqProofs (maxSteps:=5000000) only [go_sem,simprocAttr,zCd,itr,itq,h1,h2,zSq]
 ·rw [hg] at h1 ⊢
  simp -implicitDefEqProofs (maxSteps:=5000000) only [go_sem,simprocAttr,zCd,itr,itq,h1,h2,zSq]
theorem zIr {n a b : Int} (h : btw n a b = true) : a ≤ n ∧ n ≤ b:=by
 unfold btw at h
 simp only [Bool.and_eq_true,decide_eq_true_eq,ge_iff_le] at h
 exact h
theorem zTe {b s w a : Int} (h : zKh b s w a = true) : (1 ≤ b ∧ b ≤ 64) ∧ (1 ≤ s ∧ s ≤ 8) ∧ (1 ≤ w ∧ w ≤ 4) ∧ (0 ≤ a ∧ a ≤ 200):=by
 unfold zKh at h
 simp only [Bool.and_eq_true] at h
 exact ⟨zIr h.1.1.1,zIr h.1.1.2,zIr h.1.2,zIr h.2⟩
theorem zYr {b s w : Int} (hb : 1 ≤ b ∧ b ≤ 64) (hs : 1 ≤ s ∧ s ≤ 9) (hw : 1 ≤ w ∧ w ≤ 4) : (1 ≤ s * w ∧ s * w ≤ 36) ∧ zD8 b s w = 10 + s * w + b + 8 * (4 + (b + 7) / 8 + b):=by
 have h1 : s * w ≤ 9 * 4:=Int.mul_le_mul hs.2 hw.2 (by omega) (by omega)
 have h2 : 1 * 1 ≤ s * w:=Int.mul_le_mul hs.1 hw.1 (by omega) (by omega)
 refine ⟨⟨by omega,by omega⟩,?_⟩
 unfold zD8
 generalize s * w = n at *
 have e1 : IntKind.i64.wrap n = n:=zAq (by omega) (by omega)
 have e2 : IntKind.i64.wrap (b + 7) = b + 7:=zAq (by omega) (by omega)
 have e3 : (b + 7).tdiv 8 = (b + 7) / 8:=Int.tdiv_eq_ediv_of_nonneg (by omega)
 rw [e1,e2,e3]
 have e4 : IntKind.i64.wrap ((b + 7) / 8) = (b + 7) / 8:=zAq (by omega) (by omega)
 have e5 : IntKind.i64.wrap (10 + n) = 10 + n:=zAq (by omega) (by omega)
 rw [e4,e5]
 have e6 : IntKind.i64.wrap (4 + (b + 7) / 8) = 4 + (b + 7) / 8:=zAq (by omega) (by omega)
 have e7 : IntKind.i64.wrap (10 + n + b) = 10 + n + b:=zAq (by omega) (by omega)
 rw [e6,e7]
 have e8 : IntKind.i64.wrap (4 + (b + 7) / 8 + b) = 4 + (b + 7) / 8 + b:=zAq (by omega) (by omega)
 rw [e8]
 have e9 : IntKind.i64.wrap (8 * (4 + (b + 7) / 8 + b)) = 8 * (4 + (b + 7) / 8 + b):=zAq (by omega) (by omega)
 rw [e9]
 exact zAq (by omega) (by omega)
theorem zX1 {n : Int} (h1 : 1 ≤ n) (h2 : n ≤ 100000) : zE6 n = (n - 1) / 48 + 1:=by
 unfold zE6
 have e0 : decide (n < 1) = false:=by simp; omega
 rw [e0,cond_false]
 have e2 : IntKind.i64.wrap (n - 1) = n - 1:=zAq (by omega) (by omega)
 have e3 : (n - 1).tdiv 48 = (n - 1) / 48:=Int.tdiv_eq_ediv_of_nonneg (by omega)
 rw [e2,e3]
 have e4 : IntKind.i64.wrap ((n - 1) / 48) = (n - 1) / 48:=zAq (by omega) (by omega)
 rw [e4]
 exact zAq (by omega) (by omega)
structure Nums (b s w a r n y c : Int) : Prop where
 hb : 1 ≤ b ∧ b ≤ 64
 hs : 1 ≤ s ∧ s ≤ 8
 hw : 1 ≤ w ∧ w ≤ 4
 ha : 0 ≤ a ∧ a ≤ 200
 hn : 1 ≤ n ∧ n ≤ 32
 en : s * w = n
 ey : y = 10 + n + b + 8 * (4 + (b + 7) / 8 + b)
 eb : zD8 b s w = y
 ec : c = (y - 1) / 48 + 1
 ep : zE6 y = c
 hr : c + 2 ≤ r ∧ r ≤ 256
 g : goodB b s w a r = true
theorem nums {b s w a r : Int} (hg : goodB b s w a r = true) : ∃ n y c,Nums b s w a r n y c:=by
 have hg':=hg
 unfold goodB at hg
 simp only [Bool.and_eq_true] at hg
 obtain ⟨hb,hs,hw,ha⟩:=zTe hg.1
 obtain ⟨hn,hy⟩:=zYr hb ⟨hs.1,by omega⟩ hw
 have h1 : s * w ≤ 8 * 4:=Int.mul_le_mul hs.2 hw.2 (by omega) (by omega)
 have hc:=zX1 (n:=zD8 b s w) (by omega) (by omega)
 have hr:=zIr hg.2
 have e : IntKind.i64.wrap (zE6 (zD8 b s w) + 2) = zE6 (zD8 b s w) + 2:=zAq (by omega) (by omega)
 rw [e] at hr
 exact ⟨s * w,zD8 b s w,zE6 (zD8 b s w),hb,hs,hw,ha,⟨hn.1,by omega⟩,rfl,hy,rfl,hc,rfl,hr,hg'⟩
section
variable {b s w a r n y c : Int} (N : Nums b s w a r n y c) (h : zAa)
include N
theorem Nums.bytes : (envL prog).call 47 [geo b s w a r] h = some (.int .i64 y,h):=by
 rw [bytesG]; unfold byB; rw [N.g,cond_true,N.eb]
theorem Nums.pages : (envL prog).call 38 [geo b s w a r] h = some (.int .i64 c,h):=by
 rw [zR4]; unfold zO2 byB; rw [N.g,cond_true,N.eb,N.ep]
theorem Nums.ring : (envL prog).call 56 [geo b s w a r] h = some (.int .i64 2,h):=by rw [ringG,N.g,cond_true]
theorem Nums.e2 : at2 r = 2 + r:=zAq (by have:=N.hr; have:=N.ec; have:=N.ey; have:=N.hb; have:=N.hn; omega) (by have:=N.hr; omega)
theorem Nums.e3 : at3 b s w a r = 2 + r + c:=by
 unfold at3 zO2 byB
 rw [N.e2,N.g,cond_true,N.eb,N.ep]
 have:=N.hr; have:=N.ec; have:=N.ey; have:=N.hb; have:=N.hn
 exact zAq (by omega) (by omega)
theorem Nums.e4 : at4 b s w a r = 2 + r + c + n:=by
 unfold at4
 have:=N.hr; have:=N.ec; have:=N.ey; have:=N.hb; have:=N.hn
 rw [N.e3,N.en,show IntKind.i64.wrap n = n from zAq (by omega) (by omega)]
 exact zAq (by omega) (by omega)
theorem Nums.home : (envL prog).call 59 [geo b s w a r] h = some (.int .i64 (2 + r),h):=by rw [homeG,N.g,cond_true,N.e2]
theorem Nums.fast : (envL prog).call 35 [geo b s w a r] h = some (.int .i64 (2 + r + c + n),h):=by rw [fastZ,N.g,cond_true,N.e4]
theorem Nums.slow : (envL prog).call 36 [geo b s w a r] h = some (.int .i64 (b + a),h):=by
 have:=N.hb; have:=N.ha
 rw [slowZ,N.g,cond_true,show IntKind.i64.wrap (b + a) = b + a from zAq (by omega) (by omega)]
theorem Nums.wn : IntKind.i64.wrap (s * w) = n:=by
 have:=N.hn
 rw [N.en]; exact zAq (by omega) (by omega)
end
end Go.Proofs.YtbmmnfeeapnhkaaGreat.G08.Gm
end
section
namespace Go.Proofs.YtbmmnfeeapnhkaaGreat.G08
open Go Go.Proofs.YtbmmnfeeapnhkaaGreat.Eng
structure GmS where
 b : Int
 s : Int
 w : Int
 a : Int
 r : Int
deriving DecidableEq
def GmS.good (g : GmS) : Bool:=Gm.goodB g.b g.s g.w g.a g.r
def GmS.cells (g : GmS) : List AV:=[.int .i64 g.b,.int .i64 g.s,.int .i64 g.w,.int .i64 g.a,.int .i64 g.r]
def GmS.bytes (g : GmS) : Int:=10 + g.s * g.w + g.b + 8 * (4 + (g.b + 7) / 8 + g.b)
def GmS.pages (g : GmS) : Int:=(g.bytes - 1) / 48 + 1
def GmS.home (g : GmS) : Int:=2 + g.r
def GmS.fast (g : GmS) : Int:=2 + g.r + g.pages + g.s * g.w
def GmS.slow (g : GmS) : Int:=g.b + g.a
abbrev OpS:=Option (Int × List Int)
def oneS (r : RgS) : OpS → RgS × Int
 | some (i,z)=>r.write 0 i z
 | none=>r.flush 0
def opsS : RgS → List OpS → RgS × Int
 | r,[]=>(r,0)
 | r,o :: l=>if (oneS r o).2 = 0 then opsS (oneS r o).1 l else oneS r o
theorem zH8 : ∀ (l m : List OpS) (r : RgS),opsS r (l ++ m) = if (opsS r l).2 = 0 then opsS (opsS r l).1 m else opsS r l
 | [],m,r=>by simp [opsS]
 | o :: l,m,r=>by
  simp only [List.cons_append,opsS]
  by_cases h : (oneS r o).2 = 0
  ·simp only [if_pos h]; exact zH8 l m _
  ·simp only [if_neg h]
def zCi (from_ : Int) : Nat → List OpS
 | 0=>[]
 | n + 1=>some (from_,z64) :: zCi (from_ + 1) n
def padS (z : List Int) : List Int:=z ++ List.replicate (48 - z.length) 0
def zC8 (z : List Int) (i : Nat) : List Int:=padS ((z.drop (48 * i)).take 48)
def zB1 (n : Nat) : Nat:=(n + 47) / 48
def cutS (z : List Int) : List (List Int):=(List.range (zB1 z.length)).map (zC8 z)
def zEv (i : Int) (body : List Int) : List Int:=encS 72 0 i body
def zDi (h : Int) : Int → List (List Int) → List OpS
 | _,[]=>[]
 | i,x :: l=>some (h + i,zEv i x) :: zDi h (i + 1) l
structure PtS where
 g : GmS
 gen : Int
 at_ : Int
 seq : Int
deriving DecidableEq
def PtS.cells (p : PtS) : List AV:=p.g.cells ++ [.int .u32 p.gen,.int .i64 p.at_,.int .u32 p.seq]
def zKf (p : PtS) : List Int:=[82,86,84,49] ++ putS 2 p.g.b ++ putS 1 p.g.s ++ putS 1 p.g.w ++ putS 2 p.g.a ++ putS 2 p.g.r ++ putS 2 p.at_ ++ putS 4 p.seq ++ List.replicate 30 0
def zEk (p : PtS) : PgS:=⟨83,p.gen,0,zKf p⟩
def zC0 (p : PtS) : List Int:=encS 83 p.gen 0 (zKf p)
def sub (b : List Int) (i n : Nat) : Int:=getS ((b.drop i).take n)
def zEl (p : PgS) : PtS:=⟨⟨sub p.b 4 2,sub p.b 6 1,sub p.b 7 1,sub p.b 8 2,sub p.b 10 2⟩,p.s,sub p.b 12 2,sub p.b 14 4⟩
def ptOk (p : PgS) : Bool:=decide (zEk (zEl p) = p) && (zEl p).g.good && decide ((zEl p).at_ < (zEl p).g.r)
def zpt : PtS:=⟨⟨0,0,0,0,0⟩,0,0,0⟩
def ptS (z : List Int) : PtS × Bool:=if (decS z).2 = 0 then (zEl (decS z).1,ptOk (decS z).1) else (zpt,false)
def zOt (r : RgS) (g : GmS) : Bool:=decide ((r.a.length : Int) ≥ g.fast) && decide ((r.b.length : Int) ≥ g.slow)
def zJk (r : RgS) (i : Int) (z : List Int) (best : Option (Int × PtS)) : Option (Int × PtS) :=
 if ((ptS z).2 && zOt r (ptS z).1.g && (match best with | none=>true | some q=>decide ((ptS z).1.gen > q.2.gen))) = true then some (i,(ptS z).1) else best
def zC1 (r : RgS) : Option (Int × PtS) × Int :=
 if (r.read 0 0).2 = 0 then
  if (r.read 0 1).2 = 0 then (zJk r 1 (r.read 0 1).1 (zJk r 0 (r.read 0 0).1 none),0)
  else if (r.read 0 1).2 = 1 then (zJk r 0 (r.read 0 0).1 none,0)
  else (none,(r.read 0 1).2)
 else if (r.read 0 0).2 = 1 then (none,0)
 else (none,(r.read 0 0).2)
def zB2 (r : RgS) (h : Int) : Nat → Int → List (List Int) × Int
 | 0,_=>([],0)
 | k + 1,i =>
  if (r.read 0 (h + i)).2 = 0 then
   if (decS (r.read 0 (h + i)).1).2 = 0 ∧ (decS (r.read 0 (h + i)).1).1 = ⟨72,0,i,(decS (r.read 0 (h + i)).1).1.b⟩ then
    if (zB2 r h k (i + 1)).2 = 0 then ((decS (r.read 0 (h + i)).1).1.b :: (zB2 r h k (i + 1)).1,0) else ([],(zB2 r h k (i + 1)).2)
   else ([],11)
  else ([],(r.read 0 (h + i)).2)
def zDm (l : List (List Int)) (x : ImS) : List (List Int):=if x.i < (l.length : Int) then l.set x.i.toNat x.b else l
def zCx (l : List (List Int)) (t : List ImS) : List (List Int):=t.foldl zDm l
def zFb (T : List (List ImS)) : Int:=(T.map fun t=>(t.length : Int) + 1).sum
structure MtS where
 g : GmS
 gen : Int
 b : List Int
 home : List (List Int)
 place : Int
 tail : Int
 next : Int
 used : Int
def MtS.room (m : MtS) : Int:=m.g.r - m.used
def zBd (g : GmS) (b : List Int) : List OpS :=
 [some (0,z64),some (1,z64),none] ++ (zCi 2 g.r.toNat ++ (zDi g.home 0 (cutS b) ++ [none,some (0,zC0 ⟨g,1,0,1⟩),none]))
def mayS (r : RgS) (g : GmS) (b : List Int) : Bool:=g.good && zOt r g && decide ((b.length : Int) = g.bytes)
def zEg (g : GmS) (b : List Int) : MtS:=⟨g,1,b,cutS b,0,0,1,0⟩
def zF0 (r : RgS) : Option MtS × Int :=
 if (zC1 r).2 = 0 then
  match (zC1 r).1 with
  | none=>(none,11)
  | some (i,p) =>
   if (zB2 r p.g.home p.g.pages.toNat 0).2 = 0 then
    if (zBs r 2 p.g.r p.at_ p.seq).2 = 0 then
     (some ⟨p.g,p.gen,((zBs r 2 p.g.r p.at_ p.seq).1.t.foldl zCx (zB2 r p.g.home p.g.pages.toNat 0).1).flatten.take p.g.bytes.toNat,(zB2 r p.g.home p.g.pages.toNat 0).1,i,(zBs r 2 p.g.r p.at_ p.seq).1.at_,(zBs r 2 p.g.r p.at_ p.seq).1.seq,zFb (zBs r 2 p.g.r p.at_ p.seq).1.t⟩,0)
    else (none,(zBs r 2 p.g.r p.at_ p.seq).2)
   else (none,(zB2 r p.g.home p.g.pages.toNat 0).2)
 else (none,(zC1 r).2)
def zF6 : Int → List (List Int) → List (List Int) → List ImS
 | i,x :: l,y :: m=>(if y = x then [] else [⟨i,y⟩]) ++ zF6 (i + 1) l m
 | _,_,_=>[]
def zBl (was now : List Int) : List ImS:=zF6 0 (cutS was) (cutS now)
def zEt (h : Int) : Int → List (List Int) → List (List Int) → List OpS
 | i,x :: l,y :: m=>(if x = y then [] else [some (h + i,zEv i x)]) ++ zEt h (i + 1) l m
 | _,_,_=>[]
def zD2 (m : MtS) : PtS:=⟨m.g,IntKind.u32.wrap (m.gen + 1),m.tail,m.next⟩
def zAr (m : MtS) : List OpS:=zEt m.g.home 0 (cutS m.b) m.home ++ [none,some (1 - m.place,zC0 (zD2 m)),none]
def zDl (m : MtS) : MtS:={ m with gen:=IntKind.u32.wrap (m.gen + 1),place:=1 - m.place,used:=0,home:=cutS m.b }
def zCy (r : RgS) (m : MtS) (b : List Int) (l : List ImS) : RgS × MtS × Int :=
 if (zBu r 2 m.g.r m.tail m.next l).2.2 = 0 then
  ((zBu r 2 m.g.r m.tail m.next l).1,{ m with b:=b,tail:=(zBu r 2 m.g.r m.tail m.next l).2.1,next:=IntKind.u32.wrap (m.next + 1),used:=m.used + (l.length : Int) + 1 },0)
 else ((zBu r 2 m.g.r m.tail m.next l).1,m,(zBu r 2 m.g.r m.tail m.next l).2.2)
def zBi (r : RgS) (m : MtS) (b : List Int) : RgS × MtS × Int :=
 if b.length = m.b.length then
  if zBl m.b b = [] then (r,m,0)
  else if ((zBl m.b b).length : Int) + 1 > m.room then
   if (opsS r (zAr m)).2 = 0 then zCy (opsS r (zAr m)).1 (zDl m) b (zBl m.b b)
   else ((opsS r (zAr m)).1,m,(opsS r (zAr m)).2)
  else zCy r m b (zBl m.b b)
 else (r,m,1)
end Go.Proofs.YtbmmnfeeapnhkaaGreat.G08
end
section
namespace Go.Proofs.YtbmmnfeeapnhkaaGreat.G08
open Go Go.Proofs.YtbmmnfeeapnhkaaGreat.Eng
theorem shr8 (n : Int) (i : Nat) : binV .shr .none (.int .u64 (n / 256 ^ i)) (.int .u64 8) = some (.int .u64 (n / 256 ^ (i + 1))):=by
 show (if (8 : Int) < 0 then none else some (AV.int .u64 ((n / 256 ^ i).fdiv (2 ^ min (Int.toNat 8) 64)))) = _
 rw [if_neg (by omega),show ((2 : Int) ^ min (Int.toNat 8) 64) = 256 from rfl,Int.fdiv_eq_ediv_of_nonneg _ (by omega),div_pow']
noncomputable abbrev LP1 (l : Env → CT):=(envL prog).loop (runC (envL prog) (l (envL prog)))
def ByteY (y p : Nat) (n : Int) (k : Nat) (Y : Nat → zAa → Prop) : Prop :=
 ∀ i K,Y i K → i < k → K[p]? = some (.rw [.int .u64 (n / 256 ^ i)]) ∧ ∃ K',K'[p]? = some (.rw [.int .u64 (n / 256 ^ i)]) ∧ Y (i + 1) (K'.set p (.rw [.int .u64 (n / 256 ^ (i + 1))])) ∧ (envL prog).yield y [.int .u8 (n / 256 ^ i % 256)] K = some (.bool true,K')
set_option maxHeartbeats 2000000 in
theorem zSx {y p k : Nat} {n : Int} {Y : Nat → zAa → Prop} (hY : ByteY y p n k Y) (hk : k ≤ 4096) (x1 x3 : AV) : ∀ (m i : Nat) (K : zAa) (j6 j7 j8 j9 j10 j11 j12 j13 j14 : AV),Y i K → i + m = k →
  Outs (LP1 l143x0 [.yld y,x1,.ptr p 0,x3,.int .i64 (k : Int),.int .i64 (i : Int),j6,j7,j8,j9,j10,j11,j12,j13,j14] K) fun e t K'=>e = .exit 0 ∧ Y k K' ∧ ∃ fv : Nat → AV,t = [.yld y,x1,.ptr p 0,x3,.int .i64 (k : Int),(fv 5),(fv 6),(fv 7),(fv 8),(fv 9),(fv 10),(fv 11),(fv 12),(fv 13),(fv 14)]:=by
 intro m
 obtain ⟨L,hL⟩ : ∃ L,L = LP1 l143x0:=⟨_,rfl⟩
 have lo:=zBc hL
 rw [← hL]
 induction m with
 | zero =>
  intro i K j6 j7 j8 j9 j10 j11 j12 j13 j14 hK hi
  obtain rfl : i = k:=by omega
  have hd : decide ((i : Int) < (i : Int)) = false:=by simp
  rw [lo]
  unfold l143x0
  simp -implicitDefEqProofs (maxSteps:=5000000) only [go_sem,simprocAttr,hd,zAu,zAc]
  exact ⟨hK,exF rfl⟩
 | succ m ih =>
  intro i K j6 j7 j8 j9 j10 j11 j12 j13 j14 hK hi
  have hlt : i < k:=by omega
  have hd : decide ((i : Int) < (k : Int)) = true:=decide_eq_true (by omega)
  have e2 : IntKind.i64.wrap ((i : Int) + 1) = ((i + 1 : Nat) : Int):=by rw [zAq (by omega) (by omega)]; omega
  obtain ⟨hp,K',hp',hK',hy⟩:=hY i K hK hlt
  have cp:=zAj hp
  have cp':=zAj hp'
  have wr : zAz K' p 0 [.int .u64 (n / 256 ^ (i + 1))] = some (K'.set p (.rw [.int .u64 (n / 256 ^ (i + 1))])):=by
   rw [zAv hp',if_pos ⟨by simp,rfl⟩,zAx]; rfl
  rw [lo]
  unfold l143x0
  simp -implicitDefEqProofs (maxSteps:=5000000) only [go_sem,simprocAttr,hd,cp,cp',wrapu8,hy,zE8,shr8,zAw,wr,e2]
  exact ih (i + 1) _ _ _ _ _ _ _ _ _ _ hK' (by omega)
set_option maxHeartbeats 2000000 in
theorem bytesC {y p q k : Nat} {n : Int} {Y : Nat → zAa → Prop} (hY : ByteY y p n k Y) (hk : k ≤ 4096) {K : zAa} (hK : Y 0 K) (hq : cellsOf K q = some [.int .i64 (k : Int)]) :
  ∃ K',Y k K' ∧ (envL prog).call 143 [.yld y,.ptr q 0,.ptr p 0] K = trim K (some (.tup [],K')):=by
 have l0:=zSx hY hk (m:=k) (i:=0)
 rw [show ((0 : Nat) : Int) = 0 from rfl] at l0
 have o : Outs (runC (envL prog) (b143 (envL prog)) ([.yld y,.ptr q 0,.ptr p 0] ++ List.replicate (15 - [AV.yld y,.ptr q 0,.ptr p 0].length) .undef) K) fun e' t K'=>Y k K' ∧ fin [] (some (e',t,K')) = some (.tup [],K'):=by
  unfold b143
  generalize hQ : (fun (e' : Ex) (t : T) (K' : zAa)=>Y k K' ∧ fin [] (some (e',t,K')) = some (.tup [],K')) = Q
  simp -implicitDefEqProofs (maxSteps:=5000000) only [go_sem,simprocAttr,zA6,hq]
  unfold LP1 at l0
  generalize (envL prog).loop (runC (envL prog) (l143x0 (envL prog))) = L0 at l0 ⊢
  refine zBo (fun r=>zBr 0 r) (l0 _ _ _ _ _ _ _ _ _ _ _ _ hK (by omega)) ?_
  rintro e t H' ⟨rfl,hK',k,rfl⟩
  simp -implicitDefEqProofs (maxSteps:=5000000) only [go_sem,simprocAttr,zAc]
  subst hQ
  refine ⟨hK',?_⟩
  simp -implicitDefEqProofs (maxSteps:=5000000) only [go_sem,simprocAttr]
 obtain ⟨e',t,H',hr,hK',hf⟩:=o
 exact ⟨H',hK',by rw [c143,hr,hf]⟩
theorem bytes0 (n k : Int) (H : zAa) : (envL prog).call 130 [.int .u64 n,.int .i64 k] H = some (.fn 143 [.ptr (H.length + 1) 0,.ptr H.length 0],H ++ [.rw [.int .u64 n],.rw [.int .i64 k]]):=by
 rw [c130]
 unfold b130
 simp -implicitDefEqProofs (maxSteps:=5000000) only [go_sem,simprocAttr]
 exact zBa (by simp [AV.under,zAt])
end Go.Proofs.YtbmmnfeeapnhkaaGreat.G08
end
section
namespace Go.Proofs.YtbmmnfeeapnhkaaGreat.G08
open Go Go.Proofs.YtbmmnfeeapnhkaaGreat.Eng
noncomputable abbrev PutL (s : LoopState) (t : T) : ABlk:=.loop ⟨s,.normal,t,[16],zNn,zNl⟩
structure PutY (H : zAa) (n : Int) (k : Nat) (s : LoopState) (t : T) (i : Nat) (K : zAa) : Prop where
 old : ∀ b,b < H.length → K[b]? = H[b]?
 len : H.length + 4 ≤ K.length
 out : ∃ l,K[H.length]? = some (.rw [l]) ∧ GB K (H.length + 4) l (putS i n)
 num : K[H.length + 1]? = some (.rw [.int .u64 (n / 256 ^ i)])
 siz : K[H.length + 2]? = some (.rw [.int .i64 (k : Int)])
 lp : K[H.length + 3]? = some (PutL s t)
theorem under_of {H : zAa} {B : Nat} {l : AV} {zs : List Int} (g : GB H B l zs) : l.under H.length = true:=by
 rcases g with ⟨rfl,rfl⟩ | ⟨_,b,_,rfl,h⟩
 ·rfl
 ·have:=zAl h; simp [AV.under]; omega
set_option maxHeartbeats 4000000 in
theorem putRound {H : zAa} {n : Int} {k : Nat} {t : T} (ht : t.length = 22) (h5 : getT t 5 = .ptr H.length 0) {i : Nat} (hi : i ≤ 1000) {K : zAa} (y : PutY H n k .ready t i K) :
  ∃ K',PutY H n k .ready t (i + 1) (K'.set (H.length + 1) (.rw [.int .u64 (n / 256 ^ (i + 1))])) ∧ K'[H.length + 1]? = some (.rw [.int .u64 (n / 256 ^ i)]) ∧ (envL prog).yield (H.length + 3) [.int .u8 (n / 256 ^ i % 256)] K = some (.bool true,K'):=by
 obtain ⟨l,hl,g⟩:=y.out
 have kl:=y.len
 have g1 : GB (K.set (H.length + 3) (PutL .busy t)) (H.length + 4) l (putS i n):=g.fr (Fr.set (F:=(· = H.length + 3)) _ _ rfl) fun b hb=>by have:=g.out b hb; omega
 have l1 : (K.set (H.length + 3) (PutL .busy t)).length = K.length:=by simp
 have a0 : (K.set (H.length + 3) (PutL .busy t))[H.length]? = some (.rw [l]):=by rw [zAf _ _ _ _ (by omega)]; exact hl
 have a1 : (K.set (H.length + 3) (PutL .busy t))[H.length + 1]? = some (.rw [.int .u64 (n / 256 ^ i)]):=by rw [zAf _ _ _ _ (by omega)]; exact y.num
 have a2 : (K.set (H.length + 3) (PutL .busy t))[H.length + 2]? = some (.rw [.int .i64 (k : Int)]):=by rw [zAf _ _ _ _ (by omega)]; exact y.siz
 have a3 : (K.set (H.length + 3) (PutL .busy t))[H.length + 3]? = some (PutL .busy t):=zA4 _ _ _ (by omega)
 have ao : ∀ b,b < H.length → (K.set (H.length + 3) (PutL .busy t))[b]? = H[b]?:=fun b hb=>by rw [zAf _ _ _ _ (by omega)]; exact y.old b hb
 have st:=fun {ex : Ex} {t2 : T} {K2 : zAa} (hb : runC (envL prog) (zN3 (envL prog)) ((t.set 16 (.int .u8 (n / 256 ^ i % 256))).set 6 (.int .u8 (n / 256 ^ i % 256))) (K.set (H.length + 3) (PutL .busy t)) = some (ex,t2,K2)) (h2 : K2[H.length + 3]? = some (PutL .busy t)) =>
  zEz (P:=prog) (l:=H.length + 3) (args:=[.int .u8 (n / 256 ^ i % 256)]) (K:=K) (eaq104x0 _) (ebq104x0 _) y.lp rfl (t1:=(t.set 16 (.int .u8 (n / 256 ^ i % 256))).set 6 (.int .u8 (n / 256 ^ i % 256))) (by
   unfold zY1
   simp -implicitDefEqProofs (maxSteps:=5000000) only [go_sem,simprocAttr,zBq,zC2,ht,List.length_set,Nat.reduceLT]) hb h2
 generalize hK1 : K.set (H.length + 3) (PutL .busy t) = K1 at *
 obtain ⟨P,hP⟩ : ∃ P,P = K1.take (H.length + 4):=⟨_,rfl⟩
 have Pl : P.length = H.length + 4:=by rw [hP,List.length_take]; omega
 have gz : GB (K1 ++ [.rw [.int .u8 (n / 256 ^ i % 256)]]) P.length l (putS i n):=by rw [Pl]; exact g1.fr (Fr.adds ⟨_,rfl⟩ (fun _=>False)) fun _ _ h=>h
 obtain ⟨l',K2,ad,g2,fr,hu,ha⟩:=GB.more (d:=ty 1 false 1 [.int .u8 0]) rfl rfl (P:=P) (H:=K1 ++ [.rw [.int .u8 (n / 256 ^ i % 256)]]) ⟨K1.drop (H.length + 4) ++ [.rw [.int .u8 (n / 256 ^ i % 256)]],by rw [← List.append_assoc,hP,List.take_append_drop]⟩ gz (ys:=[n / 256 ^ i % 256]) (y:=.sl K1.length 0 1 1 1 true) (Src.block (by unfold cellsOf; simp [u8s]) rfl rfl) (by rw [zC7]; simp; omega)
 rw [← zOy,Pl] at g2
 have hu:=hu (by simp)
 have cl:=g2.cells
 have hk2 : ∀ b,b < H.length + 4 → K2[b]? = K1[b]?:=fun b hb=>by
  obtain ⟨G,rfl⟩:=ad
  rw [List.getElem?_append_left (by omega),hP,List.getElem?_take,if_pos hb]
 have l2 : K1.length < K2.length:=by
  have:=fr.1
  rw [List.length_append,List.length_singleton] at this
  omega
 have b0:=(hk2 H.length (by omega)).trans a0
 have wr : zAz K2 H.length 0 [l'] = some (K2.set H.length (.rw [l'])):=by
  rw [zAv b0,if_pos ⟨by simp,by simp [cl.2]⟩,zAx]; rfl
 have c0:=zAj a0
 have ob : Outs (runC (envL prog) (zN3 (envL prog)) ((t.set 16 (.int .u8 (n / 256 ^ i % 256))).set 6 (.int .u8 (n / 256 ^ i % 256))) K1) fun e _ K'=>e = .normal ∧ K' = K2.set H.length (.rw [l']):=by
  unfold zN3
  simp -implicitDefEqProofs (maxSteps:=5000000) only [go_sem,simprocAttr,zC2,ht,h5,List.length_set,Nat.reduceLT,c0,ha,zAw,cl.1,wr,zAc]
 obtain ⟨e,t2,K',er,rfl,rfl⟩:=ob
 have e1:=st er (by rw [zAf _ _ _ _ (by omega),hk2 _ (by omega)]; exact a3)
 simp only [Ex.isNormal,if_true] at e1
 have k0 : ((K2.set H.length (.rw [l'])).set (H.length + 3) (PutL .ready t))[H.length]? = some (.rw [l']):=by rw [zAf _ _ _ _ (by omega),zA4 _ _ _ (by omega)]
 refine ⟨(K2.set H.length (.rw [l'])).set (H.length + 3) (PutL .ready t),⟨fun b hb=>?_,by simp; omega,⟨l',?_,?_⟩,?_,?_,?_⟩,?_,e1.trans ?_⟩
 ·rw [zAf _ _ _ _ (by omega),zAf _ _ _ _ (by omega),zAf _ _ _ _ (by omega),hk2 _ (by omega)]; exact ao b hb
 ·rw [zAf _ _ _ _ (by omega)]; exact k0
 ·refine GB.fr (F:=fun b=>b < H.length + 4) ⟨by simp,fun b hb hn=>?_⟩ g2 fun b hb=>by have:=g2.out b hb; omega
  rw [zAf _ _ _ _ (by omega),zAf _ _ _ _ (by omega),zAf _ _ _ _ (by omega)]
 ·exact zA4 _ _ _ (by simp; omega)
 ·rw [zAf _ _ _ _ (by omega),zAf _ _ _ _ (by omega),zAf _ _ _ _ (by omega),hk2 _ (by omega)]; exact a2
 ·rw [zAf _ _ _ _ (by omega)]; exact zA4 _ _ _ (by simp; omega)
 ·rw [zAf _ _ _ _ (by omega),zAf _ _ _ _ (by omega),hk2 _ (by omega)]; exact a1
 ·refine zEb H.length (.rw [l]) (.rw [l']) l' hl k0 (by simp [ABlk.vals]) ?_ ?_
  ·cases h : l'.under K.length with
   | false=>rfl
   | true =>
    rw [zLy (by rw [List.length_append]; omega) h] at hu
    cases hu
  ·intro c hc
   simp only [ABlk.vals,List.mem_cons,List.not_mem_nil,or_false] at hc
   subst hc
   exact under_of g
set_option maxHeartbeats 4000000 in
theorem putC (n : Int) {k : Nat} (k1 : 1 ≤ k) (k2 : k ≤ 16) (H : zAa) : ∃ l K,Adds H K ∧ GB K H.length l (putS k n) ∧ (envL prog).call 104 [.int .u64 n,.int .i64 (k : Int)] H = some (l,K):=by
 have it : ∀ t : T,(t.length = 22 ∧ getT t 5 = .ptr H.length 0) → ∃ K,(envL prog).call 143 [.yld (H.length + 3),.ptr (H.length + 2) 0,.ptr (H.length + 1) 0] (H ++ [.rw [.nilSl],.rw [.int .u64 n],.rw [.int .i64 (k : Int)],PutL .ready t]) = some (.tup [],K) ∧ PutY H n k .ready t k K:=by
  rintro t ⟨ht,h5⟩
  have hY : ByteY (H.length + 3) (H.length + 1) n k (PutY H n k .ready t):=fun i K y hi=>by
   obtain ⟨K',y',yn,e⟩:=putRound ht h5 (by omega) y
   exact ⟨y.num,K',yn,y',e⟩
  have y0 : PutY H n k .ready t 0 (H ++ [.rw [.nilSl],.rw [.int .u64 n],.rw [.int .i64 (k : Int)],PutL .ready t]):=by
   refine ⟨fun b hb=>List.getElem?_append_left hb,by simp,⟨.nilSl,by simp,.inl ⟨rfl,rfl⟩⟩,?_,by simp,by simp⟩
   rw [Int.pow_zero,Int.ediv_one]; simp
  obtain ⟨K',yk,e⟩:=bytesC hY (by omega) (q:=H.length + 2) y0 (by unfold cellsOf; simp)
  refine ⟨K',e.trans ?_,yk⟩
  obtain ⟨l,hl,g⟩:=yk.out
  refine zEb H.length (.rw [.nilSl]) (.rw [l]) l (by simp) hl (by simp [ABlk.vals]) ?_ ?_
  ·rw [show (H ++ [.rw [.nilSl],.rw [.int .u64 n],.rw [.int .i64 (k : Int)],PutL .ready t]).length = H.length + 4 by simp]
   exact g.under fun e=>by have:=zC7 k n; rw [e] at this; simp at this; omega
  ·intro c hc
   simp only [ABlk.vals,List.mem_cons,List.not_mem_nil,or_false] at hc
   subst hc; rfl
 obtain ⟨KK,hKK⟩:=zJy it
 have e1:=fun t h1 h2=>(hKK t ⟨h1,h2⟩).1
 have e2:=fun t h1 h2=>(hKK t ⟨h1,h2⟩).2.lp
 obtain ⟨LL,hLL⟩:=zRq fun t ht=>(hKK t ht).2.out
 have e3 : ∀ t,t.length = 22 → getT t 5 = .ptr H.length 0 → cellsOf ((KK t).set (H.length + 3) (PutL .exhausted t)) H.length = some [LL t]:=fun t h1 h2=>by
  rw [zBj _ _ _ _ (by omega)]; exact zAj (hLL t ⟨h1,h2⟩).1
 have l0:=fun B=>bytes0 n (k : Int) (H ++ B)
 have d1 : decide ((k : Int) < 1) = false:=decide_eq_false (by omega)
 have d2 : decide ((k : Int) > 16) = false:=decide_eq_false (by omega)
 have o : Outs (runC (envL prog) (b104 (envL prog)) ([.int .u64 n,.int .i64 (k : Int)] ++ List.replicate (22 - [AV.int .u64 n,.int .i64 (k : Int)].length) .undef) H) fun e' t K=>(∃ t' : T,(t'.length = 22 ∧ getT t' 5 = .ptr H.length 0) ∧ K = (KK t').set (H.length + 3) (PutL .exhausted t') ∧ fin [.tmp 4] (some (e',t,K)) = some (LL t',K)):=by
  unfold b104
  generalize hQ : (fun (e' : Ex) (t : T) (K : zAa)=>∃ t' : T,(t'.length = 22 ∧ getT t' 5 = .ptr H.length 0) ∧ K = (KK t').set (H.length + 3) (PutL .exhausted t') ∧ fin [.tmp 4] (some (e',t,K)) = some (LL t',K)) = Q
  simp -implicitDefEqProofs (maxSteps:=5000000) only [go_sem,simprocAttr,d1,d2,l0,zDe,zF7,e1,zCr,e2,e3,zAc]
  subst hQ
  refine ⟨_,⟨rfl,rfl⟩,rfl,?_⟩
  simp -implicitDefEqProofs (maxSteps:=5000000) only [go_sem,simprocAttr]
 obtain ⟨e',t,K,hr,⟨t',ht,rfl,hf⟩⟩:=o
 obtain ⟨_,y⟩:=hKK t' ht
 obtain ⟨_,g⟩:=hLL t' ht
 have yl:=y.len
 have g2 : GB ((KK t').set (H.length + 3) (PutL .exhausted t')) H.length (LL t') (putS k n):=by
  have:=GB.fr (Fr.set (F:=(· = H.length + 3)) (KK t') (PutL .exhausted t') rfl) g fun b hb=>by have:=g.out b hb; omega
  rcases this with h | ⟨h0,b,hb,h⟩
  ·exact .inl h
  ·exact .inr ⟨h0,b,by omega,h⟩
 refine ⟨LL t',_,⟨((KK t').set (H.length + 3) (PutL .exhausted t')).drop H.length,?_⟩,g2,?_⟩
 ·conv=>lhs; rw [← List.take_append_drop H.length ((KK t').set (H.length + 3) (PutL .exhausted t'))]
  congr 1
  apply List.ext_getElem?
  intro i
  rw [List.getElem?_take]
  split
  ·rw [zAf _ _ _ _ (by omega)]; exact y.old i (by omega)
  ·rw [List.getElem?_eq_none (by omega)]
 ·rw [c104,hr,hf]
  exact zBa (g2.under fun e=>by have:=zC7 k n; rw [e] at this; simp at this; omega)
end Go.Proofs.YtbmmnfeeapnhkaaGreat.G08
end
section
namespace Go.Proofs.YtbmmnfeeapnhkaaGreat.G08
open Go Go.Proofs.YtbmmnfeeapnhkaaGreat.Eng
theorem shlU (z : Int) (i : Nat) : binV .shl .none (.int .u64 z) (.int .i64 ((8 * i : Nat) : Int)) = some (.int .u64 (IntKind.u64.wrap (z * 2 ^ min (8 * i) 64))):=by
 show (if ((8 * i : Nat) : Int) < 0 then none else some (AV.int .u64 (IntKind.u64.wrap (z * 2 ^ min (((8 * i : Nat) : Int)).toNat 64)))) = _
 rw [if_neg (by omega),Int.toNat_natCast]
theorem orU (x y : Int) : binV .or .none (.int .u64 x) (.int .u64 y) = some (.int .u64 (IntKind.u64.wrap ((BitVec.ofInt 64 x ||| BitVec.ofInt 64 y).toNat : Int))):=rfl
theorem xorU (x y : Int) : binV .xor .none (.int .u64 x) (.int .u64 y) = some (.int .u64 (IntKind.u64.wrap ((BitVec.ofInt 64 x ^^^ BitVec.ofInt 64 y).toNat : Int))):=rfl
section
variable {H : zAa} {w : AV} {zs : List Int} (b : BS H w zs) (hu : IsU8 zs)
include b hu
set_option maxHeartbeats 2000000 in
theorem getL (hl : zs.length ≤ 8) (x0 x1 x2 x6 x7 x8 x9 x25 : AV) : ∀ (m i : Nat) (j4 j5 j13 j14 j15 j16 j17 j18 j19 j20 j21 j22 j23 j24 : AV),i + m = zs.length →
  Outs (LP1 l139x0 [x0,x1,x2,.int .u64 (getS (zs.take i)),j4,j5,x6,x7,x8,x9,w,.int .i64 (zs.length : Int),.int .i64 (i : Int),j13,j14,j15,j16,j17,j18,j19,j20,j21,j22,j23,j24,x25] H) fun e t K'=>e = .exit 0 ∧ K' = H ∧ ∃ k : Nat → AV,t = [x0,x1,x2,.int .u64 (getS zs),(k 4),(k 5),x6,x7,x8,x9,w,.int .i64 (zs.length : Int),(k 12),(k 13),(k 14),(k 15),(k 16),(k 17),(k 18),(k 19),(k 20),(k 21),(k 22),(k 23),(k 24),x25]:=by
 intro m
 obtain ⟨L,hL⟩ : ∃ L,L = LP1 l139x0:=⟨_,rfl⟩
 have lo:=zBc hL
 rw [← hL]
 induction m with
 | zero =>
  intro i j4 j5 j13 j14 j15 j16 j17 j18 j19 j20 j21 j22 j23 j24 hi
  obtain rfl : i = zs.length:=by omega
  have hd : decide ((zs.length : Int) < (zs.length : Int)) = false:=by simp
  rw [lo,List.take_length]
  unfold l139x0
  simp -implicitDefEqProofs (maxSteps:=5000000) only [go_sem,simprocAttr,hd,zAu,zAc]
  exact exF rfl
 | succ m ih =>
  intro i j4 j5 j13 j14 j15 j16 j17 j18 j19 j20 j21 j22 j23 j24 hi
  have hlt : i < zs.length:=by omega
  have hd : decide ((i : Int) < (zs.length : Int)) = true:=decide_eq_true (by omega)
  have e2 : IntKind.i64.wrap ((i : Int) + 1) = ((i + 1 : Nat) : Int):=by rw [zAq (by omega) (by omega)]; omega
  have e8 : IntKind.i64.wrap (8 * (i : Int)) = ((8 * i : Nat) : Int):=by rw [zAq (by omega) (by omega)]; omega
  have hz:=List.getElem?_eq_getElem hlt
  have uz:=hu _ (List.getElem_mem hlt)
  generalize zs[i] = z at *
  obtain ⟨a,ia,la⟩:=b.idx hz .i64
  have wz : IntKind.u64.wrap z = z:=zEa (by omega) (by omega)
  have ut : IsU8 (zs.take i):=fun y hy=>hu y (List.mem_of_mem_take hy)
  have gt:=zF1 ut
  have tl : (zs.take i).length = i:=by rw [List.length_take]; omega
  rw [tl] at gt
  have ob:=or_byte gt.1 gt.2 uz.1 uz.2 (show i < 8 by omega)
  have es : getS (zs.take (i + 1)) = getS (zs.take i) + z * 256 ^ i:=by
   rw [List.take_add_one,hz]
   show getS (zs.take i ++ [z]) = _
   rw [zPh,tl]
  rw [← es] at ob
  rw [lo]
  unfold l139x0
  simp -implicitDefEqProofs (maxSteps:=5000000) only [go_sem,simprocAttr,hd,ia,la,wz,e8,shlU,orU,ob,e2]
  exact ih (i + 1) _ _ _ _ _ _ _ _ _ _ _ _ _ _ (by omega)
set_option maxHeartbeats 2000000 in
theorem getC (hl : zs.length ≤ 8) (ok : zDz w) : (envL prog).call 139 [w] H = some (.int .u64 (getS zs),H):=by
 have hn:=b.len
 have mn : (if (8 : Int) < (zs.length : Int) then (8 : Int) else (zs.length : Int)) = (zs.length : Int):=if_neg (by omega)
 have ss : zDa 1 w none (some (.int .i64 (zs.length : Int))) none = some w:=by
  rcases b with ⟨rfl,rfl⟩ | ⟨bb,o,l,e,cs,rfl,hc,hg,hle⟩
  ·rfl
  ·have hlen : zs.length ≤ l:=ok _ _ _ _ _ _ rfl
   simp [zDa,asI,hlen]
 have l0:=getL b hu hl (m:=zs.length) (i:=0)
 rw [show ((0 : Nat) : Int) = 0 from rfl,List.take_zero,show getS [] = 0 from rfl] at l0
 have o : Outs (runC (envL prog) (b139 (envL prog)) ([w] ++ List.replicate (26 - [w].length) .undef) H) fun e' t K'=>fin [.tmp 2] (some (e',t,K')) = some (.int .u64 (getS zs),K') ∧ K' = H:=by
  unfold b139
  generalize hQ : (fun (e' : Ex) (t : T) (K' : zAa)=>fin [.tmp 2] (some (e',t,K')) = some (AV.int .u64 (getS zs),K') ∧ K' = H) = Q
  simp -implicitDefEqProofs (maxSteps:=5000000) only [go_sem,simprocAttr,zA6,hn,mn,ss]
  unfold LP1 at l0
  generalize (envL prog).loop (runC (envL prog) (l139x0 (envL prog))) = L0 at l0 ⊢
  refine zBo (fun r=>seqR (zBr 0 r) _) (l0 _ _ _ _ _ _ _ _ _ _ _ _ _ _ _ _ _ _ _ _ _ _ (by omega)) ?_
  rintro e t H' ⟨rfl,rfl,k,rfl⟩
  simp -implicitDefEqProofs (maxSteps:=5000000) only [go_sem,simprocAttr,zAc]
  subst hQ
  refine ⟨?_,rfl⟩
  simp -implicitDefEqProofs (maxSteps:=5000000) only [go_sem,simprocAttr]
 obtain ⟨e',t,H',hr,hf,rfl⟩:=o
 rw [c139,hr,hf]
 exact zB8 rfl
end
end Go.Proofs.YtbmmnfeeapnhkaaGreat.G08
end
section
namespace Go.Proofs.YtbmmnfeeapnhkaaGreat.G08
open Go Go.Proofs.YtbmmnfeeapnhkaaGreat.Eng
def ValY (y : Nat) (w : AV) (zs : List Int) (Y : Nat → zAa → Prop) : Prop :=
 ∀ i K z,Y i K → zs[i]? = some z → BS K w zs ∧ ∃ K',Y (i + 1) K' ∧ (envL prog).yield y [.int .u8 z] K = some (.bool true,K')
set_option maxHeartbeats 2000000 in
theorem valuesL {y : Nat} {w : AV} {zs : List Int} {Y : Nat → zAa → Prop} (hY : ValY y w zs Y) (hk : zs.length ≤ 1000000000) (x1 x2 x3 : AV) : ∀ (m i : Nat) (K : zAa) (j4 j8 j9 j10 j11 j12 j13 j14 j15 : AV),Y i K → i + m = zs.length →
  Outs (LP1 l148x0 [.yld y,x1,x2,x3,j4,w,.int .i64 (zs.length : Int),.int .i64 (i : Int),j8,j9,j10,j11,j12,j13,j14,j15] K) fun e t K'=>e = .exit 0 ∧ Y zs.length K' ∧ ∃ k : Nat → AV,t = [.yld y,x1,x2,x3,(k 4),w,.int .i64 (zs.length : Int),(k 7),(k 8),(k 9),(k 10),(k 11),(k 12),(k 13),(k 14),(k 15)]:=by
 intro m
 obtain ⟨L,hL⟩ : ∃ L,L = LP1 l148x0:=⟨_,rfl⟩
 have lo:=zBc hL
 rw [← hL]
 induction m with
 | zero =>
  intro i K j4 j8 j9 j10 j11 j12 j13 j14 j15 hK hi
  obtain rfl : i = zs.length:=by omega
  have hd : decide ((zs.length : Int) < (zs.length : Int)) = false:=by simp
  rw [lo]
  unfold l148x0
  simp -implicitDefEqProofs (maxSteps:=5000000) only [go_sem,simprocAttr,hd,zAu,zAc]
  exact ⟨hK,exF rfl⟩
 | succ m ih =>
  intro i K j4 j8 j9 j10 j11 j12 j13 j14 j15 hK hi
  have hlt : i < zs.length:=by omega
  have hd : decide ((i : Int) < (zs.length : Int)) = true:=decide_eq_true (by omega)
  have e2 : IntKind.i64.wrap ((i : Int) + 1) = ((i + 1 : Nat) : Int):=by rw [zAq (by omega) (by omega)]; omega
  have hz:=List.getElem?_eq_getElem hlt
  generalize zs[i] = z at *
  obtain ⟨b,K',hK',hy⟩:=hY i K z hK hz
  obtain ⟨a,ia,la⟩:=b.idx hz .i64
  rw [lo]
  unfold l148x0
  simp -implicitDefEqProofs (maxSteps:=5000000) only [go_sem,simprocAttr,hd,ia,la,hy,zE8,e2]
  exact ih (i + 1) _ _ _ _ _ _ _ _ _ _ hK' (by omega)
set_option maxHeartbeats 2000000 in
theorem valuesC {y q : Nat} {w : AV} {zs : List Int} {Y : Nat → zAa → Prop} (hY : ValY y w zs Y) (hk : zs.length ≤ 1000000000) {K : zAa} (hK : Y 0 K) (b : BS K w zs) (hq : cellsOf K q = some [w]) :
  ∃ K',Y zs.length K' ∧ (envL prog).call 148 [.yld y,.ptr q 0] K = trim K (some (.tup [],K')):=by
 have l0:=valuesL hY hk (m:=zs.length) (i:=0)
 have hn:=b.len
 rw [show ((0 : Nat) : Int) = 0 from rfl] at l0
 have o : Outs (runC (envL prog) (b148 (envL prog)) ([.yld y,.ptr q 0] ++ List.replicate (16 - [AV.yld y,.ptr q 0].length) .undef) K) fun e' t K'=>Y zs.length K' ∧ fin [] (some (e',t,K')) = some (.tup [],K'):=by
  unfold b148
  generalize hQ : (fun (e' : Ex) (t : T) (K' : zAa)=>Y zs.length K' ∧ fin [] (some (e',t,K')) = some (.tup [],K')) = Q
  simp -implicitDefEqProofs (maxSteps:=5000000) only [go_sem,simprocAttr,zA6,hq,hn]
  unfold LP1 at l0
  generalize (envL prog).loop (runC (envL prog) (l148x0 (envL prog))) = L0 at l0 ⊢
  refine zBo (fun r=>zBr 0 r) (l0 _ _ _ _ _ _ _ _ _ _ _ _ _ hK (by omega)) ?_
  rintro e t H' ⟨rfl,hK',k,rfl⟩
  simp -implicitDefEqProofs (maxSteps:=5000000) only [go_sem,simprocAttr,zAc]
  subst hQ
  refine ⟨hK',?_⟩
  simp -implicitDefEqProofs (maxSteps:=5000000) only [go_sem,simprocAttr]
 obtain ⟨e',t,H',hr,hK',hf⟩:=o
 exact ⟨H',hK',by rw [c148,hr,hf]⟩
theorem values0 {w : AV} (hc : zA7 w = some [w]) (H : zAa) : (envL prog).call 146 [w] H = some (.fn 148 [.ptr H.length 0],H ++ [.rw [w]]):=by
 rw [c146]
 unfold b146
 simp -implicitDefEqProofs (maxSteps:=5000000) only [go_sem,simprocAttr,hc]
 exact zBa (by simp [AV.under,zAt])
noncomputable abbrev zF9 (s : LoopState) (t : T) : ABlk:=.loop ⟨s,.normal,t,[8],zNm,zNk⟩
structure MoreY (H : zAa) (w : AV) (h : Int) (zs : List Int) (s : LoopState) (t : T) (i : Nat) (K : zAa) : Prop where
 old : ∀ b,b < H.length → K[b]? = H[b]?
 len : K.length = H.length + 3
 num : K[H.length]? = some (.rw [.int .u64 (zGe h (zs.take i))])
 box : K[H.length + 1]? = some (.rw [w])
 lp : K[H.length + 2]? = some (zF9 s t)
set_option maxHeartbeats 4000000 in
theorem zW0 {H : zAa} {w : AV} {h : Int} {zs : List Int} (hu : IsU8 zs) {t : T} (ht : t.length = 15) (h2 : getT t 2 = .ptr H.length 0) {i : Nat} {K : zAa} (y : MoreY H w h zs .ready t i K) {z : Int} (hz : zs[i]? = some z) :
  ∃ K',MoreY H w h zs .ready t (i + 1) K' ∧ (envL prog).yield (H.length + 2) [.int .u8 z] K = some (.bool true,K'):=by
 have kl:=y.len
 have uz:=hu z (List.mem_of_getElem? hz)
 have wz : IntKind.u64.wrap z = z:=zEa (by omega) (by omega)
 have es : zGe h (zs.take (i + 1)) = zXr (zGe h (zs.take i)) z:=by
  rw [List.take_add_one,hz]
  show zGe h (zs.take i ++ [z]) = _
  unfold zGe
  rw [List.foldl_append]; rfl
 have l1 : (K.set (H.length + 2) (zF9 .busy t)).length = K.length:=by simp
 have a0 : (K.set (H.length + 2) (zF9 .busy t))[H.length]? = some (.rw [.int .u64 (zGe h (zs.take i))]):=by rw [zAf _ _ _ _ (by omega)]; exact y.num
 have a1 : (K.set (H.length + 2) (zF9 .busy t))[H.length + 1]? = some (.rw [w]):=by rw [zAf _ _ _ _ (by omega)]; exact y.box
 have a2 : (K.set (H.length + 2) (zF9 .busy t))[H.length + 2]? = some (zF9 .busy t):=zA4 _ _ _ (by omega)
 have ao : ∀ b,b < H.length → (K.set (H.length + 2) (zF9 .busy t))[b]? = H[b]?:=fun b hb=>by rw [zAf _ _ _ _ (by omega)]; exact y.old b hb
 have st:=fun {ex : Ex} {t2 : T} {K2 : zAa} (hb : runC (envL prog) (zN2 (envL prog)) ((t.set 8 (.int .u8 z)).set 5 (.int .u8 z)) (K.set (H.length + 2) (zF9 .busy t)) = some (ex,t2,K2)) (h2 : K2[H.length + 2]? = some (zF9 .busy t)) =>
  zEz (P:=prog) (l:=H.length + 2) (args:=[.int .u8 z]) (K:=K) (eaq142x0 _) (ebq142x0 _) y.lp rfl (t1:=(t.set 8 (.int .u8 z)).set 5 (.int .u8 z)) (by
   unfold zYz
   simp -implicitDefEqProofs (maxSteps:=5000000) only [go_sem,simprocAttr,zBq,zC2,ht,List.length_set,Nat.reduceLT]) hb h2
 generalize hK1 : K.set (H.length + 2) (zF9 .busy t) = K1 at *
 have wr : zAz K1 H.length 0 [.int .u64 (zGe h (zs.take (i + 1)))] = some (K1.set H.length (.rw [.int .u64 (zGe h (zs.take (i + 1)))])):=by
  rw [zAv a0,if_pos ⟨by simp,rfl⟩,zAx]; rfl
 have c0:=zAj a0
 have ef : IntKind.u64.wrap (IntKind.u64.wrap ((BitVec.ofInt 64 (zGe h (zs.take i)) ^^^ BitVec.ofInt 64 z).toNat : Int) * 1099511628211) = zGe h (zs.take (i + 1)):=es.symm
 have ob : Outs (runC (envL prog) (zN2 (envL prog)) ((t.set 8 (.int .u8 z)).set 5 (.int .u8 z)) K1) fun e _ K'=>e = .normal ∧ K' = K1.set H.length (.rw [.int .u64 (zGe h (zs.take (i + 1)))]):=by
  unfold zN2
  simp -implicitDefEqProofs (maxSteps:=5000000) only [go_sem,simprocAttr,zC2,ht,h2,List.length_set,Nat.reduceLT,c0,wz,xorU,ef,zAw,wr,zAc]
 obtain ⟨e,t2,K',er,rfl,rfl⟩:=ob
 have e1:=st er (by rw [zAf _ _ _ _ (by omega)]; exact a2)
 simp only [Ex.isNormal,if_true] at e1
 refine ⟨(K1.set H.length (.rw [.int .u64 (zGe h (zs.take (i + 1)))])).set (H.length + 2) (zF9 .ready t),⟨fun b hb=>?_,by simp; omega,?_,?_,?_⟩,e1.trans (zB8 (by simp; omega))⟩
 ·rw [zAf _ _ _ _ (by omega),zAf _ _ _ _ (by omega)]; exact ao b hb
 ·rw [zAf _ _ _ _ (by omega)]; exact zA4 _ _ _ (by omega)
 ·rw [zAf _ _ _ _ (by omega),zAf _ _ _ _ (by omega)]; exact a1
 ·exact zA4 _ _ _ (by simp; omega)
set_option maxHeartbeats 4000000 in
theorem moreC {H : zAa} {w : AV} {zs : List Int} (b : BS H w zs) (hu : IsU8 zs) (hk : zs.length ≤ 1000000000) (h : Int) : (envL prog).call 142 [.int .u64 h,w] H = some (.int .u64 (zGe h zs),H):=by
 have hc : zA7 w = some [w]:=by rcases b.is with rfl | ⟨_,_,_,_,_,_,rfl⟩ <;> rfl
 have it : ∀ t : T,(t.length = 15 ∧ getT t 2 = .ptr H.length 0) → ∃ K,(envL prog).call 148 [.yld (H.length + 2),.ptr (H.length + 1) 0] (H ++ [.rw [.int .u64 h],.rw [w],zF9 .ready t]) = some (.tup [],K) ∧ MoreY H w h zs .ready t zs.length K:=by
  rintro t ⟨ht,h2⟩
  have hY : ValY (H.length + 2) w zs (MoreY H w h zs .ready t):=fun i K z y hz =>
   ⟨BS.fr b (F:=fun _=>False) ⟨by rw [y.len]; omega,fun b hb _=>y.old b hb⟩ fun _ _ h=>h,zW0 hu ht h2 y hz⟩
  have y0 : MoreY H w h zs .ready t 0 (H ++ [.rw [.int .u64 h],.rw [w],zF9 .ready t]):=by
   refine ⟨fun b hb=>List.getElem?_append_left hb,by simp,?_,by simp,by simp⟩
   rw [List.take_zero]; simp [zGe]
  obtain ⟨K',yk,e⟩:=valuesC hY hk (q:=H.length + 1) y0 (b.mono _) (by unfold cellsOf; simp)
  exact ⟨K',e.trans (zB8 (by rw [yk.len]; simp)),yk⟩
 obtain ⟨KK,hKK⟩:=zJy it
 have e1:=fun t h1 h2=>(hKK t ⟨h1,h2⟩).1
 have e2:=fun t h1 h2=>(hKK t ⟨h1,h2⟩).2.lp
 have e3 : ∀ t,t.length = 15 → getT t 2 = .ptr H.length 0 → cellsOf ((KK t).set (H.length + 2) (zF9 .exhausted t)) H.length = some [.int .u64 (zGe h zs)]:=fun t h1 h2=>by
  rw [zBj _ _ _ _ (by omega)]
  have:=zAj (hKK t ⟨h1,h2⟩).2.num
  rw [List.take_length] at this; exact this
 have l0:=fun B=>values0 hc (H ++ B)
 have o : Outs (runC (envL prog) (b142 (envL prog)) ([.int .u64 h,w] ++ List.replicate (15 - [AV.int .u64 h,w].length) .undef) H) fun e' t K=>(∃ t' : T,(t'.length = 15 ∧ getT t' 2 = .ptr H.length 0) ∧ K = (KK t').set (H.length + 2) (zF9 .exhausted t') ∧ fin [.tmp 4] (some (e',t,K)) = some (.int .u64 (zGe h zs),K)):=by
  unfold b142
  generalize hQ : (fun (e' : Ex) (t : T) (K : zAa)=>∃ t' : T,(t'.length = 15 ∧ getT t' 2 = .ptr H.length 0) ∧ K = (KK t').set (H.length + 2) (zF9 .exhausted t') ∧ fin [.tmp 4] (some (e',t,K)) = some (AV.int .u64 (zGe h zs),K)) = Q
  simp -implicitDefEqProofs (maxSteps:=5000000) only [go_sem,simprocAttr,l0,zDe,zF7,e1,zCr,e2,e3,zAc]
  subst hQ
  refine ⟨_,⟨rfl,rfl⟩,rfl,?_⟩
  simp -implicitDefEqProofs (maxSteps:=5000000) only [go_sem,simprocAttr]
 obtain ⟨e',t,K,hr,⟨t',ht,rfl,hf⟩⟩:=o
 obtain ⟨_,y⟩:=hKK t' ht
 rw [c142,hr,hf]
 have el : (KK t').set (H.length + 2) (zF9 .exhausted t') = H ++ ((KK t').set (H.length + 2) (zF9 .exhausted t')).drop H.length:=by
  conv=>lhs; rw [← List.take_append_drop H.length ((KK t').set (H.length + 2) (zF9 .exhausted t'))]
  congr 1
  apply List.ext_getElem?
  intro i
  rw [List.getElem?_take]
  split
  ·rw [zAf _ _ _ _ (by omega)]; exact y.old i (by omega)
  ·rw [List.getElem?_eq_none (by omega)]
 rw [el]
 exact zGw rfl
theorem checkC {H : zAa} {w : AV} {zs : List Int} (b : BS H w zs) (hu : IsU8 zs) (hk : zs.length ≤ 1000000000) : (envL prog).call 128 [w] H = some (.int .u64 (zIo zs),H):=by
 have e:=moreC b hu hk 14695981039346656037
 rw [c128]
 unfold b128
 simp -implicitDefEqProofs (maxSteps:=5000000) only [go_sem,simprocAttr,e]
 rfl
end Go.Proofs.YtbmmnfeeapnhkaaGreat.G08
end
section
namespace Go.Proofs.YtbmmnfeeapnhkaaGreat.G08
open Go Go.Proofs.YtbmmnfeeapnhkaaGreat.Eng
noncomputable abbrev LQU (l : Env → CT):=(envL prog).loop (runC (envL prog) (l (envL prog)))
noncomputable abbrev tyU : TyD:=ty 1 false 1 [.int .u8 0]
theorem growU {n : Nat} (h1 : 1 ≤ n) (hn : n ≤ 2000000000) (H : zAa) : (envL prog).call 129 [.nilSl,.int .i64 (n : Int)] H = some (.sl H.length 0 1 0 n false,H ++ [.rw (List.replicate n (tyU).zero).flatten]):=by
 have w0 : IntKind.i64.wrap (0 - 0) = 0:=by decide
 have w1 : IntKind.i64.wrap ((n : Int) - 0) = (n : Int):=by rw [zAq (by omega) (by omega)]; omega
 have d1 : decide ((n : Int) < 0) = false:=decide_eq_false (by omega)
 have d2 : decide ((n : Int) > 0) = true:=decide_eq_true (by omega)
 have ha:=zS4 (d:=tyU) (H:=H) (n:=n) (k:=1) (by omega) rfl (by decide) h1 (by unfold roomy; show n * 1 ≤ _; omega)
 have sl0 : zDa 1 .nilSl none (some (.int .i64 0)) none = some .nilSl:=by simp [zDa,asI]
 have sl1 : zDa 1 (.sl H.length 0 1 n n false) none (some (.int .i64 0)) none = some (.sl H.length 0 1 0 n false):=by simp [zDa,asI]
 unfold tyU at ha
 rw [c129]
 unfold b129
 have hcap : zUf .nilSl = some (.int .i64 0):=rfl
 have w00 : IntKind.i64.wrap 0 = 0:=by decide
 simp -implicitDefEqProofs (maxSteps:=5000000) only [go_sem,simprocAttr,hcap,w0,w00,w1,d1,d2,ha,sl0,sl1]
 exact zBa (by simp [AV.under])
theorem grow0U (H : zAa) : (envL prog).call 129 [.nilSl,.int .i64 0] H = some (.nilSl,H):=by
 have w0 : IntKind.i64.wrap (0 - 0) = 0:=by decide
 have d1 : decide ((0 : Int) < 0) = false:=rfl
 have d2 : decide ((0 : Int) > 0) = false:=rfl
 rw [c129]
 unfold b129
 have hcap : zUf .nilSl = some (.int .i64 0):=rfl
 have w00 : IntKind.i64.wrap 0 = 0:=by decide
 simp -implicitDefEqProofs (maxSteps:=5000000) only [go_sem,simprocAttr,hcap,w0,w00,d1,d2]
def totU (Xs : List (AV × Nat × List AV)) : Nat:=(Xs.map fun x=>x.2.1).sum
def catU (Xs : List (AV × Nat × List AV)) : List AV:=(Xs.map fun x=>x.2.2).flatten
section
variable {H : zAa} {a : Nat} {Xs : List (AV × Nat × List AV)} (ha : cellsOf H a = some (Xs.map fun x=>x.1)) (hs : ∀ x ∈ Xs,Src 1 H x.1 x.2.1 x.2.2) (ht : totU Xs ≤ 2000000000) (hX : Xs.length ≤ 1000)
include ha hs ht hX
set_option maxHeartbeats 2000000 in
theorem sumLU (x0 x1 x2 x4 x6 x7 x8 x23 x24 x25 x26 x27 x28 x29 x30 x31 x32 x33 x34 x35 : AV) : ∀ (k i : Nat) (j5 j12 j13 j14 j15 j16 j17 j18 j19 j20 j21 j22 : AV),i + k = Xs.length →
  Outs (LQU l103x0 [x0,x1,x2,.int .i64 (totU (Xs.take i) : Int),x4,j5,x6,x7,x8,.sl a 0 1 Xs.length Xs.length true,.int .i64 (Xs.length : Int),.int .i64 (i : Int),j12,j13,j14,j15,j16,j17,j18,j19,j20,j21,j22,x23,x24,x25,x26,x27,x28,x29,x30,x31,x32,x33,x34,x35] H) fun e t H'=>e = .exit 0 ∧ H' = H ∧ ∃ k : Nat → AV,t = [x0,x1,x2,.int .i64 (totU Xs : Int),x4,(k 5),x6,x7,x8,.sl a 0 1 Xs.length Xs.length true,.int .i64 (Xs.length : Int),(k 11),(k 12),(k 13),(k 14),(k 15),(k 16),(k 17),(k 18),(k 19),(k 20),(k 21),(k 22),x23,x24,x25,x26,x27,x28,x29,x30,x31,x32,x33,x34,x35]:=by
 intro k
 obtain ⟨L,hL⟩ : ∃ L,L = LQU l103x0:=⟨_,rfl⟩
 have lo:=zBc hL
 rw [← hL]
 induction k with
 | zero =>
  intro i j5 j12 j13 j14 j15 j16 j17 j18 j19 j20 j21 j22 hi
  obtain rfl : i = Xs.length:=by omega
  have hd : decide ((Xs.length : Int) < (Xs.length : Int)) = false:=by simp
  rw [List.take_length,lo]
  unfold l103x0
  simp -implicitDefEqProofs (maxSteps:=5000000) only [go_sem,simprocAttr,hd,zAu,zAc]
  exact exF rfl
 | succ k ih =>
  intro i j5 j12 j13 j14 j15 j16 j17 j18 j19 j20 j21 j22 hi
  have hlt : i < Xs.length:=by omega
  have hx:=List.getElem?_eq_getElem hlt
  have hv:=zCf (fun x : AV × Nat × List AV=>x.1) hx
  have sx:=hs _ (List.getElem_mem hlt)
  generalize Xs[i] = x at *
  have hd : decide ((i : Int) < (Xs.length : Int)) = true:=decide_eq_true (by omega)
  have et : totU (Xs.take (i + 1)) = totU (Xs.take i) + x.2.1:=by unfold totU; rw [List.take_add_one,hx]; simp
  have le : totU (Xs.take (i + 1)) ≤ totU Xs:=by
   unfold totU
   rw [← List.take_append_drop (i + 1) Xs,List.map_append,List.sum_append,List.take_append_drop]
   exact Nat.le_add_right _ _
  have e2 : IntKind.i64.wrap ((i : Int) + 1) = ((i + 1 : Nat) : Int):=by
   skip
   rw [zAq (by omega) (by omega)]; omega
  have e3 : IntKind.i64.wrap ((totU (Xs.take i) : Int) + (x.2.1 : Int)) = (totU (Xs.take (i + 1)) : Int):=by rw [zAq (by omega) (by omega)]; omega
  have d3 : decide ((totU (Xs.take (i + 1)) : Int) < 0) = false:=decide_eq_false (by omega)
  have ix:=zEf a 1 Xs.length Xs.length i true .i64 (by omega) hlt
  rw [Nat.mul_one] at ix
  have hl:=sx.len
  rw [lo]
  unfold l103x0
  simp -implicitDefEqProofs (maxSteps:=5000000) only [go_sem,simprocAttr,hd,ix,ha,hv,hl,e2,e3,d3]
  exact ih (i + 1) _ _ _ _ _ _ _ _ _ _ _ _ (by omega)
def OutU (H : zAa) (Xs : List (AV × Nat × List AV)) (i : Nat) (l : AV) (H' : zAa) : Prop :=
 (totU Xs = 0 ∧ l = .nilSl ∧ H' = H) ∨ (totU Xs ≠ 0 ∧ l = .sl H.length 0 1 (totU (Xs.take i)) (totU Xs) false ∧ ∃ Z : List AV,Z.length + totU (Xs.take i) * 1 = totU Xs * 1 ∧ H' = H ++ [.rw (catU (Xs.take i) ++ Z)])
theorem zYm : ∀ i,(catU (Xs.take i)).length = totU (Xs.take i) * 1:=by
 intro i
 have : ∀ Ys : List (AV × Nat × List AV),(∀ x ∈ Ys,x.2.2.length = x.2.1 * 1) → (catU Ys).length = totU Ys * 1:=by
  intro Ys
  induction Ys with
  | nil=>intro _; rfl
  | cons x Ys ih =>
   intro h
   have e:=ih fun y hy=>h y (by simp [hy])
   unfold catU totU at e ⊢
   rw [List.map_cons,List.map_cons,List.flatten_cons,List.sum_cons,List.length_append,e,h x (by simp),Nat.add_mul]
 exact this _ fun x hx=>(hs x (List.mem_of_mem_take hx)).clen
set_option maxHeartbeats 2000000 in
theorem catLU (x0 x1 x2 x3 x4 x5 x7 x9 x10 x11 x12 x13 x14 x15 x16 x17 x18 x19 x20 x21 x22 x23 x24 x35 : AV) : ∀ (k i : Nat) (l : AV) (H1 : zAa) (j8 j28 j29 j30 j31 j32 j33 j34 : AV),OutU H Xs i l H1 → i + k = Xs.length →
  Outs (LQU l103x1 [x0,x1,x2,x3,x4,x5,l,x7,j8,x9,x10,x11,x12,x13,x14,x15,x16,x17,x18,x19,x20,x21,x22,x23,x24,.sl a 0 1 Xs.length Xs.length true,.int .i64 (Xs.length : Int),.int .i64 (i : Int),j28,j29,j30,j31,j32,j33,j34,x35] H1) fun e t H'=>e = .exit 2 ∧ ∃ l',OutU H Xs Xs.length l' H' ∧ ∃ k : Nat → AV,t = [x0,x1,x2,x3,x4,x5,l',x7,(k 8),x9,x10,x11,x12,x13,x14,x15,x16,x17,x18,x19,x20,x21,x22,x23,x24,.sl a 0 1 Xs.length Xs.length true,.int .i64 (Xs.length : Int),(k 27),(k 28),(k 29),(k 30),(k 31),(k 32),(k 33),(k 34),x35]:=by
 intro k
 obtain ⟨L,hL⟩ : ∃ L,L = LQU l103x1:=⟨_,rfl⟩
 have lo:=zBc hL
 rw [← hL]
 induction k with
 | zero =>
  intro i l H1 j8 j28 j29 j30 j31 j32 j33 j34 ho hi
  obtain rfl : i = Xs.length:=by omega
  have hd : decide ((Xs.length : Int) < (Xs.length : Int)) = false:=by simp
  rw [lo]
  unfold l103x1
  simp -implicitDefEqProofs (maxSteps:=5000000) only [go_sem,simprocAttr,hd,zAu,zAc]
  exact ⟨l,ho,exF rfl⟩
 | succ k ih =>
  intro i l H1 j8 j28 j29 j30 j31 j32 j33 j34 ho hi
  have hlt : i < Xs.length:=by omega
  have cl:=zYm ha hs ht hX
  have hx:=List.getElem?_eq_getElem hlt
  have hv:=zCf (fun x : AV × Nat × List AV=>x.1) hx
  have sx:=hs _ (List.getElem_mem hlt)
  generalize Xs[i] = x at *
  have hd : decide ((i : Int) < (Xs.length : Int)) = true:=decide_eq_true (by omega)
  have et : totU (Xs.take (i + 1)) = totU (Xs.take i) + x.2.1:=by unfold totU; rw [List.take_add_one,hx]; simp
  have ec : catU (Xs.take (i + 1)) = catU (Xs.take i) ++ x.2.2:=by unfold catU; rw [List.take_add_one,hx]; simp
  have le : totU (Xs.take (i + 1)) ≤ totU Xs:=by
   unfold totU
   rw [← List.take_append_drop (i + 1) Xs,List.map_append,List.sum_append,List.take_append_drop]
   exact Nat.le_add_right _ _
  have e2 : IntKind.i64.wrap ((i : Int) + 1) = ((i + 1 : Nat) : Int):=by rw [zAq (by omega) (by omega)]; omega
  have ix:=zEf a 1 Xs.length Xs.length i true .i64 (by omega) hlt
  rw [Nat.mul_one] at ix
  obtain ⟨l2,H2,ho2,ea⟩ : ∃ l2 H2,OutU H Xs (i + 1) l2 H2 ∧ app tyU l x.1 H1 = some (l2,H2):=by
   rcases ho with ⟨h0,rfl,rfl⟩ | ⟨h0,rfl,Z,hZ,rfl⟩
   ·have : x.2.1 = 0:=by omega
    rw [this] at sx
    exact ⟨_,_,.inl ⟨h0,rfl,rfl⟩,zS3 rfl sx⟩
   ·refine ⟨_,_,.inr ⟨h0,rfl,Z.drop x.2.2.length,?_,rfl⟩,?_⟩
    ·rw [List.length_drop,sx.clen,et,Nat.add_mul]
     rw [et] at le
     have:=Nat.mul_le_mul_right 1 le
     rw [Nat.add_mul] at this
     omega
    ·have:=app_in (k:=1) (by omega) (d:=tyU) rfl (H:=H ++ [.rw (catU (Xs.take i) ++ Z)]) (b:=H.length) (m:=totU (Xs.take i)) (n:=totU Xs) (A:=catU (Xs.take i)) (Z:=Z) (by simp) (cl i) (sx.adds _) (by
      rw [sx.clen]
      rw [et] at le
      have:=Nat.mul_le_mul_right 1 le
      rw [Nat.add_mul] at this
      omega) (by omega)
     rw [this,et,ec]
     simp
  have hm : ∀ G,cellsOf (H ++ G) a = some (Xs.map fun x=>x.1):=fun G=>zAy ha
  have hm1 : cellsOf H1 a = some (Xs.map fun x=>x.1):=by
   rcases ho with ⟨_,_,rfl⟩ | ⟨_,_,Z,_,rfl⟩
   ·exact ha
   ·exact hm _
  unfold tyU at ea
  rw [lo]
  unfold l103x1
  simp -implicitDefEqProofs (maxSteps:=5000000) only [go_sem,simprocAttr,hd,ix,hm1,hv,e2,ea]
  exact ih (i + 1) l2 H2 _ _ _ _ _ _ _ _ ho2 (by omega)
set_option maxHeartbeats 2000000 in
theorem zYd : ∃ l H',((totU Xs = 0 ∧ l = .nilSl ∧ H' = H) ∨ (totU Xs ≠ 0 ∧ l = .sl H.length 0 1 (totU Xs) (totU Xs) false ∧ H' = H ++ [.rw (catU Xs)])) ∧ (envL prog).call 103 [.sl a 0 1 Xs.length Xs.length true] H = some (l,H'):=by
 have l0:=sumLU ha hs ht hX (k:=Xs.length) (i:=0)
 have cl:=zYm ha hs ht hX
 rw [show ((0 : Nat) : Int) = 0 from rfl,List.take_zero,show totU [] = 0 from rfl,show ((0 : Nat) : Int) = 0 from rfl] at l0
 have l1:=catLU ha hs ht hX (k:=Xs.length) (i:=0)
 rw [show ((0 : Nat) : Int) = 0 from rfl] at l1
 obtain ⟨g,H1,ho,hg⟩ : ∃ g H1,OutU H Xs 0 g H1 ∧ (envL prog).call 129 [.nilSl,.int .i64 (totU Xs : Int)] H = some (g,H1):=by
  by_cases h0 : totU Xs = 0
  ·refine ⟨_,_,.inl ⟨h0,rfl,rfl⟩,?_⟩
   rw [h0]; exact grow0U H
  ·refine ⟨_,_,.inr ⟨h0,rfl,(List.replicate (totU Xs) (tyU).zero).flatten,?_,rfl⟩,?_⟩
   ·rw [zJj (k:=1) (by rfl),List.take_zero,show totU [] = 0 from rfl,Nat.zero_mul,Nat.add_zero]
   ·rw [List.take_zero,show totU [] = 0 from rfl,show catU [] = [] from rfl,List.nil_append]
    exact growU (by omega) ht H
 have o : Outs (runC (envL prog) (b103 (envL prog)) ([.sl a 0 1 Xs.length Xs.length true] ++ List.replicate (36 - [AV.sl a 0 1 Xs.length Xs.length true].length) .undef) H) fun e' t H'=>∃ l,OutU H Xs Xs.length l H' ∧ fin [.tmp 2] (some (e',t,H')) = some (l,H'):=by
  unfold b103
  generalize hQ : (fun (e' : Ex) (t : T) (H' : zAa)=>∃ l,OutU H Xs Xs.length l H' ∧ fin [.tmp 2] (some (e',t,H')) = some (l,H')) = Q
  simp -implicitDefEqProofs (maxSteps:=5000000) only [go_sem,simprocAttr,zA6]
  unfold LQU at l0 l1
  generalize (envL prog).loop (runC (envL prog) (l103x0 (envL prog))) = L0 at l0 ⊢
  refine zBo (fun r=>seqR (zBr 0 r) _) (l0 _ _ _ _ _ _ _ _ _ _ _ _ _ _ _ _ _ _ _ _ _ _ _ _ _ _ _ _ _ _ _ _ (by omega)) ?_
  rintro e t H' ⟨rfl,rfl,k,rfl⟩
  simp -implicitDefEqProofs (maxSteps:=5000000) only [go_sem,simprocAttr,zA6,hg]
  generalize (envL prog).loop (runC (envL prog) (l103x1 (envL prog))) = L1 at l1 ⊢
  refine zBo (fun r=>seqR (zBr 2 r) _) (l1 _ _ _ _ _ _ _ _ _ _ _ _ _ _ _ _ _ _ _ _ _ _ _ _ _ _ _ _ _ _ _ _ _ _ ho (by omega)) ?_
  rintro e t H' ⟨rfl,l,ho,k,rfl⟩
  simp -implicitDefEqProofs (maxSteps:=5000000) only [go_sem,simprocAttr,zAc]
  subst hQ
  refine ⟨l,ho,?_⟩
  simp -implicitDefEqProofs (maxSteps:=5000000) only [go_sem,simprocAttr]
 obtain ⟨e',t,H',hr,l,ho,hf⟩:=o
 rw [c103,hr,hf]
 rcases ho with ⟨h0,rfl,rfl⟩ | ⟨h0,rfl,Z,hZ,rfl⟩
 ·exact ⟨_,_,.inl ⟨h0,rfl,rfl⟩,zB8 rfl⟩
 ·rw [List.take_length] at hZ ⊢
  obtain rfl : Z = []:=List.eq_nil_of_length_eq_zero (by omega)
  rw [List.append_nil]
  exact ⟨_,_,.inr ⟨h0,rfl,rfl⟩,zBa (by simp [AV.under])⟩
end
end Go.Proofs.YtbmmnfeeapnhkaaGreat.G08
end
section
namespace Go.Proofs.YtbmmnfeeapnhkaaGreat.G08
open Go Go.Proofs.YtbmmnfeeapnhkaaGreat.Eng
theorem zB5 {H K : zAa} (a : Adds H K) {b : Nat} {k : ABlk} (h : H[b]? = some k) : K[b]? = some k:=by
 obtain ⟨G,rfl⟩:=a
 rw [List.getElem?_append_left (zAl h)]; exact h
theorem trim_adds {H K : zAa} (a : Adds H K) {v : AV} (hv : v.under H.length = true) : trim H (some (v,K)) = some (v,H):=by
 obtain ⟨G,rfl⟩:=a
 exact zGw hv
theorem zD5 {H K : zAa} (a : Adds H K) {b : Nat} (k : ABlk) (h : H.length ≤ b) : Adds H (K.set b k):=by
 obtain ⟨G,rfl⟩:=a
 exact ⟨G.set (b - H.length) k,by rw [List.set_append_right _ _ h]⟩
theorem encBad {p : PgS} (h : p.Ok) (hk : zEx p.m p.i = false) (H : zAa) : (envL prog).call 102 [.agg p.cells] H = some (.tup [.agg (u8s z64),.int .i64 11],H):=by
 obtain ⟨m,s,i,b⟩:=p
 unfold PgS.cells
 simp only at *
 rw [c102]
 unfold b102
 have ua : ∀ n,zAt n (u8s z64) = true:=fun n=>zE0 _ n
 have sp:=zCn zBz zBz (by omega)
 have t64:=zCg zBz
 by_cases hm : m = 0
 ·subst hm
  simp -implicitDefEqProofs (maxSteps:=5000000) only [go_sem,simprocAttr,itr,itq,Int.reduceBEq,zB9,ua,zAd,zBz,zAo,sp,t64]
 ·have e0 : (m == 0) = false:=by simpa using hm
  unfold zEx at hk
  rw [e0,Bool.not_false,Bool.true_and] at hk
  by_cases hi : i < 0
  ·have d0:=decide_eq_true hi
   simp -implicitDefEqProofs (maxSteps:=5000000) only [go_sem,simprocAttr,itr,itq,e0,d0,zB9,ua,zAd,zBz,zAo,sp,t64]
  ·have d0:=decide_eq_false hi
   rw [decide_eq_true (show 0 ≤ i by omega),Bool.true_and] at hk
   have d1 : decide (i > 65535) = true:=decide_eq_true (by have:=of_decide_eq_false hk; omega)
   simp -implicitDefEqProofs (maxSteps:=5000000) only [go_sem,simprocAttr,itr,itq,e0,d0,d1,zB9,ua,zAd,zBz,zAo,sp,t64]
set_option maxHeartbeats 4000000 in
theorem encGood {p : PgS} (h : p.Ok) (hk : zEx p.m p.i = true) (H : zAa) : (envL prog).call 102 [.agg p.cells] H = some (.tup [.agg (u8s (encS p.m p.s p.i p.b)),.int .i64 0],H):=by
 obtain ⟨m,s,i,b⟩:=p
 obtain ⟨hm,hs,_,hb⟩:=h
 unfold PgS.cells
 simp only at *
 have bl:=hb.1
 have ki : (m == 0) = false ∧ 0 ≤ i ∧ i ≤ 65535:=by
  unfold zEx at hk
  simpa using hk
 obtain ⟨e0,i0,i1⟩:=ki
 have d0 : decide (i < 0) = false:=decide_eq_false (by omega)
 have d1 : decide (i > 65535) = false:=decide_eq_false (by omega)
 have ws : IntKind.u64.wrap s = s:=zEa (by omega) (by omega)
 have wi : IntKind.u64.wrap i = i:=zEa (by omega) (by omega)
 obtain ⟨K1,hK1⟩ : ∃ K1 : zAa,K1 = H ++ [.rw (.int .u8 m :: .int .u32 s :: .int .i64 i :: u8s b),.rw (u8s z64),.rw [.int .u8 m]]:=⟨_,rfl⟩
 have L1 : K1.length = H.length + 3:=by rw [hK1]; simp
 obtain ⟨l1,K2,a2,g1,c1⟩:=putC s (k:=4) (by omega) (by omega) K1
 obtain ⟨l2,K3,a3,g2,c2⟩:=putC i (k:=2) (by omega) (by omega) K2
 have x1 : K1[H.length]? = some (.rw (.int .u8 m :: .int .u32 s :: .int .i64 i :: u8s b)):=by rw [hK1]; simp
 have y1 : K1[H.length + 1]? = some (.rw (u8s z64)):=by rw [hK1]; simp
 have m1 : K1[H.length + 2]? = some (.rw [.int .u8 m]):=by rw [hK1]; simp
 rw [hK1] at c1
 rw [show ((4 : Nat) : Int) = 4 from rfl] at c1
 rw [show ((2 : Nat) : Int) = 2 from rfl] at c2
 have x2:=zB5 a2 x1
 have x3:=zB5 a3 x2
 have cx2:=zAj x2
 have cx3:=fun X : zAa=>zAy (x:=X) (zAj x3)
 have cx3':=zAj x3
 have sA : ∀ K : zAa,cellsOf K H.length = some (.int .u8 m :: .int .u32 s :: .int .i64 i :: u8s b) → zDb 48 1 (.ptr H.length 3) none none none K = some (.sl H.length 3 1 48 48 true):=fun K hK=>zCu hK (by simp [zAd,bl])
 have m3:=zB5 a3 (zB5 a2 m1)
 obtain ⟨K4,hK4⟩ : ∃ K4 : zAa,K4 = K3 ++ [.rw [.sl (H.length + 2) 0 1 1 1 true,l1,l2,.sl H.length 3 1 48 48 true]]:=⟨_,rfl⟩
 have s1 : Src 1 K4 (.sl (H.length + 2) 0 1 1 1 true) 1 (u8s [m]):=by
  rw [hK4]; exact Src.block (zAy (zAj m3)) rfl rfl
 have s2 : Src 1 K4 l1 4 (u8s (putS 4 s)):=by
  obtain ⟨G,rfl⟩:=a3
  have:=(((g1.bs.mono G).mono [.rw [.sl (H.length + 2) 0 1 1 1 true,l1,l2,.sl H.length 3 1 48 48 true]])).src
  rw [zC7] at this
  rw [hK4]; exact this
 have s3 : Src 1 K4 l2 2 (u8s (putS 2 i)):=by
  have:=(g2.bs.mono [.rw [.sl (H.length + 2) 0 1 1 1 true,l1,l2,.sl H.length 3 1 48 48 true]]).src
  rw [zC7] at this
  rw [hK4]; exact this
 have bb : BS K4 (.sl H.length 3 1 48 48 true) b:=.inr ⟨H.length,3,48,true,_,by rw [bl],by rw [hK4]; exact cx3 _,fun i z hz=>by
  rw [Nat.add_comm,List.getElem?_cons_succ,List.getElem?_cons_succ,List.getElem?_cons_succ]; exact zGh hz,by simp [zAd]; omega⟩
 have s4 : Src 1 K4 (.sl H.length 3 1 48 48 true) 48 (u8s b):=by
  have:=bb.src
  rw [bl] at this; exact this
 obtain ⟨l,K5,ho,ec⟩:=zYd (H:=K4) (a:=K3.length) (Xs:=[(.sl (H.length + 2) 0 1 1 1 true,1,u8s [m]),(l1,4,u8s (putS 4 s)),(l2,2,u8s (putS 2 i)),(.sl H.length 3 1 48 48 true,48,u8s b)]) (by rw [hK4]; unfold cellsOf; simp) (by
   intro y hy
   simp only [List.mem_cons,List.not_mem_nil,or_false] at hy
   rcases hy with rfl | rfl | rfl | rfl
   ·exact s1
   ·exact s2
   ·exact s3
   ·exact s4) (by unfold totU; simp) (by simp)
 have et : totU [(.sl (H.length + 2) 0 1 1 1 true,1,u8s [m]),(l1,4,u8s (putS 4 s)),(l2,2,u8s (putS 2 i)),(.sl H.length 3 1 48 48 true,48,u8s b)] = 55:=by unfold totU; simp
 have eb : catU [(.sl (H.length + 2) 0 1 1 1 true,1,u8s [m]),(l1,4,u8s (putS 4 s)),(l2,2,u8s (putS 2 i)),(.sl H.length 3 1 48 48 true,48,u8s b)] = u8s (zGf m s i b):=by
  unfold catU zGf
  simp [u8s]
 rw [et,eb] at ho
 rcases ho with ⟨h0,_⟩ | ⟨_,rfl,rfl⟩
 ·omega
 rw [show ([(AV.sl (H.length + 2) 0 1 1 1 true,1,u8s [m]),(l1,4,u8s (putS 4 s)),(l2,2,u8s (putS 2 i)),(.sl H.length 3 1 48 48 true,48,u8s b)] : List (AV × Nat × List AV)).length = 4 from rfl,hK4] at ec
 have hl:=zPd m s i bl
 have hu:=zSc (s:=s) (i:=i) hm hb.2
 obtain ⟨K6,hK6⟩ : ∃ K6 : zAa,K6 = K4 ++ [.rw (u8s (zGf m s i b)),.rw (u8s z64)]:=⟨_,rfl⟩
 have gh : GB K6 K4.length (.sl K4.length 0 1 55 55 false) (zGf m s i b):=.inr ⟨fun e=>by rw [e] at hl; simp at hl,K4.length,Nat.le_refl _,by rw [hl],by rw [hK6]; simp⟩
 have ck:=checkC gh.bs hu (by omega)
 obtain ⟨l3,K7,a7,g7,c7⟩:=putC (zIo (zGf m s i b)) (k:=8) (by omega) (by omega) K6
 rw [show ((8 : Nat) : Int) = 8 from rfl] at c7
 have gh7 : GB K7 K4.length (.sl K4.length 0 1 55 55 false) (zGf m s i b):=gh.fr (Fr.adds a7 (fun _=>False)) fun _ _ h=>h
 obtain ⟨l4,K8,a8,g8,f8,_,e8⟩:=GB.more (d:=ty 1 false 1 [.int .u8 0]) rfl rfl (P:=K4) (H:=K7) (by
  obtain ⟨G,rfl⟩:=a7; rw [hK6]; exact ⟨_,by rw [List.append_assoc]⟩) gh7 g7.bs.src (by rw [hl,zC7]; omega)
 have l64 : (zGf m s i b ++ putS 8 (zIo (zGf m s i b))).length = 63:=by rw [List.length_append,hl,zC7]
 have K4l : K4.length = K3.length + 1:=by rw [hK4]; simp
 have aH1 : Adds H K1:=⟨_,hK1⟩
 have aH4 : Adds H K4:=((aH1.trans a2).trans a3).trans ⟨_,hK4⟩
 have aH8 : Adds H K8:=aH4.trans a8
 have y4 : K4[H.length + 1]? = some (.rw (u8s z64)):=zB5 ⟨_,hK4⟩ (zB5 a3 (zB5 a2 y1))
 have y8 : K8[H.length + 1]? = some (.rw (u8s z64)):=zB5 a8 y4
 have q8 : K8[K3.length + 2]? = some (.rw (u8s z64)):=by
  have q6 : K6[K4.length + 1]? = some (.rw (u8s z64)):=by rw [hK6]; simp
  rw [K4l] at q6
  exact f8.at (zB5 a7 q6) fun h=>by injection h; omega
 have q7 : K7[K3.length + 2]? = some (.rw (u8s z64)):=by
  have q6 : K6[K4.length + 1]? = some (.rw (u8s z64)):=by rw [hK6]; simp
  rw [K4l] at q6
  exact zB5 a7 q6
 have l4s:=g8.bs.src
 rw [l64] at l4s
 have en : encS m s i b = zGf m s i b ++ putS 8 (zIo (zGf m s i b)) ++ [0]:=rfl
 have le : (encS m s i b).length = 64:=by rw [en,List.length_append,l64]; rfl
 have H3 : H.length + 3 ≤ K3.length:=by
  obtain ⟨_,rfl⟩:=a2
  obtain ⟨_,rfl⟩:=a3
  simp; omega
 have cp : zJc (ty 1 false 1 [.int .u8 0]) (.sl (K3.length + 2) 0 1 64 64 true) l4 K8 = some (.int .i64 63,K8.set (K3.length + 2) (.rw (u8s (encS m s i b)))):=by
  unfold zJc
  rw [l4s.sl]
  simp only [Option.bind_some]
  rw [if_neg (by simp [ty]),show min 63 64 = 63 from rfl]
  show ((zBx 1 63 l4 K8).bind _) = _
  rw [l4s.cells]
  simp only [Option.bind_some]
  rw [if_neg (by omega),zAv q8,if_pos ⟨by rw [zAd,zAd,l64,zBz]; omega,zAo _⟩]
  simp only [Option.map_some,Option.some.injEq,Prod.mk.injEq]
  refine ⟨rfl,?_⟩
  congr 2
  rw [zAs _ _ _ (by rw [zAd,l64]; omega),zAd,l64,List.take_zero,List.nil_append,en]
  show _ = u8s _
  unfold u8s
  rw [List.map_append,List.map_append,List.map_append]
  rfl
 have c9 : cellsOf (K8.set (K3.length + 2) (.rw (u8s (encS m s i b)))) (K3.length + 2) = some (u8s (encS m s i b)):=zAj (zA4 _ _ _ (zAl q8))
 have wr : zAz (K8.set (K3.length + 2) (.rw (u8s (encS m s i b)))) (H.length + 1) 0 (u8s (encS m s i b)) = some ((K8.set (K3.length + 2) (.rw (u8s (encS m s i b)))).set (H.length + 1) (.rw (u8s (encS m s i b)))):=by
  rw [zAv ((zAf _ _ _ _ (by omega)).trans y8),if_pos ⟨by rw [zAd,zAd,le,zBz]; omega,zAo _⟩,zCn zBz le (by omega)]
 have c10 : cellsOf ((K8.set (K3.length + 2) (.rw (u8s (encS m s i b)))).set (H.length + 1) (.rw (u8s (encS m s i b)))) (H.length + 1) = some (u8s (encS m s i b)):=zAj (zA4 _ _ _ (by rw [List.length_set]; exact zAl y8))
 have fin:=trim_adds (v:=.tup [.agg (u8s (encS m s i b)),.int .i64 0]) (zD5 (zD5 aH8 (b:=K3.length + 2) (.rw (u8s (encS m s i b))) (by omega)) (b:=H.length + 1) (.rw (u8s (encS m s i b))) (by omega)) (by simp [AV.under,zAt,zE0])
 have sl2 : ∀ X,zDb 64 1 (.ptr (K3.length + 2) 0) none none none (K3 ++ (.rw [.sl (H.length + 2) 0 1 1 1 true,l1,l2,.sl H.length 3 1 48 48 true]) :: .rw (u8s (zGf m s i b)) :: .rw (u8s z64) :: X) = some (.sl (K3.length + 2) 0 1 64 64 true):=fun X=>zCu (cs:=u8s z64) (by unfold cellsOf; simp) (by rw [zAd,zBz]; omega)
 have sl7 : zDb 64 1 (.ptr (K3.length + 2) 0) none none none K7 = some (.sl (K3.length + 2) 0 1 64 64 true):=zCu (zAj q7) (by rw [zAd,zBz]; omega)
 have sl8 : zDb 64 1 (.ptr (K3.length + 2) 0) none none none K8 = some (.sl (K3.length + 2) 0 1 64 64 true):=zCu (zAj q8) (by rw [zAd,zBz]; omega)
 have sl9 : zDb 64 1 (.ptr (K3.length + 2) 0) none none none (K8.set (K3.length + 2) (.rw (u8s (encS m s i b)))) = some (.sl (K3.length + 2) 0 1 64 64 true):=zCu c9 (by rw [zAd,le]; omega)
 have t64:=zCg le
 rw [hK6,hK4] at ck c7
 rw [K4l] at e8
 simp only [List.append_assoc,List.cons_append,List.nil_append,List.length_append,List.length_cons,List.length_nil,Nat.zero_add] at ck c7
 rw [c102]
 unfold b102
 simp -implicitDefEqProofs (maxSteps:=5000000) only [go_sem,simprocAttr,itr,itq,e0,d0,d1,ws,wi,zB9,zAd,bl,c1,cx2,c2,cx3,cx3',sA,g1.cells.1,g2.cells.1,K4l,ec,ck,c7,e8,sl2,sl7,sl8,sl9,cp,c9,wr,c10,le,t64,fin]
theorem encC {p : PgS} (h : p.Ok) (H : zAa) : (envL prog).call 102 [.agg p.cells] H = some (.tup [.agg (u8s p.enc.1),.int .i64 p.enc.2],H):=by
 unfold PgS.enc
 cases hk : zEx p.m p.i with
 | true=>exact encGood h hk H
 | false=>exact encBad h hk H
end Go.Proofs.YtbmmnfeeapnhkaaGreat.G08
end
section
namespace Go.Proofs.YtbmmnfeeapnhkaaGreat.G08
open Go Go.Proofs.YtbmmnfeeapnhkaaGreat.Eng
theorem BS.part {K : zAa} {b : Nat} {z : List Int} (h : cellsOf K b = some (u8s z)) (lo n c : Nat) (hl : lo + n ≤ z.length) : BS K (.sl b lo 1 n c true) ((z.drop lo).take n):=by
 have e : ((z.drop lo).take n).length = n:=by rw [List.length_take,List.length_drop]; omega
 refine .inr ⟨b,lo,c,true,u8s z,by rw [e],h,fun i y hy=>?_,by rw [e,zAd]; exact hl⟩
 rw [List.getElem?_take] at hy
 split at hy
 ·rw [List.getElem?_drop] at hy; exact zGh hy
 ·cases hy
set_option maxHeartbeats 4000000 in
theorem decC {z : List Int} (hz : B64 z) (H : zAa) : (envL prog).call 121 [.agg (u8s z)] H = some (.tup [.agg (decS z).1.cells,.int .i64 (decS z).2],H):=by
 have ok:=zWc hz
 obtain ⟨hl,hu⟩:=hz
 obtain ⟨y,hy⟩ : ∃ y,z[0]? = some y:=⟨_,List.getElem?_eq_getElem (by omega)⟩
 have h0 : (u8s z)[0]? = some (.int .u8 (rawS z).m):=by
  show _ = some (AV.int .u8 ((z[0]?).getD 0))
  rw [hy]; exact zGh hy
 have l1 : ((z.drop 1).take 4).length = 4:=by simp [hl]
 have l2 : ((z.drop 5).take 2).length = 2:=by simp [hl]
 have u1 : IsU8 ((z.drop 1).take 4):=fun y hy=>hu y (List.mem_of_mem_drop (List.mem_of_mem_take hy))
 have u2 : IsU8 ((z.drop 5).take 2):=fun y hy=>hu y (List.mem_of_mem_drop (List.mem_of_mem_take hy))
 have lo4 : ∀ b o c,4 ≤ c → zDz (.sl b o 1 4 c true):=fun b o c h b' o' s' n' l' e' q=>by injection q; omega
 have lo2 : ∀ b o c,2 ≤ c → zDz (.sl b o 1 2 c true):=fun b o c h b' o' s' n' l' e' q=>by injection q; omega
 have g1 : ∀ K,cellsOf K H.length = some (u8s z) → (envL prog).call 139 [.sl H.length 1 1 4 63 true] K = some (.int .u64 (rawS z).s,K):=fun K hK=>getC (BS.part hK 1 4 63 (by omega)) u1 (by omega) (lo4 _ _ _ (by omega))
 have g2 : ∀ K,cellsOf K H.length = some (u8s z) → (envL prog).call 139 [.sl H.length 5 1 2 59 true] K = some (.int .u64 (rawS z).i,K):=fun K hK=>getC (BS.part hK 5 2 59 (by omega)) u2 (by omega) (lo2 _ _ _ (by omega))
 have s1 : ∀ K,cellsOf K H.length = some (u8s z) → zDb 64 1 (.ptr H.length 0) (some (.int .i64 1)) (some (.int .i64 5)) none K = some (.sl H.length 1 1 4 63 true):=fun K hK=>zHi 1 5 hK (by rw [zAd]; omega) (by omega) (by omega)
 have s2 : ∀ K,cellsOf K H.length = some (u8s z) → zDb 64 1 (.ptr H.length 0) (some (.int .i64 5)) (some (.int .i64 7)) none K = some (.sl H.length 5 1 2 59 true):=fun K hK=>zHi 5 7 hK (by rw [zAd]; omega) (by omega) (by omega)
 have s3 : ∀ K,cellsOf K H.length = some (u8s z) → zDb 64 1 (.ptr H.length 0) (some (.int .i64 7)) (some (.int .i64 55)) none K = some (.sl H.length 7 1 48 57 true):=fun K hK=>zHi 7 55 hK (by rw [zAd]; omega) (by omega) (by omega)
 have hi:=zF1 u2
 rw [l2] at hi
 have wi : IntKind.i64.wrap (rawS z).i = (rawS z).i:=zAq (by show _ ≤ getS _; omega) (by show getS _ ≤ _; omega)
 have ws : IntKind.u32.wrap (rawS z).s = (rawS z).s:=by
  show (rawS z).s % 4294967296 = _
  have:=ok.s; omega
 have ec:=fun K : zAa=>encC ok K
 have en : decS z = if (rawS z).enc.2 = 0 ∧ (rawS z).enc.1 = z then (rawS z,0) else (zpg,11):=rfl
 have eb : (rawS z).b = (z.drop 7).take 48:=rfl
 have b48:=ok.b.1
 rw [en]
 have B:=ok.b.1
 unfold PgS.cells at ec
 generalize hp : rawS z = p at *
 obtain ⟨m,s,i,b⟩:=p
 simp only at *
 have c0 : (AV.int .u8 m :: .int .u32 s :: .int .i64 i :: u8s b).length = 51:=by simp [zAd,b48]
 have sp1 : ∀ x y w,zBp (AV.int .u8 0 :: .int .u32 0 :: .int .i64 0 :: u8s zA2) 0 (AV.int .u8 x :: .int .u32 y :: .int .i64 w :: u8s zA2) = AV.int .u8 x :: .int .u32 y :: .int .i64 w :: u8s zA2:=fun x y w=>rfl
 have zl : zA2.length = 48:=zB7.1
 have s4 : ∀ (X : zAa),zDb 48 1 (.ptr (H.length + 2) 3) none none none (H ++ .rw (u8s z) :: .rw (.int .u8 0 :: .int .u32 0 :: .int .i64 0 :: u8s zA2) :: .rw (.int .u8 m :: .int .u32 s :: .int .i64 i :: u8s zA2) :: X) = some (.sl (H.length + 2) 3 1 48 48 true):=fun X=>zCu (cs:=AV.int .u8 m :: .int .u32 s :: .int .i64 i :: u8s zA2) (by unfold cellsOf; simp) (by simp [zAd,zl])
 have s5 : ∀ (X : zAa),zDb 48 1 (.ptr (H.length + 2) 3) none none none (H ++ .rw (u8s z) :: .rw (.int .u8 0 :: .int .u32 0 :: .int .i64 0 :: u8s zA2) :: .rw (.int .u8 m :: .int .u32 s :: .int .i64 i :: u8s b) :: X) = some (.sl (H.length + 2) 3 1 48 48 true):=fun X=>zCu (cs:=AV.int .u8 m :: .int .u32 s :: .int .i64 i :: u8s b) (by unfold cellsOf; simp) (by simp [zAd,b48])
 have cp : zJc (ty 1 false 1 [.int .u8 0]) (.sl (H.length + 2) 3 1 48 48 true) (.sl H.length 7 1 48 57 true) (H ++ [.rw (u8s z),.rw (.int .u8 0 :: .int .u32 0 :: .int .i64 0 :: u8s zA2),.rw (.int .u8 m :: .int .u32 s :: .int .i64 i :: u8s zA2)]) = some (.int .i64 48,H ++ [.rw (u8s z),.rw (.int .u8 0 :: .int .u32 0 :: .int .i64 0 :: u8s zA2),.rw (.int .u8 m :: .int .u32 s :: .int .i64 i :: u8s b)]):=by
  have rd : zBx 1 48 (.sl H.length 7 1 48 57 true) (H ++ [.rw (u8s z),.rw (.int .u8 0 :: .int .u32 0 :: .int .i64 0 :: u8s zA2),.rw (.int .u8 m :: .int .u32 s :: .int .i64 i :: u8s zA2)]) = some (u8s b):=by
   have bp:=(BS.part (K:=H ++ [.rw (u8s z),.rw (.int .u8 0 :: .int .u32 0 :: .int .i64 0 :: u8s zA2),.rw (.int .u8 m :: .int .u32 s :: .int .i64 i :: u8s zA2)]) (b:=H.length) (z:=z) (by unfold cellsOf; simp) 7 48 57 (by omega)).src.cells
   rw [← eb,b48] at bp
   exact bp
  unfold zJc
  show ((zBx 1 48 _ _).bind _) = _
  rw [rd]
  simp only [Option.bind_some]
  rw [if_neg (by omega),zAv (cs:=AV.int .u8 m :: .int .u32 s :: .int .i64 i :: u8s zA2) (by simp),if_pos ⟨by simp [zAd,b48,zl],zAo _⟩]
  simp only [Option.map_some,Option.some.injEq,Prod.mk.injEq]
  refine ⟨rfl,?_⟩
  rw [zAs _ _ _ (by rw [zAd]; omega),List.drop_of_length_le (by simp [zAd,b48,zl]),List.append_nil]
  simp
 have t51 : (AV.int .u8 m :: .int .u32 s :: .int .i64 i :: u8s b).take 51 = AV.int .u8 m :: .int .u32 s :: .int .i64 i :: u8s b:=List.take_of_length_le (by omega)
 have z51 : (AV.int .u8 0 :: .int .u32 0 :: .int .i64 0 :: u8s zA2).take 51 = AV.int .u8 0 :: .int .u32 0 :: .int .i64 0 :: u8s zA2:=List.take_of_length_le (by simp [zAd,zl])
 have sp2 : zBp (AV.int .u8 0 :: .int .u32 0 :: .int .i64 0 :: u8s zA2) 0 (AV.int .u8 m :: .int .u32 s :: .int .i64 i :: u8s b) = AV.int .u8 m :: .int .u32 s :: .int .i64 i :: u8s b:=by
  rw [zAs _ _ _ (by simp),List.drop_of_length_le (by simp [zAd,b48,zl]),List.append_nil]
  simp
 have t48:=zCg b48
 have tz48:=zCg zl
 have e64 : ((⟨m,s,i,b⟩ : PgS).enc.1).length = 64:=by
  unfold PgS.enc
  split
  ·exact (zSi ok.m ok.b).1
  ·exact zBz
 have sp3:=zCn zBz e64 (by omega)
 have ut : ∀ n,zAt n (u8s b) = true:=fun n=>zE0 _ n
 have uz : ∀ n,zAt n (u8s zA2) = true:=fun n=>zE0 _ n
 have te:=zCg e64
 have tz:=zCg hl
 have ne:=ne_u8 (n:=64) e64 hl
 rw [c121]
 unfold b121
 by_cases he : (⟨m,s,i,b⟩ : PgS).enc.2 = 0
 ·have n0 : ((⟨m,s,i,b⟩ : PgS).enc.2 != 0) = false:=by rw [he]; rfl
  by_cases hq : (⟨m,s,i,b⟩ : PgS).enc.1 = z
  ·rw [if_pos ⟨he,hq⟩]
   have dq:=decide_eq_true hq
   simp -implicitDefEqProofs (maxSteps:=5000000) only [go_sem,simprocAttr,itr,itq,zI2,h0,s1,s2,s3,s4,s5,g1,g2,ws,wi,zB9,zBe,zAd,hl,zl,b48,sp1,sp2,sp3,zAo,cp,t51,z51,t48,tz48,ec,e64,zBz,te,tz,n0,ne,dq,ut,uz,PgS.cells]
   done
  ·rw [if_neg (fun h=>hq h.2)]
   have dq:=decide_eq_false hq
   simp -implicitDefEqProofs (maxSteps:=5000000) only [go_sem,simprocAttr,itr,itq,zI2,h0,s1,s2,s3,s4,s5,g1,g2,ws,wi,zB9,zBe,zAd,hl,zl,b48,sp1,sp2,sp3,zAo,cp,t51,z51,t48,tz48,ec,e64,zBz,te,tz,n0,ne,dq,ut,uz,PgS.cells,zpg]
   done
 ·rw [if_neg (fun h=>he h.1)]
  have n0 : ((⟨m,s,i,b⟩ : PgS).enc.2 != 0) = true:=by simpa using he
  simp -implicitDefEqProofs (maxSteps:=5000000) only [go_sem,simprocAttr,itr,itq,zI2,h0,s1,s2,s3,s4,s5,g1,g2,ws,wi,zB9,zBe,zAd,hl,zl,b48,sp1,sp2,sp3,zAo,cp,t51,z51,t48,tz48,ec,e64,zBz,te,tz,n0,ne,ut,uz,PgS.cells,zpg]
  done
end Go.Proofs.YtbmmnfeeapnhkaaGreat.G08
end
section
namespace Go.Proofs.YtbmmnfeeapnhkaaGreat.G08
open Go Go.Proofs.YtbmmnfeeapnhkaaGreat.Eng
section
variable {H : zAa} {w : AV} {zs : List Int} (b : BS H w zs) (hu : IsU8 zs)
include b hu
end
end Go.Proofs.YtbmmnfeeapnhkaaGreat.G08
end
section
namespace Go.Proofs.YtbmmnfeeapnhkaaGreat.G08
open Go Go.Proofs.YtbmmnfeeapnhkaaGreat.Eng
end Go.Proofs.YtbmmnfeeapnhkaaGreat.G08
end
section
namespace Go.Proofs.YtbmmnfeeapnhkaaGreat.G08
open Go Go.Proofs.YtbmmnfeeapnhkaaGreat.Eng
end Go.Proofs.YtbmmnfeeapnhkaaGreat.G08
end
section
namespace Go.Proofs.YtbmmnfeeapnhkaaGreat.G08
open Go Go.Proofs.YtbmmnfeeapnhkaaGreat.Eng
noncomputable abbrev LQ (l : Env → CT):=(envL prog).loop (runC (envL prog) (l (envL prog)))
theorem zNv (h : zAa) : (envL prog).call 79 [.nilPtr] h = some (.int .i64 0,h):=by
 rw [c79]
 unfold b79
 simp -implicitDefEqProofs (maxSteps:=5000000) only [go_sem,simprocAttr]
section
variable {H : zAa} {p d c : Nat} {L : List (AV × Sec)} (m : DK H p d c L)
include m
theorem zIj : (envL prog).call 79 [.ptr p 0] H = some (.int .i64 (L.length : Int),H):=by
 have hm:=m.ptr
 rw [c79]
 unfold b79
 simp -implicitDefEqProofs (maxSteps:=5000000) only [go_sem,simprocAttr,hm]
theorem zQf {i : Nat} (hi : i < L.length) : (envL prog).call 118 [.ptr p 0,.int .i64 (i : Int)] H = some (.ptr d (i * 65),H):=by
 have hm:=m.ptr
 have hl:=zIj m
 have ix:=zEf d 65 L.length L.length i true .i64 (by omega) hi
 have d1 : decide ((i : Int) < 0) = false:=decide_eq_false (by omega)
 have d2 : decide ((i : Int) ≥ (L.length : Int)) = false:=decide_eq_false (by omega)
 have u:=zAl m.blk
 have hu : (AV.ptr d (i * 65)).under H.length = true:=by simp [AV.under,u]
 rw [c118]
 unfold b118
 simp -implicitDefEqProofs (maxSteps:=5000000) only [go_sem,simprocAttr,hm,hl,d1,d2,ix,hu]
set_option maxHeartbeats 1000000 in
theorem lastC {i : Nat} {x : AV × Sec} (hi : L[i]? = some x) : (envL prog).call 125 [.ptr d (i * 65)] H = some (.agg (u8s x.2.last),H):=by
 obtain ⟨cs,hc,hv,hle,htk,_⟩:=m.row hi
 obtain ⟨gv,ok,cap⟩:=m.vs.at hi
 have cb:=m.vs.cb
 obtain ⟨hl,hr⟩:=zMz gv ok
 have ul:=zE0 x.2.last H.length
 have l64:=ok.last.1
 have w64 : (u8s x.2.last).length = 64:=by rw [zAd]; exact l64
 have uc:=zAo x.2.last
 have sp:=zGk (.int .u8 0) l64 (by omega)
 have tk:=zCg l64
 rw [c125]
 unfold b125
 rcases hr with ⟨h0,h1⟩ | ⟨b,cs2,z,hz,h1,hp,hc2,hle2,htk2⟩
 ·have e : x.2.last = x.2.there:=by unfold Sec.last; rw [h0]; rfl
  rw [e] at ul w64 uc sp tk ⊢
  rw [h1] at hv
  have d0 : decide ((0 : Int) > 0) = false:=rfl
  simp -implicitDefEqProofs (maxSteps:=5000000) only [go_sem,simprocAttr,zAy hc,hc,hv,hle,htk,d0,zCj,zAw,w64,uc,sp,tk,zDj,ul]
 ·have e : x.2.last = z:=by unfold Sec.last; rw [hz]; rfl
  rw [e] at ul w64 uc sp tk ⊢
  rw [h1] at hv
  generalize x.2.vers.length = n at *
  have d0 : decide ((n : Int) > 0) = true:=decide_eq_true (by omega)
  have e1 : IntKind.i64.wrap ((n : Int) - 1) = ((n - 1 : Nat) : Int):=by rw [zAq (by omega) (by omega)]; omega
  have ix:=zEf b 64 n n (n - 1) false .i64 (by omega) (by omega)
  simp -implicitDefEqProofs (maxSteps:=5000000) only [go_sem,simprocAttr,zAy hc,zAy hc2,hc,hv,hc2,hle2,htk2,d0,e1,ix,zCj,zAw,w64,uc,sp,tk,zDj,ul]
set_option maxHeartbeats 1000000 in
theorem zXx {i : Nat} {x : AV × Sec} (hi : L[i]? = some x) : (envL prog).call 93 [.ptr p 0,.int .i64 (i : Int)] H = some (.tup [.agg (u8s x.2.last),.int .i64 0],H):=by
 have ok:=(m.vs.at hi).2.1
 have lt : i < L.length:=(List.getElem?_eq_some_iff.1 hi).1
 have a:=fun B=>m.fr (Fr.adds ⟨B,rfl⟩ (fun _=>False)) (fun _ _ h=>h)
 have c1:=fun B=>zQf (a B) lt
 have c2:=fun B=>lastC (a B) hi
 have ul:=zE0 x.2.last H.length
 have l64:=ok.last.1
 have w64 : (u8s x.2.last).length = 64:=by rw [zAd]; exact l64
 have uc:=zAo x.2.last
 have sp:=zGk (.int .u8 0) l64 (by omega)
 have tk:=zCg l64
 rw [c93]
 unfold b93
 simp -implicitDefEqProofs (maxSteps:=5000000) only [go_sem,simprocAttr,c1,c2,zCj,zAw,w64,uc,sp,tk,zDj,ul]
set_option maxHeartbeats 1000000 in
theorem zMl {i : Nat} {x : AV × Sec} (hi : L[i]? = some x) {z : List Int} (hz : B64 z) (hc : c + 1 ≤ 1000000000) : ∃ H' v,DK H' p d (c + 1) (L.set i (v,⟨x.2.there,x.2.vers ++ [z]⟩)) ∧ (∃ b,slb v = some b ∧ H.length ≤ b) ∧ Fr H H' (fun b=>b = d ∨ slb x.1 = some b) ∧
  (envL prog).call 81 [.ptr p 0,.int .i64 (i : Int),.agg (u8s z)] H = some (.int .i64 0,H'):=by
 have lt : i < L.length:=(List.getElem?_eq_some_iff.1 hi).1
 obtain ⟨cs,hcs,hv,hle,htk,_⟩:=m.row hi
 have a:=fun B=>m.fr (Fr.adds ⟨B,rfl⟩ (fun _=>False)) (fun _ _ h=>h)
 have c1:=fun B=>zQf (a B) lt
 have l64:=hz.1
 have w64 : (u8s z).length = 64:=by rw [zAd]; exact l64
 have sp:=zGk (.int .u8 0) l64 (by omega)
 have tk:=zCg l64
 obtain ⟨H3,H4,v,ha,hvc,hva,w,m4,hb,f,t⟩:=m.more hi hz hc [.rw (u8s z),.rw (u8s z)] (y:=.sl (H.length + 1) 0 64 1 1 true) rfl (Src.block (k:=64) (n:=1) (show cellsOf (H ++ [ABlk.rw (u8s z),ABlk.rw (u8s z)]) (H.length + 1) = some (u8s z) by unfold cellsOf; simp) (by rw [w64]) (zAo z)).cells
 refine ⟨H4,v,m4,hb,f,?_⟩
 rw [c81]
 unfold b81
 simp -implicitDefEqProofs (maxSteps:=5000000) only [go_sem,simprocAttr,c1,zAy hcs,hv,w64,sp,tk,ha,zAw,hva,w,t,zDj]
set_option maxHeartbeats 1000000 in
theorem zVh {i : Nat} {x : AV × Sec} (hi : L[i]? = some x) {z : List Int} (hz : B64 z) : (envL prog).call 115 [.ptr d (i * 65),.agg (u8s z)] H = some (.tup [],setD H d (L.set i (.nilSl,⟨z,[]⟩))):=by
 have l64:=hz.1
 have w64 : (u8s z).length = 64:=by rw [zAd]; exact l64
 have tk:=zCg l64
 have uc:=zAo z
 have hd:=zAl m.blk
 have hb : (H ++ [ABlk.rw (u8s z)])[d]? = some (.rw (L.map secR).flatten):=by rw [List.getElem?_append_left hd]; exact m.blk
 have w1:=DK.putT hb m.vs.ok hi l64
 have ok1 : ∀ y ∈ L.set i (x.1,⟨z,x.2.vers⟩),y.2.Ok:=fun y hy=>by
  rcases zKx hy with rfl | hy
  ·exact ⟨hz,(m.vs.at hi).2.1.v⟩
  ·exact m.vs.ok y hy
 have lt : i < L.length:=(List.getElem?_eq_some_iff.1 hi).1
 have w2:=DK.putV (H:=(H ++ [ABlk.rw (u8s z)]).set d (.rw ((L.set i (x.1,⟨z,x.2.vers⟩)).map secR).flatten)) (zA4 _ _ _ (by simp; omega)) ok1 (List.getElem?_set_self lt) (v:=.nilSl) rfl []
 rw [List.set_set,List.set_set] at w2
 have e : (H ++ [ABlk.rw (u8s z)]).set d (.rw ((L.set i (.nilSl,⟨z,[]⟩)).map secR).flatten) = setD H d (L.set i (.nilSl,⟨z,[]⟩)) ++ [ABlk.rw (u8s z)]:=by
  unfold setD
  rw [List.set_append_left _ _ hd]
 rw [e] at w2
 generalize hG : (H ++ [ABlk.rw (u8s z)]).set d (.rw ((L.set i (x.1,⟨z,x.2.vers⟩)).map secR).flatten) = G at w1 w2
 have t : trim H (some (.tup [],setD H d (L.set i (.nilSl,⟨z,[]⟩)) ++ [ABlk.rw (u8s z)])) = some (.tup [],setD H d (L.set i (.nilSl,⟨z,[]⟩))):=by
  have ms:=m.settle hi hz
  have hl : (setD H d (L.set i (.nilSl,⟨z,[]⟩))).length = H.length:=by unfold setD; simp
  rw [zE1 (by simp [hl]) rfl (fun b k' hb hk=>?_)]
  ·rw [← hl,List.take_left]
  ·rw [List.getElem?_append_left (by omega)] at hk
   by_cases e : b = d
   ·subst e
    rw [ms.blk] at hk
    injection hk with hk; subst hk
    have:=zDx ms.vs
    rw [hl] at this
    exact .inr this
   ·unfold setD at hk
    rw [zAf _ _ _ _ e] at hk
    exact .inl hk
 rw [c115]
 unfold b115
 simp -implicitDefEqProofs (maxSteps:=5000000) only [go_sem,simprocAttr,w64,uc,tk,zAw,w1,w2,t,zDj]
end
end Go.Proofs.YtbmmnfeeapnhkaaGreat.G08
end
section
namespace Go.Proofs.YtbmmnfeeapnhkaaGreat.G08
open Go Go.Proofs.YtbmmnfeeapnhkaaGreat.Eng
def zS5 (y q p d n : Nat) (Y : Nat → zAa → Prop) : Prop :=
 ∀ i K,Y i K → i < n → ∃ c L x,DK K p d c L ∧ L.length = n ∧ cellsOf K q = some [.ptr p 0] ∧ L[i]? = some x ∧ (x.2.vers = [] → Y (i + 1) K) ∧ (x.2.vers ≠ [] → ∃ K',Y (i + 1) K' ∧ (envL prog).yield y [.int .i64 (i : Int),.ptr d (i * 65)] K = some (.bool true,K'))
set_option maxHeartbeats 2000000 in
theorem looseL {y q p d n : Nat} {Y : Nat → zAa → Prop} (hY : zS5 y q p d n Y) (hn : n ≤ 4096) (x2 x5 : AV) : ∀ (k i : Nat) (K : zAa) (j3 j4 j8 j9 j10 j11 j12 j13 j14 j15 j16 j17 j18 j19 j20 j21 j22 j23 j24 j25 j26 : AV),Y i K → i + k = n →
  Outs (LQ l134x0 [.yld y,.ptr q 0,x2,j3,j4,x5,.int .i64 (n : Int),.int .i64 (i : Int),j8,j9,j10,j11,j12,j13,j14,j15,j16,j17,j18,j19,j20,j21,j22,j23,j24,j25,j26] K) fun e t K'=>e = .exit 0 ∧ Y n K' ∧ ∃ k : Nat → AV,t = [.yld y,.ptr q 0,x2,(k 3),(k 4),x5,.int .i64 (n : Int),(k 7),(k 8),(k 9),(k 10),(k 11),(k 12),(k 13),(k 14),(k 15),(k 16),(k 17),(k 18),(k 19),(k 20),(k 21),(k 22),(k 23),(k 24),(k 25),(k 26)]:=by
 intro k
 obtain ⟨L,hL⟩ : ∃ L,L = LQ l134x0:=⟨_,rfl⟩
 have lo:=zBc hL
 rw [← hL]
 induction k with
 | zero =>
  intro i K j3 j4 j8 j9 j10 j11 j12 j13 j14 j15 j16 j17 j18 j19 j20 j21 j22 j23 j24 j25 j26 hK hi
  obtain rfl : i = n:=by omega
  have hd : decide ((i : Int) < (i : Int)) = false:=by simp
  rw [lo]
  unfold l134x0
  simp -implicitDefEqProofs (maxSteps:=5000000) only [go_sem,simprocAttr,hd,zAu,zAc]
  exact ⟨hK,exF rfl⟩
 | succ k ih =>
  intro i K j3 j4 j8 j9 j10 j11 j12 j13 j14 j15 j16 j17 j18 j19 j20 j21 j22 j23 j24 j25 j26 hK hi
  have hlt : i < n:=by omega
  have hd : decide ((i : Int) < (n : Int)) = true:=decide_eq_true (by omega)
  have e2 : IntKind.i64.wrap ((i : Int) + 1) = ((i + 1 : Nat) : Int):=by rw [zAq (by omega) (by omega)]; omega
  obtain ⟨c,D,x,m,hDn,hq,hx,h0,h1⟩:=hY i K hK hlt
  have c1:=zQf m (i:=i) (by omega)
  obtain ⟨cs,hc,hv,hle,htk,_⟩:=m.row hx
  obtain ⟨gv,ok,cap⟩:=m.vs.at hx
  obtain ⟨hl,hr⟩:=zMz gv ok
  rw [lo]
  unfold l134x0
  rcases hr with ⟨z0,z1⟩ | ⟨b,cs2,z,hz,z1,hp,_,_,_⟩
  ·rw [z1] at hv
   have d0 : decide ((0 : Int) > 0) = false:=rfl
   simp -implicitDefEqProofs (maxSteps:=5000000) only [go_sem,simprocAttr,hd,hq,c1,hc,hv,d0,e2]
   exact ih (i + 1) K _ _ _ _ _ _ _ _ _ _ _ _ _ _ _ _ _ _ _ _ _ (h0 z0) (by omega)
  ·rw [z1] at hv
   obtain ⟨K',hK',hy⟩:=h1 (fun e=>by rw [e] at hp; simp at hp)
   have d0 : decide ((x.2.vers.length : Int) > 0) = true:=decide_eq_true (by omega)
   simp -implicitDefEqProofs (maxSteps:=5000000) only [go_sem,simprocAttr,hd,hq,c1,hc,hv,d0,e2,zE8,hy]
   exact ih (i + 1) K' _ _ _ _ _ _ _ _ _ _ _ _ _ _ _ _ _ _ _ _ _ hK' (by omega)
set_option maxHeartbeats 2000000 in
theorem looseC {y q p d n : Nat} {Y : Nat → zAa → Prop} (hY : zS5 y q p d n Y) (hn : n ≤ 4096) {K : zAa} (hK : Y 0 K) (hq : cellsOf K q = some [.ptr p 0]) {c : Nat} {L : List (AV × Sec)} (m : DK K p d c L) (hLn : L.length = n) :
  ∃ K',Y n K' ∧ (envL prog).call 134 [.yld y,.ptr q 0] K = trim K (some (.tup [],K')):=by
 have l0:=looseL hY hn (k:=n) (i:=0)
 rw [show ((0 : Nat) : Int) = 0 from rfl] at l0
 have c1:=zIj m
 rw [hLn] at c1
 have o : Outs (runC (envL prog) (b134 (envL prog)) ([.yld y,.ptr q 0] ++ List.replicate (27 - [AV.yld y,.ptr q 0].length) .undef) K) fun e' t K'=>Y n K' ∧ fin [] (some (e',t,K')) = some (.tup [],K'):=by
  unfold b134
  generalize hQ : (fun (e' : Ex) (t : T) (K' : zAa)=>Y n K' ∧ fin [] (some (e',t,K')) = some (.tup [],K')) = Q
  simp -implicitDefEqProofs (maxSteps:=5000000) only [go_sem,simprocAttr,zA6,hq,c1]
  unfold LQ at l0
  generalize (envL prog).loop (runC (envL prog) (l134x0 (envL prog))) = L0 at l0 ⊢
  refine zBo (fun r=>zBr 0 r) (l0 _ _ _ _ _ _ _ _ _ _ _ _ _ _ _ _ _ _ _ _ _ _ _ _ hK (by omega)) ?_
  rintro e t H' ⟨rfl,hK',k,rfl⟩
  simp -implicitDefEqProofs (maxSteps:=5000000) only [go_sem,simprocAttr,zAc]
  subst hQ
  refine ⟨hK',?_⟩
  simp -implicitDefEqProofs (maxSteps:=5000000) only [go_sem,simprocAttr]
 obtain ⟨e',t,H',hr,hK',hf⟩:=o
 exact ⟨H',hK',by rw [c134,hr,hf]⟩
theorem loose0 {p : Nat} (H : zAa) : (envL prog).call 114 [.ptr p 0] H = some (.fn 134 [.ptr H.length 0],H ++ [.rw [.ptr p 0]]):=by
 rw [c114]
 unfold b114
 simp -implicitDefEqProofs (maxSteps:=5000000) only [go_sem,simprocAttr]
 exact zBa (by simp [AV.under,zAt])
def flX (x : AV × Sec) : AV × Sec:=(.nilSl,⟨x.2.last,[]⟩)
def flL (L : List (AV × Sec)) (i : Nat) : List (AV × Sec):=(L.take i).map flX ++ L.drop i
theorem flL_len (L : List (AV × Sec)) {i : Nat} (h : i ≤ L.length) : (flL L i).length = L.length:=by unfold flL; simp; omega
theorem flL_get {L : List (AV × Sec)} {i : Nat} (h : i < L.length) : (flL L i)[i]? = L[i]?:=by
 unfold flL
 rw [List.getElem?_append_right (by simp; omega),List.getElem?_drop]
 congr 1
 simp; omega
theorem zSg {L : List (AV × Sec)} {i : Nat} {x : AV × Sec} (h : L[i]? = some x) : flL L (i + 1) = (flL L i).set i (flX x):=by
 have lt:=(List.getElem?_eq_some_iff.1 h).1
 have e:=(List.getElem?_eq_some_iff.1 h).2
 unfold flL
 rw [List.take_add_one,h,List.map_append,List.set_append_right _ _ (by simp; omega),List.append_assoc,List.drop_eq_getElem_cons lt,e]
 rw [show i - ((L.take i).map flX).length = 0 by simp; omega]
 rfl
theorem flL_all (L : List (AV × Sec)) : flL L L.length = L.map flX:=by unfold flL; simp
set_option maxHeartbeats 2000000 in
theorem zMm {H : zAa} {p d c : Nat} {L : List (AV × Sec)} (m : DK H p d c L) : ∃ H',DK H' p d c (L.map flX) ∧ KeepB H H' [d] ∧ (envL prog).call 101 [.ptr p 0] H = some (.int .i64 0,H'):=by
 have hd:=zAl m.blk
 have hp:=zBn m.ptr
 have it : ∀ t : T,t.length = 15 → ∃ K,(envL prog).call 134 [.yld (H.length + 1),.ptr H.length 0] (H ++ [.rw [.ptr p 0],.loop ⟨.ready,.normal,t,[9,10],zCt,zCs⟩]) = some (.tup [],K) ∧
   K.length = H.length + 2 ∧ K[H.length + 1]? = some (.loop ⟨.ready,.normal,t,[9,10],zCt,zCs⟩) ∧ DK K p d c (L.map flX) ∧ ∀ b,b < H.length → b ≠ d → K[b]? = H[b]?:=by
  intro T hT
  let Y : Nat → zAa → Prop:=fun i K=>K.length = H.length + 2 ∧ K[H.length + 1]? = some (.loop ⟨.ready,.normal,T,[9,10],zCt,zCs⟩) ∧ cellsOf K H.length = some [.ptr p 0] ∧ DK K p d c (flL L i) ∧ ∀ b,b < H.length → b ≠ d → K[b]? = H[b]?
  have hY : zS5 (H.length + 1) H.length p d L.length Y:=by
   intro i K ⟨y1,y2,y3,y4,y5⟩ hi
   obtain ⟨x,hx⟩ : ∃ x,L[i]? = some x:=⟨_,List.getElem?_eq_getElem hi⟩
   have hx2 : (flL L i)[i]? = some x:=by rw [flL_get hi,hx]
   refine ⟨c,flL L i,x,y4,flL_len L (by omega),y3,hx2,fun h0=>⟨y1,y2,y3,?_,y5⟩,fun h1=>?_⟩
   ·have e : flX x = x:=by
     have g:=(y4.vs.at hx2).1
     obtain ⟨v,s,t⟩:=x
     have h0 : t = []:=h0
     subst h0
     rcases g with ⟨_,hv⟩ | ⟨hv,_⟩
     ·have hv : v = .nilSl:=hv
      subst hv; rfl
     ·exact absurd rfl hv
    rw [zSg hx,e,show (flL L i).set i x = flL L i from by
     apply List.ext_getElem?; intro j
     by_cases ej : i = j
     ·subst ej; rw [List.getElem?_set_self (List.getElem?_eq_some_iff.1 hx2).1,hx2]
     ·rw [List.getElem?_set_ne ej]]
    exact y4
   ·have f1 : Fr K (K.set (H.length + 1) (.loop ⟨.busy,.normal,T,[9,10],zCt,zCs⟩)) (· = H.length + 1):=Fr.set _ _ rfl
    have nfp : ∀ b,fpD p d (flL L i) b → ¬ (b = H.length + 1):=fun b hb e=>by
     have:=y4.vs.ok
     rcases hb with rfl | rfl | hb
     ·omega
     ·omega
     ·obtain ⟨z,hz,hb⟩:=hb
      rcases y4.vs.ver z hz with ⟨_,h0⟩ | ⟨_,b',_,h0,hH⟩
      ·rw [h0] at hb; cases hb
      ·rw [h0] at hb; injection hb with hb; subst hb; subst e; rw [y2] at hH; cases hH
    have m1:=y4.fr f1 nfp
    have c1:=lastC m1 hx2
    have okl : B64 x.2.last:=(y4.vs.at hx2).2.1.last
    have c2:=zVh m1 hx2 okl
    have m2:=m1.settle hx2 okl
    generalize hK1 : K.set (H.length + 1) (.loop ⟨.busy,.normal,T,[9,10],zCt,zCs⟩) = K1 at *
    have l1 : K1.length = H.length + 2:=by rw [← hK1,List.length_set]; exact y1
    have b1 : K1[H.length + 1]? = some (.loop ⟨.busy,.normal,T,[9,10],zCt,zCs⟩):=by rw [← hK1]; exact zA4 _ _ _ (by omega)
    have st:=zEz (P:=prog) (l:=H.length + 1) (args:=[.int .i64 (i : Int),.ptr d (i * 65)]) (K:=K) (eaq101x0 _) (ebq101x0 _) y2 rfl
     (t1:=((T.set 9 (.int .i64 (i : Int))).set 10 (.ptr d (i * 65))).set 4 (.ptr d (i * 65))) (by
      unfold zY2
      simp -implicitDefEqProofs (maxSteps:=5000000) only [go_sem,simprocAttr,zBq,zC2,hT,List.length_set,Nat.reduceLT])
     (ex:=.normal) (t2:=((((((T.set 9 (.int .i64 (i : Int))).set 10 (.ptr d (i * 65))).set 4 (.ptr d (i * 65))).set 11 (.ptr d (i * 65))).set 12 (.ptr d (i * 65))).set 13 (.agg (u8s x.2.last))).set 14 (.tup [])) (K2:=setD K1 d ((flL L i).set i (.nilSl,⟨x.2.last,[]⟩))) (L2:=⟨.busy,.normal,T,[9,10],zCt,zCs⟩) (by
      rw [hK1]
      unfold zYv
      simp -implicitDefEqProofs (maxSteps:=5000000) only [go_sem,simprocAttr,zC2,hT,List.length_set,Nat.reduceLT,c1,c2])
     (by unfold setD; rw [zAf _ _ _ _ (by omega),b1])
    refine ⟨_,?_,st.trans (zB8 (by unfold setD; simp [l1,y1]))⟩
    have f2 : Fr (setD K1 d ((flL L i).set i (.nilSl,⟨x.2.last,[]⟩))) ((setD K1 d ((flL L i).set i (.nilSl,⟨x.2.last,[]⟩))).set (H.length + 1) (.loop ⟨.ready,.normal,T,[9,10],zCt,zCs⟩)) (· = H.length + 1):=Fr.set _ _ rfl
    have l2 : (setD K1 d ((flL L i).set i (.nilSl,⟨x.2.last,[]⟩))).length = H.length + 2:=by unfold setD; rw [List.length_set]; exact l1
    refine ⟨by rw [List.length_set]; exact l2,zA4 _ _ _ (by omega),?_,?_,fun b hb hne=>?_⟩
    ·exact f2.cells (b:=H.length) (cs:=[.ptr p 0]) (by unfold setD; rw [zBj _ _ _ _ (by omega),← hK1,zBj _ _ _ _ (by omega)]; exact y3) (by omega)
    ·rw [zSg hx]
     refine m2.fr f2 fun b hb=>?_
     rcases hb with rfl | rfl | hb
     ·omega
     ·omega
     ·rcases zQt hb with hb | hb
      ·cases hb
      ·exact nfp b (.inr (.inr hb))
    ·rw [zAf _ _ _ _ (by omega)]
     unfold setD
     rw [zAf _ _ _ _ hne,← hK1,zAf _ _ _ _ (by omega)]
     exact y5 b hb hne
  have y0 : Y 0 (H ++ [.rw [.ptr p 0],.loop ⟨.ready,.normal,T,[9,10],zCt,zCs⟩]):=by
   refine ⟨by simp,by simp,by unfold cellsOf; simp,?_,fun b hb _=>List.getElem?_append_left hb⟩
   unfold flL
   rw [List.take_zero,List.map_nil,List.nil_append,List.drop_zero]
   exact m.fr (Fr.adds ⟨_,rfl⟩ (fun _=>False)) (fun _ _ h=>h)
  obtain ⟨K,hK,e⟩:=looseC hY m.sz y0 y0.2.2.1 (m.fr (Fr.adds ⟨_,rfl⟩ (fun _=>False)) (fun _ _ h=>h)) rfl
  obtain ⟨k1,k2,k3,k4,k5⟩:=hK
  rw [flL_all] at k4
  refine ⟨K,?_,k1,k2,k4,k5⟩
  rw [e]
  exact zB8 (by rw [k1]; simp)
 obtain ⟨KK,hKK⟩:=zTd it
 have e1:=fun t ht=>(hKK t ht).1
 have e2:=fun t ht=>(hKK t ht).2.2.1
 have l0:=loose0 (p:=p) H
 have o : Outs (runC (envL prog) (b101 (envL prog)) ([.ptr p 0] ++ List.replicate (15 - [AV.ptr p 0].length) .undef) H) fun e' t K'=>(∃ t' : T,t'.length = 15 ∧ K' = (KK t').set (H.length + 1) (.loop ⟨.exhausted,.normal,t',[9,10],zCt,zCs⟩)) ∧ fin [.tmp 2] (some (e',t,K')) = some (.int .i64 0,K'):=by
  unfold b101
  generalize hQ : (fun (e' : Ex) (t : T) (K' : zAa)=>(∃ t' : T,t'.length = 15 ∧ K' = (KK t').set (H.length + 1) (.loop ⟨.exhausted,.normal,t',[9,10],zCt,zCs⟩)) ∧ fin [.tmp 2] (some (e',t,K')) = some (AV.int .i64 0,K')) = Q
  simp -implicitDefEqProofs (maxSteps:=5000000) only [go_sem,simprocAttr,l0,zDe,zF7,e1,zCr,e2,zAc]
  subst hQ
  refine ⟨⟨_,rfl,rfl⟩,?_⟩
  simp -implicitDefEqProofs (maxSteps:=5000000) only [go_sem,simprocAttr]
 obtain ⟨e',t,K',hr,⟨t',ht,rfl⟩,hf⟩:=o
 obtain ⟨_,k1,k2,k4,k5⟩:=hKK t' ht
 have hl : ((KK t').set (H.length + 1) (.loop ⟨.exhausted,.normal,t',[9,10],zCt,zCs⟩)).length = H.length + 2:=by rw [List.length_set]; exact k1
 have fK : Fr H ((KK t').set (H.length + 1) (.loop ⟨.exhausted,.normal,t',[9,10],zCt,zCs⟩)) (· = d):=⟨by omega,fun b hb hn=>by
  rw [zAf _ _ _ _ (by omega)]; exact k5 b hb hn⟩
 have dk : DK (((KK t').set (H.length + 1) (.loop ⟨.exhausted,.normal,t',[9,10],zCt,zCs⟩)).take H.length) p d c (L.map flX):=by
  have nv : ∀ b,¬ fpV (L.map flX) b:=fun b ⟨x,hx,hb⟩=>by
   obtain ⟨y,_,rfl⟩:=List.mem_map.1 hx; cases hb
  refine ⟨?_,?_,m.np,by rw [List.length_map]; exact m.sz,⟨m.vs.cb,fun x hx=>?_,k4.vs.ok,k4.vs.cap,k4.vs.out,k4.vs.inj⟩⟩
  ·rw [zLz hp,zBj _ _ _ _ (by omega)]; exact k4.ptr
  ·rw [zGx hd,zAf _ _ _ _ (by omega)]; exact k4.blk
  ·obtain ⟨y,_,rfl⟩:=List.mem_map.1 hx
   exact .inl ⟨rfl,rfl⟩
 refine ⟨_,dk,⟨zHy fK.1,fun b hb=>?_⟩,?_⟩
 ·by_cases hlt : b < H.length
  ·exact (zGx hlt).trans (fK.2 b hlt (by simpa using hb))
  ·rw [List.getElem?_eq_none (by rw [zHy fK.1]; omega),List.getElem?_eq_none (by omega)]
 ·rw [c101,hr,hf]
  refine zE1 fK.1 rfl fun b k' hb hk=>?_
  by_cases e : b = d
  ·subst e
   rw [zAf _ _ _ _ (by omega),k4.blk] at hk
   injection hk with hk; subst hk
   refine .inr fun a ha=>?_
   obtain ⟨r,hr,ha⟩:=List.mem_flatten.1 ha
   obtain ⟨x,hx,rfl⟩:=List.mem_map.1 hr
   obtain ⟨y,_,rfl⟩:=List.mem_map.1 hx
   rcases List.mem_append.1 ha with ha | ha
   ·exact zOb _ _ a ha
   ·simp only [flX,List.mem_cons,List.not_mem_nil,or_false] at ha
    subst ha; rfl
  ·exact .inl ((fK.2 b hb e).symm.trans hk)
end Go.Proofs.YtbmmnfeeapnhkaaGreat.G08
end
section
namespace Go.Proofs.YtbmmnfeeapnhkaaGreat.G08
open Go Go.Proofs.YtbmmnfeeapnhkaaGreat.Eng
noncomputable abbrev LQB (l : Env → CT):=(envL prog).loop (runC (envL prog) (l (envL prog)))
noncomputable abbrev tyB : TyD:=ty 64 true 64 (rep 64 (.int .u8 0))
theorem growB {n : Nat} (h1 : 1 ≤ n) (hn : n ≤ 2000000000) (H : zAa) : (envL prog).call 135 [.nilSl,.int .i64 (n : Int)] H = some (.sl H.length 0 64 0 n false,H ++ [.rw (List.replicate n (tyB).zero).flatten]):=by
 have w0 : IntKind.i64.wrap (0 - 0) = 0:=by decide
 have w1 : IntKind.i64.wrap ((n : Int) - 0) = (n : Int):=by rw [zAq (by omega) (by omega)]; omega
 have d1 : decide ((n : Int) < 0) = false:=decide_eq_false (by omega)
 have d2 : decide ((n : Int) > 0) = true:=decide_eq_true (by omega)
 have ha:=zS4 (d:=tyB) (H:=H) (n:=n) (k:=64) (by omega) rfl (by decide) h1 (by unfold roomy; show n * 64 ≤ _; omega)
 have sl0 : zDa 64 .nilSl none (some (.int .i64 0)) none = some .nilSl:=by simp [zDa,asI]
 have sl1 : zDa 64 (.sl H.length 0 64 n n false) none (some (.int .i64 0)) none = some (.sl H.length 0 64 0 n false):=by simp [zDa,asI]
 unfold tyB at ha
 rw [c135]
 unfold b135
 have hcap : zUf .nilSl = some (.int .i64 0):=rfl
 have w00 : IntKind.i64.wrap 0 = 0:=by decide
 simp -implicitDefEqProofs (maxSteps:=5000000) only [go_sem,simprocAttr,hcap,w0,w00,w1,d1,d2,ha,sl0,sl1]
 exact zBa (by simp [AV.under])
theorem grow0B (H : zAa) : (envL prog).call 135 [.nilSl,.int .i64 0] H = some (.nilSl,H):=by
 have w0 : IntKind.i64.wrap (0 - 0) = 0:=by decide
 have d1 : decide ((0 : Int) < 0) = false:=rfl
 have d2 : decide ((0 : Int) > 0) = false:=rfl
 rw [c135]
 unfold b135
 have hcap : zUf .nilSl = some (.int .i64 0):=rfl
 have w00 : IntKind.i64.wrap 0 = 0:=by decide
 simp -implicitDefEqProofs (maxSteps:=5000000) only [go_sem,simprocAttr,hcap,w0,w00,d1,d2]
def totB (Xs : List (AV × Nat × List AV)) : Nat:=(Xs.map fun x=>x.2.1).sum
def catB (Xs : List (AV × Nat × List AV)) : List AV:=(Xs.map fun x=>x.2.2).flatten
section
variable {H : zAa} {a : Nat} {Xs : List (AV × Nat × List AV)} (ha : cellsOf H a = some (Xs.map fun x=>x.1)) (hs : ∀ x ∈ Xs,Src 64 H x.1 x.2.1 x.2.2) (ht : totB Xs ≤ 2000000000) (hX : Xs.length ≤ 1000)
include ha hs ht hX
set_option maxHeartbeats 2000000 in
theorem sumLB (x0 x1 x2 x4 x6 x7 x8 x23 x24 x25 x26 x27 x28 x29 x30 x31 x32 x33 x34 x35 : AV) : ∀ (k i : Nat) (j5 j12 j13 j14 j15 j16 j17 j18 j19 j20 j21 j22 : AV),i + k = Xs.length →
  Outs (LQB l116x0 [x0,x1,x2,.int .i64 (totB (Xs.take i) : Int),x4,j5,x6,x7,x8,.sl a 0 1 Xs.length Xs.length true,.int .i64 (Xs.length : Int),.int .i64 (i : Int),j12,j13,j14,j15,j16,j17,j18,j19,j20,j21,j22,x23,x24,x25,x26,x27,x28,x29,x30,x31,x32,x33,x34,x35] H) fun e t H'=>e = .exit 0 ∧ H' = H ∧ ∃ k : Nat → AV,t = [x0,x1,x2,.int .i64 (totB Xs : Int),x4,(k 5),x6,x7,x8,.sl a 0 1 Xs.length Xs.length true,.int .i64 (Xs.length : Int),(k 11),(k 12),(k 13),(k 14),(k 15),(k 16),(k 17),(k 18),(k 19),(k 20),(k 21),(k 22),x23,x24,x25,x26,x27,x28,x29,x30,x31,x32,x33,x34,x35]:=by
 intro k
 obtain ⟨L,hL⟩ : ∃ L,L = LQB l116x0:=⟨_,rfl⟩
 have lo:=zBc hL
 rw [← hL]
 induction k with
 | zero =>
  intro i j5 j12 j13 j14 j15 j16 j17 j18 j19 j20 j21 j22 hi
  obtain rfl : i = Xs.length:=by omega
  have hd : decide ((Xs.length : Int) < (Xs.length : Int)) = false:=by simp
  rw [List.take_length,lo]
  unfold l116x0
  simp -implicitDefEqProofs (maxSteps:=5000000) only [go_sem,simprocAttr,hd,zAu,zAc]
  exact exF rfl
 | succ k ih =>
  intro i j5 j12 j13 j14 j15 j16 j17 j18 j19 j20 j21 j22 hi
  have hlt : i < Xs.length:=by omega
  have hx:=List.getElem?_eq_getElem hlt
  have hv:=zCf (fun x : AV × Nat × List AV=>x.1) hx
  have sx:=hs _ (List.getElem_mem hlt)
  generalize Xs[i] = x at *
  have hd : decide ((i : Int) < (Xs.length : Int)) = true:=decide_eq_true (by omega)
  have et : totB (Xs.take (i + 1)) = totB (Xs.take i) + x.2.1:=by unfold totB; rw [List.take_add_one,hx]; simp
  have le : totB (Xs.take (i + 1)) ≤ totB Xs:=by
   unfold totB
   rw [← List.take_append_drop (i + 1) Xs,List.map_append,List.sum_append,List.take_append_drop]
   exact Nat.le_add_right _ _
  have e2 : IntKind.i64.wrap ((i : Int) + 1) = ((i + 1 : Nat) : Int):=by
   skip
   rw [zAq (by omega) (by omega)]; omega
  have e3 : IntKind.i64.wrap ((totB (Xs.take i) : Int) + (x.2.1 : Int)) = (totB (Xs.take (i + 1)) : Int):=by rw [zAq (by omega) (by omega)]; omega
  have d3 : decide ((totB (Xs.take (i + 1)) : Int) < 0) = false:=decide_eq_false (by omega)
  have ix:=zEf a 1 Xs.length Xs.length i true .i64 (by omega) hlt
  rw [Nat.mul_one] at ix
  have hl:=sx.len
  rw [lo]
  unfold l116x0
  simp -implicitDefEqProofs (maxSteps:=5000000) only [go_sem,simprocAttr,hd,ix,ha,hv,hl,e2,e3,d3]
  exact ih (i + 1) _ _ _ _ _ _ _ _ _ _ _ _ (by omega)
def OutB (H : zAa) (Xs : List (AV × Nat × List AV)) (i : Nat) (l : AV) (H' : zAa) : Prop :=
 (totB Xs = 0 ∧ l = .nilSl ∧ H' = H) ∨ (totB Xs ≠ 0 ∧ l = .sl H.length 0 64 (totB (Xs.take i)) (totB Xs) false ∧ ∃ Z : List AV,Z.length + totB (Xs.take i) * 64 = totB Xs * 64 ∧ H' = H ++ [.rw (catB (Xs.take i) ++ Z)])
theorem zYn : ∀ i,(catB (Xs.take i)).length = totB (Xs.take i) * 64:=by
 intro i
 have : ∀ Ys : List (AV × Nat × List AV),(∀ x ∈ Ys,x.2.2.length = x.2.1 * 64) → (catB Ys).length = totB Ys * 64:=by
  intro Ys
  induction Ys with
  | nil=>intro _; rfl
  | cons x Ys ih =>
   intro h
   have e:=ih fun y hy=>h y (by simp [hy])
   unfold catB totB at e ⊢
   rw [List.map_cons,List.map_cons,List.flatten_cons,List.sum_cons,List.length_append,e,h x (by simp),Nat.add_mul]
 exact this _ fun x hx=>(hs x (List.mem_of_mem_take hx)).clen
set_option maxHeartbeats 2000000 in
theorem catLB (x0 x1 x2 x3 x4 x5 x7 x9 x10 x11 x12 x13 x14 x15 x16 x17 x18 x19 x20 x21 x22 x23 x24 x35 : AV) : ∀ (k i : Nat) (l : AV) (H1 : zAa) (j8 j28 j29 j30 j31 j32 j33 j34 : AV),OutB H Xs i l H1 → i + k = Xs.length →
  Outs (LQB l116x1 [x0,x1,x2,x3,x4,x5,l,x7,j8,x9,x10,x11,x12,x13,x14,x15,x16,x17,x18,x19,x20,x21,x22,x23,x24,.sl a 0 1 Xs.length Xs.length true,.int .i64 (Xs.length : Int),.int .i64 (i : Int),j28,j29,j30,j31,j32,j33,j34,x35] H1) fun e t H'=>e = .exit 2 ∧ ∃ l',OutB H Xs Xs.length l' H' ∧ ∃ k : Nat → AV,t = [x0,x1,x2,x3,x4,x5,l',x7,(k 8),x9,x10,x11,x12,x13,x14,x15,x16,x17,x18,x19,x20,x21,x22,x23,x24,.sl a 0 1 Xs.length Xs.length true,.int .i64 (Xs.length : Int),(k 27),(k 28),(k 29),(k 30),(k 31),(k 32),(k 33),(k 34),x35]:=by
 intro k
 obtain ⟨L,hL⟩ : ∃ L,L = LQB l116x1:=⟨_,rfl⟩
 have lo:=zBc hL
 rw [← hL]
 induction k with
 | zero =>
  intro i l H1 j8 j28 j29 j30 j31 j32 j33 j34 ho hi
  obtain rfl : i = Xs.length:=by omega
  have hd : decide ((Xs.length : Int) < (Xs.length : Int)) = false:=by simp
  rw [lo]
  unfold l116x1
  simp -implicitDefEqProofs (maxSteps:=5000000) only [go_sem,simprocAttr,hd,zAu,zAc]
  exact ⟨l,ho,exF rfl⟩
 | succ k ih =>
  intro i l H1 j8 j28 j29 j30 j31 j32 j33 j34 ho hi
  have hlt : i < Xs.length:=by omega
  have cl:=zYn ha hs ht hX
  have hx:=List.getElem?_eq_getElem hlt
  have hv:=zCf (fun x : AV × Nat × List AV=>x.1) hx
  have sx:=hs _ (List.getElem_mem hlt)
  generalize Xs[i] = x at *
  have hd : decide ((i : Int) < (Xs.length : Int)) = true:=decide_eq_true (by omega)
  have et : totB (Xs.take (i + 1)) = totB (Xs.take i) + x.2.1:=by unfold totB; rw [List.take_add_one,hx]; simp
  have ec : catB (Xs.take (i + 1)) = catB (Xs.take i) ++ x.2.2:=by unfold catB; rw [List.take_add_one,hx]; simp
  have le : totB (Xs.take (i + 1)) ≤ totB Xs:=by
   unfold totB
   rw [← List.take_append_drop (i + 1) Xs,List.map_append,List.sum_append,List.take_append_drop]
   exact Nat.le_add_right _ _
  have e2 : IntKind.i64.wrap ((i : Int) + 1) = ((i + 1 : Nat) : Int):=by rw [zAq (by omega) (by omega)]; omega
  have ix:=zEf a 1 Xs.length Xs.length i true .i64 (by omega) hlt
  rw [Nat.mul_one] at ix
  obtain ⟨l2,H2,ho2,ea⟩ : ∃ l2 H2,OutB H Xs (i + 1) l2 H2 ∧ app tyB l x.1 H1 = some (l2,H2):=by
   rcases ho with ⟨h0,rfl,rfl⟩ | ⟨h0,rfl,Z,hZ,rfl⟩
   ·have : x.2.1 = 0:=by omega
    rw [this] at sx
    exact ⟨_,_,.inl ⟨h0,rfl,rfl⟩,zS3 rfl sx⟩
   ·refine ⟨_,_,.inr ⟨h0,rfl,Z.drop x.2.2.length,?_,rfl⟩,?_⟩
    ·rw [List.length_drop,sx.clen,et,Nat.add_mul]
     rw [et] at le
     have:=Nat.mul_le_mul_right 64 le
     rw [Nat.add_mul] at this
     omega
    ·have:=app_in (k:=64) (by omega) (d:=tyB) rfl (H:=H ++ [.rw (catB (Xs.take i) ++ Z)]) (b:=H.length) (m:=totB (Xs.take i)) (n:=totB Xs) (A:=catB (Xs.take i)) (Z:=Z) (by simp) (cl i) (sx.adds _) (by
      rw [sx.clen]
      rw [et] at le
      have:=Nat.mul_le_mul_right 64 le
      rw [Nat.add_mul] at this
      omega) (by omega)
     rw [this,et,ec]
     simp
  have hm : ∀ G,cellsOf (H ++ G) a = some (Xs.map fun x=>x.1):=fun G=>zAy ha
  have hm1 : cellsOf H1 a = some (Xs.map fun x=>x.1):=by
   rcases ho with ⟨_,_,rfl⟩ | ⟨_,_,Z,_,rfl⟩
   ·exact ha
   ·exact hm _
  unfold tyB at ea
  rw [lo]
  unfold l116x1
  simp -implicitDefEqProofs (maxSteps:=5000000) only [go_sem,simprocAttr,hd,ix,hm1,hv,e2,ea]
  exact ih (i + 1) l2 H2 _ _ _ _ _ _ _ _ ho2 (by omega)
set_option maxHeartbeats 2000000 in
theorem concatB : ∃ l H',((totB Xs = 0 ∧ l = .nilSl ∧ H' = H) ∨ (totB Xs ≠ 0 ∧ l = .sl H.length 0 64 (totB Xs) (totB Xs) false ∧ H' = H ++ [.rw (catB Xs)])) ∧ (envL prog).call 116 [.sl a 0 1 Xs.length Xs.length true] H = some (l,H'):=by
 have l0:=sumLB ha hs ht hX (k:=Xs.length) (i:=0)
 have cl:=zYn ha hs ht hX
 rw [show ((0 : Nat) : Int) = 0 from rfl,List.take_zero,show totB [] = 0 from rfl,show ((0 : Nat) : Int) = 0 from rfl] at l0
 have l1:=catLB ha hs ht hX (k:=Xs.length) (i:=0)
 rw [show ((0 : Nat) : Int) = 0 from rfl] at l1
 obtain ⟨g,H1,ho,hg⟩ : ∃ g H1,OutB H Xs 0 g H1 ∧ (envL prog).call 135 [.nilSl,.int .i64 (totB Xs : Int)] H = some (g,H1):=by
  by_cases h0 : totB Xs = 0
  ·refine ⟨_,_,.inl ⟨h0,rfl,rfl⟩,?_⟩
   rw [h0]; exact grow0B H
  ·refine ⟨_,_,.inr ⟨h0,rfl,(List.replicate (totB Xs) (tyB).zero).flatten,?_,rfl⟩,?_⟩
   ·rw [zJj (k:=64) (by rfl),List.take_zero,show totB [] = 0 from rfl,Nat.zero_mul,Nat.add_zero]
   ·rw [List.take_zero,show totB [] = 0 from rfl,show catB [] = [] from rfl,List.nil_append]
    exact growB (by omega) ht H
 have o : Outs (runC (envL prog) (b116 (envL prog)) ([.sl a 0 1 Xs.length Xs.length true] ++ List.replicate (36 - [AV.sl a 0 1 Xs.length Xs.length true].length) .undef) H) fun e' t H'=>∃ l,OutB H Xs Xs.length l H' ∧ fin [.tmp 2] (some (e',t,H')) = some (l,H'):=by
  unfold b116
  generalize hQ : (fun (e' : Ex) (t : T) (H' : zAa)=>∃ l,OutB H Xs Xs.length l H' ∧ fin [.tmp 2] (some (e',t,H')) = some (l,H')) = Q
  simp -implicitDefEqProofs (maxSteps:=5000000) only [go_sem,simprocAttr,zA6]
  unfold LQB at l0 l1
  generalize (envL prog).loop (runC (envL prog) (l116x0 (envL prog))) = L0 at l0 ⊢
  refine zBo (fun r=>seqR (zBr 0 r) _) (l0 _ _ _ _ _ _ _ _ _ _ _ _ _ _ _ _ _ _ _ _ _ _ _ _ _ _ _ _ _ _ _ _ (by omega)) ?_
  rintro e t H' ⟨rfl,rfl,k,rfl⟩
  simp -implicitDefEqProofs (maxSteps:=5000000) only [go_sem,simprocAttr,zA6,hg]
  generalize (envL prog).loop (runC (envL prog) (l116x1 (envL prog))) = L1 at l1 ⊢
  refine zBo (fun r=>seqR (zBr 2 r) _) (l1 _ _ _ _ _ _ _ _ _ _ _ _ _ _ _ _ _ _ _ _ _ _ _ _ _ _ _ _ _ _ _ _ _ _ ho (by omega)) ?_
  rintro e t H' ⟨rfl,l,ho,k,rfl⟩
  simp -implicitDefEqProofs (maxSteps:=5000000) only [go_sem,simprocAttr,zAc]
  subst hQ
  refine ⟨l,ho,?_⟩
  simp -implicitDefEqProofs (maxSteps:=5000000) only [go_sem,simprocAttr]
 obtain ⟨e',t,H',hr,l,ho,hf⟩:=o
 rw [c116,hr,hf]
 rcases ho with ⟨h0,rfl,rfl⟩ | ⟨h0,rfl,Z,hZ,rfl⟩
 ·exact ⟨_,_,.inl ⟨h0,rfl,rfl⟩,zB8 rfl⟩
 ·rw [List.take_length] at hZ ⊢
  obtain rfl : Z = []:=List.eq_nil_of_length_eq_zero (by omega)
  rw [List.append_nil]
  exact ⟨_,_,.inr ⟨h0,rfl,rfl⟩,zBa (by simp [AV.under])⟩
end
end Go.Proofs.YtbmmnfeeapnhkaaGreat.G08
end
section
namespace Go.Proofs.YtbmmnfeeapnhkaaGreat.G08
open Go Go.Proofs.YtbmmnfeeapnhkaaGreat.Eng
set_option maxHeartbeats 2000000 in
theorem zPv {G : zAa} {p d c : Nat} {L : List (AV × Sec)} (m : DK G p d c L) {i : Nat} {x : AV × Sec} (hi : L[i]? = some x) {k : Nat} (hk : k < x.2.vers.length + 1) :
  ∃ z cs,(x.2.there :: x.2.vers)[k]? = some z ∧ B64 z ∧ (envL prog).call 116 [.sl (G.length + 1) 0 1 2 2 true] (G ++ [.rw (u8s x.2.there),.rw [.sl G.length 0 64 1 1 true,x.1]]) = some (.sl (G.length + 2) 0 64 (x.2.vers.length + 1) (x.2.vers.length + 1) false,G ++ [.rw (u8s x.2.there),.rw [.sl G.length 0 64 1 1 true,x.1],.rw cs]) ∧
   zB0 64 (.sl (G.length + 2) 0 64 (x.2.vers.length + 1) (x.2.vers.length + 1) false) (.int .i64 (k : Int)) = some (.ptr (G.length + 2) (k * 64)) ∧ k * 64 + 64 ≤ cs.length ∧ (cs.drop (k * 64)).take 64 = u8s z ∧
   (envL prog).call 115 [.ptr d (i * 65),.agg (u8s z)] (G ++ [.rw (u8s x.2.there),.rw [.sl G.length 0 64 1 1 true,x.1],.rw cs]) = some (.tup [],setD (G ++ [.rw (u8s x.2.there),.rw [.sl G.length 0 64 1 1 true,x.1],.rw cs]) d (L.set i (.nilSl,⟨z,[]⟩))):=by
 obtain ⟨gv,ok,cap⟩:=m.vs.at hi
 have cb:=m.vs.cb
 have hlen : (u8s x.2.there).length = 64:=by rw [zAd]; exact ok.t.1
 have s1 : Src 64 (G ++ [.rw (u8s x.2.there),.rw [.sl G.length 0 64 1 1 true,x.1]]) (.sl G.length 0 64 1 1 true) 1 (u8s x.2.there):=Src.block (by unfold cellsOf; simp) (by omega) (zAo _)
 have ac : (verR x.2).flatten.all AV.isCell = true:=by
  rw [List.all_eq_true]
  intro a ha
  obtain ⟨r,hr,ha⟩:=List.mem_flatten.1 ha
  obtain ⟨z,_,rfl⟩:=List.mem_map.1 hr
  exact List.all_eq_true.1 (zAo z) a ha
 have vl : (verR x.2).length = x.2.vers.length:=by unfold verR; simp
 have s2:=(gv.src (zJu ok) ac).adds [.rw (u8s x.2.there),.rw [.sl G.length 0 64 1 1 true,x.1]]
 rw [vl] at s2
 have hz : (x.2.there :: x.2.vers)[k]? = some ((x.2.there :: x.2.vers)[k]'(by simpa using hk)):=List.getElem?_eq_getElem _
 generalize ((x.2.there :: x.2.vers)[k]'(by simpa using hk)) = z at hz
 have oz : B64 z:=by
  rcases List.mem_cons.1 (List.mem_of_getElem? hz) with rfl | h
  ·exact ok.t
  ·exact ok.v z h
 have rows : ∀ r ∈ (x.2.there :: x.2.vers).map u8s,r.length = 64:=fun r hr=>by
  obtain ⟨y,hy,rfl⟩:=List.mem_map.1 hr
  rw [zAd]
  rcases List.mem_cons.1 hy with rfl | h
  ·exact ok.t.1
  ·exact (ok.v y h).1
 obtain ⟨q1,q2⟩:=zH1 rows (zCf u8s hz) 0 64 (by omega)
 rw [Nat.add_zero] at q1 q2
 rw [List.drop_zero,zCg oz.1] at q1
 obtain ⟨l,H',ho,e⟩:=concatB (H:=G ++ [.rw (u8s x.2.there),.rw [.sl G.length 0 64 1 1 true,x.1]]) (a:=G.length + 1) (Xs:=[(.sl G.length 0 64 1 1 true,1,u8s x.2.there),(x.1,x.2.vers.length,(verR x.2).flatten)]) (by unfold cellsOf; simp) (by
   intro y hy
   simp only [List.mem_cons,List.not_mem_nil,or_false] at hy
   rcases hy with rfl | rfl
   ·exact s1
   ·exact s2) (by unfold totB; simp; omega) (by simp)
 have et : totB [(.sl G.length 0 64 1 1 true,1,u8s x.2.there),(x.1,x.2.vers.length,(verR x.2).flatten)] = x.2.vers.length + 1:=by unfold totB; simp; omega
 rw [et] at ho
 rcases ho with ⟨h0,_⟩ | ⟨_,rfl,rfl⟩
 ·omega
 refine ⟨z,_,hz,oz,?_,zEf _ 64 _ _ k false .i64 (by omega) hk,q2,q1,zVh (m.fr (Fr.adds ⟨_,rfl⟩ (fun _=>False)) (fun _ _ h=>h)) hi oz⟩
 rw [show ([(AV.sl G.length 0 64 1 1 true,1,u8s x.2.there),(x.1,x.2.vers.length,(verR x.2).flatten)] : List (AV × Nat × List AV)).length = 2 from rfl] at e
 rw [e]
 simp [catB,verR]
set_option maxHeartbeats 4000000 in
theorem zTx {H : zAa} {p d c : Nat} {L : List (AV × Sec)} {zs : List Int} {i : Nat} {K : zAa} {t : T} (hd : d < H.length) (hp : p < H.length) (ht : t.length = 43) (ht3 : getT t 3 = .ptr H.length 0) (y : CrI H p d c L zs (.loop ⟨.ready,.normal,t,[9,10],zB4,zB3⟩) i i K) {x : AV × Sec} (hx : L[i]? = some x) (hx2 : (crL L zs i)[i]? = some x) (h1 : x.2.vers ≠ []) :
  ∃ K',CrI H p d c L zs (.loop ⟨.ready,.normal,t,[9,10],zB4,zB3⟩) (i + 1) (i + 1) K' ∧ (envL prog).yield (H.length + 2) [.int .i64 (i : Int),.ptr d (i * 65)] K = some (.bool true,K'):=by
 have kl:=y.len
 obtain ⟨_,hR⟩:=zFp (zs:=zs) (zCf (fun y : AV × Sec=>y.2) hx)
 have f1 : Fr K (K.set (H.length + 2) (.loop ⟨.busy,.normal,t,[9,10],zB4,zB3⟩)) (· = H.length + 2):=Fr.set _ _ rfl
 have nf : ∀ b,fpD p d (crL L zs i) b → ¬ (b = H.length + 2):=fun b hb=>by
  rcases hb with rfl | rfl | ⟨x',hx',hb⟩
  ·omega
  ·omega
  ·rcases y.dk.vs.ver x' hx' with ⟨_,h0⟩ | ⟨_,b',_,h0,hH⟩
   ·rw [h0] at hb; cases hb
   ·rw [h0] at hb; injection hb with hb; subst hb
    intro e; subst e
    rw [y.lp] at hH; cases hH
 obtain ⟨w,w1,w2,w3,w4,w5⟩:=y.pk
 have m1:=y.dk.fr f1 nf
 have l1 : (K.set (H.length + 2) (.loop ⟨.busy,.normal,t,[9,10],zB4,zB3⟩)).length = H.length + 3:=by rw [List.length_set]; exact kl
 have b1 : (K.set (H.length + 2) (.loop ⟨.busy,.normal,t,[9,10],zB4,zB3⟩))[H.length + 2]? = some (.loop ⟨.busy,.normal,t,[9,10],zB4,zB3⟩):=zA4 _ _ _ (by omega)
 have p1 : (K.set (H.length + 2) (.loop ⟨.busy,.normal,t,[9,10],zB4,zB3⟩))[H.length]? = some (.rw [w]):=by rw [zAf _ _ _ _ (by omega)]; exact w1
 have bx1 : cellsOf (K.set (H.length + 2) (.loop ⟨.busy,.normal,t,[9,10],zB4,zB3⟩)) (H.length + 1) = some [.ptr p 0]:=by rw [zBj _ _ _ _ (by omega)]; exact y.bx
 have o1 : ∀ b,b < H.length → b ≠ d → (K.set (H.length + 2) (.loop ⟨.busy,.normal,t,[9,10],zB4,zB3⟩))[b]? = H[b]?:=fun b hb hne=>by rw [zAf _ _ _ _ (by omega)]; exact y.old b hb hne
 have st:=fun {ex : Ex} {t2 : T} {K2 : zAa} (hb : runC (envL prog) (zMt (envL prog)) (((t.set 9 (.int .i64 (i : Int))).set 10 (.ptr d (i * 65))).set 5 (.ptr d (i * 65))) (K.set (H.length + 2) (.loop ⟨.busy,.normal,t,[9,10],zB4,zB3⟩)) = some (ex,t2,K2)) (h2 : K2[H.length + 2]? = some (.loop ⟨.busy,.normal,t,[9,10],zB4,zB3⟩)) =>
  zEz (P:=prog) (l:=H.length + 2) (args:=[.int .i64 (i : Int),.ptr d (i * 65)]) (K:=K) (eaq76x0 _) (ebq76x0 _) y.lp rfl (t1:=((t.set 9 (.int .i64 (i : Int))).set 10 (.ptr d (i * 65))).set 5 (.ptr d (i * 65))) (by
   unfold aq76x0
   simp -implicitDefEqProofs (maxSteps:=5000000) only [go_sem,simprocAttr,zBq,zC2,ht,List.length_set,Nat.reduceLT]) hb h2
 generalize hK1 : K.set (H.length + 2) (.loop ⟨.busy,.normal,t,[9,10],zB4,zB3⟩) = K1 at *
 obtain ⟨gv,ok,cap⟩:=m1.vs.at hx2
 have cb:=m1.vs.cb
 obtain ⟨hvl,hr⟩:=zMz gv ok
 obtain ⟨cs,hc,hv,hle,htk,_⟩:=m1.row hx2
 have hca : zA7 x.1 = some [x.1]:=by
  rcases hr with ⟨z0,_⟩ | ⟨b,cs2,z,hz,z1,_⟩
  ·exact absurd z0 h1
  ·rw [z1]; rfl
 have l64:=ok.t.1
 have w64 : (u8s x.2.there).length = 64:=by rw [zAd]; exact l64
 have sp:=zGk (.int .u8 0) l64 (by omega)
 have hbs : BS K1 w (zEo (L.map (·.2)) zs i):=by
  rcases w2 with h | ⟨b,o,l,e,C,rfl,hC,h⟩
  ·exact .inl h
  ·obtain ⟨q1,q2⟩:=w4 b rfl
   exact .inr ⟨b,o,l,e,C,rfl,by rw [zDv (o1 b q1 q2)]; exact hC,h⟩
 have hwl:=hbs.len
 have hkp:=zAj p1
 cases hz : zEo (L.map (·.2)) zs i with
 | nil =>
  rw [hz] at hwl
  obtain ⟨z,C,z1,z2,ct,ix,hle2,htk2,se⟩:=zPv m1 hx2 (k:=0) (by omega)
  have ob : Outs (runC (envL prog) (zMt (envL prog)) (((t.set 9 (.int .i64 (i : Int))).set 10 (.ptr d (i * 65))).set 5 (.ptr d (i * 65))) K1) fun e _ K'=>e = .normal ∧ K' = setD (K1 ++ [.rw (u8s x.2.there),.rw [.sl K1.length 0 64 1 1 true,x.1],.rw C]) d ((crL L zs i).set i (.nilSl,⟨z,[]⟩)):=by
   have d0 : decide ((0 : Int) > 0) = false:=rfl
   rw [List.length_nil] at hwl
   rw [show ((0 : Nat) : Int) = 0 from rfl] at hwl ix
   rw [Nat.zero_mul,Nat.zero_add] at hle2
   rw [Nat.zero_mul,List.drop_zero] at htk2
   unfold zMt
   simp -implicitDefEqProofs (maxSteps:=5000000) only [go_sem,simprocAttr,zC2,ht,ht3,List.length_set,Nat.reduceLT,hkp,hwl,d0,hc,zAy hc,hv,hle,htk,w64,sp,hca,ct,ix,hle2,htk2,se,Nat.zero_mul,zAc]
  obtain ⟨e,t2,K2,er,rfl,rfl⟩:=ob
  have g : CrI H p d c L zs (.loop ⟨.busy,.normal,t,[9,10],zB4,zB3⟩) i (i + 1) K1:=by
   have e : zEo (L.map (·.2)) zs (i + 1) = zEo (L.map (·.2)) zs i:=by
    rw [hR]; unfold zJq; rw [if_neg h1,hz]; rfl
   exact ⟨l1,b1,bx1,⟨w,p1,by rw [e]; exact w2,w3,w4,by rw [e]; exact w5⟩,m1,o1⟩
  obtain ⟨K',yk,e2⟩:=CrI.end (B:=[.rw (u8s x.2.there),.rw [.sl K1.length 0 64 1 1 true,x.1],.rw C]) hd hp y g hx hx2 z2 (by
   unfold zDp
   rw [if_neg h1,hz]
   show (⟨((x.2.there :: x.2.vers)[0]?).getD [],[]⟩ : Sec) = _
   rw [z1]; rfl)
  refine ⟨K',yk,(st er ?_).trans e2⟩
  unfold setD
  rw [zAf _ _ _ _ (by omega),List.getElem?_append_left (by omega),b1]
 | cons z0 R =>
  rw [hz] at hwl hbs
  have hu0 : 0 ≤ z0 ∧ z0 ≤ 255:=by rw [hz] at w5; exact w5 z0 (by simp)
  rw [hz] at w2
  obtain ⟨w',s1,s2,s3,s4,s5,s6⟩:=w2.tail w3
  obtain ⟨ad,ia,la⟩:=hbs.idx (i:=0) (z:=z0) rfl .i64
  rw [show ((0 : Nat) : Int) = 0 from rfl] at ia
  have nv : 0 < x.2.vers.length:=by cases hq : x.2.vers with | nil=>exact absurd hq h1 | cons _ _=>simp
  have md0:=Int.emod_nonneg z0 (show ((x.2.vers.length : Int) + 1) ≠ 0 by omega)
  have md1:=Int.emod_lt_of_pos z0 (show 0 < ((x.2.vers.length : Int) + 1) by omega)
  obtain ⟨k,hk⟩ : ∃ k : Nat,z0 % ((x.2.vers.length : Int) + 1) = k:=⟨(z0 % ((x.2.vers.length : Int) + 1)).toNat,by omega⟩
  have hrem : binV .rem .none (.int .i64 z0) (.int .i64 ((x.2.vers.length + 1 : Nat) : Int)) = some (.int .i64 (k : Int)):=by
   rw [zHo _ _ _ _ (by omega),Int.tmod_eq_emod_of_nonneg hu0.1,← hk]; rfl
  have wz : IntKind.i64.wrap z0 = z0:=zAq (by omega) (by omega)
  have wn : IntKind.i64.wrap ((x.2.vers.length : Int) + 1) = ((x.2.vers.length + 1 : Nat) : Int):=by rw [zAq (by omega) (by omega)]; omega
  obtain ⟨nn,hnn⟩ : ∃ nn : Nat,nn = (z0 :: R).length:=⟨_,rfl⟩
  have hn1 : 1 ≤ nn:=by rw [hnn]; simp
  rw [← hnn] at hwl
  have hd0 : decide ((nn : Int) > 0) = true:=decide_eq_true (by omega)
  have wr : zAz K1 H.length 0 [w'] = some (K1.set H.length (.rw [w'])):=by
   rw [zAv p1,if_pos ⟨by simp,by simp [s5]⟩,zAx]; rfl
  have f3 : Fr K1 (K1.set H.length (.rw [w'])) (· = H.length):=Fr.set _ _ rfl
  have m3:=m1.fr f3 fun b hb=>by
   rcases hb with rfl | rfl | ⟨x',hx',hb⟩
   ·omega
   ·omega
   ·rcases m1.vs.ver x' hx' with ⟨_,h0⟩ | ⟨h0',b',_,h0,hH⟩
    ·rw [h0] at hb; cases hb
    ·rw [h0] at hb; injection hb with hb; subst hb
     intro e; subst e
     rw [p1] at hH
     injection hH with hH; injection hH with hH
     have:=congrArg List.length hH
     rw [zDn (zJu (m1.vs.ok x' hx'))] at this
     simp only [List.length_cons,List.length_nil] at this
     have pos : 1 ≤ (verR x'.2).length:=by cases hq : verR x'.2 with | nil=>exact absurd hq h0' | cons _ _=>simp
     omega
  have l3 : (K1.set H.length (.rw [w'])).length = H.length + 3:=by rw [List.length_set]; exact l1
  have p3 : (K1.set H.length (.rw [w']))[H.length]? = some (.rw [w']):=zA4 _ _ _ (by omega)
  have b3 : (K1.set H.length (.rw [w']))[H.length + 2]? = _:=(zAf _ _ _ _ (by omega)).trans b1
  have bx3 : cellsOf (K1.set H.length (.rw [w'])) (H.length + 1) = _:=(zBj _ _ _ _ (by omega)).trans bx1
  have o3 : ∀ b,b < H.length → b ≠ d → (K1.set H.length (.rw [w']))[b]? = H[b]?:=fun b hb hne=>(zAf _ _ _ _ (by omega)).trans (o1 b hb hne)
  generalize hK3 : K1.set H.length (.rw [w']) = K3 at *
  obtain ⟨z,C,z1,z2,ct,ix,hle2,htk2,se⟩:=zPv m3 hx2 (k:=k) (by omega)
  obtain ⟨cs3,hc3,hv3,hle3,htk3,_⟩:=m3.row hx2
  have ob : Outs (runC (envL prog) (zMt (envL prog)) (((t.set 9 (.int .i64 (i : Int))).set 10 (.ptr d (i * 65))).set 5 (.ptr d (i * 65))) K1) fun e _ K'=>e = .normal ∧ K' = setD (K3 ++ [.rw (u8s x.2.there),.rw [.sl K3.length 0 64 1 1 true,x.1],.rw C]) d ((crL L zs i).set i (.nilSl,⟨z,[]⟩)):=by
   unfold zMt
   simp -implicitDefEqProofs (maxSteps:=5000000) only [go_sem,simprocAttr,zC2,ht,ht3,List.length_set,Nat.reduceLT,hkp,hwl,hd0,ia,la,wz,hvl,wn,hrem,s1,zAw,s6,wr,hc,hc3,zAy hc3,hv,hv3,hle3,htk3,w64,sp,hca,ct,ix,hle2,htk2,se,zAc]
  obtain ⟨e,t2,K2,er,rfl,rfl⟩:=ob
  have g : CrI H p d c L zs (.loop ⟨.busy,.normal,t,[9,10],zB4,zB3⟩) i (i + 1) K3:=by
   have e : zEo (L.map (·.2)) zs (i + 1) = R:=by
    rw [hR]; unfold zJq; rw [if_neg h1,hz]; rfl
   exact ⟨l3,b3,bx3,⟨w',p3,by rw [e]; exact s2,s3,by rw [s4]; exact w4,by rw [e]; rw [hz] at w5; exact fun z hz=>w5 z (by simp [hz])⟩,m3,o3⟩
  obtain ⟨K',yk,e2⟩:=CrI.end (B:=[.rw (u8s x.2.there),.rw [.sl K3.length 0 64 1 1 true,x.1],.rw C]) hd hp y g hx hx2 z2 (by
   unfold zDp
   rw [if_neg h1,hz]
   show (⟨((x.2.there :: x.2.vers)[(z0 % ((x.2.vers.length : Int) + 1)).toNat]?).getD [],[]⟩ : Sec) = _
   rw [hk,Int.toNat_natCast,z1]; rfl)
  refine ⟨K',yk,(st er ?_).trans e2⟩
  unfold setD
  rw [zAf _ _ _ _ (by omega),List.getElem?_append_left (by omega),b3]
set_option maxHeartbeats 4000000 in
theorem zJa {H : zAa} {p d c : Nat} {L : List (AV × Sec)} (m : DK H p d c L) {v : AV} {zs : List Int} (b : BS H v zs) (hu : IsU8 zs) (hl : zDz v) (hv : ∀ b,slb v = some b → b < H.length ∧ b ≠ d) (hvc : zA7 v = some [v]) :
  ∃ H',DK H' p d c ((zCk (L.map (·.2)) zs).map (fun s=>(AV.nilSl,s))) ∧ KeepB H H' [d] ∧ (envL prog).call 76 [.ptr p 0,v] H = some (.tup [],H'):=by
 have hd:=zAl m.blk
 have hp:=zBn m.ptr
 have it : ∀ t : T,(t.length = 43 ∧ getT t 3 = .ptr H.length 0) → ∃ K,(envL prog).call 134 [.yld (H.length + 2),.ptr (H.length + 1) 0] (H ++ [.rw [v],.rw [.ptr p 0],.loop ⟨.ready,.normal,t,[9,10],zB4,zB3⟩]) = some (.tup [],K) ∧
   CrI H p d c L zs (.loop ⟨.ready,.normal,t,[9,10],zB4,zB3⟩) L.length L.length K:=by
  rintro T ⟨hT,hT3⟩
  have hY : zS5 (H.length + 2) (H.length + 1) p d L.length (fun i K=>CrI H p d c L zs (.loop ⟨.ready,.normal,T,[9,10],zB4,zB3⟩) i i K):=by
   intro i K y hi
   obtain ⟨x,hx⟩ : ∃ x,L[i]? = some x:=⟨_,List.getElem?_eq_getElem hi⟩
   have hx2 : (crL L zs i)[i]? = some x:=by rw [crL_get hi,hx]
   obtain ⟨_,hR⟩:=zFp (zs:=zs) (zCf (fun y : AV × Sec=>y.2) hx)
   refine ⟨c,crL L zs i,x,y.dk,crL_len L zs (by omega),y.bx,hx2,fun h0=>?_,fun h1=>zTx hd hp hT hT3 y hx hx2 h1⟩
   have ez : zJq (zEo (L.map (·.2)) zs i) x.2 = zEo (L.map (·.2)) zs i:=by unfold zJq; rw [if_pos h0]
   have es : zDp (zEo (L.map (·.2)) zs i) x.2 = x.2:=by unfold zDp; rw [if_pos h0]
   have ev : x.1 = .nilSl:=by
    rcases (y.dk.vs.at hx2).1 with ⟨_,hv⟩ | ⟨hv,_⟩
    ·exact hv
    ·exact absurd (by unfold verR; rw [h0]; rfl) hv
   obtain ⟨w,y6,y7,y8,y9,y10⟩:=y.pk
   refine ⟨y.len,y.lp,y.bx,⟨w,y6,by rw [hR,ez]; exact y7,y8,y9,by rw [hR,ez]; exact y10⟩,?_,y.old⟩
   rw [zSp hx,es,← ev,show (crL L zs i).set i (x.1,x.2) = crL L zs i from by
    apply List.ext_getElem?; intro j
    by_cases ej : i = j
    ·subst ej; rw [List.getElem?_set_self (List.getElem?_eq_some_iff.1 hx2).1,hx2]
    ·rw [List.getElem?_set_ne ej]]
   exact y.dk
  have m0 : DK (H ++ [.rw [v],.rw [.ptr p 0],.loop ⟨.ready,.normal,T,[9,10],zB4,zB3⟩]) p d c L:=m.fr (Fr.adds ⟨_,rfl⟩ (fun _=>False)) (fun _ _ h=>h)
  have y0 : CrI H p d c L zs (.loop ⟨.ready,.normal,T,[9,10],zB4,zB3⟩) 0 0 (H ++ [.rw [v],.rw [.ptr p 0],.loop ⟨.ready,.normal,T,[9,10],zB4,zB3⟩]):=by
   have e : zEo (L.map (·.2)) zs 0 = zs:=by cases L <;> rfl
   refine ⟨by simp,by simp,by unfold cellsOf; simp,⟨v,by simp,by rw [e]; exact b,hl,hv,by rw [e]; exact hu⟩,?_,fun b hb _=>List.getElem?_append_left hb⟩
   unfold crL
   rw [List.take_zero,List.map_nil,List.nil_append,List.drop_zero]
   exact m0
  obtain ⟨K,hK,e⟩:=looseC hY m.sz y0 y0.bx m0 rfl
  refine ⟨K,?_,hK⟩
  rw [e]
  exact zB8 (by rw [hK.len]; simp)
 obtain ⟨KK,hKK⟩:=zJy it
 have e1:=fun t h1 h2=>(hKK t ⟨h1,h2⟩).1
 have e2:=fun t h1 h2=>(hKK t ⟨h1,h2⟩).2.lp
 have l0:=fun B=>loose0 (p:=p) (H ++ B)
 have o : Outs (runC (envL prog) (b76 (envL prog)) ([.ptr p 0,v] ++ List.replicate (43 - [AV.ptr p 0,v].length) .undef) H) fun e' t K'=>(∃ t' : T,(t'.length = 43 ∧ getT t' 3 = .ptr H.length 0) ∧ K' = (KK t').set (H.length + 2) (.loop ⟨.exhausted,.normal,t',[9,10],zB4,zB3⟩)) ∧ fin [] (some (e',t,K')) = some (.tup [],K'):=by
  unfold b76
  generalize hQ : (fun (e' : Ex) (t : T) (K' : zAa)=>(∃ t' : T,(t'.length = 43 ∧ getT t' 3 = .ptr H.length 0) ∧ K' = (KK t').set (H.length + 2) (.loop ⟨.exhausted,.normal,t',[9,10],zB4,zB3⟩)) ∧ fin [] (some (e',t,K')) = some (AV.tup [],K')) = Q
  simp -implicitDefEqProofs (maxSteps:=5000000) only [go_sem,simprocAttr,hvc,l0,zDe,zF7,e1,zCr,e2,zAc]
  subst hQ
  refine ⟨⟨_,⟨rfl,rfl⟩,rfl⟩,?_⟩
  simp -implicitDefEqProofs (maxSteps:=5000000) only [go_sem,simprocAttr]
 obtain ⟨e',t,K',hr,⟨t',ht,rfl⟩,hf⟩:=o
 obtain ⟨_,kk⟩:=hKK t' ht
 have kl:=kk.len
 have k4:=kk.dk
 rw [crL_all] at k4
 have hl2 : ((KK t').set (H.length + 2) (.loop ⟨.exhausted,.normal,t',[9,10],zB4,zB3⟩)).length = H.length + 3:=by rw [List.length_set]; exact kl
 have fK : Fr H ((KK t').set (H.length + 2) (.loop ⟨.exhausted,.normal,t',[9,10],zB4,zB3⟩)) (· = d):=⟨by omega,fun b hb hn=>by
  rw [zAf _ _ _ _ (by omega)]; exact kk.old b hb hn⟩
 have dk : DK (((KK t').set (H.length + 2) (.loop ⟨.exhausted,.normal,t',[9,10],zB4,zB3⟩)).take H.length) p d c ((zCk (L.map (·.2)) zs).map (fun s=>(AV.nilSl,s))):=by
  refine ⟨?_,?_,m.np,by simp [zC4]; exact m.sz,⟨m.vs.cb,fun x hx=>?_,k4.vs.ok,k4.vs.cap,k4.vs.out,k4.vs.inj⟩⟩
  ·rw [zLz hp,zBj _ _ _ _ (by omega)]; exact k4.ptr
  ·rw [zGx hd,zAf _ _ _ _ (by omega)]; exact k4.blk
  ·rcases k4.vs.ver x hx with h | ⟨_,b',_,h0,_⟩
   ·exact .inl h
   ·obtain ⟨y,_,rfl⟩:=List.mem_map.1 hx
    cases h0
 refine ⟨_,dk,⟨zHy fK.1,fun b hb=>?_⟩,?_⟩
 ·by_cases hlt : b < H.length
  ·exact (zGx hlt).trans (fK.2 b hlt (by simpa using hb))
  ·rw [List.getElem?_eq_none (by rw [zHy fK.1]; omega),List.getElem?_eq_none (by omega)]
 ·rw [c76,hr,hf]
  refine zE1 fK.1 rfl fun b k' hb hk=>?_
  by_cases e : b = d
  ·subst e
   have hd2:=dk.blk
   rw [zGx hd] at hd2
   rw [hd2] at hk
   injection hk with hk; subst hk
   have:=zDx dk.vs
   rw [zHy fK.1] at this
   exact .inr this
  ·exact .inl ((fK.2 b hb e).symm.trans hk)
end Go.Proofs.YtbmmnfeeapnhkaaGreat.G08
end
section
namespace Go.Proofs.YtbmmnfeeapnhkaaGreat.G08
open Go Go.Proofs.YtbmmnfeeapnhkaaGreat.Eng
theorem zNd {p : Nat} (H : zAa) : (envL prog).call 75 [.ptr p 0] H = some (.fn 113 [.ptr H.length 0],H ++ [.rw [.ptr p 0]]):=by
 rw [c75]
 unfold b75
 simp -implicitDefEqProofs (maxSteps:=5000000) only [go_sem,simprocAttr]
 exact zBa (by simp [AV.under,zAt])
section
variable {H : zAa} {p p0 d0 p1 d1 c : Nat} {L0 L1 : List (AV × Sec)} {r : RgS} (m : RG H p p0 d0 p1 d1 c L0 L1 r)
include m
theorem zH4 (B : zAa) : cellsOf (H ++ B) p = some (zBb p0 p1 r):=zAy (zAj m.blk)
set_option maxHeartbeats 4000000 in
theorem zFz : (envL prog).call 78 [.ptr p 0,.int .i64 0] H = some (.ptr p0 0,H):=by
 have hc:=zH4 m
 unfold zBb at hc
 have hp:=zBn m.k0.ptr
 have hu : (AV.ptr p0 0).under H.length = true:=by simp [AV.under,hp]
 rw [c78]
 unfold b78
 simp -implicitDefEqProofs (maxSteps:=5000000) only [go_sem,simprocAttr,zCd,itr,itq,zNd,c113,b113,l113x0,hc,zQx,zQw,zS2,zSz,hu]
set_option maxHeartbeats 4000000 in
theorem zFy : (envL prog).call 78 [.ptr p 0,.int .i64 1] H = some (.ptr p1 0,H):=by
 have hc:=zH4 m
 unfold zBb at hc
 have hp:=zBn m.k1.ptr
 have hu : (AV.ptr p1 0).under H.length = true:=by simp [AV.under,hp]
 have hn : ((0 : Int) == 1) = false:=rfl
 have w1 : IntKind.i64.wrap (0 + 1) = 1:=by decide
 rw [c78]
 unfold b78
 simp -implicitDefEqProofs (maxSteps:=5000000) only [go_sem,simprocAttr,zCd,itr,itq,zNd,c113,b113,l113x0,hc,zQx,zQw,zS2,zSz,hn,w1,hu]
set_option maxHeartbeats 4000000 in
theorem rigDiskN {dev : Int} (h0 : dev ≠ 0) (h1 : dev ≠ 1) : (envL prog).call 78 [.ptr p 0,.int .i64 dev] H = some (.nilPtr,H):=by
 have hc:=zH4 m
 unfold zBb at hc
 have n0 : ((0 : Int) == dev) = false:=by simp; exact fun h=>h0 h.symm
 have n1 : ((1 : Int) == dev) = false:=by simp; exact fun h=>h1 h.symm
 have w1 : IntKind.i64.wrap (0 + 1) = 1:=by decide
 have w2 : IntKind.i64.wrap (1 + 1) = 2:=by decide
 rw [c78]
 unfold b78
 simp -implicitDefEqProofs (maxSteps:=5000000) only [go_sem,simprocAttr,zCd,itr,itq,zNd,c113,b113,l113x0,hc,zQx,zQw,zS2,zSz,n0,n1,w1,w2]
theorem zL4 (dev : Int) : (∃ q d L,(envL prog).call 78 [.ptr p 0,.int .i64 dev] H = some (.ptr q 0,H) ∧ DK H q d c L ∧ L.map (·.2) = r.dk dev ∧ (dev = 0 ∨ dev = 1)) ∨ ((envL prog).call 78 [.ptr p 0,.int .i64 dev] H = some (.nilPtr,H) ∧ r.dk dev = [] ∧ dev ≠ 0 ∧ dev ≠ 1):=by
 by_cases h0 : dev = 0
 ·subst h0
  exact .inl ⟨p0,d0,L0,zFz m,m.k0,m.e0,.inl rfl⟩
 ·by_cases h1 : dev = 1
  ·subst h1
   exact .inl ⟨p1,d1,L1,zFy m,m.k1,m.e1,.inr rfl⟩
  ·exact .inr ⟨rigDiskN m h0 h1,by unfold RgS.dk; rw [if_neg h0,if_neg h1],h0,h1⟩
theorem rigLenC (dev : Int) : (envL prog).call 99 [.ptr p 0,.int .i64 dev] H = some (.int .i64 ((r.dk dev).length : Int),H):=by
 rw [c99]
 unfold b99
 rcases zL4 m dev with ⟨q,d,L,e,k,hl,_⟩ | ⟨e,hl,_⟩
 ·have c1:=zIj k
  rw [← hl,List.length_map]
  simp -implicitDefEqProofs (maxSteps:=5000000) only [go_sem,simprocAttr,e,c1]
 ·have c1:=zNv H
  rw [hl]
  simp -implicitDefEqProofs (maxSteps:=5000000) only [go_sem,simprocAttr,e,c1]
  all_goals rfl
theorem rigDoneC : (envL prog).call 39 [.ptr p 0] H = some (.int .i64 r.done,H):=by
 have hc:=zAj m.blk
 unfold zBb at hc
 rw [c39]
 unfold b39
 simp -implicitDefEqProofs (maxSteps:=5000000) only [go_sem,simprocAttr,hc]
set_option maxHeartbeats 1000000 in
theorem zRz : RG (H.set p (.rw (zBb p0 p1 r.pass.1))) p p0 d0 p1 d1 c L0 L1 r.pass.1 ∧ (envL prog).call 80 [.ptr p 0] H = some (.int .i64 r.pass.2,H.set p (.rw (zBb p0 p1 r.pass.1))):=by
 have ab : r.pass.1.a = r.a ∧ r.pass.1.b = r.b:=by unfold RgS.pass; split <;> exact ⟨rfl,rfl⟩
 refine ⟨m.set _ ab.1 ab.2,?_⟩
 obtain ⟨a,b,fuse,down,done⟩:=r
 have hp:=zAl m.blk
 have hc:=zAj m.blk
 have t : ∀ R,trim H (some (.int .i64 (RgS.pass ⟨a,b,fuse,down,done⟩).2,H.set p R)) = some (.int .i64 (RgS.pass ⟨a,b,fuse,down,done⟩).2,H.set p R):=fun R=>zB8 (by simp)
 have w : ∀ (G : zAa) f dn k,G[p]? = some (.rw [.ptr p0 0,.ptr p1 0,.int .i64 f,.bool dn,.int .i64 k]) → (∀ x,zAz G p 2 [.int .i64 x] = some (G.set p (.rw [.ptr p0 0,.ptr p1 0,.int .i64 x,.bool dn,.int .i64 k]))) ∧ (∀ x,zAz G p 3 [.bool x] = some (G.set p (.rw [.ptr p0 0,.ptr p1 0,.int .i64 f,.bool x,.int .i64 k]))) ∧ (∀ x,zAz G p 4 [.int .i64 x] = some (G.set p (.rw [.ptr p0 0,.ptr p1 0,.int .i64 f,.bool dn,.int .i64 x]))):=by
  intro G f dn k h
  refine ⟨fun x=>?_,fun x=>?_,fun x=>?_⟩ <;> (rw [zAv h,if_pos ⟨by simp,rfl⟩,zAx]; rfl)
 obtain ⟨w2,w3,w4⟩:=w H fuse down done m.blk
 have at2 : ∀ cs,cellsOf (H.set p (.rw cs)) p = some cs:=fun cs=>zAj (zA4 _ _ _ hp)
 have v : ∀ f dn k,_:=fun f dn k=>w (H.set p (.rw [.ptr p0 0,.ptr p1 0,.int .i64 f,.bool dn,.int .i64 k])) f dn k (zA4 _ _ _ hp)
 have v4:=fun f dn k=>(v f dn k).2.2
 unfold zBb at *
 rw [c80]
 unfold b80
 by_cases hf : fuse = 0
 ·subst hf
  have e : RgS.pass ⟨a,b,0,down,done⟩ = (⟨a,b,0,true,done⟩,14):=by unfold RgS.pass; rw [if_pos (.inr rfl)]
  rw [e] at t ⊢
  simp -implicitDefEqProofs (maxSteps:=5000000) only [go_sem,simprocAttr,hc,zAw,w3,at2,t]
 ·have f1 : (fuse == 0) = false:=by simp [hf]
  cases down with
  | true =>
   have e : RgS.pass ⟨a,b,fuse,true,done⟩ = (⟨a,b,fuse,true,done⟩,14):=by unfold RgS.pass; rw [if_pos (.inl rfl)]
   rw [e] at t ⊢
   have same : H.set p (.rw [.ptr p0 0,.ptr p1 0,.int .i64 fuse,.bool true,.int .i64 done]) = H:=by
    apply List.ext_getElem?; intro i
    by_cases ei : i = p
    ·subst ei; rw [List.getElem?_set_self hp,m.blk]; rfl
    ·rw [List.getElem?_set_ne (fun q=>ei q.symm)]
   have t2 : trim H (some (.int .i64 14,H)) = some (.int .i64 14,H):=zB8 rfl
   rw [same]
   simp -implicitDefEqProofs (maxSteps:=5000000) only [go_sem,simprocAttr,hc,f1,t2]
  | false =>
   by_cases hg : fuse > 0
   ·have d1:=decide_eq_true hg
    have e : RgS.pass ⟨a,b,fuse,false,done⟩ = (⟨a,b,IntKind.i64.wrap (fuse - 1),false,IntKind.i64.wrap (done + 1)⟩,0):=by
     unfold RgS.pass; rw [if_neg (by simp [hf])]; simp [hg]
    rw [e] at t ⊢
    simp -implicitDefEqProofs (maxSteps:=5000000) only [go_sem,simprocAttr,hc,f1,d1,zAw,w2,at2,v4,List.set_set,t]
   ·have d1:=decide_eq_false hg
    have e : RgS.pass ⟨a,b,fuse,false,done⟩ = (⟨a,b,fuse,false,IntKind.i64.wrap (done + 1)⟩,0):=by
     unfold RgS.pass; rw [if_neg (by simp [hf])]; simp [hg]
    rw [e] at t ⊢
    simp -implicitDefEqProofs (maxSteps:=5000000) only [go_sem,simprocAttr,hc,f1,d1,zAw,w4,at2,t]
end
end Go.Proofs.YtbmmnfeeapnhkaaGreat.G08
end
section
namespace Go.Proofs.YtbmmnfeeapnhkaaGreat.G08
open Go Go.Proofs.YtbmmnfeeapnhkaaGreat.Eng
section
variable {H : zAa} {p p0 d0 p1 d1 c : Nat} {L0 L1 : List (AV × Sec)} {r : RgS} (m : RG H p p0 d0 p1 d1 c L0 L1 r)
include m
set_option maxHeartbeats 4000000 in
theorem rigReadC (dev i : Int) : (envL prog).call 32 [.ptr p 0,.int .i64 dev,.int .i64 i] H = some (.tup [.agg (u8s (r.read dev i).1),.int .i64 (r.read dev i).2],H):=by
 have hcc:=fun B=>zH4 m B
 unfold zBb at hcc
 have z0 : zBp (rep 64 (.int .u8 0)) 0 (rep 64 (.int .u8 0)) = rep 64 (.int .u8 0):=zL2 _ 64 _ (by omega) (zDj _ _)
 have zc:=zR1 64 (.int .u8 0) rfl
 have zt:=zR0 64 (.int .u8 0)
 have zu:=zOw 64 H.length (.int .u8 0) rfl
 have ez : u8s zHg = rep 64 (.int .u8 0):=(zKp 64 0).symm
 have rd:=fun B=>zL4 (m.adds B) dev
 rw [c32]
 unfold b32
 have dl:=zNv
 by_cases hi : i < 0
 ·have d1:=decide_eq_true hi
  have er : r.read dev i = (zHg,1):=by unfold RgS.read; rw [if_neg (by omega)]
  rw [er,ez]
  rcases rd [.rw (rep 64 (.int .u8 0))] with ⟨q,d,L,e,k,hl,_⟩ | ⟨e,hl,_⟩
  ·simp -implicitDefEqProofs (maxSteps:=5000000) only [go_sem,simprocAttr,e,d1,zAw,zCj,z0,zc,zt,zu,zDj]
  ·simp -implicitDefEqProofs (maxSteps:=5000000) only [go_sem,simprocAttr,e,d1,zAw,zCj,z0,zc,zt,zu,zDj]
 have d1:=decide_eq_false hi
 rcases rd [.rw (rep 64 (.int .u8 0))] with ⟨q,d,L,e,k,hl,_⟩ | ⟨e,hl,_⟩
 ·have c1:=zIj k
  have hll : (r.dk dev).length = L.length:=by rw [← hl,List.length_map]
  by_cases hx : i < L.length
  ·obtain ⟨n,rfl⟩ : ∃ n : Nat,i = n:=⟨i.toNat,by omega⟩
   have hn : n < L.length:=by omega
   have d2 : decide ((n : Int) ≥ (L.length : Int)) = false:=decide_eq_false (by omega)
   cases hd : r.down with
   | true =>
    have er : r.read dev (n : Int) = (zHg,14):=by unfold RgS.read; rw [if_pos (by omega),hd]; rfl
    rw [er,ez]
    rw [hd] at hcc
    simp -implicitDefEqProofs (maxSteps:=5000000) only [go_sem,simprocAttr,e,c1,d1,d2,hcc,zAw,zCj,z0,zc,zt,zu,zDj]
   | false =>
    obtain ⟨x,hx1,hx2⟩:=zQs hl (n:=n) (by omega)
    have er : r.read dev (n : Int) = (x.2.last,0):=by unfold RgS.read; rw [if_pos (by omega),hd,Int.toNat_natCast,hx2]; rfl
    rw [er]
    rw [hd] at hcc
    have c2:=zXx k hx1
    have l64:=(k.vs.at hx1).2.1.last.1
    have w64 : (u8s x.2.last).length = 64:=by rw [zAd]; exact l64
    have uc:=zAo x.2.last
    have sp:=zGk (.int .u8 0) l64 (by omega)
    have tk:=zCg l64
    have ul:=zE0 x.2.last H.length
    simp -implicitDefEqProofs (maxSteps:=5000000) only [go_sem,simprocAttr,e,c1,c2,d1,d2,hcc,zAw,zCj,w64,uc,sp,tk,ul,zDj]
  ·have d2 : decide (i ≥ (L.length : Int)) = true:=decide_eq_true (by omega)
   have er : r.read dev i = (zHg,1):=by unfold RgS.read; rw [if_neg (by omega)]
   rw [er,ez]
   simp -implicitDefEqProofs (maxSteps:=5000000) only [go_sem,simprocAttr,e,c1,d1,d2,zAw,zCj,z0,zc,zt,zu,zDj]
 ·have d2 : decide (i ≥ 0) = true:=decide_eq_true (by omega)
  have er : r.read dev i = (zHg,1):=by unfold RgS.read; rw [if_neg (by rw [hl]; simp)]
  rw [er,ez]
  simp -implicitDefEqProofs (maxSteps:=5000000) only [go_sem,simprocAttr,e,dl,d1,d2,zAw,zCj,z0,zc,zt,zu,zDj]
end
end Go.Proofs.YtbmmnfeeapnhkaaGreat.G08
end
section
namespace Go.Proofs.YtbmmnfeeapnhkaaGreat.G08
open Go Go.Proofs.YtbmmnfeeapnhkaaGreat.Eng
theorem zNq {q d : Nat} {L : List (AV × Sec)} {i : Nat} {y : AV × Sec} {b : Nat} (h : fpD q d (L.set i y) b) : fpD q d L b ∨ slb y.1 = some b:=by
 rcases h with rfl | rfl | h
 ·exact .inl (.inl rfl)
 ·exact .inl (.inr (.inl rfl))
 ·rcases zQt h with h | h
  ·exact .inr h
  ·exact .inl (.inr (.inr h))
section
variable {H : zAa} {p p0 d0 p1 d1 c : Nat} {L0 L1 : List (AV × Sec)} {r : RgS} (m : RG H p p0 d0 p1 d1 c L0 L1 r)
include m
theorem rigTurnW {dev : Int} {n : Nat} {z : List Int} (hdev : dev = 0 ∨ dev = 1) (hn : n < (r.dk dev).length) (hz : B64 z) (hc : c + 1 ≤ 1000000000) : ∃ q H' L0' L1',(envL prog).call 81 [.ptr q 0,.int .i64 (n : Int),.agg (u8s z)] H = some (.int .i64 0,H') ∧ (envL prog).call 78 [.ptr p 0,.int .i64 dev] H = some (.ptr q 0,H) ∧ RG H' p p0 d0 p1 d1 (c + 1) L0' L1' (r.put dev ((r.dk dev).modify n fun s=>⟨s.there,s.vers ++ [z]⟩)) ∧ Fr H H' (fpR p p0 d0 p1 d1 L0 L1) ∧ (∀ b,fpR p p0 d0 p1 d1 L0' L1' b → fpR p p0 d0 p1 d1 L0 L1 b ∨ H.length ≤ b) ∧
  ∀ G w,(G = p ∨ True) → ∀ K : zAa,Fr K H (· = p) → (∀ b,fpR p p0 d0 p1 d1 L0 L1 b → b < K.length) → K.length ≤ H.length → RG K p p0 d0 p1 d1 c L0 L1 w → ∀ v : AV,trim K (some (v,H')) = some (v,H'):=by
 rcases hdev with rfl | rfl
 ·have hdk : r.dk 0 = r.a:=rfl
  rw [hdk] at hn ⊢
  obtain ⟨x,hx,hx2⟩:=zQs m.e0 hn
  obtain ⟨H',v,k,⟨b0,hb0,hb1⟩,f,e⟩:=zMl m.k0 hx hz hc
  have fp : ∀ b,(b = d0 ∨ slb x.1 = some b) → fpD p0 d0 L0 b:=fun b h=>by
   rcases h with rfl | h
   ·exact .inr (.inl rfl)
   ·exact .inr (.inr ⟨x,List.mem_of_getElem? hx,h⟩)
  have t:=m.turn0 k f fp (Nat.le_succ _) hc (fun b hb=>by
   rcases zNq hb with h | h
   ·exact .inl h
   ·rw [hb0] at h; injection h with h; subst h; exact .inr hb1)
  rw [zL7 hx v (fun s=>⟨s.there,s.vers ++ [z]⟩),m.e0] at t
  refine ⟨p0,H',_,_,e,zFz m,t,f.mono fun b _ hb=>.inr (.inl (fp b hb)),fun b hb=>?_,fun _ w _ K fk hk hl mk v'=>?_⟩
  ·rcases hb with rfl | hb | hb
   ·exact .inl (.inl rfl)
   ·rcases zNq hb with h | h
    ·exact .inl (.inr (.inl h))
    ·rw [hb0] at h; injection h with h; subst h; exact .inr hb1
   ·exact .inl (.inr (.inr hb))
  ·exact mk.k0.dirty t.k0 (List.mem_of_getElem? (List.getElem?_set_self (List.getElem?_eq_some_iff.1 hx).1)) hb0 (by omega) v'
 ·have hdk : r.dk 1 = r.b:=rfl
  rw [hdk] at hn ⊢
  obtain ⟨x,hx,hx2⟩:=zQs m.e1 hn
  obtain ⟨H',v,k,⟨b0,hb0,hb1⟩,f,e⟩:=zMl m.k1 hx hz hc
  have fp : ∀ b,(b = d1 ∨ slb x.1 = some b) → fpD p1 d1 L1 b:=fun b h=>by
   rcases h with rfl | h
   ·exact .inr (.inl rfl)
   ·exact .inr (.inr ⟨x,List.mem_of_getElem? hx,h⟩)
  have t:=m.turn1 k f fp (Nat.le_succ _) hc (fun b hb=>by
   rcases zNq hb with h | h
   ·exact .inl h
   ·rw [hb0] at h; injection h with h; subst h; exact .inr hb1)
  rw [zL7 hx v (fun s=>⟨s.there,s.vers ++ [z]⟩),m.e1] at t
  refine ⟨p1,H',_,_,e,zFy m,t,f.mono fun b _ hb=>.inr (.inr (fp b hb)),fun b hb=>?_,fun _ w _ K fk hk hl mk v'=>?_⟩
  ·rcases hb with rfl | hb | hb
   ·exact .inl (.inl rfl)
   ·exact .inl (.inr (.inl hb))
   ·rcases zNq hb with h | h
    ·exact .inl (.inr (.inr h))
    ·rw [hb0] at h; injection h with h; subst h; exact .inr hb1
  ·exact mk.k1.dirty t.k1 (List.mem_of_getElem? (List.getElem?_set_self (List.getElem?_eq_some_iff.1 hx).1)) hb0 (by omega) v'
set_option maxHeartbeats 4000000 in
theorem zV1 (dev i : Int) {z : List Int} (hz : B64 z) (hc : c + 1 ≤ 1000000000) : ∃ H' L0' L1',RG H' p p0 d0 p1 d1 (c + 1) L0' L1' (r.write dev i z).1 ∧ Fr H H' (fpR p p0 d0 p1 d1 L0 L1) ∧ (∀ b,fpR p p0 d0 p1 d1 L0' L1' b → fpR p p0 d0 p1 d1 L0 L1 b ∨ H.length ≤ b) ∧
  (envL prog).call 22 [.ptr p 0,.int .i64 dev,.int .i64 i,.agg (u8s z)] H = some (.int .i64 (r.write dev i z).2,H'):=by
 have l64:=hz.1
 have w64 : (u8s z).length = 64:=by rw [zAd]; exact l64
 have tk:=zCg l64
 have hp:=zAl m.blk
 have m1:=m.adds [.rw (u8s z)]
 have rd:=zL4 m1 dev
 have dl:=zNv
 have nothing (e : r.write dev i z = (r,1)) (hcall : (envL prog).call 22 [.ptr p 0,.int .i64 dev,.int .i64 i,.agg (u8s z)] H = some (.int .i64 1,H)) : ∃ H' L0' L1',RG H' p p0 d0 p1 d1 (c + 1) L0' L1' (r.write dev i z).1 ∧ Fr H H' (fpR p p0 d0 p1 d1 L0 L1) ∧ (∀ b,fpR p p0 d0 p1 d1 L0' L1' b → fpR p p0 d0 p1 d1 L0 L1 b ∨ H.length ≤ b) ∧
   (envL prog).call 22 [.ptr p 0,.int .i64 dev,.int .i64 i,.agg (u8s z)] H = some (.int .i64 (r.write dev i z).2,H'):=by
  rw [e]; exact ⟨H,L0,L1,m.up (Nat.le_succ _) hc,Fr.refl _ _,fun b hb=>.inl hb,hcall⟩
 by_cases hi : i < 0
 ·have dd1:=decide_eq_true hi
  refine nothing (by unfold RgS.write; rw [if_neg (by omega)]) ?_
  rw [c22]
  unfold b22
  rcases rd with ⟨q,d,L,e,k,hl,_⟩ | ⟨e,hl,_⟩
  ·simp -implicitDefEqProofs (maxSteps:=5000000) only [go_sem,simprocAttr,e,dd1]
  ·simp -implicitDefEqProofs (maxSteps:=5000000) only [go_sem,simprocAttr,e,dd1]
 have dd1:=decide_eq_false hi
 rcases rd with ⟨q,d,L,e,k,hl,hdev⟩ | ⟨e,hl,_⟩
 ·have c1:=zIj k
  have hll : (r.dk dev).length = L.length:=by rw [← hl,List.length_map]
  by_cases hx : i < L.length
  ·obtain ⟨n,rfl⟩ : ∃ n : Nat,i = n:=⟨i.toNat,by omega⟩
   have hn : n < L.length:=by omega
   have d2 : decide ((n : Int) ≥ (L.length : Int)) = false:=decide_eq_false (by omega)
   obtain ⟨mp,cp⟩:=zRz m1
   have e1 : (H ++ [ABlk.rw (u8s z)]).set p (.rw (zBb p0 p1 r.pass.1)) = H.set p (.rw (zBb p0 p1 r.pass.1)) ++ [.rw (u8s z)]:=zM7 _ hp
   rw [e1] at mp cp
   have mH:=m.set r.pass.1 (by unfold RgS.pass; split <;> rfl) (by unfold RgS.pass; split <;> rfl)
   by_cases hq : r.pass.2 = 0
   ·have hpa : r.pass.1.dk dev = r.dk dev:=by
     have : r.pass.1.a = r.a ∧ r.pass.1.b = r.b:=by unfold RgS.pass; split <;> exact ⟨rfl,rfl⟩
     unfold RgS.dk; rw [this.1,this.2]
    obtain ⟨q2,H',L0',L1',ew,ed,mt,ft,fn,dirty⟩:=rigTurnW mp hdev (n:=n) (by rw [hpa]; omega) hz hc
    have eq2 : q2 = q:=by
     have:=(zL4 mp dev)
     have hdk:=zL4 mp dev
     rcases hdev with rfl | rfl
     ·have a1:=zFz m1
      have a2:=zFz mp
      rw [e] at a1; rw [ed] at a2
      simp only [Option.some.injEq,Prod.mk.injEq,AV.ptr.injEq,and_true] at a1 a2
      rw [a1,a2]
     ·have a1:=zFy m1
      have a2:=zFy mp
      rw [e] at a1; rw [ed] at a2
      simp only [Option.some.injEq,Prod.mk.injEq,AV.ptr.injEq,and_true] at a1 a2
      rw [a1,a2]
    subst eq2
    have er : r.write dev (n : Int) z = (r.pass.1.put dev ((r.pass.1.dk dev).modify n fun s=>⟨s.there,s.vers ++ [z]⟩),0):=by
     unfold RgS.write; rw [if_pos (by omega),if_pos hq,hpa]; simp
    rw [er]
    have f0 : Fr H (H.set p (.rw (zBb p0 p1 r.pass.1)) ++ [.rw (u8s z)]) (fpR p p0 d0 p1 d1 L0 L1) :=
     (Fr.set H (.rw (zBb p0 p1 r.pass.1)) (F:=fpR p p0 d0 p1 d1 L0 L1) (.inl rfl)).trans (Fr.adds ⟨_,rfl⟩ (fun _=>False)) (fun _ _ h=>h.elim)
    have tr:=dirty 0 r (.inr trivial) H (by
     refine ⟨by simp,fun b hb hn=>?_⟩
     rw [List.getElem?_append_left (by simpa using hb),zAf _ _ _ _ hn]) (fun b hb=>m.lt hb) (by simp) m
    refine ⟨H',L0',L1',mt,f0.trans ft (fun b _ h=>h),fun b hb=>?_,?_⟩
    ·rcases fn b hb with h | h
     ·exact .inl h
     ·have hl9 : (H.set p (.rw (zBb p0 p1 r.pass.1)) ++ [ABlk.rw (u8s z)]).length = H.length + 1:=by simp
      exact .inr (by omega)
    ·have hq2 : (r.pass.2 != 0) = false:=by simp [hq]
     rw [hq] at cp
     have n0 : ((0 : Int) != 0) = false:=rfl
     have hbx : cellsOf (H.set p (.rw (zBb p0 p1 r.pass.1)) ++ [ABlk.rw (u8s z)]) H.length = some (u8s z):=by
      unfold cellsOf
      rw [List.getElem?_append_right (by simp)]; simp
     rw [c22]
     unfold b22
     simp -implicitDefEqProofs (maxSteps:=5000000) only [go_sem,simprocAttr,e,c1,dd1,d2,cp,n0,hbx,w64,tk,ew,tr]
   ·have er : r.write dev (n : Int) z = r.pass:=by unfold RgS.write; rw [if_pos (by omega),if_neg hq]
    rw [er]
    have hq2 : (r.pass.2 != 0) = true:=by simp [hq]
    have hl2 : (H.set p (.rw (zBb p0 p1 r.pass.1))).length = H.length:=by simp
    have tr : trim H (some (.int .i64 r.pass.2,H.set p (.rw (zBb p0 p1 r.pass.1)) ++ [ABlk.rw (u8s z)])) = some (.int .i64 r.pass.2,H.set p (.rw (zBb p0 p1 r.pass.1))):=by
     rw [zE1 (by rw [List.length_append,hl2]; omega) rfl (fun b k' hb hk=>?_)]
     ·rw [← hl2,List.take_left]
     ·rw [List.getElem?_append_left (by omega)] at hk
      by_cases eb : b = p
      ·subst eb
       rw [zA4 _ _ _ hp] at hk
       injection hk with hk; subst hk
       refine .inr fun a ha=>?_
       have h0:=zBn m.k0.ptr
       have h1:=zBn m.k1.ptr
       simp only [ABlk.vals,zBb,List.mem_cons,List.not_mem_nil,or_false] at ha
       rcases ha with rfl | rfl | rfl | rfl | rfl <;> simp [AV.under,h0,h1]
      ·rw [zAf _ _ _ _ eb] at hk; exact .inl hk
    refine ⟨_,L0,L1,mH.up (Nat.le_succ _) hc,Fr.set _ _ (.inl rfl),fun b hb=>.inl hb,?_⟩
    rw [c22]
    unfold b22
    simp -implicitDefEqProofs (maxSteps:=5000000) only [go_sem,simprocAttr,e,c1,dd1,d2,cp,hq2,tr]
  ·have d2 : decide (i ≥ (L.length : Int)) = true:=decide_eq_true (by omega)
   refine nothing (by unfold RgS.write; rw [if_neg (by omega)]) ?_
   rw [c22]
   unfold b22
   simp -implicitDefEqProofs (maxSteps:=5000000) only [go_sem,simprocAttr,e,c1,dd1,d2]
 ·have d2 : decide (i ≥ 0) = true:=decide_eq_true (by omega)
  refine nothing (by unfold RgS.write; rw [if_neg (by rw [hl]; simp)]) ?_
  rw [c22]
  unfold b22
  simp -implicitDefEqProofs (maxSteps:=5000000) only [go_sem,simprocAttr,e,dl,dd1,d2]
end
end Go.Proofs.YtbmmnfeeapnhkaaGreat.G08
end
section
namespace Go.Proofs.YtbmmnfeeapnhkaaGreat.G08
open Go Go.Proofs.YtbmmnfeeapnhkaaGreat.Eng
theorem zGs {q d : Nat} {L L' : List (AV × Sec)} (h : ∀ x ∈ L',slb x.1 = none) {b : Nat} (hb : fpD q d L' b) : fpD q d L b:=by
 rcases hb with rfl | rfl | ⟨x,hx,hb⟩
 ·exact .inl rfl
 ·exact .inr (.inl rfl)
 ·rw [h x hx] at hb; cases hb
section
variable {H : zAa} {p p0 d0 p1 d1 c : Nat} {L0 L1 : List (AV × Sec)} {r : RgS} (m : RG H p p0 d0 p1 d1 c L0 L1 r)
include m
theorem rigTurnF {dev : Int} (hdev : dev = 0 ∨ dev = 1) : ∃ q H' L0' L1',(envL prog).call 101 [.ptr q 0] H = some (.int .i64 0,H') ∧ (envL prog).call 78 [.ptr p 0,.int .i64 dev] H = some (.ptr q 0,H) ∧ RG H' p p0 d0 p1 d1 c L0' L1' (r.put dev ((r.dk dev).map settled)) ∧ Fr H H' (fpR p p0 d0 p1 d1 L0 L1) ∧ H'.length = H.length ∧ (∀ b,fpR p p0 d0 p1 d1 L0' L1' b → fpR p p0 d0 p1 d1 L0 L1 b):=by
 have em : ∀ L : List (AV × Sec),(L.map flX).map (·.2) = (L.map (·.2)).map settled:=fun L=>by simp only [List.map_map]; rfl
 have nn : ∀ L : List (AV × Sec),∀ x ∈ L.map flX,slb x.1 = none:=fun L x hx=>by obtain ⟨y,_,rfl⟩:=List.mem_map.1 hx; rfl
 rcases hdev with rfl | rfl
 ·obtain ⟨H',k,kk,e⟩:=zMm m.k0
  have t:=m.turn0 k (Fr.keep kk) (fun b h=>by simp at h; subst h; exact .inr (.inl rfl)) (Nat.le_refl _) m.k0.vs.cb (fun b hb=>.inl (zGs (nn _) hb))
  rw [em,m.e0] at t
  refine ⟨p0,H',_,_,e,zFz m,t,(Fr.keep kk).mono fun b _ hb=>?_,kk.1,fun b hb=>?_⟩
  ·simp at hb; subst hb; exact .inr (.inl (.inr (.inl rfl)))
  ·rcases hb with rfl | hb | hb
   ·exact .inl rfl
   ·exact .inr (.inl (zGs (nn _) hb))
   ·exact .inr (.inr hb)
 ·obtain ⟨H',k,kk,e⟩:=zMm m.k1
  have t:=m.turn1 k (Fr.keep kk) (fun b h=>by simp at h; subst h; exact .inr (.inl rfl)) (Nat.le_refl _) m.k1.vs.cb (fun b hb=>.inl (zGs (nn _) hb))
  rw [em,m.e1] at t
  refine ⟨p1,H',_,_,e,zFy m,t,(Fr.keep kk).mono fun b _ hb=>?_,kk.1,fun b hb=>?_⟩
  ·simp at hb; subst hb; exact .inr (.inr (.inr (.inl rfl)))
  ·rcases hb with rfl | hb | hb
   ·exact .inl rfl
   ·exact .inr (.inl hb)
   ·exact .inr (.inr (zGs (nn _) hb))
set_option maxHeartbeats 4000000 in
theorem zV2 (dev : Int) : ∃ H' L0' L1',RG H' p p0 d0 p1 d1 c L0' L1' (r.flush dev).1 ∧ Fr H H' (fpR p p0 d0 p1 d1 L0 L1) ∧ H'.length = H.length ∧ (∀ b,fpR p p0 d0 p1 d1 L0' L1' b → fpR p p0 d0 p1 d1 L0 L1 b) ∧
  (envL prog).call 51 [.ptr p 0,.int .i64 dev] H = some (.int .i64 (r.flush dev).2,H'):=by
 rcases zL4 m dev with ⟨q,d,L,e,k,hl,hdev⟩ | ⟨e,hl,h0,h1⟩
 ·obtain ⟨mp,cp⟩:=zRz m
  have lp : (H.set p (.rw (zBb p0 p1 r.pass.1))).length = H.length:=by simp
  have fp : Fr H (H.set p (.rw (zBb p0 p1 r.pass.1))) (fpR p p0 d0 p1 d1 L0 L1):=Fr.set _ _ (.inl rfl)
  by_cases hq : r.pass.2 = 0
  ·obtain ⟨q2,H',L0',L1',ef,ed,mt,ft,lt,fn⟩:=rigTurnF mp hdev
   have eq2 : q2 = q:=by
    rcases hdev with rfl | rfl
    ·have a1:=zFz m
     have a2:=zFz mp
     rw [e] at a1; rw [ed] at a2
     simp only [Option.some.injEq,Prod.mk.injEq,AV.ptr.injEq,and_true] at a1 a2
     rw [a1,a2]
    ·have a1:=zFy m
     have a2:=zFy mp
     rw [e] at a1; rw [ed] at a2
     simp only [Option.some.injEq,Prod.mk.injEq,AV.ptr.injEq,and_true] at a1 a2
     rw [a1,a2]
   subst eq2
   have hpa : r.pass.1.dk dev = r.dk dev:=by
    have : r.pass.1.a = r.a ∧ r.pass.1.b = r.b:=by unfold RgS.pass; split <;> exact ⟨rfl,rfl⟩
    unfold RgS.dk; rw [this.1,this.2]
   have er : r.flush dev = (r.pass.1.put dev ((r.pass.1.dk dev).map settled),0):=by unfold RgS.flush; rw [if_pos hdev,if_pos hq,hpa]
   rw [er]
   refine ⟨H',L0',L1',mt,fp.trans ft (fun b _ h=>h),by rw [lt,lp],fn,?_⟩
   have tr : trim H (some (.int .i64 0,H')) = some (.int .i64 0,H'):=zB8 (by rw [lt,lp])
   rw [hq] at cp
   have n0 : ((0 : Int) != 0) = false:=rfl
   rw [c51]
   unfold b51
   simp -implicitDefEqProofs (maxSteps:=5000000) only [go_sem,simprocAttr,e,cp,n0,ef,tr]
  ·have er : r.flush dev = r.pass:=by unfold RgS.flush; rw [if_pos hdev,if_neg hq]
   rw [er]
   refine ⟨_,L0,L1,mp,fp,lp,fun b h=>h,?_⟩
   have tr : trim H (some (.int .i64 r.pass.2,H.set p (.rw (zBb p0 p1 r.pass.1)))) = some (.int .i64 r.pass.2,H.set p (.rw (zBb p0 p1 r.pass.1))):=zB8 lp
   have hq2 : (r.pass.2 != 0) = true:=by simp [hq]
   rw [c51]
   unfold b51
   simp -implicitDefEqProofs (maxSteps:=5000000) only [go_sem,simprocAttr,e,cp,hq2,tr]
 ·have er : r.flush dev = (r,1):=by unfold RgS.flush; rw [if_neg (by omega)]
  rw [er]
  refine ⟨H,L0,L1,m,Fr.refl _ _,rfl,fun b h=>h,?_⟩
  rw [c51]
  unfold b51
  simp -implicitDefEqProofs (maxSteps:=5000000) only [go_sem,simprocAttr,e]
end
theorem eachC {y q p p0 p1 : Nat} {K0 K1 K2 : zAa} {rest : List AV} (hq : cellsOf K0 q = some [.ptr p 0]) (hp : cellsOf K0 p = some (.ptr p0 0 :: .ptr p1 0 :: rest)) (y0 : (envL prog).yield y [.int .i64 0,.ptr p0 0] K0 = some (.bool true,K1)) (y1 : (envL prog).yield y [.int .i64 1,.ptr p1 0] K1 = some (.bool true,K2)) :
  (envL prog).call 113 [.yld y,.ptr q 0] K0 = trim K0 (some (.tup [],K2)):=by
 have w1 : IntKind.i64.wrap 1 = 1:=by decide
 have w2 : IntKind.i64.wrap 2 = 2:=by decide
 have h2 : (2 ≤ rest.length + 1 + 1) = True:=by simp
 rw [c113]
 unfold b113
 simp -implicitDefEqProofs (maxSteps:=5000000) only [go_sem,simprocAttr,zCd,zA6,zE8,idxA,Int.reduceLT,Int.reduceLE,Int.reduceToNat,Int.toNat_zero,Int.toNat_one,Nat.reduceLT,Nat.zero_mul,Nat.mul_one,Nat.one_mul,Int.reduceAdd,Int.cast_ofNat_Int,zAu,l113x0,hq,hp,y0,y1,w1,w2,h2]
set_option maxHeartbeats 4000000 in
theorem zMp {G : zAa} {q d c p : Nat} {L : List (AV × Sec)} (k : DK G q d c L) {v0 v1 v : AV} {zs : List Int} {dev : Nat} (hv : [v0,v1][dev]? = some v) (b : BS G v zs) (hu : IsU8 zs) (hl : zDz v) (hvb : ∀ b,slb v = some b → b < G.length ∧ b ≠ d) (hvc : zA7 v = some [v]) {t : T} (ht : t.length = 29) (h6 : getT t 6 = .ptr G.length 0) :
  (envL prog).yield (G.length + 2) [.int .i64 (dev : Int),.ptr q 0] (G ++ [.rw [v0,v1],.rw [.ptr p 0],.loop ⟨.ready,.normal,t,[14,15],zDt,zDs⟩]) = some (.bool true,setD G d ((zCk (L.map (·.2)) zs).map (fun s=>(AV.nilSl,s))) ++ [.rw [v0,v1],.rw [.ptr p 0],.loop ⟨.ready,.normal,t,[14,15],zDt,zDs⟩]):=by
 have hd:=zAl k.blk
 have hdev : dev < 2:=(List.getElem?_eq_some_iff.1 hv).1
 have e1 : (G ++ [ABlk.rw [v0,v1],.rw [.ptr p 0],.loop ⟨.ready,.normal,t,[14,15],zDt,zDs⟩]).set (G.length + 2) (.loop ⟨.busy,.normal,t,[14,15],zDt,zDs⟩) = G ++ [.rw [v0,v1],.rw [.ptr p 0],.loop ⟨.busy,.normal,t,[14,15],zDt,zDs⟩]:=by
  rw [List.set_append_right _ _ (by omega)]; simp
 obtain ⟨H',dk,kk,e⟩:=zJa (H:=G ++ [.rw [v0,v1],.rw [.ptr p 0],.loop ⟨.busy,.normal,t,[14,15],zDt,zDs⟩]) (k.fr (Fr.adds ⟨_,rfl⟩ (fun _=>False)) (fun _ _ h=>h)) (b.mono _) hu hl (fun b hb=>⟨by have:=(hvb b hb).1; simp; omega,(hvb b hb).2⟩) hvc
 have eH:=zQn kk dk.blk
 rw [zM7 _ hd] at eH
 subst eH
 have cc : ∀ (x : ABlk),cellsOf (G ++ [.rw [v0,v1],.rw [.ptr p 0],x]) G.length = some [v0,v1]:=fun x=>by unfold cellsOf; simp
 have hix : zDo 2 1 (.ptr G.length 0) (.int .i64 (dev : Int)) = some (.ptr G.length dev):=by
  rw [zI2,if_pos ⟨by omega,by omega⟩]; simp
 have st:=fun {ex : Ex} {t2 : T} {K2 : zAa} (hb : runC (envL prog) (zS1 (envL prog)) ((((t.set 14 (.int .i64 (dev : Int))).set 15 (.ptr q 0)).set 7 (.int .i64 (dev : Int))).set 8 (.ptr q 0)) (G ++ [.rw [v0,v1],.rw [.ptr p 0],.loop ⟨.busy,.normal,t,[14,15],zDt,zDs⟩]) = some (ex,t2,K2)) (h2 : K2[G.length + 2]? = some (.loop ⟨.busy,.normal,t,[14,15],zDt,zDs⟩))=>zEz (P:=prog) (l:=G.length + 2) (args:=[.int .i64 (dev : Int),.ptr q 0]) (K:=G ++ [.rw [v0,v1],.rw [.ptr p 0],.loop ⟨.ready,.normal,t,[14,15],zDt,zDs⟩]) (eaq20x0 _) (ebq20x0 _) (e0:=.normal) (T0:=t) (ps:=[14,15]) (by rw [List.getElem?_append_right (by omega)]; simp) rfl
  (t1:=(((t.set 14 (.int .i64 (dev : Int))).set 15 (.ptr q 0)).set 7 (.int .i64 (dev : Int))).set 8 (.ptr q 0)) (by
   unfold aq20x0
   simp -implicitDefEqProofs (maxSteps:=5000000) only [go_sem,simprocAttr,zBq,zC2,ht,List.length_set,Nat.reduceLT]) (by rw [e1]; exact hb) h2
 have ob : Outs (runC (envL prog) (zS1 (envL prog)) ((((t.set 14 (.int .i64 (dev : Int))).set 15 (.ptr q 0)).set 7 (.int .i64 (dev : Int))).set 8 (.ptr q 0)) (G ++ [.rw [v0,v1],.rw [.ptr p 0],.loop ⟨.busy,.normal,t,[14,15],zDt,zDs⟩])) fun e _ K'=>e = .normal ∧ K' = G.set d (.rw (((zCk (L.map (·.2)) zs).map (fun s=>(AV.nilSl,s))).map secR).flatten) ++ [.rw [v0,v1],.rw [.ptr p 0],.loop ⟨.busy,.normal,t,[14,15],zDt,zDs⟩]:=by
  unfold zS1
  simp -implicitDefEqProofs (maxSteps:=5000000) only [go_sem,simprocAttr,zC2,ht,h6,List.length_set,Nat.reduceLT,hix,cc,hv,e,zAc]
 obtain ⟨ex,t2,K2,er,rfl,rfl⟩:=ob
 have hl2 : (G.set d (.rw (((zCk (L.map (·.2)) zs).map (fun s=>(AV.nilSl,s))).map secR).flatten)).length = G.length:=by simp
 rw [st er (by rw [List.getElem?_append_right (by omega),hl2]; simp)]
 rw [zB8 (by rw [List.length_set,List.length_append,List.length_append,hl2]; rfl),List.set_append_right _ _ (by omega),hl2]
 unfold setD
 simp [Ex.isNormal]
section
variable {H : zAa} {p p0 d0 p1 d1 c : Nat} {L0 L1 : List (AV × Sec)} {r : RgS} (m : RG H p p0 d0 p1 d1 c L0 L1 r)
include m
set_option maxHeartbeats 4000000 in
theorem zV3 {v0 v1 : AV} {z0 z1 : List Int} (b0 : BS H v0 z0) (b1 : BS H v1 z1) (u0 : IsU8 z0) (u1 : IsU8 z1) (l0 : zDz v0) (l1 : zDz v1) (n0 : ∀ b,slb v0 = some b → b < H.length ∧ ¬ fpR p p0 d0 p1 d1 L0 L1 b) (n1 : ∀ b,slb v1 = some b → b < H.length ∧ ¬ fpR p p0 d0 p1 d1 L0 L1 b) :
  ∃ H' L0' L1',RG H' p p0 d0 p1 d1 c L0' L1' (r.crash z0 z1) ∧ Fr H H' (fpR p p0 d0 p1 d1 L0 L1) ∧ H'.length = H.length ∧ (∀ b,fpR p p0 d0 p1 d1 L0' L1' b → fpR p p0 d0 p1 d1 L0 L1 b) ∧
   (envL prog).call 20 [.ptr p 0,v0,v1] H = some (.tup [],H'):=by
 have hp:=zAl m.blk
 have hd0:=zAl m.k0.blk
 have hd1:=zAl m.k1.blk
 have vc : ∀ (v : AV) (z : List Int),BS H v z → zA7 v = some [v] ∧ v.isCell = true:=fun v z h=>by
  rcases h with ⟨rfl,_⟩ | ⟨_,_,_,_,_,rfl,_⟩ <;> exact ⟨rfl,rfl⟩
 obtain ⟨a0,i0⟩:=vc v0 z0 b0
 obtain ⟨a1,i1⟩:=vc v1 z1 b1
 have em : ∀ (L : List (AV × Sec)) (z : List Int),((zCk (L.map (·.2)) z).map (fun s=>(AV.nilSl,s))).map (·.2) = zCk (L.map (·.2)) z:=fun L z=>by rw [List.map_map]; exact List.map_id'' (fun _=>rfl) _
 have nn : ∀ (S : List Sec),∀ x ∈ S.map (fun s=>(AV.nilSl,s)),slb x.1 = none:=fun S x hx=>by obtain ⟨y,_,rfl⟩:=List.mem_map.1 hx; rfl
 obtain ⟨H1,k0',kk0,_⟩:=zJa m.k0 b0 u0 l0 (fun b hb=>⟨(n0 b hb).1,fun e=>(n0 b hb).2 (.inr (.inl (.inr (.inl e))))⟩) a0
 have t0:=m.turn0 k0' (Fr.keep kk0) (fun b h=>by simp at h; subst h; exact .inr (.inl rfl)) (Nat.le_refl _) m.k0.vs.cb (fun b hb=>.inl (zGs (nn _) hb))
 rw [em,m.e0] at t0
 have e1:=zQn kk0 k0'.blk
 have lH1:=kk0.1
 have bs1 : BS H1 v1 z1:=BS.fr b1 (Fr.keep kk0) fun b hb hm=>by
  simp at hm; subst hm; exact (n1 _ hb).2 (.inr (.inl (.inr (.inl rfl))))
 obtain ⟨H2,k1',kk1,_⟩:=zJa t0.k1 bs1 u1 l1 (fun b hb=>⟨by rw [lH1]; exact (n1 b hb).1,fun e=>(n1 b hb).2 (.inr (.inr (.inr (.inl e))))⟩) a1
 have t1:=t0.turn1 k1' (Fr.keep kk1) (fun b h=>by simp at h; subst h; exact .inr (.inl rfl)) (Nat.le_refl _) m.k1.vs.cb (fun b hb=>.inl (zGs (nn _) hb))
 rw [em,t0.e1] at t1
 have e2:=zQn kk1 k1'.blk
 have lH2:=kk1.1
 have t2:=t1.set (r.crash z0 z1) rfl rfl
 have fr : Fr H (H2.set p (.rw (zBb p0 p1 (r.crash z0 z1)))) (fpR p p0 d0 p1 d1 L0 L1) :=
  (((Fr.keep kk0).mono fun b _ hb=>by simp at hb; subst hb; exact .inr (.inl (.inr (.inl rfl)))).trans ((Fr.keep kk1).mono (G:=fpR p p0 d0 p1 d1 L0 L1) fun b _ hb=>by simp at hb; subst hb; exact .inr (.inr (.inr (.inl rfl)))) (fun b _ h=>h)).trans (Fr.set _ _ (F:=fpR p p0 d0 p1 d1 L0 L1) (.inl rfl)) (fun b _ h=>h)
 have lH3 : (H2.set p (.rw (zBb p0 p1 (r.crash z0 z1)))).length = H.length:=by rw [List.length_set]; omega
 refine ⟨_,_,_,t2,fr,lH3,fun b hb=>?_,?_⟩
 ·rcases hb with rfl | hb | hb
  ·exact .inl rfl
  ·exact .inr (.inl (zGs (nn _) hb))
  ·exact .inr (.inr (zGs (nn _) hb))
 have it : ∀ t : T,(t.length = 29 ∧ getT t 6 = .ptr H.length 0) → (envL prog).call 113 [.yld (H.length + 2),.ptr (H.length + 1) 0] (H ++ [.rw [v0,v1],.rw [.ptr p 0],.loop ⟨.ready,.normal,t,[14,15],zDt,zDs⟩]) = some (.tup [],H2 ++ [.rw [v0,v1],.rw [.ptr p 0],.loop ⟨.ready,.normal,t,[14,15],zDt,zDs⟩]):=by
  rintro T ⟨hT,h6⟩
  have y0:=zMp (p:=p) (v0:=v0) (v1:=v1) (dev:=0) m.k0 rfl b0 u0 l0 (fun b hb=>⟨(n0 b hb).1,fun e=>(n0 b hb).2 (.inr (.inl (.inr (.inl e))))⟩) a0 hT h6
  have y1:=zMp (p:=p) (v0:=v0) (v1:=v1) (dev:=1) t0.k1 rfl bs1 u1 l1 (fun b hb=>⟨by rw [lH1]; exact (n1 b hb).1,fun e=>(n1 b hb).2 (.inr (.inr (.inr (.inl e))))⟩) a1 hT (by rw [lH1]; exact h6)
  rw [show setD H d0 ((zCk (L0.map (·.2)) z0).map (fun s=>(AV.nilSl,s))) = H1 from e1.symm] at y0
  rw [show setD H1 d1 ((zCk (L1.map (·.2)) z1).map (fun s=>(AV.nilSl,s))) = H2 from e2.symm,lH1] at y1
  rw [show ((0 : Nat) : Int) = 0 from rfl] at y0
  rw [show ((1 : Nat) : Int) = 1 from rfl] at y1
  rw [eachC (p:=p) (rest:=[.int .i64 r.fuse,.bool r.down,.int .i64 r.done]) (by unfold cellsOf; simp) (zAy (zAj m.blk)) y0 y1]
  exact zB8 (by rw [List.length_append,List.length_append,lH2,lH1])
 have e3:=fun t h1 h2=>it t ⟨h1,h2⟩
 have er:=fun B=>zNd (p:=p) (H ++ B)
 have w1 : ∀ B,zAz (H2 ++ B) p 2 [.int .i64 (-1)] = some (H2.set p (.rw (zBb p0 p1 { r with a:=zCk r.a z0,b:=zCk r.b z1,fuse:=-1 })) ++ B):=fun B=>by
  have hb : (H2 ++ B)[p]? = some (.rw (zBb p0 p1 { r with a:=zCk r.a z0,b:=zCk r.b z1 })):=by rw [List.getElem?_append_left (by omega)]; exact t1.blk
  rw [zAv hb,if_pos ⟨by simp [zBb],rfl⟩,zAx,zM7 _ (by omega)]; rfl
 have w2 : ∀ B,zAz (H2.set p (.rw (zBb p0 p1 { r with a:=zCk r.a z0,b:=zCk r.b z1,fuse:=-1 })) ++ B) p 3 [.bool false] = some (H2.set p (.rw (zBb p0 p1 (r.crash z0 z1))) ++ B):=fun B=>by
  have hb : (H2.set p (.rw (zBb p0 p1 { r with a:=zCk r.a z0,b:=zCk r.b z1,fuse:=-1 })) ++ B)[p]? = some (.rw (zBb p0 p1 { r with a:=zCk r.a z0,b:=zCk r.b z1,fuse:=-1 })):=by
   rw [List.getElem?_append_left (by rw [List.length_set]; omega)]; exact zA4 _ _ _ (by omega)
  rw [zAv hb,if_pos ⟨by simp [zBb],rfl⟩,zAx,zM7 _ (by rw [List.length_set]; omega),List.set_set]; rfl
 have l3 : ∀ (x y z : ABlk),(H2 ++ [x,y,z])[H.length + 2]? = some z:=fun x y z=>by
  rw [← lH1,← lH2,List.getElem?_append_right (by omega)]; simp
 have l4 : ∀ (x y z k : ABlk),(H2 ++ [x,y,z]).set (H.length + 2) k = H2 ++ [x,y,k]:=fun x y z k=>by
  rw [← lH1,← lH2,List.set_append_right _ _ (by omega)]; simp
 have o : Outs (runC (envL prog) (b20 (envL prog)) ([.ptr p 0,v0,v1] ++ List.replicate (29 - [AV.ptr p 0,v0,v1].length) .undef) H) fun e' t K'=>(∃ B,K' = H2.set p (.rw (zBb p0 p1 (r.crash z0 z1))) ++ B) ∧ fin [] (some (e',t,K')) = some (.tup [],K'):=by
  unfold b20
  generalize hQ : (fun (e' : Ex) (t : T) (K' : zAa)=>(∃ B,K' = H2.set p (.rw (zBb p0 p1 (r.crash z0 z1))) ++ B) ∧ fin [] (some (e',t,K')) = some (AV.tup [],K')) = Q
  have hc2 : ([v0,v1] : List AV).all AV.isCell = true:=by simp [i0,i1]
  simp -implicitDefEqProofs (maxSteps:=5000000) only [go_sem,simprocAttr,a0,a1,i0,i1,hc2,zAw,zCj,zKg,er,zDe,zF7,e3,zCr,l3,l4,w1,w2,zAc]
  subst hQ
  refine ⟨⟨_,rfl⟩,?_⟩
  simp -implicitDefEqProofs (maxSteps:=5000000) only [go_sem,simprocAttr]
 obtain ⟨e',t,K',hr,⟨B,rfl⟩,hf⟩:=o
 rw [c20,hr,hf,zE1 (by rw [List.length_append]; omega) rfl (fun b k' hb hk=>?_)]
 ·rw [← lH3,List.take_left]
 ·rw [List.getElem?_append_left (by omega)] at hk
  have hlt : ∀ x,x < H.length → AV.under H.length (.ptr x 0) = true:=fun x hx=>by simp [AV.under,hx]
  by_cases q : b = p
  ·subst q
   rw [t2.blk] at hk
   injection hk with hk; subst hk
   refine .inr fun a ha=>?_
   simp only [ABlk.vals,zBb,List.mem_cons,List.not_mem_nil,or_false] at ha
   rcases ha with rfl | rfl | rfl | rfl | rfl
   ·exact hlt _ (zBn m.k0.ptr)
   ·exact hlt _ (zBn m.k1.ptr)
   ·rfl
   ·rfl
   ·rfl
  ·by_cases q0 : b = d0
   ·subst q0
    rw [t2.k0.blk] at hk
    injection hk with hk; subst hk
    have:=zDx t2.k0.vs
    rw [lH3] at this
    exact .inr this
   ·by_cases q1 : b = d1
    ·subst q1
     rw [t2.k1.blk] at hk
     injection hk with hk; subst hk
     have:=zDx t2.k1.vs
     rw [lH3] at this
     exact .inr this
    ·rw [zAf _ _ _ _ q,kk1.2 b (by simpa using q1),kk0.2 b (by simpa using q0)] at hk
     exact .inl hk
end
end Go.Proofs.YtbmmnfeeapnhkaaGreat.G08
end
section
namespace Go.Proofs.YtbmmnfeeapnhkaaGreat.G08
open Go Go.Proofs.YtbmmnfeeapnhkaaGreat.Eng
def zrow : List AV:=u8s (List.replicate 64 0) ++ [.nilSl]
def zQb (n : Nat) : List AV:=(List.replicate n zrow).flatten
def zL (n : Nat) : List (AV × Sec):=List.replicate n (.nilSl,zsec)
theorem zdisk_eq (n : Nat) : zQb n = ((zL n).map secR).flatten:=by unfold zQb zL; rw [List.map_replicate]; rfl
theorem DK.new {H : zAa} {p d n c : Nat} (h1 : cellsOf H p = some [.sl d 0 65 n n true]) (h2 : H[d]? = some (.rw (zQb n))) (np : p ≠ d) (hn : n ≤ 4096) (hc : c ≤ 1000000000) : DK H p d c (zL n):=by
 refine ⟨by rw [h1]; simp [zL],by rw [h2,zdisk_eq],np,by simp [zL]; exact hn,⟨hc,fun x hx=>?_,fun x hx=>?_,fun x hx=>?_,fun x hx b hb=>?_,fun i j x y hi hj hne b hb=>?_⟩⟩
 all_goals try (have e:=(List.mem_replicate.1 hx).2; subst e)
 ·exact .inl ⟨rfl,rfl⟩
 ·exact zsec_ok
 ·exact Nat.zero_le _
 ·cases hb
 ·have e:=(List.mem_replicate.1 (List.mem_of_getElem? hi)).2
  subst e; cases hb
theorem zMg {p d n b : Nat} (h : fpD p d (zL n) b) : b = p ∨ b = d:=by
 rcases h with h | h | ⟨x,hx,hb⟩
 ·exact .inl h
 ·exact .inr h
 ·have e:=(List.mem_replicate.1 hx).2
  subst e; cases hb
set_option maxHeartbeats 1000000 in
theorem zSj {n : Nat} (h1 : 1 ≤ n) (h2 : n ≤ 4096) (H : zAa) : (envL prog).call 41 [.int .i64 (n : Int)] H = some (.tup [.ptr (H.length + 1) 0,.int .i64 0],H ++ [.rw (zQb n),.rw [.sl H.length 0 65 n n true]]):=by
 have d1 : decide ((n : Int) < 1) = false:=decide_eq_false (by omega)
 have d2 : decide ((n : Int) > 4096) = false:=decide_eq_false (by omega)
 have mk : ∀ G : zAa,zCw (ty 65 true 88 (rep 64 (.int .u8 0) ++ [.nilSl])) (.int .i64 (n : Int)) (.int .i64 (n : Int)) G = some (.sl G.length 0 65 n n true,G ++ [.rw (zQb n)]):=fun G=>by
  rw [zKz 65 88 n true _ (by omega) (by omega) (by unfold roomy; omega),zKp]; rfl
 rw [c41]
 unfold b41
 simp -implicitDefEqProofs (maxSteps:=5000000) only [go_sem,simprocAttr,d1,d2,mk]
 exact zBa (by simp [AV.under,zAt])
def zGd (n0 n1 : Nat) : RgS:=⟨List.replicate n0 zsec,List.replicate n1 zsec,-1,false,0⟩
set_option maxHeartbeats 2000000 in
theorem rigNewC {n0 n1 : Nat} (a1 : 1 ≤ n0) (a2 : n0 ≤ 4096) (b1 : 1 ≤ n1) (b2 : n1 ≤ 4096) (H : zAa) : ∃ H',RG H' H.length (H.length + 2) (H.length + 1) (H.length + 4) (H.length + 3) 0 (zL n0) (zL n1) (zGd n0 n1) ∧ Adds H H' ∧ (envL prog).call 12 [.int .i64 (n0 : Int),.int .i64 (n1 : Int)] H = some (.tup [.ptr H.length 0,.int .i64 0],H'):=by
 have c0:=fun B=>zSj a1 a2 (H ++ B)
 have c1:=fun B=>zSj b1 b2 (H ++ B)
 have w1 : IntKind.i64.wrap 1 = 1:=by decide
 have w2 : IntKind.i64.wrap 2 = 2:=by decide
 have n00 : ((0 : Int) != 0) = false:=rfl
 refine ⟨H ++ [.rw [.ptr (H.length + 2) 0,.ptr (H.length + 4) 0,.int .i64 (-1),.bool false,.int .i64 0],.rw (zQb n0),.rw [.sl (H.length + 1) 0 65 n0 n0 true],.rw (zQb n1),.rw [.sl (H.length + 3) 0 65 n1 n1 true]],?_,⟨_,rfl⟩,?_⟩
 ·refine ⟨by simp [zBb,zGd],DK.new (by unfold cellsOf; simp) (by simp) (by omega) a2 (by omega),DK.new (by unfold cellsOf; simp) (by simp) (by omega) b2 (by omega),by simp [zL,zGd],by simp [zL,zGd],fun b hb hb2=>?_,fun hb=>?_,fun hb=>?_⟩
  ·have:=zMg hb
   have:=zMg hb2
   omega
  ·have:=zMg hb; omega
  ·have:=zMg hb; omega
 ·rw [c12]
  unfold b12
  simp -implicitDefEqProofs (maxSteps:=5000000) only [go_sem,simprocAttr,zCd,zA6,idxA,zI2,Int.reduceLT,Int.reduceLE,Int.reduceToNat,Int.toNat_zero,Int.toNat_one,Nat.reduceLT,Nat.zero_mul,Nat.mul_one,Nat.one_mul,Int.reduceAdd,Int.cast_ofNat_Int,zAu,zAw,zCj,zN7,zLw,List.all_cons,List.all_nil,Bool.and_self,l12x0,c0,c1,w1,w2,n00]
  exact zBa (by simp [AV.under,zAt])
end Go.Proofs.YtbmmnfeeapnhkaaGreat.G08
end
section
namespace Go.Proofs.YtbmmnfeeapnhkaaGreat.G08
open Go Go.Proofs.YtbmmnfeeapnhkaaGreat.Eng
structure LI (h0 H : zAa) (p c : Nat) (r : RgS) (F : Nat → Prop) : Prop where
 m : zRg H p c r F
 old : Adds h0 H
 out : ∀ b,F b → h0.length ≤ b
section
variable {h0 H : zAa} {p c : Nat} {r : RgS} {F : Nat → Prop} (l : LI h0 H p c r F)
include l
end
section
variable {H : zAa} {p c : Nat} {r : RgS} {F : Nat → Prop} (m : zRg H p c r F)
include m
theorem rinRead (dev i : Int) : (envL prog).call 32 [.ptr p 0,.int .i64 dev,.int .i64 i] H = some (.tup [.agg (u8s (r.read dev i).1),.int .i64 (r.read dev i).2],H):=by
 obtain ⟨p0,d0,p1,d1,L0,L1,m,_,_⟩:=m
 exact rigReadC m dev i
theorem rinLen (dev : Int) : (envL prog).call 99 [.ptr p 0,.int .i64 dev] H = some (.int .i64 ((r.dk dev).length : Int),H):=by
 obtain ⟨p0,d0,p1,d1,L0,L1,m,_,_⟩:=m
 exact rigLenC m dev
theorem zV0 : (envL prog).call 39 [.ptr p 0] H = some (.int .i64 r.done,H):=by
 obtain ⟨p0,d0,p1,d1,L0,L1,m,_,_⟩:=m
 exact rigDoneC m
end
theorem rinNew {n0 n1 : Nat} (a1 : 1 ≤ n0) (a2 : n0 ≤ 4096) (b1 : 1 ≤ n1) (b2 : n1 ≤ 4096) (H : zAa) : ∃ H' F,LI H H' H.length 0 (zGd n0 n1) F ∧ (envL prog).call 12 [.int .i64 (n0 : Int),.int .i64 (n1 : Int)] H = some (.tup [.ptr H.length 0,.int .i64 0],H'):=by
 obtain ⟨H',m,a,e⟩:=rigNewC a1 a2 b1 b2 H
 refine ⟨H',fun b=>H.length ≤ b ∧ b < H'.length,⟨⟨_,_,_,_,_,_,m,fun b hb=>⟨?_,m.lt hb⟩,fun b hb=>hb.2⟩,a,fun b hb=>hb.1⟩,e⟩
 rcases hb with rfl | hb | hb
 ·exact Nat.le_refl _
 ·have:=zMg hb; omega
 ·have:=zMg hb; omega
end Go.Proofs.YtbmmnfeeapnhkaaGreat.G08
end
section
namespace Go.Proofs.YtbmmnfeeapnhkaaGreat.G08
open Go Go.Proofs.YtbmmnfeeapnhkaaGreat.Eng
section
variable {q : RPl} {H : zAa} {c : Nat} {r : RgS} {F : Nat → Prop} (m : zA3 q H c r F)
include m
theorem zYy (dev i : Int) : (envL prog).call 32 [.ptr q.p 0,.int .i64 dev,.int .i64 i] H = some (.tup [.agg (u8s (r.read dev i).1),.int .i64 (r.read dev i).2],H):=rinRead m.rin dev i
theorem atLen (dev : Int) : (envL prog).call 99 [.ptr q.p 0,.int .i64 dev] H = some (.int .i64 ((r.dk dev).length : Int),H):=rinLen m.rin dev
theorem zRc (dev i : Int) {z : List Int} (hz : B64 z) (hc : c + 1 ≤ 1000000000) : ∃ H' F',zA3 q H' (c + 1) (r.write dev i z).1 F' ∧ zBm H F H' F' ∧ (envL prog).call 22 [.ptr q.p 0,.int .i64 dev,.int .i64 i,.agg (u8s z)] H = some (.int .i64 (r.write dev i z).2,H'):=by
 obtain ⟨L0,L1,m,h1,h2⟩:=m
 obtain ⟨H',L0',L1',m',f,n,e⟩:=zV1 m dev i hz hc
 refine ⟨H',fun b=>F b ∨ (H.length ≤ b ∧ b < H'.length),⟨L0',L1',m',fun b hb=>?_,fun b hb=>?_⟩,⟨f.mono fun b _ hb=>h1 b hb,fun b hb=>hb.elim .inl fun h=>.inr h.1⟩,e⟩
 ·rcases n b hb with h | h
  ·exact .inl (h1 b h)
  ·exact .inr ⟨h,m'.lt hb⟩
 ·rcases hb with h | h
  ·exact Nat.lt_of_lt_of_le (h2 b h) f.1
  ·exact h.2
theorem zLe (dev : Int) : ∃ H',zA3 q H' c (r.flush dev).1 F ∧ zBm H F H' F ∧ H'.length = H.length ∧ (envL prog).call 51 [.ptr q.p 0,.int .i64 dev] H = some (.int .i64 (r.flush dev).2,H'):=by
 obtain ⟨L0,L1,m,h1,h2⟩:=m
 obtain ⟨H',L0',L1',m',f,hl,n,e⟩:=zV2 m dev
 exact ⟨H',⟨L0',L1',m',fun b hb=>h1 b (n b hb),fun b hb=>by rw [hl]; exact h2 b hb⟩,⟨f.mono fun b _ hb=>h1 b hb,fun b hb=>.inl hb⟩,hl,e⟩
theorem atCrash {v0 v1 : AV} {z0 z1 : List Int} (b0 : BS H v0 z0) (b1 : BS H v1 z1) (u0 : IsU8 z0) (u1 : IsU8 z1) (l0 : zDz v0) (l1 : zDz v1) (n0 : ∀ b,slb v0 = some b → b < H.length ∧ ¬ F b) (n1 : ∀ b,slb v1 = some b → b < H.length ∧ ¬ F b) :
  ∃ H',zA3 q H' c (r.crash z0 z1) F ∧ zBm H F H' F ∧ H'.length = H.length ∧ (envL prog).call 20 [.ptr q.p 0,v0,v1] H = some (.tup [],H'):=by
 obtain ⟨L0,L1,m,h1,h2⟩:=m
 obtain ⟨H',L0',L1',m',f,hl,n,e⟩:=zV3 m b0 b1 u0 u1 l0 l1 (fun b hb=>⟨(n0 b hb).1,fun h=>(n0 b hb).2 (h1 b h)⟩) (fun b hb=>⟨(n1 b hb).1,fun h=>(n1 b hb).2 (h1 b h)⟩)
 exact ⟨H',⟨L0',L1',m',fun b hb=>h1 b (n b hb),fun b hb=>by rw [hl]; exact h2 b hb⟩,⟨f.mono fun b _ hb=>h1 b hb,fun b hb=>.inl hb⟩,hl,e⟩
theorem zUn (dev i : Int) : B64 (r.read dev i).1:=by
 obtain ⟨oa,ob,la,lb⟩:=m.rin.ok
 unfold RgS.read
 split
 ·rename_i hi
  split
  ·exact B64.zero
  ·have lt : i.toNat < (r.dk dev).length:=by omega
   rw [List.getElem?_eq_getElem lt]
   have mem:=List.getElem_mem lt
   generalize (r.dk dev)[i.toNat] = s at *
   have os : s.Ok:=by
    unfold RgS.dk at mem
    split at mem
    ·exact oa s mem
    ·split at mem
     ·exact ob s mem
     ·cases mem
   show B64 s.last
   exact os.last
 ·exact B64.zero
end
end Go.Proofs.YtbmmnfeeapnhkaaGreat.G08
end
section
namespace Go.Proofs.YtbmmnfeeapnhkaaGreat.G08
open Go Go.Proofs.YtbmmnfeeapnhkaaGreat.Eng
noncomputable abbrev trk (p : Nat) (f c : Int) : AV:=.agg [.ptr p 0,.int .i64 f,.int .i64 c]
theorem zM4 {a c : Int} (h0 : 0 ≤ a) (h1 : 1 ≤ c) : 0 ≤ a.tmod c ∧ a.tmod c < c:=by
 rw [Int.tmod_eq_emod_of_nonneg h0]
 exact ⟨Int.emod_nonneg _ (by omega),Int.emod_lt_of_pos _ (by omega)⟩
theorem zRt (p : Nat) {f c a : Int} (hf : 0 ≤ f) (hc : 2 ≤ c) (hs : f + c ≤ 1000000000) (ha : 0 ≤ a) (H : zAa) : (envL prog).call 133 [trk p f c,.int .i64 a] H = some (.int .i64 (f + a.tmod c),H):=by
 have t:=zM4 ha (show 1 ≤ c by omega)
 have w : IntKind.i64.wrap (f + a.tmod c) = f + a.tmod c:=zAq (by omega) (by omega)
 have rm:=zHo .none .i64 a c (by omega)
 rw [c133]
 unfold b133
 simp -implicitDefEqProofs (maxSteps:=5000000) only [go_sem,simprocAttr,rm,w]
section
variable {q : RPl} {H : zAa} {n : Nat} {r : RgS} {F : Nat → Prop} (m : zA3 q H n r F)
include m
theorem goodC (f c a : Int) : (envL prog).call 110 [trk q.p f c,.int .i64 a] H = some (.bool (decide (zGr r f c a)),H):=by
 have hl : r.a.length ≤ 4096:=m.rin.ok.2.2.1
 have len:=fun x=>atLen (m.adds x) 0
 have e0 : r.dk 0 = r.a:=rfl
 rw [e0] at len
 rw [c110]
 unfold b110
 by_cases h1 : f ≥ 0
 ·have e1 : decide (f ≥ 0) = true:=by simp [h1]
  by_cases h2 : c ≥ 2
  ·have e2 : decide (c ≥ 2) = true:=by simp [h2]
   by_cases h3 : c ≤ 256
   ·have e3 : decide (c ≤ 256) = true:=by simp [h3]
    have w : IntKind.i64.wrap ((r.a.length : Int) - c) = (r.a.length : Int) - c:=zAq (by omega) (by omega)
    by_cases h4 : f ≤ (r.a.length : Int) - c
    ·have e4 : decide (f ≤ (r.a.length : Int) - c) = true:=by simp [h4]
     by_cases h5 : a ≥ 0
     ·have e5 : decide (a ≥ 0) = true:=by simp [h5]
      have e6 : decide (zGr r f c a) = decide (a < c):=by
       unfold zGr
       by_cases h6 : a < c
       ·rw [decide_eq_true h6]; exact decide_eq_true ⟨h1,h2,h3,h4,h5,h6⟩
       ·rw [decide_eq_false h6]; exact decide_eq_false fun h=>h6 h.2.2.2.2.2
      rw [e6]
      simp -implicitDefEqProofs (maxSteps:=5000000) only [go_sem,simprocAttr,len,e1,e2,e3,e4,e5,w]
     ·have e5 : decide (a ≥ 0) = false:=by simp [h5]
      have e6 : decide (zGr r f c a) = false:=decide_eq_false fun h=>h5 h.2.2.2.2.1
      rw [e6]
      simp -implicitDefEqProofs (maxSteps:=5000000) only [go_sem,simprocAttr,len,e1,e2,e3,e4,e5,w]
    ·have e4 : decide (f ≤ (r.a.length : Int) - c) = false:=by simp [h4]
     have e6 : decide (zGr r f c a) = false:=decide_eq_false fun h=>h4 h.2.2.2.1
     rw [e6]
     simp -implicitDefEqProofs (maxSteps:=5000000) only [go_sem,simprocAttr,len,e1,e2,e3,e4,w]
   ·have e3 : decide (c ≤ 256) = false:=by simp [h3]
    have e6 : decide (zGr r f c a) = false:=decide_eq_false fun h=>h3 h.2.2.1
    rw [e6]
    simp -implicitDefEqProofs (maxSteps:=5000000) only [go_sem,simprocAttr,len,e1,e2,e3]
  ·have e2 : decide (c ≥ 2) = false:=by simp [h2]
   have e6 : decide (zGr r f c a) = false:=decide_eq_false fun h=>h2 h.2.1
   rw [e6]
   simp -implicitDefEqProofs (maxSteps:=5000000) only [go_sem,simprocAttr,len,e1,e2]
 ·have e1 : decide (f ≥ 0) = false:=by simp [h1]
  have e6 : decide (zGr r f c a) = false:=decide_eq_false fun h=>h1 h.1
  rw [e6]
  simp -implicitDefEqProofs (maxSteps:=5000000) only [go_sem,simprocAttr,len,e1]
set_option maxHeartbeats 4000000 in
theorem rreadC {f c a : Int} (hf : 0 ≤ f) (hc : 2 ≤ c) (hs : f + c ≤ 1000000000) (ha : 0 ≤ a) : (envL prog).call 140 [trk q.p f c,.int .i64 a] H = some (.tup [.agg (zGc r f c a).1.cells,.int .i64 (zGc r f c a).2],H):=by
 have sc:=fun X=>zRt q.p hf hc hs ha (H ++ X)
 have rd:=fun X=>zYy (m.adds X) 0 (f + a.tmod c)
 have ok:=zUn m 0 (f + a.tmod c)
 have dc:=fun X=>decC ok (H ++ X)
 have rdl:=ok.1
 have sp1:=zCn zBz rdl (by omega)
 have t64:=zCg rdl
 have zl : zA2.length = 48:=zB7.1
 have uz : ∀ n,zAt n (u8s zA2) = true:=fun n=>zE0 _ n
 have z51 : (AV.int .u8 0 :: .int .u32 0 :: .int .i64 0 :: u8s zA2).take 51 = AV.int .u8 0 :: .int .u32 0 :: .int .i64 0 :: u8s zA2:=List.take_of_length_le (by simp [zAd,zl])
 have sz : zBp (AV.int .u8 0 :: .int .u32 0 :: .int .i64 0 :: u8s zA2) 0 (AV.int .u8 0 :: .int .u32 0 :: .int .i64 0 :: u8s zA2) = AV.int .u8 0 :: .int .u32 0 :: .int .i64 0 :: u8s zA2:=rfl
 unfold zGc
 rw [c140]
 unfold b140
 by_cases he : (r.read 0 (f + a.tmod c)).2 = 0
 ·rw [if_pos he]
  have n0 : ((r.read 0 (f + a.tmod c)).2 != 0) = false:=by rw [he]; rfl
  have dl:=(zJb ok).b.1
  have zd : (u8s zA2).drop 48 = []:=List.drop_of_length_le (by rw [zAd,zl]; omega)
  generalize decS (r.read 0 (f + a.tmod c)).1 = D at *
  obtain ⟨⟨dm,ds,di,db⟩,de⟩:=D
  unfold PgS.cells at dc ⊢
  simp only at dc dl ⊢
  have t51 : (AV.int .u8 dm :: .int .u32 ds :: .int .i64 di :: u8s db).take 51 = AV.int .u8 dm :: .int .u32 ds :: .int .i64 di :: u8s db:=List.take_of_length_le (by simp [zAd,dl])
  have ub : ∀ n,zAt n (u8s db) = true:=fun n=>zE0 _ n
  have t48:=zCg dl
  simp -implicitDefEqProofs (maxSteps:=5000000) only [go_sem,simprocAttr,itr,itq,sc,rd,dc,n0,zB9,zBe,sp1,t64,zAd,rdl,zBz,zAo,zl,uz,z51,sz,dl,zd,t51,ub,t48]
 ·rw [if_neg he]
  have n0 : ((r.read 0 (f + a.tmod c)).2 != 0) = true:=by simpa using he
  unfold PgS.cells zpg
  simp -implicitDefEqProofs (maxSteps:=5000000) only [go_sem,simprocAttr,itr,itq,sc,rd,n0,zB9,zBe,sp1,t64,zAd,rdl,zBz,zAo,zl,uz,z51,sz]
end
end Go.Proofs.YtbmmnfeeapnhkaaGreat.G08
end
section
namespace Go.Proofs.YtbmmnfeeapnhkaaGreat.G08
open Go Go.Proofs.YtbmmnfeeapnhkaaGreat.Eng
theorem zXu {p : PgS} (h : p.Ok) : B64 p.enc.1:=by
 unfold PgS.enc
 split
 ·exact zSi h.m h.b
 ·exact z64_b
section
variable {q : RPl} {H : zAa} {n : Nat} {r : RgS} {F : Nat → Prop} (m : zA3 q H n r F)
include m
set_option maxHeartbeats 4000000 in
theorem zVu {f c a : Int} (hf : 0 ≤ f) (hc : 2 ≤ c) (hs : f + c ≤ 1000000000) (ha : 0 ≤ a) {p : PgS} (hp : p.Ok) (hk : zEx p.m p.i = true) (hn : n + 1 ≤ 1000000000) :
  ∃ H' F',zA3 q H' (n + 1) (zCq r f c a p).1 F' ∧ zBm H F H' F' ∧ (envL prog).call 111 [trk q.p f c,.int .i64 a,.agg p.cells] H = some (.int .i64 (zCq r f c a p).2,H'):=by
 have sc:=fun X=>zRt q.p hf hc hs ha (H ++ X)
 have ok:=zXu hp
 have ec:=fun X=>encC hp (H ++ X)
 have e2 : p.enc.2 = 0:=by unfold PgS.enc; rw [if_pos hk]
 have el:=ok.1
 have pl : (AV.int .u8 p.m :: .int .u32 p.s :: .int .i64 p.i :: u8s p.b).length = 51:=by simp [zAd,hp.b.1]
 obtain ⟨K,hK⟩ : ∃ K : zAa,K = H ++ [.rw [.ptr q.p 0,.int .i64 f,.int .i64 c],.rw p.cells,.rw (u8s p.enc.1)]:=⟨_,rfl⟩
 have mK : zA3 q K n r F:=by rw [hK]; exact m.adds _
 obtain ⟨K',F',m',st,ew⟩:=zRc mK 0 (f + a.tmod c) ok hn
 have k0 : K[H.length]? = some (.rw [.ptr q.p 0,.int .i64 f,.int .i64 c]):=by rw [hK]; simp
 have k2 : K[H.length + 2]? = some (.rw (u8s p.enc.1)):=by rw [hK]; simp
 have c0:=zAj (st.1.at k0 fun h=>by have:=m.lt _ h; omega)
 have c2:=zAj (st.1.at k2 fun h=>by have:=m.lt _ h; omega)
 have sK : zBm H F K F:=⟨by rw [hK]; exact Fr.adds ⟨_,rfl⟩ _,fun b h=>.inl h⟩
 obtain ⟨H',F'',et,mt,stt,_⟩:=m.trim m' (sK.trans st) (.int .i64 (zCq r f c a p).2)
 refine ⟨H',F'',mt,stt,?_⟩
 have sp:=zCn zBz el (by omega)
 have t64:=zCg el
 have n0 : ((0 : Int) != 0) = false:=rfl
 have t51 : p.cells.take 51 = p.cells:=List.take_of_length_le (by unfold PgS.cells; omega)
 have c51 : p.cells.length = 51:=pl
 have et':=et
 unfold zCq at et'
 rw [hK] at ew
 rw [c111]
 unfold b111
 simp -implicitDefEqProofs (maxSteps:=5000000) only [go_sem,simprocAttr,itr,itq,ec,e2,sc,zB9,sp,t64,zAd,el,zBz,zAo,n0,t51,c51,ew,c0,c2,et',zCq]
 done
end
end Go.Proofs.YtbmmnfeeapnhkaaGreat.G08
end
section
namespace Go.Proofs.YtbmmnfeeapnhkaaGreat.G08
open Go Go.Proofs.YtbmmnfeeapnhkaaGreat.Eng
theorem readP_ok {q : RPl} {H : zAa} {n : Nat} {r : RgS} {F : Nat → Prop} (m : zA3 q H n r F) (f c a : Int) : (zGc r f c a).1.Ok:=by
 unfold zGc
 split
 ·exact zJb (zUn m _ _)
 ·exact zpg_ok
section
variable {q : RPl} {H : zAa} {n : Nat} {r : RgS} {F : Nat → Prop} (m : zA3 q H n r F) {f c a seq : Int} (hf : 0 ≤ f) (hc : 2 ≤ c) (hc2 : c ≤ 256) (hs : f + c ≤ 1000000000) (ha : 0 ≤ a) (ha2 : a < c)
include m hf hc hc2 hs ha ha2
set_option maxHeartbeats 8000000 in
theorem nextL (x0 x4 x5 : AV) : ∀ (k : Nat) (v : AV) (l : List ImS) (K : zAa) (j6 j7 j9 j10 j11 j12 j13 j14 j15 j16 j17 j18 j19 j20 j21 j22 j23 j24 j25 j26 j27 j28 j29 j30 j31 j32 j33 j34 j35 j36 j37 j38 j39 j40 j41 j42 j43 j44 j45 j46 j47 j48 j49 j50 j51 j52 j53 j54 j55 j56 : AV),Adds (H ++ [.rw [.ptr q.p 0,.int .i64 f,.int .i64 c]]) K → GR 49 K (H.length + 1) v (zBt l) → (∀ x ∈ l,x.b.length = 48) → l.length + (k + 1) = c.toNat →
  Outs (LP1 l122x0 [x0,.int .i64 a,.int .u32 seq,.ptr H.length 0,x4,x5,j6,j7,v,j9,j10,j11,j12,j13,j14,j15,j16,j17,j18,j19,j20,j21,j22,j23,j24,j25,j26,j27,j28,j29,j30,j31,j32,j33,j34,j35,j36,j37,j38,j39,j40,j41,j42,j43,j44,j45,j46,j47,j48,j49,j50,j51,j52,j53,j54,j55,j56] K) fun e t K'=>Adds (H ++ [.rw [.ptr q.p 0,.int .i64 f,.int .i64 c]]) K' ∧ ∃ fv : Nat → AV,t = [x0,.int .i64 a,.int .u32 seq,.ptr H.length 0,x4,x5,(fv 6),(fv 7),fv 8,(fv 9),(fv 10),(fv 11),(fv 12),(fv 13),(fv 14),(fv 15),(fv 16),(fv 17),(fv 18),(fv 19),(fv 20),(fv 21),(fv 22),(fv 23),(fv 24),(fv 25),(fv 26),(fv 27),(fv 28),(fv 29),(fv 30),(fv 31),(fv 32),(fv 33),(fv 34),(fv 35),(fv 36),(fv 37),(fv 38),(fv 39),(fv 40),(fv 41),(fv 42),(fv 43),(fv 44),(fv 45),(fv 46),(fv 47),(fv 48),(fv 49),(fv 50),(fv 51),(fv 52),(fv 53),(fv 54),(fv 55),(fv 56)] ∧
   ((e = .exit 0 ∧ zEe r f c a seq (k + 1) l = ([],0)) ∨ (e = .ret ∧ fv 7 = .int .i64 (zEe r f c a seq (k + 1) l).2 ∧ GR 49 K' (H.length + 1) (fv 6) (zBt (zEe r f c a seq (k + 1) l).1) ∧ ∀ x ∈ (zEe r f c a seq (k + 1) l).1,x.b.length = 48)):=by
 intro k
 obtain ⟨L,hL⟩ : ∃ L,L = LP1 l122x0:=⟨_,rfl⟩
 have lo:=zBc hL
 rw [← hL]
 have zl : zA2.length = 48:=zB7.1
 have zd : (u8s zA2).drop 48 = []:=List.drop_of_length_le (by rw [zAd,zl]; omega)
 induction k using Nat.strongRecOn with
 | ind k ih =>
  intro v l K j6 j7 j9 j10 j11 j12 j13 j14 j15 j16 j17 j18 j19 j20 j21 j22 j23 j24 j25 j26 j27 j28 j29 j30 j31 j32 j33 j34 j35 j36 j37 j38 j39 j40 j41 j42 j43 j44 j45 j46 j47 j48 j49 j50 j51 j52 j53 j54 j55 j56 aK g hb hi
  have aH : Adds H K:=by obtain ⟨G,rfl⟩:=aK; exact ⟨_,by rw [List.append_assoc]⟩
  have mK : zA3 q K n r F:=by obtain ⟨G,rfl⟩:=aH; exact m.adds _
  have cK : cellsOf K H.length = some [.ptr q.p 0,.int .i64 f,.int .i64 c]:=by obtain ⟨G,rfl⟩:=aK; exact zAy (by unfold cellsOf; simp)
  have cK':=fun X : zAa=>zAy (x:=X) cK
  have gl:=g.len
  unfold zBt at gl
  rw [List.length_map] at gl
  have w1 : IntKind.i64.wrap (a + (l.length : Int)) = a + (l.length : Int):=zAq (by omega) (by omega)
  have w2 : IntKind.i64.wrap (c - 1) = c - 1:=zAq (by omega) (by omega)
  have rc:=rreadC mK hf hc hs (show 0 ≤ a + (l.length : Int) by omega)
  have ok:=readP_ok mK f c (a + (l.length : Int))
  have bl:=ok.b.1
  have nil48 : ∀ x ∈ ([] : List ImS),x.b.length = 48:=fun x hx=>by cases hx
  have gn : ∀ K',GR 49 K' (H.length + 1) .nilSl (zBt []):=fun K'=>.inl ⟨rfl,rfl⟩
  have aN : ∀ X : zAa,Adds (H ++ [.rw [.ptr q.p 0,.int .i64 f,.int .i64 c]]) (K ++ X):=fun X=>aK.trans ⟨X,rfl⟩
  rw [lo]
  unfold l122x0 zEe
  generalize zGc r f c (a + (l.length : Int)) = X at *
  obtain ⟨⟨pm,ps,pi,pb⟩,pe⟩:=X
  simp only at bl
  have eqp : binV .eql (.flat 51) (.agg (.int .u8 pm :: .int .u32 ps :: .int .i64 pi :: u8s pb)) (.agg (.int .u8 67 :: .int .u32 seq :: .int .i64 (l.length : Int) :: u8s zA2)) = some (.bool (decide ((⟨pm,ps,pi,pb⟩ : PgS) = zCh seq l.length))):=eq_pg (p:=⟨pm,ps,pi,pb⟩) (p':=zCh seq l.length) bl zl
  have t51 : (AV.int .u8 pm :: .int .u32 ps :: .int .i64 pi :: u8s pb).take 51 = AV.int .u8 pm :: .int .u32 ps :: .int .i64 pi :: u8s pb:=List.take_of_length_le (by simp [zAd,bl])
  unfold PgS.cells at rc
  simp only at rc ⊢
  by_cases he : pe = 0
  ·have n0 : (pe != 0) = false:=by rw [he]; rfl
   rw [if_pos he]
   by_cases hq : ps = seq
   ·have n1 : (ps != seq) = false:=by rw [hq]; simp
    rw [if_pos hq]
    by_cases h73 : pm = 73
    ·rw [if_pos h73]
     have n2 : (pm == 73) = true:=by rw [h73]; rfl
     rcases Nat.eq_zero_or_pos k with rfl | hk
     ·have d2 : decide ((l.length : Int) < c - 1) = false:=decide_eq_false (by omega)
      have dq : decide ((⟨pm,ps,pi,pb⟩ : PgS) = zCh seq l.length) = false:=decide_eq_false fun h=>by
       have:=congrArg PgS.m h
       rw [show (zCh seq l.length).m = 67 from rfl] at this
       simp only at this; omega
      simp -implicitDefEqProofs (maxSteps:=5000000) only [go_sem,simprocAttr,itr,itq,cK,cK',gl,w1,w2,rc,zBe,zAd,zl,bl,zAo,n0,n1,n2,d2,eqp,dq,t51,zd,zAu,zAc]
      exact ⟨aN _,exF2 rfl (.inl (by simp [zEe]))⟩
     ·have d2 : decide ((l.length : Int) < c - 1) = true:=decide_eq_true (by omega)
      obtain ⟨k,rfl⟩ : ∃ k',k = k' + 1:=⟨k - 1,by omega⟩
      obtain ⟨v',K',aK',g',ea⟩:=GR.app (k:=49) (by omega) (d:=ty 49 true 56 (.int .i64 0 :: u8s zA2)) rfl (by decide) (P:=H ++ [.rw [.ptr q.p 0,.int .i64 f,.int .i64 c]]) (H:=K ++ [.rw (.int .u8 pm :: .int .u32 ps :: .int .i64 pi :: u8s pb),.rw (.int .i64 pi :: u8s pb)]) (l:=v) (rows:=zBt l) (r:=.int .i64 pi :: u8s pb) (y:=.sl (K.length + 1) 0 49 1 1 true) (aN _) (by rw [List.length_append,List.length_singleton]; exact g.mono _) (by
        intro x hx
        obtain ⟨y,hy,rfl⟩:=List.mem_map.1 hx
        simp [ImS.cells,zAd,hb y hy]) rfl (by
        unfold zBx zC6 cellsOf
        simp [zAd,bl,List.take_of_length_le]) (by simp only [List.all_cons,zAo,AV.isCell,Bool.and_self]) (by
        unfold zBt
        rw [List.length_map]
        show (l.length + 1) * 56 ≤ roomy
        unfold roomy; omega)
      rw [show zBt l ++ [.int .i64 pi :: u8s pb] = zBt (l ++ [⟨pi,pb⟩]) by unfold zBt; rw [List.map_append]; rfl] at g'
      have sp : zBp (.int .i64 pi :: u8s zA2) 1 (u8s pb) = .int .i64 pi :: u8s pb:=by
       rw [zAs _ _ _ (by rw [zAd]; omega),zAd,bl]
       show .int .i64 pi :: (u8s pb ++ (u8s zA2).drop 48) = _
       rw [zd,List.append_nil]
      have sp2 : zBp (.int .i64 0 :: u8s zA2) 0 (.int .i64 pi :: u8s pb) = .int .i64 pi :: u8s pb:=by
       rw [zAs _ _ _ (by simp [zAd,bl]),List.drop_of_length_le (by simp [zAd,bl,zl]),List.append_nil]; rfl
      have t48:=zCg bl
      simp -implicitDefEqProofs (maxSteps:=5000000) only [go_sem,simprocAttr,itr,itq,cK,cK',gl,w1,w2,rc,zBe,zAd,zl,bl,zAo,n0,n1,n2,d2,t51,t48,sp,sp2,zd,ea,zAu,zAc]
      have hb2 : ∀ x ∈ l ++ [(⟨pi,pb⟩ : ImS)],x.b.length = 48:=fun x hx=>by
       rcases List.mem_append.1 hx with h | h
       ·exact hb x h
       ·rw [List.mem_singleton.1 h]; exact bl
      have hi2 : (l ++ [(⟨pi,pb⟩ : ImS)]).length + (k + 1) = c.toNat:=by rw [List.length_append,List.length_singleton]; omega
      rw [List.length_append,List.length_singleton] at g'
      have key:=ih k (Nat.lt_succ_self k) v' (l ++ [⟨pi,pb⟩]) K'
      clear ih
      generalize zEe r f c a seq (k + 1) (l ++ [(⟨pi,pb⟩ : ImS)]) = N at key ⊢
      exact key _ _ _ _ _ _ _ _ _ _ _ _ _ _ _ _ _ _ _ _ _ _ _ _ _ _ _ _ _ _ _ _ _ _ _ _ _ _ _ _ _ _ _ _ _ _ _ _ _ _ aK' g' hb2 hi2
    ·rw [if_neg h73]
     have n2 : (pm == 73) = false:=by simpa using h73
     by_cases hcm : (⟨pm,ps,pi,pb⟩ : PgS) = zCh seq l.length
     ·rw [if_pos hcm]
      have dq:=decide_eq_true hcm
      simp -implicitDefEqProofs (maxSteps:=5000000) only [go_sem,simprocAttr,itr,itq,cK,cK',gl,w1,w2,rc,zBe,zAd,zl,bl,zAo,n0,n1,n2,eqp,dq,t51,zd,zFx,zAc]
      exact ⟨aN _,exF2 rfl (.inr ⟨rfl,g.mono _,hb⟩)⟩
     ·rw [if_neg hcm]
      have dq:=decide_eq_false hcm
      simp -implicitDefEqProofs (maxSteps:=5000000) only [go_sem,simprocAttr,itr,itq,cK,cK',gl,w1,w2,rc,zBe,zAd,zl,bl,zAo,n0,n1,n2,eqp,dq,t51,zd,zAu,zAc]
      exact ⟨aN _,exF2 rfl (.inl trivial)⟩
   ·have n1 : (ps != seq) = true:=by simpa using hq
    rw [if_neg hq]
    simp -implicitDefEqProofs (maxSteps:=5000000) only [go_sem,simprocAttr,itr,itq,cK,gl,w1,rc,zBe,zAd,zl,bl,zAo,n0,n1,zd,zAu,zAc]
    exact ⟨aN _,exF2 rfl (.inl trivial)⟩
  ·have n0 : (pe != 0) = true:=by simpa using he
   rw [if_neg he]
   simp -implicitDefEqProofs (maxSteps:=5000000) only [go_sem,simprocAttr,itr,itq,cK,gl,w1,rc,zBe,zAd,zl,bl,zAo,n0,zd,zFx,zAc]
   exact ⟨aN _,exF2 rfl (.inr ⟨rfl,gn _,nil48⟩)⟩
end
end Go.Proofs.YtbmmnfeeapnhkaaGreat.G08
end
section
namespace Go.Proofs.YtbmmnfeeapnhkaaGreat.G08
open Go Go.Proofs.YtbmmnfeeapnhkaaGreat.Eng
theorem zXm {k : Nat} {H K : zAa} (a : Adds H K) {l : AV} {rows : List (List AV)} (g : GR k K H.length l rows) (e : Int) : ∃ K',Adds H K' ∧ GR k K' H.length l rows ∧ trim H (some (.tup [l,.int .i64 e],K)) = some (.tup [l,.int .i64 e],K'):=by
 rcases g with ⟨rfl,rfl⟩ | ⟨h0,b,hb,rfl,h⟩
 ·obtain ⟨G,rfl⟩:=a
  exact ⟨H,Adds.refl H,.inl ⟨rfl,rfl⟩,zGw (by simp [AV.under,zAt])⟩
 ·exact ⟨K,a,.inr ⟨h0,b,hb,rfl,h⟩,zBa (by simp [AV.under,zAt]; omega)⟩
section
variable {q : RPl} {H : zAa} {n : Nat} {r : RgS} {F : Nat → Prop} (m : zA3 q H n r F) {f c a seq : Int} (hf : 0 ≤ f) (hc : 2 ≤ c) (hc2 : c ≤ 256) (hs : f + c ≤ 1000000000) (ha : 0 ≤ a) (ha2 : a < c)
include m hf hc hc2 hs ha ha2
set_option maxHeartbeats 8000000 in
theorem nextC : ∃ v K,Adds H K ∧ GR 49 K H.length v (zBt (zEe r f c a seq c.toNat []).1) ∧ (∀ x ∈ (zEe r f c a seq c.toNat []).1,x.b.length = 48) ∧ (envL prog).call 122 [trk q.p f c,.int .i64 a,.int .u32 seq] H = some (.tup [v,.int .i64 (zEe r f c a seq c.toNat []).2],K):=by
 obtain ⟨k,hk⟩ : ∃ k,c.toNat = k + 1:=⟨c.toNat - 1,by omega⟩
 have l0:=nextL (seq:=seq) m hf hc hc2 hs ha ha2 (k:=k) (v:=.nilSl) (l:=[]) (K:=H ++ [.rw [.ptr q.p 0,.int .i64 f,.int .i64 c]])
 rw [hk]
 have nn : zEe r f c a seq (k + 1) [] = zEe r f c a seq (k + 1) []:=rfl
 generalize zEe r f c a seq (k + 1) [] = N at l0 ⊢
 have o : Outs (runC (envL prog) (b122 (envL prog)) ([trk q.p f c,.int .i64 a,.int .u32 seq] ++ List.replicate (57 - [trk q.p f c,.int .i64 a,.int .u32 seq].length) .undef) H) fun e' t K=>Adds H K ∧ ∃ v,GR 49 K H.length v (zBt N.1) ∧ (∀ x ∈ N.1,x.b.length = 48) ∧ fin [.tmp 6,.tmp 7] (some (e',t,K)) = some (.tup [v,.int .i64 N.2],K):=by
  unfold b122
  generalize hQ : (fun (e' : Ex) (t : T) (K : zAa)=>Adds H K ∧ ∃ v,GR 49 K H.length v (zBt N.1) ∧ (∀ x ∈ N.1,x.b.length = 48) ∧ fin [.tmp 6,.tmp 7] (some (e',t,K)) = some (.tup [v,.int .i64 N.2],K)) = Q
  simp -implicitDefEqProofs (maxSteps:=5000000) only [go_sem,simprocAttr,zA6]
  unfold LP1 at l0
  generalize (envL prog).loop (runC (envL prog) (l122x0 (envL prog))) = L0 at l0 ⊢
  refine zBo (fun r=>seqR (zBr 0 r) _) (l0 _ _ _ _ _ _ _ _ _ _ _ _ _ _ _ _ _ _ _ _ _ _ _ _ _ _ _ _ _ _ _ _ _ _ _ _ _ _ _ _ _ _ _ _ _ _ _ _ _ _ _ _ _ (Adds.refl _) (.inl ⟨rfl,rfl⟩) (fun x hx=>by cases hx) (by rw [hk]; simp)) ?_
  rintro e t K' ⟨aK,fv,rfl,⟨rfl,hN⟩ | ⟨rfl,h7,g,hb⟩⟩
  ·simp -implicitDefEqProofs (maxSteps:=5000000) only [go_sem,simprocAttr,zAc]
   subst hQ
   subst hN
   refine ⟨Adds.trans ⟨_,rfl⟩ aK,.nilSl,.inl ⟨rfl,rfl⟩,(fun x hx=>by cases hx),?_⟩
   simp -implicitDefEqProofs (maxSteps:=5000000) only [go_sem,simprocAttr]
  ·simp -implicitDefEqProofs (maxSteps:=5000000) only [go_sem,simprocAttr,zAc]
   subst hQ
   refine ⟨Adds.trans ⟨_,rfl⟩ aK,fv 6,GR.low g (by omega),hb,?_⟩
   simp -implicitDefEqProofs (maxSteps:=5000000) only [go_sem,simprocAttr,h7]
 obtain ⟨e',t,K,hr,aK,v,g,hb,hf⟩:=o
 obtain ⟨K',aK',g',et⟩:=zXm aK g N.2
 exact ⟨v,K',aK',g',hb,by rw [c122,hr,hf,et]⟩
end
end Go.Proofs.YtbmmnfeeapnhkaaGreat.G08
end
section
namespace Go.Proofs.YtbmmnfeeapnhkaaGreat.G08
open Go Go.Proofs.YtbmmnfeeapnhkaaGreat.Eng
structure RpY (H : zAa) (p : Nat) (f c : Int) (K : zAa) (v : AV) (l : LogS) (vs : List AV) : Prop where
 old : ∀ b,b < H.length → K[b]? = H[b]?
 len : H.length + 3 ≤ K.length
 res : K[H.length]? = some (.rw [.nilSl,.int .i64 0,.int .u32 0])
 trk : K[H.length + 1]? = some (.rw [.ptr p 0,.int .i64 f,.int .i64 c])
 log : K[H.length + 2]? = some (.rw [v,.int .i64 l.at_,.int .u32 l.seq])
 lg : LogH K (H.length + 3) v l.t vs
section
variable {q : RPl} {H : zAa} {n : Nat} {r : RgS} {F : Nat → Prop} (m : zA3 q H n r F) {f c : Int} (hf : 0 ≤ f) (hc : 2 ≤ c) (hc2 : c ≤ 256) (hs : f + c ≤ 1000000000)
include m hf hc hc2 hs
set_option maxHeartbeats 8000000 in
theorem replayL (x0 x1 x3 x4 x5 x6 x7 x8 x9 x16 x17 x18 x19 x20 x21 x22 x23 x24 x25 x26 x27 x68 : AV) : ∀ (k : Nat) (v : AV) (l : LogS) (vs : List AV) (K : zAa) (j11 j14 j15 j28 j29 j30 j31 j32 j33 j34 j35 j36 j37 j38 j39 j40 j41 j42 j43 j44 j45 j46 j47 j48 j49 j50 j51 j52 j53 j54 j55 j56 j57 j58 j59 j60 j61 j62 j63 j64 j65 j66 j67 : AV),RpY H q.p f c K v l vs → 0 ≤ l.at_ → l.at_ < c → l.t.length + k = c.toNat →
  Outs (LP1 l87x0 [x0,x1,.int .i64 c,x3,x4,x5,x6,x7,x8,x9,.ptr H.length 0,j11,.ptr (H.length + 1) 0,.ptr (H.length + 2) 0,j14,j15,x16,x17,x18,x19,x20,x21,x22,x23,x24,x25,x26,x27,j28,j29,j30,j31,j32,j33,j34,j35,j36,j37,j38,j39,j40,j41,j42,j43,j44,j45,j46,j47,j48,j49,j50,j51,j52,j53,j54,j55,j56,j57,j58,j59,j60,j61,j62,j63,j64,j65,j66,j67,x68] K) fun e t K'=>∃ v' l' vs',RpY H q.p f c K' v' l' vs' ∧ ∃ fv : Nat → AV,t = [x0,x1,.int .i64 c,x3,x4,x5,x6,x7,x8,x9,.ptr H.length 0,(fv 11),.ptr (H.length + 1) 0,.ptr (H.length + 2) 0,(fv 14),(fv 15),x16,x17,x18,x19,x20,x21,x22,x23,x24,x25,x26,x27,(fv 28),(fv 29),(fv 30),(fv 31),(fv 32),(fv 33),(fv 34),(fv 35),(fv 36),(fv 37),(fv 38),(fv 39),(fv 40),(fv 41),(fv 42),(fv 43),(fv 44),(fv 45),(fv 46),(fv 47),(fv 48),(fv 49),(fv 50),(fv 51),(fv 52),(fv 53),(fv 54),(fv 55),(fv 56),(fv 57),(fv 58),(fv 59),(fv 60),(fv 61),(fv 62),(fv 63),(fv 64),(fv 65),(fv 66),(fv 67),x68] ∧
   ((e = .exit 0 ∧ zGb r f c k l = (l',0)) ∨ (e = .ret ∧ ∃ er,fv 11 = .int .i64 er ∧ zGb r f c k l = (⟨[],0,0⟩,er))):=by
 intro k
 obtain ⟨L,hL⟩ : ∃ L,L = LP1 l87x0:=⟨_,rfl⟩
 have lo:=zBc hL
 rw [← hL]
 induction k with
 | zero =>
  intro v l vs K j11 j14 j15 j28 j29 j30 j31 j32 j33 j34 j35 j36 j37 j38 j39 j40 j41 j42 j43 j44 j45 j46 j47 j48 j49 j50 j51 j52 j53 j54 j55 j56 j57 j58 j59 j60 j61 j62 j63 j64 j65 j66 j67 y h0 h1 hi
  have gl:=y.lg.g.len
  have ol : (oneR vs).length = l.t.length:=by unfold oneR; rw [List.length_map,y.lg.len]
  rw [ol] at gl
  have hd : decide ((l.t.length : Int) < c) = false:=decide_eq_false (by omega)
  have cl:=zAj y.log
  rw [lo]
  unfold l87x0 zGb
  simp -implicitDefEqProofs (maxSteps:=5000000) only [go_sem,simprocAttr,cl,gl,hd,zAu,zAc]
  exact ⟨v,l,vs,y,exF2 rfl (.inl (by simp))⟩
 | succ k ih =>
  intro v l vs K j11 j14 j15 j28 j29 j30 j31 j32 j33 j34 j35 j36 j37 j38 j39 j40 j41 j42 j43 j44 j45 j46 j47 j48 j49 j50 j51 j52 j53 j54 j55 j56 j57 j58 j59 j60 j61 j62 j63 j64 j65 j66 j67 y h0 h1 hi
  have gl:=y.lg.g.len
  have ol : (oneR vs).length = l.t.length:=by unfold oneR; rw [List.length_map,y.lg.len]
  rw [ol] at gl
  have hd : decide ((l.t.length : Int) < c) = true:=decide_eq_true (by omega)
  have cl:=zAj y.log
  have ct:=zAj y.trk
  have mK : zA3 q K n r F:=m.fr (F:=F) (G:=fun _=>False) ⟨by have:=y.len; omega,fun b hb _=>y.old b hb⟩ fun _ _ h=>h
  obtain ⟨w,K1,a1,gw,w48,ew⟩:=nextC (seq:=l.seq) mK hf hc hc2 hs h0 h1
  have y1 : RpY H q.p f c K1 v l vs:=⟨fun b hb=>by
   obtain ⟨G,rfl⟩:=a1
   rw [List.getElem?_append_left (by have:=y.len; omega)]; exact y.old b hb,by obtain ⟨G,rfl⟩:=a1; have:=y.len; rw [List.length_append]; omega,zB5 a1 y.res,zB5 a1 y.trk,zB5 a1 y.log,y.lg.fr (Fr.adds a1 (fun _=>False)) fun _ _ h=>h⟩
  have cl1:=zAj (zB5 a1 y.log)
  have ct1:=zAj (zB5 a1 y.trk)
  have wl:=gw.len
  unfold zBt at wl
  rw [List.length_map] at wl
  have lgw : ∀ (x : List ImS) ,x = [] ∨ x ≠ []:=fun x=>by by_cases e : x = [] <;> simp [e]
  rw [lo]
  unfold l87x0 zGb
  have nl:=zKw r f c l.at_ l.seq c.toNat []
  generalize zEe r f c l.at_ l.seq c.toNat [] = N at *
  obtain ⟨x,er⟩:=N
  simp only at *
  rw [List.length_nil,Nat.add_zero] at nl
  by_cases he : er = 0
  ·have n0 : (er != 0) = false:=by rw [he]; rfl
   rw [if_pos he]
   by_cases hx : x = []
   ·rw [if_pos hx]
    have d1 : ((x.length : Int) == 0) = true:=by rw [hx]; rfl
    simp -implicitDefEqProofs (maxSteps:=5000000) only [go_sem,simprocAttr,itr,itq,cl,ct,gl,hd,ew,n0,wl,d1,zAu,zAc]
    exact ⟨v,l,vs,y1,exF2 rfl (.inl (by simp))⟩
   ·rw [if_neg hx]
    have d1 : ((x.length : Int) == 0) = false:=by simpa using hx
    obtain ⟨v',K2,ea,lg2,f2,len2,cv,iv⟩:=LogH.push (d:=ty 1 false 24 [.nilSl]) rfl rfl y.lg a1 gw w48 (by have:=y.len; omega) (by omega)
    have wc:=gw.cells
    have nB : ∀ b,b < H.length + 3 → ¬ slb v = some b:=fun b hb h=>by have:=(y.lg.g.out b h).1; omega
    have b2 : K2[H.length + 2]? = some (.rw [v,.int .i64 l.at_,.int .u32 l.seq]):=f2.at (zB5 a1 y.log) (nB _ (by omega))
    have w1 : IntKind.i64.wrap (l.at_ + (x.length : Int)) = l.at_ + (x.length : Int):=zAq (by omega) (by omega)
    have w2 : IntKind.i64.wrap (l.at_ + (x.length : Int) + 1) = l.at_ + (x.length : Int) + 1:=zAq (by omega) (by omega)
    have rm:=zHo .none .i64 (l.at_ + (x.length : Int) + 1) c (by omega)
    have tr:=zM4 (show 0 ≤ l.at_ + (x.length : Int) + 1 by omega) (show 1 ≤ c by omega)
    have wrA : zAz K2 (H.length + 2) 0 [v'] = some (K2.set (H.length + 2) (.rw [v',.int .i64 l.at_,.int .u32 l.seq])):=by
     rw [zAv b2,if_pos ⟨by simp,by simp [iv]⟩,zAx]; rfl
    have lt2:=zAl b2
    have wrB : zAz (K2.set (H.length + 2) (.rw [v',.int .i64 l.at_,.int .u32 l.seq])) (H.length + 2) 1 [.int .i64 ((l.at_ + (x.length : Int) + 1).tmod c)] = some (K2.set (H.length + 2) (.rw [v',.int .i64 ((l.at_ + (x.length : Int) + 1).tmod c),.int .u32 l.seq])):=by
     rw [zAv (zA4 _ _ _ lt2),if_pos ⟨by simp,rfl⟩,zAx,List.set_set]; rfl
    have wrC : zAz (K2.set (H.length + 2) (.rw [v',.int .i64 ((l.at_ + (x.length : Int) + 1).tmod c),.int .u32 l.seq])) (H.length + 2) 2 [.int .u32 (IntKind.u32.wrap (l.seq + 1))] = some (K2.set (H.length + 2) (.rw [v',.int .i64 ((l.at_ + (x.length : Int) + 1).tmod c),.int .u32 (IntKind.u32.wrap (l.seq + 1))])):=by
     rw [zAv (zA4 _ _ _ lt2),if_pos ⟨by simp,rfl⟩,zAx,List.set_set]; rfl
    have cA : cellsOf (K2.set (H.length + 2) (.rw [v',.int .i64 l.at_,.int .u32 l.seq])) (H.length + 2) = some [v',.int .i64 l.at_,.int .u32 l.seq]:=zAj (zA4 _ _ _ lt2)
    have cB : cellsOf (K2.set (H.length + 2) (.rw [v',.int .i64 ((l.at_ + (x.length : Int) + 1).tmod c),.int .u32 l.seq])) (H.length + 2) = some [v',.int .i64 ((l.at_ + (x.length : Int) + 1).tmod c),.int .u32 l.seq]:=zAj (zA4 _ _ _ lt2)
    have y2 : RpY H q.p f c (K2.set (H.length + 2) (.rw [v',.int .i64 ((l.at_ + (x.length : Int) + 1).tmod c),.int .u32 (IntKind.u32.wrap (l.seq + 1))])) v' ⟨l.t ++ [x],(l.at_ + (x.length : Int) + 1).tmod c,IntKind.u32.wrap (l.seq + 1)⟩ (vs ++ [w]):=by
     refine ⟨fun b hb=>?_,by rw [List.length_set]; have:=y1.len; omega,?_,?_,zA4 _ _ _ lt2,lg2.fr (Fr.set (F:=(· = H.length + 2)) _ _ rfl) fun b hb=>by omega⟩
     ·rw [zAf _ _ _ _ (by omega),f2.2 b (by have:=y1.len; omega) (nB _ (by omega))]; exact y1.old b hb
     ·rw [zAf _ _ _ _ (by omega)]; exact f2.at y1.res (nB _ (by omega))
     ·rw [zAf _ _ _ _ (by omega)]; exact f2.at y1.trk (nB _ (by omega))
    simp -implicitDefEqProofs (maxSteps:=5000000) only [go_sem,simprocAttr,itr,itq,cl,ct,cl1,ct1,gl,hd,ew,n0,wl,d1,wc.1,ea,wrA,wrB,wrC,cA,cB,w1,w2,rm,cv,zAw]
    exact ih v' _ (vs ++ [w]) _ _ _ _ _ _ _ _ _ _ _ _ _ _ _ _ _ _ _ _ _ _ _ _ _ _ _ _ _ _ _ _ _ _ _ _ _ _ _ _ _ _ _ _ y2 tr.1 tr.2 (by simp only [List.length_append,List.length_singleton]; omega)
  ·have n0 : (er != 0) = true:=by simpa using he
   rw [if_neg he]
   have wr : zAz K1 H.length 0 [.nilSl,.int .i64 0,.int .u32 0] = some K1:=by
    rw [zAv (zB5 a1 y.res),if_pos ⟨by simp,rfl⟩]
    congr 1
    apply List.ext_getElem?
    intro i
    by_cases e : H.length = i
    ·subst e; rw [zA4 _ _ _ (zAl (zB5 a1 y.res))]; exact (zB5 a1 y.res).symm
    ·rw [List.getElem?_set_ne e]
   simp -implicitDefEqProofs (maxSteps:=5000000) only [go_sem,simprocAttr,itr,itq,cl,ct,gl,hd,ew,n0,wl,wr,zFx,zAc]
   exact ⟨v,l,vs,y1,exF2 rfl (.inr ⟨er,rfl,rfl⟩)⟩
end
end Go.Proofs.YtbmmnfeeapnhkaaGreat.G08
end
section
namespace Go.Proofs.YtbmmnfeeapnhkaaGreat.G08
open Go Go.Proofs.YtbmmnfeeapnhkaaGreat.Eng
theorem log_trim {H K : zAa} (a : Adds H K) {v : AV} {T : List (List ImS)} {vs : List AV} (l : LogH K H.length v T vs) (x y : AV) (hx : x.under H.length = true) (hy : y.under H.length = true) (e : Int) : ∃ K' ,Adds H K' ∧ LogH K' H.length v T vs ∧ trim H (some (.tup [.agg [v,x,y],.int .i64 e],K)) = some (.tup [.agg [v,x,y],.int .i64 e],K'):=by
 rcases l.g with ⟨h0,rfl⟩ | ⟨h0,b,hb,rfl,h⟩
 ·obtain ⟨G,rfl⟩:=a
  have hv : vs = []:=by
   cases vs with
   | nil=>rfl
   | cons _ _=>simp [oneR] at h0
  have hT : T = []:=List.eq_nil_of_length_eq_zero (by rw [← l.len,hv]; rfl)
  subst hv; subst hT
  exact ⟨H,Adds.refl H,LogH.nil H _,zGw (by simp [AV.under,zAt,hx,hy])⟩
 ·exact ⟨K,a,l,zBa (by simp [AV.under,zAt]; omega)⟩
section
variable {q : RPl} {H : zAa} {n : Nat} {r : RgS} {F : Nat → Prop} (m : zA3 q H n r F)
include m
set_option maxHeartbeats 8000000 in
theorem replayC (f c a seq : Int) : ∃ v vs K,Adds H K ∧ LogH K H.length v (zBs r f c a seq).1.t vs ∧ (envL prog).call 87 [.ptr q.p 0,.int .i64 f,.int .i64 c,.int .i64 a,.int .u32 seq] H = some (.tup [.agg [v,.int .i64 (zBs r f c a seq).1.at_,.int .u32 (zBs r f c a seq).1.seq],.int .i64 (zBs r f c a seq).2],K):=by
 have gd:=fun X=>goodC (m.adds X) f c a
 have hl : r.a.length ≤ 4096:=m.rin.ok.2.2.1
 unfold zBs
 by_cases hg : zGr r f c a
 ·rw [if_pos hg]
  have dg:=decide_eq_true hg
  obtain ⟨hf,hc,hc2,hfl,ha,ha2⟩:=hg
  have l0:=replayL m hf hc hc2 (by omega) (k:=c.toNat) (v:=.nilSl) (l:=⟨[],a,seq⟩) (vs:=[]) (K:=H ++ [.rw [.nilSl,.int .i64 0,.int .u32 0],.rw [.ptr q.p 0,.int .i64 f,.int .i64 c],.rw [.nilSl,.int .i64 a,.int .u32 seq]])
  generalize zGb r f c c.toNat ⟨[],a,seq⟩ = N at l0 ⊢
  have o : Outs (runC (envL prog) (b87 (envL prog)) ([.ptr q.p 0,.int .i64 f,.int .i64 c,.int .i64 a,.int .u32 seq] ++ List.replicate (69 - [AV.ptr q.p 0,.int .i64 f,.int .i64 c,.int .i64 a,.int .u32 seq].length) .undef) H) fun e' t K=>Adds H K ∧ ∃ v vs,LogH K H.length v N.1.t vs ∧ fin [.cell 10 3 true,.tmp 11] (some (e',t,K)) = some (.tup [.agg [v,.int .i64 N.1.at_,.int .u32 N.1.seq],.int .i64 N.2],K):=by
   unfold b87
   generalize hQ : (fun (e' : Ex) (t : T) (K : zAa)=>Adds H K ∧ ∃ v vs,LogH K H.length v N.1.t vs ∧ fin [.cell 10 3 true,.tmp 11] (some (e',t,K)) = some (.tup [.agg [v,.int .i64 N.1.at_,.int .u32 N.1.seq],.int .i64 N.2],K)) = Q
   simp -implicitDefEqProofs (maxSteps:=5000000) only [go_sem,simprocAttr,itr,itq,zA6,gd,dg]
   unfold LP1 at l0
   generalize (envL prog).loop (runC (envL prog) (l87x0 (envL prog))) = L0 at l0 ⊢
   refine zBo (fun r=>seqR (zBr 0 r) _) (l0 _ _ _ _ _ _ _ _ _ _ _ _ _ _ _ _ _ _ _ _ _ _ _ _ _ _ _ _ _ _ _ _ _ _ _ _ _ _ _ _ _ _ _ _ _ _ _ _ _ _ _ _ _ _ _ _ _ _ _ _ _ _ _ _ _ ?_ ha ha2 (by simp)) ?_
   ·exact ⟨fun b hb=>List.getElem?_append_left hb,by simp,by simp,by simp,by simp,LogH.nil _ _⟩
   rintro e t K' ⟨v',l',vs',y,fv,rfl,⟨rfl,hN⟩ | ⟨rfl,er,h11,hN⟩⟩
   ·have cl:=zAj y.log
    have lt:=zAl y.res
    have aH : Adds H K':=Fr.old (h0:=H) (H:=H) (F:=fun _=>False) ⟨by have:=y.len; omega,fun b hb _=>y.old b hb⟩ (Adds.refl H) fun _ _ h=>h
    have gv:=y.lg.g.cells
    have wr : zAz K' H.length 0 [v',.int .i64 l'.at_,.int .u32 l'.seq] = some (K'.set H.length (.rw [v',.int .i64 l'.at_,.int .u32 l'.seq])):=by
     rw [zAv y.res,if_pos ⟨by simp,by rw [List.all_cons,gv.2]; rfl⟩,zAs _ _ _ (by simp)]; rfl
    have cr : cellsOf (K'.set H.length (.rw [v',.int .i64 l'.at_,.int .u32 l'.seq])) H.length = some [v',.int .i64 l'.at_,.int .u32 l'.seq]:=zAj (zA4 _ _ _ lt)
    have ll:=y.lg.fr (Fr.set (F:=(· = H.length)) K' (.rw [v',.int .i64 l'.at_,.int .u32 l'.seq]) rfl) fun b hb=>by omega
    simp -implicitDefEqProofs (maxSteps:=5000000) only [go_sem,simprocAttr,itr,itq,cl,wr,zAc]
    subst hQ
    subst hN
    refine ⟨zD5 aH _ (Nat.le_refl _),v',vs',ll.low (by omega),?_⟩
    simp -implicitDefEqProofs (maxSteps:=5000000) only [go_sem,simprocAttr,cr]
   ·have cr:=zAj y.res
    have aH : Adds H K':=Fr.old (h0:=H) (H:=H) (F:=fun _=>False) ⟨by have:=y.len; omega,fun b hb _=>y.old b hb⟩ (Adds.refl H) fun _ _ h=>h
    simp -implicitDefEqProofs (maxSteps:=5000000) only [go_sem,simprocAttr,zAc]
    subst hQ
    subst hN
    refine ⟨aH,.nilSl,[],LogH.nil _ _,?_⟩
    simp -implicitDefEqProofs (maxSteps:=5000000) only [go_sem,simprocAttr,cr,h11]
  obtain ⟨e',t,K,hr,aK,v,vs,g,hf⟩:=o
  obtain ⟨K',aK',g',et⟩:=log_trim aK g (.int .i64 N.1.at_) (.int .u32 N.1.seq) rfl rfl N.2
  exact ⟨v,vs,K',aK',g',by rw [c87,hr,hf,et]⟩
 ·rw [if_neg hg]
  have dg:=decide_eq_false hg
  refine ⟨.nilSl,[],H,Adds.refl H,LogH.nil _ _,?_⟩
  rw [c87]
  unfold b87
  simp -implicitDefEqProofs (maxSteps:=5000000) only [go_sem,simprocAttr,itr,itq,gd,dg]
  done
end
end Go.Proofs.YtbmmnfeeapnhkaaGreat.G08
end
section
namespace Go.Proofs.YtbmmnfeeapnhkaaGreat.G08
open Go Go.Proofs.YtbmmnfeeapnhkaaGreat.Eng
section
variable {H : zAa} {B : Nat} {w : AV} {l : List ImS} (g : GR 49 H B w (zBt l)) (h48 : ∀ x ∈ l,x.b.length = 48) (hl : l.length ≤ 1000)
include g h48 hl
set_option maxHeartbeats 8000000 in
theorem appL0 (x0 x1 x2 x3 x4 x5 x6 x7 x8 x9 x10 x11 x14 x15 x17 x18 x19 x20 x21 x22 x23 x24 x25 x26 x27 x28 x29 x30 x31 x32 x33 x34 x35 x36 x37 x38 x39 x40 x41 x42 x58 x59 x60 x61 x62 x63 x64 x65 x66 x67 x68 x69 x70 x71 x72 x73 x74 x75 x76 x77 x78 x79 x80 x81 x82 x83 x84 x85 x86 x87 x88 x89 x90 x91 x92 x93 x94 x95 x96 x97 x98 x99 x100 x101 x102 x103 x104 x105 x106 x107 x108 x109 : AV) : ∀ (k i : Nat) (K : zAa) (j12 j13 j16 j46 j47 j48 j49 j50 j51 j52 j53 j54 j55 j56 j57 : AV),Adds H K → i + k = l.length →
  Outs (LP1 l73x0 [x0,x1,x2,x3,x4,x5,x6,x7,x8,x9,x10,x11,j12,j13,x14,x15,j16,x17,x18,x19,x20,x21,x22,x23,x24,x25,x26,x27,x28,x29,x30,x31,x32,x33,x34,x35,x36,x37,x38,x39,x40,x41,x42,w,.int .i64 (l.length : Int),.int .i64 (i : Int),j46,j47,j48,j49,j50,j51,j52,j53,j54,j55,j56,j57,x58,x59,x60,x61,x62,x63,x64,x65,x66,x67,x68,x69,x70,x71,x72,x73,x74,x75,x76,x77,x78,x79,x80,x81,x82,x83,x84,x85,x86,x87,x88,x89,x90,x91,x92,x93,x94,x95,x96,x97,x98,x99,x100,x101,x102,x103,x104,x105,x106,x107,x108,x109] K) fun e t K'=>Adds K K' ∧ ∃ fv : Nat → AV,t = [x0,x1,x2,x3,x4,x5,x6,x7,x8,x9,x10,x11,(fv 12),(fv 13),x14,x15,(fv 16),x17,x18,x19,x20,x21,x22,x23,x24,x25,x26,x27,x28,x29,x30,x31,x32,x33,x34,x35,x36,x37,x38,x39,x40,x41,x42,w,.int .i64 (l.length : Int),(fv 45),(fv 46),(fv 47),(fv 48),(fv 49),(fv 50),(fv 51),(fv 52),(fv 53),(fv 54),(fv 55),(fv 56),(fv 57),x58,x59,x60,x61,x62,x63,x64,x65,x66,x67,x68,x69,x70,x71,x72,x73,x74,x75,x76,x77,x78,x79,x80,x81,x82,x83,x84,x85,x86,x87,x88,x89,x90,x91,x92,x93,x94,x95,x96,x97,x98,x99,x100,x101,x102,x103,x104,x105,x106,x107,x108,x109] ∧
   ((e = .exit 1 ∧ (l.drop i).all okIm = true) ∨ (e = .ret ∧ fv 12 = .int .i64 0 ∧ fv 13 = .int .i64 1 ∧ (l.drop i).all okIm = false)):=by
 intro k
 obtain ⟨L,hL⟩ : ∃ L,L = LP1 l73x0:=⟨_,rfl⟩
 have lo:=zBc hL
 rw [← hL]
 induction k with
 | zero =>
  intro i K j12 j13 j16 j46 j47 j48 j49 j50 j51 j52 j53 j54 j55 j56 j57 aK hi
  obtain rfl : i = l.length:=by omega
  have hd : decide ((l.length : Int) < (l.length : Int)) = false:=by simp
  rw [lo]
  unfold l73x0
  simp -implicitDefEqProofs (maxSteps:=5000000) only [go_sem,simprocAttr,hd,zAu,zAc]
  exact ⟨Adds.refl K,exF2 rfl (.inl (by simp))⟩
 | succ k ih =>
  intro i K j12 j13 j16 j46 j47 j48 j49 j50 j51 j52 j53 j54 j55 j56 j57 aK hi
  have hlt : i < l.length:=by omega
  have hd : decide ((i : Int) < (l.length : Int)) = true:=decide_eq_true (by omega)
  have e2 : IntKind.i64.wrap ((i : Int) + 1) = ((i + 1 : Nat) : Int):=by rw [zAq (by omega) (by omega)]; omega
  have hx:=List.getElem?_eq_getElem hlt
  have dr:=List.drop_eq_getElem_cons hlt
  have xl:=h48 _ (List.getElem_mem hlt)
  generalize l[i] = x at *
  have hr:=zCf ImS.cells hx
  obtain ⟨b,cs,_,ix,hc,ht,hle⟩:=GR.read (by omega) g (fun r hr=>by
   obtain ⟨y,hy,rfl⟩:=List.mem_map.1 hr
   simp [ImS.cells,zAd,h48 y hy]) hr
  have cK:=aK.cells hc
  obtain ⟨xi,xb⟩:=x
  unfold ImS.cells at ht
  simp only at ht xl
  have zl : zA2.length = 48:=zB7.1
  have sp : zBp (.int .i64 0 :: u8s zA2) 0 (.int .i64 xi :: u8s xb) = .int .i64 xi :: u8s xb:=by
   rw [zAs _ _ _ (by simp [zAd,xl]),List.drop_of_length_le (by simp [zAd,xl,zl]),List.append_nil]; rfl
  rw [lo,dr]
  unfold l73x0
  rw [List.all_cons]
  by_cases h0 : xi < 0
  ·have d0:=decide_eq_true h0
   have ok : okIm ⟨xi,xb⟩ = false:=by unfold okIm; rw [decide_eq_false (show ¬ (0 ≤ xi) by omega)]; rfl
   rw [ok,Bool.false_and]
   simp -implicitDefEqProofs (maxSteps:=5000000) only [go_sem,simprocAttr,itr,itq,hd,ix,cK,ht,hle,zBe,zAd,xl,zl,zAo,sp,d0,zFx,zAc]
   exact ⟨⟨_,rfl⟩,exF2 rfl (.inr ⟨rfl,rfl⟩)⟩
  ·have d0:=decide_eq_false h0
   by_cases h1 : xi > 65535
   ·have d1:=decide_eq_true h1
    have ok : okIm ⟨xi,xb⟩ = false:=by unfold okIm; rw [decide_eq_false (show ¬ (xi ≤ 65535) by omega),Bool.and_false]
    rw [ok,Bool.false_and]
    simp -implicitDefEqProofs (maxSteps:=5000000) only [go_sem,simprocAttr,itr,itq,hd,ix,cK,ht,hle,zBe,zAd,xl,zl,zAo,sp,d0,d1,zFx,zAc]
    exact ⟨⟨_,rfl⟩,exF2 rfl (.inr ⟨rfl,rfl⟩)⟩
   ·have d1:=decide_eq_false h1
    have ok : okIm ⟨xi,xb⟩ = true:=by unfold okIm; rw [decide_eq_true (show 0 ≤ xi by omega),decide_eq_true (show xi ≤ 65535 by omega)]; rfl
    rw [ok,Bool.true_and]
    simp -implicitDefEqProofs (maxSteps:=5000000) only [go_sem,simprocAttr,itr,itq,hd,ix,cK,ht,hle,zBe,zAd,xl,zl,zAo,sp,d0,d1,e2]
    have key:=ih (i + 1) (K ++ [.rw (.int .i64 xi :: u8s xb)])
    refine Outs.mono (key _ _ _ _ _ _ _ _ _ _ _ _ _ _ _ (aK.trans ⟨_,rfl⟩) (by omega)) ?_
    rintro e t K' ⟨a1,a2⟩
    exact ⟨Adds.trans ⟨_,rfl⟩ a1,a2⟩
end
end Go.Proofs.YtbmmnfeeapnhkaaGreat.G08
end
section
namespace Go.Proofs.YtbmmnfeeapnhkaaGreat.G08
open Go Go.Proofs.YtbmmnfeeapnhkaaGreat.Eng
section
variable {q : RPl} {H : zAa} {n : Nat} {r : RgS} {F : Nat → Prop} (m : zA3 q H n r F) {f c a seq : Int} (hf : 0 ≤ f) (hc : 2 ≤ c) (hc2 : c ≤ 256) (hs : f + c ≤ 1000000000) (ha : 0 ≤ a) (ha2 : a < c) (hq : 0 ≤ seq ∧ seq < 4294967296)
 {B : Nat} {w : AV} {l : List ImS} (g : GR 49 H B w (zBt l)) (gF : ∀ b,slb w = some b → ¬ F b) (h48 : ∀ x ∈ l,B48 x.b) (hl : l.length ≤ 1000) (ho : l.all okIm = true) (hn : n + l.length + 1 ≤ 1000000000)
include m hf hc hc2 hs ha ha2 hq g gF h48 hl ho hn
set_option maxHeartbeats 8000000 in
theorem appL1 (x0 x1 x2 x5 x6 x7 x8 x9 x10 x11 x15 x16 x20 x21 x22 x23 x24 x25 x26 x27 x28 x29 x30 x31 x32 x33 x34 x35 x36 x37 x38 x39 x40 x41 x42 x43 x44 x45 x46 x47 x48 x49 x50 x51 x52 x53 x54 x55 x56 x57 x80 x81 x82 x83 x84 x85 x86 x87 x88 x89 x90 x91 x92 x93 x94 x95 x96 x97 x98 x99 x100 x101 x102 x103 x104 x105 x106 x107 x108 x109 : AV) : ∀ (k i : Nat) (K : zAa) (r' : RgS) (F' : Nat → Prop) (j12 j13 j17 j18 j19 j61 j62 j63 j64 j65 j66 j67 j68 j69 j70 j71 j72 j73 j74 j75 j76 j77 j78 j79 : AV),zA3 q K (n + i) r' F' → zBm (H ++ [.rw [.ptr q.p 0,.int .i64 f,.int .i64 c]]) F K F' → i + k = l.length →
  Outs (LP1 l73x1 [x0,x1,x2,.int .i64 a,.int .u32 seq,x5,x6,x7,x8,x9,x10,x11,j12,j13,.ptr H.length 0,x15,x16,j17,j18,j19,x20,x21,x22,x23,x24,x25,x26,x27,x28,x29,x30,x31,x32,x33,x34,x35,x36,x37,x38,x39,x40,x41,x42,x43,x44,x45,x46,x47,x48,x49,x50,x51,x52,x53,x54,x55,x56,x57,w,.int .i64 (l.length : Int),.int .i64 (i : Int),j61,j62,j63,j64,j65,j66,j67,j68,j69,j70,j71,j72,j73,j74,j75,j76,j77,j78,j79,x80,x81,x82,x83,x84,x85,x86,x87,x88,x89,x90,x91,x92,x93,x94,x95,x96,x97,x98,x99,x100,x101,x102,x103,x104,x105,x106,x107,x108,x109] K) fun e t K'=>∃ n' F'',zA3 q K' n' (zCa f c a seq r' i (l.drop i)).1 F'' ∧ n' ≤ n + l.length ∧ zBm (H ++ [.rw [.ptr q.p 0,.int .i64 f,.int .i64 c]]) F K' F'' ∧ ∃ fv : Nat → AV,t = [x0,x1,x2,.int .i64 a,.int .u32 seq,x5,x6,x7,x8,x9,x10,x11,(fv 12),(fv 13),.ptr H.length 0,x15,x16,(fv 17),(fv 18),(fv 19),x20,x21,x22,x23,x24,x25,x26,x27,x28,x29,x30,x31,x32,x33,x34,x35,x36,x37,x38,x39,x40,x41,x42,x43,x44,x45,x46,x47,x48,x49,x50,x51,x52,x53,x54,x55,x56,x57,w,.int .i64 (l.length : Int),(fv 60),(fv 61),(fv 62),(fv 63),(fv 64),(fv 65),(fv 66),(fv 67),(fv 68),(fv 69),(fv 70),(fv 71),(fv 72),(fv 73),(fv 74),(fv 75),(fv 76),(fv 77),(fv 78),(fv 79),x80,x81,x82,x83,x84,x85,x86,x87,x88,x89,x90,x91,x92,x93,x94,x95,x96,x97,x98,x99,x100,x101,x102,x103,x104,x105,x106,x107,x108,x109] ∧
   ((e = .exit 3 ∧ (zCa f c a seq r' i (l.drop i)).2 = 0) ∨ (e = .ret ∧ fv 12 = .int .i64 0 ∧ fv 13 = .int .i64 (zCa f c a seq r' i (l.drop i)).2 ∧ (zCa f c a seq r' i (l.drop i)).2 ≠ 0)):=by
 intro k
 obtain ⟨L,hL⟩ : ∃ L,L = LP1 l73x1:=⟨_,rfl⟩
 have lo:=zBc hL
 rw [← hL]
 induction k with
 | zero =>
  intro i K r' F' j12 j13 j17 j18 j19 j61 j62 j63 j64 j65 j66 j67 j68 j69 j70 j71 j72 j73 j74 j75 j76 j77 j78 j79 mK st hi
  obtain rfl : i = l.length:=by omega
  have hd : decide ((l.length : Int) < (l.length : Int)) = false:=by simp
  rw [lo,List.drop_length]
  unfold l73x1 zCa
  simp -implicitDefEqProofs (maxSteps:=5000000) only [go_sem,simprocAttr,hd,zAu,zAc]
  exact ⟨_,F',mK,Nat.le_refl _,st,exF2 rfl (.inl trivial)⟩
 | succ k ih =>
  intro i K r' F' j12 j13 j17 j18 j19 j61 j62 j63 j64 j65 j66 j67 j68 j69 j70 j71 j72 j73 j74 j75 j76 j77 j78 j79 mK st hi
  have hlt : i < l.length:=by omega
  have hd : decide ((i : Int) < (l.length : Int)) = true:=decide_eq_true (by omega)
  have e2 : IntKind.i64.wrap ((i : Int) + 1) = ((i + 1 : Nat) : Int):=by rw [zAq (by omega) (by omega)]; omega
  have wa : IntKind.i64.wrap (a + (i : Int)) = a + (i : Int):=zAq (by omega) (by omega)
  have hx:=List.getElem?_eq_getElem hlt
  have dr:=List.drop_eq_getElem_cons hlt
  have xb:=h48 _ (List.getElem_mem hlt)
  have xo:=List.all_eq_true.1 ho _ (List.getElem_mem hlt)
  generalize l[i] = x at *
  have hr:=zCf ImS.cells hx
  obtain ⟨b,cs,sb,ix,hcs,ht,hle⟩:=GR.read (by omega) g (fun r hr=>by
   obtain ⟨y,hy,rfl⟩:=List.mem_map.1 hr
   simp [ImS.cells,zAd,(h48 y hy).1]) hr
  have cK:=st.1.cells (zAy (x:=[.rw [.ptr q.p 0,.int .i64 f,.int .i64 c]]) hcs) (gF b sb)
  have tK:=fun X : zAa=>zAy (x:=X) (st.1.cells (b:=H.length) (cs:=[.ptr q.p 0,.int .i64 f,.int .i64 c]) (by unfold cellsOf; simp) fun h=>by have:=m.lt _ h; omega)
  obtain ⟨xi,xz⟩:=x
  unfold ImS.cells at ht
  simp only at ht xb
  have xl:=xb.1
  have oki : 0 ≤ xi ∧ xi ≤ 65535:=by unfold okIm at xo; simpa using xo
  have pok : (⟨73,seq,xi,xz⟩ : PgS).Ok:=⟨by show (0 : Int) ≤ 73 ∧ (73 : Int) ≤ 255; omega,hq,by show _ ≤ xi ∧ xi ≤ _; omega,xb⟩
  have pen : zEx 73 xi = true:=by unfold zEx; rw [decide_eq_true oki.1,decide_eq_true oki.2]; rfl
  obtain ⟨K2,F2,m2,st2,ew⟩:=zVu (mK.adds [.rw (.int .i64 xi :: u8s xz)]) hf hc hs (show 0 ≤ a + (i : Int) by omega) pok pen (by omega)
  unfold PgS.cells at ew
  simp only at ew
  have zl : zA2.length = 48:=zB7.1
  have zd : (u8s zA2).drop 48 = []:=List.drop_of_length_le (by rw [zAd,zl]; omega)
  have sp : zBp (.int .i64 0 :: u8s zA2) 0 (.int .i64 xi :: u8s xz) = .int .i64 xi :: u8s xz:=by
   rw [zAs _ _ _ (by simp [zAd,xl]),List.drop_of_length_le (by simp [zAd,xl,zl]),List.append_nil]; rfl
  have sp2 : ∀ y0 y1 y2 : AV,zBp (y0 :: y1 :: y2 :: u8s zA2) 3 (u8s xz) = y0 :: y1 :: y2 :: u8s xz:=fun y0 y1 y2=>by
   rw [zAs _ _ _ (by rw [zAd]; omega),zAd,xl]
   show y0 :: y1 :: y2 :: (u8s xz ++ (u8s zA2).drop 48) = _
   rw [zd,List.append_nil]
  have t48:=zCg xl
  have st3 : zBm (H ++ [.rw [.ptr q.p 0,.int .i64 f,.int .i64 c]]) F K2 F2:=(st.trans ⟨Fr.adds ⟨_,rfl⟩ _,fun b h=>.inl h⟩).trans st2
  rw [lo,dr]
  unfold l73x1 zCa
  generalize hW : zCq r' f c (a + (i : Int)) ⟨73,seq,xi,xz⟩ = W at *
  obtain ⟨r2,er⟩:=W
  simp only at *
  by_cases he : er = 0
  ·have n0 : (er != 0) = false:=by rw [he]; rfl
   rw [if_pos he]
   have key:=ih (i + 1) K2 r2 F2
   generalize zCa f c a seq r2 (i + 1) (l.drop (i + 1)) = N at key ⊢
   simp -implicitDefEqProofs (maxSteps:=5000000) only [go_sem,simprocAttr,itr,itq,hd,ix,cK,tK,ht,hle,zBe,zAd,xl,zl,zAo,sp,sp2,t48,wa,ew,n0,e2]
   exact key _ _ _ _ _ _ _ _ _ _ _ _ _ _ _ _ _ _ _ _ _ _ _ _ m2 st3 (by omega)
  ·have n0 : (er != 0) = true:=by simpa using he
   rw [if_neg he]
   simp -implicitDefEqProofs (maxSteps:=5000000) only [go_sem,simprocAttr,itr,itq,hd,ix,cK,tK,ht,hle,zBe,zAd,xl,zl,zAo,sp,sp2,t48,wa,ew,n0,zFx,zAc]
   exact ⟨_,F2,m2,by omega,st3,exF2 rfl (.inr ⟨rfl,rfl,he⟩)⟩
end
end Go.Proofs.YtbmmnfeeapnhkaaGreat.G08
end
