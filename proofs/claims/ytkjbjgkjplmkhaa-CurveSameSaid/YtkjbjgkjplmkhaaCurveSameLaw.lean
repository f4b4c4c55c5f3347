/- CurveSame holds of the given program: for all its arguments the law answers true, no argument is changed, and nothing panics; there are no further conditions. -/
import Derived.Test.YtkjbjgkjplmkhaaCb
import Derived.Test.YtkjbjgkjplmkhaaRows
import Derived.WalkKit
import Derived.ProofKit
import Derived.OpenShut
import Derived.ChangeOld
import Derived.SizedLaws
namespace Go.Proofs.Ytkjbjgkjplmkhaa.Vm
open Go Go.Proofs Go.Proofs.Ytkjbjgkjplmkhaa
theorem bit255 : ∀ n : Nat, n < 256 → bXor IntKind.u8 (n : Int) 128 = ((n : Int) + 128) % 256 := by decide +kernel
theorem bit255' {x : Int} (h : 0 ≤ x ∧ x < 256) : bXor IntKind.u8 x 128 = (x + 128) % 256 := by
  have := bit255 x.toNat (by omega)
  rwa [Int.toNat_of_nonneg h.1] at this
theorem clamp_clamp (k : Int) : clampN (clampN k) = clampN k := by unfold clampN; omega
theorem curveSame_ok (k u : Int) : PureF Try.prog 10 [(.aggi .u8 (W.bts k)), (.aggi .u8 (W.bts u))] (.c (.bool true)) := by
  have h2 := bit255' (x := u / 452312848583266388373324160190187140051835877600158453279131187530910662656 % 256) (by omega)
  have c6 := x_ok k u
  have c10 := x_ok (clampN k) (u + 57896044618658097711785492504343953926634992332820282019728792003956564819968)
  have e : (u + 57896044618658097711785492504343953926634992332820282019728792003956564819968) % 57896044618658097711785492504343953926634992332820282019728792003956564819968 = u % 57896044618658097711785492504343953926634992332820282019728792003956564819968 := by omega
  rw [clamp_clamp, e] at c10
  have hl : W.bts (u + 57896044618658097711785492504343953926634992332820282019728792003956564819968) = [(u % 256), (u / 256 % 256), (u / 65536 % 256), (u / 16777216 % 256), (u / 4294967296 % 256), (u / 1099511627776 % 256), (u / 281474976710656 % 256), (u / 72057594037927936 % 256), (u / 18446744073709551616 % 256), (u / 4722366482869645213696 % 256), (u / 1208925819614629174706176 % 256), (u / 309485009821345068724781056 % 256), (u / 79228162514264337593543950336 % 256), (u / 20282409603651670423947251286016 % 256), (u / 5192296858534827628530496329220096 % 256), (u / 1329227995784915872903807060280344576 % 256), (u / 340282366920938463463374607431768211456 % 256), (u / 87112285931760246646623899502532662132736 % 256), (u / 22300745198530623141535718272648361505980416 % 256), (u / 5708990770823839524233143877797980545530986496 % 256), (u / 1461501637330902918203684832716283019655932542976 % 256), (u / 374144419156711147060143317175368453031918731001856 % 256), (u / 95780971304118053647396689196894323976171195136475136 % 256), (u / 24519928653854221733733552434404946937899825954937634816 % 256), (u / 6277101735386680763835789423207666416102355444464034512896 % 256), (u / 1606938044258990275541962092341162602522202993782792835301376 % 256), (u / 411376139330301510538742295639337626245683966408394965837152256 % 256), (u / 105312291668557186697918027683670432318895095400549111254310977536 % 256), (u / 26959946667150639794667015087019630673637144422540572481103610249216 % 256), (u / 6901746346790563787434755862277025452451108972170386555162524223799296 % 256), (u / 1766847064778384329583297500742918515827483896875618958121606201292619776 % 256), ((u / 452312848583266388373324160190187140051835877600158453279131187530910662656 % 256 + 128) % 256)] := by
    unfold W.bts
    simp only [List.cons.injEq, and_true]
    refine ⟨by omega, by omega, by omega, by omega, by omega, by omega, by omega, by omega, by omega, by omega, by omega, by omega, by omega, by omega, by omega, by omega, by omega, by omega, by omega, by omega, by omega, by omega, by omega, by omega, by omega, by omega, by omega, by omega, by omega, by omega, by omega, by omega⟩
  have c15 := clamp_ok (clampN k)
  rw [clamp_clamp] at c15
  rw [hl] at c10
  exact run10 k u _ _ _ _ _ _ _ _ rfl h2 curveKnown_ok c6 (clamp_ok k) c10 (by simp) (clamp_ok k) c15 (clamp_ok k) (by simp)
end Go.Proofs.Ytkjbjgkjplmkhaa.Vm

namespace Go.Proofs.Ytkjbjgkjplmkhaa.curveSame
open Go.ChangeShapes Go.WideShapes Go.ChangeAt Go.RowKit Go.Proofs.Ytkjbjgkjplmkhaa Go.Proofs.Ytkjbjgkjplmkhaa.Vm
theorem own : ownKnob Try.prog.godebug = none := by kernel_rfl
theorem laidOut : laidOutB Try.prog = true := by kernel_rfl
set_option maxRecDepth 100000 in
theorem lifted (os : Os) (started : os.Started) (H : Type) (enc : TypeId × Value → H) :
    ReturnsInHanded {} Try.checked os 10 .any (Rows.curveSameSpec.pre6 enc Try.prog Try.f10 Rows.curveSameRow.domain false) (Rows.curveSameSpec.post enc Try.prog Try.f10 false true false false) := by
  refine returnsInHanded_of_change_sized (C := Try.checked) own started (by kernel_rfl) Try.func10
    (ChangeSpec.witness6 (enc := enc) (C := Try.checked) false ⟨#[], #[.agg (List.replicate 32 (.int .u8 0)).toArray, .agg (List.replicate 32 (.int .u8 0)).toArray], []⟩ 8 (by kernel_rfl) (by kernel_rfl) (by kernel_rfl) (by kernel_rfl)) ?_
  intro W base args ds gs before hval0 hW hcnd hsz0 _
  have hval : ∀ (j : Nat) t v, Try.f10.params[j]? = some t → args[j]? = some v → Value.okWide Try.prog W .any base t v := hval0
  have hW' := hW
  obtain ⟨p, q, hA0, hV, rfl, hfz, hnd⟩ := hW
  have hA : DataW.TrodAll enc Try.prog W 0 (fun _ => true) true Try.f10.params.toList args.toList ds p := hA0
  rw [Try.params10] at hA hval
  obtain ⟨v0, vs0, d0, ds0, p0, q0, hargs, rfl, rfl, h0, r0⟩ := trodAll_cons hA
  obtain ⟨v1, vs1, d1, ds1, p1, q1, rfl, rfl, rfl, h1, r1⟩ := trodAll_cons r0
  obtain ⟨rfl, rfl, rfl⟩ := trodAll_nil r1
  obtain rfl : args = #[v0, v1] := by cases args; simp_all
  obtain ⟨rfl, rfl⟩ := trodVars_none hV
  have k0 := h0
  have k1 := h1
  obtain ⟨l0, rfl, hl0, hwl0, rfl⟩ := open_array Try.underlying22 Try.underlying5 (by kernel_rfl) (by kernel_rfl) (hval 0 22 v0 rfl rfl) h0
  obtain ⟨l1, rfl, hl1, hwl1, rfl⟩ := open_array Try.underlying22 Try.underlying5 (by kernel_rfl) (by kernel_rfl) (hval 1 22 v1 rfl rfl) h1
  clear hA0 hval0 hsz0
  have hb0 : l0 = Go.Proofs.Ytkjbjgkjplmkhaa.W.bts (numL l0) := bts_num hl0 fun x hx => okLit_u8 (hwl0 x hx)
  have hb1 : l1 = Go.Proofs.Ytkjbjgkjplmkhaa.W.bts (numL l1) := bts_num hl1 fun x hx => okLit_u8 (hwl1 x hx)
  refine ((curveSame_ok (numL l0) (numL l1)).law W (vals := [.agg (l0.map (Value.int .u8)).toArray, .agg (l1.map (Value.int .u8)).toArray]) (fun φ => .cons ?_ (.cons ?_ .nil))).mono fun e W' ⟨he, bel⟩ => ?_
  · rw [← hb0]; rfl
  · rw [← hb1]; rfl
  · subst he
    exact ⟨_, rfl, _, _, _, [], _, [], hW', trodAll_mk1 (shut_bool Try.underlying4 _), (trodAll_cons_mk (Below.trod laidOut (by kernel_rfl) (of_decide_eq_true (by kernel_rfl)) k0 bel (by simp)) (trodAll_cons_mk (Below.trod laidOut (by kernel_rfl) (of_decide_eq_true (by kernel_rfl)) k1 bel (by simp)) trodAll_mk0)), rfl, bel.frame _, fun h => by cases h⟩
theorem over : Rows.curveSameRow.holds Try.pinned (OpenSpec.ofChange Rows.curveSameSpec) :=
  OpenClaim.holds_of_wide 10 Try.f10 rfl rfl rfl rfl rfl rfl rfl ⟨rfl, rfl, rfl, rfl, rfl⟩ rfl rfl rfl rfl rfl (by kernel_rfl) Try.func10 (by kernel_rfl)
    (of_decide_eq_true (by kernel_rfl)) (by unfold Func.isWrapper; first | (rw [if_pos (by decide +kernel)]; kernel_rfl) | (rw [if_neg (by decide +kernel)]; exact ⟨rfl, rfl⟩))
    (fun os started H enc _ => lifted os started H enc)
theorem proved : Rows.CurveSameSaid := over
#print axioms proved
end Go.Proofs.Ytkjbjgkjplmkhaa.curveSame
