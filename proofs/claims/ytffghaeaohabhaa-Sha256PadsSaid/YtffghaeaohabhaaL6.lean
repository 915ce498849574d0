import Derived.Test.YtffghaeaohabhaaS12
import Derived.Test.YtffghaeaohabhaaR2
import Derived.Test.YtffghaeaohabhaaOp4
namespace Go.Proofs.Ytffghaeaohabhaa.AW
open Go Go.Proofs
set_option maxRecDepth 100000

/-- the region that hands the reference's row back -/
def kind6 (o : Oper) : K :=
  match o.op with
  | .call { callee := .value (.func f), .. } => if f == 36 then .cal else .read
  | _ => kindOf o

section
variable (a0 : Option Addr) (dd : List UInt8) (cp : Nat) (rd : List Ent) (hsrc : Src a0 dd cp rd) (hrd : ∀ e, e ∈ rd → e.rw = false)

include hrd in
theorem f6_far (hd : 5000 < dd.length) (hd2 : dd.length ≤ 9223372036854775807) : FnR Try.prog 6 [.slice a0 dd.length cp] rd (.bool true) := by
  refine fnR_of 29 rfl Try.func6 rfl (by kernel_rfl) rfl hrd fun w => ?_
  refine Wp.seq ?_
  refine Wp.reg allGen ?_
  refine Tr.assign rfl rfl trivial rfl ?_
  refine Tr.nil ?_ (fun _ => rfl) (List.Perm.refl _)
  refine Wp.seq ?_
  refine Wp.seq ?_
  refine Wp.reg allGen ?_
  refine Tr.move rfl rfl trivial rfl ?_
  refine Tr.lenS tab rfl rfl rfl rfl trivial rfl ?_
  refine Tr.gtr rfl rfl (by first | with_reducible assumption | exact decide_eq_true (by omega) | exact decide_eq_false (by omega) | exact beq_iff_eq.2 (by omega) | exact beq_eq_false_iff_ne.2 (by omega) | exact bne_iff_ne.2 (by omega) | rfl) rfl trivial rfl ?_
  refine Tr.nil ?_ (fun _ => rfl) (List.Perm.refl _)
  refine Wp.condT rfl ?_
  refine Wp.seq ?_
  refine Wp.reg allGen ?_
  refine Tr.assign rfl rfl trivial rfl ?_
  refine Tr.nil ?_ (fun _ => rfl) (List.Perm.refl _)
  refine Wp.ret ?_
  refine ⟨by first | exact .inl rfl | exact .inr rfl, ?_⟩
  exact .r1 rfl (RvIs.tmp rfl)

include hsrc hrd
theorem f6_pads (hd : dd.length ≤ 5000) : FnR Try.prog 6 [.slice a0 dd.length cp] rd (.bool true) := by
  have hone : ∀ l : List UInt8, (u8s l).all Value.oneCell' = true := fun l => by simp [Value.oneCell']
  have hl1 : (u8s dd).length = dd.length := by simp
  have hp := padS_len dd.length
  have hpadR := f36_pad a0 dd cp rd hsrc hrd (by omega)
  have hown : ∀ b (pre sp : List Value), FnG Try.prog 35 [.slice (some ⟨b, pre.length, none⟩) dd.length (dd.length + sp.length)] [⟨b, pre ++ u8s dd ++ sp, false⟩] (fun v es => Fresh (u8s (dd ++ padS dd.length)) v es) := fun b pre sp =>
    f35_pad _ dd _ _ (.inr ⟨b, pre.length, _, false, rfl, List.mem_singleton.2 rfl, ⟨pre, sp, rfl, rfl⟩⟩) (by simp) (by omega)
  have hL : 0 < (dd ++ padS dd.length).length := by rw [List.length_append, hp]; omega
  generalize dd ++ padS dd.length = L at *
  refine fnR_of 29 rfl Try.func6 rfl (by kernel_rfl) rfl hrd fun w => ?_
  refine Wp.seq ?_
  refine Wp.reg allGen ?_
  refine Tr.assign rfl rfl trivial rfl ?_
  refine Tr.nil ?_ (fun _ => rfl) (List.Perm.refl _)
  refine Wp.seq ?_
  refine Wp.seq ?_
  refine Wp.reg allGen ?_
  refine Tr.move rfl rfl trivial rfl ?_
  refine Tr.lenS tab rfl rfl rfl rfl trivial rfl ?_
  refine Tr.gtr rfl rfl (by first | with_reducible assumption | exact decide_eq_true (by omega) | exact decide_eq_false (by omega) | exact beq_iff_eq.2 (by omega) | exact beq_eq_false_iff_ne.2 (by omega) | exact bne_iff_ne.2 (by omega) | rfl) rfl trivial rfl ?_
  refine Tr.nil ?_ (fun _ => rfl) (List.Perm.refl _)
  refine Wp.condF rfl ?_
  refine Wp.skip ?_
  refine Wp.seq ?_
  refine Wp.reg allGen ?_
  refine Tr.buildSlice tab rfl rfl rfl rfl rfl rfl (by simp [fillC, splice, vcells, Value.cells, zrep_one]; rfl) rfl trivial rfl (fun _ _ => ?_)
  refine Tr.move rfl rfl trivial rfl ?_
  refine Tr.appendO (l := []) (pre0 := []) (sp0 := []) tab rfl (by repeat (first | exact .here | apply Pick.there | apply Pick.append)) rfl rfl rfl rfl rfl (hsrc.of (by intro e he; repeat (first | exact he | refine .tail _ ?_))) (hone _) rfl rfl rfl rfl (by simp) (by simp; omega) (by simp; omega) rfl trivial rfl (fun b2 pre2 sp2 => ?_)
  simp only [List.nil_append, List.length_nil, Nat.zero_add, hl1, show (dd.map fun x => Value.int .u8 (x.toNat : Int)) = u8s dd from rfl]
  refine Tr.assign rfl rfl trivial rfl ?_
  refine Tr.nil ?_ (fun _ => rfl) (List.Perm.refl _)
  refine Wp.seq ?_
  refine Wp.reg allGen ?_
  refine Tr.move rfl rfl trivial rfl ?_
  refine Tr.callG rfl (hown b2 pre2 sp2) (by repeat (first | exact Has.nil | refine Has.cons (by repeat (first | exact .head _ | refine .tail _ ?_ | refine List.mem_append_right _ ?_)) ?_)) rfl trivial rfl ?_
  rintro _ es hfr
  obtain ⟨b1, pre1, sp1, rfl, rfl⟩ := hfr.row (n := L.length) (by simp) hL
  have hA1 : At (pre1 ++ u8s L ++ sp1) pre1.length (u8s L) := ⟨pre1, sp1, rfl, rfl⟩
  have hA2 : At (pre2 ++ u8s dd ++ sp2) pre2.length (u8s dd) := ⟨pre2, sp2, rfl, rfl⟩
  refine Tr.assign rfl rfl trivial rfl ?_
  refine Tr.nil ?_ (fun _ => rfl) (List.Perm.refl _)
  refine Wp.seq ?_
  refine Wp.regE kind6 mo (by kernel_rfl) ?_
  refine Tr.call rfl f23_awake (by repeat (first | exact Has.nil | refine Has.cons (by repeat (first | exact .head _ | refine .tail _ ?_ | refine List.mem_append_right _ ?_)) ?_)) rfl trivial rfl ?_
  refine Tr.move rfl rfl trivial rfl ?_
  first | refine Tr.skp rfl ⟨_, _, rfl, rfl, by first | exact .inl rfl | exact .inr rfl⟩ ?_ | (refine Tr.move rfl rfl ⟨_, rfl, rfl⟩ rfl ?_)
  first | refine Tr.skp rfl ⟨_, _, rfl, rfl, by first | exact .inl rfl | exact .inr rfl⟩ ?_ | (refine Tr.bytesStr (l := dd) tab rfl (by repeat (first | exact .head _ | refine .tail _ ?_ | refine List.mem_append_right _ ?_)) hA2 rfl rfl rfl rfl rfl rfl rfl rfl ⟨_, rfl, rfl⟩ rfl ?_)
  first | refine Tr.skp rfl ⟨_, _, rfl, rfl, by first | exact .inl rfl | exact .inr rfl⟩ ?_ | (refine Tr.move rfl rfl ⟨_, rfl, rfl⟩ rfl ?_)
  first | refine Tr.skp rfl ⟨_, _, rfl, rfl, by first | exact .inl rfl | exact .inr rfl⟩ ?_ | (refine Tr.bytesSrc tab rfl hsrc (by intro e he; repeat (first | exact he | refine .tail _ ?_)) rfl rfl rfl rfl rfl rfl rfl ⟨_, rfl, rfl⟩ rfl ?_)
  first | refine Tr.skp rfl ⟨_, _, rfl, rfl, by first | exact .inl rfl | exact .inr rfl⟩ ?_ | (refine Tr.eqlStr (r := true) rfl rfl (by simp) rfl ⟨_, rfl, rfl⟩ rfl ?_)
  first | refine Tr.pickT rfl rfl rfl trivial rfl ?_ | refine Tr.pickF rfl rfl rfl trivial rfl ?_
  refine Tr.move rfl rfl trivial rfl ?_
  first | refine Tr.skp rfl ⟨_, _, rfl, rfl, by first | exact .inl rfl | exact .inr rfl⟩ ?_ | (refine Tr.move rfl rfl ⟨_, rfl, rfl⟩ rfl ?_)
  first | refine Tr.skp rfl ⟨_, _, rfl, rfl, by first | exact .inl rfl | exact .inr rfl⟩ ?_ | (refine Tr.bytesStr (l := L) tab rfl (by repeat (first | exact .head _ | refine .tail _ ?_ | refine List.mem_append_right _ ?_)) hA1 rfl rfl rfl rfl rfl rfl rfl rfl ⟨_, rfl, rfl⟩ rfl ?_)
  first | refine Tr.skp rfl ⟨_, _, rfl, rfl, by first | exact .inl rfl | exact .inr rfl⟩ ?_ | (refine Tr.move rfl rfl ⟨_, rfl, rfl⟩ rfl ?_)
  first | refine Tr.skp rfl ⟨_, _, rfl, rfl, by first | exact .inl rfl | exact .inr rfl⟩ ?_ | (refine Tr.callCR rfl hpadR (by intro e he; repeat (first | exact he | refine .tail _ ?_)) hrd rfl ⟨_, rfl, rfl⟩ rfl ?_; rintro _ es3 hfr3; obtain ⟨b3, pre3, sp3, rfl, rfl⟩ := hfr3.row (n := L.length) (by simp) hL; have hA3 : At (pre3 ++ u8s L ++ sp3) pre3.length (u8s L) := ⟨pre3, sp3, rfl, rfl⟩)
  first | refine Tr.skp rfl ⟨_, _, rfl, rfl, by first | exact .inl rfl | exact .inr rfl⟩ ?_ | (refine Tr.bytesStr (l := L) tab rfl (by repeat (first | exact .head _ | refine .tail _ ?_ | refine List.mem_append_right _ ?_)) hA3 rfl rfl rfl rfl rfl rfl rfl rfl ⟨_, rfl, rfl⟩ rfl ?_)
  first | refine Tr.skp rfl ⟨_, _, rfl, rfl, by first | exact .inl rfl | exact .inr rfl⟩ ?_ | (refine Tr.eqlStr (r := true) rfl rfl (by simp) rfl ⟨_, rfl, rfl⟩ rfl ?_)
  first | refine Tr.pickT rfl rfl rfl trivial rfl ?_ | refine Tr.pickF rfl rfl rfl trivial rfl ?_
  refine Tr.assign rfl rfl trivial rfl ?_
  refine Tr.nil ?_ (fun _ => rfl) (List.Perm.refl _)
  refine Wp.ret ?_
  refine ⟨by first | exact .inl rfl | exact .inr rfl, ?_⟩
  exact .r1 rfl (RvIs.tmp rfl)
end
end Go.Proofs.Ytffghaeaohabhaa.AW
