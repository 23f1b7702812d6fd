/-
  Texts that the statement stands on, one behind the other: plain lemmas and walks of functions.
  No condition.
-/
import Derived.Test.YtegociefcfcihaaDoorChecked
import Derived.Shelf.Small.Bits
import Derived.Shelf.Strconv.Itoa0
import Derived.Shelf.Strconv.Itoa1
import Derived.Shelf.LaysM
import Derived.Shelf.Strconv.Itoa2
import Derived.Shelf.Bits.Mul64
import Derived.Test.YtegociefcfcihaaDoorProg
import Derived.Test.YtegociefcfcihaaDoorUba
import Derived.Test.YtegociefcfcihaaDoorUbb
import Derived.Test.YtegociefcfcihaaDoorUbc
import Derived.Test.YtegociefcfcihaaDoorUbd
set_option linter.unusedVariables false
set_option maxRecDepth 20000
namespace Go.Proofs.YtegociefcfcihaaDoor.Wx
open Go Go.Fw

theorem sz39 : SizeT Tryd.prog 39 32 := (by unfold SizeT; kernel_rfl)
theorem sz22 : SizeT Tryd.prog 22 1 := (by unfold SizeT; kernel_rfl)
theorem arr24 : ArrT Tryd.prog 24 4 22 1 := ⟨Tryd.underlying24, sz22⟩
theorem one22 : OneT Tryd.prog 22 := ⟨⟨_, Tryd.underlying22, rfl⟩, by kernel_rfl⟩
theorem el5 : ElT Tryd.prog 5 1 1 (.int .u8 0) := ⟨by kernel_rfl, rfl, by decide, by decide⟩

theorem digit (w : World) (c : Nat) (hc : c < 256) :
    Calls Tryd.prog 137 [.int .u8 (c : Int)].toArray w fun e w' => e = .returned (.int .u64 ((digU c : Nat) : Int)) ∧ WS w [] [] w' := by
  refine calls_of_T [] 35 [] Tryd.func137 rfl Tryd.ntmps137 (by simp) (WS.refl _ _) ?_
  refine T.seq ?_
  refine T.text [.l] rfl ?_
  refine J.assign rfl rfl ?_
  refine J.end ?_
  refine X.then ?_
  refine T.seq ?_
  refine T.block ?_
  refine T.seq ?_
  refine T.text [.l, .l, .l, .l, .l, .l, .l] rfl ?_
  refine J.move rfl rfl ?_
  refine J.geq rfl rfl rfl rfl ?_
  refine J.move rfl rfl ?_
  refine J.split 6 rfl (fun h1 => ?_) (fun h1 => ?_)
  · skip
    refine J.yes rfl rfl ?_
    refine J.move rfl rfl ?_
    refine J.yes rfl rfl ?_
    refine J.leq rfl rfl rfl rfl ?_
    refine J.pick_t rfl rfl rfl ?_
    refine J.assign rfl rfl ?_
    refine J.end ?_
    refine X.then ?_
    refine T.cond_dec rfl (fun h2 => ?_) (fun h2 => ?_)
    · skip
      refine T.seq ?_
      refine T.text [.l, .l, .l, .l] rfl ?_
      refine J.move rfl rfl ?_
      refine J.sub' rfl rfl rfl (by exact u8_ok _ (by omega)) ?_
      refine J.conv (by rw [Tryd.underlying5]; rfl) Tryd.underlying22 rfl rfl (by exact u64_ok _ (by omega)) ?_
      refine J.assign rfl rfl ?_
      refine J.end ?_
      refine X.then ?_
      refine T.ret ?_
      refine X.inBlock_ret (X.then_ret ?_)
      exact X.ret1 rfl (RV.tmp rfl) (fun w' hw' => ⟨by unfold digU; first | (rw [if_pos (by omega)]; first | done | (congr 2; omega)) | (rw [if_neg (by omega), if_pos (by omega)]; first | done | (congr 2; omega)) | (rw [if_neg (by omega), if_neg (by omega), if_pos (by omega)]; first | done | (congr 2; omega)) | (rw [if_neg (by omega), if_neg (by omega), if_neg (by omega)]; rfl), hw'.sub (Sub.nil _)⟩)
    · skip
      refine T.seq ?_
      refine T.text [.l, .l, .l, .l, .l, .l, .l] rfl ?_
      refine J.move rfl rfl ?_
      refine J.geq rfl rfl rfl rfl ?_
      refine J.move rfl rfl ?_
      refine J.split 16 rfl (fun h3 => ?_) (fun h3 => ?_)
      · skip
        refine J.yes rfl rfl ?_
        refine J.move rfl rfl ?_
        refine J.yes rfl rfl ?_
        refine J.leq rfl rfl rfl rfl ?_
        refine J.pick_t rfl rfl rfl ?_
        refine J.assign rfl rfl ?_
        refine J.end ?_
        refine X.then ?_
        refine T.cond_dec rfl (fun h4 => ?_) (fun h4 => ?_)
        · skip
          refine T.seq ?_
          refine T.text [.l, .l, .l, .l, .l] rfl ?_
          refine J.move rfl rfl ?_
          refine J.sub' rfl rfl rfl (by exact u8_ok _ (by omega)) ?_
          refine J.conv (by rw [Tryd.underlying5]; rfl) Tryd.underlying22 rfl rfl (by exact u64_ok _ (by omega)) ?_
          refine J.add rfl rfl rfl (by exact u64_ok _ (by omega)) ?_
          refine J.assign rfl rfl ?_
          refine J.end ?_
          refine X.then ?_
          refine T.ret ?_
          refine X.inBlock_ret (X.then_ret ?_)
          exact X.ret1 rfl (RV.tmp rfl) (fun w' hw' => ⟨by unfold digU; first | (rw [if_pos (by omega)]; first | done | (congr 2; omega)) | (rw [if_neg (by omega), if_pos (by omega)]; first | done | (congr 2; omega)) | (rw [if_neg (by omega), if_neg (by omega), if_pos (by omega)]; first | done | (congr 2; omega)) | (rw [if_neg (by omega), if_neg (by omega), if_neg (by omega)]; rfl), hw'.sub (Sub.nil _)⟩)
        · skip
          refine T.seq ?_
          refine T.text [.l, .l, .l, .l, .l, .l, .l] rfl ?_
          refine J.move rfl rfl ?_
          refine J.geq rfl rfl rfl rfl ?_
          refine J.move rfl rfl ?_
          refine J.split 27 rfl (fun h5 => ?_) (fun h5 => ?_)
          · skip
            refine J.yes rfl rfl ?_
            refine J.move rfl rfl ?_
            refine J.yes rfl rfl ?_
            refine J.leq rfl rfl rfl rfl ?_
            refine J.pick_t rfl rfl rfl ?_
            refine J.assign rfl rfl ?_
            refine J.end ?_
            refine X.then ?_
            refine T.cond_dec rfl (fun h6 => ?_) (fun h6 => ?_)
            · skip
              refine T.seq ?_
              refine T.text [.l, .l, .l, .l, .l] rfl ?_
              refine J.move rfl rfl ?_
              refine J.sub' rfl rfl rfl (by exact u8_ok _ (by omega)) ?_
              refine J.conv (by rw [Tryd.underlying5]; rfl) Tryd.underlying22 rfl rfl (by exact u64_ok _ (by omega)) ?_
              refine J.add rfl rfl rfl (by exact u64_ok _ (by omega)) ?_
              refine J.assign rfl rfl ?_
              refine J.end ?_
              refine X.then ?_
              refine T.ret ?_
              refine X.inBlock_ret (X.then_ret ?_)
              exact X.ret1 rfl (RV.tmp rfl) (fun w' hw' => ⟨by unfold digU; first | (rw [if_pos (by omega)]; first | done | (congr 2; omega)) | (rw [if_neg (by omega), if_pos (by omega)]; first | done | (congr 2; omega)) | (rw [if_neg (by omega), if_neg (by omega), if_pos (by omega)]; first | done | (congr 2; omega)) | (rw [if_neg (by omega), if_neg (by omega), if_neg (by omega)]; rfl), hw'.sub (Sub.nil _)⟩)
            · skip
              refine T.skip ?_
              refine X.inBlock (X.then ?_)
              refine T.seq ?_
              refine T.text [.l] rfl ?_
              refine J.assign rfl rfl ?_
              refine J.end ?_
              refine X.then ?_
              refine T.ret ?_
              exact X.ret1 rfl (RV.tmp rfl) (fun w' hw' => ⟨by unfold digU; first | (rw [if_pos (by omega)]; first | done | (congr 2; omega)) | (rw [if_neg (by omega), if_pos (by omega)]; first | done | (congr 2; omega)) | (rw [if_neg (by omega), if_neg (by omega), if_pos (by omega)]; first | done | (congr 2; omega)) | (rw [if_neg (by omega), if_neg (by omega), if_neg (by omega)]; rfl), hw'.sub (Sub.nil _)⟩)
          · skip
            refine J.no rfl rfl rfl rfl ?_
            refine J.no rfl rfl rfl rfl ?_
            refine J.pick_f rfl rfl rfl ?_
            refine J.assign rfl rfl ?_
            refine J.end ?_
            refine X.then ?_
            refine T.cond_false rfl ?_
            refine T.skip ?_
            refine X.inBlock (X.then ?_)
            refine T.seq ?_
            refine T.text [.l] rfl ?_
            refine J.assign rfl rfl ?_
            refine J.end ?_
            refine X.then ?_
            refine T.ret ?_
            exact X.ret1 rfl (RV.tmp rfl) (fun w' hw' => ⟨by unfold digU; first | (rw [if_pos (by omega)]; first | done | (congr 2; omega)) | (rw [if_neg (by omega), if_pos (by omega)]; first | done | (congr 2; omega)) | (rw [if_neg (by omega), if_neg (by omega), if_pos (by omega)]; first | done | (congr 2; omega)) | (rw [if_neg (by omega), if_neg (by omega), if_neg (by omega)]; rfl), hw'.sub (Sub.nil _)⟩)
      · skip
        refine J.no rfl rfl rfl rfl ?_
        refine J.no rfl rfl rfl rfl ?_
        refine J.pick_f rfl rfl rfl ?_
        refine J.assign rfl rfl ?_
        refine J.end ?_
        refine X.then ?_
        refine T.cond_false rfl ?_
        refine T.seq ?_
        refine T.text [.l, .l, .l, .l, .l, .l, .l] rfl ?_
        refine J.move rfl rfl ?_
        refine J.geq rfl rfl rfl rfl ?_
        refine J.move rfl rfl ?_
        refine J.split 27 rfl (fun h7 => ?_) (fun h7 => ?_)
        · skip
          refine J.yes rfl rfl ?_
          refine J.move rfl rfl ?_
          refine J.yes rfl rfl ?_
          refine J.leq rfl rfl rfl rfl ?_
          refine J.pick_t rfl rfl rfl ?_
          refine J.assign rfl rfl ?_
          refine J.end ?_
          refine X.then ?_
          refine T.cond_dec rfl (fun h8 => ?_) (fun h8 => ?_)
          · skip
            refine T.seq ?_
            refine T.text [.l, .l, .l, .l, .l] rfl ?_
            refine J.move rfl rfl ?_
            refine J.sub' rfl rfl rfl (by exact u8_ok _ (by omega)) ?_
            refine J.conv (by rw [Tryd.underlying5]; rfl) Tryd.underlying22 rfl rfl (by exact u64_ok _ (by omega)) ?_
            refine J.add rfl rfl rfl (by exact u64_ok _ (by omega)) ?_
            refine J.assign rfl rfl ?_
            refine J.end ?_
            refine X.then ?_
            refine T.ret ?_
            refine X.inBlock_ret (X.then_ret ?_)
            exact X.ret1 rfl (RV.tmp rfl) (fun w' hw' => ⟨by unfold digU; first | (rw [if_pos (by omega)]; first | done | (congr 2; omega)) | (rw [if_neg (by omega), if_pos (by omega)]; first | done | (congr 2; omega)) | (rw [if_neg (by omega), if_neg (by omega), if_pos (by omega)]; first | done | (congr 2; omega)) | (rw [if_neg (by omega), if_neg (by omega), if_neg (by omega)]; rfl), hw'.sub (Sub.nil _)⟩)
          · skip
            refine T.skip ?_
            refine X.inBlock (X.then ?_)
            refine T.seq ?_
            refine T.text [.l] rfl ?_
            refine J.assign rfl rfl ?_
            refine J.end ?_
            refine X.then ?_
            refine T.ret ?_
            exact X.ret1 rfl (RV.tmp rfl) (fun w' hw' => ⟨by unfold digU; first | (rw [if_pos (by omega)]; first | done | (congr 2; omega)) | (rw [if_neg (by omega), if_pos (by omega)]; first | done | (congr 2; omega)) | (rw [if_neg (by omega), if_neg (by omega), if_pos (by omega)]; first | done | (congr 2; omega)) | (rw [if_neg (by omega), if_neg (by omega), if_neg (by omega)]; rfl), hw'.sub (Sub.nil _)⟩)
        · skip
          refine J.no rfl rfl rfl rfl ?_
          refine J.no rfl rfl rfl rfl ?_
          refine J.pick_f rfl rfl rfl ?_
          refine J.assign rfl rfl ?_
          refine J.end ?_
          refine X.then ?_
          refine T.cond_false rfl ?_
          refine T.skip ?_
          refine X.inBlock (X.then ?_)
          refine T.seq ?_
          refine T.text [.l] rfl ?_
          refine J.assign rfl rfl ?_
          refine J.end ?_
          refine X.then ?_
          refine T.ret ?_
          exact X.ret1 rfl (RV.tmp rfl) (fun w' hw' => ⟨by unfold digU; first | (rw [if_pos (by omega)]; first | done | (congr 2; omega)) | (rw [if_neg (by omega), if_pos (by omega)]; first | done | (congr 2; omega)) | (rw [if_neg (by omega), if_neg (by omega), if_pos (by omega)]; first | done | (congr 2; omega)) | (rw [if_neg (by omega), if_neg (by omega), if_neg (by omega)]; rfl), hw'.sub (Sub.nil _)⟩)
  · skip
    refine J.no rfl rfl rfl rfl ?_
    refine J.no rfl rfl rfl rfl ?_
    refine J.pick_f rfl rfl rfl ?_
    refine J.assign rfl rfl ?_
    refine J.end ?_
    refine X.then ?_
    refine T.cond_false rfl ?_
    refine T.seq ?_
    refine T.text [.l, .l, .l, .l, .l, .l, .l] rfl ?_
    refine J.move rfl rfl ?_
    refine J.geq rfl rfl rfl rfl ?_
    refine J.move rfl rfl ?_
    refine J.split 16 rfl (fun h9 => ?_) (fun h9 => ?_)
    · skip
      refine J.yes rfl rfl ?_
      refine J.move rfl rfl ?_
      refine J.yes rfl rfl ?_
      refine J.leq rfl rfl rfl rfl ?_
      refine J.pick_t rfl rfl rfl ?_
      refine J.assign rfl rfl ?_
      refine J.end ?_
      refine X.then ?_
      refine T.cond_dec rfl (fun h10 => ?_) (fun h10 => ?_)
      · skip
        refine T.seq ?_
        refine T.text [.l, .l, .l, .l, .l] rfl ?_
        refine J.move rfl rfl ?_
        refine J.sub' rfl rfl rfl (by exact u8_ok _ (by omega)) ?_
        refine J.conv (by rw [Tryd.underlying5]; rfl) Tryd.underlying22 rfl rfl (by exact u64_ok _ (by omega)) ?_
        refine J.add rfl rfl rfl (by exact u64_ok _ (by omega)) ?_
        refine J.assign rfl rfl ?_
        refine J.end ?_
        refine X.then ?_
        refine T.ret ?_
        refine X.inBlock_ret (X.then_ret ?_)
        exact X.ret1 rfl (RV.tmp rfl) (fun w' hw' => ⟨by unfold digU; first | (rw [if_pos (by omega)]; first | done | (congr 2; omega)) | (rw [if_neg (by omega), if_pos (by omega)]; first | done | (congr 2; omega)) | (rw [if_neg (by omega), if_neg (by omega), if_pos (by omega)]; first | done | (congr 2; omega)) | (rw [if_neg (by omega), if_neg (by omega), if_neg (by omega)]; rfl), hw'.sub (Sub.nil _)⟩)
      · skip
        refine T.seq ?_
        refine T.text [.l, .l, .l, .l, .l, .l, .l] rfl ?_
        refine J.move rfl rfl ?_
        refine J.geq rfl rfl rfl rfl ?_
        refine J.move rfl rfl ?_
        refine J.split 27 rfl (fun h11 => ?_) (fun h11 => ?_)
        · skip
          refine J.yes rfl rfl ?_
          refine J.move rfl rfl ?_
          refine J.yes rfl rfl ?_
          refine J.leq rfl rfl rfl rfl ?_
          refine J.pick_t rfl rfl rfl ?_
          refine J.assign rfl rfl ?_
          refine J.end ?_
          refine X.then ?_
          refine T.cond_dec rfl (fun h12 => ?_) (fun h12 => ?_)
          · skip
            refine T.seq ?_
            refine T.text [.l, .l, .l, .l, .l] rfl ?_
            refine J.move rfl rfl ?_
            refine J.sub' rfl rfl rfl (by exact u8_ok _ (by omega)) ?_
            refine J.conv (by rw [Tryd.underlying5]; rfl) Tryd.underlying22 rfl rfl (by exact u64_ok _ (by omega)) ?_
            refine J.add rfl rfl rfl (by exact u64_ok _ (by omega)) ?_
            refine J.assign rfl rfl ?_
            refine J.end ?_
            refine X.then ?_
            refine T.ret ?_
            refine X.inBlock_ret (X.then_ret ?_)
            exact X.ret1 rfl (RV.tmp rfl) (fun w' hw' => ⟨by unfold digU; first | (rw [if_pos (by omega)]; first | done | (congr 2; omega)) | (rw [if_neg (by omega), if_pos (by omega)]; first | done | (congr 2; omega)) | (rw [if_neg (by omega), if_neg (by omega), if_pos (by omega)]; first | done | (congr 2; omega)) | (rw [if_neg (by omega), if_neg (by omega), if_neg (by omega)]; rfl), hw'.sub (Sub.nil _)⟩)
          · skip
            refine T.skip ?_
            refine X.inBlock (X.then ?_)
            refine T.seq ?_
            refine T.text [.l] rfl ?_
            refine J.assign rfl rfl ?_
            refine J.end ?_
            refine X.then ?_
            refine T.ret ?_
            exact X.ret1 rfl (RV.tmp rfl) (fun w' hw' => ⟨by unfold digU; first | (rw [if_pos (by omega)]; first | done | (congr 2; omega)) | (rw [if_neg (by omega), if_pos (by omega)]; first | done | (congr 2; omega)) | (rw [if_neg (by omega), if_neg (by omega), if_pos (by omega)]; first | done | (congr 2; omega)) | (rw [if_neg (by omega), if_neg (by omega), if_neg (by omega)]; rfl), hw'.sub (Sub.nil _)⟩)
        · skip
          refine J.no rfl rfl rfl rfl ?_
          refine J.no rfl rfl rfl rfl ?_
          refine J.pick_f rfl rfl rfl ?_
          refine J.assign rfl rfl ?_
          refine J.end ?_
          refine X.then ?_
          refine T.cond_false rfl ?_
          refine T.skip ?_
          refine X.inBlock (X.then ?_)
          refine T.seq ?_
          refine T.text [.l] rfl ?_
          refine J.assign rfl rfl ?_
          refine J.end ?_
          refine X.then ?_
          refine T.ret ?_
          exact X.ret1 rfl (RV.tmp rfl) (fun w' hw' => ⟨by unfold digU; first | (rw [if_pos (by omega)]; first | done | (congr 2; omega)) | (rw [if_neg (by omega), if_pos (by omega)]; first | done | (congr 2; omega)) | (rw [if_neg (by omega), if_neg (by omega), if_pos (by omega)]; first | done | (congr 2; omega)) | (rw [if_neg (by omega), if_neg (by omega), if_neg (by omega)]; rfl), hw'.sub (Sub.nil _)⟩)
    · skip
      refine J.no rfl rfl rfl rfl ?_
      refine J.no rfl rfl rfl rfl ?_
      refine J.pick_f rfl rfl rfl ?_
      refine J.assign rfl rfl ?_
      refine J.end ?_
      refine X.then ?_
      refine T.cond_false rfl ?_
      refine T.seq ?_
      refine T.text [.l, .l, .l, .l, .l, .l, .l] rfl ?_
      refine J.move rfl rfl ?_
      refine J.geq rfl rfl rfl rfl ?_
      refine J.move rfl rfl ?_
      refine J.split 27 rfl (fun h13 => ?_) (fun h13 => ?_)
      · skip
        refine J.yes rfl rfl ?_
        refine J.move rfl rfl ?_
        refine J.yes rfl rfl ?_
        refine J.leq rfl rfl rfl rfl ?_
        refine J.pick_t rfl rfl rfl ?_
        refine J.assign rfl rfl ?_
        refine J.end ?_
        refine X.then ?_
        refine T.cond_dec rfl (fun h14 => ?_) (fun h14 => ?_)
        · skip
          refine T.seq ?_
          refine T.text [.l, .l, .l, .l, .l] rfl ?_
          refine J.move rfl rfl ?_
          refine J.sub' rfl rfl rfl (by exact u8_ok _ (by omega)) ?_
          refine J.conv (by rw [Tryd.underlying5]; rfl) Tryd.underlying22 rfl rfl (by exact u64_ok _ (by omega)) ?_
          refine J.add rfl rfl rfl (by exact u64_ok _ (by omega)) ?_
          refine J.assign rfl rfl ?_
          refine J.end ?_
          refine X.then ?_
          refine T.ret ?_
          refine X.inBlock_ret (X.then_ret ?_)
          exact X.ret1 rfl (RV.tmp rfl) (fun w' hw' => ⟨by unfold digU; first | (rw [if_pos (by omega)]; first | done | (congr 2; omega)) | (rw [if_neg (by omega), if_pos (by omega)]; first | done | (congr 2; omega)) | (rw [if_neg (by omega), if_neg (by omega), if_pos (by omega)]; first | done | (congr 2; omega)) | (rw [if_neg (by omega), if_neg (by omega), if_neg (by omega)]; rfl), hw'.sub (Sub.nil _)⟩)
        · skip
          refine T.skip ?_
          refine X.inBlock (X.then ?_)
          refine T.seq ?_
          refine T.text [.l] rfl ?_
          refine J.assign rfl rfl ?_
          refine J.end ?_
          refine X.then ?_
          refine T.ret ?_
          exact X.ret1 rfl (RV.tmp rfl) (fun w' hw' => ⟨by unfold digU; first | (rw [if_pos (by omega)]; first | done | (congr 2; omega)) | (rw [if_neg (by omega), if_pos (by omega)]; first | done | (congr 2; omega)) | (rw [if_neg (by omega), if_neg (by omega), if_pos (by omega)]; first | done | (congr 2; omega)) | (rw [if_neg (by omega), if_neg (by omega), if_neg (by omega)]; rfl), hw'.sub (Sub.nil _)⟩)
      · skip
        refine J.no rfl rfl rfl rfl ?_
        refine J.no rfl rfl rfl rfl ?_
        refine J.pick_f rfl rfl rfl ?_
        refine J.assign rfl rfl ?_
        refine J.end ?_
        refine X.then ?_
        refine T.cond_false rfl ?_
        refine T.skip ?_
        refine X.inBlock (X.then ?_)
        refine T.seq ?_
        refine T.text [.l] rfl ?_
        refine J.assign rfl rfl ?_
        refine J.end ?_
        refine X.then ?_
        refine T.ret ?_
        exact X.ret1 rfl (RV.tmp rfl) (fun w' hw' => ⟨by unfold digU; first | (rw [if_pos (by omega)]; first | done | (congr 2; omega)) | (rw [if_neg (by omega), if_pos (by omega)]; first | done | (congr 2; omega)) | (rw [if_neg (by omega), if_neg (by omega), if_pos (by omega)]; first | done | (congr 2; omega)) | (rw [if_neg (by omega), if_neg (by omega), if_neg (by omega)]; rfl), hw'.sub (Sub.nil _)⟩)

theorem Hex (w : World) (x0 m : Nat) (hm : numd 16 (x0 % 2 ^ 256) m) :
    Calls Tryd.prog 103 [W x0].toArray w fun e w' => e = .returned (.string (bstr ([48, 120] ++ txt 16 (x0 % 2 ^ 256) m))) ∧ WS w [] [] w' := by
  have hml : m ≤ 64 := numd64 hm (Nat.mod_lt x0 (show 2 ^ 256 > 0 by decide))
  have hm1 := hm.1
  have h64 : (digL 16 (x0 % 2 ^ 256) m).drop 64 = [] := List.drop_eq_nil_of_le (by rw [digL_length]; exact hml)
  refine calls_of_T [] 38 [] Tryd.func103 rfl Tryd.ntmps103 (by simp) (WS.refl _ _) ?_
  refine T.seq ?_
  refine T.text [.l, .l] rfl ?_
  refine J.box 1 rfl rfl (wc x0) rfl rfl (fun g1 hg1 => ?_)
  refine J.assign rfl rfl ?_
  refine J.as 2 (.string (bstr [])) rfl rfl ?_
  refine J.end ?_
  refine X.then ?_
  refine T.seq ?_
  refine T.text [.l] rfl ?_
  refine J.assign rfl rfl ?_
  refine J.end ?_
  refine X.then ?_
  refine T.seq ?_
  refine T.seq ?_
  refine T.text [.l] rfl ?_
  refine J.assign rfl rfl ?_
  refine J.end ?_
  refine X.then ?_
  refine T.block ?_
  refine T.addNil 3 5 ?_
  refine T.loop (ι := Nat × RowIx) (fun ((u, r) : Nat × RowIx) => u ≤ 64 ∧ r.Ok 1 (((digL 16 (x0 % 2 ^ 256) m).drop u).reverse.map chrN).length) (fun ((u, r) : Nat × RowIx) => [(0, W x0), (1, .pointer (some ⟨g1, 0, none⟩)), (2, .string (bstr [])), (3, r.val (((digL 16 (x0 % 2 ^ 256) m).drop u).reverse.map chrN).length), (4, .int .i64 ((u : Int) - 1))]) (fun ((u, r) : Nat × RowIx) => [(1, ⟨some g1, 24, (wc x0)⟩), (3, r.ent 5 (rowN .u8 (((digL 16 (x0 % 2 ^ 256) m).drop u).reverse.map chrN)))]) (fun ((u, r) : Nat × RowIx) => u) ⟨64, RowIx.nil⟩ ⟨Nat.le_refl _, by rw [List.drop_eq_nil_of_le (by rw [digL_length]; exact hml)]; exact RowIx.nil_ok 1⟩ (by repeat (first | exact Sub.nil _ | refine Sub.cons (by first | rfl | (rw [htx]; rfl) | (rw [h64]; rfl)| (rw [dgs_zero]; rfl) | (rw [List.drop_length]; rfl) | (simp; done) | (congr 2; omega) | (congr 3; omega)) ?_)) (by repeat (first | exact Sub.nil _ | refine Sub.cons (by first | rfl | (rw [htx]; rfl) | (rw [h64]; rfl)| (rw [dgs_zero]; rfl) | (rw [List.drop_length]; rfl) | (simp; done) | (congr 2; omega) | (congr 3; omega)) ?_)) ?_
  rintro ⟨u, r⟩ ⟨hu, hr⟩
  try dsimp only at *
  refine T.seq ?_
  refine T.seq ?_
  refine T.text [.l, .l] rfl ?_
  refine J.move rfl rfl ?_
  refine J.geq rfl rfl rfl rfl ?_
  refine J.end ?_
  refine X.then ?_
  refine T.cond_dec rfl (fun h1 => ?_) (fun h1 => ?_)
  · obtain ⟨k, rfl⟩ : ∃ k, u = k + 1 := ⟨u - 1, by omega⟩
    refine T.as 4 (.int .i64 (k : Int)) rfl (by first | rfl | (congr 1; omega)) ?_
    have hk : k < 64 := by omega
    have hlm := lim_lt x0 (k / 16)
    have hnb := nib x0 k hk
    have hon : k < m → _ := hex_on hm
    have hoff : m ≤ k → _ := hex_off hm
    have hll : (((digL 16 (x0 % 2 ^ 256) m).drop (k + 1)).reverse.map chrN).length = m - (k + 1) := (by rw [List.length_map, List.length_reverse, List.length_drop, digL_length])
    have hd16 : (x0 % 2 ^ 256) / 16 ^ k % 16 < 16 := Nat.mod_lt _ (by omega)
    refine T.skip ?_
    refine X.then ?_
    refine T.seq ?_
    refine T.block ?_
    refine T.seq ?_
    refine T.text [.l, .l, .l, .l, .l, .l, .l, .l, .l, .l] rfl ?_
    refine J.move rfl rfl ?_
    refine J.quo rfl rfl rfl (by omega) (by first | exact quo_nat _ 16 (by omega) | exact i64_quo_ok _ _ (by omega) | exact rfl) ?_
    refine J.indexArr arr24 rfl rfl (by omega) (by omega) (by first | exact Int.toNat_natCast _ | rfl) rfl ?_
    refine J.load1 (k := .l) trivial 1 rfl rfl one22 (by exact rowN_get0 _ _ _ (by rw [wl_length]; omega)) rfl ?_
    refine J.as 13 (.int .u64 ((lim x0 (k / 16) : Nat) : Int)) rfl (by rw [wl_get _ _ (by omega)]) ?_
    refine J.move rfl rfl ?_
    refine J.rem rfl rfl rfl (by omega) (by first | exact rem_nat _ 16 | exact rem_ok _ _ (by omega) | exact rfl) ?_
    refine J.mul rfl rfl rfl (by first | exact mul_nat _ 4 (by omega) | exact i64_ok _ (by omega) | exact rfl) ?_
    refine J.shr rfl rfl rfl (by omega) (by exact shr_nat _ (k % 16 * 4) (by omega)) ?_
    refine J.band rfl rfl rfl (by exact u64_and15 _ (Nat.lt_of_le_of_lt (Nat.div_le_self _ _) hlm)) ?_
    refine J.as 18 (.int .u64 (((x0 % 2 ^ 256) / 16 ^ k % 16 : Nat) : Int)) rfl (by rw [hnb]) ?_
    refine J.assign rfl rfl ?_
    refine J.end ?_
    refine X.then ?_
    refine T.seq ?_
    refine T.text [.l, .l, .l, .l, .l, .l, .l, .l, .l, .l, .l] rfl ?_
    refine J.move rfl rfl ?_
    refine J.gtr rfl rfl rfl rfl ?_
    refine J.move rfl rfl ?_
    refine J.split 21 rfl (fun h2 => ?_) (fun h2 => ?_)
    · skip
      refine J.no rfl rfl rfl rfl ?_
      refine J.no rfl rfl rfl rfl ?_
      refine J.no rfl rfl rfl rfl ?_
      refine J.pick_t rfl rfl rfl ?_
      refine J.move rfl rfl ?_
      refine J.no rfl rfl rfl rfl ?_
      refine J.no rfl rfl rfl rfl ?_
      refine J.pick_t rfl rfl rfl ?_
      refine J.end ?_
      refine X.then ?_
      refine T.cond_true rfl ?_
      refine T.text [.l, .l, .l, .l, .l, .l] rfl ?_
      refine J.move rfl rfl ?_
      refine J.move rfl rfl ?_
      have hkm0 : k < m := by omega
      have hgd := digL_getD (b := 16) (n := (x0 % 2 ^ 256)) hkm0
      have hdr : (((digL 16 (x0 % 2 ^ 256) m).drop k).reverse.map chrN) = (((digL 16 (x0 % 2 ^ 256) m).drop (k + 1)).reverse.map chrN) ++ [chrN ((x0 % 2 ^ 256) / 16 ^ k % 16)] := by rw [← hgd]; exact chrs_snoc _ _ (by rw [digL_length]; exact hkm0)
      refine J.indexStr Tryd.underlying9 rfl rfl (by omega) (by first | exact Int.toNat_natCast _ | rfl) (tab16_get _ hd16) rfl ?_
      refine J.as 32 (.int .u8 ((chrN ((x0 % 2 ^ 256) / 16 ^ k % 16) : Nat) : Int)) rfl (by rw [chr_nat hd16]) ?_
      refine J.lit1 33 rfl Tryd.underlying45 el5 (by decide) rfl [_] rfl rfl rfl (fun g33 hg33 => ?_)
      refine J.append 3 rfl Tryd.underlying45 el5 rfl hr (by rw [rowN_length, Nat.mul_one]) rfl rfl rfl (fun w hw => (hw.blkCs (k := 33) rfl)) (by first | exact rowN_one _ _ | (intro u hu; simp at hu; subst hu; rfl)) (by omega) (by unfold maxLen; omega) rfl (((digL 16 (x0 % 2 ^ 256) m).drop k).reverse.map chrN).length (by rw [hdr]; simp) (rowN .u8 (((digL 16 (x0 % 2 ^ 256) m).drop k).reverse.map chrN)) (by rw [hdr, rowN_append]; rfl) (fun r34 hr34 => ?_)
      refine J.assign rfl rfl ?_
      refine J.end ?_
      refine X.inBlock (X.then ?_)
      refine T.text [.l, .l, .l] rfl ?_
      refine J.move rfl rfl ?_
      refine J.sub' rfl rfl rfl (by exact i64_ok _ (by omega)) ?_
      refine J.assign rfl rfl ?_
      refine J.end ?_
      have hkm : k < m := by omega
      exact X.round ⟨k, r34⟩ ⟨by omega, hr34⟩ (by first | omega | (dsimp only; omega)) (by repeat (first | exact Sub.nil _ | refine Sub.cons (by first | rfl | (rw [htx]; rfl) | (rw [h64]; rfl)| (rw [dgs_zero]; rfl) | (rw [List.drop_length]; rfl) | (simp; done) | (congr 2; omega) | (congr 3; omega)) ?_)) (by repeat (first | exact Sub.nil _ | refine Sub.cons (by first | rfl | (rw [htx]; rfl) | (rw [h64]; rfl)| (rw [dgs_zero]; rfl) | (rw [List.drop_length]; rfl) | (simp; done) | (congr 2; omega) | (congr 3; omega)) ?_))
    · skip
      refine J.yes rfl rfl ?_
      refine J.move rfl rfl ?_
      refine J.yes rfl rfl ?_
      refine J.lenSl Tryd.underlying45 rfl rfl ?_
      refine J.yes rfl rfl ?_
      refine J.gtr rfl rfl rfl rfl ?_
      refine J.pick_f rfl rfl rfl ?_
      refine J.move rfl rfl ?_
      refine J.split 26 rfl (fun h3 => ?_) (fun h3 => ?_)
      · skip
        refine J.no rfl rfl rfl rfl ?_
        refine J.no rfl rfl rfl rfl ?_
        refine J.pick_t rfl rfl rfl ?_
        refine J.end ?_
        refine X.then ?_
        refine T.cond_true rfl ?_
        refine T.text [.l, .l, .l, .l, .l, .l] rfl ?_
        refine J.move rfl rfl ?_
        refine J.move rfl rfl ?_
        have hkm0 : k < m := by omega
        have hgd := digL_getD (b := 16) (n := (x0 % 2 ^ 256)) hkm0
        have hdr : (((digL 16 (x0 % 2 ^ 256) m).drop k).reverse.map chrN) = (((digL 16 (x0 % 2 ^ 256) m).drop (k + 1)).reverse.map chrN) ++ [chrN ((x0 % 2 ^ 256) / 16 ^ k % 16)] := by rw [← hgd]; exact chrs_snoc _ _ (by rw [digL_length]; exact hkm0)
        refine J.indexStr Tryd.underlying9 rfl rfl (by omega) (by first | exact Int.toNat_natCast _ | rfl) (tab16_get _ hd16) rfl ?_
        refine J.as 32 (.int .u8 ((chrN ((x0 % 2 ^ 256) / 16 ^ k % 16) : Nat) : Int)) rfl (by rw [chr_nat hd16]) ?_
        refine J.lit1 33 rfl Tryd.underlying45 el5 (by decide) rfl [_] rfl rfl rfl (fun g33 hg33 => ?_)
        refine J.append 3 rfl Tryd.underlying45 el5 rfl hr (by rw [rowN_length, Nat.mul_one]) rfl rfl rfl (fun w hw => (hw.blkCs (k := 33) rfl)) (by first | exact rowN_one _ _ | (intro u hu; simp at hu; subst hu; rfl)) (by omega) (by unfold maxLen; omega) rfl (((digL 16 (x0 % 2 ^ 256) m).drop k).reverse.map chrN).length (by rw [hdr]; simp) (rowN .u8 (((digL 16 (x0 % 2 ^ 256) m).drop k).reverse.map chrN)) (by rw [hdr, rowN_append]; rfl) (fun r34 hr34 => ?_)
        refine J.assign rfl rfl ?_
        refine J.end ?_
        refine X.inBlock (X.then ?_)
        refine T.text [.l, .l, .l] rfl ?_
        refine J.move rfl rfl ?_
        refine J.sub' rfl rfl rfl (by exact i64_ok _ (by omega)) ?_
        refine J.assign rfl rfl ?_
        refine J.end ?_
        have hkm : k < m := by omega
        exact X.round ⟨k, r34⟩ ⟨by omega, hr34⟩ (by first | omega | (dsimp only; omega)) (by repeat (first | exact Sub.nil _ | refine Sub.cons (by first | rfl | (rw [htx]; rfl) | (rw [h64]; rfl)| (rw [dgs_zero]; rfl) | (rw [List.drop_length]; rfl) | (simp; done) | (congr 2; omega) | (congr 3; omega)) ?_)) (by repeat (first | exact Sub.nil _ | refine Sub.cons (by first | rfl | (rw [htx]; rfl) | (rw [h64]; rfl)| (rw [dgs_zero]; rfl) | (rw [List.drop_length]; rfl) | (simp; done) | (congr 2; omega) | (congr 3; omega)) ?_))
      · skip
        refine J.yes rfl rfl ?_
        refine J.move rfl rfl ?_
        refine J.yes rfl rfl ?_
        refine J.eql rfl rfl rfl rfl ?_
        refine J.pick_f rfl rfl rfl ?_
        refine J.end ?_
        refine X.then ?_
        refine T.cond_dec rfl (fun h4 => ?_) (fun h4 => ?_)
        · skip
          refine T.text [.l, .l, .l, .l, .l, .l] rfl ?_
          refine J.move rfl rfl ?_
          refine J.move rfl rfl ?_
          have hkm0 : k < m := by omega
          have hgd := digL_getD (b := 16) (n := (x0 % 2 ^ 256)) hkm0
          have hdr : (((digL 16 (x0 % 2 ^ 256) m).drop k).reverse.map chrN) = (((digL 16 (x0 % 2 ^ 256) m).drop (k + 1)).reverse.map chrN) ++ [chrN ((x0 % 2 ^ 256) / 16 ^ k % 16)] := by rw [← hgd]; exact chrs_snoc _ _ (by rw [digL_length]; exact hkm0)
          refine J.indexStr Tryd.underlying9 rfl rfl (by omega) (by first | exact Int.toNat_natCast _ | rfl) (tab16_get _ hd16) rfl ?_
          refine J.as 32 (.int .u8 ((chrN ((x0 % 2 ^ 256) / 16 ^ k % 16) : Nat) : Int)) rfl (by rw [chr_nat hd16]) ?_
          refine J.lit1 33 rfl Tryd.underlying45 el5 (by decide) rfl [_] rfl rfl rfl (fun g33 hg33 => ?_)
          refine J.append 3 rfl Tryd.underlying45 el5 rfl hr (by rw [rowN_length, Nat.mul_one]) rfl rfl rfl (fun w hw => (hw.blkCs (k := 33) rfl)) (by first | exact rowN_one _ _ | (intro u hu; simp at hu; subst hu; rfl)) (by omega) (by unfold maxLen; omega) rfl (((digL 16 (x0 % 2 ^ 256) m).drop k).reverse.map chrN).length (by rw [hdr]; simp) (rowN .u8 (((digL 16 (x0 % 2 ^ 256) m).drop k).reverse.map chrN)) (by rw [hdr, rowN_append]; rfl) (fun r34 hr34 => ?_)
          refine J.assign rfl rfl ?_
          refine J.end ?_
          refine X.inBlock (X.then ?_)
          refine T.text [.l, .l, .l] rfl ?_
          refine J.move rfl rfl ?_
          refine J.sub' rfl rfl rfl (by exact i64_ok _ (by omega)) ?_
          refine J.assign rfl rfl ?_
          refine J.end ?_
          have hkm : k < m := by omega
          exact X.round ⟨k, r34⟩ ⟨by omega, hr34⟩ (by first | omega | (dsimp only; omega)) (by repeat (first | exact Sub.nil _ | refine Sub.cons (by first | rfl | (rw [htx]; rfl) | (rw [h64]; rfl)| (rw [dgs_zero]; rfl) | (rw [List.drop_length]; rfl) | (simp; done) | (congr 2; omega) | (congr 3; omega)) ?_)) (by repeat (first | exact Sub.nil _ | refine Sub.cons (by first | rfl | (rw [htx]; rfl) | (rw [h64]; rfl)| (rw [dgs_zero]; rfl) | (rw [List.drop_length]; rfl) | (simp; done) | (congr 2; omega) | (congr 3; omega)) ?_))
        · skip
          refine T.skip ?_
          refine X.inBlock (X.then ?_)
          refine T.text [.l, .l, .l] rfl ?_
          refine J.move rfl rfl ?_
          refine J.sub' rfl rfl rfl (by exact i64_ok _ (by omega)) ?_
          refine J.assign rfl rfl ?_
          refine J.end ?_
          have hkm : m ≤ k := by omega
          have htx := txt_off (b := 16) (n := (x0 % 2 ^ 256)) hkm
          exact X.round ⟨k, r⟩ ⟨by omega, by rw [htx]; exact hr⟩ (by first | omega | (dsimp only; omega)) (by repeat (first | exact Sub.nil _ | refine Sub.cons (by first | rfl | (rw [htx]; rfl) | (rw [h64]; rfl)| (rw [dgs_zero]; rfl) | (rw [List.drop_length]; rfl) | (simp; done) | (congr 2; omega) | (congr 3; omega)) ?_)) (by repeat (first | exact Sub.nil _ | refine Sub.cons (by first | rfl | (rw [htx]; rfl) | (rw [h64]; rfl)| (rw [dgs_zero]; rfl) | (rw [List.drop_length]; rfl) | (simp; done) | (congr 2; omega) | (congr 3; omega)) ?_))
  · obtain rfl : u = 0 := by omega
    refine T.exit ?_
    refine X.then_exit (X.then_exit (X.inBlock_eq (X.then ?_)))
    refine T.seq ?_
    refine T.text [.l, .l, .l, .l] rfl ?_
    refine J.move rfl rfl ?_
    refine J.convBS (k := .l) trivial Tryd.underlying45 Tryd.underlying5 Tryd.underlying9 rfl ((((digL 16 (x0 % 2 ^ 256) m).drop 0).reverse.map chrN)) (by first | rfl | omega) (fun w hw => (hw.rowCs (k := 3) rfl)) rfl ?_
    refine J.addStr (xs := [48, 120]) (ys := (((digL 16 (x0 % 2 ^ 256) m).drop 0).reverse.map chrN)) rfl rfl rfl (by rw [List.length_map, List.length_reverse, List.length_drop, digL_length]; show 2 + _ ≤ _; omega) ?_
    refine J.assign rfl rfl ?_
    refine J.end ?_
    refine X.then ?_
    refine T.ret ?_
    exact X.ret1 rfl (RV.tmp rfl) (fun w' hw' => ⟨by rw [List.drop_zero]; rfl, hw'.sub (Sub.nil _)⟩)
end Go.Proofs.YtegociefcfcihaaDoor.Wx
set_option linter.unusedVariables false
set_option maxRecDepth 20000
namespace Go.Proofs.YtegociefcfcihaaDoor.Wq
open Go Go.Fw

theorem sz39 : SizeT Tryd.prog 39 32 := (by unfold SizeT; kernel_rfl)
theorem zero8 : ZeroT Tryd.prog 67 (.agg (rowN .u64 (lg 0)).toArray) := (by unfold ZeroT; kernel_rfl)
theorem zero24 : ZeroT Tryd.prog 24 (.agg ([.int .u64 0, .int .u64 0, .int .u64 0, .int .u64 0]).toArray) := (by unfold ZeroT; kernel_rfl)
theorem sz24 : SizeT Tryd.prog 24 4 := (by unfold SizeT; kernel_rfl)
theorem agg24 : AggT Tryd.prog 24 4 := ⟨⟨_, Tryd.underlying24, rfl⟩, by kernel_rfl⟩
theorem fok137 : FnOk Tryd.prog 137 := FnOk.mk' Tryd.func137 (by kernel_rfl) rfl
theorem fok114 : FnOk Tryd.prog 114 := FnOk.mk' Tryd.func114 (by kernel_rfl) rfl
theorem zero67 : ZeroT Tryd.prog 67 (.agg ([.int .u64 0, .int .u64 0, .int .u64 0, .int .u64 0, .int .u64 0, .int .u64 0, .int .u64 0, .int .u64 0]).toArray) := (by unfold ZeroT; kernel_rfl)
theorem sz67 : SizeT Tryd.prog 67 8 := (by unfold SizeT; kernel_rfl)
theorem sz22 : SizeT Tryd.prog 22 1 := (by unfold SizeT; kernel_rfl)
theorem arr67 : ArrT Tryd.prog 67 8 22 1 := ⟨Tryd.underlying67, sz22⟩
theorem fok107 : FnOk Tryd.prog 107 := FnOk.mk' Tryd.func107 (by kernel_rfl) rfl
theorem one22 : OneT Tryd.prog 22 := ⟨⟨_, Tryd.underlying22, rfl⟩, by kernel_rfl⟩

theorem Parse (w : World) (ss : List Nat) (hs : Dg ss) :
    Calls Tryd.prog 101 [.string (bstr ss)].toArray w fun e w' => e = .returned (.tuple #[W (parseN ss).1, .int .i64 ((parseN ss).2 : Int)]) ∧ WS w [] [] w' := by
  refine calls_of_T [] 75 [] Tryd.func101 rfl Tryd.ntmps101 (by simp) (WS.refl _ _) ?_
  refine T.seq ?_
  refine T.text [.l, .l] rfl ?_
  refine J.alloc 2 rfl zero24 [.int .u64 0, .int .u64 0, .int .u64 0, .int .u64 0] rfl rfl (fun g2 hg2 => ?_)
  refine J.assign rfl rfl ?_
  refine J.end ?_
  refine X.then ?_
  refine T.seq ?_
  refine T.seq ?_
  refine T.text [.l, .l, .l] rfl ?_
  refine J.move rfl rfl ?_
  refine J.lenStr Tryd.underlying9 rfl rfl ?_
  refine J.as 12 (.int .i64 ((ss.length : Nat) : Int)) rfl (by rw [bstr_size]) ?_
  refine J.gtr rfl rfl rfl rfl ?_
  refine J.end ?_
  refine X.then ?_
  refine T.cond_dec rfl (fun h1 => ?_) (fun h1 => ?_)
  · skip
    refine T.seq ?_
    refine T.text [.l, .l, .l] rfl ?_
    refine J.build rfl rfl (W 0) (fun w => by kernel_rfl) ?_
    refine J.store 2 rfl rfl rfl rfl (wc 0) rfl sz24 (by first | decide | exact Nat.le_refl _ | exact Nat.le_of_ble_eq_true rfl | (simp [rowN]; done) | (simp [rowN]; omega)) (by first | exact rowN_one _ _ | (simp; done) | (intro u hu; simp at hu; subst hu; rfl) | (intro u hu; simp at hu; rcases hu with rfl | rfl <;> rfl)) (by first | decide | exact Nat.zero_lt_succ _ | simp) trivial (wc 0) rfl ?_
    refine J.assign rfl rfl ?_
    refine J.end ?_
    refine X.then ?_
    refine T.ret ?_
    refine X.then_ret ?_
    exact X.ret2 rfl (RV.agg 2 rfl rfl agg24 (wc 0) (by rfl) (by rfl) rfl) (RV.tmp rfl) (fun w' hw' => by first | (exact ⟨ret_parse (a := 0) (c := 2) (parseN_long (by omega)), hw'.sub (Sub.nil _)⟩) | (exact ⟨ret_parse (a := 0) (c := 10) (parseN_hexlong (by omega) ((hexP_take ss).1 (by assumption)) (by first | omega | (rw [List.length_drop] at *; omega))), hw'.sub (Sub.nil _)⟩) | (exact ⟨ret_parse (a := 0) (c := 10) ((parseN_hex (by omega) ((hexP_take ss).1 (by assumption)) (by first | omega | (rw [List.length_drop] at *; omega))).trans (bodyN_bad (fun q => q.1 (List.length_eq_zero_iff.1 (by omega))))), hw'.sub (Sub.nil _)⟩) | (exact ⟨ret_parse (a := 0) (c := 10) ((parseN_hex (by omega) ((hexP_take ss).1 (by assumption)) (by first | omega | (rw [List.length_drop] at *; omega))).trans (bodyN_bad hbad)), hw'.sub (Sub.nil _)⟩) | (exact ⟨ret_parse (a := 0) (c := 10) ((parseN_hex (by omega) ((hexP_take ss).1 (by assumption)) (by first | omega | (rw [List.length_drop] at *; omega))).trans (bodyN_big hbig)), hw'.sub (Sub.nil _)⟩) | (exact ⟨ret_parse (a := numV 16 (ss.drop 2)) (c := 0) ((parseN_hex (by omega) ((hexP_take ss).1 (by assumption)) (by first | omega | (rw [List.length_drop] at *; omega))).trans (bodyN_ok hgood hval)), hw'.sub (Sub.nil _)⟩) | (exact ⟨ret_parse (a := 0) (c := 10) ((parseN_dec (by omega) (by first | exact fun q => absurd ((hexP_take ss).2 q) (by assumption) | exact fun q => by unfold hexP at q; omega)).trans (bodyN_bad (fun q => q.1 (List.length_eq_zero_iff.1 (by omega))))), hw'.sub (Sub.nil _)⟩) | (exact ⟨ret_parse (a := 0) (c := 10) ((parseN_dec (by omega) (by first | exact fun q => absurd ((hexP_take ss).2 q) (by assumption) | exact fun q => by unfold hexP at q; omega)).trans (bodyN_bad hbad)), hw'.sub (Sub.nil _)⟩) | (exact ⟨ret_parse (a := 0) (c := 10) ((parseN_dec (by omega) (by first | exact fun q => absurd ((hexP_take ss).2 q) (by assumption) | exact fun q => by unfold hexP at q; omega)).trans (bodyN_big hbig)), hw'.sub (Sub.nil _)⟩) | (exact ⟨ret_parse (a := numV 10 ss) (c := 0) ((parseN_dec (by omega) (by first | exact fun q => absurd ((hexP_take ss).2 q) (by assumption) | exact fun q => by unfold hexP at q; omega)).trans (bodyN_ok hgood hval)), hw'.sub (Sub.nil _)⟩))
  · skip
    refine T.skip ?_
    refine X.then ?_
    refine T.seq ?_
    refine T.text [.l] rfl ?_
    refine J.assign rfl rfl ?_
    refine J.end ?_
    refine X.then ?_
    refine T.seq ?_
    refine T.seq ?_
    refine T.text [.l, .l, .l, .l, .l, .l, .l, .l] rfl ?_
    refine J.move rfl rfl ?_
    refine J.lenStr Tryd.underlying9 rfl rfl ?_
    refine J.as 16 (.int .i64 ((ss.length : Nat) : Int)) rfl (by rw [bstr_size]) ?_
    refine J.gtr rfl rfl rfl rfl ?_
    refine J.move rfl rfl ?_
    refine J.split 18 rfl (fun h2 => ?_) (fun h2 => ?_)
    · skip
      refine J.yes rfl rfl ?_
      refine J.move rfl rfl ?_
      refine J.yes rfl rfl ?_
      refine J.sliceStr Tryd.underlying9 rfl optInt.none (optInt.some rfl (by omega) (by rfl)) (by omega) (by rw [bstr_size]; omega) rfl ?_
      refine J.as 20 (.string (bstr (ss.take 2))) rfl (by exact congrArg Value.string (bstr_take ss 2 (by omega))) ?_
      refine J.yes rfl rfl ?_
      refine J.eqStr (xs := (ss.take 2)) (ys := [48, 120]) rfl rfl rfl (dg_take hs 2) dg_0x ?_
      refine J.pick_t rfl rfl rfl ?_
      refine J.end ?_
      refine X.then ?_
      refine T.cond_dec rfl (fun h3 => ?_) (fun h3 => ?_)
      · skip
        refine T.draw [] [(0, .g), (1, .g), (2, .g), (3, .g)] (by kernel_rfl) (by kernel_rfl) ?_ (by repeat (first | exact Sub.nil _ | refine Sub.cons (by first | rfl | (rw [dgs_zero]; rfl) | (rw [List.drop_length]; rfl) | (simp; done) | (congr 2; omega) | (congr 3; omega)) ?_))
        refine J.move rfl rfl ?_
        refine J.sliceStr Tryd.underlying9 rfl (optInt.some rfl (by omega) (by rfl)) optInt.none (by rw [bstr_size]; omega) (by first | omega | (rw [bstr_size]; omega)) rfl ?_
        refine J.as 24 (.string (bstr (ss.drop 2))) rfl (by exact congrArg Value.string (bstr_drop ss 2 (by omega))) ?_
        refine J.assign rfl rfl ?_
        refine J.assign rfl rfl ?_
        refine J.end ?_
        refine X.then ?_
        refine T.seq ?_
        refine T.seq ?_
        refine T.text [.l, .l, .l, .l, .l, .l, .l, .l, .l, .l, .l, .l] rfl ?_
        refine J.move rfl rfl ?_
        refine J.lenStr Tryd.underlying9 rfl rfl ?_
        refine J.as 26 (.int .i64 (((ss.drop 2).length : Nat) : Int)) rfl (by rw [bstr_size]) ?_
        refine J.eql rfl rfl rfl rfl ?_
        refine J.move rfl rfl ?_
        refine J.split 28 rfl (fun h4 => ?_) (fun h4 => ?_)
        · skip
          refine J.no rfl rfl rfl rfl ?_
          refine J.no rfl rfl rfl rfl ?_
          refine J.no rfl rfl rfl rfl ?_
          refine J.noU rfl rfl rfl ?_
          refine J.noU rfl rfl rfl ?_
          refine J.noU rfl rfl rfl ?_
          refine J.no rfl rfl rfl rfl ?_
          refine J.pick_t rfl rfl rfl ?_
          refine J.end ?_
          refine X.then ?_
          refine T.cond_true rfl ?_
          refine T.seq ?_
          refine T.text [.l, .l, .l] rfl ?_
          refine J.build rfl rfl (W 0) (fun w => by kernel_rfl) ?_
          refine J.store 2 rfl rfl rfl rfl (wc 0) rfl sz24 (by first | decide | exact Nat.le_refl _ | exact Nat.le_of_ble_eq_true rfl | (simp [rowN]; done) | (simp [rowN]; omega)) (by first | exact rowN_one _ _ | (simp; done) | (intro u hu; simp at hu; subst hu; rfl) | (intro u hu; simp at hu; rcases hu with rfl | rfl <;> rfl)) (by first | decide | exact Nat.zero_lt_succ _ | simp) trivial (wc 0) rfl ?_
          refine J.assign rfl rfl ?_
          refine J.end ?_
          refine X.then ?_
          refine T.ret ?_
          refine X.then_ret ?_
          exact X.ret2 rfl (RV.agg 2 rfl rfl agg24 (wc 0) (by rfl) (by rfl) rfl) (RV.tmp rfl) (fun w' hw' => by first | (exact ⟨ret_parse (a := 0) (c := 2) (parseN_long (by omega)), hw'.sub (Sub.nil _)⟩) | (exact ⟨ret_parse (a := 0) (c := 10) (parseN_hexlong (by omega) ((hexP_take ss).1 (by assumption)) (by first | omega | (rw [List.length_drop] at *; omega))), hw'.sub (Sub.nil _)⟩) | (exact ⟨ret_parse (a := 0) (c := 10) ((parseN_hex (by omega) ((hexP_take ss).1 (by assumption)) (by first | omega | (rw [List.length_drop] at *; omega))).trans (bodyN_bad (fun q => q.1 (List.length_eq_zero_iff.1 (by omega))))), hw'.sub (Sub.nil _)⟩) | (exact ⟨ret_parse (a := 0) (c := 10) ((parseN_hex (by omega) ((hexP_take ss).1 (by assumption)) (by first | omega | (rw [List.length_drop] at *; omega))).trans (bodyN_bad hbad)), hw'.sub (Sub.nil _)⟩) | (exact ⟨ret_parse (a := 0) (c := 10) ((parseN_hex (by omega) ((hexP_take ss).1 (by assumption)) (by first | omega | (rw [List.length_drop] at *; omega))).trans (bodyN_big hbig)), hw'.sub (Sub.nil _)⟩) | (exact ⟨ret_parse (a := numV 16 (ss.drop 2)) (c := 0) ((parseN_hex (by omega) ((hexP_take ss).1 (by assumption)) (by first | omega | (rw [List.length_drop] at *; omega))).trans (bodyN_ok hgood hval)), hw'.sub (Sub.nil _)⟩) | (exact ⟨ret_parse (a := 0) (c := 10) ((parseN_dec (by omega) (by first | exact fun q => absurd ((hexP_take ss).2 q) (by assumption) | exact fun q => by unfold hexP at q; omega)).trans (bodyN_bad (fun q => q.1 (List.length_eq_zero_iff.1 (by omega))))), hw'.sub (Sub.nil _)⟩) | (exact ⟨ret_parse (a := 0) (c := 10) ((parseN_dec (by omega) (by first | exact fun q => absurd ((hexP_take ss).2 q) (by assumption) | exact fun q => by unfold hexP at q; omega)).trans (bodyN_bad hbad)), hw'.sub (Sub.nil _)⟩) | (exact ⟨ret_parse (a := 0) (c := 10) ((parseN_dec (by omega) (by first | exact fun q => absurd ((hexP_take ss).2 q) (by assumption) | exact fun q => by unfold hexP at q; omega)).trans (bodyN_big hbig)), hw'.sub (Sub.nil _)⟩) | (exact ⟨ret_parse (a := numV 10 ss) (c := 0) ((parseN_dec (by omega) (by first | exact fun q => absurd ((hexP_take ss).2 q) (by assumption) | exact fun q => by unfold hexP at q; omega)).trans (bodyN_ok hgood hval)), hw'.sub (Sub.nil _)⟩))
        · skip
          refine J.yes rfl rfl ?_
          refine J.move rfl rfl ?_
          refine J.yes rfl rfl ?_
          refine J.eql rfl rfl rfl rfl ?_
          refine J.yes rfl rfl ?_
          refine J.move rfl rfl ?_
          refine J.split 31 rfl (fun h5 => ?_) (fun h5 => ?_)
          · skip
            refine J.yes rfl rfl ?_
            refine J.move rfl rfl ?_
            refine J.yes rfl rfl ?_
            refine J.lenStr Tryd.underlying9 rfl rfl ?_
            refine J.as 33 (.int .i64 (((ss.drop 2).length : Nat) : Int)) rfl (by rw [bstr_size]) ?_
            refine J.yes rfl rfl ?_
            refine J.gtr rfl rfl rfl rfl ?_
            refine J.yes rfl rfl ?_
            refine J.pick_t rfl rfl rfl ?_
            refine J.pick_f rfl rfl rfl ?_
            refine J.end ?_
            refine X.then ?_
            refine T.cond_dec rfl (fun h6 => ?_) (fun h6 => ?_)
            · skip
              refine T.seq ?_
              refine T.text [.l, .l, .l] rfl ?_
              refine J.build rfl rfl (W 0) (fun w => by kernel_rfl) ?_
              refine J.store 2 rfl rfl rfl rfl (wc 0) rfl sz24 (by first | decide | exact Nat.le_refl _ | exact Nat.le_of_ble_eq_true rfl | (simp [rowN]; done) | (simp [rowN]; omega)) (by first | exact rowN_one _ _ | (simp; done) | (intro u hu; simp at hu; subst hu; rfl) | (intro u hu; simp at hu; rcases hu with rfl | rfl <;> rfl)) (by first | decide | exact Nat.zero_lt_succ _ | simp) trivial (wc 0) rfl ?_
              refine J.assign rfl rfl ?_
              refine J.end ?_
              refine X.then ?_
              refine T.ret ?_
              refine X.then_ret ?_
              exact X.ret2 rfl (RV.agg 2 rfl rfl agg24 (wc 0) (by rfl) (by rfl) rfl) (RV.tmp rfl) (fun w' hw' => by first | (exact ⟨ret_parse (a := 0) (c := 2) (parseN_long (by omega)), hw'.sub (Sub.nil _)⟩) | (exact ⟨ret_parse (a := 0) (c := 10) (parseN_hexlong (by omega) ((hexP_take ss).1 (by assumption)) (by first | omega | (rw [List.length_drop] at *; omega))), hw'.sub (Sub.nil _)⟩) | (exact ⟨ret_parse (a := 0) (c := 10) ((parseN_hex (by omega) ((hexP_take ss).1 (by assumption)) (by first | omega | (rw [List.length_drop] at *; omega))).trans (bodyN_bad (fun q => q.1 (List.length_eq_zero_iff.1 (by omega))))), hw'.sub (Sub.nil _)⟩) | (exact ⟨ret_parse (a := 0) (c := 10) ((parseN_hex (by omega) ((hexP_take ss).1 (by assumption)) (by first | omega | (rw [List.length_drop] at *; omega))).trans (bodyN_bad hbad)), hw'.sub (Sub.nil _)⟩) | (exact ⟨ret_parse (a := 0) (c := 10) ((parseN_hex (by omega) ((hexP_take ss).1 (by assumption)) (by first | omega | (rw [List.length_drop] at *; omega))).trans (bodyN_big hbig)), hw'.sub (Sub.nil _)⟩) | (exact ⟨ret_parse (a := numV 16 (ss.drop 2)) (c := 0) ((parseN_hex (by omega) ((hexP_take ss).1 (by assumption)) (by first | omega | (rw [List.length_drop] at *; omega))).trans (bodyN_ok hgood hval)), hw'.sub (Sub.nil _)⟩) | (exact ⟨ret_parse (a := 0) (c := 10) ((parseN_dec (by omega) (by first | exact fun q => absurd ((hexP_take ss).2 q) (by assumption) | exact fun q => by unfold hexP at q; omega)).trans (bodyN_bad (fun q => q.1 (List.length_eq_zero_iff.1 (by omega))))), hw'.sub (Sub.nil _)⟩) | (exact ⟨ret_parse (a := 0) (c := 10) ((parseN_dec (by omega) (by first | exact fun q => absurd ((hexP_take ss).2 q) (by assumption) | exact fun q => by unfold hexP at q; omega)).trans (bodyN_bad hbad)), hw'.sub (Sub.nil _)⟩) | (exact ⟨ret_parse (a := 0) (c := 10) ((parseN_dec (by omega) (by first | exact fun q => absurd ((hexP_take ss).2 q) (by assumption) | exact fun q => by unfold hexP at q; omega)).trans (bodyN_big hbig)), hw'.sub (Sub.nil _)⟩) | (exact ⟨ret_parse (a := numV 10 ss) (c := 0) ((parseN_dec (by omega) (by first | exact fun q => absurd ((hexP_take ss).2 q) (by assumption) | exact fun q => by unfold hexP at q; omega)).trans (bodyN_ok hgood hval)), hw'.sub (Sub.nil _)⟩))
            · skip
              refine T.skip ?_
              refine X.then ?_
              refine T.seq ?_
              refine T.text [.l] rfl ?_
              refine J.alloc 5 rfl zero24 [.int .u64 0, .int .u64 0, .int .u64 0, .int .u64 0] rfl rfl (fun g5 hg5 => ?_)
              refine J.end ?_
              refine X.then ?_
              refine T.seq ?_
              refine T.seq ?_
              refine T.text [.l, .l, .l] rfl ?_
              refine J.move rfl rfl ?_
              refine J.lenStr Tryd.underlying9 rfl rfl ?_
              refine J.as 39 (.int .i64 (((ss.drop 2).length : Nat) : Int)) rfl (by rw [bstr_size]) ?_
              refine J.move rfl rfl ?_
              refine J.end ?_
              refine X.then ?_
              refine T.block ?_
              refine T.asE 5 ⟨some g5, 24, wc (numV 16 ((ss.drop 2).take 0))⟩ rfl (by simp only [List.take_zero, numV, List.foldl_nil]; rfl) ?_
              refine T.loop (ι := Nat) (fun (j : Nat) => j ≤ (ss.drop 2).length ∧ numV 16 ((ss.drop 2).take j) < 2 ^ 256 ∧ (∀ q, q < j → okD 16 ((ss.drop 2).getD q 0))) (fun (j : Nat) => [(0, .string (bstr (ss.drop 2))), (2, .pointer (some ⟨g2, 0, none⟩)), (11, .string (bstr ss)), (12, .int .i64 ((ss.length : Nat) : Int)), (4, .int .u64 16), (15, .string (bstr ss)), (16, .int .i64 ((ss.length : Nat) : Int)), (18, .bool true), (19, .string (bstr ss)), (20, .string (bstr (ss.take 2))), (23, .string (bstr ss)), (24, .string (bstr (ss.drop 2))), (25, .string (bstr (ss.drop 2))), (26, .int .i64 (((ss.drop 2).length : Nat) : Int)), (28, .bool false), (29, .int .u64 16), (31, .bool true), (32, .string (bstr (ss.drop 2))), (33, .int .i64 (((ss.drop 2).length : Nat) : Int)), (5, .pointer (some ⟨g5, 0, none⟩)), (38, .string (bstr (ss.drop 2))), (39, .int .i64 (((ss.drop 2).length : Nat) : Int)), (40, .int .i64 (j : Int))]) (fun (j : Nat) => [(2, ⟨some g2, 24, [.int .u64 0, .int .u64 0, .int .u64 0, .int .u64 0]⟩), (5, ⟨some g5, 24, wc (numV 16 ((ss.drop 2).take j))⟩)]) (fun (j : Nat) => (ss.drop 2).length - j) 0 ⟨Nat.zero_le _, by simp [numV], fun q hq => by omega⟩ (by repeat (first | exact Sub.nil _ | refine Sub.cons (by first | rfl | (rw [dgs_zero]; rfl) | (rw [List.drop_length]; rfl) | (simp; done) | (congr 2; omega) | (congr 3; omega)) ?_)) (by repeat (first | exact Sub.nil _ | refine Sub.cons (by first | rfl | (rw [dgs_zero]; rfl) | (rw [List.drop_length]; rfl) | (simp; done) | (congr 2; omega) | (congr 3; omega)) ?_)) ?_
              rintro j ⟨hj, hv, hok⟩
              refine T.seq ?_
              refine T.text [.l] rfl ?_
              refine J.lss rfl rfl rfl rfl ?_
              refine J.end ?_
              refine X.then ?_
              refine T.seq ?_
              refine T.cond_dec rfl (fun h7 => ?_) (fun h7 => ?_)
              · have hjl : j < (ss.drop 2).length := by omega
                have hs2 : Dg (ss.drop 2) := Dg.drop hs 2
                have hcl := hs2.getD j
                have hvt := numV_take 16 (ss.drop 2) j hjl
                refine T.skip ?_
                refine X.then ?_
                refine T.seq ?_
                refine T.block ?_
                refine T.seq ?_
                refine T.text [.l, .l] rfl ?_
                refine J.move rfl rfl ?_
                refine J.assign rfl rfl ?_
                refine J.end ?_
                refine X.then ?_
                refine T.seq ?_
                refine T.text [.l, .l, .l, .l, .l] rfl ?_
                refine J.move rfl rfl ?_
                refine J.move rfl rfl ?_
                refine J.indexStr Tryd.underlying9 rfl rfl (by omega) (by first | exact Int.toNat_natCast _ | rfl) (bstr_get (ss.drop 2) j (by omega)) rfl ?_
                refine J.as 45 (.int .u8 (((ss.drop 2).getD j 0 : Nat) : Int)) rfl (by rw [chr_dg hs2]) ?_
                refine J.call0 (k := .l) trivial fok137 rfl rfl (fun w hw => Wx.digit w _ (by omega)) ?_
                refine J.assign rfl rfl ?_
                refine J.end ?_
                refine X.then ?_
                refine T.seq ?_
                refine T.seq ?_
                refine T.text [.l, .l, .l] rfl ?_
                refine J.move rfl rfl ?_
                refine J.move rfl rfl ?_
                refine J.geq rfl rfl rfl rfl ?_
                refine J.end ?_
                refine X.then ?_
                refine T.cond_dec rfl (fun h8 => ?_) (fun h8 => ?_)
                · have hbad : ¬ okS 16 (ss.drop 2) := okS_no hjl (fun q => by have := (digU_ok (by omega)).1 q; omega)
                  refine T.seq ?_
                  refine T.text [.l, .l, .l] rfl ?_
                  refine J.build rfl rfl (W 0) (fun w => by kernel_rfl) ?_
                  refine J.store 2 rfl rfl rfl rfl (wc 0) rfl sz24 (by first | decide | exact Nat.le_refl _ | exact Nat.le_of_ble_eq_true rfl | (simp [rowN]; done) | (simp [rowN]; omega)) (by first | exact rowN_one _ _ | (simp; done) | (intro u hu; simp at hu; subst hu; rfl) | (intro u hu; simp at hu; rcases hu with rfl | rfl <;> rfl)) (by first | decide | exact Nat.zero_lt_succ _ | simp) trivial (wc 0) rfl ?_
                  refine J.assign rfl rfl ?_
                  refine J.end ?_
                  refine X.then ?_
                  refine T.ret ?_
                  refine X.then_ret (X.inBlock_ret (X.then_ret (X.then_ret (X.inBlock_ret (X.then_ret ?_)))))
                  exact X.ret2 rfl (RV.agg 2 rfl rfl agg24 (wc 0) (by rfl) (by rfl) rfl) (RV.tmp rfl) (fun w' hw' => by first | (exact ⟨ret_parse (a := 0) (c := 2) (parseN_long (by omega)), hw'.sub (Sub.nil _)⟩) | (exact ⟨ret_parse (a := 0) (c := 10) (parseN_hexlong (by omega) ((hexP_take ss).1 (by assumption)) (by first | omega | (rw [List.length_drop] at *; omega))), hw'.sub (Sub.nil _)⟩) | (exact ⟨ret_parse (a := 0) (c := 10) ((parseN_hex (by omega) ((hexP_take ss).1 (by assumption)) (by first | omega | (rw [List.length_drop] at *; omega))).trans (bodyN_bad (fun q => q.1 (List.length_eq_zero_iff.1 (by omega))))), hw'.sub (Sub.nil _)⟩) | (exact ⟨ret_parse (a := 0) (c := 10) ((parseN_hex (by omega) ((hexP_take ss).1 (by assumption)) (by first | omega | (rw [List.length_drop] at *; omega))).trans (bodyN_bad hbad)), hw'.sub (Sub.nil _)⟩) | (exact ⟨ret_parse (a := 0) (c := 10) ((parseN_hex (by omega) ((hexP_take ss).1 (by assumption)) (by first | omega | (rw [List.length_drop] at *; omega))).trans (bodyN_big hbig)), hw'.sub (Sub.nil _)⟩) | (exact ⟨ret_parse (a := numV 16 (ss.drop 2)) (c := 0) ((parseN_hex (by omega) ((hexP_take ss).1 (by assumption)) (by first | omega | (rw [List.length_drop] at *; omega))).trans (bodyN_ok hgood hval)), hw'.sub (Sub.nil _)⟩) | (exact ⟨ret_parse (a := 0) (c := 10) ((parseN_dec (by omega) (by first | exact fun q => absurd ((hexP_take ss).2 q) (by assumption) | exact fun q => by unfold hexP at q; omega)).trans (bodyN_bad (fun q => q.1 (List.length_eq_zero_iff.1 (by omega))))), hw'.sub (Sub.nil _)⟩) | (exact ⟨ret_parse (a := 0) (c := 10) ((parseN_dec (by omega) (by first | exact fun q => absurd ((hexP_take ss).2 q) (by assumption) | exact fun q => by unfold hexP at q; omega)).trans (bodyN_bad hbad)), hw'.sub (Sub.nil _)⟩) | (exact ⟨ret_parse (a := 0) (c := 10) ((parseN_dec (by omega) (by first | exact fun q => absurd ((hexP_take ss).2 q) (by assumption) | exact fun q => by unfold hexP at q; omega)).trans (bodyN_big hbig)), hw'.sub (Sub.nil _)⟩) | (exact ⟨ret_parse (a := numV 10 ss) (c := 0) ((parseN_dec (by omega) (by first | exact fun q => absurd ((hexP_take ss).2 q) (by assumption) | exact fun q => by unfold hexP at q; omega)).trans (bodyN_ok hgood hval)), hw'.sub (Sub.nil _)⟩))
                · have hokj : okD 16 ((ss.drop 2).getD j 0) := (digU_ok (by omega)).2 (by omega)
                  have hdg := digU_eq hokj
                  refine T.skip ?_
                  refine X.then ?_
                  refine T.seq ?_
                  refine T.text [.l, .l, .l, .l, .l, .l] rfl ?_
                  refine J.loadN (k := .l) trivial 5 rfl rfl agg24 (wc (numV 16 ((ss.drop 2).take j))) rfl rfl rfl ?_
                  refine J.move rfl rfl ?_
                  refine J.build rfl rfl (.agg ([.int .u64 ((16 : Nat) : Int), .int .u64 0, .int .u64 0, .int .u64 0] : List Value).toArray) (fun w => by kernel_rfl) ?_
                  refine J.as 53 (W (16)) rfl (W_small (by first | omega | (refine ⟨?_, ?_, ?_, ?_⟩ <;> omega))) ?_
                  refine J.call0 (k := .l) trivial fok114 rfl rfl (fun w hw => Wb.times w _ _) ?_
                  refine J.alloc 8 rfl zero67 [.int .u64 0, .int .u64 0, .int .u64 0, .int .u64 0, .int .u64 0, .int .u64 0, .int .u64 0, .int .u64 0] rfl rfl (fun g8 hg8 => ?_)
                  refine J.store 8 rfl rfl rfl rfl (lc (((numV 16 ((ss.drop 2).take j))) % 2 ^ 256 * ((16) % 2 ^ 256))) rfl sz67 (by first | decide | exact Nat.le_refl _ | exact Nat.le_of_ble_eq_true rfl | (simp [rowN]; done) | (simp [rowN]; omega)) (by first | exact rowN_one _ _ | (simp; done) | (intro u hu; simp at hu; subst hu; rfl) | (intro u hu; simp at hu; rcases hu with rfl | rfl <;> rfl)) (by first | decide | exact Nat.zero_lt_succ _ | simp) trivial (lc (((numV 16 ((ss.drop 2).take j))) % 2 ^ 256 * ((16) % 2 ^ 256))) rfl ?_
                  refine J.end ?_
                  refine X.then ?_
                  refine T.seq ?_
                  refine T.text [.l, .l, .l, .l, .l, .l, .l, .l, .l, .l, .l, .l] rfl ?_
                  refine J.sliceArr arr67 rfl optInt.none (optInt.some rfl (by omega) (by rfl)) optInt.none (by simp) (by omega) (by omega) (by omega) rfl rfl ?_
                  refine J.toArr Tryd.underlying24 rfl (by decide) rfl ?_
                  refine J.loadW (k := .l) trivial 8 rfl rfl agg24 (by first | rfl | with_reducible exact rowW_seg0 _ _ _ (by omega) | with_reducible exact rowW_seg00 _ _ (by omega) | with_reducible exact rowW_segs _ _ _ (by omega) | with_reducible exact rowW_seg _ _ (by omega) | with_reducible exact rowW_segb _ _ _ (by omega) | exact rowW_seg _ _ (by omega) | exact rowW_segs _ _ _ (by omega)) rfl ?_
                  refine J.move rfl rfl ?_
                  refine J.build rfl rfl (.agg ([.int .u64 ((digU ((ss.drop 2).getD j 0) : Nat) : Int), .int .u64 0, .int .u64 0, .int .u64 0] : List Value).toArray) (fun w => by kernel_rfl) ?_
                  refine J.as 60 (W (digU ((ss.drop 2).getD j 0))) rfl (W_small (by first | omega | (refine ⟨?_, ?_, ?_, ?_⟩ <;> omega))) ?_
                  refine J.call0 (k := .l) trivial fok107 rfl rfl (fun w hw => Wa.plus w _ _) ?_
                  refine J.move rfl rfl ?_
                  refine J.extract rfl rfl rfl ?_
                  refine J.extract rfl rfl rfl ?_
                  refine J.alloc 9 rfl zero24 [.int .u64 0, .int .u64 0, .int .u64 0, .int .u64 0] rfl rfl (fun g9 hg9 => ?_)
                  refine J.store 9 rfl rfl rfl rfl _ rfl sz24 (by first | decide | exact Nat.le_refl _ | exact Nat.le_of_ble_eq_true rfl | (simp [rowN]; done) | (simp [rowN]; omega)) (by first | exact rowN_one _ _ | (simp; done) | (intro u hu; simp at hu; subst hu; rfl) | (intro u hu; simp at hu; rcases hu with rfl | rfl <;> rfl)) (by first | decide | exact Nat.zero_lt_succ _ | simp) trivial _ rfl ?_
                  refine J.assign rfl rfl ?_
                  refine J.end ?_
                  refine X.then ?_
                  refine T.seq ?_
                  refine T.seq ?_
                  refine T.text [.l, .l, .l, .l, .l, .l, .l] rfl ?_
                  refine J.indexArr arr67 rfl rfl (by omega) (by omega) (by rfl) rfl ?_
                  refine J.load1 (k := .l) trivial 8 rfl rfl one22 (by first | rfl | with_reducible exact rowN_get0 _ _ _ (by omega) | with_reducible exact rowN_get1 _ _ _ (by omega) | with_reducible exact rowN_get1s _ _ _ _ (by omega) | exact rowN_get1 _ _ _ (by omega) | exact rowN_get1s _ _ _ _ (by omega) | exact rowN_get0 _ _ _ (by omega)) rfl ?_
                  refine J.gtr rfl rfl rfl rfl ?_
                  refine J.move rfl rfl ?_
                  refine J.split 67 rfl (fun h9 => ?_) (fun h9 => ?_)
                  · have hbig := numV_big (b := 16) (ss := (ss.drop 2)) (by decide) (show j + 1 ≤ _ by omega) (by rw [hvt, hdg]; exact round_big1 hv (by decide) h9)
                    refine J.no rfl rfl rfl rfl ?_
                    refine J.no rfl rfl rfl rfl ?_
                    refine J.pick_t rfl rfl rfl ?_
                    refine J.end ?_
                    refine X.then ?_
                    refine T.cond_true rfl ?_
                    refine T.seq ?_
                    refine T.text [.l, .l, .l] rfl ?_
                    refine J.build rfl rfl (W 0) (fun w => by kernel_rfl) ?_
                    refine J.store 2 rfl rfl rfl rfl (wc 0) rfl sz24 (by first | decide | exact Nat.le_refl _ | exact Nat.le_of_ble_eq_true rfl | (simp [rowN]; done) | (simp [rowN]; omega)) (by first | exact rowN_one _ _ | (simp; done) | (intro u hu; simp at hu; subst hu; rfl) | (intro u hu; simp at hu; rcases hu with rfl | rfl <;> rfl)) (by first | decide | exact Nat.zero_lt_succ _ | simp) trivial (wc 0) rfl ?_
                    refine J.assign rfl rfl ?_
                    refine J.end ?_
                    refine X.then ?_
                    refine T.ret ?_
                    refine X.then_ret (X.inBlock_ret (X.then_ret (X.then_ret (X.inBlock_ret (X.then_ret ?_)))))
                    exact X.ret2 rfl (RV.agg 2 rfl rfl agg24 (wc 0) (by rfl) (by rfl) rfl) (RV.tmp rfl) (fun w' hw' => by first | (exact ⟨ret_parse (a := 0) (c := 2) (parseN_long (by omega)), hw'.sub (Sub.nil _)⟩) | (exact ⟨ret_parse (a := 0) (c := 10) (parseN_hexlong (by omega) ((hexP_take ss).1 (by assumption)) (by first | omega | (rw [List.length_drop] at *; omega))), hw'.sub (Sub.nil _)⟩) | (exact ⟨ret_parse (a := 0) (c := 10) ((parseN_hex (by omega) ((hexP_take ss).1 (by assumption)) (by first | omega | (rw [List.length_drop] at *; omega))).trans (bodyN_bad (fun q => q.1 (List.length_eq_zero_iff.1 (by omega))))), hw'.sub (Sub.nil _)⟩) | (exact ⟨ret_parse (a := 0) (c := 10) ((parseN_hex (by omega) ((hexP_take ss).1 (by assumption)) (by first | omega | (rw [List.length_drop] at *; omega))).trans (bodyN_bad hbad)), hw'.sub (Sub.nil _)⟩) | (exact ⟨ret_parse (a := 0) (c := 10) ((parseN_hex (by omega) ((hexP_take ss).1 (by assumption)) (by first | omega | (rw [List.length_drop] at *; omega))).trans (bodyN_big hbig)), hw'.sub (Sub.nil _)⟩) | (exact ⟨ret_parse (a := numV 16 (ss.drop 2)) (c := 0) ((parseN_hex (by omega) ((hexP_take ss).1 (by assumption)) (by first | omega | (rw [List.length_drop] at *; omega))).trans (bodyN_ok hgood hval)), hw'.sub (Sub.nil _)⟩) | (exact ⟨ret_parse (a := 0) (c := 10) ((parseN_dec (by omega) (by first | exact fun q => absurd ((hexP_take ss).2 q) (by assumption) | exact fun q => by unfold hexP at q; omega)).trans (bodyN_bad (fun q => q.1 (List.length_eq_zero_iff.1 (by omega))))), hw'.sub (Sub.nil _)⟩) | (exact ⟨ret_parse (a := 0) (c := 10) ((parseN_dec (by omega) (by first | exact fun q => absurd ((hexP_take ss).2 q) (by assumption) | exact fun q => by unfold hexP at q; omega)).trans (bodyN_bad hbad)), hw'.sub (Sub.nil _)⟩) | (exact ⟨ret_parse (a := 0) (c := 10) ((parseN_dec (by omega) (by first | exact fun q => absurd ((hexP_take ss).2 q) (by assumption) | exact fun q => by unfold hexP at q; omega)).trans (bodyN_big hbig)), hw'.sub (Sub.nil _)⟩) | (exact ⟨ret_parse (a := numV 10 ss) (c := 0) ((parseN_dec (by omega) (by first | exact fun q => absurd ((hexP_take ss).2 q) (by assumption) | exact fun q => by unfold hexP at q; omega)).trans (bodyN_ok hgood hval)), hw'.sub (Sub.nil _)⟩))
                  · have hp := h9
                    refine J.yes rfl rfl ?_
                    refine J.move rfl rfl ?_
                    refine J.yes rfl rfl ?_
                    refine J.gtr rfl rfl rfl rfl ?_
                    refine J.pick_f rfl rfl rfl ?_
                    refine J.end ?_
                    refine X.then ?_
                    refine T.cond_dec rfl (fun h10 => ?_) (fun h10 => ?_)
                    · have hbig := numV_big (b := 16) (ss := (ss.drop 2)) (by decide) (show j + 1 ≤ _ by omega) (by rw [hvt, hdg]; exact round_big2 hv (by decide) (by omega) hp h10)
                      refine T.seq ?_
                      refine T.text [.l, .l, .l] rfl ?_
                      refine J.build rfl rfl (W 0) (fun w => by kernel_rfl) ?_
                      refine J.store 2 rfl rfl rfl rfl (wc 0) rfl sz24 (by first | decide | exact Nat.le_refl _ | exact Nat.le_of_ble_eq_true rfl | (simp [rowN]; done) | (simp [rowN]; omega)) (by first | exact rowN_one _ _ | (simp; done) | (intro u hu; simp at hu; subst hu; rfl) | (intro u hu; simp at hu; rcases hu with rfl | rfl <;> rfl)) (by first | decide | exact Nat.zero_lt_succ _ | simp) trivial (wc 0) rfl ?_
                      refine J.assign rfl rfl ?_
                      refine J.end ?_
                      refine X.then ?_
                      refine T.ret ?_
                      refine X.then_ret (X.inBlock_ret (X.then_ret (X.then_ret (X.inBlock_ret (X.then_ret ?_)))))
                      exact X.ret2 rfl (RV.agg 2 rfl rfl agg24 (wc 0) (by rfl) (by rfl) rfl) (RV.tmp rfl) (fun w' hw' => by first | (exact ⟨ret_parse (a := 0) (c := 2) (parseN_long (by omega)), hw'.sub (Sub.nil _)⟩) | (exact ⟨ret_parse (a := 0) (c := 10) (parseN_hexlong (by omega) ((hexP_take ss).1 (by assumption)) (by first | omega | (rw [List.length_drop] at *; omega))), hw'.sub (Sub.nil _)⟩) | (exact ⟨ret_parse (a := 0) (c := 10) ((parseN_hex (by omega) ((hexP_take ss).1 (by assumption)) (by first | omega | (rw [List.length_drop] at *; omega))).trans (bodyN_bad (fun q => q.1 (List.length_eq_zero_iff.1 (by omega))))), hw'.sub (Sub.nil _)⟩) | (exact ⟨ret_parse (a := 0) (c := 10) ((parseN_hex (by omega) ((hexP_take ss).1 (by assumption)) (by first | omega | (rw [List.length_drop] at *; omega))).trans (bodyN_bad hbad)), hw'.sub (Sub.nil _)⟩) | (exact ⟨ret_parse (a := 0) (c := 10) ((parseN_hex (by omega) ((hexP_take ss).1 (by assumption)) (by first | omega | (rw [List.length_drop] at *; omega))).trans (bodyN_big hbig)), hw'.sub (Sub.nil _)⟩) | (exact ⟨ret_parse (a := numV 16 (ss.drop 2)) (c := 0) ((parseN_hex (by omega) ((hexP_take ss).1 (by assumption)) (by first | omega | (rw [List.length_drop] at *; omega))).trans (bodyN_ok hgood hval)), hw'.sub (Sub.nil _)⟩) | (exact ⟨ret_parse (a := 0) (c := 10) ((parseN_dec (by omega) (by first | exact fun q => absurd ((hexP_take ss).2 q) (by assumption) | exact fun q => by unfold hexP at q; omega)).trans (bodyN_bad (fun q => q.1 (List.length_eq_zero_iff.1 (by omega))))), hw'.sub (Sub.nil _)⟩) | (exact ⟨ret_parse (a := 0) (c := 10) ((parseN_dec (by omega) (by first | exact fun q => absurd ((hexP_take ss).2 q) (by assumption) | exact fun q => by unfold hexP at q; omega)).trans (bodyN_bad hbad)), hw'.sub (Sub.nil _)⟩) | (exact ⟨ret_parse (a := 0) (c := 10) ((parseN_dec (by omega) (by first | exact fun q => absurd ((hexP_take ss).2 q) (by assumption) | exact fun q => by unfold hexP at q; omega)).trans (bodyN_big hbig)), hw'.sub (Sub.nil _)⟩) | (exact ⟨ret_parse (a := numV 10 ss) (c := 0) ((parseN_dec (by omega) (by first | exact fun q => absurd ((hexP_take ss).2 q) (by assumption) | exact fun q => by unfold hexP at q; omega)).trans (bodyN_ok hgood hval)), hw'.sub (Sub.nil _)⟩))
                    · have hfin := round_fin hv (by decide) (show digU ((ss.drop 2).getD j 0) < 16 by omega) hp h10
                      have hvn : numV 16 ((ss.drop 2).take (j + 1)) < 2 ^ 256 := by rw [hvt, hdg]; exact hfin.1
                      refine T.asE 9 ⟨some g9, 24, wc (numV 16 ((ss.drop 2).take (j + 1)))⟩ rfl (by rw [hvt, hdg, ← (round_p (d := 0) hv (by decide) hp).1]; rfl) ?_
                      have hok2 := okD_next hok hokj
                      refine T.skip ?_
                      refine X.then ?_
                      refine T.text [.l, .l] rfl ?_
                      refine J.loadN (k := .l) trivial 9 rfl rfl agg24 (wc (numV 16 ((ss.drop 2).take (j + 1)))) rfl rfl rfl ?_
                      refine J.store 5 rfl rfl rfl rfl (wc (numV 16 ((ss.drop 2).take (j + 1)))) rfl sz24 (by first | decide | exact Nat.le_refl _ | exact Nat.le_of_ble_eq_true rfl | (simp [rowN]; done) | (simp [rowN]; omega)) (by first | exact rowN_one _ _ | (simp; done) | (intro u hu; simp at hu; subst hu; rfl) | (intro u hu; simp at hu; rcases hu with rfl | rfl <;> rfl)) (by first | decide | exact Nat.zero_lt_succ _ | simp) trivial (wc (numV 16 ((ss.drop 2).take (j + 1)))) rfl ?_
                      refine J.end ?_
                      refine X.inBlock (X.then ?_)
                      refine T.text [.l, .l] rfl ?_
                      refine J.add rfl rfl rfl (by first | exact add_nat _ 1 (by omega) | exact i64_ok _ (by omega) | exact rfl) ?_
                      refine J.move rfl rfl ?_
                      refine J.end ?_
                      exact X.round (j + 1) ⟨by omega, hvn, hok2⟩ (by first | omega | (dsimp only; omega)) (by repeat (first | exact Sub.nil _ | refine Sub.cons (by first | rfl | (rw [dgs_zero]; rfl) | (rw [List.drop_length]; rfl) | (simp; done) | (congr 2; omega) | (congr 3; omega)) ?_)) (by repeat (first | exact Sub.nil _ | refine Sub.cons (by first | rfl | (rw [dgs_zero]; rfl) | (rw [List.drop_length]; rfl) | (simp; done) | (congr 2; omega) | (congr 3; omega)) ?_))
              · obtain rfl : j = (ss.drop 2).length := by omega
                rw [List.take_length] at hv
                have hgood := okS_yes (by omega) hok
                have hval := hv
                refine T.asE 5 ⟨some g5, 24, wc (numV 16 (ss.drop 2))⟩ rfl (by rw [List.take_length]) ?_
                refine T.exit ?_
                refine X.then_exit (X.then_exit (X.inBlock_eq (X.then ?_)))
                refine T.seq ?_
                refine T.text [.l, .l, .l] rfl ?_
                refine J.loadN (k := .l) trivial 5 rfl rfl agg24 (wc (numV 16 (ss.drop 2))) rfl rfl rfl ?_
                refine J.store 2 rfl rfl rfl rfl (wc (numV 16 (ss.drop 2))) rfl sz24 (by first | decide | exact Nat.le_refl _ | exact Nat.le_of_ble_eq_true rfl | (simp [rowN]; done) | (simp [rowN]; omega)) (by first | exact rowN_one _ _ | (simp; done) | (intro u hu; simp at hu; subst hu; rfl) | (intro u hu; simp at hu; rcases hu with rfl | rfl <;> rfl)) (by first | decide | exact Nat.zero_lt_succ _ | simp) trivial (wc (numV 16 (ss.drop 2))) rfl ?_
                refine J.assign rfl rfl ?_
                refine J.end ?_
                refine X.then ?_
                refine T.ret ?_
                exact X.ret2 rfl (RV.agg 2 rfl rfl agg24 (wc (numV 16 (ss.drop 2))) (by rfl) (by rfl) rfl) (RV.tmp rfl) (fun w' hw' => by first | (exact ⟨ret_parse (a := 0) (c := 2) (parseN_long (by omega)), hw'.sub (Sub.nil _)⟩) | (exact ⟨ret_parse (a := 0) (c := 10) (parseN_hexlong (by omega) ((hexP_take ss).1 (by assumption)) (by first | omega | (rw [List.length_drop] at *; omega))), hw'.sub (Sub.nil _)⟩) | (exact ⟨ret_parse (a := 0) (c := 10) ((parseN_hex (by omega) ((hexP_take ss).1 (by assumption)) (by first | omega | (rw [List.length_drop] at *; omega))).trans (bodyN_bad (fun q => q.1 (List.length_eq_zero_iff.1 (by omega))))), hw'.sub (Sub.nil _)⟩) | (exact ⟨ret_parse (a := 0) (c := 10) ((parseN_hex (by omega) ((hexP_take ss).1 (by assumption)) (by first | omega | (rw [List.length_drop] at *; omega))).trans (bodyN_bad hbad)), hw'.sub (Sub.nil _)⟩) | (exact ⟨ret_parse (a := 0) (c := 10) ((parseN_hex (by omega) ((hexP_take ss).1 (by assumption)) (by first | omega | (rw [List.length_drop] at *; omega))).trans (bodyN_big hbig)), hw'.sub (Sub.nil _)⟩) | (exact ⟨ret_parse (a := numV 16 (ss.drop 2)) (c := 0) ((parseN_hex (by omega) ((hexP_take ss).1 (by assumption)) (by first | omega | (rw [List.length_drop] at *; omega))).trans (bodyN_ok hgood hval)), hw'.sub (Sub.nil _)⟩) | (exact ⟨ret_parse (a := 0) (c := 10) ((parseN_dec (by omega) (by first | exact fun q => absurd ((hexP_take ss).2 q) (by assumption) | exact fun q => by unfold hexP at q; omega)).trans (bodyN_bad (fun q => q.1 (List.length_eq_zero_iff.1 (by omega))))), hw'.sub (Sub.nil _)⟩) | (exact ⟨ret_parse (a := 0) (c := 10) ((parseN_dec (by omega) (by first | exact fun q => absurd ((hexP_take ss).2 q) (by assumption) | exact fun q => by unfold hexP at q; omega)).trans (bodyN_bad hbad)), hw'.sub (Sub.nil _)⟩) | (exact ⟨ret_parse (a := 0) (c := 10) ((parseN_dec (by omega) (by first | exact fun q => absurd ((hexP_take ss).2 q) (by assumption) | exact fun q => by unfold hexP at q; omega)).trans (bodyN_big hbig)), hw'.sub (Sub.nil _)⟩) | (exact ⟨ret_parse (a := numV 10 ss) (c := 0) ((parseN_dec (by omega) (by first | exact fun q => absurd ((hexP_take ss).2 q) (by assumption) | exact fun q => by unfold hexP at q; omega)).trans (bodyN_ok hgood hval)), hw'.sub (Sub.nil _)⟩))
          · skip
            refine J.no rfl rfl rfl rfl ?_
            refine J.no rfl rfl rfl rfl ?_
            refine J.no rfl rfl rfl rfl ?_
            refine J.yes rfl rfl ?_
            refine J.pick_f rfl rfl rfl ?_
            refine J.pick_f rfl rfl rfl ?_
            refine J.end ?_
            refine X.then ?_
            refine T.cond_false rfl ?_
            refine T.skip ?_
            refine X.then ?_
            refine T.seq ?_
            refine T.text [.l] rfl ?_
            refine J.alloc 5 rfl zero24 [.int .u64 0, .int .u64 0, .int .u64 0, .int .u64 0] rfl rfl (fun g5 hg5 => ?_)
            refine J.end ?_
            refine X.then ?_
            refine T.seq ?_
            refine T.seq ?_
            refine T.text [.l, .l, .l] rfl ?_
            refine J.move rfl rfl ?_
            refine J.lenStr Tryd.underlying9 rfl rfl ?_
            refine J.as 39 (.int .i64 (((ss.drop 2).length : Nat) : Int)) rfl (by rw [bstr_size]) ?_
            refine J.move rfl rfl ?_
            refine J.end ?_
            refine X.then ?_
            refine T.block ?_
            refine T.asE 5 ⟨some g5, 24, wc (numV 16 ((ss.drop 2).take 0))⟩ rfl (by simp only [List.take_zero, numV, List.foldl_nil]; rfl) ?_
            refine T.loop (ι := Nat) (fun (j : Nat) => j ≤ (ss.drop 2).length ∧ numV 16 ((ss.drop 2).take j) < 2 ^ 256 ∧ (∀ q, q < j → okD 16 ((ss.drop 2).getD q 0))) (fun (j : Nat) => [(0, .string (bstr (ss.drop 2))), (2, .pointer (some ⟨g2, 0, none⟩)), (11, .string (bstr ss)), (12, .int .i64 ((ss.length : Nat) : Int)), (4, .int .u64 16), (15, .string (bstr ss)), (16, .int .i64 ((ss.length : Nat) : Int)), (18, .bool true), (19, .string (bstr ss)), (20, .string (bstr (ss.take 2))), (23, .string (bstr ss)), (24, .string (bstr (ss.drop 2))), (25, .string (bstr (ss.drop 2))), (26, .int .i64 (((ss.drop 2).length : Nat) : Int)), (28, .bool false), (29, .int .u64 16), (31, .bool false), (32, undef), (33, undef), (34, undef), (35, .bool false), (36, .bool false), (5, .pointer (some ⟨g5, 0, none⟩)), (38, .string (bstr (ss.drop 2))), (39, .int .i64 (((ss.drop 2).length : Nat) : Int)), (40, .int .i64 (j : Int))]) (fun (j : Nat) => [(2, ⟨some g2, 24, [.int .u64 0, .int .u64 0, .int .u64 0, .int .u64 0]⟩), (5, ⟨some g5, 24, wc (numV 16 ((ss.drop 2).take j))⟩)]) (fun (j : Nat) => (ss.drop 2).length - j) 0 ⟨Nat.zero_le _, by simp [numV], fun q hq => by omega⟩ (by repeat (first | exact Sub.nil _ | refine Sub.cons (by first | rfl | (rw [dgs_zero]; rfl) | (rw [List.drop_length]; rfl) | (simp; done) | (congr 2; omega) | (congr 3; omega)) ?_)) (by repeat (first | exact Sub.nil _ | refine Sub.cons (by first | rfl | (rw [dgs_zero]; rfl) | (rw [List.drop_length]; rfl) | (simp; done) | (congr 2; omega) | (congr 3; omega)) ?_)) ?_
            rintro j ⟨hj, hv, hok⟩
            refine T.seq ?_
            refine T.text [.l] rfl ?_
            refine J.lss rfl rfl rfl rfl ?_
            refine J.end ?_
            refine X.then ?_
            refine T.seq ?_
            refine T.cond_dec rfl (fun h11 => ?_) (fun h11 => ?_)
            · have hjl : j < (ss.drop 2).length := by omega
              have hs2 : Dg (ss.drop 2) := Dg.drop hs 2
              have hcl := hs2.getD j
              have hvt := numV_take 16 (ss.drop 2) j hjl
              refine T.skip ?_
              refine X.then ?_
              refine T.seq ?_
              refine T.block ?_
              refine T.seq ?_
              refine T.text [.l, .l] rfl ?_
              refine J.move rfl rfl ?_
              refine J.assign rfl rfl ?_
              refine J.end ?_
              refine X.then ?_
              refine T.seq ?_
              refine T.text [.l, .l, .l, .l, .l] rfl ?_
              refine J.move rfl rfl ?_
              refine J.move rfl rfl ?_
              refine J.indexStr Tryd.underlying9 rfl rfl (by omega) (by first | exact Int.toNat_natCast _ | rfl) (bstr_get (ss.drop 2) j (by omega)) rfl ?_
              refine J.as 45 (.int .u8 (((ss.drop 2).getD j 0 : Nat) : Int)) rfl (by rw [chr_dg hs2]) ?_
              refine J.call0 (k := .l) trivial fok137 rfl rfl (fun w hw => Wx.digit w _ (by omega)) ?_
              refine J.assign rfl rfl ?_
              refine J.end ?_
              refine X.then ?_
              refine T.seq ?_
              refine T.seq ?_
              refine T.text [.l, .l, .l] rfl ?_
              refine J.move rfl rfl ?_
              refine J.move rfl rfl ?_
              refine J.geq rfl rfl rfl rfl ?_
              refine J.end ?_
              refine X.then ?_
              refine T.cond_dec rfl (fun h12 => ?_) (fun h12 => ?_)
              · have hbad : ¬ okS 16 (ss.drop 2) := okS_no hjl (fun q => by have := (digU_ok (by omega)).1 q; omega)
                refine T.seq ?_
                refine T.text [.l, .l, .l] rfl ?_
                refine J.build rfl rfl (W 0) (fun w => by kernel_rfl) ?_
                refine J.store 2 rfl rfl rfl rfl (wc 0) rfl sz24 (by first | decide | exact Nat.le_refl _ | exact Nat.le_of_ble_eq_true rfl | (simp [rowN]; done) | (simp [rowN]; omega)) (by first | exact rowN_one _ _ | (simp; done) | (intro u hu; simp at hu; subst hu; rfl) | (intro u hu; simp at hu; rcases hu with rfl | rfl <;> rfl)) (by first | decide | exact Nat.zero_lt_succ _ | simp) trivial (wc 0) rfl ?_
                refine J.assign rfl rfl ?_
                refine J.end ?_
                refine X.then ?_
                refine T.ret ?_
                refine X.then_ret (X.inBlock_ret (X.then_ret (X.then_ret (X.inBlock_ret (X.then_ret ?_)))))
                exact X.ret2 rfl (RV.agg 2 rfl rfl agg24 (wc 0) (by rfl) (by rfl) rfl) (RV.tmp rfl) (fun w' hw' => by first | (exact ⟨ret_parse (a := 0) (c := 2) (parseN_long (by omega)), hw'.sub (Sub.nil _)⟩) | (exact ⟨ret_parse (a := 0) (c := 10) (parseN_hexlong (by omega) ((hexP_take ss).1 (by assumption)) (by first | omega | (rw [List.length_drop] at *; omega))), hw'.sub (Sub.nil _)⟩) | (exact ⟨ret_parse (a := 0) (c := 10) ((parseN_hex (by omega) ((hexP_take ss).1 (by assumption)) (by first | omega | (rw [List.length_drop] at *; omega))).trans (bodyN_bad (fun q => q.1 (List.length_eq_zero_iff.1 (by omega))))), hw'.sub (Sub.nil _)⟩) | (exact ⟨ret_parse (a := 0) (c := 10) ((parseN_hex (by omega) ((hexP_take ss).1 (by assumption)) (by first | omega | (rw [List.length_drop] at *; omega))).trans (bodyN_bad hbad)), hw'.sub (Sub.nil _)⟩) | (exact ⟨ret_parse (a := 0) (c := 10) ((parseN_hex (by omega) ((hexP_take ss).1 (by assumption)) (by first | omega | (rw [List.length_drop] at *; omega))).trans (bodyN_big hbig)), hw'.sub (Sub.nil _)⟩) | (exact ⟨ret_parse (a := numV 16 (ss.drop 2)) (c := 0) ((parseN_hex (by omega) ((hexP_take ss).1 (by assumption)) (by first | omega | (rw [List.length_drop] at *; omega))).trans (bodyN_ok hgood hval)), hw'.sub (Sub.nil _)⟩) | (exact ⟨ret_parse (a := 0) (c := 10) ((parseN_dec (by omega) (by first | exact fun q => absurd ((hexP_take ss).2 q) (by assumption) | exact fun q => by unfold hexP at q; omega)).trans (bodyN_bad (fun q => q.1 (List.length_eq_zero_iff.1 (by omega))))), hw'.sub (Sub.nil _)⟩) | (exact ⟨ret_parse (a := 0) (c := 10) ((parseN_dec (by omega) (by first | exact fun q => absurd ((hexP_take ss).2 q) (by assumption) | exact fun q => by unfold hexP at q; omega)).trans (bodyN_bad hbad)), hw'.sub (Sub.nil _)⟩) | (exact ⟨ret_parse (a := 0) (c := 10) ((parseN_dec (by omega) (by first | exact fun q => absurd ((hexP_take ss).2 q) (by assumption) | exact fun q => by unfold hexP at q; omega)).trans (bodyN_big hbig)), hw'.sub (Sub.nil _)⟩) | (exact ⟨ret_parse (a := numV 10 ss) (c := 0) ((parseN_dec (by omega) (by first | exact fun q => absurd ((hexP_take ss).2 q) (by assumption) | exact fun q => by unfold hexP at q; omega)).trans (bodyN_ok hgood hval)), hw'.sub (Sub.nil _)⟩))
              · have hokj : okD 16 ((ss.drop 2).getD j 0) := (digU_ok (by omega)).2 (by omega)
                have hdg := digU_eq hokj
                refine T.skip ?_
                refine X.then ?_
                refine T.seq ?_
                refine T.text [.l, .l, .l, .l, .l, .l] rfl ?_
                refine J.loadN (k := .l) trivial 5 rfl rfl agg24 (wc (numV 16 ((ss.drop 2).take j))) rfl rfl rfl ?_
                refine J.move rfl rfl ?_
                refine J.build rfl rfl (.agg ([.int .u64 ((16 : Nat) : Int), .int .u64 0, .int .u64 0, .int .u64 0] : List Value).toArray) (fun w => by kernel_rfl) ?_
                refine J.as 53 (W (16)) rfl (W_small (by first | omega | (refine ⟨?_, ?_, ?_, ?_⟩ <;> omega))) ?_
                refine J.call0 (k := .l) trivial fok114 rfl rfl (fun w hw => Wb.times w _ _) ?_
                refine J.alloc 8 rfl zero67 [.int .u64 0, .int .u64 0, .int .u64 0, .int .u64 0, .int .u64 0, .int .u64 0, .int .u64 0, .int .u64 0] rfl rfl (fun g8 hg8 => ?_)
                refine J.store 8 rfl rfl rfl rfl (lc (((numV 16 ((ss.drop 2).take j))) % 2 ^ 256 * ((16) % 2 ^ 256))) rfl sz67 (by first | decide | exact Nat.le_refl _ | exact Nat.le_of_ble_eq_true rfl | (simp [rowN]; done) | (simp [rowN]; omega)) (by first | exact rowN_one _ _ | (simp; done) | (intro u hu; simp at hu; subst hu; rfl) | (intro u hu; simp at hu; rcases hu with rfl | rfl <;> rfl)) (by first | decide | exact Nat.zero_lt_succ _ | simp) trivial (lc (((numV 16 ((ss.drop 2).take j))) % 2 ^ 256 * ((16) % 2 ^ 256))) rfl ?_
                refine J.end ?_
                refine X.then ?_
                refine T.seq ?_
                refine T.text [.l, .l, .l, .l, .l, .l, .l, .l, .l, .l, .l, .l] rfl ?_
                refine J.sliceArr arr67 rfl optInt.none (optInt.some rfl (by omega) (by rfl)) optInt.none (by simp) (by omega) (by omega) (by omega) rfl rfl ?_
                refine J.toArr Tryd.underlying24 rfl (by decide) rfl ?_
                refine J.loadW (k := .l) trivial 8 rfl rfl agg24 (by first | rfl | with_reducible exact rowW_seg0 _ _ _ (by omega) | with_reducible exact rowW_seg00 _ _ (by omega) | with_reducible exact rowW_segs _ _ _ (by omega) | with_reducible exact rowW_seg _ _ (by omega) | with_reducible exact rowW_segb _ _ _ (by omega) | exact rowW_seg _ _ (by omega) | exact rowW_segs _ _ _ (by omega)) rfl ?_
                refine J.move rfl rfl ?_
                refine J.build rfl rfl (.agg ([.int .u64 ((digU ((ss.drop 2).getD j 0) : Nat) : Int), .int .u64 0, .int .u64 0, .int .u64 0] : List Value).toArray) (fun w => by kernel_rfl) ?_
                refine J.as 60 (W (digU ((ss.drop 2).getD j 0))) rfl (W_small (by first | omega | (refine ⟨?_, ?_, ?_, ?_⟩ <;> omega))) ?_
                refine J.call0 (k := .l) trivial fok107 rfl rfl (fun w hw => Wa.plus w _ _) ?_
                refine J.move rfl rfl ?_
                refine J.extract rfl rfl rfl ?_
                refine J.extract rfl rfl rfl ?_
                refine J.alloc 9 rfl zero24 [.int .u64 0, .int .u64 0, .int .u64 0, .int .u64 0] rfl rfl (fun g9 hg9 => ?_)
                refine J.store 9 rfl rfl rfl rfl _ rfl sz24 (by first | decide | exact Nat.le_refl _ | exact Nat.le_of_ble_eq_true rfl | (simp [rowN]; done) | (simp [rowN]; omega)) (by first | exact rowN_one _ _ | (simp; done) | (intro u hu; simp at hu; subst hu; rfl) | (intro u hu; simp at hu; rcases hu with rfl | rfl <;> rfl)) (by first | decide | exact Nat.zero_lt_succ _ | simp) trivial _ rfl ?_
                refine J.assign rfl rfl ?_
                refine J.end ?_
                refine X.then ?_
                refine T.seq ?_
                refine T.seq ?_
                refine T.text [.l, .l, .l, .l, .l, .l, .l] rfl ?_
                refine J.indexArr arr67 rfl rfl (by omega) (by omega) (by rfl) rfl ?_
                refine J.load1 (k := .l) trivial 8 rfl rfl one22 (by first | rfl | with_reducible exact rowN_get0 _ _ _ (by omega) | with_reducible exact rowN_get1 _ _ _ (by omega) | with_reducible exact rowN_get1s _ _ _ _ (by omega) | exact rowN_get1 _ _ _ (by omega) | exact rowN_get1s _ _ _ _ (by omega) | exact rowN_get0 _ _ _ (by omega)) rfl ?_
                refine J.gtr rfl rfl rfl rfl ?_
                refine J.move rfl rfl ?_
                refine J.split 67 rfl (fun h13 => ?_) (fun h13 => ?_)
                · have hbig := numV_big (b := 16) (ss := (ss.drop 2)) (by decide) (show j + 1 ≤ _ by omega) (by rw [hvt, hdg]; exact round_big1 hv (by decide) h13)
                  refine J.no rfl rfl rfl rfl ?_
                  refine J.no rfl rfl rfl rfl ?_
                  refine J.pick_t rfl rfl rfl ?_
                  refine J.end ?_
                  refine X.then ?_
                  refine T.cond_true rfl ?_
                  refine T.seq ?_
                  refine T.text [.l, .l, .l] rfl ?_
                  refine J.build rfl rfl (W 0) (fun w => by kernel_rfl) ?_
                  refine J.store 2 rfl rfl rfl rfl (wc 0) rfl sz24 (by first | decide | exact Nat.le_refl _ | exact Nat.le_of_ble_eq_true rfl | (simp [rowN]; done) | (simp [rowN]; omega)) (by first | exact rowN_one _ _ | (simp; done) | (intro u hu; simp at hu; subst hu; rfl) | (intro u hu; simp at hu; rcases hu with rfl | rfl <;> rfl)) (by first | decide | exact Nat.zero_lt_succ _ | simp) trivial (wc 0) rfl ?_
                  refine J.assign rfl rfl ?_
                  refine J.end ?_
                  refine X.then ?_
                  refine T.ret ?_
                  refine X.then_ret (X.inBlock_ret (X.then_ret (X.then_ret (X.inBlock_ret (X.then_ret ?_)))))
                  exact X.ret2 rfl (RV.agg 2 rfl rfl agg24 (wc 0) (by rfl) (by rfl) rfl) (RV.tmp rfl) (fun w' hw' => by first | (exact ⟨ret_parse (a := 0) (c := 2) (parseN_long (by omega)), hw'.sub (Sub.nil _)⟩) | (exact ⟨ret_parse (a := 0) (c := 10) (parseN_hexlong (by omega) ((hexP_take ss).1 (by assumption)) (by first | omega | (rw [List.length_drop] at *; omega))), hw'.sub (Sub.nil _)⟩) | (exact ⟨ret_parse (a := 0) (c := 10) ((parseN_hex (by omega) ((hexP_take ss).1 (by assumption)) (by first | omega | (rw [List.length_drop] at *; omega))).trans (bodyN_bad (fun q => q.1 (List.length_eq_zero_iff.1 (by omega))))), hw'.sub (Sub.nil _)⟩) | (exact ⟨ret_parse (a := 0) (c := 10) ((parseN_hex (by omega) ((hexP_take ss).1 (by assumption)) (by first | omega | (rw [List.length_drop] at *; omega))).trans (bodyN_bad hbad)), hw'.sub (Sub.nil _)⟩) | (exact ⟨ret_parse (a := 0) (c := 10) ((parseN_hex (by omega) ((hexP_take ss).1 (by assumption)) (by first | omega | (rw [List.length_drop] at *; omega))).trans (bodyN_big hbig)), hw'.sub (Sub.nil _)⟩) | (exact ⟨ret_parse (a := numV 16 (ss.drop 2)) (c := 0) ((parseN_hex (by omega) ((hexP_take ss).1 (by assumption)) (by first | omega | (rw [List.length_drop] at *; omega))).trans (bodyN_ok hgood hval)), hw'.sub (Sub.nil _)⟩) | (exact ⟨ret_parse (a := 0) (c := 10) ((parseN_dec (by omega) (by first | exact fun q => absurd ((hexP_take ss).2 q) (by assumption) | exact fun q => by unfold hexP at q; omega)).trans (bodyN_bad (fun q => q.1 (List.length_eq_zero_iff.1 (by omega))))), hw'.sub (Sub.nil _)⟩) | (exact ⟨ret_parse (a := 0) (c := 10) ((parseN_dec (by omega) (by first | exact fun q => absurd ((hexP_take ss).2 q) (by assumption) | exact fun q => by unfold hexP at q; omega)).trans (bodyN_bad hbad)), hw'.sub (Sub.nil _)⟩) | (exact ⟨ret_parse (a := 0) (c := 10) ((parseN_dec (by omega) (by first | exact fun q => absurd ((hexP_take ss).2 q) (by assumption) | exact fun q => by unfold hexP at q; omega)).trans (bodyN_big hbig)), hw'.sub (Sub.nil _)⟩) | (exact ⟨ret_parse (a := numV 10 ss) (c := 0) ((parseN_dec (by omega) (by first | exact fun q => absurd ((hexP_take ss).2 q) (by assumption) | exact fun q => by unfold hexP at q; omega)).trans (bodyN_ok hgood hval)), hw'.sub (Sub.nil _)⟩))
                · have hp := h13
                  refine J.yes rfl rfl ?_
                  refine J.move rfl rfl ?_
                  refine J.yes rfl rfl ?_
                  refine J.gtr rfl rfl rfl rfl ?_
                  refine J.pick_f rfl rfl rfl ?_
                  refine J.end ?_
                  refine X.then ?_
                  refine T.cond_dec rfl (fun h14 => ?_) (fun h14 => ?_)
                  · have hbig := numV_big (b := 16) (ss := (ss.drop 2)) (by decide) (show j + 1 ≤ _ by omega) (by rw [hvt, hdg]; exact round_big2 hv (by decide) (by omega) hp h14)
                    refine T.seq ?_
                    refine T.text [.l, .l, .l] rfl ?_
                    refine J.build rfl rfl (W 0) (fun w => by kernel_rfl) ?_
                    refine J.store 2 rfl rfl rfl rfl (wc 0) rfl sz24 (by first | decide | exact Nat.le_refl _ | exact Nat.le_of_ble_eq_true rfl | (simp [rowN]; done) | (simp [rowN]; omega)) (by first | exact rowN_one _ _ | (simp; done) | (intro u hu; simp at hu; subst hu; rfl) | (intro u hu; simp at hu; rcases hu with rfl | rfl <;> rfl)) (by first | decide | exact Nat.zero_lt_succ _ | simp) trivial (wc 0) rfl ?_
                    refine J.assign rfl rfl ?_
                    refine J.end ?_
                    refine X.then ?_
                    refine T.ret ?_
                    refine X.then_ret (X.inBlock_ret (X.then_ret (X.then_ret (X.inBlock_ret (X.then_ret ?_)))))
                    exact X.ret2 rfl (RV.agg 2 rfl rfl agg24 (wc 0) (by rfl) (by rfl) rfl) (RV.tmp rfl) (fun w' hw' => by first | (exact ⟨ret_parse (a := 0) (c := 2) (parseN_long (by omega)), hw'.sub (Sub.nil _)⟩) | (exact ⟨ret_parse (a := 0) (c := 10) (parseN_hexlong (by omega) ((hexP_take ss).1 (by assumption)) (by first | omega | (rw [List.length_drop] at *; omega))), hw'.sub (Sub.nil _)⟩) | (exact ⟨ret_parse (a := 0) (c := 10) ((parseN_hex (by omega) ((hexP_take ss).1 (by assumption)) (by first | omega | (rw [List.length_drop] at *; omega))).trans (bodyN_bad (fun q => q.1 (List.length_eq_zero_iff.1 (by omega))))), hw'.sub (Sub.nil _)⟩) | (exact ⟨ret_parse (a := 0) (c := 10) ((parseN_hex (by omega) ((hexP_take ss).1 (by assumption)) (by first | omega | (rw [List.length_drop] at *; omega))).trans (bodyN_bad hbad)), hw'.sub (Sub.nil _)⟩) | (exact ⟨ret_parse (a := 0) (c := 10) ((parseN_hex (by omega) ((hexP_take ss).1 (by assumption)) (by first | omega | (rw [List.length_drop] at *; omega))).trans (bodyN_big hbig)), hw'.sub (Sub.nil _)⟩) | (exact ⟨ret_parse (a := numV 16 (ss.drop 2)) (c := 0) ((parseN_hex (by omega) ((hexP_take ss).1 (by assumption)) (by first | omega | (rw [List.length_drop] at *; omega))).trans (bodyN_ok hgood hval)), hw'.sub (Sub.nil _)⟩) | (exact ⟨ret_parse (a := 0) (c := 10) ((parseN_dec (by omega) (by first | exact fun q => absurd ((hexP_take ss).2 q) (by assumption) | exact fun q => by unfold hexP at q; omega)).trans (bodyN_bad (fun q => q.1 (List.length_eq_zero_iff.1 (by omega))))), hw'.sub (Sub.nil _)⟩) | (exact ⟨ret_parse (a := 0) (c := 10) ((parseN_dec (by omega) (by first | exact fun q => absurd ((hexP_take ss).2 q) (by assumption) | exact fun q => by unfold hexP at q; omega)).trans (bodyN_bad hbad)), hw'.sub (Sub.nil _)⟩) | (exact ⟨ret_parse (a := 0) (c := 10) ((parseN_dec (by omega) (by first | exact fun q => absurd ((hexP_take ss).2 q) (by assumption) | exact fun q => by unfold hexP at q; omega)).trans (bodyN_big hbig)), hw'.sub (Sub.nil _)⟩) | (exact ⟨ret_parse (a := numV 10 ss) (c := 0) ((parseN_dec (by omega) (by first | exact fun q => absurd ((hexP_take ss).2 q) (by assumption) | exact fun q => by unfold hexP at q; omega)).trans (bodyN_ok hgood hval)), hw'.sub (Sub.nil _)⟩))
                  · have hfin := round_fin hv (by decide) (show digU ((ss.drop 2).getD j 0) < 16 by omega) hp h14
                    have hvn : numV 16 ((ss.drop 2).take (j + 1)) < 2 ^ 256 := by rw [hvt, hdg]; exact hfin.1
                    refine T.asE 9 ⟨some g9, 24, wc (numV 16 ((ss.drop 2).take (j + 1)))⟩ rfl (by rw [hvt, hdg, ← (round_p (d := 0) hv (by decide) hp).1]; rfl) ?_
                    have hok2 := okD_next hok hokj
                    refine T.skip ?_
                    refine X.then ?_
                    refine T.text [.l, .l] rfl ?_
                    refine J.loadN (k := .l) trivial 9 rfl rfl agg24 (wc (numV 16 ((ss.drop 2).take (j + 1)))) rfl rfl rfl ?_
                    refine J.store 5 rfl rfl rfl rfl (wc (numV 16 ((ss.drop 2).take (j + 1)))) rfl sz24 (by first | decide | exact Nat.le_refl _ | exact Nat.le_of_ble_eq_true rfl | (simp [rowN]; done) | (simp [rowN]; omega)) (by first | exact rowN_one _ _ | (simp; done) | (intro u hu; simp at hu; subst hu; rfl) | (intro u hu; simp at hu; rcases hu with rfl | rfl <;> rfl)) (by first | decide | exact Nat.zero_lt_succ _ | simp) trivial (wc (numV 16 ((ss.drop 2).take (j + 1)))) rfl ?_
                    refine J.end ?_
                    refine X.inBlock (X.then ?_)
                    refine T.text [.l, .l] rfl ?_
                    refine J.add rfl rfl rfl (by first | exact add_nat _ 1 (by omega) | exact i64_ok _ (by omega) | exact rfl) ?_
                    refine J.move rfl rfl ?_
                    refine J.end ?_
                    exact X.round (j + 1) ⟨by omega, hvn, hok2⟩ (by first | omega | (dsimp only; omega)) (by repeat (first | exact Sub.nil _ | refine Sub.cons (by first | rfl | (rw [dgs_zero]; rfl) | (rw [List.drop_length]; rfl) | (simp; done) | (congr 2; omega) | (congr 3; omega)) ?_)) (by repeat (first | exact Sub.nil _ | refine Sub.cons (by first | rfl | (rw [dgs_zero]; rfl) | (rw [List.drop_length]; rfl) | (simp; done) | (congr 2; omega) | (congr 3; omega)) ?_))
            · obtain rfl : j = (ss.drop 2).length := by omega
              rw [List.take_length] at hv
              have hgood := okS_yes (by omega) hok
              have hval := hv
              refine T.asE 5 ⟨some g5, 24, wc (numV 16 (ss.drop 2))⟩ rfl (by rw [List.take_length]) ?_
              refine T.exit ?_
              refine X.then_exit (X.then_exit (X.inBlock_eq (X.then ?_)))
              refine T.seq ?_
              refine T.text [.l, .l, .l] rfl ?_
              refine J.loadN (k := .l) trivial 5 rfl rfl agg24 (wc (numV 16 (ss.drop 2))) rfl rfl rfl ?_
              refine J.store 2 rfl rfl rfl rfl (wc (numV 16 (ss.drop 2))) rfl sz24 (by first | decide | exact Nat.le_refl _ | exact Nat.le_of_ble_eq_true rfl | (simp [rowN]; done) | (simp [rowN]; omega)) (by first | exact rowN_one _ _ | (simp; done) | (intro u hu; simp at hu; subst hu; rfl) | (intro u hu; simp at hu; rcases hu with rfl | rfl <;> rfl)) (by first | decide | exact Nat.zero_lt_succ _ | simp) trivial (wc (numV 16 (ss.drop 2))) rfl ?_
              refine J.assign rfl rfl ?_
              refine J.end ?_
              refine X.then ?_
              refine T.ret ?_
              exact X.ret2 rfl (RV.agg 2 rfl rfl agg24 (wc (numV 16 (ss.drop 2))) (by rfl) (by rfl) rfl) (RV.tmp rfl) (fun w' hw' => by first | (exact ⟨ret_parse (a := 0) (c := 2) (parseN_long (by omega)), hw'.sub (Sub.nil _)⟩) | (exact ⟨ret_parse (a := 0) (c := 10) (parseN_hexlong (by omega) ((hexP_take ss).1 (by assumption)) (by first | omega | (rw [List.length_drop] at *; omega))), hw'.sub (Sub.nil _)⟩) | (exact ⟨ret_parse (a := 0) (c := 10) ((parseN_hex (by omega) ((hexP_take ss).1 (by assumption)) (by first | omega | (rw [List.length_drop] at *; omega))).trans (bodyN_bad (fun q => q.1 (List.length_eq_zero_iff.1 (by omega))))), hw'.sub (Sub.nil _)⟩) | (exact ⟨ret_parse (a := 0) (c := 10) ((parseN_hex (by omega) ((hexP_take ss).1 (by assumption)) (by first | omega | (rw [List.length_drop] at *; omega))).trans (bodyN_bad hbad)), hw'.sub (Sub.nil _)⟩) | (exact ⟨ret_parse (a := 0) (c := 10) ((parseN_hex (by omega) ((hexP_take ss).1 (by assumption)) (by first | omega | (rw [List.length_drop] at *; omega))).trans (bodyN_big hbig)), hw'.sub (Sub.nil _)⟩) | (exact ⟨ret_parse (a := numV 16 (ss.drop 2)) (c := 0) ((parseN_hex (by omega) ((hexP_take ss).1 (by assumption)) (by first | omega | (rw [List.length_drop] at *; omega))).trans (bodyN_ok hgood hval)), hw'.sub (Sub.nil _)⟩) | (exact ⟨ret_parse (a := 0) (c := 10) ((parseN_dec (by omega) (by first | exact fun q => absurd ((hexP_take ss).2 q) (by assumption) | exact fun q => by unfold hexP at q; omega)).trans (bodyN_bad (fun q => q.1 (List.length_eq_zero_iff.1 (by omega))))), hw'.sub (Sub.nil _)⟩) | (exact ⟨ret_parse (a := 0) (c := 10) ((parseN_dec (by omega) (by first | exact fun q => absurd ((hexP_take ss).2 q) (by assumption) | exact fun q => by unfold hexP at q; omega)).trans (bodyN_bad hbad)), hw'.sub (Sub.nil _)⟩) | (exact ⟨ret_parse (a := 0) (c := 10) ((parseN_dec (by omega) (by first | exact fun q => absurd ((hexP_take ss).2 q) (by assumption) | exact fun q => by unfold hexP at q; omega)).trans (bodyN_big hbig)), hw'.sub (Sub.nil _)⟩) | (exact ⟨ret_parse (a := numV 10 ss) (c := 0) ((parseN_dec (by omega) (by first | exact fun q => absurd ((hexP_take ss).2 q) (by assumption) | exact fun q => by unfold hexP at q; omega)).trans (bodyN_ok hgood hval)), hw'.sub (Sub.nil _)⟩))
      · skip
        refine T.skip ?_
        refine X.then ?_
        refine T.seq ?_
        refine T.seq ?_
        refine T.text [.l, .l, .l, .l, .l, .l, .l, .l, .l, .l, .l, .l] rfl ?_
        refine J.move rfl rfl ?_
        refine J.lenStr Tryd.underlying9 rfl rfl ?_
        refine J.as 26 (.int .i64 ((ss.length : Nat) : Int)) rfl (by rw [bstr_size]) ?_
        refine J.eql rfl rfl rfl rfl ?_
        refine J.move rfl rfl ?_
        refine J.split 28 rfl (fun h15 => ?_) (fun h15 => ?_)
        · skip
          refine J.no rfl rfl rfl rfl ?_
          refine J.no rfl rfl rfl rfl ?_
          refine J.no rfl rfl rfl rfl ?_
          refine J.noU rfl rfl rfl ?_
          refine J.noU rfl rfl rfl ?_
          refine J.noU rfl rfl rfl ?_
          refine J.no rfl rfl rfl rfl ?_
          refine J.pick_t rfl rfl rfl ?_
          refine J.end ?_
          refine X.then ?_
          refine T.cond_true rfl ?_
          refine T.seq ?_
          refine T.text [.l, .l, .l] rfl ?_
          refine J.build rfl rfl (W 0) (fun w => by kernel_rfl) ?_
          refine J.store 2 rfl rfl rfl rfl (wc 0) rfl sz24 (by first | decide | exact Nat.le_refl _ | exact Nat.le_of_ble_eq_true rfl | (simp [rowN]; done) | (simp [rowN]; omega)) (by first | exact rowN_one _ _ | (simp; done) | (intro u hu; simp at hu; subst hu; rfl) | (intro u hu; simp at hu; rcases hu with rfl | rfl <;> rfl)) (by first | decide | exact Nat.zero_lt_succ _ | simp) trivial (wc 0) rfl ?_
          refine J.assign rfl rfl ?_
          refine J.end ?_
          refine X.then ?_
          refine T.ret ?_
          refine X.then_ret ?_
          exact X.ret2 rfl (RV.agg 2 rfl rfl agg24 (wc 0) (by rfl) (by rfl) rfl) (RV.tmp rfl) (fun w' hw' => by first | (exact ⟨ret_parse (a := 0) (c := 2) (parseN_long (by omega)), hw'.sub (Sub.nil _)⟩) | (exact ⟨ret_parse (a := 0) (c := 10) (parseN_hexlong (by omega) ((hexP_take ss).1 (by assumption)) (by first | omega | (rw [List.length_drop] at *; omega))), hw'.sub (Sub.nil _)⟩) | (exact ⟨ret_parse (a := 0) (c := 10) ((parseN_hex (by omega) ((hexP_take ss).1 (by assumption)) (by first | omega | (rw [List.length_drop] at *; omega))).trans (bodyN_bad (fun q => q.1 (List.length_eq_zero_iff.1 (by omega))))), hw'.sub (Sub.nil _)⟩) | (exact ⟨ret_parse (a := 0) (c := 10) ((parseN_hex (by omega) ((hexP_take ss).1 (by assumption)) (by first | omega | (rw [List.length_drop] at *; omega))).trans (bodyN_bad hbad)), hw'.sub (Sub.nil _)⟩) | (exact ⟨ret_parse (a := 0) (c := 10) ((parseN_hex (by omega) ((hexP_take ss).1 (by assumption)) (by first | omega | (rw [List.length_drop] at *; omega))).trans (bodyN_big hbig)), hw'.sub (Sub.nil _)⟩) | (exact ⟨ret_parse (a := numV 16 (ss.drop 2)) (c := 0) ((parseN_hex (by omega) ((hexP_take ss).1 (by assumption)) (by first | omega | (rw [List.length_drop] at *; omega))).trans (bodyN_ok hgood hval)), hw'.sub (Sub.nil _)⟩) | (exact ⟨ret_parse (a := 0) (c := 10) ((parseN_dec (by omega) (by first | exact fun q => absurd ((hexP_take ss).2 q) (by assumption) | exact fun q => by unfold hexP at q; omega)).trans (bodyN_bad (fun q => q.1 (List.length_eq_zero_iff.1 (by omega))))), hw'.sub (Sub.nil _)⟩) | (exact ⟨ret_parse (a := 0) (c := 10) ((parseN_dec (by omega) (by first | exact fun q => absurd ((hexP_take ss).2 q) (by assumption) | exact fun q => by unfold hexP at q; omega)).trans (bodyN_bad hbad)), hw'.sub (Sub.nil _)⟩) | (exact ⟨ret_parse (a := 0) (c := 10) ((parseN_dec (by omega) (by first | exact fun q => absurd ((hexP_take ss).2 q) (by assumption) | exact fun q => by unfold hexP at q; omega)).trans (bodyN_big hbig)), hw'.sub (Sub.nil _)⟩) | (exact ⟨ret_parse (a := numV 10 ss) (c := 0) ((parseN_dec (by omega) (by first | exact fun q => absurd ((hexP_take ss).2 q) (by assumption) | exact fun q => by unfold hexP at q; omega)).trans (bodyN_ok hgood hval)), hw'.sub (Sub.nil _)⟩))
        · skip
          refine J.yes rfl rfl ?_
          refine J.move rfl rfl ?_
          refine J.yes rfl rfl ?_
          refine J.eql rfl rfl rfl rfl ?_
          refine J.yes rfl rfl ?_
          refine J.move rfl rfl ?_
          refine J.split 31 rfl (fun h16 => ?_) (fun h16 => ?_)
          · skip
            refine J.yes rfl rfl ?_
            refine J.move rfl rfl ?_
            refine J.yes rfl rfl ?_
            refine J.lenStr Tryd.underlying9 rfl rfl ?_
            refine J.as 33 (.int .i64 ((ss.length : Nat) : Int)) rfl (by rw [bstr_size]) ?_
            refine J.yes rfl rfl ?_
            refine J.gtr rfl rfl rfl rfl ?_
            refine J.yes rfl rfl ?_
            refine J.pick_t rfl rfl rfl ?_
            refine J.pick_f rfl rfl rfl ?_
            refine J.end ?_
            refine X.then ?_
            refine T.cond_dec rfl (fun h17 => ?_) (fun h17 => ?_)
            · skip
              refine T.seq ?_
              refine T.text [.l, .l, .l] rfl ?_
              refine J.build rfl rfl (W 0) (fun w => by kernel_rfl) ?_
              refine J.store 2 rfl rfl rfl rfl (wc 0) rfl sz24 (by first | decide | exact Nat.le_refl _ | exact Nat.le_of_ble_eq_true rfl | (simp [rowN]; done) | (simp [rowN]; omega)) (by first | exact rowN_one _ _ | (simp; done) | (intro u hu; simp at hu; subst hu; rfl) | (intro u hu; simp at hu; rcases hu with rfl | rfl <;> rfl)) (by first | decide | exact Nat.zero_lt_succ _ | simp) trivial (wc 0) rfl ?_
              refine J.assign rfl rfl ?_
              refine J.end ?_
              refine X.then ?_
              refine T.ret ?_
              refine X.then_ret ?_
              exact X.ret2 rfl (RV.agg 2 rfl rfl agg24 (wc 0) (by rfl) (by rfl) rfl) (RV.tmp rfl) (fun w' hw' => by first | (exact ⟨ret_parse (a := 0) (c := 2) (parseN_long (by omega)), hw'.sub (Sub.nil _)⟩) | (exact ⟨ret_parse (a := 0) (c := 10) (parseN_hexlong (by omega) ((hexP_take ss).1 (by assumption)) (by first | omega | (rw [List.length_drop] at *; omega))), hw'.sub (Sub.nil _)⟩) | (exact ⟨ret_parse (a := 0) (c := 10) ((parseN_hex (by omega) ((hexP_take ss).1 (by assumption)) (by first | omega | (rw [List.length_drop] at *; omega))).trans (bodyN_bad (fun q => q.1 (List.length_eq_zero_iff.1 (by omega))))), hw'.sub (Sub.nil _)⟩) | (exact ⟨ret_parse (a := 0) (c := 10) ((parseN_hex (by omega) ((hexP_take ss).1 (by assumption)) (by first | omega | (rw [List.length_drop] at *; omega))).trans (bodyN_bad hbad)), hw'.sub (Sub.nil _)⟩) | (exact ⟨ret_parse (a := 0) (c := 10) ((parseN_hex (by omega) ((hexP_take ss).1 (by assumption)) (by first | omega | (rw [List.length_drop] at *; omega))).trans (bodyN_big hbig)), hw'.sub (Sub.nil _)⟩) | (exact ⟨ret_parse (a := numV 16 (ss.drop 2)) (c := 0) ((parseN_hex (by omega) ((hexP_take ss).1 (by assumption)) (by first | omega | (rw [List.length_drop] at *; omega))).trans (bodyN_ok hgood hval)), hw'.sub (Sub.nil _)⟩) | (exact ⟨ret_parse (a := 0) (c := 10) ((parseN_dec (by omega) (by first | exact fun q => absurd ((hexP_take ss).2 q) (by assumption) | exact fun q => by unfold hexP at q; omega)).trans (bodyN_bad (fun q => q.1 (List.length_eq_zero_iff.1 (by omega))))), hw'.sub (Sub.nil _)⟩) | (exact ⟨ret_parse (a := 0) (c := 10) ((parseN_dec (by omega) (by first | exact fun q => absurd ((hexP_take ss).2 q) (by assumption) | exact fun q => by unfold hexP at q; omega)).trans (bodyN_bad hbad)), hw'.sub (Sub.nil _)⟩) | (exact ⟨ret_parse (a := 0) (c := 10) ((parseN_dec (by omega) (by first | exact fun q => absurd ((hexP_take ss).2 q) (by assumption) | exact fun q => by unfold hexP at q; omega)).trans (bodyN_big hbig)), hw'.sub (Sub.nil _)⟩) | (exact ⟨ret_parse (a := numV 10 ss) (c := 0) ((parseN_dec (by omega) (by first | exact fun q => absurd ((hexP_take ss).2 q) (by assumption) | exact fun q => by unfold hexP at q; omega)).trans (bodyN_ok hgood hval)), hw'.sub (Sub.nil _)⟩))
            · skip
              refine T.skip ?_
              refine X.then ?_
              refine T.seq ?_
              refine T.text [.l] rfl ?_
              refine J.alloc 5 rfl zero24 [.int .u64 0, .int .u64 0, .int .u64 0, .int .u64 0] rfl rfl (fun g5 hg5 => ?_)
              refine J.end ?_
              refine X.then ?_
              refine T.seq ?_
              refine T.seq ?_
              refine T.text [.l, .l, .l] rfl ?_
              refine J.move rfl rfl ?_
              refine J.lenStr Tryd.underlying9 rfl rfl ?_
              refine J.as 39 (.int .i64 ((ss.length : Nat) : Int)) rfl (by rw [bstr_size]) ?_
              refine J.move rfl rfl ?_
              refine J.end ?_
              refine X.then ?_
              refine T.block ?_
              refine T.asE 5 ⟨some g5, 24, wc (numV 10 (ss.take 0))⟩ rfl (by simp only [List.take_zero, numV, List.foldl_nil]; rfl) ?_
              refine T.loop (ι := Nat) (fun (j : Nat) => j ≤ ss.length ∧ numV 10 (ss.take j) < 2 ^ 256 ∧ (∀ q, q < j → okD 10 (ss.getD q 0))) (fun (j : Nat) => [(0, .string (bstr ss)), (2, .pointer (some ⟨g2, 0, none⟩)), (11, .string (bstr ss)), (12, .int .i64 ((ss.length : Nat) : Int)), (4, .int .u64 10), (15, .string (bstr ss)), (16, .int .i64 ((ss.length : Nat) : Int)), (18, .bool true), (19, .string (bstr ss)), (20, .string (bstr (ss.take 2))), (25, .string (bstr ss)), (26, .int .i64 ((ss.length : Nat) : Int)), (28, .bool false), (29, .int .u64 10), (31, .bool true), (32, .string (bstr ss)), (33, .int .i64 ((ss.length : Nat) : Int)), (5, .pointer (some ⟨g5, 0, none⟩)), (38, .string (bstr ss)), (39, .int .i64 ((ss.length : Nat) : Int)), (40, .int .i64 (j : Int))]) (fun (j : Nat) => [(2, ⟨some g2, 24, [.int .u64 0, .int .u64 0, .int .u64 0, .int .u64 0]⟩), (5, ⟨some g5, 24, wc (numV 10 (ss.take j))⟩)]) (fun (j : Nat) => ss.length - j) 0 ⟨Nat.zero_le _, by simp [numV], fun q hq => by omega⟩ (by repeat (first | exact Sub.nil _ | refine Sub.cons (by first | rfl | (rw [dgs_zero]; rfl) | (rw [List.drop_length]; rfl) | (simp; done) | (congr 2; omega) | (congr 3; omega)) ?_)) (by repeat (first | exact Sub.nil _ | refine Sub.cons (by first | rfl | (rw [dgs_zero]; rfl) | (rw [List.drop_length]; rfl) | (simp; done) | (congr 2; omega) | (congr 3; omega)) ?_)) ?_
              rintro j ⟨hj, hv, hok⟩
              refine T.seq ?_
              refine T.text [.l] rfl ?_
              refine J.lss rfl rfl rfl rfl ?_
              refine J.end ?_
              refine X.then ?_
              refine T.seq ?_
              refine T.cond_dec rfl (fun h18 => ?_) (fun h18 => ?_)
              · have hjl : j < ss.length := by omega
                have hs2 : Dg ss := hs
                have hcl := hs2.getD j
                have hvt := numV_take 10 ss j hjl
                refine T.skip ?_
                refine X.then ?_
                refine T.seq ?_
                refine T.block ?_
                refine T.seq ?_
                refine T.text [.l, .l] rfl ?_
                refine J.move rfl rfl ?_
                refine J.assign rfl rfl ?_
                refine J.end ?_
                refine X.then ?_
                refine T.seq ?_
                refine T.text [.l, .l, .l, .l, .l] rfl ?_
                refine J.move rfl rfl ?_
                refine J.move rfl rfl ?_
                refine J.indexStr Tryd.underlying9 rfl rfl (by omega) (by first | exact Int.toNat_natCast _ | rfl) (bstr_get ss j (by omega)) rfl ?_
                refine J.as 45 (.int .u8 ((ss.getD j 0 : Nat) : Int)) rfl (by rw [chr_dg hs2]) ?_
                refine J.call0 (k := .l) trivial fok137 rfl rfl (fun w hw => Wx.digit w _ (by omega)) ?_
                refine J.assign rfl rfl ?_
                refine J.end ?_
                refine X.then ?_
                refine T.seq ?_
                refine T.seq ?_
                refine T.text [.l, .l, .l] rfl ?_
                refine J.move rfl rfl ?_
                refine J.move rfl rfl ?_
                refine J.geq rfl rfl rfl rfl ?_
                refine J.end ?_
                refine X.then ?_
                refine T.cond_dec rfl (fun h19 => ?_) (fun h19 => ?_)
                · have hbad : ¬ okS 10 ss := okS_no hjl (fun q => by have := (digU_ok (by omega)).1 q; omega)
                  refine T.seq ?_
                  refine T.text [.l, .l, .l] rfl ?_
                  refine J.build rfl rfl (W 0) (fun w => by kernel_rfl) ?_
                  refine J.store 2 rfl rfl rfl rfl (wc 0) rfl sz24 (by first | decide | exact Nat.le_refl _ | exact Nat.le_of_ble_eq_true rfl | (simp [rowN]; done) | (simp [rowN]; omega)) (by first | exact rowN_one _ _ | (simp; done) | (intro u hu; simp at hu; subst hu; rfl) | (intro u hu; simp at hu; rcases hu with rfl | rfl <;> rfl)) (by first | decide | exact Nat.zero_lt_succ _ | simp) trivial (wc 0) rfl ?_
                  refine J.assign rfl rfl ?_
                  refine J.end ?_
                  refine X.then ?_
                  refine T.ret ?_
                  refine X.then_ret (X.inBlock_ret (X.then_ret (X.then_ret (X.inBlock_ret (X.then_ret ?_)))))
                  exact X.ret2 rfl (RV.agg 2 rfl rfl agg24 (wc 0) (by rfl) (by rfl) rfl) (RV.tmp rfl) (fun w' hw' => by first | (exact ⟨ret_parse (a := 0) (c := 2) (parseN_long (by omega)), hw'.sub (Sub.nil _)⟩) | (exact ⟨ret_parse (a := 0) (c := 10) (parseN_hexlong (by omega) ((hexP_take ss).1 (by assumption)) (by first | omega | (rw [List.length_drop] at *; omega))), hw'.sub (Sub.nil _)⟩) | (exact ⟨ret_parse (a := 0) (c := 10) ((parseN_hex (by omega) ((hexP_take ss).1 (by assumption)) (by first | omega | (rw [List.length_drop] at *; omega))).trans (bodyN_bad (fun q => q.1 (List.length_eq_zero_iff.1 (by omega))))), hw'.sub (Sub.nil _)⟩) | (exact ⟨ret_parse (a := 0) (c := 10) ((parseN_hex (by omega) ((hexP_take ss).1 (by assumption)) (by first | omega | (rw [List.length_drop] at *; omega))).trans (bodyN_bad hbad)), hw'.sub (Sub.nil _)⟩) | (exact ⟨ret_parse (a := 0) (c := 10) ((parseN_hex (by omega) ((hexP_take ss).1 (by assumption)) (by first | omega | (rw [List.length_drop] at *; omega))).trans (bodyN_big hbig)), hw'.sub (Sub.nil _)⟩) | (exact ⟨ret_parse (a := numV 16 (ss.drop 2)) (c := 0) ((parseN_hex (by omega) ((hexP_take ss).1 (by assumption)) (by first | omega | (rw [List.length_drop] at *; omega))).trans (bodyN_ok hgood hval)), hw'.sub (Sub.nil _)⟩) | (exact ⟨ret_parse (a := 0) (c := 10) ((parseN_dec (by omega) (by first | exact fun q => absurd ((hexP_take ss).2 q) (by assumption) | exact fun q => by unfold hexP at q; omega)).trans (bodyN_bad (fun q => q.1 (List.length_eq_zero_iff.1 (by omega))))), hw'.sub (Sub.nil _)⟩) | (exact ⟨ret_parse (a := 0) (c := 10) ((parseN_dec (by omega) (by first | exact fun q => absurd ((hexP_take ss).2 q) (by assumption) | exact fun q => by unfold hexP at q; omega)).trans (bodyN_bad hbad)), hw'.sub (Sub.nil _)⟩) | (exact ⟨ret_parse (a := 0) (c := 10) ((parseN_dec (by omega) (by first | exact fun q => absurd ((hexP_take ss).2 q) (by assumption) | exact fun q => by unfold hexP at q; omega)).trans (bodyN_big hbig)), hw'.sub (Sub.nil _)⟩) | (exact ⟨ret_parse (a := numV 10 ss) (c := 0) ((parseN_dec (by omega) (by first | exact fun q => absurd ((hexP_take ss).2 q) (by assumption) | exact fun q => by unfold hexP at q; omega)).trans (bodyN_ok hgood hval)), hw'.sub (Sub.nil _)⟩))
                · have hokj : okD 10 (ss.getD j 0) := (digU_ok (by omega)).2 (by omega)
                  have hdg := digU_eq hokj
                  refine T.skip ?_
                  refine X.then ?_
                  refine T.seq ?_
                  refine T.text [.l, .l, .l, .l, .l, .l] rfl ?_
                  refine J.loadN (k := .l) trivial 5 rfl rfl agg24 (wc (numV 10 (ss.take j))) rfl rfl rfl ?_
                  refine J.move rfl rfl ?_
                  refine J.build rfl rfl (.agg ([.int .u64 ((10 : Nat) : Int), .int .u64 0, .int .u64 0, .int .u64 0] : List Value).toArray) (fun w => by kernel_rfl) ?_
                  refine J.as 53 (W (10)) rfl (W_small (by first | omega | (refine ⟨?_, ?_, ?_, ?_⟩ <;> omega))) ?_
                  refine J.call0 (k := .l) trivial fok114 rfl rfl (fun w hw => Wb.times w _ _) ?_
                  refine J.alloc 8 rfl zero67 [.int .u64 0, .int .u64 0, .int .u64 0, .int .u64 0, .int .u64 0, .int .u64 0, .int .u64 0, .int .u64 0] rfl rfl (fun g8 hg8 => ?_)
                  refine J.store 8 rfl rfl rfl rfl (lc (((numV 10 (ss.take j))) % 2 ^ 256 * ((10) % 2 ^ 256))) rfl sz67 (by first | decide | exact Nat.le_refl _ | exact Nat.le_of_ble_eq_true rfl | (simp [rowN]; done) | (simp [rowN]; omega)) (by first | exact rowN_one _ _ | (simp; done) | (intro u hu; simp at hu; subst hu; rfl) | (intro u hu; simp at hu; rcases hu with rfl | rfl <;> rfl)) (by first | decide | exact Nat.zero_lt_succ _ | simp) trivial (lc (((numV 10 (ss.take j))) % 2 ^ 256 * ((10) % 2 ^ 256))) rfl ?_
                  refine J.end ?_
                  refine X.then ?_
                  refine T.seq ?_
                  refine T.text [.l, .l, .l, .l, .l, .l, .l, .l, .l, .l, .l, .l] rfl ?_
                  refine J.sliceArr arr67 rfl optInt.none (optInt.some rfl (by omega) (by rfl)) optInt.none (by simp) (by omega) (by omega) (by omega) rfl rfl ?_
                  refine J.toArr Tryd.underlying24 rfl (by decide) rfl ?_
                  refine J.loadW (k := .l) trivial 8 rfl rfl agg24 (by first | rfl | with_reducible exact rowW_seg0 _ _ _ (by omega) | with_reducible exact rowW_seg00 _ _ (by omega) | with_reducible exact rowW_segs _ _ _ (by omega) | with_reducible exact rowW_seg _ _ (by omega) | with_reducible exact rowW_segb _ _ _ (by omega) | exact rowW_seg _ _ (by omega) | exact rowW_segs _ _ _ (by omega)) rfl ?_
                  refine J.move rfl rfl ?_
                  refine J.build rfl rfl (.agg ([.int .u64 ((digU (ss.getD j 0) : Nat) : Int), .int .u64 0, .int .u64 0, .int .u64 0] : List Value).toArray) (fun w => by kernel_rfl) ?_
                  refine J.as 60 (W (digU (ss.getD j 0))) rfl (W_small (by first | omega | (refine ⟨?_, ?_, ?_, ?_⟩ <;> omega))) ?_
                  refine J.call0 (k := .l) trivial fok107 rfl rfl (fun w hw => Wa.plus w _ _) ?_
                  refine J.move rfl rfl ?_
                  refine J.extract rfl rfl rfl ?_
                  refine J.extract rfl rfl rfl ?_
                  refine J.alloc 9 rfl zero24 [.int .u64 0, .int .u64 0, .int .u64 0, .int .u64 0] rfl rfl (fun g9 hg9 => ?_)
                  refine J.store 9 rfl rfl rfl rfl _ rfl sz24 (by first | decide | exact Nat.le_refl _ | exact Nat.le_of_ble_eq_true rfl | (simp [rowN]; done) | (simp [rowN]; omega)) (by first | exact rowN_one _ _ | (simp; done) | (intro u hu; simp at hu; subst hu; rfl) | (intro u hu; simp at hu; rcases hu with rfl | rfl <;> rfl)) (by first | decide | exact Nat.zero_lt_succ _ | simp) trivial _ rfl ?_
                  refine J.assign rfl rfl ?_
                  refine J.end ?_
                  refine X.then ?_
                  refine T.seq ?_
                  refine T.seq ?_
                  refine T.text [.l, .l, .l, .l, .l, .l, .l] rfl ?_
                  refine J.indexArr arr67 rfl rfl (by omega) (by omega) (by rfl) rfl ?_
                  refine J.load1 (k := .l) trivial 8 rfl rfl one22 (by first | rfl | with_reducible exact rowN_get0 _ _ _ (by omega) | with_reducible exact rowN_get1 _ _ _ (by omega) | with_reducible exact rowN_get1s _ _ _ _ (by omega) | exact rowN_get1 _ _ _ (by omega) | exact rowN_get1s _ _ _ _ (by omega) | exact rowN_get0 _ _ _ (by omega)) rfl ?_
                  refine J.gtr rfl rfl rfl rfl ?_
                  refine J.move rfl rfl ?_
                  refine J.split 67 rfl (fun h20 => ?_) (fun h20 => ?_)
                  · have hbig := numV_big (b := 10) (ss := ss) (by decide) (show j + 1 ≤ _ by omega) (by rw [hvt, hdg]; exact round_big1 hv (by decide) h20)
                    refine J.no rfl rfl rfl rfl ?_
                    refine J.no rfl rfl rfl rfl ?_
                    refine J.pick_t rfl rfl rfl ?_
                    refine J.end ?_
                    refine X.then ?_
                    refine T.cond_true rfl ?_
                    refine T.seq ?_
                    refine T.text [.l, .l, .l] rfl ?_
                    refine J.build rfl rfl (W 0) (fun w => by kernel_rfl) ?_
                    refine J.store 2 rfl rfl rfl rfl (wc 0) rfl sz24 (by first | decide | exact Nat.le_refl _ | exact Nat.le_of_ble_eq_true rfl | (simp [rowN]; done) | (simp [rowN]; omega)) (by first | exact rowN_one _ _ | (simp; done) | (intro u hu; simp at hu; subst hu; rfl) | (intro u hu; simp at hu; rcases hu with rfl | rfl <;> rfl)) (by first | decide | exact Nat.zero_lt_succ _ | simp) trivial (wc 0) rfl ?_
                    refine J.assign rfl rfl ?_
                    refine J.end ?_
                    refine X.then ?_
                    refine T.ret ?_
                    refine X.then_ret (X.inBlock_ret (X.then_ret (X.then_ret (X.inBlock_ret (X.then_ret ?_)))))
                    exact X.ret2 rfl (RV.agg 2 rfl rfl agg24 (wc 0) (by rfl) (by rfl) rfl) (RV.tmp rfl) (fun w' hw' => by first | (exact ⟨ret_parse (a := 0) (c := 2) (parseN_long (by omega)), hw'.sub (Sub.nil _)⟩) | (exact ⟨ret_parse (a := 0) (c := 10) (parseN_hexlong (by omega) ((hexP_take ss).1 (by assumption)) (by first | omega | (rw [List.length_drop] at *; omega))), hw'.sub (Sub.nil _)⟩) | (exact ⟨ret_parse (a := 0) (c := 10) ((parseN_hex (by omega) ((hexP_take ss).1 (by assumption)) (by first | omega | (rw [List.length_drop] at *; omega))).trans (bodyN_bad (fun q => q.1 (List.length_eq_zero_iff.1 (by omega))))), hw'.sub (Sub.nil _)⟩) | (exact ⟨ret_parse (a := 0) (c := 10) ((parseN_hex (by omega) ((hexP_take ss).1 (by assumption)) (by first | omega | (rw [List.length_drop] at *; omega))).trans (bodyN_bad hbad)), hw'.sub (Sub.nil _)⟩) | (exact ⟨ret_parse (a := 0) (c := 10) ((parseN_hex (by omega) ((hexP_take ss).1 (by assumption)) (by first | omega | (rw [List.length_drop] at *; omega))).trans (bodyN_big hbig)), hw'.sub (Sub.nil _)⟩) | (exact ⟨ret_parse (a := numV 16 (ss.drop 2)) (c := 0) ((parseN_hex (by omega) ((hexP_take ss).1 (by assumption)) (by first | omega | (rw [List.length_drop] at *; omega))).trans (bodyN_ok hgood hval)), hw'.sub (Sub.nil _)⟩) | (exact ⟨ret_parse (a := 0) (c := 10) ((parseN_dec (by omega) (by first | exact fun q => absurd ((hexP_take ss).2 q) (by assumption) | exact fun q => by unfold hexP at q; omega)).trans (bodyN_bad (fun q => q.1 (List.length_eq_zero_iff.1 (by omega))))), hw'.sub (Sub.nil _)⟩) | (exact ⟨ret_parse (a := 0) (c := 10) ((parseN_dec (by omega) (by first | exact fun q => absurd ((hexP_take ss).2 q) (by assumption) | exact fun q => by unfold hexP at q; omega)).trans (bodyN_bad hbad)), hw'.sub (Sub.nil _)⟩) | (exact ⟨ret_parse (a := 0) (c := 10) ((parseN_dec (by omega) (by first | exact fun q => absurd ((hexP_take ss).2 q) (by assumption) | exact fun q => by unfold hexP at q; omega)).trans (bodyN_big hbig)), hw'.sub (Sub.nil _)⟩) | (exact ⟨ret_parse (a := numV 10 ss) (c := 0) ((parseN_dec (by omega) (by first | exact fun q => absurd ((hexP_take ss).2 q) (by assumption) | exact fun q => by unfold hexP at q; omega)).trans (bodyN_ok hgood hval)), hw'.sub (Sub.nil _)⟩))
                  · have hp := h20
                    refine J.yes rfl rfl ?_
                    refine J.move rfl rfl ?_
                    refine J.yes rfl rfl ?_
                    refine J.gtr rfl rfl rfl rfl ?_
                    refine J.pick_f rfl rfl rfl ?_
                    refine J.end ?_
                    refine X.then ?_
                    refine T.cond_dec rfl (fun h21 => ?_) (fun h21 => ?_)
                    · have hbig := numV_big (b := 10) (ss := ss) (by decide) (show j + 1 ≤ _ by omega) (by rw [hvt, hdg]; exact round_big2 hv (by decide) (by omega) hp h21)
                      refine T.seq ?_
                      refine T.text [.l, .l, .l] rfl ?_
                      refine J.build rfl rfl (W 0) (fun w => by kernel_rfl) ?_
                      refine J.store 2 rfl rfl rfl rfl (wc 0) rfl sz24 (by first | decide | exact Nat.le_refl _ | exact Nat.le_of_ble_eq_true rfl | (simp [rowN]; done) | (simp [rowN]; omega)) (by first | exact rowN_one _ _ | (simp; done) | (intro u hu; simp at hu; subst hu; rfl) | (intro u hu; simp at hu; rcases hu with rfl | rfl <;> rfl)) (by first | decide | exact Nat.zero_lt_succ _ | simp) trivial (wc 0) rfl ?_
                      refine J.assign rfl rfl ?_
                      refine J.end ?_
                      refine X.then ?_
                      refine T.ret ?_
                      refine X.then_ret (X.inBlock_ret (X.then_ret (X.then_ret (X.inBlock_ret (X.then_ret ?_)))))
                      exact X.ret2 rfl (RV.agg 2 rfl rfl agg24 (wc 0) (by rfl) (by rfl) rfl) (RV.tmp rfl) (fun w' hw' => by first | (exact ⟨ret_parse (a := 0) (c := 2) (parseN_long (by omega)), hw'.sub (Sub.nil _)⟩) | (exact ⟨ret_parse (a := 0) (c := 10) (parseN_hexlong (by omega) ((hexP_take ss).1 (by assumption)) (by first | omega | (rw [List.length_drop] at *; omega))), hw'.sub (Sub.nil _)⟩) | (exact ⟨ret_parse (a := 0) (c := 10) ((parseN_hex (by omega) ((hexP_take ss).1 (by assumption)) (by first | omega | (rw [List.length_drop] at *; omega))).trans (bodyN_bad (fun q => q.1 (List.length_eq_zero_iff.1 (by omega))))), hw'.sub (Sub.nil _)⟩) | (exact ⟨ret_parse (a := 0) (c := 10) ((parseN_hex (by omega) ((hexP_take ss).1 (by assumption)) (by first | omega | (rw [List.length_drop] at *; omega))).trans (bodyN_bad hbad)), hw'.sub (Sub.nil _)⟩) | (exact ⟨ret_parse (a := 0) (c := 10) ((parseN_hex (by omega) ((hexP_take ss).1 (by assumption)) (by first | omega | (rw [List.length_drop] at *; omega))).trans (bodyN_big hbig)), hw'.sub (Sub.nil _)⟩) | (exact ⟨ret_parse (a := numV 16 (ss.drop 2)) (c := 0) ((parseN_hex (by omega) ((hexP_take ss).1 (by assumption)) (by first | omega | (rw [List.length_drop] at *; omega))).trans (bodyN_ok hgood hval)), hw'.sub (Sub.nil _)⟩) | (exact ⟨ret_parse (a := 0) (c := 10) ((parseN_dec (by omega) (by first | exact fun q => absurd ((hexP_take ss).2 q) (by assumption) | exact fun q => by unfold hexP at q; omega)).trans (bodyN_bad (fun q => q.1 (List.length_eq_zero_iff.1 (by omega))))), hw'.sub (Sub.nil _)⟩) | (exact ⟨ret_parse (a := 0) (c := 10) ((parseN_dec (by omega) (by first | exact fun q => absurd ((hexP_take ss).2 q) (by assumption) | exact fun q => by unfold hexP at q; omega)).trans (bodyN_bad hbad)), hw'.sub (Sub.nil _)⟩) | (exact ⟨ret_parse (a := 0) (c := 10) ((parseN_dec (by omega) (by first | exact fun q => absurd ((hexP_take ss).2 q) (by assumption) | exact fun q => by unfold hexP at q; omega)).trans (bodyN_big hbig)), hw'.sub (Sub.nil _)⟩) | (exact ⟨ret_parse (a := numV 10 ss) (c := 0) ((parseN_dec (by omega) (by first | exact fun q => absurd ((hexP_take ss).2 q) (by assumption) | exact fun q => by unfold hexP at q; omega)).trans (bodyN_ok hgood hval)), hw'.sub (Sub.nil _)⟩))
                    · have hfin := round_fin hv (by decide) (show digU (ss.getD j 0) < 16 by omega) hp h21
                      have hvn : numV 10 (ss.take (j + 1)) < 2 ^ 256 := by rw [hvt, hdg]; exact hfin.1
                      refine T.asE 9 ⟨some g9, 24, wc (numV 10 (ss.take (j + 1)))⟩ rfl (by rw [hvt, hdg, ← (round_p (d := 0) hv (by decide) hp).1]; rfl) ?_
                      have hok2 := okD_next hok hokj
                      refine T.skip ?_
                      refine X.then ?_
                      refine T.text [.l, .l] rfl ?_
                      refine J.loadN (k := .l) trivial 9 rfl rfl agg24 (wc (numV 10 (ss.take (j + 1)))) rfl rfl rfl ?_
                      refine J.store 5 rfl rfl rfl rfl (wc (numV 10 (ss.take (j + 1)))) rfl sz24 (by first | decide | exact Nat.le_refl _ | exact Nat.le_of_ble_eq_true rfl | (simp [rowN]; done) | (simp [rowN]; omega)) (by first | exact rowN_one _ _ | (simp; done) | (intro u hu; simp at hu; subst hu; rfl) | (intro u hu; simp at hu; rcases hu with rfl | rfl <;> rfl)) (by first | decide | exact Nat.zero_lt_succ _ | simp) trivial (wc (numV 10 (ss.take (j + 1)))) rfl ?_
                      refine J.end ?_
                      refine X.inBlock (X.then ?_)
                      refine T.text [.l, .l] rfl ?_
                      refine J.add rfl rfl rfl (by first | exact add_nat _ 1 (by omega) | exact i64_ok _ (by omega) | exact rfl) ?_
                      refine J.move rfl rfl ?_
                      refine J.end ?_
                      exact X.round (j + 1) ⟨by omega, hvn, hok2⟩ (by first | omega | (dsimp only; omega)) (by repeat (first | exact Sub.nil _ | refine Sub.cons (by first | rfl | (rw [dgs_zero]; rfl) | (rw [List.drop_length]; rfl) | (simp; done) | (congr 2; omega) | (congr 3; omega)) ?_)) (by repeat (first | exact Sub.nil _ | refine Sub.cons (by first | rfl | (rw [dgs_zero]; rfl) | (rw [List.drop_length]; rfl) | (simp; done) | (congr 2; omega) | (congr 3; omega)) ?_))
              · obtain rfl : j = ss.length := by omega
                rw [List.take_length] at hv
                have hgood := okS_yes (by omega) hok
                have hval := hv
                refine T.asE 5 ⟨some g5, 24, wc (numV 10 ss)⟩ rfl (by rw [List.take_length]) ?_
                refine T.exit ?_
                refine X.then_exit (X.then_exit (X.inBlock_eq (X.then ?_)))
                refine T.seq ?_
                refine T.text [.l, .l, .l] rfl ?_
                refine J.loadN (k := .l) trivial 5 rfl rfl agg24 (wc (numV 10 ss)) rfl rfl rfl ?_
                refine J.store 2 rfl rfl rfl rfl (wc (numV 10 ss)) rfl sz24 (by first | decide | exact Nat.le_refl _ | exact Nat.le_of_ble_eq_true rfl | (simp [rowN]; done) | (simp [rowN]; omega)) (by first | exact rowN_one _ _ | (simp; done) | (intro u hu; simp at hu; subst hu; rfl) | (intro u hu; simp at hu; rcases hu with rfl | rfl <;> rfl)) (by first | decide | exact Nat.zero_lt_succ _ | simp) trivial (wc (numV 10 ss)) rfl ?_
                refine J.assign rfl rfl ?_
                refine J.end ?_
                refine X.then ?_
                refine T.ret ?_
                exact X.ret2 rfl (RV.agg 2 rfl rfl agg24 (wc (numV 10 ss)) (by rfl) (by rfl) rfl) (RV.tmp rfl) (fun w' hw' => by first | (exact ⟨ret_parse (a := 0) (c := 2) (parseN_long (by omega)), hw'.sub (Sub.nil _)⟩) | (exact ⟨ret_parse (a := 0) (c := 10) (parseN_hexlong (by omega) ((hexP_take ss).1 (by assumption)) (by first | omega | (rw [List.length_drop] at *; omega))), hw'.sub (Sub.nil _)⟩) | (exact ⟨ret_parse (a := 0) (c := 10) ((parseN_hex (by omega) ((hexP_take ss).1 (by assumption)) (by first | omega | (rw [List.length_drop] at *; omega))).trans (bodyN_bad (fun q => q.1 (List.length_eq_zero_iff.1 (by omega))))), hw'.sub (Sub.nil _)⟩) | (exact ⟨ret_parse (a := 0) (c := 10) ((parseN_hex (by omega) ((hexP_take ss).1 (by assumption)) (by first | omega | (rw [List.length_drop] at *; omega))).trans (bodyN_bad hbad)), hw'.sub (Sub.nil _)⟩) | (exact ⟨ret_parse (a := 0) (c := 10) ((parseN_hex (by omega) ((hexP_take ss).1 (by assumption)) (by first | omega | (rw [List.length_drop] at *; omega))).trans (bodyN_big hbig)), hw'.sub (Sub.nil _)⟩) | (exact ⟨ret_parse (a := numV 16 (ss.drop 2)) (c := 0) ((parseN_hex (by omega) ((hexP_take ss).1 (by assumption)) (by first | omega | (rw [List.length_drop] at *; omega))).trans (bodyN_ok hgood hval)), hw'.sub (Sub.nil _)⟩) | (exact ⟨ret_parse (a := 0) (c := 10) ((parseN_dec (by omega) (by first | exact fun q => absurd ((hexP_take ss).2 q) (by assumption) | exact fun q => by unfold hexP at q; omega)).trans (bodyN_bad (fun q => q.1 (List.length_eq_zero_iff.1 (by omega))))), hw'.sub (Sub.nil _)⟩) | (exact ⟨ret_parse (a := 0) (c := 10) ((parseN_dec (by omega) (by first | exact fun q => absurd ((hexP_take ss).2 q) (by assumption) | exact fun q => by unfold hexP at q; omega)).trans (bodyN_bad hbad)), hw'.sub (Sub.nil _)⟩) | (exact ⟨ret_parse (a := 0) (c := 10) ((parseN_dec (by omega) (by first | exact fun q => absurd ((hexP_take ss).2 q) (by assumption) | exact fun q => by unfold hexP at q; omega)).trans (bodyN_big hbig)), hw'.sub (Sub.nil _)⟩) | (exact ⟨ret_parse (a := numV 10 ss) (c := 0) ((parseN_dec (by omega) (by first | exact fun q => absurd ((hexP_take ss).2 q) (by assumption) | exact fun q => by unfold hexP at q; omega)).trans (bodyN_ok hgood hval)), hw'.sub (Sub.nil _)⟩))
          · skip
            refine J.no rfl rfl rfl rfl ?_
            refine J.no rfl rfl rfl rfl ?_
            refine J.no rfl rfl rfl rfl ?_
            refine J.yes rfl rfl ?_
            refine J.pick_f rfl rfl rfl ?_
            refine J.pick_f rfl rfl rfl ?_
            refine J.end ?_
            refine X.then ?_
            refine T.cond_false rfl ?_
            refine T.skip ?_
            refine X.then ?_
            refine T.seq ?_
            refine T.text [.l] rfl ?_
            refine J.alloc 5 rfl zero24 [.int .u64 0, .int .u64 0, .int .u64 0, .int .u64 0] rfl rfl (fun g5 hg5 => ?_)
            refine J.end ?_
            refine X.then ?_
            refine T.seq ?_
            refine T.seq ?_
            refine T.text [.l, .l, .l] rfl ?_
            refine J.move rfl rfl ?_
            refine J.lenStr Tryd.underlying9 rfl rfl ?_
            refine J.as 39 (.int .i64 ((ss.length : Nat) : Int)) rfl (by rw [bstr_size]) ?_
            refine J.move rfl rfl ?_
            refine J.end ?_
            refine X.then ?_
            refine T.block ?_
            refine T.asE 5 ⟨some g5, 24, wc (numV 10 (ss.take 0))⟩ rfl (by simp only [List.take_zero, numV, List.foldl_nil]; rfl) ?_
            refine T.loop (ι := Nat) (fun (j : Nat) => j ≤ ss.length ∧ numV 10 (ss.take j) < 2 ^ 256 ∧ (∀ q, q < j → okD 10 (ss.getD q 0))) (fun (j : Nat) => [(0, .string (bstr ss)), (2, .pointer (some ⟨g2, 0, none⟩)), (11, .string (bstr ss)), (12, .int .i64 ((ss.length : Nat) : Int)), (4, .int .u64 10), (15, .string (bstr ss)), (16, .int .i64 ((ss.length : Nat) : Int)), (18, .bool true), (19, .string (bstr ss)), (20, .string (bstr (ss.take 2))), (25, .string (bstr ss)), (26, .int .i64 ((ss.length : Nat) : Int)), (28, .bool false), (29, .int .u64 10), (31, .bool false), (32, undef), (33, undef), (34, undef), (35, .bool false), (36, .bool false), (5, .pointer (some ⟨g5, 0, none⟩)), (38, .string (bstr ss)), (39, .int .i64 ((ss.length : Nat) : Int)), (40, .int .i64 (j : Int))]) (fun (j : Nat) => [(2, ⟨some g2, 24, [.int .u64 0, .int .u64 0, .int .u64 0, .int .u64 0]⟩), (5, ⟨some g5, 24, wc (numV 10 (ss.take j))⟩)]) (fun (j : Nat) => ss.length - j) 0 ⟨Nat.zero_le _, by simp [numV], fun q hq => by omega⟩ (by repeat (first | exact Sub.nil _ | refine Sub.cons (by first | rfl | (rw [dgs_zero]; rfl) | (rw [List.drop_length]; rfl) | (simp; done) | (congr 2; omega) | (congr 3; omega)) ?_)) (by repeat (first | exact Sub.nil _ | refine Sub.cons (by first | rfl | (rw [dgs_zero]; rfl) | (rw [List.drop_length]; rfl) | (simp; done) | (congr 2; omega) | (congr 3; omega)) ?_)) ?_
            rintro j ⟨hj, hv, hok⟩
            refine T.seq ?_
            refine T.text [.l] rfl ?_
            refine J.lss rfl rfl rfl rfl ?_
            refine J.end ?_
            refine X.then ?_
            refine T.seq ?_
            refine T.cond_dec rfl (fun h22 => ?_) (fun h22 => ?_)
            · have hjl : j < ss.length := by omega
              have hs2 : Dg ss := hs
              have hcl := hs2.getD j
              have hvt := numV_take 10 ss j hjl
              refine T.skip ?_
              refine X.then ?_
              refine T.seq ?_
              refine T.block ?_
              refine T.seq ?_
              refine T.text [.l, .l] rfl ?_
              refine J.move rfl rfl ?_
              refine J.assign rfl rfl ?_
              refine J.end ?_
              refine X.then ?_
              refine T.seq ?_
              refine T.text [.l, .l, .l, .l, .l] rfl ?_
              refine J.move rfl rfl ?_
              refine J.move rfl rfl ?_
              refine J.indexStr Tryd.underlying9 rfl rfl (by omega) (by first | exact Int.toNat_natCast _ | rfl) (bstr_get ss j (by omega)) rfl ?_
              refine J.as 45 (.int .u8 ((ss.getD j 0 : Nat) : Int)) rfl (by rw [chr_dg hs2]) ?_
              refine J.call0 (k := .l) trivial fok137 rfl rfl (fun w hw => Wx.digit w _ (by omega)) ?_
              refine J.assign rfl rfl ?_
              refine J.end ?_
              refine X.then ?_
              refine T.seq ?_
              refine T.seq ?_
              refine T.text [.l, .l, .l] rfl ?_
              refine J.move rfl rfl ?_
              refine J.move rfl rfl ?_
              refine J.geq rfl rfl rfl rfl ?_
              refine J.end ?_
              refine X.then ?_
              refine T.cond_dec rfl (fun h23 => ?_) (fun h23 => ?_)
              · have hbad : ¬ okS 10 ss := okS_no hjl (fun q => by have := (digU_ok (by omega)).1 q; omega)
                refine T.seq ?_
                refine T.text [.l, .l, .l] rfl ?_
                refine J.build rfl rfl (W 0) (fun w => by kernel_rfl) ?_
                refine J.store 2 rfl rfl rfl rfl (wc 0) rfl sz24 (by first | decide | exact Nat.le_refl _ | exact Nat.le_of_ble_eq_true rfl | (simp [rowN]; done) | (simp [rowN]; omega)) (by first | exact rowN_one _ _ | (simp; done) | (intro u hu; simp at hu; subst hu; rfl) | (intro u hu; simp at hu; rcases hu with rfl | rfl <;> rfl)) (by first | decide | exact Nat.zero_lt_succ _ | simp) trivial (wc 0) rfl ?_
                refine J.assign rfl rfl ?_
                refine J.end ?_
                refine X.then ?_
                refine T.ret ?_
                refine X.then_ret (X.inBlock_ret (X.then_ret (X.then_ret (X.inBlock_ret (X.then_ret ?_)))))
                exact X.ret2 rfl (RV.agg 2 rfl rfl agg24 (wc 0) (by rfl) (by rfl) rfl) (RV.tmp rfl) (fun w' hw' => by first | (exact ⟨ret_parse (a := 0) (c := 2) (parseN_long (by omega)), hw'.sub (Sub.nil _)⟩) | (exact ⟨ret_parse (a := 0) (c := 10) (parseN_hexlong (by omega) ((hexP_take ss).1 (by assumption)) (by first | omega | (rw [List.length_drop] at *; omega))), hw'.sub (Sub.nil _)⟩) | (exact ⟨ret_parse (a := 0) (c := 10) ((parseN_hex (by omega) ((hexP_take ss).1 (by assumption)) (by first | omega | (rw [List.length_drop] at *; omega))).trans (bodyN_bad (fun q => q.1 (List.length_eq_zero_iff.1 (by omega))))), hw'.sub (Sub.nil _)⟩) | (exact ⟨ret_parse (a := 0) (c := 10) ((parseN_hex (by omega) ((hexP_take ss).1 (by assumption)) (by first | omega | (rw [List.length_drop] at *; omega))).trans (bodyN_bad hbad)), hw'.sub (Sub.nil _)⟩) | (exact ⟨ret_parse (a := 0) (c := 10) ((parseN_hex (by omega) ((hexP_take ss).1 (by assumption)) (by first | omega | (rw [List.length_drop] at *; omega))).trans (bodyN_big hbig)), hw'.sub (Sub.nil _)⟩) | (exact ⟨ret_parse (a := numV 16 (ss.drop 2)) (c := 0) ((parseN_hex (by omega) ((hexP_take ss).1 (by assumption)) (by first | omega | (rw [List.length_drop] at *; omega))).trans (bodyN_ok hgood hval)), hw'.sub (Sub.nil _)⟩) | (exact ⟨ret_parse (a := 0) (c := 10) ((parseN_dec (by omega) (by first | exact fun q => absurd ((hexP_take ss).2 q) (by assumption) | exact fun q => by unfold hexP at q; omega)).trans (bodyN_bad (fun q => q.1 (List.length_eq_zero_iff.1 (by omega))))), hw'.sub (Sub.nil _)⟩) | (exact ⟨ret_parse (a := 0) (c := 10) ((parseN_dec (by omega) (by first | exact fun q => absurd ((hexP_take ss).2 q) (by assumption) | exact fun q => by unfold hexP at q; omega)).trans (bodyN_bad hbad)), hw'.sub (Sub.nil _)⟩) | (exact ⟨ret_parse (a := 0) (c := 10) ((parseN_dec (by omega) (by first | exact fun q => absurd ((hexP_take ss).2 q) (by assumption) | exact fun q => by unfold hexP at q; omega)).trans (bodyN_big hbig)), hw'.sub (Sub.nil _)⟩) | (exact ⟨ret_parse (a := numV 10 ss) (c := 0) ((parseN_dec (by omega) (by first | exact fun q => absurd ((hexP_take ss).2 q) (by assumption) | exact fun q => by unfold hexP at q; omega)).trans (bodyN_ok hgood hval)), hw'.sub (Sub.nil _)⟩))
              · have hokj : okD 10 (ss.getD j 0) := (digU_ok (by omega)).2 (by omega)
                have hdg := digU_eq hokj
                refine T.skip ?_
                refine X.then ?_
                refine T.seq ?_
                refine T.text [.l, .l, .l, .l, .l, .l] rfl ?_
                refine J.loadN (k := .l) trivial 5 rfl rfl agg24 (wc (numV 10 (ss.take j))) rfl rfl rfl ?_
                refine J.move rfl rfl ?_
                refine J.build rfl rfl (.agg ([.int .u64 ((10 : Nat) : Int), .int .u64 0, .int .u64 0, .int .u64 0] : List Value).toArray) (fun w => by kernel_rfl) ?_
                refine J.as 53 (W (10)) rfl (W_small (by first | omega | (refine ⟨?_, ?_, ?_, ?_⟩ <;> omega))) ?_
                refine J.call0 (k := .l) trivial fok114 rfl rfl (fun w hw => Wb.times w _ _) ?_
                refine J.alloc 8 rfl zero67 [.int .u64 0, .int .u64 0, .int .u64 0, .int .u64 0, .int .u64 0, .int .u64 0, .int .u64 0, .int .u64 0] rfl rfl (fun g8 hg8 => ?_)
                refine J.store 8 rfl rfl rfl rfl (lc (((numV 10 (ss.take j))) % 2 ^ 256 * ((10) % 2 ^ 256))) rfl sz67 (by first | decide | exact Nat.le_refl _ | exact Nat.le_of_ble_eq_true rfl | (simp [rowN]; done) | (simp [rowN]; omega)) (by first | exact rowN_one _ _ | (simp; done) | (intro u hu; simp at hu; subst hu; rfl) | (intro u hu; simp at hu; rcases hu with rfl | rfl <;> rfl)) (by first | decide | exact Nat.zero_lt_succ _ | simp) trivial (lc (((numV 10 (ss.take j))) % 2 ^ 256 * ((10) % 2 ^ 256))) rfl ?_
                refine J.end ?_
                refine X.then ?_
                refine T.seq ?_
                refine T.text [.l, .l, .l, .l, .l, .l, .l, .l, .l, .l, .l, .l] rfl ?_
                refine J.sliceArr arr67 rfl optInt.none (optInt.some rfl (by omega) (by rfl)) optInt.none (by simp) (by omega) (by omega) (by omega) rfl rfl ?_
                refine J.toArr Tryd.underlying24 rfl (by decide) rfl ?_
                refine J.loadW (k := .l) trivial 8 rfl rfl agg24 (by first | rfl | with_reducible exact rowW_seg0 _ _ _ (by omega) | with_reducible exact rowW_seg00 _ _ (by omega) | with_reducible exact rowW_segs _ _ _ (by omega) | with_reducible exact rowW_seg _ _ (by omega) | with_reducible exact rowW_segb _ _ _ (by omega) | exact rowW_seg _ _ (by omega) | exact rowW_segs _ _ _ (by omega)) rfl ?_
                refine J.move rfl rfl ?_
                refine J.build rfl rfl (.agg ([.int .u64 ((digU (ss.getD j 0) : Nat) : Int), .int .u64 0, .int .u64 0, .int .u64 0] : List Value).toArray) (fun w => by kernel_rfl) ?_
                refine J.as 60 (W (digU (ss.getD j 0))) rfl (W_small (by first | omega | (refine ⟨?_, ?_, ?_, ?_⟩ <;> omega))) ?_
                refine J.call0 (k := .l) trivial fok107 rfl rfl (fun w hw => Wa.plus w _ _) ?_
                refine J.move rfl rfl ?_
                refine J.extract rfl rfl rfl ?_
                refine J.extract rfl rfl rfl ?_
                refine J.alloc 9 rfl zero24 [.int .u64 0, .int .u64 0, .int .u64 0, .int .u64 0] rfl rfl (fun g9 hg9 => ?_)
                refine J.store 9 rfl rfl rfl rfl _ rfl sz24 (by first | decide | exact Nat.le_refl _ | exact Nat.le_of_ble_eq_true rfl | (simp [rowN]; done) | (simp [rowN]; omega)) (by first | exact rowN_one _ _ | (simp; done) | (intro u hu; simp at hu; subst hu; rfl) | (intro u hu; simp at hu; rcases hu with rfl | rfl <;> rfl)) (by first | decide | exact Nat.zero_lt_succ _ | simp) trivial _ rfl ?_
                refine J.assign rfl rfl ?_
                refine J.end ?_
                refine X.then ?_
                refine T.seq ?_
                refine T.seq ?_
                refine T.text [.l, .l, .l, .l, .l, .l, .l] rfl ?_
                refine J.indexArr arr67 rfl rfl (by omega) (by omega) (by rfl) rfl ?_
                refine J.load1 (k := .l) trivial 8 rfl rfl one22 (by first | rfl | with_reducible exact rowN_get0 _ _ _ (by omega) | with_reducible exact rowN_get1 _ _ _ (by omega) | with_reducible exact rowN_get1s _ _ _ _ (by omega) | exact rowN_get1 _ _ _ (by omega) | exact rowN_get1s _ _ _ _ (by omega) | exact rowN_get0 _ _ _ (by omega)) rfl ?_
                refine J.gtr rfl rfl rfl rfl ?_
                refine J.move rfl rfl ?_
                refine J.split 67 rfl (fun h24 => ?_) (fun h24 => ?_)
                · have hbig := numV_big (b := 10) (ss := ss) (by decide) (show j + 1 ≤ _ by omega) (by rw [hvt, hdg]; exact round_big1 hv (by decide) h24)
                  refine J.no rfl rfl rfl rfl ?_
                  refine J.no rfl rfl rfl rfl ?_
                  refine J.pick_t rfl rfl rfl ?_
                  refine J.end ?_
                  refine X.then ?_
                  refine T.cond_true rfl ?_
                  refine T.seq ?_
                  refine T.text [.l, .l, .l] rfl ?_
                  refine J.build rfl rfl (W 0) (fun w => by kernel_rfl) ?_
                  refine J.store 2 rfl rfl rfl rfl (wc 0) rfl sz24 (by first | decide | exact Nat.le_refl _ | exact Nat.le_of_ble_eq_true rfl | (simp [rowN]; done) | (simp [rowN]; omega)) (by first | exact rowN_one _ _ | (simp; done) | (intro u hu; simp at hu; subst hu; rfl) | (intro u hu; simp at hu; rcases hu with rfl | rfl <;> rfl)) (by first | decide | exact Nat.zero_lt_succ _ | simp) trivial (wc 0) rfl ?_
                  refine J.assign rfl rfl ?_
                  refine J.end ?_
                  refine X.then ?_
                  refine T.ret ?_
                  refine X.then_ret (X.inBlock_ret (X.then_ret (X.then_ret (X.inBlock_ret (X.then_ret ?_)))))
                  exact X.ret2 rfl (RV.agg 2 rfl rfl agg24 (wc 0) (by rfl) (by rfl) rfl) (RV.tmp rfl) (fun w' hw' => by first | (exact ⟨ret_parse (a := 0) (c := 2) (parseN_long (by omega)), hw'.sub (Sub.nil _)⟩) | (exact ⟨ret_parse (a := 0) (c := 10) (parseN_hexlong (by omega) ((hexP_take ss).1 (by assumption)) (by first | omega | (rw [List.length_drop] at *; omega))), hw'.sub (Sub.nil _)⟩) | (exact ⟨ret_parse (a := 0) (c := 10) ((parseN_hex (by omega) ((hexP_take ss).1 (by assumption)) (by first | omega | (rw [List.length_drop] at *; omega))).trans (bodyN_bad (fun q => q.1 (List.length_eq_zero_iff.1 (by omega))))), hw'.sub (Sub.nil _)⟩) | (exact ⟨ret_parse (a := 0) (c := 10) ((parseN_hex (by omega) ((hexP_take ss).1 (by assumption)) (by first | omega | (rw [List.length_drop] at *; omega))).trans (bodyN_bad hbad)), hw'.sub (Sub.nil _)⟩) | (exact ⟨ret_parse (a := 0) (c := 10) ((parseN_hex (by omega) ((hexP_take ss).1 (by assumption)) (by first | omega | (rw [List.length_drop] at *; omega))).trans (bodyN_big hbig)), hw'.sub (Sub.nil _)⟩) | (exact ⟨ret_parse (a := numV 16 (ss.drop 2)) (c := 0) ((parseN_hex (by omega) ((hexP_take ss).1 (by assumption)) (by first | omega | (rw [List.length_drop] at *; omega))).trans (bodyN_ok hgood hval)), hw'.sub (Sub.nil _)⟩) | (exact ⟨ret_parse (a := 0) (c := 10) ((parseN_dec (by omega) (by first | exact fun q => absurd ((hexP_take ss).2 q) (by assumption) | exact fun q => by unfold hexP at q; omega)).trans (bodyN_bad (fun q => q.1 (List.length_eq_zero_iff.1 (by omega))))), hw'.sub (Sub.nil _)⟩) | (exact ⟨ret_parse (a := 0) (c := 10) ((parseN_dec (by omega) (by first | exact fun q => absurd ((hexP_take ss).2 q) (by assumption) | exact fun q => by unfold hexP at q; omega)).trans (bodyN_bad hbad)), hw'.sub (Sub.nil _)⟩) | (exact ⟨ret_parse (a := 0) (c := 10) ((parseN_dec (by omega) (by first | exact fun q => absurd ((hexP_take ss).2 q) (by assumption) | exact fun q => by unfold hexP at q; omega)).trans (bodyN_big hbig)), hw'.sub (Sub.nil _)⟩) | (exact ⟨ret_parse (a := numV 10 ss) (c := 0) ((parseN_dec (by omega) (by first | exact fun q => absurd ((hexP_take ss).2 q) (by assumption) | exact fun q => by unfold hexP at q; omega)).trans (bodyN_ok hgood hval)), hw'.sub (Sub.nil _)⟩))
                · have hp := h24
                  refine J.yes rfl rfl ?_
                  refine J.move rfl rfl ?_
                  refine J.yes rfl rfl ?_
                  refine J.gtr rfl rfl rfl rfl ?_
                  refine J.pick_f rfl rfl rfl ?_
                  refine J.end ?_
                  refine X.then ?_
                  refine T.cond_dec rfl (fun h25 => ?_) (fun h25 => ?_)
                  · have hbig := numV_big (b := 10) (ss := ss) (by decide) (show j + 1 ≤ _ by omega) (by rw [hvt, hdg]; exact round_big2 hv (by decide) (by omega) hp h25)
                    refine T.seq ?_
                    refine T.text [.l, .l, .l] rfl ?_
                    refine J.build rfl rfl (W 0) (fun w => by kernel_rfl) ?_
                    refine J.store 2 rfl rfl rfl rfl (wc 0) rfl sz24 (by first | decide | exact Nat.le_refl _ | exact Nat.le_of_ble_eq_true rfl | (simp [rowN]; done) | (simp [rowN]; omega)) (by first | exact rowN_one _ _ | (simp; done) | (intro u hu; simp at hu; subst hu; rfl) | (intro u hu; simp at hu; rcases hu with rfl | rfl <;> rfl)) (by first | decide | exact Nat.zero_lt_succ _ | simp) trivial (wc 0) rfl ?_
                    refine J.assign rfl rfl ?_
                    refine J.end ?_
                    refine X.then ?_
                    refine T.ret ?_
                    refine X.then_ret (X.inBlock_ret (X.then_ret (X.then_ret (X.inBlock_ret (X.then_ret ?_)))))
                    exact X.ret2 rfl (RV.agg 2 rfl rfl agg24 (wc 0) (by rfl) (by rfl) rfl) (RV.tmp rfl) (fun w' hw' => by first | (exact ⟨ret_parse (a := 0) (c := 2) (parseN_long (by omega)), hw'.sub (Sub.nil _)⟩) | (exact ⟨ret_parse (a := 0) (c := 10) (parseN_hexlong (by omega) ((hexP_take ss).1 (by assumption)) (by first | omega | (rw [List.length_drop] at *; omega))), hw'.sub (Sub.nil _)⟩) | (exact ⟨ret_parse (a := 0) (c := 10) ((parseN_hex (by omega) ((hexP_take ss).1 (by assumption)) (by first | omega | (rw [List.length_drop] at *; omega))).trans (bodyN_bad (fun q => q.1 (List.length_eq_zero_iff.1 (by omega))))), hw'.sub (Sub.nil _)⟩) | (exact ⟨ret_parse (a := 0) (c := 10) ((parseN_hex (by omega) ((hexP_take ss).1 (by assumption)) (by first | omega | (rw [List.length_drop] at *; omega))).trans (bodyN_bad hbad)), hw'.sub (Sub.nil _)⟩) | (exact ⟨ret_parse (a := 0) (c := 10) ((parseN_hex (by omega) ((hexP_take ss).1 (by assumption)) (by first | omega | (rw [List.length_drop] at *; omega))).trans (bodyN_big hbig)), hw'.sub (Sub.nil _)⟩) | (exact ⟨ret_parse (a := numV 16 (ss.drop 2)) (c := 0) ((parseN_hex (by omega) ((hexP_take ss).1 (by assumption)) (by first | omega | (rw [List.length_drop] at *; omega))).trans (bodyN_ok hgood hval)), hw'.sub (Sub.nil _)⟩) | (exact ⟨ret_parse (a := 0) (c := 10) ((parseN_dec (by omega) (by first | exact fun q => absurd ((hexP_take ss).2 q) (by assumption) | exact fun q => by unfold hexP at q; omega)).trans (bodyN_bad (fun q => q.1 (List.length_eq_zero_iff.1 (by omega))))), hw'.sub (Sub.nil _)⟩) | (exact ⟨ret_parse (a := 0) (c := 10) ((parseN_dec (by omega) (by first | exact fun q => absurd ((hexP_take ss).2 q) (by assumption) | exact fun q => by unfold hexP at q; omega)).trans (bodyN_bad hbad)), hw'.sub (Sub.nil _)⟩) | (exact ⟨ret_parse (a := 0) (c := 10) ((parseN_dec (by omega) (by first | exact fun q => absurd ((hexP_take ss).2 q) (by assumption) | exact fun q => by unfold hexP at q; omega)).trans (bodyN_big hbig)), hw'.sub (Sub.nil _)⟩) | (exact ⟨ret_parse (a := numV 10 ss) (c := 0) ((parseN_dec (by omega) (by first | exact fun q => absurd ((hexP_take ss).2 q) (by assumption) | exact fun q => by unfold hexP at q; omega)).trans (bodyN_ok hgood hval)), hw'.sub (Sub.nil _)⟩))
                  · have hfin := round_fin hv (by decide) (show digU (ss.getD j 0) < 16 by omega) hp h25
                    have hvn : numV 10 (ss.take (j + 1)) < 2 ^ 256 := by rw [hvt, hdg]; exact hfin.1
                    refine T.asE 9 ⟨some g9, 24, wc (numV 10 (ss.take (j + 1)))⟩ rfl (by rw [hvt, hdg, ← (round_p (d := 0) hv (by decide) hp).1]; rfl) ?_
                    have hok2 := okD_next hok hokj
                    refine T.skip ?_
                    refine X.then ?_
                    refine T.text [.l, .l] rfl ?_
                    refine J.loadN (k := .l) trivial 9 rfl rfl agg24 (wc (numV 10 (ss.take (j + 1)))) rfl rfl rfl ?_
                    refine J.store 5 rfl rfl rfl rfl (wc (numV 10 (ss.take (j + 1)))) rfl sz24 (by first | decide | exact Nat.le_refl _ | exact Nat.le_of_ble_eq_true rfl | (simp [rowN]; done) | (simp [rowN]; omega)) (by first | exact rowN_one _ _ | (simp; done) | (intro u hu; simp at hu; subst hu; rfl) | (intro u hu; simp at hu; rcases hu with rfl | rfl <;> rfl)) (by first | decide | exact Nat.zero_lt_succ _ | simp) trivial (wc (numV 10 (ss.take (j + 1)))) rfl ?_
                    refine J.end ?_
                    refine X.inBlock (X.then ?_)
                    refine T.text [.l, .l] rfl ?_
                    refine J.add rfl rfl rfl (by first | exact add_nat _ 1 (by omega) | exact i64_ok _ (by omega) | exact rfl) ?_
                    refine J.move rfl rfl ?_
                    refine J.end ?_
                    exact X.round (j + 1) ⟨by omega, hvn, hok2⟩ (by first | omega | (dsimp only; omega)) (by repeat (first | exact Sub.nil _ | refine Sub.cons (by first | rfl | (rw [dgs_zero]; rfl) | (rw [List.drop_length]; rfl) | (simp; done) | (congr 2; omega) | (congr 3; omega)) ?_)) (by repeat (first | exact Sub.nil _ | refine Sub.cons (by first | rfl | (rw [dgs_zero]; rfl) | (rw [List.drop_length]; rfl) | (simp; done) | (congr 2; omega) | (congr 3; omega)) ?_))
            · obtain rfl : j = ss.length := by omega
              rw [List.take_length] at hv
              have hgood := okS_yes (by omega) hok
              have hval := hv
              refine T.asE 5 ⟨some g5, 24, wc (numV 10 ss)⟩ rfl (by rw [List.take_length]) ?_
              refine T.exit ?_
              refine X.then_exit (X.then_exit (X.inBlock_eq (X.then ?_)))
              refine T.seq ?_
              refine T.text [.l, .l, .l] rfl ?_
              refine J.loadN (k := .l) trivial 5 rfl rfl agg24 (wc (numV 10 ss)) rfl rfl rfl ?_
              refine J.store 2 rfl rfl rfl rfl (wc (numV 10 ss)) rfl sz24 (by first | decide | exact Nat.le_refl _ | exact Nat.le_of_ble_eq_true rfl | (simp [rowN]; done) | (simp [rowN]; omega)) (by first | exact rowN_one _ _ | (simp; done) | (intro u hu; simp at hu; subst hu; rfl) | (intro u hu; simp at hu; rcases hu with rfl | rfl <;> rfl)) (by first | decide | exact Nat.zero_lt_succ _ | simp) trivial (wc (numV 10 ss)) rfl ?_
              refine J.assign rfl rfl ?_
              refine J.end ?_
              refine X.then ?_
              refine T.ret ?_
              exact X.ret2 rfl (RV.agg 2 rfl rfl agg24 (wc (numV 10 ss)) (by rfl) (by rfl) rfl) (RV.tmp rfl) (fun w' hw' => by first | (exact ⟨ret_parse (a := 0) (c := 2) (parseN_long (by omega)), hw'.sub (Sub.nil _)⟩) | (exact ⟨ret_parse (a := 0) (c := 10) (parseN_hexlong (by omega) ((hexP_take ss).1 (by assumption)) (by first | omega | (rw [List.length_drop] at *; omega))), hw'.sub (Sub.nil _)⟩) | (exact ⟨ret_parse (a := 0) (c := 10) ((parseN_hex (by omega) ((hexP_take ss).1 (by assumption)) (by first | omega | (rw [List.length_drop] at *; omega))).trans (bodyN_bad (fun q => q.1 (List.length_eq_zero_iff.1 (by omega))))), hw'.sub (Sub.nil _)⟩) | (exact ⟨ret_parse (a := 0) (c := 10) ((parseN_hex (by omega) ((hexP_take ss).1 (by assumption)) (by first | omega | (rw [List.length_drop] at *; omega))).trans (bodyN_bad hbad)), hw'.sub (Sub.nil _)⟩) | (exact ⟨ret_parse (a := 0) (c := 10) ((parseN_hex (by omega) ((hexP_take ss).1 (by assumption)) (by first | omega | (rw [List.length_drop] at *; omega))).trans (bodyN_big hbig)), hw'.sub (Sub.nil _)⟩) | (exact ⟨ret_parse (a := numV 16 (ss.drop 2)) (c := 0) ((parseN_hex (by omega) ((hexP_take ss).1 (by assumption)) (by first | omega | (rw [List.length_drop] at *; omega))).trans (bodyN_ok hgood hval)), hw'.sub (Sub.nil _)⟩) | (exact ⟨ret_parse (a := 0) (c := 10) ((parseN_dec (by omega) (by first | exact fun q => absurd ((hexP_take ss).2 q) (by assumption) | exact fun q => by unfold hexP at q; omega)).trans (bodyN_bad (fun q => q.1 (List.length_eq_zero_iff.1 (by omega))))), hw'.sub (Sub.nil _)⟩) | (exact ⟨ret_parse (a := 0) (c := 10) ((parseN_dec (by omega) (by first | exact fun q => absurd ((hexP_take ss).2 q) (by assumption) | exact fun q => by unfold hexP at q; omega)).trans (bodyN_bad hbad)), hw'.sub (Sub.nil _)⟩) | (exact ⟨ret_parse (a := 0) (c := 10) ((parseN_dec (by omega) (by first | exact fun q => absurd ((hexP_take ss).2 q) (by assumption) | exact fun q => by unfold hexP at q; omega)).trans (bodyN_big hbig)), hw'.sub (Sub.nil _)⟩) | (exact ⟨ret_parse (a := numV 10 ss) (c := 0) ((parseN_dec (by omega) (by first | exact fun q => absurd ((hexP_take ss).2 q) (by assumption) | exact fun q => by unfold hexP at q; omega)).trans (bodyN_ok hgood hval)), hw'.sub (Sub.nil _)⟩))
    · skip
      refine J.no rfl rfl rfl rfl ?_
      refine J.no rfl rfl rfl rfl ?_
      refine J.no rfl rfl rfl rfl ?_
      refine J.pick_f rfl rfl rfl ?_
      refine J.end ?_
      refine X.then ?_
      refine T.cond_false rfl ?_
      refine T.skip ?_
      refine X.then ?_
      refine T.seq ?_
      refine T.seq ?_
      refine T.text [.l, .l, .l, .l, .l, .l, .l, .l, .l, .l, .l, .l] rfl ?_
      refine J.move rfl rfl ?_
      refine J.lenStr Tryd.underlying9 rfl rfl ?_
      refine J.as 26 (.int .i64 ((ss.length : Nat) : Int)) rfl (by rw [bstr_size]) ?_
      refine J.eql rfl rfl rfl rfl ?_
      refine J.move rfl rfl ?_
      refine J.split 28 rfl (fun h26 => ?_) (fun h26 => ?_)
      · skip
        refine J.no rfl rfl rfl rfl ?_
        refine J.no rfl rfl rfl rfl ?_
        refine J.no rfl rfl rfl rfl ?_
        refine J.noU rfl rfl rfl ?_
        refine J.noU rfl rfl rfl ?_
        refine J.noU rfl rfl rfl ?_
        refine J.no rfl rfl rfl rfl ?_
        refine J.pick_t rfl rfl rfl ?_
        refine J.end ?_
        refine X.then ?_
        refine T.cond_true rfl ?_
        refine T.seq ?_
        refine T.text [.l, .l, .l] rfl ?_
        refine J.build rfl rfl (W 0) (fun w => by kernel_rfl) ?_
        refine J.store 2 rfl rfl rfl rfl (wc 0) rfl sz24 (by first | decide | exact Nat.le_refl _ | exact Nat.le_of_ble_eq_true rfl | (simp [rowN]; done) | (simp [rowN]; omega)) (by first | exact rowN_one _ _ | (simp; done) | (intro u hu; simp at hu; subst hu; rfl) | (intro u hu; simp at hu; rcases hu with rfl | rfl <;> rfl)) (by first | decide | exact Nat.zero_lt_succ _ | simp) trivial (wc 0) rfl ?_
        refine J.assign rfl rfl ?_
        refine J.end ?_
        refine X.then ?_
        refine T.ret ?_
        refine X.then_ret ?_
        exact X.ret2 rfl (RV.agg 2 rfl rfl agg24 (wc 0) (by rfl) (by rfl) rfl) (RV.tmp rfl) (fun w' hw' => by first | (exact ⟨ret_parse (a := 0) (c := 2) (parseN_long (by omega)), hw'.sub (Sub.nil _)⟩) | (exact ⟨ret_parse (a := 0) (c := 10) (parseN_hexlong (by omega) ((hexP_take ss).1 (by assumption)) (by first | omega | (rw [List.length_drop] at *; omega))), hw'.sub (Sub.nil _)⟩) | (exact ⟨ret_parse (a := 0) (c := 10) ((parseN_hex (by omega) ((hexP_take ss).1 (by assumption)) (by first | omega | (rw [List.length_drop] at *; omega))).trans (bodyN_bad (fun q => q.1 (List.length_eq_zero_iff.1 (by omega))))), hw'.sub (Sub.nil _)⟩) | (exact ⟨ret_parse (a := 0) (c := 10) ((parseN_hex (by omega) ((hexP_take ss).1 (by assumption)) (by first | omega | (rw [List.length_drop] at *; omega))).trans (bodyN_bad hbad)), hw'.sub (Sub.nil _)⟩) | (exact ⟨ret_parse (a := 0) (c := 10) ((parseN_hex (by omega) ((hexP_take ss).1 (by assumption)) (by first | omega | (rw [List.length_drop] at *; omega))).trans (bodyN_big hbig)), hw'.sub (Sub.nil _)⟩) | (exact ⟨ret_parse (a := numV 16 (ss.drop 2)) (c := 0) ((parseN_hex (by omega) ((hexP_take ss).1 (by assumption)) (by first | omega | (rw [List.length_drop] at *; omega))).trans (bodyN_ok hgood hval)), hw'.sub (Sub.nil _)⟩) | (exact ⟨ret_parse (a := 0) (c := 10) ((parseN_dec (by omega) (by first | exact fun q => absurd ((hexP_take ss).2 q) (by assumption) | exact fun q => by unfold hexP at q; omega)).trans (bodyN_bad (fun q => q.1 (List.length_eq_zero_iff.1 (by omega))))), hw'.sub (Sub.nil _)⟩) | (exact ⟨ret_parse (a := 0) (c := 10) ((parseN_dec (by omega) (by first | exact fun q => absurd ((hexP_take ss).2 q) (by assumption) | exact fun q => by unfold hexP at q; omega)).trans (bodyN_bad hbad)), hw'.sub (Sub.nil _)⟩) | (exact ⟨ret_parse (a := 0) (c := 10) ((parseN_dec (by omega) (by first | exact fun q => absurd ((hexP_take ss).2 q) (by assumption) | exact fun q => by unfold hexP at q; omega)).trans (bodyN_big hbig)), hw'.sub (Sub.nil _)⟩) | (exact ⟨ret_parse (a := numV 10 ss) (c := 0) ((parseN_dec (by omega) (by first | exact fun q => absurd ((hexP_take ss).2 q) (by assumption) | exact fun q => by unfold hexP at q; omega)).trans (bodyN_ok hgood hval)), hw'.sub (Sub.nil _)⟩))
      · skip
        refine J.yes rfl rfl ?_
        refine J.move rfl rfl ?_
        refine J.yes rfl rfl ?_
        refine J.eql rfl rfl rfl rfl ?_
        refine J.yes rfl rfl ?_
        refine J.move rfl rfl ?_
        refine J.split 31 rfl (fun h27 => ?_) (fun h27 => ?_)
        · skip
          refine J.yes rfl rfl ?_
          refine J.move rfl rfl ?_
          refine J.yes rfl rfl ?_
          refine J.lenStr Tryd.underlying9 rfl rfl ?_
          refine J.as 33 (.int .i64 ((ss.length : Nat) : Int)) rfl (by rw [bstr_size]) ?_
          refine J.yes rfl rfl ?_
          refine J.gtr rfl rfl rfl rfl ?_
          refine J.yes rfl rfl ?_
          refine J.pick_t rfl rfl rfl ?_
          refine J.pick_f rfl rfl rfl ?_
          refine J.end ?_
          refine X.then ?_
          refine T.cond_dec rfl (fun h28 => ?_) (fun h28 => ?_)
          · skip
            refine T.seq ?_
            refine T.text [.l, .l, .l] rfl ?_
            refine J.build rfl rfl (W 0) (fun w => by kernel_rfl) ?_
            refine J.store 2 rfl rfl rfl rfl (wc 0) rfl sz24 (by first | decide | exact Nat.le_refl _ | exact Nat.le_of_ble_eq_true rfl | (simp [rowN]; done) | (simp [rowN]; omega)) (by first | exact rowN_one _ _ | (simp; done) | (intro u hu; simp at hu; subst hu; rfl) | (intro u hu; simp at hu; rcases hu with rfl | rfl <;> rfl)) (by first | decide | exact Nat.zero_lt_succ _ | simp) trivial (wc 0) rfl ?_
            refine J.assign rfl rfl ?_
            refine J.end ?_
            refine X.then ?_
            refine T.ret ?_
            refine X.then_ret ?_
            exact X.ret2 rfl (RV.agg 2 rfl rfl agg24 (wc 0) (by rfl) (by rfl) rfl) (RV.tmp rfl) (fun w' hw' => by first | (exact ⟨ret_parse (a := 0) (c := 2) (parseN_long (by omega)), hw'.sub (Sub.nil _)⟩) | (exact ⟨ret_parse (a := 0) (c := 10) (parseN_hexlong (by omega) ((hexP_take ss).1 (by assumption)) (by first | omega | (rw [List.length_drop] at *; omega))), hw'.sub (Sub.nil _)⟩) | (exact ⟨ret_parse (a := 0) (c := 10) ((parseN_hex (by omega) ((hexP_take ss).1 (by assumption)) (by first | omega | (rw [List.length_drop] at *; omega))).trans (bodyN_bad (fun q => q.1 (List.length_eq_zero_iff.1 (by omega))))), hw'.sub (Sub.nil _)⟩) | (exact ⟨ret_parse (a := 0) (c := 10) ((parseN_hex (by omega) ((hexP_take ss).1 (by assumption)) (by first | omega | (rw [List.length_drop] at *; omega))).trans (bodyN_bad hbad)), hw'.sub (Sub.nil _)⟩) | (exact ⟨ret_parse (a := 0) (c := 10) ((parseN_hex (by omega) ((hexP_take ss).1 (by assumption)) (by first | omega | (rw [List.length_drop] at *; omega))).trans (bodyN_big hbig)), hw'.sub (Sub.nil _)⟩) | (exact ⟨ret_parse (a := numV 16 (ss.drop 2)) (c := 0) ((parseN_hex (by omega) ((hexP_take ss).1 (by assumption)) (by first | omega | (rw [List.length_drop] at *; omega))).trans (bodyN_ok hgood hval)), hw'.sub (Sub.nil _)⟩) | (exact ⟨ret_parse (a := 0) (c := 10) ((parseN_dec (by omega) (by first | exact fun q => absurd ((hexP_take ss).2 q) (by assumption) | exact fun q => by unfold hexP at q; omega)).trans (bodyN_bad (fun q => q.1 (List.length_eq_zero_iff.1 (by omega))))), hw'.sub (Sub.nil _)⟩) | (exact ⟨ret_parse (a := 0) (c := 10) ((parseN_dec (by omega) (by first | exact fun q => absurd ((hexP_take ss).2 q) (by assumption) | exact fun q => by unfold hexP at q; omega)).trans (bodyN_bad hbad)), hw'.sub (Sub.nil _)⟩) | (exact ⟨ret_parse (a := 0) (c := 10) ((parseN_dec (by omega) (by first | exact fun q => absurd ((hexP_take ss).2 q) (by assumption) | exact fun q => by unfold hexP at q; omega)).trans (bodyN_big hbig)), hw'.sub (Sub.nil _)⟩) | (exact ⟨ret_parse (a := numV 10 ss) (c := 0) ((parseN_dec (by omega) (by first | exact fun q => absurd ((hexP_take ss).2 q) (by assumption) | exact fun q => by unfold hexP at q; omega)).trans (bodyN_ok hgood hval)), hw'.sub (Sub.nil _)⟩))
          · skip
            refine T.skip ?_
            refine X.then ?_
            refine T.seq ?_
            refine T.text [.l] rfl ?_
            refine J.alloc 5 rfl zero24 [.int .u64 0, .int .u64 0, .int .u64 0, .int .u64 0] rfl rfl (fun g5 hg5 => ?_)
            refine J.end ?_
            refine X.then ?_
            refine T.seq ?_
            refine T.seq ?_
            refine T.text [.l, .l, .l] rfl ?_
            refine J.move rfl rfl ?_
            refine J.lenStr Tryd.underlying9 rfl rfl ?_
            refine J.as 39 (.int .i64 ((ss.length : Nat) : Int)) rfl (by rw [bstr_size]) ?_
            refine J.move rfl rfl ?_
            refine J.end ?_
            refine X.then ?_
            refine T.block ?_
            refine T.asE 5 ⟨some g5, 24, wc (numV 10 (ss.take 0))⟩ rfl (by simp only [List.take_zero, numV, List.foldl_nil]; rfl) ?_
            refine T.loop (ι := Nat) (fun (j : Nat) => j ≤ ss.length ∧ numV 10 (ss.take j) < 2 ^ 256 ∧ (∀ q, q < j → okD 10 (ss.getD q 0))) (fun (j : Nat) => [(0, .string (bstr ss)), (2, .pointer (some ⟨g2, 0, none⟩)), (11, .string (bstr ss)), (12, .int .i64 ((ss.length : Nat) : Int)), (4, .int .u64 10), (15, .string (bstr ss)), (16, .int .i64 ((ss.length : Nat) : Int)), (18, .bool false), (19, undef), (20, undef), (21, undef), (22, .bool false), (25, .string (bstr ss)), (26, .int .i64 ((ss.length : Nat) : Int)), (28, .bool false), (29, .int .u64 10), (31, .bool true), (32, .string (bstr ss)), (33, .int .i64 ((ss.length : Nat) : Int)), (5, .pointer (some ⟨g5, 0, none⟩)), (38, .string (bstr ss)), (39, .int .i64 ((ss.length : Nat) : Int)), (40, .int .i64 (j : Int))]) (fun (j : Nat) => [(2, ⟨some g2, 24, [.int .u64 0, .int .u64 0, .int .u64 0, .int .u64 0]⟩), (5, ⟨some g5, 24, wc (numV 10 (ss.take j))⟩)]) (fun (j : Nat) => ss.length - j) 0 ⟨Nat.zero_le _, by simp [numV], fun q hq => by omega⟩ (by repeat (first | exact Sub.nil _ | refine Sub.cons (by first | rfl | (rw [dgs_zero]; rfl) | (rw [List.drop_length]; rfl) | (simp; done) | (congr 2; omega) | (congr 3; omega)) ?_)) (by repeat (first | exact Sub.nil _ | refine Sub.cons (by first | rfl | (rw [dgs_zero]; rfl) | (rw [List.drop_length]; rfl) | (simp; done) | (congr 2; omega) | (congr 3; omega)) ?_)) ?_
            rintro j ⟨hj, hv, hok⟩
            refine T.seq ?_
            refine T.text [.l] rfl ?_
            refine J.lss rfl rfl rfl rfl ?_
            refine J.end ?_
            refine X.then ?_
            refine T.seq ?_
            refine T.cond_dec rfl (fun h29 => ?_) (fun h29 => ?_)
            · have hjl : j < ss.length := by omega
              have hs2 : Dg ss := hs
              have hcl := hs2.getD j
              have hvt := numV_take 10 ss j hjl
              refine T.skip ?_
              refine X.then ?_
              refine T.seq ?_
              refine T.block ?_
              refine T.seq ?_
              refine T.text [.l, .l] rfl ?_
              refine J.move rfl rfl ?_
              refine J.assign rfl rfl ?_
              refine J.end ?_
              refine X.then ?_
              refine T.seq ?_
              refine T.text [.l, .l, .l, .l, .l] rfl ?_
              refine J.move rfl rfl ?_
              refine J.move rfl rfl ?_
              refine J.indexStr Tryd.underlying9 rfl rfl (by omega) (by first | exact Int.toNat_natCast _ | rfl) (bstr_get ss j (by omega)) rfl ?_
              refine J.as 45 (.int .u8 ((ss.getD j 0 : Nat) : Int)) rfl (by rw [chr_dg hs2]) ?_
              refine J.call0 (k := .l) trivial fok137 rfl rfl (fun w hw => Wx.digit w _ (by omega)) ?_
              refine J.assign rfl rfl ?_
              refine J.end ?_
              refine X.then ?_
              refine T.seq ?_
              refine T.seq ?_
              refine T.text [.l, .l, .l] rfl ?_
              refine J.move rfl rfl ?_
              refine J.move rfl rfl ?_
              refine J.geq rfl rfl rfl rfl ?_
              refine J.end ?_
              refine X.then ?_
              refine T.cond_dec rfl (fun h30 => ?_) (fun h30 => ?_)
              · have hbad : ¬ okS 10 ss := okS_no hjl (fun q => by have := (digU_ok (by omega)).1 q; omega)
                refine T.seq ?_
                refine T.text [.l, .l, .l] rfl ?_
                refine J.build rfl rfl (W 0) (fun w => by kernel_rfl) ?_
                refine J.store 2 rfl rfl rfl rfl (wc 0) rfl sz24 (by first | decide | exact Nat.le_refl _ | exact Nat.le_of_ble_eq_true rfl | (simp [rowN]; done) | (simp [rowN]; omega)) (by first | exact rowN_one _ _ | (simp; done) | (intro u hu; simp at hu; subst hu; rfl) | (intro u hu; simp at hu; rcases hu with rfl | rfl <;> rfl)) (by first | decide | exact Nat.zero_lt_succ _ | simp) trivial (wc 0) rfl ?_
                refine J.assign rfl rfl ?_
                refine J.end ?_
                refine X.then ?_
                refine T.ret ?_
                refine X.then_ret (X.inBlock_ret (X.then_ret (X.then_ret (X.inBlock_ret (X.then_ret ?_)))))
                exact X.ret2 rfl (RV.agg 2 rfl rfl agg24 (wc 0) (by rfl) (by rfl) rfl) (RV.tmp rfl) (fun w' hw' => by first | (exact ⟨ret_parse (a := 0) (c := 2) (parseN_long (by omega)), hw'.sub (Sub.nil _)⟩) | (exact ⟨ret_parse (a := 0) (c := 10) (parseN_hexlong (by omega) ((hexP_take ss).1 (by assumption)) (by first | omega | (rw [List.length_drop] at *; omega))), hw'.sub (Sub.nil _)⟩) | (exact ⟨ret_parse (a := 0) (c := 10) ((parseN_hex (by omega) ((hexP_take ss).1 (by assumption)) (by first | omega | (rw [List.length_drop] at *; omega))).trans (bodyN_bad (fun q => q.1 (List.length_eq_zero_iff.1 (by omega))))), hw'.sub (Sub.nil _)⟩) | (exact ⟨ret_parse (a := 0) (c := 10) ((parseN_hex (by omega) ((hexP_take ss).1 (by assumption)) (by first | omega | (rw [List.length_drop] at *; omega))).trans (bodyN_bad hbad)), hw'.sub (Sub.nil _)⟩) | (exact ⟨ret_parse (a := 0) (c := 10) ((parseN_hex (by omega) ((hexP_take ss).1 (by assumption)) (by first | omega | (rw [List.length_drop] at *; omega))).trans (bodyN_big hbig)), hw'.sub (Sub.nil _)⟩) | (exact ⟨ret_parse (a := numV 16 (ss.drop 2)) (c := 0) ((parseN_hex (by omega) ((hexP_take ss).1 (by assumption)) (by first | omega | (rw [List.length_drop] at *; omega))).trans (bodyN_ok hgood hval)), hw'.sub (Sub.nil _)⟩) | (exact ⟨ret_parse (a := 0) (c := 10) ((parseN_dec (by omega) (by first | exact fun q => absurd ((hexP_take ss).2 q) (by assumption) | exact fun q => by unfold hexP at q; omega)).trans (bodyN_bad (fun q => q.1 (List.length_eq_zero_iff.1 (by omega))))), hw'.sub (Sub.nil _)⟩) | (exact ⟨ret_parse (a := 0) (c := 10) ((parseN_dec (by omega) (by first | exact fun q => absurd ((hexP_take ss).2 q) (by assumption) | exact fun q => by unfold hexP at q; omega)).trans (bodyN_bad hbad)), hw'.sub (Sub.nil _)⟩) | (exact ⟨ret_parse (a := 0) (c := 10) ((parseN_dec (by omega) (by first | exact fun q => absurd ((hexP_take ss).2 q) (by assumption) | exact fun q => by unfold hexP at q; omega)).trans (bodyN_big hbig)), hw'.sub (Sub.nil _)⟩) | (exact ⟨ret_parse (a := numV 10 ss) (c := 0) ((parseN_dec (by omega) (by first | exact fun q => absurd ((hexP_take ss).2 q) (by assumption) | exact fun q => by unfold hexP at q; omega)).trans (bodyN_ok hgood hval)), hw'.sub (Sub.nil _)⟩))
              · have hokj : okD 10 (ss.getD j 0) := (digU_ok (by omega)).2 (by omega)
                have hdg := digU_eq hokj
                refine T.skip ?_
                refine X.then ?_
                refine T.seq ?_
                refine T.text [.l, .l, .l, .l, .l, .l] rfl ?_
                refine J.loadN (k := .l) trivial 5 rfl rfl agg24 (wc (numV 10 (ss.take j))) rfl rfl rfl ?_
                refine J.move rfl rfl ?_
                refine J.build rfl rfl (.agg ([.int .u64 ((10 : Nat) : Int), .int .u64 0, .int .u64 0, .int .u64 0] : List Value).toArray) (fun w => by kernel_rfl) ?_
                refine J.as 53 (W (10)) rfl (W_small (by first | omega | (refine ⟨?_, ?_, ?_, ?_⟩ <;> omega))) ?_
                refine J.call0 (k := .l) trivial fok114 rfl rfl (fun w hw => Wb.times w _ _) ?_
                refine J.alloc 8 rfl zero67 [.int .u64 0, .int .u64 0, .int .u64 0, .int .u64 0, .int .u64 0, .int .u64 0, .int .u64 0, .int .u64 0] rfl rfl (fun g8 hg8 => ?_)
                refine J.store 8 rfl rfl rfl rfl (lc (((numV 10 (ss.take j))) % 2 ^ 256 * ((10) % 2 ^ 256))) rfl sz67 (by first | decide | exact Nat.le_refl _ | exact Nat.le_of_ble_eq_true rfl | (simp [rowN]; done) | (simp [rowN]; omega)) (by first | exact rowN_one _ _ | (simp; done) | (intro u hu; simp at hu; subst hu; rfl) | (intro u hu; simp at hu; rcases hu with rfl | rfl <;> rfl)) (by first | decide | exact Nat.zero_lt_succ _ | simp) trivial (lc (((numV 10 (ss.take j))) % 2 ^ 256 * ((10) % 2 ^ 256))) rfl ?_
                refine J.end ?_
                refine X.then ?_
                refine T.seq ?_
                refine T.text [.l, .l, .l, .l, .l, .l, .l, .l, .l, .l, .l, .l] rfl ?_
                refine J.sliceArr arr67 rfl optInt.none (optInt.some rfl (by omega) (by rfl)) optInt.none (by simp) (by omega) (by omega) (by omega) rfl rfl ?_
                refine J.toArr Tryd.underlying24 rfl (by decide) rfl ?_
                refine J.loadW (k := .l) trivial 8 rfl rfl agg24 (by first | rfl | with_reducible exact rowW_seg0 _ _ _ (by omega) | with_reducible exact rowW_seg00 _ _ (by omega) | with_reducible exact rowW_segs _ _ _ (by omega) | with_reducible exact rowW_seg _ _ (by omega) | with_reducible exact rowW_segb _ _ _ (by omega) | exact rowW_seg _ _ (by omega) | exact rowW_segs _ _ _ (by omega)) rfl ?_
                refine J.move rfl rfl ?_
                refine J.build rfl rfl (.agg ([.int .u64 ((digU (ss.getD j 0) : Nat) : Int), .int .u64 0, .int .u64 0, .int .u64 0] : List Value).toArray) (fun w => by kernel_rfl) ?_
                refine J.as 60 (W (digU (ss.getD j 0))) rfl (W_small (by first | omega | (refine ⟨?_, ?_, ?_, ?_⟩ <;> omega))) ?_
                refine J.call0 (k := .l) trivial fok107 rfl rfl (fun w hw => Wa.plus w _ _) ?_
                refine J.move rfl rfl ?_
                refine J.extract rfl rfl rfl ?_
                refine J.extract rfl rfl rfl ?_
                refine J.alloc 9 rfl zero24 [.int .u64 0, .int .u64 0, .int .u64 0, .int .u64 0] rfl rfl (fun g9 hg9 => ?_)
                refine J.store 9 rfl rfl rfl rfl _ rfl sz24 (by first | decide | exact Nat.le_refl _ | exact Nat.le_of_ble_eq_true rfl | (simp [rowN]; done) | (simp [rowN]; omega)) (by first | exact rowN_one _ _ | (simp; done) | (intro u hu; simp at hu; subst hu; rfl) | (intro u hu; simp at hu; rcases hu with rfl | rfl <;> rfl)) (by first | decide | exact Nat.zero_lt_succ _ | simp) trivial _ rfl ?_
                refine J.assign rfl rfl ?_
                refine J.end ?_
                refine X.then ?_
                refine T.seq ?_
                refine T.seq ?_
                refine T.text [.l, .l, .l, .l, .l, .l, .l] rfl ?_
                refine J.indexArr arr67 rfl rfl (by omega) (by omega) (by rfl) rfl ?_
                refine J.load1 (k := .l) trivial 8 rfl rfl one22 (by first | rfl | with_reducible exact rowN_get0 _ _ _ (by omega) | with_reducible exact rowN_get1 _ _ _ (by omega) | with_reducible exact rowN_get1s _ _ _ _ (by omega) | exact rowN_get1 _ _ _ (by omega) | exact rowN_get1s _ _ _ _ (by omega) | exact rowN_get0 _ _ _ (by omega)) rfl ?_
                refine J.gtr rfl rfl rfl rfl ?_
                refine J.move rfl rfl ?_
                refine J.split 67 rfl (fun h31 => ?_) (fun h31 => ?_)
                · have hbig := numV_big (b := 10) (ss := ss) (by decide) (show j + 1 ≤ _ by omega) (by rw [hvt, hdg]; exact round_big1 hv (by decide) h31)
                  refine J.no rfl rfl rfl rfl ?_
                  refine J.no rfl rfl rfl rfl ?_
                  refine J.pick_t rfl rfl rfl ?_
                  refine J.end ?_
                  refine X.then ?_
                  refine T.cond_true rfl ?_
                  refine T.seq ?_
                  refine T.text [.l, .l, .l] rfl ?_
                  refine J.build rfl rfl (W 0) (fun w => by kernel_rfl) ?_
                  refine J.store 2 rfl rfl rfl rfl (wc 0) rfl sz24 (by first | decide | exact Nat.le_refl _ | exact Nat.le_of_ble_eq_true rfl | (simp [rowN]; done) | (simp [rowN]; omega)) (by first | exact rowN_one _ _ | (simp; done) | (intro u hu; simp at hu; subst hu; rfl) | (intro u hu; simp at hu; rcases hu with rfl | rfl <;> rfl)) (by first | decide | exact Nat.zero_lt_succ _ | simp) trivial (wc 0) rfl ?_
                  refine J.assign rfl rfl ?_
                  refine J.end ?_
                  refine X.then ?_
                  refine T.ret ?_
                  refine X.then_ret (X.inBlock_ret (X.then_ret (X.then_ret (X.inBlock_ret (X.then_ret ?_)))))
                  exact X.ret2 rfl (RV.agg 2 rfl rfl agg24 (wc 0) (by rfl) (by rfl) rfl) (RV.tmp rfl) (fun w' hw' => by first | (exact ⟨ret_parse (a := 0) (c := 2) (parseN_long (by omega)), hw'.sub (Sub.nil _)⟩) | (exact ⟨ret_parse (a := 0) (c := 10) (parseN_hexlong (by omega) ((hexP_take ss).1 (by assumption)) (by first | omega | (rw [List.length_drop] at *; omega))), hw'.sub (Sub.nil _)⟩) | (exact ⟨ret_parse (a := 0) (c := 10) ((parseN_hex (by omega) ((hexP_take ss).1 (by assumption)) (by first | omega | (rw [List.length_drop] at *; omega))).trans (bodyN_bad (fun q => q.1 (List.length_eq_zero_iff.1 (by omega))))), hw'.sub (Sub.nil _)⟩) | (exact ⟨ret_parse (a := 0) (c := 10) ((parseN_hex (by omega) ((hexP_take ss).1 (by assumption)) (by first | omega | (rw [List.length_drop] at *; omega))).trans (bodyN_bad hbad)), hw'.sub (Sub.nil _)⟩) | (exact ⟨ret_parse (a := 0) (c := 10) ((parseN_hex (by omega) ((hexP_take ss).1 (by assumption)) (by first | omega | (rw [List.length_drop] at *; omega))).trans (bodyN_big hbig)), hw'.sub (Sub.nil _)⟩) | (exact ⟨ret_parse (a := numV 16 (ss.drop 2)) (c := 0) ((parseN_hex (by omega) ((hexP_take ss).1 (by assumption)) (by first | omega | (rw [List.length_drop] at *; omega))).trans (bodyN_ok hgood hval)), hw'.sub (Sub.nil _)⟩) | (exact ⟨ret_parse (a := 0) (c := 10) ((parseN_dec (by omega) (by first | exact fun q => absurd ((hexP_take ss).2 q) (by assumption) | exact fun q => by unfold hexP at q; omega)).trans (bodyN_bad (fun q => q.1 (List.length_eq_zero_iff.1 (by omega))))), hw'.sub (Sub.nil _)⟩) | (exact ⟨ret_parse (a := 0) (c := 10) ((parseN_dec (by omega) (by first | exact fun q => absurd ((hexP_take ss).2 q) (by assumption) | exact fun q => by unfold hexP at q; omega)).trans (bodyN_bad hbad)), hw'.sub (Sub.nil _)⟩) | (exact ⟨ret_parse (a := 0) (c := 10) ((parseN_dec (by omega) (by first | exact fun q => absurd ((hexP_take ss).2 q) (by assumption) | exact fun q => by unfold hexP at q; omega)).trans (bodyN_big hbig)), hw'.sub (Sub.nil _)⟩) | (exact ⟨ret_parse (a := numV 10 ss) (c := 0) ((parseN_dec (by omega) (by first | exact fun q => absurd ((hexP_take ss).2 q) (by assumption) | exact fun q => by unfold hexP at q; omega)).trans (bodyN_ok hgood hval)), hw'.sub (Sub.nil _)⟩))
                · have hp := h31
                  refine J.yes rfl rfl ?_
                  refine J.move rfl rfl ?_
                  refine J.yes rfl rfl ?_
                  refine J.gtr rfl rfl rfl rfl ?_
                  refine J.pick_f rfl rfl rfl ?_
                  refine J.end ?_
                  refine X.then ?_
                  refine T.cond_dec rfl (fun h32 => ?_) (fun h32 => ?_)
                  · have hbig := numV_big (b := 10) (ss := ss) (by decide) (show j + 1 ≤ _ by omega) (by rw [hvt, hdg]; exact round_big2 hv (by decide) (by omega) hp h32)
                    refine T.seq ?_
                    refine T.text [.l, .l, .l] rfl ?_
                    refine J.build rfl rfl (W 0) (fun w => by kernel_rfl) ?_
                    refine J.store 2 rfl rfl rfl rfl (wc 0) rfl sz24 (by first | decide | exact Nat.le_refl _ | exact Nat.le_of_ble_eq_true rfl | (simp [rowN]; done) | (simp [rowN]; omega)) (by first | exact rowN_one _ _ | (simp; done) | (intro u hu; simp at hu; subst hu; rfl) | (intro u hu; simp at hu; rcases hu with rfl | rfl <;> rfl)) (by first | decide | exact Nat.zero_lt_succ _ | simp) trivial (wc 0) rfl ?_
                    refine J.assign rfl rfl ?_
                    refine J.end ?_
                    refine X.then ?_
                    refine T.ret ?_
                    refine X.then_ret (X.inBlock_ret (X.then_ret (X.then_ret (X.inBlock_ret (X.then_ret ?_)))))
                    exact X.ret2 rfl (RV.agg 2 rfl rfl agg24 (wc 0) (by rfl) (by rfl) rfl) (RV.tmp rfl) (fun w' hw' => by first | (exact ⟨ret_parse (a := 0) (c := 2) (parseN_long (by omega)), hw'.sub (Sub.nil _)⟩) | (exact ⟨ret_parse (a := 0) (c := 10) (parseN_hexlong (by omega) ((hexP_take ss).1 (by assumption)) (by first | omega | (rw [List.length_drop] at *; omega))), hw'.sub (Sub.nil _)⟩) | (exact ⟨ret_parse (a := 0) (c := 10) ((parseN_hex (by omega) ((hexP_take ss).1 (by assumption)) (by first | omega | (rw [List.length_drop] at *; omega))).trans (bodyN_bad (fun q => q.1 (List.length_eq_zero_iff.1 (by omega))))), hw'.sub (Sub.nil _)⟩) | (exact ⟨ret_parse (a := 0) (c := 10) ((parseN_hex (by omega) ((hexP_take ss).1 (by assumption)) (by first | omega | (rw [List.length_drop] at *; omega))).trans (bodyN_bad hbad)), hw'.sub (Sub.nil _)⟩) | (exact ⟨ret_parse (a := 0) (c := 10) ((parseN_hex (by omega) ((hexP_take ss).1 (by assumption)) (by first | omega | (rw [List.length_drop] at *; omega))).trans (bodyN_big hbig)), hw'.sub (Sub.nil _)⟩) | (exact ⟨ret_parse (a := numV 16 (ss.drop 2)) (c := 0) ((parseN_hex (by omega) ((hexP_take ss).1 (by assumption)) (by first | omega | (rw [List.length_drop] at *; omega))).trans (bodyN_ok hgood hval)), hw'.sub (Sub.nil _)⟩) | (exact ⟨ret_parse (a := 0) (c := 10) ((parseN_dec (by omega) (by first | exact fun q => absurd ((hexP_take ss).2 q) (by assumption) | exact fun q => by unfold hexP at q; omega)).trans (bodyN_bad (fun q => q.1 (List.length_eq_zero_iff.1 (by omega))))), hw'.sub (Sub.nil _)⟩) | (exact ⟨ret_parse (a := 0) (c := 10) ((parseN_dec (by omega) (by first | exact fun q => absurd ((hexP_take ss).2 q) (by assumption) | exact fun q => by unfold hexP at q; omega)).trans (bodyN_bad hbad)), hw'.sub (Sub.nil _)⟩) | (exact ⟨ret_parse (a := 0) (c := 10) ((parseN_dec (by omega) (by first | exact fun q => absurd ((hexP_take ss).2 q) (by assumption) | exact fun q => by unfold hexP at q; omega)).trans (bodyN_big hbig)), hw'.sub (Sub.nil _)⟩) | (exact ⟨ret_parse (a := numV 10 ss) (c := 0) ((parseN_dec (by omega) (by first | exact fun q => absurd ((hexP_take ss).2 q) (by assumption) | exact fun q => by unfold hexP at q; omega)).trans (bodyN_ok hgood hval)), hw'.sub (Sub.nil _)⟩))
                  · have hfin := round_fin hv (by decide) (show digU (ss.getD j 0) < 16 by omega) hp h32
                    have hvn : numV 10 (ss.take (j + 1)) < 2 ^ 256 := by rw [hvt, hdg]; exact hfin.1
                    refine T.asE 9 ⟨some g9, 24, wc (numV 10 (ss.take (j + 1)))⟩ rfl (by rw [hvt, hdg, ← (round_p (d := 0) hv (by decide) hp).1]; rfl) ?_
                    have hok2 := okD_next hok hokj
                    refine T.skip ?_
                    refine X.then ?_
                    refine T.text [.l, .l] rfl ?_
                    refine J.loadN (k := .l) trivial 9 rfl rfl agg24 (wc (numV 10 (ss.take (j + 1)))) rfl rfl rfl ?_
                    refine J.store 5 rfl rfl rfl rfl (wc (numV 10 (ss.take (j + 1)))) rfl sz24 (by first | decide | exact Nat.le_refl _ | exact Nat.le_of_ble_eq_true rfl | (simp [rowN]; done) | (simp [rowN]; omega)) (by first | exact rowN_one _ _ | (simp; done) | (intro u hu; simp at hu; subst hu; rfl) | (intro u hu; simp at hu; rcases hu with rfl | rfl <;> rfl)) (by first | decide | exact Nat.zero_lt_succ _ | simp) trivial (wc (numV 10 (ss.take (j + 1)))) rfl ?_
                    refine J.end ?_
                    refine X.inBlock (X.then ?_)
                    refine T.text [.l, .l] rfl ?_
                    refine J.add rfl rfl rfl (by first | exact add_nat _ 1 (by omega) | exact i64_ok _ (by omega) | exact rfl) ?_
                    refine J.move rfl rfl ?_
                    refine J.end ?_
                    exact X.round (j + 1) ⟨by omega, hvn, hok2⟩ (by first | omega | (dsimp only; omega)) (by repeat (first | exact Sub.nil _ | refine Sub.cons (by first | rfl | (rw [dgs_zero]; rfl) | (rw [List.drop_length]; rfl) | (simp; done) | (congr 2; omega) | (congr 3; omega)) ?_)) (by repeat (first | exact Sub.nil _ | refine Sub.cons (by first | rfl | (rw [dgs_zero]; rfl) | (rw [List.drop_length]; rfl) | (simp; done) | (congr 2; omega) | (congr 3; omega)) ?_))
            · obtain rfl : j = ss.length := by omega
              rw [List.take_length] at hv
              have hgood := okS_yes (by omega) hok
              have hval := hv
              refine T.asE 5 ⟨some g5, 24, wc (numV 10 ss)⟩ rfl (by rw [List.take_length]) ?_
              refine T.exit ?_
              refine X.then_exit (X.then_exit (X.inBlock_eq (X.then ?_)))
              refine T.seq ?_
              refine T.text [.l, .l, .l] rfl ?_
              refine J.loadN (k := .l) trivial 5 rfl rfl agg24 (wc (numV 10 ss)) rfl rfl rfl ?_
              refine J.store 2 rfl rfl rfl rfl (wc (numV 10 ss)) rfl sz24 (by first | decide | exact Nat.le_refl _ | exact Nat.le_of_ble_eq_true rfl | (simp [rowN]; done) | (simp [rowN]; omega)) (by first | exact rowN_one _ _ | (simp; done) | (intro u hu; simp at hu; subst hu; rfl) | (intro u hu; simp at hu; rcases hu with rfl | rfl <;> rfl)) (by first | decide | exact Nat.zero_lt_succ _ | simp) trivial (wc (numV 10 ss)) rfl ?_
              refine J.assign rfl rfl ?_
              refine J.end ?_
              refine X.then ?_
              refine T.ret ?_
              exact X.ret2 rfl (RV.agg 2 rfl rfl agg24 (wc (numV 10 ss)) (by rfl) (by rfl) rfl) (RV.tmp rfl) (fun w' hw' => by first | (exact ⟨ret_parse (a := 0) (c := 2) (parseN_long (by omega)), hw'.sub (Sub.nil _)⟩) | (exact ⟨ret_parse (a := 0) (c := 10) (parseN_hexlong (by omega) ((hexP_take ss).1 (by assumption)) (by first | omega | (rw [List.length_drop] at *; omega))), hw'.sub (Sub.nil _)⟩) | (exact ⟨ret_parse (a := 0) (c := 10) ((parseN_hex (by omega) ((hexP_take ss).1 (by assumption)) (by first | omega | (rw [List.length_drop] at *; omega))).trans (bodyN_bad (fun q => q.1 (List.length_eq_zero_iff.1 (by omega))))), hw'.sub (Sub.nil _)⟩) | (exact ⟨ret_parse (a := 0) (c := 10) ((parseN_hex (by omega) ((hexP_take ss).1 (by assumption)) (by first | omega | (rw [List.length_drop] at *; omega))).trans (bodyN_bad hbad)), hw'.sub (Sub.nil _)⟩) | (exact ⟨ret_parse (a := 0) (c := 10) ((parseN_hex (by omega) ((hexP_take ss).1 (by assumption)) (by first | omega | (rw [List.length_drop] at *; omega))).trans (bodyN_big hbig)), hw'.sub (Sub.nil _)⟩) | (exact ⟨ret_parse (a := numV 16 (ss.drop 2)) (c := 0) ((parseN_hex (by omega) ((hexP_take ss).1 (by assumption)) (by first | omega | (rw [List.length_drop] at *; omega))).trans (bodyN_ok hgood hval)), hw'.sub (Sub.nil _)⟩) | (exact ⟨ret_parse (a := 0) (c := 10) ((parseN_dec (by omega) (by first | exact fun q => absurd ((hexP_take ss).2 q) (by assumption) | exact fun q => by unfold hexP at q; omega)).trans (bodyN_bad (fun q => q.1 (List.length_eq_zero_iff.1 (by omega))))), hw'.sub (Sub.nil _)⟩) | (exact ⟨ret_parse (a := 0) (c := 10) ((parseN_dec (by omega) (by first | exact fun q => absurd ((hexP_take ss).2 q) (by assumption) | exact fun q => by unfold hexP at q; omega)).trans (bodyN_bad hbad)), hw'.sub (Sub.nil _)⟩) | (exact ⟨ret_parse (a := 0) (c := 10) ((parseN_dec (by omega) (by first | exact fun q => absurd ((hexP_take ss).2 q) (by assumption) | exact fun q => by unfold hexP at q; omega)).trans (bodyN_big hbig)), hw'.sub (Sub.nil _)⟩) | (exact ⟨ret_parse (a := numV 10 ss) (c := 0) ((parseN_dec (by omega) (by first | exact fun q => absurd ((hexP_take ss).2 q) (by assumption) | exact fun q => by unfold hexP at q; omega)).trans (bodyN_ok hgood hval)), hw'.sub (Sub.nil _)⟩))
        · skip
          refine J.no rfl rfl rfl rfl ?_
          refine J.no rfl rfl rfl rfl ?_
          refine J.no rfl rfl rfl rfl ?_
          refine J.yes rfl rfl ?_
          refine J.pick_f rfl rfl rfl ?_
          refine J.pick_f rfl rfl rfl ?_
          refine J.end ?_
          refine X.then ?_
          refine T.cond_false rfl ?_
          refine T.skip ?_
          refine X.then ?_
          refine T.seq ?_
          refine T.text [.l] rfl ?_
          refine J.alloc 5 rfl zero24 [.int .u64 0, .int .u64 0, .int .u64 0, .int .u64 0] rfl rfl (fun g5 hg5 => ?_)
          refine J.end ?_
          refine X.then ?_
          refine T.seq ?_
          refine T.seq ?_
          refine T.text [.l, .l, .l] rfl ?_
          refine J.move rfl rfl ?_
          refine J.lenStr Tryd.underlying9 rfl rfl ?_
          refine J.as 39 (.int .i64 ((ss.length : Nat) : Int)) rfl (by rw [bstr_size]) ?_
          refine J.move rfl rfl ?_
          refine J.end ?_
          refine X.then ?_
          refine T.block ?_
          refine T.asE 5 ⟨some g5, 24, wc (numV 10 (ss.take 0))⟩ rfl (by simp only [List.take_zero, numV, List.foldl_nil]; rfl) ?_
          refine T.loop (ι := Nat) (fun (j : Nat) => j ≤ ss.length ∧ numV 10 (ss.take j) < 2 ^ 256 ∧ (∀ q, q < j → okD 10 (ss.getD q 0))) (fun (j : Nat) => [(0, .string (bstr ss)), (2, .pointer (some ⟨g2, 0, none⟩)), (11, .string (bstr ss)), (12, .int .i64 ((ss.length : Nat) : Int)), (4, .int .u64 10), (15, .string (bstr ss)), (16, .int .i64 ((ss.length : Nat) : Int)), (18, .bool false), (19, undef), (20, undef), (21, undef), (22, .bool false), (25, .string (bstr ss)), (26, .int .i64 ((ss.length : Nat) : Int)), (28, .bool false), (29, .int .u64 10), (31, .bool false), (32, undef), (33, undef), (34, undef), (35, .bool false), (36, .bool false), (5, .pointer (some ⟨g5, 0, none⟩)), (38, .string (bstr ss)), (39, .int .i64 ((ss.length : Nat) : Int)), (40, .int .i64 (j : Int))]) (fun (j : Nat) => [(2, ⟨some g2, 24, [.int .u64 0, .int .u64 0, .int .u64 0, .int .u64 0]⟩), (5, ⟨some g5, 24, wc (numV 10 (ss.take j))⟩)]) (fun (j : Nat) => ss.length - j) 0 ⟨Nat.zero_le _, by simp [numV], fun q hq => by omega⟩ (by repeat (first | exact Sub.nil _ | refine Sub.cons (by first | rfl | (rw [dgs_zero]; rfl) | (rw [List.drop_length]; rfl) | (simp; done) | (congr 2; omega) | (congr 3; omega)) ?_)) (by repeat (first | exact Sub.nil _ | refine Sub.cons (by first | rfl | (rw [dgs_zero]; rfl) | (rw [List.drop_length]; rfl) | (simp; done) | (congr 2; omega) | (congr 3; omega)) ?_)) ?_
          rintro j ⟨hj, hv, hok⟩
          refine T.seq ?_
          refine T.text [.l] rfl ?_
          refine J.lss rfl rfl rfl rfl ?_
          refine J.end ?_
          refine X.then ?_
          refine T.seq ?_
          refine T.cond_dec rfl (fun h33 => ?_) (fun h33 => ?_)
          · have hjl : j < ss.length := by omega
            have hs2 : Dg ss := hs
            have hcl := hs2.getD j
            have hvt := numV_take 10 ss j hjl
            refine T.skip ?_
            refine X.then ?_
            refine T.seq ?_
            refine T.block ?_
            refine T.seq ?_
            refine T.text [.l, .l] rfl ?_
            refine J.move rfl rfl ?_
            refine J.assign rfl rfl ?_
            refine J.end ?_
            refine X.then ?_
            refine T.seq ?_
            refine T.text [.l, .l, .l, .l, .l] rfl ?_
            refine J.move rfl rfl ?_
            refine J.move rfl rfl ?_
            refine J.indexStr Tryd.underlying9 rfl rfl (by omega) (by first | exact Int.toNat_natCast _ | rfl) (bstr_get ss j (by omega)) rfl ?_
            refine J.as 45 (.int .u8 ((ss.getD j 0 : Nat) : Int)) rfl (by rw [chr_dg hs2]) ?_
            refine J.call0 (k := .l) trivial fok137 rfl rfl (fun w hw => Wx.digit w _ (by omega)) ?_
            refine J.assign rfl rfl ?_
            refine J.end ?_
            refine X.then ?_
            refine T.seq ?_
            refine T.seq ?_
            refine T.text [.l, .l, .l] rfl ?_
            refine J.move rfl rfl ?_
            refine J.move rfl rfl ?_
            refine J.geq rfl rfl rfl rfl ?_
            refine J.end ?_
            refine X.then ?_
            refine T.cond_dec rfl (fun h34 => ?_) (fun h34 => ?_)
            · have hbad : ¬ okS 10 ss := okS_no hjl (fun q => by have := (digU_ok (by omega)).1 q; omega)
              refine T.seq ?_
              refine T.text [.l, .l, .l] rfl ?_
              refine J.build rfl rfl (W 0) (fun w => by kernel_rfl) ?_
              refine J.store 2 rfl rfl rfl rfl (wc 0) rfl sz24 (by first | decide | exact Nat.le_refl _ | exact Nat.le_of_ble_eq_true rfl | (simp [rowN]; done) | (simp [rowN]; omega)) (by first | exact rowN_one _ _ | (simp; done) | (intro u hu; simp at hu; subst hu; rfl) | (intro u hu; simp at hu; rcases hu with rfl | rfl <;> rfl)) (by first | decide | exact Nat.zero_lt_succ _ | simp) trivial (wc 0) rfl ?_
              refine J.assign rfl rfl ?_
              refine J.end ?_
              refine X.then ?_
              refine T.ret ?_
              refine X.then_ret (X.inBlock_ret (X.then_ret (X.then_ret (X.inBlock_ret (X.then_ret ?_)))))
              exact X.ret2 rfl (RV.agg 2 rfl rfl agg24 (wc 0) (by rfl) (by rfl) rfl) (RV.tmp rfl) (fun w' hw' => by first | (exact ⟨ret_parse (a := 0) (c := 2) (parseN_long (by omega)), hw'.sub (Sub.nil _)⟩) | (exact ⟨ret_parse (a := 0) (c := 10) (parseN_hexlong (by omega) ((hexP_take ss).1 (by assumption)) (by first | omega | (rw [List.length_drop] at *; omega))), hw'.sub (Sub.nil _)⟩) | (exact ⟨ret_parse (a := 0) (c := 10) ((parseN_hex (by omega) ((hexP_take ss).1 (by assumption)) (by first | omega | (rw [List.length_drop] at *; omega))).trans (bodyN_bad (fun q => q.1 (List.length_eq_zero_iff.1 (by omega))))), hw'.sub (Sub.nil _)⟩) | (exact ⟨ret_parse (a := 0) (c := 10) ((parseN_hex (by omega) ((hexP_take ss).1 (by assumption)) (by first | omega | (rw [List.length_drop] at *; omega))).trans (bodyN_bad hbad)), hw'.sub (Sub.nil _)⟩) | (exact ⟨ret_parse (a := 0) (c := 10) ((parseN_hex (by omega) ((hexP_take ss).1 (by assumption)) (by first | omega | (rw [List.length_drop] at *; omega))).trans (bodyN_big hbig)), hw'.sub (Sub.nil _)⟩) | (exact ⟨ret_parse (a := numV 16 (ss.drop 2)) (c := 0) ((parseN_hex (by omega) ((hexP_take ss).1 (by assumption)) (by first | omega | (rw [List.length_drop] at *; omega))).trans (bodyN_ok hgood hval)), hw'.sub (Sub.nil _)⟩) | (exact ⟨ret_parse (a := 0) (c := 10) ((parseN_dec (by omega) (by first | exact fun q => absurd ((hexP_take ss).2 q) (by assumption) | exact fun q => by unfold hexP at q; omega)).trans (bodyN_bad (fun q => q.1 (List.length_eq_zero_iff.1 (by omega))))), hw'.sub (Sub.nil _)⟩) | (exact ⟨ret_parse (a := 0) (c := 10) ((parseN_dec (by omega) (by first | exact fun q => absurd ((hexP_take ss).2 q) (by assumption) | exact fun q => by unfold hexP at q; omega)).trans (bodyN_bad hbad)), hw'.sub (Sub.nil _)⟩) | (exact ⟨ret_parse (a := 0) (c := 10) ((parseN_dec (by omega) (by first | exact fun q => absurd ((hexP_take ss).2 q) (by assumption) | exact fun q => by unfold hexP at q; omega)).trans (bodyN_big hbig)), hw'.sub (Sub.nil _)⟩) | (exact ⟨ret_parse (a := numV 10 ss) (c := 0) ((parseN_dec (by omega) (by first | exact fun q => absurd ((hexP_take ss).2 q) (by assumption) | exact fun q => by unfold hexP at q; omega)).trans (bodyN_ok hgood hval)), hw'.sub (Sub.nil _)⟩))
            · have hokj : okD 10 (ss.getD j 0) := (digU_ok (by omega)).2 (by omega)
              have hdg := digU_eq hokj
              refine T.skip ?_
              refine X.then ?_
              refine T.seq ?_
              refine T.text [.l, .l, .l, .l, .l, .l] rfl ?_
              refine J.loadN (k := .l) trivial 5 rfl rfl agg24 (wc (numV 10 (ss.take j))) rfl rfl rfl ?_
              refine J.move rfl rfl ?_
              refine J.build rfl rfl (.agg ([.int .u64 ((10 : Nat) : Int), .int .u64 0, .int .u64 0, .int .u64 0] : List Value).toArray) (fun w => by kernel_rfl) ?_
              refine J.as 53 (W (10)) rfl (W_small (by first | omega | (refine ⟨?_, ?_, ?_, ?_⟩ <;> omega))) ?_
              refine J.call0 (k := .l) trivial fok114 rfl rfl (fun w hw => Wb.times w _ _) ?_
              refine J.alloc 8 rfl zero67 [.int .u64 0, .int .u64 0, .int .u64 0, .int .u64 0, .int .u64 0, .int .u64 0, .int .u64 0, .int .u64 0] rfl rfl (fun g8 hg8 => ?_)
              refine J.store 8 rfl rfl rfl rfl (lc (((numV 10 (ss.take j))) % 2 ^ 256 * ((10) % 2 ^ 256))) rfl sz67 (by first | decide | exact Nat.le_refl _ | exact Nat.le_of_ble_eq_true rfl | (simp [rowN]; done) | (simp [rowN]; omega)) (by first | exact rowN_one _ _ | (simp; done) | (intro u hu; simp at hu; subst hu; rfl) | (intro u hu; simp at hu; rcases hu with rfl | rfl <;> rfl)) (by first | decide | exact Nat.zero_lt_succ _ | simp) trivial (lc (((numV 10 (ss.take j))) % 2 ^ 256 * ((10) % 2 ^ 256))) rfl ?_
              refine J.end ?_
              refine X.then ?_
              refine T.seq ?_
              refine T.text [.l, .l, .l, .l, .l, .l, .l, .l, .l, .l, .l, .l] rfl ?_
              refine J.sliceArr arr67 rfl optInt.none (optInt.some rfl (by omega) (by rfl)) optInt.none (by simp) (by omega) (by omega) (by omega) rfl rfl ?_
              refine J.toArr Tryd.underlying24 rfl (by decide) rfl ?_
              refine J.loadW (k := .l) trivial 8 rfl rfl agg24 (by first | rfl | with_reducible exact rowW_seg0 _ _ _ (by omega) | with_reducible exact rowW_seg00 _ _ (by omega) | with_reducible exact rowW_segs _ _ _ (by omega) | with_reducible exact rowW_seg _ _ (by omega) | with_reducible exact rowW_segb _ _ _ (by omega) | exact rowW_seg _ _ (by omega) | exact rowW_segs _ _ _ (by omega)) rfl ?_
              refine J.move rfl rfl ?_
              refine J.build rfl rfl (.agg ([.int .u64 ((digU (ss.getD j 0) : Nat) : Int), .int .u64 0, .int .u64 0, .int .u64 0] : List Value).toArray) (fun w => by kernel_rfl) ?_
              refine J.as 60 (W (digU (ss.getD j 0))) rfl (W_small (by first | omega | (refine ⟨?_, ?_, ?_, ?_⟩ <;> omega))) ?_
              refine J.call0 (k := .l) trivial fok107 rfl rfl (fun w hw => Wa.plus w _ _) ?_
              refine J.move rfl rfl ?_
              refine J.extract rfl rfl rfl ?_
              refine J.extract rfl rfl rfl ?_
              refine J.alloc 9 rfl zero24 [.int .u64 0, .int .u64 0, .int .u64 0, .int .u64 0] rfl rfl (fun g9 hg9 => ?_)
              refine J.store 9 rfl rfl rfl rfl _ rfl sz24 (by first | decide | exact Nat.le_refl _ | exact Nat.le_of_ble_eq_true rfl | (simp [rowN]; done) | (simp [rowN]; omega)) (by first | exact rowN_one _ _ | (simp; done) | (intro u hu; simp at hu; subst hu; rfl) | (intro u hu; simp at hu; rcases hu with rfl | rfl <;> rfl)) (by first | decide | exact Nat.zero_lt_succ _ | simp) trivial _ rfl ?_
              refine J.assign rfl rfl ?_
              refine J.end ?_
              refine X.then ?_
              refine T.seq ?_
              refine T.seq ?_
              refine T.text [.l, .l, .l, .l, .l, .l, .l] rfl ?_
              refine J.indexArr arr67 rfl rfl (by omega) (by omega) (by rfl) rfl ?_
              refine J.load1 (k := .l) trivial 8 rfl rfl one22 (by first | rfl | with_reducible exact rowN_get0 _ _ _ (by omega) | with_reducible exact rowN_get1 _ _ _ (by omega) | with_reducible exact rowN_get1s _ _ _ _ (by omega) | exact rowN_get1 _ _ _ (by omega) | exact rowN_get1s _ _ _ _ (by omega) | exact rowN_get0 _ _ _ (by omega)) rfl ?_
              refine J.gtr rfl rfl rfl rfl ?_
              refine J.move rfl rfl ?_
              refine J.split 67 rfl (fun h35 => ?_) (fun h35 => ?_)
              · have hbig := numV_big (b := 10) (ss := ss) (by decide) (show j + 1 ≤ _ by omega) (by rw [hvt, hdg]; exact round_big1 hv (by decide) h35)
                refine J.no rfl rfl rfl rfl ?_
                refine J.no rfl rfl rfl rfl ?_
                refine J.pick_t rfl rfl rfl ?_
                refine J.end ?_
                refine X.then ?_
                refine T.cond_true rfl ?_
                refine T.seq ?_
                refine T.text [.l, .l, .l] rfl ?_
                refine J.build rfl rfl (W 0) (fun w => by kernel_rfl) ?_
                refine J.store 2 rfl rfl rfl rfl (wc 0) rfl sz24 (by first | decide | exact Nat.le_refl _ | exact Nat.le_of_ble_eq_true rfl | (simp [rowN]; done) | (simp [rowN]; omega)) (by first | exact rowN_one _ _ | (simp; done) | (intro u hu; simp at hu; subst hu; rfl) | (intro u hu; simp at hu; rcases hu with rfl | rfl <;> rfl)) (by first | decide | exact Nat.zero_lt_succ _ | simp) trivial (wc 0) rfl ?_
                refine J.assign rfl rfl ?_
                refine J.end ?_
                refine X.then ?_
                refine T.ret ?_
                refine X.then_ret (X.inBlock_ret (X.then_ret (X.then_ret (X.inBlock_ret (X.then_ret ?_)))))
                exact X.ret2 rfl (RV.agg 2 rfl rfl agg24 (wc 0) (by rfl) (by rfl) rfl) (RV.tmp rfl) (fun w' hw' => by first | (exact ⟨ret_parse (a := 0) (c := 2) (parseN_long (by omega)), hw'.sub (Sub.nil _)⟩) | (exact ⟨ret_parse (a := 0) (c := 10) (parseN_hexlong (by omega) ((hexP_take ss).1 (by assumption)) (by first | omega | (rw [List.length_drop] at *; omega))), hw'.sub (Sub.nil _)⟩) | (exact ⟨ret_parse (a := 0) (c := 10) ((parseN_hex (by omega) ((hexP_take ss).1 (by assumption)) (by first | omega | (rw [List.length_drop] at *; omega))).trans (bodyN_bad (fun q => q.1 (List.length_eq_zero_iff.1 (by omega))))), hw'.sub (Sub.nil _)⟩) | (exact ⟨ret_parse (a := 0) (c := 10) ((parseN_hex (by omega) ((hexP_take ss).1 (by assumption)) (by first | omega | (rw [List.length_drop] at *; omega))).trans (bodyN_bad hbad)), hw'.sub (Sub.nil _)⟩) | (exact ⟨ret_parse (a := 0) (c := 10) ((parseN_hex (by omega) ((hexP_take ss).1 (by assumption)) (by first | omega | (rw [List.length_drop] at *; omega))).trans (bodyN_big hbig)), hw'.sub (Sub.nil _)⟩) | (exact ⟨ret_parse (a := numV 16 (ss.drop 2)) (c := 0) ((parseN_hex (by omega) ((hexP_take ss).1 (by assumption)) (by first | omega | (rw [List.length_drop] at *; omega))).trans (bodyN_ok hgood hval)), hw'.sub (Sub.nil _)⟩) | (exact ⟨ret_parse (a := 0) (c := 10) ((parseN_dec (by omega) (by first | exact fun q => absurd ((hexP_take ss).2 q) (by assumption) | exact fun q => by unfold hexP at q; omega)).trans (bodyN_bad (fun q => q.1 (List.length_eq_zero_iff.1 (by omega))))), hw'.sub (Sub.nil _)⟩) | (exact ⟨ret_parse (a := 0) (c := 10) ((parseN_dec (by omega) (by first | exact fun q => absurd ((hexP_take ss).2 q) (by assumption) | exact fun q => by unfold hexP at q; omega)).trans (bodyN_bad hbad)), hw'.sub (Sub.nil _)⟩) | (exact ⟨ret_parse (a := 0) (c := 10) ((parseN_dec (by omega) (by first | exact fun q => absurd ((hexP_take ss).2 q) (by assumption) | exact fun q => by unfold hexP at q; omega)).trans (bodyN_big hbig)), hw'.sub (Sub.nil _)⟩) | (exact ⟨ret_parse (a := numV 10 ss) (c := 0) ((parseN_dec (by omega) (by first | exact fun q => absurd ((hexP_take ss).2 q) (by assumption) | exact fun q => by unfold hexP at q; omega)).trans (bodyN_ok hgood hval)), hw'.sub (Sub.nil _)⟩))
              · have hp := h35
                refine J.yes rfl rfl ?_
                refine J.move rfl rfl ?_
                refine J.yes rfl rfl ?_
                refine J.gtr rfl rfl rfl rfl ?_
                refine J.pick_f rfl rfl rfl ?_
                refine J.end ?_
                refine X.then ?_
                refine T.cond_dec rfl (fun h36 => ?_) (fun h36 => ?_)
                · have hbig := numV_big (b := 10) (ss := ss) (by decide) (show j + 1 ≤ _ by omega) (by rw [hvt, hdg]; exact round_big2 hv (by decide) (by omega) hp h36)
                  refine T.seq ?_
                  refine T.text [.l, .l, .l] rfl ?_
                  refine J.build rfl rfl (W 0) (fun w => by kernel_rfl) ?_
                  refine J.store 2 rfl rfl rfl rfl (wc 0) rfl sz24 (by first | decide | exact Nat.le_refl _ | exact Nat.le_of_ble_eq_true rfl | (simp [rowN]; done) | (simp [rowN]; omega)) (by first | exact rowN_one _ _ | (simp; done) | (intro u hu; simp at hu; subst hu; rfl) | (intro u hu; simp at hu; rcases hu with rfl | rfl <;> rfl)) (by first | decide | exact Nat.zero_lt_succ _ | simp) trivial (wc 0) rfl ?_
                  refine J.assign rfl rfl ?_
                  refine J.end ?_
                  refine X.then ?_
                  refine T.ret ?_
                  refine X.then_ret (X.inBlock_ret (X.then_ret (X.then_ret (X.inBlock_ret (X.then_ret ?_)))))
                  exact X.ret2 rfl (RV.agg 2 rfl rfl agg24 (wc 0) (by rfl) (by rfl) rfl) (RV.tmp rfl) (fun w' hw' => by first | (exact ⟨ret_parse (a := 0) (c := 2) (parseN_long (by omega)), hw'.sub (Sub.nil _)⟩) | (exact ⟨ret_parse (a := 0) (c := 10) (parseN_hexlong (by omega) ((hexP_take ss).1 (by assumption)) (by first | omega | (rw [List.length_drop] at *; omega))), hw'.sub (Sub.nil _)⟩) | (exact ⟨ret_parse (a := 0) (c := 10) ((parseN_hex (by omega) ((hexP_take ss).1 (by assumption)) (by first | omega | (rw [List.length_drop] at *; omega))).trans (bodyN_bad (fun q => q.1 (List.length_eq_zero_iff.1 (by omega))))), hw'.sub (Sub.nil _)⟩) | (exact ⟨ret_parse (a := 0) (c := 10) ((parseN_hex (by omega) ((hexP_take ss).1 (by assumption)) (by first | omega | (rw [List.length_drop] at *; omega))).trans (bodyN_bad hbad)), hw'.sub (Sub.nil _)⟩) | (exact ⟨ret_parse (a := 0) (c := 10) ((parseN_hex (by omega) ((hexP_take ss).1 (by assumption)) (by first | omega | (rw [List.length_drop] at *; omega))).trans (bodyN_big hbig)), hw'.sub (Sub.nil _)⟩) | (exact ⟨ret_parse (a := numV 16 (ss.drop 2)) (c := 0) ((parseN_hex (by omega) ((hexP_take ss).1 (by assumption)) (by first | omega | (rw [List.length_drop] at *; omega))).trans (bodyN_ok hgood hval)), hw'.sub (Sub.nil _)⟩) | (exact ⟨ret_parse (a := 0) (c := 10) ((parseN_dec (by omega) (by first | exact fun q => absurd ((hexP_take ss).2 q) (by assumption) | exact fun q => by unfold hexP at q; omega)).trans (bodyN_bad (fun q => q.1 (List.length_eq_zero_iff.1 (by omega))))), hw'.sub (Sub.nil _)⟩) | (exact ⟨ret_parse (a := 0) (c := 10) ((parseN_dec (by omega) (by first | exact fun q => absurd ((hexP_take ss).2 q) (by assumption) | exact fun q => by unfold hexP at q; omega)).trans (bodyN_bad hbad)), hw'.sub (Sub.nil _)⟩) | (exact ⟨ret_parse (a := 0) (c := 10) ((parseN_dec (by omega) (by first | exact fun q => absurd ((hexP_take ss).2 q) (by assumption) | exact fun q => by unfold hexP at q; omega)).trans (bodyN_big hbig)), hw'.sub (Sub.nil _)⟩) | (exact ⟨ret_parse (a := numV 10 ss) (c := 0) ((parseN_dec (by omega) (by first | exact fun q => absurd ((hexP_take ss).2 q) (by assumption) | exact fun q => by unfold hexP at q; omega)).trans (bodyN_ok hgood hval)), hw'.sub (Sub.nil _)⟩))
                · have hfin := round_fin hv (by decide) (show digU (ss.getD j 0) < 16 by omega) hp h36
                  have hvn : numV 10 (ss.take (j + 1)) < 2 ^ 256 := by rw [hvt, hdg]; exact hfin.1
                  refine T.asE 9 ⟨some g9, 24, wc (numV 10 (ss.take (j + 1)))⟩ rfl (by rw [hvt, hdg, ← (round_p (d := 0) hv (by decide) hp).1]; rfl) ?_
                  have hok2 := okD_next hok hokj
                  refine T.skip ?_
                  refine X.then ?_
                  refine T.text [.l, .l] rfl ?_
                  refine J.loadN (k := .l) trivial 9 rfl rfl agg24 (wc (numV 10 (ss.take (j + 1)))) rfl rfl rfl ?_
                  refine J.store 5 rfl rfl rfl rfl (wc (numV 10 (ss.take (j + 1)))) rfl sz24 (by first | decide | exact Nat.le_refl _ | exact Nat.le_of_ble_eq_true rfl | (simp [rowN]; done) | (simp [rowN]; omega)) (by first | exact rowN_one _ _ | (simp; done) | (intro u hu; simp at hu; subst hu; rfl) | (intro u hu; simp at hu; rcases hu with rfl | rfl <;> rfl)) (by first | decide | exact Nat.zero_lt_succ _ | simp) trivial (wc (numV 10 (ss.take (j + 1)))) rfl ?_
                  refine J.end ?_
                  refine X.inBlock (X.then ?_)
                  refine T.text [.l, .l] rfl ?_
                  refine J.add rfl rfl rfl (by first | exact add_nat _ 1 (by omega) | exact i64_ok _ (by omega) | exact rfl) ?_
                  refine J.move rfl rfl ?_
                  refine J.end ?_
                  exact X.round (j + 1) ⟨by omega, hvn, hok2⟩ (by first | omega | (dsimp only; omega)) (by repeat (first | exact Sub.nil _ | refine Sub.cons (by first | rfl | (rw [dgs_zero]; rfl) | (rw [List.drop_length]; rfl) | (simp; done) | (congr 2; omega) | (congr 3; omega)) ?_)) (by repeat (first | exact Sub.nil _ | refine Sub.cons (by first | rfl | (rw [dgs_zero]; rfl) | (rw [List.drop_length]; rfl) | (simp; done) | (congr 2; omega) | (congr 3; omega)) ?_))
          · obtain rfl : j = ss.length := by omega
            rw [List.take_length] at hv
            have hgood := okS_yes (by omega) hok
            have hval := hv
            refine T.asE 5 ⟨some g5, 24, wc (numV 10 ss)⟩ rfl (by rw [List.take_length]) ?_
            refine T.exit ?_
            refine X.then_exit (X.then_exit (X.inBlock_eq (X.then ?_)))
            refine T.seq ?_
            refine T.text [.l, .l, .l] rfl ?_
            refine J.loadN (k := .l) trivial 5 rfl rfl agg24 (wc (numV 10 ss)) rfl rfl rfl ?_
            refine J.store 2 rfl rfl rfl rfl (wc (numV 10 ss)) rfl sz24 (by first | decide | exact Nat.le_refl _ | exact Nat.le_of_ble_eq_true rfl | (simp [rowN]; done) | (simp [rowN]; omega)) (by first | exact rowN_one _ _ | (simp; done) | (intro u hu; simp at hu; subst hu; rfl) | (intro u hu; simp at hu; rcases hu with rfl | rfl <;> rfl)) (by first | decide | exact Nat.zero_lt_succ _ | simp) trivial (wc (numV 10 ss)) rfl ?_
            refine J.assign rfl rfl ?_
            refine J.end ?_
            refine X.then ?_
            refine T.ret ?_
            exact X.ret2 rfl (RV.agg 2 rfl rfl agg24 (wc (numV 10 ss)) (by rfl) (by rfl) rfl) (RV.tmp rfl) (fun w' hw' => by first | (exact ⟨ret_parse (a := 0) (c := 2) (parseN_long (by omega)), hw'.sub (Sub.nil _)⟩) | (exact ⟨ret_parse (a := 0) (c := 10) (parseN_hexlong (by omega) ((hexP_take ss).1 (by assumption)) (by first | omega | (rw [List.length_drop] at *; omega))), hw'.sub (Sub.nil _)⟩) | (exact ⟨ret_parse (a := 0) (c := 10) ((parseN_hex (by omega) ((hexP_take ss).1 (by assumption)) (by first | omega | (rw [List.length_drop] at *; omega))).trans (bodyN_bad (fun q => q.1 (List.length_eq_zero_iff.1 (by omega))))), hw'.sub (Sub.nil _)⟩) | (exact ⟨ret_parse (a := 0) (c := 10) ((parseN_hex (by omega) ((hexP_take ss).1 (by assumption)) (by first | omega | (rw [List.length_drop] at *; omega))).trans (bodyN_bad hbad)), hw'.sub (Sub.nil _)⟩) | (exact ⟨ret_parse (a := 0) (c := 10) ((parseN_hex (by omega) ((hexP_take ss).1 (by assumption)) (by first | omega | (rw [List.length_drop] at *; omega))).trans (bodyN_big hbig)), hw'.sub (Sub.nil _)⟩) | (exact ⟨ret_parse (a := numV 16 (ss.drop 2)) (c := 0) ((parseN_hex (by omega) ((hexP_take ss).1 (by assumption)) (by first | omega | (rw [List.length_drop] at *; omega))).trans (bodyN_ok hgood hval)), hw'.sub (Sub.nil _)⟩) | (exact ⟨ret_parse (a := 0) (c := 10) ((parseN_dec (by omega) (by first | exact fun q => absurd ((hexP_take ss).2 q) (by assumption) | exact fun q => by unfold hexP at q; omega)).trans (bodyN_bad (fun q => q.1 (List.length_eq_zero_iff.1 (by omega))))), hw'.sub (Sub.nil _)⟩) | (exact ⟨ret_parse (a := 0) (c := 10) ((parseN_dec (by omega) (by first | exact fun q => absurd ((hexP_take ss).2 q) (by assumption) | exact fun q => by unfold hexP at q; omega)).trans (bodyN_bad hbad)), hw'.sub (Sub.nil _)⟩) | (exact ⟨ret_parse (a := 0) (c := 10) ((parseN_dec (by omega) (by first | exact fun q => absurd ((hexP_take ss).2 q) (by assumption) | exact fun q => by unfold hexP at q; omega)).trans (bodyN_big hbig)), hw'.sub (Sub.nil _)⟩) | (exact ⟨ret_parse (a := numV 10 ss) (c := 0) ((parseN_dec (by omega) (by first | exact fun q => absurd ((hexP_take ss).2 q) (by assumption) | exact fun q => by unfold hexP at q; omega)).trans (bodyN_ok hgood hval)), hw'.sub (Sub.nil _)⟩))
end Go.Proofs.YtegociefcfcihaaDoor.Wq
namespace Go.Proofs
open Go.Shelf
def Tryd.lays134_ren : Go.Shelf.Ren := ⟨fun | 134 => 149 | 129 => 160 | n => n, fun | 53 => 22 | 3 => 3 | 4 => 4 | 46 => 96 | 5 => 5 | 9 => 9 | n => n, fun | n => n⟩
theorem Tryd.lays134 : Go.Proofs.Lays.n134 Tryd.prog Tryd.lays134_ren := {
  mixed := by kernel_rfl
  f129 := Tryd.func160.trans (congrArg some (by kernel_rfl))
  f134 := Tryd.func149.trans (congrArg some (by kernel_rfl))
  t3 := Tryd.underlying3
  a3 := Tryd.isAgg3
  z3 := Tryd.sizeOf3
  v3 := Tryd.zeroValue3
  t4 := Tryd.underlying4
  a4 := Tryd.isAgg4
  z4 := Tryd.sizeOf4
  v4 := Tryd.zeroValue4
  t5 := Tryd.underlying5
  a5 := Tryd.isAgg5
  z5 := Tryd.sizeOf5
  v5 := Tryd.zeroValue5
  t9 := Tryd.underlying9
  a9 := Tryd.isAgg9
  z9 := Tryd.sizeOf9
  v9 := Tryd.zeroValue9
  t46 := Tryd.underlying96
  a46 := Tryd.isAgg96
  z46 := Tryd.sizeOf96
  v46 := Tryd.zeroValue96
  t53 := Tryd.underlying22
  a53 := Tryd.isAgg22
  z53 := Tryd.sizeOf22
  v53 := Tryd.zeroValue22 }
theorem Tryd.bits_LeadingZeros64 (x : Int) (w : World) (h0 : 0 ≤ x) (h1 : x ≤ 18446744073709551615) :
    Calls Tryd.prog 149 #[.int .u64 x] w fun e w' => e = .returned (.int .i64 (64 - (Lib.bitLen x.toNat : Int))) ∧ w' = w := Any.bits_LeadingZeros64 Tryd.lays134 x w h0 h1
def Tryd.lays129_ren : Go.Shelf.Ren := ⟨fun | 129 => 160 | n => n, fun | 53 => 22 | 3 => 3 | 4 => 4 | 46 => 96 | 5 => 5 | 9 => 9 | n => n, fun | n => n⟩
theorem Tryd.lays129 : Go.Proofs.Lays.n129 Tryd.prog Tryd.lays129_ren := {
  mixed := by kernel_rfl
  f129 := Tryd.func160.trans (congrArg some (by kernel_rfl))
  t3 := Tryd.underlying3
  a3 := Tryd.isAgg3
  z3 := Tryd.sizeOf3
  v3 := Tryd.zeroValue3
  t4 := Tryd.underlying4
  a4 := Tryd.isAgg4
  z4 := Tryd.sizeOf4
  v4 := Tryd.zeroValue4
  t5 := Tryd.underlying5
  a5 := Tryd.isAgg5
  z5 := Tryd.sizeOf5
  v5 := Tryd.zeroValue5
  t9 := Tryd.underlying9
  a9 := Tryd.isAgg9
  z9 := Tryd.sizeOf9
  v9 := Tryd.zeroValue9
  t46 := Tryd.underlying96
  a46 := Tryd.isAgg96
  z46 := Tryd.sizeOf96
  v46 := Tryd.zeroValue96
  t53 := Tryd.underlying22
  a53 := Tryd.isAgg22
  z53 := Tryd.sizeOf22
  v53 := Tryd.zeroValue22 }
theorem Tryd.bits_Len64 (x : Int) (w : World) (h0 : 0 ≤ x) (h1 : x ≤ 18446744073709551615) :
    Calls Tryd.prog 160 #[.int .u64 x] w fun e w' => e = .returned (.int .i64 (Lib.bitLen x.toNat)) ∧ w' = w := Any.bits_Len64 Tryd.lays129 x w h0 h1
def Tryd.lays317_ren : Go.Shelf.Ren := ⟨fun | 317 => 165 | n => n, fun | 3 => 3 | 46 => 96 | n => n, fun | n => n⟩
theorem Tryd.lays317 : Go.Proofs.Lays.n317 Tryd.prog Tryd.lays317_ren := {
  mixed := by kernel_rfl
  f317 := Tryd.func165.trans (congrArg some (by kernel_rfl))
  t3 := Tryd.underlying3
  a3 := Tryd.isAgg3
  z3 := Tryd.sizeOf3
  v3 := Tryd.zeroValue3
  t46 := Tryd.underlying96
  a46 := Tryd.isAgg96
  z46 := Tryd.sizeOf96
  v46 := Tryd.zeroValue96 }
open Go.Lib in
theorem Tryd.internal_strconv_log10Pow2 (x : Nat) (h : x ≤ 64) (w : World) :
    Calls Tryd.prog 165 #[.int .i64 x] w fun e w' => e = .returned (.int .i64 (Lib.l10 x)) ∧ w' = w := Any.internal_strconv_log10Pow2 Tryd.lays317 x h w
def Tryd.lays318_ren : Go.Shelf.Ren := ⟨fun | 318 => 166 | n => n, fun | 3 => 3 | 4 => 4 | n => n, fun | n => n⟩
theorem Tryd.lays318 : Go.Proofs.Lays.n318 Tryd.prog Tryd.lays318_ren := {
  mixed := by kernel_rfl
  f318 := Tryd.func166.trans (congrArg some (by kernel_rfl))
  t3 := Tryd.underlying3
  a3 := Tryd.isAgg3
  z3 := Tryd.sizeOf3
  v3 := Tryd.zeroValue3
  t4 := Tryd.underlying4
  a4 := Tryd.isAgg4
  z4 := Tryd.sizeOf4
  v4 := Tryd.zeroValue4 }
open Go.Lib in
theorem Tryd.internal_strconv_bool2_int (b : Bool) (w : World) :
    Calls Tryd.prog 166 #[.bool b] w fun e w' => e = .returned (.int .i64 (if b then 1 else 0)) ∧ w' = w := Any.internal_strconv_bool2_int Tryd.lays318 b w
def Tryd.lays283_ren : Go.Shelf.Ren := ⟨fun | 283 => 161 | n => n, fun | 3 => 3 | 9 => 9 | 4 => 4 | n => n, fun | n => n⟩
theorem Tryd.lays283 : Go.Proofs.Lays.n283 Tryd.prog Tryd.lays283_ren := {
  mixed := by kernel_rfl
  f283 := Tryd.func161.trans (congrArg some (by kernel_rfl))
  t3 := Tryd.underlying3
  a3 := Tryd.isAgg3
  z3 := Tryd.sizeOf3
  v3 := Tryd.zeroValue3
  t4 := Tryd.underlying4
  a4 := Tryd.isAgg4
  z4 := Tryd.sizeOf4
  v4 := Tryd.zeroValue4
  t9 := Tryd.underlying9
  a9 := Tryd.isAgg9
  z9 := Tryd.sizeOf9
  v9 := Tryd.zeroValue9 }
open Go.Lib in
theorem Tryd.internal_strconv_small (i : Nat) (h : i < 100) (w : World) :
    Calls Tryd.prog 161 #[.int .i64 i] w fun e w' => e = .returned (.string ⟨(Lib.decDigits i).toArray⟩) ∧ w' = w := Any.internal_strconv_small Tryd.lays283 i h w
def Tryd.laysM284_ren : Go.Shelf.Ren := ⟨fun | 284 => 162 | 129 => 160 | 317 => 165 | 318 => 166 | n => n, fun | 53 => 22 | 3 => 3 | 212 => 113 | 0 => 0 | 4 => 4 | 46 => 96 | 5 => 5 | 9 => 9 | n => n, fun | 17 => 0 | n => n⟩
theorem Tryd.laysM284 : Go.Proofs.LaysM.n284 Tryd.prog Tryd.laysM284_ren := {
  mixed := by kernel_rfl
  f129 := Tryd.func160.trans (congrArg some (by kernel_rfl))
  f284 := Tryd.func162.trans (congrArg some (by kernel_rfl))
  f317 := Tryd.func165.trans (congrArg some (by kernel_rfl))
  f318 := Tryd.func166.trans (congrArg some (by kernel_rfl))
  t0 := Tryd.underlying0
  a0 := Tryd.isAgg0
  z0 := Tryd.sizeOf0
  v0 := Tryd.zeroValue0
  t3 := Tryd.underlying3
  a3 := Tryd.isAgg3
  z3 := Tryd.sizeOf3
  v3 := Tryd.zeroValue3
  t4 := Tryd.underlying4
  a4 := Tryd.isAgg4
  z4 := Tryd.sizeOf4
  v4 := Tryd.zeroValue4
  t5 := Tryd.underlying5
  a5 := Tryd.isAgg5
  z5 := Tryd.sizeOf5
  v5 := Tryd.zeroValue5
  t9 := Tryd.underlying9
  a9 := Tryd.isAgg9
  z9 := Tryd.sizeOf9
  v9 := Tryd.zeroValue9
  t46 := Tryd.underlying96
  a46 := Tryd.isAgg96
  z46 := Tryd.sizeOf96
  v46 := Tryd.zeroValue96
  t53 := Tryd.underlying22
  a53 := Tryd.isAgg22
  z53 := Tryd.sizeOf22
  v53 := Tryd.zeroValue22
  t212 := Tryd.underlying113
  a212 := Tryd.isAgg113
  z212 := Tryd.sizeOf113
  v212 := Tryd.zeroValue113
  g17 := by kernel_rfl
  i0 := by kernel_rfl
  i3 := by kernel_rfl
  i4 := by kernel_rfl
  i5 := by kernel_rfl
  i9 := by kernel_rfl
  i46 := by kernel_rfl
  i53 := by kernel_rfl
  i212 := by kernel_rfl
  m17 := by kernel_rfl }
open Go.Lib in
theorem Tryd.internal_strconv_numDigits (u : Nat) (h1 : 1 ≤ u) (h2 : u < 18446744073709551616) (w : World) (htab : Lib.TabIs Tryd.prog w "internal/strconv.uint64pow10" .u64 Lib.pow10Tab) :
    Calls Tryd.prog 162 #[.int .u64 u] w fun e w' => e = .returned (.int .i64 (Lib.nDigits u)) ∧ w' = w := Any.internal_strconv_numDigits Tryd.laysM284 u h1 h2 w htab
def Tryd.lays285_ren : Go.Shelf.Ren := ⟨fun | 285 => 163 | n => n, fun | 37 => 45 | 53 => 22 | 3 => 3 | 4 => 4 | 51 => 114 | 9 => 9 | 5 => 5 | 0 => 0 | n => n, fun | n => n⟩
theorem Tryd.lays285 : Go.Proofs.Lays.n285 Tryd.prog Tryd.lays285_ren := {
  mixed := by kernel_rfl
  f285 := Tryd.func163.trans (congrArg some (by kernel_rfl))
  t0 := Tryd.underlying0
  a0 := Tryd.isAgg0
  z0 := Tryd.sizeOf0
  v0 := Tryd.zeroValue0
  t3 := Tryd.underlying3
  a3 := Tryd.isAgg3
  z3 := Tryd.sizeOf3
  v3 := Tryd.zeroValue3
  t4 := Tryd.underlying4
  a4 := Tryd.isAgg4
  z4 := Tryd.sizeOf4
  v4 := Tryd.zeroValue4
  t5 := Tryd.underlying5
  a5 := Tryd.isAgg5
  z5 := Tryd.sizeOf5
  v5 := Tryd.zeroValue5
  t9 := Tryd.underlying9
  a9 := Tryd.isAgg9
  z9 := Tryd.sizeOf9
  v9 := Tryd.zeroValue9
  t37 := Tryd.underlying45
  a37 := Tryd.isAgg45
  z37 := Tryd.sizeOf45
  v37 := Tryd.zeroValue45
  t51 := Tryd.underlying114
  a51 := Tryd.isAgg114
  z51 := Tryd.sizeOf114
  v51 := Tryd.zeroValue114
  t53 := Tryd.underlying22
  a53 := Tryd.isAgg22
  z53 := Tryd.sizeOf22
  v53 := Tryd.zeroValue22 }
open Go.RowKit Go.Sort Go.Lib in
theorem Tryd.internal_strconv_formatBase10 (blk off cap : Nat) (u : Nat) (d : Array UInt8) (w : World) (hH : Holds (fun (b : UInt8) => Value.int .u8 (b.toNat : Int)) w blk off d) (hu : u < 10 ^ d.size) (hu64 : u < 18446744073709551616) (hsz : d.size < 4611686018427387904) :
    Calls Tryd.prog 163 #[.slice (some ⟨blk, off, none⟩) d.size cap, .int .u64 u] w fun e w' =>
      e = .returned (.tuple #[]) ∧ ∃ (n v' : Nat) (dk : Array UInt8), w' = (putRow (fun (b : UInt8) => Value.int .u8 (b.toNat : Int)) w blk off dk).drewN n ∧ FmtInv d.size u 0 v' dk := Any.internal_strconv_formatBase10 Tryd.lays285 blk off cap u d w hH hu hu64 hsz
def Tryd.lays264_ren : Go.Shelf.Ren := ⟨fun | 264 => 146 | n => n, fun | 53 => 22 | 46 => 96 | n => n, fun | n => n⟩
theorem Tryd.lays264 : Go.Proofs.Lays.n264 Tryd.prog Tryd.lays264_ren := {
  mixed := by kernel_rfl
  f264 := Tryd.func146.trans (congrArg some (by kernel_rfl))
  t46 := Tryd.underlying96
  a46 := Tryd.isAgg96
  z46 := Tryd.sizeOf96
  v46 := Tryd.zeroValue96
  t53 := Tryd.underlying22
  a53 := Tryd.isAgg22
  z53 := Tryd.sizeOf22
  v53 := Tryd.zeroValue22 }
open Go.RowKit Go.Lib in
theorem Tryd.bits_Mul64 (x y : Nat) (hx : x < 18446744073709551616) (hy : y < 18446744073709551616) (w : World) :
    Calls Tryd.prog 146 #[.int .u64 x, .int .u64 y] w fun e w' => e = .returned (.tuple #[.int .u64 ((x * y / 18446744073709551616 : Nat) : Int), .int .u64 ((x * y % 18446744073709551616 : Nat) : Int)]) ∧ w' = w := Any.bits_Mul64 Tryd.lays264 x y hx hy w
end Go.Proofs
