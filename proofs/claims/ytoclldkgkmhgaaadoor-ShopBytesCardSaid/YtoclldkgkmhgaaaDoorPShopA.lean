/- Plain laws on the shop: ShopOwn. -/
import Derived.Test.YtoclldkgkmhgaaaDoorPGLaws
import Derived.Test.YtoclldkgkmhgaaaDoorKx55
namespace Go.Proofs.YtoclldkgkmhgaaaDoor.K
open Go.RowKit Go.Proofs.YtoclldkgkmhgaaaDoorW.PrintWords Go.Proofs.YtoclldkgkmhgaaaDoorW.PrintLast
set_option linter.unusedVariables false
set_option linter.unusedSimpArgs false

theorem buy_f {l : List S25} (h : l.length ≤ 1000) (a0 a1 b0 b1 x0 x1 x2 x3 : Int) : shop_Buy.f a0 a1 b0 b1 l x0 x1 x2 x3 = some (buyS a0 a1 b0 b1 l x0 x1 x2 x3) := by
  unfold shop_Buy.f
  rw [if_neg (by omega)]
theorem shown15_f (k : Nat) (hk : 1001 ≤ k) : bazaarlaw15_shown.f k = some true := by
  have hg : giveS ([] : List S25) 3 2 = ([⟨3, 2⟩], 0) := by
    rw [give_ok (by decide) (by simp [Srt]) (by decide) (by simp [countS]) (by simp)]
    simp [putS, countS]
  have hlo : listOk 1 3 2 4 = true := by decide
  have hc : cancelS ([] : List S25) 1 3 2 4 = ([⟨3, 2⟩], 0) := by
    unfold cancelS
    rw [if_pos hlo, hg]
  have hp : payS 9 0 0 0 4 = (5, 0, 4, 0, 0) := by decide
  have hb : buyS 9 0 0 0 ([] : List S25) 1 3 2 4 = (5, 0, 4, 0, [⟨3, 2⟩], 0) := by
    unfold buyS
    rw [if_pos hlo, hp, if_pos rfl, hc, if_pos rfl]
  have hpa : shop_Parse.f (⟨#[]⟩ : ByteArray) = some (0, 0, 0, 0, 150) := by
    unfold shop_Parse.f
    rw [if_neg (by decide)]
  unfold bazaarlaw15_shown.f
  rw [buy_f (by decide), hb]
  simp only [Option.bind_some]
  rw [hpa]
  simp only [Option.bind_some, if_true]
  rw [same_f [⟨3, 2⟩] (by decide) k hk]
  rfl
end Go.Proofs.YtoclldkgkmhgaaaDoor.K
