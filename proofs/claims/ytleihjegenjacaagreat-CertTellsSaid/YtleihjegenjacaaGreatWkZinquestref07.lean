/- That the functions of a package do what their plain functions say. -/
import Derived.Test.YtleihjegenjacaaGreatWkZFacts
open Go Go.Av Go.Proofs G Go.Sh Go.Av.Sh
set_option linter.unusedVariables false
set_option maxHeartbeats 8000000
set_option maxRecDepth 20000
namespace Wk
variable {W0:World}
theorem Dp{eM fK r}(h:qP eM fK=some r):F1 W0 42 [sm J eM,sm J fK] (bl r):=by
 refine cB Tryz.func42 Tryz.ntmps42 ?_;unfold qP at h;refine aM aL 1 [0,1] Z ?_;refine az fun K2 b7=>sr Z fun K3 dZ=>O Z<|E Z (aX J eM Z Z bX)<|aB aL 1 [0,1,7,8] Z ?_;refine E Z (aX J fK Z Z bX)<|aG aL dZ 1 [0,1,10] Z ?_;refine aT Z h (fun h=> ?_) (fun h=> ?_)
 ·refine aM aL 1 [4] Z ?_;cases h;exact aA rk
 ·refine aD<|b7 _ (Y (U [0,1] Z) ?_);refine aO (fun(p:Unit)=>⟨[],.empty⟩) (fun p=>qQ=some r) ?_ ?_
  ·rintro⟨⟩ h;unfold qQ at h;refine sr Z fun K5 ec=>O Z<|ah<|ec _ ?_;cases h;exact aA rk
  ·intro K6 eE;refine sr Z fun K7 f_=>O Z<|ah<|f_ _ ?_;refine aF<|bq (fun(p:Int)=>mB eM fK p) (fun p=>⟨[(0,sm J eM),(1,sm J fK),(5,J p)],.empty⟩) h (U [0,1,5] Z) ?_
   ·rintro i39 o1 h dM;unfold mB at h;refine az fun K8 gd=>sr Z fun K9 gU=>O Z<|O Z<|E Z (aX J eM Z Z bX)<|aG aL gU 1 [0,1,5,14] Z ?_;refine aT Z h (fun h=> ?_) (fun h=> ?_)
    ·refine aD<|gd _ (Y (U [0,1,5] Z) ?_);refine az fun vQ dh=>aF<|az fun zh eC=>b5 (fl 9 [] []) (by kernel_rfl) (by kernel_rfl) Z ?_;refine bt Z<|bt Z<|Sh.bi h fun Qm k50 QU QW h=>aJ Z (fun _=>aH J eM QU QW Z Z Z bX Z)<|aS aL 3 [0,1,5,20,21,22] Z ?_;refine Sh.bi h fun KW k52 M5 Lc h=>aJ Z (fun _=>aH J fK M5 Lc Z Z Z bX Z)<|aS aL 2 [0,1,5,25] Z ?_;refine bw<|eC _ (Y (U [0,1,5,25] Z) ?_);refine aT Z h (fun h=> ?_) (fun h=> ?_)
     ·refine aM aL 1 [4] Z ?_;replace h:=aZ h dM;cases h;exact aA rk
     ·refine aD<|dh _ (Y (U [0,1,5] Z) ?_);refine aW Z<|O Z<|E Z (bA Z Z Z Z)<|O Z<|ah ?_;replace h:=bE h;exact⟨_,h,U [0,1,5] Z⟩
    ·refine bp ?_;replace h:=aZ h dM;exact eE () _ h (U [] Z)

end Wk
