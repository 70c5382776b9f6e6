/- That the functions of a package do what their plain functions say. -/
import Derived.Test.YtleihjegenjacaaGreatSh
import Derived.Test.YtleihjegenjacaaGreatWkZFacts
import Derived.Test.YtleihjegenjacaaGreatWkZinquestref07
import Derived.Test.YtleihjegenjacaaGreatWkZinquestref21
import Derived.Test.YtleihjegenjacaaGreatWkZinquestref24
open Go Go.Av Go.Proofs
set_option linter.unusedVariables false
set_option maxHeartbeats 8000000
set_option maxRecDepth 20000
namespace Wk
theorem uu{W0:World}(hT:dU W0){fc:G.bu}{gI:G.bu}{r:Bool}(h:G.lI fc gI=some r):eF Tryz.prog W0 19 [G.bu.av fc,G.bu.av gI] (bl r) .empty:=by
 refine aS Tryz.func19 rfl (by kernel_rfl) Tryz.ntmps19 (by simp) ?_;unfold G.lI at h;show bp _ _ _ _ ⟨[(0,G.bu.av fc),(1,G.bu.av gI)],.empty⟩ _;refine sr rfl fun K1 dH=>AR.op (r:=.ref 0 0 0) rfl (bT 5 [G.bu.av fc] rfl rfl rfl (.inl ⟨rfl,rfl⟩))<|AR.op (r:=.ref 1 0 0) rfl (bT 5 [G.bu.av gI] rfl rfl rfl (.inl ⟨rfl,rfl⟩))<|AR.m rfl<|AR.nil<|dH _ (bp.aQ (aq.e (fr':=[(2,.pp [i64 fc.Level,bl fc.j5,sm i64 fc.Order,sm G.az.av fc.Rows,sm G.aD.av fc.Tree] 0),(3,.pp [i64 gI.Level,bl gI.j5,sm i64 gI.Order,sm G.az.av gI.Rows,sm G.aD.av gI.Tree] 0)]) (H':=.empty) ⟨⟨_,rfl,.e9 rfl rfl rfl rfl (by simp)⟩,⟨_,rfl,.e9 rfl rfl rfl rfl (by simp)⟩,trivial⟩) ?_);refine sr rfl fun K2 dz=>AR.f rfl Io<|AR.l (sm i64 fc.Order) rfl rfl rfl fo rfl<|AR.f rfl Io<|AR.kp [2,3,9,10] rfl<|AR.l (sm i64 gI.Order) rfl rfl rfl fo rfl ?_;obtain⟨HP,Oa,h⟩:=Sh.ai h;refine AR.op (r:=bl HP) rfl (bh rfl rfl (by simp) (u6 hT Oa))<|AR.m rfl<|AR.k dz [2,3,5] rfl ?_;refine sr rfl fun K3 fG=>AR.f rfl Cj<|AR.l (sm G.az.av fc.Rows) rfl rfl rfl L_ rfl<|AR.f rfl Cj<|AR.kp [2,3,5,14,15] rfl<|AR.l (sm G.az.av gI.Rows) rfl rfl rfl L_ rfl ?_;obtain⟨G3,GJ,h⟩:=Sh.ai h;refine AR.op (r:=bl G3) rfl (bh rfl rfl (by simp) (u9 hT GJ))<|AR.m rfl<|AR.k fG [2,3,5,6] rfl ?_;refine sr rfl fun K4 gx=>AR.f rfl Ck<|AR.l (sm G.aD.av fc.Tree) rfl rfl rfl Ma rfl<|AR.f rfl Ck<|AR.kp [2,3,5,6,19,20] rfl<|AR.l (sm G.aD.av gI.Tree) rfl rfl rfl Ma rfl ?_;obtain⟨Kv,LG,h⟩:=Sh.ai h;refine AR.op (r:=bl Kv) rfl (bh rfl rfl (by simp) (u_ hT LG))<|AR.m rfl<|AR.k gx [2,3,5,6,7] rfl ?_;refine sr rfl fun K5 gm=>AR.f rfl Il<|AR.l (i64 fc.Level) rfl rfl rfl eA rfl<|AR.f rfl Il<|AR.kp [2,3,5,6,7,24,25] rfl<|AR.l (i64 gI.Level) rfl rfl rfl eA rfl<|AR.op (r:=bl (decide (fc.Level=gI.Level))) rfl (er rfl rfl rfl) ?_;refine AR.m rfl<|AR.kp [2,3,5,6,7,28] rfl ?_;rcases tf (decide (fc.Level=gI.Level)) with uX|uX
 ·rw[uX];replace h:=Sh.bz h uX;refine AR.f rfl Im<|AR.l (bl fc.j5) rfl rfl rfl xU rfl<|AR.f rfl Im<|AR.kp [5,6,7,28,30,31] rfl<|AR.l (bl gI.j5) rfl rfl rfl xU rfl<|AR.op (r:=bl (fc.j5==gI.j5)) rfl (Lf rfl rfl rfl Tryz.underlying4)<|AR.m rfl<|AR.kp [5,6,7,34] rfl ?_;refine AR.m rfl ?_;rcases tf (fc.j5==gI.j5) with IP|IP
  ·rw[IP];replace h:=Sh.bz h IP;refine AR.m rfl<|AR.m rfl<|AR.kp [6,7,37] rfl<|AR.m rfl ?_;rcases tf (HP) with uY|uY
   ·rw[uY];replace h:=Sh.bz h uY;refine AR.m rfl<|AR.m rfl<|AR.kp [7,40] rfl<|AR.m rfl ?_;rcases tf (G3) with IS|IS
    ·rw[IS];replace h:=Sh.bz h IS;refine AR.m rfl<|AR.m rfl<|AR.kp [43] rfl<|AR.m rfl<|AR.k gm [4] rfl ?_;refine aF ?_;obtain rfl:=Option.some.inj h;refine⟨.inr rfl,bl Kv,rfl, ?_⟩;exact aq.e ⟨.k,trivial⟩
    ·rw[IS];replace h:=Sh.bw h IS;refine AR.s rfl<|AR.m rfl<|AR.kp [43] rfl<|AR.m rfl<|AR.k gm [4] rfl ?_;refine aF ?_;obtain rfl:=Option.some.inj h;refine⟨.inr rfl,bl false,rfl, ?_⟩;exact aq.e ⟨.k,trivial⟩
   ·rw[uY];replace h:=Sh.bw h uY;refine AR.s rfl<|AR.m rfl<|AR.kp [7,40] rfl<|AR.m rfl<|AR.s rfl<|AR.m rfl<|AR.kp [43] rfl<|AR.m rfl ?_;refine AR.k gm [4] rfl ?_;refine aF ?_;obtain rfl:=Option.some.inj h;refine⟨.inr rfl,bl false,rfl, ?_⟩;exact aq.e ⟨.k,trivial⟩
  ·rw[IP];replace h:=Sh.bw h IP;refine AR.s rfl<|AR.m rfl<|AR.kp [6,7,37] rfl<|AR.m rfl<|AR.s rfl<|AR.m rfl<|AR.kp [7,40] rfl<|AR.m rfl ?_;refine AR.s rfl<|AR.m rfl<|AR.kp [43] rfl<|AR.m rfl<|AR.k gm [4] rfl ?_;refine aF ?_;obtain rfl:=Option.some.inj h;refine⟨.inr rfl,bl false,rfl, ?_⟩;exact aq.e ⟨.k,trivial⟩
 ·rw[uX];replace h:=Sh.bw h uX;refine AR.s3 rfl rfl rfl<|AR.kp [5,6,7,28,30,31] rfl<|AR.s2 rfl rfl<|AR.m rfl<|AR.kp [5,6,7,34] rfl ?_;refine AR.m rfl<|AR.s rfl<|AR.m rfl<|AR.kp [6,7,37] rfl<|AR.m rfl<|AR.s rfl<|AR.m rfl<|AR.kp [7,40] rfl ?_;refine AR.m rfl<|AR.s rfl<|AR.m rfl<|AR.kp [43] rfl<|AR.m rfl<|AR.k gm [4] rfl ?_;refine aF ?_;obtain rfl:=Option.some.inj h;refine⟨.inr rfl,bl false,rfl, ?_⟩;exact aq.e ⟨.k,trivial⟩
theorem va{W0:World}(hT:dU W0){fc:G.bu}{gI:G.bu}{r:Bool}(h:G.lI fc gI=some r):cB Tryz.prog W0 19 [G.bu.av fc,G.bu.av gI] (bl r):=cB.two (uu hT h) (by simp)

end Wk
