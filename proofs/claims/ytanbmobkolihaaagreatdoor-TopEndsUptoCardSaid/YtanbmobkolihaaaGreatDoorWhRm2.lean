/- Functions do as their plain ones. -/
import Derived.Test.YtanbmobkolihaaaGreatDoorWhRBase
open List renaming append_nil→abR,drop→ajG,drop_append→aqx,drop_eq_nil_of_le→aqy,drop_of_length_le→aqz,map→ajN,map_append→amQ,map_drop→aqA,map_take→aqB,replicate→aeR,take→ajW,take_append_of_le_length→aqD,take_of_length_le→aha
open Nat renaming le_refl→afk,zero_add→afQ
open Go.Proofs.Tryz renaming prog→abQ
set_option linter.unusedVariables false
section
open Go Go.Av Go.Proofs G Go.Sh Go.Av.Sh
set_option maxHeartbeats 8000000
set_option maxRecDepth 20000
attribute [local irreducible] eX fG oJ FR IY
namespace Wk
theorem aod:∀(args:Array Value) (w:World),(callFunc 152 args).run abQ w=(Extern.SlicesOverlaps.overlaps #[129,129] #[4] args>>=fun v=>Pure.pure (Next.value v)).run abQ w:=fun args w=>by
 rw[run_callFunc_extern Tryz.func152 (by kernel_rfl) (by kernel_rfl) (by kernel_rfl) (e:=Extern.SlicesOverlaps.overlaps #[129,129] #[4]) (by kernel_rfl),Sem.run_bind]
 rfl
set_option maxHeartbeats 2000000 in
theorem rM{W0:World}(hT:yW W0){aT:List ah}{vU:Int}{v_2:List ah}{r:List ah}(h:cZ aT vU v_2=some r):Bs abQ (.pinned W0 0) 111 [.view 0 0 (ajN ah.av aT).length,J vU,.view 1 0 (ajN ah.av v_2).length] ⟨2,[(0,(2,ajN ah.av aT)),(1,(2,ajN ah.av v_2))],[]⟩ (.view 0 0 (ajN ah.av r).length) ⟨1,[(0,(2,ajN ah.av r))],[]⟩:=by
 revert h;generalize aT=l;intro h
 replace h:Sh.ins 16 l vU v_2=some r:=h;obtain⟨x,k,rfl,rfl,hk,hsz,rfl⟩:=Zr h;have hfe:∀y∈ajN ah.av l,y.flat.length=2:=fun y hy=>by obtain⟨q,_,rfl⟩:=List.mem_map.1 hy;rfl
 have hlen:(ajN ah.av l).length=l.length:=List.length_map ..;have hno:∀(m:List ah) (e:AV),e∈ajN ah.av m→bQ e:=fun m e he=>by obtain⟨q,_,rfl⟩:=List.mem_map.1 he;simp
 refine A1 Z Tryz.func111 Z (by kernel_rfl) Tryz.ntmps111 (by simp) ?_;show iD _ _ _ _ ⟨[(0,.view 0 0 (ajN ah.av l).length),(1,J k),(2,.view 1 0 1)],⟨2,[(0,(2,ajN ah.av l)),(1,(2,[ah.av x]))],[]⟩⟩ _;have w64n:∀n:Nat,n≤140737488355328→bM (n:Int)=n:=fun n hn=>by simp only[bM];rw[Q4 (by omega) (by omega)]
 have axQ:l.length≤140737488355328:=by omega
 refine jD lD 1 [0,1,2] Z ?_;refine sr Z fun K1 NF=>O Z<|O Z<|E (r:=.view 0 (0+k) ((ajN ah.av l).length - k)) Z (iR (l:=k) (h:=(ajN ah.av l).length) Z Z Z uW Z Z (by omega) (afk _) hfe)<|Nd NF [0,1,2] Z ?_;refine sr Z fun K1 NF=>O Z<|E (r:=J 1) Z (G_ ah.av [x] Z Z Z Z uW)<|iJ lD NF 1 [0,1,2,7] Z ?_;refine cm fun K1 NF=>sr Z fun K2 IZ=>O Z<|E (r:=bl false) Z ((Hy Z Z Z).ff (by decide))<|bH<|IZ _ ?_;refine KY Z ?_;refine fU<|NF _ (Y (U [0,1,2,7] Z) ?_);refine sr Z fun K1 NF=>O Z<|E (r:=J (l.length:Int)) Z (G_ ah.av l Z Z Z Z uW)<|iJ lD NF 1 [0,1,2,7,8] Z ?_;refine cm fun K1 NF=>jD lD 3 [0,1,2,7,8,22] Z ?_;refine mP Z (fun hb=> ?_) (fun hb=> ?_)
 ·have hkl:k=l.length:=by have:=of_decide_eq_true hb;omega
  subst hkl;refine sr Z fun K3 CX=>O Z<|O Z<|E (r:=.view 2 0 (ajN ah.av (l++[x])).length) Z (uw ah.av l [x] (l++[x]) (if_pos (show(l.length+[x].length)*16≤_ from hsz)) Z YN (fun _=>Z) Z Z Z Z Z Z Z)<|O Z<|bH<|CX _ ?_;refine fJ<|⟨.inr Z,.view 2 0 (ajN ah.av (l++[x])).length,Z, ?_⟩;have e:ajW l.length l++x::ajG l.length l=l++[x]:=by simp
  rw[e];exact bE [(0,2)] [] Z Z Z (.cons Z Z (.same (hno _)) dt trivial) ⟨⟨_,Z,.view Z⟩,trivial⟩
 ·have hkl:k<l.length:=by have:=of_decide_eq_false hb;omega
  refine fU<|NF _ (Y (U [0,1,2,7,8] Z) ?_);refine Wq (t:=0) (es:=ajN ah.av l) Z Z Z (by intro h;rw[List.map_eq_nil_iff] at h;subst h;simp at hkl) fun b cap hcap=> ?_;rw[hlen] at hcap;show iD _ _ _ _ ⟨[(0,.imm (.slice (some ⟨b,0,none⟩) (ajN ah.av l).length cap)),(1,J k),(2,.view 1 0 1),(7,J 1),(8,J (l.length:Int))],⟨2,[(0,(2,ajN ah.av l)),(1,(2,[ah.av x]))],[]⟩⟩ _;refine cm fun K1 NF=>sr Z fun K2 IZ=>O Z<|O Z<|E (r:=J ((l.length+1:Nat):Int)) Z ((oR Z Z Z Z).conv (congrArg J (w64n (l.length+1) (by omega))))<|O Z<|E (r:=J (cap:Int)) Z (JN Z Z uW) ?_;refine iJ lD IZ 1 [0,1,2,7,8,31] Z ?_;refine mP Z (fun hb=> ?_) (fun hb=> ?_)
  ·have hc:cap<l.length+1:=by have:=of_decide_eq_true hb;omega
   refine sr Z fun K3 CX=>O Z<|O Z<|E (r:=.imm (.slice (some ⟨b,0,none⟩) k cap)) Z (F5 Z Z Z uW (by omega))<|O Z<|O Z<|E (r:=J ((l.length+1:Nat):Int)) Z ((oR Z Z Z Z).conv (congrArg J (w64n (l.length+1) (by omega)))) ?_;refine O Z<|E (r:=J ((l.length+1 - k:Nat):Int)) Z ((HB Z Z Z Z).conv (congrArg J (by rw[show((l.length+1:Nat):Int) - (k:Int)=((l.length+1 - k:Nat):Int) by omega];exact w64n _ (by omega))))<|E (r:=.view 2 0 (l.length+1)) Z ((Qc (kn:=.i64) (es:=ajN ah.av l) (za:=ah.av ⟨0,0⟩) (s:=2) Z Z Z Z Z YN Tryz.underlying3 (by omega) (by omega) (by omega) (by omega) hfe Z (by omega)).conv (by rw[show k+(l.length+1 - k)=l.length+1 by omega]))<|O Z<|bH<|CX _ (Y (U [0,1,2,7,9] Z) (Y (Ut (t:=0) (es:=ajN ah.av l) Z (by omega) (afk _) Z) ?_));have hz:(ajW k (ajN ah.av l)++aeR (l.length+1 - k) (ah.av ⟨0,0⟩)).length=l.length+1:=by simp;omega
   have hfz:∀y∈ajW k (ajN ah.av l)++aeR (l.length+1 - k) (ah.av ⟨0,0⟩),y.flat.length=2:=fun y hy=>by
    rcases List.mem_append.1 hy with h|h
    ·exact hfe y (List.mem_of_mem_take h)
    ·rw[(List.mem_replicate.1 h).2];rfl
   refine sr Z fun K3 CX=>O Z<|O Z<|E (r:=.view 2 (0+k) (l.length+1 - k)) Z (iR (l:=k) (h:=l.length+1) Z Z Z uW Z Z (by omega) (afk _) hfz)<|O Z<|E Z (B4 (s:=2) (ys:=[ah.av x]) Z Z Z Z Z Z (aha (by simp;omega)).symm uW (fun y hy=>by rw[List.mem_singleton.1 hy];rfl))<|bH ?_;have e1:ajW (0+k) (ajW k (ajN ah.av l)++aeR (l.length+1 - k) (ah.av ⟨0,0⟩))++[ah.av x]++ajG (0+k+[ah.av x].length) (ajW k (ajN ah.av l)++aeR (l.length+1 - k) (ah.av ⟨0,0⟩))=ajN ah.av (l.take k++x::aeR (l.length - k) ⟨0,0⟩):=by
    have hk1:(ajW k (ajN ah.av l)).length=k:=by simp;omega
    rw[afQ,aqD (by omega),aha (by omega),aqx];rw[aqz (by simp;omega),hk1];simp[aqB,show k+1 - k=1 by omega,show l.length+1 - k - 1=l.length - k by omega]
   refine CX _ (Y (U [0,1,2,7,9] Z) ?_);show iD _ _ _ _ ⟨[(0,.view 0 0 (ajN ah.av l).length),(1,J k),(2,.view 1 0 1),(7,J 1),(9,.view 2 0 (l.length+1))],⟨3,[(0,(2,ajN ah.av l)),(1,(2,[ah.av x])),(2,(2,ajW (0+k) (ajW k (ajN ah.av l)++aeR (l.length+1 - k) (ah.av ⟨0,0⟩))++[ah.av x]++ajG (0+k+[ah.av x].length) (ajW k (ajN ah.av l)++aeR (l.length+1 - k) (ah.av ⟨0,0⟩))))],[]⟩⟩ _;rw[e1];have hf2:∀y∈ajN ah.av (l.take k++x::aeR (l.length - k) ⟨0,0⟩),y.flat.length=2:=fun y hy=>by obtain⟨q,_,rfl⟩:=List.mem_map.1 hy;rfl
   have hk1:bM ((k:Int)+1)=((k+1:Nat):Int):=w64n (k+1) (by omega);refine cm fun K3 CX=>HC [(true,false),(true,false),(true,false),(true,false),(false,false),(true,false),(true,false),(false,false),(false,true)] (by kernel_rfl) (by kernel_rfl) Z ?_;refine x_ Z<|x_ Z<|x_ Z<|s4 (r:=J ((k+1:Nat):Int)) Z (fun _=>(oR Z Z Z Z).conv (congrArg J hk1))<|nT (r:=.view 2 (0+(k+1)) (l.length+1 - (k+1))) Z Z (iR (l:=k+1) (h:=l.length+1) Z Z Z uW Z Z (by omega) (afk _) hf2)<|x_ Z<|x_ Z<|nT (r:=.view 0 (0+k) ((ajN ah.av l).length - k)) Z Z (iR (l:=k) (h:=(ajN ah.av l).length) Z Z Z uW Z Z (by omega) (afk _) hfe) ?_;refine wA Z Z (B4 (s:=2) (ys:=ajN ah.av (l.drop k)) Z Z Z Z Z Z (by
    have q1:ajW ((ajN ah.av l).length - k) (ajG (0+k) (ajN ah.av l))=ajN ah.av (l.drop k):=by rw[afQ,aqA,aha (by rw[List.length_drop];exact afk _)]
    exact(aha (by simp <;> omega)).symm.trans (congrArg _ q1.symm)) uW (fun y hy=>by obtain⟨q,_,rfl⟩:=List.mem_map.1 hy;rfl)) ?_
   refine D5 ?_;have e2:ajW (0+(k+1)) (ajN ah.av (l.take k++x::aeR (l.length - k) ⟨0,0⟩))++ajN ah.av (l.drop k)++ajG (0+(k+1)+(ajN ah.av (l.drop k)).length) (ajN ah.av (l.take k++x::aeR (l.length - k) ⟨0,0⟩))=ajN ah.av (l.take k++x::l.drop k):=by
    have hd0:ajG (k+1+(ajN ah.av (l.drop k)).length) (ajN ah.av (l.take k++x::aeR (l.length - k) ⟨0,0⟩))=[]:=aqy (by simp;omega);rw[afQ,hd0,abR,←aqB,←amQ]
    congr 1
    rw[List.take_append,aha (by simp;omega)];simp[show k+1 - Min.min k l.length=1 by omega]
   refine CX _ (Y (U [9] Z) ?_);show iD _ _ _ _ ⟨[(9,.view 2 0 (l.length+1))],⟨3,[(0,(2,ajN ah.av l)),(1,(2,[ah.av x])),(2,(2,ajW (0+(k+1)) (ajN ah.av (l.take k++x::aeR (l.length - k) ⟨0,0⟩))++ajN ah.av (l.drop k)++ajG (0+(k+1)+(ajN ah.av (l.drop k)).length) (ajN ah.av (l.take k++x::aeR (l.length - k) ⟨0,0⟩))))],[]⟩⟩ _;rw[e2];have hend:(ajN ah.av (l.take k++x::l.drop k)).length=l.length+1:=by simp;omega
   refine sr Z fun K3 CX=>O Z<|O Z<|bH<|CX _ ?_;refine fJ<|⟨.inr Z,.view 2 0 (l.length+1),Z, ?_⟩;rw[←hend];exact bE [(0,2)] [] Z Z Z (.cons Z Z (.same (hno _)) dt trivial) ⟨⟨_,Z,.view Z⟩,trivial⟩
  ·have hc:l.length+1≤cap:=by have:=of_decide_eq_false hb;omega
   refine fU<|NF _ (Y (U [0,1,2,7,8] Z) ?_);refine sr Z fun K1 NF=>O Z<|O Z<|O Z<|E (r:=J ((l.length+1:Nat):Int)) Z ((oR Z Z Z Z).conv (congrArg J (w64n (l.length+1) (by omega))))<|E (r:=.imm (.slice (some ⟨b,0,none⟩) ((ajN ah.av l).length+1) cap)) Z ((F5 Z Z Z uW hc).conv (by rw[hlen]))<|O Z ?_;refine bH<|NF _ (Y (U [0,1,2,7] Z) (Y (Us (s:=2) (t:=0) (es:=ajN ah.av l) (g:=.agg [.any,.any]) Z (by rw[hlen];exact hc) (afk _) Z Z (by decide) Z Nat.two_pos) ?_));show iD _ _ _ _ ⟨[(0,.view 2 0 ((ajN ah.av l).length+1)),(1,J k),(2,.view 1 0 1),(7,J 1)],⟨3,[(1,(2,[ah.av x])),(2,(2,ajN ah.av l++[.agg [.any,.any]]))],[]⟩⟩ _;have hfg:∀y∈ajN ah.av l++[.agg [.any,.any]],y.flat.length=2:=fun y hy=>by
    rcases List.mem_append.1 hy with h|h
    ·exact hfe y h
    ·rw[List.mem_singleton.1 h];rfl
   have hk1:bM ((k:Int)+1)=((k+1:Nat):Int):=w64n (k+1) (by omega);refine cm fun K1 NF=>sr Z fun K2 IZ=>O Z<|O Z<|O Z<|O Z<|E (r:=J ((k+1:Nat):Int)) Z ((oR Z Z Z Z).conv (congrArg J hk1)) ?_;refine E (r:=.view 2 (0+(k+1)) ((ajN ah.av l).length+1 - (k+1))) Z (iR (l:=k+1) (h:=(ajN ah.av l).length+1) Z Z Z uW Z Z (by omega) (afk _) hfg)<|E (r:=bl false) Z (Ow (s1:=2) (s2:=2) Z Z Z Z Z (by decide) Z Z (by decide) (by decide) (by decide) (by omega) uW aod)<|E (r:=bl true) Z (UJ (b:=false) Z Z)<|bH<|IZ _ ?_;refine KZ Z ?_;refine Y (U [0,1,2,7] Z) ?_;refine cm fun K3 CX=>HC [(true,false),(true,false),(true,false),(true,false),(false,false),(true,false),(true,false),(false,false),(false,true)] (by kernel_rfl) (by kernel_rfl) Z ?_;refine x_ Z<|x_ Z<|x_ Z<|s4 (r:=J ((k+1:Nat):Int)) Z (fun _=>(oR Z Z Z Z).conv (congrArg J hk1))<|nT (r:=.view 2 (0+(k+1)) ((ajN ah.av l).length+1 - (k+1))) Z Z (iR (l:=k+1) (h:=(ajN ah.av l).length+1) Z Z Z uW Z Z (by omega) (afk _) hfg)<|x_ Z<|x_ Z<|nT (r:=.view 2 (0+k) ((ajN ah.av l).length+1 - k)) Z Z (iR (l:=k) (h:=(ajN ah.av l).length+1) Z Z Z uW Z Z (by omega) (afk _) hfg) ?_;have hd:ajG k (ajN ah.av l++[AV.agg [.any,.any]])=ajN ah.av (l.drop k)++[.agg [.any,.any]]:=by rw[List.drop_append_of_le_length (by omega),aqA]
   refine wA Z Z (B4 (s:=2) (ys:=ajN ah.av (l.drop k)) Z Z Z Z Z Z (by
    have q1:ajW ((ajN ah.av l).length+1 - k) (ajG (0+k) (ajN ah.av l++[AV.agg [.any,.any]]))=ajN ah.av (l.drop k)++[AV.agg [.any,.any]]:=by rw[afQ,hd,aha (by simp <;> omega)]
    have q2:ajN ah.av (l.drop k)=ajW ((ajN ah.av l).length+1 - (k+1)) (ajN ah.av (l.drop k)++[AV.agg [.any,.any]]):=by rw[aqD (by simp),aha (by simp <;> omega)]
    exact q2.trans (congrArg _ q1.symm)) uW (fun y hy=>by obtain⟨q,_,rfl⟩:=List.mem_map.1 hy;rfl)) ?_
   refine D5 ?_;have e2:ajW (0+(k+1)) (ajN ah.av l++[AV.agg [.any,.any]])++ajN ah.av (l.drop k)++ajG (0+(k+1)+(ajN ah.av (l.drop k)).length) (ajN ah.av l++[AV.agg [.any,.any]])=ajN ah.av (l.take k++l[k]::l.drop k):=by
    have hd0:ajG (k+1+(ajN ah.av (l.drop k)).length) (ajN ah.av l++[AV.agg [.any,.any]])=[]:=aqy (by simp;omega);rw[afQ,hd0,abR,aqD (by omega),←aqB,←amQ]
    congr 1
    rw[List.take_succ_eq_append_getElem hkl,List.append_assoc]
    rfl
   refine CX _ (Y (U [0,1,2,7] Z) ?_);show iD _ _ _ _ ⟨[(0,.view 2 0 ((ajN ah.av l).length+1)),(1,J k),(2,.view 1 0 1),(7,J 1)],⟨3,[(1,(2,[ah.av x])),(2,(2,ajW (0+(k+1)) (ajN ah.av l++[AV.agg [.any,.any]])++ajN ah.av (l.drop k)++ajG (0+(k+1)+(ajN ah.av (l.drop k)).length) (ajN ah.av l++[AV.agg [.any,.any]])))],[]⟩⟩ _;rw[e2];have hf2:∀y∈ajN ah.av (l.take k++l[k]::l.drop k),y.flat.length=2:=fun y hy=>by obtain⟨q,_,rfl⟩:=List.mem_map.1 hy;rfl
   refine sr Z fun K3 CX=>O Z<|O Z<|E (r:=.view 2 (0+k) ((ajN ah.av l).length+1 - k)) Z (iR (l:=k) (h:=(ajN ah.av l).length+1) Z Z Z uW Z Z (by omega) (afk _) hf2)<|O Z<|E Z (B4 (s:=2) (ys:=[ah.av x]) Z Z Z Z Z Z (aha (by simp;omega)).symm uW (fun y hy=>by rw[List.mem_singleton.1 hy];rfl))<|bH ?_;have e3:ajW (0+k) (ajN ah.av (l.take k++l[k]::l.drop k))++[ah.av x]++ajG (0+k+[ah.av x].length) (ajN ah.av (l.take k++l[k]::l.drop k))=ajN ah.av (l.take k++x::l.drop k):=by
    have Lz:(l.take k).length=k:=by simp;omega
    rw[afQ,←aqB,←aqA,aqD (by omega),aha (by omega),aqx,aqz (by simp;omega),Lz];simp[show k+1 - k=1 by omega]
   refine CX _ (Y (U [0] Z) ?_);show iD _ _ _ _ ⟨[(0,.view 2 0 ((ajN ah.av l).length+1))],⟨3,[(1,(2,[ah.av x])),(2,(2,ajW (0+k) (ajN ah.av (l.take k++l[k]::l.drop k))++[ah.av x]++ajG (0+k+[ah.av x].length) (ajN ah.av (l.take k++l[k]::l.drop k))))],[]⟩⟩ _;rw[e3];have hend:(ajN ah.av (l.take k++x::l.drop k)).length=(ajN ah.av l).length+1:=by simp;omega
   refine sr Z fun K3 CX=>O Z<|O Z<|bH<|CX _ ?_;refine fJ<|⟨.inr Z,.view 2 0 ((ajN ah.av l).length+1),Z, ?_⟩;rw[←hend];exact bE [(0,2)] [] Z Z Z (.cons Z Z (.same (hno _)) dt trivial) ⟨⟨_,Z,.view Z⟩,trivial⟩
instance {aT vU v_2}:iO (cZ aT vU v_2) 0 111 [.view 0 0 (ajN ah.av aT).length,J vU,.view 1 0 (ajN ah.av v_2).length] ⟨2,[(0,(2,ajN ah.av aT)),(1,(2,ajN ah.av v_2))],[]⟩ (fun r=>.view 0 0 (ajN ah.av r).length) (fun r=>⟨1,[(0,(2,ajN ah.av r))],[]⟩):=⟨fun _ _ hT h=>rM hT h⟩
section
open Sg
instance {aT x6}:bh (gJ aT x6) 139 [sm J aT,J x6] (fun r=>J r):=k1 Tryz.func139 19 [1,k [0,1],j [] (I 0) (fun _:Unit=>[]) [1,d,1,k [0,1,7,8],L [0,1,7] (I 0) (fun p:Int=>[.s 8 [] (J p)]) 0 [1,n,cd [k [0,1,7,8],2,k [0,1,7,8,5],3,d,2,k [0,1,7,8,5,16],cd [2,k [4],x 0] [k [0,1,7,8],2,x 0]] [x 0]]] [1,n,x 0]]
instance {aT x6}:bh (bJ aT x6) 162 [sm J aT,J x6] (fun r=>bl r):=k1 Tryz.func162 9 [1,k [0,1],2,d,2,k [4],x 0]
end
theorem tI{W0:World}(hT:yW W0){aT:List Int}{r:List Int}(h:bO aT=some r):CD abQ W0 90 [sm J aT] (.view 0 0 (ajN J r).length) ⟨1,[(0,(1,ajN J r))],[]⟩:=by
 refine lu Tryz.func90 Z (by kernel_rfl) Tryz.ntmps90 (by simp) ?_;replace h:Sh.app 8 [] aT=some r:=h;show iD _ _ _ _ ⟨[(0,sm J aT)],.empty⟩ _;refine jD lD 1 [0] Z ?_;refine cm fun K2 IZ=>cm fun K3 CX=>I9 (es:=ajN J aT) Z Z Z Z Z Z (by decide) (by decide) Tryz.underlying30 Z (fun b hb=> ?_);refine CX _ (Y (U [0,4] Z) ?_);refine mP Z (fun hc=> ?_) (fun hc=> ?_)
 ·obtain rfl:aT=[]:=by simpa using hb hc
  obtain rfl:r=[]:=by simpa using (qR h).2
  refine jD lD 1 [2] Z ?_;refine fJ<|⟨.inr Z,dy,Z, ?_⟩;exact bE [] [0] Z Z Z (.fresh (by simp) dt trivial) ⟨⟨_,Z,.nil (by simp)⟩,trivial⟩
 ·refine fU<|IZ _ (Y (U [0] Z) ?_);refine sr Z fun K5 MC=>E (r:=.clip []) Z (gA Z (xo:=[]) Z Z Z (by simp) (by simp) Je awr (by decide))<|O Z<|E (r:=.view 0 0 (ajN J r).length) Z (Bp aT r h alp (fun _=>Z) Z Z Z Z Z)<|iJ lD MC 1 [2] Z ?_;refine fJ<|⟨.inr Z,.view 0 0 (ajN J r).length,Z, ?_⟩;exact bE [(0,0)] [] Z Z Z (.cons Z Z (.same (by simp)) dt trivial) ⟨⟨_,Z,.view Z⟩,trivial⟩
instance {aT}:iQ (bO aT) 90 [sm J aT] (fun r=>.view 0 0 (ajN J r).length) (fun r=>⟨1,[(0,(1,ajN J r))],[]⟩):=⟨fun _ _ hT h=>tI hT h⟩
theorem Cs{W0:World}(hT:yW W0){aT:List Int}{r:List Int}(h:bO aT=some r):oQ abQ W0 90 [sm J aT] (sm J r):=
 (tI hT h).OM (b8.e ⟨⟨_,Z,.jI Z Z (by simp)⟩,trivial⟩) (by simp)
instance {aT}:bh (bO aT) 90 [sm J aT] (fun r=>sm J r):=⟨fun _ _ hT h=>Cs hT h⟩
theorem l5{W0:World}(hT:yW W0){aT:List aO}{r:List aO}(h:dc aT=some r):CD abQ W0 125 [sm aO.av aT] (.view 0 0 (ajN aO.av r).length) ⟨1,[(0,(2,ajN aO.av r))],[]⟩:=by
 refine lu Tryz.func125 Z (by kernel_rfl) Tryz.ntmps125 (by simp) ?_;replace h:Sh.app 16 [] aT=some r:=h;show iD _ _ _ _ ⟨[(0,sm aO.av aT)],.empty⟩ _;refine jD lD 1 [0] Z ?_;refine cm fun K2 IZ=>cm fun K3 CX=>I9 (es:=ajN aO.av aT) Z Z Z Z Z Z (by decide) (by decide) Tryz.underlying100 Z (fun b hb=> ?_);refine CX _ (Y (U [0,4] Z) ?_);refine mP Z (fun hc=> ?_) (fun hc=> ?_)
 ·obtain rfl:aT=[]:=by simpa using hb hc
  obtain rfl:r=[]:=by simpa using (qR h).2
  refine jD lD 1 [2] Z ?_;refine fJ<|⟨.inr Z,dy,Z, ?_⟩;exact bE [] [0] Z Z Z (.fresh (by simp) dt trivial) ⟨⟨_,Z,.nil (by simp)⟩,trivial⟩
 ·refine fU<|IZ _ (Y (U [0] Z) ?_);refine sr Z fun K5 MC=>E (r:=.clip []) Z (gA Z (xo:=[]) Z Z Z (by simp) (by simp) ae6 apD (by decide))<|O Z<|E (r:=.view 0 0 (ajN aO.av r).length) Z (Bp aT r h ae8 (fun _=>Z) Z Z Z Z Z)<|iJ lD MC 1 [2] Z ?_;refine fJ<|⟨.inr Z,.view 0 0 (ajN aO.av r).length,Z, ?_⟩;exact bE [(0,0)] [] Z Z Z (.cons Z Z (.same (by simp)) dt trivial) ⟨⟨_,Z,.view Z⟩,trivial⟩
instance {aT}:iQ (dc aT) 125 [sm aO.av aT] (fun r=>.view 0 0 (ajN aO.av r).length) (fun r=>⟨1,[(0,(2,ajN aO.av r))],[]⟩):=⟨fun _ _ hT h=>l5 hT h⟩
theorem uQ{W0:World}(hT:yW W0){aT:List aO}{r:List aO}(h:dc aT=some r):oQ abQ W0 125 [sm aO.av aT] (sm aO.av r):=
 (l5 hT h).OM (b8.e ⟨⟨_,Z,.jI Z Z (by simp)⟩,trivial⟩) (by simp)
instance {aT}:bh (dc aT) 125 [sm aO.av aT] (fun r=>sm aO.av r):=⟨fun _ _ hT h=>uQ hT h⟩
section
open Sg
instance {aT x6}:bh (jF aT x6) 372 [sm aO.av aT,aO.av x6] (fun r=>J r):=k1 Tryz.func372 19 [h,1,w [0,3] (If 0 [0]),j [] (I 0) (fun _:Unit=>[]) [1,d,1,k [0,3,7,8],L [0,3,7] (I 0) (fun p:Int=>[.s 8 [] (J p)]) 0 [1,n,cd [k [0,3,7,8],2,k [0,3,7,8,5],R (fl 6 [] []),3,d,1,d,k [0,3,7,8,5,16],cd [2,k [4],x 0] [k [0,3,7,8],2,x 0]] [x 0]]] [1,n,x 0]]
instance {aT x6}:bh (eL aT x6) 351 [sm aO.av aT,aO.av x6] (fun r=>bl r):=k1 Tryz.func351 9 [h,1,w [0,3] (If 0 [0]),2,d,2,k [4],x 0]
instance {aT x6}:bh (iN aT x6) 427 [sm aa.av aT,aa.av x6] (fun r=>J r):=k1 Tryz.func427 19 [h,1,w [0,3] (If 0 [0]),j [] (I 0) (fun _:Unit=>[]) [1,d,1,k [0,3,7,8],L [0,3,7] (I 0) (fun p:Int=>[.s 8 [] (J p)]) 0 [1,n,cd [k [0,3,7,8],2,k [0,3,7,8,5],R (fl 6 [] []),3,d,1,d,k [0,3,7,8,5,16],cd [2,k [4],x 0] [k [0,3,7,8],2,x 0]] [x 0]]] [1,n,x 0]]
instance {aT x6}:bh (e8 aT x6) 426 [sm aa.av aT,aa.av x6] (fun r=>bl r):=k1 Tryz.func426 9 [h,1,w [0,3] (If 0 [0]),2,d,2,k [4],x 0]
instance {aT}:bh (cg aT) 219 [sm aa.av aT] (fun r=>.clip (ajN aa.av r)):=k1 Tryz.func219 9 [1,k [0],2,d,1,d,d,1,k [2],x 0]
instance {aT}:iO (mF aT) 0 135 [sm J aT] .empty (fun _=>.fH (.func 193) [.pp [sm J aT] 0]) (fun _=>.empty):=k3 Tryz.func135 4 [h,1,w [1] (If 0 [0]),d,1,k [2],x 0]
end
instance {aT}:bh (mF aT) 135 [sm J aT] (fun _=>.fH (.func 193) [.pp [sm J aT] 0]):=c1
section
open Sg
instance {aT x6}:bh (iB aT x6) 279 [sm aa.av aT,aa.av x6] (fun r=>J r):=k1 Tryz.func279 19 [h,1,w [0,3] (If 0 [0]),j [] (I 0) (fun _:Unit=>[]) [1,d,1,k [0,3,7,8],L [0,3,7] (I 0) (fun p:Int=>[.s 8 [] (J p)]) 0 [1,n,cd [k [0,3,7,8],2,k [0,3,7,8,5],R (fl 6 [] []),3,d,1,d,k [0,3,7,8,5,16],cd [2,k [4],x 0] [k [0,3,7,8],2,x 0]] [x 0]]] [1,n,x 0]]
instance {aT x6}:bh (bZ aT x6) 230 [sm aa.av aT,aa.av x6] (fun r=>bl r):=k1 Tryz.func230 9 [h,1,w [0,3] (If 0 [0]),2,d,2,k [4],x 0]
end
theorem jy{W0:World}(hT:yW W0){aT:List aA}{r:List aA}(h:bP aT=some r):CD abQ W0 328 [sm aA.av aT] (.view 0 0 (ajN aA.av r).length) ⟨1,[(0,(5,ajN aA.av r))],[]⟩:=by
 refine lu Tryz.func328 Z (by kernel_rfl) Tryz.ntmps328 (by simp) ?_;replace h:Sh.app 56 [] aT=some r:=h;show iD _ _ _ _ ⟨[(0,sm aA.av aT)],.empty⟩ _;refine jD lD 1 [0] Z ?_;refine cm fun K2 IZ=>cm fun K3 CX=>I9 (es:=ajN aA.av aT) Z Z Z Z Z Z (by decide) (by decide) Tryz.underlying90 Z (fun b hb=> ?_);refine CX _ (Y (U [0,4] Z) ?_);refine mP Z (fun hc=> ?_) (fun hc=> ?_)
 ·obtain rfl:aT=[]:=by simpa using hb hc
  obtain rfl:r=[]:=by simpa using (qR h).2
  refine jD lD 1 [2] Z ?_;refine fJ<|⟨.inr Z,dy,Z, ?_⟩;exact bE [] [0] Z Z Z (.fresh (by simp) dt trivial) ⟨⟨_,Z,.nil (by simp)⟩,trivial⟩
 ·refine fU<|IZ _ (Y (U [0] Z) ?_);refine sr Z fun K5 MC=>E (r:=.clip []) Z (gA Z (xo:=[]) Z Z Z (by simp) (by simp) agn apG (by decide))<|O Z<|E (r:=.view 0 0 (ajN aA.av r).length) Z (Bp aT r h agy (fun _=>Z) Z Z Z Z Z)<|iJ lD MC 1 [2] Z ?_;refine fJ<|⟨.inr Z,.view 0 0 (ajN aA.av r).length,Z, ?_⟩;exact bE [(0,0)] [] Z Z Z (.cons Z Z (.same (by simp)) dt trivial) ⟨⟨_,Z,.view Z⟩,trivial⟩
instance {aT}:iQ (bP aT) 328 [sm aA.av aT] (fun r=>.view 0 0 (ajN aA.av r).length) (fun r=>⟨1,[(0,(5,ajN aA.av r))],[]⟩):=⟨fun _ _ hT h=>jy hT h⟩
theorem qO{W0:World}(hT:yW W0){aT:List aA}{r:List aA}(h:bP aT=some r):oQ abQ W0 328 [sm aA.av aT] (sm aA.av r):=
 (jy hT h).OM (b8.e ⟨⟨_,Z,.jI Z Z (by simp)⟩,trivial⟩) (by simp)
instance {aT}:bh (bP aT) 328 [sm aA.av aT] (fun r=>sm aA.av r):=⟨fun _ _ hT h=>qO hT h⟩
theorem pW{W0:World}(hT:yW W0){aT:List aA}{r:List aA}(h:bP aT=some r):Bs abQ (.pinned W0 1) 328 [.view 0 0 (ajN aA.av aT).length] ⟨1,[(0,(5,ajN aA.av aT))],[]⟩ (.view 1 0 (ajN aA.av r).length) ⟨2,[(0,(5,ajN aA.av aT)),(1,(5,ajN aA.av r))],[]⟩:=by
 refine A1 Z Tryz.func328 Z (by kernel_rfl) Tryz.ntmps328 (by simp) ?_;replace h:Sh.app 56 [] aT=some r:=h;show iD _ _ _ _ ⟨[(0,.view 0 0 (ajN aA.av aT).length)],⟨1,[(0,(5,ajN aA.av aT))],[]⟩⟩ _;refine jD lD 1 [0] Z ?_;refine cm fun K2 IZ=>cm fun K3 CX=>SO (es:=ajN aA.av aT) Z Z Z Z Z Z (by decide) (by decide) Tryz.underlying90 Z Z (fun b hb=> ?_);refine CX _ (Y (U [0,4] Z) ?_);refine mP Z (fun hc=> ?_) (fun hc=> ?_)
 ·obtain rfl:aT=[]:=by simpa using hb hc
  obtain rfl:r=[]:=by simpa using (qR h).2
  refine jD lD 1 [2] Z ?_;refine fJ<|⟨.inr Z,dy,Z, ?_⟩;exact bE [(0,0)] [1] Z Z Z (.cons Z Z (.same (by simp)) dt (.fresh (by simp) dt trivial)) ⟨⟨_,Z,.nil (by simp)⟩,trivial⟩
 ·refine fU<|IZ _ (Y (U [0] Z) ?_);refine sr Z fun K5 MC=>E (r:=.clip []) Z (gA Z (xo:=[]) Z Z Z (by simp) (by simp) agn apG (by decide))<|O Z<|E (r:=.view 1 0 (ajN aA.av r).length) Z (Bp aT r h agy (fun _=>Z) Z Z Z Z (S4 (es:=ajN aA.av aT) Z))<|iJ lD MC 1 [2] Z ?_;refine fJ<|⟨.inr Z,.view 1 0 (ajN aA.av r).length,Z, ?_⟩;exact bE [(0,0),(1,1)] [] Z Z Z (.cons Z Z (.same (by simp)) dt (.cons Z Z (.same (by simp)) dt trivial)) ⟨⟨_,Z,.view Z⟩,trivial⟩
instance {aT}:iO (bP aT) 1 328 [.view 0 0 (ajN aA.av aT).length] ⟨1,[(0,(5,ajN aA.av aT))],[]⟩ (fun r=>.view 1 0 (ajN aA.av r).length) (fun r=>⟨2,[(0,(5,ajN aA.av aT)),(1,(5,ajN aA.av r))],[]⟩):=⟨fun _ _ hT h=>pW hT h⟩
theorem iW{W0:World}(hT:yW W0){xu:Int}{r:(List ai)}(h:bU xu=some r):CD abQ W0 358 [dy,J xu] (.view 0 0 (ajN ai.av r).length) ⟨1,[(0,(4,ajN ai.av r))],[]⟩:=by
 refine lu Tryz.func358 Z (by kernel_rfl) Tryz.ntmps358 (by simp) ?_;unfold bU at h;show iD _ _ _ _ ⟨[(0,dy),(1,J xu)],.empty⟩ _;refine jD lD 1 [0,1] Z ?_;refine cm fun K2 IZ=>jD lD 2 [0,1,6] Z ?_;refine oh Z h (fun h=> ?_) (fun h=> ?_)
 ·cases h
 ·refine fU<|IZ _ (Y (U [0,1] Z) ?_);refine gB (fun(p:(List ai))=>⟨[(0,.view 0 0 (ajN ai.av p).length)],⟨1,[(0,(4,ajN ai.av p))],[]⟩⟩) (fun p=>cV p=some r) ?_ ?_
  ·rintro s7 h;unfold cV at h;refine jD lD 2 [4] Z ?_;refine fJ ?_;obtain rfl:=D h;exact⟨.inr Z,.view 0 0 (ajN ai.av s7).length,Z,bE [(0,0)] [] Z Z Z (.cons Z Z (.same (by simp)) dt trivial) ⟨⟨_,Z,.view Z⟩,trivial⟩⟩
  ·intro K5 MC;refine sr Z fun K6 X1=>O Z<|O Z<|E (r:=J 0) Z (JO Z Z OE)<|V [0,8,10] Z<|O Z<|E (r:=J 0) Z (JI Z Z OE) ?_;refine E (r:=J 0) Z ((HB Z Z Z Z).conv (congrArg J (by decide)))<|iJ lD X1 2 [0,1] Z ?_;refine jD lD 2 [0,1,16] Z ?_;refine oh Z h (fun h=> ?_) (fun h=> ?_)
   ·refine iK Z<|O Z<|O Z<|E (r:=J 0) Z (JO Z Z OE)<|V [0,1,17,19] Z<|E (r:=dy) Z (MG Z Z Z OE)<|O Z ?_;obtain⟨l9,hl9,h⟩:=b5 h;refine E (r:=.view 0 0 (ajN ai.av l9).length) Z (RV hl9 Z Z Z Z alq Tryz.underlying3 Z ⟨.same _,.same _,.same _,.nil,trivial⟩)<|V [0,22] Z<|O Z<|E (r:=J 0) Z (JI Z Z OE) ?_;obtain⟨L1,acS,h⟩:=b5 h;refine E (r:=.view 1 0 (ajN ai.av L1).length) Z (afZ (s:=4) ai.av l9 L1 acS Z (fun _=>Z) Z Z Z Z Z OE)<|V [25] Z<|O Z<|bH ?_;exact MC L1 _ h (bE [(0,1)] [] Z Z Z (.cons Z Z (.same (by simp)) dt trivial) ⟨⟨_,Z,.view Z⟩,trivial⟩)
   ·exact fU<|MC [] _ h (bE [] [0] Z Z Z (.fresh (by simp) dt trivial) ⟨⟨_,Z,.nil (by simp)⟩,trivial⟩)
instance {xu}:iQ (bU xu) 358 [dy,J xu] (fun r=>.view 0 0 (ajN ai.av r).length) (fun r=>⟨1,[(0,(4,ajN ai.av r))],[]⟩):=⟨fun _ _ hT h=>iW hT h⟩
theorem pX{W0:World}(hT:yW W0){xu:Int}{r:(List ai)}(h:bU xu=some r):oQ abQ W0 358 [dy,J xu] (sm ai.av r):=
 (iW hT h).OM (b8.e ⟨⟨_,Z,.jI Z Z (by simp)⟩,trivial⟩) (by simp)
instance {xu}:bh (bU xu) 358 [dy,J xu] (fun r=>sm ai.av r):=⟨fun _ _ hT h=>pX hT h⟩
section
open Sg
instance {kL}:iQ (eV kL) 330 [.sl (ajN (mG ai.av) kL)] (fun r=>.view 0 0 (ajN ai.av r).length) (fun r=>⟨1,[(0,(4,ajN ai.av r))],[]⟩):=k2 Tryz.func330 36 [1,k [0],1,n,j [0] (I 0) (fun p:Int=>[.s 3 [] (J p)]) [1,d,1,n,L [0,9,10] (I 0) (fun p:Int×Int=>[.s 3 [] (J p.1),.s 11 [] (J p.2)]) 0 [1,n,cd [k [0,3,9,10,11],d,2,k [0,3,9,10,11,5],2,d,2,k [0,9,10,11,3],2,k [0,9,10,11,3,20],cd [z] [k [0,9,10,11,3],2,x 0]] [x 0]]] [1,h,1,k [0,6],j [] (I 1) (fun p:(List ai)=>[.s 6 [] (.view 0 0 (ajN ai.av p).length),.o 0 4 (ajN ai.av p)]) [1,d,1,k [6,25,26,27],L [25,26] (I 1) (fun p:(List ai)×Int=>[.s 6 [] (.view 0 0 (ajN ai.av p.1).length),.s 27 [] (J p.2),.o 0 4 (ajN ai.av p.1)]) 1 [1,n,cd [k [6,25,26,27],d,2,k [6,25,26,27,8],2,h,1,w [25,26,27,6] (Mg [(0,1)] 1),2,x 1] [x 1]]] [2,k [2],x 1]]]
end
instance {kL}:bh (eV kL) 330 [.sl (ajN (mG ai.av) kL)] (fun r=>sm ai.av r):=g1
section
open Sg
instance {aT}:bh (gx aT) 231 [sm au.av aT] (fun r=>.clip (ajN au.av r)):=k1 Tryz.func231 9 [1,k [0],2,d,1,d,d,1,k [2],x 0]
end
end Wk
end
