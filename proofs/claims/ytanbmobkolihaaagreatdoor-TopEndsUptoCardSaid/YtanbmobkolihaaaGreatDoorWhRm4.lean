/- Functions do as their plain ones. -/
import Derived.Test.YtanbmobkolihaaaGreatDoorWhRm3
open List renaming map→ajN
open Option renaming getD_some→api
open Nat renaming le_refl→afk
open Array renaming getElem?_eq_getElem→aqE,getElem?_push→aqF,getElem?_push_lt→aqH,getElem?_setIfInBounds_ne→aqI,getElem?_setIfInBounds_self_of_lt→aqJ,size_push→aqK,size_setIfInBounds→aqL
open Go.Proofs.Tryz renaming prog→abQ
set_option linter.unusedVariables false
section
open Go Go.Av Go.Proofs G Go.Sh Go.Av.Sh
set_option maxHeartbeats 8000000
set_option maxRecDepth 20000
attribute [local irreducible] eX fG oJ FR IY
namespace Wk
section
open Sg
instance {aV aB Be}:iQ (Eb aV aB Be) 57 [af.av aV,J aB,sm J Be] (fun r=>.agg [J r.Level,bl r.Yes,.view 0 0 (ajN J r.Order).length,.view 1 0 (ajN c_.av r.Rows).length,sm ai.av r.Tree]) (fun r=>⟨2,[(0,(1,ajN J r.Order)),(1,(2,ajN c_.av r.Rows))],[]⟩):=k2 Tryz.func57 20 [h,h,w [1,2,3,6] (Mf [(0,1)] 1 [0]),1,d,h,h,k [1,2,3,6,7],j [6,7] (Mg [(0,0),(1,1)] 4) (fun p:(List Int)×(List c_)=>[.c 1 [2] (.view 2 0 (ajN J p.1).length),.c 1 [3] (.view 3 0 (ajN c_.av p.2).length),.o 2 1 (ajN J p.1),.o 3 2 (ajN c_.av p.2)]) [2,k [2,3,6,7,11],cd [1,h,1,h,X [(0,0),(1,1),(2,2)] [3]] [2,h,1,h,X [(0,0),(1,1),(3,2)] [2]]] [1,h,w [6] (Mo [(0,0),(1,2),(2,3)] 3 [0]),X [(0,1),(1,2)] []]]
end
instance {aV aB Be}:bh (Eb aV aB Be) 57 [af.av aV,J aB,sm J Be] (fun r=>eT.av r):=g1
section
open Sg
instance {vl BU}:iQ (HK vl BU) 58 [J vl,sm ai.av BU] (fun r=>.agg [J r.Level,bl r.Yes,sm J r.Order,sm c_.av r.Rows,.view 0 0 (ajN ai.av r.Tree).length]) (fun r=>⟨1,[(0,(4,ajN ai.av r.Tree))],[]⟩):=k2 Tryz.func58 29 [h,n,1,d,h,h,k [1,4,5],j [4,5] (Mg [(0,0),(1,1)] 3) (fun p:(List ai)=>[.c 1 [4] (.view 2 0 (ajN ai.av p).length),.o 2 4 (ajN ai.av p)]) [1,d,1,k [4,5,10,11,12],l [4,5,10,11] (Mg [(0,0),(1,1)] 3) (fun p:(List ai)×Int=>[.s 12 [] (J p.2),.c 1 [4] (.view 2 0 (ajN ai.av p.1).length),.o 2 4 (ajN ai.av p.1)]) [(0,0),(1,1)] [2] [1,n,cd [k [4,5,10,11,12],d,1,h,h,w [4,5,10,11,12,7] (Ii 3 [1] [3]),R (fl 12 [0,1,10] [9,11]),v,v,4,d,d,d,h,v,h,w [4,5,10,11,12] (Mo [(0,0),(1,1),(2,3)] 3 [1]),2,x 3] [x 3]]] [1,h,w [4] (Mo [(0,0),(1,2)] 2 [0]),X [(0,1)] []]]
end
instance {vl BU}:bh (HK vl BU) 58 [J vl,sm ai.av BU] (fun r=>eT.av r):=g1
section
open Sg
instance {bK}:bh (wX bK) 123 [bu.av bK] (fun r=>bu.av r):=k1 Tryz.func123 17 [h,h,k [1,2],j [1,2] (I 2) (fun p:bu=>[.c 0 [] (bu.av p)]) [2,n,L [1,2,5] (I 2) (fun p:bu×Int=>[.s 6 [] (J p.2),.c 0 [] (bu.av p.1)]) 2 [1,n,cd [k [1,2,5,6],1,d,2,k [1,2,5,6,3,4],2,d,d,v,h,k [1,2,5,6],2,x 2] [x 2]]] [1,h,w [2] (Mg [(0,1)] 1),x 0]]
instance {iA}:bh (nD iA) 82 [aW.av iA] (fun r=>bl r):=k1 Tryz.func82 27 [h,1,w [1] (If 0 [0]),R (fl 25 [] []),4,G [5,6] [5,G [11] [2,d,2,d,2,G [17,18,19] [2,d,2,d,2,k [2],x 0] [8,k [2],x 0]] [16,k [2],x 0]] [21,k [2],x 0]]
instance {LP zM}:bh (FG LP zM) 48 [J LP,bu.av zM] (fun r=>.tuple [aW.av r.1,J r.2]):=k1 Tryz.func48 15 [h,h,1,w [0,3,4] (Mf [(0,1)] 1 [0]),2,d,h,h,w [4,6] (If 1 [1]),1,d,1,k [4,6,12],cd [d,h,1,k [4,5],x 0] [k [4,6],1,h,1,k [4,5],x 0]]
instance {nS}:bh (rF nS) 184 [J nS] (fun r=>bl r):=k1 Tryz.func184 9 [1,k [0],3,G [5] [4,k [2],x 0] [4,k [2],x 0]]
instance {iA gf KX}:bh (Cj iA gf KX) 132 [aW.av iA,J gf,J KX] (fun r=>J r):=k1 Tryz.func132 24 [h,1,w [1,2,3] (If 0 [0]),q,j [1,2,3] (I 0) (fun p:Bool=>[.s 14 [] (bl p)]) [1,d,2,G [9,10] [4,x 0] [1,d,2,x 0]] [cd [1,k [6],x 0] [k [1,2,3],R (fl 10 [] []),5,d,d,d,d,1,k [6],x 0]]]
instance {iA gf O6}:bh (Bg iA gf O6) 189 [aW.av iA,J gf,J O6] (fun r=>.tuple [aW.av r.1,J r.2]):=k1 Tryz.func189 56 [h,h,1,k [1,2,3,6],q,j [1,2,3,6] (I 2) (fun p:Bool=>[.s 8 [] (bl p)]) [1,d,2,G [11,12] [9,x 2] [1,d,3,G [17] [4,x 2] [4,x 2]]] [cd [d,h,1,w [6,7] (Mg [(0,1)] 1),x 0] [3,d,3,k [1,2,3,6,22],cd [d,h,1,w [6,7] (Mg [(0,1)] 1),x 0] [k [1,2,3,6],5,h,k [1,2,3,6],2,v,v,3,v,h,k [1,2,3,6],2,v,v,3,v,h,k [3,6],2,d,1,h,k [3,6],1,h,1,w [6,7] (Mg [(0,1)] 1),x 0]]]]
instance {iA}:bh (FF iA) 56 [aW.av iA] (fun r=>J r):=k1 Tryz.func56 20 [h,1,w [1] (If 0 [0]),1,d,1,k [1,8],cd [1,k [2],x 0] [k [1],1,n,j [] (I 0) (fun p:Int=>[.s 3 [] (J p)]) [3,k [3,10,11],L [10] (I 0) (fun p:Int×Int=>[.s 3 [] (J p.1),.s 11 [] (J p.2)]) 0 [1,n,cd [k [3,10,11],d,1,k [3,10,11,5],4,k [10,11,3],2,x 0] [x 0]]] [1,d,1,k [2],x 0]]]
instance {ur}:iO ((Ck ur).bind Sum.getLeft?) 0 51 [J ur] .empty (fun _=>.tuple [.imm (.pointer none),J 1]) (fun _=>.empty):=k3l Tryz.func51 14 [2,k [0],q,j [0] (I 0) (fun p:Bool=>[.s 9 [] (bl p)]) [3,G [6] [3,x 0] [3,x 0]] [cd [2,k [2,3],x 0] [k [0],1,h,d,h,2,w [2,3] (Mo [(0,1),(1,0)] 2 [0]),z]]]
end
instance {ur}:bh ((Ck ur).bind Sum.getLeft?) 51 [J ur] (fun _=>.tuple [.imm (.pointer none),J 1]):=c1
section
open Sg
instance {ur}:iO ((Ck ur).bind Sum.getRight?) 0 51 [J ur] .empty (fun _=>.tuple [.ref 0 0 0,J 0]) (fun r=>⟨2,[(0,(1,[.agg [.mref 1]])),(1,(0,[JS az.kv r]))],[]⟩):=k3r Tryz.func51 14 [2,k [0],q,j [0] (I 0) (fun p:Bool=>[.s 9 [] (bl p)]) [3,G [6] [3,x 0] [3,x 0]] [cd [2,k [2,3],z] [k [0],1,h,d,h,2,w [2,3] (Mo [(0,1),(1,0)] 2 [0]),x 2]]]
end
section
open Go.Conc Go.RowKit Go.Proofs
set_option maxRecDepth 100000
set_option maxHeartbeats 4000000
theorem IF(w:World)(arr:Array Value)(el:TypeId)(fz:Nat×Nat)(j:Nat)(v:Value):(w.alloc (.cells arr el fz)).setCell ⟨w.heap.size,j,none⟩ v=w.alloc (.cells (arr.setIfInBounds j v) el fz):=by
 unfold World.setCell World.alloc
 congr 1
 apply Array.ext_getElem?;intro i;rw[Array.getElem?_modify]
 by_cases h:w.heap.size=i
 ·subst h;simp
 ·rw[if_neg h,aqF,aqF];rw[if_neg (Ne.symm h),if_neg (Ne.symm h)]
theorem Kf{w:World}{ob ob':Obj}{c:Nat}(hc:c<w.heap.size):Below w.heap.size (w.putObj c ob') ((w.alloc ob).putObj c ob'):=by
 refine⟨Z,Z,Z, ?_,fun k hk=> ?_⟩
 ·show(w.heap.setIfInBounds c _).size≤((w.heap.push _).setIfInBounds c _).size;rw[aqL,aqL,aqK];omega
 ·show((w.heap.push _).setIfInBounds c _)[k]? =(w.heap.setIfInBounds c _)[k]?
  by_cases hck:c=k
  ·subst hck;rw[aqJ (by rw[aqK];omega),aqJ hk]
  ·rw[aqI hck,aqI hck,aqH hk,aqE hk]
theorem Qq{W:World}{b:Nat}(x y:Value){u v:Value}(h0:W.cell? ⟨b,0,none⟩=some u)(h1:W.cell? ⟨b,1,none⟩=some v):
  ((W.setCell ⟨b,0,none⟩ x).setCell ⟨b,1,none⟩ y).cell? ⟨b,0,none⟩=some x∧((W.setCell ⟨b,0,none⟩ x).setCell ⟨b,1,none⟩ y).cell? ⟨b,1,none⟩=some y:=by
 have hne:(⟨b,0,none⟩:Addr)≠⟨b,1,none⟩:=by intro h;injection h with _ h;cases h
 refine⟨?_,World.cell?_setCell_same _ _ _ (u:=v) ?_⟩
 ·rw[World.cell?_setCell_other (h:=hne.symm)];exact World.cell?_setCell_same _ _ _ h0
 ·rw[World.cell?_setCell_other (h:=hne)];exact h1
theorem TJ(w:World)(bq c cap s r:Nat)(buf:Array Value)(x y:Int)(h1:w.cell? ⟨bq,0,none⟩=some (.chan (some c)))(h2:w.heap[c]? =some (.chan cap buf false s r false))(hroom:buf.size<cap):
  Calls abQ 86 #[.pointer (some ⟨bq,0,none⟩),.agg #[.int .i64 x,.int .i64 y]] w fun e w'=>e=.returned (.bool true)∧w'=(w.alloc (.cells #[.int .i64 x,.int .i64 y] 54)).setChan c cap (buf.push (.agg #[.int .i64 x,.int .i64 y])) false (s+1) r false:=by
 refine calls_of_loneTo fun cs=> ?_;have e:Frame.enter abQ 86 #[.pointer (some ⟨bq,0,none⟩),.agg #[.int .i64 x,.int .i64 y]] .normal=(base 86).at ⟨#[.pointer (some ⟨bq,0,none⟩),.agg #[.int .i64 x,.int .i64 y],undef,undef,undef,undef,undef,undef,undef,undef,undef,undef,undef,undef,undef],[]⟩ [.code (Tryz.f86.body.getD .skip)]:=by
  simp[Frame.enter,Frame.at,Tryz.func86,base,Tryz.f86]
 rw[e];refine LoneTo.goes (n:=60) ?_;simp only[Tryz.f86,api]
 s_c stepG_seq
 s_reg
 s_op
 have hs:w.cell? ⟨w.heap.size,0,none⟩=none:=by simp[World.cell?]
 have hb:bq≠w.heap.size:=fun h=>by subst h;rw[hs] at h1;cases h1
 have hcl:c<w.heap.size:=(Array.getElem?_eq_some_iff.1 h2).1;generalize hW:w.alloc (.cells #[.int .i64 x,.int .i64 y] 54)=W1;have k1:W1.cell? ⟨bq,0,none⟩=some (.chan (some c)):=by rw[←hW,World.cell?_alloc_old _ _ _ (by exact hb)];exact h1
 have k2:W1.heap[c]? =some (.chan cap buf false s r false):=by rw[←hW];show(w.heap.push _)[c]? =_;rw[aqH hcl];rw[←h2,aqE hcl]
 have k3:W1.heap[w.heap.size]? =some (.cells #[.int .i64 x,.int .i64 y] 54):=by rw[←hW];show(w.heap.push _)[_]? =_;simp
 s_op
 s_c stepG_region_end
 s_c stepG_seq
 s_c stepG_seq
 s_reg
 s_op
 s_op
 s_c stepG_region_end
 s_cond false
 s_c stepG_skip
 s_c stepG_seq
 s_c stepG_seq
 s_reg
 s_op
 s_op
 s_op
 s_op
 have k4:W1.cell? ⟨w.heap.size,0,none⟩=some (.int .i64 x):=by simp[World.cell?,k3]
 have k5:W1.cell? ⟨w.heap.size,1,none⟩=some (.int .i64 y):=by simp[World.cell?,k3]
 s_c stepG_region_end
 s_reg
 s_op
 s_c stepG_region_end
 s_c stepG_seq
 s_reg
 s_stop
 refine LoneTo.step (step_lone_select_send_room (c:=c) (cap:=cap) (buf:=buf) (s:=s) (r:=r) (tm:=false) (v:=.agg #[.int .i64 x,.int .i64 y]) (z':=.agg #[.int .i64 0,.int .i64 0]) (w₁:=W1) (stepG_comm (cases:= #[scase c (.agg #[.int .i64 x,.int .i64 y]) (.agg #[.int .i64 0,.int .i64 0])]) (blocking:=false) (shape:=.select) (w':=W1) Z Z (by decide) (by simp[go_sem,execOp,scase,Act.eval])) k2 hroom) ?_;rw[Frame.finish_at]
 walk_nrm
 refine LoneTo.goes (n:=30) ?_
 s_op
 s_op
 s_c stepG_region_end
 s_c stepG_block
 s_cond true
 s_c stepG_seq
 s_reg
 s_op
 s_c stepG_region_end
 s_c stepG_ret'
 s_stop
 refine LoneTo.done ⟨.returned (.bool true),_,Z,⟨Z,Z⟩,Z,Z,Z,Z,_,Tryz.func86,by simp[results,Tryz.f86,Frame.at]⟩
theorem Xf(w:World)(bq c cap s r:Nat)(buf:Array Value)(x y:Int)(h1:w.cell? ⟨bq,0,none⟩=some (.chan (some c)))(h2:w.heap[c]? =some (.chan cap buf false s r false))(hfull:cap≤buf.size):
  Calls abQ 86 #[.pointer (some ⟨bq,0,none⟩),.agg #[.int .i64 x,.int .i64 y]] w fun e w'=>e=.returned (.bool false)∧w'=w.alloc (.cells #[.int .i64 x,.int .i64 y] 54):=by
 refine calls_of_loneTo fun cs=> ?_;have e:Frame.enter abQ 86 #[.pointer (some ⟨bq,0,none⟩),.agg #[.int .i64 x,.int .i64 y]] .normal=(base 86).at ⟨#[.pointer (some ⟨bq,0,none⟩),.agg #[.int .i64 x,.int .i64 y],undef,undef,undef,undef,undef,undef,undef,undef,undef,undef,undef,undef,undef],[]⟩ [.code (Tryz.f86.body.getD .skip)]:=by
  simp[Frame.enter,Frame.at,Tryz.func86,base,Tryz.f86]
 rw[e];refine LoneTo.goes (n:=60) ?_;simp only[Tryz.f86,api]
 s_c stepG_seq
 s_reg
 s_op
 have hs:w.cell? ⟨w.heap.size,0,none⟩=none:=by simp[World.cell?]
 have hb:bq≠w.heap.size:=fun h=>by subst h;rw[hs] at h1;cases h1
 have hcl:c<w.heap.size:=(Array.getElem?_eq_some_iff.1 h2).1;generalize hW:w.alloc (.cells #[.int .i64 x,.int .i64 y] 54)=W1;have k1:W1.cell? ⟨bq,0,none⟩=some (.chan (some c)):=by rw[←hW,World.cell?_alloc_old _ _ _ (by exact hb)];exact h1
 have k2:W1.heap[c]? =some (.chan cap buf false s r false):=by rw[←hW];show(w.heap.push _)[c]? =_;rw[aqH hcl];rw[←h2,aqE hcl]
 have k3:W1.heap[w.heap.size]? =some (.cells #[.int .i64 x,.int .i64 y] 54):=by rw[←hW];show(w.heap.push _)[_]? =_;simp
 s_op
 s_c stepG_region_end
 s_c stepG_seq
 s_c stepG_seq
 s_reg
 s_op
 s_op
 s_c stepG_region_end
 s_cond false
 s_c stepG_skip
 s_c stepG_seq
 s_c stepG_seq
 s_reg
 s_op
 s_op
 s_op
 s_op
 have k4:W1.cell? ⟨w.heap.size,0,none⟩=some (.int .i64 x):=by simp[World.cell?,k3]
 have k5:W1.cell? ⟨w.heap.size,1,none⟩=some (.int .i64 y):=by simp[World.cell?,k3]
 s_c stepG_region_end
 s_reg
 s_op
 s_c stepG_region_end
 s_c stepG_seq
 s_reg
 s_stop
 refine LoneTo.step (step_lone_select_send_full (c:=c) (cap:=cap) (buf:=buf) (s:=s) (r:=r) (tm:=false) (v:=.agg #[.int .i64 x,.int .i64 y]) (z':=.agg #[.int .i64 0,.int .i64 0]) (w₁:=W1) (stepG_comm (cases:= #[scase c (.agg #[.int .i64 x,.int .i64 y]) (.agg #[.int .i64 0,.int .i64 0])]) (blocking:=false) (shape:=.select) (w':=W1) Z Z (by decide) (by simp[go_sem,execOp,scase,Act.eval])) k2 hfull) ?_;rw[Frame.finish_at]
 walk_nrm
 refine LoneTo.goes (n:=30) ?_
 s_op
 s_op
 s_c stepG_region_end
 s_c stepG_block
 s_cond false
 s_c stepG_seq
 s_reg
 s_op
 s_c stepG_region_end
 s_c stepG_ret'
 s_stop
 refine LoneTo.done ⟨.returned (.bool false),_,Z,⟨Z,Z⟩,Z,Z,Z,Z,_,Tryz.func86,by simp[results,Tryz.f86,Frame.at]⟩
theorem FZ{W0:World}(hT:yW W0){qP:az}{Ru:Int×List az}{r:Bool×Int×List az}(h:oD qP Ru=some r):Bs abQ (.pinned W0 1) 86 [.ref 0 0 0,az.av qP] ⟨2,[(0,(1,[.agg [.mref 1]])),(1,(0,[JS az.kv Ru]))],[]⟩ (bl r.1) ⟨2,[(0,(1,[.agg [.mref 1]])),(1,(0,[JS az.kv r.2]))],[]⟩:=by
 obtain rfl:=D h;exact WH (kv:=az.kv) (enc:=az.av) (iF Tryz.func86 (by kernel_rfl) Z) (fun _=>Z)
  (fun w bq c cap s r buf x h1 h2 h3=>(TJ w bq c cap s r buf _ _ h1 h2 h3).mono fun e w' h=>⟨h.1,h.2▸Kf (Array.getElem?_eq_some_iff.1 h2).1⟩)
  (fun w bq c cap s r buf x h1 h2 h3=>(Xf w bq c cap s r buf _ _ h1 h2 h3).mono fun e w' h=>⟨h.1,h.2▸(Below.refl _ _).alloc (afk _) _⟩) Ru qP
end
instance {qP Ru}:iO (oD qP Ru) 1 86 [.ref 0 0 0,az.av qP] ⟨2,[(0,(1,[.agg [.mref 1]])),(1,(0,[JS az.kv Ru]))],[]⟩ (fun r=>bl r.1) (fun r=>⟨2,[(0,(1,[.agg [.mref 1]])),(1,(0,[JS az.kv r.2]))],[]⟩):=⟨fun _ _ hT h=>FZ hT h⟩
section
open Go.Conc Go.RowKit Go.Proofs
set_option maxRecDepth 100000
set_option maxHeartbeats 4000000
theorem Xd(w:World)(bq c cap s r:Nat)(buf:Array Value)(x y:Int)(h1:w.cell? ⟨bq,0,none⟩=some (.chan (some c)))(h2:w.heap[c]? =some (.chan cap buf false s r false))(h3:0<buf.size)(h4:buf.getD 0 undef=.agg #[.int .i64 x,.int .i64 y]):
  Calls abQ 53 #[.pointer (some ⟨bq,0,none⟩)] w fun e w'=>e=.returned (.tuple #[.agg #[.int .i64 x,.int .i64 y],.bool true])∧
   Below w.heap.size (w.setChan c cap (buf.extract 1 buf.size) false s (r+1) false) w':=by
 refine calls_of_loneTo fun cs=> ?_;have e:Frame.enter abQ 53 #[.pointer (some ⟨bq,0,none⟩)] .normal=(base 53).at ⟨#[.pointer (some ⟨bq,0,none⟩),undef,undef,undef,undef,undef,undef,undef,undef,undef,undef,undef,undef,undef,undef,undef,undef,undef],[]⟩ [.code (Tryz.f53.body.getD .skip)]:=by
  simp[Frame.enter,Frame.at,Tryz.func53,base,Tryz.f53]
 rw[e];refine LoneTo.goes (n:=60) ?_;simp only[Tryz.f53,api]
 s_c stepG_seq
 s_reg
 s_op
 have hs:w.cell? ⟨w.heap.size,0,none⟩=none:=by simp[World.cell?]
 have hb:bq≠w.heap.size:=fun h=>by subst h;rw[hs] at h1;cases h1
 have hcl:c<w.heap.size:=(Array.getElem?_eq_some_iff.1 h2).1;generalize hW:w.alloc (.cells #[.int .i64 0,.int .i64 0] 54)=W1;have k1:W1.cell? ⟨bq,0,none⟩=some (.chan (some c)):=by rw[←hW,World.cell?_alloc_old _ _ _ (by exact hb)];exact h1
 have k2:W1.heap[c]? =some (.chan cap buf false s r false):=by rw[←hW];show(w.heap.push _)[c]? =_;rw[aqH hcl];rw[←h2,aqE hcl]
 have k3:W1.heap[w.heap.size]? =some (.cells #[.int .i64 0,.int .i64 0] 54):=by rw[←hW];show(w.heap.push _)[_]? =_;simp
 s_op
 s_c stepG_region_end
 s_c stepG_seq
 s_c stepG_seq
 s_reg
 s_op
 s_op
 s_c stepG_region_end
 s_cond false
 s_c stepG_skip
 s_c stepG_seq
 s_reg
 s_op
 s_op
 s_op
 s_op
 s_c stepG_region_end
 s_c stepG_seq
 s_reg
 s_stop
 refine LoneTo.step (step_lone_select_recv_buf (c:=c) (cap:=cap) (buf:=buf) (s:=s) (r:=r) (tm:=false) (closed:=false) (z:=.agg #[.int .i64 0,.int .i64 0]) (w₁:=W1) (stepG_comm (cases:= #[rcase c (.agg #[.int .i64 0,.int .i64 0])]) (blocking:=false) (shape:=.select) (w':=W1) Z Z (by decide) (by simp[go_sem,execOp,rcase,Act.eval])) k2 h3) ?_;rw[Frame.finish_at,h4]
 walk_nrm
 generalize WJ:W1.setChan c cap (buf.extract 1 buf.size) false s (r+1) false=W2;refine LoneTo.goes (n:=30) ?_
 s_op
 s_op
 s_c stepG_region_end
 s_c stepG_block
 s_cond true
 s_c stepG_seq
 s_reg
 s_op
 s_op
 s_op
 have e3:((W2.alloc (.cells #[.int .i64 0,.int .i64 0] 54)).setCell ⟨W2.heap.size,0,none⟩ (.int .i64 x)).setCell ⟨W2.heap.size,1,none⟩ (.int .i64 y)=W2.alloc (.cells #[.int .i64 x,.int .i64 y] 54):=by
  rw[IF,IF];rfl
 try rw[e3]
 have n1:W1.heap.size=w.heap.size+1:=by rw[←hW];show(w.heap.push _).size=_;rw[aqK]
 have n2:W2.heap.size=w.heap.size+1:=by rw[←WJ];show(W1.heap.setIfInBounds c _).size=_;rw[aqL];exact n1
 have q2:W2.heap[w.heap.size]? =some (.cells #[.int .i64 0,.int .i64 0] 54):=by
  rw[←WJ];show(W1.heap.setIfInBounds c _)[_]? =_;rw[aqI (by omega)];exact k3
 have q2w:W2.heap[w.heap.size]? =some (.cells #[.int .i64 0,.int .i64 0] 54):=q2;have hB:Below w.heap.size (w.setChan c cap (buf.extract 1 buf.size) false s (r+1) false) W2:=by
  rw[←WJ,←hW];refine⟨Z,Z,Z, ?_,fun k hk=> ?_⟩
  ·show(w.heap.setIfInBounds c _).size≤((w.heap.push _).setIfInBounds c _).size;rw[aqL,aqL,aqK];omega
  show((w.heap.push _).setIfInBounds c _)[k]? =(w.heap.setIfInBounds c _)[k]?
  by_cases hck:c=k
  ·subst hck;rw[aqJ (by rw[aqK];omega),aqJ hk]
  ·rw[aqI hck,aqI hck,aqH hk,aqE hk]
 generalize hW3:W2.alloc (.cells #[.int .i64 x,.int .i64 y] 54)=W3;have m3:W3.heap[w.heap.size+1]? =some (.cells #[.int .i64 x,.int .i64 y] 54):=by rw[←hW3,←n2];show(W2.heap.push _)[_]? =_;rw[Array.getElem?_push_size]
 have m4:W3.cell? ⟨w.heap.size+1,0,none⟩=some (.int .i64 x):=by unfold World.cell?;rw[m3];rfl
 have m5:W3.cell? ⟨w.heap.size+1,1,none⟩=some (.int .i64 y):=by unfold World.cell?;rw[m3];rfl
 have m6:W3.heap[w.heap.size]? =some (.cells #[.int .i64 0,.int .i64 0] 54):=by
  rw[←hW3,←q2];show(W2.heap.push _)[_]? =_;rw[aqH (by omega),←aqE]
 have m7:W3.cell? ⟨w.heap.size,0,none⟩=some (.int .i64 0):=by unfold World.cell?;rw[m6];rfl
 have m8:W3.cell? ⟨w.heap.size,1,none⟩=some (.int .i64 0):=by unfold World.cell?;rw[m6];rfl
 have m9:W3.frozen? ⟨w.heap.size,0,none⟩=false:=by unfold World.frozen?;rw[m6];rfl
 have m10:W3.frozen? ⟨w.heap.size,1,none⟩=false:=by unfold World.frozen?;rw[m6];rfl
 have hB3:Below w.heap.size (w.setChan c cap (buf.extract 1 buf.size) false s (r+1) false) W3:=by rw[←hW3];exact hB.alloc (by omega) _
 s_c stepG_region_end
 s_c stepG_seq
 s_reg
 s_op
 s_op
 s_op
 s_c stepG_region_end
 s_c stepG_ret'
 s_stop
 obtain⟨z1,z2⟩:=Qq (.int .i64 x) (.int .i64 y) m7 m8;refine LoneTo.done ⟨.returned (.tuple #[.agg #[.int .i64 x,.int .i64 y],.bool true]),_,Z,⟨Z,(hB3.setCell (afk _) _).setCell (afk _) _⟩,Z,Z,Z,Z,_,Tryz.func53, ?_⟩;clear hB3 hB e3 e k1 k2 k3 m3 m4 m5 m6 m7 m8 m9 m10 q2 q2w n1 n2 h1 h2 h3 h4 hs hb hcl hW WJ hW3;generalize (W3.setCell ⟨w.heap.size,0,none⟩ (.int .i64 x)).setCell ⟨w.heap.size,1,none⟩ (.int .i64 y)=W4 at z1 z2 ⊢;simp only[results,Tryz.f53,Frame.at]
 go_simp
theorem pop_empty(w:World)(bq c cap s r:Nat)(h1:w.cell? ⟨bq,0,none⟩=some (.chan (some c)))(h2:w.heap[c]? =some (.chan cap #[] false s r false)):
  Calls abQ 53 #[.pointer (some ⟨bq,0,none⟩)] w fun e w'=>e=.returned (.tuple #[.agg #[.int .i64 0,.int .i64 0],.bool false])∧
   Below w.heap.size w w':=by
 refine calls_of_loneTo fun cs=> ?_;have e:Frame.enter abQ 53 #[.pointer (some ⟨bq,0,none⟩)] .normal=(base 53).at ⟨#[.pointer (some ⟨bq,0,none⟩),undef,undef,undef,undef,undef,undef,undef,undef,undef,undef,undef,undef,undef,undef,undef,undef,undef],[]⟩ [.code (Tryz.f53.body.getD .skip)]:=by
  simp[Frame.enter,Frame.at,Tryz.func53,base,Tryz.f53]
 rw[e];refine LoneTo.goes (n:=60) ?_;simp only[Tryz.f53,api]
 s_c stepG_seq
 s_reg
 s_op
 have hs:w.cell? ⟨w.heap.size,0,none⟩=none:=by simp[World.cell?]
 have hb:bq≠w.heap.size:=fun h=>by subst h;rw[hs] at h1;cases h1
 have hcl:c<w.heap.size:=(Array.getElem?_eq_some_iff.1 h2).1;generalize hW:w.alloc (.cells #[.int .i64 0,.int .i64 0] 54)=W1;have k1:W1.cell? ⟨bq,0,none⟩=some (.chan (some c)):=by rw[←hW,World.cell?_alloc_old _ _ _ (by exact hb)];exact h1
 have k2:W1.heap[c]? =some (.chan cap #[] false s r false):=by rw[←hW];show(w.heap.push _)[c]? =_;rw[aqH hcl];rw[←h2,aqE hcl]
 have k3:W1.heap[w.heap.size]? =some (.cells #[.int .i64 0,.int .i64 0] 54):=by rw[←hW];show(w.heap.push _)[_]? =_;simp
 s_op
 s_c stepG_region_end
 s_c stepG_seq
 s_c stepG_seq
 s_reg
 s_op
 s_op
 s_c stepG_region_end
 s_cond false
 s_c stepG_skip
 s_c stepG_seq
 s_reg
 s_op
 s_op
 s_op
 s_op
 s_c stepG_region_end
 s_c stepG_seq
 s_reg
 s_stop
 refine LoneTo.step (step_lone_select_default (c:=c) (cap:=cap) (s:=s) (r:=r) (tm:=false) (z:=.agg #[.int .i64 0,.int .i64 0]) (w₁:=W1) (stepG_comm (cases:= #[rcase c (.agg #[.int .i64 0,.int .i64 0])]) (blocking:=false) (shape:=.select) (w':=W1) Z Z (by decide) (by simp[go_sem,execOp,rcase,Act.eval])) k2) ?_;rw[Frame.finish_at]
 walk_nrm
 refine LoneTo.goes (n:=30) ?_
 s_op
 s_op
 have hB:Below w.heap.size w W1:=by rw[←hW];exact(Below.refl _ _).alloc (afk _) _
 have m7:W1.cell? ⟨w.heap.size,0,none⟩=some (.int .i64 0):=by unfold World.cell?;rw[k3];rfl
 have m8:W1.cell? ⟨w.heap.size,1,none⟩=some (.int .i64 0):=by unfold World.cell?;rw[k3];rfl
 have m9:W1.frozen? ⟨w.heap.size,0,none⟩=false:=by unfold World.frozen?;rw[k3];rfl
 have m10:W1.frozen? ⟨w.heap.size,1,none⟩=false:=by unfold World.frozen?;rw[k3];rfl
 s_c stepG_region_end
 s_c stepG_block
 s_cond false
 s_c stepG_seq
 s_reg
 s_op
 s_op
 s_op
 s_c stepG_region_end
 s_c stepG_ret'
 s_stop
 obtain⟨z1,z2⟩:=Qq (.int .i64 0) (.int .i64 0) m7 m8;refine LoneTo.done ⟨.returned (.tuple #[.agg #[.int .i64 0,.int .i64 0],.bool false]),_,Z,⟨Z,(hB.setCell (afk _) _).setCell (afk _) _⟩,Z,Z,Z,Z,_,Tryz.func53, ?_⟩;clear hB e k1 k2 k3 m7 m8 m9 m10 h1 h2 hs hb hcl hW;generalize (W1.setCell ⟨w.heap.size,0,none⟩ (.int .i64 0)).setCell ⟨w.heap.size,1,none⟩ (.int .i64 0)=W4 at z1 z2 ⊢;simp only[results,Tryz.f53,Frame.at]
 go_simp
theorem G3{W0:World}(hT:yW W0){Ru:Int×List az}{r:az×Bool×Int×List az}(h:pV Ru=some r):Bs abQ (.pinned W0 1) 53 [.ref 0 0 0] ⟨2,[(0,(1,[.agg [.mref 1]])),(1,(0,[JS az.kv Ru]))],[]⟩ (.tuple [az.av r.1,bl r.2.1]) ⟨2,[(0,(1,[.agg [.mref 1]])),(1,(0,[JS az.kv r.2.2]))],[]⟩:=by
 obtain rfl:=D h;exact YZ (kv:=az.kv) (enc:=az.av) ⟨0,0⟩ (iF Tryz.func53 (by kernel_rfl) Z) (fun C x=>.agg _ _ Z (fun k v hk=>by match k with|0=>simp at hk;subst hk;rfl|1=>simp at hk;subst hk;rfl|k+2=>simp at hk) (fun k y hk=>by match k with|0=>simp at hk;subst hk;exact .imm _ Z|1=>simp at hk;subst hk;exact .imm _ Z|k+2=>simp at hk))
  (fun w bq c cap s r x l h1 h2=>(Xd w bq c cap s r _ _ _ h1 h2 (by simp) Z).mono fun e w' h=>⟨h.1,by(have ht:List.take l.length (ajN az.kv l)=ajN az.kv l:=List.take_of_length_le (by simp));(have:=h.2);simpa [World.setChan,World.putObj,ht] using this⟩)
  (fun w bq c cap s r h1 h2=>pop_empty w bq c cap s r h1 h2) Ru
end
instance {Ru}:iO (pV Ru) 1 53 [.ref 0 0 0] ⟨2,[(0,(1,[.agg [.mref 1]])),(1,(0,[JS az.kv Ru]))],[]⟩ (fun r=>.tuple [az.av r.1,bl r.2.1]) (fun r=>⟨2,[(0,(1,[.agg [.mref 1]])),(1,(0,[JS az.kv r.2.2]))],[]⟩):=⟨fun _ _ hT h=>G3 hT h⟩
end Wk
end
