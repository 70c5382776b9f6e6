/- Tables, classes, and the script of the walks by signs. -/
import Derived.Test.YtanbmobkolihaaaGreatDoorWhRFacts
import Derived.Test.YtanbmobkolihaaaGreatDoorBase3
open List renaming map→ajN,replicate→aeR
open Go.Proofs.Tryz renaming prog→abQ
open Go Go.Av Go.Proofs Go.Sh
set_option linter.unusedVariables false
set_option maxRecDepth 20000
namespace Wk
def tw:Tw:=⟨tb,[(100,(139,2,16)),(104,(107,2,16)),(111,(9,1,16)),(128,(131,2,48)),(129,(136,2,16)),(170,(174,4,48)),(180,(179,1,8)),(192,(100,1,24)),(196,(287,1,8)),(226,(4,1,1)),(230,(278,2,16)),(30,(3,1,8)),(31,(274,2,32)),(32,(211,4,48)),(344,(5,1,1)),(38,(102,3,56)),(402,(406,2,16)),(468,(382,2,32)),(475,(478,2,16)),(479,(32,1,24)),(48,(54,2,16)),(494,(73,3,24)),(495,(73,3,24)),(502,(505,1,16)),(51,(73,3,24)),(59,(116,4,32)),(62,(67,4,48)),(83,(314,7,72)),(87,(30,1,24)),(90,(317,5,56))],[(100,(139,2,16,.agg #[.int .i64 0,.int .i64 0])),(104,(107,2,16,.agg #[.int .i64 0,.int .i64 0])),(111,(9,1,16,.string ByteArray.empty)),(128,(131,2,48,.agg #[.slice none 0 0,.slice none 0 0])),(129,(136,2,16,.agg #[.int .i64 0,.int .i64 0])),(170,(174,4,48,.agg #[.int .i64 0,.bool false,.int .i64 0,.slice none 0 0])),(180,(179,1,8,.pointer none)),(192,(100,1,24,.slice none 0 0)),(196,(287,1,8,.int .u64 0)),(226,(4,1,1,.bool false)),(230,(278,2,16,.agg #[.int .i64 0,.int .i64 0])),(30,(3,1,8,.int .i64 0)),(31,(274,2,32,.agg #[.int .i64 0,.slice none 0 0])),(32,(211,4,48,.agg #[.int .i64 0,.int .i64 0,.int .i64 0,.slice none 0 0])),(344,(5,1,1,.int .u8 0)),(38,(102,3,56,.agg #[.int .i64 0,.slice none 0 0,.slice none 0 0])),(402,(406,2,16,.agg #[.int .i64 0,.nilFunc])),(468,(382,2,32,.agg #[.int .i64 0,.slice none 0 0])),(475,(478,2,16,.agg #[.int .i64 0,.int .i64 0])),(479,(32,1,24,.slice none 0 0)),(48,(54,2,16,.agg #[.int .i64 0,.int .i64 0])),(494,(73,3,24,.agg #[.int .i64 0,.int .i64 0,.int .i64 0])),(495,(73,3,24,.agg #[.int .i64 0,.int .i64 0,.int .i64 0])),(502,(505,1,16,.nilIface)),(51,(73,3,24,.agg #[.int .i64 0,.int .i64 0,.int .i64 0])),(59,(116,4,32,.agg #[.int .i64 0,.int .i64 0,.int .i64 0,.int .i64 0])),(62,(67,4,48,.agg #[.int .i64 0,.bool false,.int .i64 0,.slice none 0 0])),(83,(314,7,72,.agg #[.int .i64 0,.int .i64 0,.int .i64 0,.int .i64 0,.int .i64 0,.int .i64 0,.slice none 0 0])),(87,(30,1,24,.slice none 0 0)),(90,(317,5,56,.agg #[.int .i64 0,.int .i64 0,.int .i64 0,.bool false,.slice none 0 0]))],[(102,.agg #[.int .i64 0,.slice none 0 0,.slice none 0 0]),(107,.agg #[.int .i64 0,.int .i64 0]),(116,.agg #[.int .i64 0,.int .i64 0,.int .i64 0,.int .i64 0]),(126,.agg #[.int .i64 0,.int .i64 0]),(131,.agg #[.slice none 0 0,.slice none 0 0]),(136,.agg #[.int .i64 0,.int .i64 0]),(139,.agg #[.int .i64 0,.int .i64 0]),(181,.nilFunc),(184,.nilFunc),(198,.agg #[.int .i64 0,.slice none 0 0]),(211,.agg #[.int .i64 0,.int .i64 0,.int .i64 0,.slice none 0 0]),(22,.agg #[.int .i64 0,.int .i64 0,.int .i64 0,.int .i64 0]),(232,.agg #[.slice none 0 0,.slice none 0 0]),(24,.agg #[.int .i64 0,.int .i64 0,.int .i64 0,.int .i64 0,.int .i64 0]),(26,.agg #[.string ByteArray.empty,.int .i64 0,.int .i64 0,.int .i64 0,.int .i64 0,.int .i64 0,.int .i64 0,.string ByteArray.empty]),(274,.agg #[.int .i64 0,.slice none 0 0]),(29,.int .i64 0),(3,.int .i64 0),(30,.slice none 0 0),(314,.agg #[.int .i64 0,.int .i64 0,.int .i64 0,.int .i64 0,.int .i64 0,.int .i64 0,.slice none 0 0]),(317,.agg #[.int .i64 0,.int .i64 0,.int .i64 0,.bool false,.slice none 0 0]),(323,.agg #[.nilFunc,.nilFunc,.nilFunc,.nilFunc]),(326,.agg #[.int .i64 0,.slice none 0 0,.slice none 0 0,.slice none 0 0]),(34,.agg #[.int .i64 0,.bool false,.slice none 0 0,.slice none 0 0,.slice none 0 0]),(344,.slice none 0 0),(36,.agg #[.int .i64 0,.int .i64 0,.int .i64 0,.int .i64 0,.int .i64 0,.int .i64 0,.int .i64 0,.bool false,.slice none 0 0,.slice none 0 0,.slice none 0 0]),(382,.agg #[.int .i64 0,.slice none 0 0]),(4,.bool false),(40,.agg #[.slice none 0 0]),(406,.agg #[.int .i64 0,.nilFunc]),(415,.int .u64 0),(422,.agg #[.int .u8 0,.int .u8 0]),(432,.agg #[.int .i64 0,.int .i64 0,.int .i64 0,.int .i64 0,.int .i64 0,.int .i64 0,.int .i64 0,.int .i64 0]),(433,.pointer none),(444,.agg (aeR 64 (Value.int .i64 0)).toArray),(465,.agg (aeR 32 (Value.bool false)).toArray),(466,.agg (aeR 16 (Value.int .i64 0)).toArray),(478,.agg #[.int .i64 0,.int .i64 0]),(501,.agg #[.int .i64 0,.int .i64 0,.int .i64 0]),(51,.slice none 0 0),(54,.agg #[.int .i64 0,.int .i64 0]),(59,.slice none 0 0),(67,.agg #[.int .i64 0,.bool false,.int .i64 0,.slice none 0 0]),(73,.agg #[.int .i64 0,.int .i64 0,.int .i64 0]),(81,.agg #[.int .i64 0,.int .i64 0]),(86,.agg #[.int .i64 0,.int .i64 0]),(89,.agg #[.int .i64 0,.bool false,.slice none 0 0,.slice none 0 0]),(92,.agg (aeR 9 (Value.int .i64 0)).toArray),(94,.agg #[.slice none 0 0,.int .i64 0,.slice none 0 0,.bool false,.bool false,.bool false,.bool false,.int .i64 0,.int .i64 0,.int .i64 0,.bool false,.slice none 0 0,.slice none 0 0,.slice none 0 0,.int .i64 0,.int .i64 0,.int .i64 0,.int .i64 0,.int .i64 0,.int .i64 0,.int .i64 0,.int .i64 0,.int .i64 0,.int .i64 0,.int .i64 0,.int .i64 0,.slice none 0 0,.slice none 0 0])],[(102,([(0,1),(1,1),(2,1)],[.int .i64 0,.slice none 0 0,.slice none 0 0])),(107,([(0,1),(1,1)],[.int .i64 0,.int .i64 0])),(116,([(0,1),(1,1),(2,1),(3,1)],[.int .i64 0,.int .i64 0,.int .i64 0,.int .i64 0])),(126,([(0,1),(1,1)],[.int .i64 0,.int .i64 0])),(131,([(0,1),(1,1)],[.slice none 0 0,.slice none 0 0])),(136,([(0,1),(1,1)],[.int .i64 0,.int .i64 0])),(139,([(0,1),(1,1)],[.int .i64 0,.int .i64 0])),(174,([(0,1),(1,1),(2,1),(3,1)],[.int .i64 0,.bool false,.int .i64 0,.slice none 0 0])),(198,([(0,1),(1,1)],[.int .i64 0,.slice none 0 0])),(205,([(0,1)],[.chan none])),(211,([(0,3),(3,1)],[.int .i64 0,.int .i64 0,.int .i64 0,.slice none 0 0])),(22,([(0,1),(1,1),(2,1),(3,1)],[.int .i64 0,.int .i64 0,.int .i64 0,.int .i64 0])),(232,([(0,1),(1,1)],[.slice none 0 0,.slice none 0 0])),(24,([(0,1),(1,4)],[.int .i64 0,.int .i64 0,.int .i64 0,.int .i64 0,.int .i64 0])),(274,([(0,1),(1,1)],[.int .i64 0,.slice none 0 0])),(278,([(0,1),(1,1)],[.int .i64 0,.int .i64 0])),(310,([(0,1)],[.slice none 0 0])),(314,([(0,3),(3,1),(4,1),(5,1),(6,1)],[.int .i64 0,.int .i64 0,.int .i64 0,.int .i64 0,.int .i64 0,.int .i64 0,.slice none 0 0])),(317,([(0,3),(3,1),(4,1)],[.int .i64 0,.int .i64 0,.int .i64 0,.bool false,.slice none 0 0])),(323,([(0,1),(1,1),(2,1),(3,1)],[.nilFunc,.nilFunc,.nilFunc,.nilFunc])),(326,([(0,1),(1,1),(2,1),(3,1)],[.int .i64 0,.slice none 0 0,.slice none 0 0,.slice none 0 0])),(34,([(0,1),(1,1),(2,1),(3,1),(4,1)],[.int .i64 0,.bool false,.slice none 0 0,.slice none 0 0,.slice none 0 0])),(36,([(0,1),(1,1),(2,1),(3,1),(4,1),(5,1),(6,5)],[.int .i64 0,.int .i64 0,.int .i64 0,.int .i64 0,.int .i64 0,.int .i64 0,.int .i64 0,.bool false,.slice none 0 0,.slice none 0 0,.slice none 0 0])),(380,([(0,1)],[.slice none 0 0])),(382,([(0,1),(1,1)],[.int .i64 0,.slice none 0 0])),(40,([(0,1)],[.slice none 0 0])),(406,([(0,1),(1,1)],[.int .i64 0,.nilFunc])),(408,([(0,1),(1,1),(2,1),(3,7)],[.slice none 0 0,.int .i64 0,.slice none 0 0,.int .i64 0,.int .i64 0,.int .i64 0,.int .i64 0,.int .i64 0,.int .i64 0,.slice none 0 0])),(463,([],[])),(478,([(0,1),(1,1)],[.int .i64 0,.int .i64 0])),(492,([],[])),(493,([],[])),(501,([(0,1),(1,2)],[.int .i64 0,.int .i64 0,.int .i64 0])),(54,([(0,1),(1,1)],[.int .i64 0,.int .i64 0])),(67,([(0,1),(1,1),(2,1),(3,1)],[.int .i64 0,.bool false,.int .i64 0,.slice none 0 0])),(73,([(0,1),(1,1),(2,1)],[.int .i64 0,.int .i64 0,.int .i64 0])),(81,([(0,1),(1,1)],[.int .i64 0,.int .i64 0])),(86,([(0,1),(1,1)],[.int .i64 0,.int .i64 0])),(89,([(0,1),(1,1),(2,1),(3,1)],[.int .i64 0,.bool false,.slice none 0 0,.slice none 0 0])),(92,([(0,1),(1,4),(5,4)],aeR 9 (Value.int .i64 0))),(94,([(0,1),(1,1),(2,1),(3,4),(7,2),(9,4),(13,1),(14,9),(23,1),(24,1),(25,1),(26,1),(27,1)],[.slice none 0 0,.int .i64 0,.slice none 0 0,.bool false,.bool false,.bool false,.bool false,.int .i64 0,.int .i64 0,.int .i64 0,.bool false,.slice none 0 0,.slice none 0 0,.slice none 0 0,.int .i64 0,.int .i64 0,.int .i64 0,.int .i64 0,.int .i64 0,.int .i64 0,.int .i64 0,.int .i64 0,.int .i64 0,.int .i64 0,.int .i64 0,.int .i64 0,.slice none 0 0,.slice none 0 0])),(96,([(0,28),(28,1)],[.slice none 0 0,.int .i64 0,.slice none 0 0,.bool false,.bool false,.bool false,.bool false,.int .i64 0,.int .i64 0,.int .i64 0,.bool false,.slice none 0 0,.slice none 0 0,.slice none 0 0,.int .i64 0,.int .i64 0,.int .i64 0,.int .i64 0,.int .i64 0,.int .i64 0,.int .i64 0,.int .i64 0,.int .i64 0,.int .i64 0,.int .i64 0,.int .i64 0,.slice none 0 0,.slice none 0 0,.string ByteArray.empty]))],[(3,.int .i64),(5,.int .u8),(9,.string),(22,.array 4 3),(29,.int .i64),(30,.slice 3),(84,.array 4 4),(90,.slice 317),(100,.slice 139),(178,.array 5 9),(283,.int .u64),(323,.array 4 321),(494,.slice 73),(495,.slice 73)],[(22,(4,1)),(323,(4,1)),(420,(256,1)),(423,(16,2)),(432,(8,1)),(434,(32,1)),(435,(16,32)),(444,(64,1)),(465,(32,1)),(466,(16,1)),(490,(64,1)),(84,(4,1))]⟩
theorem two:tw.Of abQ where
  tb:=lD
  el t r h:=ME.lk (p:=fun t r=>oK abQ t=some r) (l:=tw.el) ⟨ae6,ak0,YJ,ak1,uW,Nw,ak2,ak3,ak4,U4,ak5,Je,ark,OE,ak6,arl,ak7,ak8,ak9,ak_,arn,ala,alb,alc,aro,Qz,S2,arp,Lh,agn,trivial⟩ h
  et t e s b z h:=ME.lk (p:=fun t (r:Nat×Nat×Nat×Value)=>AM abQ t r.1 r.2.1 r.2.2.1 r.2.2.2) (l:=tw.et) ⟨ae8,alh,ali,alj,YN,ae9,alk,alm,aln,ae_,alo,alp,arq,alq,alr,ars,als,alu,alv,alw,art,alx,aly,alz,aru,acn,alA,arv,arw,agy,trivial⟩ h
  zr t z h:=ME.lk (p:=fun t r=>oL abQ t=some r) (l:=tw.zr) ⟨apH,apI,V8,af6,apJ,apK,apL,apM,apN,apO,af7,awt,apP,awu,awv,apQ,apR,zr3,aww,apT,apU,apV,apW,awx,apX,awy,apY,zr4,awz,apZ,ap0,ap1,ap2,ap3,ap4,ap5,ap6,ap7,ap8,awA,awB,ap9,awC,awD,awE,awF,PX,awG,awH,trivial⟩ h
  bd t z h:=ME.lk (p:=fun t r=>zC abQ t=some r) (l:=tw.bd) ⟨akk,akl,akn,ako,akp,akq,akr,ae3,aks,akt,aku,aqY,akv,aqZ,akw,akx,aky,akz,akA,akB,akC,aq0,aq1,ae4,akD,aq2,akE,akF,Yu,akG,akH,akI,akJ,aq3,akK,aq4,aq5,aq6,Oz,aq7,aq8,aq9,trivial⟩ h
  un t z h:=ME.lk (p:=fun t r=>abQ.underlying t=some r) (l:=tw.un) ⟨Tryz.underlying3,Tryz.underlying5,Tryz.underlying9,Tryz.underlying22,Tryz.underlying29,Tryz.underlying30,Tryz.underlying84,Tryz.underlying90,Tryz.underlying100,Tryz.underlying178,Tryz.underlying283,Tryz.underlying323,Tryz.underlying494,Tryz.underlying495,trivial⟩ h
  ar t z h:=ME.lk (p:=fun t r=>Hi abQ t=some r) (l:=tw.ar) ⟨aqT,akb,akc,akd,ake,akf,akg,akh,aki,akj,ae2,aqU,trivial⟩ h
instance:EncT 3 J:=⟨trivial⟩
instance:EncT 4 bl:=⟨trivial⟩
instance:EncT 54 G.az.av:=⟨trivial⟩
instance:EncT 67 G.aM.av:=⟨trivial⟩
instance:EncT 73 G.aa.av:=⟨trivial⟩
instance:EncT 102 G.aJ.av:=⟨trivial⟩
instance:EncT 107 G.a_.av:=⟨trivial⟩
instance:EncT 116 G.an.av:=⟨trivial⟩
instance:EncT 131 G.aZ.av:=⟨trivial⟩
instance:EncT 136 G.ah.av:=⟨trivial⟩
instance:EncT 139 G.aO.av:=⟨trivial⟩
instance:EncT 174 G.aq.av:=⟨trivial⟩
instance:EncT 211 G.ai.av:=⟨trivial⟩
instance:EncT 274 G.c_.av:=⟨trivial⟩
instance:EncT 278 G.aC.av:=⟨trivial⟩
instance:EncT 287 u64:=⟨trivial⟩
instance:EncT 314 G.au.av:=⟨trivial⟩
instance:EncT 317 G.aA.av:=⟨trivial⟩
instance:EncT 382 G.aj.av:=⟨trivial⟩
instance:EncT 478 G.bn.av:=⟨trivial⟩
variable {W0:bS}{fr:Fr}{H:Heap}{o:Oper}{x ix:Operand}{id:Nat}{a0 a1:Int}
theorem ahb{L:List (G.ah×G.aF)}(ho:o.op=.lookup 124 x ix true)(hx:aD fr x=some (.mref id))(hid:H.get id=some [CC G.ah.kv G.aF.kv L])(hix:aD fr ix=some (.agg [J a0,J a1])):b_ abQ W0 o fr H (.tuple [G.aF.av ((Sh.cD (.mk a0 a1) L).getD (.mk 0 0)),bl (Sh.cD (.mk a0 a1) L).isSome]) H:=R1 (vv:=G.aF.kv) Vo (.mk a0 a1) L (.mk 0 0) ho hx hid Tryz.underlying124 hix rfl af6 (fun _=>G.aF.Vr _)
theorem anI{L:List (G.ah×Bool)}(ho:o.op=.lookup 134 x ix false)(hx:aD fr x=some (.mref id))(hid:H.get id=some [CC G.ah.kv Tq L])(hix:aD fr ix=some (.agg [J a0,J a1])):b_ abQ W0 o fr H (bl ((Sh.cD (.mk a0 a1) L).getD false)) H:=V2 (vv:=Tq) Vo (.mk a0 a1) L false ho hx hid Tryz.underlying134 hix rfl zr4 (fun _=>rfl)
variable {a2:Int}
theorem anJ{L:List (G.aa×Bool)}(ho:o.op=.lookup 303 x ix false)(hx:aD fr x=some (.mref id))(hid:H.get id=some [CC G.aa.kv Tq L])(hix:aD fr ix=some (.agg [J a0,J a1,J a2])):b_ abQ W0 o fr H (bl ((Sh.cD (.mk a0 a1 a2) L).getD false)) H:=V2 (vv:=Tq) anD (.mk a0 a1 a2) L false ho hx hid Tryz.underlying303 hix rfl zr4 (fun _=>rfl)
variable {kx vx:Operand}
theorem anL{b0 b1:Int}{L:List (G.ah×G.aF)}(ho:o.op=.mapUpdate 124 x kx vx)(hx:aD fr x=some (.mref id))(hid:H.get id=some [CC G.ah.kv G.aF.kv L])(hkx:aD fr kx=some (.agg [J a0,J a1]))(hv:aD fr vx=some (.agg [J b0,J b1])):b_ abQ W0 o fr H .any (H.set id [CC G.ah.kv G.aF.kv (Sh.nC (.mk a0 a1) (.mk b0 b1) L)]):=IN Vo (.mk a0 a1) (.mk b0 b1) L ho hx hid Tryz.underlying124 hkx rfl hv rfl
theorem anM{b:Bool}{L:List (G.ah×Bool)}(ho:o.op=.mapUpdate 134 x kx vx)(hx:aD fr x=some (.mref id))(hid:H.get id=some [CC G.ah.kv Tq L])(hkx:aD fr kx=some (.agg [J a0,J a1]))(hv:aD fr vx=some (bl b)):b_ abQ W0 o fr H .any (H.set id [CC G.ah.kv Tq (Sh.nC (.mk a0 a1) b L)]):=IN Vo (.mk a0 a1) b L ho hx hid Tryz.underlying134 hkx rfl hv rfl
theorem anN{b:Bool}{L:List (G.aa×Bool)}(ho:o.op=.mapUpdate 303 x kx vx)(hx:aD fr x=some (.mref id))(hid:H.get id=some [CC G.aa.kv Tq L])(hkx:aD fr kx=some (.agg [J a0,J a1,J a2]))(hv:aD fr vx=some (bl b)):b_ abQ W0 o fr H .any (H.set id [CC G.aa.kv Tq (Sh.nC (.mk a0 a1 a2) b L)]):=IN anD (.mk a0 a1 a2) b L ho hx hid Tryz.underlying303 hkx rfl hv rfl
variable {t:TypeId}{xo yo:Operand}{k j n:Nat}{g:Bool}{ay:AV}{i:Int}{q:List AV}
theorem Gs{l:List G.aa}{x:G.aa}(hi:i=k)(hl:l[k]? =some x)(ho:o.op=.store t xo yo)(hx:aD fr xo=some (.ref id k j))(hid:H.get id=some (l.map G.aa.av))(hy:aD fr yo=some ay)(hsol:ay.b6=true)(ht:lk tw.tb.sz t=some (n,g))(hn:(ay.flat.length==n)=true)(hj:decide (j+n≤(G.aa.av x).flat.length)=true)(Jk:decide (0<n)=true)(hq:u5 ((G.aa.av x).flat.take j++ay.flat++(G.aa.av x).flat.drop (j+n))=some q)(he:[J a0,J a1,J a2]=q):b_ abQ W0 o fr H .any (H.set id ((Sh.set l i (G.aa.mk a0 a1 a2)).map G.aa.av)):=FM two hi hl ho hx hid hy hsol ht hn hj Jk hq (Eq.trans rfl he)
theorem Gt{a0:List G.ah}{a1:List G.ah}{l:List G.aZ}{x:G.aZ}(hi:i=k)(hl:l[k]? =some x)(ho:o.op=.store t xo yo)(hx:aD fr xo=some (.ref id k j))(hid:H.get id=some (l.map G.aZ.av))(hy:aD fr yo=some ay)(hsol:ay.b6=true)(ht:lk tw.tb.sz t=some (n,g))(hn:(ay.flat.length==n)=true)(hj:decide (j+n≤(G.aZ.av x).flat.length)=true)(Jk:decide (0<n)=true)(hq:u5 ((G.aZ.av x).flat.take j++ay.flat++(G.aZ.av x).flat.drop (j+n))=some q)(he:[.sl (ajN G.ah.av a0),.sl (ajN G.ah.av a1)]=q):b_ abQ W0 o fr H .any (H.set id ((Sh.set l i (G.aZ.mk a0 a1)).map G.aZ.av)):=FM two hi hl ho hx hid hy hsol ht hn hj Jk hq (Eq.trans rfl he)
theorem Gu{l:List G.ah}{x:G.ah}(hi:i=k)(hl:l[k]? =some x)(ho:o.op=.store t xo yo)(hx:aD fr xo=some (.ref id k j))(hid:H.get id=some (l.map G.ah.av))(hy:aD fr yo=some ay)(hsol:ay.b6=true)(ht:lk tw.tb.sz t=some (n,g))(hn:(ay.flat.length==n)=true)(hj:decide (j+n≤(G.ah.av x).flat.length)=true)(Jk:decide (0<n)=true)(hq:u5 ((G.ah.av x).flat.take j++ay.flat++(G.ah.av x).flat.drop (j+n))=some q)(he:[J a0,J a1]=q):b_ abQ W0 o fr H .any (H.set id ((Sh.set l i (G.ah.mk a0 a1)).map G.ah.av)):=FM two hi hl ho hx hid hy hsol ht hn hj Jk hq (Eq.trans rfl he)
theorem E_{a3:Bool}{a4:List G.ai}{l:List G.aA}{x:G.aA}(hi:i=k)(hl:l[k]? =some x)(ho:o.op=.store t xo yo)(hx:aD fr xo=some (.ref id k j))(hid:H.get id=some (l.map G.aA.av))(hy:aD fr yo=some ay)(hsol:ay.b6=true)(ht:lk tw.tb.sz t=some (n,g))(hn:(ay.flat.length==n)=true)(hj:decide (j+n≤(G.aA.av x).flat.length)=true)(Jk:decide (0<n)=true)(hq:u5 ((G.aA.av x).flat.take j++ay.flat++(G.aA.av x).flat.drop (j+n))=some q)(he:[J a0,J a1,J a2,bl a3,.sl (ajN G.ai.av a4)]=q):b_ abQ W0 o fr H .any (H.set id ((Sh.set l i (G.aA.mk (G.aa.mk a0 a1 a2) a3 a4)).map G.aA.av)):=FM two hi hl ho hx hid hy hsol ht hn hj Jk hq (Eq.trans rfl he)
class bh {ρ:Type} (x:Option ρ) (f:outParam FuncId) (xs:outParam (List AV)) (res:outParam (ρ→AV)):Prop where
  ok:∀(W0:World) (r:ρ),yW W0→x=some r→oQ abQ W0 f xs (res r)
class iQ {ρ:Type} (x:Option ρ) (f:outParam FuncId) (xs:outParam (List AV)) (res:outParam (ρ→AV)) (Hr:outParam (ρ→Heap)):Prop where
  ok:∀(W0:World) (r:ρ),yW W0→x=some r→CD abQ W0 f xs (res r) (Hr r)
class iO {ρ:Type} (x:Option ρ) (p:outParam Nat) (f:outParam FuncId) (xs:outParam (List AV)) (Hin:outParam Heap) (res:outParam (ρ→AV)) (Hr:outParam (ρ→Heap)):Prop where
  ok:∀(W0:World) (r:ρ),yW W0→x=some r→Bs abQ (.pinned W0 p) f xs Hin (res r) (Hr r)
class CalR {ρ:Type} (x:Option ρ) (p k N:outParam Nat) (fn:outParam Func) (frl:outParam (List (Nat×AV))) (xs:outParam (List AV)) (n:outParam Nat) (os:outParam (List (Nat×(Nat×List AV)))) (b:outParam (ρ→Bool)) (j:outParam Code) (n':outParam Nat) (os':outParam (ρ→List (Nat×(Nat×List AV)))):Prop where
  ok:∀(W0:World) (r:ρ) (l:Nat) (rec:Loop),yW W0→yI rec fn k N→x=some r→KM abQ W0 p l rec frl xs ⟨n,os,[(l,rec)]⟩ (b r) ⟨n',os' r,[(l,yq rec j (b r))]⟩
class CalI {ρ:Type} (x:Option ρ) (p k N:outParam Nat) (fn:outParam Func) (frl:outParam (List (Nat×AV))) (f:outParam FuncId) (xs:outParam (List AV)) (n:outParam Nat) (os:outParam (List (Nat×(Nat×List AV)))) (b:outParam (ρ→Bool)) (j:outParam Code) (n':outParam Nat) (os':outParam (ρ→List (Nat×(Nat×List AV)))):Prop where
  ok:∀(W0:World) (r:ρ) (l:Nat) (rec:Loop),yW W0→yI rec fn k N→x=some r→Bs abQ (.it W0 p rec frl) f (.fH (.yield l) []::xs) ⟨n,os,[(l,rec)]⟩ (.tuple []) ⟨n',os' r,[(l,yq rec j (b r))]⟩
  ca:gO abQ f
theorem UW{ρ:Type}{x:Option ρ}{p N n':Nat}{fn:Func}{frl:List (Nat×AV)}{f:FuncId}{xs:List AV}{os:List (Nat×(Nat×List AV))}{b:ρ→Bool}{j:Code}{os':ρ→List (Nat×(Nat×List AV))} [c:CalI x p k N fn frl f xs n os b j n' os'] {r:ρ}(h:x=some r):gO abQ f:=c.ca
theorem T0{N:Nat}{B:bS}{c:Code}{st:St}{Q:Exit→St→Prop}{a:An}(q:eX a abQ B N c st Q:=by
  repeat' first
  |(refine asC ?_;first
    |(refine anq ?_;refine amh rfl fun K hK=> ?_)
    |(refine asX ?_;refine arU fun K hK=> ?_)
    |(refine am2 ?_;first|(replace hA2:=hA2;refine Sh.bd h fun L hA3 h=> ?_;refine Y6 L ?_)|(replace hA1:=hA1;refine Sh.bd h fun L hA2 h=> ?_;refine Y6 L ?_)|(refine Sh.bd h fun L hA1 h=> ?_;refine Y6 L ?_))
    |(refine asZ ?_;refine arW fun u=> ?_;have u':= @u _ hT;refine u' h ?_;exact hK)
    |(refine anp ?_;refine ami rfl ?_)
    |(refine anb ?_;refine alW ?_)
    |(refine asE ?_;refine arD (by kernel_rfl) (by kernel_rfl) rfl rfl ?_)
    |(refine asM ?_;refine arJ rfl (fun K hK=> ?_) ?_)
    |(refine asL ?_;first|refine alU rfl ?_|refine alV rfl ?_ ?_)
    |(refine ac4 ?_;refine go_skip ?_)
    |(refine ag3 ?_;refine go_ret ?_)
    |(refine ac0 ?_;refine acA ?_)
    |(refine anc ?_;refine al0 rfl h (fun h=> ?_) (fun h=> ?_))
    |(refine ang ?_;refine arH (by kernel_rfl) (by kernel_rfl) rfl rfl ?_)
    |(refine asU ?_;refine arP h (fun _=>rfl) ?_ (fun p o h hx=> ?_))
    |(refine am8 ?_;refine alR (F:= ?_) h (fun _=>rfl) (fun K hK=> ?_) (fun p q t h=> ?_))
    |(refine am7 ?_;refine alQ (F:= ?_) h (fun _=>rfl) (fun K hK=> ?_) (fun p q h=> ?_))
    |(refine asF ?_;refine arE (F:= ?_) h (fun _=>rfl) (fun K hK=> ?_) (fun p h=> ?_))
    |(refine asG ?_;refine arF h (fun _=>rfl) ?_ (fun p o h hx=> ?_))
    |(refine ani ?_;refine al7 (F:= ?_) h (fun _=>rfl) (fun K hK=> ?_) (fun h=> ?_))
    |(refine ag4 ?_;refine agG (F:= ?_) h (fun _=>rfl) (fun K hK=> ?_) (fun p q h=> ?_))
    |(refine anm ?_;refine ama (F:= ?_) h (fun _=>rfl) (fun K hK=> ?_) (fun p q t u v h=> ?_))
    |(refine anl ?_;refine al_ (F:= ?_) h (fun _=>rfl) (fun K hK=> ?_) (fun p q t u h=> ?_))
    |(refine ank ?_;refine al9 (F:= ?_) h (fun _=>rfl) (fun K hK=> ?_) (fun p q t h=> ?_))
    |(refine anj ?_;refine al8 (F:= ?_) h (fun _=>rfl) (fun K hK=> ?_) (fun p q h=> ?_))
    |(refine asT ?_;refine arN (F:= ?_) h (fun _=>rfl) (fun K hK=> ?_) (fun p h=> ?_))
    |(refine anf ?_;refine al2 rfl ?_)
    |(refine ane ?_;refine al1 rfl ?_)
    |(refine Zt ?_;refine Y9 ?_)
    |(refine asK ?_;refine arI (by kernel_rfl) (by kernel_rfl) rfl rfl ?_)
    |(refine asI ?_;refine arG rfl ?_)
    |(refine asH ?_;refine Sh.bd h fun y hy h=> ?_;refine alS (fun l rec hrec=>CalI.ok _ _ l rec (by assumption) hrec hy) (UW hy) rfl rfl rfl rfl rfl rfl rfl rfl h (fun hb h=> ?_) (fun hb h=> ?_))
    |(refine am9 ?_;refine Sh.bd h fun y hy h=> ?_;refine alT (fun l rec hrec=>CalI.ok _ _ l rec (by assumption) hrec hy) (UW hy) rfl rfl rfl rfl rfl rfl rfl rfl rfl ?_)
    |(refine as3 ?_;exact arZ h))
  |(refine asJ ?_;first
    |(refine asY ?_;refine arV ?_)
    |(refine asS ?_;refine arM rfl (by kernel_rfl) ?_)
    |(refine asz ?_;refine arx (by kernel_rfl) rfl ?_)
    |(refine asA ?_;refine ary (by kernel_rfl) rfl rfl ?_ ?_)
    |(refine asB ?_;refine arz (by kernel_rfl) rfl rfl rfl ?_ ?_ ?_)
    |(refine asV ?_;refine arR (by kernel_rfl) ?_)
    |(refine ag1 ?_;refine agF ?_ rfl)
    |(refine asP ?_;first
      |refine arK lD rfl ?_
      |refine al5 lD rfl ?_
      |refine al4 lD rfl rfl rfl rfl rfl ?_
      |refine al3 lD rfl rfl rfl rfl ?_)
    |(refine asD ?_;refine arB (by assumption) ?_)
    |(refine asW ?_;first
      |refine arS rfl ?_ rfl
      |refine amf rfl ?_)
    |(refine anv ?_;first|exact amr h|exact agH h)
    |(refine ant ?_;refine amm h (fun hq h=> ?_) (fun hq h=> ?_))
    |(refine am4 ?_;refine arC h (fun h=> ?_) (fun h=> ?_))
    |(refine as2 ?_;refine Sh.bd h fun y hy h=> ?_;refine arY (CalR.ok _ _ _ _ (by assumption) (by assumption) hy) (by assumption) rfl rfl rfl rfl rfl rfl rfl rfl rfl rfl h Pass.a rfl rfl rfl rfl (fun hb h=> ?_) (fun hb h=> ?_))
    |(refine ans ?_;refine Sh.bd h fun y hy h=> ?_;refine aml (CalR.ok _ _ _ _ (by assumption) (by assumption) hy) (by assumption) rfl rfl rfl rfl rfl rfl rfl rfl rfl rfl rfl Pass.a rfl rfl rfl ?_)
    |(refine asN ?_;refine Sh.bd h fun r hr h=> ?_;first
      |refine alY (iO.ok _ _ (by assumption) hr) (.func rfl rfl (iO.ok _ _ (by assumption) hr).call) rfl rfl rfl rfl rfl rfl Pass.a rfl rfl ?_
      |refine alY (iO.ok _ _ (by assumption) hr) (.fH rfl rfl rfl (iO.ok _ _ (by assumption) hr).call) rfl rfl rfl rfl rfl rfl Pass.a rfl rfl ?_)
    |(refine asQ ?_;refine arL rfl h (by repeat' (first|exact trivial|refine⟨rfl, ?_⟩)) rfl rfl (fun hb h=> ?_) (fun hb h=> ?_))
    |(refine anh ?_;first
      |refine ND rfl rfl (IK two hA1 rfl rfl rfl rfl rfl (fun _=>rfl) rfl (by simp)) rfl rfl rfl rfl ?_
      |refine ND rfl rfl (IK two hA2 rfl rfl rfl rfl rfl (fun _=>rfl) rfl (by simp)) rfl rfl rfl rfl ?_
      |refine ND rfl rfl (IK two hA3 rfl rfl rfl rfl rfl (fun _=>rfl) rfl (by simp)) rfl rfl rfl rfl ?_
      |refine ND rfl rfl (iE rfl (two.bd _ _ rfl) rfl rfl rfl) rfl rfl rfl rfl ?_
      |(refine Sh.bd h fun L hL h=> ?_;first
        |refine ND rfl rfl (IK two hL rfl rfl rfl rfl rfl (fun _=>rfl) rfl (by simp)) rfl rfl rfl rfl ?_
        |refine ND rfl rfl (VX two hL rfl rfl rfl rfl rfl (fun _=>rfl) rfl) rfl rfl rfl rfl ?_))
    |(refine asO ?_;first
      |(refine LH rfl ?_;refine Sh.bi h fun x k hi hl h=> ?_;first
        |refine e9 rfl (fun _=>w9 _ _ hi hl rfl rfl rfl (two.el _ _ rfl) rfl) rfl ?_
        |refine e9 rfl (fun _=>IM _ _ hi hl rfl rfl rfl (two.el _ _ rfl) rfl) rfl ?_
        |refine e9 rfl (fun _=>aiJ hi hl rfl (two.el _ _ rfl)) rfl ?_)
      |(refine LG rfl ?_;first
        |refine Sh.bd h fun r hr h=>e9 rfl (fun _=>Fh (bh.ok _ _ (by assumption) hr) rfl rfl rfl (by simp)) rfl ?_
        |refine Sh.bd h fun r hr h=>e9 rfl (fun _=>abc (bh.ok _ _ (by assumption) hr) rfl rfl rfl) rfl ?_
        |refine e9 rfl (fun _=>Fh (bh.ok _ _ (by assumption) hA1) rfl rfl rfl (by simp)) rfl ?_
        |refine e9 rfl (fun _=>Fh (bh.ok _ _ (by assumption) hA2) rfl rfl rfl (by simp)) rfl ?_
        |refine e9 rfl (fun _=>Fh (bh.ok _ _ (by assumption) hA3) rfl rfl rfl (by simp)) rfl ?_
        |refine Sh.bd h fun r hr h=>Y7 rfl (fun _=>Fh (bh.ok _ _ (by assumption) hr) rfl rfl rfl (by simp)) ?_)
      |(refine Vl rfl ?_;first
        |refine e9 rfl (fun _=>rR _ _ rfl rfl (two.el _ _ rfl)) rfl ?_
        |refine e9 rfl (fun _=>Ue _ _ rfl rfl (two.el _ _ rfl)) rfl ?_
        |refine e9 rfl (fun _=>JI rfl rfl (two.el _ _ rfl)) rfl ?_
        |refine e9 rfl (fun _=>XF rfl rfl (two.un _ _ rfl)) rfl ?_
        |refine e9 rfl (fun _=>aew rfl rfl (two.el _ _ rfl) rfl) rfl ?_)
      |(refine To rfl ?_;refine Sh.bd h fun L hL h=> ?_;first
        |refine e9 rfl (fun _=>Uh hL rfl rfl (.inl ⟨rfl,rfl⟩) (.inr ⟨_,_,rfl,rfl⟩) (two.un _ _ rfl)) rfl ?_
        |refine e9 rfl (fun _=>Uh hL rfl rfl (.inr ⟨_,_,rfl,rfl⟩) (.inl ⟨rfl,rfl⟩) (two.un _ _ rfl)) rfl ?_
        |refine e9 rfl (fun _=>Uh hL rfl rfl (.inr ⟨_,_,rfl,rfl⟩) (.inr ⟨_,_,rfl,rfl⟩) (two.un _ _ rfl)) rfl ?_
        |refine e9 rfl (fun _=>PE hL rfl rfl (.inl rfl) (.inl ⟨rfl,rfl⟩) (.inr ⟨_,_,rfl,rfl⟩) (two.el _ _ rfl) (fun _=>rfl)) rfl ?_
        |refine e9 rfl (fun _=>PE hL rfl rfl (.inl rfl) (.inr ⟨_,_,rfl,rfl⟩) (.inl ⟨rfl,rfl⟩) (two.el _ _ rfl) (fun _=>rfl)) rfl ?_
        |refine e9 rfl (fun _=>PE hL rfl rfl (.inl rfl) (.inr ⟨_,_,rfl,rfl⟩) (.inr ⟨_,_,rfl,rfl⟩) (two.el _ _ rfl) (fun _=>rfl)) rfl ?_
        |refine e9 rfl (fun _=>aeu hL rfl rfl (.inl rfl) rfl rfl (two.el _ _ rfl) (fun _=>rfl)) rfl ?_
        |refine e9 rfl (fun _=>PE hL rfl rfl (.inr rfl) (.inr ⟨_,_,rfl,rfl⟩) (.inl ⟨rfl,rfl⟩) (two.el _ _ rfl) (fun _=>rfl)) rfl ?_)
      |(refine LH rfl ?_;refine e9 rfl (fun _=>aiI (by assumption) rfl rfl rfl rfl (two.el _ _ rfl) rfl) rfl ?_)
      |(refine LH rfl ?_;refine e9 rfl (fun _=>aiK rfl rfl rfl rfl (two.el _ _ rfl) rfl rfl rfl) rfl ?_)
      |(refine To rfl ?_;refine e9 rfl (fun _=>aiL rfl rfl rfl (two.el _ _ rfl) rfl rfl rfl rfl rfl) rfl ?_)
      |(refine Zx rfl ?_;refine Y7 rfl (fun _=>RZ hT.2.2 (by decide) rfl (two.tb.sz _ _ rfl) rfl) ?_)
      |(refine Vk rfl ?_;refine e9 rfl (fun _=>Yj rfl) rfl ?_)
      |(refine Zv rfl ?_;refine alX two rfl rfl rfl rfl rfl rfl rfl rfl rfl ?_)
      |(refine ag2 rfl ?_;refine e9 rfl (fun _=>iE rfl (two.bd _ _ rfl) rfl rfl rfl) rfl ?_)
      |(refine ac2 rfl ?_;first
        |refine e9 rfl (fun _=>aet rfl rfl rfl (of_decide_eq_true (by kernel_rfl)) rfl) rfl ?_
        |refine e9 rfl (fun _=>aa9 rfl rfl rfl rfl) rfl ?_
        |refine e9 rfl (fun _=>UH rfl rfl rfl rfl) rfl ?_
        |refine Sh.bd h fun r hr h=>e9 rfl (fun _=>aiQ hr rfl rfl rfl) rfl ?_
        |refine Sh.bd h fun r hr h=>e9 rfl (fun _=>aiR hr rfl rfl rfl) rfl ?_
        |refine Sh.bd h fun r hr h=>e9 rfl (fun _=>apb hr rfl rfl rfl) rfl ?_
        |refine Sh.bd h fun r hr h=>e9 rfl (fun _=>af0 hr rfl rfl rfl) rfl ?_
        |refine Sh.bd h fun r hr h=>e9 rfl (fun _=>aiP hr rfl rfl rfl) rfl ?_
        |refine Sh.bd h fun r hr h=>e9 rfl (fun _=>aiO hr rfl rfl rfl) rfl ?_
        |refine Sh.bd h fun r hr h=>e9 rfl (fun _=>UM rfl rfl rfl (Sh.RD hr).1 (Sh.RD hr).2) rfl ?_
        |refine Sh.bd h fun r hr h=>e9 rfl (fun _=>UL rfl rfl rfl (Sh.Rw hr).1 (Sh.Rw hr).2) rfl ?_
        |refine Sh.bd h fun r hr h=>e9 rfl (fun _=>XE hr rfl rfl rfl) rfl ?_
        |refine e9 rfl (fun _=>abg rfl rfl rfl) rfl ?_
        |refine e9 rfl (fun _=>abk rfl rfl rfl) rfl ?_
        |refine e9 rfl (fun _=>DS rfl rfl rfl) rfl ?_
        |refine e9 rfl (fun _=>Km rfl rfl rfl) rfl ?_
        |refine e9 rfl (fun _=>Fi rfl rfl rfl) rfl ?_
        |refine e9 rfl (fun _=>Mt rfl rfl rfl) rfl ?_
        |refine e9 rfl (fun _=>M5 rfl rfl rfl) rfl ?_
        |refine e9 rfl (fun _=>M6 rfl rfl rfl) rfl ?_
        |refine e9 rfl (fun _=>M7 rfl rfl rfl) rfl ?_
        |refine e9 rfl (fun _=>PI rfl rfl rfl) rfl ?_
        |refine e9 rfl (fun _=>oR rfl rfl rfl rfl) rfl ?_
        |refine e9 rfl (fun _=>HB rfl rfl rfl rfl) rfl ?_
        |refine e9 rfl (fun _=>ab1 rfl rfl rfl (two.un _ _ rfl)) rfl ?_
        |refine e9 rfl (fun _=>ab4 rfl rfl rfl (two.un _ _ rfl)) rfl ?_
        |refine e9 rfl (fun _=>ao_ (two.un _ _ rfl) (by kernel_rfl) rfl rfl rfl) rfl ?_
        |refine e9 rfl (fun _=>Yi rfl rfl rfl) rfl ?_
        |refine e9 rfl (fun _=>ab0 rfl rfl rfl) rfl ?_)
      |refine e9 rfl (fun _=>Nj rfl rfl ((two.tb.fd _ _ _ rfl).1) rfl) rfl ?_
      |(refine Zw rfl ?_;first
        |refine e9 rfl (fun _=>KQ rfl rfl (two.un _ _ rfl) (two.un _ _ rfl) (Sf _)) rfl ?_
        |refine e9 rfl (fun _=>KQ rfl rfl (two.un _ _ rfl) (two.un _ _ rfl) rfl) rfl ?_)
      |refine Sh.bd h fun r hr h=>e9 rfl (fun _=>aba (bh.ok _ _ (by assumption) hr) rfl rfl rfl rfl rfl) rfl ?_
      |refine e9 rfl (fun _=>JG (bh.ok _ _ (by assumption) hA1) rfl rfl rfl rfl) rfl ?_
      |refine e9 rfl (fun _=>JG (bh.ok _ _ (by assumption) hA2) rfl rfl rfl rfl) rfl ?_
      |refine e9 rfl (fun _=>JG (bh.ok _ _ (by assumption) hA3) rfl rfl rfl rfl) rfl ?_
      |refine Sh.bd h fun r hr h=>e9 rfl (fun _=>CF (Enters.iface rfl rfl rfl (fun v w=>by kernel_rfl) (bh.ok _ _ (by assumption) hr).call) (b8.ra [] []) rfl (by simp) (bh.ok _ _ (by assumption) hr)) rfl ?_
      |refine e9 rfl (fun _=>fk rfl rfl Tryz.underlying109 (fun _ h=>by cases h)) rfl ?_
      |refine e9 rfl (fun _=>fk rfl rfl Tryz.underlying29 (fun _ h=>by cases h)) rfl ?_
      |refine e9 rfl (fun _=>fk rfl rfl Tryz.underlying463 (fun _ h=>by cases h)) rfl ?_
      |refine e9 rfl (fun _=>fk rfl rfl Tryz.underlying492 (fun _ h=>by cases h)) rfl ?_
      |refine e9 rfl (fun _=>fk rfl rfl Tryz.underlying493 (fun _ h=>by cases h)) rfl ?_
      |refine e9 rfl (fun _=>fk rfl rfl Tryz.underlying494 (fun _ h=>by cases h)) rfl ?_
      |refine e9 rfl (fun _=>fk rfl rfl Tryz.underlying495 (fun _ h=>by cases h)) rfl ?_
      |refine e9 rfl (fun _=>SL rfl rfl as4) rfl ?_
      |refine e9 rfl (fun _=>Nl rfl rfl) rfl ?_
      |refine Sh.bd h fun x hx h=>Y7 rfl (fun _=>abj dP hx rfl rfl rfl rfl (two.un _ _ rfl) (two.tb.sz _ _ rfl)) ?_
      |refine Sh.bd h fun r hr h=>e9 rfl (fun _=>RX hr rfl rfl rfl (two.un _ _ rfl)) rfl ?_
      |refine Sh.bd h fun r hr h=>e9 rfl (fun _=>XG hr rfl rfl rfl (two.un _ _ rfl)) rfl ?_
      |refine e9 rfl (fun _=>Ov rfl rfl) rfl ?_
      |refine e9 rfl (fun _=>Yn rfl rfl rfl rfl) rfl ?_
      |refine Sh.bd h fun k hk h=>e9 rfl (fun _=>abi J hk rfl rfl rfl (two.un _ _ rfl) (two.tb.sz _ _ rfl)) rfl ?_
      |refine Sh.bd h fun k hk h=>e9 rfl (fun _=>aey hk rfl rfl rfl (two.ar _ _ rfl)) rfl ?_
      |refine e9 rfl (fun _=>RY J (by assumption) rfl rfl rfl (two.tb.sz _ _ rfl)) rfl ?_
      |refine e9 rfl (fun _=>RY bl (by assumption) rfl rfl rfl (two.tb.sz _ _ rfl)) rfl ?_
      |refine e9 rfl (fun _=>Yl rfl rfl rfl) rfl ?_
      |refine e9 rfl (fun _=>Ym rfl rfl rfl) rfl ?_)
    |(refine asR ?_;first
      |(refine LG rfl ?_;refine Sh.bd h fun r hr h=> ?_;first
        |refine lG rfl rfl (N_ (iQ.ok _ _ (by assumption) hr) rfl rfl rfl rfl rfl rfl) rfl rfl ?_
        |refine lG rfl rfl (aa_ (iQ.ok _ _ (by assumption) hr) rfl rfl rfl rfl rfl) rfl rfl ?_)
      |refine lG rfl rfl (AG (kv:=G.aa.kv) (vv:=Tq) rfl Tryz.underlying303) rfl rfl ?_
      |refine lG rfl rfl (AG (kv:=G.ah.kv) (vv:=G.aF.kv) rfl Tryz.underlying124) rfl rfl ?_
      |refine lG rfl rfl (AG (kv:=G.ah.kv) (vv:=Tq) rfl Tryz.underlying134) rfl rfl ?_
      |refine lG rfl rfl (AG (kv:=Gj) (vv:=Gj) rfl Tryz.underlying119) rfl rfl ?_
      |refine lG rfl rfl (anL rfl rfl rfl rfl rfl) rfl rfl ?_
      |refine lG rfl rfl (anM rfl rfl rfl rfl rfl) rfl rfl ?_
      |refine lG rfl rfl (anN rfl rfl rfl rfl rfl) rfl rfl ?_
      |(refine vk rfl ?_;refine lG rfl rfl (Gs hi hl rfl rfl rfl rfl rfl rfl rfl rfl rfl rfl rfl) rfl rfl ?_)
      |(refine vk rfl ?_;refine lG rfl rfl (Gs hi (lZ hi hl) rfl rfl rfl rfl rfl rfl rfl rfl rfl rfl rfl) rfl rfl ?_)
      |(refine vk rfl ?_;refine lG rfl rfl (Gt hi hl rfl rfl rfl rfl rfl rfl rfl rfl rfl rfl rfl) rfl rfl ?_)
      |(refine vk rfl ?_;refine lG rfl rfl (Gt hi (lZ hi hl) rfl rfl rfl rfl rfl rfl rfl rfl rfl rfl rfl) rfl rfl ?_)
      |(refine vk rfl ?_;refine lG rfl rfl (Gu hi hl rfl rfl rfl rfl rfl rfl rfl rfl rfl rfl rfl) rfl rfl ?_)
      |(refine vk rfl ?_;refine lG rfl rfl (Gu hi (lZ hi hl) rfl rfl rfl rfl rfl rfl rfl rfl rfl rfl rfl) rfl rfl ?_)
      |(refine vk rfl ?_;refine lG rfl rfl (E_ hi hl rfl rfl rfl rfl rfl rfl rfl rfl rfl rfl rfl) rfl rfl ?_)
      |(refine vk rfl ?_;refine lG rfl rfl (E_ hi (lZ hi hl) rfl rfl rfl rfl rfl rfl rfl rfl rfl rfl rfl) rfl rfl ?_)
      |refine Sh.bd h fun q hq h=>lG rfl rfl (Ug G.az.kv _ q hq rfl Tryz.underlying203 are rfl) rfl rfl ?_
      |(refine Sh.bd h fun L hL h=> ?_;have hlen:=Sh.aa6 hL;refine lG rfl rfl (Yo ao2 _ L hL (by first|rfl|(simp;done)|(simp;omega)) rfl rfl rfl rfl) rfl rfl ?_)
      |refine Sh.bd h fun L hL h=>lG rfl rfl (Qg akW _ L hL (by first|rfl|(simp;done)|(simp;omega)) rfl rfl rfl rfl) rfl rfl ?_
      |(refine Sh.bd h fun L hL h=> ?_;have hlen:=Sh.RR hL;refine lG rfl rfl (Ox IJ _ _ L hL (by first|rfl|(simp;done)|(simp;omega)) rfl rfl rfl rfl rfl) rfl rfl ?_)

      |(refine Vk rfl ?_;refine lG rfl rfl (aiG rfl rfl rfl rfl rfl) rfl rfl ?_)
      |(refine Zu rfl ?_;refine lG rfl rfl (XB two rfl rfl) rfl rfl ?_)
      |(refine Zu rfl ?_;refine lG rfl rfl (RT two rfl rfl (by kernel_rfl) rfl rfl rfl) rfl rfl ?_)
      |(refine vk rfl ?_;refine whB h fun hN h=> ?_;first
        |refine lG rfl rfl (Gx J _ _ (by assumption) hN rfl rfl rfl rfl (two.tb.sz _ _ rfl)) rfl rfl ?_
        |(refine whB h fun hN3 h=> ?_;refine lG rfl rfl (Gx J _ _ hN hN3 rfl rfl rfl rfl (two.tb.sz _ _ rfl)) rfl rfl ?_))
      |(refine vk rfl ?_;refine lG rfl rfl (IL two rfl rfl rfl rfl rfl rfl rfl rfl rfl rfl rfl rfl rfl) rfl rfl ?_)
      |(refine vk rfl ?_;refine lG rfl rfl (Mr two (by assumption) (by assumption) rfl rfl rfl rfl rfl rfl rfl rfl rfl rfl) rfl rfl ?_)
      |(refine Zv rfl ?_;first
        |refine lG rfl rfl (FL two [_] rfl rfl rfl rfl rfl rfl rfl rfl) rfl rfl ?_
        |refine lG rfl rfl (FL two [_,_] rfl rfl rfl rfl rfl rfl rfl rfl) rfl rfl ?_
        |refine lG rfl rfl (FL two [_,_,_] rfl rfl rfl rfl rfl rfl rfl rfl) rfl rfl ?_)
      |(refine vk rfl ?_;refine lG rfl rfl (R2 J (by assumption) rfl rfl rfl rfl rfl rfl rfl rfl (two.tb.sz _ _ rfl) rfl rfl) rfl rfl ?_)
      |(refine vk rfl ?_;refine lG rfl rfl (R2 bl (by assumption) rfl rfl rfl rfl rfl rfl rfl rfl (two.tb.sz _ _ rfl) rfl rfl) rfl rfl ?_)
      |(refine vk rfl ?_;refine lG rfl rfl (XC rfl rfl rfl rfl (by assumption) (by assumption) (two.tb.sz _ _ rfl) rfl rfl) rfl rfl ?_)
      |(refine To rfl ?_;first
        |refine lG rfl rfl (abd (by assumption) rfl rfl rfl rfl rfl rfl (two.el _ _ rfl) (fun _=>rfl)) rfl rfl ?_
        |refine Sh.bd h fun L hL h=>lG rfl rfl (abd hL rfl rfl rfl rfl rfl rfl (two.el _ _ rfl) (fun _=>rfl)) rfl rfl ?_)
      |(refine Zy rfl ?_;first
        |refine lG rfl rfl (V0 two (by assumption) rfl rfl rfl rfl (by kernel_rfl) rfl rfl rfl) rfl rfl ?_
        |refine lG rfl rfl (RU two (by assumption) rfl rfl rfl rfl (by kernel_rfl) rfl (by repeat' (first|exact trivial|exact .nil|exact .same _|refine⟨?_, ?_⟩)) rfl) rfl rfl ?_)
      |(refine Zy rfl ?_;refine Sh.bd h fun L hL h=> ?_;first
        |refine lG rfl rfl (V0 two hL rfl rfl rfl rfl (by kernel_rfl) rfl rfl rfl) rfl rfl ?_
        |refine lG rfl rfl (RU two hL rfl rfl rfl rfl (by kernel_rfl) rfl (by repeat' (first|exact trivial|exact .nil|exact .same _|refine⟨?_, ?_⟩)) rfl) rfl rfl ?_)
      |(refine ac3 rfl ?_;refine Sh.bd h fun L hL h=> ?_;have hlen:=Sh.UY hL;refine lG rfl rfl (aev hL rfl rfl rfl rfl rfl rfl rfl (two.el _ _ rfl) (fun _=>rfl) rfl) rfl rfl ?_)
      |(refine ac1 rfl ?_;refine Sh.bd h fun L hL h=> ?_;first
        |refine lG rfl rfl (VY two hL rfl rfl rfl rfl (by first|rfl|(simp;done)|(simp;omega)) rfl (fun _=>rfl) rfl rfl rfl) rfl rfl ?_
        |refine lG rfl rfl (aes two hL rfl rfl rfl rfl (by first|rfl|(simp;done)|(simp;omega)) rfl (fun _=>rfl) rfl rfl rfl (by repeat' (first|exact trivial|exact .nil|exact .same _|refine⟨?_, ?_⟩))) rfl rfl ?_
        |refine lG rfl rfl (VX two hL rfl rfl rfl rfl rfl (fun _=>rfl) rfl) rfl rfl ?_
        |refine lG rfl rfl (IK two hL rfl rfl rfl rfl rfl (fun _=>rfl) rfl (by simp)) rfl rfl ?_))
    |(refine as0 ?_;first
      |(refine LH rfl ?_;refine Sh.bi h fun x k hi hl h=>FV rfl rfl (abe hi hl rfl rfl rfl (by first|rfl|(simp;done)|(simp;omega)) rfl (two.el _ _ rfl) rfl) rfl ?_)
      |(refine LH rfl ?_;obtain⟨x,Zo,h⟩:=Sh.b5 h;obtain⟨hN,k,hi,hl⟩:=Sh.We Zo;refine FV rfl rfl (aiH hi hl hN rfl rfl rfl rfl (two.ar _ _ rfl)) rfl ?_)
      |(refine Vl rfl ?_;refine FV rfl rfl (aex rfl rfl rfl (by first|rfl|(simp;done)|(simp;omega)) (two.el _ _ rfl)) rfl ?_)
      |(refine Zx rfl ?_;first
        |refine FV rfl rfl (Ob two rfl rfl rfl (by assumption) rfl rfl) rfl ?_
        |refine FV rfl rfl (Uf _ _ (by assumption) rfl rfl rfl (two.tb.sz _ _ rfl)) rfl ?_
        |refine FV rfl rfl (cu rfl rfl rfl rfl (two.tb.sz _ _ rfl) rfl) rfl ?_
        |(refine whB h fun hN h=> ?_;refine amk rfl rfl (PG J _ hN rfl rfl rfl (two.tb.sz _ _ rfl)) ?_))
      |(refine LG rfl ?_;refine Sh.bd h fun r hr h=>FV rfl rfl (abb (bh.ok _ _ (by assumption) hr) rfl rfl rfl) rfl ?_)
      |refine FV rfl rfl (ahb rfl rfl rfl rfl) rfl ?_
      |refine FV rfl rfl (anI rfl rfl rfl rfl) rfl ?_
      |refine FV rfl rfl (anJ rfl rfl rfl rfl) rfl ?_

      |refine FV rfl rfl (apa _ (of_decide_eq_true hq) rfl rfl rfl rfl (two.ar _ _ rfl)) rfl ?_
      |refine Sh.bd h fun k hk h=>FV rfl rfl (abh hk rfl rfl rfl rfl (two.ar _ _ rfl)) rfl ?_
      |refine FV rfl rfl (V1 J (by assumption) rfl rfl rfl rfl rfl (two.tb.sz _ _ rfl)) rfl ?_
      |refine FV rfl rfl (V1 bl (by assumption) rfl rfl rfl rfl rfl (two.tb.sz _ _ rfl)) rfl ?_
      |refine FV rfl rfl (VZ two rfl rfl rfl rfl) rfl ?_
      |refine FV rfl rfl (og rfl rfl rfl) rfl ?_))
  |(refine am_ ?_;first
    |refine Sh.bd h fun r hr h=>alZ (iO.ok _ _ (by assumption) hr) (.func rfl rfl (iO.ok _ _ (by assumption) hr).call) rfl rfl rfl rfl rfl rfl Pass.a rfl rfl rfl ?_
    |refine al6 lD rfl ?_
    |refine amg rfl ?_
    |refine Ls rfl (fun _ hS=>cu rfl rfl (hS.get _) rfl (two.tb.sz _ _ rfl) rfl) rfl rfl ?_
    |refine Ls rfl (fun _ hS=>og rfl rfl (hS.get _)) rfl rfl ?_
    |refine Ls rfl (fun _ hS=>VZ two rfl rfl (hS.get _) rfl) rfl rfl ?_
    |(refine Sh.bi h fun x k hi hl h=> ?_;refine Ls rfl (fun _ hS=>abe hi hl rfl rfl (hS.get _) rfl rfl (two.el _ _ rfl) rfl) rfl rfl ?_)
    |refine Ls rfl (fun _ hS=>Ob two rfl rfl (hS.get _) (by assumption) rfl rfl) rfl rfl ?_
    |refine Ls rfl (fun _ hS=>Oa (bh.ok _ _ (by assumption) hA1) rfl rfl rfl (by refine bE (H':=.empty) [] [] rfl rfl rfl trivial ?_;repeat' (first|exact trivial|refine⟨⟨_,rfl, ?_⟩, ?_⟩|(refine gi.sy rfl ?_;simp;done)|(refine gi.jI (hS.get _) rfl ?_;simp;done)))) rfl rfl ?_
    |refine Sh.bd h fun r hr h=>Ls rfl (fun _ hS=>Oa (bh.ok _ _ (by assumption) hr) rfl rfl rfl (by refine bE (H':=.empty) [] [] rfl rfl rfl trivial ?_;repeat' (first|exact trivial|refine⟨⟨_,rfl, ?_⟩, ?_⟩|(refine gi.sy rfl ?_;simp;done)|(refine gi.jI (hS.get _) rfl ?_;simp;done)))) rfl rfl ?_
    |refine Y8 rfl (fun _=>iE rfl (two.bd _ _ rfl) rfl rfl rfl) rfl rfl ?_
    |(refine Sh.bi h fun x k hi hl h=> ?_;refine Y8 rfl (fun _=>w9 _ _ hi hl rfl rfl rfl (two.el _ _ rfl) rfl) rfl rfl ?_)
    |refine Y8 rfl (fun _=>afY two rfl rfl rfl rfl rfl rfl rfl) rfl rfl ?_
    |refine amc rfl rfl (IL two rfl rfl rfl rfl rfl rfl rfl rfl rfl rfl rfl rfl rfl) rfl rfl rfl ?_
    |refine QT rfl rfl (IL two rfl rfl rfl rfl rfl rfl rfl rfl rfl rfl rfl rfl rfl) rfl rfl rfl ?_
    |refine QT rfl rfl (FL two [G.ah.mk _ _] rfl rfl rfl rfl rfl rfl rfl rfl) rfl rfl rfl ?_
    |refine Sh.bd h fun L hL h=>QT rfl rfl (VY two hL rfl rfl rfl rfl rfl rfl (fun _=>rfl) rfl rfl rfl) rfl rfl rfl ?_
    |refine Sh.bd h fun r hr h=>QT rfl rfl (N_ (iQ.ok _ _ (by assumption) hr) rfl rfl rfl rfl rfl rfl) rfl rfl rfl ?_
    |refine amj ?_
    |refine amd ?_)
  |(refine ana ?_;first
    |refine alO (by kernel_rfl) ?_
    |refine alP (by kernel_rfl) ?_ ?_
    |refine ame (by kernel_rfl) ?_
    |refine amb rfl ?_
    |refine afc rfl rfl rfl (RT two rfl rfl (by kernel_rfl) rfl rfl rfl) rfl rfl ?_
    |refine afc rfl rfl rfl (IL two rfl rfl rfl rfl rfl rfl rfl rfl rfl rfl rfl rfl rfl) rfl rfl ?_)
  |(refine am3 ?_;with_reducible refine anG h fun h=> ?_)
  |(refine am3 ?_;first
    |(refine am6 ?_;first
      |refine ago rfl ?_
      |(refine arO (by assumption) rfl ?_;try clear hK K)
      |refine ae7 ?_)
    |(refine anu ?_;first|exact amq h|exact amn h|exact amo h)
    |refine alg ?_
    |refine ale ?_
    |refine alf rfl ?_
    |refine ae7 ?_
    |refine agw ?_
    |refine agu ?_
    |(refine afu ?_;refine agp rfl ?_ ?_)
    |(refine afu ?_;refine arX (by assumption) rfl ?_ ?_ <;> try clear hK K)
    |(refine ag0 ?_;refine arQ (by assumption) ?_;try clear hK K)
    |(refine am5 ?_;first
      |(obtain rfl:=Option.some.inj (Sh.jm (Sh.jm (Sh.jm h (by assumption)) (by assumption)) (by assumption));refine Li (by simp) rfl ?_)
      |(obtain rfl:=Option.some.inj (Sh.jm (Sh.jm h (by assumption)) (by assumption));refine Li (by simp) rfl ?_)
      |(obtain rfl:=Option.some.inj (Sh.jm h (by assumption));refine Li (by simp) rfl ?_)
      |(obtain rfl:=Option.some.inj h;refine Li (by simp) rfl ?_)
      |(obtain rfl:=Sum.inl.inj (Option.some.inj h);refine Li (by simp) rfl ?_)
      |(obtain rfl:=Sum.inr.inj (Option.some.inj h);refine Li (by simp) rfl ?_)
      |(refine whB h fun hN h=> ?_;obtain rfl:=Option.some.inj h;refine Li (by simp) (ad_ _ _ hN rfl rfl (two.tb.sz _ _ rfl)) ?_))
    |refine agq ?_
    |refine agr ?_
    |refine ags ?_
    |(refine ann ?_;first
      |refine agv rfl rfl ?_
      |refine agt rfl rfl ?_ ?_)
    |(refine ano ?_;first
      |(obtain rfl:=Option.some.inj (Sh.jm h (by assumption));refine YM rfl rfl rfl ?_)
      |(obtain rfl:=Option.some.inj h;refine YM rfl rfl rfl ?_))
    |refine ald (by assumption) ?_
    |refine S9 h ?_
    |refine S5 (by assumption) h ?_
    |refine S6 (by assumption) h ?_
    |refine S7 (by assumption) h ?_
    |refine YL (by assumption) h ?_
    |refine S8 (by assumption) h ?_
    |refine YK (by assumption) h ?_
    |(replace h:=Sh.jm h (by assumption);first
      |refine S9 h ?_
      |refine S5 (by assumption) h ?_
      |refine S6 (by assumption) h ?_
      |refine S7 (by assumption) h ?_
      |refine YL (by assumption) h ?_
      |refine S8 (by assumption) h ?_
      |refine YK (by assumption) h ?_
      |(replace h:=Sh.jm h (by assumption);first
        |refine S9 h ?_
        |refine S5 (by assumption) h ?_
        |refine S6 (by assumption) h ?_
        |refine S7 (by assumption) h ?_
        |refine S8 (by assumption) h ?_
        |refine YK (by assumption) h ?_)))
  |(refine anr ?_;first|exact au6 rfl rfl|exact wka)):eX a abQ B N c st Q:=q
section
variable {ρ:Type} {x:Option ρ} {f:FuncId} {xs:List AV} {res res':ρ→AV} {Hr:ρ→Heap} {Hin:Heap} {fn:Func} {N p:Nat} {c:Code} {BD:List (Nat×AV)}
theorem k2(hf:abQ.funcs[f]? =some fn)(N:Nat)(a:An)(hN:fn.ntmps=N:=by exact rfl)(hb:fn.body=some c:=by exact rfl)(hname:(fn.name== "runtime.NumGoroutine")=false:=by kernel_rfl)(hx:xs.length≤N:=by simp)(hfr:mL (bN 0 xs)=some BD:=by exact rfl)
    (q:∀(W0:World) (r:ρ),yW W0→x=some r→eX a abQ (.of W0) N c ⟨BD,.empty⟩ (fun e s=>(e=.normal∨e=.ret)∧∃q,Cm abQ fn.results.toList s=some q∧b8 (.of W0) 1 ⟨[(0,q)],s.H⟩ ⟨[(0,res r)],Hr r⟩):=by intro W0 r hT h;exact T0):iQ x f xs res Hr:=
  ⟨fun W0 r hT h=>lu hf hb hname hN hx (by have:=q W0 r hT h;rw[gR hfr] at this;exact this)⟩
theorem k1(hf:abQ.funcs[f]? =some fn)(N:Nat)(a:An)(hN:fn.ntmps=N:=by exact rfl)(hb:fn.body=some c:=by exact rfl)(hname:(fn.name== "runtime.NumGoroutine")=false:=by kernel_rfl)(hx:xs.length≤N:=by simp)(hfr:mL (bN 0 xs)=some BD:=by exact rfl)
    (q:∀(W0:World) (r:ρ),yW W0→x=some r→eX a abQ (.of W0) N c ⟨BD,.empty⟩ (fun e s=>(e=.normal∨e=.ret)∧∃q,Cm abQ fn.results.toList s=some q∧b8 (.of W0) 1 ⟨[(0,q)],s.H⟩ ⟨[(0,res r)],.empty⟩):=by intro W0 r hT h;exact T0)(hn:∀r,bQ (res r):=by intro r;simp):bh x f xs res:=
  ⟨fun W0 r hT h=>oQ.two (lu hf hb hname hN hx (by have:=q W0 r hT h;rw[gR hfr] at this;exact this)) (hn r)⟩
theorem k3(hf:abQ.funcs[f]? =some fn)(N:Nat)(a:An)(hN:fn.ntmps=N:=by exact rfl)(hb:fn.body=some c:=by exact rfl)(hname:(fn.name== "runtime.NumGoroutine")=false:=by kernel_rfl)(hx:xs.length≤N:=by simp)(hfr:mL (bN 0 xs)=some BD:=by exact rfl)
    (q:∀(W0:World) (r:ρ),yW W0→x=some r→eX a abQ (.pinned W0 p) N c ⟨BD,Hin⟩ (fun e s=>(e=.normal∨e=.ret)∧∃q,Cm abQ fn.results.toList s=some q∧b8 (.pinned W0 p) 1 ⟨[(0,q)],s.H⟩ ⟨[(0,res r)],Hr r⟩):=by intro W0 r hT h;exact T0):iO x p f xs Hin res Hr:=
  ⟨fun W0 r hT h=>A1 rfl hf hb hname hN hx (by have:=q W0 r hT h;rw[gR hfr] at this;exact this)⟩
theorem k3l{σ:Type}{x:Option (ρ⊕σ)}(hf:abQ.funcs[f]? =some fn)(N:Nat)(a:An)(hN:fn.ntmps=N:=by exact rfl)(hb:fn.body=some c:=by exact rfl)(hname:(fn.name== "runtime.NumGoroutine")=false:=by kernel_rfl)(hx:xs.length≤N:=by simp)(hfr:mL (bN 0 xs)=some BD:=by exact rfl)
    (q:∀(W0:World) (r:ρ),yW W0→x=some (.inl r)→eX a abQ (.pinned W0 p) N c ⟨BD,Hin⟩ (fun e s=>(e=.normal∨e=.ret)∧∃q,Cm abQ fn.results.toList s=some q∧b8 (.pinned W0 p) 1 ⟨[(0,q)],s.H⟩ ⟨[(0,res r)],Hr r⟩):=by intro W0 r hT h;exact T0):iO (x.bind Sum.getLeft?) p f xs Hin res Hr:=
  k3 hf N a hN hb hname hx hfr (fun W0 r hT h=>q W0 r hT (atk h))
theorem k3r{σ:Type}{x:Option (σ⊕ρ)}(hf:abQ.funcs[f]? =some fn)(N:Nat)(a:An)(hN:fn.ntmps=N:=by exact rfl)(hb:fn.body=some c:=by exact rfl)(hname:(fn.name== "runtime.NumGoroutine")=false:=by kernel_rfl)(hx:xs.length≤N:=by simp)(hfr:mL (bN 0 xs)=some BD:=by exact rfl)
    (q:∀(W0:World) (r:ρ),yW W0→x=some (.inr r)→eX a abQ (.pinned W0 p) N c ⟨BD,Hin⟩ (fun e s=>(e=.normal∨e=.ret)∧∃q,Cm abQ fn.results.toList s=some q∧b8 (.pinned W0 p) 1 ⟨[(0,q)],s.H⟩ ⟨[(0,res r)],Hr r⟩):=by intro W0 r hT h;exact T0):iO (x.bind Sum.getRight?) p f xs Hin res Hr:=
  k3 hf N a hN hb hname hx hfr (fun W0 r hT h=>q W0 r hT (aur h))
theorem g1 [c:iQ x f xs res Hr] (hw:∀(W0:World) (r:ρ),b8 (.of W0) 1 ⟨[(0,res r)],Hr r⟩ ⟨[(0,res' r)],.empty⟩:=by intro W0 r;exact b8.ra [] [])(hn:∀r,bQ (res' r):=by intro r;simp):bh x f xs res':=
  ⟨fun W0 r hT h=>(c.ok W0 r hT h).OM (hw W0 r) (hn r)⟩
theorem c1 [c:iO x 0 f xs .empty res (fun _=>.empty)] (hn:∀r,bQ (res r):=by intro r;simp):bh x f xs res:=
  ⟨fun W0 r hT h=>(c.ok W0 r hT h).one (hn r)⟩
variable {k n n' M:Nat} {fo:Func} {frl:List (Nat×AV)} {os:List (Nat×(Nat×List AV))} {b:ρ→Bool} {j:Code} {os':ρ→List (Nat×(Nat×List AV))}
theorem kr{ps:Array Tmp}{yc bd:Code}(hcode:(fo.body.bind fun c=>(jx c)[k]?)=some (ps,yc,bd))(a:An)(hxs:xs.length=ps.size:=by exact rfl)(hN:ps.toList.all (fun t=>decide (t<N))=true:=by exact rfl)(hnd:ps.toList.Nodup:=by decide)(hfr:mL (KI ps.toList xs frl)=some BD:=by exact rfl)
    (q:∀(W0:World) (r:ρ) (l:Nat) (rec:Loop),yW W0→yI rec fo k N→x=some r→eX a abQ (.rd W0 p l) N yc ⟨BD,⟨n,os,[(l,rec)]⟩⟩ (QRd abQ (.rd W0 p l) N l rec bd (b r) ⟨n',os' r,[(l,yq rec j (b r))]⟩):=by intro W0 r l rec hT hrec h;exact T0):CalR x p k N fo frl xs n os b j n' os':=
  ⟨fun W0 r l rec hT hrec h=>MZ hrec hcode rfl hxs hN hnd (by have:=q W0 r l rec hT hrec h;rw[gR hfr] at this;exact this)⟩
theorem ki{fl:Nat→List (Nat×AV)}(hf:abQ.funcs[f]? =some fn)(M:Nat)(a:An)(hN:fn.ntmps=M:=by exact rfl)(hb:fn.body=some c:=by exact rfl)(hname:(fn.name== "runtime.NumGoroutine")=false:=by kernel_rfl)(hx:xs.length+1≤M:=by simp)(hfr:∀l,mL (bN 0 (.fH (.yield l) []::xs))=some (fl l):=by intro l;exact rfl)
    (q:∀(W0:World) (r:ρ) (l:Nat) (rec:Loop),yW W0→yI rec fo k N→x=some r→eX a abQ (.it W0 p rec frl) M c ⟨fl l,⟨n,os,[(l,rec)]⟩⟩ (fun e s=>(e=.normal∨e=.ret)∧∃q,Cm abQ fn.results.toList s=some q∧b8 (.it W0 p rec frl) 1 ⟨[(0,q)],s.H⟩ ⟨[(0,.tuple [])],⟨n',os' r,[(l,yq rec j (b r))]⟩⟩):=by intro W0 r l rec hT hrec h;exact T0):CalI x p k N fo frl f xs n os b j n' os':=
  ⟨fun W0 r l rec hT hrec h=>A1 rfl hf hb hname hN hx (by have:=q W0 r l rec hT hrec h;rw[gR (hfr l)] at this;exact this),iF hf hname hb⟩
end

end Wk
