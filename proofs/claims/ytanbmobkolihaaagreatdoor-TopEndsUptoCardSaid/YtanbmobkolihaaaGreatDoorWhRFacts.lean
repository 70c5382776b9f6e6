/- What the types of the loaded program are. -/
import Derived.Test.YtanbmobkolihaaaGreatDoorSh
import Derived.Test.YtanbmobkolihaaaGreatDoorRows
import Derived.KernelRfl
import Derived.Conc.LoneSelect
import Derived.Test.YtanbmobkolihaaaGreatDoorWkRLay
open List renaming replicate→aeR
open Go.Proofs.Tryz renaming prog→abQ
open Go Go.Av Go.Proofs
namespace Wk
def yW(W0:World):Prop:=ae0 W0 5∧(∃m,W0.cell? ⟨2,0,none⟩=some (.int .i64 m))∧SC W0 1 G.uB
theorem aqT:Hi abQ 22=some (4,1):=by kernel_rfl
theorem akb:Hi abQ 323=some (4,1):=by kernel_rfl
theorem akc:Hi abQ 420=some (256,1):=by kernel_rfl
theorem akd:Hi abQ 423=some (16,2):=by kernel_rfl
theorem ake:Hi abQ 432=some (8,1):=by kernel_rfl
theorem akf:Hi abQ 434=some (32,1):=by kernel_rfl
theorem akg:Hi abQ 435=some (16,32):=by kernel_rfl
theorem akh:Hi abQ 444=some (64,1):=by kernel_rfl
theorem aki:Hi abQ 465=some (32,1):=by kernel_rfl
theorem akj:Hi abQ 466=some (16,1):=by kernel_rfl
theorem ae2:Hi abQ 490=some (64,1):=by kernel_rfl
theorem aqU:Hi abQ 84=some (4,1):=by kernel_rfl
theorem akk:zC abQ 102=some ([(0,1),(1,1),(2,1)],[.int .i64 0,.slice none 0 0,.slice none 0 0]):=by kernel_rfl
theorem akl:zC abQ 107=some ([(0,1),(1,1)],[.int .i64 0,.int .i64 0]):=by kernel_rfl
theorem akn:zC abQ 116=some ([(0,1),(1,1),(2,1),(3,1)],[.int .i64 0,.int .i64 0,.int .i64 0,.int .i64 0]):=by kernel_rfl
theorem ako:zC abQ 126=some ([(0,1),(1,1)],[.int .i64 0,.int .i64 0]):=by kernel_rfl
theorem akp:zC abQ 131=some ([(0,1),(1,1)],[.slice none 0 0,.slice none 0 0]):=by kernel_rfl
theorem akq:zC abQ 136=some ([(0,1),(1,1)],[.int .i64 0,.int .i64 0]):=by kernel_rfl
theorem akr:zC abQ 139=some ([(0,1),(1,1)],[.int .i64 0,.int .i64 0]):=by kernel_rfl
theorem ae3:zC abQ 174=some ([(0,1),(1,1),(2,1),(3,1)],[.int .i64 0,.bool false,.int .i64 0,.slice none 0 0]):=by kernel_rfl
theorem aks:zC abQ 198=some ([(0,1),(1,1)],[.int .i64 0,.slice none 0 0]):=by kernel_rfl
theorem akt:zC abQ 205=some ([(0,1)],[.chan none]):=by kernel_rfl
theorem aku:zC abQ 211=some ([(0,3),(3,1)],[.int .i64 0,.int .i64 0,.int .i64 0,.slice none 0 0]):=by kernel_rfl
theorem aqY:zC abQ 22=some ([(0,1),(1,1),(2,1),(3,1)],[.int .i64 0,.int .i64 0,.int .i64 0,.int .i64 0]):=by kernel_rfl
theorem akv:zC abQ 232=some ([(0,1),(1,1)],[.slice none 0 0,.slice none 0 0]):=by kernel_rfl
theorem aqZ:zC abQ 24=some ([(0,1),(1,4)],[.int .i64 0,.int .i64 0,.int .i64 0,.int .i64 0,.int .i64 0]):=by kernel_rfl
theorem akw:zC abQ 274=some ([(0,1),(1,1)],[.int .i64 0,.slice none 0 0]):=by kernel_rfl
theorem akx:zC abQ 278=some ([(0,1),(1,1)],[.int .i64 0,.int .i64 0]):=by kernel_rfl
theorem aky:zC abQ 310=some ([(0,1)],[.slice none 0 0]):=by kernel_rfl
theorem akz:zC abQ 314=some ([(0,3),(3,1),(4,1),(5,1),(6,1)],[.int .i64 0,.int .i64 0,.int .i64 0,.int .i64 0,.int .i64 0,.int .i64 0,.slice none 0 0]):=by kernel_rfl
theorem akA:zC abQ 317=some ([(0,3),(3,1),(4,1)],[.int .i64 0,.int .i64 0,.int .i64 0,.bool false,.slice none 0 0]):=by kernel_rfl
theorem akB:zC abQ 323=some ([(0,1),(1,1),(2,1),(3,1)],[.nilFunc,.nilFunc,.nilFunc,.nilFunc]):=by kernel_rfl
theorem akC:zC abQ 326=some ([(0,1),(1,1),(2,1),(3,1)],[.int .i64 0,.slice none 0 0,.slice none 0 0,.slice none 0 0]):=by kernel_rfl
theorem aq0:zC abQ 34=some ([(0,1),(1,1),(2,1),(3,1),(4,1)],[.int .i64 0,.bool false,.slice none 0 0,.slice none 0 0,.slice none 0 0]):=by kernel_rfl
theorem aq1:zC abQ 36=some ([(0,1),(1,1),(2,1),(3,1),(4,1),(5,1),(6,5)],[.int .i64 0,.int .i64 0,.int .i64 0,.int .i64 0,.int .i64 0,.int .i64 0,.int .i64 0,.bool false,.slice none 0 0,.slice none 0 0,.slice none 0 0]):=by kernel_rfl
theorem ae4:zC abQ 380=some ([(0,1)],[.slice none 0 0]):=by kernel_rfl
theorem akD:zC abQ 382=some ([(0,1),(1,1)],[.int .i64 0,.slice none 0 0]):=by kernel_rfl
theorem aq2:zC abQ 40=some ([(0,1)],[.slice none 0 0]):=by kernel_rfl
theorem akE:zC abQ 406=some ([(0,1),(1,1)],[.int .i64 0,.nilFunc]):=by kernel_rfl
theorem akF:zC abQ 408=some ([(0,1),(1,1),(2,1),(3,7)],[.slice none 0 0,.int .i64 0,.slice none 0 0,.int .i64 0,.int .i64 0,.int .i64 0,.int .i64 0,.int .i64 0,.int .i64 0,.slice none 0 0]):=by kernel_rfl
theorem Yu:zC abQ 463=some ([],[]):=by kernel_rfl
theorem akG:zC abQ 478=some ([(0,1),(1,1)],[.int .i64 0,.int .i64 0]):=by kernel_rfl
theorem akH:zC abQ 492=some ([],[]):=by kernel_rfl
theorem akI:zC abQ 493=some ([],[]):=by kernel_rfl
theorem akJ:zC abQ 501=some ([(0,1),(1,2)],[.int .i64 0,.int .i64 0,.int .i64 0]):=by kernel_rfl
theorem aq3:zC abQ 54=some ([(0,1),(1,1)],[.int .i64 0,.int .i64 0]):=by kernel_rfl
theorem akK:zC abQ 67=some ([(0,1),(1,1),(2,1),(3,1)],[.int .i64 0,.bool false,.int .i64 0,.slice none 0 0]):=by kernel_rfl
theorem aq4:zC abQ 73=some ([(0,1),(1,1),(2,1)],[.int .i64 0,.int .i64 0,.int .i64 0]):=by kernel_rfl
theorem aq5:zC abQ 81=some ([(0,1),(1,1)],[.int .i64 0,.int .i64 0]):=by kernel_rfl
theorem aq6:zC abQ 86=some ([(0,1),(1,1)],[.int .i64 0,.int .i64 0]):=by kernel_rfl
theorem Oz:zC abQ 89=some ([(0,1),(1,1),(2,1),(3,1)],[.int .i64 0,.bool false,.slice none 0 0,.slice none 0 0]):=by kernel_rfl
theorem aq7:zC abQ 92=some ([(0,1),(1,4),(5,4)],aeR 9 (Value.int .i64 0)):=by kernel_rfl
theorem aq8:zC abQ 94=some ([(0,1),(1,1),(2,1),(3,4),(7,2),(9,4),(13,1),(14,9),(23,1),(24,1),(25,1),(26,1),(27,1)],[.slice none 0 0,.int .i64 0,.slice none 0 0,.bool false,.bool false,.bool false,.bool false,.int .i64 0,.int .i64 0,.int .i64 0,.bool false,.slice none 0 0,.slice none 0 0,.slice none 0 0,.int .i64 0,.int .i64 0,.int .i64 0,.int .i64 0,.int .i64 0,.int .i64 0,.int .i64 0,.int .i64 0,.int .i64 0,.int .i64 0,.int .i64 0,.int .i64 0,.slice none 0 0,.slice none 0 0]):=by kernel_rfl
theorem aq9:zC abQ 96=some ([(0,28),(28,1)],[.slice none 0 0,.int .i64 0,.slice none 0 0,.bool false,.bool false,.bool false,.bool false,.int .i64 0,.int .i64 0,.int .i64 0,.bool false,.slice none 0 0,.slice none 0 0,.slice none 0 0,.int .i64 0,.int .i64 0,.int .i64 0,.int .i64 0,.int .i64 0,.int .i64 0,.int .i64 0,.int .i64 0,.int .i64 0,.int .i64 0,.int .i64 0,.int .i64 0,.slice none 0 0,.slice none 0 0,.string ByteArray.empty]):=by kernel_rfl
theorem are:(abQ.info? 54).any (fun i=>decide (i.bytes≤1000000))=true:=by kernel_rfl
theorem ae6:oK abQ 100=some (139,2,16):=by kernel_rfl
theorem ak0:oK abQ 104=some (107,2,16):=by kernel_rfl
theorem YJ:oK abQ 111=some (9,1,16):=by kernel_rfl
theorem ak1:oK abQ 128=some (131,2,48):=by kernel_rfl
theorem uW:oK abQ 129=some (136,2,16):=by kernel_rfl
theorem Nw:oK abQ 170=some (174,4,48):=by kernel_rfl
theorem ak2:oK abQ 180=some (179,1,8):=by kernel_rfl
theorem ak3:oK abQ 192=some (100,1,24):=by kernel_rfl
theorem ak4:oK abQ 196=some (287,1,8):=by kernel_rfl
theorem U4:oK abQ 226=some (4,1,1):=by kernel_rfl
theorem ak5:oK abQ 230=some (278,2,16):=by kernel_rfl
theorem Je:oK abQ 30=some (3,1,8):=by kernel_rfl
theorem ark:oK abQ 31=some (274,2,32):=by kernel_rfl
theorem OE:oK abQ 32=some (211,4,48):=by kernel_rfl
theorem ak6:oK abQ 344=some (5,1,1):=by kernel_rfl
theorem arl:oK abQ 38=some (102,3,56):=by kernel_rfl
theorem ak7:oK abQ 402=some (406,2,16):=by kernel_rfl
theorem ak8:oK abQ 468=some (382,2,32):=by kernel_rfl
theorem ak9:oK abQ 475=some (478,2,16):=by kernel_rfl
theorem ak_:oK abQ 479=some (32,1,24):=by kernel_rfl
theorem arn:oK abQ 48=some (54,2,16):=by kernel_rfl
theorem ala:oK abQ 494=some (73,3,24):=by kernel_rfl
theorem alb:oK abQ 495=some (73,3,24):=by kernel_rfl
theorem alc:oK abQ 502=some (505,1,16):=by kernel_rfl
theorem aro:oK abQ 51=some (73,3,24):=by kernel_rfl
theorem Qz:oK abQ 59=some (116,4,32):=by kernel_rfl
theorem S2:oK abQ 62=some (67,4,48):=by kernel_rfl
theorem arp:oK abQ 83=some (314,7,72):=by kernel_rfl
theorem Lh:oK abQ 87=some (30,1,24):=by kernel_rfl
theorem agn:oK abQ 90=some (317,5,56):=by kernel_rfl
theorem ae8:AM abQ 100 139 2 16 (.agg #[.int .i64 0,.int .i64 0]):=⟨by kernel_rfl,by kernel_rfl,rfl,by simp[Value.cells,Value.oneCell'],by decide,by decide⟩
theorem alh:AM abQ 104 107 2 16 (.agg #[.int .i64 0,.int .i64 0]):=⟨by kernel_rfl,by kernel_rfl,rfl,by simp[Value.cells,Value.oneCell'],by decide,by decide⟩
theorem ali:AM abQ 111 9 1 16 (.string ByteArray.empty):=⟨by kernel_rfl,by kernel_rfl,rfl,by simp[Value.cells,Value.oneCell'],by decide,by decide⟩
theorem YN:AM abQ 129 136 2 16 (.agg #[.int .i64 0,.int .i64 0]):=⟨by kernel_rfl,by kernel_rfl,rfl,by simp[Value.cells,Value.oneCell'],by decide,by decide⟩
theorem ae9:AM abQ 170 174 4 48 (.agg #[.int .i64 0,.bool false,.int .i64 0,.slice none 0 0]):=⟨by kernel_rfl,by kernel_rfl,rfl,by simp[Value.cells,Value.oneCell'],by decide,by decide⟩
theorem alm:AM abQ 192 100 1 24 (.slice none 0 0):=⟨by kernel_rfl,by kernel_rfl,rfl,by simp[Value.cells,Value.oneCell'],by decide,by decide⟩
theorem aln:AM abQ 196 287 1 8 (.int .u64 0):=⟨by kernel_rfl,by kernel_rfl,rfl,by simp[Value.cells,Value.oneCell'],by decide,by decide⟩
theorem ae_:AM abQ 226 4 1 1 (.bool false):=⟨by kernel_rfl,by kernel_rfl,rfl,by simp[Value.cells,Value.oneCell'],by decide,by decide⟩
theorem alo:AM abQ 230 278 2 16 (.agg #[.int .i64 0,.int .i64 0]):=⟨by kernel_rfl,by kernel_rfl,rfl,by simp[Value.cells,Value.oneCell'],by decide,by decide⟩
theorem alp:AM abQ 30 3 1 8 (.int .i64 0):=⟨by kernel_rfl,by kernel_rfl,rfl,by simp[Value.cells,Value.oneCell'],by decide,by decide⟩
theorem arq:AM abQ 31 274 2 32 (.agg #[.int .i64 0,.slice none 0 0]):=⟨by kernel_rfl,by kernel_rfl,rfl,by simp[Value.cells,Value.oneCell'],by decide,by decide⟩
theorem alq:AM abQ 32 211 4 48 (.agg #[.int .i64 0,.int .i64 0,.int .i64 0,.slice none 0 0]):=⟨by kernel_rfl,by kernel_rfl,rfl,by simp[Value.cells,Value.oneCell'],by decide,by decide⟩
theorem alr:AM abQ 344 5 1 1 (.int .u8 0):=⟨by kernel_rfl,by kernel_rfl,rfl,by simp[Value.cells,Value.oneCell'],by decide,by decide⟩
theorem ars:AM abQ 38 102 3 56 (.agg #[.int .i64 0,.slice none 0 0,.slice none 0 0]):=⟨by kernel_rfl,by kernel_rfl,rfl,by simp[Value.cells,Value.oneCell'],by decide,by decide⟩
theorem alv:AM abQ 475 478 2 16 (.agg #[.int .i64 0,.int .i64 0]):=⟨by kernel_rfl,by kernel_rfl,rfl,by simp[Value.cells,Value.oneCell'],by decide,by decide⟩
theorem art:AM abQ 48 54 2 16 (.agg #[.int .i64 0,.int .i64 0]):=⟨by kernel_rfl,by kernel_rfl,rfl,by simp[Value.cells,Value.oneCell'],by decide,by decide⟩
theorem aru:AM abQ 51 73 3 24 (.agg #[.int .i64 0,.int .i64 0,.int .i64 0]):=⟨by kernel_rfl,by kernel_rfl,rfl,by simp[Value.cells,Value.oneCell'],by decide,by decide⟩
theorem acn:AM abQ 59 116 4 32 (.agg #[.int .i64 0,.int .i64 0,.int .i64 0,.int .i64 0]):=⟨by kernel_rfl,by kernel_rfl,rfl,by simp[Value.cells,Value.oneCell'],by decide,by decide⟩
theorem alA:AM abQ 62 67 4 48 (.agg #[.int .i64 0,.bool false,.int .i64 0,.slice none 0 0]):=⟨by kernel_rfl,by kernel_rfl,rfl,by simp[Value.cells,Value.oneCell'],by decide,by decide⟩
theorem arv:AM abQ 83 314 7 72 (.agg #[.int .i64 0,.int .i64 0,.int .i64 0,.int .i64 0,.int .i64 0,.int .i64 0,.slice none 0 0]):=⟨by kernel_rfl,by kernel_rfl,rfl,by simp[Value.cells,Value.oneCell'],by decide,by decide⟩
theorem arw:AM abQ 87 30 1 24 (.slice none 0 0):=⟨by kernel_rfl,by kernel_rfl,rfl,by simp[Value.cells,Value.oneCell'],by decide,by decide⟩
theorem agy:AM abQ 90 317 5 56 (.agg #[.int .i64 0,.int .i64 0,.int .i64 0,.bool false,.slice none 0 0]):=⟨by kernel_rfl,by kernel_rfl,rfl,by simp[Value.cells,Value.oneCell'],by decide,by decide⟩
theorem acu:MB abQ 174 1=some (1,1,false):=by kernel_rfl
theorem U6:MB abQ 174 3=some (3,1,false):=by kernel_rfl
theorem acv:MB abQ 211 1=some (3,1,false):=by kernel_rfl
theorem agz:MB abQ 67 1=some (1,1,false):=by kernel_rfl
theorem YR:MB abQ 67 3=some (3,1,false):=by kernel_rfl
theorem agA:MB abQ 89 0=some (0,1,false):=by kernel_rfl
theorem agB:MB abQ 89 1=some (1,1,false):=by kernel_rfl
theorem agC:MB abQ 89 2=some (2,1,false):=by kernel_rfl
theorem OG:MB abQ 89 3=some (3,1,false):=by kernel_rfl
theorem as4:abQ.underlying 76=some (.interface (abQ.methodsAt 76)):=by kernel_rfl
theorem Vo:Kb abQ 136 G.ah.kv:=NK (n:=2) (by kernel_rfl) G.ah.LN G.ah.LO (fun _=>rfl)
theorem kg3:Kb abQ 3 Gj:=ZC Tryz.underlying3
theorem anD:Kb abQ 73 G.aa.kv:=NK (n:=3) (by kernel_rfl) G.aa.LN G.aa.LO (fun _=>rfl)
theorem Gv:Dw abQ 116=some (4,true):=by kernel_rfl
theorem XA:Dw abQ 29=some (1,false):=by kernel_rfl
theorem M3:Dw abQ 3=some (1,false):=by kernel_rfl
theorem aep:Dw abQ 30=some (1,false):=by kernel_rfl
theorem ao8:Dw abQ 32=some (1,false):=by kernel_rfl
theorem sz4:Dw abQ 4=some (1,false):=by kernel_rfl
theorem sz5:Dw abQ 5=some (1,false):=by kernel_rfl
theorem PC:Dw abQ 59=some (1,false):=by kernel_rfl
theorem aer:Dw abQ 87=some (1,false):=by kernel_rfl
theorem M4:Dw abQ 89=some (4,true):=by kernel_rfl
theorem apD:(oL abQ 139).isSome=true:=by kernel_rfl
theorem apE:(oL abQ 174).isSome=true:=by kernel_rfl
theorem apF:(oL abQ 4).isSome=true:=by kernel_rfl
theorem awr:(oL abQ 3).isSome=true:=by kernel_rfl
theorem ajw:(oL abQ 116).isSome=true:=by kernel_rfl
theorem aws:(oL abQ 67).isSome=true:=by kernel_rfl
theorem apG:(oL abQ 317).isSome=true:=by kernel_rfl
theorem apH:oL abQ 102=some (.agg #[.int .i64 0,.slice none 0 0,.slice none 0 0]):=by kernel_rfl
theorem apI:oL abQ 107=some (.agg #[.int .i64 0,.int .i64 0]):=by kernel_rfl
theorem V8:oL abQ 116=some (.agg #[.int .i64 0,.int .i64 0,.int .i64 0,.int .i64 0]):=by kernel_rfl
theorem af6:oL abQ 126=some (.agg #[.int .i64 0,.int .i64 0]):=by kernel_rfl
theorem apJ:oL abQ 131=some (.agg #[.slice none 0 0,.slice none 0 0]):=by kernel_rfl
theorem apK:oL abQ 136=some (.agg #[.int .i64 0,.int .i64 0]):=by kernel_rfl
theorem apL:oL abQ 139=some (.agg #[.int .i64 0,.int .i64 0]):=by kernel_rfl
theorem apM:oL abQ 181=some (.nilFunc):=by kernel_rfl
theorem apN:oL abQ 184=some (.nilFunc):=by kernel_rfl
theorem apO:oL abQ 198=some (.agg #[.int .i64 0,.slice none 0 0]):=by kernel_rfl
theorem af7:oL abQ 211=some (.agg #[.int .i64 0,.int .i64 0,.int .i64 0,.slice none 0 0]):=by kernel_rfl
theorem awt:oL abQ 22=some (.agg #[.int .i64 0,.int .i64 0,.int .i64 0,.int .i64 0]):=by kernel_rfl
theorem apP:oL abQ 232=some (.agg #[.slice none 0 0,.slice none 0 0]):=by kernel_rfl
theorem awu:oL abQ 24=some (.agg #[.int .i64 0,.int .i64 0,.int .i64 0,.int .i64 0,.int .i64 0]):=by kernel_rfl
theorem awv:oL abQ 26=some (.agg #[.string ByteArray.empty,.int .i64 0,.int .i64 0,.int .i64 0,.int .i64 0,.int .i64 0,.int .i64 0,.string ByteArray.empty]):=by kernel_rfl
theorem apQ:oL abQ 274=some (.agg #[.int .i64 0,.slice none 0 0]):=by kernel_rfl
theorem apR:oL abQ 29=some (.int .i64 0):=by kernel_rfl
theorem zr3:oL abQ 3=some (.int .i64 0):=by kernel_rfl
theorem aww:oL abQ 30=some (.slice none 0 0):=by kernel_rfl
theorem apT:oL abQ 314=some (.agg #[.int .i64 0,.int .i64 0,.int .i64 0,.int .i64 0,.int .i64 0,.int .i64 0,.slice none 0 0]):=by kernel_rfl
theorem apU:oL abQ 317=some (.agg #[.int .i64 0,.int .i64 0,.int .i64 0,.bool false,.slice none 0 0]):=by kernel_rfl
theorem apV:oL abQ 323=some (.agg #[.nilFunc,.nilFunc,.nilFunc,.nilFunc]):=by kernel_rfl
theorem apW:oL abQ 326=some (.agg #[.int .i64 0,.slice none 0 0,.slice none 0 0,.slice none 0 0]):=by kernel_rfl
theorem awx:oL abQ 34=some (.agg #[.int .i64 0,.bool false,.slice none 0 0,.slice none 0 0,.slice none 0 0]):=by kernel_rfl
theorem apX:oL abQ 344=some (.slice none 0 0):=by kernel_rfl
theorem awy:oL abQ 36=some (.agg #[.int .i64 0,.int .i64 0,.int .i64 0,.int .i64 0,.int .i64 0,.int .i64 0,.int .i64 0,.bool false,.slice none 0 0,.slice none 0 0,.slice none 0 0]):=by kernel_rfl
theorem apY:oL abQ 382=some (.agg #[.int .i64 0,.slice none 0 0]):=by kernel_rfl
theorem zr4:oL abQ 4=some (.bool false):=by kernel_rfl
theorem awz:oL abQ 40=some (.agg #[.slice none 0 0]):=by kernel_rfl
theorem apZ:oL abQ 406=some (.agg #[.int .i64 0,.nilFunc]):=by kernel_rfl
theorem ap0:oL abQ 415=some (.int .u64 0):=by kernel_rfl
theorem ap1:oL abQ 422=some (.agg #[.int .u8 0,.int .u8 0]):=by kernel_rfl
theorem ap2:oL abQ 432=some (.agg #[.int .i64 0,.int .i64 0,.int .i64 0,.int .i64 0,.int .i64 0,.int .i64 0,.int .i64 0,.int .i64 0]):=by kernel_rfl
theorem ap3:oL abQ 433=some (.pointer none):=by kernel_rfl
theorem ap4:oL abQ 444=some (.agg (aeR 64 (Value.int .i64 0)).toArray):=by kernel_rfl
theorem ap5:oL abQ 465=some (.agg (aeR 32 (Value.bool false)).toArray):=by kernel_rfl
theorem ap6:oL abQ 466=some (.agg (aeR 16 (Value.int .i64 0)).toArray):=by kernel_rfl
theorem ap7:oL abQ 478=some (.agg #[.int .i64 0,.int .i64 0]):=by kernel_rfl
theorem ap8:oL abQ 501=some (.agg #[.int .i64 0,.int .i64 0,.int .i64 0]):=by kernel_rfl
theorem awA:oL abQ 51=some (.slice none 0 0):=by kernel_rfl
theorem awB:oL abQ 54=some (.agg #[.int .i64 0,.int .i64 0]):=by kernel_rfl
theorem ap9:oL abQ 59=some (.slice none 0 0):=by kernel_rfl
theorem awC:oL abQ 67=some (.agg #[.int .i64 0,.bool false,.int .i64 0,.slice none 0 0]):=by kernel_rfl
theorem awD:oL abQ 73=some (.agg #[.int .i64 0,.int .i64 0,.int .i64 0]):=by kernel_rfl
theorem awE:oL abQ 81=some (.agg #[.int .i64 0,.int .i64 0]):=by kernel_rfl
theorem awF:oL abQ 86=some (.agg #[.int .i64 0,.int .i64 0]):=by kernel_rfl
theorem PX:oL abQ 89=some (.agg #[.int .i64 0,.bool false,.slice none 0 0,.slice none 0 0]):=by kernel_rfl
theorem awG:oL abQ 92=some (.agg (aeR 9 (Value.int .i64 0)).toArray):=by kernel_rfl
theorem awH:oL abQ 94=some (.agg #[.slice none 0 0,.int .i64 0,.slice none 0 0,.bool false,.bool false,.bool false,.bool false,.int .i64 0,.int .i64 0,.int .i64 0,.bool false,.slice none 0 0,.slice none 0 0,.slice none 0 0,.int .i64 0,.int .i64 0,.int .i64 0,.int .i64 0,.int .i64 0,.int .i64 0,.int .i64 0,.int .i64 0,.int .i64 0,.int .i64 0,.int .i64 0,.int .i64 0,.slice none 0 0,.slice none 0 0]):=by kernel_rfl
theorem XV:oL abQ 3=some (.int .i64 0):=by kernel_rfl
theorem abK:oL abQ 30=some (.slice none 0 0):=by kernel_rfl
theorem DJ:EB abQ 73 3=true:=by kernel_rfl
theorem Ef(x y:G.aa):decide ([x.Key,x.A,x.B]=[y.Key,y.A,y.B])=decide (x=y):=by cases x;cases y;simp
theorem DS{W0:bS}{fr:Fr}{H:Heap}{o:Oper}{t':TypeId}{x y:Operand}{a b:G.aa}(ho:o.op=.binOp .eql 73 x y t')(hx:aD fr x=some (G.aa.av a))(hy:aD fr y=some (G.aa.av b)):b_ abQ W0 o fr H (bl (decide (a=b))) H:=(JH [a.Key,a.A,a.B] [b.Key,b.A,b.B] DJ rfl rfl ho hx hy).conv (by rw[Ef])
theorem Km{W0:bS}{fr:Fr}{H:Heap}{o:Oper}{t':TypeId}{x y:Operand}{a b:G.aa}(ho:o.op=.binOp .neq 73 x y t')(hx:aD fr x=some (G.aa.av a))(hy:aD fr y=some (G.aa.av b)):b_ abQ W0 o fr H (bl (!decide (a=b))) H:=(JJ [a.Key,a.A,a.B] [b.Key,b.A,b.B] DJ rfl rfl ho hx hy).conv (by rw[Ef])
theorem EC:EB abQ 116 4=true:=by kernel_rfl
theorem Gb(x y:G.an):decide ([x.Kind,x.aI,x.Key,x.Value]=[y.Kind,y.aI,y.Key,y.Value])=decide (x=y):=by cases x;cases y;simp
theorem Fi{W0:bS}{fr:Fr}{H:Heap}{o:Oper}{t':TypeId}{x y:Operand}{a b:G.an}(ho:o.op=.binOp .eql 116 x y t')(hx:aD fr x=some (G.an.av a))(hy:aD fr y=some (G.an.av b)):b_ abQ W0 o fr H (bl (decide (a=b))) H:=(JH [a.Kind,a.aI,a.Key,a.Value] [b.Kind,b.aI,b.Key,b.Value] EC rfl rfl ho hx hy).conv (by rw[Gb])
theorem Mt{W0:bS}{fr:Fr}{H:Heap}{o:Oper}{t':TypeId}{x y:Operand}{a b:G.an}(ho:o.op=.binOp .neq 116 x y t')(hx:aD fr x=some (G.an.av a))(hy:aD fr y=some (G.an.av b)):b_ abQ W0 o fr H (bl (!decide (a=b))) H:=(JJ [a.Kind,a.aI,a.Key,a.Value] [b.Kind,b.aI,b.Key,b.Value] EC rfl rfl ho hx hy).conv (by rw[Gb])
theorem Gi:EB abQ 139 2=true:=by kernel_rfl
theorem HT(x y:G.aO):decide ([x.Key,x.eu]=[y.Key,y.eu])=decide (x=y):=by cases x;cases y;simp
theorem M5{W0:bS}{fr:Fr}{H:Heap}{o:Oper}{t':TypeId}{x y:Operand}{a b:G.aO}(ho:o.op=.binOp .eql 139 x y t')(hx:aD fr x=some (G.aO.av a))(hy:aD fr y=some (G.aO.av b)):b_ abQ W0 o fr H (bl (decide (a=b))) H:=(JH [a.Key,a.eu] [b.Key,b.eu] Gi rfl rfl ho hx hy).conv (by rw[HT])
theorem M6{W0:bS}{fr:Fr}{H:Heap}{o:Oper}{t':TypeId}{x y:Operand}{a b:G.aO}(ho:o.op=.binOp .neq 139 x y t')(hx:aD fr x=some (G.aO.av a))(hy:aD fr y=some (G.aO.av b)):b_ abQ W0 o fr H (bl (!decide (a=b))) H:=(JJ [a.Key,a.eu] [b.Key,b.eu] Gi rfl rfl ho hx hy).conv (by rw[HT])
theorem alj:AM abQ 128 131 2 48 (.agg #[.slice none 0 0,.slice none 0 0]):=⟨by kernel_rfl,by kernel_rfl,rfl,by simp[Value.cells,Value.oneCell'],by decide,by decide⟩
theorem alk:AM abQ 180 179 1 8 (.pointer none):=⟨by kernel_rfl,by kernel_rfl,rfl,by simp[Value.cells,Value.oneCell'],by decide,by decide⟩
theorem als:AM abQ 402 406 2 16 (.agg #[.int .i64 0,.nilFunc]):=⟨by kernel_rfl,by kernel_rfl,rfl,by simp[Value.cells,Value.oneCell'],by decide,by decide⟩
theorem alu:AM abQ 468 382 2 32 (.agg #[.int .i64 0,.slice none 0 0]):=⟨by kernel_rfl,by kernel_rfl,rfl,by simp[Value.cells,Value.oneCell'],by decide,by decide⟩
theorem alw:AM abQ 479 32 1 24 (.slice none 0 0):=⟨by kernel_rfl,by kernel_rfl,rfl,by simp[Value.cells,Value.oneCell'],by decide,by decide⟩
theorem alx:AM abQ 494 73 3 24 (.agg #[.int .i64 0,.int .i64 0,.int .i64 0]):=⟨by kernel_rfl,by kernel_rfl,rfl,by simp[Value.cells,Value.oneCell'],by decide,by decide⟩
theorem aly:AM abQ 495 73 3 24 (.agg #[.int .i64 0,.int .i64 0,.int .i64 0]):=⟨by kernel_rfl,by kernel_rfl,rfl,by simp[Value.cells,Value.oneCell'],by decide,by decide⟩
theorem alz:AM abQ 502 505 1 16 (.nilIface):=⟨by kernel_rfl,by kernel_rfl,rfl,by simp[Value.cells,Value.oneCell'],by decide,by decide⟩
theorem M7{W0:bS}{fr:Fr}{H:Heap}{o:Oper}{t':TypeId}{x y:Operand}{a0 a1 a2 b0 b1 b2:Int}(ho:o.op=.binOp .eql 73 x y t')(hx:aD fr x=some (.agg [J a0,J a1,J a2]))(hy:aD fr y=some (.agg [J b0,J b1,J b2])):b_ abQ W0 o fr H (bl (decide (G.aa.mk a0 a1 a2=.mk b0 b1 b2))) H:=DS (a:=.mk a0 a1 a2) (b:=.mk b0 b1 b2) ho hx hy
theorem PI{W0:bS}{fr:Fr}{H:Heap}{o:Oper}{t':TypeId}{x y:Operand}{a0 a1 a2 a3 b0 b1 b2 b3:Int}(ho:o.op=.binOp .eql 116 x y t')(hx:aD fr x=some (.agg [J a0,J a1,J a2,J a3]))(hy:aD fr y=some (.agg [J b0,J b1,J b2,J b3])):b_ abQ W0 o fr H (bl (decide (G.an.mk a0 a1 a2 a3=.mk b0 b1 b2 b3))) H:=Fi (a:=.mk a0 a1 a2 a3) (b:=.mk b0 b1 b2 b3) ho hx hy
def tb:Tb:=⟨[(3,(1,false)),(4,(1,false)),(5,(1,false)),(9,(1,false)),(22,(4,true)),(24,(5,true)),(26,(8,true)),(29,(1,false)),(30,(1,false)),(31,(1,false)),(32,(1,false)),(34,(5,true)),(36,(11,true)),(38,(1,false)),(40,(1,true)),(51,(1,false)),(54,(2,true)),(59,(1,false)),(67,(4,true)),(73,(3,true)),(83,(1,false)),(84,(4,true)),(86,(2,true)),(87,(1,false)),(89,(4,true)),(90,(1,false)),(92,(9,true)),(94,(28,true)),(100,(1,false)),(102,(3,true)),(107,(2,true)),(116,(4,true)),(126,(2,true)),(129,(1,false)),(131,(2,true)),(136,(2,true)),(139,(2,true)),(174,(4,true)),(178,(5,true)),(179,(1,false)),(181,(1,false)),(184,(1,false)),(189,(1,false)),(196,(1,false)),(198,(2,true)),(211,(4,true)),(230,(1,false)),(232,(2,true)),(274,(2,true)),(287,(1,false)),(314,(7,true)),(317,(5,true)),(321,(1,false)),(323,(4,true)),(326,(4,true)),(344,(1,false)),(382,(2,true)),(404,(1,false)),(406,(2,true)),(415,(1,false)),(422,(2,true)),(433,(1,false)),(444,(64,true)),(478,(2,true)),(495,(1,false)),(501,(3,true)),(505,(1,false))],[(24,[(0,(0,1,false)),(1,(1,4,true))]),(26,[(0,(0,1,false)),(1,(1,1,false)),(2,(2,5,true)),(3,(7,1,false))]),(34,[(0,(0,1,false)),(1,(1,1,false)),(2,(2,1,false)),(3,(3,1,false)),(4,(4,1,false))]),(36,[(0,(0,1,false)),(1,(1,1,false)),(2,(2,1,false)),(3,(3,1,false)),(4,(4,1,false)),(6,(6,5,true))]),(40,[(0,(0,1,false))]),(54,[(0,(0,1,false)),(1,(1,1,false))]),(67,[(0,(0,1,false)),(1,(1,1,false)),(2,(2,1,false)),(3,(3,1,false))]),(73,[(0,(0,1,false)),(1,(1,1,false)),(2,(2,1,false))]),(86,[(0,(0,1,false)),(1,(1,1,false))]),(89,[(0,(0,1,false)),(1,(1,1,false)),(2,(2,1,false)),(3,(3,1,false))]),(92,[(0,(0,1,false)),(1,(1,4,true)),(2,(5,4,true))]),(94,[(0,(0,1,true)),(1,(1,1,false)),(2,(2,1,false)),(3,(3,4,true)),(4,(7,2,true)),(5,(9,4,true)),(6,(13,1,false)),(7,(14,9,true)),(8,(23,1,false)),(9,(24,1,false)),(10,(25,1,false)),(11,(26,1,false)),(12,(27,1,false))]),(96,[(0,(0,28,true)),(1,(28,1,false))]),(102,[(0,(0,1,false)),(1,(1,1,false)),(2,(2,1,false))]),(107,[(0,(0,1,false)),(1,(1,1,false))]),(116,[(0,(0,1,false)),(1,(1,1,false)),(2,(2,1,false)),(3,(3,1,false))]),(126,[(1,(1,1,false))]),(131,[(0,(0,1,false)),(1,(1,1,false))]),(136,[(0,(0,1,false)),(1,(1,1,false))]),(139,[(0,(0,1,false)),(1,(1,1,false))]),(174,[(0,(0,1,false)),(1,(1,1,false)),(2,(2,1,false)),(3,(3,1,false))]),(198,[(0,(0,1,false)),(1,(1,1,false))]),(211,[(0,(0,3,true)),(1,(3,1,false))]),(232,[(0,(0,1,false)),(1,(1,1,false))]),(274,[(0,(0,1,false)),(1,(1,1,false))]),(278,[(0,(0,1,false)),(1,(1,1,false))]),(310,[(0,(0,1,false))]),(314,[(0,(0,3,true)),(1,(3,1,false)),(2,(4,1,false)),(3,(5,1,false)),(4,(6,1,false))]),(317,[(0,(0,3,true)),(1,(3,1,false)),(2,(4,1,false))]),(326,[(0,(0,1,false)),(1,(1,1,false)),(2,(2,1,false)),(3,(3,1,false))]),(380,[(0,(0,1,false))]),(382,[(0,(0,1,false)),(1,(1,1,false))]),(406,[(0,(0,1,false)),(1,(1,1,false))]),(408,[(0,(0,1,true)),(1,(1,1,false)),(2,(2,1,false)),(3,(3,7,true))]),(422,[(0,(0,1,false)),(1,(1,1,false))]),(437,[(0,(0,1,true)),(1,(1,512,true))]),(478,[(0,(0,1,false)),(1,(1,1,false))]),(501,[(0,(0,1,false)),(1,(1,2,true))])]⟩
theorem lD:tb.Of abQ:=Tb.ahk (by kernel_rfl) (by kernel_rfl)
end Wk
