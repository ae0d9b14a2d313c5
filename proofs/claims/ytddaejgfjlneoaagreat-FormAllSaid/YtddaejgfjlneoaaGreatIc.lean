/-
  Texts of these claims, joined: Opn Opi Opm Opz Cls Fct Wa Wb Wc Wd We Wf Wg Wh Wp Wt Wu Wy Xf Xi Xj Xn Srt Yc Yd Ye Yf Yj Yq Yt Za Zb.
-/
import Derived.Test.YtddaejgfjlneoaaGreatIb
import Derived.Test.YtddaejgfjlneoaaGreatProg
import Derived.KernelRfl
import Derived.OpenShut
import Derived.ProofKit
import Derived.ShutString
import Derived.ChangeOld
import Derived.RowKit
import Derived.JoinedOf
import Derived.Shelf.Sort.Plain
import Derived.Shelf.Slices.CompactI
import Derived.Shelf.Slices.In.SortNone
import Derived.Lib.RowBridge
namespace Go.Proofs.YtddaejgfjlneoaaGreat
theorem fc:type_of% @Tryz.call100:=@Tryz.call100
theorem zb:type_of% @Tryz.call103:=@Tryz.call103
theorem cQ:type_of% @Tryz.call105:=@Tryz.call105
theorem FD:type_of% @Tryz.call114:=@Tryz.call114
theorem so:type_of% @Tryz.call115:=@Tryz.call115
theorem m8:type_of% @Tryz.call121:=@Tryz.call121
theorem FC:type_of% @Tryz.call138:=@Tryz.call138
theorem FB:type_of% @Tryz.call139:=@Tryz.call139
theorem m7:type_of% @Tryz.call161:=@Tryz.call161
theorem za:type_of% @Tryz.call190:=@Tryz.call190
theorem y0:type_of% @Tryz.call221:=@Tryz.call221
theorem lK:type_of% @Tryz.call26:=@Tryz.call26
theorem aU:type_of% @Tryz.call31:=@Tryz.call31
theorem iG:type_of% @Tryz.call42:=@Tryz.call42
theorem uN:type_of% @Tryz.call83:=@Tryz.call83
theorem qd:type_of% @Tryz.call92:=@Tryz.call92
theorem jh:type_of% @Tryz.isAgg108:=@Tryz.isAgg108
theorem wi:type_of% @Tryz.isAgg140:=@Tryz.isAgg140
theorem eC:type_of% @Tryz.isAgg160:=@Tryz.isAgg160
theorem pD:type_of% @Tryz.isAgg170:=@Tryz.isAgg170
theorem eA:type_of% @Tryz.isAgg182:=@Tryz.isAgg182
theorem fP:type_of% @Tryz.isAgg189:=@Tryz.isAgg189
theorem pC:type_of% @Tryz.isAgg211:=@Tryz.isAgg211
theorem ak:type_of% @Tryz.isAgg22:=@Tryz.isAgg22
theorem pB:type_of% @Tryz.isAgg236:=@Tryz.isAgg236
theorem cj:type_of% @Tryz.isAgg29:=@Tryz.isAgg29
theorem ae:type_of% @Tryz.isAgg3:=@Tryz.isAgg3
theorem aM:type_of% @Tryz.isAgg34:=@Tryz.isAgg34
theorem bZ:type_of% @Tryz.isAgg35:=@Tryz.isAgg35
theorem fO:type_of% @Tryz.isAgg36:=@Tryz.isAgg36
theorem aq:type_of% @Tryz.isAgg38:=@Tryz.isAgg38
theorem bX:type_of% @Tryz.isAgg44:=@Tryz.isAgg44
theorem df:type_of% @Tryz.isAgg49:=@Tryz.isAgg49
theorem Fz:type_of% @Tryz.isAgg51:=@Tryz.isAgg51
theorem m6:type_of% @Tryz.isAgg61:=@Tryz.isAgg61
theorem cA:type_of% @Tryz.isAgg68:=@Tryz.isAgg68
theorem a8:type_of% @Tryz.isAgg70:=@Tryz.isAgg70
theorem cg:type_of% @Tryz.isAgg80:=@Tryz.isAgg80
theorem lr:type_of% @Tryz.results107:=@Tryz.results107
theorem qO:type_of% @Tryz.results108:=@Tryz.results108
theorem lq:type_of% @Tryz.results109:=@Tryz.results109
theorem mZ:type_of% @Tryz.results15:=@Tryz.results15
theorem zi:type_of% @Tryz.results202:=@Tryz.results202
theorem qN:type_of% @Tryz.results206:=@Tryz.results206
theorem gn:type_of% @Tryz.results22:=@Tryz.results22
theorem ln:type_of% @Tryz.results232:=@Tryz.results232
theorem zh:type_of% @Tryz.results247:=@Tryz.results247
theorem sN:type_of% @Tryz.results41:=@Tryz.results41
theorem jI:type_of% @Tryz.results42:=@Tryz.results42
theorem mY:type_of% @Tryz.results46:=@Tryz.results46
theorem Cr:type_of% @Tryz.results75:=@Tryz.results75
theorem sM:type_of% @Tryz.results76:=@Tryz.results76
theorem Cq:type_of% @Tryz.results77:=@Tryz.results77
theorem br:type_of% @Tryz.runUnderlying106:=@Tryz.runUnderlying106
theorem gq:type_of% @Tryz.runUnderlying108:=@Tryz.runUnderlying108
theorem A1:type_of% @Tryz.runUnderlying140:=@Tryz.runUnderlying140
theorem A0:type_of% @Tryz.runUnderlying158:=@Tryz.runUnderlying158
theorem ob:type_of% @Tryz.runUnderlying160:=@Tryz.runUnderlying160
theorem AZ:type_of% @Tryz.runUnderlying172:=@Tryz.runUnderlying172
theorem az:type_of% @Tryz.runUnderlying182:=@Tryz.runUnderlying182
theorem oa:type_of% @Tryz.runUnderlying189:=@Tryz.runUnderlying189
theorem nZ:type_of% @Tryz.runUnderlying199:=@Tryz.runUnderlying199
theorem ad:type_of% @Tryz.runUnderlying22:=@Tryz.runUnderlying22
theorem AY:type_of% @Tryz.runUnderlying231:=@Tryz.runUnderlying231
theorem dT:type_of% @Tryz.runUnderlying233:=@Tryz.runUnderlying233
theorem dS:type_of% @Tryz.runUnderlying250:=@Tryz.runUnderlying250
theorem AX:type_of% @Tryz.runUnderlying259:=@Tryz.runUnderlying259
theorem Cp:type_of% @Tryz.runUnderlying27:=@Tryz.runUnderlying27
theorem Co:type_of% @Tryz.runUnderlying29:=@Tryz.runUnderlying29
theorem aQ:type_of% @Tryz.runUnderlying3:=@Tryz.runUnderlying3
theorem jH:type_of% @Tryz.runUnderlying34:=@Tryz.runUnderlying34
theorem aF:type_of% @Tryz.runUnderlying35:=@Tryz.runUnderlying35
theorem bk:type_of% @Tryz.runUnderlying36:=@Tryz.runUnderlying36
theorem Cn:type_of% @Tryz.runUnderlying38:=@Tryz.runUnderlying38
theorem dK:type_of% @Tryz.runUnderlying44:=@Tryz.runUnderlying44
theorem fh:type_of% @Tryz.runUnderlying49:=@Tryz.runUnderlying49
theorem aP:type_of% @Tryz.runUnderlying51:=@Tryz.runUnderlying51
theorem aA:type_of% @Tryz.runUnderlying61:=@Tryz.runUnderlying61
theorem aN:type_of% @Tryz.runUnderlying68:=@Tryz.runUnderlying68
theorem fg:type_of% @Tryz.runUnderlying80:=@Tryz.runUnderlying80
theorem sL:type_of% @Tryz.sizeOf106:=@Tryz.sizeOf106
theorem bG:type_of% @Tryz.sizeOf108:=@Tryz.sizeOf108
theorem dU:type_of% @Tryz.sizeOf140:=@Tryz.sizeOf140
theorem mX:type_of% @Tryz.sizeOf158:=@Tryz.sizeOf158
theorem bj:type_of% @Tryz.sizeOf160:=@Tryz.sizeOf160
theorem sK:type_of% @Tryz.sizeOf182:=@Tryz.sizeOf182
theorem aH:type_of% @Tryz.sizeOf189:=@Tryz.sizeOf189
theorem aB:type_of% @Tryz.sizeOf22:=@Tryz.sizeOf22
theorem jG:type_of% @Tryz.sizeOf236:=@Tryz.sizeOf236
theorem bw:type_of% @Tryz.sizeOf29:=@Tryz.sizeOf29
theorem ai:type_of% @Tryz.sizeOf3:=@Tryz.sizeOf3
theorem aE:type_of% @Tryz.sizeOf34:=@Tryz.sizeOf34
theorem jg:type_of% @Tryz.sizeOf35:=@Tryz.sizeOf35
theorem pA:type_of% @Tryz.sizeOf36:=@Tryz.sizeOf36
theorem an:type_of% @Tryz.sizeOf38:=@Tryz.sizeOf38
theorem sn:type_of% @Tryz.sizeOf4:=@Tryz.sizeOf4
theorem aJ:type_of% @Tryz.sizeOf44:=@Tryz.sizeOf44
theorem bq:type_of% @Tryz.sizeOf49:=@Tryz.sizeOf49
theorem D1:type_of% @Tryz.sizeOf63:=@Tryz.sizeOf63
theorem k7:type_of% @Tryz.sizeOf68:=@Tryz.sizeOf68
theorem aC:type_of% @Tryz.sizeOf70:=@Tryz.sizeOf70
theorem aD:type_of% @Tryz.sizeOf80:=@Tryz.sizeOf80
theorem xk:type_of% @Tryz.typeInfo189:=@Tryz.typeInfo189
theorem ff:type_of% @Tryz.typeInfo3:=@Tryz.typeInfo3
theorem jo:type_of% @Tryz.underlying27:=@Tryz.underlying27
theorem gd:type_of% @Tryz.underlying3:=@Tryz.underlying3
theorem xj:type_of% @Tryz.underlying4:=@Tryz.underlying4
theorem fB:type_of% @Tryz.zeroValue108:=@Tryz.zeroValue108
theorem uM:type_of% @Tryz.zeroValue140:=@Tryz.zeroValue140
theorem jn:type_of% @Tryz.zeroValue158:=@Tryz.zeroValue158
theorem dF:type_of% @Tryz.zeroValue160:=@Tryz.zeroValue160
theorem dE:type_of% @Tryz.zeroValue189:=@Tryz.zeroValue189
theorem dA:type_of% @Tryz.zeroValue22:=@Tryz.zeroValue22
theorem Fy:type_of% @Tryz.zeroValue231:=@Tryz.zeroValue231
theorem xi:type_of% @Tryz.zeroValue29:=@Tryz.zeroValue29
theorem bM:type_of% @Tryz.zeroValue3:=@Tryz.zeroValue3
theorem im:type_of% @Tryz.zeroValue34:=@Tryz.zeroValue34
theorem bK:type_of% @Tryz.zeroValue38:=@Tryz.zeroValue38
theorem cz:type_of% @Tryz.zeroValue44:=@Tryz.zeroValue44
theorem kj:type_of% @Tryz.zeroValue49:=@Tryz.zeroValue49
theorem cu:type_of% @Tryz.zeroValue70:=@Tryz.zeroValue70
theorem bH:type_of% @Tryz.zeroValue80:=@Tryz.zeroValue80
end Go.Proofs.YtddaejgfjlneoaaGreat
namespace Go.Proofs.YtddaejgfjlneoaaGreat
open Go.MW Go.ChangeShapes Go.WideShapes
set_option maxRecDepth 100000
theorem yT:Tryz.prog.cellsOf 3=1:=by kernel_rfl
theorem CN:Tryz.prog.cellsOf 22=1:=by kernel_rfl
theorem Fo:Tryz.prog.bytesOf 3=8:=by kernel_rfl
theorem Bt:reachBytes=140737488351232:=rfl
section
variable{H:Type}{enc:TypeId×Value→H}{w:World}{sp:Nat→Bool}{held:Bool}{n:Nat}{cs:List Value}{y:DataW H×List MemPlace}{v:Value}{d:DataW H}{p:List MemPlace}{r:Reach}{base:Nat}
theorem CD(hw:Wt Tryz.prog 22 y.1)(h:DataW.trod enc Tryz.prog w 0 sp held n 22 cs=some y):∃v xs,cs=[v]∧RI (hp w) v xs∧IsIn xs:=by
 obtain ⟨v,xs,h1,h2,h3,h4⟩:=CY Tryz.underlying22 gd yT hw h
 rw [Fo,Bt] at h3
 exact ⟨v,xs,h1,h2,aj,h4⟩
end
end Go.Proofs.YtddaejgfjlneoaaGreat
namespace Go.Proofs.YtddaejgfjlneoaaGreat
open Go.MW Go.ChangeShapes Go.WideShapes Go.ChangeAt Go.RowKit
set_option maxRecDepth 100000 in
theorem Eu{H:Type}{enc:TypeId×Value→H}{w:World}{sp:Nat→Bool}{held:Bool}{v:Value}{d:DataW H}{p:List MemPlace}{r:Reach}{base:Nat}
  (hv:Value.okWide Tryz.prog w r base 3 v) (h:DataW.Trod enc Tryz.prog w 0 sp held 3 v d p):∃a,v=I a∧I64 a:=by
 obtain ⟨a,rfl,rfl,rfl,wa⟩:=open_int gd hv h
 exact ⟨a,rfl,FE wa⟩
open Go.MW Go.ChangeShapes Go.WideShapes
set_option maxRecDepth 100000
theorem Cg:Tryz.prog.cellsOf 23=1:=by kernel_rfl
theorem Cf:Tryz.prog.cellsOf 24=1:=by kernel_rfl
theorem FK:Tryz.prog.cellsOf 106=5:=by kernel_rfl
theorem c_43:Tryz.prog.cellsOf 199=4:=by kernel_rfl
theorem Fm:Tryz.prog.cellsOf 25=3:=by kernel_rfl
theorem DA:Tryz.prog.cellsOf 27=7:=by kernel_rfl
theorem len7{α:Type}{l:List α}(h:l.length=7):∃a b c d e f g,l=[a,b,c,d,e,f,g]:=by match l,h with|[a,b,c,d,e,f,g],_=>exact ⟨a,b,c,d,e,f,g,rfl⟩
theorem CK:∀{zs:List (List Int)},(∀z∈zs,z.length=5∧∀y∈z,I64 y)→∃ls:List F5,zs.map Is=ls.map F5.v
 |[],_=>⟨[],rfl⟩
 |z::zs,h=>by
  obtain ⟨ls,h1⟩:=CK (fun c hc=>h c (.tail _ hc))
  obtain ⟨h3,_⟩:=h z (.head _)
  match z,h3 with
  |[a,b,c,d,e],_=>exact ⟨⟨a,b,c,d,e⟩::ls,by rw [List.map_cons,h1];rfl⟩
theorem CJ:∀{zs:List (List Int)},(∀z∈zs,z.length=4∧∀y∈z,I64 y)→∃ls:List F4,zs.map Is=ls.map F4.v
 |[],_=>⟨[],rfl⟩
 |z::zs,h=>by
  obtain ⟨ls,h1⟩:=CJ (fun c hc=>h c (.tail _ hc))
  obtain ⟨h3,_⟩:=h z (.head _)
  match z,h3 with
  |[a,b,c,d],_=>exact ⟨⟨a,b,c,d⟩::ls,by rw [List.map_cons,h1];rfl⟩
structure CQ where
 sp:List Int
 rs:List F5
 cs:List F4
 pk:List Int
 x:Int
 y:Int
 z:Int
def xg(H:bP)(v:Value)(r:CQ):Prop:=∃vs v5 v4 vp,v= .agg #[vs,v5,v4,vp,I r.x,I r.y,I r.z]∧RI H vs r.sp∧RF5 H v5 r.rs∧RF4 H v4 r.cs∧RI H vp r.pk
section
variable{H:Type}{enc:TypeId×Value→H}{w:World}{sp:Nat→Bool}{held:Bool}{n:Nat}{cs:List Value}{y:DataW H×List MemPlace}{v:Value}{d:DataW H}{p:List MemPlace}{r:Reach}{base:Nat}
theorem BM(hw:Wt Tryz.prog 23 y.1)(h:DataW.trod enc Tryz.prog w 0 sp held n 23 cs=some y):∃(v:Value) (ls:List F5),cs=[v]∧RF5 (hp w) v ls:=by
 obtain ⟨v,zs,h1,h2,_,h3⟩:=zr (k:=5) Tryz.underlying23 Tryz.underlying106 gd yT fG FK hw h
 obtain ⟨ls,h4⟩:=CK h3
 exact ⟨v,ls,h1,by unfold RF5;rw [←h4];exact h2⟩
theorem BL(hw:Wt Tryz.prog 24 y.1)(h:DataW.trod enc Tryz.prog w 0 sp held n 24 cs=some y):∃(v:Value) (ls:List F4),cs=[v]∧RF4 (hp w) v ls:=by
 obtain ⟨v,zs,h1,h2,_,h3⟩:=zr (k:=4) Tryz.underlying24 Tryz.underlying199 gd yT fG c_43 hw h
 obtain ⟨ls,h4⟩:=CJ h3
 exact ⟨v,ls,h1,by unfold RF4;rw [←h4];exact h2⟩
theorem pT(hv:Value.okWide Tryz.prog w r base 27 v)(h:DataW.Trod enc Tryz.prog w 0 sp held 27 v d p)(hw:Wt Tryz.prog 27 d):∃q:CQ,xg (hp w) v q∧True:=by
 obtain ⟨cs,n,rfl,hn,_⟩:=yV jo hv h
 obtain ⟨ys,m,_,e,hlen,hyl,hg⟩:=DataW.trod_struct jo hn
 cases e
 rw [DA] at hlen
 obtain ⟨c0,c1,c2,c3,c4,c5,c6,rfl⟩:=len7 hlen
 obtain ⟨_,h0,k0⟩:=fld hg hyl 0 rfl rfl rfl CN jo hw
 obtain ⟨_,h1,k1⟩:=fld hg hyl 1 rfl rfl rfl Cg jo hw
 obtain ⟨_,h2,k2⟩:=fld hg hyl 2 rfl rfl rfl Cf jo hw
 obtain ⟨_,h3,k3⟩:=fld hg hyl 3 rfl rfl rfl CN jo hw
 obtain ⟨_,h4,k4⟩:=fld hg hyl 4 rfl rfl rfl Fm jo hw
 obtain ⟨v0,s0,e0,r0,i0⟩:=CD k0 h0
 obtain ⟨v1,l1,e1,r1⟩:=BM k1 h1
 obtain ⟨v2,l2,e2,r2⟩:=BL k2 h2
 obtain ⟨v3,s3,e3,r3,i3⟩:=CD k3 h3
 obtain ⟨xs,g1,g2,g3⟩:=qP Tryz.underlying25 gd yT Fm h4
 obtain ⟨a,b,c,rfl⟩:=FJ g1
 cases e0;cases e1;cases e2;cases e3;cases g2
 exact ⟨⟨s0,l1,l2,s3,a,b,c⟩,⟨_,_,_,_,rfl,r0,r1,r2,r3⟩,trivial⟩
theorem rN(hv:Value.okWide Tryz.prog w r base 25 v)(h:DataW.Trod enc Tryz.prog w 0 sp held 25 v d p)(_:Wt Tryz.prog 25 d):∃x:Int×Int×Int,v= .agg #[I x.1,I x.2.1,I x.2.2]∧True:=by
 obtain ⟨cs,n,rfl,hn⟩:=AL Tryz.underlying25 hv h
 obtain ⟨xs,h1,rfl,h3⟩:=qP Tryz.underlying25 gd yT Fm hn
 obtain ⟨a,b,c,rfl⟩:=FJ h1
 exact ⟨⟨a,b,c⟩,rfl,trivial⟩
end
end Go.Proofs.YtddaejgfjlneoaaGreat
namespace Go.Proofs.YtddaejgfjlneoaaGreat
open Go.MW Go.ChangeShapes Go.WideShapes
set_option maxRecDepth 100000
section
variable{H:Type}{enc:TypeId×Value→H}{w:World}{sp:Nat→Bool}{held:Bool}{n:Nat}{cs:List Value}{y:DataW H×List MemPlace}{v:Value}{d:DataW H}{p:List MemPlace}{r:Reach}{base:Nat}
theorem s7(hv:Value.okWide Tryz.prog w r base 106 v)(h:DataW.Trod enc Tryz.prog w 0 sp held 106 v d p)(_:Wt Tryz.prog 106 d):∃x:Int×Int×Int×Int×Int,v= .agg #[I x.1,I x.2.1,I x.2.2.1,I x.2.2.2.1,I x.2.2.2.2]∧True:=by
 obtain ⟨cs,n,rfl,hn⟩:=AL Tryz.underlying106 hv h
 obtain ⟨xs,h1,rfl,h3⟩:=qP Tryz.underlying106 gd yT FK hn
 obtain ⟨a,b,c,d,e,rfl⟩:∃a b c d e,xs=[a,b,c,d,e]:=by match xs,h1 with|[a,b,c,d,e],_=>exact ⟨a,b,c,d,e,rfl⟩
 exact ⟨⟨a,b,c,d,e⟩,rfl,trivial⟩
end
end Go.Proofs.YtddaejgfjlneoaaGreat
namespace Go.Proofs.YtddaejgfjlneoaaGreat
theorem xb:Tryz.prog.make=some .cut:=by kernel_rfl
theorem um:Tryz.prog.mayEnter=true:=by kernel_rfl
theorem ui:Tryz.prog.liftsFinal=false:=by kernel_rfl
theorem xc:Tryz.prog.plainKeys=true:=by kernel_rfl
theorem qa:laidOutB Tryz.prog=true:=by kernel_rfl
theorem xa:mapsRowed Tryz.prog=true:=by kernel_rfl
theorem uk:Tryz.prog.stopsHeard=true:=by kernel_rfl
theorem uh:Tryz.prog.stops=[]:=by kernel_rfl
theorem uj:Tryz.prog.stopKnobs=[]:=by kernel_rfl
theorem eE{a b:Bool}(h:a=true)(k:b=true):(a&&b)=true:=by rw [h,k];rfl
theorem xd{α:Type}[BEq α][LawfulBEq α]{a b:α}(h:a=b):(a==b)=true:=by rw [h];exact beq_self_eq_true _
theorem AK:ownKnob Tryz.prog.godebug=none:=by kernel_rfl
end Go.Proofs.YtddaejgfjlneoaaGreat
namespace Go.Proofs.YtddaejgfjlneoaaGreat
open Go.MW
theorem mix:Tryz.prog.follows .mixedOrders=true:=by kernel_rfl
theorem mi:FA Tryz.prog 27 0 0:=by
 have h:=gE (k:=0) Cp rfl aB
 exact h
theorem fU:FA Tryz.prog 27 1 1:=by
 have h:=gE (k:=1) Cp rfl Tryz.sizeOf23
 exact h
theorem iO:FA Tryz.prog 27 2 2:=by
 have h:=gE (k:=2) Cp rfl Tryz.sizeOf24
 exact h
theorem mh:FA Tryz.prog 27 3 3:=by
 have h:=gE (k:=3) Cp rfl aB
 exact h
theorem oZ:FA Tryz.prog 29 0 0:=by
 have h:=gE (k:=0) Co rfl ai
 exact h
theorem ft:FA Tryz.prog 29 1 1:=by
 have h:=gE (k:=1) Co rfl ai
 exact h
theorem dO:FA Tryz.prog 29 2 2:=by
 have h:=gE (k:=2) Co rfl ai
 exact h
theorem kS:FA Tryz.prog 32 0 0:=by
 have h:=gE (k:=0) Tryz.runUnderlying32 rfl ai
 exact h
theorem kR:FA Tryz.prog 32 1 1:=by
 have h:=gE (k:=1) Tryz.runUnderlying32 rfl ai
 exact h
theorem sD:FA Tryz.prog 34 0 0:=by
 have h:=gE (k:=0) jH rfl ai
 exact h
theorem dh:FA Tryz.prog 34 1 1:=by
 have h:=gE (k:=1) jH rfl ai
 exact h
theorem bu:FA Tryz.prog 34 2 2:=by
 have h:=gE (k:=2) jH rfl aB
 exact h
theorem bn:FA Tryz.prog 34 3 3:=by
 have h:=gE (k:=3) jH rfl aB
 exact h
theorem eU:FA Tryz.prog 34 4 4:=by
 have h:=gE (k:=4) jH rfl Tryz.sizeOf32
 exact h
theorem aK:FA Tryz.prog 38 0 0:=by
 have h:=gE (k:=0) Cn rfl aE
 exact h
theorem aZ:FA Tryz.prog 38 1 6:=by
 have h:=gE (k:=1) Cn rfl jg
 exact h
theorem bT:FA Tryz.prog 38 2 7:=by
 have h:=gE (k:=2) Cn rfl pA
 exact h
theorem dt:FA Tryz.prog 44 0 0:=by
 have h:=gE (k:=0) dK rfl ai
 exact h
theorem dG:FA Tryz.prog 44 1 1:=by
 have h:=gE (k:=1) dK rfl ai
 exact h
theorem iU:FA Tryz.prog 49 0 0:=by
 have h:=gE (k:=0) fh rfl ai
 exact h
theorem gK:FA Tryz.prog 49 1 1:=by
 have h:=gE (k:=1) fh rfl ai
 exact h
theorem gh:FA Tryz.prog 63 0 0:=by
 have h:=gE (k:=0) Tryz.runUnderlying63 rfl Tryz.sizeOf61
 exact h
theorem bB:FA Tryz.prog 70 0 0:=by
 have h:=gE (k:=0) Tryz.runUnderlying70 rfl ai
 exact h
theorem bF:FA Tryz.prog 70 1 1:=by
 have h:=gE (k:=1) Tryz.runUnderlying70 rfl k7
 exact h
theorem eb:FA Tryz.prog 80 0 0:=by
 have h:=gE (k:=0) fg rfl ai
 exact h
theorem ea:FA Tryz.prog 80 1 1:=by
 have h:=gE (k:=1) fg rfl ai
 exact h
theorem dZ:FA Tryz.prog 80 2 2:=by
 have h:=gE (k:=2) fg rfl ai
 exact h
theorem dv:FA Tryz.prog 80 3 3:=by
 have h:=gE (k:=3) fg rfl ai
 exact h
theorem bR:FA Tryz.prog 80 4 4:=by
 have h:=gE (k:=4) fg rfl ai
 exact h
theorem dY:FA Tryz.prog 80 5 5:=by
 have h:=gE (k:=5) fg rfl ai
 exact h
theorem dX:FA Tryz.prog 80 6 6:=by
 have h:=gE (k:=6) fg rfl ai
 exact h
theorem eH:FA Tryz.prog 108 0 0:=by
 have h:=gE (k:=0) gq rfl ai
 exact h
theorem iX:FA Tryz.prog 108 1 1:=by
 have h:=gE (k:=1) gq rfl ai
 exact h
theorem iW:FA Tryz.prog 108 2 2:=by
 have h:=gE (k:=2) gq rfl ai
 exact h
theorem gM:FA Tryz.prog 108 3 3:=by
 have h:=gE (k:=3) gq rfl ai
 exact h
theorem iV:FA Tryz.prog 108 4 4:=by
 have h:=gE (k:=4) gq rfl ai
 exact h
theorem gL:FA Tryz.prog 108 5 5:=by
 have h:=gE (k:=5) gq rfl ai
 exact h
theorem mg:FA Tryz.prog 140 0 0:=by
 have h:=gE (k:=0) A1 rfl aC
 exact h
theorem mf:FA Tryz.prog 140 1 2:=by
 have h:=gE (k:=1) A1 rfl aB
 exact h
theorem iN:FA Tryz.prog 140 2 3:=by
 have h:=gE (k:=2) A1 rfl ai
 exact h
theorem cZ:FA Tryz.prog 158 0 0:=by
 have h:=gE (k:=0) A0 rfl ai
 exact h
theorem cI:FA Tryz.prog 158 1 1:=by
 have h:=gE (k:=1) A0 rfl ai
 exact h
theorem dN:FA Tryz.prog 158 2 2:=by
 have h:=gE (k:=2) A0 rfl ai
 exact h
theorem dH:FA Tryz.prog 160 0 0:=by
 have h:=gE (k:=0) ob rfl ai
 exact h
theorem dP:FA Tryz.prog 160 1 1:=by
 have h:=gE (k:=1) ob rfl ai
 exact h
theorem eV:FA Tryz.prog 160 2 2:=by
 have h:=gE (k:=2) ob rfl ai
 exact h
theorem iC:FA Tryz.prog 160 3 3:=by
 have h:=gE (k:=3) ob rfl ai
 exact h
theorem dd:FA Tryz.prog 172 0 0:=by
 have h:=gE (k:=0) AZ rfl an
 exact h
theorem eL:FA Tryz.prog 172 1 8:=by
 have h:=gE (k:=1) AZ rfl Tryz.sizeOf51
 exact h
theorem fK:FA Tryz.prog 172 2 9:=by
 have h:=gE (k:=2) AZ rfl k7
 exact h
theorem cP:FA Tryz.prog 189 0 0:=by
 have h:=gE (k:=0) oa rfl ai
 exact h
theorem c8:FA Tryz.prog 189 1 1:=by
 have h:=gE (k:=1) oa rfl ai
 exact h
theorem eu:FA Tryz.prog 189 2 2:=by
 have h:=gE (k:=2) oa rfl ai
 exact h
theorem dq:FA Tryz.prog 189 3 3:=by
 have h:=gE (k:=3) oa rfl ai
 exact h
theorem p9:FA Tryz.prog 231 0 0:=by
 have h:=gE (k:=0) AY rfl Tryz.sizeOf228
 exact h
theorem p8:FA Tryz.prog 231 1 1:=by
 have h:=gE (k:=1) AY rfl Tryz.sizeOf229
 exact h
theorem p6:FA Tryz.prog 231 2 2:=by
 have h:=gE (k:=2) AY rfl ai
 exact h
theorem cB:FA Tryz.prog 236 0 0:=by
 have h:=gE (k:=0) Tryz.runUnderlying236 rfl bw
 exact h
theorem eo:FA Tryz.prog 236 1 3:=by
 have h:=gE (k:=1) Tryz.runUnderlying236 rfl aE
 exact h
theorem ew:FA Tryz.prog 259 0 0:=by
 have h:=gE (k:=0) AX rfl aC
 exact h
theorem fV:FA Tryz.prog 259 1 2:=by
 have h:=gE (k:=1) AX rfl aB
 exact h
theorem dr:FA Tryz.prog 259 2 3:=by
 have h:=gE (k:=2) AX rfl aB
 exact h
theorem ng:FA Tryz.prog 294 0 0:=by
 have h:=gE (k:=0) Tryz.runUnderlying294 rfl aB
 exact h
theorem fD:FA Tryz.prog 300 0 0:=by
 have h:=gE (k:=0) Tryz.runUnderlying300 rfl ai
 exact h
theorem iD:FA Tryz.prog 300 1 1:=by
 have h:=gE (k:=1) Tryz.runUnderlying300 rfl ai
 exact h
theorem mm:sh Tryz.prog 29 [(0,1),(1,1),(2,1)] [.int .i64 0,.int .i64 0,.int .i64 0]:=kE xi rfl Co (by simp [Tryz.sizeOf3])
theorem qn:sh Tryz.prog 32 [(0,1),(1,1)] [.int .i64 0,.int .i64 0]:=kE Tryz.zeroValue32 rfl Tryz.runUnderlying32 (by simp [Tryz.sizeOf3])
theorem pw:sh Tryz.prog 34 [(0,1),(1,1),(2,1),(3,1),(4,2)] [.int .i64 0,.int .i64 0,.slice none 0 0,.slice none 0 0,.int .i64 0,.int .i64 0]:=kE im rfl jH (by simp [Tryz.sizeOf22,Tryz.sizeOf3,Tryz.sizeOf32])
theorem eW:sh Tryz.prog 38 [(0,6),(6,1),(7,1)] [.int .i64 0,.int .i64 0,.slice none 0 0,.slice none 0 0,.int .i64 0,.int .i64 0,.slice none 0 0,.slice none 0 0]:=kE bK rfl Cn (by simp [Tryz.sizeOf34,Tryz.sizeOf35,Tryz.sizeOf36])
theorem cE:sh Tryz.prog 44 [(0,1),(1,1)] [.int .i64 0,.int .i64 0]:=kE cz rfl dK (by simp [Tryz.sizeOf3])
theorem fb:sh Tryz.prog 49 [(0,1),(1,1)] [.int .i64 0,.int .i64 0]:=kE kj rfl fh (by simp [Tryz.sizeOf3])
theorem vX:sh Tryz.prog 63 [(0,1)] [.slice none 0 0]:=kE Tryz.zeroValue63 rfl Tryz.runUnderlying63 (by simp [Tryz.sizeOf61])
theorem iF:sh Tryz.prog 70 [(0,1),(1,1)] [.int .i64 0,.slice none 0 0]:=kE cu rfl Tryz.runUnderlying70 (by simp [Tryz.sizeOf3,Tryz.sizeOf68])
theorem bU:sh Tryz.prog 80 [(0,1),(1,1),(2,1),(3,1),(4,1),(5,1),(6,1)] [.int .i64 0,.int .i64 0,.int .i64 0,.int .i64 0,.int .i64 0,.int .i64 0,.int .i64 0]:=kE bH rfl fg (by simp [Tryz.sizeOf3])
theorem jC:sh Tryz.prog 108 [(0,1),(1,1),(2,1),(3,1),(4,1),(5,1)] [.int .i64 0,.int .i64 0,.int .i64 0,.int .i64 0,.int .i64 0,.int .i64 0]:=kE fB rfl gq (by simp [Tryz.sizeOf3])
theorem e7:sh Tryz.prog 140 [(0,2),(2,1),(3,1)] [.int .i64 0,.slice none 0 0,.slice none 0 0,.int .i64 0]:=kE uM rfl A1 (by simp [Tryz.sizeOf22,Tryz.sizeOf3,Tryz.sizeOf70])
theorem pv:sh Tryz.prog 158 [(0,1),(1,1),(2,1)] [.int .i64 0,.int .i64 0,.int .i64 0]:=kE jn rfl A0 (by simp [Tryz.sizeOf3])
theorem dQ:sh Tryz.prog 160 [(0,1),(1,1),(2,1),(3,1)] [.int .i64 0,.int .i64 0,.int .i64 0,.int .i64 0]:=kE dF rfl ob (by simp [Tryz.sizeOf3])
theorem kD:sh Tryz.prog 172 [(0,8),(8,1),(9,1)] [.int .i64 0,.int .i64 0,.slice none 0 0,.slice none 0 0,.int .i64 0,.int .i64 0,.slice none 0 0,.slice none 0 0,.slice none 0 0,.slice none 0 0]:=kE Tryz.zeroValue172 rfl AZ (by simp [Tryz.sizeOf38,Tryz.sizeOf51,Tryz.sizeOf68])
theorem nh:sh Tryz.prog 189 [(0,1),(1,1),(2,1),(3,1)] [.int .i64 0,.int .i64 0,.int .i64 0,.int .i64 0]:=kE dE rfl oa (by simp [Tryz.sizeOf3])
theorem gQ:sh Tryz.prog 231 [(0,1),(1,1),(2,1)] [.nilFunc,.nilFunc,.int .i64 0]:=kE Fy rfl AY (by simp [Tryz.sizeOf228,Tryz.sizeOf229,Tryz.sizeOf3])
theorem qK:sh Tryz.prog 236 [(0,3),(3,6)] [.int .i64 0,.int .i64 0,.int .i64 0,.int .i64 0,.int .i64 0,.slice none 0 0,.slice none 0 0,.int .i64 0,.int .i64 0]:=kE Tryz.zeroValue236 rfl Tryz.runUnderlying236 (by simp [Tryz.sizeOf29,Tryz.sizeOf34])
theorem ni:sh Tryz.prog 259 [(0,2),(2,1),(3,1)] [.int .i64 0,.slice none 0 0,.slice none 0 0,.slice none 0 0]:=kE Tryz.zeroValue259 rfl AX (by simp [Tryz.sizeOf22,Tryz.sizeOf70])
theorem uw:sh Tryz.prog 294 [(0,1)] [.slice none 0 0]:=kE Tryz.zeroValue294 rfl Tryz.runUnderlying294 (by simp [Tryz.sizeOf22])
theorem ux:sh Tryz.prog 300 [(0,1),(1,1)] [.int .i64 0,.int .i64 0]:=kE Tryz.zeroValue300 rfl Tryz.runUnderlying300 (by simp [Tryz.sizeOf3])
theorem ml:uL Tryz.prog 22 0 1 []:=mV ad ai bM fG au
theorem bY:uL Tryz.prog 22 1 1 [.int .i64 0]:=mV ad ai bM fG au
theorem gZ:uL Tryz.prog 22 2 1 [.int .i64 0,.int .i64 0]:=mV ad ai bM fG au
theorem vW:uL Tryz.prog 22 3 1 [.int .i64 0,.int .i64 0,.int .i64 0]:=mV ad ai bM fG au
theorem je:uL Tryz.prog 35 0 7 []:=mV aF aD bH fG au
theorem eZ:uL Tryz.prog 35 1 7 [.int .i64 0,.int .i64 0,.int .i64 0,.int .i64 0,.int .i64 0,.int .i64 0,.int .i64 0]:=mV aF aD bH fG au
theorem mU:uL Tryz.prog 35 4 7 [.int .i64 0,.int .i64 0,.int .i64 0,.int .i64 0,.int .i64 0,.int .i64 0,.int .i64 0,.int .i64 0,.int .i64 0,.int .i64 0,.int .i64 0,.int .i64 0,.int .i64 0,.int .i64 0,.int .i64 0,.int .i64 0,.int .i64 0,.int .i64 0,.int .i64 0,.int .i64 0,.int .i64 0,.int .i64 0,.int .i64 0,.int .i64 0,.int .i64 0,.int .i64 0,.int .i64 0,.int .i64 0]:=mV aF aD bH fG au
theorem jf:uL Tryz.prog 36 0 6 []:=mV bk bG fB fG au
theorem gC:uL Tryz.prog 36 1 6 [.int .i64 0,.int .i64 0,.int .i64 0,.int .i64 0,.int .i64 0,.int .i64 0]:=mV bk bG fB fG au
theorem eY:uL Tryz.prog 51 1 2 [.int .i64 0,.int .i64 0]:=mV aP bq kj fG au
theorem sI:uL Tryz.prog 61 1 1 [.slice none 0 0]:=mV aA aB dA fG au
theorem sH:uL Tryz.prog 61 2 1 [.slice none 0 0,.slice none 0 0]:=mV aA aB dA fG au
theorem pq:uL Tryz.prog 68 1 4 [.int .i64 0,.int .i64 0,.int .i64 0,.int .i64 0]:=mV aN bj dF fG au
theorem eO:uL Tryz.prog 68 2 4 [.int .i64 0,.int .i64 0,.int .i64 0,.int .i64 0,.int .i64 0,.int .i64 0,.int .i64 0,.int .i64 0]:=mV aN bj dF fG au
theorem nP:uL Tryz.prog 182 1 4 [.int .i64 0,.int .i64 0,.int .i64 0,.int .i64 0]:=mV az aH dE fG au
theorem uv:uL Tryz.prog 223 6 1 [.nilFunc,.nilFunc,.nilFunc,.nilFunc,.nilFunc,.nilFunc]:=mV Tryz.runUnderlying223 Tryz.sizeOf1 Tryz.zeroValue1 fG au
theorem bN:Cm Tryz.prog 22 22 3 1 8:=⟨ad,ad,ai,⟨_,ff,rfl,by decide⟩,⟨_,bM,rfl⟩⟩
theorem cn:Cm Tryz.prog 35 35 80 7 56:=⟨aF,aF,aD,⟨_,Tryz.typeInfo80,rfl,by decide⟩,⟨_,bH,rfl⟩⟩
theorem dn:Cm Tryz.prog 36 36 108 6 48:=⟨bk,bk,bG,⟨_,Tryz.typeInfo108,rfl,by decide⟩,⟨_,fB,rfl⟩⟩
theorem dm:Cm Tryz.prog 51 51 49 2 16:=⟨aP,aP,bq,⟨_,Tryz.typeInfo49,rfl,by decide⟩,⟨_,kj,rfl⟩⟩
theorem nQ:Cm Tryz.prog 61 61 22 1 24:=⟨aA,aA,aB,⟨_,Tryz.typeInfo22,rfl,by decide⟩,⟨_,dA,rfl⟩⟩
theorem bO:Cm Tryz.prog 68 68 160 4 32:=⟨aN,aN,bj,⟨_,Tryz.typeInfo160,rfl,by decide⟩,⟨_,dF,rfl⟩⟩
theorem jj:Cm Tryz.prog 182 182 189 4 32:=⟨az,az,aH,⟨_,xk,rfl,by decide⟩,⟨_,dE,rfl⟩⟩
end Go.Proofs.YtddaejgfjlneoaaGreat
namespace Go.Proofs.YtddaejgfjlneoaaGreat
open Go.MW
variable{H:bP}{w:World}{σ:List Ent}
theorem dD{a0 a1 a2:Int}(hs:St H w σ):Cl Tryz.prog 161 [I a0,I a1,I a2] w fun v w'=>v= .bool (decide (a1≤a0∧a0≤a2))∧St H w' σ:=by
 refine Cl.o Tryz.func161 Tryz.ntmps161 ag3 ?_
 refine .af (.z zg (.nil (.af (.z zm (.z zm (.z wv (.z zm ?_)))))))
 refine .kf (t':=10) rfl (fun hb10=>?_) (fun hb10=>?_)
 ·refine .gT rfl rfl ?_
  refine .z zm ?_
  refine .gT rfl rfl ?_
  refine .z zm ?_
  refine .gT rfl rfl ?_
  refine .z wv (.z zpT (.z zg (.nil ?_)))
  refine .ret (Fin.bI Tryz.results161 rfl ?_)
  exact ⟨by simp [*],hs.out⟩
 ·refine .gFs 3 3 true rfl rfl rfl ?_
  refine .z zpF (.z zg (.nil ?_))
  refine .ret (Fin.bI Tryz.results161 rfl ?_)
  exact ⟨by simp [*],hs.out⟩
theorem ph{many:Int}{l:Lim}(hs:St H w σ):Cl Tryz.prog 202 [I many,.agg l.c.toArray] w fun v w'=>v= .bool (l.ok many)∧St H w' σ:=by
 refine Cl.o Tryz.func202 Tryz.ntmps202 ag2 ?_
 refine .af ?_
 refine .bx hs fun b3 w hs=>?_
 refine .z zg (.nil (.af (.z (zfa dH) (.y hs (zld ae) (.z zm ?_)))))
 refine .o (.call m7 rfl (dD hs) ?_);rintro _ w ⟨rfl,hs⟩
 refine .z zm ?_
 refine .bif (t':=9) rfl (fun hb9=>?_) (fun hb9=>?_)
 ·refine .gT rfl rfl ?_
  refine .z (zfa dP) ?_
  refine .gT rfl rfl ?_
  refine .y hs (zld ae) ?_
  refine .gT rfl rfl ?_
  refine .z zm ?_
  refine .gT rfl rfl ?_
  refine .o (.call m7 rfl (dD hs) ?_);rintro _ w ⟨rfl,hs⟩
  refine .z zpT (.z zm ?_)
  refine .bif (t':=15) rfl (fun hb15=>?_) (fun hb15=>?_)
  ·refine .gT rfl rfl ?_
   refine .z (zfa dH) ?_
   refine .gT rfl rfl ?_
   refine .y hs (zld ae) ?_
   refine .gT rfl rfl ?_
   refine .z (zfa dP) ?_
   refine .gT rfl rfl ?_
   refine .y hs (zld ae) ?_
   refine .gT rfl rfl ?_
   refine .z fM (.z zpT (.z zm ?_))
   refine .yU (t':=22) rfl (fun hb22=>?_) (fun hb22=>?_)
   ·refine .gT rfl rfl ?_
    refine .z (zfa eV) ?_
    refine .gT rfl rfl ?_
    refine .y hs (zld ae) ?_
    refine .gT rfl rfl ?_
    refine .o (.call m7 rfl (dD hs) ?_);rintro _ w ⟨rfl,hs⟩
    refine .z zpT (.z zm ?_)
    refine .bif (t':=27) rfl (fun hb27=>?_) (fun hb27=>?_)
    ·refine .gT rfl rfl ?_
     refine .z (zfa iC) ?_
     refine .gT rfl rfl ?_
     refine .y hs (zld ae) ?_
     refine .gT rfl rfl ?_
     refine .o (.call m7 rfl (dD hs) ?_);rintro _ w ⟨rfl,hs⟩
     refine .z zpT (.z zg (.nil ?_))
     refine .ret (Fin.bI zi rfl ?_)
     exact ⟨by simp [Lim.ok, *],hs.out⟩
    ·refine .gFs 3 22 true rfl rfl rfl ?_
     refine .z zpF (.z zg (.nil ?_))
     refine .ret (Fin.bI zi rfl ?_)
     exact ⟨by simp [Lim.ok, *],hs.out⟩
   ·refine .gFs 3 17 true rfl rfl rfl ?_
    refine .z zpF (.z zm ?_)
    refine .gFs 3 22 true rfl rfl rfl ?_
    refine .z zpF (.z zg (.nil ?_))
    refine .ret (Fin.bI zi rfl ?_)
    exact ⟨by simp [Lim.ok, *],hs.out⟩
  ·refine .gFs 5 10 true rfl rfl rfl ?_
   refine .z zpF (.z zm ?_)
   refine .gFs 3 17 true rfl rfl rfl ?_
   refine .z zpF (.z zm ?_)
   refine .gFs 3 22 true rfl rfl rfl ?_
   refine .z zpF (.z zg (.nil ?_))
   refine .ret (Fin.bI zi rfl ?_)
   exact ⟨by simp [Lim.ok, *],hs.out⟩
 ·refine .gFs 4 4 true rfl rfl rfl ?_
  refine .z zpF (.z zm ?_)
  refine .gFs 5 10 true rfl rfl rfl ?_
  refine .z zpF (.z zm ?_)
  refine .gFs 3 17 true rfl rfl rfl ?_
  refine .z zpF (.z zm ?_)
  refine .gFs 3 22 true rfl rfl rfl ?_
  refine .z zpF (.z zg (.nil ?_))
  refine .ret (Fin.bI zi rfl ?_)
  exact ⟨by simp [Lim.ok, *],hs.out⟩
theorem uE{v:Value}{ls:List Lim}{g:Nat}{cap:List Value}{p:Lim→Bool}(hs:St H w σ)(hr:RL H v ls)
  (hc:∀args w,(callFunc g args).run Tryz.prog w= .ok (.enter g args) w) (hp:∀w l,St H w σ→Cl Tryz.prog g ([.agg l.c.toArray]++cap) w fun u w'=>u= .bool (p l)∧St H w' σ):
  Cl Tryz.prog 252 [v,.func (.func g) #[] cap.toArray] w fun u w'=>u=I (match ls.findIdx? p with|some k=>(k:Int)|none=> -1)∧St H w' σ:=by
 obtain ⟨a,c,rfl⟩:=RS.shape hr
 have hl:=(RS.len hr).2.2
 refine Cl.o Tryz.func252 Tryz.ntmps252 ag2 ?_
 refine .af (.z zg (.nil (.seq (.af (.z zm ?_)))))
 refine .q hs (zN hr rfl aN) ?_
 refine .z zm (.nil ?_)
 refine .for (N:=(ls.map Lim.c).length) (J:=fun k fr w=>fr=[(1,.func (.func g) #[] cap.toArray),(0,.slice a (ls.map Lim.c).length c)]∧St H w σ∧∀j<k,∀l,ls[j]? =some l→p l=false) aj ?_ ?_ ?_
 ·exact .mk ⟨rfl,hs,fun j hj=>by omega⟩
 ·rintro k fr w hk ⟨rfl,hs,hno⟩
  obtain ⟨l,hl⟩:=nth (l:=ls) (by simpa using hk)
  refine .block (.af (.z zm (.z zg (.nil (.af (.z zm (.z zm (.z zm ?_))))))))
  refine .ixX hs hr rfl rfl aN bj hl rfl ?_;intro b14 o14 hc14
  refine .y hs (zls [_,_,_,_] eC bj) ?_
  refine .o (.kT (first:=[]) rfl rfl hc (hp _ _ hs) ?_);rintro _ w ⟨rfl,hs⟩
  refine .nil ?_
  refine (.cond rfl (fun hc16=>?_) (fun hc16=>?_))
  ·refine .af (.z zm (.z zg (.nil ?_)))
   refine .ret (rB (rT (rB (rT (Fin.bI Tryz.results252 rfl ?_)))))
   exact ⟨by rw [rY hl hc16 hno],hs⟩
  ·refine .skip ?_
   refine nB (nT ?_)
   exact .mk ⟨rfl,hs,ed hno hl hc16⟩
 ·rintro fr w ⟨rfl,hs,hno⟩
  refine nT ?_
  refine .af (.z zg (.nil ?_))
  refine .ret (Fin.bI Tryz.results252 rfl ?_)
  exact ⟨by rw [ql (by simpa using hno)],hs⟩
theorem qM{v:Value}{ls:List Lim}{g:Nat}{cap:List Value}{p:Lim→Bool}(hs:St H w σ)(hr:RL H v ls)
  (hc:∀args w,(callFunc g args).run Tryz.prog w= .ok (.enter g args) w) (hp:∀w l,St H w σ→Cl Tryz.prog g ([.agg l.c.toArray]++cap) w fun u w'=>u= .bool (p l)∧St H w' σ):
  Cl Tryz.prog 200 [v,.func (.func g) #[] cap.toArray] w fun u w'=>u= .bool (ls.any p)∧St H w' σ:=by
 refine Cl.o Tryz.func200 Tryz.ntmps200 ag2 ?_
 refine .af (.z zg (.nil (.af (.z zm (.z zm ?_)))))
 refine .o (.call Tryz.call252 rfl (uE hs hr hc hp) ?_);rintro _ w ⟨rfl,hs⟩
 refine .z zk (.z zg (.nil ?_))
 refine .ret (Fin.bI Tryz.results200 rfl ?_)
 exact ⟨by rw [xe];cases ls.findIdx? p<;>simp<;>omega,hs⟩
theorem uu{b:Nat}{many:Int}{v:Value}{l:Lim}(hs:St H w σ)(hm:Mem σ (.blk b [I many,v])):Cl Tryz.prog 201 [.agg l.c.toArray,.pointer (some ⟨b,0,none⟩)] w fun v w'=>v= .bool (!l.ok many)∧St H w' σ:=by
 refine Cl.o Tryz.func201 Tryz.ntmps201 ag2 ?_
 refine .af ?_
 refine .bx hs fun b2 w hs=>?_
 refine .z zg (.nil (.af (.z (zfa bB) ?_)))
 refine .q hs (fR rfl ae (.there hm) rfl) ?_
 refine .q hs (gU (vs:=l.c) rfl eC bj) ?_
 refine .o (.call Tryz.call202 rfl (ph hs) ?_);rintro _ w ⟨rfl,hs⟩
 refine .z iq (.z zg (.nil ?_))
 refine .ret (Fin.bI Tryz.results201 rfl ?_)
 exact ⟨rfl,hs.out⟩
theorem gP{v:Value}{s:cq}(hs:St H w σ)(hr:RSy H v s):Cl Tryz.prog 125 [v] w fun v w'=>v=I s.check∧St H w' σ:=by
 obtain ⟨u,rfl,hr⟩:=hr
 obtain ⟨a,c,rfl⟩:=RS.shape hr
 refine Cl.o Tryz.func125 Tryz.ntmps125 ag1 ?_
 refine .af ?_
 refine .bx hs fun b1 w hs=>?_
 refine .z zg (.nil (.seq (.block (.af (.z (zfa bB) (.y hs (zld ae) ?_))))))
 refine .o (.call m7 rfl (dD hs) ?_);rintro _ w ⟨rfl,hs⟩
 refine .z iq (.z zg (.nil ?_))
 refine (.cond rfl (fun hc3=>?_) (fun hc3=>?_))
 ·refine .af (.z zg (.nil ?_))
  refine .ret (rB (rT (Fin.bI Tryz.results125 rfl ?_)))
  exact ⟨congrArg I (by unfold cq.check;(repeat' split)<;>simp_all<;>omega),hs.out⟩
 ·refine .af (.z (zfa bF) (.y hs (zld cA) ?_))
  refine .q hs (zN hr rfl aN) ?_
  refine .z od (.z zg (.nil ?_))
  refine (.ck rfl (fun hc8=>?_) (fun hc8=>?_))
  ·refine .af (.z zg (.nil ?_))
   refine .ret (rB (rT (Fin.bI Tryz.results125 rfl ?_)))
   exact ⟨congrArg I (by unfold cq.check;(repeat' split)<;>simp_all<;>omega),hs.out⟩
  ·refine .af (.z (zfa bF) (.y hs (zld cA) ?_))
   refine .q hs (cU (f:=[]) (c:=[_]) rfl rfl) ?_
   refine .o (.call Tryz.call200 rfl (qM (p:=fun l=> !l.ok s.many) hs hr Tryz.call201 (fun w l hs=>uu hs .here)) ?_);rintro _ w ⟨rfl,hs⟩
   refine .z zg (.nil ?_)
   refine (.cond rfl (fun hc13=>?_) (fun hc13=>?_))
   ·refine .af (.z zg (.nil ?_))
    refine .ret (rB (rT (Fin.bI Tryz.results125 rfl ?_)))
    exact ⟨congrArg I (by unfold cq.check;(repeat' split)<;>simp_all<;>omega),hs.out⟩
   ·refine .skip ?_
    refine nB (nT ?_)
    refine .af (.z zg (.nil ?_))
    refine .ret (Fin.bI Tryz.results125 rfl ?_)
    exact ⟨congrArg I (by unfold cq.check;(repeat' split)<;>simp_all<;>omega),hs.out⟩
theorem pc{H:bP}{b:Nat}{s:cq}{u:Value}(hok:s.Ok)(hb:Row H b [I s.many,u])(hr:RL H u s.bV):ItA Tryz.prog 203 [.pointer (some ⟨b,0,none⟩)] H s.cK:=by
 intro l II Ix _ _ hy H0 σb0 σf w hle hI0 hs
 obtain ⟨a,c,rfl⟩:=RS.shape hr
 have hb1:cellAt H0 b 1=some (.slice a (s.bV.map Lim.c).length c):=cellAt.mono (by rw [hb.cell];rfl) hle
 have hlen:=hok.len
 refine Cl.o Tryz.func203 Tryz.ntmps203 ag2 ?_
 refine .af (.z (zfa bF) (.y hs (zld cA) ?_))
 refine .q hs (zN (hr.mono hle) rfl aN) ?_
 refine .z zm (.nil ?_)
 refine .for (N:=(s.bV.map Lim.c).length) (J:=fun k fr w=>fr=[(6,.slice a (s.bV.map Lim.c).length c),(0,.func (.yield l) #[] #[])]∧∃H1 σb,HLe H H1∧HLe H0 H1∧II k H1 σb∧St H1 w (σb++σf)) (by simp;omega) ?_ ?_ ?_
 ·exact .mk ⟨rfl,H0,σb0,hle,HLe.refl _,hI0,hs⟩
 ·rintro k fr w hk ⟨rfl,H1,σb,hle1,hle0,hI,hs⟩
  obtain ⟨x,hx⟩:=nth (l:=s.bV) (by simpa using hk)
  obtain ⟨hA,hB,_⟩:=hok.arc (List.mem_of_getElem? hx) k
  refine .block (.af (.z zm ?_))
  refine .ixX hs (hr.mono hle1) rfl rfl aN bj hx rfl ?_;intro b11 o11 hc11
  refine .q hs (cd (vs:=x.c) rfl eC bj hc11) ?_
  refine .o (.alloc hs dF rfl fun b4 w hs=>?_)
  refine .z zg ?_
  refine .o (.aO (vs:=x.c) hs rfl rfl bj fun w hs=>?_)
  refine .nil (.af (.z zm (.z (zfa dH) (.y hs (zld ae) (.z (zfa dP) (.y hs (zld ae) (.z (zfa eV) (.y hs (zld ae) (.z zm ?_)))))))))
  refine .z (zbd [_,_,_,_] nh) ?_
  have hk':k<(s.cK.map fun x=>[Value.agg x.v.toArray]).length:=by simp [cq.cK,dR];simpa using hk
  have hxk:(s.cK.map fun x=>[Value.agg x.v.toArray])[k]=[.agg (x.arc k).v.toArray]:=by
   have:=jm hx
   rw [List.getElem_map];rw [List.getElem?_eq_some_iff] at this;obtain ⟨h1,h2⟩:=this;simp only [cq.cK];rw [h2]
  have hyd:=hy k hk' H1 σb σf w hle1 hI hs.tail
  rw [hxk] at hyd
  refine .o (.yield (vs:=[.agg (x.arc k).v.toArray]) rfl (by simp [Arc.v,hA,hB];rfl) hyd ?_);rintro v22 w ⟨H2,σ2,g1,hs,g3⟩
  obtain ⟨bb,rfl,gT,gF⟩:=np g3
  refine .z iq (.nil ?_)
  refine (.cond rfl (fun hc23=>?_) (fun hc23=>?_))
  ·refine .ret (rB (rT (rB (Fin.Ec Tryz.results203 ?_))))
   exact ⟨H2,σ2,hle0.trans g1,hs,.inr (gF (by simpa using hc23))⟩
  ·refine .skip ?_
   refine nB (nT ?_)
   exact .mk ⟨rfl,H2,σ2,hle1.trans g1,hle0.trans g1,gT (by simpa using hc23),hs⟩
 ·rintro fr w ⟨rfl,H1,σb,hle1,hle0,hI,hs⟩
  exact Fin.wm Tryz.results203 ⟨H1,σb,hle0,hs,.inl (by simpa [cq.cK,dR] using hI)⟩
theorem ja{v:Value}{s:cq}(hs:St H w σ)(hok:s.Ok)(hr:RSy H v s):
  Cl Tryz.prog 127 [v] w fun v w'=>∃H1 b,HLe H H1∧v= .func (.func 203) #[] #[.pointer (some ⟨b,0,none⟩)]∧ItA Tryz.prog 203 [.pointer (some ⟨b,0,none⟩)] H1 s.cK∧St H1 w' σ:=by
 obtain ⟨u,rfl,hr⟩:=hr
 refine Cl.o Tryz.func127 Tryz.ntmps127 ag1 ?_
 refine .af ?_
 refine .bx hs fun b1 w hs=>?_
 refine .z zg (.nil (.af ?_))
 refine .q hs (cU (f:=[]) (c:=[_]) rfl rfl) ?_
 refine .z zg (.nil ?_)
 refine .ret (Fin.bI Tryz.results127 rfl ?_)
 obtain ⟨H1,g1,g2,hs⟩:=hs.cf .here
 exact ⟨H1,b1,g1,rfl,pc hok g2 (hr.mono g1),hs⟩
theorem ic{N gf:Nat}{ar:List Arc}{cap:List Value}(hs:St H w σ)(hN:N≤64)(hok:lk ar (N+1))(hit:ItA Tryz.prog gf cap H ar)(hc:∀args w,(callFunc gf args).run Tryz.prog w= .ok (.enter gf args) w):
  Cl Tryz.prog 126 [I N,.func (.func gf) #[] cap.toArray] w fun v w'=>∃H1 bc bb s ov vo,HLe H H1∧v= .tuple #[.slice (some ⟨bc,0,none⟩) (N+1) (N+1),.slice (some ⟨bb,0,none⟩) (N+1) (N+1),vo]∧OvR H1 vo ov∧EN (N+1) ar s ov∧St H1 w' (.blk bc (Is s.cost):: .blk bb (ij s.by_)::σ):=by
 refine Cl.o Tryz.func126 Tryz.ntmps126 ag2 ?_
 refine .af ?_
 refine .o (.alloc hs dA rfl fun b4 w hs=>?_)
 refine .o (.alloc hs Tryz.zeroValue182 rfl fun b5 w hs=>?_)
 refine .o (.alloc hs Tryz.zeroValue183 rfl fun b6 w hs=>?_)
 refine .nil ?_
 refine .cut (fun fs w=>∃bc bb,mE fs ⟨70,[],[(1,.func (.func gf) #[] cap.toArray),(0,I N),(4,.pointer (some ⟨b4,0,none⟩)),(5,.pointer (some ⟨b5,0,none⟩)),(6,.pointer (some ⟨b6,0,none⟩))]⟩∧St H w (.blk b4 [.slice (some ⟨bc,0,none⟩) (N+1) (N+1)]:: .blk b5 [.slice (some ⟨bb,0,none⟩) (N+1) (N+1)]:: .blk b6 [.pointer none]:: .blk bc (Is (List.replicate (N+1) 0)):: .blk bb (ij (wQ (N+1) 0))::σ)) ?_ ?_
 ·refine .draw mix rfl hs fun w hs=>?_
  refine .z 0 rfl zm ?_;refine .z 1 rfl cC ?_;refine .z 3 rfl zm ?_;refine .z 4 rfl cC ?_
  refine .e2 (i:=2) (j:=5) au rfl rfl rfl rfl .none .none hs ?_ ?_
  ·refine .sz (N+1) hs rfl rfl ad ff rfl ai bM aj ?_;intro b11 w hs
   refine .go ?_
   refine .e2 (i:=5) (j:=6) au rfl rfl rfl rfl .none .none hs ?_ ?_
   ·refine .BQ (N+1) hs rfl rfl az xk rfl aH dE aj ?_;intro b14 w hs
    refine .go ?_
    refine .E 6 hs ?_
    refine .store hs rfl rfl aB ?_;intro w hs
    refine .go ?_
    refine .E 7 hs ?_
    refine .store hs rfl rfl sK ?_;intro w hs
    refine .go ?_
    refine .D hs ?_
    exact nT ⟨b11,b14,bD,hs.sb⟩
   ·refine .store hs rfl rfl aB ?_;intro w hs
    refine .go ?_
    refine .E 5 hs ?_
    refine .BQ (N+1) hs rfl rfl az xk rfl aH dE aj ?_;intro b14 w hs
    refine .go ?_
    refine .E 7 hs ?_
    refine .store hs rfl rfl sK ?_;intro w hs
    refine .go ?_
    refine .D hs ?_
    exact nT ⟨b11,b14,bD,hs.sb⟩
  ·refine .BQ (N+1) hs rfl rfl az xk rfl aH dE aj ?_;intro b14 w hs
   refine .go ?_
   refine .E 2 hs ?_
   refine .sz (N+1) hs rfl rfl ad ff rfl ai bM aj ?_;intro b11 w hs
   refine .go ?_
   refine .E 6 hs ?_
   refine .store hs rfl rfl aB ?_;intro w hs
   refine .go ?_
   refine .E 7 hs ?_
   refine .store hs rfl rfl sK ?_;intro w hs
   refine .go ?_
   refine .D hs ?_
   exact nT ⟨b11,b14,bD,hs.sb⟩
 ·rintro s w ⟨bc,bb,hfs,hs⟩
  refine WE.sub ?_ hfs
  refine .seq (.af (.y hs (zld eA) (.z (c9 az) (.z zm (.nil ?_)))))
  refine .for (N:=N+1) (J:=fun k fr w=>fr=[(1,.func (.func gf) #[] cap.toArray),(0,I N),(4,.pointer (some ⟨b4,0,none⟩)),(5,.pointer (some ⟨b5,0,none⟩)),(6,.pointer (some ⟨b6,0,none⟩))]∧St H w (.blk b4 [.slice (some ⟨bc,0,none⟩) (N+1) (N+1)]:: .blk b5 [.slice (some ⟨bb,0,none⟩) (N+1) (N+1)]:: .blk b6 [.pointer none]:: .blk bc (Is (List.replicate (N+1) 0)):: .blk bb (ij (wQ (N+1) k))::σ)) aj ?_ ?_ ?_
  ·exact .mk ⟨rfl,hs⟩
  ·rintro k fr w hk ⟨rfl,hs⟩
   have hkl:k<(wQ (N+1) k).length:=by rw [wP aj];exact hk
   refine .block (.af (.z zm (.z zg (.nil (.region (.y hs (zld eA) (.z zm ?_)))))))
   first|(refine .ixw hs az aH ?_;intro b22 o22 hc22)|refine .z (sO az aH) ?_
   refine .z (zfa dq) ?_
   refine .o (.store hs rfl rfl ai ?_ dw (yb hkl aj) ((wg hkl _).trans (congrArg ij (BO hk))));intro w hs
   refine .nil ?_
   refine nB (nT ?_)
   exact .mk ⟨rfl,hs⟩
  ·rintro fr w ⟨rfl,hs⟩
   refine nT ?_
   refine .seq (.af (.z zm (.z cC (.z zm (.nil ?_)))))
   refine .forD (N:=N+2) (J:=fun r ds fr w=>fr=[(1,.func (.func gf) #[] cap.toArray),(0,I N),(4,.pointer (some ⟨b4,0,none⟩)),(5,.pointer (some ⟨b5,0,none⟩)),(6,.pointer (some ⟨b6,0,none⟩))]∧∃Ds H1 s vo,ds=marks Ds∧HLe H H1∧sr (N+1) ar r 0 none s∧(r=0∨∃x,OvR H1 vo (some x)∧sr (N+1) ar (r - 1) ar.length (some x) s)∧St H1 w (.blk b4 [.slice (some ⟨bc,0,none⟩) (N+1) (N+1)]:: .blk b5 [.slice (some ⟨bb,0,none⟩) (N+1) (N+1)]:: .blk b6 [vo]:: .blk bc (Is s.cost):: .blk bb (ij s.by_)::(mes Ds++σ))) aj ?_ ?_ ?_
   ·exact .mk (ds:=[]) ⟨rfl,[],H,⟨List.replicate (N+1) 0,List.replicate (N+1) ⟨0,0,0,-1⟩⟩,_,rfl,HLe.refl _,sr.init aj,.inl rfl,by rw [Ad] at hs;exact hs⟩
   ·rintro r ds fr w hr ⟨rfl,Ds,H1,s,vo,rfl,hle1,hN0,-,hs⟩
    refine .block (.af ?_)
    refine .o (.store hs rfl rfl Tryz.sizeOf183 fun w hs=>?_)
    refine .nil (.seq (.af (.z zm (.nil (.block ?_)))))
    refine .rangeFunc (gf:=gf) (cap:=cap) (xs:=ar.map fun x=>[.agg x.v.toArray]) (σb:=[.blk b4 [.slice (some ⟨bc,0,none⟩) (N+1) (N+1)],.blk b5 [.slice (some ⟨bb,0,none⟩) (N+1) (N+1)],.blk b6 [.pointer none],.blk bc (Is s.cost),.blk bb (ij s.by_)]) (σf:=mes Ds++σ) hs trivial rfl (hit.mono hle1) hc cm rfl
     (I:=fun k H' σb=>∃s ov vo,σb=[.blk b4 [.slice (some ⟨bc,0,none⟩) (N+1) (N+1)],.blk b5 [.slice (some ⟨bb,0,none⟩) (N+1) (N+1)],.blk b6 [vo],.blk bc (Is s.cost),.blk bb (ij s.by_)]∧OvR H' vo ov∧sr (N+1) ar r k ov s) (Ix:=fun _ _ _=>False) (by rintro k _ _ σ g1 ⟨s,ov,vo,g2,g3,g4⟩;exact ⟨s,ov,vo,g2,g3.mono g1,g4⟩) (fun _ _ _ _ _ h=>h)
     ⟨s,none,_,rfl,rfl,hN0⟩ ?_ ?_ (fun D c H' σb w _ h _=>h.elim)
    ·rintro l k hk H2 σb2 σf2 w hle2 ⟨s,ov,vo,rfl,hov,hN⟩ hs ⟨rr,hrr⟩
     obtain ⟨x,hx⟩:=nth (l:=ar) (by simpa using hk)
     obtain ⟨c1,c2,c3,c4,c5,c6⟩:=hok.2 x (List.mem_of_getElem? hx)
     have hxk:(ar.map fun x=>[Value.agg x.v.toArray])[k]=[.agg x.v.toArray]:=by rw [List.getElem_map];rw [List.getElem?_eq_some_iff] at hx;obtain ⟨h1,h2⟩:=hx;rw [h2]
     rw [hxk]
     have hkl:k<ar.length:=by simpa using hk
     have hal:=hok.1
     have hlc:=hN.lc
     have hlb:=hN.lb
     have lo1:=hN.lo x.f c1
     have hi1:=hN.hi x.f c1
     refine .region ?_
     refine .o (.alloc hs dE rfl fun b8 w hs=>?_)
     refine .o (.aO (vs:=x.v) hs rfl rfl aH fun w hs=>?_)
     refine .nil ?_
     refine nT ?_
     refine ⟨H2,[.blk b8 x.v,.blk b4 [.slice (some ⟨bc,0,none⟩) (N+1) (N+1)],.blk b5 [.slice (some ⟨bb,0,none⟩) (N+1) (N+1)],.blk b6 [vo],.blk bc (Is s.cost),.blk bb (ij s.by_)],HLe.refl _,hs,?_⟩;rintro w σf2 - hs
     refine .block ?_
     refine .seq (.draw mix rfl hs fun w hs=>?_)
     refine .y 0 rfl hs ak ?_;refine .z 1 rfl (zfa cP) ?_;refine .y 2 rfl hs ae ?_
     first|(refine .ixv 3 rfl hs ad ai ?_;intro b34 o34 hc34)|refine .z 3 rfl (zix ad ai) ?_
     refine .y 4 rfl hs ae ?_;refine .z 5 rfl (zfa eu) ?_;refine .y 6 rfl hs ae ?_;refine .z 7 rfl cC ?_;refine .y 8 rfl hs ak ?_;refine .z 9 rfl (zfa c8) ?_;refine .y 10 rfl hs ae ?_
     first|(refine .ixv 11 rfl hs ad ai ?_;intro b42 o42 hc42)|refine .z 11 rfl (zix ad ai) ?_
     refine .y 12 rfl hs ae ?_;refine .z 13 rfl gp ?_;refine .D hs ?_
     refine (.ck rfl (fun hc44=>?_) (fun hc44=>?_))
     ·refine .seq (.draw mix rfl hs fun w hs=>?_)
      refine .y 0 rfl hs ak ?_;refine .z 1 rfl (zfa c8) ?_;refine .y 2 rfl hs ae ?_;refine .y 3 rfl hs eA ?_;refine .z 4 rfl (zfa c8) ?_;refine .y 5 rfl hs ae ?_;refine .y 6 rfl hs ak ?_;refine .z 7 rfl (zfa cP) ?_;refine .y 8 rfl hs ae ?_
      first|(refine .ixv 9 rfl hs ad ai ?_;intro b54 o54 hc54)|refine .z 9 rfl (zix ad ai) ?_
      refine .y 10 rfl hs ae ?_;refine .z 11 rfl (zfa eu) ?_;refine .y 12 rfl hs ae ?_;refine .z 13 rfl cC ?_
      refine .wS (i:=14) (vs:=x.v) hs rfl au .none rfl fP aH ?_
      first|(refine .ixv 15 rfl hs ad ai ?_;intro b60 o60 hc60)|refine .z 15 rfl (zix ad ai) ?_
      refine .E 16 hs ?_
      refine .store hs rfl rfl ai ?_;intro w hs
      refine .go ?_
      first|(refine .ixw 17 rfl hs az aH ?_;intro b61 o61 hc61)|refine .z 17 rfl (sO az aH) ?_
      refine .E 18 hs ?_
      refine .aO (vs:=x.v) hs rfl rfl aH ?_;intro w hs
      refine .go ?_
      refine .D hs ?_
      refine .region ?_
      refine .o (.store hs rfl rfl Tryz.sizeOf183 fun w hs=>?_)
      refine .nil ?_
      refine nB ?_
      obtain ⟨H3,g1,g2,hs⟩:=hs.cf .here
      exact ⟨H3,_,g1,hs,s.rlx x,some x,_,rfl,⟨b8,rfl,g2⟩,hN.ve hok hx hc44⟩
     ·refine .skip ?_
      refine nB ?_
      exact ⟨H2,_,HLe.refl _,hs.tail,s,ov,vo,rfl,hov,hN.skip hok hx (by unfold BS.can;omega)⟩
    ·rintro D H2 σb2 w hle2 ⟨s,ov,vo,rfl,hov,hN⟩ hs
     obtain ⟨a',rfl,ha'⟩:=hov.ptr
     replace hs:St H2 w (.blk b4 [.slice (some ⟨bc,0,none⟩) (N+1) (N+1)]:: .blk b5 [.slice (some ⟨bb,0,none⟩) (N+1) (N+1)]:: .blk b6 [.pointer a']:: .blk bc (Is s.cost):: .blk bb (ij s.by_)::(mes (D::Ds)++σ)):=St.deep (σ1:=[_,_,_,_,_]) hs
     have hN:sr (N+1) ar r ar.length ov s:=by simpa using hN
     refine nB (nT ?_)
     refine .af (.y hs (zld Tryz.isAgg183) ?_)
     refine .q hs (zR rfl rfl Tryz.runUnderlying183) ?_
     refine .nil ?_
     refine (.cond rfl (fun hc63=>?_) (fun hc63=>?_))
     ·refine .seq (.draw mix rfl hs fun w hs=>?_)
      refine .y 0 rfl hs ak ?_;refine .y 1 rfl hs eA ?_
      refine .E 2 hs ?_
      refine .store hs rfl rfl aB ?_;intro w hs
      refine .go ?_
      refine .E 3 hs ?_
      refine .store hs rfl rfl sK ?_;intro w hs
      refine .go ?_
      refine .E 4 hs ?_
      refine .store hs rfl rfl Tryz.sizeOf183 ?_;intro w hs
      refine .go ?_
      refine .D hs ?_
      refine .ret (rB (rT (rB (rT (?_)))))
      obtain ⟨rfl,rfl⟩:=OvR.no ha' hc63
      refine Fin.gI (D::Ds) [_,_,_,_,_] hs fun w hs=>⟨_,results3 Tryz.results126 (yz hs rfl ak) (yz hs rfl eA) (yz hs rfl Tryz.isAgg183),H2,bc,bb,s,none,_,hle1.trans hle2,rfl,hov,⟨r,hN,fun h=>(h rfl).elim⟩,hs.sb⟩
     ·refine .skip ?_
      refine nB (nT ?_)
      obtain ⟨x,rfl⟩:=OvR.yes ha' hc63
      exact .mk (ds:=marks (D::Ds)) ⟨rfl,D::Ds,H2,s,_,rfl,hle1.trans hle2,hN.next hok,.inr ⟨x,hov,hN⟩,hs⟩
   ·rintro ds fr w ⟨rfl,Ds,H1,s,vo,rfl,hle1,hN0,hor,hs⟩
    obtain ⟨x,hov,hN⟩:∃x,OvR H1 vo (some x)∧sr (N+1) ar (N+2 - 1) ar.length (some x) s:=hor.resolve_left aj
    obtain ⟨b3,rfl,hrow⟩:=hov
    refine nT ?_
    refine .seq (.draw mix rfl hs fun w hs=>?_)
    refine .y 0 rfl hs ak ?_;refine .y 1 rfl hs eA ?_;refine .y 2 rfl hs Tryz.isAgg183 ?_
    refine .E 3 hs ?_
    refine .store hs rfl rfl aB ?_;intro w hs
    refine .go ?_
    refine .E 4 hs ?_
    refine .store hs rfl rfl sK ?_;intro w hs
    refine .go ?_
    refine .E 5 hs ?_
    refine .store hs rfl rfl Tryz.sizeOf183 ?_;intro w hs
    refine .go ?_
    refine .D hs ?_
    refine .ret ?_
    refine Fin.gI Ds [_,_,_,_,_] hs fun w hs=>⟨_,results3 Tryz.results126 (yz hs rfl ak) (yz hs rfl eA) (yz hs rfl Tryz.isAgg183),H1,bc,bb,s,some x,_,hle1,rfl,⟨b3,rfl,hrow⟩,⟨N+1,hN,fun _=>rfl⟩,hs.sb⟩
theorem ie{v:Value}{s:cq}(hs:St H w σ)(hok:s.Ok)(hr:RSy H v s):
  Cl Tryz.prog 133 [v] w fun v w'=>∃H1 b,HLe H H1∧v= .bool b∧(b=true↔s.Sound)∧St H1 w' σ:=by
 obtain ⟨u,rfl,hr⟩:=hr
 obtain ⟨N,hN⟩:=Int.eq_ofNat_of_zero_le hok.m0
 have hN1:=hok.m1
 have hn:s.n=N+1:=by simp [cq.n,hN]
 have hoka:=hok.cK
 rw [hn] at hoka
 rw [hN]
 refine Cl.o Tryz.func133 Tryz.ntmps133 ag1 ?_
 refine .af ?_
 refine .bx hs fun b1 w hs=>?_
 refine .z zg (.nil ?_)
 refine .seq (.draw mix rfl hs fun w hs=>?_)
 refine .z 0 rfl (zfa bB) ?_;refine .y 1 rfl hs ae ?_;refine .ys 2 rfl hs [_,_] a8 aC ?_
 refine .E 3 hs ?_
 refine .call Tryz.call127 rfl (ja (s:=s) hs hok ⟨u,by rw [hN],hr⟩) ?_;rintro _ w ⟨H1,b10,hle1,rfl,hit,hs⟩
 refine .go ?_
 refine .E 4 hs ?_
 refine .call Tryz.call126 rfl (ic hs aj hoka hit Tryz.call203) ?_;rintro _ w ⟨H2,bc,bb,st,ov,vo,hle2,rfl,hov,hnr,hs⟩
 obtain ⟨a',rfl,ha'⟩:=hov.ptr
 refine .go ?_
 refine .z 5 rfl zm ?_;refine .z 6 rfl zex ?_;refine .z 7 rfl zex ?_;refine .z 8 rfl zex ?_;refine .z 9 rfl zg ?_;refine .z 10 rfl zg ?_;refine .z 11 rfl zg ?_;refine .D hs ?_
 refine .af (.z zm ?_)
 refine .q hs (zR rfl rfl Tryz.runUnderlying183) ?_
 refine .z zg (.nil ?_)
 refine .ret (Fin.bI Tryz.results133 rfl ?_)
 refine ⟨H2,_,hle1.trans hle2,rfl,?_,hs.out⟩
 obtain ⟨r,hN2,hr2⟩:=hnr
 cases ov with
 |none=>
  rw [ha']
  exact ⟨fun _=>⟨_,(hN2.sol hoka aj).1⟩,fun _=>rfl⟩
 |some x=>
  rw [ha']
  exact ⟨fun h=>(by cases h),fun h=>(hN2.none hoka aj (by have:=hr2 cm;omega) h).elim⟩
theorem nH{c:Int}(hs:St H w σ)(hc:0≤c∧c<4294967296):Cl Tryz.prog 299 [.int .u64 1,.int .u64 c] w fun v w'=>v= .tuple #[.int .u64 0,.int .u64 c]∧St H w' σ:=by
 refine Cl.o Tryz.func299 Tryz.ntmps299 ag2 ?_
 refine .af (.z zg (.z zg (.nil (.af (.z zm ?_)))))
 first|refine .q hs (Dd rfl rfl ⟨aj,aj⟩) ?_|refine .q hs (xv rfl rfl) ?_
 refine .z zg (.nil (.af (.z zm ?_)))
 first|refine .q hs (vj rfl rfl ⟨aj,aj⟩) ?_|refine .q hs (yB rfl rfl fG) ?_
 refine .z zg (.nil (.af (.z zm ?_)))
 first|refine .q hs (Dd rfl rfl ⟨aj,aj⟩) ?_|refine .q hs (xv rfl rfl) ?_
 refine .z zg (.nil (.af (.z zm ?_)))
 first|refine .q hs (vj rfl rfl ⟨aj,aj⟩) ?_|refine .q hs (yB rfl rfl fG) ?_
 refine .z zg (.nil (.af (.z zm (.z zm (.z kG (.z zg (.nil (.af (.z zm ?_)))))))))
 refine .z zm (.z kG (.z zm ?_))
 first|refine .q hs (vj rfl rfl ⟨aj,aj⟩) ?_|refine .q hs (yB rfl rfl fG) ?_
 refine .z cC (.z zg (.nil (.af (.z zm ?_))))
 first|refine .q hs (Dd rfl rfl ⟨aj,aj⟩) ?_|refine .q hs (xv rfl rfl) ?_
 refine .z zg (.nil (.af (.z zm ?_)))
 first|refine .q hs (vj rfl rfl ⟨aj,aj⟩) ?_|refine .q hs (yB rfl rfl fG) ?_
 refine .z zg (.nil (.af (.z zm (.z zm (.z zm (.z kG (.z cC (.z zg (.nil ?_)))))))))
 refine .af (.z zm (.z zm (.z kG (.z zm (.z cC (.z zm ?_))))))
 first|refine .q hs (vj rfl rfl ⟨aj,aj⟩) ?_|refine .q hs (yB rfl rfl fG) ?_
 refine .z cC (.z zg (.nil (.af (.z zm (.z zm (.z kG (.z zg (.nil ?_))))))))
 refine .ret (Fin.kK Tryz.results299 rfl rfl ?_)
 exact ⟨cm,hs⟩
theorem pX{c:Int}(hs:St H w σ)(hc:0≤c∧c<4294967296):Cl Tryz.prog 297 [.int .u64 1,.int .u64 c] w fun v w'=>v= .tuple #[.int .u64 0,.int .u64 c]∧St H w' σ:=by
 refine Cl.o Tryz.func297 Tryz.ntmps297 ag2 ?_
 refine .af (.z zg (.z zg (.nil ?_)))
 refine .seq (.cF ?_)
 refine .skip ?_
 refine nT ?_
 refine .af (.z zm (.z zm ?_))
 refine .o (.call Tryz.call299 rfl (nH hs hc) ?_);rintro _ w ⟨rfl,hs⟩
 refine .z zm (.z zex (.z zex (.z zg (.z zg (.nil (.af (.z zm (.z zm (.z zg ?_)))))))))
 refine .z zg (.nil ?_)
 refine .ret (Fin.kK Tryz.results297 rfl rfl ?_)
 exact ⟨rfl,hs⟩
theorem Av{c k:Nat}{z:Int}:let n:=min k (c - k);(List.replicate k z++List.replicate (c - k) 0).take k++List.replicate n z++(List.replicate k z++List.replicate (c - k) 0).drop (k+n)=List.replicate (k+n) z++List.replicate (c - (k+n)) (0:Int):=by
 intro n
 have hn:n≤c - k:=Nat.min_le_right _ _
 have e0:(List.replicate k z).length=k:=by simp
 rw [List.take_left' e0]
 have e1:(List.replicate k z++List.replicate (c - k) 0).drop (k+n)=List.replicate (c - (k+n)) (0:Int):=by
  rw [show k+n=(List.replicate k z).length+n by simp,List.drop_append]
  simp
  omega
 rw [e1,List.replicate_append_replicate]
theorem pJ{z:Int}{bx c:Nat}(hs:St H w σ)(hm:Mem σ (.blk bx (Is [z])))(h1:1≤c)(h2:c≤1000000):Cl Tryz.prog 288 [.slice (some ⟨bx,0,none⟩) 1 1,I c] w fun v w'=>∃b,v= .slice (some ⟨b,0,none⟩) c c∧St H w' (.blk b (Is (List.replicate c z))::σ):=by
 refine Cl.o Tryz.func288 Tryz.ntmps288 ag2 ?_
 refine .af (.z zg (.nil (.seq (.af (.z zm (.z gp (.nil ?_)))))))
 refine (.ck rfl (fun hc10=>?_) (fun hc10=>?_))
 ·omega
 ·refine .skip ?_
  refine nT ?_
  refine .af (.z zm (.z (c9 ad) ?_))
  first|refine .q hs (wM rfl aQ dS ⟨aj,aj⟩) ?_|refine .q hs (wL rfl aQ dS ⟨aj,aj⟩) ?_|refine .q hs (vk rfl aQ dS) ?_
  refine .z zm ?_
  first|refine .q hs (wM rfl aQ dS ⟨aj,aj⟩) ?_|refine .q hs (wL rfl aQ dS ⟨aj,aj⟩) ?_|refine .q hs (vk rfl aQ dS) ?_
  refine .o (.call Tryz.call297 rfl (pX (c:=c) hs aj) ?_);rintro _ w ⟨rfl,hs⟩
  refine .z zm (.z zex (.z zex (.z zg (.z zg (.nil (.seq (.af (.z zm (.z od ?_)))))))))
  refine .z zm ?_
  refine .kf (t':=23) rfl (fun hb23=>?_) (fun hb23=>?_)
  ·refine .gFs 2 2 false rfl rfl rfl ?_
   refine .z zpT (.nil ?_)
   refine (.cT ?_)
   first|omega|(simp at hc26;omega)
  ·refine .gT rfl rfl ?_
   refine .z zm ?_
   refine .gT rfl rfl ?_
   refine .z od (.z zpF (.nil ?_))
   refine (.ck rfl (fun hc26=>?_) (fun hc26=>?_))
   ·first|omega|(simp at hc26;omega)
   ·refine .skip ?_
    refine nT ?_
    refine .af (.z zm ?_)
    first|refine .q hs (wM rfl dS aQ ⟨aj,aj⟩) ?_|refine .q hs (wL rfl dS aQ ⟨aj,aj⟩) ?_|refine .q hs (vk rfl dS aQ) ?_
    refine .o (.sz c hs rfl rfl ad ff rfl ai bM aj fun b30 w hs=>?_)
    refine .z zg (.nil (.af (.z zm (.z zm ?_))))
    refine .o (.EG (k:=1) (xs:=List.replicate c 0) (zs:=[z]) hs rfl rfl ⟨_,_,rfl⟩ ad ai aj rfl (vP (xs:=[z]) (.there hm) rfl rfl) (by simp;omega) ?_);intro w hs
    refine .z zg (.nil (.seq (.block ?_)))
    refine .loop (fun k:Nat=>⟨48,[],[(8,I k),(7,.slice (some ⟨b30,0,none⟩) c c)]⟩) (fun k w=>(1≤k∧k≤c)∧St H w (.blk b30 (Is (List.replicate k z++List.replicate (c - k) 0))::σ)) (fun k=>c - k) 1 bD ⟨⟨aj,aj⟩,by
      have e:List.take 0 (List.replicate c (0:Int))++[z]++List.drop (0+1) (List.replicate c 0)=List.replicate 1 z++List.replicate (c - 1) 0:=by simp
      rw [e] at hs;exact hs⟩ ?_
    rintro k w ⟨⟨k1,k2⟩,hs⟩
    refine .seq (.af (.z zm (.z zm (.z (c9 ad) (.z gp (.nil ?_))))))
    refine (.ck rfl (fun hc37=>?_) (fun hc37=>?_))
    ·refine .skip ?_
     refine nT ?_
     refine .block ?_
     refine .draw mix rfl hs fun w hs=>?_
     refine .z 0 rfl zm ?_;refine .z 1 rfl zm ?_;refine .z 2 rfl zm ?_
     refine .z 3 rfl (oD (k:=k) rfl rfl ad ai aj aj) ?_
     refine .z 4 rfl zm ?_;refine .z 5 rfl zm ?_
     refine .z 6 rfl (l5 (k:=k) rfl rfl ad ai aj) ?_
     refine .E 7 hs ?_
     refine .EG (k:=min k (c - k)) (xs:=List.replicate k z++List.replicate (c - k) 0) (zs:=List.replicate (min k (c - k)) z) hs rfl rfl ⟨_,_,rfl⟩ ad ai rfl cm (vP (xs:=List.replicate k z++List.replicate (c - k) 0) .here (by rw [List.drop_zero,List.take_append_of_le_length (by simp;omega)];simp) cm) (by simp;omega) ?_;intro w hs
     refine .go ?_
     refine .z 8 rfl cC ?_;refine .z 9 rfl zg ?_;refine .D hs ?_
     refine nB (nT ?_)
     exact ⟨k+min k (c - k),bD,⟨⟨aj,aj⟩,by
       have e:=Av (z:=z) (c:=c) (k:=k)
       simp only [Nat.mul_one,Nat.zero_add] at hs
       rw [e] at hs;exact hs⟩,aj⟩
    ·refine .exit ?_
     refine xT (xT (xB (nT ?_)))
     refine .af (.z zm (.z zg (.nil ?_)))
     refine .ret (Fin.bI Tryz.results288 rfl ?_)
     obtain rfl:k=c:=by omega
     exact ⟨b30,rfl,by simpa using hs⟩
theorem pK{v:Value}{xs:List Int}(hs:St H w σ)(hr:RI H v xs)(hx:xs.length≤17592186044416):Cl Tryz.prog 197 [v] w fun u w'=>∃en,(Ey v=true→Ey u=true)∧bS 1 u (Is xs) en∧St H w' (en::σ):=by
 obtain ⟨a,c,rfl⟩:=RI.shape hr
 have hl:=(RI.len hr).2.2
 refine Cl.o Tryz.func197 Tryz.ntmps197 ag1 ?_
 refine .af (.z zg (.nil (.seq (.af (.z zm ?_)))))
 refine .q hs (zQ rfl rfl ad) ?_
 refine .nil ?_
 refine (.cond rfl (fun hc4=>?_) (fun hc4=>?_))
 ·refine .af (.z zg (.nil ?_))
  refine .ret (rT (Fin.bI Tryz.results197 rfl ?_))
  obtain rfl:a=none:=by simpa using hc4
  obtain rfl:=hr.zY
  exact ⟨.nul,fun h=>h,.nil 1 none,hs.nul⟩
 ·refine .skip ?_
  refine nT ?_
  refine .af ?_
  refine .o (.buildSlice (cells:=[]) hs ml rfl rfl fun b5 w hs=>?_)
  refine .z zm ?_
  refine .o (.AM (xs:=[]) (ys:=Is xs) hs bN rfl rfl (.full rfl) (.ints hr) (by simp [Value.oneCell']) (fun l h=>by simp at h;omega) ?_);intro v7 en7 w hnn hO hs
  refine .z zg (.nil ?_)
  refine .ret (Fin.bI Tryz.results197 rfl ?_)
  exact ⟨en7,fun _=>hnn rfl,hO,hs⟩
theorem gH{v:Value}{xs:List Int}(hs:St H w σ)(hr:RI H v xs)(hx:xs.length≤17592186044416):Cl Tryz.prog 197 [v] w fun v w'=>∃en,bS 1 v (Is xs) en∧St H w' (en::σ):=
 (pK hs hr hx).mono fun _ _ ⟨en,_,h⟩=>⟨en,h⟩
theorem nx{v:Value}{l:List Arc}{en:Ent}(hs:St H w (en::σ))(ho:bS 4 v (ij l) en)(hl:l.length≤1000000):
  Cl Tryz.prog 289 [v] w fun _ w'=>∃en',bS 4 v (ij l.reverse) en'∧St H w' (en'::σ):=by
 rcases ho with ⟨a,rfl,h2,rfl⟩|⟨b,len,cap,sp,rfl,rfl,h2,h3,h4⟩
 ·obtain rfl:l=[]:=by
   have:=congrArg List.length h2
   rw [dk] at this
   exact List.length_eq_zero_iff.1 (by simp at this;omega)
  have hs:=hs.tail
  refine Cl.o Tryz.func289 Tryz.ntmps289 ag1 ?_
  refine .af (.z zm (.z (c9 az) (.z hZ (.z zg (.z zg (.nil (.block ?_)))))))
  refine .loop (fun _:Unit=>⟨28,[],[(2,I 0),(3,I (-1))]⟩) (fun _ w=>St H w σ) (fun _=>0) () bD hs ?_
  rintro _ w hs
  refine .seq (.af (.z zm (.z zm (.z gp (.nil ?_)))))
  refine (.ck rfl (fun hc9=>?_) (fun hc9=>?_))
  ·omega
  ·refine .exit ?_
   refine xT (xT (xB ?_))
   exact Fin.wm Tryz.results289 ⟨.nul,.nil 4 a,hs.nul⟩
 obtain rfl:len=l.length:=by rw [dk] at h2;omega
 refine Cl.o Tryz.func289 Tryz.ntmps289 ag1 ?_
 refine .af (.z zm (.z (c9 az) (.z hZ (.z zg (.z zg (.nil (.block ?_)))))))
 refine .loop (fun p:Nat×List Arc=>⟨28,[],[(2,I p.1),(3,I ((l.length:Int) - 1 - p.1)),(0,.slice (some ⟨b,0,none⟩) l.length cap)]⟩) (fun p w=>(2*p.1≤l.length+1∧qo l p.2 p.1)∧St H w (.blk b (ij p.2++sp)::σ)) (fun p=>l.length - p.1) (0,l) (.cons rfl (.de rfl cm (.cons rfl (.nil rfl rfl)))) ⟨⟨cm,.start l⟩,hs⟩ ?_
 rintro ⟨i,L⟩ w ⟨⟨h5,h6⟩,hs⟩
 dsimp only at h5 h6 hs ⊢
 have hL:=h6.1
 refine .seq (.af (.z zm (.z zm (.z gp (.nil ?_)))))
 refine (.ck rfl (fun hc9=>?_) (fun hc9=>?_))
 ·refine .skip ?_
  refine nT ?_
  refine .seq (.block ?_)
  refine .draw mix rfl hs fun w hs=>?_
  refine .z 0 rfl zm ?_;refine .z 1 rfl zm ?_;refine .z 2 rfl zm ?_;refine .z 3 rfl zm ?_;refine .z 4 rfl zm ?_;refine .z 5 rfl zm ?_
  refine .z 6 rfl (s5 (k:=l.length - 1 - i) rfl rfl az aH aj aj) ?_
  refine .wS (i:=7) (vs:=(ga L (l.length - 1 - i)).v) hs rfl au .none rfl fP aH ?_ (hv:=si aj sp)
  refine .z 8 rfl zm ?_;refine .z 9 rfl zm ?_
  first|(refine .ixw 10 rfl hs az aH ?_;intro b24 o24 hc24)|refine .z 10 rfl (sO az aH) ?_
  refine .wS (i:=11) (vs:=(ga L i).v) hs rfl au .none rfl fP aH ?_ (hv:=si aj sp)
  first|(refine .ixw 12 rfl hs az aH ?_;intro b26 o26 hc26)|refine .z 12 rfl (sO az aH) ?_
  refine .E 13 hs ?_
  refine .aO (vs:=(ga L (l.length - 1 - i)).v) hs rfl rfl aH ?_ dw (sa aj sp) (qe aj _ sp);intro w hs
  refine .go ?_
  refine .z 14 rfl (s5 (k:=l.length - 1 - i) rfl rfl az aH aj aj) ?_
  refine .E 15 hs ?_
  refine .aO (vs:=(ga L i).v) hs rfl rfl aH ?_ dw (sa (by simp;omega) sp) (qe (by simp;omega) _ sp);intro w hs
  refine .go ?_
  refine .D hs ?_
  refine nB (nT ?_)
  refine .region (.z zm (.z cC (.z zm (.z hZ (.z zg (.z zg (.nil ?_)))))))
  refine nT ?_
  exact ⟨(i+1,_),.cons rfl (.de rfl (by push_cast;omega) (.cons rfl (.nil rfl rfl))),⟨⟨by dsimp only;omega,h6.step aj⟩,hs⟩,by dsimp only;omega⟩
 ·refine .exit ?_
  refine xT (xT (xB ?_))
  rw [h6.done aj] at hs
  exact Fin.wm Tryz.results289 ⟨_,.inr ⟨b,l.length,cap,sp,rfl,rfl,by rw [dk];simp,by rw [←h3];simp [dk],h4⟩,hs⟩
theorem lJ{H:bP}{b1 bf bt bl cl:Nat}{s:cq}{ts lf:List Int}{vl:Value}{sp:List Value}(hok:s.Ok)(hb:Row H b1 [.pointer (some ⟨bf,0,none⟩)])(hF:sf H bf s ts lf vl bt bl cl sp)(hlt:ts.length=s.bV.length):
  ItA Tryz.prog 270 [.pointer (some ⟨b1,0,none⟩)] H (dy s.cK ts):=by
 intro l II Ix hmI hmX hy H0 σb0 σf w hle hI0 hs
 have hb0:cellAt H0 b1 0=some (.pointer (some ⟨bf,0,none⟩)):=(hb.mono hle).at 0
 have hF0:=hF.mono hle
 have hsys:=hF0.f.cells 0 [I s.many,vl]
 have hlen:s.cK.length=ts.length:=by simp [cq.cK,dR,hlt]
 refine Cl.o Tryz.func270 Tryz.ntmps270 ag2 ?_
 refine .af ?_
 refine .bx hs fun b2 w hs=>?_
 refine .nil (.af (.y hs (zld pC) (.z znc (.z (zfa ew) ?_))))
 refine .q hs (cd (vs:=[I s.many,vl]) rfl a8 aC hsys) ?_
 refine .o (.call Tryz.call127 rfl (ja (s:=s) hs hok ⟨vl,rfl,hF0.l⟩) ?_);rintro _ w ⟨H1,b8,hle1,rfl,hit,hs⟩
 refine .nil (.block ?_)
 refine .rangeFunc (gf:=203) (cap:=[.pointer (some ⟨b8,0,none⟩)]) (xs:=s.cK.map fun x:Arc=>[Value.agg x.v.toArray]) (σb:= .blk b2 [.func (.yield l) #[] #[]]::σb0) (σf:=σf) hs trivial rfl hit Tryz.call203 cm rfl
  (I:=fun k H' σb=>∃σo,σb= .blk b2 [.func (.yield l) #[] #[]]::σo∧HLe H0 H'∧II (xx s.cK ts k) H' σo)
  (Ix:=fun c H' σb=>c= .ret∧∃σo,σb= .blk b2 [.func (.yield l) #[] #[]]::σo∧HLe H0 H'∧Ix H' σo)
  (fun k _ _ σ g1 ⟨σo,g2,g3,g4⟩=>⟨σo,g2,g3.trans g1,hmI _ _ _ _ g1 g4⟩) (fun c _ _ σ g1 ⟨g0,σo,g2,g3,g4⟩=>⟨g0,σo,g2,g3.trans g1,hmX _ _ _ g1 g4⟩)
  ⟨σb0,rfl,hle1,by rw [zW];exact hmI _ _ _ _ hle1 hI0⟩ ?_ ?_ ?_
 ·rintro l2 k hk H2 σb2 σf2 w hle2 ⟨σo,rfl,hle0,hIk⟩ hs ⟨rr,hrr⟩
  obtain ⟨x,hx⟩:=nth (l:=s.cK) (by simpa using hk)
  obtain ⟨c1,c2,c3,c4,c5,c6⟩:=hok.cK.2 x (List.mem_of_getElem? hx)
  have hxk:(s.cK.map fun x=>[Value.agg x.v.toArray])[k]=[.agg x.v.toArray]:=by rw [List.getElem_map];rw [List.getElem?_eq_some_iff] at hx;obtain ⟨h1,h2⟩:=hx;rw [h2]
  rw [hxk]
  have hkt:k<ts.length:=by rw [←hlen];simpa using hk
  have hxl:x.l=(k:Int):=px hx
  obtain ⟨r1,r2,r3⟩:=zH (ts:=ts) hx hkt
  refine .region ?_
  refine .o (.alloc hs dE rfl fun b3 w hs=>?_)
  refine .o (.aO (vs:=x.v) hs rfl rfl aH fun w hs=>?_)
  refine .nil ?_
  refine nT ?_
  refine ⟨H2,.blk b3 x.v:: .blk b2 [.func (.yield l) #[] #[]]::σo,HLe.refl _,hs,?_⟩;rintro w σf2 - hs
  refine .block (.seq (.af ?_))
  refine .y hs (zld Tryz.isAgg245) ?_
  refine .q hs (gU (vs:=x.v) rfl fP aH) ?_
  have hyd:=hy (xx s.cK ts k) (by simpa using (List.getElem?_eq_some_iff.1 r1).1) H2 σo (.blk b3 x.v:: .blk b2 [.func (.yield l) #[] #[]]::σf2) w (hle.trans hle0) hIk (St.deep (σ1:=σo) (St.deep (σ1:= .blk b3 x.v::σo) (hs.perm (.swap _ _ _))))
  rw [Af r1] at hyd
  refine .o (.yield (vs:=[.agg x.v.toArray]) rfl rfl hyd ?_);rintro v12 w ⟨H3,σ3,hle3,hs,g3⟩
  obtain ⟨bb,rfl,gT,gF⟩:=np g3
  replace hs:St H3 w (.blk b3 x.v:: .blk b2 [.func (.yield l) #[] #[]]::(σ3++σf2)):=(St.shallow (σ1:= .blk b3 x.v::σ3) (St.shallow (σ1:=σ3) hs)).perm (.swap _ _ _)
  refine .z iq (.nil ?_)
  refine (.cond rfl (fun hc13=>?_) (fun hc13=>?_))
  ·refine .ret (rT (rB (?_)))
   exact ⟨H3,.blk b2 [.func (.yield l) #[] #[]]::σ3,hle3,hs.tail,rfl,σ3,rfl,hle0.trans hle3,gF (by simpa using hc13)⟩
  ·refine .skip ?_
   refine nT ?_
   refine .seq (.draw mix rfl hs fun w hs=>?_)
   have hb3:cellAt H3 b1 0=some (.pointer (some ⟨bf,0,none⟩)):=cellAt.mono hb0 (hle0.trans hle3)
   have hf3:cellAt H3 bf 2=some (.slice (some ⟨bt,0,none⟩) ts.length ts.length):=((hF0.mono (hle0.trans hle3)).f).at 2
   have ht3:cellAt H3 bt k=some (I (gi ts k)):=((hF0.mono (hle0.trans hle3)).t).at k (ik hkt)
   have hI3:=gT (by simpa using hc13)
   refine .r (i:=0) hs rfl au .none (bh rfl pC hb3) ?_
   refine .z 1 rfl znc ?_;refine .z 2 rfl (zfa fV) ?_;refine .y 3 rfl hs ak ?_;refine .z 4 rfl (zfa dq) ?_;refine .y 5 rfl hs ae ?_
   refine .z 6 rfl (iI (k:=k) rfl rfl ad ai hxl hkt) ?_
   refine .r (i:=7) hs rfl au .none (bh rfl ae ht3) ?_
   refine .z 8 rfl od ?_;refine .z 9 rfl zm ?_
   refine .kf (t':=23) rfl (fun hb23=>?_) (fun hb23=>?_)
   ·refine .y 10 rfl hs Tryz.isAgg245 ?_
    refine .z 11 rfl (zfa c8) ?_;refine .y 12 rfl hs ae ?_;refine .z 13 rfl (zfa cP) ?_;refine .y 14 rfl hs ae ?_;refine .z 15 rfl (zfa eu) ?_;refine .y 16 rfl hs ae ?_;refine .z 17 rfl zj ?_;refine .z 18 rfl (zfa dq) ?_;refine .y 19 rfl hs ae ?_;refine .z 20 rfl (zbd [_,_,_,_] nh) ?_
    refine .E 21 hs ?_
    obtain ⟨r4,r5⟩:=r2 hb23
    have hyd:=hy (xx s.cK ts k+1) (by simpa using (List.getElem?_eq_some_iff.1 r4).1) H3 σ3 (.blk b3 x.v:: .blk b2 [.func (.yield l) #[] #[]]::σf2) w (hle.trans (hle0.trans hle3)) hI3 (St.deep (σ1:=σ3) (St.deep (σ1:= .blk b3 x.v::σ3) (hs.perm (.swap _ _ _))))
    rw [Af r4] at hyd
    refine .yield (vs:=[.agg x.back.v.toArray]) rfl rfl hyd ?_;rintro v35 w ⟨H4,σ4,hle4,hs,g4⟩
    obtain ⟨bb4,rfl,gT4,gF4⟩:=np g4
    replace hs:St H4 w (.blk b3 x.v:: .blk b2 [.func (.yield l) #[] #[]]::(σ4++σf2)):=(St.shallow (σ1:= .blk b3 x.v::σ4) (St.shallow (σ1:=σ4) hs)).perm (.swap _ _ _)
    refine .go ?_
    refine .z 22 rfl iq ?_;refine .z 23 rfl zpT ?_;refine .D hs ?_
    refine (.cond rfl (fun hc37=>?_) (fun hc37=>?_))
    ·refine .ret (rB (?_))
     exact ⟨H4,.blk b2 [.func (.yield l) #[] #[]]::σ4,hle3.trans hle4,hs.tail,rfl,σ4,rfl,hle0.trans (hle3.trans hle4),gF4 (by simpa using hc37)⟩
    ·refine .skip ?_
     refine nB ?_
     exact ⟨H4,.blk b2 [.func (.yield l) #[] #[]]::σ4,hle3.trans hle4,hs.tail,σ4,rfl,hle0.trans (hle3.trans hle4),by rw [r5];exact gT4 (by simpa using hc37)⟩
   ·refine .qF (i:=10) rfl au rfl rfl ?_
    refine .qF (i:=11) rfl au rfl rfl ?_
    refine .qF (i:=12) rfl au rfl rfl ?_
    refine .qF (i:=13) rfl au rfl rfl ?_
    refine .qF (i:=14) rfl au rfl rfl ?_
    refine .qF (i:=15) rfl au rfl rfl ?_
    refine .qF (i:=16) rfl au rfl rfl ?_
    refine .qF (i:=17) rfl au rfl rfl ?_
    refine .qF (i:=18) rfl au rfl rfl ?_
    refine .qF (i:=19) rfl au rfl rfl ?_
    refine .qF (i:=20) rfl au rfl rfl ?_
    refine .qF (i:=21) rfl au rfl rfl ?_
    refine .qF (i:=22) rfl au rfl rfl ?_
    refine .z 23 rfl zpF ?_;refine .D hs ?_
    refine (.cF ?_)
    refine .skip ?_
    refine nB ?_
    exact ⟨H3,.blk b2 [.func (.yield l) #[] #[]]::σ3,hle3,hs.tail,σ3,rfl,hle0.trans hle3,by rw [r3 hb23];exact hI3⟩
 ·rintro D H2 σb2 w hle2 ⟨σo,rfl,hle0,hIk⟩ hs
  refine nB ?_
  exact Fin.EY [D] [] hs.xn fun w hs=>⟨_,results0 Tryz.results270,H2,σo,hle0,hs,.inl (by simpa [BH hlen] using hIk)⟩
 ·rintro D c H2 σb2 w hle2 ⟨rfl,σo,rfl,hle0,hx⟩ hs
  exact .ret (rB (Fin.gI [D] [] hs.xn fun w hs=>⟨_,results0 Tryz.results270,H2,σo,hle0,hs,.inr hx⟩))
theorem jd{bf bt bl cl:Nat}{s:cq}{ts lf:List Int}{vl:Value}{sp:List Value}(hs:St H w σ)(hok:s.Ok)(hF:sf H bf s ts lf vl bt bl cl sp)(hlt:ts.length=s.bV.length):
  Cl Tryz.prog 223 [.pointer (some ⟨bf,0,none⟩)] w fun v w'=>∃H1 b,HLe H H1∧v= .func (.func 270) #[] #[.pointer (some ⟨b,0,none⟩)]∧ItA Tryz.prog 270 [.pointer (some ⟨b,0,none⟩)] H1 (dy s.cK ts)∧St H1 w' σ:=by
 refine Cl.o Tryz.func223 Tryz.ntmps223 ag1 ?_
 refine .af ?_
 refine .bx hs fun b1 w hs=>?_
 refine .z zg (.nil (.af ?_))
 refine .q hs (cU (f:=[]) (c:=[_]) rfl rfl) ?_
 refine .z zg (.nil ?_)
 refine .ret (Fin.bI Tryz.results223 rfl ?_)
 obtain ⟨H1,g1,g2,hs⟩:=hs.cf .here
 exact ⟨H1,b1,g1,rfl,lJ hok g2 (hF.mono g1) hlt,hs⟩
theorem nN{bf bt bl cl to:Nat}{s:cq}{ts lf:List Int}{vl:Value}{sp:List Value}(hs:St H w σ)(hok:s.Ok)(hF:sf H bf s ts lf vl bt bl cl sp)(hlt:ts.length=s.bV.length)(hll:lf.length=s.n)
  (hD:∃p,fE (dy s.cK ts) p) (hto:to<s.n) (hpos:0<gi lf to):
  Cl Tryz.prog 268 [.pointer (some ⟨bf,0,none⟩),I to] w fun v w'=>∃H1 p en,HLe H H1∧bS 4 v (ij p) en∧St H1 w' (en::σ)∧Fp s.n s.cK ts lf p to:=by
 obtain ⟨N,hN⟩:=Int.eq_ofNat_of_zero_le hok.m0
 have hN1:=hok.m1
 have hn:s.n=N+1:=by simp [cq.n,hN]
 have hoka:=hok.cK
 have hlen:s.cK.length=ts.length:=by simp [cq.cK,dR,hlt]
 rw [hn] at hoka hll hto ⊢
 obtain ⟨D,hg⟩:=xo aj aj hoka hlen hD
 have hf0:cellAt H bf 0=some (I (N:Int)):=by have:=hF.f.at 0 (v:=I s.many);rwa [hN] at this
 have hf3:cellAt H bf 3=some (.slice (some ⟨bl,0,none⟩) lf.length cl):=hF.f.at 3
 refine Cl.o Tryz.func268 Tryz.ntmps268 ag2 ?_
 refine .af ?_
 refine .bx hs fun b2 w hs=>?_
 refine .z zg (.nil (.af ?_))
 refine .o (.buildSlice (cells:=[_]) hs bY rfl rfl fun b13 w hs=>?_)
 refine .y hs (zld pC) (.z znc (.z (zfa ew) (.z (zfa bB) (.y hs (zld ae) (.z cC ?_)))))
 refine .o (.call Tryz.call288 rfl (pJ (z:=far) (c:=N+1) hs .here aj aj) ?_);rintro _ w ⟨bc,rfl,hs⟩
 refine .o (.alloc hs dA rfl fun b5 w hs=>?_)
 refine .o (.store hs rfl rfl aB fun w hs=>?_)
 refine .nil (.af (.y hs (zld pC) (.z znc (.z (zfa ew) (.z (zfa bB) (.y hs (zld ae) (.z cC ?_)))))))
 refine .o (.BQ (N+1) hs rfl rfl az xk rfl aH dE aj fun b27 w hs=>?_)
 refine .o (.alloc hs Tryz.zeroValue182 rfl fun b6 w hs=>?_)
 refine .o (.store hs rfl rfl sK fun w hs=>?_)
 refine .nil (.seq (.af (.y hs (zld pC) (.z znc (.z (zfa dr) (.y hs (zld ak) (.z (c9 ad) (.z zm (.nil ?_)))))))))
 refine .for (N:=lf.length) (J:=fun k fr w=>fr=[(31,.slice (some ⟨bl,0,none⟩) lf.length cl),(5,.pointer (some ⟨b5,0,none⟩)),(6,.pointer (some ⟨b6,0,none⟩)),(2,.pointer (some ⟨b2,0,none⟩)),(1,I to)]∧∃st,sd (N+1) lf k st∧St H w (.blk b6 [.slice (some ⟨b27,0,none⟩) (N+1) (N+1)]:: .blk b27 (ij st.by_):: .blk b5 [.slice (some ⟨bc,0,none⟩) (N+1) (N+1)]:: .blk bc (Is st.cost):: .blk b2 [.pointer (some ⟨bf,0,none⟩)]::σ)) aj ?_ ?_ ?_
 ·exact .mk ⟨rfl,_,.start _ _,hs.sb⟩
 ·rintro k fr w hk ⟨rfl,st,hI,hs⟩
  have hck:cellAt H bl k=some (I (gi lf k)):=hF.d.at k (AS (bJ hk) sp)
  have hlc:=hI.lc
  have hlb:=hI.lb
  have hkb:k<st.by_.length:=by omega
  refine .block (.af (.z zm ?_))
  first|(refine .ixv hs ad ai ?_;intro b36 o36 hc36)|refine .z (zix ad ai) ?_
  refine .q hs (bh rfl ae hck) ?_
  refine .z zg (.z zg (.nil (.af (.z zm (.z gp (.nil ?_))))))
  refine (.ck rfl (fun hc39=>?_) (fun hc39=>?_))
  ·refine .af (.y hs (zld ak) (.z zm ?_))
   first|(refine .ixv hs ad ai ?_;intro b42 o42 hc42)|refine .z (zix ad ai) ?_
   refine .o (.store hs rfl rfl ai fun w hs=>?_)
   refine .nil (.region (.y hs (zld eA) (.z zm ?_)))
   first|(refine .ixw hs az aH ?_;intro b45 o45 hc45)|refine .z (sO az aH) ?_
   refine .z (zfa dq) ?_
   refine .o (.store hs rfl rfl ai ?_ dw (yb hkb aj) (wg hkb _));intro w hs
   refine .nil ?_
   refine nB (nT ?_)
   exact .mk ⟨rfl,_,hI.take aj hc39,hs⟩
  ·refine .skip ?_
   refine nB (nT ?_)
   exact .mk ⟨rfl,_,hI.skip hc39,hs⟩
 ·rintro fr w ⟨rfl,st0,hI0,hs⟩
  rw [hll] at hI0
  have hW0:=hI0.inv hg
  refine nT ?_
  refine .seq (.af ?_)
  refine .o (.alloc hs Tryz.zeroValue4 rfl fun b9 w hs=>?_)
  refine .o (.store hs rfl rfl sn fun w hs=>?_)
  refine .nil (.block ?_)
  refine .loop (fun p:Nat×List Nat×bP×BS×Bool=>⟨141,marks p.2.1,[(9,.pointer (some ⟨p.1,0,none⟩)),(5,.pointer (some ⟨b5,0,none⟩)),(6,.pointer (some ⟨b6,0,none⟩)),(2,.pointer (some ⟨b2,0,none⟩)),(1,I to)]⟩)
   (fun p w=>HLe H p.2.2.1∧(∃j,q8 (N+1) (dy s.cK ts) (fun v=>gi lf v<0) D j p.2.2.2.2 p.2.2.2.1∧(p.2.2.2.2=false→j=(dy s.cK ts).length))∧
    St p.2.2.1 w (.blk p.1 [.bool p.2.2.2.2]:: .blk b6 [.slice (some ⟨b27,0,none⟩) (N+1) (N+1)]:: .blk b27 (ij p.2.2.2.1.by_):: .blk b5 [.slice (some ⟨bc,0,none⟩) (N+1) (N+1)]:: .blk bc (Is p.2.2.2.1.cost):: .blk b2 [.pointer (some ⟨bf,0,none⟩)]::(mes p.2.1++σ)))
   (fun p=>2*WM (N+1) D p.2.2.2.1+(if p.2.2.2.2=true then 1 else 0)) (b9,[],H,st0,true) bD ⟨HLe.refl _,⟨0,hW0,fun h=>by cases h⟩,hs⟩ ?_
  rintro ⟨b9,Ds,H1,st,ag⟩ w ⟨hle1,⟨j,hW,hj⟩,hs⟩
  dsimp only at hle1 hW hj hs ⊢
  have hlc:=hW.lc
  have hlb:=hW.lb
  refine .seq (.af (.y hs (zld Tryz.isAgg4) (.nil ?_)))
  refine (.cond rfl (fun hc48=>?_) (fun hc48=>?_))
  ·refine .skip ?_
   refine nT ?_
   refine .seq (.block (.af ?_))
   subst hc48
   refine .o (.store hs rfl rfl sn fun w hs=>?_)
   refine .nil (.af (.y hs (zld pC) ?_))
   refine .o (.call Tryz.call223 rfl (jd hs hok (hF.mono hle1) hlt) ?_);rintro _ w ⟨H2,b50,hle2,rfl,hit,hs⟩
   refine .nil (.block ?_)
   refine .rangeFunc (gf:=270) (cap:=[.pointer (some ⟨b50,0,none⟩)]) (xs:=(dy s.cK ts).map fun x:Arc=>[Value.agg x.v.toArray])
    (σb:=[.blk b9 [.bool false],.blk b6 [.slice (some ⟨b27,0,none⟩) (N+1) (N+1)],.blk b27 (ij st.by_),.blk b5 [.slice (some ⟨bc,0,none⟩) (N+1) (N+1)],.blk bc (Is st.cost),.blk b2 [.pointer (some ⟨bf,0,none⟩)]]) (σf:=mes Ds++σ) hs trivial rfl hit Tryz.call270 cm rfl
    (I:=fun k H' σb=>HLe H2 H'∧∃st' ag,σb=[.blk b9 [.bool ag],.blk b6 [.slice (some ⟨b27,0,none⟩) (N+1) (N+1)],.blk b27 (ij st'.by_),.blk b5 [.slice (some ⟨bc,0,none⟩) (N+1) (N+1)],.blk bc (Is st'.cost),.blk b2 [.pointer (some ⟨bf,0,none⟩)]]∧
     q8 (N+1) (dy s.cK ts) (fun v=>gi lf v<0) D k ag st'∧WM (N+1) D st'≤WM (N+1) D st∧(ag=true→WM (N+1) D st'<WM (N+1) D st)) (Ix:=fun _ _ _=>False)
    (by rintro k _ _ σ g1 ⟨g2,g3⟩;exact ⟨g2.trans g1,g3⟩) (fun _ _ _ _ _ h=>h) ⟨HLe.refl _,st,false,rfl,hW.next,Nat.le_refl _,fun h=>by cases h⟩ ?_ ?_ (fun D c H' σb w _ h _=>h.elim)
   ·rintro l k hk H3 σb3 σf3 w hle3 ⟨hle23,st',ag,rfl,hW',hm1,hm2⟩ hs ⟨rr,hrr⟩
    obtain ⟨x,hx⟩:=nth (l:=dy s.cK ts) (by simpa using hk)
    obtain ⟨c1,c2,c3,c4,c5,c6⟩:=hg.ok x (List.mem_of_getElem? hx)
    rw [Af hx]
    have hlc':=hW'.lc
    have hlb':=hW'.lb
    have lo1:=hW'.lo x.f c1
    have lo2:=hg.d1 x.f c1
    have hx3:cellAt H3 bl x.t=some (I (gi lf x.t)):=((hF.mono (hle1.trans (hle2.trans hle3))).d).at x.t (AS (bJ aj) sp)
    have hf33:cellAt H3 bf 3=some (.slice (some ⟨bl,0,none⟩) lf.length cl):=cellAt.mono hf3 (hle1.trans (hle2.trans hle3))
    refine .region ?_
    refine .o (.alloc hs dE rfl fun b10 w hs=>?_)
    refine .o (.aO (vs:=x.v) hs rfl rfl aH fun w hs=>?_)
    refine .nil ?_
    refine nT ?_
    refine ⟨H3,[.blk b10 x.v,.blk b9 [.bool ag],.blk b6 [.slice (some ⟨b27,0,none⟩) (N+1) (N+1)],.blk b27 (ij st'.by_),.blk b5 [.slice (some ⟨bc,0,none⟩) (N+1) (N+1)],.blk bc (Is st'.cost),.blk b2 [.pointer (some ⟨bf,0,none⟩)]],HLe.refl _,hs,?_⟩;rintro w σf4 - hs
    refine .block ?_
    refine .seq (.draw mix rfl hs fun w hs=>?_)
    refine .y 0 rfl hs ak ?_;refine .z 1 rfl (zfa cP) ?_;refine .y 2 rfl hs ae ?_
    first|(refine .ixv 3 rfl hs ad ai ?_;intro b55 o55 hc55)|refine .z 3 rfl (zix ad ai) ?_
    refine .y 4 rfl hs ae ?_;refine .z 5 rfl gp ?_;refine .z 6 rfl zm ?_
    refine .kf (t':=58) rfl (fun hb58=>?_) (fun hb58=>?_)
    ·refine .y 7 rfl hs ak ?_;refine .z 8 rfl (zfa cP) ?_;refine .y 9 rfl hs ae ?_
     first|(refine .ixv 10 rfl hs ad ai ?_;intro b62 o62 hc62)|refine .z 10 rfl (zix ad ai) ?_
     refine .y 11 rfl hs ae ?_;refine .z 12 rfl (zfa eu) ?_;refine .y 13 rfl hs ae ?_;refine .z 14 rfl cC ?_;refine .y 15 rfl hs ak ?_;refine .z 16 rfl (zfa c8) ?_;refine .y 17 rfl hs ae ?_
     first|(refine .ixv 18 rfl hs ad ai ?_;intro b70 o70 hc70)|refine .z 18 rfl (zix ad ai) ?_
     refine .y 19 rfl hs ae ?_;refine .z 20 rfl gp ?_;refine .z 21 rfl zpT ?_;refine .z 22 rfl zm ?_
     refine .kf (t':=74) rfl (fun hb74=>?_) (fun hb74=>?_)
     ·refine .y 23 rfl hs pC ?_;refine .z 24 rfl znc ?_;refine .z 25 rfl (zfa dr) ?_;refine .y 26 rfl hs ak ?_;refine .z 27 rfl (zfa c8) ?_;refine .y 28 rfl hs ae ?_
      first|(refine .ixv 29 rfl hs ad ai ?_;intro b81 o81 hc81)|refine .z 29 rfl (zix ad ai) ?_
      refine .y 30 rfl hs ae ?_;refine .z 31 rfl zk ?_;refine .z 32 rfl zm ?_
      refine .kf (t':=84) rfl (fun hb84=>?_) (fun hb84=>?_)
      ·refine .qF (i:=33) rfl au rfl rfl ?_
       refine .qF (i:=34) rfl au rfl rfl ?_
       refine .qF (i:=35) rfl au rfl rfl ?_
       refine .qF (i:=36) rfl au rfl rfl ?_
       refine .qF (i:=37) rfl au rfl rfl ?_
       refine .qF (i:=38) rfl au rfl rfl ?_
       refine .qF (i:=39) rfl au rfl rfl ?_
       refine .qF (i:=40) rfl au rfl rfl ?_
       refine .qF (i:=41) rfl au rfl rfl ?_
       refine .z 42 rfl zpT ?_;refine .z 43 rfl zpT ?_;refine .D hs ?_
       refine (.cT ?_)
       refine .draw mix rfl hs fun w hs=>?_
       refine .y 0 rfl hs ak ?_;refine .z 1 rfl (zfa c8) ?_;refine .y 2 rfl hs ae ?_;refine .y 3 rfl hs eA ?_;refine .z 4 rfl (zfa c8) ?_;refine .y 5 rfl hs ae ?_;refine .y 6 rfl hs ak ?_;refine .z 7 rfl (zfa cP) ?_;refine .y 8 rfl hs ae ?_
       first|(refine .ixv 9 rfl hs ad ai ?_;intro b105 o105 hc105)|refine .z 9 rfl (zix ad ai) ?_
       refine .y 10 rfl hs ae ?_;refine .z 11 rfl (zfa eu) ?_;refine .y 12 rfl hs ae ?_;refine .z 13 rfl cC ?_
       refine .wS (i:=14) (vs:=x.v) hs rfl au .none rfl fP aH ?_
       first|(refine .ixv 15 rfl hs ad ai ?_;intro b111 o111 hc111)|refine .z 15 rfl (zix ad ai) ?_
       refine .E 16 hs ?_
       refine .store hs rfl rfl ai ?_;intro w hs
       refine .go ?_
       first|(refine .ixw 17 rfl hs az aH ?_;intro b112 o112 hc112)|refine .z 17 rfl (sO az aH) ?_
       refine .E 18 hs ?_
       refine .aO (vs:=x.v) hs rfl rfl aH ?_;intro w hs
       refine .go ?_
       refine .E 19 hs ?_
       refine .store hs rfl rfl sn ?_;intro w hs
       refine .go ?_
       refine .D hs ?_
       refine nB ?_
       have:=hW'.less hg hx hb58 hb74
       exact ⟨H3,_,HLe.refl _,hs.tail,hle23,st'.rlx x,true,rfl,hW'.ve hg hx hb58 hb74,aj,fun _=>by omega⟩
      ·refine .y 33 rfl hs ak ?_;refine .z 34 rfl (zfa cP) ?_;refine .y 35 rfl hs ae ?_
       first|(refine .ixv 36 rfl hs ad ai ?_;intro b88 o88 hc88)|refine .z 36 rfl (zix ad ai) ?_
       refine .y 37 rfl hs ae ?_;refine .z 38 rfl (zfa eu) ?_;refine .y 39 rfl hs ae ?_;refine .z 40 rfl cC ?_;refine .z 41 rfl gp ?_;refine .z 42 rfl zpF ?_;refine .z 43 rfl zpT ?_;refine .D hs ?_
       refine (.ck rfl (fun hc95=>?_) (fun hc95=>?_))
       ·refine .draw mix rfl hs fun w hs=>?_
        refine .y 0 rfl hs ak ?_;refine .z 1 rfl (zfa c8) ?_;refine .y 2 rfl hs ae ?_;refine .y 3 rfl hs eA ?_;refine .z 4 rfl (zfa c8) ?_;refine .y 5 rfl hs ae ?_;refine .y 6 rfl hs ak ?_;refine .z 7 rfl (zfa cP) ?_;refine .y 8 rfl hs ae ?_
        first|(refine .ixv 9 rfl hs ad ai ?_;intro b105 o105 hc105)|refine .z 9 rfl (zix ad ai) ?_
        refine .y 10 rfl hs ae ?_;refine .z 11 rfl (zfa eu) ?_;refine .y 12 rfl hs ae ?_;refine .z 13 rfl cC ?_
        refine .wS (i:=14) (vs:=x.v) hs rfl au .none rfl fP aH ?_
        first|(refine .ixv 15 rfl hs ad ai ?_;intro b111 o111 hc111)|refine .z 15 rfl (zix ad ai) ?_
        refine .E 16 hs ?_
        refine .store hs rfl rfl ai ?_;intro w hs
        refine .go ?_
        first|(refine .ixw 17 rfl hs az aH ?_;intro b112 o112 hc112)|refine .z 17 rfl (sO az aH) ?_
        refine .E 18 hs ?_
        refine .aO (vs:=x.v) hs rfl rfl aH ?_;intro w hs
        refine .go ?_
        refine .E 19 hs ?_
        refine .store hs rfl rfl sn ?_;intro w hs
        refine .go ?_
        refine .D hs ?_
        refine nB ?_
        have:=hW'.less hg hx hb58 hb74
        exact ⟨H3,_,HLe.refl _,hs.tail,hle23,st'.rlx x,true,rfl,hW'.ve hg hx hb58 hb74,aj,fun _=>by omega⟩
       ·refine .skip ?_
        refine nB ?_
        have:=hW'.src x.t c2 aj
        omega
     ·refine .qF (i:=23) rfl au rfl rfl ?_
      refine .qF (i:=24) rfl au rfl rfl ?_
      refine .qF (i:=25) rfl au rfl rfl ?_
      refine .qF (i:=26) rfl au rfl rfl ?_
      refine .qF (i:=27) rfl au rfl rfl ?_
      refine .qF (i:=28) rfl au rfl rfl ?_
      refine .qF (i:=29) rfl au rfl rfl ?_
      refine .qF (i:=30) rfl au rfl rfl ?_
      refine .qF (i:=31) rfl au rfl rfl ?_
      refine .qF (i:=32) rfl au rfl rfl ?_
      refine .qF (i:=33) rfl au rfl rfl ?_
      refine .qF (i:=34) rfl au rfl rfl ?_
      refine .qF (i:=35) rfl au rfl rfl ?_
      refine .qF (i:=36) rfl au rfl rfl ?_
      refine .qF (i:=37) rfl au rfl rfl ?_
      refine .qF (i:=38) rfl au rfl rfl ?_
      refine .qF (i:=39) rfl au rfl rfl ?_
      refine .qF (i:=40) rfl au rfl rfl ?_
      refine .qF (i:=41) rfl au rfl rfl ?_
      refine .qF (i:=42) rfl au rfl rfl ?_
      refine .z 43 rfl zpF ?_;refine .D hs ?_
      refine (.cF ?_)
      refine .skip ?_
      refine nB ?_
      exact ⟨H3,_,HLe.refl _,hs.tail,hle23,st',ag,rfl,hW'.skip hx (fun h=>hb74 h.2),hm1,hm2⟩
    ·refine .qF (i:=7) rfl au rfl rfl ?_
     refine .qF (i:=8) rfl au rfl rfl ?_
     refine .qF (i:=9) rfl au rfl rfl ?_
     refine .qF (i:=10) rfl au rfl rfl ?_
     refine .qF (i:=11) rfl au rfl rfl ?_
     refine .qF (i:=12) rfl au rfl rfl ?_
     refine .qF (i:=13) rfl au rfl rfl ?_
     refine .qF (i:=14) rfl au rfl rfl ?_
     refine .qF (i:=15) rfl au rfl rfl ?_
     refine .qF (i:=16) rfl au rfl rfl ?_
     refine .qF (i:=17) rfl au rfl rfl ?_
     refine .qF (i:=18) rfl au rfl rfl ?_
     refine .qF (i:=19) rfl au rfl rfl ?_
     refine .qF (i:=20) rfl au rfl rfl ?_
     refine .z 21 rfl zpF ?_;refine .z 22 rfl zm ?_
     refine .qF (i:=23) rfl au rfl rfl ?_
     refine .qF (i:=24) rfl au rfl rfl ?_
     refine .qF (i:=25) rfl au rfl rfl ?_
     refine .qF (i:=26) rfl au rfl rfl ?_
     refine .qF (i:=27) rfl au rfl rfl ?_
     refine .qF (i:=28) rfl au rfl rfl ?_
     refine .qF (i:=29) rfl au rfl rfl ?_
     refine .qF (i:=30) rfl au rfl rfl ?_
     refine .qF (i:=31) rfl au rfl rfl ?_
     refine .qF (i:=32) rfl au rfl rfl ?_
     refine .qF (i:=33) rfl au rfl rfl ?_
     refine .qF (i:=34) rfl au rfl rfl ?_
     refine .qF (i:=35) rfl au rfl rfl ?_
     refine .qF (i:=36) rfl au rfl rfl ?_
     refine .qF (i:=37) rfl au rfl rfl ?_
     refine .qF (i:=38) rfl au rfl rfl ?_
     refine .qF (i:=39) rfl au rfl rfl ?_
     refine .qF (i:=40) rfl au rfl rfl ?_
     refine .qF (i:=41) rfl au rfl rfl ?_
     refine .qF (i:=42) rfl au rfl rfl ?_
     refine .z 43 rfl zpF ?_;refine .D hs ?_
     refine (.cF ?_)
     refine .skip ?_
     refine nB ?_
     exact ⟨H3,_,HLe.refl _,hs.tail,hle23,st',ag,rfl,hW'.skip hx (fun h=>hb58 h.1),hm1,hm2⟩
   ·rintro D3 H3 σb3 w hle3 ⟨hle23,st',ag,rfl,hW',hm1,hm2⟩ hs
    replace hs:St H3 w (.blk b9 [.bool ag]:: .blk b6 [.slice (some ⟨b27,0,none⟩) (N+1) (N+1)]:: .blk b27 (ij st'.by_):: .blk b5 [.slice (some ⟨bc,0,none⟩) (N+1) (N+1)]:: .blk bc (Is st'.cost):: .blk b2 [.pointer (some ⟨bf,0,none⟩)]::(mes (D3::Ds)++σ)):=St.deep (σ1:=[_,_,_,_,_,_]) hs
    rw [List.length_map] at hW'
    refine nB (nB (nT ?_))
    refine .af (.y hs (zld Tryz.isAgg4) (.nil (.region ?_)))
    refine .o (.alloc hs Tryz.zeroValue4 rfl fun b9 w hs=>?_)
    refine .o (.store hs rfl rfl sn fun w hs=>?_)
    refine .nil ?_
    refine nT ?_
    exact ⟨(b9,D3::Ds,H3,st',ag),bD,⟨hle1.trans (hle2.trans hle3),⟨_,hW',fun _=>rfl⟩,hs.sb⟩,by
      dsimp only
      cases ag with
      |false=>simp;omega
      |true=>have:=hm2 rfl;simp;omega⟩
  ·refine .exit ?_
   refine xT (xT (xB (nT ?_)))
   refine .seq (.af ?_)
   subst hc48
   obtain rfl:=hj rfl
   refine .y hs (zld ak) (.z zm ?_)
   first|(refine .ixv hs ad ai ?_;intro b116 o116 hc116)|refine .z (zix ad ai) ?_
   refine .y hs (zld ae) (.z ir (.nil ?_))
   refine (.ck rfl (fun hc118=>?_) (fun hc118=>?_))
   ·refine .af (.z zg (.nil ?_))
    refine .ret (rT (?_))
    refine Fin.gI Ds [_,_,_,_,_,_] hs fun w hs=>⟨_,results1 Tryz.results268 rfl,H1,[],.nul,hle1,.nil 4 none,(hs.sb).nul,hW.none hg hc118⟩
   ·refine .skip ?_
    refine nT ?_
    refine .af (.z zg (.nil (.seq (.af (.z zm (.z zg (.nil (.block ?_))))))))
    have hreach:gi st.cost to<far:=by have:=hW.top to hto;have e:far=1152921504606846976:=rfl;omega
    obtain ⟨kk,cc,u,hbk,hroot,hkn,hk0,hcl,hway⟩:=hW.back hg hto hreach hpos
    refine .loop (fun p:Nat×Nat×Value×Ent=>⟨141,marks Ds,[(11,p.2.2.1),(12,I p.2.1),(6,.pointer (some ⟨b6,0,none⟩))]⟩)
     (fun p w=>p.1≤kk∧(p.2.1<N+1∧gi st.cost p.2.1<far)∧bS 4 p.2.2.1 (ij (lz st.by_ to p.1)) p.2.2.2∧(∃d,fA st.by_ to p.1 d p.2.1)∧(∃d,fA st.by_ p.2.1 (kk - p.1) d u)∧
      St H1 w (p.2.2.2:: .blk b9 [.bool false]:: .blk b6 [.slice (some ⟨b27,0,none⟩) (N+1) (N+1)]:: .blk b27 (ij st.by_):: .blk b5 [.slice (some ⟨bc,0,none⟩) (N+1) (N+1)]:: .blk bc (Is st.cost):: .blk b2 [.pointer (some ⟨bf,0,none⟩)]::(mes Ds++σ)))
     (fun p=>kk - p.1) (0,to,.slice none 0 0,.nul) bD ⟨Nat.zero_le _,⟨hto,hreach⟩,.nil 4 none,⟨0,.nil⟩,⟨cc,hbk⟩,hs.nul⟩ ?_
    rintro ⟨i,v,v11,en⟩ w ⟨hik,⟨hv1,hv2⟩,hO,⟨d1,hb1⟩,⟨d2,hb2⟩,hs⟩
    dsimp only at hik hv1 hv2 hO hb1 hb2 hs ⊢
    have hvb:v<st.by_.length:=by omega
    refine .seq (.af (.y hs (zld eA) (.z zm ?_)))
    first|(refine .ixw hs az aH ?_;intro b122 o122 hc122)|refine .z (sO az aH) ?_
    refine .z (zfa dq) ?_
    refine .q hs (fR rfl ae (hv:=(pz hvb (j:=3) aj).trans rfl)) ?_
    refine .z zk (.nil ?_)
    refine (.ck rfl (fun hc125=>?_) (fun hc125=>?_))
    ·refine .skip ?_
     refine nT ?_
     refine .seq (.block (.region (.z zm (.y hs (zld eA) (.z zm ?_)))))
     first|(refine .ixw hs az aH ?_;intro b134 o134 hc134)|refine .z (sO az aH) ?_
     refine .q hs (gU (vs:=(ga st.by_ v).v) rfl fP aH (hv:=yk hvb)) ?_
     refine .o (.buildSlice (cells:=(ga st.by_ v).v) hs nP rfl rfl fun b136 w hs=>?_)
     refine .o (.append (ys:=(ga st.by_ v).v) hs jj rfl rfl hO (.own .here rfl rfl) (by simp [Arc.v,Value.oneCell']) (fun l h=>by rw [dk,iH] at h;omega) ?_);intro v137 en137 w hO2 hs
     refine .z zg (.nil ?_)
     refine nB (nT ?_)
     refine .region (.y hs (zld eA) (.z zm ?_))
     first|(refine .ixw hs az aH ?_;intro b128 o128 hc128)|refine .z (sO az aH) ?_
     refine .z (zfa cP) ?_
     refine .q hs (fR rfl ae (hv:=(pz hvb (j:=0) aj).trans rfl)) ?_
     refine .z zg (.nil ?_)
     refine nT ?_
     obtain ⟨g1,g2⟩:=hcl v hv1 hv2 hc125
     obtain ⟨m,hm⟩:∃m,kk - i=m+1:=by
      refine ⟨kk - i - 1,?_⟩
      rcases Nat.lt_or_ge i kk with h|h
      ·omega
      ·obtain e:kk - i=0:=by omega
       rw [e] at hb2
       cases hb2
       omega
     rw [hm] at hb2
     obtain ⟨d3,hb3⟩:∃d,fA st.by_ (ga st.by_ v).f m d u:=by cases hb2 with|cons _ t=>exact ⟨_,t⟩
     rw [←AW,←yp hb1] at hO2
     exact ⟨(i+1,(ga st.by_ v).f,v137,en137),bD,⟨by dsimp only;omega,⟨g1,g2⟩,hO2,⟨_,hb1.trans (.cons hc125 .nil)⟩,⟨d3,by rw [show kk - (i+1)=m by omega];exact hb3⟩,hs.sb⟩,by dsimp only;omega⟩
    ·refine .exit ?_
     refine xT (xT (xB (nT ?_)))
     refine .af ?_
     obtain rfl:i=kk:=by
      rcases Nat.lt_or_ge i kk with h|h
      ·obtain ⟨m,hm⟩:∃m,kk - i=m+1:=⟨kk - i - 1,aj⟩
       rw [hm] at hb2
       cases hb2 with
       |cons hl _=>omega
      ·omega
     refine .z zm ?_
     refine .o (.call Tryz.call289 rfl (nx hs hO (by rw [iH];omega)) ?_);rintro v139 w ⟨en',hO',hs⟩
     refine .nil (.af (.z zm (.z zg (.nil ?_))))
     refine .ret ?_
     refine Fin.gI Ds [_,_,_,_,_,_,_] hs fun w hs=>⟨_,results1 Tryz.results268 rfl,H1,_,en',hle1,hO',hs.sb,hway _ rfl⟩
theorem yf{s:cq}{x:Arc}(hok:s.Ok)(hx:yZ s.cK x):∃(i:Nat) (l:Lim),s.bV[i]? =some l∧x.l=(i:Int)∧(l.A=(x.f:Int)↔fwd s.cK x)∧i<s.bV.length:=by
 obtain ⟨i,y,h1,h2⟩:=hx
 have hl:=px h1
 have hlt:i<s.bV.length:=by have:=(List.getElem?_eq_some_iff.1 h1).1;simpa [cq.cK,dR] using this
 obtain ⟨l,hl2⟩:=nth hlt
 have h3:=jm hl2
 have h1':(lh s.bV)[i]? =some y:=h1
 rw [h3] at h1'
 cases h1'
 obtain ⟨a1,a2,_⟩:=hok.arc (List.mem_of_getElem? hl2) i
 refine ⟨i,l,hl2,?_,?_,hlt⟩
 ·rcases h2 with rfl|rfl<;>rfl
 ·have hg:ga s.cK i=l.arc i:=by simp [ga,cq.cK,h3]
  have hxl:x.l.toNat=i:=by rcases h2 with rfl|rfl<;>rfl
  unfold fwd
  rw [hxl,hg,←a1]
  exact ⟨fun e=>by exact_mod_cast e,fun e=>by exact_mod_cast e⟩
theorem iQ{bf:Nat}{s:cq}{vl vt vd:Value}{x:Arc}(hs:St H w σ)(hok:s.Ok)(hf:Row H bf [I s.many,vl,vt,vd])(hl:RL H vl s.bV)(hx:yZ s.cK x):
  Cl Tryz.prog 290 [.pointer (some ⟨bf,0,none⟩),.agg x.v.toArray] w fun v w'=>v= .bool (decide (fwd s.cK x))∧St H w' σ:=by
 obtain ⟨i,l,hl1,hxl,hfw,hil⟩:=yf hok hx
 have hf1:cellAt H bf 1=some vl:=hf.at 1
 refine Cl.o Tryz.func290 Tryz.ntmps290 ag2 ?_
 refine .af ?_
 refine .bx hs fun b3 w hs=>?_
 refine .z zg (.nil ?_)
 refine .seq (.draw mix rfl hs fun w hs=>?_)
 refine .z 0 rfl zm ?_;refine .z 1 rfl znc ?_;refine .z 2 rfl (zfa ew) ?_;refine .z 3 rfl (zfa bF) ?_;refine .y 4 rfl hs cA ?_;refine .z 5 rfl (zfa dq) ?_;refine .y 6 rfl hs ae ?_
 refine .ixX (i:=7) hs rfl au .none hl rfl rfl aN bj hl1 hxl ?_;intro b12 o12 hc12
 have hA:cellAt H b12 o12=some (I l.A):=hc12.get 0 rfl
 refine .z 8 rfl (zfa dH) ?_;refine .y 9 rfl hs ae ?_;refine .z 10 rfl (zfa cP) ?_;refine .y 11 rfl hs ae ?_;refine .z 12 rfl ir ?_;refine .z 13 rfl zg ?_;refine .D hs ?_
 refine .ret (Fin.bI Tryz.results290 rfl ?_)
 exact ⟨by simp only [decide_eq_decide.2 hfw],hs.out⟩
theorem mT{bf bt bl cl u v:Nat}{s:cq}{ts lf:List Int}{wt:Nat→Int}{vl vp:Value}{sp:List Value}{p:List Arc}(hs:St H w (.blk bt (Is ts):: .blk bl (Is lf++sp)::σ))(hok:s.Ok)
  (hf:Row H bf [I s.many,vl,.slice (some ⟨bt,0,none⟩) ts.length ts.length,.slice (some ⟨bl,0,none⟩) lf.length cl]) (hl:RL H vl s.bV) (hp:RS H 4 vp (p.map Arc.v)) (hI:uF s.n s.cK wt ts lf) (hw:DG s.cK ts lf s.n p u v) (hpn:p≠[]) (hpl:p.length<s.n):
  Cl Tryz.prog 269 [.pointer (some ⟨bf,0,none⟩),vp] w fun _ w'=>St H w' (.blk bt (Is (fl s.cK (qi s.cK ts lf p u v) ts p)):: .blk bl (Is (wT lf (qi s.cK ts lf p u v) u v)++sp)::σ):=by
 have hN1:=hok.m1
 have hn65:s.n≤65:=by simp only [cq.n];have:=hok.m0;omega
 have hnum:yg s.cK:=fun i x hx=>⟨px hx,(hok.cK.2 x (List.mem_of_getElem? hx)).2.2.2.2.2⟩
 have hlt:=hI.lt
 have hll:=hI.ll
 obtain ⟨m0,m1,m2,m3⟩:=tM hlt.symm hnum hw
 have hsu:=hI.sg u hw.un
 have hsv:=hI.sg v hw.vn
 have hun:u<lf.length:=by rw [hll];exact hw.un
 have hvn:v<lf.length:=by rw [hll];exact hw.vn
 obtain ⟨a,cap,hvp⟩:=hp.shape
 rw [List.length_map] at hvp
 subst hvp
 have hp0:0<p.length:=List.length_pos_iff.2 hpn
 obtain ⟨x0,hx0⟩:=nth hp0
 obtain ⟨x1,hx1⟩:=nth (l:=p) (k:=p.length - 1) aj
 have hh:=hw.ch.head hx0
 have hla:=hw.ch.last hx1
 have hf2:cellAt H bf 2=some (.slice (some ⟨bt,0,none⟩) ts.length ts.length):=hf.at 2
 have hf3:cellAt H bf 3=some (.slice (some ⟨bl,0,none⟩) lf.length cl):=hf.at 3
 have hix:∀x∈p,yZ s.cK x∧x.l.toNat<ts.length∧x.l=(x.l.toNat:Int):=fun x hx=>by
  obtain ⟨g1,g2,_⟩:=kP hlt.symm hnum (hw.mem x hx)
  obtain ⟨i,l,_,g3,_⟩:=yf hok g1
  exact ⟨g1,g2,by rw [g3];simp⟩
 simp only [FF] at hsu hsv
 have huv:v≠u:=fun e=>by have:=hw.lu;have:=hw.lv;rw [e] at*;omega
 have htt:∀i<ts.length,0≤gi ts i∧gi ts i≤3600000000000:=fun i hi=>by
  have h1:=hI.nn i aj
  have h2:=hI.tb i aj
  have h3:0≤rem s.n lf:=db fun v _=>by omega
  simp only [FF] at h2
  omega
 have hM:qi s.cK ts lf p u v=least s.cK ts (min (-gi lf u) (gi lf v)) p:=rfl
 generalize qi s.cK ts lf p u v=M at*
 have hgv:gi (lf.set u (gi lf u+M)) v=gi lf v:=by rw [fm hun,if_neg huv]
 refine Cl.o Tryz.func269 Tryz.ntmps269 ag2 ?_
 refine .seq (.draw mix rfl hs fun w hs=>?_)
 refine .z 0 rfl zm ?_
 refine .ixX (i:=1) hs rfl au .none hp rfl rfl az aH hx0 rfl ?_;intro b12 o12 hc12
 have h14:cellAt H b12 (o12+0)=some (I u):=by rw [←hh];exact hc12.get 0 rfl
 refine .z 2 rfl (zfa cP) ?_;refine .y 3 rfl hs ae ?_;refine .z 4 rfl zm ?_;refine .z 5 rfl zm ?_;refine .z 6 rfl (c9 az) ?_;refine .z 7 rfl hZ ?_
 refine .ixX (i:=8) hs rfl au .none hp rfl rfl az aH hx1 aj ?_;intro b19 o19 hc19
 have h21:cellAt H b19 (o19+1)=some (I v):=by rw [←hla];exact hc19.get 1 rfl
 refine .z 9 rfl (zfa c8) ?_;refine .y 10 rfl hs ae ?_;refine .z 11 rfl zg ?_;refine .z 12 rfl zg ?_;refine .D hs ?_
 refine .seq (.draw mix rfl hs fun w hs=>?_)
 refine .z 0 rfl zm ?_;refine .z 1 rfl znc ?_;refine .z 2 rfl (zfa dr) ?_;refine .y 3 rfl hs ak ?_;refine .z 4 rfl zm ?_
 first|(refine .ixv 5 rfl hs ad ai ?_;intro b27 o27 hc27)|refine .z 5 rfl (zix ad ai) ?_
 refine .load (i:=6) hs rfl au .none rfl ae ?_ (hv:=eQ hun sp)
 refine .z 7 rfl zj ?_;refine .z 8 rfl zm ?_;refine .z 9 rfl znc ?_;refine .z 10 rfl (zfa dr) ?_;refine .y 11 rfl hs ak ?_;refine .z 12 rfl zm ?_
 first|(refine .ixv 13 rfl hs ad ai ?_;intro b35 o35 hc35)|refine .z 13 rfl (zix ad ai) ?_
 refine .load (i:=14) hs rfl au .none rfl ae ?_ (hv:=eQ hvn sp)
 refine .z 15 rfl A3 ?_;refine .z 16 rfl zg ?_;refine .D hs ?_
 refine .seq (.af (.z zm (.z (c9 az) (.z zm (.nil ?_)))))
 refine .for (N:=p.length) (J:=fun k fr w=>fr=[(38,.slice a p.length cap),(6,I (least s.cK ts (min (-gi lf u) (gi lf v)) (p.take k))),(0,.pointer (some ⟨bf,0,none⟩)),(1,.slice a p.length cap),(4,I u),(5,I v)]∧St H w (.blk bt (Is ts):: .blk bl (Is lf++sp)::σ)) aj ?_ ?_ ?_
 ·exact .mk ⟨rfl,hs⟩
 ·rintro k fr w hk ⟨rfl,hs⟩
  obtain ⟨x,hx⟩:=nth hk
  obtain ⟨g1,g2,g3⟩:=hix x (List.mem_of_getElem? hx)
  refine .block (.af ?_)
  refine .ixX hs hp rfl rfl az aH hx rfl ?_;intro b42 o42 hc42
  refine .q hs (cd (vs:=x.v) rfl fP aH hc42) ?_
  refine .o (.alloc hs dE rfl fun b8 w hs=>?_)
  refine .o (.aO (vs:=x.v) hs rfl rfl aH fun w hs=>?_)
  refine .nil (.af (.z zm ?_))
  refine .q hs (gU (vs:=x.v) rfl fP aH) ?_
  refine .o (.call Tryz.call290 rfl (iQ hs hok hf hl g1) ?_);rintro _ w ⟨rfl,hs⟩
  refine .z iq (.nil ?_)
  refine (.cond rfl (fun hc47=>?_) (fun hc47=>?_))
  ·refine .draw mix rfl hs fun w hs=>?_
   refine .z 0 rfl zm ?_;refine .z 1 rfl zm ?_;refine .z 2 rfl znc ?_;refine .z 3 rfl (zfa fV) ?_;refine .y 4 rfl hs ak ?_;refine .z 5 rfl (zfa dq) ?_;refine .y 6 rfl hs ae ?_
   refine .z 7 rfl (iI (k:=x.l.toNat) rfl rfl ad ai g3 g2) ?_
   refine .y 8 rfl hs ae ?_;refine .z 9 rfl A3 ?_;refine .z 10 rfl zg ?_;refine .D hs ?_
   refine nB (nT ?_)
   have e:min (least s.cK ts (min (-gi lf u) (gi lf v)) (p.take k)) (gi ts x.l.toNat)=least s.cK ts (min (-gi lf u) (gi lf v)) (p.take (k+1)):=by rw [cM hx,s9,if_neg (by simpa using hc47)]
   exact .mk ⟨rfl,hs.tail⟩ (hs:= .cons rfl (.cons rfl (.cons rfl (.de rfl e (.cons rfl (.cons rfl (.cons rfl (.cons rfl (.nil rfl rfl)))))))))
  ·refine .skip ?_
   refine nB (nT ?_)
   have e:least s.cK ts (min (-gi lf u) (gi lf v)) (p.take k)=least s.cK ts (min (-gi lf u) (gi lf v)) (p.take (k+1)):=by rw [cM hx,s9,if_pos (by simpa using hc47)]
   exact .mk ⟨rfl,hs.tail⟩ (hs:= .cons rfl (.cons rfl (.cons rfl (.de rfl e (.cons rfl (.cons rfl (.cons rfl (.cons rfl (.nil rfl rfl)))))))))
 ·rintro fr w ⟨rfl,hs⟩
  have e6:least s.cK ts (min (-gi lf u) (gi lf v)) (List.take p.length p)=M:=by rw [List.take_length];exact hM.symm
  rw [e6]
  refine nT ?_
  refine .seq (.af (.z zm (.z (c9 az) (.z zm (.nil ?_)))))
  refine .for (N:=p.length) (J:=fun k fr w=>fr=[(59,.slice a p.length cap),(6,I M),(0,.pointer (some ⟨bf,0,none⟩)),(1,.slice a p.length cap),(4,I u),(5,I v)]∧St H w (.blk bt (Is (fl s.cK M ts (p.take k))):: .blk bl (Is lf++sp)::σ)) aj ?_ ?_ ?_
  ·exact .mk ⟨rfl,hs⟩
  ·rintro k fr w hk ⟨rfl,hs⟩
   obtain ⟨x,hx⟩:=nth hk
   obtain ⟨g1,g2,g3⟩:=hix x (List.mem_of_getElem? hx)
   have hpl2:=kM s.cK M (p.take k) ts
   have hbd:=zT (es:=s.cK) (m:=M) (ts:=ts) (p:=p.take k) aj (by simp only [FF];omega) (by rw [List.length_take];omega) (fun y hy=>(hix y (List.mem_of_mem_take hy)).2.1) x.l.toNat
   have h9:=htt _ g2
   refine .block (.af ?_)
   refine .ixX hs hp rfl rfl az aH hx rfl ?_;intro b63 o63 hc63
   refine .q hs (cd (vs:=x.v) rfl fP aH hc63) ?_
   refine .o (.alloc hs dE rfl fun b10 w hs=>?_)
   refine .o (.aO (vs:=x.v) hs rfl rfl aH fun w hs=>?_)
   refine .nil (.af (.z zm ?_))
   refine .q hs (gU (vs:=x.v) rfl fP aH) ?_
   refine .o (.call Tryz.call290 rfl (iQ hs hok hf hl g1) ?_);rintro _ w ⟨rfl,hs⟩
   refine .nil ?_
   refine (.cond rfl (fun hc67=>?_) (fun hc67=>?_))
   ·refine .draw mix rfl hs fun w hs=>?_
    refine .z 0 rfl zm ?_;refine .z 1 rfl znc ?_;refine .z 2 rfl (zfa fV) ?_;refine .y 3 rfl hs ak ?_;refine .z 4 rfl (zfa dq) ?_;refine .y 5 rfl hs ae ?_
    refine .z 6 rfl (iI (k:=x.l.toNat) rfl rfl ad ai g3 g2) ?_
    refine .y 7 rfl hs ae ?_;refine .z 8 rfl zm ?_;refine .z 9 rfl cC ?_
    refine .z 10 rfl (iI (k:=x.l.toNat) rfl rfl ad ai g3 g2) ?_
    refine .E 11 hs ?_
    refine .store hs rfl rfl ai ?_;intro w hs
    refine .go ?_
    refine .D hs ?_
    refine nB (nT ?_)
    have e:fl s.cK M ts (p.take (k+1))=(fl s.cK M ts (p.take k)).set x.l.toNat (gi (fl s.cK M ts (p.take k)) x.l.toNat+M):=by rw [cM hx,rL,push,if_pos (by simpa using hc67)]
    exact .mk ⟨rfl,by rw [e];exact hs.tail⟩
   ·refine .draw mix rfl hs fun w hs=>?_
    refine .z 0 rfl zm ?_;refine .z 1 rfl znc ?_;refine .z 2 rfl (zfa fV) ?_;refine .y 3 rfl hs ak ?_;refine .z 4 rfl (zfa dq) ?_;refine .y 5 rfl hs ae ?_
    refine .z 6 rfl (iI (k:=x.l.toNat) rfl rfl ad ai g3 g2) ?_
    refine .y 7 rfl hs ae ?_;refine .z 8 rfl zm ?_;refine .z 9 rfl hZ ?_
    refine .z 10 rfl (iI (k:=x.l.toNat) rfl rfl ad ai g3 g2) ?_
    refine .E 11 hs ?_
    refine .store hs rfl rfl ai ?_;intro w hs
    refine .go ?_
    refine .D hs ?_
    refine nB (nT ?_)
    have e:fl s.cK M ts (p.take (k+1))=(fl s.cK M ts (p.take k)).set x.l.toNat (gi (fl s.cK M ts (p.take k)) x.l.toNat - M):=by rw [cM hx,rL,push,if_neg (by simpa using hc67)]
    exact .mk ⟨rfl,by rw [e];exact hs.tail⟩
  ·rintro fr w ⟨rfl,hs⟩
   rw [List.take_length] at hs
   refine nT ?_
   refine .af (.z zm (.z znc (.z (zfa dr) (.y hs (zld ak) (.z zm ?_)))))
   first|(refine .ixv hs ad ai ?_;intro b96 o96 hc96)|refine .z (zix ad ai) ?_
   refine .q hs (fR rfl ae (hv:=eQ hun sp)) ?_
   refine .z zm (.z cC ?_)
   first|(refine .ixv hs ad ai ?_;intro b100 o100 hc100)|refine .z (zix ad ai) ?_
   refine .o (.store hs rfl rfl ai ?_ dw (mj hun sp) (jD hun sp _));intro w hs
   refine .nil (.region (.z zm (.z znc (.z (zfa dr) (.y hs (zld ak) (.z zm ?_))))))
   first|(refine .ixv hs ad ai ?_;intro b106 o106 hc106)|refine .z (zix ad ai) ?_
   refine .q hs (fR rfl ae (hv:=eQ (by rw [List.length_set];exact hvn) sp)) ?_
   refine .z zm (.z hZ ?_)
   first|(refine .ixv hs ad ai ?_;intro b110 o110 hc110)|refine .z (zix ad ai) ?_
   refine .o (.store hs rfl rfl ai ?_ dw (mj (by rw [List.length_set];exact hvn) sp) (jD (by rw [List.length_set];exact hvn) sp _));intro w hs
   refine .nil ?_
   exact Fin.wm Tryz.results269 hs
theorem Aj{w:List Int}{N k:Nat}(hw:w.length=N+1):gi (w.set 0 (-jL w k)) 0 - gi (w.set 0 (-jL w k)) (k+1)= -jL w (k+1):=by
 rw [fm aj,fm aj,if_pos rfl,if_neg aj]
 simp only [jL,aV];omega
theorem r6{v vw:Value}{s:cq}{ws:List Int}(hs:St H w σ)(hok:s.Ok)(hr:RSy H v s)(hrw:RI H vw ws)(hwl:ws.length=s.n)(hsz:eP ws)(hsnd:s.Sound):
  Cl Tryz.prog 222 [v,vw] w fun v w'=>(v= .tuple #[.pointer none,.bool false]∧nW s.cK (m9 ws s.n) s.n∧St H w' σ)∨
   (∃H1 bf bt bl cl ts lf vl sp,HLe H H1∧v= .tuple #[.pointer (some ⟨bf,0,none⟩),.bool true]∧sf H1 bf s ts lf vl bt bl cl sp∧mu s.n s.cK (m9 ws s.n) ts∧St H1 w' σ):=by
 obtain ⟨vl,rfl,hr⟩:=hr
 obtain ⟨al,cpl,rfl⟩:=RL.shape hr
 obtain ⟨aw,cw,rfl⟩:=RI.shape hrw
 obtain ⟨N,hN⟩:=Int.eq_ofNat_of_zero_le hok.m0
 have hN1:=hok.m1
 have hn:s.n=N+1:=by simp [cq.n,hN]
 have hlim:=hok.len
 have hoka:=hok.cK
 have hal:s.cK.length=s.bV.length:=by simp [cq.cK,dR]
 have hnum:yg s.cK:=fun i x hx=>⟨px hx,(hok.cK.2 x (List.mem_of_getElem? hx)).2.2.2.2.2⟩
 have hin:∀x∈s.cK,x.f<s.n∧x.t<s.n:=fun x hx=>by have:=hoka.2 x hx;omega
 have hwt0:=Cu ws (n:=s.n) aj
 unfold eP at hsz
 rw [hwl] at hsz
 refine Cl.o Tryz.func222 Tryz.ntmps222 ag2 ?_
 refine .af ?_
 refine .bx hs fun b2 w hs=>?_
 refine .z zg (.z zg (.nil ?_))
 refine .scope ?_
 refine .cut (fun fs w=>∃bf bt bl cl sp,mE fs ⟨73,[],[(6,.pointer (some ⟨bf,0,none⟩))]⟩∧St H w (.blk bf [I s.many,.slice al s.bV.length cpl,.slice (some ⟨bt,0,none⟩) s.bV.length s.bV.length,.slice (some ⟨bl,0,none⟩) ws.length cl]:: .blk bt (Is (List.replicate s.bV.length 0)):: .blk bl (Is ws++sp)::σ)) ?_ ?_
 ·refine .draw mix rfl hs fun w hs=>?_
  refine .ys 0 rfl hs [_,_] a8 aC ?_;refine .z 1 rfl (zfa bF) ?_;refine .y 2 rfl hs cA ?_;refine .z 3 rfl (c9 aN) ?_;refine .z 5 rfl zm ?_
  refine .e2 (i:=4) (j:=6) au rfl rfl rfl rfl .none .none hs ?_ ?_
  ·refine .sz s.bV.length hs rfl rfl ad ff rfl ai bM aj ?_;intro b15 w hs
   refine .go ?_
   refine .E 6 hs ?_
   refine .call Tryz.call197 rfl (gH hs hrw aj) ?_;rintro v17 w ⟨en17,hO,hs⟩
   obtain ⟨bl,cl,sp,rfl,rfl,hsp⟩:=hO.some aj
   refine .go ?_
   refine .z 7 rfl (zbd [_,_,_,_] ni) ?_
   refine .E 8 hs ?_
   refine .box hs rfl rfl ?_;intro b19 w hs
   refine .go ?_
   refine .z 9 rfl zg ?_;refine .D hs ?_
   exact nT ⟨b19,b15,bl,cl,sp,bD,hs.sb⟩
  ·refine .call Tryz.call197 rfl (gH hs hrw aj) ?_;rintro v17 w ⟨en17,hO,hs⟩
   obtain ⟨bl,cl,sp,rfl,rfl,hsp⟩:=hO.some aj
   refine .go ?_
   refine .E 4 hs ?_
   refine .sz s.bV.length hs rfl rfl ad ff rfl ai bM aj ?_;intro b15 w hs
   refine .go ?_
   refine .z 7 rfl (zbd [_,_,_,_] ni) ?_
   refine .E 8 hs ?_
   refine .box hs rfl rfl ?_;intro b19 w hs
   refine .go ?_
   refine .z 9 rfl zg ?_;refine .D hs ?_
   exact nT ⟨b19,b15,bl,cl,sp,bD,hs.sb⟩
 ·rintro fs w ⟨bf,bt,bl,cl,sp,hfs,hs⟩
  refine WE.sub ?_ hfs
  obtain ⟨H1,hle1,hRf,hs⟩:=hs.cf .here
  have hf0:cellAt H1 bf 0=some (I (N:Int)):=by have:=hRf.at 0 (v:=I s.many);rwa [hN] at this
  have hf3:cellAt H1 bf 3=some (.slice (some ⟨bl,0,none⟩) ws.length cl):=hRf.at 3
  have hrl:=hr.mono hle1
  refine .af (.z zm (.z znc (.z (zfa dr) (.y hs (zld ak) ?_))))
  refine .q hs (iI (k:=0) rfl rfl ad ai rfl aj) ?_
  refine .o (.store hs rfl rfl ai ?_ dw (mj aj sp) (jD aj sp _));intro w hs
  refine .nil (.seq (.af (.z zm (.z znc (.z (zfa ew) (.z (zfa bB) (.y hs (zld ae) (.z zm (.nil ?_)))))))))
  refine .for (N:=N) (J:=fun k fr w=>fr=[(6,.pointer (some ⟨bf,0,none⟩))]∧St H1 w (.blk bt (Is (List.replicate s.bV.length 0)):: .blk bl (Is (ws.set 0 (-jL ws k))++sp)::σ)) aj ?_ ?_ ?_
  ·exact .mk ⟨rfl,by simpa [jL,aV] using hs⟩
  ·rintro k fr w hk ⟨rfl,hs⟩
   have e:=Aj (w:=ws) (N:=N) (k:=k) aj
   have hb1:=sU ws (k+1)
   have hb2:bA ws (k+1+1)≤bA ws s.n:=my (fun v=>by omega) aj
   simp only [FF] at hsz
   refine .block (.af (.z zm (.z zg (.nil ?_))))
   refine .draw mix rfl hs fun w hs=>?_
   refine .z 0 rfl zm ?_;refine .z 1 rfl znc ?_;refine .z 2 rfl (zfa dr) ?_;refine .y 3 rfl hs ak ?_
   refine .z 4 rfl (iI (k:=0) rfl rfl ad ai rfl aj) ?_
   refine .load (i:=5) hs rfl au .none rfl ae ?_ (hv:=eQ (by rw [List.length_set];omega) sp)
   refine .z 6 rfl zm ?_;refine .z 7 rfl znc ?_;refine .z 8 rfl (zfa dr) ?_;refine .y 9 rfl hs ak ?_;refine .z 10 rfl zm ?_;refine .z 11 rfl cC ?_
   refine .z 12 rfl (iI (k:=k+1) rfl rfl ad ai aj aj) ?_
   refine .load (i:=13) hs rfl au .none rfl ae ?_ (hv:=eQ (by rw [List.length_set];omega) sp)
   refine .z 14 rfl hZ ?_
   refine .z 15 rfl (iI (k:=0) rfl rfl ad ai rfl aj) ?_
   refine .E 16 hs ?_
   refine .store hs rfl rfl ai ?_ dw (mj (by rw [List.length_set];omega) sp) (jD (by rw [List.length_set];omega) sp _);intro w hs
   refine .go ?_
   refine .D hs ?_
   refine nB (nT ?_)
   rw [e,List.set_set] at hs
   exact .mk ⟨rfl,hs⟩
  ·rintro fr w ⟨rfl,hs⟩
   have hI0:uF s.n s.cK (m9 ws s.n) (List.replicate s.bV.length 0) (ws.set 0 (-jL ws N)):=by
    rw [←hal,hn]
    rw [hn] at hsz
    refine uF.start hsz (by rw [List.length_set];omega) (fun v hv=>?_) hsnd
    rw [fm aj]
    cases v with
    |zero=>rw [if_pos rfl,wx]
    |succ v=>rw [if_neg aj,wy]
   refine nT ?_
   refine .seq ?_
   refine .label ?_
   refine nT ?_
   refine .block ?_
   refine .loop (fun _:bP×List Int×List Int=>⟨73,[],[(6,.pointer (some ⟨bf,0,none⟩))]⟩)
    (fun p w=>HLe H1 p.1∧uF s.n s.cK (m9 ws s.n) p.2.1 p.2.2∧St p.1 w (.blk bt (Is p.2.1):: .blk bl (Is p.2.2++sp)::σ)) (fun p=>(rem s.n p.2.2).toNat) (H1,List.replicate s.bV.length 0,ws.set 0 (-jL ws N))
    bD ⟨HLe.refl _,hI0,hs⟩ ?_
   rintro ⟨H2,ts,lf⟩ w ⟨hle2,hI,hs⟩
   dsimp only at hle2 hI hs ⊢
   have hlt:=hI.lt
   have hll:=hI.ll
   have hRf2:Row H2 bf [I s.many,.slice al s.bV.length cpl,.slice (some ⟨bt,0,none⟩) ts.length ts.length,.slice (some ⟨bl,0,none⟩) lf.length cl]:=by
    rw [hlt,hal,hll,←hwl];exact hRf.mono hle2
   have hf32:cellAt H2 bf 3=some (.slice (some ⟨bl,0,none⟩) lf.length cl):=hRf2.at 3
   refine .block (.seq (.af (.z zm (.z znc (.z (zfa dr) (.y hs (zld ak) (.z (c9 ad) (.z zm (.nil ?_)))))))))
   refine .for (N:=lf.length) (J:=fun k fr w=>fr=[(53,.slice (some ⟨bl,0,none⟩) lf.length cl),(6,.pointer (some ⟨bf,0,none⟩))]∧(∀v<k,gi lf v≤0)∧St H2 w (.blk bt (Is ts):: .blk bl (Is lf++sp)::σ)) aj ?_ ?_ ?_
   ·exact .mk ⟨rfl,fun v hv=>by omega,hs⟩
   ·rintro k fr w hk ⟨rfl,hle0,hs⟩
    refine .block (.af (.z zm ?_))
    first|(refine .ixv hs ad ai ?_;intro b58 o58 hc58)|refine .z (zix ad ai) ?_
    refine .q hs (fR rfl ae (hv:=eQ hk sp)) ?_
    refine .z zg (.z zg (.nil (.seq (.af (.z zm (.z wv (.nil ?_)))))))
    refine (.ck rfl (fun hc61=>?_) (fun hc61=>?_))
    ·refine .exit ?_
     refine xT (xB (nT ?_))
     exact .mk ⟨rfl,fun v hv=>by
       by_cases e:v=k
       ·subst e;exact hc61
       ·exact hle0 v aj,hs⟩
    ·refine .skip ?_
     refine nT ?_
     refine .af (.z zm (.z zm ?_))
     obtain ⟨Ha,hla,hra,hsa,-,hba⟩:=hs.uI
     obtain ⟨Hb,hlb,hrb,hsb,-,hbb⟩:=hsa.uI
     refine .o (.call Tryz.call268 rfl (nN (s:=s) (to:=k) hsb hok ⟨hRf2.mono (hla.trans hlb),hr.mono (hle1.trans (hle2.trans (hla.trans hlb))),hra.mono hlb,hrb⟩ aj aj hI.fe aj aj) ?_);rintro v64 w ⟨Hc,p,en,hlc,hO,hsc,hWR⟩
     have hs:=hba (HLe.refl _) (hbb hlc hsc)
     obtain ⟨ap,lp,cp,rfl,hlp⟩:=hO.shape
     obtain rfl:lp=p.length:=by rw [dk] at hlp;omega
     refine .z zg (.nil (.seq (.af (.z zm (.z (c9 az) (.z ir (.nil ?_)))))))
     refine (.ck rfl (fun hc67=>?_) (fun hc67=>?_))
     ·refine .af (.z zg (.z zg (.nil ?_)))
      refine .ret (rT (rB (rT (rB (rT (rB (rT (rB (rS (Fin.kK Tryz.results222 rfl rfl ?_))))))))))
      rcases hWR with ⟨_,R,hS,hR,hto⟩|⟨hp,_⟩
      ·exact .inl ⟨rfl,hI.open hin hS hR aj hto aj,(hs.le (hle1.trans hle2)).out⟩
      ·exact (hp (List.length_eq_zero_iff.1 aj)).elim
     ·refine .skip ?_
      refine nT ?_
      refine .af (.z zm (.z zm ?_))
      obtain ⟨hp,hpl,u,hw⟩:=hWR.resolve_left fun h=>by rw [h.1] at hc67;exact hc67 rfl
      obtain ⟨H3,hle3,hRS,hs⟩:=bS.cf (cs:=p.map Arc.v) hO (fun c hc=>by simp only [List.mem_map] at hc;obtain ⟨x,_,rfl⟩:=hc;rfl) aj (by rw [List.length_map];omega) hs dw
      refine .o (.call Tryz.call269 rfl (mT hs hok (hRf2.mono hle3) (hr.mono (hle1.trans (hle2.trans hle3))) hRS hI hw hp hpl) ?_);rintro v70 w hs
      refine .nil ?_
      refine .exit ?_
      refine xN (xT (xN (xT (xB (nT ?_)))))
      obtain ⟨q1,q2⟩:=hI.send hnum hw aj
      have q3:0≤rem s.n (wT lf (qi s.cK ts lf p u k) u k):=db fun v _=>by omega
      exact ⟨(H3,fl s.cK (qi s.cK ts lf p u k) ts p,wT lf (qi s.cK ts lf p u k) u k),bD,⟨hle2.trans hle3,q1,hs⟩,by dsimp only;omega⟩
   ·rintro fr w ⟨rfl,hle0,hs⟩
    refine nT ?_
    refine .af (.z zm (.z zg (.z zg (.nil ?_))))
    refine .ret (rB (rT (rB (rS (Fin.kK Tryz.results222 rfl rfl ?_)))))
    obtain ⟨H3,l3,r3,hs⟩:=hs.cf .here
    obtain ⟨H4,l4,r4,hs⟩:=hs.cf .here
    exact .inr ⟨H4,bf,bt,bl,cl,ts,lf,_,sp,hle1.trans (hle2.trans (l3.trans l4)),rfl,⟨hRf2.mono (l3.trans l4),hr.mono (hle1.trans (hle2.trans (l3.trans l4))),r3.mono l4,r4⟩,hI.ok hin hwt0 (fun v hv=>hle0 v aj),hs⟩
theorem jW{v:Value}{ws:List Int}(hs:St H w σ)(hr:RI H v ws):Cl Tryz.prog 164 [v] w fun v w'=>∃b,v= .bool b∧(b=true↔eP ws)∧St H w' σ:=by
 obtain ⟨a,c,rfl⟩:=RI.shape hr
 have hl:=(RI.len hr).2.2
 refine Cl.o Tryz.func164 Tryz.ntmps164 ag1 ?_
 refine .af (.z zg (.nil (.af (.z zg (.nil (.seq (.af (.z zm (.z (c9 ad) ?_)))))))))
 refine .z zm (.nil ?_)
 refine .for (N:=ws.length) (J:=fun k fr w=>fr=[(6,.slice a ws.length c),(3,I (3600000000000 - bA ws k))]∧bA ws k≤3600000000000∧St H w σ) aj ?_ ?_ ?_
 ·exact .mk ⟨rfl,by simp [bA,aV],hs⟩
 ·rintro k fr w hk ⟨rfl,hle,hs⟩
  have hx:=bJ hk
  have h0:0≤bA ws k:=db fun v _=>by omega
  have h1:bA ws (k+1)=bA ws k+max (gi ws k) (-gi ws k):=rfl
  refine .block (.af ?_)
  first|(refine .ixv hs ad ai ?_;intro b10 o10 hc10)|refine .z (zix ad ai) ?_
  refine .y hs (zld ae) (.z zg (.nil (.seq (.af (.z zm (.z zm (.z zj (.z gp (.z zm ?_)))))))))
  refine .kf (t':=16) rfl (fun hb16=>?_) (fun hb16=>?_)
  ·refine .gFs 3 4 false rfl rfl rfl ?_
   refine .z zpT (.nil ?_)
   refine (.cT ?_)
   refine .af (.z zg (.nil ?_))
   refine .ret (rT (rB (rT (rB (rT (Fin.bI Tryz.results164 rfl ?_))))))
   exact ⟨false,rfl,⟨fun h=>(by cases h),fun h=>(sW (k:=k+1) hk (by simp only [FF];omega) h).elim⟩,hs⟩
  ·refine .gT rfl rfl ?_
   refine .z zm ?_
   refine .gT rfl rfl ?_
   refine .z zm ?_
   refine .gT rfl rfl ?_
   refine .z od (.z zpF (.nil ?_))
   refine (.ck rfl (fun hc20=>?_) (fun hc20=>?_))
   ·refine .af (.z zg (.nil ?_))
    refine .ret (rT (rB (rT (rB (rT (Fin.bI Tryz.results164 rfl ?_))))))
    exact ⟨false,rfl,⟨fun h=>(by cases h),fun h=>(sW (k:=k+1) hk (by simp only [FF];omega) h).elim⟩,hs⟩
   ·refine .skip ?_
    refine nT ?_
    refine .region (.z zm (.z zm (.z zm (.z zj (.z Cs (.z hZ (.z zg (.nil ?_))))))))
    refine nB (nT ?_)
    exact .mk ⟨rfl,aj,hs⟩ (hs:= .cons rfl (.cons rfl (.cons rfl (.de rfl aj (.nil rfl rfl)))))
 ·rintro fr w ⟨rfl,hle,hs⟩
  refine nT ?_
  refine .af (.z zg (.nil ?_))
  refine .ret (Fin.bI Tryz.results164 rfl ?_)
  exact ⟨true,rfl,⟨fun _=>hle,fun _=>rfl⟩,hs⟩
theorem kW{v vw:Value}{s:cq}{ws:List Int}(hs:St H w σ)(hr:RSy H v s)(hrw:RI H vw ws):Cl Tryz.prog 219 [v,vw] w fun v w'=>v=I (eF s ws)∧St H w' σ:=by
 obtain ⟨vl,rfl,hr⟩:=hr
 obtain ⟨al,cpl,rfl⟩:=RL.shape hr
 obtain ⟨aw,cw,rfl⟩:=RI.shape hrw
 have hlw:=(RI.len hrw).2.2
 have hn:s.check=0→0≤s.many∧s.many≤64∧(s.n:Int)=s.many+1:=fun h=>by
  have h1:=s.bL.1 h
  have:=h1.m0
  have:=h1.m1
  simp only [cq.n];omega
 refine Cl.o Tryz.func219 Tryz.ntmps219 ag2 ?_
 refine .af ?_
 refine .bx hs fun b2 w hs=>?_
 refine .z zg (.nil (.seq (.af (.y hs (zls [_,_] a8 aC) ?_))))
 refine .o (.call Tryz.call125 rfl (gP (s:=s) hs ⟨_,rfl,hr⟩) ?_);rintro _ w ⟨rfl,hs⟩
 refine .z zg (.nil (.af (.z zm (.z fM (.nil ?_)))))
 refine (.eD rfl (fun hc9=>?_) (fun hc9=>?_))
 ·refine .af (.z zm (.z zg (.nil ?_)))
  refine .ret (rT (Fin.bI Tryz.results219 rfl ?_))
  exact ⟨by unfold eF;rw [if_pos hc9],hs.tail⟩
 ·refine .skip ?_
  refine nT ?_
  refine .seq (.af (.z zm ?_))
  obtain ⟨n0,n1,n2⟩:=hn hc9
  refine .z (c9 ad) (.z (zfa bB) (.y hs (zld ae) (.z cC (.z fM (.z zm ?_)))))
  refine .yU (t':=17) rfl (fun hb17=>?_) (fun hb17=>?_)
  ·refine .gFs 3 6 false rfl rfl rfl ?_
   refine .z zpT (.nil ?_)
   refine (.cT ?_)
   refine .af (.z zg (.nil ?_))
   refine .ret (rT (Fin.bI Tryz.results219 rfl ?_))
   exact ⟨by unfold eF;rw [if_neg aj,if_neg aj],hs.tail⟩
  ·refine .gT rfl rfl ?_
   refine .z zm ?_
   refine .gT rfl rfl ?_
   refine .o (.call Tryz.call164 rfl (jW hs hrw) ?_);rintro _ w ⟨bz,rfl,hbz,hs⟩
   refine .gT rfl rfl ?_
   refine .z iq (.z zpF (.nil ?_))
   refine (.cond rfl (fun hc21=>?_) (fun hc21=>?_))
   ·refine .af (.z zg (.nil ?_))
    refine .ret (rT (Fin.bI Tryz.results219 rfl ?_))
    exact ⟨by unfold eF;rw [if_neg aj,if_neg (fun h=>by rw [hbz.2 h.2] at hc21;cases hc21)],hs.tail⟩
   ·refine .skip ?_
    refine nT ?_
    refine .af (.z zg (.nil ?_))
    refine .ret (Fin.bI Tryz.results219 rfl ?_)
    exact ⟨by unfold eF;rw [if_neg aj,if_pos ⟨aj,hbz.1 (by simpa using hc21)⟩],hs.tail⟩
theorem gN{v vw:Value}{s:cq}{ws:List Int}(hs:St H w σ)(hr:RSy H v s)(hrw:RI H vw ws):
  Cl Tryz.prog 158 [v,vw] w fun v w'=>∃H1 e pf,HLe H H1∧v= .tuple #[pf,I e]∧AV s ws e∧St H1 w' σ∧(e≠0→pf= .pointer none)∧
   (e=0→∃bf bt bl cl ts lf vl sp,pf= .pointer (some ⟨bf,0,none⟩)∧sf H1 bf s ts lf vl bt bl cl sp∧mu s.n s.cK (m9 ws s.n) ts∧s.Ok∧bA ws s.n≤FF):=by
 obtain ⟨vl,rfl,hr⟩:=hr
 refine Cl.o Tryz.func158 Tryz.ntmps158 ag2 ?_
 refine .af ?_
 refine .bx hs fun b2 w hs=>?_
 refine .z zg (.z zg (.nil (.seq (.af (.y hs (zls [_,_] a8 aC) (.z zm ?_))))))
 refine .o (.call Tryz.call219 rfl (kW (s:=s) hs ⟨_,rfl,hr⟩ hrw) ?_);rintro _ w ⟨rfl,hs⟩
 refine .z zg (.nil (.af (.z zm (.z fM (.nil ?_)))))
 refine (.eD rfl (fun hc13=>?_) (fun hc13=>?_))
 ·refine .af (.z zm (.z zg (.z zg (.nil ?_))))
  refine .ret (rT (Fin.kK Tryz.results158 rfl rfl ?_))
  exact ⟨H,_,_,HLe.refl _,rfl,.bad hc13,hs.tail,fun _=>rfl,fun h=>(hc13 h).elim⟩
 ·refine .skip ?_
  refine nT ?_
  refine .seq (.af (.y hs (zls [_,_] a8 aC) ?_))
  obtain ⟨hok,hwl,hsz⟩:=mn hc13
  refine .o (.call Tryz.call133 rfl (ie (s:=s) hs hok ⟨_,rfl,hr⟩) ?_);rintro _ w ⟨H1,b,hle1,rfl,hb,hs⟩
  refine .z iq (.nil ?_)
  refine (.cond rfl (fun hc17=>?_) (fun hc17=>?_))
  ·refine .af (.z zg (.z zg (.nil ?_)))
   refine .ret (rT (Fin.kK Tryz.results158 rfl rfl ?_))
   exact ⟨H1,_,_,hle1,rfl,.clash hc13 (fun h=>by rw [hb.2 h] at hc17;cases hc17),hs.tail,fun _=>rfl,fun h=>by cases h⟩
  ·refine .skip ?_
   refine nT ?_
   refine .af (.y hs (zls [_,_] a8 aC) (.z zm ?_))
   have hsnd:s.Sound:=hb.1 (by simpa using hc17)
   refine .o (.call Tryz.call222 rfl (r6 (s:=s) hs hok ⟨_,rfl,hr.mono hle1⟩ (hrw.mono hle1) hwl hsz hsnd) ?_);rintro v21 w hcase
   obtain ⟨pf,bb,H2,hle2,rfl,hs,hT,hF⟩:∃pf bb H2,HLe H1 H2∧v21= .tuple #[pf,.bool bb]∧St H2 w (.blk b2 [I s.many,vl]::σ)∧(bb=false→pf= .pointer none∧nW s.cK (m9 ws s.n) s.n)∧
     (bb=true→∃bf bt bl cl ts lf vl sp,pf= .pointer (some ⟨bf,0,none⟩)∧sf H2 bf s ts lf vl bt bl cl sp∧mu s.n s.cK (m9 ws s.n) ts):=by
    rcases hcase with ⟨rfl,h1,h2⟩|⟨H2,bf,bt,bl,cl,ts,lf,vl,sp,h1,rfl,h2,h3,h4⟩
    ·exact ⟨_,false,H1,HLe.refl _,rfl,h2,fun _=>⟨rfl,h1⟩,fun h=>by cases h⟩
    ·exact ⟨_,true,H2,h1,rfl,h4,fun h=>(by cases h),fun _=>⟨bf,bt,bl,cl,ts,lf,vl,sp,rfl,h2,h3⟩⟩
   refine .z zm (.z zex (.z zex (.z zg (.z zg (.nil (.seq (.af (.z zm (.z iq ?_)))))))))
   refine .nil ?_
   refine (.cond rfl (fun hc25=>?_) (fun hc25=>?_))
   ·refine .af (.z zg (.z zg (.nil ?_)))
    refine .ret (rT (Fin.kK Tryz.results158 rfl rfl ?_))
    exact ⟨H2,_,_,hle1.trans hle2,rfl,.opn hc13 hsnd (hT (by simpa using hc25)).2,hs.tail,fun _=>rfl,fun h=>by cases h⟩
   ·refine .skip ?_
    refine nT ?_
    refine .af (.z zm (.z zg (.z zg (.nil ?_))))
    refine .ret (Fin.kK Tryz.results158 rfl rfl ?_)
    obtain ⟨bf,bt,bl,cl,ts,lf,vl,sp,rfl,h2,h3⟩:=hF (by simpa using hc25)
    have hn0:0<s.n:=by simp [cq.n]
    have hn1:s.n≤65:=by have:=hok.m0;have:=hok.m1;simp only [cq.n];omega
    have hsz':bA ws s.n≤FF:=by unfold eP at hsz;rwa [hwl] at hsz
    exact ⟨H2,_,_,hle1.trans hle2,rfl,.ok hc13 hsnd (h3.value hn0 hn1 hok.cK hsz').2.1,hs.tail,fun h=>(h rfl).elim,fun _=>⟨bf,bt,bl,cl,ts,lf,vl,sp,rfl,h2,h3,hok,hsz'⟩⟩
theorem eN{bf bt bl cl:Nat}{s:cq}{ts lf ws:List Int}{vl:Value}{sp:List Value}(hs:St H w σ)(hok:s.Ok)(hF:sf H bf s ts lf vl bt bl cl sp)(hFo:mu s.n s.cK (m9 ws s.n) ts)(hsz:bA ws s.n≤FF):
  Cl Tryz.prog 160 [.pointer (some ⟨bf,0,none⟩)] w fun v w'=>v=I (dot s.cK ts (·.c))∧zf s.cK (s.wt ws) s.n (dot s.cK ts (·.c))∧dot s.cK ts (·.c)≤BB∧-BB≤dot s.cK ts (·.c)∧St H w' σ:=by
 obtain ⟨hFf,hFl,hFt,hFd⟩:=hF
 obtain ⟨al,cpl,rfl⟩:=RL.shape hFl
 have hlim:=hok.len
 have hal:s.cK.length=s.bV.length:=by simp [cq.cK,dR]
 have hlt:=hFo.lt
 have hn0:0<s.n:=by simp [cq.n]
 have hn1:s.n≤65:=by have:=hok.m0;have:=hok.m1;simp only [cq.n];omega
 have hv:=hFo.value hn0 hn1 hok.cK hsz
 have hd:=AD (es:=s.cK) hlt
 have hf1:cellAt H bf 1=some (.slice al s.bV.length cpl):=hFf.at 1
 have hf2:cellAt H bf 2=some (.slice (some ⟨bt,0,none⟩) ts.length ts.length):=hFf.at 2
 refine Cl.o Tryz.func160 Tryz.ntmps160 ag1 ?_
 refine .af (.z zg (.nil (.af (.z zg (.nil (.seq (.af (.z zm (.z znc ?_)))))))))
 refine .z (zfa ew) (.z (zfa bF) (.y hs (zld cA) (.z (c9 aN) (.z zm (.nil ?_)))))
 refine .for (N:=s.bV.length) (J:=fun k fr w=>fr=[(10,.slice al s.bV.length cpl),(3,I (IntKind.i64.wrap (yS s.cK ts k))),(0,.pointer (some ⟨bf,0,none⟩))]∧St H w σ) aj ?_ ?_ ?_
 ·exact .mk ⟨rfl,hs⟩ (hs:= .cons rfl (.cons rfl (.cons rfl (.de rfl (by simp [yS,aV,te]) (.cons rfl (.nil rfl rfl))))))
 ·rintro k fr w hk ⟨rfl,hs⟩
  obtain ⟨l,hl⟩:=nth hk
  have hg:(ga s.cK k).c=l.M:=by simp [ga,cq.cK,jm hl,Lim.arc]
  have hlm:=hok.lim l (List.mem_of_getElem? hl)
  have hkt:k<ts.length:=by omega
  have htb:=hFo.nn k aj
  have hct:cellAt H bt k=some (I (gi ts k)):=hFt.at k (ik hkt)
  have hmul:gi ts k*l.M≤72000000000000000∧-72000000000000000≤gi ts k*l.M:=by
   simp only [FF] at htb
   have g1:gi ts k*l.M≤gi ts k*20000:=Int.mul_le_mul_of_nonneg_left hlm.2.2.2.1.2 htb.1
   have g2:gi ts k*(-20000)≤gi ts k*l.M:=Int.mul_le_mul_of_nonneg_left hlm.2.2.2.1.1 htb.1
   omega
  refine .block (.af (.z zm ?_))
  refine .ixX hs hFl rfl rfl aN bj hl rfl ?_;intro b15 o15 hc15
  refine .q hs (cd (vs:=l.c) rfl eC bj hc15) ?_
  refine .o (.alloc hs dF rfl fun b5 w hs=>?_)
  refine .z zg ?_
  refine .o (.aO (vs:=l.c) hs rfl rfl bj fun w hs=>?_)
  refine .nil ?_
  refine .draw mix rfl hs fun w hs=>?_
  refine .z 0 rfl zm ?_;refine .z 1 rfl zm ?_;refine .z 2 rfl znc ?_;refine .z 3 rfl (zfa fV) ?_;refine .y 4 rfl hs ak ?_;refine .z 5 rfl zm ?_
  refine .z 6 rfl (iI (k:=k) rfl rfl ad ai rfl hkt) ?_
  refine .r (i:=7) hs rfl au .none (bh rfl ae hct) ?_
  refine .z 8 rfl (zfa eV) ?_;refine .y 9 rfl hs ae ?_;refine .z 10 rfl kG ?_
  refine .z 11 rfl (BD rfl rfl) ?_
  refine .z 12 rfl zg ?_;refine .D hs ?_
  refine nB (nT ?_)
  exact .mk ⟨rfl,hs.tail⟩ (hs:= .cons rfl (.cons rfl (.cons rfl (.de rfl (by rw [wX];simp only [yS,aV,hg]) (.cons rfl (.nil rfl rfl))))))
 ·rintro fr w ⟨rfl,hs⟩
  rw [←hal,←hd,kd (by have:=hv.2.2;simp only [BB] at this;omega)]
  refine nT ?_
  refine .af (.z zm (.z zg (.nil ?_)))
  refine .ret (Fin.bI Tryz.results160 rfl ?_)
  exact ⟨rfl,hv.1,hv.2.2.1,hv.2.2.2,hs⟩
theorem kC{vw:Value}{ws:List Int}(hs:St H w σ)(hrw:RI H vw ws)(hlw:ws.length≤1000000)(hb:∀k,-9223372036854775807≤gi ws k∧gi ws k≤9223372036854775807):
  Cl Tryz.prog 159 [vw] w fun v w'=>∃H1,HLe H H1∧RI H1 v (tL ws)∧St H1 w' σ:=by
 obtain ⟨aw,cw,rfl⟩:=RI.shape hrw
 refine Cl.o Tryz.func159 Tryz.ntmps159 ag1 ?_
 refine .af (.z zg (.nil (.af (.z zm (.z (c9 ad) ?_)))))
 refine .o (.sz ws.length hs rfl rfl ad ff rfl ai bM aj fun b8 w hs=>?_)
 refine .z zg (.nil (.seq (.af (.z zm (.z (c9 ad) (.z zm (.nil ?_)))))))
 refine .for (N:=ws.length) (J:=fun k fr w=>fr=[(9,.slice aw ws.length cw),(3,.slice (some ⟨b8,0,none⟩) ws.length ws.length)]∧∃L,(L.length=ws.length∧∀v<ws.length,gi L v=if v<k then -gi ws v else 0)∧St H w (.blk b8 (Is L)::σ)) aj ?_ ?_ ?_
 ·exact .mk ⟨rfl,_,⟨cm,fun v hv=>by rw [dL _ _ hv,if_neg aj]⟩,hs⟩
 ·rintro k fr w hk ⟨rfl,L,⟨hL1,hL2⟩,hs⟩
  have hx:=bJ hk
  have hbk:=hb k
  refine .block (.af (.z zm ?_))
  first|(refine .ixv hs ad ai ?_;intro b14 o14 hc14)|refine .z (zix ad ai) ?_
  refine .y hs (zld ae) (.z zg (.z zg (.nil (.region (.z zm (.z zm (.z zm (.z zj ?_))))))))
  first|(refine .ixv hs ad ai ?_;intro b20 o20 hc20)|refine .z (zix ad ai) ?_
  refine .o (.store hs rfl rfl ai fun w hs=>?_)
  refine .nil ?_
  refine nB (nT ?_)
  refine .mk ⟨rfl,_,⟨by rw [List.length_set];exact hL1,fun v hv=>?_⟩,hs⟩
  rw [fm aj]
  by_cases e:v=k
  ·subst e;rw [if_pos rfl,if_pos aj]
  ·rw [if_neg e,hL2 v hv];congr 1;apply propext;omega
 ·rintro fr w ⟨rfl,L,⟨hL1,hL2⟩,hs⟩
  obtain rfl:L=tL ws:=Ax (by simp [hL1,tL]) (fun k hk=>by rw [hL2 k aj,if_pos aj,xO])
  refine nT ?_
  refine .af (.z zm (.z zg (.nil ?_)))
  refine .ret (Fin.bI Tryz.results159 rfl ?_)
  obtain ⟨H1,g1,g2,hs⟩:=hs.cf .here
  refine ⟨H1,g1,?_,hs⟩
  rw [←hL1]
  exact Row.RI (spare:=[]) (by simpa using g2) _ (Nat.le_refl _) aj
theorem gO{v vw:Value}{s:cq}{ws:List Int}(hs:St H w σ)(hr:RSy H v s)(hrw:RI H vw ws):
  Cl Tryz.prog 74 [v,vw] w fun v w'=>∃H1 lo hi e,HLe H H1∧v= .tuple #[I lo,I hi,I e]∧dJ s ws lo hi e∧St H1 w' σ:=by
 obtain ⟨vl,rfl,hr⟩:=hr
 refine Cl.o Tryz.func74 Tryz.ntmps74 ag2 ?_
 refine .af ?_
 refine .bx hs fun b2 w hs=>?_
 refine .z zg (.z zg (.z zg (.nil (.af (.y hs (zls [_,_] a8 aC) (.z zm ?_))))))
 refine .o (.call Tryz.call158 rfl (gN (s:=s) hs ⟨_,rfl,hr⟩ hrw) ?_);rintro _ w ⟨H1,e,pf,hle1,rfl,hA,hs,hne,heq⟩
 refine .z zm (.z zex (.z zex (.z zg (.z zg (.nil (.seq (.af (.z zm (.z fM ?_)))))))))
 refine .nil ?_
 refine (.eD rfl (fun hc16=>?_) (fun hc16=>?_))
 ·refine .af (.z zm (.z zg (.z zg (.z zg (.nil ?_)))))
  refine .ret (rT (Fin.DW Tryz.results74 rfl rfl rfl ?_))
  exact ⟨H1,_,_,_,hle1,rfl,.first ⟨hA,fun _=>rfl,fun h=>(hc16 h).elim⟩ hc16,hs.tail⟩
 ·refine .skip ?_
  refine nT ?_
  refine .seq (.draw mix rfl hs fun w hs=>?_)
  refine .ys 0 rfl hs [_,_] a8 aC ?_;refine .z 1 rfl zm ?_
  refine .E 2 hs ?_
  subst hc16
  obtain ⟨bf,bt,bl,cl,ts,lf,vl',sp,rfl,hF,hFo,hok,hsz⟩:=heq rfl
  have hwl:=(mn hA.zero.1).2.1
  have hbw:∀k,-9223372036854775807≤gi ws k∧gi ws k≤9223372036854775807:=fun k=>by
   simp only [FF] at hsz
   by_cases hk:k<s.n
   ·have:=jO ws hk;omega
   ·have:gi ws k=0:=by simp [gi,List.getElem?_eq_none (show ws.length≤k by omega)]
    omega
  refine .call Tryz.call159 rfl (kC hs (hrw.mono hle1) (by have:=hok.m1;simp only [cq.n] at hwl;omega) hbw) ?_;rintro v21 w ⟨H2,hle2,hr21,hs⟩
  refine .go ?_
  refine .E 3 hs ?_
  refine .call Tryz.call158 rfl (gN (s:=s) hs ⟨_,rfl,hr.mono (hle1.trans hle2)⟩ hr21) ?_;rintro _ w ⟨H3,e2,pg,hle3,rfl,hA2,hs,hne2,heq2⟩
  refine .go ?_
  refine .z 4 rfl zm ?_;refine .z 5 rfl zex ?_;refine .z 6 rfl zex ?_;refine .z 7 rfl zg ?_;refine .z 8 rfl zg ?_;refine .D hs ?_
  refine .seq (.af (.z zm (.z fM (.nil ?_))))
  refine (.eD rfl (fun hc26=>?_) (fun hc26=>?_))
  ·refine .af (.z zm (.z zg (.z zg (.z zg (.nil ?_)))))
   refine .ret (rT (Fin.DW Tryz.results74 rfl rfl rfl ?_))
   obtain ⟨q1,q2,q3,q4⟩:=hFo.value (by simp [cq.n]) (by have:=hok.m0;have:=hok.m1;simp only [cq.n];omega) hok.cK hsz
   exact ⟨H3,_,_,_,hle1.trans (hle2.trans hle3),rfl,.second ⟨hA,fun h=>(h rfl).elim,fun _=>⟨q1,q3,q4⟩⟩ ⟨hA2,fun _=>rfl,fun h=>(hc26 h).elim⟩ hc26,hs.tail⟩
  ·refine .skip ?_
   refine nT ?_
   refine .af (.z zm ?_)
   subst hc26
   obtain ⟨bf2,bt2,bl2,cl2,ts2,lf2,vl2,sp2,rfl,hF2,hFo2,hok2,hsz2⟩:=heq2 rfl
   refine .o (.call Tryz.call160 rfl (eN hs hok hF2 hFo2 hsz2) ?_);rintro _ w ⟨rfl,a1,a2,a3,hs⟩
   simp only [BB] at a2 a3
   refine .z zj (.z zm ?_)
   refine .o (.call Tryz.call160 rfl (eN hs hok (hF.mono (hle2.trans hle3)) hFo hsz) ?_);rintro _ w ⟨rfl,c1,c2,c3,hs⟩
   refine .z zg (.z zg (.z zg (.nil ?_)))
   refine .ret (Fin.DW Tryz.results74 rfl rfl rfl ?_)
   exact ⟨H3,_,_,_,hle1.trans (hle2.trans hle3),rfl,.ok ⟨hA,fun h=>(h rfl).elim,fun _=>⟨c1,c2,c3⟩⟩ ⟨hA2,fun h=>(h rfl).elim,fun _=>⟨a1,by simp only [BB];omega,by simp only [BB];omega⟩⟩,hs.tail⟩
theorem eM{bf bt bl cl:Nat}{s:cq}{ts lf ws:List Int}{vl:Value}{sp:List Value}(hs:St H w σ)(hok:s.Ok)(hF:sf H bf s ts lf vl bt bl cl sp)(hFo:mu s.n s.cK (m9 ws s.n) ts)(hsz:bA ws s.n≤FF):
  Cl Tryz.prog 162 [.pointer (some ⟨bf,0,none⟩)] w fun v w'=>∃H1 xs,HLe H H1∧RI H1 v xs∧we s ws xs∧St H1 w' σ:=by
 obtain ⟨N,hN⟩:=Int.eq_ofNat_of_zero_le hok.m0
 have hN1:=hok.m1
 have hn:s.n=N+1:=by simp [cq.n,hN]
 have hlt:=hFo.lt
 have hal:s.cK.length=s.bV.length:=by simp [cq.cK,dR]
 have hlim:=hok.len
 have hf0:cellAt H bf 0=some (I (N:Int)):=by have:=hF.f.at 0 (v:=I s.many);rwa [hN] at this
 have hoka:=yx hok.cK hlt.symm aj
 rw [hn] at hoka
 refine Cl.o Tryz.func162 Tryz.ntmps162 ag1 ?_
 refine .af (.z zg (.nil ?_))
 refine .seq (.draw mix rfl hs fun w hs=>?_)
 refine .z 0 rfl zm ?_;refine .z 1 rfl znc ?_;refine .z 2 rfl (zfa ew) ?_;refine .z 3 rfl (zfa bB) ?_;refine .y 4 rfl hs ae ?_;refine .z 5 rfl zm ?_
 refine .E 6 hs ?_
 refine .call Tryz.call223 rfl (jd hs hok hF aj) ?_;rintro _ w ⟨H1,b15,hle1,rfl,hit,hs⟩
 refine .go ?_
 refine .E 7 hs ?_
 refine .call Tryz.call126 rfl (ic hs aj hoka hit Tryz.call270) ?_;rintro _ w ⟨H2,bc,bb,st,ov,vo,hle2,rfl,hov,⟨r,hNI,hr⟩,hs⟩
 have hovn:ov=none:=by
  cases ov with
  |none=>rfl
  |some x=>exact (hNI.none hoka aj (by have:=hr cm;omega) hFo.fe).elim
 subst hovn
 obtain ⟨hfe,hbd⟩:=hNI.sol hoka aj
 have hlc:=hNI.lc
 have hb0:=hbd 0 aj
 refine .go ?_
 refine .z 8 rfl zm ?_;refine .z 9 rfl zex ?_;refine .z 10 rfl zex ?_;refine .z 11 rfl zex ?_;refine .z 12 rfl zg ?_;refine .z 13 rfl zg ?_;refine .z 14 rfl zg ?_;refine .D hs ?_
 refine .af (.z zm ?_)
 refine .q hs (iI (k:=0) rfl rfl ad ai rfl aj) ?_
 refine .y hs (zld ae) (.z zg (.nil (.seq (.af (.z zm (.z (c9 ad) (.z zm (.nil ?_))))))))
 refine .for (N:=N+1) (J:=fun k fr w=>fr=[(3,.slice (some ⟨bc,0,none⟩) (N+1) (N+1)),(6,I (gi st.cost 0))]∧∃L,(L.length=N+1∧∀v<N+1,gi L v=if v<k then gi st.cost v - gi st.cost 0 else gi st.cost v)∧St H2 w (.blk bc (Is L)::σ)) aj ?_ ?_ ?_
 ·exact .mk ⟨rfl,st.cost,⟨hlc,fun v hv=>by rw [if_neg aj]⟩,hs.sb⟩
 ·rintro k fr w hk ⟨rfl,L,⟨hL1,hL2⟩,hs⟩
  have hLk:=hL2 k hk
  rw [if_neg aj] at hLk
  have hbk:=hbd k hk
  refine .block (.af (.z zm (.z zg (.nil (.region (.z zm (.z zm ?_)))))))
  first|(refine .ixv hs ad ai ?_;intro b30 o30 hc30)|refine .z (zix ad ai) ?_
  refine .y hs (zld ae) (.z zm (.z hZ ?_))
  first|(refine .ixv hs ad ai ?_;intro b34 o34 hc34)|refine .z (zix ad ai) ?_
  refine .o (.store hs rfl rfl ai fun w hs=>?_)
  refine .nil ?_
  refine nB (nT ?_)
  refine .mk ⟨rfl,_,⟨by rw [List.length_set];exact hL1,fun v hv=>?_⟩,hs⟩
  rw [fm aj]
  by_cases e:v=k
  ·subst e;rw [if_pos rfl,if_pos aj,hLk]
  ·rw [if_neg e,hL2 v hv];congr 1;apply propext;omega
 ·rintro fr w ⟨rfl,L,⟨hL1,hL2⟩,hs⟩
  refine nT ?_
  refine .af (.z zm (.z zg (.nil ?_)))
  refine .ret (Fin.bI Tryz.results162 rfl ?_)
  obtain ⟨H3,g1,g2,hs⟩:=hs.cf .here
  have hg:∀v<N+1,gi L v=gi st.cost v - gi st.cost 0:=fun v hv=>by rw [hL2 v hv,if_pos hv]
  obtain ⟨p1,p2⟩:=hFo.Fi aj hok.cK hfe
  refine ⟨H3,L,hle1.trans (hle2.trans g1),?_,⟨aj,by rw [hg 0 aj];omega,fun v hv=>?_,fun x hx=>?_,?_⟩,hs⟩
  ·have:=Row.RI (spare:=[]) (by simpa using g2) (N+1) aj aj
   rwa [hL1] at this
  ·have:=hbd v aj
   rw [hg v aj];omega
  ·have h1:=hok.cK.2 x hx
   have h2:=p2 x hx
   rw [hg _ aj,hg _ aj];omega
  ·have h1:=hFo.value aj aj hok.cK hsz
   rw [←p1] at h1
   have e:aV (fun v=>gi ws v*gi L v) s.n=aV (fun v=>gi ws v*(gi st.cost v - gi st.cost 0)) s.n:=bC fun v hv=>by rw [hg v aj]
   rw [e];exact h1.1
theorem Bs{n m:Int}(hm:0<m):(n.tmod m+m).tmod m=n%m:=by
 have h2:=Int.lt_tmod_of_pos n hm
 rw [Int.tmod_eq_emod_of_nonneg aj,Int.tmod_def,show n - m*n.tdiv m+m=n+m*(1 - n.tdiv m) by rw [Int.mul_sub];omega,Int.add_mul_emod_self_left]
theorem rH{v:Value}{l:List Int}{i n:Int}(hs:St H w σ)(hr:RI H v l)(hi:0≤i)(hn:n≤4611686018427387904):Cl Tryz.prog 264 [v,I i,I n] w fun v w'=>v=I (oG l i n)∧St H w' σ:=by
 obtain ⟨a,c,rfl⟩:=RI.shape hr
 have hlen:=(RI.len hr).2.2
 refine Cl.o Tryz.func264 Tryz.ntmps264 ag3 ?_
 refine .af (.z zg (.nil (.seq (.af (.z zm (.z (c9 ad) (.z ir (.z zm ?_))))))))
 refine .kf (t':=10) rfl (fun hb10=>?_) (fun hb10=>?_)
 ·refine .gFs 2 3 false rfl rfl rfl ?_
  refine .z zpT (.nil ?_)
  refine (.cT ?_)
  refine .af (.z zg (.nil ?_))
  refine .ret (rT (Fin.bI Tryz.results264 rfl ?_))
  exact ⟨by rw [show oG l i n=0 by unfold oG;rw [if_pos (.inl (List.length_eq_zero_iff.1 aj))]],hs⟩
 ·refine .gT rfl rfl ?_
  refine .z zm ?_
  refine .gT rfl rfl ?_
  refine .z gp (.z zpF (.nil ?_))
  refine (.ck rfl (fun hc13=>?_) (fun hc13=>?_))
  ·refine .af (.z zg (.nil ?_))
   refine .ret (rT (Fin.bI Tryz.results264 rfl ?_))
   exact ⟨by rw [show oG l i n=0 by unfold oG;rw [if_pos (.inr aj)]],hs⟩
  ·refine .skip ?_
   refine nT ?_
   refine .af (.z zm (.z zm (.z zm (.z (c9 ad) ?_))))
   have hl0:0<l.length:=by omega
   have h1:=Int.tmod_nonneg (a:=i) (l.length:Int) hi
   have h2:=Int.tmod_lt_of_pos i (b:=(l.length:Int)) aj
   have hx:=bJ (l:=l) (i:=(i.tmod (l.length:Int)).toNat) aj
   have h3:=Int.tmod_lt_of_pos (gi l (i.tmod (l.length:Int)).toNat) (b:=n) aj
   have h4:=Int.lt_tmod_of_pos (gi l (i.tmod (l.length:Int)).toNat) (b:=n) aj
   have e:=Bs (n:=gi l (i.tmod (l.length:Int)).toNat) (m:=n) aj
   refine .z A2 ?_
   refine .ixY hs hr rfl rfl ad ai hx aj ?_;intro b19 o19 hc19
   refine .q hs (bh rfl ae hc19) ?_
   refine .z zm (.z A2 (.z zm (.z cC (.z zm (.z A2 (.z zg (.nil ?_)))))))
   refine .ret (Fin.bI Tryz.results264 rfl ?_)
   exact ⟨by unfold oG;rw [if_neg (fun h=>h.elim (fun h=>by rw [h] at hl0;exact Nat.lt_irrefl _ hl0) (fun h=>by omega)),←e],hs⟩
def tw(i j:Nat):Int:=if i=j then 0 else free
theorem CT{n:Nat}(es:List Arc){T:Nat→Nat→Int}(h:∀i j,i<n→j<n→T i j=tw i j):DH n es 0 T:=
 ⟨fun i hi=>by rw [h i i hi hi];simp [tw],fun _ _ h=>by omega,fun i j hi hj hij=> .inl (by rw [h i j hi hj];simp [tw,hij])⟩
set_option maxHeartbeats 4000000 in
theorem rF{v:Value}{s:cq}(hs:St H w σ)(hr:RSy H v s)(hok:s.Ok):
  Cl Tryz.prog 226 [v] w fun u w'=>∃H1 rs,HLe H H1∧RT H1 u rs∧Sq s.n rs∧jF s.n s.cK (gt rs)∧St H1 w' σ:=by
 obtain ⟨ul,rfl,hl⟩:=hr
 obtain ⟨al,cl,rfl⟩:=RL.shape hl
 have hm0:=hok.m0
 have hm1:=hok.m1
 have hlen:=hok.len
 have hnp:=s.Ac
 have hn65:=hok.n65
 have hinn:=hok.inn
 have hmn:s.many+1=(s.n:Int):=by simp only [cq.n];omega
 generalize hn:s.n=n at hnp hn65 hinn hmn ⊢
 refine Cl.o Tryz.func226 Tryz.ntmps226 ag1 ?_
 refine .af ?_
 refine .bx hs fun b1 w hs=>?_
 refine .z zg (.nil (.af (.z (zfa bB) ?_)))
 first|refine .q hs (fR rfl ae (hm:=by repeat (first|exact .here|assumption|exact Mem.row aj aj|refine .there ?_|refine Mem.sc ?_)) (hv:=by first|rfl|exact eR aj|exact kh ef aj aj|exact ik ke)) ?_|refine .q hs (bh rfl ae ef) ?_
 refine .z cC ?_
 rw [hmn]
 refine .z zg (.nil (.af (.z zm ?_)))
 refine .o (.Ez n hs rfl rfl aA Tryz.typeInfo22 rfl aB dA aj fun b16 w hs=>?_)
 refine .z zg (.nil (.seq (.af (.z zm (.z (c9 aA) (.z zm (.nil ?_)))))))
 refine .for (N:=n) (J:=fun k fr w=>fr=[(3,I (n:Int)),(4,.slice (some ⟨b16,0,none⟩) n n),(1,.pointer (some ⟨b1,0,none⟩))]∧∃bs:List Nat,bs.length=k∧St H w (.blk b16 (bs.map (ptr n)++List.replicate (n - k) (.slice none 0 0))::(j9 bs (zc tw n k)++(.blk b1 [I s.many,.slice al s.bV.length cl]::σ)))) aj ?_ ?_ ?_
 ·exact .mk ⟨rfl,[],rfl,hs⟩
 ·rintro k fr w hk ⟨rfl,bs,hbl,hs⟩
  refine .block (.af (.z zm (.z zg (.nil (.af (.z zm (.z zm (.z zm ?_))))))))
  refine .o (.sz n hs rfl rfl ad ff rfl ai bM aj fun b25 w hs=>?_)
  first|(refine .ixw hs aA aB ?_;intro b26 o26 hc26)|refine .z (zix aA aB) ?_
  refine .o (.store hs rfl rfl aB ?_ dw (by simp [hbl];omega) (Dh hbl hk));intro w hs
  refine .nil (.af (.z zm (.z zm ?_)))
  first|(refine .ixw hs aA aB ?_;intro b29 o29 hc29)|refine .z (zix aA aB) ?_
  refine .q hs (fR rfl ak (hv:=xw hbl)) ?_
  refine .z (c9 ad) (.z zm (.nil ?_))
  refine .for (N:=n) (J:=fun j fr w=>fr=[(5,I (k:Int)),(19,I (k:Int)),(18,I (n:Int)),(3,I (n:Int)),(4,.slice (some ⟨b16,0,none⟩) n n),(1,.pointer (some ⟨b1,0,none⟩))]∧St H w (.blk b25 (Is ((List.range n).map fun c=>if c<j∧k≠c then free else 0)):: .blk b16 ((bs++[b25]).map (ptr n)++List.replicate (n - (k+1)) (.slice none 0 0))::(j9 bs (zc tw n k)++(.blk b1 [I s.many,.slice al s.bV.length cl]::σ)))) aj ?_ ?_ ?_
  ·rw [wJ (fun c=>if c<0∧k≠c then free else 0) n 0 (fun j _=>by simp)] at hs
   exact .mk ⟨rfl,hs⟩
  ·rintro j fr w hj ⟨rfl,hs⟩
   refine .block (.af (.z zm (.z zg (.nil (.af (.z zm (.z zm (.z fM (.nil ?_)))))))))
   refine (.eD rfl (fun hc37=>?_) (fun hc37=>?_))
   ·refine .region (.z zm (.z zm ?_))
    first|(refine .ixw hs aA aB ?_;intro b40 o40 hc40)|refine .z (zix aA aB) ?_
    refine .q hs (fR rfl ak (hv:=xw hbl)) ?_
    refine .z zm ?_
    first|(refine .ixv hs ad ai ?_;intro b43 o43 hc43)|refine .z (zix ad ai) ?_
    refine .o (.store hs rfl rfl ai ?_ dw (ya (by simp;omega)) (qp _ _ _));intro w hs
    refine .nil ?_
    refine nB (nT ?_)
    rw [zJ _ (fun c=>if c<j+1∧k≠c then free else 0) hj 1000000000 (fun c _=>by
     by_cases e:c=j
     ·subst e;rw [if_pos rfl,if_pos ⟨aj,aj⟩]
     ·rw [if_neg e];congr 1;apply propext;omega)] at hs
    exact .mk ⟨rfl,hs⟩
   ·refine .skip ?_
    refine nB (nT ?_)
    rw [rJ (g:=fun c=>if c<j+1∧k≠c then free else 0) (fun c _=>by
     by_cases e:c=j
     ·subst e;rw [if_neg aj,if_neg aj]
     ·congr 1;apply propext;omega)] at hs
    exact .mk ⟨rfl,hs⟩
  ·rintro fr w ⟨rfl,hs⟩
   rw [rJ (g:=tw k) (fun c hc=>by
    unfold tw
    by_cases e:k=c
    ·rw [if_neg aj,if_pos e]
    ·rw [if_pos ⟨hc,e⟩,if_neg e])] at hs
   replace hs:=hs.E7 (by rw [hbl,wC])
   rw [←zx] at hs
   refine nB (nT ?_)
   exact .mk ⟨rfl,bs++[b25],by simp [hbl],hs⟩
 ·rintro fr w ⟨rfl,bs,hbl,hs⟩
  rw [Nat.sub_self,List.replicate_zero,List.append_nil] at hs
  refine nT ?_
  refine .seq (.af (.z (zfa bF) ?_))
  first|refine .q hs (fR rfl cA (hm:=by repeat (first|exact .here|assumption|exact Mem.row aj aj|refine .there ?_|refine Mem.sc ?_)) (hv:=by first|rfl|exact eR aj|exact kh ef aj aj|exact ik ke)) ?_|refine .q hs (bh rfl cA ef) ?_
  refine .z (c9 aN) (.z zm (.nil ?_))
  refine .for (N:=s.bV.length) (J:=fun k fr w=>fr=[(47,.slice al s.bV.length cl),(4,.slice (some ⟨b16,0,none⟩) n n)]∧∃rs,Sq n rs∧DH n s.cK k (gt rs)∧St H w (.blk b16 (bs.map (ptr n))::(j9 bs rs++(.blk b1 [I s.many,.slice al s.bV.length cl]::σ)))) aj ?_ ?_ ?_
  ·exact .mk ⟨rfl,_,C1 tw n,CT s.cK (fun i j hi hj=>C2 tw hi hj),hs⟩
  ·rintro k fr w hk ⟨rfl,rs,hq,hB,hs⟩
   obtain ⟨x,hx⟩:=nth (l:=s.bV) hk
   have hrl:=hq.1
   obtain ⟨⟨xa0,xa1⟩,⟨xb0,xb1⟩,xne,xM,-⟩:=hok.lim x (List.mem_of_getElem? hx)
   have ha:x.A.toNat<n:=by omega
   have hb:x.B.toNat<n:=by omega
   have hga:=jm hx
   refine .block (.af ?_)
   refine .ixX (enc:=Lim.c) hs hl rfl rfl aN bj hx rfl ?_;intro b51 o51 hc51
   refine .q hs (cd (vs:=x.c) rfl eC bj hc51) ?_
   refine .o (.alloc hs dF rfl fun b8 w hs=>?_)
   refine .o (.aO (vs:=x.c) hs rfl rfl bj fun w hs=>?_)
   refine .nil ?_
   refine .draw mix rfl hs fun w hs=>?_
   refine .z 0 rfl zm ?_;refine .z 1 rfl (zfa dH) ?_
   first|refine .load (i:=2) hs rfl au .none rfl ae ?_ (by repeat (first|exact .here|assumption|exact Mem.row aj aj|refine .there ?_|refine Mem.sc ?_)) (by first|rfl|exact eR aj|exact kh ef aj aj|exact ik ke)|refine .r (i:=2) hs rfl au .none (bh rfl ae ef) ?_
   refine .z 3 rfl (iI (k:=x.A.toNat) rfl rfl aA aB aj ha) ?_
   first|refine .load (i:=4) hs rfl au .none rfl ak ?_ (by repeat (first|exact .here|assumption|exact Mem.row aj aj|refine .there ?_|refine Mem.sc ?_)) (by first|rfl|exact eR aj|exact kh ef aj aj|exact ik ke)|refine .r (i:=4) hs rfl au .none (bh rfl ak ef) ?_
   refine .z 5 rfl (zfa dP) ?_
   first|refine .load (i:=6) hs rfl au .none rfl ae ?_ (by repeat (first|exact .here|assumption|exact Mem.row aj aj|refine .there ?_|refine Mem.sc ?_)) (by first|rfl|exact eR aj|exact kh ef aj aj|exact ik ke)|refine .r (i:=6) hs rfl au .none (bh rfl ae ef) ?_
   refine .z 7 rfl zm ?_;refine .z 8 rfl (zfa dH) ?_
   first|refine .load (i:=9) hs rfl au .none rfl ae ?_ (by repeat (first|exact .here|assumption|exact Mem.row aj aj|refine .there ?_|refine Mem.sc ?_)) (by first|rfl|exact eR aj|exact kh ef aj aj|exact ik ke)|refine .r (i:=9) hs rfl au .none (bh rfl ae ef) ?_
   refine .z 10 rfl (iI (k:=x.A.toNat) rfl rfl aA aB aj ha) ?_
   first|refine .load (i:=11) hs rfl au .none rfl ak ?_ (by repeat (first|exact .here|assumption|exact Mem.row aj aj|refine .there ?_|refine Mem.sc ?_)) (by first|rfl|exact eR aj|exact kh ef aj aj|exact ik ke)|refine .r (i:=11) hs rfl au .none (bh rfl ak ef) ?_
   refine .z 12 rfl (zfa dP) ?_
   first|refine .load (i:=13) hs rfl au .none rfl ae ?_ (by repeat (first|exact .here|assumption|exact Mem.row aj aj|refine .there ?_|refine Mem.sc ?_)) (by first|rfl|exact eR aj|exact kh ef aj aj|exact ik ke)|refine .r (i:=13) hs rfl au .none (bh rfl ae ef) ?_
   refine .z 14 rfl (iI (k:=x.B.toNat) rfl rfl ad ai aj hb) ?_
   first|refine .load (i:=15) hs rfl au .none rfl ae ?_ (by repeat (first|exact .here|assumption|exact Mem.row aj aj|refine .there ?_|refine Mem.sc ?_)) (by first|rfl|exact eR aj|exact kh ef aj aj|exact ik ke)|refine .r (i:=15) hs rfl au .none (bh rfl ae ef) ?_
   refine .z 16 rfl (zfa eV) ?_
   first|refine .load (i:=17) hs rfl au .none rfl ae ?_ (by repeat (first|exact .here|assumption|exact Mem.row aj aj|refine .there ?_|refine Mem.sc ?_)) (by first|rfl|exact eR aj|exact kh ef aj aj|exact ik ke)|refine .r (i:=17) hs rfl au .none (bh rfl ae ef) ?_
   refine .z 18 rfl A3 ?_
   refine .z 19 rfl (iI (k:=x.B.toNat) rfl rfl ad ai aj hb) ?_
   refine .ET 20 hs ?_
   refine .store hs rfl rfl ai ?_ (.there (.there (Upd.row _ aj aj))) (ya (by rw [hq.2 _ ha];exact hb)) (qp _ _ _);intro w hs
   refine .go ?_
   refine .DT hs ?_
   refine nB (nT ?_)
   exact .mk ⟨rfl,_,hq.set ha _,by rw [CG hq ha hb];exact hB.step hinn hga,hs.tail⟩
  ·rintro fr w ⟨rfl,rs,hq,hB,hs⟩
   rw [←dR] at hB
   have hI:=hB.go hinn hnp
   have hcb:∀x∈s.cK,-20000≤x.c∧x.c≤20000:=fun x hx=>by have:=hinn x hx;omega
   refine nT ?_
   refine .seq (.af (.z zm (.z (c9 aA) (.z zm (.nil ?_)))))
   refine .for (N:=n) (J:=fun m fr w=>fr=[(4,.slice (some ⟨b16,0,none⟩) n n)]∧∃rs,Sq n rs∧(m<n→uJ n s.cK m (fun _ _=>False) (gt rs))∧(m=n→jF n s.cK (gt rs))∧St H w (.blk b16 (bs.map (ptr n))::(j9 bs rs++(.blk b1 [I s.many,.slice al s.bV.length cl]::σ)))) aj ?_ ?_ ?_
   ·exact .mk ⟨rfl,rs,hq,fun _=>hI,fun e=>by omega,hs⟩
   ·clear hI hB hq
    rintro m fr w hm ⟨rfl,rs,hq,hI,-,hs⟩
    replace hI:=hI hm
    refine .block (.af (.z zm (.z zg (.nil (.af (.z zm (.z (c9 aA) (.z zm (.nil ?_)))))))))
    refine .for (N:=n) (J:=fun i fr w=>fr=[(9,I (m:Int)),(76,I (m:Int)),(75,I (n:Int)),(4,.slice (some ⟨b16,0,none⟩) n n)]∧∃rs,Sq n rs∧uJ n s.cK m (fun a _=>a<i) (gt rs)∧St H w (.blk b16 (bs.map (ptr n))::(j9 bs rs++(.blk b1 [I s.many,.slice al s.bV.length cl]::σ)))) aj ?_ ?_ ?_
    ·exact .mk ⟨rfl,rs,hq,hI.skip hcb hm (P:=fun _ _=>False) (fun i j h=>by omega) (fun _ _ _ _ h=>h.elim),hs⟩
    ·clear hI hq
     rintro i fr w hi ⟨rfl,rs,hq,hI,hs⟩
     refine .block (.af (.z zm (.z zg (.nil (.af (.z zm (.z (c9 aA) (.z zm (.nil ?_)))))))))
     refine .for (N:=n) (J:=fun k fr w=>fr=[(10,I (i:Int)),(81,I (i:Int)),(80,I (n:Int)),(9,I (m:Int)),(76,I (m:Int)),(75,I (n:Int)),(4,.slice (some ⟨b16,0,none⟩) n n)]∧∃rs,Sq n rs∧uJ n s.cK m (fun a b=>a<i∨(a=i∧b<k)) (gt rs)∧St H w (.blk b16 (bs.map (ptr n))::(j9 bs rs++(.blk b1 [I s.many,.slice al s.bV.length cl]::σ)))) aj ?_ ?_ ?_
     ·exact .mk ⟨rfl,rs,hq,hI.skip hcb hm (P:=fun _ _=>False) (fun a b h=>by omega) (fun _ _ _ _ h=>h.elim),hs⟩
     ·clear hI hq
      rintro k fr w hk ⟨rfl,rs,hq,hI,hs⟩
      have hrl:=hq.1
      have c1:=hI.cl i m hi hm;have c2:=hI.cl m k hm hk
      have u1:=hI.up i m hi hm;have u2:=hI.up m k hm hk
      refine .block (.af (.z zm (.z zg (.nil (.af (.z zm (.z zm ?_)))))))
      first|(refine .ixw hs aA aB ?_;intro b91 o91 hc91)|refine .z (zix aA aB) ?_
      first|refine .q hs (fR rfl ak (hm:=by repeat (first|exact .here|assumption|exact Mem.row aj aj|refine .there ?_|refine Mem.sc ?_)) (hv:=by first|rfl|exact eR aj|exact kh ef aj aj|exact ik ke)) ?_|refine .q hs (bh rfl ak ef) ?_
      refine .z zm ?_
      first|(refine .ixv hs ad ai ?_;intro b94 o94 hc94)|refine .z (zix ad ai) ?_
      first|refine .q hs (fR rfl ae (hm:=by repeat (first|exact .here|assumption|exact Mem.row aj aj|refine .there ?_|refine Mem.sc ?_)) (hv:=by first|rfl|exact eR aj|exact kh ef aj aj|exact ik ke)) ?_|refine .q hs (bh rfl ae ef) ?_
      refine .z fM (.z zm ?_)
      refine .yU (t':=97) rfl (fun hb97=>?_) (fun hb97=>?_)
      ·refine .gT rfl rfl ?_
       refine .z zm ?_
       refine .gT rfl rfl ?_
       refine .z zm ?_
       refine .gT rfl rfl ?_
       first|(refine .ixw hs aA aB ?_;intro b100 o100 hc100)|refine .z (zix aA aB) ?_
       refine .gT rfl rfl ?_
       first|refine .q hs (fR rfl ak (hm:=by repeat (first|exact .here|assumption|exact Mem.row aj aj|refine .there ?_|refine Mem.sc ?_)) (hv:=by first|rfl|exact eR aj|exact kh ef aj aj|exact ik ke)) ?_|refine .q hs (bh rfl ak ef) ?_
       refine .gT rfl rfl ?_
       refine .z zm ?_
       refine .gT rfl rfl ?_
       first|(refine .ixv hs ad ai ?_;intro b103 o103 hc103)|refine .z (zix ad ai) ?_
       refine .gT rfl rfl ?_
       first|refine .q hs (fR rfl ae (hm:=by repeat (first|exact .here|assumption|exact Mem.row aj aj|refine .there ?_|refine Mem.sc ?_)) (hv:=by first|rfl|exact eR aj|exact kh ef aj aj|exact ik ke)) ?_|refine .q hs (bh rfl ae ef) ?_
       refine .gT rfl rfl ?_
       refine .z fM (.z zpT (.nil ?_))
       refine (.eD rfl (fun hc106=>?_) (fun hc106=>?_))
       ·refine .draw mix rfl hs fun w hs=>?_
        replace u1:=u1 hb97;replace u2:=u2 hc106
        refine .z 0 rfl zm ?_;refine .z 1 rfl zm ?_
        first|(refine .ixw 2 rfl hs aA aB ?_;intro b109 o109 hc109)|refine .z 2 rfl (zix aA aB) ?_
        first|refine .load (i:=3) hs rfl au .none rfl ak ?_ (by repeat (first|exact .here|assumption|exact Mem.row aj aj|refine .there ?_|refine Mem.sc ?_)) (by first|rfl|exact eR aj|exact kh ef aj aj|exact ik ke)|refine .r (i:=3) hs rfl au .none (bh rfl ak ef) ?_
        refine .z 4 rfl zm ?_;refine .z 5 rfl zm ?_;refine .z 6 rfl zm ?_
        first|(refine .ixw 7 rfl hs aA aB ?_;intro b114 o114 hc114)|refine .z 7 rfl (zix aA aB) ?_
        first|refine .load (i:=8) hs rfl au .none rfl ak ?_ (by repeat (first|exact .here|assumption|exact Mem.row aj aj|refine .there ?_|refine Mem.sc ?_)) (by first|rfl|exact eR aj|exact kh ef aj aj|exact ik ke)|refine .r (i:=8) hs rfl au .none (bh rfl ak ef) ?_
        refine .z 9 rfl zm ?_
        first|(refine .ixv 10 rfl hs ad ai ?_;intro b117 o117 hc117)|refine .z 10 rfl (zix ad ai) ?_
        first|refine .load (i:=11) hs rfl au .none rfl ae ?_ (by repeat (first|exact .here|assumption|exact Mem.row aj aj|refine .there ?_|refine Mem.sc ?_)) (by first|rfl|exact eR aj|exact kh ef aj aj|exact ik ke)|refine .r (i:=11) hs rfl au .none (bh rfl ae ef) ?_
        refine .z 12 rfl zm ?_;refine .z 13 rfl zm ?_
        first|(refine .ixw 14 rfl hs aA aB ?_;intro b121 o121 hc121)|refine .z 14 rfl (zix aA aB) ?_
        first|refine .load (i:=15) hs rfl au .none rfl ak ?_ (by repeat (first|exact .here|assumption|exact Mem.row aj aj|refine .there ?_|refine Mem.sc ?_)) (by first|rfl|exact eR aj|exact kh ef aj aj|exact ik ke)|refine .r (i:=15) hs rfl au .none (bh rfl ak ef) ?_
        refine .z 16 rfl zm ?_
        first|(refine .ixv 17 rfl hs ad ai ?_;intro b124 o124 hc124)|refine .z 17 rfl (zix ad ai) ?_
        first|refine .load (i:=18) hs rfl au .none rfl ae ?_ (by repeat (first|exact .here|assumption|exact Mem.row aj aj|refine .there ?_|refine Mem.sc ?_)) (by first|rfl|exact eR aj|exact kh ef aj aj|exact ik ke)|refine .r (i:=18) hs rfl au .none (bh rfl ae ef) ?_
        refine .z 19 rfl zm ?_;refine .z 20 rfl zm ?_
        first|(refine .ixw 21 rfl hs aA aB ?_;intro b128 o128 hc128)|refine .z 21 rfl (zix aA aB) ?_
        first|refine .load (i:=22) hs rfl au .none rfl ak ?_ (by repeat (first|exact .here|assumption|exact Mem.row aj aj|refine .there ?_|refine Mem.sc ?_)) (by first|rfl|exact eR aj|exact kh ef aj aj|exact ik ke)|refine .r (i:=22) hs rfl au .none (bh rfl ak ef) ?_
        refine .z 23 rfl zm ?_
        first|(refine .ixv 24 rfl hs ad ai ?_;intro b131 o131 hc131)|refine .z 24 rfl (zix ad ai) ?_
        first|refine .load (i:=25) hs rfl au .none rfl ae ?_ (by repeat (first|exact .here|assumption|exact Mem.row aj aj|refine .there ?_|refine Mem.sc ?_)) (by first|rfl|exact eR aj|exact kh ef aj aj|exact ik ke)|refine .r (i:=25) hs rfl au .none (bh rfl ae ef) ?_
        refine .z 26 rfl cC ?_;refine .z 27 rfl A3 ?_;refine .z 28 rfl Cs ?_
        first|(refine .ixv 29 rfl hs ad ai ?_;intro b136 o136 hc136)|refine .z 29 rfl (zix ad ai) ?_
        refine .ET 30 hs ?_
        refine .store hs rfl rfl ai ?_ (.there (Upd.row _ aj aj)) (ya (by rw [hq.2 _ hi];exact hk)) (qp _ _ _);intro w hs
        refine .go ?_
        refine .DT hs ?_
        refine nB (nT ?_)
        exact .mk ⟨rfl,_,hq.set hi _,by rw [CG hq hi hk];exact hI.step hcb hm hi hk (fun a b h=>by omega) hb97 hc106,hs⟩
       ·refine .skip ?_
        refine nB (nT ?_)
        exact .mk ⟨rfl,rs,hq,hI.skip hcb hm (P:=fun a b=>a=i∧b=k) (fun a b h=>by omega) (fun a b _ _ h=>by obtain ⟨rfl,rfl⟩:=h;exact .inr hc106),hs⟩
      ·refine .gFs 8 8 true rfl rfl rfl ?_
       refine .z zpF (.nil ?_)
       refine (.cF ?_)
       refine .skip ?_
       refine nB (nT ?_)
       exact .mk ⟨rfl,rs,hq,hI.skip hcb hm (P:=fun a b=>a=i∧b=k) (fun a b h=>by omega) (fun a b _ _ h=>by obtain ⟨rfl,rfl⟩:=h;exact .inl hb97),hs⟩
     ·rintro fr w ⟨rfl,rs,hq,hI,hs⟩
      refine nB (nT ?_)
      exact .mk ⟨rfl,rs,hq,hI.skip hcb hm (P:=fun a b=>a=i∧n≤b) (fun a b h=>by omega) (fun a b _ hb h=>by omega),hs⟩
    ·rintro fr w ⟨rfl,rs,hq,hI,hs⟩
     replace hI:uJ n s.cK m (fun _ _=>True) (gt rs):=hI.skip hcb hm (P:=fun a _=>n≤a) (fun a b h=>by omega) (fun a b ha _ h=>by omega)
     refine nB (nT ?_)
     exact .mk ⟨rfl,rs,hq,fun h=>hI.next hcb h hn65,fun h=>hI.done hcb h.symm hn65,hs⟩
   ·rintro fr w ⟨rfl,rs,hq,-,hT,hs⟩
    replace hT:=hT rfl
    refine nT ?_
    refine .af (.z zm (.z zg (.nil ?_)))
    refine .ret (Fin.bI Tryz.results226 rfl ?_)
    obtain ⟨H1,g1,g2,hs⟩:=tB hq hbl aj hs
    exact ⟨H1,rs,g1,g2,hq,hT,hs.tail⟩
theorem qA{vm:Value}{rs:List (List Int)}{n:Nat}(hs:St H w σ)(hM:RT H vm rs)(hq:Sq n rs)(hn:n≤1000):
  Cl Tryz.prog 233 [vm] w fun v w'=>∃b,v= .bool b∧(b=true↔∀i,i<n→¬gt rs i i<0)∧St H w' σ:=by
 obtain ⟨a,c,rfl⟩:=hM.shape
 have hrl:=hq.1
 refine Cl.o Tryz.func233 Tryz.ntmps233 ag1 ?_
 refine .af (.z zg (.nil (.seq (.af (.z zm (.z (c9 aA) (.z zm (.nil ?_))))))))
 refine .for (N:=rs.length) (J:=fun k fr w=>fr=[(0,.slice a rs.length c)]∧(∀i,i<k→¬gt rs i i<0)∧St H w σ) aj ?_ ?_ ?_
 ·exact .mk ⟨rfl,fun i h=>by omega,hs⟩
 ·rintro k fr w hk ⟨rfl,h0,hs⟩
  refine .block (.af (.z zm (.z zg (.nil (.af (.z zm (.z zm ?_)))))))
  refine .ixT hs hM rfl rfl aA aB hk rfl ?_;intro b11 o11 a11 c11 hc11 hR11
  refine .q hs (bh rfl ak hc11) ?_
  refine .z zm ?_
  refine .ixY hs hR11 rfl rfl ad ai (bJ (l:=gr rs k) (i:=k) (by rw [hq.2 k aj];omega)) rfl ?_;intro b14 o14 hc14
  refine .q hs (bh rfl ae hc14) ?_
  refine .z gp (.nil ?_)
  refine (.ck rfl (fun hc16=>?_) (fun hc16=>?_))
  ·refine .af (.z zg (.nil ?_))
   refine .ret (rB (rT (rB (rT (Fin.bI Tryz.results233 rfl ?_)))))
   exact ⟨false,rfl,⟨fun h=>(by cases h),fun h=>(h k aj hc16).elim⟩,hs⟩
  ·refine .skip ?_
   refine nB (nT ?_)
   exact .mk ⟨rfl,fun i hi=>by
    by_cases e:i=k
    ·subst e;exact hc16
    ·exact h0 i aj,hs⟩
 ·rintro fr w ⟨rfl,h0,hs⟩
  refine nT ?_
  refine .af (.z zg (.nil ?_))
  refine .ret (Fin.bI Tryz.results233 rfl ?_)
  exact ⟨true,rfl,⟨fun _ i hi=>h0 i aj,fun _=>rfl⟩,hs⟩
theorem gW{p:Prop}[Decidable p]:(!decide p)=true↔¬p:=by simp
theorem fT{p:Prop}[Decidable p]:(!decide p)=false↔p:=by simp
theorem ek{a0 a1 a2:Int}(hs:St H w σ):Cl Tryz.prog 221 [I a0,I a1,I a2] w fun v w'=>v= .bool (decide (a1≤a0∧a0≤a2))∧St H w' σ:=by
 refine Cl.o Tryz.func221 Tryz.ntmps221 ag3 ?_
 refine .af (.z zg (.nil (.af (.z zm (.z zm (.z wv (.z zm ?_)))))))
 refine .kf (t':=10) rfl (fun hb10=>?_) (fun hb10=>?_)
 ·refine .gT rfl rfl ?_
  refine .z zm ?_
  refine .gT rfl rfl ?_
  refine .z zm ?_
  refine .gT rfl rfl ?_
  refine .z wv (.z zpT (.z zg (.nil ?_)))
  refine .ret (Fin.bI Tryz.results221 rfl ?_)
  exact ⟨by simp [*],hs.out⟩
 ·refine .gFs 3 3 true rfl rfl rfl ?_
  refine .z zpF (.z zg (.nil ?_))
  refine .ret (Fin.bI Tryz.results221 rfl ?_)
  exact ⟨by simp [*],hs.out⟩
theorem lZ{many:Int}{l:Lim}(hs:St H w σ):Cl Tryz.prog 232 [I many,.agg l.c.toArray] w fun v w'=>v=I (if decide (0≤many∧many≤64)&&l.ok many then 0 else 20)∧St H w' σ:=by
 refine Cl.o Tryz.func232 Tryz.ntmps232 ag2 ?_
 refine .af ?_
 refine .bx hs fun b3 w hs=>?_
 refine .z zg (.nil (.seq (.af (.z zm ?_))))
 refine .o (.call y0 rfl (ek hs) ?_);rintro _ w ⟨rfl,hs⟩
 refine .z iq (.z zm ?_)
 refine .bif (t':=8) rfl (fun hb8=>?_) (fun hb8=>?_)
 ·refine .gFs 5 3 false rfl rfl rfl ?_
  refine .z zpT (.z zm ?_)
  refine .gFs 5 10 false rfl rfl rfl ?_
  refine .z zpT (.z zm ?_)
  refine .gFs 5 17 false rfl rfl rfl ?_
  refine .z zpT (.z zm ?_)
  refine .gFs 4 24 false rfl rfl rfl ?_
  refine .z zpT (.z zm ?_)
  refine .gFs 4 30 false rfl rfl rfl ?_
  refine .z zpT (.nil ?_)
  refine (.cT ?_)
  refine .af (.z zg (.nil ?_))
  refine .ret (rT (Fin.bI ln rfl ?_))
  (try simp only [gW] at*)
  (try simp only [fT] at*)
  refine ⟨congrArg I ?_,hs.out⟩
  unfold Lim.ok
  first
   |(rw [if_pos (by simp only [Bool.and_eq_true,decide_eq_true_eq];omega)];done)
   |(rw [if_neg (by simp only [Bool.and_eq_true,decide_eq_true_eq];omega)];done)
 ·refine .gT rfl rfl ?_
  refine .z (zfa dH) ?_
  refine .gT rfl rfl ?_
  refine .y hs (zld ae) ?_
  refine .gT rfl rfl ?_
  refine .z zm ?_
  refine .gT rfl rfl ?_
  refine .o (.call y0 rfl (ek hs) ?_);rintro _ w ⟨rfl,hs⟩
  refine .gT rfl rfl ?_
  refine .z iq (.z zpF (.z zm ?_))
  refine .bif (t':=15) rfl (fun hb15=>?_) (fun hb15=>?_)
  ·refine .gFs 5 10 false rfl rfl rfl ?_
   refine .z zpT (.z zm ?_)
   refine .gFs 5 17 false rfl rfl rfl ?_
   refine .z zpT (.z zm ?_)
   refine .gFs 4 24 false rfl rfl rfl ?_
   refine .z zpT (.z zm ?_)
   refine .gFs 4 30 false rfl rfl rfl ?_
   refine .z zpT (.nil ?_)
   refine (.cT ?_)
   refine .af (.z zg (.nil ?_))
   refine .ret (rT (Fin.bI ln rfl ?_))
   (try simp only [gW] at*)
   (try simp only [fT] at*)
   refine ⟨congrArg I ?_,hs.out⟩
   unfold Lim.ok
   first
    |(rw [if_pos (by simp only [Bool.and_eq_true,decide_eq_true_eq];omega)];done)
    |(rw [if_neg (by simp only [Bool.and_eq_true,decide_eq_true_eq];omega)];done)
  ·refine .gT rfl rfl ?_
   refine .z (zfa dP) ?_
   refine .gT rfl rfl ?_
   refine .y hs (zld ae) ?_
   refine .gT rfl rfl ?_
   refine .z zm ?_
   refine .gT rfl rfl ?_
   refine .o (.call y0 rfl (ek hs) ?_);rintro _ w ⟨rfl,hs⟩
   refine .gT rfl rfl ?_
   refine .z iq (.z zpF (.z zm ?_))
   refine .bif (t':=22) rfl (fun hb22=>?_) (fun hb22=>?_)
   ·refine .gFs 5 17 false rfl rfl rfl ?_
    refine .z zpT (.z zm ?_)
    refine .gFs 4 24 false rfl rfl rfl ?_
    refine .z zpT (.z zm ?_)
    refine .gFs 4 30 false rfl rfl rfl ?_
    refine .z zpT (.nil ?_)
    refine (.cT ?_)
    refine .af (.z zg (.nil ?_))
    refine .ret (rT (Fin.bI ln rfl ?_))
    (try simp only [gW] at*)
    (try simp only [fT] at*)
    refine ⟨congrArg I ?_,hs.out⟩
    unfold Lim.ok
    first
     |(rw [if_pos (by simp only [Bool.and_eq_true,decide_eq_true_eq];omega)];done)
     |(rw [if_neg (by simp only [Bool.and_eq_true,decide_eq_true_eq];omega)];done)
   ·refine .gT rfl rfl ?_
    refine .z (zfa dH) ?_
    refine .gT rfl rfl ?_
    refine .y hs (zld ae) ?_
    refine .gT rfl rfl ?_
    refine .z (zfa dP) ?_
    refine .gT rfl rfl ?_
    refine .y hs (zld ae) ?_
    refine .gT rfl rfl ?_
    refine .z ir (.z zpF (.z zm ?_))
    refine .kf (t':=29) rfl (fun hb29=>?_) (fun hb29=>?_)
    ·refine .gFs 4 24 false rfl rfl rfl ?_
     refine .z zpT (.z zm ?_)
     refine .gFs 4 30 false rfl rfl rfl ?_
     refine .z zpT (.nil ?_)
     refine (.cT ?_)
     refine .af (.z zg (.nil ?_))
     refine .ret (rT (Fin.bI ln rfl ?_))
     (try simp only [gW] at*)
     (try simp only [fT] at*)
     refine ⟨congrArg I ?_,hs.out⟩
     unfold Lim.ok
     first
      |(rw [if_pos (by simp only [Bool.and_eq_true,decide_eq_true_eq];omega)];done)
      |(rw [if_neg (by simp only [Bool.and_eq_true,decide_eq_true_eq];omega)];done)
    ·refine .gT rfl rfl ?_
     refine .z (zfa eV) ?_
     refine .gT rfl rfl ?_
     refine .y hs (zld ae) ?_
     refine .gT rfl rfl ?_
     refine .o (.call y0 rfl (ek hs) ?_);rintro _ w ⟨rfl,hs⟩
     refine .gT rfl rfl ?_
     refine .z iq (.z zpF (.z zm ?_))
     refine .bif (t':=35) rfl (fun hb35=>?_) (fun hb35=>?_)
     ·refine .gFs 4 30 false rfl rfl rfl ?_
      refine .z zpT (.nil ?_)
      refine (.cT ?_)
      refine .af (.z zg (.nil ?_))
      refine .ret (rT (Fin.bI ln rfl ?_))
      (try simp only [gW] at*)
      (try simp only [fT] at*)
      refine ⟨congrArg I ?_,hs.out⟩
      unfold Lim.ok
      first
       |(rw [if_pos (by simp only [Bool.and_eq_true,decide_eq_true_eq];omega)];done)
       |(rw [if_neg (by simp only [Bool.and_eq_true,decide_eq_true_eq];omega)];done)
     ·refine .gT rfl rfl ?_
      refine .z (zfa iC) ?_
      refine .gT rfl rfl ?_
      refine .y hs (zld ae) ?_
      refine .gT rfl rfl ?_
      refine .o (.call y0 rfl (ek hs) ?_);rintro _ w ⟨rfl,hs⟩
      refine .gT rfl rfl ?_
      refine .z iq (.z zpF (.nil ?_))
      refine (.cond rfl (fun hc40=>?_) (fun hc40=>?_))
      ·refine .af (.z zg (.nil ?_))
       refine .ret (rT (Fin.bI ln rfl ?_))
       (try simp only [gW] at*)
       (try simp only [fT] at*)
       refine ⟨congrArg I ?_,hs.out⟩
       unfold Lim.ok
       first
        |(rw [if_pos (by simp only [Bool.and_eq_true,decide_eq_true_eq];omega)];done)
        |(rw [if_neg (by simp only [Bool.and_eq_true,decide_eq_true_eq];omega)];done)
      ·refine .skip ?_
       refine nT ?_
       refine .af (.z zg (.nil ?_))
       refine .ret (Fin.bI ln rfl ?_)
       (try simp only [gW] at*)
       (try simp only [fT] at*)
       refine ⟨congrArg I ?_,hs.out⟩
       unfold Lim.ok
       first
        |(rw [if_pos (by simp only [Bool.and_eq_true,decide_eq_true_eq];omega)];done)
        |(rw [if_neg (by simp only [Bool.and_eq_true,decide_eq_true_eq];omega)];done)
theorem qB{v:Value}{s:cq}(hs:St H w σ)(hr:RSy H v s):Cl Tryz.prog 182 [v] w fun v w'=>v=I s.check∧St H w' σ:=by
 obtain ⟨u,rfl,hr⟩:=hr
 obtain ⟨a,c,rfl⟩:=RL.shape hr
 have hlen:=(RS.len (RS.E8 hr (Nat.le_refl _) (cap':=s.bV.length))).2.2
 refine Cl.o Tryz.func182 Tryz.ntmps182 ag1 ?_
 refine .af ?_
 refine .bx hs fun b1 w hs=>?_
 refine .z zg (.nil (.seq (.af (.z (zfa bB) (.y hs (zld ae) ?_)))))
 refine .o (.call y0 rfl (ek hs) ?_);rintro _ w ⟨rfl,hs⟩
 refine .z iq (.nil ?_)
 refine (.cond rfl (fun hc8=>?_) (fun hc8=>?_))
 ·refine .af (.z zg (.nil ?_))
  refine .ret (rT (Fin.bI Tryz.results182 rfl ?_))
  exact ⟨congrArg I (by unfold cq.check;rw [if_pos (by simp at hc8;omega)]),hs.out⟩
 ·refine .skip ?_
  refine nT ?_
  refine .seq (.af (.z (zfa bF) (.y hs (zld cA) (.z (c9 aN) (.z od (.nil ?_))))))
  refine (.ck rfl (fun hc12=>?_) (fun hc12=>?_))
  ·refine .af (.z zg (.nil ?_))
   refine .ret (rT (Fin.bI Tryz.results182 rfl ?_))
   exact ⟨congrArg I (by unfold cq.check;rw [if_neg (by simpa using hc8),if_pos aj]),hs.out⟩
  ·refine .skip ?_
   refine nT ?_
   refine .seq (.af (.z (zfa bF) (.y hs (zld cA) (.z (c9 aN) (.z zm (.nil ?_))))))
   refine .for (N:=s.bV.length) (J:=fun k fr w=>fr=[(14,.slice a s.bV.length c),(1,.pointer (some ⟨b1,0,none⟩))]∧(∀j<k,∀l,s.bV[j]? =some l→l.ok s.many=true)∧St H w (.blk b1 [I s.many,.slice a s.bV.length c]::σ)) aj ?_ ?_ ?_
   ·exact .mk ⟨rfl,fun j hj=>by omega,hs⟩
   ·rintro k fr w hk ⟨rfl,hno,hs⟩
    obtain ⟨x,hx⟩:=nth (l:=s.bV) hk
    refine .block (.af ?_)
    refine .ixX (enc:=Lim.c) hs hr rfl rfl aN bj hx rfl ?_;intro b18 o18 hc18
    refine .q hs (cd (vs:=x.c) rfl eC bj hc18) ?_
    refine .o (.alloc hs dF rfl fun b4 w hs=>?_)
    refine .o (.aO (vs:=x.c) hs rfl rfl bj fun w hs=>?_)
    refine .nil (.af (.z (zfa bB) (.y hs (zld ae) ?_)))
    refine .q hs (gU (vs:=x.c) rfl eC bj) ?_
    refine .o (.call Tryz.call232 rfl (lZ hs) ?_);rintro _ w ⟨rfl,hs⟩
    have hmm:0≤s.many∧s.many≤64:=by simpa using hc8
    rw [show (decide (0≤s.many∧s.many≤64)&&x.ok s.many)=x.ok s.many by rw [decide_eq_true hmm];rfl]
    refine .z fM (.nil ?_)
    refine (.eD rfl (fun hc24=>?_) (fun hc24=>?_))
    ·refine .af (.z zg (.nil ?_))
     refine .ret (rB (rT (rB (rT (Fin.bI Tryz.results182 rfl ?_)))))
     exact ⟨congrArg I (by
      have hx0:x.ok s.many=false:=by cases e:x.ok s.many with|false=>rfl|true=>rw [e] at hc24;simp at hc24
      unfold cq.check;rw [if_neg (by simpa using hc8),if_neg aj,if_pos (List.any_eq_true.2 ⟨x,List.mem_of_getElem? hx,by rw [hx0];rfl⟩)]),hs.out⟩
    ·refine .skip ?_
     refine nB (nT ?_)
     exact .mk ⟨rfl,ed hno hx (by cases e:x.ok s.many with|true=>rfl|false=>rw [e] at hc24;simp at hc24),hs.tail⟩
   ·rintro fr w ⟨rfl,hno,hs⟩
    refine nT ?_
    refine .af (.z zg (.nil ?_))
    refine .ret (Fin.bI Tryz.results182 rfl ?_)
    exact ⟨congrArg I (by
     have hall:(s.bV.any fun l=> !l.ok s.many)=false:=by
      simp only [List.any_eq_false,Bool.not_eq_true',Bool.not_eq_false]
      intro l hl
      obtain ⟨j,hj⟩:=List.getElem?_of_mem hl
      exact hno j (List.getElem?_eq_some_iff.1 hj).1 l hj
     unfold cq.check;rw [if_neg (by simpa using hc8),if_neg aj,hall];rfl),hs.out⟩
theorem jM{v:Value}{l:List Int}{en:Ent}(hs:St H w (en::σ))(ho:bS 1 v (Is l) en)(hl:l.length≤1000000):
  Cl Tryz.prog 128 [v] w fun _ w'=>∃en',bS 1 v (Is l.reverse) en'∧St H w' (en'::σ):=by
 rcases ho with ⟨a,rfl,h2,rfl⟩|⟨b,len,cap,sp,rfl,rfl,h2,h3,h4⟩
 ·obtain rfl:l=[]:=by
   have:=congrArg List.length h2
   exact List.length_eq_zero_iff.1 (by simpa using this)
  have hs:=hs.tail
  refine Cl.o Tryz.func128 Tryz.ntmps128 ag1 ?_
  refine .af (.z zm (.z (c9 ad) (.z hZ (.z zg (.z zg (.nil (.block ?_)))))))
  refine .loop (fun _:Unit=>⟨28,[],[(2,I 0),(3,I (-1))]⟩) (fun _ w=>St H w σ) (fun _=>0) () bD hs ?_
  rintro _ w hs
  refine .seq (.af (.z zm (.z zm (.z gp (.nil ?_)))))
  refine (.ck rfl (fun hc9=>?_) (fun hc9=>?_))
  ·omega
  ·refine .exit ?_
   refine xT (xT (xB ?_))
   exact Fin.wm Tryz.results128 ⟨.nul,.nil 1 a,hs.nul⟩
 obtain rfl:len=l.length:=by simpa using h2.symm
 refine Cl.o Tryz.func128 Tryz.ntmps128 ag1 ?_
 refine .af (.z zm (.z (c9 ad) (.z hZ (.z zg (.z zg (.nil (.block ?_)))))))
 refine .loop (fun p:Nat×List Int=>⟨28,[],[(2,I p.1),(3,I ((l.length:Int) - 1 - p.1)),(0,.slice (some ⟨b,0,none⟩) l.length cap)]⟩) (fun p w=>(2*p.1≤l.length+1∧mr l p.2 p.1)∧St H w (.blk b (Is p.2++sp)::σ)) (fun p=>l.length - p.1) (0,l) (.cons rfl (.de rfl cm (.cons rfl (.nil rfl rfl)))) ⟨⟨cm,.start l⟩,hs⟩ ?_
 rintro ⟨i,L⟩ w ⟨⟨h5,h6⟩,hs⟩
 dsimp only at h5 h6 hs ⊢
 have hL:=h6.1
 refine .seq (.af (.z zm (.z zm (.z gp (.nil ?_)))))
 refine (.ck rfl (fun hc9=>?_) (fun hc9=>?_))
 ·refine .skip ?_
  refine nT ?_
  refine .seq (.block ?_)
  refine .draw mix rfl hs fun w hs=>?_
  refine .z 0 rfl zm ?_;refine .z 1 rfl zm ?_;refine .z 2 rfl zm ?_;refine .z 3 rfl zm ?_;refine .z 4 rfl zm ?_;refine .z 5 rfl zm ?_
  refine .z 6 rfl (iI (k:=l.length - 1 - i) rfl rfl ad ai aj aj) ?_
  refine .load (i:=7) hs rfl au .none rfl ae ?_ (hv:=eQ aj sp)
  refine .z 8 rfl zm ?_;refine .z 9 rfl zm ?_
  first|(refine .ixv 10 rfl hs ad ai ?_;intro b24 o24 hc24)|refine .z 10 rfl (zix ad ai) ?_
  refine .load (i:=11) hs rfl au .none rfl ae ?_ (hv:=eQ aj sp)
  first|(refine .ixv 12 rfl hs ad ai ?_;intro b26 o26 hc26)|refine .z 12 rfl (zix ad ai) ?_
  refine .E 13 hs ?_
  refine .store hs rfl rfl ai ?_ dw (by simp;omega) (jD aj sp _);intro w hs
  refine .go ?_
  refine .z 14 rfl (iI (k:=l.length - 1 - i) rfl rfl ad ai aj aj) ?_
  refine .E 15 hs ?_
  refine .store hs rfl rfl ai ?_ dw (by simp;omega) (jD (by simp;omega) sp _);intro w hs
  refine .go ?_
  refine .D hs ?_
  refine nB (nT ?_)
  refine .region (.z zm (.z cC (.z zm (.z hZ (.z zg (.z zg (.nil ?_)))))))
  refine nT ?_
  exact ⟨(i+1,_),.cons rfl (.de rfl (by push_cast;omega) (.cons rfl (.nil rfl rfl))),⟨⟨by dsimp only;omega,h6.step aj⟩,hs⟩,by dsimp only;omega⟩
 ·refine .exit ?_
  refine xT (xT (xB ?_))
  rw [h6.done aj] at hs
  exact Fin.wm Tryz.results128 ⟨_,.inr ⟨b,l.length,cap,sp,rfl,rfl,cm,by rw [←h3];simp,h4⟩,hs⟩
inductive D0(s:cq)(xs:List Int):Int→Prop
 |bad (h:s.check≠0) (h1:xs=[]):D0 s xs s.check
 |sound (h:s.Ok) (h1:s.Sound) (h2:xs=[]):D0 s xs 0
 |chain {st:BS} {x:Arc} {z k:Nat} (h:s.Ok) (h1:¬s.Sound) (h2:EN s.n s.cK st (some x)) (h3:z=nE st.by_ x.t (s.n+1)) (h4:1≤k) (h5:k≤s.n) (h6:nE st.by_ z k=z) (h7:xs=(tT st.by_ z k).reverse):D0 s xs 0
theorem D0.zB{s:cq}{xs:List Int}(h:D0 s xs 0):xs=[]↔s.Sound:=by
 generalize hz:(0:Int)=y at h
 cases h with
 |bad h=>exact (h hz.symm).elim
 |sound _ h1 h2=>exact ⟨fun _=>h1,fun _=>h2⟩
 | @chain st x z k _ h1 _ _ h4 _ _ h7=>exact ⟨fun h=>by
   have:=congrArg List.length (h7.symm.trans h)
   rw [List.length_reverse,l9] at this
   simp at this;omega,fun h=>(h1 h).elim⟩
set_option maxHeartbeats 4000000 in
theorem qI{v:Value}{s:cq}(hs:St H w σ)(hr:RSy H v s):
  Cl Tryz.prog 51 [v] w fun u w'=>∃H1 vx xs e,HLe H H1∧u= .tuple #[vx,I e]∧RI H1 vx xs∧D0 s xs e∧St H1 w' σ:=by
 obtain ⟨u,rfl,hr⟩:=hr
 obtain ⟨al,cl,rfl⟩:=RL.shape hr
 refine Cl.o Tryz.func51 Tryz.ntmps51 ag1 ?_
 refine .af ?_
 refine .bx hs fun b1 w hs=>?_
 refine .z zg (.z zg (.nil (.seq (.af (.y hs (zls [_,_] a8 aC) ?_)))))
 refine .o (.call Tryz.call125 rfl (gP (s:=s) hs ⟨_,rfl,hr⟩) ?_);rintro _ w ⟨rfl,hs⟩
 refine .z zg (.nil (.af (.z zm (.z fM (.nil ?_)))))
 refine (.eD rfl (fun hc14=>?_) (fun hc14=>?_))
 ·refine .af (.z zm (.z zg (.z zg (.nil ?_))))
  refine .ret (rT (Fin.kK Tryz.results51 rfl rfl ?_))
  exact ⟨H,_,[],_,HLe.refl H,rfl,RS.nil H 1 none 0,.bad hc14 rfl,hs.out⟩
 ·refine .skip ?_
  refine nT ?_
  refine .seq (.draw mix rfl hs fun w hs=>?_)
  refine .z 0 rfl (zfa bB) ?_;refine .y 1 rfl hs ae ?_;refine .ys 2 rfl hs [_,_] a8 aC ?_
  refine .E 3 hs ?_
  have hok:s.Ok:=s.bL.1 (by simpa using hc14)
  have hoka:=hok.cK
  have hn:s.n=s.many.toNat+1:=rfl
  have hm0:=hok.m0
  have hm1:=hok.m1
  refine .call Tryz.call127 rfl (ja (s:=s) hs hok ⟨_,rfl,hr⟩) ?_;rintro _ w ⟨H1,b10,hle1,rfl,hit,hs⟩
  refine .go ?_
  refine .E 4 hs ?_
  have hnear:=ic (N:=s.many.toNat) hs aj (by rw [←hn];exact hoka) hit Tryz.call203
  rw [Int.toNat_of_nonneg hm0] at hnear
  refine .call Tryz.call126 rfl hnear ?_;rintro _ w ⟨H2,bc,bb,st,ov,vo,hle2,rfl,hov,hnr,hs⟩
  obtain ⟨a',rfl,ha'⟩:=hov.ptr
  refine .go ?_
  refine .z 5 rfl zm ?_;refine .z 6 rfl zex ?_;refine .z 7 rfl zex ?_;refine .z 8 rfl zex ?_;refine .z 9 rfl zg ?_;refine .z 10 rfl zg ?_;refine .z 11 rfl zg ?_;refine .D hs ?_
  refine .seq (.af (.z zm ?_))
  refine .q hs (zR rfl rfl Tryz.runUnderlying183) ?_
  refine .nil ?_
  refine (.cond rfl (fun hc26=>?_) (fun hc26=>?_))
  ·refine .af (.z zg (.z zg (.nil ?_)))
   refine .ret (rT (Fin.kK Tryz.results51 rfl rfl ?_))
   exact ⟨H2,_,[],0,hle1.trans hle2,rfl,RS.nil H2 1 none 0,.sound hok (by
    obtain ⟨r,hN2,hr2⟩:=hnr
    cases ov with
    |none=>exact ⟨_,(hN2.sol (by rw [←hn];exact hoka) aj).1⟩
    |some x=>rw [ha'] at hc26;cases hc26) rfl,hs.out⟩
  ·refine .skip ?_
   refine nT ?_
   refine .af (.z zm ?_)
   obtain ⟨x,rfl⟩:=OvR.yes ha' hc26
   obtain ⟨b3,e3,hrow⟩:=hov
   cases e3
   have hrowT:cellAt H2 b3 1=some (I x.t):=hrow.at 1
   have hmn:s.many+2=((s.many.toNat+2:Nat):Int):=by omega
   have hns:¬s.Sound:=by
    obtain ⟨r,hN2,hr2⟩:=hnr
    exact hN2.none (by rw [←hn];exact hoka) aj (by have:=hr2 cm;omega)
   obtain ⟨hlb,hrg,hxt⟩:st.by_.length=s.many.toNat+1∧(∀v<s.many.toNat+1,(ga st.by_ v).f<s.many.toNat+1)∧x.t<s.many.toNat+1:=by
    obtain ⟨r,hN2,hr2⟩:=hnr
    exact ⟨hN2.lb,fun v hv=>(hN2.rg v hv).1,(hoka.2 x (hN2.ovm x rfl)).2.1⟩
   have hpl:=fun k=>tI hrg hxt k
   refine .z znc (.z (zfa c8) ?_)
   refine .q hs (bh rfl ae hrowT) ?_
   refine .z zg (.nil (.seq (.af (.z (zfa bB) (.y hs (zld ae) (.z cC ?_))))))
   rw [hmn]
   refine .z zm (.nil ?_)
   refine .for (N:=s.many.toNat+2) (J:=fun k fr w=>fr=[(8,I (nE st.by_ x.t k)),(6,.slice (some ⟨bb,0,none⟩) (s.many.toNat+1) (s.many.toNat+1))]∧St H2 w (.blk bc (Is st.cost):: .blk bb (ij st.by_):: .blk b1 [I s.many,.slice al s.bV.length cl]::σ)) aj ?_ ?_ ?_
   ·exact .mk ⟨rfl,hs⟩
   ·rintro k fr w hk ⟨rfl,hs⟩
    refine .block (.region (.z zm (.z zm ?_)))
    refine .q hs (s5 (k:=nE st.by_ x.t k) rfl rfl az aH rfl (hpl k)) ?_
    refine .z (zfa cP) ?_
    refine .q hs (fR rfl ae (.there .here) (pz (j:=0) (by rw [hlb];exact hpl k) fG)) ?_
    refine .z zg (.nil ?_)
    refine nB (nT ?_)
    exact .mk ⟨rfl,hs.out⟩
   ·rintro fr w ⟨rfl,hs⟩
    obtain ⟨pd,hp1,hp2,hp3⟩:=yG hrg hxt (m:=s.many.toNat+2) aj
    have hzl:=hpl (s.many.toNat+2)
    generalize hz:nE st.by_ x.t (s.many.toNat+2)=z at hp3 hzl ⊢
    have hzk:=fun k=>tI hrg hzl k
    refine nT ?_
    refine .af (.z zg (.nil (.seq (.af (.z zm (.z zg (.nil (.block ?_))))))))
    refine .loop (fun p:Nat×Value=>⟨62,[],[(9,p.2),(8,I (nE st.by_ z p.1)),(10,I z),(6,.slice (some ⟨bb,0,none⟩) (s.many.toNat+1) (s.many.toNat+1))]⟩)
     (fun p w=>p.1<pd∧∃en,bS 1 p.2 (Is (tT st.by_ z p.1)) en∧St H2 w (en:: .blk bc (Is st.cost):: .blk bb (ij st.by_):: .blk b1 [I s.many,.slice al s.bV.length cl]::σ))
     (fun p=>pd - p.1) (0,.slice none 0 0) bD
     ⟨aj,_,.nil 1 none,hs.nul⟩ ?_
    rintro ⟨k,v9⟩ w ⟨hk,en,hO,hs⟩
    dsimp only at hk hO ⊢
    refine .block (.af (.z zm (.z zm (.z zm ?_))))
    refine .q hs (s5 (k:=nE st.by_ z k) rfl rfl az aH rfl (hzk k)) ?_
    refine .z (zfa dq) ?_
    refine .q hs (fR rfl ae (.there (.there .here)) (pz (j:=3) (by rw [hlb];exact hzk k) fG)) ?_
    refine .o (.buildSlice (cells:=[_]) hs bY rfl rfl fun b49 w hs=>?_)
    refine .o (.append (ys:=[I (ga st.by_ (nE st.by_ z k)).l]) hs bN rfl rfl hO (.own .here rfl rfl) (by simp [Value.oneCell']) (fun l' h=>by simp [tT] at h;omega) ?_);intro v50 en50 w hO2 hs
    refine .z zg (.nil (.af (.z zm (.z zm ?_))))
    refine .q hs (s5 (k:=nE st.by_ z k) rfl rfl az aH rfl (hzk k)) ?_
    refine .z (zfa cP) ?_
    refine .q hs (fR rfl ae (by repeat (first|exact .here|refine .there ?_)) (pz (j:=0) (by rw [hlb];exact hzk k) fG)) ?_
    refine .z zg (.nil (.af (.z zm (.z zm (.z ir (.nil ?_))))))
    refine (.ck rfl (fun hc58=>?_) (fun hc58=>?_))
    ·refine .exit ?_
     refine xN (xT (xB (nT ?_)))
     refine .af (.z zm ?_)
     have hO3:bS 1 v50 (Is (tT st.by_ z (k+1))) en50:=by rw [tc];simpa [Is] using hO2
     have hkz:nE st.by_ z (k+1)=z:=by
      have h3:((ga st.by_ (nE st.by_ z k)).f:Int)=z:=by simpa using hc58
      show (ga st.by_ (nE st.by_ z k)).f=z
      omega
     refine .o (.call Tryz.call128 rfl (jM hs hO3 (by rw [l9];omega)) ?_);rintro _ w ⟨en',hO4,hs⟩
     refine .nil (.af (.z zm (.z zg (.z zg (.nil ?_)))))
     refine .ret (Fin.kK Tryz.results51 rfl rfl ?_)
     obtain ⟨H3,hle3,hRI,hs⟩:=bS.cV hO4 (by rw [List.length_reverse,l9];omega) hs .here
     exact ⟨H3,_,_,0,hle1.trans (hle2.trans hle3),rfl,hRI,.chain hok hns (by rw [hn];exact hnr) (by rw [hn];exact hz.symm) aj aj hkz rfl,hs.sb⟩
    ·refine .skip ?_
     refine nB (nT ?_)
     exact ⟨(k+1,v50),bD,⟨by
      dsimp only
      have:k+1≠pd:=fun e=>hc58 (congrArg (Nat.cast:Nat→Int) (show nE st.by_ z (k+1)=z by rw [e];exact hp3))
      omega,en50,by rw [tc];simpa [Is] using hO2,hs.sb⟩,by dsimp only;omega⟩
structure yi(s:cq)(x:List Int):Prop where
 len:x.length=s.n
 zero:gi x 0=0
 free:∀v<s.n,-1000000000≤gi x v∧gi x v≤1000000000
 vQ:fE s.cK (gi x)
theorem k9{v:Value}{s:cq}(hs:St H w σ)(hr:RSy H v s):
  Cl Tryz.prog 210 [v] w fun u w'=>∃H1 vt e,HLe H H1∧u= .tuple #[vt,I e]∧((s.check≠0∧e=s.check∧vt= .slice none 0 0)∨(s.Ok∧¬s.Sound∧e=23∧vt= .slice none 0 0)∨(s.Ok∧s.Sound∧e=0∧∃rs,RT H1 vt rs∧Sq s.n rs∧jF s.n s.cK (gt rs)))∧St H1 w' σ:=by
 obtain ⟨ul,rfl,hl⟩:=hr
 obtain ⟨al,cl,rfl⟩:=RL.shape hl
 refine Cl.o Tryz.func210 Tryz.ntmps210 ag1 ?_
 refine .af ?_
 refine .bx hs fun b1 w hs=>?_
 refine .z zg (.z zg (.nil (.af (.y hs (zls [_,_] a8 aC) ?_))))
 refine .o (.call Tryz.call182 rfl (qB (s:=s) hs ⟨_,rfl,hl⟩) ?_);rintro _ w ⟨rfl,hs⟩
 refine .z zg (.nil (.seq (.af (.z zm (.z fM (.nil ?_))))))
 refine (.eD rfl (fun hc9=>?_) (fun hc9=>?_))
 ·refine .af (.z zm (.z zg (.z zg (.nil ?_))))
  refine .ret (rT (Fin.kK Tryz.results210 rfl rfl ?_))
  exact ⟨H,_,_,HLe.refl H,rfl,.inl ⟨hc9,rfl,rfl⟩,hs.out⟩
 ·refine .skip ?_
  refine nT ?_
  refine .af (.y hs (zls [_,_] a8 aC) ?_)
  have hok:s.Ok:=s.bL.1 (by simpa using hc9)
  have hm1:=hok.m1
  refine .o (.call Tryz.call226 rfl (rF (s:=s) hs ⟨_,rfl,hl⟩ hok) ?_);rintro v12 w ⟨H1,rs,hle1,hRT,hSq,hWT,hs⟩
  obtain ⟨at',ct,rfl⟩:=hRT.shape
  refine .z zg (.nil (.seq (.af (.z zm ?_))))
  refine .o (.call Tryz.call233 rfl (qA hs hRT hSq (by simp only [cq.n];omega)) ?_);rintro _ w ⟨b,rfl,hb,hs⟩
  have hbs:=hb.trans (yr hok hWT).symm
  refine .z iq (.nil ?_)
  refine (.cond rfl (fun hc15=>?_) (fun hc15=>?_))
  ·refine .af (.z zg (.z zg (.nil ?_)))
   refine .ret (rT (Fin.kK Tryz.results210 rfl rfl ?_))
   exact ⟨H1,_,_,hle1,rfl,.inr (.inl ⟨hok,fun h=>by simp [hbs.2 h] at hc15,rfl,rfl⟩),hs.out⟩
  ·refine .skip ?_
   refine nT ?_
   refine .af (.z zm (.z zg (.z zg (.nil ?_))))
   refine .ret (Fin.kK Tryz.results210 rfl rfl ?_)
   exact ⟨H1,_,_,hle1,rfl,.inr (.inr ⟨hok,hbs.1 (by simpa using hc15),rfl,rs,hRT,hSq,hWT⟩),hs.out⟩
end Go.Proofs.YtddaejgfjlneoaaGreat
namespace Go.Proofs.YtddaejgfjlneoaaGreat
open Go.MW
inductive DS(s:cq)(x:List Int):Int→Prop
 |bad (h:s.check≠0):DS s x s.check
 |off (h:s.Ok) (h1:¬yi s x):DS s x 25
 |ok (h:s.Ok) (h1:yi s x):DS s x 0
theorem DS.uniq{s:cq}{x:List Int}{e f:Int}(h:DS s x e)(g:DS s x f):e=f:=by
 cases h with
 |bad h=>
  cases g with
  |bad=>rfl
  |off g _=>exact (h (s.bL.2 g)).elim
  |ok g _=>exact (h (s.bL.2 g)).elim
 |off h h1=>
  cases g with
  |bad g=>exact (g (s.bL.2 h)).elim
  |off=>rfl
  |ok _ g1=>exact (h1 g1).elim
 |ok h h1=>
  cases g with
  |bad g=>exact (g (s.bL.2 h)).elim
  |off _ g1=>exact (g1 h1).elim
  |ok=>rfl
end Go.Proofs.YtddaejgfjlneoaaGreat
namespace Go.Proofs.YtddaejgfjlneoaaGreat
open Go.MW
variable{H:bP}{w:World}{σ:List Ent}
theorem uD{v:Value}{ls:List Int}{g:Nat}{cap:List Value}{q:Int→Prop}(hs:St H w σ)(hr:RI H v ls)
  (hc:∀args w,(callFunc g args).run Tryz.prog w= .ok (.enter g args) w) (hp:∀w l,St H w σ→Cl Tryz.prog g ([I l]++cap) w fun u w'=>∃b,u= .bool b∧(b=true↔q l)∧St H w' σ):
  Cl Tryz.prog 206 [v,.func (.func g) #[] cap.toArray] w fun u w'=>∃i,u=I i∧(0≤i↔∃p∈ls,q p)∧St H w' σ:=by
 obtain ⟨a,c,rfl⟩:=RI.shape hr
 have hl:=(RI.len hr).2.2
 refine Cl.o Tryz.func206 Tryz.ntmps206 ag2 ?_
 refine .af (.z zg (.nil (.seq (.af (.z zm (.z (c9 ad) (.z zm (.nil ?_))))))))
 refine .for (N:=ls.length) (J:=fun k fr w=>fr=[(1,.func (.func g) #[] cap.toArray),(0,.slice a ls.length c)]∧St H w σ∧∀j<k,∀l,ls[j]? =some l→¬q l) aj ?_ ?_ ?_
 ·exact .mk ⟨rfl,hs,fun j hj=>by omega⟩
 ·rintro k fr w hk ⟨rfl,hs,hno⟩
  obtain ⟨l,hl⟩:=nth hk
  refine .block (.af (.z zm (.z zg (.nil (.af (.z zm (.z zm (.z zm ?_))))))))
  first|(refine .ixv hs ad ai ?_;intro b14 o14 hc14)|refine .z (zix ad ai) ?_
  refine .y hs (zld ae) ?_
  refine .o (.kT (first:=[]) rfl rfl hc (hp _ _ hs) ?_);rintro _ w ⟨b16,rfl,hb16,hs⟩
  refine .nil ?_
  refine (.cond rfl (fun hc16=>?_) (fun hc16=>?_))
  ·refine .af (.z zm (.z zg (.nil ?_)))
   refine .ret (rB (rT (rB (rT (Fin.bI qN rfl ?_)))))
   exact ⟨_,rfl,⟨fun _=>⟨l,List.mem_of_getElem? hl,hb16.1 hc16⟩,fun _=>by omega⟩,hs⟩
  ·refine .skip ?_
   refine nB (nT ?_)
   exact .mk ⟨rfl,hs,ed hno hl (fun h=>by rw [hb16.2 h] at hc16;cases hc16)⟩
 ·rintro fr w ⟨rfl,hs,hno⟩
  refine nT ?_
  refine .af (.z zg (.nil ?_))
  refine .ret (Fin.bI qN rfl ?_)
  exact ⟨_,rfl,⟨fun h=>by omega,fun ⟨p,h1,h2⟩=>by
   obtain ⟨j,hj⟩:=List.getElem?_of_mem h1
   exact (hno j (List.getElem?_eq_some_iff.1 hj).1 p hj h2).elim⟩,hs⟩
theorem lj{v:Value}{ls:List Int}{g:Nat}{cap:List Value}{q:Int→Prop}(hs:St H w σ)(hr:RI H v ls)
  (hc:∀args w,(callFunc g args).run Tryz.prog w= .ok (.enter g args) w) (hp:∀w l,St H w σ→Cl Tryz.prog g ([I l]++cap) w fun u w'=>∃b,u= .bool b∧(b=true↔q l)∧St H w' σ):
  Cl Tryz.prog 134 [v,.func (.func g) #[] cap.toArray] w fun u w'=>∃b,u= .bool b∧(b=true↔∃p∈ls,q p)∧St H w' σ:=by
 refine Cl.o Tryz.func134 Tryz.ntmps134 ag2 ?_
 refine .af (.z zg (.nil (.af (.z zm (.z zm ?_)))))
 refine .o (.call Tryz.call206 rfl (uD hs hr hc hp) ?_);rintro _ w ⟨i,rfl,hi,hs⟩
 refine .z zk (.z zg (.nil ?_))
 refine .ret (Fin.bI Tryz.results134 rfl ?_)
 exact ⟨_,rfl,by simp only [decide_eq_true_eq];exact hi,hs⟩
theorem pn{n:Int}(hs:St H w σ):Cl Tryz.prog 163 [I n] w fun v w'=>∃b,v= .bool b∧(b=true↔¬(-1000000000≤n∧n≤1000000000))∧St H w' σ:=by
 refine Cl.o Tryz.func163 Tryz.ntmps163 ag1 ?_
 refine .af (.z zg (.nil (.af (.z zm ?_))))
 refine .o (.call m7 rfl (dD hs) ?_);rintro _ w ⟨rfl,hs⟩
 refine .z iq (.z zg (.nil ?_))
 refine .ret (Fin.bI Tryz.results163 rfl ?_)
 exact ⟨_,rfl,by simp;omega,hs⟩
theorem fY{v vx:Value}{s:cq}{x:List Int}(hs:St H w σ)(hr:RSy H v s)(hx:RI H vx x):
  Cl Tryz.prog 76 [v,vx] w fun u w'=>∃e,u=I e∧DS s x e∧St H w' σ:=by
 obtain ⟨ul,rfl,hl⟩:=hr
 obtain ⟨al,cl,rfl⟩:=RL.shape hl
 obtain ⟨ax,cx,rfl⟩:=RI.shape hx
 refine Cl.o Tryz.func76 Tryz.ntmps76 ag2 ?_
 refine .af ?_
 refine .bx hs fun b2 w hs=>?_
 refine .z zg (.nil (.seq (.af (.y hs (zls [_,_] a8 aC) ?_))))
 refine .o (.call Tryz.call125 rfl (gP (s:=s) hs ⟨_,rfl,hl⟩) ?_);rintro _ w ⟨rfl,hs⟩
 refine .z zg (.nil (.af (.z zm (.z fM (.nil ?_)))))
 skip
 refine (.eD rfl (fun hc11=>?_) (fun hc11=>?_))
 ·refine .af (.z zm (.z zg (.nil ?_)))
  refine .ret (rT (Fin.bI sM rfl ?_))
  exact ⟨_,rfl,.bad hc11,hs.out⟩
 ·refine .skip ?_
  refine nT ?_
  refine .seq (.af ?_)
  have hok:s.Ok:=s.bL.1 (by simpa using hc11)
  have hm0:=hok.m0
  have hm1:=hok.m1
  have hll:=hok.len
  have hnn:(s.n:Int)=s.many+1:=by simp only [cq.n];omega
  refine .z zm (.z (c9 ad) (.z (zfa bB) (.y hs (zld ae) (.z cC (.z fM (.z zm ?_))))))
  refine .yU (t':=19) rfl (fun hb19=>?_) (fun hb19=>?_)
  ·refine .gFs 4 6 false rfl rfl rfl ?_
   refine .z zpT (.z zm ?_)
   refine .gFs 2 12 false rfl rfl rfl ?_
   refine .z zpT (.nil ?_)
   refine (.cT ?_)
   refine .af (.z zg (.nil ?_))
   refine .ret (rT (Fin.bI sM rfl ?_))
   first
    |exact ⟨_,rfl,.ok hok ⟨aj,by first|omega|(simpa using hb25),fun v hv=>hfree v aj,eK.2 fun y hy=>by
      obtain ⟨i,hi⟩:=List.getElem?_of_mem hy
      exact h1 i (List.getElem?_eq_some_iff.1 hi).1 y hi⟩,hs.out⟩
    |exact ⟨_,rfl,.off hok (fun h=>by have:=h.len;omega),hs.out⟩
    |exact ⟨_,rfl,.off hok (fun h=>by have:=h.zero;first|omega|(simp at hb25;omega)),hs.out⟩
    |exact ⟨_,rfl,.off hok (fun h=>by
      obtain ⟨p,h1,h2⟩:=hb27.1 hc28
      obtain ⟨i,hi⟩:=List.getElem?_of_mem h1
      have hil:=(List.getElem?_eq_some_iff.1 hi).1
      have:=bJ hil
      rw [hi] at this
      cases this
      exact h2 (h.free i (by have:=h.len;omega))),hs.out⟩
    |exact ⟨_,rfl,.off hok (fun h=>by
      have h8:=eK.1 h.vQ y (List.mem_of_getElem? hy)
      omega),hs.out⟩
  ·refine .gT rfl rfl ?_
   refine .z zm ?_
   refine .gT rfl rfl ?_
   refine .ixX (enc:=fun x=>[I x]) hs hx rfl rfl ad ai (bJ (l:=x) (i:=0) aj) rfl ?_;intro b21 o21 hc21;replace hc21:=bQ.one hc21
   refine .gT rfl rfl ?_
   refine .y hs (zld ae) ?_
   refine .gT rfl rfl ?_
   refine .z fM (.z zpF (.z zm ?_))
   refine .yU (t':=25) rfl (fun hb25=>?_) (fun hb25=>?_)
   ·refine .gFs 2 12 false rfl rfl rfl ?_
    refine .z zpT (.nil ?_)
    refine (.cT ?_)
    refine .af (.z zg (.nil ?_))
    refine .ret (rT (Fin.bI sM rfl ?_))
    first
     |exact ⟨_,rfl,.ok hok ⟨aj,by first|omega|(simpa using hb25),fun v hv=>hfree v aj,eK.2 fun y hy=>by
       obtain ⟨i,hi⟩:=List.getElem?_of_mem hy
       exact h1 i (List.getElem?_eq_some_iff.1 hi).1 y hi⟩,hs.out⟩
     |exact ⟨_,rfl,.off hok (fun h=>by have:=h.len;omega),hs.out⟩
     |exact ⟨_,rfl,.off hok (fun h=>by have:=h.zero;first|omega|(simp at hb25;omega)),hs.out⟩
     |exact ⟨_,rfl,.off hok (fun h=>by
       obtain ⟨p,h1,h2⟩:=hb27.1 hc28
       obtain ⟨i,hi⟩:=List.getElem?_of_mem h1
       have hil:=(List.getElem?_eq_some_iff.1 hi).1
       have:=bJ hil
       rw [hi] at this
       cases this
       exact h2 (h.free i (by have:=h.len;omega))),hs.out⟩
     |exact ⟨_,rfl,.off hok (fun h=>by
       have h8:=eK.1 h.vQ y (List.mem_of_getElem? hy)
       omega),hs.out⟩
   ·refine .gT rfl rfl ?_
    refine .z zm ?_
    refine .gT rfl rfl ?_
    refine .o (.call Tryz.call134 rfl (lj (q:=fun n=>¬(-1000000000≤n∧n≤1000000000)) (cap:=[]) hs hx Tryz.call163 (fun w n hs=>pn hs)) ?_);rintro _ w ⟨b27,rfl,hb27,hs⟩
    refine .z zpF (.nil ?_)
    refine (.cond rfl (fun hc28=>?_) (fun hc28=>?_))
    ·refine .af (.z zg (.nil ?_))
     refine .ret (rT (Fin.bI sM rfl ?_))
     first
      |exact ⟨_,rfl,.ok hok ⟨aj,by first|omega|(simpa using hb25),fun v hv=>hfree v aj,eK.2 fun y hy=>by
        obtain ⟨i,hi⟩:=List.getElem?_of_mem hy
        exact h1 i (List.getElem?_eq_some_iff.1 hi).1 y hi⟩,hs.out⟩
      |exact ⟨_,rfl,.off hok (fun h=>by have:=h.len;omega),hs.out⟩
      |exact ⟨_,rfl,.off hok (fun h=>by have:=h.zero;first|omega|(simp at hb25;omega)),hs.out⟩
      |exact ⟨_,rfl,.off hok (fun h=>by
        obtain ⟨p,h1,h2⟩:=hb27.1 hc28
        obtain ⟨i,hi⟩:=List.getElem?_of_mem h1
        have hil:=(List.getElem?_eq_some_iff.1 hi).1
        have:=bJ hil
        rw [hi] at this
        cases this
        exact h2 (h.free i (by have:=h.len;omega))),hs.out⟩
      |exact ⟨_,rfl,.off hok (fun h=>by
        have h8:=eK.1 h.vQ y (List.mem_of_getElem? hy)
        omega),hs.out⟩
    ·refine .skip ?_
     refine nT ?_
     refine .seq (.af (.z (zfa bF) (.y hs (zld cA) (.z (c9 aN) (.z zm (.nil ?_))))))
     refine .for (N:=s.bV.length) (J:=fun k fr w=>fr=[(30,.slice al s.bV.length cl),(1,.slice ax x.length cx)]∧(∀i<k,∀y,s.bV[i]? =some y→gi x y.B.toNat≤gi x y.A.toNat+y.M)∧St H w (.blk b2 [I s.many,.slice al s.bV.length cl]::σ)) aj ?_ ?_ ?_
     ·exact .mk ⟨rfl,fun i hi=>by omega,hs⟩
     ·have hfree:∀v<x.length,-1000000000≤gi x v∧gi x v≤1000000000:=fun v hv=>by
       apply Classical.byContradiction
       intro h
       have:=hb27.2 ⟨gi x v,List.mem_of_getElem? (bJ hv),h⟩
       subst this
       simp at hc28
      rintro k fr w hk ⟨rfl,h1,hs⟩
      obtain ⟨y,hy⟩:=nth hk
      obtain ⟨⟨y1,y2⟩,⟨y3,y4⟩,y5,y6,-⟩:=hok.lim y (List.mem_of_getElem? hy)
      have z1:=hfree y.B.toNat aj
      have z2:=hfree y.A.toNat aj
      refine .block (.af ?_)
      refine .ixX (enc:=Lim.c) hs hl rfl rfl aN bj hy rfl ?_;intro b34 o34 hc34
      refine .q hs (cd (vs:=y.c) rfl eC bj hc34) ?_
      refine .o (.alloc hs dF rfl fun b7 w hs=>?_)
      refine .o (.aO (vs:=y.c) hs rfl rfl bj fun w hs=>?_)
      refine .nil ?_
      refine .seq (.draw mix rfl hs fun w hs=>?_)
      refine .z 0 rfl zm ?_;refine .z 1 rfl (zfa dP) ?_;refine .y 2 rfl hs ae ?_
      refine .ixX (enc:=fun x=>[I x]) (i:=3) hs rfl au .none hx rfl rfl ad ai (bJ (l:=x) (i:=y.B.toNat) aj) aj ?_;intro b39 o39 hc39;replace hc39:=bQ.one hc39
      refine .r (i:=4) hs rfl au .none (bh rfl ae hc39) ?_
      refine .z 5 rfl zm ?_;refine .z 6 rfl (zfa dH) ?_;refine .y 7 rfl hs ae ?_
      refine .ixX (enc:=fun x=>[I x]) (i:=8) hs rfl au .none hx rfl rfl ad ai (bJ (l:=x) (i:=y.A.toNat) aj) aj ?_;intro b44 o44 hc44;replace hc44:=bQ.one hc44
      refine .r (i:=9) hs rfl au .none (bh rfl ae hc44) ?_
      refine .z 10 rfl hZ ?_;refine .z 11 rfl (zfa eV) ?_;refine .y 12 rfl hs ae ?_;refine .z 13 rfl od ?_;refine .D hs ?_
      refine (.ck rfl (fun hc49=>?_) (fun hc49=>?_))
      ·refine .af (.z zg (.nil ?_))
       refine .ret (rB (rT (rB (rT (Fin.bI sM rfl ?_)))))
       first
        |exact ⟨_,rfl,.ok hok ⟨aj,by first|omega|(simpa using hb25),fun v hv=>hfree v aj,eK.2 fun y hy=>by
          obtain ⟨i,hi⟩:=List.getElem?_of_mem hy
          exact h1 i (List.getElem?_eq_some_iff.1 hi).1 y hi⟩,hs.out⟩
        |exact ⟨_,rfl,.off hok (fun h=>by have:=h.len;omega),hs.out⟩
        |exact ⟨_,rfl,.off hok (fun h=>by have:=h.zero;first|omega|(simp at hb25;omega)),hs.out⟩
        |exact ⟨_,rfl,.off hok (fun h=>by
          obtain ⟨p,h1,h2⟩:=hb27.1 hc28
          obtain ⟨i,hi⟩:=List.getElem?_of_mem h1
          have hil:=(List.getElem?_eq_some_iff.1 hi).1
          have:=bJ hil
          rw [hi] at this
          cases this
          exact h2 (h.free i (by have:=h.len;omega))),hs.out⟩
        |exact ⟨_,rfl,.off hok (fun h=>by
          have h8:=eK.1 h.vQ y (List.mem_of_getElem? hy)
          omega),hs.out⟩
      ·refine .skip ?_
       refine nB (nT ?_)
       exact .mk ⟨rfl,fun i hi z hz=>by
        by_cases e:i=k
        ·subst e;rw [hy] at hz;cases hz;omega
        ·exact h1 i aj z hz,hs.out⟩
     ·have hfree:∀v<x.length,-1000000000≤gi x v∧gi x v≤1000000000:=fun v hv=>by
       apply Classical.byContradiction
       intro h
       have:=hb27.2 ⟨gi x v,List.mem_of_getElem? (bJ hv),h⟩
       subst this
       simp at hc28
      rintro fr w ⟨rfl,h1,hs⟩
      refine nT ?_
      refine .af (.z zg (.nil ?_))
      refine .ret (Fin.bI sM rfl ?_)
      first
       |exact ⟨_,rfl,.ok hok ⟨aj,by first|omega|(simpa using hb25),fun v hv=>hfree v aj,eK.2 fun y hy=>by
         obtain ⟨i,hi⟩:=List.getElem?_of_mem hy
         exact h1 i (List.getElem?_eq_some_iff.1 hi).1 y hi⟩,hs.out⟩
       |exact ⟨_,rfl,.off hok (fun h=>by have:=h.len;omega),hs.out⟩
       |exact ⟨_,rfl,.off hok (fun h=>by have:=h.zero;first|omega|(simp at hb25;omega)),hs.out⟩
       |exact ⟨_,rfl,.off hok (fun h=>by
         obtain ⟨p,h1,h2⟩:=hb27.1 hc28
         obtain ⟨i,hi⟩:=List.getElem?_of_mem h1
         have hil:=(List.getElem?_eq_some_iff.1 hi).1
         have:=bJ hil
         rw [hi] at this
         cases this
         exact h2 (h.free i (by have:=h.len;omega))),hs.out⟩
       |exact ⟨_,rfl,.off hok (fun h=>by
         have h8:=eK.1 h.vQ y (List.mem_of_getElem? hy)
         omega),hs.out⟩
end Go.Proofs.YtddaejgfjlneoaaGreat
namespace Go.Proofs
open Go.Shelf
def Tryz.wU:Go.Shelf.Ren:=⟨fun|189=>138|125=>209|257=>208|128=>262|129=>263|294=>253|295=>254|296=>255|297=>256|298=>257|299=>258|216=>259|300=>260|301=>261|328=>282|329=>283|330=>284|331=>285|332=>286|215=>287|343=>296|n=>n,fun|28=>22|3=>3|46=>250|0=>0|51=>285|53=>287|4=>4|183=>279|182=>278|131=>282|5=>5|9=>9|218=>304|222=>308|228=>318|229=>275|n=>n,fun|n=>n⟩
theorem Tryz.Al:Go.Proofs.Lays.n189 Tryz.prog Tryz.wU:={
 mixed:=by kernel_rfl
 f125:=Tryz.func209.trans (congrArg some (by kernel_rfl))
 f128:=Tryz.func262.trans (congrArg some (by kernel_rfl))
 f129:=Tryz.func263.trans (congrArg some (by kernel_rfl))
 f189:=Tryz.func138.trans (congrArg some (by kernel_rfl))
 f215:=Tryz.func287.trans (congrArg some (by kernel_rfl))
 f216:=Tryz.func259.trans (congrArg some (by kernel_rfl))
 f257:=Tryz.func208.trans (congrArg some (by kernel_rfl))
 f294:=Tryz.func253.trans (congrArg some (by kernel_rfl))
 f295:=Tryz.func254.trans (congrArg some (by kernel_rfl))
 f296:=Tryz.func255.trans (congrArg some (by kernel_rfl))
 f297:=Tryz.func256.trans (congrArg some (by kernel_rfl))
 f298:=Tryz.func257.trans (congrArg some (by kernel_rfl))
 f299:=Tryz.func258.trans (congrArg some (by kernel_rfl))
 f300:=Tryz.func260.trans (congrArg some (by kernel_rfl))
 f301:=Tryz.func261.trans (congrArg some (by kernel_rfl))
 f328:=Tryz.func282.trans (congrArg some (by kernel_rfl))
 f329:=Tryz.func283.trans (congrArg some (by kernel_rfl))
 f330:=Tryz.func284.trans (congrArg some (by kernel_rfl))
 f331:=Tryz.func285.trans (congrArg some (by kernel_rfl))
 f332:=Tryz.func286.trans (congrArg some (by kernel_rfl))
 f343:=Tryz.func296.trans (congrArg some (by kernel_rfl))
 t0:=Tryz.underlying0
 a0:=Tryz.isAgg0
 z0:=Tryz.sizeOf0
 v0:=Tryz.zeroValue0
 t3:=Tryz.underlying3
 a3:=Tryz.isAgg3
 z3:=Tryz.sizeOf3
 v3:=Tryz.zeroValue3
 t4:=Tryz.underlying4
 a4:=Tryz.isAgg4
 z4:=Tryz.sizeOf4
 v4:=Tryz.zeroValue4
 t5:=Tryz.underlying5
 a5:=Tryz.isAgg5
 z5:=Tryz.sizeOf5
 v5:=Tryz.zeroValue5
 t9:=Tryz.underlying9
 a9:=Tryz.isAgg9
 z9:=Tryz.sizeOf9
 v9:=Tryz.zeroValue9
 t28:=Tryz.underlying22
 a28:=Tryz.isAgg22
 z28:=Tryz.sizeOf22
 v28:=Tryz.zeroValue22
 t46:=Tryz.underlying250
 a46:=Tryz.isAgg250
 z46:=Tryz.sizeOf250
 v46:=Tryz.zeroValue250
 t51:=Tryz.underlying285
 a51:=Tryz.isAgg285
 z51:=Tryz.sizeOf285
 v51:=Tryz.zeroValue285
 t53:=Tryz.underlying287
 a53:=Tryz.isAgg287
 z53:=Tryz.sizeOf287
 v53:=Tryz.zeroValue287
 t131:=Tryz.underlying282
 a131:=Tryz.isAgg282
 z131:=Tryz.sizeOf282
 v131:=Tryz.zeroValue282
 t182:=Tryz.underlying278
 a182:=Tryz.isAgg278
 z182:=Tryz.sizeOf278
 v182:=Tryz.zeroValue278
 t183:=Tryz.underlying279
 a183:=Tryz.isAgg279
 z183:=Tryz.sizeOf279
 v183:=Tryz.zeroValue279
 t218:=Tryz.underlying304
 a218:=Tryz.isAgg304
 z218:=Tryz.sizeOf304
 v218:=Tryz.zeroValue304
 t222:=Tryz.underlying308
 a222:=Tryz.isAgg308
 z222:=Tryz.sizeOf308
 v222:=Tryz.zeroValue308
 t228:=Tryz.underlying318
 a228:=Tryz.isAgg318
 z228:=Tryz.sizeOf318
 v228:=Tryz.zeroValue318
 t229:=Tryz.underlying275
 a229:=Tryz.isAgg275
 z229:=Tryz.sizeOf275
 v229:=Tryz.zeroValue275}
def Tryz.vA:Go.Shelf.Ren:=⟨fun|20=>139|n=>n,fun|22=>22|3=>3|4=>4|0=>0|n=>n,fun|n=>n⟩
theorem Tryz.xD:Go.Proofs.Lays2.n20 Tryz.prog Tryz.vA:={
 mixed:=by kernel_rfl
 f20:=Tryz.func139.trans (congrArg some (by kernel_rfl))
 t0:=Tryz.underlying0
 a0:=Tryz.isAgg0
 z0:=Tryz.sizeOf0
 v0:=Tryz.zeroValue0
 t3:=Tryz.underlying3
 a3:=Tryz.isAgg3
 z3:=Tryz.sizeOf3
 v3:=Tryz.zeroValue3
 t4:=Tryz.underlying4
 a4:=Tryz.isAgg4
 z4:=Tryz.sizeOf4
 v4:=Tryz.zeroValue4
 t22:=Tryz.underlying22
 a22:=Tryz.isAgg22
 z22:=Tryz.sizeOf22
 v22:=Tryz.zeroValue22
 i3:=by kernel_rfl}
end Go.Proofs
namespace Go.Proofs.YtddaejgfjlneoaaGreat
open Go.Sort Go.RowKit
theorem Bk(blk off cap:Nat)(zs:List Int)(w:World)(hH:Holds (Value.int .i64) w blk off zs.toArray)(hblk:blk<w.heap.size)(hsz:zs.length<4611686018427387904):
  Calls Tryz.prog 138 #[.slice (some ⟨blk,off,none⟩) zs.length cap] w fun e w'=>e= .returned (.tuple #[])∧∃n os,w'=grow (putRow (Value.int .i64) (Sort.ahead w n) blk off (zs.mergeSort fun x y=>decide (x≤y)).toArray) os:=
 Any.slices_Sort_int Tryz.Al blk off cap zs w hH hblk hsz
theorem tC(p:Option Addr)(cap:Nat)(w:World):Calls Tryz.prog 138 #[.slice p 0 cap] w fun e w'=>e= .returned (.tuple #[])∧w'=w:=
 Any.slices_Sort_int_none Tryz.Al p cap w
theorem wD(blk off cap:Nat)(zs:List Int)(w:World)(hH:Holds (Value.int .i64) w blk off zs.toArray)(hsz:zs.length≤9223372036854775807)(hcap:zs.length≤cap):
  Calls Tryz.prog 139 #[.slice (some ⟨blk,off,none⟩) zs.length cap] w fun e w'=>e= .returned (.slice (some ⟨blk,off,none⟩) (Lib.compact zs).length cap)∧∃q,w'=putRow (Value.int .i64) (Sort.ahead w q) blk off (Lib.compact zs++List.replicate (zs.length - (Lib.compact zs).length) 0).toArray:=
 Any.slices_Compact_int Tryz.xD blk off cap zs w hH hsz hcap
theorem qu(p:Option Addr)(cap:Nat)(w:World):Calls Tryz.prog 139 #[.slice p 0 cap] w fun e w'=>e= .returned (.slice p 0 cap)∧w'=w:=
 Any.slices_Compact_int_empty Tryz.xD p cap w
end Go.Proofs.YtddaejgfjlneoaaGreat
namespace Go.Proofs.YtddaejgfjlneoaaGreat
open Go.MW
variable{H:bP}{w:World}{σ:List Ent}
theorem qv{v:Value}{ls:List Int}{x:Int}(hs:St H w σ)(hr:RI H v ls):
  Cl Tryz.prog 205 [v,I x] w fun u w'=>∃i,u=I i∧(0≤i↔x∈ls)∧St H w' σ:=by
 obtain ⟨a,c,rfl⟩:=RI.shape hr
 have hl:=(RI.len hr).2.2
 refine Cl.o Tryz.func205 Tryz.ntmps205 ag2 ?_
 refine .af (.z zg (.nil (.seq (.af (.z zm (.z (c9 ad) (.z zm (.nil ?_))))))))
 refine .for (N:=ls.length) (J:=fun k fr w=>fr=[(1,I x),(0,.slice a ls.length c)]∧St H w σ∧∀j<k,∀y,ls[j]? =some y→¬x=y) aj ?_ ?_ ?_
 ·exact .mk ⟨rfl,hs,fun j hj=>by omega⟩
 ·rintro k fr w hk ⟨rfl,hs,hno⟩
  obtain ⟨y,hy⟩:=nth hk
  refine .block (.af (.z zm (.z zg (.nil (.af (.z zm (.z zm (.z zm ?_))))))))
  refine .ixY hs hr rfl rfl ad ai hy rfl ?_;intro b14 o14 hc14
  refine .q hs (bh rfl ae hc14) ?_
  refine .z ir (.nil ?_)
  refine (.ck rfl (fun hc16=>?_) (fun hc16=>?_))
  ·refine .af (.z zm (.z zg (.nil ?_)))
   refine .ret (rB (rT (rB (rT (Fin.bI Tryz.results205 rfl ?_)))))
   exact ⟨_,rfl,⟨fun _=>by rw [hc16];exact List.mem_of_getElem? hy,fun _=>by omega⟩,hs⟩
  ·refine .skip ?_
   refine nB (nT ?_)
   exact .mk ⟨rfl,hs,ed hno hy hc16⟩
 ·rintro fr w ⟨rfl,hs,hno⟩
  refine nT ?_
  refine .af (.z zg (.nil ?_))
  refine .ret (Fin.bI Tryz.results205 rfl ?_)
  exact ⟨_,rfl,⟨fun h=>by omega,fun h=>by
   obtain ⟨j,hj⟩:=List.getElem?_of_mem h
   exact (hno j (List.getElem?_eq_some_iff.1 hj).1 x hj rfl).elim⟩,hs⟩
theorem ju{v:Value}{ls:List Int}{x:Int}(hs:St H w σ)(hr:RI H v ls):
  Cl Tryz.prog 130 [v,I x] w fun u w'=>u= .bool (decide (x∈ls))∧St H w' σ:=by
 refine Cl.o Tryz.func130 Tryz.ntmps130 ag2 ?_
 refine .af (.z zg (.nil (.af (.z zm (.z zm ?_)))))
 refine .o (.call Tryz.call205 rfl (qv hs hr) ?_);rintro _ w ⟨i,rfl,hi,hs⟩
 refine .z zk (.z zg (.nil ?_))
 refine .ret (Fin.bI Tryz.results130 rfl ?_)
 exact ⟨by simp only [hi],hs⟩
set_option maxHeartbeats 1000000 in
theorem r8{v:Value}{s:cq}{g:Nat}{cap:List Value}(q:Nat→Lim→Bool)(hs:St H w σ)(hr:RSy H v s)(hlen:s.bV.length≤4398046510976)(hc:∀args w,(callFunc g args).run Tryz.prog w= .ok (.enter g args) w)
  (hp:∀w σ (k:Nat) (l:Lim),s.bV[k]? =some l→St H w σ→Cl Tryz.prog g ([I k,.agg l.c.toArray]++cap) w fun u w'=>u= .bool (q k l)∧St H w' σ):
  Cl Tryz.prog 131 [v,.func (.func g) #[] cap.toArray] w fun u w'=>∃H1,HLe H H1∧RSy H1 u ⟨s.many,jb q s.bV s.bV.length⟩∧St H1 w' σ:=by
 obtain ⟨ul,rfl,hl⟩:=hr
 obtain ⟨al,cl,rfl⟩:=RL.shape hl
 refine Cl.o Tryz.func131 Tryz.ntmps131 ag2 ?_
 refine .af ?_
 refine .bx hs fun b2 w hs=>?_
 refine .o (.alloc hs cu rfl fun b4 w hs=>?_)
 refine .nil (.af (.z (zfa bB) (.y hs (zld ae) (.z (zbd [_,_] iF) ?_))))
 refine .o (.alloc hs cu rfl fun b5 w hs=>?_)
 refine .o (.aO (vs:=[_,_]) hs rfl rfl aC fun w hs=>?_)
 refine .nil (.seq (.af (.z (zfa bF) (.y hs (zld cA) (.z (c9 aN) (.z zm (.nil ?_)))))))
 refine .for (N:=s.bV.length) (J:=fun k fr w=>fr=[(12,.slice al s.bV.length cl),(1,.func (.func g) #[] cap.toArray),(5,.pointer (some ⟨b5,0,none⟩)),(4,.pointer (some ⟨b4,0,none⟩))]∧∃vL en,bS 4 vL (fy (jb q s.bV k)) en∧St H w (.blk b5 [I s.many,vL]:: .blk b4 [I 0,.slice none 0 0]::en::σ)) aj ?_ ?_ ?_
 ·exact .mk ⟨rfl,_,_,.nil 4 none,hs.nul.sb⟩
 ·rintro k fr w hk ⟨rfl,vL,en,hO,hs⟩
  obtain ⟨x,hx⟩:=nth (l:=s.bV) hk
  obtain ⟨aL,lL,cL,rfl,hL⟩:=hO.shape
  have hpl:=kO q s.bV k
  refine .block (.af (.z zm ?_))
  refine .ixX hs hl rfl rfl aN bj hx rfl ?_;intro b17 o17 hc17
  refine .q hs (cd (vs:=x.c) rfl eC bj hc17) ?_
  refine .o (.alloc hs dF rfl fun b7 w hs=>?_)
  refine .z zg ?_
  refine .o (.aO (vs:=x.c) hs rfl rfl bj fun w hs=>?_)
  refine .nil (.af (.z zm (.z zm (.y hs (zls [_,_,_,_] eC bj) ?_))))
  refine .o (.kT (first:=[]) (cap:=cap) rfl rfl hc (hp _ _ k x hx hs) ?_);rintro _ w ⟨rfl,hs⟩
  refine .nil ?_
  refine (.cond rfl (fun hc22=>?_) (fun hc22=>?_))
  ·refine .region (.z (zfa bF) (.y hs (zld cA) (.y hs (zls [_,_,_,_] eC bj) ?_)))
   refine .o (.buildSlice (cells:=x.c) hs pq rfl rfl fun b26 w hs=>?_)
   refine .o (.append (ys:=x.c) hs bO rfl rfl hO (.own .here rfl rfl) (by simp [Lim.c,Value.oneCell']) (fun l h=>by rw [dj] at h;omega) ?_);intro v27 en27 w hO2 hs
   obtain ⟨a27,l27,c27,rfl,h27⟩:=hO2.shape
   refine .z (zfa bF) ?_
   refine .o (.store hs rfl rfl k7 fun w hs=>?_)
   refine .nil ?_
   refine nB (nT ?_)
   have e:jb q s.bV (k+1)=jb q s.bV k++[x]:=by rw [nD hx,if_pos hc22]
   rw [←Ci,←fw,←e] at hO2
   exact .mk ⟨rfl,_,_,hO2,hs.sb⟩
  ·refine .skip ?_
   refine nB (nT ?_)
   have e:jb q s.bV (k+1)=jb q s.bV k:=by rw [nD hx,hc22];simp
   exact .mk ⟨rfl,_,_,by rw [e];exact hO,hs.sb⟩
 ·rintro fr w ⟨rfl,vL,en,hO,hs⟩
  obtain ⟨aL,lL,cL,rfl,hL⟩:=hO.shape
  have hpl:=kO q s.bV s.bV.length
  refine nT ?_
  refine .af (.y hs (zls [_,_] a8 aC) ?_)
  refine .o (.aO (vs:=[_,_]) hs rfl rfl aC fun w hs=>?_)
  refine .nil ?_
  refine .ret ?_
  obtain ⟨H1,g1,r1,hs⟩:=bS.cf (m:=4) (cs:=(jb q s.bV s.bV.length).map Lim.c) hO (fun c hc=>by simp only [List.mem_map] at hc;obtain ⟨x,_,rfl⟩:=hc;rfl) aj (by rw [List.length_map];omega) hs dw
  exact Fin.gI [] [] hs fun w hs=>⟨_,results1 Tryz.results131 (di (vs:=[_,_]) hs rfl a8 aC),H1,g1,⟨_,rfl,r1⟩,hs.out⟩
theorem r9{b:Nat}{i:Int}{l:Lim}{vb:Value}{bs:List Int}(hs:St H w σ)(hb:Row H b [vb])(hr:RI H vb bs):
  Cl Tryz.prog 207 [I i,.agg l.c.toArray,.pointer (some ⟨b,0,none⟩)] w fun u w'=>u= .bool (!decide (l.S∈bs))∧St H w' σ:=by
 have hb0:cellAt H b 0=some vb:=by rw [hb.cell];rfl
 refine Cl.o Tryz.func207 Tryz.ntmps207 ag3 ?_
 refine .af ?_
 refine .bx hs fun b4 w hs=>?_
 refine .z zg (.nil (.af (.y hs (zld ak) (.z (zfa iC) (.y hs (zld ae) ?_)))))
 refine .o (.call Tryz.call130 rfl (ju hs hr) ?_);rintro _ w ⟨rfl,hs⟩
 refine .z iq (.z zg (.nil ?_))
 refine .ret (Fin.bI Tryz.results207 rfl ?_)
 exact ⟨rfl,hs.out⟩
theorem pj{v vb:Value}{s:cq}{bs:List Int}(hs:St H w σ)(hr:RSy H v s)(hb:RI H vb bs)(hlen:s.bV.length≤4398046510976):
  Cl Tryz.prog 136 [v,vb] w fun u w'=>∃H1,HLe H H1∧RSy H1 u (s.wo bs)∧St H1 w' σ:=by
 obtain ⟨ul,rfl,hl⟩:=hr
 obtain ⟨al,cl,rfl⟩:=RL.shape hl
 obtain ⟨ab,cb,rfl⟩:=RI.shape hb
 refine Cl.o Tryz.func136 Tryz.ntmps136 ag2 ?_
 refine .af ?_
 refine .bx hs fun b2 w hs=>?_
 refine .bx hs fun b3 w hs=>?_
 refine .o (.alloc hs cu rfl fun b4 w hs=>?_)
 refine .nil (.af (.y hs (zls [_,_] a8 aC) ?_))
 refine .q hs (cU (f:=[]) (c:=[_]) rfl rfl) ?_
 obtain ⟨H1,hle1,r3,hs⟩:=hs.cf (b:=b3) dw
 refine .o (.call Tryz.call131 rfl (r8 (g:=207) (cap:=[.pointer (some ⟨b3,0,none⟩)]) (s:=s) (fun _ l=> !decide (l.S∈bs)) hs ⟨_,rfl,hl.mono hle1⟩ hlen Tryz.call207 (fun w σ k l _ hs=>r9 hs r3 (hb.mono hle1))) ?_);rintro _ w ⟨H2,hle2,⟨u7,rfl,hL7⟩,hs⟩
 rw [yF] at hL7
 obtain ⟨a7,c7,rfl⟩:=RL.shape hL7
 refine .o (.aO (vs:=[_,_]) hs rfl rfl aC fun w hs=>?_)
 refine .nil ?_
 refine .ret ?_
 exact Fin.gI [] [] hs fun w hs=>⟨_,results1 Tryz.results136 (di (vs:=[_,_]) hs rfl a8 aC),H2,hle1.trans hle2,⟨_,rfl,hL7⟩,hs.out⟩
theorem lR{b cap:Nat}{xs:List Int}{sp:List Value}(hs:St H w (.blk b (Is xs++sp)::σ))(hl:xs.length≤17592186044416):
  Cl Tryz.prog 138 [.slice (some ⟨b,0,none⟩) xs.length cap] w fun u w'=>u= .tuple #[]∧St H w' (.blk b (Is (xs.mergeSort fun x y=>decide (x≤y))++sp)::σ):=
 (Bk b 0 cap xs w hs.holds (hs.lt .here) aj).mono fun e w' ⟨he,m,os,hw⟩=>⟨_,he,rfl,by
  rw [hw]
  exact (hs.putRow (List.length_mergeSort _)).grow os⟩
theorem k8{a:Option Addr}{cap:Nat}(hs:St H w σ):
  Cl Tryz.prog 138 [.slice a 0 cap] w fun u w'=>u= .tuple #[]∧St H w' σ:=
 (tC a cap w).mono fun e w' ⟨he,hw⟩=>⟨_,he,rfl,by rw [hw];exact hs⟩
theorem jN{b cap:Nat}{xs:List Int}{sp:List Value}(hs:St H w (.blk b (Is xs++sp)::σ))(hl:xs.length≤17592186044416)(hcap:xs.length≤cap):
  Cl Tryz.prog 139 [.slice (some ⟨b,0,none⟩) xs.length cap] w fun u w'=>u= .slice (some ⟨b,0,none⟩) (Go.Lib.compact xs).length cap∧St H w' (.blk b (Is (Go.Lib.compact xs)++(Is (List.replicate (xs.length - (Go.Lib.compact xs).length) 0)++sp))::σ):=
 (wD b 0 cap xs w hs.holds aj hcap).mono fun e w' ⟨he,m,hw⟩=>⟨_,he,rfl,by
  rw [hw]
  have h:=Go.Lib.compact_length_le xs
  have:=hs.putRow (m:=m) (ys:=Go.Lib.compact xs++List.replicate (xs.length - (Go.Lib.compact xs).length) 0) (by simp;omega)
  have e2:Is (Go.Lib.compact xs++List.replicate (xs.length - (Go.Lib.compact xs).length) 0)=Is (Go.Lib.compact xs)++Is (List.replicate (xs.length - (Go.Lib.compact xs).length) 0):=List.map_append
  rw [e2,List.append_assoc] at this
  exact this⟩
theorem jv{a:Option Addr}{cap:Nat}(hs:St H w σ):
  Cl Tryz.prog 139 [.slice a 0 cap] w fun u w'=>u= .slice a 0 cap∧St H w' σ:=
 (qu a cap w).mono fun e w' ⟨he,hw⟩=>⟨_,he,rfl,by rw [hw];exact hs⟩
theorem sG{v:Value}{xs:List Int}{en:Ent}(hs:St H w (en::σ))(hO:bS 1 v (Is xs) en)(hl:xs.length≤17592186044416):
  Cl Tryz.prog 204 [v] w fun u w'=>∃L en',bS 1 u (Is L) en'∧L.length≤xs.length∧ig (fun x=>x∈xs) L∧St H w' (en'::σ):=by
 rcases hO with ⟨a,rfl,h0,rfl⟩|⟨b,len,cap,sp,rfl,rfl,h3,h4,h5⟩
 ·have hx:xs=[]:=by simpa using h0
  subst hx
  refine Cl.o Tryz.func204 Tryz.ntmps204 ag1 ?_
  refine .af (.z zg (.nil (.af (.z zm ?_))))
  refine .o (.call FC rfl (k8 hs) ?_);rintro _ w ⟨rfl,hs⟩
  refine .nil (.af (.z zm ?_))
  refine .o (.call FB rfl (jv hs) ?_);rintro _ w ⟨rfl,hs⟩
  refine .z zg (.nil ?_)
  refine .ret (Fin.bI Tryz.results204 rfl ?_)
  exact ⟨[],_,.nil 1 a,cm,.nil cm,hs.out⟩
 ·obtain rfl:len=xs.length:=by simpa using h3.symm
  refine Cl.o Tryz.func204 Tryz.ntmps204 ag1 ?_
  refine .af (.z zg (.nil (.af (.z zm ?_))))
  refine .o (.call FC rfl (lR hs hl) ?_);rintro _ w ⟨rfl,hs⟩
  refine .nil (.af (.z zm ?_))
  have hml:(xs.mergeSort fun x y=>decide (x≤y)).length=xs.length:=List.length_mergeSort _
  rw [←hml]
  refine .o (.call FB rfl (jN hs aj aj) ?_);rintro _ w ⟨rfl,hs⟩
  refine .z zg (.nil ?_)
  refine .ret (Fin.bI Tryz.results204 rfl ?_)
  have hcl:=Go.Lib.compact_length_le (xs.mergeSort fun x y=>decide (x≤y))
  have h4':xs.length+sp.length=cap:=by simpa using h4
  exact ⟨_,_,.inr ⟨b,_,cap,Is (List.replicate ((xs.mergeSort fun x y=>decide (x≤y)).length - (Go.Lib.compact (xs.mergeSort fun x y=>decide (x≤y))).length) 0)++sp,rfl,rfl,cm,by simp;omega,aj⟩,aj,kJ,hs⟩
theorem jX{v:Value}{s:cq}(hs:St H w σ)(hr:RSy H v s)(hlen:s.bV.length≤4398046510976):
  Cl Tryz.prog 129 [v] w fun u w'=>∃L en,bS 1 u (Is L) en∧L.length≤s.bV.length∧ig (EK s.bV) L∧St H w' (en::σ):=by
 obtain ⟨ul,rfl,hl⟩:=hr
 obtain ⟨al,cl,rfl⟩:=RL.shape hl
 refine Cl.o Tryz.func129 Tryz.ntmps129 ag1 ?_
 refine .af ?_
 refine .bx hs fun b1 w hs=>?_
 refine .z zg (.nil (.af (.z zg (.nil (.seq (.af (.z (zfa bF) (.y hs (zld cA) (.z (c9 aN) ?_)))))))))
 refine .z zm (.nil ?_)
 refine .for (N:=s.bV.length) (J:=fun k fr w=>∃v3 en,bS 1 v3 (Is ((s.bV.take k).map Lim.S)) en∧fr=[(3,v3),(7,.slice al s.bV.length cl)]∧St H w (en::σ)) aj ?_ ?_ ?_
 ·exact .mk ⟨_,_,.nil 1 none,rfl,hs.nul.sb⟩
 ·rintro k fr w hk ⟨v3,en,hO,rfl,hs⟩
  obtain ⟨x,hx⟩:=nth (l:=s.bV) hk
  obtain ⟨a3,l3,c3,rfl,h3⟩:=hO.shape
  refine .block (.af ?_)
  refine .ixX hs hl rfl rfl aN bj hx rfl ?_;intro b11 o11 hc11
  refine .q hs (cd (vs:=x.c) rfl eC bj hc11) ?_
  refine .o (.alloc hs dF rfl fun b5 w hs=>?_)
  refine .o (.aO (vs:=x.c) hs rfl rfl bj fun w hs=>?_)
  refine .nil (.region (.z zm (.z (zfa iC) (.y hs (zld ae) ?_))))
  refine .o (.buildSlice (cells:=[_]) hs bY rfl rfl fun b16 w hs=>?_)
  refine .o (.append (ys:=Is [x.S]) hs bN rfl rfl hO (.own .here rfl rfl) (fH _) (fun l' h=>by simp at h;omega) ?_);intro v17 en17 w hO2 hs
  rw [←List.map_append] at hO2
  refine .z zg (.nil ?_)
  refine nB (nT ?_)
  exact .mk ⟨_,_,by rw [cM hx,List.map_append];exact hO2,rfl,hs.sb⟩
 ·rintro fr w ⟨v3,en,hO,rfl,hs⟩
  rw [List.take_length] at hO
  refine nT ?_
  refine .af (.z zm ?_)
  refine .o (.call Tryz.call204 rfl (sG hs hO (by rw [List.length_map];omega)) ?_);rintro v20 w ⟨L,en',hO',hL,hR,hs⟩
  rw [List.length_map] at hL
  refine .z zg (.nil ?_)
  refine .ret (Fin.bI Tryz.results129 rfl ?_)
  exact ⟨L,en',hO',hL,hR.congr fun x=>by simp [EK],hs⟩
theorem mI{v:Value}{en:Ent}{xs:List Int}{g:Nat}{cap:List Value}(q:Int→Bool)(hs:St H w (en::σ))(hO:bS 1 v (Is xs) en)(hl:xs.length≤17592186044416)(hc:∀args w,(callFunc g args).run Tryz.prog w= .ok (.enter g args) w)
  (hp:∀H' w σ (n:Int),n∈xs→HLe H H'→St H' w σ→Cl Tryz.prog g ([I n]++cap) w fun u w'=>∃H1,HLe H' H1∧u= .bool (q n)∧St H1 w' σ):
  Cl Tryz.prog 206 [v,.func (.func g) #[] cap.toArray] w fun u w'=>∃H1 i,HLe H H1∧u=I i∧((i= -1∧∀x∈xs,q x=false)∨(∃(k:Nat) (x:Int),i=k∧xs[k]? =some x∧q x=true∧∀j<k,∀y,xs[j]? =some y→q y=false))∧St H1 w' (en::σ):=by
 obtain ⟨a,c,rfl⟩:=hO.kq
 refine Cl.o Tryz.func206 Tryz.ntmps206 ag2 ?_
 refine .af (.z zg (.nil (.seq (.af (.z zm (.z (c9 ad) (.z zm (.nil ?_))))))))
 refine .for (N:=xs.length) (J:=fun k fr w=>fr=[(1,.func (.func g) #[] cap.toArray),(0,.slice a xs.length c)]∧∃H1,HLe H H1∧(∀j<k,∀y,xs[j]? =some y→q y=false)∧St H1 w (en::σ)) aj ?_ ?_ ?_
 ·exact .mk ⟨rfl,H,HLe.refl H,fun j hj=>by omega,hs⟩
 ·rintro k fr w hk ⟨rfl,H1,hle1,hno,hs⟩
  have hx:=bJ hk
  obtain ⟨b,c',sp,hv,rfl,_⟩:=hO.blk aj
  cases hv
  refine .block (.af (.z zm (.z zg (.nil (.af (.z zm (.z zm (.z zm (.z (zix ad ai) ?_)))))))))
  refine .q hs (fR rfl ae (hv:=eQ hk sp)) ?_
  refine .o (.kT (first:=[]) (cap:=cap) rfl rfl hc (hp _ _ _ (gi xs k) (List.mem_of_getElem? hx) hle1 hs) ?_);rintro _ w ⟨H2,hle2,rfl,hs⟩
  refine .nil ?_
  refine (.cond rfl (fun hc16=>?_) (fun hc16=>?_))
  ·refine .af (.z zm (.z zg (.nil ?_)))
   refine .ret (rB (rT (rB (rT (Fin.bI qN rfl ?_)))))
   exact ⟨H2,_,hle1.trans hle2,rfl,.inr ⟨k,_,rfl,hx,hc16,hno⟩,hs⟩
  ·refine .skip ?_
   refine nB (nT ?_)
   exact .mk ⟨rfl,H2,hle1.trans hle2,ed hno hx hc16,hs⟩
 ·rintro fr w ⟨rfl,H1,hle1,hno,hs⟩
  refine nT ?_
  refine .af (.z zg (.nil ?_))
  refine .ret (Fin.bI qN rfl ?_)
  exact ⟨H1,_,hle1,rfl,.inl ⟨rfl,fun x hx=>by
   obtain ⟨j,hj⟩:=List.getElem?_of_mem hx
   exact hno j (List.getElem?_eq_some_iff.1 hj).1 x hj⟩,hs⟩
set_option maxHeartbeats 1000000 in
theorem iw{v:Value}{en:Ent}{xs:List Int}{g:Nat}{cap:List Value}(q:Int→Bool)(hs:St H w (en::σ))(hO:bS 1 v (Is xs) en)(hl:xs.length≤17592186044416)(hc:∀args w,(callFunc g args).run Tryz.prog w= .ok (.enter g args) w)
  (hp:∀H' w σ (n:Int),n∈xs→HLe H H'→St H' w σ→Cl Tryz.prog g ([I n]++cap) w fun u w'=>∃H1,HLe H' H1∧u= .bool (q n)∧St H1 w' σ):
  Cl Tryz.prog 150 [v,.func (.func g) #[] cap.toArray] w fun u w'=>∃H1 en',HLe H H1∧bS 1 u (Is (xs.filter fun x=> !q x)) en'∧St H1 w' (en'::σ):=by
 obtain ⟨a,c,rfl⟩:=hO.kq
 refine Cl.o Tryz.func150 Tryz.ntmps150 ag2 ?_
 refine .af (.z zg (.nil (.af (.z zm (.z zm ?_)))))
 refine .o (.call Tryz.call206 rfl (mI q hs hO hl hc hp) ?_);rintro _ w ⟨H1,i0,hle1,rfl,hcase,hs⟩
 refine .z zg (.nil (.seq (.af (.z zm (.z ir (.nil ?_))))))
 refine (.ck rfl (fun hc12=>?_) (fun hc12=>?_))
 ·refine .af (.z zm (.z zg (.nil ?_)))
  refine .ret (rT (Fin.bI Tryz.results150 rfl ?_))
  have hno:∀x∈xs,q x=false:=by
   rcases hcase with ⟨_,h⟩|⟨k,x,h,_⟩
   ·exact h
   ·omega
  have e:xs.filter (fun x=> !q x)=xs:=List.filter_eq_self.2 fun x hx=>by simp [hno x hx]
  exact ⟨H1,en,hle1,by rw [e];exact hO,hs⟩
 ·refine .skip ?_
  refine nT ?_
  refine .seq (.af (.z zm ?_))
  obtain ⟨k0,x0,rfl,hx0,hq0,hno⟩:∃(k:Nat) (x:Int),i0=k∧xs[k]? =some x∧q x=true∧∀j<k,∀y,xs[j]? =some y→q y=false:=hcase.resolve_left fun h=>hc12 h.1
  have hk0:=(List.getElem?_eq_some_iff.1 hx0).1
  obtain ⟨b,c',sp,hv,rfl,hc'⟩:=hO.blk aj
  cases hv
  refine .z cC (.z zg (.nil (.block ?_)))
  refine .loop (fun p:Nat×Nat=>⟨42,[],[(5,I (p.1:Int)),(6,I (p.2:Int)),(1,.func (.func g) #[] cap.toArray),(0,.slice (some ⟨b,0,none⟩) xs.length c)]⟩)
   (fun p w=>k0<p.2∧∃Y H1,HLe H H1∧xh q xs Y p.1 p.2∧St H1 w (.blk b (Is Y++sp)::σ))
   (fun p=>xs.length - p.2) (k0,k0+1) (.cons rfl (.de rfl (by dsimp only;omega) bD))
   ⟨by dsimp only;omega,xs,H1,hle1,.start hx0 hq0 hno,hs⟩ ?_
  clear hs hle1 hcase
  rintro ⟨i,j⟩ w ⟨hkj,Y,H1,hle1,hD,hs⟩
  dsimp only at hkj hD ⊢
  have hYl:=hD.len
  have hij:=hD.le
  have hjl:=hD.jl
  have hilt:=hD.lt hx0 hq0 hkj
  refine .seq (.af (.z zm (.z zm (.z (c9 ad) (.z gp (.nil ?_))))))
  refine (.ck rfl (fun hc19=>?_) (fun hc19=>?_))
  ·refine .skip ?_
   refine nT ?_
   refine .seq (.block (.af (.z zm (.z zm ?_))))
   have hj:j<Y.length:=by omega
   have hx:xs[j]? =some (gi Y j):=by rw [hD.rest j (Nat.le_refl _)];exact bJ aj
   refine .z (zix ad ai) ?_
   refine .q hs (fR rfl ae (hv:=eQ hj sp)) ?_
   refine .z zg (.nil (.af (.z zm (.z zm ?_))))
   refine .o (.kT (first:=[]) (cap:=cap) rfl rfl hc (hp _ _ _ (gi Y j) (List.mem_of_getElem? hx) hle1 hs) ?_);rintro _ w ⟨H2,hle2,rfl,hs⟩
   refine .z iq (.nil ?_)
   refine (.cond rfl (fun hc29=>?_) (fun hc29=>?_))
   ·refine .af (.z zm (.z zm (.z zm (.z (zix ad ai) ?_))))
    refine .o (.store hs rfl rfl ai ?_ .here (mj (show i<Y.length by omega) sp) (jD (show i<Y.length by omega) sp _));intro w hs
    refine .nil (.region (.z zm (.z cC (.z zg (.nil ?_)))))
    refine nB (nT ?_)
    refine .region (.z zm (.z cC (.z zg (.nil ?_))))
    refine nT ?_
    exact ⟨(i+1,j+1),.de rfl (by dsimp only;omega) (.de rfl (by dsimp only;omega) bD),⟨by dsimp only;omega,_,H2,hle1.trans hle2,hD.keep hx (by simpa using hc29),hs⟩,by dsimp only;omega⟩
   ·refine .skip ?_
    refine nB (nT ?_)
    refine .region (.z zm (.z cC (.z zg (.nil ?_))))
    refine nT ?_
    exact ⟨(i,j+1),.cons rfl (.de rfl (by dsimp only;omega) bD),⟨by dsimp only;omega,_,H2,hle1.trans hle2,hD.skip hx (by simpa using hc29),hs⟩,by dsimp only;omega⟩
  ·refine .exit ?_
   refine xT (xT (xB (nT ?_)))
   refine .af (.z zm (.z zm ?_))
   obtain rfl:xs.length=j:=by omega
   refine .q hs (oD (k:=i) rfl rfl ad ai aj aj) ?_
   rw [show 0+i*1=i by omega]
   refine .o (.EI (c:=Is Y++sp) hs rfl ad bM (by simp;omega) ?_);intro w hs
   rw [hD.done sp] at hs
   have hil:=hD.il
   rw [List.take_length] at hil
   refine .nil (.af (.z zm (.z zm ?_)))
   refine .q hs (l5 (k:=i) rfl rfl ad ai aj) ?_
   refine .z zg (.nil ?_)
   refine .ret (Fin.bI Tryz.results150 rfl ?_)
   exact ⟨H1,_,hle1,.inr ⟨b,i,c,List.replicate (xs.length - i) (I 0)++sp,rfl,rfl,by simp [hil],by simp [←hil];omega,aj⟩,hs⟩
def sJ(L:List Int):List (List Value):=(List.range L.length).map fun j=>[I ((L.length - 1 - j:Nat):Int),I (gi L (L.length - 1 - j))]
theorem jY(L:List Int):(sJ L).length=L.length:=by simp [sJ]
theorem vY{L:List Int}{j:Nat}(h:j<(sJ L).length):(sJ L)[j]=[I ((L.length - 1 - j:Nat):Int),I (gi L (L.length - 1 - j))]:=by simp [sJ]
theorem lC{H:bP}{b:Nat}{v:Value}{L:List Int}(hb:Row H b [v])(hr:RI H v L):Iter Tryz.prog 231 [.pointer (some ⟨b,0,none⟩)] H (sJ L):=by
 intro l II Ix _ _ hy H0 σb0 σf w hle hI0 hs
 obtain ⟨a,c,rfl⟩:=RI.shape hr
 have hlen:=(RI.len hr).2.2
 have hb0:cellAt H0 b 0=some (.slice a L.length c):=cellAt.mono (hb.at 0) hle
 refine Cl.o Tryz.func231 Tryz.ntmps231 ag2 ?_
 refine .af (.y hs (zld ak) (.z (c9 ad) (.z hZ (.z zg (.nil (.block ?_))))))
 refine .loop (fun j:Nat=>⟨19,[],[(3,I ((L.length:Int) - 1 - (j:Int))),(0,.func (.yield l) #[] #[]),(1,.pointer (some ⟨b,0,none⟩))]⟩)
  (fun j w=>j≤L.length∧∃H1 σb,HLe H H1∧HLe H0 H1∧II j H1 σb∧St H1 w (σb++σf)) (fun j=>L.length - j) 0 (.de rfl cm bD)
  ⟨Nat.zero_le _,H0,σb0,hle,HLe.refl _,hI0,hs⟩ ?_
 clear hs hI0
 rintro j w ⟨hj,H1,σb,hle1,hle0,hI,hs⟩
 have hb1:cellAt H1 b 0=some (.slice a L.length c):=cellAt.mono hb0 hle0
 refine .seq (.af (.z zm (.z zk (.nil ?_))))
 refine (.ck rfl (fun hc8=>?_) (fun hc8=>?_))
 ·refine .skip ?_
  refine nT ?_
  refine .seq (.block (.af (.z zm (.z zm (.y hs (zld ak) (.z zm ?_))))))
  refine .ixY hs (hr.mono hle1) rfl rfl ad ai (bJ (l:=L) (i:=L.length - 1 - j) aj) aj ?_;intro b15 o15 hc15
  refine .q hs (bh rfl ae hc15) ?_
  have hk':j<(sJ L).length:=by rw [jY];omega
  have hyd:=hy j hk' H1 σb σf w hle1 hI hs
  rw [vY hk',show ((L.length - 1 - j:Nat):Int)=(L.length:Int) - 1 - (j:Int) by omega] at hyd
  refine .o (.yield rfl rfl hyd ?_);rintro v17 w ⟨H2,σ2,g1,hs,g3⟩
  obtain ⟨bb,rfl,gT,gF⟩:=np g3
  refine .z iq (.nil ?_)
  refine (.cond rfl (fun hc18=>?_) (fun hc18=>?_))
  ·refine .ret (rB (rT (rT (rB (Fin.Ec Tryz.results231 ?_)))))
   exact ⟨H2,σ2,hle0.trans g1,hs,.inr (gF (by simpa using hc18))⟩
  ·refine .skip ?_
   refine nB (nT ?_)
   refine .region (.z zm (.z hZ (.z zg (.nil ?_))))
   refine nT ?_
   exact ⟨j+1,.de rfl (by simp;omega) bD,⟨aj,H2,σ2,hle1.trans g1,hle0.trans g1,gT (by simpa using hc18),hs⟩,aj⟩
 ·refine .exit ?_
  refine xT (xT (xB ?_))
  obtain rfl:L.length=j:=by omega
  exact Fin.wm Tryz.results231 ⟨H1,σb,hle0,hs,.inl (by rw [jY];exact hI)⟩
theorem mK{v:Value}{L:List Int}(hs:St H w σ)(hr:RI H v L):
  Cl Tryz.prog 180 [v] w fun u w'=>∃H1 b,HLe H H1∧u= .func (.func 231) #[] #[.pointer (some ⟨b,0,none⟩)]∧Iter Tryz.prog 231 [.pointer (some ⟨b,0,none⟩)] H1 (sJ L)∧St H1 w' σ:=by
 obtain ⟨a,c,rfl⟩:=RI.shape hr
 refine Cl.o Tryz.func180 Tryz.ntmps180 ag1 ?_
 refine .af ?_
 refine .bx hs fun b1 w hs=>?_
 refine .z zg (.nil (.af ?_))
 refine .q hs (cU (f:=[]) (c:=[_]) rfl rfl) ?_
 refine .z zg (.nil ?_)
 refine .ret (Fin.bI Tryz.results180 rfl ?_)
 obtain ⟨H1,g1,g2,hs⟩:=hs.cf .here
 exact ⟨H1,b1,g1,rfl,lC g2 (hr.mono g1),hs⟩
theorem qJ{n m:Int}{b:Nat}(hs:St H w σ)(hb:Row H b [I m]):
  Cl Tryz.prog 181 [I n,.pointer (some ⟨b,0,none⟩)] w fun u w'=>u= .bool (decide (n=m))∧St H w' σ:=by
 have hb0:cellAt H b 0=some (I m):=hb.at 0
 refine Cl.o Tryz.func181 Tryz.ntmps181 ag2 ?_
 refine .af (.z zg (.nil (.af (.z zm (.y hs (zld ae) (.z ir (.z zg (.nil ?_))))))))
 refine .ret (Fin.bI Tryz.results181 rfl ?_)
 exact ⟨rfl,hs⟩
set_option maxHeartbeats 1000000 in
theorem nO{v:Value}{s:cq}(hs:St H w σ)(hr:RSy H v s):
  Cl Tryz.prog 98 [v] w fun u w'=>∃H1 vx out e,HLe H H1∧u= .tuple #[vx,I e]∧RI H1 vx out∧uG s out e∧St H1 w' σ:=by
 obtain ⟨ul,rfl,hl⟩:=hr
 obtain ⟨al,cl,rfl⟩:=RL.shape hl
 refine Cl.o Tryz.func98 Tryz.ntmps98 ag1 ?_
 refine .af ?_
 refine .bx hs fun b1 w hs=>?_
 refine .z zg (.z zg (.nil (.seq (.af (.y hs (zls [_,_] a8 aC) ?_)))))
 refine .o (.call Tryz.call125 rfl (gP (s:=s) hs ⟨_,rfl,hl⟩) ?_);rintro _ w ⟨rfl,hs⟩
 refine .z zg (.nil (.af (.z zm (.z fM (.nil ?_)))))
 refine (.eD rfl (fun hc12=>?_) (fun hc12=>?_))
 ·refine .af (.z zm (.z zg (.z zg (.nil ?_))))
  refine .ret (rT (?_))
  exact Fin.gI [] [] hs fun w hs=>⟨_,results2 Tryz.results98 rfl rfl,H,_,[],_,HLe.refl H,rfl,RS.nil H 1 none 0,.bad hc12,hs.out⟩
 ·refine .skip ?_
  refine nT ?_
  refine .seq (.af (.y hs (zls [_,_] a8 aC) ?_))
  have hok:s.Ok:=s.bL.1 (by simpa using hc12)
  have hll:=hok.len
  refine .o (.call Tryz.call133 rfl (ie (s:=s) hs hok ⟨_,rfl,hl⟩) ?_);rintro _ w ⟨H1,bb,hle1,rfl,hbb,hs⟩
  refine .nil ?_
  refine (.cond rfl (fun hc15=>?_) (fun hc15=>?_))
  ·refine .af (.z zg (.z zg (.nil ?_)))
   refine .ret (rT (?_))
   exact Fin.gI [] [] hs fun w hs=>⟨_,results2 Tryz.results98 rfl rfl,H1,_,[],_,hle1,rfl,RS.nil H1 1 none 0,.none hok (hbb.1 hc15),hs.out⟩
  ·refine .skip ?_
   refine nT ?_
   refine .af (.y hs (zls [_,_] a8 aC) ?_)
   have hns:¬s.Sound:=fun h=>by rw [hbb.2 h] at hc15;cases hc15
   refine .o (.call Tryz.call129 rfl (jX (s:=s) hs ⟨_,rfl,hl.mono hle1⟩ aj) ?_);rintro v17 w ⟨L,en,hO,hLl,hRise,hs⟩
   obtain ⟨a17,l17,c17,rfl,h17⟩:=hO.shape
   refine .o (.alloc hs dA rfl fun b5 w hs=>?_)
   refine .o (.store hs rfl rfl aB fun w hs=>?_)
   refine .nil (.seq (.af (.y hs (zls [_,_] a8 aC) ?_)))
   refine .o (.call Tryz.call129 rfl (jX (s:=s) hs ⟨_,rfl,hl.mono hle1⟩ aj) ?_);rintro v19 w ⟨L',en',hO',hLl',hRise',hs⟩
   obtain rfl:L=L':=hRise.uniq hRise'
   obtain ⟨H2,hle2,hR19,hs⟩:=bS.cV hO' aj hs .here
   refine .o (.call Tryz.call180 rfl (mK hs hR19) ?_);rintro _ w ⟨H3,b20,hle3,rfl,hit,hs⟩
   have hle03:=hle1.trans (hle2.trans hle3)
   refine .nil (.block ?_)
   refine .rangeFunc (gf:=231) (cap:=[.pointer (some ⟨b20,0,none⟩)]) (xs:=sJ L) (σb:=[.blk b1 [I s.many,.slice al s.bV.length cl],.blk b5 [.slice a17 l17 c17],en]) (σf:=σ) (hs.sb:St H3 w (.blk b1 _:: .blk b5 _::en::σ)) trivial rfl hit Tryz.call231 (fun x hx=>by
     simp only [sJ,List.mem_map] at hx
     obtain ⟨j,_,rfl⟩:=hx;rfl) rfl
    (I:=fun j H' σb=>∃(t:cq) (ut vo:Value) (out:List Int) (en:Ent),σb=[.blk b1 [I t.many,ut],.blk b5 [vo],en]∧RL H' ut t.bV∧bS 1 vo (Is out) en∧out.length≤L.length∧t.Ok∧kF s L (L.length - j) t out) (Ix:=fun _ _ _=>False)
    (fun j _ _ σ g1 ⟨t,ut,vo,out,en,g2,g3,g4⟩=>⟨t,ut,vo,out,en,g2,g3.mono g1,g4⟩) (fun _ _ _ _ _ h=>h)
    ⟨s,_,_,L,en,rfl,hl.mono hle03,hO,Nat.le_refl _,hok,.start⟩ ?_ ?_ (fun D c H' σb w _ h _=>h.elim)
   ·rintro l j hj H4 σb2 σf2 w hle4 ⟨t,ut,vo,out,en,rfl,hut,hOo,hol,htok,hC⟩ hs ⟨rr,hrr⟩
    rw [vY hj]
    have hjL:j<L.length:=by rw [jY] at hj;exact hj
    obtain ⟨at',ct,rfl⟩:=RL.shape hut
    obtain ⟨ao,lo,co,rfl,hlo⟩:=hOo.shape
    refine .region ?_
    refine .o (.alloc hs bM rfl fun b7 w hs=>?_)
    refine .o (.store hs rfl rfl ai fun w hs=>?_)
    refine .nil ?_
    refine nT ?_
    refine ⟨H4,[.blk b7 [I (gi L (L.length - 1 - j))],.blk b1 [I t.many,.slice at' t.bV.length ct],.blk b5 [.slice ao lo co],en],HLe.refl _,hs,?_⟩;rintro w σf4 - hs
    refine .block (.af (.y hs (zls [_,_] a8 aC) (.y hs (zld ae) ?_)))
    refine .o (.buildSlice (cells:=[_]) hs bY rfl rfl fun b25 w hs=>?_)
    obtain ⟨H5,hle5,r25,hs⟩:=bS.cV (xs:=[gi L (L.length - 1 - j)]) (v:= .slice (some ⟨b25,0,none⟩) 1 1) (.full (len:=1) rfl) cm hs dw
    refine .o (.call Tryz.call136 rfl (pj (s:=t) hs ⟨_,rfl,hut.mono hle5⟩ r25 (by have:=htok.len;omega)) ?_);rintro _ w ⟨H6,hle6,⟨u26,rfl,hL26⟩,hs⟩
    obtain ⟨a26,c26,rfl⟩:=RL.shape hL26
    refine .o (.alloc hs cu rfl fun b8 w hs=>?_)
    refine .o (.aO (vs:=[_,_]) hs rfl rfl aC fun w hs=>?_)
    refine .nil (.af (.y hs (zls [_,_] a8 aC) ?_))
    refine .o (.call Tryz.call133 rfl (ie (s:=t.wo [gi L (L.length - 1 - j)]) hs (htok.wo _) ⟨_,rfl,hL26⟩) ?_);rintro _ w ⟨H7,b28,hle7,rfl,hb28,hs⟩
    have hle47:=hle5.trans (hle6.trans hle7)
    refine .z iq (.nil ?_)
    refine (.cond rfl (fun hc29=>?_) (fun hc29=>?_))
    ·refine .af (.y hs (zls [_,_] a8 aC) ?_)
     refine .o (.aO (vs:=[_,_]) hs rfl rfl aC fun w hs=>?_)
     refine .nil (.region (.y hs (zld ak) ?_))
     refine .q hs (cU (f:=[]) (c:=[_]) rfl rfl) ?_
     obtain ⟨H8,hle8,r7,hs⟩:=hs.cf (b:=b7) dw
     replace hs:St H8 w (en:: .blk b1 [I t.many,.slice a26 (t.wo [gi L (L.length - 1 - j)]).bV.length c26]:: .blk b5 [.slice ao lo co]::σf4):=hs.sb
     refine .o (.call Tryz.call150 rfl (iw (g:=181) (cap:=[.pointer (some ⟨b7,0,none⟩)]) (fun n=>decide (n=gi L (L.length - 1 - j))) hs hOo aj Tryz.call181
      (fun H' w σ n _ hle hs=>(qJ hs (r7.mono hle)).mono fun u w' ⟨g1,g2⟩=>⟨H',HLe.refl _,g1,g2⟩)) ?_);rintro v33 w ⟨H9,en9,hle9,hO9,hs⟩
     obtain ⟨a33,l33,c33,rfl,h33⟩:=hO9.shape
     refine .o (.store hs rfl rfl aB fun w hs=>?_)
     refine .nil ?_
     refine nB ?_
     have hfl:=List.length_filter_le (fun n=> !decide (n=gi L (L.length - 1 - j))) out
     have e:L.length - (j+1)=L.length - 1 - j:=by omega
     have hns':¬(t.wo [gi L (L.length - 1 - j)]).Sound:=fun h=>by rw [hb28.2 h] at hc29;cases hc29
     exact ⟨H9,[.blk b1 [I t.many,.slice a26 (t.wo [gi L (L.length - 1 - j)]).bV.length c26],.blk b5 [.slice a33 l33 c33],en9],hle47.trans (hle8.trans hle9),(hs.sb:St H9 w (.blk b1 _:: .blk b5 _::en9::σf4)),t.wo [gi L (L.length - 1 - j)],_,_,_,_,rfl,hL26.mono (hle7.trans (hle8.trans hle9)),hO9,aj,htok.wo _,by
      rw [e]
      exact .drop (by rw [show L.length - 1 - j+1=L.length - j by omega];exact hC) hns'⟩
    ·refine .skip ?_
     refine nB ?_
     have e:L.length - (j+1)=L.length - 1 - j:=by omega
     have hsd':(t.wo [gi L (L.length - 1 - j)]).Sound:=hb28.1 (by simpa using hc29)
     exact ⟨H7,[.blk b1 [I t.many,.slice at' t.bV.length ct],.blk b5 [.slice ao lo co],en],hle47,(hs.sb:St H7 w (.blk b1 _:: .blk b5 _::en::σf4)),t,_,_,_,_,rfl,hut.mono hle47,hOo,hol,htok,by
      rw [e]
      exact .keep (by rw [show L.length - 1 - j+1=L.length - j by omega];exact hC) hsd'⟩
   ·rintro D H4 σb2 w hle4 ⟨t,ut,vo,out,en,rfl,hut,hOo,hol,htok,hC⟩ hs
    rw [jY,Nat.sub_self] at hC
    obtain ⟨ao,lo,co,rfl,hlo⟩:=hOo.shape
    replace hs:St H4 w (.obj D (.deferred (some [])):: .blk b1 [I t.many,ut]:: .blk b5 [.slice ao lo co]::en::σ):=hs
    refine nB (nT ?_)
    refine .af (.y hs (zld ak) (.z zg (.z zg (.nil ?_))))
    refine .ret ?_
    obtain ⟨H5,hle5,hR5,hs⟩:=bS.cV hOo aj hs dw
    exact Fin.gI [D] [] hs fun w hs=>⟨_,results2 Tryz.results98 rfl rfl,H5,_,out,0,hle03.trans (hle4.trans hle5),rfl,hR5,.ok hok hns hRise hC,hs.out⟩
theorem uq{n:Int}(hs:St H w σ):Cl Tryz.prog 165 [I n] w fun v w'=>∃b,v= .bool b∧(b=true↔¬(-1280000≤n∧n≤1280000))∧St H w' σ:=by
 refine Cl.o Tryz.func165 Tryz.ntmps165 ag1 ?_
 refine .af (.z zg (.nil (.af (.z zm ?_))))
 refine .o (.call m7 rfl (dD hs) ?_);rintro _ w ⟨rfl,hs⟩
 refine .z iq (.z zg (.nil ?_))
 refine .ret (Fin.bI Tryz.results165 rfl ?_)
 exact ⟨_,rfl,by simp;omega,hs⟩
theorem sF{vw vx:Value}{ws x:List Int}(hs:St H w σ)(hw:RI H vw ws)(hx:RI H vx x)(hz:eP ws)(hp:x.length=ws.length∧ki x):
  Cl Tryz.prog 166 [vw,vx] w fun u w'=>u=I (Fl ws x)∧St H w' σ:=by
 obtain ⟨aw,cw,rfl⟩:=RI.shape hw
 obtain ⟨ax,cx,rfl⟩:=RI.shape hx
 have hwl:=(RI.len hw).2.2
 refine Cl.o Tryz.func166 Tryz.ntmps166 ag2 ?_
 refine .af (.z zg (.nil (.af (.z zg (.nil (.seq (.af (.z zm (.z (c9 ad) ?_)))))))))
 refine .z zm (.nil ?_)
 refine .for (N:=ws.length) (J:=fun k fr w=>fr=[(5,I (aV (fun v=>gi ws v*gi x v) k)),(0,.slice aw ws.length cw),(1,.slice ax x.length cx)]∧St H w σ) aj ?_ ?_ ?_
 ·exact .mk ⟨rfl,hs⟩
 ·rintro k fr w hk ⟨rfl,hs⟩
  have h1:=AF hz hp (k:=k) aj
  have h2:=AF hz hp (k:=k+1) aj
  have h3:=Dj hz hp hk
  simp only [aV,BB] at h1 h2 h3
  have hkx:k<x.length:=by omega
  refine .block (.af (.z zm (.z zg (.nil ?_))))
  refine .draw mix rfl hs fun w hs=>?_
  refine .z 0 rfl zm ?_;refine .z 1 rfl zm ?_;refine .z 2 rfl zm ?_
  refine .ixX (enc:=fun x=>[I x]) (i:=3) hs rfl au .none hw rfl rfl ad ai (bJ (l:=ws) (i:=k) aj) dx ?_;intro b15 o15 hc15;replace hc15:=bQ.one hc15
  refine .r (i:=4) hs rfl au .none (bh rfl ae hc15) ?_
  refine .z 5 rfl zm ?_;refine .z 6 rfl zm ?_
  refine .ixX (enc:=fun x=>[I x]) (i:=7) hs rfl au .none hx rfl rfl ad ai (bJ (l:=x) (i:=k) aj) dx ?_;intro b19 o19 hc19;replace hc19:=bQ.one hc19
  refine .r (i:=8) hs rfl au .none (bh rfl ae hc19) ?_
  refine .z 9 rfl kG ?_;refine .z 10 rfl cC ?_;refine .z 11 rfl zg ?_;refine .D hs ?_
  refine nB (nT ?_)
  exact .mk ⟨rfl,hs⟩
 ·rintro fr w ⟨rfl,hs⟩
  refine nT ?_
  refine .af (.z zm (.z zg (.nil ?_)))
  refine .ret (Fin.bI Tryz.results166 rfl ?_)
  exact ⟨rfl,hs⟩
theorem lg{vw vx:Value}{ws x:List Int}(hs:St H w σ)(hw:RI H vw ws)(hx:RI H vx x):
  Cl Tryz.prog 77 [vw,vx] w fun u w'=>∃n e,u= .tuple #[I n,I e]∧py ws x n e∧St H w' σ:=by
 obtain ⟨aw,cw,rfl⟩:=RI.shape hw
 obtain ⟨ax,cx,rfl⟩:=RI.shape hx
 have hwl:=(RI.len hw).2.2
 have hxl:=(RI.len hx).2.2
 refine Cl.o Tryz.func77 Tryz.ntmps77 ag2 ?_
 refine .af (.z zg (.z zg (.nil (.seq (.af (.z zm (.z (c9 ad) (.z od (.z zm ?_)))))))))
 refine .kf (t':=9) rfl (fun hb9=>?_) (fun hb9=>?_)
 ·refine .gFs 3 3 false rfl rfl rfl ?_
  refine .z zpT (.nil ?_)
  refine (.cT ?_)
  refine .af (.z zg (.z zg (.nil ?_)))
  refine .ret (rT (Fin.kK Cq rfl rfl ?_))
  exact ⟨_,_,rfl,.wt (fun h=>by omega),hs⟩
 ·refine .gT rfl rfl ?_
  refine .z zm ?_
  refine .gT rfl rfl ?_
  refine .o (.call Tryz.call164 rfl (jW hs hw) ?_);rintro _ w ⟨bb,rfl,hbb,hs⟩
  refine .gT rfl rfl ?_
  refine .z iq (.z zpF (.nil ?_))
  refine (.cond rfl (fun hc13=>?_) (fun hc13=>?_))
  ·refine .af (.z zg (.z zg (.nil ?_)))
   refine .ret (rT (Fin.kK Cq rfl rfl ?_))
   exact ⟨_,_,rfl,.wt (fun h=>by rw [hbb.2 h.2] at hc13;cases hc13),hs⟩
  ·refine .skip ?_
   refine nT ?_
   refine .seq (.af (.z zm (.z (c9 ad) (.z zm (.z (c9 ad) ?_)))))
   have hok:ws.length≤65∧eP ws:=⟨aj,hbb.1 (by simpa using hc13)⟩
   refine .z fM (.z zm ?_)
   refine .yU (t':=19) rfl (fun hb19=>?_) (fun hb19=>?_)
   ·refine .gFs 2 5 false rfl rfl rfl ?_
    refine .z zpT (.nil ?_)
    refine (.cT ?_)
    refine .af (.z zg (.z zg (.nil ?_)))
    refine .ret (rT (Fin.kK Cq rfl rfl ?_))
    exact ⟨_,_,rfl,.pt hok (fun h=>by omega),hs⟩
   ·refine .gT rfl rfl ?_
    refine .z zm ?_
    refine .gT rfl rfl ?_
    refine .o (.call Tryz.call134 rfl (lj (q:=fun n=>¬(-1280000≤n∧n≤1280000)) (cap:=[]) hs hx Tryz.call165 (fun w n hs=>uq hs)) ?_);rintro _ w ⟨b21,rfl,hb21,hs⟩
    refine .z zpF (.nil ?_)
    refine (.cond rfl (fun hc22=>?_) (fun hc22=>?_))
    ·refine .af (.z zg (.z zg (.nil ?_)))
     refine .ret (rT (Fin.kK Cq rfl rfl ?_))
     exact ⟨_,_,rfl,.pt hok (fun h=>by
      obtain ⟨p,h1,h2⟩:=hb21.1 hc22
      exact h2 (h.2 p h1)),hs⟩
    ·refine .skip ?_
     refine nT ?_
     refine .af (.z zm (.z zm ?_))
     have hin:ki x:=fun n hn=>Classical.byContradiction fun h=>by
      rw [hb21.2 ⟨n,hn,h⟩] at hc22;cases hc22
     refine .o (.call Tryz.call166 rfl (sF hs hw hx hok.2 ⟨aj,hin⟩) ?_);rintro _ w ⟨rfl,hs⟩
     refine .z zg (.z zg (.nil ?_))
     refine .ret (Fin.kK Cq rfl rfl ?_)
     exact ⟨_,_,rfl,.ok hok ⟨aj,hin⟩,hs⟩
theorem lA{v:Value}{xs:List Int}{g:Nat}{cap:List Value}(q:Int→Prop)(hs:St H w σ)(hR:RI H v xs)(hc:∀args w,(callFunc g args).run Tryz.prog w= .ok (.enter g args) w)
  (hp:∀H' w σ (n:Int),n∈xs→HLe H H'→St H' w σ→Cl Tryz.prog g ([I n]++cap) w fun u w'=>∃H1 b,HLe H' H1∧u= .bool b∧(b=true↔q n)∧St H1 w' σ):
  Cl Tryz.prog 206 [v,.func (.func g) #[] cap.toArray] w fun u w'=>∃H1 i,HLe H H1∧u=I i∧(0≤i↔∃x∈xs,q x)∧St H1 w' σ:=by
 obtain ⟨a,c,rfl⟩:=RI.shape hR
 have hl:=(RI.len hR).2.2
 refine Cl.o Tryz.func206 Tryz.ntmps206 ag2 ?_
 refine .af (.z zg (.nil (.seq (.af (.z zm (.z (c9 ad) (.z zm (.nil ?_))))))))
 refine .for (N:=xs.length) (J:=fun k fr w=>fr=[(1,.func (.func g) #[] cap.toArray),(0,.slice a xs.length c)]∧∃H1,HLe H H1∧(∀j<k,∀y,xs[j]? =some y→¬q y)∧St H1 w σ) aj ?_ ?_ ?_
 ·exact .mk ⟨rfl,H,HLe.refl H,fun j hj=>by omega,hs⟩
 ·rintro k fr w hk ⟨rfl,H1,hle1,hno,hs⟩
  obtain ⟨x,hx⟩:=nth hk
  refine .block (.af (.z zm (.z zg (.nil (.af (.z zm (.z zm (.z zm ?_))))))))
  refine .ixY hs (hR.mono hle1) rfl rfl ad ai hx rfl ?_;intro b14 o14 hc14
  refine .q hs (bh rfl ae hc14) ?_
  refine .o (.kT (first:=[]) (cap:=cap) rfl rfl hc (hp _ _ _ x (List.mem_of_getElem? hx) hle1 hs) ?_);rintro _ w ⟨H2,b16,hle2,rfl,hb16,hs⟩
  refine .nil ?_
  refine (.cond rfl (fun hc16=>?_) (fun hc16=>?_))
  ·refine .af (.z zm (.z zg (.nil ?_)))
   refine .ret (rB (rT (rB (rT (Fin.bI qN rfl ?_)))))
   exact ⟨H2,_,hle1.trans hle2,rfl,⟨fun _=>⟨x,List.mem_of_getElem? hx,hb16.1 hc16⟩,fun _=>by omega⟩,hs⟩
  ·refine .skip ?_
   refine nB (nT ?_)
   exact .mk ⟨rfl,H2,hle1.trans hle2,ed hno hx (fun h=>by rw [hb16.2 h] at hc16;cases hc16),hs⟩
 ·rintro fr w ⟨rfl,H1,hle1,hno,hs⟩
  refine nT ?_
  refine .af (.z zg (.nil ?_))
  refine .ret (Fin.bI qN rfl ?_)
  exact ⟨H1,_,hle1,rfl,⟨fun h=>by omega,fun ⟨x,h1,h2⟩=>by
   obtain ⟨j,hj⟩:=List.getElem?_of_mem h1
   exact (hno j (List.getElem?_eq_some_iff.1 hj).1 x hj h2).elim⟩,hs⟩
theorem j7{v:Value}{xs:List Int}{g:Nat}{cap:List Value}(q:Int→Prop)(hs:St H w σ)(hR:RI H v xs)(hc:∀args w,(callFunc g args).run Tryz.prog w= .ok (.enter g args) w)
  (hp:∀H' w σ (n:Int),n∈xs→HLe H H'→St H' w σ→Cl Tryz.prog g ([I n]++cap) w fun u w'=>∃H1 b,HLe H' H1∧u= .bool b∧(b=true↔q n)∧St H1 w' σ):
  Cl Tryz.prog 134 [v,.func (.func g) #[] cap.toArray] w fun u w'=>∃H1 b,HLe H H1∧u= .bool b∧(b=true↔∃x∈xs,q x)∧St H1 w' σ:=by
 refine Cl.o Tryz.func134 Tryz.ntmps134 ag2 ?_
 refine .af (.z zg (.nil (.af (.z zm (.z zm ?_)))))
 refine .o (.call Tryz.call206 rfl (lA q hs hR hc hp) ?_);rintro _ w ⟨H1,i,hle1,rfl,hi,hs⟩
 refine .z zk (.z zg (.nil ?_))
 refine .ret (Fin.bI Tryz.results134 rfl ?_)
 exact ⟨H1,_,hle1,rfl,by simp only [decide_eq_true_eq];exact hi,hs⟩
set_option maxHeartbeats 2000000 in
theorem po{v vw:Value}{s:cq}{ws:List Int}{z:Int}(hs:St H w σ)(hr:RSy H v s)(hrw:RI H vw ws):
  Cl Tryz.prog 75 [v,vw,I z] w fun u w'=>∃H1 vx vy x y n d e,HLe H H1∧u= .tuple #[vx,vy,I n,I d,I e]∧RI H1 vx x∧RI H1 vy y∧E2 s ws z x y n d e∧St H1 w' σ:=by
 obtain ⟨vl,rfl,hr⟩:=hr
 refine Cl.o Tryz.func75 Tryz.ntmps75 ag3 ?_
 refine .af ?_
 refine .bx hs fun b3 w hs=>?_
 refine .z zg (.z zg (.z zg (.z zg (.z zg (.nil (.af (.y hs (zls [_,_] a8 aC) (.z zm ?_))))))))
 refine .o (.call Tryz.call158 rfl (gN (s:=s) hs ⟨_,rfl,hr⟩ hrw) ?_);rintro _ w ⟨H1,e,pf,hle1,rfl,hA,hs,hne,heq⟩
 refine .z zm (.z zex (.z zex (.z zg (.z zg (.nil (.seq (.af (.z zm (.z fM ?_)))))))))
 refine .nil ?_
 refine (.eD rfl (fun hc22=>?_) (fun hc22=>?_))
 ·refine .af (.z zm (.z zg (.z zg (.z zg (.z zg (.z zg (.nil ?_)))))))
  refine .ret (rT (Fin.Eb Cr rfl rfl rfl rfl rfl ?_))
  exact ⟨H1,_,_,[],[],_,_,_,hle1,rfl,RS.nil H1 1 none 0,RS.nil H1 1 none 0,.bad (.first ⟨hA,fun _=>rfl,fun h=>(hc22 h).elim⟩ hc22) hc22,hs.tail⟩
 ·refine .skip ?_
  refine nT ?_
  refine .seq (.draw mix rfl hs fun w hs=>?_)
  refine .ys 0 rfl hs [_,_] a8 aC ?_;refine .z 1 rfl zm ?_
  refine .E 2 hs ?_
  subst hc22
  obtain ⟨bf,bt,bl,cl,ts,lf,vl',sp,rfl,hF,hFo,hok,hsz⟩:=heq rfl
  have hwl:=(mn hA.zero.1).2.1
  have hbw:∀k,-9223372036854775807≤gi ws k∧gi ws k≤9223372036854775807:=fun k=>by
   simp only [FF] at hsz
   by_cases hk:k<s.n
   ·have:=jO ws hk;omega
   ·have:gi ws k=0:=by simp [gi,List.getElem?_eq_none (show ws.length≤k by omega)]
    omega
  refine .call Tryz.call159 rfl (kC hs (hrw.mono hle1) (by have:=hok.m1;simp only [cq.n] at hwl;omega) hbw) ?_;rintro v27 w ⟨H2,hle2,hr27,hs⟩
  refine .go ?_
  refine .E 3 hs ?_
  refine .call Tryz.call158 rfl (gN (s:=s) hs ⟨_,rfl,hr.mono (hle1.trans hle2)⟩ hr27) ?_;rintro _ w ⟨H3,e2,pg,hle3,rfl,hA2,hs,hne2,heq2⟩
  have hle13:=hle1.trans (hle2.trans hle3)
  refine .go ?_
  refine .z 4 rfl zm ?_;refine .z 5 rfl zex ?_;refine .z 6 rfl zex ?_;refine .z 7 rfl zg ?_;refine .z 8 rfl zg ?_;refine .D hs ?_
  refine .seq (.af (.z zm (.z fM (.nil ?_))))
  refine (.eD rfl (fun hc32=>?_) (fun hc32=>?_))
  ·refine .af (.z zm (.z zg (.z zg (.z zg (.z zg (.z zg (.nil ?_)))))))
   refine .ret (rT (Fin.Eb Cr rfl rfl rfl rfl rfl ?_))
   obtain ⟨q1,q2,q3,q4⟩:=hFo.value (by simp [cq.n]) (by have:=hok.m0;have:=hok.m1;simp only [cq.n];omega) hok.cK hsz
   exact ⟨H3,_,_,[],[],_,_,_,hle13,rfl,RS.nil H3 1 none 0,RS.nil H3 1 none 0,.bad (.second ⟨hA,fun h=>(h rfl).elim,fun _=>⟨q1,q3,q4⟩⟩ ⟨hA2,fun _=>rfl,fun h=>(hc32 h).elim⟩ hc32) hc32,hs.tail⟩
  ·refine .skip ?_
   refine nT ?_
   refine .af (.z zm ?_)
   subst hc32
   obtain ⟨bf2,bt2,bl2,cl2,ts2,lf2,vl2,sp2,rfl,hF2,hFo2,hok2,hsz2⟩:=heq2 rfl
   refine .o (.call Tryz.call160 rfl (eN hs hok hF2 hFo2 hsz2) ?_);rintro _ w ⟨rfl,a1,a2,a3,hs⟩
   simp only [BB] at a2 a3
   refine .z zj (.z zm ?_)
   refine .o (.call Tryz.call160 rfl (eN hs hok (hF.mono (hle2.trans hle3)) hFo hsz) ?_);rintro _ w ⟨rfl,c1,c2,c3,hs⟩
   have hR:dJ s ws (-(dot s.cK ts2 (·.c))) (dot s.cK ts (·.c)) 0:= .ok ⟨hA,fun h=>(h rfl).elim,fun _=>⟨c1,c2,c3⟩⟩ ⟨hA2,fun h=>(h rfl).elim,fun _=>⟨a1,by simp only [BB];omega,by simp only [BB];omega⟩⟩
   simp only [BB] at c2 c3
   have hle02:=hle2.trans hle3
   clear a1 c1
   generalize dot s.cK ts2 (·.c)=B at hR a2 a3 ⊢
   generalize dot s.cK ts (·.c)=A at hR c2 c3 ⊢
   refine .z zg (.z zg (.nil (.seq (.block (.af (.z zm (.z zm (.z zm ?_))))))))
   refine .o (.call m7 rfl (dD hs) ?_);rintro _ w ⟨rfl,hs⟩
   refine .z iq (.z zg (.nil ?_))
   refine (.cond rfl (fun hc39=>?_) (fun hc39=>?_))
   ·refine .af (.z zg (.z zg (.z zg (.z zg (.z zg (.nil ?_))))))
    refine .ret (rB (rT (Fin.Eb Cr rfl rfl rfl rfl rfl ?_)))
    exact ⟨H3,_,_,[],[],_,_,_,hle13,rfl,RS.nil H3 1 none 0,RS.nil H3 1 none 0,.none hR (fun h=>by simp [h] at hc39),hs.tail⟩
   ·refine .af (.z zm (.z zm (.z ir (.z zg (.nil ?_)))))
    refine (.ck rfl (fun hc45=>?_) (fun hc45=>?_))
    ·refine .af (.z zm ?_)
     refine .o (.call Tryz.call162 rfl (eM hs hok hF2 hFo2 hsz2) ?_);rintro v50 w ⟨H4,xs,hle4,hx,hBx,hs⟩
     refine .z zm ?_
     refine .o (.call Tryz.call162 rfl (eM hs hok (hF.mono (hle02.trans hle4)) hFo hsz) ?_);rintro v52 w ⟨H5,ys,hle5,hy,hBy,hs⟩
     refine .z zg (.z zg (.z zg (.z zg (.z zg (.nil ?_)))))
     refine .ret (rB (rT (Fin.Eb Cr rfl rfl rfl rfl rfl ?_)))
     exact ⟨H5,_,_,xs,ys,_,_,_,hle13.trans (hle4.trans hle5),rfl,hx.mono hle5,hy,.ok hR (by simpa using hc39) hBx hBy (.inl ⟨aj,rfl,rfl⟩),hs.tail⟩
    ·refine .skip ?_
     refine nB (nT ?_)
     refine .af ?_
     have hin: -B≤z∧z≤A:=by simpa using hc39
     refine .z zm ?_
     refine .o (.call Tryz.call162 rfl (eM hs hok hF2 hFo2 hsz2) ?_);rintro v54 w ⟨H4,xs,hle4,hx,hBx,hs⟩
     refine .z zm ?_
     refine .o (.call Tryz.call162 rfl (eM hs hok (hF.mono (hle02.trans hle4)) hFo hsz) ?_);rintro v56 w ⟨H5,ys,hle5,hy,hBy,hs⟩
     refine .z zm (.z zm (.z hZ (.z zm (.z zm (.z hZ (.z zg (.z zg (.z zg (.z zg ?_)))))))))
     refine .z zg (.nil ?_)
     refine .ret (Fin.Eb Cr rfl rfl rfl rfl rfl ?_)
     exact ⟨H5,_,_,xs,ys,_,_,_,hle13.trans (hle4.trans hle5),rfl,hx.mono hle5,hy,.ok hR hin hBx hBy (.inr ⟨aj,rfl,rfl⟩),hs.tail⟩
theorem ns{a0 a1 a2:Int}(hs:St H w σ):Cl Tryz.prog 274 [I a0,I a1,I a2] w fun v w'=>v= .bool (decide (a1≤a0∧a0≤a2))∧St H w' σ:=by
 refine Cl.o Tryz.func274 Tryz.ntmps274 ag3 ?_
 refine .af (.z zg (.nil (.af (.z zm (.z zm (.z wv (.z zm ?_)))))))
 refine .kf (t':=10) rfl (fun hb10=>?_) (fun hb10=>?_)
 ·refine .gT rfl rfl ?_
  refine .z zm ?_
  refine .gT rfl rfl ?_
  refine .z zm ?_
  refine .gT rfl rfl ?_
  refine .z wv (.z zpT (.z zg (.nil ?_)))
  refine .ret (Fin.bI Tryz.results274 rfl ?_)
  exact ⟨by simp [*],hs.out⟩
 ·refine .gFs 3 3 true rfl rfl rfl ?_
  refine .z zpF (.z zg (.nil ?_))
  refine .ret (Fin.bI Tryz.results274 rfl ?_)
  exact ⟨by simp [*],hs.out⟩
theorem gv{v:Value}{l:List Int}{many:Nat}{most:Int}(hs:St H w σ)(hr:RI H v l):
  Cl Tryz.prog 247 [v,I many,I most] w fun v w'=>∃b:Bool,v= .bool b∧(b=true↔fZ many most l)∧St H w' σ:=by
 obtain ⟨a,c,rfl⟩:=RI.shape hr
 have hlen:=(RI.len hr).2.2
 refine Cl.o Tryz.func247 Tryz.ntmps247 ag3 ?_
 refine .af (.z zg (.nil (.seq (.af (.z zm (.z (c9 ad) (.z zm ?_)))))))
 refine .o (.call Tryz.call274 rfl (ns hs) ?_);rintro _ w ⟨rfl,hs⟩
 refine .z iq (.z zm ?_)
 refine .bif (t':=14) rfl (fun hb14=>?_) (fun hb14=>?_)
 ·refine .gFs 4 5 false rfl rfl rfl ?_
  refine .z zpT (.z zm ?_)
  refine .gFs 8 11 false rfl rfl rfl ?_
  refine .z zpT (.nil ?_)
  refine (.cT ?_)
  refine .af (.z zg (.nil ?_))
  refine .ret (rT (Fin.bI zh rfl ?_))
  exact ⟨false,rfl,⟨fun h=>(by cases h),fun h=>by have:=h.two;have:=h.many;simp at hb14;omega⟩,hs⟩
 ·refine .gT rfl rfl ?_
  refine .z zm ?_
  refine .gT rfl rfl ?_
  have htwo:2≤l.length∧l.length≤many:=by simp at hb14;omega
  refine .ixY hs hr rfl rfl ad ai (bJ (l:=l) (i:=0) aj) dx ?_;intro b16 o16 hc16
  refine .gT rfl rfl ?_
  refine .q hs (bh rfl ae hc16) ?_
  refine .gT rfl rfl ?_
  refine .z gp (.z zpF (.z zm ?_))
  refine .kf (t':=20) rfl (fun hb20=>?_) (fun hb20=>?_)
  ·refine .gFs 8 11 false rfl rfl rfl ?_
   refine .z zpT (.nil ?_)
   refine (.cT ?_)
   refine .af (.z zg (.nil ?_))
   refine .ret (rT (Fin.bI zh rfl ?_))
   exact ⟨false,rfl,⟨fun h=>(by cases h),fun h=>by have:=h.low;omega⟩,hs⟩
  ·refine .gT rfl rfl ?_
   refine .z zm ?_
   refine .gT rfl rfl ?_
   refine .z zm ?_
   refine .gT rfl rfl ?_
   refine .z (c9 ad) ?_
   refine .gT rfl rfl ?_
   refine .z hZ ?_
   refine .gT rfl rfl ?_
   refine .ixY hs hr rfl rfl ad ai (bJ (l:=l) (i:=(l.length - 1)) aj) dx ?_;intro b25 o25 hc25
   refine .gT rfl rfl ?_
   refine .q hs (bh rfl ae hc25) ?_
   refine .gT rfl rfl ?_
   refine .z zm ?_
   refine .gT rfl rfl ?_
   refine .z od (.z zpF (.nil ?_))
   refine (.ck rfl (fun hc29=>?_) (fun hc29=>?_))
   ·refine .af (.z zg (.nil ?_))
    refine .ret (rT (Fin.bI zh rfl ?_))
    exact ⟨false,rfl,⟨fun h=>(by cases h),fun h=>by have:=h.high;omega⟩,hs⟩
   ·refine .skip ?_
    refine nT ?_
    refine .seq (.af (.z zm ?_))
    refine .q hs (zL (k:=1) rfl rfl ad ai aj aj) ?_
    refine .z (c9 ad) (.z zm (.nil ?_))
    refine .for (N:=l.length - 1) (J:=fun k fr w=>fr=[(31,.slice (if c=1 then a else a.map (·.add (1*1))) (l.length - 1) (c - 1)),(0,.slice a l.length c)]∧(∀j<k,gi l j<gi l (j+1))∧St H w σ) aj ?_ ?_ ?_
    ·exact .mk ⟨rfl,fun j hj=>by omega,hs⟩
    ·rintro k fr w hk ⟨rfl,hno,hs⟩
     have ht:=hr.tail (k:=1) aj
     have hx:(l.drop 1)[k]? =some (gi l (k+1)):=by rw [List.getElem?_drop,Nat.add_comm];exact bJ aj
     refine .block (.af (.z zm ?_))
     refine .ixY hs ht rfl rfl ad ai hx rfl ?_;intro b36 o36 hc36
     refine .q hs (bh rfl ae hc36) ?_
     refine .z zg (.z zg (.nil (.af (.z zm (.z zm ?_)))))
     refine .ixY hs hr rfl rfl ad ai (bJ (l:=l) (i:=k) aj) dx ?_;intro b40 o40 hc40
     refine .q hs (bh rfl ae hc40) ?_
     refine .z zm (.z zk (.nil ?_))
     refine (.ck rfl (fun hc43=>?_) (fun hc43=>?_))
     ·refine .af (.z zg (.nil ?_))
      refine .ret (rB (rT (rB (rT (Fin.bI zh rfl ?_)))))
      exact ⟨false,rfl,⟨fun h=>(by cases h),fun h=>by have:=h.rise k aj;omega⟩,hs⟩
     ·refine .skip ?_
      refine nB (nT ?_)
      exact .mk ⟨rfl,fun j hj=>by
       by_cases e:j=k
       ·subst e;omega
       ·exact hno j aj,hs⟩
    ·rintro fr w ⟨rfl,hno,hs⟩
     refine nT ?_
     refine .af (.z zg (.nil ?_))
     refine .ret (Fin.bI zh rfl ?_)
     exact ⟨true,rfl,⟨fun _=>⟨aj,aj,aj,aj,fun i hi=>hno i aj⟩,fun _=>rfl⟩,hs⟩
theorem lx{v:Value}{l:List Int}(hs:St H w σ)(hr:RI H v l):
  Cl Tryz.prog 294 [v] w fun v w'=>∃e,v=I e∧((fZ 9 100000 l∧e=0)∨(¬fZ 9 100000 l∧e≠0))∧St H w' σ:=by
 obtain ⟨a,c,rfl⟩:=RI.shape hr
 refine Cl.o Tryz.func294 Tryz.ntmps294 ag1 ?_
 refine .af (.z zg (.nil (.seq (.af (.z zm ?_)))))
 refine .o (.call Tryz.call247 rfl (gv (many:=9) (most:=100000) hs hr) ?_);rintro _ w ⟨b4,rfl,hb4,hs⟩
 refine .z iq (.nil ?_)
 refine (.cond rfl (fun hc5=>?_) (fun hc5=>?_))
 ·refine .af (.z zg (.nil ?_))
  refine .ret (rT (Fin.bI Tryz.results294 rfl ?_))
  exact ⟨_,rfl,.inr ⟨fun h=>by simp [hb4.2 h] at hc5,by decide⟩,hs⟩
 ·refine .skip ?_
  refine nT ?_
  refine .af (.z zg (.nil ?_))
  refine .ret (Fin.bI Tryz.results294 rfl ?_)
  exact ⟨_,rfl,.inl ⟨hb4.1 (by simpa using hc5),rfl⟩,hs⟩
theorem gG{a b:Int}(hs:St H w σ)(ha:0<a)(hb:0<b∧b≤100000):
  Cl Tryz.prog 277 [I a,I b] w fun v w'=>v=I (rat a b)∧St H w' σ:=by
 have h1:0≤b.tdiv a:=Int.tdiv_nonneg aj aj
 have h2:b.tdiv a≤b:=by rw [Int.tdiv_eq_ediv_of_nonneg aj];exact Int.ediv_le_self _ aj
 have hw:=kd (m:=b.tdiv a) ⟨aj,aj⟩
 refine Cl.o Tryz.func277 Tryz.ntmps277 ag2 ?_
 refine .af (.z zg (.nil (.seq (.af (.z zm (.z zm (.z A2 (.z ir (.z zm ?_)))))))))
 refine .kf (t':=9) rfl (fun hb9=>?_) (fun hb9=>?_)
 ·refine .gT rfl rfl ?_
  refine .z zm ?_
  refine .gT rfl rfl ?_
  refine .z zm ?_
  refine .gT rfl rfl ?_
  refine .z DV ?_
  refine .gT rfl rfl ?_
  refine .z wv (.z zpT (.nil ?_))
  refine (.ck rfl (fun hc14=>?_) (fun hc14=>?_))
  ·refine .af (.z zm (.z zm (.z DV (.z zg (.nil ?_)))))
   refine .ret (rT (Fin.bI Tryz.results277 rfl ?_))
   rw [hw] at hc14 ⊢
   exact ⟨by unfold rat;rw [if_pos ⟨by assumption,by assumption⟩],hs⟩
  ·refine .skip ?_
   refine nT ?_
   refine .af (.z zg (.nil ?_))
   refine .ret (Fin.bI Tryz.results277 rfl ?_)
   rw [hw] at hc14
   exact ⟨by unfold rat;rw [if_neg aj],hs⟩
 ·refine .gFs 4 4 true rfl rfl rfl ?_
  refine .z zpF (.nil ?_)
  refine (.cF ?_)
  refine .skip ?_
  refine nT ?_
  refine .af (.z zg (.nil ?_))
  refine .ret (Fin.bI Tryz.results277 rfl ?_)
  exact ⟨by unfold rat;rw [if_neg aj],hs⟩
def oX(l:List Int):List (List Value):=(tU l).map fun g=>[Value.agg #[I (g.at_:Int),I (g.n:Int)]]
theorem zp{l:List Int}(hp:fZ 9 100000 l){i:Nat}(h:i+2<l.length):fC l i=true↔0<rat (gi l (i+1) - gi l i) (gi l (i+2) - gi l (i+1))∨0<rat (gi l (i+2) - gi l (i+1)) (gi l (i+1) - gi l i):=by
 have h1:=hp.rise i aj
 have h2:gi l (i+1)<gi l (i+2):=hp.rise (i+1) aj
 unfold fC
 rw [zv aj aj]
 simp only [Bool.and_eq_true,decide_eq_true_eq]
 omega
theorem nt{H:bP}{b:Nat}{v:Value}{l:List Int}(hp:fZ 9 100000 l)(hb:Row H b [v])(hr:RI H v l):Iter Tryz.prog 295 [.pointer (some ⟨b,0,none⟩)] H (oX l):=by
 intro ly II Ix _ _ hy H0 σb0 σf w hle hI0 hs
 obtain ⟨a,c,rfl⟩:=RI.shape hr
 have hlen:=hp.many
 have hb0:cellAt H0 b 0=some (.slice a l.length c):=cellAt.mono (hb.at 0) hle
 refine Cl.o Tryz.func295 Tryz.ntmps295 ag2 ?_
 refine .af (.z zg (.nil (.block ?_)))
 refine .loop (fun i:Nat=>⟨59,[],[(3,I (i:Int)),(0,.func (.yield ly) #[] #[]),(1,.pointer (some ⟨b,0,none⟩))]⟩)
  (fun i w=>i≤l.length∧∃j,j≤(tU l).length∧(tU l).drop j=nf l i∧∃H1 σb,HLe H H1∧HLe H0 H1∧II j H1 σb∧St H1 w (σb++σf)) (fun i=>l.length - i) 0 (.de rfl cm bD)
  ⟨Nat.zero_le _,0,Nat.zero_le _,rfl,H0,σb0,hle,HLe.refl _,hI0,hs⟩ ?_
 clear hs hI0
 rintro i w ⟨hil,j,hj,hd,H1,σb,hle1,hle0,hI,hs⟩
 have hb1:cellAt H1 b 0=some (.slice a l.length c):=cellAt.mono hb0 hle0
 refine .seq (.af (.z zm (.z cC (.y hs (zld ak) (.z (c9 ad) (.z gp (.nil ?_)))))))
 refine (.ck rfl (fun hc11=>?_) (fun hc11=>?_))
 ·refine .skip ?_
  refine nT ?_
  refine .block (.af (.z zm (.z (zbd [_,_] ux) ?_)))
  refine .o (.alloc hs Tryz.zeroValue300 rfl fun b4 w hs=>?_)
  refine .o (.aO (vs:=[_,_]) hs rfl rfl Tryz.sizeOf300 fun w hs=>?_)
  refine .nil ?_
  refine .cut (fun fs w=>mE fs ⟨59,[],[(4,.pointer (some ⟨b4,0,none⟩)),(3,I (i:Int)),(0,.func (.yield ly) #[] #[]),(1,.pointer (some ⟨b,0,none⟩))]⟩∧St H1 w (.blk b4 [I (i:Int),I (((if fC l i then 2 else 1:Nat)):Int)]::(σb++σf))) ?_ ?_
  ·refine .af (.z zm (.z cC (.y hs (zld ak) (.z (c9 ad) (.z gp (.nil ?_))))))
   refine (.ck rfl (fun hc18=>?_) (fun hc18=>?_))
   ·refine .seq (.draw mix rfl hs fun w hs=>?_)
    refine .y 0 rfl hs ak ?_;refine .z 1 rfl zm ?_;refine .z 2 rfl cC ?_
    have r1:=hp.rise i aj
    have r2:gi l (i+1)<gi l (i+2):=hp.rise (i+1) aj
    have hiff:=zp hp (i:=i) aj
    have q1:=hp.bd (i:=i) aj
    have q2:=hp.bd (i:=i+2) aj
    refine .ixX (enc:=fun x=>[I x]) (i:=3) hs rfl au .none (hr.mono hle1) rfl rfl ad ai (bJ (l:=l) (i:=(i+1)) aj) dx ?_;intro b22 o22 hc22;replace hc22:=bQ.one hc22
    refine .r (i:=4) hs rfl au .none (bh rfl ae hc22) ?_
    refine .y 5 rfl hs ak ?_;refine .z 6 rfl zm ?_
    refine .ixX (enc:=fun x=>[I x]) (i:=7) hs rfl au .none (hr.mono hle1) rfl rfl ad ai (bJ (l:=l) (i:=i) aj) dx ?_;intro b26 o26 hc26;replace hc26:=bQ.one hc26
    refine .r (i:=8) hs rfl au .none (bh rfl ae hc26) ?_
    refine .z 9 rfl hZ ?_;refine .y 10 rfl hs ak ?_;refine .z 11 rfl zm ?_;refine .z 12 rfl cC ?_
    refine .ixX (enc:=fun x=>[I x]) (i:=13) hs rfl au .none (hr.mono hle1) rfl rfl ad ai (bJ (l:=l) (i:=(i+2)) aj) dx ?_;intro b32 o32 hc32;replace hc32:=bQ.one hc32
    refine .r (i:=14) hs rfl au .none (bh rfl ae hc32) ?_
    refine .y 15 rfl hs ak ?_;refine .z 16 rfl zm ?_;refine .z 17 rfl cC ?_
    refine .ixX (enc:=fun x=>[I x]) (i:=18) hs rfl au .none (hr.mono hle1) rfl rfl ad ai (bJ (l:=l) (i:=(i+1)) aj) dx ?_;intro b37 o37 hc37;replace hc37:=bQ.one hc37
    refine .r (i:=19) hs rfl au .none (bh rfl ae hc37) ?_
    refine .z 20 rfl hZ ?_;refine .z 21 rfl zg ?_;refine .z 22 rfl zg ?_;refine .D hs ?_
    refine .af (.z zm (.z zm ?_))
    refine .o (.call Tryz.call277 rfl (gG hs aj aj) ?_);rintro _ w ⟨rfl,hs⟩
    refine .z od (.z zm ?_)
    refine .kf (t':=44) rfl (fun hb44=>?_) (fun hb44=>?_)
    ·refine .gFs 4 4 false rfl rfl rfl ?_
     refine .z zpT (.nil ?_)
     refine (.cT ?_)
     refine .region (.z (zfa iD) ?_)
     refine .o (.store hs rfl rfl ai fun w hs=>?_)
     refine .nil ?_
     refine nT ?_
     rw [hiff.2 (.inl hb44)];exact ⟨bD,hs⟩
    ·refine .gT rfl rfl ?_
     refine .z zm ?_
     refine .gT rfl rfl ?_
     refine .z zm ?_
     refine .gT rfl rfl ?_
     refine .o (.call Tryz.call277 rfl (gG hs aj aj) ?_);rintro _ w ⟨rfl,hs⟩
     refine .gT rfl rfl ?_
     refine .z od (.z zpF (.nil ?_))
     refine (.ck rfl (fun hc49=>?_) (fun hc49=>?_))
     ·refine .region (.z (zfa iD) ?_)
      refine .o (.store hs rfl rfl ai fun w hs=>?_)
      refine .nil ?_
      refine nT ?_
      rw [hiff.2 (.inr hc49)];exact ⟨bD,hs⟩
     ·refine .skip ?_
      refine nT ?_
      rw [show fC l i=false from Bool.eq_false_iff.2 fun h=>by have:=hiff.1 h;omega];exact ⟨bD,hs⟩
   ·refine .skip ?_
    refine nT ?_
    rw [show fC l i=false by simp [fC];omega];exact ⟨bD,hs⟩
  ·rintro fs w ⟨hfs,hs⟩
   refine WE.sub ?_ hfs
   have hgo:=vH (l:=l) (i:=i) aj
   rw [hgo] at hd
   have hjl:j<(tU l).length:=by
    have:=congrArg List.length hd
    simp at this;omega
   have hgj:(tU l)[j]=⟨i,fC l i⟩:=by
    rw [List.drop_eq_getElem_cons hjl] at hd
    exact (List.cons.inj hd).1
   have hdj:(tU l).drop (j+1)=nf l (i+(if fC l i then 2 else 1)):=by
    rw [List.drop_eq_getElem_cons hjl] at hd
    exact (List.cons.inj hd).2
   have hn12:(if fC l i then 2 else 1:Nat)=1∨(if fC l i then 2 else 1:Nat)=2:=by split<;>simp
   refine .seq (.af (.z zm (.y hs (zls [_,_] Tryz.isAgg300 Tryz.sizeOf300) ?_)))
   have hk':j<(oX l).length:=by simpa [oX] using hjl
   have hyd:=hy j hk' H1 σb (.blk b4 [I (i:Int),I (((if fC l i then 2 else 1:Nat)):Int)]::σf) w hle1 hI (St.deep hs)
   rw [show (oX l)[j]=[Value.agg #[I (i:Int),I (((if fC l i then 2 else 1:Nat)):Int)]] by simp only [oX,List.getElem_map,hgj];rfl] at hyd
   refine .o (.yield rfl rfl hyd ?_);rintro v53 w ⟨H2,σ2,g1,hs,g3⟩
   obtain ⟨bb,rfl,gT,gF⟩:=np g3
   replace hs:=St.shallow hs
   refine .z iq (.nil ?_)
   refine (.cond rfl (fun hc54=>?_) (fun hc54=>?_))
   ·refine .ret (rT (rB (rT (rB (Fin.Ec Tryz.results295 ?_)))))
    exact ⟨H2,σ2,hle0.trans g1,hs.tail,.inr (gF (by simpa using hc54))⟩
   ·refine .skip ?_
    refine nT ?_
    refine .region (.z zm (.z (zfa iD) (.y hs (zld ae) (.z cC (.z zg (.nil ?_))))))
    refine nB (nT ?_)
    generalize (if fC l i then 2 else 1:Nat)=n at*
    exact ⟨i+n,.de rfl cm bD,⟨aj,j+1,hjl,hdj,H2,σ2,hle1.trans g1,hle0.trans g1,gT (by simpa using hc54),hs.tail⟩,aj⟩
 ·refine .exit ?_
  refine xT (xT (xB ?_))
  rw [tg aj] at hd
  have:(tU l).length≤j:=by simpa using hd
  obtain rfl:j=(tU l).length:=by omega
  exact Fin.wm Tryz.results295 ⟨H1,σb,hle0,hs,.inl (by simpa [oX] using hI)⟩
theorem pH{v:Value}{l:List Int}(hs:St H w σ)(hr:RI H v l)(hp:fZ 9 100000 l):
  Cl Tryz.prog 276 [v] w fun u w'=>∃H1 b,HLe H H1∧u= .func (.func 295) #[] #[.pointer (some ⟨b,0,none⟩)]∧Iter Tryz.prog 295 [.pointer (some ⟨b,0,none⟩)] H1 (oX l)∧St H1 w' σ:=by
 obtain ⟨a,c,rfl⟩:=RI.shape hr
 refine Cl.o Tryz.func276 Tryz.ntmps276 ag1 ?_
 refine .af ?_
 refine .bx hs fun b1 w hs=>?_
 refine .z zg (.nil (.af ?_))
 refine .q hs (cU (f:=[]) (c:=[_]) rfl rfl) ?_
 refine .z zg (.nil ?_)
 refine .ret (Fin.bI Tryz.results276 rfl ?_)
 obtain ⟨H1,g1,g2,hs⟩:=hs.cf .here
 exact ⟨H1,b1,g1,rfl,nt hp g2 (hr.mono g1),hs⟩
theorem nb{bs bW from_ n:Nat}{W xs:List Int}{v:Value}(hs:St H w (.blk bs [.slice (some ⟨bW,0,none⟩) n n]:: .blk bW (Is W)::σ))(hW:W.length=n)(hr:RI H v xs)(hl:from_+xs.length≤n)(hn:n≤9)
  (hz:bA W n≤1000000000) (ha:tr xs≤1000000000):
  Cl Tryz.prog 275 [.pointer (some ⟨bs,0,none⟩),I (from_:Int),v] w fun _ w'=>St H w' (.blk bs [.slice (some ⟨bW,0,none⟩) n n]:: .blk bW (Is (kg W from_ xs))::σ):=by
 obtain ⟨a,c,rfl⟩:=RI.shape hr
 have hlen:=(RI.len hr).2.2
 refine Cl.o Tryz.func275 Tryz.ntmps275 ag3 ?_
 refine .af (.z zm (.z (c9 ad) (.z zm (.nil ?_))))
 refine .for (N:=xs.length) (J:=fun k fr w=>fr=[(8,.slice a xs.length c),(0,.pointer (some ⟨bs,0,none⟩)),(1,I (from_:Int))]∧St H w (.blk bs [.slice (some ⟨bW,0,none⟩) n n]:: .blk bW (Is (kg W from_ (xs.take k)))::σ)) aj ?_ ?_ ?_
 ·exact .mk ⟨rfl,hs⟩
 ·rintro k fr w hk ⟨rfl,hs⟩
  have hal:=mq (xs.take k) W from_
  have hsz:=nS (xs.take k) W from_ (by rw [List.length_take];omega)
  rw [hW] at hsz
  have h1:=wb xs k
  have h2:=AN xs k
  have h3:=jO (kg W from_ (xs.take k)) (v:=from_+k) (n:=n) aj
  have h4:=yX hk W from_
  refine .block (.af (.z zm ?_))
  refine .ixY hs hr rfl rfl ad ai (bJ (l:=xs) (i:=k) aj) dx ?_;intro b13 o13 hc13
  refine .q hs (bh rfl ae hc13) ?_
  refine .z zg (.z zg (.nil (.region (.z zm (.z znc (.z (zfa ng) (.y hs (zld ak) (.z zm (.z zm ?_)))))))))
  refine .z cC ?_
  refine .q hs (iI (k:=from_+k) rfl rfl ad ai aj aj) ?_
  refine .y hs (zld ae) (.z zm (.z cC ?_))
  refine .q hs (iI (k:=from_+k) rfl rfl ad ai aj aj) ?_
  refine .o (.store hs rfl rfl ai fun w hs=>?_)
  refine .nil ?_
  refine nB (nT ?_)
  exact .mk ⟨rfl,by rw [h4];exact hs⟩
 ·rintro fr w ⟨rfl,hs⟩
  rw [List.take_length] at hs
  exact Fin.wm Tryz.results275 hs
theorem yJ{a b:Int}(ha:0<a∧a≤100000)(hb:0<b∧b≤100000):0≤min a b∧min a b≤100000:=by omega
theorem CZ{a b:Int}(h:0<tms a b):tms a b=1∨tms a b=2∨tms a b=3:=by have:=Cx a b;omega
set_option maxHeartbeats 1000000 in
theorem ia{v:Value}{l:List Int}(hs:St H w σ)(hr:RI H v l)(hp:fZ 9 100000 l):
  Cl Tryz.prog 248 [v] w fun u w'=>∃H1,HLe H H1∧RI H1 u (wts l)∧St H1 w' σ:=by
 obtain ⟨a,c,rfl⟩:=RI.shape hr
 have hln:=hp.many
 have hgl:(tU l).length≤9:=by have:=qj l l.length 0;unfold tU;omega
 refine Cl.o Tryz.func248 Tryz.ntmps248 ag1 ?_
 refine .af ?_
 refine .bx hs fun b1 w hs=>?_
 refine .z zg (.nil (.af (.y hs (zld ak) (.z (c9 ad) ?_))))
 refine .o (.sz l.length hs rfl rfl ad ff rfl ai bM aj fun b13 w hs=>?_)
 refine .z (zbd [_] uw) ?_
 refine .o (.alloc hs Tryz.zeroValue294 rfl fun b3 w hs=>?_)
 refine .o (.aO (vs:=[_]) hs rfl rfl Tryz.sizeOf294 fun w hs=>?_)
 refine .nil (.af ?_)
 refine .q hs (cU (f:=[_]) (c:=[]) rfl rfl) ?_
 refine .o (.alloc hs Tryz.zeroValue295 rfl fun b4 w hs=>?_)
 refine .o (.store hs rfl rfl Tryz.sizeOf295 fun w hs=>?_)
 refine .nil (.seq (.af (.y hs (zld ak) ?_)))
 refine .o (.call Tryz.call276 rfl (pH hs hr hp) ?_);rintro _ w ⟨H1,b17,hle1,rfl,hit,hs⟩
 refine .nil (.block ?_)
 refine .rangeFunc (gf:=295) (cap:=[.pointer (some ⟨b17,0,none⟩)]) (xs:=oX l) (σb:=[.blk b3 [.slice (some ⟨b13,0,none⟩) l.length l.length],.blk b13 (Is (wj l 0)),.blk b4 [.func (.func 275) #[.pointer (some ⟨b3,0,none⟩)] #[]],.blk b1 [.slice a l.length c]]) (σf:=σ) (hs.sb) trivial rfl hit Tryz.call295 (fun x hx=>by
   simp only [oX,List.mem_map] at hx
   obtain ⟨j,_,rfl⟩:=hx;rfl) rfl
  (I:=fun j H' σb=>σb=[.blk b3 [.slice (some ⟨b13,0,none⟩) l.length l.length],.blk b13 (Is (wj l j)),.blk b4 [.func (.func 275) #[.pointer (some ⟨b3,0,none⟩)] #[]],.blk b1 [.slice a l.length c]]) (Ix:=fun _ _ _=>False)
  (fun j _ _ σ g1 g2=>g2) (fun _ _ _ _ _ h=>h) rfl ?_ ?_ (fun D c H' σb w _ h _=>h.elim)
 ·rintro ly j hj H2 σb2 σf2 w hle2 rfl hs ⟨rr,hrr⟩
  have hjl:j<(tU l).length:=by simpa [oX] using hj
  obtain ⟨g,hg⟩:=nth hjl
  rw [show (oX l)[j]=[Value.agg #[I (g.at_:Int),I (g.n:Int)]] by
   rw [List.getElem?_eq_getElem hjl] at hg
   simp only [oX,List.getElem_map,Option.some.inj hg]]
  obtain ⟨i1,i2,i3,i4,i5⟩:=vI hp (List.mem_of_getElem? hg)
  have hK:=uO hg
  have hKl:=nq l j
  have hKz:=sQ hp j aj
  have hr2:=hr.mono (hle1.trans hle2)
  have hq0:=hp.bd (i:=g.at_) aj
  have hq1:=hp.bd (i:=g.at_+1) aj
  generalize hA:gi l (g.at_+1) - gi l g.at_=A at*
  refine .region ?_
  refine .o (.alloc hs Tryz.zeroValue300 rfl fun b5 w hs=>?_)
  refine .o (.aO (vs:=[_,_]) hs rfl rfl Tryz.sizeOf300 fun w hs=>?_)
  refine .nil ?_
  refine nT ?_
  refine ⟨H2,[.blk b5 [I (g.at_:Int),I (g.n:Int)],.blk b3 [.slice (some ⟨b13,0,none⟩) l.length l.length],.blk b13 (Is (wj l j)),.blk b4 [.func (.func 275) #[.pointer (some ⟨b3,0,none⟩)] #[]],.blk b1 [.slice a l.length c]],HLe.refl _,hs,?_⟩;rintro w σf4 - hs
  refine .block ?_
  refine .seq (.draw mix rfl hs fun w hs=>?_)
  refine .y 0 rfl hs ak ?_;refine .z 1 rfl (zfa fD) ?_;refine .y 2 rfl hs ae ?_;refine .z 3 rfl cC ?_
  refine .ixX (enc:=fun x=>[I x]) (i:=4) hs rfl au .none hr2 rfl rfl ad ai (bJ (l:=l) (i:=(g.at_+1)) aj) dx ?_;intro b23 o23 hc23;replace hc23:=bQ.one hc23
  refine .r (i:=5) hs rfl au .none (bh rfl ae hc23) ?_
  refine .y 6 rfl hs ak ?_;refine .z 7 rfl (zfa fD) ?_;refine .y 8 rfl hs ae ?_
  refine .ixX (enc:=fun x=>[I x]) (i:=9) hs rfl au .none hr2 rfl rfl ad ai (bJ (l:=l) (i:=g.at_) aj) dx ?_;intro b28 o28 hc28;replace hc28:=bQ.one hc28
  refine .r (i:=10) hs rfl au .none (bh rfl ae hc28) ?_
  refine .z 11 rfl hZ ?_
  rw [hA]
  refine .z 12 rfl zg ?_;refine .D hs ?_
  refine .seq (.af (.z (zfa iD) (.y hs (zld ae) (.z ir ?_))))
  skip
  refine .nil ?_
  refine (.ck rfl (fun hc33=>?_) (fun hc33=>?_))
  ·refine .af ?_
   refine .y hs (zld Tryz.isAgg295) ?_
   refine .z (zfa fD) (.y hs (zld ae) (.z zm (.z kG (.z zm (.z kG ?_)))))
   refine .o (.buildSlice (cells:=[_,_]) hs gZ rfl rfl fun b41 w hs=>?_)
   have h2:g.two=false:=by
    cases e:g.two with
    |false=>rfl
    |true=>simp [Grp.n,e] at hc33
   obtain ⟨H3,hle3,r41,hs⟩:=bS.cV (xs:=[18*A,18*A]) (v:= .slice (some ⟨b41,0,none⟩) 2 2) (.full (len:=2) rfl) cm hs dw
   have hgw:=B6 h2 hA
   rw [hgw] at hK i5
   replace hs:St H3 w (.blk b3 [.slice (some ⟨b13,0,none⟩) l.length l.length]:: .blk b13 (Is (wj l j)):: .blk b5 [I (g.at_:Int),I (g.n:Int)]:: .blk b4 [.func (.func 275) #[.pointer (some ⟨b3,0,none⟩)] #[]]:: .blk b1 [.slice a l.length c]::σf4):=hs.sb
   refine .o (.kT (first:=[.pointer (some ⟨b3,0,none⟩)]) (cap:=[]) rfl rfl Tryz.call275 (nb (from_:=g.at_) (xs:=[18*A,18*A]) hs hKl r41 (by simp;omega) aj aj aj) ?_);rintro _ w hs
   rw [←hK] at hs
   refine .nil ?_
   refine .exit ?_
   refine xT (xB ?_)
   exact ⟨H3,_,hle3,(hs.sb:St H3 w (.blk b3 _:: .blk b13 _:: .blk b4 _:: .blk b1 _::σf4)),rfl⟩
  ·refine .skip ?_
   refine nT ?_
   refine .seq (.draw mix rfl hs fun w hs=>?_)
   have h2:g.two=true:=by
    cases e:g.two with
    |true=>rfl
    |false=>simp [Grp.n,e] at hc33
   obtain ⟨j1,j2,j3,j4⟩:=i4 h2
   have hq2:=hp.bd (i:=g.at_+2) aj
   generalize hB:gi l (g.at_+2) - gi l (g.at_+1)=B at*
   have hmx:=zv (a:=A) (b:=B) aj aj
   have hk:=CZ j4
   have hmm:=yJ (a:=A) (b:=B) ⟨aj,aj⟩ ⟨aj,aj⟩
   obtain ⟨n1,n2,n3,n4⟩:=B4 hk hmm.1 hmm.2
   obtain ⟨n5,n6,n7,n8,n9⟩:=n4 _ n3.1 n3.2
   generalize hT:tms A B=T at*
   generalize hM:min A B=M at*
   have hgw:=B5 h2 hA hB hT hM
   refine .y 0 rfl hs ak ?_;refine .z 1 rfl (zfa fD) ?_;refine .y 2 rfl hs ae ?_;refine .z 3 rfl cC ?_
   refine .ixX (enc:=fun x=>[I x]) (i:=4) hs rfl au .none hr2 rfl rfl ad ai (bJ (l:=l) (i:=(g.at_+2)) aj) dx ?_;intro b47 o47 hc47;replace hc47:=bQ.one hc47
   refine .r (i:=5) hs rfl au .none (bh rfl ae hc47) ?_
   refine .y 6 rfl hs ak ?_;refine .z 7 rfl (zfa fD) ?_;refine .y 8 rfl hs ae ?_;refine .z 9 rfl cC ?_
   refine .ixX (enc:=fun x=>[I x]) (i:=10) hs rfl au .none hr2 rfl rfl ad ai (bJ (l:=l) (i:=(g.at_+1)) aj) dx ?_;intro b53 o53 hc53;replace hc53:=bQ.one hc53
   refine .r (i:=11) hs rfl au .none (bh rfl ae hc53) ?_
   refine .z 12 rfl hZ ?_
   rw [hB]
   refine .z 13 rfl zg ?_;refine .D hs ?_
   refine .af (.z zm (.z zm ?_))
   refine .o (.call Tryz.call277 rfl (gG hs aj aj) ?_);rintro _ w ⟨rfl,hs⟩
   refine .z zm (.z zm ?_)
   refine .o (.call Tryz.call277 rfl (gG hs aj aj) ?_);rintro _ w ⟨rfl,hs⟩
   refine .z Cs ?_
   rw [←hmx]
   refine .z zg (.nil (.af (.z zm ?_)))
   refine .q hs (vi rfl rfl aj aj) ?_
   refine .z zm (.z cC (.z kG (.z zm (.z zm (.z A3 ?_)))))
   rw [hM]
   refine .z kG (.z zg (.nil (.af (.z zm (.z zm (.z kG (.z zm (.z hZ (.z kG ?_)))))))))
   refine .z zm (.z zm (.z cC (.z kG (.z zm (.z cC (.z kG (.z zm (.z zm (.z kG ?_)))))))))
   refine .z hZ (.z kG ?_)
   refine .o (.buildSlice (cells:=[_,_,_]) hs vW rfl rfl fun b90 w hs=>?_)
   refine .z zg (.nil ?_)
   refine .cut (fun fs w=>∃H3,mE fs ⟨103,[],[(10,.slice (some ⟨b90,0,none⟩) 3 3),(5,.pointer (some ⟨b5,0,none⟩)),(4,.pointer (some ⟨b4,0,none⟩)),(3,.pointer (some ⟨b3,0,none⟩)),(1,.pointer (some ⟨b1,0,none⟩))]⟩∧HLe H2 H3∧RI H3 (.slice (some ⟨b90,0,none⟩) 3 3) (th l g)∧St H3 w (.blk b3 [.slice (some ⟨b13,0,none⟩) l.length l.length]:: .blk b13 (Is (wj l j)):: .blk b5 [I (g.at_:Int),I (g.n:Int)]:: .blk b4 [.func (.func 275) #[.pointer (some ⟨b3,0,none⟩)] #[]]:: .blk b1 [.slice a l.length c]::σf4)) ?_ ?_
   ·refine .af (.z zm (.z zm (.z od (.nil ?_))))
    refine (.ck rfl (fun hc93=>?_) (fun hc93=>?_))
    ·refine .region (.z zm ?_)
     refine .o (.call Tryz.call128 rfl (jM (en:= .blk b90 (Is [(6:Int).tdiv T*(1+T)*M*T*(2 - T),(6:Int).tdiv T*(1+T)*M*(1+T)*(1+T),(6:Int).tdiv T*(1+T)*M*(2*T - 1)])) (hs.sb:St H2 w (.blk b90 _:: .blk b3 _:: .blk b13 _:: .blk b5 _:: .blk b4 _:: .blk b1 _::σf4)) (.full rfl) cm) ?_);rintro _ w ⟨en95,hO95,hs⟩
     refine .nil ?_
     refine nT ?_
     obtain ⟨H3,hle3,r90,hs⟩:=bS.cV hO95 cm hs .here
     rw [if_pos hc93] at hgw
     rw [hgw]
     exact ⟨H3,bD,hle3,r90,hs⟩
    ·refine .skip ?_
     refine nT ?_
     obtain ⟨H3,hle3,r90,hs⟩:=bS.cV (xs:=[(6:Int).tdiv T*(1+T)*M*T*(2 - T),(6:Int).tdiv T*(1+T)*M*(1+T)*(1+T),(6:Int).tdiv T*(1+T)*M*(2*T - 1)]) (v:= .slice (some ⟨b90,0,none⟩) 3 3) (.full (len:=3) rfl) cm hs dw
     rw [if_neg aj] at hgw
     rw [hgw]
     exact ⟨H3,bD,hle3,r90,hs.sb⟩
   ·rintro fs w ⟨H3,hfs,hle3,r90,hs⟩
    refine WE.sub ?_ hfs
    refine .region ?_
    refine .y hs (zld Tryz.isAgg295) ?_
    refine .z (zfa fD) (.y hs (zld ae) (.z zm ?_))
    refine .o (.kT (first:=[.pointer (some ⟨b3,0,none⟩)]) (cap:=[]) rfl rfl Tryz.call275 (nb (from_:=g.at_) (xs:=th l g) hs hKl r90 (by rw [xH,show g.n=2 by unfold Grp.n;rw [h2];rfl];omega) aj aj aj) ?_);rintro _ w hs
    rw [←hK] at hs
    refine .nil ?_
    refine nB ?_
    exact ⟨H3,_,hle3,(hs.sb:St H3 w (.blk b3 _:: .blk b13 _:: .blk b4 _:: .blk b1 _::σf4)),rfl⟩
 ·rintro D H2 σb2 w hle2 rfl hs
  rw [show (oX l).length=(tU l).length by simp [oX],A9] at hs
  replace hs:St H2 w (.obj D (.deferred (some [])):: .blk b3 [.slice (some ⟨b13,0,none⟩) l.length l.length]:: .blk b13 (Is (wts l)):: .blk b4 [.func (.func 275) #[.pointer (some ⟨b3,0,none⟩)] #[]]:: .blk b1 [.slice a l.length c]::σ):=hs
  refine nB (nT ?_)
  refine .af (.z (zfa ng) (.y hs (zld ak) (.z zg (.nil ?_))))
  refine .ret ?_
  obtain ⟨H3,hle3,hR,hs⟩:=bS.cV (xs:=wts l) (v:= .slice (some ⟨b13,0,none⟩) l.length l.length) (.full (by simp [Is,gX])) (by rw [gX];omega) hs dw
  exact Fin.gI [D] [] hs fun w hs=>⟨_,results1 Tryz.results248 rfl,H3,hle1.trans (hle2.trans hle3),hR,hs.out⟩
def yv(X Y:List Int)(i:Nat):List Int:=(List.range Y.length).map fun k=>gi X i*gi Y k
def oY(X Y:List Int)(i:Nat):List (List Int):=(List.range i).map (yv X Y)
theorem nz(X Y:List Int)(i:Nat):(yv X Y i).length=Y.length:=by simp [yv]
theorem mb(X Y:List Int)(i:Nat):(oY X Y i).length=i:=by simp [oY]
theorem yN(X Y:List Int)(i:Nat):oY X Y (i+1)=oY X Y i++[yv X Y i]:=by simp [oY,List.range_succ]
theorem zF{X Y:List Int}{i k:Nat}(hk:k<Y.length):(yv X Y i).take (k+1)=(yv X Y i).take k++[gi X i*gi Y k]:=by
 rw [cM (by simp [yv,hk]:(yv X Y i)[k]? =some (gi X i*gi Y k))]
theorem xJ{X Y:List Int}{n i:Nat}(h:i<n):gr (oY X Y n) i=yv X Y i:=by simp [gr,List.getD,oY,h]
theorem B7{X Y:List Int}{n i k:Nat}(h:i<n)(hk:k<Y.length):gt (oY X Y n) i k=gi X i*gi Y k:=by
 unfold gt;rw [xJ h];simp [gi,List.getD,yv,hk]
inductive GrS(X Y:List Int)(b:Nat)(i k:Nat)(H:bP)(σ:List Ent):Prop
 |go (us:List Value) (v:Value) (en:Ent) (h:i<X.length) (h1:RLs H us (oY X Y i)) (h2:bS 1 v (Is ((yv X Y i).take k)) en) (h3:σ=[.blk b (us++v::List.replicate (X.length - i - 1) (.slice none 0 0)),en])
 |fin (us:List Value) (h:i=X.length) (h1:RLs H us (oY X Y i)) (h3:σ=[.blk b us])
theorem GrS.mono{X Y:List Int}{b i k:Nat}{H H':bP}{σ:List Ent}(h:GrS X Y b i k H σ)(hl:HLe H H'):GrS X Y b i k H' σ:=by
 cases h with
 |go us v en h h1 h2 h3=>exact .go us v en h (h1.mono hl) h2 h3
 |fin us h h1 h3=>exact .fin us h (h1.mono hl) h3
theorem jJ{v:Value}{l:List Int}(hs:St H w σ)(hr:RI H v l):
  Cl Tryz.prog 273 [v] w fun u w'=>∃H1 vo e,HLe H H1∧u= .tuple #[vo,I e]∧(fZ 9 100000 l→e=0∧RI H1 vo (wts l))∧St H1 w' σ:=by
 obtain ⟨a,c,rfl⟩:=RI.shape hr
 refine Cl.o Tryz.func273 Tryz.ntmps273 ag1 ?_
 refine .af (.z zg (.z zg (.nil (.seq (.af (.z zm ?_))))))
 refine .o (.call Tryz.call294 rfl (lx hs hr) ?_);rintro _ w ⟨e,rfl,he,hs⟩
 refine .z zg (.nil (.af (.z zm (.z fM (.nil ?_)))))
 refine (.eD rfl (fun hc8=>?_) (fun hc8=>?_))
 ·refine .af (.z zm (.z zg (.z zg (.nil ?_))))
  refine .ret (rT (Fin.kK Tryz.results273 rfl rfl ?_))
  exact ⟨H,_,_,HLe.refl H,rfl,fun h=>by rcases he with ⟨_,h2⟩|⟨h1,_⟩;exact (hc8 h2).elim;exact (h1 h).elim,hs⟩
 ·refine .skip ?_
  refine nT ?_
  refine .af (.z zm ?_)
  have hp:fZ 9 100000 l:=by rcases he with ⟨h,_⟩|⟨_,h2⟩;exact h;exact (h2 (by simpa using hc8)).elim
  refine .o (.call Tryz.call248 rfl (ia hs hr hp) ?_);rintro v11 w ⟨H1,hle1,hR,hs⟩
  refine .z zg (.z zg (.nil ?_))
  refine .ret (Fin.kK Tryz.results273 rfl rfl ?_)
  exact ⟨H1,_,_,hle1,rfl,fun _=>⟨rfl,hR⟩,hs⟩
theorem pG{v1 v2:Value}{a b:List Int}(hs:St H w σ)(h1:RI H v1 a)(h2:RI H v2 b):
  Cl Tryz.prog 191 [v1,v2] w fun u w'=>∃bb:Bool,u= .bool bb∧(bb=true↔fZ 9 100000 a∧fZ 7 15000 b)∧St H w' σ:=by
 refine Cl.o Tryz.func191 Tryz.ntmps191 ag2 ?_
 refine .af (.z zg (.nil (.af (.z zm ?_))))
 refine .o (.call Tryz.call247 rfl (gv (many:=9) (most:=100000) hs h1) ?_);rintro _ w ⟨b6,rfl,hb6,hs⟩
 refine .z zm ?_
 refine .bif (t':=7) rfl (fun hb7=>?_) (fun hb7=>?_)
 ·refine .gT rfl rfl ?_
  refine .z zm ?_
  refine .gT rfl rfl ?_
  refine .o (.call Tryz.call247 rfl (gv (many:=7) (most:=15000) hs h2) ?_);rintro _ w ⟨b9,rfl,hb9,hs⟩
  refine .z zpT (.z zg (.nil ?_))
  refine .ret (Fin.bI Tryz.results191 rfl ?_)
  exact ⟨_,rfl,by rw [hb9];exact ⟨fun h=>⟨hb6.1 hb7,h⟩,fun h=>h.2⟩,hs⟩
 ·refine .gFs 2 2 true rfl rfl rfl ?_
  refine .z zpF (.z zg (.nil ?_))
  refine .ret (Fin.bI Tryz.results191 rfl ?_)
  exact ⟨_,rfl,⟨fun h=>(by cases h),fun h=>by rw [hb6.2 h.1] at hb7;cases hb7⟩,hs⟩
theorem mF{bx by_:Nat}{x y:Int}(hs:St H w σ)(hx:Row H bx [I x])(hy:Row H by_ [I y]):
  Cl Tryz.prog 279 [.pointer (some ⟨bx,0,none⟩),.pointer (some ⟨by_,0,none⟩)] w fun u w'=>u= .tuple #[I x,I y]∧St H w' σ:=by
 have hx0:=hx.at 0
 have hy0:=hy.at 0
 refine Cl.o Tryz.func279 Tryz.ntmps279 ag2 ?_
 refine .af (.z zg (.z zg (.nil ?_)))
 refine .seq (.draw mix rfl hs fun w hs=>?_)
 refine .y 0 rfl hs ae ?_;refine .y 1 rfl hs ae ?_;refine .z 2 rfl zg ?_;refine .z 3 rfl zg ?_;refine .D hs ?_
 refine .ret (Fin.kK Tryz.results279 rfl rfl ?_)
 exact ⟨rfl,hs⟩
def PrE(X Y:List Int)(p:Nat)(H:bP)(z:List Value):Prop:=
 ∃bx by_,z=[.agg #[I ((p/Y.length:Nat):Int),I ((p%Y.length:Nat):Int)],.func (.func 279) #[] #[.pointer (some ⟨bx,0,none⟩),.pointer (some ⟨by_,0,none⟩)]]∧Row H bx [I (gi X (p/Y.length))]∧Row H by_ [I (gi Y (p%Y.length))]
theorem og{H:bP}{b1 b2:Nat}{v1 v2:Value}{X Y:List Int}(hb1:Row H b1 [v1])(hb2:Row H b2 [v2])(hX:RI H v1 X)(hY:RI H v2 Y)(hXl:X.length≤1000)(hYl:Y.length≤1000):
  Cj Tryz.prog 278 [.pointer (some ⟨b1,0,none⟩),.pointer (some ⟨b2,0,none⟩)] H (X.length*Y.length) (PrE X Y):=by
 intro ly II Ix hmI _ hy H0 σb0 σf w hle hI0 hs
 obtain ⟨a1,c1,rfl⟩:=RI.shape hX
 obtain ⟨a2,c2,rfl⟩:=RI.shape hY
 have h01:cellAt H0 b1 0=some (.slice a1 X.length c1):=cellAt.mono (hb1.at 0) hle
 have h02:cellAt H0 b2 0=some (.slice a2 Y.length c2):=cellAt.mono (hb2.at 0) hle
 refine Cl.o Tryz.func278 Tryz.ntmps278 ag3 ?_
 refine .af (.y hs (zld ak) (.z (c9 ad) (.z zm (.nil ?_))))
 refine .for (N:=X.length) (J:=fun i fr w=>fr=[(8,.slice a1 X.length c1),(0,.func (.yield ly) #[] #[]),(1,.pointer (some ⟨b1,0,none⟩)),(2,.pointer (some ⟨b2,0,none⟩))]∧∃H1 σb,HLe H H1∧HLe H0 H1∧II (i*Y.length) H1 σb∧St H1 w (σb++σf)) aj ?_ ?_ ?_
 ·exact .mk ⟨rfl,H0,σb0,hle,HLe.refl _,by rw [Nat.zero_mul];exact hI0,hs⟩
 ·rintro i fr w hi ⟨rfl,H1,σb,hle1,hle0,hI,hs⟩
  refine .block (.af (.z zm ?_))
  refine .ixY hs (hX.mono hle1) rfl rfl ad ai (bJ (l:=X) (i:=i) aj) dx ?_;intro b13 o13 hc13
  refine .q hs (bh rfl ae hc13) ?_
  refine .o (.alloc hs bM rfl fun b5 w hs=>?_)
  refine .z zg ?_
  refine .o (.store hs rfl rfl ai fun w hs=>?_)
  refine .nil (.af ?_)
  obtain ⟨H2,hle2,r5,hs⟩:=hs.cf (b:=b5) .here
  have h22:=cellAt.mono h02 (hle0.trans hle2)
  refine .y hs (zld ak) (.z (c9 ad) (.z zm (.nil ?_)))
  refine .for (N:=Y.length) (J:=fun k fr w=>fr=[(15,.slice a2 Y.length c2),(4,I (i:Int)),(10,I (i:Int)),(9,I (X.length:Int)),(5,.pointer (some ⟨b5,0,none⟩)),(8,.slice a1 X.length c1),(0,.func (.yield ly) #[] #[]),(1,.pointer (some ⟨b1,0,none⟩)),(2,.pointer (some ⟨b2,0,none⟩))]∧∃H3 σb,HLe H2 H3∧II (i*Y.length+k) H3 σb∧St H3 w (σb++σf)) aj ?_ ?_ ?_
  ·exact .mk ⟨rfl,H2,σb,HLe.refl _,hmI _ _ _ _ hle2 hI,hs⟩
  ·rintro k fr w hk ⟨rfl,H3,σb3,hle3,hI3,hs⟩
   have hle03:=hle0.trans (hle2.trans hle3)
   have hle13:=hle1.trans (hle2.trans hle3)
   refine .block (.af (.z zm ?_))
   refine .ixY hs (hY.mono hle13) rfl rfl ad ai (bJ (l:=Y) (i:=k) aj) dx ?_;intro b20 o20 hc20
   refine .q hs (bh rfl ae hc20) ?_
   refine .o (.alloc hs bM rfl fun b7 w hs=>?_)
   refine .z zg ?_
   refine .o (.store hs rfl rfl ai fun w hs=>?_)
   refine .nil (.af (.z zm (.z zm (.z zm ?_))))
   refine .q hs (BA (vs:=[(0,I (i:Int)),(1,I (k:Int))]) (cells:=[I (i:Int),I (k:Int)]) Tryz.zeroValue90 rfl Tryz.runUnderlying90 ai rfl) ?_
   refine .q hs (cU (f:=[]) (c:=[_,_]) rfl rfl) ?_
   obtain ⟨H4,hle4,r7,hs⟩:=hs.cf (b:=b7) .here
   obtain ⟨d1,d2⟩:=D4 (nw:=Y.length) (i:=i) (k:=k) hk
   have hlt:i*Y.length+k<X.length*Y.length:=by
    have:=Nat.mul_le_mul_right Y.length (show i+1≤X.length by omega)
    rw [Nat.add_mul,Nat.one_mul] at this;omega
   have hyd:=hy (i*Y.length+k) hlt [.agg #[I (i:Int),I (k:Int)],.func (.func 279) #[] #[.pointer (some ⟨b5,0,none⟩),.pointer (some ⟨b7,0,none⟩)]] H4 σb3 σf w (hle13.trans hle4) ⟨b5,b7,by rw [d1,d2],by rw [d1];exact r5.mono (hle3.trans hle4),by rw [d2];exact r7⟩ (hmI _ _ _ _ hle4 hI3) hs
   refine .o (.yield rfl rfl hyd ?_);rintro v27 w ⟨H5,σ5,g1,hs,g3⟩
   obtain ⟨bb,rfl,gT,gF⟩:=np g3
   refine .z iq (.nil ?_)
   refine (.cond rfl (fun hc28=>?_) (fun hc28=>?_))
   ·refine .ret (rB (rT (rB (rB (rT (rB (Fin.Ec Tryz.results278 ?_)))))))
    exact ⟨H5,σ5,hle03.trans (hle4.trans g1),hs,.inr (gF (by simpa using hc28))⟩
   ·refine .skip ?_
    refine nB (nT ?_)
    exact .mk ⟨rfl,H5,σ5,hle3.trans (hle4.trans g1),gT (by simpa using hc28),hs⟩
  ·rintro fr w ⟨rfl,H3,σb3,hle3,hI3,hs⟩
   refine nB (nT ?_)
   exact .mk ⟨rfl,H3,σb3,hle1.trans (hle2.trans hle3),hle0.trans (hle2.trans hle3),by rw [Nat.add_mul,Nat.one_mul];exact hI3,hs⟩
 ·rintro fr w ⟨rfl,H1,σb,hle1,hle0,hI,hs⟩
  exact Fin.wm Tryz.results278 ⟨H1,σb,hle0,hs,.inl hI⟩
theorem qt{v1 v2:Value}{X Y:List Int}(hs:St H w σ)(hX:RI H v1 X)(hY:RI H v2 Y)(hXl:X.length≤1000)(hYl:Y.length≤1000):
  Cl Tryz.prog 249 [v1,v2] w fun u w'=>∃H1 b1 b2,HLe H H1∧u= .func (.func 278) #[] #[.pointer (some ⟨b1,0,none⟩),.pointer (some ⟨b2,0,none⟩)]∧Cj Tryz.prog 278 [.pointer (some ⟨b1,0,none⟩),.pointer (some ⟨b2,0,none⟩)] H1 (X.length*Y.length) (PrE X Y)∧St H1 w' σ:=by
 obtain ⟨a1,c1,rfl⟩:=RI.shape hX
 obtain ⟨a2,c2,rfl⟩:=RI.shape hY
 refine Cl.o Tryz.func249 Tryz.ntmps249 ag2 ?_
 refine .af ?_
 refine .bx hs fun b2 w hs=>?_
 refine .bx hs fun b3 w hs=>?_
 refine .z zg (.nil (.af ?_))
 refine .q hs (cU (f:=[]) (c:=[_,_]) rfl rfl) ?_
 refine .z zg (.nil ?_)
 refine .ret (Fin.bI Tryz.results249 rfl ?_)
 obtain ⟨H1,g1,r1,hs⟩:=hs.cf (b:=b2) dw
 obtain ⟨H2,g2,r2,hs⟩:=hs.cf (b:=b3) dw
 exact ⟨H2,b2,b3,g1.trans g2,rfl,og (r1.mono g2) r2 (hX.mono (g1.trans g2)) (hY.mono (g1.trans g2)) hXl hYl,hs⟩
set_option maxHeartbeats 1000000 in
theorem rb{v1 v2:Value}{l1 l2:List Int}(hs:St H w σ)(hr1:RI H v1 l1)(hr2:RI H v2 l2)(hp1:fZ 9 100000 l1)(hp2:fZ 7 15000 l2):
  Cl Tryz.prog 192 [v1,v2] w fun u w'=>∃H1,HLe H H1∧RT H1 u (oY (wts l1) (wts l2) l1.length)∧St H1 w' σ:=by
 obtain ⟨a1,c1,rfl⟩:=RI.shape hr1
 obtain ⟨a2,c2,rfl⟩:=RI.shape hr2
 have hn1:=hp1.many
 have hn2:=hp2.many
 have htw1:=hp1.two
 have htw2:=hp2.two
 have hp2':fZ 9 100000 l2:=⟨hp2.two,aj,hp2.low,by have:=hp2.high;omega,hp2.rise⟩
 have hXl:=gX l1
 have hYl:=gX l2
 have hXb:=Ct hp1
 have hYb:=Ct hp2
 refine Cl.o Tryz.func192 Tryz.ntmps192 ag2 ?_
 refine .af (.z zg (.nil (.af (.z zm ?_))))
 refine .o (.call Tryz.call248 rfl (ia hs hr1 hp1) ?_);rintro v13 w ⟨H1,hle1,hX,hs⟩
 refine .z zm ?_
 refine .o (.call Tryz.call248 rfl (ia hs (hr2.mono hle1) hp2') ?_);rintro v15 w ⟨H2,hle2,hY,hs⟩
 replace hX:=hX.mono hle2
 generalize wts l1=X at*
 generalize wts l2=Y at*
 obtain ⟨aX,cX,rfl⟩:=RI.shape hX
 obtain ⟨aY,cY,rfl⟩:=RI.shape hY
 refine .z zg (.z zg (.nil (.af (.z zm (.z (c9 ad) ?_)))))
 refine .o (.Ez l1.length hs rfl rfl aA Tryz.typeInfo22 rfl aB dA aj fun b18 w hs=>?_)
 refine .o (.alloc hs Tryz.zeroValue61 rfl fun b7 w hs=>?_)
 refine .o (.store hs rfl rfl Tryz.sizeOf61 fun w hs=>?_)
 refine .nil (.seq (.af (.z zm (.z zm ?_))))
 refine .o (.call Tryz.call249 rfl (qt hs hX hY aj aj) ?_);rintro _ w ⟨H3,bp1,bp2,hle3,rfl,hit,hs⟩
 have hle03:=hle1.trans (hle2.trans hle3)
 have h0:GrS X Y b18 0 0 H3 [.blk b18 (List.replicate l1.length (.slice none 0 0)),.nul]:=by
  refine .go [] (.slice none 0 0) .nul aj (RLs.nil _) (.nil 1 none) ?_
  rw [hXl]
  obtain ⟨m,hm⟩:∃m,l1.length=m+1:=⟨l1.length - 1,aj⟩
  rw [hm]
  rfl
 refine .nil (.block ?_)
 refine .CB (gf:=278) (cap:=[.pointer (some ⟨bp1,0,none⟩),.pointer (some ⟨bp2,0,none⟩)]) (N:=X.length*Y.length) (E:=PrE X Y) (σb:= .blk b7 [.slice (some ⟨b18,0,none⟩) l1.length l1.length]::[.blk b18 (List.replicate l1.length (.slice none 0 0)),.nul]) (σf:=σ) (hs.nul.sb) trivial rfl hit Tryz.call278 (fun k H' z ⟨_,_,hz,_⟩=>by rw [hz];rfl) rfl
  (I:=fun p H' σb=>∃σ1,σb= .blk b7 [.slice (some ⟨b18,0,none⟩) l1.length l1.length]::σ1∧GrS X Y b18 (p/Y.length) (p%Y.length) H' σ1) (Ix:=fun _ _ _=>False)
  (fun j _ _ σ g1 ⟨σ1,g2,g3⟩=>⟨σ1,g2,g3.mono g1⟩) (fun _ _ _ _ _ h=>h) ⟨_,rfl,by rw [Nat.zero_div,Nat.zero_mod];exact h0⟩ ?_ ?_ (fun D c H' σb w _ h _=>h.elim)
 ·rintro ly p hp z H4 σb2 σf2 w hle4 ⟨bx,by_,rfl,rx,ry⟩ ⟨σ1,rfl,hG⟩ hs ⟨rr,hrr⟩
  have hnext:=xy (p:=p) (m:=Y.length) aj
  have hkm:=Nat.mod_lt p (show 0<Y.length by omega)
  have hin:p/Y.length<X.length:=Nat.div_lt_of_lt_mul (by rw [Nat.mul_comm];exact hp)
  generalize hi:p/Y.length=i at*
  generalize hk:p%Y.length=k at*
  cases hG with
  |fin us h=>omega
  |go us v en h h1 h2 h3=>
  subst h3
  obtain ⟨av,lv,cv,rfl,hlv⟩:=h2.shape
  have husl:us.length=i:=by rw [h1.1,mb]
  have hb1:=hXb i
  have hb2:=hYb k
  have hpr:=CP (gi X i) (gi Y k)
  have hprb: -3456000000000≤gi X i*gi Y k∧gi X i*gi Y k≤3456000000000:=l7 (A:=4800000) (B:=720000) (by unfold ab at hb1;omega) (by unfold ab at hb2;omega)
  refine .af ?_
  refine .o (.alloc hs Tryz.zeroValue90 rfl fun b8 w hs=>?_)
  refine .o (.aO (vs:=[_,_]) hs rfl rfl Tryz.sizeOf90 fun w hs=>?_)
  refine .nil (.region (.z zg (.nil ?_)))
  refine nT ?_
  refine ⟨H4,[.blk b8 [I (i:Int),I (k:Int)],.blk b7 [.slice (some ⟨b18,0,none⟩) l1.length l1.length],.blk b18 (us++Value.slice av lv cv::List.replicate (X.length - i - 1) (Value.slice none 0 0)),en],HLe.refl _,hs,?_⟩;rintro w σf4 - hs
  refine .block (.af (.z zm ?_))
  refine .o (.kT (first:=[]) (cap:=[.pointer (some ⟨bx,0,none⟩),.pointer (some ⟨by_,0,none⟩)]) rfl rfl Tryz.call279 (mF hs rx ry) ?_);rintro _ w ⟨rfl,hs⟩
  refine .z zm (.z zex (.z zex (.z zg (.z zg (.nil ?_)))))
  refine .draw mix rfl hs fun w hs=>?_
  refine .y 0 rfl hs m6 ?_
  refine .z 1 rfl (zia 0 Tryz.runUnderlying90 ai) ?_
  refine .y 2 rfl hs ae ?_;refine .y 3 rfl hs m6 ?_
  refine .z 4 rfl (zia 0 Tryz.runUnderlying90 ai) ?_
  refine .y 5 rfl hs ae ?_
  refine .z 6 rfl (iI (k:=i) rfl rfl aA aB rfl aj) ?_
  refine .load (i:=7) hs rfl au .none rfl ak ?_ (hv:=by rw [List.getElem?_append_right aj,husl,Nat.sub_self];rfl)
  refine .z 8 rfl zm ?_;refine .z 9 rfl zm ?_;refine .z 10 rfl kG ?_
  refine .E 11 hs ?_
  refine .buildSlice (cells:=[_]) hs bY rfl rfl ?_;intro b40 w hs
  refine .go ?_
  refine .E 12 hs ?_
  refine .append (ys:=Is [gi X i*gi Y k]) hs bN rfl rfl h2 (.own .here rfl rfl) (fH _) (fun l' h=>by simp at h;omega) ?_;intro v41 en41 w hO hs
  rw [show Is ((yv X Y i).take k)++Is [gi X i*gi Y k]=Is ((yv X Y i).take (k+1)) by rw [zF hkm];simp [Is]] at hO
  obtain ⟨a41,l41,c41,rfl,hl41⟩:=hO.shape
  refine .go ?_
  refine .z 13 rfl (iI (k:=i) rfl rfl aA aB rfl aj) ?_
  refine .E 14 hs ?_
  refine .store (c':=us++ .slice a41 l41 c41::List.replicate (X.length - i - 1) (.slice none 0 0)) hs rfl rfl aB ?_ dw (by simp;omega) (by rw [List.set_append_right _ _ aj,husl,Nat.sub_self];rfl);intro w hs
  refine .go ?_
  refine .D hs ?_
  refine nB ?_
  rcases hnext with ⟨g1,g2,g3⟩|⟨g1,g2,g3⟩
  ·exact ⟨H4,[.blk b7 [.slice (some ⟨b18,0,none⟩) l1.length l1.length],.blk b18 (us++ .slice a41 l41 c41::List.replicate (X.length - i - 1) (.slice none 0 0)),en41],HLe.refl _,(hs.sb:St H4 w (.blk b7 _:: .blk b18 _::en41::σf4)),_,rfl,by rw [g2,g3];exact .go us _ en41 h h1 hO rfl⟩
  ·obtain ⟨H5,hle5,hR,hs⟩:=bS.cV hO (by rw [List.length_take,nz];omega) hs dw
   rw [List.take_of_length_le (by rw [nz];omega)] at hR
   have h1':RLs H5 (us++[.slice a41 l41 c41]) (oY X Y (i+1)):=by rw [yN];exact (h1.mono hle5).snoc hR
   by_cases e:i+1<X.length
   ·refine ⟨H5,[.blk b7 [.slice (some ⟨b18,0,none⟩) l1.length l1.length],.blk b18 (us++ .slice a41 l41 c41::List.replicate (X.length - i - 1) (.slice none 0 0)),.nul],hle5,(hs.nul.sb:St H5 w (.blk b7 _:: .blk b18 _:: .nul::σf4)),_,rfl,?_⟩
    rw [g2,g3]
    refine .go (us++[.slice a41 l41 c41]) (.slice none 0 0) .nul e h1' (.nil 1 none) ?_
    obtain ⟨m,hm⟩:∃m,X.length - i - 1=m+1:=⟨X.length - i - 2,aj⟩
    rw [hm,show X.length - (i+1) - 1=m by omega,List.append_assoc]
    rfl
   ·refine ⟨H5,[.blk b7 [.slice (some ⟨b18,0,none⟩) l1.length l1.length],.blk b18 (us++ .slice a41 l41 c41::List.replicate (X.length - i - 1) (.slice none 0 0))],hle5,(hs.sb:St H5 w (.blk b7 _:: .blk b18 _::σf4)),_,rfl,?_⟩
    rw [g2,g3]
    refine .fin (us++[.slice a41 l41 c41]) aj h1' ?_
    rw [show X.length - i - 1=0 by omega]
    rfl
 ·rintro D H4 σb2 w hle4 ⟨σ1,rfl,hG⟩ hs
  rw [Nat.mul_div_cancel _ aj,Nat.mul_mod_left] at hG
  cases hG with
  |go us v en h=>omega
  |fin us h h1 h3=>
  subst h3
  replace hs:St H4 w (.obj D (.deferred (some [])):: .blk b7 [.slice (some ⟨b18,0,none⟩) l1.length l1.length]:: .blk b18 us::σ):=hs
  have husl:us.length=l1.length:=by rw [h1.1,mb,hXl]
  refine nB (nT ?_)
  refine .af (.y hs (zld m6) (.z zg (.nil ?_)))
  refine .ret ?_
  obtain ⟨H5,hle5,hR,hs⟩:=h1.cf (v:= .slice (some ⟨b18,0,none⟩) l1.length l1.length) (en:= .blk b18 us) (.full (by simp [husl])) aj hs dw
  rw [hXl] at hR
  exact Fin.gI [D] [] hs fun w hs=>⟨_,results1 Tryz.results192 rfl,H5,hle03.trans (hle4.trans hle5),hR,hs.out⟩
theorem lO{v1 v2:Value}{l1 l2:List Int}(hs:St H w σ)(hr1:RI H v1 l1)(hr2:RI H v2 l2):
  Cl Tryz.prog 104 [v1,v2] w fun u w'=>∃H1 vo e,HLe H H1∧u= .tuple #[vo,I e]∧(fZ 9 100000 l1∧fZ 7 15000 l2→e=0∧RT H1 vo (oY (wts l1) (wts l2) l1.length))∧(e=0→fZ 9 100000 l1∧fZ 7 15000 l2)∧St H1 w' σ:=by
 refine Cl.o Tryz.func104 Tryz.ntmps104 ag2 ?_
 refine .af (.z zg (.z zg (.nil (.seq (.af (.z zm (.z zm ?_)))))))
 refine .o (.call Tryz.call191 rfl (pG hs hr1 hr2) ?_);rintro _ w ⟨b8,rfl,hb8,hs⟩
 refine .z iq (.nil ?_)
 refine (.cond rfl (fun hc9=>?_) (fun hc9=>?_))
 ·refine .af (.z zg (.z zg (.nil ?_)))
  refine .ret (rT (Fin.kK Tryz.results104 rfl rfl ?_))
  exact ⟨H,_,_,HLe.refl H,rfl,fun h=>(by rw [hb8.2 h] at hc9;cases hc9),fun h=>aj,hs⟩
 ·refine .skip ?_
  refine nT ?_
  refine .af (.z zm (.z zm ?_))
  have hp:=hb8.1 (by simpa using hc9)
  refine .o (.call Tryz.call192 rfl (rb hs hr1 hr2 hp.1 hp.2) ?_);rintro v12 w ⟨H1,hle1,hR,hs⟩
  refine .z zg (.z zg (.nil ?_))
  refine .ret (Fin.kK Tryz.results104 rfl rfl ?_)
  exact ⟨H1,_,_,hle1,rfl,fun _=>⟨rfl,hR⟩,fun _=>hp,hs⟩
end Go.Proofs.YtddaejgfjlneoaaGreat
