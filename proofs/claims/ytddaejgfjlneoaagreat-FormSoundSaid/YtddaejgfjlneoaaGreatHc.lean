/-
  Texts of these claims, joined: Opn Opb Opm Opz Cls Fct Wa Wb Wc Wd We Wf Wg Wh Wp Wt Wu Wy Xd Xf Xi Xj Xn Srt Yc Yd Ye Yf Yq Za.
-/
import Derived.Test.YtddaejgfjlneoaaGreatHb
import Derived.Test.YtddaejgfjlneoaaGreatProg
import Derived.KernelRfl
import Derived.RowKit
import Derived.JoinedOf
import Derived.Shelf.Sort.Plain
import Derived.Shelf.Slices.CompactI
import Derived.Shelf.Slices.In.SortNone
import Derived.Lib.RowBridge
namespace Go.Proofs.YtddaejgfjlneoaaGreat
theorem fo:type_of% @Tryz.call100:=@Tryz.call100
theorem sS:type_of% @Tryz.call103:=@Tryz.call103
theorem cZ:type_of% @Tryz.call105:=@Tryz.call105
theorem F8:type_of% @Tryz.call114:=@Tryz.call114
theorem sR:type_of% @Tryz.call115:=@Tryz.call115
theorem nE:type_of% @Tryz.call121:=@Tryz.call121
theorem F7:type_of% @Tryz.call138:=@Tryz.call138
theorem F6:type_of% @Tryz.call139:=@Tryz.call139
theorem nD:type_of% @Tryz.call161:=@Tryz.call161
theorem sQ:type_of% @Tryz.call190:=@Tryz.call190
theorem zG:type_of% @Tryz.call221:=@Tryz.call221
theorem dh:type_of% @Tryz.call31:=@Tryz.call31
theorem qz:type_of% @Tryz.call42:=@Tryz.call42
theorem vH:type_of% @Tryz.call83:=@Tryz.call83
theorem CR:type_of% @Tryz.call86:=@Tryz.call86
theorem vG:type_of% @Tryz.call92:=@Tryz.call92
theorem Er:type_of% @Tryz.isAgg108:=@Tryz.isAgg108
theorem fZ:type_of% @Tryz.isAgg111:=@Tryz.isAgg111
theorem dc:type_of% @Tryz.isAgg113:=@Tryz.isAgg113
theorem jJ:type_of% @Tryz.isAgg140:=@Tryz.isAgg140
theorem eb:type_of% @Tryz.isAgg160:=@Tryz.isAgg160
theorem pV:type_of% @Tryz.isAgg170:=@Tryz.isAgg170
theorem eK:type_of% @Tryz.isAgg182:=@Tryz.isAgg182
theorem fY:type_of% @Tryz.isAgg189:=@Tryz.isAgg189
theorem pU:type_of% @Tryz.isAgg211:=@Tryz.isAgg211
theorem ak:type_of% @Tryz.isAgg22:=@Tryz.isAgg22
theorem pT:type_of% @Tryz.isAgg236:=@Tryz.isAgg236
theorem bS:type_of% @Tryz.isAgg29:=@Tryz.isAgg29
theorem ae:type_of% @Tryz.isAgg3:=@Tryz.isAgg3
theorem aM:type_of% @Tryz.isAgg34:=@Tryz.isAgg34
theorem cz:type_of% @Tryz.isAgg35:=@Tryz.isAgg35
theorem kL:type_of% @Tryz.isAgg36:=@Tryz.isAgg36
theorem aJ:type_of% @Tryz.isAgg38:=@Tryz.isAgg38
theorem l9:type_of% @Tryz.isAgg4:=@Tryz.isAgg4
theorem cW:type_of% @Tryz.isAgg44:=@Tryz.isAgg44
theorem cP:type_of% @Tryz.isAgg49:=@Tryz.isAgg49
theorem F3:type_of% @Tryz.isAgg51:=@Tryz.isAgg51
theorem gZ:type_of% @Tryz.isAgg61:=@Tryz.isAgg61
theorem fX:type_of% @Tryz.isAgg63:=@Tryz.isAgg63
theorem bU:type_of% @Tryz.isAgg68:=@Tryz.isAgg68
theorem a8:type_of% @Tryz.isAgg70:=@Tryz.isAgg70
theorem eh:type_of% @Tryz.isAgg80:=@Tryz.isAgg80
theorem lQ:type_of% @Tryz.results107:=@Tryz.results107
theorem rn:type_of% @Tryz.results108:=@Tryz.results108
theorem lP:type_of% @Tryz.results109:=@Tryz.results109
theorem nC:type_of% @Tryz.results20:=@Tryz.results20
theorem zM:type_of% @Tryz.results202:=@Tryz.results202
theorem rm:type_of% @Tryz.results206:=@Tryz.results206
theorem gC:type_of% @Tryz.results22:=@Tryz.results22
theorem zL:type_of% @Tryz.results220:=@Tryz.results220
theorem lO:type_of% @Tryz.results232:=@Tryz.results232
theorem zK:type_of% @Tryz.results247:=@Tryz.results247
theorem th:type_of% @Tryz.results41:=@Tryz.results41
theorem ke:type_of% @Tryz.results42:=@Tryz.results42
theorem nA:type_of% @Tryz.results46:=@Tryz.results46
theorem gz:type_of% @Tryz.results71:=@Tryz.results71
theorem tg:type_of% @Tryz.results76:=@Tryz.results76
theorem gE:type_of% @Tryz.runUnderlying106:=@Tryz.runUnderlying106
theorem gD:type_of% @Tryz.runUnderlying108:=@Tryz.runUnderlying108
theorem bF:type_of% @Tryz.runUnderlying111:=@Tryz.runUnderlying111
theorem Bq:type_of% @Tryz.runUnderlying130:=@Tryz.runUnderlying130
theorem Bp:type_of% @Tryz.runUnderlying140:=@Tryz.runUnderlying140
theorem Bo:type_of% @Tryz.runUnderlying158:=@Tryz.runUnderlying158
theorem oL:type_of% @Tryz.runUnderlying160:=@Tryz.runUnderlying160
theorem Bn:type_of% @Tryz.runUnderlying172:=@Tryz.runUnderlying172
theorem az:type_of% @Tryz.runUnderlying182:=@Tryz.runUnderlying182
theorem oK:type_of% @Tryz.runUnderlying189:=@Tryz.runUnderlying189
theorem oJ:type_of% @Tryz.runUnderlying199:=@Tryz.runUnderlying199
theorem ad:type_of% @Tryz.runUnderlying22:=@Tryz.runUnderlying22
theorem Bm:type_of% @Tryz.runUnderlying231:=@Tryz.runUnderlying231
theorem dZ:type_of% @Tryz.runUnderlying233:=@Tryz.runUnderlying233
theorem ft:type_of% @Tryz.runUnderlying25:=@Tryz.runUnderlying25
theorem dY:type_of% @Tryz.runUnderlying250:=@Tryz.runUnderlying250
theorem Bl:type_of% @Tryz.runUnderlying259:=@Tryz.runUnderlying259
theorem CQ:type_of% @Tryz.runUnderlying27:=@Tryz.runUnderlying27
theorem CP:type_of% @Tryz.runUnderlying29:=@Tryz.runUnderlying29
theorem aV:type_of% @Tryz.runUnderlying3:=@Tryz.runUnderlying3
theorem kd:type_of% @Tryz.runUnderlying34:=@Tryz.runUnderlying34
theorem aK:type_of% @Tryz.runUnderlying35:=@Tryz.runUnderlying35
theorem cf:type_of% @Tryz.runUnderlying36:=@Tryz.runUnderlying36
theorem CO:type_of% @Tryz.runUnderlying38:=@Tryz.runUnderlying38
theorem kc:type_of% @Tryz.runUnderlying44:=@Tryz.runUnderlying44
theorem fq:type_of% @Tryz.runUnderlying49:=@Tryz.runUnderlying49
theorem aO:type_of% @Tryz.runUnderlying51:=@Tryz.runUnderlying51
theorem aq:type_of% @Tryz.runUnderlying61:=@Tryz.runUnderlying61
theorem aI:type_of% @Tryz.runUnderlying68:=@Tryz.runUnderlying68
theorem fp:type_of% @Tryz.runUnderlying80:=@Tryz.runUnderlying80
theorem tf:type_of% @Tryz.sizeOf106:=@Tryz.sizeOf106
theorem dx:type_of% @Tryz.sizeOf108:=@Tryz.sizeOf108
theorem bp:type_of% @Tryz.sizeOf113:=@Tryz.sizeOf113
theorem cq:type_of% @Tryz.sizeOf140:=@Tryz.sizeOf140
theorem kb:type_of% @Tryz.sizeOf158:=@Tryz.sizeOf158
theorem aR:type_of% @Tryz.sizeOf160:=@Tryz.sizeOf160
theorem te:type_of% @Tryz.sizeOf182:=@Tryz.sizeOf182
theorem aF:type_of% @Tryz.sizeOf189:=@Tryz.sizeOf189
theorem aC:type_of% @Tryz.sizeOf22:=@Tryz.sizeOf22
theorem ea:type_of% @Tryz.sizeOf220:=@Tryz.sizeOf220
theorem ka:type_of% @Tryz.sizeOf236:=@Tryz.sizeOf236
theorem wR:type_of% @Tryz.sizeOf25:=@Tryz.sizeOf25
theorem bj:type_of% @Tryz.sizeOf29:=@Tryz.sizeOf29
theorem af:type_of% @Tryz.sizeOf3:=@Tryz.sizeOf3
theorem aE:type_of% @Tryz.sizeOf34:=@Tryz.sizeOf34
theorem wQ:type_of% @Tryz.sizeOf35:=@Tryz.sizeOf35
theorem aD:type_of% @Tryz.sizeOf38:=@Tryz.sizeOf38
theorem nz:type_of% @Tryz.sizeOf4:=@Tryz.sizeOf4
theorem aS:type_of% @Tryz.sizeOf44:=@Tryz.sizeOf44
theorem bk:type_of% @Tryz.sizeOf49:=@Tryz.sizeOf49
theorem Ep:type_of% @Tryz.sizeOf61:=@Tryz.sizeOf61
theorem cK:type_of% @Tryz.sizeOf63:=@Tryz.sizeOf63
theorem lF:type_of% @Tryz.sizeOf68:=@Tryz.sizeOf68
theorem aH:type_of% @Tryz.sizeOf70:=@Tryz.sizeOf70
theorem aW:type_of% @Tryz.sizeOf80:=@Tryz.sizeOf80
theorem xO:type_of% @Tryz.typeInfo189:=@Tryz.typeInfo189
theorem eM:type_of% @Tryz.typeInfo3:=@Tryz.typeInfo3
theorem jr:type_of% @Tryz.underlying130:=@Tryz.underlying130
theorem vF:type_of% @Tryz.underlying25:=@Tryz.underlying25
theorem jL:type_of% @Tryz.underlying27:=@Tryz.underlying27
theorem ff:type_of% @Tryz.underlying3:=@Tryz.underlying3
theorem pR:type_of% @Tryz.underlying4:=@Tryz.underlying4
theorem ny:type_of% @Tryz.zeroValue108:=@Tryz.zeroValue108
theorem dV:type_of% @Tryz.zeroValue113:=@Tryz.zeroValue113
theorem gY:type_of% @Tryz.zeroValue140:=@Tryz.zeroValue140
theorem gX:type_of% @Tryz.zeroValue158:=@Tryz.zeroValue158
theorem db:type_of% @Tryz.zeroValue160:=@Tryz.zeroValue160
theorem dH:type_of% @Tryz.zeroValue189:=@Tryz.zeroValue189
theorem dD:type_of% @Tryz.zeroValue22:=@Tryz.zeroValue22
theorem vE:type_of% @Tryz.zeroValue220:=@Tryz.zeroValue220
theorem F2:type_of% @Tryz.zeroValue231:=@Tryz.zeroValue231
theorem xL:type_of% @Tryz.zeroValue29:=@Tryz.zeroValue29
theorem bE:type_of% @Tryz.zeroValue3:=@Tryz.zeroValue3
theorem iH:type_of% @Tryz.zeroValue34:=@Tryz.zeroValue34
theorem fc:type_of% @Tryz.zeroValue38:=@Tryz.zeroValue38
theorem dN:type_of% @Tryz.zeroValue44:=@Tryz.zeroValue44
theorem kK:type_of% @Tryz.zeroValue49:=@Tryz.zeroValue49
theorem iG:type_of% @Tryz.zeroValue63:=@Tryz.zeroValue63
theorem dC:type_of% @Tryz.zeroValue70:=@Tryz.zeroValue70
theorem ew:type_of% @Tryz.zeroValue80:=@Tryz.zeroValue80
end Go.Proofs.YtddaejgfjlneoaaGreat
namespace Go.Proofs.YtddaejgfjlneoaaGreat
open Go.MW Go.ChangeShapes Go.WideShapes
set_option maxRecDepth 100000
theorem wF:Tryz.prog.cellsOf 3=1:=by kernel_rfl
theorem Dd:Tryz.prog.cellsOf 22=1:=by kernel_rfl
theorem FR:Tryz.prog.bytesOf 3=8:=by kernel_rfl
theorem xW:reachBytes=140737488351232:=rfl
section
variable{H:Type}{enc:TypeId×Value→H}{w:World}{sp:Nat→Bool}{held:Bool}{n:Nat}{cs:List Value}{y:DataW H×List MemPlace}{v:Value}{d:DataW H}{p:List MemPlace}{r:Reach}{base:Nat}
theorem C2(hw:Wt Tryz.prog 22 y.1)(h:DataW.trod enc Tryz.prog w 0 sp held n 22 cs=some y):∃v xs,cs=[v]∧RI (hp w) v xs∧IsIn xs:=by
 obtain ⟨v,xs,h1,h2,h3,h4⟩:=Dt Tryz.underlying22 ff wF hw h
 rw [FR,xW] at h3
 exact ⟨v,xs,h1,h2,aj,h4⟩
end
end Go.Proofs.YtddaejgfjlneoaaGreat
namespace Go.Proofs.YtddaejgfjlneoaaGreat
open Go.MW Go.ChangeShapes Go.WideShapes
set_option maxRecDepth 100000
theorem c_3:Tryz.prog.cellsOf 25=3:=by kernel_rfl
theorem b_3:Tryz.prog.bytesOf 25=24:=by kernel_rfl
section
variable{H:Type}{enc:TypeId×Value→H}{w:World}{sp:Nat→Bool}{held:Bool}{n:Nat}{cs:List Value}{y:DataW H×List MemPlace}{v:Value}{d:DataW H}{p:List MemPlace}{r:Reach}{base:Nat}
theorem EV(hw:Wt Tryz.prog 128 y.1)(h:DataW.trod enc Tryz.prog w 0 sp held n 128 cs=some y):∃(v:Value) (ls:List Tri),cs=[v]∧RS (hp w) 3 v (ls.map Tri.v)∧ls.length≤17592186043904:=by
 obtain ⟨v,zs,h1,h2,h9,h3⟩:=w7 (k:=3) Tryz.underlying128 vF ff wF fD c_3 hw h
 obtain ⟨ls,h4⟩:=Gb h3
 rw [b_3,xW] at h9
 have h6:zs.length=ls.length:=by have:=congrArg List.length h4;simpa using this
 exact ⟨v,ls,h1,by rw [←h4];exact h2,aj⟩
end
end Go.Proofs.YtddaejgfjlneoaaGreat
namespace Go.Proofs.YtddaejgfjlneoaaGreat
open Go.MW Go.ChangeShapes Go.WideShapes
set_option maxRecDepth 100000
theorem CI:Tryz.prog.cellsOf 23=1:=by kernel_rfl
theorem CH:Tryz.prog.cellsOf 24=1:=by kernel_rfl
theorem c_53:Tryz.prog.cellsOf 106=5:=by kernel_rfl
theorem c_43:Tryz.prog.cellsOf 199=4:=by kernel_rfl
theorem E9:Tryz.prog.cellsOf 25=3:=by kernel_rfl
theorem D4:Tryz.prog.cellsOf 27=7:=by kernel_rfl
theorem Gc{α:Type}{l:List α}(h:l.length=7):∃a b c d e f g,l=[a,b,c,d,e,f,g]:=by match l,h with|[a,b,c,d,e,f,g],_=>exact ⟨a,b,c,d,e,f,g,rfl⟩
theorem Da:∀{zs:List (List Int)},(∀z∈zs,z.length=5∧∀y∈z,I64 y)→∃ls:List F5,zs.map Is=ls.map F5.v
 |[],_=>⟨[],rfl⟩
 |z::zs,h=>by
  obtain ⟨ls,h1⟩:=Da (fun c hc=>h c (.tail _ hc))
  obtain ⟨h3,_⟩:=h z (.head _)
  match z,h3 with
  |[a,b,c,d,e],_=>exact ⟨⟨a,b,c,d,e⟩::ls,by rw [List.map_cons,h1];rfl⟩
theorem C9:∀{zs:List (List Int)},(∀z∈zs,z.length=4∧∀y∈z,I64 y)→∃ls:List F4,zs.map Is=ls.map F4.v
 |[],_=>⟨[],rfl⟩
 |z::zs,h=>by
  obtain ⟨ls,h1⟩:=C9 (fun c hc=>h c (.tail _ hc))
  obtain ⟨h3,_⟩:=h z (.head _)
  match z,h3 with
  |[a,b,c,d],_=>exact ⟨⟨a,b,c,d⟩::ls,by rw [List.map_cons,h1];rfl⟩
structure Em where
 sp:List Int
 rs:List F5
 cs:List F4
 pk:List Int
 x:Int
 y:Int
 z:Int
def Bf(H:bJ)(v:Value)(r:Em):Prop:=∃vs v5 v4 vp,v= .agg #[vs,v5,v4,vp,I r.x,I r.y,I r.z]∧RI H vs r.sp∧RF5 H v5 r.rs∧RF4 H v4 r.cs∧RI H vp r.pk
section
variable{H:Type}{enc:TypeId×Value→H}{w:World}{sp:Nat→Bool}{held:Bool}{n:Nat}{cs:List Value}{y:DataW H×List MemPlace}{v:Value}{d:DataW H}{p:List MemPlace}{r:Reach}{base:Nat}
theorem Cg(hw:Wt Tryz.prog 23 y.1)(h:DataW.trod enc Tryz.prog w 0 sp held n 23 cs=some y):∃(v:Value) (ls:List F5),cs=[v]∧RF5 (hp w) v ls:=by
 obtain ⟨v,zs,h1,h2,_,h3⟩:=w7 (k:=5) Tryz.underlying23 Tryz.underlying106 ff wF fD c_53 hw h
 obtain ⟨ls,h4⟩:=Da h3
 exact ⟨v,ls,h1,by unfold RF5;rw [←h4];exact h2⟩
theorem Cf(hw:Wt Tryz.prog 24 y.1)(h:DataW.trod enc Tryz.prog w 0 sp held n 24 cs=some y):∃(v:Value) (ls:List F4),cs=[v]∧RF4 (hp w) v ls:=by
 obtain ⟨v,zs,h1,h2,_,h3⟩:=w7 (k:=4) Tryz.underlying24 Tryz.underlying199 ff wF fD c_43 hw h
 obtain ⟨ls,h4⟩:=C9 h3
 exact ⟨v,ls,h1,by unfold RF4;rw [←h4];exact h2⟩
theorem tD(hv:Value.okWide Tryz.prog w r base 27 v)(h:DataW.Trod enc Tryz.prog w 0 sp held 27 v d p)(hw:Wt Tryz.prog 27 d):∃q:Em,Bf (hp w) v q∧True:=by
 obtain ⟨cs,n,rfl,hn,_⟩:=tP jL hv h
 obtain ⟨ys,m,_,e,hlen,hyl,hg⟩:=DataW.trod_struct jL hn
 cases e
 rw [D4] at hlen
 obtain ⟨c0,c1,c2,c3,c4,c5,c6,rfl⟩:=Gc hlen
 obtain ⟨_,h0,k0⟩:=fld hg hyl 0 rfl rfl rfl Dd jL hw
 obtain ⟨_,h1,k1⟩:=fld hg hyl 1 rfl rfl rfl CI jL hw
 obtain ⟨_,h2,k2⟩:=fld hg hyl 2 rfl rfl rfl CH jL hw
 obtain ⟨_,h3,k3⟩:=fld hg hyl 3 rfl rfl rfl Dd jL hw
 obtain ⟨_,h4,k4⟩:=fld hg hyl 4 rfl rfl rfl E9 jL hw
 obtain ⟨v0,s0,e0,r0,i0⟩:=C2 k0 h0
 obtain ⟨v1,l1,e1,r1⟩:=Cg k1 h1
 obtain ⟨v2,l2,e2,r2⟩:=Cf k2 h2
 obtain ⟨v3,s3,e3,r3,i3⟩:=C2 k3 h3
 obtain ⟨xs,g1,g2,g3⟩:=ru vF ff wF E9 h4
 obtain ⟨a,b,c,rfl⟩:=FO g1
 cases e0;cases e1;cases e2;cases e3;cases g2
 exact ⟨⟨s0,l1,l2,s3,a,b,c⟩,⟨_,_,_,_,rfl,r0,r1,r2,r3⟩,trivial⟩
theorem xh(hv:Value.okWide Tryz.prog w r base 25 v)(h:DataW.Trod enc Tryz.prog w 0 sp held 25 v d p)(_:Wt Tryz.prog 25 d):∃x:Int×Int×Int,v= .agg #[I x.1,I x.2.1,I x.2.2]∧True:=by
 obtain ⟨cs,n,rfl,hn⟩:=D8 vF hv h
 obtain ⟨xs,h1,rfl,h3⟩:=ru vF ff wF E9 hn
 obtain ⟨a,b,c,rfl⟩:=FO h1
 exact ⟨⟨a,b,c⟩,rfl,trivial⟩
end
end Go.Proofs.YtddaejgfjlneoaaGreat
namespace Go.Proofs.YtddaejgfjlneoaaGreat
open Go.MW Go.ChangeShapes Go.WideShapes
set_option maxRecDepth 100000
theorem De:Tryz.prog.cellsOf 4=1:=by kernel_rfl
theorem E8:Tryz.prog.cellsOf 130=7:=by kernel_rfl
theorem D2:Tryz.prog.cellsOf 128=1:=by kernel_rfl
structure Ft where
 a:Int
 b:Int
 c:Int
 high:Bool
 n:Int
 near:Bool
 ch:List Tri
def Ef(H:bJ)(v:Value)(c:Ft):Prop:=∃u,v= .agg #[I c.a,I c.b,I c.c,.bool c.high,I c.n,.bool c.near,u]∧RS H 3 u (c.ch.map Tri.v)
section
variable{H:Type}{enc:TypeId×Value→H}{w:World}{sp:Nat→Bool}{held:Bool}{n:Nat}{cs:List Value}{y:DataW H×List MemPlace}{v:Value}{d:DataW H}{p:List MemPlace}{r:Reach}{base:Nat}
theorem Av(hv:Value.okWide Tryz.prog w r base 130 v)(h:DataW.Trod enc Tryz.prog w 0 sp held 130 v d p)(hw:Wt Tryz.prog 130 d):∃c:Ft,Ef (hp w) v c∧True:=by
 obtain ⟨cs,n,rfl,hn,_⟩:=tP jr hv h
 obtain ⟨ys,m,_,e,hlen,hyl,hg⟩:=DataW.trod_struct jr hn
 cases e
 rw [E8] at hlen
 obtain ⟨c0,c1,c2,c3,c4,c5,c6,rfl⟩:=Gc hlen
 obtain ⟨_,h0,k0⟩:=fld hg hyl 0 rfl rfl rfl E9 jr hw
 obtain ⟨_,h1,k1⟩:=fld hg hyl 1 rfl rfl rfl De jr hw
 obtain ⟨_,h2,k2⟩:=fld hg hyl 2 rfl rfl rfl wF jr hw
 obtain ⟨_,h3,k3⟩:=fld hg hyl 3 rfl rfl rfl De jr hw
 obtain ⟨_,h4,k4⟩:=fld hg hyl 4 rfl rfl rfl D2 jr hw
 obtain ⟨xs,g1,e0,g3⟩:=ru vF ff wF E9 h0
 obtain ⟨a,b,c,rfl⟩:=FO g1
 obtain ⟨hh,e1,_⟩:=DataW.trod_bool pR h1
 obtain ⟨x,e2,_⟩:=zS ff h2
 obtain ⟨nn,e3,_⟩:=DataW.trod_bool pR h3
 obtain ⟨u,ls,e4,r4,_⟩:=EV k4 h4
 cases e0;cases e1;cases e2;cases e3;cases e4
 exact ⟨⟨a,b,c,hh,x,nn,ls⟩,⟨_,rfl,r4⟩,trivial⟩
end
end Go.Proofs.YtddaejgfjlneoaaGreat
namespace Go.Proofs.YtddaejgfjlneoaaGreat
theorem A7:Tryz.prog.make=some .cut:=by kernel_rfl
theorem yM:Tryz.prog.mayEnter=true:=by kernel_rfl
theorem yJ:Tryz.prog.liftsFinal=false:=by kernel_rfl
theorem A8:Tryz.prog.plainKeys=true:=by kernel_rfl
theorem uX:laidOutB Tryz.prog=true:=by kernel_rfl
theorem A6:mapsRowed Tryz.prog=true:=by kernel_rfl
theorem yL:Tryz.prog.stopsHeard=true:=by kernel_rfl
theorem yI:Tryz.prog.stops=[]:=by kernel_rfl
theorem yK:Tryz.prog.stopKnobs=[]:=by kernel_rfl
theorem ig{a b:Bool}(h:a=true)(k:b=true):(a&&b)=true:=by rw [h,k];rfl
theorem Bs{α:Type}[BEq α][LawfulBEq α]{a b:α}(h:a=b):(a==b)=true:=by rw [h];exact beq_self_eq_true _
theorem Dc:ownKnob Tryz.prog.godebug=none:=by kernel_rfl
end Go.Proofs.YtddaejgfjlneoaaGreat
namespace Go.Proofs.YtddaejgfjlneoaaGreat
open Go.MW
theorem mix:Tryz.prog.follows .mixedOrders=true:=by kernel_rfl
theorem mC:FA Tryz.prog 27 0 0:=by
 have h:=fV (k:=0) CQ rfl aC
 exact h
theorem gq:FA Tryz.prog 27 1 1:=by
 have h:=fV (k:=1) CQ rfl Tryz.sizeOf23
 exact h
theorem jk:FA Tryz.prog 27 2 2:=by
 have h:=fV (k:=2) CQ rfl Tryz.sizeOf24
 exact h
theorem mB:FA Tryz.prog 27 3 3:=by
 have h:=fV (k:=3) CQ rfl aC
 exact h
theorem pz:FA Tryz.prog 29 0 0:=by
 have h:=fV (k:=0) CP rfl af
 exact h
theorem fC:FA Tryz.prog 29 1 1:=by
 have h:=fV (k:=1) CP rfl af
 exact h
theorem dS:FA Tryz.prog 29 2 2:=by
 have h:=fV (k:=2) CP rfl af
 exact h
theorem lB:FA Tryz.prog 32 0 0:=by
 have h:=fV (k:=0) Tryz.runUnderlying32 rfl af
 exact h
theorem lA:FA Tryz.prog 32 1 1:=by
 have h:=fV (k:=1) Tryz.runUnderlying32 rfl af
 exact h
theorem s7:FA Tryz.prog 34 0 0:=by
 have h:=fV (k:=0) kd rfl af
 exact h
theorem c8:FA Tryz.prog 34 1 1:=by
 have h:=fV (k:=1) kd rfl af
 exact h
theorem bB:FA Tryz.prog 34 2 2:=by
 have h:=fV (k:=2) kd rfl aC
 exact h
theorem br:FA Tryz.prog 34 3 3:=by
 have h:=fV (k:=3) kd rfl aC
 exact h
theorem fa:FA Tryz.prog 34 4 4:=by
 have h:=fV (k:=4) kd rfl Tryz.sizeOf32
 exact h
theorem aN:FA Tryz.prog 38 0 0:=by
 have h:=fV (k:=0) CO rfl aE
 exact h
theorem bn:FA Tryz.prog 38 1 6:=by
 have h:=fV (k:=1) CO rfl wQ
 exact h
theorem cV:FA Tryz.prog 38 2 7:=by
 have h:=fV (k:=2) CO rfl Tryz.sizeOf36
 exact h
theorem gL:FA Tryz.prog 44 0 0:=by
 have h:=fV (k:=0) kc rfl af
 exact h
theorem fL:FA Tryz.prog 44 1 1:=by
 have h:=fV (k:=1) kc rfl af
 exact h
theorem lM:FA Tryz.prog 49 0 0:=by
 have h:=fV (k:=0) fq rfl af
 exact h
theorem ju:FA Tryz.prog 49 1 1:=by
 have h:=fV (k:=1) fq rfl af
 exact h
theorem dT:FA Tryz.prog 63 0 0:=by
 have h:=fV (k:=0) Tryz.runUnderlying63 rfl Ep
 exact h
theorem bw:FA Tryz.prog 70 0 0:=by
 have h:=fV (k:=0) Tryz.runUnderlying70 rfl af
 exact h
theorem bu:FA Tryz.prog 70 1 1:=by
 have h:=fV (k:=1) Tryz.runUnderlying70 rfl lF
 exact h
theorem eR:FA Tryz.prog 80 0 0:=by
 have h:=fV (k:=0) fp rfl af
 exact h
theorem eQ:FA Tryz.prog 80 1 1:=by
 have h:=fV (k:=1) fp rfl af
 exact h
theorem eP:FA Tryz.prog 80 2 2:=by
 have h:=fV (k:=2) fp rfl af
 exact h
theorem dM:FA Tryz.prog 80 3 3:=by
 have h:=fV (k:=3) fp rfl af
 exact h
theorem cm:FA Tryz.prog 80 4 4:=by
 have h:=fV (k:=4) fp rfl af
 exact h
theorem eg:FA Tryz.prog 80 5 5:=by
 have h:=fV (k:=5) fp rfl af
 exact h
theorem ef:FA Tryz.prog 80 6 6:=by
 have h:=fV (k:=6) fp rfl af
 exact h
theorem fK:FA Tryz.prog 108 0 0:=by
 have h:=fV (k:=0) gD rfl af
 exact h
theorem jx:FA Tryz.prog 108 1 1:=by
 have h:=fV (k:=1) gD rfl af
 exact h
theorem jw:FA Tryz.prog 108 2 2:=by
 have h:=fV (k:=2) gD rfl af
 exact h
theorem gP:FA Tryz.prog 108 3 3:=by
 have h:=fV (k:=3) gD rfl af
 exact h
theorem jv:FA Tryz.prog 108 4 4:=by
 have h:=fV (k:=4) gD rfl af
 exact h
theorem gO:FA Tryz.prog 108 5 5:=by
 have h:=fV (k:=5) gD rfl af
 exact h
theorem fb:FA Tryz.prog 113 0 0:=by
 have h:=fV (k:=0) Tryz.runUnderlying113 rfl af
 exact h
theorem cO:FA Tryz.prog 113 1 1:=by
 have h:=fV (k:=1) Tryz.runUnderlying113 rfl Tryz.sizeOf111
 exact h
theorem mF:FA Tryz.prog 130 0 0:=by
 have h:=fV (k:=0) Bq rfl wR
 exact h
theorem dX:FA Tryz.prog 130 1 3:=by
 have h:=fV (k:=1) Bq rfl nz
 exact h
theorem mE:FA Tryz.prog 130 2 4:=by
 have h:=fV (k:=2) Bq rfl af
 exact h
theorem mD:FA Tryz.prog 130 4 6:=by
 have h:=fV (k:=4) Bq rfl Tryz.sizeOf128
 exact h
theorem eU:FA Tryz.prog 140 0 0:=by
 have h:=fV (k:=0) Bp rfl aH
 exact h
theorem jj:FA Tryz.prog 140 1 2:=by
 have h:=fV (k:=1) Bp rfl aC
 exact h
theorem dW:FA Tryz.prog 140 2 3:=by
 have h:=fV (k:=2) Bp rfl af
 exact h
theorem cd:FA Tryz.prog 158 0 0:=by
 have h:=fV (k:=0) Bo rfl af
 exact h
theorem bZ:FA Tryz.prog 158 1 1:=by
 have h:=fV (k:=1) Bo rfl af
 exact h
theorem dA:FA Tryz.prog 158 2 2:=by
 have h:=fV (k:=2) Bo rfl af
 exact h
theorem du:FA Tryz.prog 160 0 0:=by
 have h:=fV (k:=0) oL rfl af
 exact h
theorem dI:FA Tryz.prog 160 1 1:=by
 have h:=fV (k:=1) oL rfl af
 exact h
theorem eA:FA Tryz.prog 160 2 2:=by
 have h:=fV (k:=2) oL rfl af
 exact h
theorem iW:FA Tryz.prog 160 3 3:=by
 have h:=fV (k:=3) oL rfl af
 exact h
theorem cQ:FA Tryz.prog 172 0 0:=by
 have h:=fV (k:=0) Bn rfl aD
 exact h
theorem eV:FA Tryz.prog 172 1 8:=by
 have h:=fV (k:=1) Bn rfl Tryz.sizeOf51
 exact h
theorem fT:FA Tryz.prog 172 2 9:=by
 have h:=fV (k:=2) Bn rfl lF
 exact h
theorem cH:FA Tryz.prog 189 0 0:=by
 have h:=fV (k:=0) oK rfl af
 exact h
theorem cM:FA Tryz.prog 189 1 1:=by
 have h:=fV (k:=1) oK rfl af
 exact h
theorem eG:FA Tryz.prog 189 2 2:=by
 have h:=fV (k:=2) oK rfl af
 exact h
theorem dr:FA Tryz.prog 189 3 3:=by
 have h:=fV (k:=3) oK rfl af
 exact h
theorem jm:FA Tryz.prog 220 0 0:=by
 have h:=fV (k:=0) Tryz.runUnderlying220 rfl af
 exact h
theorem ic:FA Tryz.prog 220 1 1:=by
 have h:=fV (k:=1) Tryz.runUnderlying220 rfl af
 exact h
theorem qt:FA Tryz.prog 231 0 0:=by
 have h:=fV (k:=0) Bm rfl Tryz.sizeOf228
 exact h
theorem qs:FA Tryz.prog 231 1 1:=by
 have h:=fV (k:=1) Bm rfl Tryz.sizeOf229
 exact h
theorem qq:FA Tryz.prog 231 2 2:=by
 have h:=fV (k:=2) Bm rfl af
 exact h
theorem ck:FA Tryz.prog 236 0 0:=by
 have h:=fV (k:=0) Tryz.runUnderlying236 rfl bj
 exact h
theorem eE:FA Tryz.prog 236 1 3:=by
 have h:=fV (k:=1) Tryz.runUnderlying236 rfl aE
 exact h
theorem eH:FA Tryz.prog 259 0 0:=by
 have h:=fV (k:=0) Bl rfl aH
 exact h
theorem fl:FA Tryz.prog 259 1 2:=by
 have h:=fV (k:=1) Bl rfl aC
 exact h
theorem dt:FA Tryz.prog 259 2 3:=by
 have h:=fV (k:=2) Bl rfl aC
 exact h
theorem nK:FA Tryz.prog 294 0 0:=by
 have h:=fV (k:=0) Tryz.runUnderlying294 rfl aC
 exact h
theorem fM:FA Tryz.prog 300 0 0:=by
 have h:=fV (k:=0) Tryz.runUnderlying300 rfl af
 exact h
theorem iX:FA Tryz.prog 300 1 1:=by
 have h:=fV (k:=1) Tryz.runUnderlying300 rfl af
 exact h
theorem mN:rl Tryz.prog 29 [(0,1),(1,1),(2,1)] [.int .i64 0,.int .i64 0,.int .i64 0]:=j8 xL rfl CP (by simp [Tryz.sizeOf3])
theorem qK:rl Tryz.prog 32 [(0,1),(1,1)] [.int .i64 0,.int .i64 0]:=j8 Tryz.zeroValue32 rfl Tryz.runUnderlying32 (by simp [Tryz.sizeOf3])
theorem pM:rl Tryz.prog 34 [(0,1),(1,1),(2,1),(3,1),(4,2)] [.int .i64 0,.int .i64 0,.slice none 0 0,.slice none 0 0,.int .i64 0,.int .i64 0]:=j8 iH rfl kd (by simp [Tryz.sizeOf22,Tryz.sizeOf3,Tryz.sizeOf32])
theorem nO:rl Tryz.prog 38 [(0,6),(6,1),(7,1)] [.int .i64 0,.int .i64 0,.slice none 0 0,.slice none 0 0,.int .i64 0,.int .i64 0,.slice none 0 0,.slice none 0 0]:=j8 fc rfl CO (by simp [Tryz.sizeOf34,Tryz.sizeOf35,Tryz.sizeOf36])
theorem cn:rl Tryz.prog 44 [(0,1),(1,1)] [.int .i64 0,.int .i64 0]:=j8 dN rfl kc (by simp [Tryz.sizeOf3])
theorem fm:rl Tryz.prog 49 [(0,1),(1,1)] [.int .i64 0,.int .i64 0]:=j8 kK rfl fq (by simp [Tryz.sizeOf3])
theorem mO:rl Tryz.prog 63 [(0,1)] [.slice none 0 0]:=j8 iG rfl Tryz.runUnderlying63 (by simp [Tryz.sizeOf61])
theorem kH:rl Tryz.prog 70 [(0,1),(1,1)] [.int .i64 0,.slice none 0 0]:=j8 dC rfl Tryz.runUnderlying70 (by simp [Tryz.sizeOf3,Tryz.sizeOf68])
theorem eI:rl Tryz.prog 80 [(0,1),(1,1),(2,1),(3,1),(4,1),(5,1),(6,1)] [.int .i64 0,.int .i64 0,.int .i64 0,.int .i64 0,.int .i64 0,.int .i64 0,.int .i64 0]:=j8 ew rfl fp (by simp [Tryz.sizeOf3])
theorem mP:rl Tryz.prog 108 [(0,1),(1,1),(2,1),(3,1),(4,1),(5,1)] [.int .i64 0,.int .i64 0,.int .i64 0,.int .i64 0,.int .i64 0,.int .i64 0]:=j8 ny rfl gD (by simp [Tryz.sizeOf3])
theorem gy:rl Tryz.prog 113 [(0,1),(1,1)] [.int .i64 0,.slice none 0 0]:=j8 dV rfl Tryz.runUnderlying113 (by simp [Tryz.sizeOf111,Tryz.sizeOf3])
theorem fh:rl Tryz.prog 140 [(0,2),(2,1),(3,1)] [.int .i64 0,.slice none 0 0,.slice none 0 0,.int .i64 0]:=j8 gY rfl Bp (by simp [Tryz.sizeOf22,Tryz.sizeOf3,Tryz.sizeOf70])
theorem pL:rl Tryz.prog 158 [(0,1),(1,1),(2,1)] [.int .i64 0,.int .i64 0,.int .i64 0]:=j8 gX rfl Bo (by simp [Tryz.sizeOf3])
theorem dU:rl Tryz.prog 160 [(0,1),(1,1),(2,1),(3,1)] [.int .i64 0,.int .i64 0,.int .i64 0,.int .i64 0]:=j8 db rfl oL (by simp [Tryz.sizeOf3])
theorem kX:rl Tryz.prog 172 [(0,8),(8,1),(9,1)] [.int .i64 0,.int .i64 0,.slice none 0 0,.slice none 0 0,.int .i64 0,.int .i64 0,.slice none 0 0,.slice none 0 0,.slice none 0 0,.slice none 0 0]:=j8 Tryz.zeroValue172 rfl Bn (by simp [Tryz.sizeOf38,Tryz.sizeOf51,Tryz.sizeOf68])
theorem nM:rl Tryz.prog 189 [(0,1),(1,1),(2,1),(3,1)] [.int .i64 0,.int .i64 0,.int .i64 0,.int .i64 0]:=j8 dH rfl oK (by simp [Tryz.sizeOf3])
theorem xE:rl Tryz.prog 220 [(0,1),(1,1)] [.int .i64 0,.int .i64 0]:=j8 vE rfl Tryz.runUnderlying220 (by simp [Tryz.sizeOf3])
theorem gS:rl Tryz.prog 231 [(0,1),(1,1),(2,1)] [.nilFunc,.nilFunc,.int .i64 0]:=j8 F2 rfl Bm (by simp [Tryz.sizeOf228,Tryz.sizeOf229,Tryz.sizeOf3])
theorem ra:rl Tryz.prog 236 [(0,3),(3,6)] [.int .i64 0,.int .i64 0,.int .i64 0,.int .i64 0,.int .i64 0,.slice none 0 0,.slice none 0 0,.int .i64 0,.int .i64 0]:=j8 Tryz.zeroValue236 rfl Tryz.runUnderlying236 (by simp [Tryz.sizeOf29,Tryz.sizeOf34])
theorem nN:rl Tryz.prog 259 [(0,2),(2,1),(3,1)] [.int .i64 0,.slice none 0 0,.slice none 0 0,.slice none 0 0]:=j8 Tryz.zeroValue259 rfl Bl (by simp [Tryz.sizeOf22,Tryz.sizeOf70])
theorem u5:rl Tryz.prog 294 [(0,1)] [.slice none 0 0]:=j8 Tryz.zeroValue294 rfl Tryz.runUnderlying294 (by simp [Tryz.sizeOf22])
theorem u6:rl Tryz.prog 300 [(0,1),(1,1)] [.int .i64 0,.int .i64 0]:=j8 Tryz.zeroValue300 rfl Tryz.runUnderlying300 (by simp [Tryz.sizeOf3])
theorem qJ:vz Tryz.prog 22 0 1 []:=mM ad af bE fD an
theorem bP:vz Tryz.prog 22 1 1 [.int .i64 0]:=mM ad af bE fD an
theorem ie:vz Tryz.prog 22 2 1 [.int .i64 0,.int .i64 0]:=mM ad af bE fD an
theorem wH:vz Tryz.prog 22 3 1 [.int .i64 0,.int .i64 0,.int .i64 0]:=mM ad af bE fD an
theorem nv:vz Tryz.prog 35 0 7 []:=mM aK aW ew fD an
theorem gJ:vz Tryz.prog 35 1 7 [.int .i64 0,.int .i64 0,.int .i64 0,.int .i64 0,.int .i64 0,.int .i64 0,.int .i64 0]:=mM aK aW ew fD an
theorem nu:vz Tryz.prog 35 4 7 [.int .i64 0,.int .i64 0,.int .i64 0,.int .i64 0,.int .i64 0,.int .i64 0,.int .i64 0,.int .i64 0,.int .i64 0,.int .i64 0,.int .i64 0,.int .i64 0,.int .i64 0,.int .i64 0,.int .i64 0,.int .i64 0,.int .i64 0,.int .i64 0,.int .i64 0,.int .i64 0,.int .i64 0,.int .i64 0,.int .i64 0,.int .i64 0,.int .i64 0,.int .i64 0,.int .i64 0,.int .i64 0]:=mM aK aW ew fD an
theorem jH:vz Tryz.prog 36 1 6 [.int .i64 0,.int .i64 0,.int .i64 0,.int .i64 0,.int .i64 0,.int .i64 0]:=mM cf dx ny fD an
theorem fg:vz Tryz.prog 51 1 2 [.int .i64 0,.int .i64 0]:=mM aO bk kK fD an
theorem nL:vz Tryz.prog 61 1 1 [.slice none 0 0]:=mM aq aC dD fD an
theorem s9:vz Tryz.prog 61 2 1 [.slice none 0 0,.slice none 0 0]:=mM aq aC dD fD an
theorem pK:vz Tryz.prog 68 1 4 [.int .i64 0,.int .i64 0,.int .i64 0,.int .i64 0]:=mM aI aR db fD an
theorem eW:vz Tryz.prog 68 2 4 [.int .i64 0,.int .i64 0,.int .i64 0,.int .i64 0,.int .i64 0,.int .i64 0,.int .i64 0,.int .i64 0]:=mM aI aR db fD an
theorem jB:vz Tryz.prog 111 0 2 []:=mM bF ea vE fD an
theorem q9:vz Tryz.prog 111 1 2 [.int .i64 0,.int .i64 0]:=mM bF ea vE fD an
theorem oC:vz Tryz.prog 182 1 4 [.int .i64 0,.int .i64 0,.int .i64 0,.int .i64 0]:=mM az aF dH fD an
theorem u4:vz Tryz.prog 223 6 1 [.nilFunc,.nilFunc,.nilFunc,.nilFunc,.nilFunc,.nilFunc]:=mM Tryz.runUnderlying223 Tryz.sizeOf1 Tryz.zeroValue1 fD an
theorem bH:Bu Tryz.prog 22 22 3 1 8:=⟨ad,ad,af,⟨_,eM,rfl,by decide⟩,⟨_,bE,rfl⟩⟩
theorem dn:Bu Tryz.prog 35 35 80 7 56:=⟨aK,aK,aW,⟨_,Tryz.typeInfo80,rfl,by decide⟩,⟨_,ew,rfl⟩⟩
theorem jo:Bu Tryz.prog 36 36 108 6 48:=⟨cf,cf,dx,⟨_,Tryz.typeInfo108,rfl,by decide⟩,⟨_,ny,rfl⟩⟩
theorem dm:Bu Tryz.prog 51 51 49 2 16:=⟨aO,aO,bk,⟨_,Tryz.typeInfo49,rfl,by decide⟩,⟨_,kK,rfl⟩⟩
theorem jX:Bu Tryz.prog 61 61 22 1 24:=⟨aq,aq,aC,⟨_,Tryz.typeInfo22,rfl,by decide⟩,⟨_,dD,rfl⟩⟩
theorem bI:Bu Tryz.prog 68 68 160 4 32:=⟨aI,aI,aR,⟨_,Tryz.typeInfo160,rfl,by decide⟩,⟨_,db,rfl⟩⟩
theorem dq:Bu Tryz.prog 111 111 220 2 16:=⟨bF,bF,ea,⟨_,Tryz.typeInfo220,rfl,by decide⟩,⟨_,vE,rfl⟩⟩
theorem jK:Bu Tryz.prog 182 182 189 4 32:=⟨az,az,aF,⟨_,xO,rfl,by decide⟩,⟨_,dH,rfl⟩⟩
end Go.Proofs.YtddaejgfjlneoaaGreat
namespace Go.Proofs.YtddaejgfjlneoaaGreat
open Go.MW
variable{H:bJ}{w:World}{σ:List Ent}
theorem dG{a0 a1 a2:Int}(hs:St H w σ):Cl Tryz.prog 161 [I a0,I a1,I a2] w fun v w'=>v= .bool (decide (a1≤a0∧a0≤a2))∧St H w' σ:=by
 refine Cl.o Tryz.func161 Tryz.ntmps161 ag3 ?_
 refine .ai (.z zg (.nil (.ai (.z zm (.z zm (.z vA (.z zm ?_)))))))
 refine .j7 (t':=10) rfl (fun hb10=>?_) (fun hb10=>?_)
 ·refine .gT rfl rfl ?_
  refine .z zm ?_
  refine .gT rfl rfl ?_
  refine .z zm ?_
  refine .gT rfl rfl ?_
  refine .z vA (.z zpT (.z zg (.nil ?_)))
  refine .ret (Fin.bD Tryz.results161 rfl ?_)
  exact ⟨by simp [*],hs.out⟩
 ·refine .gFs 3 3 true rfl rfl rfl ?_
  refine .z zpF (.z zg (.nil ?_))
  refine .ret (Fin.bD Tryz.results161 rfl ?_)
  exact ⟨by simp [*],hs.out⟩
theorem pH{many:Int}{l:Lim}(hs:St H w σ):Cl Tryz.prog 202 [I many,.agg l.c.toArray] w fun v w'=>v= .bool (l.ok many)∧St H w' σ:=by
 refine Cl.o Tryz.func202 Tryz.ntmps202 ag2 ?_
 refine .ai ?_
 refine .bx hs fun b3 w hs=>?_
 refine .z zg (.nil (.ai (.z (zfa du) (.y hs (zld ae) (.z zm ?_)))))
 refine .o (.call nD rfl (dG hs) ?_);rintro _ w ⟨rfl,hs⟩
 refine .z zm ?_
 refine .bif (t':=9) rfl (fun hb9=>?_) (fun hb9=>?_)
 ·refine .gT rfl rfl ?_
  refine .z (zfa dI) ?_
  refine .gT rfl rfl ?_
  refine .y hs (zld ae) ?_
  refine .gT rfl rfl ?_
  refine .z zm ?_
  refine .gT rfl rfl ?_
  refine .o (.call nD rfl (dG hs) ?_);rintro _ w ⟨rfl,hs⟩
  refine .z zpT (.z zm ?_)
  refine .bif (t':=15) rfl (fun hb15=>?_) (fun hb15=>?_)
  ·refine .gT rfl rfl ?_
   refine .z (zfa du) ?_
   refine .gT rfl rfl ?_
   refine .y hs (zld ae) ?_
   refine .gT rfl rfl ?_
   refine .z (zfa dI) ?_
   refine .gT rfl rfl ?_
   refine .y hs (zld ae) ?_
   refine .gT rfl rfl ?_
   refine .z fP (.z zpT (.z zm ?_))
   refine .Ba (t':=22) rfl (fun hb22=>?_) (fun hb22=>?_)
   ·refine .gT rfl rfl ?_
    refine .z (zfa eA) ?_
    refine .gT rfl rfl ?_
    refine .y hs (zld ae) ?_
    refine .gT rfl rfl ?_
    refine .o (.call nD rfl (dG hs) ?_);rintro _ w ⟨rfl,hs⟩
    refine .z zpT (.z zm ?_)
    refine .bif (t':=27) rfl (fun hb27=>?_) (fun hb27=>?_)
    ·refine .gT rfl rfl ?_
     refine .z (zfa iW) ?_
     refine .gT rfl rfl ?_
     refine .y hs (zld ae) ?_
     refine .gT rfl rfl ?_
     refine .o (.call nD rfl (dG hs) ?_);rintro _ w ⟨rfl,hs⟩
     refine .z zpT (.z zg (.nil ?_))
     refine .ret (Fin.bD zM rfl ?_)
     exact ⟨by simp [Lim.ok, *],hs.out⟩
    ·refine .gFs 3 22 true rfl rfl rfl ?_
     refine .z zpF (.z zg (.nil ?_))
     refine .ret (Fin.bD zM rfl ?_)
     exact ⟨by simp [Lim.ok, *],hs.out⟩
   ·refine .gFs 3 17 true rfl rfl rfl ?_
    refine .z zpF (.z zm ?_)
    refine .gFs 3 22 true rfl rfl rfl ?_
    refine .z zpF (.z zg (.nil ?_))
    refine .ret (Fin.bD zM rfl ?_)
    exact ⟨by simp [Lim.ok, *],hs.out⟩
  ·refine .gFs 5 10 true rfl rfl rfl ?_
   refine .z zpF (.z zm ?_)
   refine .gFs 3 17 true rfl rfl rfl ?_
   refine .z zpF (.z zm ?_)
   refine .gFs 3 22 true rfl rfl rfl ?_
   refine .z zpF (.z zg (.nil ?_))
   refine .ret (Fin.bD zM rfl ?_)
   exact ⟨by simp [Lim.ok, *],hs.out⟩
 ·refine .gFs 4 4 true rfl rfl rfl ?_
  refine .z zpF (.z zm ?_)
  refine .gFs 5 10 true rfl rfl rfl ?_
  refine .z zpF (.z zm ?_)
  refine .gFs 3 17 true rfl rfl rfl ?_
  refine .z zpF (.z zm ?_)
  refine .gFs 3 22 true rfl rfl rfl ?_
  refine .z zpF (.z zg (.nil ?_))
  refine .ret (Fin.bD zM rfl ?_)
  exact ⟨by simp [Lim.ok, *],hs.out⟩
theorem vj{v:Value}{ls:List Lim}{g:Nat}{cap:List Value}{p:Lim→Bool}(hs:St H w σ)(hr:RL H v ls)
  (hc:∀args w,(callFunc g args).run Tryz.prog w= .ok (.enter g args) w) (hp:∀w l,St H w σ→Cl Tryz.prog g ([.agg l.c.toArray]++cap) w fun u w'=>u= .bool (p l)∧St H w' σ):
  Cl Tryz.prog 252 [v,.func (.func g) #[] cap.toArray] w fun u w'=>u=I (match ls.findIdx? p with|some k=>(k:Int)|none=> -1)∧St H w' σ:=by
 obtain ⟨a,c,rfl⟩:=RS.shape hr
 have hl:=(RS.len hr).2.2
 refine Cl.o Tryz.func252 Tryz.ntmps252 ag2 ?_
 refine .ai (.z zg (.nil (.seq (.ai (.z zm ?_)))))
 refine .q hs (Ak hr rfl aI) ?_
 refine .z zm (.nil ?_)
 refine .for (N:=(ls.map Lim.c).length) (J:=fun k fr w=>fr=[(1,.func (.func g) #[] cap.toArray),(0,.slice a (ls.map Lim.c).length c)]∧St H w σ∧∀j<k,∀l,ls[j]? =some l→p l=false) aj ?_ ?_ ?_
 ·exact .mk ⟨rfl,hs,fun j hj=>by omega⟩
 ·rintro k fr w hk ⟨rfl,hs,hno⟩
  obtain ⟨l,hl⟩:=nth (l:=ls) (by simpa using hk)
  refine .block (.ai (.z zm (.z zg (.nil (.ai (.z zm (.z zm (.z zm ?_))))))))
  refine .ixX hs hr rfl rfl aI aR hl rfl ?_;intro b14 o14 hc14
  refine .y hs (zls [_,_,_,_] eb aR) ?_
  refine .o (.ns (first:=[]) rfl rfl hc (hp _ _ hs) ?_);rintro _ w ⟨rfl,hs⟩
  refine .nil ?_
  refine (.cond rfl (fun hc16=>?_) (fun hc16=>?_))
  ·refine .ai (.z zm (.z zg (.nil ?_)))
   refine .ret (rB (rT (rB (rT (Fin.bD Tryz.results252 rfl ?_)))))
   exact ⟨by rw [sz hl hc16 hno],hs⟩
  ·refine .skip ?_
   refine nB (nT ?_)
   exact .mk ⟨rfl,hs,eS hno hl hc16⟩
 ·rintro fr w ⟨rfl,hs,hno⟩
  refine nT ?_
  refine .ai (.z zg (.nil ?_))
  refine .ret (Fin.bD Tryz.results252 rfl ?_)
  exact ⟨by rw [qI (by simpa using hno)],hs⟩
theorem rh{v:Value}{ls:List Lim}{g:Nat}{cap:List Value}{p:Lim→Bool}(hs:St H w σ)(hr:RL H v ls)
  (hc:∀args w,(callFunc g args).run Tryz.prog w= .ok (.enter g args) w) (hp:∀w l,St H w σ→Cl Tryz.prog g ([.agg l.c.toArray]++cap) w fun u w'=>u= .bool (p l)∧St H w' σ):
  Cl Tryz.prog 200 [v,.func (.func g) #[] cap.toArray] w fun u w'=>u= .bool (ls.any p)∧St H w' σ:=by
 refine Cl.o Tryz.func200 Tryz.ntmps200 ag2 ?_
 refine .ai (.z zg (.nil (.ai (.z zm (.z zm ?_)))))
 refine .o (.call Tryz.call252 rfl (vj hs hr hc hp) ?_);rintro _ w ⟨rfl,hs⟩
 refine .z xQ (.z zg (.nil ?_))
 refine .ret (Fin.bD Tryz.results200 rfl ?_)
 exact ⟨by rw [xF];cases ls.findIdx? p<;>simp<;>omega,hs⟩
theorem uZ{b:Nat}{many:Int}{v:Value}{l:Lim}(hs:St H w σ)(hm:Mem σ (.blk b [I many,v])):Cl Tryz.prog 201 [.agg l.c.toArray,.pointer (some ⟨b,0,none⟩)] w fun v w'=>v= .bool (!l.ok many)∧St H w' σ:=by
 refine Cl.o Tryz.func201 Tryz.ntmps201 ag2 ?_
 refine .ai ?_
 refine .bx hs fun b2 w hs=>?_
 refine .z zg (.nil (.ai (.z (zfa bw) ?_)))
 refine .q hs (gh rfl ae (.there hm) rfl) ?_
 refine .q hs (jT (vs:=l.c) rfl eb aR) ?_
 refine .o (.call Tryz.call202 rfl (pH hs) ?_);rintro _ w ⟨rfl,hs⟩
 refine .z iU (.z zg (.nil ?_))
 refine .ret (Fin.bD Tryz.results201 rfl ?_)
 exact ⟨rfl,hs.out⟩
theorem gR{v:Value}{s:bV}(hs:St H w σ)(hr:RSy H v s):Cl Tryz.prog 125 [v] w fun v w'=>v=I s.check∧St H w' σ:=by
 obtain ⟨u,rfl,hr⟩:=hr
 obtain ⟨a,c,rfl⟩:=RS.shape hr
 refine Cl.o Tryz.func125 Tryz.ntmps125 ag1 ?_
 refine .ai ?_
 refine .bx hs fun b1 w hs=>?_
 refine .z zg (.nil (.seq (.block (.ai (.z (zfa bw) (.y hs (zld ae) ?_))))))
 refine .o (.call nD rfl (dG hs) ?_);rintro _ w ⟨rfl,hs⟩
 refine .z iU (.z zg (.nil ?_))
 refine (.cond rfl (fun hc3=>?_) (fun hc3=>?_))
 ·refine .ai (.z zg (.nil ?_))
  refine .ret (rB (rT (Fin.bD Tryz.results125 rfl ?_)))
  exact ⟨congrArg I (by unfold bV.check;(repeat' split)<;>simp_all<;>omega),hs.out⟩
 ·refine .ai (.z (zfa bu) (.y hs (zld bU) ?_))
  refine .q hs (Ak hr rfl aI) ?_
  refine .z qN (.z zg (.nil ?_))
  refine (.cg rfl (fun hc8=>?_) (fun hc8=>?_))
  ·refine .ai (.z zg (.nil ?_))
   refine .ret (rB (rT (Fin.bD Tryz.results125 rfl ?_)))
   exact ⟨congrArg I (by unfold bV.check;(repeat' split)<;>simp_all<;>omega),hs.out⟩
  ·refine .ai (.z (zfa bu) (.y hs (zld bU) ?_))
   refine .q hs (da (f:=[]) (c:=[_]) rfl rfl) ?_
   refine .o (.call Tryz.call200 rfl (rh (p:=fun l=> !l.ok s.many) hs hr Tryz.call201 (fun w l hs=>uZ hs .here)) ?_);rintro _ w ⟨rfl,hs⟩
   refine .z zg (.nil ?_)
   refine (.cond rfl (fun hc13=>?_) (fun hc13=>?_))
   ·refine .ai (.z zg (.nil ?_))
    refine .ret (rB (rT (Fin.bD Tryz.results125 rfl ?_)))
    exact ⟨congrArg I (by unfold bV.check;(repeat' split)<;>simp_all<;>omega),hs.out⟩
   ·refine .skip ?_
    refine nB (nT ?_)
    refine .ai (.z zg (.nil ?_))
    refine .ret (Fin.bD Tryz.results125 rfl ?_)
    exact ⟨congrArg I (by unfold bV.check;(repeat' split)<;>simp_all<;>omega),hs.out⟩
theorem pE{H:bJ}{b:Nat}{s:bV}{u:Value}(hok:s.Ok)(hb:Row H b [I s.many,u])(hr:RL H u s.bK):ItA Tryz.prog 203 [.pointer (some ⟨b,0,none⟩)] H s.cj:=by
 intro l II Ix _ _ hy H0 σb0 σf w hle hI0 hs
 obtain ⟨a,c,rfl⟩:=RS.shape hr
 have hb1:cellAt H0 b 1=some (.slice a (s.bK.map Lim.c).length c):=cellAt.mono (by rw [hb.cell];rfl) hle
 have hlen:=hok.len
 refine Cl.o Tryz.func203 Tryz.ntmps203 ag2 ?_
 refine .ai (.z (zfa bu) (.y hs (zld bU) ?_))
 refine .q hs (Ak (hr.mono hle) rfl aI) ?_
 refine .z zm (.nil ?_)
 refine .for (N:=(s.bK.map Lim.c).length) (J:=fun k fr w=>fr=[(6,.slice a (s.bK.map Lim.c).length c),(0,.func (.yield l) #[] #[])]∧∃H1 σb,HLe H H1∧HLe H0 H1∧II k H1 σb∧St H1 w (σb++σf)) (by simp;omega) ?_ ?_ ?_
 ·exact .mk ⟨rfl,H0,σb0,hle,HLe.refl _,hI0,hs⟩
 ·rintro k fr w hk ⟨rfl,H1,σb,hle1,hle0,hI,hs⟩
  obtain ⟨x,hx⟩:=nth (l:=s.bK) (by simpa using hk)
  obtain ⟨hA,hB,_⟩:=hok.arc (List.mem_of_getElem? hx) k
  refine .block (.ai (.z zm ?_))
  refine .ixX hs (hr.mono hle1) rfl rfl aI aR hx rfl ?_;intro b11 o11 hc11
  refine .q hs (bY (vs:=x.c) rfl eb aR hc11) ?_
  refine .o (.alloc hs db rfl fun b4 w hs=>?_)
  refine .z zg ?_
  refine .o (.aQ (vs:=x.c) hs rfl rfl aR fun w hs=>?_)
  refine .nil (.ai (.z zm (.z (zfa du) (.y hs (zld ae) (.z (zfa dI) (.y hs (zld ae) (.z (zfa eA) (.y hs (zld ae) (.z zm ?_)))))))))
  refine .z (zbd [_,_,_,_] nM) ?_
  have hk':k<(s.cj.map fun x=>[Value.agg x.v.toArray]).length:=by simp [bV.cj,dw];simpa using hk
  have hxk:(s.cj.map fun x=>[Value.agg x.v.toArray])[k]=[.agg (x.arc k).v.toArray]:=by
   have:=iT hx
   rw [List.getElem_map];rw [List.getElem?_eq_some_iff] at this;obtain ⟨h1,h2⟩:=this;simp only [bV.cj];rw [h2]
  have hyd:=hy k hk' H1 σb σf w hle1 hI hs.tail
  rw [hxk] at hyd
  refine .o (.yield (vs:=[.agg (x.arc k).v.toArray]) rfl (by simp [Arc.v,hA,hB];rfl) hyd ?_);rintro v22 w ⟨H2,σ2,g1,hs,g3⟩
  obtain ⟨bb,rfl,gT,gF⟩:=nR g3
  refine .z iU (.nil ?_)
  refine (.cond rfl (fun hc23=>?_) (fun hc23=>?_))
  ·refine .ret (rB (rT (rB (Fin.Ez Tryz.results203 ?_))))
   exact ⟨H2,σ2,hle0.trans g1,hs,.inr (gF (by simpa using hc23))⟩
  ·refine .skip ?_
   refine nB (nT ?_)
   exact .mk ⟨rfl,H2,σ2,hle1.trans g1,hle0.trans g1,gT (by simpa using hc23),hs⟩
 ·rintro fr w ⟨rfl,H1,σb,hle1,hle0,hI,hs⟩
  exact Fin.wW Tryz.results203 ⟨H1,σb,hle0,hs,.inl (by simpa [bV.cj,dw] using hI)⟩
theorem jz{v:Value}{s:bV}(hs:St H w σ)(hok:s.Ok)(hr:RSy H v s):
  Cl Tryz.prog 127 [v] w fun v w'=>∃H1 b,HLe H H1∧v= .func (.func 203) #[] #[.pointer (some ⟨b,0,none⟩)]∧ItA Tryz.prog 203 [.pointer (some ⟨b,0,none⟩)] H1 s.cj∧St H1 w' σ:=by
 obtain ⟨u,rfl,hr⟩:=hr
 refine Cl.o Tryz.func127 Tryz.ntmps127 ag1 ?_
 refine .ai ?_
 refine .bx hs fun b1 w hs=>?_
 refine .z zg (.nil (.ai ?_))
 refine .q hs (da (f:=[]) (c:=[_]) rfl rfl) ?_
 refine .z zg (.nil ?_)
 refine .ret (Fin.bD Tryz.results127 rfl ?_)
 obtain ⟨H1,g1,g2,hs⟩:=hs.bX .here
 exact ⟨H1,b1,g1,rfl,pE hok g2 (hr.mono g1),hs⟩
theorem iA{N gf:Nat}{ar:List Arc}{cap:List Value}(hs:St H w σ)(hN:N≤64)(hok:lN ar (N+1))(hit:ItA Tryz.prog gf cap H ar)(hc:∀args w,(callFunc gf args).run Tryz.prog w= .ok (.enter gf args) w):
  Cl Tryz.prog 126 [I N,.func (.func gf) #[] cap.toArray] w fun v w'=>∃H1 bc bb s ov vo,HLe H H1∧v= .tuple #[.slice (some ⟨bc,0,none⟩) (N+1) (N+1),.slice (some ⟨bb,0,none⟩) (N+1) (N+1),vo]∧OvR H1 vo ov∧Fe (N+1) ar s ov∧St H1 w' (.blk bc (Is s.cost):: .blk bb (iF s.by_)::σ):=by
 refine Cl.o Tryz.func126 Tryz.ntmps126 ag2 ?_
 refine .ai ?_
 refine .o (.alloc hs dD rfl fun b4 w hs=>?_)
 refine .o (.alloc hs Tryz.zeroValue182 rfl fun b5 w hs=>?_)
 refine .o (.alloc hs Tryz.zeroValue183 rfl fun b6 w hs=>?_)
 refine .nil ?_
 refine .cut (fun fs w=>∃bc bb,mT fs ⟨70,[],[(1,.func (.func gf) #[] cap.toArray),(0,I N),(4,.pointer (some ⟨b4,0,none⟩)),(5,.pointer (some ⟨b5,0,none⟩)),(6,.pointer (some ⟨b6,0,none⟩))]⟩∧St H w (.blk b4 [.slice (some ⟨bc,0,none⟩) (N+1) (N+1)]:: .blk b5 [.slice (some ⟨bb,0,none⟩) (N+1) (N+1)]:: .blk b6 [.pointer none]:: .blk bc (Is (List.replicate (N+1) 0)):: .blk bb (iF (xl (N+1) 0))::σ)) ?_ ?_
 ·refine .draw mix rfl hs fun w hs=>?_
  refine .z 0 rfl zm ?_;refine .z 1 rfl cC ?_;refine .z 3 rfl zm ?_;refine .z 4 rfl cC ?_
  refine .e2 (i:=2) (j:=5) an rfl rfl rfl rfl .none .none hs ?_ ?_
  ·refine .so (N+1) hs rfl rfl ad eM rfl af bE aj ?_;intro b11 w hs
   refine .go ?_
   refine .e2 (i:=5) (j:=6) an rfl rfl rfl rfl .none .none hs ?_ ?_
   ·refine .Cj (N+1) hs rfl rfl az xO rfl aF dH aj ?_;intro b14 w hs
    refine .go ?_
    refine .E 6 hs ?_
    refine .store hs rfl rfl aC ?_;intro w hs
    refine .go ?_
    refine .E 7 hs ?_
    refine .store hs rfl rfl te ?_;intro w hs
    refine .go ?_
    refine .D hs ?_
    exact nT ⟨b11,b14,bA,hs.sb⟩
   ·refine .store hs rfl rfl aC ?_;intro w hs
    refine .go ?_
    refine .E 5 hs ?_
    refine .Cj (N+1) hs rfl rfl az xO rfl aF dH aj ?_;intro b14 w hs
    refine .go ?_
    refine .E 7 hs ?_
    refine .store hs rfl rfl te ?_;intro w hs
    refine .go ?_
    refine .D hs ?_
    exact nT ⟨b11,b14,bA,hs.sb⟩
  ·refine .Cj (N+1) hs rfl rfl az xO rfl aF dH aj ?_;intro b14 w hs
   refine .go ?_
   refine .E 2 hs ?_
   refine .so (N+1) hs rfl rfl ad eM rfl af bE aj ?_;intro b11 w hs
   refine .go ?_
   refine .E 6 hs ?_
   refine .store hs rfl rfl aC ?_;intro w hs
   refine .go ?_
   refine .E 7 hs ?_
   refine .store hs rfl rfl te ?_;intro w hs
   refine .go ?_
   refine .D hs ?_
   exact nT ⟨b11,b14,bA,hs.sb⟩
 ·rintro s w ⟨bc,bb,hfs,hs⟩
  refine WE.sub ?_ hfs
  refine .seq (.ai (.y hs (zld eK) (.z (cS az) (.z zm (.nil ?_)))))
  refine .for (N:=N+1) (J:=fun k fr w=>fr=[(1,.func (.func gf) #[] cap.toArray),(0,I N),(4,.pointer (some ⟨b4,0,none⟩)),(5,.pointer (some ⟨b5,0,none⟩)),(6,.pointer (some ⟨b6,0,none⟩))]∧St H w (.blk b4 [.slice (some ⟨bc,0,none⟩) (N+1) (N+1)]:: .blk b5 [.slice (some ⟨bb,0,none⟩) (N+1) (N+1)]:: .blk b6 [.pointer none]:: .blk bc (Is (List.replicate (N+1) 0)):: .blk bb (iF (xl (N+1) k))::σ)) aj ?_ ?_ ?_
  ·exact .mk ⟨rfl,hs⟩
  ·rintro k fr w hk ⟨rfl,hs⟩
   have hkl:k<(xl (N+1) k).length:=by rw [xk aj];exact hk
   refine .block (.ai (.z zm (.z zg (.nil (.region (.y hs (zld eK) (.z zm ?_)))))))
   first|(refine .ixw hs az aF ?_;intro b22 o22 hc22)|refine .z (wS az aF) ?_
   refine .z (zfa dr) ?_
   refine .o (.store hs rfl rfl af ?_ dJ (yP hkl aj) ((wO hkl _).trans (congrArg iF (Ch hk))));intro w hs
   refine .nil ?_
   refine nB (nT ?_)
   exact .mk ⟨rfl,hs⟩
  ·rintro fr w ⟨rfl,hs⟩
   refine nT ?_
   refine .seq (.ai (.z zm (.z cC (.z zm (.nil ?_)))))
   refine .forD (N:=N+2) (J:=fun r ds fr w=>fr=[(1,.func (.func gf) #[] cap.toArray),(0,I N),(4,.pointer (some ⟨b4,0,none⟩)),(5,.pointer (some ⟨b5,0,none⟩)),(6,.pointer (some ⟨b6,0,none⟩))]∧∃Ds H1 s vo,ds=marks Ds∧HLe H H1∧sY (N+1) ar r 0 none s∧(r=0∨∃x,OvR H1 vo (some x)∧sY (N+1) ar (r - 1) ar.length (some x) s)∧St H1 w (.blk b4 [.slice (some ⟨bc,0,none⟩) (N+1) (N+1)]:: .blk b5 [.slice (some ⟨bb,0,none⟩) (N+1) (N+1)]:: .blk b6 [vo]:: .blk bc (Is s.cost):: .blk bb (iF s.by_)::(mes Ds++σ))) aj ?_ ?_ ?_
   ·exact .mk (ds:=[]) ⟨rfl,[],H,⟨List.replicate (N+1) 0,List.replicate (N+1) ⟨0,0,0,-1⟩⟩,_,rfl,HLe.refl _,sY.init aj,.inl rfl,by rw [Az] at hs;exact hs⟩
   ·rintro r ds fr w hr ⟨rfl,Ds,H1,s,vo,rfl,hle1,hN0,-,hs⟩
    refine .block (.ai ?_)
    refine .o (.store hs rfl rfl Tryz.sizeOf183 fun w hs=>?_)
    refine .nil (.seq (.ai (.z zm (.nil (.block ?_)))))
    refine .rangeFunc (gf:=gf) (cap:=cap) (xs:=ar.map fun x=>[.agg x.v.toArray]) (σb:=[.blk b4 [.slice (some ⟨bc,0,none⟩) (N+1) (N+1)],.blk b5 [.slice (some ⟨bb,0,none⟩) (N+1) (N+1)],.blk b6 [.pointer none],.blk bc (Is s.cost),.blk bb (iF s.by_)]) (σf:=mes Ds++σ) hs trivial rfl (hit.mono hle1) hc bR rfl
     (I:=fun k H' σb=>∃s ov vo,σb=[.blk b4 [.slice (some ⟨bc,0,none⟩) (N+1) (N+1)],.blk b5 [.slice (some ⟨bb,0,none⟩) (N+1) (N+1)],.blk b6 [vo],.blk bc (Is s.cost),.blk bb (iF s.by_)]∧OvR H' vo ov∧sY (N+1) ar r k ov s) (Ix:=fun _ _ _=>False) (by rintro k _ _ σ g1 ⟨s,ov,vo,g2,g3,g4⟩;exact ⟨s,ov,vo,g2,g3.mono g1,g4⟩) (fun _ _ _ _ _ h=>h)
     ⟨s,none,_,rfl,rfl,hN0⟩ ?_ ?_ (fun D c H' σb w _ h _=>h.elim)
    ·rintro l k hk H2 σb2 σf2 w hle2 ⟨s,ov,vo,rfl,hov,hN⟩ hs ⟨rr,hrr⟩
     obtain ⟨x,hx⟩:=nth (l:=ar) (by simpa using hk)
     obtain ⟨c1,c2,c3,c4,c5,c6⟩:=hok.2 x (List.mem_of_getElem? hx)
     have hxk:(ar.map fun x=>[Value.agg x.v.toArray])[k]=[.agg x.v.toArray]:=by rw [List.getElem_map];rw [List.getElem?_eq_some_iff] at hx;obtain ⟨h1,h2⟩:=hx;rw [h2]
     rw [hxk]
     have hkl:k<ar.length:=by simpa using hk
     have hal:=hok.1
     have hlc:=hN.lc
     have hlb:=hN.lb
     have lo1:=hN.lo x.f c1
     have hi1:=hN.hi x.f c1
     refine .region ?_
     refine .o (.alloc hs dH rfl fun b8 w hs=>?_)
     refine .o (.aQ (vs:=x.v) hs rfl rfl aF fun w hs=>?_)
     refine .nil ?_
     refine nT ?_
     refine ⟨H2,[.blk b8 x.v,.blk b4 [.slice (some ⟨bc,0,none⟩) (N+1) (N+1)],.blk b5 [.slice (some ⟨bb,0,none⟩) (N+1) (N+1)],.blk b6 [vo],.blk bc (Is s.cost),.blk bb (iF s.by_)],HLe.refl _,hs,?_⟩;rintro w σf2 - hs
     refine .block ?_
     refine .seq (.draw mix rfl hs fun w hs=>?_)
     refine .y 0 rfl hs ak ?_;refine .z 1 rfl (zfa cH) ?_;refine .y 2 rfl hs ae ?_
     first|(refine .ixv 3 rfl hs ad af ?_;intro b34 o34 hc34)|refine .z 3 rfl (zix ad af) ?_
     refine .y 4 rfl hs ae ?_;refine .z 5 rfl (zfa eG) ?_;refine .y 6 rfl hs ae ?_;refine .z 7 rfl cC ?_;refine .y 8 rfl hs ak ?_;refine .z 9 rfl (zfa cM) ?_;refine .y 10 rfl hs ae ?_
     first|(refine .ixv 11 rfl hs ad af ?_;intro b42 o42 hc42)|refine .z 11 rfl (zix ad af) ?_
     refine .y 12 rfl hs ae ?_;refine .z 13 rfl ik ?_;refine .D hs ?_
     refine (.cg rfl (fun hc44=>?_) (fun hc44=>?_))
     ·refine .seq (.draw mix rfl hs fun w hs=>?_)
      refine .y 0 rfl hs ak ?_;refine .z 1 rfl (zfa cM) ?_;refine .y 2 rfl hs ae ?_;refine .y 3 rfl hs eK ?_;refine .z 4 rfl (zfa cM) ?_;refine .y 5 rfl hs ae ?_;refine .y 6 rfl hs ak ?_;refine .z 7 rfl (zfa cH) ?_;refine .y 8 rfl hs ae ?_
      first|(refine .ixv 9 rfl hs ad af ?_;intro b54 o54 hc54)|refine .z 9 rfl (zix ad af) ?_
      refine .y 10 rfl hs ae ?_;refine .z 11 rfl (zfa eG) ?_;refine .y 12 rfl hs ae ?_;refine .z 13 rfl cC ?_
      refine .xn (i:=14) (vs:=x.v) hs rfl an .none rfl fY aF ?_
      first|(refine .ixv 15 rfl hs ad af ?_;intro b60 o60 hc60)|refine .z 15 rfl (zix ad af) ?_
      refine .E 16 hs ?_
      refine .store hs rfl rfl af ?_;intro w hs
      refine .go ?_
      first|(refine .ixw 17 rfl hs az aF ?_;intro b61 o61 hc61)|refine .z 17 rfl (wS az aF) ?_
      refine .E 18 hs ?_
      refine .aQ (vs:=x.v) hs rfl rfl aF ?_;intro w hs
      refine .go ?_
      refine .D hs ?_
      refine .region ?_
      refine .o (.store hs rfl rfl Tryz.sizeOf183 fun w hs=>?_)
      refine .nil ?_
      refine nB ?_
      obtain ⟨H3,g1,g2,hs⟩:=hs.bX .here
      exact ⟨H3,_,g1,hs,s.rlx x,some x,_,rfl,⟨b8,rfl,g2⟩,hN.vT hok hx hc44⟩
     ·refine .skip ?_
      refine nB ?_
      exact ⟨H2,_,HLe.refl _,hs.tail,s,ov,vo,rfl,hov,hN.skip hok hx (by unfold BS.can;omega)⟩
    ·rintro D H2 σb2 w hle2 ⟨s,ov,vo,rfl,hov,hN⟩ hs
     obtain ⟨a',rfl,ha'⟩:=hov.ptr
     replace hs:St H2 w (.blk b4 [.slice (some ⟨bc,0,none⟩) (N+1) (N+1)]:: .blk b5 [.slice (some ⟨bb,0,none⟩) (N+1) (N+1)]:: .blk b6 [.pointer a']:: .blk bc (Is s.cost):: .blk bb (iF s.by_)::(mes (D::Ds)++σ)):=St.deep (σ1:=[_,_,_,_,_]) hs
     have hN:sY (N+1) ar r ar.length ov s:=by simpa using hN
     refine nB (nT ?_)
     refine .ai (.y hs (zld Tryz.isAgg183) ?_)
     refine .q hs (An rfl rfl Tryz.runUnderlying183) ?_
     refine .nil ?_
     refine (.cond rfl (fun hc63=>?_) (fun hc63=>?_))
     ·refine .seq (.draw mix rfl hs fun w hs=>?_)
      refine .y 0 rfl hs ak ?_;refine .y 1 rfl hs eK ?_
      refine .E 2 hs ?_
      refine .store hs rfl rfl aC ?_;intro w hs
      refine .go ?_
      refine .E 3 hs ?_
      refine .store hs rfl rfl te ?_;intro w hs
      refine .go ?_
      refine .E 4 hs ?_
      refine .store hs rfl rfl Tryz.sizeOf183 ?_;intro w hs
      refine .go ?_
      refine .D hs ?_
      refine .ret (rB (rT (rB (rT (?_)))))
      obtain ⟨rfl,rfl⟩:=OvR.no ha' hc63
      refine Fin.gV (D::Ds) [_,_,_,_,_] hs fun w hs=>⟨_,results3 Tryz.results126 (ze hs rfl ak) (ze hs rfl eK) (ze hs rfl Tryz.isAgg183),H2,bc,bb,s,none,_,hle1.trans hle2,rfl,hov,⟨r,hN,fun h=>(h rfl).elim⟩,hs.sb⟩
     ·refine .skip ?_
      refine nB (nT ?_)
      obtain ⟨x,rfl⟩:=OvR.yes ha' hc63
      exact .mk (ds:=marks (D::Ds)) ⟨rfl,D::Ds,H2,s,_,rfl,hle1.trans hle2,hN.next hok,.inr ⟨x,hov,hN⟩,hs⟩
   ·rintro ds fr w ⟨rfl,Ds,H1,s,vo,rfl,hle1,hN0,hor,hs⟩
    obtain ⟨x,hov,hN⟩:∃x,OvR H1 vo (some x)∧sY (N+1) ar (N+2 - 1) ar.length (some x) s:=hor.resolve_left aj
    obtain ⟨b3,rfl,hrow⟩:=hov
    refine nT ?_
    refine .seq (.draw mix rfl hs fun w hs=>?_)
    refine .y 0 rfl hs ak ?_;refine .y 1 rfl hs eK ?_;refine .y 2 rfl hs Tryz.isAgg183 ?_
    refine .E 3 hs ?_
    refine .store hs rfl rfl aC ?_;intro w hs
    refine .go ?_
    refine .E 4 hs ?_
    refine .store hs rfl rfl te ?_;intro w hs
    refine .go ?_
    refine .E 5 hs ?_
    refine .store hs rfl rfl Tryz.sizeOf183 ?_;intro w hs
    refine .go ?_
    refine .D hs ?_
    refine .ret ?_
    refine Fin.gV Ds [_,_,_,_,_] hs fun w hs=>⟨_,results3 Tryz.results126 (ze hs rfl ak) (ze hs rfl eK) (ze hs rfl Tryz.isAgg183),H1,bc,bb,s,some x,_,hle1,rfl,⟨b3,rfl,hrow⟩,⟨N+1,hN,fun _=>rfl⟩,hs.sb⟩
theorem iB{v:Value}{s:bV}(hs:St H w σ)(hok:s.Ok)(hr:RSy H v s):
  Cl Tryz.prog 133 [v] w fun v w'=>∃H1 b,HLe H H1∧v= .bool b∧(b=true↔s.Sound)∧St H1 w' σ:=by
 obtain ⟨u,rfl,hr⟩:=hr
 obtain ⟨N,hN⟩:=Int.eq_ofNat_of_zero_le hok.m0
 have hN1:=hok.m1
 have hn:s.n=N+1:=by simp [bV.n,hN]
 have hoka:=hok.cj
 rw [hn] at hoka
 rw [hN]
 refine Cl.o Tryz.func133 Tryz.ntmps133 ag1 ?_
 refine .ai ?_
 refine .bx hs fun b1 w hs=>?_
 refine .z zg (.nil ?_)
 refine .seq (.draw mix rfl hs fun w hs=>?_)
 refine .z 0 rfl (zfa bw) ?_;refine .y 1 rfl hs ae ?_;refine .ys 2 rfl hs [_,_] a8 aH ?_
 refine .E 3 hs ?_
 refine .call Tryz.call127 rfl (jz (s:=s) hs hok ⟨u,by rw [hN],hr⟩) ?_;rintro _ w ⟨H1,b10,hle1,rfl,hit,hs⟩
 refine .go ?_
 refine .E 4 hs ?_
 refine .call Tryz.call126 rfl (iA hs aj hoka hit Tryz.call203) ?_;rintro _ w ⟨H2,bc,bb,st,ov,vo,hle2,rfl,hov,hnr,hs⟩
 obtain ⟨a',rfl,ha'⟩:=hov.ptr
 refine .go ?_
 refine .z 5 rfl zm ?_;refine .z 6 rfl zex ?_;refine .z 7 rfl zex ?_;refine .z 8 rfl zex ?_;refine .z 9 rfl zg ?_;refine .z 10 rfl zg ?_;refine .z 11 rfl zg ?_;refine .D hs ?_
 refine .ai (.z zm ?_)
 refine .q hs (An rfl rfl Tryz.runUnderlying183) ?_
 refine .z zg (.nil ?_)
 refine .ret (Fin.bD Tryz.results133 rfl ?_)
 refine ⟨H2,_,hle1.trans hle2,rfl,?_,hs.out⟩
 obtain ⟨r,hN2,hr2⟩:=hnr
 cases ov with
 |none=>
  rw [ha']
  exact ⟨fun _=>⟨_,(hN2.sol hoka aj).1⟩,fun _=>rfl⟩
 |some x=>
  rw [ha']
  exact ⟨fun h=>(by cases h),fun h=>(hN2.none hoka aj (by have:=hr2 bR;omega) h).elim⟩
theorem ou{c:Int}(hs:St H w σ)(hc:0≤c∧c<4294967296):Cl Tryz.prog 299 [.int .u64 1,.int .u64 c] w fun v w'=>v= .tuple #[.int .u64 0,.int .u64 c]∧St H w' σ:=by
 refine Cl.o Tryz.func299 Tryz.ntmps299 ag2 ?_
 refine .ai (.z zg (.z zg (.nil (.ai (.z zm ?_)))))
 first|refine .q hs (DG rfl rfl ⟨aj,aj⟩) ?_|refine .q hs (ya rfl rfl) ?_
 refine .z zg (.nil (.ai (.z zm ?_)))
 first|refine .q hs (vW rfl rfl ⟨aj,aj⟩) ?_|refine .q hs (zf rfl rfl fD) ?_
 refine .z zg (.nil (.ai (.z zm ?_)))
 first|refine .q hs (DG rfl rfl ⟨aj,aj⟩) ?_|refine .q hs (ya rfl rfl) ?_
 refine .z zg (.nil (.ai (.z zm ?_)))
 first|refine .q hs (vW rfl rfl ⟨aj,aj⟩) ?_|refine .q hs (zf rfl rfl fD) ?_
 refine .z zg (.nil (.ai (.z zm (.z zm (.z lG (.z zg (.nil (.ai (.z zm ?_)))))))))
 refine .z zm (.z lG (.z zm ?_))
 first|refine .q hs (vW rfl rfl ⟨aj,aj⟩) ?_|refine .q hs (zf rfl rfl fD) ?_
 refine .z cC (.z zg (.nil (.ai (.z zm ?_))))
 first|refine .q hs (DG rfl rfl ⟨aj,aj⟩) ?_|refine .q hs (ya rfl rfl) ?_
 refine .z zg (.nil (.ai (.z zm ?_)))
 first|refine .q hs (vW rfl rfl ⟨aj,aj⟩) ?_|refine .q hs (zf rfl rfl fD) ?_
 refine .z zg (.nil (.ai (.z zm (.z zm (.z zm (.z lG (.z cC (.z zg (.nil ?_)))))))))
 refine .ai (.z zm (.z zm (.z lG (.z zm (.z cC (.z zm ?_))))))
 first|refine .q hs (vW rfl rfl ⟨aj,aj⟩) ?_|refine .q hs (zf rfl rfl fD) ?_
 refine .z cC (.z zg (.nil (.ai (.z zm (.z zm (.z lG (.z zg (.nil ?_))))))))
 refine .ret (Fin.oH Tryz.results299 rfl rfl ?_)
 exact ⟨bR,hs⟩
theorem qj{c:Int}(hs:St H w σ)(hc:0≤c∧c<4294967296):Cl Tryz.prog 297 [.int .u64 1,.int .u64 c] w fun v w'=>v= .tuple #[.int .u64 0,.int .u64 c]∧St H w' σ:=by
 refine Cl.o Tryz.func297 Tryz.ntmps297 ag2 ?_
 refine .ai (.z zg (.z zg (.nil ?_)))
 refine .seq (.cF ?_)
 refine .skip ?_
 refine nT ?_
 refine .ai (.z zm (.z zm ?_))
 refine .o (.call Tryz.call299 rfl (ou hs hc) ?_);rintro _ w ⟨rfl,hs⟩
 refine .z zm (.z zex (.z zex (.z zg (.z zg (.nil (.ai (.z zm (.z zm (.z zg ?_)))))))))
 refine .z zg (.nil ?_)
 refine .ret (Fin.oH Tryz.results297 rfl rfl ?_)
 exact ⟨rfl,hs⟩
theorem AS{c k:Nat}{z:Int}:let n:=min k (c - k);(List.replicate k z++List.replicate (c - k) 0).take k++List.replicate n z++(List.replicate k z++List.replicate (c - k) 0).drop (k+n)=List.replicate (k+n) z++List.replicate (c - (k+n)) (0:Int):=by
 intro n
 have hn:n≤c - k:=Nat.min_le_right _ _
 have e0:(List.replicate k z).length=k:=by simp
 rw [List.take_left' e0]
 have e1:(List.replicate k z++List.replicate (c - k) 0).drop (k+n)=List.replicate (c - (k+n)) (0:Int):=by
  rw [show k+n=(List.replicate k z).length+n by simp,List.drop_append]
  simp
  omega
 rw [e1,List.replicate_append_replicate]
theorem p8{z:Int}{bx c:Nat}(hs:St H w σ)(hm:Mem σ (.blk bx (Is [z])))(h1:1≤c)(h2:c≤1000000):Cl Tryz.prog 288 [.slice (some ⟨bx,0,none⟩) 1 1,I c] w fun v w'=>∃b,v= .slice (some ⟨b,0,none⟩) c c∧St H w' (.blk b (Is (List.replicate c z))::σ):=by
 refine Cl.o Tryz.func288 Tryz.ntmps288 ag2 ?_
 refine .ai (.z zg (.nil (.seq (.ai (.z zm (.z ik (.nil ?_)))))))
 refine (.cg rfl (fun hc10=>?_) (fun hc10=>?_))
 ·omega
 ·refine .skip ?_
  refine nT ?_
  refine .ai (.z zm (.z (cS ad) ?_))
  first|refine .q hs (xg rfl aV dY ⟨aj,aj⟩) ?_|refine .q hs (xf rfl aV dY ⟨aj,aj⟩) ?_|refine .q hs (vX rfl aV dY) ?_
  refine .z zm ?_
  first|refine .q hs (xg rfl aV dY ⟨aj,aj⟩) ?_|refine .q hs (xf rfl aV dY ⟨aj,aj⟩) ?_|refine .q hs (vX rfl aV dY) ?_
  refine .o (.call Tryz.call297 rfl (qj (c:=c) hs aj) ?_);rintro _ w ⟨rfl,hs⟩
  refine .z zm (.z zex (.z zex (.z zg (.z zg (.nil (.seq (.ai (.z zm (.z qN ?_)))))))))
  refine .z zm ?_
  refine .j7 (t':=23) rfl (fun hb23=>?_) (fun hb23=>?_)
  ·refine .gFs 2 2 false rfl rfl rfl ?_
   refine .z zpT (.nil ?_)
   refine (.cT ?_)
   first|omega|(simp at hc26;omega)
  ·refine .gT rfl rfl ?_
   refine .z zm ?_
   refine .gT rfl rfl ?_
   refine .z qN (.z zpF (.nil ?_))
   refine (.cg rfl (fun hc26=>?_) (fun hc26=>?_))
   ·first|omega|(simp at hc26;omega)
   ·refine .skip ?_
    refine nT ?_
    refine .ai (.z zm ?_)
    first|refine .q hs (xg rfl dY aV ⟨aj,aj⟩) ?_|refine .q hs (xf rfl dY aV ⟨aj,aj⟩) ?_|refine .q hs (vX rfl dY aV) ?_
    refine .o (.so c hs rfl rfl ad eM rfl af bE aj fun b30 w hs=>?_)
    refine .z zg (.nil (.ai (.z zm (.z zm ?_))))
    refine .o (.E6 (k:=1) (xs:=List.replicate c 0) (zs:=[z]) hs rfl rfl ⟨_,_,rfl⟩ ad af aj rfl (wB (xs:=[z]) (.there hm) rfl rfl) (by simp;omega) ?_);intro w hs
    refine .z zg (.nil (.seq (.block ?_)))
    refine .loop (fun k:Nat=>⟨48,[],[(8,I k),(7,.slice (some ⟨b30,0,none⟩) c c)]⟩) (fun k w=>(1≤k∧k≤c)∧St H w (.blk b30 (Is (List.replicate k z++List.replicate (c - k) 0))::σ)) (fun k=>c - k) 1 bA ⟨⟨aj,aj⟩,by
      have e:List.take 0 (List.replicate c (0:Int))++[z]++List.drop (0+1) (List.replicate c 0)=List.replicate 1 z++List.replicate (c - 1) 0:=by simp
      rw [e] at hs;exact hs⟩ ?_
    rintro k w ⟨⟨k1,k2⟩,hs⟩
    refine .seq (.ai (.z zm (.z zm (.z (cS ad) (.z ik (.nil ?_))))))
    refine (.cg rfl (fun hc37=>?_) (fun hc37=>?_))
    ·refine .skip ?_
     refine nT ?_
     refine .block ?_
     refine .draw mix rfl hs fun w hs=>?_
     refine .z 0 rfl zm ?_;refine .z 1 rfl zm ?_;refine .z 2 rfl zm ?_
     refine .z 3 rfl (vV (k:=k) rfl rfl ad af aj aj) ?_
     refine .z 4 rfl zm ?_;refine .z 5 rfl zm ?_
     refine .z 6 rfl (sh (k:=k) rfl rfl ad af aj) ?_
     refine .E 7 hs ?_
     refine .E6 (k:=min k (c - k)) (xs:=List.replicate k z++List.replicate (c - k) 0) (zs:=List.replicate (min k (c - k)) z) hs rfl rfl ⟨_,_,rfl⟩ ad af rfl bR (wB (xs:=List.replicate k z++List.replicate (c - k) 0) .here (by rw [List.drop_zero,List.take_append_of_le_length (by simp;omega)];simp) bR) (by simp;omega) ?_;intro w hs
     refine .go ?_
     refine .z 8 rfl cC ?_;refine .z 9 rfl zg ?_;refine .D hs ?_
     refine nB (nT ?_)
     exact ⟨k+min k (c - k),bA,⟨⟨aj,aj⟩,by
       have e:=AS (z:=z) (c:=c) (k:=k)
       simp only [Nat.mul_one,Nat.zero_add] at hs
       rw [e] at hs;exact hs⟩,aj⟩
    ·refine .exit ?_
     refine xT (xT (xB (nT ?_)))
     refine .ai (.z zm (.z zg (.nil ?_)))
     refine .ret (Fin.bD Tryz.results288 rfl ?_)
     obtain rfl:k=c:=by omega
     exact ⟨b30,rfl,by simpa using hs⟩
theorem p9{v:Value}{xs:List Int}(hs:St H w σ)(hr:RI H v xs)(hx:xs.length≤17592186044416):Cl Tryz.prog 197 [v] w fun u w'=>∃en,(EX v=true→EX u=true)∧bQ 1 u (Is xs) en∧St H w' (en::σ):=by
 obtain ⟨a,c,rfl⟩:=RI.shape hr
 have hl:=(RI.len hr).2.2
 refine Cl.o Tryz.func197 Tryz.ntmps197 ag1 ?_
 refine .ai (.z zg (.nil (.seq (.ai (.z zm ?_)))))
 refine .q hs (EP rfl rfl ad) ?_
 refine .nil ?_
 refine (.cond rfl (fun hc4=>?_) (fun hc4=>?_))
 ·refine .ai (.z zg (.nil ?_))
  refine .ret (rT (Fin.bD Tryz.results197 rfl ?_))
  obtain rfl:a=none:=by simpa using hc4
  obtain rfl:=hr.FN
  exact ⟨.nul,fun h=>h,.nil 1 none,hs.nul⟩
 ·refine .skip ?_
  refine nT ?_
  refine .ai ?_
  refine .o (.buildSlice (cells:=[]) hs qJ rfl rfl fun b5 w hs=>?_)
  refine .z zm ?_
  refine .o (.Bc (xs:=[]) (ys:=Is xs) hs bH rfl rfl (.full rfl) (.ints hr) (by simp [Value.oneCell']) (fun l h=>by simp at h;omega) ?_);intro v7 en7 w hnn hO hs
  refine .z zg (.nil ?_)
  refine .ret (Fin.bD Tryz.results197 rfl ?_)
  exact ⟨en7,fun _=>hnn rfl,hO,hs⟩
theorem lI{v:Value}{xs:List Int}(hs:St H w σ)(hr:RI H v xs)(hx:xs.length≤17592186044416):Cl Tryz.prog 197 [v] w fun v w'=>∃en,bQ 1 v (Is xs) en∧St H w' (en::σ):=
 (p9 hs hr hx).mono fun _ _ ⟨en,_,h⟩=>⟨en,h⟩
theorem nY{v:Value}{l:List Arc}{en:Ent}(hs:St H w (en::σ))(ho:bQ 4 v (iF l) en)(hl:l.length≤1000000):
  Cl Tryz.prog 289 [v] w fun _ w'=>∃en',bQ 4 v (iF l.reverse) en'∧St H w' (en'::σ):=by
 rcases ho with ⟨a,rfl,h2,rfl⟩|⟨b,len,cap,sp,rfl,rfl,h2,h3,h4⟩
 ·obtain rfl:l=[]:=by
   have:=congrArg List.length h2
   rw [df] at this
   exact List.length_eq_zero_iff.1 (by simp at this;omega)
  have hs:=hs.tail
  refine Cl.o Tryz.func289 Tryz.ntmps289 ag1 ?_
  refine .ai (.z zm (.z (cS az) (.z iK (.z zg (.z zg (.nil (.block ?_)))))))
  refine .loop (fun _:Unit=>⟨28,[],[(2,I 0),(3,I (-1))]⟩) (fun _ w=>St H w σ) (fun _=>0) () bA hs ?_
  rintro _ w hs
  refine .seq (.ai (.z zm (.z zm (.z ik (.nil ?_)))))
  refine (.cg rfl (fun hc9=>?_) (fun hc9=>?_))
  ·omega
  ·refine .exit ?_
   refine xT (xT (xB ?_))
   exact Fin.wW Tryz.results289 ⟨.nul,.nil 4 a,hs.nul⟩
 obtain rfl:len=l.length:=by rw [df] at h2;omega
 refine Cl.o Tryz.func289 Tryz.ntmps289 ag1 ?_
 refine .ai (.z zm (.z (cS az) (.z iK (.z zg (.z zg (.nil (.block ?_)))))))
 refine .loop (fun p:Nat×List Arc=>⟨28,[],[(2,I p.1),(3,I ((l.length:Int) - 1 - p.1)),(0,.slice (some ⟨b,0,none⟩) l.length cap)]⟩) (fun p w=>(2*p.1≤l.length+1∧qL l p.2 p.1)∧St H w (.blk b (iF p.2++sp)::σ)) (fun p=>l.length - p.1) (0,l) (.cons rfl (.cR rfl bR (.cons rfl (.nil rfl rfl)))) ⟨⟨bR,.start l⟩,hs⟩ ?_
 rintro ⟨i,L⟩ w ⟨⟨h5,h6⟩,hs⟩
 dsimp only at h5 h6 hs ⊢
 have hL:=h6.1
 refine .seq (.ai (.z zm (.z zm (.z ik (.nil ?_)))))
 refine (.cg rfl (fun hc9=>?_) (fun hc9=>?_))
 ·refine .skip ?_
  refine nT ?_
  refine .seq (.block ?_)
  refine .draw mix rfl hs fun w hs=>?_
  refine .z 0 rfl zm ?_;refine .z 1 rfl zm ?_;refine .z 2 rfl zm ?_;refine .z 3 rfl zm ?_;refine .z 4 rfl zm ?_;refine .z 5 rfl zm ?_
  refine .z 6 rfl (tA (k:=l.length - 1 - i) rfl rfl az aF aj aj) ?_
  refine .xn (i:=7) (vs:=(ga L (l.length - 1 - i)).v) hs rfl an .none rfl fY aF ?_ (hv:=sN aj sp)
  refine .z 8 rfl zm ?_;refine .z 9 rfl zm ?_
  first|(refine .ixw 10 rfl hs az aF ?_;intro b24 o24 hc24)|refine .z 10 rfl (wS az aF) ?_
  refine .xn (i:=11) (vs:=(ga L i).v) hs rfl an .none rfl fY aF ?_ (hv:=sN aj sp)
  first|(refine .ixw 12 rfl hs az aF ?_;intro b26 o26 hc26)|refine .z 12 rfl (wS az aF) ?_
  refine .E 13 hs ?_
  refine .aQ (vs:=(ga L (l.length - 1 - i)).v) hs rfl rfl aF ?_ dJ (sI aj sp) (qA aj _ sp);intro w hs
  refine .go ?_
  refine .z 14 rfl (tA (k:=l.length - 1 - i) rfl rfl az aF aj aj) ?_
  refine .E 15 hs ?_
  refine .aQ (vs:=(ga L i).v) hs rfl rfl aF ?_ dJ (sI (by simp;omega) sp) (qA (by simp;omega) _ sp);intro w hs
  refine .go ?_
  refine .D hs ?_
  refine nB (nT ?_)
  refine .region (.z zm (.z cC (.z zm (.z iK (.z zg (.z zg (.nil ?_)))))))
  refine nT ?_
  exact ⟨(i+1,_),.cons rfl (.cR rfl (by push_cast;omega) (.cons rfl (.nil rfl rfl))),⟨⟨by dsimp only;omega,h6.step aj⟩,hs⟩,by dsimp only;omega⟩
 ·refine .exit ?_
  refine xT (xT (xB ?_))
  rw [h6.done aj] at hs
  exact Fin.wW Tryz.results289 ⟨_,.inr ⟨b,l.length,cap,sp,rfl,rfl,by rw [df];simp,by rw [←h3];simp [df],h4⟩,hs⟩
theorem l7{H:bJ}{b1 bf bt bl cl:Nat}{s:bV}{ts lf:List Int}{vl:Value}{sp:List Value}(hok:s.Ok)(hb:Row H b1 [.pointer (some ⟨bf,0,none⟩)])(hF:re H bf s ts lf vl bt bl cl sp)(hlt:ts.length=s.bK.length):
  ItA Tryz.prog 270 [.pointer (some ⟨b1,0,none⟩)] H (dy s.cj ts):=by
 intro l II Ix hmI hmX hy H0 σb0 σf w hle hI0 hs
 have hb0:cellAt H0 b1 0=some (.pointer (some ⟨bf,0,none⟩)):=(hb.mono hle).at 0
 have hF0:=hF.mono hle
 have hsys:=hF0.f.cells 0 [I s.many,vl]
 have hlen:s.cj.length=ts.length:=by simp [bV.cj,dw,hlt]
 refine Cl.o Tryz.func270 Tryz.ntmps270 ag2 ?_
 refine .ai ?_
 refine .bx hs fun b2 w hs=>?_
 refine .nil (.ai (.y hs (zld pU) (.z znc (.z (zfa eH) ?_))))
 refine .q hs (bY (vs:=[I s.many,vl]) rfl a8 aH hsys) ?_
 refine .o (.call Tryz.call127 rfl (jz (s:=s) hs hok ⟨vl,rfl,hF0.l⟩) ?_);rintro _ w ⟨H1,b8,hle1,rfl,hit,hs⟩
 refine .nil (.block ?_)
 refine .rangeFunc (gf:=203) (cap:=[.pointer (some ⟨b8,0,none⟩)]) (xs:=s.cj.map fun x:Arc=>[Value.agg x.v.toArray]) (σb:= .blk b2 [.func (.yield l) #[] #[]]::σb0) (σf:=σf) hs trivial rfl hit Tryz.call203 bR rfl
  (I:=fun k H' σb=>∃σo,σb= .blk b2 [.func (.yield l) #[] #[]]::σo∧HLe H0 H'∧II (yd s.cj ts k) H' σo)
  (Ix:=fun c H' σb=>c= .ret∧∃σo,σb= .blk b2 [.func (.yield l) #[] #[]]::σo∧HLe H0 H'∧Ix H' σo)
  (fun k _ _ σ g1 ⟨σo,g2,g3,g4⟩=>⟨σo,g2,g3.trans g1,hmI _ _ _ _ g1 g4⟩) (fun c _ _ σ g1 ⟨g0,σo,g2,g3,g4⟩=>⟨g0,σo,g2,g3.trans g1,hmX _ _ _ g1 g4⟩)
  ⟨σb0,rfl,hle1,by rw [As];exact hmI _ _ _ _ hle1 hI0⟩ ?_ ?_ ?_
 ·rintro l2 k hk H2 σb2 σf2 w hle2 ⟨σo,rfl,hle0,hIk⟩ hs ⟨rr,hrr⟩
  obtain ⟨x,hx⟩:=nth (l:=s.cj) (by simpa using hk)
  obtain ⟨c1,c2,c3,c4,c5,c6⟩:=hok.cj.2 x (List.mem_of_getElem? hx)
  have hxk:(s.cj.map fun x=>[Value.agg x.v.toArray])[k]=[.agg x.v.toArray]:=by rw [List.getElem_map];rw [List.getElem?_eq_some_iff] at hx;obtain ⟨h1,h2⟩:=hx;rw [h2]
  rw [hxk]
  have hkt:k<ts.length:=by rw [←hlen];simpa using hk
  have hxl:x.l=(k:Int):=pO hx
  obtain ⟨r1,r2,r3⟩:=Af (ts:=ts) hx hkt
  refine .region ?_
  refine .o (.alloc hs dH rfl fun b3 w hs=>?_)
  refine .o (.aQ (vs:=x.v) hs rfl rfl aF fun w hs=>?_)
  refine .nil ?_
  refine nT ?_
  refine ⟨H2,.blk b3 x.v:: .blk b2 [.func (.yield l) #[] #[]]::σo,HLe.refl _,hs,?_⟩;rintro w σf2 - hs
  refine .block (.seq (.ai ?_))
  refine .y hs (zld Tryz.isAgg245) ?_
  refine .q hs (jT (vs:=x.v) rfl fY aF) ?_
  have hyd:=hy (yd s.cj ts k) (by simpa using (List.getElem?_eq_some_iff.1 r1).1) H2 σo (.blk b3 x.v:: .blk b2 [.func (.yield l) #[] #[]]::σf2) w (hle.trans hle0) hIk (St.deep (σ1:=σo) (St.deep (σ1:= .blk b3 x.v::σo) (hs.perm (.swap _ _ _))))
  rw [AB r1] at hyd
  refine .o (.yield (vs:=[.agg x.v.toArray]) rfl rfl hyd ?_);rintro v12 w ⟨H3,σ3,hle3,hs,g3⟩
  obtain ⟨bb,rfl,gT,gF⟩:=nR g3
  replace hs:St H3 w (.blk b3 x.v:: .blk b2 [.func (.yield l) #[] #[]]::(σ3++σf2)):=(St.shallow (σ1:= .blk b3 x.v::σ3) (St.shallow (σ1:=σ3) hs)).perm (.swap _ _ _)
  refine .z iU (.nil ?_)
  refine (.cond rfl (fun hc13=>?_) (fun hc13=>?_))
  ·refine .ret (rT (rB (?_)))
   exact ⟨H3,.blk b2 [.func (.yield l) #[] #[]]::σ3,hle3,hs.tail,rfl,σ3,rfl,hle0.trans hle3,gF (by simpa using hc13)⟩
  ·refine .skip ?_
   refine nT ?_
   refine .seq (.draw mix rfl hs fun w hs=>?_)
   have hb3:cellAt H3 b1 0=some (.pointer (some ⟨bf,0,none⟩)):=cellAt.mono hb0 (hle0.trans hle3)
   have hf3:cellAt H3 bf 2=some (.slice (some ⟨bt,0,none⟩) ts.length ts.length):=((hF0.mono (hle0.trans hle3)).f).at 2
   have ht3:cellAt H3 bt k=some (I (gi ts k)):=((hF0.mono (hle0.trans hle3)).t).at k (iE hkt)
   have hI3:=gT (by simpa using hc13)
   refine .r (i:=0) hs rfl an .none (aZ rfl pU hb3) ?_
   refine .z 1 rfl znc ?_;refine .z 2 rfl (zfa fl) ?_;refine .y 3 rfl hs ak ?_;refine .z 4 rfl (zfa dr) ?_;refine .y 5 rfl hs ae ?_
   refine .z 6 rfl (ij (k:=k) rfl rfl ad af hxl hkt) ?_
   refine .r (i:=7) hs rfl an .none (aZ rfl ae ht3) ?_
   refine .z 8 rfl qN ?_;refine .z 9 rfl zm ?_
   refine .j7 (t':=23) rfl (fun hb23=>?_) (fun hb23=>?_)
   ·refine .y 10 rfl hs Tryz.isAgg245 ?_
    refine .z 11 rfl (zfa cM) ?_;refine .y 12 rfl hs ae ?_;refine .z 13 rfl (zfa cH) ?_;refine .y 14 rfl hs ae ?_;refine .z 15 rfl (zfa eG) ?_;refine .y 16 rfl hs ae ?_;refine .z 17 rfl xP ?_;refine .z 18 rfl (zfa dr) ?_;refine .y 19 rfl hs ae ?_;refine .z 20 rfl (zbd [_,_,_,_] nM) ?_
    refine .E 21 hs ?_
    obtain ⟨r4,r5⟩:=r2 hb23
    have hyd:=hy (yd s.cj ts k+1) (by simpa using (List.getElem?_eq_some_iff.1 r4).1) H3 σ3 (.blk b3 x.v:: .blk b2 [.func (.yield l) #[] #[]]::σf2) w (hle.trans (hle0.trans hle3)) hI3 (St.deep (σ1:=σ3) (St.deep (σ1:= .blk b3 x.v::σ3) (hs.perm (.swap _ _ _))))
    rw [AB r4] at hyd
    refine .yield (vs:=[.agg x.back.v.toArray]) rfl rfl hyd ?_;rintro v35 w ⟨H4,σ4,hle4,hs,g4⟩
    obtain ⟨bb4,rfl,gT4,gF4⟩:=nR g4
    replace hs:St H4 w (.blk b3 x.v:: .blk b2 [.func (.yield l) #[] #[]]::(σ4++σf2)):=(St.shallow (σ1:= .blk b3 x.v::σ4) (St.shallow (σ1:=σ4) hs)).perm (.swap _ _ _)
    refine .go ?_
    refine .z 22 rfl iU ?_;refine .z 23 rfl zpT ?_;refine .D hs ?_
    refine (.cond rfl (fun hc37=>?_) (fun hc37=>?_))
    ·refine .ret (rB (?_))
     exact ⟨H4,.blk b2 [.func (.yield l) #[] #[]]::σ4,hle3.trans hle4,hs.tail,rfl,σ4,rfl,hle0.trans (hle3.trans hle4),gF4 (by simpa using hc37)⟩
    ·refine .skip ?_
     refine nB ?_
     exact ⟨H4,.blk b2 [.func (.yield l) #[] #[]]::σ4,hle3.trans hle4,hs.tail,σ4,rfl,hle0.trans (hle3.trans hle4),by rw [r5];exact gT4 (by simpa using hc37)⟩
   ·refine .qF (i:=10) rfl an rfl rfl ?_
    refine .qF (i:=11) rfl an rfl rfl ?_
    refine .qF (i:=12) rfl an rfl rfl ?_
    refine .qF (i:=13) rfl an rfl rfl ?_
    refine .qF (i:=14) rfl an rfl rfl ?_
    refine .qF (i:=15) rfl an rfl rfl ?_
    refine .qF (i:=16) rfl an rfl rfl ?_
    refine .qF (i:=17) rfl an rfl rfl ?_
    refine .qF (i:=18) rfl an rfl rfl ?_
    refine .qF (i:=19) rfl an rfl rfl ?_
    refine .qF (i:=20) rfl an rfl rfl ?_
    refine .qF (i:=21) rfl an rfl rfl ?_
    refine .qF (i:=22) rfl an rfl rfl ?_
    refine .z 23 rfl zpF ?_;refine .D hs ?_
    refine (.cF ?_)
    refine .skip ?_
    refine nB ?_
    exact ⟨H3,.blk b2 [.func (.yield l) #[] #[]]::σ3,hle3,hs.tail,σ3,rfl,hle0.trans hle3,by rw [r3 hb23];exact hI3⟩
 ·rintro D H2 σb2 w hle2 ⟨σo,rfl,hle0,hIk⟩ hs
  refine nB ?_
  exact Fin.Fo [D] [] hs.xU fun w hs=>⟨_,results0 Tryz.results270,H2,σo,hle0,hs,.inl (by simpa [Cb hlen] using hIk)⟩
 ·rintro D c H2 σb2 w hle2 ⟨rfl,σo,rfl,hle0,hx⟩ hs
  exact .ret (rB (Fin.gV [D] [] hs.xU fun w hs=>⟨_,results0 Tryz.results270,H2,σo,hle0,hs,.inr hx⟩))
theorem jG{bf bt bl cl:Nat}{s:bV}{ts lf:List Int}{vl:Value}{sp:List Value}(hs:St H w σ)(hok:s.Ok)(hF:re H bf s ts lf vl bt bl cl sp)(hlt:ts.length=s.bK.length):
  Cl Tryz.prog 223 [.pointer (some ⟨bf,0,none⟩)] w fun v w'=>∃H1 b,HLe H H1∧v= .func (.func 270) #[] #[.pointer (some ⟨b,0,none⟩)]∧ItA Tryz.prog 270 [.pointer (some ⟨b,0,none⟩)] H1 (dy s.cj ts)∧St H1 w' σ:=by
 refine Cl.o Tryz.func223 Tryz.ntmps223 ag1 ?_
 refine .ai ?_
 refine .bx hs fun b1 w hs=>?_
 refine .z zg (.nil (.ai ?_))
 refine .q hs (da (f:=[]) (c:=[_]) rfl rfl) ?_
 refine .z zg (.nil ?_)
 refine .ret (Fin.bD Tryz.results223 rfl ?_)
 obtain ⟨H1,g1,g2,hs⟩:=hs.bX .here
 exact ⟨H1,b1,g1,rfl,l7 hok g2 (hF.mono g1) hlt,hs⟩
theorem oA{bf bt bl cl to:Nat}{s:bV}{ts lf:List Int}{vl:Value}{sp:List Value}(hs:St H w σ)(hok:s.Ok)(hF:re H bf s ts lf vl bt bl cl sp)(hlt:ts.length=s.bK.length)(hll:lf.length=s.n)
  (hD:∃p,fH (dy s.cj ts) p) (hto:to<s.n) (hpos:0<gi lf to):
  Cl Tryz.prog 268 [.pointer (some ⟨bf,0,none⟩),I to] w fun v w'=>∃H1 p en,HLe H H1∧bQ 4 v (iF p) en∧St H1 w' (en::σ)∧FT s.n s.cj ts lf p to:=by
 obtain ⟨N,hN⟩:=Int.eq_ofNat_of_zero_le hok.m0
 have hN1:=hok.m1
 have hn:s.n=N+1:=by simp [bV.n,hN]
 have hoka:=hok.cj
 have hlen:s.cj.length=ts.length:=by simp [bV.cj,dw,hlt]
 rw [hn] at hoka hll hto ⊢
 obtain ⟨D,hg⟩:=xV aj aj hoka hlen hD
 have hf0:cellAt H bf 0=some (I (N:Int)):=by have:=hF.f.at 0 (v:=I s.many);rwa [hN] at this
 have hf3:cellAt H bf 3=some (.slice (some ⟨bl,0,none⟩) lf.length cl):=hF.f.at 3
 refine Cl.o Tryz.func268 Tryz.ntmps268 ag2 ?_
 refine .ai ?_
 refine .bx hs fun b2 w hs=>?_
 refine .z zg (.nil (.ai ?_))
 refine .o (.buildSlice (cells:=[_]) hs bP rfl rfl fun b13 w hs=>?_)
 refine .y hs (zld pU) (.z znc (.z (zfa eH) (.z (zfa bw) (.y hs (zld ae) (.z cC ?_)))))
 refine .o (.call Tryz.call288 rfl (p8 (z:=far) (c:=N+1) hs .here aj aj) ?_);rintro _ w ⟨bc,rfl,hs⟩
 refine .o (.alloc hs dD rfl fun b5 w hs=>?_)
 refine .o (.store hs rfl rfl aC fun w hs=>?_)
 refine .nil (.ai (.y hs (zld pU) (.z znc (.z (zfa eH) (.z (zfa bw) (.y hs (zld ae) (.z cC ?_)))))))
 refine .o (.Cj (N+1) hs rfl rfl az xO rfl aF dH aj fun b27 w hs=>?_)
 refine .o (.alloc hs Tryz.zeroValue182 rfl fun b6 w hs=>?_)
 refine .o (.store hs rfl rfl te fun w hs=>?_)
 refine .nil (.seq (.ai (.y hs (zld pU) (.z znc (.z (zfa dt) (.y hs (zld ak) (.z (cS ad) (.z zm (.nil ?_)))))))))
 refine .for (N:=lf.length) (J:=fun k fr w=>fr=[(31,.slice (some ⟨bl,0,none⟩) lf.length cl),(5,.pointer (some ⟨b5,0,none⟩)),(6,.pointer (some ⟨b6,0,none⟩)),(2,.pointer (some ⟨b2,0,none⟩)),(1,I to)]∧∃st,sK (N+1) lf k st∧St H w (.blk b6 [.slice (some ⟨b27,0,none⟩) (N+1) (N+1)]:: .blk b27 (iF st.by_):: .blk b5 [.slice (some ⟨bc,0,none⟩) (N+1) (N+1)]:: .blk bc (Is st.cost):: .blk b2 [.pointer (some ⟨bf,0,none⟩)]::σ)) aj ?_ ?_ ?_
 ·exact .mk ⟨rfl,_,.start _ _,hs.sb⟩
 ·rintro k fr w hk ⟨rfl,st,hI,hs⟩
  have hck:cellAt H bl k=some (I (gi lf k)):=hF.d.at k (Bh (bL hk) sp)
  have hlc:=hI.lc
  have hlb:=hI.lb
  have hkb:k<st.by_.length:=by omega
  refine .block (.ai (.z zm ?_))
  first|(refine .ixv hs ad af ?_;intro b36 o36 hc36)|refine .z (zix ad af) ?_
  refine .q hs (aZ rfl ae hck) ?_
  refine .z zg (.z zg (.nil (.ai (.z zm (.z ik (.nil ?_))))))
  refine (.cg rfl (fun hc39=>?_) (fun hc39=>?_))
  ·refine .ai (.y hs (zld ak) (.z zm ?_))
   first|(refine .ixv hs ad af ?_;intro b42 o42 hc42)|refine .z (zix ad af) ?_
   refine .o (.store hs rfl rfl af fun w hs=>?_)
   refine .nil (.region (.y hs (zld eK) (.z zm ?_)))
   first|(refine .ixw hs az aF ?_;intro b45 o45 hc45)|refine .z (wS az aF) ?_
   refine .z (zfa dr) ?_
   refine .o (.store hs rfl rfl af ?_ dJ (yP hkb aj) (wO hkb _));intro w hs
   refine .nil ?_
   refine nB (nT ?_)
   exact .mk ⟨rfl,_,hI.take aj hc39,hs⟩
  ·refine .skip ?_
   refine nB (nT ?_)
   exact .mk ⟨rfl,_,hI.skip hc39,hs⟩
 ·rintro fr w ⟨rfl,st0,hI0,hs⟩
  rw [hll] at hI0
  have hW0:=hI0.inv hg
  refine nT ?_
  refine .seq (.ai ?_)
  refine .o (.alloc hs Tryz.zeroValue4 rfl fun b9 w hs=>?_)
  refine .o (.store hs rfl rfl nz fun w hs=>?_)
  refine .nil (.block ?_)
  refine .loop (fun p:Nat×List Nat×bJ×BS×Bool=>⟨141,marks p.2.1,[(9,.pointer (some ⟨p.1,0,none⟩)),(5,.pointer (some ⟨b5,0,none⟩)),(6,.pointer (some ⟨b6,0,none⟩)),(2,.pointer (some ⟨b2,0,none⟩)),(1,I to)]⟩)
   (fun p w=>HLe H p.2.2.1∧(∃j,rK (N+1) (dy s.cj ts) (fun v=>gi lf v<0) D j p.2.2.2.2 p.2.2.2.1∧(p.2.2.2.2=false→j=(dy s.cj ts).length))∧
    St p.2.2.1 w (.blk p.1 [.bool p.2.2.2.2]:: .blk b6 [.slice (some ⟨b27,0,none⟩) (N+1) (N+1)]:: .blk b27 (iF p.2.2.2.1.by_):: .blk b5 [.slice (some ⟨bc,0,none⟩) (N+1) (N+1)]:: .blk bc (Is p.2.2.2.1.cost):: .blk b2 [.pointer (some ⟨bf,0,none⟩)]::(mes p.2.1++σ)))
   (fun p=>2*WM (N+1) D p.2.2.2.1+(if p.2.2.2.2=true then 1 else 0)) (b9,[],H,st0,true) bA ⟨HLe.refl _,⟨0,hW0,fun h=>by cases h⟩,hs⟩ ?_
  rintro ⟨b9,Ds,H1,st,ag⟩ w ⟨hle1,⟨j,hW,hj⟩,hs⟩
  dsimp only at hle1 hW hj hs ⊢
  have hlc:=hW.lc
  have hlb:=hW.lb
  refine .seq (.ai (.y hs (zld l9) (.nil ?_)))
  refine (.cond rfl (fun hc48=>?_) (fun hc48=>?_))
  ·refine .skip ?_
   refine nT ?_
   refine .seq (.block (.ai ?_))
   subst hc48
   refine .o (.store hs rfl rfl nz fun w hs=>?_)
   refine .nil (.ai (.y hs (zld pU) ?_))
   refine .o (.call Tryz.call223 rfl (jG hs hok (hF.mono hle1) hlt) ?_);rintro _ w ⟨H2,b50,hle2,rfl,hit,hs⟩
   refine .nil (.block ?_)
   refine .rangeFunc (gf:=270) (cap:=[.pointer (some ⟨b50,0,none⟩)]) (xs:=(dy s.cj ts).map fun x:Arc=>[Value.agg x.v.toArray])
    (σb:=[.blk b9 [.bool false],.blk b6 [.slice (some ⟨b27,0,none⟩) (N+1) (N+1)],.blk b27 (iF st.by_),.blk b5 [.slice (some ⟨bc,0,none⟩) (N+1) (N+1)],.blk bc (Is st.cost),.blk b2 [.pointer (some ⟨bf,0,none⟩)]]) (σf:=mes Ds++σ) hs trivial rfl hit Tryz.call270 bR rfl
    (I:=fun k H' σb=>HLe H2 H'∧∃st' ag,σb=[.blk b9 [.bool ag],.blk b6 [.slice (some ⟨b27,0,none⟩) (N+1) (N+1)],.blk b27 (iF st'.by_),.blk b5 [.slice (some ⟨bc,0,none⟩) (N+1) (N+1)],.blk bc (Is st'.cost),.blk b2 [.pointer (some ⟨bf,0,none⟩)]]∧
     rK (N+1) (dy s.cj ts) (fun v=>gi lf v<0) D k ag st'∧WM (N+1) D st'≤WM (N+1) D st∧(ag=true→WM (N+1) D st'<WM (N+1) D st)) (Ix:=fun _ _ _=>False)
    (by rintro k _ _ σ g1 ⟨g2,g3⟩;exact ⟨g2.trans g1,g3⟩) (fun _ _ _ _ _ h=>h) ⟨HLe.refl _,st,false,rfl,hW.next,Nat.le_refl _,fun h=>by cases h⟩ ?_ ?_ (fun D c H' σb w _ h _=>h.elim)
   ·rintro l k hk H3 σb3 σf3 w hle3 ⟨hle23,st',ag,rfl,hW',hm1,hm2⟩ hs ⟨rr,hrr⟩
    obtain ⟨x,hx⟩:=nth (l:=dy s.cj ts) (by simpa using hk)
    obtain ⟨c1,c2,c3,c4,c5,c6⟩:=hg.ok x (List.mem_of_getElem? hx)
    rw [AB hx]
    have hlc':=hW'.lc
    have hlb':=hW'.lb
    have lo1:=hW'.lo x.f c1
    have lo2:=hg.d1 x.f c1
    have hx3:cellAt H3 bl x.t=some (I (gi lf x.t)):=((hF.mono (hle1.trans (hle2.trans hle3))).d).at x.t (Bh (bL aj) sp)
    have hf33:cellAt H3 bf 3=some (.slice (some ⟨bl,0,none⟩) lf.length cl):=cellAt.mono hf3 (hle1.trans (hle2.trans hle3))
    refine .region ?_
    refine .o (.alloc hs dH rfl fun b10 w hs=>?_)
    refine .o (.aQ (vs:=x.v) hs rfl rfl aF fun w hs=>?_)
    refine .nil ?_
    refine nT ?_
    refine ⟨H3,[.blk b10 x.v,.blk b9 [.bool ag],.blk b6 [.slice (some ⟨b27,0,none⟩) (N+1) (N+1)],.blk b27 (iF st'.by_),.blk b5 [.slice (some ⟨bc,0,none⟩) (N+1) (N+1)],.blk bc (Is st'.cost),.blk b2 [.pointer (some ⟨bf,0,none⟩)]],HLe.refl _,hs,?_⟩;rintro w σf4 - hs
    refine .block ?_
    refine .seq (.draw mix rfl hs fun w hs=>?_)
    refine .y 0 rfl hs ak ?_;refine .z 1 rfl (zfa cH) ?_;refine .y 2 rfl hs ae ?_
    first|(refine .ixv 3 rfl hs ad af ?_;intro b55 o55 hc55)|refine .z 3 rfl (zix ad af) ?_
    refine .y 4 rfl hs ae ?_;refine .z 5 rfl ik ?_;refine .z 6 rfl zm ?_
    refine .j7 (t':=58) rfl (fun hb58=>?_) (fun hb58=>?_)
    ·refine .y 7 rfl hs ak ?_;refine .z 8 rfl (zfa cH) ?_;refine .y 9 rfl hs ae ?_
     first|(refine .ixv 10 rfl hs ad af ?_;intro b62 o62 hc62)|refine .z 10 rfl (zix ad af) ?_
     refine .y 11 rfl hs ae ?_;refine .z 12 rfl (zfa eG) ?_;refine .y 13 rfl hs ae ?_;refine .z 14 rfl cC ?_;refine .y 15 rfl hs ak ?_;refine .z 16 rfl (zfa cM) ?_;refine .y 17 rfl hs ae ?_
     first|(refine .ixv 18 rfl hs ad af ?_;intro b70 o70 hc70)|refine .z 18 rfl (zix ad af) ?_
     refine .y 19 rfl hs ae ?_;refine .z 20 rfl ik ?_;refine .z 21 rfl zpT ?_;refine .z 22 rfl zm ?_
     refine .j7 (t':=74) rfl (fun hb74=>?_) (fun hb74=>?_)
     ·refine .y 23 rfl hs pU ?_;refine .z 24 rfl znc ?_;refine .z 25 rfl (zfa dt) ?_;refine .y 26 rfl hs ak ?_;refine .z 27 rfl (zfa cM) ?_;refine .y 28 rfl hs ae ?_
      first|(refine .ixv 29 rfl hs ad af ?_;intro b81 o81 hc81)|refine .z 29 rfl (zix ad af) ?_
      refine .y 30 rfl hs ae ?_;refine .z 31 rfl xQ ?_;refine .z 32 rfl zm ?_
      refine .j7 (t':=84) rfl (fun hb84=>?_) (fun hb84=>?_)
      ·refine .qF (i:=33) rfl an rfl rfl ?_
       refine .qF (i:=34) rfl an rfl rfl ?_
       refine .qF (i:=35) rfl an rfl rfl ?_
       refine .qF (i:=36) rfl an rfl rfl ?_
       refine .qF (i:=37) rfl an rfl rfl ?_
       refine .qF (i:=38) rfl an rfl rfl ?_
       refine .qF (i:=39) rfl an rfl rfl ?_
       refine .qF (i:=40) rfl an rfl rfl ?_
       refine .qF (i:=41) rfl an rfl rfl ?_
       refine .z 42 rfl zpT ?_;refine .z 43 rfl zpT ?_;refine .D hs ?_
       refine (.cT ?_)
       refine .draw mix rfl hs fun w hs=>?_
       refine .y 0 rfl hs ak ?_;refine .z 1 rfl (zfa cM) ?_;refine .y 2 rfl hs ae ?_;refine .y 3 rfl hs eK ?_;refine .z 4 rfl (zfa cM) ?_;refine .y 5 rfl hs ae ?_;refine .y 6 rfl hs ak ?_;refine .z 7 rfl (zfa cH) ?_;refine .y 8 rfl hs ae ?_
       first|(refine .ixv 9 rfl hs ad af ?_;intro b105 o105 hc105)|refine .z 9 rfl (zix ad af) ?_
       refine .y 10 rfl hs ae ?_;refine .z 11 rfl (zfa eG) ?_;refine .y 12 rfl hs ae ?_;refine .z 13 rfl cC ?_
       refine .xn (i:=14) (vs:=x.v) hs rfl an .none rfl fY aF ?_
       first|(refine .ixv 15 rfl hs ad af ?_;intro b111 o111 hc111)|refine .z 15 rfl (zix ad af) ?_
       refine .E 16 hs ?_
       refine .store hs rfl rfl af ?_;intro w hs
       refine .go ?_
       first|(refine .ixw 17 rfl hs az aF ?_;intro b112 o112 hc112)|refine .z 17 rfl (wS az aF) ?_
       refine .E 18 hs ?_
       refine .aQ (vs:=x.v) hs rfl rfl aF ?_;intro w hs
       refine .go ?_
       refine .E 19 hs ?_
       refine .store hs rfl rfl nz ?_;intro w hs
       refine .go ?_
       refine .D hs ?_
       refine nB ?_
       have:=hW'.less hg hx hb58 hb74
       exact ⟨H3,_,HLe.refl _,hs.tail,hle23,st'.rlx x,true,rfl,hW'.vT hg hx hb58 hb74,aj,fun _=>by omega⟩
      ·refine .y 33 rfl hs ak ?_;refine .z 34 rfl (zfa cH) ?_;refine .y 35 rfl hs ae ?_
       first|(refine .ixv 36 rfl hs ad af ?_;intro b88 o88 hc88)|refine .z 36 rfl (zix ad af) ?_
       refine .y 37 rfl hs ae ?_;refine .z 38 rfl (zfa eG) ?_;refine .y 39 rfl hs ae ?_;refine .z 40 rfl cC ?_;refine .z 41 rfl ik ?_;refine .z 42 rfl zpF ?_;refine .z 43 rfl zpT ?_;refine .D hs ?_
       refine (.cg rfl (fun hc95=>?_) (fun hc95=>?_))
       ·refine .draw mix rfl hs fun w hs=>?_
        refine .y 0 rfl hs ak ?_;refine .z 1 rfl (zfa cM) ?_;refine .y 2 rfl hs ae ?_;refine .y 3 rfl hs eK ?_;refine .z 4 rfl (zfa cM) ?_;refine .y 5 rfl hs ae ?_;refine .y 6 rfl hs ak ?_;refine .z 7 rfl (zfa cH) ?_;refine .y 8 rfl hs ae ?_
        first|(refine .ixv 9 rfl hs ad af ?_;intro b105 o105 hc105)|refine .z 9 rfl (zix ad af) ?_
        refine .y 10 rfl hs ae ?_;refine .z 11 rfl (zfa eG) ?_;refine .y 12 rfl hs ae ?_;refine .z 13 rfl cC ?_
        refine .xn (i:=14) (vs:=x.v) hs rfl an .none rfl fY aF ?_
        first|(refine .ixv 15 rfl hs ad af ?_;intro b111 o111 hc111)|refine .z 15 rfl (zix ad af) ?_
        refine .E 16 hs ?_
        refine .store hs rfl rfl af ?_;intro w hs
        refine .go ?_
        first|(refine .ixw 17 rfl hs az aF ?_;intro b112 o112 hc112)|refine .z 17 rfl (wS az aF) ?_
        refine .E 18 hs ?_
        refine .aQ (vs:=x.v) hs rfl rfl aF ?_;intro w hs
        refine .go ?_
        refine .E 19 hs ?_
        refine .store hs rfl rfl nz ?_;intro w hs
        refine .go ?_
        refine .D hs ?_
        refine nB ?_
        have:=hW'.less hg hx hb58 hb74
        exact ⟨H3,_,HLe.refl _,hs.tail,hle23,st'.rlx x,true,rfl,hW'.vT hg hx hb58 hb74,aj,fun _=>by omega⟩
       ·refine .skip ?_
        refine nB ?_
        have:=hW'.src x.t c2 aj
        omega
     ·refine .qF (i:=23) rfl an rfl rfl ?_
      refine .qF (i:=24) rfl an rfl rfl ?_
      refine .qF (i:=25) rfl an rfl rfl ?_
      refine .qF (i:=26) rfl an rfl rfl ?_
      refine .qF (i:=27) rfl an rfl rfl ?_
      refine .qF (i:=28) rfl an rfl rfl ?_
      refine .qF (i:=29) rfl an rfl rfl ?_
      refine .qF (i:=30) rfl an rfl rfl ?_
      refine .qF (i:=31) rfl an rfl rfl ?_
      refine .qF (i:=32) rfl an rfl rfl ?_
      refine .qF (i:=33) rfl an rfl rfl ?_
      refine .qF (i:=34) rfl an rfl rfl ?_
      refine .qF (i:=35) rfl an rfl rfl ?_
      refine .qF (i:=36) rfl an rfl rfl ?_
      refine .qF (i:=37) rfl an rfl rfl ?_
      refine .qF (i:=38) rfl an rfl rfl ?_
      refine .qF (i:=39) rfl an rfl rfl ?_
      refine .qF (i:=40) rfl an rfl rfl ?_
      refine .qF (i:=41) rfl an rfl rfl ?_
      refine .qF (i:=42) rfl an rfl rfl ?_
      refine .z 43 rfl zpF ?_;refine .D hs ?_
      refine (.cF ?_)
      refine .skip ?_
      refine nB ?_
      exact ⟨H3,_,HLe.refl _,hs.tail,hle23,st',ag,rfl,hW'.skip hx (fun h=>hb74 h.2),hm1,hm2⟩
    ·refine .qF (i:=7) rfl an rfl rfl ?_
     refine .qF (i:=8) rfl an rfl rfl ?_
     refine .qF (i:=9) rfl an rfl rfl ?_
     refine .qF (i:=10) rfl an rfl rfl ?_
     refine .qF (i:=11) rfl an rfl rfl ?_
     refine .qF (i:=12) rfl an rfl rfl ?_
     refine .qF (i:=13) rfl an rfl rfl ?_
     refine .qF (i:=14) rfl an rfl rfl ?_
     refine .qF (i:=15) rfl an rfl rfl ?_
     refine .qF (i:=16) rfl an rfl rfl ?_
     refine .qF (i:=17) rfl an rfl rfl ?_
     refine .qF (i:=18) rfl an rfl rfl ?_
     refine .qF (i:=19) rfl an rfl rfl ?_
     refine .qF (i:=20) rfl an rfl rfl ?_
     refine .z 21 rfl zpF ?_;refine .z 22 rfl zm ?_
     refine .qF (i:=23) rfl an rfl rfl ?_
     refine .qF (i:=24) rfl an rfl rfl ?_
     refine .qF (i:=25) rfl an rfl rfl ?_
     refine .qF (i:=26) rfl an rfl rfl ?_
     refine .qF (i:=27) rfl an rfl rfl ?_
     refine .qF (i:=28) rfl an rfl rfl ?_
     refine .qF (i:=29) rfl an rfl rfl ?_
     refine .qF (i:=30) rfl an rfl rfl ?_
     refine .qF (i:=31) rfl an rfl rfl ?_
     refine .qF (i:=32) rfl an rfl rfl ?_
     refine .qF (i:=33) rfl an rfl rfl ?_
     refine .qF (i:=34) rfl an rfl rfl ?_
     refine .qF (i:=35) rfl an rfl rfl ?_
     refine .qF (i:=36) rfl an rfl rfl ?_
     refine .qF (i:=37) rfl an rfl rfl ?_
     refine .qF (i:=38) rfl an rfl rfl ?_
     refine .qF (i:=39) rfl an rfl rfl ?_
     refine .qF (i:=40) rfl an rfl rfl ?_
     refine .qF (i:=41) rfl an rfl rfl ?_
     refine .qF (i:=42) rfl an rfl rfl ?_
     refine .z 43 rfl zpF ?_;refine .D hs ?_
     refine (.cF ?_)
     refine .skip ?_
     refine nB ?_
     exact ⟨H3,_,HLe.refl _,hs.tail,hle23,st',ag,rfl,hW'.skip hx (fun h=>hb58 h.1),hm1,hm2⟩
   ·rintro D3 H3 σb3 w hle3 ⟨hle23,st',ag,rfl,hW',hm1,hm2⟩ hs
    replace hs:St H3 w (.blk b9 [.bool ag]:: .blk b6 [.slice (some ⟨b27,0,none⟩) (N+1) (N+1)]:: .blk b27 (iF st'.by_):: .blk b5 [.slice (some ⟨bc,0,none⟩) (N+1) (N+1)]:: .blk bc (Is st'.cost):: .blk b2 [.pointer (some ⟨bf,0,none⟩)]::(mes (D3::Ds)++σ)):=St.deep (σ1:=[_,_,_,_,_,_]) hs
    rw [List.length_map] at hW'
    refine nB (nB (nT ?_))
    refine .ai (.y hs (zld l9) (.nil (.region ?_)))
    refine .o (.alloc hs Tryz.zeroValue4 rfl fun b9 w hs=>?_)
    refine .o (.store hs rfl rfl nz fun w hs=>?_)
    refine .nil ?_
    refine nT ?_
    exact ⟨(b9,D3::Ds,H3,st',ag),bA,⟨hle1.trans (hle2.trans hle3),⟨_,hW',fun _=>rfl⟩,hs.sb⟩,by
      dsimp only
      cases ag with
      |false=>simp;omega
      |true=>have:=hm2 rfl;simp;omega⟩
  ·refine .exit ?_
   refine xT (xT (xB (nT ?_)))
   refine .seq (.ai ?_)
   subst hc48
   obtain rfl:=hj rfl
   refine .y hs (zld ak) (.z zm ?_)
   first|(refine .ixv hs ad af ?_;intro b116 o116 hc116)|refine .z (zix ad af) ?_
   refine .y hs (zld ae) (.z j6 (.nil ?_))
   refine (.cg rfl (fun hc118=>?_) (fun hc118=>?_))
   ·refine .ai (.z zg (.nil ?_))
    refine .ret (rT (?_))
    refine Fin.gV Ds [_,_,_,_,_,_] hs fun w hs=>⟨_,results1 Tryz.results268 rfl,H1,[],.nul,hle1,.nil 4 none,(hs.sb).nul,hW.none hg hc118⟩
   ·refine .skip ?_
    refine nT ?_
    refine .ai (.z zg (.nil (.seq (.ai (.z zm (.z zg (.nil (.block ?_))))))))
    have hreach:gi st.cost to<far:=by have:=hW.top to hto;have e:far=1152921504606846976:=rfl;omega
    obtain ⟨kk,cc,u,hbk,hroot,hkn,hk0,hcl,hway⟩:=hW.back hg hto hreach hpos
    refine .loop (fun p:Nat×Nat×Value×Ent=>⟨141,marks Ds,[(11,p.2.2.1),(12,I p.2.1),(6,.pointer (some ⟨b6,0,none⟩))]⟩)
     (fun p w=>p.1≤kk∧(p.2.1<N+1∧gi st.cost p.2.1<far)∧bQ 4 p.2.2.1 (iF (lS st.by_ to p.1)) p.2.2.2∧(∃d,fG st.by_ to p.1 d p.2.1)∧(∃d,fG st.by_ p.2.1 (kk - p.1) d u)∧
      St H1 w (p.2.2.2:: .blk b9 [.bool false]:: .blk b6 [.slice (some ⟨b27,0,none⟩) (N+1) (N+1)]:: .blk b27 (iF st.by_):: .blk b5 [.slice (some ⟨bc,0,none⟩) (N+1) (N+1)]:: .blk bc (Is st.cost):: .blk b2 [.pointer (some ⟨bf,0,none⟩)]::(mes Ds++σ)))
     (fun p=>kk - p.1) (0,to,.slice none 0 0,.nul) bA ⟨Nat.zero_le _,⟨hto,hreach⟩,.nil 4 none,⟨0,.nil⟩,⟨cc,hbk⟩,hs.nul⟩ ?_
    rintro ⟨i,v,v11,en⟩ w ⟨hik,⟨hv1,hv2⟩,hO,⟨d1,hb1⟩,⟨d2,hb2⟩,hs⟩
    dsimp only at hik hv1 hv2 hO hb1 hb2 hs ⊢
    have hvb:v<st.by_.length:=by omega
    refine .seq (.ai (.y hs (zld eK) (.z zm ?_)))
    first|(refine .ixw hs az aF ?_;intro b122 o122 hc122)|refine .z (wS az aF) ?_
    refine .z (zfa dr) ?_
    refine .q hs (gh rfl ae (hv:=(pQ hvb (j:=3) aj).trans rfl)) ?_
    refine .z xQ (.nil ?_)
    refine (.cg rfl (fun hc125=>?_) (fun hc125=>?_))
    ·refine .skip ?_
     refine nT ?_
     refine .seq (.block (.region (.z zm (.y hs (zld eK) (.z zm ?_)))))
     first|(refine .ixw hs az aF ?_;intro b134 o134 hc134)|refine .z (wS az aF) ?_
     refine .q hs (jT (vs:=(ga st.by_ v).v) rfl fY aF (hv:=yV hvb)) ?_
     refine .o (.buildSlice (cells:=(ga st.by_ v).v) hs oC rfl rfl fun b136 w hs=>?_)
     refine .o (.append (ys:=(ga st.by_ v).v) hs jK rfl rfl hO (.own .here rfl rfl) (by simp [Arc.v,Value.oneCell']) (fun l h=>by rw [df,iZ] at h;omega) ?_);intro v137 en137 w hO2 hs
     refine .z zg (.nil ?_)
     refine nB (nT ?_)
     refine .region (.y hs (zld eK) (.z zm ?_))
     first|(refine .ixw hs az aF ?_;intro b128 o128 hc128)|refine .z (wS az aF) ?_
     refine .z (zfa cH) ?_
     refine .q hs (gh rfl ae (hv:=(pQ hvb (j:=0) aj).trans rfl)) ?_
     refine .z zg (.nil ?_)
     refine nT ?_
     obtain ⟨g1,g2⟩:=hcl v hv1 hv2 hc125
     obtain ⟨m,hm⟩:∃m,kk - i=m+1:=by
      refine ⟨kk - i - 1,?_⟩
      rcases Nat.lt_or_ge i kk with h|h
      ·omega
      ·obtain e:kk - i=0:=by omega
       rw [e] at hb2
       cases hb2
       omega
     rw [hm] at hb2
     obtain ⟨d3,hb3⟩:∃d,fG st.by_ (ga st.by_ v).f m d u:=by cases hb2 with|cons _ t=>exact ⟨_,t⟩
     rw [←Bk,←yZ hb1] at hO2
     exact ⟨(i+1,(ga st.by_ v).f,v137,en137),bA,⟨by dsimp only;omega,⟨g1,g2⟩,hO2,⟨_,hb1.trans (.cons hc125 .nil)⟩,⟨d3,by rw [show kk - (i+1)=m by omega];exact hb3⟩,hs.sb⟩,by dsimp only;omega⟩
    ·refine .exit ?_
     refine xT (xT (xB (nT ?_)))
     refine .ai ?_
     obtain rfl:i=kk:=by
      rcases Nat.lt_or_ge i kk with h|h
      ·obtain ⟨m,hm⟩:∃m,kk - i=m+1:=⟨kk - i - 1,aj⟩
       rw [hm] at hb2
       cases hb2 with
       |cons hl _=>omega
      ·omega
     refine .z zm ?_
     refine .o (.call Tryz.call289 rfl (nY hs hO (by rw [iZ];omega)) ?_);rintro v139 w ⟨en',hO',hs⟩
     refine .nil (.ai (.z zm (.z zg (.nil ?_))))
     refine .ret ?_
     refine Fin.gV Ds [_,_,_,_,_,_,_] hs fun w hs=>⟨_,results1 Tryz.results268 rfl,H1,_,en',hle1,hO',hs.sb,hway _ rfl⟩
theorem yS{s:bV}{x:Arc}(hok:s.Ok)(hx:zD s.cj x):∃(i:Nat) (l:Lim),s.bK[i]? =some l∧x.l=(i:Int)∧(l.A=(x.f:Int)↔fwd s.cj x)∧i<s.bK.length:=by
 obtain ⟨i,y,h1,h2⟩:=hx
 have hl:=pO h1
 have hlt:i<s.bK.length:=by have:=(List.getElem?_eq_some_iff.1 h1).1;simpa [bV.cj,dw] using this
 obtain ⟨l,hl2⟩:=nth hlt
 have h3:=iT hl2
 have h1':(kY s.bK)[i]? =some y:=h1
 rw [h3] at h1'
 cases h1'
 obtain ⟨a1,a2,_⟩:=hok.arc (List.mem_of_getElem? hl2) i
 refine ⟨i,l,hl2,?_,?_,hlt⟩
 ·rcases h2 with rfl|rfl<;>rfl
 ·have hg:ga s.cj i=l.arc i:=by simp [ga,bV.cj,h3]
  have hxl:x.l.toNat=i:=by rcases h2 with rfl|rfl<;>rfl
  unfold fwd
  rw [hxl,hg,←a1]
  exact ⟨fun e=>by exact_mod_cast e,fun e=>by exact_mod_cast e⟩
theorem jn{bf:Nat}{s:bV}{vl vt vd:Value}{x:Arc}(hs:St H w σ)(hok:s.Ok)(hf:Row H bf [I s.many,vl,vt,vd])(hl:RL H vl s.bK)(hx:zD s.cj x):
  Cl Tryz.prog 290 [.pointer (some ⟨bf,0,none⟩),.agg x.v.toArray] w fun v w'=>v= .bool (decide (fwd s.cj x))∧St H w' σ:=by
 obtain ⟨i,l,hl1,hxl,hfw,hil⟩:=yS hok hx
 have hf1:cellAt H bf 1=some vl:=hf.at 1
 refine Cl.o Tryz.func290 Tryz.ntmps290 ag2 ?_
 refine .ai ?_
 refine .bx hs fun b3 w hs=>?_
 refine .z zg (.nil ?_)
 refine .seq (.draw mix rfl hs fun w hs=>?_)
 refine .z 0 rfl zm ?_;refine .z 1 rfl znc ?_;refine .z 2 rfl (zfa eH) ?_;refine .z 3 rfl (zfa bu) ?_;refine .y 4 rfl hs bU ?_;refine .z 5 rfl (zfa dr) ?_;refine .y 6 rfl hs ae ?_
 refine .ixX (i:=7) hs rfl an .none hl rfl rfl aI aR hl1 hxl ?_;intro b12 o12 hc12
 have hA:cellAt H b12 o12=some (I l.A):=hc12.get 0 rfl
 refine .z 8 rfl (zfa du) ?_;refine .y 9 rfl hs ae ?_;refine .z 10 rfl (zfa cH) ?_;refine .y 11 rfl hs ae ?_;refine .z 12 rfl j6 ?_;refine .z 13 rfl zg ?_;refine .D hs ?_
 refine .ret (Fin.bD Tryz.results290 rfl ?_)
 exact ⟨by simp only [decide_eq_decide.2 hfw],hs.out⟩
theorem nt{bf bt bl cl u v:Nat}{s:bV}{ts lf:List Int}{wt:Nat→Int}{vl vp:Value}{sp:List Value}{p:List Arc}(hs:St H w (.blk bt (Is ts):: .blk bl (Is lf++sp)::σ))(hok:s.Ok)
  (hf:Row H bf [I s.many,vl,.slice (some ⟨bt,0,none⟩) ts.length ts.length,.slice (some ⟨bl,0,none⟩) lf.length cl]) (hl:RL H vl s.bK) (hp:RS H 4 vp (p.map Arc.v)) (hI:vk s.n s.cj wt ts lf) (hw:Ea s.cj ts lf s.n p u v) (hpn:p≠[]) (hpl:p.length<s.n):
  Cl Tryz.prog 269 [.pointer (some ⟨bf,0,none⟩),vp] w fun _ w'=>St H w' (.blk bt (Is (fy s.cj (qD s.cj ts lf p u v) ts p)):: .blk bl (Is (xo lf (qD s.cj ts lf p u v) u v)++sp)::σ):=by
 have hN1:=hok.m1
 have hn65:s.n≤65:=by simp only [bV.n];have:=hok.m0;omega
 have hnum:yT s.cj:=fun i x hx=>⟨pO hx,(hok.cj.2 x (List.mem_of_getElem? hx)).2.2.2.2.2⟩
 have hlt:=hI.lt
 have hll:=hI.ll
 obtain ⟨m0,m1,m2,m3⟩:=uC hlt.symm hnum hw
 have hsu:=hI.sg u hw.un
 have hsv:=hI.sg v hw.vn
 have hun:u<lf.length:=by rw [hll];exact hw.un
 have hvn:v<lf.length:=by rw [hll];exact hw.vn
 obtain ⟨a,cap,hvp⟩:=hp.shape
 rw [List.length_map] at hvp
 subst hvp
 have hp0:0<p.length:=List.length_pos_iff.2 hpn
 obtain ⟨x0,hx0⟩:=nth hp0
 obtain ⟨x1,hx1⟩:=nth (l:=p) (k:=p.length - 1) aj
 have hh:=hw.ch.head hx0
 have hla:=hw.ch.last hx1
 have hf2:cellAt H bf 2=some (.slice (some ⟨bt,0,none⟩) ts.length ts.length):=hf.at 2
 have hf3:cellAt H bf 3=some (.slice (some ⟨bl,0,none⟩) lf.length cl):=hf.at 3
 have hix:∀x∈p,zD s.cj x∧x.l.toNat<ts.length∧x.l=(x.l.toNat:Int):=fun x hx=>by
  obtain ⟨g1,g2,_⟩:=lx hlt.symm hnum (hw.mem x hx)
  obtain ⟨i,l,_,g3,_⟩:=yS hok g1
  exact ⟨g1,g2,by rw [g3];simp⟩
 simp only [FF] at hsu hsv
 have huv:v≠u:=fun e=>by have:=hw.lu;have:=hw.lv;rw [e] at*;omega
 have htt:∀i<ts.length,0≤gi ts i∧gi ts i≤3600000000000:=fun i hi=>by
  have h1:=hI.nn i aj
  have h2:=hI.tb i aj
  have h3:0≤rem s.n lf:=cJ fun v _=>by omega
  simp only [FF] at h2
  omega
 have hM:qD s.cj ts lf p u v=least s.cj ts (min (-gi lf u) (gi lf v)) p:=rfl
 generalize qD s.cj ts lf p u v=M at*
 have hgv:gi (lf.set u (gi lf u+M)) v=gi lf v:=by rw [fk hun,if_neg huv]
 refine Cl.o Tryz.func269 Tryz.ntmps269 ag2 ?_
 refine .seq (.draw mix rfl hs fun w hs=>?_)
 refine .z 0 rfl zm ?_
 refine .ixX (i:=1) hs rfl an .none hp rfl rfl az aF hx0 rfl ?_;intro b12 o12 hc12
 have h14:cellAt H b12 (o12+0)=some (I u):=by rw [←hh];exact hc12.get 0 rfl
 refine .z 2 rfl (zfa cH) ?_;refine .y 3 rfl hs ae ?_;refine .z 4 rfl zm ?_;refine .z 5 rfl zm ?_;refine .z 6 rfl (cS az) ?_;refine .z 7 rfl iK ?_
 refine .ixX (i:=8) hs rfl an .none hp rfl rfl az aF hx1 aj ?_;intro b19 o19 hc19
 have h21:cellAt H b19 (o19+1)=some (I v):=by rw [←hla];exact hc19.get 1 rfl
 refine .z 9 rfl (zfa cM) ?_;refine .y 10 rfl hs ae ?_;refine .z 11 rfl zg ?_;refine .z 12 rfl zg ?_;refine .D hs ?_
 refine .seq (.draw mix rfl hs fun w hs=>?_)
 refine .z 0 rfl zm ?_;refine .z 1 rfl znc ?_;refine .z 2 rfl (zfa dt) ?_;refine .y 3 rfl hs ak ?_;refine .z 4 rfl zm ?_
 first|(refine .ixv 5 rfl hs ad af ?_;intro b27 o27 hc27)|refine .z 5 rfl (zix ad af) ?_
 refine .load (i:=6) hs rfl an .none rfl ae ?_ (hv:=eX hun sp)
 refine .z 7 rfl xP ?_;refine .z 8 rfl zm ?_;refine .z 9 rfl znc ?_;refine .z 10 rfl (zfa dt) ?_;refine .y 11 rfl hs ak ?_;refine .z 12 rfl zm ?_
 first|(refine .ixv 13 rfl hs ad af ?_;intro b35 o35 hc35)|refine .z 13 rfl (zix ad af) ?_
 refine .load (i:=14) hs rfl an .none rfl ae ?_ (hv:=eX hvn sp)
 refine .z 15 rfl Bv ?_;refine .z 16 rfl zg ?_;refine .D hs ?_
 refine .seq (.ai (.z zm (.z (cS az) (.z zm (.nil ?_)))))
 refine .for (N:=p.length) (J:=fun k fr w=>fr=[(38,.slice a p.length cap),(6,I (least s.cj ts (min (-gi lf u) (gi lf v)) (p.take k))),(0,.pointer (some ⟨bf,0,none⟩)),(1,.slice a p.length cap),(4,I u),(5,I v)]∧St H w (.blk bt (Is ts):: .blk bl (Is lf++sp)::σ)) aj ?_ ?_ ?_
 ·exact .mk ⟨rfl,hs⟩
 ·rintro k fr w hk ⟨rfl,hs⟩
  obtain ⟨x,hx⟩:=nth hk
  obtain ⟨g1,g2,g3⟩:=hix x (List.mem_of_getElem? hx)
  refine .block (.ai ?_)
  refine .ixX hs hp rfl rfl az aF hx rfl ?_;intro b42 o42 hc42
  refine .q hs (bY (vs:=x.v) rfl fY aF hc42) ?_
  refine .o (.alloc hs dH rfl fun b8 w hs=>?_)
  refine .o (.aQ (vs:=x.v) hs rfl rfl aF fun w hs=>?_)
  refine .nil (.ai (.z zm ?_))
  refine .q hs (jT (vs:=x.v) rfl fY aF) ?_
  refine .o (.call Tryz.call290 rfl (jn hs hok hf hl g1) ?_);rintro _ w ⟨rfl,hs⟩
  refine .z iU (.nil ?_)
  refine (.cond rfl (fun hc47=>?_) (fun hc47=>?_))
  ·refine .draw mix rfl hs fun w hs=>?_
   refine .z 0 rfl zm ?_;refine .z 1 rfl zm ?_;refine .z 2 rfl znc ?_;refine .z 3 rfl (zfa fl) ?_;refine .y 4 rfl hs ak ?_;refine .z 5 rfl (zfa dr) ?_;refine .y 6 rfl hs ae ?_
   refine .z 7 rfl (ij (k:=x.l.toNat) rfl rfl ad af g3 g2) ?_
   refine .y 8 rfl hs ae ?_;refine .z 9 rfl Bv ?_;refine .z 10 rfl zg ?_;refine .D hs ?_
   refine nB (nT ?_)
   have e:min (least s.cj ts (min (-gi lf u) (gi lf v)) (p.take k)) (gi ts x.l.toNat)=least s.cj ts (min (-gi lf u) (gi lf v)) (p.take (k+1)):=by rw [cU hx,tF,if_neg (by simpa using hc47)]
   exact .mk ⟨rfl,hs.tail⟩ (hs:= .cons rfl (.cons rfl (.cons rfl (.cR rfl e (.cons rfl (.cons rfl (.cons rfl (.cons rfl (.nil rfl rfl)))))))))
  ·refine .skip ?_
   refine nB (nT ?_)
   have e:least s.cj ts (min (-gi lf u) (gi lf v)) (p.take k)=least s.cj ts (min (-gi lf u) (gi lf v)) (p.take (k+1)):=by rw [cU hx,tF,if_pos (by simpa using hc47)]
   exact .mk ⟨rfl,hs.tail⟩ (hs:= .cons rfl (.cons rfl (.cons rfl (.cR rfl e (.cons rfl (.cons rfl (.cons rfl (.cons rfl (.nil rfl rfl)))))))))
 ·rintro fr w ⟨rfl,hs⟩
  have e6:least s.cj ts (min (-gi lf u) (gi lf v)) (List.take p.length p)=M:=by rw [List.take_length];exact hM.symm
  rw [e6]
  refine nT ?_
  refine .seq (.ai (.z zm (.z (cS az) (.z zm (.nil ?_)))))
  refine .for (N:=p.length) (J:=fun k fr w=>fr=[(59,.slice a p.length cap),(6,I M),(0,.pointer (some ⟨bf,0,none⟩)),(1,.slice a p.length cap),(4,I u),(5,I v)]∧St H w (.blk bt (Is (fy s.cj M ts (p.take k))):: .blk bl (Is lf++sp)::σ)) aj ?_ ?_ ?_
  ·exact .mk ⟨rfl,hs⟩
  ·rintro k fr w hk ⟨rfl,hs⟩
   obtain ⟨x,hx⟩:=nth hk
   obtain ⟨g1,g2,g3⟩:=hix x (List.mem_of_getElem? hx)
   have hpl2:=ln s.cj M (p.take k) ts
   have hbd:=Aq (es:=s.cj) (m:=M) (ts:=ts) (p:=p.take k) aj (by simp only [FF];omega) (by rw [List.length_take];omega) (fun y hy=>(hix y (List.mem_of_mem_take hy)).2.1) x.l.toNat
   have h9:=htt _ g2
   refine .block (.ai ?_)
   refine .ixX hs hp rfl rfl az aF hx rfl ?_;intro b63 o63 hc63
   refine .q hs (bY (vs:=x.v) rfl fY aF hc63) ?_
   refine .o (.alloc hs dH rfl fun b10 w hs=>?_)
   refine .o (.aQ (vs:=x.v) hs rfl rfl aF fun w hs=>?_)
   refine .nil (.ai (.z zm ?_))
   refine .q hs (jT (vs:=x.v) rfl fY aF) ?_
   refine .o (.call Tryz.call290 rfl (jn hs hok hf hl g1) ?_);rintro _ w ⟨rfl,hs⟩
   refine .nil ?_
   refine (.cond rfl (fun hc67=>?_) (fun hc67=>?_))
   ·refine .draw mix rfl hs fun w hs=>?_
    refine .z 0 rfl zm ?_;refine .z 1 rfl znc ?_;refine .z 2 rfl (zfa fl) ?_;refine .y 3 rfl hs ak ?_;refine .z 4 rfl (zfa dr) ?_;refine .y 5 rfl hs ae ?_
    refine .z 6 rfl (ij (k:=x.l.toNat) rfl rfl ad af g3 g2) ?_
    refine .y 7 rfl hs ae ?_;refine .z 8 rfl zm ?_;refine .z 9 rfl cC ?_
    refine .z 10 rfl (ij (k:=x.l.toNat) rfl rfl ad af g3 g2) ?_
    refine .E 11 hs ?_
    refine .store hs rfl rfl af ?_;intro w hs
    refine .go ?_
    refine .D hs ?_
    refine nB (nT ?_)
    have e:fy s.cj M ts (p.take (k+1))=(fy s.cj M ts (p.take k)).set x.l.toNat (gi (fy s.cj M ts (p.take k)) x.l.toNat+M):=by rw [cU hx,si,push,if_pos (by simpa using hc67)]
    exact .mk ⟨rfl,by rw [e];exact hs.tail⟩
   ·refine .draw mix rfl hs fun w hs=>?_
    refine .z 0 rfl zm ?_;refine .z 1 rfl znc ?_;refine .z 2 rfl (zfa fl) ?_;refine .y 3 rfl hs ak ?_;refine .z 4 rfl (zfa dr) ?_;refine .y 5 rfl hs ae ?_
    refine .z 6 rfl (ij (k:=x.l.toNat) rfl rfl ad af g3 g2) ?_
    refine .y 7 rfl hs ae ?_;refine .z 8 rfl zm ?_;refine .z 9 rfl iK ?_
    refine .z 10 rfl (ij (k:=x.l.toNat) rfl rfl ad af g3 g2) ?_
    refine .E 11 hs ?_
    refine .store hs rfl rfl af ?_;intro w hs
    refine .go ?_
    refine .D hs ?_
    refine nB (nT ?_)
    have e:fy s.cj M ts (p.take (k+1))=(fy s.cj M ts (p.take k)).set x.l.toNat (gi (fy s.cj M ts (p.take k)) x.l.toNat - M):=by rw [cU hx,si,push,if_neg (by simpa using hc67)]
    exact .mk ⟨rfl,by rw [e];exact hs.tail⟩
  ·rintro fr w ⟨rfl,hs⟩
   rw [List.take_length] at hs
   refine nT ?_
   refine .ai (.z zm (.z znc (.z (zfa dt) (.y hs (zld ak) (.z zm ?_)))))
   first|(refine .ixv hs ad af ?_;intro b96 o96 hc96)|refine .z (zix ad af) ?_
   refine .q hs (gh rfl ae (hv:=eX hun sp)) ?_
   refine .z zm (.z cC ?_)
   first|(refine .ixv hs ad af ?_;intro b100 o100 hc100)|refine .z (zix ad af) ?_
   refine .o (.store hs rfl rfl af ?_ dJ (mL hun sp) (j5 hun sp _));intro w hs
   refine .nil (.region (.z zm (.z znc (.z (zfa dt) (.y hs (zld ak) (.z zm ?_))))))
   first|(refine .ixv hs ad af ?_;intro b106 o106 hc106)|refine .z (zix ad af) ?_
   refine .q hs (gh rfl ae (hv:=eX (by rw [List.length_set];exact hvn) sp)) ?_
   refine .z zm (.z iK ?_)
   first|(refine .ixv hs ad af ?_;intro b110 o110 hc110)|refine .z (zix ad af) ?_
   refine .o (.store hs rfl rfl af ?_ dJ (mL (by rw [List.length_set];exact hvn) sp) (j5 (by rw [List.length_set];exact hvn) sp _));intro w hs
   refine .nil ?_
   exact Fin.wW Tryz.results269 hs
theorem AG{w:List Int}{N k:Nat}(hw:w.length=N+1):gi (w.set 0 (-kh w k)) 0 - gi (w.set 0 (-kh w k)) (k+1)= -kh w (k+1):=by
 rw [fk aj,fk aj,if_pos rfl,if_neg aj]
 simp only [kh,aP];omega
theorem sE{v vw:Value}{s:bV}{ws:List Int}(hs:St H w σ)(hok:s.Ok)(hr:RSy H v s)(hrw:RI H vw ws)(hwl:ws.length=s.n)(hsz:iD ws)(hsnd:s.Sound):
  Cl Tryz.prog 222 [v,vw] w fun v w'=>(v= .tuple #[.pointer none,.bool false]∧oG s.cj (l8 ws s.n) s.n∧St H w' σ)∨
   (∃H1 bf bt bl cl ts lf vl sp,HLe H H1∧v= .tuple #[.pointer (some ⟨bf,0,none⟩),.bool true]∧re H1 bf s ts lf vl bt bl cl sp∧kz s.n s.cj (l8 ws s.n) ts∧St H1 w' σ):=by
 obtain ⟨vl,rfl,hr⟩:=hr
 obtain ⟨al,cpl,rfl⟩:=RL.shape hr
 obtain ⟨aw,cw,rfl⟩:=RI.shape hrw
 obtain ⟨N,hN⟩:=Int.eq_ofNat_of_zero_le hok.m0
 have hN1:=hok.m1
 have hn:s.n=N+1:=by simp [bV.n,hN]
 have hlim:=hok.len
 have hoka:=hok.cj
 have hal:s.cj.length=s.bK.length:=by simp [bV.cj,dw]
 have hnum:yT s.cj:=fun i x hx=>⟨pO hx,(hok.cj.2 x (List.mem_of_getElem? hx)).2.2.2.2.2⟩
 have hin:∀x∈s.cj,x.f<s.n∧x.t<s.n:=fun x hx=>by have:=hoka.2 x hx;omega
 have hwt0:=CU ws (n:=s.n) aj
 unfold iD at hsz
 rw [hwl] at hsz
 refine Cl.o Tryz.func222 Tryz.ntmps222 ag2 ?_
 refine .ai ?_
 refine .bx hs fun b2 w hs=>?_
 refine .z zg (.z zg (.nil ?_))
 refine .scope ?_
 refine .cut (fun fs w=>∃bf bt bl cl sp,mT fs ⟨73,[],[(6,.pointer (some ⟨bf,0,none⟩))]⟩∧St H w (.blk bf [I s.many,.slice al s.bK.length cpl,.slice (some ⟨bt,0,none⟩) s.bK.length s.bK.length,.slice (some ⟨bl,0,none⟩) ws.length cl]:: .blk bt (Is (List.replicate s.bK.length 0)):: .blk bl (Is ws++sp)::σ)) ?_ ?_
 ·refine .draw mix rfl hs fun w hs=>?_
  refine .ys 0 rfl hs [_,_] a8 aH ?_;refine .z 1 rfl (zfa bu) ?_;refine .y 2 rfl hs bU ?_;refine .z 3 rfl (cS aI) ?_;refine .z 5 rfl zm ?_
  refine .e2 (i:=4) (j:=6) an rfl rfl rfl rfl .none .none hs ?_ ?_
  ·refine .so s.bK.length hs rfl rfl ad eM rfl af bE aj ?_;intro b15 w hs
   refine .go ?_
   refine .E 6 hs ?_
   refine .call Tryz.call197 rfl (lI hs hrw aj) ?_;rintro v17 w ⟨en17,hO,hs⟩
   obtain ⟨bl,cl,sp,rfl,rfl,hsp⟩:=hO.some aj
   refine .go ?_
   refine .z 7 rfl (zbd [_,_,_,_] nN) ?_
   refine .E 8 hs ?_
   refine .box hs rfl rfl ?_;intro b19 w hs
   refine .go ?_
   refine .z 9 rfl zg ?_;refine .D hs ?_
   exact nT ⟨b19,b15,bl,cl,sp,bA,hs.sb⟩
  ·refine .call Tryz.call197 rfl (lI hs hrw aj) ?_;rintro v17 w ⟨en17,hO,hs⟩
   obtain ⟨bl,cl,sp,rfl,rfl,hsp⟩:=hO.some aj
   refine .go ?_
   refine .E 4 hs ?_
   refine .so s.bK.length hs rfl rfl ad eM rfl af bE aj ?_;intro b15 w hs
   refine .go ?_
   refine .z 7 rfl (zbd [_,_,_,_] nN) ?_
   refine .E 8 hs ?_
   refine .box hs rfl rfl ?_;intro b19 w hs
   refine .go ?_
   refine .z 9 rfl zg ?_;refine .D hs ?_
   exact nT ⟨b19,b15,bl,cl,sp,bA,hs.sb⟩
 ·rintro fs w ⟨bf,bt,bl,cl,sp,hfs,hs⟩
  refine WE.sub ?_ hfs
  obtain ⟨H1,hle1,hRf,hs⟩:=hs.bX .here
  have hf0:cellAt H1 bf 0=some (I (N:Int)):=by have:=hRf.at 0 (v:=I s.many);rwa [hN] at this
  have hf3:cellAt H1 bf 3=some (.slice (some ⟨bl,0,none⟩) ws.length cl):=hRf.at 3
  have hrl:=hr.mono hle1
  refine .ai (.z zm (.z znc (.z (zfa dt) (.y hs (zld ak) ?_))))
  refine .q hs (ij (k:=0) rfl rfl ad af rfl aj) ?_
  refine .o (.store hs rfl rfl af ?_ dJ (mL aj sp) (j5 aj sp _));intro w hs
  refine .nil (.seq (.ai (.z zm (.z znc (.z (zfa eH) (.z (zfa bw) (.y hs (zld ae) (.z zm (.nil ?_)))))))))
  refine .for (N:=N) (J:=fun k fr w=>fr=[(6,.pointer (some ⟨bf,0,none⟩))]∧St H1 w (.blk bt (Is (List.replicate s.bK.length 0)):: .blk bl (Is (ws.set 0 (-kh ws k))++sp)::σ)) aj ?_ ?_ ?_
  ·exact .mk ⟨rfl,by simpa [kh,aP] using hs⟩
  ·rintro k fr w hk ⟨rfl,hs⟩
   have e:=AG (w:=ws) (N:=N) (k:=k) aj
   have hb1:=tm ws (k+1)
   have hb2:bC ws (k+1+1)≤bC ws s.n:=p6 (fun v=>by omega) aj
   simp only [FF] at hsz
   refine .block (.ai (.z zm (.z zg (.nil ?_))))
   refine .draw mix rfl hs fun w hs=>?_
   refine .z 0 rfl zm ?_;refine .z 1 rfl znc ?_;refine .z 2 rfl (zfa dt) ?_;refine .y 3 rfl hs ak ?_
   refine .z 4 rfl (ij (k:=0) rfl rfl ad af rfl aj) ?_
   refine .load (i:=5) hs rfl an .none rfl ae ?_ (hv:=eX (by rw [List.length_set];omega) sp)
   refine .z 6 rfl zm ?_;refine .z 7 rfl znc ?_;refine .z 8 rfl (zfa dt) ?_;refine .y 9 rfl hs ak ?_;refine .z 10 rfl zm ?_;refine .z 11 rfl cC ?_
   refine .z 12 rfl (ij (k:=k+1) rfl rfl ad af aj aj) ?_
   refine .load (i:=13) hs rfl an .none rfl ae ?_ (hv:=eX (by rw [List.length_set];omega) sp)
   refine .z 14 rfl iK ?_
   refine .z 15 rfl (ij (k:=0) rfl rfl ad af rfl aj) ?_
   refine .E 16 hs ?_
   refine .store hs rfl rfl af ?_ dJ (mL (by rw [List.length_set];omega) sp) (j5 (by rw [List.length_set];omega) sp _);intro w hs
   refine .go ?_
   refine .D hs ?_
   refine nB (nT ?_)
   rw [e,List.set_set] at hs
   exact .mk ⟨rfl,hs⟩
  ·rintro fr w ⟨rfl,hs⟩
   have hI0:vk s.n s.cj (l8 ws s.n) (List.replicate s.bK.length 0) (ws.set 0 (-kh ws N)):=by
    rw [←hal,hn]
    rw [hn] at hsz
    refine vk.start hsz (by rw [List.length_set];omega) (fun v hv=>?_) hsnd
    rw [fk aj]
    cases v with
    |zero=>rw [if_pos rfl,wY]
    |succ v=>rw [if_neg aj,wZ]
   refine nT ?_
   refine .seq ?_
   refine .label ?_
   refine nT ?_
   refine .block ?_
   refine .loop (fun _:bJ×List Int×List Int=>⟨73,[],[(6,.pointer (some ⟨bf,0,none⟩))]⟩)
    (fun p w=>HLe H1 p.1∧vk s.n s.cj (l8 ws s.n) p.2.1 p.2.2∧St p.1 w (.blk bt (Is p.2.1):: .blk bl (Is p.2.2++sp)::σ)) (fun p=>(rem s.n p.2.2).toNat) (H1,List.replicate s.bK.length 0,ws.set 0 (-kh ws N))
    bA ⟨HLe.refl _,hI0,hs⟩ ?_
   rintro ⟨H2,ts,lf⟩ w ⟨hle2,hI,hs⟩
   dsimp only at hle2 hI hs ⊢
   have hlt:=hI.lt
   have hll:=hI.ll
   have hRf2:Row H2 bf [I s.many,.slice al s.bK.length cpl,.slice (some ⟨bt,0,none⟩) ts.length ts.length,.slice (some ⟨bl,0,none⟩) lf.length cl]:=by
    rw [hlt,hal,hll,←hwl];exact hRf.mono hle2
   have hf32:cellAt H2 bf 3=some (.slice (some ⟨bl,0,none⟩) lf.length cl):=hRf2.at 3
   refine .block (.seq (.ai (.z zm (.z znc (.z (zfa dt) (.y hs (zld ak) (.z (cS ad) (.z zm (.nil ?_)))))))))
   refine .for (N:=lf.length) (J:=fun k fr w=>fr=[(53,.slice (some ⟨bl,0,none⟩) lf.length cl),(6,.pointer (some ⟨bf,0,none⟩))]∧(∀v<k,gi lf v≤0)∧St H2 w (.blk bt (Is ts):: .blk bl (Is lf++sp)::σ)) aj ?_ ?_ ?_
   ·exact .mk ⟨rfl,fun v hv=>by omega,hs⟩
   ·rintro k fr w hk ⟨rfl,hle0,hs⟩
    refine .block (.ai (.z zm ?_))
    first|(refine .ixv hs ad af ?_;intro b58 o58 hc58)|refine .z (zix ad af) ?_
    refine .q hs (gh rfl ae (hv:=eX hk sp)) ?_
    refine .z zg (.z zg (.nil (.seq (.ai (.z zm (.z vA (.nil ?_)))))))
    refine (.cg rfl (fun hc61=>?_) (fun hc61=>?_))
    ·refine .exit ?_
     refine xT (xB (nT ?_))
     exact .mk ⟨rfl,fun v hv=>by
       by_cases e:v=k
       ·subst e;exact hc61
       ·exact hle0 v aj,hs⟩
    ·refine .skip ?_
     refine nT ?_
     refine .ai (.z zm (.z zm ?_))
     obtain ⟨Ha,hla,hra,hsa,-,hba⟩:=hs.xp
     obtain ⟨Hb,hlb,hrb,hsb,-,hbb⟩:=hsa.xp
     refine .o (.call Tryz.call268 rfl (oA (s:=s) (to:=k) hsb hok ⟨hRf2.mono (hla.trans hlb),hr.mono (hle1.trans (hle2.trans (hla.trans hlb))),hra.mono hlb,hrb⟩ aj aj hI.fe aj aj) ?_);rintro v64 w ⟨Hc,p,en,hlc,hO,hsc,hWR⟩
     have hs:=hba (HLe.refl _) (hbb hlc hsc)
     obtain ⟨ap,lp,cp,rfl,hlp⟩:=hO.shape
     obtain rfl:lp=p.length:=by rw [df] at hlp;omega
     refine .z zg (.nil (.seq (.ai (.z zm (.z (cS az) (.z j6 (.nil ?_)))))))
     refine (.cg rfl (fun hc67=>?_) (fun hc67=>?_))
     ·refine .ai (.z zg (.z zg (.nil ?_)))
      refine .ret (rT (rB (rT (rB (rT (rB (rT (rB (rS (Fin.oH Tryz.results222 rfl rfl ?_))))))))))
      rcases hWR with ⟨_,R,hS,hR,hto⟩|⟨hp,_⟩
      ·exact .inl ⟨rfl,hI.open hin hS hR aj hto aj,(hs.le (hle1.trans hle2)).out⟩
      ·exact (hp (List.length_eq_zero_iff.1 aj)).elim
     ·refine .skip ?_
      refine nT ?_
      refine .ai (.z zm (.z zm ?_))
      obtain ⟨hp,hpl,u,hw⟩:=hWR.resolve_left fun h=>by rw [h.1] at hc67;exact hc67 rfl
      obtain ⟨H3,hle3,hRS,hs⟩:=bQ.bX (cs:=p.map Arc.v) hO (fun c hc=>by simp only [List.mem_map] at hc;obtain ⟨x,_,rfl⟩:=hc;rfl) aj (by rw [List.length_map];omega) hs dJ
      refine .o (.call Tryz.call269 rfl (nt hs hok (hRf2.mono hle3) (hr.mono (hle1.trans (hle2.trans hle3))) hRS hI hw hp hpl) ?_);rintro v70 w hs
      refine .nil ?_
      refine .exit ?_
      refine xN (xT (xN (xT (xB (nT ?_)))))
      obtain ⟨q1,q2⟩:=hI.send hnum hw aj
      have q3:0≤rem s.n (xo lf (qD s.cj ts lf p u k) u k):=cJ fun v _=>by omega
      exact ⟨(H3,fy s.cj (qD s.cj ts lf p u k) ts p,xo lf (qD s.cj ts lf p u k) u k),bA,⟨hle2.trans hle3,q1,hs⟩,by dsimp only;omega⟩
   ·rintro fr w ⟨rfl,hle0,hs⟩
    refine nT ?_
    refine .ai (.z zm (.z zg (.z zg (.nil ?_))))
    refine .ret (rB (rT (rB (rS (Fin.oH Tryz.results222 rfl rfl ?_)))))
    obtain ⟨H3,l3,r3,hs⟩:=hs.bX .here
    obtain ⟨H4,l4,r4,hs⟩:=hs.bX .here
    exact .inr ⟨H4,bf,bt,bl,cl,ts,lf,_,sp,hle1.trans (hle2.trans (l3.trans l4)),rfl,⟨hRf2.mono (l3.trans l4),hr.mono (hle1.trans (hle2.trans (l3.trans l4))),r3.mono l4,r4⟩,hI.ok hin hwt0 (fun v hv=>hle0 v aj),hs⟩
theorem pF{v:Value}{ws:List Int}(hs:St H w σ)(hr:RI H v ws):Cl Tryz.prog 164 [v] w fun v w'=>∃b,v= .bool b∧(b=true↔iD ws)∧St H w' σ:=by
 obtain ⟨a,c,rfl⟩:=RI.shape hr
 have hl:=(RI.len hr).2.2
 refine Cl.o Tryz.func164 Tryz.ntmps164 ag1 ?_
 refine .ai (.z zg (.nil (.ai (.z zg (.nil (.seq (.ai (.z zm (.z (cS ad) ?_)))))))))
 refine .z zm (.nil ?_)
 refine .for (N:=ws.length) (J:=fun k fr w=>fr=[(6,.slice a ws.length c),(3,I (3600000000000 - bC ws k))]∧bC ws k≤3600000000000∧St H w σ) aj ?_ ?_ ?_
 ·exact .mk ⟨rfl,by simp [bC,aP],hs⟩
 ·rintro k fr w hk ⟨rfl,hle,hs⟩
  have hx:=bL hk
  have h0:0≤bC ws k:=cJ fun v _=>by omega
  have h1:bC ws (k+1)=bC ws k+max (gi ws k) (-gi ws k):=rfl
  refine .block (.ai ?_)
  first|(refine .ixv hs ad af ?_;intro b10 o10 hc10)|refine .z (zix ad af) ?_
  refine .y hs (zld ae) (.z zg (.nil (.seq (.ai (.z zm (.z zm (.z xP (.z ik (.z zm ?_)))))))))
  refine .j7 (t':=16) rfl (fun hb16=>?_) (fun hb16=>?_)
  ·refine .gFs 3 4 false rfl rfl rfl ?_
   refine .z zpT (.nil ?_)
   refine (.cT ?_)
   refine .ai (.z zg (.nil ?_))
   refine .ret (rT (rB (rT (rB (rT (Fin.bD Tryz.results164 rfl ?_))))))
   exact ⟨false,rfl,⟨fun h=>(by cases h),fun h=>(tt (k:=k+1) hk (by simp only [FF];omega) h).elim⟩,hs⟩
  ·refine .gT rfl rfl ?_
   refine .z zm ?_
   refine .gT rfl rfl ?_
   refine .z zm ?_
   refine .gT rfl rfl ?_
   refine .z qN (.z zpF (.nil ?_))
   refine (.cg rfl (fun hc20=>?_) (fun hc20=>?_))
   ·refine .ai (.z zg (.nil ?_))
    refine .ret (rT (rB (rT (rB (rT (Fin.bD Tryz.results164 rfl ?_))))))
    exact ⟨false,rfl,⟨fun h=>(by cases h),fun h=>(tt (k:=k+1) hk (by simp only [FF];omega) h).elim⟩,hs⟩
   ·refine .skip ?_
    refine nT ?_
    refine .region (.z zm (.z zm (.z zm (.z xP (.z Di (.z iK (.z zg (.nil ?_))))))))
    refine nB (nT ?_)
    exact .mk ⟨rfl,aj,hs⟩ (hs:= .cons rfl (.cons rfl (.cons rfl (.cR rfl aj (.nil rfl rfl)))))
 ·rintro fr w ⟨rfl,hle,hs⟩
  refine nT ?_
  refine .ai (.z zg (.nil ?_))
  refine .ret (Fin.bD Tryz.results164 rfl ?_)
  exact ⟨true,rfl,⟨fun _=>hle,fun _=>rfl⟩,hs⟩
theorem iC{v vw:Value}{s:bV}{ws:List Int}(hs:St H w σ)(hr:RSy H v s)(hrw:RI H vw ws):Cl Tryz.prog 219 [v,vw] w fun v w'=>v=I (dP s ws)∧St H w' σ:=by
 obtain ⟨vl,rfl,hr⟩:=hr
 obtain ⟨al,cpl,rfl⟩:=RL.shape hr
 obtain ⟨aw,cw,rfl⟩:=RI.shape hrw
 have hlw:=(RI.len hrw).2.2
 have hn:s.check=0→0≤s.many∧s.many≤64∧(s.n:Int)=s.many+1:=fun h=>by
  have h1:=s.bT.1 h
  have:=h1.m0
  have:=h1.m1
  simp only [bV.n];omega
 refine Cl.o Tryz.func219 Tryz.ntmps219 ag2 ?_
 refine .ai ?_
 refine .bx hs fun b2 w hs=>?_
 refine .z zg (.nil (.seq (.ai (.y hs (zls [_,_] a8 aH) ?_))))
 refine .o (.call Tryz.call125 rfl (gR (s:=s) hs ⟨_,rfl,hr⟩) ?_);rintro _ w ⟨rfl,hs⟩
 refine .z zg (.nil (.ai (.z zm (.z fP (.nil ?_)))))
 refine (.ep rfl (fun hc9=>?_) (fun hc9=>?_))
 ·refine .ai (.z zm (.z zg (.nil ?_)))
  refine .ret (rT (Fin.bD Tryz.results219 rfl ?_))
  exact ⟨by unfold dP;rw [if_pos hc9],hs.tail⟩
 ·refine .skip ?_
  refine nT ?_
  refine .seq (.ai (.z zm ?_))
  obtain ⟨n0,n1,n2⟩:=hn hc9
  refine .z (cS ad) (.z (zfa bw) (.y hs (zld ae) (.z cC (.z fP (.z zm ?_)))))
  refine .Ba (t':=17) rfl (fun hb17=>?_) (fun hb17=>?_)
  ·refine .gFs 3 6 false rfl rfl rfl ?_
   refine .z zpT (.nil ?_)
   refine (.cT ?_)
   refine .ai (.z zg (.nil ?_))
   refine .ret (rT (Fin.bD Tryz.results219 rfl ?_))
   exact ⟨by unfold dP;rw [if_neg aj,if_neg aj],hs.tail⟩
  ·refine .gT rfl rfl ?_
   refine .z zm ?_
   refine .gT rfl rfl ?_
   refine .o (.call Tryz.call164 rfl (pF hs hrw) ?_);rintro _ w ⟨bz,rfl,hbz,hs⟩
   refine .gT rfl rfl ?_
   refine .z iU (.z zpF (.nil ?_))
   refine (.cond rfl (fun hc21=>?_) (fun hc21=>?_))
   ·refine .ai (.z zg (.nil ?_))
    refine .ret (rT (Fin.bD Tryz.results219 rfl ?_))
    exact ⟨by unfold dP;rw [if_neg aj,if_neg (fun h=>by rw [hbz.2 h.2] at hc21;cases hc21)],hs.tail⟩
   ·refine .skip ?_
    refine nT ?_
    refine .ai (.z zg (.nil ?_))
    refine .ret (Fin.bD Tryz.results219 rfl ?_)
    exact ⟨by unfold dP;rw [if_neg aj,if_pos ⟨aj,hbz.1 (by simpa using hc21)⟩],hs.tail⟩
theorem gQ{v vw:Value}{s:bV}{ws:List Int}(hs:St H w σ)(hr:RSy H v s)(hrw:RI H vw ws):
  Cl Tryz.prog 158 [v,vw] w fun v w'=>∃H1 e pf,HLe H H1∧v= .tuple #[pf,I e]∧zF s ws e∧St H1 w' σ∧(e≠0→pf= .pointer none)∧
   (e=0→∃bf bt bl cl ts lf vl sp,pf= .pointer (some ⟨bf,0,none⟩)∧re H1 bf s ts lf vl bt bl cl sp∧kz s.n s.cj (l8 ws s.n) ts∧s.Ok∧bC ws s.n≤FF):=by
 obtain ⟨vl,rfl,hr⟩:=hr
 refine Cl.o Tryz.func158 Tryz.ntmps158 ag2 ?_
 refine .ai ?_
 refine .bx hs fun b2 w hs=>?_
 refine .z zg (.z zg (.nil (.seq (.ai (.y hs (zls [_,_] a8 aH) (.z zm ?_))))))
 refine .o (.call Tryz.call219 rfl (iC (s:=s) hs ⟨_,rfl,hr⟩ hrw) ?_);rintro _ w ⟨rfl,hs⟩
 refine .z zg (.nil (.ai (.z zm (.z fP (.nil ?_)))))
 refine (.ep rfl (fun hc13=>?_) (fun hc13=>?_))
 ·refine .ai (.z zm (.z zg (.z zg (.nil ?_))))
  refine .ret (rT (Fin.oH Tryz.results158 rfl rfl ?_))
  exact ⟨H,_,_,HLe.refl _,rfl,.bad hc13,hs.tail,fun _=>rfl,fun h=>(hc13 h).elim⟩
 ·refine .skip ?_
  refine nT ?_
  refine .seq (.ai (.y hs (zls [_,_] a8 aH) ?_))
  obtain ⟨hok,hwl,hsz⟩:=pN hc13
  refine .o (.call Tryz.call133 rfl (iB (s:=s) hs hok ⟨_,rfl,hr⟩) ?_);rintro _ w ⟨H1,b,hle1,rfl,hb,hs⟩
  refine .z iU (.nil ?_)
  refine (.cond rfl (fun hc17=>?_) (fun hc17=>?_))
  ·refine .ai (.z zg (.z zg (.nil ?_)))
   refine .ret (rT (Fin.oH Tryz.results158 rfl rfl ?_))
   exact ⟨H1,_,_,hle1,rfl,.clash hc13 (fun h=>by rw [hb.2 h] at hc17;cases hc17),hs.tail,fun _=>rfl,fun h=>by cases h⟩
  ·refine .skip ?_
   refine nT ?_
   refine .ai (.y hs (zls [_,_] a8 aH) (.z zm ?_))
   have hsnd:s.Sound:=hb.1 (by simpa using hc17)
   refine .o (.call Tryz.call222 rfl (sE (s:=s) hs hok ⟨_,rfl,hr.mono hle1⟩ (hrw.mono hle1) hwl hsz hsnd) ?_);rintro v21 w hcase
   obtain ⟨pf,bb,H2,hle2,rfl,hs,hT,hF⟩:∃pf bb H2,HLe H1 H2∧v21= .tuple #[pf,.bool bb]∧St H2 w (.blk b2 [I s.many,vl]::σ)∧(bb=false→pf= .pointer none∧oG s.cj (l8 ws s.n) s.n)∧
     (bb=true→∃bf bt bl cl ts lf vl sp,pf= .pointer (some ⟨bf,0,none⟩)∧re H2 bf s ts lf vl bt bl cl sp∧kz s.n s.cj (l8 ws s.n) ts):=by
    rcases hcase with ⟨rfl,h1,h2⟩|⟨H2,bf,bt,bl,cl,ts,lf,vl,sp,h1,rfl,h2,h3,h4⟩
    ·exact ⟨_,false,H1,HLe.refl _,rfl,h2,fun _=>⟨rfl,h1⟩,fun h=>by cases h⟩
    ·exact ⟨_,true,H2,h1,rfl,h4,fun h=>(by cases h),fun _=>⟨bf,bt,bl,cl,ts,lf,vl,sp,rfl,h2,h3⟩⟩
   refine .z zm (.z zex (.z zex (.z zg (.z zg (.nil (.seq (.ai (.z zm (.z iU ?_)))))))))
   refine .nil ?_
   refine (.cond rfl (fun hc25=>?_) (fun hc25=>?_))
   ·refine .ai (.z zg (.z zg (.nil ?_)))
    refine .ret (rT (Fin.oH Tryz.results158 rfl rfl ?_))
    exact ⟨H2,_,_,hle1.trans hle2,rfl,.opn hc13 hsnd (hT (by simpa using hc25)).2,hs.tail,fun _=>rfl,fun h=>by cases h⟩
   ·refine .skip ?_
    refine nT ?_
    refine .ai (.z zm (.z zg (.z zg (.nil ?_))))
    refine .ret (Fin.oH Tryz.results158 rfl rfl ?_)
    obtain ⟨bf,bt,bl,cl,ts,lf,vl,sp,rfl,h2,h3⟩:=hF (by simpa using hc25)
    have hn0:0<s.n:=by simp [bV.n]
    have hn1:s.n≤65:=by have:=hok.m0;have:=hok.m1;simp only [bV.n];omega
    have hsz':bC ws s.n≤FF:=by unfold iD at hsz;rwa [hwl] at hsz
    exact ⟨H2,_,_,hle1.trans hle2,rfl,.ok hc13 hsnd (h3.value hn0 hn1 hok.cj hsz').2.1,hs.tail,fun h=>(h rfl).elim,fun _=>⟨bf,bt,bl,cl,ts,lf,vl,sp,rfl,h2,h3,hok,hsz'⟩⟩
theorem gw{bf bt bl cl:Nat}{s:bV}{ts lf ws:List Int}{vl:Value}{sp:List Value}(hs:St H w σ)(hok:s.Ok)(hF:re H bf s ts lf vl bt bl cl sp)(hFo:kz s.n s.cj (l8 ws s.n) ts)(hsz:bC ws s.n≤FF):
  Cl Tryz.prog 160 [.pointer (some ⟨bf,0,none⟩)] w fun v w'=>v=I (dot s.cj ts (·.c))∧zJ s.cj (s.wt ws) s.n (dot s.cj ts (·.c))∧dot s.cj ts (·.c)≤BB∧-BB≤dot s.cj ts (·.c)∧St H w' σ:=by
 obtain ⟨hFf,hFl,hFt,hFd⟩:=hF
 obtain ⟨al,cpl,rfl⟩:=RL.shape hFl
 have hlim:=hok.len
 have hal:s.cj.length=s.bK.length:=by simp [bV.cj,dw]
 have hlt:=hFo.lt
 have hn0:0<s.n:=by simp [bV.n]
 have hn1:s.n≤65:=by have:=hok.m0;have:=hok.m1;simp only [bV.n];omega
 have hv:=hFo.value hn0 hn1 hok.cj hsz
 have hd:=AZ (es:=s.cj) hlt
 have hf1:cellAt H bf 1=some (.slice al s.bK.length cpl):=hFf.at 1
 have hf2:cellAt H bf 2=some (.slice (some ⟨bt,0,none⟩) ts.length ts.length):=hFf.at 2
 refine Cl.o Tryz.func160 Tryz.ntmps160 ag1 ?_
 refine .ai (.z zg (.nil (.ai (.z zg (.nil (.seq (.ai (.z zm (.z znc ?_)))))))))
 refine .z (zfa eH) (.z (zfa bu) (.y hs (zld bU) (.z (cS aI) (.z zm (.nil ?_)))))
 refine .for (N:=s.bK.length) (J:=fun k fr w=>fr=[(10,.slice al s.bK.length cpl),(3,I (IntKind.i64.wrap (zA s.cj ts k))),(0,.pointer (some ⟨bf,0,none⟩))]∧St H w σ) aj ?_ ?_ ?_
 ·exact .mk ⟨rfl,hs⟩ (hs:= .cons rfl (.cons rfl (.cons rfl (.cR rfl (by simp [zA,aP,qo]) (.cons rfl (.nil rfl rfl))))))
 ·rintro k fr w hk ⟨rfl,hs⟩
  obtain ⟨l,hl⟩:=nth hk
  have hg:(ga s.cj k).c=l.M:=by simp [ga,bV.cj,iT hl,Lim.arc]
  have hlm:=hok.lim l (List.mem_of_getElem? hl)
  have hkt:k<ts.length:=by omega
  have htb:=hFo.nn k aj
  have hct:cellAt H bt k=some (I (gi ts k)):=hFt.at k (iE hkt)
  have hmul:gi ts k*l.M≤72000000000000000∧-72000000000000000≤gi ts k*l.M:=by
   simp only [FF] at htb
   have g1:gi ts k*l.M≤gi ts k*20000:=Int.mul_le_mul_of_nonneg_left hlm.2.2.2.1.2 htb.1
   have g2:gi ts k*(-20000)≤gi ts k*l.M:=Int.mul_le_mul_of_nonneg_left hlm.2.2.2.1.1 htb.1
   omega
  refine .block (.ai (.z zm ?_))
  refine .ixX hs hFl rfl rfl aI aR hl rfl ?_;intro b15 o15 hc15
  refine .q hs (bY (vs:=l.c) rfl eb aR hc15) ?_
  refine .o (.alloc hs db rfl fun b5 w hs=>?_)
  refine .z zg ?_
  refine .o (.aQ (vs:=l.c) hs rfl rfl aR fun w hs=>?_)
  refine .nil ?_
  refine .draw mix rfl hs fun w hs=>?_
  refine .z 0 rfl zm ?_;refine .z 1 rfl zm ?_;refine .z 2 rfl znc ?_;refine .z 3 rfl (zfa fl) ?_;refine .y 4 rfl hs ak ?_;refine .z 5 rfl zm ?_
  refine .z 6 rfl (ij (k:=k) rfl rfl ad af rfl hkt) ?_
  refine .r (i:=7) hs rfl an .none (aZ rfl ae hct) ?_
  refine .z 8 rfl (zfa eA) ?_;refine .y 9 rfl hs ae ?_;refine .z 10 rfl lG ?_
  refine .z 11 rfl (Ap rfl rfl) ?_
  refine .z 12 rfl zg ?_;refine .D hs ?_
  refine nB (nT ?_)
  exact .mk ⟨rfl,hs.tail⟩ (hs:= .cons rfl (.cons rfl (.cons rfl (.cR rfl (by rw [sw];simp only [zA,aP,hg]) (.cons rfl (.nil rfl rfl))))))
 ·rintro fr w ⟨rfl,hs⟩
  rw [←hal,←hd,iR (by have:=hv.2.2;simp only [BB] at this;omega)]
  refine nT ?_
  refine .ai (.z zm (.z zg (.nil ?_)))
  refine .ret (Fin.bD Tryz.results160 rfl ?_)
  exact ⟨rfl,hv.1,hv.2.2.1,hv.2.2.2,hs⟩
theorem qv{vw:Value}{ws:List Int}(hs:St H w σ)(hrw:RI H vw ws)(hlw:ws.length≤1000000)(hb:∀k,-9223372036854775807≤gi ws k∧gi ws k≤9223372036854775807):
  Cl Tryz.prog 159 [vw] w fun v w'=>∃H1,HLe H H1∧RI H1 v (sV ws)∧St H1 w' σ:=by
 obtain ⟨aw,cw,rfl⟩:=RI.shape hrw
 refine Cl.o Tryz.func159 Tryz.ntmps159 ag1 ?_
 refine .ai (.z zg (.nil (.ai (.z zm (.z (cS ad) ?_)))))
 refine .o (.so ws.length hs rfl rfl ad eM rfl af bE aj fun b8 w hs=>?_)
 refine .z zg (.nil (.seq (.ai (.z zm (.z (cS ad) (.z zm (.nil ?_)))))))
 refine .for (N:=ws.length) (J:=fun k fr w=>fr=[(9,.slice aw ws.length cw),(3,.slice (some ⟨b8,0,none⟩) ws.length ws.length)]∧∃L,(L.length=ws.length∧∀v<ws.length,gi L v=if v<k then -gi ws v else 0)∧St H w (.blk b8 (Is L)::σ)) aj ?_ ?_ ?_
 ·exact .mk ⟨rfl,_,⟨bR,fun v hv=>by rw [dF _ _ hv,if_neg aj]⟩,hs⟩
 ·rintro k fr w hk ⟨rfl,L,⟨hL1,hL2⟩,hs⟩
  have hx:=bL hk
  have hbk:=hb k
  refine .block (.ai (.z zm ?_))
  first|(refine .ixv hs ad af ?_;intro b14 o14 hc14)|refine .z (zix ad af) ?_
  refine .y hs (zld ae) (.z zg (.z zg (.nil (.region (.z zm (.z zm (.z zm (.z xP ?_))))))))
  first|(refine .ixv hs ad af ?_;intro b20 o20 hc20)|refine .z (zix ad af) ?_
  refine .o (.store hs rfl rfl af fun w hs=>?_)
  refine .nil ?_
  refine nB (nT ?_)
  refine .mk ⟨rfl,_,⟨by rw [List.length_set];exact hL1,fun v hv=>?_⟩,hs⟩
  rw [fk aj]
  by_cases e:v=k
  ·subst e;rw [if_pos rfl,if_pos aj]
  ·rw [if_neg e,hL2 v hv];congr 1;apply propext;omega
 ·rintro fr w ⟨rfl,L,⟨hL1,hL2⟩,hs⟩
  obtain rfl:L=sV ws:=AT (by simp [hL1,sV]) (fun k hk=>by rw [hL2 k aj,if_pos aj,yw])
  refine nT ?_
  refine .ai (.z zm (.z zg (.nil ?_)))
  refine .ret (Fin.bD Tryz.results159 rfl ?_)
  obtain ⟨H1,g1,g2,hs⟩:=hs.bX .here
  refine ⟨H1,g1,?_,hs⟩
  rw [←hL1]
  exact Row.RI (spare:=[]) (by simpa using g2) _ (Nat.le_refl _) aj
theorem jA{v vw:Value}{s:bV}{ws:List Int}(hs:St H w σ)(hr:RSy H v s)(hrw:RI H vw ws):
  Cl Tryz.prog 74 [v,vw] w fun v w'=>∃H1 lo hi e,HLe H H1∧v= .tuple #[I lo,I hi,I e]∧dQ s ws lo hi e∧St H1 w' σ:=by
 obtain ⟨vl,rfl,hr⟩:=hr
 refine Cl.o Tryz.func74 Tryz.ntmps74 ag2 ?_
 refine .ai ?_
 refine .bx hs fun b2 w hs=>?_
 refine .z zg (.z zg (.z zg (.nil (.ai (.y hs (zls [_,_] a8 aH) (.z zm ?_))))))
 refine .o (.call Tryz.call158 rfl (gQ (s:=s) hs ⟨_,rfl,hr⟩ hrw) ?_);rintro _ w ⟨H1,e,pf,hle1,rfl,hA,hs,hne,heq⟩
 refine .z zm (.z zex (.z zex (.z zg (.z zg (.nil (.seq (.ai (.z zm (.z fP ?_)))))))))
 refine .nil ?_
 refine (.ep rfl (fun hc16=>?_) (fun hc16=>?_))
 ·refine .ai (.z zm (.z zg (.z zg (.z zg (.nil ?_)))))
  refine .ret (rT (Fin.FB Tryz.results74 rfl rfl rfl ?_))
  exact ⟨H1,_,_,_,hle1,rfl,.first ⟨hA,fun _=>rfl,fun h=>(hc16 h).elim⟩ hc16,hs.tail⟩
 ·refine .skip ?_
  refine nT ?_
  refine .seq (.draw mix rfl hs fun w hs=>?_)
  refine .ys 0 rfl hs [_,_] a8 aH ?_;refine .z 1 rfl zm ?_
  refine .E 2 hs ?_
  subst hc16
  obtain ⟨bf,bt,bl,cl,ts,lf,vl',sp,rfl,hF,hFo,hok,hsz⟩:=heq rfl
  have hwl:=(pN hA.zero.1).2.1
  have hbw:∀k,-9223372036854775807≤gi ws k∧gi ws k≤9223372036854775807:=fun k=>by
   simp only [FF] at hsz
   by_cases hk:k<s.n
   ·have:=lj ws hk;omega
   ·have:gi ws k=0:=by simp [gi,List.getElem?_eq_none (show ws.length≤k by omega)]
    omega
  refine .call Tryz.call159 rfl (qv hs (hrw.mono hle1) (by have:=hok.m1;simp only [bV.n] at hwl;omega) hbw) ?_;rintro v21 w ⟨H2,hle2,hr21,hs⟩
  refine .go ?_
  refine .E 3 hs ?_
  refine .call Tryz.call158 rfl (gQ (s:=s) hs ⟨_,rfl,hr.mono (hle1.trans hle2)⟩ hr21) ?_;rintro _ w ⟨H3,e2,pg,hle3,rfl,hA2,hs,hne2,heq2⟩
  refine .go ?_
  refine .z 4 rfl zm ?_;refine .z 5 rfl zex ?_;refine .z 6 rfl zex ?_;refine .z 7 rfl zg ?_;refine .z 8 rfl zg ?_;refine .D hs ?_
  refine .seq (.ai (.z zm (.z fP (.nil ?_))))
  refine (.ep rfl (fun hc26=>?_) (fun hc26=>?_))
  ·refine .ai (.z zm (.z zg (.z zg (.z zg (.nil ?_)))))
   refine .ret (rT (Fin.FB Tryz.results74 rfl rfl rfl ?_))
   obtain ⟨q1,q2,q3,q4⟩:=hFo.value (by simp [bV.n]) (by have:=hok.m0;have:=hok.m1;simp only [bV.n];omega) hok.cj hsz
   exact ⟨H3,_,_,_,hle1.trans (hle2.trans hle3),rfl,.second ⟨hA,fun h=>(h rfl).elim,fun _=>⟨q1,q3,q4⟩⟩ ⟨hA2,fun _=>rfl,fun h=>(hc26 h).elim⟩ hc26,hs.tail⟩
  ·refine .skip ?_
   refine nT ?_
   refine .ai (.z zm ?_)
   subst hc26
   obtain ⟨bf2,bt2,bl2,cl2,ts2,lf2,vl2,sp2,rfl,hF2,hFo2,hok2,hsz2⟩:=heq2 rfl
   refine .o (.call Tryz.call160 rfl (gw hs hok hF2 hFo2 hsz2) ?_);rintro _ w ⟨rfl,a1,a2,a3,hs⟩
   simp only [BB] at a2 a3
   refine .z xP (.z zm ?_)
   refine .o (.call Tryz.call160 rfl (gw hs hok (hF.mono (hle2.trans hle3)) hFo hsz) ?_);rintro _ w ⟨rfl,c1,c2,c3,hs⟩
   refine .z zg (.z zg (.z zg (.nil ?_)))
   refine .ret (Fin.FB Tryz.results74 rfl rfl rfl ?_)
   exact ⟨H3,_,_,_,hle1.trans (hle2.trans hle3),rfl,.ok ⟨hA,fun h=>(h rfl).elim,fun _=>⟨c1,c2,c3⟩⟩ ⟨hA2,fun h=>(h rfl).elim,fun _=>⟨a1,by simp only [BB];omega,by simp only [BB];omega⟩⟩,hs.tail⟩
theorem mH{bf bt bl cl:Nat}{s:bV}{ts lf ws:List Int}{vl:Value}{sp:List Value}(hs:St H w σ)(hok:s.Ok)(hF:re H bf s ts lf vl bt bl cl sp)(hFo:kz s.n s.cj (l8 ws s.n) ts)(hsz:bC ws s.n≤FF):
  Cl Tryz.prog 224 [.pointer (some ⟨bf,0,none⟩)] w fun v w'=>∃H1,HLe H H1∧RPf H1 v (dot s.cj ts (·.c)) (ez ts ts.length)∧St H1 w' σ:=by
 have hf2:cellAt H bf 2=some (.slice (some ⟨bt,0,none⟩) ts.length ts.length):=hF.f.at 2
 have hlt:=hFo.lt
 have hal:s.cj.length=s.bK.length:=by simp [bV.cj,dw]
 have hlim:=hok.len
 refine Cl.o Tryz.func224 Tryz.ntmps224 ag1 ?_
 refine .ai ?_
 refine .o (.alloc hs dV rfl fun b2 w hs=>?_)
 refine .nil (.ai (.z zm ?_))
 refine .o (.call Tryz.call160 rfl (gw hs hok hF hFo hsz) ?_);rintro _ w ⟨rfl,c1,c2,c3,hs⟩
 refine .z (zbd [_,_] gy) ?_
 refine .o (.alloc hs dV rfl fun b3 w hs=>?_)
 refine .o (.aQ (vs:=[_,_]) hs rfl rfl bp fun w hs=>?_)
 refine .nil (.seq (.ai (.z zm (.z znc (.z (zfa fl) (.y hs (zld ak) (.z (cS ad) (.z zm (.nil ?_)))))))))
 refine .for (N:=ts.length) (J:=fun k fr w=>fr=[(12,.slice (some ⟨bt,0,none⟩) ts.length ts.length),(3,.pointer (some ⟨b3,0,none⟩)),(2,.pointer (some ⟨b2,0,none⟩))]∧∃vu en,bQ 2 vu (Uses (ez ts k)) en∧St H w (.blk b3 [I (dot s.cj ts (·.c)),vu]:: .blk b2 [I 0,.slice none 0 0]::en::σ)) aj ?_ ?_ ?_
 ·exact .mk ⟨rfl,_,.nul,.nil 2 none,(hs.nul).sb⟩
 ·rintro k fr w hk ⟨rfl,vu,en,hO,hs⟩
  have hct:cellAt H bt k=some (I (gi ts k)):=hF.t.at k (iE hk)
  refine .block (.ai (.z zm ?_))
  first|(refine .ixv hs ad af ?_;intro b17 o17 hc17)|refine .z (zix ad af) ?_
  refine .q hs (aZ rfl ae hct) ?_
  refine .z zg (.z zg (.nil (.ai (.z zm (.z qN (.nil ?_))))))
  refine (.cg rfl (fun hc20=>?_) (fun hc20=>?_))
  ·refine .region (.z (zfa cO) (.y hs (zld fZ) (.z zm (.z zm (.z (zbd [_,_] xE) ?_)))))
   refine .o (.buildSlice (cells:=[I k,I (gi ts k)]) hs q9 rfl rfl fun b26 w hs=>?_)
   refine .o (.append (ys:=[I k,I (gi ts k)]) hs dq rfl rfl hO (.own .here rfl rfl) (by simp [Value.oneCell']) (fun l h=>by rw [xH] at h;have:=lg ts k;omega) ?_);intro v27 en27 w hO2 hs
   obtain ⟨a27,l27,c27,rfl,h27⟩:=hO2.shape
   refine .z (zfa cO) ?_
   refine .o (.store hs rfl rfl Tryz.sizeOf111 fun w hs=>?_)
   refine .nil ?_
   refine nB (nT ?_)
   have e:Uses (ez ts k)++[I k,I (gi ts k)]=Uses (ez ts (k+1)):=by rw [ez,if_pos hc20,xI];rfl
   rw [e] at hO2
   exact .mk ⟨rfl,_,_,hO2,hs.sb⟩
  ·refine .skip ?_
   refine nB (nT ?_)
   have e:ez ts (k+1)=ez ts k:=by rw [ez,if_neg hc20];simp
   exact .mk ⟨rfl,vu,en,by rw [e];exact hO,hs⟩
 ·rintro fr w ⟨rfl,vu,en,hO,hs⟩
  obtain ⟨au,lu,cu,rfl,hlu⟩:=hO.shape
  refine nT ?_
  refine .ai (.y hs (zls [_,_] dc bp) ?_)
  refine .o (.aQ (vs:=[_,_]) hs rfl rfl bp fun w hs=>?_)
  refine .nil ?_
  refine .ret ?_
  obtain ⟨H1,g1,g2,hs⟩:=bQ.bX (cs:=(ez ts ts.length).map Use.c) hO (fun c hc=>by simp only [List.mem_map] at hc;obtain ⟨x,_,rfl⟩:=hc;rfl) aj (by rw [List.length_map];have:=lg ts ts.length;omega) hs dJ
  exact Fin.gV [] [] hs fun w hs=>⟨_,results1 Tryz.results224 (di (vs:=[_,_]) hs rfl dc bp),H1,g1,⟨_,rfl,g2⟩,hs.out⟩
theorem mI{bf bt bl cl:Nat}{s:bV}{ts lf ws:List Int}{vl:Value}{sp:List Value}(hs:St H w σ)(hok:s.Ok)(hF:re H bf s ts lf vl bt bl cl sp)(hFo:kz s.n s.cj (l8 ws s.n) ts)(hsz:bC ws s.n≤FF):
  Cl Tryz.prog 162 [.pointer (some ⟨bf,0,none⟩)] w fun v w'=>∃H1 xs,HLe H H1∧RI H1 v xs∧zE s ws xs∧St H1 w' σ:=by
 obtain ⟨N,hN⟩:=Int.eq_ofNat_of_zero_le hok.m0
 have hN1:=hok.m1
 have hn:s.n=N+1:=by simp [bV.n,hN]
 have hlt:=hFo.lt
 have hal:s.cj.length=s.bK.length:=by simp [bV.cj,dw]
 have hlim:=hok.len
 have hf0:cellAt H bf 0=some (I (N:Int)):=by have:=hF.f.at 0 (v:=I s.many);rwa [hN] at this
 have hoka:=zc hok.cj hlt.symm aj
 rw [hn] at hoka
 refine Cl.o Tryz.func162 Tryz.ntmps162 ag1 ?_
 refine .ai (.z zg (.nil ?_))
 refine .seq (.draw mix rfl hs fun w hs=>?_)
 refine .z 0 rfl zm ?_;refine .z 1 rfl znc ?_;refine .z 2 rfl (zfa eH) ?_;refine .z 3 rfl (zfa bw) ?_;refine .y 4 rfl hs ae ?_;refine .z 5 rfl zm ?_
 refine .E 6 hs ?_
 refine .call Tryz.call223 rfl (jG hs hok hF aj) ?_;rintro _ w ⟨H1,b15,hle1,rfl,hit,hs⟩
 refine .go ?_
 refine .E 7 hs ?_
 refine .call Tryz.call126 rfl (iA hs aj hoka hit Tryz.call270) ?_;rintro _ w ⟨H2,bc,bb,st,ov,vo,hle2,rfl,hov,⟨r,hNI,hr⟩,hs⟩
 have hovn:ov=none:=by
  cases ov with
  |none=>rfl
  |some x=>exact (hNI.none hoka aj (by have:=hr bR;omega) hFo.fe).elim
 subst hovn
 obtain ⟨hfe,hbd⟩:=hNI.sol hoka aj
 have hlc:=hNI.lc
 have hb0:=hbd 0 aj
 refine .go ?_
 refine .z 8 rfl zm ?_;refine .z 9 rfl zex ?_;refine .z 10 rfl zex ?_;refine .z 11 rfl zex ?_;refine .z 12 rfl zg ?_;refine .z 13 rfl zg ?_;refine .z 14 rfl zg ?_;refine .D hs ?_
 refine .ai (.z zm ?_)
 refine .q hs (ij (k:=0) rfl rfl ad af rfl aj) ?_
 refine .y hs (zld ae) (.z zg (.nil (.seq (.ai (.z zm (.z (cS ad) (.z zm (.nil ?_))))))))
 refine .for (N:=N+1) (J:=fun k fr w=>fr=[(3,.slice (some ⟨bc,0,none⟩) (N+1) (N+1)),(6,I (gi st.cost 0))]∧∃L,(L.length=N+1∧∀v<N+1,gi L v=if v<k then gi st.cost v - gi st.cost 0 else gi st.cost v)∧St H2 w (.blk bc (Is L)::σ)) aj ?_ ?_ ?_
 ·exact .mk ⟨rfl,st.cost,⟨hlc,fun v hv=>by rw [if_neg aj]⟩,hs.sb⟩
 ·rintro k fr w hk ⟨rfl,L,⟨hL1,hL2⟩,hs⟩
  have hLk:=hL2 k hk
  rw [if_neg aj] at hLk
  have hbk:=hbd k hk
  refine .block (.ai (.z zm (.z zg (.nil (.region (.z zm (.z zm ?_)))))))
  first|(refine .ixv hs ad af ?_;intro b30 o30 hc30)|refine .z (zix ad af) ?_
  refine .y hs (zld ae) (.z zm (.z iK ?_))
  first|(refine .ixv hs ad af ?_;intro b34 o34 hc34)|refine .z (zix ad af) ?_
  refine .o (.store hs rfl rfl af fun w hs=>?_)
  refine .nil ?_
  refine nB (nT ?_)
  refine .mk ⟨rfl,_,⟨by rw [List.length_set];exact hL1,fun v hv=>?_⟩,hs⟩
  rw [fk aj]
  by_cases e:v=k
  ·subst e;rw [if_pos rfl,if_pos aj,hLk]
  ·rw [if_neg e,hL2 v hv];congr 1;apply propext;omega
 ·rintro fr w ⟨rfl,L,⟨hL1,hL2⟩,hs⟩
  refine nT ?_
  refine .ai (.z zm (.z zg (.nil ?_)))
  refine .ret (Fin.bD Tryz.results162 rfl ?_)
  obtain ⟨H3,g1,g2,hs⟩:=hs.bX .here
  have hg:∀v<N+1,gi L v=gi st.cost v - gi st.cost 0:=fun v hv=>by rw [hL2 v hv,if_pos hv]
  obtain ⟨p1,p2⟩:=hFo.FL aj hok.cj hfe
  refine ⟨H3,L,hle1.trans (hle2.trans g1),?_,⟨aj,by rw [hg 0 aj];omega,fun v hv=>?_,fun x hx=>?_,?_⟩,hs⟩
  ·have:=Row.RI (spare:=[]) (by simpa using g2) (N+1) aj aj
   rwa [hL1] at this
  ·have:=hbd v aj
   rw [hg v aj];omega
  ·have h1:=hok.cj.2 x hx
   have h2:=p2 x hx
   rw [hg _ aj,hg _ aj];omega
  ·have h1:=hFo.value aj aj hok.cj hsz
   rw [←p1] at h1
   have e:aP (fun v=>gi ws v*gi L v) s.n=aP (fun v=>gi ws v*(gi st.cost v - gi st.cost 0)) s.n:=bg fun v hv=>by rw [hg v aj]
   rw [e];exact h1.1
theorem sH{v vw:Value}{s:bV}{ws:List Int}(hs:St H w σ)(hr:RSy H v s)(hrw:RI H vw ws):
  Cl Tryz.prog 152 [v,vw] w fun v w'=>∃H1 vx xs e,HLe H H1∧v= .tuple #[vx,I e]∧zF s ws e∧RI H1 vx xs∧(e≠0→xs=[])∧(e=0→zE s ws xs)∧St H1 w' σ:=by
 obtain ⟨vl,rfl,hr⟩:=hr
 refine Cl.o Tryz.func152 Tryz.ntmps152 ag2 ?_
 refine .ai ?_
 refine .bx hs fun b2 w hs=>?_
 refine .z zg (.z zg (.nil (.ai (.y hs (zls [_,_] a8 aH) (.z zm ?_)))))
 refine .o (.call Tryz.call158 rfl (gQ (s:=s) hs ⟨_,rfl,hr⟩ hrw) ?_);rintro _ w ⟨H1,e,pf,hle1,rfl,hA,hs,hne,heq⟩
 refine .z zm (.z zex (.z zex (.z zg (.z zg (.nil (.seq (.ai (.z zm (.z fP ?_)))))))))
 refine .nil ?_
 refine (.ep rfl (fun hc15=>?_) (fun hc15=>?_))
 ·refine .ai (.z zm (.z zg (.z zg (.nil ?_))))
  refine .ret (rT (Fin.oH Tryz.results152 rfl rfl ?_))
  exact ⟨H1,_,[],_,hle1,rfl,hA,RS.nil H1 1 none 0,fun _=>rfl,fun h=>(hc15 h).elim,hs.tail⟩
 ·refine .skip ?_
  refine nT ?_
  refine .ai (.z zm ?_)
  subst hc15
  obtain ⟨bf,bt,bl,cl,ts,lf,vl,sp,rfl,hF,hFo,hok,hsz⟩:=heq rfl
  refine .o (.call Tryz.call162 rfl (mI hs hok hF hFo hsz) ?_);rintro v18 w ⟨H2,xs,hle2,hx,hB,hs⟩
  refine .z zg (.z zg (.nil ?_))
  refine .ret (Fin.oH Tryz.results152 rfl rfl ?_)
  exact ⟨H2,_,xs,_,hle1.trans hle2,rfl,hA,hx,fun h=>(h rfl).elim,fun _=>hB,hs.tail⟩
theorem q6{v vw:Value}{s:bV}{ws:List Int}(hs:St H w σ)(hr:RSy H v s)(hrw:RI H vw ws):
  Cl Tryz.prog 167 [v,vw] w fun v w'=>∃H1 vp n us e,HLe H H1∧v= .tuple #[vp,I e]∧lE s ws n e∧RPf H1 vp n us∧(e≠0→us=[])∧(e=0→s.Ok∧bC ws s.n≤FF∧∃ts,kz s.n s.cj (l8 ws s.n) ts∧n=dot s.cj ts (·.c)∧us=ez ts ts.length)∧St H1 w' σ:=by
 obtain ⟨vl,rfl,hr⟩:=hr
 refine Cl.o Tryz.func167 Tryz.ntmps167 ag2 ?_
 refine .ai ?_
 refine .bx hs fun b2 w hs=>?_
 refine .o (.alloc hs dV rfl fun b4 w hs=>?_)
 refine .z zg (.nil (.ai (.y hs (zls [_,_] a8 aH) (.z zm ?_))))
 refine .o (.call Tryz.call158 rfl (gQ (s:=s) hs ⟨_,rfl,hr⟩ hrw) ?_);rintro _ w ⟨H1,e,pf,hle1,rfl,hA,hs,hne,heq⟩
 refine .z zm (.z zex (.z zex (.z zg (.z zg (.nil (.seq (.ai (.z zm (.z fP ?_)))))))))
 refine .nil ?_
 refine (.ep rfl (fun hc15=>?_) (fun hc15=>?_))
 ·refine .ai (.z (zbd [_,_] gy) (.z zm ?_))
  refine .o (.aQ (vs:=[_,_]) hs rfl rfl bp fun w hs=>?_)
  refine .z zg (.nil ?_)
  refine .ret (rT (?_))
  exact Fin.gV [] [] hs fun w hs=>⟨_,results2 Tryz.results167 (di (vs:=[_,_]) hs rfl dc bp) rfl,H1,_,0,[],_,hle1,rfl,⟨hA,fun _=>rfl,fun h=>(hc15 h).elim⟩,⟨_,rfl,RS.nil H1 2 none 0⟩,fun _=>rfl,fun h=>(hc15 h).elim,hs.out⟩
 ·refine .skip ?_
  refine nT ?_
  refine .ai (.z zm ?_)
  subst hc15
  obtain ⟨bf,bt,bl,cl,ts,lf,vl,sp,rfl,hF,hFo,hok,hsz⟩:=heq rfl
  refine .o (.call Tryz.call224 rfl (mH hs hok hF hFo hsz) ?_);rintro _ w ⟨H2,hle2,⟨vu,rfl,hU⟩,hs⟩
  obtain ⟨au,cu,rfl⟩:=RU.shape hU
  obtain ⟨q1,q2,q3,q4⟩:=hFo.value (by simp [bV.n]) (by have:=hok.m0;have:=hok.m1;simp only [bV.n];omega) hok.cj hsz
  refine .o (.aQ (vs:=[_,_]) hs rfl rfl bp fun w hs=>?_)
  refine .z zg (.nil ?_)
  refine .ret ?_
  exact Fin.gV [] [] hs fun w hs=>⟨_,results2 Tryz.results167 (di (vs:=[_,_]) hs rfl dc bp) rfl,H2,_,_,_,_,hle1.trans hle2,rfl,⟨hA,fun h=>(h rfl).elim,fun _=>⟨q1,q3,q4⟩⟩,⟨_,rfl,hU⟩,fun h=>(h rfl).elim,fun _=>⟨hok,hsz,ts,hFo,rfl,rfl⟩,hs.out⟩
theorem BW{n m:Int}(hm:0<m):(n.tmod m+m).tmod m=n%m:=by
 have h2:=Int.lt_tmod_of_pos n hm
 rw [Int.tmod_eq_emod_of_nonneg aj,Int.tmod_def,show n - m*n.tdiv m+m=n+m*(1 - n.tdiv m) by rw [Int.mul_sub];omega,Int.add_mul_emod_self_left]
theorem sd{v:Value}{l:List Int}{i n:Int}(hs:St H w σ)(hr:RI H v l)(hi:0≤i)(hn:n≤4611686018427387904):Cl Tryz.prog 264 [v,I i,I n] w fun v w'=>v=I (o5 l i n)∧St H w' σ:=by
 obtain ⟨a,c,rfl⟩:=RI.shape hr
 have hlen:=(RI.len hr).2.2
 refine Cl.o Tryz.func264 Tryz.ntmps264 ag3 ?_
 refine .ai (.z zg (.nil (.seq (.ai (.z zm (.z (cS ad) (.z j6 (.z zm ?_))))))))
 refine .j7 (t':=10) rfl (fun hb10=>?_) (fun hb10=>?_)
 ·refine .gFs 2 3 false rfl rfl rfl ?_
  refine .z zpT (.nil ?_)
  refine (.cT ?_)
  refine .ai (.z zg (.nil ?_))
  refine .ret (rT (Fin.bD Tryz.results264 rfl ?_))
  exact ⟨by rw [show o5 l i n=0 by unfold o5;rw [if_pos (.inl (List.length_eq_zero_iff.1 aj))]],hs⟩
 ·refine .gT rfl rfl ?_
  refine .z zm ?_
  refine .gT rfl rfl ?_
  refine .z ik (.z zpF (.nil ?_))
  refine (.cg rfl (fun hc13=>?_) (fun hc13=>?_))
  ·refine .ai (.z zg (.nil ?_))
   refine .ret (rT (Fin.bD Tryz.results264 rfl ?_))
   exact ⟨by rw [show o5 l i n=0 by unfold o5;rw [if_pos (.inr aj)]],hs⟩
  ·refine .skip ?_
   refine nT ?_
   refine .ai (.z zm (.z zm (.z zm (.z (cS ad) ?_))))
   have hl0:0<l.length:=by omega
   have h1:=Int.tmod_nonneg (a:=i) (l.length:Int) hi
   have h2:=Int.tmod_lt_of_pos i (b:=(l.length:Int)) aj
   have hx:=bL (l:=l) (i:=(i.tmod (l.length:Int)).toNat) aj
   have h3:=Int.tmod_lt_of_pos (gi l (i.tmod (l.length:Int)).toNat) (b:=n) aj
   have h4:=Int.lt_tmod_of_pos (gi l (i.tmod (l.length:Int)).toNat) (b:=n) aj
   have e:=BW (n:=gi l (i.tmod (l.length:Int)).toNat) (m:=n) aj
   refine .z CS ?_
   refine .ixY hs hr rfl rfl ad af hx aj ?_;intro b19 o19 hc19
   refine .q hs (aZ rfl ae hc19) ?_
   refine .z zm (.z CS (.z zm (.z cC (.z zm (.z CS (.z zg (.nil ?_)))))))
   refine .ret (Fin.bD Tryz.results264 rfl ?_)
   exact ⟨by unfold o5;rw [if_neg (fun h=>h.elim (fun h=>by rw [h] at hl0;exact Nat.lt_irrefl _ hl0) (fun h=>by omega)),←e],hs⟩
def tX(i j:Nat):Int:=if i=j then 0 else free
theorem Dl{n:Nat}(es:List Arc){T:Nat→Nat→Int}(h:∀i j,i<n→j<n→T i j=tX i j):Eb n es 0 T:=
 ⟨fun i hi=>by rw [h i i hi hi];simp [tX],fun _ _ h=>by omega,fun i j hi hj hij=> .inl (by rw [h i j hi hj];simp [tX,hij])⟩
set_option maxHeartbeats 4000000 in
theorem sa{v:Value}{s:bV}(hs:St H w σ)(hr:RSy H v s)(hok:s.Ok):
  Cl Tryz.prog 226 [v] w fun u w'=>∃H1 rs,HLe H H1∧RT H1 u rs∧Sq s.n rs∧j9 s.n s.cj (gt rs)∧St H1 w' σ:=by
 obtain ⟨ul,rfl,hl⟩:=hr
 obtain ⟨al,cl,rfl⟩:=RL.shape hl
 have hm0:=hok.m0
 have hm1:=hok.m1
 have hlen:=hok.len
 have hnp:=s.uB
 have hn65:=hok.n65
 have hinn:=hok.inn
 have hmn:s.many+1=(s.n:Int):=by simp only [bV.n];omega
 generalize hn:s.n=n at hnp hn65 hinn hmn ⊢
 refine Cl.o Tryz.func226 Tryz.ntmps226 ag1 ?_
 refine .ai ?_
 refine .bx hs fun b1 w hs=>?_
 refine .z zg (.nil (.ai (.z (zfa bw) ?_)))
 first|refine .q hs (gh rfl ae (hm:=by repeat (first|exact .here|assumption|exact Mem.row aj aj|refine .there ?_|refine Mem.sJ ?_)) (hv:=by first|rfl|exact eY aj|exact kJ dB aj aj|exact iE kG)) ?_|refine .q hs (aZ rfl ae dB) ?_
 refine .z cC ?_
 rw [hmn]
 refine .z zg (.nil (.ai (.z zm ?_)))
 refine .o (.EY n hs rfl rfl aq Tryz.typeInfo22 rfl aC dD aj fun b16 w hs=>?_)
 refine .z zg (.nil (.seq (.ai (.z zm (.z (cS aq) (.z zm (.nil ?_)))))))
 refine .for (N:=n) (J:=fun k fr w=>fr=[(3,I (n:Int)),(4,.slice (some ⟨b16,0,none⟩) n n),(1,.pointer (some ⟨b1,0,none⟩))]∧∃bs:List Nat,bs.length=k∧St H w (.blk b16 (bs.map (ptr n)++List.replicate (n - k) (.slice none 0 0))::(kF bs (zH tX n k)++(.blk b1 [I s.many,.slice al s.bK.length cl]::σ)))) aj ?_ ?_ ?_
 ·exact .mk ⟨rfl,[],rfl,hs⟩
 ·rintro k fr w hk ⟨rfl,bs,hbl,hs⟩
  refine .block (.ai (.z zm (.z zg (.nil (.ai (.z zm (.z zm (.z zm ?_))))))))
  refine .o (.so n hs rfl rfl ad eM rfl af bE aj fun b25 w hs=>?_)
  first|(refine .ixw hs aq aC ?_;intro b26 o26 hc26)|refine .z (zix aq aC) ?_
  refine .o (.store hs rfl rfl aC ?_ dJ (by simp [hbl];omega) (DK hbl hk));intro w hs
  refine .nil (.ai (.z zm (.z zm ?_)))
  first|(refine .ixw hs aq aC ?_;intro b29 o29 hc29)|refine .z (zix aq aC) ?_
  refine .q hs (gh rfl ak (hv:=yb hbl)) ?_
  refine .z (cS ad) (.z zm (.nil ?_))
  refine .for (N:=n) (J:=fun j fr w=>fr=[(5,I (k:Int)),(19,I (k:Int)),(18,I (n:Int)),(3,I (n:Int)),(4,.slice (some ⟨b16,0,none⟩) n n),(1,.pointer (some ⟨b1,0,none⟩))]∧St H w (.blk b25 (Is ((List.range n).map fun c=>if c<j∧k≠c then free else 0)):: .blk b16 ((bs++[b25]).map (ptr n)++List.replicate (n - (k+1)) (.slice none 0 0))::(kF bs (zH tX n k)++(.blk b1 [I s.many,.slice al s.bK.length cl]::σ)))) aj ?_ ?_ ?_
  ·rw [xd (fun c=>if c<0∧k≠c then free else 0) n 0 (fun j _=>by simp)] at hs
   exact .mk ⟨rfl,hs⟩
  ·rintro j fr w hj ⟨rfl,hs⟩
   refine .block (.ai (.z zm (.z zg (.nil (.ai (.z zm (.z zm (.z fP (.nil ?_)))))))))
   refine (.ep rfl (fun hc37=>?_) (fun hc37=>?_))
   ·refine .region (.z zm (.z zm ?_))
    first|(refine .ixw hs aq aC ?_;intro b40 o40 hc40)|refine .z (zix aq aC) ?_
    refine .q hs (gh rfl ak (hv:=yb hbl)) ?_
    refine .z zm ?_
    first|(refine .ixv hs ad af ?_;intro b43 o43 hc43)|refine .z (zix ad af) ?_
    refine .o (.store hs rfl rfl af ?_ dJ (yO (by simp;omega)) (qM _ _ _));intro w hs
    refine .nil ?_
    refine nB (nT ?_)
    rw [Ah _ (fun c=>if c<j+1∧k≠c then free else 0) hj 1000000000 (fun c _=>by
     by_cases e:c=j
     ·subst e;rw [if_pos rfl,if_pos ⟨aj,aj⟩]
     ·rw [if_neg e];congr 1;apply propext;omega)] at hs
    exact .mk ⟨rfl,hs⟩
   ·refine .skip ?_
    refine nB (nT ?_)
    rw [se (g:=fun c=>if c<j+1∧k≠c then free else 0) (fun c _=>by
     by_cases e:c=j
     ·subst e;rw [if_neg aj,if_neg aj]
     ·congr 1;apply propext;omega)] at hs
    exact .mk ⟨rfl,hs⟩
  ·rintro fr w ⟨rfl,hs⟩
   rw [se (g:=tX k) (fun c hc=>by
    unfold tX
    by_cases e:k=c
    ·rw [if_neg aj,if_pos e]
    ·rw [if_pos ⟨hc,e⟩,if_neg e])] at hs
   replace hs:=hs.Fz (by rw [hbl,w9])
   rw [←zY] at hs
   refine nB (nT ?_)
   exact .mk ⟨rfl,bs++[b25],by simp [hbl],hs⟩
 ·rintro fr w ⟨rfl,bs,hbl,hs⟩
  rw [Nat.sub_self,List.replicate_zero,List.append_nil] at hs
  refine nT ?_
  refine .seq (.ai (.z (zfa bu) ?_))
  first|refine .q hs (gh rfl bU (hm:=by repeat (first|exact .here|assumption|exact Mem.row aj aj|refine .there ?_|refine Mem.sJ ?_)) (hv:=by first|rfl|exact eY aj|exact kJ dB aj aj|exact iE kG)) ?_|refine .q hs (aZ rfl bU dB) ?_
  refine .z (cS aI) (.z zm (.nil ?_))
  refine .for (N:=s.bK.length) (J:=fun k fr w=>fr=[(47,.slice al s.bK.length cl),(4,.slice (some ⟨b16,0,none⟩) n n)]∧∃rs,Sq n rs∧Eb n s.cj k (gt rs)∧St H w (.blk b16 (bs.map (ptr n))::(kF bs rs++(.blk b1 [I s.many,.slice al s.bK.length cl]::σ)))) aj ?_ ?_ ?_
  ·exact .mk ⟨rfl,_,Dv tX n,Dl s.cj (fun i j hi hj=>Dw tX hi hj),hs⟩
  ·rintro k fr w hk ⟨rfl,rs,hq,hB,hs⟩
   obtain ⟨x,hx⟩:=nth (l:=s.bK) hk
   have hrl:=hq.1
   obtain ⟨⟨xa0,xa1⟩,⟨xb0,xb1⟩,xne,xM,-⟩:=hok.lim x (List.mem_of_getElem? hx)
   have ha:x.A.toNat<n:=by omega
   have hb:x.B.toNat<n:=by omega
   have hga:=iT hx
   refine .block (.ai ?_)
   refine .ixX (enc:=Lim.c) hs hl rfl rfl aI aR hx rfl ?_;intro b51 o51 hc51
   refine .q hs (bY (vs:=x.c) rfl eb aR hc51) ?_
   refine .o (.alloc hs db rfl fun b8 w hs=>?_)
   refine .o (.aQ (vs:=x.c) hs rfl rfl aR fun w hs=>?_)
   refine .nil ?_
   refine .draw mix rfl hs fun w hs=>?_
   refine .z 0 rfl zm ?_;refine .z 1 rfl (zfa du) ?_
   first|refine .load (i:=2) hs rfl an .none rfl ae ?_ (by repeat (first|exact .here|assumption|exact Mem.row aj aj|refine .there ?_|refine Mem.sJ ?_)) (by first|rfl|exact eY aj|exact kJ dB aj aj|exact iE kG)|refine .r (i:=2) hs rfl an .none (aZ rfl ae dB) ?_
   refine .z 3 rfl (ij (k:=x.A.toNat) rfl rfl aq aC aj ha) ?_
   first|refine .load (i:=4) hs rfl an .none rfl ak ?_ (by repeat (first|exact .here|assumption|exact Mem.row aj aj|refine .there ?_|refine Mem.sJ ?_)) (by first|rfl|exact eY aj|exact kJ dB aj aj|exact iE kG)|refine .r (i:=4) hs rfl an .none (aZ rfl ak dB) ?_
   refine .z 5 rfl (zfa dI) ?_
   first|refine .load (i:=6) hs rfl an .none rfl ae ?_ (by repeat (first|exact .here|assumption|exact Mem.row aj aj|refine .there ?_|refine Mem.sJ ?_)) (by first|rfl|exact eY aj|exact kJ dB aj aj|exact iE kG)|refine .r (i:=6) hs rfl an .none (aZ rfl ae dB) ?_
   refine .z 7 rfl zm ?_;refine .z 8 rfl (zfa du) ?_
   first|refine .load (i:=9) hs rfl an .none rfl ae ?_ (by repeat (first|exact .here|assumption|exact Mem.row aj aj|refine .there ?_|refine Mem.sJ ?_)) (by first|rfl|exact eY aj|exact kJ dB aj aj|exact iE kG)|refine .r (i:=9) hs rfl an .none (aZ rfl ae dB) ?_
   refine .z 10 rfl (ij (k:=x.A.toNat) rfl rfl aq aC aj ha) ?_
   first|refine .load (i:=11) hs rfl an .none rfl ak ?_ (by repeat (first|exact .here|assumption|exact Mem.row aj aj|refine .there ?_|refine Mem.sJ ?_)) (by first|rfl|exact eY aj|exact kJ dB aj aj|exact iE kG)|refine .r (i:=11) hs rfl an .none (aZ rfl ak dB) ?_
   refine .z 12 rfl (zfa dI) ?_
   first|refine .load (i:=13) hs rfl an .none rfl ae ?_ (by repeat (first|exact .here|assumption|exact Mem.row aj aj|refine .there ?_|refine Mem.sJ ?_)) (by first|rfl|exact eY aj|exact kJ dB aj aj|exact iE kG)|refine .r (i:=13) hs rfl an .none (aZ rfl ae dB) ?_
   refine .z 14 rfl (ij (k:=x.B.toNat) rfl rfl ad af aj hb) ?_
   first|refine .load (i:=15) hs rfl an .none rfl ae ?_ (by repeat (first|exact .here|assumption|exact Mem.row aj aj|refine .there ?_|refine Mem.sJ ?_)) (by first|rfl|exact eY aj|exact kJ dB aj aj|exact iE kG)|refine .r (i:=15) hs rfl an .none (aZ rfl ae dB) ?_
   refine .z 16 rfl (zfa eA) ?_
   first|refine .load (i:=17) hs rfl an .none rfl ae ?_ (by repeat (first|exact .here|assumption|exact Mem.row aj aj|refine .there ?_|refine Mem.sJ ?_)) (by first|rfl|exact eY aj|exact kJ dB aj aj|exact iE kG)|refine .r (i:=17) hs rfl an .none (aZ rfl ae dB) ?_
   refine .z 18 rfl Bv ?_
   refine .z 19 rfl (ij (k:=x.B.toNat) rfl rfl ad af aj hb) ?_
   refine .ET 20 hs ?_
   refine .store hs rfl rfl af ?_ (.there (.there (Upd.row _ aj aj))) (yO (by rw [hq.2 _ ha];exact hb)) (qM _ _ _);intro w hs
   refine .go ?_
   refine .DT hs ?_
   refine nB (nT ?_)
   exact .mk ⟨rfl,_,hq.set ha _,by rw [C6 hq ha hb];exact hB.step hinn hga,hs.tail⟩
  ·rintro fr w ⟨rfl,rs,hq,hB,hs⟩
   rw [←dw] at hB
   have hI:=hB.go hinn hnp
   have hcb:∀x∈s.cj,-20000≤x.c∧x.c≤20000:=fun x hx=>by have:=hinn x hx;omega
   refine nT ?_
   refine .seq (.ai (.z zm (.z (cS aq) (.z zm (.nil ?_)))))
   refine .for (N:=n) (J:=fun m fr w=>fr=[(4,.slice (some ⟨b16,0,none⟩) n n)]∧∃rs,Sq n rs∧(m<n→vB n s.cj m (fun _ _=>False) (gt rs))∧(m=n→j9 n s.cj (gt rs))∧St H w (.blk b16 (bs.map (ptr n))::(kF bs rs++(.blk b1 [I s.many,.slice al s.bK.length cl]::σ)))) aj ?_ ?_ ?_
   ·exact .mk ⟨rfl,rs,hq,fun _=>hI,fun e=>by omega,hs⟩
   ·clear hI hB hq
    rintro m fr w hm ⟨rfl,rs,hq,hI,-,hs⟩
    replace hI:=hI hm
    refine .block (.ai (.z zm (.z zg (.nil (.ai (.z zm (.z (cS aq) (.z zm (.nil ?_)))))))))
    refine .for (N:=n) (J:=fun i fr w=>fr=[(9,I (m:Int)),(76,I (m:Int)),(75,I (n:Int)),(4,.slice (some ⟨b16,0,none⟩) n n)]∧∃rs,Sq n rs∧vB n s.cj m (fun a _=>a<i) (gt rs)∧St H w (.blk b16 (bs.map (ptr n))::(kF bs rs++(.blk b1 [I s.many,.slice al s.bK.length cl]::σ)))) aj ?_ ?_ ?_
    ·exact .mk ⟨rfl,rs,hq,hI.skip hcb hm (P:=fun _ _=>False) (fun i j h=>by omega) (fun _ _ _ _ h=>h.elim),hs⟩
    ·clear hI hq
     rintro i fr w hi ⟨rfl,rs,hq,hI,hs⟩
     refine .block (.ai (.z zm (.z zg (.nil (.ai (.z zm (.z (cS aq) (.z zm (.nil ?_)))))))))
     refine .for (N:=n) (J:=fun k fr w=>fr=[(10,I (i:Int)),(81,I (i:Int)),(80,I (n:Int)),(9,I (m:Int)),(76,I (m:Int)),(75,I (n:Int)),(4,.slice (some ⟨b16,0,none⟩) n n)]∧∃rs,Sq n rs∧vB n s.cj m (fun a b=>a<i∨(a=i∧b<k)) (gt rs)∧St H w (.blk b16 (bs.map (ptr n))::(kF bs rs++(.blk b1 [I s.many,.slice al s.bK.length cl]::σ)))) aj ?_ ?_ ?_
     ·exact .mk ⟨rfl,rs,hq,hI.skip hcb hm (P:=fun _ _=>False) (fun a b h=>by omega) (fun _ _ _ _ h=>h.elim),hs⟩
     ·clear hI hq
      rintro k fr w hk ⟨rfl,rs,hq,hI,hs⟩
      have hrl:=hq.1
      have c1:=hI.cl i m hi hm;have c2:=hI.cl m k hm hk
      have u1:=hI.up i m hi hm;have u2:=hI.up m k hm hk
      refine .block (.ai (.z zm (.z zg (.nil (.ai (.z zm (.z zm ?_)))))))
      first|(refine .ixw hs aq aC ?_;intro b91 o91 hc91)|refine .z (zix aq aC) ?_
      first|refine .q hs (gh rfl ak (hm:=by repeat (first|exact .here|assumption|exact Mem.row aj aj|refine .there ?_|refine Mem.sJ ?_)) (hv:=by first|rfl|exact eY aj|exact kJ dB aj aj|exact iE kG)) ?_|refine .q hs (aZ rfl ak dB) ?_
      refine .z zm ?_
      first|(refine .ixv hs ad af ?_;intro b94 o94 hc94)|refine .z (zix ad af) ?_
      first|refine .q hs (gh rfl ae (hm:=by repeat (first|exact .here|assumption|exact Mem.row aj aj|refine .there ?_|refine Mem.sJ ?_)) (hv:=by first|rfl|exact eY aj|exact kJ dB aj aj|exact iE kG)) ?_|refine .q hs (aZ rfl ae dB) ?_
      refine .z fP (.z zm ?_)
      refine .Ba (t':=97) rfl (fun hb97=>?_) (fun hb97=>?_)
      ·refine .gT rfl rfl ?_
       refine .z zm ?_
       refine .gT rfl rfl ?_
       refine .z zm ?_
       refine .gT rfl rfl ?_
       first|(refine .ixw hs aq aC ?_;intro b100 o100 hc100)|refine .z (zix aq aC) ?_
       refine .gT rfl rfl ?_
       first|refine .q hs (gh rfl ak (hm:=by repeat (first|exact .here|assumption|exact Mem.row aj aj|refine .there ?_|refine Mem.sJ ?_)) (hv:=by first|rfl|exact eY aj|exact kJ dB aj aj|exact iE kG)) ?_|refine .q hs (aZ rfl ak dB) ?_
       refine .gT rfl rfl ?_
       refine .z zm ?_
       refine .gT rfl rfl ?_
       first|(refine .ixv hs ad af ?_;intro b103 o103 hc103)|refine .z (zix ad af) ?_
       refine .gT rfl rfl ?_
       first|refine .q hs (gh rfl ae (hm:=by repeat (first|exact .here|assumption|exact Mem.row aj aj|refine .there ?_|refine Mem.sJ ?_)) (hv:=by first|rfl|exact eY aj|exact kJ dB aj aj|exact iE kG)) ?_|refine .q hs (aZ rfl ae dB) ?_
       refine .gT rfl rfl ?_
       refine .z fP (.z zpT (.nil ?_))
       refine (.ep rfl (fun hc106=>?_) (fun hc106=>?_))
       ·refine .draw mix rfl hs fun w hs=>?_
        replace u1:=u1 hb97;replace u2:=u2 hc106
        refine .z 0 rfl zm ?_;refine .z 1 rfl zm ?_
        first|(refine .ixw 2 rfl hs aq aC ?_;intro b109 o109 hc109)|refine .z 2 rfl (zix aq aC) ?_
        first|refine .load (i:=3) hs rfl an .none rfl ak ?_ (by repeat (first|exact .here|assumption|exact Mem.row aj aj|refine .there ?_|refine Mem.sJ ?_)) (by first|rfl|exact eY aj|exact kJ dB aj aj|exact iE kG)|refine .r (i:=3) hs rfl an .none (aZ rfl ak dB) ?_
        refine .z 4 rfl zm ?_;refine .z 5 rfl zm ?_;refine .z 6 rfl zm ?_
        first|(refine .ixw 7 rfl hs aq aC ?_;intro b114 o114 hc114)|refine .z 7 rfl (zix aq aC) ?_
        first|refine .load (i:=8) hs rfl an .none rfl ak ?_ (by repeat (first|exact .here|assumption|exact Mem.row aj aj|refine .there ?_|refine Mem.sJ ?_)) (by first|rfl|exact eY aj|exact kJ dB aj aj|exact iE kG)|refine .r (i:=8) hs rfl an .none (aZ rfl ak dB) ?_
        refine .z 9 rfl zm ?_
        first|(refine .ixv 10 rfl hs ad af ?_;intro b117 o117 hc117)|refine .z 10 rfl (zix ad af) ?_
        first|refine .load (i:=11) hs rfl an .none rfl ae ?_ (by repeat (first|exact .here|assumption|exact Mem.row aj aj|refine .there ?_|refine Mem.sJ ?_)) (by first|rfl|exact eY aj|exact kJ dB aj aj|exact iE kG)|refine .r (i:=11) hs rfl an .none (aZ rfl ae dB) ?_
        refine .z 12 rfl zm ?_;refine .z 13 rfl zm ?_
        first|(refine .ixw 14 rfl hs aq aC ?_;intro b121 o121 hc121)|refine .z 14 rfl (zix aq aC) ?_
        first|refine .load (i:=15) hs rfl an .none rfl ak ?_ (by repeat (first|exact .here|assumption|exact Mem.row aj aj|refine .there ?_|refine Mem.sJ ?_)) (by first|rfl|exact eY aj|exact kJ dB aj aj|exact iE kG)|refine .r (i:=15) hs rfl an .none (aZ rfl ak dB) ?_
        refine .z 16 rfl zm ?_
        first|(refine .ixv 17 rfl hs ad af ?_;intro b124 o124 hc124)|refine .z 17 rfl (zix ad af) ?_
        first|refine .load (i:=18) hs rfl an .none rfl ae ?_ (by repeat (first|exact .here|assumption|exact Mem.row aj aj|refine .there ?_|refine Mem.sJ ?_)) (by first|rfl|exact eY aj|exact kJ dB aj aj|exact iE kG)|refine .r (i:=18) hs rfl an .none (aZ rfl ae dB) ?_
        refine .z 19 rfl zm ?_;refine .z 20 rfl zm ?_
        first|(refine .ixw 21 rfl hs aq aC ?_;intro b128 o128 hc128)|refine .z 21 rfl (zix aq aC) ?_
        first|refine .load (i:=22) hs rfl an .none rfl ak ?_ (by repeat (first|exact .here|assumption|exact Mem.row aj aj|refine .there ?_|refine Mem.sJ ?_)) (by first|rfl|exact eY aj|exact kJ dB aj aj|exact iE kG)|refine .r (i:=22) hs rfl an .none (aZ rfl ak dB) ?_
        refine .z 23 rfl zm ?_
        first|(refine .ixv 24 rfl hs ad af ?_;intro b131 o131 hc131)|refine .z 24 rfl (zix ad af) ?_
        first|refine .load (i:=25) hs rfl an .none rfl ae ?_ (by repeat (first|exact .here|assumption|exact Mem.row aj aj|refine .there ?_|refine Mem.sJ ?_)) (by first|rfl|exact eY aj|exact kJ dB aj aj|exact iE kG)|refine .r (i:=25) hs rfl an .none (aZ rfl ae dB) ?_
        refine .z 26 rfl cC ?_;refine .z 27 rfl Bv ?_;refine .z 28 rfl Di ?_
        first|(refine .ixv 29 rfl hs ad af ?_;intro b136 o136 hc136)|refine .z 29 rfl (zix ad af) ?_
        refine .ET 30 hs ?_
        refine .store hs rfl rfl af ?_ (.there (Upd.row _ aj aj)) (yO (by rw [hq.2 _ hi];exact hk)) (qM _ _ _);intro w hs
        refine .go ?_
        refine .DT hs ?_
        refine nB (nT ?_)
        exact .mk ⟨rfl,_,hq.set hi _,by rw [C6 hq hi hk];exact hI.step hcb hm hi hk (fun a b h=>by omega) hb97 hc106,hs⟩
       ·refine .skip ?_
        refine nB (nT ?_)
        exact .mk ⟨rfl,rs,hq,hI.skip hcb hm (P:=fun a b=>a=i∧b=k) (fun a b h=>by omega) (fun a b _ _ h=>by obtain ⟨rfl,rfl⟩:=h;exact .inr hc106),hs⟩
      ·refine .gFs 8 8 true rfl rfl rfl ?_
       refine .z zpF (.nil ?_)
       refine (.cF ?_)
       refine .skip ?_
       refine nB (nT ?_)
       exact .mk ⟨rfl,rs,hq,hI.skip hcb hm (P:=fun a b=>a=i∧b=k) (fun a b h=>by omega) (fun a b _ _ h=>by obtain ⟨rfl,rfl⟩:=h;exact .inl hb97),hs⟩
     ·rintro fr w ⟨rfl,rs,hq,hI,hs⟩
      refine nB (nT ?_)
      exact .mk ⟨rfl,rs,hq,hI.skip hcb hm (P:=fun a b=>a=i∧n≤b) (fun a b h=>by omega) (fun a b _ hb h=>by omega),hs⟩
    ·rintro fr w ⟨rfl,rs,hq,hI,hs⟩
     replace hI:vB n s.cj m (fun _ _=>True) (gt rs):=hI.skip hcb hm (P:=fun a _=>n≤a) (fun a b h=>by omega) (fun a b ha _ h=>by omega)
     refine nB (nT ?_)
     exact .mk ⟨rfl,rs,hq,fun h=>hI.next hcb h hn65,fun h=>hI.done hcb h.symm hn65,hs⟩
   ·rintro fr w ⟨rfl,rs,hq,-,hT,hs⟩
    replace hT:=hT rfl
    refine nT ?_
    refine .ai (.z zm (.z zg (.nil ?_)))
    refine .ret (Fin.bD Tryz.results226 rfl ?_)
    obtain ⟨H1,g1,g2,hs⟩:=uh hq hbl aj hs
    exact ⟨H1,rs,g1,g2,hq,hT,hs.tail⟩
theorem qW{vm:Value}{rs:List (List Int)}{n:Nat}(hs:St H w σ)(hM:RT H vm rs)(hq:Sq n rs)(hn:n≤1000):
  Cl Tryz.prog 233 [vm] w fun v w'=>∃b,v= .bool b∧(b=true↔∀i,i<n→¬gt rs i i<0)∧St H w' σ:=by
 obtain ⟨a,c,rfl⟩:=hM.shape
 have hrl:=hq.1
 refine Cl.o Tryz.func233 Tryz.ntmps233 ag1 ?_
 refine .ai (.z zg (.nil (.seq (.ai (.z zm (.z (cS aq) (.z zm (.nil ?_))))))))
 refine .for (N:=rs.length) (J:=fun k fr w=>fr=[(0,.slice a rs.length c)]∧(∀i,i<k→¬gt rs i i<0)∧St H w σ) aj ?_ ?_ ?_
 ·exact .mk ⟨rfl,fun i h=>by omega,hs⟩
 ·rintro k fr w hk ⟨rfl,h0,hs⟩
  refine .block (.ai (.z zm (.z zg (.nil (.ai (.z zm (.z zm ?_)))))))
  refine .ixT hs hM rfl rfl aq aC hk rfl ?_;intro b11 o11 a11 c11 hc11 hR11
  refine .q hs (aZ rfl ak hc11) ?_
  refine .z zm ?_
  refine .ixY hs hR11 rfl rfl ad af (bL (l:=gr rs k) (i:=k) (by rw [hq.2 k aj];omega)) rfl ?_;intro b14 o14 hc14
  refine .q hs (aZ rfl ae hc14) ?_
  refine .z ik (.nil ?_)
  refine (.cg rfl (fun hc16=>?_) (fun hc16=>?_))
  ·refine .ai (.z zg (.nil ?_))
   refine .ret (rB (rT (rB (rT (Fin.bD Tryz.results233 rfl ?_)))))
   exact ⟨false,rfl,⟨fun h=>(by cases h),fun h=>(h k aj hc16).elim⟩,hs⟩
  ·refine .skip ?_
   refine nB (nT ?_)
   exact .mk ⟨rfl,fun i hi=>by
    by_cases e:i=k
    ·subst e;exact hc16
    ·exact h0 i aj,hs⟩
 ·rintro fr w ⟨rfl,h0,hs⟩
  refine nT ?_
  refine .ai (.z zg (.nil ?_))
  refine .ret (Fin.bD Tryz.results233 rfl ?_)
  exact ⟨true,rfl,⟨fun _ i hi=>h0 i aj,fun _=>rfl⟩,hs⟩
theorem dz{p:Prop}[Decidable p]:(!decide p)=true↔¬p:=by simp
theorem bN{p:Prop}[Decidable p]:(!decide p)=false↔p:=by simp
theorem eC{a0 a1 a2:Int}(hs:St H w σ):Cl Tryz.prog 221 [I a0,I a1,I a2] w fun v w'=>v= .bool (decide (a1≤a0∧a0≤a2))∧St H w' σ:=by
 refine Cl.o Tryz.func221 Tryz.ntmps221 ag3 ?_
 refine .ai (.z zg (.nil (.ai (.z zm (.z zm (.z vA (.z zm ?_)))))))
 refine .j7 (t':=10) rfl (fun hb10=>?_) (fun hb10=>?_)
 ·refine .gT rfl rfl ?_
  refine .z zm ?_
  refine .gT rfl rfl ?_
  refine .z zm ?_
  refine .gT rfl rfl ?_
  refine .z vA (.z zpT (.z zg (.nil ?_)))
  refine .ret (Fin.bD Tryz.results221 rfl ?_)
  exact ⟨by simp [*],hs.out⟩
 ·refine .gFs 3 3 true rfl rfl rfl ?_
  refine .z zpF (.z zg (.nil ?_))
  refine .ret (Fin.bD Tryz.results221 rfl ?_)
  exact ⟨by simp [*],hs.out⟩
theorem mq{many:Int}{l:Lim}(hs:St H w σ):Cl Tryz.prog 232 [I many,.agg l.c.toArray] w fun v w'=>v=I (if decide (0≤many∧many≤64)&&l.ok many then 0 else 20)∧St H w' σ:=by
 refine Cl.o Tryz.func232 Tryz.ntmps232 ag2 ?_
 refine .ai ?_
 refine .bx hs fun b3 w hs=>?_
 refine .z zg (.nil (.seq (.ai (.z zm ?_))))
 refine .o (.call zG rfl (eC hs) ?_);rintro _ w ⟨rfl,hs⟩
 refine .z iU (.z zm ?_)
 refine .bif (t':=8) rfl (fun hb8=>?_) (fun hb8=>?_)
 ·refine .gFs 5 3 false rfl rfl rfl ?_
  refine .z zpT (.z zm ?_)
  refine .gFs 5 10 false rfl rfl rfl ?_
  refine .z zpT (.z zm ?_)
  refine .gFs 5 17 false rfl rfl rfl ?_
  refine .z zpT (.z zm ?_)
  refine .gFs 4 24 false rfl rfl rfl ?_
  refine .z zpT (.z zm ?_)
  refine .gFs 4 30 false rfl rfl rfl ?_
  refine .z zpT (.nil ?_)
  refine (.cT ?_)
  refine .ai (.z zg (.nil ?_))
  refine .ret (rT (Fin.bD lO rfl ?_))
  (try simp only [dz] at*)
  (try simp only [bN] at*)
  refine ⟨congrArg I ?_,hs.out⟩
  unfold Lim.ok
  first
   |(rw [if_pos (by simp only [Bool.and_eq_true,decide_eq_true_eq];omega)];done)
   |(rw [if_neg (by simp only [Bool.and_eq_true,decide_eq_true_eq];omega)];done)
 ·refine .gT rfl rfl ?_
  refine .z (zfa du) ?_
  refine .gT rfl rfl ?_
  refine .y hs (zld ae) ?_
  refine .gT rfl rfl ?_
  refine .z zm ?_
  refine .gT rfl rfl ?_
  refine .o (.call zG rfl (eC hs) ?_);rintro _ w ⟨rfl,hs⟩
  refine .gT rfl rfl ?_
  refine .z iU (.z zpF (.z zm ?_))
  refine .bif (t':=15) rfl (fun hb15=>?_) (fun hb15=>?_)
  ·refine .gFs 5 10 false rfl rfl rfl ?_
   refine .z zpT (.z zm ?_)
   refine .gFs 5 17 false rfl rfl rfl ?_
   refine .z zpT (.z zm ?_)
   refine .gFs 4 24 false rfl rfl rfl ?_
   refine .z zpT (.z zm ?_)
   refine .gFs 4 30 false rfl rfl rfl ?_
   refine .z zpT (.nil ?_)
   refine (.cT ?_)
   refine .ai (.z zg (.nil ?_))
   refine .ret (rT (Fin.bD lO rfl ?_))
   (try simp only [dz] at*)
   (try simp only [bN] at*)
   refine ⟨congrArg I ?_,hs.out⟩
   unfold Lim.ok
   first
    |(rw [if_pos (by simp only [Bool.and_eq_true,decide_eq_true_eq];omega)];done)
    |(rw [if_neg (by simp only [Bool.and_eq_true,decide_eq_true_eq];omega)];done)
  ·refine .gT rfl rfl ?_
   refine .z (zfa dI) ?_
   refine .gT rfl rfl ?_
   refine .y hs (zld ae) ?_
   refine .gT rfl rfl ?_
   refine .z zm ?_
   refine .gT rfl rfl ?_
   refine .o (.call zG rfl (eC hs) ?_);rintro _ w ⟨rfl,hs⟩
   refine .gT rfl rfl ?_
   refine .z iU (.z zpF (.z zm ?_))
   refine .bif (t':=22) rfl (fun hb22=>?_) (fun hb22=>?_)
   ·refine .gFs 5 17 false rfl rfl rfl ?_
    refine .z zpT (.z zm ?_)
    refine .gFs 4 24 false rfl rfl rfl ?_
    refine .z zpT (.z zm ?_)
    refine .gFs 4 30 false rfl rfl rfl ?_
    refine .z zpT (.nil ?_)
    refine (.cT ?_)
    refine .ai (.z zg (.nil ?_))
    refine .ret (rT (Fin.bD lO rfl ?_))
    (try simp only [dz] at*)
    (try simp only [bN] at*)
    refine ⟨congrArg I ?_,hs.out⟩
    unfold Lim.ok
    first
     |(rw [if_pos (by simp only [Bool.and_eq_true,decide_eq_true_eq];omega)];done)
     |(rw [if_neg (by simp only [Bool.and_eq_true,decide_eq_true_eq];omega)];done)
   ·refine .gT rfl rfl ?_
    refine .z (zfa du) ?_
    refine .gT rfl rfl ?_
    refine .y hs (zld ae) ?_
    refine .gT rfl rfl ?_
    refine .z (zfa dI) ?_
    refine .gT rfl rfl ?_
    refine .y hs (zld ae) ?_
    refine .gT rfl rfl ?_
    refine .z j6 (.z zpF (.z zm ?_))
    refine .j7 (t':=29) rfl (fun hb29=>?_) (fun hb29=>?_)
    ·refine .gFs 4 24 false rfl rfl rfl ?_
     refine .z zpT (.z zm ?_)
     refine .gFs 4 30 false rfl rfl rfl ?_
     refine .z zpT (.nil ?_)
     refine (.cT ?_)
     refine .ai (.z zg (.nil ?_))
     refine .ret (rT (Fin.bD lO rfl ?_))
     (try simp only [dz] at*)
     (try simp only [bN] at*)
     refine ⟨congrArg I ?_,hs.out⟩
     unfold Lim.ok
     first
      |(rw [if_pos (by simp only [Bool.and_eq_true,decide_eq_true_eq];omega)];done)
      |(rw [if_neg (by simp only [Bool.and_eq_true,decide_eq_true_eq];omega)];done)
    ·refine .gT rfl rfl ?_
     refine .z (zfa eA) ?_
     refine .gT rfl rfl ?_
     refine .y hs (zld ae) ?_
     refine .gT rfl rfl ?_
     refine .o (.call zG rfl (eC hs) ?_);rintro _ w ⟨rfl,hs⟩
     refine .gT rfl rfl ?_
     refine .z iU (.z zpF (.z zm ?_))
     refine .bif (t':=35) rfl (fun hb35=>?_) (fun hb35=>?_)
     ·refine .gFs 4 30 false rfl rfl rfl ?_
      refine .z zpT (.nil ?_)
      refine (.cT ?_)
      refine .ai (.z zg (.nil ?_))
      refine .ret (rT (Fin.bD lO rfl ?_))
      (try simp only [dz] at*)
      (try simp only [bN] at*)
      refine ⟨congrArg I ?_,hs.out⟩
      unfold Lim.ok
      first
       |(rw [if_pos (by simp only [Bool.and_eq_true,decide_eq_true_eq];omega)];done)
       |(rw [if_neg (by simp only [Bool.and_eq_true,decide_eq_true_eq];omega)];done)
     ·refine .gT rfl rfl ?_
      refine .z (zfa iW) ?_
      refine .gT rfl rfl ?_
      refine .y hs (zld ae) ?_
      refine .gT rfl rfl ?_
      refine .o (.call zG rfl (eC hs) ?_);rintro _ w ⟨rfl,hs⟩
      refine .gT rfl rfl ?_
      refine .z iU (.z zpF (.nil ?_))
      refine (.cond rfl (fun hc40=>?_) (fun hc40=>?_))
      ·refine .ai (.z zg (.nil ?_))
       refine .ret (rT (Fin.bD lO rfl ?_))
       (try simp only [dz] at*)
       (try simp only [bN] at*)
       refine ⟨congrArg I ?_,hs.out⟩
       unfold Lim.ok
       first
        |(rw [if_pos (by simp only [Bool.and_eq_true,decide_eq_true_eq];omega)];done)
        |(rw [if_neg (by simp only [Bool.and_eq_true,decide_eq_true_eq];omega)];done)
      ·refine .skip ?_
       refine nT ?_
       refine .ai (.z zg (.nil ?_))
       refine .ret (Fin.bD lO rfl ?_)
       (try simp only [dz] at*)
       (try simp only [bN] at*)
       refine ⟨congrArg I ?_,hs.out⟩
       unfold Lim.ok
       first
        |(rw [if_pos (by simp only [Bool.and_eq_true,decide_eq_true_eq];omega)];done)
        |(rw [if_neg (by simp only [Bool.and_eq_true,decide_eq_true_eq];omega)];done)
theorem qX{v:Value}{s:bV}(hs:St H w σ)(hr:RSy H v s):Cl Tryz.prog 182 [v] w fun v w'=>v=I s.check∧St H w' σ:=by
 obtain ⟨u,rfl,hr⟩:=hr
 obtain ⟨a,c,rfl⟩:=RL.shape hr
 have hlen:=(RS.len (RS.FC hr (Nat.le_refl _) (cap':=s.bK.length))).2.2
 refine Cl.o Tryz.func182 Tryz.ntmps182 ag1 ?_
 refine .ai ?_
 refine .bx hs fun b1 w hs=>?_
 refine .z zg (.nil (.seq (.ai (.z (zfa bw) (.y hs (zld ae) ?_)))))
 refine .o (.call zG rfl (eC hs) ?_);rintro _ w ⟨rfl,hs⟩
 refine .z iU (.nil ?_)
 refine (.cond rfl (fun hc8=>?_) (fun hc8=>?_))
 ·refine .ai (.z zg (.nil ?_))
  refine .ret (rT (Fin.bD Tryz.results182 rfl ?_))
  exact ⟨congrArg I (by unfold bV.check;rw [if_pos (by simp at hc8;omega)]),hs.out⟩
 ·refine .skip ?_
  refine nT ?_
  refine .seq (.ai (.z (zfa bu) (.y hs (zld bU) (.z (cS aI) (.z qN (.nil ?_))))))
  refine (.cg rfl (fun hc12=>?_) (fun hc12=>?_))
  ·refine .ai (.z zg (.nil ?_))
   refine .ret (rT (Fin.bD Tryz.results182 rfl ?_))
   exact ⟨congrArg I (by unfold bV.check;rw [if_neg (by simpa using hc8),if_pos aj]),hs.out⟩
  ·refine .skip ?_
   refine nT ?_
   refine .seq (.ai (.z (zfa bu) (.y hs (zld bU) (.z (cS aI) (.z zm (.nil ?_))))))
   refine .for (N:=s.bK.length) (J:=fun k fr w=>fr=[(14,.slice a s.bK.length c),(1,.pointer (some ⟨b1,0,none⟩))]∧(∀j<k,∀l,s.bK[j]? =some l→l.ok s.many=true)∧St H w (.blk b1 [I s.many,.slice a s.bK.length c]::σ)) aj ?_ ?_ ?_
   ·exact .mk ⟨rfl,fun j hj=>by omega,hs⟩
   ·rintro k fr w hk ⟨rfl,hno,hs⟩
    obtain ⟨x,hx⟩:=nth (l:=s.bK) hk
    refine .block (.ai ?_)
    refine .ixX (enc:=Lim.c) hs hr rfl rfl aI aR hx rfl ?_;intro b18 o18 hc18
    refine .q hs (bY (vs:=x.c) rfl eb aR hc18) ?_
    refine .o (.alloc hs db rfl fun b4 w hs=>?_)
    refine .o (.aQ (vs:=x.c) hs rfl rfl aR fun w hs=>?_)
    refine .nil (.ai (.z (zfa bw) (.y hs (zld ae) ?_)))
    refine .q hs (jT (vs:=x.c) rfl eb aR) ?_
    refine .o (.call Tryz.call232 rfl (mq hs) ?_);rintro _ w ⟨rfl,hs⟩
    have hmm:0≤s.many∧s.many≤64:=by simpa using hc8
    rw [show (decide (0≤s.many∧s.many≤64)&&x.ok s.many)=x.ok s.many by rw [decide_eq_true hmm];rfl]
    refine .z fP (.nil ?_)
    refine (.ep rfl (fun hc24=>?_) (fun hc24=>?_))
    ·refine .ai (.z zg (.nil ?_))
     refine .ret (rB (rT (rB (rT (Fin.bD Tryz.results182 rfl ?_)))))
     exact ⟨congrArg I (by
      have hx0:x.ok s.many=false:=by cases e:x.ok s.many with|false=>rfl|true=>rw [e] at hc24;simp at hc24
      unfold bV.check;rw [if_neg (by simpa using hc8),if_neg aj,if_pos (List.any_eq_true.2 ⟨x,List.mem_of_getElem? hx,by rw [hx0];rfl⟩)]),hs.out⟩
    ·refine .skip ?_
     refine nB (nT ?_)
     exact .mk ⟨rfl,eS hno hx (by cases e:x.ok s.many with|true=>rfl|false=>rw [e] at hc24;simp at hc24),hs.tail⟩
   ·rintro fr w ⟨rfl,hno,hs⟩
    refine nT ?_
    refine .ai (.z zg (.nil ?_))
    refine .ret (Fin.bD Tryz.results182 rfl ?_)
    exact ⟨congrArg I (by
     have hall:(s.bK.any fun l=> !l.ok s.many)=false:=by
      simp only [List.any_eq_false,Bool.not_eq_true',Bool.not_eq_false]
      intro l hl
      obtain ⟨j,hj⟩:=List.getElem?_of_mem hl
      exact hno j (List.getElem?_eq_some_iff.1 hj).1 l hj
     unfold bV.check;rw [if_neg (by simpa using hc8),if_neg aj,hall];rfl),hs.out⟩
theorem qT{va vb:Value}{A B:List Int}(hs:St H w σ)(hA:RI H va A)(hB:RI H vb B):
  Cl Tryz.prog 267 [va,vb] w fun v w'=>v= .bool (decide (A=B))∧St H w' σ:=by
 obtain ⟨aA,cA,rfl⟩:=RI.shape hA
 obtain ⟨aB,cB,rfl⟩:=RI.shape hB
 have hlA:=(RI.len hA).2.2
 have hlB:=(RI.len hB).2.2
 refine Cl.o Tryz.func267 Tryz.ntmps267 ag2 ?_
 refine .ai (.z zg (.nil (.seq (.ai (.z zm (.z (cS ad) (.z zm (.z (cS ad) (.z fP ?_)))))))))
 refine .nil ?_
 refine (.ep rfl (fun hc10=>?_) (fun hc10=>?_))
 ·refine .ai (.z zg (.nil ?_))
  refine .ret (rT (Fin.bD Tryz.results267 rfl ?_))
  exact ⟨by rw [decide_eq_false (by intro h;subst h;exact hc10 rfl)],hs⟩
 ·refine .skip ?_
  refine nT ?_
  refine .seq (.ai (.z zm (.z (cS ad) (.z zm (.nil ?_)))))
  refine .for (N:=A.length) (J:=fun k fr w=>fr=[(0,.slice aA A.length cA),(1,.slice aB B.length cB)]∧(∀j<k,A[j]? =B[j]?)∧St H w σ) aj ?_ ?_ ?_
  ·exact .mk ⟨rfl,fun j h=>by omega,hs⟩
  ·rintro k fr w hk ⟨rfl,h0,hs⟩
   obtain ⟨xA,hxA⟩:=nth hk
   obtain ⟨xB,hxB⟩:=nth (l:=B) (k:=k) aj
   refine .block (.ai (.z zm (.z zg (.nil ?_))))
   refine .seq (.draw mix rfl hs fun w hs=>?_)
   refine .z 0 rfl zm ?_;refine .z 1 rfl zm ?_
   refine .ixX (enc:=fun x=>[I x]) (i:=2) hs rfl an .none hA rfl rfl ad af hxA rfl ?_;intro b18 o18 hc18;replace hc18:=bM.one hc18
   refine .r (i:=3) hs rfl an .none (aZ rfl ae hc18) ?_
   refine .z 4 rfl zm ?_;refine .z 5 rfl zm ?_
   refine .ixX (enc:=fun x=>[I x]) (i:=6) hs rfl an .none hB rfl rfl ad af hxB rfl ?_;intro b22 o22 hc22;replace hc22:=bM.one hc22
   refine .r (i:=7) hs rfl an .none (aZ rfl ae hc22) ?_
   refine .z 8 rfl fP ?_;refine .D hs ?_
   refine (.ep rfl (fun hc24=>?_) (fun hc24=>?_))
   ·refine .ai (.z zg (.nil ?_))
    refine .ret (rB (rT (rB (rT (Fin.bD Tryz.results267 rfl ?_)))))
    exact ⟨by rw [decide_eq_false (by intro h;subst h;rw [hxA] at hxB;cases hxB;exact hc24 rfl)],hs⟩
   ·refine .skip ?_
    refine nB (nT ?_)
    exact .mk ⟨rfl,fun j hj=>by
     by_cases e:j=k
     ·subst e;rw [hxA,hxB,hc24]
     ·exact h0 j aj,hs⟩
  ·rintro fr w ⟨rfl,h0,hs⟩
   refine nT ?_
   refine .ai (.z zg (.nil ?_))
   refine .ret (Fin.bD Tryz.results267 rfl ?_)
   exact ⟨by rw [decide_eq_true (List.ext_getElem? fun j=>by
    by_cases e:j<A.length
    ·exact h0 j e
    ·rw [List.getElem?_eq_none aj,List.getElem?_eq_none aj])],hs⟩
set_option maxHeartbeats 8000000 in
theorem pG{v vw vp:Value}{s:bV}{ws:List Int}{n:Int}{us:List Use}(hs:St H w σ)(hr:RSy H v s)(hrw:RI H vw ws)(hp:RPf H vp n us)(hA:dP s ws=0):
  Cl Tryz.prog 220 [v,vw,vp] w fun v w'=>∃H1 b,HLe H H1∧v= .bool b∧(b=true↔jZ s ws n us)∧St H1 w' σ:=by
 obtain ⟨u,rfl,hr⟩:=hr
 obtain ⟨al,cl,rfl⟩:=RL.shape hr
 obtain ⟨aw,cw,rfl⟩:=RI.shape hrw
 obtain ⟨uu,rfl,hU⟩:=hp
 obtain ⟨au,cu,rfl⟩:=RU.shape hU
 obtain ⟨hok,hwl,hz⟩:=pN hA
 have hm0:=hok.m0
 have hn65:=hok.n65
 have hll:=hok.len
 have hmn:s.many+1=(s.n:Int):=by simp only [bV.n];omega
 refine Cl.o Tryz.func220 Tryz.ntmps220 ag3 ?_
 refine .ai ?_
 refine .bx hs fun b3 w hs=>?_
 refine .bx hs fun b5 w hs=>?_
 refine .z zg (.nil (.seq (.ai (.z (zfa cO) (.y hs (zld fZ) (.z (cS bF) (.z qN (.nil ?_))))))))
 refine (.cg rfl (fun hc16=>?_) (fun hc16=>?_))
 ·refine .ai (.z zg (.nil ?_))
  refine .ret (rT (Fin.bD zL rfl ?_))
  exact ⟨H,false,HLe.refl H,rfl,⟨fun h=>(by cases h),fun h=>by have:=h.len;omega⟩,hs.out⟩
 ·refine .skip ?_
  refine nT ?_
  refine .ai (.z (zfa bw) (.y hs (zld ae) (.z cC ?_)))
  rw [hmn]
  refine .o (.so s.n hs rfl rfl ad eM rfl af bE aj fun b20 w hs=>?_)
  refine .z zg (.nil (.ai (.z zg (.z zg (.nil (.seq (.ai (.z (zfa cO) (.y hs (zld fZ) ?_)))))))))
  refine .z (cS bF) (.z zm (.nil ?_))
  refine .for (N:=us.length) (J:=fun k fr w=>fr=[(22,.slice au us.length cu),(7,.slice (some ⟨b20,0,none⟩) s.n s.n),(8,I (iM us k)),(9,I (IntKind.i64.wrap (lC s us k))),(3,.pointer (some ⟨b3,0,none⟩)),(5,.pointer (some ⟨b5,0,none⟩)),(1,.slice aw ws.length cw)]∧∃C,(C.length=s.n∧∀v<s.n,gi C v=pq s us k v)∧(∀i<k,vf s us i)∧iM us k≤3600000000000*k∧St H w (.blk b20 (Is C):: .blk b5 [I n,.slice au us.length cu]:: .blk b3 [I s.many,.slice al s.bK.length cl]::σ)) aj ?_ ?_ ?_
  ·exact .mk ⟨rfl,_,⟨bR,fun v hv=>by rw [dF _ _ hv];rfl⟩,fun i hi=>by omega,by simp [iM,aP],hs⟩ (hs:= .cons rfl (.cons rfl (.cons rfl (.cons rfl (.cons rfl (.cR rfl (by simp [lC,aP,qo]) bA))))))
  ·rintro k fr w hk ⟨rfl,C,⟨hC1,hC2⟩,hUs,hTm,hs⟩
   have hx:=C5 hk
   have hu400:us.length≤400:=by omega
   refine .block (.ai (.z zm ?_))
   refine .ixX (enc:=Use.c) hs hU rfl rfl bF ea hx rfl ?_;intro b27 o27 hc27
   refine .q hs (bY (vs:=(gu us k).c) rfl Tryz.isAgg220 ea hc27) ?_
   refine .o (.alloc hs vE rfl fun b11 w hs=>?_)
   refine .z zg ?_
   refine .o (.aQ (vs:=(gu us k).c) hs rfl rfl ea fun w hs=>?_)
   refine .nil (.seq ?_)
   refine .cut (fun fs w=>∃p,mT fs ⟨110,[],[(58,.bool p),(11,.pointer (some ⟨b11,0,none⟩)),(24,I (k:Int)),(23,I (us.length:Int)),(22,.slice au us.length cu),(7,.slice (some ⟨b20,0,none⟩) s.n s.n),(8,I (iM us k)),(9,I (IntKind.i64.wrap (lC s us k))),(3,.pointer (some ⟨b3,0,none⟩)),(5,.pointer (some ⟨b5,0,none⟩)),(1,.slice aw ws.length cw)]⟩∧(p=true→¬vf s us k)∧(p=false→vf s us k)∧St H w (.blk b11 (gu us k).c:: .blk b20 (Is C):: .blk b5 [I n,.slice au us.length cu]:: .blk b3 [I s.many,.slice al s.bK.length cl]::σ)) ?_ ?_
   ·refine .draw mix rfl hs fun w hs=>?_
    refine .z 0 rfl (zfa jm) ?_;refine .y 1 rfl hs ae ?_;refine .z 2 rfl (zfa bu) ?_;refine .y 3 rfl hs bU ?_;refine .z 4 rfl (cS aI) ?_;refine .z 5 rfl iK ?_
    refine .E 6 hs ?_
    refine .call nD rfl (dG hs) ?_;rintro _ w ⟨rfl,hs⟩
    refine .go ?_
    refine .z 7 rfl iU ?_;refine .z 8 rfl zm ?_
    refine .bif (t':=37) rfl (fun hb37=>?_) (fun hb37=>?_)
    ·refine .qF (i:=9) rfl an rfl rfl ?_
     refine .qF (i:=10) rfl an rfl rfl ?_
     refine .qF (i:=11) rfl an rfl rfl ?_
     refine .qF (i:=12) rfl an rfl rfl ?_
     refine .z 13 rfl zpT ?_;refine .z 14 rfl zm ?_
     refine .qF (i:=15) rfl an rfl rfl ?_
     refine .qF (i:=16) rfl an rfl rfl ?_
     refine .qF (i:=17) rfl an rfl rfl ?_
     refine .qF (i:=18) rfl an rfl rfl ?_
     refine .qF (i:=19) rfl an rfl rfl ?_
     refine .qF (i:=20) rfl an rfl rfl ?_
     refine .qF (i:=21) rfl an rfl rfl ?_
     refine .qF (i:=22) rfl an rfl rfl ?_
     refine .qF (i:=23) rfl an rfl rfl ?_
     refine .qF (i:=24) rfl an rfl rfl ?_
     refine .qF (i:=25) rfl an rfl rfl ?_
     refine .qF (i:=26) rfl an rfl rfl ?_
     refine .qF (i:=27) rfl an rfl rfl ?_
     refine .qF (i:=28) rfl an rfl rfl ?_
     refine .z 29 rfl zpT ?_;refine .D hs ?_
     exact nT ⟨_,bA,by
      intro hp hU
      have h1:=hU.l0;have h2:=hU.l1;have h3:=hU.t0;have h4:=hU.t1;have h5:=hU.ord
      first
       |(cases hp;done)
       |(have:=dz.1 hb37;omega)
       |(have:=dz.1 hb43;omega)
       |(have:=of_decide_eq_true hp;have:=h5 aj;omega),by
      intro hp
      first
       |(cases hp;done)
       |exact ⟨by have:=bN.1 hb37;omega,by have:=bN.1 hb37;omega,by have:=bN.1 hb43;omega,by have:=bN.1 hb43;omega,fun h=>by first|omega|(have:=of_decide_eq_false hp;omega)⟩,hs⟩
    ·refine .z 9 rfl (zfa ic) ?_;refine .y 10 rfl hs ae ?_
     refine .E 11 hs ?_
     refine .call nD rfl (dG hs) ?_;rintro _ w ⟨rfl,hs⟩
     refine .go ?_
     refine .z 12 rfl iU ?_;refine .z 13 rfl zpF ?_;refine .z 14 rfl zm ?_
     refine .bif (t':=43) rfl (fun hb43=>?_) (fun hb43=>?_)
     ·refine .qF (i:=15) rfl an rfl rfl ?_
      refine .qF (i:=16) rfl an rfl rfl ?_
      refine .qF (i:=17) rfl an rfl rfl ?_
      refine .qF (i:=18) rfl an rfl rfl ?_
      refine .qF (i:=19) rfl an rfl rfl ?_
      refine .qF (i:=20) rfl an rfl rfl ?_
      refine .qF (i:=21) rfl an rfl rfl ?_
      refine .qF (i:=22) rfl an rfl rfl ?_
      refine .qF (i:=23) rfl an rfl rfl ?_
      refine .qF (i:=24) rfl an rfl rfl ?_
      refine .qF (i:=25) rfl an rfl rfl ?_
      refine .qF (i:=26) rfl an rfl rfl ?_
      refine .qF (i:=27) rfl an rfl rfl ?_
      refine .qF (i:=28) rfl an rfl rfl ?_
      refine .z 29 rfl zpT ?_;refine .D hs ?_
      exact nT ⟨_,bA,by
       intro hp hU
       have h1:=hU.l0;have h2:=hU.l1;have h3:=hU.t0;have h4:=hU.t1;have h5:=hU.ord
       first
        |(cases hp;done)
        |(have:=dz.1 hb37;omega)
        |(have:=dz.1 hb43;omega)
        |(have:=of_decide_eq_true hp;have:=h5 aj;omega),by
       intro hp
       first
        |(cases hp;done)
        |exact ⟨by have:=bN.1 hb37;omega,by have:=bN.1 hb37;omega,by have:=bN.1 hb43;omega,by have:=bN.1 hb43;omega,fun h=>by first|omega|(have:=of_decide_eq_false hp;omega)⟩,hs⟩
     ·refine .z 15 rfl zm ?_;refine .z 16 rfl qN ?_;refine .z 17 rfl zm ?_
      refine .j7 (t':=46) rfl (fun hb46=>?_) (fun hb46=>?_)
      ·refine .z 18 rfl (zfa cO) ?_;refine .y 19 rfl hs fZ ?_;refine .z 20 rfl zm ?_;refine .z 21 rfl iK ?_
       refine .ixX (enc:=Use.c) (i:=22) hs rfl an (.some rfl rfl) hU rfl rfl bF ea (C5 (i:=k - 1) aj) aj ?_;intro b51 o51 hc51
       refine .z 23 rfl (zfa jm) ?_
       refine .r (i:=24) hs rfl an (.some rfl rfl) (aZ rfl ae (hc51.get 0 rfl)) ?_
       refine .z 25 rfl (zfa jm) ?_;refine .y 26 rfl hs ae ?_;refine .z 27 rfl xQ ?_;refine .z 28 rfl zpT ?_;refine .z 29 rfl zpF ?_;refine .D hs ?_
       exact nT ⟨_,bA,by
        intro hp hU
        have h1:=hU.l0;have h2:=hU.l1;have h3:=hU.t0;have h4:=hU.t1;have h5:=hU.ord
        first
         |(cases hp;done)
         |(have:=dz.1 hb37;omega)
         |(have:=dz.1 hb43;omega)
         |(have:=of_decide_eq_true hp;have:=h5 aj;omega),by
        intro hp
        first
         |(cases hp;done)
         |exact ⟨by have:=bN.1 hb37;omega,by have:=bN.1 hb37;omega,by have:=bN.1 hb43;omega,by have:=bN.1 hb43;omega,fun h=>by first|omega|(have:=of_decide_eq_false hp;omega)⟩,hs⟩
      ·refine .qF (i:=18) rfl an rfl rfl ?_
       refine .qF (i:=19) rfl an rfl rfl ?_
       refine .qF (i:=20) rfl an rfl rfl ?_
       refine .qF (i:=21) rfl an rfl rfl ?_
       refine .qF (i:=22) rfl an rfl rfl ?_
       refine .qF (i:=23) rfl an rfl rfl ?_
       refine .qF (i:=24) rfl an rfl rfl ?_
       refine .qF (i:=25) rfl an rfl rfl ?_
       refine .qF (i:=26) rfl an rfl rfl ?_
       refine .qF (i:=27) rfl an rfl rfl ?_
       refine .z 28 rfl zpF ?_;refine .z 29 rfl zpF ?_;refine .D hs ?_
       exact nT ⟨_,bA,by
        intro hp hU
        have h1:=hU.l0;have h2:=hU.l1;have h3:=hU.t0;have h4:=hU.t1;have h5:=hU.ord
        first
         |(cases hp;done)
         |(have:=dz.1 hb37;omega)
         |(have:=dz.1 hb43;omega)
         |(have:=of_decide_eq_true hp;have:=h5 aj;omega),by
        intro hp
        first
         |(cases hp;done)
         |exact ⟨by have:=bN.1 hb37;omega,by have:=bN.1 hb37;omega,by have:=bN.1 hb43;omega,by have:=bN.1 hb43;omega,fun h=>by first|omega|(have:=of_decide_eq_false hp;omega)⟩,hs⟩
   ·rintro fs w ⟨p,hfs,hp1,hp2,hs⟩
    refine WE.sub ?_ hfs
    refine (.cond rfl (fun hc58=>?_) (fun hc58=>?_))
    ·refine .ai (.z zg (.nil ?_))
     refine .ret (rT (rB (rT (rB (rT (Fin.bD zL rfl ?_))))))
     exact ⟨H,false,HLe.refl H,rfl,⟨fun h=>(by cases h),fun h=>(hp1 hc58 (h.use k hk)).elim⟩,hs.out⟩
    ·refine .skip ?_
     refine nT ?_
     refine .ai ?_
     have hUk:=hp2 (by simpa using hc58)
     have hUs':∀i<k+1,vf s us i:=fun i hi=>by
      by_cases e:i=k
      ·subst e;exact hUk
      ·exact hUs i aj
     have hTp:=zU hUs
     have ht0:=hUk.t0;have ht1:=hUk.t1;have hl0:=hUk.l0;have hl1:=hUk.l1
     have hgl:=yv (ls:=s.bK) (i:=(gu us k).l.toNat) aj
     obtain ⟨⟨xa0,xa1⟩,⟨xb0,xb1⟩,xne,xM,-⟩:=hok.lim _ (List.mem_of_getElem? hgl)
     have hbs:lC s us (k+1)=lC s us k+(gu us k).t*(ul s us k).M:=rfl
     have hts:iM us (k+1)=iM us k+(gu us k).t:=rfl
     change 0≤(ul s us k).A at xa0;change (ul s us k).A≤s.many at xa1
     change 0≤(ul s us k).B at xb0;change (ul s us k).B≤s.many at xb1
     change (ul s us k).A≠(ul s us k).B at xne
     change -20000≤(ul s us k).M∧(ul s us k).M≤20000 at xM
     have hm1:(gu us k).t* -20000≤(gu us k).t*(ul s us k).M:=Int.mul_le_mul_of_nonneg_left xM.1 aj
     have hm2:(gu us k).t*(ul s us k).M≤(gu us k).t*20000:=Int.mul_le_mul_of_nonneg_left xM.2 aj
     have hib:=AM hUs (ul s us k).B.toNat
     have hia:=AM hUs (ul s us k).A.toNat
     have hAn:(ul s us k).A.toNat<s.n:=by omega
     have hBn:(ul s us k).B.toNat<s.n:=by omega
     have hgA:=hC2 _ hAn
     have hgB:=hC2 _ hBn
     refine .z (zfa bu) (.y hs (zld bU) (.z (zfa jm) (.y hs (zld ae) ?_)))
     refine .ixX (enc:=Lim.c) hs hr rfl rfl aI aR hgl aj ?_;intro b63 o63 hc63
     refine .q hs (bY (vs:=(ul s us k).c) rfl eb aR hc63) ?_
     refine .o (.alloc hs db rfl fun b12 w hs=>?_)
     refine .o (.aQ (vs:=(ul s us k).c) hs rfl rfl aR fun w hs=>?_)
     refine .nil ?_
     refine .seq (.draw mix rfl hs fun w hs=>?_)
     refine .z 0 rfl zm ?_;refine .z 1 rfl (zfa dI) ?_;refine .y 2 rfl hs ae ?_
     refine .z 3 rfl (ij (k:=(ul s us k).B.toNat) rfl rfl ad af aj hBn) ?_
     refine .y 4 rfl hs ae ?_;refine .z 5 rfl (zfa ic) ?_;refine .y 6 rfl hs ae ?_;refine .z 7 rfl cC ?_
     refine .z 8 rfl (ij (k:=(ul s us k).B.toNat) rfl rfl ad af aj hBn) ?_
     refine .E 9 hs ?_
     refine .store hs rfl rfl af ?_;intro w hs
     refine .go ?_
     refine .D hs ?_
     have hD1:(C.set (ul s us k).B.toNat (gi C (ul s us k).B.toNat+(gu us k).t)).length=s.n:=by rw [List.length_set];exact hC1
     have hD2:∀v,gi (C.set (ul s us k).B.toNat (gi C (ul s us k).B.toNat+(gu us k).t)) v=if v=(ul s us k).B.toNat then gi C (ul s us k).B.toNat+(gu us k).t else gi C v:=fun v=>fk aj _ v
     generalize C.set (ul s us k).B.toNat (gi C (ul s us k).B.toNat+(gu us k).t)=D at hs hD1 hD2
     have hgD:gi D (ul s us k).A.toNat=gi C (ul s us k).A.toNat:=by rw [hD2,if_neg aj]
     refine .seq (.draw mix rfl hs fun w hs=>?_)
     refine .z 0 rfl zm ?_;refine .z 1 rfl (zfa du) ?_;refine .y 2 rfl hs ae ?_
     refine .z 3 rfl (ij (k:=(ul s us k).A.toNat) rfl rfl ad af aj hAn) ?_
     refine .y 4 rfl hs ae ?_;refine .z 5 rfl (zfa ic) ?_;refine .y 6 rfl hs ae ?_;refine .z 7 rfl iK ?_
     refine .z 8 rfl (ij (k:=(ul s us k).A.toNat) rfl rfl ad af aj hAn) ?_
     refine .E 9 hs ?_
     refine .store hs rfl rfl af ?_;intro w hs
     refine .go ?_
     refine .D hs ?_
     refine .ai (.z zm (.z (zfa ic) (.y hs (zld ae) (.z cC (.z zg (.nil (.region (.z zm (.z (zfa ic) ?_)))))))))
     refine .y hs (zld ae) (.z (zfa eA) (.y hs (zld ae) (.z lG ?_)))
     refine .q hs (Ap rfl rfl) ?_
     rw [sw]
     refine .z zg (.nil ?_)
     refine nB (nT ?_)
     exact .mk ⟨rfl,D.set (ul s us k).A.toNat (gi D (ul s us k).A.toNat - (gu us k).t),⟨by rw [List.length_set];exact hD1,fun v hv=>by
      have hst:pq s us (k+1) v=pq s us k v+(gu us k).t*(ind (ul s us k).B.toNat v - ind (ul s us k).A.toNat v):=rfl
      rw [fk aj,hst,←hC2 v hv]
      by_cases e1:v=(ul s us k).A.toNat
      ·have i1:ind (ul s us k).A.toNat v=1:=by unfold ind;rw [if_pos e1.symm]
       have i2:ind (ul s us k).B.toNat v=0:=by unfold ind;rw [if_neg aj]
       rw [if_pos e1,hgD,i1,i2,e1];omega
      ·have i1:ind (ul s us k).A.toNat v=0:=by unfold ind;rw [if_neg aj]
       rw [if_neg e1,hD2,i1]
       by_cases e2:v=(ul s us k).B.toNat
       ·have i2:ind (ul s us k).B.toNat v=1:=by unfold ind;rw [if_pos e2.symm]
        rw [if_pos e2,i2,e2];omega
       ·have i2:ind (ul s us k).B.toNat v=0:=by unfold ind;rw [if_neg aj]
        rw [if_neg e2,i2];omega⟩,hUs',aj,hs.sb⟩ (hs:= .cons rfl (.cons rfl (.cons rfl (.cons rfl (.cR rfl hts.symm (.cR rfl (by rw [hbs]) bA))))))
  ·rintro fr w ⟨rfl,C,⟨hC1,hC2⟩,hUs,hTm,hs⟩
   have hlen:us.length≤400:=by omega
   obtain ⟨H1,hle1,hRow,hs⟩:=hs.bX (b:=b20) (c:=Is C) .here
   have hRC:RI H1 (.slice (some ⟨b20,0,none⟩) s.n s.n) C:=by
    have:=Row.RI (xs:=C) (spare:=[]) (by simpa using hRow) s.n aj aj
    rwa [hC1] at this
   have hRT:=RI.tail hRC (k:=1) (by have:=s.uB;omega)
   have hWT:=RI.tail (hrw.mono hle1) (k:=1) (by have:=s.uB;omega)
   have hbd:=yN hok hUs
   have heq:C.drop 1=ws.drop 1↔∀v,1≤v→v<s.n→pq s us us.length v=gi ws v:=by
    constructor
    ·intro h v h1 h2
     rw [←hC2 v h2]
     have:=congrArg (fun l=>gi l (v - 1)) h
     simpa [gi,List.getD,show 1+(v - 1)=v by omega,show v - 1+1=v by omega] using this
    ·intro h
     refine xu (by simp [hC1,hwl]) fun k hk=>?_
     have hk':k+1<s.n:=by simp at hk;omega
     have:=h (k+1) aj hk'
     rw [←hC2 _ hk'] at this
     simpa [gi,List.getD,Nat.add_comm] using this
   refine nT ?_
   refine .seq (.draw mix rfl hs fun w hs=>?_)
   refine .z 0 rfl zm ?_;refine .z 1 rfl vA ?_;refine .z 2 rfl zm ?_
   refine .j7 (t':=97) rfl (fun hb97=>?_) (fun hb97=>?_)
   ·refine .z 3 rfl zm ?_
    refine .z 4 rfl (oY (k:=1) rfl rfl ad af rfl (by have:=s.uB;omega)) ?_
    refine .z 5 rfl zm ?_
    refine .z 6 rfl (oY (k:=1) rfl rfl ad af rfl (by have:=s.uB;omega)) ?_
    refine .E 7 hs ?_
    refine .call Tryz.call267 rfl (qT hs hRT hWT) ?_;rintro _ w ⟨rfl,hs⟩
    refine .go ?_
    refine .z 8 rfl zpT ?_;refine .z 9 rfl zm ?_
    refine .bif (t':=104) rfl (fun hb104=>?_) (fun hb104=>?_)
    ·refine .z 10 rfl zm ?_;refine .z 11 rfl (zfa fb) ?_;refine .y 12 rfl hs ae ?_;refine .z 13 rfl j6 ?_;refine .z 14 rfl zpT ?_;refine .z 15 rfl zg ?_;refine .D hs ?_
     refine .ret (Fin.bD zL rfl ?_)
     exact ⟨H1,_,hle1,rfl,by
      first
       |exact ⟨fun h=>(by cases h),fun h=>(hb97 h.tot).elim⟩
       |exact ⟨fun h=>(by cases h),fun h=>by have:=heq.2 h.into;simp_all⟩
       |(rw [iR aj]
         have he:C.drop 1=ws.drop 1:=by simpa using hb104
         exact ⟨fun h=>⟨hlen,hUs,hb97,heq.1 he,of_decide_eq_true h⟩,fun h=>decide_eq_true h.bound⟩),hs.out⟩
    ·refine .qF (i:=10) rfl an rfl rfl ?_
     refine .qF (i:=11) rfl an rfl rfl ?_
     refine .qF (i:=12) rfl an rfl rfl ?_
     refine .qF (i:=13) rfl an rfl rfl ?_
     refine .z 14 rfl zpF ?_;refine .z 15 rfl zg ?_;refine .D hs ?_
     refine .ret (Fin.bD zL rfl ?_)
     exact ⟨H1,_,hle1,rfl,by
      first
       |exact ⟨fun h=>(by cases h),fun h=>(hb97 h.tot).elim⟩
       |exact ⟨fun h=>(by cases h),fun h=>by have:=heq.2 h.into;simp_all⟩
       |(rw [iR aj]
         have he:C.drop 1=ws.drop 1:=by simpa using hb104
         exact ⟨fun h=>⟨hlen,hUs,hb97,heq.1 he,of_decide_eq_true h⟩,fun h=>decide_eq_true h.bound⟩),hs.out⟩
   ·refine .qF (i:=3) rfl an rfl rfl ?_
    refine .qF (i:=4) rfl an rfl rfl ?_
    refine .qF (i:=5) rfl an rfl rfl ?_
    refine .qF (i:=6) rfl an rfl rfl ?_
    refine .qF (i:=7) rfl an rfl rfl ?_
    refine .z 8 rfl zpF ?_;refine .z 9 rfl zm ?_
    refine .qF (i:=10) rfl an rfl rfl ?_
    refine .qF (i:=11) rfl an rfl rfl ?_
    refine .qF (i:=12) rfl an rfl rfl ?_
    refine .qF (i:=13) rfl an rfl rfl ?_
    refine .z 14 rfl zpF ?_;refine .z 15 rfl zg ?_;refine .D hs ?_
    refine .ret (Fin.bD zL rfl ?_)
    exact ⟨H1,_,hle1,rfl,by
     first
      |exact ⟨fun h=>(by cases h),fun h=>(hb97 h.tot).elim⟩
      |exact ⟨fun h=>(by cases h),fun h=>by have:=heq.2 h.into;simp_all⟩
      |(rw [iR aj]
        have he:C.drop 1=ws.drop 1:=by simpa using hb104
        exact ⟨fun h=>⟨hlen,hUs,hb97,heq.1 he,of_decide_eq_true h⟩,fun h=>decide_eq_true h.bound⟩),hs.out⟩
theorem mJ{v vw vp:Value}{s:bV}{ws:List Int}{n:Int}{us:List Use}(hs:St H w σ)(hr:RSy H v s)(hrw:RI H vw ws)(hp:RPf H vp n us):
  Cl Tryz.prog 156 [v,vw,vp] w fun v w'=>∃H1 e,HLe H H1∧v=I e∧wN s ws n us e∧St H1 w' σ:=by
 obtain ⟨u,rfl,hr⟩:=hr
 obtain ⟨al,cl,rfl⟩:=RL.shape hr
 obtain ⟨aw,cw,rfl⟩:=RI.shape hrw
 obtain ⟨uu,rfl,hU⟩:=hp
 obtain ⟨au,cu,rfl⟩:=RU.shape hU
 refine Cl.o Tryz.func156 Tryz.ntmps156 ag3 ?_
 refine .ai ?_
 refine .bx hs fun b3 w hs=>?_
 refine .bx hs fun b5 w hs=>?_
 refine .z zg (.nil (.seq (.ai (.y hs (zls [_,_] a8 aH) (.z zm ?_)))))
 refine .o (.call Tryz.call219 rfl (iC (s:=s) hs ⟨_,rfl,hr⟩ hrw) ?_);rintro _ w ⟨rfl,hs⟩
 refine .z zg (.nil (.ai (.z zm (.z fP (.nil ?_)))))
 refine (.ep rfl (fun hc12=>?_) (fun hc12=>?_))
 ·refine .ai (.z zm (.z zg (.nil ?_)))
  refine .ret (rT (Fin.bD Tryz.results156 rfl ?_))
  exact ⟨H,_,HLe.refl H,rfl,.ask hc12,hs.out⟩
 ·refine .skip ?_
  refine nT ?_
  refine .seq (.ai (.y hs (zls [_,_] a8 aH) (.z zm (.y hs (zls [_,_] dc bp) ?_))))
  have hA:dP s ws=0:=by simpa using hc12
  refine .o (.call Tryz.call220 rfl (pG (s:=s) (n:=n) (us:=us) hs ⟨_,rfl,hr⟩ hrw ⟨_,rfl,hU⟩ hA) ?_);rintro _ w ⟨H1,b,hle1,rfl,hb,hs⟩
  refine .z iU (.nil ?_)
  refine (.cond rfl (fun hc18=>?_) (fun hc18=>?_))
  ·refine .ai (.z zg (.nil ?_))
   refine .ret (rT (Fin.bD Tryz.results156 rfl ?_))
   exact ⟨H1,_,hle1,rfl,.bad hA (fun h=>by rw [hb.2 h] at hc18;cases hc18),hs.out⟩
  ·refine .skip ?_
   refine nT ?_
   refine .ai (.z zg (.nil ?_))
   refine .ret (Fin.bD Tryz.results156 rfl ?_)
   exact ⟨H1,_,hle1,rfl,.ok hA (hb.1 (by simpa using hc18)),hs.out⟩
theorem ki{v:Value}{l:List Int}{en:Ent}(hs:St H w (en::σ))(ho:bQ 1 v (Is l) en)(hl:l.length≤1000000):
  Cl Tryz.prog 128 [v] w fun _ w'=>∃en',bQ 1 v (Is l.reverse) en'∧St H w' (en'::σ):=by
 rcases ho with ⟨a,rfl,h2,rfl⟩|⟨b,len,cap,sp,rfl,rfl,h2,h3,h4⟩
 ·obtain rfl:l=[]:=by
   have:=congrArg List.length h2
   exact List.length_eq_zero_iff.1 (by simpa using this)
  have hs:=hs.tail
  refine Cl.o Tryz.func128 Tryz.ntmps128 ag1 ?_
  refine .ai (.z zm (.z (cS ad) (.z iK (.z zg (.z zg (.nil (.block ?_)))))))
  refine .loop (fun _:Unit=>⟨28,[],[(2,I 0),(3,I (-1))]⟩) (fun _ w=>St H w σ) (fun _=>0) () bA hs ?_
  rintro _ w hs
  refine .seq (.ai (.z zm (.z zm (.z ik (.nil ?_)))))
  refine (.cg rfl (fun hc9=>?_) (fun hc9=>?_))
  ·omega
  ·refine .exit ?_
   refine xT (xT (xB ?_))
   exact Fin.wW Tryz.results128 ⟨.nul,.nil 1 a,hs.nul⟩
 obtain rfl:len=l.length:=by simpa using h2.symm
 refine Cl.o Tryz.func128 Tryz.ntmps128 ag1 ?_
 refine .ai (.z zm (.z (cS ad) (.z iK (.z zg (.z zg (.nil (.block ?_)))))))
 refine .loop (fun p:Nat×List Int=>⟨28,[],[(2,I p.1),(3,I ((l.length:Int) - 1 - p.1)),(0,.slice (some ⟨b,0,none⟩) l.length cap)]⟩) (fun p w=>(2*p.1≤l.length+1∧mR l p.2 p.1)∧St H w (.blk b (Is p.2++sp)::σ)) (fun p=>l.length - p.1) (0,l) (.cons rfl (.cR rfl bR (.cons rfl (.nil rfl rfl)))) ⟨⟨bR,.start l⟩,hs⟩ ?_
 rintro ⟨i,L⟩ w ⟨⟨h5,h6⟩,hs⟩
 dsimp only at h5 h6 hs ⊢
 have hL:=h6.1
 refine .seq (.ai (.z zm (.z zm (.z ik (.nil ?_)))))
 refine (.cg rfl (fun hc9=>?_) (fun hc9=>?_))
 ·refine .skip ?_
  refine nT ?_
  refine .seq (.block ?_)
  refine .draw mix rfl hs fun w hs=>?_
  refine .z 0 rfl zm ?_;refine .z 1 rfl zm ?_;refine .z 2 rfl zm ?_;refine .z 3 rfl zm ?_;refine .z 4 rfl zm ?_;refine .z 5 rfl zm ?_
  refine .z 6 rfl (ij (k:=l.length - 1 - i) rfl rfl ad af aj aj) ?_
  refine .load (i:=7) hs rfl an .none rfl ae ?_ (hv:=eX aj sp)
  refine .z 8 rfl zm ?_;refine .z 9 rfl zm ?_
  first|(refine .ixv 10 rfl hs ad af ?_;intro b24 o24 hc24)|refine .z 10 rfl (zix ad af) ?_
  refine .load (i:=11) hs rfl an .none rfl ae ?_ (hv:=eX aj sp)
  first|(refine .ixv 12 rfl hs ad af ?_;intro b26 o26 hc26)|refine .z 12 rfl (zix ad af) ?_
  refine .E 13 hs ?_
  refine .store hs rfl rfl af ?_ dJ (by simp;omega) (j5 aj sp _);intro w hs
  refine .go ?_
  refine .z 14 rfl (ij (k:=l.length - 1 - i) rfl rfl ad af aj aj) ?_
  refine .E 15 hs ?_
  refine .store hs rfl rfl af ?_ dJ (by simp;omega) (j5 (by simp;omega) sp _);intro w hs
  refine .go ?_
  refine .D hs ?_
  refine nB (nT ?_)
  refine .region (.z zm (.z cC (.z zm (.z iK (.z zg (.z zg (.nil ?_)))))))
  refine nT ?_
  exact ⟨(i+1,_),.cons rfl (.cR rfl (by push_cast;omega) (.cons rfl (.nil rfl rfl))),⟨⟨by dsimp only;omega,h6.step aj⟩,hs⟩,by dsimp only;omega⟩
 ·refine .exit ?_
  refine xT (xT (xB ?_))
  rw [h6.done aj] at hs
  exact Fin.wW Tryz.results128 ⟨_,.inr ⟨b,l.length,cap,sp,rfl,rfl,bR,by rw [←h3];simp,h4⟩,hs⟩
inductive Eo(s:bV)(xs:List Int):Int→Prop
 |bad (h:s.check≠0) (h1:xs=[]):Eo s xs s.check
 |sound (h:s.Ok) (h1:s.Sound) (h2:xs=[]):Eo s xs 0
 |chain {st:BS} {x:Arc} {z k:Nat} (h:s.Ok) (h1:¬s.Sound) (h2:Fe s.n s.cj st (some x)) (h3:z=om st.by_ x.t (s.n+1)) (h4:1≤k) (h5:k≤s.n) (h6:om st.by_ z k=z) (h7:xs=(uK st.by_ z k).reverse):Eo s xs 0
theorem Eo.z6{s:bV}{xs:List Int}(h:Eo s xs 0):xs=[]↔s.Sound:=by
 generalize hz:(0:Int)=y at h
 cases h with
 |bad h=>exact (h hz.symm).elim
 |sound _ h1 h2=>exact ⟨fun _=>h1,fun _=>h2⟩
 | @chain st x z k _ h1 _ _ h4 _ _ h7=>exact ⟨fun h=>by
   have:=congrArg List.length (h7.symm.trans h)
   rw [List.length_reverse,mx] at this
   simp at this;omega,fun h=>(h1 h).elim⟩
set_option maxHeartbeats 4000000 in
theorem q7{v:Value}{s:bV}(hs:St H w σ)(hr:RSy H v s):
  Cl Tryz.prog 51 [v] w fun u w'=>∃H1 vx xs e,HLe H H1∧u= .tuple #[vx,I e]∧RI H1 vx xs∧Eo s xs e∧St H1 w' σ:=by
 obtain ⟨u,rfl,hr⟩:=hr
 obtain ⟨al,cl,rfl⟩:=RL.shape hr
 refine Cl.o Tryz.func51 Tryz.ntmps51 ag1 ?_
 refine .ai ?_
 refine .bx hs fun b1 w hs=>?_
 refine .z zg (.z zg (.nil (.seq (.ai (.y hs (zls [_,_] a8 aH) ?_)))))
 refine .o (.call Tryz.call125 rfl (gR (s:=s) hs ⟨_,rfl,hr⟩) ?_);rintro _ w ⟨rfl,hs⟩
 refine .z zg (.nil (.ai (.z zm (.z fP (.nil ?_)))))
 refine (.ep rfl (fun hc14=>?_) (fun hc14=>?_))
 ·refine .ai (.z zm (.z zg (.z zg (.nil ?_))))
  refine .ret (rT (Fin.oH Tryz.results51 rfl rfl ?_))
  exact ⟨H,_,[],_,HLe.refl H,rfl,RS.nil H 1 none 0,.bad hc14 rfl,hs.out⟩
 ·refine .skip ?_
  refine nT ?_
  refine .seq (.draw mix rfl hs fun w hs=>?_)
  refine .z 0 rfl (zfa bw) ?_;refine .y 1 rfl hs ae ?_;refine .ys 2 rfl hs [_,_] a8 aH ?_
  refine .E 3 hs ?_
  have hok:s.Ok:=s.bT.1 (by simpa using hc14)
  have hoka:=hok.cj
  have hn:s.n=s.many.toNat+1:=rfl
  have hm0:=hok.m0
  have hm1:=hok.m1
  refine .call Tryz.call127 rfl (jz (s:=s) hs hok ⟨_,rfl,hr⟩) ?_;rintro _ w ⟨H1,b10,hle1,rfl,hit,hs⟩
  refine .go ?_
  refine .E 4 hs ?_
  have hnear:=iA (N:=s.many.toNat) hs aj (by rw [←hn];exact hoka) hit Tryz.call203
  rw [Int.toNat_of_nonneg hm0] at hnear
  refine .call Tryz.call126 rfl hnear ?_;rintro _ w ⟨H2,bc,bb,st,ov,vo,hle2,rfl,hov,hnr,hs⟩
  obtain ⟨a',rfl,ha'⟩:=hov.ptr
  refine .go ?_
  refine .z 5 rfl zm ?_;refine .z 6 rfl zex ?_;refine .z 7 rfl zex ?_;refine .z 8 rfl zex ?_;refine .z 9 rfl zg ?_;refine .z 10 rfl zg ?_;refine .z 11 rfl zg ?_;refine .D hs ?_
  refine .seq (.ai (.z zm ?_))
  refine .q hs (An rfl rfl Tryz.runUnderlying183) ?_
  refine .nil ?_
  refine (.cond rfl (fun hc26=>?_) (fun hc26=>?_))
  ·refine .ai (.z zg (.z zg (.nil ?_)))
   refine .ret (rT (Fin.oH Tryz.results51 rfl rfl ?_))
   exact ⟨H2,_,[],0,hle1.trans hle2,rfl,RS.nil H2 1 none 0,.sound hok (by
    obtain ⟨r,hN2,hr2⟩:=hnr
    cases ov with
    |none=>exact ⟨_,(hN2.sol (by rw [←hn];exact hoka) aj).1⟩
    |some x=>rw [ha'] at hc26;cases hc26) rfl,hs.out⟩
  ·refine .skip ?_
   refine nT ?_
   refine .ai (.z zm ?_)
   obtain ⟨x,rfl⟩:=OvR.yes ha' hc26
   obtain ⟨b3,e3,hrow⟩:=hov
   cases e3
   have hrowT:cellAt H2 b3 1=some (I x.t):=hrow.at 1
   have hmn:s.many+2=((s.many.toNat+2:Nat):Int):=by omega
   have hns:¬s.Sound:=by
    obtain ⟨r,hN2,hr2⟩:=hnr
    exact hN2.none (by rw [←hn];exact hoka) aj (by have:=hr2 bR;omega)
   obtain ⟨hlb,hrg,hxt⟩:st.by_.length=s.many.toNat+1∧(∀v<s.many.toNat+1,(ga st.by_ v).f<s.many.toNat+1)∧x.t<s.many.toNat+1:=by
    obtain ⟨r,hN2,hr2⟩:=hnr
    exact ⟨hN2.lb,fun v hv=>(hN2.rg v hv).1,(hoka.2 x (hN2.ovm x rfl)).2.1⟩
   have hpl:=fun k=>uz hrg hxt k
   refine .z znc (.z (zfa cM) ?_)
   refine .q hs (aZ rfl ae hrowT) ?_
   refine .z zg (.nil (.seq (.ai (.z (zfa bw) (.y hs (zld ae) (.z cC ?_))))))
   rw [hmn]
   refine .z zm (.nil ?_)
   refine .for (N:=s.many.toNat+2) (J:=fun k fr w=>fr=[(8,I (om st.by_ x.t k)),(6,.slice (some ⟨bb,0,none⟩) (s.many.toNat+1) (s.many.toNat+1))]∧St H2 w (.blk bc (Is st.cost):: .blk bb (iF st.by_):: .blk b1 [I s.many,.slice al s.bK.length cl]::σ)) aj ?_ ?_ ?_
   ·exact .mk ⟨rfl,hs⟩
   ·rintro k fr w hk ⟨rfl,hs⟩
    refine .block (.region (.z zm (.z zm ?_)))
    refine .q hs (tA (k:=om st.by_ x.t k) rfl rfl az aF rfl (hpl k)) ?_
    refine .z (zfa cH) ?_
    refine .q hs (gh rfl ae (.there .here) (pQ (j:=0) (by rw [hlb];exact hpl k) fD)) ?_
    refine .z zg (.nil ?_)
    refine nB (nT ?_)
    exact .mk ⟨rfl,hs.out⟩
   ·rintro fr w ⟨rfl,hs⟩
    obtain ⟨pd,hp1,hp2,hp3⟩:=zk hrg hxt (m:=s.many.toNat+2) aj
    have hzl:=hpl (s.many.toNat+2)
    generalize hz:om st.by_ x.t (s.many.toNat+2)=z at hp3 hzl ⊢
    have hzk:=fun k=>uz hrg hzl k
    refine nT ?_
    refine .ai (.z zg (.nil (.seq (.ai (.z zm (.z zg (.nil (.block ?_))))))))
    refine .loop (fun p:Nat×Value=>⟨62,[],[(9,p.2),(8,I (om st.by_ z p.1)),(10,I z),(6,.slice (some ⟨bb,0,none⟩) (s.many.toNat+1) (s.many.toNat+1))]⟩)
     (fun p w=>p.1<pd∧∃en,bQ 1 p.2 (Is (uK st.by_ z p.1)) en∧St H2 w (en:: .blk bc (Is st.cost):: .blk bb (iF st.by_):: .blk b1 [I s.many,.slice al s.bK.length cl]::σ))
     (fun p=>pd - p.1) (0,.slice none 0 0) bA
     ⟨aj,_,.nil 1 none,hs.nul⟩ ?_
    rintro ⟨k,v9⟩ w ⟨hk,en,hO,hs⟩
    dsimp only at hk hO ⊢
    refine .block (.ai (.z zm (.z zm (.z zm ?_))))
    refine .q hs (tA (k:=om st.by_ z k) rfl rfl az aF rfl (hzk k)) ?_
    refine .z (zfa dr) ?_
    refine .q hs (gh rfl ae (.there (.there .here)) (pQ (j:=3) (by rw [hlb];exact hzk k) fD)) ?_
    refine .o (.buildSlice (cells:=[_]) hs bP rfl rfl fun b49 w hs=>?_)
    refine .o (.append (ys:=[I (ga st.by_ (om st.by_ z k)).l]) hs bH rfl rfl hO (.own .here rfl rfl) (by simp [Value.oneCell']) (fun l' h=>by simp [uK] at h;omega) ?_);intro v50 en50 w hO2 hs
    refine .z zg (.nil (.ai (.z zm (.z zm ?_))))
    refine .q hs (tA (k:=om st.by_ z k) rfl rfl az aF rfl (hzk k)) ?_
    refine .z (zfa cH) ?_
    refine .q hs (gh rfl ae (by repeat (first|exact .here|refine .there ?_)) (pQ (j:=0) (by rw [hlb];exact hzk k) fD)) ?_
    refine .z zg (.nil (.ai (.z zm (.z zm (.z j6 (.nil ?_))))))
    refine (.cg rfl (fun hc58=>?_) (fun hc58=>?_))
    ·refine .exit ?_
     refine xN (xT (xB (nT ?_)))
     refine .ai (.z zm ?_)
     have hO3:bQ 1 v50 (Is (uK st.by_ z (k+1))) en50:=by rw [tI];simpa [Is] using hO2
     have hkz:om st.by_ z (k+1)=z:=by
      have h3:((ga st.by_ (om st.by_ z k)).f:Int)=z:=by simpa using hc58
      show (ga st.by_ (om st.by_ z k)).f=z
      omega
     refine .o (.call Tryz.call128 rfl (ki hs hO3 (by rw [mx];omega)) ?_);rintro _ w ⟨en',hO4,hs⟩
     refine .nil (.ai (.z zm (.z zg (.z zg (.nil ?_)))))
     refine .ret (Fin.oH Tryz.results51 rfl rfl ?_)
     obtain ⟨H3,hle3,hRI,hs⟩:=bQ.dj hO4 (by rw [List.length_reverse,mx];omega) hs .here
     exact ⟨H3,_,_,0,hle1.trans (hle2.trans hle3),rfl,hRI,.chain hok hns (by rw [hn];exact hnr) (by rw [hn];exact hz.symm) aj aj hkz rfl,hs.sb⟩
    ·refine .skip ?_
     refine nB (nT ?_)
     exact ⟨(k+1,v50),bA,⟨by
      dsimp only
      have:k+1≠pd:=fun e=>hc58 (congrArg (Nat.cast:Nat→Int) (show om st.by_ z (k+1)=z by rw [e];exact hp3))
      omega,en50,by rw [tI];simpa [Is] using hO2,hs.sb⟩,by dsimp only;omega⟩
structure Bg(s:bV)(x:List Int):Prop where
 len:x.length=s.n
 zero:gi x 0=0
 free:∀v<s.n,-1000000000≤gi x v∧gi x v≤1000000000
 wC:fH s.cj (gi x)
theorem lJ{v:Value}{s:bV}(hs:St H w σ)(hr:RSy H v s):
  Cl Tryz.prog 210 [v] w fun u w'=>∃H1 vt e,HLe H H1∧u= .tuple #[vt,I e]∧((s.check≠0∧e=s.check∧vt= .slice none 0 0)∨(s.Ok∧¬s.Sound∧e=23∧vt= .slice none 0 0)∨(s.Ok∧s.Sound∧e=0∧∃rs,RT H1 vt rs∧Sq s.n rs∧j9 s.n s.cj (gt rs)))∧St H1 w' σ:=by
 obtain ⟨ul,rfl,hl⟩:=hr
 obtain ⟨al,cl,rfl⟩:=RL.shape hl
 refine Cl.o Tryz.func210 Tryz.ntmps210 ag1 ?_
 refine .ai ?_
 refine .bx hs fun b1 w hs=>?_
 refine .z zg (.z zg (.nil (.ai (.y hs (zls [_,_] a8 aH) ?_))))
 refine .o (.call Tryz.call182 rfl (qX (s:=s) hs ⟨_,rfl,hl⟩) ?_);rintro _ w ⟨rfl,hs⟩
 refine .z zg (.nil (.seq (.ai (.z zm (.z fP (.nil ?_))))))
 refine (.ep rfl (fun hc9=>?_) (fun hc9=>?_))
 ·refine .ai (.z zm (.z zg (.z zg (.nil ?_))))
  refine .ret (rT (Fin.oH Tryz.results210 rfl rfl ?_))
  exact ⟨H,_,_,HLe.refl H,rfl,.inl ⟨hc9,rfl,rfl⟩,hs.out⟩
 ·refine .skip ?_
  refine nT ?_
  refine .ai (.y hs (zls [_,_] a8 aH) ?_)
  have hok:s.Ok:=s.bT.1 (by simpa using hc9)
  have hm1:=hok.m1
  refine .o (.call Tryz.call226 rfl (sa (s:=s) hs ⟨_,rfl,hl⟩ hok) ?_);rintro v12 w ⟨H1,rs,hle1,hRT,hSq,hWT,hs⟩
  obtain ⟨at',ct,rfl⟩:=hRT.shape
  refine .z zg (.nil (.seq (.ai (.z zm ?_))))
  refine .o (.call Tryz.call233 rfl (qW hs hRT hSq (by simp only [bV.n];omega)) ?_);rintro _ w ⟨b,rfl,hb,hs⟩
  have hbs:=hb.trans (y0 hok hWT).symm
  refine .z iU (.nil ?_)
  refine (.cond rfl (fun hc15=>?_) (fun hc15=>?_))
  ·refine .ai (.z zg (.z zg (.nil ?_)))
   refine .ret (rT (Fin.oH Tryz.results210 rfl rfl ?_))
   exact ⟨H1,_,_,hle1,rfl,.inr (.inl ⟨hok,fun h=>by simp [hbs.2 h] at hc15,rfl,rfl⟩),hs.out⟩
  ·refine .skip ?_
   refine nT ?_
   refine .ai (.z zm (.z zg (.z zg (.nil ?_))))
   refine .ret (Fin.oH Tryz.results210 rfl rfl ?_)
   exact ⟨H1,_,_,hle1,rfl,.inr (.inr ⟨hok,hbs.1 (by simpa using hc15),rfl,rs,hRT,hSq,hWT⟩),hs.out⟩
end Go.Proofs.YtddaejgfjlneoaaGreat
namespace Go.Proofs.YtddaejgfjlneoaaGreat
open Go.MW
inductive Fs(s:bV)(x:List Int):Int→Prop
 |bad (h:s.check≠0):Fs s x s.check
 |off (h:s.Ok) (h1:¬Bg s x):Fs s x 25
 |ok (h:s.Ok) (h1:Bg s x):Fs s x 0
end Go.Proofs.YtddaejgfjlneoaaGreat
namespace Go.Proofs.YtddaejgfjlneoaaGreat
open Go.MW
variable{H:bJ}{w:World}{σ:List Ent}
theorem vi{v:Value}{ls:List Int}{g:Nat}{cap:List Value}{q:Int→Prop}(hs:St H w σ)(hr:RI H v ls)
  (hc:∀args w,(callFunc g args).run Tryz.prog w= .ok (.enter g args) w) (hp:∀w l,St H w σ→Cl Tryz.prog g ([I l]++cap) w fun u w'=>∃b,u= .bool b∧(b=true↔q l)∧St H w' σ):
  Cl Tryz.prog 206 [v,.func (.func g) #[] cap.toArray] w fun u w'=>∃i,u=I i∧(0≤i↔∃p∈ls,q p)∧St H w' σ:=by
 obtain ⟨a,c,rfl⟩:=RI.shape hr
 have hl:=(RI.len hr).2.2
 refine Cl.o Tryz.func206 Tryz.ntmps206 ag2 ?_
 refine .ai (.z zg (.nil (.seq (.ai (.z zm (.z (cS ad) (.z zm (.nil ?_))))))))
 refine .for (N:=ls.length) (J:=fun k fr w=>fr=[(1,.func (.func g) #[] cap.toArray),(0,.slice a ls.length c)]∧St H w σ∧∀j<k,∀l,ls[j]? =some l→¬q l) aj ?_ ?_ ?_
 ·exact .mk ⟨rfl,hs,fun j hj=>by omega⟩
 ·rintro k fr w hk ⟨rfl,hs,hno⟩
  obtain ⟨l,hl⟩:=nth hk
  refine .block (.ai (.z zm (.z zg (.nil (.ai (.z zm (.z zm (.z zm ?_))))))))
  first|(refine .ixv hs ad af ?_;intro b14 o14 hc14)|refine .z (zix ad af) ?_
  refine .y hs (zld ae) ?_
  refine .o (.ns (first:=[]) rfl rfl hc (hp _ _ hs) ?_);rintro _ w ⟨b16,rfl,hb16,hs⟩
  refine .nil ?_
  refine (.cond rfl (fun hc16=>?_) (fun hc16=>?_))
  ·refine .ai (.z zm (.z zg (.nil ?_)))
   refine .ret (rB (rT (rB (rT (Fin.bD rm rfl ?_)))))
   exact ⟨_,rfl,⟨fun _=>⟨l,List.mem_of_getElem? hl,hb16.1 hc16⟩,fun _=>by omega⟩,hs⟩
  ·refine .skip ?_
   refine nB (nT ?_)
   exact .mk ⟨rfl,hs,eS hno hl (fun h=>by rw [hb16.2 h] at hc16;cases hc16)⟩
 ·rintro fr w ⟨rfl,hs,hno⟩
  refine nT ?_
  refine .ai (.z zg (.nil ?_))
  refine .ret (Fin.bD rm rfl ?_)
  exact ⟨_,rfl,⟨fun h=>by omega,fun ⟨p,h1,h2⟩=>by
   obtain ⟨j,hj⟩:=List.getElem?_of_mem h1
   exact (hno j (List.getElem?_eq_some_iff.1 hj).1 p hj h2).elim⟩,hs⟩
theorem rf{v:Value}{ls:List Int}{g:Nat}{cap:List Value}{q:Int→Prop}(hs:St H w σ)(hr:RI H v ls)
  (hc:∀args w,(callFunc g args).run Tryz.prog w= .ok (.enter g args) w) (hp:∀w l,St H w σ→Cl Tryz.prog g ([I l]++cap) w fun u w'=>∃b,u= .bool b∧(b=true↔q l)∧St H w' σ):
  Cl Tryz.prog 134 [v,.func (.func g) #[] cap.toArray] w fun u w'=>∃b,u= .bool b∧(b=true↔∃p∈ls,q p)∧St H w' σ:=by
 refine Cl.o Tryz.func134 Tryz.ntmps134 ag2 ?_
 refine .ai (.z zg (.nil (.ai (.z zm (.z zm ?_)))))
 refine .o (.call Tryz.call206 rfl (vi hs hr hc hp) ?_);rintro _ w ⟨i,rfl,hi,hs⟩
 refine .z xQ (.z zg (.nil ?_))
 refine .ret (Fin.bD Tryz.results134 rfl ?_)
 exact ⟨_,rfl,by simp only [decide_eq_true_eq];exact hi,hs⟩
theorem pJ{n:Int}(hs:St H w σ):Cl Tryz.prog 163 [I n] w fun v w'=>∃b,v= .bool b∧(b=true↔¬(-1000000000≤n∧n≤1000000000))∧St H w' σ:=by
 refine Cl.o Tryz.func163 Tryz.ntmps163 ag1 ?_
 refine .ai (.z zg (.nil (.ai (.z zm ?_))))
 refine .o (.call nD rfl (dG hs) ?_);rintro _ w ⟨rfl,hs⟩
 refine .z iU (.z zg (.nil ?_))
 refine .ret (Fin.bD Tryz.results163 rfl ?_)
 exact ⟨_,rfl,by simp;omega,hs⟩
theorem mK{v vx:Value}{s:bV}{x:List Int}(hs:St H w σ)(hr:RSy H v s)(hx:RI H vx x):
  Cl Tryz.prog 76 [v,vx] w fun u w'=>∃e,u=I e∧Fs s x e∧St H w' σ:=by
 obtain ⟨ul,rfl,hl⟩:=hr
 obtain ⟨al,cl,rfl⟩:=RL.shape hl
 obtain ⟨ax,cx,rfl⟩:=RI.shape hx
 refine Cl.o Tryz.func76 Tryz.ntmps76 ag2 ?_
 refine .ai ?_
 refine .bx hs fun b2 w hs=>?_
 refine .z zg (.nil (.seq (.ai (.y hs (zls [_,_] a8 aH) ?_))))
 refine .o (.call Tryz.call125 rfl (gR (s:=s) hs ⟨_,rfl,hl⟩) ?_);rintro _ w ⟨rfl,hs⟩
 refine .z zg (.nil (.ai (.z zm (.z fP (.nil ?_)))))
 skip
 refine (.ep rfl (fun hc11=>?_) (fun hc11=>?_))
 ·refine .ai (.z zm (.z zg (.nil ?_)))
  refine .ret (rT (Fin.bD tg rfl ?_))
  exact ⟨_,rfl,.bad hc11,hs.out⟩
 ·refine .skip ?_
  refine nT ?_
  refine .seq (.ai ?_)
  have hok:s.Ok:=s.bT.1 (by simpa using hc11)
  have hm0:=hok.m0
  have hm1:=hok.m1
  have hll:=hok.len
  have hnn:(s.n:Int)=s.many+1:=by simp only [bV.n];omega
  refine .z zm (.z (cS ad) (.z (zfa bw) (.y hs (zld ae) (.z cC (.z fP (.z zm ?_))))))
  refine .Ba (t':=19) rfl (fun hb19=>?_) (fun hb19=>?_)
  ·refine .gFs 4 6 false rfl rfl rfl ?_
   refine .z zpT (.z zm ?_)
   refine .gFs 2 12 false rfl rfl rfl ?_
   refine .z zpT (.nil ?_)
   refine (.cT ?_)
   refine .ai (.z zg (.nil ?_))
   refine .ret (rT (Fin.bD tg rfl ?_))
   first
    |exact ⟨_,rfl,.ok hok ⟨aj,by first|omega|(simpa using hb25),fun v hv=>hfree v aj,eJ.2 fun y hy=>by
      obtain ⟨i,hi⟩:=List.getElem?_of_mem hy
      exact h1 i (List.getElem?_eq_some_iff.1 hi).1 y hi⟩,hs.out⟩
    |exact ⟨_,rfl,.off hok (fun h=>by have:=h.len;omega),hs.out⟩
    |exact ⟨_,rfl,.off hok (fun h=>by have:=h.zero;first|omega|(simp at hb25;omega)),hs.out⟩
    |exact ⟨_,rfl,.off hok (fun h=>by
      obtain ⟨p,h1,h2⟩:=hb27.1 hc28
      obtain ⟨i,hi⟩:=List.getElem?_of_mem h1
      have hil:=(List.getElem?_eq_some_iff.1 hi).1
      have:=bL hil
      rw [hi] at this
      cases this
      exact h2 (h.free i (by have:=h.len;omega))),hs.out⟩
    |exact ⟨_,rfl,.off hok (fun h=>by
      have h8:=eJ.1 h.wC y (List.mem_of_getElem? hy)
      omega),hs.out⟩
  ·refine .gT rfl rfl ?_
   refine .z zm ?_
   refine .gT rfl rfl ?_
   refine .ixX (enc:=fun x=>[I x]) hs hx rfl rfl ad af (bL (l:=x) (i:=0) aj) rfl ?_;intro b21 o21 hc21;replace hc21:=bM.one hc21
   refine .gT rfl rfl ?_
   refine .y hs (zld ae) ?_
   refine .gT rfl rfl ?_
   refine .z fP (.z zpF (.z zm ?_))
   refine .Ba (t':=25) rfl (fun hb25=>?_) (fun hb25=>?_)
   ·refine .gFs 2 12 false rfl rfl rfl ?_
    refine .z zpT (.nil ?_)
    refine (.cT ?_)
    refine .ai (.z zg (.nil ?_))
    refine .ret (rT (Fin.bD tg rfl ?_))
    first
     |exact ⟨_,rfl,.ok hok ⟨aj,by first|omega|(simpa using hb25),fun v hv=>hfree v aj,eJ.2 fun y hy=>by
       obtain ⟨i,hi⟩:=List.getElem?_of_mem hy
       exact h1 i (List.getElem?_eq_some_iff.1 hi).1 y hi⟩,hs.out⟩
     |exact ⟨_,rfl,.off hok (fun h=>by have:=h.len;omega),hs.out⟩
     |exact ⟨_,rfl,.off hok (fun h=>by have:=h.zero;first|omega|(simp at hb25;omega)),hs.out⟩
     |exact ⟨_,rfl,.off hok (fun h=>by
       obtain ⟨p,h1,h2⟩:=hb27.1 hc28
       obtain ⟨i,hi⟩:=List.getElem?_of_mem h1
       have hil:=(List.getElem?_eq_some_iff.1 hi).1
       have:=bL hil
       rw [hi] at this
       cases this
       exact h2 (h.free i (by have:=h.len;omega))),hs.out⟩
     |exact ⟨_,rfl,.off hok (fun h=>by
       have h8:=eJ.1 h.wC y (List.mem_of_getElem? hy)
       omega),hs.out⟩
   ·refine .gT rfl rfl ?_
    refine .z zm ?_
    refine .gT rfl rfl ?_
    refine .o (.call Tryz.call134 rfl (rf (q:=fun n=>¬(-1000000000≤n∧n≤1000000000)) (cap:=[]) hs hx Tryz.call163 (fun w n hs=>pJ hs)) ?_);rintro _ w ⟨b27,rfl,hb27,hs⟩
    refine .z zpF (.nil ?_)
    refine (.cond rfl (fun hc28=>?_) (fun hc28=>?_))
    ·refine .ai (.z zg (.nil ?_))
     refine .ret (rT (Fin.bD tg rfl ?_))
     first
      |exact ⟨_,rfl,.ok hok ⟨aj,by first|omega|(simpa using hb25),fun v hv=>hfree v aj,eJ.2 fun y hy=>by
        obtain ⟨i,hi⟩:=List.getElem?_of_mem hy
        exact h1 i (List.getElem?_eq_some_iff.1 hi).1 y hi⟩,hs.out⟩
      |exact ⟨_,rfl,.off hok (fun h=>by have:=h.len;omega),hs.out⟩
      |exact ⟨_,rfl,.off hok (fun h=>by have:=h.zero;first|omega|(simp at hb25;omega)),hs.out⟩
      |exact ⟨_,rfl,.off hok (fun h=>by
        obtain ⟨p,h1,h2⟩:=hb27.1 hc28
        obtain ⟨i,hi⟩:=List.getElem?_of_mem h1
        have hil:=(List.getElem?_eq_some_iff.1 hi).1
        have:=bL hil
        rw [hi] at this
        cases this
        exact h2 (h.free i (by have:=h.len;omega))),hs.out⟩
      |exact ⟨_,rfl,.off hok (fun h=>by
        have h8:=eJ.1 h.wC y (List.mem_of_getElem? hy)
        omega),hs.out⟩
    ·refine .skip ?_
     refine nT ?_
     refine .seq (.ai (.z (zfa bu) (.y hs (zld bU) (.z (cS aI) (.z zm (.nil ?_))))))
     refine .for (N:=s.bK.length) (J:=fun k fr w=>fr=[(30,.slice al s.bK.length cl),(1,.slice ax x.length cx)]∧(∀i<k,∀y,s.bK[i]? =some y→gi x y.B.toNat≤gi x y.A.toNat+y.M)∧St H w (.blk b2 [I s.many,.slice al s.bK.length cl]::σ)) aj ?_ ?_ ?_
     ·exact .mk ⟨rfl,fun i hi=>by omega,hs⟩
     ·have hfree:∀v<x.length,-1000000000≤gi x v∧gi x v≤1000000000:=fun v hv=>by
       apply Classical.byContradiction
       intro h
       have:=hb27.2 ⟨gi x v,List.mem_of_getElem? (bL hv),h⟩
       subst this
       simp at hc28
      rintro k fr w hk ⟨rfl,h1,hs⟩
      obtain ⟨y,hy⟩:=nth hk
      obtain ⟨⟨y1,y2⟩,⟨y3,y4⟩,y5,y6,-⟩:=hok.lim y (List.mem_of_getElem? hy)
      have z1:=hfree y.B.toNat aj
      have z2:=hfree y.A.toNat aj
      refine .block (.ai ?_)
      refine .ixX (enc:=Lim.c) hs hl rfl rfl aI aR hy rfl ?_;intro b34 o34 hc34
      refine .q hs (bY (vs:=y.c) rfl eb aR hc34) ?_
      refine .o (.alloc hs db rfl fun b7 w hs=>?_)
      refine .o (.aQ (vs:=y.c) hs rfl rfl aR fun w hs=>?_)
      refine .nil ?_
      refine .seq (.draw mix rfl hs fun w hs=>?_)
      refine .z 0 rfl zm ?_;refine .z 1 rfl (zfa dI) ?_;refine .y 2 rfl hs ae ?_
      refine .ixX (enc:=fun x=>[I x]) (i:=3) hs rfl an .none hx rfl rfl ad af (bL (l:=x) (i:=y.B.toNat) aj) aj ?_;intro b39 o39 hc39;replace hc39:=bM.one hc39
      refine .r (i:=4) hs rfl an .none (aZ rfl ae hc39) ?_
      refine .z 5 rfl zm ?_;refine .z 6 rfl (zfa du) ?_;refine .y 7 rfl hs ae ?_
      refine .ixX (enc:=fun x=>[I x]) (i:=8) hs rfl an .none hx rfl rfl ad af (bL (l:=x) (i:=y.A.toNat) aj) aj ?_;intro b44 o44 hc44;replace hc44:=bM.one hc44
      refine .r (i:=9) hs rfl an .none (aZ rfl ae hc44) ?_
      refine .z 10 rfl iK ?_;refine .z 11 rfl (zfa eA) ?_;refine .y 12 rfl hs ae ?_;refine .z 13 rfl qN ?_;refine .D hs ?_
      refine (.cg rfl (fun hc49=>?_) (fun hc49=>?_))
      ·refine .ai (.z zg (.nil ?_))
       refine .ret (rB (rT (rB (rT (Fin.bD tg rfl ?_)))))
       first
        |exact ⟨_,rfl,.ok hok ⟨aj,by first|omega|(simpa using hb25),fun v hv=>hfree v aj,eJ.2 fun y hy=>by
          obtain ⟨i,hi⟩:=List.getElem?_of_mem hy
          exact h1 i (List.getElem?_eq_some_iff.1 hi).1 y hi⟩,hs.out⟩
        |exact ⟨_,rfl,.off hok (fun h=>by have:=h.len;omega),hs.out⟩
        |exact ⟨_,rfl,.off hok (fun h=>by have:=h.zero;first|omega|(simp at hb25;omega)),hs.out⟩
        |exact ⟨_,rfl,.off hok (fun h=>by
          obtain ⟨p,h1,h2⟩:=hb27.1 hc28
          obtain ⟨i,hi⟩:=List.getElem?_of_mem h1
          have hil:=(List.getElem?_eq_some_iff.1 hi).1
          have:=bL hil
          rw [hi] at this
          cases this
          exact h2 (h.free i (by have:=h.len;omega))),hs.out⟩
        |exact ⟨_,rfl,.off hok (fun h=>by
          have h8:=eJ.1 h.wC y (List.mem_of_getElem? hy)
          omega),hs.out⟩
      ·refine .skip ?_
       refine nB (nT ?_)
       exact .mk ⟨rfl,fun i hi z hz=>by
        by_cases e:i=k
        ·subst e;rw [hy] at hz;cases hz;omega
        ·exact h1 i aj z hz,hs.out⟩
     ·have hfree:∀v<x.length,-1000000000≤gi x v∧gi x v≤1000000000:=fun v hv=>by
       apply Classical.byContradiction
       intro h
       have:=hb27.2 ⟨gi x v,List.mem_of_getElem? (bL hv),h⟩
       subst this
       simp at hc28
      rintro fr w ⟨rfl,h1,hs⟩
      refine nT ?_
      refine .ai (.z zg (.nil ?_))
      refine .ret (Fin.bD tg rfl ?_)
      first
       |exact ⟨_,rfl,.ok hok ⟨aj,by first|omega|(simpa using hb25),fun v hv=>hfree v aj,eJ.2 fun y hy=>by
         obtain ⟨i,hi⟩:=List.getElem?_of_mem hy
         exact h1 i (List.getElem?_eq_some_iff.1 hi).1 y hi⟩,hs.out⟩
       |exact ⟨_,rfl,.off hok (fun h=>by have:=h.len;omega),hs.out⟩
       |exact ⟨_,rfl,.off hok (fun h=>by have:=h.zero;first|omega|(simp at hb25;omega)),hs.out⟩
       |exact ⟨_,rfl,.off hok (fun h=>by
         obtain ⟨p,h1,h2⟩:=hb27.1 hc28
         obtain ⟨i,hi⟩:=List.getElem?_of_mem h1
         have hil:=(List.getElem?_eq_some_iff.1 hi).1
         have:=bL hil
         rw [hi] at this
         cases this
         exact h2 (h.free i (by have:=h.len;omega))),hs.out⟩
       |exact ⟨_,rfl,.off hok (fun h=>by
         have h8:=eJ.1 h.wC y (List.mem_of_getElem? hy)
         omega),hs.out⟩
end Go.Proofs.YtddaejgfjlneoaaGreat
namespace Go.Proofs
open Go.Shelf
def Tryz.xq:Go.Shelf.Ren:=⟨fun|189=>138|125=>209|257=>208|128=>262|129=>263|294=>253|295=>254|296=>255|297=>256|298=>257|299=>258|216=>259|300=>260|301=>261|328=>282|329=>283|330=>284|331=>285|332=>286|215=>287|343=>296|n=>n,fun|28=>22|3=>3|46=>250|0=>0|51=>285|53=>287|4=>4|183=>279|182=>278|131=>282|5=>5|9=>9|218=>304|222=>308|228=>318|229=>275|n=>n,fun|n=>n⟩
theorem Tryz.AI:Go.Proofs.Lays.n189 Tryz.prog Tryz.xq:={
 mixed:=by kernel_rfl
 f125:=Tryz.func209.trans (congrArg some (by kernel_rfl))
 f128:=Tryz.func262.trans (congrArg some (by kernel_rfl))
 f129:=Tryz.func263.trans (congrArg some (by kernel_rfl))
 f189:=Tryz.func138.trans (congrArg some (by kernel_rfl))
 f215:=Tryz.func287.trans (congrArg some (by kernel_rfl))
 f216:=Tryz.func259.trans (congrArg some (by kernel_rfl))
 f257:=Tryz.func208.trans (congrArg some (by kernel_rfl))
 f294:=Tryz.func253.trans (congrArg some (by kernel_rfl))
 f295:=Tryz.func254.trans (congrArg some (by kernel_rfl))
 f296:=Tryz.func255.trans (congrArg some (by kernel_rfl))
 f297:=Tryz.func256.trans (congrArg some (by kernel_rfl))
 f298:=Tryz.func257.trans (congrArg some (by kernel_rfl))
 f299:=Tryz.func258.trans (congrArg some (by kernel_rfl))
 f300:=Tryz.func260.trans (congrArg some (by kernel_rfl))
 f301:=Tryz.func261.trans (congrArg some (by kernel_rfl))
 f328:=Tryz.func282.trans (congrArg some (by kernel_rfl))
 f329:=Tryz.func283.trans (congrArg some (by kernel_rfl))
 f330:=Tryz.func284.trans (congrArg some (by kernel_rfl))
 f331:=Tryz.func285.trans (congrArg some (by kernel_rfl))
 f332:=Tryz.func286.trans (congrArg some (by kernel_rfl))
 f343:=Tryz.func296.trans (congrArg some (by kernel_rfl))
 t0:=Tryz.underlying0
 a0:=Tryz.isAgg0
 z0:=Tryz.sizeOf0
 v0:=Tryz.zeroValue0
 t3:=Tryz.underlying3
 a3:=Tryz.isAgg3
 z3:=Tryz.sizeOf3
 v3:=Tryz.zeroValue3
 t4:=Tryz.underlying4
 a4:=Tryz.isAgg4
 z4:=Tryz.sizeOf4
 v4:=Tryz.zeroValue4
 t5:=Tryz.underlying5
 a5:=Tryz.isAgg5
 z5:=Tryz.sizeOf5
 v5:=Tryz.zeroValue5
 t9:=Tryz.underlying9
 a9:=Tryz.isAgg9
 z9:=Tryz.sizeOf9
 v9:=Tryz.zeroValue9
 t28:=Tryz.underlying22
 a28:=Tryz.isAgg22
 z28:=Tryz.sizeOf22
 v28:=Tryz.zeroValue22
 t46:=Tryz.underlying250
 a46:=Tryz.isAgg250
 z46:=Tryz.sizeOf250
 v46:=Tryz.zeroValue250
 t51:=Tryz.underlying285
 a51:=Tryz.isAgg285
 z51:=Tryz.sizeOf285
 v51:=Tryz.zeroValue285
 t53:=Tryz.underlying287
 a53:=Tryz.isAgg287
 z53:=Tryz.sizeOf287
 v53:=Tryz.zeroValue287
 t131:=Tryz.underlying282
 a131:=Tryz.isAgg282
 z131:=Tryz.sizeOf282
 v131:=Tryz.zeroValue282
 t182:=Tryz.underlying278
 a182:=Tryz.isAgg278
 z182:=Tryz.sizeOf278
 v182:=Tryz.zeroValue278
 t183:=Tryz.underlying279
 a183:=Tryz.isAgg279
 z183:=Tryz.sizeOf279
 v183:=Tryz.zeroValue279
 t218:=Tryz.underlying304
 a218:=Tryz.isAgg304
 z218:=Tryz.sizeOf304
 v218:=Tryz.zeroValue304
 t222:=Tryz.underlying308
 a222:=Tryz.isAgg308
 z222:=Tryz.sizeOf308
 v222:=Tryz.zeroValue308
 t228:=Tryz.underlying318
 a228:=Tryz.isAgg318
 z228:=Tryz.sizeOf318
 v228:=Tryz.zeroValue318
 t229:=Tryz.underlying275
 a229:=Tryz.isAgg275
 z229:=Tryz.sizeOf275
 v229:=Tryz.zeroValue275}
def Tryz.we:Go.Shelf.Ren:=⟨fun|20=>139|n=>n,fun|22=>22|3=>3|4=>4|0=>0|n=>n,fun|n=>n⟩
theorem Tryz.yk:Go.Proofs.Lays2.n20 Tryz.prog Tryz.we:={
 mixed:=by kernel_rfl
 f20:=Tryz.func139.trans (congrArg some (by kernel_rfl))
 t0:=Tryz.underlying0
 a0:=Tryz.isAgg0
 z0:=Tryz.sizeOf0
 v0:=Tryz.zeroValue0
 t3:=Tryz.underlying3
 a3:=Tryz.isAgg3
 z3:=Tryz.sizeOf3
 v3:=Tryz.zeroValue3
 t4:=Tryz.underlying4
 a4:=Tryz.isAgg4
 z4:=Tryz.sizeOf4
 v4:=Tryz.zeroValue4
 t22:=Tryz.underlying22
 a22:=Tryz.isAgg22
 z22:=Tryz.sizeOf22
 v22:=Tryz.zeroValue22
 i3:=by kernel_rfl}
end Go.Proofs
namespace Go.Proofs.YtddaejgfjlneoaaGreat
open Go.Sort Go.RowKit
theorem BL(blk off cap:Nat)(zs:List Int)(w:World)(hH:Holds (Value.int .i64) w blk off zs.toArray)(hblk:blk<w.heap.size)(hsz:zs.length<4611686018427387904):
  Calls Tryz.prog 138 #[.slice (some ⟨blk,off,none⟩) zs.length cap] w fun e w'=>e= .returned (.tuple #[])∧∃n os,w'=grow (putRow (Value.int .i64) (Sort.ahead w n) blk off (zs.mergeSort fun x y=>decide (x≤y)).toArray) os:=
 Any.slices_Sort_int Tryz.AI blk off cap zs w hH hblk hsz
theorem uj(p:Option Addr)(cap:Nat)(w:World):Calls Tryz.prog 138 #[.slice p 0 cap] w fun e w'=>e= .returned (.tuple #[])∧w'=w:=
 Any.slices_Sort_int_none Tryz.AI p cap w
theorem xa(blk off cap:Nat)(zs:List Int)(w:World)(hH:Holds (Value.int .i64) w blk off zs.toArray)(hsz:zs.length≤9223372036854775807)(hcap:zs.length≤cap):
  Calls Tryz.prog 139 #[.slice (some ⟨blk,off,none⟩) zs.length cap] w fun e w'=>e= .returned (.slice (some ⟨blk,off,none⟩) (Lib.compact zs).length cap)∧∃q,w'=putRow (Value.int .i64) (Sort.ahead w q) blk off (Lib.compact zs++List.replicate (zs.length - (Lib.compact zs).length) 0).toArray:=
 Any.slices_Compact_int Tryz.yk blk off cap zs w hH hsz hcap
theorem qR(p:Option Addr)(cap:Nat)(w:World):Calls Tryz.prog 139 #[.slice p 0 cap] w fun e w'=>e= .returned (.slice p 0 cap)∧w'=w:=
 Any.slices_Compact_int_empty Tryz.yk p cap w
end Go.Proofs.YtddaejgfjlneoaaGreat
namespace Go.Proofs.YtddaejgfjlneoaaGreat
open Go.MW
variable{H:bJ}{w:World}{σ:List Ent}
theorem qS{v:Value}{ls:List Int}{x:Int}(hs:St H w σ)(hr:RI H v ls):
  Cl Tryz.prog 205 [v,I x] w fun u w'=>∃i,u=I i∧(0≤i↔x∈ls)∧St H w' σ:=by
 obtain ⟨a,c,rfl⟩:=RI.shape hr
 have hl:=(RI.len hr).2.2
 refine Cl.o Tryz.func205 Tryz.ntmps205 ag2 ?_
 refine .ai (.z zg (.nil (.seq (.ai (.z zm (.z (cS ad) (.z zm (.nil ?_))))))))
 refine .for (N:=ls.length) (J:=fun k fr w=>fr=[(1,I x),(0,.slice a ls.length c)]∧St H w σ∧∀j<k,∀y,ls[j]? =some y→¬x=y) aj ?_ ?_ ?_
 ·exact .mk ⟨rfl,hs,fun j hj=>by omega⟩
 ·rintro k fr w hk ⟨rfl,hs,hno⟩
  obtain ⟨y,hy⟩:=nth hk
  refine .block (.ai (.z zm (.z zg (.nil (.ai (.z zm (.z zm (.z zm ?_))))))))
  refine .ixY hs hr rfl rfl ad af hy rfl ?_;intro b14 o14 hc14
  refine .q hs (aZ rfl ae hc14) ?_
  refine .z j6 (.nil ?_)
  refine (.cg rfl (fun hc16=>?_) (fun hc16=>?_))
  ·refine .ai (.z zm (.z zg (.nil ?_)))
   refine .ret (rB (rT (rB (rT (Fin.bD Tryz.results205 rfl ?_)))))
   exact ⟨_,rfl,⟨fun _=>by rw [hc16];exact List.mem_of_getElem? hy,fun _=>by omega⟩,hs⟩
  ·refine .skip ?_
   refine nB (nT ?_)
   exact .mk ⟨rfl,hs,eS hno hy hc16⟩
 ·rintro fr w ⟨rfl,hs,hno⟩
  refine nT ?_
  refine .ai (.z zg (.nil ?_))
  refine .ret (Fin.bD Tryz.results205 rfl ?_)
  exact ⟨_,rfl,⟨fun h=>by omega,fun h=>by
   obtain ⟨j,hj⟩:=List.getElem?_of_mem h
   exact (hno j (List.getElem?_eq_some_iff.1 hj).1 x hj rfl).elim⟩,hs⟩
theorem oa{v:Value}{ls:List Int}{x:Int}(hs:St H w σ)(hr:RI H v ls):
  Cl Tryz.prog 130 [v,I x] w fun u w'=>u= .bool (decide (x∈ls))∧St H w' σ:=by
 refine Cl.o Tryz.func130 Tryz.ntmps130 ag2 ?_
 refine .ai (.z zg (.nil (.ai (.z zm (.z zm ?_)))))
 refine .o (.call Tryz.call205 rfl (qS hs hr) ?_);rintro _ w ⟨i,rfl,hi,hs⟩
 refine .z xQ (.z zg (.nil ?_))
 refine .ret (Fin.bD Tryz.results130 rfl ?_)
 exact ⟨by simp only [hi],hs⟩
set_option maxHeartbeats 1000000 in
theorem sF{v:Value}{s:bV}{g:Nat}{cap:List Value}(q:Nat→Lim→Bool)(hs:St H w σ)(hr:RSy H v s)(hlen:s.bK.length≤4398046510976)(hc:∀args w,(callFunc g args).run Tryz.prog w= .ok (.enter g args) w)
  (hp:∀w σ (k:Nat) (l:Lim),s.bK[k]? =some l→St H w σ→Cl Tryz.prog g ([I k,.agg l.c.toArray]++cap) w fun u w'=>u= .bool (q k l)∧St H w' σ):
  Cl Tryz.prog 131 [v,.func (.func g) #[] cap.toArray] w fun u w'=>∃H1,HLe H H1∧RSy H1 u ⟨s.many,jD q s.bK s.bK.length⟩∧St H1 w' σ:=by
 obtain ⟨ul,rfl,hl⟩:=hr
 obtain ⟨al,cl,rfl⟩:=RL.shape hl
 refine Cl.o Tryz.func131 Tryz.ntmps131 ag2 ?_
 refine .ai ?_
 refine .bx hs fun b2 w hs=>?_
 refine .o (.alloc hs dC rfl fun b4 w hs=>?_)
 refine .nil (.ai (.z (zfa bw) (.y hs (zld ae) (.z (zbd [_,_] kH) ?_))))
 refine .o (.alloc hs dC rfl fun b5 w hs=>?_)
 refine .o (.aQ (vs:=[_,_]) hs rfl rfl aH fun w hs=>?_)
 refine .nil (.seq (.ai (.z (zfa bu) (.y hs (zld bU) (.z (cS aI) (.z zm (.nil ?_)))))))
 refine .for (N:=s.bK.length) (J:=fun k fr w=>fr=[(12,.slice al s.bK.length cl),(1,.func (.func g) #[] cap.toArray),(5,.pointer (some ⟨b5,0,none⟩)),(4,.pointer (some ⟨b4,0,none⟩))]∧∃vL en,bQ 4 vL (fF (jD q s.bK k)) en∧St H w (.blk b5 [I s.many,vL]:: .blk b4 [I 0,.slice none 0 0]::en::σ)) aj ?_ ?_ ?_
 ·exact .mk ⟨rfl,_,_,.nil 4 none,hs.nul.sb⟩
 ·rintro k fr w hk ⟨rfl,vL,en,hO,hs⟩
  obtain ⟨x,hx⟩:=nth (l:=s.bK) hk
  obtain ⟨aL,lL,cL,rfl,hL⟩:=hO.shape
  have hpl:=lr q s.bK k
  refine .block (.ai (.z zm ?_))
  refine .ixX hs hl rfl rfl aI aR hx rfl ?_;intro b17 o17 hc17
  refine .q hs (bY (vs:=x.c) rfl eb aR hc17) ?_
  refine .o (.alloc hs db rfl fun b7 w hs=>?_)
  refine .z zg ?_
  refine .o (.aQ (vs:=x.c) hs rfl rfl aR fun w hs=>?_)
  refine .nil (.ai (.z zm (.z zm (.y hs (zls [_,_,_,_] eb aR) ?_))))
  refine .o (.ns (first:=[]) (cap:=cap) rfl rfl hc (hp _ _ k x hx hs) ?_);rintro _ w ⟨rfl,hs⟩
  refine .nil ?_
  refine (.cond rfl (fun hc22=>?_) (fun hc22=>?_))
  ·refine .region (.z (zfa bu) (.y hs (zld bU) (.y hs (zls [_,_,_,_] eb aR) ?_)))
   refine .o (.buildSlice (cells:=x.c) hs pK rfl rfl fun b26 w hs=>?_)
   refine .o (.append (ys:=x.c) hs bI rfl rfl hO (.own .here rfl rfl) (by simp [Lim.c,Value.oneCell']) (fun l h=>by rw [de] at h;omega) ?_);intro v27 en27 w hO2 hs
   obtain ⟨a27,l27,c27,rfl,h27⟩:=hO2.shape
   refine .z (zfa bu) ?_
   refine .o (.store hs rfl rfl lF fun w hs=>?_)
   refine .nil ?_
   refine nB (nT ?_)
   have e:jD q s.bK (k+1)=jD q s.bK k++[x]:=by rw [oh hx,if_pos hc22]
   rw [←CL,←fE,←e] at hO2
   exact .mk ⟨rfl,_,_,hO2,hs.sb⟩
  ·refine .skip ?_
   refine nB (nT ?_)
   have e:jD q s.bK (k+1)=jD q s.bK k:=by rw [oh hx,hc22];simp
   exact .mk ⟨rfl,_,_,by rw [e];exact hO,hs.sb⟩
 ·rintro fr w ⟨rfl,vL,en,hO,hs⟩
  obtain ⟨aL,lL,cL,rfl,hL⟩:=hO.shape
  have hpl:=lr q s.bK s.bK.length
  refine nT ?_
  refine .ai (.y hs (zls [_,_] a8 aH) ?_)
  refine .o (.aQ (vs:=[_,_]) hs rfl rfl aH fun w hs=>?_)
  refine .nil ?_
  refine .ret ?_
  obtain ⟨H1,g1,r1,hs⟩:=bQ.bX (m:=4) (cs:=(jD q s.bK s.bK.length).map Lim.c) hO (fun c hc=>by simp only [List.mem_map] at hc;obtain ⟨x,_,rfl⟩:=hc;rfl) aj (by rw [List.length_map];omega) hs dJ
  exact Fin.gV [] [] hs fun w hs=>⟨_,results1 Tryz.results131 (di (vs:=[_,_]) hs rfl a8 aH),H1,g1,⟨_,rfl,r1⟩,hs.out⟩
theorem sG{b:Nat}{i:Int}{l:Lim}{vb:Value}{bs:List Int}(hs:St H w σ)(hb:Row H b [vb])(hr:RI H vb bs):
  Cl Tryz.prog 207 [I i,.agg l.c.toArray,.pointer (some ⟨b,0,none⟩)] w fun u w'=>u= .bool (!decide (l.S∈bs))∧St H w' σ:=by
 have hb0:cellAt H b 0=some vb:=by rw [hb.cell];rfl
 refine Cl.o Tryz.func207 Tryz.ntmps207 ag3 ?_
 refine .ai ?_
 refine .bx hs fun b4 w hs=>?_
 refine .z zg (.nil (.ai (.y hs (zld ak) (.z (zfa iW) (.y hs (zld ae) ?_)))))
 refine .o (.call Tryz.call130 rfl (oa hs hr) ?_);rintro _ w ⟨rfl,hs⟩
 refine .z iU (.z zg (.nil ?_))
 refine .ret (Fin.bD Tryz.results207 rfl ?_)
 exact ⟨rfl,hs.out⟩
theorem pI{v vb:Value}{s:bV}{bs:List Int}(hs:St H w σ)(hr:RSy H v s)(hb:RI H vb bs)(hlen:s.bK.length≤4398046510976):
  Cl Tryz.prog 136 [v,vb] w fun u w'=>∃H1,HLe H H1∧RSy H1 u (s.wo bs)∧St H1 w' σ:=by
 obtain ⟨ul,rfl,hl⟩:=hr
 obtain ⟨al,cl,rfl⟩:=RL.shape hl
 obtain ⟨ab,cb,rfl⟩:=RI.shape hb
 refine Cl.o Tryz.func136 Tryz.ntmps136 ag2 ?_
 refine .ai ?_
 refine .bx hs fun b2 w hs=>?_
 refine .bx hs fun b3 w hs=>?_
 refine .o (.alloc hs dC rfl fun b4 w hs=>?_)
 refine .nil (.ai (.y hs (zls [_,_] a8 aH) ?_))
 refine .q hs (da (f:=[]) (c:=[_]) rfl rfl) ?_
 obtain ⟨H1,hle1,r3,hs⟩:=hs.bX (b:=b3) dJ
 refine .o (.call Tryz.call131 rfl (sF (g:=207) (cap:=[.pointer (some ⟨b3,0,none⟩)]) (s:=s) (fun _ l=> !decide (l.S∈bs)) hs ⟨_,rfl,hl.mono hle1⟩ hlen Tryz.call207 (fun w σ k l _ hs=>sG hs r3 (hb.mono hle1))) ?_);rintro _ w ⟨H2,hle2,⟨u7,rfl,hL7⟩,hs⟩
 rw [zj] at hL7
 obtain ⟨a7,c7,rfl⟩:=RL.shape hL7
 refine .o (.aQ (vs:=[_,_]) hs rfl rfl aH fun w hs=>?_)
 refine .nil ?_
 refine .ret ?_
 exact Fin.gV [] [] hs fun w hs=>⟨_,results1 Tryz.results136 (di (vs:=[_,_]) hs rfl a8 aH),H2,hle1.trans hle2,⟨_,rfl,hL7⟩,hs.out⟩
theorem mi{b cap:Nat}{xs:List Int}{sp:List Value}(hs:St H w (.blk b (Is xs++sp)::σ))(hl:xs.length≤17592186044416):
  Cl Tryz.prog 138 [.slice (some ⟨b,0,none⟩) xs.length cap] w fun u w'=>u= .tuple #[]∧St H w' (.blk b (Is (xs.mergeSort fun x y=>decide (x≤y))++sp)::σ):=
 (BL b 0 cap xs w hs.holds (hs.lt .here) aj).mono fun e w' ⟨he,m,os,hw⟩=>⟨_,he,rfl,by
  rw [hw]
  exact (hs.putRow (List.length_mergeSort _)).grow os⟩
theorem lH{a:Option Addr}{cap:Nat}(hs:St H w σ):
  Cl Tryz.prog 138 [.slice a 0 cap] w fun u w'=>u= .tuple #[]∧St H w' σ:=
 (uj a cap w).mono fun e w' ⟨he,hw⟩=>⟨_,he,rfl,by rw [hw];exact hs⟩
theorem kj{b cap:Nat}{xs:List Int}{sp:List Value}(hs:St H w (.blk b (Is xs++sp)::σ))(hl:xs.length≤17592186044416)(hcap:xs.length≤cap):
  Cl Tryz.prog 139 [.slice (some ⟨b,0,none⟩) xs.length cap] w fun u w'=>u= .slice (some ⟨b,0,none⟩) (Go.Lib.compact xs).length cap∧St H w' (.blk b (Is (Go.Lib.compact xs)++(Is (List.replicate (xs.length - (Go.Lib.compact xs).length) 0)++sp))::σ):=
 (xa b 0 cap xs w hs.holds aj hcap).mono fun e w' ⟨he,m,hw⟩=>⟨_,he,rfl,by
  rw [hw]
  have h:=Go.Lib.compact_length_le xs
  have:=hs.putRow (m:=m) (ys:=Go.Lib.compact xs++List.replicate (xs.length - (Go.Lib.compact xs).length) 0) (by simp;omega)
  have e2:Is (Go.Lib.compact xs++List.replicate (xs.length - (Go.Lib.compact xs).length) 0)=Is (Go.Lib.compact xs)++Is (List.replicate (xs.length - (Go.Lib.compact xs).length) 0):=List.map_append
  rw [e2,List.append_assoc] at this
  exact this⟩
theorem jP{a:Option Addr}{cap:Nat}(hs:St H w σ):
  Cl Tryz.prog 139 [.slice a 0 cap] w fun u w'=>u= .slice a 0 cap∧St H w' σ:=
 (qR a cap w).mono fun e w' ⟨he,hw⟩=>⟨_,he,rfl,by rw [hw];exact hs⟩
theorem s8{v:Value}{xs:List Int}{en:Ent}(hs:St H w (en::σ))(hO:bQ 1 v (Is xs) en)(hl:xs.length≤17592186044416):
  Cl Tryz.prog 204 [v] w fun u w'=>∃L en',bQ 1 u (Is L) en'∧L.length≤xs.length∧jY (fun x=>x∈xs) L∧St H w' (en'::σ):=by
 rcases hO with ⟨a,rfl,h0,rfl⟩|⟨b,len,cap,sp,rfl,rfl,h3,h4,h5⟩
 ·have hx:xs=[]:=by simpa using h0
  subst hx
  refine Cl.o Tryz.func204 Tryz.ntmps204 ag1 ?_
  refine .ai (.z zg (.nil (.ai (.z zm ?_))))
  refine .o (.call F7 rfl (lH hs) ?_);rintro _ w ⟨rfl,hs⟩
  refine .nil (.ai (.z zm ?_))
  refine .o (.call F6 rfl (jP hs) ?_);rintro _ w ⟨rfl,hs⟩
  refine .z zg (.nil ?_)
  refine .ret (Fin.bD Tryz.results204 rfl ?_)
  exact ⟨[],_,.nil 1 a,bR,.nil bR,hs.out⟩
 ·obtain rfl:len=xs.length:=by simpa using h3.symm
  refine Cl.o Tryz.func204 Tryz.ntmps204 ag1 ?_
  refine .ai (.z zg (.nil (.ai (.z zm ?_))))
  refine .o (.call F7 rfl (mi hs hl) ?_);rintro _ w ⟨rfl,hs⟩
  refine .nil (.ai (.z zm ?_))
  have hml:(xs.mergeSort fun x y=>decide (x≤y)).length=xs.length:=List.length_mergeSort _
  rw [←hml]
  refine .o (.call F6 rfl (kj hs aj aj) ?_);rintro _ w ⟨rfl,hs⟩
  refine .z zg (.nil ?_)
  refine .ret (Fin.bD Tryz.results204 rfl ?_)
  have hcl:=Go.Lib.compact_length_le (xs.mergeSort fun x y=>decide (x≤y))
  have h4':xs.length+sp.length=cap:=by simpa using h4
  exact ⟨_,_,.inr ⟨b,_,cap,Is (List.replicate ((xs.mergeSort fun x y=>decide (x≤y)).length - (Go.Lib.compact (xs.mergeSort fun x y=>decide (x≤y))).length) 0)++sp,rfl,rfl,bR,by simp;omega,aj⟩,aj,lh,hs⟩
theorem ks{v:Value}{s:bV}(hs:St H w σ)(hr:RSy H v s)(hlen:s.bK.length≤4398046510976):
  Cl Tryz.prog 129 [v] w fun u w'=>∃L en,bQ 1 u (Is L) en∧L.length≤s.bK.length∧jY (Fb s.bK) L∧St H w' (en::σ):=by
 obtain ⟨ul,rfl,hl⟩:=hr
 obtain ⟨al,cl,rfl⟩:=RL.shape hl
 refine Cl.o Tryz.func129 Tryz.ntmps129 ag1 ?_
 refine .ai ?_
 refine .bx hs fun b1 w hs=>?_
 refine .z zg (.nil (.ai (.z zg (.nil (.seq (.ai (.z (zfa bu) (.y hs (zld bU) (.z (cS aI) ?_)))))))))
 refine .z zm (.nil ?_)
 refine .for (N:=s.bK.length) (J:=fun k fr w=>∃v3 en,bQ 1 v3 (Is ((s.bK.take k).map Lim.S)) en∧fr=[(3,v3),(7,.slice al s.bK.length cl)]∧St H w (en::σ)) aj ?_ ?_ ?_
 ·exact .mk ⟨_,_,.nil 1 none,rfl,hs.nul.sb⟩
 ·rintro k fr w hk ⟨v3,en,hO,rfl,hs⟩
  obtain ⟨x,hx⟩:=nth (l:=s.bK) hk
  obtain ⟨a3,l3,c3,rfl,h3⟩:=hO.shape
  refine .block (.ai ?_)
  refine .ixX hs hl rfl rfl aI aR hx rfl ?_;intro b11 o11 hc11
  refine .q hs (bY (vs:=x.c) rfl eb aR hc11) ?_
  refine .o (.alloc hs db rfl fun b5 w hs=>?_)
  refine .o (.aQ (vs:=x.c) hs rfl rfl aR fun w hs=>?_)
  refine .nil (.region (.z zm (.z (zfa iW) (.y hs (zld ae) ?_))))
  refine .o (.buildSlice (cells:=[_]) hs bP rfl rfl fun b16 w hs=>?_)
  refine .o (.append (ys:=Is [x.S]) hs bH rfl rfl hO (.own .here rfl rfl) (fN _) (fun l' h=>by simp at h;omega) ?_);intro v17 en17 w hO2 hs
  rw [←List.map_append] at hO2
  refine .z zg (.nil ?_)
  refine nB (nT ?_)
  exact .mk ⟨_,_,by rw [cU hx,List.map_append];exact hO2,rfl,hs.sb⟩
 ·rintro fr w ⟨v3,en,hO,rfl,hs⟩
  rw [List.take_length] at hO
  refine nT ?_
  refine .ai (.z zm ?_)
  refine .o (.call Tryz.call204 rfl (s8 hs hO (by rw [List.length_map];omega)) ?_);rintro v20 w ⟨L,en',hO',hL,hR,hs⟩
  rw [List.length_map] at hL
  refine .z zg (.nil ?_)
  refine .ret (Fin.bD Tryz.results129 rfl ?_)
  exact ⟨L,en',hO',hL,hR.congr fun x=>by simp [Fb],hs⟩
theorem ni{v:Value}{en:Ent}{xs:List Int}{g:Nat}{cap:List Value}(q:Int→Bool)(hs:St H w (en::σ))(hO:bQ 1 v (Is xs) en)(hl:xs.length≤17592186044416)(hc:∀args w,(callFunc g args).run Tryz.prog w= .ok (.enter g args) w)
  (hp:∀H' w σ (n:Int),n∈xs→HLe H H'→St H' w σ→Cl Tryz.prog g ([I n]++cap) w fun u w'=>∃H1,HLe H' H1∧u= .bool (q n)∧St H1 w' σ):
  Cl Tryz.prog 206 [v,.func (.func g) #[] cap.toArray] w fun u w'=>∃H1 i,HLe H H1∧u=I i∧((i= -1∧∀x∈xs,q x=false)∨(∃(k:Nat) (x:Int),i=k∧xs[k]? =some x∧q x=true∧∀j<k,∀y,xs[j]? =some y→q y=false))∧St H1 w' (en::σ):=by
 obtain ⟨a,c,rfl⟩:=hO.oW
 refine Cl.o Tryz.func206 Tryz.ntmps206 ag2 ?_
 refine .ai (.z zg (.nil (.seq (.ai (.z zm (.z (cS ad) (.z zm (.nil ?_))))))))
 refine .for (N:=xs.length) (J:=fun k fr w=>fr=[(1,.func (.func g) #[] cap.toArray),(0,.slice a xs.length c)]∧∃H1,HLe H H1∧(∀j<k,∀y,xs[j]? =some y→q y=false)∧St H1 w (en::σ)) aj ?_ ?_ ?_
 ·exact .mk ⟨rfl,H,HLe.refl H,fun j hj=>by omega,hs⟩
 ·rintro k fr w hk ⟨rfl,H1,hle1,hno,hs⟩
  have hx:=bL hk
  obtain ⟨b,c',sp,hv,rfl,_⟩:=hO.blk aj
  cases hv
  refine .block (.ai (.z zm (.z zg (.nil (.ai (.z zm (.z zm (.z zm (.z (zix ad af) ?_)))))))))
  refine .q hs (gh rfl ae (hv:=eX hk sp)) ?_
  refine .o (.ns (first:=[]) (cap:=cap) rfl rfl hc (hp _ _ _ (gi xs k) (List.mem_of_getElem? hx) hle1 hs) ?_);rintro _ w ⟨H2,hle2,rfl,hs⟩
  refine .nil ?_
  refine (.cond rfl (fun hc16=>?_) (fun hc16=>?_))
  ·refine .ai (.z zm (.z zg (.nil ?_)))
   refine .ret (rB (rT (rB (rT (Fin.bD rm rfl ?_)))))
   exact ⟨H2,_,hle1.trans hle2,rfl,.inr ⟨k,_,rfl,hx,hc16,hno⟩,hs⟩
  ·refine .skip ?_
   refine nB (nT ?_)
   exact .mk ⟨rfl,H2,hle1.trans hle2,eS hno hx hc16,hs⟩
 ·rintro fr w ⟨rfl,H1,hle1,hno,hs⟩
  refine nT ?_
  refine .ai (.z zg (.nil ?_))
  refine .ret (Fin.bD rm rfl ?_)
  exact ⟨H1,_,hle1,rfl,.inl ⟨rfl,fun x hx=>by
   obtain ⟨j,hj⟩:=List.getElem?_of_mem hx
   exact hno j (List.getElem?_eq_some_iff.1 hj).1 x hj⟩,hs⟩
set_option maxHeartbeats 1000000 in
theorem lV{v:Value}{en:Ent}{xs:List Int}{g:Nat}{cap:List Value}(q:Int→Bool)(hs:St H w (en::σ))(hO:bQ 1 v (Is xs) en)(hl:xs.length≤17592186044416)(hc:∀args w,(callFunc g args).run Tryz.prog w= .ok (.enter g args) w)
  (hp:∀H' w σ (n:Int),n∈xs→HLe H H'→St H' w σ→Cl Tryz.prog g ([I n]++cap) w fun u w'=>∃H1,HLe H' H1∧u= .bool (q n)∧St H1 w' σ):
  Cl Tryz.prog 150 [v,.func (.func g) #[] cap.toArray] w fun u w'=>∃H1 en',HLe H H1∧bQ 1 u (Is (xs.filter fun x=> !q x)) en'∧St H1 w' (en'::σ):=by
 obtain ⟨a,c,rfl⟩:=hO.oW
 refine Cl.o Tryz.func150 Tryz.ntmps150 ag2 ?_
 refine .ai (.z zg (.nil (.ai (.z zm (.z zm ?_)))))
 refine .o (.call Tryz.call206 rfl (ni q hs hO hl hc hp) ?_);rintro _ w ⟨H1,i0,hle1,rfl,hcase,hs⟩
 refine .z zg (.nil (.seq (.ai (.z zm (.z j6 (.nil ?_))))))
 refine (.cg rfl (fun hc12=>?_) (fun hc12=>?_))
 ·refine .ai (.z zm (.z zg (.nil ?_)))
  refine .ret (rT (Fin.bD Tryz.results150 rfl ?_))
  have hno:∀x∈xs,q x=false:=by
   rcases hcase with ⟨_,h⟩|⟨k,x,h,_⟩
   ·exact h
   ·omega
  have e:xs.filter (fun x=> !q x)=xs:=List.filter_eq_self.2 fun x hx=>by simp [hno x hx]
  exact ⟨H1,en,hle1,by rw [e];exact hO,hs⟩
 ·refine .skip ?_
  refine nT ?_
  refine .seq (.ai (.z zm ?_))
  obtain ⟨k0,x0,rfl,hx0,hq0,hno⟩:∃(k:Nat) (x:Int),i0=k∧xs[k]? =some x∧q x=true∧∀j<k,∀y,xs[j]? =some y→q y=false:=hcase.resolve_left fun h=>hc12 h.1
  have hk0:=(List.getElem?_eq_some_iff.1 hx0).1
  obtain ⟨b,c',sp,hv,rfl,hc'⟩:=hO.blk aj
  cases hv
  refine .z cC (.z zg (.nil (.block ?_)))
  refine .loop (fun p:Nat×Nat=>⟨42,[],[(5,I (p.1:Int)),(6,I (p.2:Int)),(1,.func (.func g) #[] cap.toArray),(0,.slice (some ⟨b,0,none⟩) xs.length c)]⟩)
   (fun p w=>k0<p.2∧∃Y H1,HLe H H1∧xK q xs Y p.1 p.2∧St H1 w (.blk b (Is Y++sp)::σ))
   (fun p=>xs.length - p.2) (k0,k0+1) (.cons rfl (.cR rfl (by dsimp only;omega) bA))
   ⟨by dsimp only;omega,xs,H1,hle1,.start hx0 hq0 hno,hs⟩ ?_
  clear hs hle1 hcase
  rintro ⟨i,j⟩ w ⟨hkj,Y,H1,hle1,hD,hs⟩
  dsimp only at hkj hD ⊢
  have hYl:=hD.len
  have hij:=hD.le
  have hjl:=hD.jl
  have hilt:=hD.lt hx0 hq0 hkj
  refine .seq (.ai (.z zm (.z zm (.z (cS ad) (.z ik (.nil ?_))))))
  refine (.cg rfl (fun hc19=>?_) (fun hc19=>?_))
  ·refine .skip ?_
   refine nT ?_
   refine .seq (.block (.ai (.z zm (.z zm ?_))))
   have hj:j<Y.length:=by omega
   have hx:xs[j]? =some (gi Y j):=by rw [hD.rest j (Nat.le_refl _)];exact bL aj
   refine .z (zix ad af) ?_
   refine .q hs (gh rfl ae (hv:=eX hj sp)) ?_
   refine .z zg (.nil (.ai (.z zm (.z zm ?_))))
   refine .o (.ns (first:=[]) (cap:=cap) rfl rfl hc (hp _ _ _ (gi Y j) (List.mem_of_getElem? hx) hle1 hs) ?_);rintro _ w ⟨H2,hle2,rfl,hs⟩
   refine .z iU (.nil ?_)
   refine (.cond rfl (fun hc29=>?_) (fun hc29=>?_))
   ·refine .ai (.z zm (.z zm (.z zm (.z (zix ad af) ?_))))
    refine .o (.store hs rfl rfl af ?_ .here (mL (show i<Y.length by omega) sp) (j5 (show i<Y.length by omega) sp _));intro w hs
    refine .nil (.region (.z zm (.z cC (.z zg (.nil ?_)))))
    refine nB (nT ?_)
    refine .region (.z zm (.z cC (.z zg (.nil ?_))))
    refine nT ?_
    exact ⟨(i+1,j+1),.cR rfl (by dsimp only;omega) (.cR rfl (by dsimp only;omega) bA),⟨by dsimp only;omega,_,H2,hle1.trans hle2,hD.keep hx (by simpa using hc29),hs⟩,by dsimp only;omega⟩
   ·refine .skip ?_
    refine nB (nT ?_)
    refine .region (.z zm (.z cC (.z zg (.nil ?_))))
    refine nT ?_
    exact ⟨(i,j+1),.cons rfl (.cR rfl (by dsimp only;omega) bA),⟨by dsimp only;omega,_,H2,hle1.trans hle2,hD.skip hx (by simpa using hc29),hs⟩,by dsimp only;omega⟩
  ·refine .exit ?_
   refine xT (xT (xB (nT ?_)))
   refine .ai (.z zm (.z zm ?_))
   obtain rfl:xs.length=j:=by omega
   refine .q hs (vV (k:=i) rfl rfl ad af aj aj) ?_
   rw [show 0+i*1=i by omega]
   refine .o (.E7 (c:=Is Y++sp) hs rfl ad bE (by simp;omega) ?_);intro w hs
   rw [hD.done sp] at hs
   have hil:=hD.il
   rw [List.take_length] at hil
   refine .nil (.ai (.z zm (.z zm ?_)))
   refine .q hs (sh (k:=i) rfl rfl ad af aj) ?_
   refine .z zg (.nil ?_)
   refine .ret (Fin.bD Tryz.results150 rfl ?_)
   exact ⟨H1,_,hle1,.inr ⟨b,i,c,List.replicate (xs.length - i) (I 0)++sp,rfl,rfl,by simp [hil],by simp [←hil];omega,aj⟩,hs⟩
def ta(L:List Int):List (List Value):=(List.range L.length).map fun j=>[I ((L.length - 1 - j:Nat):Int),I (gi L (L.length - 1 - j))]
theorem ku(L:List Int):(ta L).length=L.length:=by simp [ta]
theorem wI{L:List Int}{j:Nat}(h:j<(ta L).length):(ta L)[j]=[I ((L.length - 1 - j:Nat):Int),I (gi L (L.length - 1 - j))]:=by simp [ta]
theorem lX{H:bJ}{b:Nat}{v:Value}{L:List Int}(hb:Row H b [v])(hr:RI H v L):Iter Tryz.prog 231 [.pointer (some ⟨b,0,none⟩)] H (ta L):=by
 intro l II Ix _ _ hy H0 σb0 σf w hle hI0 hs
 obtain ⟨a,c,rfl⟩:=RI.shape hr
 have hlen:=(RI.len hr).2.2
 have hb0:cellAt H0 b 0=some (.slice a L.length c):=cellAt.mono (hb.at 0) hle
 refine Cl.o Tryz.func231 Tryz.ntmps231 ag2 ?_
 refine .ai (.y hs (zld ak) (.z (cS ad) (.z iK (.z zg (.nil (.block ?_))))))
 refine .loop (fun j:Nat=>⟨19,[],[(3,I ((L.length:Int) - 1 - (j:Int))),(0,.func (.yield l) #[] #[]),(1,.pointer (some ⟨b,0,none⟩))]⟩)
  (fun j w=>j≤L.length∧∃H1 σb,HLe H H1∧HLe H0 H1∧II j H1 σb∧St H1 w (σb++σf)) (fun j=>L.length - j) 0 (.cR rfl bR bA)
  ⟨Nat.zero_le _,H0,σb0,hle,HLe.refl _,hI0,hs⟩ ?_
 clear hs hI0
 rintro j w ⟨hj,H1,σb,hle1,hle0,hI,hs⟩
 have hb1:cellAt H1 b 0=some (.slice a L.length c):=cellAt.mono hb0 hle0
 refine .seq (.ai (.z zm (.z xQ (.nil ?_))))
 refine (.cg rfl (fun hc8=>?_) (fun hc8=>?_))
 ·refine .skip ?_
  refine nT ?_
  refine .seq (.block (.ai (.z zm (.z zm (.y hs (zld ak) (.z zm ?_))))))
  refine .ixY hs (hr.mono hle1) rfl rfl ad af (bL (l:=L) (i:=L.length - 1 - j) aj) aj ?_;intro b15 o15 hc15
  refine .q hs (aZ rfl ae hc15) ?_
  have hk':j<(ta L).length:=by rw [ku];omega
  have hyd:=hy j hk' H1 σb σf w hle1 hI hs
  rw [wI hk',show ((L.length - 1 - j:Nat):Int)=(L.length:Int) - 1 - (j:Int) by omega] at hyd
  refine .o (.yield rfl rfl hyd ?_);rintro v17 w ⟨H2,σ2,g1,hs,g3⟩
  obtain ⟨bb,rfl,gT,gF⟩:=nR g3
  refine .z iU (.nil ?_)
  refine (.cond rfl (fun hc18=>?_) (fun hc18=>?_))
  ·refine .ret (rB (rT (rT (rB (Fin.Ez Tryz.results231 ?_)))))
   exact ⟨H2,σ2,hle0.trans g1,hs,.inr (gF (by simpa using hc18))⟩
  ·refine .skip ?_
   refine nB (nT ?_)
   refine .region (.z zm (.z iK (.z zg (.nil ?_))))
   refine nT ?_
   exact ⟨j+1,.cR rfl (by simp;omega) bA,⟨aj,H2,σ2,hle1.trans g1,hle0.trans g1,gT (by simpa using hc18),hs⟩,aj⟩
 ·refine .exit ?_
  refine xT (xT (xB ?_))
  obtain rfl:L.length=j:=by omega
  exact Fin.wW Tryz.results231 ⟨H1,σb,hle0,hs,.inl (by rw [ku];exact hI)⟩
theorem nj{v:Value}{L:List Int}(hs:St H w σ)(hr:RI H v L):
  Cl Tryz.prog 180 [v] w fun u w'=>∃H1 b,HLe H H1∧u= .func (.func 231) #[] #[.pointer (some ⟨b,0,none⟩)]∧Iter Tryz.prog 231 [.pointer (some ⟨b,0,none⟩)] H1 (ta L)∧St H1 w' σ:=by
 obtain ⟨a,c,rfl⟩:=RI.shape hr
 refine Cl.o Tryz.func180 Tryz.ntmps180 ag1 ?_
 refine .ai ?_
 refine .bx hs fun b1 w hs=>?_
 refine .z zg (.nil (.ai ?_))
 refine .q hs (da (f:=[]) (c:=[_]) rfl rfl) ?_
 refine .z zg (.nil ?_)
 refine .ret (Fin.bD Tryz.results180 rfl ?_)
 obtain ⟨H1,g1,g2,hs⟩:=hs.bX .here
 exact ⟨H1,b1,g1,rfl,lX g2 (hr.mono g1),hs⟩
theorem q8{n m:Int}{b:Nat}(hs:St H w σ)(hb:Row H b [I m]):
  Cl Tryz.prog 181 [I n,.pointer (some ⟨b,0,none⟩)] w fun u w'=>u= .bool (decide (n=m))∧St H w' σ:=by
 have hb0:cellAt H b 0=some (I m):=hb.at 0
 refine Cl.o Tryz.func181 Tryz.ntmps181 ag2 ?_
 refine .ai (.z zg (.nil (.ai (.z zm (.y hs (zld ae) (.z j6 (.z zg (.nil ?_))))))))
 refine .ret (Fin.bD Tryz.results181 rfl ?_)
 exact ⟨rfl,hs⟩
set_option maxHeartbeats 1000000 in
theorem oB{v:Value}{s:bV}(hs:St H w σ)(hr:RSy H v s):
  Cl Tryz.prog 98 [v] w fun u w'=>∃H1 vx out e,HLe H H1∧u= .tuple #[vx,I e]∧RI H1 vx out∧vq s out e∧St H1 w' σ:=by
 obtain ⟨ul,rfl,hl⟩:=hr
 obtain ⟨al,cl,rfl⟩:=RL.shape hl
 refine Cl.o Tryz.func98 Tryz.ntmps98 ag1 ?_
 refine .ai ?_
 refine .bx hs fun b1 w hs=>?_
 refine .z zg (.z zg (.nil (.seq (.ai (.y hs (zls [_,_] a8 aH) ?_)))))
 refine .o (.call Tryz.call125 rfl (gR (s:=s) hs ⟨_,rfl,hl⟩) ?_);rintro _ w ⟨rfl,hs⟩
 refine .z zg (.nil (.ai (.z zm (.z fP (.nil ?_)))))
 refine (.ep rfl (fun hc12=>?_) (fun hc12=>?_))
 ·refine .ai (.z zm (.z zg (.z zg (.nil ?_))))
  refine .ret (rT (?_))
  exact Fin.gV [] [] hs fun w hs=>⟨_,results2 Tryz.results98 rfl rfl,H,_,[],_,HLe.refl H,rfl,RS.nil H 1 none 0,.bad hc12,hs.out⟩
 ·refine .skip ?_
  refine nT ?_
  refine .seq (.ai (.y hs (zls [_,_] a8 aH) ?_))
  have hok:s.Ok:=s.bT.1 (by simpa using hc12)
  have hll:=hok.len
  refine .o (.call Tryz.call133 rfl (iB (s:=s) hs hok ⟨_,rfl,hl⟩) ?_);rintro _ w ⟨H1,bb,hle1,rfl,hbb,hs⟩
  refine .nil ?_
  refine (.cond rfl (fun hc15=>?_) (fun hc15=>?_))
  ·refine .ai (.z zg (.z zg (.nil ?_)))
   refine .ret (rT (?_))
   exact Fin.gV [] [] hs fun w hs=>⟨_,results2 Tryz.results98 rfl rfl,H1,_,[],_,hle1,rfl,RS.nil H1 1 none 0,.none hok (hbb.1 hc15),hs.out⟩
  ·refine .skip ?_
   refine nT ?_
   refine .ai (.y hs (zls [_,_] a8 aH) ?_)
   have hns:¬s.Sound:=fun h=>by rw [hbb.2 h] at hc15;cases hc15
   refine .o (.call Tryz.call129 rfl (ks (s:=s) hs ⟨_,rfl,hl.mono hle1⟩ aj) ?_);rintro v17 w ⟨L,en,hO,hLl,hRise,hs⟩
   obtain ⟨a17,l17,c17,rfl,h17⟩:=hO.shape
   refine .o (.alloc hs dD rfl fun b5 w hs=>?_)
   refine .o (.store hs rfl rfl aC fun w hs=>?_)
   refine .nil (.seq (.ai (.y hs (zls [_,_] a8 aH) ?_)))
   refine .o (.call Tryz.call129 rfl (ks (s:=s) hs ⟨_,rfl,hl.mono hle1⟩ aj) ?_);rintro v19 w ⟨L',en',hO',hLl',hRise',hs⟩
   obtain rfl:L=L':=hRise.uniq hRise'
   obtain ⟨H2,hle2,hR19,hs⟩:=bQ.dj hO' aj hs .here
   refine .o (.call Tryz.call180 rfl (nj hs hR19) ?_);rintro _ w ⟨H3,b20,hle3,rfl,hit,hs⟩
   have hle03:=hle1.trans (hle2.trans hle3)
   refine .nil (.block ?_)
   refine .rangeFunc (gf:=231) (cap:=[.pointer (some ⟨b20,0,none⟩)]) (xs:=ta L) (σb:=[.blk b1 [I s.many,.slice al s.bK.length cl],.blk b5 [.slice a17 l17 c17],en]) (σf:=σ) (hs.sb:St H3 w (.blk b1 _:: .blk b5 _::en::σ)) trivial rfl hit Tryz.call231 (fun x hx=>by
     simp only [ta,List.mem_map] at hx
     obtain ⟨j,_,rfl⟩:=hx;rfl) rfl
    (I:=fun j H' σb=>∃(t:bV) (ut vo:Value) (out:List Int) (en:Ent),σb=[.blk b1 [I t.many,ut],.blk b5 [vo],en]∧RL H' ut t.bK∧bQ 1 vo (Is out) en∧out.length≤L.length∧t.Ok∧kZ s L (L.length - j) t out) (Ix:=fun _ _ _=>False)
    (fun j _ _ σ g1 ⟨t,ut,vo,out,en,g2,g3,g4⟩=>⟨t,ut,vo,out,en,g2,g3.mono g1,g4⟩) (fun _ _ _ _ _ h=>h)
    ⟨s,_,_,L,en,rfl,hl.mono hle03,hO,Nat.le_refl _,hok,.start⟩ ?_ ?_ (fun D c H' σb w _ h _=>h.elim)
   ·rintro l j hj H4 σb2 σf2 w hle4 ⟨t,ut,vo,out,en,rfl,hut,hOo,hol,htok,hC⟩ hs ⟨rr,hrr⟩
    rw [wI hj]
    have hjL:j<L.length:=by rw [ku] at hj;exact hj
    obtain ⟨at',ct,rfl⟩:=RL.shape hut
    obtain ⟨ao,lo,co,rfl,hlo⟩:=hOo.shape
    refine .region ?_
    refine .o (.alloc hs bE rfl fun b7 w hs=>?_)
    refine .o (.store hs rfl rfl af fun w hs=>?_)
    refine .nil ?_
    refine nT ?_
    refine ⟨H4,[.blk b7 [I (gi L (L.length - 1 - j))],.blk b1 [I t.many,.slice at' t.bK.length ct],.blk b5 [.slice ao lo co],en],HLe.refl _,hs,?_⟩;rintro w σf4 - hs
    refine .block (.ai (.y hs (zls [_,_] a8 aH) (.y hs (zld ae) ?_)))
    refine .o (.buildSlice (cells:=[_]) hs bP rfl rfl fun b25 w hs=>?_)
    obtain ⟨H5,hle5,r25,hs⟩:=bQ.dj (xs:=[gi L (L.length - 1 - j)]) (v:= .slice (some ⟨b25,0,none⟩) 1 1) (.full (len:=1) rfl) bR hs dJ
    refine .o (.call Tryz.call136 rfl (pI (s:=t) hs ⟨_,rfl,hut.mono hle5⟩ r25 (by have:=htok.len;omega)) ?_);rintro _ w ⟨H6,hle6,⟨u26,rfl,hL26⟩,hs⟩
    obtain ⟨a26,c26,rfl⟩:=RL.shape hL26
    refine .o (.alloc hs dC rfl fun b8 w hs=>?_)
    refine .o (.aQ (vs:=[_,_]) hs rfl rfl aH fun w hs=>?_)
    refine .nil (.ai (.y hs (zls [_,_] a8 aH) ?_))
    refine .o (.call Tryz.call133 rfl (iB (s:=t.wo [gi L (L.length - 1 - j)]) hs (htok.wo _) ⟨_,rfl,hL26⟩) ?_);rintro _ w ⟨H7,b28,hle7,rfl,hb28,hs⟩
    have hle47:=hle5.trans (hle6.trans hle7)
    refine .z iU (.nil ?_)
    refine (.cond rfl (fun hc29=>?_) (fun hc29=>?_))
    ·refine .ai (.y hs (zls [_,_] a8 aH) ?_)
     refine .o (.aQ (vs:=[_,_]) hs rfl rfl aH fun w hs=>?_)
     refine .nil (.region (.y hs (zld ak) ?_))
     refine .q hs (da (f:=[]) (c:=[_]) rfl rfl) ?_
     obtain ⟨H8,hle8,r7,hs⟩:=hs.bX (b:=b7) dJ
     replace hs:St H8 w (en:: .blk b1 [I t.many,.slice a26 (t.wo [gi L (L.length - 1 - j)]).bK.length c26]:: .blk b5 [.slice ao lo co]::σf4):=hs.sb
     refine .o (.call Tryz.call150 rfl (lV (g:=181) (cap:=[.pointer (some ⟨b7,0,none⟩)]) (fun n=>decide (n=gi L (L.length - 1 - j))) hs hOo aj Tryz.call181
      (fun H' w σ n _ hle hs=>(q8 hs (r7.mono hle)).mono fun u w' ⟨g1,g2⟩=>⟨H',HLe.refl _,g1,g2⟩)) ?_);rintro v33 w ⟨H9,en9,hle9,hO9,hs⟩
     obtain ⟨a33,l33,c33,rfl,h33⟩:=hO9.shape
     refine .o (.store hs rfl rfl aC fun w hs=>?_)
     refine .nil ?_
     refine nB ?_
     have hfl:=List.length_filter_le (fun n=> !decide (n=gi L (L.length - 1 - j))) out
     have e:L.length - (j+1)=L.length - 1 - j:=by omega
     have hns':¬(t.wo [gi L (L.length - 1 - j)]).Sound:=fun h=>by rw [hb28.2 h] at hc29;cases hc29
     exact ⟨H9,[.blk b1 [I t.many,.slice a26 (t.wo [gi L (L.length - 1 - j)]).bK.length c26],.blk b5 [.slice a33 l33 c33],en9],hle47.trans (hle8.trans hle9),(hs.sb:St H9 w (.blk b1 _:: .blk b5 _::en9::σf4)),t.wo [gi L (L.length - 1 - j)],_,_,_,_,rfl,hL26.mono (hle7.trans (hle8.trans hle9)),hO9,aj,htok.wo _,by
      rw [e]
      exact .drop (by rw [show L.length - 1 - j+1=L.length - j by omega];exact hC) hns'⟩
    ·refine .skip ?_
     refine nB ?_
     have e:L.length - (j+1)=L.length - 1 - j:=by omega
     have hsd':(t.wo [gi L (L.length - 1 - j)]).Sound:=hb28.1 (by simpa using hc29)
     exact ⟨H7,[.blk b1 [I t.many,.slice at' t.bK.length ct],.blk b5 [.slice ao lo co],en],hle47,(hs.sb:St H7 w (.blk b1 _:: .blk b5 _::en::σf4)),t,_,_,_,_,rfl,hut.mono hle47,hOo,hol,htok,by
      rw [e]
      exact .keep (by rw [show L.length - 1 - j+1=L.length - j by omega];exact hC) hsd'⟩
   ·rintro D H4 σb2 w hle4 ⟨t,ut,vo,out,en,rfl,hut,hOo,hol,htok,hC⟩ hs
    rw [ku,Nat.sub_self] at hC
    obtain ⟨ao,lo,co,rfl,hlo⟩:=hOo.shape
    replace hs:St H4 w (.obj D (.deferred (some [])):: .blk b1 [I t.many,ut]:: .blk b5 [.slice ao lo co]::en::σ):=hs
    refine nB (nT ?_)
    refine .ai (.y hs (zld ak) (.z zg (.z zg (.nil ?_))))
    refine .ret ?_
    obtain ⟨H5,hle5,hR5,hs⟩:=bQ.dj hOo aj hs dJ
    exact Fin.gV [D] [] hs fun w hs=>⟨_,results2 Tryz.results98 rfl rfl,H5,_,out,0,hle03.trans (hle4.trans hle5),rfl,hR5,.ok hok hns hRise hC,hs.out⟩
theorem lU{v:Value}{xs:List Int}{g:Nat}{cap:List Value}(q:Int→Prop)(hs:St H w σ)(hR:RI H v xs)(hc:∀args w,(callFunc g args).run Tryz.prog w= .ok (.enter g args) w)
  (hp:∀H' w σ (n:Int),n∈xs→HLe H H'→St H' w σ→Cl Tryz.prog g ([I n]++cap) w fun u w'=>∃H1 b,HLe H' H1∧u= .bool b∧(b=true↔q n)∧St H1 w' σ):
  Cl Tryz.prog 206 [v,.func (.func g) #[] cap.toArray] w fun u w'=>∃H1 i,HLe H H1∧u=I i∧(0≤i↔∃x∈xs,q x)∧St H1 w' σ:=by
 obtain ⟨a,c,rfl⟩:=RI.shape hR
 have hl:=(RI.len hR).2.2
 refine Cl.o Tryz.func206 Tryz.ntmps206 ag2 ?_
 refine .ai (.z zg (.nil (.seq (.ai (.z zm (.z (cS ad) (.z zm (.nil ?_))))))))
 refine .for (N:=xs.length) (J:=fun k fr w=>fr=[(1,.func (.func g) #[] cap.toArray),(0,.slice a xs.length c)]∧∃H1,HLe H H1∧(∀j<k,∀y,xs[j]? =some y→¬q y)∧St H1 w σ) aj ?_ ?_ ?_
 ·exact .mk ⟨rfl,H,HLe.refl H,fun j hj=>by omega,hs⟩
 ·rintro k fr w hk ⟨rfl,H1,hle1,hno,hs⟩
  obtain ⟨x,hx⟩:=nth hk
  refine .block (.ai (.z zm (.z zg (.nil (.ai (.z zm (.z zm (.z zm ?_))))))))
  refine .ixY hs (hR.mono hle1) rfl rfl ad af hx rfl ?_;intro b14 o14 hc14
  refine .q hs (aZ rfl ae hc14) ?_
  refine .o (.ns (first:=[]) (cap:=cap) rfl rfl hc (hp _ _ _ x (List.mem_of_getElem? hx) hle1 hs) ?_);rintro _ w ⟨H2,b16,hle2,rfl,hb16,hs⟩
  refine .nil ?_
  refine (.cond rfl (fun hc16=>?_) (fun hc16=>?_))
  ·refine .ai (.z zm (.z zg (.nil ?_)))
   refine .ret (rB (rT (rB (rT (Fin.bD rm rfl ?_)))))
   exact ⟨H2,_,hle1.trans hle2,rfl,⟨fun _=>⟨x,List.mem_of_getElem? hx,hb16.1 hc16⟩,fun _=>by omega⟩,hs⟩
  ·refine .skip ?_
   refine nB (nT ?_)
   exact .mk ⟨rfl,H2,hle1.trans hle2,eS hno hx (fun h=>by rw [hb16.2 h] at hc16;cases hc16),hs⟩
 ·rintro fr w ⟨rfl,H1,hle1,hno,hs⟩
  refine nT ?_
  refine .ai (.z zg (.nil ?_))
  refine .ret (Fin.bD rm rfl ?_)
  exact ⟨H1,_,hle1,rfl,⟨fun h=>by omega,fun ⟨x,h1,h2⟩=>by
   obtain ⟨j,hj⟩:=List.getElem?_of_mem h1
   exact (hno j (List.getElem?_eq_some_iff.1 hj).1 x hj h2).elim⟩,hs⟩
theorem kD{v:Value}{xs:List Int}{g:Nat}{cap:List Value}(q:Int→Prop)(hs:St H w σ)(hR:RI H v xs)(hc:∀args w,(callFunc g args).run Tryz.prog w= .ok (.enter g args) w)
  (hp:∀H' w σ (n:Int),n∈xs→HLe H H'→St H' w σ→Cl Tryz.prog g ([I n]++cap) w fun u w'=>∃H1 b,HLe H' H1∧u= .bool b∧(b=true↔q n)∧St H1 w' σ):
  Cl Tryz.prog 134 [v,.func (.func g) #[] cap.toArray] w fun u w'=>∃H1 b,HLe H H1∧u= .bool b∧(b=true↔∃x∈xs,q x)∧St H1 w' σ:=by
 refine Cl.o Tryz.func134 Tryz.ntmps134 ag2 ?_
 refine .ai (.z zg (.nil (.ai (.z zm (.z zm ?_)))))
 refine .o (.call Tryz.call206 rfl (lU q hs hR hc hp) ?_);rintro _ w ⟨H1,i,hle1,rfl,hi,hs⟩
 refine .z xQ (.z zg (.nil ?_))
 refine .ret (Fin.bD Tryz.results134 rfl ?_)
 exact ⟨H1,_,hle1,rfl,by simp only [decide_eq_true_eq];exact hi,hs⟩
theorem nV{a0 a1 a2:Int}(hs:St H w σ):Cl Tryz.prog 274 [I a0,I a1,I a2] w fun v w'=>v= .bool (decide (a1≤a0∧a0≤a2))∧St H w' σ:=by
 refine Cl.o Tryz.func274 Tryz.ntmps274 ag3 ?_
 refine .ai (.z zg (.nil (.ai (.z zm (.z zm (.z vA (.z zm ?_)))))))
 refine .j7 (t':=10) rfl (fun hb10=>?_) (fun hb10=>?_)
 ·refine .gT rfl rfl ?_
  refine .z zm ?_
  refine .gT rfl rfl ?_
  refine .z zm ?_
  refine .gT rfl rfl ?_
  refine .z vA (.z zpT (.z zg (.nil ?_)))
  refine .ret (Fin.bD Tryz.results274 rfl ?_)
  exact ⟨by simp [*],hs.out⟩
 ·refine .gFs 3 3 true rfl rfl rfl ?_
  refine .z zpF (.z zg (.nil ?_))
  refine .ret (Fin.bD Tryz.results274 rfl ?_)
  exact ⟨by simp [*],hs.out⟩
theorem gG{v:Value}{l:List Int}{many:Nat}{most:Int}(hs:St H w σ)(hr:RI H v l):
  Cl Tryz.prog 247 [v,I many,I most] w fun v w'=>∃b:Bool,v= .bool b∧(b=true↔gx many most l)∧St H w' σ:=by
 obtain ⟨a,c,rfl⟩:=RI.shape hr
 have hlen:=(RI.len hr).2.2
 refine Cl.o Tryz.func247 Tryz.ntmps247 ag3 ?_
 refine .ai (.z zg (.nil (.seq (.ai (.z zm (.z (cS ad) (.z zm ?_)))))))
 refine .o (.call Tryz.call274 rfl (nV hs) ?_);rintro _ w ⟨rfl,hs⟩
 refine .z iU (.z zm ?_)
 refine .bif (t':=14) rfl (fun hb14=>?_) (fun hb14=>?_)
 ·refine .gFs 4 5 false rfl rfl rfl ?_
  refine .z zpT (.z zm ?_)
  refine .gFs 8 11 false rfl rfl rfl ?_
  refine .z zpT (.nil ?_)
  refine (.cT ?_)
  refine .ai (.z zg (.nil ?_))
  refine .ret (rT (Fin.bD zK rfl ?_))
  exact ⟨false,rfl,⟨fun h=>(by cases h),fun h=>by have:=h.two;have:=h.many;simp at hb14;omega⟩,hs⟩
 ·refine .gT rfl rfl ?_
  refine .z zm ?_
  refine .gT rfl rfl ?_
  have htwo:2≤l.length∧l.length≤many:=by simp at hb14;omega
  refine .ixY hs hr rfl rfl ad af (bL (l:=l) (i:=0) aj) dK ?_;intro b16 o16 hc16
  refine .gT rfl rfl ?_
  refine .q hs (aZ rfl ae hc16) ?_
  refine .gT rfl rfl ?_
  refine .z ik (.z zpF (.z zm ?_))
  refine .j7 (t':=20) rfl (fun hb20=>?_) (fun hb20=>?_)
  ·refine .gFs 8 11 false rfl rfl rfl ?_
   refine .z zpT (.nil ?_)
   refine (.cT ?_)
   refine .ai (.z zg (.nil ?_))
   refine .ret (rT (Fin.bD zK rfl ?_))
   exact ⟨false,rfl,⟨fun h=>(by cases h),fun h=>by have:=h.low;omega⟩,hs⟩
  ·refine .gT rfl rfl ?_
   refine .z zm ?_
   refine .gT rfl rfl ?_
   refine .z zm ?_
   refine .gT rfl rfl ?_
   refine .z (cS ad) ?_
   refine .gT rfl rfl ?_
   refine .z iK ?_
   refine .gT rfl rfl ?_
   refine .ixY hs hr rfl rfl ad af (bL (l:=l) (i:=(l.length - 1)) aj) dK ?_;intro b25 o25 hc25
   refine .gT rfl rfl ?_
   refine .q hs (aZ rfl ae hc25) ?_
   refine .gT rfl rfl ?_
   refine .z zm ?_
   refine .gT rfl rfl ?_
   refine .z qN (.z zpF (.nil ?_))
   refine (.cg rfl (fun hc29=>?_) (fun hc29=>?_))
   ·refine .ai (.z zg (.nil ?_))
    refine .ret (rT (Fin.bD zK rfl ?_))
    exact ⟨false,rfl,⟨fun h=>(by cases h),fun h=>by have:=h.high;omega⟩,hs⟩
   ·refine .skip ?_
    refine nT ?_
    refine .seq (.ai (.z zm ?_))
    refine .q hs (oY (k:=1) rfl rfl ad af aj aj) ?_
    refine .z (cS ad) (.z zm (.nil ?_))
    refine .for (N:=l.length - 1) (J:=fun k fr w=>fr=[(31,.slice (if c=1 then a else a.map (·.add (1*1))) (l.length - 1) (c - 1)),(0,.slice a l.length c)]∧(∀j<k,gi l j<gi l (j+1))∧St H w σ) aj ?_ ?_ ?_
    ·exact .mk ⟨rfl,fun j hj=>by omega,hs⟩
    ·rintro k fr w hk ⟨rfl,hno,hs⟩
     have ht:=hr.tail (k:=1) aj
     have hx:(l.drop 1)[k]? =some (gi l (k+1)):=by rw [List.getElem?_drop,Nat.add_comm];exact bL aj
     refine .block (.ai (.z zm ?_))
     refine .ixY hs ht rfl rfl ad af hx rfl ?_;intro b36 o36 hc36
     refine .q hs (aZ rfl ae hc36) ?_
     refine .z zg (.z zg (.nil (.ai (.z zm (.z zm ?_)))))
     refine .ixY hs hr rfl rfl ad af (bL (l:=l) (i:=k) aj) dK ?_;intro b40 o40 hc40
     refine .q hs (aZ rfl ae hc40) ?_
     refine .z zm (.z xQ (.nil ?_))
     refine (.cg rfl (fun hc43=>?_) (fun hc43=>?_))
     ·refine .ai (.z zg (.nil ?_))
      refine .ret (rB (rT (rB (rT (Fin.bD zK rfl ?_)))))
      exact ⟨false,rfl,⟨fun h=>(by cases h),fun h=>by have:=h.rise k aj;omega⟩,hs⟩
     ·refine .skip ?_
      refine nB (nT ?_)
      exact .mk ⟨rfl,fun j hj=>by
       by_cases e:j=k
       ·subst e;omega
       ·exact hno j aj,hs⟩
    ·rintro fr w ⟨rfl,hno,hs⟩
     refine nT ?_
     refine .ai (.z zg (.nil ?_))
     refine .ret (Fin.bD zK rfl ?_)
     exact ⟨true,rfl,⟨fun _=>⟨aj,aj,aj,aj,fun i hi=>hno i aj⟩,fun _=>rfl⟩,hs⟩
theorem lR{v:Value}{l:List Int}(hs:St H w σ)(hr:RI H v l):
  Cl Tryz.prog 294 [v] w fun v w'=>∃e,v=I e∧((gx 9 100000 l∧e=0)∨(¬gx 9 100000 l∧e≠0))∧St H w' σ:=by
 obtain ⟨a,c,rfl⟩:=RI.shape hr
 refine Cl.o Tryz.func294 Tryz.ntmps294 ag1 ?_
 refine .ai (.z zg (.nil (.seq (.ai (.z zm ?_)))))
 refine .o (.call Tryz.call247 rfl (gG (many:=9) (most:=100000) hs hr) ?_);rintro _ w ⟨b4,rfl,hb4,hs⟩
 refine .z iU (.nil ?_)
 refine (.cond rfl (fun hc5=>?_) (fun hc5=>?_))
 ·refine .ai (.z zg (.nil ?_))
  refine .ret (rT (Fin.bD Tryz.results294 rfl ?_))
  exact ⟨_,rfl,.inr ⟨fun h=>by simp [hb4.2 h] at hc5,by decide⟩,hs⟩
 ·refine .skip ?_
  refine nT ?_
  refine .ai (.z zg (.nil ?_))
  refine .ret (Fin.bD Tryz.results294 rfl ?_)
  exact ⟨_,rfl,.inl ⟨hb4.1 (by simpa using hc5),rfl⟩,hs⟩
theorem gM{a b:Int}(hs:St H w σ)(ha:0<a)(hb:0<b∧b≤100000):
  Cl Tryz.prog 277 [I a,I b] w fun v w'=>v=I (rat a b)∧St H w' σ:=by
 have h1:0≤b.tdiv a:=Int.tdiv_nonneg aj aj
 have h2:b.tdiv a≤b:=by rw [Int.tdiv_eq_ediv_of_nonneg aj];exact Int.ediv_le_self _ aj
 have hw:=iR (m:=b.tdiv a) ⟨aj,aj⟩
 refine Cl.o Tryz.func277 Tryz.ntmps277 ag2 ?_
 refine .ai (.z zg (.nil (.seq (.ai (.z zm (.z zm (.z CS (.z j6 (.z zm ?_)))))))))
 refine .j7 (t':=9) rfl (fun hb9=>?_) (fun hb9=>?_)
 ·refine .gT rfl rfl ?_
  refine .z zm ?_
  refine .gT rfl rfl ?_
  refine .z zm ?_
  refine .gT rfl rfl ?_
  refine .z Es ?_
  refine .gT rfl rfl ?_
  refine .z vA (.z zpT (.nil ?_))
  refine (.cg rfl (fun hc14=>?_) (fun hc14=>?_))
  ·refine .ai (.z zm (.z zm (.z Es (.z zg (.nil ?_)))))
   refine .ret (rT (Fin.bD Tryz.results277 rfl ?_))
   rw [hw] at hc14 ⊢
   exact ⟨by unfold rat;rw [if_pos ⟨by assumption,by assumption⟩],hs⟩
  ·refine .skip ?_
   refine nT ?_
   refine .ai (.z zg (.nil ?_))
   refine .ret (Fin.bD Tryz.results277 rfl ?_)
   rw [hw] at hc14
   exact ⟨by unfold rat;rw [if_neg aj],hs⟩
 ·refine .gFs 4 4 true rfl rfl rfl ?_
  refine .z zpF (.nil ?_)
  refine (.cF ?_)
  refine .skip ?_
  refine nT ?_
  refine .ai (.z zg (.nil ?_))
  refine .ret (Fin.bD Tryz.results277 rfl ?_)
  exact ⟨by unfold rat;rw [if_neg aj],hs⟩
def px(l:List Int):List (List Value):=(uL l).map fun g=>[Value.agg #[I (g.at_:Int),I (g.n:Int)]]
theorem zQ{l:List Int}(hp:gx 9 100000 l){i:Nat}(h:i+2<l.length):fI l i=true↔0<rat (gi l (i+1) - gi l i) (gi l (i+2) - gi l (i+1))∨0<rat (gi l (i+2) - gi l (i+1)) (gi l (i+1) - gi l i):=by
 have h1:=hp.rise i aj
 have h2:gi l (i+1)<gi l (i+2):=hp.rise (i+1) aj
 unfold fI
 rw [zT aj aj]
 simp only [Bool.and_eq_true,decide_eq_true_eq]
 omega
theorem nW{H:bJ}{b:Nat}{v:Value}{l:List Int}(hp:gx 9 100000 l)(hb:Row H b [v])(hr:RI H v l):Iter Tryz.prog 295 [.pointer (some ⟨b,0,none⟩)] H (px l):=by
 intro ly II Ix _ _ hy H0 σb0 σf w hle hI0 hs
 obtain ⟨a,c,rfl⟩:=RI.shape hr
 have hlen:=hp.many
 have hb0:cellAt H0 b 0=some (.slice a l.length c):=cellAt.mono (hb.at 0) hle
 refine Cl.o Tryz.func295 Tryz.ntmps295 ag2 ?_
 refine .ai (.z zg (.nil (.block ?_)))
 refine .loop (fun i:Nat=>⟨59,[],[(3,I (i:Int)),(0,.func (.yield ly) #[] #[]),(1,.pointer (some ⟨b,0,none⟩))]⟩)
  (fun i w=>i≤l.length∧∃j,j≤(uL l).length∧(uL l).drop j=nJ l i∧∃H1 σb,HLe H H1∧HLe H0 H1∧II j H1 σb∧St H1 w (σb++σf)) (fun i=>l.length - i) 0 (.cR rfl bR bA)
  ⟨Nat.zero_le _,0,Nat.zero_le _,rfl,H0,σb0,hle,HLe.refl _,hI0,hs⟩ ?_
 clear hs hI0
 rintro i w ⟨hil,j,hj,hd,H1,σb,hle1,hle0,hI,hs⟩
 have hb1:cellAt H1 b 0=some (.slice a l.length c):=cellAt.mono hb0 hle0
 refine .seq (.ai (.z zm (.z cC (.y hs (zld ak) (.z (cS ad) (.z ik (.nil ?_)))))))
 refine (.cg rfl (fun hc11=>?_) (fun hc11=>?_))
 ·refine .skip ?_
  refine nT ?_
  refine .block (.ai (.z zm (.z (zbd [_,_] u6) ?_)))
  refine .o (.alloc hs Tryz.zeroValue300 rfl fun b4 w hs=>?_)
  refine .o (.aQ (vs:=[_,_]) hs rfl rfl Tryz.sizeOf300 fun w hs=>?_)
  refine .nil ?_
  refine .cut (fun fs w=>mT fs ⟨59,[],[(4,.pointer (some ⟨b4,0,none⟩)),(3,I (i:Int)),(0,.func (.yield ly) #[] #[]),(1,.pointer (some ⟨b,0,none⟩))]⟩∧St H1 w (.blk b4 [I (i:Int),I (((if fI l i then 2 else 1:Nat)):Int)]::(σb++σf))) ?_ ?_
  ·refine .ai (.z zm (.z cC (.y hs (zld ak) (.z (cS ad) (.z ik (.nil ?_))))))
   refine (.cg rfl (fun hc18=>?_) (fun hc18=>?_))
   ·refine .seq (.draw mix rfl hs fun w hs=>?_)
    refine .y 0 rfl hs ak ?_;refine .z 1 rfl zm ?_;refine .z 2 rfl cC ?_
    have r1:=hp.rise i aj
    have r2:gi l (i+1)<gi l (i+2):=hp.rise (i+1) aj
    have hiff:=zQ hp (i:=i) aj
    have q1:=hp.bd (i:=i) aj
    have q2:=hp.bd (i:=i+2) aj
    refine .ixX (enc:=fun x=>[I x]) (i:=3) hs rfl an .none (hr.mono hle1) rfl rfl ad af (bL (l:=l) (i:=(i+1)) aj) dK ?_;intro b22 o22 hc22;replace hc22:=bM.one hc22
    refine .r (i:=4) hs rfl an .none (aZ rfl ae hc22) ?_
    refine .y 5 rfl hs ak ?_;refine .z 6 rfl zm ?_
    refine .ixX (enc:=fun x=>[I x]) (i:=7) hs rfl an .none (hr.mono hle1) rfl rfl ad af (bL (l:=l) (i:=i) aj) dK ?_;intro b26 o26 hc26;replace hc26:=bM.one hc26
    refine .r (i:=8) hs rfl an .none (aZ rfl ae hc26) ?_
    refine .z 9 rfl iK ?_;refine .y 10 rfl hs ak ?_;refine .z 11 rfl zm ?_;refine .z 12 rfl cC ?_
    refine .ixX (enc:=fun x=>[I x]) (i:=13) hs rfl an .none (hr.mono hle1) rfl rfl ad af (bL (l:=l) (i:=(i+2)) aj) dK ?_;intro b32 o32 hc32;replace hc32:=bM.one hc32
    refine .r (i:=14) hs rfl an .none (aZ rfl ae hc32) ?_
    refine .y 15 rfl hs ak ?_;refine .z 16 rfl zm ?_;refine .z 17 rfl cC ?_
    refine .ixX (enc:=fun x=>[I x]) (i:=18) hs rfl an .none (hr.mono hle1) rfl rfl ad af (bL (l:=l) (i:=(i+1)) aj) dK ?_;intro b37 o37 hc37;replace hc37:=bM.one hc37
    refine .r (i:=19) hs rfl an .none (aZ rfl ae hc37) ?_
    refine .z 20 rfl iK ?_;refine .z 21 rfl zg ?_;refine .z 22 rfl zg ?_;refine .D hs ?_
    refine .ai (.z zm (.z zm ?_))
    refine .o (.call Tryz.call277 rfl (gM hs aj aj) ?_);rintro _ w ⟨rfl,hs⟩
    refine .z qN (.z zm ?_)
    refine .j7 (t':=44) rfl (fun hb44=>?_) (fun hb44=>?_)
    ·refine .gFs 4 4 false rfl rfl rfl ?_
     refine .z zpT (.nil ?_)
     refine (.cT ?_)
     refine .region (.z (zfa iX) ?_)
     refine .o (.store hs rfl rfl af fun w hs=>?_)
     refine .nil ?_
     refine nT ?_
     rw [hiff.2 (.inl hb44)];exact ⟨bA,hs⟩
    ·refine .gT rfl rfl ?_
     refine .z zm ?_
     refine .gT rfl rfl ?_
     refine .z zm ?_
     refine .gT rfl rfl ?_
     refine .o (.call Tryz.call277 rfl (gM hs aj aj) ?_);rintro _ w ⟨rfl,hs⟩
     refine .gT rfl rfl ?_
     refine .z qN (.z zpF (.nil ?_))
     refine (.cg rfl (fun hc49=>?_) (fun hc49=>?_))
     ·refine .region (.z (zfa iX) ?_)
      refine .o (.store hs rfl rfl af fun w hs=>?_)
      refine .nil ?_
      refine nT ?_
      rw [hiff.2 (.inr hc49)];exact ⟨bA,hs⟩
     ·refine .skip ?_
      refine nT ?_
      rw [show fI l i=false from Bool.eq_false_iff.2 fun h=>by have:=hiff.1 h;omega];exact ⟨bA,hs⟩
   ·refine .skip ?_
    refine nT ?_
    rw [show fI l i=false by simp [fI];omega];exact ⟨bA,hs⟩
  ·rintro fs w ⟨hfs,hs⟩
   refine WE.sub ?_ hfs
   have hgo:=wu (l:=l) (i:=i) aj
   rw [hgo] at hd
   have hjl:j<(uL l).length:=by
    have:=congrArg List.length hd
    simp at this;omega
   have hgj:(uL l)[j]=⟨i,fI l i⟩:=by
    rw [List.drop_eq_getElem_cons hjl] at hd
    exact (List.cons.inj hd).1
   have hdj:(uL l).drop (j+1)=nJ l (i+(if fI l i then 2 else 1)):=by
    rw [List.drop_eq_getElem_cons hjl] at hd
    exact (List.cons.inj hd).2
   have hn12:(if fI l i then 2 else 1:Nat)=1∨(if fI l i then 2 else 1:Nat)=2:=by split<;>simp
   refine .seq (.ai (.z zm (.y hs (zls [_,_] Tryz.isAgg300 Tryz.sizeOf300) ?_)))
   have hk':j<(px l).length:=by simpa [px] using hjl
   have hyd:=hy j hk' H1 σb (.blk b4 [I (i:Int),I (((if fI l i then 2 else 1:Nat)):Int)]::σf) w hle1 hI (St.deep hs)
   rw [show (px l)[j]=[Value.agg #[I (i:Int),I (((if fI l i then 2 else 1:Nat)):Int)]] by simp only [px,List.getElem_map,hgj];rfl] at hyd
   refine .o (.yield rfl rfl hyd ?_);rintro v53 w ⟨H2,σ2,g1,hs,g3⟩
   obtain ⟨bb,rfl,gT,gF⟩:=nR g3
   replace hs:=St.shallow hs
   refine .z iU (.nil ?_)
   refine (.cond rfl (fun hc54=>?_) (fun hc54=>?_))
   ·refine .ret (rT (rB (rT (rB (Fin.Ez Tryz.results295 ?_)))))
    exact ⟨H2,σ2,hle0.trans g1,hs.tail,.inr (gF (by simpa using hc54))⟩
   ·refine .skip ?_
    refine nT ?_
    refine .region (.z zm (.z (zfa iX) (.y hs (zld ae) (.z cC (.z zg (.nil ?_))))))
    refine nB (nT ?_)
    generalize (if fI l i then 2 else 1:Nat)=n at*
    exact ⟨i+n,.cR rfl bR bA,⟨aj,j+1,hjl,hdj,H2,σ2,hle1.trans g1,hle0.trans g1,gT (by simpa using hc54),hs.tail⟩,aj⟩
 ·refine .exit ?_
  refine xT (xT (xB ?_))
  rw [tL aj] at hd
  have:(uL l).length≤j:=by simpa using hd
  obtain rfl:j=(uL l).length:=by omega
  exact Fin.wW Tryz.results295 ⟨H1,σb,hle0,hs,.inl (by simpa [px] using hI)⟩
theorem pZ{v:Value}{l:List Int}(hs:St H w σ)(hr:RI H v l)(hp:gx 9 100000 l):
  Cl Tryz.prog 276 [v] w fun u w'=>∃H1 b,HLe H H1∧u= .func (.func 295) #[] #[.pointer (some ⟨b,0,none⟩)]∧Iter Tryz.prog 295 [.pointer (some ⟨b,0,none⟩)] H1 (px l)∧St H1 w' σ:=by
 obtain ⟨a,c,rfl⟩:=RI.shape hr
 refine Cl.o Tryz.func276 Tryz.ntmps276 ag1 ?_
 refine .ai ?_
 refine .bx hs fun b1 w hs=>?_
 refine .z zg (.nil (.ai ?_))
 refine .q hs (da (f:=[]) (c:=[_]) rfl rfl) ?_
 refine .z zg (.nil ?_)
 refine .ret (Fin.bD Tryz.results276 rfl ?_)
 obtain ⟨H1,g1,g2,hs⟩:=hs.bX .here
 exact ⟨H1,b1,g1,rfl,nW hp g2 (hr.mono g1),hs⟩
theorem nG{bs bW from_ n:Nat}{W xs:List Int}{v:Value}(hs:St H w (.blk bs [.slice (some ⟨bW,0,none⟩) n n]:: .blk bW (Is W)::σ))(hW:W.length=n)(hr:RI H v xs)(hl:from_+xs.length≤n)(hn:n≤9)
  (hz:bC W n≤1000000000) (ha:tR xs≤1000000000):
  Cl Tryz.prog 275 [.pointer (some ⟨bs,0,none⟩),I (from_:Int),v] w fun _ w'=>St H w' (.blk bs [.slice (some ⟨bW,0,none⟩) n n]:: .blk bW (Is (kI W from_ xs))::σ):=by
 obtain ⟨a,c,rfl⟩:=RI.shape hr
 have hlen:=(RI.len hr).2.2
 refine Cl.o Tryz.func275 Tryz.ntmps275 ag3 ?_
 refine .ai (.z zm (.z (cS ad) (.z zm (.nil ?_))))
 refine .for (N:=xs.length) (J:=fun k fr w=>fr=[(8,.slice a xs.length c),(0,.pointer (some ⟨bs,0,none⟩)),(1,I (from_:Int))]∧St H w (.blk bs [.slice (some ⟨bW,0,none⟩) n n]:: .blk bW (Is (kI W from_ (xs.take k)))::σ)) aj ?_ ?_ ?_
 ·exact .mk ⟨rfl,hs⟩
 ·rintro k fr w hk ⟨rfl,hs⟩
  have hal:=mQ (xs.take k) W from_
  have hsz:=oE (xs.take k) W from_ (by rw [List.length_take];omega)
  rw [hW] at hsz
  have h1:=wK xs k
  have h2:=Bd xs k
  have h3:=lj (kI W from_ (xs.take k)) (v:=from_+k) (n:=n) aj
  have h4:=zC hk W from_
  refine .block (.ai (.z zm ?_))
  refine .ixY hs hr rfl rfl ad af (bL (l:=xs) (i:=k) aj) dK ?_;intro b13 o13 hc13
  refine .q hs (aZ rfl ae hc13) ?_
  refine .z zg (.z zg (.nil (.region (.z zm (.z znc (.z (zfa nK) (.y hs (zld ak) (.z zm (.z zm ?_)))))))))
  refine .z cC ?_
  refine .q hs (ij (k:=from_+k) rfl rfl ad af aj aj) ?_
  refine .y hs (zld ae) (.z zm (.z cC ?_))
  refine .q hs (ij (k:=from_+k) rfl rfl ad af aj aj) ?_
  refine .o (.store hs rfl rfl af fun w hs=>?_)
  refine .nil ?_
  refine nB (nT ?_)
  exact .mk ⟨rfl,by rw [h4];exact hs⟩
 ·rintro fr w ⟨rfl,hs⟩
  rw [List.take_length] at hs
  exact Fin.wW Tryz.results275 hs
theorem zo{a b:Int}(ha:0<a∧a≤100000)(hb:0<b∧b≤100000):0≤min a b∧min a b≤100000:=by omega
theorem Du{a b:Int}(h:0<tms a b):tms a b=1∨tms a b=2∨tms a b=3:=by have:=CW a b;omega
set_option maxHeartbeats 1000000 in
theorem im{v:Value}{l:List Int}(hs:St H w σ)(hr:RI H v l)(hp:gx 9 100000 l):
  Cl Tryz.prog 248 [v] w fun u w'=>∃H1,HLe H H1∧RI H1 u (wts l)∧St H1 w' σ:=by
 obtain ⟨a,c,rfl⟩:=RI.shape hr
 have hln:=hp.many
 have hgl:(uL l).length≤9:=by have:=qG l l.length 0;unfold uL;omega
 refine Cl.o Tryz.func248 Tryz.ntmps248 ag1 ?_
 refine .ai ?_
 refine .bx hs fun b1 w hs=>?_
 refine .z zg (.nil (.ai (.y hs (zld ak) (.z (cS ad) ?_))))
 refine .o (.so l.length hs rfl rfl ad eM rfl af bE aj fun b13 w hs=>?_)
 refine .z (zbd [_] u5) ?_
 refine .o (.alloc hs Tryz.zeroValue294 rfl fun b3 w hs=>?_)
 refine .o (.aQ (vs:=[_]) hs rfl rfl Tryz.sizeOf294 fun w hs=>?_)
 refine .nil (.ai ?_)
 refine .q hs (da (f:=[_]) (c:=[]) rfl rfl) ?_
 refine .o (.alloc hs Tryz.zeroValue295 rfl fun b4 w hs=>?_)
 refine .o (.store hs rfl rfl Tryz.sizeOf295 fun w hs=>?_)
 refine .nil (.seq (.ai (.y hs (zld ak) ?_)))
 refine .o (.call Tryz.call276 rfl (pZ hs hr hp) ?_);rintro _ w ⟨H1,b17,hle1,rfl,hit,hs⟩
 refine .nil (.block ?_)
 refine .rangeFunc (gf:=295) (cap:=[.pointer (some ⟨b17,0,none⟩)]) (xs:=px l) (σb:=[.blk b3 [.slice (some ⟨b13,0,none⟩) l.length l.length],.blk b13 (Is (wT l 0)),.blk b4 [.func (.func 275) #[.pointer (some ⟨b3,0,none⟩)] #[]],.blk b1 [.slice a l.length c]]) (σf:=σ) (hs.sb) trivial rfl hit Tryz.call295 (fun x hx=>by
   simp only [px,List.mem_map] at hx
   obtain ⟨j,_,rfl⟩:=hx;rfl) rfl
  (I:=fun j H' σb=>σb=[.blk b3 [.slice (some ⟨b13,0,none⟩) l.length l.length],.blk b13 (Is (wT l j)),.blk b4 [.func (.func 275) #[.pointer (some ⟨b3,0,none⟩)] #[]],.blk b1 [.slice a l.length c]]) (Ix:=fun _ _ _=>False)
  (fun j _ _ σ g1 g2=>g2) (fun _ _ _ _ _ h=>h) rfl ?_ ?_ (fun D c H' σb w _ h _=>h.elim)
 ·rintro ly j hj H2 σb2 σf2 w hle2 rfl hs ⟨rr,hrr⟩
  have hjl:j<(uL l).length:=by simpa [px] using hj
  obtain ⟨g,hg⟩:=nth hjl
  rw [show (px l)[j]=[Value.agg #[I (g.at_:Int),I (g.n:Int)]] by
   rw [List.getElem?_eq_getElem hjl] at hg
   simp only [px,List.getElem_map,Option.some.inj hg]]
  obtain ⟨i1,i2,i3,i4,i5⟩:=wv hp (List.mem_of_getElem? hg)
  have hK:=vI hg
  have hKl:=nS l j
  have hKz:=tj hp j aj
  have hr2:=hr.mono (hle1.trans hle2)
  have hq0:=hp.bd (i:=g.at_) aj
  have hq1:=hp.bd (i:=g.at_+1) aj
  generalize hA:gi l (g.at_+1) - gi l g.at_=A at*
  refine .region ?_
  refine .o (.alloc hs Tryz.zeroValue300 rfl fun b5 w hs=>?_)
  refine .o (.aQ (vs:=[_,_]) hs rfl rfl Tryz.sizeOf300 fun w hs=>?_)
  refine .nil ?_
  refine nT ?_
  refine ⟨H2,[.blk b5 [I (g.at_:Int),I (g.n:Int)],.blk b3 [.slice (some ⟨b13,0,none⟩) l.length l.length],.blk b13 (Is (wT l j)),.blk b4 [.func (.func 275) #[.pointer (some ⟨b3,0,none⟩)] #[]],.blk b1 [.slice a l.length c]],HLe.refl _,hs,?_⟩;rintro w σf4 - hs
  refine .block ?_
  refine .seq (.draw mix rfl hs fun w hs=>?_)
  refine .y 0 rfl hs ak ?_;refine .z 1 rfl (zfa fM) ?_;refine .y 2 rfl hs ae ?_;refine .z 3 rfl cC ?_
  refine .ixX (enc:=fun x=>[I x]) (i:=4) hs rfl an .none hr2 rfl rfl ad af (bL (l:=l) (i:=(g.at_+1)) aj) dK ?_;intro b23 o23 hc23;replace hc23:=bM.one hc23
  refine .r (i:=5) hs rfl an .none (aZ rfl ae hc23) ?_
  refine .y 6 rfl hs ak ?_;refine .z 7 rfl (zfa fM) ?_;refine .y 8 rfl hs ae ?_
  refine .ixX (enc:=fun x=>[I x]) (i:=9) hs rfl an .none hr2 rfl rfl ad af (bL (l:=l) (i:=g.at_) aj) dK ?_;intro b28 o28 hc28;replace hc28:=bM.one hc28
  refine .r (i:=10) hs rfl an .none (aZ rfl ae hc28) ?_
  refine .z 11 rfl iK ?_
  rw [hA]
  refine .z 12 rfl zg ?_;refine .D hs ?_
  refine .seq (.ai (.z (zfa iX) (.y hs (zld ae) (.z j6 ?_))))
  skip
  refine .nil ?_
  refine (.cg rfl (fun hc33=>?_) (fun hc33=>?_))
  ·refine .ai ?_
   refine .y hs (zld Tryz.isAgg295) ?_
   refine .z (zfa fM) (.y hs (zld ae) (.z zm (.z lG (.z zm (.z lG ?_)))))
   refine .o (.buildSlice (cells:=[_,_]) hs ie rfl rfl fun b41 w hs=>?_)
   have h2:g.two=false:=by
    cases e:g.two with
    |false=>rfl
    |true=>simp [Grp.n,e] at hc33
   obtain ⟨H3,hle3,r41,hs⟩:=bQ.dj (xs:=[18*A,18*A]) (v:= .slice (some ⟨b41,0,none⟩) 2 2) (.full (len:=2) rfl) bR hs dJ
   have hgw:=Cx h2 hA
   rw [hgw] at hK i5
   replace hs:St H3 w (.blk b3 [.slice (some ⟨b13,0,none⟩) l.length l.length]:: .blk b13 (Is (wT l j)):: .blk b5 [I (g.at_:Int),I (g.n:Int)]:: .blk b4 [.func (.func 275) #[.pointer (some ⟨b3,0,none⟩)] #[]]:: .blk b1 [.slice a l.length c]::σf4):=hs.sb
   refine .o (.ns (first:=[.pointer (some ⟨b3,0,none⟩)]) (cap:=[]) rfl rfl Tryz.call275 (nG (from_:=g.at_) (xs:=[18*A,18*A]) hs hKl r41 (by simp;omega) aj aj aj) ?_);rintro _ w hs
   rw [←hK] at hs
   refine .nil ?_
   refine .exit ?_
   refine xT (xB ?_)
   exact ⟨H3,_,hle3,(hs.sb:St H3 w (.blk b3 _:: .blk b13 _:: .blk b4 _:: .blk b1 _::σf4)),rfl⟩
  ·refine .skip ?_
   refine nT ?_
   refine .seq (.draw mix rfl hs fun w hs=>?_)
   have h2:g.two=true:=by
    cases e:g.two with
    |true=>rfl
    |false=>simp [Grp.n,e] at hc33
   obtain ⟨j1,j2,j3,j4⟩:=i4 h2
   have hq2:=hp.bd (i:=g.at_+2) aj
   generalize hB:gi l (g.at_+2) - gi l (g.at_+1)=B at*
   have hmx:=zT (a:=A) (b:=B) aj aj
   have hk:=Du j4
   have hmm:=zo (a:=A) (b:=B) ⟨aj,aj⟩ ⟨aj,aj⟩
   obtain ⟨n1,n2,n3,n4⟩:=Cv hk hmm.1 hmm.2
   obtain ⟨n5,n6,n7,n8,n9⟩:=n4 _ n3.1 n3.2
   generalize hT:tms A B=T at*
   generalize hM:min A B=M at*
   have hgw:=Cw h2 hA hB hT hM
   refine .y 0 rfl hs ak ?_;refine .z 1 rfl (zfa fM) ?_;refine .y 2 rfl hs ae ?_;refine .z 3 rfl cC ?_
   refine .ixX (enc:=fun x=>[I x]) (i:=4) hs rfl an .none hr2 rfl rfl ad af (bL (l:=l) (i:=(g.at_+2)) aj) dK ?_;intro b47 o47 hc47;replace hc47:=bM.one hc47
   refine .r (i:=5) hs rfl an .none (aZ rfl ae hc47) ?_
   refine .y 6 rfl hs ak ?_;refine .z 7 rfl (zfa fM) ?_;refine .y 8 rfl hs ae ?_;refine .z 9 rfl cC ?_
   refine .ixX (enc:=fun x=>[I x]) (i:=10) hs rfl an .none hr2 rfl rfl ad af (bL (l:=l) (i:=(g.at_+1)) aj) dK ?_;intro b53 o53 hc53;replace hc53:=bM.one hc53
   refine .r (i:=11) hs rfl an .none (aZ rfl ae hc53) ?_
   refine .z 12 rfl iK ?_
   rw [hB]
   refine .z 13 rfl zg ?_;refine .D hs ?_
   refine .ai (.z zm (.z zm ?_))
   refine .o (.call Tryz.call277 rfl (gM hs aj aj) ?_);rintro _ w ⟨rfl,hs⟩
   refine .z zm (.z zm ?_)
   refine .o (.call Tryz.call277 rfl (gM hs aj aj) ?_);rintro _ w ⟨rfl,hs⟩
   refine .z Di ?_
   rw [←hmx]
   refine .z zg (.nil (.ai (.z zm ?_)))
   refine .q hs (xZ rfl rfl aj aj) ?_
   refine .z zm (.z cC (.z lG (.z zm (.z zm (.z Bv ?_)))))
   rw [hM]
   refine .z lG (.z zg (.nil (.ai (.z zm (.z zm (.z lG (.z zm (.z iK (.z lG ?_)))))))))
   refine .z zm (.z zm (.z cC (.z lG (.z zm (.z cC (.z lG (.z zm (.z zm (.z lG ?_)))))))))
   refine .z iK (.z lG ?_)
   refine .o (.buildSlice (cells:=[_,_,_]) hs wH rfl rfl fun b90 w hs=>?_)
   refine .z zg (.nil ?_)
   refine .cut (fun fs w=>∃H3,mT fs ⟨103,[],[(10,.slice (some ⟨b90,0,none⟩) 3 3),(5,.pointer (some ⟨b5,0,none⟩)),(4,.pointer (some ⟨b4,0,none⟩)),(3,.pointer (some ⟨b3,0,none⟩)),(1,.pointer (some ⟨b1,0,none⟩))]⟩∧HLe H2 H3∧RI H3 (.slice (some ⟨b90,0,none⟩) 3 3) (tM l g)∧St H3 w (.blk b3 [.slice (some ⟨b13,0,none⟩) l.length l.length]:: .blk b13 (Is (wT l j)):: .blk b5 [I (g.at_:Int),I (g.n:Int)]:: .blk b4 [.func (.func 275) #[.pointer (some ⟨b3,0,none⟩)] #[]]:: .blk b1 [.slice a l.length c]::σf4)) ?_ ?_
   ·refine .ai (.z zm (.z zm (.z qN (.nil ?_))))
    refine (.cg rfl (fun hc93=>?_) (fun hc93=>?_))
    ·refine .region (.z zm ?_)
     refine .o (.call Tryz.call128 rfl (ki (en:= .blk b90 (Is [(6:Int).tdiv T*(1+T)*M*T*(2 - T),(6:Int).tdiv T*(1+T)*M*(1+T)*(1+T),(6:Int).tdiv T*(1+T)*M*(2*T - 1)])) (hs.sb:St H2 w (.blk b90 _:: .blk b3 _:: .blk b13 _:: .blk b5 _:: .blk b4 _:: .blk b1 _::σf4)) (.full rfl) bR) ?_);rintro _ w ⟨en95,hO95,hs⟩
     refine .nil ?_
     refine nT ?_
     obtain ⟨H3,hle3,r90,hs⟩:=bQ.dj hO95 bR hs .here
     rw [if_pos hc93] at hgw
     rw [hgw]
     exact ⟨H3,bA,hle3,r90,hs⟩
    ·refine .skip ?_
     refine nT ?_
     obtain ⟨H3,hle3,r90,hs⟩:=bQ.dj (xs:=[(6:Int).tdiv T*(1+T)*M*T*(2 - T),(6:Int).tdiv T*(1+T)*M*(1+T)*(1+T),(6:Int).tdiv T*(1+T)*M*(2*T - 1)]) (v:= .slice (some ⟨b90,0,none⟩) 3 3) (.full (len:=3) rfl) bR hs dJ
     rw [if_neg aj] at hgw
     rw [hgw]
     exact ⟨H3,bA,hle3,r90,hs.sb⟩
   ·rintro fs w ⟨H3,hfs,hle3,r90,hs⟩
    refine WE.sub ?_ hfs
    refine .region ?_
    refine .y hs (zld Tryz.isAgg295) ?_
    refine .z (zfa fM) (.y hs (zld ae) (.z zm ?_))
    refine .o (.ns (first:=[.pointer (some ⟨b3,0,none⟩)]) (cap:=[]) rfl rfl Tryz.call275 (nG (from_:=g.at_) (xs:=tM l g) hs hKl r90 (by rw [yq,show g.n=2 by unfold Grp.n;rw [h2];rfl];omega) aj aj aj) ?_);rintro _ w hs
    rw [←hK] at hs
    refine .nil ?_
    refine nB ?_
    exact ⟨H3,_,hle3,(hs.sb:St H3 w (.blk b3 _:: .blk b13 _:: .blk b4 _:: .blk b1 _::σf4)),rfl⟩
 ·rintro D H2 σb2 w hle2 rfl hs
  rw [show (px l).length=(uL l).length by simp [px],Bz] at hs
  replace hs:St H2 w (.obj D (.deferred (some [])):: .blk b3 [.slice (some ⟨b13,0,none⟩) l.length l.length]:: .blk b13 (Is (wts l)):: .blk b4 [.func (.func 275) #[.pointer (some ⟨b3,0,none⟩)] #[]]:: .blk b1 [.slice a l.length c]::σ):=hs
  refine nB (nT ?_)
  refine .ai (.z (zfa nK) (.y hs (zld ak) (.z zg (.nil ?_))))
  refine .ret ?_
  obtain ⟨H3,hle3,hR,hs⟩:=bQ.dj (xs:=wts l) (v:= .slice (some ⟨b13,0,none⟩) l.length l.length) (.full (by simp [Is,hZ])) (by rw [hZ];omega) hs dJ
  exact Fin.gV [D] [] hs fun w hs=>⟨_,results1 Tryz.results248 rfl,H3,hle1.trans (hle2.trans hle3),hR,hs.out⟩
end Go.Proofs.YtddaejgfjlneoaaGreat
