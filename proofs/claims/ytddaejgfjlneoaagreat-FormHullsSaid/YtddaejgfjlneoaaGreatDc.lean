/-
  Texts of these claims, joined: Opn Opb Opv Opm Opy Cls Fct Wa Wb Wc Wd We Wf Wg Wp Wt Wu Wv Wx Wy Xf Xi Xj Xn Srt Yc Yd.
-/
import Derived.Test.YtddaejgfjlneoaaGreatDb
import Derived.Test.YtddaejgfjlneoaaGreatProg
import Derived.KernelRfl
import Derived.JoinedOf
import Derived.Shelf.Sort.Plain
import Derived.Shelf.Slices.CompactI
import Derived.Shelf.Slices.In.SortNone
import Derived.Lib.RowBridge
namespace Go.Proofs.YtddaejgfjlneoaaGreat
theorem gz:type_of% @Tryz.call100:=@Tryz.call100
theorem A4:type_of% @Tryz.call103:=@Tryz.call103
theorem dF:type_of% @Tryz.call105:=@Tryz.call105
theorem Hi:type_of% @Tryz.call114:=@Tryz.call114
theorem uN:type_of% @Tryz.call115:=@Tryz.call115
theorem fL:type_of% @Tryz.call121:=@Tryz.call121
theorem Hh:type_of% @Tryz.call138:=@Tryz.call138
theorem Hg:type_of% @Tryz.call139:=@Tryz.call139
theorem Hf:type_of% @Tryz.call146:=@Tryz.call146
theorem A3:type_of% @Tryz.call161:=@Tryz.call161
theorem A2:type_of% @Tryz.call190:=@Tryz.call190
theorem A1:type_of% @Tryz.call221:=@Tryz.call221
theorem di:type_of% @Tryz.call31:=@Tryz.call31
theorem jQ:type_of% @Tryz.call42:=@Tryz.call42
theorem sf:type_of% @Tryz.call43:=@Tryz.call43
theorem eK:type_of% @Tryz.call83:=@Tryz.call83
theorem se:type_of% @Tryz.call92:=@Tryz.call92
theorem xt:type_of% @Tryz.call93:=@Tryz.call93
theorem lg:type_of% @Tryz.call94:=@Tryz.call94
theorem m7:type_of% @Tryz.call97:=@Tryz.call97
theorem kq:type_of% @Tryz.isAgg108:=@Tryz.isAgg108
theorem yz:type_of% @Tryz.isAgg140:=@Tryz.isAgg140
theorem dS:type_of% @Tryz.isAgg160:=@Tryz.isAgg160
theorem qZ:type_of% @Tryz.isAgg170:=@Tryz.isAgg170
theorem fJ:type_of% @Tryz.isAgg182:=@Tryz.isAgg182
theorem ic:type_of% @Tryz.isAgg189:=@Tryz.isAgg189
theorem qY:type_of% @Tryz.isAgg211:=@Tryz.isAgg211
theorem an:type_of% @Tryz.isAgg22:=@Tryz.isAgg22
theorem qX:type_of% @Tryz.isAgg236:=@Tryz.isAgg236
theorem He:type_of% @Tryz.isAgg27:=@Tryz.isAgg27
theorem dP:type_of% @Tryz.isAgg29:=@Tryz.isAgg29
theorem af:type_of% @Tryz.isAgg3:=@Tryz.isAgg3
theorem aF:type_of% @Tryz.isAgg34:=@Tryz.isAgg34
theorem aU:type_of% @Tryz.isAgg35:=@Tryz.isAgg35
theorem cB:type_of% @Tryz.isAgg36:=@Tryz.isAgg36
theorem aD:type_of% @Tryz.isAgg38:=@Tryz.isAgg38
theorem sd:type_of% @Tryz.isAgg4:=@Tryz.isAgg4
theorem cI:type_of% @Tryz.isAgg44:=@Tryz.isAgg44
theorem da:type_of% @Tryz.isAgg49:=@Tryz.isAgg49
theorem G9:type_of% @Tryz.isAgg51:=@Tryz.isAgg51
theorem eg:type_of% @Tryz.isAgg61:=@Tryz.isAgg61
theorem dw:type_of% @Tryz.isAgg63:=@Tryz.isAgg63
theorem bT:type_of% @Tryz.isAgg68:=@Tryz.isAgg68
theorem bp:type_of% @Tryz.isAgg70:=@Tryz.isAgg70
theorem bZ:type_of% @Tryz.isAgg80:=@Tryz.isAgg80
theorem mP:type_of% @Tryz.results107:=@Tryz.results107
theorem sY:type_of% @Tryz.results108:=@Tryz.results108
theorem mO:type_of% @Tryz.results109:=@Tryz.results109
theorem kh:type_of% @Tryz.results110:=@Tryz.results110
theorem gN:type_of% @Tryz.results112:=@Tryz.results112
theorem mN:type_of% @Tryz.results140:=@Tryz.results140
theorem sX:type_of% @Tryz.results168:=@Tryz.results168
theorem A7:type_of% @Tryz.results202:=@Tryz.results202
theorem sW:type_of% @Tryz.results206:=@Tryz.results206
theorem iC:type_of% @Tryz.results22:=@Tryz.results22
theorem mM:type_of% @Tryz.results232:=@Tryz.results232
theorem jz:type_of% @Tryz.results24:=@Tryz.results24
theorem A6:type_of% @Tryz.results247:=@Tryz.results247
theorem vz:type_of% @Tryz.results41:=@Tryz.results41
theorem ld:type_of% @Tryz.results42:=@Tryz.results42
theorem k9:type_of% @Tryz.results43:=@Tryz.results43
theorem oN:type_of% @Tryz.results46:=@Tryz.results46
theorem oM:type_of% @Tryz.results47:=@Tryz.results47
theorem Ek:type_of% @Tryz.results64:=@Tryz.results64
theorem vv:type_of% @Tryz.results76:=@Tryz.results76
theorem iG:type_of% @Tryz.runUnderlying106:=@Tryz.runUnderlying106
theorem fZ:type_of% @Tryz.runUnderlying108:=@Tryz.runUnderlying108
theorem CH:type_of% @Tryz.runUnderlying140:=@Tryz.runUnderlying140
theorem CG:type_of% @Tryz.runUnderlying158:=@Tryz.runUnderlying158
theorem iF:type_of% @Tryz.runUnderlying160:=@Tryz.runUnderlying160
theorem CF:type_of% @Tryz.runUnderlying172:=@Tryz.runUnderlying172
theorem aK:type_of% @Tryz.runUnderlying182:=@Tryz.runUnderlying182
theorem pQ:type_of% @Tryz.runUnderlying189:=@Tryz.runUnderlying189
theorem pP:type_of% @Tryz.runUnderlying199:=@Tryz.runUnderlying199
theorem ae:type_of% @Tryz.runUnderlying22:=@Tryz.runUnderlying22
theorem CE:type_of% @Tryz.runUnderlying231:=@Tryz.runUnderlying231
theorem e9:type_of% @Tryz.runUnderlying233:=@Tryz.runUnderlying233
theorem aW:type_of% @Tryz.runUnderlying25:=@Tryz.runUnderlying25
theorem eZ:type_of% @Tryz.runUnderlying250:=@Tryz.runUnderlying250
theorem CD:type_of% @Tryz.runUnderlying259:=@Tryz.runUnderlying259
theorem sc:type_of% @Tryz.runUnderlying27:=@Tryz.runUnderlying27
theorem Ej:type_of% @Tryz.runUnderlying29:=@Tryz.runUnderlying29
theorem aV:type_of% @Tryz.runUnderlying3:=@Tryz.runUnderlying3
theorem kC:type_of% @Tryz.runUnderlying302:=@Tryz.runUnderlying302
theorem dE:type_of% @Tryz.runUnderlying310:=@Tryz.runUnderlying310
theorem Ei:type_of% @Tryz.runUnderlying32:=@Tryz.runUnderlying32
theorem k8:type_of% @Tryz.runUnderlying34:=@Tryz.runUnderlying34
theorem aA:type_of% @Tryz.runUnderlying35:=@Tryz.runUnderlying35
theorem aN:type_of% @Tryz.runUnderlying36:=@Tryz.runUnderlying36
theorem Eh:type_of% @Tryz.runUnderlying38:=@Tryz.runUnderlying38
theorem je:type_of% @Tryz.runUnderlying44:=@Tryz.runUnderlying44
theorem fu:type_of% @Tryz.runUnderlying49:=@Tryz.runUnderlying49
theorem aT:type_of% @Tryz.runUnderlying51:=@Tryz.runUnderlying51
theorem au:type_of% @Tryz.runUnderlying61:=@Tryz.runUnderlying61
theorem aH:type_of% @Tryz.runUnderlying68:=@Tryz.runUnderlying68
theorem ft:type_of% @Tryz.runUnderlying80:=@Tryz.runUnderlying80
theorem jd:type_of% @Tryz.runUnderlying90:=@Tryz.runUnderlying90
theorem k7:type_of% @Tryz.runUnderlying94:=@Tryz.runUnderlying94
theorem vu:type_of% @Tryz.sizeOf106:=@Tryz.sizeOf106
theorem bB:type_of% @Tryz.sizeOf108:=@Tryz.sizeOf108
theorem fb:type_of% @Tryz.sizeOf140:=@Tryz.sizeOf140
theorem oL:type_of% @Tryz.sizeOf158:=@Tryz.sizeOf158
theorem aQ:type_of% @Tryz.sizeOf160:=@Tryz.sizeOf160
theorem vq:type_of% @Tryz.sizeOf182:=@Tryz.sizeOf182
theorem aP:type_of% @Tryz.sizeOf189:=@Tryz.sizeOf189
theorem aC:type_of% @Tryz.sizeOf22:=@Tryz.sizeOf22
theorem kZ:type_of% @Tryz.sizeOf236:=@Tryz.sizeOf236
theorem FG:type_of% @Tryz.sizeOf27:=@Tryz.sizeOf27
theorem bV:type_of% @Tryz.sizeOf29:=@Tryz.sizeOf29
theorem ai:type_of% @Tryz.sizeOf3:=@Tryz.sizeOf3
theorem oK:type_of% @Tryz.sizeOf300:=@Tryz.sizeOf300
theorem dq:type_of% @Tryz.sizeOf315:=@Tryz.sizeOf315
theorem FE:type_of% @Tryz.sizeOf32:=@Tryz.sizeOf32
theorem aB:type_of% @Tryz.sizeOf34:=@Tryz.sizeOf34
theorem ib:type_of% @Tryz.sizeOf35:=@Tryz.sizeOf35
theorem FD:type_of% @Tryz.sizeOf36:=@Tryz.sizeOf36
theorem az:type_of% @Tryz.sizeOf38:=@Tryz.sizeOf38
theorem lN:type_of% @Tryz.sizeOf4:=@Tryz.sizeOf4
theorem aR:type_of% @Tryz.sizeOf44:=@Tryz.sizeOf44
theorem bn:type_of% @Tryz.sizeOf49:=@Tryz.sizeOf49
theorem cM:type_of% @Tryz.sizeOf63:=@Tryz.sizeOf63
theorem ji:type_of% @Tryz.sizeOf68:=@Tryz.sizeOf68
theorem aM:type_of% @Tryz.sizeOf70:=@Tryz.sizeOf70
theorem aE:type_of% @Tryz.sizeOf80:=@Tryz.sizeOf80
theorem zu:type_of% @Tryz.typeInfo189:=@Tryz.typeInfo189
theorem dW:type_of% @Tryz.typeInfo3:=@Tryz.typeInfo3
theorem kH:type_of% @Tryz.underlying27:=@Tryz.underlying27
theorem iA:type_of% @Tryz.underlying3:=@Tryz.underlying3
theorem zt:type_of% @Tryz.underlying4:=@Tryz.underlying4
theorem kG:type_of% @Tryz.zeroValue108:=@Tryz.zeroValue108
theorem xr:type_of% @Tryz.zeroValue140:=@Tryz.zeroValue140
theorem kF:type_of% @Tryz.zeroValue158:=@Tryz.zeroValue158
theorem eG:type_of% @Tryz.zeroValue160:=@Tryz.zeroValue160
theorem eF:type_of% @Tryz.zeroValue189:=@Tryz.zeroValue189
theorem dV:type_of% @Tryz.zeroValue22:=@Tryz.zeroValue22
theorem G8:type_of% @Tryz.zeroValue231:=@Tryz.zeroValue231
theorem bO:type_of% @Tryz.zeroValue3:=@Tryz.zeroValue3
theorem xq:type_of% @Tryz.zeroValue300:=@Tryz.zeroValue300
theorem G7:type_of% @Tryz.zeroValue315:=@Tryz.zeroValue315
theorem gh:type_of% @Tryz.zeroValue34:=@Tryz.zeroValue34
theorem ck:type_of% @Tryz.zeroValue38:=@Tryz.zeroValue38
theorem eQ:type_of% @Tryz.zeroValue44:=@Tryz.zeroValue44
theorem jy:type_of% @Tryz.zeroValue49:=@Tryz.zeroValue49
theorem dd:type_of% @Tryz.zeroValue70:=@Tryz.zeroValue70
theorem eE:type_of% @Tryz.zeroValue80:=@Tryz.zeroValue80
end Go.Proofs.YtddaejgfjlneoaaGreat
namespace Go.Proofs.YtddaejgfjlneoaaGreat
open Go.MW Go.ChangeShapes Go.WideShapes
set_option maxRecDepth 100000
theorem zi:Tryz.prog.cellsOf 3=1:=by kernel_rfl
theorem Cr:Tryz.prog.cellsOf 22=1:=by kernel_rfl
theorem GY:Tryz.prog.bytesOf 3=8:=by kernel_rfl
theorem Dh:reachBytes=140737488351232:=rfl
section
variable{H:Type}{enc:TypeId×Value→H}{w:World}{sp:Nat→Bool}{held:Bool}{n:Nat}{cs:List Value}{y:DataW H×List MemPlace}{v:Value}{d:DataW H}{p:List MemPlace}{r:Reach}{base:Nat}
theorem BQ(hw:Wt Tryz.prog 22 y.1)(h:DataW.trod enc Tryz.prog w 0 sp held n 22 cs=some y):∃v xs,cs=[v]∧RI (hp w) v xs∧IsIn xs:=by
 obtain ⟨v,xs,h1,h2,h3,h4⟩:=EL Tryz.underlying22 iA zi hw h
 rw [GY,Dh] at h3
 exact ⟨v,xs,h1,h2,ak,h4⟩
end
end Go.Proofs.YtddaejgfjlneoaaGreat
namespace Go.Proofs.YtddaejgfjlneoaaGreat
open Go.MW Go.ChangeShapes Go.WideShapes
set_option maxRecDepth 100000
theorem c_2:Tryz.prog.cellsOf 90=2:=by kernel_rfl
section
variable{H:Type}{enc:TypeId×Value→H}{w:World}{sp:Nat→Bool}{held:Bool}{n:Nat}{cs:List Value}{y:DataW H×List MemPlace}{v:Value}{d:DataW H}{p:List MemPlace}{r:Reach}{base:Nat}
theorem Dx(hv:Value.okWide Tryz.prog w r base 90 v)(h:DataW.Trod enc Tryz.prog w 0 sp held 90 v d p)(_:Wt Tryz.prog 90 d):∃x:Two,v= .agg #[I x.a,I x.b]∧I64 x.a∧I64 x.b:=by
 obtain ⟨cs,n,rfl,hn⟩:=Ct Tryz.underlying90 hv h
 obtain ⟨xs,h1,rfl,h3⟩:=sZ Tryz.underlying90 iA zi c_2 hn
 obtain ⟨a,b,rfl⟩:=GU h1
 exact ⟨⟨a,b⟩,rfl,h3 a bQ,h3 b bQ⟩
end
end Go.Proofs.YtddaejgfjlneoaaGreat
namespace Go.Proofs.YtddaejgfjlneoaaGreat
open Go.MW Go.ChangeShapes Go.WideShapes
set_option maxRecDepth 100000
theorem Cs:Tryz.prog.cellsOf 80=7:=by kernel_rfl
theorem len6{α:Type}{l:List α}(h:l.length=6):∃a b c d e f,l=[a,b,c,d,e,f]:=by match l,h with|[a,b,c,d,e,f],_=>exact ⟨a,b,c,d,e,f,rfl⟩
section
variable{H:Type}{enc:TypeId×Value→H}{w:World}{sp:Nat→Bool}{held:Bool}{n:Nat}{cs:List Value}{y:DataW H×List MemPlace}{v:Value}{d:DataW H}{p:List MemPlace}{r:Reach}{base:Nat}
end
end Go.Proofs.YtddaejgfjlneoaaGreat
namespace Go.Proofs.YtddaejgfjlneoaaGreat
open Go.MW Go.ChangeShapes Go.WideShapes
set_option maxRecDepth 100000
theorem D8:Tryz.prog.cellsOf 23=1:=by kernel_rfl
theorem D7:Tryz.prog.cellsOf 24=1:=by kernel_rfl
theorem c_53:Tryz.prog.cellsOf 106=5:=by kernel_rfl
theorem c_43:Tryz.prog.cellsOf 199=4:=by kernel_rfl
theorem Hm:Tryz.prog.cellsOf 25=3:=by kernel_rfl
theorem Fk:Tryz.prog.cellsOf 27=7:=by kernel_rfl
theorem Hl{α:Type}{l:List α}(h:l.length=7):∃a b c d e f g,l=[a,b,c,d,e,f,g]:=by match l,h with|[a,b,c,d,e,f,g],_=>exact ⟨a,b,c,d,e,f,g,rfl⟩
theorem Ez:∀{zs:List (List Int)},(∀z∈zs,z.length=5∧∀y∈z,I64 y)→∃ls:List F5,zs.map Is=ls.map F5.v
 |[],_=>⟨[],rfl⟩
 |z::zs,h=>by
  obtain ⟨ls,h1⟩:=Ez (fun c hc=>h c (.tail _ hc))
  obtain ⟨h3,_⟩:=h z (.head _)
  match z,h3 with
  |[a,b,c,d,e],_=>exact ⟨⟨a,b,c,d,e⟩::ls,by rw [List.map_cons,h1];rfl⟩
theorem Ey:∀{zs:List (List Int)},(∀z∈zs,z.length=4∧∀y∈z,I64 y)→∃ls:List F4,zs.map Is=ls.map F4.v
 |[],_=>⟨[],rfl⟩
 |z::zs,h=>by
  obtain ⟨ls,h1⟩:=Ey (fun c hc=>h c (.tail _ hc))
  obtain ⟨h3,_⟩:=h z (.head _)
  match z,h3 with
  |[a,b,c,d],_=>exact ⟨⟨a,b,c,d⟩::ls,by rw [List.map_cons,h1];rfl⟩
structure EE where
 sp:List Int
 rs:List F5
 cs:List F4
 pk:List Int
 x:Int
 y:Int
 z:Int
def zo(H:cE)(v:Value)(r:EE):Prop:=∃vs v5 v4 vp,v= .agg #[vs,v5,v4,vp,I r.x,I r.y,I r.z]∧RI H vs r.sp∧RF5 H v5 r.rs∧RF4 H v4 r.cs∧RI H vp r.pk
section
variable{H:Type}{enc:TypeId×Value→H}{w:World}{sp:Nat→Bool}{held:Bool}{n:Nat}{cs:List Value}{y:DataW H×List MemPlace}{v:Value}{d:DataW H}{p:List MemPlace}{r:Reach}{base:Nat}
theorem DD(hw:Wt Tryz.prog 23 y.1)(h:DataW.trod enc Tryz.prog w 0 sp held n 23 cs=some y):∃(v:Value) (ls:List F5),cs=[v]∧RF5 (hp w) v ls:=by
 obtain ⟨v,zs,h1,h2,_,h3⟩:=Be (k:=5) Tryz.underlying23 Tryz.underlying106 iA zi gK c_53 hw h
 obtain ⟨ls,h4⟩:=Ez h3
 exact ⟨v,ls,h1,by unfold RF5;rw [←h4];exact h2⟩
theorem DC(hw:Wt Tryz.prog 24 y.1)(h:DataW.trod enc Tryz.prog w 0 sp held n 24 cs=some y):∃(v:Value) (ls:List F4),cs=[v]∧RF4 (hp w) v ls:=by
 obtain ⟨v,zs,h1,h2,_,h3⟩:=Be (k:=4) Tryz.underlying24 Tryz.underlying199 iA zi gK c_43 hw h
 obtain ⟨ls,h4⟩:=Ey h3
 exact ⟨v,ls,h1,by unfold RF4;rw [←h4];exact h2⟩
theorem rE(hv:Value.okWide Tryz.prog w r base 27 v)(h:DataW.Trod enc Tryz.prog w 0 sp held 27 v d p)(hw:Wt Tryz.prog 27 d):∃q:EE,zo (hp w) v q∧True:=by
 obtain ⟨cs,n,rfl,hn,_⟩:=r6 kH hv h
 obtain ⟨ys,m,_,e,hlen,hyl,hg⟩:=DataW.trod_struct kH hn
 cases e
 rw [Fk] at hlen
 obtain ⟨c0,c1,c2,c3,c4,c5,c6,rfl⟩:=Hl hlen
 obtain ⟨_,h0,k0⟩:=fld hg hyl 0 rfl rfl rfl Cr kH hw
 obtain ⟨_,h1,k1⟩:=fld hg hyl 1 rfl rfl rfl D8 kH hw
 obtain ⟨_,h2,k2⟩:=fld hg hyl 2 rfl rfl rfl D7 kH hw
 obtain ⟨_,h3,k3⟩:=fld hg hyl 3 rfl rfl rfl Cr kH hw
 obtain ⟨_,h4,k4⟩:=fld hg hyl 4 rfl rfl rfl Hm kH hw
 obtain ⟨v0,s0,e0,r0,i0⟩:=BQ k0 h0
 obtain ⟨v1,l1,e1,r1⟩:=DD k1 h1
 obtain ⟨v2,l2,e2,r2⟩:=DC k2 h2
 obtain ⟨v3,s3,e3,r3,i3⟩:=BQ k3 h3
 obtain ⟨xs,g1,g2,g3⟩:=sZ Tryz.underlying25 iA zi Hm h4
 obtain ⟨a,b,c,rfl⟩:=len3 g1
 cases e0;cases e1;cases e2;cases e3;cases g2
 exact ⟨⟨s0,l1,l2,s3,a,b,c⟩,⟨_,_,_,_,rfl,r0,r1,r2,r3⟩,trivial⟩
end
end Go.Proofs.YtddaejgfjlneoaaGreat
namespace Go.Proofs.YtddaejgfjlneoaaGreat
open Go.MW Go.ChangeShapes Go.WideShapes
set_option maxRecDepth 100000
theorem c_63:Tryz.prog.cellsOf 94=6:=by kernel_rfl
structure Six where
 a:Int
 b:Int
 c:Int
 d:Int
 e:Int
 f:Int
theorem Gp:Tryz.prog.cellsOf 63=1:=by kernel_rfl
theorem Gn:Tryz.prog.cellsOf 61=1:=by kernel_rfl
theorem Bt{H:cE}:∀{us:List Value},(∀u∈us,∃xs,RI H u xs)→∃rows:List (List Int),RLs H us rows
 |[],_=>⟨[],.nil H⟩
 |u::us,h=>by
  obtain ⟨rows,h1,h2⟩:=Bt (fun u hu=>h u (.tail _ hu))
  obtain ⟨xs,h3⟩:=h u (.head _)
  refine ⟨xs::rows,by simp [h1],fun i u' r hu hr=>?_⟩
  cases i with
  |zero=>
   simp only [List.getElem?_cons_zero,Option.some.injEq] at hu hr
   subst hu;subst hr;exact h3
  |succ i=>exact h2 i u' r (by simpa using hu) (by simpa using hr)
section
variable{H:Type}{enc:TypeId×Value→H}{w:World}{sp:Nat→Bool}{held:Bool}{n:Nat}{cs:List Value}{y:DataW H×List MemPlace}{v:Value}{d:DataW H}{p:List MemPlace}{r:Reach}{base:Nat}
theorem xI(hv:Value.okWide Tryz.prog w r base 80 v)(h:DataW.Trod enc Tryz.prog w 0 sp held 80 v d p)(_:Wt Tryz.prog 80 d):
  ∃q:Rdg,v= .agg q.c.toArray∧True:=by
 obtain ⟨cs,n,rfl,hn,_⟩:=r6 Tryz.underlying80 hv h
 obtain ⟨xs,a1,a2,_⟩:=Bc Tryz.underlying80 (by
  intro i f hf
  match i with
  |0|1|2|3|4|5|6=>cases hf;exact ⟨rfl,iA,zi⟩
  |i+7=>simp at hf) (by rw [Cs];rfl) hn
 obtain ⟨a,b,c,d,e,f,g,rfl⟩:=Hl a1
 subst a2
 exact ⟨⟨a,b,c,d,e,f,g⟩,rfl,trivial⟩
theorem Gd(hw:Wt Tryz.prog 61 y.1)(h:DataW.trod enc Tryz.prog w 0 sp held n 61 cs=some y):∃v rows,cs=[v]∧RT (hp w) v rows:=by
 obtain ⟨v,css,h1,h2,_,h3⟩:=yF (k:=1) Tryz.underlying61 Cr gK hw h
 obtain ⟨us,rfl,h4⟩:=all_map (f:=fun u:Value=>[u]) (Q:=fun u=>∃xs,RI (hp w) u xs) (fun c hc=>by
  obtain ⟨m,z,hz,hwz⟩:=h3 c hc
  obtain ⟨u,xs,g1,g2,_⟩:=BQ hwz hz
  exact ⟨u,g1,xs,g2⟩)
 obtain ⟨rows,hr⟩:=Bt h4
 exact ⟨v,rows,h1,us,hr.1,h2,hr.2⟩
theorem BP(hv:Value.okWide Tryz.prog w r base 63 v)(h:DataW.Trod enc Tryz.prog w 0 sp held 63 v d p)(hw:Wt Tryz.prog 63 d):∃rows:List (List Int),(∃vh,v= .agg #[vh]∧RT (hp w) vh rows)∧True:=by
 obtain ⟨cs,n,rfl,hn,_⟩:=r6 Tryz.underlying63 hv h
 obtain ⟨ys,m,_,e,hlen,hyl,hg⟩:=DataW.trod_struct Tryz.underlying63 hn
 cases e
 rw [Gp] at hlen
 obtain ⟨c0,rfl⟩:=len1 hlen
 obtain ⟨_,h0,k0⟩:=fld hg hyl 0 rfl rfl rfl Gn Tryz.underlying63 hw
 obtain ⟨v0,rows,e0,r0⟩:=Gd k0 h0
 cases e0
 exact ⟨rows,⟨_,rfl,r0⟩,trivial⟩
theorem Dy(hv:Value.okWide Tryz.prog w r base 94 v)(h:DataW.Trod enc Tryz.prog w 0 sp held 94 v d p)(_:Wt Tryz.prog 94 d):∃x:Six,v= .agg #[I x.a,I x.b,I x.c,I x.d,I x.e,I x.f]∧True:=by
 obtain ⟨cs,n,rfl,hn⟩:=Ct Tryz.underlying94 hv h
 obtain ⟨xs,h1,rfl,h3⟩:=sZ Tryz.underlying94 iA zi c_63 hn
 obtain ⟨a,b,c,d,e,f,rfl⟩:=len6 h1
 exact ⟨⟨a,b,c,d,e,f⟩,rfl,trivial⟩
end
end Go.Proofs.YtddaejgfjlneoaaGreat
namespace Go.Proofs.YtddaejgfjlneoaaGreat
theorem zf:Tryz.prog.make=some .cut:=by kernel_rfl
theorem wZ:Tryz.prog.mayEnter=true:=by kernel_rfl
theorem wW:Tryz.prog.liftsFinal=false:=by kernel_rfl
theorem zh:Tryz.prog.plainKeys=true:=by kernel_rfl
theorem rW:laidOutB Tryz.prog=true:=by kernel_rfl
theorem ze:mapsRowed Tryz.prog=true:=by kernel_rfl
theorem wY:Tryz.prog.stopsHeard=true:=by kernel_rfl
theorem wV:Tryz.prog.stops=[]:=by kernel_rfl
theorem wX:Tryz.prog.stopKnobs=[]:=by kernel_rfl
theorem fK{a b:Bool}(h:a=true)(k:b=true):(a&&b)=true:=by rw [h,k];rfl
theorem zj{α:Type}[BEq α][LawfulBEq α]{a b:α}(h:a=b):(a==b)=true:=by rw [h];exact beq_self_eq_true _
theorem Cq:ownKnob Tryz.prog.godebug=none:=by kernel_rfl
end Go.Proofs.YtddaejgfjlneoaaGreat
namespace Go.Proofs.YtddaejgfjlneoaaGreat
open Go.MW
theorem mix:Tryz.prog.follows .mixedOrders=true:=by kernel_rfl
theorem nL:FA Tryz.prog 27 0 0:=by
 have h:=iE (k:=0) sc rfl aC
 exact h
theorem iq:FA Tryz.prog 27 1 1:=by
 have h:=iE (k:=1) sc rfl Tryz.sizeOf23
 exact h
theorem j6:FA Tryz.prog 27 2 2:=by
 have h:=iE (k:=2) sc rfl Tryz.sizeOf24
 exact h
theorem nK:FA Tryz.prog 27 3 3:=by
 have h:=iE (k:=3) sc rfl aC
 exact h
theorem nJ:FA Tryz.prog 27 4 4:=by
 have h:=iE (k:=4) sc rfl Tryz.sizeOf25
 exact h
theorem ky:FA Tryz.prog 29 0 0:=by
 have h:=iE (k:=0) Ej rfl ai
 exact h
theorem eu:FA Tryz.prog 29 1 1:=by
 have h:=iE (k:=1) Ej rfl ai
 exact h
theorem dy:FA Tryz.prog 29 2 2:=by
 have h:=iE (k:=2) Ej rfl ai
 exact h
theorem jt:FA Tryz.prog 32 0 0:=by
 have h:=iE (k:=0) Ei rfl ai
 exact h
theorem js:FA Tryz.prog 32 1 1:=by
 have h:=iE (k:=1) Ei rfl ai
 exact h
theorem iO:FA Tryz.prog 34 0 0:=by
 have h:=iE (k:=0) k8 rfl ai
 exact h
theorem cQ:FA Tryz.prog 34 1 1:=by
 have h:=iE (k:=1) k8 rfl ai
 exact h
theorem bj:FA Tryz.prog 34 2 2:=by
 have h:=iE (k:=2) k8 rfl aC
 exact h
theorem aS:FA Tryz.prog 34 3 3:=by
 have h:=iE (k:=3) k8 rfl aC
 exact h
theorem dN:FA Tryz.prog 34 4 4:=by
 have h:=iE (k:=4) k8 rfl FE
 exact h
theorem aJ:FA Tryz.prog 38 0 0:=by
 have h:=iE (k:=0) Eh rfl aB
 exact h
theorem aI:FA Tryz.prog 38 1 6:=by
 have h:=iE (k:=1) Eh rfl ib
 exact h
theorem bq:FA Tryz.prog 38 2 7:=by
 have h:=iE (k:=2) Eh rfl FD
 exact h
theorem oT:FA Tryz.prog 44 0 0:=by
 have h:=iE (k:=0) je rfl ai
 exact h
theorem oS:FA Tryz.prog 44 1 1:=by
 have h:=iE (k:=1) je rfl ai
 exact h
theorem mJ:FA Tryz.prog 49 0 0:=by
 have h:=iE (k:=0) fu rfl ai
 exact h
theorem kd:FA Tryz.prog 49 1 1:=by
 have h:=iE (k:=1) fu rfl ai
 exact h
theorem dz:FA Tryz.prog 63 0 0:=by
 have h:=iE (k:=0) Tryz.runUnderlying63 rfl Tryz.sizeOf61
 exact h
theorem bA:FA Tryz.prog 70 0 0:=by
 have h:=iE (k:=0) Tryz.runUnderlying70 rfl ai
 exact h
theorem bh:FA Tryz.prog 70 1 1:=by
 have h:=iE (k:=1) Tryz.runUnderlying70 rfl ji
 exact h
theorem dU:FA Tryz.prog 80 0 0:=by
 have h:=iE (k:=0) ft rfl ai
 exact h
theorem eO:FA Tryz.prog 80 1 1:=by
 have h:=iE (k:=1) ft rfl ai
 exact h
theorem eN:FA Tryz.prog 80 2 2:=by
 have h:=iE (k:=2) ft rfl ai
 exact h
theorem de:FA Tryz.prog 80 3 3:=by
 have h:=iE (k:=3) ft rfl ai
 exact h
theorem cf:FA Tryz.prog 80 4 4:=by
 have h:=iE (k:=4) ft rfl ai
 exact h
theorem ez:FA Tryz.prog 80 5 5:=by
 have h:=iE (k:=5) ft rfl ai
 exact h
theorem ew:FA Tryz.prog 80 6 6:=by
 have h:=iE (k:=6) ft rfl ai
 exact h
theorem fi:FA Tryz.prog 108 0 0:=by
 have h:=iE (k:=0) fZ rfl ai
 exact h
theorem iV:FA Tryz.prog 108 1 1:=by
 have h:=iE (k:=1) fZ rfl ai
 exact h
theorem fO:FA Tryz.prog 108 2 2:=by
 have h:=iE (k:=2) fZ rfl ai
 exact h
theorem fh:FA Tryz.prog 108 3 3:=by
 have h:=iE (k:=3) fZ rfl ai
 exact h
theorem fg:FA Tryz.prog 108 4 4:=by
 have h:=iE (k:=4) fZ rfl ai
 exact h
theorem ff:FA Tryz.prog 108 5 5:=by
 have h:=iE (k:=5) fZ rfl ai
 exact h
theorem nI:FA Tryz.prog 140 0 0:=by
 have h:=iE (k:=0) CH rfl aM
 exact h
theorem nH:FA Tryz.prog 140 1 2:=by
 have h:=iE (k:=1) CH rfl aC
 exact h
theorem j5:FA Tryz.prog 140 2 3:=by
 have h:=iE (k:=2) CH rfl ai
 exact h
theorem dJ:FA Tryz.prog 158 0 0:=by
 have h:=iE (k:=0) CG rfl ai
 exact h
theorem dt:FA Tryz.prog 158 1 1:=by
 have h:=iE (k:=1) CG rfl ai
 exact h
theorem eS:FA Tryz.prog 158 2 2:=by
 have h:=iE (k:=2) CG rfl ai
 exact h
theorem dD:FA Tryz.prog 160 0 0:=by
 have h:=iE (k:=0) iF rfl ai
 exact h
theorem dO:FA Tryz.prog 160 1 1:=by
 have h:=iE (k:=1) iF rfl ai
 exact h
theorem eH:FA Tryz.prog 160 2 2:=by
 have h:=iE (k:=2) iF rfl ai
 exact h
theorem jO:FA Tryz.prog 160 3 3:=by
 have h:=iE (k:=3) iF rfl ai
 exact h
theorem dR:FA Tryz.prog 172 0 0:=by
 have h:=iE (k:=0) CF rfl az
 exact h
theorem fS:FA Tryz.prog 172 1 8:=by
 have h:=iE (k:=1) CF rfl Tryz.sizeOf51
 exact h
theorem gY:FA Tryz.prog 172 2 9:=by
 have h:=iE (k:=2) CF rfl ji
 exact h
theorem dC:FA Tryz.prog 189 0 0:=by
 have h:=iE (k:=0) pQ rfl ai
 exact h
theorem dL:FA Tryz.prog 189 1 1:=by
 have h:=iE (k:=1) pQ rfl ai
 exact h
theorem fF:FA Tryz.prog 189 2 2:=by
 have h:=iE (k:=2) pQ rfl ai
 exact h
theorem eh:FA Tryz.prog 189 3 3:=by
 have h:=iE (k:=3) pQ rfl ai
 exact h
theorem rU:FA Tryz.prog 231 0 0:=by
 have h:=iE (k:=0) CE rfl Tryz.sizeOf228
 exact h
theorem rR:FA Tryz.prog 231 1 1:=by
 have h:=iE (k:=1) CE rfl Tryz.sizeOf229
 exact h
theorem rQ:FA Tryz.prog 231 2 2:=by
 have h:=iE (k:=2) CE rfl ai
 exact h
theorem dk:FA Tryz.prog 236 0 0:=by
 have h:=iE (k:=0) Tryz.runUnderlying236 rfl bV
 exact h
theorem fB:FA Tryz.prog 236 1 3:=by
 have h:=iE (k:=1) Tryz.runUnderlying236 rfl aB
 exact h
theorem gx:FA Tryz.prog 259 0 0:=by
 have h:=iE (k:=0) CD rfl aM
 exact h
theorem ir:FA Tryz.prog 259 1 2:=by
 have h:=iE (k:=1) CD rfl aC
 exact h
theorem ek:FA Tryz.prog 259 2 3:=by
 have h:=iE (k:=2) CD rfl aC
 exact h
theorem oR:FA Tryz.prog 294 0 0:=by
 have h:=iE (k:=0) Tryz.runUnderlying294 rfl aC
 exact h
theorem fY:FA Tryz.prog 300 0 0:=by
 have h:=iE (k:=0) Tryz.runUnderlying300 rfl ai
 exact h
theorem iP:FA Tryz.prog 300 1 1:=by
 have h:=iE (k:=1) Tryz.runUnderlying300 rfl ai
 exact h
theorem dx:FA Tryz.prog 315 0 0:=by
 have h:=iE (k:=0) Tryz.runUnderlying315 rfl ai
 exact h
theorem jA:FA Tryz.prog 315 1 1:=by
 have h:=iE (k:=1) Tryz.runUnderlying315 rfl lN
 exact h
theorem nO:tm Tryz.prog 29 [(0,1),(1,1),(2,1)] [.int .i64 0,.int .i64 0,.int .i64 0]:=lM Tryz.zeroValue29 rfl Ej (by simp [Tryz.sizeOf3])
theorem su:tm Tryz.prog 32 [(0,1),(1,1)] [.int .i64 0,.int .i64 0]:=lM Tryz.zeroValue32 rfl Ei (by simp [Tryz.sizeOf3])
theorem qP:tm Tryz.prog 34 [(0,1),(1,1),(2,1),(3,1),(4,2)] [.int .i64 0,.int .i64 0,.slice none 0 0,.slice none 0 0,.int .i64 0,.int .i64 0]:=lM gh rfl k8 (by simp [Tryz.sizeOf22,Tryz.sizeOf3,Tryz.sizeOf32])
theorem eo:tm Tryz.prog 38 [(0,6),(6,1),(7,1)] [.int .i64 0,.int .i64 0,.slice none 0 0,.slice none 0 0,.int .i64 0,.int .i64 0,.slice none 0 0,.slice none 0 0]:=lM ck rfl Eh (by simp [Tryz.sizeOf34,Tryz.sizeOf35,Tryz.sizeOf36])
theorem cq:tm Tryz.prog 44 [(0,1),(1,1)] [.int .i64 0,.int .i64 0]:=lM eQ rfl je (by simp [Tryz.sizeOf3])
theorem fG:tm Tryz.prog 49 [(0,1),(1,1)] [.int .i64 0,.int .i64 0]:=lM jy rfl fu (by simp [Tryz.sizeOf3])
theorem yp:tm Tryz.prog 63 [(0,1)] [.slice none 0 0]:=lM Tryz.zeroValue63 rfl Tryz.runUnderlying63 (by simp [Tryz.sizeOf61])
theorem iQ:tm Tryz.prog 70 [(0,1),(1,1)] [.int .i64 0,.slice none 0 0]:=lM dd rfl Tryz.runUnderlying70 (by simp [Tryz.sizeOf3,Tryz.sizeOf68])
theorem fH:tm Tryz.prog 80 [(0,1),(1,1),(2,1),(3,1),(4,1),(5,1),(6,1)] [.int .i64 0,.int .i64 0,.int .i64 0,.int .i64 0,.int .i64 0,.int .i64 0,.int .i64 0]:=lM eE rfl ft (by simp [Tryz.sizeOf3])
theorem nP:tm Tryz.prog 108 [(0,1),(1,1),(2,1),(3,1),(4,1),(5,1)] [.int .i64 0,.int .i64 0,.int .i64 0,.int .i64 0,.int .i64 0,.int .i64 0]:=lM kG rfl fZ (by simp [Tryz.sizeOf3])
theorem gq:tm Tryz.prog 140 [(0,2),(2,1),(3,1)] [.int .i64 0,.slice none 0 0,.slice none 0 0,.int .i64 0]:=lM xr rfl CH (by simp [Tryz.sizeOf22,Tryz.sizeOf3,Tryz.sizeOf70])
theorem qO:tm Tryz.prog 158 [(0,1),(1,1),(2,1)] [.int .i64 0,.int .i64 0,.int .i64 0]:=lM kF rfl CG (by simp [Tryz.sizeOf3])
theorem eX:tm Tryz.prog 160 [(0,1),(1,1),(2,1),(3,1)] [.int .i64 0,.int .i64 0,.int .i64 0,.int .i64 0]:=lM eG rfl iF (by simp [Tryz.sizeOf3])
theorem mf:tm Tryz.prog 172 [(0,8),(8,1),(9,1)] [.int .i64 0,.int .i64 0,.slice none 0 0,.slice none 0 0,.int .i64 0,.int .i64 0,.slice none 0 0,.slice none 0 0,.slice none 0 0,.slice none 0 0]:=lM Tryz.zeroValue172 rfl CF (by simp [Tryz.sizeOf38,Tryz.sizeOf51,Tryz.sizeOf68])
theorem oW:tm Tryz.prog 189 [(0,1),(1,1),(2,1),(3,1)] [.int .i64 0,.int .i64 0,.int .i64 0,.int .i64 0]:=lM eF rfl pQ (by simp [Tryz.sizeOf3])
theorem iX:tm Tryz.prog 231 [(0,1),(1,1),(2,1)] [.nilFunc,.nilFunc,.int .i64 0]:=lM G8 rfl CE (by simp [Tryz.sizeOf228,Tryz.sizeOf229,Tryz.sizeOf3])
theorem sR:tm Tryz.prog 236 [(0,3),(3,6)] [.int .i64 0,.int .i64 0,.int .i64 0,.int .i64 0,.int .i64 0,.slice none 0 0,.slice none 0 0,.int .i64 0,.int .i64 0]:=lM Tryz.zeroValue236 rfl Tryz.runUnderlying236 (by simp [Tryz.sizeOf29,Tryz.sizeOf34])
theorem oX:tm Tryz.prog 259 [(0,2),(2,1),(3,1)] [.int .i64 0,.slice none 0 0,.slice none 0 0,.slice none 0 0]:=lM Tryz.zeroValue259 rfl CD (by simp [Tryz.sizeOf22,Tryz.sizeOf70])
theorem w8:tm Tryz.prog 294 [(0,1)] [.slice none 0 0]:=lM Tryz.zeroValue294 rfl Tryz.runUnderlying294 (by simp [Tryz.sizeOf22])
theorem qQ:tm Tryz.prog 300 [(0,1),(1,1)] [.int .i64 0,.int .i64 0]:=lM xq rfl Tryz.runUnderlying300 (by simp [Tryz.sizeOf3])
theorem iy:tm Tryz.prog 315 [(0,1),(1,1)] [.int .i64 0,.bool false]:=lM G7 rfl Tryz.runUnderlying315 (by simp [Tryz.sizeOf3,Tryz.sizeOf4])
theorem fT:xj Tryz.prog 22 0 1 []:=nN ae ai bO gK aq
theorem bX:xj Tryz.prog 22 1 1 [.int .i64 0]:=nN ae ai bO gK aq
theorem jg:xj Tryz.prog 22 2 1 [.int .i64 0,.int .i64 0]:=nN ae ai bO gK aq
theorem yo:xj Tryz.prog 22 3 1 [.int .i64 0,.int .i64 0,.int .i64 0]:=nN ae ai bO gK aq
theorem gn:xj Tryz.prog 35 0 7 []:=nN aA aE eE gK aq
theorem dZ:xj Tryz.prog 35 1 7 [.int .i64 0,.int .i64 0,.int .i64 0,.int .i64 0,.int .i64 0,.int .i64 0,.int .i64 0]:=nN aA aE eE gK aq
theorem oH:xj Tryz.prog 35 4 7 [.int .i64 0,.int .i64 0,.int .i64 0,.int .i64 0,.int .i64 0,.int .i64 0,.int .i64 0,.int .i64 0,.int .i64 0,.int .i64 0,.int .i64 0,.int .i64 0,.int .i64 0,.int .i64 0,.int .i64 0,.int .i64 0,.int .i64 0,.int .i64 0,.int .i64 0,.int .i64 0,.int .i64 0,.int .i64 0,.int .i64 0,.int .i64 0,.int .i64 0,.int .i64 0,.int .i64 0,.int .i64 0]:=nN aA aE eE gK aq
theorem gp:xj Tryz.prog 36 0 6 []:=nN aN bB kG gK aq
theorem kn:xj Tryz.prog 36 1 6 [.int .i64 0,.int .i64 0,.int .i64 0,.int .i64 0,.int .i64 0,.int .i64 0]:=nN aN bB kG gK aq
theorem gj:xj Tryz.prog 51 1 2 [.int .i64 0,.int .i64 0]:=nN aT bn jy gK aq
theorem oV:xj Tryz.prog 61 1 1 [.slice none 0 0]:=nN au aC dV gK aq
theorem vf:xj Tryz.prog 61 2 1 [.slice none 0 0,.slice none 0 0]:=nN au aC dV gK aq
theorem qM:xj Tryz.prog 68 1 4 [.int .i64 0,.int .i64 0,.int .i64 0,.int .i64 0]:=nN aH aQ eG gK aq
theorem fU:xj Tryz.prog 68 2 4 [.int .i64 0,.int .i64 0,.int .i64 0,.int .i64 0,.int .i64 0,.int .i64 0,.int .i64 0,.int .i64 0]:=nN aH aQ eG gK aq
theorem pK:xj Tryz.prog 182 1 4 [.int .i64 0,.int .i64 0,.int .i64 0,.int .i64 0]:=nN aK aP eF gK aq
theorem w7:xj Tryz.prog 223 6 1 [.nilFunc,.nilFunc,.nilFunc,.nilFunc,.nilFunc,.nilFunc]:=nN Tryz.runUnderlying223 Tryz.sizeOf1 Tryz.zeroValue1 gK aq
theorem qN:xj Tryz.prog 302 1 2 [.int .i64 0,.int .i64 0]:=nN kC oK xq gK aq
theorem bg:CO Tryz.prog 22 22 3 1 8:=⟨ae,ae,ai,⟨_,dW,rfl,by decide⟩,⟨_,bO,rfl⟩⟩
theorem bH:CO Tryz.prog 35 35 80 7 56:=⟨aA,aA,aE,⟨_,Tryz.typeInfo80,rfl,by decide⟩,⟨_,eE,rfl⟩⟩
theorem dH:CO Tryz.prog 36 36 108 6 48:=⟨aN,aN,bB,⟨_,Tryz.typeInfo108,rfl,by decide⟩,⟨_,kG,rfl⟩⟩
theorem ee:CO Tryz.prog 51 51 49 2 16:=⟨aT,aT,bn,⟨_,Tryz.typeInfo49,rfl,by decide⟩,⟨_,jy,rfl⟩⟩
theorem kU:CO Tryz.prog 61 61 22 1 24:=⟨au,au,aC,⟨_,Tryz.typeInfo22,rfl,by decide⟩,⟨_,dV,rfl⟩⟩
theorem bM:CO Tryz.prog 68 68 160 4 32:=⟨aH,aH,aQ,⟨_,Tryz.typeInfo160,rfl,by decide⟩,⟨_,eG,rfl⟩⟩
theorem kA:CO Tryz.prog 182 182 189 4 32:=⟨aK,aK,aP,⟨_,zu,rfl,by decide⟩,⟨_,eF,rfl⟩⟩
theorem kY:CO Tryz.prog 302 302 300 2 16:=⟨kC,kC,oK,⟨_,Tryz.typeInfo300,rfl,by decide⟩,⟨_,xq,rfl⟩⟩
end Go.Proofs.YtddaejgfjlneoaaGreat
namespace Go.Proofs.YtddaejgfjlneoaaGreat
open Go.MW
variable{H:cE}{w:World}{σ:List Ent}
theorem fC{a0 a1 a2:Int}(hs:St H w σ):Cl Tryz.prog 161 [I a0,I a1,I a2] w fun v w'=>v= .bool (decide (a1≤a0∧a0≤a2))∧St H w' σ:=by
 refine Cl.o Tryz.func161 Tryz.ntmps161 ag3 ?_
 refine .aj (.z zg (.nil (.aj (.z zm (.z zm (.z wc (.z zm ?_)))))))
 refine .iB (t':=10) rfl (fun hb10=>?_) (fun hb10=>?_)
 ·refine .gT rfl rfl ?_
  refine .z zm ?_
  refine .gT rfl rfl ?_
  refine .z zm ?_
  refine .gT rfl rfl ?_
  refine .z wc (.z zpT (.z zg (.nil ?_)))
  refine .ret (Fin.bK Tryz.results161 rfl ?_)
  exact ⟨by simp [*],hs.out⟩
 ·refine .gFs 3 3 true rfl rfl rfl ?_
  refine .z zpF (.z zg (.nil ?_))
  refine .ret (Fin.bK Tryz.results161 rfl ?_)
  exact ⟨by simp [*],hs.out⟩
theorem qJ{many:Int}{l:Lim}(hs:St H w σ):Cl Tryz.prog 202 [I many,.agg l.c.toArray] w fun v w'=>v= .bool (l.ok many)∧St H w' σ:=by
 refine Cl.o Tryz.func202 Tryz.ntmps202 ag2 ?_
 refine .aj ?_
 refine .bx hs fun b3 w hs=>?_
 refine .z zg (.nil (.aj (.z (zfa dD) (.y hs (zld af) (.z zm ?_)))))
 refine .o (.call A3 rfl (fC hs) ?_);rintro _ w ⟨rfl,hs⟩
 refine .z zm ?_
 refine .bif (t':=9) rfl (fun hb9=>?_) (fun hb9=>?_)
 ·refine .gT rfl rfl ?_
  refine .z (zfa dO) ?_
  refine .gT rfl rfl ?_
  refine .y hs (zld af) ?_
  refine .gT rfl rfl ?_
  refine .z zm ?_
  refine .gT rfl rfl ?_
  refine .o (.call A3 rfl (fC hs) ?_);rintro _ w ⟨rfl,hs⟩
  refine .z zpT (.z zm ?_)
  refine .bif (t':=15) rfl (fun hb15=>?_) (fun hb15=>?_)
  ·refine .gT rfl rfl ?_
   refine .z (zfa dD) ?_
   refine .gT rfl rfl ?_
   refine .y hs (zld af) ?_
   refine .gT rfl rfl ?_
   refine .z (zfa dO) ?_
   refine .gT rfl rfl ?_
   refine .y hs (zld af) ?_
   refine .gT rfl rfl ?_
   refine .z gP (.z zpT (.z zm ?_))
   refine .yq (t':=22) rfl (fun hb22=>?_) (fun hb22=>?_)
   ·refine .gT rfl rfl ?_
    refine .z (zfa eH) ?_
    refine .gT rfl rfl ?_
    refine .y hs (zld af) ?_
    refine .gT rfl rfl ?_
    refine .o (.call A3 rfl (fC hs) ?_);rintro _ w ⟨rfl,hs⟩
    refine .z zpT (.z zm ?_)
    refine .bif (t':=27) rfl (fun hb27=>?_) (fun hb27=>?_)
    ·refine .gT rfl rfl ?_
     refine .z (zfa jO) ?_
     refine .gT rfl rfl ?_
     refine .y hs (zld af) ?_
     refine .gT rfl rfl ?_
     refine .o (.call A3 rfl (fC hs) ?_);rintro _ w ⟨rfl,hs⟩
     refine .z zpT (.z zg (.nil ?_))
     refine .ret (Fin.bK A7 rfl ?_)
     exact ⟨by simp [Lim.ok, *],hs.out⟩
    ·refine .gFs 3 22 true rfl rfl rfl ?_
     refine .z zpF (.z zg (.nil ?_))
     refine .ret (Fin.bK A7 rfl ?_)
     exact ⟨by simp [Lim.ok, *],hs.out⟩
   ·refine .gFs 3 17 true rfl rfl rfl ?_
    refine .z zpF (.z zm ?_)
    refine .gFs 3 22 true rfl rfl rfl ?_
    refine .z zpF (.z zg (.nil ?_))
    refine .ret (Fin.bK A7 rfl ?_)
    exact ⟨by simp [Lim.ok, *],hs.out⟩
  ·refine .gFs 5 10 true rfl rfl rfl ?_
   refine .z zpF (.z zm ?_)
   refine .gFs 3 17 true rfl rfl rfl ?_
   refine .z zpF (.z zm ?_)
   refine .gFs 3 22 true rfl rfl rfl ?_
   refine .z zpF (.z zg (.nil ?_))
   refine .ret (Fin.bK A7 rfl ?_)
   exact ⟨by simp [Lim.ok, *],hs.out⟩
 ·refine .gFs 4 4 true rfl rfl rfl ?_
  refine .z zpF (.z zm ?_)
  refine .gFs 5 10 true rfl rfl rfl ?_
  refine .z zpF (.z zm ?_)
  refine .gFs 3 17 true rfl rfl rfl ?_
  refine .z zpF (.z zm ?_)
  refine .gFs 3 22 true rfl rfl rfl ?_
  refine .z zpF (.z zg (.nil ?_))
  refine .ret (Fin.bK A7 rfl ?_)
  exact ⟨by simp [Lim.ok, *],hs.out⟩
theorem xh{v:Value}{ls:List Lim}{g:Nat}{cap:List Value}{p:Lim→Bool}(hs:St H w σ)(hr:RL H v ls)
  (hc:∀args w,(callFunc g args).run Tryz.prog w= .ok (.enter g args) w) (hp:∀w l,St H w σ→Cl Tryz.prog g ([.agg l.c.toArray]++cap) w fun u w'=>u= .bool (p l)∧St H w' σ):
  Cl Tryz.prog 252 [v,.func (.func g) #[] cap.toArray] w fun u w'=>u=I (match ls.findIdx? p with|some k=>(k:Int)|none=> -1)∧St H w' σ:=by
 obtain ⟨a,c,rfl⟩:=RS.shape hr
 have hl:=(RS.len hr).2.2
 refine Cl.o Tryz.func252 Tryz.ntmps252 ag2 ?_
 refine .aj (.z zg (.nil (.seq (.aj (.z zm ?_)))))
 refine .q hs (BE hr rfl aH) ?_
 refine .z zm (.nil ?_)
 refine .for (N:=(ls.map Lim.c).length) (J:=fun k fr w=>fr=[(1,.func (.func g) #[] cap.toArray),(0,.slice a (ls.map Lim.c).length c)]∧St H w σ∧∀j<k,∀l,ls[j]? =some l→p l=false) ak ?_ ?_ ?_
 ·exact .mk ⟨rfl,hs,fun j hj=>by omega⟩
 ·rintro k fr w hk ⟨rfl,hs,hno⟩
  obtain ⟨l,hl⟩:=nth (l:=ls) (by simpa using hk)
  refine .block (.aj (.z zm (.z zg (.nil (.aj (.z zm (.z zm (.z zm ?_))))))))
  refine .ixX hs hr rfl rfl aH aQ hl rfl ?_;intro b14 o14 hc14
  refine .y hs (zls [_,_,_,_] dS aQ) ?_
  refine .o (.pH (first:=[]) rfl rfl hc (hp _ _ hs) ?_);rintro _ w ⟨rfl,hs⟩
  refine .nil ?_
  refine (.cond rfl (fun hc16=>?_) (fun hc16=>?_))
  ·refine .aj (.z zm (.z zg (.nil ?_)))
   refine .ret (rB (rT (rB (rT (Fin.bK Tryz.results252 rfl ?_)))))
   exact ⟨by rw [uA hl hc16 hno],hs⟩
  ·refine .skip ?_
   refine nB (nT ?_)
   exact .mk ⟨rfl,hs,fl hno hl hc16⟩
 ·rintro fr w ⟨rfl,hs,hno⟩
  refine nT ?_
  refine .aj (.z zg (.nil ?_))
  refine .ret (Fin.bK Tryz.results252 rfl ?_)
  exact ⟨by rw [sr (by simpa using hno)],hs⟩
theorem sV{v:Value}{ls:List Lim}{g:Nat}{cap:List Value}{p:Lim→Bool}(hs:St H w σ)(hr:RL H v ls)
  (hc:∀args w,(callFunc g args).run Tryz.prog w= .ok (.enter g args) w) (hp:∀w l,St H w σ→Cl Tryz.prog g ([.agg l.c.toArray]++cap) w fun u w'=>u= .bool (p l)∧St H w' σ):
  Cl Tryz.prog 200 [v,.func (.func g) #[] cap.toArray] w fun u w'=>u= .bool (ls.any p)∧St H w' σ:=by
 refine Cl.o Tryz.func200 Tryz.ntmps200 ag2 ?_
 refine .aj (.z zg (.nil (.aj (.z zm (.z zm ?_)))))
 refine .o (.call Tryz.call252 rfl (xh hs hr hc hp) ?_);rintro _ w ⟨rfl,hs⟩
 refine .z yA (.z zg (.nil ?_))
 refine .ret (Fin.bK Tryz.results200 rfl ?_)
 exact ⟨by rw [zk];cases ls.findIdx? p<;>simp<;>omega,hs⟩
theorem w6{b:Nat}{many:Int}{v:Value}{l:Lim}(hs:St H w σ)(hm:Mem σ (.blk b [I many,v])):Cl Tryz.prog 201 [.agg l.c.toArray,.pointer (some ⟨b,0,none⟩)] w fun v w'=>v= .bool (!l.ok many)∧St H w' σ:=by
 refine Cl.o Tryz.func201 Tryz.ntmps201 ag2 ?_
 refine .aj ?_
 refine .bx hs fun b2 w hs=>?_
 refine .z zg (.nil (.aj (.z (zfa bA) ?_)))
 refine .q hs (ed rfl af (.there hm) rfl) ?_
 refine .q hs (kN (vs:=l.c) rfl dS aQ) ?_
 refine .o (.call Tryz.call202 rfl (qJ hs) ?_);rintro _ w ⟨rfl,hs⟩
 refine .z iD (.z zg (.nil ?_))
 refine .ret (Fin.bK Tryz.results201 rfl ?_)
 exact ⟨rfl,hs.out⟩
theorem iW{v:Value}{s:dj}(hs:St H w σ)(hr:RSy H v s):Cl Tryz.prog 125 [v] w fun v w'=>v=I s.check∧St H w' σ:=by
 obtain ⟨u,rfl,hr⟩:=hr
 obtain ⟨a,c,rfl⟩:=RS.shape hr
 refine Cl.o Tryz.func125 Tryz.ntmps125 ag1 ?_
 refine .aj ?_
 refine .bx hs fun b1 w hs=>?_
 refine .z zg (.nil (.seq (.block (.aj (.z (zfa bA) (.y hs (zld af) ?_))))))
 refine .o (.call A3 rfl (fC hs) ?_);rintro _ w ⟨rfl,hs⟩
 refine .z iD (.z zg (.nil ?_))
 refine (.cond rfl (fun hc3=>?_) (fun hc3=>?_))
 ·refine .aj (.z zg (.nil ?_))
  refine .ret (rB (rT (Fin.bK Tryz.results125 rfl ?_)))
  exact ⟨congrArg I (by unfold dj.check;(repeat' split)<;>simp_all<;>omega),hs.out⟩
 ·refine .aj (.z (zfa bh) (.y hs (zld bT) ?_))
  refine .q hs (BE hr rfl aH) ?_
  refine .z kD (.z zg (.nil ?_))
  refine (.bJ rfl (fun hc8=>?_) (fun hc8=>?_))
  ·refine .aj (.z zg (.nil ?_))
   refine .ret (rB (rT (Fin.bK Tryz.results125 rfl ?_)))
   exact ⟨congrArg I (by unfold dj.check;(repeat' split)<;>simp_all<;>omega),hs.out⟩
  ·refine .aj (.z (zfa bh) (.y hs (zld bT) ?_))
   refine .q hs (dX (f:=[]) (c:=[_]) rfl rfl) ?_
   refine .o (.call Tryz.call200 rfl (sV (p:=fun l=> !l.ok s.many) hs hr Tryz.call201 (fun w l hs=>w6 hs .here)) ?_);rintro _ w ⟨rfl,hs⟩
   refine .z zg (.nil ?_)
   refine (.cond rfl (fun hc13=>?_) (fun hc13=>?_))
   ·refine .aj (.z zg (.nil ?_))
    refine .ret (rB (rT (Fin.bK Tryz.results125 rfl ?_)))
    exact ⟨congrArg I (by unfold dj.check;(repeat' split)<;>simp_all<;>omega),hs.out⟩
   ·refine .skip ?_
    refine nB (nT ?_)
    refine .aj (.z zg (.nil ?_))
    refine .ret (Fin.bK Tryz.results125 rfl ?_)
    exact ⟨congrArg I (by unfold dj.check;(repeat' split)<;>simp_all<;>omega),hs.out⟩
theorem qH{H:cE}{b:Nat}{s:dj}{u:Value}(hok:s.Ok)(hb:Row H b [I s.many,u])(hr:RL H u s.bU):ItA Tryz.prog 203 [.pointer (some ⟨b,0,none⟩)] H s.dG:=by
 intro l II Ix _ _ hy H0 σb0 σf w hle hI0 hs
 obtain ⟨a,c,rfl⟩:=RS.shape hr
 have hb1:cellAt H0 b 1=some (.slice a (s.bU.map Lim.c).length c):=cellAt.mono (by rw [hb.cell];rfl) hle
 have hlen:=hok.len
 refine Cl.o Tryz.func203 Tryz.ntmps203 ag2 ?_
 refine .aj (.z (zfa bh) (.y hs (zld bT) ?_))
 refine .q hs (BE (hr.mono hle) rfl aH) ?_
 refine .z zm (.nil ?_)
 refine .for (N:=(s.bU.map Lim.c).length) (J:=fun k fr w=>fr=[(6,.slice a (s.bU.map Lim.c).length c),(0,.func (.yield l) #[] #[])]∧∃H1 σb,HLe H H1∧HLe H0 H1∧II k H1 σb∧St H1 w (σb++σf)) (by simp;omega) ?_ ?_ ?_
 ·exact .mk ⟨rfl,H0,σb0,hle,HLe.refl _,hI0,hs⟩
 ·rintro k fr w hk ⟨rfl,H1,σb,hle1,hle0,hI,hs⟩
  obtain ⟨x,hx⟩:=nth (l:=s.bU) (by simpa using hk)
  obtain ⟨hA,hB,_⟩:=hok.arc (List.mem_of_getElem? hx) k
  refine .block (.aj (.z zm ?_))
  refine .ixX hs (hr.mono hle1) rfl rfl aH aQ hx rfl ?_;intro b11 o11 hc11
  refine .q hs (cj (vs:=x.c) rfl dS aQ hc11) ?_
  refine .o (.alloc hs eG rfl fun b4 w hs=>?_)
  refine .z zg ?_
  refine .o (.aZ (vs:=x.c) hs rfl rfl aQ fun w hs=>?_)
  refine .nil (.aj (.z zm (.z (zfa dD) (.y hs (zld af) (.z (zfa dO) (.y hs (zld af) (.z (zfa eH) (.y hs (zld af) (.z zm ?_)))))))))
  refine .z (zbd [_,_,_,_] oW) ?_
  have hk':k<(s.dG.map fun x=>[Value.agg x.v.toArray]).length:=by simp [dj.dG,fq];simpa using hk
  have hxk:(s.dG.map fun x=>[Value.agg x.v.toArray])[k]=[.agg (x.arc k).v.toArray]:=by
   have:=kE hx
   rw [List.getElem_map];rw [List.getElem?_eq_some_iff] at this;obtain ⟨h1,h2⟩:=this;simp only [dj.dG];rw [h2]
  have hyd:=hy k hk' H1 σb σf w hle1 hI hs.tail
  rw [hxk] at hyd
  refine .o (.yield (vs:=[.agg (x.arc k).v.toArray]) rfl (by simp [Arc.v,hA,hB];rfl) hyd ?_);rintro v22 w ⟨H2,σ2,g1,hs,g3⟩
  obtain ⟨bb,rfl,gT,gF⟩:=oZ g3
  refine .z iD (.nil ?_)
  refine (.cond rfl (fun hc23=>?_) (fun hc23=>?_))
  ·refine .ret (rB (rT (rB (Fin.FQ Tryz.results203 ?_))))
   exact ⟨H2,σ2,hle0.trans g1,hs,.inr (gF (by simpa using hc23))⟩
  ·refine .skip ?_
   refine nB (nT ?_)
   exact .mk ⟨rfl,H2,σ2,hle1.trans g1,hle0.trans g1,gT (by simpa using hc23),hs⟩
 ·rintro fr w ⟨rfl,H1,σb,hle1,hle0,hI,hs⟩
  exact Fin.yB Tryz.results203 ⟨H1,σb,hle0,hs,.inl (by simpa [dj.dG,fq] using hI)⟩
theorem kf{v:Value}{s:dj}(hs:St H w σ)(hok:s.Ok)(hr:RSy H v s):
  Cl Tryz.prog 127 [v] w fun v w'=>∃H1 b,HLe H H1∧v= .func (.func 203) #[] #[.pointer (some ⟨b,0,none⟩)]∧ItA Tryz.prog 203 [.pointer (some ⟨b,0,none⟩)] H1 s.dG∧St H1 w' σ:=by
 obtain ⟨u,rfl,hr⟩:=hr
 refine Cl.o Tryz.func127 Tryz.ntmps127 ag1 ?_
 refine .aj ?_
 refine .bx hs fun b1 w hs=>?_
 refine .z zg (.nil (.aj ?_))
 refine .q hs (dX (f:=[]) (c:=[_]) rfl rfl) ?_
 refine .z zg (.nil ?_)
 refine .ret (Fin.bK Tryz.results127 rfl ?_)
 obtain ⟨H1,g1,g2,hs⟩:=hs.cO .here
 exact ⟨H1,b1,g1,rfl,qH hok g2 (hr.mono g1),hs⟩
theorem lB{N gf:Nat}{ar:List Arc}{cap:List Value}(hs:St H w σ)(hN:N≤64)(hok:qU ar (N+1))(hit:ItA Tryz.prog gf cap H ar)(hc:∀args w,(callFunc gf args).run Tryz.prog w= .ok (.enter gf args) w):
  Cl Tryz.prog 126 [I N,.func (.func gf) #[] cap.toArray] w fun v w'=>∃H1 bc bb s ov vo,HLe H H1∧v= .tuple #[.slice (some ⟨bc,0,none⟩) (N+1) (N+1),.slice (some ⟨bb,0,none⟩) (N+1) (N+1),vo]∧OvR H1 vo ov∧Gt (N+1) ar s ov∧St H1 w' (.blk bc (Is s.cost):: .blk bb (jw s.by_)::σ):=by
 refine Cl.o Tryz.func126 Tryz.ntmps126 ag2 ?_
 refine .aj ?_
 refine .o (.alloc hs dV rfl fun b4 w hs=>?_)
 refine .o (.alloc hs Tryz.zeroValue182 rfl fun b5 w hs=>?_)
 refine .o (.alloc hs Tryz.zeroValue183 rfl fun b6 w hs=>?_)
 refine .nil ?_
 refine .cut (fun fs w=>∃bc bb,kB fs ⟨70,[],[(1,.func (.func gf) #[] cap.toArray),(0,I N),(4,.pointer (some ⟨b4,0,none⟩)),(5,.pointer (some ⟨b5,0,none⟩)),(6,.pointer (some ⟨b6,0,none⟩))]⟩∧St H w (.blk b4 [.slice (some ⟨bc,0,none⟩) (N+1) (N+1)]:: .blk b5 [.slice (some ⟨bb,0,none⟩) (N+1) (N+1)]:: .blk b6 [.pointer none]:: .blk bc (Is (List.replicate (N+1) 0)):: .blk bb (jw (yU (N+1) 0))::σ)) ?_ ?_
 ·refine .draw mix rfl hs fun w hs=>?_
  refine .z 0 rfl zm ?_;refine .z 1 rfl cH ?_;refine .z 3 rfl zm ?_;refine .z 4 rfl cH ?_
  refine .e2 (i:=2) (j:=5) aq rfl rfl rfl rfl .none .none hs ?_ ?_
  ·refine .pD (N+1) hs rfl rfl ae dW rfl ai bO ak ?_;intro b11 w hs
   refine .go ?_
   refine .e2 (i:=5) (j:=6) aq rfl rfl rfl rfl .none .none hs ?_ ?_
   ·refine .DI (N+1) hs rfl rfl aK zu rfl aP eF ak ?_;intro b14 w hs
    refine .go ?_
    refine .E 6 hs ?_
    refine .store hs rfl rfl aC ?_;intro w hs
    refine .go ?_
    refine .E 7 hs ?_
    refine .store hs rfl rfl vq ?_;intro w hs
    refine .go ?_
    refine .D hs ?_
    exact nT ⟨b11,b14,a8,hs.sb⟩
   ·refine .store hs rfl rfl aC ?_;intro w hs
    refine .go ?_
    refine .E 5 hs ?_
    refine .DI (N+1) hs rfl rfl aK zu rfl aP eF ak ?_;intro b14 w hs
    refine .go ?_
    refine .E 7 hs ?_
    refine .store hs rfl rfl vq ?_;intro w hs
    refine .go ?_
    refine .D hs ?_
    exact nT ⟨b11,b14,a8,hs.sb⟩
  ·refine .DI (N+1) hs rfl rfl aK zu rfl aP eF ak ?_;intro b14 w hs
   refine .go ?_
   refine .E 2 hs ?_
   refine .pD (N+1) hs rfl rfl ae dW rfl ai bO ak ?_;intro b11 w hs
   refine .go ?_
   refine .E 6 hs ?_
   refine .store hs rfl rfl aC ?_;intro w hs
   refine .go ?_
   refine .E 7 hs ?_
   refine .store hs rfl rfl vq ?_;intro w hs
   refine .go ?_
   refine .D hs ?_
   exact nT ⟨b11,b14,a8,hs.sb⟩
 ·rintro s w ⟨bc,bb,hfs,hs⟩
  refine WE.sub ?_ hfs
  refine .seq (.aj (.y hs (zld fJ) (.z (cN aK) (.z zm (.nil ?_)))))
  refine .for (N:=N+1) (J:=fun k fr w=>fr=[(1,.func (.func gf) #[] cap.toArray),(0,I N),(4,.pointer (some ⟨b4,0,none⟩)),(5,.pointer (some ⟨b5,0,none⟩)),(6,.pointer (some ⟨b6,0,none⟩))]∧St H w (.blk b4 [.slice (some ⟨bc,0,none⟩) (N+1) (N+1)]:: .blk b5 [.slice (some ⟨bb,0,none⟩) (N+1) (N+1)]:: .blk b6 [.pointer none]:: .blk bc (Is (List.replicate (N+1) 0)):: .blk bb (jw (yU (N+1) k))::σ)) ak ?_ ?_ ?_
  ·exact .mk ⟨rfl,hs⟩
  ·rintro k fr w hk ⟨rfl,hs⟩
   have hkl:k<(yU (N+1) k).length:=by rw [yT ak];exact hk
   refine .block (.aj (.z zm (.z zg (.nil (.region (.y hs (zld fJ) (.z zm ?_)))))))
   first|(refine .ixw hs aK aP ?_;intro b22 o22 hc22)|refine .z (ou aK aP) ?_
   refine .z (zfa eh) ?_
   refine .o (.store hs rfl rfl ai ?_ cU (Am hkl ak) ((yw hkl _).trans (congrArg jw (DG hk))));intro w hs
   refine .nil ?_
   refine nB (nT ?_)
   exact .mk ⟨rfl,hs⟩
  ·rintro fr w ⟨rfl,hs⟩
   refine nT ?_
   refine .seq (.aj (.z zm (.z cH (.z zm (.nil ?_)))))
   refine .forD (N:=N+2) (J:=fun r ds fr w=>fr=[(1,.func (.func gf) #[] cap.toArray),(0,I N),(4,.pointer (some ⟨b4,0,none⟩)),(5,.pointer (some ⟨b5,0,none⟩)),(6,.pointer (some ⟨b6,0,none⟩))]∧∃Ds H1 s vo,ds=marks Ds∧HLe H H1∧uR (N+1) ar r 0 none s∧(r=0∨∃x,OvR H1 vo (some x)∧uR (N+1) ar (r - 1) ar.length (some x) s)∧St H1 w (.blk b4 [.slice (some ⟨bc,0,none⟩) (N+1) (N+1)]:: .blk b5 [.slice (some ⟨bb,0,none⟩) (N+1) (N+1)]:: .blk b6 [vo]:: .blk bc (Is s.cost):: .blk bb (jw s.by_)::(mes Ds++σ))) ak ?_ ?_ ?_
   ·exact .mk (ds:=[]) ⟨rfl,[],H,⟨List.replicate (N+1) 0,List.replicate (N+1) ⟨0,0,0,-1⟩⟩,_,rfl,HLe.refl _,uR.init ak,.inl rfl,by rw [BY] at hs;exact hs⟩
   ·rintro r ds fr w hr ⟨rfl,Ds,H1,s,vo,rfl,hle1,hN0,-,hs⟩
    refine .block (.aj ?_)
    refine .o (.store hs rfl rfl Tryz.sizeOf183 fun w hs=>?_)
    refine .nil (.seq (.aj (.z zm (.nil (.block ?_)))))
    refine .rangeFunc (gf:=gf) (cap:=cap) (xs:=ar.map fun x=>[.agg x.v.toArray]) (σb:=[.blk b4 [.slice (some ⟨bc,0,none⟩) (N+1) (N+1)],.blk b5 [.slice (some ⟨bb,0,none⟩) (N+1) (N+1)],.blk b6 [.pointer none],.blk bc (Is s.cost),.blk bb (jw s.by_)]) (σf:=mes Ds++σ) hs trivial rfl (hit.mono hle1) hc bQ rfl
     (I:=fun k H' σb=>∃s ov vo,σb=[.blk b4 [.slice (some ⟨bc,0,none⟩) (N+1) (N+1)],.blk b5 [.slice (some ⟨bb,0,none⟩) (N+1) (N+1)],.blk b6 [vo],.blk bc (Is s.cost),.blk bb (jw s.by_)]∧OvR H' vo ov∧uR (N+1) ar r k ov s) (Ix:=fun _ _ _=>False) (by rintro k _ _ σ g1 ⟨s,ov,vo,g2,g3,g4⟩;exact ⟨s,ov,vo,g2,g3.mono g1,g4⟩) (fun _ _ _ _ _ h=>h)
     ⟨s,none,_,rfl,rfl,hN0⟩ ?_ ?_ (fun D c H' σb w _ h _=>h.elim)
    ·rintro l k hk H2 σb2 σf2 w hle2 ⟨s,ov,vo,rfl,hov,hN⟩ hs ⟨rr,hrr⟩
     obtain ⟨x,hx⟩:=nth (l:=ar) (by simpa using hk)
     obtain ⟨c1,c2,c3,c4,c5,c6⟩:=hok.2 x (List.mem_of_getElem? hx)
     have hxk:(ar.map fun x=>[Value.agg x.v.toArray])[k]=[.agg x.v.toArray]:=by rw [List.getElem_map];rw [List.getElem?_eq_some_iff] at hx;obtain ⟨h1,h2⟩:=hx;rw [h2]
     rw [hxk]
     have hkl:k<ar.length:=by simpa using hk
     have hal:=hok.1
     have hlc:=hN.lc
     have hlb:=hN.lb
     have lo1:=hN.lo x.f c1
     have hi1:=hN.hi x.f c1
     refine .region ?_
     refine .o (.alloc hs eF rfl fun b8 w hs=>?_)
     refine .o (.aZ (vs:=x.v) hs rfl rfl aP fun w hs=>?_)
     refine .nil ?_
     refine nT ?_
     refine ⟨H2,[.blk b8 x.v,.blk b4 [.slice (some ⟨bc,0,none⟩) (N+1) (N+1)],.blk b5 [.slice (some ⟨bb,0,none⟩) (N+1) (N+1)],.blk b6 [vo],.blk bc (Is s.cost),.blk bb (jw s.by_)],HLe.refl _,hs,?_⟩;rintro w σf2 - hs
     refine .block ?_
     refine .seq (.draw mix rfl hs fun w hs=>?_)
     refine .y 0 rfl hs an ?_;refine .z 1 rfl (zfa dC) ?_;refine .y 2 rfl hs af ?_
     first|(refine .ixv 3 rfl hs ae ai ?_;intro b34 o34 hc34)|refine .z 3 rfl (zix ae ai) ?_
     refine .y 4 rfl hs af ?_;refine .z 5 rfl (zfa fF) ?_;refine .y 6 rfl hs af ?_;refine .z 7 rfl cH ?_;refine .y 8 rfl hs an ?_;refine .z 9 rfl (zfa dL) ?_;refine .y 10 rfl hs af ?_
     first|(refine .ixv 11 rfl hs ae ai ?_;intro b42 o42 hc42)|refine .z 11 rfl (zix ae ai) ?_
     refine .y 12 rfl hs af ?_;refine .z 13 rfl fD ?_;refine .D hs ?_
     refine (.bJ rfl (fun hc44=>?_) (fun hc44=>?_))
     ·refine .seq (.draw mix rfl hs fun w hs=>?_)
      refine .y 0 rfl hs an ?_;refine .z 1 rfl (zfa dL) ?_;refine .y 2 rfl hs af ?_;refine .y 3 rfl hs fJ ?_;refine .z 4 rfl (zfa dL) ?_;refine .y 5 rfl hs af ?_;refine .y 6 rfl hs an ?_;refine .z 7 rfl (zfa dC) ?_;refine .y 8 rfl hs af ?_
      first|(refine .ixv 9 rfl hs ae ai ?_;intro b54 o54 hc54)|refine .z 9 rfl (zix ae ai) ?_
      refine .y 10 rfl hs af ?_;refine .z 11 rfl (zfa fF) ?_;refine .y 12 rfl hs af ?_;refine .z 13 rfl cH ?_
      refine .yW (i:=14) (vs:=x.v) hs rfl aq .none rfl ic aP ?_
      first|(refine .ixv 15 rfl hs ae ai ?_;intro b60 o60 hc60)|refine .z 15 rfl (zix ae ai) ?_
      refine .E 16 hs ?_
      refine .store hs rfl rfl ai ?_;intro w hs
      refine .go ?_
      first|(refine .ixw 17 rfl hs aK aP ?_;intro b61 o61 hc61)|refine .z 17 rfl (ou aK aP) ?_
      refine .E 18 hs ?_
      refine .aZ (vs:=x.v) hs rfl rfl aP ?_;intro w hs
      refine .go ?_
      refine .D hs ?_
      refine .region ?_
      refine .o (.store hs rfl rfl Tryz.sizeOf183 fun w hs=>?_)
      refine .nil ?_
      refine nB ?_
      obtain ⟨H3,g1,g2,hs⟩:=hs.cO .here
      exact ⟨H3,_,g1,hs,s.rlx x,some x,_,rfl,⟨b8,rfl,g2⟩,hN.uV hok hx hc44⟩
     ·refine .skip ?_
      refine nB ?_
      exact ⟨H2,_,HLe.refl _,hs.tail,s,ov,vo,rfl,hov,hN.skip hok hx (by unfold BS.can;omega)⟩
    ·rintro D H2 σb2 w hle2 ⟨s,ov,vo,rfl,hov,hN⟩ hs
     obtain ⟨a',rfl,ha'⟩:=hov.ptr
     replace hs:St H2 w (.blk b4 [.slice (some ⟨bc,0,none⟩) (N+1) (N+1)]:: .blk b5 [.slice (some ⟨bb,0,none⟩) (N+1) (N+1)]:: .blk b6 [.pointer a']:: .blk bc (Is s.cost):: .blk bb (jw s.by_)::(mes (D::Ds)++σ)):=St.deep (σ1:=[_,_,_,_,_]) hs
     have hN:uR (N+1) ar r ar.length ov s:=by simpa using hN
     refine nB (nT ?_)
     refine .aj (.y hs (zld Tryz.isAgg183) ?_)
     refine .q hs (BI rfl rfl Tryz.runUnderlying183) ?_
     refine .nil ?_
     refine (.cond rfl (fun hc63=>?_) (fun hc63=>?_))
     ·refine .seq (.draw mix rfl hs fun w hs=>?_)
      refine .y 0 rfl hs an ?_;refine .y 1 rfl hs fJ ?_
      refine .E 2 hs ?_
      refine .store hs rfl rfl aC ?_;intro w hs
      refine .go ?_
      refine .E 3 hs ?_
      refine .store hs rfl rfl vq ?_;intro w hs
      refine .go ?_
      refine .E 4 hs ?_
      refine .store hs rfl rfl Tryz.sizeOf183 ?_;intro w hs
      refine .go ?_
      refine .D hs ?_
      refine .ret (rB (rT (rB (rT (?_)))))
      obtain ⟨rfl,rfl⟩:=OvR.no ha' hc63
      refine Fin.gR (D::Ds) [_,_,_,_,_] hs fun w hs=>⟨_,results3 Tryz.results126 (AB hs rfl an) (AB hs rfl fJ) (AB hs rfl Tryz.isAgg183),H2,bc,bb,s,none,_,hle1.trans hle2,rfl,hov,⟨r,hN,fun h=>(h rfl).elim⟩,hs.sb⟩
     ·refine .skip ?_
      refine nB (nT ?_)
      obtain ⟨x,rfl⟩:=OvR.yes ha' hc63
      exact .mk (ds:=marks (D::Ds)) ⟨rfl,D::Ds,H2,s,_,rfl,hle1.trans hle2,hN.next hok,.inr ⟨x,hov,hN⟩,hs⟩
   ·rintro ds fr w ⟨rfl,Ds,H1,s,vo,rfl,hle1,hN0,hor,hs⟩
    obtain ⟨x,hov,hN⟩:∃x,OvR H1 vo (some x)∧uR (N+1) ar (N+2 - 1) ar.length (some x) s:=hor.resolve_left ak
    obtain ⟨b3,rfl,hrow⟩:=hov
    refine nT ?_
    refine .seq (.draw mix rfl hs fun w hs=>?_)
    refine .y 0 rfl hs an ?_;refine .y 1 rfl hs fJ ?_;refine .y 2 rfl hs Tryz.isAgg183 ?_
    refine .E 3 hs ?_
    refine .store hs rfl rfl aC ?_;intro w hs
    refine .go ?_
    refine .E 4 hs ?_
    refine .store hs rfl rfl vq ?_;intro w hs
    refine .go ?_
    refine .E 5 hs ?_
    refine .store hs rfl rfl Tryz.sizeOf183 ?_;intro w hs
    refine .go ?_
    refine .D hs ?_
    refine .ret ?_
    refine Fin.gR Ds [_,_,_,_,_] hs fun w hs=>⟨_,results3 Tryz.results126 (AB hs rfl an) (AB hs rfl fJ) (AB hs rfl Tryz.isAgg183),H1,bc,bb,s,some x,_,hle1,rfl,⟨b3,rfl,hrow⟩,⟨N+1,hN,fun _=>rfl⟩,hs.sb⟩
theorem ju{v:Value}{s:dj}(hs:St H w σ)(hok:s.Ok)(hr:RSy H v s):
  Cl Tryz.prog 133 [v] w fun v w'=>∃H1 b,HLe H H1∧v= .bool b∧(b=true↔s.Sound)∧St H1 w' σ:=by
 obtain ⟨u,rfl,hr⟩:=hr
 obtain ⟨N,hN⟩:=Int.eq_ofNat_of_zero_le hok.m0
 have hN1:=hok.m1
 have hn:s.n=N+1:=by simp [dj.n,hN]
 have hoka:=hok.dG
 rw [hn] at hoka
 rw [hN]
 refine Cl.o Tryz.func133 Tryz.ntmps133 ag1 ?_
 refine .aj ?_
 refine .bx hs fun b1 w hs=>?_
 refine .z zg (.nil ?_)
 refine .seq (.draw mix rfl hs fun w hs=>?_)
 refine .z 0 rfl (zfa bA) ?_;refine .y 1 rfl hs af ?_;refine .ys 2 rfl hs [_,_] bp aM ?_
 refine .E 3 hs ?_
 refine .call Tryz.call127 rfl (kf (s:=s) hs hok ⟨u,by rw [hN],hr⟩) ?_;rintro _ w ⟨H1,b10,hle1,rfl,hit,hs⟩
 refine .go ?_
 refine .E 4 hs ?_
 refine .call Tryz.call126 rfl (lB hs ak hoka hit Tryz.call203) ?_;rintro _ w ⟨H2,bc,bb,st,ov,vo,hle2,rfl,hov,hnr,hs⟩
 obtain ⟨a',rfl,ha'⟩:=hov.ptr
 refine .go ?_
 refine .z 5 rfl zm ?_;refine .z 6 rfl zex ?_;refine .z 7 rfl zex ?_;refine .z 8 rfl zex ?_;refine .z 9 rfl zg ?_;refine .z 10 rfl zg ?_;refine .z 11 rfl zg ?_;refine .D hs ?_
 refine .aj (.z zm ?_)
 refine .q hs (BI rfl rfl Tryz.runUnderlying183) ?_
 refine .z zg (.nil ?_)
 refine .ret (Fin.bK Tryz.results133 rfl ?_)
 refine ⟨H2,_,hle1.trans hle2,rfl,?_,hs.out⟩
 obtain ⟨r,hN2,hr2⟩:=hnr
 cases ov with
 |none=>
  rw [ha']
  exact ⟨fun _=>⟨_,(hN2.sol hoka ak).1⟩,fun _=>rfl⟩
 |some x=>
  rw [ha']
  exact ⟨fun h=>(by cases h),fun h=>(hN2.none hoka ak (by have:=hr2 bQ;omega) h).elim⟩
theorem pA{c:Int}(hs:St H w σ)(hc:0≤c∧c<4294967296):Cl Tryz.prog 299 [.int .u64 1,.int .u64 c] w fun v w'=>v= .tuple #[.int .u64 0,.int .u64 c]∧St H w' σ:=by
 refine Cl.o Tryz.func299 Tryz.ntmps299 ag2 ?_
 refine .aj (.z zg (.z zg (.nil (.aj (.z zm ?_)))))
 first|refine .q hs (EU rfl rfl ⟨ak,ak⟩) ?_|refine .q hs (zM rfl rfl) ?_
 refine .z zg (.nil (.aj (.z zm ?_)))
 first|refine .q hs (xE rfl rfl ⟨ak,ak⟩) ?_|refine .q hs (AD rfl rfl gK) ?_
 refine .z zg (.nil (.aj (.z zm ?_)))
 first|refine .q hs (EU rfl rfl ⟨ak,ak⟩) ?_|refine .q hs (zM rfl rfl) ?_
 refine .z zg (.nil (.aj (.z zm ?_)))
 first|refine .q hs (xE rfl rfl ⟨ak,ak⟩) ?_|refine .q hs (AD rfl rfl gK) ?_
 refine .z zg (.nil (.aj (.z zm (.z zm (.z ki (.z zg (.nil (.aj (.z zm ?_)))))))))
 refine .z zm (.z ki (.z zm ?_))
 first|refine .q hs (xE rfl rfl ⟨ak,ak⟩) ?_|refine .q hs (AD rfl rfl gK) ?_
 refine .z cH (.z zg (.nil (.aj (.z zm ?_))))
 first|refine .q hs (EU rfl rfl ⟨ak,ak⟩) ?_|refine .q hs (zM rfl rfl) ?_
 refine .z zg (.nil (.aj (.z zm ?_)))
 first|refine .q hs (xE rfl rfl ⟨ak,ak⟩) ?_|refine .q hs (AD rfl rfl gK) ?_
 refine .z zg (.nil (.aj (.z zm (.z zm (.z zm (.z ki (.z cH (.z zg (.nil ?_)))))))))
 refine .aj (.z zm (.z zm (.z ki (.z zm (.z cH (.z zm ?_))))))
 first|refine .q hs (xE rfl rfl ⟨ak,ak⟩) ?_|refine .q hs (AD rfl rfl gK) ?_
 refine .z cH (.z zg (.nil (.aj (.z zm (.z zm (.z ki (.z zg (.nil ?_))))))))
 refine .ret (Fin.jx Tryz.results299 rfl rfl ?_)
 exact ⟨bQ,hs⟩
theorem rH{c:Int}(hs:St H w σ)(hc:0≤c∧c<4294967296):Cl Tryz.prog 297 [.int .u64 1,.int .u64 c] w fun v w'=>v= .tuple #[.int .u64 0,.int .u64 c]∧St H w' σ:=by
 refine Cl.o Tryz.func297 Tryz.ntmps297 ag2 ?_
 refine .aj (.z zg (.z zg (.nil ?_)))
 refine .seq (.cF ?_)
 refine .skip ?_
 refine nT ?_
 refine .aj (.z zm (.z zm ?_))
 refine .o (.call Tryz.call299 rfl (pA hs hc) ?_);rintro _ w ⟨rfl,hs⟩
 refine .z zm (.z zex (.z zex (.z zg (.z zg (.nil (.aj (.z zm (.z zm (.z zg ?_)))))))))
 refine .z zg (.nil ?_)
 refine .ret (Fin.jx Tryz.results297 rfl rfl ?_)
 exact ⟨rfl,hs⟩
theorem Ce{c k:Nat}{z:Int}:let n:=min k (c - k);(List.replicate k z++List.replicate (c - k) 0).take k++List.replicate n z++(List.replicate k z++List.replicate (c - k) 0).drop (k+n)=List.replicate (k+n) z++List.replicate (c - (k+n)) (0:Int):=by
 intro n
 have hn:n≤c - k:=Nat.min_le_right _ _
 have e0:(List.replicate k z).length=k:=by simp
 rw [List.take_left' e0]
 have e1:(List.replicate k z++List.replicate (c - k) 0).drop (k+n)=List.replicate (c - (k+n)) (0:Int):=by
  rw [show k+n=(List.replicate k z).length+n by simp,List.drop_append]
  simp
  omega
 rw [e1,List.replicate_append_replicate]
theorem rk{z:Int}{bx c:Nat}(hs:St H w σ)(hm:Mem σ (.blk bx (Is [z])))(h1:1≤c)(h2:c≤1000000):Cl Tryz.prog 288 [.slice (some ⟨bx,0,none⟩) 1 1,I c] w fun v w'=>∃b,v= .slice (some ⟨b,0,none⟩) c c∧St H w' (.blk b (Is (List.replicate c z))::σ):=by
 refine Cl.o Tryz.func288 Tryz.ntmps288 ag2 ?_
 refine .aj (.z zg (.nil (.seq (.aj (.z zm (.z fD (.nil ?_)))))))
 refine (.bJ rfl (fun hc10=>?_) (fun hc10=>?_))
 ·omega
 ·refine .skip ?_
  refine nT ?_
  refine .aj (.z zm (.z (cN ae) ?_))
  first|refine .q hs (yR rfl aV eZ ⟨ak,ak⟩) ?_|refine .q hs (yQ rfl aV eZ ⟨ak,ak⟩) ?_|refine .q hs (xF rfl aV eZ) ?_
  refine .z zm ?_
  first|refine .q hs (yR rfl aV eZ ⟨ak,ak⟩) ?_|refine .q hs (yQ rfl aV eZ ⟨ak,ak⟩) ?_|refine .q hs (xF rfl aV eZ) ?_
  refine .o (.call Tryz.call297 rfl (rH (c:=c) hs ak) ?_);rintro _ w ⟨rfl,hs⟩
  refine .z zm (.z zex (.z zex (.z zg (.z zg (.nil (.seq (.aj (.z zm (.z kD ?_)))))))))
  refine .z zm ?_
  refine .iB (t':=23) rfl (fun hb23=>?_) (fun hb23=>?_)
  ·refine .gFs 2 2 false rfl rfl rfl ?_
   refine .z zpT (.nil ?_)
   refine (.cT ?_)
   first|omega|(simp at hc26;omega)
  ·refine .gT rfl rfl ?_
   refine .z zm ?_
   refine .gT rfl rfl ?_
   refine .z kD (.z zpF (.nil ?_))
   refine (.bJ rfl (fun hc26=>?_) (fun hc26=>?_))
   ·first|omega|(simp at hc26;omega)
   ·refine .skip ?_
    refine nT ?_
    refine .aj (.z zm ?_)
    first|refine .q hs (yR rfl eZ aV ⟨ak,ak⟩) ?_|refine .q hs (yQ rfl eZ aV ⟨ak,ak⟩) ?_|refine .q hs (xF rfl eZ aV) ?_
    refine .o (.pD c hs rfl rfl ae dW rfl ai bO ak fun b30 w hs=>?_)
    refine .z zg (.nil (.aj (.z zm (.z zm ?_))))
    refine .o (.Gl (k:=1) (xs:=List.replicate c 0) (zs:=[z]) hs rfl rfl ⟨_,_,rfl⟩ ae ai ak rfl (yf (xs:=[z]) (.there hm) rfl rfl) (by simp;omega) ?_);intro w hs
    refine .z zg (.nil (.seq (.block ?_)))
    refine .loop (fun k:Nat=>⟨48,[],[(8,I k),(7,.slice (some ⟨b30,0,none⟩) c c)]⟩) (fun k w=>(1≤k∧k≤c)∧St H w (.blk b30 (Is (List.replicate k z++List.replicate (c - k) 0))::σ)) (fun k=>c - k) 1 a8 ⟨⟨ak,ak⟩,by
      have e:List.take 0 (List.replicate c (0:Int))++[z]++List.drop (0+1) (List.replicate c 0)=List.replicate 1 z++List.replicate (c - 1) 0:=by simp
      rw [e] at hs;exact hs⟩ ?_
    rintro k w ⟨⟨k1,k2⟩,hs⟩
    refine .seq (.aj (.z zm (.z zm (.z (cN ae) (.z fD (.nil ?_))))))
    refine (.bJ rfl (fun hc37=>?_) (fun hc37=>?_))
    ·refine .skip ?_
     refine nT ?_
     refine .block ?_
     refine .draw mix rfl hs fun w hs=>?_
     refine .z 0 rfl zm ?_;refine .z 1 rfl zm ?_;refine .z 2 rfl zm ?_
     refine .z 3 rfl (xD (k:=k) rfl rfl ae ai ak ak) ?_
     refine .z 4 rfl zm ?_;refine .z 5 rfl zm ?_
     refine .z 6 rfl (ud (k:=k) rfl rfl ae ai ak) ?_
     refine .E 7 hs ?_
     refine .Gl (k:=min k (c - k)) (xs:=List.replicate k z++List.replicate (c - k) 0) (zs:=List.replicate (min k (c - k)) z) hs rfl rfl ⟨_,_,rfl⟩ ae ai rfl bQ (yf (xs:=List.replicate k z++List.replicate (c - k) 0) .here (by rw [List.drop_zero,List.take_append_of_le_length (by simp;omega)];simp) bQ) (by simp;omega) ?_;intro w hs
     refine .go ?_
     refine .z 8 rfl cH ?_;refine .z 9 rfl zg ?_;refine .D hs ?_
     refine nB (nT ?_)
     exact ⟨k+min k (c - k),a8,⟨⟨ak,ak⟩,by
       have e:=Ce (z:=z) (c:=c) (k:=k)
       simp only [Nat.mul_one,Nat.zero_add] at hs
       rw [e] at hs;exact hs⟩,ak⟩
    ·refine .exit ?_
     refine xT (xT (xB (nT ?_)))
     refine .aj (.z zm (.z zg (.nil ?_)))
     refine .ret (Fin.bK Tryz.results288 rfl ?_)
     obtain rfl:k=c:=by omega
     exact ⟨b30,rfl,by simpa using hs⟩
theorem rl{v:Value}{xs:List Int}(hs:St H w σ)(hr:RI H v xs)(hx:xs.length≤17592186044416):Cl Tryz.prog 197 [v] w fun u w'=>∃en,(Gf v=true→Gf u=true)∧cz 1 u (Is xs) en∧St H w' (en::σ):=by
 obtain ⟨a,c,rfl⟩:=RI.shape hr
 have hl:=(RI.len hr).2.2
 refine Cl.o Tryz.func197 Tryz.ntmps197 ag1 ?_
 refine .aj (.z zg (.nil (.seq (.aj (.z zm ?_)))))
 refine .q hs (BH rfl rfl ae) ?_
 refine .nil ?_
 refine (.cond rfl (fun hc4=>?_) (fun hc4=>?_))
 ·refine .aj (.z zg (.nil ?_))
  refine .ret (rT (Fin.bK Tryz.results197 rfl ?_))
  obtain rfl:a=none:=by simpa using hc4
  obtain rfl:=hr.BT
  exact ⟨.nul,fun h=>h,.nil 1 none,hs.nul⟩
 ·refine .skip ?_
  refine nT ?_
  refine .aj ?_
  refine .o (.buildSlice (cells:=[]) hs fT rfl rfl fun b5 w hs=>?_)
  refine .z zm ?_
  refine .o (.Cu (xs:=[]) (ys:=Is xs) hs bg rfl rfl (.full rfl) (.ints hr) (by simp [Value.oneCell']) (fun l h=>by simp at h;omega) ?_);intro v7 en7 w hnn hO hs
  refine .z zg (.nil ?_)
  refine .ret (Fin.bK Tryz.results197 rfl ?_)
  exact ⟨en7,fun _=>hnn rfl,hO,hs⟩
theorem iT{v:Value}{xs:List Int}(hs:St H w σ)(hr:RI H v xs)(hx:xs.length≤17592186044416):Cl Tryz.prog 197 [v] w fun v w'=>∃en,cz 1 v (Is xs) en∧St H w' (en::σ):=
 (rl hs hr hx).mono fun _ _ ⟨en,_,h⟩=>⟨en,h⟩
theorem pb{v:Value}{l:List Arc}{en:Ent}(hs:St H w (en::σ))(ho:cz 4 v (jw l) en)(hl:l.length≤1000000):
  Cl Tryz.prog 289 [v] w fun _ w'=>∃en',cz 4 v (jw l.reverse) en'∧St H w' (en'::σ):=by
 rcases ho with ⟨a,rfl,h2,rfl⟩|⟨b,len,cap,sp,rfl,rfl,h2,h3,h4⟩
 ·obtain rfl:l=[]:=by
   have:=congrArg List.length h2
   rw [ea] at this
   exact List.length_eq_zero_iff.1 (by simp at this;omega)
  have hs:=hs.tail
  refine Cl.o Tryz.func289 Tryz.ntmps289 ag1 ?_
  refine .aj (.z zm (.z (cN aK) (.z gO (.z zg (.z zg (.nil (.block ?_)))))))
  refine .loop (fun _:Unit=>⟨28,[],[(2,I 0),(3,I (-1))]⟩) (fun _ w=>St H w σ) (fun _=>0) () a8 hs ?_
  rintro _ w hs
  refine .seq (.aj (.z zm (.z zm (.z fD (.nil ?_)))))
  refine (.bJ rfl (fun hc9=>?_) (fun hc9=>?_))
  ·omega
  ·refine .exit ?_
   refine xT (xT (xB ?_))
   exact Fin.yB Tryz.results289 ⟨.nul,.nil 4 a,hs.nul⟩
 obtain rfl:len=l.length:=by rw [ea] at h2;omega
 refine Cl.o Tryz.func289 Tryz.ntmps289 ag1 ?_
 refine .aj (.z zm (.z (cN aK) (.z gO (.z zg (.z zg (.nil (.block ?_)))))))
 refine .loop (fun p:Nat×List Arc=>⟨28,[],[(2,I p.1),(3,I ((l.length:Int) - 1 - p.1)),(0,.slice (some ⟨b,0,none⟩) l.length cap)]⟩) (fun p w=>(2*p.1≤l.length+1∧sv l p.2 p.1)∧St H w (.blk b (jw p.2++sp)::σ)) (fun p=>l.length - p.1) (0,l) (.cons rfl (.cn rfl bQ (.cons rfl (.nil rfl rfl)))) ⟨⟨bQ,.start l⟩,hs⟩ ?_
 rintro ⟨i,L⟩ w ⟨⟨h5,h6⟩,hs⟩
 dsimp only at h5 h6 hs ⊢
 have hL:=h6.1
 refine .seq (.aj (.z zm (.z zm (.z fD (.nil ?_)))))
 refine (.bJ rfl (fun hc9=>?_) (fun hc9=>?_))
 ·refine .skip ?_
  refine nT ?_
  refine .seq (.block ?_)
  refine .draw mix rfl hs fun w hs=>?_
  refine .z 0 rfl zm ?_;refine .z 1 rfl zm ?_;refine .z 2 rfl zm ?_;refine .z 3 rfl zm ?_;refine .z 4 rfl zm ?_;refine .z 5 rfl zm ?_
  refine .z 6 rfl (vM (k:=l.length - 1 - i) rfl rfl aK aP ak ak) ?_
  refine .yW (i:=7) (vs:=(ga L (l.length - 1 - i)).v) hs rfl aq .none rfl ic aP ?_ (hv:=uK ak sp)
  refine .z 8 rfl zm ?_;refine .z 9 rfl zm ?_
  first|(refine .ixw 10 rfl hs aK aP ?_;intro b24 o24 hc24)|refine .z 10 rfl (ou aK aP) ?_
  refine .yW (i:=11) (vs:=(ga L i).v) hs rfl aq .none rfl ic aP ?_ (hv:=uK ak sp)
  first|(refine .ixw 12 rfl hs aK aP ?_;intro b26 o26 hc26)|refine .z 12 rfl (ou aK aP) ?_
  refine .E 13 hs ?_
  refine .aZ (vs:=(ga L (l.length - 1 - i)).v) hs rfl rfl aP ?_ cU (uH ak sp) (sj ak _ sp);intro w hs
  refine .go ?_
  refine .z 14 rfl (vM (k:=l.length - 1 - i) rfl rfl aK aP ak ak) ?_
  refine .E 15 hs ?_
  refine .aZ (vs:=(ga L i).v) hs rfl rfl aP ?_ cU (uH (by simp;omega) sp) (sj (by simp;omega) _ sp);intro w hs
  refine .go ?_
  refine .D hs ?_
  refine nB (nT ?_)
  refine .region (.z zm (.z cH (.z zm (.z gO (.z zg (.z zg (.nil ?_)))))))
  refine nT ?_
  exact ⟨(i+1,_),.cons rfl (.cn rfl (by push_cast;omega) (.cons rfl (.nil rfl rfl))),⟨⟨by dsimp only;omega,h6.step ak⟩,hs⟩,by dsimp only;omega⟩
 ·refine .exit ?_
  refine xT (xT (xB ?_))
  rw [h6.done ak] at hs
  exact Fin.yB Tryz.results289 ⟨_,.inr ⟨b,l.length,cap,sp,rfl,rfl,by rw [ea];simp,by rw [←h3];simp [ea],h4⟩,hs⟩
theorem mZ{H:cE}{b1 bf bt bl cl:Nat}{s:dj}{ts lf:List Int}{vl:Value}{sp:List Value}(hok:s.Ok)(hb:Row H b1 [.pointer (some ⟨bf,0,none⟩)])(hF:vj H bf s ts lf vl bt bl cl sp)(hlt:ts.length=s.bU.length):
  ItA Tryz.prog 270 [.pointer (some ⟨b1,0,none⟩)] H (du s.dG ts):=by
 intro l II Ix hmI hmX hy H0 σb0 σf w hle hI0 hs
 have hb0:cellAt H0 b1 0=some (.pointer (some ⟨bf,0,none⟩)):=(hb.mono hle).at 0
 have hF0:=hF.mono hle
 have hsys:=hF0.f.cells 0 [I s.many,vl]
 have hlen:s.dG.length=ts.length:=by simp [dj.dG,fq,hlt]
 refine Cl.o Tryz.func270 Tryz.ntmps270 ag2 ?_
 refine .aj ?_
 refine .bx hs fun b2 w hs=>?_
 refine .nil (.aj (.y hs (zld qY) (.z znc (.z (zfa gx) ?_))))
 refine .q hs (cj (vs:=[I s.many,vl]) rfl bp aM hsys) ?_
 refine .o (.call Tryz.call127 rfl (kf (s:=s) hs hok ⟨vl,rfl,hF0.l⟩) ?_);rintro _ w ⟨H1,b8,hle1,rfl,hit,hs⟩
 refine .nil (.block ?_)
 refine .rangeFunc (gf:=203) (cap:=[.pointer (some ⟨b8,0,none⟩)]) (xs:=s.dG.map fun x:Arc=>[Value.agg x.v.toArray]) (σb:= .blk b2 [.func (.yield l) #[] #[]]::σb0) (σf:=σf) hs trivial rfl hit Tryz.call203 bQ rfl
  (I:=fun k H' σb=>∃σo,σb= .blk b2 [.func (.yield l) #[] #[]]::σo∧HLe H0 H'∧II (zO s.dG ts k) H' σo)
  (Ix:=fun c H' σb=>c= .ret∧∃σo,σb= .blk b2 [.func (.yield l) #[] #[]]::σo∧HLe H0 H'∧Ix H' σo)
  (fun k _ _ σ g1 ⟨σo,g2,g3,g4⟩=>⟨σo,g2,g3.trans g1,hmI _ _ _ _ g1 g4⟩) (fun c _ _ σ g1 ⟨g0,σo,g2,g3,g4⟩=>⟨g0,σo,g2,g3.trans g1,hmX _ _ _ g1 g4⟩)
  ⟨σb0,rfl,hle1,by rw [BN];exact hmI _ _ _ _ hle1 hI0⟩ ?_ ?_ ?_
 ·rintro l2 k hk H2 σb2 σf2 w hle2 ⟨σo,rfl,hle0,hIk⟩ hs ⟨rr,hrr⟩
  obtain ⟨x,hx⟩:=nth (l:=s.dG) (by simpa using hk)
  obtain ⟨c1,c2,c3,c4,c5,c6⟩:=hok.dG.2 x (List.mem_of_getElem? hx)
  have hxk:(s.dG.map fun x=>[Value.agg x.v.toArray])[k]=[.agg x.v.toArray]:=by rw [List.getElem_map];rw [List.getElem?_eq_some_iff] at hx;obtain ⟨h1,h2⟩:=hx;rw [h2]
  rw [hxk]
  have hkt:k<ts.length:=by rw [←hlen];simpa using hk
  have hxl:x.l=(k:Int):=qR hx
  obtain ⟨r1,r2,r3⟩:=Bx (ts:=ts) hx hkt
  refine .region ?_
  refine .o (.alloc hs eF rfl fun b3 w hs=>?_)
  refine .o (.aZ (vs:=x.v) hs rfl rfl aP fun w hs=>?_)
  refine .nil ?_
  refine nT ?_
  refine ⟨H2,.blk b3 x.v:: .blk b2 [.func (.yield l) #[] #[]]::σo,HLe.refl _,hs,?_⟩;rintro w σf2 - hs
  refine .block (.seq (.aj ?_))
  refine .y hs (zld Tryz.isAgg245) ?_
  refine .q hs (kN (vs:=x.v) rfl ic aP) ?_
  have hyd:=hy (zO s.dG ts k) (by simpa using (List.getElem?_eq_some_iff.1 r1).1) H2 σo (.blk b3 x.v:: .blk b2 [.func (.yield l) #[] #[]]::σf2) w (hle.trans hle0) hIk (St.deep (σ1:=σo) (St.deep (σ1:= .blk b3 x.v::σo) (hs.perm (.swap _ _ _))))
  rw [B0 r1] at hyd
  refine .o (.yield (vs:=[.agg x.v.toArray]) rfl rfl hyd ?_);rintro v12 w ⟨H3,σ3,hle3,hs,g3⟩
  obtain ⟨bb,rfl,gT,gF⟩:=oZ g3
  replace hs:St H3 w (.blk b3 x.v:: .blk b2 [.func (.yield l) #[] #[]]::(σ3++σf2)):=(St.shallow (σ1:= .blk b3 x.v::σ3) (St.shallow (σ1:=σ3) hs)).perm (.swap _ _ _)
  refine .z iD (.nil ?_)
  refine (.cond rfl (fun hc13=>?_) (fun hc13=>?_))
  ·refine .ret (rT (rB (?_)))
   exact ⟨H3,.blk b2 [.func (.yield l) #[] #[]]::σ3,hle3,hs.tail,rfl,σ3,rfl,hle0.trans hle3,gF (by simpa using hc13)⟩
  ·refine .skip ?_
   refine nT ?_
   refine .seq (.draw mix rfl hs fun w hs=>?_)
   have hb3:cellAt H3 b1 0=some (.pointer (some ⟨bf,0,none⟩)):=cellAt.mono hb0 (hle0.trans hle3)
   have hf3:cellAt H3 bf 2=some (.slice (some ⟨bt,0,none⟩) ts.length ts.length):=((hF0.mono (hle0.trans hle3)).f).at 2
   have ht3:cellAt H3 bt k=some (I (gi ts k)):=((hF0.mono (hle0.trans hle3)).t).at k (fk hkt)
   have hI3:=gT (by simpa using hc13)
   refine .r (i:=0) hs rfl aq .none (aO rfl qY hb3) ?_
   refine .z 1 rfl znc ?_;refine .z 2 rfl (zfa ir) ?_;refine .y 3 rfl hs an ?_;refine .z 4 rfl (zfa eh) ?_;refine .y 5 rfl hs af ?_
   refine .z 6 rfl (ef (k:=k) rfl rfl ae ai hxl hkt) ?_
   refine .r (i:=7) hs rfl aq .none (aO rfl af ht3) ?_
   refine .z 8 rfl kD ?_;refine .z 9 rfl zm ?_
   refine .iB (t':=23) rfl (fun hb23=>?_) (fun hb23=>?_)
   ·refine .y 10 rfl hs Tryz.isAgg245 ?_
    refine .z 11 rfl (zfa dL) ?_;refine .y 12 rfl hs af ?_;refine .z 13 rfl (zfa dC) ?_;refine .y 14 rfl hs af ?_;refine .z 15 rfl (zfa fF) ?_;refine .y 16 rfl hs af ?_;refine .z 17 rfl zv ?_;refine .z 18 rfl (zfa eh) ?_;refine .y 19 rfl hs af ?_;refine .z 20 rfl (zbd [_,_,_,_] oW) ?_
    refine .E 21 hs ?_
    obtain ⟨r4,r5⟩:=r2 hb23
    have hyd:=hy (zO s.dG ts k+1) (by simpa using (List.getElem?_eq_some_iff.1 r4).1) H3 σ3 (.blk b3 x.v:: .blk b2 [.func (.yield l) #[] #[]]::σf2) w (hle.trans (hle0.trans hle3)) hI3 (St.deep (σ1:=σ3) (St.deep (σ1:= .blk b3 x.v::σ3) (hs.perm (.swap _ _ _))))
    rw [B0 r4] at hyd
    refine .yield (vs:=[.agg x.back.v.toArray]) rfl rfl hyd ?_;rintro v35 w ⟨H4,σ4,hle4,hs,g4⟩
    obtain ⟨bb4,rfl,gT4,gF4⟩:=oZ g4
    replace hs:St H4 w (.blk b3 x.v:: .blk b2 [.func (.yield l) #[] #[]]::(σ4++σf2)):=(St.shallow (σ1:= .blk b3 x.v::σ4) (St.shallow (σ1:=σ4) hs)).perm (.swap _ _ _)
    refine .go ?_
    refine .z 22 rfl iD ?_;refine .z 23 rfl zpT ?_;refine .D hs ?_
    refine (.cond rfl (fun hc37=>?_) (fun hc37=>?_))
    ·refine .ret (rB (?_))
     exact ⟨H4,.blk b2 [.func (.yield l) #[] #[]]::σ4,hle3.trans hle4,hs.tail,rfl,σ4,rfl,hle0.trans (hle3.trans hle4),gF4 (by simpa using hc37)⟩
    ·refine .skip ?_
     refine nB ?_
     exact ⟨H4,.blk b2 [.func (.yield l) #[] #[]]::σ4,hle3.trans hle4,hs.tail,σ4,rfl,hle0.trans (hle3.trans hle4),by rw [r5];exact gT4 (by simpa using hc37)⟩
   ·refine .qF (i:=10) rfl aq rfl rfl ?_
    refine .qF (i:=11) rfl aq rfl rfl ?_
    refine .qF (i:=12) rfl aq rfl rfl ?_
    refine .qF (i:=13) rfl aq rfl rfl ?_
    refine .qF (i:=14) rfl aq rfl rfl ?_
    refine .qF (i:=15) rfl aq rfl rfl ?_
    refine .qF (i:=16) rfl aq rfl rfl ?_
    refine .qF (i:=17) rfl aq rfl rfl ?_
    refine .qF (i:=18) rfl aq rfl rfl ?_
    refine .qF (i:=19) rfl aq rfl rfl ?_
    refine .qF (i:=20) rfl aq rfl rfl ?_
    refine .qF (i:=21) rfl aq rfl rfl ?_
    refine .qF (i:=22) rfl aq rfl rfl ?_
    refine .z 23 rfl zpF ?_;refine .D hs ?_
    refine (.cF ?_)
    refine .skip ?_
    refine nB ?_
    exact ⟨H3,.blk b2 [.func (.yield l) #[] #[]]::σ3,hle3,hs.tail,σ3,rfl,hle0.trans hle3,by rw [r3 hb23];exact hI3⟩
 ·rintro D H2 σb2 w hle2 ⟨σo,rfl,hle0,hIk⟩ hs
  refine nB ?_
  exact Fin.GB [D] [] hs.zD fun w hs=>⟨_,results0 Tryz.results270,H2,σo,hle0,hs,.inl (by simpa [Dv hlen] using hIk)⟩
 ·rintro D c H2 σb2 w hle2 ⟨rfl,σo,rfl,hle0,hx⟩ hs
  exact .ret (rB (Fin.gR [D] [] hs.zD fun w hs=>⟨_,results0 Tryz.results270,H2,σo,hle0,hs,.inr hx⟩))
theorem oG{bf bt bl cl:Nat}{s:dj}{ts lf:List Int}{vl:Value}{sp:List Value}(hs:St H w σ)(hok:s.Ok)(hF:vj H bf s ts lf vl bt bl cl sp)(hlt:ts.length=s.bU.length):
  Cl Tryz.prog 223 [.pointer (some ⟨bf,0,none⟩)] w fun v w'=>∃H1 b,HLe H H1∧v= .func (.func 270) #[] #[.pointer (some ⟨b,0,none⟩)]∧ItA Tryz.prog 270 [.pointer (some ⟨b,0,none⟩)] H1 (du s.dG ts)∧St H1 w' σ:=by
 refine Cl.o Tryz.func223 Tryz.ntmps223 ag1 ?_
 refine .aj ?_
 refine .bx hs fun b1 w hs=>?_
 refine .z zg (.nil (.aj ?_))
 refine .q hs (dX (f:=[]) (c:=[_]) rfl rfl) ?_
 refine .z zg (.nil ?_)
 refine .ret (Fin.bK Tryz.results223 rfl ?_)
 obtain ⟨H1,g1,g2,hs⟩:=hs.cO .here
 exact ⟨H1,b1,g1,rfl,mZ hok g2 (hF.mono g1) hlt,hs⟩
theorem pI{bf bt bl cl to:Nat}{s:dj}{ts lf:List Int}{vl:Value}{sp:List Value}(hs:St H w σ)(hok:s.Ok)(hF:vj H bf s ts lf vl bt bl cl sp)(hlt:ts.length=s.bU.length)(hll:lf.length=s.n)
  (hD:∃p,ia (du s.dG ts) p) (hto:to<s.n) (hpos:0<gi lf to):
  Cl Tryz.prog 268 [.pointer (some ⟨bf,0,none⟩),I to] w fun v w'=>∃H1 p en,HLe H H1∧cz 4 v (jw p) en∧St H1 w' (en::σ)∧GZ s.n s.dG ts lf p to:=by
 obtain ⟨N,hN⟩:=Int.eq_ofNat_of_zero_le hok.m0
 have hN1:=hok.m1
 have hn:s.n=N+1:=by simp [dj.n,hN]
 have hoka:=hok.dG
 have hlen:s.dG.length=ts.length:=by simp [dj.dG,fq,hlt]
 rw [hn] at hoka hll hto ⊢
 obtain ⟨D,hg⟩:=zF ak ak hoka hlen hD
 have hf0:cellAt H bf 0=some (I (N:Int)):=by have:=hF.f.at 0 (v:=I s.many);rwa [hN] at this
 have hf3:cellAt H bf 3=some (.slice (some ⟨bl,0,none⟩) lf.length cl):=hF.f.at 3
 refine Cl.o Tryz.func268 Tryz.ntmps268 ag2 ?_
 refine .aj ?_
 refine .bx hs fun b2 w hs=>?_
 refine .z zg (.nil (.aj ?_))
 refine .o (.buildSlice (cells:=[_]) hs bX rfl rfl fun b13 w hs=>?_)
 refine .y hs (zld qY) (.z znc (.z (zfa gx) (.z (zfa bA) (.y hs (zld af) (.z cH ?_)))))
 refine .o (.call Tryz.call288 rfl (rk (z:=far) (c:=N+1) hs .here ak ak) ?_);rintro _ w ⟨bc,rfl,hs⟩
 refine .o (.alloc hs dV rfl fun b5 w hs=>?_)
 refine .o (.store hs rfl rfl aC fun w hs=>?_)
 refine .nil (.aj (.y hs (zld qY) (.z znc (.z (zfa gx) (.z (zfa bA) (.y hs (zld af) (.z cH ?_)))))))
 refine .o (.DI (N+1) hs rfl rfl aK zu rfl aP eF ak fun b27 w hs=>?_)
 refine .o (.alloc hs Tryz.zeroValue182 rfl fun b6 w hs=>?_)
 refine .o (.store hs rfl rfl vq fun w hs=>?_)
 refine .nil (.seq (.aj (.y hs (zld qY) (.z znc (.z (zfa ek) (.y hs (zld an) (.z (cN ae) (.z zm (.nil ?_)))))))))
 refine .for (N:=lf.length) (J:=fun k fr w=>fr=[(31,.slice (some ⟨bl,0,none⟩) lf.length cl),(5,.pointer (some ⟨b5,0,none⟩)),(6,.pointer (some ⟨b6,0,none⟩)),(2,.pointer (some ⟨b2,0,none⟩)),(1,I to)]∧∃st,uI (N+1) lf k st∧St H w (.blk b6 [.slice (some ⟨b27,0,none⟩) (N+1) (N+1)]:: .blk b27 (jw st.by_):: .blk b5 [.slice (some ⟨bc,0,none⟩) (N+1) (N+1)]:: .blk bc (Is st.cost):: .blk b2 [.pointer (some ⟨bf,0,none⟩)]::σ)) ak ?_ ?_ ?_
 ·exact .mk ⟨rfl,_,.start _ _,hs.sb⟩
 ·rintro k fr w hk ⟨rfl,st,hI,hs⟩
  have hck:cellAt H bl k=some (I (gi lf k)):=hF.d.at k (nS (bE hk) sp)
  have hlc:=hI.lc
  have hlb:=hI.lb
  have hkb:k<st.by_.length:=by omega
  refine .block (.aj (.z zm ?_))
  first|(refine .ixv hs ae ai ?_;intro b36 o36 hc36)|refine .z (zix ae ai) ?_
  refine .q hs (aO rfl af hck) ?_
  refine .z zg (.z zg (.nil (.aj (.z zm (.z fD (.nil ?_))))))
  refine (.bJ rfl (fun hc39=>?_) (fun hc39=>?_))
  ·refine .aj (.y hs (zld an) (.z zm ?_))
   first|(refine .ixv hs ae ai ?_;intro b42 o42 hc42)|refine .z (zix ae ai) ?_
   refine .o (.store hs rfl rfl ai fun w hs=>?_)
   refine .nil (.region (.y hs (zld fJ) (.z zm ?_)))
   first|(refine .ixw hs aK aP ?_;intro b45 o45 hc45)|refine .z (ou aK aP) ?_
   refine .z (zfa eh) ?_
   refine .o (.store hs rfl rfl ai ?_ cU (Am hkb ak) (yw hkb _));intro w hs
   refine .nil ?_
   refine nB (nT ?_)
   exact .mk ⟨rfl,_,hI.take ak hc39,hs⟩
  ·refine .skip ?_
   refine nB (nT ?_)
   exact .mk ⟨rfl,_,hI.skip hc39,hs⟩
 ·rintro fr w ⟨rfl,st0,hI0,hs⟩
  rw [hll] at hI0
  have hW0:=hI0.inv hg
  refine nT ?_
  refine .seq (.aj ?_)
  refine .o (.alloc hs Tryz.zeroValue4 rfl fun b9 w hs=>?_)
  refine .o (.store hs rfl rfl lN fun w hs=>?_)
  refine .nil (.block ?_)
  refine .loop (fun p:Nat×List Nat×cE×BS×Bool=>⟨141,marks p.2.1,[(9,.pointer (some ⟨p.1,0,none⟩)),(5,.pointer (some ⟨b5,0,none⟩)),(6,.pointer (some ⟨b6,0,none⟩)),(2,.pointer (some ⟨b2,0,none⟩)),(1,I to)]⟩)
   (fun p w=>HLe H p.2.2.1∧(∃j,tk (N+1) (du s.dG ts) (fun v=>gi lf v<0) D j p.2.2.2.2 p.2.2.2.1∧(p.2.2.2.2=false→j=(du s.dG ts).length))∧
    St p.2.2.1 w (.blk p.1 [.bool p.2.2.2.2]:: .blk b6 [.slice (some ⟨b27,0,none⟩) (N+1) (N+1)]:: .blk b27 (jw p.2.2.2.1.by_):: .blk b5 [.slice (some ⟨bc,0,none⟩) (N+1) (N+1)]:: .blk bc (Is p.2.2.2.1.cost):: .blk b2 [.pointer (some ⟨bf,0,none⟩)]::(mes p.2.1++σ)))
   (fun p=>2*WM (N+1) D p.2.2.2.1+(if p.2.2.2.2=true then 1 else 0)) (b9,[],H,st0,true) a8 ⟨HLe.refl _,⟨0,hW0,fun h=>by cases h⟩,hs⟩ ?_
  rintro ⟨b9,Ds,H1,st,ag⟩ w ⟨hle1,⟨j,hW,hj⟩,hs⟩
  dsimp only at hle1 hW hj hs ⊢
  have hlc:=hW.lc
  have hlb:=hW.lb
  refine .seq (.aj (.y hs (zld sd) (.nil ?_)))
  refine (.cond rfl (fun hc48=>?_) (fun hc48=>?_))
  ·refine .skip ?_
   refine nT ?_
   refine .seq (.block (.aj ?_))
   subst hc48
   refine .o (.store hs rfl rfl lN fun w hs=>?_)
   refine .nil (.aj (.y hs (zld qY) ?_))
   refine .o (.call Tryz.call223 rfl (oG hs hok (hF.mono hle1) hlt) ?_);rintro _ w ⟨H2,b50,hle2,rfl,hit,hs⟩
   refine .nil (.block ?_)
   refine .rangeFunc (gf:=270) (cap:=[.pointer (some ⟨b50,0,none⟩)]) (xs:=(du s.dG ts).map fun x:Arc=>[Value.agg x.v.toArray])
    (σb:=[.blk b9 [.bool false],.blk b6 [.slice (some ⟨b27,0,none⟩) (N+1) (N+1)],.blk b27 (jw st.by_),.blk b5 [.slice (some ⟨bc,0,none⟩) (N+1) (N+1)],.blk bc (Is st.cost),.blk b2 [.pointer (some ⟨bf,0,none⟩)]]) (σf:=mes Ds++σ) hs trivial rfl hit Tryz.call270 bQ rfl
    (I:=fun k H' σb=>HLe H2 H'∧∃st' ag,σb=[.blk b9 [.bool ag],.blk b6 [.slice (some ⟨b27,0,none⟩) (N+1) (N+1)],.blk b27 (jw st'.by_),.blk b5 [.slice (some ⟨bc,0,none⟩) (N+1) (N+1)],.blk bc (Is st'.cost),.blk b2 [.pointer (some ⟨bf,0,none⟩)]]∧
     tk (N+1) (du s.dG ts) (fun v=>gi lf v<0) D k ag st'∧WM (N+1) D st'≤WM (N+1) D st∧(ag=true→WM (N+1) D st'<WM (N+1) D st)) (Ix:=fun _ _ _=>False)
    (by rintro k _ _ σ g1 ⟨g2,g3⟩;exact ⟨g2.trans g1,g3⟩) (fun _ _ _ _ _ h=>h) ⟨HLe.refl _,st,false,rfl,hW.next,Nat.le_refl _,fun h=>by cases h⟩ ?_ ?_ (fun D c H' σb w _ h _=>h.elim)
   ·rintro l k hk H3 σb3 σf3 w hle3 ⟨hle23,st',ag,rfl,hW',hm1,hm2⟩ hs ⟨rr,hrr⟩
    obtain ⟨x,hx⟩:=nth (l:=du s.dG ts) (by simpa using hk)
    obtain ⟨c1,c2,c3,c4,c5,c6⟩:=hg.ok x (List.mem_of_getElem? hx)
    rw [B0 hx]
    have hlc':=hW'.lc
    have hlb':=hW'.lb
    have lo1:=hW'.lo x.f c1
    have lo2:=hg.d1 x.f c1
    have hx3:cellAt H3 bl x.t=some (I (gi lf x.t)):=((hF.mono (hle1.trans (hle2.trans hle3))).d).at x.t (nS (bE ak) sp)
    have hf33:cellAt H3 bf 3=some (.slice (some ⟨bl,0,none⟩) lf.length cl):=cellAt.mono hf3 (hle1.trans (hle2.trans hle3))
    refine .region ?_
    refine .o (.alloc hs eF rfl fun b10 w hs=>?_)
    refine .o (.aZ (vs:=x.v) hs rfl rfl aP fun w hs=>?_)
    refine .nil ?_
    refine nT ?_
    refine ⟨H3,[.blk b10 x.v,.blk b9 [.bool ag],.blk b6 [.slice (some ⟨b27,0,none⟩) (N+1) (N+1)],.blk b27 (jw st'.by_),.blk b5 [.slice (some ⟨bc,0,none⟩) (N+1) (N+1)],.blk bc (Is st'.cost),.blk b2 [.pointer (some ⟨bf,0,none⟩)]],HLe.refl _,hs,?_⟩;rintro w σf4 - hs
    refine .block ?_
    refine .seq (.draw mix rfl hs fun w hs=>?_)
    refine .y 0 rfl hs an ?_;refine .z 1 rfl (zfa dC) ?_;refine .y 2 rfl hs af ?_
    first|(refine .ixv 3 rfl hs ae ai ?_;intro b55 o55 hc55)|refine .z 3 rfl (zix ae ai) ?_
    refine .y 4 rfl hs af ?_;refine .z 5 rfl fD ?_;refine .z 6 rfl zm ?_
    refine .iB (t':=58) rfl (fun hb58=>?_) (fun hb58=>?_)
    ·refine .y 7 rfl hs an ?_;refine .z 8 rfl (zfa dC) ?_;refine .y 9 rfl hs af ?_
     first|(refine .ixv 10 rfl hs ae ai ?_;intro b62 o62 hc62)|refine .z 10 rfl (zix ae ai) ?_
     refine .y 11 rfl hs af ?_;refine .z 12 rfl (zfa fF) ?_;refine .y 13 rfl hs af ?_;refine .z 14 rfl cH ?_;refine .y 15 rfl hs an ?_;refine .z 16 rfl (zfa dL) ?_;refine .y 17 rfl hs af ?_
     first|(refine .ixv 18 rfl hs ae ai ?_;intro b70 o70 hc70)|refine .z 18 rfl (zix ae ai) ?_
     refine .y 19 rfl hs af ?_;refine .z 20 rfl fD ?_;refine .z 21 rfl zpT ?_;refine .z 22 rfl zm ?_
     refine .iB (t':=74) rfl (fun hb74=>?_) (fun hb74=>?_)
     ·refine .y 23 rfl hs qY ?_;refine .z 24 rfl znc ?_;refine .z 25 rfl (zfa ek) ?_;refine .y 26 rfl hs an ?_;refine .z 27 rfl (zfa dL) ?_;refine .y 28 rfl hs af ?_
      first|(refine .ixv 29 rfl hs ae ai ?_;intro b81 o81 hc81)|refine .z 29 rfl (zix ae ai) ?_
      refine .y 30 rfl hs af ?_;refine .z 31 rfl yA ?_;refine .z 32 rfl zm ?_
      refine .iB (t':=84) rfl (fun hb84=>?_) (fun hb84=>?_)
      ·refine .qF (i:=33) rfl aq rfl rfl ?_
       refine .qF (i:=34) rfl aq rfl rfl ?_
       refine .qF (i:=35) rfl aq rfl rfl ?_
       refine .qF (i:=36) rfl aq rfl rfl ?_
       refine .qF (i:=37) rfl aq rfl rfl ?_
       refine .qF (i:=38) rfl aq rfl rfl ?_
       refine .qF (i:=39) rfl aq rfl rfl ?_
       refine .qF (i:=40) rfl aq rfl rfl ?_
       refine .qF (i:=41) rfl aq rfl rfl ?_
       refine .z 42 rfl zpT ?_;refine .z 43 rfl zpT ?_;refine .D hs ?_
       refine (.cT ?_)
       refine .draw mix rfl hs fun w hs=>?_
       refine .y 0 rfl hs an ?_;refine .z 1 rfl (zfa dL) ?_;refine .y 2 rfl hs af ?_;refine .y 3 rfl hs fJ ?_;refine .z 4 rfl (zfa dL) ?_;refine .y 5 rfl hs af ?_;refine .y 6 rfl hs an ?_;refine .z 7 rfl (zfa dC) ?_;refine .y 8 rfl hs af ?_
       first|(refine .ixv 9 rfl hs ae ai ?_;intro b105 o105 hc105)|refine .z 9 rfl (zix ae ai) ?_
       refine .y 10 rfl hs af ?_;refine .z 11 rfl (zfa fF) ?_;refine .y 12 rfl hs af ?_;refine .z 13 rfl cH ?_
       refine .yW (i:=14) (vs:=x.v) hs rfl aq .none rfl ic aP ?_
       first|(refine .ixv 15 rfl hs ae ai ?_;intro b111 o111 hc111)|refine .z 15 rfl (zix ae ai) ?_
       refine .E 16 hs ?_
       refine .store hs rfl rfl ai ?_;intro w hs
       refine .go ?_
       first|(refine .ixw 17 rfl hs aK aP ?_;intro b112 o112 hc112)|refine .z 17 rfl (ou aK aP) ?_
       refine .E 18 hs ?_
       refine .aZ (vs:=x.v) hs rfl rfl aP ?_;intro w hs
       refine .go ?_
       refine .E 19 hs ?_
       refine .store hs rfl rfl lN ?_;intro w hs
       refine .go ?_
       refine .D hs ?_
       refine nB ?_
       have:=hW'.less hg hx hb58 hb74
       exact ⟨H3,_,HLe.refl _,hs.tail,hle23,st'.rlx x,true,rfl,hW'.uV hg hx hb58 hb74,ak,fun _=>by omega⟩
      ·refine .y 33 rfl hs an ?_;refine .z 34 rfl (zfa dC) ?_;refine .y 35 rfl hs af ?_
       first|(refine .ixv 36 rfl hs ae ai ?_;intro b88 o88 hc88)|refine .z 36 rfl (zix ae ai) ?_
       refine .y 37 rfl hs af ?_;refine .z 38 rfl (zfa fF) ?_;refine .y 39 rfl hs af ?_;refine .z 40 rfl cH ?_;refine .z 41 rfl fD ?_;refine .z 42 rfl zpF ?_;refine .z 43 rfl zpT ?_;refine .D hs ?_
       refine (.bJ rfl (fun hc95=>?_) (fun hc95=>?_))
       ·refine .draw mix rfl hs fun w hs=>?_
        refine .y 0 rfl hs an ?_;refine .z 1 rfl (zfa dL) ?_;refine .y 2 rfl hs af ?_;refine .y 3 rfl hs fJ ?_;refine .z 4 rfl (zfa dL) ?_;refine .y 5 rfl hs af ?_;refine .y 6 rfl hs an ?_;refine .z 7 rfl (zfa dC) ?_;refine .y 8 rfl hs af ?_
        first|(refine .ixv 9 rfl hs ae ai ?_;intro b105 o105 hc105)|refine .z 9 rfl (zix ae ai) ?_
        refine .y 10 rfl hs af ?_;refine .z 11 rfl (zfa fF) ?_;refine .y 12 rfl hs af ?_;refine .z 13 rfl cH ?_
        refine .yW (i:=14) (vs:=x.v) hs rfl aq .none rfl ic aP ?_
        first|(refine .ixv 15 rfl hs ae ai ?_;intro b111 o111 hc111)|refine .z 15 rfl (zix ae ai) ?_
        refine .E 16 hs ?_
        refine .store hs rfl rfl ai ?_;intro w hs
        refine .go ?_
        first|(refine .ixw 17 rfl hs aK aP ?_;intro b112 o112 hc112)|refine .z 17 rfl (ou aK aP) ?_
        refine .E 18 hs ?_
        refine .aZ (vs:=x.v) hs rfl rfl aP ?_;intro w hs
        refine .go ?_
        refine .E 19 hs ?_
        refine .store hs rfl rfl lN ?_;intro w hs
        refine .go ?_
        refine .D hs ?_
        refine nB ?_
        have:=hW'.less hg hx hb58 hb74
        exact ⟨H3,_,HLe.refl _,hs.tail,hle23,st'.rlx x,true,rfl,hW'.uV hg hx hb58 hb74,ak,fun _=>by omega⟩
       ·refine .skip ?_
        refine nB ?_
        have:=hW'.src x.t c2 ak
        omega
     ·refine .qF (i:=23) rfl aq rfl rfl ?_
      refine .qF (i:=24) rfl aq rfl rfl ?_
      refine .qF (i:=25) rfl aq rfl rfl ?_
      refine .qF (i:=26) rfl aq rfl rfl ?_
      refine .qF (i:=27) rfl aq rfl rfl ?_
      refine .qF (i:=28) rfl aq rfl rfl ?_
      refine .qF (i:=29) rfl aq rfl rfl ?_
      refine .qF (i:=30) rfl aq rfl rfl ?_
      refine .qF (i:=31) rfl aq rfl rfl ?_
      refine .qF (i:=32) rfl aq rfl rfl ?_
      refine .qF (i:=33) rfl aq rfl rfl ?_
      refine .qF (i:=34) rfl aq rfl rfl ?_
      refine .qF (i:=35) rfl aq rfl rfl ?_
      refine .qF (i:=36) rfl aq rfl rfl ?_
      refine .qF (i:=37) rfl aq rfl rfl ?_
      refine .qF (i:=38) rfl aq rfl rfl ?_
      refine .qF (i:=39) rfl aq rfl rfl ?_
      refine .qF (i:=40) rfl aq rfl rfl ?_
      refine .qF (i:=41) rfl aq rfl rfl ?_
      refine .qF (i:=42) rfl aq rfl rfl ?_
      refine .z 43 rfl zpF ?_;refine .D hs ?_
      refine (.cF ?_)
      refine .skip ?_
      refine nB ?_
      exact ⟨H3,_,HLe.refl _,hs.tail,hle23,st',ag,rfl,hW'.skip hx (fun h=>hb74 h.2),hm1,hm2⟩
    ·refine .qF (i:=7) rfl aq rfl rfl ?_
     refine .qF (i:=8) rfl aq rfl rfl ?_
     refine .qF (i:=9) rfl aq rfl rfl ?_
     refine .qF (i:=10) rfl aq rfl rfl ?_
     refine .qF (i:=11) rfl aq rfl rfl ?_
     refine .qF (i:=12) rfl aq rfl rfl ?_
     refine .qF (i:=13) rfl aq rfl rfl ?_
     refine .qF (i:=14) rfl aq rfl rfl ?_
     refine .qF (i:=15) rfl aq rfl rfl ?_
     refine .qF (i:=16) rfl aq rfl rfl ?_
     refine .qF (i:=17) rfl aq rfl rfl ?_
     refine .qF (i:=18) rfl aq rfl rfl ?_
     refine .qF (i:=19) rfl aq rfl rfl ?_
     refine .qF (i:=20) rfl aq rfl rfl ?_
     refine .z 21 rfl zpF ?_;refine .z 22 rfl zm ?_
     refine .qF (i:=23) rfl aq rfl rfl ?_
     refine .qF (i:=24) rfl aq rfl rfl ?_
     refine .qF (i:=25) rfl aq rfl rfl ?_
     refine .qF (i:=26) rfl aq rfl rfl ?_
     refine .qF (i:=27) rfl aq rfl rfl ?_
     refine .qF (i:=28) rfl aq rfl rfl ?_
     refine .qF (i:=29) rfl aq rfl rfl ?_
     refine .qF (i:=30) rfl aq rfl rfl ?_
     refine .qF (i:=31) rfl aq rfl rfl ?_
     refine .qF (i:=32) rfl aq rfl rfl ?_
     refine .qF (i:=33) rfl aq rfl rfl ?_
     refine .qF (i:=34) rfl aq rfl rfl ?_
     refine .qF (i:=35) rfl aq rfl rfl ?_
     refine .qF (i:=36) rfl aq rfl rfl ?_
     refine .qF (i:=37) rfl aq rfl rfl ?_
     refine .qF (i:=38) rfl aq rfl rfl ?_
     refine .qF (i:=39) rfl aq rfl rfl ?_
     refine .qF (i:=40) rfl aq rfl rfl ?_
     refine .qF (i:=41) rfl aq rfl rfl ?_
     refine .qF (i:=42) rfl aq rfl rfl ?_
     refine .z 43 rfl zpF ?_;refine .D hs ?_
     refine (.cF ?_)
     refine .skip ?_
     refine nB ?_
     exact ⟨H3,_,HLe.refl _,hs.tail,hle23,st',ag,rfl,hW'.skip hx (fun h=>hb58 h.1),hm1,hm2⟩
   ·rintro D3 H3 σb3 w hle3 ⟨hle23,st',ag,rfl,hW',hm1,hm2⟩ hs
    replace hs:St H3 w (.blk b9 [.bool ag]:: .blk b6 [.slice (some ⟨b27,0,none⟩) (N+1) (N+1)]:: .blk b27 (jw st'.by_):: .blk b5 [.slice (some ⟨bc,0,none⟩) (N+1) (N+1)]:: .blk bc (Is st'.cost):: .blk b2 [.pointer (some ⟨bf,0,none⟩)]::(mes (D3::Ds)++σ)):=St.deep (σ1:=[_,_,_,_,_,_]) hs
    rw [List.length_map] at hW'
    refine nB (nB (nT ?_))
    refine .aj (.y hs (zld sd) (.nil (.region ?_)))
    refine .o (.alloc hs Tryz.zeroValue4 rfl fun b9 w hs=>?_)
    refine .o (.store hs rfl rfl lN fun w hs=>?_)
    refine .nil ?_
    refine nT ?_
    exact ⟨(b9,D3::Ds,H3,st',ag),a8,⟨hle1.trans (hle2.trans hle3),⟨_,hW',fun _=>rfl⟩,hs.sb⟩,by
      dsimp only
      cases ag with
      |false=>simp;omega
      |true=>have:=hm2 rfl;simp;omega⟩
  ·refine .exit ?_
   refine xT (xT (xB (nT ?_)))
   refine .seq (.aj ?_)
   subst hc48
   obtain rfl:=hj rfl
   refine .y hs (zld an) (.z zm ?_)
   first|(refine .ixv hs ae ai ?_;intro b116 o116 hc116)|refine .z (zix ae ai) ?_
   refine .y hs (zld af) (.z fw (.nil ?_))
   refine (.bJ rfl (fun hc118=>?_) (fun hc118=>?_))
   ·refine .aj (.z zg (.nil ?_))
    refine .ret (rT (?_))
    refine Fin.gR Ds [_,_,_,_,_,_] hs fun w hs=>⟨_,results1 Tryz.results268 rfl,H1,[],.nul,hle1,.nil 4 none,(hs.sb).nul,hW.none hg hc118⟩
   ·refine .skip ?_
    refine nT ?_
    refine .aj (.z zg (.nil (.seq (.aj (.z zm (.z zg (.nil (.block ?_))))))))
    have hreach:gi st.cost to<far:=by have:=hW.top to hto;have e:far=1152921504606846976:=rfl;omega
    obtain ⟨kk,cc,u,hbk,hroot,hkn,hk0,hcl,hway⟩:=hW.back hg hto hreach hpos
    refine .loop (fun p:Nat×Nat×Value×Ent=>⟨141,marks Ds,[(11,p.2.2.1),(12,I p.2.1),(6,.pointer (some ⟨b6,0,none⟩))]⟩)
     (fun p w=>p.1≤kk∧(p.2.1<N+1∧gi st.cost p.2.1<far)∧cz 4 p.2.2.1 (jw (iZ st.by_ to p.1)) p.2.2.2∧(∃d,gC st.by_ to p.1 d p.2.1)∧(∃d,gC st.by_ p.2.1 (kk - p.1) d u)∧
      St H1 w (p.2.2.2:: .blk b9 [.bool false]:: .blk b6 [.slice (some ⟨b27,0,none⟩) (N+1) (N+1)]:: .blk b27 (jw st.by_):: .blk b5 [.slice (some ⟨bc,0,none⟩) (N+1) (N+1)]:: .blk bc (Is st.cost):: .blk b2 [.pointer (some ⟨bf,0,none⟩)]::(mes Ds++σ)))
     (fun p=>kk - p.1) (0,to,.slice none 0 0,.nul) a8 ⟨Nat.zero_le _,⟨hto,hreach⟩,.nil 4 none,⟨0,.nil⟩,⟨cc,hbk⟩,hs.nul⟩ ?_
    rintro ⟨i,v,v11,en⟩ w ⟨hik,⟨hv1,hv2⟩,hO,⟨d1,hb1⟩,⟨d2,hb2⟩,hs⟩
    dsimp only at hik hv1 hv2 hO hb1 hb2 hs ⊢
    have hvb:v<st.by_.length:=by omega
    refine .seq (.aj (.y hs (zld fJ) (.z zm ?_)))
    first|(refine .ixw hs aK aP ?_;intro b122 o122 hc122)|refine .z (ou aK aP) ?_
    refine .z (zfa eh) ?_
    refine .q hs (ed rfl af (hv:=(qT hvb (j:=3) ak).trans rfl)) ?_
    refine .z yA (.nil ?_)
    refine (.bJ rfl (fun hc125=>?_) (fun hc125=>?_))
    ·refine .skip ?_
     refine nT ?_
     refine .seq (.block (.region (.z zm (.y hs (zld fJ) (.z zm ?_)))))
     first|(refine .ixw hs aK aP ?_;intro b134 o134 hc134)|refine .z (ou aK aP) ?_
     refine .q hs (kN (vs:=(ga st.by_ v).v) rfl ic aP (hv:=Aq hvb)) ?_
     refine .o (.buildSlice (cells:=(ga st.by_ v).v) hs pK rfl rfl fun b136 w hs=>?_)
     refine .o (.append (ys:=(ga st.by_ v).v) hs kA rfl rfl hO (.own .here rfl rfl) (by simp [Arc.v,Value.oneCell']) (fun l h=>by rw [ea,ie] at h;omega) ?_);intro v137 en137 w hO2 hs
     refine .z zg (.nil ?_)
     refine nB (nT ?_)
     refine .region (.y hs (zld fJ) (.z zm ?_))
     first|(refine .ixw hs aK aP ?_;intro b128 o128 hc128)|refine .z (ou aK aP) ?_
     refine .z (zfa dC) ?_
     refine .q hs (ed rfl af (hv:=(qT hvb (j:=0) ak).trans rfl)) ?_
     refine .z zg (.nil ?_)
     refine nT ?_
     obtain ⟨g1,g2⟩:=hcl v hv1 hv2 hc125
     obtain ⟨m,hm⟩:∃m,kk - i=m+1:=by
      refine ⟨kk - i - 1,?_⟩
      rcases Nat.lt_or_ge i kk with h|h
      ·omega
      ·obtain e:kk - i=0:=by omega
       rw [e] at hb2
       cases hb2
       omega
     rw [hm] at hb2
     obtain ⟨d3,hb3⟩:∃d,gC st.by_ (ga st.by_ v).f m d u:=by cases hb2 with|cons _ t=>exact ⟨_,t⟩
     rw [←CC,←vF hb1] at hO2
     exact ⟨(i+1,(ga st.by_ v).f,v137,en137),a8,⟨by dsimp only;omega,⟨g1,g2⟩,hO2,⟨_,hb1.trans (.cons hc125 .nil)⟩,⟨d3,by rw [show kk - (i+1)=m by omega];exact hb3⟩,hs.sb⟩,by dsimp only;omega⟩
    ·refine .exit ?_
     refine xT (xT (xB (nT ?_)))
     refine .aj ?_
     obtain rfl:i=kk:=by
      rcases Nat.lt_or_ge i kk with h|h
      ·obtain ⟨m,hm⟩:∃m,kk - i=m+1:=⟨kk - i - 1,ak⟩
       rw [hm] at hb2
       cases hb2 with
       |cons hl _=>omega
      ·omega
     refine .z zm ?_
     refine .o (.call Tryz.call289 rfl (pb hs hO (by rw [ie];omega)) ?_);rintro v139 w ⟨en',hO',hs⟩
     refine .nil (.aj (.z zm (.z zg (.nil ?_))))
     refine .ret ?_
     refine Fin.gR Ds [_,_,_,_,_,_,_] hs fun w hs=>⟨_,results1 Tryz.results268 rfl,H1,_,en',hle1,hO',hs.sb,hway _ rfl⟩
theorem Ao{s:dj}{x:Arc}(hok:s.Ok)(hx:AZ s.dG x):∃(i:Nat) (l:Lim),s.bU[i]? =some l∧x.l=(i:Int)∧(l.A=(x.f:Int)↔fwd s.dG x)∧i<s.bU.length:=by
 obtain ⟨i,y,h1,h2⟩:=hx
 have hl:=qR h1
 have hlt:i<s.bU.length:=by have:=(List.getElem?_eq_some_iff.1 h1).1;simpa [dj.dG,fq] using this
 obtain ⟨l,hl2⟩:=nth hlt
 have h3:=kE hl2
 have h1':(mL s.bU)[i]? =some y:=h1
 rw [h3] at h1'
 cases h1'
 obtain ⟨a1,a2,_⟩:=hok.arc (List.mem_of_getElem? hl2) i
 refine ⟨i,l,hl2,?_,?_,hlt⟩
 ·rcases h2 with rfl|rfl<;>rfl
 ·have hg:ga s.dG i=l.arc i:=by simp [ga,dj.dG,h3]
  have hxl:x.l.toNat=i:=by rcases h2 with rfl|rfl<;>rfl
  unfold fwd
  rw [hxl,hg,←a1]
  exact ⟨fun e=>by exact_mod_cast e,fun e=>by exact_mod_cast e⟩
theorem j8{bf:Nat}{s:dj}{vl vt vd:Value}{x:Arc}(hs:St H w σ)(hok:s.Ok)(hf:Row H bf [I s.many,vl,vt,vd])(hl:RL H vl s.bU)(hx:AZ s.dG x):
  Cl Tryz.prog 290 [.pointer (some ⟨bf,0,none⟩),.agg x.v.toArray] w fun v w'=>v= .bool (decide (fwd s.dG x))∧St H w' σ:=by
 obtain ⟨i,l,hl1,hxl,hfw,hil⟩:=Ao hok hx
 have hf1:cellAt H bf 1=some vl:=hf.at 1
 refine Cl.o Tryz.func290 Tryz.ntmps290 ag2 ?_
 refine .aj ?_
 refine .bx hs fun b3 w hs=>?_
 refine .z zg (.nil ?_)
 refine .seq (.draw mix rfl hs fun w hs=>?_)
 refine .z 0 rfl zm ?_;refine .z 1 rfl znc ?_;refine .z 2 rfl (zfa gx) ?_;refine .z 3 rfl (zfa bh) ?_;refine .y 4 rfl hs bT ?_;refine .z 5 rfl (zfa eh) ?_;refine .y 6 rfl hs af ?_
 refine .ixX (i:=7) hs rfl aq .none hl rfl rfl aH aQ hl1 hxl ?_;intro b12 o12 hc12
 have hA:cellAt H b12 o12=some (I l.A):=hc12.get 0 rfl
 refine .z 8 rfl (zfa dD) ?_;refine .y 9 rfl hs af ?_;refine .z 10 rfl (zfa dC) ?_;refine .y 11 rfl hs af ?_;refine .z 12 rfl fw ?_;refine .z 13 rfl zg ?_;refine .D hs ?_
 refine .ret (Fin.bK Tryz.results290 rfl ?_)
 exact ⟨by simp only [decide_eq_decide.2 hfw],hs.out⟩
theorem oF{bf bt bl cl u v:Nat}{s:dj}{ts lf:List Int}{wt:Nat→Int}{vl vp:Value}{sp:List Value}{p:List Arc}(hs:St H w (.blk bt (Is ts):: .blk bl (Is lf++sp)::σ))(hok:s.Ok)
  (hf:Row H bf [I s.many,vl,.slice (some ⟨bt,0,none⟩) ts.length ts.length,.slice (some ⟨bl,0,none⟩) lf.length cl]) (hl:RL H vl s.bU) (hp:RS H 4 vp (p.map Arc.v)) (hI:vk s.n s.dG wt ts lf) (hw:Fm s.dG ts lf s.n p u v) (hpn:p≠[]) (hpl:p.length<s.n):
  Cl Tryz.prog 269 [.pointer (some ⟨bf,0,none⟩),vp] w fun _ w'=>St H w' (.blk bt (Is (fy s.dG (qt s.dG ts lf p u v) ts p)):: .blk bl (Is (xL lf (qt s.dG ts lf p u v) u v)++sp)::σ):=by
 have hN1:=hok.m1
 have hn65:s.n≤65:=by simp only [dj.n];have:=hok.m0;omega
 have hnum:zp s.dG:=fun i x hx=>⟨qR hx,(hok.dG.2 x (List.mem_of_getElem? hx)).2.2.2.2.2⟩
 have hlt:=hI.lt
 have hll:=hI.ll
 obtain ⟨m0,m1,m2,m3⟩:=s8 hlt.symm hnum hw
 have hsu:=hI.sg u hw.un
 have hsv:=hI.sg v hw.vn
 have hun:u<lf.length:=by rw [hll];exact hw.un
 have hvn:v<lf.length:=by rw [hll];exact hw.vn
 obtain ⟨a,cap,hvp⟩:=hp.shape
 rw [List.length_map] at hvp
 subst hvp
 have hp0:0<p.length:=List.length_pos_iff.2 hpn
 obtain ⟨x0,hx0⟩:=nth hp0
 obtain ⟨x1,hx1⟩:=nth (l:=p) (k:=p.length - 1) ak
 have hh:=hw.ch.head hx0
 have hla:=hw.ch.last hx1
 have hf2:cellAt H bf 2=some (.slice (some ⟨bt,0,none⟩) ts.length ts.length):=hf.at 2
 have hf3:cellAt H bf 3=some (.slice (some ⟨bl,0,none⟩) lf.length cl):=hf.at 3
 have hix:∀x∈p,AZ s.dG x∧x.l.toNat<ts.length∧x.l=(x.l.toNat:Int):=fun x hx=>by
  obtain ⟨g1,g2,_⟩:=jN hlt.symm hnum (hw.mem x hx)
  obtain ⟨i,l,_,g3,_⟩:=Ao hok g1
  exact ⟨g1,g2,by rw [g3];simp⟩
 simp only [FF] at hsu hsv
 have huv:v≠u:=fun e=>by have:=hw.lu;have:=hw.lv;rw [e] at*;omega
 have htt:∀i<ts.length,0≤gi ts i∧gi ts i≤3600000000000:=fun i hi=>by
  have h1:=hI.nn i ak
  have h2:=hI.tb i ak
  have h3:0≤rem s.n lf:=dm fun v _=>by omega
  simp only [FF] at h2
  omega
 have hM:qt s.dG ts lf p u v=least s.dG ts (min (-gi lf u) (gi lf v)) p:=rfl
 generalize qt s.dG ts lf p u v=M at*
 have hgv:gi (lf.set u (gi lf u+M)) v=gi lf v:=by rw [eU hun,if_neg huv]
 refine Cl.o Tryz.func269 Tryz.ntmps269 ag2 ?_
 refine .seq (.draw mix rfl hs fun w hs=>?_)
 refine .z 0 rfl zm ?_
 refine .ixX (i:=1) hs rfl aq .none hp rfl rfl aK aP hx0 rfl ?_;intro b12 o12 hc12
 have h14:cellAt H b12 (o12+0)=some (I u):=by rw [←hh];exact hc12.get 0 rfl
 refine .z 2 rfl (zfa dC) ?_;refine .y 3 rfl hs af ?_;refine .z 4 rfl zm ?_;refine .z 5 rfl zm ?_;refine .z 6 rfl (cN aK) ?_;refine .z 7 rfl gO ?_
 refine .ixX (i:=8) hs rfl aq .none hp rfl rfl aK aP hx1 ak ?_;intro b19 o19 hc19
 have h21:cellAt H b19 (o19+1)=some (I v):=by rw [←hla];exact hc19.get 1 rfl
 refine .z 9 rfl (zfa dL) ?_;refine .y 10 rfl hs af ?_;refine .z 11 rfl zg ?_;refine .z 12 rfl zg ?_;refine .D hs ?_
 refine .seq (.draw mix rfl hs fun w hs=>?_)
 refine .z 0 rfl zm ?_;refine .z 1 rfl znc ?_;refine .z 2 rfl (zfa ek) ?_;refine .y 3 rfl hs an ?_;refine .z 4 rfl zm ?_
 first|(refine .ixv 5 rfl hs ae ai ?_;intro b27 o27 hc27)|refine .z 5 rfl (zix ae ai) ?_
 refine .load (i:=6) hs rfl aq .none rfl af ?_ (hv:=fI hun sp)
 refine .z 7 rfl zv ?_;refine .z 8 rfl zm ?_;refine .z 9 rfl znc ?_;refine .z 10 rfl (zfa ek) ?_;refine .y 11 rfl hs an ?_;refine .z 12 rfl zm ?_
 first|(refine .ixv 13 rfl hs ae ai ?_;intro b35 o35 hc35)|refine .z 13 rfl (zix ae ai) ?_
 refine .load (i:=14) hs rfl aq .none rfl af ?_ (hv:=fI hvn sp)
 refine .z 15 rfl zw ?_;refine .z 16 rfl zg ?_;refine .D hs ?_
 refine .seq (.aj (.z zm (.z (cN aK) (.z zm (.nil ?_)))))
 refine .for (N:=p.length) (J:=fun k fr w=>fr=[(38,.slice a p.length cap),(6,I (least s.dG ts (min (-gi lf u) (gi lf v)) (p.take k))),(0,.pointer (some ⟨bf,0,none⟩)),(1,.slice a p.length cap),(4,I u),(5,I v)]∧St H w (.blk bt (Is ts):: .blk bl (Is lf++sp)::σ)) ak ?_ ?_ ?_
 ·exact .mk ⟨rfl,hs⟩
 ·rintro k fr w hk ⟨rfl,hs⟩
  obtain ⟨x,hx⟩:=nth hk
  obtain ⟨g1,g2,g3⟩:=hix x (List.mem_of_getElem? hx)
  refine .block (.aj ?_)
  refine .ixX hs hp rfl rfl aK aP hx rfl ?_;intro b42 o42 hc42
  refine .q hs (cj (vs:=x.v) rfl ic aP hc42) ?_
  refine .o (.alloc hs eF rfl fun b8 w hs=>?_)
  refine .o (.aZ (vs:=x.v) hs rfl rfl aP fun w hs=>?_)
  refine .nil (.aj (.z zm ?_))
  refine .q hs (kN (vs:=x.v) rfl ic aP) ?_
  refine .o (.call Tryz.call290 rfl (j8 hs hok hf hl g1) ?_);rintro _ w ⟨rfl,hs⟩
  refine .z iD (.nil ?_)
  refine (.cond rfl (fun hc47=>?_) (fun hc47=>?_))
  ·refine .draw mix rfl hs fun w hs=>?_
   refine .z 0 rfl zm ?_;refine .z 1 rfl zm ?_;refine .z 2 rfl znc ?_;refine .z 3 rfl (zfa ir) ?_;refine .y 4 rfl hs an ?_;refine .z 5 rfl (zfa eh) ?_;refine .y 6 rfl hs af ?_
   refine .z 7 rfl (ef (k:=x.l.toNat) rfl rfl ae ai g3 g2) ?_
   refine .y 8 rfl hs af ?_;refine .z 9 rfl zw ?_;refine .z 10 rfl zg ?_;refine .D hs ?_
   refine nB (nT ?_)
   have e:min (least s.dG ts (min (-gi lf u) (gi lf v)) (p.take k)) (gi ts x.l.toNat)=least s.dG ts (min (-gi lf u) (gi lf v)) (p.take (k+1)):=by rw [df hx,mb,if_neg (by simpa using hc47)]
   exact .mk ⟨rfl,hs.tail⟩ (hs:= .cons rfl (.cons rfl (.cons rfl (.cn rfl e (.cons rfl (.cons rfl (.cons rfl (.cons rfl (.nil rfl rfl)))))))))
  ·refine .skip ?_
   refine nB (nT ?_)
   have e:least s.dG ts (min (-gi lf u) (gi lf v)) (p.take k)=least s.dG ts (min (-gi lf u) (gi lf v)) (p.take (k+1)):=by rw [df hx,mb,if_pos (by simpa using hc47)]
   exact .mk ⟨rfl,hs.tail⟩ (hs:= .cons rfl (.cons rfl (.cons rfl (.cn rfl e (.cons rfl (.cons rfl (.cons rfl (.cons rfl (.nil rfl rfl)))))))))
 ·rintro fr w ⟨rfl,hs⟩
  have e6:least s.dG ts (min (-gi lf u) (gi lf v)) (List.take p.length p)=M:=by rw [List.take_length];exact hM.symm
  rw [e6]
  refine nT ?_
  refine .seq (.aj (.z zm (.z (cN aK) (.z zm (.nil ?_)))))
  refine .for (N:=p.length) (J:=fun k fr w=>fr=[(59,.slice a p.length cap),(6,I M),(0,.pointer (some ⟨bf,0,none⟩)),(1,.slice a p.length cap),(4,I u),(5,I v)]∧St H w (.blk bt (Is (fy s.dG M ts (p.take k))):: .blk bl (Is lf++sp)::σ)) ak ?_ ?_ ?_
  ·exact .mk ⟨rfl,hs⟩
  ·rintro k fr w hk ⟨rfl,hs⟩
   obtain ⟨x,hx⟩:=nth hk
   obtain ⟨g1,g2,g3⟩:=hix x (List.mem_of_getElem? hx)
   have hpl2:=jo s.dG M (p.take k) ts
   have hbd:=xG (es:=s.dG) (m:=M) (ts:=ts) (p:=p.take k) ak (by simp only [FF];omega) (by rw [List.length_take];omega) (fun y hy=>(hix y (List.mem_of_mem_take hy)).2.1) x.l.toNat
   have h9:=htt _ g2
   refine .block (.aj ?_)
   refine .ixX hs hp rfl rfl aK aP hx rfl ?_;intro b63 o63 hc63
   refine .q hs (cj (vs:=x.v) rfl ic aP hc63) ?_
   refine .o (.alloc hs eF rfl fun b10 w hs=>?_)
   refine .o (.aZ (vs:=x.v) hs rfl rfl aP fun w hs=>?_)
   refine .nil (.aj (.z zm ?_))
   refine .q hs (kN (vs:=x.v) rfl ic aP) ?_
   refine .o (.call Tryz.call290 rfl (j8 hs hok hf hl g1) ?_);rintro _ w ⟨rfl,hs⟩
   refine .nil ?_
   refine (.cond rfl (fun hc67=>?_) (fun hc67=>?_))
   ·refine .draw mix rfl hs fun w hs=>?_
    refine .z 0 rfl zm ?_;refine .z 1 rfl znc ?_;refine .z 2 rfl (zfa ir) ?_;refine .y 3 rfl hs an ?_;refine .z 4 rfl (zfa eh) ?_;refine .y 5 rfl hs af ?_
    refine .z 6 rfl (ef (k:=x.l.toNat) rfl rfl ae ai g3 g2) ?_
    refine .y 7 rfl hs af ?_;refine .z 8 rfl zm ?_;refine .z 9 rfl cH ?_
    refine .z 10 rfl (ef (k:=x.l.toNat) rfl rfl ae ai g3 g2) ?_
    refine .E 11 hs ?_
    refine .store hs rfl rfl ai ?_;intro w hs
    refine .go ?_
    refine .D hs ?_
    refine nB (nT ?_)
    have e:fy s.dG M ts (p.take (k+1))=(fy s.dG M ts (p.take k)).set x.l.toNat (gi (fy s.dG M ts (p.take k)) x.l.toNat+M):=by rw [df hx,mq,push,if_pos (by simpa using hc67)]
    exact .mk ⟨rfl,by rw [e];exact hs.tail⟩
   ·refine .draw mix rfl hs fun w hs=>?_
    refine .z 0 rfl zm ?_;refine .z 1 rfl znc ?_;refine .z 2 rfl (zfa ir) ?_;refine .y 3 rfl hs an ?_;refine .z 4 rfl (zfa eh) ?_;refine .y 5 rfl hs af ?_
    refine .z 6 rfl (ef (k:=x.l.toNat) rfl rfl ae ai g3 g2) ?_
    refine .y 7 rfl hs af ?_;refine .z 8 rfl zm ?_;refine .z 9 rfl gO ?_
    refine .z 10 rfl (ef (k:=x.l.toNat) rfl rfl ae ai g3 g2) ?_
    refine .E 11 hs ?_
    refine .store hs rfl rfl ai ?_;intro w hs
    refine .go ?_
    refine .D hs ?_
    refine nB (nT ?_)
    have e:fy s.dG M ts (p.take (k+1))=(fy s.dG M ts (p.take k)).set x.l.toNat (gi (fy s.dG M ts (p.take k)) x.l.toNat - M):=by rw [df hx,mq,push,if_neg (by simpa using hc67)]
    exact .mk ⟨rfl,by rw [e];exact hs.tail⟩
  ·rintro fr w ⟨rfl,hs⟩
   rw [List.take_length] at hs
   refine nT ?_
   refine .aj (.z zm (.z znc (.z (zfa ek) (.y hs (zld an) (.z zm ?_)))))
   first|(refine .ixv hs ae ai ?_;intro b96 o96 hc96)|refine .z (zix ae ai) ?_
   refine .q hs (ed rfl af (hv:=fI hun sp)) ?_
   refine .z zm (.z cH ?_)
   first|(refine .ixv hs ae ai ?_;intro b100 o100 hc100)|refine .z (zix ae ai) ?_
   refine .o (.store hs rfl rfl ai ?_ cU (j9 hun sp) (iR hun sp _));intro w hs
   refine .nil (.region (.z zm (.z znc (.z (zfa ek) (.y hs (zld an) (.z zm ?_))))))
   first|(refine .ixv hs ae ai ?_;intro b106 o106 hc106)|refine .z (zix ae ai) ?_
   refine .q hs (ed rfl af (hv:=fI (by rw [List.length_set];exact hvn) sp)) ?_
   refine .z zm (.z gO ?_)
   first|(refine .ixv hs ae ai ?_;intro b110 o110 hc110)|refine .z (zix ae ai) ?_
   refine .o (.store hs rfl rfl ai ?_ cU (j9 (by rw [List.length_set];exact hvn) sp) (iR (by rw [List.length_set];exact hvn) sp _));intro w hs
   refine .nil ?_
   exact Fin.yB Tryz.results269 hs
theorem B4{w:List Int}{N k:Nat}(hw:w.length=N+1):gi (w.set 0 (-kj w k)) 0 - gi (w.set 0 (-kj w k)) (k+1)= -kj w (k+1):=by
 rw [eU ak,eU ak,if_pos rfl,if_neg ak]
 simp only [kj,bu];omega
theorem uD{v vw:Value}{s:dj}{ws:List Int}(hs:St H w σ)(hok:s.Ok)(hr:RSy H v s)(hrw:RI H vw ws)(hwl:ws.length=s.n)(hsz:gM ws)(hsnd:s.Sound):
  Cl Tryz.prog 222 [v,vw] w fun v w'=>(v= .tuple #[.pointer none,.bool false]∧mg s.dG (m9 ws s.n) s.n∧St H w' σ)∨
   (∃H1 bf bt bl cl ts lf vl sp,HLe H H1∧v= .tuple #[.pointer (some ⟨bf,0,none⟩),.bool true]∧vj H1 bf s ts lf vl bt bl cl sp∧sw s.n s.dG (m9 ws s.n) ts∧St H1 w' σ):=by
 obtain ⟨vl,rfl,hr⟩:=hr
 obtain ⟨al,cpl,rfl⟩:=RL.shape hr
 obtain ⟨aw,cw,rfl⟩:=RI.shape hrw
 obtain ⟨N,hN⟩:=Int.eq_ofNat_of_zero_le hok.m0
 have hN1:=hok.m1
 have hn:s.n=N+1:=by simp [dj.n,hN]
 have hlim:=hok.len
 have hoka:=hok.dG
 have hal:s.dG.length=s.bU.length:=by simp [dj.dG,fq]
 have hnum:zp s.dG:=fun i x hx=>⟨qR hx,(hok.dG.2 x (List.mem_of_getElem? hx)).2.2.2.2.2⟩
 have hin:∀x∈s.dG,x.f<s.n∧x.t<s.n:=fun x hx=>by have:=hoka.2 x hx;omega
 have hwt0:=A8 ws (n:=s.n) ak
 unfold gM at hsz
 rw [hwl] at hsz
 refine Cl.o Tryz.func222 Tryz.ntmps222 ag2 ?_
 refine .aj ?_
 refine .bx hs fun b2 w hs=>?_
 refine .z zg (.z zg (.nil ?_))
 refine .scope ?_
 refine .cut (fun fs w=>∃bf bt bl cl sp,kB fs ⟨73,[],[(6,.pointer (some ⟨bf,0,none⟩))]⟩∧St H w (.blk bf [I s.many,.slice al s.bU.length cpl,.slice (some ⟨bt,0,none⟩) s.bU.length s.bU.length,.slice (some ⟨bl,0,none⟩) ws.length cl]:: .blk bt (Is (List.replicate s.bU.length 0)):: .blk bl (Is ws++sp)::σ)) ?_ ?_
 ·refine .draw mix rfl hs fun w hs=>?_
  refine .ys 0 rfl hs [_,_] bp aM ?_;refine .z 1 rfl (zfa bh) ?_;refine .y 2 rfl hs bT ?_;refine .z 3 rfl (cN aH) ?_;refine .z 5 rfl zm ?_
  refine .e2 (i:=4) (j:=6) aq rfl rfl rfl rfl .none .none hs ?_ ?_
  ·refine .pD s.bU.length hs rfl rfl ae dW rfl ai bO ak ?_;intro b15 w hs
   refine .go ?_
   refine .E 6 hs ?_
   refine .call Tryz.call197 rfl (iT hs hrw ak) ?_;rintro v17 w ⟨en17,hO,hs⟩
   obtain ⟨bl,cl,sp,rfl,rfl,hsp⟩:=hO.some ak
   refine .go ?_
   refine .z 7 rfl (zbd [_,_,_,_] oX) ?_
   refine .E 8 hs ?_
   refine .box hs rfl rfl ?_;intro b19 w hs
   refine .go ?_
   refine .z 9 rfl zg ?_;refine .D hs ?_
   exact nT ⟨b19,b15,bl,cl,sp,a8,hs.sb⟩
  ·refine .call Tryz.call197 rfl (iT hs hrw ak) ?_;rintro v17 w ⟨en17,hO,hs⟩
   obtain ⟨bl,cl,sp,rfl,rfl,hsp⟩:=hO.some ak
   refine .go ?_
   refine .E 4 hs ?_
   refine .pD s.bU.length hs rfl rfl ae dW rfl ai bO ak ?_;intro b15 w hs
   refine .go ?_
   refine .z 7 rfl (zbd [_,_,_,_] oX) ?_
   refine .E 8 hs ?_
   refine .box hs rfl rfl ?_;intro b19 w hs
   refine .go ?_
   refine .z 9 rfl zg ?_;refine .D hs ?_
   exact nT ⟨b19,b15,bl,cl,sp,a8,hs.sb⟩
 ·rintro fs w ⟨bf,bt,bl,cl,sp,hfs,hs⟩
  refine WE.sub ?_ hfs
  obtain ⟨H1,hle1,hRf,hs⟩:=hs.cO .here
  have hf0:cellAt H1 bf 0=some (I (N:Int)):=by have:=hRf.at 0 (v:=I s.many);rwa [hN] at this
  have hf3:cellAt H1 bf 3=some (.slice (some ⟨bl,0,none⟩) ws.length cl):=hRf.at 3
  have hrl:=hr.mono hle1
  refine .aj (.z zm (.z znc (.z (zfa ek) (.y hs (zld an) ?_))))
  refine .q hs (ef (k:=0) rfl rfl ae ai rfl ak) ?_
  refine .o (.store hs rfl rfl ai ?_ cU (j9 ak sp) (iR ak sp _));intro w hs
  refine .nil (.seq (.aj (.z zm (.z znc (.z (zfa gx) (.z (zfa bA) (.y hs (zld af) (.z zm (.nil ?_)))))))))
  refine .for (N:=N) (J:=fun k fr w=>fr=[(6,.pointer (some ⟨bf,0,none⟩))]∧St H1 w (.blk bt (Is (List.replicate s.bU.length 0)):: .blk bl (Is (ws.set 0 (-kj ws k))++sp)::σ)) ak ?_ ?_ ?_
  ·exact .mk ⟨rfl,by simpa [kj,bu] using hs⟩
  ·rintro k fr w hk ⟨rfl,hs⟩
   have e:=B4 (w:=ws) (N:=N) (k:=k) ak
   have hb1:=rh ws (k+1)
   have hb2:bL ws (k+1+1)≤bL ws s.n:=nZ (fun v=>by omega) ak
   simp only [FF] at hsz
   refine .block (.aj (.z zm (.z zg (.nil ?_))))
   refine .draw mix rfl hs fun w hs=>?_
   refine .z 0 rfl zm ?_;refine .z 1 rfl znc ?_;refine .z 2 rfl (zfa ek) ?_;refine .y 3 rfl hs an ?_
   refine .z 4 rfl (ef (k:=0) rfl rfl ae ai rfl ak) ?_
   refine .load (i:=5) hs rfl aq .none rfl af ?_ (hv:=fI (by rw [List.length_set];omega) sp)
   refine .z 6 rfl zm ?_;refine .z 7 rfl znc ?_;refine .z 8 rfl (zfa ek) ?_;refine .y 9 rfl hs an ?_;refine .z 10 rfl zm ?_;refine .z 11 rfl cH ?_
   refine .z 12 rfl (ef (k:=k+1) rfl rfl ae ai ak ak) ?_
   refine .load (i:=13) hs rfl aq .none rfl af ?_ (hv:=fI (by rw [List.length_set];omega) sp)
   refine .z 14 rfl gO ?_
   refine .z 15 rfl (ef (k:=0) rfl rfl ae ai rfl ak) ?_
   refine .E 16 hs ?_
   refine .store hs rfl rfl ai ?_ cU (j9 (by rw [List.length_set];omega) sp) (iR (by rw [List.length_set];omega) sp _);intro w hs
   refine .go ?_
   refine .D hs ?_
   refine nB (nT ?_)
   rw [e,List.set_set] at hs
   exact .mk ⟨rfl,hs⟩
  ·rintro fr w ⟨rfl,hs⟩
   have hI0:vk s.n s.dG (m9 ws s.n) (List.replicate s.bU.length 0) (ws.set 0 (-kj ws N)):=by
    rw [←hal,hn]
    rw [hn] at hsz
    refine vk.start hsz (by rw [List.length_set];omega) (fun v hv=>?_) hsnd
    rw [eU ak]
    cases v with
    |zero=>rw [if_pos rfl,wg]
    |succ v=>rw [if_neg ak,wh]
   refine nT ?_
   refine .seq ?_
   refine .label ?_
   refine nT ?_
   refine .block ?_
   refine .loop (fun _:cE×List Int×List Int=>⟨73,[],[(6,.pointer (some ⟨bf,0,none⟩))]⟩)
    (fun p w=>HLe H1 p.1∧vk s.n s.dG (m9 ws s.n) p.2.1 p.2.2∧St p.1 w (.blk bt (Is p.2.1):: .blk bl (Is p.2.2++sp)::σ)) (fun p=>(rem s.n p.2.2).toNat) (H1,List.replicate s.bU.length 0,ws.set 0 (-kj ws N))
    a8 ⟨HLe.refl _,hI0,hs⟩ ?_
   rintro ⟨H2,ts,lf⟩ w ⟨hle2,hI,hs⟩
   dsimp only at hle2 hI hs ⊢
   have hlt:=hI.lt
   have hll:=hI.ll
   have hRf2:Row H2 bf [I s.many,.slice al s.bU.length cpl,.slice (some ⟨bt,0,none⟩) ts.length ts.length,.slice (some ⟨bl,0,none⟩) lf.length cl]:=by
    rw [hlt,hal,hll,←hwl];exact hRf.mono hle2
   have hf32:cellAt H2 bf 3=some (.slice (some ⟨bl,0,none⟩) lf.length cl):=hRf2.at 3
   refine .block (.seq (.aj (.z zm (.z znc (.z (zfa ek) (.y hs (zld an) (.z (cN ae) (.z zm (.nil ?_)))))))))
   refine .for (N:=lf.length) (J:=fun k fr w=>fr=[(53,.slice (some ⟨bl,0,none⟩) lf.length cl),(6,.pointer (some ⟨bf,0,none⟩))]∧(∀v<k,gi lf v≤0)∧St H2 w (.blk bt (Is ts):: .blk bl (Is lf++sp)::σ)) ak ?_ ?_ ?_
   ·exact .mk ⟨rfl,fun v hv=>by omega,hs⟩
   ·rintro k fr w hk ⟨rfl,hle0,hs⟩
    refine .block (.aj (.z zm ?_))
    first|(refine .ixv hs ae ai ?_;intro b58 o58 hc58)|refine .z (zix ae ai) ?_
    refine .q hs (ed rfl af (hv:=fI hk sp)) ?_
    refine .z zg (.z zg (.nil (.seq (.aj (.z zm (.z wc (.nil ?_)))))))
    refine (.bJ rfl (fun hc61=>?_) (fun hc61=>?_))
    ·refine .exit ?_
     refine xT (xB (nT ?_))
     exact .mk ⟨rfl,fun v hv=>by
       by_cases e:v=k
       ·subst e;exact hc61
       ·exact hle0 v ak,hs⟩
    ·refine .skip ?_
     refine nT ?_
     refine .aj (.z zm (.z zm ?_))
     obtain ⟨Ha,hla,hra,hsa,-,hba⟩:=hs.yX
     obtain ⟨Hb,hlb,hrb,hsb,-,hbb⟩:=hsa.yX
     refine .o (.call Tryz.call268 rfl (pI (s:=s) (to:=k) hsb hok ⟨hRf2.mono (hla.trans hlb),hr.mono (hle1.trans (hle2.trans (hla.trans hlb))),hra.mono hlb,hrb⟩ ak ak hI.fe ak ak) ?_);rintro v64 w ⟨Hc,p,en,hlc,hO,hsc,hWR⟩
     have hs:=hba (HLe.refl _) (hbb hlc hsc)
     obtain ⟨ap,lp,cp,rfl,hlp⟩:=hO.shape
     obtain rfl:lp=p.length:=by rw [ea] at hlp;omega
     refine .z zg (.nil (.seq (.aj (.z zm (.z (cN aK) (.z fw (.nil ?_)))))))
     refine (.bJ rfl (fun hc67=>?_) (fun hc67=>?_))
     ·refine .aj (.z zg (.z zg (.nil ?_)))
      refine .ret (rT (rB (rT (rB (rT (rB (rT (rB (rS (Fin.jx Tryz.results222 rfl rfl ?_))))))))))
      rcases hWR with ⟨_,R,hS,hR,hto⟩|⟨hp,_⟩
      ·exact .inl ⟨rfl,hI.open hin hS hR ak hto ak,(hs.le (hle1.trans hle2)).out⟩
      ·exact (hp (List.length_eq_zero_iff.1 ak)).elim
     ·refine .skip ?_
      refine nT ?_
      refine .aj (.z zm (.z zm ?_))
      obtain ⟨hp,hpl,u,hw⟩:=hWR.resolve_left fun h=>by rw [h.1] at hc67;exact hc67 rfl
      obtain ⟨H3,hle3,hRS,hs⟩:=cz.cO (cs:=p.map Arc.v) hO (fun c hc=>by simp only [List.mem_map] at hc;obtain ⟨x,_,rfl⟩:=hc;rfl) ak (by rw [List.length_map];omega) hs cU
      refine .o (.call Tryz.call269 rfl (oF hs hok (hRf2.mono hle3) (hr.mono (hle1.trans (hle2.trans hle3))) hRS hI hw hp hpl) ?_);rintro v70 w hs
      refine .nil ?_
      refine .exit ?_
      refine xN (xT (xN (xT (xB (nT ?_)))))
      obtain ⟨q1,q2⟩:=hI.send hnum hw ak
      have q3:0≤rem s.n (xL lf (qt s.dG ts lf p u k) u k):=dm fun v _=>by omega
      exact ⟨(H3,fy s.dG (qt s.dG ts lf p u k) ts p,xL lf (qt s.dG ts lf p u k) u k),a8,⟨hle2.trans hle3,q1,hs⟩,by dsimp only;omega⟩
   ·rintro fr w ⟨rfl,hle0,hs⟩
    refine nT ?_
    refine .aj (.z zm (.z zg (.z zg (.nil ?_))))
    refine .ret (rB (rT (rB (rS (Fin.jx Tryz.results222 rfl rfl ?_)))))
    obtain ⟨H3,l3,r3,hs⟩:=hs.cO .here
    obtain ⟨H4,l4,r4,hs⟩:=hs.cO .here
    exact .inr ⟨H4,bf,bt,bl,cl,ts,lf,_,sp,hle1.trans (hle2.trans (l3.trans l4)),rfl,⟨hRf2.mono (l3.trans l4),hr.mono (hle1.trans (hle2.trans (l3.trans l4))),r3.mono l4,r4⟩,hI.ok hin hwt0 (fun v hv=>hle0 v ak),hs⟩
theorem qI{v:Value}{ws:List Int}(hs:St H w σ)(hr:RI H v ws):Cl Tryz.prog 164 [v] w fun v w'=>∃b,v= .bool b∧(b=true↔gM ws)∧St H w' σ:=by
 obtain ⟨a,c,rfl⟩:=RI.shape hr
 have hl:=(RI.len hr).2.2
 refine Cl.o Tryz.func164 Tryz.ntmps164 ag1 ?_
 refine .aj (.z zg (.nil (.aj (.z zg (.nil (.seq (.aj (.z zm (.z (cN ae) ?_)))))))))
 refine .z zm (.nil ?_)
 refine .for (N:=ws.length) (J:=fun k fr w=>fr=[(6,.slice a ws.length c),(3,I (3600000000000 - bL ws k))]∧bL ws k≤3600000000000∧St H w σ) ak ?_ ?_ ?_
 ·exact .mk ⟨rfl,by simp [bL,bu],hs⟩
 ·rintro k fr w hk ⟨rfl,hle,hs⟩
  have hx:=bE hk
  have h0:0≤bL ws k:=dm fun v _=>by omega
  have h1:bL ws (k+1)=bL ws k+max (gi ws k) (-gi ws k):=rfl
  refine .block (.aj ?_)
  first|(refine .ixv hs ae ai ?_;intro b10 o10 hc10)|refine .z (zix ae ai) ?_
  refine .y hs (zld af) (.z zg (.nil (.seq (.aj (.z zm (.z zm (.z zv (.z fD (.z zm ?_)))))))))
  refine .iB (t':=16) rfl (fun hb16=>?_) (fun hb16=>?_)
  ·refine .gFs 3 4 false rfl rfl rfl ?_
   refine .z zpT (.nil ?_)
   refine (.cT ?_)
   refine .aj (.z zg (.nil ?_))
   refine .ret (rT (rB (rT (rB (rT (Fin.bK Tryz.results164 rfl ?_))))))
   exact ⟨false,rfl,⟨fun h=>(by cases h),fun h=>(lT (k:=k+1) hk (by simp only [FF];omega) h).elim⟩,hs⟩
  ·refine .gT rfl rfl ?_
   refine .z zm ?_
   refine .gT rfl rfl ?_
   refine .z zm ?_
   refine .gT rfl rfl ?_
   refine .z kD (.z zpF (.nil ?_))
   refine (.bJ rfl (fun hc20=>?_) (fun hc20=>?_))
   ·refine .aj (.z zg (.nil ?_))
    refine .ret (rT (rB (rT (rB (rT (Fin.bK Tryz.results164 rfl ?_))))))
    exact ⟨false,rfl,⟨fun h=>(by cases h),fun h=>(lT (k:=k+1) hk (by simp only [FF];omega) h).elim⟩,hs⟩
   ·refine .skip ?_
    refine nT ?_
    refine .region (.z zm (.z zm (.z zm (.z zv (.z CJ (.z gO (.z zg (.nil ?_))))))))
    refine nB (nT ?_)
    exact .mk ⟨rfl,ak,hs⟩ (hs:= .cons rfl (.cons rfl (.cons rfl (.cn rfl ak (.nil rfl rfl)))))
 ·rintro fr w ⟨rfl,hle,hs⟩
  refine nT ?_
  refine .aj (.z zg (.nil ?_))
  refine .ret (Fin.bK Tryz.results164 rfl ?_)
  exact ⟨true,rfl,⟨fun _=>hle,fun _=>rfl⟩,hs⟩
theorem mw{v vw:Value}{s:dj}{ws:List Int}(hs:St H w σ)(hr:RSy H v s)(hrw:RI H vw ws):Cl Tryz.prog 219 [v,vw] w fun v w'=>v=I (eP s ws)∧St H w' σ:=by
 obtain ⟨vl,rfl,hr⟩:=hr
 obtain ⟨al,cpl,rfl⟩:=RL.shape hr
 obtain ⟨aw,cw,rfl⟩:=RI.shape hrw
 have hlw:=(RI.len hrw).2.2
 have hn:s.check=0→0≤s.many∧s.many≤64∧(s.n:Int)=s.many+1:=fun h=>by
  have h1:=s.cD.1 h
  have:=h1.m0
  have:=h1.m1
  simp only [dj.n];omega
 refine Cl.o Tryz.func219 Tryz.ntmps219 ag2 ?_
 refine .aj ?_
 refine .bx hs fun b2 w hs=>?_
 refine .z zg (.nil (.seq (.aj (.y hs (zls [_,_] bp aM) ?_))))
 refine .o (.call Tryz.call125 rfl (iW (s:=s) hs ⟨_,rfl,hr⟩) ?_);rintro _ w ⟨rfl,hs⟩
 refine .z zg (.nil (.aj (.z zm (.z gP (.nil ?_)))))
 refine (.eI rfl (fun hc9=>?_) (fun hc9=>?_))
 ·refine .aj (.z zm (.z zg (.nil ?_)))
  refine .ret (rT (Fin.bK Tryz.results219 rfl ?_))
  exact ⟨by unfold eP;rw [if_pos hc9],hs.tail⟩
 ·refine .skip ?_
  refine nT ?_
  refine .seq (.aj (.z zm ?_))
  obtain ⟨n0,n1,n2⟩:=hn hc9
  refine .z (cN ae) (.z (zfa bA) (.y hs (zld af) (.z cH (.z gP (.z zm ?_)))))
  refine .yq (t':=17) rfl (fun hb17=>?_) (fun hb17=>?_)
  ·refine .gFs 3 6 false rfl rfl rfl ?_
   refine .z zpT (.nil ?_)
   refine (.cT ?_)
   refine .aj (.z zg (.nil ?_))
   refine .ret (rT (Fin.bK Tryz.results219 rfl ?_))
   exact ⟨by unfold eP;rw [if_neg ak,if_neg ak],hs.tail⟩
  ·refine .gT rfl rfl ?_
   refine .z zm ?_
   refine .gT rfl rfl ?_
   refine .o (.call Tryz.call164 rfl (qI hs hrw) ?_);rintro _ w ⟨bz,rfl,hbz,hs⟩
   refine .gT rfl rfl ?_
   refine .z iD (.z zpF (.nil ?_))
   refine (.cond rfl (fun hc21=>?_) (fun hc21=>?_))
   ·refine .aj (.z zg (.nil ?_))
    refine .ret (rT (Fin.bK Tryz.results219 rfl ?_))
    exact ⟨by unfold eP;rw [if_neg ak,if_neg (fun h=>by rw [hbz.2 h.2] at hc21;cases hc21)],hs.tail⟩
   ·refine .skip ?_
    refine nT ?_
    refine .aj (.z zg (.nil ?_))
    refine .ret (Fin.bK Tryz.results219 rfl ?_)
    exact ⟨by unfold eP;rw [if_neg ak,if_pos ⟨ak,hbz.1 (by simpa using hc21)⟩],hs.tail⟩
theorem mK{v vw:Value}{s:dj}{ws:List Int}(hs:St H w σ)(hr:RSy H v s)(hrw:RI H vw ws):
  Cl Tryz.prog 158 [v,vw] w fun v w'=>∃H1 e pf,HLe H H1∧v= .tuple #[pf,I e]∧CB s ws e∧St H1 w' σ∧(e≠0→pf= .pointer none)∧
   (e=0→∃bf bt bl cl ts lf vl sp,pf= .pointer (some ⟨bf,0,none⟩)∧vj H1 bf s ts lf vl bt bl cl sp∧sw s.n s.dG (m9 ws s.n) ts∧s.Ok∧bL ws s.n≤FF):=by
 obtain ⟨vl,rfl,hr⟩:=hr
 refine Cl.o Tryz.func158 Tryz.ntmps158 ag2 ?_
 refine .aj ?_
 refine .bx hs fun b2 w hs=>?_
 refine .z zg (.z zg (.nil (.seq (.aj (.y hs (zls [_,_] bp aM) (.z zm ?_))))))
 refine .o (.call Tryz.call219 rfl (mw (s:=s) hs ⟨_,rfl,hr⟩ hrw) ?_);rintro _ w ⟨rfl,hs⟩
 refine .z zg (.nil (.aj (.z zm (.z gP (.nil ?_)))))
 refine (.eI rfl (fun hc13=>?_) (fun hc13=>?_))
 ·refine .aj (.z zm (.z zg (.z zg (.nil ?_))))
  refine .ret (rT (Fin.jx Tryz.results158 rfl rfl ?_))
  exact ⟨H,_,_,HLe.refl _,rfl,.bad hc13,hs.tail,fun _=>rfl,fun h=>(hc13 h).elim⟩
 ·refine .skip ?_
  refine nT ?_
  refine .seq (.aj (.y hs (zls [_,_] bp aM) ?_))
  obtain ⟨hok,hwl,hsz⟩:=kT hc13
  refine .o (.call Tryz.call133 rfl (ju (s:=s) hs hok ⟨_,rfl,hr⟩) ?_);rintro _ w ⟨H1,b,hle1,rfl,hb,hs⟩
  refine .z iD (.nil ?_)
  refine (.cond rfl (fun hc17=>?_) (fun hc17=>?_))
  ·refine .aj (.z zg (.z zg (.nil ?_)))
   refine .ret (rT (Fin.jx Tryz.results158 rfl rfl ?_))
   exact ⟨H1,_,_,hle1,rfl,.clash hc13 (fun h=>by rw [hb.2 h] at hc17;cases hc17),hs.tail,fun _=>rfl,fun h=>by cases h⟩
  ·refine .skip ?_
   refine nT ?_
   refine .aj (.y hs (zls [_,_] bp aM) (.z zm ?_))
   have hsnd:s.Sound:=hb.1 (by simpa using hc17)
   refine .o (.call Tryz.call222 rfl (uD (s:=s) hs hok ⟨_,rfl,hr.mono hle1⟩ (hrw.mono hle1) hwl hsz hsnd) ?_);rintro v21 w hcase
   obtain ⟨pf,bb,H2,hle2,rfl,hs,hT,hF⟩:∃pf bb H2,HLe H1 H2∧v21= .tuple #[pf,.bool bb]∧St H2 w (.blk b2 [I s.many,vl]::σ)∧(bb=false→pf= .pointer none∧mg s.dG (m9 ws s.n) s.n)∧
     (bb=true→∃bf bt bl cl ts lf vl sp,pf= .pointer (some ⟨bf,0,none⟩)∧vj H2 bf s ts lf vl bt bl cl sp∧sw s.n s.dG (m9 ws s.n) ts):=by
    rcases hcase with ⟨rfl,h1,h2⟩|⟨H2,bf,bt,bl,cl,ts,lf,vl,sp,h1,rfl,h2,h3,h4⟩
    ·exact ⟨_,false,H1,HLe.refl _,rfl,h2,fun _=>⟨rfl,h1⟩,fun h=>by cases h⟩
    ·exact ⟨_,true,H2,h1,rfl,h4,fun h=>(by cases h),fun _=>⟨bf,bt,bl,cl,ts,lf,vl,sp,rfl,h2,h3⟩⟩
   refine .z zm (.z zex (.z zex (.z zg (.z zg (.nil (.seq (.aj (.z zm (.z iD ?_)))))))))
   refine .nil ?_
   refine (.cond rfl (fun hc25=>?_) (fun hc25=>?_))
   ·refine .aj (.z zg (.z zg (.nil ?_)))
    refine .ret (rT (Fin.jx Tryz.results158 rfl rfl ?_))
    exact ⟨H2,_,_,hle1.trans hle2,rfl,.opn hc13 hsnd (hT (by simpa using hc25)).2,hs.tail,fun _=>rfl,fun h=>by cases h⟩
   ·refine .skip ?_
    refine nT ?_
    refine .aj (.z zm (.z zg (.z zg (.nil ?_))))
    refine .ret (Fin.jx Tryz.results158 rfl rfl ?_)
    obtain ⟨bf,bt,bl,cl,ts,lf,vl,sp,rfl,h2,h3⟩:=hF (by simpa using hc25)
    have hn0:0<s.n:=by simp [dj.n]
    have hn1:s.n≤65:=by have:=hok.m0;have:=hok.m1;simp only [dj.n];omega
    have hsz':bL ws s.n≤FF:=by unfold gM at hsz;rwa [hwl] at hsz
    exact ⟨H2,_,_,hle1.trans hle2,rfl,.ok hc13 hsnd (h3.value hn0 hn1 hok.dG hsz').2.1,hs.tail,fun h=>(h rfl).elim,fun _=>⟨bf,bt,bl,cl,ts,lf,vl,sp,rfl,h2,h3,hok,hsz'⟩⟩
theorem j7{bf bt bl cl:Nat}{s:dj}{ts lf ws:List Int}{vl:Value}{sp:List Value}(hs:St H w σ)(hok:s.Ok)(hF:vj H bf s ts lf vl bt bl cl sp)(hFo:sw s.n s.dG (m9 ws s.n) ts)(hsz:bL ws s.n≤FF):
  Cl Tryz.prog 160 [.pointer (some ⟨bf,0,none⟩)] w fun v w'=>v=I (dot s.dG ts (·.c))∧xp s.dG (s.wt ws) s.n (dot s.dG ts (·.c))∧dot s.dG ts (·.c)≤BB∧-BB≤dot s.dG ts (·.c)∧St H w' σ:=by
 obtain ⟨hFf,hFl,hFt,hFd⟩:=hF
 obtain ⟨al,cpl,rfl⟩:=RL.shape hFl
 have hlim:=hok.len
 have hal:s.dG.length=s.bU.length:=by simp [dj.dG,fq]
 have hlt:=hFo.lt
 have hn0:0<s.n:=by simp [dj.n]
 have hn1:s.n≤65:=by have:=hok.m0;have:=hok.m1;simp only [dj.n];omega
 have hv:=hFo.value hn0 hn1 hok.dG hsz
 have hd:=Cj (es:=s.dG) hlt
 have hf1:cellAt H bf 1=some (.slice al s.bU.length cpl):=hFf.at 1
 have hf2:cellAt H bf 2=some (.slice (some ⟨bt,0,none⟩) ts.length ts.length):=hFf.at 2
 refine Cl.o Tryz.func160 Tryz.ntmps160 ag1 ?_
 refine .aj (.z zg (.nil (.aj (.z zg (.nil (.seq (.aj (.z zm (.z znc ?_)))))))))
 refine .z (zfa gx) (.z (zfa bh) (.y hs (zld bT) (.z (cN aH) (.z zm (.nil ?_)))))
 refine .for (N:=s.bU.length) (J:=fun k fr w=>fr=[(10,.slice al s.bU.length cpl),(3,I (IntKind.i64.wrap (AU s.dG ts k))),(0,.pointer (some ⟨bf,0,none⟩))]∧St H w σ) ak ?_ ?_ ?_
 ·exact .mk ⟨rfl,hs⟩ (hs:= .cons rfl (.cons rfl (.cons rfl (.cn rfl (by simp [AU,bu,om]) (.cons rfl (.nil rfl rfl))))))
 ·rintro k fr w hk ⟨rfl,hs⟩
  obtain ⟨l,hl⟩:=nth hk
  have hg:(ga s.dG k).c=l.M:=by simp [ga,dj.dG,kE hl,Lim.arc]
  have hlm:=hok.lim l (List.mem_of_getElem? hl)
  have hkt:k<ts.length:=by omega
  have htb:=hFo.nn k ak
  have hct:cellAt H bt k=some (I (gi ts k)):=hFt.at k (fk hkt)
  have hmul:gi ts k*l.M≤72000000000000000∧-72000000000000000≤gi ts k*l.M:=by
   simp only [FF] at htb
   have g1:gi ts k*l.M≤gi ts k*20000:=Int.mul_le_mul_of_nonneg_left hlm.2.2.2.1.2 htb.1
   have g2:gi ts k*(-20000)≤gi ts k*l.M:=Int.mul_le_mul_of_nonneg_left hlm.2.2.2.1.1 htb.1
   omega
  refine .block (.aj (.z zm ?_))
  refine .ixX hs hFl rfl rfl aH aQ hl rfl ?_;intro b15 o15 hc15
  refine .q hs (cj (vs:=l.c) rfl dS aQ hc15) ?_
  refine .o (.alloc hs eG rfl fun b5 w hs=>?_)
  refine .z zg ?_
  refine .o (.aZ (vs:=l.c) hs rfl rfl aQ fun w hs=>?_)
  refine .nil ?_
  refine .draw mix rfl hs fun w hs=>?_
  refine .z 0 rfl zm ?_;refine .z 1 rfl zm ?_;refine .z 2 rfl znc ?_;refine .z 3 rfl (zfa ir) ?_;refine .y 4 rfl hs an ?_;refine .z 5 rfl zm ?_
  refine .z 6 rfl (ef (k:=k) rfl rfl ae ai rfl hkt) ?_
  refine .r (i:=7) hs rfl aq .none (aO rfl af hct) ?_
  refine .z 8 rfl (zfa eH) ?_;refine .y 9 rfl hs af ?_;refine .z 10 rfl ki ?_
  refine .z 11 rfl (BK rfl rfl) ?_
  refine .z 12 rfl zg ?_;refine .D hs ?_
  refine nB (nT ?_)
  exact .mk ⟨rfl,hs.tail⟩ (hs:= .cons rfl (.cons rfl (.cons rfl (.cn rfl (by rw [uq];simp only [AU,bu,hg]) (.cons rfl (.nil rfl rfl))))))
 ·rintro fr w ⟨rfl,hs⟩
  rw [←hal,←hd,kS (by have:=hv.2.2;simp only [BB] at this;omega)]
  refine nT ?_
  refine .aj (.z zm (.z zg (.nil ?_)))
  refine .ret (Fin.bK Tryz.results160 rfl ?_)
  exact ⟨rfl,hv.1,hv.2.2.1,hv.2.2.2,hs⟩
theorem rY{vw:Value}{ws:List Int}(hs:St H w σ)(hrw:RI H vw ws)(hlw:ws.length≤1000000)(hb:∀k,-9223372036854775807≤gi ws k∧gi ws k≤9223372036854775807):
  Cl Tryz.prog 159 [vw] w fun v w'=>∃H1,HLe H H1∧RI H1 v (uQ ws)∧St H1 w' σ:=by
 obtain ⟨aw,cw,rfl⟩:=RI.shape hrw
 refine Cl.o Tryz.func159 Tryz.ntmps159 ag1 ?_
 refine .aj (.z zg (.nil (.aj (.z zm (.z (cN ae) ?_)))))
 refine .o (.pD ws.length hs rfl rfl ae dW rfl ai bO ak fun b8 w hs=>?_)
 refine .z zg (.nil (.seq (.aj (.z zm (.z (cN ae) (.z zm (.nil ?_)))))))
 refine .for (N:=ws.length) (J:=fun k fr w=>fr=[(9,.slice aw ws.length cw),(3,.slice (some ⟨b8,0,none⟩) ws.length ws.length)]∧∃L,(L.length=ws.length∧∀v<ws.length,gi L v=if v<k then -gi ws v else 0)∧St H w (.blk b8 (Is L)::σ)) ak ?_ ?_ ?_
 ·exact .mk ⟨rfl,_,⟨bQ,fun v hv=>by rw [dT _ _ hv,if_neg ak]⟩,hs⟩
 ·rintro k fr w hk ⟨rfl,L,⟨hL1,hL2⟩,hs⟩
  have hx:=bE hk
  have hbk:=hb k
  refine .block (.aj (.z zm ?_))
  first|(refine .ixv hs ae ai ?_;intro b14 o14 hc14)|refine .z (zix ae ai) ?_
  refine .y hs (zld af) (.z zg (.z zg (.nil (.region (.z zm (.z zm (.z zm (.z zv ?_))))))))
  first|(refine .ixv hs ae ai ?_;intro b20 o20 hc20)|refine .z (zix ae ai) ?_
  refine .o (.store hs rfl rfl ai fun w hs=>?_)
  refine .nil ?_
  refine nB (nT ?_)
  refine .mk ⟨rfl,_,⟨by rw [List.length_set];exact hL1,fun v hv=>?_⟩,hs⟩
  rw [eU ak]
  by_cases e:v=k
  ·subst e;rw [if_pos rfl,if_pos ak]
  ·rw [if_neg e,hL2 v hv];congr 1;apply propext;omega
 ·rintro fr w ⟨rfl,L,⟨hL1,hL2⟩,hs⟩
  obtain rfl:L=uQ ws:=Ad (by simp [hL1,uQ]) (fun k hk=>by rw [hL2 k ak,if_pos ak,Ca])
  refine nT ?_
  refine .aj (.z zm (.z zg (.nil ?_)))
  refine .ret (Fin.bK Tryz.results159 rfl ?_)
  obtain ⟨H1,g1,g2,hs⟩:=hs.cO .here
  refine ⟨H1,g1,?_,hs⟩
  rw [←hL1]
  exact Row.RI (spare:=[]) (by simpa using g2) _ (Nat.le_refl _) ak
theorem kg{v vw:Value}{s:dj}{ws:List Int}(hs:St H w σ)(hr:RSy H v s)(hrw:RI H vw ws):
  Cl Tryz.prog 74 [v,vw] w fun v w'=>∃H1 lo hi e,HLe H H1∧v= .tuple #[I lo,I hi,I e]∧gy s ws lo hi e∧St H1 w' σ:=by
 obtain ⟨vl,rfl,hr⟩:=hr
 refine Cl.o Tryz.func74 Tryz.ntmps74 ag2 ?_
 refine .aj ?_
 refine .bx hs fun b2 w hs=>?_
 refine .z zg (.z zg (.z zg (.nil (.aj (.y hs (zls [_,_] bp aM) (.z zm ?_))))))
 refine .o (.call Tryz.call158 rfl (mK (s:=s) hs ⟨_,rfl,hr⟩ hrw) ?_);rintro _ w ⟨H1,e,pf,hle1,rfl,hA,hs,hne,heq⟩
 refine .z zm (.z zex (.z zex (.z zg (.z zg (.nil (.seq (.aj (.z zm (.z gP ?_)))))))))
 refine .nil ?_
 refine (.eI rfl (fun hc16=>?_) (fun hc16=>?_))
 ·refine .aj (.z zm (.z zg (.z zg (.z zg (.nil ?_)))))
  refine .ret (rT (Fin.Ep Tryz.results74 rfl rfl rfl ?_))
  exact ⟨H1,_,_,_,hle1,rfl,.first ⟨hA,fun _=>rfl,fun h=>(hc16 h).elim⟩ hc16,hs.tail⟩
 ·refine .skip ?_
  refine nT ?_
  refine .seq (.draw mix rfl hs fun w hs=>?_)
  refine .ys 0 rfl hs [_,_] bp aM ?_;refine .z 1 rfl zm ?_
  refine .E 2 hs ?_
  subst hc16
  obtain ⟨bf,bt,bl,cl,ts,lf,vl',sp,rfl,hF,hFo,hok,hsz⟩:=heq rfl
  have hwl:=(kT hA.zero.1).2.1
  have hbw:∀k,-9223372036854775807≤gi ws k∧gi ws k≤9223372036854775807:=fun k=>by
   simp only [FF] at hsz
   by_cases hk:k<s.n
   ·have:=iU ws hk;omega
   ·have:gi ws k=0:=by simp [gi,List.getElem?_eq_none (show ws.length≤k by omega)]
    omega
  refine .call Tryz.call159 rfl (rY hs (hrw.mono hle1) (by have:=hok.m1;simp only [dj.n] at hwl;omega) hbw) ?_;rintro v21 w ⟨H2,hle2,hr21,hs⟩
  refine .go ?_
  refine .E 3 hs ?_
  refine .call Tryz.call158 rfl (mK (s:=s) hs ⟨_,rfl,hr.mono (hle1.trans hle2)⟩ hr21) ?_;rintro _ w ⟨H3,e2,pg,hle3,rfl,hA2,hs,hne2,heq2⟩
  refine .go ?_
  refine .z 4 rfl zm ?_;refine .z 5 rfl zex ?_;refine .z 6 rfl zex ?_;refine .z 7 rfl zg ?_;refine .z 8 rfl zg ?_;refine .D hs ?_
  refine .seq (.aj (.z zm (.z gP (.nil ?_))))
  refine (.eI rfl (fun hc26=>?_) (fun hc26=>?_))
  ·refine .aj (.z zm (.z zg (.z zg (.z zg (.nil ?_)))))
   refine .ret (rT (Fin.Ep Tryz.results74 rfl rfl rfl ?_))
   obtain ⟨q1,q2,q3,q4⟩:=hFo.value (by simp [dj.n]) (by have:=hok.m0;have:=hok.m1;simp only [dj.n];omega) hok.dG hsz
   exact ⟨H3,_,_,_,hle1.trans (hle2.trans hle3),rfl,.second ⟨hA,fun h=>(h rfl).elim,fun _=>⟨q1,q3,q4⟩⟩ ⟨hA2,fun _=>rfl,fun h=>(hc26 h).elim⟩ hc26,hs.tail⟩
  ·refine .skip ?_
   refine nT ?_
   refine .aj (.z zm ?_)
   subst hc26
   obtain ⟨bf2,bt2,bl2,cl2,ts2,lf2,vl2,sp2,rfl,hF2,hFo2,hok2,hsz2⟩:=heq2 rfl
   refine .o (.call Tryz.call160 rfl (j7 hs hok hF2 hFo2 hsz2) ?_);rintro _ w ⟨rfl,a1,a2,a3,hs⟩
   simp only [BB] at a2 a3
   refine .z zv (.z zm ?_)
   refine .o (.call Tryz.call160 rfl (j7 hs hok (hF.mono (hle2.trans hle3)) hFo hsz) ?_);rintro _ w ⟨rfl,c1,c2,c3,hs⟩
   refine .z zg (.z zg (.z zg (.nil ?_)))
   refine .ret (Fin.Ep Tryz.results74 rfl rfl rfl ?_)
   exact ⟨H3,_,_,_,hle1.trans (hle2.trans hle3),rfl,.ok ⟨hA,fun h=>(h rfl).elim,fun _=>⟨c1,c2,c3⟩⟩ ⟨hA2,fun h=>(h rfl).elim,fun _=>⟨a1,by simp only [BB];omega,by simp only [BB];omega⟩⟩,hs.tail⟩
theorem Dg{n m:Int}(hm:0<m):(n.tmod m+m).tmod m=n%m:=by
 have h2:=Int.lt_tmod_of_pos n hm
 rw [Int.tmod_eq_emod_of_nonneg ak,Int.tmod_def,show n - m*n.tdiv m+m=n+m*(1 - n.tdiv m) by rw [Int.mul_sub];omega,Int.add_mul_emod_self_left]
theorem tV{v:Value}{l:List Int}{i n:Int}(hs:St H w σ)(hr:RI H v l)(hi:0≤i)(hn:n≤4611686018427387904):Cl Tryz.prog 264 [v,I i,I n] w fun v w'=>v=I (qh l i n)∧St H w' σ:=by
 obtain ⟨a,c,rfl⟩:=RI.shape hr
 have hlen:=(RI.len hr).2.2
 refine Cl.o Tryz.func264 Tryz.ntmps264 ag3 ?_
 refine .aj (.z zg (.nil (.seq (.aj (.z zm (.z (cN ae) (.z fw (.z zm ?_))))))))
 refine .iB (t':=10) rfl (fun hb10=>?_) (fun hb10=>?_)
 ·refine .gFs 2 3 false rfl rfl rfl ?_
  refine .z zpT (.nil ?_)
  refine (.cT ?_)
  refine .aj (.z zg (.nil ?_))
  refine .ret (rT (Fin.bK Tryz.results264 rfl ?_))
  exact ⟨by rw [show qh l i n=0 by unfold qh;rw [if_pos (.inl (List.length_eq_zero_iff.1 ak))]],hs⟩
 ·refine .gT rfl rfl ?_
  refine .z zm ?_
  refine .gT rfl rfl ?_
  refine .z fD (.z zpF (.nil ?_))
  refine (.bJ rfl (fun hc13=>?_) (fun hc13=>?_))
  ·refine .aj (.z zg (.nil ?_))
   refine .ret (rT (Fin.bK Tryz.results264 rfl ?_))
   exact ⟨by rw [show qh l i n=0 by unfold qh;rw [if_pos (.inr ak)]],hs⟩
  ·refine .skip ?_
   refine nT ?_
   refine .aj (.z zm (.z zm (.z zm (.z (cN ae) ?_))))
   have hl0:0<l.length:=by omega
   have h1:=Int.tmod_nonneg (a:=i) (l.length:Int) hi
   have h2:=Int.tmod_lt_of_pos i (b:=(l.length:Int)) ak
   have hx:=bE (l:=l) (i:=(i.tmod (l.length:Int)).toNat) ak
   have h3:=Int.tmod_lt_of_pos (gi l (i.tmod (l.length:Int)).toNat) (b:=n) ak
   have h4:=Int.lt_tmod_of_pos (gi l (i.tmod (l.length:Int)).toNat) (b:=n) ak
   have e:=Dg (n:=gi l (i.tmod (l.length:Int)).toNat) (m:=n) ak
   refine .z CI ?_
   refine .ixY hs hr rfl rfl ae ai hx ak ?_;intro b19 o19 hc19
   refine .q hs (aO rfl af hc19) ?_
   refine .z zm (.z CI (.z zm (.z cH (.z zm (.z CI (.z zg (.nil ?_)))))))
   refine .ret (Fin.bK Tryz.results264 rfl ?_)
   exact ⟨by unfold qh;rw [if_neg (fun h=>h.elim (fun h=>by rw [h] at hl0;exact Nat.lt_irrefl _ hl0) (fun h=>by omega)),←e],hs⟩
def wj(i j:Nat):Int:=if i=j then 0 else free
theorem EH{n:Nat}(es:List Arc){T:Nat→Nat→Int}(h:∀i j,i<n→j<n→T i j=wj i j):Fo n es 0 T:=
 ⟨fun i hi=>by rw [h i i hi hi];simp [wj],fun _ _ h=>by omega,fun i j hi hj hij=> .inl (by rw [h i j hi hj];simp [wj,hij])⟩
set_option maxHeartbeats 4000000 in
theorem ny{v:Value}{s:dj}(hs:St H w σ)(hr:RSy H v s)(hok:s.Ok):
  Cl Tryz.prog 226 [v] w fun u w'=>∃H1 rs,HLe H H1∧RT H1 u rs∧Sq s.n rs∧jc s.n s.dG (gt rs)∧St H1 w' σ:=by
 obtain ⟨ul,rfl,hl⟩:=hr
 obtain ⟨al,cl,rfl⟩:=RL.shape hl
 have hm0:=hok.m0
 have hm1:=hok.m1
 have hlen:=hok.len
 have hnp:=s.AJ
 have hn65:=hok.n65
 have hinn:=hok.inn
 have hmn:s.many+1=(s.n:Int):=by simp only [dj.n];omega
 generalize hn:s.n=n at hnp hn65 hinn hmn ⊢
 refine Cl.o Tryz.func226 Tryz.ntmps226 ag1 ?_
 refine .aj ?_
 refine .bx hs fun b1 w hs=>?_
 refine .z zg (.nil (.aj (.z (zfa bA) ?_)))
 first|refine .q hs (ed rfl af (hm:=by repeat (first|exact .here|assumption|exact Mem.row ak ak|refine .there ?_|refine Mem.jB ?_)) (hv:=by first|rfl|exact dn ak|exact fV cZ ak ak|exact fk fp)) ?_|refine .q hs (aO rfl af cZ) ?_
 refine .z cH ?_
 rw [hmn]
 refine .z zg (.nil (.aj (.z zm ?_)))
 refine .o (.E2 n hs rfl rfl au Tryz.typeInfo22 rfl aC dV ak fun b16 w hs=>?_)
 refine .z zg (.nil (.seq (.aj (.z zm (.z (cN au) (.z zm (.nil ?_)))))))
 refine .for (N:=n) (J:=fun k fr w=>fr=[(3,I (n:Int)),(4,.slice (some ⟨b16,0,none⟩) n n),(1,.pointer (some ⟨b1,0,none⟩))]∧∃bs:List Nat,bs.length=k∧St H w (.blk b16 (bs.map (ptr n)++List.replicate (n - k) (.slice none 0 0))::(jk bs (yJ wj n k)++(.blk b1 [I s.many,.slice al s.bU.length cl]::σ)))) ak ?_ ?_ ?_
 ·exact .mk ⟨rfl,[],rfl,hs⟩
 ·rintro k fr w hk ⟨rfl,bs,hbl,hs⟩
  refine .block (.aj (.z zm (.z zg (.nil (.aj (.z zm (.z zm (.z zm ?_))))))))
  refine .o (.pD n hs rfl rfl ae dW rfl ai bO ak fun b25 w hs=>?_)
  first|(refine .ixw hs au aC ?_;intro b26 o26 hc26)|refine .z (zix au aC) ?_
  refine .o (.store hs rfl rfl aC ?_ cU (by simp [hbl];omega) (BL hbl hk));intro w hs
  refine .nil (.aj (.z zm (.z zm ?_)))
  first|(refine .ixw hs au aC ?_;intro b29 o29 hc29)|refine .z (zix au aC) ?_
  refine .q hs (ed rfl an (hv:=zN hbl)) ?_
  refine .z (cN ae) (.z zm (.nil ?_))
  refine .for (N:=n) (J:=fun j fr w=>fr=[(5,I (k:Int)),(19,I (k:Int)),(18,I (n:Int)),(3,I (n:Int)),(4,.slice (some ⟨b16,0,none⟩) n n),(1,.pointer (some ⟨b1,0,none⟩))]∧St H w (.blk b25 (Is ((List.range n).map fun c=>if c<j∧k≠c then free else 0)):: .blk b16 ((bs++[b25]).map (ptr n)++List.replicate (n - (k+1)) (.slice none 0 0))::(jk bs (yJ wj n k)++(.blk b1 [I s.many,.slice al s.bU.length cl]::σ)))) ak ?_ ?_ ?_
  ·rw [tY (fun c=>if c<0∧k≠c then free else 0) n 0 (fun j _=>by simp)] at hs
   exact .mk ⟨rfl,hs⟩
  ·rintro j fr w hj ⟨rfl,hs⟩
   refine .block (.aj (.z zm (.z zg (.nil (.aj (.z zm (.z zm (.z gP (.nil ?_)))))))))
   refine (.eI rfl (fun hc37=>?_) (fun hc37=>?_))
   ·refine .region (.z zm (.z zm ?_))
    first|(refine .ixw hs au aC ?_;intro b40 o40 hc40)|refine .z (zix au aC) ?_
    refine .q hs (ed rfl an (hv:=zN hbl)) ?_
    refine .z zm ?_
    first|(refine .ixv hs ae ai ?_;intro b43 o43 hc43)|refine .z (zix ae ai) ?_
    refine .o (.store hs rfl rfl ai ?_ cU (uG (by simp;omega)) (lF _ _ _));intro w hs
    refine .nil ?_
    refine nB (nT ?_)
    rw [BC _ (fun c=>if c<j+1∧k≠c then free else 0) hj 1000000000 (fun c _=>by
     by_cases e:c=j
     ·subst e;rw [if_pos rfl,if_pos ⟨ak,ak⟩]
     ·rw [if_neg e];congr 1;apply propext;omega)] at hs
    exact .mk ⟨rfl,hs⟩
   ·refine .skip ?_
    refine nB (nT ?_)
    rw [tZ (g:=fun c=>if c<j+1∧k≠c then free else 0) (fun c _=>by
     by_cases e:c=j
     ·subst e;rw [if_neg ak,if_neg ak]
     ·congr 1;apply propext;omega)] at hs
    exact .mk ⟨rfl,hs⟩
  ·rintro fr w ⟨rfl,hs⟩
   rw [tZ (g:=wj k) (fun c hc=>by
    unfold wj
    by_cases e:k=c
    ·rw [if_neg ak,if_pos e]
    ·rw [if_pos ⟨hc,e⟩,if_neg e])] at hs
   replace hs:=hs.FP (by rw [hbl,tz])
   rw [←xw] at hs
   refine nB (nT ?_)
   exact .mk ⟨rfl,bs++[b25],by simp [hbl],hs⟩
 ·rintro fr w ⟨rfl,bs,hbl,hs⟩
  rw [Nat.sub_self,List.replicate_zero,List.append_nil] at hs
  refine nT ?_
  refine .seq (.aj (.z (zfa bh) ?_))
  first|refine .q hs (ed rfl bT (hm:=by repeat (first|exact .here|assumption|exact Mem.row ak ak|refine .there ?_|refine Mem.jB ?_)) (hv:=by first|rfl|exact dn ak|exact fV cZ ak ak|exact fk fp)) ?_|refine .q hs (aO rfl bT cZ) ?_
  refine .z (cN aH) (.z zm (.nil ?_))
  refine .for (N:=s.bU.length) (J:=fun k fr w=>fr=[(47,.slice al s.bU.length cl),(4,.slice (some ⟨b16,0,none⟩) n n)]∧∃rs,Sq n rs∧Fo n s.dG k (gt rs)∧St H w (.blk b16 (bs.map (ptr n))::(jk bs rs++(.blk b1 [I s.many,.slice al s.bU.length cl]::σ)))) ak ?_ ?_ ?_
  ·exact .mk ⟨rfl,_,Bj wj n,EH s.dG (fun i j hi hj=>yI wj hi hj),hs⟩
  ·rintro k fr w hk ⟨rfl,rs,hq,hB,hs⟩
   obtain ⟨x,hx⟩:=nth (l:=s.bU) hk
   have hrl:=hq.1
   obtain ⟨⟨xa0,xa1⟩,⟨xb0,xb1⟩,xne,xM,-⟩:=hok.lim x (List.mem_of_getElem? hx)
   have ha:x.A.toNat<n:=by omega
   have hb:x.B.toNat<n:=by omega
   have hga:=kE hx
   refine .block (.aj ?_)
   refine .ixX (enc:=Lim.c) hs hl rfl rfl aH aQ hx rfl ?_;intro b51 o51 hc51
   refine .q hs (cj (vs:=x.c) rfl dS aQ hc51) ?_
   refine .o (.alloc hs eG rfl fun b8 w hs=>?_)
   refine .o (.aZ (vs:=x.c) hs rfl rfl aQ fun w hs=>?_)
   refine .nil ?_
   refine .draw mix rfl hs fun w hs=>?_
   refine .z 0 rfl zm ?_;refine .z 1 rfl (zfa dD) ?_
   first|refine .load (i:=2) hs rfl aq .none rfl af ?_ (by repeat (first|exact .here|assumption|exact Mem.row ak ak|refine .there ?_|refine Mem.jB ?_)) (by first|rfl|exact dn ak|exact fV cZ ak ak|exact fk fp)|refine .r (i:=2) hs rfl aq .none (aO rfl af cZ) ?_
   refine .z 3 rfl (ef (k:=x.A.toNat) rfl rfl au aC ak ha) ?_
   first|refine .load (i:=4) hs rfl aq .none rfl an ?_ (by repeat (first|exact .here|assumption|exact Mem.row ak ak|refine .there ?_|refine Mem.jB ?_)) (by first|rfl|exact dn ak|exact fV cZ ak ak|exact fk fp)|refine .r (i:=4) hs rfl aq .none (aO rfl an cZ) ?_
   refine .z 5 rfl (zfa dO) ?_
   first|refine .load (i:=6) hs rfl aq .none rfl af ?_ (by repeat (first|exact .here|assumption|exact Mem.row ak ak|refine .there ?_|refine Mem.jB ?_)) (by first|rfl|exact dn ak|exact fV cZ ak ak|exact fk fp)|refine .r (i:=6) hs rfl aq .none (aO rfl af cZ) ?_
   refine .z 7 rfl zm ?_;refine .z 8 rfl (zfa dD) ?_
   first|refine .load (i:=9) hs rfl aq .none rfl af ?_ (by repeat (first|exact .here|assumption|exact Mem.row ak ak|refine .there ?_|refine Mem.jB ?_)) (by first|rfl|exact dn ak|exact fV cZ ak ak|exact fk fp)|refine .r (i:=9) hs rfl aq .none (aO rfl af cZ) ?_
   refine .z 10 rfl (ef (k:=x.A.toNat) rfl rfl au aC ak ha) ?_
   first|refine .load (i:=11) hs rfl aq .none rfl an ?_ (by repeat (first|exact .here|assumption|exact Mem.row ak ak|refine .there ?_|refine Mem.jB ?_)) (by first|rfl|exact dn ak|exact fV cZ ak ak|exact fk fp)|refine .r (i:=11) hs rfl aq .none (aO rfl an cZ) ?_
   refine .z 12 rfl (zfa dO) ?_
   first|refine .load (i:=13) hs rfl aq .none rfl af ?_ (by repeat (first|exact .here|assumption|exact Mem.row ak ak|refine .there ?_|refine Mem.jB ?_)) (by first|rfl|exact dn ak|exact fV cZ ak ak|exact fk fp)|refine .r (i:=13) hs rfl aq .none (aO rfl af cZ) ?_
   refine .z 14 rfl (ef (k:=x.B.toNat) rfl rfl ae ai ak hb) ?_
   first|refine .load (i:=15) hs rfl aq .none rfl af ?_ (by repeat (first|exact .here|assumption|exact Mem.row ak ak|refine .there ?_|refine Mem.jB ?_)) (by first|rfl|exact dn ak|exact fV cZ ak ak|exact fk fp)|refine .r (i:=15) hs rfl aq .none (aO rfl af cZ) ?_
   refine .z 16 rfl (zfa eH) ?_
   first|refine .load (i:=17) hs rfl aq .none rfl af ?_ (by repeat (first|exact .here|assumption|exact Mem.row ak ak|refine .there ?_|refine Mem.jB ?_)) (by first|rfl|exact dn ak|exact fV cZ ak ak|exact fk fp)|refine .r (i:=17) hs rfl aq .none (aO rfl af cZ) ?_
   refine .z 18 rfl zw ?_
   refine .z 19 rfl (ef (k:=x.B.toNat) rfl rfl ae ai ak hb) ?_
   refine .ET 20 hs ?_
   refine .store hs rfl rfl ai ?_ (.there (.there (Upd.row _ ak ak))) (uG (by rw [hq.2 _ ha];exact hb)) (lF _ _ _);intro w hs
   refine .go ?_
   refine .DT hs ?_
   refine nB (nT ?_)
   exact .mk ⟨rfl,_,hq.set ha _,by rw [zV hq ha hb];exact hB.step hinn hga,hs.tail⟩
  ·rintro fr w ⟨rfl,rs,hq,hB,hs⟩
   rw [←fq] at hB
   have hI:=hB.go hinn hnp
   have hcb:∀x∈s.dG,-20000≤x.c∧x.c≤20000:=fun x hx=>by have:=hinn x hx;omega
   refine nT ?_
   refine .seq (.aj (.z zm (.z (cN au) (.z zm (.nil ?_)))))
   refine .for (N:=n) (J:=fun m fr w=>fr=[(4,.slice (some ⟨b16,0,none⟩) n n)]∧∃rs,Sq n rs∧(m<n→xn n s.dG m (fun _ _=>False) (gt rs))∧(m=n→jc n s.dG (gt rs))∧St H w (.blk b16 (bs.map (ptr n))::(jk bs rs++(.blk b1 [I s.many,.slice al s.bU.length cl]::σ)))) ak ?_ ?_ ?_
   ·exact .mk ⟨rfl,rs,hq,fun _=>hI,fun e=>by omega,hs⟩
   ·clear hI hB hq
    rintro m fr w hm ⟨rfl,rs,hq,hI,-,hs⟩
    replace hI:=hI hm
    refine .block (.aj (.z zm (.z zg (.nil (.aj (.z zm (.z (cN au) (.z zm (.nil ?_)))))))))
    refine .for (N:=n) (J:=fun i fr w=>fr=[(9,I (m:Int)),(76,I (m:Int)),(75,I (n:Int)),(4,.slice (some ⟨b16,0,none⟩) n n)]∧∃rs,Sq n rs∧xn n s.dG m (fun a _=>a<i) (gt rs)∧St H w (.blk b16 (bs.map (ptr n))::(jk bs rs++(.blk b1 [I s.many,.slice al s.bU.length cl]::σ)))) ak ?_ ?_ ?_
    ·exact .mk ⟨rfl,rs,hq,hI.skip hcb hm (P:=fun _ _=>False) (fun i j h=>by omega) (fun _ _ _ _ h=>h.elim),hs⟩
    ·clear hI hq
     rintro i fr w hi ⟨rfl,rs,hq,hI,hs⟩
     refine .block (.aj (.z zm (.z zg (.nil (.aj (.z zm (.z (cN au) (.z zm (.nil ?_)))))))))
     refine .for (N:=n) (J:=fun k fr w=>fr=[(10,I (i:Int)),(81,I (i:Int)),(80,I (n:Int)),(9,I (m:Int)),(76,I (m:Int)),(75,I (n:Int)),(4,.slice (some ⟨b16,0,none⟩) n n)]∧∃rs,Sq n rs∧xn n s.dG m (fun a b=>a<i∨(a=i∧b<k)) (gt rs)∧St H w (.blk b16 (bs.map (ptr n))::(jk bs rs++(.blk b1 [I s.many,.slice al s.bU.length cl]::σ)))) ak ?_ ?_ ?_
     ·exact .mk ⟨rfl,rs,hq,hI.skip hcb hm (P:=fun _ _=>False) (fun a b h=>by omega) (fun _ _ _ _ h=>h.elim),hs⟩
     ·clear hI hq
      rintro k fr w hk ⟨rfl,rs,hq,hI,hs⟩
      have hrl:=hq.1
      have c1:=hI.cl i m hi hm;have c2:=hI.cl m k hm hk
      have u1:=hI.up i m hi hm;have u2:=hI.up m k hm hk
      refine .block (.aj (.z zm (.z zg (.nil (.aj (.z zm (.z zm ?_)))))))
      first|(refine .ixw hs au aC ?_;intro b91 o91 hc91)|refine .z (zix au aC) ?_
      first|refine .q hs (ed rfl an (hm:=by repeat (first|exact .here|assumption|exact Mem.row ak ak|refine .there ?_|refine Mem.jB ?_)) (hv:=by first|rfl|exact dn ak|exact fV cZ ak ak|exact fk fp)) ?_|refine .q hs (aO rfl an cZ) ?_
      refine .z zm ?_
      first|(refine .ixv hs ae ai ?_;intro b94 o94 hc94)|refine .z (zix ae ai) ?_
      first|refine .q hs (ed rfl af (hm:=by repeat (first|exact .here|assumption|exact Mem.row ak ak|refine .there ?_|refine Mem.jB ?_)) (hv:=by first|rfl|exact dn ak|exact fV cZ ak ak|exact fk fp)) ?_|refine .q hs (aO rfl af cZ) ?_
      refine .z gP (.z zm ?_)
      refine .yq (t':=97) rfl (fun hb97=>?_) (fun hb97=>?_)
      ·refine .gT rfl rfl ?_
       refine .z zm ?_
       refine .gT rfl rfl ?_
       refine .z zm ?_
       refine .gT rfl rfl ?_
       first|(refine .ixw hs au aC ?_;intro b100 o100 hc100)|refine .z (zix au aC) ?_
       refine .gT rfl rfl ?_
       first|refine .q hs (ed rfl an (hm:=by repeat (first|exact .here|assumption|exact Mem.row ak ak|refine .there ?_|refine Mem.jB ?_)) (hv:=by first|rfl|exact dn ak|exact fV cZ ak ak|exact fk fp)) ?_|refine .q hs (aO rfl an cZ) ?_
       refine .gT rfl rfl ?_
       refine .z zm ?_
       refine .gT rfl rfl ?_
       first|(refine .ixv hs ae ai ?_;intro b103 o103 hc103)|refine .z (zix ae ai) ?_
       refine .gT rfl rfl ?_
       first|refine .q hs (ed rfl af (hm:=by repeat (first|exact .here|assumption|exact Mem.row ak ak|refine .there ?_|refine Mem.jB ?_)) (hv:=by first|rfl|exact dn ak|exact fV cZ ak ak|exact fk fp)) ?_|refine .q hs (aO rfl af cZ) ?_
       refine .gT rfl rfl ?_
       refine .z gP (.z zpT (.nil ?_))
       refine (.eI rfl (fun hc106=>?_) (fun hc106=>?_))
       ·refine .draw mix rfl hs fun w hs=>?_
        replace u1:=u1 hb97;replace u2:=u2 hc106
        refine .z 0 rfl zm ?_;refine .z 1 rfl zm ?_
        first|(refine .ixw 2 rfl hs au aC ?_;intro b109 o109 hc109)|refine .z 2 rfl (zix au aC) ?_
        first|refine .load (i:=3) hs rfl aq .none rfl an ?_ (by repeat (first|exact .here|assumption|exact Mem.row ak ak|refine .there ?_|refine Mem.jB ?_)) (by first|rfl|exact dn ak|exact fV cZ ak ak|exact fk fp)|refine .r (i:=3) hs rfl aq .none (aO rfl an cZ) ?_
        refine .z 4 rfl zm ?_;refine .z 5 rfl zm ?_;refine .z 6 rfl zm ?_
        first|(refine .ixw 7 rfl hs au aC ?_;intro b114 o114 hc114)|refine .z 7 rfl (zix au aC) ?_
        first|refine .load (i:=8) hs rfl aq .none rfl an ?_ (by repeat (first|exact .here|assumption|exact Mem.row ak ak|refine .there ?_|refine Mem.jB ?_)) (by first|rfl|exact dn ak|exact fV cZ ak ak|exact fk fp)|refine .r (i:=8) hs rfl aq .none (aO rfl an cZ) ?_
        refine .z 9 rfl zm ?_
        first|(refine .ixv 10 rfl hs ae ai ?_;intro b117 o117 hc117)|refine .z 10 rfl (zix ae ai) ?_
        first|refine .load (i:=11) hs rfl aq .none rfl af ?_ (by repeat (first|exact .here|assumption|exact Mem.row ak ak|refine .there ?_|refine Mem.jB ?_)) (by first|rfl|exact dn ak|exact fV cZ ak ak|exact fk fp)|refine .r (i:=11) hs rfl aq .none (aO rfl af cZ) ?_
        refine .z 12 rfl zm ?_;refine .z 13 rfl zm ?_
        first|(refine .ixw 14 rfl hs au aC ?_;intro b121 o121 hc121)|refine .z 14 rfl (zix au aC) ?_
        first|refine .load (i:=15) hs rfl aq .none rfl an ?_ (by repeat (first|exact .here|assumption|exact Mem.row ak ak|refine .there ?_|refine Mem.jB ?_)) (by first|rfl|exact dn ak|exact fV cZ ak ak|exact fk fp)|refine .r (i:=15) hs rfl aq .none (aO rfl an cZ) ?_
        refine .z 16 rfl zm ?_
        first|(refine .ixv 17 rfl hs ae ai ?_;intro b124 o124 hc124)|refine .z 17 rfl (zix ae ai) ?_
        first|refine .load (i:=18) hs rfl aq .none rfl af ?_ (by repeat (first|exact .here|assumption|exact Mem.row ak ak|refine .there ?_|refine Mem.jB ?_)) (by first|rfl|exact dn ak|exact fV cZ ak ak|exact fk fp)|refine .r (i:=18) hs rfl aq .none (aO rfl af cZ) ?_
        refine .z 19 rfl zm ?_;refine .z 20 rfl zm ?_
        first|(refine .ixw 21 rfl hs au aC ?_;intro b128 o128 hc128)|refine .z 21 rfl (zix au aC) ?_
        first|refine .load (i:=22) hs rfl aq .none rfl an ?_ (by repeat (first|exact .here|assumption|exact Mem.row ak ak|refine .there ?_|refine Mem.jB ?_)) (by first|rfl|exact dn ak|exact fV cZ ak ak|exact fk fp)|refine .r (i:=22) hs rfl aq .none (aO rfl an cZ) ?_
        refine .z 23 rfl zm ?_
        first|(refine .ixv 24 rfl hs ae ai ?_;intro b131 o131 hc131)|refine .z 24 rfl (zix ae ai) ?_
        first|refine .load (i:=25) hs rfl aq .none rfl af ?_ (by repeat (first|exact .here|assumption|exact Mem.row ak ak|refine .there ?_|refine Mem.jB ?_)) (by first|rfl|exact dn ak|exact fV cZ ak ak|exact fk fp)|refine .r (i:=25) hs rfl aq .none (aO rfl af cZ) ?_
        refine .z 26 rfl cH ?_;refine .z 27 rfl zw ?_;refine .z 28 rfl CJ ?_
        first|(refine .ixv 29 rfl hs ae ai ?_;intro b136 o136 hc136)|refine .z 29 rfl (zix ae ai) ?_
        refine .ET 30 hs ?_
        refine .store hs rfl rfl ai ?_ (.there (Upd.row _ ak ak)) (uG (by rw [hq.2 _ hi];exact hk)) (lF _ _ _);intro w hs
        refine .go ?_
        refine .DT hs ?_
        refine nB (nT ?_)
        exact .mk ⟨rfl,_,hq.set hi _,by rw [zV hq hi hk];exact hI.step hcb hm hi hk (fun a b h=>by omega) hb97 hc106,hs⟩
       ·refine .skip ?_
        refine nB (nT ?_)
        exact .mk ⟨rfl,rs,hq,hI.skip hcb hm (P:=fun a b=>a=i∧b=k) (fun a b h=>by omega) (fun a b _ _ h=>by obtain ⟨rfl,rfl⟩:=h;exact .inr hc106),hs⟩
      ·refine .gFs 8 8 true rfl rfl rfl ?_
       refine .z zpF (.nil ?_)
       refine (.cF ?_)
       refine .skip ?_
       refine nB (nT ?_)
       exact .mk ⟨rfl,rs,hq,hI.skip hcb hm (P:=fun a b=>a=i∧b=k) (fun a b h=>by omega) (fun a b _ _ h=>by obtain ⟨rfl,rfl⟩:=h;exact .inl hb97),hs⟩
     ·rintro fr w ⟨rfl,rs,hq,hI,hs⟩
      refine nB (nT ?_)
      exact .mk ⟨rfl,rs,hq,hI.skip hcb hm (P:=fun a b=>a=i∧n≤b) (fun a b h=>by omega) (fun a b _ hb h=>by omega),hs⟩
    ·rintro fr w ⟨rfl,rs,hq,hI,hs⟩
     replace hI:xn n s.dG m (fun _ _=>True) (gt rs):=hI.skip hcb hm (P:=fun a _=>n≤a) (fun a b h=>by omega) (fun a b ha _ h=>by omega)
     refine nB (nT ?_)
     exact .mk ⟨rfl,rs,hq,fun h=>hI.next hcb h hn65,fun h=>hI.done hcb h.symm hn65,hs⟩
   ·rintro fr w ⟨rfl,rs,hq,-,hT,hs⟩
    replace hT:=hT rfl
    refine nT ?_
    refine .aj (.z zm (.z zg (.nil ?_)))
    refine .ret (Fin.bK Tryz.results226 rfl ?_)
    obtain ⟨H1,g1,g2,hs⟩:=wq hq hbl ak hs
    exact ⟨H1,rs,g1,g2,hq,hT,hs.tail⟩
theorem mE{vm:Value}{rs:List (List Int)}{n:Nat}(hs:St H w σ)(hM:RT H vm rs)(hq:Sq n rs)(hn:n≤1000):
  Cl Tryz.prog 233 [vm] w fun v w'=>∃b,v= .bool b∧(b=true↔∀i,i<n→¬gt rs i i<0)∧St H w' σ:=by
 obtain ⟨a,c,rfl⟩:=hM.shape
 have hrl:=hq.1
 refine Cl.o Tryz.func233 Tryz.ntmps233 ag1 ?_
 refine .aj (.z zg (.nil (.seq (.aj (.z zm (.z (cN au) (.z zm (.nil ?_))))))))
 refine .for (N:=rs.length) (J:=fun k fr w=>fr=[(0,.slice a rs.length c)]∧(∀i,i<k→¬gt rs i i<0)∧St H w σ) ak ?_ ?_ ?_
 ·exact .mk ⟨rfl,fun i h=>by omega,hs⟩
 ·rintro k fr w hk ⟨rfl,h0,hs⟩
  refine .block (.aj (.z zm (.z zg (.nil (.aj (.z zm (.z zm ?_)))))))
  refine .ixT hs hM rfl rfl au aC hk rfl ?_;intro b11 o11 a11 c11 hc11 hR11
  refine .q hs (aO rfl an hc11) ?_
  refine .z zm ?_
  refine .ixY hs hR11 rfl rfl ae ai (bE (l:=gr rs k) (i:=k) (by rw [hq.2 k ak];omega)) rfl ?_;intro b14 o14 hc14
  refine .q hs (aO rfl af hc14) ?_
  refine .z fD (.nil ?_)
  refine (.bJ rfl (fun hc16=>?_) (fun hc16=>?_))
  ·refine .aj (.z zg (.nil ?_))
   refine .ret (rB (rT (rB (rT (Fin.bK Tryz.results233 rfl ?_)))))
   exact ⟨false,rfl,⟨fun h=>(by cases h),fun h=>(h k ak hc16).elim⟩,hs⟩
  ·refine .skip ?_
   refine nB (nT ?_)
   exact .mk ⟨rfl,fun i hi=>by
    by_cases e:i=k
    ·subst e;exact hc16
    ·exact h0 i ak,hs⟩
 ·rintro fr w ⟨rfl,h0,hs⟩
  refine nT ?_
  refine .aj (.z zg (.nil ?_))
  refine .ret (Fin.bK Tryz.results233 rfl ?_)
  exact ⟨true,rfl,⟨fun _ i hi=>h0 i ak,fun _=>rfl⟩,hs⟩
theorem qc{v:Value}{ws:List Int}{n:Nat}(hs:St H w σ)(hr:RI H v ws)(hl:ws.length=n+1)(hn:n≤1000)(hz:bL ws (n+1)≤FF):
  Cl Tryz.prog 291 [v] w fun u w'=>∃b cap sp lf,u= .slice (some ⟨b,0,none⟩) (n+1) cap∧lf.length=n+1∧(∀v<n+1,gi lf v=m9 ws (n+1) v)∧St H w' (.blk b (Is lf++sp)::σ):=by
 obtain ⟨a,c,rfl⟩:=RI.shape hr
 have hFF:FF=3600000000000:=rfl
 refine Cl.o Tryz.func291 Tryz.ntmps291 ag1 ?_
 refine .aj (.z zg (.nil (.aj ?_)))
 refine .o (.buildSlice (cells:=[]) hs fT rfl rfl fun b6 w hs=>?_)
 refine .z zm ?_
 refine .o (.append (xs:=[]) hs bg rfl rfl (.full (len:=0) rfl) (.ints hr) (dM ws) (fun l' h=>by simp at h;obtain rfl:l'=0:=ak;omega) ?_);intro v8 en8 w hO hs
 rw [List.nil_append] at hO
 rcases hO with ⟨_,_,h0,_⟩|⟨b8,l8,c8,sp,rfl,rfl,h5,h6,h7⟩
 ·exfalso
  have h1:ws.length=0:=by simpa using congrArg List.length h0
  omega
 obtain rfl:l8=n+1:=by simp at h5;omega
 refine .z zg (.nil (.aj (.z zm ?_)))
 refine .q hs (ef (k:=0) rfl rfl ae ai rfl ak) ?_
 refine .o (.store hs rfl rfl ai ?_ cU (by simp;omega) (zE ak 0 sp));intro w hs
 refine .nil (.seq (.aj (.z zm ?_)))
 refine .q hs (qf (k:=1) rfl rfl ae ai rfl ak) ?_
 have hT:=RI.tail hr (k:=1) ak
 have hTl:(ws.drop 1).length=n:=by rw [List.length_drop];omega
 refine .z (cN ae) (.z zm (.nil ?_))
 refine .for (N:=n) (J:=fun k fr w=>fr=[(12,.slice (if c=1 then a else a.map (·.add (1*1))) (ws.length - 1) (c - 1)),(3,.slice (some ⟨b8,0,none⟩) (n+1) c8)]∧∃lf,(lf.length=n+1∧gi lf 0= -kj ws k∧∀v,0<v→gi lf v=gi ws v)∧St H w (.blk b8 (Is lf++sp)::σ)) ak ?_ ?_ ?_
 ·exact .mk ⟨rfl,_,⟨by simp [hl],by rw [eU ak,if_pos rfl];rfl,fun v hv=>by rw [eU ak,if_neg ak]⟩,hs⟩ (hs:= .cn rfl rfl (.cn rfl ak a8))
 ·rintro k fr w hk ⟨rfl,lf,⟨h8,h9,h10⟩,hs⟩
  have hx:=bE (l:=ws.drop 1) (i:=k) ak
  have e1:gi (ws.drop 1) k=gi ws (k+1):=by simp [gi,List.getD]
  have hb1:=rh ws k
  have hb2:=iU ws (v:=k+1) (n:=n+1) ak
  have hb3:=nZ (f:=fun v=>max (gi ws v) (-gi ws v)) (fun v=>by omega) (k:=k+1) (n:=n+1) ak
  change bL ws (k+1)≤bL ws (n+1) at hb3
  refine .block (.aj ?_)
  refine .ixY hs hT rfl rfl ae ai hx rfl ?_;intro b16 o16 hc16
  refine .q hs (aO rfl af hc16) ?_
  rw [e1]
  refine .z zg (.nil (.region (.z zm ?_)))
  refine .q hs (ef (k:=0) rfl rfl ae ai rfl ak) ?_
  refine .q hs (ed rfl af (hv:=nS (bE (l:=lf) (i:=0) ak) sp)) ?_
  refine .z zm (.z gO ?_)
  refine .q hs (ef (k:=0) rfl rfl ae ai rfl ak) ?_
  refine .o (.store hs rfl rfl ai ?_ cU (by simp;omega) (zE ak _ sp));intro w hs
  refine .nil ?_
  refine nB (nT ?_)
  exact .mk ⟨rfl,_,⟨by simp [h8],by rw [eU ak,if_pos rfl,h9];simp only [kj,bu];omega,fun v hv=>by rw [eU ak,if_neg ak];exact h10 v hv⟩,hs⟩
 ·rintro fr w ⟨rfl,lf,⟨h8,h9,h10⟩,hs⟩
  refine nT ?_
  refine .aj (.z zm (.z zg (.nil ?_)))
  refine .ret (Fin.bK Tryz.results291 rfl ?_)
  exact ⟨b8,c8,sp,lf,rfl,h8,fun v hv=>by
   cases v with
   |zero=>rw [h9,wg]
   |succ v=>rw [h10 _ ak,wh],hs⟩
theorem tT{vm:Value}{Ms Fs:List (List Int)}{n bF:Nat}{bs:List Nat}(hs:St H w σ)(hM:RT H vm Ms)(hqM:Sq n Ms)(hn:n≤1000)(hF0:Mem σ (.blk bF (bs.map (ptr n))))(hbl:bs.length=n)(hqF:Sq n Fs)(hF:∀i,i<n→Mem σ (.blk (gb bs i) (Is (gr Fs i)))):
  Cl Tryz.prog 293 [vm,.slice (some ⟨bF,0,none⟩) n n] w fun v w'=>v=I (IntKind.i64.wrap (bu (fun a=>bu (fun b=>cell (gt Ms) (gt Fs) a b) n) n))∧St H w' σ:=by
 obtain ⟨am,cm,rfl⟩:=hM.shape
 have hml:=hqM.1
 have hfl:=hqF.1
 refine Cl.o Tryz.func293 Tryz.ntmps293 ag2 ?_
 refine .aj (.z zg (.nil (.aj (.z zg (.nil (.seq (.aj (.z zm (.z (cN au) ?_)))))))))
 refine .z zm (.nil ?_)
 refine .for (N:=n) (J:=fun k fr w=>fr=[(5,I (IntKind.i64.wrap (bu (fun a=>bu (fun b=>cell (gt Ms) (gt Fs) a b) n) k))),(0,.slice am Ms.length cm),(1,.slice (some ⟨bF,0,none⟩) n n)]∧St H w σ) ak ?_ ?_ ?_
 ·exact .mk ⟨rfl,hs⟩ (hs:= .cn rfl rfl (.cn rfl ak (.cn rfl (by simp [bu,om]) a8)))
 ·rintro i fr w hi ⟨rfl,hs⟩
  have hMi:i<Ms.length:=by omega
  refine .block (.aj (.z zm (.z zg (.nil (.aj (.z zm (.z (cN au) (.z zm (.nil ?_)))))))))
  refine .for (N:=n) (J:=fun k fr w=>fr=[(5,I (IntKind.i64.wrap (bu (fun a=>bu (fun b=>cell (gt Ms) (gt Fs) a b) n) i+bu (fun b=>cell (gt Ms) (gt Fs) i b) k))),(6,I (i:Int)),(10,I (i:Int)),(9,I (n:Int)),(0,.slice am Ms.length cm),(1,.slice (some ⟨bF,0,none⟩) n n)]∧St H w σ) ak ?_ ?_ ?_
  ·exact .mk ⟨rfl,hs⟩ (hs:= .cn rfl rfl (.cn rfl ak (.cn rfl (by simp [bu]) a8)))
  ·rintro k fr w hk ⟨rfl,hs⟩
   have hrM:(gr Ms i).length=n:=hqM.2 i hi
   have hFi:=hF i hi
   have hgi:∀z,0<gt Fs i k→z=gt Fs i k*gt Ms i k→z=cell (gt Ms) (gt Fs) i k:=fun z h e=>by unfold cell;rw [if_pos h,e]
   refine .block (.aj (.z zm (.z zg (.nil (.aj (.z zm (.z zm ?_)))))))
   refine .q hs (ef (k:=i) rfl rfl au aC rfl hi) ?_
   refine .q hs (ed rfl an (hm:=hF0) (hv:=dn ak)) ?_
   refine .z zm ?_
   refine .q hs (ef (k:=k) rfl rfl ae ai rfl hk) ?_
   refine .q hs (ed rfl af (hm:=hF i hi) (hv:=fV hqF hi hk)) ?_
   refine .z kD (.nil ?_)
   refine (.bJ rfl (fun hc25=>?_) (fun hc25=>?_))
   ·refine .draw mix rfl hs fun w hs=>?_
    refine .z 0 rfl zm ?_;refine .z 1 rfl zm ?_;refine .z 2 rfl zm ?_
    refine .z 3 rfl (ef (k:=i) rfl rfl au aC rfl hi) ?_
    refine .load (i:=4) hs rfl aq .none rfl an ?_ hF0 (dn ak)
    refine .z 5 rfl zm ?_
    refine .z 6 rfl (ef (k:=k) rfl rfl ae ai rfl hk) ?_
    refine .load (i:=7) hs rfl aq .none rfl af ?_ (hF i hi) (fV hqF hi hk)
    refine .z 8 rfl zm ?_;refine .z 9 rfl zm ?_
    refine .ixT (i:=10) hs rfl aq .none hM rfl rfl au aC hMi rfl ?_;intro b36 o36 a36 c36 hc36 hR36
    refine .r (i:=11) hs rfl aq .none (aO rfl an hc36) ?_
    refine .z 12 rfl zm ?_
    refine .ixX (enc:=fun x=>[I x]) (i:=13) hs rfl aq .none hR36 rfl rfl ae ai (bE (l:=gr Ms i) (i:=k) ak) rfl ?_;intro b39 o39 hc39;replace hc39:=bI.one hc39
    refine .r (i:=14) hs rfl aq .none (aO rfl af hc39) ?_
    refine .z 15 rfl (Dm rfl rfl) ?_
    refine .z 16 rfl (BK rfl rfl) ?_
    refine .z 17 rfl zg ?_
    refine .DT hs ?_
    refine nB (nT ?_)
    exact .mk ⟨rfl,hs⟩ (hs:= .cn rfl ak (.cn rfl rfl (.cn rfl (by
     rw [xZ,uq,show gt Fs i k*gi (gr Ms i) k=cell (gt Ms) (gt Fs) i k from hgi _ hc25 rfl]
     simp only [bu]
     congr 1;omega) a8)))
   ·refine .skip ?_
    refine nB (nT ?_)
    exact .mk ⟨rfl,hs⟩ (hs:= .cn rfl ak (.cn rfl rfl (.cn rfl (by
     have:cell (gt Ms) (gt Fs) i k=0:=by unfold cell;rw [if_neg hc25]
     simp only [bu,this]
     congr 1;omega) a8)))
  ·rintro fr w ⟨rfl,hs⟩
   refine nB (nT ?_)
   exact .mk ⟨rfl,hs⟩ (hs:= .cn rfl ak (.cn rfl rfl (.cn rfl (by simp only [bu]) a8)))
 ·rintro fr w ⟨rfl,hs⟩
  refine nT ?_
  refine .aj (.z zm (.z zg (.nil ?_)))
  refine .ret (Fin.bK Tryz.results293 rfl ?_)
  exact ⟨rfl,hs⟩
set_option maxHeartbeats 8000000 in
theorem sH{vm:Value}{Ms Fs:List (List Int)}{n bF bN capN:Nat}{bs:List Nat}{spN:List Value}{need ts:List Int}{es:List Arc}{D:Nat→Int}(hs:St H w σ)(hM:RT H vm Ms)(hqM:Sq n Ms)
  (hF0:Mem σ (.blk bF (bs.map (ptr n)))) (hbl:bs.length=n) (hqF:Sq n Fs) (hF:∀i,i<n→Mem σ (.blk (gb bs i) (Is (gr Fs i)))) (hN:Mem σ (.blk bN (Is need++spN))) (hNl:need.length=n)
  (hT:Tab n (gt Ms) es) (hC:uS n es ts (gt Fs)) (hg:VG n (du es ts) D):
  Cl Tryz.prog 292 [vm,.slice (some ⟨bF,0,none⟩) n n,.slice (some ⟨bN,0,none⟩) n capN] w fun u w'=>∃H1 vd vb s,HLe H H1∧u= .tuple #[vd,vb]∧RI H1 vd s.cost∧RS H1 2 vb (s.by_.map (lR es))∧kW n (du es ts) (fun v=>gi need v<0) D (fun _=>True) false s∧St H1 w' σ:=by
 obtain ⟨am,cm,rfl⟩:=hM.shape
 obtain rfl:n=Ms.length:=hqM.1.symm
 have hfl:=hqF.1
 have hn0:=hg.n0
 have hfree:free=1000000000:=rfl
 have hn65:=hg.n1
 have hD0:=hg.d0
 have hD1:=hg.d1
 have harc:∀x∈es,-1400000≤x.c∧x.c≤1400000:=fun x hx=>by have:=hg.ok x ((lV hT hC).2 (.inl hx));omega
 refine Cl.o Tryz.func292 Tryz.ntmps292 ag3 ?_
 refine .aj (.z zg (.z zg (.nil (.aj (.z zm (.z (cN au) ?_))))))
 refine .o (.pD Ms.length hs rfl rfl ae dW rfl ai bO ak fun b16 w hs=>?_)
 refine .z zg (.nil (.aj (.z zm (.z (cN au) ?_))))
 refine .o (.GS Ms.length hs rfl rfl dE Tryz.typeInfo315 rfl dq G7 ak fun b19 w hs=>?_)
 refine .z zg (.nil (.seq (.aj (.z zm (.z (cN ae) (.z zm (.nil ?_)))))))
 refine .for (N:=Ms.length) (J:=fun k fr w=>fr=[(8,.slice (some ⟨b16,0,none⟩) Ms.length Ms.length),(9,.slice (some ⟨b19,0,none⟩) Ms.length Ms.length),(0,.slice am Ms.length cm),(1,.slice (some ⟨bF,0,none⟩) Ms.length Ms.length),(2,.slice (some ⟨bN,0,none⟩) Ms.length capN)]∧∃C,(C.length=Ms.length∧∀v<k,gi C v=if gi need v<0 then 0 else free)∧St H w (.blk b19 (List.replicate k [I (-1),Value.bool false]++List.replicate (Ms.length - k) [I 0,Value.bool false]).flatten:: .blk b16 (Is C)::σ)) ak ?_ ?_ ?_
 ·exact .mk ⟨rfl,_,⟨bQ,fun v hv=>by omega⟩,hs⟩
 ·rintro k fr w hk ⟨rfl,C,⟨hC1,hC2⟩,hs⟩
  have hstp:=Df Ms.length hk [I (-1),Value.bool false] rfl [I 0,Value.bool false] rfl
  refine .block (.aj (.z zm (.z zg (.nil (.aj (.z zm (.z zm ?_)))))))
  first|(refine .ixv hs ae ai ?_;intro b27 o27 hc27)|refine .z (zix ae ai) ?_
  refine .o (.store hs rfl rfl ai fun w hs=>?_)
  refine .nil (.aj (.z zm (.z zm (.z (zbd [_,_] iy) ?_))))
  first|(refine .ixw hs dE dq ?_;intro b31 o31 hc31)|refine .z (ou dE dq) ?_
  refine .o (.aZ (vs:=[I (-1),Value.bool false]) hs rfl rfl dq ?_ cU (by simp;omega) hstp);intro w hs
  refine .nil (.aj (.z zm (.z zm ?_)))
  first|(refine .ixv hs ae ai ?_;intro b34 o34 hc34)|refine .z (zix ae ai) ?_
  refine .q hs (ed rfl af (hm:= .there (.there hN)) (hv:=nS (bE (l:=need) (i:=k) ak) spN)) ?_
  refine .z fD (.nil ?_)
  refine (.bJ rfl (fun hc36=>?_) (fun hc36=>?_))
  ·refine .region (.z zm (.z zm ?_))
   first|(refine .ixv hs ae ai ?_;intro b39 o39 hc39)|refine .z (zix ae ai) ?_
   refine .o (.store hs rfl rfl ai ?_ cU (uG (by rw [List.length_set];omega)) (lF _ _ _));intro w hs
   refine .nil ?_
   refine nB (nT ?_)
   exact .mk ⟨rfl,_,⟨by simp [hC1],fun v hv=>by
    rw [eU (by rw [List.length_set];omega)]
    by_cases e:v=k
    ·subst e;rw [if_pos rfl,if_pos hc36]
    ·rw [if_neg e,eU ak,if_neg e];exact hC2 v ak⟩,hs⟩
  ·refine .skip ?_
   refine nB (nT ?_)
   exact .mk ⟨rfl,_,⟨by simp [hC1],fun v hv=>by
    rw [eU ak]
    by_cases e:v=k
    ·subst e;rw [if_pos rfl,if_neg hc36]
    ·rw [if_neg e];exact hC2 v ak⟩,hs⟩
 ·rintro fr w ⟨rfl,C,⟨hC1,hC2⟩,hs⟩
  rw [Nat.sub_self,List.replicate_zero,List.append_nil,AY es] at hs
  have hI:Eb Ms.length need Ms.length ⟨C,List.replicate Ms.length ⟨0,0,0,-1⟩⟩:=⟨hC1,bQ,hC2,fun v hv=>jf _ _ hv⟩
  have hV0:=hI.inv (Dn:=fun _=>True) hg
  refine nT ?_
  refine .seq (.aj (.z zg (.nil (.block ?_))))
  refine .loop (fun p:Bool×BS=>⟨160,[],[(11,.bool p.1),(8,.slice (some ⟨b16,0,none⟩) Ms.length Ms.length),(9,.slice (some ⟨b19,0,none⟩) Ms.length Ms.length),(0,.slice am Ms.length cm),(1,.slice (some ⟨bF,0,none⟩) Ms.length Ms.length),(2,.slice (some ⟨bN,0,none⟩) Ms.length capN)]⟩) (fun p w=>kW Ms.length (du es ts) (fun v=>gi need v<0) D (fun _=>True) p.1 p.2∧St H w (.blk b19 (jh es p.2.by_):: .blk b16 (Is p.2.cost)::σ)) (fun p=>2*WMv Ms.length D p.2+(if p.1 then 1 else 0)) (true,⟨C,List.replicate Ms.length ⟨0,0,0,-1⟩⟩) a8 ⟨hV0,hs⟩ ?_
  rintro ⟨ag,s⟩ w ⟨hV,hs⟩
  dsimp only at hV hs ⊢
  refine .seq (.aj (.z zm (.nil ?_)))
  refine (.cond rfl (fun hc41=>?_) (fun hc41=>?_))
  ·refine .skip ?_
   refine nT ?_
   refine .block (.aj (.z zg (.nil (.aj (.z zm (.z (cN au) (.z zm (.nil ?_))))))))
   refine .for (N:=Ms.length) (J:=fun a fr w=>∃ag s',fr=[(11,.bool ag),(8,.slice (some ⟨b16,0,none⟩) Ms.length Ms.length),(9,.slice (some ⟨b19,0,none⟩) Ms.length Ms.length),(0,.slice am Ms.length cm),(1,.slice (some ⟨bF,0,none⟩) Ms.length Ms.length),(2,.slice (some ⟨bN,0,none⟩) Ms.length capN)]∧kW Ms.length (du es ts) (fun v=>gi need v<0) D (xo a 0) ag s'∧(WMv Ms.length D s'≤WMv Ms.length D s∧(ag=true→WMv Ms.length D s'<WMv Ms.length D s))∧St H w (.blk b19 (jh es s'.by_):: .blk b16 (Is s'.cost)::σ)) ak ?_ ?_ ?_
   ·exact .mk ⟨false,s,rfl,hV.next.zero,⟨Nat.le_refl _,fun h=>by cases h⟩,hs⟩
   ·rintro a fr w ha ⟨ag',s',rfl,hV',hW,hs⟩
    have hlc:=hV'.lc
    have htop:=hV'.top a ha
    refine .block (.aj (.z zm (.z zg (.nil (.seq (.aj (.z zm (.z zm ?_))))))))
    first|(refine .ixv hs ae ai ?_;intro b49 o49 hc49)|refine .z (zix ae ai) ?_
    first|refine .q hs (ed rfl af (hm:=by repeat (first|exact .here|assumption|exact Mem.row ak ak|refine .there ?_|refine Mem.jB ?_)) (hv:=by first|rfl|exact dn ak|exact fV cZ ak ak|exact fk fp)) ?_|refine .q hs (aO rfl af cZ) ?_
    refine .z fw (.nil ?_)
    refine (.bJ rfl (fun hc51=>?_) (fun hc51=>?_))
    ·refine .exit ?_
     refine xT (xB (nT ?_))
     exact .mk ⟨ag',s',rfl,hV'.far hc51,hW,hs⟩
    ·refine .skip ?_
     refine nT ?_
     refine .aj (.z zm (.z (cN au) (.z zm (.nil ?_))))
     refine .for (N:=Ms.length) (J:=fun b fr w=>∃ag s',fr=[(11,.bool ag),(12,I (a:Int)),(44,I (a:Int)),(43,I (Ms.length:Int)),(8,.slice (some ⟨b16,0,none⟩) Ms.length Ms.length),(9,.slice (some ⟨b19,0,none⟩) Ms.length Ms.length),(0,.slice am Ms.length cm),(1,.slice (some ⟨bF,0,none⟩) Ms.length Ms.length),(2,.slice (some ⟨bN,0,none⟩) Ms.length capN)]∧kW Ms.length (du es ts) (fun v=>gi need v<0) D (xo a b) ag s'∧(WMv Ms.length D s'≤WMv Ms.length D s∧(ag=true→WMv Ms.length D s'<WMv Ms.length D s))∧gi s'.cost a<free∧St H w (.blk b19 (jh es s'.by_):: .blk b16 (Is s'.cost)::σ)) ak ?_ ?_ ?_
     ·exact .mk ⟨ag',s',rfl,hV',hW,by simp only [free];omega,hs⟩
     ·clear hV' hlc htop hW
      rintro b fr w hb ⟨ag',s',rfl,hV',hW,hfa,hs⟩
      have hlc:=hV'.lc
      have hlow:=hV'.low hg ha hfa
      have hlo:=hV'.lo a ha
      have hDa:=hD1 a ha
      have htop:=hV'.top b hb
      have hrowA:(gr Ms a).length=Ms.length:=hqM.2 a ha
      have hrowB:(gr Ms b).length=Ms.length:=hqM.2 b hb
      have hFb:=hF b hb
      refine .block (.aj (.z zm (.z zg (.nil ?_))))
      refine .cut (fun fs w=>∃ag s',kB fs ⟨160,[],[(11,.bool ag),(13,I (b:Int)),(54,I (b:Int)),(53,I (Ms.length:Int)),(12,I (a:Int)),(44,I (a:Int)),(43,I (Ms.length:Int)),(8,.slice (some ⟨b16,0,none⟩) Ms.length Ms.length),(9,.slice (some ⟨b19,0,none⟩) Ms.length Ms.length),(0,.slice am Ms.length cm),(1,.slice (some ⟨bF,0,none⟩) Ms.length Ms.length),(2,.slice (some ⟨bN,0,none⟩) Ms.length capN)]⟩∧kW Ms.length (du es ts) (fun v=>gi need v<0) D (Cw es a b) ag s'∧(WMv Ms.length D s'≤WMv Ms.length D s∧(ag=true→WMv Ms.length D s'<WMv Ms.length D s))∧gi s'.cost a<free∧St H w (.blk b19 (jh es s'.by_):: .blk b16 (Is s'.cost)::σ)) ?_ ?_
      ·refine .cut (fun fs w=>∃p,kB fs ⟨160,[],[(88,.bool p),(11,.bool ag'),(13,I (b:Int)),(54,I (b:Int)),(53,I (Ms.length:Int)),(12,I (a:Int)),(44,I (a:Int)),(43,I (Ms.length:Int)),(8,.slice (some ⟨b16,0,none⟩) Ms.length Ms.length),(9,.slice (some ⟨b19,0,none⟩) Ms.length Ms.length),(0,.slice am Ms.length cm),(1,.slice (some ⟨bF,0,none⟩) Ms.length Ms.length),(2,.slice (some ⟨bN,0,none⟩) Ms.length capN)]⟩∧(p=true→a≠b∧gt Ms a b≠free∧gi s'.cost a+gt Ms a b<gi s'.cost b)∧(p=false→a=b∨gt Ms a b=free∨¬gi s'.cost a+gt Ms a b<gi s'.cost b)∧St H w (.blk b19 (jh es s'.by_):: .blk b16 (Is s'.cost)::σ)) ?_ ?_
       ·refine .draw mix rfl hs fun w hs=>?_
        refine .z 0 rfl zm ?_;refine .z 1 rfl zm ?_;refine .z 2 rfl gP ?_;refine .z 3 rfl zm ?_
        refine .yq (t':=60) rfl (fun hb60=>?_) (fun hb60=>?_)
        ·refine .z 4 rfl zm ?_;refine .z 5 rfl zm ?_
         refine .ixT (i:=6) hs rfl aq (.some rfl rfl) hM rfl rfl au aC ha rfl ?_;intro b63 o63 a63 c63 hc63 hR63
         refine .r (i:=7) hs rfl aq (.some rfl rfl) (aO rfl an hc63) ?_
         refine .z 8 rfl zm ?_
         refine .ixX (enc:=fun x=>[I x]) (i:=9) hs rfl aq (.some rfl rfl) hR63 rfl rfl ae ai (bE (l:=_) (i:=b) ak) rfl ?_;intro b66 o66 hc66;replace hc66:=bI.one hc66
         refine .r (i:=10) hs rfl aq (.some rfl rfl) (aO rfl af hc66) ?_
         refine .z 11 rfl gP ?_;refine .z 12 rfl zpT ?_;refine .z 13 rfl zm ?_
         refine .yq (t':=70) rfl (fun hb70=>?_) (fun hb70=>?_)
         ·refine .z 14 rfl zm ?_;refine .z 15 rfl zm ?_
          have hfin:gt Ms a b≠free:=hb70
          have hMb: -1400000≤gi (gr Ms a) b∧gi (gr Ms a) b≤1400000:=by
           obtain ⟨x,hx,e1,e2⟩:=hT.all a b ha hb (fun e=>hb60 (by rw [e])) hfin
           have h1:=harc x hx
           have h2:=(hT.ok x hx).2.2.2.1
           rw [e1,e2] at h2
           change gi (gr Ms a) b=x.c at h2
           omega
          first|(refine .ixv 16 rfl hs ae ai ?_;intro b73 o73 hc73)|refine .z 16 rfl (zix ae ai) ?_
          first|refine .load (i:=17) hs rfl aq (.some rfl rfl) rfl af ?_ (by repeat (first|exact .here|assumption|exact Mem.row ak ak|refine .there ?_|refine Mem.jB ?_)) (by first|rfl|exact dn ak|exact fV cZ ak ak|exact fk fp)|refine .r (i:=17) hs rfl aq (.some rfl rfl) (aO rfl af cZ) ?_
          refine .z 18 rfl zm ?_;refine .z 19 rfl zm ?_
          refine .ixT (i:=20) hs rfl aq (.some rfl rfl) hM rfl rfl au aC ha rfl ?_;intro b77 o77 a77 c77 hc77 hR77
          refine .r (i:=21) hs rfl aq (.some rfl rfl) (aO rfl an hc77) ?_
          refine .z 22 rfl zm ?_
          refine .ixX (enc:=fun x=>[I x]) (i:=23) hs rfl aq (.some rfl rfl) hR77 rfl rfl ae ai (bE (l:=_) (i:=b) ak) rfl ?_;intro b80 o80 hc80;replace hc80:=bI.one hc80
          refine .r (i:=24) hs rfl aq (.some rfl rfl) (aO rfl af hc80) ?_
          refine .z 25 rfl cH ?_;refine .z 26 rfl zm ?_;refine .z 27 rfl zm ?_
          first|(refine .ixv 28 rfl hs ae ai ?_;intro b85 o85 hc85)|refine .z 28 rfl (zix ae ai) ?_
          first|refine .load (i:=29) hs rfl aq (.some rfl rfl) rfl af ?_ (by repeat (first|exact .here|assumption|exact Mem.row ak ak|refine .there ?_|refine Mem.jB ?_)) (by first|rfl|exact dn ak|exact fV cZ ak ak|exact fk fp)|refine .r (i:=29) hs rfl aq (.some rfl rfl) (aO rfl af cZ) ?_
          refine .z 30 rfl fD ?_;refine .z 31 rfl zpT ?_
          refine .DT hs ?_
          exact nT ⟨_,a8,by
           intro hp
           first
            |(cases hp;done)
            |exact ⟨fun e=>hb60 (by rw [e]),hb70,of_decide_eq_true hp⟩,by
           intro hp
           first
            |(cases hp;done)
            |exact .inl ak
            |exact .inr (.inl hb70)
            |exact .inr (.inr (of_decide_eq_false hp)),hs⟩
         ·refine .qF (i:=14) rfl aq rfl rfl ?_
          refine .qF (i:=15) rfl aq rfl rfl ?_
          refine .qF (i:=16) rfl aq rfl rfl ?_
          refine .qF (i:=17) rfl aq rfl rfl ?_
          refine .qF (i:=18) rfl aq rfl rfl ?_
          refine .qF (i:=19) rfl aq rfl rfl ?_
          refine .qF (i:=20) rfl aq rfl rfl ?_
          refine .qF (i:=21) rfl aq rfl rfl ?_
          refine .qF (i:=22) rfl aq rfl rfl ?_
          refine .qF (i:=23) rfl aq rfl rfl ?_
          refine .qF (i:=24) rfl aq rfl rfl ?_
          refine .qF (i:=25) rfl aq rfl rfl ?_
          refine .qF (i:=26) rfl aq rfl rfl ?_
          refine .qF (i:=27) rfl aq rfl rfl ?_
          refine .qF (i:=28) rfl aq rfl rfl ?_
          refine .qF (i:=29) rfl aq rfl rfl ?_
          refine .qF (i:=30) rfl aq rfl rfl ?_
          refine .z 31 rfl zpF ?_
          refine .DT hs ?_
          exact nT ⟨_,a8,by
           intro hp
           first
            |(cases hp;done)
            |exact ⟨fun e=>hb60 (by rw [e]),hb70,of_decide_eq_true hp⟩,by
           intro hp
           first
            |(cases hp;done)
            |exact .inl ak
            |exact .inr (.inl hb70)
            |exact .inr (.inr (of_decide_eq_false hp)),hs⟩
        ·refine .qF (i:=4) rfl aq rfl rfl ?_
         refine .qF (i:=5) rfl aq rfl rfl ?_
         refine .qF (i:=6) rfl aq rfl rfl ?_
         refine .qF (i:=7) rfl aq rfl rfl ?_
         refine .qF (i:=8) rfl aq rfl rfl ?_
         refine .qF (i:=9) rfl aq rfl rfl ?_
         refine .qF (i:=10) rfl aq rfl rfl ?_
         refine .qF (i:=11) rfl aq rfl rfl ?_
         refine .z 12 rfl zpF ?_;refine .z 13 rfl zm ?_
         refine .qF (i:=14) rfl aq rfl rfl ?_
         refine .qF (i:=15) rfl aq rfl rfl ?_
         refine .qF (i:=16) rfl aq rfl rfl ?_
         refine .qF (i:=17) rfl aq rfl rfl ?_
         refine .qF (i:=18) rfl aq rfl rfl ?_
         refine .qF (i:=19) rfl aq rfl rfl ?_
         refine .qF (i:=20) rfl aq rfl rfl ?_
         refine .qF (i:=21) rfl aq rfl rfl ?_
         refine .qF (i:=22) rfl aq rfl rfl ?_
         refine .qF (i:=23) rfl aq rfl rfl ?_
         refine .qF (i:=24) rfl aq rfl rfl ?_
         refine .qF (i:=25) rfl aq rfl rfl ?_
         refine .qF (i:=26) rfl aq rfl rfl ?_
         refine .qF (i:=27) rfl aq rfl rfl ?_
         refine .qF (i:=28) rfl aq rfl rfl ?_
         refine .qF (i:=29) rfl aq rfl rfl ?_
         refine .qF (i:=30) rfl aq rfl rfl ?_
         refine .z 31 rfl zpF ?_
         refine .DT hs ?_
         exact nT ⟨_,a8,by
          intro hp
          first
           |(cases hp;done)
           |exact ⟨fun e=>hb60 (by rw [e]),hb70,of_decide_eq_true hp⟩,by
          intro hp
          first
           |(cases hp;done)
           |exact .inl ak
           |exact .inr (.inl hb70)
           |exact .inr (.inr (of_decide_eq_false hp)),hs⟩
       ·rintro fs w ⟨p,hfs,hp1,hp2,hs⟩
        refine WE.sub ?_ hfs
        refine (.cond rfl (fun hc88=>?_) (fun hc88=>?_))
        ·refine .seq (.draw mix rfl hs fun w hs=>?_)
         obtain ⟨hab,hfin,hlt⟩:=hp1 hc88
         obtain ⟨x,hx,e1,e2⟩:=hT.all a b ha hb hab hfin
         have e3:gi (gr Ms a) b=x.c:=by
          have h2:=(hT.ok x hx).2.2.2.1
          rw [e1,e2] at h2;exact h2
         have hxc:=harc x hx
         have hxl:¬x.l<0:=by have:=(hT.at hx).2;omega
         have hstp:lR es x=[I (a:Int),.bool false]:=by
          unfold lR
          rw [if_neg hxl,e1]
          simp [(hT.rO hx).1]
         have hset:oP (jh es s'.by_) (b*2) [I (a:Int),Value.bool false]=jh es (s'.by_.set b x):=by rw [←hstp];exact wx (by have:=hV'.lb;omega) x
         have hsr:s'.rlx x=⟨s'.cost.set b (gi s'.cost a+gi (gr Ms a) b),s'.by_.set b x⟩:=by unfold BS.rlx;rw [e1,e2,e3]
         have hcan:s'.can x:=by unfold BS.can;rw [e1,e2,←e3];exact hlt
         have hxm:x∈du es ts:=(lV hT hC).2 (.inl hx)
         have hlb:=hV'.lb
         refine .z 0 rfl zm ?_;refine .z 1 rfl zm ?_;refine .z 2 rfl zm ?_;refine .z 3 rfl zm ?_
         first|(refine .ixv 4 rfl hs ae ai ?_;intro b93 o93 hc93)|refine .z 4 rfl (zix ae ai) ?_
         first|refine .load (i:=5) hs rfl aq .none rfl af ?_ (by repeat (first|exact .here|assumption|exact Mem.row ak ak|refine .there ?_|refine Mem.jB ?_)) (by first|rfl|exact dn ak|exact fV cZ ak ak|exact fk fp)|refine .r (i:=5) hs rfl aq .none (aO rfl af cZ) ?_
         refine .z 6 rfl zm ?_;refine .z 7 rfl zm ?_
         refine .ixT (i:=8) hs rfl aq .none hM rfl rfl au aC ha rfl ?_;intro b97 o97 a97 c97 hc97 hR97
         refine .r (i:=9) hs rfl aq .none (aO rfl an hc97) ?_
         refine .z 10 rfl zm ?_
         refine .ixX (enc:=fun x=>[I x]) (i:=11) hs rfl aq .none hR97 rfl rfl ae ai (bE (l:=_) (i:=b) ak) rfl ?_;intro b100 o100 hc100;replace hc100:=bI.one hc100
         refine .r (i:=12) hs rfl aq .none (aO rfl af hc100) ?_
         refine .z 13 rfl cH ?_
         first|(refine .ixv 14 rfl hs ae ai ?_;intro b103 o103 hc103)|refine .z 14 rfl (zix ae ai) ?_
         refine .ET 15 hs ?_
         refine .store hs rfl rfl ai ?_;intro w hs
         refine .go ?_
         refine .DT hs ?_
         refine .aj (.z zm (.z zm (.z zm (.z (zbd [_,_] iy) ?_))))
         first|(refine .ixw hs dE dq ?_;intro b108 o108 hc108)|refine .z (ou dE dq) ?_
         refine .o (.aZ (vs:=[I (a:Int),Value.bool false]) hs rfl rfl dq ?_ cU (by rw [mz];simp<;>omega) hset);intro w hs
         refine .nil (.region (.z zg (.nil ?_)))
         refine nT ?_
         have hR:=hV'.uV (Dn':=Cw es a b) hg hxm (by rw [e1];exact hfa) hcan
         have hL:=hV'.less hg hxm (by rw [e1];exact hfa) hcan
         rw [hsr] at hR hL
         exact ⟨true,_,a8,hR,⟨ak,fun _=>by omega⟩,by dsimp only;rw [eU ak,if_neg hab];exact hfa,hs⟩
        ·refine .skip ?_
         refine nT ?_
         exact ⟨ag',s',a8,hV'.noF (fun x hx e1 e2 hc=>by
          obtain ⟨b1,b2,b3,b4,b5⟩:=hT.ok x hx
          rw [e1,e2] at b4
          rcases hp2 hc88 with h|h|h
          ·exact b3 (by rw [e1,e2,h])
          ·exact b5 (by rw [←b4,h])
          ·exact h (by rw [b4];exact hc.2)),hW,hfa,hs⟩
      ·clear hV' hW hlc hlow hlo htop hfa
       rintro fs w ⟨ag',s',hfs,hV',hW,hfa,hs⟩
       refine WE.sub ?_ hfs
       have hlc:=hV'.lc
       have hlow:=hV'.low hg ha hfa
       have hlo:=hV'.lo a ha
       have htop:=hV'.top b hb
       refine .cut (fun fs w=>∃p,kB fs ⟨160,[],[(135,.bool p),(11,.bool ag'),(13,I (b:Int)),(54,I (b:Int)),(53,I (Ms.length:Int)),(12,I (a:Int)),(44,I (a:Int)),(43,I (Ms.length:Int)),(8,.slice (some ⟨b16,0,none⟩) Ms.length Ms.length),(9,.slice (some ⟨b19,0,none⟩) Ms.length Ms.length),(0,.slice am Ms.length cm),(1,.slice (some ⟨bF,0,none⟩) Ms.length Ms.length),(2,.slice (some ⟨bN,0,none⟩) Ms.length capN)]⟩∧(p=true→0<gt Fs b a∧gi s'.cost a - gt Ms b a<gi s'.cost b)∧(p=false→¬0<gt Fs b a∨¬gi s'.cost a - gt Ms b a<gi s'.cost b)∧St H w (.blk b19 (jh es s'.by_):: .blk b16 (Is s'.cost)::σ)) ?_ ?_
       ·refine .draw mix rfl hs fun w hs=>?_
        refine .z 0 rfl zm ?_;refine .z 1 rfl zm ?_
        refine .z 2 rfl (ef (k:=b) rfl rfl au aC rfl hb) ?_
        refine .load (i:=3) hs rfl aq .none rfl an ?_ (.there (.there hF0)) (dn ak)
        refine .z 4 rfl zm ?_
        refine .z 5 rfl (ef (k:=a) rfl rfl ae ai rfl ha) ?_
        refine .load (i:=6) hs rfl aq .none rfl af ?_ (.there (.there (hF b hb))) (fV hqF hb ha)
        refine .z 7 rfl kD ?_;refine .z 8 rfl zm ?_
        refine .iB (t':=117) rfl (fun hb117=>?_) (fun hb117=>?_)
        ·refine .z 9 rfl zm ?_;refine .z 10 rfl zm ?_
         have hMb: -1400000≤gi (gr Ms b) a∧gi (gr Ms b) a≤1400000:=by
          obtain ⟨x,hx,e1,e2⟩:=hC.pos hb ha hb117
          have h1:=harc x hx
          have h2:=(hT.ok x hx).2.2.2.1
          rw [e1,e2] at h2
          change gi (gr Ms b) a=x.c at h2
          omega
         first|(refine .ixv 11 rfl hs ae ai ?_;intro b120 o120 hc120)|refine .z 11 rfl (zix ae ai) ?_
         first|refine .load (i:=12) hs rfl aq (.some rfl rfl) rfl af ?_ (by repeat (first|exact .here|assumption|exact Mem.row ak ak|refine .there ?_|refine Mem.jB ?_)) (by first|rfl|exact dn ak|exact fV cZ ak ak|exact fk fp)|refine .r (i:=12) hs rfl aq (.some rfl rfl) (aO rfl af cZ) ?_
         refine .z 13 rfl zm ?_;refine .z 14 rfl zm ?_
         refine .ixT (i:=15) hs rfl aq (.some rfl rfl) hM rfl rfl au aC hb rfl ?_;intro b124 o124 a124 c124 hc124 hR124
         refine .r (i:=16) hs rfl aq (.some rfl rfl) (aO rfl an hc124) ?_
         refine .z 17 rfl zm ?_
         refine .ixX (enc:=fun x=>[I x]) (i:=18) hs rfl aq (.some rfl rfl) hR124 rfl rfl ae ai (bE (l:=_) (i:=a) ak) rfl ?_;intro b127 o127 hc127;replace hc127:=bI.one hc127
         refine .r (i:=19) hs rfl aq (.some rfl rfl) (aO rfl af hc127) ?_
         refine .z 20 rfl gO ?_;refine .z 21 rfl zm ?_;refine .z 22 rfl zm ?_
         first|(refine .ixv 23 rfl hs ae ai ?_;intro b132 o132 hc132)|refine .z 23 rfl (zix ae ai) ?_
         first|refine .load (i:=24) hs rfl aq (.some rfl rfl) rfl af ?_ (by repeat (first|exact .here|assumption|exact Mem.row ak ak|refine .there ?_|refine Mem.jB ?_)) (by first|rfl|exact dn ak|exact fV cZ ak ak|exact fk fp)|refine .r (i:=24) hs rfl aq (.some rfl rfl) (aO rfl af cZ) ?_
         refine .z 25 rfl fD ?_;refine .z 26 rfl zpT ?_
         refine .DT hs ?_
         exact nT ⟨_,a8,by
          intro hp
          first
           |(cases hp;done)
           |exact ⟨hb117,of_decide_eq_true hp⟩,by
          intro hp
          first
           |(cases hp;done)
           |exact .inl hb117
           |exact .inr (of_decide_eq_false hp),hs⟩
        ·refine .qF (i:=9) rfl aq rfl rfl ?_
         refine .qF (i:=10) rfl aq rfl rfl ?_
         refine .qF (i:=11) rfl aq rfl rfl ?_
         refine .qF (i:=12) rfl aq rfl rfl ?_
         refine .qF (i:=13) rfl aq rfl rfl ?_
         refine .qF (i:=14) rfl aq rfl rfl ?_
         refine .qF (i:=15) rfl aq rfl rfl ?_
         refine .qF (i:=16) rfl aq rfl rfl ?_
         refine .qF (i:=17) rfl aq rfl rfl ?_
         refine .qF (i:=18) rfl aq rfl rfl ?_
         refine .qF (i:=19) rfl aq rfl rfl ?_
         refine .qF (i:=20) rfl aq rfl rfl ?_
         refine .qF (i:=21) rfl aq rfl rfl ?_
         refine .qF (i:=22) rfl aq rfl rfl ?_
         refine .qF (i:=23) rfl aq rfl rfl ?_
         refine .qF (i:=24) rfl aq rfl rfl ?_
         refine .qF (i:=25) rfl aq rfl rfl ?_
         refine .z 26 rfl zpF ?_
         refine .DT hs ?_
         exact nT ⟨_,a8,by
          intro hp
          first
           |(cases hp;done)
           |exact ⟨hb117,of_decide_eq_true hp⟩,by
          intro hp
          first
           |(cases hp;done)
           |exact .inl hb117
           |exact .inr (of_decide_eq_false hp),hs⟩
       ·rintro fs w ⟨p,hfs,hp1,hp2,hs⟩
        refine WE.sub ?_ hfs
        refine (.cond rfl (fun hc135=>?_) (fun hc135=>?_))
        ·refine .seq (.draw mix rfl hs fun w hs=>?_)
         obtain ⟨hpos,hlt⟩:=hp1 hc135
         obtain ⟨x,hx,e1,e2⟩:=hC.pos hb ha hpos
         have e3:gi (gr Ms b) a=x.c:=by
          have h2:=(hT.ok x hx).2.2.2.1
          rw [e1,e2] at h2;exact h2
         have hxc:=harc x hx
         have hab:a≠b:=fun e=>(hT.ok x hx).2.2.1 (by rw [e1,e2,e])
         have hxl:¬x.back.l<0:=by have:=(hT.at hx).2;show ¬x.l<0;omega
         have e4:x.back.f=a:=e2
         have e5:x.back.t=b:=e1
         have hstp:lR es x.back=[I (a:Int),.bool true]:=by
          unfold lR
          rw [if_neg hxl,e4]
          simp [(hT.rO hx).2]
         have hset:oP (jh es s'.by_) (b*2) [I (a:Int),Value.bool true]=jh es (s'.by_.set b x.back):=by rw [←hstp];exact wx (by have:=hV'.lb;omega) x.back
         have hsr:s'.rlx x.back=⟨s'.cost.set b (gi s'.cost a - gi (gr Ms b) a),s'.by_.set b x.back⟩:=by
          unfold BS.rlx
          rw [e4,e5,e3];rfl
         have hcan:s'.can x.back:=by
          unfold BS.can
          rw [e4,e5]
          show gi s'.cost a+ -x.c<_
          rw [←e3]
          exact hlt
         have hxm:x.back∈du es ts:=(lV hT hC).2 (.inr ⟨x,hx,by rw [e1,e2];exact hpos,rfl⟩)
         have hlb:=hV'.lb
         refine .z 0 rfl zm ?_;refine .z 1 rfl zm ?_;refine .z 2 rfl zm ?_;refine .z 3 rfl zm ?_
         first|(refine .ixv 4 rfl hs ae ai ?_;intro b140 o140 hc140)|refine .z 4 rfl (zix ae ai) ?_
         first|refine .load (i:=5) hs rfl aq .none rfl af ?_ (by repeat (first|exact .here|assumption|exact Mem.row ak ak|refine .there ?_|refine Mem.jB ?_)) (by first|rfl|exact dn ak|exact fV cZ ak ak|exact fk fp)|refine .r (i:=5) hs rfl aq .none (aO rfl af cZ) ?_
         refine .z 6 rfl zm ?_;refine .z 7 rfl zm ?_
         refine .ixT (i:=8) hs rfl aq .none hM rfl rfl au aC hb rfl ?_;intro b144 o144 a144 c144 hc144 hR144
         refine .r (i:=9) hs rfl aq .none (aO rfl an hc144) ?_
         refine .z 10 rfl zm ?_
         refine .ixX (enc:=fun x=>[I x]) (i:=11) hs rfl aq .none hR144 rfl rfl ae ai (bE (l:=_) (i:=a) ak) rfl ?_;intro b147 o147 hc147;replace hc147:=bI.one hc147
         refine .r (i:=12) hs rfl aq .none (aO rfl af hc147) ?_
         refine .z 13 rfl gO ?_
         first|(refine .ixv 14 rfl hs ae ai ?_;intro b150 o150 hc150)|refine .z 14 rfl (zix ae ai) ?_
         refine .ET 15 hs ?_
         refine .store hs rfl rfl ai ?_;intro w hs
         refine .go ?_
         refine .DT hs ?_
         refine .aj (.z zm (.z zm (.z zm (.z (zbd [_,_] iy) ?_))))
         first|(refine .ixw hs dE dq ?_;intro b155 o155 hc155)|refine .z (ou dE dq) ?_
         refine .o (.aZ (vs:=[I (a:Int),Value.bool true]) hs rfl rfl dq ?_ cU (by rw [mz];simp<;>omega) hset);intro w hs
         refine .nil (.region (.z zg (.nil ?_)))
         refine nB (nT ?_)
         have hR:=hV'.uV (Dn':=xo a (b+1)) hg hxm (by rw [e4];exact hfa) hcan
         have hL:=hV'.less hg hxm (by rw [e4];exact hfa) hcan
         rw [hsr] at hR hL
         exact .mk ⟨true,_,rfl,hR,⟨ak,fun _=>by omega⟩,by dsimp only;rw [eU ak,if_neg hab];exact hfa,hs⟩
        ·refine .skip ?_
         refine nB (nT ?_)
         exact .mk ⟨ag',s',rfl,hV'.noB hT hC (fun x hx e1 e2 hpos hc=>by
          have h2:=(hT.ok x hx).2.2.2.1
          rw [e1,e2] at h2
          rcases hp2 hc135 with h|h
          ·exact h hpos
          ·exact h (by rw [h2];exact hc.2)),hW,hfa,hs⟩
     ·rintro fr w ⟨ag',s',rfl,hV',hW,-,hs⟩
      refine nB (nT ?_)
      exact .mk ⟨ag',s',rfl,hV'.row hg,hW,hs⟩
   ·rintro fr w ⟨ag',s',rfl,hV',hW,hs⟩
    refine nB (nT ?_)
    exact ⟨(ag',s'),a8,⟨hV'.all hg,hs⟩,by
     subst hc41
     dsimp only
     cases ag' with
     |true=>have:=hW.2 rfl;simp only [if_true];omega
     |false=>have:=hW.1;simp;omega⟩
  ·refine .exit ?_
   refine xT (xT (xB (nT ?_)))
   refine .aj (.z zm (.z zm (.z zg (.z zg (.nil ?_)))))
   refine .ret (Fin.jx Tryz.results292 rfl rfl ?_)
   subst hc41
   obtain ⟨H2,g1,g2,hs⟩:=cz.cO (m:=2) (v:= .slice (some ⟨b19,0,none⟩) Ms.length Ms.length) (cs:=s.by_.map (lR es)) (en:= .blk b19 (jh es s.by_)) (.full (by show (jh es s.by_).length=_;rw [mz,hV.lb])) (fun c hc=>by simp only [List.mem_map] at hc;obtain ⟨x,_,rfl⟩:=hc;exact si es x) ak (by rw [List.length_map,hV.lb];omega) hs .here
   obtain ⟨H3,g3,g4,hs⟩:=cz.cK (v:= .slice (some ⟨b16,0,none⟩) Ms.length Ms.length) (xs:=s.cost) (.full (by simp [hV.lc])) (by rw [hV.lc];omega) hs .here
   exact ⟨H3,_,_,s,g1.trans g3,rfl,g4,RS.mono g2 g3,hV,hs⟩
set_option maxHeartbeats 8000000 in
theorem sK{vm vw:Value}{Ms:List (List Int)}{ws:List Int}{n:Nat}{es:List Arc}(hs:St H w σ)(hM:RT H vm Ms)(hqM:Sq (n+1) Ms)(hw:RI H vw ws)(hl:ws.length=n+1)(hn:n+1≤65)(hz:bL ws (n+1)≤FF)
  (hT:Tab (n+1) (gt Ms) es) (hfe:∃p,ia es p) (hcb:∀x∈es,-1400000≤x.c∧x.c≤1400000) (hbd:∀m,xp es (m9 ws (n+1)) (n+1) m→-BB≤m∧m≤BB):
  Cl Tryz.prog 272 [vm,vw] w fun u w'=>∃H1 v b,HLe H H1∧u= .tuple #[I v,.bool b]∧((b=true∧xp es (m9 ws (n+1)) (n+1) v)∨(b=false∧mg es (m9 ws (n+1)) (n+1)))∧St H1 w' σ:=by
 obtain ⟨am,cm,rfl⟩:=hM.shape
 have hml:Ms.length=n+1:=hqM.1
 rw [hml] at hM ⊢
 have hnum:=hT.Fv
 have hC0:Eg es (n+1):=fun x hx=>by
  have h1:=hT.ok x hx
  have h2:=(hT.at hx).2
  have h3:=hcb x hx
  exact ⟨h1.1,h1.2.1,h3.1,h3.2,ak,h1.2.2.1⟩
 have hin:∀x∈es,x.f<n+1∧x.t<n+1:=fun x hx=>by have:=hC0 x hx;omega
 have hw0:=A8 ws (n:=n+1) ak
 have hFF:FF=3600000000000:=rfl
 have hBB:BB=4608000000000000000:=rfl
 have hfree:free=1000000000:=rfl
 refine Cl.o Tryz.func272 Tryz.ntmps272 ag2 ?_
 refine .aj (.z zg (.z zg (.nil (.aj (.z zm ?_)))))
 refine .o (.call Tryz.call291 rfl (qc hs hw hl ak hz) ?_);rintro _ w ⟨b21,cap,sp,lf0,rfl,hlf1,hlf2,hs⟩
 refine .z zg (.nil (.aj (.z zm (.z (cN au) ?_))))
 refine .o (.E2 (n+1) hs rfl rfl au Tryz.typeInfo22 rfl aC dV ak fun b24 w hs=>?_)
 refine .z zg (.nil (.seq (.aj (.z zm (.z (cN au) (.z zm (.nil ?_)))))))
 refine .for (N:=n+1) (J:=fun k fr w=>fr=[(7,.slice (some ⟨b24,0,none⟩) (n+1) (n+1)),(0,.slice am (n+1) cm),(6,.slice (some ⟨b21,0,none⟩) (n+1) cap)]∧∃bs:List Nat,bs.length=k∧St H w (.blk b24 (bs.map (ptr (n+1))++List.replicate (n+1 - k) (.slice none 0 0))::(jk bs (yJ (fun _ _=>0) (n+1) k)++(.blk b21 (Is lf0++sp)::σ)))) ak ?_ ?_ ?_
 ·exact .mk ⟨rfl,[],rfl,hs⟩
 ·rintro k fr w hk ⟨rfl,bs,hbl,hs⟩
  refine .block (.aj (.z zm (.z zg (.nil (.region (.z zm (.z zm (.z zm (.z (cN au) ?_)))))))))
  refine .o (.pD (n+1) hs rfl rfl ae dW rfl ai bO ak fun b34 w hs=>?_)
  first|(refine .ixw hs au aC ?_;intro b35 o35 hc35)|refine .z (zix au aC) ?_
  refine .o (.store hs rfl rfl aC ?_ cU (by simp [hbl];omega) (BL hbl hk));intro w hs
  refine .nil ?_
  refine nB (nT ?_)
  rw [tY (fun _=>0) (n+1) 0 (fun _ _=>rfl)] at hs
  replace hs:=hs.FP (by rw [hbl,tz])
  rw [←xw (fun _ _=>0)] at hs
  exact .mk ⟨rfl,bs++[b34],by simp [hbl],hs⟩
 ·rintro fr w ⟨rfl,bs,hbl,hs⟩
  rw [Nat.sub_self,List.replicate_zero,List.append_nil] at hs
  have hq0:=Bj (fun _ _=>0) (n+1)
  have hc0:uS (n+1) es (List.replicate es.length 0) (gt (yJ (fun _ _=>0) (n+1) (n+1))):=by
   have h:=uS.zero (n+1) hT
   exact ⟨h.len,fun x hx=>by rw [h.arc x hx,yI _ (hin x hx).1 (hin x hx).2],fun a b ha hb _=>yI _ ha hb⟩
  have hF0:=vk.start (es:=es) hz hlf1 hlf2 hfe
  refine nT ?_
  refine .block ?_
  refine .loop (fun _:List (List Int)×List Int×List Int=>⟨183,[],[(7,.slice (some ⟨b24,0,none⟩) (n+1) (n+1)),(0,.slice am (n+1) cm),(6,.slice (some ⟨b21,0,none⟩) (n+1) cap)]⟩) (fun p w=>(Sq (n+1) p.1∧uS (n+1) es p.2.1 (gt p.1)∧vk (n+1) es (m9 ws (n+1)) p.2.1 p.2.2)∧∃H1,HLe H H1∧St H1 w (.blk b24 (bs.map (ptr (n+1)))::(jk bs p.1++(.blk b21 (Is p.2.2++sp)::σ)))) (fun p=>(rem (n+1) p.2.2).toNat) (yJ (fun _ _=>0) (n+1) (n+1),List.replicate es.length 0,lf0) a8 ⟨⟨hq0,hc0,hF0⟩,H,HLe.refl H,hs⟩ ?_
  clear hq0 hc0 hF0 hlf1 hlf2 hs
  rintro ⟨Fs,ts,lf⟩ w ⟨⟨hqF,hC,hI⟩,H1,hle1,hs⟩
  dsimp only at hqF hC hI hs ⊢
  obtain ⟨D,hg⟩:=zG ak hn hC0 hI.lt.symm hI.fe
  have hfl:=hqF.1
  have hll:=hI.ll
  refine .block (.aj (.z zm (.z zm (.z zm ?_))))
  refine .o (.call Tryz.call292 rfl (sH (need:=lf) (spN:=sp) hs (hM.mono hle1) hqM .here hbl hqF (fun i hi=> .there (Mem.row ak ak)) (.there (Mem.jB .here)) hll hT hC hg) ?_);rintro _ w ⟨H2,vd,vb,s,hle2,rfl,hRd,hRb,hV,hs⟩
  obtain ⟨ad,cd,rfl⟩:=RI.shape hRd
  obtain ⟨ab,cb,eb⟩:=hRb.shape
  rw [List.length_map] at eb
  subst eb
  have hlc:=hV.lc
  have hlb:=hV.lb
  have hle02:=hle1.trans hle2
  refine .z zm (.z zex (.z zex (.z zg (.z zg (.nil (.aj (.z zg (.nil (.aj ?_)))))))))
  refine .z zg (.nil (.seq (.aj (.z zm (.z (cN ae) (.z zm (.nil ?_)))))))
  refine .for (N:=n+1) (J:=fun k fr w=>∃to left,fr=[(11,I to),(12,.bool left),(44,.slice (some ⟨b21,0,none⟩) (n+1) cap),(7,.slice (some ⟨b24,0,none⟩) (n+1) (n+1)),(0,.slice am (n+1) cm),(6,.slice (some ⟨b21,0,none⟩) (n+1) cap),(9,.slice ad s.cost.length cd),(10,.slice ab s.by_.length cb)]∧Scan lf s.cost k to left∧St H2 w (.blk b24 (bs.map (ptr (n+1)))::(jk bs Fs++(.blk b21 (Is lf++sp)::σ)))) ak ?_ ?_ ?_
  ·exact .mk ⟨-1,false,rfl,.start lf s.cost,hs⟩
  ·rintro k fr w hk ⟨to,left,rfl,hSc,hs⟩
   have hto:=hSc.lo
   have hto2:=hSc.som
   have hcap:k<n+1:=hk
   refine .block (.aj (.z zm ?_))
   refine .q hs (ef (k:=k) rfl rfl ae ai rfl hk) ?_
   refine .q hs (ed rfl af (hm:= .there (Mem.jB .here)) (hv:=nS (bE (l:=lf) (i:=k) ak) sp)) ?_
   refine .z zg (.z zg (.nil (.aj (.z zm (.z zm ?_)))))
   refine .bif (t':=52) rfl (fun hb52=>?_) (fun hb52=>?_)
   ·refine .gFs 2 1 false rfl rfl rfl ?_
    refine .z zpT (.z zg (.nil ?_))
    refine WE.sub (t:=⟨183,[],[(12,.bool (left||decide (0<gi lf k))),(13,I (k:Int)),(14,I (gi lf k)),(11,I to),(46,I (k:Int)),(45,I ((n+1:Nat):Int)),(44,.slice (some ⟨b21,0,none⟩) (n+1) cap),(7,.slice (some ⟨b24,0,none⟩) (n+1) (n+1)),(0,.slice am (n+1) cm),(6,.slice (some ⟨b21,0,none⟩) (n+1) cap),(9,.slice ad s.cost.length cd),(10,.slice ab s.by_.length cb)]⟩) ?_ (by first|exact .D1 rfl (by simp_all) a8|repeat (first|exact .nil rfl rfl|refine .cons rfl ?_))
    refine .cut (fun fs w=>∃p,kB fs ⟨183,[],[(79,.bool p),(12,.bool (left||decide (0<gi lf k))),(13,I (k:Int)),(11,I to),(46,I (k:Int)),(45,I ((n+1:Nat):Int)),(44,.slice (some ⟨b21,0,none⟩) (n+1) cap),(7,.slice (some ⟨b24,0,none⟩) (n+1) (n+1)),(0,.slice am (n+1) cm),(6,.slice (some ⟨b21,0,none⟩) (n+1) cap),(9,.slice ad s.cost.length cd),(10,.slice ab s.by_.length cb)]⟩∧(p=true→0<gi lf k∧gi s.cost k≠free)∧(p=false→¬0<gi lf k∨gi s.cost k=free∨0≤to)∧St H2 w (.blk b24 (bs.map (ptr (n+1)))::(jk bs Fs++(.blk b21 (Is lf++sp)::σ)))) ?_ ?_
    ·refine .draw mix rfl hs fun w hs=>?_
     refine .z 0 rfl zm ?_;refine .z 1 rfl kD ?_;refine .z 2 rfl zm ?_
     refine .iB (t':=58) rfl (fun hb58=>?_) (fun hb58=>?_)
     ·refine .z 3 rfl zm ?_;refine .z 4 rfl zm ?_
      refine .ixX (enc:=fun x=>[I x]) (i:=5) hs rfl aq (.some rfl rfl) hRd rfl rfl ae ai (bE (l:=s.cost) (i:=k) ak) rfl ?_;intro b61 o61 hc61;replace hc61:=bI.one hc61
      refine .r (i:=6) hs rfl aq (.some rfl rfl) (aO rfl af hc61) ?_
      refine .z 7 rfl gP ?_;refine .z 8 rfl zpT ?_;refine .z 9 rfl zm ?_
      refine .yq (t':=65) rfl (fun hb65=>?_) (fun hb65=>?_)
      ·refine .z 10 rfl zm ?_;refine .z 11 rfl fD ?_;refine .z 12 rfl zm ?_
       refine .iB (t':=68) rfl (fun hb68=>?_) (fun hb68=>?_)
       ·refine .qF (i:=13) rfl aq rfl rfl ?_
        refine .qF (i:=14) rfl aq rfl rfl ?_
        refine .qF (i:=15) rfl aq rfl rfl ?_
        refine .qF (i:=16) rfl aq rfl rfl ?_
        refine .qF (i:=17) rfl aq rfl rfl ?_
        refine .qF (i:=18) rfl aq rfl rfl ?_
        refine .qF (i:=19) rfl aq rfl rfl ?_
        refine .qF (i:=20) rfl aq rfl rfl ?_
        refine .qF (i:=21) rfl aq rfl rfl ?_
        refine .z 22 rfl zpT ?_;refine .z 23 rfl zpT ?_
        refine .DT hs ?_
        exact nT ⟨_,a8,by
         intro hp
         first
          |(cases hp;done)
          |exact ⟨by assumption,by assumption⟩,by
         intro hp
         first
          |(cases hp;done)
          |exact .inl cZ
          |exact .inr (.inl fp)
          |exact .inr (.inr ak),hs⟩
       ·refine .z 13 rfl zm ?_;refine .z 14 rfl zm ?_
        refine .ixX (enc:=fun x=>[I x]) (i:=15) hs rfl aq (.some rfl rfl) hRd rfl rfl ae ai (bE (l:=s.cost) (i:=k) ak) rfl ?_;intro b71 o71 hc71;replace hc71:=bI.one hc71
        refine .r (i:=16) hs rfl aq (.some rfl rfl) (aO rfl af hc71) ?_
        refine .z 17 rfl zm ?_;refine .z 18 rfl zm ?_
        refine .ixX (enc:=fun x=>[I x]) (i:=19) hs rfl aq (.some rfl rfl) hRd rfl rfl ae ai (bE (l:=s.cost) (i:=to.toNat) ak) ak ?_;intro b75 o75 hc75;replace hc75:=bI.one hc75
        refine .r (i:=20) hs rfl aq (.some rfl rfl) (aO rfl af hc75) ?_
        refine .z 21 rfl fD ?_;refine .z 22 rfl zpF ?_;refine .z 23 rfl zpT ?_
        refine .DT hs ?_
        exact nT ⟨_,a8,by
         intro hp
         first
          |(cases hp;done)
          |exact ⟨by assumption,by assumption⟩,by
         intro hp
         first
          |(cases hp;done)
          |exact .inl cZ
          |exact .inr (.inl fp)
          |exact .inr (.inr ak),hs⟩
      ·refine .qF (i:=10) rfl aq rfl rfl ?_
       refine .qF (i:=11) rfl aq rfl rfl ?_
       refine .qF (i:=12) rfl aq rfl rfl ?_
       refine .qF (i:=13) rfl aq rfl rfl ?_
       refine .qF (i:=14) rfl aq rfl rfl ?_
       refine .qF (i:=15) rfl aq rfl rfl ?_
       refine .qF (i:=16) rfl aq rfl rfl ?_
       refine .qF (i:=17) rfl aq rfl rfl ?_
       refine .qF (i:=18) rfl aq rfl rfl ?_
       refine .qF (i:=19) rfl aq rfl rfl ?_
       refine .qF (i:=20) rfl aq rfl rfl ?_
       refine .qF (i:=21) rfl aq rfl rfl ?_
       refine .qF (i:=22) rfl aq rfl rfl ?_
       refine .z 23 rfl zpF ?_
       refine .DT hs ?_
       exact nT ⟨_,a8,by
        intro hp
        first
         |(cases hp;done)
         |exact ⟨by assumption,by assumption⟩,by
        intro hp
        first
         |(cases hp;done)
         |exact .inl cZ
         |exact .inr (.inl fp)
         |exact .inr (.inr ak),hs⟩
     ·refine .qF (i:=3) rfl aq rfl rfl ?_
      refine .qF (i:=4) rfl aq rfl rfl ?_
      refine .qF (i:=5) rfl aq rfl rfl ?_
      refine .qF (i:=6) rfl aq rfl rfl ?_
      refine .qF (i:=7) rfl aq rfl rfl ?_
      refine .z 8 rfl zpF ?_;refine .z 9 rfl zm ?_
      refine .qF (i:=10) rfl aq rfl rfl ?_
      refine .qF (i:=11) rfl aq rfl rfl ?_
      refine .qF (i:=12) rfl aq rfl rfl ?_
      refine .qF (i:=13) rfl aq rfl rfl ?_
      refine .qF (i:=14) rfl aq rfl rfl ?_
      refine .qF (i:=15) rfl aq rfl rfl ?_
      refine .qF (i:=16) rfl aq rfl rfl ?_
      refine .qF (i:=17) rfl aq rfl rfl ?_
      refine .qF (i:=18) rfl aq rfl rfl ?_
      refine .qF (i:=19) rfl aq rfl rfl ?_
      refine .qF (i:=20) rfl aq rfl rfl ?_
      refine .qF (i:=21) rfl aq rfl rfl ?_
      refine .qF (i:=22) rfl aq rfl rfl ?_
      refine .z 23 rfl zpF ?_
      refine .DT hs ?_
      exact nT ⟨_,a8,by
       intro hp
       first
        |(cases hp;done)
        |exact ⟨by assumption,by assumption⟩,by
       intro hp
       first
        |(cases hp;done)
        |exact .inl cZ
        |exact .inr (.inl fp)
        |exact .inr (.inr ak),hs⟩
    ·rintro fs w ⟨p,hfs,hp1,hp2,hs⟩
     refine WE.sub ?_ hfs
     refine (.cond rfl (fun hc79=>?_) (fun hc79=>?_))
     ·refine .region (.z zm (.z zg (.nil ?_)))
      refine nB (nT ?_)
      obtain ⟨g1,g2⟩:=hp1 hc79
      exact .mk ⟨(k:Int),_,rfl,hSc.take g1 g2,hs⟩
     ·refine .skip ?_
      refine nB (nT ?_)
      exact .mk ⟨to,_,rfl,hSc.skip (hp2 hc79),hs⟩
   ·refine .gT rfl rfl ?_
    refine .z zm ?_
    refine .gT rfl rfl ?_
    refine .z kD (.z zpF (.z zg (.nil ?_)))
    refine WE.sub (t:=⟨183,[],[(12,.bool (left||decide (0<gi lf k))),(13,I (k:Int)),(14,I (gi lf k)),(11,I to),(46,I (k:Int)),(45,I ((n+1:Nat):Int)),(44,.slice (some ⟨b21,0,none⟩) (n+1) cap),(7,.slice (some ⟨b24,0,none⟩) (n+1) (n+1)),(0,.slice am (n+1) cm),(6,.slice (some ⟨b21,0,none⟩) (n+1) cap),(9,.slice ad s.cost.length cd),(10,.slice ab s.by_.length cb)]⟩) ?_ (by first|exact .D1 rfl (by simp_all) a8|repeat (first|exact .nil rfl rfl|refine .cons rfl ?_))
    refine .cut (fun fs w=>∃p,kB fs ⟨183,[],[(79,.bool p),(12,.bool (left||decide (0<gi lf k))),(13,I (k:Int)),(11,I to),(46,I (k:Int)),(45,I ((n+1:Nat):Int)),(44,.slice (some ⟨b21,0,none⟩) (n+1) cap),(7,.slice (some ⟨b24,0,none⟩) (n+1) (n+1)),(0,.slice am (n+1) cm),(6,.slice (some ⟨b21,0,none⟩) (n+1) cap),(9,.slice ad s.cost.length cd),(10,.slice ab s.by_.length cb)]⟩∧(p=true→0<gi lf k∧gi s.cost k≠free)∧(p=false→¬0<gi lf k∨gi s.cost k=free∨0≤to)∧St H2 w (.blk b24 (bs.map (ptr (n+1)))::(jk bs Fs++(.blk b21 (Is lf++sp)::σ)))) ?_ ?_
    ·refine .draw mix rfl hs fun w hs=>?_
     refine .z 0 rfl zm ?_;refine .z 1 rfl kD ?_;refine .z 2 rfl zm ?_
     refine .iB (t':=58) rfl (fun hb58=>?_) (fun hb58=>?_)
     ·refine .z 3 rfl zm ?_;refine .z 4 rfl zm ?_
      refine .ixX (enc:=fun x=>[I x]) (i:=5) hs rfl aq (.some rfl rfl) hRd rfl rfl ae ai (bE (l:=s.cost) (i:=k) ak) rfl ?_;intro b61 o61 hc61;replace hc61:=bI.one hc61
      refine .r (i:=6) hs rfl aq (.some rfl rfl) (aO rfl af hc61) ?_
      refine .z 7 rfl gP ?_;refine .z 8 rfl zpT ?_;refine .z 9 rfl zm ?_
      refine .yq (t':=65) rfl (fun hb65=>?_) (fun hb65=>?_)
      ·refine .z 10 rfl zm ?_;refine .z 11 rfl fD ?_;refine .z 12 rfl zm ?_
       refine .iB (t':=68) rfl (fun hb68=>?_) (fun hb68=>?_)
       ·refine .qF (i:=13) rfl aq rfl rfl ?_
        refine .qF (i:=14) rfl aq rfl rfl ?_
        refine .qF (i:=15) rfl aq rfl rfl ?_
        refine .qF (i:=16) rfl aq rfl rfl ?_
        refine .qF (i:=17) rfl aq rfl rfl ?_
        refine .qF (i:=18) rfl aq rfl rfl ?_
        refine .qF (i:=19) rfl aq rfl rfl ?_
        refine .qF (i:=20) rfl aq rfl rfl ?_
        refine .qF (i:=21) rfl aq rfl rfl ?_
        refine .z 22 rfl zpT ?_;refine .z 23 rfl zpT ?_
        refine .DT hs ?_
        exact nT ⟨_,a8,by
         intro hp
         first
          |(cases hp;done)
          |exact ⟨by assumption,by assumption⟩,by
         intro hp
         first
          |(cases hp;done)
          |exact .inl cZ
          |exact .inr (.inl fp)
          |exact .inr (.inr ak),hs⟩
       ·refine .z 13 rfl zm ?_;refine .z 14 rfl zm ?_
        refine .ixX (enc:=fun x=>[I x]) (i:=15) hs rfl aq (.some rfl rfl) hRd rfl rfl ae ai (bE (l:=s.cost) (i:=k) ak) rfl ?_;intro b71 o71 hc71;replace hc71:=bI.one hc71
        refine .r (i:=16) hs rfl aq (.some rfl rfl) (aO rfl af hc71) ?_
        refine .z 17 rfl zm ?_;refine .z 18 rfl zm ?_
        refine .ixX (enc:=fun x=>[I x]) (i:=19) hs rfl aq (.some rfl rfl) hRd rfl rfl ae ai (bE (l:=s.cost) (i:=to.toNat) ak) ak ?_;intro b75 o75 hc75;replace hc75:=bI.one hc75
        refine .r (i:=20) hs rfl aq (.some rfl rfl) (aO rfl af hc75) ?_
        refine .z 21 rfl fD ?_;refine .z 22 rfl zpF ?_;refine .z 23 rfl zpT ?_
        refine .DT hs ?_
        exact nT ⟨_,a8,by
         intro hp
         first
          |(cases hp;done)
          |exact ⟨by assumption,by assumption⟩,by
         intro hp
         first
          |(cases hp;done)
          |exact .inl cZ
          |exact .inr (.inl fp)
          |exact .inr (.inr ak),hs⟩
      ·refine .qF (i:=10) rfl aq rfl rfl ?_
       refine .qF (i:=11) rfl aq rfl rfl ?_
       refine .qF (i:=12) rfl aq rfl rfl ?_
       refine .qF (i:=13) rfl aq rfl rfl ?_
       refine .qF (i:=14) rfl aq rfl rfl ?_
       refine .qF (i:=15) rfl aq rfl rfl ?_
       refine .qF (i:=16) rfl aq rfl rfl ?_
       refine .qF (i:=17) rfl aq rfl rfl ?_
       refine .qF (i:=18) rfl aq rfl rfl ?_
       refine .qF (i:=19) rfl aq rfl rfl ?_
       refine .qF (i:=20) rfl aq rfl rfl ?_
       refine .qF (i:=21) rfl aq rfl rfl ?_
       refine .qF (i:=22) rfl aq rfl rfl ?_
       refine .z 23 rfl zpF ?_
       refine .DT hs ?_
       exact nT ⟨_,a8,by
        intro hp
        first
         |(cases hp;done)
         |exact ⟨by assumption,by assumption⟩,by
        intro hp
        first
         |(cases hp;done)
         |exact .inl cZ
         |exact .inr (.inl fp)
         |exact .inr (.inr ak),hs⟩
     ·refine .qF (i:=3) rfl aq rfl rfl ?_
      refine .qF (i:=4) rfl aq rfl rfl ?_
      refine .qF (i:=5) rfl aq rfl rfl ?_
      refine .qF (i:=6) rfl aq rfl rfl ?_
      refine .qF (i:=7) rfl aq rfl rfl ?_
      refine .z 8 rfl zpF ?_;refine .z 9 rfl zm ?_
      refine .qF (i:=10) rfl aq rfl rfl ?_
      refine .qF (i:=11) rfl aq rfl rfl ?_
      refine .qF (i:=12) rfl aq rfl rfl ?_
      refine .qF (i:=13) rfl aq rfl rfl ?_
      refine .qF (i:=14) rfl aq rfl rfl ?_
      refine .qF (i:=15) rfl aq rfl rfl ?_
      refine .qF (i:=16) rfl aq rfl rfl ?_
      refine .qF (i:=17) rfl aq rfl rfl ?_
      refine .qF (i:=18) rfl aq rfl rfl ?_
      refine .qF (i:=19) rfl aq rfl rfl ?_
      refine .qF (i:=20) rfl aq rfl rfl ?_
      refine .qF (i:=21) rfl aq rfl rfl ?_
      refine .qF (i:=22) rfl aq rfl rfl ?_
      refine .z 23 rfl zpF ?_
      refine .DT hs ?_
      exact nT ⟨_,a8,by
       intro hp
       first
        |(cases hp;done)
        |exact ⟨by assumption,by assumption⟩,by
       intro hp
       first
        |(cases hp;done)
        |exact .inl cZ
        |exact .inr (.inl fp)
        |exact .inr (.inr ak),hs⟩
    ·rintro fs w ⟨p,hfs,hp1,hp2,hs⟩
     refine WE.sub ?_ hfs
     refine (.cond rfl (fun hc79=>?_) (fun hc79=>?_))
     ·refine .region (.z zm (.z zg (.nil ?_)))
      refine nB (nT ?_)
      obtain ⟨g1,g2⟩:=hp1 hc79
      exact .mk ⟨(k:Int),_,rfl,hSc.take g1 g2,hs⟩
     ·refine .skip ?_
      refine nB (nT ?_)
      exact .mk ⟨to,_,rfl,hSc.skip (hp2 hc79),hs⟩
  ·rintro fr w ⟨to,left,rfl,hSc,hs⟩
   refine nT ?_
   refine .seq (.aj (.z zm (.z fD (.nil ?_))))
   refine (.bJ rfl (fun hc83=>?_) (fun hc83=>?_))
   ·refine .aj (.z zm (.z zm ?_))
    refine .o (.call Tryz.call293 rfl (tT hs (hM.mono hle02) hqM ak .here hbl hqF (fun i hi=> .there (Mem.row ak ak))) ?_);rintro _ w ⟨rfl,hs⟩
    refine .z zm (.z iD (.z zg (.z zg (.nil ?_))))
    refine .ret (rT (rB (rT (rB (Fin.jx Tryz.results272 rfl rfl ?_)))))
    rw [←D0 hT hC hI.nn]
    cases left with
    |false=>
     have hno:∀v<n+1,gi lf v≤0:=fun v hv=>Int.not_lt.1 fun h=>by have:=hSc.left_.2 ⟨v,hv,h⟩;cases this
     have hok:=hI.ok hin hw0 hno
     obtain ⟨q,hqf⟩:=hok.fe
     have hO:=(Ab hin hok.lt (fun i hi=>(hok.nn i hi).1) hok.full hqf).1
     have hb:=hbd _ hO
     rw [kS ak]
     exact ⟨H2,_,true,hle02,rfl,.inl ⟨rfl,hO⟩,hs.tail.jB.tail⟩
    |true=>
     obtain ⟨v,hv,hp⟩:=hSc.left_.1 rfl
     have hf:=hSc.non ak v hv hp
     have hO:=hI.open hin (R:=fun v=>gi s.cost v<free) (fun v hv hl=>by have:=hV.src v hv hl;omega) (hV.closed hg) hv (by rw [hf];omega) hp
     exact ⟨H2,_,false,hle02,rfl,.inr ⟨rfl,hO⟩,hs.tail.jB.tail⟩
   ·refine .skip ?_
    refine nT ?_
    refine .aj ?_
    obtain ⟨t,rfl⟩:=Int.eq_ofNat_of_zero_le (show 0≤to by omega)
    obtain ⟨ht,htp,htf⟩:=hSc.som ak
    rw [Int.toNat_natCast] at ht htp htf
    have htl:gi s.cost t<free:=by have:=hV.top t ht;omega
    obtain ⟨kk,cc,u,hB,hu,hk1,hk0,hcl,hway⟩:=hV.back hg ht htl htp
    have hW:=hway _ rfl
    have hsg:=hI.sg
    refine .z zm (.z zm ?_)
    refine .q hs (ef (k:=t) rfl rfl ae ai rfl ht) ?_
    refine .q hs (ed rfl af (hm:= .there (Mem.jB .here)) (hv:=nS (bE (l:=lf) (i:=t) ak) sp)) ?_
    refine .z zg (.nil (.aj (.z zm (.z zg (.nil (.seq (.block ?_)))))))
    refine .loop (fun p:Nat×Nat=>⟨183,[],[(16,I (p.2:Int)),(15,I (least es ts (gi lf t) (iZ s.by_ t p.1))),(11,I (t:Int)),(7,.slice (some ⟨b24,0,none⟩) (n+1) (n+1)),(0,.slice am (n+1) cm),(6,.slice (some ⟨b21,0,none⟩) (n+1) cap),(9,.slice ad s.cost.length cd),(10,.slice ab s.by_.length cb)]⟩) (fun p w=>AtW s.by_ t kk u p.1 p.2∧(p.2<n+1∧gi s.cost p.2<free)∧St H2 w (.blk b24 (bs.map (ptr (n+1)))::(jk bs Fs++(.blk b21 (Is lf++sp)::σ)))) (fun p=>kk - p.1) (0,t) a8 ⟨.start hB,⟨ht,htl⟩,hs⟩ ?_
    rintro ⟨i,v⟩ w ⟨hA,⟨hv,hvf⟩,hs⟩
    dsimp only at hA hv hvf ⊢
    have hby:=hV.by1 v hv hvf
    refine .cut (fun fs w=>kB fs ⟨183,[],[(16,I (v:Int)),(15,I (least es ts (gi lf t) (iZ s.by_ t i))),(11,I (t:Int)),(7,.slice (some ⟨b24,0,none⟩) (n+1) (n+1)),(0,.slice am (n+1) cm),(6,.slice (some ⟨b21,0,none⟩) (n+1) cap),(9,.slice ad s.cost.length cd),(10,.slice ab s.by_.length cb)]⟩∧0≤(ga s.by_ v).l∧St H2 w (.blk b24 (bs.map (ptr (n+1)))::(jk bs Fs++(.blk b21 (Is lf++sp)::σ)))) ?_ ?_
    ·refine .aj (.z zm (.z zm ?_))
     refine .q hs (ef (k:=v) rfl rfl ae ai rfl hv) ?_
     refine .q hs (ed rfl af (hm:= .there (Mem.jB .here)) (hv:=nS (bE (l:=lf) (i:=v) ak) sp)) ?_
     refine .z yA (.z zm ?_)
     refine .iB (t':=99) rfl (fun hb99=>?_) (fun hb99=>?_)
     ·refine .gFs 6 5 false rfl rfl rfl ?_
      refine .z zpT (.nil ?_)
      refine (.cT ?_)
      refine .skip ?_
      refine nT ?_
      exact ⟨a8,by
       rcases hby with ⟨_,h,_⟩|h
       ·omega
       ·exact h.1,hs⟩
     ·refine .gT rfl rfl ?_
      refine .z zm ?_
      refine .gT rfl rfl ?_
      refine .z zm ?_
      refine .gT rfl rfl ?_
      refine .ixX (enc:=lR es) hs hRb rfl rfl dE dq (uz (l:=s.by_) (i:=v) ak) rfl ?_;intro b102 o102 hc102
      rw [pX] at hc102
      refine .gT rfl rfl ?_
      refine .z (zfa dx) ?_
      refine .gT rfl rfl ?_
      refine .q hs (aO rfl af (hc102.get 0 rfl)) ?_
      refine .gT rfl rfl ?_
      refine .z yA (.z zpF (.nil ?_))
      refine (.bJ rfl (fun hc106=>?_) (fun hc106=>?_))
      ·refine .skip ?_
       refine nT ?_
       exact ⟨a8,C2 hc106,hs⟩
      ·refine .exit ?_
       refine xT (xT (xB (nT ?_)))
       refine .aj ?_
       obtain ⟨ei,ev⟩:=hA.stop (Bm hc106)
       subst ei;subst ev
       obtain ⟨m0,m1,m2,m3⟩:=s8 hI.lt.symm hnum hW
       have hsv:=hsg v hv
       have hst:=hsg t ht
       have hmu:min (least es ts (gi lf t) (iZ s.by_ t i)) (-gi lf v)=qt es ts lf (iZ s.by_ t i).reverse v t:=by
        unfold qt
        rw [B5,←xP,Int.min_comm]
       have hsend:=hI.send hnum hW (by rw [List.length_reverse,ie];omega)
       have hmem:∀x∈iZ s.by_ t i,x∈du es ts:=fun x hx=>hW.mem x (List.mem_reverse.2 hx)
       rw [AF (fun x hx=>(jN hI.lt.symm hnum (hmem x hx)).2.1)] at hsend
       generalize hm:qt es ts lf (iZ s.by_ t i).reverse v t=m at*
       have hvt:v≠t:=fun e=>by have:=hW.lu;rw [e] at this;omega
       refine .z zm (.z zm (.z zm ?_))
       refine .q hs (ef (k:=v) rfl rfl ae ai rfl hv) ?_
       refine .q hs (ed rfl af (hm:= .there (Mem.jB .here)) (hv:=nS (bE (l:=lf) (i:=v) ak) sp)) ?_
       refine .z zv (.z zw ?_)
       rw [hmu]
       refine .z zg (.nil (.seq (.aj (.z zm (.z zg (.nil (.block ?_)))))))
       refine .loop (fun p:Nat×Nat×List (List Int)=>⟨183,[],[(18,I (p.2.1:Int)),(16,I (v:Int)),(15,I m),(11,I (t:Int)),(7,.slice (some ⟨b24,0,none⟩) (n+1) (n+1)),(0,.slice am (n+1) cm),(6,.slice (some ⟨b21,0,none⟩) (n+1) cap),(9,.slice ad s.cost.length cd),(10,.slice ab s.by_.length cb)]⟩) (fun p w=>AtW s.by_ t i v p.1 p.2.1∧(p.2.1<n+1∧gi s.cost p.2.1<free)∧(Sq (n+1) p.2.2∧uS (n+1) es (fy es m ts (iZ s.by_ t p.1)) (gt p.2.2))∧St H2 w (.blk b24 (bs.map (ptr (n+1)))::(jk bs p.2.2++(.blk b21 (Is lf++sp)::σ)))) (fun p=>i - p.1) (0,t,Fs) a8 ⟨.start hB,⟨ht,htl⟩,⟨hqF,hC⟩,hs⟩ ?_
       clear hA hby
       rintro ⟨j,y,Fs'⟩ w ⟨hA,⟨hy,hyf⟩,⟨hqF',hC'⟩,hs⟩
       dsimp only at hA hy hyf hqF' hC' hs ⊢
       have hfl':=hqF'.1
       refine .seq (.aj (.z zm (.z zm (.z gP (.nil ?_)))))
       refine (.eI rfl (fun hc135=>?_) (fun hc135=>?_))
       ·refine .skip ?_
        refine nT ?_
        refine .seq (.block (.aj ?_))
        have hl0:=hA.ne ak
        obtain ⟨hik,hA',htr⟩:=hA.next hl0 hu
        obtain ⟨hxm,hxt,hxf⟩:ga s.by_ y∈du es ts∧(ga s.by_ y).t=y∧gi s.cost (ga s.by_ y).f<free:=by
         rcases hV.by1 y hy hyf with ⟨h,_⟩|⟨_,h1,h2,h3,_⟩
         ·omega
         ·exact ⟨h1,h2,h3⟩
        have hxn:=(hg.ok _ hxm).1
        have hsF:=tF hl0
        have hxb:(ga s.by_ y).l.toNat<ts.length:=(jN hI.lt.symm hnum hxm).2.1
        have hpb:=xG (es:=es) (ts:=ts) (p:=iZ s.by_ t j) (m:=m) ak ak (by rw [ie];omega) (fun x hx=>by
         have h1:=ng (A:=fun v=>v<n+1∧gi s.cost v<free) (B:=fun x=>x∈du es ts) (fun v hv hl=>by
          rcases hV.by1 v hv.1 hv.2 with ⟨h,_⟩|⟨_,h1,h2,h3,_⟩
          ·omega
          ·exact ⟨h1,(hg.ok _ h1).1,h3⟩) hA.bk.choose_spec ⟨ht,htl⟩ x hx
         exact (jN hI.lt.symm hnum h1).2.1) (ga s.by_ y).l.toNat
        have hnn:=hI.nn (ga s.by_ y).l.toNat (by rw [←hI.lt];exact hxb)
        have htb:=hI.tb (ga s.by_ y).l.toNat (by rw [←hI.lt];exact hxb)
        have hrm:0≤rem (n+1) lf:=dm fun v _=>by omega
        generalize hgx:ga s.by_ y=x at*
        refine .z zm (.z zm ?_)
        refine .ixX (enc:=lR es) hs hRb rfl rfl dE dq (uz (l:=s.by_) (i:=y) ak) rfl ?_;intro b143 o143 hc143
        rw [hgx,pX] at hc143
        refine .q hs (cj (vs:=[I (tG x),.bool (uU es x)]) rfl Tryz.isAgg315 dq hc143) ?_
        refine .o (.alloc hs G7 rfl fun b19 w hs=>?_)
        refine .o (.aZ (vs:=[I (tG x),.bool (uU es x)]) hs rfl rfl dq fun w hs=>?_)
        refine .nil (.aj (.z (zfa jA) ?_))
        first|refine .q hs (ed rfl sd (hm:=by repeat (first|exact .here|assumption|exact Mem.row ak ak|refine .there ?_|refine Mem.jB ?_)) (hv:=by first|rfl|exact dn ak|exact fV cZ ak ak|exact fk fp)) ?_|refine .q hs (aO rfl sd cZ) ?_
        refine .nil ?_
        refine (.cond rfl (fun hc146=>?_) (fun hc146=>?_))
        ·refine .draw mix rfl hs fun w hs=>?_
         have hnf:=Bn hc146
         obtain ⟨hcb,z,hz1,hz2⟩:=hC.back hT hxm hnf
         have hgz:gt Fs' y x.f=gi (fy es m ts (iZ s.by_ t j)) x.l.toNat:=by
          have:=hC'.arc z hz1
          rw [hz2] at hxt ⊢
          rw [←hxt];exact this.symm
         have hpu:=(hC'.push hT (y:=x) (.inr ⟨z,hz1,hz2⟩) m).2 hnf
         rw [hxt] at hpu
         rw [←mq,←htr] at hpu
         refine .z 0 rfl zm ?_;refine .z 1 rfl zm ?_
         refine .z 2 rfl (ef (k:=y) rfl rfl au aC rfl hy) ?_
         first|refine .load (i:=3) hs rfl aq .none rfl an ?_ (by repeat (first|exact .here|assumption|exact Mem.row ak ak|refine .there ?_|refine Mem.jB ?_)) (by first|rfl|exact dn ak|exact fV cZ ak ak|exact fk fp)|refine .r (i:=3) hs rfl aq .none (aO rfl an cZ) ?_
         refine .z 4 rfl (zfa dx) ?_
         first|refine .load (i:=5) hs rfl aq .none rfl af ?_ (by repeat (first|exact .here|assumption|exact Mem.row ak ak|refine .there ?_|refine Mem.jB ?_)) (by first|rfl|exact dn ak|exact fV cZ ak ak|exact fk fp)|refine .r (i:=5) hs rfl aq .none (aO rfl af cZ) ?_
         rw [hsF] at hs ⊢
         refine .z 6 rfl (ef (k:=x.f) rfl rfl ae ai rfl hxn) ?_
         first|refine .load (i:=7) hs rfl aq .none rfl af ?_ (by repeat (first|exact .here|assumption|exact Mem.row ak ak|refine .there ?_|refine Mem.jB ?_)) (by first|rfl|exact dn ak|exact fV cZ ak ak|exact fk fp)|refine .r (i:=7) hs rfl aq .none (aO rfl af cZ) ?_
         refine .z 8 rfl zm ?_;refine .z 9 rfl gO ?_
         refine .z 10 rfl (ef (k:=x.f) rfl rfl ae ai rfl hxn) ?_
         refine .ET 11 hs ?_
         refine .store hs rfl rfl ai ?_ (.there (.there (Upd.row _ ak ak))) (uG (by rw [hqF'.2 _ hy];exact hxn)) (lF _ _ _);intro w hs
         refine .go ?_
         refine .DT hs ?_
         refine nB (nT ?_)
         refine .region (.z zm (.z zm ?_))
         refine .ixX (enc:=lR es) hs hRb rfl rfl dE dq (uz (l:=s.by_) (i:=y) ak) rfl ?_;intro b138 o138 hc138
         rw [hgx,pX] at hc138
         refine .z (zfa dx) ?_
         refine .q hs (aO rfl af (hc138.get 0 rfl)) ?_
         rw [hsF]
         refine .z zg (.nil ?_)
         refine nT ?_
         exact ⟨(j+1,x.f,_),a8,⟨hA',⟨hxn,hxf⟩,⟨hqF'.set hy _,by rw [zV hqF' hy hxn];exact hpu⟩,hs.tail⟩,by dsimp only;omega⟩
        ·refine .region ?_
         have hnf:=Bo hl0 (by simpa using hc146)
         have hxe:=hC.GX hT hxm hnf
         have hgz:gt Fs' x.f y=gi (fy es m ts (iZ s.by_ t j)) x.l.toNat:=by
          have:=hC'.arc x hxe
          rw [hxt] at this;exact this.symm
         have hpu:=(hC'.push hT (y:=x) (.inl hxe) m).1 hnf
         rw [hxt] at hpu
         rw [←mq,←htr] at hpu
         refine .z zm (.z (zfa dx) ?_)
         first|refine .q hs (ed rfl af (hm:=by repeat (first|exact .here|assumption|exact Mem.row ak ak|refine .there ?_|refine Mem.jB ?_)) (hv:=by first|rfl|exact dn ak|exact fV cZ ak ak|exact fk fp)) ?_|refine .q hs (aO rfl af cZ) ?_
         rw [hsF]
         refine .q hs (ef (k:=x.f) rfl rfl au aC rfl hxn) ?_
         first|refine .q hs (ed rfl an (hm:=by repeat (first|exact .here|assumption|exact Mem.row ak ak|refine .there ?_|refine Mem.jB ?_)) (hv:=by first|rfl|exact dn ak|exact fV cZ ak ak|exact fk fp)) ?_|refine .q hs (aO rfl an cZ) ?_
         refine .z zm ?_
         refine .q hs (ef (k:=y) rfl rfl ae ai rfl hy) ?_
         first|refine .q hs (ed rfl af (hm:=by repeat (first|exact .here|assumption|exact Mem.row ak ak|refine .there ?_|refine Mem.jB ?_)) (hv:=by first|rfl|exact dn ak|exact fV cZ ak ak|exact fk fp)) ?_|refine .q hs (aO rfl af cZ) ?_
         refine .z zm (.z cH ?_)
         refine .q hs (ef (k:=y) rfl rfl ae ai rfl hy) ?_
         refine .o (.store hs rfl rfl ai ?_ (.there (.there (Upd.row _ ak ak))) (uG (by rw [hqF'.2 _ hxn];exact hy)) (lF _ _ _));intro w hs
         refine .nil ?_
         refine nB (nT ?_)
         refine .region (.z zm (.z zm ?_))
         refine .ixX (enc:=lR es) hs hRb rfl rfl dE dq (uz (l:=s.by_) (i:=y) ak) rfl ?_;intro b138 o138 hc138
         rw [hgx,pX] at hc138
         refine .z (zfa dx) ?_
         refine .q hs (aO rfl af (hc138.get 0 rfl)) ?_
         rw [hsF]
         refine .z zg (.nil ?_)
         refine nT ?_
         exact ⟨(j+1,x.f,_),a8,⟨hA',⟨hxn,hxf⟩,⟨hqF'.set hxn _,by rw [zV hqF' hxn hy];exact hpu⟩,hs.tail⟩,by dsimp only;omega⟩
       ·refine .exit ?_
        refine xT (xT (xB (nT ?_)))
        refine .aj ?_
        have hyv:y=v:=by omega
        subst hyv
        obtain ⟨ej,-⟩:=hA.stop hu
        subst ej
        refine .z zm (.z zm ?_)
        refine .q hs (ef (k:=y) rfl rfl ae ai rfl hv) ?_
        refine .q hs (ed rfl af (hm:= .there (Mem.jB .here)) (hv:=nS (bE (l:=lf) (i:=y) ak) sp)) ?_
        refine .z zm (.z cH ?_)
        refine .q hs (ef (k:=y) rfl rfl ae ai rfl hv) ?_
        refine .o (.store hs rfl rfl ai ?_ (.there (Upd.jB .here)) (by simp;omega) (zE ak _ sp));intro w hs
        refine .nil (.region (.z zm (.z zm ?_)))
        refine .q hs (ef (k:=t) rfl rfl ae ai rfl ht) ?_
        have hgt:gi (lf.set y (gi lf y+m)) t=gi lf t:=by rw [eU ak,if_neg (Ne.symm hvt)]
        refine .q hs (ed rfl af (hm:= .there (Mem.jB .here)) (hv:=nS (bE (l:=lf.set y (gi lf y+m)) (i:=t) (by rw [List.length_set];omega)) sp)) ?_
        refine .z zm (.z gO ?_)
        refine .q hs (ef (k:=t) rfl rfl ae ai rfl ht) ?_
        refine .o (.store hs rfl rfl ai ?_ (.there (Upd.jB .here)) (by simp;omega) (zE (by rw [List.length_set];omega) _ sp));intro w hs
        refine .nil ?_
        refine nB (nT ?_)
        have hrm:0≤rem (n+1) (xL lf m y t):=dm fun v _=>by omega
        exact ⟨(Fs',fy es m ts (iZ s.by_ t j),xL lf m y t),a8,⟨⟨hqF',hC',hsend.1⟩,H2,hle02,hs⟩,by dsimp only;have:=hsend.2;omega⟩
    ·rintro fs w ⟨hfs,hl0,hs⟩
     refine WE.sub ?_ hfs
     obtain ⟨hik,hA',htr⟩:=hA.next hl0 hu
     obtain ⟨hxm,hxt,hxf⟩:ga s.by_ v∈du es ts∧(ga s.by_ v).t=v∧gi s.cost (ga s.by_ v).f<free:=by
      rcases hby with ⟨h,_⟩|⟨_,h1,h2,h3,_⟩
      ·omega
      ·exact ⟨h1,h2,h3⟩
     have hxn:=(hg.ok _ hxm).1
     have hsF:=tF hl0
     generalize hgx:ga s.by_ v=x at*
     refine .block (.aj (.z zm (.z zm ?_)))
     refine .ixX (enc:=lR es) hs hRb rfl rfl dE dq (uz (l:=s.by_) (i:=v) ak) rfl ?_;intro b109 o109 hc109
     rw [hgx,pX] at hc109
     refine .q hs (cj (vs:=[I (tG x),.bool (uU es x)]) rfl Tryz.isAgg315 dq hc109) ?_
     refine .o (.alloc hs G7 rfl fun b17 w hs=>?_)
     refine .o (.aZ (vs:=[I (tG x),.bool (uU es x)]) hs rfl rfl dq fun w hs=>?_)
     refine .nil (.seq (.aj (.z (zfa jA) ?_)))
     first|refine .q hs (ed rfl sd (hm:=by repeat (first|exact .here|assumption|exact Mem.row ak ak|refine .there ?_|refine Mem.jB ?_)) (hv:=by first|rfl|exact dn ak|exact fV cZ ak ak|exact fk fp)) ?_|refine .q hs (aO rfl sd cZ) ?_
     refine .nil ?_
     refine (.cond rfl (fun hc112=>?_) (fun hc112=>?_))
     ·refine .draw mix rfl hs fun w hs=>?_
      refine .z 0 rfl zm ?_;refine .z 1 rfl zm ?_;refine .z 2 rfl zm ?_
      refine .z 3 rfl (ef (k:=v) rfl rfl au aC rfl hv) ?_
      first|refine .load (i:=4) hs rfl aq .none rfl an ?_ (by repeat (first|exact .here|assumption|exact Mem.row ak ak|refine .there ?_|refine Mem.jB ?_)) (by first|rfl|exact dn ak|exact fV cZ ak ak|exact fk fp)|refine .r (i:=4) hs rfl aq .none (aO rfl an cZ) ?_
      refine .z 5 rfl (zfa dx) ?_
      first|refine .load (i:=6) hs rfl aq .none rfl af ?_ (by repeat (first|exact .here|assumption|exact Mem.row ak ak|refine .there ?_|refine Mem.jB ?_)) (by first|rfl|exact dn ak|exact fV cZ ak ak|exact fk fp)|refine .r (i:=6) hs rfl aq .none (aO rfl af cZ) ?_
      rw [hsF] at hs ⊢
      refine .z 7 rfl (ef (k:=x.f) rfl rfl ae ai rfl hxn) ?_
      first|refine .load (i:=8) hs rfl aq .none rfl af ?_ (by repeat (first|exact .here|assumption|exact Mem.row ak ak|refine .there ?_|refine Mem.jB ?_)) (by first|rfl|exact dn ak|exact fV cZ ak ak|exact fk fp)|refine .r (i:=8) hs rfl aq .none (aO rfl af cZ) ?_
      refine .z 9 rfl zw ?_;refine .z 10 rfl zg ?_
      refine .DT hs ?_
      refine nT ?_
      refine .region (.z (zfa dx) ?_)
      first|refine .q hs (ed rfl af (hm:=by repeat (first|exact .here|assumption|exact Mem.row ak ak|refine .there ?_|refine Mem.jB ?_)) (hv:=by first|rfl|exact dn ak|exact fV cZ ak ak|exact fk fp)) ?_|refine .q hs (aO rfl af cZ) ?_
      try rw [hsF]
      refine .z zg (.nil ?_)
      refine nB (nT ?_)
      have hnf:=Bn hc112
      have hcb:=(hC.back hT hxm hnf).1
      rw [hxt] at hcb
      exact ⟨(i+1,x.f),.cons rfl (.cn rfl (by dsimp only;rw [htr,mb,if_neg hnf,hcb]) a8),⟨hA',⟨hxn,hxf⟩,hs.tail⟩,by dsimp only;omega⟩
     ·refine .skip ?_
      refine nT ?_
      refine .region (.z (zfa dx) ?_)
      first|refine .q hs (ed rfl af (hm:=by repeat (first|exact .here|assumption|exact Mem.row ak ak|refine .there ?_|refine Mem.jB ?_)) (hv:=by first|rfl|exact dn ak|exact fV cZ ak ak|exact fk fp)) ?_|refine .q hs (aO rfl af cZ) ?_
      try rw [hsF]
      refine .z zg (.nil ?_)
      refine nB (nT ?_)
      have hnf:=Bo hl0 (by simpa using hc112)
      exact ⟨(i+1,x.f),.cons rfl (.cn rfl (by dsimp only;rw [htr,mb,if_pos hnf]) a8),⟨hA',⟨hxn,hxf⟩,hs.tail⟩,by dsimp only;omega⟩
theorem ja{p:Prop}[Decidable p]:(!decide p)=true↔¬p:=by simp
theorem ik{p:Prop}[Decidable p]:(!decide p)=false↔p:=by simp
theorem fA{a0 a1 a2:Int}(hs:St H w σ):Cl Tryz.prog 221 [I a0,I a1,I a2] w fun v w'=>v= .bool (decide (a1≤a0∧a0≤a2))∧St H w' σ:=by
 refine Cl.o Tryz.func221 Tryz.ntmps221 ag3 ?_
 refine .aj (.z zg (.nil (.aj (.z zm (.z zm (.z wc (.z zm ?_)))))))
 refine .iB (t':=10) rfl (fun hb10=>?_) (fun hb10=>?_)
 ·refine .gT rfl rfl ?_
  refine .z zm ?_
  refine .gT rfl rfl ?_
  refine .z zm ?_
  refine .gT rfl rfl ?_
  refine .z wc (.z zpT (.z zg (.nil ?_)))
  refine .ret (Fin.bK Tryz.results221 rfl ?_)
  exact ⟨by simp [*],hs.out⟩
 ·refine .gFs 3 3 true rfl rfl rfl ?_
  refine .z zpF (.z zg (.nil ?_))
  refine .ret (Fin.bK Tryz.results221 rfl ?_)
  exact ⟨by simp [*],hs.out⟩
theorem nz{many:Int}{l:Lim}(hs:St H w σ):Cl Tryz.prog 232 [I many,.agg l.c.toArray] w fun v w'=>v=I (if decide (0≤many∧many≤64)&&l.ok many then 0 else 20)∧St H w' σ:=by
 refine Cl.o Tryz.func232 Tryz.ntmps232 ag2 ?_
 refine .aj ?_
 refine .bx hs fun b3 w hs=>?_
 refine .z zg (.nil (.seq (.aj (.z zm ?_))))
 refine .o (.call A1 rfl (fA hs) ?_);rintro _ w ⟨rfl,hs⟩
 refine .z iD (.z zm ?_)
 refine .bif (t':=8) rfl (fun hb8=>?_) (fun hb8=>?_)
 ·refine .gFs 5 3 false rfl rfl rfl ?_
  refine .z zpT (.z zm ?_)
  refine .gFs 5 10 false rfl rfl rfl ?_
  refine .z zpT (.z zm ?_)
  refine .gFs 5 17 false rfl rfl rfl ?_
  refine .z zpT (.z zm ?_)
  refine .gFs 4 24 false rfl rfl rfl ?_
  refine .z zpT (.z zm ?_)
  refine .gFs 4 30 false rfl rfl rfl ?_
  refine .z zpT (.nil ?_)
  refine (.cT ?_)
  refine .aj (.z zg (.nil ?_))
  refine .ret (rT (Fin.bK mM rfl ?_))
  (try simp only [ja] at*)
  (try simp only [ik] at*)
  refine ⟨congrArg I ?_,hs.out⟩
  unfold Lim.ok
  first
   |(rw [if_pos (by simp only [Bool.and_eq_true,decide_eq_true_eq];omega)];done)
   |(rw [if_neg (by simp only [Bool.and_eq_true,decide_eq_true_eq];omega)];done)
 ·refine .gT rfl rfl ?_
  refine .z (zfa dD) ?_
  refine .gT rfl rfl ?_
  refine .y hs (zld af) ?_
  refine .gT rfl rfl ?_
  refine .z zm ?_
  refine .gT rfl rfl ?_
  refine .o (.call A1 rfl (fA hs) ?_);rintro _ w ⟨rfl,hs⟩
  refine .gT rfl rfl ?_
  refine .z iD (.z zpF (.z zm ?_))
  refine .bif (t':=15) rfl (fun hb15=>?_) (fun hb15=>?_)
  ·refine .gFs 5 10 false rfl rfl rfl ?_
   refine .z zpT (.z zm ?_)
   refine .gFs 5 17 false rfl rfl rfl ?_
   refine .z zpT (.z zm ?_)
   refine .gFs 4 24 false rfl rfl rfl ?_
   refine .z zpT (.z zm ?_)
   refine .gFs 4 30 false rfl rfl rfl ?_
   refine .z zpT (.nil ?_)
   refine (.cT ?_)
   refine .aj (.z zg (.nil ?_))
   refine .ret (rT (Fin.bK mM rfl ?_))
   (try simp only [ja] at*)
   (try simp only [ik] at*)
   refine ⟨congrArg I ?_,hs.out⟩
   unfold Lim.ok
   first
    |(rw [if_pos (by simp only [Bool.and_eq_true,decide_eq_true_eq];omega)];done)
    |(rw [if_neg (by simp only [Bool.and_eq_true,decide_eq_true_eq];omega)];done)
  ·refine .gT rfl rfl ?_
   refine .z (zfa dO) ?_
   refine .gT rfl rfl ?_
   refine .y hs (zld af) ?_
   refine .gT rfl rfl ?_
   refine .z zm ?_
   refine .gT rfl rfl ?_
   refine .o (.call A1 rfl (fA hs) ?_);rintro _ w ⟨rfl,hs⟩
   refine .gT rfl rfl ?_
   refine .z iD (.z zpF (.z zm ?_))
   refine .bif (t':=22) rfl (fun hb22=>?_) (fun hb22=>?_)
   ·refine .gFs 5 17 false rfl rfl rfl ?_
    refine .z zpT (.z zm ?_)
    refine .gFs 4 24 false rfl rfl rfl ?_
    refine .z zpT (.z zm ?_)
    refine .gFs 4 30 false rfl rfl rfl ?_
    refine .z zpT (.nil ?_)
    refine (.cT ?_)
    refine .aj (.z zg (.nil ?_))
    refine .ret (rT (Fin.bK mM rfl ?_))
    (try simp only [ja] at*)
    (try simp only [ik] at*)
    refine ⟨congrArg I ?_,hs.out⟩
    unfold Lim.ok
    first
     |(rw [if_pos (by simp only [Bool.and_eq_true,decide_eq_true_eq];omega)];done)
     |(rw [if_neg (by simp only [Bool.and_eq_true,decide_eq_true_eq];omega)];done)
   ·refine .gT rfl rfl ?_
    refine .z (zfa dD) ?_
    refine .gT rfl rfl ?_
    refine .y hs (zld af) ?_
    refine .gT rfl rfl ?_
    refine .z (zfa dO) ?_
    refine .gT rfl rfl ?_
    refine .y hs (zld af) ?_
    refine .gT rfl rfl ?_
    refine .z fw (.z zpF (.z zm ?_))
    refine .iB (t':=29) rfl (fun hb29=>?_) (fun hb29=>?_)
    ·refine .gFs 4 24 false rfl rfl rfl ?_
     refine .z zpT (.z zm ?_)
     refine .gFs 4 30 false rfl rfl rfl ?_
     refine .z zpT (.nil ?_)
     refine (.cT ?_)
     refine .aj (.z zg (.nil ?_))
     refine .ret (rT (Fin.bK mM rfl ?_))
     (try simp only [ja] at*)
     (try simp only [ik] at*)
     refine ⟨congrArg I ?_,hs.out⟩
     unfold Lim.ok
     first
      |(rw [if_pos (by simp only [Bool.and_eq_true,decide_eq_true_eq];omega)];done)
      |(rw [if_neg (by simp only [Bool.and_eq_true,decide_eq_true_eq];omega)];done)
    ·refine .gT rfl rfl ?_
     refine .z (zfa eH) ?_
     refine .gT rfl rfl ?_
     refine .y hs (zld af) ?_
     refine .gT rfl rfl ?_
     refine .o (.call A1 rfl (fA hs) ?_);rintro _ w ⟨rfl,hs⟩
     refine .gT rfl rfl ?_
     refine .z iD (.z zpF (.z zm ?_))
     refine .bif (t':=35) rfl (fun hb35=>?_) (fun hb35=>?_)
     ·refine .gFs 4 30 false rfl rfl rfl ?_
      refine .z zpT (.nil ?_)
      refine (.cT ?_)
      refine .aj (.z zg (.nil ?_))
      refine .ret (rT (Fin.bK mM rfl ?_))
      (try simp only [ja] at*)
      (try simp only [ik] at*)
      refine ⟨congrArg I ?_,hs.out⟩
      unfold Lim.ok
      first
       |(rw [if_pos (by simp only [Bool.and_eq_true,decide_eq_true_eq];omega)];done)
       |(rw [if_neg (by simp only [Bool.and_eq_true,decide_eq_true_eq];omega)];done)
     ·refine .gT rfl rfl ?_
      refine .z (zfa jO) ?_
      refine .gT rfl rfl ?_
      refine .y hs (zld af) ?_
      refine .gT rfl rfl ?_
      refine .o (.call A1 rfl (fA hs) ?_);rintro _ w ⟨rfl,hs⟩
      refine .gT rfl rfl ?_
      refine .z iD (.z zpF (.nil ?_))
      refine (.cond rfl (fun hc40=>?_) (fun hc40=>?_))
      ·refine .aj (.z zg (.nil ?_))
       refine .ret (rT (Fin.bK mM rfl ?_))
       (try simp only [ja] at*)
       (try simp only [ik] at*)
       refine ⟨congrArg I ?_,hs.out⟩
       unfold Lim.ok
       first
        |(rw [if_pos (by simp only [Bool.and_eq_true,decide_eq_true_eq];omega)];done)
        |(rw [if_neg (by simp only [Bool.and_eq_true,decide_eq_true_eq];omega)];done)
      ·refine .skip ?_
       refine nT ?_
       refine .aj (.z zg (.nil ?_))
       refine .ret (Fin.bK mM rfl ?_)
       (try simp only [ja] at*)
       (try simp only [ik] at*)
       refine ⟨congrArg I ?_,hs.out⟩
       unfold Lim.ok
       first
        |(rw [if_pos (by simp only [Bool.and_eq_true,decide_eq_true_eq];omega)];done)
        |(rw [if_neg (by simp only [Bool.and_eq_true,decide_eq_true_eq];omega)];done)
theorem mG{v:Value}{s:dj}(hs:St H w σ)(hr:RSy H v s):Cl Tryz.prog 182 [v] w fun v w'=>v=I s.check∧St H w' σ:=by
 obtain ⟨u,rfl,hr⟩:=hr
 obtain ⟨a,c,rfl⟩:=RL.shape hr
 have hlen:=(RS.len (RS.GJ hr (Nat.le_refl _) (cap':=s.bU.length))).2.2
 refine Cl.o Tryz.func182 Tryz.ntmps182 ag1 ?_
 refine .aj ?_
 refine .bx hs fun b1 w hs=>?_
 refine .z zg (.nil (.seq (.aj (.z (zfa bA) (.y hs (zld af) ?_)))))
 refine .o (.call A1 rfl (fA hs) ?_);rintro _ w ⟨rfl,hs⟩
 refine .z iD (.nil ?_)
 refine (.cond rfl (fun hc8=>?_) (fun hc8=>?_))
 ·refine .aj (.z zg (.nil ?_))
  refine .ret (rT (Fin.bK Tryz.results182 rfl ?_))
  exact ⟨congrArg I (by unfold dj.check;rw [if_pos (by simp at hc8;omega)]),hs.out⟩
 ·refine .skip ?_
  refine nT ?_
  refine .seq (.aj (.z (zfa bh) (.y hs (zld bT) (.z (cN aH) (.z kD (.nil ?_))))))
  refine (.bJ rfl (fun hc12=>?_) (fun hc12=>?_))
  ·refine .aj (.z zg (.nil ?_))
   refine .ret (rT (Fin.bK Tryz.results182 rfl ?_))
   exact ⟨congrArg I (by unfold dj.check;rw [if_neg (by simpa using hc8),if_pos ak]),hs.out⟩
  ·refine .skip ?_
   refine nT ?_
   refine .seq (.aj (.z (zfa bh) (.y hs (zld bT) (.z (cN aH) (.z zm (.nil ?_))))))
   refine .for (N:=s.bU.length) (J:=fun k fr w=>fr=[(14,.slice a s.bU.length c),(1,.pointer (some ⟨b1,0,none⟩))]∧(∀j<k,∀l,s.bU[j]? =some l→l.ok s.many=true)∧St H w (.blk b1 [I s.many,.slice a s.bU.length c]::σ)) ak ?_ ?_ ?_
   ·exact .mk ⟨rfl,fun j hj=>by omega,hs⟩
   ·rintro k fr w hk ⟨rfl,hno,hs⟩
    obtain ⟨x,hx⟩:=nth (l:=s.bU) hk
    refine .block (.aj ?_)
    refine .ixX (enc:=Lim.c) hs hr rfl rfl aH aQ hx rfl ?_;intro b18 o18 hc18
    refine .q hs (cj (vs:=x.c) rfl dS aQ hc18) ?_
    refine .o (.alloc hs eG rfl fun b4 w hs=>?_)
    refine .o (.aZ (vs:=x.c) hs rfl rfl aQ fun w hs=>?_)
    refine .nil (.aj (.z (zfa bA) (.y hs (zld af) ?_)))
    refine .q hs (kN (vs:=x.c) rfl dS aQ) ?_
    refine .o (.call Tryz.call232 rfl (nz hs) ?_);rintro _ w ⟨rfl,hs⟩
    have hmm:0≤s.many∧s.many≤64:=by simpa using hc8
    rw [show (decide (0≤s.many∧s.many≤64)&&x.ok s.many)=x.ok s.many by rw [decide_eq_true hmm];rfl]
    refine .z gP (.nil ?_)
    refine (.eI rfl (fun hc24=>?_) (fun hc24=>?_))
    ·refine .aj (.z zg (.nil ?_))
     refine .ret (rB (rT (rB (rT (Fin.bK Tryz.results182 rfl ?_)))))
     exact ⟨congrArg I (by
      have hx0:x.ok s.many=false:=by cases e:x.ok s.many with|false=>rfl|true=>rw [e] at hc24;simp at hc24
      unfold dj.check;rw [if_neg (by simpa using hc8),if_neg ak,if_pos (List.any_eq_true.2 ⟨x,List.mem_of_getElem? hx,by rw [hx0];rfl⟩)]),hs.out⟩
    ·refine .skip ?_
     refine nB (nT ?_)
     exact .mk ⟨rfl,fl hno hx (by cases e:x.ok s.many with|true=>rfl|false=>rw [e] at hc24;simp at hc24),hs.tail⟩
   ·rintro fr w ⟨rfl,hno,hs⟩
    refine nT ?_
    refine .aj (.z zg (.nil ?_))
    refine .ret (Fin.bK Tryz.results182 rfl ?_)
    exact ⟨congrArg I (by
     have hall:(s.bU.any fun l=> !l.ok s.many)=false:=by
      simp only [List.any_eq_false,Bool.not_eq_true',Bool.not_eq_false]
      intro l hl
      obtain ⟨j,hj⟩:=List.getElem?_of_mem hl
      exact hno j (List.getElem?_eq_some_iff.1 hj).1 l hj
     unfold dj.check;rw [if_neg (by simpa using hc8),if_neg ak,hall];rfl),hs.out⟩
theorem sG{v:Value}{ws:List Int}(hs:St H w σ)(hr:RI H v ws):Cl Tryz.prog 271 [v] w fun v w'=>∃b,v= .bool b∧(b=true↔gM ws)∧St H w' σ:=by
 obtain ⟨a,c,rfl⟩:=RI.shape hr
 have hl:=(RI.len hr).2.2
 refine Cl.o Tryz.func271 Tryz.ntmps271 ag1 ?_
 refine .aj (.z zg (.nil (.aj (.z zg (.nil (.seq (.aj (.z zm (.z (cN ae) ?_)))))))))
 refine .z zm (.nil ?_)
 refine .for (N:=ws.length) (J:=fun k fr w=>fr=[(6,.slice a ws.length c),(3,I (bL ws k))]∧bL ws k≤3600000000000∧St H w σ) ak ?_ ?_ ?_
 ·exact .mk ⟨rfl,by simp [bL,bu],hs⟩
 ·rintro k fr w hk ⟨rfl,hle,hs⟩
  have hx:=bE hk
  have h0:0≤bL ws k:=dm fun v _=>by omega
  have h1:bL ws (k+1)=bL ws k+max (gi ws k) (-gi ws k):=rfl
  refine .block (.aj ?_)
  first|(refine .ixv hs ae ai ?_;intro b10 o10 hc10)|refine .z (zix ae ai) ?_
  refine .y hs (zld af) (.z zg (.nil (.seq (.aj (.z zm (.z fD (.z zm ?_)))))))
  refine .iB (t':=14) rfl (fun hb14=>?_) (fun hb14=>?_)
  ·refine .gFs 2 2 false rfl rfl rfl ?_
   refine .z zpT (.nil ?_)
   refine (.cT ?_)
   refine .aj (.z zg (.nil ?_))
   refine .ret (rT (rB (rT (rB (rT (Fin.bK Tryz.results271 rfl ?_))))))
   exact ⟨false,rfl,⟨fun h=>(by cases h),fun h=>(lT (k:=k+1) hk (by simp only [FF];omega) h).elim⟩,hs⟩
  ·refine .gT rfl rfl ?_
   refine .z zm ?_
   refine .gT rfl rfl ?_
   refine .z kD (.z zpF (.nil ?_))
   refine (.bJ rfl (fun hc17=>?_) (fun hc17=>?_))
   ·refine .aj (.z zg (.nil ?_))
    refine .ret (rT (rB (rT (rB (rT (Fin.bK Tryz.results271 rfl ?_))))))
    exact ⟨false,rfl,⟨fun h=>(by cases h),fun h=>(lT (k:=k+1) hk (by simp only [FF];omega) h).elim⟩,hs⟩
   ·refine .skip ?_
    refine nT ?_
    refine .aj (.z zm (.z zm (.z zm (.z zv (.z CJ (.z cH (.z zg (.nil (.aj ?_)))))))))
    refine .z zm (.z kD (.nil ?_))
    refine (.bJ rfl (fun hc25=>?_) (fun hc25=>?_))
    ·refine .aj (.z zg (.nil ?_))
     refine .ret (rB (rT (rB (rT (Fin.bK Tryz.results271 rfl ?_)))))
     exact ⟨false,rfl,⟨fun h=>(by cases h),fun h=>(lT (k:=k+1) hk (by simp only [FF];omega) h).elim⟩,hs⟩
    ·refine .skip ?_
     refine nB (nT ?_)
     exact .mk ⟨rfl,ak,hs⟩ (hs:= .cons rfl (.cons rfl (.cons rfl (.cn rfl ak (.nil rfl rfl)))))
 ·rintro fr w ⟨rfl,hle,hs⟩
  refine nT ?_
  refine .aj (.z zg (.nil ?_))
  refine .ret (Fin.bK Tryz.results271 rfl ?_)
  exact ⟨true,rfl,⟨fun _=>hle,fun _=>rfl⟩,hs⟩
theorem qd{v vw:Value}{s:dj}{ws:List Int}(hs:St H w σ)(hr:RSy H v s)(hrw:RI H vw ws)(hm:0≤s.many∧s.many≤64):Cl Tryz.prog 225 [v,vw] w fun v w'=>∃b,v= .bool b∧(b=true↔(ws.length=s.n∧gM ws))∧St H w' σ:=by
 obtain ⟨u,rfl,hr⟩:=hr
 obtain ⟨aw,cw,rfl⟩:=RI.shape hrw
 have hn:(s.n:Int)=s.many+1:=by simp only [dj.n];omega
 refine Cl.o Tryz.func225 Tryz.ntmps225 ag2 ?_
 refine .aj ?_
 refine .bx hs fun b2 w hs=>?_
 refine .z zg (.nil (.aj (.z zm (.z (cN ae) (.z (zfa bA) (.y hs (zld af) (.z cH (.z fw (.z zm ?_)))))))))
 refine .iB (t':=11) rfl (fun hb11=>?_) (fun hb11=>?_)
 ·refine .gT rfl rfl ?_
  refine .z zm ?_
  refine .gT rfl rfl ?_
  refine .o (.call Tryz.call271 rfl (sG hs hrw) ?_);rintro _ w ⟨b,rfl,hb,hs⟩
  refine .z zpT (.z zg (.nil ?_))
  refine .ret (Fin.bK Tryz.results225 rfl ?_)
  first
   |exact ⟨b,rfl,⟨fun h=>⟨ak,hb.1 h⟩,fun h=>hb.2 h.2⟩,hs.out⟩
   |exact ⟨false,rfl,⟨fun h=>(by cases h),fun h=>by omega⟩,hs.out⟩
 ·refine .gFs 2 6 true rfl rfl rfl ?_
  refine .z zpF (.z zg (.nil ?_))
  refine .ret (Fin.bK Tryz.results225 rfl ?_)
  first
   |exact ⟨b,rfl,⟨fun h=>⟨ak,hb.1 h⟩,fun h=>hb.2 h.2⟩,hs.out⟩
   |exact ⟨false,rfl,⟨fun h=>(by cases h),fun h=>by omega⟩,hs.out⟩
theorem sI{v vw:Value}{s:dj}{ws:List Int}(hs:St H w σ)(hr:RSy H v s)(hrw:RI H vw ws):Cl Tryz.prog 170 [v,vw] w fun v w'=>v=I (eP s ws)∧St H w' σ:=by
 obtain ⟨u,rfl,hr⟩:=hr
 obtain ⟨al,cl,rfl⟩:=RL.shape hr
 obtain ⟨aw,cw,rfl⟩:=RI.shape hrw
 refine Cl.o Tryz.func170 Tryz.ntmps170 ag2 ?_
 refine .aj ?_
 refine .bx hs fun b2 w hs=>?_
 refine .z zg (.nil (.aj (.y hs (zls [_,_] bp aM) ?_)))
 refine .o (.call Tryz.call182 rfl (mG (s:=s) hs ⟨_,rfl,hr⟩) ?_);rintro _ w ⟨rfl,hs⟩
 refine .z zg (.nil (.seq (.aj (.z zm (.z fw (.z zm ?_))))))
 refine .iB (t':=10) rfl (fun hb10=>?_) (fun hb10=>?_)
 ·refine .gT rfl rfl ?_
  have hok:=s.cD.1 hb10
  have hm0:=hok.m0;have hm1:=hok.m1
  refine .y hs (zls [_,_] bp aM) ?_
  refine .gT rfl rfl ?_
  refine .z zm ?_
  refine .gT rfl rfl ?_
  refine .o (.call Tryz.call225 rfl (qd (s:=s) hs ⟨_,rfl,hr⟩ hrw ⟨hm0,hm1⟩) ?_);rintro _ w ⟨b,rfl,hb,hs⟩
  refine .gT rfl rfl ?_
  refine .z iD (.z zpT (.nil ?_))
  refine (.cond rfl (fun hc15=>?_) (fun hc15=>?_))
  ·refine .region (.z zg (.nil ?_))
   refine nT ?_
   refine .aj (.z zm (.z zg (.nil ?_)))
   refine .ret (Fin.bK Tryz.results170 rfl ?_)
   refine ⟨congrArg I ?_,hs.out⟩
   unfold eP
   first
    |(rw [if_neg ak,if_neg (fun h=>by have:=hb.2 h;simp_all)];done)
    |(rw [if_neg ak,if_pos (hb.1 (by simpa using hc15))];omega)
    |(rw [if_pos cZ];done)
  ·refine .skip ?_
   refine nT ?_
   refine .aj (.z zm (.z zg (.nil ?_)))
   refine .ret (Fin.bK Tryz.results170 rfl ?_)
   refine ⟨congrArg I ?_,hs.out⟩
   unfold eP
   first
    |(rw [if_neg ak,if_neg (fun h=>by have:=hb.2 h;simp_all)];done)
    |(rw [if_neg ak,if_pos (hb.1 (by simpa using hc15))];omega)
    |(rw [if_pos cZ];done)
 ·refine .gFs 4 2 true rfl rfl rfl ?_
  refine .z zpF (.nil ?_)
  refine (.cF ?_)
  refine .skip ?_
  refine nT ?_
  refine .aj (.z zm (.z zg (.nil ?_)))
  refine .ret (Fin.bK Tryz.results170 rfl ?_)
  refine ⟨congrArg I ?_,hs.out⟩
  unfold eP
  first
   |(rw [if_neg ak,if_neg (fun h=>by have:=hb.2 h;simp_all)];done)
   |(rw [if_neg ak,if_pos (hb.1 (by simpa using hc15))];omega)
   |(rw [if_pos cZ];done)
theorem pq{v:Value}{ws:List Int}(hs:St H w σ)(hr:RI H v ws)(hl:ws.length≤1000)(hz:gM ws):Cl Tryz.prog 228 [v] w fun u w'=>∃H1,HLe H H1∧RI H1 u (uQ ws)∧St H1 w' σ:=by
 obtain ⟨a,c,rfl⟩:=RI.shape hr
 have hFF:FF=3600000000000:=rfl
 unfold gM at hz
 refine Cl.o Tryz.func228 Tryz.ntmps228 ag1 ?_
 refine .aj (.z zg (.nil (.aj (.z zg (.nil (.seq (.aj (.z zm (.z (cN ae) ?_)))))))))
 refine .z zm (.nil ?_)
 refine .for (N:=ws.length) (J:=fun k fr w=>∃v3 en,cz 1 v3 (Is (uQ (ws.take k))) en∧fr=[(3,v3),(6,.slice a ws.length c)]∧St H w (en::σ)) ak ?_ ?_ ?_
 ·exact .mk ⟨_,_,.nil 1 none,rfl,hs.nul⟩
 ·rintro k fr w hk ⟨v3,en,hO,rfl,hs⟩
  have hx:=bE hk
  have hsz:=iU ws (v:=k) (n:=ws.length) hk
  refine .block (.aj ?_)
  refine .ixY hs hr rfl rfl ae ai hx rfl ?_;intro b10 o10 hc10
  refine .q hs (aO rfl af hc10) ?_
  refine .z zg (.nil (.region (.z zm (.z zm (.z zv ?_)))))
  refine .o (.buildSlice (cells:=[_]) hs bX rfl rfl fun b15 w hs=>?_)
  refine .o (.append (ys:=[I (-gi ws k)]) hs bg rfl rfl hO (.own .here rfl rfl) (by simp [Value.oneCell']) (fun l' h=>by simp [uQ] at h;omega) ?_);intro v16 en16 w hO2 hs
  refine .z zg (.nil ?_)
  refine nB (nT ?_)
  exact .mk ⟨v16,en16,by rw [df hx];simpa [uQ] using hO2,rfl,hs.sb⟩
 ·rintro fr w ⟨v3,en,hO,rfl,hs⟩
  rw [List.take_length] at hO
  refine nT ?_
  refine .aj (.z zm (.z zg (.nil ?_)))
  refine .ret (Fin.bK Tryz.results228 rfl ?_)
  obtain ⟨H2,g1,g2,hs⟩:=hO.cK (by simp [uQ];omega) hs .here
  exact ⟨H2,g1,g2,hs⟩
theorem nx{vm vw:Value}{s:dj}{Ms:List (List Int)}{ws:List Int}(hs:St H w σ)(hM:RT H vm Ms)(hqM:Sq s.n Ms)(hT:jc s.n s.dG (gt Ms))(hrw:RI H vw ws)(hA:eP s ws=0):
  Cl Tryz.prog 227 [vm,vw] w fun u w'=>∃H1 n e,HLe H H1∧u= .tuple #[I n,I e]∧m6 s ws n e∧St H1 w' σ:=by
 obtain ⟨hok,hwl,hz⟩:=kT hA
 have hinn:=hok.inn
 have hn65:=hok.n65
 have hnp:=s.AJ
 obtain ⟨fs,hF⟩:=Av s.n (gt Ms)
 have hsd:=vH hok hT
 have hz2:bL ws s.n≤FF:=by unfold gM at hz;rwa [hwl] at hz
 refine Cl.o Tryz.func227 Tryz.ntmps227 ag2 ?_
 refine .aj (.z zg (.z zg (.nil (.seq (.aj (.z zm ?_))))))
 refine .o (.call Tryz.call233 rfl (mE hs hM hqM ak) ?_);rintro _ w ⟨b,rfl,hb,hs⟩
 refine .z iD (.nil ?_)
 refine (.cond rfl (fun hc10=>?_) (fun hc10=>?_))
 ·refine .aj (.z zg (.z zg (.nil ?_)))
  refine .ret (rT (Fin.jx Tryz.results227 rfl rfl ?_))
  have hb0:b=false:=by simpa using hc10
  exact ⟨H,0,23,HLe.refl H,rfl,uh hA (fun h=>by have:=hb.2 (hsd.1 h);rw [hb0] at this;cases this),hs⟩
 ·refine .skip ?_
  refine nT ?_
  refine .aj (.z zm (.z zm ?_))
  have hso:s.Sound:=hsd.2 (hb.1 (by simpa using hc10))
  refine .o (.call Tryz.call272 rfl (sK (n:=s.many.toNat) (es:=fs) hs hM hqM hrw hwl hn65 hz2 hF (by obtain ⟨p,hp⟩:=hso;exact ⟨p,(hT.xm hinn hF).2 hp⟩)
   (fun x hx=>by
    obtain ⟨b1,b2,b3,b4,b5⟩:=hF.ok x hx
    have h1:=hT.up x.f x.t b1 b2 (by rw [b4];exact b5)
    have h2:=hT.low hnp hn65 hinn hso b1 b2 (by rw [b4];exact b5)
    rw [b4] at h1 h2
    exact ⟨h2,h1⟩)
   (fun m hm=>by
    have:=(hok.bd hwl hz ((hT.opt hinn hF).1 hm)).2
    exact ⟨this.2,this.1⟩)) ?_);rintro _ w ⟨H1,n,ok,hle1,rfl,hcase,hs⟩
  refine .z zm (.z zex (.z zex (.z zg (.z zg (.nil (.seq (.aj (.z zm (.z iD ?_)))))))))
  refine .nil ?_
  refine (.cond rfl (fun hc18=>?_) (fun hc18=>?_))
  ·refine .aj (.z zg (.z zg (.nil ?_)))
   refine .ret (rT (Fin.jx Tryz.results227 rfl rfl ?_))
   have hk0:ok=false:=by simpa using hc18
   rcases hcase with ⟨h,_⟩|⟨_,h⟩
   ·rw [hk0] at h;cases h
   ·exact ⟨H1,0,22,hle1,rfl,AL hA hso hT hF h,hs⟩
  ·refine .skip ?_
   refine nT ?_
   refine .aj (.z zm (.z zg (.z zg (.nil ?_))))
   refine .ret (Fin.jx Tryz.results227 rfl rfl ?_)
   have hk0:ok=true:=by simpa using hc18
   rcases hcase with ⟨_,h⟩|⟨h,_⟩
   ·exact ⟨H1,n,0,hle1,rfl,BX hA hT hF h,hs⟩
   ·rw [hk0] at h;cases h
theorem tS{v vw:Value}{s:dj}{ws:List Int}(hs:St H w σ)(hr:RSy H v s)(hrw:RI H vw ws)(hA:eP s ws=0):
  Cl Tryz.prog 171 [v,vw] w fun u w'=>∃H1 lo hi e,HLe H H1∧u= .tuple #[I lo,I hi,I e]∧gy s ws lo hi e∧St H1 w' σ:=by
 obtain ⟨u,rfl,hr⟩:=hr
 obtain ⟨al,cl,rfl⟩:=RL.shape hr
 obtain ⟨hok,hwl,hz⟩:=kT hA
 have hn65:=hok.n65
 have hBB:BB=4608000000000000000:=rfl
 refine Cl.o Tryz.func171 Tryz.ntmps171 ag2 ?_
 refine .aj ?_
 refine .bx hs fun b2 w hs=>?_
 refine .z zg (.z zg (.z zg (.nil (.aj (.y hs (zls [_,_] bp aM) ?_)))))
 refine .o (.call Tryz.call226 rfl (ny (s:=s) hs ⟨_,rfl,hr⟩ hok) ?_);rintro _ w ⟨H1,Ms,hle1,hM,hqM,hT,hs⟩
 refine .z zg (.nil (.aj (.z zm (.z zm ?_))))
 refine .o (.call Tryz.call227 rfl (nx (s:=s) hs hM hqM hT (hrw.mono hle1) hA) ?_);rintro _ w ⟨H2,n,e,hle2,rfl,hR,hs⟩
 refine .z zm (.z zex (.z zex (.z zg (.z zg (.nil (.seq (.aj (.z zm (.z gP ?_)))))))))
 refine .nil ?_
 refine (.eI rfl (fun hc20=>?_) (fun hc20=>?_))
 ·refine .aj (.z zm (.z zg (.z zg (.z zg (.nil ?_)))))
  refine .ret (rT (Fin.Ep Tryz.results171 rfl rfl rfl ?_))
  exact ⟨H2,0,0,e,hle1.trans hle2,rfl,.first hR hc20,hs.out⟩
 ·refine .skip ?_
  refine nT ?_
  refine .aj (.z zm (.z zm ?_))
  obtain rfl:e=0:=by simpa using hc20
  refine .o (.call Tryz.call228 rfl (pq hs ((hrw.mono hle1).mono hle2) ak hz) ?_);rintro _ w ⟨H3,hle3,hN,hs⟩
  refine .o (.call Tryz.call227 rfl (nx (s:=s) (ws:=uQ ws) hs ((hM.mono hle2).mono hle3) hqM hT hN (by rw [rZ];exact hA)) ?_);rintro _ w ⟨H4,n2,e2,hle4,rfl,hR2,hs⟩
  refine .z zm (.z zex (.z zex (.z zg (.z zg (.nil (.seq (.aj (.z zm (.z gP ?_)))))))))
  refine .nil ?_
  refine (.eI rfl (fun hc30=>?_) (fun hc30=>?_))
  ·refine .aj (.z zm (.z zg (.z zg (.z zg (.nil ?_)))))
   refine .ret (rT (Fin.Ep Tryz.results171 rfl rfl rfl ?_))
   exact ⟨H4,0,0,e2,hle1.trans (hle2.trans (hle3.trans hle4)),rfl,.second hR hR2 hc30,hs.out⟩
  ·refine .skip ?_
   refine nT ?_
   refine .aj (.z zm ?_)
   obtain rfl:e2=0:=by simpa using hc30
   have hbd:=(hR2.2.2 rfl).2
   refine .z zv (.z zm (.z zg (.z zg (.z zg (.nil ?_)))))
   refine .ret (Fin.Ep Tryz.results171 rfl rfl rfl ?_)
   exact ⟨H4,-n2,n,0,hle1.trans (hle2.trans (hle3.trans hle4)),rfl,.ok hR hR2,hs.out⟩
theorem sJ{v vw:Value}{s:dj}{ws:List Int}(hs:St H w σ)(hr:RSy H v s)(hrw:RI H vw ws):
  Cl Tryz.prog 88 [v,vw] w fun u w'=>∃H1 lo hi e,HLe H H1∧u= .tuple #[I lo,I hi,I e]∧gy s ws lo hi e∧St H1 w' σ:=by
 obtain ⟨u,rfl,hr⟩:=hr
 obtain ⟨al,cl,rfl⟩:=RL.shape hr
 obtain ⟨aw,cw,rfl⟩:=RI.shape hrw
 refine Cl.o Tryz.func88 Tryz.ntmps88 ag2 ?_
 refine .aj ?_
 refine .bx hs fun b2 w hs=>?_
 refine .z zg (.z zg (.z zg (.nil (.aj (.y hs (zls [_,_] bp aM) (.z zm ?_))))))
 refine .o (.call Tryz.call170 rfl (sI (s:=s) hs ⟨_,rfl,hr⟩ hrw) ?_);rintro _ w ⟨rfl,hs⟩
 refine .z zg (.nil (.seq (.aj (.z zm (.z gP (.nil ?_))))))
 refine (.eI rfl (fun hc12=>?_) (fun hc12=>?_))
 ·refine .aj (.z zm (.z zg (.z zg (.z zg (.nil ?_)))))
  refine .ret (rT (Fin.Ep Tryz.results88 rfl rfl rfl ?_))
  exact ⟨H,0,0,_,HLe.refl H,rfl,.first ⟨.bad hc12,fun _=>rfl,fun h=>(hc12 h).elim⟩ hc12,hs.out⟩
 ·refine .skip ?_
  refine nT ?_
  refine .aj (.y hs (zls [_,_] bp aM) (.z zm ?_))
  have hA:eP s ws=0:=by simpa using hc12
  refine .o (.call Tryz.call171 rfl (tS (s:=s) hs ⟨_,rfl,hr⟩ hrw hA) ?_);rintro _ w ⟨H1,lo,hi,e,hle1,rfl,hR,hs⟩
  refine .z zex (.z zex (.z zex (.z zg (.z zg (.z zg (.nil ?_))))))
  refine .ret (Fin.Ep Tryz.results88 rfl rfl rfl ?_)
  exact ⟨H1,lo,hi,e,hle1,rfl,hR,hs.out⟩
theorem lj{v:Value}{l:List Int}{en:Ent}(hs:St H w (en::σ))(ho:cz 1 v (Is l) en)(hl:l.length≤1000000):
  Cl Tryz.prog 128 [v] w fun _ w'=>∃en',cz 1 v (Is l.reverse) en'∧St H w' (en'::σ):=by
 rcases ho with ⟨a,rfl,h2,rfl⟩|⟨b,len,cap,sp,rfl,rfl,h2,h3,h4⟩
 ·obtain rfl:l=[]:=by
   have:=congrArg List.length h2
   exact List.length_eq_zero_iff.1 (by simpa using this)
  have hs:=hs.tail
  refine Cl.o Tryz.func128 Tryz.ntmps128 ag1 ?_
  refine .aj (.z zm (.z (cN ae) (.z gO (.z zg (.z zg (.nil (.block ?_)))))))
  refine .loop (fun _:Unit=>⟨28,[],[(2,I 0),(3,I (-1))]⟩) (fun _ w=>St H w σ) (fun _=>0) () a8 hs ?_
  rintro _ w hs
  refine .seq (.aj (.z zm (.z zm (.z fD (.nil ?_)))))
  refine (.bJ rfl (fun hc9=>?_) (fun hc9=>?_))
  ·omega
  ·refine .exit ?_
   refine xT (xT (xB ?_))
   exact Fin.yB Tryz.results128 ⟨.nul,.nil 1 a,hs.nul⟩
 obtain rfl:len=l.length:=by simpa using h2.symm
 refine Cl.o Tryz.func128 Tryz.ntmps128 ag1 ?_
 refine .aj (.z zm (.z (cN ae) (.z gO (.z zg (.z zg (.nil (.block ?_)))))))
 refine .loop (fun p:Nat×List Int=>⟨28,[],[(2,I p.1),(3,I ((l.length:Int) - 1 - p.1)),(0,.slice (some ⟨b,0,none⟩) l.length cap)]⟩) (fun p w=>(2*p.1≤l.length+1∧nR l p.2 p.1)∧St H w (.blk b (Is p.2++sp)::σ)) (fun p=>l.length - p.1) (0,l) (.cons rfl (.cn rfl bQ (.cons rfl (.nil rfl rfl)))) ⟨⟨bQ,.start l⟩,hs⟩ ?_
 rintro ⟨i,L⟩ w ⟨⟨h5,h6⟩,hs⟩
 dsimp only at h5 h6 hs ⊢
 have hL:=h6.1
 refine .seq (.aj (.z zm (.z zm (.z fD (.nil ?_)))))
 refine (.bJ rfl (fun hc9=>?_) (fun hc9=>?_))
 ·refine .skip ?_
  refine nT ?_
  refine .seq (.block ?_)
  refine .draw mix rfl hs fun w hs=>?_
  refine .z 0 rfl zm ?_;refine .z 1 rfl zm ?_;refine .z 2 rfl zm ?_;refine .z 3 rfl zm ?_;refine .z 4 rfl zm ?_;refine .z 5 rfl zm ?_
  refine .z 6 rfl (ef (k:=l.length - 1 - i) rfl rfl ae ai ak ak) ?_
  refine .load (i:=7) hs rfl aq .none rfl af ?_ (hv:=fI ak sp)
  refine .z 8 rfl zm ?_;refine .z 9 rfl zm ?_
  first|(refine .ixv 10 rfl hs ae ai ?_;intro b24 o24 hc24)|refine .z 10 rfl (zix ae ai) ?_
  refine .load (i:=11) hs rfl aq .none rfl af ?_ (hv:=fI ak sp)
  first|(refine .ixv 12 rfl hs ae ai ?_;intro b26 o26 hc26)|refine .z 12 rfl (zix ae ai) ?_
  refine .E 13 hs ?_
  refine .store hs rfl rfl ai ?_ cU (by simp;omega) (iR ak sp _);intro w hs
  refine .go ?_
  refine .z 14 rfl (ef (k:=l.length - 1 - i) rfl rfl ae ai ak ak) ?_
  refine .E 15 hs ?_
  refine .store hs rfl rfl ai ?_ cU (by simp;omega) (iR (by simp;omega) sp _);intro w hs
  refine .go ?_
  refine .D hs ?_
  refine nB (nT ?_)
  refine .region (.z zm (.z cH (.z zm (.z gO (.z zg (.z zg (.nil ?_)))))))
  refine nT ?_
  exact ⟨(i+1,_),.cons rfl (.cn rfl (by push_cast;omega) (.cons rfl (.nil rfl rfl))),⟨⟨by dsimp only;omega,h6.step ak⟩,hs⟩,by dsimp only;omega⟩
 ·refine .exit ?_
  refine xT (xT (xB ?_))
  rw [h6.done ak] at hs
  exact Fin.yB Tryz.results128 ⟨_,.inr ⟨b,l.length,cap,sp,rfl,rfl,bQ,by rw [←h3];simp,h4⟩,hs⟩
inductive FC(s:dj)(xs:List Int):Int→Prop
 |bad (h:s.check≠0) (h1:xs=[]):FC s xs s.check
 |sound (h:s.Ok) (h1:s.Sound) (h2:xs=[]):FC s xs 0
 |chain {st:BS} {x:Arc} {z k:Nat} (h:s.Ok) (h1:¬s.Sound) (h2:Gt s.n s.dG st (some x)) (h3:z=pw st.by_ x.t (s.n+1)) (h4:1≤k) (h5:k≤s.n) (h6:pw st.by_ z k=z) (h7:xs=(wL st.by_ z k).reverse):FC s xs 0
theorem FC.Bp{s:dj}{xs:List Int}(h:FC s xs 0):xs=[]↔s.Sound:=by
 generalize hz:(0:Int)=y at h
 cases h with
 |bad h=>exact (h hz.symm).elim
 |sound _ h1 h2=>exact ⟨fun _=>h1,fun _=>h2⟩
 | @chain st x z k _ h1 _ _ h4 _ _ h7=>exact ⟨fun h=>by
   have:=congrArg List.length (h7.symm.trans h)
   rw [List.length_reverse,nD] at this
   simp at this;omega,fun h=>(h1 h).elim⟩
set_option maxHeartbeats 4000000 in
theorem sP{v:Value}{s:dj}(hs:St H w σ)(hr:RSy H v s):
  Cl Tryz.prog 51 [v] w fun u w'=>∃H1 vx xs e,HLe H H1∧u= .tuple #[vx,I e]∧RI H1 vx xs∧FC s xs e∧St H1 w' σ:=by
 obtain ⟨u,rfl,hr⟩:=hr
 obtain ⟨al,cl,rfl⟩:=RL.shape hr
 refine Cl.o Tryz.func51 Tryz.ntmps51 ag1 ?_
 refine .aj ?_
 refine .bx hs fun b1 w hs=>?_
 refine .z zg (.z zg (.nil (.seq (.aj (.y hs (zls [_,_] bp aM) ?_)))))
 refine .o (.call Tryz.call125 rfl (iW (s:=s) hs ⟨_,rfl,hr⟩) ?_);rintro _ w ⟨rfl,hs⟩
 refine .z zg (.nil (.aj (.z zm (.z gP (.nil ?_)))))
 refine (.eI rfl (fun hc14=>?_) (fun hc14=>?_))
 ·refine .aj (.z zm (.z zg (.z zg (.nil ?_))))
  refine .ret (rT (Fin.jx Tryz.results51 rfl rfl ?_))
  exact ⟨H,_,[],_,HLe.refl H,rfl,RS.nil H 1 none 0,.bad hc14 rfl,hs.out⟩
 ·refine .skip ?_
  refine nT ?_
  refine .seq (.draw mix rfl hs fun w hs=>?_)
  refine .z 0 rfl (zfa bA) ?_;refine .y 1 rfl hs af ?_;refine .ys 2 rfl hs [_,_] bp aM ?_
  refine .E 3 hs ?_
  have hok:s.Ok:=s.cD.1 (by simpa using hc14)
  have hoka:=hok.dG
  have hn:s.n=s.many.toNat+1:=rfl
  have hm0:=hok.m0
  have hm1:=hok.m1
  refine .call Tryz.call127 rfl (kf (s:=s) hs hok ⟨_,rfl,hr⟩) ?_;rintro _ w ⟨H1,b10,hle1,rfl,hit,hs⟩
  refine .go ?_
  refine .E 4 hs ?_
  have hnear:=lB (N:=s.many.toNat) hs ak (by rw [←hn];exact hoka) hit Tryz.call203
  rw [Int.toNat_of_nonneg hm0] at hnear
  refine .call Tryz.call126 rfl hnear ?_;rintro _ w ⟨H2,bc,bb,st,ov,vo,hle2,rfl,hov,hnr,hs⟩
  obtain ⟨a',rfl,ha'⟩:=hov.ptr
  refine .go ?_
  refine .z 5 rfl zm ?_;refine .z 6 rfl zex ?_;refine .z 7 rfl zex ?_;refine .z 8 rfl zex ?_;refine .z 9 rfl zg ?_;refine .z 10 rfl zg ?_;refine .z 11 rfl zg ?_;refine .D hs ?_
  refine .seq (.aj (.z zm ?_))
  refine .q hs (BI rfl rfl Tryz.runUnderlying183) ?_
  refine .nil ?_
  refine (.cond rfl (fun hc26=>?_) (fun hc26=>?_))
  ·refine .aj (.z zg (.z zg (.nil ?_)))
   refine .ret (rT (Fin.jx Tryz.results51 rfl rfl ?_))
   exact ⟨H2,_,[],0,hle1.trans hle2,rfl,RS.nil H2 1 none 0,.sound hok (by
    obtain ⟨r,hN2,hr2⟩:=hnr
    cases ov with
    |none=>exact ⟨_,(hN2.sol (by rw [←hn];exact hoka) ak).1⟩
    |some x=>rw [ha'] at hc26;cases hc26) rfl,hs.out⟩
  ·refine .skip ?_
   refine nT ?_
   refine .aj (.z zm ?_)
   obtain ⟨x,rfl⟩:=OvR.yes ha' hc26
   obtain ⟨b3,e3,hrow⟩:=hov
   cases e3
   have hrowT:cellAt H2 b3 1=some (I x.t):=hrow.at 1
   have hmn:s.many+2=((s.many.toNat+2:Nat):Int):=by omega
   have hns:¬s.Sound:=by
    obtain ⟨r,hN2,hr2⟩:=hnr
    exact hN2.none (by rw [←hn];exact hoka) ak (by have:=hr2 bQ;omega)
   obtain ⟨hlb,hrg,hxt⟩:st.by_.length=s.many.toNat+1∧(∀v<s.many.toNat+1,(ga st.by_ v).f<s.many.toNat+1)∧x.t<s.many.toNat+1:=by
    obtain ⟨r,hN2,hr2⟩:=hnr
    exact ⟨hN2.lb,fun v hv=>(hN2.rg v hv).1,(hoka.2 x (hN2.ovm x rfl)).2.1⟩
   have hpl:=fun k=>wD hrg hxt k
   refine .z znc (.z (zfa dL) ?_)
   refine .q hs (aO rfl af hrowT) ?_
   refine .z zg (.nil (.seq (.aj (.z (zfa bA) (.y hs (zld af) (.z cH ?_))))))
   rw [hmn]
   refine .z zm (.nil ?_)
   refine .for (N:=s.many.toNat+2) (J:=fun k fr w=>fr=[(8,I (pw st.by_ x.t k)),(6,.slice (some ⟨bb,0,none⟩) (s.many.toNat+1) (s.many.toNat+1))]∧St H2 w (.blk bc (Is st.cost):: .blk bb (jw st.by_):: .blk b1 [I s.many,.slice al s.bU.length cl]::σ)) ak ?_ ?_ ?_
   ·exact .mk ⟨rfl,hs⟩
   ·rintro k fr w hk ⟨rfl,hs⟩
    refine .block (.region (.z zm (.z zm ?_)))
    refine .q hs (vM (k:=pw st.by_ x.t k) rfl rfl aK aP rfl (hpl k)) ?_
    refine .z (zfa dC) ?_
    refine .q hs (ed rfl af (.there .here) (qT (j:=0) (by rw [hlb];exact hpl k) gK)) ?_
    refine .z zg (.nil ?_)
    refine nB (nT ?_)
    exact .mk ⟨rfl,hs.out⟩
   ·rintro fr w ⟨rfl,hs⟩
    obtain ⟨pd,hp1,hp2,hp3⟩:=AI hrg hxt (m:=s.many.toNat+2) ak
    have hzl:=hpl (s.many.toNat+2)
    generalize hz:pw st.by_ x.t (s.many.toNat+2)=z at hp3 hzl ⊢
    have hzk:=fun k=>wD hrg hzl k
    refine nT ?_
    refine .aj (.z zg (.nil (.seq (.aj (.z zm (.z zg (.nil (.block ?_))))))))
    refine .loop (fun p:Nat×Value=>⟨62,[],[(9,p.2),(8,I (pw st.by_ z p.1)),(10,I z),(6,.slice (some ⟨bb,0,none⟩) (s.many.toNat+1) (s.many.toNat+1))]⟩)
     (fun p w=>p.1<pd∧∃en,cz 1 p.2 (Is (wL st.by_ z p.1)) en∧St H2 w (en:: .blk bc (Is st.cost):: .blk bb (jw st.by_):: .blk b1 [I s.many,.slice al s.bU.length cl]::σ))
     (fun p=>pd - p.1) (0,.slice none 0 0) a8
     ⟨ak,_,.nil 1 none,hs.nul⟩ ?_
    rintro ⟨k,v9⟩ w ⟨hk,en,hO,hs⟩
    dsimp only at hk hO ⊢
    refine .block (.aj (.z zm (.z zm (.z zm ?_))))
    refine .q hs (vM (k:=pw st.by_ z k) rfl rfl aK aP rfl (hzk k)) ?_
    refine .z (zfa eh) ?_
    refine .q hs (ed rfl af (.there (.there .here)) (qT (j:=3) (by rw [hlb];exact hzk k) gK)) ?_
    refine .o (.buildSlice (cells:=[_]) hs bX rfl rfl fun b49 w hs=>?_)
    refine .o (.append (ys:=[I (ga st.by_ (pw st.by_ z k)).l]) hs bg rfl rfl hO (.own .here rfl rfl) (by simp [Value.oneCell']) (fun l' h=>by simp [wL] at h;omega) ?_);intro v50 en50 w hO2 hs
    refine .z zg (.nil (.aj (.z zm (.z zm ?_))))
    refine .q hs (vM (k:=pw st.by_ z k) rfl rfl aK aP rfl (hzk k)) ?_
    refine .z (zfa dC) ?_
    refine .q hs (ed rfl af (by repeat (first|exact .here|refine .there ?_)) (qT (j:=0) (by rw [hlb];exact hzk k) gK)) ?_
    refine .z zg (.nil (.aj (.z zm (.z zm (.z fw (.nil ?_))))))
    refine (.bJ rfl (fun hc58=>?_) (fun hc58=>?_))
    ·refine .exit ?_
     refine xN (xT (xB (nT ?_)))
     refine .aj (.z zm ?_)
     have hO3:cz 1 v50 (Is (wL st.by_ z (k+1))) en50:=by rw [vS];simpa [Is] using hO2
     have hkz:pw st.by_ z (k+1)=z:=by
      have h3:((ga st.by_ (pw st.by_ z k)).f:Int)=z:=by simpa using hc58
      show (ga st.by_ (pw st.by_ z k)).f=z
      omega
     refine .o (.call Tryz.call128 rfl (lj hs hO3 (by rw [nD];omega)) ?_);rintro _ w ⟨en',hO4,hs⟩
     refine .nil (.aj (.z zm (.z zg (.z zg (.nil ?_)))))
     refine .ret (Fin.jx Tryz.results51 rfl rfl ?_)
     obtain ⟨H3,hle3,hRI,hs⟩:=cz.cK hO4 (by rw [List.length_reverse,nD];omega) hs .here
     exact ⟨H3,_,_,0,hle1.trans (hle2.trans hle3),rfl,hRI,.chain hok hns (by rw [hn];exact hnr) (by rw [hn];exact hz.symm) ak ak hkz rfl,hs.sb⟩
    ·refine .skip ?_
     refine nB (nT ?_)
     exact ⟨(k+1,v50),a8,⟨by
      dsimp only
      have:k+1≠pd:=fun e=>hc58 (congrArg (Nat.cast:Nat→Int) (show pw st.by_ z (k+1)=z by rw [e];exact hp3))
      omega,en50,by rw [vS];simpa [Is] using hO2,hs.sb⟩,by dsimp only;omega⟩
structure Cz(s:dj)(x:List Int):Prop where
 len:x.length=s.n
 zero:gi x 0=0
 free:∀v<s.n,-1000000000≤gi x v∧gi x v≤1000000000
 xm:ia s.dG (gi x)
theorem mF{v:Value}{s:dj}(hs:St H w σ)(hr:RSy H v s):
  Cl Tryz.prog 210 [v] w fun u w'=>∃H1 vt e,HLe H H1∧u= .tuple #[vt,I e]∧((s.check≠0∧e=s.check∧vt= .slice none 0 0)∨(s.Ok∧¬s.Sound∧e=23∧vt= .slice none 0 0)∨(s.Ok∧s.Sound∧e=0∧∃rs,RT H1 vt rs∧Sq s.n rs∧jc s.n s.dG (gt rs)))∧St H1 w' σ:=by
 obtain ⟨ul,rfl,hl⟩:=hr
 obtain ⟨al,cl,rfl⟩:=RL.shape hl
 refine Cl.o Tryz.func210 Tryz.ntmps210 ag1 ?_
 refine .aj ?_
 refine .bx hs fun b1 w hs=>?_
 refine .z zg (.z zg (.nil (.aj (.y hs (zls [_,_] bp aM) ?_))))
 refine .o (.call Tryz.call182 rfl (mG (s:=s) hs ⟨_,rfl,hl⟩) ?_);rintro _ w ⟨rfl,hs⟩
 refine .z zg (.nil (.seq (.aj (.z zm (.z gP (.nil ?_))))))
 refine (.eI rfl (fun hc9=>?_) (fun hc9=>?_))
 ·refine .aj (.z zm (.z zg (.z zg (.nil ?_))))
  refine .ret (rT (Fin.jx Tryz.results210 rfl rfl ?_))
  exact ⟨H,_,_,HLe.refl H,rfl,.inl ⟨hc9,rfl,rfl⟩,hs.out⟩
 ·refine .skip ?_
  refine nT ?_
  refine .aj (.y hs (zls [_,_] bp aM) ?_)
  have hok:s.Ok:=s.cD.1 (by simpa using hc9)
  have hm1:=hok.m1
  refine .o (.call Tryz.call226 rfl (ny (s:=s) hs ⟨_,rfl,hl⟩ hok) ?_);rintro v12 w ⟨H1,rs,hle1,hRT,hSq,hWT,hs⟩
  obtain ⟨at',ct,rfl⟩:=hRT.shape
  refine .z zg (.nil (.seq (.aj (.z zm ?_))))
  refine .o (.call Tryz.call233 rfl (mE hs hRT hSq (by simp only [dj.n];omega)) ?_);rintro _ w ⟨b,rfl,hb,hs⟩
  have hbs:=hb.trans (vH hok hWT).symm
  refine .z iD (.nil ?_)
  refine (.cond rfl (fun hc15=>?_) (fun hc15=>?_))
  ·refine .aj (.z zg (.z zg (.nil ?_)))
   refine .ret (rT (Fin.jx Tryz.results210 rfl rfl ?_))
   exact ⟨H1,_,_,hle1,rfl,.inr (.inl ⟨hok,fun h=>by simp [hbs.2 h] at hc15,rfl,rfl⟩),hs.out⟩
  ·refine .skip ?_
   refine nT ?_
   refine .aj (.z zm (.z zg (.z zg (.nil ?_))))
   refine .ret (Fin.jx Tryz.results210 rfl rfl ?_)
   exact ⟨H1,_,_,hle1,rfl,.inr (.inr ⟨hok,hbs.1 (by simpa using hc15),rfl,rs,hRT,hSq,hWT⟩),hs.out⟩
end Go.Proofs.YtddaejgfjlneoaaGreat
namespace Go.Proofs.YtddaejgfjlneoaaGreat
open Go.MW
inductive GF(s:dj)(x:List Int):Int→Prop
 |bad (h:s.check≠0):GF s x s.check
 |off (h:s.Ok) (h1:¬Cz s x):GF s x 25
 |ok (h:s.Ok) (h1:Cz s x):GF s x 0
end Go.Proofs.YtddaejgfjlneoaaGreat
namespace Go.Proofs.YtddaejgfjlneoaaGreat
open Go.MW
variable{H:cE}{w:World}{σ:List Ent}
theorem xg{v:Value}{ls:List Int}{g:Nat}{cap:List Value}{q:Int→Prop}(hs:St H w σ)(hr:RI H v ls)
  (hc:∀args w,(callFunc g args).run Tryz.prog w= .ok (.enter g args) w) (hp:∀w l,St H w σ→Cl Tryz.prog g ([I l]++cap) w fun u w'=>∃b,u= .bool b∧(b=true↔q l)∧St H w' σ):
  Cl Tryz.prog 206 [v,.func (.func g) #[] cap.toArray] w fun u w'=>∃i,u=I i∧(0≤i↔∃p∈ls,q p)∧St H w' σ:=by
 obtain ⟨a,c,rfl⟩:=RI.shape hr
 have hl:=(RI.len hr).2.2
 refine Cl.o Tryz.func206 Tryz.ntmps206 ag2 ?_
 refine .aj (.z zg (.nil (.seq (.aj (.z zm (.z (cN ae) (.z zm (.nil ?_))))))))
 refine .for (N:=ls.length) (J:=fun k fr w=>fr=[(1,.func (.func g) #[] cap.toArray),(0,.slice a ls.length c)]∧St H w σ∧∀j<k,∀l,ls[j]? =some l→¬q l) ak ?_ ?_ ?_
 ·exact .mk ⟨rfl,hs,fun j hj=>by omega⟩
 ·rintro k fr w hk ⟨rfl,hs,hno⟩
  obtain ⟨l,hl⟩:=nth hk
  refine .block (.aj (.z zm (.z zg (.nil (.aj (.z zm (.z zm (.z zm ?_))))))))
  first|(refine .ixv hs ae ai ?_;intro b14 o14 hc14)|refine .z (zix ae ai) ?_
  refine .y hs (zld af) ?_
  refine .o (.pH (first:=[]) rfl rfl hc (hp _ _ hs) ?_);rintro _ w ⟨b16,rfl,hb16,hs⟩
  refine .nil ?_
  refine (.cond rfl (fun hc16=>?_) (fun hc16=>?_))
  ·refine .aj (.z zm (.z zg (.nil ?_)))
   refine .ret (rB (rT (rB (rT (Fin.bK sW rfl ?_)))))
   exact ⟨_,rfl,⟨fun _=>⟨l,List.mem_of_getElem? hl,hb16.1 hc16⟩,fun _=>by omega⟩,hs⟩
  ·refine .skip ?_
   refine nB (nT ?_)
   exact .mk ⟨rfl,hs,fl hno hl (fun h=>by rw [hb16.2 h] at hc16;cases hc16)⟩
 ·rintro fr w ⟨rfl,hs,hno⟩
  refine nT ?_
  refine .aj (.z zg (.nil ?_))
  refine .ret (Fin.bK sW rfl ?_)
  exact ⟨_,rfl,⟨fun h=>by omega,fun ⟨p,h1,h2⟩=>by
   obtain ⟨j,hj⟩:=List.getElem?_of_mem h1
   exact (hno j (List.getElem?_eq_some_iff.1 hj).1 p hj h2).elim⟩,hs⟩
theorem sU{v:Value}{ls:List Int}{g:Nat}{cap:List Value}{q:Int→Prop}(hs:St H w σ)(hr:RI H v ls)
  (hc:∀args w,(callFunc g args).run Tryz.prog w= .ok (.enter g args) w) (hp:∀w l,St H w σ→Cl Tryz.prog g ([I l]++cap) w fun u w'=>∃b,u= .bool b∧(b=true↔q l)∧St H w' σ):
  Cl Tryz.prog 134 [v,.func (.func g) #[] cap.toArray] w fun u w'=>∃b,u= .bool b∧(b=true↔∃p∈ls,q p)∧St H w' σ:=by
 refine Cl.o Tryz.func134 Tryz.ntmps134 ag2 ?_
 refine .aj (.z zg (.nil (.aj (.z zm (.z zm ?_)))))
 refine .o (.call Tryz.call206 rfl (xg hs hr hc hp) ?_);rintro _ w ⟨i,rfl,hi,hs⟩
 refine .z yA (.z zg (.nil ?_))
 refine .ret (Fin.bK Tryz.results134 rfl ?_)
 exact ⟨_,rfl,by simp only [decide_eq_true_eq];exact hi,hs⟩
theorem qL{n:Int}(hs:St H w σ):Cl Tryz.prog 163 [I n] w fun v w'=>∃b,v= .bool b∧(b=true↔¬(-1000000000≤n∧n≤1000000000))∧St H w' σ:=by
 refine Cl.o Tryz.func163 Tryz.ntmps163 ag1 ?_
 refine .aj (.z zg (.nil (.aj (.z zm ?_))))
 refine .o (.call A3 rfl (fC hs) ?_);rintro _ w ⟨rfl,hs⟩
 refine .z iD (.z zg (.nil ?_))
 refine .ret (Fin.bK Tryz.results163 rfl ?_)
 exact ⟨_,rfl,by simp;omega,hs⟩
theorem nM{v vx:Value}{s:dj}{x:List Int}(hs:St H w σ)(hr:RSy H v s)(hx:RI H vx x):
  Cl Tryz.prog 76 [v,vx] w fun u w'=>∃e,u=I e∧GF s x e∧St H w' σ:=by
 obtain ⟨ul,rfl,hl⟩:=hr
 obtain ⟨al,cl,rfl⟩:=RL.shape hl
 obtain ⟨ax,cx,rfl⟩:=RI.shape hx
 refine Cl.o Tryz.func76 Tryz.ntmps76 ag2 ?_
 refine .aj ?_
 refine .bx hs fun b2 w hs=>?_
 refine .z zg (.nil (.seq (.aj (.y hs (zls [_,_] bp aM) ?_))))
 refine .o (.call Tryz.call125 rfl (iW (s:=s) hs ⟨_,rfl,hl⟩) ?_);rintro _ w ⟨rfl,hs⟩
 refine .z zg (.nil (.aj (.z zm (.z gP (.nil ?_)))))
 skip
 refine (.eI rfl (fun hc11=>?_) (fun hc11=>?_))
 ·refine .aj (.z zm (.z zg (.nil ?_)))
  refine .ret (rT (Fin.bK vv rfl ?_))
  exact ⟨_,rfl,.bad hc11,hs.out⟩
 ·refine .skip ?_
  refine nT ?_
  refine .seq (.aj ?_)
  have hok:s.Ok:=s.cD.1 (by simpa using hc11)
  have hm0:=hok.m0
  have hm1:=hok.m1
  have hll:=hok.len
  have hnn:(s.n:Int)=s.many+1:=by simp only [dj.n];omega
  refine .z zm (.z (cN ae) (.z (zfa bA) (.y hs (zld af) (.z cH (.z gP (.z zm ?_))))))
  refine .yq (t':=19) rfl (fun hb19=>?_) (fun hb19=>?_)
  ·refine .gFs 4 6 false rfl rfl rfl ?_
   refine .z zpT (.z zm ?_)
   refine .gFs 2 12 false rfl rfl rfl ?_
   refine .z zpT (.nil ?_)
   refine (.cT ?_)
   refine .aj (.z zg (.nil ?_))
   refine .ret (rT (Fin.bK vv rfl ?_))
   first
    |exact ⟨_,rfl,.ok hok ⟨ak,by first|omega|(simpa using hb25),fun v hv=>hfree v ak,fR.2 fun y hy=>by
      obtain ⟨i,hi⟩:=List.getElem?_of_mem hy
      exact h1 i (List.getElem?_eq_some_iff.1 hi).1 y hi⟩,hs.out⟩
    |exact ⟨_,rfl,.off hok (fun h=>by have:=h.len;omega),hs.out⟩
    |exact ⟨_,rfl,.off hok (fun h=>by have:=h.zero;first|omega|(simp at hb25;omega)),hs.out⟩
    |exact ⟨_,rfl,.off hok (fun h=>by
      obtain ⟨p,h1,h2⟩:=hb27.1 hc28
      obtain ⟨i,hi⟩:=List.getElem?_of_mem h1
      have hil:=(List.getElem?_eq_some_iff.1 hi).1
      have:=bE hil
      rw [hi] at this
      cases this
      exact h2 (h.free i (by have:=h.len;omega))),hs.out⟩
    |exact ⟨_,rfl,.off hok (fun h=>by
      have h8:=fR.1 h.xm y (List.mem_of_getElem? hy)
      omega),hs.out⟩
  ·refine .gT rfl rfl ?_
   refine .z zm ?_
   refine .gT rfl rfl ?_
   refine .ixX (enc:=fun x=>[I x]) hs hx rfl rfl ae ai (bE (l:=x) (i:=0) ak) rfl ?_;intro b21 o21 hc21;replace hc21:=bI.one hc21
   refine .gT rfl rfl ?_
   refine .y hs (zld af) ?_
   refine .gT rfl rfl ?_
   refine .z gP (.z zpF (.z zm ?_))
   refine .yq (t':=25) rfl (fun hb25=>?_) (fun hb25=>?_)
   ·refine .gFs 2 12 false rfl rfl rfl ?_
    refine .z zpT (.nil ?_)
    refine (.cT ?_)
    refine .aj (.z zg (.nil ?_))
    refine .ret (rT (Fin.bK vv rfl ?_))
    first
     |exact ⟨_,rfl,.ok hok ⟨ak,by first|omega|(simpa using hb25),fun v hv=>hfree v ak,fR.2 fun y hy=>by
       obtain ⟨i,hi⟩:=List.getElem?_of_mem hy
       exact h1 i (List.getElem?_eq_some_iff.1 hi).1 y hi⟩,hs.out⟩
     |exact ⟨_,rfl,.off hok (fun h=>by have:=h.len;omega),hs.out⟩
     |exact ⟨_,rfl,.off hok (fun h=>by have:=h.zero;first|omega|(simp at hb25;omega)),hs.out⟩
     |exact ⟨_,rfl,.off hok (fun h=>by
       obtain ⟨p,h1,h2⟩:=hb27.1 hc28
       obtain ⟨i,hi⟩:=List.getElem?_of_mem h1
       have hil:=(List.getElem?_eq_some_iff.1 hi).1
       have:=bE hil
       rw [hi] at this
       cases this
       exact h2 (h.free i (by have:=h.len;omega))),hs.out⟩
     |exact ⟨_,rfl,.off hok (fun h=>by
       have h8:=fR.1 h.xm y (List.mem_of_getElem? hy)
       omega),hs.out⟩
   ·refine .gT rfl rfl ?_
    refine .z zm ?_
    refine .gT rfl rfl ?_
    refine .o (.call Tryz.call134 rfl (sU (q:=fun n=>¬(-1000000000≤n∧n≤1000000000)) (cap:=[]) hs hx Tryz.call163 (fun w n hs=>qL hs)) ?_);rintro _ w ⟨b27,rfl,hb27,hs⟩
    refine .z zpF (.nil ?_)
    refine (.cond rfl (fun hc28=>?_) (fun hc28=>?_))
    ·refine .aj (.z zg (.nil ?_))
     refine .ret (rT (Fin.bK vv rfl ?_))
     first
      |exact ⟨_,rfl,.ok hok ⟨ak,by first|omega|(simpa using hb25),fun v hv=>hfree v ak,fR.2 fun y hy=>by
        obtain ⟨i,hi⟩:=List.getElem?_of_mem hy
        exact h1 i (List.getElem?_eq_some_iff.1 hi).1 y hi⟩,hs.out⟩
      |exact ⟨_,rfl,.off hok (fun h=>by have:=h.len;omega),hs.out⟩
      |exact ⟨_,rfl,.off hok (fun h=>by have:=h.zero;first|omega|(simp at hb25;omega)),hs.out⟩
      |exact ⟨_,rfl,.off hok (fun h=>by
        obtain ⟨p,h1,h2⟩:=hb27.1 hc28
        obtain ⟨i,hi⟩:=List.getElem?_of_mem h1
        have hil:=(List.getElem?_eq_some_iff.1 hi).1
        have:=bE hil
        rw [hi] at this
        cases this
        exact h2 (h.free i (by have:=h.len;omega))),hs.out⟩
      |exact ⟨_,rfl,.off hok (fun h=>by
        have h8:=fR.1 h.xm y (List.mem_of_getElem? hy)
        omega),hs.out⟩
    ·refine .skip ?_
     refine nT ?_
     refine .seq (.aj (.z (zfa bh) (.y hs (zld bT) (.z (cN aH) (.z zm (.nil ?_))))))
     refine .for (N:=s.bU.length) (J:=fun k fr w=>fr=[(30,.slice al s.bU.length cl),(1,.slice ax x.length cx)]∧(∀i<k,∀y,s.bU[i]? =some y→gi x y.B.toNat≤gi x y.A.toNat+y.M)∧St H w (.blk b2 [I s.many,.slice al s.bU.length cl]::σ)) ak ?_ ?_ ?_
     ·exact .mk ⟨rfl,fun i hi=>by omega,hs⟩
     ·have hfree:∀v<x.length,-1000000000≤gi x v∧gi x v≤1000000000:=fun v hv=>by
       apply Classical.byContradiction
       intro h
       have:=hb27.2 ⟨gi x v,List.mem_of_getElem? (bE hv),h⟩
       subst this
       simp at hc28
      rintro k fr w hk ⟨rfl,h1,hs⟩
      obtain ⟨y,hy⟩:=nth hk
      obtain ⟨⟨y1,y2⟩,⟨y3,y4⟩,y5,y6,-⟩:=hok.lim y (List.mem_of_getElem? hy)
      have z1:=hfree y.B.toNat ak
      have z2:=hfree y.A.toNat ak
      refine .block (.aj ?_)
      refine .ixX (enc:=Lim.c) hs hl rfl rfl aH aQ hy rfl ?_;intro b34 o34 hc34
      refine .q hs (cj (vs:=y.c) rfl dS aQ hc34) ?_
      refine .o (.alloc hs eG rfl fun b7 w hs=>?_)
      refine .o (.aZ (vs:=y.c) hs rfl rfl aQ fun w hs=>?_)
      refine .nil ?_
      refine .seq (.draw mix rfl hs fun w hs=>?_)
      refine .z 0 rfl zm ?_;refine .z 1 rfl (zfa dO) ?_;refine .y 2 rfl hs af ?_
      refine .ixX (enc:=fun x=>[I x]) (i:=3) hs rfl aq .none hx rfl rfl ae ai (bE (l:=x) (i:=y.B.toNat) ak) ak ?_;intro b39 o39 hc39;replace hc39:=bI.one hc39
      refine .r (i:=4) hs rfl aq .none (aO rfl af hc39) ?_
      refine .z 5 rfl zm ?_;refine .z 6 rfl (zfa dD) ?_;refine .y 7 rfl hs af ?_
      refine .ixX (enc:=fun x=>[I x]) (i:=8) hs rfl aq .none hx rfl rfl ae ai (bE (l:=x) (i:=y.A.toNat) ak) ak ?_;intro b44 o44 hc44;replace hc44:=bI.one hc44
      refine .r (i:=9) hs rfl aq .none (aO rfl af hc44) ?_
      refine .z 10 rfl gO ?_;refine .z 11 rfl (zfa eH) ?_;refine .y 12 rfl hs af ?_;refine .z 13 rfl kD ?_;refine .D hs ?_
      refine (.bJ rfl (fun hc49=>?_) (fun hc49=>?_))
      ·refine .aj (.z zg (.nil ?_))
       refine .ret (rB (rT (rB (rT (Fin.bK vv rfl ?_)))))
       first
        |exact ⟨_,rfl,.ok hok ⟨ak,by first|omega|(simpa using hb25),fun v hv=>hfree v ak,fR.2 fun y hy=>by
          obtain ⟨i,hi⟩:=List.getElem?_of_mem hy
          exact h1 i (List.getElem?_eq_some_iff.1 hi).1 y hi⟩,hs.out⟩
        |exact ⟨_,rfl,.off hok (fun h=>by have:=h.len;omega),hs.out⟩
        |exact ⟨_,rfl,.off hok (fun h=>by have:=h.zero;first|omega|(simp at hb25;omega)),hs.out⟩
        |exact ⟨_,rfl,.off hok (fun h=>by
          obtain ⟨p,h1,h2⟩:=hb27.1 hc28
          obtain ⟨i,hi⟩:=List.getElem?_of_mem h1
          have hil:=(List.getElem?_eq_some_iff.1 hi).1
          have:=bE hil
          rw [hi] at this
          cases this
          exact h2 (h.free i (by have:=h.len;omega))),hs.out⟩
        |exact ⟨_,rfl,.off hok (fun h=>by
          have h8:=fR.1 h.xm y (List.mem_of_getElem? hy)
          omega),hs.out⟩
      ·refine .skip ?_
       refine nB (nT ?_)
       exact .mk ⟨rfl,fun i hi z hz=>by
        by_cases e:i=k
        ·subst e;rw [hy] at hz;cases hz;omega
        ·exact h1 i ak z hz,hs.out⟩
     ·have hfree:∀v<x.length,-1000000000≤gi x v∧gi x v≤1000000000:=fun v hv=>by
       apply Classical.byContradiction
       intro h
       have:=hb27.2 ⟨gi x v,List.mem_of_getElem? (bE hv),h⟩
       subst this
       simp at hc28
      rintro fr w ⟨rfl,h1,hs⟩
      refine nT ?_
      refine .aj (.z zg (.nil ?_))
      refine .ret (Fin.bK vv rfl ?_)
      first
       |exact ⟨_,rfl,.ok hok ⟨ak,by first|omega|(simpa using hb25),fun v hv=>hfree v ak,fR.2 fun y hy=>by
         obtain ⟨i,hi⟩:=List.getElem?_of_mem hy
         exact h1 i (List.getElem?_eq_some_iff.1 hi).1 y hi⟩,hs.out⟩
       |exact ⟨_,rfl,.off hok (fun h=>by have:=h.len;omega),hs.out⟩
       |exact ⟨_,rfl,.off hok (fun h=>by have:=h.zero;first|omega|(simp at hb25;omega)),hs.out⟩
       |exact ⟨_,rfl,.off hok (fun h=>by
         obtain ⟨p,h1,h2⟩:=hb27.1 hc28
         obtain ⟨i,hi⟩:=List.getElem?_of_mem h1
         have hil:=(List.getElem?_eq_some_iff.1 hi).1
         have:=bE hil
         rw [hi] at this
         cases this
         exact h2 (h.free i (by have:=h.len;omega))),hs.out⟩
       |exact ⟨_,rfl,.off hok (fun h=>by
         have h8:=fR.1 h.xm y (List.mem_of_getElem? hy)
         omega),hs.out⟩
end Go.Proofs.YtddaejgfjlneoaaGreat
namespace Go.Proofs
open Go.Shelf
def Tryz.yY:Go.Shelf.Ren:=⟨fun|189=>138|125=>209|257=>208|128=>262|129=>263|294=>253|295=>254|296=>255|297=>256|298=>257|299=>258|216=>259|300=>260|301=>261|328=>282|329=>283|330=>284|331=>285|332=>286|215=>287|343=>296|n=>n,fun|28=>22|3=>3|46=>250|0=>0|51=>285|53=>287|4=>4|183=>279|182=>278|131=>282|5=>5|9=>9|218=>304|222=>308|228=>318|229=>275|n=>n,fun|n=>n⟩
theorem Tryz.B7:Go.Proofs.Lays.n189 Tryz.prog Tryz.yY:={
 mixed:=by kernel_rfl
 f125:=Tryz.func209.trans (congrArg some (by kernel_rfl))
 f128:=Tryz.func262.trans (congrArg some (by kernel_rfl))
 f129:=Tryz.func263.trans (congrArg some (by kernel_rfl))
 f189:=Tryz.func138.trans (congrArg some (by kernel_rfl))
 f215:=Tryz.func287.trans (congrArg some (by kernel_rfl))
 f216:=Tryz.func259.trans (congrArg some (by kernel_rfl))
 f257:=Tryz.func208.trans (congrArg some (by kernel_rfl))
 f294:=Tryz.func253.trans (congrArg some (by kernel_rfl))
 f295:=Tryz.func254.trans (congrArg some (by kernel_rfl))
 f296:=Tryz.func255.trans (congrArg some (by kernel_rfl))
 f297:=Tryz.func256.trans (congrArg some (by kernel_rfl))
 f298:=Tryz.func257.trans (congrArg some (by kernel_rfl))
 f299:=Tryz.func258.trans (congrArg some (by kernel_rfl))
 f300:=Tryz.func260.trans (congrArg some (by kernel_rfl))
 f301:=Tryz.func261.trans (congrArg some (by kernel_rfl))
 f328:=Tryz.func282.trans (congrArg some (by kernel_rfl))
 f329:=Tryz.func283.trans (congrArg some (by kernel_rfl))
 f330:=Tryz.func284.trans (congrArg some (by kernel_rfl))
 f331:=Tryz.func285.trans (congrArg some (by kernel_rfl))
 f332:=Tryz.func286.trans (congrArg some (by kernel_rfl))
 f343:=Tryz.func296.trans (congrArg some (by kernel_rfl))
 t0:=Tryz.underlying0
 a0:=Tryz.isAgg0
 z0:=Tryz.sizeOf0
 v0:=Tryz.zeroValue0
 t3:=Tryz.underlying3
 a3:=Tryz.isAgg3
 z3:=Tryz.sizeOf3
 v3:=Tryz.zeroValue3
 t4:=Tryz.underlying4
 a4:=Tryz.isAgg4
 z4:=Tryz.sizeOf4
 v4:=Tryz.zeroValue4
 t5:=Tryz.underlying5
 a5:=Tryz.isAgg5
 z5:=Tryz.sizeOf5
 v5:=Tryz.zeroValue5
 t9:=Tryz.underlying9
 a9:=Tryz.isAgg9
 z9:=Tryz.sizeOf9
 v9:=Tryz.zeroValue9
 t28:=Tryz.underlying22
 a28:=Tryz.isAgg22
 z28:=Tryz.sizeOf22
 v28:=Tryz.zeroValue22
 t46:=Tryz.underlying250
 a46:=Tryz.isAgg250
 z46:=Tryz.sizeOf250
 v46:=Tryz.zeroValue250
 t51:=Tryz.underlying285
 a51:=Tryz.isAgg285
 z51:=Tryz.sizeOf285
 v51:=Tryz.zeroValue285
 t53:=Tryz.underlying287
 a53:=Tryz.isAgg287
 z53:=Tryz.sizeOf287
 v53:=Tryz.zeroValue287
 t131:=Tryz.underlying282
 a131:=Tryz.isAgg282
 z131:=Tryz.sizeOf282
 v131:=Tryz.zeroValue282
 t182:=Tryz.underlying278
 a182:=Tryz.isAgg278
 z182:=Tryz.sizeOf278
 v182:=Tryz.zeroValue278
 t183:=Tryz.underlying279
 a183:=Tryz.isAgg279
 z183:=Tryz.sizeOf279
 v183:=Tryz.zeroValue279
 t218:=Tryz.underlying304
 a218:=Tryz.isAgg304
 z218:=Tryz.sizeOf304
 v218:=Tryz.zeroValue304
 t222:=Tryz.underlying308
 a222:=Tryz.isAgg308
 z222:=Tryz.sizeOf308
 v222:=Tryz.zeroValue308
 t228:=Tryz.underlying318
 a228:=Tryz.isAgg318
 z228:=Tryz.sizeOf318
 v228:=Tryz.zeroValue318
 t229:=Tryz.underlying275
 a229:=Tryz.isAgg275
 z229:=Tryz.sizeOf275
 v229:=Tryz.zeroValue275}
def Tryz.xR:Go.Shelf.Ren:=⟨fun|20=>139|n=>n,fun|22=>22|3=>3|4=>4|0=>0|n=>n,fun|n=>n⟩
theorem Tryz.zS:Go.Proofs.Lays2.n20 Tryz.prog Tryz.xR:={
 mixed:=by kernel_rfl
 f20:=Tryz.func139.trans (congrArg some (by kernel_rfl))
 t0:=Tryz.underlying0
 a0:=Tryz.isAgg0
 z0:=Tryz.sizeOf0
 v0:=Tryz.zeroValue0
 t3:=Tryz.underlying3
 a3:=Tryz.isAgg3
 z3:=Tryz.sizeOf3
 v3:=Tryz.zeroValue3
 t4:=Tryz.underlying4
 a4:=Tryz.isAgg4
 z4:=Tryz.sizeOf4
 v4:=Tryz.zeroValue4
 t22:=Tryz.underlying22
 a22:=Tryz.isAgg22
 z22:=Tryz.sizeOf22
 v22:=Tryz.zeroValue22
 i3:=by kernel_rfl}
end Go.Proofs
namespace Go.Proofs.YtddaejgfjlneoaaGreat
open Go.Sort Go.RowKit
theorem C3(blk off cap:Nat)(zs:List Int)(w:World)(hH:Holds (Value.int .i64) w blk off zs.toArray)(hblk:blk<w.heap.size)(hsz:zs.length<4611686018427387904):
  Calls Tryz.prog 138 #[.slice (some ⟨blk,off,none⟩) zs.length cap] w fun e w'=>e= .returned (.tuple #[])∧∃n os,w'=grow (putRow (Value.int .i64) (Sort.ahead w n) blk off (zs.mergeSort fun x y=>decide (x≤y)).toArray) os:=
 Any.slices_Sort_int Tryz.B7 blk off cap zs w hH hblk hsz
theorem wu(p:Option Addr)(cap:Nat)(w:World):Calls Tryz.prog 138 #[.slice p 0 cap] w fun e w'=>e= .returned (.tuple #[])∧w'=w:=
 Any.slices_Sort_int_none Tryz.B7 p cap w
theorem yK(blk off cap:Nat)(zs:List Int)(w:World)(hH:Holds (Value.int .i64) w blk off zs.toArray)(hsz:zs.length≤9223372036854775807)(hcap:zs.length≤cap):
  Calls Tryz.prog 139 #[.slice (some ⟨blk,off,none⟩) zs.length cap] w fun e w'=>e= .returned (.slice (some ⟨blk,off,none⟩) (Lib.compact zs).length cap)∧∃q,w'=putRow (Value.int .i64) (Sort.ahead w q) blk off (Lib.compact zs++List.replicate (zs.length - (Lib.compact zs).length) 0).toArray:=
 Any.slices_Compact_int Tryz.zS blk off cap zs w hH hsz hcap
theorem sA(p:Option Addr)(cap:Nat)(w:World):Calls Tryz.prog 139 #[.slice p 0 cap] w fun e w'=>e= .returned (.slice p 0 cap)∧w'=w:=
 Any.slices_Compact_int_empty Tryz.zS p cap w
end Go.Proofs.YtddaejgfjlneoaaGreat
namespace Go.Proofs.YtddaejgfjlneoaaGreat
open Go.MW
variable{H:cE}{w:World}{σ:List Ent}
theorem sB{v:Value}{ls:List Int}{x:Int}(hs:St H w σ)(hr:RI H v ls):
  Cl Tryz.prog 205 [v,I x] w fun u w'=>∃i,u=I i∧(0≤i↔x∈ls)∧St H w' σ:=by
 obtain ⟨a,c,rfl⟩:=RI.shape hr
 have hl:=(RI.len hr).2.2
 refine Cl.o Tryz.func205 Tryz.ntmps205 ag2 ?_
 refine .aj (.z zg (.nil (.seq (.aj (.z zm (.z (cN ae) (.z zm (.nil ?_))))))))
 refine .for (N:=ls.length) (J:=fun k fr w=>fr=[(1,I x),(0,.slice a ls.length c)]∧St H w σ∧∀j<k,∀y,ls[j]? =some y→¬x=y) ak ?_ ?_ ?_
 ·exact .mk ⟨rfl,hs,fun j hj=>by omega⟩
 ·rintro k fr w hk ⟨rfl,hs,hno⟩
  obtain ⟨y,hy⟩:=nth hk
  refine .block (.aj (.z zm (.z zg (.nil (.aj (.z zm (.z zm (.z zm ?_))))))))
  refine .ixY hs hr rfl rfl ae ai hy rfl ?_;intro b14 o14 hc14
  refine .q hs (aO rfl af hc14) ?_
  refine .z fw (.nil ?_)
  refine (.bJ rfl (fun hc16=>?_) (fun hc16=>?_))
  ·refine .aj (.z zm (.z zg (.nil ?_)))
   refine .ret (rB (rT (rB (rT (Fin.bK Tryz.results205 rfl ?_)))))
   exact ⟨_,rfl,⟨fun _=>by rw [hc16];exact List.mem_of_getElem? hy,fun _=>by omega⟩,hs⟩
  ·refine .skip ?_
   refine nB (nT ?_)
   exact .mk ⟨rfl,hs,fl hno hy hc16⟩
 ·rintro fr w ⟨rfl,hs,hno⟩
  refine nT ?_
  refine .aj (.z zg (.nil ?_))
  refine .ret (Fin.bK Tryz.results205 rfl ?_)
  exact ⟨_,rfl,⟨fun h=>by omega,fun h=>by
   obtain ⟨j,hj⟩:=List.getElem?_of_mem h
   exact (hno j (List.getElem?_eq_some_iff.1 hj).1 x hj rfl).elim⟩,hs⟩
theorem ph{v:Value}{ls:List Int}{x:Int}(hs:St H w σ)(hr:RI H v ls):
  Cl Tryz.prog 130 [v,I x] w fun u w'=>u= .bool (decide (x∈ls))∧St H w' σ:=by
 refine Cl.o Tryz.func130 Tryz.ntmps130 ag2 ?_
 refine .aj (.z zg (.nil (.aj (.z zm (.z zm ?_)))))
 refine .o (.call Tryz.call205 rfl (sB hs hr) ?_);rintro _ w ⟨i,rfl,hi,hs⟩
 refine .z yA (.z zg (.nil ?_))
 refine .ret (Fin.bK Tryz.results130 rfl ?_)
 exact ⟨by simp only [hi],hs⟩
set_option maxHeartbeats 1000000 in
theorem uE{v:Value}{s:dj}{g:Nat}{cap:List Value}(q:Nat→Lim→Bool)(hs:St H w σ)(hr:RSy H v s)(hlen:s.bU.length≤4398046510976)(hc:∀args w,(callFunc g args).run Tryz.prog w= .ok (.enter g args) w)
  (hp:∀w σ (k:Nat) (l:Lim),s.bU[k]? =some l→St H w σ→Cl Tryz.prog g ([I k,.agg l.c.toArray]++cap) w fun u w'=>u= .bool (q k l)∧St H w' σ):
  Cl Tryz.prog 131 [v,.func (.func g) #[] cap.toArray] w fun u w'=>∃H1,HLe H H1∧RSy H1 u ⟨s.many,kl q s.bU s.bU.length⟩∧St H1 w' σ:=by
 obtain ⟨ul,rfl,hl⟩:=hr
 obtain ⟨al,cl,rfl⟩:=RL.shape hl
 refine Cl.o Tryz.func131 Tryz.ntmps131 ag2 ?_
 refine .aj ?_
 refine .bx hs fun b2 w hs=>?_
 refine .o (.alloc hs dd rfl fun b4 w hs=>?_)
 refine .nil (.aj (.z (zfa bA) (.y hs (zld af) (.z (zbd [_,_] iQ) ?_))))
 refine .o (.alloc hs dd rfl fun b5 w hs=>?_)
 refine .o (.aZ (vs:=[_,_]) hs rfl rfl aM fun w hs=>?_)
 refine .nil (.seq (.aj (.z (zfa bh) (.y hs (zld bT) (.z (cN aH) (.z zm (.nil ?_)))))))
 refine .for (N:=s.bU.length) (J:=fun k fr w=>fr=[(12,.slice al s.bU.length cl),(1,.func (.func g) #[] cap.toArray),(5,.pointer (some ⟨b5,0,none⟩)),(4,.pointer (some ⟨b4,0,none⟩))]∧∃vL en,cz 4 vL (gg (kl q s.bU k)) en∧St H w (.blk b5 [I s.many,vL]:: .blk b4 [I 0,.slice none 0 0]::en::σ)) ak ?_ ?_ ?_
 ·exact .mk ⟨rfl,_,_,.nil 4 none,hs.nul.sb⟩
 ·rintro k fr w hk ⟨rfl,vL,en,hO,hs⟩
  obtain ⟨x,hx⟩:=nth (l:=s.bU) hk
  obtain ⟨aL,lL,cL,rfl,hL⟩:=hO.shape
  have hpl:=mu q s.bU k
  refine .block (.aj (.z zm ?_))
  refine .ixX hs hl rfl rfl aH aQ hx rfl ?_;intro b17 o17 hc17
  refine .q hs (cj (vs:=x.c) rfl dS aQ hc17) ?_
  refine .o (.alloc hs eG rfl fun b7 w hs=>?_)
  refine .z zg ?_
  refine .o (.aZ (vs:=x.c) hs rfl rfl aQ fun w hs=>?_)
  refine .nil (.aj (.z zm (.z zm (.y hs (zls [_,_,_,_] dS aQ) ?_))))
  refine .o (.pH (first:=[]) (cap:=cap) rfl rfl hc (hp _ _ k x hx hs) ?_);rintro _ w ⟨rfl,hs⟩
  refine .nil ?_
  refine (.cond rfl (fun hc22=>?_) (fun hc22=>?_))
  ·refine .region (.z (zfa bh) (.y hs (zld bT) (.y hs (zls [_,_,_,_] dS aQ) ?_)))
   refine .o (.buildSlice (cells:=x.c) hs qM rfl rfl fun b26 w hs=>?_)
   refine .o (.append (ys:=x.c) hs bM rfl rfl hO (.own .here rfl rfl) (by simp [Lim.c,Value.oneCell']) (fun l h=>by rw [cV] at h;omega) ?_);intro v27 en27 w hO2 hs
   obtain ⟨a27,l27,c27,rfl,h27⟩:=hO2.shape
   refine .z (zfa bh) ?_
   refine .o (.store hs rfl rfl ji fun w hs=>?_)
   refine .nil ?_
   refine nB (nT ?_)
   have e:kl q s.bU (k+1)=kl q s.bU k++[x]:=by rw [pv hx,if_pos hc22]
   rw [←Ec,←fj,←e] at hO2
   exact .mk ⟨rfl,_,_,hO2,hs.sb⟩
  ·refine .skip ?_
   refine nB (nT ?_)
   have e:kl q s.bU (k+1)=kl q s.bU k:=by rw [pv hx,hc22];simp
   exact .mk ⟨rfl,_,_,by rw [e];exact hO,hs.sb⟩
 ·rintro fr w ⟨rfl,vL,en,hO,hs⟩
  obtain ⟨aL,lL,cL,rfl,hL⟩:=hO.shape
  have hpl:=mu q s.bU s.bU.length
  refine nT ?_
  refine .aj (.y hs (zls [_,_] bp aM) ?_)
  refine .o (.aZ (vs:=[_,_]) hs rfl rfl aM fun w hs=>?_)
  refine .nil ?_
  refine .ret ?_
  obtain ⟨H1,g1,r1,hs⟩:=cz.cO (m:=4) (cs:=(kl q s.bU s.bU.length).map Lim.c) hO (fun c hc=>by simp only [List.mem_map] at hc;obtain ⟨x,_,rfl⟩:=hc;rfl) ak (by rw [List.length_map];omega) hs cU
  exact Fin.gR [] [] hs fun w hs=>⟨_,results1 Tryz.results131 (dv (vs:=[_,_]) hs rfl bp aM),H1,g1,⟨_,rfl,r1⟩,hs.out⟩
theorem uF{b:Nat}{i:Int}{l:Lim}{vb:Value}{bs:List Int}(hs:St H w σ)(hb:Row H b [vb])(hr:RI H vb bs):
  Cl Tryz.prog 207 [I i,.agg l.c.toArray,.pointer (some ⟨b,0,none⟩)] w fun u w'=>u= .bool (!decide (l.S∈bs))∧St H w' σ:=by
 have hb0:cellAt H b 0=some vb:=by rw [hb.cell];rfl
 refine Cl.o Tryz.func207 Tryz.ntmps207 ag3 ?_
 refine .aj ?_
 refine .bx hs fun b4 w hs=>?_
 refine .z zg (.nil (.aj (.y hs (zld an) (.z (zfa jO) (.y hs (zld af) ?_)))))
 refine .o (.call Tryz.call130 rfl (ph hs hr) ?_);rintro _ w ⟨rfl,hs⟩
 refine .z iD (.z zg (.nil ?_))
 refine .ret (Fin.bK Tryz.results207 rfl ?_)
 exact ⟨rfl,hs.out⟩
theorem qK{v vb:Value}{s:dj}{bs:List Int}(hs:St H w σ)(hr:RSy H v s)(hb:RI H vb bs)(hlen:s.bU.length≤4398046510976):
  Cl Tryz.prog 136 [v,vb] w fun u w'=>∃H1,HLe H H1∧RSy H1 u (s.wo bs)∧St H1 w' σ:=by
 obtain ⟨ul,rfl,hl⟩:=hr
 obtain ⟨al,cl,rfl⟩:=RL.shape hl
 obtain ⟨ab,cb,rfl⟩:=RI.shape hb
 refine Cl.o Tryz.func136 Tryz.ntmps136 ag2 ?_
 refine .aj ?_
 refine .bx hs fun b2 w hs=>?_
 refine .bx hs fun b3 w hs=>?_
 refine .o (.alloc hs dd rfl fun b4 w hs=>?_)
 refine .nil (.aj (.y hs (zls [_,_] bp aM) ?_))
 refine .q hs (dX (f:=[]) (c:=[_]) rfl rfl) ?_
 obtain ⟨H1,hle1,r3,hs⟩:=hs.cO (b:=b3) cU
 refine .o (.call Tryz.call131 rfl (uE (g:=207) (cap:=[.pointer (some ⟨b3,0,none⟩)]) (s:=s) (fun _ l=> !decide (l.S∈bs)) hs ⟨_,rfl,hl.mono hle1⟩ hlen Tryz.call207 (fun w σ k l _ hs=>uF hs r3 (hb.mono hle1))) ?_);rintro _ w ⟨H2,hle2,⟨u7,rfl,hL7⟩,hs⟩
 rw [AH] at hL7
 obtain ⟨a7,c7,rfl⟩:=RL.shape hL7
 refine .o (.aZ (vs:=[_,_]) hs rfl rfl aM fun w hs=>?_)
 refine .nil ?_
 refine .ret ?_
 exact Fin.gR [] [] hs fun w hs=>⟨_,results1 Tryz.results136 (dv (vs:=[_,_]) hs rfl bp aM),H2,hle1.trans hle2,⟨_,rfl,hL7⟩,hs.out⟩
theorem nj{b cap:Nat}{xs:List Int}{sp:List Value}(hs:St H w (.blk b (Is xs++sp)::σ))(hl:xs.length≤17592186044416):
  Cl Tryz.prog 138 [.slice (some ⟨b,0,none⟩) xs.length cap] w fun u w'=>u= .tuple #[]∧St H w' (.blk b (Is (xs.mergeSort fun x y=>decide (x≤y))++sp)::σ):=
 (C3 b 0 cap xs w hs.holds (hs.lt .here) ak).mono fun e w' ⟨he,m,os,hw⟩=>⟨_,he,rfl,by
  rw [hw]
  exact (hs.putRow (List.length_mergeSort _)).grow os⟩
theorem mB{a:Option Addr}{cap:Nat}(hs:St H w σ):
  Cl Tryz.prog 138 [.slice a 0 cap] w fun u w'=>u= .tuple #[]∧St H w' σ:=
 (wu a cap w).mono fun e w' ⟨he,hw⟩=>⟨_,he,rfl,by rw [hw];exact hs⟩
theorem lk{b cap:Nat}{xs:List Int}{sp:List Value}(hs:St H w (.blk b (Is xs++sp)::σ))(hl:xs.length≤17592186044416)(hcap:xs.length≤cap):
  Cl Tryz.prog 139 [.slice (some ⟨b,0,none⟩) xs.length cap] w fun u w'=>u= .slice (some ⟨b,0,none⟩) (Go.Lib.compact xs).length cap∧St H w' (.blk b (Is (Go.Lib.compact xs)++(Is (List.replicate (xs.length - (Go.Lib.compact xs).length) 0)++sp))::σ):=
 (yK b 0 cap xs w hs.holds ak hcap).mono fun e w' ⟨he,m,hw⟩=>⟨_,he,rfl,by
  rw [hw]
  have h:=Go.Lib.compact_length_le xs
  have:=hs.putRow (m:=m) (ys:=Go.Lib.compact xs++List.replicate (xs.length - (Go.Lib.compact xs).length) 0) (by simp;omega)
  have e2:Is (Go.Lib.compact xs++List.replicate (xs.length - (Go.Lib.compact xs).length) 0)=Is (Go.Lib.compact xs)++Is (List.replicate (xs.length - (Go.Lib.compact xs).length) 0):=List.map_append
  rw [e2,List.append_assoc] at this
  exact this⟩
theorem kK{a:Option Addr}{cap:Nat}(hs:St H w σ):
  Cl Tryz.prog 139 [.slice a 0 cap] w fun u w'=>u= .slice a 0 cap∧St H w' σ:=
 (sA a cap w).mono fun e w' ⟨he,hw⟩=>⟨_,he,rfl,by rw [hw];exact hs⟩
theorem ve{v:Value}{xs:List Int}{en:Ent}(hs:St H w (en::σ))(hO:cz 1 v (Is xs) en)(hl:xs.length≤17592186044416):
  Cl Tryz.prog 204 [v] w fun u w'=>∃L en',cz 1 u (Is L) en'∧L.length≤xs.length∧hZ (fun x=>x∈xs) L∧St H w' (en'::σ):=by
 rcases hO with ⟨a,rfl,h0,rfl⟩|⟨b,len,cap,sp,rfl,rfl,h3,h4,h5⟩
 ·have hx:xs=[]:=by simpa using h0
  subst hx
  refine Cl.o Tryz.func204 Tryz.ntmps204 ag1 ?_
  refine .aj (.z zg (.nil (.aj (.z zm ?_))))
  refine .o (.call Hh rfl (mB hs) ?_);rintro _ w ⟨rfl,hs⟩
  refine .nil (.aj (.z zm ?_))
  refine .o (.call Hg rfl (kK hs) ?_);rintro _ w ⟨rfl,hs⟩
  refine .z zg (.nil ?_)
  refine .ret (Fin.bK Tryz.results204 rfl ?_)
  exact ⟨[],_,.nil 1 a,bQ,.nil bQ,hs.out⟩
 ·obtain rfl:len=xs.length:=by simpa using h3.symm
  refine Cl.o Tryz.func204 Tryz.ntmps204 ag1 ?_
  refine .aj (.z zg (.nil (.aj (.z zm ?_))))
  refine .o (.call Hh rfl (nj hs hl) ?_);rintro _ w ⟨rfl,hs⟩
  refine .nil (.aj (.z zm ?_))
  have hml:(xs.mergeSort fun x y=>decide (x≤y)).length=xs.length:=List.length_mergeSort _
  rw [←hml]
  refine .o (.call Hg rfl (lk hs ak ak) ?_);rintro _ w ⟨rfl,hs⟩
  refine .z zg (.nil ?_)
  refine .ret (Fin.bK Tryz.results204 rfl ?_)
  have hcl:=Go.Lib.compact_length_le (xs.mergeSort fun x y=>decide (x≤y))
  have h4':xs.length+sp.length=cap:=by simpa using h4
  exact ⟨_,_,.inr ⟨b,_,cap,Is (List.replicate ((xs.mergeSort fun x y=>decide (x≤y)).length - (Go.Lib.compact (xs.mergeSort fun x y=>decide (x≤y))).length) 0)++sp,rfl,rfl,bQ,by simp;omega,ak⟩,ak,ml,hs⟩
theorem lC{v:Value}{s:dj}(hs:St H w σ)(hr:RSy H v s)(hlen:s.bU.length≤4398046510976):
  Cl Tryz.prog 129 [v] w fun u w'=>∃L en,cz 1 u (Is L) en∧L.length≤s.bU.length∧hZ (Gr s.bU) L∧St H w' (en::σ):=by
 obtain ⟨ul,rfl,hl⟩:=hr
 obtain ⟨al,cl,rfl⟩:=RL.shape hl
 refine Cl.o Tryz.func129 Tryz.ntmps129 ag1 ?_
 refine .aj ?_
 refine .bx hs fun b1 w hs=>?_
 refine .z zg (.nil (.aj (.z zg (.nil (.seq (.aj (.z (zfa bh) (.y hs (zld bT) (.z (cN aH) ?_)))))))))
 refine .z zm (.nil ?_)
 refine .for (N:=s.bU.length) (J:=fun k fr w=>∃v3 en,cz 1 v3 (Is ((s.bU.take k).map Lim.S)) en∧fr=[(3,v3),(7,.slice al s.bU.length cl)]∧St H w (en::σ)) ak ?_ ?_ ?_
 ·exact .mk ⟨_,_,.nil 1 none,rfl,hs.nul.sb⟩
 ·rintro k fr w hk ⟨v3,en,hO,rfl,hs⟩
  obtain ⟨x,hx⟩:=nth (l:=s.bU) hk
  obtain ⟨a3,l3,c3,rfl,h3⟩:=hO.shape
  refine .block (.aj ?_)
  refine .ixX hs hl rfl rfl aH aQ hx rfl ?_;intro b11 o11 hc11
  refine .q hs (cj (vs:=x.c) rfl dS aQ hc11) ?_
  refine .o (.alloc hs eG rfl fun b5 w hs=>?_)
  refine .o (.aZ (vs:=x.c) hs rfl rfl aQ fun w hs=>?_)
  refine .nil (.region (.z zm (.z (zfa jO) (.y hs (zld af) ?_))))
  refine .o (.buildSlice (cells:=[_]) hs bX rfl rfl fun b16 w hs=>?_)
  refine .o (.append (ys:=Is [x.S]) hs bg rfl rfl hO (.own .here rfl rfl) (dM _) (fun l' h=>by simp at h;omega) ?_);intro v17 en17 w hO2 hs
  rw [←List.map_append] at hO2
  refine .z zg (.nil ?_)
  refine nB (nT ?_)
  exact .mk ⟨_,_,by rw [df hx,List.map_append];exact hO2,rfl,hs.sb⟩
 ·rintro fr w ⟨v3,en,hO,rfl,hs⟩
  rw [List.take_length] at hO
  refine nT ?_
  refine .aj (.z zm ?_)
  refine .o (.call Tryz.call204 rfl (ve hs hO (by rw [List.length_map];omega)) ?_);rintro v20 w ⟨L,en',hO',hL,hR,hs⟩
  rw [List.length_map] at hL
  refine .z zg (.nil ?_)
  refine .ret (Fin.bK Tryz.results129 rfl ?_)
  exact ⟨L,en',hO',hL,hR.congr fun x=>by simp [Gr],hs⟩
end Go.Proofs.YtddaejgfjlneoaaGreat
