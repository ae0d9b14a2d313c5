/-
  Texts of these claims, joined: Opn Opi Opm Opz Cls Fct Wa Wb Wc Wd We Wf Wg Wh Wp Wt Wu Wv Wx Wy Xf Xi Srt Yc Yd Ye.
-/
import Derived.Test.YtddaejgfjlneoaaGreatGb
import Derived.Test.YtddaejgfjlneoaaGreatProg
import Derived.KernelRfl
import Derived.OpenShut
import Derived.ProofKit
import Derived.ShutString
import Derived.ChangeOld
import Derived.RowKit
import Derived.JoinedOf
import Derived.Shelf.Sort.Plain
import Derived.Shelf.Slices.CompactI
import Derived.Shelf.Slices.In.SortNone
import Derived.Lib.RowBridge
namespace Go.Proofs.YtddaejgfjlneoaaGreat
theorem fP:type_of% @Tryz.call100:=@Tryz.call100
theorem Ag:type_of% @Tryz.call103:=@Tryz.call103
theorem dD:type_of% @Tryz.call105:=@Tryz.call105
theorem Gg:type_of% @Tryz.call114:=@Tryz.call114
theorem tQ:type_of% @Tryz.call115:=@Tryz.call115
theorem iy:type_of% @Tryz.call121:=@Tryz.call121
theorem Gf:type_of% @Tryz.call133:=@Tryz.call133
theorem Ge:type_of% @Tryz.call146:=@Tryz.call146
theorem Gd:type_of% @Tryz.call161:=@Tryz.call161
theorem Af:type_of% @Tryz.call190:=@Tryz.call190
theorem Ae:type_of% @Tryz.call221:=@Tryz.call221
theorem da:type_of% @Tryz.call31:=@Tryz.call31
theorem wy:type_of% @Tryz.call42:=@Tryz.call42
theorem eV:type_of% @Tryz.call83:=@Tryz.call83
theorem wx:type_of% @Tryz.call92:=@Tryz.call92
theorem wv:type_of% @Tryz.call94:=@Tryz.call94
theorem rh:type_of% @Tryz.call97:=@Tryz.call97
theorem EB:type_of% @Tryz.isAgg108:=@Tryz.isAgg108
theorem qw:type_of% @Tryz.isAgg140:=@Tryz.isAgg140
theorem fj:type_of% @Tryz.isAgg160:=@Tryz.isAgg160
theorem qv:type_of% @Tryz.isAgg170:=@Tryz.isAgg170
theorem fi:type_of% @Tryz.isAgg182:=@Tryz.isAgg182
theorem gw:type_of% @Tryz.isAgg189:=@Tryz.isAgg189
theorem qu:type_of% @Tryz.isAgg211:=@Tryz.isAgg211
theorem an:type_of% @Tryz.isAgg22:=@Tryz.isAgg22
theorem qt:type_of% @Tryz.isAgg236:=@Tryz.isAgg236
theorem cJ:type_of% @Tryz.isAgg29:=@Tryz.isAgg29
theorem af:type_of% @Tryz.isAgg3:=@Tryz.isAgg3
theorem aH:type_of% @Tryz.isAgg34:=@Tryz.isAgg34
theorem bj:type_of% @Tryz.isAgg35:=@Tryz.isAgg35
theorem dL:type_of% @Tryz.isAgg36:=@Tryz.isAgg36
theorem aP:type_of% @Tryz.isAgg38:=@Tryz.isAgg38
theorem rf:type_of% @Tryz.isAgg4:=@Tryz.isAgg4
theorem dw:type_of% @Tryz.isAgg44:=@Tryz.isAgg44
theorem dC:type_of% @Tryz.isAgg49:=@Tryz.isAgg49
theorem Gc:type_of% @Tryz.isAgg51:=@Tryz.isAgg51
theorem ep:type_of% @Tryz.isAgg61:=@Tryz.isAgg61
theorem eR:type_of% @Tryz.isAgg63:=@Tryz.isAgg63
theorem cA:type_of% @Tryz.isAgg68:=@Tryz.isAgg68
theorem aN:type_of% @Tryz.isAgg70:=@Tryz.isAgg70
theorem dB:type_of% @Tryz.isAgg80:=@Tryz.isAgg80
theorem mE:type_of% @Tryz.results107:=@Tryz.results107
theorem sd:type_of% @Tryz.results108:=@Tryz.results108
theorem mD:type_of% @Tryz.results109:=@Tryz.results109
theorem jR:type_of% @Tryz.results110:=@Tryz.results110
theorem gh:type_of% @Tryz.results112:=@Tryz.results112
theorem uq:type_of% @Tryz.results14:=@Tryz.results14
theorem sc:type_of% @Tryz.results168:=@Tryz.results168
theorem Aj:type_of% @Tryz.results202:=@Tryz.results202
theorem gN:type_of% @Tryz.results22:=@Tryz.results22
theorem mC:type_of% @Tryz.results232:=@Tryz.results232
theorem iV:type_of% @Tryz.results24:=@Tryz.results24
theorem Ai:type_of% @Tryz.results247:=@Tryz.results247
theorem uo:type_of% @Tryz.results41:=@Tryz.results41
theorem kL:type_of% @Tryz.results42:=@Tryz.results42
theorem kK:type_of% @Tryz.results43:=@Tryz.results43
theorem ow:type_of% @Tryz.results46:=@Tryz.results46
theorem um:type_of% @Tryz.results53:=@Tryz.results53
theorem Dc:type_of% @Tryz.results64:=@Tryz.results64
theorem gQ:type_of% @Tryz.runUnderlying106:=@Tryz.runUnderlying106
theorem gP:type_of% @Tryz.runUnderlying108:=@Tryz.runUnderlying108
theorem BP:type_of% @Tryz.runUnderlying140:=@Tryz.runUnderlying140
theorem BO:type_of% @Tryz.runUnderlying158:=@Tryz.runUnderlying158
theorem pw:type_of% @Tryz.runUnderlying160:=@Tryz.runUnderlying160
theorem BN:type_of% @Tryz.runUnderlying172:=@Tryz.runUnderlying172
theorem aD:type_of% @Tryz.runUnderlying182:=@Tryz.runUnderlying182
theorem pv:type_of% @Tryz.runUnderlying189:=@Tryz.runUnderlying189
theorem pq:type_of% @Tryz.runUnderlying199:=@Tryz.runUnderlying199
theorem ae:type_of% @Tryz.runUnderlying22:=@Tryz.runUnderlying22
theorem BM:type_of% @Tryz.runUnderlying231:=@Tryz.runUnderlying231
theorem eG:type_of% @Tryz.runUnderlying233:=@Tryz.runUnderlying233
theorem aQ:type_of% @Tryz.runUnderlying25:=@Tryz.runUnderlying25
theorem eF:type_of% @Tryz.runUnderlying250:=@Tryz.runUnderlying250
theorem BL:type_of% @Tryz.runUnderlying259:=@Tryz.runUnderlying259
theorem re:type_of% @Tryz.runUnderlying27:=@Tryz.runUnderlying27
theorem Db:type_of% @Tryz.runUnderlying29:=@Tryz.runUnderlying29
theorem bh:type_of% @Tryz.runUnderlying3:=@Tryz.runUnderlying3
theorem ke:type_of% @Tryz.runUnderlying302:=@Tryz.runUnderlying302
theorem dq:type_of% @Tryz.runUnderlying310:=@Tryz.runUnderlying310
theorem kJ:type_of% @Tryz.runUnderlying34:=@Tryz.runUnderlying34
theorem aA:type_of% @Tryz.runUnderlying35:=@Tryz.runUnderlying35
theorem aV:type_of% @Tryz.runUnderlying36:=@Tryz.runUnderlying36
theorem Da:type_of% @Tryz.runUnderlying38:=@Tryz.runUnderlying38
theorem kI:type_of% @Tryz.runUnderlying44:=@Tryz.runUnderlying44
theorem fS:type_of% @Tryz.runUnderlying49:=@Tryz.runUnderlying49
theorem aU:type_of% @Tryz.runUnderlying51:=@Tryz.runUnderlying51
theorem aq:type_of% @Tryz.runUnderlying61:=@Tryz.runUnderlying61
theorem aI:type_of% @Tryz.runUnderlying68:=@Tryz.runUnderlying68
theorem fR:type_of% @Tryz.runUnderlying80:=@Tryz.runUnderlying80
theorem uk:type_of% @Tryz.sizeOf106:=@Tryz.sizeOf106
theorem bQ:type_of% @Tryz.sizeOf108:=@Tryz.sizeOf108
theorem dT:type_of% @Tryz.sizeOf140:=@Tryz.sizeOf140
theorem ou:type_of% @Tryz.sizeOf158:=@Tryz.sizeOf158
theorem aS:type_of% @Tryz.sizeOf160:=@Tryz.sizeOf160
theorem uj:type_of% @Tryz.sizeOf182:=@Tryz.sizeOf182
theorem aK:type_of% @Tryz.sizeOf189:=@Tryz.sizeOf189
theorem az:type_of% @Tryz.sizeOf22:=@Tryz.sizeOf22
theorem kH:type_of% @Tryz.sizeOf236:=@Tryz.sizeOf236
theorem bA:type_of% @Tryz.sizeOf29:=@Tryz.sizeOf29
theorem ai:type_of% @Tryz.sizeOf3:=@Tryz.sizeOf3
theorem oq:type_of% @Tryz.sizeOf300:=@Tryz.sizeOf300
theorem cU:type_of% @Tryz.sizeOf315:=@Tryz.sizeOf315
theorem aC:type_of% @Tryz.sizeOf34:=@Tryz.sizeOf34
theorem ml:type_of% @Tryz.sizeOf35:=@Tryz.sizeOf35
theorem aE:type_of% @Tryz.sizeOf38:=@Tryz.sizeOf38
theorem ln:type_of% @Tryz.sizeOf4:=@Tryz.sizeOf4
theorem aT:type_of% @Tryz.sizeOf44:=@Tryz.sizeOf44
theorem bw:type_of% @Tryz.sizeOf49:=@Tryz.sizeOf49
theorem c9:type_of% @Tryz.sizeOf63:=@Tryz.sizeOf63
theorem j7:type_of% @Tryz.sizeOf68:=@Tryz.sizeOf68
theorem aB:type_of% @Tryz.sizeOf70:=@Tryz.sizeOf70
theorem aF:type_of% @Tryz.sizeOf80:=@Tryz.sizeOf80
theorem yo:type_of% @Tryz.typeInfo189:=@Tryz.typeInfo189
theorem dS:type_of% @Tryz.typeInfo3:=@Tryz.typeInfo3
theorem ki:type_of% @Tryz.underlying27:=@Tryz.underlying27
theorem iU:type_of% @Tryz.underlying3:=@Tryz.underlying3
theorem yn:type_of% @Tryz.underlying4:=@Tryz.underlying4
theorem wu:type_of% @Tryz.zeroValue108:=@Tryz.zeroValue108
theorem oo:type_of% @Tryz.zeroValue140:=@Tryz.zeroValue140
theorem kh:type_of% @Tryz.zeroValue158:=@Tryz.zeroValue158
theorem fm:type_of% @Tryz.zeroValue160:=@Tryz.zeroValue160
theorem dX:type_of% @Tryz.zeroValue189:=@Tryz.zeroValue189
theorem dV:type_of% @Tryz.zeroValue22:=@Tryz.zeroValue22
theorem Gb:type_of% @Tryz.zeroValue231:=@Tryz.zeroValue231
theorem bJ:type_of% @Tryz.zeroValue3:=@Tryz.zeroValue3
theorem wq:type_of% @Tryz.zeroValue300:=@Tryz.zeroValue300
theorem Ga:type_of% @Tryz.zeroValue315:=@Tryz.zeroValue315
theorem gK:type_of% @Tryz.zeroValue34:=@Tryz.zeroValue34
theorem eo:type_of% @Tryz.zeroValue38:=@Tryz.zeroValue38
theorem eU:type_of% @Tryz.zeroValue44:=@Tryz.zeroValue44
theorem lk:type_of% @Tryz.zeroValue49:=@Tryz.zeroValue49
theorem ym:type_of% @Tryz.zeroValue63:=@Tryz.zeroValue63
theorem bV:type_of% @Tryz.zeroValue70:=@Tryz.zeroValue70
theorem ek:type_of% @Tryz.zeroValue80:=@Tryz.zeroValue80
end Go.Proofs.YtddaejgfjlneoaaGreat
namespace Go.Proofs.YtddaejgfjlneoaaGreat
open Go.MW Go.ChangeShapes Go.WideShapes
set_option maxRecDepth 100000
theorem Bz:Tryz.prog.cellsOf 3=1:=by kernel_rfl
theorem Dy:Tryz.prog.cellsOf 22=1:=by kernel_rfl
theorem FY:Tryz.prog.bytesOf 3=8:=by kernel_rfl
theorem Cj:reachBytes=140737488351232:=rfl
section
variable{H:Type}{enc:TypeId×Value→H}{w:World}{sp:Nat→Bool}{held:Bool}{n:Nat}{cs:List Value}{y:DataW H×List MemPlace}{v:Value}{d:DataW H}{p:List MemPlace}{r:Reach}{base:Nat}
theorem Dq(hw:Wt Tryz.prog 22 y.1)(h:DataW.trod enc Tryz.prog w 0 sp held n 22 cs=some y):∃v xs,cs=[v]∧RI (hp w) v xs∧IsIn xs:=by
 obtain ⟨v,xs,h1,h2,h3,h4⟩:=DJ Tryz.underlying22 iU Bz hw h
 rw [FY,Cj] at h3
 exact ⟨v,xs,h1,h2,ak,h4⟩
end
end Go.Proofs.YtddaejgfjlneoaaGreat
namespace Go.Proofs.YtddaejgfjlneoaaGreat
open Go.MW Go.ChangeShapes Go.WideShapes Go.ChangeAt Go.RowKit
set_option maxRecDepth 100000 in
theorem E6{H:Type}{enc:TypeId×Value→H}{w:World}{sp:Nat→Bool}{held:Bool}{v:Value}{d:DataW H}{p:List MemPlace}{r:Reach}{base:Nat}
  (hv:Value.okWide Tryz.prog w r base 3 v) (h:DataW.Trod enc Tryz.prog w 0 sp held 3 v d p):∃a,v=I a∧I64 a:=by
 obtain ⟨a,rfl,rfl,rfl,wa⟩:=open_int iU hv h
 exact ⟨a,rfl,Gh wa⟩
open Go.MW Go.ChangeShapes Go.WideShapes
set_option maxRecDepth 100000
theorem C2:Tryz.prog.cellsOf 23=1:=by kernel_rfl
theorem C1:Tryz.prog.cellsOf 24=1:=by kernel_rfl
theorem c_53:Tryz.prog.cellsOf 106=5:=by kernel_rfl
theorem c_43:Tryz.prog.cellsOf 199=4:=by kernel_rfl
theorem FX:Tryz.prog.cellsOf 25=3:=by kernel_rfl
theorem Ei:Tryz.prog.cellsOf 27=7:=by kernel_rfl
theorem len7{α:Type}{l:List α}(h:l.length=7):∃a b c d e f g,l=[a,b,c,d,e,f,g]:=by match l,h with|[a,b,c,d,e,f,g],_=>exact ⟨a,b,c,d,e,f,g,rfl⟩
theorem Dv:∀{zs:List (List Int)},(∀z∈zs,z.length=5∧∀y∈z,I64 y)→∃ls:List F5,zs.map Is=ls.map F5.v
 |[],_=>⟨[],rfl⟩
 |z::zs,h=>by
  obtain ⟨ls,h1⟩:=Dv (fun c hc=>h c (.tail _ hc))
  obtain ⟨h3,_⟩:=h z (.head _)
  match z,h3 with
  |[a,b,c,d,e],_=>exact ⟨⟨a,b,c,d,e⟩::ls,by rw [List.map_cons,h1];rfl⟩
theorem Du:∀{zs:List (List Int)},(∀z∈zs,z.length=4∧∀y∈z,I64 y)→∃ls:List F4,zs.map Is=ls.map F4.v
 |[],_=>⟨[],rfl⟩
 |z::zs,h=>by
  obtain ⟨ls,h1⟩:=Du (fun c hc=>h c (.tail _ hc))
  obtain ⟨h3,_⟩:=h z (.head _)
  match z,h3 with
  |[a,b,c,d],_=>exact ⟨⟨a,b,c,d⟩::ls,by rw [List.map_cons,h1];rfl⟩
structure Ez where
 sp:List Int
 rs:List F5
 cs:List F4
 pk:List Int
 x:Int
 y:Int
 z:Int
def BG(H:bX)(v:Value)(r:Ez):Prop:=∃vs v5 v4 vp,v= .agg #[vs,v5,v4,vp,I r.x,I r.y,I r.z]∧RI H vs r.sp∧RF5 H v5 r.rs∧RF4 H v4 r.cs∧RI H vp r.pk
section
variable{H:Type}{enc:TypeId×Value→H}{w:World}{sp:Nat→Bool}{held:Bool}{n:Nat}{cs:List Value}{y:DataW H×List MemPlace}{v:Value}{d:DataW H}{p:List MemPlace}{r:Reach}{base:Nat}
theorem CC(hw:Wt Tryz.prog 23 y.1)(h:DataW.trod enc Tryz.prog w 0 sp held n 23 cs=some y):∃(v:Value) (ls:List F5),cs=[v]∧RF5 (hp w) v ls:=by
 obtain ⟨v,zs,h1,h2,_,h3⟩:=Ap (k:=5) Tryz.underlying23 Tryz.underlying106 iU Bz gd c_53 hw h
 obtain ⟨ls,h4⟩:=Dv h3
 exact ⟨v,ls,h1,by unfold RF5;rw [←h4];exact h2⟩
theorem CB(hw:Wt Tryz.prog 24 y.1)(h:DataW.trod enc Tryz.prog w 0 sp held n 24 cs=some y):∃(v:Value) (ls:List F4),cs=[v]∧RF4 (hp w) v ls:=by
 obtain ⟨v,zs,h1,h2,_,h3⟩:=Ap (k:=4) Tryz.underlying24 Tryz.underlying199 iU Bz gd c_43 hw h
 obtain ⟨ls,h4⟩:=Du h3
 exact ⟨v,ls,h1,by unfold RF4;rw [←h4];exact h2⟩
theorem uF(hv:Value.okWide Tryz.prog w r base 27 v)(h:DataW.Trod enc Tryz.prog w 0 sp held 27 v d p)(hw:Wt Tryz.prog 27 d):∃q:Ez,BG (hp w) v q∧True:=by
 obtain ⟨cs,n,rfl,hn,_⟩:=zZ ki hv h
 obtain ⟨ys,m,_,e,hlen,hyl,hg⟩:=DataW.trod_struct ki hn
 cases e
 rw [Ei] at hlen
 obtain ⟨c0,c1,c2,c3,c4,c5,c6,rfl⟩:=len7 hlen
 obtain ⟨_,h0,k0⟩:=fld hg hyl 0 rfl rfl rfl Dy ki hw
 obtain ⟨_,h1,k1⟩:=fld hg hyl 1 rfl rfl rfl C2 ki hw
 obtain ⟨_,h2,k2⟩:=fld hg hyl 2 rfl rfl rfl C1 ki hw
 obtain ⟨_,h3,k3⟩:=fld hg hyl 3 rfl rfl rfl Dy ki hw
 obtain ⟨_,h4,k4⟩:=fld hg hyl 4 rfl rfl rfl FX ki hw
 obtain ⟨v0,s0,e0,r0,i0⟩:=Dq k0 h0
 obtain ⟨v1,l1,e1,r1⟩:=CC k1 h1
 obtain ⟨v2,l2,e2,r2⟩:=CB k2 h2
 obtain ⟨v3,s3,e3,r3,i3⟩:=Dq k3 h3
 obtain ⟨xs,g1,g2,g3⟩:=u6 Tryz.underlying25 iU Bz FX h4
 obtain ⟨a,b,c,rfl⟩:=Gk g1
 cases e0;cases e1;cases e2;cases e3;cases g2
 exact ⟨⟨s0,l1,l2,s3,a,b,c⟩,⟨_,_,_,_,rfl,r0,r1,r2,r3⟩,trivial⟩
theorem xP(hv:Value.okWide Tryz.prog w r base 25 v)(h:DataW.Trod enc Tryz.prog w 0 sp held 25 v d p)(_:Wt Tryz.prog 25 d):∃x:Int×Int×Int,v= .agg #[I x.1,I x.2.1,I x.2.2]∧True:=by
 obtain ⟨cs,n,rfl,hn⟩:=Em Tryz.underlying25 hv h
 obtain ⟨xs,h1,rfl,h3⟩:=u6 Tryz.underlying25 iU Bz FX hn
 obtain ⟨a,b,c,rfl⟩:=Gk h1
 exact ⟨⟨a,b,c⟩,rfl,trivial⟩
end
end Go.Proofs.YtddaejgfjlneoaaGreat
namespace Go.Proofs.YtddaejgfjlneoaaGreat
open Go.MW Go.ChangeShapes Go.WideShapes
set_option maxRecDepth 100000
section
variable{H:Type}{enc:TypeId×Value→H}{w:World}{sp:Nat→Bool}{held:Bool}{n:Nat}{cs:List Value}{y:DataW H×List MemPlace}{v:Value}{d:DataW H}{p:List MemPlace}{r:Reach}{base:Nat}
theorem E7(hv:Value.okWide Tryz.prog w r base 4 v)(h:DataW.Trod enc Tryz.prog w 0 sp held 4 v d p)(_:Wt Tryz.prog 4 d):∃b:Bool,v= .bool b∧True:=by
 obtain ⟨b,rfl,_⟩:=Go.RowKit.open_bool yn hv h
 exact ⟨b,rfl,trivial⟩
end
end Go.Proofs.YtddaejgfjlneoaaGreat
namespace Go.Proofs.YtddaejgfjlneoaaGreat
theorem Bx:Tryz.prog.make=some .cut:=by kernel_rfl
theorem ze:Tryz.prog.mayEnter=true:=by kernel_rfl
theorem zb:Tryz.prog.liftsFinal=false:=by kernel_rfl
theorem By:Tryz.prog.plainKeys=true:=by kernel_rfl
theorem vU:laidOutB Tryz.prog=true:=by kernel_rfl
theorem Bw:mapsRowed Tryz.prog=true:=by kernel_rfl
theorem zd:Tryz.prog.stopsHeard=true:=by kernel_rfl
theorem za:Tryz.prog.stops=[]:=by kernel_rfl
theorem zc:Tryz.prog.stopKnobs=[]:=by kernel_rfl
theorem iE{a b:Bool}(h:a=true)(k:b=true):(a&&b)=true:=by rw [h,k];rfl
theorem BU{α:Type}[BEq α][LawfulBEq α]{a b:α}(h:a=b):(a==b)=true:=by rw [h];exact beq_self_eq_true _
theorem Dx:ownKnob Tryz.prog.godebug=none:=by kernel_rfl
end Go.Proofs.YtddaejgfjlneoaaGreat
namespace Go.Proofs.YtddaejgfjlneoaaGreat
open Go.MW
theorem mix:Tryz.prog.follows .mixedOrders=true:=by kernel_rfl
theorem ns:FA Tryz.prog 27 0 0:=by
 have h:=gO (k:=0) re rfl az
 exact h
theorem gG:FA Tryz.prog 27 1 1:=by
 have h:=gO (k:=1) re rfl Tryz.sizeOf23
 exact h
theorem jA:FA Tryz.prog 27 2 2:=by
 have h:=gO (k:=2) re rfl Tryz.sizeOf24
 exact h
theorem nr:FA Tryz.prog 27 3 3:=by
 have h:=gO (k:=3) re rfl az
 exact h
theorem nq:FA Tryz.prog 27 4 4:=by
 have h:=gO (k:=4) re rfl Tryz.sizeOf25
 exact h
theorem kc:FA Tryz.prog 29 0 0:=by
 have h:=gO (k:=0) Db rfl ai
 exact h
theorem dR:FA Tryz.prog 29 1 1:=by
 have h:=gO (k:=1) Db rfl ai
 exact h
theorem df:FA Tryz.prog 29 2 2:=by
 have h:=gO (k:=2) Db rfl ai
 exact h
theorem iQ:FA Tryz.prog 32 0 0:=by
 have h:=gO (k:=0) Tryz.runUnderlying32 rfl ai
 exact h
theorem iP:FA Tryz.prog 32 1 1:=by
 have h:=gO (k:=1) Tryz.runUnderlying32 rfl ai
 exact h
theorem lg:FA Tryz.prog 34 0 0:=by
 have h:=gO (k:=0) kJ rfl ai
 exact h
theorem dv:FA Tryz.prog 34 1 1:=by
 have h:=gO (k:=1) kJ rfl ai
 exact h
theorem bp:FA Tryz.prog 34 2 2:=by
 have h:=gO (k:=2) kJ rfl az
 exact h
theorem aW:FA Tryz.prog 34 3 3:=by
 have h:=gO (k:=3) kJ rfl az
 exact h
theorem dO:FA Tryz.prog 34 4 4:=by
 have h:=gO (k:=4) kJ rfl Tryz.sizeOf32
 exact h
theorem aO:FA Tryz.prog 38 0 0:=by
 have h:=gO (k:=0) Da rfl aC
 exact h
theorem aM:FA Tryz.prog 38 1 6:=by
 have h:=gO (k:=1) Da rfl ml
 exact h
theorem bO:FA Tryz.prog 38 2 7:=by
 have h:=gO (k:=2) Da rfl Tryz.sizeOf36
 exact h
theorem lh:FA Tryz.prog 44 0 0:=by
 have h:=gO (k:=0) kI rfl ai
 exact h
theorem oA:FA Tryz.prog 44 1 1:=by
 have h:=gO (k:=1) kI rfl ai
 exact h
theorem mx:FA Tryz.prog 49 0 0:=by
 have h:=gO (k:=0) fS rfl ai
 exact h
theorem jL:FA Tryz.prog 49 1 1:=by
 have h:=gO (k:=1) fS rfl ai
 exact h
theorem dz:FA Tryz.prog 63 0 0:=by
 have h:=gO (k:=0) Tryz.runUnderlying63 rfl Tryz.sizeOf61
 exact h
theorem bI:FA Tryz.prog 70 0 0:=by
 have h:=gO (k:=0) Tryz.runUnderlying70 rfl ai
 exact h
theorem bE:FA Tryz.prog 70 1 1:=by
 have h:=gO (k:=1) Tryz.runUnderlying70 rfl j7
 exact h
theorem eg:FA Tryz.prog 80 0 0:=by
 have h:=gO (k:=0) fR rfl ai
 exact h
theorem eM:FA Tryz.prog 80 1 1:=by
 have h:=gO (k:=1) fR rfl ai
 exact h
theorem eL:FA Tryz.prog 80 2 2:=by
 have h:=gO (k:=2) fR rfl ai
 exact h
theorem cM:FA Tryz.prog 80 3 3:=by
 have h:=gO (k:=3) fR rfl ai
 exact h
theorem bY:FA Tryz.prog 80 4 4:=by
 have h:=gO (k:=4) fR rfl ai
 exact h
theorem ef:FA Tryz.prog 80 5 5:=by
 have h:=gO (k:=5) fR rfl ai
 exact h
theorem ee:FA Tryz.prog 80 6 6:=by
 have h:=gO (k:=6) fR rfl ai
 exact h
theorem fZ:FA Tryz.prog 108 0 0:=by
 have h:=gO (k:=0) gP rfl ai
 exact h
theorem ia:FA Tryz.prog 108 1 1:=by
 have h:=gO (k:=1) gP rfl ai
 exact h
theorem fq:FA Tryz.prog 108 2 2:=by
 have h:=gO (k:=2) gP rfl ai
 exact h
theorem eP:FA Tryz.prog 108 3 3:=by
 have h:=gO (k:=3) gP rfl ai
 exact h
theorem eO:FA Tryz.prog 108 4 4:=by
 have h:=gO (k:=4) gP rfl ai
 exact h
theorem eN:FA Tryz.prog 108 5 5:=by
 have h:=gO (k:=5) gP rfl ai
 exact h
theorem jz:FA Tryz.prog 140 0 0:=by
 have h:=gO (k:=0) BP rfl aB
 exact h
theorem jy:FA Tryz.prog 140 1 2:=by
 have h:=gO (k:=1) BP rfl az
 exact h
theorem jx:FA Tryz.prog 140 2 3:=by
 have h:=gO (k:=2) BP rfl ai
 exact h
theorem cZ:FA Tryz.prog 158 0 0:=by
 have h:=gO (k:=0) BO rfl ai
 exact h
theorem cV:FA Tryz.prog 158 1 1:=by
 have h:=gO (k:=1) BO rfl ai
 exact h
theorem dU:FA Tryz.prog 158 2 2:=by
 have h:=gO (k:=2) BO rfl ai
 exact h
theorem dE:FA Tryz.prog 160 0 0:=by
 have h:=gO (k:=0) pw rfl ai
 exact h
theorem dP:FA Tryz.prog 160 1 1:=by
 have h:=gO (k:=1) pw rfl ai
 exact h
theorem eX:FA Tryz.prog 160 2 2:=by
 have h:=gO (k:=2) pw rfl ai
 exact h
theorem gj:FA Tryz.prog 160 3 3:=by
 have h:=gO (k:=3) pw rfl ai
 exact h
theorem dy:FA Tryz.prog 172 0 0:=by
 have h:=gO (k:=0) BN rfl aE
 exact h
theorem fu:FA Tryz.prog 172 1 8:=by
 have h:=gO (k:=1) BN rfl Tryz.sizeOf51
 exact h
theorem gq:FA Tryz.prog 172 2 9:=by
 have h:=gO (k:=2) BN rfl j7
 exact h
theorem dn:FA Tryz.prog 189 0 0:=by
 have h:=gO (k:=0) pv rfl ai
 exact h
theorem dt:FA Tryz.prog 189 1 1:=by
 have h:=gO (k:=1) pv rfl ai
 exact h
theorem ff:FA Tryz.prog 189 2 2:=by
 have h:=gO (k:=2) pv rfl ai
 exact h
theorem dM:FA Tryz.prog 189 3 3:=by
 have h:=gO (k:=3) pv rfl ai
 exact h
theorem qY:FA Tryz.prog 231 0 0:=by
 have h:=gO (k:=0) BM rfl Tryz.sizeOf228
 exact h
theorem qX:FA Tryz.prog 231 1 1:=by
 have h:=gO (k:=1) BM rfl Tryz.sizeOf229
 exact h
theorem qW:FA Tryz.prog 231 2 2:=by
 have h:=gO (k:=2) BM rfl ai
 exact h
theorem cK:FA Tryz.prog 236 0 0:=by
 have h:=gO (k:=0) Tryz.runUnderlying236 rfl bA
 exact h
theorem e7:FA Tryz.prog 236 1 3:=by
 have h:=gO (k:=1) Tryz.runUnderlying236 rfl aC
 exact h
theorem fg:FA Tryz.prog 259 0 0:=by
 have h:=gO (k:=0) BL rfl aB
 exact h
theorem gH:FA Tryz.prog 259 1 2:=by
 have h:=gO (k:=1) BL rfl az
 exact h
theorem dN:FA Tryz.prog 259 2 3:=by
 have h:=gO (k:=2) BL rfl az
 exact h
theorem oz:FA Tryz.prog 294 0 0:=by
 have h:=gO (k:=0) Tryz.runUnderlying294 rfl az
 exact h
theorem fE:FA Tryz.prog 300 0 0:=by
 have h:=gO (k:=0) Tryz.runUnderlying300 rfl ai
 exact h
theorem gY:FA Tryz.prog 300 1 1:=by
 have h:=gO (k:=1) Tryz.runUnderlying300 rfl ai
 exact h
theorem db:FA Tryz.prog 315 0 0:=by
 have h:=gO (k:=0) Tryz.runUnderlying315 rfl ai
 exact h
theorem iX:FA Tryz.prog 315 1 1:=by
 have h:=gO (k:=1) Tryz.runUnderlying315 rfl ln
 exact h
theorem jD:sx Tryz.prog 29 [(0,1),(1,1),(2,1)] [.int .i64 0,.int .i64 0,.int .i64 0]:=lj Tryz.zeroValue29 rfl Db (by simp [Tryz.sizeOf3])
theorem ru:sx Tryz.prog 32 [(0,1),(1,1)] [.int .i64 0,.int .i64 0]:=lj Tryz.zeroValue32 rfl Tryz.runUnderlying32 (by simp [Tryz.sizeOf3])
theorem qm:sx Tryz.prog 34 [(0,1),(1,1),(2,1),(3,1),(4,2)] [.int .i64 0,.int .i64 0,.slice none 0 0,.slice none 0 0,.int .i64 0,.int .i64 0]:=lj gK rfl kJ (by simp [Tryz.sizeOf22,Tryz.sizeOf3,Tryz.sizeOf32])
theorem oE:sx Tryz.prog 38 [(0,6),(6,1),(7,1)] [.int .i64 0,.int .i64 0,.slice none 0 0,.slice none 0 0,.int .i64 0,.int .i64 0,.slice none 0 0,.slice none 0 0]:=lj eo rfl Da (by simp [Tryz.sizeOf34,Tryz.sizeOf35,Tryz.sizeOf36])
theorem cn:sx Tryz.prog 44 [(0,1),(1,1)] [.int .i64 0,.int .i64 0]:=lj eU rfl kI (by simp [Tryz.sizeOf3])
theorem fO:sx Tryz.prog 49 [(0,1),(1,1)] [.int .i64 0,.int .i64 0]:=lj lk rfl fS (by simp [Tryz.sizeOf3])
theorem ny:sx Tryz.prog 63 [(0,1)] [.slice none 0 0]:=lj ym rfl Tryz.runUnderlying63 (by simp [Tryz.sizeOf61])
theorem fF:sx Tryz.prog 70 [(0,1),(1,1)] [.int .i64 0,.slice none 0 0]:=lj bV rfl Tryz.runUnderlying70 (by simp [Tryz.sizeOf3,Tryz.sizeOf68])
theorem fh:sx Tryz.prog 80 [(0,1),(1,1),(2,1),(3,1),(4,1),(5,1),(6,1)] [.int .i64 0,.int .i64 0,.int .i64 0,.int .i64 0,.int .i64 0,.int .i64 0,.int .i64 0]:=lj ek rfl fR (by simp [Tryz.sizeOf3])
theorem nz:sx Tryz.prog 108 [(0,1),(1,1),(2,1),(3,1),(4,1),(5,1)] [.int .i64 0,.int .i64 0,.int .i64 0,.int .i64 0,.int .i64 0,.int .i64 0]:=lj wu rfl gP (by simp [Tryz.sizeOf3])
theorem fJ:sx Tryz.prog 140 [(0,2),(2,1),(3,1)] [.int .i64 0,.slice none 0 0,.slice none 0 0,.int .i64 0]:=lj oo rfl BP (by simp [Tryz.sizeOf22,Tryz.sizeOf3,Tryz.sizeOf70])
theorem ql:sx Tryz.prog 158 [(0,1),(1,1),(2,1)] [.int .i64 0,.int .i64 0,.int .i64 0]:=lj kh rfl BO (by simp [Tryz.sizeOf3])
theorem eD:sx Tryz.prog 160 [(0,1),(1,1),(2,1),(3,1)] [.int .i64 0,.int .i64 0,.int .i64 0,.int .i64 0]:=lj fm rfl pw (by simp [Tryz.sizeOf3])
theorem lY:sx Tryz.prog 172 [(0,8),(8,1),(9,1)] [.int .i64 0,.int .i64 0,.slice none 0 0,.slice none 0 0,.int .i64 0,.int .i64 0,.slice none 0 0,.slice none 0 0,.slice none 0 0,.slice none 0 0]:=lj Tryz.zeroValue172 rfl BN (by simp [Tryz.sizeOf38,Tryz.sizeOf51,Tryz.sizeOf68])
theorem oC:sx Tryz.prog 189 [(0,1),(1,1),(2,1),(3,1)] [.int .i64 0,.int .i64 0,.int .i64 0,.int .i64 0]:=lj dX rfl pv (by simp [Tryz.sizeOf3])
theorem ic:sx Tryz.prog 231 [(0,1),(1,1),(2,1)] [.nilFunc,.nilFunc,.int .i64 0]:=lj Gb rfl BM (by simp [Tryz.sizeOf228,Tryz.sizeOf229,Tryz.sizeOf3])
theorem rY:sx Tryz.prog 236 [(0,3),(3,6)] [.int .i64 0,.int .i64 0,.int .i64 0,.int .i64 0,.int .i64 0,.slice none 0 0,.slice none 0 0,.int .i64 0,.int .i64 0]:=lj Tryz.zeroValue236 rfl Tryz.runUnderlying236 (by simp [Tryz.sizeOf29,Tryz.sizeOf34])
theorem oD:sx Tryz.prog 259 [(0,2),(2,1),(3,1)] [.int .i64 0,.slice none 0 0,.slice none 0 0,.slice none 0 0]:=lj Tryz.zeroValue259 rfl BL (by simp [Tryz.sizeOf22,Tryz.sizeOf70])
theorem vY:sx Tryz.prog 294 [(0,1)] [.slice none 0 0]:=lj Tryz.zeroValue294 rfl Tryz.runUnderlying294 (by simp [Tryz.sizeOf22])
theorem qn:sx Tryz.prog 300 [(0,1),(1,1)] [.int .i64 0,.int .i64 0]:=lj wq rfl Tryz.runUnderlying300 (by simp [Tryz.sizeOf3])
theorem gJ:sx Tryz.prog 315 [(0,1),(1,1)] [.int .i64 0,.bool false]:=lj Ga rfl Tryz.runUnderlying315 (by simp [Tryz.sizeOf3,Tryz.sizeOf4])
theorem kZ:wm Tryz.prog 22 0 1 []:=og ae ai bJ gd au
theorem cQ:wm Tryz.prog 22 1 1 [.int .i64 0]:=og ae ai bJ gd au
theorem iC:wm Tryz.prog 22 2 1 [.int .i64 0,.int .i64 0]:=og ae ai bJ gd au
theorem xk:wm Tryz.prog 22 3 1 [.int .i64 0,.int .i64 0,.int .i64 0]:=og ae ai bJ gd au
theorem oe:wm Tryz.prog 35 0 7 []:=og aA aF ek gd au
theorem eS:wm Tryz.prog 35 1 7 [.int .i64 0,.int .i64 0,.int .i64 0,.int .i64 0,.int .i64 0,.int .i64 0,.int .i64 0]:=og aA aF ek gd au
theorem od:wm Tryz.prog 35 4 7 [.int .i64 0,.int .i64 0,.int .i64 0,.int .i64 0,.int .i64 0,.int .i64 0,.int .i64 0,.int .i64 0,.int .i64 0,.int .i64 0,.int .i64 0,.int .i64 0,.int .i64 0,.int .i64 0,.int .i64 0,.int .i64 0,.int .i64 0,.int .i64 0,.int .i64 0,.int .i64 0,.int .i64 0,.int .i64 0,.int .i64 0,.int .i64 0,.int .i64 0,.int .i64 0,.int .i64 0,.int .i64 0]:=og aA aF ek gd au
theorem j5:wm Tryz.prog 36 1 6 [.int .i64 0,.int .i64 0,.int .i64 0,.int .i64 0,.int .i64 0,.int .i64 0]:=og aV bQ wu gd au
theorem fI:wm Tryz.prog 51 1 2 [.int .i64 0,.int .i64 0]:=og aU bw lk gd au
theorem oB:wm Tryz.prog 61 1 1 [.slice none 0 0]:=og aq az dV gd au
theorem ug:wm Tryz.prog 61 2 1 [.slice none 0 0,.slice none 0 0]:=og aq az dV gd au
theorem k7:wm Tryz.prog 68 1 4 [.int .i64 0,.int .i64 0,.int .i64 0,.int .i64 0]:=og aI aS fm gd au
theorem fy:wm Tryz.prog 68 2 4 [.int .i64 0,.int .i64 0,.int .i64 0,.int .i64 0,.int .i64 0,.int .i64 0,.int .i64 0,.int .i64 0]:=og aI aS fm gd au
theorem pb:wm Tryz.prog 182 1 4 [.int .i64 0,.int .i64 0,.int .i64 0,.int .i64 0]:=og aD aK dX gd au
theorem vX:wm Tryz.prog 223 6 1 [.nilFunc,.nilFunc,.nilFunc,.nilFunc,.nilFunc,.nilFunc]:=og Tryz.runUnderlying223 Tryz.sizeOf1 Tryz.zeroValue1 gd au
theorem qk:wm Tryz.prog 302 1 2 [.int .i64 0,.int .i64 0]:=og ke oq wq gd au
theorem bZ:BW Tryz.prog 22 22 3 1 8:=⟨ae,ae,ai,⟨_,dS,rfl,by decide⟩,⟨_,bJ,rfl⟩⟩
theorem cE:BW Tryz.prog 35 35 80 7 56:=⟨aA,aA,aF,⟨_,Tryz.typeInfo80,rfl,by decide⟩,⟨_,ek,rfl⟩⟩
theorem jE:BW Tryz.prog 36 36 108 6 48:=⟨aV,aV,bQ,⟨_,Tryz.typeInfo108,rfl,by decide⟩,⟨_,wu,rfl⟩⟩
theorem dK:BW Tryz.prog 51 51 49 2 16:=⟨aU,aU,bw,⟨_,Tryz.typeInfo49,rfl,by decide⟩,⟨_,lk,rfl⟩⟩
theorem kA:BW Tryz.prog 61 61 22 1 24:=⟨aq,aq,az,⟨_,Tryz.typeInfo22,rfl,by decide⟩,⟨_,dV,rfl⟩⟩
theorem bM:BW Tryz.prog 68 68 160 4 32:=⟨aI,aI,aS,⟨_,Tryz.typeInfo160,rfl,by decide⟩,⟨_,fm,rfl⟩⟩
theorem kd:BW Tryz.prog 182 182 189 4 32:=⟨aD,aD,aK,⟨_,yo,rfl,by decide⟩,⟨_,dX,rfl⟩⟩
theorem kF:BW Tryz.prog 302 302 300 2 16:=⟨ke,ke,oq,⟨_,Tryz.typeInfo300,rfl,by decide⟩,⟨_,wq,rfl⟩⟩
end Go.Proofs.YtddaejgfjlneoaaGreat
namespace Go.Proofs.YtddaejgfjlneoaaGreat
open Go.MW
variable{H:bX}{w:World}{σ:List Ent}
theorem fN{a0 a1 a2:Int}(hs:St H w σ):Cl Tryz.prog 161 [I a0,I a1,I a2] w fun v w'=>v= .bool (decide (a1≤a0∧a0≤a2))∧St H w' σ:=by
 refine Cl.o Tryz.func161 Tryz.ntmps161 ag3 ?_
 refine .aj (.z zg (.nil (.aj (.z zm (.z zm (.z wh (.z zm ?_)))))))
 refine .iD (t':=10) rfl (fun hb10=>?_) (fun hb10=>?_)
 ·refine .gT rfl rfl ?_
  refine .z zm ?_
  refine .gT rfl rfl ?_
  refine .z zm ?_
  refine .gT rfl rfl ?_
  refine .z wh (.z zpT (.z zg (.nil ?_)))
  refine .ret (Fin.bH Tryz.results161 rfl ?_)
  exact ⟨by simp [*],hs.out⟩
 ·refine .gFs 3 3 true rfl rfl rfl ?_
  refine .z zpF (.z zg (.nil ?_))
  refine .ret (Fin.bH Tryz.results161 rfl ?_)
  exact ⟨by simp [*],hs.out⟩
theorem qj{many:Int}{l:Lim}(hs:St H w σ):Cl Tryz.prog 202 [I many,.agg l.c.toArray] w fun v w'=>v= .bool (l.ok many)∧St H w' σ:=by
 refine Cl.o Tryz.func202 Tryz.ntmps202 ag2 ?_
 refine .aj ?_
 refine .bx hs fun b3 w hs=>?_
 refine .z zg (.nil (.aj (.z (zfa dE) (.y hs (zld af) (.z zm ?_)))))
 refine .o (.call Gd rfl (fN hs) ?_);rintro _ w ⟨rfl,hs⟩
 refine .z zm ?_
 refine .bif (t':=9) rfl (fun hb9=>?_) (fun hb9=>?_)
 ·refine .gT rfl rfl ?_
  refine .z (zfa dP) ?_
  refine .gT rfl rfl ?_
  refine .y hs (zld af) ?_
  refine .gT rfl rfl ?_
  refine .z zm ?_
  refine .gT rfl rfl ?_
  refine .o (.call Gd rfl (fN hs) ?_);rintro _ w ⟨rfl,hs⟩
  refine .z zpT (.z zm ?_)
  refine .bif (t':=15) rfl (fun hb15=>?_) (fun hb15=>?_)
  ·refine .gT rfl rfl ?_
   refine .z (zfa dE) ?_
   refine .gT rfl rfl ?_
   refine .y hs (zld af) ?_
   refine .gT rfl rfl ?_
   refine .z (zfa dP) ?_
   refine .gT rfl rfl ?_
   refine .y hs (zld af) ?_
   refine .gT rfl rfl ?_
   refine .z gx (.z zpT (.z zm ?_))
   refine .yf (t':=22) rfl (fun hb22=>?_) (fun hb22=>?_)
   ·refine .gT rfl rfl ?_
    refine .z (zfa eX) ?_
    refine .gT rfl rfl ?_
    refine .y hs (zld af) ?_
    refine .gT rfl rfl ?_
    refine .o (.call Gd rfl (fN hs) ?_);rintro _ w ⟨rfl,hs⟩
    refine .z zpT (.z zm ?_)
    refine .bif (t':=27) rfl (fun hb27=>?_) (fun hb27=>?_)
    ·refine .gT rfl rfl ?_
     refine .z (zfa gj) ?_
     refine .gT rfl rfl ?_
     refine .y hs (zld af) ?_
     refine .gT rfl rfl ?_
     refine .o (.call Gd rfl (fN hs) ?_);rintro _ w ⟨rfl,hs⟩
     refine .z zpT (.z zg (.nil ?_))
     refine .ret (Fin.bH Aj rfl ?_)
     exact ⟨by simp [Lim.ok, *],hs.out⟩
    ·refine .gFs 3 22 true rfl rfl rfl ?_
     refine .z zpF (.z zg (.nil ?_))
     refine .ret (Fin.bH Aj rfl ?_)
     exact ⟨by simp [Lim.ok, *],hs.out⟩
   ·refine .gFs 3 17 true rfl rfl rfl ?_
    refine .z zpF (.z zm ?_)
    refine .gFs 3 22 true rfl rfl rfl ?_
    refine .z zpF (.z zg (.nil ?_))
    refine .ret (Fin.bH Aj rfl ?_)
    exact ⟨by simp [Lim.ok, *],hs.out⟩
  ·refine .gFs 5 10 true rfl rfl rfl ?_
   refine .z zpF (.z zm ?_)
   refine .gFs 3 17 true rfl rfl rfl ?_
   refine .z zpF (.z zm ?_)
   refine .gFs 3 22 true rfl rfl rfl ?_
   refine .z zpF (.z zg (.nil ?_))
   refine .ret (Fin.bH Aj rfl ?_)
   exact ⟨by simp [Lim.ok, *],hs.out⟩
 ·refine .gFs 4 4 true rfl rfl rfl ?_
  refine .z zpF (.z zm ?_)
  refine .gFs 5 10 true rfl rfl rfl ?_
  refine .z zpF (.z zm ?_)
  refine .gFs 3 17 true rfl rfl rfl ?_
  refine .z zpF (.z zm ?_)
  refine .gFs 3 22 true rfl rfl rfl ?_
  refine .z zpF (.z zg (.nil ?_))
  refine .ret (Fin.bH Aj rfl ?_)
  exact ⟨by simp [Lim.ok, *],hs.out⟩
theorem wg{v:Value}{ls:List Lim}{g:Nat}{cap:List Value}{p:Lim→Bool}(hs:St H w σ)(hr:RL H v ls)
  (hc:∀args w,(callFunc g args).run Tryz.prog w= .ok (.enter g args) w) (hp:∀w l,St H w σ→Cl Tryz.prog g ([.agg l.c.toArray]++cap) w fun u w'=>u= .bool (p l)∧St H w' σ):
  Cl Tryz.prog 252 [v,.func (.func g) #[] cap.toArray] w fun u w'=>u=I (match ls.findIdx? p with|some k=>(k:Int)|none=> -1)∧St H w' σ:=by
 obtain ⟨a,c,rfl⟩:=RS.shape hr
 have hl:=(RS.len hr).2.2
 refine Cl.o Tryz.func252 Tryz.ntmps252 ag2 ?_
 refine .aj (.z zg (.nil (.seq (.aj (.z zm ?_)))))
 refine .q hs (AO hr rfl aI) ?_
 refine .z zm (.nil ?_)
 refine .for (N:=(ls.map Lim.c).length) (J:=fun k fr w=>fr=[(1,.func (.func g) #[] cap.toArray),(0,.slice a (ls.map Lim.c).length c)]∧St H w σ∧∀j<k,∀l,ls[j]? =some l→p l=false) ak ?_ ?_ ?_
 ·exact .mk ⟨rfl,hs,fun j hj=>by omega⟩
 ·rintro k fr w hk ⟨rfl,hs,hno⟩
  obtain ⟨l,hl⟩:=nth (l:=ls) (by simpa using hk)
  refine .block (.aj (.z zm (.z zg (.nil (.aj (.z zm (.z zm (.z zm ?_))))))))
  refine .ixX hs hr rfl rfl aI aS hl rfl ?_;intro b14 o14 hc14
  refine .y hs (zls [_,_,_,_] fj aS) ?_
  refine .o (.o8 (first:=[]) rfl rfl hc (hp _ _ hs) ?_);rintro _ w ⟨rfl,hs⟩
  refine .nil ?_
  refine (.cond rfl (fun hc16=>?_) (fun hc16=>?_))
  ·refine .aj (.z zm (.z zg (.nil ?_)))
   refine .ret (rB (rT (rB (rT (Fin.bH Tryz.results252 rfl ?_)))))
   exact ⟨by rw [tx hl hc16 hno],hs⟩
  ·refine .skip ?_
   refine nB (nT ?_)
   exact .mk ⟨rfl,hs,e9 hno hl hc16⟩
 ·rintro fr w ⟨rfl,hs,hno⟩
  refine nT ?_
  refine .aj (.z zg (.nil ?_))
  refine .ret (Fin.bH Tryz.results252 rfl ?_)
  exact ⟨by rw [rp (by simpa using hno)],hs⟩
theorem r8{v:Value}{ls:List Lim}{g:Nat}{cap:List Value}{p:Lim→Bool}(hs:St H w σ)(hr:RL H v ls)
  (hc:∀args w,(callFunc g args).run Tryz.prog w= .ok (.enter g args) w) (hp:∀w l,St H w σ→Cl Tryz.prog g ([.agg l.c.toArray]++cap) w fun u w'=>u= .bool (p l)∧St H w' σ):
  Cl Tryz.prog 200 [v,.func (.func g) #[] cap.toArray] w fun u w'=>u= .bool (ls.any p)∧St H w' σ:=by
 refine Cl.o Tryz.func200 Tryz.ntmps200 ag2 ?_
 refine .aj (.z zg (.nil (.aj (.z zm (.z zm ?_)))))
 refine .o (.call Tryz.call252 rfl (wg hs hr hc hp) ?_);rintro _ w ⟨rfl,hs⟩
 refine .z xt (.z zg (.nil ?_))
 refine .ret (Fin.bH Tryz.results200 rfl ?_)
 exact ⟨by rw [yg];cases ls.findIdx? p<;>simp<;>omega,hs⟩
theorem vW{b:Nat}{many:Int}{v:Value}{l:Lim}(hs:St H w σ)(hm:Mem σ (.blk b [I many,v])):Cl Tryz.prog 201 [.agg l.c.toArray,.pointer (some ⟨b,0,none⟩)] w fun v w'=>v= .bool (!l.ok many)∧St H w' σ:=by
 refine Cl.o Tryz.func201 Tryz.ntmps201 ag2 ?_
 refine .aj ?_
 refine .bx hs fun b2 w hs=>?_
 refine .z zg (.nil (.aj (.z (zfa bI) ?_)))
 refine .q hs (dG rfl af (.there hm) rfl) ?_
 refine .q hs (kq (vs:=l.c) rfl fj aS) ?_
 refine .o (.call Tryz.call202 rfl (qj hs) ?_);rintro _ w ⟨rfl,hs⟩
 refine .z gV (.z zg (.nil ?_))
 refine .ret (Fin.bH Tryz.results201 rfl ?_)
 exact ⟨rfl,hs.out⟩
theorem ib{v:Value}{s:cj}(hs:St H w σ)(hr:RSy H v s):Cl Tryz.prog 125 [v] w fun v w'=>v=I s.check∧St H w' σ:=by
 obtain ⟨u,rfl,hr⟩:=hr
 obtain ⟨a,c,rfl⟩:=RS.shape hr
 refine Cl.o Tryz.func125 Tryz.ntmps125 ag1 ?_
 refine .aj ?_
 refine .bx hs fun b1 w hs=>?_
 refine .z zg (.nil (.seq (.block (.aj (.z (zfa bI) (.y hs (zld af) ?_))))))
 refine .o (.call Gd rfl (fN hs) ?_);rintro _ w ⟨rfl,hs⟩
 refine .z gV (.z zg (.nil ?_))
 refine (.cond rfl (fun hc3=>?_) (fun hc3=>?_))
 ·refine .aj (.z zg (.nil ?_))
  refine .ret (rB (rT (Fin.bH Tryz.results125 rfl ?_)))
  exact ⟨congrArg I (by unfold cj.check;(repeat' split)<;>simp_all<;>omega),hs.out⟩
 ·refine .aj (.z (zfa bE) (.y hs (zld cA) ?_))
  refine .q hs (AO hr rfl aI) ?_
  refine .z kD (.z zg (.nil ?_))
  refine (.bB rfl (fun hc8=>?_) (fun hc8=>?_))
  ·refine .aj (.z zg (.nil ?_))
   refine .ret (rB (rT (Fin.bH Tryz.results125 rfl ?_)))
   exact ⟨congrArg I (by unfold cj.check;(repeat' split)<;>simp_all<;>omega),hs.out⟩
  ·refine .aj (.z (zfa bE) (.y hs (zld cA) ?_))
   refine .q hs (du (f:=[]) (c:=[_]) rfl rfl) ?_
   refine .o (.call Tryz.call200 rfl (r8 (p:=fun l=> !l.ok s.many) hs hr Tryz.call201 (fun w l hs=>vW hs .here)) ?_);rintro _ w ⟨rfl,hs⟩
   refine .z zg (.nil ?_)
   refine (.cond rfl (fun hc13=>?_) (fun hc13=>?_))
   ·refine .aj (.z zg (.nil ?_))
    refine .ret (rB (rT (Fin.bH Tryz.results125 rfl ?_)))
    exact ⟨congrArg I (by unfold cj.check;(repeat' split)<;>simp_all<;>omega),hs.out⟩
   ·refine .skip ?_
    refine nB (nT ?_)
    refine .aj (.z zg (.nil ?_))
    refine .ret (Fin.bH Tryz.results125 rfl ?_)
    exact ⟨congrArg I (by unfold cj.check;(repeat' split)<;>simp_all<;>omega),hs.out⟩
theorem qh{H:bX}{b:Nat}{s:cj}{u:Value}(hok:s.Ok)(hb:Row H b [I s.many,u])(hr:RL H u s.bP):ItA Tryz.prog 203 [.pointer (some ⟨b,0,none⟩)] H s.dc:=by
 intro l II Ix _ _ hy H0 σb0 σf w hle hI0 hs
 obtain ⟨a,c,rfl⟩:=RS.shape hr
 have hb1:cellAt H0 b 1=some (.slice a (s.bP.map Lim.c).length c):=cellAt.mono (by rw [hb.cell];rfl) hle
 have hlen:=hok.len
 refine Cl.o Tryz.func203 Tryz.ntmps203 ag2 ?_
 refine .aj (.z (zfa bE) (.y hs (zld cA) ?_))
 refine .q hs (AO (hr.mono hle) rfl aI) ?_
 refine .z zm (.nil ?_)
 refine .for (N:=(s.bP.map Lim.c).length) (J:=fun k fr w=>fr=[(6,.slice a (s.bP.map Lim.c).length c),(0,.func (.yield l) #[] #[])]∧∃H1 σb,HLe H H1∧HLe H0 H1∧II k H1 σb∧St H1 w (σb++σf)) (by simp;omega) ?_ ?_ ?_
 ·exact .mk ⟨rfl,H0,σb0,hle,HLe.refl _,hI0,hs⟩
 ·rintro k fr w hk ⟨rfl,H1,σb,hle1,hle0,hI,hs⟩
  obtain ⟨x,hx⟩:=nth (l:=s.bP) (by simpa using hk)
  obtain ⟨hA,hB,_⟩:=hok.arc (List.mem_of_getElem? hx) k
  refine .block (.aj (.z zm ?_))
  refine .ixX hs (hr.mono hle1) rfl rfl aI aS hx rfl ?_;intro b11 o11 hc11
  refine .q hs (cI (vs:=x.c) rfl fj aS hc11) ?_
  refine .o (.alloc hs fm rfl fun b4 w hs=>?_)
  refine .z zg ?_
  refine .o (.aZ (vs:=x.c) hs rfl rfl aS fun w hs=>?_)
  refine .nil (.aj (.z zm (.z (zfa dE) (.y hs (zld af) (.z (zfa dP) (.y hs (zld af) (.z (zfa eX) (.y hs (zld af) (.z zm ?_)))))))))
  refine .z (zbd [_,_,_,_] oC) ?_
  have hk':k<(s.dc.map fun x=>[Value.agg x.v.toArray]).length:=by simp [cj.dc,eE];simpa using hk
  have hxk:(s.dc.map fun x=>[Value.agg x.v.toArray])[k]=[.agg (x.arc k).v.toArray]:=by
   have:=kf hx
   rw [List.getElem_map];rw [List.getElem?_eq_some_iff] at this;obtain ⟨h1,h2⟩:=this;simp only [cj.dc];rw [h2]
  have hyd:=hy k hk' H1 σb σf w hle1 hI hs.tail
  rw [hxk] at hyd
  refine .o (.yield (vs:=[.agg (x.arc k).v.toArray]) rfl (by simp [Arc.v,hA,hB];rfl) hyd ?_);rintro v22 w ⟨H2,σ2,g1,hs,g3⟩
  obtain ⟨bb,rfl,gT,gF⟩:=oG g3
  refine .z gV (.nil ?_)
  refine (.cond rfl (fun hc23=>?_) (fun hc23=>?_))
  ·refine .ret (rB (rT (rB (Fin.EK Tryz.results203 ?_))))
   exact ⟨H2,σ2,hle0.trans g1,hs,.inr (gF (by simpa using hc23))⟩
  ·refine .skip ?_
   refine nB (nT ?_)
   exact .mk ⟨rfl,H2,σ2,hle1.trans g1,hle0.trans g1,gT (by simpa using hc23),hs⟩
 ·rintro fr w ⟨rfl,H1,σb,hle1,hle0,hI,hs⟩
  exact Fin.xu Tryz.results203 ⟨H1,σb,hle0,hs,.inl (by simpa [cj.dc,eE] using hI)⟩
theorem jN{v:Value}{s:cj}(hs:St H w σ)(hok:s.Ok)(hr:RSy H v s):
  Cl Tryz.prog 127 [v] w fun v w'=>∃H1 b,HLe H H1∧v= .func (.func 203) #[] #[.pointer (some ⟨b,0,none⟩)]∧ItA Tryz.prog 203 [.pointer (some ⟨b,0,none⟩)] H1 s.dc∧St H1 w' σ:=by
 obtain ⟨u,rfl,hr⟩:=hr
 refine Cl.o Tryz.func127 Tryz.ntmps127 ag1 ?_
 refine .aj ?_
 refine .bx hs fun b1 w hs=>?_
 refine .z zg (.nil (.aj ?_))
 refine .q hs (du (f:=[]) (c:=[_]) rfl rfl) ?_
 refine .z zg (.nil ?_)
 refine .ret (Fin.bH Tryz.results127 rfl ?_)
 obtain ⟨H1,g1,g2,hs⟩:=hs.cq .here
 exact ⟨H1,b1,g1,rfl,qh hok g2 (hr.mono g1),hs⟩
theorem iR{N gf:Nat}{ar:List Arc}{cap:List Value}(hs:St H w σ)(hN:N≤64)(hok:mB ar (N+1))(hit:ItA Tryz.prog gf cap H ar)(hc:∀args w,(callFunc gf args).run Tryz.prog w= .ok (.enter gf args) w):
  Cl Tryz.prog 126 [I N,.func (.func gf) #[] cap.toArray] w fun v w'=>∃H1 bc bb s ov vo,HLe H H1∧v= .tuple #[.slice (some ⟨bc,0,none⟩) (N+1) (N+1),.slice (some ⟨bb,0,none⟩) (N+1) (N+1),vo]∧OvR H1 vo ov∧Fo (N+1) ar s ov∧St H1 w' (.blk bc (Is s.cost):: .blk bb (iT s.by_)::σ):=by
 refine Cl.o Tryz.func126 Tryz.ntmps126 ag2 ?_
 refine .aj ?_
 refine .o (.alloc hs dV rfl fun b4 w hs=>?_)
 refine .o (.alloc hs Tryz.zeroValue182 rfl fun b5 w hs=>?_)
 refine .o (.alloc hs Tryz.zeroValue183 rfl fun b6 w hs=>?_)
 refine .nil ?_
 refine .cut (fun fs w=>∃bc bb,kg fs ⟨70,[],[(1,.func (.func gf) #[] cap.toArray),(0,I N),(4,.pointer (some ⟨b4,0,none⟩)),(5,.pointer (some ⟨b5,0,none⟩)),(6,.pointer (some ⟨b6,0,none⟩))]⟩∧St H w (.blk b4 [.slice (some ⟨bc,0,none⟩) (N+1) (N+1)]:: .blk b5 [.slice (some ⟨bb,0,none⟩) (N+1) (N+1)]:: .blk b6 [.pointer none]:: .blk bc (Is (List.replicate (N+1) 0)):: .blk bb (iT (xU (N+1) 0))::σ)) ?_ ?_
 ·refine .draw mix rfl hs fun w hs=>?_
  refine .z 0 rfl zm ?_;refine .z 1 rfl ck ?_;refine .z 3 rfl zm ?_;refine .z 4 rfl ck ?_
  refine .e2 (i:=2) (j:=5) au rfl rfl rfl rfl .none .none hs ?_ ?_
  ·refine .pZ (N+1) hs rfl rfl ae dS rfl ai bJ ak ?_;intro b11 w hs
   refine .go ?_
   refine .e2 (i:=5) (j:=6) au rfl rfl rfl rfl .none .none hs ?_ ?_
   ·refine .CF (N+1) hs rfl rfl aD yo rfl aK dX ak ?_;intro b14 w hs
    refine .go ?_
    refine .E 6 hs ?_
    refine .store hs rfl rfl az ?_;intro w hs
    refine .go ?_
    refine .E 7 hs ?_
    refine .store hs rfl rfl uj ?_;intro w hs
    refine .go ?_
    refine .D hs ?_
    exact nT ⟨b11,b14,aR,hs.sb⟩
   ·refine .store hs rfl rfl az ?_;intro w hs
    refine .go ?_
    refine .E 5 hs ?_
    refine .CF (N+1) hs rfl rfl aD yo rfl aK dX ak ?_;intro b14 w hs
    refine .go ?_
    refine .E 7 hs ?_
    refine .store hs rfl rfl uj ?_;intro w hs
    refine .go ?_
    refine .D hs ?_
    exact nT ⟨b11,b14,aR,hs.sb⟩
  ·refine .CF (N+1) hs rfl rfl aD yo rfl aK dX ak ?_;intro b14 w hs
   refine .go ?_
   refine .E 2 hs ?_
   refine .pZ (N+1) hs rfl rfl ae dS rfl ai bJ ak ?_;intro b11 w hs
   refine .go ?_
   refine .E 6 hs ?_
   refine .store hs rfl rfl az ?_;intro w hs
   refine .go ?_
   refine .E 7 hs ?_
   refine .store hs rfl rfl uj ?_;intro w hs
   refine .go ?_
   refine .D hs ?_
   exact nT ⟨b11,b14,aR,hs.sb⟩
 ·rintro s w ⟨bc,bb,hfs,hs⟩
  refine WE.sub ?_ hfs
  refine .seq (.aj (.y hs (zld fi) (.z (cB aD) (.z zm (.nil ?_)))))
  refine .for (N:=N+1) (J:=fun k fr w=>fr=[(1,.func (.func gf) #[] cap.toArray),(0,I N),(4,.pointer (some ⟨b4,0,none⟩)),(5,.pointer (some ⟨b5,0,none⟩)),(6,.pointer (some ⟨b6,0,none⟩))]∧St H w (.blk b4 [.slice (some ⟨bc,0,none⟩) (N+1) (N+1)]:: .blk b5 [.slice (some ⟨bb,0,none⟩) (N+1) (N+1)]:: .blk b6 [.pointer none]:: .blk bc (Is (List.replicate (N+1) 0)):: .blk bb (iT (xU (N+1) k))::σ)) ak ?_ ?_ ?_
  ·exact .mk ⟨rfl,hs⟩
  ·rintro k fr w hk ⟨rfl,hs⟩
   have hkl:k<(xU (N+1) k).length:=by rw [xS ak];exact hk
   refine .block (.aj (.z zm (.z zg (.nil (.region (.y hs (zld fi) (.z zm ?_)))))))
   first|(refine .ixw hs aD aK ?_;intro b22 o22 hc22)|refine .z (nQ aD aK) ?_
   refine .z (zfa dM) ?_
   refine .o (.store hs rfl rfl ai ?_ cP (zf hkl ak) ((xp hkl _).trans (congrArg iT (CD hk))));intro w hs
   refine .nil ?_
   refine nB (nT ?_)
   exact .mk ⟨rfl,hs⟩
  ·rintro fr w ⟨rfl,hs⟩
   refine nT ?_
   refine .seq (.aj (.z zm (.z ck (.z zm (.nil ?_)))))
   refine .forD (N:=N+2) (J:=fun r ds fr w=>fr=[(1,.func (.func gf) #[] cap.toArray),(0,I N),(4,.pointer (some ⟨b4,0,none⟩)),(5,.pointer (some ⟨b5,0,none⟩)),(6,.pointer (some ⟨b6,0,none⟩))]∧∃Ds H1 s vo,ds=marks Ds∧HLe H H1∧tU (N+1) ar r 0 none s∧(r=0∨∃x,OvR H1 vo (some x)∧tU (N+1) ar (r - 1) ar.length (some x) s)∧St H1 w (.blk b4 [.slice (some ⟨bc,0,none⟩) (N+1) (N+1)]:: .blk b5 [.slice (some ⟨bb,0,none⟩) (N+1) (N+1)]:: .blk b6 [vo]:: .blk bc (Is s.cost):: .blk bb (iT s.by_)::(mes Ds++σ))) ak ?_ ?_ ?_
   ·exact .mk (ds:=[]) ⟨rfl,[],H,⟨List.replicate (N+1) 0,List.replicate (N+1) ⟨0,0,0,-1⟩⟩,_,rfl,HLe.refl _,tU.init ak,.inl rfl,by rw [A4] at hs;exact hs⟩
   ·rintro r ds fr w hr ⟨rfl,Ds,H1,s,vo,rfl,hle1,hN0,-,hs⟩
    refine .block (.aj ?_)
    refine .o (.store hs rfl rfl Tryz.sizeOf183 fun w hs=>?_)
    refine .nil (.seq (.aj (.z zm (.nil (.block ?_)))))
    refine .rangeFunc (gf:=gf) (cap:=cap) (xs:=ar.map fun x=>[.agg x.v.toArray]) (σb:=[.blk b4 [.slice (some ⟨bc,0,none⟩) (N+1) (N+1)],.blk b5 [.slice (some ⟨bb,0,none⟩) (N+1) (N+1)],.blk b6 [.pointer none],.blk bc (Is s.cost),.blk bb (iT s.by_)]) (σf:=mes Ds++σ) hs trivial rfl (hit.mono hle1) hc bL rfl
     (I:=fun k H' σb=>∃s ov vo,σb=[.blk b4 [.slice (some ⟨bc,0,none⟩) (N+1) (N+1)],.blk b5 [.slice (some ⟨bb,0,none⟩) (N+1) (N+1)],.blk b6 [vo],.blk bc (Is s.cost),.blk bb (iT s.by_)]∧OvR H' vo ov∧tU (N+1) ar r k ov s) (Ix:=fun _ _ _=>False) (by rintro k _ _ σ g1 ⟨s,ov,vo,g2,g3,g4⟩;exact ⟨s,ov,vo,g2,g3.mono g1,g4⟩) (fun _ _ _ _ _ h=>h)
     ⟨s,none,_,rfl,rfl,hN0⟩ ?_ ?_ (fun D c H' σb w _ h _=>h.elim)
    ·rintro l k hk H2 σb2 σf2 w hle2 ⟨s,ov,vo,rfl,hov,hN⟩ hs ⟨rr,hrr⟩
     obtain ⟨x,hx⟩:=nth (l:=ar) (by simpa using hk)
     obtain ⟨c1,c2,c3,c4,c5,c6⟩:=hok.2 x (List.mem_of_getElem? hx)
     have hxk:(ar.map fun x=>[Value.agg x.v.toArray])[k]=[.agg x.v.toArray]:=by rw [List.getElem_map];rw [List.getElem?_eq_some_iff] at hx;obtain ⟨h1,h2⟩:=hx;rw [h2]
     rw [hxk]
     have hkl:k<ar.length:=by simpa using hk
     have hal:=hok.1
     have hlc:=hN.lc
     have hlb:=hN.lb
     have lo1:=hN.lo x.f c1
     have hi1:=hN.hi x.f c1
     refine .region ?_
     refine .o (.alloc hs dX rfl fun b8 w hs=>?_)
     refine .o (.aZ (vs:=x.v) hs rfl rfl aK fun w hs=>?_)
     refine .nil ?_
     refine nT ?_
     refine ⟨H2,[.blk b8 x.v,.blk b4 [.slice (some ⟨bc,0,none⟩) (N+1) (N+1)],.blk b5 [.slice (some ⟨bb,0,none⟩) (N+1) (N+1)],.blk b6 [vo],.blk bc (Is s.cost),.blk bb (iT s.by_)],HLe.refl _,hs,?_⟩;rintro w σf2 - hs
     refine .block ?_
     refine .seq (.draw mix rfl hs fun w hs=>?_)
     refine .y 0 rfl hs an ?_;refine .z 1 rfl (zfa dn) ?_;refine .y 2 rfl hs af ?_
     first|(refine .ixv 3 rfl hs ae ai ?_;intro b34 o34 hc34)|refine .z 3 rfl (zix ae ai) ?_
     refine .y 4 rfl hs af ?_;refine .z 5 rfl (zfa ff) ?_;refine .y 6 rfl hs af ?_;refine .z 7 rfl ck ?_;refine .y 8 rfl hs an ?_;refine .z 9 rfl (zfa dt) ?_;refine .y 10 rfl hs af ?_
     first|(refine .ixv 11 rfl hs ae ai ?_;intro b42 o42 hc42)|refine .z 11 rfl (zix ae ai) ?_
     refine .y 12 rfl hs af ?_;refine .z 13 rfl fH ?_;refine .D hs ?_
     refine (.bB rfl (fun hc44=>?_) (fun hc44=>?_))
     ·refine .seq (.draw mix rfl hs fun w hs=>?_)
      refine .y 0 rfl hs an ?_;refine .z 1 rfl (zfa dt) ?_;refine .y 2 rfl hs af ?_;refine .y 3 rfl hs fi ?_;refine .z 4 rfl (zfa dt) ?_;refine .y 5 rfl hs af ?_;refine .y 6 rfl hs an ?_;refine .z 7 rfl (zfa dn) ?_;refine .y 8 rfl hs af ?_
      first|(refine .ixv 9 rfl hs ae ai ?_;intro b54 o54 hc54)|refine .z 9 rfl (zix ae ai) ?_
      refine .y 10 rfl hs af ?_;refine .z 11 rfl (zfa ff) ?_;refine .y 12 rfl hs af ?_;refine .z 13 rfl ck ?_
      refine .xV (i:=14) (vs:=x.v) hs rfl au .none rfl gw aK ?_
      first|(refine .ixv 15 rfl hs ae ai ?_;intro b60 o60 hc60)|refine .z 15 rfl (zix ae ai) ?_
      refine .E 16 hs ?_
      refine .store hs rfl rfl ai ?_;intro w hs
      refine .go ?_
      first|(refine .ixw 17 rfl hs aD aK ?_;intro b61 o61 hc61)|refine .z 17 rfl (nQ aD aK) ?_
      refine .E 18 hs ?_
      refine .aZ (vs:=x.v) hs rfl rfl aK ?_;intro w hs
      refine .go ?_
      refine .D hs ?_
      refine .region ?_
      refine .o (.store hs rfl rfl Tryz.sizeOf183 fun w hs=>?_)
      refine .nil ?_
      refine nB ?_
      obtain ⟨H3,g1,g2,hs⟩:=hs.cq .here
      exact ⟨H3,_,g1,hs,s.rlx x,some x,_,rfl,⟨b8,rfl,g2⟩,hN.tZ hok hx hc44⟩
     ·refine .skip ?_
      refine nB ?_
      exact ⟨H2,_,HLe.refl _,hs.tail,s,ov,vo,rfl,hov,hN.skip hok hx (by unfold BS.can;omega)⟩
    ·rintro D H2 σb2 w hle2 ⟨s,ov,vo,rfl,hov,hN⟩ hs
     obtain ⟨a',rfl,ha'⟩:=hov.ptr
     replace hs:St H2 w (.blk b4 [.slice (some ⟨bc,0,none⟩) (N+1) (N+1)]:: .blk b5 [.slice (some ⟨bb,0,none⟩) (N+1) (N+1)]:: .blk b6 [.pointer a']:: .blk bc (Is s.cost):: .blk bb (iT s.by_)::(mes (D::Ds)++σ)):=St.deep (σ1:=[_,_,_,_,_]) hs
     have hN:tU (N+1) ar r ar.length ov s:=by simpa using hN
     refine nB (nT ?_)
     refine .aj (.y hs (zld Tryz.isAgg183) ?_)
     refine .q hs (AR rfl rfl Tryz.runUnderlying183) ?_
     refine .nil ?_
     refine (.cond rfl (fun hc63=>?_) (fun hc63=>?_))
     ·refine .seq (.draw mix rfl hs fun w hs=>?_)
      refine .y 0 rfl hs an ?_;refine .y 1 rfl hs fi ?_
      refine .E 2 hs ?_
      refine .store hs rfl rfl az ?_;intro w hs
      refine .go ?_
      refine .E 3 hs ?_
      refine .store hs rfl rfl uj ?_;intro w hs
      refine .go ?_
      refine .E 4 hs ?_
      refine .store hs rfl rfl Tryz.sizeOf183 ?_;intro w hs
      refine .go ?_
      refine .D hs ?_
      refine .ret (rB (rT (rB (rT (?_)))))
      obtain ⟨rfl,rfl⟩:=OvR.no ha' hc63
      refine Fin.iA (D::Ds) [_,_,_,_,_] hs fun w hs=>⟨_,results3 Tryz.results126 (zG hs rfl an) (zG hs rfl fi) (zG hs rfl Tryz.isAgg183),H2,bc,bb,s,none,_,hle1.trans hle2,rfl,hov,⟨r,hN,fun h=>(h rfl).elim⟩,hs.sb⟩
     ·refine .skip ?_
      refine nB (nT ?_)
      obtain ⟨x,rfl⟩:=OvR.yes ha' hc63
      exact .mk (ds:=marks (D::Ds)) ⟨rfl,D::Ds,H2,s,_,rfl,hle1.trans hle2,hN.next hok,.inr ⟨x,hov,hN⟩,hs⟩
   ·rintro ds fr w ⟨rfl,Ds,H1,s,vo,rfl,hle1,hN0,hor,hs⟩
    obtain ⟨x,hov,hN⟩:∃x,OvR H1 vo (some x)∧tU (N+1) ar (N+2 - 1) ar.length (some x) s:=hor.resolve_left ak
    obtain ⟨b3,rfl,hrow⟩:=hov
    refine nT ?_
    refine .seq (.draw mix rfl hs fun w hs=>?_)
    refine .y 0 rfl hs an ?_;refine .y 1 rfl hs fi ?_;refine .y 2 rfl hs Tryz.isAgg183 ?_
    refine .E 3 hs ?_
    refine .store hs rfl rfl az ?_;intro w hs
    refine .go ?_
    refine .E 4 hs ?_
    refine .store hs rfl rfl uj ?_;intro w hs
    refine .go ?_
    refine .E 5 hs ?_
    refine .store hs rfl rfl Tryz.sizeOf183 ?_;intro w hs
    refine .go ?_
    refine .D hs ?_
    refine .ret ?_
    refine Fin.iA Ds [_,_,_,_,_] hs fun w hs=>⟨_,results3 Tryz.results126 (zG hs rfl an) (zG hs rfl fi) (zG hs rfl Tryz.isAgg183),H1,bc,bb,s,some x,_,hle1,rfl,⟨b3,rfl,hrow⟩,⟨N+1,hN,fun _=>rfl⟩,hs.sb⟩
theorem fw{v:Value}{s:cj}(hs:St H w σ)(hok:s.Ok)(hr:RSy H v s):
  Cl Tryz.prog 133 [v] w fun v w'=>∃H1 b,HLe H H1∧v= .bool b∧(b=true↔s.Sound)∧St H1 w' σ:=by
 obtain ⟨u,rfl,hr⟩:=hr
 obtain ⟨N,hN⟩:=Int.eq_ofNat_of_zero_le hok.m0
 have hN1:=hok.m1
 have hn:s.n=N+1:=by simp [cj.n,hN]
 have hoka:=hok.dc
 rw [hn] at hoka
 rw [hN]
 refine Cl.o Tryz.func133 Tryz.ntmps133 ag1 ?_
 refine .aj ?_
 refine .bx hs fun b1 w hs=>?_
 refine .z zg (.nil ?_)
 refine .seq (.draw mix rfl hs fun w hs=>?_)
 refine .z 0 rfl (zfa bI) ?_;refine .y 1 rfl hs af ?_;refine .ys 2 rfl hs [_,_] aN aB ?_
 refine .E 3 hs ?_
 refine .call Tryz.call127 rfl (jN (s:=s) hs hok ⟨u,by rw [hN],hr⟩) ?_;rintro _ w ⟨H1,b10,hle1,rfl,hit,hs⟩
 refine .go ?_
 refine .E 4 hs ?_
 refine .call Tryz.call126 rfl (iR hs ak hoka hit Tryz.call203) ?_;rintro _ w ⟨H2,bc,bb,st,ov,vo,hle2,rfl,hov,hnr,hs⟩
 obtain ⟨a',rfl,ha'⟩:=hov.ptr
 refine .go ?_
 refine .z 5 rfl zm ?_;refine .z 6 rfl zex ?_;refine .z 7 rfl zex ?_;refine .z 8 rfl zex ?_;refine .z 9 rfl zg ?_;refine .z 10 rfl zg ?_;refine .z 11 rfl zg ?_;refine .D hs ?_
 refine .aj (.z zm ?_)
 refine .q hs (AR rfl rfl Tryz.runUnderlying183) ?_
 refine .z zg (.nil ?_)
 refine .ret (Fin.bH Tryz.results133 rfl ?_)
 refine ⟨H2,_,hle1.trans hle2,rfl,?_,hs.out⟩
 obtain ⟨r,hN2,hr2⟩:=hnr
 cases ov with
 |none=>
  rw [ha']
  exact ⟨fun _=>⟨_,(hN2.sol hoka ak).1⟩,fun _=>rfl⟩
 |some x=>
  rw [ha']
  exact ⟨fun h=>(by cases h),fun h=>(hN2.none hoka ak (by have:=hr2 bL;omega) h).elim⟩
theorem oY{c:Int}(hs:St H w σ)(hc:0≤c∧c<4294967296):Cl Tryz.prog 299 [.int .u64 1,.int .u64 c] w fun v w'=>v= .tuple #[.int .u64 0,.int .u64 c]∧St H w' σ:=by
 refine Cl.o Tryz.func299 Tryz.ntmps299 ag2 ?_
 refine .aj (.z zg (.z zg (.nil (.aj (.z zm ?_)))))
 first|refine .q hs (DR rfl rfl ⟨ak,ak⟩) ?_|refine .q hs (yC rfl rfl) ?_
 refine .z zg (.nil (.aj (.z zm ?_)))
 first|refine .q hs (wL rfl rfl ⟨ak,ak⟩) ?_|refine .q hs (zI rfl rfl gd) ?_
 refine .z zg (.nil (.aj (.z zm ?_)))
 first|refine .q hs (DR rfl rfl ⟨ak,ak⟩) ?_|refine .q hs (yC rfl rfl) ?_
 refine .z zg (.nil (.aj (.z zm ?_)))
 first|refine .q hs (wL rfl rfl ⟨ak,ak⟩) ?_|refine .q hs (zI rfl rfl gd) ?_
 refine .z zg (.nil (.aj (.z zm (.z zm (.z jS (.z zg (.nil (.aj (.z zm ?_)))))))))
 refine .z zm (.z jS (.z zm ?_))
 first|refine .q hs (wL rfl rfl ⟨ak,ak⟩) ?_|refine .q hs (zI rfl rfl gd) ?_
 refine .z ck (.z zg (.nil (.aj (.z zm ?_))))
 first|refine .q hs (DR rfl rfl ⟨ak,ak⟩) ?_|refine .q hs (yC rfl rfl) ?_
 refine .z zg (.nil (.aj (.z zm ?_)))
 first|refine .q hs (wL rfl rfl ⟨ak,ak⟩) ?_|refine .q hs (zI rfl rfl gd) ?_
 refine .z zg (.nil (.aj (.z zm (.z zm (.z zm (.z jS (.z ck (.z zg (.nil ?_)))))))))
 refine .aj (.z zm (.z zm (.z jS (.z zm (.z ck (.z zm ?_))))))
 first|refine .q hs (wL rfl rfl ⟨ak,ak⟩) ?_|refine .q hs (zI rfl rfl gd) ?_
 refine .z ck (.z zg (.nil (.aj (.z zm (.z zm (.z jS (.z zg (.nil ?_))))))))
 refine .ret (Fin.lq Tryz.results299 rfl rfl ?_)
 exact ⟨bL,hs⟩
theorem qR{c:Int}(hs:St H w σ)(hc:0≤c∧c<4294967296):Cl Tryz.prog 297 [.int .u64 1,.int .u64 c] w fun v w'=>v= .tuple #[.int .u64 0,.int .u64 c]∧St H w' σ:=by
 refine Cl.o Tryz.func297 Tryz.ntmps297 ag2 ?_
 refine .aj (.z zg (.z zg (.nil ?_)))
 refine .seq (.cF ?_)
 refine .skip ?_
 refine nT ?_
 refine .aj (.z zm (.z zm ?_))
 refine .o (.call Tryz.call299 rfl (oY hs hc) ?_);rintro _ w ⟨rfl,hs⟩
 refine .z zm (.z zex (.z zex (.z zg (.z zg (.nil (.aj (.z zm (.z zm (.z zg ?_)))))))))
 refine .z zg (.nil ?_)
 refine .ret (Fin.lq Tryz.results297 rfl rfl ?_)
 exact ⟨rfl,hs⟩
theorem Bk{c k:Nat}{z:Int}:let n:=min k (c - k);(List.replicate k z++List.replicate (c - k) 0).take k++List.replicate n z++(List.replicate k z++List.replicate (c - k) 0).drop (k+n)=List.replicate (k+n) z++List.replicate (c - (k+n)) (0:Int):=by
 intro n
 have hn:n≤c - k:=Nat.min_le_right _ _
 have e0:(List.replicate k z).length=k:=by simp
 rw [List.take_left' e0]
 have e1:(List.replicate k z++List.replicate (c - k) 0).drop (k+n)=List.replicate (c - (k+n)) (0:Int):=by
  rw [show k+n=(List.replicate k z).length+n by simp,List.drop_append]
  simp
  omega
 rw [e1,List.replicate_append_replicate]
theorem qH{z:Int}{bx c:Nat}(hs:St H w σ)(hm:Mem σ (.blk bx (Is [z])))(h1:1≤c)(h2:c≤1000000):Cl Tryz.prog 288 [.slice (some ⟨bx,0,none⟩) 1 1,I c] w fun v w'=>∃b,v= .slice (some ⟨b,0,none⟩) c c∧St H w' (.blk b (Is (List.replicate c z))::σ):=by
 refine Cl.o Tryz.func288 Tryz.ntmps288 ag2 ?_
 refine .aj (.z zg (.nil (.seq (.aj (.z zm (.z fH (.nil ?_)))))))
 refine (.bB rfl (fun hc10=>?_) (fun hc10=>?_))
 ·omega
 ·refine .skip ?_
  refine nT ?_
  refine .aj (.z zm (.z (cB ae) ?_))
  first|refine .q hs (xL rfl bh eF ⟨ak,ak⟩) ?_|refine .q hs (xK rfl bh eF ⟨ak,ak⟩) ?_|refine .q hs (wM rfl bh eF) ?_
  refine .z zm ?_
  first|refine .q hs (xL rfl bh eF ⟨ak,ak⟩) ?_|refine .q hs (xK rfl bh eF ⟨ak,ak⟩) ?_|refine .q hs (wM rfl bh eF) ?_
  refine .o (.call Tryz.call297 rfl (qR (c:=c) hs ak) ?_);rintro _ w ⟨rfl,hs⟩
  refine .z zm (.z zex (.z zex (.z zg (.z zg (.nil (.seq (.aj (.z zm (.z kD ?_)))))))))
  refine .z zm ?_
  refine .iD (t':=23) rfl (fun hb23=>?_) (fun hb23=>?_)
  ·refine .gFs 2 2 false rfl rfl rfl ?_
   refine .z zpT (.nil ?_)
   refine (.cT ?_)
   first|omega|(simp at hc26;omega)
  ·refine .gT rfl rfl ?_
   refine .z zm ?_
   refine .gT rfl rfl ?_
   refine .z kD (.z zpF (.nil ?_))
   refine (.bB rfl (fun hc26=>?_) (fun hc26=>?_))
   ·first|omega|(simp at hc26;omega)
   ·refine .skip ?_
    refine nT ?_
    refine .aj (.z zm ?_)
    first|refine .q hs (xL rfl eF bh ⟨ak,ak⟩) ?_|refine .q hs (xK rfl eF bh ⟨ak,ak⟩) ?_|refine .q hs (wM rfl eF bh) ?_
    refine .o (.pZ c hs rfl rfl ae dS rfl ai bJ ak fun b30 w hs=>?_)
    refine .z zg (.nil (.aj (.z zm (.z zm ?_))))
    refine .o (.Fj (k:=1) (xs:=List.replicate c 0) (zs:=[z]) hs rfl rfl ⟨_,_,rfl⟩ ae ai ak rfl (xd (xs:=[z]) (.there hm) rfl rfl) (by simp;omega) ?_);intro w hs
    refine .z zg (.nil (.seq (.block ?_)))
    refine .loop (fun k:Nat=>⟨48,[],[(8,I k),(7,.slice (some ⟨b30,0,none⟩) c c)]⟩) (fun k w=>(1≤k∧k≤c)∧St H w (.blk b30 (Is (List.replicate k z++List.replicate (c - k) 0))::σ)) (fun k=>c - k) 1 aR ⟨⟨ak,ak⟩,by
      have e:List.take 0 (List.replicate c (0:Int))++[z]++List.drop (0+1) (List.replicate c 0)=List.replicate 1 z++List.replicate (c - 1) 0:=by simp
      rw [e] at hs;exact hs⟩ ?_
    rintro k w ⟨⟨k1,k2⟩,hs⟩
    refine .seq (.aj (.z zm (.z zm (.z (cB ae) (.z fH (.nil ?_))))))
    refine (.bB rfl (fun hc37=>?_) (fun hc37=>?_))
    ·refine .skip ?_
     refine nT ?_
     refine .block ?_
     refine .draw mix rfl hs fun w hs=>?_
     refine .z 0 rfl zm ?_;refine .z 1 rfl zm ?_;refine .z 2 rfl zm ?_
     refine .z 3 rfl (wK (k:=k) rfl rfl ae ai ak ak) ?_
     refine .z 4 rfl zm ?_;refine .z 5 rfl zm ?_
     refine .z 6 rfl (tc (k:=k) rfl rfl ae ai ak) ?_
     refine .E 7 hs ?_
     refine .Fj (k:=min k (c - k)) (xs:=List.replicate k z++List.replicate (c - k) 0) (zs:=List.replicate (min k (c - k)) z) hs rfl rfl ⟨_,_,rfl⟩ ae ai rfl bL (xd (xs:=List.replicate k z++List.replicate (c - k) 0) .here (by rw [List.drop_zero,List.take_append_of_le_length (by simp;omega)];simp) bL) (by simp;omega) ?_;intro w hs
     refine .go ?_
     refine .z 8 rfl ck ?_;refine .z 9 rfl zg ?_;refine .D hs ?_
     refine nB (nT ?_)
     exact ⟨k+min k (c - k),aR,⟨⟨ak,ak⟩,by
       have e:=Bk (z:=z) (c:=c) (k:=k)
       simp only [Nat.mul_one,Nat.zero_add] at hs
       rw [e] at hs;exact hs⟩,ak⟩
    ·refine .exit ?_
     refine xT (xT (xB (nT ?_)))
     refine .aj (.z zm (.z zg (.nil ?_)))
     refine .ret (Fin.bH Tryz.results288 rfl ?_)
     obtain rfl:k=c:=by omega
     exact ⟨b30,rfl,by simpa using hs⟩
theorem qI{v:Value}{xs:List Int}(hs:St H w σ)(hr:RI H v xs)(hx:xs.length≤17592186044416):Cl Tryz.prog 197 [v] w fun u w'=>∃en,(Fb v=true→Fb u=true)∧cf 1 u (Is xs) en∧St H w' (en::σ):=by
 obtain ⟨a,c,rfl⟩:=RI.shape hr
 have hl:=(RI.len hr).2.2
 refine Cl.o Tryz.func197 Tryz.ntmps197 ag1 ?_
 refine .aj (.z zg (.nil (.seq (.aj (.z zm ?_)))))
 refine .q hs (E2 rfl rfl ae) ?_
 refine .nil ?_
 refine (.cond rfl (fun hc4=>?_) (fun hc4=>?_))
 ·refine .aj (.z zg (.nil ?_))
  refine .ret (rT (Fin.bH Tryz.results197 rfl ?_))
  obtain rfl:a=none:=by simpa using hc4
  obtain rfl:=hr.FR
  exact ⟨.nul,fun h=>h,.nil 1 none,hs.nul⟩
 ·refine .skip ?_
  refine nT ?_
  refine .aj ?_
  refine .o (.buildSlice (cells:=[]) hs kZ rfl rfl fun b5 w hs=>?_)
  refine .z zm ?_
  refine .o (.BC (xs:=[]) (ys:=Is xs) hs bZ rfl rfl (.full rfl) (.ints hr) (by simp [Value.oneCell']) (fun l h=>by simp at h;omega) ?_);intro v7 en7 w hnn hO hs
  refine .z zg (.nil ?_)
  refine .ret (Fin.bH Tryz.results197 rfl ?_)
  exact ⟨en7,fun _=>hnn rfl,hO,hs⟩
theorem mm{v:Value}{xs:List Int}(hs:St H w σ)(hr:RI H v xs)(hx:xs.length≤17592186044416):Cl Tryz.prog 197 [v] w fun v w'=>∃en,cf 1 v (Is xs) en∧St H w' (en::σ):=
 (qI hs hr hx).mono fun _ _ ⟨en,_,h⟩=>⟨en,h⟩
theorem oL{v:Value}{l:List Arc}{en:Ent}(hs:St H w (en::σ))(ho:cf 4 v (iT l) en)(hl:l.length≤1000000):
  Cl Tryz.prog 289 [v] w fun _ w'=>∃en',cf 4 v (iT l.reverse) en'∧St H w' (en'::σ):=by
 rcases ho with ⟨a,rfl,h2,rfl⟩|⟨b,len,cap,sp,rfl,rfl,h2,h3,h4⟩
 ·obtain rfl:l=[]:=by
   have:=congrArg List.length h2
   rw [dI] at this
   exact List.length_eq_zero_iff.1 (by simp at this;omega)
  have hs:=hs.tail
  refine Cl.o Tryz.func289 Tryz.ntmps289 ag1 ?_
  refine .aj (.z zm (.z (cB aD) (.z gL (.z zg (.z zg (.nil (.block ?_)))))))
  refine .loop (fun _:Unit=>⟨28,[],[(2,I 0),(3,I (-1))]⟩) (fun _ w=>St H w σ) (fun _=>0) () aR hs ?_
  rintro _ w hs
  refine .seq (.aj (.z zm (.z zm (.z fH (.nil ?_)))))
  refine (.bB rfl (fun hc9=>?_) (fun hc9=>?_))
  ·omega
  ·refine .exit ?_
   refine xT (xT (xB ?_))
   exact Fin.xu Tryz.results289 ⟨.nul,.nil 4 a,hs.nul⟩
 obtain rfl:len=l.length:=by rw [dI] at h2;omega
 refine Cl.o Tryz.func289 Tryz.ntmps289 ag1 ?_
 refine .aj (.z zm (.z (cB aD) (.z gL (.z zg (.z zg (.nil (.block ?_)))))))
 refine .loop (fun p:Nat×List Arc=>⟨28,[],[(2,I p.1),(3,I ((l.length:Int) - 1 - p.1)),(0,.slice (some ⟨b,0,none⟩) l.length cap)]⟩) (fun p w=>(2*p.1≤l.length+1∧rz l p.2 p.1)∧St H w (.blk b (iT p.2++sp)::σ)) (fun p=>l.length - p.1) (0,l) (.cons rfl (.bU rfl bL (.cons rfl (.nil rfl rfl)))) ⟨⟨bL,.start l⟩,hs⟩ ?_
 rintro ⟨i,L⟩ w ⟨⟨h5,h6⟩,hs⟩
 dsimp only at h5 h6 hs ⊢
 have hL:=h6.1
 refine .seq (.aj (.z zm (.z zm (.z fH (.nil ?_)))))
 refine (.bB rfl (fun hc9=>?_) (fun hc9=>?_))
 ·refine .skip ?_
  refine nT ?_
  refine .seq (.block ?_)
  refine .draw mix rfl hs fun w hs=>?_
  refine .z 0 rfl zm ?_;refine .z 1 rfl zm ?_;refine .z 2 rfl zm ?_;refine .z 3 rfl zm ?_;refine .z 4 rfl zm ?_;refine .z 5 rfl zm ?_
  refine .z 6 rfl (uC (k:=l.length - 1 - i) rfl rfl aD aK ak ak) ?_
  refine .xV (i:=7) (vs:=(ga L (l.length - 1 - i)).v) hs rfl au .none rfl gw aK ?_ (hv:=tN ak sp)
  refine .z 8 rfl zm ?_;refine .z 9 rfl zm ?_
  first|(refine .ixw 10 rfl hs aD aK ?_;intro b24 o24 hc24)|refine .z 10 rfl (nQ aD aK) ?_
  refine .xV (i:=11) (vs:=(ga L i).v) hs rfl au .none rfl gw aK ?_ (hv:=tN ak sp)
  first|(refine .ixw 12 rfl hs aD aK ?_;intro b26 o26 hc26)|refine .z 12 rfl (nQ aD aK) ?_
  refine .E 13 hs ?_
  refine .aZ (vs:=(ga L (l.length - 1 - i)).v) hs rfl rfl aK ?_ cP (tG ak sp) (rk ak _ sp);intro w hs
  refine .go ?_
  refine .z 14 rfl (uC (k:=l.length - 1 - i) rfl rfl aD aK ak ak) ?_
  refine .E 15 hs ?_
  refine .aZ (vs:=(ga L i).v) hs rfl rfl aK ?_ cP (tG (by simp;omega) sp) (rk (by simp;omega) _ sp);intro w hs
  refine .go ?_
  refine .D hs ?_
  refine nB (nT ?_)
  refine .region (.z zm (.z ck (.z zm (.z gL (.z zg (.z zg (.nil ?_)))))))
  refine nT ?_
  exact ⟨(i+1,_),.cons rfl (.bU rfl (by push_cast;omega) (.cons rfl (.nil rfl rfl))),⟨⟨by dsimp only;omega,h6.step ak⟩,hs⟩,by dsimp only;omega⟩
 ·refine .exit ?_
  refine xT (xT (xB ?_))
  rw [h6.done ak] at hs
  exact Fin.xu Tryz.results289 ⟨_,.inr ⟨b,l.length,cap,sp,rfl,rfl,by rw [dI];simp,by rw [←h3];simp [dI],h4⟩,hs⟩
theorem mP{H:bX}{b1 bf bt bl cl:Nat}{s:cj}{ts lf:List Int}{vl:Value}{sp:List Value}(hok:s.Ok)(hb:Row H b1 [.pointer (some ⟨bf,0,none⟩)])(hF:tL H bf s ts lf vl bt bl cl sp)(hlt:ts.length=s.bP.length):
  ItA Tryz.prog 270 [.pointer (some ⟨b1,0,none⟩)] H (cH s.dc ts):=by
 intro l II Ix hmI hmX hy H0 σb0 σf w hle hI0 hs
 have hb0:cellAt H0 b1 0=some (.pointer (some ⟨bf,0,none⟩)):=(hb.mono hle).at 0
 have hF0:=hF.mono hle
 have hsys:=hF0.f.cells 0 [I s.many,vl]
 have hlen:s.dc.length=ts.length:=by simp [cj.dc,eE,hlt]
 refine Cl.o Tryz.func270 Tryz.ntmps270 ag2 ?_
 refine .aj ?_
 refine .bx hs fun b2 w hs=>?_
 refine .nil (.aj (.y hs (zld qu) (.z znc (.z (zfa fg) ?_))))
 refine .q hs (cI (vs:=[I s.many,vl]) rfl aN aB hsys) ?_
 refine .o (.call Tryz.call127 rfl (jN (s:=s) hs hok ⟨vl,rfl,hF0.l⟩) ?_);rintro _ w ⟨H1,b8,hle1,rfl,hit,hs⟩
 refine .nil (.block ?_)
 refine .rangeFunc (gf:=203) (cap:=[.pointer (some ⟨b8,0,none⟩)]) (xs:=s.dc.map fun x:Arc=>[Value.agg x.v.toArray]) (σb:= .blk b2 [.func (.yield l) #[] #[]]::σb0) (σf:=σf) hs trivial rfl hit Tryz.call203 bL rfl
  (I:=fun k H' σb=>∃σo,σb= .blk b2 [.func (.yield l) #[] #[]]::σo∧HLe H0 H'∧II (yE s.dc ts k) H' σo)
  (Ix:=fun c H' σb=>c= .ret∧∃σo,σb= .blk b2 [.func (.yield l) #[] #[]]::σo∧HLe H0 H'∧Ix H' σo)
  (fun k _ _ σ g1 ⟨σo,g2,g3,g4⟩=>⟨σo,g2,g3.trans g1,hmI _ _ _ _ g1 g4⟩) (fun c _ _ σ g1 ⟨g0,σo,g2,g3,g4⟩=>⟨g0,σo,g2,g3.trans g1,hmX _ _ _ g1 g4⟩)
  ⟨σb0,rfl,hle1,by rw [AW];exact hmI _ _ _ _ hle1 hI0⟩ ?_ ?_ ?_
 ·rintro l2 k hk H2 σb2 σf2 w hle2 ⟨σo,rfl,hle0,hIk⟩ hs ⟨rr,hrr⟩
  obtain ⟨x,hx⟩:=nth (l:=s.dc) (by simpa using hk)
  obtain ⟨c1,c2,c3,c4,c5,c6⟩:=hok.dc.2 x (List.mem_of_getElem? hx)
  have hxk:(s.dc.map fun x=>[Value.agg x.v.toArray])[k]=[.agg x.v.toArray]:=by rw [List.getElem_map];rw [List.getElem?_eq_some_iff] at hx;obtain ⟨h1,h2⟩:=hx;rw [h2]
  rw [hxk]
  have hkt:k<ts.length:=by rw [←hlen];simpa using hk
  have hxl:x.l=(k:Int):=qo hx
  obtain ⟨r1,r2,r3⟩:=AJ (ts:=ts) hx hkt
  refine .region ?_
  refine .o (.alloc hs dX rfl fun b3 w hs=>?_)
  refine .o (.aZ (vs:=x.v) hs rfl rfl aK fun w hs=>?_)
  refine .nil ?_
  refine nT ?_
  refine ⟨H2,.blk b3 x.v:: .blk b2 [.func (.yield l) #[] #[]]::σo,HLe.refl _,hs,?_⟩;rintro w σf2 - hs
  refine .block (.seq (.aj ?_))
  refine .y hs (zld Tryz.isAgg245) ?_
  refine .q hs (kq (vs:=x.v) rfl gw aK) ?_
  have hyd:=hy (yE s.dc ts k) (by simpa using (List.getElem?_eq_some_iff.1 r1).1) H2 σo (.blk b3 x.v:: .blk b2 [.func (.yield l) #[] #[]]::σf2) w (hle.trans hle0) hIk (St.deep (σ1:=σo) (St.deep (σ1:= .blk b3 x.v::σo) (hs.perm (.swap _ _ _))))
  rw [A6 r1] at hyd
  refine .o (.yield (vs:=[.agg x.v.toArray]) rfl rfl hyd ?_);rintro v12 w ⟨H3,σ3,hle3,hs,g3⟩
  obtain ⟨bb,rfl,gT,gF⟩:=oG g3
  replace hs:St H3 w (.blk b3 x.v:: .blk b2 [.func (.yield l) #[] #[]]::(σ3++σf2)):=(St.shallow (σ1:= .blk b3 x.v::σ3) (St.shallow (σ1:=σ3) hs)).perm (.swap _ _ _)
  refine .z gV (.nil ?_)
  refine (.cond rfl (fun hc13=>?_) (fun hc13=>?_))
  ·refine .ret (rT (rB (?_)))
   exact ⟨H3,.blk b2 [.func (.yield l) #[] #[]]::σ3,hle3,hs.tail,rfl,σ3,rfl,hle0.trans hle3,gF (by simpa using hc13)⟩
  ·refine .skip ?_
   refine nT ?_
   refine .seq (.draw mix rfl hs fun w hs=>?_)
   have hb3:cellAt H3 b1 0=some (.pointer (some ⟨bf,0,none⟩)):=cellAt.mono hb0 (hle0.trans hle3)
   have hf3:cellAt H3 bf 2=some (.slice (some ⟨bt,0,none⟩) ts.length ts.length):=((hF0.mono (hle0.trans hle3)).f).at 2
   have ht3:cellAt H3 bt k=some (I (gi ts k)):=((hF0.mono (hle0.trans hle3)).t).at k (eQ hkt)
   have hI3:=gT (by simpa using hc13)
   refine .r (i:=0) hs rfl au .none (aJ rfl qu hb3) ?_
   refine .z 1 rfl znc ?_;refine .z 2 rfl (zfa gH) ?_;refine .y 3 rfl hs an ?_;refine .z 4 rfl (zfa dM) ?_;refine .y 5 rfl hs af ?_
   refine .z 6 rfl (dH (k:=k) rfl rfl ae ai hxl hkt) ?_
   refine .r (i:=7) hs rfl au .none (aJ rfl af ht3) ?_
   refine .z 8 rfl kD ?_;refine .z 9 rfl zm ?_
   refine .iD (t':=23) rfl (fun hb23=>?_) (fun hb23=>?_)
   ·refine .y 10 rfl hs Tryz.isAgg245 ?_
    refine .z 11 rfl (zfa dt) ?_;refine .y 12 rfl hs af ?_;refine .z 13 rfl (zfa dn) ?_;refine .y 14 rfl hs af ?_;refine .z 15 rfl (zfa ff) ?_;refine .y 16 rfl hs af ?_;refine .z 17 rfl xr ?_;refine .z 18 rfl (zfa dM) ?_;refine .y 19 rfl hs af ?_;refine .z 20 rfl (zbd [_,_,_,_] oC) ?_
    refine .E 21 hs ?_
    obtain ⟨r4,r5⟩:=r2 hb23
    have hyd:=hy (yE s.dc ts k+1) (by simpa using (List.getElem?_eq_some_iff.1 r4).1) H3 σ3 (.blk b3 x.v:: .blk b2 [.func (.yield l) #[] #[]]::σf2) w (hle.trans (hle0.trans hle3)) hI3 (St.deep (σ1:=σ3) (St.deep (σ1:= .blk b3 x.v::σ3) (hs.perm (.swap _ _ _))))
    rw [A6 r4] at hyd
    refine .yield (vs:=[.agg x.back.v.toArray]) rfl rfl hyd ?_;rintro v35 w ⟨H4,σ4,hle4,hs,g4⟩
    obtain ⟨bb4,rfl,gT4,gF4⟩:=oG g4
    replace hs:St H4 w (.blk b3 x.v:: .blk b2 [.func (.yield l) #[] #[]]::(σ4++σf2)):=(St.shallow (σ1:= .blk b3 x.v::σ4) (St.shallow (σ1:=σ4) hs)).perm (.swap _ _ _)
    refine .go ?_
    refine .z 22 rfl gV ?_;refine .z 23 rfl zpT ?_;refine .D hs ?_
    refine (.cond rfl (fun hc37=>?_) (fun hc37=>?_))
    ·refine .ret (rB (?_))
     exact ⟨H4,.blk b2 [.func (.yield l) #[] #[]]::σ4,hle3.trans hle4,hs.tail,rfl,σ4,rfl,hle0.trans (hle3.trans hle4),gF4 (by simpa using hc37)⟩
    ·refine .skip ?_
     refine nB ?_
     exact ⟨H4,.blk b2 [.func (.yield l) #[] #[]]::σ4,hle3.trans hle4,hs.tail,σ4,rfl,hle0.trans (hle3.trans hle4),by rw [r5];exact gT4 (by simpa using hc37)⟩
   ·refine .qF (i:=10) rfl au rfl rfl ?_
    refine .qF (i:=11) rfl au rfl rfl ?_
    refine .qF (i:=12) rfl au rfl rfl ?_
    refine .qF (i:=13) rfl au rfl rfl ?_
    refine .qF (i:=14) rfl au rfl rfl ?_
    refine .qF (i:=15) rfl au rfl rfl ?_
    refine .qF (i:=16) rfl au rfl rfl ?_
    refine .qF (i:=17) rfl au rfl rfl ?_
    refine .qF (i:=18) rfl au rfl rfl ?_
    refine .qF (i:=19) rfl au rfl rfl ?_
    refine .qF (i:=20) rfl au rfl rfl ?_
    refine .qF (i:=21) rfl au rfl rfl ?_
    refine .qF (i:=22) rfl au rfl rfl ?_
    refine .z 23 rfl zpF ?_;refine .D hs ?_
    refine (.cF ?_)
    refine .skip ?_
    refine nB ?_
    exact ⟨H3,.blk b2 [.func (.yield l) #[] #[]]::σ3,hle3,hs.tail,σ3,rfl,hle0.trans hle3,by rw [r3 hb23];exact hI3⟩
 ·rintro D H2 σb2 w hle2 ⟨σo,rfl,hle0,hIk⟩ hs
  refine nB ?_
  exact Fin.Fy [D] [] hs.yu fun w hs=>⟨_,results0 Tryz.results270,H2,σo,hle0,hs,.inl (by simpa [Cw hlen] using hIk)⟩
 ·rintro D c H2 σb2 w hle2 ⟨rfl,σo,rfl,hle0,hx⟩ hs
  exact .ret (rB (Fin.iA [D] [] hs.yu fun w hs=>⟨_,results0 Tryz.results270,H2,σo,hle0,hs,.inr hx⟩))
theorem jZ{bf bt bl cl:Nat}{s:cj}{ts lf:List Int}{vl:Value}{sp:List Value}(hs:St H w σ)(hok:s.Ok)(hF:tL H bf s ts lf vl bt bl cl sp)(hlt:ts.length=s.bP.length):
  Cl Tryz.prog 223 [.pointer (some ⟨bf,0,none⟩)] w fun v w'=>∃H1 b,HLe H H1∧v= .func (.func 270) #[] #[.pointer (some ⟨b,0,none⟩)]∧ItA Tryz.prog 270 [.pointer (some ⟨b,0,none⟩)] H1 (cH s.dc ts)∧St H1 w' σ:=by
 refine Cl.o Tryz.func223 Tryz.ntmps223 ag1 ?_
 refine .aj ?_
 refine .bx hs fun b1 w hs=>?_
 refine .z zg (.nil (.aj ?_))
 refine .q hs (du (f:=[]) (c:=[_]) rfl rfl) ?_
 refine .z zg (.nil ?_)
 refine .ret (Fin.bH Tryz.results223 rfl ?_)
 obtain ⟨H1,g1,g2,hs⟩:=hs.cq .here
 exact ⟨H1,b1,g1,rfl,mP hok g2 (hF.mono g1) hlt,hs⟩
theorem o9{bf bt bl cl to:Nat}{s:cj}{ts lf:List Int}{vl:Value}{sp:List Value}(hs:St H w σ)(hok:s.Ok)(hF:tL H bf s ts lf vl bt bl cl sp)(hlt:ts.length=s.bP.length)(hll:lf.length=s.n)
  (hD:∃p,gp (cH s.dc ts) p) (hto:to<s.n) (hpos:0<gi lf to):
  Cl Tryz.prog 268 [.pointer (some ⟨bf,0,none⟩),I to] w fun v w'=>∃H1 p en,HLe H H1∧cf 4 v (iT p) en∧St H1 w' (en::σ)∧FZ s.n s.dc ts lf p to:=by
 obtain ⟨N,hN⟩:=Int.eq_ofNat_of_zero_le hok.m0
 have hN1:=hok.m1
 have hn:s.n=N+1:=by simp [cj.n,hN]
 have hoka:=hok.dc
 have hlen:s.dc.length=ts.length:=by simp [cj.dc,eE,hlt]
 rw [hn] at hoka hll hto ⊢
 obtain ⟨D,hg⟩:=yw ak ak hoka hlen hD
 have hf0:cellAt H bf 0=some (I (N:Int)):=by have:=hF.f.at 0 (v:=I s.many);rwa [hN] at this
 have hf3:cellAt H bf 3=some (.slice (some ⟨bl,0,none⟩) lf.length cl):=hF.f.at 3
 refine Cl.o Tryz.func268 Tryz.ntmps268 ag2 ?_
 refine .aj ?_
 refine .bx hs fun b2 w hs=>?_
 refine .z zg (.nil (.aj ?_))
 refine .o (.buildSlice (cells:=[_]) hs cQ rfl rfl fun b13 w hs=>?_)
 refine .y hs (zld qu) (.z znc (.z (zfa fg) (.z (zfa bI) (.y hs (zld af) (.z ck ?_)))))
 refine .o (.call Tryz.call288 rfl (qH (z:=far) (c:=N+1) hs .here ak ak) ?_);rintro _ w ⟨bc,rfl,hs⟩
 refine .o (.alloc hs dV rfl fun b5 w hs=>?_)
 refine .o (.store hs rfl rfl az fun w hs=>?_)
 refine .nil (.aj (.y hs (zld qu) (.z znc (.z (zfa fg) (.z (zfa bI) (.y hs (zld af) (.z ck ?_)))))))
 refine .o (.CF (N+1) hs rfl rfl aD yo rfl aK dX ak fun b27 w hs=>?_)
 refine .o (.alloc hs Tryz.zeroValue182 rfl fun b6 w hs=>?_)
 refine .o (.store hs rfl rfl uj fun w hs=>?_)
 refine .nil (.seq (.aj (.y hs (zld qu) (.z znc (.z (zfa dN) (.y hs (zld an) (.z (cB ae) (.z zm (.nil ?_)))))))))
 refine .for (N:=lf.length) (J:=fun k fr w=>fr=[(31,.slice (some ⟨bl,0,none⟩) lf.length cl),(5,.pointer (some ⟨b5,0,none⟩)),(6,.pointer (some ⟨b6,0,none⟩)),(2,.pointer (some ⟨b2,0,none⟩)),(1,I to)]∧∃st,tH (N+1) lf k st∧St H w (.blk b6 [.slice (some ⟨b27,0,none⟩) (N+1) (N+1)]:: .blk b27 (iT st.by_):: .blk b5 [.slice (some ⟨bc,0,none⟩) (N+1) (N+1)]:: .blk bc (Is st.cost):: .blk b2 [.pointer (some ⟨bf,0,none⟩)]::σ)) ak ?_ ?_ ?_
 ·exact .mk ⟨rfl,_,.start _ _,hs.sb⟩
 ·rintro k fr w hk ⟨rfl,st,hI,hs⟩
  have hck:cellAt H bl k=some (I (gi lf k)):=hF.d.at k (nD (bn hk) sp)
  have hlc:=hI.lc
  have hlb:=hI.lb
  have hkb:k<st.by_.length:=by omega
  refine .block (.aj (.z zm ?_))
  first|(refine .ixv hs ae ai ?_;intro b36 o36 hc36)|refine .z (zix ae ai) ?_
  refine .q hs (aJ rfl af hck) ?_
  refine .z zg (.z zg (.nil (.aj (.z zm (.z fH (.nil ?_))))))
  refine (.bB rfl (fun hc39=>?_) (fun hc39=>?_))
  ·refine .aj (.y hs (zld an) (.z zm ?_))
   first|(refine .ixv hs ae ai ?_;intro b42 o42 hc42)|refine .z (zix ae ai) ?_
   refine .o (.store hs rfl rfl ai fun w hs=>?_)
   refine .nil (.region (.y hs (zld fi) (.z zm ?_)))
   first|(refine .ixw hs aD aK ?_;intro b45 o45 hc45)|refine .z (nQ aD aK) ?_
   refine .z (zfa dM) ?_
   refine .o (.store hs rfl rfl ai ?_ cP (zf hkb ak) (xp hkb _));intro w hs
   refine .nil ?_
   refine nB (nT ?_)
   exact .mk ⟨rfl,_,hI.take ak hc39,hs⟩
  ·refine .skip ?_
   refine nB (nT ?_)
   exact .mk ⟨rfl,_,hI.skip hc39,hs⟩
 ·rintro fr w ⟨rfl,st0,hI0,hs⟩
  rw [hll] at hI0
  have hW0:=hI0.inv hg
  refine nT ?_
  refine .seq (.aj ?_)
  refine .o (.alloc hs Tryz.zeroValue4 rfl fun b9 w hs=>?_)
  refine .o (.store hs rfl rfl ln fun w hs=>?_)
  refine .nil (.block ?_)
  refine .loop (fun p:Nat×List Nat×bX×BS×Bool=>⟨141,marks p.2.1,[(9,.pointer (some ⟨p.1,0,none⟩)),(5,.pointer (some ⟨b5,0,none⟩)),(6,.pointer (some ⟨b6,0,none⟩)),(2,.pointer (some ⟨b2,0,none⟩)),(1,I to)]⟩)
   (fun p w=>HLe H p.2.2.1∧(∃j,sw (N+1) (cH s.dc ts) (fun v=>gi lf v<0) D j p.2.2.2.2 p.2.2.2.1∧(p.2.2.2.2=false→j=(cH s.dc ts).length))∧
    St p.2.2.1 w (.blk p.1 [.bool p.2.2.2.2]:: .blk b6 [.slice (some ⟨b27,0,none⟩) (N+1) (N+1)]:: .blk b27 (iT p.2.2.2.1.by_):: .blk b5 [.slice (some ⟨bc,0,none⟩) (N+1) (N+1)]:: .blk bc (Is p.2.2.2.1.cost):: .blk b2 [.pointer (some ⟨bf,0,none⟩)]::(mes p.2.1++σ)))
   (fun p=>2*WM (N+1) D p.2.2.2.1+(if p.2.2.2.2=true then 1 else 0)) (b9,[],H,st0,true) aR ⟨HLe.refl _,⟨0,hW0,fun h=>by cases h⟩,hs⟩ ?_
  rintro ⟨b9,Ds,H1,st,ag⟩ w ⟨hle1,⟨j,hW,hj⟩,hs⟩
  dsimp only at hle1 hW hj hs ⊢
  have hlc:=hW.lc
  have hlb:=hW.lb
  refine .seq (.aj (.y hs (zld rf) (.nil ?_)))
  refine (.cond rfl (fun hc48=>?_) (fun hc48=>?_))
  ·refine .skip ?_
   refine nT ?_
   refine .seq (.block (.aj ?_))
   subst hc48
   refine .o (.store hs rfl rfl ln fun w hs=>?_)
   refine .nil (.aj (.y hs (zld qu) ?_))
   refine .o (.call Tryz.call223 rfl (jZ hs hok (hF.mono hle1) hlt) ?_);rintro _ w ⟨H2,b50,hle2,rfl,hit,hs⟩
   refine .nil (.block ?_)
   refine .rangeFunc (gf:=270) (cap:=[.pointer (some ⟨b50,0,none⟩)]) (xs:=(cH s.dc ts).map fun x:Arc=>[Value.agg x.v.toArray])
    (σb:=[.blk b9 [.bool false],.blk b6 [.slice (some ⟨b27,0,none⟩) (N+1) (N+1)],.blk b27 (iT st.by_),.blk b5 [.slice (some ⟨bc,0,none⟩) (N+1) (N+1)],.blk bc (Is st.cost),.blk b2 [.pointer (some ⟨bf,0,none⟩)]]) (σf:=mes Ds++σ) hs trivial rfl hit Tryz.call270 bL rfl
    (I:=fun k H' σb=>HLe H2 H'∧∃st' ag,σb=[.blk b9 [.bool ag],.blk b6 [.slice (some ⟨b27,0,none⟩) (N+1) (N+1)],.blk b27 (iT st'.by_),.blk b5 [.slice (some ⟨bc,0,none⟩) (N+1) (N+1)],.blk bc (Is st'.cost),.blk b2 [.pointer (some ⟨bf,0,none⟩)]]∧
     sw (N+1) (cH s.dc ts) (fun v=>gi lf v<0) D k ag st'∧WM (N+1) D st'≤WM (N+1) D st∧(ag=true→WM (N+1) D st'<WM (N+1) D st)) (Ix:=fun _ _ _=>False)
    (by rintro k _ _ σ g1 ⟨g2,g3⟩;exact ⟨g2.trans g1,g3⟩) (fun _ _ _ _ _ h=>h) ⟨HLe.refl _,st,false,rfl,hW.next,Nat.le_refl _,fun h=>by cases h⟩ ?_ ?_ (fun D c H' σb w _ h _=>h.elim)
   ·rintro l k hk H3 σb3 σf3 w hle3 ⟨hle23,st',ag,rfl,hW',hm1,hm2⟩ hs ⟨rr,hrr⟩
    obtain ⟨x,hx⟩:=nth (l:=cH s.dc ts) (by simpa using hk)
    obtain ⟨c1,c2,c3,c4,c5,c6⟩:=hg.ok x (List.mem_of_getElem? hx)
    rw [A6 hx]
    have hlc':=hW'.lc
    have hlb':=hW'.lb
    have lo1:=hW'.lo x.f c1
    have lo2:=hg.d1 x.f c1
    have hx3:cellAt H3 bl x.t=some (I (gi lf x.t)):=((hF.mono (hle1.trans (hle2.trans hle3))).d).at x.t (nD (bn ak) sp)
    have hf33:cellAt H3 bf 3=some (.slice (some ⟨bl,0,none⟩) lf.length cl):=cellAt.mono hf3 (hle1.trans (hle2.trans hle3))
    refine .region ?_
    refine .o (.alloc hs dX rfl fun b10 w hs=>?_)
    refine .o (.aZ (vs:=x.v) hs rfl rfl aK fun w hs=>?_)
    refine .nil ?_
    refine nT ?_
    refine ⟨H3,[.blk b10 x.v,.blk b9 [.bool ag],.blk b6 [.slice (some ⟨b27,0,none⟩) (N+1) (N+1)],.blk b27 (iT st'.by_),.blk b5 [.slice (some ⟨bc,0,none⟩) (N+1) (N+1)],.blk bc (Is st'.cost),.blk b2 [.pointer (some ⟨bf,0,none⟩)]],HLe.refl _,hs,?_⟩;rintro w σf4 - hs
    refine .block ?_
    refine .seq (.draw mix rfl hs fun w hs=>?_)
    refine .y 0 rfl hs an ?_;refine .z 1 rfl (zfa dn) ?_;refine .y 2 rfl hs af ?_
    first|(refine .ixv 3 rfl hs ae ai ?_;intro b55 o55 hc55)|refine .z 3 rfl (zix ae ai) ?_
    refine .y 4 rfl hs af ?_;refine .z 5 rfl fH ?_;refine .z 6 rfl zm ?_
    refine .iD (t':=58) rfl (fun hb58=>?_) (fun hb58=>?_)
    ·refine .y 7 rfl hs an ?_;refine .z 8 rfl (zfa dn) ?_;refine .y 9 rfl hs af ?_
     first|(refine .ixv 10 rfl hs ae ai ?_;intro b62 o62 hc62)|refine .z 10 rfl (zix ae ai) ?_
     refine .y 11 rfl hs af ?_;refine .z 12 rfl (zfa ff) ?_;refine .y 13 rfl hs af ?_;refine .z 14 rfl ck ?_;refine .y 15 rfl hs an ?_;refine .z 16 rfl (zfa dt) ?_;refine .y 17 rfl hs af ?_
     first|(refine .ixv 18 rfl hs ae ai ?_;intro b70 o70 hc70)|refine .z 18 rfl (zix ae ai) ?_
     refine .y 19 rfl hs af ?_;refine .z 20 rfl fH ?_;refine .z 21 rfl zpT ?_;refine .z 22 rfl zm ?_
     refine .iD (t':=74) rfl (fun hb74=>?_) (fun hb74=>?_)
     ·refine .y 23 rfl hs qu ?_;refine .z 24 rfl znc ?_;refine .z 25 rfl (zfa dN) ?_;refine .y 26 rfl hs an ?_;refine .z 27 rfl (zfa dt) ?_;refine .y 28 rfl hs af ?_
      first|(refine .ixv 29 rfl hs ae ai ?_;intro b81 o81 hc81)|refine .z 29 rfl (zix ae ai) ?_
      refine .y 30 rfl hs af ?_;refine .z 31 rfl xt ?_;refine .z 32 rfl zm ?_
      refine .iD (t':=84) rfl (fun hb84=>?_) (fun hb84=>?_)
      ·refine .qF (i:=33) rfl au rfl rfl ?_
       refine .qF (i:=34) rfl au rfl rfl ?_
       refine .qF (i:=35) rfl au rfl rfl ?_
       refine .qF (i:=36) rfl au rfl rfl ?_
       refine .qF (i:=37) rfl au rfl rfl ?_
       refine .qF (i:=38) rfl au rfl rfl ?_
       refine .qF (i:=39) rfl au rfl rfl ?_
       refine .qF (i:=40) rfl au rfl rfl ?_
       refine .qF (i:=41) rfl au rfl rfl ?_
       refine .z 42 rfl zpT ?_;refine .z 43 rfl zpT ?_;refine .D hs ?_
       refine (.cT ?_)
       refine .draw mix rfl hs fun w hs=>?_
       refine .y 0 rfl hs an ?_;refine .z 1 rfl (zfa dt) ?_;refine .y 2 rfl hs af ?_;refine .y 3 rfl hs fi ?_;refine .z 4 rfl (zfa dt) ?_;refine .y 5 rfl hs af ?_;refine .y 6 rfl hs an ?_;refine .z 7 rfl (zfa dn) ?_;refine .y 8 rfl hs af ?_
       first|(refine .ixv 9 rfl hs ae ai ?_;intro b105 o105 hc105)|refine .z 9 rfl (zix ae ai) ?_
       refine .y 10 rfl hs af ?_;refine .z 11 rfl (zfa ff) ?_;refine .y 12 rfl hs af ?_;refine .z 13 rfl ck ?_
       refine .xV (i:=14) (vs:=x.v) hs rfl au .none rfl gw aK ?_
       first|(refine .ixv 15 rfl hs ae ai ?_;intro b111 o111 hc111)|refine .z 15 rfl (zix ae ai) ?_
       refine .E 16 hs ?_
       refine .store hs rfl rfl ai ?_;intro w hs
       refine .go ?_
       first|(refine .ixw 17 rfl hs aD aK ?_;intro b112 o112 hc112)|refine .z 17 rfl (nQ aD aK) ?_
       refine .E 18 hs ?_
       refine .aZ (vs:=x.v) hs rfl rfl aK ?_;intro w hs
       refine .go ?_
       refine .E 19 hs ?_
       refine .store hs rfl rfl ln ?_;intro w hs
       refine .go ?_
       refine .D hs ?_
       refine nB ?_
       have:=hW'.less hg hx hb58 hb74
       exact ⟨H3,_,HLe.refl _,hs.tail,hle23,st'.rlx x,true,rfl,hW'.tZ hg hx hb58 hb74,ak,fun _=>by omega⟩
      ·refine .y 33 rfl hs an ?_;refine .z 34 rfl (zfa dn) ?_;refine .y 35 rfl hs af ?_
       first|(refine .ixv 36 rfl hs ae ai ?_;intro b88 o88 hc88)|refine .z 36 rfl (zix ae ai) ?_
       refine .y 37 rfl hs af ?_;refine .z 38 rfl (zfa ff) ?_;refine .y 39 rfl hs af ?_;refine .z 40 rfl ck ?_;refine .z 41 rfl fH ?_;refine .z 42 rfl zpF ?_;refine .z 43 rfl zpT ?_;refine .D hs ?_
       refine (.bB rfl (fun hc95=>?_) (fun hc95=>?_))
       ·refine .draw mix rfl hs fun w hs=>?_
        refine .y 0 rfl hs an ?_;refine .z 1 rfl (zfa dt) ?_;refine .y 2 rfl hs af ?_;refine .y 3 rfl hs fi ?_;refine .z 4 rfl (zfa dt) ?_;refine .y 5 rfl hs af ?_;refine .y 6 rfl hs an ?_;refine .z 7 rfl (zfa dn) ?_;refine .y 8 rfl hs af ?_
        first|(refine .ixv 9 rfl hs ae ai ?_;intro b105 o105 hc105)|refine .z 9 rfl (zix ae ai) ?_
        refine .y 10 rfl hs af ?_;refine .z 11 rfl (zfa ff) ?_;refine .y 12 rfl hs af ?_;refine .z 13 rfl ck ?_
        refine .xV (i:=14) (vs:=x.v) hs rfl au .none rfl gw aK ?_
        first|(refine .ixv 15 rfl hs ae ai ?_;intro b111 o111 hc111)|refine .z 15 rfl (zix ae ai) ?_
        refine .E 16 hs ?_
        refine .store hs rfl rfl ai ?_;intro w hs
        refine .go ?_
        first|(refine .ixw 17 rfl hs aD aK ?_;intro b112 o112 hc112)|refine .z 17 rfl (nQ aD aK) ?_
        refine .E 18 hs ?_
        refine .aZ (vs:=x.v) hs rfl rfl aK ?_;intro w hs
        refine .go ?_
        refine .E 19 hs ?_
        refine .store hs rfl rfl ln ?_;intro w hs
        refine .go ?_
        refine .D hs ?_
        refine nB ?_
        have:=hW'.less hg hx hb58 hb74
        exact ⟨H3,_,HLe.refl _,hs.tail,hle23,st'.rlx x,true,rfl,hW'.tZ hg hx hb58 hb74,ak,fun _=>by omega⟩
       ·refine .skip ?_
        refine nB ?_
        have:=hW'.src x.t c2 ak
        omega
     ·refine .qF (i:=23) rfl au rfl rfl ?_
      refine .qF (i:=24) rfl au rfl rfl ?_
      refine .qF (i:=25) rfl au rfl rfl ?_
      refine .qF (i:=26) rfl au rfl rfl ?_
      refine .qF (i:=27) rfl au rfl rfl ?_
      refine .qF (i:=28) rfl au rfl rfl ?_
      refine .qF (i:=29) rfl au rfl rfl ?_
      refine .qF (i:=30) rfl au rfl rfl ?_
      refine .qF (i:=31) rfl au rfl rfl ?_
      refine .qF (i:=32) rfl au rfl rfl ?_
      refine .qF (i:=33) rfl au rfl rfl ?_
      refine .qF (i:=34) rfl au rfl rfl ?_
      refine .qF (i:=35) rfl au rfl rfl ?_
      refine .qF (i:=36) rfl au rfl rfl ?_
      refine .qF (i:=37) rfl au rfl rfl ?_
      refine .qF (i:=38) rfl au rfl rfl ?_
      refine .qF (i:=39) rfl au rfl rfl ?_
      refine .qF (i:=40) rfl au rfl rfl ?_
      refine .qF (i:=41) rfl au rfl rfl ?_
      refine .qF (i:=42) rfl au rfl rfl ?_
      refine .z 43 rfl zpF ?_;refine .D hs ?_
      refine (.cF ?_)
      refine .skip ?_
      refine nB ?_
      exact ⟨H3,_,HLe.refl _,hs.tail,hle23,st',ag,rfl,hW'.skip hx (fun h=>hb74 h.2),hm1,hm2⟩
    ·refine .qF (i:=7) rfl au rfl rfl ?_
     refine .qF (i:=8) rfl au rfl rfl ?_
     refine .qF (i:=9) rfl au rfl rfl ?_
     refine .qF (i:=10) rfl au rfl rfl ?_
     refine .qF (i:=11) rfl au rfl rfl ?_
     refine .qF (i:=12) rfl au rfl rfl ?_
     refine .qF (i:=13) rfl au rfl rfl ?_
     refine .qF (i:=14) rfl au rfl rfl ?_
     refine .qF (i:=15) rfl au rfl rfl ?_
     refine .qF (i:=16) rfl au rfl rfl ?_
     refine .qF (i:=17) rfl au rfl rfl ?_
     refine .qF (i:=18) rfl au rfl rfl ?_
     refine .qF (i:=19) rfl au rfl rfl ?_
     refine .qF (i:=20) rfl au rfl rfl ?_
     refine .z 21 rfl zpF ?_;refine .z 22 rfl zm ?_
     refine .qF (i:=23) rfl au rfl rfl ?_
     refine .qF (i:=24) rfl au rfl rfl ?_
     refine .qF (i:=25) rfl au rfl rfl ?_
     refine .qF (i:=26) rfl au rfl rfl ?_
     refine .qF (i:=27) rfl au rfl rfl ?_
     refine .qF (i:=28) rfl au rfl rfl ?_
     refine .qF (i:=29) rfl au rfl rfl ?_
     refine .qF (i:=30) rfl au rfl rfl ?_
     refine .qF (i:=31) rfl au rfl rfl ?_
     refine .qF (i:=32) rfl au rfl rfl ?_
     refine .qF (i:=33) rfl au rfl rfl ?_
     refine .qF (i:=34) rfl au rfl rfl ?_
     refine .qF (i:=35) rfl au rfl rfl ?_
     refine .qF (i:=36) rfl au rfl rfl ?_
     refine .qF (i:=37) rfl au rfl rfl ?_
     refine .qF (i:=38) rfl au rfl rfl ?_
     refine .qF (i:=39) rfl au rfl rfl ?_
     refine .qF (i:=40) rfl au rfl rfl ?_
     refine .qF (i:=41) rfl au rfl rfl ?_
     refine .qF (i:=42) rfl au rfl rfl ?_
     refine .z 43 rfl zpF ?_;refine .D hs ?_
     refine (.cF ?_)
     refine .skip ?_
     refine nB ?_
     exact ⟨H3,_,HLe.refl _,hs.tail,hle23,st',ag,rfl,hW'.skip hx (fun h=>hb58 h.1),hm1,hm2⟩
   ·rintro D3 H3 σb3 w hle3 ⟨hle23,st',ag,rfl,hW',hm1,hm2⟩ hs
    replace hs:St H3 w (.blk b9 [.bool ag]:: .blk b6 [.slice (some ⟨b27,0,none⟩) (N+1) (N+1)]:: .blk b27 (iT st'.by_):: .blk b5 [.slice (some ⟨bc,0,none⟩) (N+1) (N+1)]:: .blk bc (Is st'.cost):: .blk b2 [.pointer (some ⟨bf,0,none⟩)]::(mes (D3::Ds)++σ)):=St.deep (σ1:=[_,_,_,_,_,_]) hs
    rw [List.length_map] at hW'
    refine nB (nB (nT ?_))
    refine .aj (.y hs (zld rf) (.nil (.region ?_)))
    refine .o (.alloc hs Tryz.zeroValue4 rfl fun b9 w hs=>?_)
    refine .o (.store hs rfl rfl ln fun w hs=>?_)
    refine .nil ?_
    refine nT ?_
    exact ⟨(b9,D3::Ds,H3,st',ag),aR,⟨hle1.trans (hle2.trans hle3),⟨_,hW',fun _=>rfl⟩,hs.sb⟩,by
      dsimp only
      cases ag with
      |false=>simp;omega
      |true=>have:=hm2 rfl;simp;omega⟩
  ·refine .exit ?_
   refine xT (xT (xB (nT ?_)))
   refine .seq (.aj ?_)
   subst hc48
   obtain rfl:=hj rfl
   refine .y hs (zld an) (.z zm ?_)
   first|(refine .ixv hs ae ai ?_;intro b116 o116 hc116)|refine .z (zix ae ai) ?_
   refine .y hs (zld af) (.z fo (.nil ?_))
   refine (.bB rfl (fun hc118=>?_) (fun hc118=>?_))
   ·refine .aj (.z zg (.nil ?_))
    refine .ret (rT (?_))
    refine Fin.iA Ds [_,_,_,_,_,_] hs fun w hs=>⟨_,results1 Tryz.results268 rfl,H1,[],.nul,hle1,.nil 4 none,(hs.sb).nul,hW.none hg hc118⟩
   ·refine .skip ?_
    refine nT ?_
    refine .aj (.z zg (.nil (.seq (.aj (.z zm (.z zg (.nil (.block ?_))))))))
    have hreach:gi st.cost to<far:=by have:=hW.top to hto;have e:far=1152921504606846976:=rfl;omega
    obtain ⟨kk,cc,u,hbk,hroot,hkn,hk0,hcl,hway⟩:=hW.back hg hto hreach hpos
    refine .loop (fun p:Nat×Nat×Value×Ent=>⟨141,marks Ds,[(11,p.2.2.1),(12,I p.2.1),(6,.pointer (some ⟨b6,0,none⟩))]⟩)
     (fun p w=>p.1≤kk∧(p.2.1<N+1∧gi st.cost p.2.1<far)∧cf 4 p.2.2.1 (iT (ig st.by_ to p.1)) p.2.2.2∧(∃d,fQ st.by_ to p.1 d p.2.1)∧(∃d,fQ st.by_ p.2.1 (kk - p.1) d u)∧
      St H1 w (p.2.2.2:: .blk b9 [.bool false]:: .blk b6 [.slice (some ⟨b27,0,none⟩) (N+1) (N+1)]:: .blk b27 (iT st.by_):: .blk b5 [.slice (some ⟨bc,0,none⟩) (N+1) (N+1)]:: .blk bc (Is st.cost):: .blk b2 [.pointer (some ⟨bf,0,none⟩)]::(mes Ds++σ)))
     (fun p=>kk - p.1) (0,to,.slice none 0 0,.nul) aR ⟨Nat.zero_le _,⟨hto,hreach⟩,.nil 4 none,⟨0,.nil⟩,⟨cc,hbk⟩,hs.nul⟩ ?_
    rintro ⟨i,v,v11,en⟩ w ⟨hik,⟨hv1,hv2⟩,hO,⟨d1,hb1⟩,⟨d2,hb2⟩,hs⟩
    dsimp only at hik hv1 hv2 hO hb1 hb2 hs ⊢
    have hvb:v<st.by_.length:=by omega
    refine .seq (.aj (.y hs (zld fi) (.z zm ?_)))
    first|(refine .ixw hs aD aK ?_;intro b122 o122 hc122)|refine .z (nQ aD aK) ?_
    refine .z (zfa dM) ?_
    refine .q hs (dG rfl af (hv:=(qq hvb (j:=3) ak).trans rfl)) ?_
    refine .z xt (.nil ?_)
    refine (.bB rfl (fun hc125=>?_) (fun hc125=>?_))
    ·refine .skip ?_
     refine nT ?_
     refine .seq (.block (.region (.z zm (.y hs (zld fi) (.z zm ?_)))))
     first|(refine .ixw hs aD aK ?_;intro b134 o134 hc134)|refine .z (nQ aD aK) ?_
     refine .q hs (kq (vs:=(ga st.by_ v).v) rfl gw aK (hv:=zp hvb)) ?_
     refine .o (.buildSlice (cells:=(ga st.by_ v).v) hs pb rfl rfl fun b136 w hs=>?_)
     refine .o (.append (ys:=(ga st.by_ v).v) hs kd rfl rfl hO (.own .here rfl rfl) (by simp [Arc.v,Value.oneCell']) (fun l h=>by rw [dI,gy] at h;omega) ?_);intro v137 en137 w hO2 hs
     refine .z zg (.nil ?_)
     refine nB (nT ?_)
     refine .region (.y hs (zld fi) (.z zm ?_))
     first|(refine .ixw hs aD aK ?_;intro b128 o128 hc128)|refine .z (nQ aD aK) ?_
     refine .z (zfa dn) ?_
     refine .q hs (dG rfl af (hv:=(qq hvb (j:=0) ak).trans rfl)) ?_
     refine .z zg (.nil ?_)
     refine nT ?_
     obtain ⟨g1,g2⟩:=hcl v hv1 hv2 hc125
     obtain ⟨m,hm⟩:∃m,kk - i=m+1:=by
      refine ⟨kk - i - 1,?_⟩
      rcases Nat.lt_or_ge i kk with h|h
      ·omega
      ·obtain e:kk - i=0:=by omega
       rw [e] at hb2
       cases hb2
       omega
     rw [hm] at hb2
     obtain ⟨d3,hb3⟩:∃d,fQ st.by_ (ga st.by_ v).f m d u:=by cases hb2 with|cons _ t=>exact ⟨_,t⟩
     rw [←BK,←uu hb1] at hO2
     exact ⟨(i+1,(ga st.by_ v).f,v137,en137),aR,⟨by dsimp only;omega,⟨g1,g2⟩,hO2,⟨_,hb1.trans (.cons hc125 .nil)⟩,⟨d3,by rw [show kk - (i+1)=m by omega];exact hb3⟩,hs.sb⟩,by dsimp only;omega⟩
    ·refine .exit ?_
     refine xT (xT (xB (nT ?_)))
     refine .aj ?_
     obtain rfl:i=kk:=by
      rcases Nat.lt_or_ge i kk with h|h
      ·obtain ⟨m,hm⟩:∃m,kk - i=m+1:=⟨kk - i - 1,ak⟩
       rw [hm] at hb2
       cases hb2 with
       |cons hl _=>omega
      ·omega
     refine .z zm ?_
     refine .o (.call Tryz.call289 rfl (oL hs hO (by rw [gy];omega)) ?_);rintro v139 w ⟨en',hO',hs⟩
     refine .nil (.aj (.z zm (.z zg (.nil ?_))))
     refine .ret ?_
     refine Fin.iA Ds [_,_,_,_,_,_,_] hs fun w hs=>⟨_,results1 Tryz.results268 rfl,H1,_,en',hle1,hO',hs.sb,hway _ rfl⟩
theorem zn{s:cj}{x:Arc}(hok:s.Ok)(hx:Aa s.dc x):∃(i:Nat) (l:Lim),s.bP[i]? =some l∧x.l=(i:Int)∧(l.A=(x.f:Int)↔fwd s.dc x)∧i<s.bP.length:=by
 obtain ⟨i,y,h1,h2⟩:=hx
 have hl:=qo h1
 have hlt:i<s.bP.length:=by have:=(List.getElem?_eq_some_iff.1 h1).1;simpa [cj.dc,eE] using this
 obtain ⟨l,hl2⟩:=nth hlt
 have h3:=kf hl2
 have h1':(mz s.bP)[i]? =some y:=h1
 rw [h3] at h1'
 cases h1'
 obtain ⟨a1,a2,_⟩:=hok.arc (List.mem_of_getElem? hl2) i
 refine ⟨i,l,hl2,?_,?_,hlt⟩
 ·rcases h2 with rfl|rfl<;>rfl
 ·have hg:ga s.dc i=l.arc i:=by simp [ga,cj.dc,h3]
  have hxl:x.l.toNat=i:=by rcases h2 with rfl|rfl<;>rfl
  unfold fwd
  rw [hxl,hg,←a1]
  exact ⟨fun e=>by exact_mod_cast e,fun e=>by exact_mod_cast e⟩
theorem jC{bf:Nat}{s:cj}{vl vt vd:Value}{x:Arc}(hs:St H w σ)(hok:s.Ok)(hf:Row H bf [I s.many,vl,vt,vd])(hl:RL H vl s.bP)(hx:Aa s.dc x):
  Cl Tryz.prog 290 [.pointer (some ⟨bf,0,none⟩),.agg x.v.toArray] w fun v w'=>v= .bool (decide (fwd s.dc x))∧St H w' σ:=by
 obtain ⟨i,l,hl1,hxl,hfw,hil⟩:=zn hok hx
 have hf1:cellAt H bf 1=some vl:=hf.at 1
 refine Cl.o Tryz.func290 Tryz.ntmps290 ag2 ?_
 refine .aj ?_
 refine .bx hs fun b3 w hs=>?_
 refine .z zg (.nil ?_)
 refine .seq (.draw mix rfl hs fun w hs=>?_)
 refine .z 0 rfl zm ?_;refine .z 1 rfl znc ?_;refine .z 2 rfl (zfa fg) ?_;refine .z 3 rfl (zfa bE) ?_;refine .y 4 rfl hs cA ?_;refine .z 5 rfl (zfa dM) ?_;refine .y 6 rfl hs af ?_
 refine .ixX (i:=7) hs rfl au .none hl rfl rfl aI aS hl1 hxl ?_;intro b12 o12 hc12
 have hA:cellAt H b12 o12=some (I l.A):=hc12.get 0 rfl
 refine .z 8 rfl (zfa dE) ?_;refine .y 9 rfl hs af ?_;refine .z 10 rfl (zfa dn) ?_;refine .y 11 rfl hs af ?_;refine .z 12 rfl fo ?_;refine .z 13 rfl zg ?_;refine .D hs ?_
 refine .ret (Fin.bH Tryz.results290 rfl ?_)
 exact ⟨by simp only [decide_eq_decide.2 hfw],hs.out⟩
theorem ob{bf bt bl cl u v:Nat}{s:cj}{ts lf:List Int}{wt:Nat→Int}{vl vp:Value}{sp:List Value}{p:List Arc}(hs:St H w (.blk bt (Is ts):: .blk bl (Is lf++sp)::σ))(hok:s.Ok)
  (hf:Row H bf [I s.many,vl,.slice (some ⟨bt,0,none⟩) ts.length ts.length,.slice (some ⟨bl,0,none⟩) lf.length cl]) (hl:RL H vl s.bP) (hp:RS H 4 vp (p.map Arc.v)) (hI:ui s.n s.dc wt ts lf) (hw:Eo s.dc ts lf s.n p u v) (hpn:p≠[]) (hpl:p.length<s.n):
  Cl Tryz.prog 269 [.pointer (some ⟨bf,0,none⟩),vp] w fun _ w'=>St H w' (.blk bt (Is (eW s.dc (pY s.dc ts lf p u v) ts p)):: .blk bl (Is (wR lf (pY s.dc ts lf p u v) u v)++sp)::σ):=by
 have hN1:=hok.m1
 have hn65:s.n≤65:=by simp only [cj.n];have:=hok.m0;omega
 have hnum:yi s.dc:=fun i x hx=>⟨qo hx,(hok.dc.2 x (List.mem_of_getElem? hx)).2.2.2.2.2⟩
 have hlt:=hI.lt
 have hll:=hI.ll
 obtain ⟨m0,m1,m2,m3⟩:=si hlt.symm hnum hw
 have hsu:=hI.sg u hw.un
 have hsv:=hI.sg v hw.vn
 have hun:u<lf.length:=by rw [hll];exact hw.un
 have hvn:v<lf.length:=by rw [hll];exact hw.vn
 obtain ⟨a,cap,hvp⟩:=hp.shape
 rw [List.length_map] at hvp
 subst hvp
 have hp0:0<p.length:=List.length_pos_iff.2 hpn
 obtain ⟨x0,hx0⟩:=nth hp0
 obtain ⟨x1,hx1⟩:=nth (l:=p) (k:=p.length - 1) ak
 have hh:=hw.ch.head hx0
 have hla:=hw.ch.last hx1
 have hf2:cellAt H bf 2=some (.slice (some ⟨bt,0,none⟩) ts.length ts.length):=hf.at 2
 have hf3:cellAt H bf 3=some (.slice (some ⟨bl,0,none⟩) lf.length cl):=hf.at 3
 have hix:∀x∈p,Aa s.dc x∧x.l.toNat<ts.length∧x.l=(x.l.toNat:Int):=fun x hx=>by
  obtain ⟨g1,g2,_⟩:=ji hlt.symm hnum (hw.mem x hx)
  obtain ⟨i,l,_,g3,_⟩:=zn hok g1
  exact ⟨g1,g2,by rw [g3];simp⟩
 simp only [FF] at hsu hsv
 have huv:v≠u:=fun e=>by have:=hw.lu;have:=hw.lv;rw [e] at*;omega
 have htt:∀i<ts.length,0≤gi ts i∧gi ts i≤3600000000000:=fun i hi=>by
  have h1:=hI.nn i ak
  have h2:=hI.tb i ak
  have h3:0≤rem s.n lf:=cN fun v _=>by omega
  simp only [FF] at h2
  omega
 have hM:pY s.dc ts lf p u v=least s.dc ts (min (-gi lf u) (gi lf v)) p:=rfl
 generalize pY s.dc ts lf p u v=M at*
 have hgv:gi (lf.set u (gi lf u+M)) v=gi lf v:=by rw [ed hun,if_neg huv]
 refine Cl.o Tryz.func269 Tryz.ntmps269 ag2 ?_
 refine .seq (.draw mix rfl hs fun w hs=>?_)
 refine .z 0 rfl zm ?_
 refine .ixX (i:=1) hs rfl au .none hp rfl rfl aD aK hx0 rfl ?_;intro b12 o12 hc12
 have h14:cellAt H b12 (o12+0)=some (I u):=by rw [←hh];exact hc12.get 0 rfl
 refine .z 2 rfl (zfa dn) ?_;refine .y 3 rfl hs af ?_;refine .z 4 rfl zm ?_;refine .z 5 rfl zm ?_;refine .z 6 rfl (cB aD) ?_;refine .z 7 rfl gL ?_
 refine .ixX (i:=8) hs rfl au .none hp rfl rfl aD aK hx1 ak ?_;intro b19 o19 hc19
 have h21:cellAt H b19 (o19+1)=some (I v):=by rw [←hla];exact hc19.get 1 rfl
 refine .z 9 rfl (zfa dt) ?_;refine .y 10 rfl hs af ?_;refine .z 11 rfl zg ?_;refine .z 12 rfl zg ?_;refine .D hs ?_
 refine .seq (.draw mix rfl hs fun w hs=>?_)
 refine .z 0 rfl zm ?_;refine .z 1 rfl znc ?_;refine .z 2 rfl (zfa dN) ?_;refine .y 3 rfl hs an ?_;refine .z 4 rfl zm ?_
 first|(refine .ixv 5 rfl hs ae ai ?_;intro b27 o27 hc27)|refine .z 5 rfl (zix ae ai) ?_
 refine .load (i:=6) hs rfl au .none rfl af ?_ (hv:=fB hun sp)
 refine .z 7 rfl xr ?_;refine .z 8 rfl zm ?_;refine .z 9 rfl znc ?_;refine .z 10 rfl (zfa dN) ?_;refine .y 11 rfl hs an ?_;refine .z 12 rfl zm ?_
 first|(refine .ixv 13 rfl hs ae ai ?_;intro b35 o35 hc35)|refine .z 13 rfl (zix ae ai) ?_
 refine .load (i:=14) hs rfl au .none rfl af ?_ (hv:=fB hvn sp)
 refine .z 15 rfl zr ?_;refine .z 16 rfl zg ?_;refine .D hs ?_
 refine .seq (.aj (.z zm (.z (cB aD) (.z zm (.nil ?_)))))
 refine .for (N:=p.length) (J:=fun k fr w=>fr=[(38,.slice a p.length cap),(6,I (least s.dc ts (min (-gi lf u) (gi lf v)) (p.take k))),(0,.pointer (some ⟨bf,0,none⟩)),(1,.slice a p.length cap),(4,I u),(5,I v)]∧St H w (.blk bt (Is ts):: .blk bl (Is lf++sp)::σ)) ak ?_ ?_ ?_
 ·exact .mk ⟨rfl,hs⟩
 ·rintro k fr w hk ⟨rfl,hs⟩
  obtain ⟨x,hx⟩:=nth hk
  obtain ⟨g1,g2,g3⟩:=hix x (List.mem_of_getElem? hx)
  refine .block (.aj ?_)
  refine .ixX hs hp rfl rfl aD aK hx rfl ?_;intro b42 o42 hc42
  refine .q hs (cI (vs:=x.v) rfl gw aK hc42) ?_
  refine .o (.alloc hs dX rfl fun b8 w hs=>?_)
  refine .o (.aZ (vs:=x.v) hs rfl rfl aK fun w hs=>?_)
  refine .nil (.aj (.z zm ?_))
  refine .q hs (kq (vs:=x.v) rfl gw aK) ?_
  refine .o (.call Tryz.call290 rfl (jC hs hok hf hl g1) ?_);rintro _ w ⟨rfl,hs⟩
  refine .z gV (.nil ?_)
  refine (.cond rfl (fun hc47=>?_) (fun hc47=>?_))
  ·refine .draw mix rfl hs fun w hs=>?_
   refine .z 0 rfl zm ?_;refine .z 1 rfl zm ?_;refine .z 2 rfl znc ?_;refine .z 3 rfl (zfa gH) ?_;refine .y 4 rfl hs an ?_;refine .z 5 rfl (zfa dM) ?_;refine .y 6 rfl hs af ?_
   refine .z 7 rfl (dH (k:=x.l.toNat) rfl rfl ae ai g3 g2) ?_
   refine .y 8 rfl hs af ?_;refine .z 9 rfl zr ?_;refine .z 10 rfl zg ?_;refine .D hs ?_
   refine nB (nT ?_)
   have e:min (least s.dc ts (min (-gi lf u) (gi lf v)) (p.take k)) (gi ts x.l.toNat)=least s.dc ts (min (-gi lf u) (gi lf v)) (p.take (k+1)):=by rw [dh hx,lU,if_neg (by simpa using hc47)]
   exact .mk ⟨rfl,hs.tail⟩ (hs:= .cons rfl (.cons rfl (.cons rfl (.bU rfl e (.cons rfl (.cons rfl (.cons rfl (.cons rfl (.nil rfl rfl)))))))))
  ·refine .skip ?_
   refine nB (nT ?_)
   have e:least s.dc ts (min (-gi lf u) (gi lf v)) (p.take k)=least s.dc ts (min (-gi lf u) (gi lf v)) (p.take (k+1)):=by rw [dh hx,lU,if_pos (by simpa using hc47)]
   exact .mk ⟨rfl,hs.tail⟩ (hs:= .cons rfl (.cons rfl (.cons rfl (.bU rfl e (.cons rfl (.cons rfl (.cons rfl (.cons rfl (.nil rfl rfl)))))))))
 ·rintro fr w ⟨rfl,hs⟩
  have e6:least s.dc ts (min (-gi lf u) (gi lf v)) (List.take p.length p)=M:=by rw [List.take_length];exact hM.symm
  rw [e6]
  refine nT ?_
  refine .seq (.aj (.z zm (.z (cB aD) (.z zm (.nil ?_)))))
  refine .for (N:=p.length) (J:=fun k fr w=>fr=[(59,.slice a p.length cap),(6,I M),(0,.pointer (some ⟨bf,0,none⟩)),(1,.slice a p.length cap),(4,I u),(5,I v)]∧St H w (.blk bt (Is (eW s.dc M ts (p.take k))):: .blk bl (Is lf++sp)::σ)) ak ?_ ?_ ?_
  ·exact .mk ⟨rfl,hs⟩
  ·rintro k fr w hk ⟨rfl,hs⟩
   obtain ⟨x,hx⟩:=nth hk
   obtain ⟨g1,g2,g3⟩:=hix x (List.mem_of_getElem? hx)
   have hpl2:=iL s.dc M (p.take k) ts
   have hbd:=wN (es:=s.dc) (m:=M) (ts:=ts) (p:=p.take k) ak (by simp only [FF];omega) (by rw [List.length_take];omega) (fun y hy=>(hix y (List.mem_of_mem_take hy)).2.1) x.l.toNat
   have h9:=htt _ g2
   refine .block (.aj ?_)
   refine .ixX hs hp rfl rfl aD aK hx rfl ?_;intro b63 o63 hc63
   refine .q hs (cI (vs:=x.v) rfl gw aK hc63) ?_
   refine .o (.alloc hs dX rfl fun b10 w hs=>?_)
   refine .o (.aZ (vs:=x.v) hs rfl rfl aK fun w hs=>?_)
   refine .nil (.aj (.z zm ?_))
   refine .q hs (kq (vs:=x.v) rfl gw aK) ?_
   refine .o (.call Tryz.call290 rfl (jC hs hok hf hl g1) ?_);rintro _ w ⟨rfl,hs⟩
   refine .nil ?_
   refine (.cond rfl (fun hc67=>?_) (fun hc67=>?_))
   ·refine .draw mix rfl hs fun w hs=>?_
    refine .z 0 rfl zm ?_;refine .z 1 rfl znc ?_;refine .z 2 rfl (zfa gH) ?_;refine .y 3 rfl hs an ?_;refine .z 4 rfl (zfa dM) ?_;refine .y 5 rfl hs af ?_
    refine .z 6 rfl (dH (k:=x.l.toNat) rfl rfl ae ai g3 g2) ?_
    refine .y 7 rfl hs af ?_;refine .z 8 rfl zm ?_;refine .z 9 rfl ck ?_
    refine .z 10 rfl (dH (k:=x.l.toNat) rfl rfl ae ai g3 g2) ?_
    refine .E 11 hs ?_
    refine .store hs rfl rfl ai ?_;intro w hs
    refine .go ?_
    refine .D hs ?_
    refine nB (nT ?_)
    have e:eW s.dc M ts (p.take (k+1))=(eW s.dc M ts (p.take k)).set x.l.toNat (gi (eW s.dc M ts (p.take k)) x.l.toNat+M):=by rw [dh hx,ma,push,if_pos (by simpa using hc67)]
    exact .mk ⟨rfl,by rw [e];exact hs.tail⟩
   ·refine .draw mix rfl hs fun w hs=>?_
    refine .z 0 rfl zm ?_;refine .z 1 rfl znc ?_;refine .z 2 rfl (zfa gH) ?_;refine .y 3 rfl hs an ?_;refine .z 4 rfl (zfa dM) ?_;refine .y 5 rfl hs af ?_
    refine .z 6 rfl (dH (k:=x.l.toNat) rfl rfl ae ai g3 g2) ?_
    refine .y 7 rfl hs af ?_;refine .z 8 rfl zm ?_;refine .z 9 rfl gL ?_
    refine .z 10 rfl (dH (k:=x.l.toNat) rfl rfl ae ai g3 g2) ?_
    refine .E 11 hs ?_
    refine .store hs rfl rfl ai ?_;intro w hs
    refine .go ?_
    refine .D hs ?_
    refine nB (nT ?_)
    have e:eW s.dc M ts (p.take (k+1))=(eW s.dc M ts (p.take k)).set x.l.toNat (gi (eW s.dc M ts (p.take k)) x.l.toNat - M):=by rw [dh hx,ma,push,if_neg (by simpa using hc67)]
    exact .mk ⟨rfl,by rw [e];exact hs.tail⟩
  ·rintro fr w ⟨rfl,hs⟩
   rw [List.take_length] at hs
   refine nT ?_
   refine .aj (.z zm (.z znc (.z (zfa dN) (.y hs (zld an) (.z zm ?_)))))
   first|(refine .ixv hs ae ai ?_;intro b96 o96 hc96)|refine .z (zix ae ai) ?_
   refine .q hs (dG rfl af (hv:=fB hun sp)) ?_
   refine .z zm (.z ck ?_)
   first|(refine .ixv hs ae ai ?_;intro b100 o100 hc100)|refine .z (zix ae ai) ?_
   refine .o (.store hs rfl rfl ai ?_ cP (ky hun sp) (gZ hun sp _));intro w hs
   refine .nil (.region (.z zm (.z znc (.z (zfa dN) (.y hs (zld an) (.z zm ?_))))))
   first|(refine .ixv hs ae ai ?_;intro b106 o106 hc106)|refine .z (zix ae ai) ?_
   refine .q hs (dG rfl af (hv:=fB (by rw [List.length_set];exact hvn) sp)) ?_
   refine .z zm (.z gL ?_)
   first|(refine .ixv hs ae ai ?_;intro b110 o110 hc110)|refine .z (zix ae ai) ?_
   refine .o (.store hs rfl rfl ai ?_ cP (ky (by rw [List.length_set];exact hvn) sp) (gZ (by rw [List.length_set];exact hvn) sp _));intro w hs
   refine .nil ?_
   exact Fin.xu Tryz.results269 hs
theorem Ba{w:List Int}{N k:Nat}(hw:w.length=N+1):gi (w.set 0 (-jU w k)) 0 - gi (w.set 0 (-jU w k)) (k+1)= -jU w (k+1):=by
 rw [ed ak,ed ak,if_pos rfl,if_neg ak]
 simp only [jU,a8];omega
theorem tC{v vw:Value}{s:cj}{ws:List Int}(hs:St H w σ)(hok:s.Ok)(hr:RSy H v s)(hrw:RI H vw ws)(hwl:ws.length=s.n)(hsz:gg ws)(hsnd:s.Sound):
  Cl Tryz.prog 222 [v,vw] w fun v w'=>(v= .tuple #[.pointer none,.bool false]∧lZ s.dc (mF ws s.n) s.n∧St H w' σ)∨
   (∃H1 bf bt bl cl ts lf vl sp,HLe H H1∧v= .tuple #[.pointer (some ⟨bf,0,none⟩),.bool true]∧tL H1 bf s ts lf vl bt bl cl sp∧nE s.n s.dc (mF ws s.n) ts∧St H1 w' σ):=by
 obtain ⟨vl,rfl,hr⟩:=hr
 obtain ⟨al,cpl,rfl⟩:=RL.shape hr
 obtain ⟨aw,cw,rfl⟩:=RI.shape hrw
 obtain ⟨N,hN⟩:=Int.eq_ofNat_of_zero_le hok.m0
 have hN1:=hok.m1
 have hn:s.n=N+1:=by simp [cj.n,hN]
 have hlim:=hok.len
 have hoka:=hok.dc
 have hal:s.dc.length=s.bP.length:=by simp [cj.dc,eE]
 have hnum:yi s.dc:=fun i x hx=>⟨qo hx,(hok.dc.2 x (List.mem_of_getElem? hx)).2.2.2.2.2⟩
 have hin:∀x∈s.dc,x.f<s.n∧x.t<s.n:=fun x hx=>by have:=hoka.2 x hx;omega
 have hwt0:=Ak ws (n:=s.n) ak
 unfold gg at hsz
 rw [hwl] at hsz
 refine Cl.o Tryz.func222 Tryz.ntmps222 ag2 ?_
 refine .aj ?_
 refine .bx hs fun b2 w hs=>?_
 refine .z zg (.z zg (.nil ?_))
 refine .scope ?_
 refine .cut (fun fs w=>∃bf bt bl cl sp,kg fs ⟨73,[],[(6,.pointer (some ⟨bf,0,none⟩))]⟩∧St H w (.blk bf [I s.many,.slice al s.bP.length cpl,.slice (some ⟨bt,0,none⟩) s.bP.length s.bP.length,.slice (some ⟨bl,0,none⟩) ws.length cl]:: .blk bt (Is (List.replicate s.bP.length 0)):: .blk bl (Is ws++sp)::σ)) ?_ ?_
 ·refine .draw mix rfl hs fun w hs=>?_
  refine .ys 0 rfl hs [_,_] aN aB ?_;refine .z 1 rfl (zfa bE) ?_;refine .y 2 rfl hs cA ?_;refine .z 3 rfl (cB aI) ?_;refine .z 5 rfl zm ?_
  refine .e2 (i:=4) (j:=6) au rfl rfl rfl rfl .none .none hs ?_ ?_
  ·refine .pZ s.bP.length hs rfl rfl ae dS rfl ai bJ ak ?_;intro b15 w hs
   refine .go ?_
   refine .E 6 hs ?_
   refine .call Tryz.call197 rfl (mm hs hrw ak) ?_;rintro v17 w ⟨en17,hO,hs⟩
   obtain ⟨bl,cl,sp,rfl,rfl,hsp⟩:=hO.some ak
   refine .go ?_
   refine .z 7 rfl (zbd [_,_,_,_] oD) ?_
   refine .E 8 hs ?_
   refine .box hs rfl rfl ?_;intro b19 w hs
   refine .go ?_
   refine .z 9 rfl zg ?_;refine .D hs ?_
   exact nT ⟨b19,b15,bl,cl,sp,aR,hs.sb⟩
  ·refine .call Tryz.call197 rfl (mm hs hrw ak) ?_;rintro v17 w ⟨en17,hO,hs⟩
   obtain ⟨bl,cl,sp,rfl,rfl,hsp⟩:=hO.some ak
   refine .go ?_
   refine .E 4 hs ?_
   refine .pZ s.bP.length hs rfl rfl ae dS rfl ai bJ ak ?_;intro b15 w hs
   refine .go ?_
   refine .z 7 rfl (zbd [_,_,_,_] oD) ?_
   refine .E 8 hs ?_
   refine .box hs rfl rfl ?_;intro b19 w hs
   refine .go ?_
   refine .z 9 rfl zg ?_;refine .D hs ?_
   exact nT ⟨b19,b15,bl,cl,sp,aR,hs.sb⟩
 ·rintro fs w ⟨bf,bt,bl,cl,sp,hfs,hs⟩
  refine WE.sub ?_ hfs
  obtain ⟨H1,hle1,hRf,hs⟩:=hs.cq .here
  have hf0:cellAt H1 bf 0=some (I (N:Int)):=by have:=hRf.at 0 (v:=I s.many);rwa [hN] at this
  have hf3:cellAt H1 bf 3=some (.slice (some ⟨bl,0,none⟩) ws.length cl):=hRf.at 3
  have hrl:=hr.mono hle1
  refine .aj (.z zm (.z znc (.z (zfa dN) (.y hs (zld an) ?_))))
  refine .q hs (dH (k:=0) rfl rfl ae ai rfl ak) ?_
  refine .o (.store hs rfl rfl ai ?_ cP (ky ak sp) (gZ ak sp _));intro w hs
  refine .nil (.seq (.aj (.z zm (.z znc (.z (zfa fg) (.z (zfa bI) (.y hs (zld af) (.z zm (.nil ?_)))))))))
  refine .for (N:=N) (J:=fun k fr w=>fr=[(6,.pointer (some ⟨bf,0,none⟩))]∧St H1 w (.blk bt (Is (List.replicate s.bP.length 0)):: .blk bl (Is (ws.set 0 (-jU ws k))++sp)::σ)) ak ?_ ?_ ?_
  ·exact .mk ⟨rfl,by simpa [jU,a8] using hs⟩
  ·rintro k fr w hk ⟨rfl,hs⟩
   have e:=Ba (w:=ws) (N:=N) (k:=k) ak
   have hb1:=qE ws (k+1)
   have hb2:bG ws (k+1+1)≤bG ws s.n:=nG (fun v=>by omega) ak
   simp only [FF] at hsz
   refine .block (.aj (.z zm (.z zg (.nil ?_))))
   refine .draw mix rfl hs fun w hs=>?_
   refine .z 0 rfl zm ?_;refine .z 1 rfl znc ?_;refine .z 2 rfl (zfa dN) ?_;refine .y 3 rfl hs an ?_
   refine .z 4 rfl (dH (k:=0) rfl rfl ae ai rfl ak) ?_
   refine .load (i:=5) hs rfl au .none rfl af ?_ (hv:=fB (by rw [List.length_set];omega) sp)
   refine .z 6 rfl zm ?_;refine .z 7 rfl znc ?_;refine .z 8 rfl (zfa dN) ?_;refine .y 9 rfl hs an ?_;refine .z 10 rfl zm ?_;refine .z 11 rfl ck ?_
   refine .z 12 rfl (dH (k:=k+1) rfl rfl ae ai ak ak) ?_
   refine .load (i:=13) hs rfl au .none rfl af ?_ (hv:=fB (by rw [List.length_set];omega) sp)
   refine .z 14 rfl gL ?_
   refine .z 15 rfl (dH (k:=0) rfl rfl ae ai rfl ak) ?_
   refine .E 16 hs ?_
   refine .store hs rfl rfl ai ?_ cP (ky (by rw [List.length_set];omega) sp) (gZ (by rw [List.length_set];omega) sp _);intro w hs
   refine .go ?_
   refine .D hs ?_
   refine nB (nT ?_)
   rw [e,List.set_set] at hs
   exact .mk ⟨rfl,hs⟩
  ·rintro fr w ⟨rfl,hs⟩
   have hI0:ui s.n s.dc (mF ws s.n) (List.replicate s.bP.length 0) (ws.set 0 (-jU ws N)):=by
    rw [←hal,hn]
    rw [hn] at hsz
    refine ui.start hsz (by rw [List.length_set];omega) (fun v hv=>?_) hsnd
    rw [ed ak]
    cases v with
    |zero=>rw [if_pos rfl,uV]
    |succ v=>rw [if_neg ak,uW]
   refine nT ?_
   refine .seq ?_
   refine .label ?_
   refine nT ?_
   refine .block ?_
   refine .loop (fun _:bX×List Int×List Int=>⟨73,[],[(6,.pointer (some ⟨bf,0,none⟩))]⟩)
    (fun p w=>HLe H1 p.1∧ui s.n s.dc (mF ws s.n) p.2.1 p.2.2∧St p.1 w (.blk bt (Is p.2.1):: .blk bl (Is p.2.2++sp)::σ)) (fun p=>(rem s.n p.2.2).toNat) (H1,List.replicate s.bP.length 0,ws.set 0 (-jU ws N))
    aR ⟨HLe.refl _,hI0,hs⟩ ?_
   rintro ⟨H2,ts,lf⟩ w ⟨hle2,hI,hs⟩
   dsimp only at hle2 hI hs ⊢
   have hlt:=hI.lt
   have hll:=hI.ll
   have hRf2:Row H2 bf [I s.many,.slice al s.bP.length cpl,.slice (some ⟨bt,0,none⟩) ts.length ts.length,.slice (some ⟨bl,0,none⟩) lf.length cl]:=by
    rw [hlt,hal,hll,←hwl];exact hRf.mono hle2
   have hf32:cellAt H2 bf 3=some (.slice (some ⟨bl,0,none⟩) lf.length cl):=hRf2.at 3
   refine .block (.seq (.aj (.z zm (.z znc (.z (zfa dN) (.y hs (zld an) (.z (cB ae) (.z zm (.nil ?_)))))))))
   refine .for (N:=lf.length) (J:=fun k fr w=>fr=[(53,.slice (some ⟨bl,0,none⟩) lf.length cl),(6,.pointer (some ⟨bf,0,none⟩))]∧(∀v<k,gi lf v≤0)∧St H2 w (.blk bt (Is ts):: .blk bl (Is lf++sp)::σ)) ak ?_ ?_ ?_
   ·exact .mk ⟨rfl,fun v hv=>by omega,hs⟩
   ·rintro k fr w hk ⟨rfl,hle0,hs⟩
    refine .block (.aj (.z zm ?_))
    first|(refine .ixv hs ae ai ?_;intro b58 o58 hc58)|refine .z (zix ae ai) ?_
    refine .q hs (dG rfl af (hv:=fB hk sp)) ?_
    refine .z zg (.z zg (.nil (.seq (.aj (.z zm (.z wh (.nil ?_)))))))
    refine (.bB rfl (fun hc61=>?_) (fun hc61=>?_))
    ·refine .exit ?_
     refine xT (xB (nT ?_))
     exact .mk ⟨rfl,fun v hv=>by
       by_cases e:v=k
       ·subst e;exact hc61
       ·exact hle0 v ak,hs⟩
    ·refine .skip ?_
     refine nT ?_
     refine .aj (.z zm (.z zm ?_))
     obtain ⟨Ha,hla,hra,hsa,-,hba⟩:=hs.yJ
     obtain ⟨Hb,hlb,hrb,hsb,-,hbb⟩:=hsa.yJ
     refine .o (.call Tryz.call268 rfl (o9 (s:=s) (to:=k) hsb hok ⟨hRf2.mono (hla.trans hlb),hr.mono (hle1.trans (hle2.trans (hla.trans hlb))),hra.mono hlb,hrb⟩ ak ak hI.fe ak ak) ?_);rintro v64 w ⟨Hc,p,en,hlc,hO,hsc,hWR⟩
     have hs:=hba (HLe.refl _) (hbb hlc hsc)
     obtain ⟨ap,lp,cp,rfl,hlp⟩:=hO.shape
     obtain rfl:lp=p.length:=by rw [dI] at hlp;omega
     refine .z zg (.nil (.seq (.aj (.z zm (.z (cB aD) (.z fo (.nil ?_)))))))
     refine (.bB rfl (fun hc67=>?_) (fun hc67=>?_))
     ·refine .aj (.z zg (.z zg (.nil ?_)))
      refine .ret (rT (rB (rT (rB (rT (rB (rT (rB (rS (Fin.lq Tryz.results222 rfl rfl ?_))))))))))
      rcases hWR with ⟨_,R,hS,hR,hto⟩|⟨hp,_⟩
      ·exact .inl ⟨rfl,hI.open hin hS hR ak hto ak,(hs.le (hle1.trans hle2)).out⟩
      ·exact (hp (List.length_eq_zero_iff.1 ak)).elim
     ·refine .skip ?_
      refine nT ?_
      refine .aj (.z zm (.z zm ?_))
      obtain ⟨hp,hpl,u,hw⟩:=hWR.resolve_left fun h=>by rw [h.1] at hc67;exact hc67 rfl
      obtain ⟨H3,hle3,hRS,hs⟩:=cf.cq (cs:=p.map Arc.v) hO (fun c hc=>by simp only [List.mem_map] at hc;obtain ⟨x,_,rfl⟩:=hc;rfl) ak (by rw [List.length_map];omega) hs cP
      refine .o (.call Tryz.call269 rfl (ob hs hok (hRf2.mono hle3) (hr.mono (hle1.trans (hle2.trans hle3))) hRS hI hw hp hpl) ?_);rintro v70 w hs
      refine .nil ?_
      refine .exit ?_
      refine xN (xT (xN (xT (xB (nT ?_)))))
      obtain ⟨q1,q2⟩:=hI.send hnum hw ak
      have q3:0≤rem s.n (wR lf (pY s.dc ts lf p u k) u k):=cN fun v _=>by omega
      exact ⟨(H3,eW s.dc (pY s.dc ts lf p u k) ts p,wR lf (pY s.dc ts lf p u k) u k),aR,⟨hle2.trans hle3,q1,hs⟩,by dsimp only;omega⟩
   ·rintro fr w ⟨rfl,hle0,hs⟩
    refine nT ?_
    refine .aj (.z zm (.z zg (.z zg (.nil ?_))))
    refine .ret (rB (rT (rB (rS (Fin.lq Tryz.results222 rfl rfl ?_)))))
    obtain ⟨H3,l3,r3,hs⟩:=hs.cq .here
    obtain ⟨H4,l4,r4,hs⟩:=hs.cq .here
    exact .inr ⟨H4,bf,bt,bl,cl,ts,lf,_,sp,hle1.trans (hle2.trans (l3.trans l4)),rfl,⟨hRf2.mono (l3.trans l4),hr.mono (hle1.trans (hle2.trans (l3.trans l4))),r3.mono l4,r4⟩,hI.ok hin hwt0 (fun v hv=>hle0 v ak),hs⟩
theorem qi{v:Value}{ws:List Int}(hs:St H w σ)(hr:RI H v ws):Cl Tryz.prog 164 [v] w fun v w'=>∃b,v= .bool b∧(b=true↔gg ws)∧St H w' σ:=by
 obtain ⟨a,c,rfl⟩:=RI.shape hr
 have hl:=(RI.len hr).2.2
 refine Cl.o Tryz.func164 Tryz.ntmps164 ag1 ?_
 refine .aj (.z zg (.nil (.aj (.z zg (.nil (.seq (.aj (.z zm (.z (cB ae) ?_)))))))))
 refine .z zm (.nil ?_)
 refine .for (N:=ws.length) (J:=fun k fr w=>fr=[(6,.slice a ws.length c),(3,I (3600000000000 - bG ws k))]∧bG ws k≤3600000000000∧St H w σ) ak ?_ ?_ ?_
 ·exact .mk ⟨rfl,by simp [bG,a8],hs⟩
 ·rintro k fr w hk ⟨rfl,hle,hs⟩
  have hx:=bn hk
  have h0:0≤bG ws k:=cN fun v _=>by omega
  have h1:bG ws (k+1)=bG ws k+max (gi ws k) (-gi ws k):=rfl
  refine .block (.aj ?_)
  first|(refine .ixv hs ae ai ?_;intro b10 o10 hc10)|refine .z (zix ae ai) ?_
  refine .y hs (zld af) (.z zg (.nil (.seq (.aj (.z zm (.z zm (.z xr (.z fH (.z zm ?_)))))))))
  refine .iD (t':=16) rfl (fun hb16=>?_) (fun hb16=>?_)
  ·refine .gFs 3 4 false rfl rfl rfl ?_
   refine .z zpT (.nil ?_)
   refine (.cT ?_)
   refine .aj (.z zg (.nil ?_))
   refine .ret (rT (rB (rT (rB (rT (Fin.bH Tryz.results164 rfl ?_))))))
   exact ⟨false,rfl,⟨fun h=>(by cases h),fun h=>(lC (k:=k+1) hk (by simp only [FF];omega) h).elim⟩,hs⟩
  ·refine .gT rfl rfl ?_
   refine .z zm ?_
   refine .gT rfl rfl ?_
   refine .z zm ?_
   refine .gT rfl rfl ?_
   refine .z kD (.z zpF (.nil ?_))
   refine (.bB rfl (fun hc20=>?_) (fun hc20=>?_))
   ·refine .aj (.z zg (.nil ?_))
    refine .ret (rT (rB (rT (rB (rT (Fin.bH Tryz.results164 rfl ?_))))))
    exact ⟨false,rfl,⟨fun h=>(by cases h),fun h=>(lC (k:=k+1) hk (by simp only [FF];omega) h).elim⟩,hs⟩
   ·refine .skip ?_
    refine nT ?_
    refine .region (.z zm (.z zm (.z zm (.z xr (.z Dd (.z gL (.z zg (.nil ?_))))))))
    refine nB (nT ?_)
    exact .mk ⟨rfl,ak,hs⟩ (hs:= .cons rfl (.cons rfl (.cons rfl (.bU rfl ak (.nil rfl rfl)))))
 ·rintro fr w ⟨rfl,hle,hs⟩
  refine nT ?_
  refine .aj (.z zg (.nil ?_))
  refine .ret (Fin.bH Tryz.results164 rfl ?_)
  exact ⟨true,rfl,⟨fun _=>hle,fun _=>rfl⟩,hs⟩
theorem mf{v vw:Value}{s:cj}{ws:List Int}(hs:St H w σ)(hr:RSy H v s)(hrw:RI H vw ws):Cl Tryz.prog 219 [v,vw] w fun v w'=>v=I (dZ s ws)∧St H w' σ:=by
 obtain ⟨vl,rfl,hr⟩:=hr
 obtain ⟨al,cpl,rfl⟩:=RL.shape hr
 obtain ⟨aw,cw,rfl⟩:=RI.shape hrw
 have hlw:=(RI.len hrw).2.2
 have hn:s.check=0→0≤s.many∧s.many≤64∧(s.n:Int)=s.many+1:=fun h=>by
  have h1:=s.cu.1 h
  have:=h1.m0
  have:=h1.m1
  simp only [cj.n];omega
 refine Cl.o Tryz.func219 Tryz.ntmps219 ag2 ?_
 refine .aj ?_
 refine .bx hs fun b2 w hs=>?_
 refine .z zg (.nil (.seq (.aj (.y hs (zls [_,_] aN aB) ?_))))
 refine .o (.call Tryz.call125 rfl (ib (s:=s) hs ⟨_,rfl,hr⟩) ?_);rintro _ w ⟨rfl,hs⟩
 refine .z zg (.nil (.aj (.z zm (.z gx (.nil ?_)))))
 refine (.eH rfl (fun hc9=>?_) (fun hc9=>?_))
 ·refine .aj (.z zm (.z zg (.nil ?_)))
  refine .ret (rT (Fin.bH Tryz.results219 rfl ?_))
  exact ⟨by unfold dZ;rw [if_pos hc9],hs.tail⟩
 ·refine .skip ?_
  refine nT ?_
  refine .seq (.aj (.z zm ?_))
  obtain ⟨n0,n1,n2⟩:=hn hc9
  refine .z (cB ae) (.z (zfa bI) (.y hs (zld af) (.z ck (.z gx (.z zm ?_)))))
  refine .yf (t':=17) rfl (fun hb17=>?_) (fun hb17=>?_)
  ·refine .gFs 3 6 false rfl rfl rfl ?_
   refine .z zpT (.nil ?_)
   refine (.cT ?_)
   refine .aj (.z zg (.nil ?_))
   refine .ret (rT (Fin.bH Tryz.results219 rfl ?_))
   exact ⟨by unfold dZ;rw [if_neg ak,if_neg ak],hs.tail⟩
  ·refine .gT rfl rfl ?_
   refine .z zm ?_
   refine .gT rfl rfl ?_
   refine .o (.call Tryz.call164 rfl (qi hs hrw) ?_);rintro _ w ⟨bz,rfl,hbz,hs⟩
   refine .gT rfl rfl ?_
   refine .z gV (.z zpF (.nil ?_))
   refine (.cond rfl (fun hc21=>?_) (fun hc21=>?_))
   ·refine .aj (.z zg (.nil ?_))
    refine .ret (rT (Fin.bH Tryz.results219 rfl ?_))
    exact ⟨by unfold dZ;rw [if_neg ak,if_neg (fun h=>by rw [hbz.2 h.2] at hc21;cases hc21)],hs.tail⟩
   ·refine .skip ?_
    refine nT ?_
    refine .aj (.z zg (.nil ?_))
    refine .ret (Fin.bH Tryz.results219 rfl ?_)
    exact ⟨by unfold dZ;rw [if_neg ak,if_pos ⟨ak,hbz.1 (by simpa using hc21)⟩],hs.tail⟩
theorem jO{v vw:Value}{s:cj}{ws:List Int}(hs:St H w σ)(hr:RSy H v s)(hrw:RI H vw ws):
  Cl Tryz.prog 158 [v,vw] w fun v w'=>∃H1 e pf,HLe H H1∧v= .tuple #[pf,I e]∧Ad s ws e∧St H1 w' σ∧(e≠0→pf= .pointer none)∧
   (e=0→∃bf bt bl cl ts lf vl sp,pf= .pointer (some ⟨bf,0,none⟩)∧tL H1 bf s ts lf vl bt bl cl sp∧nE s.n s.dc (mF ws s.n) ts∧s.Ok∧bG ws s.n≤FF):=by
 obtain ⟨vl,rfl,hr⟩:=hr
 refine Cl.o Tryz.func158 Tryz.ntmps158 ag2 ?_
 refine .aj ?_
 refine .bx hs fun b2 w hs=>?_
 refine .z zg (.z zg (.nil (.seq (.aj (.y hs (zls [_,_] aN aB) (.z zm ?_))))))
 refine .o (.call Tryz.call219 rfl (mf (s:=s) hs ⟨_,rfl,hr⟩ hrw) ?_);rintro _ w ⟨rfl,hs⟩
 refine .z zg (.nil (.aj (.z zm (.z gx (.nil ?_)))))
 refine (.eH rfl (fun hc13=>?_) (fun hc13=>?_))
 ·refine .aj (.z zm (.z zg (.z zg (.nil ?_))))
  refine .ret (rT (Fin.lq Tryz.results158 rfl rfl ?_))
  exact ⟨H,_,_,HLe.refl _,rfl,.bad hc13,hs.tail,fun _=>rfl,fun h=>(hc13 h).elim⟩
 ·refine .skip ?_
  refine nT ?_
  refine .seq (.aj (.y hs (zls [_,_] aN aB) ?_))
  obtain ⟨hok,hwl,hsz⟩:=kz hc13
  refine .o (.call Gf rfl (fw (s:=s) hs hok ⟨_,rfl,hr⟩) ?_);rintro _ w ⟨H1,b,hle1,rfl,hb,hs⟩
  refine .z gV (.nil ?_)
  refine (.cond rfl (fun hc17=>?_) (fun hc17=>?_))
  ·refine .aj (.z zg (.z zg (.nil ?_)))
   refine .ret (rT (Fin.lq Tryz.results158 rfl rfl ?_))
   exact ⟨H1,_,_,hle1,rfl,.clash hc13 (fun h=>by rw [hb.2 h] at hc17;cases hc17),hs.tail,fun _=>rfl,fun h=>by cases h⟩
  ·refine .skip ?_
   refine nT ?_
   refine .aj (.y hs (zls [_,_] aN aB) (.z zm ?_))
   have hsnd:s.Sound:=hb.1 (by simpa using hc17)
   refine .o (.call Tryz.call222 rfl (tC (s:=s) hs hok ⟨_,rfl,hr.mono hle1⟩ (hrw.mono hle1) hwl hsz hsnd) ?_);rintro v21 w hcase
   obtain ⟨pf,bb,H2,hle2,rfl,hs,hT,hF⟩:∃pf bb H2,HLe H1 H2∧v21= .tuple #[pf,.bool bb]∧St H2 w (.blk b2 [I s.many,vl]::σ)∧(bb=false→pf= .pointer none∧lZ s.dc (mF ws s.n) s.n)∧
     (bb=true→∃bf bt bl cl ts lf vl sp,pf= .pointer (some ⟨bf,0,none⟩)∧tL H2 bf s ts lf vl bt bl cl sp∧nE s.n s.dc (mF ws s.n) ts):=by
    rcases hcase with ⟨rfl,h1,h2⟩|⟨H2,bf,bt,bl,cl,ts,lf,vl,sp,h1,rfl,h2,h3,h4⟩
    ·exact ⟨_,false,H1,HLe.refl _,rfl,h2,fun _=>⟨rfl,h1⟩,fun h=>by cases h⟩
    ·exact ⟨_,true,H2,h1,rfl,h4,fun h=>(by cases h),fun _=>⟨bf,bt,bl,cl,ts,lf,vl,sp,rfl,h2,h3⟩⟩
   refine .z zm (.z zex (.z zex (.z zg (.z zg (.nil (.seq (.aj (.z zm (.z gV ?_)))))))))
   refine .nil ?_
   refine (.cond rfl (fun hc25=>?_) (fun hc25=>?_))
   ·refine .aj (.z zg (.z zg (.nil ?_)))
    refine .ret (rT (Fin.lq Tryz.results158 rfl rfl ?_))
    exact ⟨H2,_,_,hle1.trans hle2,rfl,.opn hc13 hsnd (hT (by simpa using hc25)).2,hs.tail,fun _=>rfl,fun h=>by cases h⟩
   ·refine .skip ?_
    refine nT ?_
    refine .aj (.z zm (.z zg (.z zg (.nil ?_))))
    refine .ret (Fin.lq Tryz.results158 rfl rfl ?_)
    obtain ⟨bf,bt,bl,cl,ts,lf,vl,sp,rfl,h2,h3⟩:=hF (by simpa using hc25)
    have hn0:0<s.n:=by simp [cj.n]
    have hn1:s.n≤65:=by have:=hok.m0;have:=hok.m1;simp only [cj.n];omega
    have hsz':bG ws s.n≤FF:=by unfold gg at hsz;rwa [hwl] at hsz
    exact ⟨H2,_,_,hle1.trans hle2,rfl,.ok hc13 hsnd (h3.value hn0 hn1 hok.dc hsz').2.1,hs.tail,fun h=>(h rfl).elim,fun _=>⟨bf,bt,bl,cl,ts,lf,vl,sp,rfl,h2,h3,hok,hsz'⟩⟩
theorem jB{bf bt bl cl:Nat}{s:cj}{ts lf ws:List Int}{vl:Value}{sp:List Value}(hs:St H w σ)(hok:s.Ok)(hF:tL H bf s ts lf vl bt bl cl sp)(hFo:nE s.n s.dc (mF ws s.n) ts)(hsz:bG ws s.n≤FF):
  Cl Tryz.prog 160 [.pointer (some ⟨bf,0,none⟩)] w fun v w'=>v=I (dot s.dc ts (·.c))∧we s.dc (s.wt ws) s.n (dot s.dc ts (·.c))∧dot s.dc ts (·.c)≤BB∧-BB≤dot s.dc ts (·.c)∧St H w' σ:=by
 obtain ⟨hFf,hFl,hFt,hFd⟩:=hF
 obtain ⟨al,cpl,rfl⟩:=RL.shape hFl
 have hlim:=hok.len
 have hal:s.dc.length=s.bP.length:=by simp [cj.dc,eE]
 have hlt:=hFo.lt
 have hn0:0<s.n:=by simp [cj.n]
 have hn1:s.n≤65:=by have:=hok.m0;have:=hok.m1;simp only [cj.n];omega
 have hv:=hFo.value hn0 hn1 hok.dc hsz
 have hd:=Bp (es:=s.dc) hlt
 have hf1:cellAt H bf 1=some (.slice al s.bP.length cpl):=hFf.at 1
 have hf2:cellAt H bf 2=some (.slice (some ⟨bt,0,none⟩) ts.length ts.length):=hFf.at 2
 refine Cl.o Tryz.func160 Tryz.ntmps160 ag1 ?_
 refine .aj (.z zg (.nil (.aj (.z zg (.nil (.seq (.aj (.z zm (.z znc ?_)))))))))
 refine .z (zfa fg) (.z (zfa bE) (.y hs (zld cA) (.z (cB aI) (.z zm (.nil ?_)))))
 refine .for (N:=s.bP.length) (J:=fun k fr w=>fr=[(10,.slice al s.bP.length cpl),(3,I (IntKind.i64.wrap (zY s.dc ts k))),(0,.pointer (some ⟨bf,0,none⟩))]∧St H w σ) ak ?_ ?_ ?_
 ·exact .mk ⟨rfl,hs⟩ (hs:= .cons rfl (.cons rfl (.cons rfl (.bU rfl (by simp [zY,a8,nN]) (.cons rfl (.nil rfl rfl))))))
 ·rintro k fr w hk ⟨rfl,hs⟩
  obtain ⟨l,hl⟩:=nth hk
  have hg:(ga s.dc k).c=l.M:=by simp [ga,cj.dc,kf hl,Lim.arc]
  have hlm:=hok.lim l (List.mem_of_getElem? hl)
  have hkt:k<ts.length:=by omega
  have htb:=hFo.nn k ak
  have hct:cellAt H bt k=some (I (gi ts k)):=hFt.at k (eQ hkt)
  have hmul:gi ts k*l.M≤72000000000000000∧-72000000000000000≤gi ts k*l.M:=by
   simp only [FF] at htb
   have g1:gi ts k*l.M≤gi ts k*20000:=Int.mul_le_mul_of_nonneg_left hlm.2.2.2.1.2 htb.1
   have g2:gi ts k*(-20000)≤gi ts k*l.M:=Int.mul_le_mul_of_nonneg_left hlm.2.2.2.1.1 htb.1
   omega
  refine .block (.aj (.z zm ?_))
  refine .ixX hs hFl rfl rfl aI aS hl rfl ?_;intro b15 o15 hc15
  refine .q hs (cI (vs:=l.c) rfl fj aS hc15) ?_
  refine .o (.alloc hs fm rfl fun b5 w hs=>?_)
  refine .z zg ?_
  refine .o (.aZ (vs:=l.c) hs rfl rfl aS fun w hs=>?_)
  refine .nil ?_
  refine .draw mix rfl hs fun w hs=>?_
  refine .z 0 rfl zm ?_;refine .z 1 rfl zm ?_;refine .z 2 rfl znc ?_;refine .z 3 rfl (zfa gH) ?_;refine .y 4 rfl hs an ?_;refine .z 5 rfl zm ?_
  refine .z 6 rfl (dH (k:=k) rfl rfl ae ai rfl hkt) ?_
  refine .r (i:=7) hs rfl au .none (aJ rfl af hct) ?_
  refine .z 8 rfl (zfa eX) ?_;refine .y 9 rfl hs af ?_;refine .z 10 rfl jS ?_
  refine .z 11 rfl (AT rfl rfl) ?_
  refine .z 12 rfl zg ?_;refine .D hs ?_
  refine nB (nT ?_)
  exact .mk ⟨rfl,hs.tail⟩ (hs:= .cons rfl (.cons rfl (.cons rfl (.bU rfl (by rw [tq];simp only [zY,a8,hg]) (.cons rfl (.nil rfl rfl))))))
 ·rintro fr w ⟨rfl,hs⟩
  rw [←hal,←hd,kv (by have:=hv.2.2;simp only [BB] at this;omega)]
  refine nT ?_
  refine .aj (.z zm (.z zg (.nil ?_)))
  refine .ret (Fin.bH Tryz.results160 rfl ?_)
  exact ⟨rfl,hv.1,hv.2.2.1,hv.2.2.2,hs⟩
theorem q6{vw:Value}{ws:List Int}(hs:St H w σ)(hrw:RI H vw ws)(hlw:ws.length≤1000000)(hb:∀k,-9223372036854775807≤gi ws k∧gi ws k≤9223372036854775807):
  Cl Tryz.prog 159 [vw] w fun v w'=>∃H1,HLe H H1∧RI H1 v (pX ws)∧St H1 w' σ:=by
 obtain ⟨aw,cw,rfl⟩:=RI.shape hrw
 refine Cl.o Tryz.func159 Tryz.ntmps159 ag1 ?_
 refine .aj (.z zg (.nil (.aj (.z zm (.z (cB ae) ?_)))))
 refine .o (.pZ ws.length hs rfl rfl ae dS rfl ai bJ ak fun b8 w hs=>?_)
 refine .z zg (.nil (.seq (.aj (.z zm (.z (cB ae) (.z zm (.nil ?_)))))))
 refine .for (N:=ws.length) (J:=fun k fr w=>fr=[(9,.slice aw ws.length cw),(3,.slice (some ⟨b8,0,none⟩) ws.length ws.length)]∧∃L,(L.length=ws.length∧∀v<ws.length,gi L v=if v<k then -gi ws v else 0)∧St H w (.blk b8 (Is L)::σ)) ak ?_ ?_ ?_
 ·exact .mk ⟨rfl,_,⟨bL,fun v hv=>by rw [dA _ _ hv,if_neg ak]⟩,hs⟩
 ·rintro k fr w hk ⟨rfl,L,⟨hL1,hL2⟩,hs⟩
  have hx:=bn hk
  have hbk:=hb k
  refine .block (.aj (.z zm ?_))
  first|(refine .ixv hs ae ai ?_;intro b14 o14 hc14)|refine .z (zix ae ai) ?_
  refine .y hs (zld af) (.z zg (.z zg (.nil (.region (.z zm (.z zm (.z zm (.z xr ?_))))))))
  first|(refine .ixv hs ae ai ?_;intro b20 o20 hc20)|refine .z (zix ae ai) ?_
  refine .o (.store hs rfl rfl ai fun w hs=>?_)
  refine .nil ?_
  refine nB (nT ?_)
  refine .mk ⟨rfl,_,⟨by rw [List.length_set];exact hL1,fun v hv=>?_⟩,hs⟩
  rw [ed ak]
  by_cases e:v=k
  ·subst e;rw [if_pos rfl,if_pos ak]
  ·rw [if_neg e,hL2 v hv];congr 1;apply propext;omega
 ·rintro fr w ⟨rfl,L,⟨hL1,hL2⟩,hs⟩
  obtain rfl:L=pX ws:=xe (by simp [hL1,pX]) (fun k hk=>by rw [hL2 k ak,if_pos ak,yW])
  refine nT ?_
  refine .aj (.z zm (.z zg (.nil ?_)))
  refine .ret (Fin.bH Tryz.results159 rfl ?_)
  obtain ⟨H1,g1,g2,hs⟩:=hs.cq .here
  refine ⟨H1,g1,?_,hs⟩
  rw [←hL1]
  exact Row.RI (spare:=[]) (by simpa using g2) _ (Nat.le_refl _) ak
theorem jP{v vw:Value}{s:cj}{ws:List Int}(hs:St H w σ)(hr:RSy H v s)(hrw:RI H vw ws):
  Cl Tryz.prog 74 [v,vw] w fun v w'=>∃H1 lo hi e,HLe H H1∧v= .tuple #[I lo,I hi,I e]∧eY s ws lo hi e∧St H1 w' σ:=by
 obtain ⟨vl,rfl,hr⟩:=hr
 refine Cl.o Tryz.func74 Tryz.ntmps74 ag2 ?_
 refine .aj ?_
 refine .bx hs fun b2 w hs=>?_
 refine .z zg (.z zg (.z zg (.nil (.aj (.y hs (zls [_,_] aN aB) (.z zm ?_))))))
 refine .o (.call Tryz.call158 rfl (jO (s:=s) hs ⟨_,rfl,hr⟩ hrw) ?_);rintro _ w ⟨H1,e,pf,hle1,rfl,hA,hs,hne,heq⟩
 refine .z zm (.z zex (.z zex (.z zg (.z zg (.nil (.seq (.aj (.z zm (.z gx ?_)))))))))
 refine .nil ?_
 refine (.eH rfl (fun hc16=>?_) (fun hc16=>?_))
 ·refine .aj (.z zm (.z zg (.z zg (.z zg (.nil ?_)))))
  refine .ret (rT (Fin.Dk Tryz.results74 rfl rfl rfl ?_))
  exact ⟨H1,_,_,_,hle1,rfl,.first ⟨hA,fun _=>rfl,fun h=>(hc16 h).elim⟩ hc16,hs.tail⟩
 ·refine .skip ?_
  refine nT ?_
  refine .seq (.draw mix rfl hs fun w hs=>?_)
  refine .ys 0 rfl hs [_,_] aN aB ?_;refine .z 1 rfl zm ?_
  refine .E 2 hs ?_
  subst hc16
  obtain ⟨bf,bt,bl,cl,ts,lf,vl',sp,rfl,hF,hFo,hok,hsz⟩:=heq rfl
  have hwl:=(kz hA.zero.1).2.1
  have hbw:∀k,-9223372036854775807≤gi ws k∧gi ws k≤9223372036854775807:=fun k=>by
   simp only [FF] at hsz
   by_cases hk:k<s.n
   ·have:=gM ws hk;omega
   ·have:gi ws k=0:=by simp [gi,List.getElem?_eq_none (show ws.length≤k by omega)]
    omega
  refine .call Tryz.call159 rfl (q6 hs (hrw.mono hle1) (by have:=hok.m1;simp only [cj.n] at hwl;omega) hbw) ?_;rintro v21 w ⟨H2,hle2,hr21,hs⟩
  refine .go ?_
  refine .E 3 hs ?_
  refine .call Tryz.call158 rfl (jO (s:=s) hs ⟨_,rfl,hr.mono (hle1.trans hle2)⟩ hr21) ?_;rintro _ w ⟨H3,e2,pg,hle3,rfl,hA2,hs,hne2,heq2⟩
  refine .go ?_
  refine .z 4 rfl zm ?_;refine .z 5 rfl zex ?_;refine .z 6 rfl zex ?_;refine .z 7 rfl zg ?_;refine .z 8 rfl zg ?_;refine .D hs ?_
  refine .seq (.aj (.z zm (.z gx (.nil ?_))))
  refine (.eH rfl (fun hc26=>?_) (fun hc26=>?_))
  ·refine .aj (.z zm (.z zg (.z zg (.z zg (.nil ?_)))))
   refine .ret (rT (Fin.Dk Tryz.results74 rfl rfl rfl ?_))
   obtain ⟨q1,q2,q3,q4⟩:=hFo.value (by simp [cj.n]) (by have:=hok.m0;have:=hok.m1;simp only [cj.n];omega) hok.dc hsz
   exact ⟨H3,_,_,_,hle1.trans (hle2.trans hle3),rfl,.second ⟨hA,fun h=>(h rfl).elim,fun _=>⟨q1,q3,q4⟩⟩ ⟨hA2,fun _=>rfl,fun h=>(hc26 h).elim⟩ hc26,hs.tail⟩
  ·refine .skip ?_
   refine nT ?_
   refine .aj (.z zm ?_)
   subst hc26
   obtain ⟨bf2,bt2,bl2,cl2,ts2,lf2,vl2,sp2,rfl,hF2,hFo2,hok2,hsz2⟩:=heq2 rfl
   refine .o (.call Tryz.call160 rfl (jB hs hok hF2 hFo2 hsz2) ?_);rintro _ w ⟨rfl,a1,a2,a3,hs⟩
   simp only [BB] at a2 a3
   refine .z xr (.z zm ?_)
   refine .o (.call Tryz.call160 rfl (jB hs hok (hF.mono (hle2.trans hle3)) hFo hsz) ?_);rintro _ w ⟨rfl,c1,c2,c3,hs⟩
   refine .z zg (.z zg (.z zg (.nil ?_)))
   refine .ret (Fin.Dk Tryz.results74 rfl rfl rfl ?_)
   exact ⟨H3,_,_,_,hle1.trans (hle2.trans hle3),rfl,.ok ⟨hA,fun h=>(h rfl).elim,fun _=>⟨c1,c2,c3⟩⟩ ⟨hA2,fun h=>(h rfl).elim,fun _=>⟨a1,by simp only [BB];omega,by simp only [BB];omega⟩⟩,hs.tail⟩
theorem nu{bf bt bl cl:Nat}{s:cj}{ts lf ws:List Int}{vl:Value}{sp:List Value}(hs:St H w σ)(hok:s.Ok)(hF:tL H bf s ts lf vl bt bl cl sp)(hFo:nE s.n s.dc (mF ws s.n) ts)(hsz:bG ws s.n≤FF):
  Cl Tryz.prog 162 [.pointer (some ⟨bf,0,none⟩)] w fun v w'=>∃H1 xs,HLe H H1∧RI H1 v xs∧Ac s ws xs∧St H1 w' σ:=by
 obtain ⟨N,hN⟩:=Int.eq_ofNat_of_zero_le hok.m0
 have hN1:=hok.m1
 have hn:s.n=N+1:=by simp [cj.n,hN]
 have hlt:=hFo.lt
 have hal:s.dc.length=s.bP.length:=by simp [cj.dc,eE]
 have hlim:=hok.len
 have hf0:cellAt H bf 0=some (I (N:Int)):=by have:=hF.f.at 0 (v:=I s.many);rwa [hN] at this
 have hoka:=zE hok.dc hlt.symm ak
 rw [hn] at hoka
 refine Cl.o Tryz.func162 Tryz.ntmps162 ag1 ?_
 refine .aj (.z zg (.nil ?_))
 refine .seq (.draw mix rfl hs fun w hs=>?_)
 refine .z 0 rfl zm ?_;refine .z 1 rfl znc ?_;refine .z 2 rfl (zfa fg) ?_;refine .z 3 rfl (zfa bI) ?_;refine .y 4 rfl hs af ?_;refine .z 5 rfl zm ?_
 refine .E 6 hs ?_
 refine .call Tryz.call223 rfl (jZ hs hok hF ak) ?_;rintro _ w ⟨H1,b15,hle1,rfl,hit,hs⟩
 refine .go ?_
 refine .E 7 hs ?_
 refine .call Tryz.call126 rfl (iR hs ak hoka hit Tryz.call270) ?_;rintro _ w ⟨H2,bc,bb,st,ov,vo,hle2,rfl,hov,⟨r,hNI,hr⟩,hs⟩
 have hovn:ov=none:=by
  cases ov with
  |none=>rfl
  |some x=>exact (hNI.none hoka ak (by have:=hr bL;omega) hFo.fe).elim
 subst hovn
 obtain ⟨hfe,hbd⟩:=hNI.sol hoka ak
 have hlc:=hNI.lc
 have hb0:=hbd 0 ak
 refine .go ?_
 refine .z 8 rfl zm ?_;refine .z 9 rfl zex ?_;refine .z 10 rfl zex ?_;refine .z 11 rfl zex ?_;refine .z 12 rfl zg ?_;refine .z 13 rfl zg ?_;refine .z 14 rfl zg ?_;refine .D hs ?_
 refine .aj (.z zm ?_)
 refine .q hs (dH (k:=0) rfl rfl ae ai rfl ak) ?_
 refine .y hs (zld af) (.z zg (.nil (.seq (.aj (.z zm (.z (cB ae) (.z zm (.nil ?_))))))))
 refine .for (N:=N+1) (J:=fun k fr w=>fr=[(3,.slice (some ⟨bc,0,none⟩) (N+1) (N+1)),(6,I (gi st.cost 0))]∧∃L,(L.length=N+1∧∀v<N+1,gi L v=if v<k then gi st.cost v - gi st.cost 0 else gi st.cost v)∧St H2 w (.blk bc (Is L)::σ)) ak ?_ ?_ ?_
 ·exact .mk ⟨rfl,st.cost,⟨hlc,fun v hv=>by rw [if_neg ak]⟩,hs.sb⟩
 ·rintro k fr w hk ⟨rfl,L,⟨hL1,hL2⟩,hs⟩
  have hLk:=hL2 k hk
  rw [if_neg ak] at hLk
  have hbk:=hbd k hk
  refine .block (.aj (.z zm (.z zg (.nil (.region (.z zm (.z zm ?_)))))))
  first|(refine .ixv hs ae ai ?_;intro b30 o30 hc30)|refine .z (zix ae ai) ?_
  refine .y hs (zld af) (.z zm (.z gL ?_))
  first|(refine .ixv hs ae ai ?_;intro b34 o34 hc34)|refine .z (zix ae ai) ?_
  refine .o (.store hs rfl rfl ai fun w hs=>?_)
  refine .nil ?_
  refine nB (nT ?_)
  refine .mk ⟨rfl,_,⟨by rw [List.length_set];exact hL1,fun v hv=>?_⟩,hs⟩
  rw [ed ak]
  by_cases e:v=k
  ·subst e;rw [if_pos rfl,if_pos ak,hLk]
  ·rw [if_neg e,hL2 v hv];congr 1;apply propext;omega
 ·rintro fr w ⟨rfl,L,⟨hL1,hL2⟩,hs⟩
  refine nT ?_
  refine .aj (.z zm (.z zg (.nil ?_)))
  refine .ret (Fin.bH Tryz.results162 rfl ?_)
  obtain ⟨H3,g1,g2,hs⟩:=hs.cq .here
  have hg:∀v<N+1,gi L v=gi st.cost v - gi st.cost 0:=fun v hv=>by rw [hL2 v hv,if_pos hv]
  obtain ⟨p1,p2⟩:=hFo.FP ak hok.dc hfe
  refine ⟨H3,L,hle1.trans (hle2.trans g1),?_,⟨ak,by rw [hg 0 ak];omega,fun v hv=>?_,fun x hx=>?_,?_⟩,hs⟩
  ·have:=Row.RI (spare:=[]) (by simpa using g2) (N+1) ak ak
   rwa [hL1] at this
  ·have:=hbd v ak
   rw [hg v ak];omega
  ·have h1:=hok.dc.2 x hx
   have h2:=p2 x hx
   rw [hg _ ak,hg _ ak];omega
  ·have h1:=hFo.value ak ak hok.dc hsz
   rw [←p1] at h1
   have e:a8 (fun v=>gi ws v*gi L v) s.n=a8 (fun v=>gi ws v*(gi st.cost v - gi st.cost 0)) s.n:=bD fun v hv=>by rw [hg v ak]
   rw [e];exact h1.1
theorem tE{v vw:Value}{s:cj}{ws:List Int}(hs:St H w σ)(hr:RSy H v s)(hrw:RI H vw ws):
  Cl Tryz.prog 152 [v,vw] w fun v w'=>∃H1 vx xs e,HLe H H1∧v= .tuple #[vx,I e]∧Ad s ws e∧RI H1 vx xs∧(e≠0→xs=[])∧(e=0→Ac s ws xs)∧St H1 w' σ:=by
 obtain ⟨vl,rfl,hr⟩:=hr
 refine Cl.o Tryz.func152 Tryz.ntmps152 ag2 ?_
 refine .aj ?_
 refine .bx hs fun b2 w hs=>?_
 refine .z zg (.z zg (.nil (.aj (.y hs (zls [_,_] aN aB) (.z zm ?_)))))
 refine .o (.call Tryz.call158 rfl (jO (s:=s) hs ⟨_,rfl,hr⟩ hrw) ?_);rintro _ w ⟨H1,e,pf,hle1,rfl,hA,hs,hne,heq⟩
 refine .z zm (.z zex (.z zex (.z zg (.z zg (.nil (.seq (.aj (.z zm (.z gx ?_)))))))))
 refine .nil ?_
 refine (.eH rfl (fun hc15=>?_) (fun hc15=>?_))
 ·refine .aj (.z zm (.z zg (.z zg (.nil ?_))))
  refine .ret (rT (Fin.lq Tryz.results152 rfl rfl ?_))
  exact ⟨H1,_,[],_,hle1,rfl,hA,RS.nil H1 1 none 0,fun _=>rfl,fun h=>(hc15 h).elim,hs.tail⟩
 ·refine .skip ?_
  refine nT ?_
  refine .aj (.z zm ?_)
  subst hc15
  obtain ⟨bf,bt,bl,cl,ts,lf,vl,sp,rfl,hF,hFo,hok,hsz⟩:=heq rfl
  refine .o (.call Tryz.call162 rfl (nu hs hok hF hFo hsz) ?_);rintro v18 w ⟨H2,xs,hle2,hx,hB,hs⟩
  refine .z zg (.z zg (.nil ?_))
  refine .ret (Fin.lq Tryz.results152 rfl rfl ?_)
  exact ⟨H2,_,xs,_,hle1.trans hle2,rfl,hA,hx,fun h=>(h rfl).elim,fun _=>hB,hs.tail⟩
theorem Ci{n m:Int}(hm:0<m):(n.tmod m+m).tmod m=n%m:=by
 have h2:=Int.lt_tmod_of_pos n hm
 rw [Int.tmod_eq_emod_of_nonneg ak,Int.tmod_def,show n - m*n.tdiv m+m=n+m*(1 - n.tdiv m) by rw [Int.mul_sub];omega,Int.add_mul_emod_self_left]
theorem s5{v:Value}{l:List Int}{i n:Int}(hs:St H w σ)(hr:RI H v l)(hi:0≤i)(hn:n≤4611686018427387904):Cl Tryz.prog 264 [v,I i,I n] w fun v w'=>v=I (pO l i n)∧St H w' σ:=by
 obtain ⟨a,c,rfl⟩:=RI.shape hr
 have hlen:=(RI.len hr).2.2
 refine Cl.o Tryz.func264 Tryz.ntmps264 ag3 ?_
 refine .aj (.z zg (.nil (.seq (.aj (.z zm (.z (cB ae) (.z fo (.z zm ?_))))))))
 refine .iD (t':=10) rfl (fun hb10=>?_) (fun hb10=>?_)
 ·refine .gFs 2 3 false rfl rfl rfl ?_
  refine .z zpT (.nil ?_)
  refine (.cT ?_)
  refine .aj (.z zg (.nil ?_))
  refine .ret (rT (Fin.bH Tryz.results264 rfl ?_))
  exact ⟨by rw [show pO l i n=0 by unfold pO;rw [if_pos (.inl (List.length_eq_zero_iff.1 ak))]],hs⟩
 ·refine .gT rfl rfl ?_
  refine .z zm ?_
  refine .gT rfl rfl ?_
  refine .z fH (.z zpF (.nil ?_))
  refine (.bB rfl (fun hc13=>?_) (fun hc13=>?_))
  ·refine .aj (.z zg (.nil ?_))
   refine .ret (rT (Fin.bH Tryz.results264 rfl ?_))
   exact ⟨by rw [show pO l i n=0 by unfold pO;rw [if_pos (.inr ak)]],hs⟩
  ·refine .skip ?_
   refine nT ?_
   refine .aj (.z zm (.z zm (.z zm (.z (cB ae) ?_))))
   have hl0:0<l.length:=by omega
   have h1:=Int.tmod_nonneg (a:=i) (l.length:Int) hi
   have h2:=Int.tmod_lt_of_pos i (b:=(l.length:Int)) ak
   have hx:=bn (l:=l) (i:=(i.tmod (l.length:Int)).toNat) ak
   have h3:=Int.tmod_lt_of_pos (gi l (i.tmod (l.length:Int)).toNat) (b:=n) ak
   have h4:=Int.lt_tmod_of_pos (gi l (i.tmod (l.length:Int)).toNat) (b:=n) ak
   have e:=Ci (n:=gi l (i.tmod (l.length:Int)).toNat) (m:=n) ak
   refine .z BQ ?_
   refine .ixY hs hr rfl rfl ae ai hx ak ?_;intro b19 o19 hc19
   refine .q hs (aJ rfl af hc19) ?_
   refine .z zm (.z BQ (.z zm (.z ck (.z zm (.z BQ (.z zg (.nil ?_)))))))
   refine .ret (Fin.bH Tryz.results264 rfl ?_)
   exact ⟨by unfold pO;rw [if_neg (fun h=>h.elim (fun h=>by rw [h] at hl0;exact Nat.lt_irrefl _ hl0) (fun h=>by omega)),←e],hs⟩
def uY(i j:Nat):Int:=if i=j then 0 else free
theorem DF{n:Nat}(es:List Arc){T:Nat→Nat→Int}(h:∀i j,i<n→j<n→T i j=uY i j):Ep n es 0 T:=
 ⟨fun i hi=>by rw [h i i hi hi];simp [uY],fun _ _ h=>by omega,fun i j hi hj hij=> .inl (by rw [h i j hi hj];simp [uY,hij])⟩
set_option maxHeartbeats 4000000 in
theorem nb{v:Value}{s:cj}(hs:St H w σ)(hr:RSy H v s)(hok:s.Ok):
  Cl Tryz.prog 226 [v] w fun u w'=>∃H1 rs,HLe H H1∧RT H1 u rs∧Sq s.n rs∧iw s.n s.dc (gt rs)∧St H1 w' σ:=by
 obtain ⟨ul,rfl,hl⟩:=hr
 obtain ⟨al,cl,rfl⟩:=RL.shape hl
 have hm0:=hok.m0
 have hm1:=hok.m1
 have hlen:=hok.len
 have hnp:=s.zO
 have hn65:=hok.n65
 have hinn:=hok.inn
 have hmn:s.many+1=(s.n:Int):=by simp only [cj.n];omega
 generalize hn:s.n=n at hnp hn65 hinn hmn ⊢
 refine Cl.o Tryz.func226 Tryz.ntmps226 ag1 ?_
 refine .aj ?_
 refine .bx hs fun b1 w hs=>?_
 refine .z zg (.nil (.aj (.z (zfa bI) ?_)))
 first|refine .q hs (dG rfl af (hm:=by repeat (first|exact .here|assumption|exact Mem.row ak ak|refine .there ?_|refine Mem.iY ?_)) (hv:=by first|rfl|exact cO ak|exact fA cz ak ak|exact eQ eT)) ?_|refine .q hs (aJ rfl af cz) ?_
 refine .z ck ?_
 rw [hmn]
 refine .z zg (.nil (.aj (.z zm ?_)))
 refine .o (.DY n hs rfl rfl aq Tryz.typeInfo22 rfl az dV ak fun b16 w hs=>?_)
 refine .z zg (.nil (.seq (.aj (.z zm (.z (cB aq) (.z zm (.nil ?_)))))))
 refine .for (N:=n) (J:=fun k fr w=>fr=[(3,I (n:Int)),(4,.slice (some ⟨b16,0,none⟩) n n),(1,.pointer (some ⟨b1,0,none⟩))]∧∃bs:List Nat,bs.length=k∧St H w (.blk b16 (bs.map (ptr n)++List.replicate (n - k) (.slice none 0 0))::(iI bs (xD uY n k)++(.blk b1 [I s.many,.slice al s.bP.length cl]::σ)))) ak ?_ ?_ ?_
 ·exact .mk ⟨rfl,[],rfl,hs⟩
 ·rintro k fr w hk ⟨rfl,bs,hbl,hs⟩
  refine .block (.aj (.z zm (.z zg (.nil (.aj (.z zm (.z zm (.z zm ?_))))))))
  refine .o (.pZ n hs rfl rfl ae dS rfl ai bJ ak fun b25 w hs=>?_)
  first|(refine .ixw hs aq az ?_;intro b26 o26 hc26)|refine .z (zix aq az) ?_
  refine .o (.store hs rfl rfl az ?_ cP (by simp [hbl];omega) (AU hbl hk));intro w hs
  refine .nil (.aj (.z zm (.z zm ?_)))
  first|(refine .ixw hs aq az ?_;intro b29 o29 hc29)|refine .z (zix aq az) ?_
  refine .q hs (dG rfl an (hv:=yD hbl)) ?_
  refine .z (cB ae) (.z zm (.nil ?_))
  refine .for (N:=n) (J:=fun j fr w=>fr=[(5,I (k:Int)),(19,I (k:Int)),(18,I (n:Int)),(3,I (n:Int)),(4,.slice (some ⟨b16,0,none⟩) n n),(1,.pointer (some ⟨b1,0,none⟩))]∧St H w (.blk b25 (Is ((List.range n).map fun c=>if c<j∧k≠c then free else 0)):: .blk b16 ((bs++[b25]).map (ptr n)++List.replicate (n - (k+1)) (.slice none 0 0))::(iI bs (xD uY n k)++(.blk b1 [I s.many,.slice al s.bP.length cl]::σ)))) ak ?_ ?_ ?_
  ·rw [s7 (fun c=>if c<0∧k≠c then free else 0) n 0 (fun j _=>by simp)] at hs
   exact .mk ⟨rfl,hs⟩
  ·rintro j fr w hj ⟨rfl,hs⟩
   refine .block (.aj (.z zm (.z zg (.nil (.aj (.z zm (.z zm (.z gx (.nil ?_)))))))))
   refine (.eH rfl (fun hc37=>?_) (fun hc37=>?_))
   ·refine .region (.z zm (.z zm ?_))
    first|(refine .ixw hs aq az ?_;intro b40 o40 hc40)|refine .z (zix aq az) ?_
    refine .q hs (dG rfl an (hv:=yD hbl)) ?_
    refine .z zm ?_
    first|(refine .ixv hs ae ai ?_;intro b43 o43 hc43)|refine .z (zix ae ai) ?_
    refine .o (.store hs rfl rfl ai ?_ cP (tF (by simp;omega)) (mA _ _ _));intro w hs
    refine .nil ?_
    refine nB (nT ?_)
    rw [AL _ (fun c=>if c<j+1∧k≠c then free else 0) hj 1000000000 (fun c _=>by
     by_cases e:c=j
     ·subst e;rw [if_pos rfl,if_pos ⟨ak,ak⟩]
     ·rw [if_neg e];congr 1;apply propext;omega)] at hs
    exact .mk ⟨rfl,hs⟩
   ·refine .skip ?_
    refine nB (nT ?_)
    rw [s8 (g:=fun c=>if c<j+1∧k≠c then free else 0) (fun c _=>by
     by_cases e:c=j
     ·subst e;rw [if_neg ak,if_neg ak]
     ·congr 1;apply propext;omega)] at hs
    exact .mk ⟨rfl,hs⟩
  ·rintro fr w ⟨rfl,hs⟩
   rw [s8 (g:=uY k) (fun c hc=>by
    unfold uY
    by_cases e:k=c
    ·rw [if_neg ak,if_pos e]
    ·rw [if_pos ⟨hc,e⟩,if_neg e])] at hs
   replace hs:=hs.EJ (by rw [hbl,sJ])
   rw [←wC] at hs
   refine nB (nT ?_)
   exact .mk ⟨rfl,bs++[b25],by simp [hbl],hs⟩
 ·rintro fr w ⟨rfl,bs,hbl,hs⟩
  rw [Nat.sub_self,List.replicate_zero,List.append_nil] at hs
  refine nT ?_
  refine .seq (.aj (.z (zfa bE) ?_))
  first|refine .q hs (dG rfl cA (hm:=by repeat (first|exact .here|assumption|exact Mem.row ak ak|refine .there ?_|refine Mem.iY ?_)) (hv:=by first|rfl|exact cO ak|exact fA cz ak ak|exact eQ eT)) ?_|refine .q hs (aJ rfl cA cz) ?_
  refine .z (cB aI) (.z zm (.nil ?_))
  refine .for (N:=s.bP.length) (J:=fun k fr w=>fr=[(47,.slice al s.bP.length cl),(4,.slice (some ⟨b16,0,none⟩) n n)]∧∃rs,Sq n rs∧Ep n s.dc k (gt rs)∧St H w (.blk b16 (bs.map (ptr n))::(iI bs rs++(.blk b1 [I s.many,.slice al s.bP.length cl]::σ)))) ak ?_ ?_ ?_
  ·exact .mk ⟨rfl,_,Av uY n,DF s.dc (fun i j hi hj=>xC uY hi hj),hs⟩
  ·rintro k fr w hk ⟨rfl,rs,hq,hB,hs⟩
   obtain ⟨x,hx⟩:=nth (l:=s.bP) hk
   have hrl:=hq.1
   obtain ⟨⟨xa0,xa1⟩,⟨xb0,xb1⟩,xne,xM,-⟩:=hok.lim x (List.mem_of_getElem? hx)
   have ha:x.A.toNat<n:=by omega
   have hb:x.B.toNat<n:=by omega
   have hga:=kf hx
   refine .block (.aj ?_)
   refine .ixX (enc:=Lim.c) hs hl rfl rfl aI aS hx rfl ?_;intro b51 o51 hc51
   refine .q hs (cI (vs:=x.c) rfl fj aS hc51) ?_
   refine .o (.alloc hs fm rfl fun b8 w hs=>?_)
   refine .o (.aZ (vs:=x.c) hs rfl rfl aS fun w hs=>?_)
   refine .nil ?_
   refine .draw mix rfl hs fun w hs=>?_
   refine .z 0 rfl zm ?_;refine .z 1 rfl (zfa dE) ?_
   first|refine .load (i:=2) hs rfl au .none rfl af ?_ (by repeat (first|exact .here|assumption|exact Mem.row ak ak|refine .there ?_|refine Mem.iY ?_)) (by first|rfl|exact cO ak|exact fA cz ak ak|exact eQ eT)|refine .r (i:=2) hs rfl au .none (aJ rfl af cz) ?_
   refine .z 3 rfl (dH (k:=x.A.toNat) rfl rfl aq az ak ha) ?_
   first|refine .load (i:=4) hs rfl au .none rfl an ?_ (by repeat (first|exact .here|assumption|exact Mem.row ak ak|refine .there ?_|refine Mem.iY ?_)) (by first|rfl|exact cO ak|exact fA cz ak ak|exact eQ eT)|refine .r (i:=4) hs rfl au .none (aJ rfl an cz) ?_
   refine .z 5 rfl (zfa dP) ?_
   first|refine .load (i:=6) hs rfl au .none rfl af ?_ (by repeat (first|exact .here|assumption|exact Mem.row ak ak|refine .there ?_|refine Mem.iY ?_)) (by first|rfl|exact cO ak|exact fA cz ak ak|exact eQ eT)|refine .r (i:=6) hs rfl au .none (aJ rfl af cz) ?_
   refine .z 7 rfl zm ?_;refine .z 8 rfl (zfa dE) ?_
   first|refine .load (i:=9) hs rfl au .none rfl af ?_ (by repeat (first|exact .here|assumption|exact Mem.row ak ak|refine .there ?_|refine Mem.iY ?_)) (by first|rfl|exact cO ak|exact fA cz ak ak|exact eQ eT)|refine .r (i:=9) hs rfl au .none (aJ rfl af cz) ?_
   refine .z 10 rfl (dH (k:=x.A.toNat) rfl rfl aq az ak ha) ?_
   first|refine .load (i:=11) hs rfl au .none rfl an ?_ (by repeat (first|exact .here|assumption|exact Mem.row ak ak|refine .there ?_|refine Mem.iY ?_)) (by first|rfl|exact cO ak|exact fA cz ak ak|exact eQ eT)|refine .r (i:=11) hs rfl au .none (aJ rfl an cz) ?_
   refine .z 12 rfl (zfa dP) ?_
   first|refine .load (i:=13) hs rfl au .none rfl af ?_ (by repeat (first|exact .here|assumption|exact Mem.row ak ak|refine .there ?_|refine Mem.iY ?_)) (by first|rfl|exact cO ak|exact fA cz ak ak|exact eQ eT)|refine .r (i:=13) hs rfl au .none (aJ rfl af cz) ?_
   refine .z 14 rfl (dH (k:=x.B.toNat) rfl rfl ae ai ak hb) ?_
   first|refine .load (i:=15) hs rfl au .none rfl af ?_ (by repeat (first|exact .here|assumption|exact Mem.row ak ak|refine .there ?_|refine Mem.iY ?_)) (by first|rfl|exact cO ak|exact fA cz ak ak|exact eQ eT)|refine .r (i:=15) hs rfl au .none (aJ rfl af cz) ?_
   refine .z 16 rfl (zfa eX) ?_
   first|refine .load (i:=17) hs rfl au .none rfl af ?_ (by repeat (first|exact .here|assumption|exact Mem.row ak ak|refine .there ?_|refine Mem.iY ?_)) (by first|rfl|exact cO ak|exact fA cz ak ak|exact eQ eT)|refine .r (i:=17) hs rfl au .none (aJ rfl af cz) ?_
   refine .z 18 rfl zr ?_
   refine .z 19 rfl (dH (k:=x.B.toNat) rfl rfl ae ai ak hb) ?_
   refine .ET 20 hs ?_
   refine .store hs rfl rfl ai ?_ (.there (.there (Upd.row _ ak ak))) (tF (by rw [hq.2 _ ha];exact hb)) (mA _ _ _);intro w hs
   refine .go ?_
   refine .DT hs ?_
   refine nB (nT ?_)
   exact .mk ⟨rfl,_,hq.set ha _,by rw [yN hq ha hb];exact hB.step hinn hga,hs.tail⟩
  ·rintro fr w ⟨rfl,rs,hq,hB,hs⟩
   rw [←eE] at hB
   have hI:=hB.go hinn hnp
   have hcb:∀x∈s.dc,-20000≤x.c∧x.c≤20000:=fun x hx=>by have:=hinn x hx;omega
   refine nT ?_
   refine .seq (.aj (.z zm (.z (cB aq) (.z zm (.nil ?_)))))
   refine .for (N:=n) (J:=fun m fr w=>fr=[(4,.slice (some ⟨b16,0,none⟩) n n)]∧∃rs,Sq n rs∧(m<n→wj n s.dc m (fun _ _=>False) (gt rs))∧(m=n→iw n s.dc (gt rs))∧St H w (.blk b16 (bs.map (ptr n))::(iI bs rs++(.blk b1 [I s.many,.slice al s.bP.length cl]::σ)))) ak ?_ ?_ ?_
   ·exact .mk ⟨rfl,rs,hq,fun _=>hI,fun e=>by omega,hs⟩
   ·clear hI hB hq
    rintro m fr w hm ⟨rfl,rs,hq,hI,-,hs⟩
    replace hI:=hI hm
    refine .block (.aj (.z zm (.z zg (.nil (.aj (.z zm (.z (cB aq) (.z zm (.nil ?_)))))))))
    refine .for (N:=n) (J:=fun i fr w=>fr=[(9,I (m:Int)),(76,I (m:Int)),(75,I (n:Int)),(4,.slice (some ⟨b16,0,none⟩) n n)]∧∃rs,Sq n rs∧wj n s.dc m (fun a _=>a<i) (gt rs)∧St H w (.blk b16 (bs.map (ptr n))::(iI bs rs++(.blk b1 [I s.many,.slice al s.bP.length cl]::σ)))) ak ?_ ?_ ?_
    ·exact .mk ⟨rfl,rs,hq,hI.skip hcb hm (P:=fun _ _=>False) (fun i j h=>by omega) (fun _ _ _ _ h=>h.elim),hs⟩
    ·clear hI hq
     rintro i fr w hi ⟨rfl,rs,hq,hI,hs⟩
     refine .block (.aj (.z zm (.z zg (.nil (.aj (.z zm (.z (cB aq) (.z zm (.nil ?_)))))))))
     refine .for (N:=n) (J:=fun k fr w=>fr=[(10,I (i:Int)),(81,I (i:Int)),(80,I (n:Int)),(9,I (m:Int)),(76,I (m:Int)),(75,I (n:Int)),(4,.slice (some ⟨b16,0,none⟩) n n)]∧∃rs,Sq n rs∧wj n s.dc m (fun a b=>a<i∨(a=i∧b<k)) (gt rs)∧St H w (.blk b16 (bs.map (ptr n))::(iI bs rs++(.blk b1 [I s.many,.slice al s.bP.length cl]::σ)))) ak ?_ ?_ ?_
     ·exact .mk ⟨rfl,rs,hq,hI.skip hcb hm (P:=fun _ _=>False) (fun a b h=>by omega) (fun _ _ _ _ h=>h.elim),hs⟩
     ·clear hI hq
      rintro k fr w hk ⟨rfl,rs,hq,hI,hs⟩
      have hrl:=hq.1
      have c1:=hI.cl i m hi hm;have c2:=hI.cl m k hm hk
      have u1:=hI.up i m hi hm;have u2:=hI.up m k hm hk
      refine .block (.aj (.z zm (.z zg (.nil (.aj (.z zm (.z zm ?_)))))))
      first|(refine .ixw hs aq az ?_;intro b91 o91 hc91)|refine .z (zix aq az) ?_
      first|refine .q hs (dG rfl an (hm:=by repeat (first|exact .here|assumption|exact Mem.row ak ak|refine .there ?_|refine Mem.iY ?_)) (hv:=by first|rfl|exact cO ak|exact fA cz ak ak|exact eQ eT)) ?_|refine .q hs (aJ rfl an cz) ?_
      refine .z zm ?_
      first|(refine .ixv hs ae ai ?_;intro b94 o94 hc94)|refine .z (zix ae ai) ?_
      first|refine .q hs (dG rfl af (hm:=by repeat (first|exact .here|assumption|exact Mem.row ak ak|refine .there ?_|refine Mem.iY ?_)) (hv:=by first|rfl|exact cO ak|exact fA cz ak ak|exact eQ eT)) ?_|refine .q hs (aJ rfl af cz) ?_
      refine .z gx (.z zm ?_)
      refine .yf (t':=97) rfl (fun hb97=>?_) (fun hb97=>?_)
      ·refine .gT rfl rfl ?_
       refine .z zm ?_
       refine .gT rfl rfl ?_
       refine .z zm ?_
       refine .gT rfl rfl ?_
       first|(refine .ixw hs aq az ?_;intro b100 o100 hc100)|refine .z (zix aq az) ?_
       refine .gT rfl rfl ?_
       first|refine .q hs (dG rfl an (hm:=by repeat (first|exact .here|assumption|exact Mem.row ak ak|refine .there ?_|refine Mem.iY ?_)) (hv:=by first|rfl|exact cO ak|exact fA cz ak ak|exact eQ eT)) ?_|refine .q hs (aJ rfl an cz) ?_
       refine .gT rfl rfl ?_
       refine .z zm ?_
       refine .gT rfl rfl ?_
       first|(refine .ixv hs ae ai ?_;intro b103 o103 hc103)|refine .z (zix ae ai) ?_
       refine .gT rfl rfl ?_
       first|refine .q hs (dG rfl af (hm:=by repeat (first|exact .here|assumption|exact Mem.row ak ak|refine .there ?_|refine Mem.iY ?_)) (hv:=by first|rfl|exact cO ak|exact fA cz ak ak|exact eQ eT)) ?_|refine .q hs (aJ rfl af cz) ?_
       refine .gT rfl rfl ?_
       refine .z gx (.z zpT (.nil ?_))
       refine (.eH rfl (fun hc106=>?_) (fun hc106=>?_))
       ·refine .draw mix rfl hs fun w hs=>?_
        replace u1:=u1 hb97;replace u2:=u2 hc106
        refine .z 0 rfl zm ?_;refine .z 1 rfl zm ?_
        first|(refine .ixw 2 rfl hs aq az ?_;intro b109 o109 hc109)|refine .z 2 rfl (zix aq az) ?_
        first|refine .load (i:=3) hs rfl au .none rfl an ?_ (by repeat (first|exact .here|assumption|exact Mem.row ak ak|refine .there ?_|refine Mem.iY ?_)) (by first|rfl|exact cO ak|exact fA cz ak ak|exact eQ eT)|refine .r (i:=3) hs rfl au .none (aJ rfl an cz) ?_
        refine .z 4 rfl zm ?_;refine .z 5 rfl zm ?_;refine .z 6 rfl zm ?_
        first|(refine .ixw 7 rfl hs aq az ?_;intro b114 o114 hc114)|refine .z 7 rfl (zix aq az) ?_
        first|refine .load (i:=8) hs rfl au .none rfl an ?_ (by repeat (first|exact .here|assumption|exact Mem.row ak ak|refine .there ?_|refine Mem.iY ?_)) (by first|rfl|exact cO ak|exact fA cz ak ak|exact eQ eT)|refine .r (i:=8) hs rfl au .none (aJ rfl an cz) ?_
        refine .z 9 rfl zm ?_
        first|(refine .ixv 10 rfl hs ae ai ?_;intro b117 o117 hc117)|refine .z 10 rfl (zix ae ai) ?_
        first|refine .load (i:=11) hs rfl au .none rfl af ?_ (by repeat (first|exact .here|assumption|exact Mem.row ak ak|refine .there ?_|refine Mem.iY ?_)) (by first|rfl|exact cO ak|exact fA cz ak ak|exact eQ eT)|refine .r (i:=11) hs rfl au .none (aJ rfl af cz) ?_
        refine .z 12 rfl zm ?_;refine .z 13 rfl zm ?_
        first|(refine .ixw 14 rfl hs aq az ?_;intro b121 o121 hc121)|refine .z 14 rfl (zix aq az) ?_
        first|refine .load (i:=15) hs rfl au .none rfl an ?_ (by repeat (first|exact .here|assumption|exact Mem.row ak ak|refine .there ?_|refine Mem.iY ?_)) (by first|rfl|exact cO ak|exact fA cz ak ak|exact eQ eT)|refine .r (i:=15) hs rfl au .none (aJ rfl an cz) ?_
        refine .z 16 rfl zm ?_
        first|(refine .ixv 17 rfl hs ae ai ?_;intro b124 o124 hc124)|refine .z 17 rfl (zix ae ai) ?_
        first|refine .load (i:=18) hs rfl au .none rfl af ?_ (by repeat (first|exact .here|assumption|exact Mem.row ak ak|refine .there ?_|refine Mem.iY ?_)) (by first|rfl|exact cO ak|exact fA cz ak ak|exact eQ eT)|refine .r (i:=18) hs rfl au .none (aJ rfl af cz) ?_
        refine .z 19 rfl zm ?_;refine .z 20 rfl zm ?_
        first|(refine .ixw 21 rfl hs aq az ?_;intro b128 o128 hc128)|refine .z 21 rfl (zix aq az) ?_
        first|refine .load (i:=22) hs rfl au .none rfl an ?_ (by repeat (first|exact .here|assumption|exact Mem.row ak ak|refine .there ?_|refine Mem.iY ?_)) (by first|rfl|exact cO ak|exact fA cz ak ak|exact eQ eT)|refine .r (i:=22) hs rfl au .none (aJ rfl an cz) ?_
        refine .z 23 rfl zm ?_
        first|(refine .ixv 24 rfl hs ae ai ?_;intro b131 o131 hc131)|refine .z 24 rfl (zix ae ai) ?_
        first|refine .load (i:=25) hs rfl au .none rfl af ?_ (by repeat (first|exact .here|assumption|exact Mem.row ak ak|refine .there ?_|refine Mem.iY ?_)) (by first|rfl|exact cO ak|exact fA cz ak ak|exact eQ eT)|refine .r (i:=25) hs rfl au .none (aJ rfl af cz) ?_
        refine .z 26 rfl ck ?_;refine .z 27 rfl zr ?_;refine .z 28 rfl Dd ?_
        first|(refine .ixv 29 rfl hs ae ai ?_;intro b136 o136 hc136)|refine .z 29 rfl (zix ae ai) ?_
        refine .ET 30 hs ?_
        refine .store hs rfl rfl ai ?_ (.there (Upd.row _ ak ak)) (tF (by rw [hq.2 _ hi];exact hk)) (mA _ _ _);intro w hs
        refine .go ?_
        refine .DT hs ?_
        refine nB (nT ?_)
        exact .mk ⟨rfl,_,hq.set hi _,by rw [yN hq hi hk];exact hI.step hcb hm hi hk (fun a b h=>by omega) hb97 hc106,hs⟩
       ·refine .skip ?_
        refine nB (nT ?_)
        exact .mk ⟨rfl,rs,hq,hI.skip hcb hm (P:=fun a b=>a=i∧b=k) (fun a b h=>by omega) (fun a b _ _ h=>by obtain ⟨rfl,rfl⟩:=h;exact .inr hc106),hs⟩
      ·refine .gFs 8 8 true rfl rfl rfl ?_
       refine .z zpF (.nil ?_)
       refine (.cF ?_)
       refine .skip ?_
       refine nB (nT ?_)
       exact .mk ⟨rfl,rs,hq,hI.skip hcb hm (P:=fun a b=>a=i∧b=k) (fun a b h=>by omega) (fun a b _ _ h=>by obtain ⟨rfl,rfl⟩:=h;exact .inl hb97),hs⟩
     ·rintro fr w ⟨rfl,rs,hq,hI,hs⟩
      refine nB (nT ?_)
      exact .mk ⟨rfl,rs,hq,hI.skip hcb hm (P:=fun a b=>a=i∧n≤b) (fun a b h=>by omega) (fun a b _ hb h=>by omega),hs⟩
    ·rintro fr w ⟨rfl,rs,hq,hI,hs⟩
     replace hI:wj n s.dc m (fun _ _=>True) (gt rs):=hI.skip hcb hm (P:=fun a _=>n≤a) (fun a b h=>by omega) (fun a b ha _ h=>by omega)
     refine nB (nT ?_)
     exact .mk ⟨rfl,rs,hq,fun h=>hI.next hcb h hn65,fun h=>hI.done hcb h.symm hn65,hs⟩
   ·rintro fr w ⟨rfl,rs,hq,-,hT,hs⟩
    replace hT:=hT rfl
    refine nT ?_
    refine .aj (.z zm (.z zg (.nil ?_)))
    refine .ret (Fin.bH Tryz.results226 rfl ?_)
    obtain ⟨H1,g1,g2,hs⟩:=u9 hq hbl ak hs
    exact ⟨H1,rs,g1,g2,hq,hT,hs.tail⟩
theorem mq{vm:Value}{rs:List (List Int)}{n:Nat}(hs:St H w σ)(hM:RT H vm rs)(hq:Sq n rs)(hn:n≤1000):
  Cl Tryz.prog 233 [vm] w fun v w'=>∃b,v= .bool b∧(b=true↔∀i,i<n→¬gt rs i i<0)∧St H w' σ:=by
 obtain ⟨a,c,rfl⟩:=hM.shape
 have hrl:=hq.1
 refine Cl.o Tryz.func233 Tryz.ntmps233 ag1 ?_
 refine .aj (.z zg (.nil (.seq (.aj (.z zm (.z (cB aq) (.z zm (.nil ?_))))))))
 refine .for (N:=rs.length) (J:=fun k fr w=>fr=[(0,.slice a rs.length c)]∧(∀i,i<k→¬gt rs i i<0)∧St H w σ) ak ?_ ?_ ?_
 ·exact .mk ⟨rfl,fun i h=>by omega,hs⟩
 ·rintro k fr w hk ⟨rfl,h0,hs⟩
  refine .block (.aj (.z zm (.z zg (.nil (.aj (.z zm (.z zm ?_)))))))
  refine .ixT hs hM rfl rfl aq az hk rfl ?_;intro b11 o11 a11 c11 hc11 hR11
  refine .q hs (aJ rfl an hc11) ?_
  refine .z zm ?_
  refine .ixY hs hR11 rfl rfl ae ai (bn (l:=gr rs k) (i:=k) (by rw [hq.2 k ak];omega)) rfl ?_;intro b14 o14 hc14
  refine .q hs (aJ rfl af hc14) ?_
  refine .z fH (.nil ?_)
  refine (.bB rfl (fun hc16=>?_) (fun hc16=>?_))
  ·refine .aj (.z zg (.nil ?_))
   refine .ret (rB (rT (rB (rT (Fin.bH Tryz.results233 rfl ?_)))))
   exact ⟨false,rfl,⟨fun h=>(by cases h),fun h=>(h k ak hc16).elim⟩,hs⟩
  ·refine .skip ?_
   refine nB (nT ?_)
   exact .mk ⟨rfl,fun i hi=>by
    by_cases e:i=k
    ·subst e;exact hc16
    ·exact h0 i ak,hs⟩
 ·rintro fr w ⟨rfl,h0,hs⟩
  refine nT ?_
  refine .aj (.z zg (.nil ?_))
  refine .ret (Fin.bH Tryz.results233 rfl ?_)
  exact ⟨true,rfl,⟨fun _ i hi=>h0 i ak,fun _=>rfl⟩,hs⟩
theorem pJ{v:Value}{ws:List Int}{n:Nat}(hs:St H w σ)(hr:RI H v ws)(hl:ws.length=n+1)(hn:n≤1000)(hz:bG ws (n+1)≤FF):
  Cl Tryz.prog 291 [v] w fun u w'=>∃b cap sp lf,u= .slice (some ⟨b,0,none⟩) (n+1) cap∧lf.length=n+1∧(∀v<n+1,gi lf v=mF ws (n+1) v)∧St H w' (.blk b (Is lf++sp)::σ):=by
 obtain ⟨a,c,rfl⟩:=RI.shape hr
 have hFF:FF=3600000000000:=rfl
 refine Cl.o Tryz.func291 Tryz.ntmps291 ag1 ?_
 refine .aj (.z zg (.nil (.aj ?_)))
 refine .o (.buildSlice (cells:=[]) hs kZ rfl rfl fun b6 w hs=>?_)
 refine .z zm ?_
 refine .o (.append (xs:=[]) hs bZ rfl rfl (.full (len:=0) rfl) (.ints hr) (gU ws) (fun l' h=>by simp at h;obtain rfl:l'=0:=ak;omega) ?_);intro v8 en8 w hO hs
 rw [List.nil_append] at hO
 rcases hO with ⟨_,_,h0,_⟩|⟨b8,l8,c8,sp,rfl,rfl,h5,h6,h7⟩
 ·exfalso
  have h1:ws.length=0:=by simpa using congrArg List.length h0
  omega
 obtain rfl:l8=n+1:=by simp at h5;omega
 refine .z zg (.nil (.aj (.z zm ?_)))
 refine .q hs (dH (k:=0) rfl rfl ae ai rfl ak) ?_
 refine .o (.store hs rfl rfl ai ?_ cP (by simp;omega) (yv ak 0 sp));intro w hs
 refine .nil (.seq (.aj (.z zm ?_)))
 refine .q hs (ta (k:=1) rfl rfl ae ai rfl ak) ?_
 have hT:=RI.tail hr (k:=1) ak
 have hTl:(ws.drop 1).length=n:=by rw [List.length_drop];omega
 refine .z (cB ae) (.z zm (.nil ?_))
 refine .for (N:=n) (J:=fun k fr w=>fr=[(12,.slice (if c=1 then a else a.map (·.add (1*1))) (ws.length - 1) (c - 1)),(3,.slice (some ⟨b8,0,none⟩) (n+1) c8)]∧∃lf,(lf.length=n+1∧gi lf 0= -jU ws k∧∀v,0<v→gi lf v=gi ws v)∧St H w (.blk b8 (Is lf++sp)::σ)) ak ?_ ?_ ?_
 ·exact .mk ⟨rfl,_,⟨by simp [hl],by rw [ed ak,if_pos rfl];rfl,fun v hv=>by rw [ed ak,if_neg ak]⟩,hs⟩ (hs:= .bU rfl rfl (.bU rfl ak aR))
 ·rintro k fr w hk ⟨rfl,lf,⟨h8,h9,h10⟩,hs⟩
  have hx:=bn (l:=ws.drop 1) (i:=k) ak
  have e1:gi (ws.drop 1) k=gi ws (k+1):=by simp [gi,List.getD]
  have hb1:=qE ws k
  have hb2:=gM ws (v:=k+1) (n:=n+1) ak
  have hb3:=nG (f:=fun v=>max (gi ws v) (-gi ws v)) (fun v=>by omega) (k:=k+1) (n:=n+1) ak
  change bG ws (k+1)≤bG ws (n+1) at hb3
  refine .block (.aj ?_)
  refine .ixY hs hT rfl rfl ae ai hx rfl ?_;intro b16 o16 hc16
  refine .q hs (aJ rfl af hc16) ?_
  rw [e1]
  refine .z zg (.nil (.region (.z zm ?_)))
  refine .q hs (dH (k:=0) rfl rfl ae ai rfl ak) ?_
  refine .q hs (dG rfl af (hv:=nD (bn (l:=lf) (i:=0) ak) sp)) ?_
  refine .z zm (.z gL ?_)
  refine .q hs (dH (k:=0) rfl rfl ae ai rfl ak) ?_
  refine .o (.store hs rfl rfl ai ?_ cP (by simp;omega) (yv ak _ sp));intro w hs
  refine .nil ?_
  refine nB (nT ?_)
  exact .mk ⟨rfl,_,⟨by simp [h8],by rw [ed ak,if_pos rfl,h9];simp only [jU,a8];omega,fun v hv=>by rw [ed ak,if_neg ak];exact h10 v hv⟩,hs⟩
 ·rintro fr w ⟨rfl,lf,⟨h8,h9,h10⟩,hs⟩
  refine nT ?_
  refine .aj (.z zm (.z zg (.nil ?_)))
  refine .ret (Fin.bH Tryz.results291 rfl ?_)
  exact ⟨b8,c8,sp,lf,rfl,h8,fun v hv=>by
   cases v with
   |zero=>rw [h9,uV]
   |succ v=>rw [h10 _ ak,uW],hs⟩
theorem sZ{vm:Value}{Ms Fs:List (List Int)}{n bF:Nat}{bs:List Nat}(hs:St H w σ)(hM:RT H vm Ms)(hqM:Sq n Ms)(hn:n≤1000)(hF0:Mem σ (.blk bF (bs.map (ptr n))))(hbl:bs.length=n)(hqF:Sq n Fs)(hF:∀i,i<n→Mem σ (.blk (gb bs i) (Is (gr Fs i)))):
  Cl Tryz.prog 293 [vm,.slice (some ⟨bF,0,none⟩) n n] w fun v w'=>v=I (IntKind.i64.wrap (a8 (fun a=>a8 (fun b=>cell (gt Ms) (gt Fs) a b) n) n))∧St H w' σ:=by
 obtain ⟨am,cm,rfl⟩:=hM.shape
 have hml:=hqM.1
 have hfl:=hqF.1
 refine Cl.o Tryz.func293 Tryz.ntmps293 ag2 ?_
 refine .aj (.z zg (.nil (.aj (.z zg (.nil (.seq (.aj (.z zm (.z (cB aq) ?_)))))))))
 refine .z zm (.nil ?_)
 refine .for (N:=n) (J:=fun k fr w=>fr=[(5,I (IntKind.i64.wrap (a8 (fun a=>a8 (fun b=>cell (gt Ms) (gt Fs) a b) n) k))),(0,.slice am Ms.length cm),(1,.slice (some ⟨bF,0,none⟩) n n)]∧St H w σ) ak ?_ ?_ ?_
 ·exact .mk ⟨rfl,hs⟩ (hs:= .bU rfl rfl (.bU rfl ak (.bU rfl (by simp [a8,nN]) aR)))
 ·rintro i fr w hi ⟨rfl,hs⟩
  have hMi:i<Ms.length:=by omega
  refine .block (.aj (.z zm (.z zg (.nil (.aj (.z zm (.z (cB aq) (.z zm (.nil ?_)))))))))
  refine .for (N:=n) (J:=fun k fr w=>fr=[(5,I (IntKind.i64.wrap (a8 (fun a=>a8 (fun b=>cell (gt Ms) (gt Fs) a b) n) i+a8 (fun b=>cell (gt Ms) (gt Fs) i b) k))),(6,I (i:Int)),(10,I (i:Int)),(9,I (n:Int)),(0,.slice am Ms.length cm),(1,.slice (some ⟨bF,0,none⟩) n n)]∧St H w σ) ak ?_ ?_ ?_
  ·exact .mk ⟨rfl,hs⟩ (hs:= .bU rfl rfl (.bU rfl ak (.bU rfl (by simp [a8]) aR)))
  ·rintro k fr w hk ⟨rfl,hs⟩
   have hrM:(gr Ms i).length=n:=hqM.2 i hi
   have hFi:=hF i hi
   have hgi:∀z,0<gt Fs i k→z=gt Fs i k*gt Ms i k→z=cell (gt Ms) (gt Fs) i k:=fun z h e=>by unfold cell;rw [if_pos h,e]
   refine .block (.aj (.z zm (.z zg (.nil (.aj (.z zm (.z zm ?_)))))))
   refine .q hs (dH (k:=i) rfl rfl aq az rfl hi) ?_
   refine .q hs (dG rfl an (hm:=hF0) (hv:=cO ak)) ?_
   refine .z zm ?_
   refine .q hs (dH (k:=k) rfl rfl ae ai rfl hk) ?_
   refine .q hs (dG rfl af (hm:=hF i hi) (hv:=fA hqF hi hk)) ?_
   refine .z kD (.nil ?_)
   refine (.bB rfl (fun hc25=>?_) (fun hc25=>?_))
   ·refine .draw mix rfl hs fun w hs=>?_
    refine .z 0 rfl zm ?_;refine .z 1 rfl zm ?_;refine .z 2 rfl zm ?_
    refine .z 3 rfl (dH (k:=i) rfl rfl aq az rfl hi) ?_
    refine .load (i:=4) hs rfl au .none rfl an ?_ hF0 (cO ak)
    refine .z 5 rfl zm ?_
    refine .z 6 rfl (dH (k:=k) rfl rfl ae ai rfl hk) ?_
    refine .load (i:=7) hs rfl au .none rfl af ?_ (hF i hi) (fA hqF hi hk)
    refine .z 8 rfl zm ?_;refine .z 9 rfl zm ?_
    refine .ixT (i:=10) hs rfl au .none hM rfl rfl aq az hMi rfl ?_;intro b36 o36 a36 c36 hc36 hR36
    refine .r (i:=11) hs rfl au .none (aJ rfl an hc36) ?_
    refine .z 12 rfl zm ?_
    refine .ixX (enc:=fun x=>[I x]) (i:=13) hs rfl au .none hR36 rfl rfl ae ai (bn (l:=gr Ms i) (i:=k) ak) rfl ?_;intro b39 o39 hc39;replace hc39:=bu.one hc39
    refine .r (i:=14) hs rfl au .none (aJ rfl af hc39) ?_
    refine .z 15 rfl (Cp rfl rfl) ?_
    refine .z 16 rfl (AT rfl rfl) ?_
    refine .z 17 rfl zg ?_
    refine .DT hs ?_
    refine nB (nT ?_)
    exact .mk ⟨rfl,hs⟩ (hs:= .bU rfl ak (.bU rfl rfl (.bU rfl (by
     rw [w6,tq,show gt Fs i k*gi (gr Ms i) k=cell (gt Ms) (gt Fs) i k from hgi _ hc25 rfl]
     simp only [a8]
     congr 1;omega) aR)))
   ·refine .skip ?_
    refine nB (nT ?_)
    exact .mk ⟨rfl,hs⟩ (hs:= .bU rfl ak (.bU rfl rfl (.bU rfl (by
     have:cell (gt Ms) (gt Fs) i k=0:=by unfold cell;rw [if_neg hc25]
     simp only [a8,this]
     congr 1;omega) aR)))
  ·rintro fr w ⟨rfl,hs⟩
   refine nB (nT ?_)
   exact .mk ⟨rfl,hs⟩ (hs:= .bU rfl ak (.bU rfl rfl (.bU rfl (by simp only [a8]) aR)))
 ·rintro fr w ⟨rfl,hs⟩
  refine nT ?_
  refine .aj (.z zm (.z zg (.nil ?_)))
  refine .ret (Fin.bH Tryz.results293 rfl ?_)
  exact ⟨rfl,hs⟩
set_option maxHeartbeats 8000000 in
theorem rN{vm:Value}{Ms Fs:List (List Int)}{n bF bN capN:Nat}{bs:List Nat}{spN:List Value}{need ts:List Int}{es:List Arc}{D:Nat→Int}(hs:St H w σ)(hM:RT H vm Ms)(hqM:Sq n Ms)
  (hF0:Mem σ (.blk bF (bs.map (ptr n)))) (hbl:bs.length=n) (hqF:Sq n Fs) (hF:∀i,i<n→Mem σ (.blk (gb bs i) (Is (gr Fs i)))) (hN:Mem σ (.blk bN (Is need++spN))) (hNl:need.length=n)
  (hT:Tab n (gt Ms) es) (hC:tV n es ts (gt Fs)) (hg:VG n (cH es ts) D):
  Cl Tryz.prog 292 [vm,.slice (some ⟨bF,0,none⟩) n n,.slice (some ⟨bN,0,none⟩) n capN] w fun u w'=>∃H1 vd vb s,HLe H H1∧u= .tuple #[vd,vb]∧RI H1 vd s.cost∧RS H1 2 vb (s.by_.map (lA es))∧kC n (cH es ts) (fun v=>gi need v<0) D (fun _=>True) false s∧St H1 w' σ:=by
 obtain ⟨am,cm,rfl⟩:=hM.shape
 obtain rfl:n=Ms.length:=hqM.1.symm
 have hfl:=hqF.1
 have hn0:=hg.n0
 have hfree:free=1000000000:=rfl
 have hn65:=hg.n1
 have hD0:=hg.d0
 have hD1:=hg.d1
 have harc:∀x∈es,-1400000≤x.c∧x.c≤1400000:=fun x hx=>by have:=hg.ok x ((lF hT hC).2 (.inl hx));omega
 refine Cl.o Tryz.func292 Tryz.ntmps292 ag3 ?_
 refine .aj (.z zg (.z zg (.nil (.aj (.z zm (.z (cB aq) ?_))))))
 refine .o (.pZ Ms.length hs rfl rfl ae dS rfl ai bJ ak fun b16 w hs=>?_)
 refine .z zg (.nil (.aj (.z zm (.z (cB aq) ?_))))
 refine .o (.FT Ms.length hs rfl rfl dq Tryz.typeInfo315 rfl cU Ga ak fun b19 w hs=>?_)
 refine .z zg (.nil (.seq (.aj (.z zm (.z (cB ae) (.z zm (.nil ?_)))))))
 refine .for (N:=Ms.length) (J:=fun k fr w=>fr=[(8,.slice (some ⟨b16,0,none⟩) Ms.length Ms.length),(9,.slice (some ⟨b19,0,none⟩) Ms.length Ms.length),(0,.slice am Ms.length cm),(1,.slice (some ⟨bF,0,none⟩) Ms.length Ms.length),(2,.slice (some ⟨bN,0,none⟩) Ms.length capN)]∧∃C,(C.length=Ms.length∧∀v<k,gi C v=if gi need v<0 then 0 else free)∧St H w (.blk b19 (List.replicate k [I (-1),Value.bool false]++List.replicate (Ms.length - k) [I 0,Value.bool false]).flatten:: .blk b16 (Is C)::σ)) ak ?_ ?_ ?_
 ·exact .mk ⟨rfl,_,⟨bL,fun v hv=>by omega⟩,hs⟩
 ·rintro k fr w hk ⟨rfl,C,⟨hC1,hC2⟩,hs⟩
  have hstp:=Ch Ms.length hk [I (-1),Value.bool false] rfl [I 0,Value.bool false] rfl
  refine .block (.aj (.z zm (.z zg (.nil (.aj (.z zm (.z zm ?_)))))))
  first|(refine .ixv hs ae ai ?_;intro b27 o27 hc27)|refine .z (zix ae ai) ?_
  refine .o (.store hs rfl rfl ai fun w hs=>?_)
  refine .nil (.aj (.z zm (.z zm (.z (zbd [_,_] gJ) ?_))))
  first|(refine .ixw hs dq cU ?_;intro b31 o31 hc31)|refine .z (nQ dq cU) ?_
  refine .o (.aZ (vs:=[I (-1),Value.bool false]) hs rfl rfl cU ?_ cP (by simp;omega) hstp);intro w hs
  refine .nil (.aj (.z zm (.z zm ?_)))
  first|(refine .ixv hs ae ai ?_;intro b34 o34 hc34)|refine .z (zix ae ai) ?_
  refine .q hs (dG rfl af (hm:= .there (.there hN)) (hv:=nD (bn (l:=need) (i:=k) ak) spN)) ?_
  refine .z fH (.nil ?_)
  refine (.bB rfl (fun hc36=>?_) (fun hc36=>?_))
  ·refine .region (.z zm (.z zm ?_))
   first|(refine .ixv hs ae ai ?_;intro b39 o39 hc39)|refine .z (zix ae ai) ?_
   refine .o (.store hs rfl rfl ai ?_ cP (tF (by rw [List.length_set];omega)) (mA _ _ _));intro w hs
   refine .nil ?_
   refine nB (nT ?_)
   exact .mk ⟨rfl,_,⟨by simp [hC1],fun v hv=>by
    rw [ed (by rw [List.length_set];omega)]
    by_cases e:v=k
    ·subst e;rw [if_pos rfl,if_pos hc36]
    ·rw [if_neg e,ed ak,if_neg e];exact hC2 v ak⟩,hs⟩
  ·refine .skip ?_
   refine nB (nT ?_)
   exact .mk ⟨rfl,_,⟨by simp [hC1],fun v hv=>by
    rw [ed ak]
    by_cases e:v=k
    ·subst e;rw [if_pos rfl,if_neg hc36]
    ·rw [if_neg e];exact hC2 v ak⟩,hs⟩
 ·rintro fr w ⟨rfl,C,⟨hC1,hC2⟩,hs⟩
  rw [Nat.sub_self,List.replicate_zero,List.append_nil,z8 es] at hs
  have hI:C5 Ms.length need Ms.length ⟨C,List.replicate Ms.length ⟨0,0,0,-1⟩⟩:=⟨hC1,bL,hC2,fun v hv=>iB _ _ hv⟩
  have hV0:=hI.inv (Dn:=fun _=>True) hg
  refine nT ?_
  refine .seq (.aj (.z zg (.nil (.block ?_))))
  refine .loop (fun p:Bool×BS=>⟨160,[],[(11,.bool p.1),(8,.slice (some ⟨b16,0,none⟩) Ms.length Ms.length),(9,.slice (some ⟨b19,0,none⟩) Ms.length Ms.length),(0,.slice am Ms.length cm),(1,.slice (some ⟨bF,0,none⟩) Ms.length Ms.length),(2,.slice (some ⟨bN,0,none⟩) Ms.length capN)]⟩) (fun p w=>kC Ms.length (cH es ts) (fun v=>gi need v<0) D (fun _=>True) p.1 p.2∧St H w (.blk b19 (iF es p.2.by_):: .blk b16 (Is p.2.cost)::σ)) (fun p=>2*WMv Ms.length D p.2+(if p.1 then 1 else 0)) (true,⟨C,List.replicate Ms.length ⟨0,0,0,-1⟩⟩) aR ⟨hV0,hs⟩ ?_
  rintro ⟨ag,s⟩ w ⟨hV,hs⟩
  dsimp only at hV hs ⊢
  refine .seq (.aj (.z zm (.nil ?_)))
  refine (.cond rfl (fun hc41=>?_) (fun hc41=>?_))
  ·refine .skip ?_
   refine nT ?_
   refine .block (.aj (.z zg (.nil (.aj (.z zm (.z (cB aq) (.z zm (.nil ?_))))))))
   refine .for (N:=Ms.length) (J:=fun a fr w=>∃ag s',fr=[(11,.bool ag),(8,.slice (some ⟨b16,0,none⟩) Ms.length Ms.length),(9,.slice (some ⟨b19,0,none⟩) Ms.length Ms.length),(0,.slice am Ms.length cm),(1,.slice (some ⟨bF,0,none⟩) Ms.length Ms.length),(2,.slice (some ⟨bN,0,none⟩) Ms.length capN)]∧kC Ms.length (cH es ts) (fun v=>gi need v<0) D (wk a 0) ag s'∧(WMv Ms.length D s'≤WMv Ms.length D s∧(ag=true→WMv Ms.length D s'<WMv Ms.length D s))∧St H w (.blk b19 (iF es s'.by_):: .blk b16 (Is s'.cost)::σ)) ak ?_ ?_ ?_
   ·exact .mk ⟨false,s,rfl,hV.next.zero,⟨Nat.le_refl _,fun h=>by cases h⟩,hs⟩
   ·rintro a fr w ha ⟨ag',s',rfl,hV',hW,hs⟩
    have hlc:=hV'.lc
    have htop:=hV'.top a ha
    refine .block (.aj (.z zm (.z zg (.nil (.seq (.aj (.z zm (.z zm ?_))))))))
    first|(refine .ixv hs ae ai ?_;intro b49 o49 hc49)|refine .z (zix ae ai) ?_
    first|refine .q hs (dG rfl af (hm:=by repeat (first|exact .here|assumption|exact Mem.row ak ak|refine .there ?_|refine Mem.iY ?_)) (hv:=by first|rfl|exact cO ak|exact fA cz ak ak|exact eQ eT)) ?_|refine .q hs (aJ rfl af cz) ?_
    refine .z fo (.nil ?_)
    refine (.bB rfl (fun hc51=>?_) (fun hc51=>?_))
    ·refine .exit ?_
     refine xT (xB (nT ?_))
     exact .mk ⟨ag',s',rfl,hV'.far hc51,hW,hs⟩
    ·refine .skip ?_
     refine nT ?_
     refine .aj (.z zm (.z (cB aq) (.z zm (.nil ?_))))
     refine .for (N:=Ms.length) (J:=fun b fr w=>∃ag s',fr=[(11,.bool ag),(12,I (a:Int)),(44,I (a:Int)),(43,I (Ms.length:Int)),(8,.slice (some ⟨b16,0,none⟩) Ms.length Ms.length),(9,.slice (some ⟨b19,0,none⟩) Ms.length Ms.length),(0,.slice am Ms.length cm),(1,.slice (some ⟨bF,0,none⟩) Ms.length Ms.length),(2,.slice (some ⟨bN,0,none⟩) Ms.length capN)]∧kC Ms.length (cH es ts) (fun v=>gi need v<0) D (wk a b) ag s'∧(WMv Ms.length D s'≤WMv Ms.length D s∧(ag=true→WMv Ms.length D s'<WMv Ms.length D s))∧gi s'.cost a<free∧St H w (.blk b19 (iF es s'.by_):: .blk b16 (Is s'.cost)::σ)) ak ?_ ?_ ?_
     ·exact .mk ⟨ag',s',rfl,hV',hW,by simp only [free];omega,hs⟩
     ·clear hV' hlc htop hW
      rintro b fr w hb ⟨ag',s',rfl,hV',hW,hfa,hs⟩
      have hlc:=hV'.lc
      have hlow:=hV'.low hg ha hfa
      have hlo:=hV'.lo a ha
      have hDa:=hD1 a ha
      have htop:=hV'.top b hb
      have hrowA:(gr Ms a).length=Ms.length:=hqM.2 a ha
      have hrowB:(gr Ms b).length=Ms.length:=hqM.2 b hb
      have hFb:=hF b hb
      refine .block (.aj (.z zm (.z zg (.nil ?_))))
      refine .cut (fun fs w=>∃ag s',kg fs ⟨160,[],[(11,.bool ag),(13,I (b:Int)),(54,I (b:Int)),(53,I (Ms.length:Int)),(12,I (a:Int)),(44,I (a:Int)),(43,I (Ms.length:Int)),(8,.slice (some ⟨b16,0,none⟩) Ms.length Ms.length),(9,.slice (some ⟨b19,0,none⟩) Ms.length Ms.length),(0,.slice am Ms.length cm),(1,.slice (some ⟨bF,0,none⟩) Ms.length Ms.length),(2,.slice (some ⟨bN,0,none⟩) Ms.length capN)]⟩∧kC Ms.length (cH es ts) (fun v=>gi need v<0) D (BE es a b) ag s'∧(WMv Ms.length D s'≤WMv Ms.length D s∧(ag=true→WMv Ms.length D s'<WMv Ms.length D s))∧gi s'.cost a<free∧St H w (.blk b19 (iF es s'.by_):: .blk b16 (Is s'.cost)::σ)) ?_ ?_
      ·refine .cut (fun fs w=>∃p,kg fs ⟨160,[],[(88,.bool p),(11,.bool ag'),(13,I (b:Int)),(54,I (b:Int)),(53,I (Ms.length:Int)),(12,I (a:Int)),(44,I (a:Int)),(43,I (Ms.length:Int)),(8,.slice (some ⟨b16,0,none⟩) Ms.length Ms.length),(9,.slice (some ⟨b19,0,none⟩) Ms.length Ms.length),(0,.slice am Ms.length cm),(1,.slice (some ⟨bF,0,none⟩) Ms.length Ms.length),(2,.slice (some ⟨bN,0,none⟩) Ms.length capN)]⟩∧(p=true→a≠b∧gt Ms a b≠free∧gi s'.cost a+gt Ms a b<gi s'.cost b)∧(p=false→a=b∨gt Ms a b=free∨¬gi s'.cost a+gt Ms a b<gi s'.cost b)∧St H w (.blk b19 (iF es s'.by_):: .blk b16 (Is s'.cost)::σ)) ?_ ?_
       ·refine .draw mix rfl hs fun w hs=>?_
        refine .z 0 rfl zm ?_;refine .z 1 rfl zm ?_;refine .z 2 rfl gx ?_;refine .z 3 rfl zm ?_
        refine .yf (t':=60) rfl (fun hb60=>?_) (fun hb60=>?_)
        ·refine .z 4 rfl zm ?_;refine .z 5 rfl zm ?_
         refine .ixT (i:=6) hs rfl au (.some rfl rfl) hM rfl rfl aq az ha rfl ?_;intro b63 o63 a63 c63 hc63 hR63
         refine .r (i:=7) hs rfl au (.some rfl rfl) (aJ rfl an hc63) ?_
         refine .z 8 rfl zm ?_
         refine .ixX (enc:=fun x=>[I x]) (i:=9) hs rfl au (.some rfl rfl) hR63 rfl rfl ae ai (bn (l:=_) (i:=b) ak) rfl ?_;intro b66 o66 hc66;replace hc66:=bu.one hc66
         refine .r (i:=10) hs rfl au (.some rfl rfl) (aJ rfl af hc66) ?_
         refine .z 11 rfl gx ?_;refine .z 12 rfl zpT ?_;refine .z 13 rfl zm ?_
         refine .yf (t':=70) rfl (fun hb70=>?_) (fun hb70=>?_)
         ·refine .z 14 rfl zm ?_;refine .z 15 rfl zm ?_
          have hfin:gt Ms a b≠free:=hb70
          have hMb: -1400000≤gi (gr Ms a) b∧gi (gr Ms a) b≤1400000:=by
           obtain ⟨x,hx,e1,e2⟩:=hT.all a b ha hb (fun e=>hb60 (by rw [e])) hfin
           have h1:=harc x hx
           have h2:=(hT.ok x hx).2.2.2.1
           rw [e1,e2] at h2
           change gi (gr Ms a) b=x.c at h2
           omega
          first|(refine .ixv 16 rfl hs ae ai ?_;intro b73 o73 hc73)|refine .z 16 rfl (zix ae ai) ?_
          first|refine .load (i:=17) hs rfl au (.some rfl rfl) rfl af ?_ (by repeat (first|exact .here|assumption|exact Mem.row ak ak|refine .there ?_|refine Mem.iY ?_)) (by first|rfl|exact cO ak|exact fA cz ak ak|exact eQ eT)|refine .r (i:=17) hs rfl au (.some rfl rfl) (aJ rfl af cz) ?_
          refine .z 18 rfl zm ?_;refine .z 19 rfl zm ?_
          refine .ixT (i:=20) hs rfl au (.some rfl rfl) hM rfl rfl aq az ha rfl ?_;intro b77 o77 a77 c77 hc77 hR77
          refine .r (i:=21) hs rfl au (.some rfl rfl) (aJ rfl an hc77) ?_
          refine .z 22 rfl zm ?_
          refine .ixX (enc:=fun x=>[I x]) (i:=23) hs rfl au (.some rfl rfl) hR77 rfl rfl ae ai (bn (l:=_) (i:=b) ak) rfl ?_;intro b80 o80 hc80;replace hc80:=bu.one hc80
          refine .r (i:=24) hs rfl au (.some rfl rfl) (aJ rfl af hc80) ?_
          refine .z 25 rfl ck ?_;refine .z 26 rfl zm ?_;refine .z 27 rfl zm ?_
          first|(refine .ixv 28 rfl hs ae ai ?_;intro b85 o85 hc85)|refine .z 28 rfl (zix ae ai) ?_
          first|refine .load (i:=29) hs rfl au (.some rfl rfl) rfl af ?_ (by repeat (first|exact .here|assumption|exact Mem.row ak ak|refine .there ?_|refine Mem.iY ?_)) (by first|rfl|exact cO ak|exact fA cz ak ak|exact eQ eT)|refine .r (i:=29) hs rfl au (.some rfl rfl) (aJ rfl af cz) ?_
          refine .z 30 rfl fH ?_;refine .z 31 rfl zpT ?_
          refine .DT hs ?_
          exact nT ⟨_,aR,by
           intro hp
           first
            |(cases hp;done)
            |exact ⟨fun e=>hb60 (by rw [e]),hb70,of_decide_eq_true hp⟩,by
           intro hp
           first
            |(cases hp;done)
            |exact .inl ak
            |exact .inr (.inl hb70)
            |exact .inr (.inr (of_decide_eq_false hp)),hs⟩
         ·refine .qF (i:=14) rfl au rfl rfl ?_
          refine .qF (i:=15) rfl au rfl rfl ?_
          refine .qF (i:=16) rfl au rfl rfl ?_
          refine .qF (i:=17) rfl au rfl rfl ?_
          refine .qF (i:=18) rfl au rfl rfl ?_
          refine .qF (i:=19) rfl au rfl rfl ?_
          refine .qF (i:=20) rfl au rfl rfl ?_
          refine .qF (i:=21) rfl au rfl rfl ?_
          refine .qF (i:=22) rfl au rfl rfl ?_
          refine .qF (i:=23) rfl au rfl rfl ?_
          refine .qF (i:=24) rfl au rfl rfl ?_
          refine .qF (i:=25) rfl au rfl rfl ?_
          refine .qF (i:=26) rfl au rfl rfl ?_
          refine .qF (i:=27) rfl au rfl rfl ?_
          refine .qF (i:=28) rfl au rfl rfl ?_
          refine .qF (i:=29) rfl au rfl rfl ?_
          refine .qF (i:=30) rfl au rfl rfl ?_
          refine .z 31 rfl zpF ?_
          refine .DT hs ?_
          exact nT ⟨_,aR,by
           intro hp
           first
            |(cases hp;done)
            |exact ⟨fun e=>hb60 (by rw [e]),hb70,of_decide_eq_true hp⟩,by
           intro hp
           first
            |(cases hp;done)
            |exact .inl ak
            |exact .inr (.inl hb70)
            |exact .inr (.inr (of_decide_eq_false hp)),hs⟩
        ·refine .qF (i:=4) rfl au rfl rfl ?_
         refine .qF (i:=5) rfl au rfl rfl ?_
         refine .qF (i:=6) rfl au rfl rfl ?_
         refine .qF (i:=7) rfl au rfl rfl ?_
         refine .qF (i:=8) rfl au rfl rfl ?_
         refine .qF (i:=9) rfl au rfl rfl ?_
         refine .qF (i:=10) rfl au rfl rfl ?_
         refine .qF (i:=11) rfl au rfl rfl ?_
         refine .z 12 rfl zpF ?_;refine .z 13 rfl zm ?_
         refine .qF (i:=14) rfl au rfl rfl ?_
         refine .qF (i:=15) rfl au rfl rfl ?_
         refine .qF (i:=16) rfl au rfl rfl ?_
         refine .qF (i:=17) rfl au rfl rfl ?_
         refine .qF (i:=18) rfl au rfl rfl ?_
         refine .qF (i:=19) rfl au rfl rfl ?_
         refine .qF (i:=20) rfl au rfl rfl ?_
         refine .qF (i:=21) rfl au rfl rfl ?_
         refine .qF (i:=22) rfl au rfl rfl ?_
         refine .qF (i:=23) rfl au rfl rfl ?_
         refine .qF (i:=24) rfl au rfl rfl ?_
         refine .qF (i:=25) rfl au rfl rfl ?_
         refine .qF (i:=26) rfl au rfl rfl ?_
         refine .qF (i:=27) rfl au rfl rfl ?_
         refine .qF (i:=28) rfl au rfl rfl ?_
         refine .qF (i:=29) rfl au rfl rfl ?_
         refine .qF (i:=30) rfl au rfl rfl ?_
         refine .z 31 rfl zpF ?_
         refine .DT hs ?_
         exact nT ⟨_,aR,by
          intro hp
          first
           |(cases hp;done)
           |exact ⟨fun e=>hb60 (by rw [e]),hb70,of_decide_eq_true hp⟩,by
          intro hp
          first
           |(cases hp;done)
           |exact .inl ak
           |exact .inr (.inl hb70)
           |exact .inr (.inr (of_decide_eq_false hp)),hs⟩
       ·rintro fs w ⟨p,hfs,hp1,hp2,hs⟩
        refine WE.sub ?_ hfs
        refine (.cond rfl (fun hc88=>?_) (fun hc88=>?_))
        ·refine .seq (.draw mix rfl hs fun w hs=>?_)
         obtain ⟨hab,hfin,hlt⟩:=hp1 hc88
         obtain ⟨x,hx,e1,e2⟩:=hT.all a b ha hb hab hfin
         have e3:gi (gr Ms a) b=x.c:=by
          have h2:=(hT.ok x hx).2.2.2.1
          rw [e1,e2] at h2;exact h2
         have hxc:=harc x hx
         have hxl:¬x.l<0:=by have:=(hT.at hx).2;omega
         have hstp:lA es x=[I (a:Int),.bool false]:=by
          unfold lA
          rw [if_neg hxl,e1]
          simp [(hT.qV hx).1]
         have hset:oy (iF es s'.by_) (b*2) [I (a:Int),Value.bool false]=iF es (s'.by_.set b x):=by rw [←hstp];exact vg (by have:=hV'.lb;omega) x
         have hsr:s'.rlx x=⟨s'.cost.set b (gi s'.cost a+gi (gr Ms a) b),s'.by_.set b x⟩:=by unfold BS.rlx;rw [e1,e2,e3]
         have hcan:s'.can x:=by unfold BS.can;rw [e1,e2,←e3];exact hlt
         have hxm:x∈cH es ts:=(lF hT hC).2 (.inl hx)
         have hlb:=hV'.lb
         refine .z 0 rfl zm ?_;refine .z 1 rfl zm ?_;refine .z 2 rfl zm ?_;refine .z 3 rfl zm ?_
         first|(refine .ixv 4 rfl hs ae ai ?_;intro b93 o93 hc93)|refine .z 4 rfl (zix ae ai) ?_
         first|refine .load (i:=5) hs rfl au .none rfl af ?_ (by repeat (first|exact .here|assumption|exact Mem.row ak ak|refine .there ?_|refine Mem.iY ?_)) (by first|rfl|exact cO ak|exact fA cz ak ak|exact eQ eT)|refine .r (i:=5) hs rfl au .none (aJ rfl af cz) ?_
         refine .z 6 rfl zm ?_;refine .z 7 rfl zm ?_
         refine .ixT (i:=8) hs rfl au .none hM rfl rfl aq az ha rfl ?_;intro b97 o97 a97 c97 hc97 hR97
         refine .r (i:=9) hs rfl au .none (aJ rfl an hc97) ?_
         refine .z 10 rfl zm ?_
         refine .ixX (enc:=fun x=>[I x]) (i:=11) hs rfl au .none hR97 rfl rfl ae ai (bn (l:=_) (i:=b) ak) rfl ?_;intro b100 o100 hc100;replace hc100:=bu.one hc100
         refine .r (i:=12) hs rfl au .none (aJ rfl af hc100) ?_
         refine .z 13 rfl ck ?_
         first|(refine .ixv 14 rfl hs ae ai ?_;intro b103 o103 hc103)|refine .z 14 rfl (zix ae ai) ?_
         refine .ET 15 hs ?_
         refine .store hs rfl rfl ai ?_;intro w hs
         refine .go ?_
         refine .DT hs ?_
         refine .aj (.z zm (.z zm (.z zm (.z (zbd [_,_] gJ) ?_))))
         first|(refine .ixw hs dq cU ?_;intro b108 o108 hc108)|refine .z (nQ dq cU) ?_
         refine .o (.aZ (vs:=[I (a:Int),Value.bool false]) hs rfl rfl cU ?_ cP (by rw [mi];simp<;>omega) hset);intro w hs
         refine .nil (.region (.z zg (.nil ?_)))
         refine nT ?_
         have hR:=hV'.tZ (Dn':=BE es a b) hg hxm (by rw [e1];exact hfa) hcan
         have hL:=hV'.less hg hxm (by rw [e1];exact hfa) hcan
         rw [hsr] at hR hL
         exact ⟨true,_,aR,hR,⟨ak,fun _=>by omega⟩,by dsimp only;rw [ed ak,if_neg hab];exact hfa,hs⟩
        ·refine .skip ?_
         refine nT ?_
         exact ⟨ag',s',aR,hV'.noF (fun x hx e1 e2 hc=>by
          obtain ⟨b1,b2,b3,b4,b5⟩:=hT.ok x hx
          rw [e1,e2] at b4
          rcases hp2 hc88 with h|h|h
          ·exact b3 (by rw [e1,e2,h])
          ·exact b5 (by rw [←b4,h])
          ·exact h (by rw [b4];exact hc.2)),hW,hfa,hs⟩
      ·clear hV' hW hlc hlow hlo htop hfa
       rintro fs w ⟨ag',s',hfs,hV',hW,hfa,hs⟩
       refine WE.sub ?_ hfs
       have hlc:=hV'.lc
       have hlow:=hV'.low hg ha hfa
       have hlo:=hV'.lo a ha
       have htop:=hV'.top b hb
       refine .cut (fun fs w=>∃p,kg fs ⟨160,[],[(135,.bool p),(11,.bool ag'),(13,I (b:Int)),(54,I (b:Int)),(53,I (Ms.length:Int)),(12,I (a:Int)),(44,I (a:Int)),(43,I (Ms.length:Int)),(8,.slice (some ⟨b16,0,none⟩) Ms.length Ms.length),(9,.slice (some ⟨b19,0,none⟩) Ms.length Ms.length),(0,.slice am Ms.length cm),(1,.slice (some ⟨bF,0,none⟩) Ms.length Ms.length),(2,.slice (some ⟨bN,0,none⟩) Ms.length capN)]⟩∧(p=true→0<gt Fs b a∧gi s'.cost a - gt Ms b a<gi s'.cost b)∧(p=false→¬0<gt Fs b a∨¬gi s'.cost a - gt Ms b a<gi s'.cost b)∧St H w (.blk b19 (iF es s'.by_):: .blk b16 (Is s'.cost)::σ)) ?_ ?_
       ·refine .draw mix rfl hs fun w hs=>?_
        refine .z 0 rfl zm ?_;refine .z 1 rfl zm ?_
        refine .z 2 rfl (dH (k:=b) rfl rfl aq az rfl hb) ?_
        refine .load (i:=3) hs rfl au .none rfl an ?_ (.there (.there hF0)) (cO ak)
        refine .z 4 rfl zm ?_
        refine .z 5 rfl (dH (k:=a) rfl rfl ae ai rfl ha) ?_
        refine .load (i:=6) hs rfl au .none rfl af ?_ (.there (.there (hF b hb))) (fA hqF hb ha)
        refine .z 7 rfl kD ?_;refine .z 8 rfl zm ?_
        refine .iD (t':=117) rfl (fun hb117=>?_) (fun hb117=>?_)
        ·refine .z 9 rfl zm ?_;refine .z 10 rfl zm ?_
         have hMb: -1400000≤gi (gr Ms b) a∧gi (gr Ms b) a≤1400000:=by
          obtain ⟨x,hx,e1,e2⟩:=hC.pos hb ha hb117
          have h1:=harc x hx
          have h2:=(hT.ok x hx).2.2.2.1
          rw [e1,e2] at h2
          change gi (gr Ms b) a=x.c at h2
          omega
         first|(refine .ixv 11 rfl hs ae ai ?_;intro b120 o120 hc120)|refine .z 11 rfl (zix ae ai) ?_
         first|refine .load (i:=12) hs rfl au (.some rfl rfl) rfl af ?_ (by repeat (first|exact .here|assumption|exact Mem.row ak ak|refine .there ?_|refine Mem.iY ?_)) (by first|rfl|exact cO ak|exact fA cz ak ak|exact eQ eT)|refine .r (i:=12) hs rfl au (.some rfl rfl) (aJ rfl af cz) ?_
         refine .z 13 rfl zm ?_;refine .z 14 rfl zm ?_
         refine .ixT (i:=15) hs rfl au (.some rfl rfl) hM rfl rfl aq az hb rfl ?_;intro b124 o124 a124 c124 hc124 hR124
         refine .r (i:=16) hs rfl au (.some rfl rfl) (aJ rfl an hc124) ?_
         refine .z 17 rfl zm ?_
         refine .ixX (enc:=fun x=>[I x]) (i:=18) hs rfl au (.some rfl rfl) hR124 rfl rfl ae ai (bn (l:=_) (i:=a) ak) rfl ?_;intro b127 o127 hc127;replace hc127:=bu.one hc127
         refine .r (i:=19) hs rfl au (.some rfl rfl) (aJ rfl af hc127) ?_
         refine .z 20 rfl gL ?_;refine .z 21 rfl zm ?_;refine .z 22 rfl zm ?_
         first|(refine .ixv 23 rfl hs ae ai ?_;intro b132 o132 hc132)|refine .z 23 rfl (zix ae ai) ?_
         first|refine .load (i:=24) hs rfl au (.some rfl rfl) rfl af ?_ (by repeat (first|exact .here|assumption|exact Mem.row ak ak|refine .there ?_|refine Mem.iY ?_)) (by first|rfl|exact cO ak|exact fA cz ak ak|exact eQ eT)|refine .r (i:=24) hs rfl au (.some rfl rfl) (aJ rfl af cz) ?_
         refine .z 25 rfl fH ?_;refine .z 26 rfl zpT ?_
         refine .DT hs ?_
         exact nT ⟨_,aR,by
          intro hp
          first
           |(cases hp;done)
           |exact ⟨hb117,of_decide_eq_true hp⟩,by
          intro hp
          first
           |(cases hp;done)
           |exact .inl hb117
           |exact .inr (of_decide_eq_false hp),hs⟩
        ·refine .qF (i:=9) rfl au rfl rfl ?_
         refine .qF (i:=10) rfl au rfl rfl ?_
         refine .qF (i:=11) rfl au rfl rfl ?_
         refine .qF (i:=12) rfl au rfl rfl ?_
         refine .qF (i:=13) rfl au rfl rfl ?_
         refine .qF (i:=14) rfl au rfl rfl ?_
         refine .qF (i:=15) rfl au rfl rfl ?_
         refine .qF (i:=16) rfl au rfl rfl ?_
         refine .qF (i:=17) rfl au rfl rfl ?_
         refine .qF (i:=18) rfl au rfl rfl ?_
         refine .qF (i:=19) rfl au rfl rfl ?_
         refine .qF (i:=20) rfl au rfl rfl ?_
         refine .qF (i:=21) rfl au rfl rfl ?_
         refine .qF (i:=22) rfl au rfl rfl ?_
         refine .qF (i:=23) rfl au rfl rfl ?_
         refine .qF (i:=24) rfl au rfl rfl ?_
         refine .qF (i:=25) rfl au rfl rfl ?_
         refine .z 26 rfl zpF ?_
         refine .DT hs ?_
         exact nT ⟨_,aR,by
          intro hp
          first
           |(cases hp;done)
           |exact ⟨hb117,of_decide_eq_true hp⟩,by
          intro hp
          first
           |(cases hp;done)
           |exact .inl hb117
           |exact .inr (of_decide_eq_false hp),hs⟩
       ·rintro fs w ⟨p,hfs,hp1,hp2,hs⟩
        refine WE.sub ?_ hfs
        refine (.cond rfl (fun hc135=>?_) (fun hc135=>?_))
        ·refine .seq (.draw mix rfl hs fun w hs=>?_)
         obtain ⟨hpos,hlt⟩:=hp1 hc135
         obtain ⟨x,hx,e1,e2⟩:=hC.pos hb ha hpos
         have e3:gi (gr Ms b) a=x.c:=by
          have h2:=(hT.ok x hx).2.2.2.1
          rw [e1,e2] at h2;exact h2
         have hxc:=harc x hx
         have hab:a≠b:=fun e=>(hT.ok x hx).2.2.1 (by rw [e1,e2,e])
         have hxl:¬x.back.l<0:=by have:=(hT.at hx).2;show ¬x.l<0;omega
         have e4:x.back.f=a:=e2
         have e5:x.back.t=b:=e1
         have hstp:lA es x.back=[I (a:Int),.bool true]:=by
          unfold lA
          rw [if_neg hxl,e4]
          simp [(hT.qV hx).2]
         have hset:oy (iF es s'.by_) (b*2) [I (a:Int),Value.bool true]=iF es (s'.by_.set b x.back):=by rw [←hstp];exact vg (by have:=hV'.lb;omega) x.back
         have hsr:s'.rlx x.back=⟨s'.cost.set b (gi s'.cost a - gi (gr Ms b) a),s'.by_.set b x.back⟩:=by
          unfold BS.rlx
          rw [e4,e5,e3];rfl
         have hcan:s'.can x.back:=by
          unfold BS.can
          rw [e4,e5]
          show gi s'.cost a+ -x.c<_
          rw [←e3]
          exact hlt
         have hxm:x.back∈cH es ts:=(lF hT hC).2 (.inr ⟨x,hx,by rw [e1,e2];exact hpos,rfl⟩)
         have hlb:=hV'.lb
         refine .z 0 rfl zm ?_;refine .z 1 rfl zm ?_;refine .z 2 rfl zm ?_;refine .z 3 rfl zm ?_
         first|(refine .ixv 4 rfl hs ae ai ?_;intro b140 o140 hc140)|refine .z 4 rfl (zix ae ai) ?_
         first|refine .load (i:=5) hs rfl au .none rfl af ?_ (by repeat (first|exact .here|assumption|exact Mem.row ak ak|refine .there ?_|refine Mem.iY ?_)) (by first|rfl|exact cO ak|exact fA cz ak ak|exact eQ eT)|refine .r (i:=5) hs rfl au .none (aJ rfl af cz) ?_
         refine .z 6 rfl zm ?_;refine .z 7 rfl zm ?_
         refine .ixT (i:=8) hs rfl au .none hM rfl rfl aq az hb rfl ?_;intro b144 o144 a144 c144 hc144 hR144
         refine .r (i:=9) hs rfl au .none (aJ rfl an hc144) ?_
         refine .z 10 rfl zm ?_
         refine .ixX (enc:=fun x=>[I x]) (i:=11) hs rfl au .none hR144 rfl rfl ae ai (bn (l:=_) (i:=a) ak) rfl ?_;intro b147 o147 hc147;replace hc147:=bu.one hc147
         refine .r (i:=12) hs rfl au .none (aJ rfl af hc147) ?_
         refine .z 13 rfl gL ?_
         first|(refine .ixv 14 rfl hs ae ai ?_;intro b150 o150 hc150)|refine .z 14 rfl (zix ae ai) ?_
         refine .ET 15 hs ?_
         refine .store hs rfl rfl ai ?_;intro w hs
         refine .go ?_
         refine .DT hs ?_
         refine .aj (.z zm (.z zm (.z zm (.z (zbd [_,_] gJ) ?_))))
         first|(refine .ixw hs dq cU ?_;intro b155 o155 hc155)|refine .z (nQ dq cU) ?_
         refine .o (.aZ (vs:=[I (a:Int),Value.bool true]) hs rfl rfl cU ?_ cP (by rw [mi];simp<;>omega) hset);intro w hs
         refine .nil (.region (.z zg (.nil ?_)))
         refine nB (nT ?_)
         have hR:=hV'.tZ (Dn':=wk a (b+1)) hg hxm (by rw [e4];exact hfa) hcan
         have hL:=hV'.less hg hxm (by rw [e4];exact hfa) hcan
         rw [hsr] at hR hL
         exact .mk ⟨true,_,rfl,hR,⟨ak,fun _=>by omega⟩,by dsimp only;rw [ed ak,if_neg hab];exact hfa,hs⟩
        ·refine .skip ?_
         refine nB (nT ?_)
         exact .mk ⟨ag',s',rfl,hV'.noB hT hC (fun x hx e1 e2 hpos hc=>by
          have h2:=(hT.ok x hx).2.2.2.1
          rw [e1,e2] at h2
          rcases hp2 hc135 with h|h
          ·exact h hpos
          ·exact h (by rw [h2];exact hc.2)),hW,hfa,hs⟩
     ·rintro fr w ⟨ag',s',rfl,hV',hW,-,hs⟩
      refine nB (nT ?_)
      exact .mk ⟨ag',s',rfl,hV'.row hg,hW,hs⟩
   ·rintro fr w ⟨ag',s',rfl,hV',hW,hs⟩
    refine nB (nT ?_)
    exact ⟨(ag',s'),aR,⟨hV'.all hg,hs⟩,by
     subst hc41
     dsimp only
     cases ag' with
     |true=>have:=hW.2 rfl;simp only [if_true];omega
     |false=>have:=hW.1;simp;omega⟩
  ·refine .exit ?_
   refine xT (xT (xB (nT ?_)))
   refine .aj (.z zm (.z zm (.z zg (.z zg (.nil ?_)))))
   refine .ret (Fin.lq Tryz.results292 rfl rfl ?_)
   subst hc41
   obtain ⟨H2,g1,g2,hs⟩:=cf.cq (m:=2) (v:= .slice (some ⟨b19,0,none⟩) Ms.length Ms.length) (cs:=s.by_.map (lA es)) (en:= .blk b19 (iF es s.by_)) (.full (by show (iF es s.by_).length=_;rw [mi,hV.lb])) (fun c hc=>by simp only [List.mem_map] at hc;obtain ⟨x,_,rfl⟩:=hc;exact rj es x) ak (by rw [List.length_map,hV.lb];omega) hs .here
   obtain ⟨H3,g3,g4,hs⟩:=cf.de (v:= .slice (some ⟨b16,0,none⟩) Ms.length Ms.length) (xs:=s.cost) (.full (by simp [hV.lc])) (by rw [hV.lc];omega) hs .here
   exact ⟨H3,_,_,s,g1.trans g3,rfl,g4,RS.mono g2 g3,hV,hs⟩
set_option maxHeartbeats 8000000 in
theorem rQ{vm vw:Value}{Ms:List (List Int)}{ws:List Int}{n:Nat}{es:List Arc}(hs:St H w σ)(hM:RT H vm Ms)(hqM:Sq (n+1) Ms)(hw:RI H vw ws)(hl:ws.length=n+1)(hn:n+1≤65)(hz:bG ws (n+1)≤FF)
  (hT:Tab (n+1) (gt Ms) es) (hfe:∃p,gp es p) (hcb:∀x∈es,-1400000≤x.c∧x.c≤1400000) (hbd:∀m,we es (mF ws (n+1)) (n+1) m→-BB≤m∧m≤BB):
  Cl Tryz.prog 272 [vm,vw] w fun u w'=>∃H1 v b,HLe H H1∧u= .tuple #[I v,.bool b]∧((b=true∧we es (mF ws (n+1)) (n+1) v)∨(b=false∧lZ es (mF ws (n+1)) (n+1)))∧St H1 w' σ:=by
 obtain ⟨am,cm,rfl⟩:=hM.shape
 have hml:Ms.length=n+1:=hqM.1
 rw [hml] at hM ⊢
 have hnum:=hT.Ew
 have hC0:C9 es (n+1):=fun x hx=>by
  have h1:=hT.ok x hx
  have h2:=(hT.at hx).2
  have h3:=hcb x hx
  exact ⟨h1.1,h1.2.1,h3.1,h3.2,ak,h1.2.2.1⟩
 have hin:∀x∈es,x.f<n+1∧x.t<n+1:=fun x hx=>by have:=hC0 x hx;omega
 have hw0:=Ak ws (n:=n+1) ak
 have hFF:FF=3600000000000:=rfl
 have hBB:BB=4608000000000000000:=rfl
 have hfree:free=1000000000:=rfl
 refine Cl.o Tryz.func272 Tryz.ntmps272 ag2 ?_
 refine .aj (.z zg (.z zg (.nil (.aj (.z zm ?_)))))
 refine .o (.call Tryz.call291 rfl (pJ hs hw hl ak hz) ?_);rintro _ w ⟨b21,cap,sp,lf0,rfl,hlf1,hlf2,hs⟩
 refine .z zg (.nil (.aj (.z zm (.z (cB aq) ?_))))
 refine .o (.DY (n+1) hs rfl rfl aq Tryz.typeInfo22 rfl az dV ak fun b24 w hs=>?_)
 refine .z zg (.nil (.seq (.aj (.z zm (.z (cB aq) (.z zm (.nil ?_)))))))
 refine .for (N:=n+1) (J:=fun k fr w=>fr=[(7,.slice (some ⟨b24,0,none⟩) (n+1) (n+1)),(0,.slice am (n+1) cm),(6,.slice (some ⟨b21,0,none⟩) (n+1) cap)]∧∃bs:List Nat,bs.length=k∧St H w (.blk b24 (bs.map (ptr (n+1))++List.replicate (n+1 - k) (.slice none 0 0))::(iI bs (xD (fun _ _=>0) (n+1) k)++(.blk b21 (Is lf0++sp)::σ)))) ak ?_ ?_ ?_
 ·exact .mk ⟨rfl,[],rfl,hs⟩
 ·rintro k fr w hk ⟨rfl,bs,hbl,hs⟩
  refine .block (.aj (.z zm (.z zg (.nil (.region (.z zm (.z zm (.z zm (.z (cB aq) ?_)))))))))
  refine .o (.pZ (n+1) hs rfl rfl ae dS rfl ai bJ ak fun b34 w hs=>?_)
  first|(refine .ixw hs aq az ?_;intro b35 o35 hc35)|refine .z (zix aq az) ?_
  refine .o (.store hs rfl rfl az ?_ cP (by simp [hbl];omega) (AU hbl hk));intro w hs
  refine .nil ?_
  refine nB (nT ?_)
  rw [s7 (fun _=>0) (n+1) 0 (fun _ _=>rfl)] at hs
  replace hs:=hs.EJ (by rw [hbl,sJ])
  rw [←wC (fun _ _=>0)] at hs
  exact .mk ⟨rfl,bs++[b34],by simp [hbl],hs⟩
 ·rintro fr w ⟨rfl,bs,hbl,hs⟩
  rw [Nat.sub_self,List.replicate_zero,List.append_nil] at hs
  have hq0:=Av (fun _ _=>0) (n+1)
  have hc0:tV (n+1) es (List.replicate es.length 0) (gt (xD (fun _ _=>0) (n+1) (n+1))):=by
   have h:=tV.zero (n+1) hT
   exact ⟨h.len,fun x hx=>by rw [h.arc x hx,xC _ (hin x hx).1 (hin x hx).2],fun a b ha hb _=>xC _ ha hb⟩
  have hF0:=ui.start (es:=es) hz hlf1 hlf2 hfe
  refine nT ?_
  refine .block ?_
  refine .loop (fun _:List (List Int)×List Int×List Int=>⟨183,[],[(7,.slice (some ⟨b24,0,none⟩) (n+1) (n+1)),(0,.slice am (n+1) cm),(6,.slice (some ⟨b21,0,none⟩) (n+1) cap)]⟩) (fun p w=>(Sq (n+1) p.1∧tV (n+1) es p.2.1 (gt p.1)∧ui (n+1) es (mF ws (n+1)) p.2.1 p.2.2)∧∃H1,HLe H H1∧St H1 w (.blk b24 (bs.map (ptr (n+1)))::(iI bs p.1++(.blk b21 (Is p.2.2++sp)::σ)))) (fun p=>(rem (n+1) p.2.2).toNat) (xD (fun _ _=>0) (n+1) (n+1),List.replicate es.length 0,lf0) aR ⟨⟨hq0,hc0,hF0⟩,H,HLe.refl H,hs⟩ ?_
  clear hq0 hc0 hF0 hlf1 hlf2 hs
  rintro ⟨Fs,ts,lf⟩ w ⟨⟨hqF,hC,hI⟩,H1,hle1,hs⟩
  dsimp only at hqF hC hI hs ⊢
  obtain ⟨D,hg⟩:=yx ak hn hC0 hI.lt.symm hI.fe
  have hfl:=hqF.1
  have hll:=hI.ll
  refine .block (.aj (.z zm (.z zm (.z zm ?_))))
  refine .o (.call Tryz.call292 rfl (rN (need:=lf) (spN:=sp) hs (hM.mono hle1) hqM .here hbl hqF (fun i hi=> .there (Mem.row ak ak)) (.there (Mem.iY .here)) hll hT hC hg) ?_);rintro _ w ⟨H2,vd,vb,s,hle2,rfl,hRd,hRb,hV,hs⟩
  obtain ⟨ad,cd,rfl⟩:=RI.shape hRd
  obtain ⟨ab,cb,eb⟩:=hRb.shape
  rw [List.length_map] at eb
  subst eb
  have hlc:=hV.lc
  have hlb:=hV.lb
  have hle02:=hle1.trans hle2
  refine .z zm (.z zex (.z zex (.z zg (.z zg (.nil (.aj (.z zg (.nil (.aj ?_)))))))))
  refine .z zg (.nil (.seq (.aj (.z zm (.z (cB ae) (.z zm (.nil ?_)))))))
  refine .for (N:=n+1) (J:=fun k fr w=>∃to left,fr=[(11,I to),(12,.bool left),(44,.slice (some ⟨b21,0,none⟩) (n+1) cap),(7,.slice (some ⟨b24,0,none⟩) (n+1) (n+1)),(0,.slice am (n+1) cm),(6,.slice (some ⟨b21,0,none⟩) (n+1) cap),(9,.slice ad s.cost.length cd),(10,.slice ab s.by_.length cb)]∧Scan lf s.cost k to left∧St H2 w (.blk b24 (bs.map (ptr (n+1)))::(iI bs Fs++(.blk b21 (Is lf++sp)::σ)))) ak ?_ ?_ ?_
  ·exact .mk ⟨-1,false,rfl,.start lf s.cost,hs⟩
  ·rintro k fr w hk ⟨to,left,rfl,hSc,hs⟩
   have hto:=hSc.lo
   have hto2:=hSc.som
   have hcap:k<n+1:=hk
   refine .block (.aj (.z zm ?_))
   refine .q hs (dH (k:=k) rfl rfl ae ai rfl hk) ?_
   refine .q hs (dG rfl af (hm:= .there (Mem.iY .here)) (hv:=nD (bn (l:=lf) (i:=k) ak) sp)) ?_
   refine .z zg (.z zg (.nil (.aj (.z zm (.z zm ?_)))))
   refine .bif (t':=52) rfl (fun hb52=>?_) (fun hb52=>?_)
   ·refine .gFs 2 1 false rfl rfl rfl ?_
    refine .z zpT (.z zg (.nil ?_))
    refine WE.sub (t:=⟨183,[],[(12,.bool (left||decide (0<gi lf k))),(13,I (k:Int)),(14,I (gi lf k)),(11,I to),(46,I (k:Int)),(45,I ((n+1:Nat):Int)),(44,.slice (some ⟨b21,0,none⟩) (n+1) cap),(7,.slice (some ⟨b24,0,none⟩) (n+1) (n+1)),(0,.slice am (n+1) cm),(6,.slice (some ⟨b21,0,none⟩) (n+1) cap),(9,.slice ad s.cost.length cd),(10,.slice ab s.by_.length cb)]⟩) ?_ (by first|exact .Fk rfl (by simp_all) aR|repeat (first|exact .nil rfl rfl|refine .cons rfl ?_))
    refine .cut (fun fs w=>∃p,kg fs ⟨183,[],[(79,.bool p),(12,.bool (left||decide (0<gi lf k))),(13,I (k:Int)),(11,I to),(46,I (k:Int)),(45,I ((n+1:Nat):Int)),(44,.slice (some ⟨b21,0,none⟩) (n+1) cap),(7,.slice (some ⟨b24,0,none⟩) (n+1) (n+1)),(0,.slice am (n+1) cm),(6,.slice (some ⟨b21,0,none⟩) (n+1) cap),(9,.slice ad s.cost.length cd),(10,.slice ab s.by_.length cb)]⟩∧(p=true→0<gi lf k∧gi s.cost k≠free)∧(p=false→¬0<gi lf k∨gi s.cost k=free∨0≤to)∧St H2 w (.blk b24 (bs.map (ptr (n+1)))::(iI bs Fs++(.blk b21 (Is lf++sp)::σ)))) ?_ ?_
    ·refine .draw mix rfl hs fun w hs=>?_
     refine .z 0 rfl zm ?_;refine .z 1 rfl kD ?_;refine .z 2 rfl zm ?_
     refine .iD (t':=58) rfl (fun hb58=>?_) (fun hb58=>?_)
     ·refine .z 3 rfl zm ?_;refine .z 4 rfl zm ?_
      refine .ixX (enc:=fun x=>[I x]) (i:=5) hs rfl au (.some rfl rfl) hRd rfl rfl ae ai (bn (l:=s.cost) (i:=k) ak) rfl ?_;intro b61 o61 hc61;replace hc61:=bu.one hc61
      refine .r (i:=6) hs rfl au (.some rfl rfl) (aJ rfl af hc61) ?_
      refine .z 7 rfl gx ?_;refine .z 8 rfl zpT ?_;refine .z 9 rfl zm ?_
      refine .yf (t':=65) rfl (fun hb65=>?_) (fun hb65=>?_)
      ·refine .z 10 rfl zm ?_;refine .z 11 rfl fH ?_;refine .z 12 rfl zm ?_
       refine .iD (t':=68) rfl (fun hb68=>?_) (fun hb68=>?_)
       ·refine .qF (i:=13) rfl au rfl rfl ?_
        refine .qF (i:=14) rfl au rfl rfl ?_
        refine .qF (i:=15) rfl au rfl rfl ?_
        refine .qF (i:=16) rfl au rfl rfl ?_
        refine .qF (i:=17) rfl au rfl rfl ?_
        refine .qF (i:=18) rfl au rfl rfl ?_
        refine .qF (i:=19) rfl au rfl rfl ?_
        refine .qF (i:=20) rfl au rfl rfl ?_
        refine .qF (i:=21) rfl au rfl rfl ?_
        refine .z 22 rfl zpT ?_;refine .z 23 rfl zpT ?_
        refine .DT hs ?_
        exact nT ⟨_,aR,by
         intro hp
         first
          |(cases hp;done)
          |exact ⟨by assumption,by assumption⟩,by
         intro hp
         first
          |(cases hp;done)
          |exact .inl cz
          |exact .inr (.inl eT)
          |exact .inr (.inr ak),hs⟩
       ·refine .z 13 rfl zm ?_;refine .z 14 rfl zm ?_
        refine .ixX (enc:=fun x=>[I x]) (i:=15) hs rfl au (.some rfl rfl) hRd rfl rfl ae ai (bn (l:=s.cost) (i:=k) ak) rfl ?_;intro b71 o71 hc71;replace hc71:=bu.one hc71
        refine .r (i:=16) hs rfl au (.some rfl rfl) (aJ rfl af hc71) ?_
        refine .z 17 rfl zm ?_;refine .z 18 rfl zm ?_
        refine .ixX (enc:=fun x=>[I x]) (i:=19) hs rfl au (.some rfl rfl) hRd rfl rfl ae ai (bn (l:=s.cost) (i:=to.toNat) ak) ak ?_;intro b75 o75 hc75;replace hc75:=bu.one hc75
        refine .r (i:=20) hs rfl au (.some rfl rfl) (aJ rfl af hc75) ?_
        refine .z 21 rfl fH ?_;refine .z 22 rfl zpF ?_;refine .z 23 rfl zpT ?_
        refine .DT hs ?_
        exact nT ⟨_,aR,by
         intro hp
         first
          |(cases hp;done)
          |exact ⟨by assumption,by assumption⟩,by
         intro hp
         first
          |(cases hp;done)
          |exact .inl cz
          |exact .inr (.inl eT)
          |exact .inr (.inr ak),hs⟩
      ·refine .qF (i:=10) rfl au rfl rfl ?_
       refine .qF (i:=11) rfl au rfl rfl ?_
       refine .qF (i:=12) rfl au rfl rfl ?_
       refine .qF (i:=13) rfl au rfl rfl ?_
       refine .qF (i:=14) rfl au rfl rfl ?_
       refine .qF (i:=15) rfl au rfl rfl ?_
       refine .qF (i:=16) rfl au rfl rfl ?_
       refine .qF (i:=17) rfl au rfl rfl ?_
       refine .qF (i:=18) rfl au rfl rfl ?_
       refine .qF (i:=19) rfl au rfl rfl ?_
       refine .qF (i:=20) rfl au rfl rfl ?_
       refine .qF (i:=21) rfl au rfl rfl ?_
       refine .qF (i:=22) rfl au rfl rfl ?_
       refine .z 23 rfl zpF ?_
       refine .DT hs ?_
       exact nT ⟨_,aR,by
        intro hp
        first
         |(cases hp;done)
         |exact ⟨by assumption,by assumption⟩,by
        intro hp
        first
         |(cases hp;done)
         |exact .inl cz
         |exact .inr (.inl eT)
         |exact .inr (.inr ak),hs⟩
     ·refine .qF (i:=3) rfl au rfl rfl ?_
      refine .qF (i:=4) rfl au rfl rfl ?_
      refine .qF (i:=5) rfl au rfl rfl ?_
      refine .qF (i:=6) rfl au rfl rfl ?_
      refine .qF (i:=7) rfl au rfl rfl ?_
      refine .z 8 rfl zpF ?_;refine .z 9 rfl zm ?_
      refine .qF (i:=10) rfl au rfl rfl ?_
      refine .qF (i:=11) rfl au rfl rfl ?_
      refine .qF (i:=12) rfl au rfl rfl ?_
      refine .qF (i:=13) rfl au rfl rfl ?_
      refine .qF (i:=14) rfl au rfl rfl ?_
      refine .qF (i:=15) rfl au rfl rfl ?_
      refine .qF (i:=16) rfl au rfl rfl ?_
      refine .qF (i:=17) rfl au rfl rfl ?_
      refine .qF (i:=18) rfl au rfl rfl ?_
      refine .qF (i:=19) rfl au rfl rfl ?_
      refine .qF (i:=20) rfl au rfl rfl ?_
      refine .qF (i:=21) rfl au rfl rfl ?_
      refine .qF (i:=22) rfl au rfl rfl ?_
      refine .z 23 rfl zpF ?_
      refine .DT hs ?_
      exact nT ⟨_,aR,by
       intro hp
       first
        |(cases hp;done)
        |exact ⟨by assumption,by assumption⟩,by
       intro hp
       first
        |(cases hp;done)
        |exact .inl cz
        |exact .inr (.inl eT)
        |exact .inr (.inr ak),hs⟩
    ·rintro fs w ⟨p,hfs,hp1,hp2,hs⟩
     refine WE.sub ?_ hfs
     refine (.cond rfl (fun hc79=>?_) (fun hc79=>?_))
     ·refine .region (.z zm (.z zg (.nil ?_)))
      refine nB (nT ?_)
      obtain ⟨g1,g2⟩:=hp1 hc79
      exact .mk ⟨(k:Int),_,rfl,hSc.take g1 g2,hs⟩
     ·refine .skip ?_
      refine nB (nT ?_)
      exact .mk ⟨to,_,rfl,hSc.skip (hp2 hc79),hs⟩
   ·refine .gT rfl rfl ?_
    refine .z zm ?_
    refine .gT rfl rfl ?_
    refine .z kD (.z zpF (.z zg (.nil ?_)))
    refine WE.sub (t:=⟨183,[],[(12,.bool (left||decide (0<gi lf k))),(13,I (k:Int)),(14,I (gi lf k)),(11,I to),(46,I (k:Int)),(45,I ((n+1:Nat):Int)),(44,.slice (some ⟨b21,0,none⟩) (n+1) cap),(7,.slice (some ⟨b24,0,none⟩) (n+1) (n+1)),(0,.slice am (n+1) cm),(6,.slice (some ⟨b21,0,none⟩) (n+1) cap),(9,.slice ad s.cost.length cd),(10,.slice ab s.by_.length cb)]⟩) ?_ (by first|exact .Fk rfl (by simp_all) aR|repeat (first|exact .nil rfl rfl|refine .cons rfl ?_))
    refine .cut (fun fs w=>∃p,kg fs ⟨183,[],[(79,.bool p),(12,.bool (left||decide (0<gi lf k))),(13,I (k:Int)),(11,I to),(46,I (k:Int)),(45,I ((n+1:Nat):Int)),(44,.slice (some ⟨b21,0,none⟩) (n+1) cap),(7,.slice (some ⟨b24,0,none⟩) (n+1) (n+1)),(0,.slice am (n+1) cm),(6,.slice (some ⟨b21,0,none⟩) (n+1) cap),(9,.slice ad s.cost.length cd),(10,.slice ab s.by_.length cb)]⟩∧(p=true→0<gi lf k∧gi s.cost k≠free)∧(p=false→¬0<gi lf k∨gi s.cost k=free∨0≤to)∧St H2 w (.blk b24 (bs.map (ptr (n+1)))::(iI bs Fs++(.blk b21 (Is lf++sp)::σ)))) ?_ ?_
    ·refine .draw mix rfl hs fun w hs=>?_
     refine .z 0 rfl zm ?_;refine .z 1 rfl kD ?_;refine .z 2 rfl zm ?_
     refine .iD (t':=58) rfl (fun hb58=>?_) (fun hb58=>?_)
     ·refine .z 3 rfl zm ?_;refine .z 4 rfl zm ?_
      refine .ixX (enc:=fun x=>[I x]) (i:=5) hs rfl au (.some rfl rfl) hRd rfl rfl ae ai (bn (l:=s.cost) (i:=k) ak) rfl ?_;intro b61 o61 hc61;replace hc61:=bu.one hc61
      refine .r (i:=6) hs rfl au (.some rfl rfl) (aJ rfl af hc61) ?_
      refine .z 7 rfl gx ?_;refine .z 8 rfl zpT ?_;refine .z 9 rfl zm ?_
      refine .yf (t':=65) rfl (fun hb65=>?_) (fun hb65=>?_)
      ·refine .z 10 rfl zm ?_;refine .z 11 rfl fH ?_;refine .z 12 rfl zm ?_
       refine .iD (t':=68) rfl (fun hb68=>?_) (fun hb68=>?_)
       ·refine .qF (i:=13) rfl au rfl rfl ?_
        refine .qF (i:=14) rfl au rfl rfl ?_
        refine .qF (i:=15) rfl au rfl rfl ?_
        refine .qF (i:=16) rfl au rfl rfl ?_
        refine .qF (i:=17) rfl au rfl rfl ?_
        refine .qF (i:=18) rfl au rfl rfl ?_
        refine .qF (i:=19) rfl au rfl rfl ?_
        refine .qF (i:=20) rfl au rfl rfl ?_
        refine .qF (i:=21) rfl au rfl rfl ?_
        refine .z 22 rfl zpT ?_;refine .z 23 rfl zpT ?_
        refine .DT hs ?_
        exact nT ⟨_,aR,by
         intro hp
         first
          |(cases hp;done)
          |exact ⟨by assumption,by assumption⟩,by
         intro hp
         first
          |(cases hp;done)
          |exact .inl cz
          |exact .inr (.inl eT)
          |exact .inr (.inr ak),hs⟩
       ·refine .z 13 rfl zm ?_;refine .z 14 rfl zm ?_
        refine .ixX (enc:=fun x=>[I x]) (i:=15) hs rfl au (.some rfl rfl) hRd rfl rfl ae ai (bn (l:=s.cost) (i:=k) ak) rfl ?_;intro b71 o71 hc71;replace hc71:=bu.one hc71
        refine .r (i:=16) hs rfl au (.some rfl rfl) (aJ rfl af hc71) ?_
        refine .z 17 rfl zm ?_;refine .z 18 rfl zm ?_
        refine .ixX (enc:=fun x=>[I x]) (i:=19) hs rfl au (.some rfl rfl) hRd rfl rfl ae ai (bn (l:=s.cost) (i:=to.toNat) ak) ak ?_;intro b75 o75 hc75;replace hc75:=bu.one hc75
        refine .r (i:=20) hs rfl au (.some rfl rfl) (aJ rfl af hc75) ?_
        refine .z 21 rfl fH ?_;refine .z 22 rfl zpF ?_;refine .z 23 rfl zpT ?_
        refine .DT hs ?_
        exact nT ⟨_,aR,by
         intro hp
         first
          |(cases hp;done)
          |exact ⟨by assumption,by assumption⟩,by
         intro hp
         first
          |(cases hp;done)
          |exact .inl cz
          |exact .inr (.inl eT)
          |exact .inr (.inr ak),hs⟩
      ·refine .qF (i:=10) rfl au rfl rfl ?_
       refine .qF (i:=11) rfl au rfl rfl ?_
       refine .qF (i:=12) rfl au rfl rfl ?_
       refine .qF (i:=13) rfl au rfl rfl ?_
       refine .qF (i:=14) rfl au rfl rfl ?_
       refine .qF (i:=15) rfl au rfl rfl ?_
       refine .qF (i:=16) rfl au rfl rfl ?_
       refine .qF (i:=17) rfl au rfl rfl ?_
       refine .qF (i:=18) rfl au rfl rfl ?_
       refine .qF (i:=19) rfl au rfl rfl ?_
       refine .qF (i:=20) rfl au rfl rfl ?_
       refine .qF (i:=21) rfl au rfl rfl ?_
       refine .qF (i:=22) rfl au rfl rfl ?_
       refine .z 23 rfl zpF ?_
       refine .DT hs ?_
       exact nT ⟨_,aR,by
        intro hp
        first
         |(cases hp;done)
         |exact ⟨by assumption,by assumption⟩,by
        intro hp
        first
         |(cases hp;done)
         |exact .inl cz
         |exact .inr (.inl eT)
         |exact .inr (.inr ak),hs⟩
     ·refine .qF (i:=3) rfl au rfl rfl ?_
      refine .qF (i:=4) rfl au rfl rfl ?_
      refine .qF (i:=5) rfl au rfl rfl ?_
      refine .qF (i:=6) rfl au rfl rfl ?_
      refine .qF (i:=7) rfl au rfl rfl ?_
      refine .z 8 rfl zpF ?_;refine .z 9 rfl zm ?_
      refine .qF (i:=10) rfl au rfl rfl ?_
      refine .qF (i:=11) rfl au rfl rfl ?_
      refine .qF (i:=12) rfl au rfl rfl ?_
      refine .qF (i:=13) rfl au rfl rfl ?_
      refine .qF (i:=14) rfl au rfl rfl ?_
      refine .qF (i:=15) rfl au rfl rfl ?_
      refine .qF (i:=16) rfl au rfl rfl ?_
      refine .qF (i:=17) rfl au rfl rfl ?_
      refine .qF (i:=18) rfl au rfl rfl ?_
      refine .qF (i:=19) rfl au rfl rfl ?_
      refine .qF (i:=20) rfl au rfl rfl ?_
      refine .qF (i:=21) rfl au rfl rfl ?_
      refine .qF (i:=22) rfl au rfl rfl ?_
      refine .z 23 rfl zpF ?_
      refine .DT hs ?_
      exact nT ⟨_,aR,by
       intro hp
       first
        |(cases hp;done)
        |exact ⟨by assumption,by assumption⟩,by
       intro hp
       first
        |(cases hp;done)
        |exact .inl cz
        |exact .inr (.inl eT)
        |exact .inr (.inr ak),hs⟩
    ·rintro fs w ⟨p,hfs,hp1,hp2,hs⟩
     refine WE.sub ?_ hfs
     refine (.cond rfl (fun hc79=>?_) (fun hc79=>?_))
     ·refine .region (.z zm (.z zg (.nil ?_)))
      refine nB (nT ?_)
      obtain ⟨g1,g2⟩:=hp1 hc79
      exact .mk ⟨(k:Int),_,rfl,hSc.take g1 g2,hs⟩
     ·refine .skip ?_
      refine nB (nT ?_)
      exact .mk ⟨to,_,rfl,hSc.skip (hp2 hc79),hs⟩
  ·rintro fr w ⟨to,left,rfl,hSc,hs⟩
   refine nT ?_
   refine .seq (.aj (.z zm (.z fH (.nil ?_))))
   refine (.bB rfl (fun hc83=>?_) (fun hc83=>?_))
   ·refine .aj (.z zm (.z zm ?_))
    refine .o (.call Tryz.call293 rfl (sZ hs (hM.mono hle02) hqM ak .here hbl hqF (fun i hi=> .there (Mem.row ak ak))) ?_);rintro _ w ⟨rfl,hs⟩
    refine .z zm (.z gV (.z zg (.z zg (.nil ?_))))
    refine .ret (rT (rB (rT (rB (Fin.lq Tryz.results272 rfl rfl ?_)))))
    rw [←CU hT hC hI.nn]
    cases left with
    |false=>
     have hno:∀v<n+1,gi lf v≤0:=fun v hv=>Int.not_lt.1 fun h=>by have:=hSc.left_.2 ⟨v,hv,h⟩;cases this
     have hok:=hI.ok hin hw0 hno
     obtain ⟨q,hqf⟩:=hok.fe
     have hO:=(vN hin hok.lt (fun i hi=>(hok.nn i hi).1) hok.full hqf).1
     have hb:=hbd _ hO
     rw [kv ak]
     exact ⟨H2,_,true,hle02,rfl,.inl ⟨rfl,hO⟩,hs.tail.iY.tail⟩
    |true=>
     obtain ⟨v,hv,hp⟩:=hSc.left_.1 rfl
     have hf:=hSc.non ak v hv hp
     have hO:=hI.open hin (R:=fun v=>gi s.cost v<free) (fun v hv hl=>by have:=hV.src v hv hl;omega) (hV.closed hg) hv (by rw [hf];omega) hp
     exact ⟨H2,_,false,hle02,rfl,.inr ⟨rfl,hO⟩,hs.tail.iY.tail⟩
   ·refine .skip ?_
    refine nT ?_
    refine .aj ?_
    obtain ⟨t,rfl⟩:=Int.eq_ofNat_of_zero_le (show 0≤to by omega)
    obtain ⟨ht,htp,htf⟩:=hSc.som ak
    rw [Int.toNat_natCast] at ht htp htf
    have htl:gi s.cost t<free:=by have:=hV.top t ht;omega
    obtain ⟨kk,cc,u,hB,hu,hk1,hk0,hcl,hway⟩:=hV.back hg ht htl htp
    have hW:=hway _ rfl
    have hsg:=hI.sg
    refine .z zm (.z zm ?_)
    refine .q hs (dH (k:=t) rfl rfl ae ai rfl ht) ?_
    refine .q hs (dG rfl af (hm:= .there (Mem.iY .here)) (hv:=nD (bn (l:=lf) (i:=t) ak) sp)) ?_
    refine .z zg (.nil (.aj (.z zm (.z zg (.nil (.seq (.block ?_)))))))
    refine .loop (fun p:Nat×Nat=>⟨183,[],[(16,I (p.2:Int)),(15,I (least es ts (gi lf t) (ig s.by_ t p.1))),(11,I (t:Int)),(7,.slice (some ⟨b24,0,none⟩) (n+1) (n+1)),(0,.slice am (n+1) cm),(6,.slice (some ⟨b21,0,none⟩) (n+1) cap),(9,.slice ad s.cost.length cd),(10,.slice ab s.by_.length cb)]⟩) (fun p w=>AtW s.by_ t kk u p.1 p.2∧(p.2<n+1∧gi s.cost p.2<free)∧St H2 w (.blk b24 (bs.map (ptr (n+1)))::(iI bs Fs++(.blk b21 (Is lf++sp)::σ)))) (fun p=>kk - p.1) (0,t) aR ⟨.start hB,⟨ht,htl⟩,hs⟩ ?_
    rintro ⟨i,v⟩ w ⟨hA,⟨hv,hvf⟩,hs⟩
    dsimp only at hA hv hvf ⊢
    have hby:=hV.by1 v hv hvf
    refine .cut (fun fs w=>kg fs ⟨183,[],[(16,I (v:Int)),(15,I (least es ts (gi lf t) (ig s.by_ t i))),(11,I (t:Int)),(7,.slice (some ⟨b24,0,none⟩) (n+1) (n+1)),(0,.slice am (n+1) cm),(6,.slice (some ⟨b21,0,none⟩) (n+1) cap),(9,.slice ad s.cost.length cd),(10,.slice ab s.by_.length cb)]⟩∧0≤(ga s.by_ v).l∧St H2 w (.blk b24 (bs.map (ptr (n+1)))::(iI bs Fs++(.blk b21 (Is lf++sp)::σ)))) ?_ ?_
    ·refine .aj (.z zm (.z zm ?_))
     refine .q hs (dH (k:=v) rfl rfl ae ai rfl hv) ?_
     refine .q hs (dG rfl af (hm:= .there (Mem.iY .here)) (hv:=nD (bn (l:=lf) (i:=v) ak) sp)) ?_
     refine .z xt (.z zm ?_)
     refine .iD (t':=99) rfl (fun hb99=>?_) (fun hb99=>?_)
     ·refine .gFs 6 5 false rfl rfl rfl ?_
      refine .z zpT (.nil ?_)
      refine (.cT ?_)
      refine .skip ?_
      refine nT ?_
      exact ⟨aR,by
       rcases hby with ⟨_,h,_⟩|h
       ·omega
       ·exact h.1,hs⟩
     ·refine .gT rfl rfl ?_
      refine .z zm ?_
      refine .gT rfl rfl ?_
      refine .z zm ?_
      refine .gT rfl rfl ?_
      refine .ixX (enc:=lA es) hs hRb rfl rfl dq cU (tw (l:=s.by_) (i:=v) ak) rfl ?_;intro b102 o102 hc102
      rw [pF] at hc102
      refine .gT rfl rfl ?_
      refine .z (zfa db) ?_
      refine .gT rfl rfl ?_
      refine .q hs (aJ rfl af (hc102.get 0 rfl)) ?_
      refine .gT rfl rfl ?_
      refine .z xt (.z zpF (.nil ?_))
      refine (.bB rfl (fun hc106=>?_) (fun hc106=>?_))
      ·refine .skip ?_
       refine nT ?_
       exact ⟨aR,B8 hc106,hs⟩
      ·refine .exit ?_
       refine xT (xT (xB (nT ?_)))
       refine .aj ?_
       obtain ⟨ei,ev⟩:=hA.stop (Ax hc106)
       subst ei;subst ev
       obtain ⟨m0,m1,m2,m3⟩:=si hI.lt.symm hnum hW
       have hsv:=hsg v hv
       have hst:=hsg t ht
       have hmu:min (least es ts (gi lf t) (ig s.by_ t i)) (-gi lf v)=pY es ts lf (ig s.by_ t i).reverse v t:=by
        unfold pY
        rw [Bb,←wT,Int.min_comm]
       have hsend:=hI.send hnum hW (by rw [List.length_reverse,gy];omega)
       have hmem:∀x∈ig s.by_ t i,x∈cH es ts:=fun x hx=>hW.mem x (List.mem_reverse.2 hx)
       rw [zK (fun x hx=>(ji hI.lt.symm hnum (hmem x hx)).2.1)] at hsend
       generalize hm:pY es ts lf (ig s.by_ t i).reverse v t=m at*
       have hvt:v≠t:=fun e=>by have:=hW.lu;rw [e] at this;omega
       refine .z zm (.z zm (.z zm ?_))
       refine .q hs (dH (k:=v) rfl rfl ae ai rfl hv) ?_
       refine .q hs (dG rfl af (hm:= .there (Mem.iY .here)) (hv:=nD (bn (l:=lf) (i:=v) ak) sp)) ?_
       refine .z xr (.z zr ?_)
       rw [hmu]
       refine .z zg (.nil (.seq (.aj (.z zm (.z zg (.nil (.block ?_)))))))
       refine .loop (fun p:Nat×Nat×List (List Int)=>⟨183,[],[(18,I (p.2.1:Int)),(16,I (v:Int)),(15,I m),(11,I (t:Int)),(7,.slice (some ⟨b24,0,none⟩) (n+1) (n+1)),(0,.slice am (n+1) cm),(6,.slice (some ⟨b21,0,none⟩) (n+1) cap),(9,.slice ad s.cost.length cd),(10,.slice ab s.by_.length cb)]⟩) (fun p w=>AtW s.by_ t i v p.1 p.2.1∧(p.2.1<n+1∧gi s.cost p.2.1<free)∧(Sq (n+1) p.2.2∧tV (n+1) es (eW es m ts (ig s.by_ t p.1)) (gt p.2.2))∧St H2 w (.blk b24 (bs.map (ptr (n+1)))::(iI bs p.2.2++(.blk b21 (Is lf++sp)::σ)))) (fun p=>i - p.1) (0,t,Fs) aR ⟨.start hB,⟨ht,htl⟩,⟨hqF,hC⟩,hs⟩ ?_
       clear hA hby
       rintro ⟨j,y,Fs'⟩ w ⟨hA,⟨hy,hyf⟩,⟨hqF',hC'⟩,hs⟩
       dsimp only at hA hy hyf hqF' hC' hs ⊢
       have hfl':=hqF'.1
       refine .seq (.aj (.z zm (.z zm (.z gx (.nil ?_)))))
       refine (.eH rfl (fun hc135=>?_) (fun hc135=>?_))
       ·refine .skip ?_
        refine nT ?_
        refine .seq (.block (.aj ?_))
        have hl0:=hA.ne ak
        obtain ⟨hik,hA',htr⟩:=hA.next hl0 hu
        obtain ⟨hxm,hxt,hxf⟩:ga s.by_ y∈cH es ts∧(ga s.by_ y).t=y∧gi s.cost (ga s.by_ y).f<free:=by
         rcases hV.by1 y hy hyf with ⟨h,_⟩|⟨_,h1,h2,h3,_⟩
         ·omega
         ·exact ⟨h1,h2,h3⟩
        have hxn:=(hg.ok _ hxm).1
        have hsF:=sN hl0
        have hxb:(ga s.by_ y).l.toNat<ts.length:=(ji hI.lt.symm hnum hxm).2.1
        have hpb:=wN (es:=es) (ts:=ts) (p:=ig s.by_ t j) (m:=m) ak ak (by rw [gy];omega) (fun x hx=>by
         have h1:=mV (A:=fun v=>v<n+1∧gi s.cost v<free) (B:=fun x=>x∈cH es ts) (fun v hv hl=>by
          rcases hV.by1 v hv.1 hv.2 with ⟨h,_⟩|⟨_,h1,h2,h3,_⟩
          ·omega
          ·exact ⟨h1,(hg.ok _ h1).1,h3⟩) hA.bk.choose_spec ⟨ht,htl⟩ x hx
         exact (ji hI.lt.symm hnum h1).2.1) (ga s.by_ y).l.toNat
        have hnn:=hI.nn (ga s.by_ y).l.toNat (by rw [←hI.lt];exact hxb)
        have htb:=hI.tb (ga s.by_ y).l.toNat (by rw [←hI.lt];exact hxb)
        have hrm:0≤rem (n+1) lf:=cN fun v _=>by omega
        generalize hgx:ga s.by_ y=x at*
        refine .z zm (.z zm ?_)
        refine .ixX (enc:=lA es) hs hRb rfl rfl dq cU (tw (l:=s.by_) (i:=y) ak) rfl ?_;intro b143 o143 hc143
        rw [hgx,pF] at hc143
        refine .q hs (cI (vs:=[I (sO x),.bool (tY es x)]) rfl Tryz.isAgg315 cU hc143) ?_
        refine .o (.alloc hs Ga rfl fun b19 w hs=>?_)
        refine .o (.aZ (vs:=[I (sO x),.bool (tY es x)]) hs rfl rfl cU fun w hs=>?_)
        refine .nil (.aj (.z (zfa iX) ?_))
        first|refine .q hs (dG rfl rf (hm:=by repeat (first|exact .here|assumption|exact Mem.row ak ak|refine .there ?_|refine Mem.iY ?_)) (hv:=by first|rfl|exact cO ak|exact fA cz ak ak|exact eQ eT)) ?_|refine .q hs (aJ rfl rf cz) ?_
        refine .nil ?_
        refine (.cond rfl (fun hc146=>?_) (fun hc146=>?_))
        ·refine .draw mix rfl hs fun w hs=>?_
         have hnf:=Ay hc146
         obtain ⟨hcb,z,hz1,hz2⟩:=hC.back hT hxm hnf
         have hgz:gt Fs' y x.f=gi (eW es m ts (ig s.by_ t j)) x.l.toNat:=by
          have:=hC'.arc z hz1
          rw [hz2] at hxt ⊢
          rw [←hxt];exact this.symm
         have hpu:=(hC'.push hT (y:=x) (.inr ⟨z,hz1,hz2⟩) m).2 hnf
         rw [hxt] at hpu
         rw [←ma,←htr] at hpu
         refine .z 0 rfl zm ?_;refine .z 1 rfl zm ?_
         refine .z 2 rfl (dH (k:=y) rfl rfl aq az rfl hy) ?_
         first|refine .load (i:=3) hs rfl au .none rfl an ?_ (by repeat (first|exact .here|assumption|exact Mem.row ak ak|refine .there ?_|refine Mem.iY ?_)) (by first|rfl|exact cO ak|exact fA cz ak ak|exact eQ eT)|refine .r (i:=3) hs rfl au .none (aJ rfl an cz) ?_
         refine .z 4 rfl (zfa db) ?_
         first|refine .load (i:=5) hs rfl au .none rfl af ?_ (by repeat (first|exact .here|assumption|exact Mem.row ak ak|refine .there ?_|refine Mem.iY ?_)) (by first|rfl|exact cO ak|exact fA cz ak ak|exact eQ eT)|refine .r (i:=5) hs rfl au .none (aJ rfl af cz) ?_
         rw [hsF] at hs ⊢
         refine .z 6 rfl (dH (k:=x.f) rfl rfl ae ai rfl hxn) ?_
         first|refine .load (i:=7) hs rfl au .none rfl af ?_ (by repeat (first|exact .here|assumption|exact Mem.row ak ak|refine .there ?_|refine Mem.iY ?_)) (by first|rfl|exact cO ak|exact fA cz ak ak|exact eQ eT)|refine .r (i:=7) hs rfl au .none (aJ rfl af cz) ?_
         refine .z 8 rfl zm ?_;refine .z 9 rfl gL ?_
         refine .z 10 rfl (dH (k:=x.f) rfl rfl ae ai rfl hxn) ?_
         refine .ET 11 hs ?_
         refine .store hs rfl rfl ai ?_ (.there (.there (Upd.row _ ak ak))) (tF (by rw [hqF'.2 _ hy];exact hxn)) (mA _ _ _);intro w hs
         refine .go ?_
         refine .DT hs ?_
         refine nB (nT ?_)
         refine .region (.z zm (.z zm ?_))
         refine .ixX (enc:=lA es) hs hRb rfl rfl dq cU (tw (l:=s.by_) (i:=y) ak) rfl ?_;intro b138 o138 hc138
         rw [hgx,pF] at hc138
         refine .z (zfa db) ?_
         refine .q hs (aJ rfl af (hc138.get 0 rfl)) ?_
         rw [hsF]
         refine .z zg (.nil ?_)
         refine nT ?_
         exact ⟨(j+1,x.f,_),aR,⟨hA',⟨hxn,hxf⟩,⟨hqF'.set hy _,by rw [yN hqF' hy hxn];exact hpu⟩,hs.tail⟩,by dsimp only;omega⟩
        ·refine .region ?_
         have hnf:=Az hl0 (by simpa using hc146)
         have hxe:=hC.FV hT hxm hnf
         have hgz:gt Fs' x.f y=gi (eW es m ts (ig s.by_ t j)) x.l.toNat:=by
          have:=hC'.arc x hxe
          rw [hxt] at this;exact this.symm
         have hpu:=(hC'.push hT (y:=x) (.inl hxe) m).1 hnf
         rw [hxt] at hpu
         rw [←ma,←htr] at hpu
         refine .z zm (.z (zfa db) ?_)
         first|refine .q hs (dG rfl af (hm:=by repeat (first|exact .here|assumption|exact Mem.row ak ak|refine .there ?_|refine Mem.iY ?_)) (hv:=by first|rfl|exact cO ak|exact fA cz ak ak|exact eQ eT)) ?_|refine .q hs (aJ rfl af cz) ?_
         rw [hsF]
         refine .q hs (dH (k:=x.f) rfl rfl aq az rfl hxn) ?_
         first|refine .q hs (dG rfl an (hm:=by repeat (first|exact .here|assumption|exact Mem.row ak ak|refine .there ?_|refine Mem.iY ?_)) (hv:=by first|rfl|exact cO ak|exact fA cz ak ak|exact eQ eT)) ?_|refine .q hs (aJ rfl an cz) ?_
         refine .z zm ?_
         refine .q hs (dH (k:=y) rfl rfl ae ai rfl hy) ?_
         first|refine .q hs (dG rfl af (hm:=by repeat (first|exact .here|assumption|exact Mem.row ak ak|refine .there ?_|refine Mem.iY ?_)) (hv:=by first|rfl|exact cO ak|exact fA cz ak ak|exact eQ eT)) ?_|refine .q hs (aJ rfl af cz) ?_
         refine .z zm (.z ck ?_)
         refine .q hs (dH (k:=y) rfl rfl ae ai rfl hy) ?_
         refine .o (.store hs rfl rfl ai ?_ (.there (.there (Upd.row _ ak ak))) (tF (by rw [hqF'.2 _ hxn];exact hy)) (mA _ _ _));intro w hs
         refine .nil ?_
         refine nB (nT ?_)
         refine .region (.z zm (.z zm ?_))
         refine .ixX (enc:=lA es) hs hRb rfl rfl dq cU (tw (l:=s.by_) (i:=y) ak) rfl ?_;intro b138 o138 hc138
         rw [hgx,pF] at hc138
         refine .z (zfa db) ?_
         refine .q hs (aJ rfl af (hc138.get 0 rfl)) ?_
         rw [hsF]
         refine .z zg (.nil ?_)
         refine nT ?_
         exact ⟨(j+1,x.f,_),aR,⟨hA',⟨hxn,hxf⟩,⟨hqF'.set hxn _,by rw [yN hqF' hxn hy];exact hpu⟩,hs.tail⟩,by dsimp only;omega⟩
       ·refine .exit ?_
        refine xT (xT (xB (nT ?_)))
        refine .aj ?_
        have hyv:y=v:=by omega
        subst hyv
        obtain ⟨ej,-⟩:=hA.stop hu
        subst ej
        refine .z zm (.z zm ?_)
        refine .q hs (dH (k:=y) rfl rfl ae ai rfl hv) ?_
        refine .q hs (dG rfl af (hm:= .there (Mem.iY .here)) (hv:=nD (bn (l:=lf) (i:=y) ak) sp)) ?_
        refine .z zm (.z ck ?_)
        refine .q hs (dH (k:=y) rfl rfl ae ai rfl hv) ?_
        refine .o (.store hs rfl rfl ai ?_ (.there (Upd.iY .here)) (by simp;omega) (yv ak _ sp));intro w hs
        refine .nil (.region (.z zm (.z zm ?_)))
        refine .q hs (dH (k:=t) rfl rfl ae ai rfl ht) ?_
        have hgt:gi (lf.set y (gi lf y+m)) t=gi lf t:=by rw [ed ak,if_neg (Ne.symm hvt)]
        refine .q hs (dG rfl af (hm:= .there (Mem.iY .here)) (hv:=nD (bn (l:=lf.set y (gi lf y+m)) (i:=t) (by rw [List.length_set];omega)) sp)) ?_
        refine .z zm (.z gL ?_)
        refine .q hs (dH (k:=t) rfl rfl ae ai rfl ht) ?_
        refine .o (.store hs rfl rfl ai ?_ (.there (Upd.iY .here)) (by simp;omega) (yv (by rw [List.length_set];omega) _ sp));intro w hs
        refine .nil ?_
        refine nB (nT ?_)
        have hrm:0≤rem (n+1) (wR lf m y t):=cN fun v _=>by omega
        exact ⟨(Fs',eW es m ts (ig s.by_ t j),wR lf m y t),aR,⟨⟨hqF',hC',hsend.1⟩,H2,hle02,hs⟩,by dsimp only;have:=hsend.2;omega⟩
    ·rintro fs w ⟨hfs,hl0,hs⟩
     refine WE.sub ?_ hfs
     obtain ⟨hik,hA',htr⟩:=hA.next hl0 hu
     obtain ⟨hxm,hxt,hxf⟩:ga s.by_ v∈cH es ts∧(ga s.by_ v).t=v∧gi s.cost (ga s.by_ v).f<free:=by
      rcases hby with ⟨h,_⟩|⟨_,h1,h2,h3,_⟩
      ·omega
      ·exact ⟨h1,h2,h3⟩
     have hxn:=(hg.ok _ hxm).1
     have hsF:=sN hl0
     generalize hgx:ga s.by_ v=x at*
     refine .block (.aj (.z zm (.z zm ?_)))
     refine .ixX (enc:=lA es) hs hRb rfl rfl dq cU (tw (l:=s.by_) (i:=v) ak) rfl ?_;intro b109 o109 hc109
     rw [hgx,pF] at hc109
     refine .q hs (cI (vs:=[I (sO x),.bool (tY es x)]) rfl Tryz.isAgg315 cU hc109) ?_
     refine .o (.alloc hs Ga rfl fun b17 w hs=>?_)
     refine .o (.aZ (vs:=[I (sO x),.bool (tY es x)]) hs rfl rfl cU fun w hs=>?_)
     refine .nil (.seq (.aj (.z (zfa iX) ?_)))
     first|refine .q hs (dG rfl rf (hm:=by repeat (first|exact .here|assumption|exact Mem.row ak ak|refine .there ?_|refine Mem.iY ?_)) (hv:=by first|rfl|exact cO ak|exact fA cz ak ak|exact eQ eT)) ?_|refine .q hs (aJ rfl rf cz) ?_
     refine .nil ?_
     refine (.cond rfl (fun hc112=>?_) (fun hc112=>?_))
     ·refine .draw mix rfl hs fun w hs=>?_
      refine .z 0 rfl zm ?_;refine .z 1 rfl zm ?_;refine .z 2 rfl zm ?_
      refine .z 3 rfl (dH (k:=v) rfl rfl aq az rfl hv) ?_
      first|refine .load (i:=4) hs rfl au .none rfl an ?_ (by repeat (first|exact .here|assumption|exact Mem.row ak ak|refine .there ?_|refine Mem.iY ?_)) (by first|rfl|exact cO ak|exact fA cz ak ak|exact eQ eT)|refine .r (i:=4) hs rfl au .none (aJ rfl an cz) ?_
      refine .z 5 rfl (zfa db) ?_
      first|refine .load (i:=6) hs rfl au .none rfl af ?_ (by repeat (first|exact .here|assumption|exact Mem.row ak ak|refine .there ?_|refine Mem.iY ?_)) (by first|rfl|exact cO ak|exact fA cz ak ak|exact eQ eT)|refine .r (i:=6) hs rfl au .none (aJ rfl af cz) ?_
      rw [hsF] at hs ⊢
      refine .z 7 rfl (dH (k:=x.f) rfl rfl ae ai rfl hxn) ?_
      first|refine .load (i:=8) hs rfl au .none rfl af ?_ (by repeat (first|exact .here|assumption|exact Mem.row ak ak|refine .there ?_|refine Mem.iY ?_)) (by first|rfl|exact cO ak|exact fA cz ak ak|exact eQ eT)|refine .r (i:=8) hs rfl au .none (aJ rfl af cz) ?_
      refine .z 9 rfl zr ?_;refine .z 10 rfl zg ?_
      refine .DT hs ?_
      refine nT ?_
      refine .region (.z (zfa db) ?_)
      first|refine .q hs (dG rfl af (hm:=by repeat (first|exact .here|assumption|exact Mem.row ak ak|refine .there ?_|refine Mem.iY ?_)) (hv:=by first|rfl|exact cO ak|exact fA cz ak ak|exact eQ eT)) ?_|refine .q hs (aJ rfl af cz) ?_
      try rw [hsF]
      refine .z zg (.nil ?_)
      refine nB (nT ?_)
      have hnf:=Ay hc112
      have hcb:=(hC.back hT hxm hnf).1
      rw [hxt] at hcb
      exact ⟨(i+1,x.f),.cons rfl (.bU rfl (by dsimp only;rw [htr,lU,if_neg hnf,hcb]) aR),⟨hA',⟨hxn,hxf⟩,hs.tail⟩,by dsimp only;omega⟩
     ·refine .skip ?_
      refine nT ?_
      refine .region (.z (zfa db) ?_)
      first|refine .q hs (dG rfl af (hm:=by repeat (first|exact .here|assumption|exact Mem.row ak ak|refine .there ?_|refine Mem.iY ?_)) (hv:=by first|rfl|exact cO ak|exact fA cz ak ak|exact eQ eT)) ?_|refine .q hs (aJ rfl af cz) ?_
      try rw [hsF]
      refine .z zg (.nil ?_)
      refine nB (nT ?_)
      have hnf:=Az hl0 (by simpa using hc112)
      exact ⟨(i+1,x.f),.cons rfl (.bU rfl (by dsimp only;rw [htr,lU,if_pos hnf]) aR),⟨hA',⟨hxn,hxf⟩,hs.tail⟩,by dsimp only;omega⟩
theorem iq{p:Prop}[Decidable p]:(!decide p)=true↔¬p:=by simp
theorem gE{p:Prop}[Decidable p]:(!decide p)=false↔p:=by simp
theorem eZ{a0 a1 a2:Int}(hs:St H w σ):Cl Tryz.prog 221 [I a0,I a1,I a2] w fun v w'=>v= .bool (decide (a1≤a0∧a0≤a2))∧St H w' σ:=by
 refine Cl.o Tryz.func221 Tryz.ntmps221 ag3 ?_
 refine .aj (.z zg (.nil (.aj (.z zm (.z zm (.z wh (.z zm ?_)))))))
 refine .iD (t':=10) rfl (fun hb10=>?_) (fun hb10=>?_)
 ·refine .gT rfl rfl ?_
  refine .z zm ?_
  refine .gT rfl rfl ?_
  refine .z zm ?_
  refine .gT rfl rfl ?_
  refine .z wh (.z zpT (.z zg (.nil ?_)))
  refine .ret (Fin.bH Tryz.results221 rfl ?_)
  exact ⟨by simp [*],hs.out⟩
 ·refine .gFs 3 3 true rfl rfl rfl ?_
  refine .z zpF (.z zg (.nil ?_))
  refine .ret (Fin.bH Tryz.results221 rfl ?_)
  exact ⟨by simp [*],hs.out⟩
theorem nf{many:Int}{l:Lim}(hs:St H w σ):Cl Tryz.prog 232 [I many,.agg l.c.toArray] w fun v w'=>v=I (if decide (0≤many∧many≤64)&&l.ok many then 0 else 20)∧St H w' σ:=by
 refine Cl.o Tryz.func232 Tryz.ntmps232 ag2 ?_
 refine .aj ?_
 refine .bx hs fun b3 w hs=>?_
 refine .z zg (.nil (.seq (.aj (.z zm ?_))))
 refine .o (.call Ae rfl (eZ hs) ?_);rintro _ w ⟨rfl,hs⟩
 refine .z gV (.z zm ?_)
 refine .bif (t':=8) rfl (fun hb8=>?_) (fun hb8=>?_)
 ·refine .gFs 5 3 false rfl rfl rfl ?_
  refine .z zpT (.z zm ?_)
  refine .gFs 5 10 false rfl rfl rfl ?_
  refine .z zpT (.z zm ?_)
  refine .gFs 5 17 false rfl rfl rfl ?_
  refine .z zpT (.z zm ?_)
  refine .gFs 4 24 false rfl rfl rfl ?_
  refine .z zpT (.z zm ?_)
  refine .gFs 4 30 false rfl rfl rfl ?_
  refine .z zpT (.nil ?_)
  refine (.cT ?_)
  refine .aj (.z zg (.nil ?_))
  refine .ret (rT (Fin.bH mC rfl ?_))
  (try simp only [iq] at*)
  (try simp only [gE] at*)
  refine ⟨congrArg I ?_,hs.out⟩
  unfold Lim.ok
  first
   |(rw [if_pos (by simp only [Bool.and_eq_true,decide_eq_true_eq];omega)];done)
   |(rw [if_neg (by simp only [Bool.and_eq_true,decide_eq_true_eq];omega)];done)
 ·refine .gT rfl rfl ?_
  refine .z (zfa dE) ?_
  refine .gT rfl rfl ?_
  refine .y hs (zld af) ?_
  refine .gT rfl rfl ?_
  refine .z zm ?_
  refine .gT rfl rfl ?_
  refine .o (.call Ae rfl (eZ hs) ?_);rintro _ w ⟨rfl,hs⟩
  refine .gT rfl rfl ?_
  refine .z gV (.z zpF (.z zm ?_))
  refine .bif (t':=15) rfl (fun hb15=>?_) (fun hb15=>?_)
  ·refine .gFs 5 10 false rfl rfl rfl ?_
   refine .z zpT (.z zm ?_)
   refine .gFs 5 17 false rfl rfl rfl ?_
   refine .z zpT (.z zm ?_)
   refine .gFs 4 24 false rfl rfl rfl ?_
   refine .z zpT (.z zm ?_)
   refine .gFs 4 30 false rfl rfl rfl ?_
   refine .z zpT (.nil ?_)
   refine (.cT ?_)
   refine .aj (.z zg (.nil ?_))
   refine .ret (rT (Fin.bH mC rfl ?_))
   (try simp only [iq] at*)
   (try simp only [gE] at*)
   refine ⟨congrArg I ?_,hs.out⟩
   unfold Lim.ok
   first
    |(rw [if_pos (by simp only [Bool.and_eq_true,decide_eq_true_eq];omega)];done)
    |(rw [if_neg (by simp only [Bool.and_eq_true,decide_eq_true_eq];omega)];done)
  ·refine .gT rfl rfl ?_
   refine .z (zfa dP) ?_
   refine .gT rfl rfl ?_
   refine .y hs (zld af) ?_
   refine .gT rfl rfl ?_
   refine .z zm ?_
   refine .gT rfl rfl ?_
   refine .o (.call Ae rfl (eZ hs) ?_);rintro _ w ⟨rfl,hs⟩
   refine .gT rfl rfl ?_
   refine .z gV (.z zpF (.z zm ?_))
   refine .bif (t':=22) rfl (fun hb22=>?_) (fun hb22=>?_)
   ·refine .gFs 5 17 false rfl rfl rfl ?_
    refine .z zpT (.z zm ?_)
    refine .gFs 4 24 false rfl rfl rfl ?_
    refine .z zpT (.z zm ?_)
    refine .gFs 4 30 false rfl rfl rfl ?_
    refine .z zpT (.nil ?_)
    refine (.cT ?_)
    refine .aj (.z zg (.nil ?_))
    refine .ret (rT (Fin.bH mC rfl ?_))
    (try simp only [iq] at*)
    (try simp only [gE] at*)
    refine ⟨congrArg I ?_,hs.out⟩
    unfold Lim.ok
    first
     |(rw [if_pos (by simp only [Bool.and_eq_true,decide_eq_true_eq];omega)];done)
     |(rw [if_neg (by simp only [Bool.and_eq_true,decide_eq_true_eq];omega)];done)
   ·refine .gT rfl rfl ?_
    refine .z (zfa dE) ?_
    refine .gT rfl rfl ?_
    refine .y hs (zld af) ?_
    refine .gT rfl rfl ?_
    refine .z (zfa dP) ?_
    refine .gT rfl rfl ?_
    refine .y hs (zld af) ?_
    refine .gT rfl rfl ?_
    refine .z fo (.z zpF (.z zm ?_))
    refine .iD (t':=29) rfl (fun hb29=>?_) (fun hb29=>?_)
    ·refine .gFs 4 24 false rfl rfl rfl ?_
     refine .z zpT (.z zm ?_)
     refine .gFs 4 30 false rfl rfl rfl ?_
     refine .z zpT (.nil ?_)
     refine (.cT ?_)
     refine .aj (.z zg (.nil ?_))
     refine .ret (rT (Fin.bH mC rfl ?_))
     (try simp only [iq] at*)
     (try simp only [gE] at*)
     refine ⟨congrArg I ?_,hs.out⟩
     unfold Lim.ok
     first
      |(rw [if_pos (by simp only [Bool.and_eq_true,decide_eq_true_eq];omega)];done)
      |(rw [if_neg (by simp only [Bool.and_eq_true,decide_eq_true_eq];omega)];done)
    ·refine .gT rfl rfl ?_
     refine .z (zfa eX) ?_
     refine .gT rfl rfl ?_
     refine .y hs (zld af) ?_
     refine .gT rfl rfl ?_
     refine .o (.call Ae rfl (eZ hs) ?_);rintro _ w ⟨rfl,hs⟩
     refine .gT rfl rfl ?_
     refine .z gV (.z zpF (.z zm ?_))
     refine .bif (t':=35) rfl (fun hb35=>?_) (fun hb35=>?_)
     ·refine .gFs 4 30 false rfl rfl rfl ?_
      refine .z zpT (.nil ?_)
      refine (.cT ?_)
      refine .aj (.z zg (.nil ?_))
      refine .ret (rT (Fin.bH mC rfl ?_))
      (try simp only [iq] at*)
      (try simp only [gE] at*)
      refine ⟨congrArg I ?_,hs.out⟩
      unfold Lim.ok
      first
       |(rw [if_pos (by simp only [Bool.and_eq_true,decide_eq_true_eq];omega)];done)
       |(rw [if_neg (by simp only [Bool.and_eq_true,decide_eq_true_eq];omega)];done)
     ·refine .gT rfl rfl ?_
      refine .z (zfa gj) ?_
      refine .gT rfl rfl ?_
      refine .y hs (zld af) ?_
      refine .gT rfl rfl ?_
      refine .o (.call Ae rfl (eZ hs) ?_);rintro _ w ⟨rfl,hs⟩
      refine .gT rfl rfl ?_
      refine .z gV (.z zpF (.nil ?_))
      refine (.cond rfl (fun hc40=>?_) (fun hc40=>?_))
      ·refine .aj (.z zg (.nil ?_))
       refine .ret (rT (Fin.bH mC rfl ?_))
       (try simp only [iq] at*)
       (try simp only [gE] at*)
       refine ⟨congrArg I ?_,hs.out⟩
       unfold Lim.ok
       first
        |(rw [if_pos (by simp only [Bool.and_eq_true,decide_eq_true_eq];omega)];done)
        |(rw [if_neg (by simp only [Bool.and_eq_true,decide_eq_true_eq];omega)];done)
      ·refine .skip ?_
       refine nT ?_
       refine .aj (.z zg (.nil ?_))
       refine .ret (Fin.bH mC rfl ?_)
       (try simp only [iq] at*)
       (try simp only [gE] at*)
       refine ⟨congrArg I ?_,hs.out⟩
       unfold Lim.ok
       first
        |(rw [if_pos (by simp only [Bool.and_eq_true,decide_eq_true_eq];omega)];done)
        |(rw [if_neg (by simp only [Bool.and_eq_true,decide_eq_true_eq];omega)];done)
theorem mu{v:Value}{s:cj}(hs:St H w σ)(hr:RSy H v s):Cl Tryz.prog 182 [v] w fun v w'=>v=I s.check∧St H w' σ:=by
 obtain ⟨u,rfl,hr⟩:=hr
 obtain ⟨a,c,rfl⟩:=RL.shape hr
 have hlen:=(RS.len (RS.FH hr (Nat.le_refl _) (cap':=s.bP.length))).2.2
 refine Cl.o Tryz.func182 Tryz.ntmps182 ag1 ?_
 refine .aj ?_
 refine .bx hs fun b1 w hs=>?_
 refine .z zg (.nil (.seq (.aj (.z (zfa bI) (.y hs (zld af) ?_)))))
 refine .o (.call Ae rfl (eZ hs) ?_);rintro _ w ⟨rfl,hs⟩
 refine .z gV (.nil ?_)
 refine (.cond rfl (fun hc8=>?_) (fun hc8=>?_))
 ·refine .aj (.z zg (.nil ?_))
  refine .ret (rT (Fin.bH Tryz.results182 rfl ?_))
  exact ⟨congrArg I (by unfold cj.check;rw [if_pos (by simp at hc8;omega)]),hs.out⟩
 ·refine .skip ?_
  refine nT ?_
  refine .seq (.aj (.z (zfa bE) (.y hs (zld cA) (.z (cB aI) (.z kD (.nil ?_))))))
  refine (.bB rfl (fun hc12=>?_) (fun hc12=>?_))
  ·refine .aj (.z zg (.nil ?_))
   refine .ret (rT (Fin.bH Tryz.results182 rfl ?_))
   exact ⟨congrArg I (by unfold cj.check;rw [if_neg (by simpa using hc8),if_pos ak]),hs.out⟩
  ·refine .skip ?_
   refine nT ?_
   refine .seq (.aj (.z (zfa bE) (.y hs (zld cA) (.z (cB aI) (.z zm (.nil ?_))))))
   refine .for (N:=s.bP.length) (J:=fun k fr w=>fr=[(14,.slice a s.bP.length c),(1,.pointer (some ⟨b1,0,none⟩))]∧(∀j<k,∀l,s.bP[j]? =some l→l.ok s.many=true)∧St H w (.blk b1 [I s.many,.slice a s.bP.length c]::σ)) ak ?_ ?_ ?_
   ·exact .mk ⟨rfl,fun j hj=>by omega,hs⟩
   ·rintro k fr w hk ⟨rfl,hno,hs⟩
    obtain ⟨x,hx⟩:=nth (l:=s.bP) hk
    refine .block (.aj ?_)
    refine .ixX (enc:=Lim.c) hs hr rfl rfl aI aS hx rfl ?_;intro b18 o18 hc18
    refine .q hs (cI (vs:=x.c) rfl fj aS hc18) ?_
    refine .o (.alloc hs fm rfl fun b4 w hs=>?_)
    refine .o (.aZ (vs:=x.c) hs rfl rfl aS fun w hs=>?_)
    refine .nil (.aj (.z (zfa bI) (.y hs (zld af) ?_)))
    refine .q hs (kq (vs:=x.c) rfl fj aS) ?_
    refine .o (.call Tryz.call232 rfl (nf hs) ?_);rintro _ w ⟨rfl,hs⟩
    have hmm:0≤s.many∧s.many≤64:=by simpa using hc8
    rw [show (decide (0≤s.many∧s.many≤64)&&x.ok s.many)=x.ok s.many by rw [decide_eq_true hmm];rfl]
    refine .z gx (.nil ?_)
    refine (.eH rfl (fun hc24=>?_) (fun hc24=>?_))
    ·refine .aj (.z zg (.nil ?_))
     refine .ret (rB (rT (rB (rT (Fin.bH Tryz.results182 rfl ?_)))))
     exact ⟨congrArg I (by
      have hx0:x.ok s.many=false:=by cases e:x.ok s.many with|false=>rfl|true=>rw [e] at hc24;simp at hc24
      unfold cj.check;rw [if_neg (by simpa using hc8),if_neg ak,if_pos (List.any_eq_true.2 ⟨x,List.mem_of_getElem? hx,by rw [hx0];rfl⟩)]),hs.out⟩
    ·refine .skip ?_
     refine nB (nT ?_)
     exact .mk ⟨rfl,e9 hno hx (by cases e:x.ok s.many with|true=>rfl|false=>rw [e] at hc24;simp at hc24),hs.tail⟩
   ·rintro fr w ⟨rfl,hno,hs⟩
    refine nT ?_
    refine .aj (.z zg (.nil ?_))
    refine .ret (Fin.bH Tryz.results182 rfl ?_)
    exact ⟨congrArg I (by
     have hall:(s.bP.any fun l=> !l.ok s.many)=false:=by
      simp only [List.any_eq_false,Bool.not_eq_true',Bool.not_eq_false]
      intro l hl
      obtain ⟨j,hj⟩:=List.getElem?_of_mem hl
      exact hno j (List.getElem?_eq_some_iff.1 hj).1 l hj
     unfold cj.check;rw [if_neg (by simpa using hc8),if_neg ak,hall];rfl),hs.out⟩
theorem rM{v:Value}{ws:List Int}(hs:St H w σ)(hr:RI H v ws):Cl Tryz.prog 271 [v] w fun v w'=>∃b,v= .bool b∧(b=true↔gg ws)∧St H w' σ:=by
 obtain ⟨a,c,rfl⟩:=RI.shape hr
 have hl:=(RI.len hr).2.2
 refine Cl.o Tryz.func271 Tryz.ntmps271 ag1 ?_
 refine .aj (.z zg (.nil (.aj (.z zg (.nil (.seq (.aj (.z zm (.z (cB ae) ?_)))))))))
 refine .z zm (.nil ?_)
 refine .for (N:=ws.length) (J:=fun k fr w=>fr=[(6,.slice a ws.length c),(3,I (bG ws k))]∧bG ws k≤3600000000000∧St H w σ) ak ?_ ?_ ?_
 ·exact .mk ⟨rfl,by simp [bG,a8],hs⟩
 ·rintro k fr w hk ⟨rfl,hle,hs⟩
  have hx:=bn hk
  have h0:0≤bG ws k:=cN fun v _=>by omega
  have h1:bG ws (k+1)=bG ws k+max (gi ws k) (-gi ws k):=rfl
  refine .block (.aj ?_)
  first|(refine .ixv hs ae ai ?_;intro b10 o10 hc10)|refine .z (zix ae ai) ?_
  refine .y hs (zld af) (.z zg (.nil (.seq (.aj (.z zm (.z fH (.z zm ?_)))))))
  refine .iD (t':=14) rfl (fun hb14=>?_) (fun hb14=>?_)
  ·refine .gFs 2 2 false rfl rfl rfl ?_
   refine .z zpT (.nil ?_)
   refine (.cT ?_)
   refine .aj (.z zg (.nil ?_))
   refine .ret (rT (rB (rT (rB (rT (Fin.bH Tryz.results271 rfl ?_))))))
   exact ⟨false,rfl,⟨fun h=>(by cases h),fun h=>(lC (k:=k+1) hk (by simp only [FF];omega) h).elim⟩,hs⟩
  ·refine .gT rfl rfl ?_
   refine .z zm ?_
   refine .gT rfl rfl ?_
   refine .z kD (.z zpF (.nil ?_))
   refine (.bB rfl (fun hc17=>?_) (fun hc17=>?_))
   ·refine .aj (.z zg (.nil ?_))
    refine .ret (rT (rB (rT (rB (rT (Fin.bH Tryz.results271 rfl ?_))))))
    exact ⟨false,rfl,⟨fun h=>(by cases h),fun h=>(lC (k:=k+1) hk (by simp only [FF];omega) h).elim⟩,hs⟩
   ·refine .skip ?_
    refine nT ?_
    refine .aj (.z zm (.z zm (.z zm (.z xr (.z Dd (.z ck (.z zg (.nil (.aj ?_)))))))))
    refine .z zm (.z kD (.nil ?_))
    refine (.bB rfl (fun hc25=>?_) (fun hc25=>?_))
    ·refine .aj (.z zg (.nil ?_))
     refine .ret (rB (rT (rB (rT (Fin.bH Tryz.results271 rfl ?_)))))
     exact ⟨false,rfl,⟨fun h=>(by cases h),fun h=>(lC (k:=k+1) hk (by simp only [FF];omega) h).elim⟩,hs⟩
    ·refine .skip ?_
     refine nB (nT ?_)
     exact .mk ⟨rfl,ak,hs⟩ (hs:= .cons rfl (.cons rfl (.cons rfl (.bU rfl ak (.nil rfl rfl)))))
 ·rintro fr w ⟨rfl,hle,hs⟩
  refine nT ?_
  refine .aj (.z zg (.nil ?_))
  refine .ret (Fin.bH Tryz.results271 rfl ?_)
  exact ⟨true,rfl,⟨fun _=>hle,fun _=>rfl⟩,hs⟩
theorem pK{v vw:Value}{s:cj}{ws:List Int}(hs:St H w σ)(hr:RSy H v s)(hrw:RI H vw ws)(hm:0≤s.many∧s.many≤64):Cl Tryz.prog 225 [v,vw] w fun v w'=>∃b,v= .bool b∧(b=true↔(ws.length=s.n∧gg ws))∧St H w' σ:=by
 obtain ⟨u,rfl,hr⟩:=hr
 obtain ⟨aw,cw,rfl⟩:=RI.shape hrw
 have hn:(s.n:Int)=s.many+1:=by simp only [cj.n];omega
 refine Cl.o Tryz.func225 Tryz.ntmps225 ag2 ?_
 refine .aj ?_
 refine .bx hs fun b2 w hs=>?_
 refine .z zg (.nil (.aj (.z zm (.z (cB ae) (.z (zfa bI) (.y hs (zld af) (.z ck (.z fo (.z zm ?_)))))))))
 refine .iD (t':=11) rfl (fun hb11=>?_) (fun hb11=>?_)
 ·refine .gT rfl rfl ?_
  refine .z zm ?_
  refine .gT rfl rfl ?_
  refine .o (.call Tryz.call271 rfl (rM hs hrw) ?_);rintro _ w ⟨b,rfl,hb,hs⟩
  refine .z zpT (.z zg (.nil ?_))
  refine .ret (Fin.bH Tryz.results225 rfl ?_)
  first
   |exact ⟨b,rfl,⟨fun h=>⟨ak,hb.1 h⟩,fun h=>hb.2 h.2⟩,hs.out⟩
   |exact ⟨false,rfl,⟨fun h=>(by cases h),fun h=>by omega⟩,hs.out⟩
 ·refine .gFs 2 6 true rfl rfl rfl ?_
  refine .z zpF (.z zg (.nil ?_))
  refine .ret (Fin.bH Tryz.results225 rfl ?_)
  first
   |exact ⟨b,rfl,⟨fun h=>⟨ak,hb.1 h⟩,fun h=>hb.2 h.2⟩,hs.out⟩
   |exact ⟨false,rfl,⟨fun h=>(by cases h),fun h=>by omega⟩,hs.out⟩
theorem rO{v vw:Value}{s:cj}{ws:List Int}(hs:St H w σ)(hr:RSy H v s)(hrw:RI H vw ws):Cl Tryz.prog 170 [v,vw] w fun v w'=>v=I (dZ s ws)∧St H w' σ:=by
 obtain ⟨u,rfl,hr⟩:=hr
 obtain ⟨al,cl,rfl⟩:=RL.shape hr
 obtain ⟨aw,cw,rfl⟩:=RI.shape hrw
 refine Cl.o Tryz.func170 Tryz.ntmps170 ag2 ?_
 refine .aj ?_
 refine .bx hs fun b2 w hs=>?_
 refine .z zg (.nil (.aj (.y hs (zls [_,_] aN aB) ?_)))
 refine .o (.call Tryz.call182 rfl (mu (s:=s) hs ⟨_,rfl,hr⟩) ?_);rintro _ w ⟨rfl,hs⟩
 refine .z zg (.nil (.seq (.aj (.z zm (.z fo (.z zm ?_))))))
 refine .iD (t':=10) rfl (fun hb10=>?_) (fun hb10=>?_)
 ·refine .gT rfl rfl ?_
  have hok:=s.cu.1 hb10
  have hm0:=hok.m0;have hm1:=hok.m1
  refine .y hs (zls [_,_] aN aB) ?_
  refine .gT rfl rfl ?_
  refine .z zm ?_
  refine .gT rfl rfl ?_
  refine .o (.call Tryz.call225 rfl (pK (s:=s) hs ⟨_,rfl,hr⟩ hrw ⟨hm0,hm1⟩) ?_);rintro _ w ⟨b,rfl,hb,hs⟩
  refine .gT rfl rfl ?_
  refine .z gV (.z zpT (.nil ?_))
  refine (.cond rfl (fun hc15=>?_) (fun hc15=>?_))
  ·refine .region (.z zg (.nil ?_))
   refine nT ?_
   refine .aj (.z zm (.z zg (.nil ?_)))
   refine .ret (Fin.bH Tryz.results170 rfl ?_)
   refine ⟨congrArg I ?_,hs.out⟩
   unfold dZ
   first
    |(rw [if_neg ak,if_neg (fun h=>by have:=hb.2 h;simp_all)];done)
    |(rw [if_neg ak,if_pos (hb.1 (by simpa using hc15))];omega)
    |(rw [if_pos cz];done)
  ·refine .skip ?_
   refine nT ?_
   refine .aj (.z zm (.z zg (.nil ?_)))
   refine .ret (Fin.bH Tryz.results170 rfl ?_)
   refine ⟨congrArg I ?_,hs.out⟩
   unfold dZ
   first
    |(rw [if_neg ak,if_neg (fun h=>by have:=hb.2 h;simp_all)];done)
    |(rw [if_neg ak,if_pos (hb.1 (by simpa using hc15))];omega)
    |(rw [if_pos cz];done)
 ·refine .gFs 4 2 true rfl rfl rfl ?_
  refine .z zpF (.nil ?_)
  refine (.cF ?_)
  refine .skip ?_
  refine nT ?_
  refine .aj (.z zm (.z zg (.nil ?_)))
  refine .ret (Fin.bH Tryz.results170 rfl ?_)
  refine ⟨congrArg I ?_,hs.out⟩
  unfold dZ
  first
   |(rw [if_neg ak,if_neg (fun h=>by have:=hb.2 h;simp_all)];done)
   |(rw [if_neg ak,if_pos (hb.1 (by simpa using hc15))];omega)
   |(rw [if_pos cz];done)
theorem oR{v:Value}{ws:List Int}(hs:St H w σ)(hr:RI H v ws)(hl:ws.length≤1000)(hz:gg ws):Cl Tryz.prog 228 [v] w fun u w'=>∃H1,HLe H H1∧RI H1 u (pX ws)∧St H1 w' σ:=by
 obtain ⟨a,c,rfl⟩:=RI.shape hr
 have hFF:FF=3600000000000:=rfl
 unfold gg at hz
 refine Cl.o Tryz.func228 Tryz.ntmps228 ag1 ?_
 refine .aj (.z zg (.nil (.aj (.z zg (.nil (.seq (.aj (.z zm (.z (cB ae) ?_)))))))))
 refine .z zm (.nil ?_)
 refine .for (N:=ws.length) (J:=fun k fr w=>∃v3 en,cf 1 v3 (Is (pX (ws.take k))) en∧fr=[(3,v3),(6,.slice a ws.length c)]∧St H w (en::σ)) ak ?_ ?_ ?_
 ·exact .mk ⟨_,_,.nil 1 none,rfl,hs.nul⟩
 ·rintro k fr w hk ⟨v3,en,hO,rfl,hs⟩
  have hx:=bn hk
  have hsz:=gM ws (v:=k) (n:=ws.length) hk
  refine .block (.aj ?_)
  refine .ixY hs hr rfl rfl ae ai hx rfl ?_;intro b10 o10 hc10
  refine .q hs (aJ rfl af hc10) ?_
  refine .z zg (.nil (.region (.z zm (.z zm (.z xr ?_)))))
  refine .o (.buildSlice (cells:=[_]) hs cQ rfl rfl fun b15 w hs=>?_)
  refine .o (.append (ys:=[I (-gi ws k)]) hs bZ rfl rfl hO (.own .here rfl rfl) (by simp [Value.oneCell']) (fun l' h=>by simp [pX] at h;omega) ?_);intro v16 en16 w hO2 hs
  refine .z zg (.nil ?_)
  refine nB (nT ?_)
  exact .mk ⟨v16,en16,by rw [dh hx];simpa [pX] using hO2,rfl,hs.sb⟩
 ·rintro fr w ⟨v3,en,hO,rfl,hs⟩
  rw [List.take_length] at hO
  refine nT ?_
  refine .aj (.z zm (.z zg (.nil ?_)))
  refine .ret (Fin.bH Tryz.results228 rfl ?_)
  obtain ⟨H2,g1,g2,hs⟩:=hO.de (by simp [pX];omega) hs .here
  exact ⟨H2,g1,g2,hs⟩
theorem na{vm vw:Value}{s:cj}{Ms:List (List Int)}{ws:List Int}(hs:St H w σ)(hM:RT H vm Ms)(hqM:Sq s.n Ms)(hT:iw s.n s.dc (gt Ms))(hrw:RI H vw ws)(hA:dZ s ws=0):
  Cl Tryz.prog 227 [vm,vw] w fun u w'=>∃H1 n e,HLe H H1∧u= .tuple #[I n,I e]∧mQ s ws n e∧St H1 w' σ:=by
 obtain ⟨hok,hwl,hz⟩:=kz hA
 have hinn:=hok.inn
 have hn65:=hok.n65
 have hnp:=s.zO
 obtain ⟨fs,hF⟩:=zv s.n (gt Ms)
 have hsd:=ux hok hT
 have hz2:bG ws s.n≤FF:=by unfold gg at hz;rwa [hwl] at hz
 refine Cl.o Tryz.func227 Tryz.ntmps227 ag2 ?_
 refine .aj (.z zg (.z zg (.nil (.seq (.aj (.z zm ?_))))))
 refine .o (.call Tryz.call233 rfl (mq hs hM hqM ak) ?_);rintro _ w ⟨b,rfl,hb,hs⟩
 refine .z gV (.nil ?_)
 refine (.cond rfl (fun hc10=>?_) (fun hc10=>?_))
 ·refine .aj (.z zg (.z zg (.nil ?_)))
  refine .ret (rT (Fin.lq Tryz.results227 rfl rfl ?_))
  have hb0:b=false:=by simpa using hc10
  exact ⟨H,0,23,HLe.refl H,rfl,tg hA (fun h=>by have:=hb.2 (hsd.1 h);rw [hb0] at this;cases this),hs⟩
 ·refine .skip ?_
  refine nT ?_
  refine .aj (.z zm (.z zm ?_))
  have hso:s.Sound:=hsd.2 (hb.1 (by simpa using hc10))
  refine .o (.call Tryz.call272 rfl (rQ (n:=s.many.toNat) (es:=fs) hs hM hqM hrw hwl hn65 hz2 hF (by obtain ⟨p,hp⟩:=hso;exact ⟨p,(hT.zU hinn hF).2 hp⟩)
   (fun x hx=>by
    obtain ⟨b1,b2,b3,b4,b5⟩:=hF.ok x hx
    have h1:=hT.up x.f x.t b1 b2 (by rw [b4];exact b5)
    have h2:=hT.low hnp hn65 hinn hso b1 b2 (by rw [b4];exact b5)
    rw [b4] at h1 h2
    exact ⟨h2,h1⟩)
   (fun m hm=>by
    have:=(hok.bd hwl hz ((hT.opt hinn hF).1 hm)).2
    exact ⟨this.2,this.1⟩)) ?_);rintro _ w ⟨H1,n,ok,hle1,rfl,hcase,hs⟩
  refine .z zm (.z zex (.z zex (.z zg (.z zg (.nil (.seq (.aj (.z zm (.z gV ?_)))))))))
  refine .nil ?_
  refine (.cond rfl (fun hc18=>?_) (fun hc18=>?_))
  ·refine .aj (.z zg (.z zg (.nil ?_)))
   refine .ret (rT (Fin.lq Tryz.results227 rfl rfl ?_))
   have hk0:ok=false:=by simpa using hc18
   rcases hcase with ⟨h,_⟩|⟨_,h⟩
   ·rw [hk0] at h;cases h
   ·exact ⟨H1,0,22,hle1,rfl,zQ hA hso hT hF h,hs⟩
  ·refine .skip ?_
   refine nT ?_
   refine .aj (.z zm (.z zg (.z zg (.nil ?_))))
   refine .ret (Fin.lq Tryz.results227 rfl rfl ?_)
   have hk0:ok=true:=by simpa using hc18
   rcases hcase with ⟨_,h⟩|⟨h,_⟩
   ·exact ⟨H1,n,0,hle1,rfl,A3 hA hT hF h,hs⟩
   ·rw [hk0] at h;cases h
theorem sY{v vw:Value}{s:cj}{ws:List Int}(hs:St H w σ)(hr:RSy H v s)(hrw:RI H vw ws)(hA:dZ s ws=0):
  Cl Tryz.prog 171 [v,vw] w fun u w'=>∃H1 lo hi e,HLe H H1∧u= .tuple #[I lo,I hi,I e]∧eY s ws lo hi e∧St H1 w' σ:=by
 obtain ⟨u,rfl,hr⟩:=hr
 obtain ⟨al,cl,rfl⟩:=RL.shape hr
 obtain ⟨hok,hwl,hz⟩:=kz hA
 have hn65:=hok.n65
 have hBB:BB=4608000000000000000:=rfl
 refine Cl.o Tryz.func171 Tryz.ntmps171 ag2 ?_
 refine .aj ?_
 refine .bx hs fun b2 w hs=>?_
 refine .z zg (.z zg (.z zg (.nil (.aj (.y hs (zls [_,_] aN aB) ?_)))))
 refine .o (.call Tryz.call226 rfl (nb (s:=s) hs ⟨_,rfl,hr⟩ hok) ?_);rintro _ w ⟨H1,Ms,hle1,hM,hqM,hT,hs⟩
 refine .z zg (.nil (.aj (.z zm (.z zm ?_))))
 refine .o (.call Tryz.call227 rfl (na (s:=s) hs hM hqM hT (hrw.mono hle1) hA) ?_);rintro _ w ⟨H2,n,e,hle2,rfl,hR,hs⟩
 refine .z zm (.z zex (.z zex (.z zg (.z zg (.nil (.seq (.aj (.z zm (.z gx ?_)))))))))
 refine .nil ?_
 refine (.eH rfl (fun hc20=>?_) (fun hc20=>?_))
 ·refine .aj (.z zm (.z zg (.z zg (.z zg (.nil ?_)))))
  refine .ret (rT (Fin.Dk Tryz.results171 rfl rfl rfl ?_))
  exact ⟨H2,0,0,e,hle1.trans hle2,rfl,.first hR hc20,hs.out⟩
 ·refine .skip ?_
  refine nT ?_
  refine .aj (.z zm (.z zm ?_))
  obtain rfl:e=0:=by simpa using hc20
  refine .o (.call Tryz.call228 rfl (oR hs ((hrw.mono hle1).mono hle2) ak hz) ?_);rintro _ w ⟨H3,hle3,hN,hs⟩
  refine .o (.call Tryz.call227 rfl (na (s:=s) (ws:=pX ws) hs ((hM.mono hle2).mono hle3) hqM hT hN (by rw [nP];exact hA)) ?_);rintro _ w ⟨H4,n2,e2,hle4,rfl,hR2,hs⟩
  refine .z zm (.z zex (.z zex (.z zg (.z zg (.nil (.seq (.aj (.z zm (.z gx ?_)))))))))
  refine .nil ?_
  refine (.eH rfl (fun hc30=>?_) (fun hc30=>?_))
  ·refine .aj (.z zm (.z zg (.z zg (.z zg (.nil ?_)))))
   refine .ret (rT (Fin.Dk Tryz.results171 rfl rfl rfl ?_))
   exact ⟨H4,0,0,e2,hle1.trans (hle2.trans (hle3.trans hle4)),rfl,.second hR hR2 hc30,hs.out⟩
  ·refine .skip ?_
   refine nT ?_
   refine .aj (.z zm ?_)
   obtain rfl:e2=0:=by simpa using hc30
   have hbd:=(hR2.2.2 rfl).2
   refine .z xr (.z zm (.z zg (.z zg (.z zg (.nil ?_)))))
   refine .ret (Fin.Dk Tryz.results171 rfl rfl rfl ?_)
   exact ⟨H4,-n2,n,0,hle1.trans (hle2.trans (hle3.trans hle4)),rfl,.ok hR hR2,hs.out⟩
theorem rP{v vw:Value}{s:cj}{ws:List Int}(hs:St H w σ)(hr:RSy H v s)(hrw:RI H vw ws):
  Cl Tryz.prog 88 [v,vw] w fun u w'=>∃H1 lo hi e,HLe H H1∧u= .tuple #[I lo,I hi,I e]∧eY s ws lo hi e∧St H1 w' σ:=by
 obtain ⟨u,rfl,hr⟩:=hr
 obtain ⟨al,cl,rfl⟩:=RL.shape hr
 obtain ⟨aw,cw,rfl⟩:=RI.shape hrw
 refine Cl.o Tryz.func88 Tryz.ntmps88 ag2 ?_
 refine .aj ?_
 refine .bx hs fun b2 w hs=>?_
 refine .z zg (.z zg (.z zg (.nil (.aj (.y hs (zls [_,_] aN aB) (.z zm ?_))))))
 refine .o (.call Tryz.call170 rfl (rO (s:=s) hs ⟨_,rfl,hr⟩ hrw) ?_);rintro _ w ⟨rfl,hs⟩
 refine .z zg (.nil (.seq (.aj (.z zm (.z gx (.nil ?_))))))
 refine (.eH rfl (fun hc12=>?_) (fun hc12=>?_))
 ·refine .aj (.z zm (.z zg (.z zg (.z zg (.nil ?_)))))
  refine .ret (rT (Fin.Dk Tryz.results88 rfl rfl rfl ?_))
  exact ⟨H,0,0,_,HLe.refl H,rfl,.first ⟨.bad hc12,fun _=>rfl,fun h=>(hc12 h).elim⟩ hc12,hs.out⟩
 ·refine .skip ?_
  refine nT ?_
  refine .aj (.y hs (zls [_,_] aN aB) (.z zm ?_))
  have hA:dZ s ws=0:=by simpa using hc12
  refine .o (.call Tryz.call171 rfl (sY (s:=s) hs ⟨_,rfl,hr⟩ hrw hA) ?_);rintro _ w ⟨H1,lo,hi,e,hle1,rfl,hR,hs⟩
  refine .z zex (.z zex (.z zex (.z zg (.z zg (.z zg (.nil ?_))))))
  refine .ret (Fin.Dk Tryz.results88 rfl rfl rfl ?_)
  exact ⟨H1,lo,hi,e,hle1,rfl,hR,hs.out⟩
theorem kO{v:Value}{l:List Int}{en:Ent}(hs:St H w (en::σ))(ho:cf 1 v (Is l) en)(hl:l.length≤1000000):
  Cl Tryz.prog 128 [v] w fun _ w'=>∃en',cf 1 v (Is l.reverse) en'∧St H w' (en'::σ):=by
 rcases ho with ⟨a,rfl,h2,rfl⟩|⟨b,len,cap,sp,rfl,rfl,h2,h3,h4⟩
 ·obtain rfl:l=[]:=by
   have:=congrArg List.length h2
   exact List.length_eq_zero_iff.1 (by simpa using this)
  have hs:=hs.tail
  refine Cl.o Tryz.func128 Tryz.ntmps128 ag1 ?_
  refine .aj (.z zm (.z (cB ae) (.z gL (.z zg (.z zg (.nil (.block ?_)))))))
  refine .loop (fun _:Unit=>⟨28,[],[(2,I 0),(3,I (-1))]⟩) (fun _ w=>St H w σ) (fun _=>0) () aR hs ?_
  rintro _ w hs
  refine .seq (.aj (.z zm (.z zm (.z fH (.nil ?_)))))
  refine (.bB rfl (fun hc9=>?_) (fun hc9=>?_))
  ·omega
  ·refine .exit ?_
   refine xT (xT (xB ?_))
   exact Fin.xu Tryz.results128 ⟨.nul,.nil 1 a,hs.nul⟩
 obtain rfl:len=l.length:=by simpa using h2.symm
 refine Cl.o Tryz.func128 Tryz.ntmps128 ag1 ?_
 refine .aj (.z zm (.z (cB ae) (.z gL (.z zg (.z zg (.nil (.block ?_)))))))
 refine .loop (fun p:Nat×List Int=>⟨28,[],[(2,I p.1),(3,I ((l.length:Int) - 1 - p.1)),(0,.slice (some ⟨b,0,none⟩) l.length cap)]⟩) (fun p w=>(2*p.1≤l.length+1∧nC l p.2 p.1)∧St H w (.blk b (Is p.2++sp)::σ)) (fun p=>l.length - p.1) (0,l) (.cons rfl (.bU rfl bL (.cons rfl (.nil rfl rfl)))) ⟨⟨bL,.start l⟩,hs⟩ ?_
 rintro ⟨i,L⟩ w ⟨⟨h5,h6⟩,hs⟩
 dsimp only at h5 h6 hs ⊢
 have hL:=h6.1
 refine .seq (.aj (.z zm (.z zm (.z fH (.nil ?_)))))
 refine (.bB rfl (fun hc9=>?_) (fun hc9=>?_))
 ·refine .skip ?_
  refine nT ?_
  refine .seq (.block ?_)
  refine .draw mix rfl hs fun w hs=>?_
  refine .z 0 rfl zm ?_;refine .z 1 rfl zm ?_;refine .z 2 rfl zm ?_;refine .z 3 rfl zm ?_;refine .z 4 rfl zm ?_;refine .z 5 rfl zm ?_
  refine .z 6 rfl (dH (k:=l.length - 1 - i) rfl rfl ae ai ak ak) ?_
  refine .load (i:=7) hs rfl au .none rfl af ?_ (hv:=fB ak sp)
  refine .z 8 rfl zm ?_;refine .z 9 rfl zm ?_
  first|(refine .ixv 10 rfl hs ae ai ?_;intro b24 o24 hc24)|refine .z 10 rfl (zix ae ai) ?_
  refine .load (i:=11) hs rfl au .none rfl af ?_ (hv:=fB ak sp)
  first|(refine .ixv 12 rfl hs ae ai ?_;intro b26 o26 hc26)|refine .z 12 rfl (zix ae ai) ?_
  refine .E 13 hs ?_
  refine .store hs rfl rfl ai ?_ cP (by simp;omega) (gZ ak sp _);intro w hs
  refine .go ?_
  refine .z 14 rfl (dH (k:=l.length - 1 - i) rfl rfl ae ai ak ak) ?_
  refine .E 15 hs ?_
  refine .store hs rfl rfl ai ?_ cP (by simp;omega) (gZ (by simp;omega) sp _);intro w hs
  refine .go ?_
  refine .D hs ?_
  refine nB (nT ?_)
  refine .region (.z zm (.z ck (.z zm (.z gL (.z zg (.z zg (.nil ?_)))))))
  refine nT ?_
  exact ⟨(i+1,_),.cons rfl (.bU rfl (by push_cast;omega) (.cons rfl (.nil rfl rfl))),⟨⟨by dsimp only;omega,h6.step ak⟩,hs⟩,by dsimp only;omega⟩
 ·refine .exit ?_
  refine xT (xT (xB ?_))
  rw [h6.done ak] at hs
  exact Fin.xu Tryz.results128 ⟨_,.inr ⟨b,l.length,cap,sp,rfl,rfl,bL,by rw [←h3];simp,h4⟩,hs⟩
inductive DB(s:cj)(xs:List Int):Int→Prop
 |bad (h:s.check≠0) (h1:xs=[]):DB s xs s.check
 |sound (h:s.Ok) (h1:s.Sound) (h2:xs=[]):DB s xs 0
 |chain {st:BS} {x:Arc} {z k:Nat} (h:s.Ok) (h1:¬s.Sound) (h2:Fo s.n s.dc st (some x)) (h3:z=oT st.by_ x.t (s.n+1)) (h4:1≤k) (h5:k≤s.n) (h6:oT st.by_ z k=z) (h7:xs=(vH st.by_ z k).reverse):DB s xs 0
theorem DB.sP{s:cj}{xs:List Int}(h:DB s xs 0):xs=[]↔s.Sound:=by
 generalize hz:(0:Int)=y at h
 cases h with
 |bad h=>exact (h hz.symm).elim
 |sound _ h1 h2=>exact ⟨fun _=>h1,fun _=>h2⟩
 | @chain st x z k _ h1 _ _ h4 _ _ h7=>exact ⟨fun h=>by
   have:=congrArg List.length (h7.symm.trans h)
   rw [List.length_reverse,ni] at this
   simp at this;omega,fun h=>(h1 h).elim⟩
theorem DB.err{s:cj}{xs:List Int}{e:Int}(h:DB s xs e):e=s.check:=by
 cases h with
 |bad=>rfl
 |sound h=>exact (s.cu.2 h).symm
 |chain h=>exact (s.cu.2 h).symm
set_option maxHeartbeats 4000000 in
theorem jQ{v:Value}{s:cj}(hs:St H w σ)(hr:RSy H v s):
  Cl Tryz.prog 51 [v] w fun u w'=>∃H1 vx xs e,HLe H H1∧u= .tuple #[vx,I e]∧RI H1 vx xs∧DB s xs e∧St H1 w' σ:=by
 obtain ⟨u,rfl,hr⟩:=hr
 obtain ⟨al,cl,rfl⟩:=RL.shape hr
 refine Cl.o Tryz.func51 Tryz.ntmps51 ag1 ?_
 refine .aj ?_
 refine .bx hs fun b1 w hs=>?_
 refine .z zg (.z zg (.nil (.seq (.aj (.y hs (zls [_,_] aN aB) ?_)))))
 refine .o (.call Tryz.call125 rfl (ib (s:=s) hs ⟨_,rfl,hr⟩) ?_);rintro _ w ⟨rfl,hs⟩
 refine .z zg (.nil (.aj (.z zm (.z gx (.nil ?_)))))
 refine (.eH rfl (fun hc14=>?_) (fun hc14=>?_))
 ·refine .aj (.z zm (.z zg (.z zg (.nil ?_))))
  refine .ret (rT (Fin.lq Tryz.results51 rfl rfl ?_))
  exact ⟨H,_,[],_,HLe.refl H,rfl,RS.nil H 1 none 0,.bad hc14 rfl,hs.out⟩
 ·refine .skip ?_
  refine nT ?_
  refine .seq (.draw mix rfl hs fun w hs=>?_)
  refine .z 0 rfl (zfa bI) ?_;refine .y 1 rfl hs af ?_;refine .ys 2 rfl hs [_,_] aN aB ?_
  refine .E 3 hs ?_
  have hok:s.Ok:=s.cu.1 (by simpa using hc14)
  have hoka:=hok.dc
  have hn:s.n=s.many.toNat+1:=rfl
  have hm0:=hok.m0
  have hm1:=hok.m1
  refine .call Tryz.call127 rfl (jN (s:=s) hs hok ⟨_,rfl,hr⟩) ?_;rintro _ w ⟨H1,b10,hle1,rfl,hit,hs⟩
  refine .go ?_
  refine .E 4 hs ?_
  have hnear:=iR (N:=s.many.toNat) hs ak (by rw [←hn];exact hoka) hit Tryz.call203
  rw [Int.toNat_of_nonneg hm0] at hnear
  refine .call Tryz.call126 rfl hnear ?_;rintro _ w ⟨H2,bc,bb,st,ov,vo,hle2,rfl,hov,hnr,hs⟩
  obtain ⟨a',rfl,ha'⟩:=hov.ptr
  refine .go ?_
  refine .z 5 rfl zm ?_;refine .z 6 rfl zex ?_;refine .z 7 rfl zex ?_;refine .z 8 rfl zex ?_;refine .z 9 rfl zg ?_;refine .z 10 rfl zg ?_;refine .z 11 rfl zg ?_;refine .D hs ?_
  refine .seq (.aj (.z zm ?_))
  refine .q hs (AR rfl rfl Tryz.runUnderlying183) ?_
  refine .nil ?_
  refine (.cond rfl (fun hc26=>?_) (fun hc26=>?_))
  ·refine .aj (.z zg (.z zg (.nil ?_)))
   refine .ret (rT (Fin.lq Tryz.results51 rfl rfl ?_))
   exact ⟨H2,_,[],0,hle1.trans hle2,rfl,RS.nil H2 1 none 0,.sound hok (by
    obtain ⟨r,hN2,hr2⟩:=hnr
    cases ov with
    |none=>exact ⟨_,(hN2.sol (by rw [←hn];exact hoka) ak).1⟩
    |some x=>rw [ha'] at hc26;cases hc26) rfl,hs.out⟩
  ·refine .skip ?_
   refine nT ?_
   refine .aj (.z zm ?_)
   obtain ⟨x,rfl⟩:=OvR.yes ha' hc26
   obtain ⟨b3,e3,hrow⟩:=hov
   cases e3
   have hrowT:cellAt H2 b3 1=some (I x.t):=hrow.at 1
   have hmn:s.many+2=((s.many.toNat+2:Nat):Int):=by omega
   have hns:¬s.Sound:=by
    obtain ⟨r,hN2,hr2⟩:=hnr
    exact hN2.none (by rw [←hn];exact hoka) ak (by have:=hr2 bL;omega)
   obtain ⟨hlb,hrg,hxt⟩:st.by_.length=s.many.toNat+1∧(∀v<s.many.toNat+1,(ga st.by_ v).f<s.many.toNat+1)∧x.t<s.many.toNat+1:=by
    obtain ⟨r,hN2,hr2⟩:=hnr
    exact ⟨hN2.lb,fun v hv=>(hN2.rg v hv).1,(hoka.2 x (hN2.ovm x rfl)).2.1⟩
   have hpl:=fun k=>vv hrg hxt k
   refine .z znc (.z (zfa dt) ?_)
   refine .q hs (aJ rfl af hrowT) ?_
   refine .z zg (.nil (.seq (.aj (.z (zfa bI) (.y hs (zld af) (.z ck ?_))))))
   rw [hmn]
   refine .z zm (.nil ?_)
   refine .for (N:=s.many.toNat+2) (J:=fun k fr w=>fr=[(8,I (oT st.by_ x.t k)),(6,.slice (some ⟨bb,0,none⟩) (s.many.toNat+1) (s.many.toNat+1))]∧St H2 w (.blk bc (Is st.cost):: .blk bb (iT st.by_):: .blk b1 [I s.many,.slice al s.bP.length cl]::σ)) ak ?_ ?_ ?_
   ·exact .mk ⟨rfl,hs⟩
   ·rintro k fr w hk ⟨rfl,hs⟩
    refine .block (.region (.z zm (.z zm ?_)))
    refine .q hs (uC (k:=oT st.by_ x.t k) rfl rfl aD aK rfl (hpl k)) ?_
    refine .z (zfa dn) ?_
    refine .q hs (dG rfl af (.there .here) (qq (j:=0) (by rw [hlb];exact hpl k) gd)) ?_
    refine .z zg (.nil ?_)
    refine nB (nT ?_)
    exact .mk ⟨rfl,hs.out⟩
   ·rintro fr w ⟨rfl,hs⟩
    obtain ⟨pd,hp1,hp2,hp3⟩:=zM hrg hxt (m:=s.many.toNat+2) ak
    have hzl:=hpl (s.many.toNat+2)
    generalize hz:oT st.by_ x.t (s.many.toNat+2)=z at hp3 hzl ⊢
    have hzk:=fun k=>vv hrg hzl k
    refine nT ?_
    refine .aj (.z zg (.nil (.seq (.aj (.z zm (.z zg (.nil (.block ?_))))))))
    refine .loop (fun p:Nat×Value=>⟨62,[],[(9,p.2),(8,I (oT st.by_ z p.1)),(10,I z),(6,.slice (some ⟨bb,0,none⟩) (s.many.toNat+1) (s.many.toNat+1))]⟩)
     (fun p w=>p.1<pd∧∃en,cf 1 p.2 (Is (vH st.by_ z p.1)) en∧St H2 w (en:: .blk bc (Is st.cost):: .blk bb (iT st.by_):: .blk b1 [I s.many,.slice al s.bP.length cl]::σ))
     (fun p=>pd - p.1) (0,.slice none 0 0) aR
     ⟨ak,_,.nil 1 none,hs.nul⟩ ?_
    rintro ⟨k,v9⟩ w ⟨hk,en,hO,hs⟩
    dsimp only at hk hO ⊢
    refine .block (.aj (.z zm (.z zm (.z zm ?_))))
    refine .q hs (uC (k:=oT st.by_ z k) rfl rfl aD aK rfl (hzk k)) ?_
    refine .z (zfa dM) ?_
    refine .q hs (dG rfl af (.there (.there .here)) (qq (j:=3) (by rw [hlb];exact hzk k) gd)) ?_
    refine .o (.buildSlice (cells:=[_]) hs cQ rfl rfl fun b49 w hs=>?_)
    refine .o (.append (ys:=[I (ga st.by_ (oT st.by_ z k)).l]) hs bZ rfl rfl hO (.own .here rfl rfl) (by simp [Value.oneCell']) (fun l' h=>by simp [vH] at h;omega) ?_);intro v50 en50 w hO2 hs
    refine .z zg (.nil (.aj (.z zm (.z zm ?_))))
    refine .q hs (uC (k:=oT st.by_ z k) rfl rfl aD aK rfl (hzk k)) ?_
    refine .z (zfa dn) ?_
    refine .q hs (dG rfl af (by repeat (first|exact .here|refine .there ?_)) (qq (j:=0) (by rw [hlb];exact hzk k) gd)) ?_
    refine .z zg (.nil (.aj (.z zm (.z zm (.z fo (.nil ?_))))))
    refine (.bB rfl (fun hc58=>?_) (fun hc58=>?_))
    ·refine .exit ?_
     refine xN (xT (xB (nT ?_)))
     refine .aj (.z zm ?_)
     have hO3:cf 1 v50 (Is (vH st.by_ z (k+1))) en50:=by rw [uK];simpa [Is] using hO2
     have hkz:oT st.by_ z (k+1)=z:=by
      have h3:((ga st.by_ (oT st.by_ z k)).f:Int)=z:=by simpa using hc58
      show (ga st.by_ (oT st.by_ z k)).f=z
      omega
     refine .o (.call Tryz.call128 rfl (kO hs hO3 (by rw [ni];omega)) ?_);rintro _ w ⟨en',hO4,hs⟩
     refine .nil (.aj (.z zm (.z zg (.z zg (.nil ?_)))))
     refine .ret (Fin.lq Tryz.results51 rfl rfl ?_)
     obtain ⟨H3,hle3,hRI,hs⟩:=cf.de hO4 (by rw [List.length_reverse,ni];omega) hs .here
     exact ⟨H3,_,_,0,hle1.trans (hle2.trans hle3),rfl,hRI,.chain hok hns (by rw [hn];exact hnr) (by rw [hn];exact hz.symm) ak ak hkz rfl,hs.sb⟩
    ·refine .skip ?_
     refine nB (nT ?_)
     exact ⟨(k+1,v50),aR,⟨by
      dsimp only
      have:k+1≠pd:=fun e=>hc58 (congrArg (Nat.cast:Nat→Int) (show oT st.by_ z (k+1)=z by rw [e];exact hp3))
      omega,en50,by rw [uK];simpa [Is] using hO2,hs.sb⟩,by dsimp only;omega⟩
theorem mr{v:Value}{s:cj}(hs:St H w σ)(hr:RSy H v s):
  Cl Tryz.prog 210 [v] w fun u w'=>∃H1 vt e,HLe H H1∧u= .tuple #[vt,I e]∧((s.check≠0∧e=s.check∧vt= .slice none 0 0)∨(s.Ok∧¬s.Sound∧e=23∧vt= .slice none 0 0)∨(s.Ok∧s.Sound∧e=0∧∃rs,RT H1 vt rs∧Sq s.n rs∧iw s.n s.dc (gt rs)))∧St H1 w' σ:=by
 obtain ⟨ul,rfl,hl⟩:=hr
 obtain ⟨al,cl,rfl⟩:=RL.shape hl
 refine Cl.o Tryz.func210 Tryz.ntmps210 ag1 ?_
 refine .aj ?_
 refine .bx hs fun b1 w hs=>?_
 refine .z zg (.z zg (.nil (.aj (.y hs (zls [_,_] aN aB) ?_))))
 refine .o (.call Tryz.call182 rfl (mu (s:=s) hs ⟨_,rfl,hl⟩) ?_);rintro _ w ⟨rfl,hs⟩
 refine .z zg (.nil (.seq (.aj (.z zm (.z gx (.nil ?_))))))
 refine (.eH rfl (fun hc9=>?_) (fun hc9=>?_))
 ·refine .aj (.z zm (.z zg (.z zg (.nil ?_))))
  refine .ret (rT (Fin.lq Tryz.results210 rfl rfl ?_))
  exact ⟨H,_,_,HLe.refl H,rfl,.inl ⟨hc9,rfl,rfl⟩,hs.out⟩
 ·refine .skip ?_
  refine nT ?_
  refine .aj (.y hs (zls [_,_] aN aB) ?_)
  have hok:s.Ok:=s.cu.1 (by simpa using hc9)
  have hm1:=hok.m1
  refine .o (.call Tryz.call226 rfl (nb (s:=s) hs ⟨_,rfl,hl⟩ hok) ?_);rintro v12 w ⟨H1,rs,hle1,hRT,hSq,hWT,hs⟩
  obtain ⟨at',ct,rfl⟩:=hRT.shape
  refine .z zg (.nil (.seq (.aj (.z zm ?_))))
  refine .o (.call Tryz.call233 rfl (mq hs hRT hSq (by simp only [cj.n];omega)) ?_);rintro _ w ⟨b,rfl,hb,hs⟩
  have hbs:=hb.trans (ux hok hWT).symm
  refine .z gV (.nil ?_)
  refine (.cond rfl (fun hc15=>?_) (fun hc15=>?_))
  ·refine .aj (.z zg (.z zg (.nil ?_)))
   refine .ret (rT (Fin.lq Tryz.results210 rfl rfl ?_))
   exact ⟨H1,_,_,hle1,rfl,.inr (.inl ⟨hok,fun h=>by simp [hbs.2 h] at hc15,rfl,rfl⟩),hs.out⟩
  ·refine .skip ?_
   refine nT ?_
   refine .aj (.z zm (.z zg (.z zg (.nil ?_))))
   refine .ret (Fin.lq Tryz.results210 rfl rfl ?_)
   exact ⟨H1,_,_,hle1,rfl,.inr (.inr ⟨hok,hbs.1 (by simpa using hc15),rfl,rs,hRT,hSq,hWT⟩),hs.out⟩
end Go.Proofs.YtddaejgfjlneoaaGreat
namespace Go.Proofs
open Go.Shelf
def Tryz.xW:Go.Shelf.Ren:=⟨fun|189=>138|125=>209|257=>208|128=>262|129=>263|294=>253|295=>254|296=>255|297=>256|298=>257|299=>258|216=>259|300=>260|301=>261|328=>282|329=>283|330=>284|331=>285|332=>286|215=>287|343=>296|n=>n,fun|28=>22|3=>3|46=>250|0=>0|51=>285|53=>287|4=>4|183=>279|182=>278|131=>282|5=>5|9=>9|218=>304|222=>308|228=>318|229=>275|n=>n,fun|n=>n⟩
theorem Tryz.Bd:Go.Proofs.Lays.n189 Tryz.prog Tryz.xW:={
 mixed:=by kernel_rfl
 f125:=Tryz.func209.trans (congrArg some (by kernel_rfl))
 f128:=Tryz.func262.trans (congrArg some (by kernel_rfl))
 f129:=Tryz.func263.trans (congrArg some (by kernel_rfl))
 f189:=Tryz.func138.trans (congrArg some (by kernel_rfl))
 f215:=Tryz.func287.trans (congrArg some (by kernel_rfl))
 f216:=Tryz.func259.trans (congrArg some (by kernel_rfl))
 f257:=Tryz.func208.trans (congrArg some (by kernel_rfl))
 f294:=Tryz.func253.trans (congrArg some (by kernel_rfl))
 f295:=Tryz.func254.trans (congrArg some (by kernel_rfl))
 f296:=Tryz.func255.trans (congrArg some (by kernel_rfl))
 f297:=Tryz.func256.trans (congrArg some (by kernel_rfl))
 f298:=Tryz.func257.trans (congrArg some (by kernel_rfl))
 f299:=Tryz.func258.trans (congrArg some (by kernel_rfl))
 f300:=Tryz.func260.trans (congrArg some (by kernel_rfl))
 f301:=Tryz.func261.trans (congrArg some (by kernel_rfl))
 f328:=Tryz.func282.trans (congrArg some (by kernel_rfl))
 f329:=Tryz.func283.trans (congrArg some (by kernel_rfl))
 f330:=Tryz.func284.trans (congrArg some (by kernel_rfl))
 f331:=Tryz.func285.trans (congrArg some (by kernel_rfl))
 f332:=Tryz.func286.trans (congrArg some (by kernel_rfl))
 f343:=Tryz.func296.trans (congrArg some (by kernel_rfl))
 t0:=Tryz.underlying0
 a0:=Tryz.isAgg0
 z0:=Tryz.sizeOf0
 v0:=Tryz.zeroValue0
 t3:=Tryz.underlying3
 a3:=Tryz.isAgg3
 z3:=Tryz.sizeOf3
 v3:=Tryz.zeroValue3
 t4:=Tryz.underlying4
 a4:=Tryz.isAgg4
 z4:=Tryz.sizeOf4
 v4:=Tryz.zeroValue4
 t5:=Tryz.underlying5
 a5:=Tryz.isAgg5
 z5:=Tryz.sizeOf5
 v5:=Tryz.zeroValue5
 t9:=Tryz.underlying9
 a9:=Tryz.isAgg9
 z9:=Tryz.sizeOf9
 v9:=Tryz.zeroValue9
 t28:=Tryz.underlying22
 a28:=Tryz.isAgg22
 z28:=Tryz.sizeOf22
 v28:=Tryz.zeroValue22
 t46:=Tryz.underlying250
 a46:=Tryz.isAgg250
 z46:=Tryz.sizeOf250
 v46:=Tryz.zeroValue250
 t51:=Tryz.underlying285
 a51:=Tryz.isAgg285
 z51:=Tryz.sizeOf285
 v51:=Tryz.zeroValue285
 t53:=Tryz.underlying287
 a53:=Tryz.isAgg287
 z53:=Tryz.sizeOf287
 v53:=Tryz.zeroValue287
 t131:=Tryz.underlying282
 a131:=Tryz.isAgg282
 z131:=Tryz.sizeOf282
 v131:=Tryz.zeroValue282
 t182:=Tryz.underlying278
 a182:=Tryz.isAgg278
 z182:=Tryz.sizeOf278
 v182:=Tryz.zeroValue278
 t183:=Tryz.underlying279
 a183:=Tryz.isAgg279
 z183:=Tryz.sizeOf279
 v183:=Tryz.zeroValue279
 t218:=Tryz.underlying304
 a218:=Tryz.isAgg304
 z218:=Tryz.sizeOf304
 v218:=Tryz.zeroValue304
 t222:=Tryz.underlying308
 a222:=Tryz.isAgg308
 z222:=Tryz.sizeOf308
 v222:=Tryz.zeroValue308
 t228:=Tryz.underlying318
 a228:=Tryz.isAgg318
 z228:=Tryz.sizeOf318
 v228:=Tryz.zeroValue318
 t229:=Tryz.underlying275
 a229:=Tryz.isAgg275
 z229:=Tryz.sizeOf275
 v229:=Tryz.zeroValue275}
def Tryz.wV:Go.Shelf.Ren:=⟨fun|20=>139|n=>n,fun|22=>22|3=>3|4=>4|0=>0|n=>n,fun|n=>n⟩
theorem Tryz.yK:Go.Proofs.Lays2.n20 Tryz.prog Tryz.wV:={
 mixed:=by kernel_rfl
 f20:=Tryz.func139.trans (congrArg some (by kernel_rfl))
 t0:=Tryz.underlying0
 a0:=Tryz.isAgg0
 z0:=Tryz.sizeOf0
 v0:=Tryz.zeroValue0
 t3:=Tryz.underlying3
 a3:=Tryz.isAgg3
 z3:=Tryz.sizeOf3
 v3:=Tryz.zeroValue3
 t4:=Tryz.underlying4
 a4:=Tryz.isAgg4
 z4:=Tryz.sizeOf4
 v4:=Tryz.zeroValue4
 t22:=Tryz.underlying22
 a22:=Tryz.isAgg22
 z22:=Tryz.sizeOf22
 v22:=Tryz.zeroValue22
 i3:=by kernel_rfl}
end Go.Proofs
namespace Go.Proofs.YtddaejgfjlneoaaGreat
open Go.Sort Go.RowKit
theorem B9(blk off cap:Nat)(zs:List Int)(w:World)(hH:Holds (Value.int .i64) w blk off zs.toArray)(hblk:blk<w.heap.size)(hsz:zs.length<4611686018427387904):
  Calls Tryz.prog 138 #[.slice (some ⟨blk,off,none⟩) zs.length cap] w fun e w'=>e= .returned (.tuple #[])∧∃n os,w'=grow (putRow (Value.int .i64) (Sort.ahead w n) blk off (zs.mergeSort fun x y=>decide (x≤y)).toArray) os:=
 Any.slices_Sort_int Tryz.Bd blk off cap zs w hH hblk hsz
theorem ve(p:Option Addr)(cap:Nat)(w:World):Calls Tryz.prog 138 #[.slice p 0 cap] w fun e w'=>e= .returned (.tuple #[])∧w'=w:=
 Any.slices_Sort_int_none Tryz.Bd p cap w
theorem xE(blk off cap:Nat)(zs:List Int)(w:World)(hH:Holds (Value.int .i64) w blk off zs.toArray)(hsz:zs.length≤9223372036854775807)(hcap:zs.length≤cap):
  Calls Tryz.prog 139 #[.slice (some ⟨blk,off,none⟩) zs.length cap] w fun e w'=>e= .returned (.slice (some ⟨blk,off,none⟩) (Lib.compact zs).length cap)∧∃q,w'=putRow (Value.int .i64) (Sort.ahead w q) blk off (Lib.compact zs++List.replicate (zs.length - (Lib.compact zs).length) 0).toArray:=
 Any.slices_Compact_int Tryz.yK blk off cap zs w hH hsz hcap
theorem rE(p:Option Addr)(cap:Nat)(w:World):Calls Tryz.prog 139 #[.slice p 0 cap] w fun e w'=>e= .returned (.slice p 0 cap)∧w'=w:=
 Any.slices_Compact_int_empty Tryz.yK p cap w
end Go.Proofs.YtddaejgfjlneoaaGreat
namespace Go.Proofs.YtddaejgfjlneoaaGreat
open Go.MW
variable{H:bX}{w:World}{σ:List Ent}
theorem rG{v:Value}{ls:List Int}{x:Int}(hs:St H w σ)(hr:RI H v ls):
  Cl Tryz.prog 205 [v,I x] w fun u w'=>∃i,u=I i∧(0≤i↔x∈ls)∧St H w' σ:=by
 obtain ⟨a,c,rfl⟩:=RI.shape hr
 have hl:=(RI.len hr).2.2
 refine Cl.o Tryz.func205 Tryz.ntmps205 ag2 ?_
 refine .aj (.z zg (.nil (.seq (.aj (.z zm (.z (cB ae) (.z zm (.nil ?_))))))))
 refine .for (N:=ls.length) (J:=fun k fr w=>fr=[(1,I x),(0,.slice a ls.length c)]∧St H w σ∧∀j<k,∀y,ls[j]? =some y→¬x=y) ak ?_ ?_ ?_
 ·exact .mk ⟨rfl,hs,fun j hj=>by omega⟩
 ·rintro k fr w hk ⟨rfl,hs,hno⟩
  obtain ⟨y,hy⟩:=nth hk
  refine .block (.aj (.z zm (.z zg (.nil (.aj (.z zm (.z zm (.z zm ?_))))))))
  refine .ixY hs hr rfl rfl ae ai hy rfl ?_;intro b14 o14 hc14
  refine .q hs (aJ rfl af hc14) ?_
  refine .z fo (.nil ?_)
  refine (.bB rfl (fun hc16=>?_) (fun hc16=>?_))
  ·refine .aj (.z zm (.z zg (.nil ?_)))
   refine .ret (rB (rT (rB (rT (Fin.bH Tryz.results205 rfl ?_)))))
   exact ⟨_,rfl,⟨fun _=>by rw [hc16];exact List.mem_of_getElem? hy,fun _=>by omega⟩,hs⟩
  ·refine .skip ?_
   refine nB (nT ?_)
   exact .mk ⟨rfl,hs,e9 hno hy hc16⟩
 ·rintro fr w ⟨rfl,hs,hno⟩
  refine nT ?_
  refine .aj (.z zg (.nil ?_))
  refine .ret (Fin.bH Tryz.results205 rfl ?_)
  exact ⟨_,rfl,⟨fun h=>by omega,fun h=>by
   obtain ⟨j,hj⟩:=List.getElem?_of_mem h
   exact (hno j (List.getElem?_eq_some_iff.1 hj).1 x hj rfl).elim⟩,hs⟩
theorem im{v:Value}{ls:List Int}{x:Int}(hs:St H w σ)(hr:RI H v ls):
  Cl Tryz.prog 130 [v,I x] w fun u w'=>u= .bool (decide (x∈ls))∧St H w' σ:=by
 refine Cl.o Tryz.func130 Tryz.ntmps130 ag2 ?_
 refine .aj (.z zg (.nil (.aj (.z zm (.z zm ?_)))))
 refine .o (.call Tryz.call205 rfl (rG hs hr) ?_);rintro _ w ⟨i,rfl,hi,hs⟩
 refine .z xt (.z zg (.nil ?_))
 refine .ret (Fin.bH Tryz.results130 rfl ?_)
 exact ⟨by simp only [hi],hs⟩
set_option maxHeartbeats 1000000 in
theorem nt{v:Value}{s:cj}{g:Nat}{cap:List Value}(q:Nat→Lim→Bool)(hs:St H w σ)(hr:RSy H v s)(hlen:s.bP.length≤4398046510976)(hc:∀args w,(callFunc g args).run Tryz.prog w= .ok (.enter g args) w)
  (hp:∀w σ (k:Nat) (l:Lim),s.bP[k]? =some l→St H w σ→Cl Tryz.prog g ([I k,.agg l.c.toArray]++cap) w fun u w'=>u= .bool (q k l)∧St H w' σ):
  Cl Tryz.prog 131 [v,.func (.func g) #[] cap.toArray] w fun u w'=>∃H1,HLe H H1∧RSy H1 u ⟨s.many,jW q s.bP s.bP.length⟩∧St H1 w' σ:=by
 obtain ⟨ul,rfl,hl⟩:=hr
 obtain ⟨al,cl,rfl⟩:=RL.shape hl
 refine Cl.o Tryz.func131 Tryz.ntmps131 ag2 ?_
 refine .aj ?_
 refine .bx hs fun b2 w hs=>?_
 refine .o (.alloc hs bV rfl fun b4 w hs=>?_)
 refine .nil (.aj (.z (zfa bI) (.y hs (zld af) (.z (zbd [_,_] fF) ?_))))
 refine .o (.alloc hs bV rfl fun b5 w hs=>?_)
 refine .o (.aZ (vs:=[_,_]) hs rfl rfl aB fun w hs=>?_)
 refine .nil (.seq (.aj (.z (zfa bE) (.y hs (zld cA) (.z (cB aI) (.z zm (.nil ?_)))))))
 refine .for (N:=s.bP.length) (J:=fun k fr w=>fr=[(12,.slice al s.bP.length cl),(1,.func (.func g) #[] cap.toArray),(5,.pointer (some ⟨b5,0,none⟩)),(4,.pointer (some ⟨b4,0,none⟩))]∧∃vL en,cf 4 vL (fV (jW q s.bP k)) en∧St H w (.blk b5 [I s.many,vL]:: .blk b4 [I 0,.slice none 0 0]::en::σ)) ak ?_ ?_ ?_
 ·exact .mk ⟨rfl,_,_,.nil 4 none,hs.nul.sb⟩
 ·rintro k fr w hk ⟨rfl,vL,en,hO,hs⟩
  obtain ⟨x,hx⟩:=nth (l:=s.bP) hk
  obtain ⟨aL,lL,cL,rfl,hL⟩:=hO.shape
  have hpl:=mc q s.bP k
  refine .block (.aj (.z zm ?_))
  refine .ixX hs hl rfl rfl aI aS hx rfl ?_;intro b17 o17 hc17
  refine .q hs (cI (vs:=x.c) rfl fj aS hc17) ?_
  refine .o (.alloc hs fm rfl fun b7 w hs=>?_)
  refine .z zg ?_
  refine .o (.aZ (vs:=x.c) hs rfl rfl aS fun w hs=>?_)
  refine .nil (.aj (.z zm (.z zm (.y hs (zls [_,_,_,_] fj aS) ?_))))
  refine .o (.o8 (first:=[]) (cap:=cap) rfl rfl hc (hp _ _ k x hx hs) ?_);rintro _ w ⟨rfl,hs⟩
  refine .nil ?_
  refine (.cond rfl (fun hc22=>?_) (fun hc22=>?_))
  ·refine .region (.z (zfa bE) (.y hs (zld cA) (.y hs (zls [_,_,_,_] fj aS) ?_)))
   refine .o (.buildSlice (cells:=x.c) hs k7 rfl rfl fun b26 w hs=>?_)
   refine .o (.append (ys:=x.c) hs bM rfl rfl hO (.own .here rfl rfl) (by simp [Lim.c,Value.oneCell']) (fun l h=>by rw [dx] at h;omega) ?_);intro v27 en27 w hO2 hs
   obtain ⟨a27,l27,c27,rfl,h27⟩:=hO2.shape
   refine .z (zfa bE) ?_
   refine .o (.store hs rfl rfl j7 fun w hs=>?_)
   refine .nil ?_
   refine nB (nT ?_)
   have e:jW q s.bP (k+1)=jW q s.bP k++[x]:=by rw [oS hx,if_pos hc22]
   rw [←zo,←fG,←e] at hO2
   exact .mk ⟨rfl,_,_,hO2,hs.sb⟩
  ·refine .skip ?_
   refine nB (nT ?_)
   have e:jW q s.bP (k+1)=jW q s.bP k:=by rw [oS hx,hc22];simp
   exact .mk ⟨rfl,_,_,by rw [e];exact hO,hs.sb⟩
 ·rintro fr w ⟨rfl,vL,en,hO,hs⟩
  obtain ⟨aL,lL,cL,rfl,hL⟩:=hO.shape
  have hpl:=mc q s.bP s.bP.length
  refine nT ?_
  refine .aj (.y hs (zls [_,_] aN aB) ?_)
  refine .o (.aZ (vs:=[_,_]) hs rfl rfl aB fun w hs=>?_)
  refine .nil ?_
  refine .ret ?_
  obtain ⟨H1,g1,r1,hs⟩:=cf.cq (m:=4) (cs:=(jW q s.bP s.bP.length).map Lim.c) hO (fun c hc=>by simp only [List.mem_map] at hc;obtain ⟨x,_,rfl⟩:=hc;rfl) ak (by rw [List.length_map];omega) hs cP
  exact Fin.iA [] [] hs fun w hs=>⟨_,results1 Tryz.results131 (dF (vs:=[_,_]) hs rfl aN aB),H1,g1,⟨_,rfl,r1⟩,hs.out⟩
theorem tD{b:Nat}{i:Int}{l:Lim}{vb:Value}{bs:List Int}(hs:St H w σ)(hb:Row H b [vb])(hr:RI H vb bs):
  Cl Tryz.prog 207 [I i,.agg l.c.toArray,.pointer (some ⟨b,0,none⟩)] w fun u w'=>u= .bool (!decide (l.S∈bs))∧St H w' σ:=by
 have hb0:cellAt H b 0=some vb:=by rw [hb.cell];rfl
 refine Cl.o Tryz.func207 Tryz.ntmps207 ag3 ?_
 refine .aj ?_
 refine .bx hs fun b4 w hs=>?_
 refine .z zg (.nil (.aj (.y hs (zld an) (.z (zfa gj) (.y hs (zld af) ?_)))))
 refine .o (.call Tryz.call130 rfl (im hs hr) ?_);rintro _ w ⟨rfl,hs⟩
 refine .z gV (.z zg (.nil ?_))
 refine .ret (Fin.bH Tryz.results207 rfl ?_)
 exact ⟨rfl,hs.out⟩
theorem kY{v vb:Value}{s:cj}{bs:List Int}(hs:St H w σ)(hr:RSy H v s)(hb:RI H vb bs)(hlen:s.bP.length≤4398046510976):
  Cl Tryz.prog 136 [v,vb] w fun u w'=>∃H1,HLe H H1∧RSy H1 u (s.wo bs)∧St H1 w' σ:=by
 obtain ⟨ul,rfl,hl⟩:=hr
 obtain ⟨al,cl,rfl⟩:=RL.shape hl
 obtain ⟨ab,cb,rfl⟩:=RI.shape hb
 refine Cl.o Tryz.func136 Tryz.ntmps136 ag2 ?_
 refine .aj ?_
 refine .bx hs fun b2 w hs=>?_
 refine .bx hs fun b3 w hs=>?_
 refine .o (.alloc hs bV rfl fun b4 w hs=>?_)
 refine .nil (.aj (.y hs (zls [_,_] aN aB) ?_))
 refine .q hs (du (f:=[]) (c:=[_]) rfl rfl) ?_
 obtain ⟨H1,hle1,r3,hs⟩:=hs.cq (b:=b3) cP
 refine .o (.call Tryz.call131 rfl (nt (g:=207) (cap:=[.pointer (some ⟨b3,0,none⟩)]) (s:=s) (fun _ l=> !decide (l.S∈bs)) hs ⟨_,rfl,hl.mono hle1⟩ hlen Tryz.call207 (fun w σ k l _ hs=>tD hs r3 (hb.mono hle1))) ?_);rintro _ w ⟨H2,hle2,⟨u7,rfl,hL7⟩,hs⟩
 rw [uD] at hL7
 obtain ⟨a7,c7,rfl⟩:=RL.shape hL7
 refine .o (.aZ (vs:=[_,_]) hs rfl rfl aB fun w hs=>?_)
 refine .nil ?_
 refine .ret ?_
 exact Fin.iA [] [] hs fun w hs=>⟨_,results1 Tryz.results136 (dF (vs:=[_,_]) hs rfl aN aB),H2,hle1.trans hle2,⟨_,rfl,hL7⟩,hs.out⟩
theorem sQ{b cap:Nat}{xs:List Int}{sp:List Value}(hs:St H w (.blk b (Is xs++sp)::σ))(hl:xs.length≤17592186044416):
  Cl Tryz.prog 138 [.slice (some ⟨b,0,none⟩) xs.length cap] w fun u w'=>u= .tuple #[]∧St H w' (.blk b (Is (xs.mergeSort fun x y=>decide (x≤y))++sp)::σ):=
 (B9 b 0 cap xs w hs.holds (hs.lt .here) ak).mono fun e w' ⟨he,m,os,hw⟩=>⟨_,he,rfl,by
  rw [hw]
  exact (hs.putRow (List.length_mergeSort _)).grow os⟩
theorem rF{a:Option Addr}{cap:Nat}(hs:St H w σ):
  Cl Tryz.prog 138 [.slice a 0 cap] w fun u w'=>u= .tuple #[]∧St H w' σ:=
 (ve a cap w).mono fun e w' ⟨he,hw⟩=>⟨_,he,rfl,by rw [hw];exact hs⟩
theorem pH{b cap:Nat}{xs:List Int}{sp:List Value}(hs:St H w (.blk b (Is xs++sp)::σ))(hl:xs.length≤17592186044416)(hcap:xs.length≤cap):
  Cl Tryz.prog 139 [.slice (some ⟨b,0,none⟩) xs.length cap] w fun u w'=>u= .slice (some ⟨b,0,none⟩) (Go.Lib.compact xs).length cap∧St H w' (.blk b (Is (Go.Lib.compact xs)++(Is (List.replicate (xs.length - (Go.Lib.compact xs).length) 0)++sp))::σ):=
 (xE b 0 cap xs w hs.holds ak hcap).mono fun e w' ⟨he,m,hw⟩=>⟨_,he,rfl,by
  rw [hw]
  have h:=Go.Lib.compact_length_le xs
  have:=hs.putRow (m:=m) (ys:=Go.Lib.compact xs++List.replicate (xs.length - (Go.Lib.compact xs).length) 0) (by simp;omega)
  have e2:Is (Go.Lib.compact xs++List.replicate (xs.length - (Go.Lib.compact xs).length) 0)=Is (Go.Lib.compact xs)++Is (List.replicate (xs.length - (Go.Lib.compact xs).length) 0):=List.map_append
  rw [e2,List.append_assoc] at this
  exact this⟩
theorem oN{a:Option Addr}{cap:Nat}(hs:St H w σ):
  Cl Tryz.prog 139 [.slice a 0 cap] w fun u w'=>u= .slice a 0 cap∧St H w' σ:=
 (rE a cap w).mono fun e w' ⟨he,hw⟩=>⟨_,he,rfl,by rw [hw];exact hs⟩
theorem uf{v:Value}{xs:List Int}{en:Ent}(hs:St H w (en::σ))(hO:cf 1 v (Is xs) en)(hl:xs.length≤17592186044416):
  Cl Tryz.prog 204 [v] w fun u w'=>∃L en',cf 1 u (Is L) en'∧L.length≤xs.length∧j6 (fun x=>x∈xs) L∧St H w' (en'::σ):=by
 rcases hO with ⟨a,rfl,h0,rfl⟩|⟨b,len,cap,sp,rfl,rfl,h3,h4,h5⟩
 ·have hx:xs=[]:=by simpa using h0
  subst hx
  refine Cl.o Tryz.func204 Tryz.ntmps204 ag1 ?_
  refine .aj (.z zg (.nil (.aj (.z zm ?_))))
  refine .o (.call Tryz.call138 rfl (rF hs) ?_);rintro _ w ⟨rfl,hs⟩
  refine .nil (.aj (.z zm ?_))
  refine .o (.call Tryz.call139 rfl (oN hs) ?_);rintro _ w ⟨rfl,hs⟩
  refine .z zg (.nil ?_)
  refine .ret (Fin.bH Tryz.results204 rfl ?_)
  exact ⟨[],_,.nil 1 a,bL,.nil bL,hs.out⟩
 ·obtain rfl:len=xs.length:=by simpa using h3.symm
  refine Cl.o Tryz.func204 Tryz.ntmps204 ag1 ?_
  refine .aj (.z zg (.nil (.aj (.z zm ?_))))
  refine .o (.call Tryz.call138 rfl (sQ hs hl) ?_);rintro _ w ⟨rfl,hs⟩
  refine .nil (.aj (.z zm ?_))
  have hml:(xs.mergeSort fun x y=>decide (x≤y)).length=xs.length:=List.length_mergeSort _
  rw [←hml]
  refine .o (.call Tryz.call139 rfl (pH hs ak ak) ?_);rintro _ w ⟨rfl,hs⟩
  refine .z zg (.nil ?_)
  refine .ret (Fin.bH Tryz.results204 rfl ?_)
  have hcl:=Go.Lib.compact_length_le (xs.mergeSort fun x y=>decide (x≤y))
  have h4':xs.length+sp.length=cap:=by simpa using h4
  exact ⟨_,_,.inr ⟨b,_,cap,Is (List.replicate ((xs.mergeSort fun x y=>decide (x≤y)).length - (Go.Lib.compact (xs.mergeSort fun x y=>decide (x≤y))).length) 0)++sp,rfl,rfl,bL,by simp;omega,ak⟩,ak,xG,hs⟩
theorem iS{v:Value}{s:cj}(hs:St H w σ)(hr:RSy H v s)(hlen:s.bP.length≤4398046510976):
  Cl Tryz.prog 129 [v] w fun u w'=>∃L en,cf 1 u (Is L) en∧L.length≤s.bP.length∧j6 (BV s.bP) L∧St H w' (en::σ):=by
 obtain ⟨ul,rfl,hl⟩:=hr
 obtain ⟨al,cl,rfl⟩:=RL.shape hl
 refine Cl.o Tryz.func129 Tryz.ntmps129 ag1 ?_
 refine .aj ?_
 refine .bx hs fun b1 w hs=>?_
 refine .z zg (.nil (.aj (.z zg (.nil (.seq (.aj (.z (zfa bE) (.y hs (zld cA) (.z (cB aI) ?_)))))))))
 refine .z zm (.nil ?_)
 refine .for (N:=s.bP.length) (J:=fun k fr w=>∃v3 en,cf 1 v3 (Is ((s.bP.take k).map Lim.S)) en∧fr=[(3,v3),(7,.slice al s.bP.length cl)]∧St H w (en::σ)) ak ?_ ?_ ?_
 ·exact .mk ⟨_,_,.nil 1 none,rfl,hs.nul.sb⟩
 ·rintro k fr w hk ⟨v3,en,hO,rfl,hs⟩
  obtain ⟨x,hx⟩:=nth (l:=s.bP) hk
  obtain ⟨a3,l3,c3,rfl,h3⟩:=hO.shape
  refine .block (.aj ?_)
  refine .ixX hs hl rfl rfl aI aS hx rfl ?_;intro b11 o11 hc11
  refine .q hs (cI (vs:=x.c) rfl fj aS hc11) ?_
  refine .o (.alloc hs fm rfl fun b5 w hs=>?_)
  refine .o (.aZ (vs:=x.c) hs rfl rfl aS fun w hs=>?_)
  refine .nil (.region (.z zm (.z (zfa gj) (.y hs (zld af) ?_))))
  refine .o (.buildSlice (cells:=[_]) hs cQ rfl rfl fun b16 w hs=>?_)
  refine .o (.append (ys:=Is [x.S]) hs bZ rfl rfl hO (.own .here rfl rfl) (gU _) (fun l' h=>by simp at h;omega) ?_);intro v17 en17 w hO2 hs
  rw [←List.map_append] at hO2
  refine .z zg (.nil ?_)
  refine nB (nT ?_)
  exact .mk ⟨_,_,by rw [dh hx,List.map_append];exact hO2,rfl,hs.sb⟩
 ·rintro fr w ⟨v3,en,hO,rfl,hs⟩
  rw [List.take_length] at hO
  refine nT ?_
  refine .aj (.z zm ?_)
  refine .o (.call Tryz.call204 rfl (uf hs hO (by rw [List.length_map];omega)) ?_);rintro v20 w ⟨L,en',hO',hL,hR,hs⟩
  rw [List.length_map] at hL
  refine .z zg (.nil ?_)
  refine .ret (Fin.bH Tryz.results129 rfl ?_)
  exact ⟨L,en',hO',hL,hR.congr fun x=>by simp [BV],hs⟩
theorem nS{v:Value}{en:Ent}{xs:List Int}{g:Nat}{cap:List Value}(q:Int→Bool)(hs:St H w (en::σ))(hO:cf 1 v (Is xs) en)(hl:xs.length≤17592186044416)(hc:∀args w,(callFunc g args).run Tryz.prog w= .ok (.enter g args) w)
  (hp:∀H' w σ (n:Int),n∈xs→HLe H H'→St H' w σ→Cl Tryz.prog g ([I n]++cap) w fun u w'=>∃H1,HLe H' H1∧u= .bool (q n)∧St H1 w' σ):
  Cl Tryz.prog 206 [v,.func (.func g) #[] cap.toArray] w fun u w'=>∃H1 i,HLe H H1∧u=I i∧((i= -1∧∀x∈xs,q x=false)∨(∃(k:Nat) (x:Int),i=k∧xs[k]? =some x∧q x=true∧∀j<k,∀y,xs[j]? =some y→q y=false))∧St H1 w' (en::σ):=by
 obtain ⟨a,c,rfl⟩:=hO.uy
 refine Cl.o Tryz.func206 Tryz.ntmps206 ag2 ?_
 refine .aj (.z zg (.nil (.seq (.aj (.z zm (.z (cB ae) (.z zm (.nil ?_))))))))
 refine .for (N:=xs.length) (J:=fun k fr w=>fr=[(1,.func (.func g) #[] cap.toArray),(0,.slice a xs.length c)]∧∃H1,HLe H H1∧(∀j<k,∀y,xs[j]? =some y→q y=false)∧St H1 w (en::σ)) ak ?_ ?_ ?_
 ·exact .mk ⟨rfl,H,HLe.refl H,fun j hj=>by omega,hs⟩
 ·rintro k fr w hk ⟨rfl,H1,hle1,hno,hs⟩
  have hx:=bn hk
  obtain ⟨b,c',sp,hv,rfl,_⟩:=hO.blk ak
  cases hv
  refine .block (.aj (.z zm (.z zg (.nil (.aj (.z zm (.z zm (.z zm (.z (zix ae ai) ?_)))))))))
  refine .q hs (dG rfl af (hv:=fB hk sp)) ?_
  refine .o (.o8 (first:=[]) (cap:=cap) rfl rfl hc (hp _ _ _ (gi xs k) (List.mem_of_getElem? hx) hle1 hs) ?_);rintro _ w ⟨H2,hle2,rfl,hs⟩
  refine .nil ?_
  refine (.cond rfl (fun hc16=>?_) (fun hc16=>?_))
  ·refine .aj (.z zm (.z zg (.nil ?_)))
   refine .ret (rB (rT (rB (rT (Fin.bH Tryz.results206 rfl ?_)))))
   exact ⟨H2,_,hle1.trans hle2,rfl,.inr ⟨k,_,rfl,hx,hc16,hno⟩,hs⟩
  ·refine .skip ?_
   refine nB (nT ?_)
   exact .mk ⟨rfl,H2,hle1.trans hle2,e9 hno hx hc16,hs⟩
 ·rintro fr w ⟨rfl,H1,hle1,hno,hs⟩
  refine nT ?_
  refine .aj (.z zg (.nil ?_))
  refine .ret (Fin.bH Tryz.results206 rfl ?_)
  exact ⟨H1,_,hle1,rfl,.inl ⟨rfl,fun x hx=>by
   obtain ⟨j,hj⟩:=List.getElem?_of_mem hx
   exact hno j (List.getElem?_eq_some_iff.1 hj).1 x hj⟩,hs⟩
set_option maxHeartbeats 1000000 in
theorem mJ{v:Value}{en:Ent}{xs:List Int}{g:Nat}{cap:List Value}(q:Int→Bool)(hs:St H w (en::σ))(hO:cf 1 v (Is xs) en)(hl:xs.length≤17592186044416)(hc:∀args w,(callFunc g args).run Tryz.prog w= .ok (.enter g args) w)
  (hp:∀H' w σ (n:Int),n∈xs→HLe H H'→St H' w σ→Cl Tryz.prog g ([I n]++cap) w fun u w'=>∃H1,HLe H' H1∧u= .bool (q n)∧St H1 w' σ):
  Cl Tryz.prog 150 [v,.func (.func g) #[] cap.toArray] w fun u w'=>∃H1 en',HLe H H1∧cf 1 u (Is (xs.filter fun x=> !q x)) en'∧St H1 w' (en'::σ):=by
 obtain ⟨a,c,rfl⟩:=hO.uy
 refine Cl.o Tryz.func150 Tryz.ntmps150 ag2 ?_
 refine .aj (.z zg (.nil (.aj (.z zm (.z zm ?_)))))
 refine .o (.call Tryz.call206 rfl (nS q hs hO hl hc hp) ?_);rintro _ w ⟨H1,i0,hle1,rfl,hcase,hs⟩
 refine .z zg (.nil (.seq (.aj (.z zm (.z fo (.nil ?_))))))
 refine (.bB rfl (fun hc12=>?_) (fun hc12=>?_))
 ·refine .aj (.z zm (.z zg (.nil ?_)))
  refine .ret (rT (Fin.bH Tryz.results150 rfl ?_))
  have hno:∀x∈xs,q x=false:=by
   rcases hcase with ⟨_,h⟩|⟨k,x,h,_⟩
   ·exact h
   ·omega
  have e:xs.filter (fun x=> !q x)=xs:=List.filter_eq_self.2 fun x hx=>by simp [hno x hx]
  exact ⟨H1,en,hle1,by rw [e];exact hO,hs⟩
 ·refine .skip ?_
  refine nT ?_
  refine .seq (.aj (.z zm ?_))
  obtain ⟨k0,x0,rfl,hx0,hq0,hno⟩:∃(k:Nat) (x:Int),i0=k∧xs[k]? =some x∧q x=true∧∀j<k,∀y,xs[j]? =some y→q y=false:=hcase.resolve_left fun h=>hc12 h.1
  have hk0:=(List.getElem?_eq_some_iff.1 hx0).1
  obtain ⟨b,c',sp,hv,rfl,hc'⟩:=hO.blk ak
  cases hv
  refine .z ck (.z zg (.nil (.block ?_)))
  refine .loop (fun p:Nat×Nat=>⟨42,[],[(5,I (p.1:Int)),(6,I (p.2:Int)),(1,.func (.func g) #[] cap.toArray),(0,.slice (some ⟨b,0,none⟩) xs.length c)]⟩)
   (fun p w=>k0<p.2∧∃Y H1,HLe H H1∧yk q xs Y p.1 p.2∧St H1 w (.blk b (Is Y++sp)::σ))
   (fun p=>xs.length - p.2) (k0,k0+1) (.cons rfl (.bU rfl (by dsimp only;omega) aR))
   ⟨by dsimp only;omega,xs,H1,hle1,.start hx0 hq0 hno,hs⟩ ?_
  clear hs hle1 hcase
  rintro ⟨i,j⟩ w ⟨hkj,Y,H1,hle1,hD,hs⟩
  dsimp only at hkj hD ⊢
  have hYl:=hD.len
  have hij:=hD.le
  have hjl:=hD.jl
  have hilt:=hD.lt hx0 hq0 hkj
  refine .seq (.aj (.z zm (.z zm (.z (cB ae) (.z fH (.nil ?_))))))
  refine (.bB rfl (fun hc19=>?_) (fun hc19=>?_))
  ·refine .skip ?_
   refine nT ?_
   refine .seq (.block (.aj (.z zm (.z zm ?_))))
   have hj:j<Y.length:=by omega
   have hx:xs[j]? =some (gi Y j):=by rw [hD.rest j (Nat.le_refl _)];exact bn ak
   refine .z (zix ae ai) ?_
   refine .q hs (dG rfl af (hv:=fB hj sp)) ?_
   refine .z zg (.nil (.aj (.z zm (.z zm ?_))))
   refine .o (.o8 (first:=[]) (cap:=cap) rfl rfl hc (hp _ _ _ (gi Y j) (List.mem_of_getElem? hx) hle1 hs) ?_);rintro _ w ⟨H2,hle2,rfl,hs⟩
   refine .z gV (.nil ?_)
   refine (.cond rfl (fun hc29=>?_) (fun hc29=>?_))
   ·refine .aj (.z zm (.z zm (.z zm (.z (zix ae ai) ?_))))
    refine .o (.store hs rfl rfl ai ?_ .here (ky (show i<Y.length by omega) sp) (gZ (show i<Y.length by omega) sp _));intro w hs
    refine .nil (.region (.z zm (.z ck (.z zg (.nil ?_)))))
    refine nB (nT ?_)
    refine .region (.z zm (.z ck (.z zg (.nil ?_))))
    refine nT ?_
    exact ⟨(i+1,j+1),.bU rfl (by dsimp only;omega) (.bU rfl (by dsimp only;omega) aR),⟨by dsimp only;omega,_,H2,hle1.trans hle2,hD.keep hx (by simpa using hc29),hs⟩,by dsimp only;omega⟩
   ·refine .skip ?_
    refine nB (nT ?_)
    refine .region (.z zm (.z ck (.z zg (.nil ?_))))
    refine nT ?_
    exact ⟨(i,j+1),.cons rfl (.bU rfl (by dsimp only;omega) aR),⟨by dsimp only;omega,_,H2,hle1.trans hle2,hD.skip hx (by simpa using hc29),hs⟩,by dsimp only;omega⟩
  ·refine .exit ?_
   refine xT (xT (xB (nT ?_)))
   refine .aj (.z zm (.z zm ?_))
   obtain rfl:xs.length=j:=by omega
   refine .q hs (wK (k:=i) rfl rfl ae ai ak ak) ?_
   rw [show 0+i*1=i by omega]
   refine .o (.Fl (c:=Is Y++sp) hs rfl ae bJ (by simp;omega) ?_);intro w hs
   rw [hD.done sp] at hs
   have hil:=hD.il
   rw [List.take_length] at hil
   refine .nil (.aj (.z zm (.z zm ?_)))
   refine .q hs (tc (k:=i) rfl rfl ae ai ak) ?_
   refine .z zg (.nil ?_)
   refine .ret (Fin.bH Tryz.results150 rfl ?_)
   exact ⟨H1,_,hle1,.inr ⟨b,i,c,List.replicate (xs.length - i) (I 0)++sp,rfl,rfl,by simp [hil],by simp [←hil];omega,ak⟩,hs⟩
end Go.Proofs.YtddaejgfjlneoaaGreat
