/-
  Texts of these claims, joined: Opn Opb Opw Opm Opz Cls Fct Wa Wb Wc Wd We Wf Wg Wh Wp Wt Wu Wv Wx Wy Xc.
-/
import Derived.Test.YtddaejgfjlneoaaGreatFb
import Derived.Test.YtddaejgfjlneoaaGreatProg
import Derived.KernelRfl
import Derived.JoinedOf
namespace Go.Proofs.YtddaejgfjlneoaaGreat
theorem gw:type_of% @Tryz.call100:=@Tryz.call100
theorem GB:type_of% @Tryz.call103:=@Tryz.call103
theorem dP:type_of% @Tryz.call105:=@Tryz.call105
theorem GA:type_of% @Tryz.call114:=@Tryz.call114
theorem um:type_of% @Tryz.call115:=@Tryz.call115
theorem iS:type_of% @Tryz.call121:=@Tryz.call121
theorem uk:type_of% @Tryz.call161:=@Tryz.call161
theorem Gz:type_of% @Tryz.call190:=@Tryz.call190
theorem lK:type_of% @Tryz.call221:=@Tryz.call221
theorem cJ:type_of% @Tryz.call31:=@Tryz.call31
theorem fI:type_of% @Tryz.call83:=@Tryz.call83
theorem Dq:type_of% @Tryz.call86:=@Tryz.call86
theorem Dp:type_of% @Tryz.call92:=@Tryz.call92
theorem Dm:type_of% @Tryz.call94:=@Tryz.call94
theorem Dl:type_of% @Tryz.call97:=@Tryz.call97
theorem EP:type_of% @Tryz.isAgg108:=@Tryz.isAgg108
theorem eZ:type_of% @Tryz.isAgg111:=@Tryz.isAgg111
theorem cE:type_of% @Tryz.isAgg113:=@Tryz.isAgg113
theorem mG:type_of% @Tryz.isAgg140:=@Tryz.isAgg140
theorem fF:type_of% @Tryz.isAgg160:=@Tryz.isAgg160
theorem qY:type_of% @Tryz.isAgg170:=@Tryz.isAgg170
theorem fE:type_of% @Tryz.isAgg182:=@Tryz.isAgg182
theorem gV:type_of% @Tryz.isAgg189:=@Tryz.isAgg189
theorem qX:type_of% @Tryz.isAgg211:=@Tryz.isAgg211
theorem ak:type_of% @Tryz.isAgg22:=@Tryz.isAgg22
theorem qW:type_of% @Tryz.isAgg236:=@Tryz.isAgg236
theorem bX:type_of% @Tryz.isAgg29:=@Tryz.isAgg29
theorem ae:type_of% @Tryz.isAgg3:=@Tryz.isAgg3
theorem aQ:type_of% @Tryz.isAgg34:=@Tryz.isAgg34
theorem bu:type_of% @Tryz.isAgg35:=@Tryz.isAgg35
theorem dW:type_of% @Tryz.isAgg36:=@Tryz.isAgg36
theorem aO:type_of% @Tryz.isAgg38:=@Tryz.isAgg38
theorem eC:type_of% @Tryz.isAgg4:=@Tryz.isAgg4
theorem dF:type_of% @Tryz.isAgg44:=@Tryz.isAgg44
theorem dO:type_of% @Tryz.isAgg49:=@Tryz.isAgg49
theorem Gy:type_of% @Tryz.isAgg51:=@Tryz.isAgg51
theorem Ar:type_of% @Tryz.isAgg61:=@Tryz.isAgg61
theorem cH:type_of% @Tryz.isAgg68:=@Tryz.isAgg68
theorem aT:type_of% @Tryz.isAgg70:=@Tryz.isAgg70
theorem dN:type_of% @Tryz.isAgg80:=@Tryz.isAgg80
theorem mW:type_of% @Tryz.results107:=@Tryz.results107
theorem sH:type_of% @Tryz.results108:=@Tryz.results108
theorem mV:type_of% @Tryz.results109:=@Tryz.results109
theorem km:type_of% @Tryz.results110:=@Tryz.results110
theorem gN:type_of% @Tryz.results112:=@Tryz.results112
theorem mU:type_of% @Tryz.results157:=@Tryz.results157
theorem sG:type_of% @Tryz.results168:=@Tryz.results168
theorem Ax:type_of% @Tryz.results202:=@Tryz.results202
theorem iq:type_of% @Tryz.results22:=@Tryz.results22
theorem Aw:type_of% @Tryz.results220:=@Tryz.results220
theorem mT:type_of% @Tryz.results232:=@Tryz.results232
theorem jz:type_of% @Tryz.results24:=@Tryz.results24
theorem Av:type_of% @Tryz.results247:=@Tryz.results247
theorem uM:type_of% @Tryz.results41:=@Tryz.results41
theorem kW:type_of% @Tryz.results42:=@Tryz.results42
theorem kV:type_of% @Tryz.results43:=@Tryz.results43
theorem oQ:type_of% @Tryz.results46:=@Tryz.results46
theorem im:type_of% @Tryz.results71:=@Tryz.results71
theorem jy:type_of% @Tryz.results72:=@Tryz.results72
theorem iy:type_of% @Tryz.runUnderlying106:=@Tryz.runUnderlying106
theorem iw:type_of% @Tryz.runUnderlying108:=@Tryz.runUnderlying108
theorem bD:type_of% @Tryz.runUnderlying111:=@Tryz.runUnderlying111
theorem B2:type_of% @Tryz.runUnderlying115:=@Tryz.runUnderlying115
theorem pT:type_of% @Tryz.runUnderlying130:=@Tryz.runUnderlying130
theorem B1:type_of% @Tryz.runUnderlying140:=@Tryz.runUnderlying140
theorem B0:type_of% @Tryz.runUnderlying158:=@Tryz.runUnderlying158
theorem pS:type_of% @Tryz.runUnderlying160:=@Tryz.runUnderlying160
theorem BZ:type_of% @Tryz.runUnderlying172:=@Tryz.runUnderlying172
theorem aD:type_of% @Tryz.runUnderlying182:=@Tryz.runUnderlying182
theorem pR:type_of% @Tryz.runUnderlying189:=@Tryz.runUnderlying189
theorem pQ:type_of% @Tryz.runUnderlying199:=@Tryz.runUnderlying199
theorem aa:type_of% @Tryz.runUnderlying22:=@Tryz.runUnderlying22
theorem BY:type_of% @Tryz.runUnderlying231:=@Tryz.runUnderlying231
theorem eW:type_of% @Tryz.runUnderlying233:=@Tryz.runUnderlying233
theorem aM:type_of% @Tryz.runUnderlying25:=@Tryz.runUnderlying25
theorem eV:type_of% @Tryz.runUnderlying250:=@Tryz.runUnderlying250
theorem BX:type_of% @Tryz.runUnderlying259:=@Tryz.runUnderlying259
theorem rW:type_of% @Tryz.runUnderlying27:=@Tryz.runUnderlying27
theorem Dk:type_of% @Tryz.runUnderlying29:=@Tryz.runUnderlying29
theorem bp:type_of% @Tryz.runUnderlying3:=@Tryz.runUnderlying3
theorem kC:type_of% @Tryz.runUnderlying302:=@Tryz.runUnderlying302
theorem dr:type_of% @Tryz.runUnderlying310:=@Tryz.runUnderlying310
theorem kU:type_of% @Tryz.runUnderlying34:=@Tryz.runUnderlying34
theorem az:type_of% @Tryz.runUnderlying35:=@Tryz.runUnderlying35
theorem aW:type_of% @Tryz.runUnderlying36:=@Tryz.runUnderlying36
theorem Dj:type_of% @Tryz.runUnderlying38:=@Tryz.runUnderlying38
theorem kT:type_of% @Tryz.runUnderlying44:=@Tryz.runUnderlying44
theorem gB:type_of% @Tryz.runUnderlying49:=@Tryz.runUnderlying49
theorem bg:type_of% @Tryz.runUnderlying51:=@Tryz.runUnderlying51
theorem aq:type_of% @Tryz.runUnderlying61:=@Tryz.runUnderlying61
theorem aP:type_of% @Tryz.runUnderlying68:=@Tryz.runUnderlying68
theorem gA:type_of% @Tryz.runUnderlying80:=@Tryz.runUnderlying80
theorem uL:type_of% @Tryz.sizeOf106:=@Tryz.sizeOf106
theorem bY:type_of% @Tryz.sizeOf108:=@Tryz.sizeOf108
theorem a8:type_of% @Tryz.sizeOf113:=@Tryz.sizeOf113
theorem dE:type_of% @Tryz.sizeOf140:=@Tryz.sizeOf140
theorem uK:type_of% @Tryz.sizeOf158:=@Tryz.sizeOf158
theorem bq:type_of% @Tryz.sizeOf160:=@Tryz.sizeOf160
theorem uJ:type_of% @Tryz.sizeOf182:=@Tryz.sizeOf182
theorem aJ:type_of% @Tryz.sizeOf189:=@Tryz.sizeOf189
theorem aC:type_of% @Tryz.sizeOf22:=@Tryz.sizeOf22
theorem dD:type_of% @Tryz.sizeOf220:=@Tryz.sizeOf220
theorem kS:type_of% @Tryz.sizeOf236:=@Tryz.sizeOf236
theorem mF:type_of% @Tryz.sizeOf25:=@Tryz.sizeOf25
theorem bh:type_of% @Tryz.sizeOf29:=@Tryz.sizeOf29
theorem af:type_of% @Tryz.sizeOf3:=@Tryz.sizeOf3
theorem oP:type_of% @Tryz.sizeOf300:=@Tryz.sizeOf300
theorem dd:type_of% @Tryz.sizeOf315:=@Tryz.sizeOf315
theorem aI:type_of% @Tryz.sizeOf34:=@Tryz.sizeOf34
theorem mE:type_of% @Tryz.sizeOf35:=@Tryz.sizeOf35
theorem aF:type_of% @Tryz.sizeOf38:=@Tryz.sizeOf38
theorem gU:type_of% @Tryz.sizeOf4:=@Tryz.sizeOf4
theorem aZ:type_of% @Tryz.sizeOf44:=@Tryz.sizeOf44
theorem bE:type_of% @Tryz.sizeOf49:=@Tryz.sizeOf49
theorem mD:type_of% @Tryz.sizeOf68:=@Tryz.sizeOf68
theorem aE:type_of% @Tryz.sizeOf70:=@Tryz.sizeOf70
theorem aH:type_of% @Tryz.sizeOf80:=@Tryz.sizeOf80
theorem yN:type_of% @Tryz.typeInfo189:=@Tryz.typeInfo189
theorem dC:type_of% @Tryz.typeInfo3:=@Tryz.typeInfo3
theorem ng:type_of% @Tryz.underlying115:=@Tryz.underlying115
theorem j8:type_of% @Tryz.underlying130:=@Tryz.underlying130
theorem kF:type_of% @Tryz.underlying27:=@Tryz.underlying27
theorem eo:type_of% @Tryz.underlying3:=@Tryz.underlying3
theorem lJ:type_of% @Tryz.underlying4:=@Tryz.underlying4
theorem wV:type_of% @Tryz.zeroValue108:=@Tryz.zeroValue108
theorem eT:type_of% @Tryz.zeroValue113:=@Tryz.zeroValue113
theorem kE:type_of% @Tryz.zeroValue140:=@Tryz.zeroValue140
theorem oO:type_of% @Tryz.zeroValue158:=@Tryz.zeroValue158
theorem ez:type_of% @Tryz.zeroValue160:=@Tryz.zeroValue160
theorem ew:type_of% @Tryz.zeroValue189:=@Tryz.zeroValue189
theorem ek:type_of% @Tryz.zeroValue22:=@Tryz.zeroValue22
theorem oN:type_of% @Tryz.zeroValue220:=@Tryz.zeroValue220
theorem Gx:type_of% @Tryz.zeroValue231:=@Tryz.zeroValue231
theorem bI:type_of% @Tryz.zeroValue3:=@Tryz.zeroValue3
theorem wU:type_of% @Tryz.zeroValue300:=@Tryz.zeroValue300
theorem Gw:type_of% @Tryz.zeroValue315:=@Tryz.zeroValue315
theorem jx:type_of% @Tryz.zeroValue34:=@Tryz.zeroValue34
theorem eI:type_of% @Tryz.zeroValue38:=@Tryz.zeroValue38
theorem fY:type_of% @Tryz.zeroValue44:=@Tryz.zeroValue44
theorem lI:type_of% @Tryz.zeroValue49:=@Tryz.zeroValue49
theorem dj:type_of% @Tryz.zeroValue70:=@Tryz.zeroValue70
theorem eH:type_of% @Tryz.zeroValue80:=@Tryz.zeroValue80
end Go.Proofs.YtddaejgfjlneoaaGreat
namespace Go.Proofs.YtddaejgfjlneoaaGreat
open Go.MW Go.ChangeShapes Go.WideShapes
set_option maxRecDepth 100000
theorem tV:Tryz.prog.cellsOf 3=1:=by kernel_rfl
theorem DI:Tryz.prog.cellsOf 22=1:=by kernel_rfl
theorem Gl:Tryz.prog.bytesOf 3=8:=by kernel_rfl
theorem vU:reachBytes=140737488351232:=rfl
section
variable{H:Type}{enc:TypeId×Value→H}{w:World}{sp:Nat→Bool}{held:Bool}{n:Nat}{cs:List Value}{y:DataW H×List MemPlace}{v:Value}{d:DataW H}{p:List MemPlace}{r:Reach}{base:Nat}
theorem DB(hw:Wt Tryz.prog 22 y.1)(h:DataW.trod enc Tryz.prog w 0 sp held n 22 cs=some y):∃v xs,cs=[v]∧RI (hp w) v xs∧IsIn xs:=by
 obtain ⟨v,xs,h1,h2,h3,h4⟩:=DZ Tryz.underlying22 eo tV hw h
 rw [Gl,vU] at h3
 exact ⟨v,xs,h1,h2,aj,h4⟩
end
end Go.Proofs.YtddaejgfjlneoaaGreat
namespace Go.Proofs.YtddaejgfjlneoaaGreat
open Go.MW Go.ChangeShapes Go.WideShapes
set_option maxRecDepth 100000
theorem c_3:Tryz.prog.cellsOf 25=3:=by kernel_rfl
theorem b_3:Tryz.prog.bytesOf 25=24:=by kernel_rfl
section
variable{H:Type}{enc:TypeId×Value→H}{w:World}{sp:Nat→Bool}{held:Bool}{n:Nat}{cs:List Value}{y:DataW H×List MemPlace}{v:Value}{d:DataW H}{p:List MemPlace}{r:Reach}{base:Nat}
theorem Fo(hw:Wt Tryz.prog 128 y.1)(h:DataW.trod enc Tryz.prog w 0 sp held n 128 cs=some y):∃(v:Value) (ls:List Tri),cs=[v]∧RS (hp w) 3 v (ls.map Tri.v)∧ls.length≤17592186043904:=by
 obtain ⟨v,zs,h1,h2,h9,h3⟩:=yb (k:=3) Tryz.underlying128 Tryz.underlying25 eo tV gq c_3 hw h
 obtain ⟨ls,h4⟩:=GF h3
 rw [b_3,vU] at h9
 have h6:zs.length=ls.length:=by have:=congrArg List.length h4;simpa using this
 exact ⟨v,ls,h1,by rw [←h4];exact h2,aj⟩
end
end Go.Proofs.YtddaejgfjlneoaaGreat
namespace Go.Proofs.YtddaejgfjlneoaaGreat
open Go.MW Go.ChangeShapes Go.WideShapes
set_option maxRecDepth 100000
theorem FE:Tryz.prog.cellsOf 111=1:=by kernel_rfl
theorem Gk:Tryz.prog.cellsOf 220=2:=by kernel_rfl
theorem Gm:Tryz.prog.bytesOf 220=16:=by kernel_rfl
theorem BL:Tryz.prog.cellsOf 113=2:=by kernel_rfl
theorem Br:∀{ls:List Prb},ls.map Prb.c=(ls.map fun p=>(⟨p.u,p.t⟩:Use)).map Use.c:=by
 intro ls;rw [List.map_map];rfl
section
variable{H:Type}{enc:TypeId×Value→H}{w:World}{sp:Nat→Bool}{held:Bool}{n:Nat}{cs:List Value}{y:DataW H×List MemPlace}{v:Value}{d:DataW H}{p:List MemPlace}{r:Reach}{base:Nat}
theorem Fm(hw:Wt Tryz.prog 111 y.1)(h:DataW.trod enc Tryz.prog w 0 sp held n 111 cs=some y):∃v us,cs=[v]∧RU (hp w) v us∧us.length≤8796093021952:=by
 obtain ⟨v,zs,h1,h2,h9,h3⟩:=DY (k:=2) Tryz.underlying111 Tryz.underlying220 rfl gq (by
  intro i f hf
  match i with
  |0|1=>cases hf;exact ⟨rfl,eo,tV⟩
  |i+2=>simp at hf) Gk hw h
 obtain ⟨ls,h4,h5⟩:=GD h3
 rw [Gm,vU] at h9
 have h6:zs.length=ls.length:=by have:=congrArg List.length h4;simpa using this
 exact ⟨v,ls.map fun p=>⟨p.u,p.t⟩,h1,by unfold RU;rw [←Br,←h4];exact h2,by rw [List.length_map];omega⟩
theorem Ef(hw:Wt Tryz.prog 113 y.1)(h:DataW.trod enc Tryz.prog w 0 sp held n 113 cs=some y):∃(m:Int) (us:List Use) (u:Value),cs=[I m,u]∧RU (hp w) u us∧I64 m∧us.length≤8796093021952:=by
 obtain ⟨ys,m,_,rfl,hlen,hyl,hg⟩:=DataW.trod_struct Tryz.underlying113 h
 rw [BL] at hlen
 obtain ⟨c0,c1,rfl⟩:=Gh hlen
 obtain ⟨_,h0,k0⟩:=fld hg hyl 0 rfl rfl rfl tV Tryz.underlying113 hw
 obtain ⟨_,h1,k1⟩:=fld hg hyl 1 rfl rfl rfl FE Tryz.underlying113 hw
 obtain ⟨m,e0,i0⟩:=uR eo h0
 obtain ⟨u,us,e1,r1,i1⟩:=Fm k1 h1
 cases e0;cases e1
 exact ⟨m,us,_,rfl,r1,i0,i1⟩
end
end Go.Proofs.YtddaejgfjlneoaaGreat
namespace Go.Proofs.YtddaejgfjlneoaaGreat
open Go.MW Go.ChangeShapes Go.WideShapes
set_option maxRecDepth 100000
theorem Db:Tryz.prog.cellsOf 23=1:=by kernel_rfl
theorem Da:Tryz.prog.cellsOf 24=1:=by kernel_rfl
theorem c_53:Tryz.prog.cellsOf 106=5:=by kernel_rfl
theorem c_43:Tryz.prog.cellsOf 199=4:=by kernel_rfl
theorem FR:Tryz.prog.cellsOf 25=3:=by kernel_rfl
theorem Ez:Tryz.prog.cellsOf 27=7:=by kernel_rfl
theorem Gf{α:Type}{l:List α}(h:l.length=7):∃a b c d e f g,l=[a,b,c,d,e,f,g]:=by match l,h with|[a,b,c,d,e,f,g],_=>exact ⟨a,b,c,d,e,f,g,rfl⟩
theorem DF:∀{zs:List (List Int)},(∀z∈zs,z.length=5∧∀y∈z,I64 y)→∃ls:List F5,zs.map Is=ls.map F5.v
 |[],_=>⟨[],rfl⟩
 |z::zs,h=>by
  obtain ⟨ls,h1⟩:=DF (fun c hc=>h c (.tail _ hc))
  obtain ⟨h3,_⟩:=h z (.head _)
  match z,h3 with
  |[a,b,c,d,e],_=>exact ⟨⟨a,b,c,d,e⟩::ls,by rw [List.map_cons,h1];rfl⟩
theorem DD:∀{zs:List (List Int)},(∀z∈zs,z.length=4∧∀y∈z,I64 y)→∃ls:List F4,zs.map Is=ls.map F4.v
 |[],_=>⟨[],rfl⟩
 |z::zs,h=>by
  obtain ⟨ls,h1⟩:=DD (fun c hc=>h c (.tail _ hc))
  obtain ⟨h3,_⟩:=h z (.head _)
  match z,h3 with
  |[a,b,c,d],_=>exact ⟨⟨a,b,c,d⟩::ls,by rw [List.map_cons,h1];rfl⟩
structure EM where
 sp:List Int
 rs:List F5
 cs:List F4
 pk:List Int
 x:Int
 y:Int
 z:Int
def BQ(H:cf)(v:Value)(r:EM):Prop:=∃vs v5 v4 vp,v= .agg #[vs,v5,v4,vp,I r.x,I r.y,I r.z]∧RI H vs r.sp∧RF5 H v5 r.rs∧RF4 H v4 r.cs∧RI H vp r.pk
section
variable{H:Type}{enc:TypeId×Value→H}{w:World}{sp:Nat→Bool}{held:Bool}{n:Nat}{cs:List Value}{y:DataW H×List MemPlace}{v:Value}{d:DataW H}{p:List MemPlace}{r:Reach}{base:Nat}
theorem CN(hw:Wt Tryz.prog 23 y.1)(h:DataW.trod enc Tryz.prog w 0 sp held n 23 cs=some y):∃(v:Value) (ls:List F5),cs=[v]∧RF5 (hp w) v ls:=by
 obtain ⟨v,zs,h1,h2,_,h3⟩:=yb (k:=5) Tryz.underlying23 Tryz.underlying106 eo tV gq c_53 hw h
 obtain ⟨ls,h4⟩:=DF h3
 exact ⟨v,ls,h1,by unfold RF5;rw [←h4];exact h2⟩
theorem CM(hw:Wt Tryz.prog 24 y.1)(h:DataW.trod enc Tryz.prog w 0 sp held n 24 cs=some y):∃(v:Value) (ls:List F4),cs=[v]∧RF4 (hp w) v ls:=by
 obtain ⟨v,zs,h1,h2,_,h3⟩:=yb (k:=4) Tryz.underlying24 Tryz.underlying199 eo tV gq c_43 hw h
 obtain ⟨ls,h4⟩:=DD h3
 exact ⟨v,ls,h1,by unfold RF4;rw [←h4];exact h2⟩
theorem u5(hv:Value.okWide Tryz.prog w r base 27 v)(h:DataW.Trod enc Tryz.prog w 0 sp held 27 v d p)(hw:Wt Tryz.prog 27 d):∃q:EM,BQ (hp w) v q∧True:=by
 obtain ⟨cs,n,rfl,hn,_⟩:=rP kF hv h
 obtain ⟨ys,m,_,e,hlen,hyl,hg⟩:=DataW.trod_struct kF hn
 cases e
 rw [Ez] at hlen
 obtain ⟨c0,c1,c2,c3,c4,c5,c6,rfl⟩:=Gf hlen
 obtain ⟨_,h0,k0⟩:=fld hg hyl 0 rfl rfl rfl DI kF hw
 obtain ⟨_,h1,k1⟩:=fld hg hyl 1 rfl rfl rfl Db kF hw
 obtain ⟨_,h2,k2⟩:=fld hg hyl 2 rfl rfl rfl Da kF hw
 obtain ⟨_,h3,k3⟩:=fld hg hyl 3 rfl rfl rfl DI kF hw
 obtain ⟨_,h4,k4⟩:=fld hg hyl 4 rfl rfl rfl FR kF hw
 obtain ⟨v0,s0,e0,r0,i0⟩:=DB k0 h0
 obtain ⟨v1,l1,e1,r1⟩:=CN k1 h1
 obtain ⟨v2,l2,e2,r2⟩:=CM k2 h2
 obtain ⟨v3,s3,e3,r3,i3⟩:=DB k3 h3
 obtain ⟨xs,g1,g2,g3⟩:=vN Tryz.underlying25 eo tV FR h4
 obtain ⟨a,b,c,rfl⟩:=Gg g1
 cases e0;cases e1;cases e2;cases e3;cases g2
 exact ⟨⟨s0,l1,l2,s3,a,b,c⟩,⟨_,_,_,_,rfl,r0,r1,r2,r3⟩,trivial⟩
end
end Go.Proofs.YtddaejgfjlneoaaGreat
namespace Go.Proofs.YtddaejgfjlneoaaGreat
open Go.MW Go.ChangeShapes Go.WideShapes
set_option maxRecDepth 100000
theorem BK:Tryz.prog.cellsOf 29=3:=by kernel_rfl
theorem BJ:Tryz.prog.cellsOf 4=1:=by kernel_rfl
theorem Dc:Tryz.prog.cellsOf 115=7:=by kernel_rfl
theorem FG:Tryz.prog.cellsOf 130=7:=by kernel_rfl
theorem Ey:Tryz.prog.cellsOf 128=1:=by kernel_rfl
structure FV where
 q:Wht
 high:Bool
 n:Int
 m:Int
 us:List Use
def EF(H:cf)(v:Value)(c:FV):Prop:=∃u,v= .agg #[I c.q.kind,I c.q.st,I c.q.wa,.bool c.high,I c.n,I c.m,u]∧RU H u c.us
structure FX where
 a:Int
 b:Int
 c:Int
 high:Bool
 n:Int
 near:Bool
 ch:List Tri
def EG(H:cf)(v:Value)(c:FX):Prop:=∃u,v= .agg #[I c.a,I c.b,I c.c,.bool c.high,I c.n,.bool c.near,u]∧RS H 3 u (c.ch.map Tri.v)
section
variable{H:Type}{enc:TypeId×Value→H}{w:World}{sp:Nat→Bool}{held:Bool}{n:Nat}{cs:List Value}{y:DataW H×List MemPlace}{v:Value}{d:DataW H}{p:List MemPlace}{r:Reach}{base:Nat}
theorem Ee(h:DataW.trod enc Tryz.prog w 0 sp held n 29 cs=some y):∃q:Wht,cs=[I q.kind,I q.st,I q.wa]:=by
 obtain ⟨xs,a1,a2,_⟩:=wW Tryz.underlying29 (by
  intro i f hf
  match i with
  |0|1|2=>cases hf;exact ⟨rfl,eo,tV⟩
  |i+3=>simp at hf) (by rw [BK];rfl) h
 obtain ⟨a,b,c,rfl⟩:=Gg a1
 exact ⟨⟨a,b,c⟩,a2⟩
theorem yp(hv:Value.okWide Tryz.prog w r base 115 v)(h:DataW.Trod enc Tryz.prog w 0 sp held 115 v d p)(hw:Wt Tryz.prog 115 d):∃c:FV,EF (hp w) v c∧c.us.length≤8796093021952:=by
 obtain ⟨cs,n,rfl,hn,_⟩:=rP ng hv h
 obtain ⟨ys,m,_,e,hlen,hyl,hg⟩:=DataW.trod_struct ng hn
 cases e
 rw [Dc] at hlen
 obtain ⟨c0,c1,c2,c3,c4,c5,c6,rfl⟩:=Gf hlen
 obtain ⟨_,h0,k0⟩:=fld hg hyl 0 rfl rfl rfl BK ng hw
 obtain ⟨_,h1,k1⟩:=fld hg hyl 1 rfl rfl rfl BJ ng hw
 obtain ⟨_,h2,k2⟩:=fld hg hyl 2 rfl rfl rfl tV ng hw
 obtain ⟨_,h3,k3⟩:=fld hg hyl 3 rfl rfl rfl BL ng hw
 obtain ⟨q,e0⟩:=Ee h0
 obtain ⟨b,e1,_⟩:=DataW.trod_bool lJ h1
 obtain ⟨x,e2,_⟩:=uR eo h2
 obtain ⟨m,us,u,e3,r3,_,i3⟩:=Ef k3 h3
 cases e0;cases e1;cases e2;cases e3
 exact ⟨⟨q,b,x,m,us⟩,⟨_,rfl,r3⟩,i3⟩
theorem A5(hv:Value.okWide Tryz.prog w r base 130 v)(h:DataW.Trod enc Tryz.prog w 0 sp held 130 v d p)(hw:Wt Tryz.prog 130 d):∃c:FX,EG (hp w) v c∧True:=by
 obtain ⟨cs,n,rfl,hn,_⟩:=rP j8 hv h
 obtain ⟨ys,m,_,e,hlen,hyl,hg⟩:=DataW.trod_struct j8 hn
 cases e
 rw [FG] at hlen
 obtain ⟨c0,c1,c2,c3,c4,c5,c6,rfl⟩:=Gf hlen
 obtain ⟨_,h0,k0⟩:=fld hg hyl 0 rfl rfl rfl FR j8 hw
 obtain ⟨_,h1,k1⟩:=fld hg hyl 1 rfl rfl rfl BJ j8 hw
 obtain ⟨_,h2,k2⟩:=fld hg hyl 2 rfl rfl rfl tV j8 hw
 obtain ⟨_,h3,k3⟩:=fld hg hyl 3 rfl rfl rfl BJ j8 hw
 obtain ⟨_,h4,k4⟩:=fld hg hyl 4 rfl rfl rfl Ey j8 hw
 obtain ⟨xs,g1,e0,g3⟩:=vN Tryz.underlying25 eo tV FR h0
 obtain ⟨a,b,c,rfl⟩:=Gg g1
 obtain ⟨hh,e1,_⟩:=DataW.trod_bool lJ h1
 obtain ⟨x,e2,_⟩:=uR eo h2
 obtain ⟨nn,e3,_⟩:=DataW.trod_bool lJ h3
 obtain ⟨u,ls,e4,r4,_⟩:=Fo k4 h4
 cases e0;cases e1;cases e2;cases e3;cases e4
 exact ⟨⟨a,b,c,hh,x,nn,ls⟩,⟨_,rfl,r4⟩,trivial⟩
end
end Go.Proofs.YtddaejgfjlneoaaGreat
namespace Go.Proofs.YtddaejgfjlneoaaGreat
theorem BH:Tryz.prog.make=some .cut:=by kernel_rfl
theorem zI:Tryz.prog.mayEnter=true:=by kernel_rfl
theorem zF:Tryz.prog.liftsFinal=false:=by kernel_rfl
theorem BI:Tryz.prog.plainKeys=true:=by kernel_rfl
theorem wC:laidOutB Tryz.prog=true:=by kernel_rfl
theorem BG:mapsRowed Tryz.prog=true:=by kernel_rfl
theorem zH:Tryz.prog.stopsHeard=true:=by kernel_rfl
theorem zE:Tryz.prog.stops=[]:=by kernel_rfl
theorem zG:Tryz.prog.stopKnobs=[]:=by kernel_rfl
theorem iW{a b:Bool}(h:a=true)(k:b=true):(a&&b)=true:=by rw [h,k];rfl
theorem B5{α:Type}[BEq α][LawfulBEq α]{a b:α}(h:a=b):(a==b)=true:=by rw [h];exact beq_self_eq_true _
theorem DH:ownKnob Tryz.prog.godebug=none:=by kernel_rfl
end Go.Proofs.YtddaejgfjlneoaaGreat
namespace Go.Proofs.YtddaejgfjlneoaaGreat
open Go.MW
theorem mix:Tryz.prog.follows .mixedOrders=true:=by kernel_rfl
theorem nM:FA Tryz.prog 27 0 0:=by
 have h:=gz (k:=0) rW rfl aC
 exact h
theorem ib:FA Tryz.prog 27 1 1:=by
 have h:=gz (k:=1) rW rfl Tryz.sizeOf23
 exact h
theorem jY:FA Tryz.prog 27 2 2:=by
 have h:=gz (k:=2) rW rfl Tryz.sizeOf24
 exact h
theorem nL:FA Tryz.prog 27 3 3:=by
 have h:=gz (k:=3) rW rfl aC
 exact h
theorem nK:FA Tryz.prog 27 4 4:=by
 have h:=gz (k:=4) rW rfl mF
 exact h
theorem kA:FA Tryz.prog 29 0 0:=by
 have h:=gz (k:=0) Dk rfl af
 exact h
theorem eg:FA Tryz.prog 29 1 1:=by
 have h:=gz (k:=1) Dk rfl af
 exact h
theorem di:FA Tryz.prog 29 2 2:=by
 have h:=gz (k:=2) Dk rfl af
 exact h
theorem jr:FA Tryz.prog 32 0 0:=by
 have h:=gz (k:=0) Tryz.runUnderlying32 rfl af
 exact h
theorem jq:FA Tryz.prog 32 1 1:=by
 have h:=gz (k:=1) Tryz.runUnderlying32 rfl af
 exact h
theorem lG:FA Tryz.prog 34 0 0:=by
 have h:=gz (k:=0) kU rfl af
 exact h
theorem dB:FA Tryz.prog 34 1 1:=by
 have h:=gz (k:=1) kU rfl af
 exact h
theorem bA:FA Tryz.prog 34 2 2:=by
 have h:=gz (k:=2) kU rfl aC
 exact h
theorem bj:FA Tryz.prog 34 3 3:=by
 have h:=gz (k:=3) kU rfl aC
 exact h
theorem ed:FA Tryz.prog 34 4 4:=by
 have h:=gz (k:=4) kU rfl Tryz.sizeOf32
 exact h
theorem aS:FA Tryz.prog 38 0 0:=by
 have h:=gz (k:=0) Dj rfl aI
 exact h
theorem aN:FA Tryz.prog 38 1 6:=by
 have h:=gz (k:=1) Dj rfl mE
 exact h
theorem bU:FA Tryz.prog 38 2 7:=by
 have h:=gz (k:=2) Dj rfl Tryz.sizeOf36
 exact h
theorem oV:FA Tryz.prog 44 0 0:=by
 have h:=gz (k:=0) kT rfl af
 exact h
theorem oU:FA Tryz.prog 44 1 1:=by
 have h:=gz (k:=1) kT rfl af
 exact h
theorem mR:FA Tryz.prog 49 0 0:=by
 have h:=gz (k:=0) gB rfl af
 exact h
theorem ke:FA Tryz.prog 49 1 1:=by
 have h:=gz (k:=1) gB rfl af
 exact h
theorem mz:FA Tryz.prog 63 0 0:=by
 have h:=gz (k:=0) Tryz.runUnderlying63 rfl Tryz.sizeOf61
 exact h
theorem bH:FA Tryz.prog 70 0 0:=by
 have h:=gz (k:=0) Tryz.runUnderlying70 rfl af
 exact h
theorem bO:FA Tryz.prog 70 1 1:=by
 have h:=gz (k:=1) Tryz.runUnderlying70 rfl mD
 exact h
theorem eG:FA Tryz.prog 80 0 0:=by
 have h:=gz (k:=0) gA rfl af
 exact h
theorem ff:FA Tryz.prog 80 1 1:=by
 have h:=gz (k:=1) gA rfl af
 exact h
theorem fc:FA Tryz.prog 80 2 2:=by
 have h:=gz (k:=2) gA rfl af
 exact h
theorem db:FA Tryz.prog 80 3 3:=by
 have h:=gz (k:=3) gA rfl af
 exact h
theorem ck:FA Tryz.prog 80 4 4:=by
 have h:=gz (k:=4) gA rfl af
 exact h
theorem eF:FA Tryz.prog 80 5 5:=by
 have h:=gz (k:=5) gA rfl af
 exact h
theorem eE:FA Tryz.prog 80 6 6:=by
 have h:=gz (k:=6) gA rfl af
 exact h
theorem gL:FA Tryz.prog 108 0 0:=by
 have h:=gz (k:=0) iw rfl af
 exact h
theorem iL:FA Tryz.prog 108 1 1:=by
 have h:=gz (k:=1) iw rfl af
 exact h
theorem fG:FA Tryz.prog 108 2 2:=by
 have h:=gz (k:=2) iw rfl af
 exact h
theorem fi:FA Tryz.prog 108 3 3:=by
 have h:=gz (k:=3) iw rfl af
 exact h
theorem fh:FA Tryz.prog 108 4 4:=by
 have h:=gz (k:=4) iw rfl af
 exact h
theorem fg:FA Tryz.prog 108 5 5:=by
 have h:=gz (k:=5) iw rfl af
 exact h
theorem ee:FA Tryz.prog 113 0 0:=by
 have h:=gz (k:=0) Tryz.runUnderlying113 rfl af
 exact h
theorem cU:FA Tryz.prog 113 1 1:=by
 have h:=gz (k:=1) Tryz.runUnderlying113 rfl Tryz.sizeOf111
 exact h
theorem jo:FA Tryz.prog 115 0 0:=by
 have h:=gz (k:=0) B2 rfl bh
 exact h
theorem jn:FA Tryz.prog 115 1 3:=by
 have h:=gz (k:=1) B2 rfl gU
 exact h
theorem jm:FA Tryz.prog 115 2 4:=by
 have h:=gz (k:=2) B2 rfl af
 exact h
theorem jk:FA Tryz.prog 115 3 5:=by
 have h:=gz (k:=3) B2 rfl a8
 exact h
theorem nP:FA Tryz.prog 130 0 0:=by
 have h:=gz (k:=0) pT rfl mF
 exact h
theorem dL:FA Tryz.prog 130 1 3:=by
 have h:=gz (k:=1) pT rfl gU
 exact h
theorem jZ:FA Tryz.prog 130 2 4:=by
 have h:=gz (k:=2) pT rfl af
 exact h
theorem nO:FA Tryz.prog 130 3 5:=by
 have h:=gz (k:=3) pT rfl gU
 exact h
theorem nN:FA Tryz.prog 130 4 6:=by
 have h:=gz (k:=4) pT rfl Tryz.sizeOf128
 exact h
theorem ia:FA Tryz.prog 140 0 0:=by
 have h:=gz (k:=0) B1 rfl aE
 exact h
theorem jX:FA Tryz.prog 140 1 2:=by
 have h:=gz (k:=1) B1 rfl aC
 exact h
theorem eU:FA Tryz.prog 140 2 3:=by
 have h:=gz (k:=2) B1 rfl af
 exact h
theorem dK:FA Tryz.prog 158 0 0:=by
 have h:=gz (k:=0) B0 rfl af
 exact h
theorem dx:FA Tryz.prog 158 1 1:=by
 have h:=gz (k:=1) B0 rfl af
 exact h
theorem eL:FA Tryz.prog 158 2 2:=by
 have h:=gz (k:=2) B0 rfl af
 exact h
theorem eA:FA Tryz.prog 160 0 0:=by
 have h:=gz (k:=0) pS rfl af
 exact h
theorem eP:FA Tryz.prog 160 1 1:=by
 have h:=gz (k:=1) pS rfl af
 exact h
theorem fV:FA Tryz.prog 160 2 2:=by
 have h:=gz (k:=2) pS rfl af
 exact h
theorem jM:FA Tryz.prog 160 3 3:=by
 have h:=gz (k:=3) pS rfl af
 exact h
theorem dH:FA Tryz.prog 172 0 0:=by
 have h:=gz (k:=0) BZ rfl aF
 exact h
theorem fM:FA Tryz.prog 172 1 8:=by
 have h:=gz (k:=1) BZ rfl Tryz.sizeOf51
 exact h
theorem gR:FA Tryz.prog 172 2 9:=by
 have h:=gz (k:=2) BZ rfl mD
 exact h
theorem dp:FA Tryz.prog 189 0 0:=by
 have h:=gz (k:=0) pR rfl af
 exact h
theorem dz:FA Tryz.prog 189 1 1:=by
 have h:=gz (k:=1) pR rfl af
 exact h
theorem fB:FA Tryz.prog 189 2 2:=by
 have h:=gz (k:=2) pR rfl af
 exact h
theorem dZ:FA Tryz.prog 189 3 3:=by
 have h:=gz (k:=3) pR rfl af
 exact h
theorem fN:FA Tryz.prog 220 0 0:=by
 have h:=gz (k:=0) Tryz.runUnderlying220 rfl af
 exact h
theorem eD:FA Tryz.prog 220 1 1:=by
 have h:=gz (k:=1) Tryz.runUnderlying220 rfl af
 exact h
theorem rJ:FA Tryz.prog 231 0 0:=by
 have h:=gz (k:=0) BY rfl Tryz.sizeOf228
 exact h
theorem rI:FA Tryz.prog 231 1 1:=by
 have h:=gz (k:=1) BY rfl Tryz.sizeOf229
 exact h
theorem rH:FA Tryz.prog 231 2 2:=by
 have h:=gz (k:=2) BY rfl af
 exact h
theorem da:FA Tryz.prog 236 0 0:=by
 have h:=gz (k:=0) Tryz.runUnderlying236 rfl bh
 exact h
theorem fu:FA Tryz.prog 236 1 3:=by
 have h:=gz (k:=1) Tryz.runUnderlying236 rfl aI
 exact h
theorem gp:FA Tryz.prog 259 0 0:=by
 have h:=gz (k:=0) BX rfl aE
 exact h
theorem gn:FA Tryz.prog 259 1 2:=by
 have h:=gz (k:=1) BX rfl aC
 exact h
theorem ea:FA Tryz.prog 259 2 3:=by
 have h:=gz (k:=2) BX rfl aC
 exact h
theorem oT:FA Tryz.prog 294 0 0:=by
 have h:=gz (k:=0) Tryz.runUnderlying294 rfl aC
 exact h
theorem fW:FA Tryz.prog 300 0 0:=by
 have h:=gz (k:=0) Tryz.runUnderlying300 rfl af
 exact h
theorem iF:FA Tryz.prog 300 1 1:=by
 have h:=gz (k:=1) Tryz.runUnderlying300 rfl af
 exact h
theorem df:FA Tryz.prog 315 0 0:=by
 have h:=gz (k:=0) Tryz.runUnderlying315 rfl af
 exact h
theorem jB:FA Tryz.prog 315 1 1:=by
 have h:=gz (k:=1) Tryz.runUnderlying315 rfl gU
 exact h
theorem lr:se Tryz.prog 29 [(0,1),(1,1),(2,1)] [.int .i64 0,.int .i64 0,.int .i64 0]:=kN Tryz.zeroValue29 rfl Dk (by simp [Tryz.sizeOf3])
theorem sa:se Tryz.prog 32 [(0,1),(1,1)] [.int .i64 0,.int .i64 0]:=kN Tryz.zeroValue32 rfl Tryz.runUnderlying32 (by simp [Tryz.sizeOf3])
theorem qN:se Tryz.prog 34 [(0,1),(1,1),(2,1),(3,1),(4,2)] [.int .i64 0,.int .i64 0,.slice none 0 0,.slice none 0 0,.int .i64 0,.int .i64 0]:=kN jx rfl kU (by simp [Tryz.sizeOf22,Tryz.sizeOf3,Tryz.sizeOf32])
theorem oY:se Tryz.prog 38 [(0,6),(6,1),(7,1)] [.int .i64 0,.int .i64 0,.slice none 0 0,.slice none 0 0,.int .i64 0,.int .i64 0,.slice none 0 0,.slice none 0 0]:=kN eI rfl Dj (by simp [Tryz.sizeOf34,Tryz.sizeOf35,Tryz.sizeOf36])
theorem cz:se Tryz.prog 44 [(0,1),(1,1)] [.int .i64 0,.int .i64 0]:=kN fY rfl kT (by simp [Tryz.sizeOf3])
theorem gv:se Tryz.prog 49 [(0,1),(1,1)] [.int .i64 0,.int .i64 0]:=kN lI rfl gB (by simp [Tryz.sizeOf3])
theorem xJ:se Tryz.prog 63 [(0,1)] [.slice none 0 0]:=kN Tryz.zeroValue63 rfl Tryz.runUnderlying63 (by simp [Tryz.sizeOf61])
theorem iG:se Tryz.prog 70 [(0,1),(1,1)] [.int .i64 0,.slice none 0 0]:=kN dj rfl Tryz.runUnderlying70 (by simp [Tryz.sizeOf3,Tryz.sizeOf68])
theorem fC:se Tryz.prog 80 [(0,1),(1,1),(2,1),(3,1),(4,1),(5,1),(6,1)] [.int .i64 0,.int .i64 0,.int .i64 0,.int .i64 0,.int .i64 0,.int .i64 0,.int .i64 0]:=kN eH rfl gA (by simp [Tryz.sizeOf3])
theorem nW:se Tryz.prog 108 [(0,1),(1,1),(2,1),(3,1),(4,1),(5,1)] [.int .i64 0,.int .i64 0,.int .i64 0,.int .i64 0,.int .i64 0,.int .i64 0]:=kN wV rfl iw (by simp [Tryz.sizeOf3])
theorem ik:se Tryz.prog 113 [(0,1),(1,1)] [.int .i64 0,.slice none 0 0]:=kN eT rfl Tryz.runUnderlying113 (by simp [Tryz.sizeOf111,Tryz.sizeOf3])
theorem gd:se Tryz.prog 140 [(0,2),(2,1),(3,1)] [.int .i64 0,.slice none 0 0,.slice none 0 0,.int .i64 0]:=kN kE rfl B1 (by simp [Tryz.sizeOf22,Tryz.sizeOf3,Tryz.sizeOf70])
theorem qM:se Tryz.prog 158 [(0,1),(1,1),(2,1)] [.int .i64 0,.int .i64 0,.int .i64 0]:=kN oO rfl B0 (by simp [Tryz.sizeOf3])
theorem eR:se Tryz.prog 160 [(0,1),(1,1),(2,1),(3,1)] [.int .i64 0,.int .i64 0,.int .i64 0,.int .i64 0]:=kN ez rfl pS (by simp [Tryz.sizeOf3])
theorem mf:se Tryz.prog 172 [(0,8),(8,1),(9,1)] [.int .i64 0,.int .i64 0,.slice none 0 0,.slice none 0 0,.int .i64 0,.int .i64 0,.slice none 0 0,.slice none 0 0,.slice none 0 0,.slice none 0 0]:=kN Tryz.zeroValue172 rfl BZ (by simp [Tryz.sizeOf38,Tryz.sizeOf51,Tryz.sizeOf68])
theorem oW:se Tryz.prog 189 [(0,1),(1,1),(2,1),(3,1)] [.int .i64 0,.int .i64 0,.int .i64 0,.int .i64 0]:=kN ew rfl pR (by simp [Tryz.sizeOf3])
theorem yE:se Tryz.prog 220 [(0,1),(1,1)] [.int .i64 0,.int .i64 0]:=kN oN rfl Tryz.runUnderlying220 (by simp [Tryz.sizeOf3])
theorem iM:se Tryz.prog 231 [(0,1),(1,1),(2,1)] [.nilFunc,.nilFunc,.int .i64 0]:=kN Gx rfl BY (by simp [Tryz.sizeOf228,Tryz.sizeOf229,Tryz.sizeOf3])
theorem sD:se Tryz.prog 236 [(0,3),(3,6)] [.int .i64 0,.int .i64 0,.int .i64 0,.int .i64 0,.int .i64 0,.slice none 0 0,.slice none 0 0,.int .i64 0,.int .i64 0]:=kN Tryz.zeroValue236 rfl Tryz.runUnderlying236 (by simp [Tryz.sizeOf29,Tryz.sizeOf34])
theorem oX:se Tryz.prog 259 [(0,2),(2,1),(3,1)] [.int .i64 0,.slice none 0 0,.slice none 0 0,.slice none 0 0]:=kN Tryz.zeroValue259 rfl BX (by simp [Tryz.sizeOf22,Tryz.sizeOf70])
theorem wH:se Tryz.prog 294 [(0,1)] [.slice none 0 0]:=kN Tryz.zeroValue294 rfl Tryz.runUnderlying294 (by simp [Tryz.sizeOf22])
theorem qO:se Tryz.prog 300 [(0,1),(1,1)] [.int .i64 0,.int .i64 0]:=kN wU rfl Tryz.runUnderlying300 (by simp [Tryz.sizeOf3])
theorem ig:se Tryz.prog 315 [(0,1),(1,1)] [.int .i64 0,.bool false]:=kN Gw rfl Tryz.runUnderlying315 (by simp [Tryz.sizeOf3,Tryz.sizeOf4])
theorem nV:vC Tryz.prog 22 0 1 []:=nf aa af bI gq an
theorem dv:vC Tryz.prog 22 1 1 [.int .i64 0]:=nf aa af bI gq an
theorem iV:vC Tryz.prog 22 2 1 [.int .i64 0,.int .i64 0]:=nf aa af bI gq an
theorem xI:vC Tryz.prog 22 3 1 [.int .i64 0,.int .i64 0,.int .i64 0]:=nf aa af bI gq an
theorem oL:vC Tryz.prog 35 0 7 []:=nf az aH eH gq an
theorem fl:vC Tryz.prog 35 1 7 [.int .i64 0,.int .i64 0,.int .i64 0,.int .i64 0,.int .i64 0,.int .i64 0,.int .i64 0]:=nf az aH eH gq an
theorem oK:vC Tryz.prog 35 4 7 [.int .i64 0,.int .i64 0,.int .i64 0,.int .i64 0,.int .i64 0,.int .i64 0,.int .i64 0,.int .i64 0,.int .i64 0,.int .i64 0,.int .i64 0,.int .i64 0,.int .i64 0,.int .i64 0,.int .i64 0,.int .i64 0,.int .i64 0,.int .i64 0,.int .i64 0,.int .i64 0,.int .i64 0,.int .i64 0,.int .i64 0,.int .i64 0,.int .i64 0,.int .i64 0,.int .i64 0,.int .i64 0]:=nf az aH eH gq an
theorem kv:vC Tryz.prog 36 1 6 [.int .i64 0,.int .i64 0,.int .i64 0,.int .i64 0,.int .i64 0,.int .i64 0]:=nf aW bY wV gq an
theorem fZ:vC Tryz.prog 51 1 2 [.int .i64 0,.int .i64 0]:=nf bg bE lI gq an
theorem uG:vC Tryz.prog 61 1 1 [.slice none 0 0]:=nf aq aC ek gq an
theorem uF:vC Tryz.prog 61 2 1 [.slice none 0 0,.slice none 0 0]:=nf aq aC ek gq an
theorem qK:vC Tryz.prog 68 1 4 [.int .i64 0,.int .i64 0,.int .i64 0,.int .i64 0]:=nf aP bq ez gq an
theorem fO:vC Tryz.prog 68 2 4 [.int .i64 0,.int .i64 0,.int .i64 0,.int .i64 0,.int .i64 0,.int .i64 0,.int .i64 0,.int .i64 0]:=nf aP bq ez gq an
theorem kl:vC Tryz.prog 111 0 2 []:=nf bD dD oN gq an
theorem sC:vC Tryz.prog 111 1 2 [.int .i64 0,.int .i64 0]:=nf bD dD oN gq an
theorem pK:vC Tryz.prog 182 1 4 [.int .i64 0,.int .i64 0,.int .i64 0,.int .i64 0]:=nf aD aJ ew gq an
theorem wG:vC Tryz.prog 223 6 1 [.nilFunc,.nilFunc,.nilFunc,.nilFunc,.nilFunc,.nilFunc]:=nf Tryz.runUnderlying223 Tryz.sizeOf1 Tryz.zeroValue1 gq an
theorem qL:vC Tryz.prog 302 1 2 [.int .i64 0,.int .i64 0]:=nf kC oP wU gq an
theorem cV:BW Tryz.prog 22 22 3 1 8:=⟨aa,aa,af,⟨_,dC,rfl,by decide⟩,⟨_,bI,rfl⟩⟩
theorem cQ:BW Tryz.prog 35 35 80 7 56:=⟨az,az,aH,⟨_,Tryz.typeInfo80,rfl,by decide⟩,⟨_,eH,rfl⟩⟩
theorem j6:BW Tryz.prog 36 36 108 6 48:=⟨aW,aW,bY,⟨_,Tryz.typeInfo108,rfl,by decide⟩,⟨_,wV,rfl⟩⟩
theorem dV:BW Tryz.prog 51 51 49 2 16:=⟨bg,bg,bE,⟨_,Tryz.typeInfo49,rfl,by decide⟩,⟨_,lI,rfl⟩⟩
theorem pM:BW Tryz.prog 61 61 22 1 24:=⟨aq,aq,aC,⟨_,Tryz.typeInfo22,rfl,by decide⟩,⟨_,ek,rfl⟩⟩
theorem bZ:BW Tryz.prog 68 68 160 4 32:=⟨aP,aP,bq,⟨_,Tryz.typeInfo160,rfl,by decide⟩,⟨_,ez,rfl⟩⟩
theorem dY:BW Tryz.prog 111 111 220 2 16:=⟨bD,bD,dD,⟨_,Tryz.typeInfo220,rfl,by decide⟩,⟨_,oN,rfl⟩⟩
theorem kB:BW Tryz.prog 182 182 189 4 32:=⟨aD,aD,aJ,⟨_,yN,rfl,by decide⟩,⟨_,ew,rfl⟩⟩
theorem kQ:BW Tryz.prog 302 302 300 2 16:=⟨kC,kC,oP,⟨_,Tryz.typeInfo300,rfl,by decide⟩,⟨_,wU,rfl⟩⟩
end Go.Proofs.YtddaejgfjlneoaaGreat
namespace Go.Proofs.YtddaejgfjlneoaaGreat
open Go.MW
variable{H:cf}{w:World}{σ:List Ent}
theorem eM{a0 a1 a2:Int}(hs:St H w σ):Cl Tryz.prog 161 [I a0,I a1,I a2] w fun v w'=>v= .bool (decide (a1≤a0∧a0≤a2))∧St H w' σ:=by
 refine Cl.o Tryz.func161 Tryz.ntmps161 ag3 ?_
 refine .ai (.z zg (.nil (.ai (.z zm (.z zm (.z uO (.z zm ?_)))))))
 refine .iB (t':=10) rfl (fun hb10=>?_) (fun hb10=>?_)
 ·refine .gT rfl rfl ?_
  refine .z zm ?_
  refine .gT rfl rfl ?_
  refine .z zm ?_
  refine .gT rfl rfl ?_
  refine .z uO (.z zpT (.z zg (.nil ?_)))
  refine .ret (Fin.bJ Tryz.results161 rfl ?_)
  exact ⟨by simp [*],hs.out⟩
 ·refine .gFs 3 3 true rfl rfl rfl ?_
  refine .z zpF (.z zg (.nil ?_))
  refine .ret (Fin.bJ Tryz.results161 rfl ?_)
  exact ⟨by simp [*],hs.out⟩
theorem qI{many:Int}{l:Lim}(hs:St H w σ):Cl Tryz.prog 202 [I many,.agg l.c.toArray] w fun v w'=>v= .bool (l.ok many)∧St H w' σ:=by
 refine Cl.o Tryz.func202 Tryz.ntmps202 ag2 ?_
 refine .ai ?_
 refine .bx hs fun b3 w hs=>?_
 refine .z zg (.nil (.ai (.z (zfa eA) (.y hs (zld ae) (.z zm ?_)))))
 refine .o (.call uk rfl (eM hs) ?_);rintro _ w ⟨rfl,hs⟩
 refine .z zm ?_
 refine .bif (t':=9) rfl (fun hb9=>?_) (fun hb9=>?_)
 ·refine .gT rfl rfl ?_
  refine .z (zfa eP) ?_
  refine .gT rfl rfl ?_
  refine .y hs (zld ae) ?_
  refine .gT rfl rfl ?_
  refine .z zm ?_
  refine .gT rfl rfl ?_
  refine .o (.call uk rfl (eM hs) ?_);rintro _ w ⟨rfl,hs⟩
  refine .z zpT (.z zm ?_)
  refine .bif (t':=15) rfl (fun hb15=>?_) (fun hb15=>?_)
  ·refine .gT rfl rfl ?_
   refine .z (zfa eA) ?_
   refine .gT rfl rfl ?_
   refine .y hs (zld ae) ?_
   refine .gT rfl rfl ?_
   refine .z (zfa eP) ?_
   refine .gT rfl rfl ?_
   refine .y hs (zld ae) ?_
   refine .gT rfl rfl ?_
   refine .z ij (.z zpT (.z zm ?_))
   refine .yF (t':=22) rfl (fun hb22=>?_) (fun hb22=>?_)
   ·refine .gT rfl rfl ?_
    refine .z (zfa fV) ?_
    refine .gT rfl rfl ?_
    refine .y hs (zld ae) ?_
    refine .gT rfl rfl ?_
    refine .o (.call uk rfl (eM hs) ?_);rintro _ w ⟨rfl,hs⟩
    refine .z zpT (.z zm ?_)
    refine .bif (t':=27) rfl (fun hb27=>?_) (fun hb27=>?_)
    ·refine .gT rfl rfl ?_
     refine .z (zfa jM) ?_
     refine .gT rfl rfl ?_
     refine .y hs (zld ae) ?_
     refine .gT rfl rfl ?_
     refine .o (.call uk rfl (eM hs) ?_);rintro _ w ⟨rfl,hs⟩
     refine .z zpT (.z zg (.nil ?_))
     refine .ret (Fin.bJ Ax rfl ?_)
     exact ⟨by simp [Lim.ok, *],hs.out⟩
    ·refine .gFs 3 22 true rfl rfl rfl ?_
     refine .z zpF (.z zg (.nil ?_))
     refine .ret (Fin.bJ Ax rfl ?_)
     exact ⟨by simp [Lim.ok, *],hs.out⟩
   ·refine .gFs 3 17 true rfl rfl rfl ?_
    refine .z zpF (.z zm ?_)
    refine .gFs 3 22 true rfl rfl rfl ?_
    refine .z zpF (.z zg (.nil ?_))
    refine .ret (Fin.bJ Ax rfl ?_)
    exact ⟨by simp [Lim.ok, *],hs.out⟩
  ·refine .gFs 5 10 true rfl rfl rfl ?_
   refine .z zpF (.z zm ?_)
   refine .gFs 3 17 true rfl rfl rfl ?_
   refine .z zpF (.z zm ?_)
   refine .gFs 3 22 true rfl rfl rfl ?_
   refine .z zpF (.z zg (.nil ?_))
   refine .ret (Fin.bJ Ax rfl ?_)
   exact ⟨by simp [Lim.ok, *],hs.out⟩
 ·refine .gFs 4 4 true rfl rfl rfl ?_
  refine .z zpF (.z zm ?_)
  refine .gFs 5 10 true rfl rfl rfl ?_
  refine .z zpF (.z zm ?_)
  refine .gFs 3 17 true rfl rfl rfl ?_
  refine .z zpF (.z zm ?_)
  refine .gFs 3 22 true rfl rfl rfl ?_
  refine .z zpF (.z zg (.nil ?_))
  refine .ret (Fin.bJ Ax rfl ?_)
  exact ⟨by simp [Lim.ok, *],hs.out⟩
theorem wN{v:Value}{ls:List Lim}{g:Nat}{cap:List Value}{p:Lim→Bool}(hs:St H w σ)(hr:RL H v ls)
  (hc:∀args w,(callFunc g args).run Tryz.prog w= .ok (.enter g args) w) (hp:∀w l,St H w σ→Cl Tryz.prog g ([.agg l.c.toArray]++cap) w fun u w'=>u= .bool (p l)∧St H w' σ):
  Cl Tryz.prog 252 [v,.func (.func g) #[] cap.toArray] w fun u w'=>u=I (match ls.findIdx? p with|some k=>(k:Int)|none=> -1)∧St H w' σ:=by
 obtain ⟨a,c,rfl⟩:=RS.shape hr
 have hl:=(RS.len hr).2.2
 refine Cl.o Tryz.func252 Tryz.ntmps252 ag2 ?_
 refine .ai (.z zg (.nil (.seq (.ai (.z zm ?_)))))
 refine .q hs (AX hr rfl aP) ?_
 refine .z zm (.nil ?_)
 refine .for (N:=(ls.map Lim.c).length) (J:=fun k fr w=>fr=[(1,.func (.func g) #[] cap.toArray),(0,.slice a (ls.map Lim.c).length c)]∧St H w σ∧∀j<k,∀l,ls[j]? =some l→p l=false) aj ?_ ?_ ?_
 ·exact .mk ⟨rfl,hs,fun j hj=>by omega⟩
 ·rintro k fr w hk ⟨rfl,hs,hno⟩
  obtain ⟨l,hl⟩:=nth (l:=ls) (by simpa using hk)
  refine .block (.ai (.z zm (.z zg (.nil (.ai (.z zm (.z zm (.z zm ?_))))))))
  refine .ixX hs hr rfl rfl aP bq hl rfl ?_;intro b14 o14 hc14
  refine .y hs (zls [_,_,_,_] fF bq) ?_
  refine .o (.pH (first:=[]) rfl rfl hc (hp _ _ hs) ?_);rintro _ w ⟨rfl,hs⟩
  refine .nil ?_
  refine (.cond rfl (fun hc16=>?_) (fun hc16=>?_))
  ·refine .ai (.z zm (.z zg (.nil ?_)))
   refine .ret (rB (rT (rB (rT (Fin.bJ Tryz.results252 rfl ?_)))))
   exact ⟨by rw [tR hl hc16 hno],hs⟩
  ·refine .skip ?_
   refine nB (nT ?_)
   exact .mk ⟨rfl,hs,fw hno hl hc16⟩
 ·rintro fr w ⟨rfl,hs,hno⟩
  refine nT ?_
  refine .ai (.z zg (.nil ?_))
  refine .ret (Fin.bJ Tryz.results252 rfl ?_)
  exact ⟨by rw [r9 (by simpa using hno)],hs⟩
theorem sE{v:Value}{ls:List Lim}{g:Nat}{cap:List Value}{p:Lim→Bool}(hs:St H w σ)(hr:RL H v ls)
  (hc:∀args w,(callFunc g args).run Tryz.prog w= .ok (.enter g args) w) (hp:∀w l,St H w σ→Cl Tryz.prog g ([.agg l.c.toArray]++cap) w fun u w'=>u= .bool (p l)∧St H w' σ):
  Cl Tryz.prog 200 [v,.func (.func g) #[] cap.toArray] w fun u w'=>u= .bool (ls.any p)∧St H w' σ:=by
 refine Cl.o Tryz.func200 Tryz.ntmps200 ag2 ?_
 refine .ai (.z zg (.nil (.ai (.z zm (.z zm ?_)))))
 refine .o (.call Tryz.call252 rfl (wN hs hr hc hp) ?_);rintro _ w ⟨rfl,hs⟩
 refine .z vD (.z zg (.nil ?_))
 refine .ret (Fin.bJ Tryz.results200 rfl ?_)
 exact ⟨by rw [yG];cases ls.findIdx? p<;>simp<;>omega,hs⟩
theorem wF{b:Nat}{many:Int}{v:Value}{l:Lim}(hs:St H w σ)(hm:Mem σ (.blk b [I many,v])):Cl Tryz.prog 201 [.agg l.c.toArray,.pointer (some ⟨b,0,none⟩)] w fun v w'=>v= .bool (!l.ok many)∧St H w' σ:=by
 refine Cl.o Tryz.func201 Tryz.ntmps201 ag2 ?_
 refine .ai ?_
 refine .bx hs fun b2 w hs=>?_
 refine .z zg (.nil (.ai (.z (zfa bH) ?_)))
 refine .q hs (dS rfl ae (.there hm) rfl) ?_
 refine .q hs (kJ (vs:=l.c) rfl fF bq) ?_
 refine .o (.call Tryz.call202 rfl (qI hs) ?_);rintro _ w ⟨rfl,hs⟩
 refine .z ir (.z zg (.nil ?_))
 refine .ret (Fin.bJ Tryz.results201 rfl ?_)
 exact ⟨rfl,hs.out⟩
theorem kj{v:Value}{s:cM}(hs:St H w σ)(hr:RSy H v s):Cl Tryz.prog 125 [v] w fun v w'=>v=I s.check∧St H w' σ:=by
 obtain ⟨u,rfl,hr⟩:=hr
 obtain ⟨a,c,rfl⟩:=RS.shape hr
 refine Cl.o Tryz.func125 Tryz.ntmps125 ag1 ?_
 refine .ai ?_
 refine .bx hs fun b1 w hs=>?_
 refine .z zg (.nil (.seq (.block (.ai (.z (zfa bH) (.y hs (zld ae) ?_))))))
 refine .o (.call uk rfl (eM hs) ?_);rintro _ w ⟨rfl,hs⟩
 refine .z ir (.z zg (.nil ?_))
 refine (.cond rfl (fun hc3=>?_) (fun hc3=>?_))
 ·refine .ai (.z zg (.nil ?_))
  refine .ret (rB (rT (Fin.bJ Tryz.results125 rfl ?_)))
  exact ⟨congrArg I (by unfold cM.check;(repeat' split)<;>simp_all<;>omega),hs.out⟩
 ·refine .ai (.z (zfa bO) (.y hs (zld cH) ?_))
  refine .q hs (AX hr rfl aP) ?_
  refine .z kD (.z zg (.nil ?_))
  refine (.bM rfl (fun hc8=>?_) (fun hc8=>?_))
  ·refine .ai (.z zg (.nil ?_))
   refine .ret (rB (rT (Fin.bJ Tryz.results125 rfl ?_)))
   exact ⟨congrArg I (by unfold cM.check;(repeat' split)<;>simp_all<;>omega),hs.out⟩
  ·refine .ai (.z (zfa bO) (.y hs (zld cH) ?_))
   refine .q hs (dR (f:=[]) (c:=[_]) rfl rfl) ?_
   refine .o (.call Tryz.call200 rfl (sE (p:=fun l=> !l.ok s.many) hs hr Tryz.call201 (fun w l hs=>wF hs .here)) ?_);rintro _ w ⟨rfl,hs⟩
   refine .z zg (.nil ?_)
   refine (.cond rfl (fun hc13=>?_) (fun hc13=>?_))
   ·refine .ai (.z zg (.nil ?_))
    refine .ret (rB (rT (Fin.bJ Tryz.results125 rfl ?_)))
    exact ⟨congrArg I (by unfold cM.check;(repeat' split)<;>simp_all<;>omega),hs.out⟩
   ·refine .skip ?_
    refine nB (nT ?_)
    refine .ai (.z zg (.nil ?_))
    refine .ret (Fin.bJ Tryz.results125 rfl ?_)
    exact ⟨congrArg I (by unfold cM.check;(repeat' split)<;>simp_all<;>omega),hs.out⟩
theorem qE{H:cf}{b:Nat}{s:cM}{u:Value}(hok:s.Ok)(hb:Row H b [I s.many,u])(hr:RL H u s.cO):ItA Tryz.prog 203 [.pointer (some ⟨b,0,none⟩)] H s.dh:=by
 intro l II Ix _ _ hy H0 σb0 σf w hle hI0 hs
 obtain ⟨a,c,rfl⟩:=RS.shape hr
 have hb1:cellAt H0 b 1=some (.slice a (s.cO.map Lim.c).length c):=cellAt.mono (by rw [hb.cell];rfl) hle
 have hlen:=hok.len
 refine Cl.o Tryz.func203 Tryz.ntmps203 ag2 ?_
 refine .ai (.z (zfa bO) (.y hs (zld cH) ?_))
 refine .q hs (AX (hr.mono hle) rfl aP) ?_
 refine .z zm (.nil ?_)
 refine .for (N:=(s.cO.map Lim.c).length) (J:=fun k fr w=>fr=[(6,.slice a (s.cO.map Lim.c).length c),(0,.func (.yield l) #[] #[])]∧∃H1 σb,HLe H H1∧HLe H0 H1∧II k H1 σb∧St H1 w (σb++σf)) (by simp;omega) ?_ ?_ ?_
 ·exact .mk ⟨rfl,H0,σb0,hle,HLe.refl _,hI0,hs⟩
 ·rintro k fr w hk ⟨rfl,H1,σb,hle1,hle0,hI,hs⟩
  obtain ⟨x,hx⟩:=nth (l:=s.cO) (by simpa using hk)
  obtain ⟨hA,hB,_⟩:=hok.arc (List.mem_of_getElem? hx) k
  refine .block (.ai (.z zm ?_))
  refine .ixX hs (hr.mono hle1) rfl rfl aP bq hx rfl ?_;intro b11 o11 hc11
  refine .q hs (cI (vs:=x.c) rfl fF bq hc11) ?_
  refine .o (.alloc hs ez rfl fun b4 w hs=>?_)
  refine .z zg ?_
  refine .o (.aU (vs:=x.c) hs rfl rfl bq fun w hs=>?_)
  refine .nil (.ai (.z zm (.z (zfa eA) (.y hs (zld ae) (.z (zfa eP) (.y hs (zld ae) (.z (zfa fV) (.y hs (zld ae) (.z zm ?_)))))))))
  refine .z (zbd [_,_,_,_] oW) ?_
  have hk':k<(s.dh.map fun x=>[Value.agg x.v.toArray]).length:=by simp [cM.dh,eB];simpa using hk
  have hxk:(s.dh.map fun x=>[Value.agg x.v.toArray])[k]=[.agg (x.arc k).v.toArray]:=by
   have:=jI hx
   rw [List.getElem_map];rw [List.getElem?_eq_some_iff] at this;obtain ⟨h1,h2⟩:=this;simp only [cM.dh];rw [h2]
  have hyd:=hy k hk' H1 σb σf w hle1 hI hs.tail
  rw [hxk] at hyd
  refine .o (.yield (vs:=[.agg (x.arc k).v.toArray]) rfl (by simp [Arc.v,hA,hB];rfl) hyd ?_);rintro v22 w ⟨H2,σ2,g1,hs,g3⟩
  obtain ⟨bb,rfl,gT,gF⟩:=o5 g3
  refine .z ir (.nil ?_)
  refine (.cond rfl (fun hc23=>?_) (fun hc23=>?_))
  ·refine .ret (rB (rT (rB (Fin.EZ Tryz.results203 ?_))))
   exact ⟨H2,σ2,hle0.trans g1,hs,.inr (gF (by simpa using hc23))⟩
  ·refine .skip ?_
   refine nB (nT ?_)
   exact .mk ⟨rfl,H2,σ2,hle1.trans g1,hle0.trans g1,gT (by simpa using hc23),hs⟩
 ·rintro fr w ⟨rfl,H1,σb,hle1,hle0,hI,hs⟩
  exact Fin.xV Tryz.results203 ⟨H1,σb,hle0,hs,.inl (by simpa [cM.dh,eB] using hI)⟩
theorem kg{v:Value}{s:cM}(hs:St H w σ)(hok:s.Ok)(hr:RSy H v s):
  Cl Tryz.prog 127 [v] w fun v w'=>∃H1 b,HLe H H1∧v= .func (.func 203) #[] #[.pointer (some ⟨b,0,none⟩)]∧ItA Tryz.prog 203 [.pointer (some ⟨b,0,none⟩)] H1 s.dh∧St H1 w' σ:=by
 obtain ⟨u,rfl,hr⟩:=hr
 refine Cl.o Tryz.func127 Tryz.ntmps127 ag1 ?_
 refine .ai ?_
 refine .bx hs fun b1 w hs=>?_
 refine .z zg (.nil (.ai ?_))
 refine .q hs (dR (f:=[]) (c:=[_]) rfl rfl) ?_
 refine .z zg (.nil ?_)
 refine .ret (Fin.bJ Tryz.results127 rfl ?_)
 obtain ⟨H1,g1,g2,hs⟩:=hs.cK .here
 exact ⟨H1,b1,g1,rfl,qE hok g2 (hr.mono g1),hs⟩
theorem ln{N gf:Nat}{ar:List Arc}{cap:List Value}(hs:St H w σ)(hN:N≤64)(hok:qT ar (N+1))(hit:ItA Tryz.prog gf cap H ar)(hc:∀args w,(callFunc gf args).run Tryz.prog w= .ok (.enter gf args) w):
  Cl Tryz.prog 126 [I N,.func (.func gf) #[] cap.toArray] w fun v w'=>∃H1 bc bb s ov vo,HLe H H1∧v= .tuple #[.slice (some ⟨bc,0,none⟩) (N+1) (N+1),.slice (some ⟨bb,0,none⟩) (N+1) (N+1),vo]∧OvR H1 vo ov∧FJ (N+1) ar s ov∧St H1 w' (.blk bc (Is s.cost):: .blk bb (jw s.by_)::σ):=by
 refine Cl.o Tryz.func126 Tryz.ntmps126 ag2 ?_
 refine .ai ?_
 refine .o (.alloc hs ek rfl fun b4 w hs=>?_)
 refine .o (.alloc hs Tryz.zeroValue182 rfl fun b5 w hs=>?_)
 refine .o (.alloc hs Tryz.zeroValue183 rfl fun b6 w hs=>?_)
 refine .nil ?_
 refine .cut (fun fs w=>∃bc bb,j9 fs ⟨70,[],[(1,.func (.func gf) #[] cap.toArray),(0,I N),(4,.pointer (some ⟨b4,0,none⟩)),(5,.pointer (some ⟨b5,0,none⟩)),(6,.pointer (some ⟨b6,0,none⟩))]⟩∧St H w (.blk b4 [.slice (some ⟨bc,0,none⟩) (N+1) (N+1)]:: .blk b5 [.slice (some ⟨bb,0,none⟩) (N+1) (N+1)]:: .blk b6 [.pointer none]:: .blk bc (Is (List.replicate (N+1) 0)):: .blk bb (jw (yt (N+1) 0))::σ)) ?_ ?_
 ·refine .draw mix rfl hs fun w hs=>?_
  refine .z 0 rfl zm ?_;refine .z 1 rfl cq ?_;refine .z 3 rfl zm ?_;refine .z 4 rfl cq ?_
  refine .e2 (i:=2) (j:=5) an rfl rfl rfl rfl .none .none hs ?_ ?_
  ·refine .oE (N+1) hs rfl rfl aa dC rfl af bI aj ?_;intro b11 w hs
   refine .go ?_
   refine .e2 (i:=5) (j:=6) an rfl rfl rfl rfl .none .none hs ?_ ?_
   ·refine .CS (N+1) hs rfl rfl aD yN rfl aJ ew aj ?_;intro b14 w hs
    refine .go ?_
    refine .E 6 hs ?_
    refine .store hs rfl rfl aC ?_;intro w hs
    refine .go ?_
    refine .E 7 hs ?_
    refine .store hs rfl rfl uJ ?_;intro w hs
    refine .go ?_
    refine .D hs ?_
    exact nT ⟨b11,b14,aR,hs.sb⟩
   ·refine .store hs rfl rfl aC ?_;intro w hs
    refine .go ?_
    refine .E 5 hs ?_
    refine .CS (N+1) hs rfl rfl aD yN rfl aJ ew aj ?_;intro b14 w hs
    refine .go ?_
    refine .E 7 hs ?_
    refine .store hs rfl rfl uJ ?_;intro w hs
    refine .go ?_
    refine .D hs ?_
    exact nT ⟨b11,b14,aR,hs.sb⟩
  ·refine .CS (N+1) hs rfl rfl aD yN rfl aJ ew aj ?_;intro b14 w hs
   refine .go ?_
   refine .E 2 hs ?_
   refine .oE (N+1) hs rfl rfl aa dC rfl af bI aj ?_;intro b11 w hs
   refine .go ?_
   refine .E 6 hs ?_
   refine .store hs rfl rfl aC ?_;intro w hs
   refine .go ?_
   refine .E 7 hs ?_
   refine .store hs rfl rfl uJ ?_;intro w hs
   refine .go ?_
   refine .D hs ?_
   exact nT ⟨b11,b14,aR,hs.sb⟩
 ·rintro s w ⟨bc,bb,hfs,hs⟩
  refine WE.sub ?_ hfs
  refine .seq (.ai (.y hs (zld fE) (.z (c9 aD) (.z zm (.nil ?_)))))
  refine .for (N:=N+1) (J:=fun k fr w=>fr=[(1,.func (.func gf) #[] cap.toArray),(0,I N),(4,.pointer (some ⟨b4,0,none⟩)),(5,.pointer (some ⟨b5,0,none⟩)),(6,.pointer (some ⟨b6,0,none⟩))]∧St H w (.blk b4 [.slice (some ⟨bc,0,none⟩) (N+1) (N+1)]:: .blk b5 [.slice (some ⟨bb,0,none⟩) (N+1) (N+1)]:: .blk b6 [.pointer none]:: .blk bc (Is (List.replicate (N+1) 0)):: .blk bb (jw (yt (N+1) k))::σ)) aj ?_ ?_ ?_
  ·exact .mk ⟨rfl,hs⟩
  ·rintro k fr w hk ⟨rfl,hs⟩
   have hkl:k<(yt (N+1) k).length:=by rw [yr aj];exact hk
   refine .block (.ai (.z zm (.z zg (.nil (.region (.y hs (zld fE) (.z zm ?_)))))))
   first|(refine .ixw hs aD aJ ?_;intro b22 o22 hc22)|refine .z (ni aD aJ) ?_
   refine .z (zfa dZ) ?_
   refine .o (.store hs rfl rfl af ?_ cZ (zJ hkl aj) ((xS hkl _).trans (congrArg jw (CP hk))));intro w hs
   refine .nil ?_
   refine nB (nT ?_)
   exact .mk ⟨rfl,hs⟩
  ·rintro fr w ⟨rfl,hs⟩
   refine nT ?_
   refine .seq (.ai (.z zm (.z cq (.z zm (.nil ?_)))))
   refine .forD (N:=N+2) (J:=fun r ds fr w=>fr=[(1,.func (.func gf) #[] cap.toArray),(0,I N),(4,.pointer (some ⟨b4,0,none⟩)),(5,.pointer (some ⟨b5,0,none⟩)),(6,.pointer (some ⟨b6,0,none⟩))]∧∃Ds H1 s vo,ds=marks Ds∧HLe H H1∧ur (N+1) ar r 0 none s∧(r=0∨∃x,OvR H1 vo (some x)∧ur (N+1) ar (r - 1) ar.length (some x) s)∧St H1 w (.blk b4 [.slice (some ⟨bc,0,none⟩) (N+1) (N+1)]:: .blk b5 [.slice (some ⟨bb,0,none⟩) (N+1) (N+1)]:: .blk b6 [vo]:: .blk bc (Is s.cost):: .blk bb (jw s.by_)::(mes Ds++σ))) aj ?_ ?_ ?_
   ·exact .mk (ds:=[]) ⟨rfl,[],H,⟨List.replicate (N+1) 0,List.replicate (N+1) ⟨0,0,0,-1⟩⟩,_,rfl,HLe.refl _,ur.init aj,.inl rfl,by rw [Bb] at hs;exact hs⟩
   ·rintro r ds fr w hr ⟨rfl,Ds,H1,s,vo,rfl,hle1,hN0,-,hs⟩
    refine .block (.ai ?_)
    refine .o (.store hs rfl rfl Tryz.sizeOf183 fun w hs=>?_)
    refine .nil (.seq (.ai (.z zm (.nil (.block ?_)))))
    refine .rangeFunc (gf:=gf) (cap:=cap) (xs:=ar.map fun x=>[.agg x.v.toArray]) (σb:=[.blk b4 [.slice (some ⟨bc,0,none⟩) (N+1) (N+1)],.blk b5 [.slice (some ⟨bb,0,none⟩) (N+1) (N+1)],.blk b6 [.pointer none],.blk bc (Is s.cost),.blk bb (jw s.by_)]) (σf:=mes Ds++σ) hs trivial rfl (hit.mono hle1) hc bV rfl
     (I:=fun k H' σb=>∃s ov vo,σb=[.blk b4 [.slice (some ⟨bc,0,none⟩) (N+1) (N+1)],.blk b5 [.slice (some ⟨bb,0,none⟩) (N+1) (N+1)],.blk b6 [vo],.blk bc (Is s.cost),.blk bb (jw s.by_)]∧OvR H' vo ov∧ur (N+1) ar r k ov s) (Ix:=fun _ _ _=>False) (by rintro k _ _ σ g1 ⟨s,ov,vo,g2,g3,g4⟩;exact ⟨s,ov,vo,g2,g3.mono g1,g4⟩) (fun _ _ _ _ _ h=>h)
     ⟨s,none,_,rfl,rfl,hN0⟩ ?_ ?_ (fun D c H' σb w _ h _=>h.elim)
    ·rintro l k hk H2 σb2 σf2 w hle2 ⟨s,ov,vo,rfl,hov,hN⟩ hs ⟨rr,hrr⟩
     obtain ⟨x,hx⟩:=nth (l:=ar) (by simpa using hk)
     obtain ⟨c1,c2,c3,c4,c5,c6⟩:=hok.2 x (List.mem_of_getElem? hx)
     have hxk:(ar.map fun x=>[Value.agg x.v.toArray])[k]=[.agg x.v.toArray]:=by rw [List.getElem_map];rw [List.getElem?_eq_some_iff] at hx;obtain ⟨h1,h2⟩:=hx;rw [h2]
     rw [hxk]
     have hkl:k<ar.length:=by simpa using hk
     have hal:=hok.1
     have hlc:=hN.lc
     have hlb:=hN.lb
     have lo1:=hN.lo x.f c1
     have hi1:=hN.hi x.f c1
     refine .region ?_
     refine .o (.alloc hs ew rfl fun b8 w hs=>?_)
     refine .o (.aU (vs:=x.v) hs rfl rfl aJ fun w hs=>?_)
     refine .nil ?_
     refine nT ?_
     refine ⟨H2,[.blk b8 x.v,.blk b4 [.slice (some ⟨bc,0,none⟩) (N+1) (N+1)],.blk b5 [.slice (some ⟨bb,0,none⟩) (N+1) (N+1)],.blk b6 [vo],.blk bc (Is s.cost),.blk bb (jw s.by_)],HLe.refl _,hs,?_⟩;rintro w σf2 - hs
     refine .block ?_
     refine .seq (.draw mix rfl hs fun w hs=>?_)
     refine .y 0 rfl hs ak ?_;refine .z 1 rfl (zfa dp) ?_;refine .y 2 rfl hs ae ?_
     first|(refine .ixv 3 rfl hs aa af ?_;intro b34 o34 hc34)|refine .z 3 rfl (zix aa af) ?_
     refine .y 4 rfl hs ae ?_;refine .z 5 rfl (zfa fB) ?_;refine .y 6 rfl hs ae ?_;refine .z 7 rfl cq ?_;refine .y 8 rfl hs ak ?_;refine .z 9 rfl (zfa dz) ?_;refine .y 10 rfl hs ae ?_
     first|(refine .ixv 11 rfl hs aa af ?_;intro b42 o42 hc42)|refine .z 11 rfl (zix aa af) ?_
     refine .y 12 rfl hs ae ?_;refine .z 13 rfl gx ?_;refine .D hs ?_
     refine (.bM rfl (fun hc44=>?_) (fun hc44=>?_))
     ·refine .seq (.draw mix rfl hs fun w hs=>?_)
      refine .y 0 rfl hs ak ?_;refine .z 1 rfl (zfa dz) ?_;refine .y 2 rfl hs ae ?_;refine .y 3 rfl hs fE ?_;refine .z 4 rfl (zfa dz) ?_;refine .y 5 rfl hs ae ?_;refine .y 6 rfl hs ak ?_;refine .z 7 rfl (zfa dp) ?_;refine .y 8 rfl hs ae ?_
      first|(refine .ixv 9 rfl hs aa af ?_;intro b54 o54 hc54)|refine .z 9 rfl (zix aa af) ?_
      refine .y 10 rfl hs ae ?_;refine .z 11 rfl (zfa fB) ?_;refine .y 12 rfl hs ae ?_;refine .z 13 rfl cq ?_
      refine .yu (i:=14) (vs:=x.v) hs rfl an .none rfl gV aJ ?_
      first|(refine .ixv 15 rfl hs aa af ?_;intro b60 o60 hc60)|refine .z 15 rfl (zix aa af) ?_
      refine .E 16 hs ?_
      refine .store hs rfl rfl af ?_;intro w hs
      refine .go ?_
      first|(refine .ixw 17 rfl hs aD aJ ?_;intro b61 o61 hc61)|refine .z 17 rfl (ni aD aJ) ?_
      refine .E 18 hs ?_
      refine .aU (vs:=x.v) hs rfl rfl aJ ?_;intro w hs
      refine .go ?_
      refine .D hs ?_
      refine .region ?_
      refine .o (.store hs rfl rfl Tryz.sizeOf183 fun w hs=>?_)
      refine .nil ?_
      refine nB ?_
      obtain ⟨H3,g1,g2,hs⟩:=hs.cK .here
      exact ⟨H3,_,g1,hs,s.rlx x,some x,_,rfl,⟨b8,rfl,g2⟩,hN.uy hok hx hc44⟩
     ·refine .skip ?_
      refine nB ?_
      exact ⟨H2,_,HLe.refl _,hs.tail,s,ov,vo,rfl,hov,hN.skip hok hx (by unfold BS.can;omega)⟩
    ·rintro D H2 σb2 w hle2 ⟨s,ov,vo,rfl,hov,hN⟩ hs
     obtain ⟨a',rfl,ha'⟩:=hov.ptr
     replace hs:St H2 w (.blk b4 [.slice (some ⟨bc,0,none⟩) (N+1) (N+1)]:: .blk b5 [.slice (some ⟨bb,0,none⟩) (N+1) (N+1)]:: .blk b6 [.pointer a']:: .blk bc (Is s.cost):: .blk bb (jw s.by_)::(mes (D::Ds)++σ)):=St.deep (σ1:=[_,_,_,_,_]) hs
     have hN:ur (N+1) ar r ar.length ov s:=by simpa using hN
     refine nB (nT ?_)
     refine .ai (.y hs (zld Tryz.isAgg183) ?_)
     refine .q hs (A0 rfl rfl Tryz.runUnderlying183) ?_
     refine .nil ?_
     refine (.cond rfl (fun hc63=>?_) (fun hc63=>?_))
     ·refine .seq (.draw mix rfl hs fun w hs=>?_)
      refine .y 0 rfl hs ak ?_;refine .y 1 rfl hs fE ?_
      refine .E 2 hs ?_
      refine .store hs rfl rfl aC ?_;intro w hs
      refine .go ?_
      refine .E 3 hs ?_
      refine .store hs rfl rfl uJ ?_;intro w hs
      refine .go ?_
      refine .E 4 hs ?_
      refine .store hs rfl rfl Tryz.sizeOf183 ?_;intro w hs
      refine .go ?_
      refine .D hs ?_
      refine .ret (rB (rT (rB (rT (?_)))))
      obtain ⟨rfl,rfl⟩:=OvR.no ha' hc63
      refine Fin.iK (D::Ds) [_,_,_,_,_] hs fun w hs=>⟨_,results3 Tryz.results126 (zY hs rfl ak) (zY hs rfl fE) (zY hs rfl Tryz.isAgg183),H2,bc,bb,s,none,_,hle1.trans hle2,rfl,hov,⟨r,hN,fun h=>(h rfl).elim⟩,hs.sb⟩
     ·refine .skip ?_
      refine nB (nT ?_)
      obtain ⟨x,rfl⟩:=OvR.yes ha' hc63
      exact .mk (ds:=marks (D::Ds)) ⟨rfl,D::Ds,H2,s,_,rfl,hle1.trans hle2,hN.next hok,.inr ⟨x,hov,hN⟩,hs⟩
   ·rintro ds fr w ⟨rfl,Ds,H1,s,vo,rfl,hle1,hN0,hor,hs⟩
    obtain ⟨x,hov,hN⟩:∃x,OvR H1 vo (some x)∧ur (N+1) ar (N+2 - 1) ar.length (some x) s:=hor.resolve_left aj
    obtain ⟨b3,rfl,hrow⟩:=hov
    refine nT ?_
    refine .seq (.draw mix rfl hs fun w hs=>?_)
    refine .y 0 rfl hs ak ?_;refine .y 1 rfl hs fE ?_;refine .y 2 rfl hs Tryz.isAgg183 ?_
    refine .E 3 hs ?_
    refine .store hs rfl rfl aC ?_;intro w hs
    refine .go ?_
    refine .E 4 hs ?_
    refine .store hs rfl rfl uJ ?_;intro w hs
    refine .go ?_
    refine .E 5 hs ?_
    refine .store hs rfl rfl Tryz.sizeOf183 ?_;intro w hs
    refine .go ?_
    refine .D hs ?_
    refine .ret ?_
    refine Fin.iK Ds [_,_,_,_,_] hs fun w hs=>⟨_,results3 Tryz.results126 (zY hs rfl ak) (zY hs rfl fE) (zY hs rfl Tryz.isAgg183),H1,bc,bb,s,some x,_,hle1,rfl,⟨b3,rfl,hrow⟩,⟨N+1,hN,fun _=>rfl⟩,hs.sb⟩
theorem js{v:Value}{s:cM}(hs:St H w σ)(hok:s.Ok)(hr:RSy H v s):
  Cl Tryz.prog 133 [v] w fun v w'=>∃H1 b,HLe H H1∧v= .bool b∧(b=true↔s.Sound)∧St H1 w' σ:=by
 obtain ⟨u,rfl,hr⟩:=hr
 obtain ⟨N,hN⟩:=Int.eq_ofNat_of_zero_le hok.m0
 have hN1:=hok.m1
 have hn:s.n=N+1:=by simp [cM.n,hN]
 have hoka:=hok.dh
 rw [hn] at hoka
 rw [hN]
 refine Cl.o Tryz.func133 Tryz.ntmps133 ag1 ?_
 refine .ai ?_
 refine .bx hs fun b1 w hs=>?_
 refine .z zg (.nil ?_)
 refine .seq (.draw mix rfl hs fun w hs=>?_)
 refine .z 0 rfl (zfa bH) ?_;refine .y 1 rfl hs ae ?_;refine .ys 2 rfl hs [_,_] aT aE ?_
 refine .E 3 hs ?_
 refine .call Tryz.call127 rfl (kg (s:=s) hs hok ⟨u,by rw [hN],hr⟩) ?_;rintro _ w ⟨H1,b10,hle1,rfl,hit,hs⟩
 refine .go ?_
 refine .E 4 hs ?_
 refine .call Tryz.call126 rfl (ln hs aj hoka hit Tryz.call203) ?_;rintro _ w ⟨H2,bc,bb,st,ov,vo,hle2,rfl,hov,hnr,hs⟩
 obtain ⟨a',rfl,ha'⟩:=hov.ptr
 refine .go ?_
 refine .z 5 rfl zm ?_;refine .z 6 rfl zex ?_;refine .z 7 rfl zex ?_;refine .z 8 rfl zex ?_;refine .z 9 rfl zg ?_;refine .z 10 rfl zg ?_;refine .z 11 rfl zg ?_;refine .D hs ?_
 refine .ai (.z zm ?_)
 refine .q hs (A0 rfl rfl Tryz.runUnderlying183) ?_
 refine .z zg (.nil ?_)
 refine .ret (Fin.bJ Tryz.results133 rfl ?_)
 refine ⟨H2,_,hle1.trans hle2,rfl,?_,hs.out⟩
 obtain ⟨r,hN2,hr2⟩:=hnr
 cases ov with
 |none=>
  rw [ha']
  exact ⟨fun _=>⟨_,(hN2.sol hoka aj).1⟩,fun _=>rfl⟩
 |some x=>
  rw [ha']
  exact ⟨fun h=>(by cases h),fun h=>(hN2.none hoka aj (by have:=hr2 bV;omega) h).elim⟩
theorem pz{c:Int}(hs:St H w σ)(hc:0≤c∧c<4294967296):Cl Tryz.prog 299 [.int .u64 1,.int .u64 c] w fun v w'=>v= .tuple #[.int .u64 0,.int .u64 c]∧St H w' σ:=by
 refine Cl.o Tryz.func299 Tryz.ntmps299 ag2 ?_
 refine .ai (.z zg (.z zg (.nil (.ai (.z zm ?_)))))
 first|refine .q hs (D9 rfl rfl ⟨aj,aj⟩) ?_|refine .q hs (y0 rfl rfl) ?_
 refine .z zg (.nil (.ai (.z zm ?_)))
 first|refine .q hs (xc rfl rfl ⟨aj,aj⟩) ?_|refine .q hs (zZ rfl rfl gq) ?_
 refine .z zg (.nil (.ai (.z zm ?_)))
 first|refine .q hs (D9 rfl rfl ⟨aj,aj⟩) ?_|refine .q hs (y0 rfl rfl) ?_
 refine .z zg (.nil (.ai (.z zm ?_)))
 first|refine .q hs (xc rfl rfl ⟨aj,aj⟩) ?_|refine .q hs (zZ rfl rfl gq) ?_
 refine .z zg (.nil (.ai (.z zm (.z zm (.z ka (.z zg (.nil (.ai (.z zm ?_)))))))))
 refine .z zm (.z ka (.z zm ?_))
 first|refine .q hs (xc rfl rfl ⟨aj,aj⟩) ?_|refine .q hs (zZ rfl rfl gq) ?_
 refine .z cq (.z zg (.nil (.ai (.z zm ?_))))
 first|refine .q hs (D9 rfl rfl ⟨aj,aj⟩) ?_|refine .q hs (y0 rfl rfl) ?_
 refine .z zg (.nil (.ai (.z zm ?_)))
 first|refine .q hs (xc rfl rfl ⟨aj,aj⟩) ?_|refine .q hs (zZ rfl rfl gq) ?_
 refine .z zg (.nil (.ai (.z zm (.z zm (.z zm (.z ka (.z cq (.z zg (.nil ?_)))))))))
 refine .ai (.z zm (.z zm (.z ka (.z zm (.z cq (.z zm ?_))))))
 first|refine .q hs (xc rfl rfl ⟨aj,aj⟩) ?_|refine .q hs (zZ rfl rfl gq) ?_
 refine .z cq (.z zg (.nil (.ai (.z zm (.z zm (.z ka (.z zg (.nil ?_))))))))
 refine .ret (Fin.nh Tryz.results299 rfl rfl ?_)
 exact ⟨bV,hs⟩
theorem rA{c:Int}(hs:St H w σ)(hc:0≤c∧c<4294967296):Cl Tryz.prog 297 [.int .u64 1,.int .u64 c] w fun v w'=>v= .tuple #[.int .u64 0,.int .u64 c]∧St H w' σ:=by
 refine Cl.o Tryz.func297 Tryz.ntmps297 ag2 ?_
 refine .ai (.z zg (.z zg (.nil ?_)))
 refine .seq (.cF ?_)
 refine .skip ?_
 refine nT ?_
 refine .ai (.z zm (.z zm ?_))
 refine .o (.call Tryz.call299 rfl (pz hs hc) ?_);rintro _ w ⟨rfl,hs⟩
 refine .z zm (.z zex (.z zex (.z zg (.z zg (.nil (.ai (.z zm (.z zm (.z zg ?_)))))))))
 refine .z zg (.nil ?_)
 refine .ret (Fin.nh Tryz.results297 rfl rfl ?_)
 exact ⟨rfl,hs⟩
theorem Bs{c k:Nat}{z:Int}:let n:=min k (c - k);(List.replicate k z++List.replicate (c - k) 0).take k++List.replicate n z++(List.replicate k z++List.replicate (c - k) 0).drop (k+n)=List.replicate (k+n) z++List.replicate (c - (k+n)) (0:Int):=by
 intro n
 have hn:n≤c - k:=Nat.min_le_right _ _
 have e0:(List.replicate k z).length=k:=by simp
 rw [List.take_left' e0]
 have e1:(List.replicate k z++List.replicate (c - k) 0).drop (k+n)=List.replicate (c - (k+n)) (0:Int):=by
  rw [show k+n=(List.replicate k z).length+n by simp,List.drop_append]
  simp
  omega
 rw [e1,List.replicate_append_replicate]
theorem rh{z:Int}{bx c:Nat}(hs:St H w σ)(hm:Mem σ (.blk bx (Is [z])))(h1:1≤c)(h2:c≤1000000):Cl Tryz.prog 288 [.slice (some ⟨bx,0,none⟩) 1 1,I c] w fun v w'=>∃b,v= .slice (some ⟨b,0,none⟩) c c∧St H w' (.blk b (Is (List.replicate c z))::σ):=by
 refine Cl.o Tryz.func288 Tryz.ntmps288 ag2 ?_
 refine .ai (.z zg (.nil (.seq (.ai (.z zm (.z gx (.nil ?_)))))))
 refine (.bM rfl (fun hc10=>?_) (fun hc10=>?_))
 ·omega
 ·refine .skip ?_
  refine nT ?_
  refine .ai (.z zm (.z (c9 aa) ?_))
  first|refine .q hs (yo rfl bp eV ⟨aj,aj⟩) ?_|refine .q hs (yn rfl bp eV ⟨aj,aj⟩) ?_|refine .q hs (xd rfl bp eV) ?_
  refine .z zm ?_
  first|refine .q hs (yo rfl bp eV ⟨aj,aj⟩) ?_|refine .q hs (yn rfl bp eV ⟨aj,aj⟩) ?_|refine .q hs (xd rfl bp eV) ?_
  refine .o (.call Tryz.call297 rfl (rA (c:=c) hs aj) ?_);rintro _ w ⟨rfl,hs⟩
  refine .z zm (.z zex (.z zex (.z zg (.z zg (.nil (.seq (.ai (.z zm (.z kD ?_)))))))))
  refine .z zm ?_
  refine .iB (t':=23) rfl (fun hb23=>?_) (fun hb23=>?_)
  ·refine .gFs 2 2 false rfl rfl rfl ?_
   refine .z zpT (.nil ?_)
   refine (.cT ?_)
   first|omega|(simp at hc26;omega)
  ·refine .gT rfl rfl ?_
   refine .z zm ?_
   refine .gT rfl rfl ?_
   refine .z kD (.z zpF (.nil ?_))
   refine (.bM rfl (fun hc26=>?_) (fun hc26=>?_))
   ·first|omega|(simp at hc26;omega)
   ·refine .skip ?_
    refine nT ?_
    refine .ai (.z zm ?_)
    first|refine .q hs (yo rfl eV bp ⟨aj,aj⟩) ?_|refine .q hs (yn rfl eV bp ⟨aj,aj⟩) ?_|refine .q hs (xd rfl eV bp) ?_
    refine .o (.oE c hs rfl rfl aa dC rfl af bI aj fun b30 w hs=>?_)
    refine .z zg (.nil (.ai (.z zm (.z zm ?_))))
    refine .o (.FB (k:=1) (xs:=List.replicate c 0) (zs:=[z]) hs rfl rfl ⟨_,_,rfl⟩ aa af aj rfl (xz (xs:=[z]) (.there hm) rfl rfl) (by simp;omega) ?_);intro w hs
    refine .z zg (.nil (.seq (.block ?_)))
    refine .loop (fun k:Nat=>⟨48,[],[(8,I k),(7,.slice (some ⟨b30,0,none⟩) c c)]⟩) (fun k w=>(1≤k∧k≤c)∧St H w (.blk b30 (Is (List.replicate k z++List.replicate (c - k) 0))::σ)) (fun k=>c - k) 1 aR ⟨⟨aj,aj⟩,by
      have e:List.take 0 (List.replicate c (0:Int))++[z]++List.drop (0+1) (List.replicate c 0)=List.replicate 1 z++List.replicate (c - 1) 0:=by simp
      rw [e] at hs;exact hs⟩ ?_
    rintro k w ⟨⟨k1,k2⟩,hs⟩
    refine .seq (.ai (.z zm (.z zm (.z (c9 aa) (.z gx (.nil ?_))))))
    refine (.bM rfl (fun hc37=>?_) (fun hc37=>?_))
    ·refine .skip ?_
     refine nT ?_
     refine .block ?_
     refine .draw mix rfl hs fun w hs=>?_
     refine .z 0 rfl zm ?_;refine .z 1 rfl zm ?_;refine .z 2 rfl zm ?_
     refine .z 3 rfl (xb (k:=k) rfl rfl aa af aj aj) ?_
     refine .z 4 rfl zm ?_;refine .z 5 rfl zm ?_
     refine .z 6 rfl (tD (k:=k) rfl rfl aa af aj) ?_
     refine .E 7 hs ?_
     refine .FB (k:=min k (c - k)) (xs:=List.replicate k z++List.replicate (c - k) 0) (zs:=List.replicate (min k (c - k)) z) hs rfl rfl ⟨_,_,rfl⟩ aa af rfl bV (xz (xs:=List.replicate k z++List.replicate (c - k) 0) .here (by rw [List.drop_zero,List.take_append_of_le_length (by simp;omega)];simp) bV) (by simp;omega) ?_;intro w hs
     refine .go ?_
     refine .z 8 rfl cq ?_;refine .z 9 rfl zg ?_;refine .D hs ?_
     refine nB (nT ?_)
     exact ⟨k+min k (c - k),aR,⟨⟨aj,aj⟩,by
       have e:=Bs (z:=z) (c:=c) (k:=k)
       simp only [Nat.mul_one,Nat.zero_add] at hs
       rw [e] at hs;exact hs⟩,aj⟩
    ·refine .exit ?_
     refine xT (xT (xB (nT ?_)))
     refine .ai (.z zm (.z zg (.nil ?_)))
     refine .ret (Fin.bJ Tryz.results288 rfl ?_)
     obtain rfl:k=c:=by omega
     exact ⟨b30,rfl,by simpa using hs⟩
theorem rj{v:Value}{xs:List Int}(hs:St H w σ)(hr:RI H v xs)(hx:xs.length≤17592186044416):Cl Tryz.prog 197 [v] w fun u w'=>∃en,(Fq v=true→Fq u=true)∧cn 1 u (Is xs) en∧St H w' (en::σ):=by
 obtain ⟨a,c,rfl⟩:=RI.shape hr
 have hl:=(RI.len hr).2.2
 refine Cl.o Tryz.func197 Tryz.ntmps197 ag1 ?_
 refine .ai (.z zg (.nil (.seq (.ai (.z zm ?_)))))
 refine .q hs (Fh rfl rfl aa) ?_
 refine .nil ?_
 refine (.cond rfl (fun hc4=>?_) (fun hc4=>?_))
 ·refine .ai (.z zg (.nil ?_))
  refine .ret (rT (Fin.bJ Tryz.results197 rfl ?_))
  obtain rfl:a=none:=by simpa using hc4
  obtain rfl:=hr.Gd
  exact ⟨.nul,fun h=>h,.nil 1 none,hs.nul⟩
 ·refine .skip ?_
  refine nT ?_
  refine .ai ?_
  refine .o (.buildSlice (cells:=[]) hs nV rfl rfl fun b5 w hs=>?_)
  refine .z zm ?_
  refine .o (.BM (xs:=[]) (ys:=Is xs) hs cV rfl rfl (.full rfl) (.ints hr) (by simp [Value.oneCell']) (fun l h=>by simp at h;omega) ?_);intro v7 en7 w hnn hO hs
  refine .z zg (.nil ?_)
  refine .ret (Fin.bJ Tryz.results197 rfl ?_)
  exact ⟨en7,fun _=>hnn rfl,hO,hs⟩
theorem mH{v:Value}{xs:List Int}(hs:St H w σ)(hr:RI H v xs)(hx:xs.length≤17592186044416):Cl Tryz.prog 197 [v] w fun v w'=>∃en,cn 1 v (Is xs) en∧St H w' (en::σ):=
 (rj hs hr hx).mono fun _ _ ⟨en,_,h⟩=>⟨en,h⟩
theorem pa{v:Value}{l:List Arc}{en:Ent}(hs:St H w (en::σ))(ho:cn 4 v (jw l) en)(hl:l.length≤1000000):
  Cl Tryz.prog 289 [v] w fun _ w'=>∃en',cn 4 v (jw l.reverse) en'∧St H w' (en'::σ):=by
 rcases ho with ⟨a,rfl,h2,rfl⟩|⟨b,len,cap,sp,rfl,rfl,h2,h3,h4⟩
 ·obtain rfl:l=[]:=by
   have:=congrArg List.length h2
   rw [dU] at this
   exact List.length_eq_zero_iff.1 (by simp at this;omega)
  have hs:=hs.tail
  refine Cl.o Tryz.func289 Tryz.ntmps289 ag1 ?_
  refine .ai (.z zm (.z (c9 aD) (.z gW (.z zg (.z zg (.nil (.block ?_)))))))
  refine .loop (fun _:Unit=>⟨28,[],[(2,I 0),(3,I (-1))]⟩) (fun _ w=>St H w σ) (fun _=>0) () aR hs ?_
  rintro _ w hs
  refine .seq (.ai (.z zm (.z zm (.z gx (.nil ?_)))))
  refine (.bM rfl (fun hc9=>?_) (fun hc9=>?_))
  ·omega
  ·refine .exit ?_
   refine xT (xT (xB ?_))
   exact Fin.xV Tryz.results289 ⟨.nul,.nil 4 a,hs.nul⟩
 obtain rfl:len=l.length:=by rw [dU] at h2;omega
 refine Cl.o Tryz.func289 Tryz.ntmps289 ag1 ?_
 refine .ai (.z zm (.z (c9 aD) (.z gW (.z zg (.z zg (.nil (.block ?_)))))))
 refine .loop (fun p:Nat×List Arc=>⟨28,[],[(2,I p.1),(3,I ((l.length:Int) - 1 - p.1)),(0,.slice (some ⟨b,0,none⟩) l.length cap)]⟩) (fun p w=>(2*p.1≤l.length+1∧sc l p.2 p.1)∧St H w (.blk b (jw p.2++sp)::σ)) (fun p=>l.length - p.1) (0,l) (.cons rfl (.cj rfl bV (.cons rfl (.nil rfl rfl)))) ⟨⟨bV,.start l⟩,hs⟩ ?_
 rintro ⟨i,L⟩ w ⟨⟨h5,h6⟩,hs⟩
 dsimp only at h5 h6 hs ⊢
 have hL:=h6.1
 refine .seq (.ai (.z zm (.z zm (.z gx (.nil ?_)))))
 refine (.bM rfl (fun hc9=>?_) (fun hc9=>?_))
 ·refine .skip ?_
  refine nT ?_
  refine .seq (.block ?_)
  refine .draw mix rfl hs fun w hs=>?_
  refine .z 0 rfl zm ?_;refine .z 1 rfl zm ?_;refine .z 2 rfl zm ?_;refine .z 3 rfl zm ?_;refine .z 4 rfl zm ?_;refine .z 5 rfl zm ?_
  refine .z 6 rfl (uZ (k:=l.length - 1 - i) rfl rfl aD aJ aj aj) ?_
  refine .yu (i:=7) (vs:=(ga L (l.length - 1 - i)).v) hs rfl an .none rfl gV aJ ?_ (hv:=uh aj sp)
  refine .z 8 rfl zm ?_;refine .z 9 rfl zm ?_
  first|(refine .ixw 10 rfl hs aD aJ ?_;intro b24 o24 hc24)|refine .z 10 rfl (ni aD aJ) ?_
  refine .yu (i:=11) (vs:=(ga L i).v) hs rfl an .none rfl gV aJ ?_ (hv:=uh aj sp)
  first|(refine .ixw 12 rfl hs aD aJ ?_;intro b26 o26 hc26)|refine .z 12 rfl (ni aD aJ) ?_
  refine .E 13 hs ?_
  refine .aU (vs:=(ga L (l.length - 1 - i)).v) hs rfl rfl aJ ?_ cZ (uc aj sp) (rY aj _ sp);intro w hs
  refine .go ?_
  refine .z 14 rfl (uZ (k:=l.length - 1 - i) rfl rfl aD aJ aj aj) ?_
  refine .E 15 hs ?_
  refine .aU (vs:=(ga L i).v) hs rfl rfl aJ ?_ cZ (uc (by simp;omega) sp) (rY (by simp;omega) _ sp);intro w hs
  refine .go ?_
  refine .D hs ?_
  refine nB (nT ?_)
  refine .region (.z zm (.z cq (.z zm (.z gW (.z zg (.z zg (.nil ?_)))))))
  refine nT ?_
  exact ⟨(i+1,_),.cons rfl (.cj rfl (by push_cast;omega) (.cons rfl (.nil rfl rfl))),⟨⟨by dsimp only;omega,h6.step aj⟩,hs⟩,by dsimp only;omega⟩
 ·refine .exit ?_
  refine xT (xT (xB ?_))
  rw [h6.done aj] at hs
  exact Fin.xV Tryz.results289 ⟨_,.inr ⟨b,l.length,cap,sp,rfl,rfl,by rw [dU];simp,by rw [←h3];simp [dU],h4⟩,hs⟩
theorem nb{H:cf}{b1 bf bt bl cl:Nat}{s:cM}{ts lf:List Int}{vl:Value}{sp:List Value}(hok:s.Ok)(hb:Row H b1 [.pointer (some ⟨bf,0,none⟩)])(hF:ug H bf s ts lf vl bt bl cl sp)(hlt:ts.length=s.cO.length):
  ItA Tryz.prog 270 [.pointer (some ⟨b1,0,none⟩)] H (de s.dh ts):=by
 intro l II Ix hmI hmX hy H0 σb0 σf w hle hI0 hs
 have hb0:cellAt H0 b1 0=some (.pointer (some ⟨bf,0,none⟩)):=(hb.mono hle).at 0
 have hF0:=hF.mono hle
 have hsys:=hF0.f.cells 0 [I s.many,vl]
 have hlen:s.dh.length=ts.length:=by simp [cM.dh,eB,hlt]
 refine Cl.o Tryz.func270 Tryz.ntmps270 ag2 ?_
 refine .ai ?_
 refine .bx hs fun b2 w hs=>?_
 refine .nil (.ai (.y hs (zld qX) (.z znc (.z (zfa gp) ?_))))
 refine .q hs (cI (vs:=[I s.many,vl]) rfl aT aE hsys) ?_
 refine .o (.call Tryz.call127 rfl (kg (s:=s) hs hok ⟨vl,rfl,hF0.l⟩) ?_);rintro _ w ⟨H1,b8,hle1,rfl,hit,hs⟩
 refine .nil (.block ?_)
 refine .rangeFunc (gf:=203) (cap:=[.pointer (some ⟨b8,0,none⟩)]) (xs:=s.dh.map fun x:Arc=>[Value.agg x.v.toArray]) (σb:= .blk b2 [.func (.yield l) #[] #[]]::σb0) (σf:=σf) hs trivial rfl hit Tryz.call203 bV rfl
  (I:=fun k H' σb=>∃σo,σb= .blk b2 [.func (.yield l) #[] #[]]::σo∧HLe H0 H'∧II (y6 s.dh ts k) H' σo)
  (Ix:=fun c H' σb=>c= .ret∧∃σo,σb= .blk b2 [.func (.yield l) #[] #[]]::σo∧HLe H0 H'∧Ix H' σo)
  (fun k _ _ σ g1 ⟨σo,g2,g3,g4⟩=>⟨σo,g2,g3.trans g1,hmI _ _ _ _ g1 g4⟩) (fun c _ _ σ g1 ⟨g0,σo,g2,g3,g4⟩=>⟨g0,σo,g2,g3.trans g1,hmX _ _ _ g1 g4⟩)
  ⟨σb0,rfl,hle1,by rw [A3];exact hmI _ _ _ _ hle1 hI0⟩ ?_ ?_ ?_
 ·rintro l2 k hk H2 σb2 σf2 w hle2 ⟨σo,rfl,hle0,hIk⟩ hs ⟨rr,hrr⟩
  obtain ⟨x,hx⟩:=nth (l:=s.dh) (by simpa using hk)
  obtain ⟨c1,c2,c3,c4,c5,c6⟩:=hok.dh.2 x (List.mem_of_getElem? hx)
  have hxk:(s.dh.map fun x=>[Value.agg x.v.toArray])[k]=[.agg x.v.toArray]:=by rw [List.getElem_map];rw [List.getElem?_eq_some_iff] at hx;obtain ⟨h1,h2⟩:=hx;rw [h2]
  rw [hxk]
  have hkt:k<ts.length:=by rw [←hlen];simpa using hk
  have hxl:x.l=(k:Int):=qP hx
  obtain ⟨r1,r2,r3⟩:=AT (ts:=ts) hx hkt
  refine .region ?_
  refine .o (.alloc hs ew rfl fun b3 w hs=>?_)
  refine .o (.aU (vs:=x.v) hs rfl rfl aJ fun w hs=>?_)
  refine .nil ?_
  refine nT ?_
  refine ⟨H2,.blk b3 x.v:: .blk b2 [.func (.yield l) #[] #[]]::σo,HLe.refl _,hs,?_⟩;rintro w σf2 - hs
  refine .block (.seq (.ai ?_))
  refine .y hs (zld Tryz.isAgg245) ?_
  refine .q hs (kJ (vs:=x.v) rfl gV aJ) ?_
  have hyd:=hy (y6 s.dh ts k) (by simpa using (List.getElem?_eq_some_iff.1 r1).1) H2 σo (.blk b3 x.v:: .blk b2 [.func (.yield l) #[] #[]]::σf2) w (hle.trans hle0) hIk (St.deep (σ1:=σo) (St.deep (σ1:= .blk b3 x.v::σo) (hs.perm (.swap _ _ _))))
  rw [Bd r1] at hyd
  refine .o (.yield (vs:=[.agg x.v.toArray]) rfl rfl hyd ?_);rintro v12 w ⟨H3,σ3,hle3,hs,g3⟩
  obtain ⟨bb,rfl,gT,gF⟩:=o5 g3
  replace hs:St H3 w (.blk b3 x.v:: .blk b2 [.func (.yield l) #[] #[]]::(σ3++σf2)):=(St.shallow (σ1:= .blk b3 x.v::σ3) (St.shallow (σ1:=σ3) hs)).perm (.swap _ _ _)
  refine .z ir (.nil ?_)
  refine (.cond rfl (fun hc13=>?_) (fun hc13=>?_))
  ·refine .ret (rT (rB (?_)))
   exact ⟨H3,.blk b2 [.func (.yield l) #[] #[]]::σ3,hle3,hs.tail,rfl,σ3,rfl,hle0.trans hle3,gF (by simpa using hc13)⟩
  ·refine .skip ?_
   refine nT ?_
   refine .seq (.draw mix rfl hs fun w hs=>?_)
   have hb3:cellAt H3 b1 0=some (.pointer (some ⟨bf,0,none⟩)):=cellAt.mono hb0 (hle0.trans hle3)
   have hf3:cellAt H3 bf 2=some (.slice (some ⟨bt,0,none⟩) ts.length ts.length):=((hF0.mono (hle0.trans hle3)).f).at 2
   have ht3:cellAt H3 bt k=some (I (gi ts k)):=((hF0.mono (hle0.trans hle3)).t).at k (eY hkt)
   have hI3:=gT (by simpa using hc13)
   refine .r (i:=0) hs rfl an .none (aK rfl qX hb3) ?_
   refine .z 1 rfl znc ?_;refine .z 2 rfl (zfa gn) ?_;refine .y 3 rfl hs ak ?_;refine .z 4 rfl (zfa dZ) ?_;refine .y 5 rfl hs ae ?_
   refine .z 6 rfl (dG (k:=k) rfl rfl aa af hxl hkt) ?_
   refine .r (i:=7) hs rfl an .none (aK rfl ae ht3) ?_
   refine .z 8 rfl kD ?_;refine .z 9 rfl zm ?_
   refine .iB (t':=23) rfl (fun hb23=>?_) (fun hb23=>?_)
   ·refine .y 10 rfl hs Tryz.isAgg245 ?_
    refine .z 11 rfl (zfa dz) ?_;refine .y 12 rfl hs ae ?_;refine .z 13 rfl (zfa dp) ?_;refine .y 14 rfl hs ae ?_;refine .z 15 rfl (zfa fB) ?_;refine .y 16 rfl hs ae ?_;refine .z 17 rfl uN ?_;refine .z 18 rfl (zfa dZ) ?_;refine .y 19 rfl hs ae ?_;refine .z 20 rfl (zbd [_,_,_,_] oW) ?_
    refine .E 21 hs ?_
    obtain ⟨r4,r5⟩:=r2 hb23
    have hyd:=hy (y6 s.dh ts k+1) (by simpa using (List.getElem?_eq_some_iff.1 r4).1) H3 σ3 (.blk b3 x.v:: .blk b2 [.func (.yield l) #[] #[]]::σf2) w (hle.trans (hle0.trans hle3)) hI3 (St.deep (σ1:=σ3) (St.deep (σ1:= .blk b3 x.v::σ3) (hs.perm (.swap _ _ _))))
    rw [Bd r4] at hyd
    refine .yield (vs:=[.agg x.back.v.toArray]) rfl rfl hyd ?_;rintro v35 w ⟨H4,σ4,hle4,hs,g4⟩
    obtain ⟨bb4,rfl,gT4,gF4⟩:=o5 g4
    replace hs:St H4 w (.blk b3 x.v:: .blk b2 [.func (.yield l) #[] #[]]::(σ4++σf2)):=(St.shallow (σ1:= .blk b3 x.v::σ4) (St.shallow (σ1:=σ4) hs)).perm (.swap _ _ _)
    refine .go ?_
    refine .z 22 rfl ir ?_;refine .z 23 rfl zpT ?_;refine .D hs ?_
    refine (.cond rfl (fun hc37=>?_) (fun hc37=>?_))
    ·refine .ret (rB (?_))
     exact ⟨H4,.blk b2 [.func (.yield l) #[] #[]]::σ4,hle3.trans hle4,hs.tail,rfl,σ4,rfl,hle0.trans (hle3.trans hle4),gF4 (by simpa using hc37)⟩
    ·refine .skip ?_
     refine nB ?_
     exact ⟨H4,.blk b2 [.func (.yield l) #[] #[]]::σ4,hle3.trans hle4,hs.tail,σ4,rfl,hle0.trans (hle3.trans hle4),by rw [r5];exact gT4 (by simpa using hc37)⟩
   ·refine .qF (i:=10) rfl an rfl rfl ?_
    refine .qF (i:=11) rfl an rfl rfl ?_
    refine .qF (i:=12) rfl an rfl rfl ?_
    refine .qF (i:=13) rfl an rfl rfl ?_
    refine .qF (i:=14) rfl an rfl rfl ?_
    refine .qF (i:=15) rfl an rfl rfl ?_
    refine .qF (i:=16) rfl an rfl rfl ?_
    refine .qF (i:=17) rfl an rfl rfl ?_
    refine .qF (i:=18) rfl an rfl rfl ?_
    refine .qF (i:=19) rfl an rfl rfl ?_
    refine .qF (i:=20) rfl an rfl rfl ?_
    refine .qF (i:=21) rfl an rfl rfl ?_
    refine .qF (i:=22) rfl an rfl rfl ?_
    refine .z 23 rfl zpF ?_;refine .D hs ?_
    refine (.cF ?_)
    refine .skip ?_
    refine nB ?_
    exact ⟨H3,.blk b2 [.func (.yield l) #[] #[]]::σ3,hle3,hs.tail,σ3,rfl,hle0.trans hle3,by rw [r3 hb23];exact hI3⟩
 ·rintro D H2 σb2 w hle2 ⟨σo,rfl,hle0,hIk⟩ hs
  refine nB ?_
  exact Fin.FQ [D] [] hs.yT fun w hs=>⟨_,results0 Tryz.results270,H2,σo,hle0,hs,.inl (by simpa [CI hlen] using hIk)⟩
 ·rintro D c H2 σb2 w hle2 ⟨rfl,σo,rfl,hle0,hx⟩ hs
  exact .ret (rB (Fin.iK [D] [] hs.yT fun w hs=>⟨_,results0 Tryz.results270,H2,σo,hle0,hs,.inr hx⟩))
theorem oJ{bf bt bl cl:Nat}{s:cM}{ts lf:List Int}{vl:Value}{sp:List Value}(hs:St H w σ)(hok:s.Ok)(hF:ug H bf s ts lf vl bt bl cl sp)(hlt:ts.length=s.cO.length):
  Cl Tryz.prog 223 [.pointer (some ⟨bf,0,none⟩)] w fun v w'=>∃H1 b,HLe H H1∧v= .func (.func 270) #[] #[.pointer (some ⟨b,0,none⟩)]∧ItA Tryz.prog 270 [.pointer (some ⟨b,0,none⟩)] H1 (de s.dh ts)∧St H1 w' σ:=by
 refine Cl.o Tryz.func223 Tryz.ntmps223 ag1 ?_
 refine .ai ?_
 refine .bx hs fun b1 w hs=>?_
 refine .z zg (.nil (.ai ?_))
 refine .q hs (dR (f:=[]) (c:=[_]) rfl rfl) ?_
 refine .z zg (.nil ?_)
 refine .ret (Fin.bJ Tryz.results223 rfl ?_)
 obtain ⟨H1,g1,g2,hs⟩:=hs.cK .here
 exact ⟨H1,b1,g1,rfl,nb hok g2 (hF.mono g1) hlt,hs⟩
theorem pI{bf bt bl cl to:Nat}{s:cM}{ts lf:List Int}{vl:Value}{sp:List Value}(hs:St H w σ)(hok:s.Ok)(hF:ug H bf s ts lf vl bt bl cl sp)(hlt:ts.length=s.cO.length)(hll:lf.length=s.n)
  (hD:∃p,iC (de s.dh ts) p) (hto:to<s.n) (hpos:0<gi lf to):
  Cl Tryz.prog 268 [.pointer (some ⟨bf,0,none⟩),I to] w fun v w'=>∃H1 p en,HLe H H1∧cn 4 v (jw p) en∧St H1 w' (en::σ)∧Gn s.n s.dh ts lf p to:=by
 obtain ⟨N,hN⟩:=Int.eq_ofNat_of_zero_le hok.m0
 have hN1:=hok.m1
 have hn:s.n=N+1:=by simp [cM.n,hN]
 have hoka:=hok.dh
 have hlen:s.dh.length=ts.length:=by simp [cM.dh,eB,hlt]
 rw [hn] at hoka hll hto ⊢
 obtain ⟨D,hg⟩:=yV aj aj hoka hlen hD
 have hf0:cellAt H bf 0=some (I (N:Int)):=by have:=hF.f.at 0 (v:=I s.many);rwa [hN] at this
 have hf3:cellAt H bf 3=some (.slice (some ⟨bl,0,none⟩) lf.length cl):=hF.f.at 3
 refine Cl.o Tryz.func268 Tryz.ntmps268 ag2 ?_
 refine .ai ?_
 refine .bx hs fun b2 w hs=>?_
 refine .z zg (.nil (.ai ?_))
 refine .o (.buildSlice (cells:=[_]) hs dv rfl rfl fun b13 w hs=>?_)
 refine .y hs (zld qX) (.z znc (.z (zfa gp) (.z (zfa bH) (.y hs (zld ae) (.z cq ?_)))))
 refine .o (.call Tryz.call288 rfl (rh (z:=far) (c:=N+1) hs .here aj aj) ?_);rintro _ w ⟨bc,rfl,hs⟩
 refine .o (.alloc hs ek rfl fun b5 w hs=>?_)
 refine .o (.store hs rfl rfl aC fun w hs=>?_)
 refine .nil (.ai (.y hs (zld qX) (.z znc (.z (zfa gp) (.z (zfa bH) (.y hs (zld ae) (.z cq ?_)))))))
 refine .o (.CS (N+1) hs rfl rfl aD yN rfl aJ ew aj fun b27 w hs=>?_)
 refine .o (.alloc hs Tryz.zeroValue182 rfl fun b6 w hs=>?_)
 refine .o (.store hs rfl rfl uJ fun w hs=>?_)
 refine .nil (.seq (.ai (.y hs (zld qX) (.z znc (.z (zfa ea) (.y hs (zld ak) (.z (c9 aa) (.z zm (.nil ?_)))))))))
 refine .for (N:=lf.length) (J:=fun k fr w=>fr=[(31,.slice (some ⟨bl,0,none⟩) lf.length cl),(5,.pointer (some ⟨b5,0,none⟩)),(6,.pointer (some ⟨b6,0,none⟩)),(2,.pointer (some ⟨b2,0,none⟩)),(1,I to)]∧∃st,ud (N+1) lf k st∧St H w (.blk b6 [.slice (some ⟨b27,0,none⟩) (N+1) (N+1)]:: .blk b27 (jw st.by_):: .blk b5 [.slice (some ⟨bc,0,none⟩) (N+1) (N+1)]:: .blk bc (Is st.cost):: .blk b2 [.pointer (some ⟨bf,0,none⟩)]::σ)) aj ?_ ?_ ?_
 ·exact .mk ⟨rfl,_,.start _ _,hs.sb⟩
 ·rintro k fr w hk ⟨rfl,st,hI,hs⟩
  have hck:cellAt H bl k=some (I (gi lf k)):=hF.d.at k (nZ (bL hk) sp)
  have hlc:=hI.lc
  have hlb:=hI.lb
  have hkb:k<st.by_.length:=by omega
  refine .block (.ai (.z zm ?_))
  first|(refine .ixv hs aa af ?_;intro b36 o36 hc36)|refine .z (zix aa af) ?_
  refine .q hs (aK rfl ae hck) ?_
  refine .z zg (.z zg (.nil (.ai (.z zm (.z gx (.nil ?_))))))
  refine (.bM rfl (fun hc39=>?_) (fun hc39=>?_))
  ·refine .ai (.y hs (zld ak) (.z zm ?_))
   first|(refine .ixv hs aa af ?_;intro b42 o42 hc42)|refine .z (zix aa af) ?_
   refine .o (.store hs rfl rfl af fun w hs=>?_)
   refine .nil (.region (.y hs (zld fE) (.z zm ?_)))
   first|(refine .ixw hs aD aJ ?_;intro b45 o45 hc45)|refine .z (ni aD aJ) ?_
   refine .z (zfa dZ) ?_
   refine .o (.store hs rfl rfl af ?_ cZ (zJ hkb aj) (xS hkb _));intro w hs
   refine .nil ?_
   refine nB (nT ?_)
   exact .mk ⟨rfl,_,hI.take aj hc39,hs⟩
  ·refine .skip ?_
   refine nB (nT ?_)
   exact .mk ⟨rfl,_,hI.skip hc39,hs⟩
 ·rintro fr w ⟨rfl,st0,hI0,hs⟩
  rw [hll] at hI0
  have hW0:=hI0.inv hg
  refine nT ?_
  refine .seq (.ai ?_)
  refine .o (.alloc hs Tryz.zeroValue4 rfl fun b9 w hs=>?_)
  refine .o (.store hs rfl rfl gU fun w hs=>?_)
  refine .nil (.block ?_)
  refine .loop (fun p:Nat×List Nat×cf×BS×Bool=>⟨141,marks p.2.1,[(9,.pointer (some ⟨p.1,0,none⟩)),(5,.pointer (some ⟨b5,0,none⟩)),(6,.pointer (some ⟨b6,0,none⟩)),(2,.pointer (some ⟨b2,0,none⟩)),(1,I to)]⟩)
   (fun p w=>HLe H p.2.2.1∧(∃j,sY (N+1) (de s.dh ts) (fun v=>gi lf v<0) D j p.2.2.2.2 p.2.2.2.1∧(p.2.2.2.2=false→j=(de s.dh ts).length))∧
    St p.2.2.1 w (.blk p.1 [.bool p.2.2.2.2]:: .blk b6 [.slice (some ⟨b27,0,none⟩) (N+1) (N+1)]:: .blk b27 (jw p.2.2.2.1.by_):: .blk b5 [.slice (some ⟨bc,0,none⟩) (N+1) (N+1)]:: .blk bc (Is p.2.2.2.1.cost):: .blk b2 [.pointer (some ⟨bf,0,none⟩)]::(mes p.2.1++σ)))
   (fun p=>2*WM (N+1) D p.2.2.2.1+(if p.2.2.2.2=true then 1 else 0)) (b9,[],H,st0,true) aR ⟨HLe.refl _,⟨0,hW0,fun h=>by cases h⟩,hs⟩ ?_
  rintro ⟨b9,Ds,H1,st,ag⟩ w ⟨hle1,⟨j,hW,hj⟩,hs⟩
  dsimp only at hle1 hW hj hs ⊢
  have hlc:=hW.lc
  have hlb:=hW.lb
  refine .seq (.ai (.y hs (zld eC) (.nil ?_)))
  refine (.cond rfl (fun hc48=>?_) (fun hc48=>?_))
  ·refine .skip ?_
   refine nT ?_
   refine .seq (.block (.ai ?_))
   subst hc48
   refine .o (.store hs rfl rfl gU fun w hs=>?_)
   refine .nil (.ai (.y hs (zld qX) ?_))
   refine .o (.call Tryz.call223 rfl (oJ hs hok (hF.mono hle1) hlt) ?_);rintro _ w ⟨H2,b50,hle2,rfl,hit,hs⟩
   refine .nil (.block ?_)
   refine .rangeFunc (gf:=270) (cap:=[.pointer (some ⟨b50,0,none⟩)]) (xs:=(de s.dh ts).map fun x:Arc=>[Value.agg x.v.toArray])
    (σb:=[.blk b9 [.bool false],.blk b6 [.slice (some ⟨b27,0,none⟩) (N+1) (N+1)],.blk b27 (jw st.by_),.blk b5 [.slice (some ⟨bc,0,none⟩) (N+1) (N+1)],.blk bc (Is st.cost),.blk b2 [.pointer (some ⟨bf,0,none⟩)]]) (σf:=mes Ds++σ) hs trivial rfl hit Tryz.call270 bV rfl
    (I:=fun k H' σb=>HLe H2 H'∧∃st' ag,σb=[.blk b9 [.bool ag],.blk b6 [.slice (some ⟨b27,0,none⟩) (N+1) (N+1)],.blk b27 (jw st'.by_),.blk b5 [.slice (some ⟨bc,0,none⟩) (N+1) (N+1)],.blk bc (Is st'.cost),.blk b2 [.pointer (some ⟨bf,0,none⟩)]]∧
     sY (N+1) (de s.dh ts) (fun v=>gi lf v<0) D k ag st'∧WM (N+1) D st'≤WM (N+1) D st∧(ag=true→WM (N+1) D st'<WM (N+1) D st)) (Ix:=fun _ _ _=>False)
    (by rintro k _ _ σ g1 ⟨g2,g3⟩;exact ⟨g2.trans g1,g3⟩) (fun _ _ _ _ _ h=>h) ⟨HLe.refl _,st,false,rfl,hW.next,Nat.le_refl _,fun h=>by cases h⟩ ?_ ?_ (fun D c H' σb w _ h _=>h.elim)
   ·rintro l k hk H3 σb3 σf3 w hle3 ⟨hle23,st',ag,rfl,hW',hm1,hm2⟩ hs ⟨rr,hrr⟩
    obtain ⟨x,hx⟩:=nth (l:=de s.dh ts) (by simpa using hk)
    obtain ⟨c1,c2,c3,c4,c5,c6⟩:=hg.ok x (List.mem_of_getElem? hx)
    rw [Bd hx]
    have hlc':=hW'.lc
    have hlb':=hW'.lb
    have lo1:=hW'.lo x.f c1
    have lo2:=hg.d1 x.f c1
    have hx3:cellAt H3 bl x.t=some (I (gi lf x.t)):=((hF.mono (hle1.trans (hle2.trans hle3))).d).at x.t (nZ (bL aj) sp)
    have hf33:cellAt H3 bf 3=some (.slice (some ⟨bl,0,none⟩) lf.length cl):=cellAt.mono hf3 (hle1.trans (hle2.trans hle3))
    refine .region ?_
    refine .o (.alloc hs ew rfl fun b10 w hs=>?_)
    refine .o (.aU (vs:=x.v) hs rfl rfl aJ fun w hs=>?_)
    refine .nil ?_
    refine nT ?_
    refine ⟨H3,[.blk b10 x.v,.blk b9 [.bool ag],.blk b6 [.slice (some ⟨b27,0,none⟩) (N+1) (N+1)],.blk b27 (jw st'.by_),.blk b5 [.slice (some ⟨bc,0,none⟩) (N+1) (N+1)],.blk bc (Is st'.cost),.blk b2 [.pointer (some ⟨bf,0,none⟩)]],HLe.refl _,hs,?_⟩;rintro w σf4 - hs
    refine .block ?_
    refine .seq (.draw mix rfl hs fun w hs=>?_)
    refine .y 0 rfl hs ak ?_;refine .z 1 rfl (zfa dp) ?_;refine .y 2 rfl hs ae ?_
    first|(refine .ixv 3 rfl hs aa af ?_;intro b55 o55 hc55)|refine .z 3 rfl (zix aa af) ?_
    refine .y 4 rfl hs ae ?_;refine .z 5 rfl gx ?_;refine .z 6 rfl zm ?_
    refine .iB (t':=58) rfl (fun hb58=>?_) (fun hb58=>?_)
    ·refine .y 7 rfl hs ak ?_;refine .z 8 rfl (zfa dp) ?_;refine .y 9 rfl hs ae ?_
     first|(refine .ixv 10 rfl hs aa af ?_;intro b62 o62 hc62)|refine .z 10 rfl (zix aa af) ?_
     refine .y 11 rfl hs ae ?_;refine .z 12 rfl (zfa fB) ?_;refine .y 13 rfl hs ae ?_;refine .z 14 rfl cq ?_;refine .y 15 rfl hs ak ?_;refine .z 16 rfl (zfa dz) ?_;refine .y 17 rfl hs ae ?_
     first|(refine .ixv 18 rfl hs aa af ?_;intro b70 o70 hc70)|refine .z 18 rfl (zix aa af) ?_
     refine .y 19 rfl hs ae ?_;refine .z 20 rfl gx ?_;refine .z 21 rfl zpT ?_;refine .z 22 rfl zm ?_
     refine .iB (t':=74) rfl (fun hb74=>?_) (fun hb74=>?_)
     ·refine .y 23 rfl hs qX ?_;refine .z 24 rfl znc ?_;refine .z 25 rfl (zfa ea) ?_;refine .y 26 rfl hs ak ?_;refine .z 27 rfl (zfa dz) ?_;refine .y 28 rfl hs ae ?_
      first|(refine .ixv 29 rfl hs aa af ?_;intro b81 o81 hc81)|refine .z 29 rfl (zix aa af) ?_
      refine .y 30 rfl hs ae ?_;refine .z 31 rfl vD ?_;refine .z 32 rfl zm ?_
      refine .iB (t':=84) rfl (fun hb84=>?_) (fun hb84=>?_)
      ·refine .qF (i:=33) rfl an rfl rfl ?_
       refine .qF (i:=34) rfl an rfl rfl ?_
       refine .qF (i:=35) rfl an rfl rfl ?_
       refine .qF (i:=36) rfl an rfl rfl ?_
       refine .qF (i:=37) rfl an rfl rfl ?_
       refine .qF (i:=38) rfl an rfl rfl ?_
       refine .qF (i:=39) rfl an rfl rfl ?_
       refine .qF (i:=40) rfl an rfl rfl ?_
       refine .qF (i:=41) rfl an rfl rfl ?_
       refine .z 42 rfl zpT ?_;refine .z 43 rfl zpT ?_;refine .D hs ?_
       refine (.cT ?_)
       refine .draw mix rfl hs fun w hs=>?_
       refine .y 0 rfl hs ak ?_;refine .z 1 rfl (zfa dz) ?_;refine .y 2 rfl hs ae ?_;refine .y 3 rfl hs fE ?_;refine .z 4 rfl (zfa dz) ?_;refine .y 5 rfl hs ae ?_;refine .y 6 rfl hs ak ?_;refine .z 7 rfl (zfa dp) ?_;refine .y 8 rfl hs ae ?_
       first|(refine .ixv 9 rfl hs aa af ?_;intro b105 o105 hc105)|refine .z 9 rfl (zix aa af) ?_
       refine .y 10 rfl hs ae ?_;refine .z 11 rfl (zfa fB) ?_;refine .y 12 rfl hs ae ?_;refine .z 13 rfl cq ?_
       refine .yu (i:=14) (vs:=x.v) hs rfl an .none rfl gV aJ ?_
       first|(refine .ixv 15 rfl hs aa af ?_;intro b111 o111 hc111)|refine .z 15 rfl (zix aa af) ?_
       refine .E 16 hs ?_
       refine .store hs rfl rfl af ?_;intro w hs
       refine .go ?_
       first|(refine .ixw 17 rfl hs aD aJ ?_;intro b112 o112 hc112)|refine .z 17 rfl (ni aD aJ) ?_
       refine .E 18 hs ?_
       refine .aU (vs:=x.v) hs rfl rfl aJ ?_;intro w hs
       refine .go ?_
       refine .E 19 hs ?_
       refine .store hs rfl rfl gU ?_;intro w hs
       refine .go ?_
       refine .D hs ?_
       refine nB ?_
       have:=hW'.less hg hx hb58 hb74
       exact ⟨H3,_,HLe.refl _,hs.tail,hle23,st'.rlx x,true,rfl,hW'.uy hg hx hb58 hb74,aj,fun _=>by omega⟩
      ·refine .y 33 rfl hs ak ?_;refine .z 34 rfl (zfa dp) ?_;refine .y 35 rfl hs ae ?_
       first|(refine .ixv 36 rfl hs aa af ?_;intro b88 o88 hc88)|refine .z 36 rfl (zix aa af) ?_
       refine .y 37 rfl hs ae ?_;refine .z 38 rfl (zfa fB) ?_;refine .y 39 rfl hs ae ?_;refine .z 40 rfl cq ?_;refine .z 41 rfl gx ?_;refine .z 42 rfl zpF ?_;refine .z 43 rfl zpT ?_;refine .D hs ?_
       refine (.bM rfl (fun hc95=>?_) (fun hc95=>?_))
       ·refine .draw mix rfl hs fun w hs=>?_
        refine .y 0 rfl hs ak ?_;refine .z 1 rfl (zfa dz) ?_;refine .y 2 rfl hs ae ?_;refine .y 3 rfl hs fE ?_;refine .z 4 rfl (zfa dz) ?_;refine .y 5 rfl hs ae ?_;refine .y 6 rfl hs ak ?_;refine .z 7 rfl (zfa dp) ?_;refine .y 8 rfl hs ae ?_
        first|(refine .ixv 9 rfl hs aa af ?_;intro b105 o105 hc105)|refine .z 9 rfl (zix aa af) ?_
        refine .y 10 rfl hs ae ?_;refine .z 11 rfl (zfa fB) ?_;refine .y 12 rfl hs ae ?_;refine .z 13 rfl cq ?_
        refine .yu (i:=14) (vs:=x.v) hs rfl an .none rfl gV aJ ?_
        first|(refine .ixv 15 rfl hs aa af ?_;intro b111 o111 hc111)|refine .z 15 rfl (zix aa af) ?_
        refine .E 16 hs ?_
        refine .store hs rfl rfl af ?_;intro w hs
        refine .go ?_
        first|(refine .ixw 17 rfl hs aD aJ ?_;intro b112 o112 hc112)|refine .z 17 rfl (ni aD aJ) ?_
        refine .E 18 hs ?_
        refine .aU (vs:=x.v) hs rfl rfl aJ ?_;intro w hs
        refine .go ?_
        refine .E 19 hs ?_
        refine .store hs rfl rfl gU ?_;intro w hs
        refine .go ?_
        refine .D hs ?_
        refine nB ?_
        have:=hW'.less hg hx hb58 hb74
        exact ⟨H3,_,HLe.refl _,hs.tail,hle23,st'.rlx x,true,rfl,hW'.uy hg hx hb58 hb74,aj,fun _=>by omega⟩
       ·refine .skip ?_
        refine nB ?_
        have:=hW'.src x.t c2 aj
        omega
     ·refine .qF (i:=23) rfl an rfl rfl ?_
      refine .qF (i:=24) rfl an rfl rfl ?_
      refine .qF (i:=25) rfl an rfl rfl ?_
      refine .qF (i:=26) rfl an rfl rfl ?_
      refine .qF (i:=27) rfl an rfl rfl ?_
      refine .qF (i:=28) rfl an rfl rfl ?_
      refine .qF (i:=29) rfl an rfl rfl ?_
      refine .qF (i:=30) rfl an rfl rfl ?_
      refine .qF (i:=31) rfl an rfl rfl ?_
      refine .qF (i:=32) rfl an rfl rfl ?_
      refine .qF (i:=33) rfl an rfl rfl ?_
      refine .qF (i:=34) rfl an rfl rfl ?_
      refine .qF (i:=35) rfl an rfl rfl ?_
      refine .qF (i:=36) rfl an rfl rfl ?_
      refine .qF (i:=37) rfl an rfl rfl ?_
      refine .qF (i:=38) rfl an rfl rfl ?_
      refine .qF (i:=39) rfl an rfl rfl ?_
      refine .qF (i:=40) rfl an rfl rfl ?_
      refine .qF (i:=41) rfl an rfl rfl ?_
      refine .qF (i:=42) rfl an rfl rfl ?_
      refine .z 43 rfl zpF ?_;refine .D hs ?_
      refine (.cF ?_)
      refine .skip ?_
      refine nB ?_
      exact ⟨H3,_,HLe.refl _,hs.tail,hle23,st',ag,rfl,hW'.skip hx (fun h=>hb74 h.2),hm1,hm2⟩
    ·refine .qF (i:=7) rfl an rfl rfl ?_
     refine .qF (i:=8) rfl an rfl rfl ?_
     refine .qF (i:=9) rfl an rfl rfl ?_
     refine .qF (i:=10) rfl an rfl rfl ?_
     refine .qF (i:=11) rfl an rfl rfl ?_
     refine .qF (i:=12) rfl an rfl rfl ?_
     refine .qF (i:=13) rfl an rfl rfl ?_
     refine .qF (i:=14) rfl an rfl rfl ?_
     refine .qF (i:=15) rfl an rfl rfl ?_
     refine .qF (i:=16) rfl an rfl rfl ?_
     refine .qF (i:=17) rfl an rfl rfl ?_
     refine .qF (i:=18) rfl an rfl rfl ?_
     refine .qF (i:=19) rfl an rfl rfl ?_
     refine .qF (i:=20) rfl an rfl rfl ?_
     refine .z 21 rfl zpF ?_;refine .z 22 rfl zm ?_
     refine .qF (i:=23) rfl an rfl rfl ?_
     refine .qF (i:=24) rfl an rfl rfl ?_
     refine .qF (i:=25) rfl an rfl rfl ?_
     refine .qF (i:=26) rfl an rfl rfl ?_
     refine .qF (i:=27) rfl an rfl rfl ?_
     refine .qF (i:=28) rfl an rfl rfl ?_
     refine .qF (i:=29) rfl an rfl rfl ?_
     refine .qF (i:=30) rfl an rfl rfl ?_
     refine .qF (i:=31) rfl an rfl rfl ?_
     refine .qF (i:=32) rfl an rfl rfl ?_
     refine .qF (i:=33) rfl an rfl rfl ?_
     refine .qF (i:=34) rfl an rfl rfl ?_
     refine .qF (i:=35) rfl an rfl rfl ?_
     refine .qF (i:=36) rfl an rfl rfl ?_
     refine .qF (i:=37) rfl an rfl rfl ?_
     refine .qF (i:=38) rfl an rfl rfl ?_
     refine .qF (i:=39) rfl an rfl rfl ?_
     refine .qF (i:=40) rfl an rfl rfl ?_
     refine .qF (i:=41) rfl an rfl rfl ?_
     refine .qF (i:=42) rfl an rfl rfl ?_
     refine .z 43 rfl zpF ?_;refine .D hs ?_
     refine (.cF ?_)
     refine .skip ?_
     refine nB ?_
     exact ⟨H3,_,HLe.refl _,hs.tail,hle23,st',ag,rfl,hW'.skip hx (fun h=>hb58 h.1),hm1,hm2⟩
   ·rintro D3 H3 σb3 w hle3 ⟨hle23,st',ag,rfl,hW',hm1,hm2⟩ hs
    replace hs:St H3 w (.blk b9 [.bool ag]:: .blk b6 [.slice (some ⟨b27,0,none⟩) (N+1) (N+1)]:: .blk b27 (jw st'.by_):: .blk b5 [.slice (some ⟨bc,0,none⟩) (N+1) (N+1)]:: .blk bc (Is st'.cost):: .blk b2 [.pointer (some ⟨bf,0,none⟩)]::(mes (D3::Ds)++σ)):=St.deep (σ1:=[_,_,_,_,_,_]) hs
    rw [List.length_map] at hW'
    refine nB (nB (nT ?_))
    refine .ai (.y hs (zld eC) (.nil (.region ?_)))
    refine .o (.alloc hs Tryz.zeroValue4 rfl fun b9 w hs=>?_)
    refine .o (.store hs rfl rfl gU fun w hs=>?_)
    refine .nil ?_
    refine nT ?_
    exact ⟨(b9,D3::Ds,H3,st',ag),aR,⟨hle1.trans (hle2.trans hle3),⟨_,hW',fun _=>rfl⟩,hs.sb⟩,by
      dsimp only
      cases ag with
      |false=>simp;omega
      |true=>have:=hm2 rfl;simp;omega⟩
  ·refine .exit ?_
   refine xT (xT (xB (nT ?_)))
   refine .seq (.ai ?_)
   subst hc48
   obtain rfl:=hj rfl
   refine .y hs (zld ak) (.z zm ?_)
   first|(refine .ixv hs aa af ?_;intro b116 o116 hc116)|refine .z (zix aa af) ?_
   refine .y hs (zld ae) (.z gC (.nil ?_))
   refine (.bM rfl (fun hc118=>?_) (fun hc118=>?_))
   ·refine .ai (.z zg (.nil ?_))
    refine .ret (rT (?_))
    refine Fin.iK Ds [_,_,_,_,_,_] hs fun w hs=>⟨_,results1 Tryz.results268 rfl,H1,[],.nul,hle1,.nil 4 none,(hs.sb).nul,hW.none hg hc118⟩
   ·refine .skip ?_
    refine nT ?_
    refine .ai (.z zg (.nil (.seq (.ai (.z zm (.z zg (.nil (.block ?_))))))))
    have hreach:gi st.cost to<far:=by have:=hW.top to hto;have e:far=1152921504606846976:=rfl;omega
    obtain ⟨kk,cc,u,hbk,hroot,hkn,hk0,hcl,hway⟩:=hW.back hg hto hreach hpos
    refine .loop (fun p:Nat×Nat×Value×Ent=>⟨141,marks Ds,[(11,p.2.2.1),(12,I p.2.1),(6,.pointer (some ⟨b6,0,none⟩))]⟩)
     (fun p w=>p.1≤kk∧(p.2.1<N+1∧gi st.cost p.2.1<far)∧cn 4 p.2.2.1 (jw (iO st.by_ to p.1)) p.2.2.2∧(∃d,gy st.by_ to p.1 d p.2.1)∧(∃d,gy st.by_ p.2.1 (kk - p.1) d u)∧
      St H1 w (p.2.2.2:: .blk b9 [.bool false]:: .blk b6 [.slice (some ⟨b27,0,none⟩) (N+1) (N+1)]:: .blk b27 (jw st.by_):: .blk b5 [.slice (some ⟨bc,0,none⟩) (N+1) (N+1)]:: .blk bc (Is st.cost):: .blk b2 [.pointer (some ⟨bf,0,none⟩)]::(mes Ds++σ)))
     (fun p=>kk - p.1) (0,to,.slice none 0 0,.nul) aR ⟨Nat.zero_le _,⟨hto,hreach⟩,.nil 4 none,⟨0,.nil⟩,⟨cc,hbk⟩,hs.nul⟩ ?_
    rintro ⟨i,v,v11,en⟩ w ⟨hik,⟨hv1,hv2⟩,hO,⟨d1,hb1⟩,⟨d2,hb2⟩,hs⟩
    dsimp only at hik hv1 hv2 hO hb1 hb2 hs ⊢
    have hvb:v<st.by_.length:=by omega
    refine .seq (.ai (.y hs (zld fE) (.z zm ?_)))
    first|(refine .ixw hs aD aJ ?_;intro b122 o122 hc122)|refine .z (ni aD aJ) ?_
    refine .z (zfa dZ) ?_
    refine .q hs (dS rfl ae (hv:=(qS hvb (j:=3) aj).trans rfl)) ?_
    refine .z vD (.nil ?_)
    refine (.bM rfl (fun hc125=>?_) (fun hc125=>?_))
    ·refine .skip ?_
     refine nT ?_
     refine .seq (.block (.region (.z zm (.y hs (zld fE) (.z zm ?_)))))
     first|(refine .ixw hs aD aJ ?_;intro b134 o134 hc134)|refine .z (ni aD aJ) ?_
     refine .q hs (kJ (vs:=(ga st.by_ v).v) rfl gV aJ (hv:=zQ hvb)) ?_
     refine .o (.buildSlice (cells:=(ga st.by_ v).v) hs pK rfl rfl fun b136 w hs=>?_)
     refine .o (.append (ys:=(ga st.by_ v).v) hs kB rfl rfl hO (.own .here rfl rfl) (by simp [Arc.v,Value.oneCell']) (fun l h=>by rw [dU,gX] at h;omega) ?_);intro v137 en137 w hO2 hs
     refine .z zg (.nil ?_)
     refine nB (nT ?_)
     refine .region (.y hs (zld fE) (.z zm ?_))
     first|(refine .ixw hs aD aJ ?_;intro b128 o128 hc128)|refine .z (ni aD aJ) ?_
     refine .z (zfa dp) ?_
     refine .q hs (dS rfl ae (hv:=(qS hvb (j:=0) aj).trans rfl)) ?_
     refine .z zg (.nil ?_)
     refine nT ?_
     obtain ⟨g1,g2⟩:=hcl v hv1 hv2 hc125
     obtain ⟨m,hm⟩:∃m,kk - i=m+1:=by
      refine ⟨kk - i - 1,?_⟩
      rcases Nat.lt_or_ge i kk with h|h
      ·omega
      ·obtain e:kk - i=0:=by omega
       rw [e] at hb2
       cases hb2
       omega
     rw [hm] at hb2
     obtain ⟨d3,hb3⟩:∃d,gy st.by_ (ga st.by_ v).f m d u:=by cases hb2 with|cons _ t=>exact ⟨_,t⟩
     rw [←BV,←uS hb1] at hO2
     exact ⟨(i+1,(ga st.by_ v).f,v137,en137),aR,⟨by dsimp only;omega,⟨g1,g2⟩,hO2,⟨_,hb1.trans (.cons hc125 .nil)⟩,⟨d3,by rw [show kk - (i+1)=m by omega];exact hb3⟩,hs.sb⟩,by dsimp only;omega⟩
    ·refine .exit ?_
     refine xT (xT (xB (nT ?_)))
     refine .ai ?_
     obtain rfl:i=kk:=by
      rcases Nat.lt_or_ge i kk with h|h
      ·obtain ⟨m,hm⟩:∃m,kk - i=m+1:=⟨kk - i - 1,aj⟩
       rw [hm] at hb2
       cases hb2 with
       |cons hl _=>omega
      ·omega
     refine .z zm ?_
     refine .o (.call Tryz.call289 rfl (pa hs hO (by rw [gX];omega)) ?_);rintro v139 w ⟨en',hO',hs⟩
     refine .nil (.ai (.z zm (.z zg (.nil ?_))))
     refine .ret ?_
     refine Fin.iK Ds [_,_,_,_,_,_,_] hs fun w hs=>⟨_,results1 Tryz.results268 rfl,H1,_,en',hle1,hO',hs.sb,hway _ rfl⟩
theorem zO{s:cM}{x:Arc}(hok:s.Ok)(hx:Aq s.dh x):∃(i:Nat) (l:Lim),s.cO[i]? =some l∧x.l=(i:Int)∧(l.A=(x.f:Int)↔fwd s.dh x)∧i<s.cO.length:=by
 obtain ⟨i,y,h1,h2⟩:=hx
 have hl:=qP h1
 have hlt:i<s.cO.length:=by have:=(List.getElem?_eq_some_iff.1 h1).1;simpa [cM.dh,eB] using this
 obtain ⟨l,hl2⟩:=nth hlt
 have h3:=jI hl2
 have h1':(mg s.cO)[i]? =some y:=h1
 rw [h3] at h1'
 cases h1'
 obtain ⟨a1,a2,_⟩:=hok.arc (List.mem_of_getElem? hl2) i
 refine ⟨i,l,hl2,?_,?_,hlt⟩
 ·rcases h2 with rfl|rfl<;>rfl
 ·have hg:ga s.dh i=l.arc i:=by simp [ga,cM.dh,h3]
  have hxl:x.l.toNat=i:=by rcases h2 with rfl|rfl<;>rfl
  unfold fwd
  rw [hxl,hg,←a1]
  exact ⟨fun e=>by exact_mod_cast e,fun e=>by exact_mod_cast e⟩
theorem j5{bf:Nat}{s:cM}{vl vt vd:Value}{x:Arc}(hs:St H w σ)(hok:s.Ok)(hf:Row H bf [I s.many,vl,vt,vd])(hl:RL H vl s.cO)(hx:Aq s.dh x):
  Cl Tryz.prog 290 [.pointer (some ⟨bf,0,none⟩),.agg x.v.toArray] w fun v w'=>v= .bool (decide (fwd s.dh x))∧St H w' σ:=by
 obtain ⟨i,l,hl1,hxl,hfw,hil⟩:=zO hok hx
 have hf1:cellAt H bf 1=some vl:=hf.at 1
 refine Cl.o Tryz.func290 Tryz.ntmps290 ag2 ?_
 refine .ai ?_
 refine .bx hs fun b3 w hs=>?_
 refine .z zg (.nil ?_)
 refine .seq (.draw mix rfl hs fun w hs=>?_)
 refine .z 0 rfl zm ?_;refine .z 1 rfl znc ?_;refine .z 2 rfl (zfa gp) ?_;refine .z 3 rfl (zfa bO) ?_;refine .y 4 rfl hs cH ?_;refine .z 5 rfl (zfa dZ) ?_;refine .y 6 rfl hs ae ?_
 refine .ixX (i:=7) hs rfl an .none hl rfl rfl aP bq hl1 hxl ?_;intro b12 o12 hc12
 have hA:cellAt H b12 o12=some (I l.A):=hc12.get 0 rfl
 refine .z 8 rfl (zfa eA) ?_;refine .y 9 rfl hs ae ?_;refine .z 10 rfl (zfa dp) ?_;refine .y 11 rfl hs ae ?_;refine .z 12 rfl gC ?_;refine .z 13 rfl zg ?_;refine .D hs ?_
 refine .ret (Fin.bJ Tryz.results290 rfl ?_)
 exact ⟨by simp only [decide_eq_decide.2 hfw],hs.out⟩
theorem oI{bf bt bl cl u v:Nat}{s:cM}{ts lf:List Int}{wt:Nat→Int}{vl vp:Value}{sp:List Value}{p:List Arc}(hs:St H w (.blk bt (Is ts):: .blk bl (Is lf++sp)::σ))(hok:s.Ok)
  (hf:Row H bf [I s.many,vl,.slice (some ⟨bt,0,none⟩) ts.length ts.length,.slice (some ⟨bl,0,none⟩) lf.length cl]) (hl:RL H vl s.cO) (hp:RS H 4 vp (p.map Arc.v)) (hI:uI s.n s.dh wt ts lf) (hw:EC s.dh ts lf s.n p u v) (hpn:p≠[]) (hpl:p.length<s.n):
  Cl Tryz.prog 269 [.pointer (some ⟨bf,0,none⟩),vp] w fun _ w'=>St H w' (.blk bt (Is (fq s.dh (qt s.dh ts lf p u v) ts p)):: .blk bl (Is (xh lf (qt s.dh ts lf p u v) u v)++sp)::σ):=by
 have hN1:=hok.m1
 have hn65:s.n≤65:=by simp only [cM.n];have:=hok.m0;omega
 have hnum:yK s.dh:=fun i x hx=>⟨qP hx,(hok.dh.2 x (List.mem_of_getElem? hx)).2.2.2.2.2⟩
 have hlt:=hI.lt
 have hll:=hI.ll
 obtain ⟨m0,m1,m2,m3⟩:=sM hlt.symm hnum hw
 have hsu:=hI.sg u hw.un
 have hsv:=hI.sg v hw.vn
 have hun:u<lf.length:=by rw [hll];exact hw.un
 have hvn:v<lf.length:=by rw [hll];exact hw.vn
 obtain ⟨a,cap,hvp⟩:=hp.shape
 rw [List.length_map] at hvp
 subst hvp
 have hp0:0<p.length:=List.length_pos_iff.2 hpn
 obtain ⟨x0,hx0⟩:=nth hp0
 obtain ⟨x1,hx1⟩:=nth (l:=p) (k:=p.length - 1) aj
 have hh:=hw.ch.head hx0
 have hla:=hw.ch.last hx1
 have hf2:cellAt H bf 2=some (.slice (some ⟨bt,0,none⟩) ts.length ts.length):=hf.at 2
 have hf3:cellAt H bf 3=some (.slice (some ⟨bl,0,none⟩) lf.length cl):=hf.at 3
 have hix:∀x∈p,Aq s.dh x∧x.l.toNat<ts.length∧x.l=(x.l.toNat:Int):=fun x hx=>by
  obtain ⟨g1,g2,_⟩:=jL hlt.symm hnum (hw.mem x hx)
  obtain ⟨i,l,_,g3,_⟩:=zO hok g1
  exact ⟨g1,g2,by rw [g3];simp⟩
 simp only [FF] at hsu hsv
 have huv:v≠u:=fun e=>by have:=hw.lu;have:=hw.lv;rw [e] at*;omega
 have htt:∀i<ts.length,0≤gi ts i∧gi ts i≤3600000000000:=fun i hi=>by
  have h1:=hI.nn i aj
  have h2:=hI.tb i aj
  have h3:0≤rem s.n lf:=cP fun v _=>by omega
  simp only [FF] at h2
  omega
 have hM:qt s.dh ts lf p u v=least s.dh ts (min (-gi lf u) (gi lf v)) p:=rfl
 generalize qt s.dh ts lf p u v=M at*
 have hgv:gi (lf.set u (gi lf u+M)) v=gi lf v:=by rw [eu hun,if_neg huv]
 refine Cl.o Tryz.func269 Tryz.ntmps269 ag2 ?_
 refine .seq (.draw mix rfl hs fun w hs=>?_)
 refine .z 0 rfl zm ?_
 refine .ixX (i:=1) hs rfl an .none hp rfl rfl aD aJ hx0 rfl ?_;intro b12 o12 hc12
 have h14:cellAt H b12 (o12+0)=some (I u):=by rw [←hh];exact hc12.get 0 rfl
 refine .z 2 rfl (zfa dp) ?_;refine .y 3 rfl hs ae ?_;refine .z 4 rfl zm ?_;refine .z 5 rfl zm ?_;refine .z 6 rfl (c9 aD) ?_;refine .z 7 rfl gW ?_
 refine .ixX (i:=8) hs rfl an .none hp rfl rfl aD aJ hx1 aj ?_;intro b19 o19 hc19
 have h21:cellAt H b19 (o19+1)=some (I v):=by rw [←hla];exact hc19.get 1 rfl
 refine .z 9 rfl (zfa dz) ?_;refine .y 10 rfl hs ae ?_;refine .z 11 rfl zg ?_;refine .z 12 rfl zg ?_;refine .D hs ?_
 refine .seq (.draw mix rfl hs fun w hs=>?_)
 refine .z 0 rfl zm ?_;refine .z 1 rfl znc ?_;refine .z 2 rfl (zfa ea) ?_;refine .y 3 rfl hs ak ?_;refine .z 4 rfl zm ?_
 first|(refine .ixv 5 rfl hs aa af ?_;intro b27 o27 hc27)|refine .z 5 rfl (zix aa af) ?_
 refine .load (i:=6) hs rfl an .none rfl ae ?_ (hv:=fQ hun sp)
 refine .z 7 rfl uN ?_;refine .z 8 rfl zm ?_;refine .z 9 rfl znc ?_;refine .z 10 rfl (zfa ea) ?_;refine .y 11 rfl hs ak ?_;refine .z 12 rfl zm ?_
 first|(refine .ixv 13 rfl hs aa af ?_;intro b35 o35 hc35)|refine .z 13 rfl (zix aa af) ?_
 refine .load (i:=14) hs rfl an .none rfl ae ?_ (hv:=fQ hvn sp)
 refine .z 15 rfl As ?_;refine .z 16 rfl zg ?_;refine .D hs ?_
 refine .seq (.ai (.z zm (.z (c9 aD) (.z zm (.nil ?_)))))
 refine .for (N:=p.length) (J:=fun k fr w=>fr=[(38,.slice a p.length cap),(6,I (least s.dh ts (min (-gi lf u) (gi lf v)) (p.take k))),(0,.pointer (some ⟨bf,0,none⟩)),(1,.slice a p.length cap),(4,I u),(5,I v)]∧St H w (.blk bt (Is ts):: .blk bl (Is lf++sp)::σ)) aj ?_ ?_ ?_
 ·exact .mk ⟨rfl,hs⟩
 ·rintro k fr w hk ⟨rfl,hs⟩
  obtain ⟨x,hx⟩:=nth hk
  obtain ⟨g1,g2,g3⟩:=hix x (List.mem_of_getElem? hx)
  refine .block (.ai ?_)
  refine .ixX hs hp rfl rfl aD aJ hx rfl ?_;intro b42 o42 hc42
  refine .q hs (cI (vs:=x.v) rfl gV aJ hc42) ?_
  refine .o (.alloc hs ew rfl fun b8 w hs=>?_)
  refine .o (.aU (vs:=x.v) hs rfl rfl aJ fun w hs=>?_)
  refine .nil (.ai (.z zm ?_))
  refine .q hs (kJ (vs:=x.v) rfl gV aJ) ?_
  refine .o (.call Tryz.call290 rfl (j5 hs hok hf hl g1) ?_);rintro _ w ⟨rfl,hs⟩
  refine .z ir (.nil ?_)
  refine (.cond rfl (fun hc47=>?_) (fun hc47=>?_))
  ·refine .draw mix rfl hs fun w hs=>?_
   refine .z 0 rfl zm ?_;refine .z 1 rfl zm ?_;refine .z 2 rfl znc ?_;refine .z 3 rfl (zfa gn) ?_;refine .y 4 rfl hs ak ?_;refine .z 5 rfl (zfa dZ) ?_;refine .y 6 rfl hs ae ?_
   refine .z 7 rfl (dG (k:=x.l.toNat) rfl rfl aa af g3 g2) ?_
   refine .y 8 rfl hs ae ?_;refine .z 9 rfl As ?_;refine .z 10 rfl zg ?_;refine .D hs ?_
   refine nB (nT ?_)
   have e:min (least s.dh ts (min (-gi lf u) (gi lf v)) (p.take k)) (gi ts x.l.toNat)=least s.dh ts (min (-gi lf u) (gi lf v)) (p.take (k+1)):=by rw [ep hx,ma,if_neg (by simpa using hc47)]
   exact .mk ⟨rfl,hs.tail⟩ (hs:= .cons rfl (.cons rfl (.cons rfl (.cj rfl e (.cons rfl (.cons rfl (.cons rfl (.cons rfl (.nil rfl rfl)))))))))
  ·refine .skip ?_
   refine nB (nT ?_)
   have e:least s.dh ts (min (-gi lf u) (gi lf v)) (p.take k)=least s.dh ts (min (-gi lf u) (gi lf v)) (p.take (k+1)):=by rw [ep hx,ma,if_pos (by simpa using hc47)]
   exact .mk ⟨rfl,hs.tail⟩ (hs:= .cons rfl (.cons rfl (.cons rfl (.cj rfl e (.cons rfl (.cons rfl (.cons rfl (.cons rfl (.nil rfl rfl)))))))))
 ·rintro fr w ⟨rfl,hs⟩
  have e6:least s.dh ts (min (-gi lf u) (gi lf v)) (List.take p.length p)=M:=by rw [List.take_length];exact hM.symm
  rw [e6]
  refine nT ?_
  refine .seq (.ai (.z zm (.z (c9 aD) (.z zm (.nil ?_)))))
  refine .for (N:=p.length) (J:=fun k fr w=>fr=[(59,.slice a p.length cap),(6,I M),(0,.pointer (some ⟨bf,0,none⟩)),(1,.slice a p.length cap),(4,I u),(5,I v)]∧St H w (.blk bt (Is (fq s.dh M ts (p.take k))):: .blk bl (Is lf++sp)::σ)) aj ?_ ?_ ?_
  ·exact .mk ⟨rfl,hs⟩
  ·rintro k fr w hk ⟨rfl,hs⟩
   obtain ⟨x,hx⟩:=nth hk
   obtain ⟨g1,g2,g3⟩:=hix x (List.mem_of_getElem? hx)
   have hpl2:=je s.dh M (p.take k) ts
   have hbd:=xe (es:=s.dh) (m:=M) (ts:=ts) (p:=p.take k) aj (by simp only [FF];omega) (by rw [List.length_take];omega) (fun y hy=>(hix y (List.mem_of_mem_take hy)).2.1) x.l.toNat
   have h9:=htt _ g2
   refine .block (.ai ?_)
   refine .ixX hs hp rfl rfl aD aJ hx rfl ?_;intro b63 o63 hc63
   refine .q hs (cI (vs:=x.v) rfl gV aJ hc63) ?_
   refine .o (.alloc hs ew rfl fun b10 w hs=>?_)
   refine .o (.aU (vs:=x.v) hs rfl rfl aJ fun w hs=>?_)
   refine .nil (.ai (.z zm ?_))
   refine .q hs (kJ (vs:=x.v) rfl gV aJ) ?_
   refine .o (.call Tryz.call290 rfl (j5 hs hok hf hl g1) ?_);rintro _ w ⟨rfl,hs⟩
   refine .nil ?_
   refine (.cond rfl (fun hc67=>?_) (fun hc67=>?_))
   ·refine .draw mix rfl hs fun w hs=>?_
    refine .z 0 rfl zm ?_;refine .z 1 rfl znc ?_;refine .z 2 rfl (zfa gn) ?_;refine .y 3 rfl hs ak ?_;refine .z 4 rfl (zfa dZ) ?_;refine .y 5 rfl hs ae ?_
    refine .z 6 rfl (dG (k:=x.l.toNat) rfl rfl aa af g3 g2) ?_
    refine .y 7 rfl hs ae ?_;refine .z 8 rfl zm ?_;refine .z 9 rfl cq ?_
    refine .z 10 rfl (dG (k:=x.l.toNat) rfl rfl aa af g3 g2) ?_
    refine .E 11 hs ?_
    refine .store hs rfl rfl af ?_;intro w hs
    refine .go ?_
    refine .D hs ?_
    refine nB (nT ?_)
    have e:fq s.dh M ts (p.take (k+1))=(fq s.dh M ts (p.take k)).set x.l.toNat (gi (fq s.dh M ts (p.take k)) x.l.toNat+M):=by rw [ep hx,mw,push,if_pos (by simpa using hc67)]
    exact .mk ⟨rfl,by rw [e];exact hs.tail⟩
   ·refine .draw mix rfl hs fun w hs=>?_
    refine .z 0 rfl zm ?_;refine .z 1 rfl znc ?_;refine .z 2 rfl (zfa gn) ?_;refine .y 3 rfl hs ak ?_;refine .z 4 rfl (zfa dZ) ?_;refine .y 5 rfl hs ae ?_
    refine .z 6 rfl (dG (k:=x.l.toNat) rfl rfl aa af g3 g2) ?_
    refine .y 7 rfl hs ae ?_;refine .z 8 rfl zm ?_;refine .z 9 rfl gW ?_
    refine .z 10 rfl (dG (k:=x.l.toNat) rfl rfl aa af g3 g2) ?_
    refine .E 11 hs ?_
    refine .store hs rfl rfl af ?_;intro w hs
    refine .go ?_
    refine .D hs ?_
    refine nB (nT ?_)
    have e:fq s.dh M ts (p.take (k+1))=(fq s.dh M ts (p.take k)).set x.l.toNat (gi (fq s.dh M ts (p.take k)) x.l.toNat - M):=by rw [ep hx,mw,push,if_neg (by simpa using hc67)]
    exact .mk ⟨rfl,by rw [e];exact hs.tail⟩
  ·rintro fr w ⟨rfl,hs⟩
   rw [List.take_length] at hs
   refine nT ?_
   refine .ai (.z zm (.z znc (.z (zfa ea) (.y hs (zld ak) (.z zm ?_)))))
   first|(refine .ixv hs aa af ?_;intro b96 o96 hc96)|refine .z (zix aa af) ?_
   refine .q hs (dS rfl ae (hv:=fQ hun sp)) ?_
   refine .z zm (.z cq ?_)
   first|(refine .ixv hs aa af ?_;intro b100 o100 hc100)|refine .z (zix aa af) ?_
   refine .o (.store hs rfl rfl af ?_ cZ (kM hun sp) (iH hun sp _));intro w hs
   refine .nil (.region (.z zm (.z znc (.z (zfa ea) (.y hs (zld ak) (.z zm ?_))))))
   first|(refine .ixv hs aa af ?_;intro b106 o106 hc106)|refine .z (zix aa af) ?_
   refine .q hs (dS rfl ae (hv:=fQ (by rw [List.length_set];exact hvn) sp)) ?_
   refine .z zm (.z gW ?_)
   first|(refine .ixv hs aa af ?_;intro b110 o110 hc110)|refine .z (zix aa af) ?_
   refine .o (.store hs rfl rfl af ?_ cZ (kM (by rw [List.length_set];exact hvn) sp) (iH (by rw [List.length_set];exact hvn) sp _));intro w hs
   refine .nil ?_
   exact Fin.xV Tryz.results269 hs
theorem Bh{w:List Int}{N k:Nat}(hw:w.length=N+1):gi (w.set 0 (-kn w k)) 0 - gi (w.set 0 (-kn w k)) (k+1)= -kn w (k+1):=by
 rw [eu aj,eu aj,if_pos rfl,if_neg aj]
 simp only [kn,aV];omega
theorem tX{v vw:Value}{s:cM}{ws:List Int}(hs:St H w σ)(hok:s.Ok)(hr:RSy H v s)(hrw:RI H vw ws)(hwl:ws.length=s.n)(hsz:gM ws)(hsnd:s.Sound):
  Cl Tryz.prog 222 [v,vw] w fun v w'=>(v= .tuple #[.pointer none,.bool false]∧mi s.dh (mq ws s.n) s.n∧St H w' σ)∨
   (∃H1 bf bt bl cl ts lf vl sp,HLe H H1∧v= .tuple #[.pointer (some ⟨bf,0,none⟩),.bool true]∧ug H1 bf s ts lf vl bt bl cl sp∧oa s.n s.dh (mq ws s.n) ts∧St H1 w' σ):=by
 obtain ⟨vl,rfl,hr⟩:=hr
 obtain ⟨al,cpl,rfl⟩:=RL.shape hr
 obtain ⟨aw,cw,rfl⟩:=RI.shape hrw
 obtain ⟨N,hN⟩:=Int.eq_ofNat_of_zero_le hok.m0
 have hN1:=hok.m1
 have hn:s.n=N+1:=by simp [cM.n,hN]
 have hlim:=hok.len
 have hoka:=hok.dh
 have hal:s.dh.length=s.cO.length:=by simp [cM.dh,eB]
 have hnum:yK s.dh:=fun i x hx=>⟨qP hx,(hok.dh.2 x (List.mem_of_getElem? hx)).2.2.2.2.2⟩
 have hin:∀x∈s.dh,x.f<s.n∧x.t<s.n:=fun x hx=>by have:=hoka.2 x hx;omega
 have hwt0:=Ay ws (n:=s.n) aj
 unfold gM at hsz
 rw [hwl] at hsz
 refine Cl.o Tryz.func222 Tryz.ntmps222 ag2 ?_
 refine .ai ?_
 refine .bx hs fun b2 w hs=>?_
 refine .z zg (.z zg (.nil ?_))
 refine .scope ?_
 refine .cut (fun fs w=>∃bf bt bl cl sp,j9 fs ⟨73,[],[(6,.pointer (some ⟨bf,0,none⟩))]⟩∧St H w (.blk bf [I s.many,.slice al s.cO.length cpl,.slice (some ⟨bt,0,none⟩) s.cO.length s.cO.length,.slice (some ⟨bl,0,none⟩) ws.length cl]:: .blk bt (Is (List.replicate s.cO.length 0)):: .blk bl (Is ws++sp)::σ)) ?_ ?_
 ·refine .draw mix rfl hs fun w hs=>?_
  refine .ys 0 rfl hs [_,_] aT aE ?_;refine .z 1 rfl (zfa bO) ?_;refine .y 2 rfl hs cH ?_;refine .z 3 rfl (c9 aP) ?_;refine .z 5 rfl zm ?_
  refine .e2 (i:=4) (j:=6) an rfl rfl rfl rfl .none .none hs ?_ ?_
  ·refine .oE s.cO.length hs rfl rfl aa dC rfl af bI aj ?_;intro b15 w hs
   refine .go ?_
   refine .E 6 hs ?_
   refine .call Tryz.call197 rfl (mH hs hrw aj) ?_;rintro v17 w ⟨en17,hO,hs⟩
   obtain ⟨bl,cl,sp,rfl,rfl,hsp⟩:=hO.some aj
   refine .go ?_
   refine .z 7 rfl (zbd [_,_,_,_] oX) ?_
   refine .E 8 hs ?_
   refine .box hs rfl rfl ?_;intro b19 w hs
   refine .go ?_
   refine .z 9 rfl zg ?_;refine .D hs ?_
   exact nT ⟨b19,b15,bl,cl,sp,aR,hs.sb⟩
  ·refine .call Tryz.call197 rfl (mH hs hrw aj) ?_;rintro v17 w ⟨en17,hO,hs⟩
   obtain ⟨bl,cl,sp,rfl,rfl,hsp⟩:=hO.some aj
   refine .go ?_
   refine .E 4 hs ?_
   refine .oE s.cO.length hs rfl rfl aa dC rfl af bI aj ?_;intro b15 w hs
   refine .go ?_
   refine .z 7 rfl (zbd [_,_,_,_] oX) ?_
   refine .E 8 hs ?_
   refine .box hs rfl rfl ?_;intro b19 w hs
   refine .go ?_
   refine .z 9 rfl zg ?_;refine .D hs ?_
   exact nT ⟨b19,b15,bl,cl,sp,aR,hs.sb⟩
 ·rintro fs w ⟨bf,bt,bl,cl,sp,hfs,hs⟩
  refine WE.sub ?_ hfs
  obtain ⟨H1,hle1,hRf,hs⟩:=hs.cK .here
  have hf0:cellAt H1 bf 0=some (I (N:Int)):=by have:=hRf.at 0 (v:=I s.many);rwa [hN] at this
  have hf3:cellAt H1 bf 3=some (.slice (some ⟨bl,0,none⟩) ws.length cl):=hRf.at 3
  have hrl:=hr.mono hle1
  refine .ai (.z zm (.z znc (.z (zfa ea) (.y hs (zld ak) ?_))))
  refine .q hs (dG (k:=0) rfl rfl aa af rfl aj) ?_
  refine .o (.store hs rfl rfl af ?_ cZ (kM aj sp) (iH aj sp _));intro w hs
  refine .nil (.seq (.ai (.z zm (.z znc (.z (zfa gp) (.z (zfa bH) (.y hs (zld ae) (.z zm (.nil ?_)))))))))
  refine .for (N:=N) (J:=fun k fr w=>fr=[(6,.pointer (some ⟨bf,0,none⟩))]∧St H1 w (.blk bt (Is (List.replicate s.cO.length 0)):: .blk bl (Is (ws.set 0 (-kn ws k))++sp)::σ)) aj ?_ ?_ ?_
  ·exact .mk ⟨rfl,by simpa [kn,aV] using hs⟩
  ·rintro k fr w hk ⟨rfl,hs⟩
   have e:=Bh (w:=ws) (N:=N) (k:=k) aj
   have hb1:=rf ws (k+1)
   have hb2:bG ws (k+1+1)≤bG ws s.n:=lQ (fun v=>by omega) aj
   simp only [FF] at hsz
   refine .block (.ai (.z zm (.z zg (.nil ?_))))
   refine .draw mix rfl hs fun w hs=>?_
   refine .z 0 rfl zm ?_;refine .z 1 rfl znc ?_;refine .z 2 rfl (zfa ea) ?_;refine .y 3 rfl hs ak ?_
   refine .z 4 rfl (dG (k:=0) rfl rfl aa af rfl aj) ?_
   refine .load (i:=5) hs rfl an .none rfl ae ?_ (hv:=fQ (by rw [List.length_set];omega) sp)
   refine .z 6 rfl zm ?_;refine .z 7 rfl znc ?_;refine .z 8 rfl (zfa ea) ?_;refine .y 9 rfl hs ak ?_;refine .z 10 rfl zm ?_;refine .z 11 rfl cq ?_
   refine .z 12 rfl (dG (k:=k+1) rfl rfl aa af aj aj) ?_
   refine .load (i:=13) hs rfl an .none rfl ae ?_ (hv:=fQ (by rw [List.length_set];omega) sp)
   refine .z 14 rfl gW ?_
   refine .z 15 rfl (dG (k:=0) rfl rfl aa af rfl aj) ?_
   refine .E 16 hs ?_
   refine .store hs rfl rfl af ?_ cZ (kM (by rw [List.length_set];omega) sp) (iH (by rw [List.length_set];omega) sp _);intro w hs
   refine .go ?_
   refine .D hs ?_
   refine nB (nT ?_)
   rw [e,List.set_set] at hs
   exact .mk ⟨rfl,hs⟩
  ·rintro fr w ⟨rfl,hs⟩
   have hI0:uI s.n s.dh (mq ws s.n) (List.replicate s.cO.length 0) (ws.set 0 (-kn ws N)):=by
    rw [←hal,hn]
    rw [hn] at hsz
    refine uI.start hsz (by rw [List.length_set];omega) (fun v hv=>?_) hsnd
    rw [eu aj]
    cases v with
    |zero=>rw [if_pos rfl,vE]
    |succ v=>rw [if_neg aj,vF]
   refine nT ?_
   refine .seq ?_
   refine .label ?_
   refine nT ?_
   refine .block ?_
   refine .loop (fun _:cf×List Int×List Int=>⟨73,[],[(6,.pointer (some ⟨bf,0,none⟩))]⟩)
    (fun p w=>HLe H1 p.1∧uI s.n s.dh (mq ws s.n) p.2.1 p.2.2∧St p.1 w (.blk bt (Is p.2.1):: .blk bl (Is p.2.2++sp)::σ)) (fun p=>(rem s.n p.2.2).toNat) (H1,List.replicate s.cO.length 0,ws.set 0 (-kn ws N))
    aR ⟨HLe.refl _,hI0,hs⟩ ?_
   rintro ⟨H2,ts,lf⟩ w ⟨hle2,hI,hs⟩
   dsimp only at hle2 hI hs ⊢
   have hlt:=hI.lt
   have hll:=hI.ll
   have hRf2:Row H2 bf [I s.many,.slice al s.cO.length cpl,.slice (some ⟨bt,0,none⟩) ts.length ts.length,.slice (some ⟨bl,0,none⟩) lf.length cl]:=by
    rw [hlt,hal,hll,←hwl];exact hRf.mono hle2
   have hf32:cellAt H2 bf 3=some (.slice (some ⟨bl,0,none⟩) lf.length cl):=hRf2.at 3
   refine .block (.seq (.ai (.z zm (.z znc (.z (zfa ea) (.y hs (zld ak) (.z (c9 aa) (.z zm (.nil ?_)))))))))
   refine .for (N:=lf.length) (J:=fun k fr w=>fr=[(53,.slice (some ⟨bl,0,none⟩) lf.length cl),(6,.pointer (some ⟨bf,0,none⟩))]∧(∀v<k,gi lf v≤0)∧St H2 w (.blk bt (Is ts):: .blk bl (Is lf++sp)::σ)) aj ?_ ?_ ?_
   ·exact .mk ⟨rfl,fun v hv=>by omega,hs⟩
   ·rintro k fr w hk ⟨rfl,hle0,hs⟩
    refine .block (.ai (.z zm ?_))
    first|(refine .ixv hs aa af ?_;intro b58 o58 hc58)|refine .z (zix aa af) ?_
    refine .q hs (dS rfl ae (hv:=fQ hk sp)) ?_
    refine .z zg (.z zg (.nil (.seq (.ai (.z zm (.z uO (.nil ?_)))))))
    refine (.bM rfl (fun hc61=>?_) (fun hc61=>?_))
    ·refine .exit ?_
     refine xT (xB (nT ?_))
     exact .mk ⟨rfl,fun v hv=>by
       by_cases e:v=k
       ·subst e;exact hc61
       ·exact hle0 v aj,hs⟩
    ·refine .skip ?_
     refine nT ?_
     refine .ai (.z zm (.z zm ?_))
     obtain ⟨Ha,hla,hra,hsa,-,hba⟩:=hs.zb
     obtain ⟨Hb,hlb,hrb,hsb,-,hbb⟩:=hsa.zb
     refine .o (.call Tryz.call268 rfl (pI (s:=s) (to:=k) hsb hok ⟨hRf2.mono (hla.trans hlb),hr.mono (hle1.trans (hle2.trans (hla.trans hlb))),hra.mono hlb,hrb⟩ aj aj hI.fe aj aj) ?_);rintro v64 w ⟨Hc,p,en,hlc,hO,hsc,hWR⟩
     have hs:=hba (HLe.refl _) (hbb hlc hsc)
     obtain ⟨ap,lp,cp,rfl,hlp⟩:=hO.shape
     obtain rfl:lp=p.length:=by rw [dU] at hlp;omega
     refine .z zg (.nil (.seq (.ai (.z zm (.z (c9 aD) (.z gC (.nil ?_)))))))
     refine (.bM rfl (fun hc67=>?_) (fun hc67=>?_))
     ·refine .ai (.z zg (.z zg (.nil ?_)))
      refine .ret (rT (rB (rT (rB (rT (rB (rT (rB (rS (Fin.nh Tryz.results222 rfl rfl ?_))))))))))
      rcases hWR with ⟨_,R,hS,hR,hto⟩|⟨hp,_⟩
      ·exact .inl ⟨rfl,hI.open hin hS hR aj hto aj,(hs.le (hle1.trans hle2)).out⟩
      ·exact (hp (List.length_eq_zero_iff.1 aj)).elim
     ·refine .skip ?_
      refine nT ?_
      refine .ai (.z zm (.z zm ?_))
      obtain ⟨hp,hpl,u,hw⟩:=hWR.resolve_left fun h=>by rw [h.1] at hc67;exact hc67 rfl
      obtain ⟨H3,hle3,hRS,hs⟩:=cn.cK (cs:=p.map Arc.v) hO (fun c hc=>by simp only [List.mem_map] at hc;obtain ⟨x,_,rfl⟩:=hc;rfl) aj (by rw [List.length_map];omega) hs cZ
      refine .o (.call Tryz.call269 rfl (oI hs hok (hRf2.mono hle3) (hr.mono (hle1.trans (hle2.trans hle3))) hRS hI hw hp hpl) ?_);rintro v70 w hs
      refine .nil ?_
      refine .exit ?_
      refine xN (xT (xN (xT (xB (nT ?_)))))
      obtain ⟨q1,q2⟩:=hI.send hnum hw aj
      have q3:0≤rem s.n (xh lf (qt s.dh ts lf p u k) u k):=cP fun v _=>by omega
      exact ⟨(H3,fq s.dh (qt s.dh ts lf p u k) ts p,xh lf (qt s.dh ts lf p u k) u k),aR,⟨hle2.trans hle3,q1,hs⟩,by dsimp only;omega⟩
   ·rintro fr w ⟨rfl,hle0,hs⟩
    refine nT ?_
    refine .ai (.z zm (.z zg (.z zg (.nil ?_))))
    refine .ret (rB (rT (rB (rS (Fin.nh Tryz.results222 rfl rfl ?_)))))
    obtain ⟨H3,l3,r3,hs⟩:=hs.cK .here
    obtain ⟨H4,l4,r4,hs⟩:=hs.cK .here
    exact .inr ⟨H4,bf,bt,bl,cl,ts,lf,_,sp,hle1.trans (hle2.trans (l3.trans l4)),rfl,⟨hRf2.mono (l3.trans l4),hr.mono (hle1.trans (hle2.trans (l3.trans l4))),r3.mono l4,r4⟩,hI.ok hin hwt0 (fun v hv=>hle0 v aj),hs⟩
theorem qG{v:Value}{ws:List Int}(hs:St H w σ)(hr:RI H v ws):Cl Tryz.prog 164 [v] w fun v w'=>∃b,v= .bool b∧(b=true↔gM ws)∧St H w' σ:=by
 obtain ⟨a,c,rfl⟩:=RI.shape hr
 have hl:=(RI.len hr).2.2
 refine Cl.o Tryz.func164 Tryz.ntmps164 ag1 ?_
 refine .ai (.z zg (.nil (.ai (.z zg (.nil (.seq (.ai (.z zm (.z (c9 aa) ?_)))))))))
 refine .z zm (.nil ?_)
 refine .for (N:=ws.length) (J:=fun k fr w=>fr=[(6,.slice a ws.length c),(3,I (3600000000000 - bG ws k))]∧bG ws k≤3600000000000∧St H w σ) aj ?_ ?_ ?_
 ·exact .mk ⟨rfl,by simp [bG,aV],hs⟩
 ·rintro k fr w hk ⟨rfl,hle,hs⟩
  have hx:=bL hk
  have h0:0≤bG ws k:=cP fun v _=>by omega
  have h1:bG ws (k+1)=bG ws k+max (gi ws k) (-gi ws k):=rfl
  refine .block (.ai ?_)
  first|(refine .ixv hs aa af ?_;intro b10 o10 hc10)|refine .z (zix aa af) ?_
  refine .y hs (zld ae) (.z zg (.nil (.seq (.ai (.z zm (.z zm (.z uN (.z gx (.z zm ?_)))))))))
  refine .iB (t':=16) rfl (fun hb16=>?_) (fun hb16=>?_)
  ·refine .gFs 3 4 false rfl rfl rfl ?_
   refine .z zpT (.nil ?_)
   refine (.cT ?_)
   refine .ai (.z zg (.nil ?_))
   refine .ret (rT (rB (rT (rB (rT (Fin.bJ Tryz.results164 rfl ?_))))))
   exact ⟨false,rfl,⟨fun h=>(by cases h),fun h=>(lT (k:=k+1) hk (by simp only [FF];omega) h).elim⟩,hs⟩
  ·refine .gT rfl rfl ?_
   refine .z zm ?_
   refine .gT rfl rfl ?_
   refine .z zm ?_
   refine .gT rfl rfl ?_
   refine .z kD (.z zpF (.nil ?_))
   refine (.bM rfl (fun hc20=>?_) (fun hc20=>?_))
   ·refine .ai (.z zg (.nil ?_))
    refine .ret (rT (rB (rT (rB (rT (Fin.bJ Tryz.results164 rfl ?_))))))
    exact ⟨false,rfl,⟨fun h=>(by cases h),fun h=>(lT (k:=k+1) hk (by simp only [FF];omega) h).elim⟩,hs⟩
   ·refine .skip ?_
    refine nT ?_
    refine .region (.z zm (.z zm (.z zm (.z uN (.z DM (.z gW (.z zg (.nil ?_))))))))
    refine nB (nT ?_)
    exact .mk ⟨rfl,aj,hs⟩ (hs:= .cons rfl (.cons rfl (.cons rfl (.cj rfl aj (.nil rfl rfl)))))
 ·rintro fr w ⟨rfl,hle,hs⟩
  refine nT ?_
  refine .ai (.z zg (.nil ?_))
  refine .ret (Fin.bJ Tryz.results164 rfl ?_)
  exact ⟨true,rfl,⟨fun _=>hle,fun _=>rfl⟩,hs⟩
theorem jt{v vw:Value}{s:cM}{ws:List Int}(hs:St H w σ)(hr:RSy H v s)(hrw:RI H vw ws):Cl Tryz.prog 219 [v,vw] w fun v w'=>v=I (dT s ws)∧St H w' σ:=by
 obtain ⟨vl,rfl,hr⟩:=hr
 obtain ⟨al,cpl,rfl⟩:=RL.shape hr
 obtain ⟨aw,cw,rfl⟩:=RI.shape hrw
 have hlw:=(RI.len hrw).2.2
 have hn:s.check=0→0≤s.many∧s.many≤64∧(s.n:Int)=s.many+1:=fun h=>by
  have h1:=s.dt.1 h
  have:=h1.m0
  have:=h1.m1
  simp only [cM.n];omega
 refine Cl.o Tryz.func219 Tryz.ntmps219 ag2 ?_
 refine .ai ?_
 refine .bx hs fun b2 w hs=>?_
 refine .z zg (.nil (.seq (.ai (.y hs (zls [_,_] aT aE) ?_))))
 refine .o (.call Tryz.call125 rfl (kj (s:=s) hs ⟨_,rfl,hr⟩) ?_);rintro _ w ⟨rfl,hs⟩
 refine .z zg (.nil (.ai (.z zm (.z ij (.nil ?_)))))
 refine (.eQ rfl (fun hc9=>?_) (fun hc9=>?_))
 ·refine .ai (.z zm (.z zg (.nil ?_)))
  refine .ret (rT (Fin.bJ Tryz.results219 rfl ?_))
  exact ⟨by unfold dT;rw [if_pos hc9],hs.tail⟩
 ·refine .skip ?_
  refine nT ?_
  refine .seq (.ai (.z zm ?_))
  obtain ⟨n0,n1,n2⟩:=hn hc9
  refine .z (c9 aa) (.z (zfa bH) (.y hs (zld ae) (.z cq (.z ij (.z zm ?_)))))
  refine .yF (t':=17) rfl (fun hb17=>?_) (fun hb17=>?_)
  ·refine .gFs 3 6 false rfl rfl rfl ?_
   refine .z zpT (.nil ?_)
   refine (.cT ?_)
   refine .ai (.z zg (.nil ?_))
   refine .ret (rT (Fin.bJ Tryz.results219 rfl ?_))
   exact ⟨by unfold dT;rw [if_neg aj,if_neg aj],hs.tail⟩
  ·refine .gT rfl rfl ?_
   refine .z zm ?_
   refine .gT rfl rfl ?_
   refine .o (.call Tryz.call164 rfl (qG hs hrw) ?_);rintro _ w ⟨bz,rfl,hbz,hs⟩
   refine .gT rfl rfl ?_
   refine .z ir (.z zpF (.nil ?_))
   refine (.cond rfl (fun hc21=>?_) (fun hc21=>?_))
   ·refine .ai (.z zg (.nil ?_))
    refine .ret (rT (Fin.bJ Tryz.results219 rfl ?_))
    exact ⟨by unfold dT;rw [if_neg aj,if_neg (fun h=>by rw [hbz.2 h.2] at hc21;cases hc21)],hs.tail⟩
   ·refine .skip ?_
    refine nT ?_
    refine .ai (.z zg (.nil ?_))
    refine .ret (Fin.bJ Tryz.results219 rfl ?_)
    exact ⟨by unfold dT;rw [if_neg aj,if_pos ⟨aj,hbz.1 (by simpa using hc21)⟩],hs.tail⟩
theorem kh{v vw:Value}{s:cM}{ws:List Int}(hs:St H w σ)(hr:RSy H v s)(hrw:RI H vw ws):
  Cl Tryz.prog 158 [v,vw] w fun v w'=>∃H1 e pf,HLe H H1∧v= .tuple #[pf,I e]∧BU s ws e∧St H1 w' σ∧(e≠0→pf= .pointer none)∧
   (e=0→∃bf bt bl cl ts lf vl sp,pf= .pointer (some ⟨bf,0,none⟩)∧ug H1 bf s ts lf vl bt bl cl sp∧oa s.n s.dh (mq ws s.n) ts∧s.Ok∧bG ws s.n≤FF):=by
 obtain ⟨vl,rfl,hr⟩:=hr
 refine Cl.o Tryz.func158 Tryz.ntmps158 ag2 ?_
 refine .ai ?_
 refine .bx hs fun b2 w hs=>?_
 refine .z zg (.z zg (.nil (.seq (.ai (.y hs (zls [_,_] aT aE) (.z zm ?_))))))
 refine .o (.call Tryz.call219 rfl (jt (s:=s) hs ⟨_,rfl,hr⟩ hrw) ?_);rintro _ w ⟨rfl,hs⟩
 refine .z zg (.nil (.ai (.z zm (.z ij (.nil ?_)))))
 refine (.eQ rfl (fun hc13=>?_) (fun hc13=>?_))
 ·refine .ai (.z zm (.z zg (.z zg (.nil ?_))))
  refine .ret (rT (Fin.nh Tryz.results158 rfl rfl ?_))
  exact ⟨H,_,_,HLe.refl _,rfl,.bad hc13,hs.tail,fun _=>rfl,fun h=>(hc13 h).elim⟩
 ·refine .skip ?_
  refine nT ?_
  refine .seq (.ai (.y hs (zls [_,_] aT aE) ?_))
  obtain ⟨hok,hwl,hsz⟩:=jv hc13
  refine .o (.call Tryz.call133 rfl (js (s:=s) hs hok ⟨_,rfl,hr⟩) ?_);rintro _ w ⟨H1,b,hle1,rfl,hb,hs⟩
  refine .z ir (.nil ?_)
  refine (.cond rfl (fun hc17=>?_) (fun hc17=>?_))
  ·refine .ai (.z zg (.z zg (.nil ?_)))
   refine .ret (rT (Fin.nh Tryz.results158 rfl rfl ?_))
   exact ⟨H1,_,_,hle1,rfl,.clash hc13 (fun h=>by rw [hb.2 h] at hc17;cases hc17),hs.tail,fun _=>rfl,fun h=>by cases h⟩
  ·refine .skip ?_
   refine nT ?_
   refine .ai (.y hs (zls [_,_] aT aE) (.z zm ?_))
   have hsnd:s.Sound:=hb.1 (by simpa using hc17)
   refine .o (.call Tryz.call222 rfl (tX (s:=s) hs hok ⟨_,rfl,hr.mono hle1⟩ (hrw.mono hle1) hwl hsz hsnd) ?_);rintro v21 w hcase
   obtain ⟨pf,bb,H2,hle2,rfl,hs,hT,hF⟩:∃pf bb H2,HLe H1 H2∧v21= .tuple #[pf,.bool bb]∧St H2 w (.blk b2 [I s.many,vl]::σ)∧(bb=false→pf= .pointer none∧mi s.dh (mq ws s.n) s.n)∧
     (bb=true→∃bf bt bl cl ts lf vl sp,pf= .pointer (some ⟨bf,0,none⟩)∧ug H2 bf s ts lf vl bt bl cl sp∧oa s.n s.dh (mq ws s.n) ts):=by
    rcases hcase with ⟨rfl,h1,h2⟩|⟨H2,bf,bt,bl,cl,ts,lf,vl,sp,h1,rfl,h2,h3,h4⟩
    ·exact ⟨_,false,H1,HLe.refl _,rfl,h2,fun _=>⟨rfl,h1⟩,fun h=>by cases h⟩
    ·exact ⟨_,true,H2,h1,rfl,h4,fun h=>(by cases h),fun _=>⟨bf,bt,bl,cl,ts,lf,vl,sp,rfl,h2,h3⟩⟩
   refine .z zm (.z zex (.z zex (.z zg (.z zg (.nil (.seq (.ai (.z zm (.z ir ?_)))))))))
   refine .nil ?_
   refine (.cond rfl (fun hc25=>?_) (fun hc25=>?_))
   ·refine .ai (.z zg (.z zg (.nil ?_)))
    refine .ret (rT (Fin.nh Tryz.results158 rfl rfl ?_))
    exact ⟨H2,_,_,hle1.trans hle2,rfl,.opn hc13 hsnd (hT (by simpa using hc25)).2,hs.tail,fun _=>rfl,fun h=>by cases h⟩
   ·refine .skip ?_
    refine nT ?_
    refine .ai (.z zm (.z zg (.z zg (.nil ?_))))
    refine .ret (Fin.nh Tryz.results158 rfl rfl ?_)
    obtain ⟨bf,bt,bl,cl,ts,lf,vl,sp,rfl,h2,h3⟩:=hF (by simpa using hc25)
    have hn0:0<s.n:=by simp [cM.n]
    have hn1:s.n≤65:=by have:=hok.m0;have:=hok.m1;simp only [cM.n];omega
    have hsz':bG ws s.n≤FF:=by unfold gM at hsz;rwa [hwl] at hsz
    exact ⟨H2,_,_,hle1.trans hle2,rfl,.ok hc13 hsnd (h3.value hn0 hn1 hok.dh hsz').2.1,hs.tail,fun h=>(h rfl).elim,fun _=>⟨bf,bt,bl,cl,ts,lf,vl,sp,rfl,h2,h3,hok,hsz'⟩⟩
theorem ie{bf bt bl cl:Nat}{s:cM}{ts lf ws:List Int}{vl:Value}{sp:List Value}(hs:St H w σ)(hok:s.Ok)(hF:ug H bf s ts lf vl bt bl cl sp)(hFo:oa s.n s.dh (mq ws s.n) ts)(hsz:bG ws s.n≤FF):
  Cl Tryz.prog 160 [.pointer (some ⟨bf,0,none⟩)] w fun v w'=>v=I (dot s.dh ts (·.c))∧wT s.dh (s.wt ws) s.n (dot s.dh ts (·.c))∧dot s.dh ts (·.c)≤BB∧-BB≤dot s.dh ts (·.c)∧St H w' σ:=by
 obtain ⟨hFf,hFl,hFt,hFd⟩:=hF
 obtain ⟨al,cpl,rfl⟩:=RL.shape hFl
 have hlim:=hok.len
 have hal:s.dh.length=s.cO.length:=by simp [cM.dh,eB]
 have hlt:=hFo.lt
 have hn0:0<s.n:=by simp [cM.n]
 have hn1:s.n≤65:=by have:=hok.m0;have:=hok.m1;simp only [cM.n];omega
 have hv:=hFo.value hn0 hn1 hok.dh hsz
 have hd:=Bz (es:=s.dh) hlt
 have hf1:cellAt H bf 1=some (.slice al s.cO.length cpl):=hFf.at 1
 have hf2:cellAt H bf 2=some (.slice (some ⟨bt,0,none⟩) ts.length ts.length):=hFf.at 2
 refine Cl.o Tryz.func160 Tryz.ntmps160 ag1 ?_
 refine .ai (.z zg (.nil (.ai (.z zg (.nil (.seq (.ai (.z zm (.z znc ?_)))))))))
 refine .z (zfa gp) (.z (zfa bO) (.y hs (zld cH) (.z (c9 aP) (.z zm (.nil ?_)))))
 refine .for (N:=s.cO.length) (J:=fun k fr w=>fr=[(10,.slice al s.cO.length cpl),(3,I (IntKind.i64.wrap (Am s.dh ts k))),(0,.pointer (some ⟨bf,0,none⟩))]∧St H w σ) aj ?_ ?_ ?_
 ·exact .mk ⟨rfl,hs⟩ (hs:= .cons rfl (.cons rfl (.cons rfl (.cj rfl (by simp [Am,aV,mb]) (.cons rfl (.nil rfl rfl))))))
 ·rintro k fr w hk ⟨rfl,hs⟩
  obtain ⟨l,hl⟩:=nth hk
  have hg:(ga s.dh k).c=l.M:=by simp [ga,cM.dh,jI hl,Lim.arc]
  have hlm:=hok.lim l (List.mem_of_getElem? hl)
  have hkt:k<ts.length:=by omega
  have htb:=hFo.nn k aj
  have hct:cellAt H bt k=some (I (gi ts k)):=hFt.at k (eY hkt)
  have hmul:gi ts k*l.M≤72000000000000000∧-72000000000000000≤gi ts k*l.M:=by
   simp only [FF] at htb
   have g1:gi ts k*l.M≤gi ts k*20000:=Int.mul_le_mul_of_nonneg_left hlm.2.2.2.1.2 htb.1
   have g2:gi ts k*(-20000)≤gi ts k*l.M:=Int.mul_le_mul_of_nonneg_left hlm.2.2.2.1.1 htb.1
   omega
  refine .block (.ai (.z zm ?_))
  refine .ixX hs hFl rfl rfl aP bq hl rfl ?_;intro b15 o15 hc15
  refine .q hs (cI (vs:=l.c) rfl fF bq hc15) ?_
  refine .o (.alloc hs ez rfl fun b5 w hs=>?_)
  refine .z zg ?_
  refine .o (.aU (vs:=l.c) hs rfl rfl bq fun w hs=>?_)
  refine .nil ?_
  refine .draw mix rfl hs fun w hs=>?_
  refine .z 0 rfl zm ?_;refine .z 1 rfl zm ?_;refine .z 2 rfl znc ?_;refine .z 3 rfl (zfa gn) ?_;refine .y 4 rfl hs ak ?_;refine .z 5 rfl zm ?_
  refine .z 6 rfl (dG (k:=k) rfl rfl aa af rfl hkt) ?_
  refine .r (i:=7) hs rfl an .none (aK rfl ae hct) ?_
  refine .z 8 rfl (zfa fV) ?_;refine .y 9 rfl hs ae ?_;refine .z 10 rfl ka ?_
  refine .z 11 rfl (z6 rfl rfl) ?_
  refine .z 12 rfl zg ?_;refine .D hs ?_
  refine nB (nT ?_)
  exact .mk ⟨rfl,hs.tail⟩ (hs:= .cons rfl (.cons rfl (.cons rfl (.cj rfl (by rw [pE];simp only [Am,aV,hg]) (.cons rfl (.nil rfl rfl))))))
 ·rintro fr w ⟨rfl,hs⟩
  rw [←hal,←hd,ji (by have:=hv.2.2;simp only [BB] at this;omega)]
  refine nT ?_
  refine .ai (.z zm (.z zg (.nil ?_)))
  refine .ret (Fin.bJ Tryz.results160 rfl ?_)
  exact ⟨rfl,hv.1,hv.2.2.1,hv.2.2.2,hs⟩
theorem rO{vw:Value}{ws:List Int}(hs:St H w σ)(hrw:RI H vw ws)(hlw:ws.length≤1000000)(hb:∀k,-9223372036854775807≤gi ws k∧gi ws k≤9223372036854775807):
  Cl Tryz.prog 159 [vw] w fun v w'=>∃H1,HLe H H1∧RI H1 v (qs ws)∧St H1 w' σ:=by
 obtain ⟨aw,cw,rfl⟩:=RI.shape hrw
 refine Cl.o Tryz.func159 Tryz.ntmps159 ag1 ?_
 refine .ai (.z zg (.nil (.ai (.z zm (.z (c9 aa) ?_)))))
 refine .o (.oE ws.length hs rfl rfl aa dC rfl af bI aj fun b8 w hs=>?_)
 refine .z zg (.nil (.seq (.ai (.z zm (.z (c9 aa) (.z zm (.nil ?_)))))))
 refine .for (N:=ws.length) (J:=fun k fr w=>fr=[(9,.slice aw ws.length cw),(3,.slice (some ⟨b8,0,none⟩) ws.length ws.length)]∧∃L,(L.length=ws.length∧∀v<ws.length,gi L v=if v<k then -gi ws v else 0)∧St H w (.blk b8 (Is L)::σ)) aj ?_ ?_ ?_
 ·exact .mk ⟨rfl,_,⟨bV,fun v hv=>by rw [du _ _ hv,if_neg aj]⟩,hs⟩
 ·rintro k fr w hk ⟨rfl,L,⟨hL1,hL2⟩,hs⟩
  have hx:=bL hk
  have hbk:=hb k
  refine .block (.ai (.z zm ?_))
  first|(refine .ixv hs aa af ?_;intro b14 o14 hc14)|refine .z (zix aa af) ?_
  refine .y hs (zld ae) (.z zg (.z zg (.nil (.region (.z zm (.z zm (.z zm (.z uN ?_))))))))
  first|(refine .ixv hs aa af ?_;intro b20 o20 hc20)|refine .z (zix aa af) ?_
  refine .o (.store hs rfl rfl af fun w hs=>?_)
  refine .nil ?_
  refine nB (nT ?_)
  refine .mk ⟨rfl,_,⟨by rw [List.length_set];exact hL1,fun v hv=>?_⟩,hs⟩
  rw [eu aj]
  by_cases e:v=k
  ·subst e;rw [if_pos rfl,if_pos aj]
  ·rw [if_neg e,hL2 v hv];congr 1;apply propext;omega
 ·rintro fr w ⟨rfl,L,⟨hL1,hL2⟩,hs⟩
  obtain rfl:L=qs ws:=xC (by simp [hL1,qs]) (fun k hk=>by rw [hL2 k aj,if_pos aj,Bn])
  refine nT ?_
  refine .ai (.z zm (.z zg (.nil ?_)))
  refine .ret (Fin.bJ Tryz.results159 rfl ?_)
  obtain ⟨H1,g1,g2,hs⟩:=hs.cK .here
  refine ⟨H1,g1,?_,hs⟩
  rw [←hL1]
  exact Row.RI (spare:=[]) (by simpa using g2) _ (Nat.le_refl _) aj
theorem ki{v vw:Value}{s:cM}{ws:List Int}(hs:St H w σ)(hr:RSy H v s)(hrw:RI H vw ws):
  Cl Tryz.prog 74 [v,vw] w fun v w'=>∃H1 lo hi e,HLe H H1∧v= .tuple #[I lo,I hi,I e]∧fD s ws lo hi e∧St H1 w' σ:=by
 obtain ⟨vl,rfl,hr⟩:=hr
 refine Cl.o Tryz.func74 Tryz.ntmps74 ag2 ?_
 refine .ai ?_
 refine .bx hs fun b2 w hs=>?_
 refine .z zg (.z zg (.z zg (.nil (.ai (.y hs (zls [_,_] aT aE) (.z zm ?_))))))
 refine .o (.call Tryz.call158 rfl (kh (s:=s) hs ⟨_,rfl,hr⟩ hrw) ?_);rintro _ w ⟨H1,e,pf,hle1,rfl,hA,hs,hne,heq⟩
 refine .z zm (.z zex (.z zex (.z zg (.z zg (.nil (.seq (.ai (.z zm (.z ij ?_)))))))))
 refine .nil ?_
 refine (.eQ rfl (fun hc16=>?_) (fun hc16=>?_))
 ·refine .ai (.z zm (.z zg (.z zg (.z zg (.nil ?_)))))
  refine .ret (rT (Fin.Dx Tryz.results74 rfl rfl rfl ?_))
  exact ⟨H1,_,_,_,hle1,rfl,.first ⟨hA,fun _=>rfl,fun h=>(hc16 h).elim⟩ hc16,hs.tail⟩
 ·refine .skip ?_
  refine nT ?_
  refine .seq (.draw mix rfl hs fun w hs=>?_)
  refine .ys 0 rfl hs [_,_] aT aE ?_;refine .z 1 rfl zm ?_
  refine .E 2 hs ?_
  subst hc16
  obtain ⟨bf,bt,bl,cl,ts,lf,vl',sp,rfl,hF,hFo,hok,hsz⟩:=heq rfl
  have hwl:=(jv hA.zero.1).2.1
  have hbw:∀k,-9223372036854775807≤gi ws k∧gi ws k≤9223372036854775807:=fun k=>by
   simp only [FF] at hsz
   by_cases hk:k<s.n
   ·have:=iJ ws hk;omega
   ·have:gi ws k=0:=by simp [gi,List.getElem?_eq_none (show ws.length≤k by omega)]
    omega
  refine .call Tryz.call159 rfl (rO hs (hrw.mono hle1) (by have:=hok.m1;simp only [cM.n] at hwl;omega) hbw) ?_;rintro v21 w ⟨H2,hle2,hr21,hs⟩
  refine .go ?_
  refine .E 3 hs ?_
  refine .call Tryz.call158 rfl (kh (s:=s) hs ⟨_,rfl,hr.mono (hle1.trans hle2)⟩ hr21) ?_;rintro _ w ⟨H3,e2,pg,hle3,rfl,hA2,hs,hne2,heq2⟩
  refine .go ?_
  refine .z 4 rfl zm ?_;refine .z 5 rfl zex ?_;refine .z 6 rfl zex ?_;refine .z 7 rfl zg ?_;refine .z 8 rfl zg ?_;refine .D hs ?_
  refine .seq (.ai (.z zm (.z ij (.nil ?_))))
  refine (.eQ rfl (fun hc26=>?_) (fun hc26=>?_))
  ·refine .ai (.z zm (.z zg (.z zg (.z zg (.nil ?_)))))
   refine .ret (rT (Fin.Dx Tryz.results74 rfl rfl rfl ?_))
   obtain ⟨q1,q2,q3,q4⟩:=hFo.value (by simp [cM.n]) (by have:=hok.m0;have:=hok.m1;simp only [cM.n];omega) hok.dh hsz
   exact ⟨H3,_,_,_,hle1.trans (hle2.trans hle3),rfl,.second ⟨hA,fun h=>(h rfl).elim,fun _=>⟨q1,q3,q4⟩⟩ ⟨hA2,fun _=>rfl,fun h=>(hc26 h).elim⟩ hc26,hs.tail⟩
  ·refine .skip ?_
   refine nT ?_
   refine .ai (.z zm ?_)
   subst hc26
   obtain ⟨bf2,bt2,bl2,cl2,ts2,lf2,vl2,sp2,rfl,hF2,hFo2,hok2,hsz2⟩:=heq2 rfl
   refine .o (.call Tryz.call160 rfl (ie hs hok hF2 hFo2 hsz2) ?_);rintro _ w ⟨rfl,a1,a2,a3,hs⟩
   simp only [BB] at a2 a3
   refine .z uN (.z zm ?_)
   refine .o (.call Tryz.call160 rfl (ie hs hok (hF.mono (hle2.trans hle3)) hFo hsz) ?_);rintro _ w ⟨rfl,c1,c2,c3,hs⟩
   refine .z zg (.z zg (.z zg (.nil ?_)))
   refine .ret (Fin.Dx Tryz.results74 rfl rfl rfl ?_)
   exact ⟨H3,_,_,_,hle1.trans (hle2.trans hle3),rfl,.ok ⟨hA,fun h=>(h rfl).elim,fun _=>⟨c1,c2,c3⟩⟩ ⟨hA2,fun h=>(h rfl).elim,fun _=>⟨a1,by simp only [BB];omega,by simp only [BB];omega⟩⟩,hs.tail⟩
theorem nS{bf bt bl cl:Nat}{s:cM}{ts lf ws:List Int}{vl:Value}{sp:List Value}(hs:St H w σ)(hok:s.Ok)(hF:ug H bf s ts lf vl bt bl cl sp)(hFo:oa s.n s.dh (mq ws s.n) ts)(hsz:bG ws s.n≤FF):
  Cl Tryz.prog 224 [.pointer (some ⟨bf,0,none⟩)] w fun v w'=>∃H1,HLe H H1∧RPf H1 v (dot s.dh ts (·.c)) (fp ts ts.length)∧St H1 w' σ:=by
 have hf2:cellAt H bf 2=some (.slice (some ⟨bt,0,none⟩) ts.length ts.length):=hF.f.at 2
 have hlt:=hFo.lt
 have hal:s.dh.length=s.cO.length:=by simp [cM.dh,eB]
 have hlim:=hok.len
 refine Cl.o Tryz.func224 Tryz.ntmps224 ag1 ?_
 refine .ai ?_
 refine .o (.alloc hs eT rfl fun b2 w hs=>?_)
 refine .nil (.ai (.z zm ?_))
 refine .o (.call Tryz.call160 rfl (ie hs hok hF hFo hsz) ?_);rintro _ w ⟨rfl,c1,c2,c3,hs⟩
 refine .z (zbd [_,_] ik) ?_
 refine .o (.alloc hs eT rfl fun b3 w hs=>?_)
 refine .o (.aU (vs:=[_,_]) hs rfl rfl a8 fun w hs=>?_)
 refine .nil (.seq (.ai (.z zm (.z znc (.z (zfa gn) (.y hs (zld ak) (.z (c9 aa) (.z zm (.nil ?_)))))))))
 refine .for (N:=ts.length) (J:=fun k fr w=>fr=[(12,.slice (some ⟨bt,0,none⟩) ts.length ts.length),(3,.pointer (some ⟨b3,0,none⟩)),(2,.pointer (some ⟨b2,0,none⟩))]∧∃vu en,cn 2 vu (Uses (fp ts k)) en∧St H w (.blk b3 [I (dot s.dh ts (·.c)),vu]:: .blk b2 [I 0,.slice none 0 0]::en::σ)) aj ?_ ?_ ?_
 ·exact .mk ⟨rfl,_,.nul,.nil 2 none,(hs.nul).sb⟩
 ·rintro k fr w hk ⟨rfl,vu,en,hO,hs⟩
  have hct:cellAt H bt k=some (I (gi ts k)):=hF.t.at k (eY hk)
  refine .block (.ai (.z zm ?_))
  first|(refine .ixv hs aa af ?_;intro b17 o17 hc17)|refine .z (zix aa af) ?_
  refine .q hs (aK rfl ae hct) ?_
  refine .z zg (.z zg (.nil (.ai (.z zm (.z kD (.nil ?_))))))
  refine (.bM rfl (fun hc20=>?_) (fun hc20=>?_))
  ·refine .region (.z (zfa cU) (.y hs (zld eZ) (.z zm (.z zm (.z (zbd [_,_] yE) ?_)))))
   refine .o (.buildSlice (cells:=[I k,I (gi ts k)]) hs sC rfl rfl fun b26 w hs=>?_)
   refine .o (.append (ys:=[I k,I (gi ts k)]) hs dY rfl rfl hO (.own .here rfl rfl) (by simp [Value.oneCell']) (fun l h=>by rw [yH] at h;have:=mu ts k;omega) ?_);intro v27 en27 w hO2 hs
   obtain ⟨a27,l27,c27,rfl,h27⟩:=hO2.shape
   refine .z (zfa cU) ?_
   refine .o (.store hs rfl rfl Tryz.sizeOf111 fun w hs=>?_)
   refine .nil ?_
   refine nB (nT ?_)
   have e:Uses (fp ts k)++[I k,I (gi ts k)]=Uses (fp ts (k+1)):=by rw [fp,if_pos hc20,yI];rfl
   rw [e] at hO2
   exact .mk ⟨rfl,_,_,hO2,hs.sb⟩
  ·refine .skip ?_
   refine nB (nT ?_)
   have e:fp ts (k+1)=fp ts k:=by rw [fp,if_neg hc20];simp
   exact .mk ⟨rfl,vu,en,by rw [e];exact hO,hs⟩
 ·rintro fr w ⟨rfl,vu,en,hO,hs⟩
  obtain ⟨au,lu,cu,rfl,hlu⟩:=hO.shape
  refine nT ?_
  refine .ai (.y hs (zls [_,_] cE a8) ?_)
  refine .o (.aU (vs:=[_,_]) hs rfl rfl a8 fun w hs=>?_)
  refine .nil ?_
  refine .ret ?_
  obtain ⟨H1,g1,g2,hs⟩:=cn.cK (cs:=(fp ts ts.length).map Use.c) hO (fun c hc=>by simp only [List.mem_map] at hc;obtain ⟨x,_,rfl⟩:=hc;rfl) aj (by rw [List.length_map];have:=mu ts ts.length;omega) hs cZ
  exact Fin.iK [] [] hs fun w hs=>⟨_,results1 Tryz.results224 (dJ (vs:=[_,_]) hs rfl cE a8),H1,g1,⟨_,rfl,g2⟩,hs.out⟩
theorem sz{v vw:Value}{s:cM}{ws:List Int}(hs:St H w σ)(hr:RSy H v s)(hrw:RI H vw ws):
  Cl Tryz.prog 167 [v,vw] w fun v w'=>∃H1 vp n us e,HLe H H1∧v= .tuple #[vp,I e]∧kR s ws n e∧RPf H1 vp n us∧(e≠0→us=[])∧(e=0→s.Ok∧bG ws s.n≤FF∧∃ts,oa s.n s.dh (mq ws s.n) ts∧n=dot s.dh ts (·.c)∧us=fp ts ts.length)∧St H1 w' σ:=by
 obtain ⟨vl,rfl,hr⟩:=hr
 refine Cl.o Tryz.func167 Tryz.ntmps167 ag2 ?_
 refine .ai ?_
 refine .bx hs fun b2 w hs=>?_
 refine .o (.alloc hs eT rfl fun b4 w hs=>?_)
 refine .z zg (.nil (.ai (.y hs (zls [_,_] aT aE) (.z zm ?_))))
 refine .o (.call Tryz.call158 rfl (kh (s:=s) hs ⟨_,rfl,hr⟩ hrw) ?_);rintro _ w ⟨H1,e,pf,hle1,rfl,hA,hs,hne,heq⟩
 refine .z zm (.z zex (.z zex (.z zg (.z zg (.nil (.seq (.ai (.z zm (.z ij ?_)))))))))
 refine .nil ?_
 refine (.eQ rfl (fun hc15=>?_) (fun hc15=>?_))
 ·refine .ai (.z (zbd [_,_] ik) (.z zm ?_))
  refine .o (.aU (vs:=[_,_]) hs rfl rfl a8 fun w hs=>?_)
  refine .z zg (.nil ?_)
  refine .ret (rT (?_))
  exact Fin.iK [] [] hs fun w hs=>⟨_,results2 Tryz.results167 (dJ (vs:=[_,_]) hs rfl cE a8) rfl,H1,_,0,[],_,hle1,rfl,⟨hA,fun _=>rfl,fun h=>(hc15 h).elim⟩,⟨_,rfl,RS.nil H1 2 none 0⟩,fun _=>rfl,fun h=>(hc15 h).elim,hs.out⟩
 ·refine .skip ?_
  refine nT ?_
  refine .ai (.z zm ?_)
  subst hc15
  obtain ⟨bf,bt,bl,cl,ts,lf,vl,sp,rfl,hF,hFo,hok,hsz⟩:=heq rfl
  refine .o (.call Tryz.call224 rfl (nS hs hok hF hFo hsz) ?_);rintro _ w ⟨H2,hle2,⟨vu,rfl,hU⟩,hs⟩
  obtain ⟨au,cu,rfl⟩:=RU.shape hU
  obtain ⟨q1,q2,q3,q4⟩:=hFo.value (by simp [cM.n]) (by have:=hok.m0;have:=hok.m1;simp only [cM.n];omega) hok.dh hsz
  refine .o (.aU (vs:=[_,_]) hs rfl rfl a8 fun w hs=>?_)
  refine .z zg (.nil ?_)
  refine .ret ?_
  exact Fin.iK [] [] hs fun w hs=>⟨_,results2 Tryz.results167 (dJ (vs:=[_,_]) hs rfl cE a8) rfl,H2,_,_,_,_,hle1.trans hle2,rfl,⟨hA,fun h=>(h rfl).elim,fun _=>⟨q1,q3,q4⟩⟩,⟨_,rfl,hU⟩,fun h=>(h rfl).elim,fun _=>⟨hok,hsz,ts,hFo,rfl,rfl⟩,hs.out⟩
theorem Cu{n m:Int}(hm:0<m):(n.tmod m+m).tmod m=n%m:=by
 have h2:=Int.lt_tmod_of_pos n hm
 rw [Int.tmod_eq_emod_of_nonneg aj,Int.tmod_def,show n - m*n.tdiv m+m=n+m*(1 - n.tdiv m) by rw [Int.mul_sub];omega,Int.add_mul_emod_self_left]
theorem tw{v:Value}{l:List Int}{i n:Int}(hs:St H w σ)(hr:RI H v l)(hi:0≤i)(hn:n≤4611686018427387904):Cl Tryz.prog 264 [v,I i,I n] w fun v w'=>v=I (qg l i n)∧St H w' σ:=by
 obtain ⟨a,c,rfl⟩:=RI.shape hr
 have hlen:=(RI.len hr).2.2
 refine Cl.o Tryz.func264 Tryz.ntmps264 ag3 ?_
 refine .ai (.z zg (.nil (.seq (.ai (.z zm (.z (c9 aa) (.z gC (.z zm ?_))))))))
 refine .iB (t':=10) rfl (fun hb10=>?_) (fun hb10=>?_)
 ·refine .gFs 2 3 false rfl rfl rfl ?_
  refine .z zpT (.nil ?_)
  refine (.cT ?_)
  refine .ai (.z zg (.nil ?_))
  refine .ret (rT (Fin.bJ Tryz.results264 rfl ?_))
  exact ⟨by rw [show qg l i n=0 by unfold qg;rw [if_pos (.inl (List.length_eq_zero_iff.1 aj))]],hs⟩
 ·refine .gT rfl rfl ?_
  refine .z zm ?_
  refine .gT rfl rfl ?_
  refine .z gx (.z zpF (.nil ?_))
  refine (.bM rfl (fun hc13=>?_) (fun hc13=>?_))
  ·refine .ai (.z zg (.nil ?_))
   refine .ret (rT (Fin.bJ Tryz.results264 rfl ?_))
   exact ⟨by rw [show qg l i n=0 by unfold qg;rw [if_pos (.inr aj)]],hs⟩
  ·refine .skip ?_
   refine nT ?_
   refine .ai (.z zm (.z zm (.z zm (.z (c9 aa) ?_))))
   have hl0:0<l.length:=by omega
   have h1:=Int.tmod_nonneg (a:=i) (l.length:Int) hi
   have h2:=Int.tmod_lt_of_pos i (b:=(l.length:Int)) aj
   have hx:=bL (l:=l) (i:=(i.tmod (l.length:Int)).toNat) aj
   have h3:=Int.tmod_lt_of_pos (gi l (i.tmod (l.length:Int)).toNat) (b:=n) aj
   have h4:=Int.lt_tmod_of_pos (gi l (i.tmod (l.length:Int)).toNat) (b:=n) aj
   have e:=Cu (n:=gi l (i.tmod (l.length:Int)).toNat) (m:=n) aj
   refine .z B6 ?_
   refine .ixY hs hr rfl rfl aa af hx aj ?_;intro b19 o19 hc19
   refine .q hs (aK rfl ae hc19) ?_
   refine .z zm (.z B6 (.z zm (.z cq (.z zm (.z B6 (.z zg (.nil ?_)))))))
   refine .ret (Fin.bJ Tryz.results264 rfl ?_)
   exact ⟨by unfold qg;rw [if_neg (fun h=>h.elim (fun h=>by rw [h] at hl0;exact Nat.lt_irrefl _ hl0) (fun h=>by omega)),←e],hs⟩
def vH(i j:Nat):Int:=if i=j then 0 else free
theorem DQ{n:Nat}(es:List Arc){T:Nat→Nat→Int}(h:∀i j,i<n→j<n→T i j=vH i j):ED n es 0 T:=
 ⟨fun i hi=>by rw [h i i hi hi];simp [vH],fun _ _ h=>by omega,fun i j hi hj hij=> .inl (by rw [h i j hi hj];simp [vH,hij])⟩
set_option maxHeartbeats 4000000 in
theorem nz{v:Value}{s:cM}(hs:St H w σ)(hr:RSy H v s)(hok:s.Ok):
  Cl Tryz.prog 226 [v] w fun u w'=>∃H1 rs,HLe H H1∧RT H1 u rs∧Sq s.n rs∧iR s.n s.dh (gt rs)∧St H1 w' σ:=by
 obtain ⟨ul,rfl,hl⟩:=hr
 obtain ⟨al,cl,rfl⟩:=RL.shape hl
 have hm0:=hok.m0
 have hm1:=hok.m1
 have hlen:=hok.len
 have hnp:=s.tF
 have hn65:=hok.n65
 have hinn:=hok.inn
 have hmn:s.many+1=(s.n:Int):=by simp only [cM.n];omega
 generalize hn:s.n=n at hnp hn65 hinn hmn ⊢
 refine Cl.o Tryz.func226 Tryz.ntmps226 ag1 ?_
 refine .ai ?_
 refine .bx hs fun b1 w hs=>?_
 refine .z zg (.nil (.ai (.z (zfa bH) ?_)))
 first|refine .q hs (dS rfl ae (hm:=by repeat (first|exact .here|assumption|exact Mem.row aj aj|refine .there ?_|refine Mem.jC ?_)) (hv:=by first|rfl|exact dc aj|exact fP cD aj aj|exact eY fo)) ?_|refine .q hs (aK rfl ae cD) ?_
 refine .z cq ?_
 rw [hmn]
 refine .z zg (.nil (.ai (.z zm ?_)))
 refine .o (.Eh n hs rfl rfl aq Tryz.typeInfo22 rfl aC ek aj fun b16 w hs=>?_)
 refine .z zg (.nil (.seq (.ai (.z zm (.z (c9 aq) (.z zm (.nil ?_)))))))
 refine .for (N:=n) (J:=fun k fr w=>fr=[(3,I (n:Int)),(4,.slice (some ⟨b16,0,none⟩) n n),(1,.pointer (some ⟨b1,0,none⟩))]∧∃bs:List Nat,bs.length=k∧St H w (.blk b16 (bs.map (ptr n)++List.replicate (n - k) (.slice none 0 0))::(jb bs (ye vH n k)++(.blk b1 [I s.many,.slice al s.cO.length cl]::σ)))) aj ?_ ?_ ?_
 ·exact .mk ⟨rfl,[],rfl,hs⟩
 ·rintro k fr w hk ⟨rfl,bs,hbl,hs⟩
  refine .block (.ai (.z zm (.z zg (.nil (.ai (.z zm (.z zm (.z zm ?_))))))))
  refine .o (.oE n hs rfl rfl aa dC rfl af bI aj fun b25 w hs=>?_)
  first|(refine .ixw hs aq aC ?_;intro b26 o26 hc26)|refine .z (zix aq aC) ?_
  refine .o (.store hs rfl rfl aC ?_ cZ (by simp [hbl];omega) (A2 hbl hk));intro w hs
  refine .nil (.ai (.z zm (.z zm ?_)))
  first|(refine .ixw hs aq aC ?_;intro b29 o29 hc29)|refine .z (zix aq aC) ?_
  refine .q hs (dS rfl ak (hv:=y5 hbl)) ?_
  refine .z (c9 aa) (.z zm (.nil ?_))
  refine .for (N:=n) (J:=fun j fr w=>fr=[(5,I (k:Int)),(19,I (k:Int)),(18,I (n:Int)),(3,I (n:Int)),(4,.slice (some ⟨b16,0,none⟩) n n),(1,.pointer (some ⟨b1,0,none⟩))]∧St H w (.blk b25 (Is ((List.range n).map fun c=>if c<j∧k≠c then free else 0)):: .blk b16 ((bs++[b25]).map (ptr n)++List.replicate (n - (k+1)) (.slice none 0 0))::(jb bs (ye vH n k)++(.blk b1 [I s.many,.slice al s.cO.length cl]::σ)))) aj ?_ ?_ ?_
  ·rw [tA (fun c=>if c<0∧k≠c then free else 0) n 0 (fun j _=>by simp)] at hs
   exact .mk ⟨rfl,hs⟩
  ·rintro j fr w hj ⟨rfl,hs⟩
   refine .block (.ai (.z zm (.z zg (.nil (.ai (.z zm (.z zm (.z ij (.nil ?_)))))))))
   refine (.eQ rfl (fun hc37=>?_) (fun hc37=>?_))
   ·refine .region (.z zm (.z zm ?_))
    first|(refine .ixw hs aq aC ?_;intro b40 o40 hc40)|refine .z (zix aq aC) ?_
    refine .q hs (dS rfl ak (hv:=y5 hbl)) ?_
    refine .z zm ?_
    first|(refine .ixv hs aa af ?_;intro b43 o43 hc43)|refine .z (zix aa af) ?_
    refine .o (.store hs rfl rfl af ?_ cZ (ub (by simp;omega)) (mS _ _ _));intro w hs
    refine .nil ?_
    refine nB (nT ?_)
    rw [AV _ (fun c=>if c<j+1∧k≠c then free else 0) hj 1000000000 (fun c _=>by
     by_cases e:c=j
     ·subst e;rw [if_pos rfl,if_pos ⟨aj,aj⟩]
     ·rw [if_neg e];congr 1;apply propext;omega)] at hs
    exact .mk ⟨rfl,hs⟩
   ·refine .skip ?_
    refine nB (nT ?_)
    rw [tB (g:=fun c=>if c<j+1∧k≠c then free else 0) (fun c _=>by
     by_cases e:c=j
     ·subst e;rw [if_neg aj,if_neg aj]
     ·congr 1;apply propext;omega)] at hs
    exact .mk ⟨rfl,hs⟩
  ·rintro fr w ⟨rfl,hs⟩
   rw [tB (g:=vH k) (fun c hc=>by
    unfold vH
    by_cases e:k=c
    ·rw [if_neg aj,if_pos e]
    ·rw [if_pos ⟨hc,e⟩,if_neg e])] at hs
   replace hs:=hs.EY (by rw [hbl,tc])
   rw [←w6] at hs
   refine nB (nT ?_)
   exact .mk ⟨rfl,bs++[b25],by simp [hbl],hs⟩
 ·rintro fr w ⟨rfl,bs,hbl,hs⟩
  rw [Nat.sub_self,List.replicate_zero,List.append_nil] at hs
  refine nT ?_
  refine .seq (.ai (.z (zfa bO) ?_))
  first|refine .q hs (dS rfl cH (hm:=by repeat (first|exact .here|assumption|exact Mem.row aj aj|refine .there ?_|refine Mem.jC ?_)) (hv:=by first|rfl|exact dc aj|exact fP cD aj aj|exact eY fo)) ?_|refine .q hs (aK rfl cH cD) ?_
  refine .z (c9 aP) (.z zm (.nil ?_))
  refine .for (N:=s.cO.length) (J:=fun k fr w=>fr=[(47,.slice al s.cO.length cl),(4,.slice (some ⟨b16,0,none⟩) n n)]∧∃rs,Sq n rs∧ED n s.dh k (gt rs)∧St H w (.blk b16 (bs.map (ptr n))::(jb bs rs++(.blk b1 [I s.many,.slice al s.cO.length cl]::σ)))) aj ?_ ?_ ?_
  ·exact .mk ⟨rfl,_,AH vH n,DQ s.dh (fun i j hi hj=>yd vH hi hj),hs⟩
  ·rintro k fr w hk ⟨rfl,rs,hq,hB,hs⟩
   obtain ⟨x,hx⟩:=nth (l:=s.cO) hk
   have hrl:=hq.1
   obtain ⟨⟨xa0,xa1⟩,⟨xb0,xb1⟩,xne,xM,-⟩:=hok.lim x (List.mem_of_getElem? hx)
   have ha:x.A.toNat<n:=by omega
   have hb:x.B.toNat<n:=by omega
   have hga:=jI hx
   refine .block (.ai ?_)
   refine .ixX (enc:=Lim.c) hs hl rfl rfl aP bq hx rfl ?_;intro b51 o51 hc51
   refine .q hs (cI (vs:=x.c) rfl fF bq hc51) ?_
   refine .o (.alloc hs ez rfl fun b8 w hs=>?_)
   refine .o (.aU (vs:=x.c) hs rfl rfl bq fun w hs=>?_)
   refine .nil ?_
   refine .draw mix rfl hs fun w hs=>?_
   refine .z 0 rfl zm ?_;refine .z 1 rfl (zfa eA) ?_
   first|refine .load (i:=2) hs rfl an .none rfl ae ?_ (by repeat (first|exact .here|assumption|exact Mem.row aj aj|refine .there ?_|refine Mem.jC ?_)) (by first|rfl|exact dc aj|exact fP cD aj aj|exact eY fo)|refine .r (i:=2) hs rfl an .none (aK rfl ae cD) ?_
   refine .z 3 rfl (dG (k:=x.A.toNat) rfl rfl aq aC aj ha) ?_
   first|refine .load (i:=4) hs rfl an .none rfl ak ?_ (by repeat (first|exact .here|assumption|exact Mem.row aj aj|refine .there ?_|refine Mem.jC ?_)) (by first|rfl|exact dc aj|exact fP cD aj aj|exact eY fo)|refine .r (i:=4) hs rfl an .none (aK rfl ak cD) ?_
   refine .z 5 rfl (zfa eP) ?_
   first|refine .load (i:=6) hs rfl an .none rfl ae ?_ (by repeat (first|exact .here|assumption|exact Mem.row aj aj|refine .there ?_|refine Mem.jC ?_)) (by first|rfl|exact dc aj|exact fP cD aj aj|exact eY fo)|refine .r (i:=6) hs rfl an .none (aK rfl ae cD) ?_
   refine .z 7 rfl zm ?_;refine .z 8 rfl (zfa eA) ?_
   first|refine .load (i:=9) hs rfl an .none rfl ae ?_ (by repeat (first|exact .here|assumption|exact Mem.row aj aj|refine .there ?_|refine Mem.jC ?_)) (by first|rfl|exact dc aj|exact fP cD aj aj|exact eY fo)|refine .r (i:=9) hs rfl an .none (aK rfl ae cD) ?_
   refine .z 10 rfl (dG (k:=x.A.toNat) rfl rfl aq aC aj ha) ?_
   first|refine .load (i:=11) hs rfl an .none rfl ak ?_ (by repeat (first|exact .here|assumption|exact Mem.row aj aj|refine .there ?_|refine Mem.jC ?_)) (by first|rfl|exact dc aj|exact fP cD aj aj|exact eY fo)|refine .r (i:=11) hs rfl an .none (aK rfl ak cD) ?_
   refine .z 12 rfl (zfa eP) ?_
   first|refine .load (i:=13) hs rfl an .none rfl ae ?_ (by repeat (first|exact .here|assumption|exact Mem.row aj aj|refine .there ?_|refine Mem.jC ?_)) (by first|rfl|exact dc aj|exact fP cD aj aj|exact eY fo)|refine .r (i:=13) hs rfl an .none (aK rfl ae cD) ?_
   refine .z 14 rfl (dG (k:=x.B.toNat) rfl rfl aa af aj hb) ?_
   first|refine .load (i:=15) hs rfl an .none rfl ae ?_ (by repeat (first|exact .here|assumption|exact Mem.row aj aj|refine .there ?_|refine Mem.jC ?_)) (by first|rfl|exact dc aj|exact fP cD aj aj|exact eY fo)|refine .r (i:=15) hs rfl an .none (aK rfl ae cD) ?_
   refine .z 16 rfl (zfa fV) ?_
   first|refine .load (i:=17) hs rfl an .none rfl ae ?_ (by repeat (first|exact .here|assumption|exact Mem.row aj aj|refine .there ?_|refine Mem.jC ?_)) (by first|rfl|exact dc aj|exact fP cD aj aj|exact eY fo)|refine .r (i:=17) hs rfl an .none (aK rfl ae cD) ?_
   refine .z 18 rfl As ?_
   refine .z 19 rfl (dG (k:=x.B.toNat) rfl rfl aa af aj hb) ?_
   refine .ET 20 hs ?_
   refine .store hs rfl rfl af ?_ (.there (.there (Upd.row _ aj aj))) (ub (by rw [hq.2 _ ha];exact hb)) (mS _ _ _);intro w hs
   refine .go ?_
   refine .DT hs ?_
   refine nB (nT ?_)
   exact .mk ⟨rfl,_,hq.set ha _,by rw [zh hq ha hb];exact hB.step hinn hga,hs.tail⟩
  ·rintro fr w ⟨rfl,rs,hq,hB,hs⟩
   rw [←eB] at hB
   have hI:=hB.go hinn hnp
   have hcb:∀x∈s.dh,-20000≤x.c∧x.c≤20000:=fun x hx=>by have:=hinn x hx;omega
   refine nT ?_
   refine .seq (.ai (.z zm (.z (c9 aq) (.z zm (.nil ?_)))))
   refine .for (N:=n) (J:=fun m fr w=>fr=[(4,.slice (some ⟨b16,0,none⟩) n n)]∧∃rs,Sq n rs∧(m<n→wR n s.dh m (fun _ _=>False) (gt rs))∧(m=n→iR n s.dh (gt rs))∧St H w (.blk b16 (bs.map (ptr n))::(jb bs rs++(.blk b1 [I s.many,.slice al s.cO.length cl]::σ)))) aj ?_ ?_ ?_
   ·exact .mk ⟨rfl,rs,hq,fun _=>hI,fun e=>by omega,hs⟩
   ·clear hI hB hq
    rintro m fr w hm ⟨rfl,rs,hq,hI,-,hs⟩
    replace hI:=hI hm
    refine .block (.ai (.z zm (.z zg (.nil (.ai (.z zm (.z (c9 aq) (.z zm (.nil ?_)))))))))
    refine .for (N:=n) (J:=fun i fr w=>fr=[(9,I (m:Int)),(76,I (m:Int)),(75,I (n:Int)),(4,.slice (some ⟨b16,0,none⟩) n n)]∧∃rs,Sq n rs∧wR n s.dh m (fun a _=>a<i) (gt rs)∧St H w (.blk b16 (bs.map (ptr n))::(jb bs rs++(.blk b1 [I s.many,.slice al s.cO.length cl]::σ)))) aj ?_ ?_ ?_
    ·exact .mk ⟨rfl,rs,hq,hI.skip hcb hm (P:=fun _ _=>False) (fun i j h=>by omega) (fun _ _ _ _ h=>h.elim),hs⟩
    ·clear hI hq
     rintro i fr w hi ⟨rfl,rs,hq,hI,hs⟩
     refine .block (.ai (.z zm (.z zg (.nil (.ai (.z zm (.z (c9 aq) (.z zm (.nil ?_)))))))))
     refine .for (N:=n) (J:=fun k fr w=>fr=[(10,I (i:Int)),(81,I (i:Int)),(80,I (n:Int)),(9,I (m:Int)),(76,I (m:Int)),(75,I (n:Int)),(4,.slice (some ⟨b16,0,none⟩) n n)]∧∃rs,Sq n rs∧wR n s.dh m (fun a b=>a<i∨(a=i∧b<k)) (gt rs)∧St H w (.blk b16 (bs.map (ptr n))::(jb bs rs++(.blk b1 [I s.many,.slice al s.cO.length cl]::σ)))) aj ?_ ?_ ?_
     ·exact .mk ⟨rfl,rs,hq,hI.skip hcb hm (P:=fun _ _=>False) (fun a b h=>by omega) (fun _ _ _ _ h=>h.elim),hs⟩
     ·clear hI hq
      rintro k fr w hk ⟨rfl,rs,hq,hI,hs⟩
      have hrl:=hq.1
      have c1:=hI.cl i m hi hm;have c2:=hI.cl m k hm hk
      have u1:=hI.up i m hi hm;have u2:=hI.up m k hm hk
      refine .block (.ai (.z zm (.z zg (.nil (.ai (.z zm (.z zm ?_)))))))
      first|(refine .ixw hs aq aC ?_;intro b91 o91 hc91)|refine .z (zix aq aC) ?_
      first|refine .q hs (dS rfl ak (hm:=by repeat (first|exact .here|assumption|exact Mem.row aj aj|refine .there ?_|refine Mem.jC ?_)) (hv:=by first|rfl|exact dc aj|exact fP cD aj aj|exact eY fo)) ?_|refine .q hs (aK rfl ak cD) ?_
      refine .z zm ?_
      first|(refine .ixv hs aa af ?_;intro b94 o94 hc94)|refine .z (zix aa af) ?_
      first|refine .q hs (dS rfl ae (hm:=by repeat (first|exact .here|assumption|exact Mem.row aj aj|refine .there ?_|refine Mem.jC ?_)) (hv:=by first|rfl|exact dc aj|exact fP cD aj aj|exact eY fo)) ?_|refine .q hs (aK rfl ae cD) ?_
      refine .z ij (.z zm ?_)
      refine .yF (t':=97) rfl (fun hb97=>?_) (fun hb97=>?_)
      ·refine .gT rfl rfl ?_
       refine .z zm ?_
       refine .gT rfl rfl ?_
       refine .z zm ?_
       refine .gT rfl rfl ?_
       first|(refine .ixw hs aq aC ?_;intro b100 o100 hc100)|refine .z (zix aq aC) ?_
       refine .gT rfl rfl ?_
       first|refine .q hs (dS rfl ak (hm:=by repeat (first|exact .here|assumption|exact Mem.row aj aj|refine .there ?_|refine Mem.jC ?_)) (hv:=by first|rfl|exact dc aj|exact fP cD aj aj|exact eY fo)) ?_|refine .q hs (aK rfl ak cD) ?_
       refine .gT rfl rfl ?_
       refine .z zm ?_
       refine .gT rfl rfl ?_
       first|(refine .ixv hs aa af ?_;intro b103 o103 hc103)|refine .z (zix aa af) ?_
       refine .gT rfl rfl ?_
       first|refine .q hs (dS rfl ae (hm:=by repeat (first|exact .here|assumption|exact Mem.row aj aj|refine .there ?_|refine Mem.jC ?_)) (hv:=by first|rfl|exact dc aj|exact fP cD aj aj|exact eY fo)) ?_|refine .q hs (aK rfl ae cD) ?_
       refine .gT rfl rfl ?_
       refine .z ij (.z zpT (.nil ?_))
       refine (.eQ rfl (fun hc106=>?_) (fun hc106=>?_))
       ·refine .draw mix rfl hs fun w hs=>?_
        replace u1:=u1 hb97;replace u2:=u2 hc106
        refine .z 0 rfl zm ?_;refine .z 1 rfl zm ?_
        first|(refine .ixw 2 rfl hs aq aC ?_;intro b109 o109 hc109)|refine .z 2 rfl (zix aq aC) ?_
        first|refine .load (i:=3) hs rfl an .none rfl ak ?_ (by repeat (first|exact .here|assumption|exact Mem.row aj aj|refine .there ?_|refine Mem.jC ?_)) (by first|rfl|exact dc aj|exact fP cD aj aj|exact eY fo)|refine .r (i:=3) hs rfl an .none (aK rfl ak cD) ?_
        refine .z 4 rfl zm ?_;refine .z 5 rfl zm ?_;refine .z 6 rfl zm ?_
        first|(refine .ixw 7 rfl hs aq aC ?_;intro b114 o114 hc114)|refine .z 7 rfl (zix aq aC) ?_
        first|refine .load (i:=8) hs rfl an .none rfl ak ?_ (by repeat (first|exact .here|assumption|exact Mem.row aj aj|refine .there ?_|refine Mem.jC ?_)) (by first|rfl|exact dc aj|exact fP cD aj aj|exact eY fo)|refine .r (i:=8) hs rfl an .none (aK rfl ak cD) ?_
        refine .z 9 rfl zm ?_
        first|(refine .ixv 10 rfl hs aa af ?_;intro b117 o117 hc117)|refine .z 10 rfl (zix aa af) ?_
        first|refine .load (i:=11) hs rfl an .none rfl ae ?_ (by repeat (first|exact .here|assumption|exact Mem.row aj aj|refine .there ?_|refine Mem.jC ?_)) (by first|rfl|exact dc aj|exact fP cD aj aj|exact eY fo)|refine .r (i:=11) hs rfl an .none (aK rfl ae cD) ?_
        refine .z 12 rfl zm ?_;refine .z 13 rfl zm ?_
        first|(refine .ixw 14 rfl hs aq aC ?_;intro b121 o121 hc121)|refine .z 14 rfl (zix aq aC) ?_
        first|refine .load (i:=15) hs rfl an .none rfl ak ?_ (by repeat (first|exact .here|assumption|exact Mem.row aj aj|refine .there ?_|refine Mem.jC ?_)) (by first|rfl|exact dc aj|exact fP cD aj aj|exact eY fo)|refine .r (i:=15) hs rfl an .none (aK rfl ak cD) ?_
        refine .z 16 rfl zm ?_
        first|(refine .ixv 17 rfl hs aa af ?_;intro b124 o124 hc124)|refine .z 17 rfl (zix aa af) ?_
        first|refine .load (i:=18) hs rfl an .none rfl ae ?_ (by repeat (first|exact .here|assumption|exact Mem.row aj aj|refine .there ?_|refine Mem.jC ?_)) (by first|rfl|exact dc aj|exact fP cD aj aj|exact eY fo)|refine .r (i:=18) hs rfl an .none (aK rfl ae cD) ?_
        refine .z 19 rfl zm ?_;refine .z 20 rfl zm ?_
        first|(refine .ixw 21 rfl hs aq aC ?_;intro b128 o128 hc128)|refine .z 21 rfl (zix aq aC) ?_
        first|refine .load (i:=22) hs rfl an .none rfl ak ?_ (by repeat (first|exact .here|assumption|exact Mem.row aj aj|refine .there ?_|refine Mem.jC ?_)) (by first|rfl|exact dc aj|exact fP cD aj aj|exact eY fo)|refine .r (i:=22) hs rfl an .none (aK rfl ak cD) ?_
        refine .z 23 rfl zm ?_
        first|(refine .ixv 24 rfl hs aa af ?_;intro b131 o131 hc131)|refine .z 24 rfl (zix aa af) ?_
        first|refine .load (i:=25) hs rfl an .none rfl ae ?_ (by repeat (first|exact .here|assumption|exact Mem.row aj aj|refine .there ?_|refine Mem.jC ?_)) (by first|rfl|exact dc aj|exact fP cD aj aj|exact eY fo)|refine .r (i:=25) hs rfl an .none (aK rfl ae cD) ?_
        refine .z 26 rfl cq ?_;refine .z 27 rfl As ?_;refine .z 28 rfl DM ?_
        first|(refine .ixv 29 rfl hs aa af ?_;intro b136 o136 hc136)|refine .z 29 rfl (zix aa af) ?_
        refine .ET 30 hs ?_
        refine .store hs rfl rfl af ?_ (.there (Upd.row _ aj aj)) (ub (by rw [hq.2 _ hi];exact hk)) (mS _ _ _);intro w hs
        refine .go ?_
        refine .DT hs ?_
        refine nB (nT ?_)
        exact .mk ⟨rfl,_,hq.set hi _,by rw [zh hq hi hk];exact hI.step hcb hm hi hk (fun a b h=>by omega) hb97 hc106,hs⟩
       ·refine .skip ?_
        refine nB (nT ?_)
        exact .mk ⟨rfl,rs,hq,hI.skip hcb hm (P:=fun a b=>a=i∧b=k) (fun a b h=>by omega) (fun a b _ _ h=>by obtain ⟨rfl,rfl⟩:=h;exact .inr hc106),hs⟩
      ·refine .gFs 8 8 true rfl rfl rfl ?_
       refine .z zpF (.nil ?_)
       refine (.cF ?_)
       refine .skip ?_
       refine nB (nT ?_)
       exact .mk ⟨rfl,rs,hq,hI.skip hcb hm (P:=fun a b=>a=i∧b=k) (fun a b h=>by omega) (fun a b _ _ h=>by obtain ⟨rfl,rfl⟩:=h;exact .inl hb97),hs⟩
     ·rintro fr w ⟨rfl,rs,hq,hI,hs⟩
      refine nB (nT ?_)
      exact .mk ⟨rfl,rs,hq,hI.skip hcb hm (P:=fun a b=>a=i∧n≤b) (fun a b h=>by omega) (fun a b _ hb h=>by omega),hs⟩
    ·rintro fr w ⟨rfl,rs,hq,hI,hs⟩
     replace hI:wR n s.dh m (fun _ _=>True) (gt rs):=hI.skip hcb hm (P:=fun a _=>n≤a) (fun a b h=>by omega) (fun a b ha _ h=>by omega)
     refine nB (nT ?_)
     exact .mk ⟨rfl,rs,hq,fun h=>hI.next hcb h hn65,fun h=>hI.done hcb h.symm hn65,hs⟩
   ·rintro fr w ⟨rfl,rs,hq,-,hT,hs⟩
    replace hT:=hT rfl
    refine nT ?_
    refine .ai (.z zm (.z zg (.nil ?_)))
    refine .ret (Fin.bJ Tryz.results226 rfl ?_)
    obtain ⟨H1,g1,g2,hs⟩:=vO hq hbl aj hs
    exact ⟨H1,rs,g1,g2,hq,hT,hs.tail⟩
theorem mL{vm:Value}{rs:List (List Int)}{n:Nat}(hs:St H w σ)(hM:RT H vm rs)(hq:Sq n rs)(hn:n≤1000):
  Cl Tryz.prog 233 [vm] w fun v w'=>∃b,v= .bool b∧(b=true↔∀i,i<n→¬gt rs i i<0)∧St H w' σ:=by
 obtain ⟨a,c,rfl⟩:=hM.shape
 have hrl:=hq.1
 refine Cl.o Tryz.func233 Tryz.ntmps233 ag1 ?_
 refine .ai (.z zg (.nil (.seq (.ai (.z zm (.z (c9 aq) (.z zm (.nil ?_))))))))
 refine .for (N:=rs.length) (J:=fun k fr w=>fr=[(0,.slice a rs.length c)]∧(∀i,i<k→¬gt rs i i<0)∧St H w σ) aj ?_ ?_ ?_
 ·exact .mk ⟨rfl,fun i h=>by omega,hs⟩
 ·rintro k fr w hk ⟨rfl,h0,hs⟩
  refine .block (.ai (.z zm (.z zg (.nil (.ai (.z zm (.z zm ?_)))))))
  refine .ixT hs hM rfl rfl aq aC hk rfl ?_;intro b11 o11 a11 c11 hc11 hR11
  refine .q hs (aK rfl ak hc11) ?_
  refine .z zm ?_
  refine .ixY hs hR11 rfl rfl aa af (bL (l:=gr rs k) (i:=k) (by rw [hq.2 k aj];omega)) rfl ?_;intro b14 o14 hc14
  refine .q hs (aK rfl ae hc14) ?_
  refine .z gx (.nil ?_)
  refine (.bM rfl (fun hc16=>?_) (fun hc16=>?_))
  ·refine .ai (.z zg (.nil ?_))
   refine .ret (rB (rT (rB (rT (Fin.bJ Tryz.results233 rfl ?_)))))
   exact ⟨false,rfl,⟨fun h=>(by cases h),fun h=>(h k aj hc16).elim⟩,hs⟩
  ·refine .skip ?_
   refine nB (nT ?_)
   exact .mk ⟨rfl,fun i hi=>by
    by_cases e:i=k
    ·subst e;exact hc16
    ·exact h0 i aj,hs⟩
 ·rintro fr w ⟨rfl,h0,hs⟩
  refine nT ?_
  refine .ai (.z zg (.nil ?_))
  refine .ret (Fin.bJ Tryz.results233 rfl ?_)
  exact ⟨true,rfl,⟨fun _ i hi=>h0 i aj,fun _=>rfl⟩,hs⟩
theorem qb{v:Value}{ws:List Int}{n:Nat}(hs:St H w σ)(hr:RI H v ws)(hl:ws.length=n+1)(hn:n≤1000)(hz:bG ws (n+1)≤FF):
  Cl Tryz.prog 291 [v] w fun u w'=>∃b cap sp lf,u= .slice (some ⟨b,0,none⟩) (n+1) cap∧lf.length=n+1∧(∀v<n+1,gi lf v=mq ws (n+1) v)∧St H w' (.blk b (Is lf++sp)::σ):=by
 obtain ⟨a,c,rfl⟩:=RI.shape hr
 have hFF:FF=3600000000000:=rfl
 refine Cl.o Tryz.func291 Tryz.ntmps291 ag1 ?_
 refine .ai (.z zg (.nil (.ai ?_)))
 refine .o (.buildSlice (cells:=[]) hs nV rfl rfl fun b6 w hs=>?_)
 refine .z zm ?_
 refine .o (.append (xs:=[]) hs cV rfl rfl (.full (len:=0) rfl) (.ints hr) (jK ws) (fun l' h=>by simp at h;obtain rfl:l'=0:=aj;omega) ?_);intro v8 en8 w hO hs
 rw [List.nil_append] at hO
 rcases hO with ⟨_,_,h0,_⟩|⟨b8,l8,c8,sp,rfl,rfl,h5,h6,h7⟩
 ·exfalso
  have h1:ws.length=0:=by simpa using congrArg List.length h0
  omega
 obtain rfl:l8=n+1:=by simp at h5;omega
 refine .z zg (.nil (.ai (.z zm ?_)))
 refine .q hs (dG (k:=0) rfl rfl aa af rfl aj) ?_
 refine .o (.store hs rfl rfl af ?_ cZ (by simp;omega) (yU aj 0 sp));intro w hs
 refine .nil (.seq (.ai (.z zm ?_)))
 refine .q hs (nD (k:=1) rfl rfl aa af rfl aj) ?_
 have hT:=RI.tail hr (k:=1) aj
 have hTl:(ws.drop 1).length=n:=by rw [List.length_drop];omega
 refine .z (c9 aa) (.z zm (.nil ?_))
 refine .for (N:=n) (J:=fun k fr w=>fr=[(12,.slice (if c=1 then a else a.map (·.add (1*1))) (ws.length - 1) (c - 1)),(3,.slice (some ⟨b8,0,none⟩) (n+1) c8)]∧∃lf,(lf.length=n+1∧gi lf 0= -kn ws k∧∀v,0<v→gi lf v=gi ws v)∧St H w (.blk b8 (Is lf++sp)::σ)) aj ?_ ?_ ?_
 ·exact .mk ⟨rfl,_,⟨by simp [hl],by rw [eu aj,if_pos rfl];rfl,fun v hv=>by rw [eu aj,if_neg aj]⟩,hs⟩ (hs:= .cj rfl rfl (.cj rfl aj aR))
 ·rintro k fr w hk ⟨rfl,lf,⟨h8,h9,h10⟩,hs⟩
  have hx:=bL (l:=ws.drop 1) (i:=k) aj
  have e1:gi (ws.drop 1) k=gi ws (k+1):=by simp [gi,List.getD]
  have hb1:=rf ws k
  have hb2:=iJ ws (v:=k+1) (n:=n+1) aj
  have hb3:=lQ (f:=fun v=>max (gi ws v) (-gi ws v)) (fun v=>by omega) (k:=k+1) (n:=n+1) aj
  change bG ws (k+1)≤bG ws (n+1) at hb3
  refine .block (.ai ?_)
  refine .ixY hs hT rfl rfl aa af hx rfl ?_;intro b16 o16 hc16
  refine .q hs (aK rfl ae hc16) ?_
  rw [e1]
  refine .z zg (.nil (.region (.z zm ?_)))
  refine .q hs (dG (k:=0) rfl rfl aa af rfl aj) ?_
  refine .q hs (dS rfl ae (hv:=nZ (bL (l:=lf) (i:=0) aj) sp)) ?_
  refine .z zm (.z gW ?_)
  refine .q hs (dG (k:=0) rfl rfl aa af rfl aj) ?_
  refine .o (.store hs rfl rfl af ?_ cZ (by simp;omega) (yU aj _ sp));intro w hs
  refine .nil ?_
  refine nB (nT ?_)
  exact .mk ⟨rfl,_,⟨by simp [h8],by rw [eu aj,if_pos rfl,h9];simp only [kn,aV];omega,fun v hv=>by rw [eu aj,if_neg aj];exact h10 v hv⟩,hs⟩
 ·rintro fr w ⟨rfl,lf,⟨h8,h9,h10⟩,hs⟩
  refine nT ?_
  refine .ai (.z zm (.z zg (.nil ?_)))
  refine .ret (Fin.bJ Tryz.results291 rfl ?_)
  exact ⟨b8,c8,sp,lf,rfl,h8,fun v hv=>by
   cases v with
   |zero=>rw [h9,vE]
   |succ v=>rw [h10 _ aj,vF],hs⟩
theorem tu{vm:Value}{Ms Fs:List (List Int)}{n bF:Nat}{bs:List Nat}(hs:St H w σ)(hM:RT H vm Ms)(hqM:Sq n Ms)(hn:n≤1000)(hF0:Mem σ (.blk bF (bs.map (ptr n))))(hbl:bs.length=n)(hqF:Sq n Fs)(hF:∀i,i<n→Mem σ (.blk (gb bs i) (Is (gr Fs i)))):
  Cl Tryz.prog 293 [vm,.slice (some ⟨bF,0,none⟩) n n] w fun v w'=>v=I (IntKind.i64.wrap (aV (fun a=>aV (fun b=>cell (gt Ms) (gt Fs) a b) n) n))∧St H w' σ:=by
 obtain ⟨am,cm,rfl⟩:=hM.shape
 have hml:=hqM.1
 have hfl:=hqF.1
 refine Cl.o Tryz.func293 Tryz.ntmps293 ag2 ?_
 refine .ai (.z zg (.nil (.ai (.z zg (.nil (.seq (.ai (.z zm (.z (c9 aq) ?_)))))))))
 refine .z zm (.nil ?_)
 refine .for (N:=n) (J:=fun k fr w=>fr=[(5,I (IntKind.i64.wrap (aV (fun a=>aV (fun b=>cell (gt Ms) (gt Fs) a b) n) k))),(0,.slice am Ms.length cm),(1,.slice (some ⟨bF,0,none⟩) n n)]∧St H w σ) aj ?_ ?_ ?_
 ·exact .mk ⟨rfl,hs⟩ (hs:= .cj rfl rfl (.cj rfl aj (.cj rfl (by simp [aV,mb]) aR)))
 ·rintro i fr w hi ⟨rfl,hs⟩
  have hMi:i<Ms.length:=by omega
  refine .block (.ai (.z zm (.z zg (.nil (.ai (.z zm (.z (c9 aq) (.z zm (.nil ?_)))))))))
  refine .for (N:=n) (J:=fun k fr w=>fr=[(5,I (IntKind.i64.wrap (aV (fun a=>aV (fun b=>cell (gt Ms) (gt Fs) a b) n) i+aV (fun b=>cell (gt Ms) (gt Fs) i b) k))),(6,I (i:Int)),(10,I (i:Int)),(9,I (n:Int)),(0,.slice am Ms.length cm),(1,.slice (some ⟨bF,0,none⟩) n n)]∧St H w σ) aj ?_ ?_ ?_
  ·exact .mk ⟨rfl,hs⟩ (hs:= .cj rfl rfl (.cj rfl aj (.cj rfl (by simp [aV]) aR)))
  ·rintro k fr w hk ⟨rfl,hs⟩
   have hrM:(gr Ms i).length=n:=hqM.2 i hi
   have hFi:=hF i hi
   have hgi:∀z,0<gt Fs i k→z=gt Fs i k*gt Ms i k→z=cell (gt Ms) (gt Fs) i k:=fun z h e=>by unfold cell;rw [if_pos h,e]
   refine .block (.ai (.z zm (.z zg (.nil (.ai (.z zm (.z zm ?_)))))))
   refine .q hs (dG (k:=i) rfl rfl aq aC rfl hi) ?_
   refine .q hs (dS rfl ak (hm:=hF0) (hv:=dc aj)) ?_
   refine .z zm ?_
   refine .q hs (dG (k:=k) rfl rfl aa af rfl hk) ?_
   refine .q hs (dS rfl ae (hm:=hF i hi) (hv:=fP hqF hi hk)) ?_
   refine .z kD (.nil ?_)
   refine (.bM rfl (fun hc25=>?_) (fun hc25=>?_))
   ·refine .draw mix rfl hs fun w hs=>?_
    refine .z 0 rfl zm ?_;refine .z 1 rfl zm ?_;refine .z 2 rfl zm ?_
    refine .z 3 rfl (dG (k:=i) rfl rfl aq aC rfl hi) ?_
    refine .load (i:=4) hs rfl an .none rfl ak ?_ hF0 (dc aj)
    refine .z 5 rfl zm ?_
    refine .z 6 rfl (dG (k:=k) rfl rfl aa af rfl hk) ?_
    refine .load (i:=7) hs rfl an .none rfl ae ?_ (hF i hi) (fP hqF hi hk)
    refine .z 8 rfl zm ?_;refine .z 9 rfl zm ?_
    refine .ixT (i:=10) hs rfl an .none hM rfl rfl aq aC hMi rfl ?_;intro b36 o36 a36 c36 hc36 hR36
    refine .r (i:=11) hs rfl an .none (aK rfl ak hc36) ?_
    refine .z 12 rfl zm ?_
    refine .ixX (enc:=fun x=>[I x]) (i:=13) hs rfl an .none hR36 rfl rfl aa af (bL (l:=gr Ms i) (i:=k) aj) rfl ?_;intro b39 o39 hc39;replace hc39:=bB.one hc39
    refine .r (i:=14) hs rfl an .none (aK rfl ae hc39) ?_
    refine .z 15 rfl (CB rfl rfl) ?_
    refine .z 16 rfl (z6 rfl rfl) ?_
    refine .z 17 rfl zg ?_
    refine .DT hs ?_
    refine nB (nT ?_)
    exact .mk ⟨rfl,hs⟩ (hs:= .cj rfl aj (.cj rfl rfl (.cj rfl (by
     rw [xr,pE,show gt Fs i k*gi (gr Ms i) k=cell (gt Ms) (gt Fs) i k from hgi _ hc25 rfl]
     simp only [aV]
     congr 1;omega) aR)))
   ·refine .skip ?_
    refine nB (nT ?_)
    exact .mk ⟨rfl,hs⟩ (hs:= .cj rfl aj (.cj rfl rfl (.cj rfl (by
     have:cell (gt Ms) (gt Fs) i k=0:=by unfold cell;rw [if_neg hc25]
     simp only [aV,this]
     congr 1;omega) aR)))
  ·rintro fr w ⟨rfl,hs⟩
   refine nB (nT ?_)
   exact .mk ⟨rfl,hs⟩ (hs:= .cj rfl aj (.cj rfl rfl (.cj rfl (by simp only [aV]) aR)))
 ·rintro fr w ⟨rfl,hs⟩
  refine nT ?_
  refine .ai (.z zm (.z zg (.nil ?_)))
  refine .ret (Fin.bJ Tryz.results293 rfl ?_)
  exact ⟨rfl,hs⟩
set_option maxHeartbeats 8000000 in
theorem sv{vm:Value}{Ms Fs:List (List Int)}{n bF bN capN:Nat}{bs:List Nat}{spN:List Value}{need ts:List Int}{es:List Arc}{D:Nat→Int}(hs:St H w σ)(hM:RT H vm Ms)(hqM:Sq n Ms)
  (hF0:Mem σ (.blk bF (bs.map (ptr n)))) (hbl:bs.length=n) (hqF:Sq n Fs) (hF:∀i,i<n→Mem σ (.blk (gb bs i) (Is (gr Fs i)))) (hN:Mem σ (.blk bN (Is need++spN))) (hNl:need.length=n)
  (hT:Tab n (gt Ms) es) (hC:uv n es ts (gt Fs)) (hg:VG n (de es ts) D):
  Cl Tryz.prog 292 [vm,.slice (some ⟨bF,0,none⟩) n n,.slice (some ⟨bN,0,none⟩) n capN] w fun u w'=>∃H1 vd vb s,HLe H H1∧u= .tuple #[vd,vb]∧RI H1 vd s.cost∧RS H1 2 vb (s.by_.map (lR es))∧kP n (de es ts) (fun v=>gi need v<0) D (fun _=>True) false s∧St H1 w' σ:=by
 obtain ⟨am,cm,rfl⟩:=hM.shape
 obtain rfl:n=Ms.length:=hqM.1.symm
 have hfl:=hqF.1
 have hn0:=hg.n0
 have hfree:free=1000000000:=rfl
 have hn65:=hg.n1
 have hD0:=hg.d0
 have hD1:=hg.d1
 have harc:∀x∈es,-1400000≤x.c∧x.c≤1400000:=fun x hx=>by have:=hg.ok x ((lU hT hC).2 (.inl hx));omega
 refine Cl.o Tryz.func292 Tryz.ntmps292 ag3 ?_
 refine .ai (.z zg (.z zg (.nil (.ai (.z zm (.z (c9 aq) ?_))))))
 refine .o (.oE Ms.length hs rfl rfl aa dC rfl af bI aj fun b16 w hs=>?_)
 refine .z zg (.nil (.ai (.z zm (.z (c9 aq) ?_))))
 refine .o (.Ge Ms.length hs rfl rfl dr Tryz.typeInfo315 rfl dd Gw aj fun b19 w hs=>?_)
 refine .z zg (.nil (.seq (.ai (.z zm (.z (c9 aa) (.z zm (.nil ?_)))))))
 refine .for (N:=Ms.length) (J:=fun k fr w=>fr=[(8,.slice (some ⟨b16,0,none⟩) Ms.length Ms.length),(9,.slice (some ⟨b19,0,none⟩) Ms.length Ms.length),(0,.slice am Ms.length cm),(1,.slice (some ⟨bF,0,none⟩) Ms.length Ms.length),(2,.slice (some ⟨bN,0,none⟩) Ms.length capN)]∧∃C,(C.length=Ms.length∧∀v<k,gi C v=if gi need v<0 then 0 else free)∧St H w (.blk b19 (List.replicate k [I (-1),Value.bool false]++List.replicate (Ms.length - k) [I 0,Value.bool false]).flatten:: .blk b16 (Is C)::σ)) aj ?_ ?_ ?_
 ·exact .mk ⟨rfl,_,⟨bV,fun v hv=>by omega⟩,hs⟩
 ·rintro k fr w hk ⟨rfl,C,⟨hC1,hC2⟩,hs⟩
  have hstp:=Ct Ms.length hk [I (-1),Value.bool false] rfl [I 0,Value.bool false] rfl
  refine .block (.ai (.z zm (.z zg (.nil (.ai (.z zm (.z zm ?_)))))))
  first|(refine .ixv hs aa af ?_;intro b27 o27 hc27)|refine .z (zix aa af) ?_
  refine .o (.store hs rfl rfl af fun w hs=>?_)
  refine .nil (.ai (.z zm (.z zm (.z (zbd [_,_] ig) ?_))))
  first|(refine .ixw hs dr dd ?_;intro b31 o31 hc31)|refine .z (ni dr dd) ?_
  refine .o (.aU (vs:=[I (-1),Value.bool false]) hs rfl rfl dd ?_ cZ (by simp;omega) hstp);intro w hs
  refine .nil (.ai (.z zm (.z zm ?_)))
  first|(refine .ixv hs aa af ?_;intro b34 o34 hc34)|refine .z (zix aa af) ?_
  refine .q hs (dS rfl ae (hm:= .there (.there hN)) (hv:=nZ (bL (l:=need) (i:=k) aj) spN)) ?_
  refine .z gx (.nil ?_)
  refine (.bM rfl (fun hc36=>?_) (fun hc36=>?_))
  ·refine .region (.z zm (.z zm ?_))
   first|(refine .ixv hs aa af ?_;intro b39 o39 hc39)|refine .z (zix aa af) ?_
   refine .o (.store hs rfl rfl af ?_ cZ (ub (by rw [List.length_set];omega)) (mS _ _ _));intro w hs
   refine .nil ?_
   refine nB (nT ?_)
   exact .mk ⟨rfl,_,⟨by simp [hC1],fun v hv=>by
    rw [eu (by rw [List.length_set];omega)]
    by_cases e:v=k
    ·subst e;rw [if_pos rfl,if_pos hc36]
    ·rw [if_neg e,eu aj,if_neg e];exact hC2 v aj⟩,hs⟩
  ·refine .skip ?_
   refine nB (nT ?_)
   exact .mk ⟨rfl,_,⟨by simp [hC1],fun v hv=>by
    rw [eu aj]
    by_cases e:v=k
    ·subst e;rw [if_pos rfl,if_neg hc36]
    ·rw [if_neg e];exact hC2 v aj⟩,hs⟩
 ·rintro fr w ⟨rfl,C,⟨hC1,hC2⟩,hs⟩
  rw [Nat.sub_self,List.replicate_zero,List.append_nil,Ap es] at hs
  have hI:De Ms.length need Ms.length ⟨C,List.replicate Ms.length ⟨0,0,0,-1⟩⟩:=⟨hC1,bV,hC2,fun v hv=>iU _ _ hv⟩
  have hV0:=hI.inv (Dn:=fun _=>True) hg
  refine nT ?_
  refine .seq (.ai (.z zg (.nil (.block ?_))))
  refine .loop (fun p:Bool×BS=>⟨160,[],[(11,.bool p.1),(8,.slice (some ⟨b16,0,none⟩) Ms.length Ms.length),(9,.slice (some ⟨b19,0,none⟩) Ms.length Ms.length),(0,.slice am Ms.length cm),(1,.slice (some ⟨bF,0,none⟩) Ms.length Ms.length),(2,.slice (some ⟨bN,0,none⟩) Ms.length capN)]⟩) (fun p w=>kP Ms.length (de es ts) (fun v=>gi need v<0) D (fun _=>True) p.1 p.2∧St H w (.blk b19 (iX es p.2.by_):: .blk b16 (Is p.2.cost)::σ)) (fun p=>2*WMv Ms.length D p.2+(if p.1 then 1 else 0)) (true,⟨C,List.replicate Ms.length ⟨0,0,0,-1⟩⟩) aR ⟨hV0,hs⟩ ?_
  rintro ⟨ag,s⟩ w ⟨hV,hs⟩
  dsimp only at hV hs ⊢
  refine .seq (.ai (.z zm (.nil ?_)))
  refine (.cond rfl (fun hc41=>?_) (fun hc41=>?_))
  ·refine .skip ?_
   refine nT ?_
   refine .block (.ai (.z zg (.nil (.ai (.z zm (.z (c9 aq) (.z zm (.nil ?_))))))))
   refine .for (N:=Ms.length) (J:=fun a fr w=>∃ag s',fr=[(11,.bool ag),(8,.slice (some ⟨b16,0,none⟩) Ms.length Ms.length),(9,.slice (some ⟨b19,0,none⟩) Ms.length Ms.length),(0,.slice am Ms.length cm),(1,.slice (some ⟨bF,0,none⟩) Ms.length Ms.length),(2,.slice (some ⟨bN,0,none⟩) Ms.length capN)]∧kP Ms.length (de es ts) (fun v=>gi need v<0) D (wS a 0) ag s'∧(WMv Ms.length D s'≤WMv Ms.length D s∧(ag=true→WMv Ms.length D s'<WMv Ms.length D s))∧St H w (.blk b19 (iX es s'.by_):: .blk b16 (Is s'.cost)::σ)) aj ?_ ?_ ?_
   ·exact .mk ⟨false,s,rfl,hV.next.zero,⟨Nat.le_refl _,fun h=>by cases h⟩,hs⟩
   ·rintro a fr w ha ⟨ag',s',rfl,hV',hW,hs⟩
    have hlc:=hV'.lc
    have htop:=hV'.top a ha
    refine .block (.ai (.z zm (.z zg (.nil (.seq (.ai (.z zm (.z zm ?_))))))))
    first|(refine .ixv hs aa af ?_;intro b49 o49 hc49)|refine .z (zix aa af) ?_
    first|refine .q hs (dS rfl ae (hm:=by repeat (first|exact .here|assumption|exact Mem.row aj aj|refine .there ?_|refine Mem.jC ?_)) (hv:=by first|rfl|exact dc aj|exact fP cD aj aj|exact eY fo)) ?_|refine .q hs (aK rfl ae cD) ?_
    refine .z gC (.nil ?_)
    refine (.bM rfl (fun hc51=>?_) (fun hc51=>?_))
    ·refine .exit ?_
     refine xT (xB (nT ?_))
     exact .mk ⟨ag',s',rfl,hV'.far hc51,hW,hs⟩
    ·refine .skip ?_
     refine nT ?_
     refine .ai (.z zm (.z (c9 aq) (.z zm (.nil ?_))))
     refine .for (N:=Ms.length) (J:=fun b fr w=>∃ag s',fr=[(11,.bool ag),(12,I (a:Int)),(44,I (a:Int)),(43,I (Ms.length:Int)),(8,.slice (some ⟨b16,0,none⟩) Ms.length Ms.length),(9,.slice (some ⟨b19,0,none⟩) Ms.length Ms.length),(0,.slice am Ms.length cm),(1,.slice (some ⟨bF,0,none⟩) Ms.length Ms.length),(2,.slice (some ⟨bN,0,none⟩) Ms.length capN)]∧kP Ms.length (de es ts) (fun v=>gi need v<0) D (wS a b) ag s'∧(WMv Ms.length D s'≤WMv Ms.length D s∧(ag=true→WMv Ms.length D s'<WMv Ms.length D s))∧gi s'.cost a<free∧St H w (.blk b19 (iX es s'.by_):: .blk b16 (Is s'.cost)::σ)) aj ?_ ?_ ?_
     ·exact .mk ⟨ag',s',rfl,hV',hW,by simp only [free];omega,hs⟩
     ·clear hV' hlc htop hW
      rintro b fr w hb ⟨ag',s',rfl,hV',hW,hfa,hs⟩
      have hlc:=hV'.lc
      have hlow:=hV'.low hg ha hfa
      have hlo:=hV'.lo a ha
      have hDa:=hD1 a ha
      have htop:=hV'.top b hb
      have hrowA:(gr Ms a).length=Ms.length:=hqM.2 a ha
      have hrowB:(gr Ms b).length=Ms.length:=hqM.2 b hb
      have hFb:=hF b hb
      refine .block (.ai (.z zm (.z zg (.nil ?_))))
      refine .cut (fun fs w=>∃ag s',j9 fs ⟨160,[],[(11,.bool ag),(13,I (b:Int)),(54,I (b:Int)),(53,I (Ms.length:Int)),(12,I (a:Int)),(44,I (a:Int)),(43,I (Ms.length:Int)),(8,.slice (some ⟨b16,0,none⟩) Ms.length Ms.length),(9,.slice (some ⟨b19,0,none⟩) Ms.length Ms.length),(0,.slice am Ms.length cm),(1,.slice (some ⟨bF,0,none⟩) Ms.length Ms.length),(2,.slice (some ⟨bN,0,none⟩) Ms.length capN)]⟩∧kP Ms.length (de es ts) (fun v=>gi need v<0) D (BO es a b) ag s'∧(WMv Ms.length D s'≤WMv Ms.length D s∧(ag=true→WMv Ms.length D s'<WMv Ms.length D s))∧gi s'.cost a<free∧St H w (.blk b19 (iX es s'.by_):: .blk b16 (Is s'.cost)::σ)) ?_ ?_
      ·refine .cut (fun fs w=>∃p,j9 fs ⟨160,[],[(88,.bool p),(11,.bool ag'),(13,I (b:Int)),(54,I (b:Int)),(53,I (Ms.length:Int)),(12,I (a:Int)),(44,I (a:Int)),(43,I (Ms.length:Int)),(8,.slice (some ⟨b16,0,none⟩) Ms.length Ms.length),(9,.slice (some ⟨b19,0,none⟩) Ms.length Ms.length),(0,.slice am Ms.length cm),(1,.slice (some ⟨bF,0,none⟩) Ms.length Ms.length),(2,.slice (some ⟨bN,0,none⟩) Ms.length capN)]⟩∧(p=true→a≠b∧gt Ms a b≠free∧gi s'.cost a+gt Ms a b<gi s'.cost b)∧(p=false→a=b∨gt Ms a b=free∨¬gi s'.cost a+gt Ms a b<gi s'.cost b)∧St H w (.blk b19 (iX es s'.by_):: .blk b16 (Is s'.cost)::σ)) ?_ ?_
       ·refine .draw mix rfl hs fun w hs=>?_
        refine .z 0 rfl zm ?_;refine .z 1 rfl zm ?_;refine .z 2 rfl ij ?_;refine .z 3 rfl zm ?_
        refine .yF (t':=60) rfl (fun hb60=>?_) (fun hb60=>?_)
        ·refine .z 4 rfl zm ?_;refine .z 5 rfl zm ?_
         refine .ixT (i:=6) hs rfl an (.some rfl rfl) hM rfl rfl aq aC ha rfl ?_;intro b63 o63 a63 c63 hc63 hR63
         refine .r (i:=7) hs rfl an (.some rfl rfl) (aK rfl ak hc63) ?_
         refine .z 8 rfl zm ?_
         refine .ixX (enc:=fun x=>[I x]) (i:=9) hs rfl an (.some rfl rfl) hR63 rfl rfl aa af (bL (l:=_) (i:=b) aj) rfl ?_;intro b66 o66 hc66;replace hc66:=bB.one hc66
         refine .r (i:=10) hs rfl an (.some rfl rfl) (aK rfl ae hc66) ?_
         refine .z 11 rfl ij ?_;refine .z 12 rfl zpT ?_;refine .z 13 rfl zm ?_
         refine .yF (t':=70) rfl (fun hb70=>?_) (fun hb70=>?_)
         ·refine .z 14 rfl zm ?_;refine .z 15 rfl zm ?_
          have hfin:gt Ms a b≠free:=hb70
          have hMb: -1400000≤gi (gr Ms a) b∧gi (gr Ms a) b≤1400000:=by
           obtain ⟨x,hx,e1,e2⟩:=hT.all a b ha hb (fun e=>hb60 (by rw [e])) hfin
           have h1:=harc x hx
           have h2:=(hT.ok x hx).2.2.2.1
           rw [e1,e2] at h2
           change gi (gr Ms a) b=x.c at h2
           omega
          first|(refine .ixv 16 rfl hs aa af ?_;intro b73 o73 hc73)|refine .z 16 rfl (zix aa af) ?_
          first|refine .load (i:=17) hs rfl an (.some rfl rfl) rfl ae ?_ (by repeat (first|exact .here|assumption|exact Mem.row aj aj|refine .there ?_|refine Mem.jC ?_)) (by first|rfl|exact dc aj|exact fP cD aj aj|exact eY fo)|refine .r (i:=17) hs rfl an (.some rfl rfl) (aK rfl ae cD) ?_
          refine .z 18 rfl zm ?_;refine .z 19 rfl zm ?_
          refine .ixT (i:=20) hs rfl an (.some rfl rfl) hM rfl rfl aq aC ha rfl ?_;intro b77 o77 a77 c77 hc77 hR77
          refine .r (i:=21) hs rfl an (.some rfl rfl) (aK rfl ak hc77) ?_
          refine .z 22 rfl zm ?_
          refine .ixX (enc:=fun x=>[I x]) (i:=23) hs rfl an (.some rfl rfl) hR77 rfl rfl aa af (bL (l:=_) (i:=b) aj) rfl ?_;intro b80 o80 hc80;replace hc80:=bB.one hc80
          refine .r (i:=24) hs rfl an (.some rfl rfl) (aK rfl ae hc80) ?_
          refine .z 25 rfl cq ?_;refine .z 26 rfl zm ?_;refine .z 27 rfl zm ?_
          first|(refine .ixv 28 rfl hs aa af ?_;intro b85 o85 hc85)|refine .z 28 rfl (zix aa af) ?_
          first|refine .load (i:=29) hs rfl an (.some rfl rfl) rfl ae ?_ (by repeat (first|exact .here|assumption|exact Mem.row aj aj|refine .there ?_|refine Mem.jC ?_)) (by first|rfl|exact dc aj|exact fP cD aj aj|exact eY fo)|refine .r (i:=29) hs rfl an (.some rfl rfl) (aK rfl ae cD) ?_
          refine .z 30 rfl gx ?_;refine .z 31 rfl zpT ?_
          refine .DT hs ?_
          exact nT ⟨_,aR,by
           intro hp
           first
            |(cases hp;done)
            |exact ⟨fun e=>hb60 (by rw [e]),hb70,of_decide_eq_true hp⟩,by
           intro hp
           first
            |(cases hp;done)
            |exact .inl aj
            |exact .inr (.inl hb70)
            |exact .inr (.inr (of_decide_eq_false hp)),hs⟩
         ·refine .qF (i:=14) rfl an rfl rfl ?_
          refine .qF (i:=15) rfl an rfl rfl ?_
          refine .qF (i:=16) rfl an rfl rfl ?_
          refine .qF (i:=17) rfl an rfl rfl ?_
          refine .qF (i:=18) rfl an rfl rfl ?_
          refine .qF (i:=19) rfl an rfl rfl ?_
          refine .qF (i:=20) rfl an rfl rfl ?_
          refine .qF (i:=21) rfl an rfl rfl ?_
          refine .qF (i:=22) rfl an rfl rfl ?_
          refine .qF (i:=23) rfl an rfl rfl ?_
          refine .qF (i:=24) rfl an rfl rfl ?_
          refine .qF (i:=25) rfl an rfl rfl ?_
          refine .qF (i:=26) rfl an rfl rfl ?_
          refine .qF (i:=27) rfl an rfl rfl ?_
          refine .qF (i:=28) rfl an rfl rfl ?_
          refine .qF (i:=29) rfl an rfl rfl ?_
          refine .qF (i:=30) rfl an rfl rfl ?_
          refine .z 31 rfl zpF ?_
          refine .DT hs ?_
          exact nT ⟨_,aR,by
           intro hp
           first
            |(cases hp;done)
            |exact ⟨fun e=>hb60 (by rw [e]),hb70,of_decide_eq_true hp⟩,by
           intro hp
           first
            |(cases hp;done)
            |exact .inl aj
            |exact .inr (.inl hb70)
            |exact .inr (.inr (of_decide_eq_false hp)),hs⟩
        ·refine .qF (i:=4) rfl an rfl rfl ?_
         refine .qF (i:=5) rfl an rfl rfl ?_
         refine .qF (i:=6) rfl an rfl rfl ?_
         refine .qF (i:=7) rfl an rfl rfl ?_
         refine .qF (i:=8) rfl an rfl rfl ?_
         refine .qF (i:=9) rfl an rfl rfl ?_
         refine .qF (i:=10) rfl an rfl rfl ?_
         refine .qF (i:=11) rfl an rfl rfl ?_
         refine .z 12 rfl zpF ?_;refine .z 13 rfl zm ?_
         refine .qF (i:=14) rfl an rfl rfl ?_
         refine .qF (i:=15) rfl an rfl rfl ?_
         refine .qF (i:=16) rfl an rfl rfl ?_
         refine .qF (i:=17) rfl an rfl rfl ?_
         refine .qF (i:=18) rfl an rfl rfl ?_
         refine .qF (i:=19) rfl an rfl rfl ?_
         refine .qF (i:=20) rfl an rfl rfl ?_
         refine .qF (i:=21) rfl an rfl rfl ?_
         refine .qF (i:=22) rfl an rfl rfl ?_
         refine .qF (i:=23) rfl an rfl rfl ?_
         refine .qF (i:=24) rfl an rfl rfl ?_
         refine .qF (i:=25) rfl an rfl rfl ?_
         refine .qF (i:=26) rfl an rfl rfl ?_
         refine .qF (i:=27) rfl an rfl rfl ?_
         refine .qF (i:=28) rfl an rfl rfl ?_
         refine .qF (i:=29) rfl an rfl rfl ?_
         refine .qF (i:=30) rfl an rfl rfl ?_
         refine .z 31 rfl zpF ?_
         refine .DT hs ?_
         exact nT ⟨_,aR,by
          intro hp
          first
           |(cases hp;done)
           |exact ⟨fun e=>hb60 (by rw [e]),hb70,of_decide_eq_true hp⟩,by
          intro hp
          first
           |(cases hp;done)
           |exact .inl aj
           |exact .inr (.inl hb70)
           |exact .inr (.inr (of_decide_eq_false hp)),hs⟩
       ·rintro fs w ⟨p,hfs,hp1,hp2,hs⟩
        refine WE.sub ?_ hfs
        refine (.cond rfl (fun hc88=>?_) (fun hc88=>?_))
        ·refine .seq (.draw mix rfl hs fun w hs=>?_)
         obtain ⟨hab,hfin,hlt⟩:=hp1 hc88
         obtain ⟨x,hx,e1,e2⟩:=hT.all a b ha hb hab hfin
         have e3:gi (gr Ms a) b=x.c:=by
          have h2:=(hT.ok x hx).2.2.2.1
          rw [e1,e2] at h2;exact h2
         have hxc:=harc x hx
         have hxl:¬x.l<0:=by have:=(hT.at hx).2;omega
         have hstp:lR es x=[I (a:Int),.bool false]:=by
          unfold lR
          rw [if_neg hxl,e1]
          simp [(hT.rG hx).1]
         have hset:oS (iX es s'.by_) (b*2) [I (a:Int),Value.bool false]=iX es (s'.by_.set b x):=by rw [←hstp];exact vS (by have:=hV'.lb;omega) x
         have hsr:s'.rlx x=⟨s'.cost.set b (gi s'.cost a+gi (gr Ms a) b),s'.by_.set b x⟩:=by unfold BS.rlx;rw [e1,e2,e3]
         have hcan:s'.can x:=by unfold BS.can;rw [e1,e2,←e3];exact hlt
         have hxm:x∈de es ts:=(lU hT hC).2 (.inl hx)
         have hlb:=hV'.lb
         refine .z 0 rfl zm ?_;refine .z 1 rfl zm ?_;refine .z 2 rfl zm ?_;refine .z 3 rfl zm ?_
         first|(refine .ixv 4 rfl hs aa af ?_;intro b93 o93 hc93)|refine .z 4 rfl (zix aa af) ?_
         first|refine .load (i:=5) hs rfl an .none rfl ae ?_ (by repeat (first|exact .here|assumption|exact Mem.row aj aj|refine .there ?_|refine Mem.jC ?_)) (by first|rfl|exact dc aj|exact fP cD aj aj|exact eY fo)|refine .r (i:=5) hs rfl an .none (aK rfl ae cD) ?_
         refine .z 6 rfl zm ?_;refine .z 7 rfl zm ?_
         refine .ixT (i:=8) hs rfl an .none hM rfl rfl aq aC ha rfl ?_;intro b97 o97 a97 c97 hc97 hR97
         refine .r (i:=9) hs rfl an .none (aK rfl ak hc97) ?_
         refine .z 10 rfl zm ?_
         refine .ixX (enc:=fun x=>[I x]) (i:=11) hs rfl an .none hR97 rfl rfl aa af (bL (l:=_) (i:=b) aj) rfl ?_;intro b100 o100 hc100;replace hc100:=bB.one hc100
         refine .r (i:=12) hs rfl an .none (aK rfl ae hc100) ?_
         refine .z 13 rfl cq ?_
         first|(refine .ixv 14 rfl hs aa af ?_;intro b103 o103 hc103)|refine .z 14 rfl (zix aa af) ?_
         refine .ET 15 hs ?_
         refine .store hs rfl rfl af ?_;intro w hs
         refine .go ?_
         refine .DT hs ?_
         refine .ai (.z zm (.z zm (.z zm (.z (zbd [_,_] ig) ?_))))
         first|(refine .ixw hs dr dd ?_;intro b108 o108 hc108)|refine .z (ni dr dd) ?_
         refine .o (.aU (vs:=[I (a:Int),Value.bool false]) hs rfl rfl dd ?_ cZ (by rw [mB];simp<;>omega) hset);intro w hs
         refine .nil (.region (.z zg (.nil ?_)))
         refine nT ?_
         have hR:=hV'.uy (Dn':=BO es a b) hg hxm (by rw [e1];exact hfa) hcan
         have hL:=hV'.less hg hxm (by rw [e1];exact hfa) hcan
         rw [hsr] at hR hL
         exact ⟨true,_,aR,hR,⟨aj,fun _=>by omega⟩,by dsimp only;rw [eu aj,if_neg hab];exact hfa,hs⟩
        ·refine .skip ?_
         refine nT ?_
         exact ⟨ag',s',aR,hV'.noF (fun x hx e1 e2 hc=>by
          obtain ⟨b1,b2,b3,b4,b5⟩:=hT.ok x hx
          rw [e1,e2] at b4
          rcases hp2 hc88 with h|h|h
          ·exact b3 (by rw [e1,e2,h])
          ·exact b5 (by rw [←b4,h])
          ·exact h (by rw [b4];exact hc.2)),hW,hfa,hs⟩
      ·clear hV' hW hlc hlow hlo htop hfa
       rintro fs w ⟨ag',s',hfs,hV',hW,hfa,hs⟩
       refine WE.sub ?_ hfs
       have hlc:=hV'.lc
       have hlow:=hV'.low hg ha hfa
       have hlo:=hV'.lo a ha
       have htop:=hV'.top b hb
       refine .cut (fun fs w=>∃p,j9 fs ⟨160,[],[(135,.bool p),(11,.bool ag'),(13,I (b:Int)),(54,I (b:Int)),(53,I (Ms.length:Int)),(12,I (a:Int)),(44,I (a:Int)),(43,I (Ms.length:Int)),(8,.slice (some ⟨b16,0,none⟩) Ms.length Ms.length),(9,.slice (some ⟨b19,0,none⟩) Ms.length Ms.length),(0,.slice am Ms.length cm),(1,.slice (some ⟨bF,0,none⟩) Ms.length Ms.length),(2,.slice (some ⟨bN,0,none⟩) Ms.length capN)]⟩∧(p=true→0<gt Fs b a∧gi s'.cost a - gt Ms b a<gi s'.cost b)∧(p=false→¬0<gt Fs b a∨¬gi s'.cost a - gt Ms b a<gi s'.cost b)∧St H w (.blk b19 (iX es s'.by_):: .blk b16 (Is s'.cost)::σ)) ?_ ?_
       ·refine .draw mix rfl hs fun w hs=>?_
        refine .z 0 rfl zm ?_;refine .z 1 rfl zm ?_
        refine .z 2 rfl (dG (k:=b) rfl rfl aq aC rfl hb) ?_
        refine .load (i:=3) hs rfl an .none rfl ak ?_ (.there (.there hF0)) (dc aj)
        refine .z 4 rfl zm ?_
        refine .z 5 rfl (dG (k:=a) rfl rfl aa af rfl ha) ?_
        refine .load (i:=6) hs rfl an .none rfl ae ?_ (.there (.there (hF b hb))) (fP hqF hb ha)
        refine .z 7 rfl kD ?_;refine .z 8 rfl zm ?_
        refine .iB (t':=117) rfl (fun hb117=>?_) (fun hb117=>?_)
        ·refine .z 9 rfl zm ?_;refine .z 10 rfl zm ?_
         have hMb: -1400000≤gi (gr Ms b) a∧gi (gr Ms b) a≤1400000:=by
          obtain ⟨x,hx,e1,e2⟩:=hC.pos hb ha hb117
          have h1:=harc x hx
          have h2:=(hT.ok x hx).2.2.2.1
          rw [e1,e2] at h2
          change gi (gr Ms b) a=x.c at h2
          omega
         first|(refine .ixv 11 rfl hs aa af ?_;intro b120 o120 hc120)|refine .z 11 rfl (zix aa af) ?_
         first|refine .load (i:=12) hs rfl an (.some rfl rfl) rfl ae ?_ (by repeat (first|exact .here|assumption|exact Mem.row aj aj|refine .there ?_|refine Mem.jC ?_)) (by first|rfl|exact dc aj|exact fP cD aj aj|exact eY fo)|refine .r (i:=12) hs rfl an (.some rfl rfl) (aK rfl ae cD) ?_
         refine .z 13 rfl zm ?_;refine .z 14 rfl zm ?_
         refine .ixT (i:=15) hs rfl an (.some rfl rfl) hM rfl rfl aq aC hb rfl ?_;intro b124 o124 a124 c124 hc124 hR124
         refine .r (i:=16) hs rfl an (.some rfl rfl) (aK rfl ak hc124) ?_
         refine .z 17 rfl zm ?_
         refine .ixX (enc:=fun x=>[I x]) (i:=18) hs rfl an (.some rfl rfl) hR124 rfl rfl aa af (bL (l:=_) (i:=a) aj) rfl ?_;intro b127 o127 hc127;replace hc127:=bB.one hc127
         refine .r (i:=19) hs rfl an (.some rfl rfl) (aK rfl ae hc127) ?_
         refine .z 20 rfl gW ?_;refine .z 21 rfl zm ?_;refine .z 22 rfl zm ?_
         first|(refine .ixv 23 rfl hs aa af ?_;intro b132 o132 hc132)|refine .z 23 rfl (zix aa af) ?_
         first|refine .load (i:=24) hs rfl an (.some rfl rfl) rfl ae ?_ (by repeat (first|exact .here|assumption|exact Mem.row aj aj|refine .there ?_|refine Mem.jC ?_)) (by first|rfl|exact dc aj|exact fP cD aj aj|exact eY fo)|refine .r (i:=24) hs rfl an (.some rfl rfl) (aK rfl ae cD) ?_
         refine .z 25 rfl gx ?_;refine .z 26 rfl zpT ?_
         refine .DT hs ?_
         exact nT ⟨_,aR,by
          intro hp
          first
           |(cases hp;done)
           |exact ⟨hb117,of_decide_eq_true hp⟩,by
          intro hp
          first
           |(cases hp;done)
           |exact .inl hb117
           |exact .inr (of_decide_eq_false hp),hs⟩
        ·refine .qF (i:=9) rfl an rfl rfl ?_
         refine .qF (i:=10) rfl an rfl rfl ?_
         refine .qF (i:=11) rfl an rfl rfl ?_
         refine .qF (i:=12) rfl an rfl rfl ?_
         refine .qF (i:=13) rfl an rfl rfl ?_
         refine .qF (i:=14) rfl an rfl rfl ?_
         refine .qF (i:=15) rfl an rfl rfl ?_
         refine .qF (i:=16) rfl an rfl rfl ?_
         refine .qF (i:=17) rfl an rfl rfl ?_
         refine .qF (i:=18) rfl an rfl rfl ?_
         refine .qF (i:=19) rfl an rfl rfl ?_
         refine .qF (i:=20) rfl an rfl rfl ?_
         refine .qF (i:=21) rfl an rfl rfl ?_
         refine .qF (i:=22) rfl an rfl rfl ?_
         refine .qF (i:=23) rfl an rfl rfl ?_
         refine .qF (i:=24) rfl an rfl rfl ?_
         refine .qF (i:=25) rfl an rfl rfl ?_
         refine .z 26 rfl zpF ?_
         refine .DT hs ?_
         exact nT ⟨_,aR,by
          intro hp
          first
           |(cases hp;done)
           |exact ⟨hb117,of_decide_eq_true hp⟩,by
          intro hp
          first
           |(cases hp;done)
           |exact .inl hb117
           |exact .inr (of_decide_eq_false hp),hs⟩
       ·rintro fs w ⟨p,hfs,hp1,hp2,hs⟩
        refine WE.sub ?_ hfs
        refine (.cond rfl (fun hc135=>?_) (fun hc135=>?_))
        ·refine .seq (.draw mix rfl hs fun w hs=>?_)
         obtain ⟨hpos,hlt⟩:=hp1 hc135
         obtain ⟨x,hx,e1,e2⟩:=hC.pos hb ha hpos
         have e3:gi (gr Ms b) a=x.c:=by
          have h2:=(hT.ok x hx).2.2.2.1
          rw [e1,e2] at h2;exact h2
         have hxc:=harc x hx
         have hab:a≠b:=fun e=>(hT.ok x hx).2.2.1 (by rw [e1,e2,e])
         have hxl:¬x.back.l<0:=by have:=(hT.at hx).2;show ¬x.l<0;omega
         have e4:x.back.f=a:=e2
         have e5:x.back.t=b:=e1
         have hstp:lR es x.back=[I (a:Int),.bool true]:=by
          unfold lR
          rw [if_neg hxl,e4]
          simp [(hT.rG hx).2]
         have hset:oS (iX es s'.by_) (b*2) [I (a:Int),Value.bool true]=iX es (s'.by_.set b x.back):=by rw [←hstp];exact vS (by have:=hV'.lb;omega) x.back
         have hsr:s'.rlx x.back=⟨s'.cost.set b (gi s'.cost a - gi (gr Ms b) a),s'.by_.set b x.back⟩:=by
          unfold BS.rlx
          rw [e4,e5,e3];rfl
         have hcan:s'.can x.back:=by
          unfold BS.can
          rw [e4,e5]
          show gi s'.cost a+ -x.c<_
          rw [←e3]
          exact hlt
         have hxm:x.back∈de es ts:=(lU hT hC).2 (.inr ⟨x,hx,by rw [e1,e2];exact hpos,rfl⟩)
         have hlb:=hV'.lb
         refine .z 0 rfl zm ?_;refine .z 1 rfl zm ?_;refine .z 2 rfl zm ?_;refine .z 3 rfl zm ?_
         first|(refine .ixv 4 rfl hs aa af ?_;intro b140 o140 hc140)|refine .z 4 rfl (zix aa af) ?_
         first|refine .load (i:=5) hs rfl an .none rfl ae ?_ (by repeat (first|exact .here|assumption|exact Mem.row aj aj|refine .there ?_|refine Mem.jC ?_)) (by first|rfl|exact dc aj|exact fP cD aj aj|exact eY fo)|refine .r (i:=5) hs rfl an .none (aK rfl ae cD) ?_
         refine .z 6 rfl zm ?_;refine .z 7 rfl zm ?_
         refine .ixT (i:=8) hs rfl an .none hM rfl rfl aq aC hb rfl ?_;intro b144 o144 a144 c144 hc144 hR144
         refine .r (i:=9) hs rfl an .none (aK rfl ak hc144) ?_
         refine .z 10 rfl zm ?_
         refine .ixX (enc:=fun x=>[I x]) (i:=11) hs rfl an .none hR144 rfl rfl aa af (bL (l:=_) (i:=a) aj) rfl ?_;intro b147 o147 hc147;replace hc147:=bB.one hc147
         refine .r (i:=12) hs rfl an .none (aK rfl ae hc147) ?_
         refine .z 13 rfl gW ?_
         first|(refine .ixv 14 rfl hs aa af ?_;intro b150 o150 hc150)|refine .z 14 rfl (zix aa af) ?_
         refine .ET 15 hs ?_
         refine .store hs rfl rfl af ?_;intro w hs
         refine .go ?_
         refine .DT hs ?_
         refine .ai (.z zm (.z zm (.z zm (.z (zbd [_,_] ig) ?_))))
         first|(refine .ixw hs dr dd ?_;intro b155 o155 hc155)|refine .z (ni dr dd) ?_
         refine .o (.aU (vs:=[I (a:Int),Value.bool true]) hs rfl rfl dd ?_ cZ (by rw [mB];simp<;>omega) hset);intro w hs
         refine .nil (.region (.z zg (.nil ?_)))
         refine nB (nT ?_)
         have hR:=hV'.uy (Dn':=wS a (b+1)) hg hxm (by rw [e4];exact hfa) hcan
         have hL:=hV'.less hg hxm (by rw [e4];exact hfa) hcan
         rw [hsr] at hR hL
         exact .mk ⟨true,_,rfl,hR,⟨aj,fun _=>by omega⟩,by dsimp only;rw [eu aj,if_neg hab];exact hfa,hs⟩
        ·refine .skip ?_
         refine nB (nT ?_)
         exact .mk ⟨ag',s',rfl,hV'.noB hT hC (fun x hx e1 e2 hpos hc=>by
          have h2:=(hT.ok x hx).2.2.2.1
          rw [e1,e2] at h2
          rcases hp2 hc135 with h|h
          ·exact h hpos
          ·exact h (by rw [h2];exact hc.2)),hW,hfa,hs⟩
     ·rintro fr w ⟨ag',s',rfl,hV',hW,-,hs⟩
      refine nB (nT ?_)
      exact .mk ⟨ag',s',rfl,hV'.row hg,hW,hs⟩
   ·rintro fr w ⟨ag',s',rfl,hV',hW,hs⟩
    refine nB (nT ?_)
    exact ⟨(ag',s'),aR,⟨hV'.all hg,hs⟩,by
     subst hc41
     dsimp only
     cases ag' with
     |true=>have:=hW.2 rfl;simp only [if_true];omega
     |false=>have:=hW.1;simp;omega⟩
  ·refine .exit ?_
   refine xT (xT (xB (nT ?_)))
   refine .ai (.z zm (.z zm (.z zg (.z zg (.nil ?_)))))
   refine .ret (Fin.nh Tryz.results292 rfl rfl ?_)
   subst hc41
   obtain ⟨H2,g1,g2,hs⟩:=cn.cK (m:=2) (v:= .slice (some ⟨b19,0,none⟩) Ms.length Ms.length) (cs:=s.by_.map (lR es)) (en:= .blk b19 (iX es s.by_)) (.full (by show (iX es s.by_).length=_;rw [mB,hV.lb])) (fun c hc=>by simp only [List.mem_map] at hc;obtain ⟨x,_,rfl⟩:=hc;exact rX es x) aj (by rw [List.length_map,hV.lb];omega) hs .here
   obtain ⟨H3,g3,g4,hs⟩:=cn.dI (v:= .slice (some ⟨b16,0,none⟩) Ms.length Ms.length) (xs:=s.cost) (.full (by simp [hV.lc])) (by rw [hV.lc];omega) hs .here
   exact ⟨H3,_,_,s,g1.trans g3,rfl,g4,RS.mono g2 g3,hV,hs⟩
set_option maxHeartbeats 8000000 in
theorem sx{vm vw:Value}{Ms:List (List Int)}{ws:List Int}{n:Nat}{es:List Arc}(hs:St H w σ)(hM:RT H vm Ms)(hqM:Sq (n+1) Ms)(hw:RI H vw ws)(hl:ws.length=n+1)(hn:n+1≤65)(hz:bG ws (n+1)≤FF)
  (hT:Tab (n+1) (gt Ms) es) (hfe:∃p,iC es p) (hcb:∀x∈es,-1400000≤x.c∧x.c≤1400000) (hbd:∀m,wT es (mq ws (n+1)) (n+1) m→-BB≤m∧m≤BB):
  Cl Tryz.prog 272 [vm,vw] w fun u w'=>∃H1 v b,HLe H H1∧u= .tuple #[I v,.bool b]∧((b=true∧wT es (mq ws (n+1)) (n+1) v)∨(b=false∧mi es (mq ws (n+1)) (n+1)))∧St H1 w' σ:=by
 obtain ⟨am,cm,rfl⟩:=hM.shape
 have hml:Ms.length=n+1:=hqM.1
 rw [hml] at hM ⊢
 have hnum:=hT.EK
 have hC0:Di es (n+1):=fun x hx=>by
  have h1:=hT.ok x hx
  have h2:=(hT.at hx).2
  have h3:=hcb x hx
  exact ⟨h1.1,h1.2.1,h3.1,h3.2,aj,h1.2.2.1⟩
 have hin:∀x∈es,x.f<n+1∧x.t<n+1:=fun x hx=>by have:=hC0 x hx;omega
 have hw0:=Ay ws (n:=n+1) aj
 have hFF:FF=3600000000000:=rfl
 have hBB:BB=4608000000000000000:=rfl
 have hfree:free=1000000000:=rfl
 refine Cl.o Tryz.func272 Tryz.ntmps272 ag2 ?_
 refine .ai (.z zg (.z zg (.nil (.ai (.z zm ?_)))))
 refine .o (.call Tryz.call291 rfl (qb hs hw hl aj hz) ?_);rintro _ w ⟨b21,cap,sp,lf0,rfl,hlf1,hlf2,hs⟩
 refine .z zg (.nil (.ai (.z zm (.z (c9 aq) ?_))))
 refine .o (.Eh (n+1) hs rfl rfl aq Tryz.typeInfo22 rfl aC ek aj fun b24 w hs=>?_)
 refine .z zg (.nil (.seq (.ai (.z zm (.z (c9 aq) (.z zm (.nil ?_)))))))
 refine .for (N:=n+1) (J:=fun k fr w=>fr=[(7,.slice (some ⟨b24,0,none⟩) (n+1) (n+1)),(0,.slice am (n+1) cm),(6,.slice (some ⟨b21,0,none⟩) (n+1) cap)]∧∃bs:List Nat,bs.length=k∧St H w (.blk b24 (bs.map (ptr (n+1))++List.replicate (n+1 - k) (.slice none 0 0))::(jb bs (ye (fun _ _=>0) (n+1) k)++(.blk b21 (Is lf0++sp)::σ)))) aj ?_ ?_ ?_
 ·exact .mk ⟨rfl,[],rfl,hs⟩
 ·rintro k fr w hk ⟨rfl,bs,hbl,hs⟩
  refine .block (.ai (.z zm (.z zg (.nil (.region (.z zm (.z zm (.z zm (.z (c9 aq) ?_)))))))))
  refine .o (.oE (n+1) hs rfl rfl aa dC rfl af bI aj fun b34 w hs=>?_)
  first|(refine .ixw hs aq aC ?_;intro b35 o35 hc35)|refine .z (zix aq aC) ?_
  refine .o (.store hs rfl rfl aC ?_ cZ (by simp [hbl];omega) (A2 hbl hk));intro w hs
  refine .nil ?_
  refine nB (nT ?_)
  rw [tA (fun _=>0) (n+1) 0 (fun _ _=>rfl)] at hs
  replace hs:=hs.EY (by rw [hbl,tc])
  rw [←w6 (fun _ _=>0)] at hs
  exact .mk ⟨rfl,bs++[b34],by simp [hbl],hs⟩
 ·rintro fr w ⟨rfl,bs,hbl,hs⟩
  rw [Nat.sub_self,List.replicate_zero,List.append_nil] at hs
  have hq0:=AH (fun _ _=>0) (n+1)
  have hc0:uv (n+1) es (List.replicate es.length 0) (gt (ye (fun _ _=>0) (n+1) (n+1))):=by
   have h:=uv.zero (n+1) hT
   exact ⟨h.len,fun x hx=>by rw [h.arc x hx,yd _ (hin x hx).1 (hin x hx).2],fun a b ha hb _=>yd _ ha hb⟩
  have hF0:=uI.start (es:=es) hz hlf1 hlf2 hfe
  refine nT ?_
  refine .block ?_
  refine .loop (fun _:List (List Int)×List Int×List Int=>⟨183,[],[(7,.slice (some ⟨b24,0,none⟩) (n+1) (n+1)),(0,.slice am (n+1) cm),(6,.slice (some ⟨b21,0,none⟩) (n+1) cap)]⟩) (fun p w=>(Sq (n+1) p.1∧uv (n+1) es p.2.1 (gt p.1)∧uI (n+1) es (mq ws (n+1)) p.2.1 p.2.2)∧∃H1,HLe H H1∧St H1 w (.blk b24 (bs.map (ptr (n+1)))::(jb bs p.1++(.blk b21 (Is p.2.2++sp)::σ)))) (fun p=>(rem (n+1) p.2.2).toNat) (ye (fun _ _=>0) (n+1) (n+1),List.replicate es.length 0,lf0) aR ⟨⟨hq0,hc0,hF0⟩,H,HLe.refl H,hs⟩ ?_
  clear hq0 hc0 hF0 hlf1 hlf2 hs
  rintro ⟨Fs,ts,lf⟩ w ⟨⟨hqF,hC,hI⟩,H1,hle1,hs⟩
  dsimp only at hqF hC hI hs ⊢
  obtain ⟨D,hg⟩:=yW aj hn hC0 hI.lt.symm hI.fe
  have hfl:=hqF.1
  have hll:=hI.ll
  refine .block (.ai (.z zm (.z zm (.z zm ?_))))
  refine .o (.call Tryz.call292 rfl (sv (need:=lf) (spN:=sp) hs (hM.mono hle1) hqM .here hbl hqF (fun i hi=> .there (Mem.row aj aj)) (.there (Mem.jC .here)) hll hT hC hg) ?_);rintro _ w ⟨H2,vd,vb,s,hle2,rfl,hRd,hRb,hV,hs⟩
  obtain ⟨ad,cd,rfl⟩:=RI.shape hRd
  obtain ⟨ab,cb,eb⟩:=hRb.shape
  rw [List.length_map] at eb
  subst eb
  have hlc:=hV.lc
  have hlb:=hV.lb
  have hle02:=hle1.trans hle2
  refine .z zm (.z zex (.z zex (.z zg (.z zg (.nil (.ai (.z zg (.nil (.ai ?_)))))))))
  refine .z zg (.nil (.seq (.ai (.z zm (.z (c9 aa) (.z zm (.nil ?_)))))))
  refine .for (N:=n+1) (J:=fun k fr w=>∃to left,fr=[(11,I to),(12,.bool left),(44,.slice (some ⟨b21,0,none⟩) (n+1) cap),(7,.slice (some ⟨b24,0,none⟩) (n+1) (n+1)),(0,.slice am (n+1) cm),(6,.slice (some ⟨b21,0,none⟩) (n+1) cap),(9,.slice ad s.cost.length cd),(10,.slice ab s.by_.length cb)]∧Scan lf s.cost k to left∧St H2 w (.blk b24 (bs.map (ptr (n+1)))::(jb bs Fs++(.blk b21 (Is lf++sp)::σ)))) aj ?_ ?_ ?_
  ·exact .mk ⟨-1,false,rfl,.start lf s.cost,hs⟩
  ·rintro k fr w hk ⟨to,left,rfl,hSc,hs⟩
   have hto:=hSc.lo
   have hto2:=hSc.som
   have hcap:k<n+1:=hk
   refine .block (.ai (.z zm ?_))
   refine .q hs (dG (k:=k) rfl rfl aa af rfl hk) ?_
   refine .q hs (dS rfl ae (hm:= .there (Mem.jC .here)) (hv:=nZ (bL (l:=lf) (i:=k) aj) sp)) ?_
   refine .z zg (.z zg (.nil (.ai (.z zm (.z zm ?_)))))
   refine .bif (t':=52) rfl (fun hb52=>?_) (fun hb52=>?_)
   ·refine .gFs 2 1 false rfl rfl rfl ?_
    refine .z zpT (.z zg (.nil ?_))
    refine WE.sub (t:=⟨183,[],[(12,.bool (left||decide (0<gi lf k))),(13,I (k:Int)),(14,I (gi lf k)),(11,I to),(46,I (k:Int)),(45,I ((n+1:Nat):Int)),(44,.slice (some ⟨b21,0,none⟩) (n+1) cap),(7,.slice (some ⟨b24,0,none⟩) (n+1) (n+1)),(0,.slice am (n+1) cm),(6,.slice (some ⟨b21,0,none⟩) (n+1) cap),(9,.slice ad s.cost.length cd),(10,.slice ab s.by_.length cb)]⟩) ?_ (by first|exact .FC rfl (by simp_all) aR|repeat (first|exact .nil rfl rfl|refine .cons rfl ?_))
    refine .cut (fun fs w=>∃p,j9 fs ⟨183,[],[(79,.bool p),(12,.bool (left||decide (0<gi lf k))),(13,I (k:Int)),(11,I to),(46,I (k:Int)),(45,I ((n+1:Nat):Int)),(44,.slice (some ⟨b21,0,none⟩) (n+1) cap),(7,.slice (some ⟨b24,0,none⟩) (n+1) (n+1)),(0,.slice am (n+1) cm),(6,.slice (some ⟨b21,0,none⟩) (n+1) cap),(9,.slice ad s.cost.length cd),(10,.slice ab s.by_.length cb)]⟩∧(p=true→0<gi lf k∧gi s.cost k≠free)∧(p=false→¬0<gi lf k∨gi s.cost k=free∨0≤to)∧St H2 w (.blk b24 (bs.map (ptr (n+1)))::(jb bs Fs++(.blk b21 (Is lf++sp)::σ)))) ?_ ?_
    ·refine .draw mix rfl hs fun w hs=>?_
     refine .z 0 rfl zm ?_;refine .z 1 rfl kD ?_;refine .z 2 rfl zm ?_
     refine .iB (t':=58) rfl (fun hb58=>?_) (fun hb58=>?_)
     ·refine .z 3 rfl zm ?_;refine .z 4 rfl zm ?_
      refine .ixX (enc:=fun x=>[I x]) (i:=5) hs rfl an (.some rfl rfl) hRd rfl rfl aa af (bL (l:=s.cost) (i:=k) aj) rfl ?_;intro b61 o61 hc61;replace hc61:=bB.one hc61
      refine .r (i:=6) hs rfl an (.some rfl rfl) (aK rfl ae hc61) ?_
      refine .z 7 rfl ij ?_;refine .z 8 rfl zpT ?_;refine .z 9 rfl zm ?_
      refine .yF (t':=65) rfl (fun hb65=>?_) (fun hb65=>?_)
      ·refine .z 10 rfl zm ?_;refine .z 11 rfl gx ?_;refine .z 12 rfl zm ?_
       refine .iB (t':=68) rfl (fun hb68=>?_) (fun hb68=>?_)
       ·refine .qF (i:=13) rfl an rfl rfl ?_
        refine .qF (i:=14) rfl an rfl rfl ?_
        refine .qF (i:=15) rfl an rfl rfl ?_
        refine .qF (i:=16) rfl an rfl rfl ?_
        refine .qF (i:=17) rfl an rfl rfl ?_
        refine .qF (i:=18) rfl an rfl rfl ?_
        refine .qF (i:=19) rfl an rfl rfl ?_
        refine .qF (i:=20) rfl an rfl rfl ?_
        refine .qF (i:=21) rfl an rfl rfl ?_
        refine .z 22 rfl zpT ?_;refine .z 23 rfl zpT ?_
        refine .DT hs ?_
        exact nT ⟨_,aR,by
         intro hp
         first
          |(cases hp;done)
          |exact ⟨by assumption,by assumption⟩,by
         intro hp
         first
          |(cases hp;done)
          |exact .inl cD
          |exact .inr (.inl fo)
          |exact .inr (.inr aj),hs⟩
       ·refine .z 13 rfl zm ?_;refine .z 14 rfl zm ?_
        refine .ixX (enc:=fun x=>[I x]) (i:=15) hs rfl an (.some rfl rfl) hRd rfl rfl aa af (bL (l:=s.cost) (i:=k) aj) rfl ?_;intro b71 o71 hc71;replace hc71:=bB.one hc71
        refine .r (i:=16) hs rfl an (.some rfl rfl) (aK rfl ae hc71) ?_
        refine .z 17 rfl zm ?_;refine .z 18 rfl zm ?_
        refine .ixX (enc:=fun x=>[I x]) (i:=19) hs rfl an (.some rfl rfl) hRd rfl rfl aa af (bL (l:=s.cost) (i:=to.toNat) aj) aj ?_;intro b75 o75 hc75;replace hc75:=bB.one hc75
        refine .r (i:=20) hs rfl an (.some rfl rfl) (aK rfl ae hc75) ?_
        refine .z 21 rfl gx ?_;refine .z 22 rfl zpF ?_;refine .z 23 rfl zpT ?_
        refine .DT hs ?_
        exact nT ⟨_,aR,by
         intro hp
         first
          |(cases hp;done)
          |exact ⟨by assumption,by assumption⟩,by
         intro hp
         first
          |(cases hp;done)
          |exact .inl cD
          |exact .inr (.inl fo)
          |exact .inr (.inr aj),hs⟩
      ·refine .qF (i:=10) rfl an rfl rfl ?_
       refine .qF (i:=11) rfl an rfl rfl ?_
       refine .qF (i:=12) rfl an rfl rfl ?_
       refine .qF (i:=13) rfl an rfl rfl ?_
       refine .qF (i:=14) rfl an rfl rfl ?_
       refine .qF (i:=15) rfl an rfl rfl ?_
       refine .qF (i:=16) rfl an rfl rfl ?_
       refine .qF (i:=17) rfl an rfl rfl ?_
       refine .qF (i:=18) rfl an rfl rfl ?_
       refine .qF (i:=19) rfl an rfl rfl ?_
       refine .qF (i:=20) rfl an rfl rfl ?_
       refine .qF (i:=21) rfl an rfl rfl ?_
       refine .qF (i:=22) rfl an rfl rfl ?_
       refine .z 23 rfl zpF ?_
       refine .DT hs ?_
       exact nT ⟨_,aR,by
        intro hp
        first
         |(cases hp;done)
         |exact ⟨by assumption,by assumption⟩,by
        intro hp
        first
         |(cases hp;done)
         |exact .inl cD
         |exact .inr (.inl fo)
         |exact .inr (.inr aj),hs⟩
     ·refine .qF (i:=3) rfl an rfl rfl ?_
      refine .qF (i:=4) rfl an rfl rfl ?_
      refine .qF (i:=5) rfl an rfl rfl ?_
      refine .qF (i:=6) rfl an rfl rfl ?_
      refine .qF (i:=7) rfl an rfl rfl ?_
      refine .z 8 rfl zpF ?_;refine .z 9 rfl zm ?_
      refine .qF (i:=10) rfl an rfl rfl ?_
      refine .qF (i:=11) rfl an rfl rfl ?_
      refine .qF (i:=12) rfl an rfl rfl ?_
      refine .qF (i:=13) rfl an rfl rfl ?_
      refine .qF (i:=14) rfl an rfl rfl ?_
      refine .qF (i:=15) rfl an rfl rfl ?_
      refine .qF (i:=16) rfl an rfl rfl ?_
      refine .qF (i:=17) rfl an rfl rfl ?_
      refine .qF (i:=18) rfl an rfl rfl ?_
      refine .qF (i:=19) rfl an rfl rfl ?_
      refine .qF (i:=20) rfl an rfl rfl ?_
      refine .qF (i:=21) rfl an rfl rfl ?_
      refine .qF (i:=22) rfl an rfl rfl ?_
      refine .z 23 rfl zpF ?_
      refine .DT hs ?_
      exact nT ⟨_,aR,by
       intro hp
       first
        |(cases hp;done)
        |exact ⟨by assumption,by assumption⟩,by
       intro hp
       first
        |(cases hp;done)
        |exact .inl cD
        |exact .inr (.inl fo)
        |exact .inr (.inr aj),hs⟩
    ·rintro fs w ⟨p,hfs,hp1,hp2,hs⟩
     refine WE.sub ?_ hfs
     refine (.cond rfl (fun hc79=>?_) (fun hc79=>?_))
     ·refine .region (.z zm (.z zg (.nil ?_)))
      refine nB (nT ?_)
      obtain ⟨g1,g2⟩:=hp1 hc79
      exact .mk ⟨(k:Int),_,rfl,hSc.take g1 g2,hs⟩
     ·refine .skip ?_
      refine nB (nT ?_)
      exact .mk ⟨to,_,rfl,hSc.skip (hp2 hc79),hs⟩
   ·refine .gT rfl rfl ?_
    refine .z zm ?_
    refine .gT rfl rfl ?_
    refine .z kD (.z zpF (.z zg (.nil ?_)))
    refine WE.sub (t:=⟨183,[],[(12,.bool (left||decide (0<gi lf k))),(13,I (k:Int)),(14,I (gi lf k)),(11,I to),(46,I (k:Int)),(45,I ((n+1:Nat):Int)),(44,.slice (some ⟨b21,0,none⟩) (n+1) cap),(7,.slice (some ⟨b24,0,none⟩) (n+1) (n+1)),(0,.slice am (n+1) cm),(6,.slice (some ⟨b21,0,none⟩) (n+1) cap),(9,.slice ad s.cost.length cd),(10,.slice ab s.by_.length cb)]⟩) ?_ (by first|exact .FC rfl (by simp_all) aR|repeat (first|exact .nil rfl rfl|refine .cons rfl ?_))
    refine .cut (fun fs w=>∃p,j9 fs ⟨183,[],[(79,.bool p),(12,.bool (left||decide (0<gi lf k))),(13,I (k:Int)),(11,I to),(46,I (k:Int)),(45,I ((n+1:Nat):Int)),(44,.slice (some ⟨b21,0,none⟩) (n+1) cap),(7,.slice (some ⟨b24,0,none⟩) (n+1) (n+1)),(0,.slice am (n+1) cm),(6,.slice (some ⟨b21,0,none⟩) (n+1) cap),(9,.slice ad s.cost.length cd),(10,.slice ab s.by_.length cb)]⟩∧(p=true→0<gi lf k∧gi s.cost k≠free)∧(p=false→¬0<gi lf k∨gi s.cost k=free∨0≤to)∧St H2 w (.blk b24 (bs.map (ptr (n+1)))::(jb bs Fs++(.blk b21 (Is lf++sp)::σ)))) ?_ ?_
    ·refine .draw mix rfl hs fun w hs=>?_
     refine .z 0 rfl zm ?_;refine .z 1 rfl kD ?_;refine .z 2 rfl zm ?_
     refine .iB (t':=58) rfl (fun hb58=>?_) (fun hb58=>?_)
     ·refine .z 3 rfl zm ?_;refine .z 4 rfl zm ?_
      refine .ixX (enc:=fun x=>[I x]) (i:=5) hs rfl an (.some rfl rfl) hRd rfl rfl aa af (bL (l:=s.cost) (i:=k) aj) rfl ?_;intro b61 o61 hc61;replace hc61:=bB.one hc61
      refine .r (i:=6) hs rfl an (.some rfl rfl) (aK rfl ae hc61) ?_
      refine .z 7 rfl ij ?_;refine .z 8 rfl zpT ?_;refine .z 9 rfl zm ?_
      refine .yF (t':=65) rfl (fun hb65=>?_) (fun hb65=>?_)
      ·refine .z 10 rfl zm ?_;refine .z 11 rfl gx ?_;refine .z 12 rfl zm ?_
       refine .iB (t':=68) rfl (fun hb68=>?_) (fun hb68=>?_)
       ·refine .qF (i:=13) rfl an rfl rfl ?_
        refine .qF (i:=14) rfl an rfl rfl ?_
        refine .qF (i:=15) rfl an rfl rfl ?_
        refine .qF (i:=16) rfl an rfl rfl ?_
        refine .qF (i:=17) rfl an rfl rfl ?_
        refine .qF (i:=18) rfl an rfl rfl ?_
        refine .qF (i:=19) rfl an rfl rfl ?_
        refine .qF (i:=20) rfl an rfl rfl ?_
        refine .qF (i:=21) rfl an rfl rfl ?_
        refine .z 22 rfl zpT ?_;refine .z 23 rfl zpT ?_
        refine .DT hs ?_
        exact nT ⟨_,aR,by
         intro hp
         first
          |(cases hp;done)
          |exact ⟨by assumption,by assumption⟩,by
         intro hp
         first
          |(cases hp;done)
          |exact .inl cD
          |exact .inr (.inl fo)
          |exact .inr (.inr aj),hs⟩
       ·refine .z 13 rfl zm ?_;refine .z 14 rfl zm ?_
        refine .ixX (enc:=fun x=>[I x]) (i:=15) hs rfl an (.some rfl rfl) hRd rfl rfl aa af (bL (l:=s.cost) (i:=k) aj) rfl ?_;intro b71 o71 hc71;replace hc71:=bB.one hc71
        refine .r (i:=16) hs rfl an (.some rfl rfl) (aK rfl ae hc71) ?_
        refine .z 17 rfl zm ?_;refine .z 18 rfl zm ?_
        refine .ixX (enc:=fun x=>[I x]) (i:=19) hs rfl an (.some rfl rfl) hRd rfl rfl aa af (bL (l:=s.cost) (i:=to.toNat) aj) aj ?_;intro b75 o75 hc75;replace hc75:=bB.one hc75
        refine .r (i:=20) hs rfl an (.some rfl rfl) (aK rfl ae hc75) ?_
        refine .z 21 rfl gx ?_;refine .z 22 rfl zpF ?_;refine .z 23 rfl zpT ?_
        refine .DT hs ?_
        exact nT ⟨_,aR,by
         intro hp
         first
          |(cases hp;done)
          |exact ⟨by assumption,by assumption⟩,by
         intro hp
         first
          |(cases hp;done)
          |exact .inl cD
          |exact .inr (.inl fo)
          |exact .inr (.inr aj),hs⟩
      ·refine .qF (i:=10) rfl an rfl rfl ?_
       refine .qF (i:=11) rfl an rfl rfl ?_
       refine .qF (i:=12) rfl an rfl rfl ?_
       refine .qF (i:=13) rfl an rfl rfl ?_
       refine .qF (i:=14) rfl an rfl rfl ?_
       refine .qF (i:=15) rfl an rfl rfl ?_
       refine .qF (i:=16) rfl an rfl rfl ?_
       refine .qF (i:=17) rfl an rfl rfl ?_
       refine .qF (i:=18) rfl an rfl rfl ?_
       refine .qF (i:=19) rfl an rfl rfl ?_
       refine .qF (i:=20) rfl an rfl rfl ?_
       refine .qF (i:=21) rfl an rfl rfl ?_
       refine .qF (i:=22) rfl an rfl rfl ?_
       refine .z 23 rfl zpF ?_
       refine .DT hs ?_
       exact nT ⟨_,aR,by
        intro hp
        first
         |(cases hp;done)
         |exact ⟨by assumption,by assumption⟩,by
        intro hp
        first
         |(cases hp;done)
         |exact .inl cD
         |exact .inr (.inl fo)
         |exact .inr (.inr aj),hs⟩
     ·refine .qF (i:=3) rfl an rfl rfl ?_
      refine .qF (i:=4) rfl an rfl rfl ?_
      refine .qF (i:=5) rfl an rfl rfl ?_
      refine .qF (i:=6) rfl an rfl rfl ?_
      refine .qF (i:=7) rfl an rfl rfl ?_
      refine .z 8 rfl zpF ?_;refine .z 9 rfl zm ?_
      refine .qF (i:=10) rfl an rfl rfl ?_
      refine .qF (i:=11) rfl an rfl rfl ?_
      refine .qF (i:=12) rfl an rfl rfl ?_
      refine .qF (i:=13) rfl an rfl rfl ?_
      refine .qF (i:=14) rfl an rfl rfl ?_
      refine .qF (i:=15) rfl an rfl rfl ?_
      refine .qF (i:=16) rfl an rfl rfl ?_
      refine .qF (i:=17) rfl an rfl rfl ?_
      refine .qF (i:=18) rfl an rfl rfl ?_
      refine .qF (i:=19) rfl an rfl rfl ?_
      refine .qF (i:=20) rfl an rfl rfl ?_
      refine .qF (i:=21) rfl an rfl rfl ?_
      refine .qF (i:=22) rfl an rfl rfl ?_
      refine .z 23 rfl zpF ?_
      refine .DT hs ?_
      exact nT ⟨_,aR,by
       intro hp
       first
        |(cases hp;done)
        |exact ⟨by assumption,by assumption⟩,by
       intro hp
       first
        |(cases hp;done)
        |exact .inl cD
        |exact .inr (.inl fo)
        |exact .inr (.inr aj),hs⟩
    ·rintro fs w ⟨p,hfs,hp1,hp2,hs⟩
     refine WE.sub ?_ hfs
     refine (.cond rfl (fun hc79=>?_) (fun hc79=>?_))
     ·refine .region (.z zm (.z zg (.nil ?_)))
      refine nB (nT ?_)
      obtain ⟨g1,g2⟩:=hp1 hc79
      exact .mk ⟨(k:Int),_,rfl,hSc.take g1 g2,hs⟩
     ·refine .skip ?_
      refine nB (nT ?_)
      exact .mk ⟨to,_,rfl,hSc.skip (hp2 hc79),hs⟩
  ·rintro fr w ⟨to,left,rfl,hSc,hs⟩
   refine nT ?_
   refine .seq (.ai (.z zm (.z gx (.nil ?_))))
   refine (.bM rfl (fun hc83=>?_) (fun hc83=>?_))
   ·refine .ai (.z zm (.z zm ?_))
    refine .o (.call Tryz.call293 rfl (tu hs (hM.mono hle02) hqM aj .here hbl hqF (fun i hi=> .there (Mem.row aj aj))) ?_);rintro _ w ⟨rfl,hs⟩
    refine .z zm (.z ir (.z zg (.z zg (.nil ?_))))
    refine .ret (rT (rB (rT (rB (Fin.nh Tryz.results272 rfl rfl ?_)))))
    rw [←C5 hT hC hI.nn]
    cases left with
    |false=>
     have hno:∀v<n+1,gi lf v≤0:=fun v hv=>Int.not_lt.1 fun h=>by have:=hSc.left_.2 ⟨v,hv,h⟩;cases this
     have hok:=hI.ok hin hw0 hno
     obtain ⟨q,hqf⟩:=hok.fe
     have hO:=(zt hin hok.lt (fun i hi=>(hok.nn i hi).1) hok.full hqf).1
     have hb:=hbd _ hO
     rw [ji aj]
     exact ⟨H2,_,true,hle02,rfl,.inl ⟨rfl,hO⟩,hs.tail.jC.tail⟩
    |true=>
     obtain ⟨v,hv,hp⟩:=hSc.left_.1 rfl
     have hf:=hSc.non aj v hv hp
     have hO:=hI.open hin (R:=fun v=>gi s.cost v<free) (fun v hv hl=>by have:=hV.src v hv hl;omega) (hV.closed hg) hv (by rw [hf];omega) hp
     exact ⟨H2,_,false,hle02,rfl,.inr ⟨rfl,hO⟩,hs.tail.jC.tail⟩
   ·refine .skip ?_
    refine nT ?_
    refine .ai ?_
    obtain ⟨t,rfl⟩:=Int.eq_ofNat_of_zero_le (show 0≤to by omega)
    obtain ⟨ht,htp,htf⟩:=hSc.som aj
    rw [Int.toNat_natCast] at ht htp htf
    have htl:gi s.cost t<free:=by have:=hV.top t ht;omega
    obtain ⟨kk,cc,u,hB,hu,hk1,hk0,hcl,hway⟩:=hV.back hg ht htl htp
    have hW:=hway _ rfl
    have hsg:=hI.sg
    refine .z zm (.z zm ?_)
    refine .q hs (dG (k:=t) rfl rfl aa af rfl ht) ?_
    refine .q hs (dS rfl ae (hm:= .there (Mem.jC .here)) (hv:=nZ (bL (l:=lf) (i:=t) aj) sp)) ?_
    refine .z zg (.nil (.ai (.z zm (.z zg (.nil (.seq (.block ?_)))))))
    refine .loop (fun p:Nat×Nat=>⟨183,[],[(16,I (p.2:Int)),(15,I (least es ts (gi lf t) (iO s.by_ t p.1))),(11,I (t:Int)),(7,.slice (some ⟨b24,0,none⟩) (n+1) (n+1)),(0,.slice am (n+1) cm),(6,.slice (some ⟨b21,0,none⟩) (n+1) cap),(9,.slice ad s.cost.length cd),(10,.slice ab s.by_.length cb)]⟩) (fun p w=>AtW s.by_ t kk u p.1 p.2∧(p.2<n+1∧gi s.cost p.2<free)∧St H2 w (.blk b24 (bs.map (ptr (n+1)))::(jb bs Fs++(.blk b21 (Is lf++sp)::σ)))) (fun p=>kk - p.1) (0,t) aR ⟨.start hB,⟨ht,htl⟩,hs⟩ ?_
    rintro ⟨i,v⟩ w ⟨hA,⟨hv,hvf⟩,hs⟩
    dsimp only at hA hv hvf ⊢
    have hby:=hV.by1 v hv hvf
    refine .cut (fun fs w=>j9 fs ⟨183,[],[(16,I (v:Int)),(15,I (least es ts (gi lf t) (iO s.by_ t i))),(11,I (t:Int)),(7,.slice (some ⟨b24,0,none⟩) (n+1) (n+1)),(0,.slice am (n+1) cm),(6,.slice (some ⟨b21,0,none⟩) (n+1) cap),(9,.slice ad s.cost.length cd),(10,.slice ab s.by_.length cb)]⟩∧0≤(ga s.by_ v).l∧St H2 w (.blk b24 (bs.map (ptr (n+1)))::(jb bs Fs++(.blk b21 (Is lf++sp)::σ)))) ?_ ?_
    ·refine .ai (.z zm (.z zm ?_))
     refine .q hs (dG (k:=v) rfl rfl aa af rfl hv) ?_
     refine .q hs (dS rfl ae (hm:= .there (Mem.jC .here)) (hv:=nZ (bL (l:=lf) (i:=v) aj) sp)) ?_
     refine .z vD (.z zm ?_)
     refine .iB (t':=99) rfl (fun hb99=>?_) (fun hb99=>?_)
     ·refine .gFs 6 5 false rfl rfl rfl ?_
      refine .z zpT (.nil ?_)
      refine (.cT ?_)
      refine .skip ?_
      refine nT ?_
      exact ⟨aR,by
       rcases hby with ⟨_,h,_⟩|h
       ·omega
       ·exact h.1,hs⟩
     ·refine .gT rfl rfl ?_
      refine .z zm ?_
      refine .gT rfl rfl ?_
      refine .z zm ?_
      refine .gT rfl rfl ?_
      refine .ixX (enc:=lR es) hs hRb rfl rfl dr dd (tP (l:=s.by_) (i:=v) aj) rfl ?_;intro b102 o102 hc102
      rw [p6] at hc102
      refine .gT rfl rfl ?_
      refine .z (zfa df) ?_
      refine .gT rfl rfl ?_
      refine .q hs (aK rfl ae (hc102.get 0 rfl)) ?_
      refine .gT rfl rfl ?_
      refine .z vD (.z zpF (.nil ?_))
      refine (.bM rfl (fun hc106=>?_) (fun hc106=>?_))
      ·refine .skip ?_
       refine nT ?_
       exact ⟨aR,Cj hc106,hs⟩
      ·refine .exit ?_
       refine xT (xT (xB (nT ?_)))
       refine .ai ?_
       obtain ⟨ei,ev⟩:=hA.stop (AJ hc106)
       subst ei;subst ev
       obtain ⟨m0,m1,m2,m3⟩:=sM hI.lt.symm hnum hW
       have hsv:=hsg v hv
       have hst:=hsg t ht
       have hmu:min (least es ts (gi lf t) (iO s.by_ t i)) (-gi lf v)=qt es ts lf (iO s.by_ t i).reverse v t:=by
        unfold qt
        rw [Bi,←xj,Int.min_comm]
       have hsend:=hI.send hnum hW (by rw [List.length_reverse,gX];omega)
       have hmem:∀x∈iO s.by_ t i,x∈de es ts:=fun x hx=>hW.mem x (List.mem_reverse.2 hx)
       rw [z8 (fun x hx=>(jL hI.lt.symm hnum (hmem x hx)).2.1)] at hsend
       generalize hm:qt es ts lf (iO s.by_ t i).reverse v t=m at*
       have hvt:v≠t:=fun e=>by have:=hW.lu;rw [e] at this;omega
       refine .z zm (.z zm (.z zm ?_))
       refine .q hs (dG (k:=v) rfl rfl aa af rfl hv) ?_
       refine .q hs (dS rfl ae (hm:= .there (Mem.jC .here)) (hv:=nZ (bL (l:=lf) (i:=v) aj) sp)) ?_
       refine .z uN (.z As ?_)
       rw [hmu]
       refine .z zg (.nil (.seq (.ai (.z zm (.z zg (.nil (.block ?_)))))))
       refine .loop (fun p:Nat×Nat×List (List Int)=>⟨183,[],[(18,I (p.2.1:Int)),(16,I (v:Int)),(15,I m),(11,I (t:Int)),(7,.slice (some ⟨b24,0,none⟩) (n+1) (n+1)),(0,.slice am (n+1) cm),(6,.slice (some ⟨b21,0,none⟩) (n+1) cap),(9,.slice ad s.cost.length cd),(10,.slice ab s.by_.length cb)]⟩) (fun p w=>AtW s.by_ t i v p.1 p.2.1∧(p.2.1<n+1∧gi s.cost p.2.1<free)∧(Sq (n+1) p.2.2∧uv (n+1) es (fq es m ts (iO s.by_ t p.1)) (gt p.2.2))∧St H2 w (.blk b24 (bs.map (ptr (n+1)))::(jb bs p.2.2++(.blk b21 (Is lf++sp)::σ)))) (fun p=>i - p.1) (0,t,Fs) aR ⟨.start hB,⟨ht,htl⟩,⟨hqF,hC⟩,hs⟩ ?_
       clear hA hby
       rintro ⟨j,y,Fs'⟩ w ⟨hA,⟨hy,hyf⟩,⟨hqF',hC'⟩,hs⟩
       dsimp only at hA hy hyf hqF' hC' hs ⊢
       have hfl':=hqF'.1
       refine .seq (.ai (.z zm (.z zm (.z ij (.nil ?_)))))
       refine (.eQ rfl (fun hc135=>?_) (fun hc135=>?_))
       ·refine .skip ?_
        refine nT ?_
        refine .seq (.block (.ai ?_))
        have hl0:=hA.ne aj
        obtain ⟨hik,hA',htr⟩:=hA.next hl0 hu
        obtain ⟨hxm,hxt,hxf⟩:ga s.by_ y∈de es ts∧(ga s.by_ y).t=y∧gi s.cost (ga s.by_ y).f<free:=by
         rcases hV.by1 y hy hyf with ⟨h,_⟩|⟨_,h1,h2,h3,_⟩
         ·omega
         ·exact ⟨h1,h2,h3⟩
        have hxn:=(hg.ok _ hxm).1
        have hsF:=th hl0
        have hxb:(ga s.by_ y).l.toNat<ts.length:=(jL hI.lt.symm hnum hxm).2.1
        have hpb:=xe (es:=es) (ts:=ts) (p:=iO s.by_ t j) (m:=m) aj aj (by rw [gX];omega) (fun x hx=>by
         have h1:=nq (A:=fun v=>v<n+1∧gi s.cost v<free) (B:=fun x=>x∈de es ts) (fun v hv hl=>by
          rcases hV.by1 v hv.1 hv.2 with ⟨h,_⟩|⟨_,h1,h2,h3,_⟩
          ·omega
          ·exact ⟨h1,(hg.ok _ h1).1,h3⟩) hA.bk.choose_spec ⟨ht,htl⟩ x hx
         exact (jL hI.lt.symm hnum h1).2.1) (ga s.by_ y).l.toNat
        have hnn:=hI.nn (ga s.by_ y).l.toNat (by rw [←hI.lt];exact hxb)
        have htb:=hI.tb (ga s.by_ y).l.toNat (by rw [←hI.lt];exact hxb)
        have hrm:0≤rem (n+1) lf:=cP fun v _=>by omega
        generalize hgx:ga s.by_ y=x at*
        refine .z zm (.z zm ?_)
        refine .ixX (enc:=lR es) hs hRb rfl rfl dr dd (tP (l:=s.by_) (i:=y) aj) rfl ?_;intro b143 o143 hc143
        rw [hgx,p6] at hc143
        refine .q hs (cI (vs:=[I (ti x),.bool (ux es x)]) rfl Tryz.isAgg315 dd hc143) ?_
        refine .o (.alloc hs Gw rfl fun b19 w hs=>?_)
        refine .o (.aU (vs:=[I (ti x),.bool (ux es x)]) hs rfl rfl dd fun w hs=>?_)
        refine .nil (.ai (.z (zfa jB) ?_))
        first|refine .q hs (dS rfl eC (hm:=by repeat (first|exact .here|assumption|exact Mem.row aj aj|refine .there ?_|refine Mem.jC ?_)) (hv:=by first|rfl|exact dc aj|exact fP cD aj aj|exact eY fo)) ?_|refine .q hs (aK rfl eC cD) ?_
        refine .nil ?_
        refine (.cond rfl (fun hc146=>?_) (fun hc146=>?_))
        ·refine .draw mix rfl hs fun w hs=>?_
         have hnf:=AK hc146
         obtain ⟨hcb,z,hz1,hz2⟩:=hC.back hT hxm hnf
         have hgz:gt Fs' y x.f=gi (fq es m ts (iO s.by_ t j)) x.l.toNat:=by
          have:=hC'.arc z hz1
          rw [hz2] at hxt ⊢
          rw [←hxt];exact this.symm
         have hpu:=(hC'.push hT (y:=x) (.inr ⟨z,hz1,hz2⟩) m).2 hnf
         rw [hxt] at hpu
         rw [←mw,←htr] at hpu
         refine .z 0 rfl zm ?_;refine .z 1 rfl zm ?_
         refine .z 2 rfl (dG (k:=y) rfl rfl aq aC rfl hy) ?_
         first|refine .load (i:=3) hs rfl an .none rfl ak ?_ (by repeat (first|exact .here|assumption|exact Mem.row aj aj|refine .there ?_|refine Mem.jC ?_)) (by first|rfl|exact dc aj|exact fP cD aj aj|exact eY fo)|refine .r (i:=3) hs rfl an .none (aK rfl ak cD) ?_
         refine .z 4 rfl (zfa df) ?_
         first|refine .load (i:=5) hs rfl an .none rfl ae ?_ (by repeat (first|exact .here|assumption|exact Mem.row aj aj|refine .there ?_|refine Mem.jC ?_)) (by first|rfl|exact dc aj|exact fP cD aj aj|exact eY fo)|refine .r (i:=5) hs rfl an .none (aK rfl ae cD) ?_
         rw [hsF] at hs ⊢
         refine .z 6 rfl (dG (k:=x.f) rfl rfl aa af rfl hxn) ?_
         first|refine .load (i:=7) hs rfl an .none rfl ae ?_ (by repeat (first|exact .here|assumption|exact Mem.row aj aj|refine .there ?_|refine Mem.jC ?_)) (by first|rfl|exact dc aj|exact fP cD aj aj|exact eY fo)|refine .r (i:=7) hs rfl an .none (aK rfl ae cD) ?_
         refine .z 8 rfl zm ?_;refine .z 9 rfl gW ?_
         refine .z 10 rfl (dG (k:=x.f) rfl rfl aa af rfl hxn) ?_
         refine .ET 11 hs ?_
         refine .store hs rfl rfl af ?_ (.there (.there (Upd.row _ aj aj))) (ub (by rw [hqF'.2 _ hy];exact hxn)) (mS _ _ _);intro w hs
         refine .go ?_
         refine .DT hs ?_
         refine nB (nT ?_)
         refine .region (.z zm (.z zm ?_))
         refine .ixX (enc:=lR es) hs hRb rfl rfl dr dd (tP (l:=s.by_) (i:=y) aj) rfl ?_;intro b138 o138 hc138
         rw [hgx,p6] at hc138
         refine .z (zfa df) ?_
         refine .q hs (aK rfl ae (hc138.get 0 rfl)) ?_
         rw [hsF]
         refine .z zg (.nil ?_)
         refine nT ?_
         exact ⟨(j+1,x.f,_),aR,⟨hA',⟨hxn,hxf⟩,⟨hqF'.set hy _,by rw [zh hqF' hy hxn];exact hpu⟩,hs.tail⟩,by dsimp only;omega⟩
        ·refine .region ?_
         have hnf:=AL hl0 (by simpa using hc146)
         have hxe:=hC.Gi hT hxm hnf
         have hgz:gt Fs' x.f y=gi (fq es m ts (iO s.by_ t j)) x.l.toNat:=by
          have:=hC'.arc x hxe
          rw [hxt] at this;exact this.symm
         have hpu:=(hC'.push hT (y:=x) (.inl hxe) m).1 hnf
         rw [hxt] at hpu
         rw [←mw,←htr] at hpu
         refine .z zm (.z (zfa df) ?_)
         first|refine .q hs (dS rfl ae (hm:=by repeat (first|exact .here|assumption|exact Mem.row aj aj|refine .there ?_|refine Mem.jC ?_)) (hv:=by first|rfl|exact dc aj|exact fP cD aj aj|exact eY fo)) ?_|refine .q hs (aK rfl ae cD) ?_
         rw [hsF]
         refine .q hs (dG (k:=x.f) rfl rfl aq aC rfl hxn) ?_
         first|refine .q hs (dS rfl ak (hm:=by repeat (first|exact .here|assumption|exact Mem.row aj aj|refine .there ?_|refine Mem.jC ?_)) (hv:=by first|rfl|exact dc aj|exact fP cD aj aj|exact eY fo)) ?_|refine .q hs (aK rfl ak cD) ?_
         refine .z zm ?_
         refine .q hs (dG (k:=y) rfl rfl aa af rfl hy) ?_
         first|refine .q hs (dS rfl ae (hm:=by repeat (first|exact .here|assumption|exact Mem.row aj aj|refine .there ?_|refine Mem.jC ?_)) (hv:=by first|rfl|exact dc aj|exact fP cD aj aj|exact eY fo)) ?_|refine .q hs (aK rfl ae cD) ?_
         refine .z zm (.z cq ?_)
         refine .q hs (dG (k:=y) rfl rfl aa af rfl hy) ?_
         refine .o (.store hs rfl rfl af ?_ (.there (.there (Upd.row _ aj aj))) (ub (by rw [hqF'.2 _ hxn];exact hy)) (mS _ _ _));intro w hs
         refine .nil ?_
         refine nB (nT ?_)
         refine .region (.z zm (.z zm ?_))
         refine .ixX (enc:=lR es) hs hRb rfl rfl dr dd (tP (l:=s.by_) (i:=y) aj) rfl ?_;intro b138 o138 hc138
         rw [hgx,p6] at hc138
         refine .z (zfa df) ?_
         refine .q hs (aK rfl ae (hc138.get 0 rfl)) ?_
         rw [hsF]
         refine .z zg (.nil ?_)
         refine nT ?_
         exact ⟨(j+1,x.f,_),aR,⟨hA',⟨hxn,hxf⟩,⟨hqF'.set hxn _,by rw [zh hqF' hxn hy];exact hpu⟩,hs.tail⟩,by dsimp only;omega⟩
       ·refine .exit ?_
        refine xT (xT (xB (nT ?_)))
        refine .ai ?_
        have hyv:y=v:=by omega
        subst hyv
        obtain ⟨ej,-⟩:=hA.stop hu
        subst ej
        refine .z zm (.z zm ?_)
        refine .q hs (dG (k:=y) rfl rfl aa af rfl hv) ?_
        refine .q hs (dS rfl ae (hm:= .there (Mem.jC .here)) (hv:=nZ (bL (l:=lf) (i:=y) aj) sp)) ?_
        refine .z zm (.z cq ?_)
        refine .q hs (dG (k:=y) rfl rfl aa af rfl hv) ?_
        refine .o (.store hs rfl rfl af ?_ (.there (Upd.jC .here)) (by simp;omega) (yU aj _ sp));intro w hs
        refine .nil (.region (.z zm (.z zm ?_)))
        refine .q hs (dG (k:=t) rfl rfl aa af rfl ht) ?_
        have hgt:gi (lf.set y (gi lf y+m)) t=gi lf t:=by rw [eu aj,if_neg (Ne.symm hvt)]
        refine .q hs (dS rfl ae (hm:= .there (Mem.jC .here)) (hv:=nZ (bL (l:=lf.set y (gi lf y+m)) (i:=t) (by rw [List.length_set];omega)) sp)) ?_
        refine .z zm (.z gW ?_)
        refine .q hs (dG (k:=t) rfl rfl aa af rfl ht) ?_
        refine .o (.store hs rfl rfl af ?_ (.there (Upd.jC .here)) (by simp;omega) (yU (by rw [List.length_set];omega) _ sp));intro w hs
        refine .nil ?_
        refine nB (nT ?_)
        have hrm:0≤rem (n+1) (xh lf m y t):=cP fun v _=>by omega
        exact ⟨(Fs',fq es m ts (iO s.by_ t j),xh lf m y t),aR,⟨⟨hqF',hC',hsend.1⟩,H2,hle02,hs⟩,by dsimp only;have:=hsend.2;omega⟩
    ·rintro fs w ⟨hfs,hl0,hs⟩
     refine WE.sub ?_ hfs
     obtain ⟨hik,hA',htr⟩:=hA.next hl0 hu
     obtain ⟨hxm,hxt,hxf⟩:ga s.by_ v∈de es ts∧(ga s.by_ v).t=v∧gi s.cost (ga s.by_ v).f<free:=by
      rcases hby with ⟨h,_⟩|⟨_,h1,h2,h3,_⟩
      ·omega
      ·exact ⟨h1,h2,h3⟩
     have hxn:=(hg.ok _ hxm).1
     have hsF:=th hl0
     generalize hgx:ga s.by_ v=x at*
     refine .block (.ai (.z zm (.z zm ?_)))
     refine .ixX (enc:=lR es) hs hRb rfl rfl dr dd (tP (l:=s.by_) (i:=v) aj) rfl ?_;intro b109 o109 hc109
     rw [hgx,p6] at hc109
     refine .q hs (cI (vs:=[I (ti x),.bool (ux es x)]) rfl Tryz.isAgg315 dd hc109) ?_
     refine .o (.alloc hs Gw rfl fun b17 w hs=>?_)
     refine .o (.aU (vs:=[I (ti x),.bool (ux es x)]) hs rfl rfl dd fun w hs=>?_)
     refine .nil (.seq (.ai (.z (zfa jB) ?_)))
     first|refine .q hs (dS rfl eC (hm:=by repeat (first|exact .here|assumption|exact Mem.row aj aj|refine .there ?_|refine Mem.jC ?_)) (hv:=by first|rfl|exact dc aj|exact fP cD aj aj|exact eY fo)) ?_|refine .q hs (aK rfl eC cD) ?_
     refine .nil ?_
     refine (.cond rfl (fun hc112=>?_) (fun hc112=>?_))
     ·refine .draw mix rfl hs fun w hs=>?_
      refine .z 0 rfl zm ?_;refine .z 1 rfl zm ?_;refine .z 2 rfl zm ?_
      refine .z 3 rfl (dG (k:=v) rfl rfl aq aC rfl hv) ?_
      first|refine .load (i:=4) hs rfl an .none rfl ak ?_ (by repeat (first|exact .here|assumption|exact Mem.row aj aj|refine .there ?_|refine Mem.jC ?_)) (by first|rfl|exact dc aj|exact fP cD aj aj|exact eY fo)|refine .r (i:=4) hs rfl an .none (aK rfl ak cD) ?_
      refine .z 5 rfl (zfa df) ?_
      first|refine .load (i:=6) hs rfl an .none rfl ae ?_ (by repeat (first|exact .here|assumption|exact Mem.row aj aj|refine .there ?_|refine Mem.jC ?_)) (by first|rfl|exact dc aj|exact fP cD aj aj|exact eY fo)|refine .r (i:=6) hs rfl an .none (aK rfl ae cD) ?_
      rw [hsF] at hs ⊢
      refine .z 7 rfl (dG (k:=x.f) rfl rfl aa af rfl hxn) ?_
      first|refine .load (i:=8) hs rfl an .none rfl ae ?_ (by repeat (first|exact .here|assumption|exact Mem.row aj aj|refine .there ?_|refine Mem.jC ?_)) (by first|rfl|exact dc aj|exact fP cD aj aj|exact eY fo)|refine .r (i:=8) hs rfl an .none (aK rfl ae cD) ?_
      refine .z 9 rfl As ?_;refine .z 10 rfl zg ?_
      refine .DT hs ?_
      refine nT ?_
      refine .region (.z (zfa df) ?_)
      first|refine .q hs (dS rfl ae (hm:=by repeat (first|exact .here|assumption|exact Mem.row aj aj|refine .there ?_|refine Mem.jC ?_)) (hv:=by first|rfl|exact dc aj|exact fP cD aj aj|exact eY fo)) ?_|refine .q hs (aK rfl ae cD) ?_
      try rw [hsF]
      refine .z zg (.nil ?_)
      refine nB (nT ?_)
      have hnf:=AK hc112
      have hcb:=(hC.back hT hxm hnf).1
      rw [hxt] at hcb
      exact ⟨(i+1,x.f),.cons rfl (.cj rfl (by dsimp only;rw [htr,ma,if_neg hnf,hcb]) aR),⟨hA',⟨hxn,hxf⟩,hs.tail⟩,by dsimp only;omega⟩
     ·refine .skip ?_
      refine nT ?_
      refine .region (.z (zfa df) ?_)
      first|refine .q hs (dS rfl ae (hm:=by repeat (first|exact .here|assumption|exact Mem.row aj aj|refine .there ?_|refine Mem.jC ?_)) (hv:=by first|rfl|exact dc aj|exact fP cD aj aj|exact eY fo)) ?_|refine .q hs (aK rfl ae cD) ?_
      try rw [hsF]
      refine .z zg (.nil ?_)
      refine nB (nT ?_)
      have hnf:=AL hl0 (by simpa using hc112)
      exact ⟨(i+1,x.f),.cons rfl (.cj rfl (by dsimp only;rw [htr,ma,if_pos hnf]) aR),⟨hA',⟨hxn,hxf⟩,hs.tail⟩,by dsimp only;omega⟩
theorem cN{p:Prop}[Decidable p]:(!decide p)=true↔¬p:=by simp
theorem br{p:Prop}[Decidable p]:(!decide p)=false↔p:=by simp
theorem dQ{a0 a1 a2:Int}(hs:St H w σ):Cl Tryz.prog 221 [I a0,I a1,I a2] w fun v w'=>v= .bool (decide (a1≤a0∧a0≤a2))∧St H w' σ:=by
 refine Cl.o Tryz.func221 Tryz.ntmps221 ag3 ?_
 refine .ai (.z zg (.nil (.ai (.z zm (.z zm (.z uO (.z zm ?_)))))))
 refine .iB (t':=10) rfl (fun hb10=>?_) (fun hb10=>?_)
 ·refine .gT rfl rfl ?_
  refine .z zm ?_
  refine .gT rfl rfl ?_
  refine .z zm ?_
  refine .gT rfl rfl ?_
  refine .z uO (.z zpT (.z zg (.nil ?_)))
  refine .ret (Fin.bJ Tryz.results221 rfl ?_)
  exact ⟨by simp [*],hs.out⟩
 ·refine .gFs 3 3 true rfl rfl rfl ?_
  refine .z zpF (.z zg (.nil ?_))
  refine .ret (Fin.bJ Tryz.results221 rfl ?_)
  exact ⟨by simp [*],hs.out⟩
theorem nC{many:Int}{l:Lim}(hs:St H w σ):Cl Tryz.prog 232 [I many,.agg l.c.toArray] w fun v w'=>v=I (if decide (0≤many∧many≤64)&&l.ok many then 0 else 20)∧St H w' σ:=by
 refine Cl.o Tryz.func232 Tryz.ntmps232 ag2 ?_
 refine .ai ?_
 refine .bx hs fun b3 w hs=>?_
 refine .z zg (.nil (.seq (.ai (.z zm ?_))))
 refine .o (.call lK rfl (dQ hs) ?_);rintro _ w ⟨rfl,hs⟩
 refine .z ir (.z zm ?_)
 refine .bif (t':=8) rfl (fun hb8=>?_) (fun hb8=>?_)
 ·refine .gFs 5 3 false rfl rfl rfl ?_
  refine .z zpT (.z zm ?_)
  refine .gFs 5 10 false rfl rfl rfl ?_
  refine .z zpT (.z zm ?_)
  refine .gFs 5 17 false rfl rfl rfl ?_
  refine .z zpT (.z zm ?_)
  refine .gFs 4 24 false rfl rfl rfl ?_
  refine .z zpT (.z zm ?_)
  refine .gFs 4 30 false rfl rfl rfl ?_
  refine .z zpT (.nil ?_)
  refine (.cT ?_)
  refine .ai (.z zg (.nil ?_))
  refine .ret (rT (Fin.bJ mT rfl ?_))
  (try simp only [cN] at*)
  (try simp only [br] at*)
  refine ⟨congrArg I ?_,hs.out⟩
  unfold Lim.ok
  first
   |(rw [if_pos (by simp only [Bool.and_eq_true,decide_eq_true_eq];omega)];done)
   |(rw [if_neg (by simp only [Bool.and_eq_true,decide_eq_true_eq];omega)];done)
 ·refine .gT rfl rfl ?_
  refine .z (zfa eA) ?_
  refine .gT rfl rfl ?_
  refine .y hs (zld ae) ?_
  refine .gT rfl rfl ?_
  refine .z zm ?_
  refine .gT rfl rfl ?_
  refine .o (.call lK rfl (dQ hs) ?_);rintro _ w ⟨rfl,hs⟩
  refine .gT rfl rfl ?_
  refine .z ir (.z zpF (.z zm ?_))
  refine .bif (t':=15) rfl (fun hb15=>?_) (fun hb15=>?_)
  ·refine .gFs 5 10 false rfl rfl rfl ?_
   refine .z zpT (.z zm ?_)
   refine .gFs 5 17 false rfl rfl rfl ?_
   refine .z zpT (.z zm ?_)
   refine .gFs 4 24 false rfl rfl rfl ?_
   refine .z zpT (.z zm ?_)
   refine .gFs 4 30 false rfl rfl rfl ?_
   refine .z zpT (.nil ?_)
   refine (.cT ?_)
   refine .ai (.z zg (.nil ?_))
   refine .ret (rT (Fin.bJ mT rfl ?_))
   (try simp only [cN] at*)
   (try simp only [br] at*)
   refine ⟨congrArg I ?_,hs.out⟩
   unfold Lim.ok
   first
    |(rw [if_pos (by simp only [Bool.and_eq_true,decide_eq_true_eq];omega)];done)
    |(rw [if_neg (by simp only [Bool.and_eq_true,decide_eq_true_eq];omega)];done)
  ·refine .gT rfl rfl ?_
   refine .z (zfa eP) ?_
   refine .gT rfl rfl ?_
   refine .y hs (zld ae) ?_
   refine .gT rfl rfl ?_
   refine .z zm ?_
   refine .gT rfl rfl ?_
   refine .o (.call lK rfl (dQ hs) ?_);rintro _ w ⟨rfl,hs⟩
   refine .gT rfl rfl ?_
   refine .z ir (.z zpF (.z zm ?_))
   refine .bif (t':=22) rfl (fun hb22=>?_) (fun hb22=>?_)
   ·refine .gFs 5 17 false rfl rfl rfl ?_
    refine .z zpT (.z zm ?_)
    refine .gFs 4 24 false rfl rfl rfl ?_
    refine .z zpT (.z zm ?_)
    refine .gFs 4 30 false rfl rfl rfl ?_
    refine .z zpT (.nil ?_)
    refine (.cT ?_)
    refine .ai (.z zg (.nil ?_))
    refine .ret (rT (Fin.bJ mT rfl ?_))
    (try simp only [cN] at*)
    (try simp only [br] at*)
    refine ⟨congrArg I ?_,hs.out⟩
    unfold Lim.ok
    first
     |(rw [if_pos (by simp only [Bool.and_eq_true,decide_eq_true_eq];omega)];done)
     |(rw [if_neg (by simp only [Bool.and_eq_true,decide_eq_true_eq];omega)];done)
   ·refine .gT rfl rfl ?_
    refine .z (zfa eA) ?_
    refine .gT rfl rfl ?_
    refine .y hs (zld ae) ?_
    refine .gT rfl rfl ?_
    refine .z (zfa eP) ?_
    refine .gT rfl rfl ?_
    refine .y hs (zld ae) ?_
    refine .gT rfl rfl ?_
    refine .z gC (.z zpF (.z zm ?_))
    refine .iB (t':=29) rfl (fun hb29=>?_) (fun hb29=>?_)
    ·refine .gFs 4 24 false rfl rfl rfl ?_
     refine .z zpT (.z zm ?_)
     refine .gFs 4 30 false rfl rfl rfl ?_
     refine .z zpT (.nil ?_)
     refine (.cT ?_)
     refine .ai (.z zg (.nil ?_))
     refine .ret (rT (Fin.bJ mT rfl ?_))
     (try simp only [cN] at*)
     (try simp only [br] at*)
     refine ⟨congrArg I ?_,hs.out⟩
     unfold Lim.ok
     first
      |(rw [if_pos (by simp only [Bool.and_eq_true,decide_eq_true_eq];omega)];done)
      |(rw [if_neg (by simp only [Bool.and_eq_true,decide_eq_true_eq];omega)];done)
    ·refine .gT rfl rfl ?_
     refine .z (zfa fV) ?_
     refine .gT rfl rfl ?_
     refine .y hs (zld ae) ?_
     refine .gT rfl rfl ?_
     refine .o (.call lK rfl (dQ hs) ?_);rintro _ w ⟨rfl,hs⟩
     refine .gT rfl rfl ?_
     refine .z ir (.z zpF (.z zm ?_))
     refine .bif (t':=35) rfl (fun hb35=>?_) (fun hb35=>?_)
     ·refine .gFs 4 30 false rfl rfl rfl ?_
      refine .z zpT (.nil ?_)
      refine (.cT ?_)
      refine .ai (.z zg (.nil ?_))
      refine .ret (rT (Fin.bJ mT rfl ?_))
      (try simp only [cN] at*)
      (try simp only [br] at*)
      refine ⟨congrArg I ?_,hs.out⟩
      unfold Lim.ok
      first
       |(rw [if_pos (by simp only [Bool.and_eq_true,decide_eq_true_eq];omega)];done)
       |(rw [if_neg (by simp only [Bool.and_eq_true,decide_eq_true_eq];omega)];done)
     ·refine .gT rfl rfl ?_
      refine .z (zfa jM) ?_
      refine .gT rfl rfl ?_
      refine .y hs (zld ae) ?_
      refine .gT rfl rfl ?_
      refine .o (.call lK rfl (dQ hs) ?_);rintro _ w ⟨rfl,hs⟩
      refine .gT rfl rfl ?_
      refine .z ir (.z zpF (.nil ?_))
      refine (.cond rfl (fun hc40=>?_) (fun hc40=>?_))
      ·refine .ai (.z zg (.nil ?_))
       refine .ret (rT (Fin.bJ mT rfl ?_))
       (try simp only [cN] at*)
       (try simp only [br] at*)
       refine ⟨congrArg I ?_,hs.out⟩
       unfold Lim.ok
       first
        |(rw [if_pos (by simp only [Bool.and_eq_true,decide_eq_true_eq];omega)];done)
        |(rw [if_neg (by simp only [Bool.and_eq_true,decide_eq_true_eq];omega)];done)
      ·refine .skip ?_
       refine nT ?_
       refine .ai (.z zg (.nil ?_))
       refine .ret (Fin.bJ mT rfl ?_)
       (try simp only [cN] at*)
       (try simp only [br] at*)
       refine ⟨congrArg I ?_,hs.out⟩
       unfold Lim.ok
       first
        |(rw [if_pos (by simp only [Bool.and_eq_true,decide_eq_true_eq];omega)];done)
        |(rw [if_neg (by simp only [Bool.and_eq_true,decide_eq_true_eq];omega)];done)
theorem mN{v:Value}{s:cM}(hs:St H w σ)(hr:RSy H v s):Cl Tryz.prog 182 [v] w fun v w'=>v=I s.check∧St H w' σ:=by
 obtain ⟨u,rfl,hr⟩:=hr
 obtain ⟨a,c,rfl⟩:=RL.shape hr
 have hlen:=(RS.len (RS.F2 hr (Nat.le_refl _) (cap':=s.cO.length))).2.2
 refine Cl.o Tryz.func182 Tryz.ntmps182 ag1 ?_
 refine .ai ?_
 refine .bx hs fun b1 w hs=>?_
 refine .z zg (.nil (.seq (.ai (.z (zfa bH) (.y hs (zld ae) ?_)))))
 refine .o (.call lK rfl (dQ hs) ?_);rintro _ w ⟨rfl,hs⟩
 refine .z ir (.nil ?_)
 refine (.cond rfl (fun hc8=>?_) (fun hc8=>?_))
 ·refine .ai (.z zg (.nil ?_))
  refine .ret (rT (Fin.bJ Tryz.results182 rfl ?_))
  exact ⟨congrArg I (by unfold cM.check;rw [if_pos (by simp at hc8;omega)]),hs.out⟩
 ·refine .skip ?_
  refine nT ?_
  refine .seq (.ai (.z (zfa bO) (.y hs (zld cH) (.z (c9 aP) (.z kD (.nil ?_))))))
  refine (.bM rfl (fun hc12=>?_) (fun hc12=>?_))
  ·refine .ai (.z zg (.nil ?_))
   refine .ret (rT (Fin.bJ Tryz.results182 rfl ?_))
   exact ⟨congrArg I (by unfold cM.check;rw [if_neg (by simpa using hc8),if_pos aj]),hs.out⟩
  ·refine .skip ?_
   refine nT ?_
   refine .seq (.ai (.z (zfa bO) (.y hs (zld cH) (.z (c9 aP) (.z zm (.nil ?_))))))
   refine .for (N:=s.cO.length) (J:=fun k fr w=>fr=[(14,.slice a s.cO.length c),(1,.pointer (some ⟨b1,0,none⟩))]∧(∀j<k,∀l,s.cO[j]? =some l→l.ok s.many=true)∧St H w (.blk b1 [I s.many,.slice a s.cO.length c]::σ)) aj ?_ ?_ ?_
   ·exact .mk ⟨rfl,fun j hj=>by omega,hs⟩
   ·rintro k fr w hk ⟨rfl,hno,hs⟩
    obtain ⟨x,hx⟩:=nth (l:=s.cO) hk
    refine .block (.ai ?_)
    refine .ixX (enc:=Lim.c) hs hr rfl rfl aP bq hx rfl ?_;intro b18 o18 hc18
    refine .q hs (cI (vs:=x.c) rfl fF bq hc18) ?_
    refine .o (.alloc hs ez rfl fun b4 w hs=>?_)
    refine .o (.aU (vs:=x.c) hs rfl rfl bq fun w hs=>?_)
    refine .nil (.ai (.z (zfa bH) (.y hs (zld ae) ?_)))
    refine .q hs (kJ (vs:=x.c) rfl fF bq) ?_
    refine .o (.call Tryz.call232 rfl (nC hs) ?_);rintro _ w ⟨rfl,hs⟩
    have hmm:0≤s.many∧s.many≤64:=by simpa using hc8
    rw [show (decide (0≤s.many∧s.many≤64)&&x.ok s.many)=x.ok s.many by rw [decide_eq_true hmm];rfl]
    refine .z ij (.nil ?_)
    refine (.eQ rfl (fun hc24=>?_) (fun hc24=>?_))
    ·refine .ai (.z zg (.nil ?_))
     refine .ret (rB (rT (rB (rT (Fin.bJ Tryz.results182 rfl ?_)))))
     exact ⟨congrArg I (by
      have hx0:x.ok s.many=false:=by cases e:x.ok s.many with|false=>rfl|true=>rw [e] at hc24;simp at hc24
      unfold cM.check;rw [if_neg (by simpa using hc8),if_neg aj,if_pos (List.any_eq_true.2 ⟨x,List.mem_of_getElem? hx,by rw [hx0];rfl⟩)]),hs.out⟩
    ·refine .skip ?_
     refine nB (nT ?_)
     exact .mk ⟨rfl,fw hno hx (by cases e:x.ok s.many with|true=>rfl|false=>rw [e] at hc24;simp at hc24),hs.tail⟩
   ·rintro fr w ⟨rfl,hno,hs⟩
    refine nT ?_
    refine .ai (.z zg (.nil ?_))
    refine .ret (Fin.bJ Tryz.results182 rfl ?_)
    exact ⟨congrArg I (by
     have hall:(s.cO.any fun l=> !l.ok s.many)=false:=by
      simp only [List.any_eq_false,Bool.not_eq_true',Bool.not_eq_false]
      intro l hl
      obtain ⟨j,hj⟩:=List.getElem?_of_mem hl
      exact hno j (List.getElem?_eq_some_iff.1 hj).1 l hj
     unfold cM.check;rw [if_neg (by simpa using hc8),if_neg aj,hall];rfl),hs.out⟩
theorem su{v:Value}{ws:List Int}(hs:St H w σ)(hr:RI H v ws):Cl Tryz.prog 271 [v] w fun v w'=>∃b,v= .bool b∧(b=true↔gM ws)∧St H w' σ:=by
 obtain ⟨a,c,rfl⟩:=RI.shape hr
 have hl:=(RI.len hr).2.2
 refine Cl.o Tryz.func271 Tryz.ntmps271 ag1 ?_
 refine .ai (.z zg (.nil (.ai (.z zg (.nil (.seq (.ai (.z zm (.z (c9 aa) ?_)))))))))
 refine .z zm (.nil ?_)
 refine .for (N:=ws.length) (J:=fun k fr w=>fr=[(6,.slice a ws.length c),(3,I (bG ws k))]∧bG ws k≤3600000000000∧St H w σ) aj ?_ ?_ ?_
 ·exact .mk ⟨rfl,by simp [bG,aV],hs⟩
 ·rintro k fr w hk ⟨rfl,hle,hs⟩
  have hx:=bL hk
  have h0:0≤bG ws k:=cP fun v _=>by omega
  have h1:bG ws (k+1)=bG ws k+max (gi ws k) (-gi ws k):=rfl
  refine .block (.ai ?_)
  first|(refine .ixv hs aa af ?_;intro b10 o10 hc10)|refine .z (zix aa af) ?_
  refine .y hs (zld ae) (.z zg (.nil (.seq (.ai (.z zm (.z gx (.z zm ?_)))))))
  refine .iB (t':=14) rfl (fun hb14=>?_) (fun hb14=>?_)
  ·refine .gFs 2 2 false rfl rfl rfl ?_
   refine .z zpT (.nil ?_)
   refine (.cT ?_)
   refine .ai (.z zg (.nil ?_))
   refine .ret (rT (rB (rT (rB (rT (Fin.bJ Tryz.results271 rfl ?_))))))
   exact ⟨false,rfl,⟨fun h=>(by cases h),fun h=>(lT (k:=k+1) hk (by simp only [FF];omega) h).elim⟩,hs⟩
  ·refine .gT rfl rfl ?_
   refine .z zm ?_
   refine .gT rfl rfl ?_
   refine .z kD (.z zpF (.nil ?_))
   refine (.bM rfl (fun hc17=>?_) (fun hc17=>?_))
   ·refine .ai (.z zg (.nil ?_))
    refine .ret (rT (rB (rT (rB (rT (Fin.bJ Tryz.results271 rfl ?_))))))
    exact ⟨false,rfl,⟨fun h=>(by cases h),fun h=>(lT (k:=k+1) hk (by simp only [FF];omega) h).elim⟩,hs⟩
   ·refine .skip ?_
    refine nT ?_
    refine .ai (.z zm (.z zm (.z zm (.z uN (.z DM (.z cq (.z zg (.nil (.ai ?_)))))))))
    refine .z zm (.z kD (.nil ?_))
    refine (.bM rfl (fun hc25=>?_) (fun hc25=>?_))
    ·refine .ai (.z zg (.nil ?_))
     refine .ret (rB (rT (rB (rT (Fin.bJ Tryz.results271 rfl ?_)))))
     exact ⟨false,rfl,⟨fun h=>(by cases h),fun h=>(lT (k:=k+1) hk (by simp only [FF];omega) h).elim⟩,hs⟩
    ·refine .skip ?_
     refine nB (nT ?_)
     exact .mk ⟨rfl,aj,hs⟩ (hs:= .cons rfl (.cons rfl (.cons rfl (.cj rfl aj (.nil rfl rfl)))))
 ·rintro fr w ⟨rfl,hle,hs⟩
  refine nT ?_
  refine .ai (.z zg (.nil ?_))
  refine .ret (Fin.bJ Tryz.results271 rfl ?_)
  exact ⟨true,rfl,⟨fun _=>hle,fun _=>rfl⟩,hs⟩
theorem qc{v vw:Value}{s:cM}{ws:List Int}(hs:St H w σ)(hr:RSy H v s)(hrw:RI H vw ws)(hm:0≤s.many∧s.many≤64):Cl Tryz.prog 225 [v,vw] w fun v w'=>∃b,v= .bool b∧(b=true↔(ws.length=s.n∧gM ws))∧St H w' σ:=by
 obtain ⟨u,rfl,hr⟩:=hr
 obtain ⟨aw,cw,rfl⟩:=RI.shape hrw
 have hn:(s.n:Int)=s.many+1:=by simp only [cM.n];omega
 refine Cl.o Tryz.func225 Tryz.ntmps225 ag2 ?_
 refine .ai ?_
 refine .bx hs fun b2 w hs=>?_
 refine .z zg (.nil (.ai (.z zm (.z (c9 aa) (.z (zfa bH) (.y hs (zld ae) (.z cq (.z gC (.z zm ?_)))))))))
 refine .iB (t':=11) rfl (fun hb11=>?_) (fun hb11=>?_)
 ·refine .gT rfl rfl ?_
  refine .z zm ?_
  refine .gT rfl rfl ?_
  refine .o (.call Tryz.call271 rfl (su hs hrw) ?_);rintro _ w ⟨b,rfl,hb,hs⟩
  refine .z zpT (.z zg (.nil ?_))
  refine .ret (Fin.bJ Tryz.results225 rfl ?_)
  first
   |exact ⟨b,rfl,⟨fun h=>⟨aj,hb.1 h⟩,fun h=>hb.2 h.2⟩,hs.out⟩
   |exact ⟨false,rfl,⟨fun h=>(by cases h),fun h=>by omega⟩,hs.out⟩
 ·refine .gFs 2 6 true rfl rfl rfl ?_
  refine .z zpF (.z zg (.nil ?_))
  refine .ret (Fin.bJ Tryz.results225 rfl ?_)
  first
   |exact ⟨b,rfl,⟨fun h=>⟨aj,hb.1 h⟩,fun h=>hb.2 h.2⟩,hs.out⟩
   |exact ⟨false,rfl,⟨fun h=>(by cases h),fun h=>by omega⟩,hs.out⟩
theorem mK{v vw:Value}{s:cM}{ws:List Int}(hs:St H w σ)(hr:RSy H v s)(hrw:RI H vw ws):Cl Tryz.prog 170 [v,vw] w fun v w'=>v=I (dT s ws)∧St H w' σ:=by
 obtain ⟨u,rfl,hr⟩:=hr
 obtain ⟨al,cl,rfl⟩:=RL.shape hr
 obtain ⟨aw,cw,rfl⟩:=RI.shape hrw
 refine Cl.o Tryz.func170 Tryz.ntmps170 ag2 ?_
 refine .ai ?_
 refine .bx hs fun b2 w hs=>?_
 refine .z zg (.nil (.ai (.y hs (zls [_,_] aT aE) ?_)))
 refine .o (.call Tryz.call182 rfl (mN (s:=s) hs ⟨_,rfl,hr⟩) ?_);rintro _ w ⟨rfl,hs⟩
 refine .z zg (.nil (.seq (.ai (.z zm (.z gC (.z zm ?_))))))
 refine .iB (t':=10) rfl (fun hb10=>?_) (fun hb10=>?_)
 ·refine .gT rfl rfl ?_
  have hok:=s.dt.1 hb10
  have hm0:=hok.m0;have hm1:=hok.m1
  refine .y hs (zls [_,_] aT aE) ?_
  refine .gT rfl rfl ?_
  refine .z zm ?_
  refine .gT rfl rfl ?_
  refine .o (.call Tryz.call225 rfl (qc (s:=s) hs ⟨_,rfl,hr⟩ hrw ⟨hm0,hm1⟩) ?_);rintro _ w ⟨b,rfl,hb,hs⟩
  refine .gT rfl rfl ?_
  refine .z ir (.z zpT (.nil ?_))
  refine (.cond rfl (fun hc15=>?_) (fun hc15=>?_))
  ·refine .region (.z zg (.nil ?_))
   refine nT ?_
   refine .ai (.z zm (.z zg (.nil ?_)))
   refine .ret (Fin.bJ Tryz.results170 rfl ?_)
   refine ⟨congrArg I ?_,hs.out⟩
   unfold dT
   first
    |(rw [if_neg aj,if_neg (fun h=>by have:=hb.2 h;simp_all)];done)
    |(rw [if_neg aj,if_pos (hb.1 (by simpa using hc15))];omega)
    |(rw [if_pos cD];done)
  ·refine .skip ?_
   refine nT ?_
   refine .ai (.z zm (.z zg (.nil ?_)))
   refine .ret (Fin.bJ Tryz.results170 rfl ?_)
   refine ⟨congrArg I ?_,hs.out⟩
   unfold dT
   first
    |(rw [if_neg aj,if_neg (fun h=>by have:=hb.2 h;simp_all)];done)
    |(rw [if_neg aj,if_pos (hb.1 (by simpa using hc15))];omega)
    |(rw [if_pos cD];done)
 ·refine .gFs 4 2 true rfl rfl rfl ?_
  refine .z zpF (.nil ?_)
  refine (.cF ?_)
  refine .skip ?_
  refine nT ?_
  refine .ai (.z zm (.z zg (.nil ?_)))
  refine .ret (Fin.bJ Tryz.results170 rfl ?_)
  refine ⟨congrArg I ?_,hs.out⟩
  unfold dT
  first
   |(rw [if_neg aj,if_neg (fun h=>by have:=hb.2 h;simp_all)];done)
   |(rw [if_neg aj,if_pos (hb.1 (by simpa using hc15))];omega)
   |(rw [if_pos cD];done)
theorem pq{v:Value}{ws:List Int}(hs:St H w σ)(hr:RI H v ws)(hl:ws.length≤1000)(hz:gM ws):Cl Tryz.prog 228 [v] w fun u w'=>∃H1,HLe H H1∧RI H1 u (qs ws)∧St H1 w' σ:=by
 obtain ⟨a,c,rfl⟩:=RI.shape hr
 have hFF:FF=3600000000000:=rfl
 unfold gM at hz
 refine Cl.o Tryz.func228 Tryz.ntmps228 ag1 ?_
 refine .ai (.z zg (.nil (.ai (.z zg (.nil (.seq (.ai (.z zm (.z (c9 aa) ?_)))))))))
 refine .z zm (.nil ?_)
 refine .for (N:=ws.length) (J:=fun k fr w=>∃v3 en,cn 1 v3 (Is (qs (ws.take k))) en∧fr=[(3,v3),(6,.slice a ws.length c)]∧St H w (en::σ)) aj ?_ ?_ ?_
 ·exact .mk ⟨_,_,.nil 1 none,rfl,hs.nul⟩
 ·rintro k fr w hk ⟨v3,en,hO,rfl,hs⟩
  have hx:=bL hk
  have hsz:=iJ ws (v:=k) (n:=ws.length) hk
  refine .block (.ai ?_)
  refine .ixY hs hr rfl rfl aa af hx rfl ?_;intro b10 o10 hc10
  refine .q hs (aK rfl ae hc10) ?_
  refine .z zg (.nil (.region (.z zm (.z zm (.z uN ?_)))))
  refine .o (.buildSlice (cells:=[_]) hs dv rfl rfl fun b15 w hs=>?_)
  refine .o (.append (ys:=[I (-gi ws k)]) hs cV rfl rfl hO (.own .here rfl rfl) (by simp [Value.oneCell']) (fun l' h=>by simp [qs] at h;omega) ?_);intro v16 en16 w hO2 hs
  refine .z zg (.nil ?_)
  refine nB (nT ?_)
  exact .mk ⟨v16,en16,by rw [ep hx];simpa [qs] using hO2,rfl,hs.sb⟩
 ·rintro fr w ⟨v3,en,hO,rfl,hs⟩
  rw [List.take_length] at hO
  refine nT ?_
  refine .ai (.z zm (.z zg (.nil ?_)))
  refine .ret (Fin.bJ Tryz.results228 rfl ?_)
  obtain ⟨H2,g1,g2,hs⟩:=hO.dI (by simp [qs];omega) hs .here
  exact ⟨H2,g1,g2,hs⟩
theorem ny{vm vw:Value}{s:cM}{Ms:List (List Int)}{ws:List Int}(hs:St H w σ)(hM:RT H vm Ms)(hqM:Sq s.n Ms)(hT:iR s.n s.dh (gt Ms))(hrw:RI H vw ws)(hA:dT s ws=0):
  Cl Tryz.prog 227 [vm,vw] w fun u w'=>∃H1 n e,HLe H H1∧u= .tuple #[I n,I e]∧kR s ws n e∧St H1 w' σ:=by
 obtain ⟨hok,hwl,hz⟩:=jv hA
 have hinn:=hok.inn
 have hn65:=hok.n65
 have hnp:=s.tF
 obtain ⟨fs,hF⟩:=zU s.n (gt Ms)
 have hsd:=uV hok hT
 have hz2:bG ws s.n≤FF:=by unfold gM at hz;rwa [hwl] at hz
 refine Cl.o Tryz.func227 Tryz.ntmps227 ag2 ?_
 refine .ai (.z zg (.z zg (.nil (.seq (.ai (.z zm ?_))))))
 refine .o (.call Tryz.call233 rfl (mL hs hM hqM aj) ?_);rintro _ w ⟨b,rfl,hb,hs⟩
 refine .z ir (.nil ?_)
 refine (.cond rfl (fun hc10=>?_) (fun hc10=>?_))
 ·refine .ai (.z zg (.z zg (.nil ?_)))
  refine .ret (rT (Fin.nh Tryz.results227 rfl rfl ?_))
  have hb0:b=false:=by simpa using hc10
  exact ⟨H,0,23,HLe.refl H,rfl,tG hA (fun h=>by have:=hb.2 (hsd.1 h);rw [hb0] at this;cases this),hs⟩
 ·refine .skip ?_
  refine nT ?_
  refine .ai (.z zm (.z zm ?_))
  have hso:s.Sound:=hsd.2 (hb.1 (by simpa using hc10))
  refine .o (.call Tryz.call272 rfl (sx (n:=s.many.toNat) (es:=fs) hs hM hqM hrw hwl hn65 hz2 hF (by obtain ⟨p,hp⟩:=hso;exact ⟨p,(hT.Bt hinn hF).2 hp⟩)
   (fun x hx=>by
    obtain ⟨b1,b2,b3,b4,b5⟩:=hF.ok x hx
    have h1:=hT.up x.f x.t b1 b2 (by rw [b4];exact b5)
    have h2:=hT.low hnp hn65 hinn hso b1 b2 (by rw [b4];exact b5)
    rw [b4] at h1 h2
    exact ⟨h2,h1⟩)
   (fun m hm=>by
    have:=(hok.bd hwl hz ((hT.opt hinn hF).1 hm)).2
    exact ⟨this.2,this.1⟩)) ?_);rintro _ w ⟨H1,n,ok,hle1,rfl,hcase,hs⟩
  refine .z zm (.z zex (.z zex (.z zg (.z zg (.nil (.seq (.ai (.z zm (.z ir ?_)))))))))
  refine .nil ?_
  refine (.cond rfl (fun hc18=>?_) (fun hc18=>?_))
  ·refine .ai (.z zg (.z zg (.nil ?_)))
   refine .ret (rT (Fin.nh Tryz.results227 rfl rfl ?_))
   have hk0:ok=false:=by simpa using hc18
   rcases hcase with ⟨h,_⟩|⟨_,h⟩
   ·rw [hk0] at h;cases h
   ·exact ⟨H1,0,22,hle1,rfl,Ae hA hso hT hF h,hs⟩
  ·refine .skip ?_
   refine nT ?_
   refine .ai (.z zm (.z zg (.z zg (.nil ?_))))
   refine .ret (Fin.nh Tryz.results227 rfl rfl ?_)
   have hk0:ok=true:=by simpa using hc18
   rcases hcase with ⟨_,h⟩|⟨h,_⟩
   ·exact ⟨H1,n,0,hle1,rfl,Ba hA hT hF h,hs⟩
   ·rw [hk0] at h;cases h
theorem tt{v vw:Value}{s:cM}{ws:List Int}(hs:St H w σ)(hr:RSy H v s)(hrw:RI H vw ws)(hA:dT s ws=0):
  Cl Tryz.prog 171 [v,vw] w fun u w'=>∃H1 lo hi e,HLe H H1∧u= .tuple #[I lo,I hi,I e]∧fD s ws lo hi e∧St H1 w' σ:=by
 obtain ⟨u,rfl,hr⟩:=hr
 obtain ⟨al,cl,rfl⟩:=RL.shape hr
 obtain ⟨hok,hwl,hz⟩:=jv hA
 have hn65:=hok.n65
 have hBB:BB=4608000000000000000:=rfl
 refine Cl.o Tryz.func171 Tryz.ntmps171 ag2 ?_
 refine .ai ?_
 refine .bx hs fun b2 w hs=>?_
 refine .z zg (.z zg (.z zg (.nil (.ai (.y hs (zls [_,_] aT aE) ?_)))))
 refine .o (.call Tryz.call226 rfl (nz (s:=s) hs ⟨_,rfl,hr⟩ hok) ?_);rintro _ w ⟨H1,Ms,hle1,hM,hqM,hT,hs⟩
 refine .z zg (.nil (.ai (.z zm (.z zm ?_))))
 refine .o (.call Tryz.call227 rfl (ny (s:=s) hs hM hqM hT (hrw.mono hle1) hA) ?_);rintro _ w ⟨H2,n,e,hle2,rfl,hR,hs⟩
 refine .z zm (.z zex (.z zex (.z zg (.z zg (.nil (.seq (.ai (.z zm (.z ij ?_)))))))))
 refine .nil ?_
 refine (.eQ rfl (fun hc20=>?_) (fun hc20=>?_))
 ·refine .ai (.z zm (.z zg (.z zg (.z zg (.nil ?_)))))
  refine .ret (rT (Fin.Dx Tryz.results171 rfl rfl rfl ?_))
  exact ⟨H2,0,0,e,hle1.trans hle2,rfl,.first hR hc20,hs.out⟩
 ·refine .skip ?_
  refine nT ?_
  refine .ai (.z zm (.z zm ?_))
  obtain rfl:e=0:=by simpa using hc20
  refine .o (.call Tryz.call228 rfl (pq hs ((hrw.mono hle1).mono hle2) aj hz) ?_);rintro _ w ⟨H3,hle3,hN,hs⟩
  refine .o (.call Tryz.call227 rfl (ny (s:=s) (ws:=qs ws) hs ((hM.mono hle2).mono hle3) hqM hT hN (by rw [oy];exact hA)) ?_);rintro _ w ⟨H4,n2,e2,hle4,rfl,hR2,hs⟩
  refine .z zm (.z zex (.z zex (.z zg (.z zg (.nil (.seq (.ai (.z zm (.z ij ?_)))))))))
  refine .nil ?_
  refine (.eQ rfl (fun hc30=>?_) (fun hc30=>?_))
  ·refine .ai (.z zm (.z zg (.z zg (.z zg (.nil ?_)))))
   refine .ret (rT (Fin.Dx Tryz.results171 rfl rfl rfl ?_))
   exact ⟨H4,0,0,e2,hle1.trans (hle2.trans (hle3.trans hle4)),rfl,.second hR hR2 hc30,hs.out⟩
  ·refine .skip ?_
   refine nT ?_
   refine .ai (.z zm ?_)
   obtain rfl:e2=0:=by simpa using hc30
   have hbd:=(hR2.2.2 rfl).2
   refine .z uN (.z zm (.z zg (.z zg (.z zg (.nil ?_)))))
   refine .ret (Fin.Dx Tryz.results171 rfl rfl rfl ?_)
   exact ⟨H4,-n2,n,0,hle1.trans (hle2.trans (hle3.trans hle4)),rfl,.ok hR hR2,hs.out⟩
theorem sw{v vw:Value}{s:cM}{ws:List Int}(hs:St H w σ)(hr:RSy H v s)(hrw:RI H vw ws):
  Cl Tryz.prog 88 [v,vw] w fun u w'=>∃H1 lo hi e,HLe H H1∧u= .tuple #[I lo,I hi,I e]∧fD s ws lo hi e∧St H1 w' σ:=by
 obtain ⟨u,rfl,hr⟩:=hr
 obtain ⟨al,cl,rfl⟩:=RL.shape hr
 obtain ⟨aw,cw,rfl⟩:=RI.shape hrw
 refine Cl.o Tryz.func88 Tryz.ntmps88 ag2 ?_
 refine .ai ?_
 refine .bx hs fun b2 w hs=>?_
 refine .z zg (.z zg (.z zg (.nil (.ai (.y hs (zls [_,_] aT aE) (.z zm ?_))))))
 refine .o (.call Tryz.call170 rfl (mK (s:=s) hs ⟨_,rfl,hr⟩ hrw) ?_);rintro _ w ⟨rfl,hs⟩
 refine .z zg (.nil (.seq (.ai (.z zm (.z ij (.nil ?_))))))
 refine (.eQ rfl (fun hc12=>?_) (fun hc12=>?_))
 ·refine .ai (.z zm (.z zg (.z zg (.z zg (.nil ?_)))))
  refine .ret (rT (Fin.Dx Tryz.results88 rfl rfl rfl ?_))
  exact ⟨H,0,0,_,HLe.refl H,rfl,.first ⟨.bad hc12,fun _=>rfl,fun h=>(hc12 h).elim⟩ hc12,hs.out⟩
 ·refine .skip ?_
  refine nT ?_
  refine .ai (.y hs (zls [_,_] aT aE) (.z zm ?_))
  have hA:dT s ws=0:=by simpa using hc12
  refine .o (.call Tryz.call171 rfl (tt (s:=s) hs ⟨_,rfl,hr⟩ hrw hA) ?_);rintro _ w ⟨H1,lo,hi,e,hle1,rfl,hR,hs⟩
  refine .z zex (.z zex (.z zex (.z zg (.z zg (.z zg (.nil ?_))))))
  refine .ret (Fin.Dx Tryz.results88 rfl rfl rfl ?_)
  exact ⟨H1,lo,hi,e,hle1,rfl,hR,hs.out⟩
set_option maxHeartbeats 8000000 in
theorem nA{v vw vp:Value}{s:cM}{ws:List Int}{n:Int}{us:List Use}(hs:St H w σ)(hr:RSy H v s)(hrw:RI H vw ws)(hp:RPf H vp n us):
  Cl Tryz.prog 157 [v,vw,vp] w fun v w'=>∃e,v=I e∧vA s ws n us e∧St H w' σ:=by
 obtain ⟨u,rfl,hr⟩:=hr
 obtain ⟨al,cl,rfl⟩:=RL.shape hr
 obtain ⟨aw,cw,rfl⟩:=RI.shape hrw
 obtain ⟨uu,rfl,hU⟩:=hp
 obtain ⟨au,cu,rfl⟩:=RU.shape hU
 refine Cl.o Tryz.func157 Tryz.ntmps157 ag3 ?_
 refine .ai ?_
 refine .bx hs fun b3 w hs=>?_
 refine .bx hs fun b5 w hs=>?_
 refine .z zg (.nil (.ai (.y hs (zls [_,_] aT aE) (.z zm ?_))))
 refine .o (.call Tryz.call170 rfl (mK (s:=s) hs ⟨_,rfl,hr⟩ hrw) ?_);rintro _ w ⟨rfl,hs⟩
 refine .z zg (.nil (.seq (.ai (.z zm (.z ij (.nil ?_))))))
 refine (.eQ rfl (fun hc19=>?_) (fun hc19=>?_))
 ·refine .ai (.z zm (.z zg (.nil ?_)))
  refine .ret (rT (Fin.bJ mU rfl ?_))
  exact ⟨_,rfl,.ask hc19,hs.out⟩
 ·refine .skip ?_
  refine nT ?_
  refine .seq (.ai (.z (zfa cU) (.y hs (zld eZ) (.z (c9 bD) (.z kD (.nil ?_))))))
  refine (.bM rfl (fun hc24=>?_) (fun hc24=>?_))
  ·refine .ai (.z zg (.nil ?_))
   refine .ret (rT (Fin.bJ mU rfl ?_))
   exact ⟨_,rfl,.bad (by simpa using hc19) (fun h=>by have:=h.len;omega),hs.out⟩
  ·refine .skip ?_
   refine nT ?_
   refine .ai (.z (zfa bH) (.y hs (zld ae) ?_))
   have hA:dT s ws=0:=by simpa using hc19
   obtain ⟨hok,hwl,hz⟩:=jv hA
   have hm0:=hok.m0
   have hn65:=hok.n65
   have hll:=hok.len
   have hmn:s.many+1=(s.n:Int):=by simp only [cM.n];omega
   refine .z cq ?_
   rw [hmn]
   refine .o (.oE s.n hs rfl rfl aa dC rfl af bI aj fun b28 w hs=>?_)
   refine .z zg (.nil (.ai (.z zg (.nil (.ai (.z zg (.nil (.seq (.ai ?_)))))))))
   refine .z (zfa cU) (.y hs (zld eZ) (.z (c9 bD) (.z zm (.nil ?_))))
   refine .for (N:=us.length) (J:=fun k fr w=>fr=[(30,.slice au us.length cu),(8,.slice (some ⟨b28,0,none⟩) s.n s.n),(9,I (fS us k)),(10,I (ju s us k)),(3,.pointer (some ⟨b3,0,none⟩)),(5,.pointer (some ⟨b5,0,none⟩)),(1,.slice aw ws.length cw)]∧∃C,(C.length=s.n∧∀v<s.n,gi C v=nF s us k v)∧(∀i<k,qR s us i)∧fS us k≤230400000000000∧St H w (.blk b28 (Is C):: .blk b5 [I n,.slice au us.length cu]:: .blk b3 [I s.many,.slice al s.cO.length cl]::σ)) aj ?_ ?_ ?_
   ·exact .mk ⟨rfl,_,⟨bV,fun v hv=>by rw [du _ _ hv];rfl⟩,fun i hi=>by omega,by simp [fS,aV],hs⟩
   ·rintro k fr w hk ⟨rfl,C,⟨hC1,hC2⟩,hUs,hTm,hs⟩
    have hx:=zf hk
    refine .block (.ai (.z zm ?_))
    refine .ixX (enc:=Use.c) hs hU rfl rfl bD dD hx rfl ?_;intro b35 o35 hc35
    refine .q hs (cI (vs:=(gu us k).c) rfl Tryz.isAgg220 dD hc35) ?_
    refine .o (.alloc hs oN rfl fun b12 w hs=>?_)
    refine .z zg ?_
    refine .o (.aU (vs:=(gu us k).c) hs rfl rfl dD fun w hs=>?_)
    refine .nil (.seq ?_)
    refine .cut (fun fs w=>∃p,j9 fs ⟨124,[],[(66,.bool p),(12,.pointer (some ⟨b12,0,none⟩)),(32,I (k:Int)),(31,I (us.length:Int)),(30,.slice au us.length cu),(8,.slice (some ⟨b28,0,none⟩) s.n s.n),(9,I (fS us k)),(10,I (ju s us k)),(3,.pointer (some ⟨b3,0,none⟩)),(5,.pointer (some ⟨b5,0,none⟩)),(1,.slice aw ws.length cw)]⟩∧(p=true→¬qR s us k)∧(p=false→qR s us k)∧St H w (.blk b12 (gu us k).c:: .blk b28 (Is C):: .blk b5 [I n,.slice au us.length cu]:: .blk b3 [I s.many,.slice al s.cO.length cl]::σ)) ?_ ?_
    ·refine .draw mix rfl hs fun w hs=>?_
     refine .z 0 rfl (zfa fN) ?_;refine .y 1 rfl hs ae ?_;refine .z 2 rfl (zfa bO) ?_;refine .y 3 rfl hs cH ?_;refine .z 4 rfl (c9 aP) ?_;refine .z 5 rfl gW ?_
     refine .E 6 hs ?_
     refine .call lK rfl (dQ hs) ?_;rintro _ w ⟨rfl,hs⟩
     refine .go ?_
     refine .z 7 rfl ir ?_;refine .z 8 rfl zm ?_
     refine .bif (t':=45) rfl (fun hb45=>?_) (fun hb45=>?_)
     ·refine .qF (i:=9) rfl an rfl rfl ?_
      refine .qF (i:=10) rfl an rfl rfl ?_
      refine .qF (i:=11) rfl an rfl rfl ?_
      refine .qF (i:=12) rfl an rfl rfl ?_
      refine .qF (i:=13) rfl an rfl rfl ?_
      refine .qF (i:=14) rfl an rfl rfl ?_
      refine .qF (i:=15) rfl an rfl rfl ?_
      refine .qF (i:=16) rfl an rfl rfl ?_
      refine .qF (i:=17) rfl an rfl rfl ?_
      refine .qF (i:=18) rfl an rfl rfl ?_
      refine .qF (i:=19) rfl an rfl rfl ?_
      refine .qF (i:=20) rfl an rfl rfl ?_
      refine .qF (i:=21) rfl an rfl rfl ?_
      refine .qF (i:=22) rfl an rfl rfl ?_
      refine .z 23 rfl zpT ?_;refine .z 24 rfl zm ?_
      refine .qF (i:=25) rfl an rfl rfl ?_
      refine .qF (i:=26) rfl an rfl rfl ?_
      refine .qF (i:=27) rfl an rfl rfl ?_
      refine .qF (i:=28) rfl an rfl rfl ?_
      refine .z 29 rfl zpT ?_;refine .D hs ?_
      exact nT ⟨_,aR,by
       intro hp hU
       have h1:=hU.l0;have h2:=hU.l1;have h3:=hU.t0;have h4:=hU.t1;have h5:=hU.ord
       first
        |(cases hp;done)
        |(have:=cN.1 hb45;omega)
        |(have:=h5 aj;omega)
        |(have:=cN.1 hp;omega),by
       intro hp
       first
        |(cases hp;done)
        |exact ⟨by have:=br.1 hb45;omega,by have:=br.1 hb45;omega,by have:=br.1 hp;omega,by have:=br.1 hp;omega,fun h=>by omega⟩,hs⟩
     ·refine .z 9 rfl zm ?_;refine .z 10 rfl kD ?_;refine .z 11 rfl zm ?_
      refine .iB (t':=48) rfl (fun hb48=>?_) (fun hb48=>?_)
      ·refine .z 12 rfl (zfa cU) ?_;refine .y 13 rfl hs eZ ?_;refine .z 14 rfl zm ?_;refine .z 15 rfl gW ?_
       refine .ixX (enc:=Use.c) (i:=16) hs rfl an (.some rfl rfl) hU rfl rfl bD dD (zf (i:=k - 1) aj) aj ?_;intro b53 o53 hc53
       refine .z 17 rfl (zfa fN) ?_
       refine .r (i:=18) hs rfl an (.some rfl rfl) (aK rfl ae (hc53.get 0 rfl)) ?_
       refine .z 19 rfl (zfa fN) ?_;refine .y 20 rfl hs ae ?_;refine .z 21 rfl vD ?_;refine .z 22 rfl zpT ?_;refine .z 23 rfl zpF ?_;refine .z 24 rfl zm ?_
       refine .iB (t':=61) rfl (fun hb61=>?_) (fun hb61=>?_)
       ·refine .qF (i:=25) rfl an rfl rfl ?_
        refine .qF (i:=26) rfl an rfl rfl ?_
        refine .qF (i:=27) rfl an rfl rfl ?_
        refine .qF (i:=28) rfl an rfl rfl ?_
        refine .z 29 rfl zpT ?_;refine .D hs ?_
        exact nT ⟨_,aR,by
         intro hp hU
         have h1:=hU.l0;have h2:=hU.l1;have h3:=hU.t0;have h4:=hU.t1;have h5:=hU.ord
         first
          |(cases hp;done)
          |(have:=cN.1 hb45;omega)
          |(have:=h5 aj;omega)
          |(have:=cN.1 hp;omega),by
         intro hp
         first
          |(cases hp;done)
          |exact ⟨by have:=br.1 hb45;omega,by have:=br.1 hb45;omega,by have:=br.1 hp;omega,by have:=br.1 hp;omega,fun h=>by omega⟩,hs⟩
       ·refine .z 25 rfl (zfa eD) ?_;refine .y 26 rfl hs ae ?_
        refine .E 27 hs ?_
        refine .call lK rfl (dQ hs) ?_;rintro _ w ⟨rfl,hs⟩
        refine .go ?_
        refine .z 28 rfl ir ?_;refine .z 29 rfl zpF ?_;refine .D hs ?_
        exact nT ⟨_,aR,by
         intro hp hU
         have h1:=hU.l0;have h2:=hU.l1;have h3:=hU.t0;have h4:=hU.t1;have h5:=hU.ord
         first
          |(cases hp;done)
          |(have:=cN.1 hb45;omega)
          |(have:=h5 aj;omega)
          |(have:=cN.1 hp;omega),by
         intro hp
         first
          |(cases hp;done)
          |exact ⟨by have:=br.1 hb45;omega,by have:=br.1 hb45;omega,by have:=br.1 hp;omega,by have:=br.1 hp;omega,fun h=>by omega⟩,hs⟩
      ·refine .qF (i:=12) rfl an rfl rfl ?_
       refine .qF (i:=13) rfl an rfl rfl ?_
       refine .qF (i:=14) rfl an rfl rfl ?_
       refine .qF (i:=15) rfl an rfl rfl ?_
       refine .qF (i:=16) rfl an rfl rfl ?_
       refine .qF (i:=17) rfl an rfl rfl ?_
       refine .qF (i:=18) rfl an rfl rfl ?_
       refine .qF (i:=19) rfl an rfl rfl ?_
       refine .qF (i:=20) rfl an rfl rfl ?_
       refine .qF (i:=21) rfl an rfl rfl ?_
       refine .z 22 rfl zpF ?_;refine .z 23 rfl zpF ?_;refine .z 24 rfl zm ?_;refine .z 25 rfl (zfa eD) ?_;refine .y 26 rfl hs ae ?_
       refine .E 27 hs ?_
       refine .call lK rfl (dQ hs) ?_;rintro _ w ⟨rfl,hs⟩
       refine .go ?_
       refine .z 28 rfl ir ?_;refine .z 29 rfl zpF ?_;refine .D hs ?_
       exact nT ⟨_,aR,by
        intro hp hU
        have h1:=hU.l0;have h2:=hU.l1;have h3:=hU.t0;have h4:=hU.t1;have h5:=hU.ord
        first
         |(cases hp;done)
         |(have:=cN.1 hb45;omega)
         |(have:=h5 aj;omega)
         |(have:=cN.1 hp;omega),by
        intro hp
        first
         |(cases hp;done)
         |exact ⟨by have:=br.1 hb45;omega,by have:=br.1 hb45;omega,by have:=br.1 hp;omega,by have:=br.1 hp;omega,fun h=>by omega⟩,hs⟩
    ·rintro fs w ⟨p,hfs,hp1,hp2,hs⟩
     refine WE.sub ?_ hfs
     refine (.cond rfl (fun hc66=>?_) (fun hc66=>?_))
     ·refine .ai (.z zg (.nil ?_))
      refine .ret (rT (rB (rT (rB (rT (Fin.bJ mU rfl ?_))))))
      exact ⟨_,rfl,.bad hA (fun h=>hp1 hc66 (h.use k hk)),hs.out⟩
     ·refine .skip ?_
      refine nT ?_
      refine .ai ?_
      have hUk:=hp2 (by simpa using hc66)
      have hUs':∀i<k+1,qR s us i:=fun i hi=>by
       by_cases e:i=k
       ·subst e;exact hUk
       ·exact hUs i aj
      have hTp:=wY hUs
      have ht0:=hUk.t0;have ht1:=hUk.t1;have hl0:=hUk.l0;have hl1:=hUk.l1
      have hgl:=zr (ls:=s.cO) (i:=(gu us k).l.toNat) aj
      obtain ⟨⟨xa0,xa1⟩,⟨xb0,xb1⟩,xne,xM,-⟩:=hok.lim _ (List.mem_of_getElem? hgl)
      have hbd1:=sX hok hUs
      have hbd2:=sX hok hUs'
      have hbs:ju s us (k+1)=ju s us k+(gu us k).t*(ul s us k).M:=rfl
      have hts:fS us (k+1)=fS us k+(gu us k).t:=rfl
      change 0≤(ul s us k).A at xa0;change (ul s us k).A≤s.many at xa1
      change 0≤(ul s us k).B at xb0;change (ul s us k).B≤s.many at xb1
      change (ul s us k).A≠(ul s us k).B at xne
      have hib:=wi hUs (ul s us k).B.toNat
      have hia:=wi hUs (ul s us k).A.toNat
      have hAn:(ul s us k).A.toNat<s.n:=by omega
      have hBn:(ul s us k).B.toNat<s.n:=by omega
      have hgA:=hC2 _ hAn
      have hgB:=hC2 _ hBn
      refine .z zm (.z (zfa eD) (.y hs (zld ae) (.z cq (.z zg (.nil (.seq (.ai (.z zm (.z kD ?_)))))))))
      refine .nil ?_
      refine (.bM rfl (fun hc72=>?_) (fun hc72=>?_))
      ·refine .ai (.z zg (.nil ?_))
       refine .ret (rT (rB (rT (rB (rT (Fin.bJ mU rfl ?_))))))
       exact ⟨_,rfl,.bad hA (fun h=>by have:=Cf h.use (k:=k+1) aj;have:=h.tot;omega),hs.out⟩
      ·refine .skip ?_
       refine nT ?_
       refine .ai (.z (zfa bO) (.y hs (zld cH) (.z (zfa fN) (.y hs (zld ae) ?_))))
       refine .ixX (enc:=Lim.c) hs hr rfl rfl aP bq hgl aj ?_;intro b77 o77 hc77
       refine .q hs (cI (vs:=(ul s us k).c) rfl fF bq hc77) ?_
       refine .o (.alloc hs ez rfl fun b13 w hs=>?_)
       refine .o (.aU (vs:=(ul s us k).c) hs rfl rfl bq fun w hs=>?_)
       refine .nil ?_
       refine .seq (.draw mix rfl hs fun w hs=>?_)
       refine .z 0 rfl zm ?_;refine .z 1 rfl (zfa eP) ?_;refine .y 2 rfl hs ae ?_
       refine .z 3 rfl (dG (k:=(ul s us k).B.toNat) rfl rfl aa af aj hBn) ?_
       refine .y 4 rfl hs ae ?_;refine .z 5 rfl (zfa eD) ?_;refine .y 6 rfl hs ae ?_;refine .z 7 rfl cq ?_
       refine .z 8 rfl (dG (k:=(ul s us k).B.toNat) rfl rfl aa af aj hBn) ?_
       refine .E 9 hs ?_
       refine .store hs rfl rfl af ?_;intro w hs
       refine .go ?_
       refine .D hs ?_
       have hD1:(C.set (ul s us k).B.toNat (gi C (ul s us k).B.toNat+(gu us k).t)).length=s.n:=by rw [List.length_set];exact hC1
       have hD2:∀v,gi (C.set (ul s us k).B.toNat (gi C (ul s us k).B.toNat+(gu us k).t)) v=if v=(ul s us k).B.toNat then gi C (ul s us k).B.toNat+(gu us k).t else gi C v:=fun v=>eu aj _ v
       generalize C.set (ul s us k).B.toNat (gi C (ul s us k).B.toNat+(gu us k).t)=D at hs hD1 hD2
       have hgD:gi D (ul s us k).A.toNat=gi C (ul s us k).A.toNat:=by rw [hD2,if_neg aj]
       refine .seq (.draw mix rfl hs fun w hs=>?_)
       refine .z 0 rfl zm ?_;refine .z 1 rfl (zfa eA) ?_;refine .y 2 rfl hs ae ?_
       refine .z 3 rfl (dG (k:=(ul s us k).A.toNat) rfl rfl aa af aj hAn) ?_
       refine .y 4 rfl hs ae ?_;refine .z 5 rfl (zfa eD) ?_;refine .y 6 rfl hs ae ?_;refine .z 7 rfl gW ?_
       refine .z 8 rfl (dG (k:=(ul s us k).A.toNat) rfl rfl aa af aj hAn) ?_
       refine .E 9 hs ?_
       refine .store hs rfl rfl af ?_;intro w hs
       refine .go ?_
       refine .D hs ?_
       refine .region (.z zm (.z (zfa eD) (.y hs (zld ae) (.z (zfa fV) (.y hs (zld ae) (.z ka (.z cq (.z zg (.nil ?_)))))))))
       refine nB (nT ?_)
       exact .mk ⟨rfl,D.set (ul s us k).A.toNat (gi D (ul s us k).A.toNat - (gu us k).t),⟨by rw [List.length_set];exact hD1,fun v hv=>by
        have hst:nF s us (k+1) v=nF s us k v+(gu us k).t*(ind (ul s us k).B.toNat v - ind (ul s us k).A.toNat v):=rfl
        rw [eu aj,hst,←hC2 v hv]
        by_cases e1:v=(ul s us k).A.toNat
        ·have i1:ind (ul s us k).A.toNat v=1:=by unfold ind;rw [if_pos e1.symm]
         have i2:ind (ul s us k).B.toNat v=0:=by unfold ind;rw [if_neg aj]
         rw [if_pos e1,hgD,i1,i2,e1];omega
        ·have i1:ind (ul s us k).A.toNat v=0:=by unfold ind;rw [if_neg aj]
         rw [if_neg e1,hD2,i1]
         by_cases e2:v=(ul s us k).B.toNat
         ·have i2:ind (ul s us k).B.toNat v=1:=by unfold ind;rw [if_pos e2.symm]
          rw [if_pos e2,i2,e2];omega
         ·have i2:ind (ul s us k).B.toNat v=0:=by unfold ind;rw [if_neg aj]
          rw [if_neg e2,i2];omega⟩,hUs',aj,hs.sb⟩ (hs:= .cons rfl (.cons rfl (.cons rfl (.cons rfl (.cj rfl hts.symm (.cj rfl hbs.symm aR))))))
   ·rintro fr w ⟨rfl,C,⟨hC1,hC2⟩,hUs,hTm,hs⟩
    have hlen:us.length≤400:=by omega
    refine nT ?_
    refine .seq (.ai (.z zg (.nil (.block ?_))))
    refine .loop (fun k:Nat=>⟨124,[],[(14,I ((k:Int)+1)),(8,.slice (some ⟨b28,0,none⟩) s.n s.n),(10,I (ju s us us.length)),(3,.pointer (some ⟨b3,0,none⟩)),(5,.pointer (some ⟨b5,0,none⟩)),(1,.slice aw ws.length cw)]⟩)
     (fun k w=>(k+1≤s.n∧∀v,1≤v→v<k+1→gi C v=gi ws v)∧St H w (.blk b28 (Is C):: .blk b5 [I n,.slice au us.length cu]:: .blk b3 [I s.many,.slice al s.cO.length cl]::σ))
     (fun k=>s.n - k) 0 aR ⟨⟨s.tF,fun v h1 h2=>by omega⟩,hs⟩ ?_
    clear hs
    rintro k w ⟨⟨hk,hno⟩,hs⟩
    refine .seq (.ai (.z zm (.z (zfa bH) (.y hs (zld ae) (.z uO (.nil ?_))))))
    refine (.bM rfl (fun hc108=>?_) (fun hc108=>?_))
    ·refine .skip ?_
     refine nT ?_
     refine .seq (.block ?_)
     refine .seq (.draw mix rfl hs fun w hs=>?_)
     have hk1:k+1<s.n:=by omega
     refine .z 0 rfl zm ?_;refine .z 1 rfl zm ?_
     refine .z 2 rfl (dG (k:=k+1) rfl rfl aa af (by push_cast;rfl) hk1) ?_
     refine .y 3 rfl hs ae ?_;refine .z 4 rfl zm ?_;refine .z 5 rfl zm ?_
     refine .ixX (enc:=fun x=>[I x]) (i:=6) hs rfl an .none hrw rfl rfl aa af (bL (l:=ws) (i:=k+1) aj) (by push_cast;rfl) ?_;intro b117 o117 hc117;replace hc117:=bB.one hc117
     refine .r (i:=7) hs rfl an .none (aK rfl ae hc117) ?_
     refine .z 8 rfl ij ?_;refine .D hs ?_
     refine (.eQ rfl (fun hc119=>?_) (fun hc119=>?_))
     ·refine .ai (.z zg (.nil ?_))
      refine .ret (rB (rT (rT (rB (rT (Fin.bJ mU rfl ?_))))))
      exact ⟨_,rfl,.bad hA (fun h=>hc119 (by rw [hC2 _ hk1];exact h.into _ aj hk1)),hs.out⟩
     ·refine .skip ?_
      refine nB (nT ?_)
      refine .region (.z zm (.z cq (.z zg (.nil ?_))))
      refine nT ?_
      exact ⟨k+1,.cj rfl (by push_cast;omega) aR,⟨⟨aj,fun v h1 h2=>by
       by_cases e:v=k+1
       ·subst e;exact hc119
       ·exact hno v h1 aj⟩,hs⟩,aj⟩
    ·refine .exit ?_
     refine xT (xT (xB (nT ?_)))
     refine .seq (.ai (.z zm (.z (zfa ee) (.y hs (zld ae) (.z ij (.nil ?_))))))
     refine (.eQ rfl (fun hc123=>?_) (fun hc123=>?_))
     ·refine .ai (.z zg (.nil ?_))
      refine .ret (rT (Fin.bJ mU rfl ?_))
      exact ⟨_,rfl,.bad hA (fun h=>hc123 h.bound),hs.out⟩
     ·refine .skip ?_
      refine nT ?_
      refine .ai (.z zg (.nil ?_))
      refine .ret (Fin.bJ mU rfl ?_)
      exact ⟨_,rfl,.ok hA ⟨hlen,hUs,hTm,fun v h1 h2=>by rw [←hC2 v h2];exact hno v h1 aj,by simpa using hc123⟩,hs.out⟩
end Go.Proofs.YtddaejgfjlneoaaGreat
