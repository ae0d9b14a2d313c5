/-
  Texts of these claims, joined: Opn Opi Opv Opm Opy Cls Fct Wa Wb Wc Wd We Wf Wg Wp Wt Wu Wv Wx Wy Xf Xi.
-/
import Derived.Test.YtddaejgfjlneoaaGreatCb
import Derived.Test.YtddaejgfjlneoaaGreatProg
import Derived.KernelRfl
import Derived.OpenShut
import Derived.ProofKit
import Derived.ShutString
import Derived.ChangeOld
import Derived.JoinedOf
namespace Go.Proofs.YtddaejgfjlneoaaGreat
theorem e8:type_of% @Tryz.call100:=@Tryz.call100
theorem tX:type_of% @Tryz.call103:=@Tryz.call103
theorem dv:type_of% @Tryz.call105:=@Tryz.call105
theorem tV:type_of% @Tryz.call114:=@Tryz.call114
theorem ma:type_of% @Tryz.call115:=@Tryz.call115
theorem Ac:type_of% @Tryz.call116:=@Tryz.call116
theorem gn:type_of% @Tryz.call121:=@Tryz.call121
theorem tU:type_of% @Tryz.call161:=@Tryz.call161
theorem tT:type_of% @Tryz.call190:=@Tryz.call190
theorem pc:type_of% @Tryz.call221:=@Tryz.call221
theorem Ab:type_of% @Tryz.call277:=@Tryz.call277
theorem wG:type_of% @Tryz.call28:=@Tryz.call28
theorem je:type_of% @Tryz.call29:=@Tryz.call29
theorem cf:type_of% @Tryz.call31:=@Tryz.call31
theorem BX:type_of% @Tryz.call42:=@Tryz.call42
theorem BW:type_of% @Tryz.call43:=@Tryz.call43
theorem eR:type_of% @Tryz.call83:=@Tryz.call83
theorem BV:type_of% @Tryz.call90:=@Tryz.call90
theorem wF:type_of% @Tryz.call91:=@Tryz.call91
theorem rq:type_of% @Tryz.call92:=@Tryz.call92
theorem rp:type_of% @Tryz.call93:=@Tryz.call93
theorem lz:type_of% @Tryz.call94:=@Tryz.call94
theorem BU:type_of% @Tryz.call95:=@Tryz.call95
theorem nQ:type_of% @Tryz.call97:=@Tryz.call97
theorem rn:type_of% @Tryz.isAgg108:=@Tryz.isAgg108
theorem mR:type_of% @Tryz.isAgg140:=@Tryz.isAgg140
theorem dY:type_of% @Tryz.isAgg160:=@Tryz.isAgg160
theorem kH:type_of% @Tryz.isAgg170:=@Tryz.isAgg170
theorem ep:type_of% @Tryz.isAgg182:=@Tryz.isAgg182
theorem xH:type_of% @Tryz.isAgg183:=@Tryz.isAgg183
theorem fy:type_of% @Tryz.isAgg189:=@Tryz.isAgg189
theorem kG:type_of% @Tryz.isAgg211:=@Tryz.isAgg211
theorem ak:type_of% @Tryz.isAgg22:=@Tryz.isAgg22
theorem kF:type_of% @Tryz.isAgg236:=@Tryz.isAgg236
theorem Aa:type_of% @Tryz.isAgg27:=@Tryz.isAgg27
theorem dd:type_of% @Tryz.isAgg29:=@Tryz.isAgg29
theorem af:type_of% @Tryz.isAgg3:=@Tryz.isAgg3
theorem aT:type_of% @Tryz.isAgg34:=@Tryz.isAgg34
theorem bp:type_of% @Tryz.isAgg35:=@Tryz.isAgg35
theorem dD:type_of% @Tryz.isAgg36:=@Tryz.isAgg36
theorem aN:type_of% @Tryz.isAgg38:=@Tryz.isAgg38
theorem lx:type_of% @Tryz.isAgg4:=@Tryz.isAgg4
theorem aW:type_of% @Tryz.isAgg44:=@Tryz.isAgg44
theorem bV:type_of% @Tryz.isAgg49:=@Tryz.isAgg49
theorem tS:type_of% @Tryz.isAgg51:=@Tryz.isAgg51
theorem pb:type_of% @Tryz.isAgg61:=@Tryz.isAgg61
theorem cD:type_of% @Tryz.isAgg68:=@Tryz.isAgg68
theorem aU:type_of% @Tryz.isAgg70:=@Tryz.isAgg70
theorem du:type_of% @Tryz.isAgg80:=@Tryz.isAgg80
theorem BT:type_of% @Tryz.results102:=@Tryz.results102
theorem jd:type_of% @Tryz.results107:=@Tryz.results107
theorem kE:type_of% @Tryz.results108:=@Tryz.results108
theorem jc:type_of% @Tryz.results109:=@Tryz.results109
theorem gK:type_of% @Tryz.results110:=@Tryz.results110
theorem e7:type_of% @Tryz.results112:=@Tryz.results112
theorem tR:type_of% @Tryz.results113:=@Tryz.results113
theorem tQ:type_of% @Tryz.results125:=@Tryz.results125
theorem tP:type_of% @Tryz.results158:=@Tryz.results158
theorem BR:type_of% @Tryz.results164:=@Tryz.results164
theorem kD:type_of% @Tryz.results168:=@Tryz.results168
theorem BQ:type_of% @Tryz.results170:=@Tryz.results170
theorem BP:type_of% @Tryz.results171:=@Tryz.results171
theorem tO:type_of% @Tryz.results182:=@Tryz.results182
theorem tN:type_of% @Tryz.results194:=@Tryz.results194
theorem nP:type_of% @Tryz.results202:=@Tryz.results202
theorem tM:type_of% @Tryz.results206:=@Tryz.results206
theorem BO:type_of% @Tryz.results210:=@Tryz.results210
theorem tL:type_of% @Tryz.results219:=@Tryz.results219
theorem fC:type_of% @Tryz.results22:=@Tryz.results22
theorem BN:type_of% @Tryz.results227:=@Tryz.results227
theorem jb:type_of% @Tryz.results232:=@Tryz.results232
theorem BM:type_of% @Tryz.results234:=@Tryz.results234
theorem BL:type_of% @Tryz.results237:=@Tryz.results237
theorem gx:type_of% @Tryz.results24:=@Tryz.results24
theorem BK:type_of% @Tryz.results246:=@Tryz.results246
theorem nO:type_of% @Tryz.results247:=@Tryz.results247
theorem wy:type_of% @Tryz.results25:=@Tryz.results25
theorem BJ:type_of% @Tryz.results264:=@Tryz.results264
theorem Dz:type_of% @Tryz.results27:=@Tryz.results27
theorem tK:type_of% @Tryz.results271:=@Tryz.results271
theorem BI:type_of% @Tryz.results277:=@Tryz.results277
theorem wx:type_of% @Tryz.results28:=@Tryz.results28
theorem BH:type_of% @Tryz.results281:=@Tryz.results281
theorem wv:type_of% @Tryz.results29:=@Tryz.results29
theorem rm:type_of% @Tryz.results3:=@Tryz.results3
theorem wu:type_of% @Tryz.results37:=@Tryz.results37
theorem gj:type_of% @Tryz.results4:=@Tryz.results4
theorem lX:type_of% @Tryz.results41:=@Tryz.results41
theorem iz:type_of% @Tryz.results42:=@Tryz.results42
theorem iy:type_of% @Tryz.results43:=@Tryz.results43
theorem jO:type_of% @Tryz.results46:=@Tryz.results46
theorem Dy:type_of% @Tryz.results51:=@Tryz.results51
theorem Dx:type_of% @Tryz.results74:=@Tryz.results74
theorem wq:type_of% @Tryz.results85:=@Tryz.results85
theorem Dw:type_of% @Tryz.results87:=@Tryz.results87
theorem wm:type_of% @Tryz.results89:=@Tryz.results89
theorem wk:type_of% @Tryz.results93:=@Tryz.results93
theorem Dv:type_of% @Tryz.results98:=@Tryz.results98
theorem Du:type_of% @Tryz.results99:=@Tryz.results99
theorem cn:type_of% @Tryz.runUnderlying106:=@Tryz.runUnderlying106
theorem eZ:type_of% @Tryz.runUnderlying108:=@Tryz.runUnderlying108
theorem l9:type_of% @Tryz.runUnderlying140:=@Tryz.runUnderlying140
theorem l7:type_of% @Tryz.runUnderlying158:=@Tryz.runUnderlying158
theorem ja:type_of% @Tryz.runUnderlying160:=@Tryz.runUnderlying160
theorem l5:type_of% @Tryz.runUnderlying172:=@Tryz.runUnderlying172
theorem aC:type_of% @Tryz.runUnderlying182:=@Tryz.runUnderlying182
theorem tI:type_of% @Tryz.runUnderlying183:=@Tryz.runUnderlying183
theorem iZ:type_of% @Tryz.runUnderlying189:=@Tryz.runUnderlying189
theorem dt:type_of% @Tryz.runUnderlying199:=@Tryz.runUnderlying199
theorem aa:type_of% @Tryz.runUnderlying22:=@Tryz.runUnderlying22
theorem tH:type_of% @Tryz.runUnderlying223:=@Tryz.runUnderlying223
theorem uW:type_of% @Tryz.runUnderlying23:=@Tryz.runUnderlying23
theorem lZ:type_of% @Tryz.runUnderlying231:=@Tryz.runUnderlying231
theorem dQ:type_of% @Tryz.runUnderlying233:=@Tryz.runUnderlying233
theorem tG:type_of% @Tryz.runUnderlying236:=@Tryz.runUnderlying236
theorem aq:type_of% @Tryz.runUnderlying25:=@Tryz.runUnderlying25
theorem dP:type_of% @Tryz.runUnderlying250:=@Tryz.runUnderlying250
theorem lY:type_of% @Tryz.runUnderlying259:=@Tryz.runUnderlying259
theorem jx:type_of% @Tryz.runUnderlying27:=@Tryz.runUnderlying27
theorem mQ:type_of% @Tryz.runUnderlying29:=@Tryz.runUnderlying29
theorem aK:type_of% @Tryz.runUnderlying3:=@Tryz.runUnderlying3
theorem tF:type_of% @Tryz.runUnderlying300:=@Tryz.runUnderlying300
theorem gh:type_of% @Tryz.runUnderlying302:=@Tryz.runUnderlying302
theorem cI:type_of% @Tryz.runUnderlying310:=@Tryz.runUnderlying310
theorem tE:type_of% @Tryz.runUnderlying315:=@Tryz.runUnderlying315
theorem uV:type_of% @Tryz.runUnderlying32:=@Tryz.runUnderlying32
theorem gI:type_of% @Tryz.runUnderlying34:=@Tryz.runUnderlying34
theorem au:type_of% @Tryz.runUnderlying35:=@Tryz.runUnderlying35
theorem aV:type_of% @Tryz.runUnderlying36:=@Tryz.runUnderlying36
theorem mP:type_of% @Tryz.runUnderlying38:=@Tryz.runUnderlying38
theorem bL:type_of% @Tryz.runUnderlying44:=@Tryz.runUnderlying44
theorem ez:type_of% @Tryz.runUnderlying49:=@Tryz.runUnderlying49
theorem aF:type_of% @Tryz.runUnderlying51:=@Tryz.runUnderlying51
theorem an:type_of% @Tryz.runUnderlying61:=@Tryz.runUnderlying61
theorem aQ:type_of% @Tryz.runUnderlying68:=@Tryz.runUnderlying68
theorem uU:type_of% @Tryz.runUnderlying70:=@Tryz.runUnderlying70
theorem ew:type_of% @Tryz.runUnderlying80:=@Tryz.runUnderlying80
theorem jw:type_of% @Tryz.runUnderlying90:=@Tryz.runUnderlying90
theorem lW:type_of% @Tryz.sizeOf106:=@Tryz.sizeOf106
theorem bX:type_of% @Tryz.sizeOf108:=@Tryz.sizeOf108
theorem dU:type_of% @Tryz.sizeOf140:=@Tryz.sizeOf140
theorem lV:type_of% @Tryz.sizeOf158:=@Tryz.sizeOf158
theorem bj:type_of% @Tryz.sizeOf160:=@Tryz.sizeOf160
theorem lU:type_of% @Tryz.sizeOf182:=@Tryz.sizeOf182
theorem wj:type_of% @Tryz.sizeOf183:=@Tryz.sizeOf183
theorem aI:type_of% @Tryz.sizeOf189:=@Tryz.sizeOf189
theorem Dt:type_of% @Tryz.sizeOf199:=@Tryz.sizeOf199
theorem aA:type_of% @Tryz.sizeOf22:=@Tryz.sizeOf22
theorem iw:type_of% @Tryz.sizeOf236:=@Tryz.sizeOf236
theorem xG:type_of% @Tryz.sizeOf25:=@Tryz.sizeOf25
theorem xF:type_of% @Tryz.sizeOf27:=@Tryz.sizeOf27
theorem bK:type_of% @Tryz.sizeOf29:=@Tryz.sizeOf29
theorem ae:type_of% @Tryz.sizeOf3:=@Tryz.sizeOf3
theorem jN:type_of% @Tryz.sizeOf300:=@Tryz.sizeOf300
theorem cH:type_of% @Tryz.sizeOf315:=@Tryz.sizeOf315
theorem Et:type_of% @Tryz.sizeOf32:=@Tryz.sizeOf32
theorem aH:type_of% @Tryz.sizeOf34:=@Tryz.sizeOf34
theorem ji:type_of% @Tryz.sizeOf35:=@Tryz.sizeOf35
theorem xE:type_of% @Tryz.sizeOf36:=@Tryz.sizeOf36
theorem aD:type_of% @Tryz.sizeOf38:=@Tryz.sizeOf38
theorem iY:type_of% @Tryz.sizeOf4:=@Tryz.sizeOf4
theorem az:type_of% @Tryz.sizeOf44:=@Tryz.sizeOf44
theorem aP:type_of% @Tryz.sizeOf49:=@Tryz.sizeOf49
theorem Es:type_of% @Tryz.sizeOf61:=@Tryz.sizeOf61
theorem gR:type_of% @Tryz.sizeOf68:=@Tryz.sizeOf68
theorem aB:type_of% @Tryz.sizeOf70:=@Tryz.sizeOf70
theorem aE:type_of% @Tryz.sizeOf80:=@Tryz.sizeOf80
theorem mE:type_of% @Tryz.typeInfo189:=@Tryz.typeInfo189
theorem tD:type_of% @Tryz.typeInfo22:=@Tryz.typeInfo22
theorem dq:type_of% @Tryz.typeInfo3:=@Tryz.typeInfo3
theorem zB:type_of% @Tryz.underlying22:=@Tryz.underlying22
theorem zA:type_of% @Tryz.underlying25:=@Tryz.underlying25
theorem gJ:type_of% @Tryz.underlying27:=@Tryz.underlying27
theorem eJ:type_of% @Tryz.underlying3:=@Tryz.underlying3
theorem mD:type_of% @Tryz.underlying4:=@Tryz.underlying4
theorem lr:type_of% @Tryz.zeroValue108:=@Tryz.zeroValue108
theorem lq:type_of% @Tryz.zeroValue140:=@Tryz.zeroValue140
theorem jh:type_of% @Tryz.zeroValue158:=@Tryz.zeroValue158
theorem dB:type_of% @Tryz.zeroValue160:=@Tryz.zeroValue160
theorem dA:type_of% @Tryz.zeroValue189:=@Tryz.zeroValue189
theorem dz:type_of% @Tryz.zeroValue22:=@Tryz.zeroValue22
theorem qm:type_of% @Tryz.zeroValue231:=@Tryz.zeroValue231
theorem r9:type_of% @Tryz.zeroValue29:=@Tryz.zeroValue29
theorem bH:type_of% @Tryz.zeroValue3:=@Tryz.zeroValue3
theorem ln:type_of% @Tryz.zeroValue300:=@Tryz.zeroValue300
theorem ql:type_of% @Tryz.zeroValue315:=@Tryz.zeroValue315
theorem fY:type_of% @Tryz.zeroValue34:=@Tryz.zeroValue34
theorem dy:type_of% @Tryz.zeroValue38:=@Tryz.zeroValue38
theorem tC:type_of% @Tryz.zeroValue4:=@Tryz.zeroValue4
theorem bq:type_of% @Tryz.zeroValue44:=@Tryz.zeroValue44
theorem ig:type_of% @Tryz.zeroValue49:=@Tryz.zeroValue49
theorem bY:type_of% @Tryz.zeroValue70:=@Tryz.zeroValue70
theorem dS:type_of% @Tryz.zeroValue80:=@Tryz.zeroValue80
end Go.Proofs.YtddaejgfjlneoaaGreat
namespace Go.Proofs.YtddaejgfjlneoaaGreat
open Go.MW Go.ChangeShapes Go.WideShapes
set_option maxRecDepth 100000
theorem yt:Tryz.prog.cellsOf 3=1:=by kernel_rfl
theorem Dl:Tryz.prog.cellsOf 22=1:=by kernel_rfl
theorem b_int:Tryz.prog.bytesOf 3=8:=by kernel_rfl
theorem Cj:reachBytes=140737488351232:=rfl
section
variable{H:Type}{enc:TypeId×Value→H}{w:World}{sp:Nat→Bool}{held:Bool}{n:Nat}{cs:List Value}{y:DataW H×List MemPlace}{v:Value}{d:DataW H}{p:List MemPlace}{r:Reach}{base:Nat}
theorem Dg(hw:Wt Tryz.prog 22 y.1)(h:DataW.trod enc Tryz.prog w 0 sp held n 22 cs=some y):∃v xs,cs=[v]∧RI (hp w) v xs∧IsIn xs:=by
 obtain ⟨v,xs,h1,h2,h3,h4⟩:=DI zB eJ yt hw h
 rw [b_int,Cj] at h3
 exact ⟨v,xs,h1,h2,by omega,h4⟩
end
end Go.Proofs.YtddaejgfjlneoaaGreat
namespace Go.Proofs.YtddaejgfjlneoaaGreat
open Go.MW Go.ChangeShapes Go.WideShapes Go.ChangeAt Go.RowKit
set_option maxRecDepth 100000 in
theorem open_I{H:Type}{enc:TypeId×Value→H}{w:World}{sp:Nat→Bool}{held:Bool}{v:Value}{d:DataW H}{p:List MemPlace}{r:Reach}{base:Nat}
  (hv:Value.okWide Tryz.prog w r base 3 v) (h:DataW.Trod enc Tryz.prog w 0 sp held 3 v d p):∃a,v=I a∧I64 a:=by
 obtain ⟨a,rfl,rfl,rfl,wa⟩:=open_int eJ hv h
 exact ⟨a,rfl,wf64 wa⟩
open Go.MW Go.ChangeShapes Go.WideShapes
set_option maxRecDepth 100000
theorem c_What:Tryz.prog.cellsOf 29=3:=by kernel_rfl
section
variable{H:Type}{enc:TypeId×Value→H}{w:World}{sp:Nat→Bool}{held:Bool}{n:Nat}{cs:List Value}{y:DataW H×List MemPlace}{v:Value}{d:DataW H}{p:List MemPlace}{r:Reach}{base:Nat}
theorem AU(hv:Value.okWide Tryz.prog w r base 29 v)(h:DataW.Trod enc Tryz.prog w 0 sp held 29 v d p)(_:Wt Tryz.prog 29 d):
  ∃q:Wht,v= .agg #[I q.kind,I q.st,I q.wa]∧True:=by
 obtain ⟨cs,n,rfl,hn,_⟩:=qV Tryz.underlying29 hv h
 obtain ⟨xs,a1,a2,_⟩:=wJ Tryz.underlying29 (by
  intro i f hf
  match i with
  |0|1|2=>cases hf;exact ⟨rfl,eJ,yt⟩
  |i+3=>simp at hf) (by rw [c_What];rfl) hn
 obtain ⟨a,b,c,rfl⟩:=len3 a1
 subst a2
 exact ⟨⟨a,b,c⟩,rfl,trivial⟩
end
end Go.Proofs.YtddaejgfjlneoaaGreat
namespace Go.Proofs.YtddaejgfjlneoaaGreat
open Go.MW Go.ChangeShapes Go.WideShapes
set_option maxRecDepth 100000
theorem C1:Tryz.prog.cellsOf 23=1:=by kernel_rfl
theorem C0:Tryz.prog.cellsOf 24=1:=by kernel_rfl
theorem c_53:Tryz.prog.cellsOf 106=5:=by kernel_rfl
theorem c_43:Tryz.prog.cellsOf 199=4:=by kernel_rfl
theorem c_33:Tryz.prog.cellsOf 25=3:=by kernel_rfl
theorem Ed:Tryz.prog.cellsOf 27=7:=by kernel_rfl
theorem len7{α:Type}{l:List α}(h:l.length=7):∃a b c d e f g,l=[a,b,c,d,e,f,g]:=by match l,h with|[a,b,c,d,e,f,g],_=>exact ⟨a,b,c,d,e,f,g,rfl⟩
theorem Dj:∀{zs:List (List Int)},(∀z∈zs,z.length=5∧∀y∈z,I64 y)→∃ls:List F5,zs.map Is=ls.map F5.v
 |[],_=>⟨[],rfl⟩
 |z::zs,h=>by
  obtain ⟨ls,h1⟩:=Dj (fun c hc=>h c (.tail _ hc))
  obtain ⟨h3,_⟩:=h z (.head _)
  match z,h3 with
  |[a,b,c,d,e],_=>exact ⟨⟨a,b,c,d,e⟩::ls,by rw [List.map_cons,h1];rfl⟩
theorem Di:∀{zs:List (List Int)},(∀z∈zs,z.length=4∧∀y∈z,I64 y)→∃ls:List F4,zs.map Is=ls.map F4.v
 |[],_=>⟨[],rfl⟩
 |z::zs,h=>by
  obtain ⟨ls,h1⟩:=Di (fun c hc=>h c (.tail _ hc))
  obtain ⟨h3,_⟩:=h z (.head _)
  match z,h3 with
  |[a,b,c,d],_=>exact ⟨⟨a,b,c,d⟩::ls,by rw [List.map_cons,h1];rfl⟩
structure Dp where
 sp:List Int
 rs:List F5
 cs:List F4
 pk:List Int
 x:Int
 y:Int
 z:Int
def yx(H:bn)(v:Value)(r:Dp):Prop:=∃vs v5 v4 vp,v= .agg #[vs,v5,v4,vp,I r.x,I r.y,I r.z]∧RI H vs r.sp∧RF5 H v5 r.rs∧RF4 H v4 r.cs∧RI H vp r.pk
section
variable{H:Type}{enc:TypeId×Value→H}{w:World}{sp:Nat→Bool}{held:Bool}{n:Nat}{cs:List Value}{y:DataW H×List MemPlace}{v:Value}{d:DataW H}{p:List MemPlace}{r:Reach}{base:Nat}
theorem CD(hw:Wt Tryz.prog 23 y.1)(h:DataW.trod enc Tryz.prog w 0 sp held n 23 cs=some y):∃(v:Value) (ls:List F5),cs=[v]∧RF5 (hp w) v ls:=by
 obtain ⟨v,zs,h1,h2,_,h3⟩:=An (k:=5) Tryz.underlying23 Tryz.underlying106 eJ yt (by decide) c_53 hw h
 obtain ⟨ls,h4⟩:=Dj h3
 exact ⟨v,ls,h1,by unfold RF5;rw [←h4];exact h2⟩
theorem CC(hw:Wt Tryz.prog 24 y.1)(h:DataW.trod enc Tryz.prog w 0 sp held n 24 cs=some y):∃(v:Value) (ls:List F4),cs=[v]∧RF4 (hp w) v ls:=by
 obtain ⟨v,zs,h1,h2,_,h3⟩:=An (k:=4) Tryz.underlying24 Tryz.underlying199 eJ yt (by decide) c_43 hw h
 obtain ⟨ls,h4⟩:=Di h3
 exact ⟨v,ls,h1,by unfold RF4;rw [←h4];exact h2⟩
theorem qE(hv:Value.okWide Tryz.prog w r base 27 v)(h:DataW.Trod enc Tryz.prog w 0 sp held 27 v d p)(hw:Wt Tryz.prog 27 d):∃q:Dp,yx (hp w) v q∧True:=by
 obtain ⟨cs,n,rfl,hn,_⟩:=qV gJ hv h
 obtain ⟨ys,m,_,e,hlen,hyl,hg⟩:=DataW.trod_struct gJ hn
 cases e
 rw [Ed] at hlen
 obtain ⟨c0,c1,c2,c3,c4,c5,c6,rfl⟩:=len7 hlen
 obtain ⟨_,h0,k0⟩:=fld hg hyl 0 rfl rfl rfl Dl gJ hw
 obtain ⟨_,h1,k1⟩:=fld hg hyl 1 rfl rfl rfl C1 gJ hw
 obtain ⟨_,h2,k2⟩:=fld hg hyl 2 rfl rfl rfl C0 gJ hw
 obtain ⟨_,h3,k3⟩:=fld hg hyl 3 rfl rfl rfl Dl gJ hw
 obtain ⟨_,h4,k4⟩:=fld hg hyl 4 rfl rfl rfl c_33 gJ hw
 obtain ⟨v0,s0,e0,r0,i0⟩:=Dg k0 h0
 obtain ⟨v1,l1,e1,r1⟩:=CD k1 h1
 obtain ⟨v2,l2,e2,r2⟩:=CC k2 h2
 obtain ⟨v3,s3,e3,r3,i3⟩:=Dg k3 h3
 obtain ⟨xs,g1,g2,g3⟩:=ve zA eJ yt c_33 h4
 obtain ⟨a,b,c,rfl⟩:=len3 g1
 cases e0;cases e1;cases e2;cases e3;cases g2
 exact ⟨⟨s0,l1,l2,s3,a,b,c⟩,⟨_,_,_,_,rfl,r0,r1,r2,r3⟩,trivial⟩
theorem x9(hv:Value.okWide Tryz.prog w r base 25 v)(h:DataW.Trod enc Tryz.prog w 0 sp held 25 v d p)(_:Wt Tryz.prog 25 d):∃x:Int×Int×Int,v= .agg #[I x.1,I x.2.1,I x.2.2]∧True:=by
 obtain ⟨cs,n,rfl,hn⟩:=Ee zA hv h
 obtain ⟨xs,h1,rfl,h3⟩:=ve zA eJ yt c_33 hn
 obtain ⟨a,b,c,rfl⟩:=len3 h1
 exact ⟨⟨a,b,c⟩,rfl,trivial⟩
end
end Go.Proofs.YtddaejgfjlneoaaGreat
namespace Go.Proofs.YtddaejgfjlneoaaGreat
open Go.MW Go.ChangeShapes Go.WideShapes
set_option maxRecDepth 100000
theorem Bt:Tryz.prog.cellsOf 49=2:=by kernel_rfl
section
variable{H:Type}{enc:TypeId×Value→H}{w:World}{sp:Nat→Bool}{held:Bool}{n:Nat}{cs:List Value}{y:DataW H×List MemPlace}{v:Value}{d:DataW H}{p:List MemPlace}{r:Reach}{base:Nat}
theorem wW(hv:Value.okWide Tryz.prog w r base 49 v)(h:DataW.Trod enc Tryz.prog w 0 sp held 49 v d p)(_:Wt Tryz.prog 49 d):
  ∃q:TD,v= .agg #[I q.tape,I q.day]∧True:=by
 obtain ⟨cs,n,rfl,hn,_⟩:=qV Tryz.underlying49 hv h
 obtain ⟨xs,a1,a2,_⟩:=wJ Tryz.underlying49 (by
  intro i f hf
  match i with
  |0|1=>cases hf;exact ⟨rfl,eJ,yt⟩
  |i+2=>simp at hf) (by rw [Bt];rfl) hn
 obtain ⟨a,b,rfl⟩:=len2 a1
 subst a2
 exact ⟨⟨a,b⟩,rfl,trivial⟩
end
end Go.Proofs.YtddaejgfjlneoaaGreat
namespace Go.Proofs.YtddaejgfjlneoaaGreat
theorem yq:Tryz.prog.make=some .cut:=by kernel_rfl
theorem vW:Tryz.prog.mayEnter=true:=by kernel_rfl
theorem vT:Tryz.prog.liftsFinal=false:=by kernel_rfl
theorem yr:Tryz.prog.plainKeys=true:=by kernel_rfl
theorem qS:laidOutB Tryz.prog=true:=by kernel_rfl
theorem yp:mapsRowed Tryz.prog=true:=by kernel_rfl
theorem vV:Tryz.prog.stopsHeard=true:=by kernel_rfl
theorem vS:Tryz.prog.stops=[]:=by kernel_rfl
theorem vU:Tryz.prog.stopKnobs=[]:=by kernel_rfl
theorem fa{a b:Bool}(h:a=true)(k:b=true):(a&&b)=true:=by rw [h,k];rfl
theorem yv{α:Type}[BEq α][LawfulBEq α]{a b:α}(h:a=b):(a==b)=true:=by rw [h];exact beq_self_eq_true _
theorem Bs:ownKnob Tryz.prog.godebug=none:=by kernel_rfl
end Go.Proofs.YtddaejgfjlneoaaGreat
namespace Go.Proofs.YtddaejgfjlneoaaGreat
open Go.MW
theorem mix:Tryz.prog.follows .mixedOrders=true:=by kernel_rfl
theorem nt:FA Tryz.prog 27 0 0:=by
 have h:=gN (k:=0) jx rfl aA
 exact h
theorem gC:FA Tryz.prog 27 1 1:=by
 have h:=gN (k:=1) jx rfl Tryz.sizeOf23
 exact h
theorem jI:FA Tryz.prog 27 2 2:=by
 have h:=gN (k:=2) jx rfl Tryz.sizeOf24
 exact h
theorem ns:FA Tryz.prog 27 3 3:=by
 have h:=gN (k:=3) jx rfl aA
 exact h
theorem nr:FA Tryz.prog 27 4 4:=by
 have h:=gN (k:=4) jx rfl xG
 exact h
theorem kc:FA Tryz.prog 29 0 0:=by
 have h:=gN (k:=0) mQ rfl ae
 exact h
theorem dR:FA Tryz.prog 29 1 1:=by
 have h:=gN (k:=1) mQ rfl ae
 exact h
theorem cZ:FA Tryz.prog 29 2 2:=by
 have h:=gN (k:=2) mQ rfl ae
 exact h
theorem iV:FA Tryz.prog 32 0 0:=by
 have h:=gN (k:=0) uV rfl ae
 exact h
theorem iU:FA Tryz.prog 32 1 1:=by
 have h:=gN (k:=1) uV rfl ae
 exact h
theorem lh:FA Tryz.prog 34 0 0:=by
 have h:=gN (k:=0) gI rfl ae
 exact h
theorem dm:FA Tryz.prog 34 1 1:=by
 have h:=gN (k:=1) gI rfl ae
 exact h
theorem bA:FA Tryz.prog 34 2 2:=by
 have h:=gN (k:=2) gI rfl aA
 exact h
theorem bg:FA Tryz.prog 34 3 3:=by
 have h:=gN (k:=3) gI rfl aA
 exact h
theorem dO:FA Tryz.prog 34 4 4:=by
 have h:=gN (k:=4) gI rfl Et
 exact h
theorem aR:FA Tryz.prog 38 0 0:=by
 have h:=gN (k:=0) mP rfl aH
 exact h
theorem aJ:FA Tryz.prog 38 1 6:=by
 have h:=gN (k:=1) mP rfl ji
 exact h
theorem bT:FA Tryz.prog 38 2 7:=by
 have h:=gN (k:=2) mP rfl xE
 exact h
theorem uk:FA Tryz.prog 44 0 0:=by
 have h:=gN (k:=0) bL rfl ae
 exact h
theorem uj:FA Tryz.prog 44 1 1:=by
 have h:=gN (k:=1) bL rfl ae
 exact h
theorem mA:FA Tryz.prog 49 0 0:=by
 have h:=gN (k:=0) ez rfl ae
 exact h
theorem jT:FA Tryz.prog 49 1 1:=by
 have h:=gN (k:=1) ez rfl ae
 exact h
theorem mi:FA Tryz.prog 63 0 0:=by
 have h:=gN (k:=0) Tryz.runUnderlying63 rfl Es
 exact h
theorem bE:FA Tryz.prog 70 0 0:=by
 have h:=gN (k:=0) uU rfl ae
 exact h
theorem bD:FA Tryz.prog 70 1 1:=by
 have h:=gN (k:=1) uU rfl gR
 exact h
theorem dX:FA Tryz.prog 80 0 0:=by
 have h:=gN (k:=0) ew rfl ae
 exact h
theorem eD:FA Tryz.prog 80 1 1:=by
 have h:=gN (k:=1) ew rfl ae
 exact h
theorem eC:FA Tryz.prog 80 2 2:=by
 have h:=gN (k:=2) ew rfl ae
 exact h
theorem cK:FA Tryz.prog 80 3 3:=by
 have h:=gN (k:=3) ew rfl ae
 exact h
theorem ck:FA Tryz.prog 80 4 4:=by
 have h:=gN (k:=4) ew rfl ae
 exact h
theorem dW:FA Tryz.prog 80 5 5:=by
 have h:=gN (k:=5) ew rfl ae
 exact h
theorem dV:FA Tryz.prog 80 6 6:=by
 have h:=gN (k:=6) ew rfl ae
 exact h
theorem fW:FA Tryz.prog 108 0 0:=by
 have h:=gN (k:=0) eZ rfl ae
 exact h
theorem ic:FA Tryz.prog 108 1 1:=by
 have h:=gN (k:=1) eZ rfl ae
 exact h
theorem fc:FA Tryz.prog 108 2 2:=by
 have h:=gN (k:=2) eZ rfl ae
 exact h
theorem eG:FA Tryz.prog 108 3 3:=by
 have h:=gN (k:=3) eZ rfl ae
 exact h
theorem eF:FA Tryz.prog 108 4 4:=by
 have h:=gN (k:=4) eZ rfl ae
 exact h
theorem eE:FA Tryz.prog 108 5 5:=by
 have h:=gN (k:=5) eZ rfl ae
 exact h
theorem nq:FA Tryz.prog 140 0 0:=by
 have h:=gN (k:=0) l9 rfl aB
 exact h
theorem np:FA Tryz.prog 140 1 2:=by
 have h:=gN (k:=1) l9 rfl aA
 exact h
theorem jH:FA Tryz.prog 140 2 3:=by
 have h:=gN (k:=2) l9 rfl ae
 exact h
theorem dx:FA Tryz.prog 158 0 0:=by
 have h:=gN (k:=0) l7 rfl ae
 exact h
theorem dh:FA Tryz.prog 158 1 1:=by
 have h:=gN (k:=1) l7 rfl ae
 exact h
theorem ef:FA Tryz.prog 158 2 2:=by
 have h:=gN (k:=2) l7 rfl ae
 exact h
theorem eQ:FA Tryz.prog 160 0 0:=by
 have h:=gN (k:=0) ja rfl ae
 exact h
theorem ft:FA Tryz.prog 160 1 1:=by
 have h:=gN (k:=1) ja rfl ae
 exact h
theorem gW:FA Tryz.prog 160 2 2:=by
 have h:=gN (k:=2) ja rfl ae
 exact h
theorem gd:FA Tryz.prog 160 3 3:=by
 have h:=gN (k:=3) ja rfl ae
 exact h
theorem dr:FA Tryz.prog 172 0 0:=by
 have h:=gN (k:=0) l5 rfl aD
 exact h
theorem fi:FA Tryz.prog 172 1 8:=by
 have h:=gN (k:=1) l5 rfl Tryz.sizeOf51
 exact h
theorem gv:FA Tryz.prog 172 2 9:=by
 have h:=gN (k:=2) l5 rfl gR
 exact h
theorem dc:FA Tryz.prog 189 0 0:=by
 have h:=gN (k:=0) iZ rfl ae
 exact h
theorem dj:FA Tryz.prog 189 1 1:=by
 have h:=gN (k:=1) iZ rfl ae
 exact h
theorem eW:FA Tryz.prog 189 2 2:=by
 have h:=gN (k:=2) iZ rfl ae
 exact h
theorem dM:FA Tryz.prog 189 3 3:=by
 have h:=gN (k:=3) iZ rfl ae
 exact h
theorem qO:FA Tryz.prog 231 0 0:=by
 have h:=gN (k:=0) lZ rfl Tryz.sizeOf228
 exact h
theorem qN:FA Tryz.prog 231 1 1:=by
 have h:=gN (k:=1) lZ rfl Tryz.sizeOf229
 exact h
theorem qM:FA Tryz.prog 231 2 2:=by
 have h:=gN (k:=2) lZ rfl ae
 exact h
theorem cJ:FA Tryz.prog 236 0 0:=by
 have h:=gN (k:=0) tG rfl bK
 exact h
theorem eT:FA Tryz.prog 236 1 3:=by
 have h:=gN (k:=1) tG rfl aH
 exact h
theorem fH:FA Tryz.prog 259 0 0:=by
 have h:=gN (k:=0) lY rfl aB
 exact h
theorem gD:FA Tryz.prog 259 1 2:=by
 have h:=gN (k:=1) lY rfl aA
 exact h
theorem dN:FA Tryz.prog 259 2 3:=by
 have h:=gN (k:=2) lY rfl aA
 exact h
theorem oq:FA Tryz.prog 294 0 0:=by
 have h:=gN (k:=0) Tryz.runUnderlying294 rfl aA
 exact h
theorem fu:FA Tryz.prog 300 0 0:=by
 have h:=gN (k:=0) tF rfl ae
 exact h
theorem gX:FA Tryz.prog 300 1 1:=by
 have h:=gN (k:=1) tF rfl ae
 exact h
theorem cU:FA Tryz.prog 315 0 0:=by
 have h:=gN (k:=0) tE rfl ae
 exact h
theorem jg:FA Tryz.prog 315 1 1:=by
 have h:=gN (k:=1) tE rfl iY
 exact h
theorem kY:ss Tryz.prog 29 [(0,1),(1,1),(2,1)] [.int .i64 0,.int .i64 0,.int .i64 0]:=lj r9 rfl mQ (by simp [Tryz.sizeOf3])
theorem rf:ss Tryz.prog 32 [(0,1),(1,1)] [.int .i64 0,.int .i64 0]:=lj Tryz.zeroValue32 rfl uV (by simp [Tryz.sizeOf3])
theorem qd:ss Tryz.prog 34 [(0,1),(1,1),(2,1),(3,1),(4,2)] [.int .i64 0,.int .i64 0,.slice none 0 0,.slice none 0 0,.int .i64 0,.int .i64 0]:=lj fY rfl gI (by simp [Tryz.sizeOf22,Tryz.sizeOf3,Tryz.sizeOf32])
theorem ox:ss Tryz.prog 38 [(0,6),(6,1),(7,1)] [.int .i64 0,.int .i64 0,.slice none 0 0,.slice none 0 0,.int .i64 0,.int .i64 0,.slice none 0 0,.slice none 0 0]:=lj dy rfl mP (by simp [Tryz.sizeOf34,Tryz.sizeOf35,Tryz.sizeOf36])
theorem bU:ss Tryz.prog 44 [(0,1),(1,1)] [.int .i64 0,.int .i64 0]:=lj bq rfl bL (by simp [Tryz.sizeOf3])
theorem fJ:ss Tryz.prog 49 [(0,1),(1,1)] [.int .i64 0,.int .i64 0]:=lj ig rfl ez (by simp [Tryz.sizeOf3])
theorem xu:ss Tryz.prog 63 [(0,1)] [.slice none 0 0]:=lj Tryz.zeroValue63 rfl Tryz.runUnderlying63 (by simp [Tryz.sizeOf61])
theorem gg:ss Tryz.prog 70 [(0,1),(1,1)] [.int .i64 0,.slice none 0 0]:=lj bY rfl uU (by simp [Tryz.sizeOf3,Tryz.sizeOf68])
theorem eX:ss Tryz.prog 80 [(0,1),(1,1),(2,1),(3,1),(4,1),(5,1),(6,1)] [.int .i64 0,.int .i64 0,.int .i64 0,.int .i64 0,.int .i64 0,.int .i64 0,.int .i64 0]:=lj dS rfl ew (by simp [Tryz.sizeOf3])
theorem nx:ss Tryz.prog 108 [(0,1),(1,1),(2,1),(3,1),(4,1),(5,1)] [.int .i64 0,.int .i64 0,.int .i64 0,.int .i64 0,.int .i64 0,.int .i64 0]:=lj lr rfl eZ (by simp [Tryz.sizeOf3])
theorem fE:ss Tryz.prog 140 [(0,2),(2,1),(3,1)] [.int .i64 0,.slice none 0 0,.slice none 0 0,.int .i64 0]:=lj lq rfl l9 (by simp [Tryz.sizeOf22,Tryz.sizeOf3,Tryz.sizeOf70])
theorem qc:ss Tryz.prog 158 [(0,1),(1,1),(2,1)] [.int .i64 0,.int .i64 0,.int .i64 0]:=lj jh rfl l7 (by simp [Tryz.sizeOf3])
theorem ek:ss Tryz.prog 160 [(0,1),(1,1),(2,1),(3,1)] [.int .i64 0,.int .i64 0,.int .i64 0,.int .i64 0]:=lj dB rfl ja (by simp [Tryz.sizeOf3])
theorem lR:ss Tryz.prog 172 [(0,8),(8,1),(9,1)] [.int .i64 0,.int .i64 0,.slice none 0 0,.slice none 0 0,.int .i64 0,.int .i64 0,.slice none 0 0,.slice none 0 0,.slice none 0 0,.slice none 0 0]:=lj Tryz.zeroValue172 rfl l5 (by simp [Tryz.sizeOf38,Tryz.sizeOf51,Tryz.sizeOf68])
theorem ou:ss Tryz.prog 189 [(0,1),(1,1),(2,1),(3,1)] [.int .i64 0,.int .i64 0,.int .i64 0,.int .i64 0]:=lj dA rfl iZ (by simp [Tryz.sizeOf3])
theorem ie:ss Tryz.prog 231 [(0,1),(1,1),(2,1)] [.nilFunc,.nilFunc,.int .i64 0]:=lj qm rfl lZ (by simp [Tryz.sizeOf228,Tryz.sizeOf229,Tryz.sizeOf3])
theorem rZ:ss Tryz.prog 236 [(0,3),(3,6)] [.int .i64 0,.int .i64 0,.int .i64 0,.int .i64 0,.int .i64 0,.slice none 0 0,.slice none 0 0,.int .i64 0,.int .i64 0]:=lj Tryz.zeroValue236 rfl tG (by simp [Tryz.sizeOf29,Tryz.sizeOf34])
theorem ow:ss Tryz.prog 259 [(0,2),(2,1),(3,1)] [.int .i64 0,.slice none 0 0,.slice none 0 0,.slice none 0 0]:=lj Tryz.zeroValue259 rfl lY (by simp [Tryz.sizeOf22,Tryz.sizeOf70])
theorem wb:ss Tryz.prog 294 [(0,1)] [.slice none 0 0]:=lj Tryz.zeroValue294 rfl Tryz.runUnderlying294 (by simp [Tryz.sizeOf22])
theorem qe:ss Tryz.prog 300 [(0,1),(1,1)] [.int .i64 0,.int .i64 0]:=lj ln rfl tF (by simp [Tryz.sizeOf3])
theorem gG:ss Tryz.prog 315 [(0,1),(1,1)] [.int .i64 0,.bool false]:=lj ql rfl tE (by simp [Tryz.sizeOf3,Tryz.sizeOf4])
theorem iD:wE Tryz.prog 22 0 1 []:=oh aa ae bH (by decide) (by kernel_rfl)
theorem cV:wE Tryz.prog 22 1 1 [.int .i64 0]:=oh aa ae bH (by decide) (by kernel_rfl)
theorem iC:wE Tryz.prog 22 2 1 [.int .i64 0,.int .i64 0]:=oh aa ae bH (by decide) (by kernel_rfl)
theorem xt:wE Tryz.prog 22 3 1 [.int .i64 0,.int .i64 0,.int .i64 0]:=oh aa ae bH (by decide) (by kernel_rfl)
theorem og:wE Tryz.prog 35 0 7 []:=oh au aE dS (by decide) (by kernel_rfl)
theorem eL:wE Tryz.prog 35 1 7 [.int .i64 0,.int .i64 0,.int .i64 0,.int .i64 0,.int .i64 0,.int .i64 0,.int .i64 0]:=oh au aE dS (by decide) (by kernel_rfl)
theorem oe:wE Tryz.prog 35 4 7 [.int .i64 0,.int .i64 0,.int .i64 0,.int .i64 0,.int .i64 0,.int .i64 0,.int .i64 0,.int .i64 0,.int .i64 0,.int .i64 0,.int .i64 0,.int .i64 0,.int .i64 0,.int .i64 0,.int .i64 0,.int .i64 0,.int .i64 0,.int .i64 0,.int .i64 0,.int .i64 0,.int .i64 0,.int .i64 0,.int .i64 0,.int .i64 0,.int .i64 0,.int .i64 0,.int .i64 0,.int .i64 0]:=oh au aE dS (by decide) (by kernel_rfl)
theorem j6:wE Tryz.prog 36 1 6 [.int .i64 0,.int .i64 0,.int .i64 0,.int .i64 0,.int .i64 0,.int .i64 0]:=oh aV bX lr (by decide) (by kernel_rfl)
theorem fD:wE Tryz.prog 51 1 2 [.int .i64 0,.int .i64 0]:=oh aF aP ig (by decide) (by kernel_rfl)
theorem uq:wE Tryz.prog 61 1 1 [.slice none 0 0]:=oh an aA dz (by decide) (by kernel_rfl)
theorem uo:wE Tryz.prog 61 2 1 [.slice none 0 0,.slice none 0 0]:=oh an aA dz (by decide) (by kernel_rfl)
theorem kX:wE Tryz.prog 68 1 4 [.int .i64 0,.int .i64 0,.int .i64 0,.int .i64 0]:=oh aQ bj dB (by decide) (by kernel_rfl)
theorem fk:wE Tryz.prog 68 2 4 [.int .i64 0,.int .i64 0,.int .i64 0,.int .i64 0,.int .i64 0,.int .i64 0,.int .i64 0,.int .i64 0]:=oh aQ bj dB (by decide) (by kernel_rfl)
theorem o5:wE Tryz.prog 182 1 4 [.int .i64 0,.int .i64 0,.int .i64 0,.int .i64 0]:=oh aC aI dA (by decide) (by kernel_rfl)
theorem vZ:wE Tryz.prog 223 6 1 [.nilFunc,.nilFunc,.nilFunc,.nilFunc,.nilFunc,.nilFunc]:=oh tH Tryz.sizeOf1 Tryz.zeroValue1 (by decide) (by kernel_rfl)
theorem qb:wE Tryz.prog 302 1 2 [.int .i64 0,.int .i64 0]:=oh gh jN ln (by decide) (by kernel_rfl)
theorem bP:BG Tryz.prog 22 22 3 1 8:=⟨aa,aa,ae,⟨_,dq,rfl,by decide⟩,⟨_,bH,rfl⟩⟩
theorem cE:BG Tryz.prog 35 35 80 7 56:=⟨au,au,aE,⟨_,Tryz.typeInfo80,rfl,by decide⟩,⟨_,dS,rfl⟩⟩
theorem jL:BG Tryz.prog 36 36 108 6 48:=⟨aV,aV,bX,⟨_,Tryz.typeInfo108,rfl,by decide⟩,⟨_,lr,rfl⟩⟩
theorem dJ:BG Tryz.prog 51 51 49 2 16:=⟨aF,aF,aP,⟨_,Tryz.typeInfo49,rfl,by decide⟩,⟨_,ig,rfl⟩⟩
theorem o7:BG Tryz.prog 61 61 22 1 24:=⟨an,an,aA,⟨_,tD,rfl,by decide⟩,⟨_,dz,rfl⟩⟩
theorem bQ:BG Tryz.prog 68 68 160 4 32:=⟨aQ,aQ,bj,⟨_,Tryz.typeInfo160,rfl,by decide⟩,⟨_,dB,rfl⟩⟩
theorem ke:BG Tryz.prog 182 182 189 4 32:=⟨aC,aC,aI,⟨_,mE,rfl,by decide⟩,⟨_,dA,rfl⟩⟩
theorem kI:BG Tryz.prog 302 302 300 2 16:=⟨gh,gh,jN,⟨_,Tryz.typeInfo300,rfl,by decide⟩,⟨_,ln,rfl⟩⟩
theorem fI{H:bn}{w:World}{σ:List Ent}{a0 a1 a2:Int}(hs:St H w σ):Cl Tryz.prog 161 [I a0,I a1,I a2] w fun v w'=>v= .bool (decide (a1≤a0∧a0≤a2))∧St H w' σ:=by
 refine Cl.of Tryz.func161 rfl Tryz.ntmps161 (by simp) (aj (k:=0) rfl (aj (k:=1) rfl (aj (k:=2) rfl (bh)))) ?_
 refine .ai (.z zg (.nil (.ai (.z zm (.z zm (.z wH (.z zm ?_)))))))
 refine .iE (t':=10) rfl (fun hb10=>?_) (fun hb10=>?_)
 ·refine .gT rfl rfl ?_
  refine .z zm ?_
  refine .gT rfl rfl ?_
  refine .z zm ?_
  refine .gT rfl rfl ?_
  refine .z wH (.z zpT (.z zg (.nil ?_)))
  refine .ret (Fin.bI Tryz.results161 rfl ?_)
  exact ⟨by simp [*],hs.out⟩
 ·refine .gFs 3 3 true rfl rfl rfl ?_
  refine .z zpF (.z zg (.nil ?_))
  refine .ret (Fin.bI Tryz.results161 rfl ?_)
  exact ⟨by simp [*],hs.out⟩
theorem p9{H:bn}{w:World}{σ:List Ent}{many:Int}{l:Lim}(hs:St H w σ):Cl Tryz.prog 202 [I many,.agg l.c.toArray] w fun v w'=>v= .bool (l.ok many)∧St H w' σ:=by
 refine Cl.of Tryz.func202 rfl Tryz.ntmps202 (by simp) (aj (k:=0) rfl (aj (k:=1) rfl (bh))) ?_
 refine .ai ?_
 refine .o (.box hs rfl rfl ?_);intro b3 w hs
 refine .z zg (.nil (.ai (.z (zfa eQ) (.y hs (zld af) (.z zm ?_)))))
 refine .o (.call tU rfl (fI hs) ?_);rintro _ w ⟨rfl,hs⟩
 refine .z zm ?_
 refine .bif (t':=9) rfl (fun hb9=>?_) (fun hb9=>?_)
 ·refine .gT rfl rfl ?_
  refine .z (zfa ft) ?_
  refine .gT rfl rfl ?_
  refine .y hs (zld af) ?_
  refine .gT rfl rfl ?_
  refine .z zm ?_
  refine .gT rfl rfl ?_
  refine .o (.call tU rfl (fI hs) ?_);rintro _ w ⟨rfl,hs⟩
  refine .z zpT (.z zm ?_)
  refine .bif (t':=15) rfl (fun hb15=>?_) (fun hb15=>?_)
  ·refine .gT rfl rfl ?_
   refine .z (zfa eQ) ?_
   refine .gT rfl rfl ?_
   refine .y hs (zld af) ?_
   refine .gT rfl rfl ?_
   refine .z (zfa ft) ?_
   refine .gT rfl rfl ?_
   refine .y hs (zld af) ?_
   refine .gT rfl rfl ?_
   refine .z iA (.z zpT (.z zm ?_))
   refine .yu (t':=22) rfl (fun hb22=>?_) (fun hb22=>?_)
   ·refine .gT rfl rfl ?_
    refine .z (zfa gW) ?_
    refine .gT rfl rfl ?_
    refine .y hs (zld af) ?_
    refine .gT rfl rfl ?_
    refine .o (.call tU rfl (fI hs) ?_);rintro _ w ⟨rfl,hs⟩
    refine .z zpT (.z zm ?_)
    refine .bif (t':=27) rfl (fun hb27=>?_) (fun hb27=>?_)
    ·refine .gT rfl rfl ?_
     refine .z (zfa gd) ?_
     refine .gT rfl rfl ?_
     refine .y hs (zld af) ?_
     refine .gT rfl rfl ?_
     refine .o (.call tU rfl (fI hs) ?_);rintro _ w ⟨rfl,hs⟩
     refine .z zpT (.z zg (.nil ?_))
     refine .ret (Fin.bI nP rfl ?_)
     exact ⟨by simp [Lim.ok, *],hs.out⟩
    ·refine .gFs 3 22 true rfl rfl rfl ?_
     refine .z zpF (.z zg (.nil ?_))
     refine .ret (Fin.bI nP rfl ?_)
     exact ⟨by simp [Lim.ok, *],hs.out⟩
   ·refine .gFs 3 17 true rfl rfl rfl ?_
    refine .z zpF (.z zm ?_)
    refine .gFs 3 22 true rfl rfl rfl ?_
    refine .z zpF (.z zg (.nil ?_))
    refine .ret (Fin.bI nP rfl ?_)
    exact ⟨by simp [Lim.ok, *],hs.out⟩
  ·refine .gFs 5 10 true rfl rfl rfl ?_
   refine .z zpF (.z zm ?_)
   refine .gFs 3 17 true rfl rfl rfl ?_
   refine .z zpF (.z zm ?_)
   refine .gFs 3 22 true rfl rfl rfl ?_
   refine .z zpF (.z zg (.nil ?_))
   refine .ret (Fin.bI nP rfl ?_)
   exact ⟨by simp [Lim.ok, *],hs.out⟩
 ·refine .gFs 4 4 true rfl rfl rfl ?_
  refine .z zpF (.z zm ?_)
  refine .gFs 5 10 true rfl rfl rfl ?_
  refine .z zpF (.z zm ?_)
  refine .gFs 3 17 true rfl rfl rfl ?_
  refine .z zpF (.z zm ?_)
  refine .gFs 3 22 true rfl rfl rfl ?_
  refine .z zpF (.z zg (.nil ?_))
  refine .ret (Fin.bI nP rfl ?_)
  exact ⟨by simp [Lim.ok, *],hs.out⟩
theorem wh{H:bn}{w:World}{σ:List Ent}{v:Value}{ls:List Lim}{g:Nat}{cap:List Value}{p:Lim→Bool}(hs:St H w σ)(hr:RL H v ls)
  (hc:∀args w,(callFunc g args).run Tryz.prog w= .ok (.enter g args) w) (hp:∀w l,St H w σ→Cl Tryz.prog g ([.agg l.c.toArray]++cap) w fun u w'=>u= .bool (p l)∧St H w' σ):
  Cl Tryz.prog 252 [v,.func (.func g) #[] cap.toArray] w fun u w'=>u=I (match ls.findIdx? p with|some k=>(k:Int)|none=> -1)∧St H w' σ:=by
 obtain ⟨a,c,rfl⟩:=RS.shape hr
 have hl:=(RS.len hr).2.2
 refine Cl.of Tryz.func252 rfl Tryz.ntmps252 (by simp) (aj (k:=0) rfl (aj (k:=1) rfl (bh))) ?_
 refine .ai (.z zg (.nil (.seq (.ai (.z zm ?_)))))
 refine .q hs (AL hr rfl aQ) ?_
 refine .z zm (.nil ?_)
 refine .for (N:=(ls.map Lim.c).length) (J:=fun k fr w=>fr=[(1,.func (.func g) #[] cap.toArray),(0,.slice a (ls.map Lim.c).length c)]∧St H w σ∧∀j<k,∀l,ls[j]? =some l→p l=false) (by omega) ?_ ?_ ?_
 ·exact .mk ⟨rfl,hs,fun j hj=>by omega⟩
 ·rintro k fr w hk ⟨rfl,hs,hno⟩
  obtain ⟨l,hl⟩:=nth (l:=ls) (by simpa using hk)
  refine .block (.ai (.z zm (.z zg (.nil (.ai (.z zm (.z zm (.z zm ?_))))))))
  refine .ixX hs hr rfl rfl aQ bj hl rfl ?_;intro b14 o14 hc14
  refine .y hs (zls [_,_,_,_] dY bj) ?_
  refine .o (.p5 (first:=[]) rfl rfl hc (hp _ _ hs) ?_);rintro _ w ⟨rfl,hs⟩
  refine .nil ?_
  refine (.cond rfl (fun hc16=>?_) (fun hc16=>?_))
  ·refine .ai (.z zm (.z zg (.nil ?_)))
   refine .ret (rB (rT (rB (rT (Fin.bI Tryz.results252 rfl ?_)))))
   exact ⟨by rw [ti hl hc16 hno],hs⟩
  ·refine .skip ?_
   refine nB (nT ?_)
   exact .mk ⟨rfl,hs,eK hno hl hc16⟩
 ·rintro fr w ⟨rfl,hs,hno⟩
  refine nT ?_
  refine .ai (.z zg (.nil ?_))
  refine .ret (Fin.bI Tryz.results252 rfl ?_)
  exact ⟨by rw [q9 (by simpa using hno)],hs⟩
theorem r8{H:bn}{w:World}{σ:List Ent}{v:Value}{ls:List Lim}{g:Nat}{cap:List Value}{p:Lim→Bool}(hs:St H w σ)(hr:RL H v ls)
  (hc:∀args w,(callFunc g args).run Tryz.prog w= .ok (.enter g args) w) (hp:∀w l,St H w σ→Cl Tryz.prog g ([.agg l.c.toArray]++cap) w fun u w'=>u= .bool (p l)∧St H w' σ):
  Cl Tryz.prog 200 [v,.func (.func g) #[] cap.toArray] w fun u w'=>u= .bool (ls.any p)∧St H w' σ:=by
 refine Cl.of Tryz.func200 rfl Tryz.ntmps200 (by simp) (aj (k:=0) rfl (aj (k:=1) rfl (bh))) ?_
 refine .ai (.z zg (.nil (.ai (.z zm (.z zm ?_)))))
 refine .o (.call Tryz.call252 rfl (wh hs hr hc hp) ?_);rintro _ w ⟨rfl,hs⟩
 refine .z wI (.z zg (.nil ?_))
 refine .ret (Fin.bI Tryz.results200 rfl ?_)
 exact ⟨by rw [yw];cases ls.findIdx? p<;>simp<;>omega,hs⟩
theorem vY{H:bn}{w:World}{σ:List Ent}{b:Nat}{many:Int}{v:Value}{l:Lim}(hs:St H w σ)(hm:Mem σ (.blk b [I many,v])):Cl Tryz.prog 201 [.agg l.c.toArray,.pointer (some ⟨b,0,none⟩)] w fun v w'=>v= .bool (!l.ok many)∧St H w' σ:=by
 refine Cl.of Tryz.func201 rfl Tryz.ntmps201 (by simp) (aj (k:=0) rfl (aj (k:=1) rfl (bh))) ?_
 refine .ai ?_
 refine .o (.box hs rfl rfl ?_);intro b2 w hs
 refine .z zg (.nil (.ai (.z (zfa bE) ?_)))
 refine .q hs (dE rfl af (.there hm) rfl) ?_
 refine .q hs (kq (vs:=l.c) rfl dY bj) ?_
 refine .o (.call Tryz.call202 rfl (p9 hs) ?_);rintro _ w ⟨rfl,hs⟩
 refine .z iI (.z zg (.nil ?_))
 refine .ret (Fin.bI Tryz.results201 rfl ?_)
 exact ⟨rfl,hs.out⟩
theorem jX{H:bn}{w:World}{σ:List Ent}{v:Value}{s:cB}(hs:St H w σ)(hr:RSy H v s):Cl Tryz.prog 125 [v] w fun v w'=>v=I s.check∧St H w' σ:=by
 obtain ⟨u,rfl,hr⟩:=hr
 obtain ⟨a,c,rfl⟩:=RS.shape hr
 refine Cl.of Tryz.func125 rfl Tryz.ntmps125 (by simp) (aj (k:=0) rfl (bh)) ?_
 refine .ai ?_
 refine .o (.box hs rfl rfl ?_);intro b1 w hs
 refine .z zg (.nil (.seq (.block (.ai (.z (zfa bE) (.y hs (zld af) ?_))))))
 refine .o (.call tU rfl (fI hs) ?_);rintro _ w ⟨rfl,hs⟩
 refine .z iI (.z zg (.nil ?_))
 refine (.cond rfl (fun hc3=>?_) (fun hc3=>?_))
 ·refine .ai (.z zg (.nil ?_))
  refine .ret (rB (rT (Fin.bI tQ rfl ?_)))
  exact ⟨congrArg I (by unfold cB.check;(repeat' split)<;>simp_all<;>omega),hs.out⟩
 ·refine .ai (.z (zfa bD) (.y hs (zld cD) ?_))
  refine .q hs (AL hr rfl aQ) ?_
  refine .z lk (.z zg (.nil ?_))
  refine (.bJ rfl (fun hc8=>?_) (fun hc8=>?_))
  ·refine .ai (.z zg (.nil ?_))
   refine .ret (rB (rT (Fin.bI tQ rfl ?_)))
   exact ⟨congrArg I (by unfold cB.check;(repeat' split)<;>simp_all<;>omega),hs.out⟩
  ·refine .ai (.z (zfa bD) (.y hs (zld cD) ?_))
   refine .q hs (dC (f:=[]) (c:=[_]) rfl rfl) ?_
   refine .o (.call Tryz.call200 rfl (r8 (p:=fun l=> !l.ok s.many) hs hr Tryz.call201 (fun w l hs=>vY hs .here)) ?_);rintro _ w ⟨rfl,hs⟩
   refine .z zg (.nil ?_)
   refine (.cond rfl (fun hc13=>?_) (fun hc13=>?_))
   ·refine .ai (.z zg (.nil ?_))
    refine .ret (rB (rT (Fin.bI tQ rfl ?_)))
    exact ⟨congrArg I (by unfold cB.check;(repeat' split)<;>simp_all<;>omega),hs.out⟩
   ·refine .skip ?_
    refine nB (nT ?_)
    refine .ai (.z zg (.nil ?_))
    refine .ret (Fin.bI tQ rfl ?_)
    exact ⟨congrArg I (by unfold cB.check;(repeat' split)<;>simp_all<;>omega),hs.out⟩
theorem p6{H:bn}{b:Nat}{s:cB}{u:Value}(hok:s.Ok)(hb:Row H b [I s.many,u])(hr:RL H u s.cz):ItA Tryz.prog 203 [.pointer (some ⟨b,0,none⟩)] H s.di:=by
 intro l II Ix _ _ hy H0 σb0 σf w hle hI0 hs
 obtain ⟨a,c,rfl⟩:=RS.shape hr
 have hb1:cellAt H0 b 1=some (.slice a (s.cz.map Lim.c).length c):=cellAt.mono (by rw [hb.cell];rfl) hle
 have hlen:=hok.len
 refine Cl.of Tryz.func203 rfl Tryz.ntmps203 (by simp) (aj (k:=0) rfl (aj (k:=1) rfl (bh))) ?_
 refine .ai (.z (zfa bD) (.y hs (zld cD) ?_))
 refine .q hs (AL (hr.mono hle) rfl aQ) ?_
 refine .z zm (.nil ?_)
 refine .for (N:=(s.cz.map Lim.c).length) (J:=fun k fr w=>fr=[(6,.slice a (s.cz.map Lim.c).length c),(0,.func (.yield l) #[] #[])]∧∃H1 σb,HLe H H1∧HLe H0 H1∧II k H1 σb∧St H1 w (σb++σf)) (by simp;omega) ?_ ?_ ?_
 ·exact .mk ⟨rfl,H0,σb0,hle,HLe.refl _,hI0,hs⟩
 ·rintro k fr w hk ⟨rfl,H1,σb,hle1,hle0,hI,hs⟩
  obtain ⟨x,hx⟩:=nth (l:=s.cz) (by simpa using hk)
  obtain ⟨hA,hB,_⟩:=hok.arc (List.mem_of_getElem? hx) k
  refine .block (.ai (.z zm ?_))
  refine .ixX hs (hr.mono hle1) rfl rfl aQ bj hx rfl ?_;intro b11 o11 hc11
  refine .q hs (cj (vs:=x.c) rfl dY bj hc11) ?_
  refine .o (.alloc hs dB rfl ?_);intro b4 w hs
  refine .z zg ?_
  refine .o (.aS (vs:=x.c) hs rfl rfl bj ?_);intro w hs
  refine .nil (.ai (.z zm (.z (zfa eQ) (.y hs (zld af) (.z (zfa ft) (.y hs (zld af) (.z (zfa gW) (.y hs (zld af) (.z zm ?_)))))))))
  refine .z (zbd [_,_,_,_] ou) ?_
  have hk':k<(s.di.map fun x=>[Value.agg x.v.toArray]).length:=by simp [cB.di,eN];simpa using hk
  have hxk:(s.di.map fun x=>[Value.agg x.v.toArray])[k]=[.agg (x.arc k).v.toArray]:=by
   have:=kg hx
   rw [List.getElem_map];rw [List.getElem?_eq_some_iff] at this;obtain ⟨h1,h2⟩:=this;simp only [cB.di];rw [h2]
  have hyd:=hy k hk' H1 σb σf w hle1 hI hs.tail
  rw [hxk] at hyd
  refine .o (.yield (vs:=[.agg (x.arc k).v.toArray]) rfl (by simp [Arc.v,hA,hB];rfl) hyd ?_);rintro v22 w ⟨H2,σ2,g1,hs,g3⟩
  obtain ⟨bb,rfl,gT,gF⟩:=oA g3
  refine .z iI (.nil ?_)
  refine (.cond rfl (fun hc23=>?_) (fun hc23=>?_))
  ·refine .ret (rB (rT (rB (Fin.ret0 Tryz.results203 ?_))))
   exact ⟨H2,σ2,hle0.trans g1,hs,.inr (gF (by simpa using hc23))⟩
  ·refine .skip ?_
   refine nB (nT ?_)
   exact .mk ⟨rfl,H2,σ2,hle1.trans g1,hle0.trans g1,gT (by simpa using hc23),hs⟩
 ·rintro fr w ⟨rfl,H1,σb,hle1,hle0,hI,hs⟩
  exact Fin.xC Tryz.results203 ⟨H1,σb,hle0,hs,.inl (by simpa [cB.di,eN] using hI)⟩
theorem jV{H:bn}{w:World}{σ:List Ent}{v:Value}{s:cB}(hs:St H w σ)(hok:s.Ok)(hr:RSy H v s):
  Cl Tryz.prog 127 [v] w fun v w'=>∃H1 b,HLe H H1∧v= .func (.func 203) #[] #[.pointer (some ⟨b,0,none⟩)]∧ItA Tryz.prog 203 [.pointer (some ⟨b,0,none⟩)] H1 s.di∧St H1 w' σ:=by
 obtain ⟨u,rfl,hr⟩:=hr
 refine Cl.of Tryz.func127 rfl Tryz.ntmps127 (by simp) (aj (k:=0) rfl (bh)) ?_
 refine .ai ?_
 refine .o (.box hs rfl rfl ?_);intro b1 w hs
 refine .z zg (.nil (.ai ?_))
 refine .q hs (dC (f:=[]) (c:=[_]) rfl rfl) ?_
 refine .z zg (.nil ?_)
 refine .ret (Fin.bI Tryz.results127 rfl ?_)
 obtain ⟨H1,g1,g2,hs⟩:=hs.cP .here
 exact ⟨H1,b1,g1,rfl,p6 hok g2 (hr.mono g1),hs⟩
theorem kV{H:bn}{w:World}{σ:List Ent}{N gf:Nat}{ar:List Arc}{cap:List Value}(hs:St H w σ)(hN:N≤64)(hok:qi ar (N+1))(hit:ItA Tryz.prog gf cap H ar)(hc:∀args w,(callFunc gf args).run Tryz.prog w= .ok (.enter gf args) w):
  Cl Tryz.prog 126 [I N,.func (.func gf) #[] cap.toArray] w fun v w'=>∃H1 bc bb s ov vo,HLe H H1∧v= .tuple #[.slice (some ⟨bc,0,none⟩) (N+1) (N+1),.slice (some ⟨bb,0,none⟩) (N+1) (N+1),vo]∧OvR H1 vo ov∧NearR (N+1) ar s ov∧St H1 w' (.blk bc (Is s.cost):: .blk bb (iX s.by_)::σ):=by
 refine Cl.of Tryz.func126 rfl Tryz.ntmps126 (by simp) (aj (k:=0) rfl (aj (k:=1) rfl (bh))) ?_
 refine .ai ?_
 refine .o (.alloc hs dz rfl ?_);intro b4 w hs
 refine .o (.alloc hs Tryz.zeroValue182 rfl ?_);intro b5 w hs
 refine .o (.alloc hs Tryz.zeroValue183 rfl ?_);intro b6 w hs
 refine .nil ?_
 refine .cut (fun fs w=>∃bc bb,kJ fs ⟨70,[],[(1,.func (.func gf) #[] cap.toArray),(0,I N),(4,.pointer (some ⟨b4,0,none⟩)),(5,.pointer (some ⟨b5,0,none⟩)),(6,.pointer (some ⟨b6,0,none⟩))]⟩∧St H w (.blk b4 [.slice (some ⟨bc,0,none⟩) (N+1) (N+1)]:: .blk b5 [.slice (some ⟨bb,0,none⟩) (N+1) (N+1)]:: .blk b6 [.pointer none]:: .blk bc (Is (List.replicate (N+1) 0)):: .blk bb (iX (yc (N+1) 0))::σ)) ?_ ?_
 ·refine .draw mix rfl hs ?_;intro w hs
  refine .z 0 rfl zm ?_;refine .z 1 rfl cA ?_;refine .z 3 rfl zm ?_;refine .z 4 rfl cA ?_
  refine .e2 (i:=2) (j:=5) (by kernel_rfl) rfl rfl rfl rfl .none .none hs ?_ ?_
  ·refine .oT (N+1) hs rfl rfl aa dq rfl ae bH (by omega) ?_;intro b11 w hs
   refine .go ?_
   refine .e2 (i:=5) (j:=6) (by kernel_rfl) rfl rfl rfl rfl .none .none hs ?_ ?_
   ·refine .CI (N+1) hs rfl rfl aC mE rfl aI dA (by omega) ?_;intro b14 w hs
    refine .go ?_
    refine .e1 (i:=6) (by kernel_rfl) rfl rfl .none hs ?_
    refine .store hs rfl rfl aA ?_;intro w hs
    refine .go ?_
    refine .e1 (i:=7) (by kernel_rfl) rfl rfl .none hs ?_
    refine .store hs rfl rfl lU ?_;intro w hs
    refine .go ?_
    refine .done (by kernel_rfl) hs ?_
    exact nT ⟨b11,b14,by repeat (first|exact .nil rfl rfl|refine .cons rfl ?_),hs.sub (by repeat (first|exact Sub.refl _|constructor|apply Sub.weaken))⟩
   ·refine .store hs rfl rfl aA ?_;intro w hs
    refine .go ?_
    refine .e1 (i:=5) (by kernel_rfl) rfl rfl .none hs ?_
    refine .CI (N+1) hs rfl rfl aC mE rfl aI dA (by omega) ?_;intro b14 w hs
    refine .go ?_
    refine .e1 (i:=7) (by kernel_rfl) rfl rfl .none hs ?_
    refine .store hs rfl rfl lU ?_;intro w hs
    refine .go ?_
    refine .done (by kernel_rfl) hs ?_
    exact nT ⟨b11,b14,by repeat (first|exact .nil rfl rfl|refine .cons rfl ?_),hs.sub (by repeat (first|exact Sub.refl _|constructor|apply Sub.weaken))⟩
  ·refine .CI (N+1) hs rfl rfl aC mE rfl aI dA (by omega) ?_;intro b14 w hs
   refine .go ?_
   refine .e1 (i:=2) (by kernel_rfl) rfl rfl .none hs ?_
   refine .oT (N+1) hs rfl rfl aa dq rfl ae bH (by omega) ?_;intro b11 w hs
   refine .go ?_
   refine .e1 (i:=6) (by kernel_rfl) rfl rfl .none hs ?_
   refine .store hs rfl rfl aA ?_;intro w hs
   refine .go ?_
   refine .e1 (i:=7) (by kernel_rfl) rfl rfl .none hs ?_
   refine .store hs rfl rfl lU ?_;intro w hs
   refine .go ?_
   refine .done (by kernel_rfl) hs ?_
   exact nT ⟨b11,b14,by repeat (first|exact .nil rfl rfl|refine .cons rfl ?_),hs.sub (by repeat (first|exact Sub.refl _|constructor|apply Sub.weaken))⟩
 ·rintro s w ⟨bc,bb,hfs,hs⟩
  refine WE.sub ?_ hfs
  refine .seq (.ai (.y hs (zld ep) (.z (cM aC) (.z zm (.nil ?_)))))
  refine .for (N:=N+1) (J:=fun k fr w=>fr=[(1,.func (.func gf) #[] cap.toArray),(0,I N),(4,.pointer (some ⟨b4,0,none⟩)),(5,.pointer (some ⟨b5,0,none⟩)),(6,.pointer (some ⟨b6,0,none⟩))]∧St H w (.blk b4 [.slice (some ⟨bc,0,none⟩) (N+1) (N+1)]:: .blk b5 [.slice (some ⟨bb,0,none⟩) (N+1) (N+1)]:: .blk b6 [.pointer none]:: .blk bc (Is (List.replicate (N+1) 0)):: .blk bb (iX (yc (N+1) k))::σ)) (by omega) ?_ ?_ ?_
  ·exact .mk ⟨rfl,hs⟩
  ·rintro k fr w hk ⟨rfl,hs⟩
   have hkl:k<(yc (N+1) k).length:=by rw [yb (by omega)];exact hk
   refine .block (.ai (.z zm (.z zg (.nil (.region (.y hs (zld ep) (.z zm ?_)))))))
   first|(refine .ixw hs aC aI ?_;intro b22 o22 hc22)|refine .z (nR aC aI) ?_
   refine .z (zfa dM) ?_
   refine .o (.store hs rfl rfl ae ?_ (by repeat constructor) (zq hkl (by omega)) ((xz hkl _).trans (congrArg iX (CF hk))));intro w hs
   refine .nil ?_
   refine nB (nT ?_)
   exact .mk ⟨rfl,hs⟩
  ·rintro fr w ⟨rfl,hs⟩
   refine nT ?_
   refine .seq (.ai (.z zm (.z cA (.z zm (.nil ?_)))))
   refine .forD (N:=N+2) (J:=fun r ds fr w=>fr=[(1,.func (.func gf) #[] cap.toArray),(0,I N),(4,.pointer (some ⟨b4,0,none⟩)),(5,.pointer (some ⟨b5,0,none⟩)),(6,.pointer (some ⟨b6,0,none⟩))]∧∃Ds H1 s vo,ds=marks Ds∧HLe H H1∧tA (N+1) ar r 0 none s∧(r=0∨∃x,OvR H1 vo (some x)∧tA (N+1) ar (r - 1) ar.length (some x) s)∧St H1 w (.blk b4 [.slice (some ⟨bc,0,none⟩) (N+1) (N+1)]:: .blk b5 [.slice (some ⟨bb,0,none⟩) (N+1) (N+1)]:: .blk b6 [vo]:: .blk bc (Is s.cost):: .blk bb (iX s.by_)::(mes Ds++σ))) (by omega) ?_ ?_ ?_
   ·exact .mk (ds:=[]) ⟨rfl,[],H,⟨List.replicate (N+1) 0,List.replicate (N+1) ⟨0,0,0,-1⟩⟩,_,rfl,HLe.refl _,tA.init (by omega),.inl rfl,by rw [A1] at hs;exact hs⟩
   ·rintro r ds fr w hr ⟨rfl,Ds,H1,s,vo,rfl,hle1,hN0,-,hs⟩
    refine .block (.ai ?_)
    refine .o (.store hs rfl rfl wj ?_);intro w hs
    refine .nil (.seq (.ai (.z zm (.nil (.block ?_)))))
    refine .rangeFunc (gf:=gf) (cap:=cap) (xs:=ar.map fun x=>[.agg x.v.toArray]) (σb:=[.blk b4 [.slice (some ⟨bc,0,none⟩) (N+1) (N+1)],.blk b5 [.slice (some ⟨bb,0,none⟩) (N+1) (N+1)],.blk b6 [.pointer none],.blk bc (Is s.cost),.blk bb (iX s.by_)]) (σf:=mes Ds++σ) hs trivial rfl (hit.mono hle1) hc (by simp) rfl
     (I:=fun k H' σb=>∃s ov vo,σb=[.blk b4 [.slice (some ⟨bc,0,none⟩) (N+1) (N+1)],.blk b5 [.slice (some ⟨bb,0,none⟩) (N+1) (N+1)],.blk b6 [vo],.blk bc (Is s.cost),.blk bb (iX s.by_)]∧OvR H' vo ov∧tA (N+1) ar r k ov s) (Ix:=fun _ _ _=>False) (by rintro k _ _ σ g1 ⟨s,ov,vo,g2,g3,g4⟩;exact ⟨s,ov,vo,g2,g3.mono g1,g4⟩) (fun _ _ _ _ _ h=>h)
     ⟨s,none,_,rfl,rfl,hN0⟩ ?_ ?_ (fun D c H' σb w _ h _=>h.elim)
    ·rintro l k hk H2 σb2 σf2 w hle2 ⟨s,ov,vo,rfl,hov,hN⟩ hs ⟨rr,hrr⟩
     obtain ⟨x,hx⟩:=nth (l:=ar) (by simpa using hk)
     obtain ⟨c1,c2,c3,c4,c5,c6⟩:=hok.2 x (List.mem_of_getElem? hx)
     have hxk:(ar.map fun x=>[Value.agg x.v.toArray])[k]=[.agg x.v.toArray]:=by rw [List.getElem_map];rw [List.getElem?_eq_some_iff] at hx;obtain ⟨h1,h2⟩:=hx;rw [h2]
     rw [hxk]
     have hkl:k<ar.length:=by simpa using hk
     have hal:=hok.1
     have hlc:=hN.lc
     have hlb:=hN.lb
     have lo1:=hN.lo x.f c1
     have hi1:=hN.hi x.f c1
     refine .region ?_
     refine .o (.alloc hs dA rfl ?_);intro b8 w hs
     refine .o (.aS (vs:=x.v) hs rfl rfl aI ?_);intro w hs
     refine .nil ?_
     refine nT ?_
     refine ⟨H2,[.blk b8 x.v,.blk b4 [.slice (some ⟨bc,0,none⟩) (N+1) (N+1)],.blk b5 [.slice (some ⟨bb,0,none⟩) (N+1) (N+1)],.blk b6 [vo],.blk bc (Is s.cost),.blk bb (iX s.by_)],HLe.refl _,hs,?_⟩;rintro w σf2 - hs
     refine .block ?_
     refine .seq (.draw mix rfl hs ?_);intro w hs
     refine .y 0 rfl hs ak ?_;refine .z 1 rfl (zfa dc) ?_;refine .y 2 rfl hs af ?_
     first|(refine .ixv 3 rfl hs aa ae ?_;intro b34 o34 hc34)|refine .z 3 rfl (zix aa ae) ?_
     refine .y 4 rfl hs af ?_;refine .z 5 rfl (zfa eW) ?_;refine .y 6 rfl hs af ?_;refine .z 7 rfl cA ?_;refine .y 8 rfl hs ak ?_;refine .z 9 rfl (zfa dj) ?_;refine .y 10 rfl hs af ?_
     first|(refine .ixv 11 rfl hs aa ae ?_;intro b42 o42 hc42)|refine .z 11 rfl (zix aa ae) ?_
     refine .y 12 rfl hs af ?_;refine .z 13 rfl fN ?_;refine .done (by kernel_rfl) hs ?_
     refine (.bJ rfl (fun hc44=>?_) (fun hc44=>?_))
     ·refine .seq (.draw mix rfl hs ?_);intro w hs
      refine .y 0 rfl hs ak ?_;refine .z 1 rfl (zfa dj) ?_;refine .y 2 rfl hs af ?_;refine .y 3 rfl hs ep ?_;refine .z 4 rfl (zfa dj) ?_;refine .y 5 rfl hs af ?_;refine .y 6 rfl hs ak ?_;refine .z 7 rfl (zfa dc) ?_;refine .y 8 rfl hs af ?_
      first|(refine .ixv 9 rfl hs aa ae ?_;intro b54 o54 hc54)|refine .z 9 rfl (zix aa ae) ?_
      refine .y 10 rfl hs af ?_;refine .z 11 rfl (zfa eW) ?_;refine .y 12 rfl hs af ?_;refine .z 13 rfl cA ?_
      refine .yd (i:=14) (vs:=x.v) hs rfl (by kernel_rfl) .none rfl fy aI ?_
      first|(refine .ixv 15 rfl hs aa ae ?_;intro b60 o60 hc60)|refine .z 15 rfl (zix aa ae) ?_
      refine .e1 (i:=16) (by kernel_rfl) rfl rfl .none hs ?_
      refine .store hs rfl rfl ae ?_;intro w hs
      refine .go ?_
      first|(refine .ixw 17 rfl hs aC aI ?_;intro b61 o61 hc61)|refine .z 17 rfl (nR aC aI) ?_
      refine .e1 (i:=18) (by kernel_rfl) rfl rfl .none hs ?_
      refine .aS (vs:=x.v) hs rfl rfl aI ?_;intro w hs
      refine .go ?_
      refine .done (by kernel_rfl) hs ?_
      refine .region ?_
      refine .o (.store hs rfl rfl wj ?_);intro w hs
      refine .nil ?_
      refine nB ?_
      obtain ⟨H3,g1,g2,hs⟩:=hs.cP .here
      exact ⟨H3,_,g1,hs,s.rlx x,some x,_,rfl,⟨b8,rfl,g2⟩,hN.ub hok hx hc44⟩
     ·refine .skip ?_
      refine nB ?_
      exact ⟨H2,_,HLe.refl _,hs.tail,s,ov,vo,rfl,hov,hN.skip hok hx (by unfold BS.can;omega)⟩
    ·rintro D H2 σb2 w hle2 ⟨s,ov,vo,rfl,hov,hN⟩ hs
     obtain ⟨a',rfl,ha'⟩:=hov.ptr
     replace hs:St H2 w (.blk b4 [.slice (some ⟨bc,0,none⟩) (N+1) (N+1)]:: .blk b5 [.slice (some ⟨bb,0,none⟩) (N+1) (N+1)]:: .blk b6 [.pointer a']:: .blk bc (Is s.cost):: .blk bb (iX s.by_)::(mes (D::Ds)++σ)):=St.deep (σ1:=[_,_,_,_,_]) hs
     have hN:tA (N+1) ar r ar.length ov s:=by simpa using hN
     refine nB (nT ?_)
     refine .ai (.y hs (zld xH) ?_)
     refine .q hs (AO rfl rfl tI) ?_
     refine .nil ?_
     refine (.cond rfl (fun hc63=>?_) (fun hc63=>?_))
     ·refine .seq (.draw mix rfl hs ?_);intro w hs
      refine .y 0 rfl hs ak ?_;refine .y 1 rfl hs ep ?_
      refine .e1 (i:=2) (by kernel_rfl) rfl rfl .none hs ?_
      refine .store hs rfl rfl aA ?_;intro w hs
      refine .go ?_
      refine .e1 (i:=3) (by kernel_rfl) rfl rfl .none hs ?_
      refine .store hs rfl rfl lU ?_;intro w hs
      refine .go ?_
      refine .e1 (i:=4) (by kernel_rfl) rfl rfl .none hs ?_
      refine .store hs rfl rfl wj ?_;intro w hs
      refine .go ?_
      refine .done (by kernel_rfl) hs ?_
      refine .ret (rB (rT (rB (rT (?_)))))
      obtain ⟨rfl,rfl⟩:=OvR.no ha' hc63
      refine Fin.iG (D::Ds) [_,_,_,_,_] hs fun w hs=>⟨_,results3 Tryz.results126 (zI hs rfl ak) (zI hs rfl ep) (zI hs rfl xH),H2,bc,bb,s,none,_,hle1.trans hle2,rfl,hov,⟨r,hN,fun h=>(h rfl).elim⟩,hs.sub (by repeat (first|exact Sub.refl _|constructor|apply Sub.weaken))⟩
     ·refine .skip ?_
      refine nB (nT ?_)
      obtain ⟨x,rfl⟩:=OvR.yes ha' hc63
      exact .mk (ds:=marks (D::Ds)) ⟨rfl,D::Ds,H2,s,_,rfl,hle1.trans hle2,hN.next hok,.inr ⟨x,hov,hN⟩,hs⟩
   ·rintro ds fr w ⟨rfl,Ds,H1,s,vo,rfl,hle1,hN0,hor,hs⟩
    obtain ⟨x,hov,hN⟩:∃x,OvR H1 vo (some x)∧tA (N+1) ar (N+2 - 1) ar.length (some x) s:=hor.resolve_left (by omega)
    obtain ⟨b3,rfl,hrow⟩:=hov
    refine nT ?_
    refine .seq (.draw mix rfl hs ?_);intro w hs
    refine .y 0 rfl hs ak ?_;refine .y 1 rfl hs ep ?_;refine .y 2 rfl hs xH ?_
    refine .e1 (i:=3) (by kernel_rfl) rfl rfl .none hs ?_
    refine .store hs rfl rfl aA ?_;intro w hs
    refine .go ?_
    refine .e1 (i:=4) (by kernel_rfl) rfl rfl .none hs ?_
    refine .store hs rfl rfl lU ?_;intro w hs
    refine .go ?_
    refine .e1 (i:=5) (by kernel_rfl) rfl rfl .none hs ?_
    refine .store hs rfl rfl wj ?_;intro w hs
    refine .go ?_
    refine .done (by kernel_rfl) hs ?_
    refine .ret ?_
    refine Fin.iG Ds [_,_,_,_,_] hs fun w hs=>⟨_,results3 Tryz.results126 (zI hs rfl ak) (zI hs rfl ep) (zI hs rfl xH),H1,bc,bb,s,some x,_,hle1,rfl,⟨b3,rfl,hrow⟩,⟨N+1,hN,fun _=>rfl⟩,hs.sub (by repeat (first|exact Sub.refl _|constructor|apply Sub.weaken))⟩
theorem iW{H:bn}{w:World}{σ:List Ent}{v:Value}{s:cB}(hs:St H w σ)(hok:s.Ok)(hr:RSy H v s):
  Cl Tryz.prog 133 [v] w fun v w'=>∃H1 b,HLe H H1∧v= .bool b∧(b=true↔s.Sound)∧St H1 w' σ:=by
 obtain ⟨u,rfl,hr⟩:=hr
 obtain ⟨N,hN⟩:=Int.eq_ofNat_of_zero_le hok.m0
 have hN1:=hok.m1
 have hn:s.n=N+1:=by simp [cB.n,hN]
 have hoka:=hok.di
 rw [hn] at hoka
 rw [hN]
 refine Cl.of Tryz.func133 rfl Tryz.ntmps133 (by simp) (aj (k:=0) rfl (bh)) ?_
 refine .ai ?_
 refine .o (.box hs rfl rfl ?_);intro b1 w hs
 refine .z zg (.nil ?_)
 refine .seq (.draw mix rfl hs ?_);intro w hs
 refine .z 0 rfl (zfa bE) ?_;refine .y 1 rfl hs af ?_;refine .ys 2 rfl hs [_,_] aU aB ?_
 refine .e1 (i:=3) (by kernel_rfl) rfl rfl .none hs ?_
 refine .call Tryz.call127 rfl (jV (s:=s) hs hok ⟨u,by rw [hN],hr⟩) ?_;rintro _ w ⟨H1,b10,hle1,rfl,hit,hs⟩
 refine .go ?_
 refine .e1 (i:=4) (by kernel_rfl) rfl rfl .none hs ?_
 refine .call Tryz.call126 rfl (kV hs (by omega) hoka hit Tryz.call203) ?_;rintro _ w ⟨H2,bc,bb,st,ov,vo,hle2,rfl,hov,hnr,hs⟩
 obtain ⟨a',rfl,ha'⟩:=hov.ptr
 refine .go ?_
 refine .z 5 rfl zm ?_;refine .z 6 rfl zex ?_;refine .z 7 rfl zex ?_;refine .z 8 rfl zex ?_;refine .z 9 rfl zg ?_;refine .z 10 rfl zg ?_;refine .z 11 rfl zg ?_;refine .done (by kernel_rfl) hs ?_
 refine .ai (.z zm ?_)
 refine .q hs (AO rfl rfl tI) ?_
 refine .z zg (.nil ?_)
 refine .ret (Fin.bI Tryz.results133 rfl ?_)
 refine ⟨H2,_,hle1.trans hle2,rfl,?_,hs.out⟩
 obtain ⟨r,hN2,hr2⟩:=hnr
 cases ov with
 |none=>
  rw [ha']
  exact ⟨fun _=>⟨_,(hN2.sol hoka (by omega)).1⟩,fun _=>rfl⟩
 |some x=>
  rw [ha']
  exact ⟨fun h=>(by cases h),fun h=>(hN2.none hoka (by omega) (by have:=hr2 (by simp);omega) h).elim⟩
theorem oQ{H:bn}{w:World}{σ:List Ent}{c:Int}(hs:St H w σ)(hc:0≤c∧c<4294967296):Cl Tryz.prog 299 [.int .u64 1,.int .u64 c] w fun v w'=>v= .tuple #[.int .u64 0,.int .u64 c]∧St H w' σ:=by
 refine Cl.of Tryz.func299 rfl Tryz.ntmps299 (by simp) (aj (k:=0) rfl (aj (k:=1) rfl (bh))) ?_
 refine .ai (.z zg (.z zg (.nil (.ai (.z zm ?_)))))
 first|refine .q hs (DR rfl rfl ⟨by omega,by omega⟩) ?_|refine .q hs (yQ rfl rfl) ?_
 refine .z zg (.nil (.ai (.z zm ?_)))
 first|refine .q hs (wT rfl rfl ⟨by omega,by omega⟩) ?_|refine .q hs (zK rfl rfl (by decide)) ?_
 refine .z zg (.nil (.ai (.z zm ?_)))
 first|refine .q hs (DR rfl rfl ⟨by omega,by omega⟩) ?_|refine .q hs (yQ rfl rfl) ?_
 refine .z zg (.nil (.ai (.z zm ?_)))
 first|refine .q hs (wT rfl rfl ⟨by omega,by omega⟩) ?_|refine .q hs (zK rfl rfl (by decide)) ?_
 refine .z zg (.nil (.ai (.z zm (.z zm (.z j7 (.z zg (.nil (.ai (.z zm ?_)))))))))
 refine .z zm (.z j7 (.z zm ?_))
 first|refine .q hs (wT rfl rfl ⟨by omega,by omega⟩) ?_|refine .q hs (zK rfl rfl (by decide)) ?_
 refine .z cA (.z zg (.nil (.ai (.z zm ?_))))
 first|refine .q hs (DR rfl rfl ⟨by omega,by omega⟩) ?_|refine .q hs (yQ rfl rfl) ?_
 refine .z zg (.nil (.ai (.z zm ?_)))
 first|refine .q hs (wT rfl rfl ⟨by omega,by omega⟩) ?_|refine .q hs (zK rfl rfl (by decide)) ?_
 refine .z zg (.nil (.ai (.z zm (.z zm (.z zm (.z j7 (.z cA (.z zg (.nil ?_)))))))))
 refine .ai (.z zm (.z zm (.z j7 (.z zm (.z cA (.z zm ?_))))))
 first|refine .q hs (wT rfl rfl ⟨by omega,by omega⟩) ?_|refine .q hs (zK rfl rfl (by decide)) ?_
 refine .z cA (.z zg (.nil (.ai (.z zm (.z zm (.z j7 (.z zg (.nil ?_))))))))
 refine .ret (Fin.lg Tryz.results299 rfl rfl ?_)
 exact ⟨by simp,hs⟩
theorem qH{H:bn}{w:World}{σ:List Ent}{c:Int}(hs:St H w σ)(hc:0≤c∧c<4294967296):Cl Tryz.prog 297 [.int .u64 1,.int .u64 c] w fun v w'=>v= .tuple #[.int .u64 0,.int .u64 c]∧St H w' σ:=by
 refine Cl.of Tryz.func297 rfl Tryz.ntmps297 (by simp) (aj (k:=0) rfl (aj (k:=1) rfl (bh))) ?_
 refine .ai (.z zg (.z zg (.nil ?_)))
 refine .seq (.mj rfl (by first|rfl|exact decide_eq_false (by assumption)) ?_)
 refine .skip ?_
 refine nT ?_
 refine .ai (.z zm (.z zm ?_))
 refine .o (.call Tryz.call299 rfl (oQ hs hc) ?_);rintro _ w ⟨rfl,hs⟩
 refine .z zm (.z zex (.z zex (.z zg (.z zg (.nil (.ai (.z zm (.z zm (.z zg ?_)))))))))
 refine .z zg (.nil ?_)
 refine .ret (Fin.lg Tryz.results297 rfl rfl ?_)
 exact ⟨rfl,hs⟩
theorem Bh{c k:Nat}{z:Int}:let n:=min k (c - k);(List.replicate k z++List.replicate (c - k) 0).take k++List.replicate n z++(List.replicate k z++List.replicate (c - k) 0).drop (k+n)=List.replicate (k+n) z++List.replicate (c - (k+n)) (0:Int):=by
 intro n
 have hn:n≤c - k:=Nat.min_le_right _ _
 have e0:(List.replicate k z).length=k:=by simp
 rw [List.take_left' e0]
 have e1:(List.replicate k z++List.replicate (c - k) 0).drop (k+n)=List.replicate (c - (k+n)) (0:Int):=by
  rw [show k+n=(List.replicate k z).length+n by simp,List.drop_append]
  simp
  omega
 rw [e1,List.replicate_append_replicate]
theorem qw{H:bn}{w:World}{σ:List Ent}{z:Int}{bx c:Nat}(hs:St H w σ)(hm:Mem σ (.blk bx (Is [z])))(h1:1≤c)(h2:c≤1000000):Cl Tryz.prog 288 [.slice (some ⟨bx,0,none⟩) 1 1,I c] w fun v w'=>∃b,v= .slice (some ⟨b,0,none⟩) c c∧St H w' (.blk b (Is (List.replicate c z))::σ):=by
 refine Cl.of Tryz.func288 rfl Tryz.ntmps288 (by simp) (aj (k:=0) rfl (aj (k:=1) rfl (bh))) ?_
 refine .ai (.z zg (.nil (.seq (.ai (.z zm (.z fN (.nil ?_)))))))
 refine (.bJ rfl (fun hc10=>?_) (fun hc10=>?_))
 ·omega
 ·refine .skip ?_
  refine nT ?_
  refine .ai (.z zm (.z (cM aa) ?_))
  first|refine .q hs (xZ rfl aK dP ⟨by omega,by omega⟩) ?_|refine .q hs (xY rfl aK dP ⟨by omega,by omega⟩) ?_|refine .q hs (wU rfl aK dP) ?_
  refine .z zm ?_
  first|refine .q hs (xZ rfl aK dP ⟨by omega,by omega⟩) ?_|refine .q hs (xY rfl aK dP ⟨by omega,by omega⟩) ?_|refine .q hs (wU rfl aK dP) ?_
  refine .o (.call Tryz.call297 rfl (qH (c:=c) hs (by omega)) ?_);rintro _ w ⟨rfl,hs⟩
  refine .z zm (.z zex (.z zex (.z zg (.z zg (.nil (.seq (.ai (.z zm (.z lk ?_)))))))))
  refine .z zm ?_
  refine .iE (t':=23) rfl (fun hb23=>?_) (fun hb23=>?_)
  ·refine .gFs 2 2 false rfl rfl rfl ?_
   refine .z zpT (.nil ?_)
   refine (.fj rfl (by first|rfl|exact decide_eq_true (by assumption)) ?_)
   first|omega|(simp at hc26;omega)
  ·refine .gT rfl rfl ?_
   refine .z zm ?_
   refine .gT rfl rfl ?_
   refine .z lk (.z zpF (.nil ?_))
   refine (.bJ rfl (fun hc26=>?_) (fun hc26=>?_))
   ·first|omega|(simp at hc26;omega)
   ·refine .skip ?_
    refine nT ?_
    refine .ai (.z zm ?_)
    first|refine .q hs (xZ rfl dP aK ⟨by omega,by omega⟩) ?_|refine .q hs (xY rfl dP aK ⟨by omega,by omega⟩) ?_|refine .q hs (wU rfl dP aK) ?_
    refine .o (.oT c hs rfl rfl aa dq rfl ae bH (by omega) ?_);intro b30 w hs
    refine .z zg (.nil (.ai (.z zm (.z zm ?_))))
    refine .o (.copyI (k:=1) (xs:=List.replicate c 0) (zs:=[z]) hs rfl rfl ⟨_,_,rfl⟩ aa ae (by omega) rfl (xl (xs:=[z]) (.there hm) rfl rfl) (by simp;omega) ?_);intro w hs
    refine .z zg (.nil (.seq (.block ?_)))
    refine .loop (fun k:Nat=>⟨48,[],[(8,I k),(7,.slice (some ⟨b30,0,none⟩) c c)]⟩) (fun k w=>(1≤k∧k≤c)∧St H w (.blk b30 (Is (List.replicate k z++List.replicate (c - k) 0))::σ)) (fun k=>c - k) 1 (by repeat (first|exact .nil rfl rfl|refine .cons rfl ?_)) ⟨⟨by omega,by omega⟩,by
      have e:List.take 0 (List.replicate c (0:Int))++[z]++List.drop (0+1) (List.replicate c 0)=List.replicate 1 z++List.replicate (c - 1) 0:=by simp
      rw [e] at hs;exact hs⟩ ?_
    rintro k w ⟨⟨k1,k2⟩,hs⟩
    refine .seq (.ai (.z zm (.z zm (.z (cM aa) (.z fN (.nil ?_))))))
    refine (.bJ rfl (fun hc37=>?_) (fun hc37=>?_))
    ·refine .skip ?_
     refine nT ?_
     refine .block ?_
     refine .draw mix rfl hs ?_;intro w hs
     refine .z 0 rfl zm ?_;refine .z 1 rfl zm ?_;refine .z 2 rfl zm ?_
     refine .p (i:=3) rfl (by kernel_rfl) .none (wS (k:=k) rfl rfl aa ae (by omega) (by omega)) ?_
     refine .z 4 rfl zm ?_;refine .z 5 rfl zm ?_
     refine .p (i:=6) rfl (by kernel_rfl) .none (sZ (k:=k) rfl rfl aa ae (by omega)) ?_
     refine .e1 (i:=7) (by kernel_rfl) rfl rfl .none hs ?_
     refine .copyI (k:=min k (c - k)) (xs:=List.replicate k z++List.replicate (c - k) 0) (zs:=List.replicate (min k (c - k)) z) hs rfl rfl ⟨_,_,rfl⟩ aa ae rfl (by simp) (xl (xs:=List.replicate k z++List.replicate (c - k) 0) .here (by rw [List.drop_zero,List.take_append_of_le_length (by simp;omega)];simp) (by simp)) (by simp;omega) ?_;intro w hs
     refine .go ?_
     refine .z 8 rfl cA ?_;refine .z 9 rfl zg ?_;refine .done (by kernel_rfl) hs ?_
     refine nB (nT ?_)
     exact ⟨k+min k (c - k),by repeat (first|exact .nil rfl rfl|refine .cons rfl ?_),⟨⟨by omega,by omega⟩,by
       have e:=Bh (z:=z) (c:=c) (k:=k)
       simp only [Nat.mul_one,Nat.zero_add] at hs
       rw [e] at hs;exact hs⟩,by omega⟩
    ·refine .exit ?_
     refine xT (xT (xB (nT ?_)))
     refine .ai (.z zm (.z zg (.nil ?_)))
     refine .ret (Fin.bI Tryz.results288 rfl ?_)
     obtain rfl:k=c:=by omega
     exact ⟨b30,rfl,by simpa using hs⟩
theorem qx{H:bn}{w:World}{σ:List Ent}{v:Value}{xs:List Int}(hs:St H w σ)(hr:RI H v xs)(hx:xs.length≤17592186044416):Cl Tryz.prog 197 [v] w fun u w'=>∃en,(nnil v=true→nnil u=true)∧cu 1 u (Is xs) en∧St H w' (en::σ):=by
 obtain ⟨a,c,rfl⟩:=RI.shape hr
 have hl:=(RI.len hr).2.2
 refine Cl.of Tryz.func197 rfl Tryz.ntmps197 (by simp) (aj (k:=0) rfl (bh)) ?_
 refine .ai (.z zg (.nil (.seq (.ai (.z zm ?_)))))
 refine .q hs (q_eqSN rfl rfl aa) ?_
 refine .nil ?_
 refine (.cond rfl (fun hc4=>?_) (fun hc4=>?_))
 ·refine .ai (.z zg (.nil ?_))
  refine .ret (rT (Fin.bI Tryz.results197 rfl ?_))
  obtain rfl:a=none:=by simpa using hc4
  obtain rfl:=hr.nilOf
  exact ⟨.nul,fun h=>h,.nil 1 none,hs.nul⟩
 ·refine .skip ?_
  refine nT ?_
  refine .ai ?_
  refine .o (.buildSlice (cells:=[]) hs iD rfl rfl ?_);intro b5 w hs
  refine .z zm ?_
  refine .o (.Bu (xs:=[]) (ys:=Is xs) hs bP rfl rfl (.full rfl) (.ints hr) (by simp [Value.oneCell']) (fun l h=>by simp at h;omega) ?_);intro v7 en7 w hnn hO hs
  refine .z zg (.nil ?_)
  refine .ret (Fin.bI Tryz.results197 rfl ?_)
  exact ⟨en7,fun _=>hnn rfl,hO,hs⟩
theorem mr{H:bn}{w:World}{σ:List Ent}{v:Value}{xs:List Int}(hs:St H w σ)(hr:RI H v xs)(hx:xs.length≤17592186044416):Cl Tryz.prog 197 [v] w fun v w'=>∃en,cu 1 v (Is xs) en∧St H w' (en::σ):=
 (qx hs hr hx).mono fun _ _ ⟨en,_,h⟩=>⟨en,h⟩
theorem oE{H:bn}{w:World}{σ:List Ent}{v:Value}{l:List Arc}{en:Ent}(hs:St H w (en::σ))(ho:cu 4 v (iX l) en)(hl:l.length≤1000000):
  Cl Tryz.prog 289 [v] w fun _ w'=>∃en',cu 4 v (iX l.reverse) en'∧St H w' (en'::σ):=by
 rcases ho with ⟨a,rfl,h2,rfl⟩|⟨b,len,cap,sp,rfl,rfl,h2,h3,h4⟩
 ·obtain rfl:l=[]:=by
   have:=congrArg List.length h2
   rw [dG] at this
   exact List.length_eq_zero_iff.1 (by simp at this;omega)
  have hs:=hs.tail
  refine Cl.of Tryz.func289 rfl Tryz.ntmps289 (by simp) (aj (k:=0) rfl (bh)) ?_
  refine .ai (.z zm (.z (cM aC) (.z gM (.z zg (.z zg (.nil (.block ?_)))))))
  refine .loop (fun _:Unit=>⟨28,[],[(2,I 0),(3,I (-1))]⟩) (fun _ w=>St H w σ) (fun _=>0) () (by repeat (first|exact .nil rfl rfl|refine .cons rfl ?_)) hs ?_
  rintro _ w hs
  refine .seq (.ai (.z zm (.z zm (.z fN (.nil ?_)))))
  refine (.bJ rfl (fun hc9=>?_) (fun hc9=>?_))
  ·omega
  ·refine .exit ?_
   refine xT (xT (xB ?_))
   exact Fin.xC Tryz.results289 ⟨.nul,.nil 4 a,hs.nul⟩
 obtain rfl:len=l.length:=by rw [dG] at h2;omega
 refine Cl.of Tryz.func289 rfl Tryz.ntmps289 (by simp) (aj (k:=0) rfl (bh)) ?_
 refine .ai (.z zm (.z (cM aC) (.z gM (.z zg (.z zg (.nil (.block ?_)))))))
 refine .loop (fun p:Nat×List Arc=>⟨28,[],[(2,I p.1),(3,I ((l.length:Int) - 1 - p.1)),(0,.slice (some ⟨b,0,none⟩) l.length cap)]⟩) (fun p w=>(2*p.1≤l.length+1∧rh l p.2 p.1)∧St H w (.blk b (iX p.2++sp)::σ)) (fun p=>l.length - p.1) (0,l) (.cons rfl (.cq rfl (by simp) (.cons rfl (.nil rfl rfl)))) ⟨⟨by simp,.start l⟩,hs⟩ ?_
 rintro ⟨i,L⟩ w ⟨⟨h5,h6⟩,hs⟩
 dsimp only at h5 h6 hs ⊢
 have hL:=h6.1
 refine .seq (.ai (.z zm (.z zm (.z fN (.nil ?_)))))
 refine (.bJ rfl (fun hc9=>?_) (fun hc9=>?_))
 ·refine .skip ?_
  refine nT ?_
  refine .seq (.block ?_)
  refine .draw mix rfl hs ?_;intro w hs
  refine .z 0 rfl zm ?_;refine .z 1 rfl zm ?_;refine .z 2 rfl zm ?_;refine .z 3 rfl zm ?_;refine .z 4 rfl zm ?_;refine .z 5 rfl zm ?_
  refine .p (i:=6) rfl (by kernel_rfl) .none (uG (k:=l.length - 1 - i) rfl rfl aC aI (by omega) (by omega)) ?_
  refine .yd (i:=7) (vs:=(ga L (l.length - 1 - i)).v) hs rfl (by kernel_rfl) .none rfl fy aI ?_ (hv:=tu (by omega) sp)
  refine .z 8 rfl zm ?_;refine .z 9 rfl zm ?_
  first|(refine .ixw 10 rfl hs aC aI ?_;intro b24 o24 hc24)|refine .z 10 rfl (nR aC aI) ?_
  refine .yd (i:=11) (vs:=(ga L i).v) hs rfl (by kernel_rfl) .none rfl fy aI ?_ (hv:=tu (by omega) sp)
  first|(refine .ixw 12 rfl hs aC aI ?_;intro b26 o26 hc26)|refine .z 12 rfl (nR aC aI) ?_
  refine .e1 (i:=13) (by kernel_rfl) rfl rfl .none hs ?_
  refine .aS (vs:=(ga L (l.length - 1 - i)).v) hs rfl rfl aI ?_ (by repeat constructor) (tp (by omega) sp) (q6 (by omega) _ sp);intro w hs
  refine .go ?_
  refine .p (i:=14) rfl (by kernel_rfl) .none (uG (k:=l.length - 1 - i) rfl rfl aC aI (by omega) (by omega)) ?_
  refine .e1 (i:=15) (by kernel_rfl) rfl rfl .none hs ?_
  refine .aS (vs:=(ga L i).v) hs rfl rfl aI ?_ (by repeat constructor) (tp (by simp;omega) sp) (q6 (by simp;omega) _ sp);intro w hs
  refine .go ?_
  refine .done (by kernel_rfl) hs ?_
  refine nB (nT ?_)
  refine .region (.z zm (.z cA (.z zm (.z gM (.z zg (.z zg (.nil ?_)))))))
  refine nT ?_
  exact ⟨(i+1,_),.cons rfl (.cq rfl (by push_cast;omega) (.cons rfl (.nil rfl rfl))),⟨⟨by dsimp only;omega,h6.step (by omega)⟩,hs⟩,by dsimp only;omega⟩
 ·refine .exit ?_
  refine xT (xT (xB ?_))
  rw [h6.done (by omega)] at hs
  exact Fin.xC Tryz.results289 ⟨_,.inr ⟨b,l.length,cap,sp,rfl,rfl,by rw [dG];simp,by rw [←h3];simp [dG],h4⟩,hs⟩
theorem mN{H:bn}{b1 bf bt bl cl:Nat}{s:cB}{ts lf:List Int}{vl:Value}{sp:List Value}(hok:s.Ok)(hb:Row H b1 [.pointer (some ⟨bf,0,none⟩)])(hF:uu H bf s ts lf vl bt bl cl sp)(hlt:ts.length=s.cz.length):
  ItA Tryz.prog 270 [.pointer (some ⟨b1,0,none⟩)] H (cT s.di ts):=by
 intro l II Ix hmI hmX hy H0 σb0 σf w hle hI0 hs
 have hb0:cellAt H0 b1 0=some (.pointer (some ⟨bf,0,none⟩)):=(hb.mono hle).at 0
 have hF0:=hF.mono hle
 have hsys:=hF0.f.cells 0 [I s.many,vl]
 have hlen:s.di.length=ts.length:=by simp [cB.di,eN,hlt]
 refine Cl.of Tryz.func270 rfl Tryz.ntmps270 (by simp) (aj (k:=0) rfl (aj (k:=1) rfl (bh))) ?_
 refine .ai ?_
 refine .o (.box hs rfl rfl ?_);intro b2 w hs
 refine .nil (.ai (.y hs (zld kG) (.z znc (.z (zfa fH) ?_))))
 refine .q hs (cj (vs:=[I s.many,vl]) rfl aU aB hsys) ?_
 refine .o (.call Tryz.call127 rfl (jV (s:=s) hs hok ⟨vl,rfl,hF0.l⟩) ?_);rintro _ w ⟨H1,b8,hle1,rfl,hit,hs⟩
 refine .nil (.block ?_)
 refine .rangeFunc (gf:=203) (cap:=[.pointer (some ⟨b8,0,none⟩)]) (xs:=s.di.map fun x:Arc=>[Value.agg x.v.toArray]) (σb:= .blk b2 [.func (.yield l) #[] #[]]::σb0) (σf:=σf) hs trivial rfl hit Tryz.call203 (by simp) rfl
  (I:=fun k H' σb=>∃σo,σb= .blk b2 [.func (.yield l) #[] #[]]::σo∧HLe H0 H'∧II (yS s.di ts k) H' σo)
  (Ix:=fun c H' σb=>c= .ret∧∃σo,σb= .blk b2 [.func (.yield l) #[] #[]]::σo∧HLe H0 H'∧Ix H' σo)
  (fun k _ _ σ g1 ⟨σo,g2,g3,g4⟩=>⟨σo,g2,g3.trans g1,hmI _ _ _ _ g1 g4⟩) (fun c _ _ σ g1 ⟨g0,σo,g2,g3,g4⟩=>⟨g0,σo,g2,g3.trans g1,hmX _ _ _ g1 g4⟩)
  ⟨σb0,rfl,hle1,by rw [AS];exact hmI _ _ _ _ hle1 hI0⟩ ?_ ?_ ?_
 ·rintro l2 k hk H2 σb2 σf2 w hle2 ⟨σo,rfl,hle0,hIk⟩ hs ⟨rr,hrr⟩
  obtain ⟨x,hx⟩:=nth (l:=s.di) (by simpa using hk)
  obtain ⟨c1,c2,c3,c4,c5,c6⟩:=hok.di.2 x (List.mem_of_getElem? hx)
  have hxk:(s.di.map fun x=>[Value.agg x.v.toArray])[k]=[.agg x.v.toArray]:=by rw [List.getElem_map];rw [List.getElem?_eq_some_iff] at hx;obtain ⟨h1,h2⟩:=hx;rw [h2]
  rw [hxk]
  have hkt:k<ts.length:=by rw [←hlen];simpa using hk
  have hxl:x.l=(k:Int):=qf hx
  obtain ⟨r1,r2,r3⟩:=AH (ts:=ts) hx hkt
  refine .region ?_
  refine .o (.alloc hs dA rfl ?_);intro b3 w hs
  refine .o (.aS (vs:=x.v) hs rfl rfl aI ?_);intro w hs
  refine .nil ?_
  refine nT ?_
  refine ⟨H2,.blk b3 x.v:: .blk b2 [.func (.yield l) #[] #[]]::σo,HLe.refl _,hs,?_⟩;rintro w σf2 - hs
  refine .block (.seq (.ai ?_))
  refine .y hs (zld Tryz.isAgg245) ?_
  refine .q hs (kq (vs:=x.v) rfl fy aI) ?_
  have hyd:=hy (yS s.di ts k) (by simpa using (List.getElem?_eq_some_iff.1 r1).1) H2 σo (.blk b3 x.v:: .blk b2 [.func (.yield l) #[] #[]]::σf2) w (hle.trans hle0) hIk (St.deep (σ1:=σo) (St.deep (σ1:= .blk b3 x.v::σo) (hs.perm (.swap _ _ _))))
  rw [A3 r1] at hyd
  refine .o (.yield (vs:=[.agg x.v.toArray]) rfl rfl hyd ?_);rintro v12 w ⟨H3,σ3,hle3,hs,g3⟩
  obtain ⟨bb,rfl,gT,gF⟩:=oA g3
  replace hs:St H3 w (.blk b3 x.v:: .blk b2 [.func (.yield l) #[] #[]]::(σ3++σf2)):=(St.shallow (σ1:= .blk b3 x.v::σ3) (St.shallow (σ1:=σ3) hs)).perm (.swap _ _ _)
  refine .z iI (.nil ?_)
  refine (.cond rfl (fun hc13=>?_) (fun hc13=>?_))
  ·refine .ret (rT (rB (?_)))
   exact ⟨H3,.blk b2 [.func (.yield l) #[] #[]]::σ3,hle3,hs.tail,rfl,σ3,rfl,hle0.trans hle3,gF (by simpa using hc13)⟩
  ·refine .skip ?_
   refine nT ?_
   refine .seq (.draw mix rfl hs ?_);intro w hs
   have hb3:cellAt H3 b1 0=some (.pointer (some ⟨bf,0,none⟩)):=cellAt.mono hb0 (hle0.trans hle3)
   have hf3:cellAt H3 bf 2=some (.slice (some ⟨bt,0,none⟩) ts.length ts.length):=((hF0.mono (hle0.trans hle3)).f).at 2
   have ht3:cellAt H3 bt k=some (I (gi ts k)):=((hF0.mono (hle0.trans hle3)).t).at k (eI hkt)
   have hI3:=gT (by simpa using hc13)
   refine .r (i:=0) hs rfl (by kernel_rfl) .none (aM rfl kG hb3) ?_
   refine .z 1 rfl znc ?_;refine .z 2 rfl (zfa gD) ?_;refine .y 3 rfl hs ak ?_;refine .z 4 rfl (zfa dM) ?_;refine .y 5 rfl hs af ?_
   refine .p (i:=6) rfl (by kernel_rfl) .none (dF (k:=k) rfl rfl aa ae hxl hkt) ?_
   refine .r (i:=7) hs rfl (by kernel_rfl) .none (aM rfl af ht3) ?_
   refine .z 8 rfl lk ?_;refine .z 9 rfl zm ?_
   refine .iE (t':=23) rfl (fun hb23=>?_) (fun hb23=>?_)
   ·refine .y 10 rfl hs Tryz.isAgg245 ?_
    refine .z 11 rfl (zfa dj) ?_;refine .y 12 rfl hs af ?_;refine .z 13 rfl (zfa dc) ?_;refine .y 14 rfl hs af ?_;refine .z 15 rfl (zfa eW) ?_;refine .y 16 rfl hs af ?_;refine .z 17 rfl xI ?_;refine .z 18 rfl (zfa dM) ?_;refine .y 19 rfl hs af ?_;refine .z 20 rfl (zbd [_,_,_,_] ou) ?_
    refine .e1 (i:=21) (by kernel_rfl) rfl rfl (.some rfl rfl) hs ?_
    obtain ⟨r4,r5⟩:=r2 hb23
    have hyd:=hy (yS s.di ts k+1) (by simpa using (List.getElem?_eq_some_iff.1 r4).1) H3 σ3 (.blk b3 x.v:: .blk b2 [.func (.yield l) #[] #[]]::σf2) w (hle.trans (hle0.trans hle3)) hI3 (St.deep (σ1:=σ3) (St.deep (σ1:= .blk b3 x.v::σ3) (hs.perm (.swap _ _ _))))
    rw [A3 r4] at hyd
    refine .yield (vs:=[.agg x.back.v.toArray]) rfl rfl hyd ?_;rintro v35 w ⟨H4,σ4,hle4,hs,g4⟩
    obtain ⟨bb4,rfl,gT4,gF4⟩:=oA g4
    replace hs:St H4 w (.blk b3 x.v:: .blk b2 [.func (.yield l) #[] #[]]::(σ4++σf2)):=(St.shallow (σ1:= .blk b3 x.v::σ4) (St.shallow (σ1:=σ4) hs)).perm (.swap _ _ _)
    refine .go ?_
    refine .z 22 rfl iI ?_;refine .z 23 rfl zpT ?_;refine .done (by kernel_rfl) hs ?_
    refine (.cond rfl (fun hc37=>?_) (fun hc37=>?_))
    ·refine .ret (rB (?_))
     exact ⟨H4,.blk b2 [.func (.yield l) #[] #[]]::σ4,hle3.trans hle4,hs.tail,rfl,σ4,rfl,hle0.trans (hle3.trans hle4),gF4 (by simpa using hc37)⟩
    ·refine .skip ?_
     refine nB ?_
     exact ⟨H4,.blk b2 [.func (.yield l) #[] #[]]::σ4,hle3.trans hle4,hs.tail,σ4,rfl,hle0.trans (hle3.trans hle4),by rw [r5];exact gT4 (by simpa using hc37)⟩
   ·refine .qF (i:=10) rfl (by kernel_rfl) rfl rfl ?_
    refine .qF (i:=11) rfl (by kernel_rfl) rfl rfl ?_
    refine .qF (i:=12) rfl (by kernel_rfl) rfl rfl ?_
    refine .qF (i:=13) rfl (by kernel_rfl) rfl rfl ?_
    refine .qF (i:=14) rfl (by kernel_rfl) rfl rfl ?_
    refine .qF (i:=15) rfl (by kernel_rfl) rfl rfl ?_
    refine .qF (i:=16) rfl (by kernel_rfl) rfl rfl ?_
    refine .qF (i:=17) rfl (by kernel_rfl) rfl rfl ?_
    refine .qF (i:=18) rfl (by kernel_rfl) rfl rfl ?_
    refine .qF (i:=19) rfl (by kernel_rfl) rfl rfl ?_
    refine .qF (i:=20) rfl (by kernel_rfl) rfl rfl ?_
    refine .qF (i:=21) rfl (by kernel_rfl) rfl rfl ?_
    refine .qF (i:=22) rfl (by kernel_rfl) rfl rfl ?_
    refine .z 23 rfl zpF ?_;refine .done (by kernel_rfl) hs ?_
    refine (.mj rfl (by first|rfl|exact decide_eq_false (by assumption)) ?_)
    refine .skip ?_
    refine nB ?_
    exact ⟨H3,.blk b2 [.func (.yield l) #[] #[]]::σ3,hle3,hs.tail,σ3,rfl,hle0.trans hle3,by rw [r3 hb23];exact hI3⟩
 ·rintro D H2 σb2 w hle2 ⟨σo,rfl,hle0,hIk⟩ hs
  refine nB ?_
  exact Fin.endD [D] [] hs.yI fun w hs=>⟨_,results0 Tryz.results270,H2,σo,hle0,hs,.inl (by simpa [Cx hlen] using hIk)⟩
 ·rintro D c H2 σb2 w hle2 ⟨rfl,σo,rfl,hle0,hx⟩ hs
  exact .ret (rB (Fin.iG [D] [] hs.yI fun w hs=>⟨_,results0 Tryz.results270,H2,σo,hle0,hs,.inr hx⟩))
theorem od{H:bn}{w:World}{σ:List Ent}{bf bt bl cl:Nat}{s:cB}{ts lf:List Int}{vl:Value}{sp:List Value}(hs:St H w σ)(hok:s.Ok)(hF:uu H bf s ts lf vl bt bl cl sp)(hlt:ts.length=s.cz.length):
  Cl Tryz.prog 223 [.pointer (some ⟨bf,0,none⟩)] w fun v w'=>∃H1 b,HLe H H1∧v= .func (.func 270) #[] #[.pointer (some ⟨b,0,none⟩)]∧ItA Tryz.prog 270 [.pointer (some ⟨b,0,none⟩)] H1 (cT s.di ts)∧St H1 w' σ:=by
 refine Cl.of Tryz.func223 rfl Tryz.ntmps223 (by simp) (aj (k:=0) rfl (bh)) ?_
 refine .ai ?_
 refine .o (.box hs rfl rfl ?_);intro b1 w hs
 refine .z zg (.nil (.ai ?_))
 refine .q hs (dC (f:=[]) (c:=[_]) rfl rfl) ?_
 refine .z zg (.nil ?_)
 refine .ret (Fin.bI Tryz.results223 rfl ?_)
 obtain ⟨H1,g1,g2,hs⟩:=hs.cP .here
 exact ⟨H1,b1,g1,rfl,mN hok g2 (hF.mono g1) hlt,hs⟩
theorem oY{H:bn}{w:World}{σ:List Ent}{bf bt bl cl to:Nat}{s:cB}{ts lf:List Int}{vl:Value}{sp:List Value}(hs:St H w σ)(hok:s.Ok)(hF:uu H bf s ts lf vl bt bl cl sp)(hlt:ts.length=s.cz.length)(hll:lf.length=s.n)
  (hD:∃p,gQ (cT s.di ts) p) (hto:to<s.n) (hpos:0<gi lf to):
  Cl Tryz.prog 268 [.pointer (some ⟨bf,0,none⟩),I to] w fun v w'=>∃H1 p en,HLe H H1∧cu 4 v (iX p) en∧St H1 w' (en::σ)∧WayR s.n s.di ts lf p to:=by
 obtain ⟨N,hN⟩:=Int.eq_ofNat_of_zero_le hok.m0
 have hN1:=hok.m1
 have hn:s.n=N+1:=by simp [cB.n,hN]
 have hoka:=hok.di
 have hlen:s.di.length=ts.length:=by simp [cB.di,eN,hlt]
 rw [hn] at hoka hll hto ⊢
 obtain ⟨D,hg⟩:=yL (by omega) (by omega) hoka hlen hD
 have hf0:cellAt H bf 0=some (I (N:Int)):=by have:=hF.f.at 0 (v:=I s.many);rwa [hN] at this
 have hf3:cellAt H bf 3=some (.slice (some ⟨bl,0,none⟩) lf.length cl):=hF.f.at 3
 refine Cl.of Tryz.func268 rfl Tryz.ntmps268 (by simp) (aj (k:=0) rfl (aj (k:=1) rfl (bh))) ?_
 refine .ai ?_
 refine .o (.box hs rfl rfl ?_);intro b2 w hs
 refine .z zg (.nil (.ai ?_))
 refine .o (.buildSlice (cells:=[_]) hs cV rfl rfl ?_);intro b13 w hs
 refine .y hs (zld kG) (.z znc (.z (zfa fH) (.z (zfa bE) (.y hs (zld af) (.z cA ?_)))))
 refine .o (.call Tryz.call288 rfl (qw (z:=far) (c:=N+1) hs .here (by omega) (by omega)) ?_);rintro _ w ⟨bc,rfl,hs⟩
 refine .o (.alloc hs dz rfl ?_);intro b5 w hs
 refine .o (.store hs rfl rfl aA ?_);intro w hs
 refine .nil (.ai (.y hs (zld kG) (.z znc (.z (zfa fH) (.z (zfa bE) (.y hs (zld af) (.z cA ?_)))))))
 refine .o (.CI (N+1) hs rfl rfl aC mE rfl aI dA (by omega) ?_);intro b27 w hs
 refine .o (.alloc hs Tryz.zeroValue182 rfl ?_);intro b6 w hs
 refine .o (.store hs rfl rfl lU ?_);intro w hs
 refine .nil (.seq (.ai (.y hs (zld kG) (.z znc (.z (zfa dN) (.y hs (zld ak) (.z (cM aa) (.z zm (.nil ?_)))))))))
 refine .for (N:=lf.length) (J:=fun k fr w=>fr=[(31,.slice (some ⟨bl,0,none⟩) lf.length cl),(5,.pointer (some ⟨b5,0,none⟩)),(6,.pointer (some ⟨b6,0,none⟩)),(2,.pointer (some ⟨b2,0,none⟩)),(1,I to)]∧∃st,tq (N+1) lf k st∧St H w (.blk b6 [.slice (some ⟨b27,0,none⟩) (N+1) (N+1)]:: .blk b27 (iX st.by_):: .blk b5 [.slice (some ⟨bc,0,none⟩) (N+1) (N+1)]:: .blk bc (Is st.cost):: .blk b2 [.pointer (some ⟨bf,0,none⟩)]::σ)) (by omega) ?_ ?_ ?_
 ·exact .mk ⟨rfl,_,.start _ _,hs.sub (by repeat (first|exact Sub.refl _|constructor|apply Sub.weaken))⟩
 ·rintro k fr w hk ⟨rfl,st,hI,hs⟩
  have hck:cellAt H bl k=some (I (gi lf k)):=hF.d.at k (nA (br hk) sp)
  have hlc:=hI.lc
  have hlb:=hI.lb
  have hkb:k<st.by_.length:=by omega
  refine .block (.ai (.z zm ?_))
  first|(refine .ixv hs aa ae ?_;intro b36 o36 hc36)|refine .z (zix aa ae) ?_
  refine .q hs (aM rfl af hck) ?_
  refine .z zg (.z zg (.nil (.ai (.z zm (.z fN (.nil ?_))))))
  refine (.bJ rfl (fun hc39=>?_) (fun hc39=>?_))
  ·refine .ai (.y hs (zld ak) (.z zm ?_))
   first|(refine .ixv hs aa ae ?_;intro b42 o42 hc42)|refine .z (zix aa ae) ?_
   refine .o (.store hs rfl rfl ae ?_);intro w hs
   refine .nil (.region (.y hs (zld ep) (.z zm ?_)))
   first|(refine .ixw hs aC aI ?_;intro b45 o45 hc45)|refine .z (nR aC aI) ?_
   refine .z (zfa dM) ?_
   refine .o (.store hs rfl rfl ae ?_ (by repeat constructor) (zq hkb (by omega)) (xz hkb _));intro w hs
   refine .nil ?_
   refine nB (nT ?_)
   exact .mk ⟨rfl,_,hI.take (by omega) hc39,hs⟩
  ·refine .skip ?_
   refine nB (nT ?_)
   exact .mk ⟨rfl,_,hI.skip hc39,hs⟩
 ·rintro fr w ⟨rfl,st0,hI0,hs⟩
  rw [hll] at hI0
  have hW0:=hI0.inv hg
  refine nT ?_
  refine .seq (.ai ?_)
  refine .o (.alloc hs tC rfl ?_);intro b9 w hs
  refine .o (.store hs rfl rfl iY ?_);intro w hs
  refine .nil (.block ?_)
  refine .loop (fun p:Nat×List Nat×bn×BS×Bool=>⟨141,marks p.2.1,[(9,.pointer (some ⟨p.1,0,none⟩)),(5,.pointer (some ⟨b5,0,none⟩)),(6,.pointer (some ⟨b6,0,none⟩)),(2,.pointer (some ⟨b2,0,none⟩)),(1,I to)]⟩)
   (fun p w=>HLe H p.2.2.1∧(∃j,sr (N+1) (cT s.di ts) (fun v=>gi lf v<0) D j p.2.2.2.2 p.2.2.2.1∧(p.2.2.2.2=false→j=(cT s.di ts).length))∧
    St p.2.2.1 w (.blk p.1 [.bool p.2.2.2.2]:: .blk b6 [.slice (some ⟨b27,0,none⟩) (N+1) (N+1)]:: .blk b27 (iX p.2.2.2.1.by_):: .blk b5 [.slice (some ⟨bc,0,none⟩) (N+1) (N+1)]:: .blk bc (Is p.2.2.2.1.cost):: .blk b2 [.pointer (some ⟨bf,0,none⟩)]::(mes p.2.1++σ)))
   (fun p=>2*WM (N+1) D p.2.2.2.1+(if p.2.2.2.2=true then 1 else 0)) (b9,[],H,st0,true) (by repeat (first|exact .nil rfl rfl|refine .cons rfl ?_)) ⟨HLe.refl _,⟨0,hW0,fun h=>by cases h⟩,hs⟩ ?_
  rintro ⟨b9,Ds,H1,st,ag⟩ w ⟨hle1,⟨j,hW,hj⟩,hs⟩
  dsimp only at hle1 hW hj hs ⊢
  have hlc:=hW.lc
  have hlb:=hW.lb
  refine .seq (.ai (.y hs (zld lx) (.nil ?_)))
  refine (.cond rfl (fun hc48=>?_) (fun hc48=>?_))
  ·refine .skip ?_
   refine nT ?_
   refine .seq (.block (.ai ?_))
   subst hc48
   refine .o (.store hs rfl rfl iY ?_);intro w hs
   refine .nil (.ai (.y hs (zld kG) ?_))
   refine .o (.call Tryz.call223 rfl (od hs hok (hF.mono hle1) hlt) ?_);rintro _ w ⟨H2,b50,hle2,rfl,hit,hs⟩
   refine .nil (.block ?_)
   refine .rangeFunc (gf:=270) (cap:=[.pointer (some ⟨b50,0,none⟩)]) (xs:=(cT s.di ts).map fun x:Arc=>[Value.agg x.v.toArray])
    (σb:=[.blk b9 [.bool false],.blk b6 [.slice (some ⟨b27,0,none⟩) (N+1) (N+1)],.blk b27 (iX st.by_),.blk b5 [.slice (some ⟨bc,0,none⟩) (N+1) (N+1)],.blk bc (Is st.cost),.blk b2 [.pointer (some ⟨bf,0,none⟩)]]) (σf:=mes Ds++σ) hs trivial rfl hit Tryz.call270 (by simp) rfl
    (I:=fun k H' σb=>HLe H2 H'∧∃st' ag,σb=[.blk b9 [.bool ag],.blk b6 [.slice (some ⟨b27,0,none⟩) (N+1) (N+1)],.blk b27 (iX st'.by_),.blk b5 [.slice (some ⟨bc,0,none⟩) (N+1) (N+1)],.blk bc (Is st'.cost),.blk b2 [.pointer (some ⟨bf,0,none⟩)]]∧
     sr (N+1) (cT s.di ts) (fun v=>gi lf v<0) D k ag st'∧WM (N+1) D st'≤WM (N+1) D st∧(ag=true→WM (N+1) D st'<WM (N+1) D st)) (Ix:=fun _ _ _=>False)
    (by rintro k _ _ σ g1 ⟨g2,g3⟩;exact ⟨g2.trans g1,g3⟩) (fun _ _ _ _ _ h=>h) ⟨HLe.refl _,st,false,rfl,hW.next,Nat.le_refl _,fun h=>by cases h⟩ ?_ ?_ (fun D c H' σb w _ h _=>h.elim)
   ·rintro l k hk H3 σb3 σf3 w hle3 ⟨hle23,st',ag,rfl,hW',hm1,hm2⟩ hs ⟨rr,hrr⟩
    obtain ⟨x,hx⟩:=nth (l:=cT s.di ts) (by simpa using hk)
    obtain ⟨c1,c2,c3,c4,c5,c6⟩:=hg.ok x (List.mem_of_getElem? hx)
    rw [A3 hx]
    have hlc':=hW'.lc
    have hlb':=hW'.lb
    have lo1:=hW'.lo x.f c1
    have lo2:=hg.d1 x.f c1
    have hx3:cellAt H3 bl x.t=some (I (gi lf x.t)):=((hF.mono (hle1.trans (hle2.trans hle3))).d).at x.t (nA (br (by omega)) sp)
    have hf33:cellAt H3 bf 3=some (.slice (some ⟨bl,0,none⟩) lf.length cl):=cellAt.mono hf3 (hle1.trans (hle2.trans hle3))
    refine .region ?_
    refine .o (.alloc hs dA rfl ?_);intro b10 w hs
    refine .o (.aS (vs:=x.v) hs rfl rfl aI ?_);intro w hs
    refine .nil ?_
    refine nT ?_
    refine ⟨H3,[.blk b10 x.v,.blk b9 [.bool ag],.blk b6 [.slice (some ⟨b27,0,none⟩) (N+1) (N+1)],.blk b27 (iX st'.by_),.blk b5 [.slice (some ⟨bc,0,none⟩) (N+1) (N+1)],.blk bc (Is st'.cost),.blk b2 [.pointer (some ⟨bf,0,none⟩)]],HLe.refl _,hs,?_⟩;rintro w σf4 - hs
    refine .block ?_
    refine .seq (.draw mix rfl hs ?_);intro w hs
    refine .y 0 rfl hs ak ?_;refine .z 1 rfl (zfa dc) ?_;refine .y 2 rfl hs af ?_
    first|(refine .ixv 3 rfl hs aa ae ?_;intro b55 o55 hc55)|refine .z 3 rfl (zix aa ae) ?_
    refine .y 4 rfl hs af ?_;refine .z 5 rfl fN ?_;refine .z 6 rfl zm ?_
    refine .iE (t':=58) rfl (fun hb58=>?_) (fun hb58=>?_)
    ·refine .y 7 rfl hs ak ?_;refine .z 8 rfl (zfa dc) ?_;refine .y 9 rfl hs af ?_
     first|(refine .ixv 10 rfl hs aa ae ?_;intro b62 o62 hc62)|refine .z 10 rfl (zix aa ae) ?_
     refine .y 11 rfl hs af ?_;refine .z 12 rfl (zfa eW) ?_;refine .y 13 rfl hs af ?_;refine .z 14 rfl cA ?_;refine .y 15 rfl hs ak ?_;refine .z 16 rfl (zfa dj) ?_;refine .y 17 rfl hs af ?_
     first|(refine .ixv 18 rfl hs aa ae ?_;intro b70 o70 hc70)|refine .z 18 rfl (zix aa ae) ?_
     refine .y 19 rfl hs af ?_;refine .z 20 rfl fN ?_;refine .z 21 rfl zpT ?_;refine .z 22 rfl zm ?_
     refine .iE (t':=74) rfl (fun hb74=>?_) (fun hb74=>?_)
     ·refine .y 23 rfl hs kG ?_;refine .z 24 rfl znc ?_;refine .z 25 rfl (zfa dN) ?_;refine .y 26 rfl hs ak ?_;refine .z 27 rfl (zfa dj) ?_;refine .y 28 rfl hs af ?_
      first|(refine .ixv 29 rfl hs aa ae ?_;intro b81 o81 hc81)|refine .z 29 rfl (zix aa ae) ?_
      refine .y 30 rfl hs af ?_;refine .z 31 rfl wI ?_;refine .z 32 rfl zm ?_
      refine .iE (t':=84) rfl (fun hb84=>?_) (fun hb84=>?_)
      ·refine .qF (i:=33) rfl (by kernel_rfl) rfl rfl ?_
       refine .qF (i:=34) rfl (by kernel_rfl) rfl rfl ?_
       refine .qF (i:=35) rfl (by kernel_rfl) rfl rfl ?_
       refine .qF (i:=36) rfl (by kernel_rfl) rfl rfl ?_
       refine .qF (i:=37) rfl (by kernel_rfl) rfl rfl ?_
       refine .qF (i:=38) rfl (by kernel_rfl) rfl rfl ?_
       refine .qF (i:=39) rfl (by kernel_rfl) rfl rfl ?_
       refine .qF (i:=40) rfl (by kernel_rfl) rfl rfl ?_
       refine .qF (i:=41) rfl (by kernel_rfl) rfl rfl ?_
       refine .z 42 rfl zpT ?_;refine .z 43 rfl zpT ?_;refine .done (by kernel_rfl) hs ?_
       refine (.fj rfl (by first|rfl|exact decide_eq_true (by assumption)) ?_)
       refine .draw mix rfl hs ?_;intro w hs
       refine .y 0 rfl hs ak ?_;refine .z 1 rfl (zfa dj) ?_;refine .y 2 rfl hs af ?_;refine .y 3 rfl hs ep ?_;refine .z 4 rfl (zfa dj) ?_;refine .y 5 rfl hs af ?_;refine .y 6 rfl hs ak ?_;refine .z 7 rfl (zfa dc) ?_;refine .y 8 rfl hs af ?_
       first|(refine .ixv 9 rfl hs aa ae ?_;intro b105 o105 hc105)|refine .z 9 rfl (zix aa ae) ?_
       refine .y 10 rfl hs af ?_;refine .z 11 rfl (zfa eW) ?_;refine .y 12 rfl hs af ?_;refine .z 13 rfl cA ?_
       refine .yd (i:=14) (vs:=x.v) hs rfl (by kernel_rfl) .none rfl fy aI ?_
       first|(refine .ixv 15 rfl hs aa ae ?_;intro b111 o111 hc111)|refine .z 15 rfl (zix aa ae) ?_
       refine .e1 (i:=16) (by kernel_rfl) rfl rfl .none hs ?_
       refine .store hs rfl rfl ae ?_;intro w hs
       refine .go ?_
       first|(refine .ixw 17 rfl hs aC aI ?_;intro b112 o112 hc112)|refine .z 17 rfl (nR aC aI) ?_
       refine .e1 (i:=18) (by kernel_rfl) rfl rfl .none hs ?_
       refine .aS (vs:=x.v) hs rfl rfl aI ?_;intro w hs
       refine .go ?_
       refine .e1 (i:=19) (by kernel_rfl) rfl rfl .none hs ?_
       refine .store hs rfl rfl iY ?_;intro w hs
       refine .go ?_
       refine .done (by kernel_rfl) hs ?_
       refine nB ?_
       have:=hW'.less hg hx hb58 hb74
       exact ⟨H3,_,HLe.refl _,hs.tail,hle23,st'.rlx x,true,rfl,hW'.ub hg hx hb58 hb74,by omega,fun _=>by omega⟩
      ·refine .y 33 rfl hs ak ?_;refine .z 34 rfl (zfa dc) ?_;refine .y 35 rfl hs af ?_
       first|(refine .ixv 36 rfl hs aa ae ?_;intro b88 o88 hc88)|refine .z 36 rfl (zix aa ae) ?_
       refine .y 37 rfl hs af ?_;refine .z 38 rfl (zfa eW) ?_;refine .y 39 rfl hs af ?_;refine .z 40 rfl cA ?_;refine .z 41 rfl fN ?_;refine .z 42 rfl zpF ?_;refine .z 43 rfl zpT ?_;refine .done (by kernel_rfl) hs ?_
       refine (.bJ rfl (fun hc95=>?_) (fun hc95=>?_))
       ·refine .draw mix rfl hs ?_;intro w hs
        refine .y 0 rfl hs ak ?_;refine .z 1 rfl (zfa dj) ?_;refine .y 2 rfl hs af ?_;refine .y 3 rfl hs ep ?_;refine .z 4 rfl (zfa dj) ?_;refine .y 5 rfl hs af ?_;refine .y 6 rfl hs ak ?_;refine .z 7 rfl (zfa dc) ?_;refine .y 8 rfl hs af ?_
        first|(refine .ixv 9 rfl hs aa ae ?_;intro b105 o105 hc105)|refine .z 9 rfl (zix aa ae) ?_
        refine .y 10 rfl hs af ?_;refine .z 11 rfl (zfa eW) ?_;refine .y 12 rfl hs af ?_;refine .z 13 rfl cA ?_
        refine .yd (i:=14) (vs:=x.v) hs rfl (by kernel_rfl) .none rfl fy aI ?_
        first|(refine .ixv 15 rfl hs aa ae ?_;intro b111 o111 hc111)|refine .z 15 rfl (zix aa ae) ?_
        refine .e1 (i:=16) (by kernel_rfl) rfl rfl .none hs ?_
        refine .store hs rfl rfl ae ?_;intro w hs
        refine .go ?_
        first|(refine .ixw 17 rfl hs aC aI ?_;intro b112 o112 hc112)|refine .z 17 rfl (nR aC aI) ?_
        refine .e1 (i:=18) (by kernel_rfl) rfl rfl .none hs ?_
        refine .aS (vs:=x.v) hs rfl rfl aI ?_;intro w hs
        refine .go ?_
        refine .e1 (i:=19) (by kernel_rfl) rfl rfl .none hs ?_
        refine .store hs rfl rfl iY ?_;intro w hs
        refine .go ?_
        refine .done (by kernel_rfl) hs ?_
        refine nB ?_
        have:=hW'.less hg hx hb58 hb74
        exact ⟨H3,_,HLe.refl _,hs.tail,hle23,st'.rlx x,true,rfl,hW'.ub hg hx hb58 hb74,by omega,fun _=>by omega⟩
       ·refine .skip ?_
        refine nB ?_
        have:=hW'.src x.t c2 (by omega)
        omega
     ·refine .qF (i:=23) rfl (by kernel_rfl) rfl rfl ?_
      refine .qF (i:=24) rfl (by kernel_rfl) rfl rfl ?_
      refine .qF (i:=25) rfl (by kernel_rfl) rfl rfl ?_
      refine .qF (i:=26) rfl (by kernel_rfl) rfl rfl ?_
      refine .qF (i:=27) rfl (by kernel_rfl) rfl rfl ?_
      refine .qF (i:=28) rfl (by kernel_rfl) rfl rfl ?_
      refine .qF (i:=29) rfl (by kernel_rfl) rfl rfl ?_
      refine .qF (i:=30) rfl (by kernel_rfl) rfl rfl ?_
      refine .qF (i:=31) rfl (by kernel_rfl) rfl rfl ?_
      refine .qF (i:=32) rfl (by kernel_rfl) rfl rfl ?_
      refine .qF (i:=33) rfl (by kernel_rfl) rfl rfl ?_
      refine .qF (i:=34) rfl (by kernel_rfl) rfl rfl ?_
      refine .qF (i:=35) rfl (by kernel_rfl) rfl rfl ?_
      refine .qF (i:=36) rfl (by kernel_rfl) rfl rfl ?_
      refine .qF (i:=37) rfl (by kernel_rfl) rfl rfl ?_
      refine .qF (i:=38) rfl (by kernel_rfl) rfl rfl ?_
      refine .qF (i:=39) rfl (by kernel_rfl) rfl rfl ?_
      refine .qF (i:=40) rfl (by kernel_rfl) rfl rfl ?_
      refine .qF (i:=41) rfl (by kernel_rfl) rfl rfl ?_
      refine .qF (i:=42) rfl (by kernel_rfl) rfl rfl ?_
      refine .z 43 rfl zpF ?_;refine .done (by kernel_rfl) hs ?_
      refine (.mj rfl (by first|rfl|exact decide_eq_false (by assumption)) ?_)
      refine .skip ?_
      refine nB ?_
      exact ⟨H3,_,HLe.refl _,hs.tail,hle23,st',ag,rfl,hW'.skip hx (fun h=>hb74 h.2),hm1,hm2⟩
    ·refine .qF (i:=7) rfl (by kernel_rfl) rfl rfl ?_
     refine .qF (i:=8) rfl (by kernel_rfl) rfl rfl ?_
     refine .qF (i:=9) rfl (by kernel_rfl) rfl rfl ?_
     refine .qF (i:=10) rfl (by kernel_rfl) rfl rfl ?_
     refine .qF (i:=11) rfl (by kernel_rfl) rfl rfl ?_
     refine .qF (i:=12) rfl (by kernel_rfl) rfl rfl ?_
     refine .qF (i:=13) rfl (by kernel_rfl) rfl rfl ?_
     refine .qF (i:=14) rfl (by kernel_rfl) rfl rfl ?_
     refine .qF (i:=15) rfl (by kernel_rfl) rfl rfl ?_
     refine .qF (i:=16) rfl (by kernel_rfl) rfl rfl ?_
     refine .qF (i:=17) rfl (by kernel_rfl) rfl rfl ?_
     refine .qF (i:=18) rfl (by kernel_rfl) rfl rfl ?_
     refine .qF (i:=19) rfl (by kernel_rfl) rfl rfl ?_
     refine .qF (i:=20) rfl (by kernel_rfl) rfl rfl ?_
     refine .z 21 rfl zpF ?_;refine .z 22 rfl zm ?_
     refine .qF (i:=23) rfl (by kernel_rfl) rfl rfl ?_
     refine .qF (i:=24) rfl (by kernel_rfl) rfl rfl ?_
     refine .qF (i:=25) rfl (by kernel_rfl) rfl rfl ?_
     refine .qF (i:=26) rfl (by kernel_rfl) rfl rfl ?_
     refine .qF (i:=27) rfl (by kernel_rfl) rfl rfl ?_
     refine .qF (i:=28) rfl (by kernel_rfl) rfl rfl ?_
     refine .qF (i:=29) rfl (by kernel_rfl) rfl rfl ?_
     refine .qF (i:=30) rfl (by kernel_rfl) rfl rfl ?_
     refine .qF (i:=31) rfl (by kernel_rfl) rfl rfl ?_
     refine .qF (i:=32) rfl (by kernel_rfl) rfl rfl ?_
     refine .qF (i:=33) rfl (by kernel_rfl) rfl rfl ?_
     refine .qF (i:=34) rfl (by kernel_rfl) rfl rfl ?_
     refine .qF (i:=35) rfl (by kernel_rfl) rfl rfl ?_
     refine .qF (i:=36) rfl (by kernel_rfl) rfl rfl ?_
     refine .qF (i:=37) rfl (by kernel_rfl) rfl rfl ?_
     refine .qF (i:=38) rfl (by kernel_rfl) rfl rfl ?_
     refine .qF (i:=39) rfl (by kernel_rfl) rfl rfl ?_
     refine .qF (i:=40) rfl (by kernel_rfl) rfl rfl ?_
     refine .qF (i:=41) rfl (by kernel_rfl) rfl rfl ?_
     refine .qF (i:=42) rfl (by kernel_rfl) rfl rfl ?_
     refine .z 43 rfl zpF ?_;refine .done (by kernel_rfl) hs ?_
     refine (.mj rfl (by first|rfl|exact decide_eq_false (by assumption)) ?_)
     refine .skip ?_
     refine nB ?_
     exact ⟨H3,_,HLe.refl _,hs.tail,hle23,st',ag,rfl,hW'.skip hx (fun h=>hb58 h.1),hm1,hm2⟩
   ·rintro D3 H3 σb3 w hle3 ⟨hle23,st',ag,rfl,hW',hm1,hm2⟩ hs
    replace hs:St H3 w (.blk b9 [.bool ag]:: .blk b6 [.slice (some ⟨b27,0,none⟩) (N+1) (N+1)]:: .blk b27 (iX st'.by_):: .blk b5 [.slice (some ⟨bc,0,none⟩) (N+1) (N+1)]:: .blk bc (Is st'.cost):: .blk b2 [.pointer (some ⟨bf,0,none⟩)]::(mes (D3::Ds)++σ)):=St.deep (σ1:=[_,_,_,_,_,_]) hs
    rw [List.length_map] at hW'
    refine nB (nB (nT ?_))
    refine .ai (.y hs (zld lx) (.nil (.region ?_)))
    refine .o (.alloc hs tC rfl ?_);intro b9 w hs
    refine .o (.store hs rfl rfl iY ?_);intro w hs
    refine .nil ?_
    refine nT ?_
    exact ⟨(b9,D3::Ds,H3,st',ag),by repeat (first|exact .nil rfl rfl|refine .cons rfl ?_),⟨hle1.trans (hle2.trans hle3),⟨_,hW',fun _=>rfl⟩,hs.sub (by repeat (first|exact Sub.refl _|constructor|apply Sub.weaken))⟩,by
      dsimp only
      cases ag with
      |false=>simp;omega
      |true=>have:=hm2 rfl;simp;omega⟩
  ·refine .exit ?_
   refine xT (xT (xB (nT ?_)))
   refine .seq (.ai ?_)
   subst hc48
   obtain rfl:=hj rfl
   refine .y hs (zld ak) (.z zm ?_)
   first|(refine .ixv hs aa ae ?_;intro b116 o116 hc116)|refine .z (zix aa ae) ?_
   refine .y hs (zld af) (.z fA (.nil ?_))
   refine (.bJ rfl (fun hc118=>?_) (fun hc118=>?_))
   ·refine .ai (.z zg (.nil ?_))
    refine .ret (rT (?_))
    refine Fin.iG Ds [_,_,_,_,_,_] hs fun w hs=>⟨_,results1 Tryz.results268 rfl,H1,[],.nul,hle1,.nil 4 none,(hs.sub (by repeat (first|exact Sub.refl _|constructor|apply Sub.weaken))).nul,hW.none hg hc118⟩
   ·refine .skip ?_
    refine nT ?_
    refine .ai (.z zg (.nil (.seq (.ai (.z zm (.z zg (.nil (.block ?_))))))))
    have hreach:gi st.cost to<far:=by have:=hW.top to hto;have e:far=1152921504606846976:=rfl;omega
    obtain ⟨kk,cc,u,hbk,hroot,hkn,hk0,hcl,hway⟩:=hW.back hg hto hreach hpos
    refine .loop (fun p:Nat×Nat×Value×Ent=>⟨141,marks Ds,[(11,p.2.2.1),(12,I p.2.1),(6,.pointer (some ⟨b6,0,none⟩))]⟩)
     (fun p w=>p.1≤kk∧(p.2.1<N+1∧gi st.cost p.2.1<far)∧cu 4 p.2.2.1 (iX (ik st.by_ to p.1)) p.2.2.2∧(∃d,fM st.by_ to p.1 d p.2.1)∧(∃d,fM st.by_ p.2.1 (kk - p.1) d u)∧
      St H1 w (p.2.2.2:: .blk b9 [.bool false]:: .blk b6 [.slice (some ⟨b27,0,none⟩) (N+1) (N+1)]:: .blk b27 (iX st.by_):: .blk b5 [.slice (some ⟨bc,0,none⟩) (N+1) (N+1)]:: .blk bc (Is st.cost):: .blk b2 [.pointer (some ⟨bf,0,none⟩)]::(mes Ds++σ)))
     (fun p=>kk - p.1) (0,to,.slice none 0 0,.nul) (by repeat (first|exact .nil rfl rfl|refine .cons rfl ?_)) ⟨Nat.zero_le _,⟨hto,hreach⟩,.nil 4 none,⟨0,.nil⟩,⟨cc,hbk⟩,hs.nul⟩ ?_
    rintro ⟨i,v,v11,en⟩ w ⟨hik,⟨hv1,hv2⟩,hO,⟨d1,hb1⟩,⟨d2,hb2⟩,hs⟩
    dsimp only at hik hv1 hv2 hO hb1 hb2 hs ⊢
    have hvb:v<st.by_.length:=by omega
    refine .seq (.ai (.y hs (zld ep) (.z zm ?_)))
    first|(refine .ixw hs aC aI ?_;intro b122 o122 hc122)|refine .z (nR aC aI) ?_
    refine .z (zfa dM) ?_
    refine .q hs (dE rfl af (hv:=(qh hvb (j:=3) (by omega)).trans rfl)) ?_
    refine .z wI (.nil ?_)
    refine (.bJ rfl (fun hc125=>?_) (fun hc125=>?_))
    ·refine .skip ?_
     refine nT ?_
     refine .seq (.block (.region (.z zm (.y hs (zld ep) (.z zm ?_)))))
     first|(refine .ixw hs aC aI ?_;intro b134 o134 hc134)|refine .z (nR aC aI) ?_
     refine .q hs (kq (vs:=(ga st.by_ v).v) rfl fy aI (hv:=zx hvb)) ?_
     refine .o (.buildSlice (cells:=(ga st.by_ v).v) hs o5 rfl rfl ?_);intro b136 w hs
     refine .o (.append (ys:=(ga st.by_ v).v) hs ke rfl rfl hO (.own .here rfl rfl) (by simp [Arc.v,Value.oneCell']) (fun l h=>by rw [dG,gy] at h;omega) ?_);intro v137 en137 w hO2 hs
     refine .z zg (.nil ?_)
     refine nB (nT ?_)
     refine .region (.y hs (zld ep) (.z zm ?_))
     first|(refine .ixw hs aC aI ?_;intro b128 o128 hc128)|refine .z (nR aC aI) ?_
     refine .z (zfa dc) ?_
     refine .q hs (dE rfl af (hv:=(qh hvb (j:=0) (by omega)).trans rfl)) ?_
     refine .z zg (.nil ?_)
     refine nT ?_
     obtain ⟨g1,g2⟩:=hcl v hv1 hv2 hc125
     obtain ⟨m,hm⟩:∃m,kk - i=m+1:=by
      refine ⟨kk - i - 1,?_⟩
      rcases Nat.lt_or_ge i kk with h|h
      ·omega
      ·obtain e:kk - i=0:=by omega
       rw [e] at hb2
       cases hb2
       omega
     rw [hm] at hb2
     obtain ⟨d3,hb3⟩:∃d,fM st.by_ (ga st.by_ v).f m d u:=by cases hb2 with|cons _ t=>exact ⟨_,t⟩
     rw [←BD,←uz hb1] at hO2
     exact ⟨(i+1,(ga st.by_ v).f,v137,en137),by repeat (first|exact .nil rfl rfl|refine .cons rfl ?_),⟨by dsimp only;omega,⟨g1,g2⟩,hO2,⟨_,hb1.trans (.cons hc125 .nil)⟩,⟨d3,by rw [show kk - (i+1)=m by omega];exact hb3⟩,hs.sub (by repeat (first|exact Sub.refl _|constructor|apply Sub.weaken))⟩,by dsimp only;omega⟩
    ·refine .exit ?_
     refine xT (xT (xB (nT ?_)))
     refine .ai ?_
     obtain rfl:i=kk:=by
      rcases Nat.lt_or_ge i kk with h|h
      ·obtain ⟨m,hm⟩:∃m,kk - i=m+1:=⟨kk - i - 1,by omega⟩
       rw [hm] at hb2
       cases hb2 with
       |cons hl _=>omega
      ·omega
     refine .z zm ?_
     refine .o (.call Tryz.call289 rfl (oE hs hO (by rw [gy];omega)) ?_);rintro v139 w ⟨en',hO',hs⟩
     refine .nil (.ai (.z zm (.z zg (.nil ?_))))
     refine .ret ?_
     refine Fin.iG Ds [_,_,_,_,_,_,_] hs fun w hs=>⟨_,results1 Tryz.results268 rfl,H1,_,en',hle1,hO',hs.sub (by repeat (first|exact Sub.refl _|constructor|apply Sub.weaken)),hway _ rfl⟩
theorem zv{s:cB}{x:Arc}(hok:s.Ok)(hx:z8 s.di x):∃(i:Nat) (l:Lim),s.cz[i]? =some l∧x.l=(i:Int)∧(l.A=(x.f:Int)↔fwd s.di x)∧i<s.cz.length:=by
 obtain ⟨i,y,h1,h2⟩:=hx
 have hl:=qf h1
 have hlt:i<s.cz.length:=by have:=(List.getElem?_eq_some_iff.1 h1).1;simpa [cB.di,eN] using this
 obtain ⟨l,hl2⟩:=nth hlt
 have h3:=kg hl2
 have h1':(mC s.cz)[i]? =some y:=h1
 rw [h3] at h1'
 cases h1'
 obtain ⟨a1,a2,_⟩:=hok.arc (List.mem_of_getElem? hl2) i
 refine ⟨i,l,hl2,?_,?_,hlt⟩
 ·rcases h2 with rfl|rfl<;>rfl
 ·have hg:ga s.di i=l.arc i:=by simp [ga,cB.di,h3]
  have hxl:x.l.toNat=i:=by rcases h2 with rfl|rfl<;>rfl
  unfold fwd
  rw [hxl,hg,←a1]
  exact ⟨fun e=>by exact_mod_cast e,fun e=>by exact_mod_cast e⟩
theorem jK{H:bn}{w:World}{σ:List Ent}{bf:Nat}{s:cB}{vl vt vd:Value}{x:Arc}(hs:St H w σ)(hok:s.Ok)(hf:Row H bf [I s.many,vl,vt,vd])(hl:RL H vl s.cz)(hx:z8 s.di x):
  Cl Tryz.prog 290 [.pointer (some ⟨bf,0,none⟩),.agg x.v.toArray] w fun v w'=>v= .bool (decide (fwd s.di x))∧St H w' σ:=by
 obtain ⟨i,l,hl1,hxl,hfw,hil⟩:=zv hok hx
 have hf1:cellAt H bf 1=some vl:=hf.at 1
 refine Cl.of Tryz.func290 rfl Tryz.ntmps290 (by simp) (aj (k:=0) rfl (aj (k:=1) rfl (bh))) ?_
 refine .ai ?_
 refine .o (.box hs rfl rfl ?_);intro b3 w hs
 refine .z zg (.nil ?_)
 refine .seq (.draw mix rfl hs ?_);intro w hs
 refine .z 0 rfl zm ?_;refine .z 1 rfl znc ?_;refine .z 2 rfl (zfa fH) ?_;refine .z 3 rfl (zfa bD) ?_;refine .y 4 rfl hs cD ?_;refine .z 5 rfl (zfa dM) ?_;refine .y 6 rfl hs af ?_
 refine .ixX (i:=7) hs rfl (by kernel_rfl) .none hl rfl rfl aQ bj hl1 hxl ?_;intro b12 o12 hc12
 have hA:cellAt H b12 o12=some (I l.A):=hc12.get 0 rfl
 refine .z 8 rfl (zfa eQ) ?_;refine .y 9 rfl hs af ?_;refine .z 10 rfl (zfa dc) ?_;refine .y 11 rfl hs af ?_;refine .z 12 rfl fA ?_;refine .z 13 rfl zg ?_;refine .done (by kernel_rfl) hs ?_
 refine .ret (Fin.bI Tryz.results290 rfl ?_)
 exact ⟨by simp only [decide_eq_decide.2 hfw],hs.out⟩
theorem ob{H:bn}{w:World}{σ:List Ent}{bf bt bl cl u v:Nat}{s:cB}{ts lf:List Int}{wt:Nat→Int}{vl vp:Value}{sp:List Value}{p:List Arc}(hs:St H w (.blk bt (Is ts):: .blk bl (Is lf++sp)::σ))(hok:s.Ok)
  (hf:Row H bf [I s.many,vl,.slice (some ⟨bt,0,none⟩) ts.length ts.length,.slice (some ⟨bl,0,none⟩) lf.length cl]) (hl:RL H vl s.cz) (hp:RS H 4 vp (p.map Arc.v)) (hI:uv s.n s.di wt ts lf) (hw:Eg s.di ts lf s.n p u v) (hpn:p≠[]) (hpl:p.length<s.n):
  Cl Tryz.prog 269 [.pointer (some ⟨bf,0,none⟩),vp] w fun _ w'=>St H w' (.blk bt (Is (eP s.di (pQ s.di ts lf p u v) ts p)):: .blk bl (Is (wZ lf (pQ s.di ts lf p u v) u v)++sp)::σ):=by
 have hN1:=hok.m1
 have hn65:s.n≤65:=by simp only [cB.n];have:=hok.m0;omega
 have hnum:yz s.di:=fun i x hx=>⟨qf hx,(hok.di.2 x (List.mem_of_getElem? hx)).2.2.2.2.2⟩
 have hlt:=hI.lt
 have hll:=hI.ll
 obtain ⟨m0,m1,m2,m3⟩:=sd hlt.symm hnum hw
 have hsu:=hI.sg u hw.un
 have hsv:=hI.sg v hw.vn
 have hun:u<lf.length:=by rw [hll];exact hw.un
 have hvn:v<lf.length:=by rw [hll];exact hw.vn
 obtain ⟨a,cap,hvp⟩:=hp.shape
 rw [List.length_map] at hvp
 subst hvp
 have hp0:0<p.length:=List.length_pos_iff.2 hpn
 obtain ⟨x0,hx0⟩:=nth hp0
 obtain ⟨x1,hx1⟩:=nth (l:=p) (k:=p.length - 1) (by omega)
 have hh:=hw.ch.head hx0
 have hla:=hw.ch.last hx1
 have hf2:cellAt H bf 2=some (.slice (some ⟨bt,0,none⟩) ts.length ts.length):=hf.at 2
 have hf3:cellAt H bf 3=some (.slice (some ⟨bl,0,none⟩) lf.length cl):=hf.at 3
 have hix:∀x∈p,z8 s.di x∧x.l.toNat<ts.length∧x.l=(x.l.toNat:Int):=fun x hx=>by
  obtain ⟨g1,g2,_⟩:=ju hlt.symm hnum (hw.mem x hx)
  obtain ⟨i,l,_,g3,_⟩:=zv hok g1
  exact ⟨g1,g2,by rw [g3];simp⟩
 simp only [FF] at hsu hsv
 have huv:v≠u:=fun e=>by have:=hw.lu;have:=hw.lv;rw [e] at*;omega
 have htt:∀i<ts.length,0≤gi ts i∧gi ts i≤3600000000000:=fun i hi=>by
  have h1:=hI.nn i (by omega)
  have h2:=hI.tb i (by omega)
  have h3:0≤rem s.n lf:=cN fun v _=>by omega
  simp only [FF] at h2
  omega
 have hM:pQ s.di ts lf p u v=least s.di ts (min (-gi lf u) (gi lf v)) p:=rfl
 generalize pQ s.di ts lf p u v=M at*
 have hgv:gi (lf.set u (gi lf u+M)) v=gi lf v:=by rw [dZ hun,if_neg huv]
 refine Cl.of Tryz.func269 rfl Tryz.ntmps269 (by simp) (aj (k:=0) rfl (aj (k:=1) rfl (bh))) ?_
 refine .seq (.draw mix rfl hs ?_);intro w hs
 refine .z 0 rfl zm ?_
 refine .ixX (i:=1) hs rfl (by kernel_rfl) .none hp rfl rfl aC aI hx0 rfl ?_;intro b12 o12 hc12
 have h14:cellAt H b12 (o12+0)=some (I u):=by rw [←hh];exact hc12.get 0 rfl
 refine .z 2 rfl (zfa dc) ?_;refine .y 3 rfl hs af ?_;refine .z 4 rfl zm ?_;refine .z 5 rfl zm ?_;refine .z 6 rfl (cM aC) ?_;refine .z 7 rfl gM ?_
 refine .ixX (i:=8) hs rfl (by kernel_rfl) .none hp rfl rfl aC aI hx1 (by omega) ?_;intro b19 o19 hc19
 have h21:cellAt H b19 (o19+1)=some (I v):=by rw [←hla];exact hc19.get 1 rfl
 refine .z 9 rfl (zfa dj) ?_;refine .y 10 rfl hs af ?_;refine .z 11 rfl zg ?_;refine .z 12 rfl zg ?_;refine .done (by kernel_rfl) hs ?_
 refine .seq (.draw mix rfl hs ?_);intro w hs
 refine .z 0 rfl zm ?_;refine .z 1 rfl znc ?_;refine .z 2 rfl (zfa dN) ?_;refine .y 3 rfl hs ak ?_;refine .z 4 rfl zm ?_
 first|(refine .ixv 5 rfl hs aa ae ?_;intro b27 o27 hc27)|refine .z 5 rfl (zix aa ae) ?_
 refine .load (i:=6) hs rfl (by kernel_rfl) .none rfl af ?_ (hv:=fm hun sp)
 refine .z 7 rfl xI ?_;refine .z 8 rfl zm ?_;refine .z 9 rfl znc ?_;refine .z 10 rfl (zfa dN) ?_;refine .y 11 rfl hs ak ?_;refine .z 12 rfl zm ?_
 first|(refine .ixv 13 rfl hs aa ae ?_;intro b35 o35 hc35)|refine .z 13 rfl (zix aa ae) ?_
 refine .load (i:=14) hs rfl (by kernel_rfl) .none rfl af ?_ (hv:=fm hvn sp)
 refine .z 15 rfl Ad ?_;refine .z 16 rfl zg ?_;refine .done (by kernel_rfl) hs ?_
 refine .seq (.ai (.z zm (.z (cM aC) (.z zm (.nil ?_)))))
 refine .for (N:=p.length) (J:=fun k fr w=>fr=[(38,.slice a p.length cap),(6,I (least s.di ts (min (-gi lf u) (gi lf v)) (p.take k))),(0,.pointer (some ⟨bf,0,none⟩)),(1,.slice a p.length cap),(4,I u),(5,I v)]∧St H w (.blk bt (Is ts):: .blk bl (Is lf++sp)::σ)) (by omega) ?_ ?_ ?_
 ·exact .mk ⟨rfl,hs⟩
 ·rintro k fr w hk ⟨rfl,hs⟩
  obtain ⟨x,hx⟩:=nth hk
  obtain ⟨g1,g2,g3⟩:=hix x (List.mem_of_getElem? hx)
  refine .block (.ai ?_)
  refine .ixX hs hp rfl rfl aC aI hx rfl ?_;intro b42 o42 hc42
  refine .q hs (cj (vs:=x.v) rfl fy aI hc42) ?_
  refine .o (.alloc hs dA rfl ?_);intro b8 w hs
  refine .o (.aS (vs:=x.v) hs rfl rfl aI ?_);intro w hs
  refine .nil (.ai (.z zm ?_))
  refine .q hs (kq (vs:=x.v) rfl fy aI) ?_
  refine .o (.call Tryz.call290 rfl (jK hs hok hf hl g1) ?_);rintro _ w ⟨rfl,hs⟩
  refine .z iI (.nil ?_)
  refine (.cond rfl (fun hc47=>?_) (fun hc47=>?_))
  ·refine .draw mix rfl hs ?_;intro w hs
   refine .z 0 rfl zm ?_;refine .z 1 rfl zm ?_;refine .z 2 rfl znc ?_;refine .z 3 rfl (zfa gD) ?_;refine .y 4 rfl hs ak ?_;refine .z 5 rfl (zfa dM) ?_;refine .y 6 rfl hs af ?_
   refine .p (i:=7) rfl (by kernel_rfl) .none (dF (k:=x.l.toNat) rfl rfl aa ae g3 g2) ?_
   refine .y 8 rfl hs af ?_;refine .z 9 rfl Ad ?_;refine .z 10 rfl zg ?_;refine .done (by kernel_rfl) hs ?_
   refine nB (nT ?_)
   have e:min (least s.di ts (min (-gi lf u) (gi lf v)) (p.take k)) (gi ts x.l.toNat)=least s.di ts (min (-gi lf u) (gi lf v)) (p.take (k+1)):=by rw [dK hx,lO,if_neg (by simpa using hc47)]
   exact .mk ⟨rfl,hs.tail⟩ (hs:= .cons rfl (.cons rfl (.cons rfl (.cq rfl e (.cons rfl (.cons rfl (.cons rfl (.cons rfl (.nil rfl rfl)))))))))
  ·refine .skip ?_
   refine nB (nT ?_)
   have e:least s.di ts (min (-gi lf u) (gi lf v)) (p.take k)=least s.di ts (min (-gi lf u) (gi lf v)) (p.take (k+1)):=by rw [dK hx,lO,if_pos (by simpa using hc47)]
   exact .mk ⟨rfl,hs.tail⟩ (hs:= .cons rfl (.cons rfl (.cons rfl (.cq rfl e (.cons rfl (.cons rfl (.cons rfl (.cons rfl (.nil rfl rfl)))))))))
 ·rintro fr w ⟨rfl,hs⟩
  have e6:least s.di ts (min (-gi lf u) (gi lf v)) (List.take p.length p)=M:=by rw [List.take_length];exact hM.symm
  rw [e6]
  refine nT ?_
  refine .seq (.ai (.z zm (.z (cM aC) (.z zm (.nil ?_)))))
  refine .for (N:=p.length) (J:=fun k fr w=>fr=[(59,.slice a p.length cap),(6,I M),(0,.pointer (some ⟨bf,0,none⟩)),(1,.slice a p.length cap),(4,I u),(5,I v)]∧St H w (.blk bt (Is (eP s.di M ts (p.take k))):: .blk bl (Is lf++sp)::σ)) (by omega) ?_ ?_ ?_
  ·exact .mk ⟨rfl,hs⟩
  ·rintro k fr w hk ⟨rfl,hs⟩
   obtain ⟨x,hx⟩:=nth hk
   obtain ⟨g1,g2,g3⟩:=hix x (List.mem_of_getElem? hx)
   have hpl2:=iO s.di M (p.take k) ts
   have hbd:=wV (es:=s.di) (m:=M) (ts:=ts) (p:=p.take k) (by omega) (by simp only [FF];omega) (by rw [List.length_take];omega) (fun y hy=>(hix y (List.mem_of_mem_take hy)).2.1) x.l.toNat
   have h9:=htt _ g2
   refine .block (.ai ?_)
   refine .ixX hs hp rfl rfl aC aI hx rfl ?_;intro b63 o63 hc63
   refine .q hs (cj (vs:=x.v) rfl fy aI hc63) ?_
   refine .o (.alloc hs dA rfl ?_);intro b10 w hs
   refine .o (.aS (vs:=x.v) hs rfl rfl aI ?_);intro w hs
   refine .nil (.ai (.z zm ?_))
   refine .q hs (kq (vs:=x.v) rfl fy aI) ?_
   refine .o (.call Tryz.call290 rfl (jK hs hok hf hl g1) ?_);rintro _ w ⟨rfl,hs⟩
   refine .nil ?_
   refine (.cond rfl (fun hc67=>?_) (fun hc67=>?_))
   ·refine .draw mix rfl hs ?_;intro w hs
    refine .z 0 rfl zm ?_;refine .z 1 rfl znc ?_;refine .z 2 rfl (zfa gD) ?_;refine .y 3 rfl hs ak ?_;refine .z 4 rfl (zfa dM) ?_;refine .y 5 rfl hs af ?_
    refine .p (i:=6) rfl (by kernel_rfl) .none (dF (k:=x.l.toNat) rfl rfl aa ae g3 g2) ?_
    refine .y 7 rfl hs af ?_;refine .z 8 rfl zm ?_;refine .z 9 rfl cA ?_
    refine .p (i:=10) rfl (by kernel_rfl) .none (dF (k:=x.l.toNat) rfl rfl aa ae g3 g2) ?_
    refine .e1 (i:=11) (by kernel_rfl) rfl rfl .none hs ?_
    refine .store hs rfl rfl ae ?_;intro w hs
    refine .go ?_
    refine .done (by kernel_rfl) hs ?_
    refine nB (nT ?_)
    have e:eP s.di M ts (p.take (k+1))=(eP s.di M ts (p.take k)).set x.l.toNat (gi (eP s.di M ts (p.take k)) x.l.toNat+M):=by rw [dK hx,mf,push,if_pos (by simpa using hc67)]
    exact .mk ⟨rfl,by rw [e];exact hs.tail⟩
   ·refine .draw mix rfl hs ?_;intro w hs
    refine .z 0 rfl zm ?_;refine .z 1 rfl znc ?_;refine .z 2 rfl (zfa gD) ?_;refine .y 3 rfl hs ak ?_;refine .z 4 rfl (zfa dM) ?_;refine .y 5 rfl hs af ?_
    refine .p (i:=6) rfl (by kernel_rfl) .none (dF (k:=x.l.toNat) rfl rfl aa ae g3 g2) ?_
    refine .y 7 rfl hs af ?_;refine .z 8 rfl zm ?_;refine .z 9 rfl gM ?_
    refine .p (i:=10) rfl (by kernel_rfl) .none (dF (k:=x.l.toNat) rfl rfl aa ae g3 g2) ?_
    refine .e1 (i:=11) (by kernel_rfl) rfl rfl .none hs ?_
    refine .store hs rfl rfl ae ?_;intro w hs
    refine .go ?_
    refine .done (by kernel_rfl) hs ?_
    refine nB (nT ?_)
    have e:eP s.di M ts (p.take (k+1))=(eP s.di M ts (p.take k)).set x.l.toNat (gi (eP s.di M ts (p.take k)) x.l.toNat - M):=by rw [dK hx,mf,push,if_neg (by simpa using hc67)]
    exact .mk ⟨rfl,by rw [e];exact hs.tail⟩
  ·rintro fr w ⟨rfl,hs⟩
   rw [List.take_length] at hs
   refine nT ?_
   refine .ai (.z zm (.z znc (.z (zfa dN) (.y hs (zld ak) (.z zm ?_)))))
   first|(refine .ixv hs aa ae ?_;intro b96 o96 hc96)|refine .z (zix aa ae) ?_
   refine .q hs (dE rfl af (hv:=fm hun sp)) ?_
   refine .z zm (.z cA ?_)
   first|(refine .ixv hs aa ae ?_;intro b100 o100 hc100)|refine .z (zix aa ae) ?_
   refine .o (.store hs rfl rfl ae ?_ (by repeat constructor) (kz hun sp) (gY hun sp _));intro w hs
   refine .nil (.region (.z zm (.z znc (.z (zfa dN) (.y hs (zld ak) (.z zm ?_))))))
   first|(refine .ixv hs aa ae ?_;intro b106 o106 hc106)|refine .z (zix aa ae) ?_
   refine .q hs (dE rfl af (hv:=fm (by rw [List.length_set];exact hvn) sp)) ?_
   refine .z zm (.z gM ?_)
   first|(refine .ixv hs aa ae ?_;intro b110 o110 hc110)|refine .z (zix aa ae) ?_
   refine .o (.store hs rfl rfl ae ?_ (by repeat constructor) (kz (by rw [List.length_set];exact hvn) sp) (gY (by rw [List.length_set];exact hvn) sp _));intro w hs
   refine .nil ?_
   exact Fin.xC Tryz.results269 hs
theorem A7{w:List Int}{N k:Nat}(hw:w.length=N+1):gi (w.set 0 (-jY w k)) 0 - gi (w.set 0 (-jY w k)) (k+1)= -jY w (k+1):=by
 rw [dZ (by omega),dZ (by omega),if_pos rfl,if_neg (by omega)]
 simp only [jY,a8];omega
theorem tk{H:bn}{w:World}{σ:List Ent}{v vw:Value}{s:cB}{ws:List Int}(hs:St H w σ)(hok:s.Ok)(hr:RSy H v s)(hrw:RI H vw ws)(hwl:ws.length=s.n)(hsz:fX ws)(hsnd:s.Sound):
  Cl Tryz.prog 222 [v,vw] w fun v w'=>(v= .tuple #[.pointer none,.bool false]∧lS s.di (mT ws s.n) s.n∧St H w' σ)∨
   (∃H1 bf bt bl cl ts lf vl sp,HLe H H1∧v= .tuple #[.pointer (some ⟨bf,0,none⟩),.bool true]∧uu H1 bf s ts lf vl bt bl cl sp∧rk s.n s.di (mT ws s.n) ts∧St H1 w' σ):=by
 obtain ⟨vl,rfl,hr⟩:=hr
 obtain ⟨al,cpl,rfl⟩:=RL.shape hr
 obtain ⟨aw,cw,rfl⟩:=RI.shape hrw
 obtain ⟨N,hN⟩:=Int.eq_ofNat_of_zero_le hok.m0
 have hN1:=hok.m1
 have hn:s.n=N+1:=by simp [cB.n,hN]
 have hlim:=hok.len
 have hoka:=hok.di
 have hal:s.di.length=s.cz.length:=by simp [cB.di,eN]
 have hnum:yz s.di:=fun i x hx=>⟨qf hx,(hok.di.2 x (List.mem_of_getElem? hx)).2.2.2.2.2⟩
 have hin:∀x∈s.di,x.f<s.n∧x.t<s.n:=fun x hx=>by have:=hoka.2 x hx;omega
 have hwt0:=Ag ws (n:=s.n) (by omega)
 unfold fX at hsz
 rw [hwl] at hsz
 refine Cl.of Tryz.func222 rfl Tryz.ntmps222 (by simp) (aj (k:=0) rfl (aj (k:=1) rfl (bh))) ?_
 refine .ai ?_
 refine .o (.box hs rfl rfl ?_);intro b2 w hs
 refine .z zg (.z zg (.nil ?_))
 refine .scope ?_
 refine .cut (fun fs w=>∃bf bt bl cl sp,kJ fs ⟨73,[],[(6,.pointer (some ⟨bf,0,none⟩))]⟩∧St H w (.blk bf [I s.many,.slice al s.cz.length cpl,.slice (some ⟨bt,0,none⟩) s.cz.length s.cz.length,.slice (some ⟨bl,0,none⟩) ws.length cl]:: .blk bt (Is (List.replicate s.cz.length 0)):: .blk bl (Is ws++sp)::σ)) ?_ ?_
 ·refine .draw mix rfl hs ?_;intro w hs
  refine .ys 0 rfl hs [_,_] aU aB ?_;refine .z 1 rfl (zfa bD) ?_;refine .y 2 rfl hs cD ?_;refine .z 3 rfl (cM aQ) ?_;refine .z 5 rfl zm ?_
  refine .e2 (i:=4) (j:=6) (by kernel_rfl) rfl rfl rfl rfl .none .none hs ?_ ?_
  ·refine .oT s.cz.length hs rfl rfl aa dq rfl ae bH (by omega) ?_;intro b15 w hs
   refine .go ?_
   refine .e1 (i:=6) (by kernel_rfl) rfl rfl .none hs ?_
   refine .call Tryz.call197 rfl (mr hs hrw (by omega)) ?_;rintro v17 w ⟨en17,hO,hs⟩
   obtain ⟨bl,cl,sp,rfl,rfl,hsp⟩:=hO.some (by omega)
   refine .go ?_
   refine .z 7 rfl (zbd [_,_,_,_] ow) ?_
   refine .e1 (i:=8) (by kernel_rfl) rfl rfl .none hs ?_
   refine .box hs rfl rfl ?_;intro b19 w hs
   refine .go ?_
   refine .z 9 rfl zg ?_;refine .done (by kernel_rfl) hs ?_
   exact nT ⟨b19,b15,bl,cl,sp,by repeat (first|exact .nil rfl rfl|refine .cons rfl ?_),hs.sub (by repeat (first|exact Sub.refl _|constructor|apply Sub.weaken))⟩
  ·refine .call Tryz.call197 rfl (mr hs hrw (by omega)) ?_;rintro v17 w ⟨en17,hO,hs⟩
   obtain ⟨bl,cl,sp,rfl,rfl,hsp⟩:=hO.some (by omega)
   refine .go ?_
   refine .e1 (i:=4) (by kernel_rfl) rfl rfl .none hs ?_
   refine .oT s.cz.length hs rfl rfl aa dq rfl ae bH (by omega) ?_;intro b15 w hs
   refine .go ?_
   refine .z 7 rfl (zbd [_,_,_,_] ow) ?_
   refine .e1 (i:=8) (by kernel_rfl) rfl rfl .none hs ?_
   refine .box hs rfl rfl ?_;intro b19 w hs
   refine .go ?_
   refine .z 9 rfl zg ?_;refine .done (by kernel_rfl) hs ?_
   exact nT ⟨b19,b15,bl,cl,sp,by repeat (first|exact .nil rfl rfl|refine .cons rfl ?_),hs.sub (by repeat (first|exact Sub.refl _|constructor|apply Sub.weaken))⟩
 ·rintro fs w ⟨bf,bt,bl,cl,sp,hfs,hs⟩
  refine WE.sub ?_ hfs
  obtain ⟨H1,hle1,hRf,hs⟩:=hs.cP .here
  have hf0:cellAt H1 bf 0=some (I (N:Int)):=by have:=hRf.at 0 (v:=I s.many);rwa [hN] at this
  have hf3:cellAt H1 bf 3=some (.slice (some ⟨bl,0,none⟩) ws.length cl):=hRf.at 3
  have hrl:=hr.mono hle1
  refine .ai (.z zm (.z znc (.z (zfa dN) (.y hs (zld ak) ?_))))
  refine .q hs (dF (k:=0) rfl rfl aa ae rfl (by omega)) ?_
  refine .o (.store hs rfl rfl ae ?_ (by repeat constructor) (kz (by omega) sp) (gY (by omega) sp _));intro w hs
  refine .nil (.seq (.ai (.z zm (.z znc (.z (zfa fH) (.z (zfa bE) (.y hs (zld af) (.z zm (.nil ?_)))))))))
  refine .for (N:=N) (J:=fun k fr w=>fr=[(6,.pointer (some ⟨bf,0,none⟩))]∧St H1 w (.blk bt (Is (List.replicate s.cz.length 0)):: .blk bl (Is (ws.set 0 (-jY ws k))++sp)::σ)) (by omega) ?_ ?_ ?_
  ·exact .mk ⟨rfl,by simpa [jY,a8] using hs⟩
  ·rintro k fr w hk ⟨rfl,hs⟩
   have e:=A7 (w:=ws) (N:=N) (k:=k) (by omega)
   have hb1:=qu ws (k+1)
   have hb2:bB ws (k+1+1)≤bB ws s.n:=nE (fun v=>by omega) (by omega)
   simp only [FF] at hsz
   refine .block (.ai (.z zm (.z zg (.nil ?_))))
   refine .draw mix rfl hs ?_;intro w hs
   refine .z 0 rfl zm ?_;refine .z 1 rfl znc ?_;refine .z 2 rfl (zfa dN) ?_;refine .y 3 rfl hs ak ?_
   refine .p (i:=4) rfl (by kernel_rfl) .none (dF (k:=0) rfl rfl aa ae rfl (by omega)) ?_
   refine .load (i:=5) hs rfl (by kernel_rfl) .none rfl af ?_ (hv:=fm (by rw [List.length_set];omega) sp)
   refine .z 6 rfl zm ?_;refine .z 7 rfl znc ?_;refine .z 8 rfl (zfa dN) ?_;refine .y 9 rfl hs ak ?_;refine .z 10 rfl zm ?_;refine .z 11 rfl cA ?_
   refine .p (i:=12) rfl (by kernel_rfl) .none (dF (k:=k+1) rfl rfl aa ae (by omega) (by omega)) ?_
   refine .load (i:=13) hs rfl (by kernel_rfl) .none rfl af ?_ (hv:=fm (by rw [List.length_set];omega) sp)
   refine .z 14 rfl gM ?_
   refine .p (i:=15) rfl (by kernel_rfl) .none (dF (k:=0) rfl rfl aa ae rfl (by omega)) ?_
   refine .e1 (i:=16) (by kernel_rfl) rfl rfl .none hs ?_
   refine .store hs rfl rfl ae ?_ (by repeat constructor) (kz (by rw [List.length_set];omega) sp) (gY (by rw [List.length_set];omega) sp _);intro w hs
   refine .go ?_
   refine .done (by kernel_rfl) hs ?_
   refine nB (nT ?_)
   rw [e,List.set_set] at hs
   exact .mk ⟨rfl,hs⟩
  ·rintro fr w ⟨rfl,hs⟩
   have hI0:uv s.n s.di (mT ws s.n) (List.replicate s.cz.length 0) (ws.set 0 (-jY ws N)):=by
    rw [←hal,hn]
    rw [hn] at hsz
    refine uv.start hsz (by rw [List.length_set];omega) (fun v hv=>?_) hsnd
    rw [dZ (by omega)]
    cases v with
    |zero=>rw [if_pos rfl,uX]
    |succ v=>rw [if_neg (by omega),uY]
   refine nT ?_
   refine .seq ?_
   refine .label ?_
   refine nT ?_
   refine .block ?_
   refine .loop (fun _:bn×List Int×List Int=>⟨73,[],[(6,.pointer (some ⟨bf,0,none⟩))]⟩)
    (fun p w=>HLe H1 p.1∧uv s.n s.di (mT ws s.n) p.2.1 p.2.2∧St p.1 w (.blk bt (Is p.2.1):: .blk bl (Is p.2.2++sp)::σ)) (fun p=>(rem s.n p.2.2).toNat) (H1,List.replicate s.cz.length 0,ws.set 0 (-jY ws N))
    (by repeat (first|exact .nil rfl rfl|refine .cons rfl ?_)) ⟨HLe.refl _,hI0,hs⟩ ?_
   rintro ⟨H2,ts,lf⟩ w ⟨hle2,hI,hs⟩
   dsimp only at hle2 hI hs ⊢
   have hlt:=hI.lt
   have hll:=hI.ll
   have hRf2:Row H2 bf [I s.many,.slice al s.cz.length cpl,.slice (some ⟨bt,0,none⟩) ts.length ts.length,.slice (some ⟨bl,0,none⟩) lf.length cl]:=by
    rw [hlt,hal,hll,←hwl];exact hRf.mono hle2
   have hf32:cellAt H2 bf 3=some (.slice (some ⟨bl,0,none⟩) lf.length cl):=hRf2.at 3
   refine .block (.seq (.ai (.z zm (.z znc (.z (zfa dN) (.y hs (zld ak) (.z (cM aa) (.z zm (.nil ?_)))))))))
   refine .for (N:=lf.length) (J:=fun k fr w=>fr=[(53,.slice (some ⟨bl,0,none⟩) lf.length cl),(6,.pointer (some ⟨bf,0,none⟩))]∧(∀v<k,gi lf v≤0)∧St H2 w (.blk bt (Is ts):: .blk bl (Is lf++sp)::σ)) (by omega) ?_ ?_ ?_
   ·exact .mk ⟨rfl,fun v hv=>by omega,hs⟩
   ·rintro k fr w hk ⟨rfl,hle0,hs⟩
    refine .block (.ai (.z zm ?_))
    first|(refine .ixv hs aa ae ?_;intro b58 o58 hc58)|refine .z (zix aa ae) ?_
    refine .q hs (dE rfl af (hv:=fm hk sp)) ?_
    refine .z zg (.z zg (.nil (.seq (.ai (.z zm (.z wH (.nil ?_)))))))
    refine (.bJ rfl (fun hc61=>?_) (fun hc61=>?_))
    ·refine .exit ?_
     refine xT (xB (nT ?_))
     exact .mk ⟨rfl,fun v hv=>by
       by_cases e:v=k
       ·subst e;exact hc61
       ·exact hle0 v (by omega),hs⟩
    ·refine .skip ?_
     refine nT ?_
     refine .ai (.z zm (.z zm ?_))
     obtain ⟨Ha,hla,hra,hsa,-,hba⟩:=hs.yW
     obtain ⟨Hb,hlb,hrb,hsb,-,hbb⟩:=hsa.yW
     refine .o (.call Tryz.call268 rfl (oY (s:=s) (to:=k) hsb hok ⟨hRf2.mono (hla.trans hlb),hr.mono (hle1.trans (hle2.trans (hla.trans hlb))),hra.mono hlb,hrb⟩ (by omega) (by omega) hI.fe (by omega) (by omega)) ?_);rintro v64 w ⟨Hc,p,en,hlc,hO,hsc,hWR⟩
     have hs:=hba (HLe.refl _) (hbb hlc hsc)
     obtain ⟨ap,lp,cp,rfl,hlp⟩:=hO.shape
     obtain rfl:lp=p.length:=by rw [dG] at hlp;omega
     refine .z zg (.nil (.seq (.ai (.z zm (.z (cM aC) (.z fA (.nil ?_)))))))
     refine (.bJ rfl (fun hc67=>?_) (fun hc67=>?_))
     ·refine .ai (.z zg (.z zg (.nil ?_)))
      refine .ret (rT (rB (rT (rB (rT (rB (rT (rB (rS (Fin.lg Tryz.results222 rfl rfl ?_))))))))))
      rcases hWR with ⟨_,R,hS,hR,hto⟩|⟨hp,_⟩
      ·exact .inl ⟨rfl,hI.open hin hS hR (by omega) hto (by omega),(hs.le (hle1.trans hle2)).out⟩
      ·exact (hp (List.length_eq_zero_iff.1 (by omega))).elim
     ·refine .skip ?_
      refine nT ?_
      refine .ai (.z zm (.z zm ?_))
      obtain ⟨hp,hpl,u,hw⟩:=hWR.resolve_left fun h=>by rw [h.1] at hc67;exact hc67 rfl
      obtain ⟨H3,hle3,hRS,hs⟩:=cu.cP (cs:=p.map Arc.v) hO (fun c hc=>by simp only [List.mem_map] at hc;obtain ⟨x,_,rfl⟩:=hc;rfl) (by omega) (by rw [List.length_map];omega) hs (by repeat constructor)
      refine .o (.call Tryz.call269 rfl (ob hs hok (hRf2.mono hle3) (hr.mono (hle1.trans (hle2.trans hle3))) hRS hI hw hp hpl) ?_);rintro v70 w hs
      refine .nil ?_
      refine .exit ?_
      refine xN (xT (xN (xT (xB (nT ?_)))))
      obtain ⟨q1,q2⟩:=hI.send hnum hw (by omega)
      have q3:0≤rem s.n (wZ lf (pQ s.di ts lf p u k) u k):=cN fun v _=>by omega
      exact ⟨(H3,eP s.di (pQ s.di ts lf p u k) ts p,wZ lf (pQ s.di ts lf p u k) u k),by repeat (first|exact .nil rfl rfl|refine .cons rfl ?_),⟨hle2.trans hle3,q1,hs⟩,by dsimp only;omega⟩
   ·rintro fr w ⟨rfl,hle0,hs⟩
    refine nT ?_
    refine .ai (.z zm (.z zg (.z zg (.nil ?_))))
    refine .ret (rB (rT (rB (rS (Fin.lg Tryz.results222 rfl rfl ?_)))))
    obtain ⟨H3,l3,r3,hs⟩:=hs.cP .here
    obtain ⟨H4,l4,r4,hs⟩:=hs.cP .here
    exact .inr ⟨H4,bf,bt,bl,cl,ts,lf,_,sp,hle1.trans (hle2.trans (l3.trans l4)),rfl,⟨hRf2.mono (l3.trans l4),hr.mono (hle1.trans (hle2.trans (l3.trans l4))),r3.mono l4,r4⟩,hI.ok hin hwt0 (fun v hv=>hle0 v (by omega)),hs⟩
theorem p8{H:bn}{w:World}{σ:List Ent}{v:Value}{ws:List Int}(hs:St H w σ)(hr:RI H v ws):Cl Tryz.prog 164 [v] w fun v w'=>∃b,v= .bool b∧(b=true↔fX ws)∧St H w' σ:=by
 obtain ⟨a,c,rfl⟩:=RI.shape hr
 have hl:=(RI.len hr).2.2
 refine Cl.of Tryz.func164 rfl Tryz.ntmps164 (by simp) (aj (k:=0) rfl (bh)) ?_
 refine .ai (.z zg (.nil (.ai (.z zg (.nil (.seq (.ai (.z zm (.z (cM aa) ?_)))))))))
 refine .z zm (.nil ?_)
 refine .for (N:=ws.length) (J:=fun k fr w=>fr=[(6,.slice a ws.length c),(3,I (3600000000000 - bB ws k))]∧bB ws k≤3600000000000∧St H w σ) (by omega) ?_ ?_ ?_
 ·exact .mk ⟨rfl,by simp [bB,a8],hs⟩
 ·rintro k fr w hk ⟨rfl,hle,hs⟩
  have hx:=br hk
  have h0:0≤bB ws k:=cN fun v _=>by omega
  have h1:bB ws (k+1)=bB ws k+max (gi ws k) (-gi ws k):=rfl
  refine .block (.ai ?_)
  first|(refine .ixv hs aa ae ?_;intro b10 o10 hc10)|refine .z (zix aa ae) ?_
  refine .y hs (zld af) (.z zg (.nil (.seq (.ai (.z zm (.z zm (.z xI (.z fN (.z zm ?_)))))))))
  refine .iE (t':=16) rfl (fun hb16=>?_) (fun hb16=>?_)
  ·refine .gFs 3 4 false rfl rfl rfl ?_
   refine .z zpT (.nil ?_)
   refine (.fj rfl (by first|rfl|exact decide_eq_true (by assumption)) ?_)
   refine .ai (.z zg (.nil ?_))
   refine .ret (rT (rB (rT (rB (rT (Fin.bI BR rfl ?_))))))
   exact ⟨false,rfl,⟨fun h=>(by cases h),fun h=>(lG (k:=k+1) hk (by simp only [FF];omega) h).elim⟩,hs⟩
  ·refine .gT rfl rfl ?_
   refine .z zm ?_
   refine .gT rfl rfl ?_
   refine .z zm ?_
   refine .gT rfl rfl ?_
   refine .z lk (.z zpF (.nil ?_))
   refine (.bJ rfl (fun hc20=>?_) (fun hc20=>?_))
   ·refine .ai (.z zg (.nil ?_))
    refine .ret (rT (rB (rT (rB (rT (Fin.bI BR rfl ?_))))))
    exact ⟨false,rfl,⟨fun h=>(by cases h),fun h=>(lG (k:=k+1) hk (by simp only [FF];omega) h).elim⟩,hs⟩
   ·refine .skip ?_
    refine nT ?_
    refine .region (.z zm (.z zm (.z zm (.z xI (.z DA (.z gM (.z zg (.nil ?_))))))))
    refine nB (nT ?_)
    exact .mk ⟨rfl,by omega,hs⟩ (hs:= .cons rfl (.cons rfl (.cons rfl (.cq rfl (by omega) (.nil rfl rfl)))))
 ·rintro fr w ⟨rfl,hle,hs⟩
  refine nT ?_
  refine .ai (.z zg (.nil ?_))
  refine .ret (Fin.bI BR rfl ?_)
  exact ⟨true,rfl,⟨fun _=>hle,fun _=>rfl⟩,hs⟩
theorem ml{H:bn}{w:World}{σ:List Ent}{v vw:Value}{s:cB}{ws:List Int}(hs:St H w σ)(hr:RSy H v s)(hrw:RI H vw ws):Cl Tryz.prog 219 [v,vw] w fun v w'=>v=I (ea s ws)∧St H w' σ:=by
 obtain ⟨vl,rfl,hr⟩:=hr
 obtain ⟨al,cpl,rfl⟩:=RL.shape hr
 obtain ⟨aw,cw,rfl⟩:=RI.shape hrw
 have hlw:=(RI.len hrw).2.2
 have hn:s.check=0→0≤s.many∧s.many≤64∧(s.n:Int)=s.many+1:=fun h=>by
  have h1:=s.dn.1 h
  have:=h1.m0
  have:=h1.m1
  simp only [cB.n];omega
 refine Cl.of Tryz.func219 rfl Tryz.ntmps219 (by simp) (aj (k:=0) rfl (aj (k:=1) rfl (bh))) ?_
 refine .ai ?_
 refine .o (.box hs rfl rfl ?_);intro b2 w hs
 refine .z zg (.nil (.seq (.ai (.y hs (zls [_,_] aU aB) ?_))))
 refine .o (.call Tryz.call125 rfl (jX (s:=s) hs ⟨_,rfl,hr⟩) ?_);rintro _ w ⟨rfl,hs⟩
 refine .z zg (.nil (.ai (.z zm (.z iA (.nil ?_)))))
 refine (.e9 rfl (fun hc9=>?_) (fun hc9=>?_))
 ·refine .ai (.z zm (.z zg (.nil ?_)))
  refine .ret (rT (Fin.bI tL rfl ?_))
  exact ⟨by unfold ea;rw [if_pos hc9],hs.tail⟩
 ·refine .skip ?_
  refine nT ?_
  refine .seq (.ai (.z zm ?_))
  obtain ⟨n0,n1,n2⟩:=hn hc9
  refine .z (cM aa) (.z (zfa bE) (.y hs (zld af) (.z cA (.z iA (.z zm ?_)))))
  refine .yu (t':=17) rfl (fun hb17=>?_) (fun hb17=>?_)
  ·refine .gFs 3 6 false rfl rfl rfl ?_
   refine .z zpT (.nil ?_)
   refine (.fj rfl (by first|rfl|exact decide_eq_true (by assumption)) ?_)
   refine .ai (.z zg (.nil ?_))
   refine .ret (rT (Fin.bI tL rfl ?_))
   exact ⟨by unfold ea;rw [if_neg (by omega),if_neg (by omega)],hs.tail⟩
  ·refine .gT rfl rfl ?_
   refine .z zm ?_
   refine .gT rfl rfl ?_
   refine .o (.call Tryz.call164 rfl (p8 hs hrw) ?_);rintro _ w ⟨bz,rfl,hbz,hs⟩
   refine .gT rfl rfl ?_
   refine .z iI (.z zpF (.nil ?_))
   refine (.cond rfl (fun hc21=>?_) (fun hc21=>?_))
   ·refine .ai (.z zg (.nil ?_))
    refine .ret (rT (Fin.bI tL rfl ?_))
    exact ⟨by unfold ea;rw [if_neg (by omega),if_neg (fun h=>by rw [hbz.2 h.2] at hc21;cases hc21)],hs.tail⟩
   ·refine .skip ?_
    refine nT ?_
    refine .ai (.z zg (.nil ?_))
    refine .ret (Fin.bI tL rfl ?_)
    exact ⟨by unfold ea;rw [if_neg (by omega),if_pos ⟨by omega,hbz.1 (by simpa using hc21)⟩],hs.tail⟩
theorem mB{H:bn}{w:World}{σ:List Ent}{v vw:Value}{s:cB}{ws:List Int}(hs:St H w σ)(hr:RSy H v s)(hrw:RI H vw ws):
  Cl Tryz.prog 158 [v,vw] w fun v w'=>∃H1 e pf,HLe H H1∧v= .tuple #[pf,I e]∧BC s ws e∧St H1 w' σ∧(e≠0→pf= .pointer none)∧
   (e=0→∃bf bt bl cl ts lf vl sp,pf= .pointer (some ⟨bf,0,none⟩)∧uu H1 bf s ts lf vl bt bl cl sp∧rk s.n s.di (mT ws s.n) ts∧s.Ok∧bB ws s.n≤FF):=by
 obtain ⟨vl,rfl,hr⟩:=hr
 refine Cl.of Tryz.func158 rfl Tryz.ntmps158 (by simp) (aj (k:=0) rfl (aj (k:=1) rfl (bh))) ?_
 refine .ai ?_
 refine .o (.box hs rfl rfl ?_);intro b2 w hs
 refine .z zg (.z zg (.nil (.seq (.ai (.y hs (zls [_,_] aU aB) (.z zm ?_))))))
 refine .o (.call Tryz.call219 rfl (ml (s:=s) hs ⟨_,rfl,hr⟩ hrw) ?_);rintro _ w ⟨rfl,hs⟩
 refine .z zg (.nil (.ai (.z zm (.z iA (.nil ?_)))))
 refine (.e9 rfl (fun hc13=>?_) (fun hc13=>?_))
 ·refine .ai (.z zm (.z zg (.z zg (.nil ?_))))
  refine .ret (rT (Fin.lg tP rfl rfl ?_))
  exact ⟨H,_,_,HLe.refl _,rfl,.bad hc13,hs.tail,fun _=>rfl,fun h=>(hc13 h).elim⟩
 ·refine .skip ?_
  refine nT ?_
  refine .seq (.ai (.y hs (zls [_,_] aU aB) ?_))
  obtain ⟨hok,hwl,hsz⟩:=kA hc13
  refine .o (.call Tryz.call133 rfl (iW (s:=s) hs hok ⟨_,rfl,hr⟩) ?_);rintro _ w ⟨H1,b,hle1,rfl,hb,hs⟩
  refine .z iI (.nil ?_)
  refine (.cond rfl (fun hc17=>?_) (fun hc17=>?_))
  ·refine .ai (.z zg (.z zg (.nil ?_)))
   refine .ret (rT (Fin.lg tP rfl rfl ?_))
   exact ⟨H1,_,_,hle1,rfl,.clash hc13 (fun h=>by rw [hb.2 h] at hc17;cases hc17),hs.tail,fun _=>rfl,fun h=>by cases h⟩
  ·refine .skip ?_
   refine nT ?_
   refine .ai (.y hs (zls [_,_] aU aB) (.z zm ?_))
   have hsnd:s.Sound:=hb.1 (by simpa using hc17)
   refine .o (.call Tryz.call222 rfl (tk (s:=s) hs hok ⟨_,rfl,hr.mono hle1⟩ (hrw.mono hle1) hwl hsz hsnd) ?_);rintro v21 w hcase
   obtain ⟨pf,bb,H2,hle2,rfl,hs,hT,hF⟩:∃pf bb H2,HLe H1 H2∧v21= .tuple #[pf,.bool bb]∧St H2 w (.blk b2 [I s.many,vl]::σ)∧(bb=false→pf= .pointer none∧lS s.di (mT ws s.n) s.n)∧
     (bb=true→∃bf bt bl cl ts lf vl sp,pf= .pointer (some ⟨bf,0,none⟩)∧uu H2 bf s ts lf vl bt bl cl sp∧rk s.n s.di (mT ws s.n) ts):=by
    rcases hcase with ⟨rfl,h1,h2⟩|⟨H2,bf,bt,bl,cl,ts,lf,vl,sp,h1,rfl,h2,h3,h4⟩
    ·exact ⟨_,false,H1,HLe.refl _,rfl,h2,fun _=>⟨rfl,h1⟩,fun h=>by cases h⟩
    ·exact ⟨_,true,H2,h1,rfl,h4,fun h=>(by cases h),fun _=>⟨bf,bt,bl,cl,ts,lf,vl,sp,rfl,h2,h3⟩⟩
   refine .z zm (.z zex (.z zex (.z zg (.z zg (.nil (.seq (.ai (.z zm (.z iI ?_)))))))))
   refine .nil ?_
   refine (.cond rfl (fun hc25=>?_) (fun hc25=>?_))
   ·refine .ai (.z zg (.z zg (.nil ?_)))
    refine .ret (rT (Fin.lg tP rfl rfl ?_))
    exact ⟨H2,_,_,hle1.trans hle2,rfl,.opn hc13 hsnd (hT (by simpa using hc25)).2,hs.tail,fun _=>rfl,fun h=>by cases h⟩
   ·refine .skip ?_
    refine nT ?_
    refine .ai (.z zm (.z zg (.z zg (.nil ?_))))
    refine .ret (Fin.lg tP rfl rfl ?_)
    obtain ⟨bf,bt,bl,cl,ts,lf,vl,sp,rfl,h2,h3⟩:=hF (by simpa using hc25)
    have hn0:0<s.n:=by simp [cB.n]
    have hn1:s.n≤65:=by have:=hok.m0;have:=hok.m1;simp only [cB.n];omega
    have hsz':bB ws s.n≤FF:=by unfold fX at hsz;rwa [hwl] at hsz
    exact ⟨H2,_,_,hle1.trans hle2,rfl,.ok hc13 hsnd (h3.value hn0 hn1 hok.di hsz').2.1,hs.tail,fun h=>(h rfl).elim,fun _=>⟨bf,bt,bl,cl,ts,lf,vl,sp,rfl,h2,h3,hok,hsz'⟩⟩
theorem jJ{H:bn}{w:World}{σ:List Ent}{bf bt bl cl:Nat}{s:cB}{ts lf ws:List Int}{vl:Value}{sp:List Value}(hs:St H w σ)(hok:s.Ok)(hF:uu H bf s ts lf vl bt bl cl sp)(hFo:rk s.n s.di (mT ws s.n) ts)(hsz:bB ws s.n≤FF):
  Cl Tryz.prog 160 [.pointer (some ⟨bf,0,none⟩)] w fun v w'=>v=I (dot s.di ts (·.c))∧wD s.di (s.wt ws) s.n (dot s.di ts (·.c))∧dot s.di ts (·.c)≤BB∧-BB≤dot s.di ts (·.c)∧St H w' σ:=by
 obtain ⟨hFf,hFl,hFt,hFd⟩:=hF
 obtain ⟨al,cpl,rfl⟩:=RL.shape hFl
 have hlim:=hok.len
 have hal:s.di.length=s.cz.length:=by simp [cB.di,eN]
 have hlt:=hFo.lt
 have hn0:0<s.n:=by simp [cB.n]
 have hn1:s.n≤65:=by have:=hok.m0;have:=hok.m1;simp only [cB.n];omega
 have hv:=hFo.value hn0 hn1 hok.di hsz
 have hd:=Bn (es:=s.di) hlt
 have hf1:cellAt H bf 1=some (.slice al s.cz.length cpl):=hFf.at 1
 have hf2:cellAt H bf 2=some (.slice (some ⟨bt,0,none⟩) ts.length ts.length):=hFf.at 2
 refine Cl.of Tryz.func160 rfl Tryz.ntmps160 (by simp) (aj (k:=0) rfl (bh)) ?_
 refine .ai (.z zg (.nil (.ai (.z zg (.nil (.seq (.ai (.z zm (.z znc ?_)))))))))
 refine .z (zfa fH) (.z (zfa bD) (.y hs (zld cD) (.z (cM aQ) (.z zm (.nil ?_)))))
 refine .for (N:=s.cz.length) (J:=fun k fr w=>fr=[(10,.slice al s.cz.length cpl),(3,I (IntKind.i64.wrap (zY s.di ts k))),(0,.pointer (some ⟨bf,0,none⟩))]∧St H w σ) (by omega) ?_ ?_ ?_
 ·exact .mk ⟨rfl,hs⟩ (hs:= .cons rfl (.cons rfl (.cons rfl (.cq rfl (by simp [zY,a8,nK]) (.cons rfl (.nil rfl rfl))))))
 ·rintro k fr w hk ⟨rfl,hs⟩
  obtain ⟨l,hl⟩:=nth hk
  have hg:(ga s.di k).c=l.M:=by simp [ga,cB.di,kg hl,Lim.arc]
  have hlm:=hok.lim l (List.mem_of_getElem? hl)
  have hkt:k<ts.length:=by omega
  have htb:=hFo.nn k (by omega)
  have hct:cellAt H bt k=some (I (gi ts k)):=hFt.at k (eI hkt)
  have hmul:gi ts k*l.M≤72000000000000000∧-72000000000000000≤gi ts k*l.M:=by
   simp only [FF] at htb
   have g1:gi ts k*l.M≤gi ts k*20000:=Int.mul_le_mul_of_nonneg_left hlm.2.2.2.1.2 htb.1
   have g2:gi ts k*(-20000)≤gi ts k*l.M:=Int.mul_le_mul_of_nonneg_left hlm.2.2.2.1.1 htb.1
   omega
  refine .block (.ai (.z zm ?_))
  refine .ixX hs hFl rfl rfl aQ bj hl rfl ?_;intro b15 o15 hc15
  refine .q hs (cj (vs:=l.c) rfl dY bj hc15) ?_
  refine .o (.alloc hs dB rfl ?_);intro b5 w hs
  refine .z zg ?_
  refine .o (.aS (vs:=l.c) hs rfl rfl bj ?_);intro w hs
  refine .nil ?_
  refine .draw mix rfl hs ?_;intro w hs
  refine .z 0 rfl zm ?_;refine .z 1 rfl zm ?_;refine .z 2 rfl znc ?_;refine .z 3 rfl (zfa gD) ?_;refine .y 4 rfl hs ak ?_;refine .z 5 rfl zm ?_
  refine .p (i:=6) rfl (by kernel_rfl) .none (dF (k:=k) rfl rfl aa ae rfl hkt) ?_
  refine .r (i:=7) hs rfl (by kernel_rfl) .none (aM rfl af hct) ?_
  refine .z 8 rfl (zfa gW) ?_;refine .y 9 rfl hs af ?_;refine .z 10 rfl j7 ?_
  refine .p (i:=11) rfl (by kernel_rfl) .none (AQ rfl rfl) ?_
  refine .z 12 rfl zg ?_;refine .done (by kernel_rfl) hs ?_
  refine nB (nT ?_)
  exact .mk ⟨rfl,hs.tail⟩ (hs:= .cons rfl (.cons rfl (.cons rfl (.cq rfl (by rw [tc];simp only [zY,a8,hg]) (.cons rfl (.nil rfl rfl))))))
 ·rintro fr w ⟨rfl,hs⟩
  rw [←hal,←hd,kx (by have:=hv.2.2;simp only [BB] at this;omega)]
  refine nT ?_
  refine .ai (.z zm (.z zg (.nil ?_)))
  refine .ret (Fin.bI Tryz.results160 rfl ?_)
  exact ⟨rfl,hv.1,hv.2.2.1,hv.2.2.2,hs⟩
theorem qT{H:bn}{w:World}{σ:List Ent}{vw:Value}{ws:List Int}(hs:St H w σ)(hrw:RI H vw ws)(hlw:ws.length≤1000000)(hb:∀k,-9223372036854775807≤gi ws k∧gi ws k≤9223372036854775807):
  Cl Tryz.prog 159 [vw] w fun v w'=>∃H1,HLe H H1∧RI H1 v (oP ws)∧St H1 w' σ:=by
 obtain ⟨aw,cw,rfl⟩:=RI.shape hrw
 refine Cl.of Tryz.func159 rfl Tryz.ntmps159 (by simp) (aj (k:=0) rfl (bh)) ?_
 refine .ai (.z zg (.nil (.ai (.z zm (.z (cM aa) ?_)))))
 refine .o (.oT ws.length hs rfl rfl aa dq rfl ae bH (by omega) ?_);intro b8 w hs
 refine .z zg (.nil (.seq (.ai (.z zm (.z (cM aa) (.z zm (.nil ?_)))))))
 refine .for (N:=ws.length) (J:=fun k fr w=>fr=[(9,.slice aw ws.length cw),(3,.slice (some ⟨b8,0,none⟩) ws.length ws.length)]∧∃L,(L.length=ws.length∧∀v<ws.length,gi L v=if v<k then -gi ws v else 0)∧St H w (.blk b8 (Is L)::σ)) (by omega) ?_ ?_ ?_
 ·exact .mk ⟨rfl,_,⟨by simp,fun v hv=>by rw [dw _ _ hv,if_neg (by omega)]⟩,hs⟩
 ·rintro k fr w hk ⟨rfl,L,⟨hL1,hL2⟩,hs⟩
  have hx:=br hk
  have hbk:=hb k
  refine .block (.ai (.z zm ?_))
  first|(refine .ixv hs aa ae ?_;intro b14 o14 hc14)|refine .z (zix aa ae) ?_
  refine .y hs (zld af) (.z zg (.z zg (.nil (.region (.z zm (.z zm (.z zm (.z xI ?_))))))))
  first|(refine .ixv hs aa ae ?_;intro b20 o20 hc20)|refine .z (zix aa ae) ?_
  refine .o (.store hs rfl rfl ae ?_);intro w hs
  refine .nil ?_
  refine nB (nT ?_)
  refine .mk ⟨rfl,_,⟨by rw [List.length_set];exact hL1,fun v hv=>?_⟩,hs⟩
  rw [dZ (by omega)]
  by_cases e:v=k
  ·subst e;rw [if_pos rfl,if_pos (by omega)]
  ·rw [if_neg e,hL2 v hv];congr 1;apply propext;omega
 ·rintro fr w ⟨rfl,L,⟨hL1,hL2⟩,hs⟩
  obtain rfl:L=oP ws:=xm (by simp [hL1,oP]) (fun k hk=>by rw [hL2 k (by omega),if_pos (by omega),Bd])
  refine nT ?_
  refine .ai (.z zm (.z zg (.nil ?_)))
  refine .ret (Fin.bI Tryz.results159 rfl ?_)
  obtain ⟨H1,g1,g2,hs⟩:=hs.cP .here
  refine ⟨H1,g1,?_,hs⟩
  rw [←hL1]
  exact Row.RI (spare:=[]) (by simpa using g2) _ (Nat.le_refl _) (by omega)
theorem jW{H:bn}{w:World}{σ:List Ent}{v vw:Value}{s:cB}{ws:List Int}(hs:St H w σ)(hr:RSy H v s)(hrw:RI H vw ws):
  Cl Tryz.prog 74 [v,vw] w fun v w'=>∃H1 lo hi e,HLe H H1∧v= .tuple #[I lo,I hi,I e]∧eY s ws lo hi e∧St H1 w' σ:=by
 obtain ⟨vl,rfl,hr⟩:=hr
 refine Cl.of Tryz.func74 rfl Tryz.ntmps74 (by simp) (aj (k:=0) rfl (aj (k:=1) rfl (bh))) ?_
 refine .ai ?_
 refine .o (.box hs rfl rfl ?_);intro b2 w hs
 refine .z zg (.z zg (.z zg (.nil (.ai (.y hs (zls [_,_] aU aB) (.z zm ?_))))))
 refine .o (.call Tryz.call158 rfl (mB (s:=s) hs ⟨_,rfl,hr⟩ hrw) ?_);rintro _ w ⟨H1,e,pf,hle1,rfl,hA,hs,hne,heq⟩
 refine .z zm (.z zex (.z zex (.z zg (.z zg (.nil (.seq (.ai (.z zm (.z iA ?_)))))))))
 refine .nil ?_
 refine (.e9 rfl (fun hc16=>?_) (fun hc16=>?_))
 ·refine .ai (.z zm (.z zg (.z zg (.z zg (.nil ?_)))))
  refine .ret (rT (Fin.Dc Dx rfl rfl rfl ?_))
  exact ⟨H1,_,_,_,hle1,rfl,.first ⟨hA,fun _=>rfl,fun h=>(hc16 h).elim⟩ hc16,hs.tail⟩
 ·refine .skip ?_
  refine nT ?_
  refine .seq (.draw mix rfl hs ?_);intro w hs
  refine .ys 0 rfl hs [_,_] aU aB ?_;refine .z 1 rfl zm ?_
  refine .e1 (i:=2) (by kernel_rfl) rfl rfl .none hs ?_
  subst hc16
  obtain ⟨bf,bt,bl,cl,ts,lf,vl',sp,rfl,hF,hFo,hok,hsz⟩:=heq rfl
  have hwl:=(kA hA.zero.1).2.1
  have hbw:∀k,-9223372036854775807≤gi ws k∧gi ws k≤9223372036854775807:=fun k=>by
   simp only [FF] at hsz
   by_cases hk:k<s.n
   ·have:=hZ ws hk;omega
   ·have:gi ws k=0:=by simp [gi,List.getElem?_eq_none (show ws.length≤k by omega)]
    omega
  refine .call Tryz.call159 rfl (qT hs (hrw.mono hle1) (by have:=hok.m1;simp only [cB.n] at hwl;omega) hbw) ?_;rintro v21 w ⟨H2,hle2,hr21,hs⟩
  refine .go ?_
  refine .e1 (i:=3) (by kernel_rfl) rfl rfl .none hs ?_
  refine .call Tryz.call158 rfl (mB (s:=s) hs ⟨_,rfl,hr.mono (hle1.trans hle2)⟩ hr21) ?_;rintro _ w ⟨H3,e2,pg,hle3,rfl,hA2,hs,hne2,heq2⟩
  refine .go ?_
  refine .z 4 rfl zm ?_;refine .z 5 rfl zex ?_;refine .z 6 rfl zex ?_;refine .z 7 rfl zg ?_;refine .z 8 rfl zg ?_;refine .done (by kernel_rfl) hs ?_
  refine .seq (.ai (.z zm (.z iA (.nil ?_))))
  refine (.e9 rfl (fun hc26=>?_) (fun hc26=>?_))
  ·refine .ai (.z zm (.z zg (.z zg (.z zg (.nil ?_)))))
   refine .ret (rT (Fin.Dc Dx rfl rfl rfl ?_))
   obtain ⟨q1,q2,q3,q4⟩:=hFo.value (by simp [cB.n]) (by have:=hok.m0;have:=hok.m1;simp only [cB.n];omega) hok.di hsz
   exact ⟨H3,_,_,_,hle1.trans (hle2.trans hle3),rfl,.second ⟨hA,fun h=>(h rfl).elim,fun _=>⟨q1,q3,q4⟩⟩ ⟨hA2,fun _=>rfl,fun h=>(hc26 h).elim⟩ hc26,hs.tail⟩
  ·refine .skip ?_
   refine nT ?_
   refine .ai (.z zm ?_)
   subst hc26
   obtain ⟨bf2,bt2,bl2,cl2,ts2,lf2,vl2,sp2,rfl,hF2,hFo2,hok2,hsz2⟩:=heq2 rfl
   refine .o (.call Tryz.call160 rfl (jJ hs hok hF2 hFo2 hsz2) ?_);rintro _ w ⟨rfl,a1,a2,a3,hs⟩
   simp only [BB] at a2 a3
   refine .z xI (.z zm ?_)
   refine .o (.call Tryz.call160 rfl (jJ hs hok (hF.mono (hle2.trans hle3)) hFo hsz) ?_);rintro _ w ⟨rfl,c1,c2,c3,hs⟩
   refine .z zg (.z zg (.z zg (.nil ?_)))
   refine .ret (Fin.Dc Dx rfl rfl rfl ?_)
   exact ⟨H3,_,_,_,hle1.trans (hle2.trans hle3),rfl,.ok ⟨hA,fun h=>(h rfl).elim,fun _=>⟨c1,c2,c3⟩⟩ ⟨hA2,fun h=>(h rfl).elim,fun _=>⟨a1,by simp only [BB];omega,by simp only [BB];omega⟩⟩,hs.tail⟩
theorem Ci{n m:Int}(hm:0<m):(n.tmod m+m).tmod m=n%m:=by
 have h2:=Int.lt_tmod_of_pos n hm
 rw [Int.tmod_eq_emod_of_nonneg (by omega),Int.tmod_def,show n - m*n.tdiv m+m=n+m*(1 - n.tdiv m) by rw [Int.mul_sub];omega,Int.add_mul_emod_self_left]
theorem sS{H:bn}{w:World}{σ:List Ent}{v:Value}{l:List Int}{i n:Int}(hs:St H w σ)(hr:RI H v l)(hi:0≤i)(hn:n≤4611686018427387904):Cl Tryz.prog 264 [v,I i,I n] w fun v w'=>v=I (pH l i n)∧St H w' σ:=by
 obtain ⟨a,c,rfl⟩:=RI.shape hr
 have hlen:=(RI.len hr).2.2
 refine Cl.of Tryz.func264 rfl Tryz.ntmps264 (by simp) (aj (k:=0) rfl (aj (k:=1) rfl (aj (k:=2) rfl (bh)))) ?_
 refine .ai (.z zg (.nil (.seq (.ai (.z zm (.z (cM aa) (.z fA (.z zm ?_))))))))
 refine .iE (t':=10) rfl (fun hb10=>?_) (fun hb10=>?_)
 ·refine .gFs 2 3 false rfl rfl rfl ?_
  refine .z zpT (.nil ?_)
  refine (.fj rfl (by first|rfl|exact decide_eq_true (by assumption)) ?_)
  refine .ai (.z zg (.nil ?_))
  refine .ret (rT (Fin.bI BJ rfl ?_))
  exact ⟨by rw [show pH l i n=0 by unfold pH;rw [if_pos (.inl (List.length_eq_zero_iff.1 (by omega)))]],hs⟩
 ·refine .gT rfl rfl ?_
  refine .z zm ?_
  refine .gT rfl rfl ?_
  refine .z fN (.z zpF (.nil ?_))
  refine (.bJ rfl (fun hc13=>?_) (fun hc13=>?_))
  ·refine .ai (.z zg (.nil ?_))
   refine .ret (rT (Fin.bI BJ rfl ?_))
   exact ⟨by rw [show pH l i n=0 by unfold pH;rw [if_pos (.inr (by omega))]],hs⟩
  ·refine .skip ?_
   refine nT ?_
   refine .ai (.z zm (.z zm (.z zm (.z (cM aa) ?_))))
   have hl0:0<l.length:=by omega
   have h1:=Int.tmod_nonneg (a:=i) (l.length:Int) hi
   have h2:=Int.tmod_lt_of_pos i (b:=(l.length:Int)) (by omega)
   have hx:=br (l:=l) (i:=(i.tmod (l.length:Int)).toNat) (by omega)
   have h3:=Int.tmod_lt_of_pos (gi l (i.tmod (l.length:Int)).toNat) (b:=n) (by omega)
   have h4:=Int.lt_tmod_of_pos (gi l (i.tmod (l.length:Int)).toNat) (b:=n) (by omega)
   have e:=Ci (n:=gi l (i.tmod (l.length:Int)).toNat) (m:=n) (by omega)
   refine .z Af ?_
   refine .ixY hs hr rfl rfl aa ae hx (by omega) ?_;intro b19 o19 hc19
   refine .q hs (aM rfl af hc19) ?_
   refine .z zm (.z Af (.z zm (.z cA (.z zm (.z Af (.z zg (.nil ?_)))))))
   refine .ret (Fin.bI BJ rfl ?_)
   exact ⟨by unfold pH;rw [if_neg (fun h=>h.elim (fun h=>by rw [h] at hl0;exact Nat.lt_irrefl _ hl0) (fun h=>by omega)),←e],hs⟩
def u4(i j:Nat):Int:=if i=j then 0 else free
theorem DD{n:Nat}(es:List Arc){T:Nat→Nat→Int}(h:∀i j,i<n→j<n→T i j=u4 i j):Eh n es 0 T:=
 ⟨fun i hi=>by rw [h i i hi hi];simp [u4],fun _ _ h=>by omega,fun i j hi hj hij=> .inl (by rw [h i j hi hj];simp [u4,hij])⟩
set_option maxHeartbeats 4000000 in
theorem kn{H:bn}{w:World}{σ:List Ent}{v:Value}{s:cB}(hs:St H w σ)(hr:RSy H v s)(hok:s.Ok):
  Cl Tryz.prog 226 [v] w fun u w'=>∃H1 rs,HLe H H1∧RT H1 u rs∧Sq s.n rs∧ir s.n s.di (gt rs)∧St H1 w' σ:=by
 obtain ⟨ul,rfl,hl⟩:=hr
 obtain ⟨al,cl,rfl⟩:=RL.shape hl
 have hm0:=hok.m0
 have hm1:=hok.m1
 have hlen:=hok.len
 have hnp:=s.zP
 have hn65:=hok.n65
 have hinn:=hok.inn
 have hmn:s.many+1=(s.n:Int):=by simp only [cB.n];omega
 generalize hn:s.n=n at hnp hn65 hinn hmn ⊢
 refine Cl.of Tryz.func226 rfl Tryz.ntmps226 (by simp) (aj (k:=0) rfl (bh)) ?_
 refine .ai ?_
 refine .o (.box hs rfl rfl ?_);intro b1 w hs
 refine .z zg (.nil (.ai (.z (zfa bE) ?_)))
 first|refine .q hs (dE rfl af (hm:=by repeat (first|exact .here|assumption|exact Mem.row (by omega) (by omega)|refine .there ?_|refine Mem.fS ?_)) (hv:=by first|rfl|exact cQ (by omega)|exact fl (by assumption) (by omega) (by omega)|exact eI (by first|assumption|omega))) ?_|refine .q hs (aM rfl af (by assumption)) ?_
 refine .z cA ?_
 rw [hmn]
 refine .z zg (.nil (.ai (.z zm ?_)))
 refine .o (.DY n hs rfl rfl an tD rfl aA dz (by omega) ?_);intro b16 w hs
 refine .z zg (.nil (.seq (.ai (.z zm (.z (cM an) (.z zm (.nil ?_)))))))
 refine .for (N:=n) (J:=fun k fr w=>fr=[(3,I (n:Int)),(4,.slice (some ⟨b16,0,none⟩) n n),(1,.pointer (some ⟨b1,0,none⟩))]∧∃bs:List Nat,bs.length=k∧St H w (.blk b16 (bs.map (ptr n)++List.replicate (n - k) (.slice none 0 0))::(iK bs (xQ u4 n k)++(.blk b1 [I s.many,.slice al s.cz.length cl]::σ)))) (by omega) ?_ ?_ ?_
 ·exact .mk ⟨rfl,[],rfl,hs⟩
 ·rintro k fr w hk ⟨rfl,bs,hbl,hs⟩
  refine .block (.ai (.z zm (.z zg (.nil (.ai (.z zm (.z zm (.z zm ?_))))))))
  refine .o (.oT n hs rfl rfl aa dq rfl ae bH (by omega) ?_);intro b25 w hs
  first|(refine .ixw hs an aA ?_;intro b26 o26 hc26)|refine .z (zix an aA) ?_
  refine .o (.store hs rfl rfl aA ?_ (by repeat constructor) (by simp [hbl];omega) (AR hbl hk));intro w hs
  refine .nil (.ai (.z zm (.z zm ?_)))
  first|(refine .ixw hs an aA ?_;intro b29 o29 hc29)|refine .z (zix an aA) ?_
  refine .q hs (dE rfl ak (hv:=yR hbl)) ?_
  refine .z (cM aa) (.z zm (.nil ?_))
  refine .for (N:=n) (J:=fun j fr w=>fr=[(5,I (k:Int)),(19,I (k:Int)),(18,I (n:Int)),(3,I (n:Int)),(4,.slice (some ⟨b16,0,none⟩) n n),(1,.pointer (some ⟨b1,0,none⟩))]∧St H w (.blk b25 (Is ((List.range n).map fun c=>if c<j∧k≠c then free else 0)):: .blk b16 ((bs++[b25]).map (ptr n)++List.replicate (n - (k+1)) (.slice none 0 0))::(iK bs (xQ u4 n k)++(.blk b1 [I s.many,.slice al s.cz.length cl]::σ)))) (by omega) ?_ ?_ ?_
  ·rw [sW (fun c=>if c<0∧k≠c then free else 0) n 0 (fun j _=>by simp)] at hs
   exact .mk ⟨rfl,hs⟩
  ·rintro j fr w hj ⟨rfl,hs⟩
   refine .block (.ai (.z zm (.z zg (.nil (.ai (.z zm (.z zm (.z iA (.nil ?_)))))))))
   refine (.e9 rfl (fun hc37=>?_) (fun hc37=>?_))
   ·refine .region (.z zm (.z zm ?_))
    first|(refine .ixw hs an aA ?_;intro b40 o40 hc40)|refine .z (zix an aA) ?_
    refine .q hs (dE rfl ak (hv:=yR hbl)) ?_
    refine .z zm ?_
    first|(refine .ixv hs aa ae ?_;intro b43 o43 hc43)|refine .z (zix aa ae) ?_
    refine .o (.store hs rfl rfl ae ?_ (by repeat constructor) (tn (by simp;omega)) (lT _ _ _));intro w hs
    refine .nil ?_
    refine nB (nT ?_)
    rw [AJ _ (fun c=>if c<j+1∧k≠c then free else 0) hj 1000000000 (fun c _=>by
     by_cases e:c=j
     ·subst e;rw [if_pos rfl,if_pos ⟨by omega,by omega⟩]
     ·rw [if_neg e];congr 1;apply propext;omega)] at hs
    exact .mk ⟨rfl,hs⟩
   ·refine .skip ?_
    refine nB (nT ?_)
    rw [sX (g:=fun c=>if c<j+1∧k≠c then free else 0) (fun c _=>by
     by_cases e:c=j
     ·subst e;rw [if_neg (by omega),if_neg (by omega)]
     ·congr 1;apply propext;omega)] at hs
    exact .mk ⟨rfl,hs⟩
  ·rintro fr w ⟨rfl,hs⟩
   rw [sX (g:=u4 k) (fun c hc=>by
    unfold u4
    by_cases e:k=c
    ·rw [if_neg (by omega),if_pos e]
    ·rw [if_pos ⟨hc,e⟩,if_neg e])] at hs
   replace hs:=hs.rowIn (by rw [hbl,sC])
   rw [←wN] at hs
   refine nB (nT ?_)
   exact .mk ⟨rfl,bs++[b25],by simp [hbl],hs⟩
 ·rintro fr w ⟨rfl,bs,hbl,hs⟩
  rw [Nat.sub_self,List.replicate_zero,List.append_nil] at hs
  refine nT ?_
  refine .seq (.ai (.z (zfa bD) ?_))
  first|refine .q hs (dE rfl cD (hm:=by repeat (first|exact .here|assumption|exact Mem.row (by omega) (by omega)|refine .there ?_|refine Mem.fS ?_)) (hv:=by first|rfl|exact cQ (by omega)|exact fl (by assumption) (by omega) (by omega)|exact eI (by first|assumption|omega))) ?_|refine .q hs (aM rfl cD (by assumption)) ?_
  refine .z (cM aQ) (.z zm (.nil ?_))
  refine .for (N:=s.cz.length) (J:=fun k fr w=>fr=[(47,.slice al s.cz.length cl),(4,.slice (some ⟨b16,0,none⟩) n n)]∧∃rs,Sq n rs∧Eh n s.di k (gt rs)∧St H w (.blk b16 (bs.map (ptr n))::(iK bs rs++(.blk b1 [I s.many,.slice al s.cz.length cl]::σ)))) (by omega) ?_ ?_ ?_
  ·exact .mk ⟨rfl,_,Au u4 n,DD s.di (fun i j hi hj=>xP u4 hi hj),hs⟩
  ·rintro k fr w hk ⟨rfl,rs,hq,hB,hs⟩
   obtain ⟨x,hx⟩:=nth (l:=s.cz) hk
   have hrl:=hq.1
   obtain ⟨⟨xa0,xa1⟩,⟨xb0,xb1⟩,xne,xM,-⟩:=hok.lim x (List.mem_of_getElem? hx)
   have ha:x.A.toNat<n:=by omega
   have hb:x.B.toNat<n:=by omega
   have hga:=kg hx
   refine .block (.ai ?_)
   refine .ixX (enc:=Lim.c) hs hl rfl rfl aQ bj hx rfl ?_;intro b51 o51 hc51
   refine .q hs (cj (vs:=x.c) rfl dY bj hc51) ?_
   refine .o (.alloc hs dB rfl ?_);intro b8 w hs
   refine .o (.aS (vs:=x.c) hs rfl rfl bj ?_);intro w hs
   refine .nil ?_
   refine .draw mix rfl hs ?_;intro w hs
   refine .z 0 rfl zm ?_;refine .z 1 rfl (zfa eQ) ?_
   first|refine .load (i:=2) hs rfl (by kernel_rfl) .none rfl af ?_ (by repeat (first|exact .here|assumption|exact Mem.row (by omega) (by omega)|refine .there ?_|refine Mem.fS ?_)) (by first|rfl|exact cQ (by omega)|exact fl (by assumption) (by omega) (by omega)|exact eI (by first|assumption|omega))|refine .r (i:=2) hs rfl (by kernel_rfl) .none (aM rfl af (by assumption)) ?_
   refine .p (i:=3) rfl (by kernel_rfl) .none (dF (k:=x.A.toNat) rfl rfl an aA (by omega) ha) ?_
   first|refine .load (i:=4) hs rfl (by kernel_rfl) .none rfl ak ?_ (by repeat (first|exact .here|assumption|exact Mem.row (by omega) (by omega)|refine .there ?_|refine Mem.fS ?_)) (by first|rfl|exact cQ (by omega)|exact fl (by assumption) (by omega) (by omega)|exact eI (by first|assumption|omega))|refine .r (i:=4) hs rfl (by kernel_rfl) .none (aM rfl ak (by assumption)) ?_
   refine .z 5 rfl (zfa ft) ?_
   first|refine .load (i:=6) hs rfl (by kernel_rfl) .none rfl af ?_ (by repeat (first|exact .here|assumption|exact Mem.row (by omega) (by omega)|refine .there ?_|refine Mem.fS ?_)) (by first|rfl|exact cQ (by omega)|exact fl (by assumption) (by omega) (by omega)|exact eI (by first|assumption|omega))|refine .r (i:=6) hs rfl (by kernel_rfl) .none (aM rfl af (by assumption)) ?_
   refine .z 7 rfl zm ?_;refine .z 8 rfl (zfa eQ) ?_
   first|refine .load (i:=9) hs rfl (by kernel_rfl) .none rfl af ?_ (by repeat (first|exact .here|assumption|exact Mem.row (by omega) (by omega)|refine .there ?_|refine Mem.fS ?_)) (by first|rfl|exact cQ (by omega)|exact fl (by assumption) (by omega) (by omega)|exact eI (by first|assumption|omega))|refine .r (i:=9) hs rfl (by kernel_rfl) .none (aM rfl af (by assumption)) ?_
   refine .p (i:=10) rfl (by kernel_rfl) .none (dF (k:=x.A.toNat) rfl rfl an aA (by omega) ha) ?_
   first|refine .load (i:=11) hs rfl (by kernel_rfl) .none rfl ak ?_ (by repeat (first|exact .here|assumption|exact Mem.row (by omega) (by omega)|refine .there ?_|refine Mem.fS ?_)) (by first|rfl|exact cQ (by omega)|exact fl (by assumption) (by omega) (by omega)|exact eI (by first|assumption|omega))|refine .r (i:=11) hs rfl (by kernel_rfl) .none (aM rfl ak (by assumption)) ?_
   refine .z 12 rfl (zfa ft) ?_
   first|refine .load (i:=13) hs rfl (by kernel_rfl) .none rfl af ?_ (by repeat (first|exact .here|assumption|exact Mem.row (by omega) (by omega)|refine .there ?_|refine Mem.fS ?_)) (by first|rfl|exact cQ (by omega)|exact fl (by assumption) (by omega) (by omega)|exact eI (by first|assumption|omega))|refine .r (i:=13) hs rfl (by kernel_rfl) .none (aM rfl af (by assumption)) ?_
   refine .p (i:=14) rfl (by kernel_rfl) .none (dF (k:=x.B.toNat) rfl rfl aa ae (by omega) hb) ?_
   first|refine .load (i:=15) hs rfl (by kernel_rfl) .none rfl af ?_ (by repeat (first|exact .here|assumption|exact Mem.row (by omega) (by omega)|refine .there ?_|refine Mem.fS ?_)) (by first|rfl|exact cQ (by omega)|exact fl (by assumption) (by omega) (by omega)|exact eI (by first|assumption|omega))|refine .r (i:=15) hs rfl (by kernel_rfl) .none (aM rfl af (by assumption)) ?_
   refine .z 16 rfl (zfa gW) ?_
   first|refine .load (i:=17) hs rfl (by kernel_rfl) .none rfl af ?_ (by repeat (first|exact .here|assumption|exact Mem.row (by omega) (by omega)|refine .there ?_|refine Mem.fS ?_)) (by first|rfl|exact cQ (by omega)|exact fl (by assumption) (by omega) (by omega)|exact eI (by first|assumption|omega))|refine .r (i:=17) hs rfl (by kernel_rfl) .none (aM rfl af (by assumption)) ?_
   refine .z 18 rfl Ad ?_
   refine .p (i:=19) rfl (by kernel_rfl) .none (dF (k:=x.B.toNat) rfl rfl aa ae (by omega) hb) ?_
   refine .e1 (i:=20) (by kernel_rfl) rfl rfl .none hs ?_ (hp:=by repeat (first|exact .nil|refine .cons (by first|exact HLe.bot _|exact HLe.refl _|assumption) (by first|exact .nil|(refine Sub.one ?_;repeat (first|exact .here|assumption|exact Mem.row (by omega) (by omega)|refine .there ?_|refine Mem.fS ?_))) ?_))
   refine .store hs rfl rfl ae ?_ (.there (.there (Upd.row _ (by omega) (by omega)))) (tn (by rw [hq.2 _ ha];exact hb)) (lT _ _ _);intro w hs
   refine .go ?_
   refine .done (by kernel_rfl) hs ?_ (hp:=by repeat (first|exact .nil|refine .cons (by first|exact HLe.bot _|exact HLe.refl _|assumption) (by first|exact .nil|(refine Sub.one ?_;repeat (first|exact .here|assumption|exact Mem.row (by omega) (by omega)|refine .there ?_|refine Mem.fS ?_))) ?_))
   refine nB (nT ?_)
   exact .mk ⟨rfl,_,hq.set ha _,by rw [y0 hq ha hb];exact hB.step hinn hga,hs.tail⟩
  ·rintro fr w ⟨rfl,rs,hq,hB,hs⟩
   rw [←eN] at hB
   have hI:=hB.go hinn hnp
   have hcb:∀x∈s.di,-20000≤x.c∧x.c≤20000:=fun x hx=>by have:=hinn x hx;omega
   refine nT ?_
   refine .seq (.ai (.z zm (.z (cM an) (.z zm (.nil ?_)))))
   refine .for (N:=n) (J:=fun m fr w=>fr=[(4,.slice (some ⟨b16,0,none⟩) n n)]∧∃rs,Sq n rs∧(m<n→wB n s.di m (fun _ _=>False) (gt rs))∧(m=n→ir n s.di (gt rs))∧St H w (.blk b16 (bs.map (ptr n))::(iK bs rs++(.blk b1 [I s.many,.slice al s.cz.length cl]::σ)))) (by omega) ?_ ?_ ?_
   ·exact .mk ⟨rfl,rs,hq,fun _=>hI,fun e=>by omega,hs⟩
   ·clear hI hB hq
    rintro m fr w hm ⟨rfl,rs,hq,hI,-,hs⟩
    replace hI:=hI hm
    refine .block (.ai (.z zm (.z zg (.nil (.ai (.z zm (.z (cM an) (.z zm (.nil ?_)))))))))
    refine .for (N:=n) (J:=fun i fr w=>fr=[(9,I (m:Int)),(76,I (m:Int)),(75,I (n:Int)),(4,.slice (some ⟨b16,0,none⟩) n n)]∧∃rs,Sq n rs∧wB n s.di m (fun a _=>a<i) (gt rs)∧St H w (.blk b16 (bs.map (ptr n))::(iK bs rs++(.blk b1 [I s.many,.slice al s.cz.length cl]::σ)))) (by omega) ?_ ?_ ?_
    ·exact .mk ⟨rfl,rs,hq,hI.skip hcb hm (P:=fun _ _=>False) (fun i j h=>by omega) (fun _ _ _ _ h=>h.elim),hs⟩
    ·clear hI hq
     rintro i fr w hi ⟨rfl,rs,hq,hI,hs⟩
     refine .block (.ai (.z zm (.z zg (.nil (.ai (.z zm (.z (cM an) (.z zm (.nil ?_)))))))))
     refine .for (N:=n) (J:=fun k fr w=>fr=[(10,I (i:Int)),(81,I (i:Int)),(80,I (n:Int)),(9,I (m:Int)),(76,I (m:Int)),(75,I (n:Int)),(4,.slice (some ⟨b16,0,none⟩) n n)]∧∃rs,Sq n rs∧wB n s.di m (fun a b=>a<i∨(a=i∧b<k)) (gt rs)∧St H w (.blk b16 (bs.map (ptr n))::(iK bs rs++(.blk b1 [I s.many,.slice al s.cz.length cl]::σ)))) (by omega) ?_ ?_ ?_
     ·exact .mk ⟨rfl,rs,hq,hI.skip hcb hm (P:=fun _ _=>False) (fun a b h=>by omega) (fun _ _ _ _ h=>h.elim),hs⟩
     ·clear hI hq
      rintro k fr w hk ⟨rfl,rs,hq,hI,hs⟩
      have hrl:=hq.1
      have c1:=hI.cl i m hi hm;have c2:=hI.cl m k hm hk
      have u1:=hI.up i m hi hm;have u2:=hI.up m k hm hk
      refine .block (.ai (.z zm (.z zg (.nil (.ai (.z zm (.z zm ?_)))))))
      first|(refine .ixw hs an aA ?_;intro b91 o91 hc91)|refine .z (zix an aA) ?_
      first|refine .q hs (dE rfl ak (hm:=by repeat (first|exact .here|assumption|exact Mem.row (by omega) (by omega)|refine .there ?_|refine Mem.fS ?_)) (hv:=by first|rfl|exact cQ (by omega)|exact fl (by assumption) (by omega) (by omega)|exact eI (by first|assumption|omega))) ?_|refine .q hs (aM rfl ak (by assumption)) ?_
      refine .z zm ?_
      first|(refine .ixv hs aa ae ?_;intro b94 o94 hc94)|refine .z (zix aa ae) ?_
      first|refine .q hs (dE rfl af (hm:=by repeat (first|exact .here|assumption|exact Mem.row (by omega) (by omega)|refine .there ?_|refine Mem.fS ?_)) (hv:=by first|rfl|exact cQ (by omega)|exact fl (by assumption) (by omega) (by omega)|exact eI (by first|assumption|omega))) ?_|refine .q hs (aM rfl af (by assumption)) ?_
      refine .z iA (.z zm ?_)
      refine .yu (t':=97) rfl (fun hb97=>?_) (fun hb97=>?_)
      ·refine .gT rfl rfl ?_
       refine .z zm ?_
       refine .gT rfl rfl ?_
       refine .z zm ?_
       refine .gT rfl rfl ?_
       first|(refine .ixw hs an aA ?_;intro b100 o100 hc100)|refine .z (zix an aA) ?_
       refine .gT rfl rfl ?_
       first|refine .q hs (dE rfl ak (hm:=by repeat (first|exact .here|assumption|exact Mem.row (by omega) (by omega)|refine .there ?_|refine Mem.fS ?_)) (hv:=by first|rfl|exact cQ (by omega)|exact fl (by assumption) (by omega) (by omega)|exact eI (by first|assumption|omega))) ?_|refine .q hs (aM rfl ak (by assumption)) ?_
       refine .gT rfl rfl ?_
       refine .z zm ?_
       refine .gT rfl rfl ?_
       first|(refine .ixv hs aa ae ?_;intro b103 o103 hc103)|refine .z (zix aa ae) ?_
       refine .gT rfl rfl ?_
       first|refine .q hs (dE rfl af (hm:=by repeat (first|exact .here|assumption|exact Mem.row (by omega) (by omega)|refine .there ?_|refine Mem.fS ?_)) (hv:=by first|rfl|exact cQ (by omega)|exact fl (by assumption) (by omega) (by omega)|exact eI (by first|assumption|omega))) ?_|refine .q hs (aM rfl af (by assumption)) ?_
       refine .gT rfl rfl ?_
       refine .z iA (.z zpT (.nil ?_))
       refine (.e9 rfl (fun hc106=>?_) (fun hc106=>?_))
       ·refine .draw mix rfl hs ?_;intro w hs
        replace u1:=u1 hb97;replace u2:=u2 hc106
        refine .z 0 rfl zm ?_;refine .z 1 rfl zm ?_
        first|(refine .ixw 2 rfl hs an aA ?_;intro b109 o109 hc109)|refine .z 2 rfl (zix an aA) ?_
        first|refine .load (i:=3) hs rfl (by kernel_rfl) .none rfl ak ?_ (by repeat (first|exact .here|assumption|exact Mem.row (by omega) (by omega)|refine .there ?_|refine Mem.fS ?_)) (by first|rfl|exact cQ (by omega)|exact fl (by assumption) (by omega) (by omega)|exact eI (by first|assumption|omega))|refine .r (i:=3) hs rfl (by kernel_rfl) .none (aM rfl ak (by assumption)) ?_
        refine .z 4 rfl zm ?_;refine .z 5 rfl zm ?_;refine .z 6 rfl zm ?_
        first|(refine .ixw 7 rfl hs an aA ?_;intro b114 o114 hc114)|refine .z 7 rfl (zix an aA) ?_
        first|refine .load (i:=8) hs rfl (by kernel_rfl) .none rfl ak ?_ (by repeat (first|exact .here|assumption|exact Mem.row (by omega) (by omega)|refine .there ?_|refine Mem.fS ?_)) (by first|rfl|exact cQ (by omega)|exact fl (by assumption) (by omega) (by omega)|exact eI (by first|assumption|omega))|refine .r (i:=8) hs rfl (by kernel_rfl) .none (aM rfl ak (by assumption)) ?_
        refine .z 9 rfl zm ?_
        first|(refine .ixv 10 rfl hs aa ae ?_;intro b117 o117 hc117)|refine .z 10 rfl (zix aa ae) ?_
        first|refine .load (i:=11) hs rfl (by kernel_rfl) .none rfl af ?_ (by repeat (first|exact .here|assumption|exact Mem.row (by omega) (by omega)|refine .there ?_|refine Mem.fS ?_)) (by first|rfl|exact cQ (by omega)|exact fl (by assumption) (by omega) (by omega)|exact eI (by first|assumption|omega))|refine .r (i:=11) hs rfl (by kernel_rfl) .none (aM rfl af (by assumption)) ?_
        refine .z 12 rfl zm ?_;refine .z 13 rfl zm ?_
        first|(refine .ixw 14 rfl hs an aA ?_;intro b121 o121 hc121)|refine .z 14 rfl (zix an aA) ?_
        first|refine .load (i:=15) hs rfl (by kernel_rfl) .none rfl ak ?_ (by repeat (first|exact .here|assumption|exact Mem.row (by omega) (by omega)|refine .there ?_|refine Mem.fS ?_)) (by first|rfl|exact cQ (by omega)|exact fl (by assumption) (by omega) (by omega)|exact eI (by first|assumption|omega))|refine .r (i:=15) hs rfl (by kernel_rfl) .none (aM rfl ak (by assumption)) ?_
        refine .z 16 rfl zm ?_
        first|(refine .ixv 17 rfl hs aa ae ?_;intro b124 o124 hc124)|refine .z 17 rfl (zix aa ae) ?_
        first|refine .load (i:=18) hs rfl (by kernel_rfl) .none rfl af ?_ (by repeat (first|exact .here|assumption|exact Mem.row (by omega) (by omega)|refine .there ?_|refine Mem.fS ?_)) (by first|rfl|exact cQ (by omega)|exact fl (by assumption) (by omega) (by omega)|exact eI (by first|assumption|omega))|refine .r (i:=18) hs rfl (by kernel_rfl) .none (aM rfl af (by assumption)) ?_
        refine .z 19 rfl zm ?_;refine .z 20 rfl zm ?_
        first|(refine .ixw 21 rfl hs an aA ?_;intro b128 o128 hc128)|refine .z 21 rfl (zix an aA) ?_
        first|refine .load (i:=22) hs rfl (by kernel_rfl) .none rfl ak ?_ (by repeat (first|exact .here|assumption|exact Mem.row (by omega) (by omega)|refine .there ?_|refine Mem.fS ?_)) (by first|rfl|exact cQ (by omega)|exact fl (by assumption) (by omega) (by omega)|exact eI (by first|assumption|omega))|refine .r (i:=22) hs rfl (by kernel_rfl) .none (aM rfl ak (by assumption)) ?_
        refine .z 23 rfl zm ?_
        first|(refine .ixv 24 rfl hs aa ae ?_;intro b131 o131 hc131)|refine .z 24 rfl (zix aa ae) ?_
        first|refine .load (i:=25) hs rfl (by kernel_rfl) .none rfl af ?_ (by repeat (first|exact .here|assumption|exact Mem.row (by omega) (by omega)|refine .there ?_|refine Mem.fS ?_)) (by first|rfl|exact cQ (by omega)|exact fl (by assumption) (by omega) (by omega)|exact eI (by first|assumption|omega))|refine .r (i:=25) hs rfl (by kernel_rfl) .none (aM rfl af (by assumption)) ?_
        refine .z 26 rfl cA ?_;refine .z 27 rfl Ad ?_;refine .z 28 rfl DA ?_
        first|(refine .ixv 29 rfl hs aa ae ?_;intro b136 o136 hc136)|refine .z 29 rfl (zix aa ae) ?_
        refine .e1 (i:=30) (by kernel_rfl) rfl rfl .none hs ?_ (hp:=by repeat (first|exact .nil|refine .cons (by first|exact HLe.bot _|exact HLe.refl _|assumption) (by first|exact .nil|(refine Sub.one ?_;repeat (first|exact .here|assumption|exact Mem.row (by omega) (by omega)|refine .there ?_|refine Mem.fS ?_))) ?_))
        refine .store hs rfl rfl ae ?_ (.there (Upd.row _ (by omega) (by omega))) (tn (by rw [hq.2 _ hi];exact hk)) (lT _ _ _);intro w hs
        refine .go ?_
        refine .done (by kernel_rfl) hs ?_ (hp:=by repeat (first|exact .nil|refine .cons (by first|exact HLe.bot _|exact HLe.refl _|assumption) (by first|exact .nil|(refine Sub.one ?_;repeat (first|exact .here|assumption|exact Mem.row (by omega) (by omega)|refine .there ?_|refine Mem.fS ?_))) ?_))
        refine nB (nT ?_)
        exact .mk ⟨rfl,_,hq.set hi _,by rw [y0 hq hi hk];exact hI.step hcb hm hi hk (fun a b h=>by omega) hb97 hc106,hs⟩
       ·refine .skip ?_
        refine nB (nT ?_)
        exact .mk ⟨rfl,rs,hq,hI.skip hcb hm (P:=fun a b=>a=i∧b=k) (fun a b h=>by omega) (fun a b _ _ h=>by obtain ⟨rfl,rfl⟩:=h;exact .inr hc106),hs⟩
      ·refine .gFs 8 8 true rfl rfl rfl ?_
       refine .z zpF (.nil ?_)
       refine (.mj rfl (by first|rfl|exact decide_eq_false (by assumption)) ?_)
       refine .skip ?_
       refine nB (nT ?_)
       exact .mk ⟨rfl,rs,hq,hI.skip hcb hm (P:=fun a b=>a=i∧b=k) (fun a b h=>by omega) (fun a b _ _ h=>by obtain ⟨rfl,rfl⟩:=h;exact .inl hb97),hs⟩
     ·rintro fr w ⟨rfl,rs,hq,hI,hs⟩
      refine nB (nT ?_)
      exact .mk ⟨rfl,rs,hq,hI.skip hcb hm (P:=fun a b=>a=i∧n≤b) (fun a b h=>by omega) (fun a b _ hb h=>by omega),hs⟩
    ·rintro fr w ⟨rfl,rs,hq,hI,hs⟩
     replace hI:wB n s.di m (fun _ _=>True) (gt rs):=hI.skip hcb hm (P:=fun a _=>n≤a) (fun a b h=>by omega) (fun a b ha _ h=>by omega)
     refine nB (nT ?_)
     exact .mk ⟨rfl,rs,hq,fun h=>hI.next hcb h hn65,fun h=>hI.done hcb h.symm hn65,hs⟩
   ·rintro fr w ⟨rfl,rs,hq,-,hT,hs⟩
    replace hT:=hT rfl
    refine nT ?_
    refine .ai (.z zm (.z zg (.nil ?_)))
    refine .ret (Fin.bI Tryz.results226 rfl ?_)
    obtain ⟨H1,g1,g2,hs⟩:=vf hq hbl (by omega) hs
    exact ⟨H1,rs,g1,g2,hq,hT,hs.tail⟩
theorem jQ{H:bn}{w:World}{σ:List Ent}{vm:Value}{rs:List (List Int)}{n:Nat}(hs:St H w σ)(hM:RT H vm rs)(hq:Sq n rs)(hn:n≤1000):
  Cl Tryz.prog 233 [vm] w fun v w'=>∃b,v= .bool b∧(b=true↔∀i,i<n→¬gt rs i i<0)∧St H w' σ:=by
 obtain ⟨a,c,rfl⟩:=hM.shape
 have hrl:=hq.1
 refine Cl.of Tryz.func233 rfl Tryz.ntmps233 (by simp) (aj (k:=0) rfl (bh)) ?_
 refine .ai (.z zg (.nil (.seq (.ai (.z zm (.z (cM an) (.z zm (.nil ?_))))))))
 refine .for (N:=rs.length) (J:=fun k fr w=>fr=[(0,.slice a rs.length c)]∧(∀i,i<k→¬gt rs i i<0)∧St H w σ) (by omega) ?_ ?_ ?_
 ·exact .mk ⟨rfl,fun i h=>by omega,hs⟩
 ·rintro k fr w hk ⟨rfl,h0,hs⟩
  refine .block (.ai (.z zm (.z zg (.nil (.ai (.z zm (.z zm ?_)))))))
  refine .ixT hs hM rfl rfl an aA hk rfl ?_;intro b11 o11 a11 c11 hc11 hR11
  refine .q hs (aM rfl ak hc11) ?_
  refine .z zm ?_
  refine .ixY hs hR11 rfl rfl aa ae (br (l:=gr rs k) (i:=k) (by rw [hq.2 k (by omega)];omega)) rfl ?_;intro b14 o14 hc14
  refine .q hs (aM rfl af hc14) ?_
  refine .z fN (.nil ?_)
  refine (.bJ rfl (fun hc16=>?_) (fun hc16=>?_))
  ·refine .ai (.z zg (.nil ?_))
   refine .ret (rB (rT (rB (rT (Fin.bI Tryz.results233 rfl ?_)))))
   exact ⟨false,rfl,⟨fun h=>(by cases h),fun h=>(h k (by omega) hc16).elim⟩,hs⟩
  ·refine .skip ?_
   refine nB (nT ?_)
   exact .mk ⟨rfl,fun i hi=>by
    by_cases e:i=k
    ·subst e;exact hc16
    ·exact h0 i (by omega),hs⟩
 ·rintro fr w ⟨rfl,h0,hs⟩
  refine nT ?_
  refine .ai (.z zg (.nil ?_))
  refine .ret (Fin.bI Tryz.results233 rfl ?_)
  exact ⟨true,rfl,⟨fun _ i hi=>h0 i (by omega),fun _=>rfl⟩,hs⟩
theorem pB{H:bn}{w:World}{σ:List Ent}{v:Value}{ws:List Int}{n:Nat}(hs:St H w σ)(hr:RI H v ws)(hl:ws.length=n+1)(hn:n≤1000)(hz:bB ws (n+1)≤FF):
  Cl Tryz.prog 291 [v] w fun u w'=>∃b cap sp lf,u= .slice (some ⟨b,0,none⟩) (n+1) cap∧lf.length=n+1∧(∀v<n+1,gi lf v=mT ws (n+1) v)∧St H w' (.blk b (Is lf++sp)::σ):=by
 obtain ⟨a,c,rfl⟩:=RI.shape hr
 have hFF:FF=3600000000000:=rfl
 refine Cl.of Tryz.func291 rfl Tryz.ntmps291 (by simp) (aj (k:=0) rfl (bh)) ?_
 refine .ai (.z zg (.nil (.ai ?_)))
 refine .o (.buildSlice (cells:=[]) hs iD rfl rfl ?_);intro b6 w hs
 refine .z zm ?_
 refine .o (.append (xs:=[]) hs bP rfl rfl (.full (len:=0) rfl) (.ints hr) (fL ws) (fun l' h=>by simp at h;obtain rfl:l'=0:=(by omega);omega) ?_);intro v8 en8 w hO hs
 rw [List.nil_append] at hO
 rcases hO with ⟨_,_,h0,_⟩|⟨b8,l8,c8,sp,rfl,rfl,h5,h6,h7⟩
 ·exfalso
  have h1:ws.length=0:=by simpa using congrArg List.length h0
  omega
 obtain rfl:l8=n+1:=by simp at h5;omega
 refine .z zg (.nil (.ai (.z zm ?_)))
 refine .q hs (dF (k:=0) rfl rfl aa ae rfl (by omega)) ?_
 refine .o (.store hs rfl rfl ae ?_ (by repeat constructor) (by simp;omega) (yJ (by omega) 0 sp));intro w hs
 refine .nil (.seq (.ai (.z zm ?_)))
 refine .q hs (nh (k:=1) rfl rfl aa ae rfl (by omega)) ?_
 have hT:=RI.tail hr (k:=1) (by omega)
 have hTl:(ws.drop 1).length=n:=by rw [List.length_drop];omega
 refine .z (cM aa) (.z zm (.nil ?_))
 refine .for (N:=n) (J:=fun k fr w=>fr=[(12,.slice (if c=1 then a else a.map (·.add (1*1))) (ws.length - 1) (c - 1)),(3,.slice (some ⟨b8,0,none⟩) (n+1) c8)]∧∃lf,(lf.length=n+1∧gi lf 0= -jY ws k∧∀v,0<v→gi lf v=gi ws v)∧St H w (.blk b8 (Is lf++sp)::σ)) (by omega) ?_ ?_ ?_
 ·exact .mk ⟨rfl,_,⟨by simp [hl],by rw [dZ (by omega),if_pos rfl];rfl,fun v hv=>by rw [dZ (by omega),if_neg (by omega)]⟩,hs⟩ (hs:= .cq rfl rfl (.cq rfl (by omega) (by repeat (first|exact .nil rfl rfl|refine .cons rfl ?_))))
 ·rintro k fr w hk ⟨rfl,lf,⟨h8,h9,h10⟩,hs⟩
  have hx:=br (l:=ws.drop 1) (i:=k) (by omega)
  have e1:gi (ws.drop 1) k=gi ws (k+1):=by simp [gi,List.getD]
  have hb1:=qu ws k
  have hb2:=hZ ws (v:=k+1) (n:=n+1) (by omega)
  have hb3:=nE (f:=fun v=>max (gi ws v) (-gi ws v)) (fun v=>by omega) (k:=k+1) (n:=n+1) (by omega)
  change bB ws (k+1)≤bB ws (n+1) at hb3
  refine .block (.ai ?_)
  refine .ixY hs hT rfl rfl aa ae hx rfl ?_;intro b16 o16 hc16
  refine .q hs (aM rfl af hc16) ?_
  rw [e1]
  refine .z zg (.nil (.region (.z zm ?_)))
  refine .q hs (dF (k:=0) rfl rfl aa ae rfl (by omega)) ?_
  refine .q hs (dE rfl af (hv:=nA (br (l:=lf) (i:=0) (by omega)) sp)) ?_
  refine .z zm (.z gM ?_)
  refine .q hs (dF (k:=0) rfl rfl aa ae rfl (by omega)) ?_
  refine .o (.store hs rfl rfl ae ?_ (by repeat constructor) (by simp;omega) (yJ (by omega) _ sp));intro w hs
  refine .nil ?_
  refine nB (nT ?_)
  exact .mk ⟨rfl,_,⟨by simp [h8],by rw [dZ (by omega),if_pos rfl,h9];simp only [jY,a8];omega,fun v hv=>by rw [dZ (by omega),if_neg (by omega)];exact h10 v hv⟩,hs⟩
 ·rintro fr w ⟨rfl,lf,⟨h8,h9,h10⟩,hs⟩
  refine nT ?_
  refine .ai (.z zm (.z zg (.nil ?_)))
  refine .ret (Fin.bI Tryz.results291 rfl ?_)
  exact ⟨b8,c8,sp,lf,rfl,h8,fun v hv=>by
   cases v with
   |zero=>rw [h9,uX]
   |succ v=>rw [h10 _ (by omega),uY],hs⟩
theorem sQ{H:bn}{w:World}{σ:List Ent}{vm:Value}{Ms Fs:List (List Int)}{n bF:Nat}{bs:List Nat}(hs:St H w σ)(hM:RT H vm Ms)(hqM:Sq n Ms)(hn:n≤1000)(hF0:Mem σ (.blk bF (bs.map (ptr n))))(hbl:bs.length=n)(hqF:Sq n Fs)(hF:∀i,i<n→Mem σ (.blk (gb bs i) (Is (gr Fs i)))):
  Cl Tryz.prog 293 [vm,.slice (some ⟨bF,0,none⟩) n n] w fun v w'=>v=I (IntKind.i64.wrap (a8 (fun a=>a8 (fun b=>cell (gt Ms) (gt Fs) a b) n) n))∧St H w' σ:=by
 obtain ⟨am,cm,rfl⟩:=hM.shape
 have hml:=hqM.1
 have hfl:=hqF.1
 refine Cl.of Tryz.func293 rfl Tryz.ntmps293 (by simp) (aj (k:=0) rfl (aj (k:=1) rfl (bh))) ?_
 refine .ai (.z zg (.nil (.ai (.z zg (.nil (.seq (.ai (.z zm (.z (cM an) ?_)))))))))
 refine .z zm (.nil ?_)
 refine .for (N:=n) (J:=fun k fr w=>fr=[(5,I (IntKind.i64.wrap (a8 (fun a=>a8 (fun b=>cell (gt Ms) (gt Fs) a b) n) k))),(0,.slice am Ms.length cm),(1,.slice (some ⟨bF,0,none⟩) n n)]∧St H w σ) (by omega) ?_ ?_ ?_
 ·exact .mk ⟨rfl,hs⟩ (hs:= .cq rfl rfl (.cq rfl (by omega) (.cq rfl (by simp [a8,nK]) (by repeat (first|exact .nil rfl rfl|refine .cons rfl ?_)))))
 ·rintro i fr w hi ⟨rfl,hs⟩
  have hMi:i<Ms.length:=by omega
  refine .block (.ai (.z zm (.z zg (.nil (.ai (.z zm (.z (cM an) (.z zm (.nil ?_)))))))))
  refine .for (N:=n) (J:=fun k fr w=>fr=[(5,I (IntKind.i64.wrap (a8 (fun a=>a8 (fun b=>cell (gt Ms) (gt Fs) a b) n) i+a8 (fun b=>cell (gt Ms) (gt Fs) i b) k))),(6,I (i:Int)),(10,I (i:Int)),(9,I (n:Int)),(0,.slice am Ms.length cm),(1,.slice (some ⟨bF,0,none⟩) n n)]∧St H w σ) (by omega) ?_ ?_ ?_
  ·exact .mk ⟨rfl,hs⟩ (hs:= .cq rfl rfl (.cq rfl (by omega) (.cq rfl (by simp [a8]) (by repeat (first|exact .nil rfl rfl|refine .cons rfl ?_)))))
  ·rintro k fr w hk ⟨rfl,hs⟩
   have hrM:(gr Ms i).length=n:=hqM.2 i hi
   have hFi:=hF i hi
   have hgi:∀z,0<gt Fs i k→z=gt Fs i k*gt Ms i k→z=cell (gt Ms) (gt Fs) i k:=fun z h e=>by unfold cell;rw [if_pos h,e]
   refine .block (.ai (.z zm (.z zg (.nil (.ai (.z zm (.z zm ?_)))))))
   refine .q hs (dF (k:=i) rfl rfl an aA rfl hi) ?_
   refine .q hs (dE rfl ak (hm:=hF0) (hv:=cQ (by omega))) ?_
   refine .z zm ?_
   refine .q hs (dF (k:=k) rfl rfl aa ae rfl hk) ?_
   refine .q hs (dE rfl af (hm:=hF i hi) (hv:=fl hqF hi hk)) ?_
   refine .z lk (.nil ?_)
   refine (.bJ rfl (fun hc25=>?_) (fun hc25=>?_))
   ·refine .draw mix rfl hs ?_;intro w hs
    refine .z 0 rfl zm ?_;refine .z 1 rfl zm ?_;refine .z 2 rfl zm ?_
    refine .p (i:=3) rfl (by kernel_rfl) .none (dF (k:=i) rfl rfl an aA rfl hi) ?_
    refine .load (i:=4) hs rfl (by kernel_rfl) .none rfl ak ?_ hF0 (cQ (by omega))
    refine .z 5 rfl zm ?_
    refine .p (i:=6) rfl (by kernel_rfl) .none (dF (k:=k) rfl rfl aa ae rfl hk) ?_
    refine .load (i:=7) hs rfl (by kernel_rfl) .none rfl af ?_ (hF i hi) (fl hqF hi hk)
    refine .z 8 rfl zm ?_;refine .z 9 rfl zm ?_
    refine .ixT (i:=10) hs rfl (by kernel_rfl) .none hM rfl rfl an aA hMi rfl ?_;intro b36 o36 a36 c36 hc36 hR36
    refine .r (i:=11) hs rfl (by kernel_rfl) .none (aM rfl ak hc36) ?_
    refine .z 12 rfl zm ?_
    refine .ixX (enc:=fun x=>[I x]) (i:=13) hs rfl (by kernel_rfl) .none hR36 rfl rfl aa ae (br (l:=gr Ms i) (i:=k) (by omega)) rfl ?_;intro b39 o39 hc39;replace hc39:=bG.one hc39
    refine .r (i:=14) hs rfl (by kernel_rfl) .none (aM rfl af hc39) ?_
    refine .p (i:=15) rfl (by kernel_rfl) .none (Cq rfl rfl) ?_
    refine .p (i:=16) rfl (by kernel_rfl) .none (AQ rfl rfl) ?_
    refine .z 17 rfl zg ?_
    refine .done (by kernel_rfl) hs ?_ (hp:=by repeat (first|exact .nil|refine .cons (by first|exact HLe.bot _|exact HLe.refl _|assumption) (by first|exact .nil|(refine Sub.one ?_;repeat (first|exact .here|assumption|exact Mem.row (by omega) (by omega)|refine .there ?_|refine Mem.fS ?_))) ?_))
    refine nB (nT ?_)
    exact .mk ⟨rfl,hs⟩ (hs:= .cq rfl (by omega) (.cq rfl rfl (.cq rfl (by
     rw [xe,tc,show gt Fs i k*gi (gr Ms i) k=cell (gt Ms) (gt Fs) i k from hgi _ hc25 rfl]
     simp only [a8]
     congr 1;omega) (by repeat (first|exact .nil rfl rfl|refine .cons rfl ?_)))))
   ·refine .skip ?_
    refine nB (nT ?_)
    exact .mk ⟨rfl,hs⟩ (hs:= .cq rfl (by omega) (.cq rfl rfl (.cq rfl (by
     have:cell (gt Ms) (gt Fs) i k=0:=by unfold cell;rw [if_neg hc25]
     simp only [a8,this]
     congr 1;omega) (by repeat (first|exact .nil rfl rfl|refine .cons rfl ?_)))))
  ·rintro fr w ⟨rfl,hs⟩
   refine nB (nT ?_)
   exact .mk ⟨rfl,hs⟩ (hs:= .cq rfl (by omega) (.cq rfl rfl (.cq rfl (by simp only [a8]) (by repeat (first|exact .nil rfl rfl|refine .cons rfl ?_)))))
 ·rintro fr w ⟨rfl,hs⟩
  refine nT ?_
  refine .ai (.z zm (.z zg (.nil ?_)))
  refine .ret (Fin.bI Tryz.results293 rfl ?_)
  exact ⟨rfl,hs⟩
set_option maxHeartbeats 8000000 in
theorem rM{H:bn}{w:World}{σ:List Ent}{vm:Value}{Ms Fs:List (List Int)}{n bF bN capN:Nat}{bs:List Nat}{spN:List Value}{need ts:List Int}{es:List Arc}{D:Nat→Int}(hs:St H w σ)(hM:RT H vm Ms)(hqM:Sq n Ms)
  (hF0:Mem σ (.blk bF (bs.map (ptr n)))) (hbl:bs.length=n) (hqF:Sq n Fs) (hF:∀i,i<n→Mem σ (.blk (gb bs i) (Is (gr Fs i)))) (hN:Mem σ (.blk bN (Is need++spN))) (hNl:need.length=n)
  (hT:Tab n (gt Ms) es) (hC:tB n es ts (gt Fs)) (hg:VG n (cT es ts) D):
  Cl Tryz.prog 292 [vm,.slice (some ⟨bF,0,none⟩) n n,.slice (some ⟨bN,0,none⟩) n capN] w fun u w'=>∃H1 vd vb s,HLe H H1∧u= .tuple #[vd,vb]∧RI H1 vd s.cost∧RS H1 2 vb (s.by_.map (lE es))∧kC n (cT es ts) (fun v=>gi need v<0) D (fun _=>True) false s∧St H1 w' σ:=by
 obtain ⟨am,cm,rfl⟩:=hM.shape
 obtain rfl:n=Ms.length:=hqM.1.symm
 have hfl:=hqF.1
 have hn0:=hg.n0
 have hfree:free=1000000000:=rfl
 have hn65:=hg.n1
 have hD0:=hg.d0
 have hD1:=hg.d1
 have harc:∀x∈es,-1400000≤x.c∧x.c≤1400000:=fun x hx=>by have:=hg.ok x ((lH hT hC).2 (.inl hx));omega
 refine Cl.of Tryz.func292 rfl Tryz.ntmps292 (by simp) (aj (k:=0) rfl (aj (k:=1) rfl (aj (k:=2) rfl (bh)))) ?_
 refine .ai (.z zg (.z zg (.nil (.ai (.z zm (.z (cM an) ?_))))))
 refine .o (.oT Ms.length hs rfl rfl aa dq rfl ae bH (by omega) ?_);intro b16 w hs
 refine .z zg (.nil (.ai (.z zm (.z (cM an) ?_))))
 refine .o (.makeS Ms.length hs rfl rfl cI Tryz.typeInfo315 rfl cH ql (by omega) ?_);intro b19 w hs
 refine .z zg (.nil (.seq (.ai (.z zm (.z (cM aa) (.z zm (.nil ?_)))))))
 refine .for (N:=Ms.length) (J:=fun k fr w=>fr=[(8,.slice (some ⟨b16,0,none⟩) Ms.length Ms.length),(9,.slice (some ⟨b19,0,none⟩) Ms.length Ms.length),(0,.slice am Ms.length cm),(1,.slice (some ⟨bF,0,none⟩) Ms.length Ms.length),(2,.slice (some ⟨bN,0,none⟩) Ms.length capN)]∧∃C,(C.length=Ms.length∧∀v<k,gi C v=if gi need v<0 then 0 else free)∧St H w (.blk b19 (List.replicate k [I (-1),Value.bool false]++List.replicate (Ms.length - k) [I 0,Value.bool false]).flatten:: .blk b16 (Is C)::σ)) (by omega) ?_ ?_ ?_
 ·exact .mk ⟨rfl,_,⟨by simp,fun v hv=>by omega⟩,hs⟩
 ·rintro k fr w hk ⟨rfl,C,⟨hC1,hC2⟩,hs⟩
  have hstp:=Ch Ms.length hk [I (-1),Value.bool false] rfl [I 0,Value.bool false] rfl
  refine .block (.ai (.z zm (.z zg (.nil (.ai (.z zm (.z zm ?_)))))))
  first|(refine .ixv hs aa ae ?_;intro b27 o27 hc27)|refine .z (zix aa ae) ?_
  refine .o (.store hs rfl rfl ae ?_);intro w hs
  refine .nil (.ai (.z zm (.z zm (.z (zbd [_,_] gG) ?_))))
  first|(refine .ixw hs cI cH ?_;intro b31 o31 hc31)|refine .z (nR cI cH) ?_
  refine .o (.aS (vs:=[I (-1),Value.bool false]) hs rfl rfl cH ?_ (by repeat constructor) (by simp;omega) hstp);intro w hs
  refine .nil (.ai (.z zm (.z zm ?_)))
  first|(refine .ixv hs aa ae ?_;intro b34 o34 hc34)|refine .z (zix aa ae) ?_
  refine .q hs (dE rfl af (hm:= .there (.there hN)) (hv:=nA (br (l:=need) (i:=k) (by omega)) spN)) ?_
  refine .z fN (.nil ?_)
  refine (.bJ rfl (fun hc36=>?_) (fun hc36=>?_))
  ·refine .region (.z zm (.z zm ?_))
   first|(refine .ixv hs aa ae ?_;intro b39 o39 hc39)|refine .z (zix aa ae) ?_
   refine .o (.store hs rfl rfl ae ?_ (by repeat constructor) (tn (by rw [List.length_set];omega)) (lT _ _ _));intro w hs
   refine .nil ?_
   refine nB (nT ?_)
   exact .mk ⟨rfl,_,⟨by simp [hC1],fun v hv=>by
    rw [dZ (by rw [List.length_set];omega)]
    by_cases e:v=k
    ·subst e;rw [if_pos rfl,if_pos hc36]
    ·rw [if_neg e,dZ (by omega),if_neg e];exact hC2 v (by omega)⟩,hs⟩
  ·refine .skip ?_
   refine nB (nT ?_)
   exact .mk ⟨rfl,_,⟨by simp [hC1],fun v hv=>by
    rw [dZ (by omega)]
    by_cases e:v=k
    ·subst e;rw [if_pos rfl,if_neg hc36]
    ·rw [if_neg e];exact hC2 v (by omega)⟩,hs⟩
 ·rintro fr w ⟨rfl,C,⟨hC1,hC2⟩,hs⟩
  rw [Nat.sub_self,List.replicate_zero,List.append_nil,z7 es] at hs
  have hI:C3 Ms.length need Ms.length ⟨C,List.replicate Ms.length ⟨0,0,0,-1⟩⟩:=⟨hC1,by simp,hC2,fun v hv=>iB _ _ hv⟩
  have hV0:=hI.inv (Dn:=fun _=>True) hg
  refine nT ?_
  refine .seq (.ai (.z zg (.nil (.block ?_))))
  refine .loop (fun p:Bool×BS=>⟨160,[],[(11,.bool p.1),(8,.slice (some ⟨b16,0,none⟩) Ms.length Ms.length),(9,.slice (some ⟨b19,0,none⟩) Ms.length Ms.length),(0,.slice am Ms.length cm),(1,.slice (some ⟨bF,0,none⟩) Ms.length Ms.length),(2,.slice (some ⟨bN,0,none⟩) Ms.length capN)]⟩) (fun p w=>kC Ms.length (cT es ts) (fun v=>gi need v<0) D (fun _=>True) p.1 p.2∧St H w (.blk b19 (iF es p.2.by_):: .blk b16 (Is p.2.cost)::σ)) (fun p=>2*WMv Ms.length D p.2+(if p.1 then 1 else 0)) (true,⟨C,List.replicate Ms.length ⟨0,0,0,-1⟩⟩) (by repeat (first|exact .nil rfl rfl|refine .cons rfl ?_)) ⟨hV0,hs⟩ ?_
  rintro ⟨ag,s⟩ w ⟨hV,hs⟩
  dsimp only at hV hs ⊢
  refine .seq (.ai (.z zm (.nil ?_)))
  refine (.cond rfl (fun hc41=>?_) (fun hc41=>?_))
  ·refine .skip ?_
   refine nT ?_
   refine .block (.ai (.z zg (.nil (.ai (.z zm (.z (cM an) (.z zm (.nil ?_))))))))
   refine .for (N:=Ms.length) (J:=fun a fr w=>∃ag s',fr=[(11,.bool ag),(8,.slice (some ⟨b16,0,none⟩) Ms.length Ms.length),(9,.slice (some ⟨b19,0,none⟩) Ms.length Ms.length),(0,.slice am Ms.length cm),(1,.slice (some ⟨bF,0,none⟩) Ms.length Ms.length),(2,.slice (some ⟨bN,0,none⟩) Ms.length capN)]∧kC Ms.length (cT es ts) (fun v=>gi need v<0) D (wC a 0) ag s'∧(WMv Ms.length D s'≤WMv Ms.length D s∧(ag=true→WMv Ms.length D s'<WMv Ms.length D s))∧St H w (.blk b19 (iF es s'.by_):: .blk b16 (Is s'.cost)::σ)) (by omega) ?_ ?_ ?_
   ·exact .mk ⟨false,s,rfl,hV.next.zero,⟨Nat.le_refl _,fun h=>by cases h⟩,hs⟩
   ·rintro a fr w ha ⟨ag',s',rfl,hV',hW,hs⟩
    have hlc:=hV'.lc
    have htop:=hV'.top a ha
    refine .block (.ai (.z zm (.z zg (.nil (.seq (.ai (.z zm (.z zm ?_))))))))
    first|(refine .ixv hs aa ae ?_;intro b49 o49 hc49)|refine .z (zix aa ae) ?_
    first|refine .q hs (dE rfl af (hm:=by repeat (first|exact .here|assumption|exact Mem.row (by omega) (by omega)|refine .there ?_|refine Mem.fS ?_)) (hv:=by first|rfl|exact cQ (by omega)|exact fl (by assumption) (by omega) (by omega)|exact eI (by first|assumption|omega))) ?_|refine .q hs (aM rfl af (by assumption)) ?_
    refine .z fA (.nil ?_)
    refine (.bJ rfl (fun hc51=>?_) (fun hc51=>?_))
    ·refine .exit ?_
     refine xT (xB (nT ?_))
     exact .mk ⟨ag',s',rfl,hV'.far hc51,hW,hs⟩
    ·refine .skip ?_
     refine nT ?_
     refine .ai (.z zm (.z (cM an) (.z zm (.nil ?_))))
     refine .for (N:=Ms.length) (J:=fun b fr w=>∃ag s',fr=[(11,.bool ag),(12,I (a:Int)),(44,I (a:Int)),(43,I (Ms.length:Int)),(8,.slice (some ⟨b16,0,none⟩) Ms.length Ms.length),(9,.slice (some ⟨b19,0,none⟩) Ms.length Ms.length),(0,.slice am Ms.length cm),(1,.slice (some ⟨bF,0,none⟩) Ms.length Ms.length),(2,.slice (some ⟨bN,0,none⟩) Ms.length capN)]∧kC Ms.length (cT es ts) (fun v=>gi need v<0) D (wC a b) ag s'∧(WMv Ms.length D s'≤WMv Ms.length D s∧(ag=true→WMv Ms.length D s'<WMv Ms.length D s))∧gi s'.cost a<free∧St H w (.blk b19 (iF es s'.by_):: .blk b16 (Is s'.cost)::σ)) (by omega) ?_ ?_ ?_
     ·exact .mk ⟨ag',s',rfl,hV',hW,by simp only [free];omega,hs⟩
     ·clear hV' hlc htop hW
      rintro b fr w hb ⟨ag',s',rfl,hV',hW,hfa,hs⟩
      have hlc:=hV'.lc
      have hlow:=hV'.low hg ha hfa
      have hlo:=hV'.lo a ha
      have hDa:=hD1 a ha
      have htop:=hV'.top b hb
      have hrowA:(gr Ms a).length=Ms.length:=hqM.2 a ha
      have hrowB:(gr Ms b).length=Ms.length:=hqM.2 b hb
      have hFb:=hF b hb
      refine .block (.ai (.z zm (.z zg (.nil ?_))))
      refine .cut (fun fs w=>∃ag s',kJ fs ⟨160,[],[(11,.bool ag),(13,I (b:Int)),(54,I (b:Int)),(53,I (Ms.length:Int)),(12,I (a:Int)),(44,I (a:Int)),(43,I (Ms.length:Int)),(8,.slice (some ⟨b16,0,none⟩) Ms.length Ms.length),(9,.slice (some ⟨b19,0,none⟩) Ms.length Ms.length),(0,.slice am Ms.length cm),(1,.slice (some ⟨bF,0,none⟩) Ms.length Ms.length),(2,.slice (some ⟨bN,0,none⟩) Ms.length capN)]⟩∧kC Ms.length (cT es ts) (fun v=>gi need v<0) D (Bw es a b) ag s'∧(WMv Ms.length D s'≤WMv Ms.length D s∧(ag=true→WMv Ms.length D s'<WMv Ms.length D s))∧gi s'.cost a<free∧St H w (.blk b19 (iF es s'.by_):: .blk b16 (Is s'.cost)::σ)) ?_ ?_
      ·refine .cut (fun fs w=>∃p,kJ fs ⟨160,[],[(88,.bool p),(11,.bool ag'),(13,I (b:Int)),(54,I (b:Int)),(53,I (Ms.length:Int)),(12,I (a:Int)),(44,I (a:Int)),(43,I (Ms.length:Int)),(8,.slice (some ⟨b16,0,none⟩) Ms.length Ms.length),(9,.slice (some ⟨b19,0,none⟩) Ms.length Ms.length),(0,.slice am Ms.length cm),(1,.slice (some ⟨bF,0,none⟩) Ms.length Ms.length),(2,.slice (some ⟨bN,0,none⟩) Ms.length capN)]⟩∧(p=true→a≠b∧gt Ms a b≠free∧gi s'.cost a+gt Ms a b<gi s'.cost b)∧(p=false→a=b∨gt Ms a b=free∨¬gi s'.cost a+gt Ms a b<gi s'.cost b)∧St H w (.blk b19 (iF es s'.by_):: .blk b16 (Is s'.cost)::σ)) ?_ ?_
       ·refine .draw mix rfl hs ?_;intro w hs
        refine .z 0 rfl zm ?_;refine .z 1 rfl zm ?_;refine .z 2 rfl iA ?_;refine .z 3 rfl zm ?_
        refine .yu (t':=60) rfl (fun hb60=>?_) (fun hb60=>?_)
        ·refine .z 4 rfl zm ?_;refine .z 5 rfl zm ?_
         refine .ixT (i:=6) hs rfl (by kernel_rfl) (.some rfl rfl) hM rfl rfl an aA ha rfl ?_;intro b63 o63 a63 c63 hc63 hR63
         refine .r (i:=7) hs rfl (by kernel_rfl) (.some rfl rfl) (aM rfl ak hc63) ?_
         refine .z 8 rfl zm ?_
         refine .ixX (enc:=fun x=>[I x]) (i:=9) hs rfl (by kernel_rfl) (.some rfl rfl) hR63 rfl rfl aa ae (br (l:=_) (i:=b) (by omega)) rfl ?_;intro b66 o66 hc66;replace hc66:=bG.one hc66
         refine .r (i:=10) hs rfl (by kernel_rfl) (.some rfl rfl) (aM rfl af hc66) ?_
         refine .z 11 rfl iA ?_;refine .z 12 rfl zpT ?_;refine .z 13 rfl zm ?_
         refine .yu (t':=70) rfl (fun hb70=>?_) (fun hb70=>?_)
         ·refine .z 14 rfl zm ?_;refine .z 15 rfl zm ?_
          have hfin:gt Ms a b≠free:=hb70
          have hMb: -1400000≤gi (gr Ms a) b∧gi (gr Ms a) b≤1400000:=by
           obtain ⟨x,hx,e1,e2⟩:=hT.all a b ha hb (fun e=>hb60 (by rw [e])) hfin
           have h1:=harc x hx
           have h2:=(hT.ok x hx).2.2.2.1
           rw [e1,e2] at h2
           change gi (gr Ms a) b=x.c at h2
           omega
          first|(refine .ixv 16 rfl hs aa ae ?_;intro b73 o73 hc73)|refine .z 16 rfl (zix aa ae) ?_
          first|refine .load (i:=17) hs rfl (by kernel_rfl) (.some rfl rfl) rfl af ?_ (by repeat (first|exact .here|assumption|exact Mem.row (by omega) (by omega)|refine .there ?_|refine Mem.fS ?_)) (by first|rfl|exact cQ (by omega)|exact fl (by assumption) (by omega) (by omega)|exact eI (by first|assumption|omega))|refine .r (i:=17) hs rfl (by kernel_rfl) (.some rfl rfl) (aM rfl af (by assumption)) ?_
          refine .z 18 rfl zm ?_;refine .z 19 rfl zm ?_
          refine .ixT (i:=20) hs rfl (by kernel_rfl) (.some rfl rfl) hM rfl rfl an aA ha rfl ?_;intro b77 o77 a77 c77 hc77 hR77
          refine .r (i:=21) hs rfl (by kernel_rfl) (.some rfl rfl) (aM rfl ak hc77) ?_
          refine .z 22 rfl zm ?_
          refine .ixX (enc:=fun x=>[I x]) (i:=23) hs rfl (by kernel_rfl) (.some rfl rfl) hR77 rfl rfl aa ae (br (l:=_) (i:=b) (by omega)) rfl ?_;intro b80 o80 hc80;replace hc80:=bG.one hc80
          refine .r (i:=24) hs rfl (by kernel_rfl) (.some rfl rfl) (aM rfl af hc80) ?_
          refine .z 25 rfl cA ?_;refine .z 26 rfl zm ?_;refine .z 27 rfl zm ?_
          first|(refine .ixv 28 rfl hs aa ae ?_;intro b85 o85 hc85)|refine .z 28 rfl (zix aa ae) ?_
          first|refine .load (i:=29) hs rfl (by kernel_rfl) (.some rfl rfl) rfl af ?_ (by repeat (first|exact .here|assumption|exact Mem.row (by omega) (by omega)|refine .there ?_|refine Mem.fS ?_)) (by first|rfl|exact cQ (by omega)|exact fl (by assumption) (by omega) (by omega)|exact eI (by first|assumption|omega))|refine .r (i:=29) hs rfl (by kernel_rfl) (.some rfl rfl) (aM rfl af (by assumption)) ?_
          refine .z 30 rfl fN ?_;refine .z 31 rfl zpT ?_
          refine .done (by kernel_rfl) hs ?_ (hp:=by repeat (first|exact .nil|refine .cons (by first|exact HLe.bot _|exact HLe.refl _|assumption) (by first|exact .nil|(refine Sub.one ?_;repeat (first|exact .here|assumption|exact Mem.row (by omega) (by omega)|refine .there ?_|refine Mem.fS ?_))) ?_))
          exact nT ⟨_,by repeat (first|exact .nil rfl rfl|refine .cons rfl ?_),by
           intro hp
           first
            |(cases hp;done)
            |exact ⟨fun e=>hb60 (by rw [e]),hb70,of_decide_eq_true hp⟩,by
           intro hp
           first
            |(cases hp;done)
            |exact .inl (by omega)
            |exact .inr (.inl hb70)
            |exact .inr (.inr (of_decide_eq_false hp)),hs⟩
         ·refine .qF (i:=14) rfl (by kernel_rfl) rfl rfl ?_
          refine .qF (i:=15) rfl (by kernel_rfl) rfl rfl ?_
          refine .qF (i:=16) rfl (by kernel_rfl) rfl rfl ?_
          refine .qF (i:=17) rfl (by kernel_rfl) rfl rfl ?_
          refine .qF (i:=18) rfl (by kernel_rfl) rfl rfl ?_
          refine .qF (i:=19) rfl (by kernel_rfl) rfl rfl ?_
          refine .qF (i:=20) rfl (by kernel_rfl) rfl rfl ?_
          refine .qF (i:=21) rfl (by kernel_rfl) rfl rfl ?_
          refine .qF (i:=22) rfl (by kernel_rfl) rfl rfl ?_
          refine .qF (i:=23) rfl (by kernel_rfl) rfl rfl ?_
          refine .qF (i:=24) rfl (by kernel_rfl) rfl rfl ?_
          refine .qF (i:=25) rfl (by kernel_rfl) rfl rfl ?_
          refine .qF (i:=26) rfl (by kernel_rfl) rfl rfl ?_
          refine .qF (i:=27) rfl (by kernel_rfl) rfl rfl ?_
          refine .qF (i:=28) rfl (by kernel_rfl) rfl rfl ?_
          refine .qF (i:=29) rfl (by kernel_rfl) rfl rfl ?_
          refine .qF (i:=30) rfl (by kernel_rfl) rfl rfl ?_
          refine .z 31 rfl zpF ?_
          refine .done (by kernel_rfl) hs ?_ (hp:=by repeat (first|exact .nil|refine .cons (by first|exact HLe.bot _|exact HLe.refl _|assumption) (by first|exact .nil|(refine Sub.one ?_;repeat (first|exact .here|assumption|exact Mem.row (by omega) (by omega)|refine .there ?_|refine Mem.fS ?_))) ?_))
          exact nT ⟨_,by repeat (first|exact .nil rfl rfl|refine .cons rfl ?_),by
           intro hp
           first
            |(cases hp;done)
            |exact ⟨fun e=>hb60 (by rw [e]),hb70,of_decide_eq_true hp⟩,by
           intro hp
           first
            |(cases hp;done)
            |exact .inl (by omega)
            |exact .inr (.inl hb70)
            |exact .inr (.inr (of_decide_eq_false hp)),hs⟩
        ·refine .qF (i:=4) rfl (by kernel_rfl) rfl rfl ?_
         refine .qF (i:=5) rfl (by kernel_rfl) rfl rfl ?_
         refine .qF (i:=6) rfl (by kernel_rfl) rfl rfl ?_
         refine .qF (i:=7) rfl (by kernel_rfl) rfl rfl ?_
         refine .qF (i:=8) rfl (by kernel_rfl) rfl rfl ?_
         refine .qF (i:=9) rfl (by kernel_rfl) rfl rfl ?_
         refine .qF (i:=10) rfl (by kernel_rfl) rfl rfl ?_
         refine .qF (i:=11) rfl (by kernel_rfl) rfl rfl ?_
         refine .z 12 rfl zpF ?_;refine .z 13 rfl zm ?_
         refine .qF (i:=14) rfl (by kernel_rfl) rfl rfl ?_
         refine .qF (i:=15) rfl (by kernel_rfl) rfl rfl ?_
         refine .qF (i:=16) rfl (by kernel_rfl) rfl rfl ?_
         refine .qF (i:=17) rfl (by kernel_rfl) rfl rfl ?_
         refine .qF (i:=18) rfl (by kernel_rfl) rfl rfl ?_
         refine .qF (i:=19) rfl (by kernel_rfl) rfl rfl ?_
         refine .qF (i:=20) rfl (by kernel_rfl) rfl rfl ?_
         refine .qF (i:=21) rfl (by kernel_rfl) rfl rfl ?_
         refine .qF (i:=22) rfl (by kernel_rfl) rfl rfl ?_
         refine .qF (i:=23) rfl (by kernel_rfl) rfl rfl ?_
         refine .qF (i:=24) rfl (by kernel_rfl) rfl rfl ?_
         refine .qF (i:=25) rfl (by kernel_rfl) rfl rfl ?_
         refine .qF (i:=26) rfl (by kernel_rfl) rfl rfl ?_
         refine .qF (i:=27) rfl (by kernel_rfl) rfl rfl ?_
         refine .qF (i:=28) rfl (by kernel_rfl) rfl rfl ?_
         refine .qF (i:=29) rfl (by kernel_rfl) rfl rfl ?_
         refine .qF (i:=30) rfl (by kernel_rfl) rfl rfl ?_
         refine .z 31 rfl zpF ?_
         refine .done (by kernel_rfl) hs ?_ (hp:=by repeat (first|exact .nil|refine .cons (by first|exact HLe.bot _|exact HLe.refl _|assumption) (by first|exact .nil|(refine Sub.one ?_;repeat (first|exact .here|assumption|exact Mem.row (by omega) (by omega)|refine .there ?_|refine Mem.fS ?_))) ?_))
         exact nT ⟨_,by repeat (first|exact .nil rfl rfl|refine .cons rfl ?_),by
          intro hp
          first
           |(cases hp;done)
           |exact ⟨fun e=>hb60 (by rw [e]),hb70,of_decide_eq_true hp⟩,by
          intro hp
          first
           |(cases hp;done)
           |exact .inl (by omega)
           |exact .inr (.inl hb70)
           |exact .inr (.inr (of_decide_eq_false hp)),hs⟩
       ·rintro fs w ⟨p,hfs,hp1,hp2,hs⟩
        refine WE.sub ?_ hfs
        refine (.cond rfl (fun hc88=>?_) (fun hc88=>?_))
        ·refine .seq (.draw mix rfl hs ?_);intro w hs
         obtain ⟨hab,hfin,hlt⟩:=hp1 hc88
         obtain ⟨x,hx,e1,e2⟩:=hT.all a b ha hb hab hfin
         have e3:gi (gr Ms a) b=x.c:=by
          have h2:=(hT.ok x hx).2.2.2.1
          rw [e1,e2] at h2;exact h2
         have hxc:=harc x hx
         have hxl:¬x.l<0:=by have:=(hT.at hx).2;omega
         have hstp:lE es x=[I (a:Int),.bool false]:=by
          unfold lE
          rw [if_neg hxl,e1]
          simp [(hT.qL hx).1]
         have hset:oo (iF es s'.by_) (b*2) [I (a:Int),Value.bool false]=iF es (s'.by_.set b x):=by rw [←hstp];exact vj (by have:=hV'.lb;omega) x
         have hsr:s'.rlx x=⟨s'.cost.set b (gi s'.cost a+gi (gr Ms a) b),s'.by_.set b x⟩:=by unfold BS.rlx;rw [e1,e2,e3]
         have hcan:s'.can x:=by unfold BS.can;rw [e1,e2,←e3];exact hlt
         have hxm:x∈cT es ts:=(lH hT hC).2 (.inl hx)
         have hlb:=hV'.lb
         refine .z 0 rfl zm ?_;refine .z 1 rfl zm ?_;refine .z 2 rfl zm ?_;refine .z 3 rfl zm ?_
         first|(refine .ixv 4 rfl hs aa ae ?_;intro b93 o93 hc93)|refine .z 4 rfl (zix aa ae) ?_
         first|refine .load (i:=5) hs rfl (by kernel_rfl) .none rfl af ?_ (by repeat (first|exact .here|assumption|exact Mem.row (by omega) (by omega)|refine .there ?_|refine Mem.fS ?_)) (by first|rfl|exact cQ (by omega)|exact fl (by assumption) (by omega) (by omega)|exact eI (by first|assumption|omega))|refine .r (i:=5) hs rfl (by kernel_rfl) .none (aM rfl af (by assumption)) ?_
         refine .z 6 rfl zm ?_;refine .z 7 rfl zm ?_
         refine .ixT (i:=8) hs rfl (by kernel_rfl) .none hM rfl rfl an aA ha rfl ?_;intro b97 o97 a97 c97 hc97 hR97
         refine .r (i:=9) hs rfl (by kernel_rfl) .none (aM rfl ak hc97) ?_
         refine .z 10 rfl zm ?_
         refine .ixX (enc:=fun x=>[I x]) (i:=11) hs rfl (by kernel_rfl) .none hR97 rfl rfl aa ae (br (l:=_) (i:=b) (by omega)) rfl ?_;intro b100 o100 hc100;replace hc100:=bG.one hc100
         refine .r (i:=12) hs rfl (by kernel_rfl) .none (aM rfl af hc100) ?_
         refine .z 13 rfl cA ?_
         first|(refine .ixv 14 rfl hs aa ae ?_;intro b103 o103 hc103)|refine .z 14 rfl (zix aa ae) ?_
         refine .e1 (i:=15) (by kernel_rfl) rfl rfl .none hs ?_ (hp:=by repeat (first|exact .nil|refine .cons (by first|exact HLe.bot _|exact HLe.refl _|assumption) (by first|exact .nil|(refine Sub.one ?_;repeat (first|exact .here|assumption|exact Mem.row (by omega) (by omega)|refine .there ?_|refine Mem.fS ?_))) ?_))
         refine .store hs rfl rfl ae ?_;intro w hs
         refine .go ?_
         refine .done (by kernel_rfl) hs ?_ (hp:=by repeat (first|exact .nil|refine .cons (by first|exact HLe.bot _|exact HLe.refl _|assumption) (by first|exact .nil|(refine Sub.one ?_;repeat (first|exact .here|assumption|exact Mem.row (by omega) (by omega)|refine .there ?_|refine Mem.fS ?_))) ?_))
         refine .ai (.z zm (.z zm (.z zm (.z (zbd [_,_] gG) ?_))))
         first|(refine .ixw hs cI cH ?_;intro b108 o108 hc108)|refine .z (nR cI cH) ?_
         refine .o (.aS (vs:=[I (a:Int),Value.bool false]) hs rfl rfl cH ?_ (by repeat constructor) (by rw [mn];simp<;>omega) hset);intro w hs
         refine .nil (.region (.z zg (.nil ?_)))
         refine nT ?_
         have hR:=hV'.ub (Dn':=Bw es a b) hg hxm (by rw [e1];exact hfa) hcan
         have hL:=hV'.less hg hxm (by rw [e1];exact hfa) hcan
         rw [hsr] at hR hL
         exact ⟨true,_,by repeat (first|exact .nil rfl rfl|refine .cons rfl ?_),hR,⟨by omega,fun _=>by omega⟩,by dsimp only;rw [dZ (by omega),if_neg hab];exact hfa,hs⟩
        ·refine .skip ?_
         refine nT ?_
         exact ⟨ag',s',by repeat (first|exact .nil rfl rfl|refine .cons rfl ?_),hV'.noF (fun x hx e1 e2 hc=>by
          obtain ⟨b1,b2,b3,b4,b5⟩:=hT.ok x hx
          rw [e1,e2] at b4
          rcases hp2 hc88 with h|h|h
          ·exact b3 (by rw [e1,e2,h])
          ·exact b5 (by rw [←b4,h])
          ·exact h (by rw [b4];exact hc.2)),hW,hfa,hs⟩
      ·clear hV' hW hlc hlow hlo htop hfa
       rintro fs w ⟨ag',s',hfs,hV',hW,hfa,hs⟩
       refine WE.sub ?_ hfs
       have hlc:=hV'.lc
       have hlow:=hV'.low hg ha hfa
       have hlo:=hV'.lo a ha
       have htop:=hV'.top b hb
       refine .cut (fun fs w=>∃p,kJ fs ⟨160,[],[(135,.bool p),(11,.bool ag'),(13,I (b:Int)),(54,I (b:Int)),(53,I (Ms.length:Int)),(12,I (a:Int)),(44,I (a:Int)),(43,I (Ms.length:Int)),(8,.slice (some ⟨b16,0,none⟩) Ms.length Ms.length),(9,.slice (some ⟨b19,0,none⟩) Ms.length Ms.length),(0,.slice am Ms.length cm),(1,.slice (some ⟨bF,0,none⟩) Ms.length Ms.length),(2,.slice (some ⟨bN,0,none⟩) Ms.length capN)]⟩∧(p=true→0<gt Fs b a∧gi s'.cost a - gt Ms b a<gi s'.cost b)∧(p=false→¬0<gt Fs b a∨¬gi s'.cost a - gt Ms b a<gi s'.cost b)∧St H w (.blk b19 (iF es s'.by_):: .blk b16 (Is s'.cost)::σ)) ?_ ?_
       ·refine .draw mix rfl hs ?_;intro w hs
        refine .z 0 rfl zm ?_;refine .z 1 rfl zm ?_
        refine .p (i:=2) rfl (by kernel_rfl) .none (dF (k:=b) rfl rfl an aA rfl hb) ?_
        refine .load (i:=3) hs rfl (by kernel_rfl) .none rfl ak ?_ (.there (.there hF0)) (cQ (by omega))
        refine .z 4 rfl zm ?_
        refine .p (i:=5) rfl (by kernel_rfl) .none (dF (k:=a) rfl rfl aa ae rfl ha) ?_
        refine .load (i:=6) hs rfl (by kernel_rfl) .none rfl af ?_ (.there (.there (hF b hb))) (fl hqF hb ha)
        refine .z 7 rfl lk ?_;refine .z 8 rfl zm ?_
        refine .iE (t':=117) rfl (fun hb117=>?_) (fun hb117=>?_)
        ·refine .z 9 rfl zm ?_;refine .z 10 rfl zm ?_
         have hMb: -1400000≤gi (gr Ms b) a∧gi (gr Ms b) a≤1400000:=by
          obtain ⟨x,hx,e1,e2⟩:=hC.pos hb ha hb117
          have h1:=harc x hx
          have h2:=(hT.ok x hx).2.2.2.1
          rw [e1,e2] at h2
          change gi (gr Ms b) a=x.c at h2
          omega
         first|(refine .ixv 11 rfl hs aa ae ?_;intro b120 o120 hc120)|refine .z 11 rfl (zix aa ae) ?_
         first|refine .load (i:=12) hs rfl (by kernel_rfl) (.some rfl rfl) rfl af ?_ (by repeat (first|exact .here|assumption|exact Mem.row (by omega) (by omega)|refine .there ?_|refine Mem.fS ?_)) (by first|rfl|exact cQ (by omega)|exact fl (by assumption) (by omega) (by omega)|exact eI (by first|assumption|omega))|refine .r (i:=12) hs rfl (by kernel_rfl) (.some rfl rfl) (aM rfl af (by assumption)) ?_
         refine .z 13 rfl zm ?_;refine .z 14 rfl zm ?_
         refine .ixT (i:=15) hs rfl (by kernel_rfl) (.some rfl rfl) hM rfl rfl an aA hb rfl ?_;intro b124 o124 a124 c124 hc124 hR124
         refine .r (i:=16) hs rfl (by kernel_rfl) (.some rfl rfl) (aM rfl ak hc124) ?_
         refine .z 17 rfl zm ?_
         refine .ixX (enc:=fun x=>[I x]) (i:=18) hs rfl (by kernel_rfl) (.some rfl rfl) hR124 rfl rfl aa ae (br (l:=_) (i:=a) (by omega)) rfl ?_;intro b127 o127 hc127;replace hc127:=bG.one hc127
         refine .r (i:=19) hs rfl (by kernel_rfl) (.some rfl rfl) (aM rfl af hc127) ?_
         refine .z 20 rfl gM ?_;refine .z 21 rfl zm ?_;refine .z 22 rfl zm ?_
         first|(refine .ixv 23 rfl hs aa ae ?_;intro b132 o132 hc132)|refine .z 23 rfl (zix aa ae) ?_
         first|refine .load (i:=24) hs rfl (by kernel_rfl) (.some rfl rfl) rfl af ?_ (by repeat (first|exact .here|assumption|exact Mem.row (by omega) (by omega)|refine .there ?_|refine Mem.fS ?_)) (by first|rfl|exact cQ (by omega)|exact fl (by assumption) (by omega) (by omega)|exact eI (by first|assumption|omega))|refine .r (i:=24) hs rfl (by kernel_rfl) (.some rfl rfl) (aM rfl af (by assumption)) ?_
         refine .z 25 rfl fN ?_;refine .z 26 rfl zpT ?_
         refine .done (by kernel_rfl) hs ?_ (hp:=by repeat (first|exact .nil|refine .cons (by first|exact HLe.bot _|exact HLe.refl _|assumption) (by first|exact .nil|(refine Sub.one ?_;repeat (first|exact .here|assumption|exact Mem.row (by omega) (by omega)|refine .there ?_|refine Mem.fS ?_))) ?_))
         exact nT ⟨_,by repeat (first|exact .nil rfl rfl|refine .cons rfl ?_),by
          intro hp
          first
           |(cases hp;done)
           |exact ⟨hb117,of_decide_eq_true hp⟩,by
          intro hp
          first
           |(cases hp;done)
           |exact .inl hb117
           |exact .inr (of_decide_eq_false hp),hs⟩
        ·refine .qF (i:=9) rfl (by kernel_rfl) rfl rfl ?_
         refine .qF (i:=10) rfl (by kernel_rfl) rfl rfl ?_
         refine .qF (i:=11) rfl (by kernel_rfl) rfl rfl ?_
         refine .qF (i:=12) rfl (by kernel_rfl) rfl rfl ?_
         refine .qF (i:=13) rfl (by kernel_rfl) rfl rfl ?_
         refine .qF (i:=14) rfl (by kernel_rfl) rfl rfl ?_
         refine .qF (i:=15) rfl (by kernel_rfl) rfl rfl ?_
         refine .qF (i:=16) rfl (by kernel_rfl) rfl rfl ?_
         refine .qF (i:=17) rfl (by kernel_rfl) rfl rfl ?_
         refine .qF (i:=18) rfl (by kernel_rfl) rfl rfl ?_
         refine .qF (i:=19) rfl (by kernel_rfl) rfl rfl ?_
         refine .qF (i:=20) rfl (by kernel_rfl) rfl rfl ?_
         refine .qF (i:=21) rfl (by kernel_rfl) rfl rfl ?_
         refine .qF (i:=22) rfl (by kernel_rfl) rfl rfl ?_
         refine .qF (i:=23) rfl (by kernel_rfl) rfl rfl ?_
         refine .qF (i:=24) rfl (by kernel_rfl) rfl rfl ?_
         refine .qF (i:=25) rfl (by kernel_rfl) rfl rfl ?_
         refine .z 26 rfl zpF ?_
         refine .done (by kernel_rfl) hs ?_ (hp:=by repeat (first|exact .nil|refine .cons (by first|exact HLe.bot _|exact HLe.refl _|assumption) (by first|exact .nil|(refine Sub.one ?_;repeat (first|exact .here|assumption|exact Mem.row (by omega) (by omega)|refine .there ?_|refine Mem.fS ?_))) ?_))
         exact nT ⟨_,by repeat (first|exact .nil rfl rfl|refine .cons rfl ?_),by
          intro hp
          first
           |(cases hp;done)
           |exact ⟨hb117,of_decide_eq_true hp⟩,by
          intro hp
          first
           |(cases hp;done)
           |exact .inl hb117
           |exact .inr (of_decide_eq_false hp),hs⟩
       ·rintro fs w ⟨p,hfs,hp1,hp2,hs⟩
        refine WE.sub ?_ hfs
        refine (.cond rfl (fun hc135=>?_) (fun hc135=>?_))
        ·refine .seq (.draw mix rfl hs ?_);intro w hs
         obtain ⟨hpos,hlt⟩:=hp1 hc135
         obtain ⟨x,hx,e1,e2⟩:=hC.pos hb ha hpos
         have e3:gi (gr Ms b) a=x.c:=by
          have h2:=(hT.ok x hx).2.2.2.1
          rw [e1,e2] at h2;exact h2
         have hxc:=harc x hx
         have hab:a≠b:=fun e=>(hT.ok x hx).2.2.1 (by rw [e1,e2,e])
         have hxl:¬x.back.l<0:=by have:=(hT.at hx).2;show ¬x.l<0;omega
         have e4:x.back.f=a:=e2
         have e5:x.back.t=b:=e1
         have hstp:lE es x.back=[I (a:Int),.bool true]:=by
          unfold lE
          rw [if_neg hxl,e4]
          simp [(hT.qL hx).2]
         have hset:oo (iF es s'.by_) (b*2) [I (a:Int),Value.bool true]=iF es (s'.by_.set b x.back):=by rw [←hstp];exact vj (by have:=hV'.lb;omega) x.back
         have hsr:s'.rlx x.back=⟨s'.cost.set b (gi s'.cost a - gi (gr Ms b) a),s'.by_.set b x.back⟩:=by
          unfold BS.rlx
          rw [e4,e5,e3];rfl
         have hcan:s'.can x.back:=by
          unfold BS.can
          rw [e4,e5]
          show gi s'.cost a+ -x.c<_
          rw [←e3]
          exact hlt
         have hxm:x.back∈cT es ts:=(lH hT hC).2 (.inr ⟨x,hx,by rw [e1,e2];exact hpos,rfl⟩)
         have hlb:=hV'.lb
         refine .z 0 rfl zm ?_;refine .z 1 rfl zm ?_;refine .z 2 rfl zm ?_;refine .z 3 rfl zm ?_
         first|(refine .ixv 4 rfl hs aa ae ?_;intro b140 o140 hc140)|refine .z 4 rfl (zix aa ae) ?_
         first|refine .load (i:=5) hs rfl (by kernel_rfl) .none rfl af ?_ (by repeat (first|exact .here|assumption|exact Mem.row (by omega) (by omega)|refine .there ?_|refine Mem.fS ?_)) (by first|rfl|exact cQ (by omega)|exact fl (by assumption) (by omega) (by omega)|exact eI (by first|assumption|omega))|refine .r (i:=5) hs rfl (by kernel_rfl) .none (aM rfl af (by assumption)) ?_
         refine .z 6 rfl zm ?_;refine .z 7 rfl zm ?_
         refine .ixT (i:=8) hs rfl (by kernel_rfl) .none hM rfl rfl an aA hb rfl ?_;intro b144 o144 a144 c144 hc144 hR144
         refine .r (i:=9) hs rfl (by kernel_rfl) .none (aM rfl ak hc144) ?_
         refine .z 10 rfl zm ?_
         refine .ixX (enc:=fun x=>[I x]) (i:=11) hs rfl (by kernel_rfl) .none hR144 rfl rfl aa ae (br (l:=_) (i:=a) (by omega)) rfl ?_;intro b147 o147 hc147;replace hc147:=bG.one hc147
         refine .r (i:=12) hs rfl (by kernel_rfl) .none (aM rfl af hc147) ?_
         refine .z 13 rfl gM ?_
         first|(refine .ixv 14 rfl hs aa ae ?_;intro b150 o150 hc150)|refine .z 14 rfl (zix aa ae) ?_
         refine .e1 (i:=15) (by kernel_rfl) rfl rfl .none hs ?_ (hp:=by repeat (first|exact .nil|refine .cons (by first|exact HLe.bot _|exact HLe.refl _|assumption) (by first|exact .nil|(refine Sub.one ?_;repeat (first|exact .here|assumption|exact Mem.row (by omega) (by omega)|refine .there ?_|refine Mem.fS ?_))) ?_))
         refine .store hs rfl rfl ae ?_;intro w hs
         refine .go ?_
         refine .done (by kernel_rfl) hs ?_ (hp:=by repeat (first|exact .nil|refine .cons (by first|exact HLe.bot _|exact HLe.refl _|assumption) (by first|exact .nil|(refine Sub.one ?_;repeat (first|exact .here|assumption|exact Mem.row (by omega) (by omega)|refine .there ?_|refine Mem.fS ?_))) ?_))
         refine .ai (.z zm (.z zm (.z zm (.z (zbd [_,_] gG) ?_))))
         first|(refine .ixw hs cI cH ?_;intro b155 o155 hc155)|refine .z (nR cI cH) ?_
         refine .o (.aS (vs:=[I (a:Int),Value.bool true]) hs rfl rfl cH ?_ (by repeat constructor) (by rw [mn];simp<;>omega) hset);intro w hs
         refine .nil (.region (.z zg (.nil ?_)))
         refine nB (nT ?_)
         have hR:=hV'.ub (Dn':=wC a (b+1)) hg hxm (by rw [e4];exact hfa) hcan
         have hL:=hV'.less hg hxm (by rw [e4];exact hfa) hcan
         rw [hsr] at hR hL
         exact .mk ⟨true,_,rfl,hR,⟨by omega,fun _=>by omega⟩,by dsimp only;rw [dZ (by omega),if_neg hab];exact hfa,hs⟩
        ·refine .skip ?_
         refine nB (nT ?_)
         exact .mk ⟨ag',s',rfl,hV'.noB hT hC (fun x hx e1 e2 hpos hc=>by
          have h2:=(hT.ok x hx).2.2.2.1
          rw [e1,e2] at h2
          rcases hp2 hc135 with h|h
          ·exact h hpos
          ·exact h (by rw [h2];exact hc.2)),hW,hfa,hs⟩
     ·rintro fr w ⟨ag',s',rfl,hV',hW,-,hs⟩
      refine nB (nT ?_)
      exact .mk ⟨ag',s',rfl,hV'.row hg,hW,hs⟩
   ·rintro fr w ⟨ag',s',rfl,hV',hW,hs⟩
    refine nB (nT ?_)
    exact ⟨(ag',s'),by repeat (first|exact .nil rfl rfl|refine .cons rfl ?_),⟨hV'.all hg,hs⟩,by
     subst hc41
     dsimp only
     cases ag' with
     |true=>have:=hW.2 rfl;simp only [if_true];omega
     |false=>have:=hW.1;simp;omega⟩
  ·refine .exit ?_
   refine xT (xT (xB (nT ?_)))
   refine .ai (.z zm (.z zm (.z zg (.z zg (.nil ?_)))))
   refine .ret (Fin.lg Tryz.results292 rfl rfl ?_)
   subst hc41
   obtain ⟨H2,g1,g2,hs⟩:=cu.cP (m:=2) (v:= .slice (some ⟨b19,0,none⟩) Ms.length Ms.length) (cs:=s.by_.map (lE es)) (en:= .blk b19 (iF es s.by_)) (.full (by show (iF es s.by_).length=_;rw [mn,hV.lb])) (fun c hc=>by simp only [List.mem_map] at hc;obtain ⟨x,_,rfl⟩:=hc;exact qZ es x) (by omega) (by rw [List.length_map,hV.lb];omega) hs .here
   obtain ⟨H3,g3,g4,hs⟩:=cu.df (v:= .slice (some ⟨b16,0,none⟩) Ms.length Ms.length) (xs:=s.cost) (.full (by simp [hV.lc])) (by rw [hV.lc];omega) hs .here
   exact ⟨H3,_,_,s,g1.trans g3,rfl,g4,RS.mono g2 g3,hV,hs⟩
set_option maxHeartbeats 8000000 in
theorem rQ{H:bn}{w:World}{σ:List Ent}{vm vw:Value}{Ms:List (List Int)}{ws:List Int}{n:Nat}{es:List Arc}(hs:St H w σ)(hM:RT H vm Ms)(hqM:Sq (n+1) Ms)(hw:RI H vw ws)(hl:ws.length=n+1)(hn:n+1≤65)(hz:bB ws (n+1)≤FF)
  (hT:Tab (n+1) (gt Ms) es) (hfe:∃p,gQ es p) (hcb:∀x∈es,-1400000≤x.c∧x.c≤1400000) (hbd:∀m,wD es (mT ws (n+1)) (n+1) m→-BB≤m∧m≤BB):
  Cl Tryz.prog 272 [vm,vw] w fun u w'=>∃H1 v b,HLe H H1∧u= .tuple #[I v,.bool b]∧((b=true∧wD es (mT ws (n+1)) (n+1) v)∨(b=false∧lS es (mT ws (n+1)) (n+1)))∧St H1 w' σ:=by
 obtain ⟨am,cm,rfl⟩:=hM.shape
 have hml:Ms.length=n+1:=hqM.1
 rw [hml] at hM ⊢
 have hnum:=hT.Em
 have hC0:C6 es (n+1):=fun x hx=>by
  have h1:=hT.ok x hx
  have h2:=(hT.at hx).2
  have h3:=hcb x hx
  exact ⟨h1.1,h1.2.1,h3.1,h3.2,by omega,h1.2.2.1⟩
 have hin:∀x∈es,x.f<n+1∧x.t<n+1:=fun x hx=>by have:=hC0 x hx;omega
 have hw0:=Ag ws (n:=n+1) (by omega)
 have hFF:FF=3600000000000:=rfl
 have hBB:BB=4608000000000000000:=rfl
 have hfree:free=1000000000:=rfl
 refine Cl.of Tryz.func272 rfl Tryz.ntmps272 (by simp) (aj (k:=0) rfl (aj (k:=1) rfl (bh))) ?_
 refine .ai (.z zg (.z zg (.nil (.ai (.z zm ?_)))))
 refine .o (.call Tryz.call291 rfl (pB hs hw hl (by omega) hz) ?_);rintro _ w ⟨b21,cap,sp,lf0,rfl,hlf1,hlf2,hs⟩
 refine .z zg (.nil (.ai (.z zm (.z (cM an) ?_))))
 refine .o (.DY (n+1) hs rfl rfl an tD rfl aA dz (by omega) ?_);intro b24 w hs
 refine .z zg (.nil (.seq (.ai (.z zm (.z (cM an) (.z zm (.nil ?_)))))))
 refine .for (N:=n+1) (J:=fun k fr w=>fr=[(7,.slice (some ⟨b24,0,none⟩) (n+1) (n+1)),(0,.slice am (n+1) cm),(6,.slice (some ⟨b21,0,none⟩) (n+1) cap)]∧∃bs:List Nat,bs.length=k∧St H w (.blk b24 (bs.map (ptr (n+1))++List.replicate (n+1 - k) (.slice none 0 0))::(iK bs (xQ (fun _ _=>0) (n+1) k)++(.blk b21 (Is lf0++sp)::σ)))) (by omega) ?_ ?_ ?_
 ·exact .mk ⟨rfl,[],rfl,hs⟩
 ·rintro k fr w hk ⟨rfl,bs,hbl,hs⟩
  refine .block (.ai (.z zm (.z zg (.nil (.region (.z zm (.z zm (.z zm (.z (cM an) ?_)))))))))
  refine .o (.oT (n+1) hs rfl rfl aa dq rfl ae bH (by omega) ?_);intro b34 w hs
  first|(refine .ixw hs an aA ?_;intro b35 o35 hc35)|refine .z (zix an aA) ?_
  refine .o (.store hs rfl rfl aA ?_ (by repeat constructor) (by simp [hbl];omega) (AR hbl hk));intro w hs
  refine .nil ?_
  refine nB (nT ?_)
  rw [sW (fun _=>0) (n+1) 0 (fun _ _=>rfl)] at hs
  replace hs:=hs.rowIn (by rw [hbl,sC])
  rw [←wN (fun _ _=>0)] at hs
  exact .mk ⟨rfl,bs++[b34],by simp [hbl],hs⟩
 ·rintro fr w ⟨rfl,bs,hbl,hs⟩
  rw [Nat.sub_self,List.replicate_zero,List.append_nil] at hs
  have hq0:=Au (fun _ _=>0) (n+1)
  have hc0:tB (n+1) es (List.replicate es.length 0) (gt (xQ (fun _ _=>0) (n+1) (n+1))):=by
   have h:=tB.zero (n+1) hT
   exact ⟨h.len,fun x hx=>by rw [h.arc x hx,xP _ (hin x hx).1 (hin x hx).2],fun a b ha hb _=>xP _ ha hb⟩
  have hF0:=uv.start (es:=es) hz hlf1 hlf2 hfe
  refine nT ?_
  refine .block ?_
  refine .loop (fun _:List (List Int)×List Int×List Int=>⟨183,[],[(7,.slice (some ⟨b24,0,none⟩) (n+1) (n+1)),(0,.slice am (n+1) cm),(6,.slice (some ⟨b21,0,none⟩) (n+1) cap)]⟩) (fun p w=>(Sq (n+1) p.1∧tB (n+1) es p.2.1 (gt p.1)∧uv (n+1) es (mT ws (n+1)) p.2.1 p.2.2)∧∃H1,HLe H H1∧St H1 w (.blk b24 (bs.map (ptr (n+1)))::(iK bs p.1++(.blk b21 (Is p.2.2++sp)::σ)))) (fun p=>(rem (n+1) p.2.2).toNat) (xQ (fun _ _=>0) (n+1) (n+1),List.replicate es.length 0,lf0) (by repeat (first|exact .nil rfl rfl|refine .cons rfl ?_)) ⟨⟨hq0,hc0,hF0⟩,H,HLe.refl H,hs⟩ ?_
  clear hq0 hc0 hF0 hlf1 hlf2 hs
  rintro ⟨Fs,ts,lf⟩ w ⟨⟨hqF,hC,hI⟩,H1,hle1,hs⟩
  dsimp only at hqF hC hI hs ⊢
  obtain ⟨D,hg⟩:=yM (by omega) hn hC0 hI.lt.symm hI.fe
  have hfl:=hqF.1
  have hll:=hI.ll
  refine .block (.ai (.z zm (.z zm (.z zm ?_))))
  refine .o (.call Tryz.call292 rfl (rM (need:=lf) (spN:=sp) hs (hM.mono hle1) hqM .here hbl hqF (fun i hi=> .there (Mem.row (by omega) (by omega))) (.there (Mem.fS .here)) hll hT hC hg) ?_);rintro _ w ⟨H2,vd,vb,s,hle2,rfl,hRd,hRb,hV,hs⟩
  obtain ⟨ad,cd,rfl⟩:=RI.shape hRd
  obtain ⟨ab,cb,eb⟩:=hRb.shape
  rw [List.length_map] at eb
  subst eb
  have hlc:=hV.lc
  have hlb:=hV.lb
  have hle02:=hle1.trans hle2
  refine .z zm (.z zex (.z zex (.z zg (.z zg (.nil (.ai (.z zg (.nil (.ai ?_)))))))))
  refine .z zg (.nil (.seq (.ai (.z zm (.z (cM aa) (.z zm (.nil ?_)))))))
  refine .for (N:=n+1) (J:=fun k fr w=>∃to left,fr=[(11,I to),(12,.bool left),(44,.slice (some ⟨b21,0,none⟩) (n+1) cap),(7,.slice (some ⟨b24,0,none⟩) (n+1) (n+1)),(0,.slice am (n+1) cm),(6,.slice (some ⟨b21,0,none⟩) (n+1) cap),(9,.slice ad s.cost.length cd),(10,.slice ab s.by_.length cb)]∧Scan lf s.cost k to left∧St H2 w (.blk b24 (bs.map (ptr (n+1)))::(iK bs Fs++(.blk b21 (Is lf++sp)::σ)))) (by omega) ?_ ?_ ?_
  ·exact .mk ⟨-1,false,rfl,.start lf s.cost,hs⟩
  ·rintro k fr w hk ⟨to,left,rfl,hSc,hs⟩
   have hto:=hSc.lo
   have hto2:=hSc.som
   have hcap:k<n+1:=hk
   refine .block (.ai (.z zm ?_))
   refine .q hs (dF (k:=k) rfl rfl aa ae rfl hk) ?_
   refine .q hs (dE rfl af (hm:= .there (Mem.fS .here)) (hv:=nA (br (l:=lf) (i:=k) (by omega)) sp)) ?_
   refine .z zg (.z zg (.nil (.ai (.z zm (.z zm ?_)))))
   refine .bif (t':=52) rfl (fun hb52=>?_) (fun hb52=>?_)
   ·refine .gFs 2 1 false rfl rfl rfl ?_
    refine .z zpT (.z zg (.nil ?_))
    refine WE.sub (t:=⟨183,[],[(12,.bool (left||decide (0<gi lf k))),(13,I (k:Int)),(14,I (gi lf k)),(11,I to),(46,I (k:Int)),(45,I ((n+1:Nat):Int)),(44,.slice (some ⟨b21,0,none⟩) (n+1) cap),(7,.slice (some ⟨b24,0,none⟩) (n+1) (n+1)),(0,.slice am (n+1) cm),(6,.slice (some ⟨b21,0,none⟩) (n+1) cap),(9,.slice ad s.cost.length cd),(10,.slice ab s.by_.length cb)]⟩) ?_ (by first|exact .consV rfl (by simp_all) (by repeat (first|exact .nil rfl rfl|refine .cons rfl ?_))|repeat (first|exact .nil rfl rfl|refine .cons rfl ?_))
    refine .cut (fun fs w=>∃p,kJ fs ⟨183,[],[(79,.bool p),(12,.bool (left||decide (0<gi lf k))),(13,I (k:Int)),(11,I to),(46,I (k:Int)),(45,I ((n+1:Nat):Int)),(44,.slice (some ⟨b21,0,none⟩) (n+1) cap),(7,.slice (some ⟨b24,0,none⟩) (n+1) (n+1)),(0,.slice am (n+1) cm),(6,.slice (some ⟨b21,0,none⟩) (n+1) cap),(9,.slice ad s.cost.length cd),(10,.slice ab s.by_.length cb)]⟩∧(p=true→0<gi lf k∧gi s.cost k≠free)∧(p=false→¬0<gi lf k∨gi s.cost k=free∨0≤to)∧St H2 w (.blk b24 (bs.map (ptr (n+1)))::(iK bs Fs++(.blk b21 (Is lf++sp)::σ)))) ?_ ?_
    ·refine .draw mix rfl hs ?_;intro w hs
     refine .z 0 rfl zm ?_;refine .z 1 rfl lk ?_;refine .z 2 rfl zm ?_
     refine .iE (t':=58) rfl (fun hb58=>?_) (fun hb58=>?_)
     ·refine .z 3 rfl zm ?_;refine .z 4 rfl zm ?_
      refine .ixX (enc:=fun x=>[I x]) (i:=5) hs rfl (by kernel_rfl) (.some rfl rfl) hRd rfl rfl aa ae (br (l:=s.cost) (i:=k) (by omega)) rfl ?_;intro b61 o61 hc61;replace hc61:=bG.one hc61
      refine .r (i:=6) hs rfl (by kernel_rfl) (.some rfl rfl) (aM rfl af hc61) ?_
      refine .z 7 rfl iA ?_;refine .z 8 rfl zpT ?_;refine .z 9 rfl zm ?_
      refine .yu (t':=65) rfl (fun hb65=>?_) (fun hb65=>?_)
      ·refine .z 10 rfl zm ?_;refine .z 11 rfl fN ?_;refine .z 12 rfl zm ?_
       refine .iE (t':=68) rfl (fun hb68=>?_) (fun hb68=>?_)
       ·refine .qF (i:=13) rfl (by kernel_rfl) rfl rfl ?_
        refine .qF (i:=14) rfl (by kernel_rfl) rfl rfl ?_
        refine .qF (i:=15) rfl (by kernel_rfl) rfl rfl ?_
        refine .qF (i:=16) rfl (by kernel_rfl) rfl rfl ?_
        refine .qF (i:=17) rfl (by kernel_rfl) rfl rfl ?_
        refine .qF (i:=18) rfl (by kernel_rfl) rfl rfl ?_
        refine .qF (i:=19) rfl (by kernel_rfl) rfl rfl ?_
        refine .qF (i:=20) rfl (by kernel_rfl) rfl rfl ?_
        refine .qF (i:=21) rfl (by kernel_rfl) rfl rfl ?_
        refine .z 22 rfl zpT ?_;refine .z 23 rfl zpT ?_
        refine .done (by kernel_rfl) hs ?_ (hp:=by repeat (first|exact .nil|refine .cons (by first|exact HLe.bot _|exact HLe.refl _|assumption) (by first|exact .nil|(refine Sub.one ?_;repeat (first|exact .here|assumption|exact Mem.row (by omega) (by omega)|refine .there ?_|refine Mem.fS ?_))) ?_))
        exact nT ⟨_,by repeat (first|exact .nil rfl rfl|refine .cons rfl ?_),by
         intro hp
         first
          |(cases hp;done)
          |exact ⟨by assumption,by assumption⟩,by
         intro hp
         first
          |(cases hp;done)
          |exact .inl (by assumption)
          |exact .inr (.inl (by first|assumption|omega))
          |exact .inr (.inr (by omega)),hs⟩
       ·refine .z 13 rfl zm ?_;refine .z 14 rfl zm ?_
        refine .ixX (enc:=fun x=>[I x]) (i:=15) hs rfl (by kernel_rfl) (.some rfl rfl) hRd rfl rfl aa ae (br (l:=s.cost) (i:=k) (by omega)) rfl ?_;intro b71 o71 hc71;replace hc71:=bG.one hc71
        refine .r (i:=16) hs rfl (by kernel_rfl) (.some rfl rfl) (aM rfl af hc71) ?_
        refine .z 17 rfl zm ?_;refine .z 18 rfl zm ?_
        refine .ixX (enc:=fun x=>[I x]) (i:=19) hs rfl (by kernel_rfl) (.some rfl rfl) hRd rfl rfl aa ae (br (l:=s.cost) (i:=to.toNat) (by omega)) (by omega) ?_;intro b75 o75 hc75;replace hc75:=bG.one hc75
        refine .r (i:=20) hs rfl (by kernel_rfl) (.some rfl rfl) (aM rfl af hc75) ?_
        refine .z 21 rfl fN ?_;refine .z 22 rfl zpF ?_;refine .z 23 rfl zpT ?_
        refine .done (by kernel_rfl) hs ?_ (hp:=by repeat (first|exact .nil|refine .cons (by first|exact HLe.bot _|exact HLe.refl _|assumption) (by first|exact .nil|(refine Sub.one ?_;repeat (first|exact .here|assumption|exact Mem.row (by omega) (by omega)|refine .there ?_|refine Mem.fS ?_))) ?_))
        exact nT ⟨_,by repeat (first|exact .nil rfl rfl|refine .cons rfl ?_),by
         intro hp
         first
          |(cases hp;done)
          |exact ⟨by assumption,by assumption⟩,by
         intro hp
         first
          |(cases hp;done)
          |exact .inl (by assumption)
          |exact .inr (.inl (by first|assumption|omega))
          |exact .inr (.inr (by omega)),hs⟩
      ·refine .qF (i:=10) rfl (by kernel_rfl) rfl rfl ?_
       refine .qF (i:=11) rfl (by kernel_rfl) rfl rfl ?_
       refine .qF (i:=12) rfl (by kernel_rfl) rfl rfl ?_
       refine .qF (i:=13) rfl (by kernel_rfl) rfl rfl ?_
       refine .qF (i:=14) rfl (by kernel_rfl) rfl rfl ?_
       refine .qF (i:=15) rfl (by kernel_rfl) rfl rfl ?_
       refine .qF (i:=16) rfl (by kernel_rfl) rfl rfl ?_
       refine .qF (i:=17) rfl (by kernel_rfl) rfl rfl ?_
       refine .qF (i:=18) rfl (by kernel_rfl) rfl rfl ?_
       refine .qF (i:=19) rfl (by kernel_rfl) rfl rfl ?_
       refine .qF (i:=20) rfl (by kernel_rfl) rfl rfl ?_
       refine .qF (i:=21) rfl (by kernel_rfl) rfl rfl ?_
       refine .qF (i:=22) rfl (by kernel_rfl) rfl rfl ?_
       refine .z 23 rfl zpF ?_
       refine .done (by kernel_rfl) hs ?_ (hp:=by repeat (first|exact .nil|refine .cons (by first|exact HLe.bot _|exact HLe.refl _|assumption) (by first|exact .nil|(refine Sub.one ?_;repeat (first|exact .here|assumption|exact Mem.row (by omega) (by omega)|refine .there ?_|refine Mem.fS ?_))) ?_))
       exact nT ⟨_,by repeat (first|exact .nil rfl rfl|refine .cons rfl ?_),by
        intro hp
        first
         |(cases hp;done)
         |exact ⟨by assumption,by assumption⟩,by
        intro hp
        first
         |(cases hp;done)
         |exact .inl (by assumption)
         |exact .inr (.inl (by first|assumption|omega))
         |exact .inr (.inr (by omega)),hs⟩
     ·refine .qF (i:=3) rfl (by kernel_rfl) rfl rfl ?_
      refine .qF (i:=4) rfl (by kernel_rfl) rfl rfl ?_
      refine .qF (i:=5) rfl (by kernel_rfl) rfl rfl ?_
      refine .qF (i:=6) rfl (by kernel_rfl) rfl rfl ?_
      refine .qF (i:=7) rfl (by kernel_rfl) rfl rfl ?_
      refine .z 8 rfl zpF ?_;refine .z 9 rfl zm ?_
      refine .qF (i:=10) rfl (by kernel_rfl) rfl rfl ?_
      refine .qF (i:=11) rfl (by kernel_rfl) rfl rfl ?_
      refine .qF (i:=12) rfl (by kernel_rfl) rfl rfl ?_
      refine .qF (i:=13) rfl (by kernel_rfl) rfl rfl ?_
      refine .qF (i:=14) rfl (by kernel_rfl) rfl rfl ?_
      refine .qF (i:=15) rfl (by kernel_rfl) rfl rfl ?_
      refine .qF (i:=16) rfl (by kernel_rfl) rfl rfl ?_
      refine .qF (i:=17) rfl (by kernel_rfl) rfl rfl ?_
      refine .qF (i:=18) rfl (by kernel_rfl) rfl rfl ?_
      refine .qF (i:=19) rfl (by kernel_rfl) rfl rfl ?_
      refine .qF (i:=20) rfl (by kernel_rfl) rfl rfl ?_
      refine .qF (i:=21) rfl (by kernel_rfl) rfl rfl ?_
      refine .qF (i:=22) rfl (by kernel_rfl) rfl rfl ?_
      refine .z 23 rfl zpF ?_
      refine .done (by kernel_rfl) hs ?_ (hp:=by repeat (first|exact .nil|refine .cons (by first|exact HLe.bot _|exact HLe.refl _|assumption) (by first|exact .nil|(refine Sub.one ?_;repeat (first|exact .here|assumption|exact Mem.row (by omega) (by omega)|refine .there ?_|refine Mem.fS ?_))) ?_))
      exact nT ⟨_,by repeat (first|exact .nil rfl rfl|refine .cons rfl ?_),by
       intro hp
       first
        |(cases hp;done)
        |exact ⟨by assumption,by assumption⟩,by
       intro hp
       first
        |(cases hp;done)
        |exact .inl (by assumption)
        |exact .inr (.inl (by first|assumption|omega))
        |exact .inr (.inr (by omega)),hs⟩
    ·rintro fs w ⟨p,hfs,hp1,hp2,hs⟩
     refine WE.sub ?_ hfs
     refine (.cond rfl (fun hc79=>?_) (fun hc79=>?_))
     ·refine .region (.z zm (.z zg (.nil ?_)))
      refine nB (nT ?_)
      obtain ⟨g1,g2⟩:=hp1 hc79
      exact .mk ⟨(k:Int),_,rfl,hSc.take g1 g2,hs⟩
     ·refine .skip ?_
      refine nB (nT ?_)
      exact .mk ⟨to,_,rfl,hSc.skip (hp2 hc79),hs⟩
   ·refine .gT rfl rfl ?_
    refine .z zm ?_
    refine .gT rfl rfl ?_
    refine .z lk (.z zpF (.z zg (.nil ?_)))
    refine WE.sub (t:=⟨183,[],[(12,.bool (left||decide (0<gi lf k))),(13,I (k:Int)),(14,I (gi lf k)),(11,I to),(46,I (k:Int)),(45,I ((n+1:Nat):Int)),(44,.slice (some ⟨b21,0,none⟩) (n+1) cap),(7,.slice (some ⟨b24,0,none⟩) (n+1) (n+1)),(0,.slice am (n+1) cm),(6,.slice (some ⟨b21,0,none⟩) (n+1) cap),(9,.slice ad s.cost.length cd),(10,.slice ab s.by_.length cb)]⟩) ?_ (by first|exact .consV rfl (by simp_all) (by repeat (first|exact .nil rfl rfl|refine .cons rfl ?_))|repeat (first|exact .nil rfl rfl|refine .cons rfl ?_))
    refine .cut (fun fs w=>∃p,kJ fs ⟨183,[],[(79,.bool p),(12,.bool (left||decide (0<gi lf k))),(13,I (k:Int)),(11,I to),(46,I (k:Int)),(45,I ((n+1:Nat):Int)),(44,.slice (some ⟨b21,0,none⟩) (n+1) cap),(7,.slice (some ⟨b24,0,none⟩) (n+1) (n+1)),(0,.slice am (n+1) cm),(6,.slice (some ⟨b21,0,none⟩) (n+1) cap),(9,.slice ad s.cost.length cd),(10,.slice ab s.by_.length cb)]⟩∧(p=true→0<gi lf k∧gi s.cost k≠free)∧(p=false→¬0<gi lf k∨gi s.cost k=free∨0≤to)∧St H2 w (.blk b24 (bs.map (ptr (n+1)))::(iK bs Fs++(.blk b21 (Is lf++sp)::σ)))) ?_ ?_
    ·refine .draw mix rfl hs ?_;intro w hs
     refine .z 0 rfl zm ?_;refine .z 1 rfl lk ?_;refine .z 2 rfl zm ?_
     refine .iE (t':=58) rfl (fun hb58=>?_) (fun hb58=>?_)
     ·refine .z 3 rfl zm ?_;refine .z 4 rfl zm ?_
      refine .ixX (enc:=fun x=>[I x]) (i:=5) hs rfl (by kernel_rfl) (.some rfl rfl) hRd rfl rfl aa ae (br (l:=s.cost) (i:=k) (by omega)) rfl ?_;intro b61 o61 hc61;replace hc61:=bG.one hc61
      refine .r (i:=6) hs rfl (by kernel_rfl) (.some rfl rfl) (aM rfl af hc61) ?_
      refine .z 7 rfl iA ?_;refine .z 8 rfl zpT ?_;refine .z 9 rfl zm ?_
      refine .yu (t':=65) rfl (fun hb65=>?_) (fun hb65=>?_)
      ·refine .z 10 rfl zm ?_;refine .z 11 rfl fN ?_;refine .z 12 rfl zm ?_
       refine .iE (t':=68) rfl (fun hb68=>?_) (fun hb68=>?_)
       ·refine .qF (i:=13) rfl (by kernel_rfl) rfl rfl ?_
        refine .qF (i:=14) rfl (by kernel_rfl) rfl rfl ?_
        refine .qF (i:=15) rfl (by kernel_rfl) rfl rfl ?_
        refine .qF (i:=16) rfl (by kernel_rfl) rfl rfl ?_
        refine .qF (i:=17) rfl (by kernel_rfl) rfl rfl ?_
        refine .qF (i:=18) rfl (by kernel_rfl) rfl rfl ?_
        refine .qF (i:=19) rfl (by kernel_rfl) rfl rfl ?_
        refine .qF (i:=20) rfl (by kernel_rfl) rfl rfl ?_
        refine .qF (i:=21) rfl (by kernel_rfl) rfl rfl ?_
        refine .z 22 rfl zpT ?_;refine .z 23 rfl zpT ?_
        refine .done (by kernel_rfl) hs ?_ (hp:=by repeat (first|exact .nil|refine .cons (by first|exact HLe.bot _|exact HLe.refl _|assumption) (by first|exact .nil|(refine Sub.one ?_;repeat (first|exact .here|assumption|exact Mem.row (by omega) (by omega)|refine .there ?_|refine Mem.fS ?_))) ?_))
        exact nT ⟨_,by repeat (first|exact .nil rfl rfl|refine .cons rfl ?_),by
         intro hp
         first
          |(cases hp;done)
          |exact ⟨by assumption,by assumption⟩,by
         intro hp
         first
          |(cases hp;done)
          |exact .inl (by assumption)
          |exact .inr (.inl (by first|assumption|omega))
          |exact .inr (.inr (by omega)),hs⟩
       ·refine .z 13 rfl zm ?_;refine .z 14 rfl zm ?_
        refine .ixX (enc:=fun x=>[I x]) (i:=15) hs rfl (by kernel_rfl) (.some rfl rfl) hRd rfl rfl aa ae (br (l:=s.cost) (i:=k) (by omega)) rfl ?_;intro b71 o71 hc71;replace hc71:=bG.one hc71
        refine .r (i:=16) hs rfl (by kernel_rfl) (.some rfl rfl) (aM rfl af hc71) ?_
        refine .z 17 rfl zm ?_;refine .z 18 rfl zm ?_
        refine .ixX (enc:=fun x=>[I x]) (i:=19) hs rfl (by kernel_rfl) (.some rfl rfl) hRd rfl rfl aa ae (br (l:=s.cost) (i:=to.toNat) (by omega)) (by omega) ?_;intro b75 o75 hc75;replace hc75:=bG.one hc75
        refine .r (i:=20) hs rfl (by kernel_rfl) (.some rfl rfl) (aM rfl af hc75) ?_
        refine .z 21 rfl fN ?_;refine .z 22 rfl zpF ?_;refine .z 23 rfl zpT ?_
        refine .done (by kernel_rfl) hs ?_ (hp:=by repeat (first|exact .nil|refine .cons (by first|exact HLe.bot _|exact HLe.refl _|assumption) (by first|exact .nil|(refine Sub.one ?_;repeat (first|exact .here|assumption|exact Mem.row (by omega) (by omega)|refine .there ?_|refine Mem.fS ?_))) ?_))
        exact nT ⟨_,by repeat (first|exact .nil rfl rfl|refine .cons rfl ?_),by
         intro hp
         first
          |(cases hp;done)
          |exact ⟨by assumption,by assumption⟩,by
         intro hp
         first
          |(cases hp;done)
          |exact .inl (by assumption)
          |exact .inr (.inl (by first|assumption|omega))
          |exact .inr (.inr (by omega)),hs⟩
      ·refine .qF (i:=10) rfl (by kernel_rfl) rfl rfl ?_
       refine .qF (i:=11) rfl (by kernel_rfl) rfl rfl ?_
       refine .qF (i:=12) rfl (by kernel_rfl) rfl rfl ?_
       refine .qF (i:=13) rfl (by kernel_rfl) rfl rfl ?_
       refine .qF (i:=14) rfl (by kernel_rfl) rfl rfl ?_
       refine .qF (i:=15) rfl (by kernel_rfl) rfl rfl ?_
       refine .qF (i:=16) rfl (by kernel_rfl) rfl rfl ?_
       refine .qF (i:=17) rfl (by kernel_rfl) rfl rfl ?_
       refine .qF (i:=18) rfl (by kernel_rfl) rfl rfl ?_
       refine .qF (i:=19) rfl (by kernel_rfl) rfl rfl ?_
       refine .qF (i:=20) rfl (by kernel_rfl) rfl rfl ?_
       refine .qF (i:=21) rfl (by kernel_rfl) rfl rfl ?_
       refine .qF (i:=22) rfl (by kernel_rfl) rfl rfl ?_
       refine .z 23 rfl zpF ?_
       refine .done (by kernel_rfl) hs ?_ (hp:=by repeat (first|exact .nil|refine .cons (by first|exact HLe.bot _|exact HLe.refl _|assumption) (by first|exact .nil|(refine Sub.one ?_;repeat (first|exact .here|assumption|exact Mem.row (by omega) (by omega)|refine .there ?_|refine Mem.fS ?_))) ?_))
       exact nT ⟨_,by repeat (first|exact .nil rfl rfl|refine .cons rfl ?_),by
        intro hp
        first
         |(cases hp;done)
         |exact ⟨by assumption,by assumption⟩,by
        intro hp
        first
         |(cases hp;done)
         |exact .inl (by assumption)
         |exact .inr (.inl (by first|assumption|omega))
         |exact .inr (.inr (by omega)),hs⟩
     ·refine .qF (i:=3) rfl (by kernel_rfl) rfl rfl ?_
      refine .qF (i:=4) rfl (by kernel_rfl) rfl rfl ?_
      refine .qF (i:=5) rfl (by kernel_rfl) rfl rfl ?_
      refine .qF (i:=6) rfl (by kernel_rfl) rfl rfl ?_
      refine .qF (i:=7) rfl (by kernel_rfl) rfl rfl ?_
      refine .z 8 rfl zpF ?_;refine .z 9 rfl zm ?_
      refine .qF (i:=10) rfl (by kernel_rfl) rfl rfl ?_
      refine .qF (i:=11) rfl (by kernel_rfl) rfl rfl ?_
      refine .qF (i:=12) rfl (by kernel_rfl) rfl rfl ?_
      refine .qF (i:=13) rfl (by kernel_rfl) rfl rfl ?_
      refine .qF (i:=14) rfl (by kernel_rfl) rfl rfl ?_
      refine .qF (i:=15) rfl (by kernel_rfl) rfl rfl ?_
      refine .qF (i:=16) rfl (by kernel_rfl) rfl rfl ?_
      refine .qF (i:=17) rfl (by kernel_rfl) rfl rfl ?_
      refine .qF (i:=18) rfl (by kernel_rfl) rfl rfl ?_
      refine .qF (i:=19) rfl (by kernel_rfl) rfl rfl ?_
      refine .qF (i:=20) rfl (by kernel_rfl) rfl rfl ?_
      refine .qF (i:=21) rfl (by kernel_rfl) rfl rfl ?_
      refine .qF (i:=22) rfl (by kernel_rfl) rfl rfl ?_
      refine .z 23 rfl zpF ?_
      refine .done (by kernel_rfl) hs ?_ (hp:=by repeat (first|exact .nil|refine .cons (by first|exact HLe.bot _|exact HLe.refl _|assumption) (by first|exact .nil|(refine Sub.one ?_;repeat (first|exact .here|assumption|exact Mem.row (by omega) (by omega)|refine .there ?_|refine Mem.fS ?_))) ?_))
      exact nT ⟨_,by repeat (first|exact .nil rfl rfl|refine .cons rfl ?_),by
       intro hp
       first
        |(cases hp;done)
        |exact ⟨by assumption,by assumption⟩,by
       intro hp
       first
        |(cases hp;done)
        |exact .inl (by assumption)
        |exact .inr (.inl (by first|assumption|omega))
        |exact .inr (.inr (by omega)),hs⟩
    ·rintro fs w ⟨p,hfs,hp1,hp2,hs⟩
     refine WE.sub ?_ hfs
     refine (.cond rfl (fun hc79=>?_) (fun hc79=>?_))
     ·refine .region (.z zm (.z zg (.nil ?_)))
      refine nB (nT ?_)
      obtain ⟨g1,g2⟩:=hp1 hc79
      exact .mk ⟨(k:Int),_,rfl,hSc.take g1 g2,hs⟩
     ·refine .skip ?_
      refine nB (nT ?_)
      exact .mk ⟨to,_,rfl,hSc.skip (hp2 hc79),hs⟩
  ·rintro fr w ⟨to,left,rfl,hSc,hs⟩
   refine nT ?_
   refine .seq (.ai (.z zm (.z fN (.nil ?_))))
   refine (.bJ rfl (fun hc83=>?_) (fun hc83=>?_))
   ·refine .ai (.z zm (.z zm ?_))
    refine .o (.call Tryz.call293 rfl (sQ hs (hM.mono hle02) hqM (by omega) .here hbl hqF (fun i hi=> .there (Mem.row (by omega) (by omega)))) ?_);rintro _ w ⟨rfl,hs⟩
    refine .z zm (.z iI (.z zg (.z zg (.nil ?_))))
    refine .ret (rT (rB (rT (rB (Fin.lg Tryz.results272 rfl rfl ?_)))))
    rw [←CV hT hC hI.nn]
    cases left with
    |false=>
     have hno:∀v<n+1,gi lf v≤0:=fun v hv=>Int.not_lt.1 fun h=>by have:=hSc.left_.2 ⟨v,hv,h⟩;cases this
     have hok:=hI.ok hin hw0 hno
     obtain ⟨q,hqf⟩:=hok.fe
     have hO:=(zc hin hok.lt (fun i hi=>(hok.nn i hi).1) hok.full hqf).1
     have hb:=hbd _ hO
     rw [kx (by omega)]
     exact ⟨H2,_,true,hle02,rfl,.inl ⟨rfl,hO⟩,hs.tail.fS.tail⟩
    |true=>
     obtain ⟨v,hv,hp⟩:=hSc.left_.1 rfl
     have hf:=hSc.non (by omega) v hv hp
     have hO:=hI.open hin (R:=fun v=>gi s.cost v<free) (fun v hv hl=>by have:=hV.src v hv hl;omega) (hV.closed hg) hv (by rw [hf];omega) hp
     exact ⟨H2,_,false,hle02,rfl,.inr ⟨rfl,hO⟩,hs.tail.fS.tail⟩
   ·refine .skip ?_
    refine nT ?_
    refine .ai ?_
    obtain ⟨t,rfl⟩:=Int.eq_ofNat_of_zero_le (show 0≤to by omega)
    obtain ⟨ht,htp,htf⟩:=hSc.som (by omega)
    rw [Int.toNat_natCast] at ht htp htf
    have htl:gi s.cost t<free:=by have:=hV.top t ht;omega
    obtain ⟨kk,cc,u,hB,hu,hk1,hk0,hcl,hway⟩:=hV.back hg ht htl htp
    have hW:=hway _ rfl
    have hsg:=hI.sg
    refine .z zm (.z zm ?_)
    refine .q hs (dF (k:=t) rfl rfl aa ae rfl ht) ?_
    refine .q hs (dE rfl af (hm:= .there (Mem.fS .here)) (hv:=nA (br (l:=lf) (i:=t) (by omega)) sp)) ?_
    refine .z zg (.nil (.ai (.z zm (.z zg (.nil (.seq (.block ?_)))))))
    refine .loop (fun p:Nat×Nat=>⟨183,[],[(16,I (p.2:Int)),(15,I (least es ts (gi lf t) (ik s.by_ t p.1))),(11,I (t:Int)),(7,.slice (some ⟨b24,0,none⟩) (n+1) (n+1)),(0,.slice am (n+1) cm),(6,.slice (some ⟨b21,0,none⟩) (n+1) cap),(9,.slice ad s.cost.length cd),(10,.slice ab s.by_.length cb)]⟩) (fun p w=>AtW s.by_ t kk u p.1 p.2∧(p.2<n+1∧gi s.cost p.2<free)∧St H2 w (.blk b24 (bs.map (ptr (n+1)))::(iK bs Fs++(.blk b21 (Is lf++sp)::σ)))) (fun p=>kk - p.1) (0,t) (by repeat (first|exact .nil rfl rfl|refine .cons rfl ?_)) ⟨.start hB,⟨ht,htl⟩,hs⟩ ?_
    rintro ⟨i,v⟩ w ⟨hA,⟨hv,hvf⟩,hs⟩
    dsimp only at hA hv hvf ⊢
    have hby:=hV.by1 v hv hvf
    refine .cut (fun fs w=>kJ fs ⟨183,[],[(16,I (v:Int)),(15,I (least es ts (gi lf t) (ik s.by_ t i))),(11,I (t:Int)),(7,.slice (some ⟨b24,0,none⟩) (n+1) (n+1)),(0,.slice am (n+1) cm),(6,.slice (some ⟨b21,0,none⟩) (n+1) cap),(9,.slice ad s.cost.length cd),(10,.slice ab s.by_.length cb)]⟩∧0≤(ga s.by_ v).l∧St H2 w (.blk b24 (bs.map (ptr (n+1)))::(iK bs Fs++(.blk b21 (Is lf++sp)::σ)))) ?_ ?_
    ·refine .ai (.z zm (.z zm ?_))
     refine .q hs (dF (k:=v) rfl rfl aa ae rfl hv) ?_
     refine .q hs (dE rfl af (hm:= .there (Mem.fS .here)) (hv:=nA (br (l:=lf) (i:=v) (by omega)) sp)) ?_
     refine .z wI (.z zm ?_)
     refine .iE (t':=99) rfl (fun hb99=>?_) (fun hb99=>?_)
     ·refine .gFs 6 5 false rfl rfl rfl ?_
      refine .z zpT (.nil ?_)
      refine (.fj rfl (by first|rfl|exact decide_eq_true (by assumption)) ?_)
      refine .skip ?_
      refine nT ?_
      exact ⟨by repeat (first|exact .nil rfl rfl|refine .cons rfl ?_),by
       rcases hby with ⟨_,h,_⟩|h
       ·omega
       ·exact h.1,hs⟩
     ·refine .gT rfl rfl ?_
      refine .z zm ?_
      refine .gT rfl rfl ?_
      refine .z zm ?_
      refine .gT rfl rfl ?_
      refine .ixX (enc:=lE es) hs hRb rfl rfl cI cH (th (l:=s.by_) (i:=v) (by omega)) rfl ?_;intro b102 o102 hc102
      rw [px] at hc102
      refine .gT rfl rfl ?_
      refine .z (zfa cU) ?_
      refine .gT rfl rfl ?_
      refine .q hs (aM rfl af (hc102.get 0 rfl)) ?_
      refine .gT rfl rfl ?_
      refine .z wI (.z zpF (.nil ?_))
      refine (.bJ rfl (fun hc106=>?_) (fun hc106=>?_))
      ·refine .skip ?_
       refine nT ?_
       exact ⟨by repeat (first|exact .nil rfl rfl|refine .cons rfl ?_),B8 hc106,hs⟩
      ·refine .exit ?_
       refine xT (xT (xB (nT ?_)))
       refine .ai ?_
       obtain ⟨ei,ev⟩:=hA.stop (Aw hc106)
       subst ei;subst ev
       obtain ⟨m0,m1,m2,m3⟩:=sd hI.lt.symm hnum hW
       have hsv:=hsg v hv
       have hst:=hsg t ht
       have hmu:min (least es ts (gi lf t) (ik s.by_ t i)) (-gi lf v)=pQ es ts lf (ik s.by_ t i).reverse v t:=by
        unfold pQ
        rw [A8,←w6,Int.min_comm]
       have hsend:=hI.send hnum hW (by rw [List.length_reverse,gy];omega)
       have hmem:∀x∈ik s.by_ t i,x∈cT es ts:=fun x hx=>hW.mem x (List.mem_reverse.2 hx)
       rw [zM (fun x hx=>(ju hI.lt.symm hnum (hmem x hx)).2.1)] at hsend
       generalize hm:pQ es ts lf (ik s.by_ t i).reverse v t=m at*
       have hvt:v≠t:=fun e=>by have:=hW.lu;rw [e] at this;omega
       refine .z zm (.z zm (.z zm ?_))
       refine .q hs (dF (k:=v) rfl rfl aa ae rfl hv) ?_
       refine .q hs (dE rfl af (hm:= .there (Mem.fS .here)) (hv:=nA (br (l:=lf) (i:=v) (by omega)) sp)) ?_
       refine .z xI (.z Ad ?_)
       rw [hmu]
       refine .z zg (.nil (.seq (.ai (.z zm (.z zg (.nil (.block ?_)))))))
       refine .loop (fun p:Nat×Nat×List (List Int)=>⟨183,[],[(18,I (p.2.1:Int)),(16,I (v:Int)),(15,I m),(11,I (t:Int)),(7,.slice (some ⟨b24,0,none⟩) (n+1) (n+1)),(0,.slice am (n+1) cm),(6,.slice (some ⟨b21,0,none⟩) (n+1) cap),(9,.slice ad s.cost.length cd),(10,.slice ab s.by_.length cb)]⟩) (fun p w=>AtW s.by_ t i v p.1 p.2.1∧(p.2.1<n+1∧gi s.cost p.2.1<free)∧(Sq (n+1) p.2.2∧tB (n+1) es (eP es m ts (ik s.by_ t p.1)) (gt p.2.2))∧St H2 w (.blk b24 (bs.map (ptr (n+1)))::(iK bs p.2.2++(.blk b21 (Is lf++sp)::σ)))) (fun p=>i - p.1) (0,t,Fs) (by repeat (first|exact .nil rfl rfl|refine .cons rfl ?_)) ⟨.start hB,⟨ht,htl⟩,⟨hqF,hC⟩,hs⟩ ?_
       clear hA hby
       rintro ⟨j,y,Fs'⟩ w ⟨hA,⟨hy,hyf⟩,⟨hqF',hC'⟩,hs⟩
       dsimp only at hA hy hyf hqF' hC' hs ⊢
       have hfl':=hqF'.1
       refine .seq (.ai (.z zm (.z zm (.z iA (.nil ?_)))))
       refine (.e9 rfl (fun hc135=>?_) (fun hc135=>?_))
       ·refine .skip ?_
        refine nT ?_
        refine .seq (.block (.ai ?_))
        have hl0:=hA.ne (by omega)
        obtain ⟨hik,hA',htr⟩:=hA.next hl0 hu
        obtain ⟨hxm,hxt,hxf⟩:ga s.by_ y∈cT es ts∧(ga s.by_ y).t=y∧gi s.cost (ga s.by_ y).f<free:=by
         rcases hV.by1 y hy hyf with ⟨h,_⟩|⟨_,h1,h2,h3,_⟩
         ·omega
         ·exact ⟨h1,h2,h3⟩
        have hxn:=(hg.ok _ hxm).1
        have hsF:=sG hl0
        have hxb:(ga s.by_ y).l.toNat<ts.length:=(ju hI.lt.symm hnum hxm).2.1
        have hpb:=wV (es:=es) (ts:=ts) (p:=ik s.by_ t j) (m:=m) (by omega) (by omega) (by rw [gy];omega) (fun x hx=>by
         have h1:=mX (A:=fun v=>v<n+1∧gi s.cost v<free) (B:=fun x=>x∈cT es ts) (fun v hv hl=>by
          rcases hV.by1 v hv.1 hv.2 with ⟨h,_⟩|⟨_,h1,h2,h3,_⟩
          ·omega
          ·exact ⟨h1,(hg.ok _ h1).1,h3⟩) hA.bk.choose_spec ⟨ht,htl⟩ x hx
         exact (ju hI.lt.symm hnum h1).2.1) (ga s.by_ y).l.toNat
        have hnn:=hI.nn (ga s.by_ y).l.toNat (by rw [←hI.lt];exact hxb)
        have htb:=hI.tb (ga s.by_ y).l.toNat (by rw [←hI.lt];exact hxb)
        have hrm:0≤rem (n+1) lf:=cN fun v _=>by omega
        generalize hgx:ga s.by_ y=x at*
        refine .z zm (.z zm ?_)
        refine .ixX (enc:=lE es) hs hRb rfl rfl cI cH (th (l:=s.by_) (i:=y) (by omega)) rfl ?_;intro b143 o143 hc143
        rw [hgx,px] at hc143
        refine .q hs (cj (vs:=[I (sH x),.bool (tZ es x)]) rfl Tryz.isAgg315 cH hc143) ?_
        refine .o (.alloc hs ql rfl ?_);intro b19 w hs
        refine .o (.aS (vs:=[I (sH x),.bool (tZ es x)]) hs rfl rfl cH ?_);intro w hs
        refine .nil (.ai (.z (zfa jg) ?_))
        first|refine .q hs (dE rfl lx (hm:=by repeat (first|exact .here|assumption|exact Mem.row (by omega) (by omega)|refine .there ?_|refine Mem.fS ?_)) (hv:=by first|rfl|exact cQ (by omega)|exact fl (by assumption) (by omega) (by omega)|exact eI (by first|assumption|omega))) ?_|refine .q hs (aM rfl lx (by assumption)) ?_
        refine .nil ?_
        refine (.cond rfl (fun hc146=>?_) (fun hc146=>?_))
        ·refine .draw mix rfl hs ?_;intro w hs
         have hnf:=Ax hc146
         obtain ⟨hcb,z,hz1,hz2⟩:=hC.back hT hxm hnf
         have hgz:gt Fs' y x.f=gi (eP es m ts (ik s.by_ t j)) x.l.toNat:=by
          have:=hC'.arc z hz1
          rw [hz2] at hxt ⊢
          rw [←hxt];exact this.symm
         have hpu:=(hC'.push hT (y:=x) (.inr ⟨z,hz1,hz2⟩) m).2 hnf
         rw [hxt] at hpu
         rw [←mf,←htr] at hpu
         refine .z 0 rfl zm ?_;refine .z 1 rfl zm ?_
         refine .p (i:=2) rfl (by kernel_rfl) .none (dF (k:=y) rfl rfl an aA rfl hy) ?_
         first|refine .load (i:=3) hs rfl (by kernel_rfl) .none rfl ak ?_ (by repeat (first|exact .here|assumption|exact Mem.row (by omega) (by omega)|refine .there ?_|refine Mem.fS ?_)) (by first|rfl|exact cQ (by omega)|exact fl (by assumption) (by omega) (by omega)|exact eI (by first|assumption|omega))|refine .r (i:=3) hs rfl (by kernel_rfl) .none (aM rfl ak (by assumption)) ?_
         refine .z 4 rfl (zfa cU) ?_
         first|refine .load (i:=5) hs rfl (by kernel_rfl) .none rfl af ?_ (by repeat (first|exact .here|assumption|exact Mem.row (by omega) (by omega)|refine .there ?_|refine Mem.fS ?_)) (by first|rfl|exact cQ (by omega)|exact fl (by assumption) (by omega) (by omega)|exact eI (by first|assumption|omega))|refine .r (i:=5) hs rfl (by kernel_rfl) .none (aM rfl af (by assumption)) ?_
         rw [hsF] at hs ⊢
         refine .p (i:=6) rfl (by kernel_rfl) .none (dF (k:=x.f) rfl rfl aa ae rfl hxn) ?_
         first|refine .load (i:=7) hs rfl (by kernel_rfl) .none rfl af ?_ (by repeat (first|exact .here|assumption|exact Mem.row (by omega) (by omega)|refine .there ?_|refine Mem.fS ?_)) (by first|rfl|exact cQ (by omega)|exact fl (by assumption) (by omega) (by omega)|exact eI (by first|assumption|omega))|refine .r (i:=7) hs rfl (by kernel_rfl) .none (aM rfl af (by assumption)) ?_
         refine .z 8 rfl zm ?_;refine .z 9 rfl gM ?_
         refine .p (i:=10) rfl (by kernel_rfl) .none (dF (k:=x.f) rfl rfl aa ae rfl hxn) ?_
         refine .e1 (i:=11) (by kernel_rfl) rfl rfl .none hs ?_ (hp:=by repeat (first|exact .nil|refine .cons (by first|exact HLe.bot _|exact HLe.refl _|assumption) (by first|exact .nil|(refine Sub.one ?_;repeat (first|exact .here|assumption|exact Mem.row (by omega) (by omega)|refine .there ?_|refine Mem.fS ?_))) ?_))
         refine .store hs rfl rfl ae ?_ (.there (.there (Upd.row _ (by omega) (by omega)))) (tn (by rw [hqF'.2 _ hy];exact hxn)) (lT _ _ _);intro w hs
         refine .go ?_
         refine .done (by kernel_rfl) hs ?_ (hp:=by repeat (first|exact .nil|refine .cons (by first|exact HLe.bot _|exact HLe.refl _|assumption) (by first|exact .nil|(refine Sub.one ?_;repeat (first|exact .here|assumption|exact Mem.row (by omega) (by omega)|refine .there ?_|refine Mem.fS ?_))) ?_))
         refine nB (nT ?_)
         refine .region (.z zm (.z zm ?_))
         refine .ixX (enc:=lE es) hs hRb rfl rfl cI cH (th (l:=s.by_) (i:=y) (by omega)) rfl ?_;intro b138 o138 hc138
         rw [hgx,px] at hc138
         refine .z (zfa cU) ?_
         refine .q hs (aM rfl af (hc138.get 0 rfl)) ?_
         rw [hsF]
         refine .z zg (.nil ?_)
         refine nT ?_
         exact ⟨(j+1,x.f,_),by repeat (first|exact .nil rfl rfl|refine .cons rfl ?_),⟨hA',⟨hxn,hxf⟩,⟨hqF'.set hy _,by rw [y0 hqF' hy hxn];exact hpu⟩,hs.tail⟩,by dsimp only;omega⟩
        ·refine .region ?_
         have hnf:=Ay hl0 (by simpa using hc146)
         have hxe:=hC.forth hT hxm hnf
         have hgz:gt Fs' x.f y=gi (eP es m ts (ik s.by_ t j)) x.l.toNat:=by
          have:=hC'.arc x hxe
          rw [hxt] at this;exact this.symm
         have hpu:=(hC'.push hT (y:=x) (.inl hxe) m).1 hnf
         rw [hxt] at hpu
         rw [←mf,←htr] at hpu
         refine .z zm (.z (zfa cU) ?_)
         first|refine .q hs (dE rfl af (hm:=by repeat (first|exact .here|assumption|exact Mem.row (by omega) (by omega)|refine .there ?_|refine Mem.fS ?_)) (hv:=by first|rfl|exact cQ (by omega)|exact fl (by assumption) (by omega) (by omega)|exact eI (by first|assumption|omega))) ?_|refine .q hs (aM rfl af (by assumption)) ?_
         rw [hsF]
         refine .q hs (dF (k:=x.f) rfl rfl an aA rfl hxn) ?_
         first|refine .q hs (dE rfl ak (hm:=by repeat (first|exact .here|assumption|exact Mem.row (by omega) (by omega)|refine .there ?_|refine Mem.fS ?_)) (hv:=by first|rfl|exact cQ (by omega)|exact fl (by assumption) (by omega) (by omega)|exact eI (by first|assumption|omega))) ?_|refine .q hs (aM rfl ak (by assumption)) ?_
         refine .z zm ?_
         refine .q hs (dF (k:=y) rfl rfl aa ae rfl hy) ?_
         first|refine .q hs (dE rfl af (hm:=by repeat (first|exact .here|assumption|exact Mem.row (by omega) (by omega)|refine .there ?_|refine Mem.fS ?_)) (hv:=by first|rfl|exact cQ (by omega)|exact fl (by assumption) (by omega) (by omega)|exact eI (by first|assumption|omega))) ?_|refine .q hs (aM rfl af (by assumption)) ?_
         refine .z zm (.z cA ?_)
         refine .q hs (dF (k:=y) rfl rfl aa ae rfl hy) ?_
         refine .o (.store hs rfl rfl ae ?_ (.there (.there (Upd.row _ (by omega) (by omega)))) (tn (by rw [hqF'.2 _ hxn];exact hy)) (lT _ _ _));intro w hs
         refine .nil ?_
         refine nB (nT ?_)
         refine .region (.z zm (.z zm ?_))
         refine .ixX (enc:=lE es) hs hRb rfl rfl cI cH (th (l:=s.by_) (i:=y) (by omega)) rfl ?_;intro b138 o138 hc138
         rw [hgx,px] at hc138
         refine .z (zfa cU) ?_
         refine .q hs (aM rfl af (hc138.get 0 rfl)) ?_
         rw [hsF]
         refine .z zg (.nil ?_)
         refine nT ?_
         exact ⟨(j+1,x.f,_),by repeat (first|exact .nil rfl rfl|refine .cons rfl ?_),⟨hA',⟨hxn,hxf⟩,⟨hqF'.set hxn _,by rw [y0 hqF' hxn hy];exact hpu⟩,hs.tail⟩,by dsimp only;omega⟩
       ·refine .exit ?_
        refine xT (xT (xB (nT ?_)))
        refine .ai ?_
        have hyv:y=v:=by omega
        subst hyv
        obtain ⟨ej,-⟩:=hA.stop hu
        subst ej
        refine .z zm (.z zm ?_)
        refine .q hs (dF (k:=y) rfl rfl aa ae rfl hv) ?_
        refine .q hs (dE rfl af (hm:= .there (Mem.fS .here)) (hv:=nA (br (l:=lf) (i:=y) (by omega)) sp)) ?_
        refine .z zm (.z cA ?_)
        refine .q hs (dF (k:=y) rfl rfl aa ae rfl hv) ?_
        refine .o (.store hs rfl rfl ae ?_ (.there (Upd.fS .here)) (by simp;omega) (yJ (by omega) _ sp));intro w hs
        refine .nil (.region (.z zm (.z zm ?_)))
        refine .q hs (dF (k:=t) rfl rfl aa ae rfl ht) ?_
        have hgt:gi (lf.set y (gi lf y+m)) t=gi lf t:=by rw [dZ (by omega),if_neg (Ne.symm hvt)]
        refine .q hs (dE rfl af (hm:= .there (Mem.fS .here)) (hv:=nA (br (l:=lf.set y (gi lf y+m)) (i:=t) (by rw [List.length_set];omega)) sp)) ?_
        refine .z zm (.z gM ?_)
        refine .q hs (dF (k:=t) rfl rfl aa ae rfl ht) ?_
        refine .o (.store hs rfl rfl ae ?_ (.there (Upd.fS .here)) (by simp;omega) (yJ (by rw [List.length_set];omega) _ sp));intro w hs
        refine .nil ?_
        refine nB (nT ?_)
        have hrm:0≤rem (n+1) (wZ lf m y t):=cN fun v _=>by omega
        exact ⟨(Fs',eP es m ts (ik s.by_ t j),wZ lf m y t),by repeat (first|exact .nil rfl rfl|refine .cons rfl ?_),⟨⟨hqF',hC',hsend.1⟩,H2,hle02,hs⟩,by dsimp only;have:=hsend.2;omega⟩
    ·rintro fs w ⟨hfs,hl0,hs⟩
     refine WE.sub ?_ hfs
     obtain ⟨hik,hA',htr⟩:=hA.next hl0 hu
     obtain ⟨hxm,hxt,hxf⟩:ga s.by_ v∈cT es ts∧(ga s.by_ v).t=v∧gi s.cost (ga s.by_ v).f<free:=by
      rcases hby with ⟨h,_⟩|⟨_,h1,h2,h3,_⟩
      ·omega
      ·exact ⟨h1,h2,h3⟩
     have hxn:=(hg.ok _ hxm).1
     have hsF:=sG hl0
     generalize hgx:ga s.by_ v=x at*
     refine .block (.ai (.z zm (.z zm ?_)))
     refine .ixX (enc:=lE es) hs hRb rfl rfl cI cH (th (l:=s.by_) (i:=v) (by omega)) rfl ?_;intro b109 o109 hc109
     rw [hgx,px] at hc109
     refine .q hs (cj (vs:=[I (sH x),.bool (tZ es x)]) rfl Tryz.isAgg315 cH hc109) ?_
     refine .o (.alloc hs ql rfl ?_);intro b17 w hs
     refine .o (.aS (vs:=[I (sH x),.bool (tZ es x)]) hs rfl rfl cH ?_);intro w hs
     refine .nil (.seq (.ai (.z (zfa jg) ?_)))
     first|refine .q hs (dE rfl lx (hm:=by repeat (first|exact .here|assumption|exact Mem.row (by omega) (by omega)|refine .there ?_|refine Mem.fS ?_)) (hv:=by first|rfl|exact cQ (by omega)|exact fl (by assumption) (by omega) (by omega)|exact eI (by first|assumption|omega))) ?_|refine .q hs (aM rfl lx (by assumption)) ?_
     refine .nil ?_
     refine (.cond rfl (fun hc112=>?_) (fun hc112=>?_))
     ·refine .draw mix rfl hs ?_;intro w hs
      refine .z 0 rfl zm ?_;refine .z 1 rfl zm ?_;refine .z 2 rfl zm ?_
      refine .p (i:=3) rfl (by kernel_rfl) .none (dF (k:=v) rfl rfl an aA rfl hv) ?_
      first|refine .load (i:=4) hs rfl (by kernel_rfl) .none rfl ak ?_ (by repeat (first|exact .here|assumption|exact Mem.row (by omega) (by omega)|refine .there ?_|refine Mem.fS ?_)) (by first|rfl|exact cQ (by omega)|exact fl (by assumption) (by omega) (by omega)|exact eI (by first|assumption|omega))|refine .r (i:=4) hs rfl (by kernel_rfl) .none (aM rfl ak (by assumption)) ?_
      refine .z 5 rfl (zfa cU) ?_
      first|refine .load (i:=6) hs rfl (by kernel_rfl) .none rfl af ?_ (by repeat (first|exact .here|assumption|exact Mem.row (by omega) (by omega)|refine .there ?_|refine Mem.fS ?_)) (by first|rfl|exact cQ (by omega)|exact fl (by assumption) (by omega) (by omega)|exact eI (by first|assumption|omega))|refine .r (i:=6) hs rfl (by kernel_rfl) .none (aM rfl af (by assumption)) ?_
      rw [hsF] at hs ⊢
      refine .p (i:=7) rfl (by kernel_rfl) .none (dF (k:=x.f) rfl rfl aa ae rfl hxn) ?_
      first|refine .load (i:=8) hs rfl (by kernel_rfl) .none rfl af ?_ (by repeat (first|exact .here|assumption|exact Mem.row (by omega) (by omega)|refine .there ?_|refine Mem.fS ?_)) (by first|rfl|exact cQ (by omega)|exact fl (by assumption) (by omega) (by omega)|exact eI (by first|assumption|omega))|refine .r (i:=8) hs rfl (by kernel_rfl) .none (aM rfl af (by assumption)) ?_
      refine .z 9 rfl Ad ?_;refine .z 10 rfl zg ?_
      refine .done (by kernel_rfl) hs ?_ (hp:=by repeat (first|exact .nil|refine .cons (by first|exact HLe.bot _|exact HLe.refl _|assumption) (by first|exact .nil|(refine Sub.one ?_;repeat (first|exact .here|assumption|exact Mem.row (by omega) (by omega)|refine .there ?_|refine Mem.fS ?_))) ?_))
      refine nT ?_
      refine .region (.z (zfa cU) ?_)
      first|refine .q hs (dE rfl af (hm:=by repeat (first|exact .here|assumption|exact Mem.row (by omega) (by omega)|refine .there ?_|refine Mem.fS ?_)) (hv:=by first|rfl|exact cQ (by omega)|exact fl (by assumption) (by omega) (by omega)|exact eI (by first|assumption|omega))) ?_|refine .q hs (aM rfl af (by assumption)) ?_
      try rw [hsF]
      refine .z zg (.nil ?_)
      refine nB (nT ?_)
      have hnf:=Ax hc112
      have hcb:=(hC.back hT hxm hnf).1
      rw [hxt] at hcb
      exact ⟨(i+1,x.f),.cons rfl (.cq rfl (by dsimp only;rw [htr,lO,if_neg hnf,hcb]) (by repeat (first|exact .nil rfl rfl|refine .cons rfl ?_))),⟨hA',⟨hxn,hxf⟩,hs.tail⟩,by dsimp only;omega⟩
     ·refine .skip ?_
      refine nT ?_
      refine .region (.z (zfa cU) ?_)
      first|refine .q hs (dE rfl af (hm:=by repeat (first|exact .here|assumption|exact Mem.row (by omega) (by omega)|refine .there ?_|refine Mem.fS ?_)) (hv:=by first|rfl|exact cQ (by omega)|exact fl (by assumption) (by omega) (by omega)|exact eI (by first|assumption|omega))) ?_|refine .q hs (aM rfl af (by assumption)) ?_
      try rw [hsF]
      refine .z zg (.nil ?_)
      refine nB (nT ?_)
      have hnf:=Ay hl0 (by simpa using hc112)
      exact ⟨(i+1,x.f),.cons rfl (.cq rfl (by dsimp only;rw [htr,lO,if_pos hnf]) (by repeat (first|exact .nil rfl rfl|refine .cons rfl ?_))),⟨hA',⟨hxn,hxf⟩,hs.tail⟩,by dsimp only;omega⟩
theorem im{p:Prop}[Decidable p]:(!decide p)=true↔¬p:=by simp
theorem gB{p:Prop}[Decidable p]:(!decide p)=false↔p:=by simp
theorem eS{H:bn}{w:World}{σ:List Ent}{a0 a1 a2:Int}(hs:St H w σ):Cl Tryz.prog 221 [I a0,I a1,I a2] w fun v w'=>v= .bool (decide (a1≤a0∧a0≤a2))∧St H w' σ:=by
 refine Cl.of Tryz.func221 rfl Tryz.ntmps221 (by simp) (aj (k:=0) rfl (aj (k:=1) rfl (aj (k:=2) rfl (bh)))) ?_
 refine .ai (.z zg (.nil (.ai (.z zm (.z zm (.z wH (.z zm ?_)))))))
 refine .iE (t':=10) rfl (fun hb10=>?_) (fun hb10=>?_)
 ·refine .gT rfl rfl ?_
  refine .z zm ?_
  refine .gT rfl rfl ?_
  refine .z zm ?_
  refine .gT rfl rfl ?_
  refine .z wH (.z zpT (.z zg (.nil ?_)))
  refine .ret (Fin.bI Tryz.results221 rfl ?_)
  exact ⟨by simp [*],hs.out⟩
 ·refine .gFs 3 3 true rfl rfl rfl ?_
  refine .z zpF (.z zg (.nil ?_))
  refine .ret (Fin.bI Tryz.results221 rfl ?_)
  exact ⟨by simp [*],hs.out⟩
theorem ng{H:bn}{w:World}{σ:List Ent}{many:Int}{l:Lim}(hs:St H w σ):Cl Tryz.prog 232 [I many,.agg l.c.toArray] w fun v w'=>v=I (if decide (0≤many∧many≤64)&&l.ok many then 0 else 20)∧St H w' σ:=by
 refine Cl.of Tryz.func232 rfl Tryz.ntmps232 (by simp) (aj (k:=0) rfl (aj (k:=1) rfl (bh))) ?_
 refine .ai ?_
 refine .o (.box hs rfl rfl ?_);intro b3 w hs
 refine .z zg (.nil (.seq (.ai (.z zm ?_))))
 refine .o (.call pc rfl (eS hs) ?_);rintro _ w ⟨rfl,hs⟩
 refine .z iI (.z zm ?_)
 refine .bif (t':=8) rfl (fun hb8=>?_) (fun hb8=>?_)
 ·refine .gFs 5 3 false rfl rfl rfl ?_
  refine .z zpT (.z zm ?_)
  refine .gFs 5 10 false rfl rfl rfl ?_
  refine .z zpT (.z zm ?_)
  refine .gFs 5 17 false rfl rfl rfl ?_
  refine .z zpT (.z zm ?_)
  refine .gFs 4 24 false rfl rfl rfl ?_
  refine .z zpT (.z zm ?_)
  refine .gFs 4 30 false rfl rfl rfl ?_
  refine .z zpT (.nil ?_)
  refine (.fj rfl (by first|rfl|exact decide_eq_true (by assumption)) ?_)
  refine .ai (.z zg (.nil ?_))
  refine .ret (rT (Fin.bI jb rfl ?_))
  (try simp only [im] at*)
  (try simp only [gB] at*)
  refine ⟨congrArg I ?_,hs.out⟩
  unfold Lim.ok
  first
   |(rw [if_pos (by simp only [Bool.and_eq_true,decide_eq_true_eq];omega)];done)
   |(rw [if_neg (by simp only [Bool.and_eq_true,decide_eq_true_eq];omega)];done)
 ·refine .gT rfl rfl ?_
  refine .z (zfa eQ) ?_
  refine .gT rfl rfl ?_
  refine .y hs (zld af) ?_
  refine .gT rfl rfl ?_
  refine .z zm ?_
  refine .gT rfl rfl ?_
  refine .o (.call pc rfl (eS hs) ?_);rintro _ w ⟨rfl,hs⟩
  refine .gT rfl rfl ?_
  refine .z iI (.z zpF (.z zm ?_))
  refine .bif (t':=15) rfl (fun hb15=>?_) (fun hb15=>?_)
  ·refine .gFs 5 10 false rfl rfl rfl ?_
   refine .z zpT (.z zm ?_)
   refine .gFs 5 17 false rfl rfl rfl ?_
   refine .z zpT (.z zm ?_)
   refine .gFs 4 24 false rfl rfl rfl ?_
   refine .z zpT (.z zm ?_)
   refine .gFs 4 30 false rfl rfl rfl ?_
   refine .z zpT (.nil ?_)
   refine (.fj rfl (by first|rfl|exact decide_eq_true (by assumption)) ?_)
   refine .ai (.z zg (.nil ?_))
   refine .ret (rT (Fin.bI jb rfl ?_))
   (try simp only [im] at*)
   (try simp only [gB] at*)
   refine ⟨congrArg I ?_,hs.out⟩
   unfold Lim.ok
   first
    |(rw [if_pos (by simp only [Bool.and_eq_true,decide_eq_true_eq];omega)];done)
    |(rw [if_neg (by simp only [Bool.and_eq_true,decide_eq_true_eq];omega)];done)
  ·refine .gT rfl rfl ?_
   refine .z (zfa ft) ?_
   refine .gT rfl rfl ?_
   refine .y hs (zld af) ?_
   refine .gT rfl rfl ?_
   refine .z zm ?_
   refine .gT rfl rfl ?_
   refine .o (.call pc rfl (eS hs) ?_);rintro _ w ⟨rfl,hs⟩
   refine .gT rfl rfl ?_
   refine .z iI (.z zpF (.z zm ?_))
   refine .bif (t':=22) rfl (fun hb22=>?_) (fun hb22=>?_)
   ·refine .gFs 5 17 false rfl rfl rfl ?_
    refine .z zpT (.z zm ?_)
    refine .gFs 4 24 false rfl rfl rfl ?_
    refine .z zpT (.z zm ?_)
    refine .gFs 4 30 false rfl rfl rfl ?_
    refine .z zpT (.nil ?_)
    refine (.fj rfl (by first|rfl|exact decide_eq_true (by assumption)) ?_)
    refine .ai (.z zg (.nil ?_))
    refine .ret (rT (Fin.bI jb rfl ?_))
    (try simp only [im] at*)
    (try simp only [gB] at*)
    refine ⟨congrArg I ?_,hs.out⟩
    unfold Lim.ok
    first
     |(rw [if_pos (by simp only [Bool.and_eq_true,decide_eq_true_eq];omega)];done)
     |(rw [if_neg (by simp only [Bool.and_eq_true,decide_eq_true_eq];omega)];done)
   ·refine .gT rfl rfl ?_
    refine .z (zfa eQ) ?_
    refine .gT rfl rfl ?_
    refine .y hs (zld af) ?_
    refine .gT rfl rfl ?_
    refine .z (zfa ft) ?_
    refine .gT rfl rfl ?_
    refine .y hs (zld af) ?_
    refine .gT rfl rfl ?_
    refine .z fA (.z zpF (.z zm ?_))
    refine .iE (t':=29) rfl (fun hb29=>?_) (fun hb29=>?_)
    ·refine .gFs 4 24 false rfl rfl rfl ?_
     refine .z zpT (.z zm ?_)
     refine .gFs 4 30 false rfl rfl rfl ?_
     refine .z zpT (.nil ?_)
     refine (.fj rfl (by first|rfl|exact decide_eq_true (by assumption)) ?_)
     refine .ai (.z zg (.nil ?_))
     refine .ret (rT (Fin.bI jb rfl ?_))
     (try simp only [im] at*)
     (try simp only [gB] at*)
     refine ⟨congrArg I ?_,hs.out⟩
     unfold Lim.ok
     first
      |(rw [if_pos (by simp only [Bool.and_eq_true,decide_eq_true_eq];omega)];done)
      |(rw [if_neg (by simp only [Bool.and_eq_true,decide_eq_true_eq];omega)];done)
    ·refine .gT rfl rfl ?_
     refine .z (zfa gW) ?_
     refine .gT rfl rfl ?_
     refine .y hs (zld af) ?_
     refine .gT rfl rfl ?_
     refine .o (.call pc rfl (eS hs) ?_);rintro _ w ⟨rfl,hs⟩
     refine .gT rfl rfl ?_
     refine .z iI (.z zpF (.z zm ?_))
     refine .bif (t':=35) rfl (fun hb35=>?_) (fun hb35=>?_)
     ·refine .gFs 4 30 false rfl rfl rfl ?_
      refine .z zpT (.nil ?_)
      refine (.fj rfl (by first|rfl|exact decide_eq_true (by assumption)) ?_)
      refine .ai (.z zg (.nil ?_))
      refine .ret (rT (Fin.bI jb rfl ?_))
      (try simp only [im] at*)
      (try simp only [gB] at*)
      refine ⟨congrArg I ?_,hs.out⟩
      unfold Lim.ok
      first
       |(rw [if_pos (by simp only [Bool.and_eq_true,decide_eq_true_eq];omega)];done)
       |(rw [if_neg (by simp only [Bool.and_eq_true,decide_eq_true_eq];omega)];done)
     ·refine .gT rfl rfl ?_
      refine .z (zfa gd) ?_
      refine .gT rfl rfl ?_
      refine .y hs (zld af) ?_
      refine .gT rfl rfl ?_
      refine .o (.call pc rfl (eS hs) ?_);rintro _ w ⟨rfl,hs⟩
      refine .gT rfl rfl ?_
      refine .z iI (.z zpF (.nil ?_))
      refine (.cond rfl (fun hc40=>?_) (fun hc40=>?_))
      ·refine .ai (.z zg (.nil ?_))
       refine .ret (rT (Fin.bI jb rfl ?_))
       (try simp only [im] at*)
       (try simp only [gB] at*)
       refine ⟨congrArg I ?_,hs.out⟩
       unfold Lim.ok
       first
        |(rw [if_pos (by simp only [Bool.and_eq_true,decide_eq_true_eq];omega)];done)
        |(rw [if_neg (by simp only [Bool.and_eq_true,decide_eq_true_eq];omega)];done)
      ·refine .skip ?_
       refine nT ?_
       refine .ai (.z zg (.nil ?_))
       refine .ret (Fin.bI jb rfl ?_)
       (try simp only [im] at*)
       (try simp only [gB] at*)
       refine ⟨congrArg I ?_,hs.out⟩
       unfold Lim.ok
       first
        |(rw [if_pos (by simp only [Bool.and_eq_true,decide_eq_true_eq];omega)];done)
        |(rw [if_neg (by simp only [Bool.and_eq_true,decide_eq_true_eq];omega)];done)
theorem jR{H:bn}{w:World}{σ:List Ent}{v:Value}{s:cB}(hs:St H w σ)(hr:RSy H v s):Cl Tryz.prog 182 [v] w fun v w'=>v=I s.check∧St H w' σ:=by
 obtain ⟨u,rfl,hr⟩:=hr
 obtain ⟨a,c,rfl⟩:=RL.shape hr
 have hlen:=(RS.len (RS.recap hr (Nat.le_refl _) (cap':=s.cz.length))).2.2
 refine Cl.of Tryz.func182 rfl Tryz.ntmps182 (by simp) (aj (k:=0) rfl (bh)) ?_
 refine .ai ?_
 refine .o (.box hs rfl rfl ?_);intro b1 w hs
 refine .z zg (.nil (.seq (.ai (.z (zfa bE) (.y hs (zld af) ?_)))))
 refine .o (.call pc rfl (eS hs) ?_);rintro _ w ⟨rfl,hs⟩
 refine .z iI (.nil ?_)
 refine (.cond rfl (fun hc8=>?_) (fun hc8=>?_))
 ·refine .ai (.z zg (.nil ?_))
  refine .ret (rT (Fin.bI tO rfl ?_))
  exact ⟨congrArg I (by unfold cB.check;rw [if_pos (by simp at hc8;omega)]),hs.out⟩
 ·refine .skip ?_
  refine nT ?_
  refine .seq (.ai (.z (zfa bD) (.y hs (zld cD) (.z (cM aQ) (.z lk (.nil ?_))))))
  refine (.bJ rfl (fun hc12=>?_) (fun hc12=>?_))
  ·refine .ai (.z zg (.nil ?_))
   refine .ret (rT (Fin.bI tO rfl ?_))
   exact ⟨congrArg I (by unfold cB.check;rw [if_neg (by simpa using hc8),if_pos (by omega)]),hs.out⟩
  ·refine .skip ?_
   refine nT ?_
   refine .seq (.ai (.z (zfa bD) (.y hs (zld cD) (.z (cM aQ) (.z zm (.nil ?_))))))
   refine .for (N:=s.cz.length) (J:=fun k fr w=>fr=[(14,.slice a s.cz.length c),(1,.pointer (some ⟨b1,0,none⟩))]∧(∀j<k,∀l,s.cz[j]? =some l→l.ok s.many=true)∧St H w (.blk b1 [I s.many,.slice a s.cz.length c]::σ)) (by omega) ?_ ?_ ?_
   ·exact .mk ⟨rfl,fun j hj=>by omega,hs⟩
   ·rintro k fr w hk ⟨rfl,hno,hs⟩
    obtain ⟨x,hx⟩:=nth (l:=s.cz) hk
    refine .block (.ai ?_)
    refine .ixX (enc:=Lim.c) hs hr rfl rfl aQ bj hx rfl ?_;intro b18 o18 hc18
    refine .q hs (cj (vs:=x.c) rfl dY bj hc18) ?_
    refine .o (.alloc hs dB rfl ?_);intro b4 w hs
    refine .o (.aS (vs:=x.c) hs rfl rfl bj ?_);intro w hs
    refine .nil (.ai (.z (zfa bE) (.y hs (zld af) ?_)))
    refine .q hs (kq (vs:=x.c) rfl dY bj) ?_
    refine .o (.call Tryz.call232 rfl (ng hs) ?_);rintro _ w ⟨rfl,hs⟩
    have hmm:0≤s.many∧s.many≤64:=by simpa using hc8
    rw [show (decide (0≤s.many∧s.many≤64)&&x.ok s.many)=x.ok s.many by rw [decide_eq_true hmm];rfl]
    refine .z iA (.nil ?_)
    refine (.e9 rfl (fun hc24=>?_) (fun hc24=>?_))
    ·refine .ai (.z zg (.nil ?_))
     refine .ret (rB (rT (rB (rT (Fin.bI tO rfl ?_)))))
     exact ⟨congrArg I (by
      have hx0:x.ok s.many=false:=by cases e:x.ok s.many with|false=>rfl|true=>rw [e] at hc24;simp at hc24
      unfold cB.check;rw [if_neg (by simpa using hc8),if_neg (by omega),if_pos (List.any_eq_true.2 ⟨x,List.mem_of_getElem? hx,by rw [hx0];rfl⟩)]),hs.out⟩
    ·refine .skip ?_
     refine nB (nT ?_)
     exact .mk ⟨rfl,eK hno hx (by cases e:x.ok s.many with|true=>rfl|false=>rw [e] at hc24;simp at hc24),hs.tail⟩
   ·rintro fr w ⟨rfl,hno,hs⟩
    refine nT ?_
    refine .ai (.z zg (.nil ?_))
    refine .ret (Fin.bI tO rfl ?_)
    exact ⟨congrArg I (by
     have hall:(s.cz.any fun l=> !l.ok s.many)=false:=by
      simp only [List.any_eq_false,Bool.not_eq_true',Bool.not_eq_false]
      intro l hl
      obtain ⟨j,hj⟩:=List.getElem?_of_mem hl
      exact hno j (List.getElem?_eq_some_iff.1 hj).1 l hj
     unfold cB.check;rw [if_neg (by simpa using hc8),if_neg (by omega),hall];rfl),hs.out⟩
theorem rK{H:bn}{w:World}{σ:List Ent}{v:Value}{ws:List Int}(hs:St H w σ)(hr:RI H v ws):Cl Tryz.prog 271 [v] w fun v w'=>∃b,v= .bool b∧(b=true↔fX ws)∧St H w' σ:=by
 obtain ⟨a,c,rfl⟩:=RI.shape hr
 have hl:=(RI.len hr).2.2
 refine Cl.of Tryz.func271 rfl Tryz.ntmps271 (by simp) (aj (k:=0) rfl (bh)) ?_
 refine .ai (.z zg (.nil (.ai (.z zg (.nil (.seq (.ai (.z zm (.z (cM aa) ?_)))))))))
 refine .z zm (.nil ?_)
 refine .for (N:=ws.length) (J:=fun k fr w=>fr=[(6,.slice a ws.length c),(3,I (bB ws k))]∧bB ws k≤3600000000000∧St H w σ) (by omega) ?_ ?_ ?_
 ·exact .mk ⟨rfl,by simp [bB,a8],hs⟩
 ·rintro k fr w hk ⟨rfl,hle,hs⟩
  have hx:=br hk
  have h0:0≤bB ws k:=cN fun v _=>by omega
  have h1:bB ws (k+1)=bB ws k+max (gi ws k) (-gi ws k):=rfl
  refine .block (.ai ?_)
  first|(refine .ixv hs aa ae ?_;intro b10 o10 hc10)|refine .z (zix aa ae) ?_
  refine .y hs (zld af) (.z zg (.nil (.seq (.ai (.z zm (.z fN (.z zm ?_)))))))
  refine .iE (t':=14) rfl (fun hb14=>?_) (fun hb14=>?_)
  ·refine .gFs 2 2 false rfl rfl rfl ?_
   refine .z zpT (.nil ?_)
   refine (.fj rfl (by first|rfl|exact decide_eq_true (by assumption)) ?_)
   refine .ai (.z zg (.nil ?_))
   refine .ret (rT (rB (rT (rB (rT (Fin.bI tK rfl ?_))))))
   exact ⟨false,rfl,⟨fun h=>(by cases h),fun h=>(lG (k:=k+1) hk (by simp only [FF];omega) h).elim⟩,hs⟩
  ·refine .gT rfl rfl ?_
   refine .z zm ?_
   refine .gT rfl rfl ?_
   refine .z lk (.z zpF (.nil ?_))
   refine (.bJ rfl (fun hc17=>?_) (fun hc17=>?_))
   ·refine .ai (.z zg (.nil ?_))
    refine .ret (rT (rB (rT (rB (rT (Fin.bI tK rfl ?_))))))
    exact ⟨false,rfl,⟨fun h=>(by cases h),fun h=>(lG (k:=k+1) hk (by simp only [FF];omega) h).elim⟩,hs⟩
   ·refine .skip ?_
    refine nT ?_
    refine .ai (.z zm (.z zm (.z zm (.z xI (.z DA (.z cA (.z zg (.nil (.ai ?_)))))))))
    refine .z zm (.z lk (.nil ?_))
    refine (.bJ rfl (fun hc25=>?_) (fun hc25=>?_))
    ·refine .ai (.z zg (.nil ?_))
     refine .ret (rB (rT (rB (rT (Fin.bI tK rfl ?_)))))
     exact ⟨false,rfl,⟨fun h=>(by cases h),fun h=>(lG (k:=k+1) hk (by simp only [FF];omega) h).elim⟩,hs⟩
    ·refine .skip ?_
     refine nB (nT ?_)
     exact .mk ⟨rfl,by omega,hs⟩ (hs:= .cons rfl (.cons rfl (.cons rfl (.cq rfl (by omega) (.nil rfl rfl)))))
 ·rintro fr w ⟨rfl,hle,hs⟩
  refine nT ?_
  refine .ai (.z zg (.nil ?_))
  refine .ret (Fin.bI tK rfl ?_)
  exact ⟨true,rfl,⟨fun _=>hle,fun _=>rfl⟩,hs⟩
theorem pC{H:bn}{w:World}{σ:List Ent}{v vw:Value}{s:cB}{ws:List Int}(hs:St H w σ)(hr:RSy H v s)(hrw:RI H vw ws)(hm:0≤s.many∧s.many≤64):Cl Tryz.prog 225 [v,vw] w fun v w'=>∃b,v= .bool b∧(b=true↔(ws.length=s.n∧fX ws))∧St H w' σ:=by
 obtain ⟨u,rfl,hr⟩:=hr
 obtain ⟨aw,cw,rfl⟩:=RI.shape hrw
 have hn:(s.n:Int)=s.many+1:=by simp only [cB.n];omega
 refine Cl.of Tryz.func225 rfl Tryz.ntmps225 (by simp) (aj (k:=0) rfl (aj (k:=1) rfl (bh))) ?_
 refine .ai ?_
 refine .o (.box hs rfl rfl ?_);intro b2 w hs
 refine .z zg (.nil (.ai (.z zm (.z (cM aa) (.z (zfa bE) (.y hs (zld af) (.z cA (.z fA (.z zm ?_)))))))))
 refine .iE (t':=11) rfl (fun hb11=>?_) (fun hb11=>?_)
 ·refine .gT rfl rfl ?_
  refine .z zm ?_
  refine .gT rfl rfl ?_
  refine .o (.call Tryz.call271 rfl (rK hs hrw) ?_);rintro _ w ⟨b,rfl,hb,hs⟩
  refine .z zpT (.z zg (.nil ?_))
  refine .ret (Fin.bI Tryz.results225 rfl ?_)
  first
   |exact ⟨b,rfl,⟨fun h=>⟨by omega,hb.1 h⟩,fun h=>hb.2 h.2⟩,hs.out⟩
   |exact ⟨false,rfl,⟨fun h=>(by cases h),fun h=>by omega⟩,hs.out⟩
 ·refine .gFs 2 6 true rfl rfl rfl ?_
  refine .z zpF (.z zg (.nil ?_))
  refine .ret (Fin.bI Tryz.results225 rfl ?_)
  first
   |exact ⟨b,rfl,⟨fun h=>⟨by omega,hb.1 h⟩,fun h=>hb.2 h.2⟩,hs.out⟩
   |exact ⟨false,rfl,⟨fun h=>(by cases h),fun h=>by omega⟩,hs.out⟩
theorem rP{H:bn}{w:World}{σ:List Ent}{v vw:Value}{s:cB}{ws:List Int}(hs:St H w σ)(hr:RSy H v s)(hrw:RI H vw ws):Cl Tryz.prog 170 [v,vw] w fun v w'=>v=I (ea s ws)∧St H w' σ:=by
 obtain ⟨u,rfl,hr⟩:=hr
 obtain ⟨al,cl,rfl⟩:=RL.shape hr
 obtain ⟨aw,cw,rfl⟩:=RI.shape hrw
 refine Cl.of Tryz.func170 rfl Tryz.ntmps170 (by simp) (aj (k:=0) rfl (aj (k:=1) rfl (bh))) ?_
 refine .ai ?_
 refine .o (.box hs rfl rfl ?_);intro b2 w hs
 refine .z zg (.nil (.ai (.y hs (zls [_,_] aU aB) ?_)))
 refine .o (.call Tryz.call182 rfl (jR (s:=s) hs ⟨_,rfl,hr⟩) ?_);rintro _ w ⟨rfl,hs⟩
 refine .z zg (.nil (.seq (.ai (.z zm (.z fA (.z zm ?_))))))
 refine .iE (t':=10) rfl (fun hb10=>?_) (fun hb10=>?_)
 ·refine .gT rfl rfl ?_
  have hok:=s.dn.1 hb10
  have hm0:=hok.m0;have hm1:=hok.m1
  refine .y hs (zls [_,_] aU aB) ?_
  refine .gT rfl rfl ?_
  refine .z zm ?_
  refine .gT rfl rfl ?_
  refine .o (.call Tryz.call225 rfl (pC (s:=s) hs ⟨_,rfl,hr⟩ hrw ⟨hm0,hm1⟩) ?_);rintro _ w ⟨b,rfl,hb,hs⟩
  refine .gT rfl rfl ?_
  refine .z iI (.z zpT (.nil ?_))
  refine (.cond rfl (fun hc15=>?_) (fun hc15=>?_))
  ·refine .region (.z zg (.nil ?_))
   refine nT ?_
   refine .ai (.z zm (.z zg (.nil ?_)))
   refine .ret (Fin.bI BQ rfl ?_)
   refine ⟨congrArg I ?_,hs.out⟩
   unfold ea
   first
    |(rw [if_neg (by omega),if_neg (fun h=>by have:=hb.2 h;simp_all)];done)
    |(rw [if_neg (by omega),if_pos (hb.1 (by simpa using hc15))];omega)
    |(rw [if_pos (by assumption)];done)
  ·refine .skip ?_
   refine nT ?_
   refine .ai (.z zm (.z zg (.nil ?_)))
   refine .ret (Fin.bI BQ rfl ?_)
   refine ⟨congrArg I ?_,hs.out⟩
   unfold ea
   first
    |(rw [if_neg (by omega),if_neg (fun h=>by have:=hb.2 h;simp_all)];done)
    |(rw [if_neg (by omega),if_pos (hb.1 (by simpa using hc15))];omega)
    |(rw [if_pos (by assumption)];done)
 ·refine .gFs 4 2 true rfl rfl rfl ?_
  refine .z zpF (.nil ?_)
  refine (.mj rfl (by first|rfl|exact decide_eq_false (by assumption)) ?_)
  refine .skip ?_
  refine nT ?_
  refine .ai (.z zm (.z zg (.nil ?_)))
  refine .ret (Fin.bI BQ rfl ?_)
  refine ⟨congrArg I ?_,hs.out⟩
  unfold ea
  first
   |(rw [if_neg (by omega),if_neg (fun h=>by have:=hb.2 h;simp_all)];done)
   |(rw [if_neg (by omega),if_pos (hb.1 (by simpa using hc15))];omega)
   |(rw [if_pos (by assumption)];done)
theorem oK{H:bn}{w:World}{σ:List Ent}{v:Value}{ws:List Int}(hs:St H w σ)(hr:RI H v ws)(hl:ws.length≤1000)(hz:fX ws):Cl Tryz.prog 228 [v] w fun u w'=>∃H1,HLe H H1∧RI H1 u (oP ws)∧St H1 w' σ:=by
 obtain ⟨a,c,rfl⟩:=RI.shape hr
 have hFF:FF=3600000000000:=rfl
 unfold fX at hz
 refine Cl.of Tryz.func228 rfl Tryz.ntmps228 (by simp) (aj (k:=0) rfl (bh)) ?_
 refine .ai (.z zg (.nil (.ai (.z zg (.nil (.seq (.ai (.z zm (.z (cM aa) ?_)))))))))
 refine .z zm (.nil ?_)
 refine .for (N:=ws.length) (J:=fun k fr w=>∃v3 en,cu 1 v3 (Is (oP (ws.take k))) en∧fr=[(3,v3),(6,.slice a ws.length c)]∧St H w (en::σ)) (by omega) ?_ ?_ ?_
 ·exact .mk ⟨_,_,.nil 1 none,rfl,hs.nul⟩
 ·rintro k fr w hk ⟨v3,en,hO,rfl,hs⟩
  have hx:=br hk
  have hsz:=hZ ws (v:=k) (n:=ws.length) hk
  refine .block (.ai ?_)
  refine .ixY hs hr rfl rfl aa ae hx rfl ?_;intro b10 o10 hc10
  refine .q hs (aM rfl af hc10) ?_
  refine .z zg (.nil (.region (.z zm (.z zm (.z xI ?_)))))
  refine .o (.buildSlice (cells:=[_]) hs cV rfl rfl ?_);intro b15 w hs
  refine .o (.append (ys:=[I (-gi ws k)]) hs bP rfl rfl hO (.own .here rfl rfl) (by simp [Value.oneCell']) (fun l' h=>by simp [oP] at h;omega) ?_);intro v16 en16 w hO2 hs
  refine .z zg (.nil ?_)
  refine nB (nT ?_)
  exact .mk ⟨v16,en16,by rw [dK hx];simpa [oP] using hO2,rfl,hs.sub (by repeat (first|exact Sub.refl _|constructor|apply Sub.weaken))⟩
 ·rintro fr w ⟨v3,en,hO,rfl,hs⟩
  rw [List.take_length] at hO
  refine nT ?_
  refine .ai (.z zm (.z zg (.nil ?_)))
  refine .ret (Fin.bI Tryz.results228 rfl ?_)
  obtain ⟨H2,g1,g2,hs⟩:=hO.df (by simp [oP];omega) hs .here
  exact ⟨H2,g1,g2,hs⟩
theorem nf{H:bn}{w:World}{σ:List Ent}{vm vw:Value}{s:cB}{Ms:List (List Int)}{ws:List Int}(hs:St H w σ)(hM:RT H vm Ms)(hqM:Sq s.n Ms)(hT:ir s.n s.di (gt Ms))(hrw:RI H vw ws)(hA:ea s ws=0):
  Cl Tryz.prog 227 [vm,vw] w fun u w'=>∃H1 n e,HLe H H1∧u= .tuple #[I n,I e]∧mO s ws n e∧St H1 w' σ:=by
 obtain ⟨hok,hwl,hz⟩:=kA hA
 have hinn:=hok.inn
 have hn65:=hok.n65
 have hnp:=s.zP
 obtain ⟨fs,hF⟩:=zE s.n (gt Ms)
 have hsd:=qv hok hT
 have hz2:bB ws s.n≤FF:=by unfold fX at hz;rwa [hwl] at hz
 refine Cl.of Tryz.func227 rfl Tryz.ntmps227 (by simp) (aj (k:=0) rfl (aj (k:=1) rfl (bh))) ?_
 refine .ai (.z zg (.z zg (.nil (.seq (.ai (.z zm ?_))))))
 refine .o (.call Tryz.call233 rfl (jQ hs hM hqM (by omega)) ?_);rintro _ w ⟨b,rfl,hb,hs⟩
 refine .z iI (.nil ?_)
 refine (.cond rfl (fun hc10=>?_) (fun hc10=>?_))
 ·refine .ai (.z zg (.z zg (.nil ?_)))
  refine .ret (rT (Fin.lg BN rfl rfl ?_))
  have hb0:b=false:=by simpa using hc10
  exact ⟨H,0,23,HLe.refl H,rfl,s5 hA (fun h=>by have:=hb.2 (hsd.1 h);rw [hb0] at this;cases this),hs⟩
 ·refine .skip ?_
  refine nT ?_
  refine .ai (.z zm (.z zm ?_))
  have hso:s.Sound:=hsd.2 (hb.1 (by simpa using hc10))
  refine .o (.call Tryz.call272 rfl (rQ (n:=s.many.toNat) (es:=fs) hs hM hqM hrw hwl hn65 hz2 hF (by obtain ⟨p,hp⟩:=hso;exact ⟨p,(hT.Bi hinn hF).2 hp⟩)
   (fun x hx=>by
    obtain ⟨b1,b2,b3,b4,b5⟩:=hF.ok x hx
    have h1:=hT.up x.f x.t b1 b2 (by rw [b4];exact b5)
    have h2:=hT.low hnp hn65 hinn hso b1 b2 (by rw [b4];exact b5)
    rw [b4] at h1 h2
    exact ⟨h2,h1⟩)
   (fun m hm=>by
    have:=(hok.bd hwl hz ((hT.opt hinn hF).1 hm)).2
    exact ⟨this.2,this.1⟩)) ?_);rintro _ w ⟨H1,n,ok,hle1,rfl,hcase,hs⟩
  refine .z zm (.z zex (.z zex (.z zg (.z zg (.nil (.seq (.ai (.z zm (.z iI ?_)))))))))
  refine .nil ?_
  refine (.cond rfl (fun hc18=>?_) (fun hc18=>?_))
  ·refine .ai (.z zg (.z zg (.nil ?_)))
   refine .ret (rT (Fin.lg BN rfl rfl ?_))
   have hk0:ok=false:=by simpa using hc18
   rcases hcase with ⟨h,_⟩|⟨_,h⟩
   ·rw [hk0] at h;cases h
   ·exact ⟨H1,0,22,hle1,rfl,zR hA hso hT hF h,hs⟩
  ·refine .skip ?_
   refine nT ?_
   refine .ai (.z zm (.z zg (.z zg (.nil ?_))))
   refine .ret (Fin.lg BN rfl rfl ?_)
   have hk0:ok=true:=by simpa using hc18
   rcases hcase with ⟨_,h⟩|⟨h,_⟩
   ·exact ⟨H1,n,0,hle1,rfl,A0 hA hT hF h,hs⟩
   ·rw [hk0] at h;cases h
theorem sP{H:bn}{w:World}{σ:List Ent}{v vw:Value}{s:cB}{ws:List Int}(hs:St H w σ)(hr:RSy H v s)(hrw:RI H vw ws)(hA:ea s ws=0):
  Cl Tryz.prog 171 [v,vw] w fun u w'=>∃H1 lo hi e,HLe H H1∧u= .tuple #[I lo,I hi,I e]∧eY s ws lo hi e∧St H1 w' σ:=by
 obtain ⟨u,rfl,hr⟩:=hr
 obtain ⟨al,cl,rfl⟩:=RL.shape hr
 obtain ⟨hok,hwl,hz⟩:=kA hA
 have hn65:=hok.n65
 have hBB:BB=4608000000000000000:=rfl
 refine Cl.of Tryz.func171 rfl Tryz.ntmps171 (by simp) (aj (k:=0) rfl (aj (k:=1) rfl (bh))) ?_
 refine .ai ?_
 refine .o (.box hs rfl rfl ?_);intro b2 w hs
 refine .z zg (.z zg (.z zg (.nil (.ai (.y hs (zls [_,_] aU aB) ?_)))))
 refine .o (.call Tryz.call226 rfl (kn (s:=s) hs ⟨_,rfl,hr⟩ hok) ?_);rintro _ w ⟨H1,Ms,hle1,hM,hqM,hT,hs⟩
 refine .z zg (.nil (.ai (.z zm (.z zm ?_))))
 refine .o (.call Tryz.call227 rfl (nf (s:=s) hs hM hqM hT (hrw.mono hle1) hA) ?_);rintro _ w ⟨H2,n,e,hle2,rfl,hR,hs⟩
 refine .z zm (.z zex (.z zex (.z zg (.z zg (.nil (.seq (.ai (.z zm (.z iA ?_)))))))))
 refine .nil ?_
 refine (.e9 rfl (fun hc20=>?_) (fun hc20=>?_))
 ·refine .ai (.z zm (.z zg (.z zg (.z zg (.nil ?_)))))
  refine .ret (rT (Fin.Dc BP rfl rfl rfl ?_))
  exact ⟨H2,0,0,e,hle1.trans hle2,rfl,.first hR hc20,hs.out⟩
 ·refine .skip ?_
  refine nT ?_
  refine .ai (.z zm (.z zm ?_))
  obtain rfl:e=0:=by simpa using hc20
  refine .o (.call Tryz.call228 rfl (oK hs ((hrw.mono hle1).mono hle2) (by omega) hz) ?_);rintro _ w ⟨H3,hle3,hN,hs⟩
  refine .o (.call Tryz.call227 rfl (nf (s:=s) (ws:=oP ws) hs ((hM.mono hle2).mono hle3) hqM hT hN (by rw [qU];exact hA)) ?_);rintro _ w ⟨H4,n2,e2,hle4,rfl,hR2,hs⟩
  refine .z zm (.z zex (.z zex (.z zg (.z zg (.nil (.seq (.ai (.z zm (.z iA ?_)))))))))
  refine .nil ?_
  refine (.e9 rfl (fun hc30=>?_) (fun hc30=>?_))
  ·refine .ai (.z zm (.z zg (.z zg (.z zg (.nil ?_)))))
   refine .ret (rT (Fin.Dc BP rfl rfl rfl ?_))
   exact ⟨H4,0,0,e2,hle1.trans (hle2.trans (hle3.trans hle4)),rfl,.second hR hR2 hc30,hs.out⟩
  ·refine .skip ?_
   refine nT ?_
   refine .ai (.z zm ?_)
   obtain rfl:e2=0:=by simpa using hc30
   have hbd:=(hR2.2.2 rfl).2
   refine .z xI (.z zm (.z zg (.z zg (.z zg (.nil ?_)))))
   refine .ret (Fin.Dc BP rfl rfl rfl ?_)
   exact ⟨H4,-n2,n,0,hle1.trans (hle2.trans (hle3.trans hle4)),rfl,.ok hR hR2,hs.out⟩
theorem mw{H:bn}{w:World}{σ:List Ent}{v vw:Value}{s:cB}{ws:List Int}(hs:St H w σ)(hr:RSy H v s)(hrw:RI H vw ws):
  Cl Tryz.prog 88 [v,vw] w fun u w'=>∃H1 lo hi e,HLe H H1∧u= .tuple #[I lo,I hi,I e]∧eY s ws lo hi e∧St H1 w' σ:=by
 obtain ⟨u,rfl,hr⟩:=hr
 obtain ⟨al,cl,rfl⟩:=RL.shape hr
 obtain ⟨aw,cw,rfl⟩:=RI.shape hrw
 refine Cl.of Tryz.func88 rfl Tryz.ntmps88 (by simp) (aj (k:=0) rfl (aj (k:=1) rfl (bh))) ?_
 refine .ai ?_
 refine .o (.box hs rfl rfl ?_);intro b2 w hs
 refine .z zg (.z zg (.z zg (.nil (.ai (.y hs (zls [_,_] aU aB) (.z zm ?_))))))
 refine .o (.call Tryz.call170 rfl (rP (s:=s) hs ⟨_,rfl,hr⟩ hrw) ?_);rintro _ w ⟨rfl,hs⟩
 refine .z zg (.nil (.seq (.ai (.z zm (.z iA (.nil ?_))))))
 refine (.e9 rfl (fun hc12=>?_) (fun hc12=>?_))
 ·refine .ai (.z zm (.z zg (.z zg (.z zg (.nil ?_)))))
  refine .ret (rT (Fin.Dc Tryz.results88 rfl rfl rfl ?_))
  exact ⟨H,0,0,_,HLe.refl H,rfl,.first ⟨.bad hc12,fun _=>rfl,fun h=>(hc12 h).elim⟩ hc12,hs.out⟩
 ·refine .skip ?_
  refine nT ?_
  refine .ai (.y hs (zls [_,_] aU aB) (.z zm ?_))
  have hA:ea s ws=0:=by simpa using hc12
  refine .o (.call Tryz.call171 rfl (sP (s:=s) hs ⟨_,rfl,hr⟩ hrw hA) ?_);rintro _ w ⟨H1,lo,hi,e,hle1,rfl,hR,hs⟩
  refine .z zex (.z zex (.z zex (.z zg (.z zg (.z zg (.nil ?_))))))
  refine .ret (Fin.Dc Tryz.results88 rfl rfl rfl ?_)
  exact ⟨H1,lo,hi,e,hle1,rfl,hR,hs.out⟩
theorem kL{H:bn}{w:World}{σ:List Ent}{v:Value}{l:List Int}{en:Ent}(hs:St H w (en::σ))(ho:cu 1 v (Is l) en)(hl:l.length≤1000000):
  Cl Tryz.prog 128 [v] w fun _ w'=>∃en',cu 1 v (Is l.reverse) en'∧St H w' (en'::σ):=by
 rcases ho with ⟨a,rfl,h2,rfl⟩|⟨b,len,cap,sp,rfl,rfl,h2,h3,h4⟩
 ·obtain rfl:l=[]:=by
   have:=congrArg List.length h2
   exact List.length_eq_zero_iff.1 (by simpa using this)
  have hs:=hs.tail
  refine Cl.of Tryz.func128 rfl Tryz.ntmps128 (by simp) (aj (k:=0) rfl (bh)) ?_
  refine .ai (.z zm (.z (cM aa) (.z gM (.z zg (.z zg (.nil (.block ?_)))))))
  refine .loop (fun _:Unit=>⟨28,[],[(2,I 0),(3,I (-1))]⟩) (fun _ w=>St H w σ) (fun _=>0) () (by repeat (first|exact .nil rfl rfl|refine .cons rfl ?_)) hs ?_
  rintro _ w hs
  refine .seq (.ai (.z zm (.z zm (.z fN (.nil ?_)))))
  refine (.bJ rfl (fun hc9=>?_) (fun hc9=>?_))
  ·omega
  ·refine .exit ?_
   refine xT (xT (xB ?_))
   exact Fin.xC Tryz.results128 ⟨.nul,.nil 1 a,hs.nul⟩
 obtain rfl:len=l.length:=by simpa using h2.symm
 refine Cl.of Tryz.func128 rfl Tryz.ntmps128 (by simp) (aj (k:=0) rfl (bh)) ?_
 refine .ai (.z zm (.z (cM aa) (.z gM (.z zg (.z zg (.nil (.block ?_)))))))
 refine .loop (fun p:Nat×List Int=>⟨28,[],[(2,I p.1),(3,I ((l.length:Int) - 1 - p.1)),(0,.slice (some ⟨b,0,none⟩) l.length cap)]⟩) (fun p w=>(2*p.1≤l.length+1∧nz l p.2 p.1)∧St H w (.blk b (Is p.2++sp)::σ)) (fun p=>l.length - p.1) (0,l) (.cons rfl (.cq rfl (by simp) (.cons rfl (.nil rfl rfl)))) ⟨⟨by simp,.start l⟩,hs⟩ ?_
 rintro ⟨i,L⟩ w ⟨⟨h5,h6⟩,hs⟩
 dsimp only at h5 h6 hs ⊢
 have hL:=h6.1
 refine .seq (.ai (.z zm (.z zm (.z fN (.nil ?_)))))
 refine (.bJ rfl (fun hc9=>?_) (fun hc9=>?_))
 ·refine .skip ?_
  refine nT ?_
  refine .seq (.block ?_)
  refine .draw mix rfl hs ?_;intro w hs
  refine .z 0 rfl zm ?_;refine .z 1 rfl zm ?_;refine .z 2 rfl zm ?_;refine .z 3 rfl zm ?_;refine .z 4 rfl zm ?_;refine .z 5 rfl zm ?_
  refine .p (i:=6) rfl (by kernel_rfl) .none (dF (k:=l.length - 1 - i) rfl rfl aa ae (by omega) (by omega)) ?_
  refine .load (i:=7) hs rfl (by kernel_rfl) .none rfl af ?_ (hv:=fm (by omega) sp)
  refine .z 8 rfl zm ?_;refine .z 9 rfl zm ?_
  first|(refine .ixv 10 rfl hs aa ae ?_;intro b24 o24 hc24)|refine .z 10 rfl (zix aa ae) ?_
  refine .load (i:=11) hs rfl (by kernel_rfl) .none rfl af ?_ (hv:=fm (by omega) sp)
  first|(refine .ixv 12 rfl hs aa ae ?_;intro b26 o26 hc26)|refine .z 12 rfl (zix aa ae) ?_
  refine .e1 (i:=13) (by kernel_rfl) rfl rfl .none hs ?_
  refine .store hs rfl rfl ae ?_ (by repeat constructor) (by simp;omega) (gY (by omega) sp _);intro w hs
  refine .go ?_
  refine .p (i:=14) rfl (by kernel_rfl) .none (dF (k:=l.length - 1 - i) rfl rfl aa ae (by omega) (by omega)) ?_
  refine .e1 (i:=15) (by kernel_rfl) rfl rfl .none hs ?_
  refine .store hs rfl rfl ae ?_ (by repeat constructor) (by simp;omega) (gY (by simp;omega) sp _);intro w hs
  refine .go ?_
  refine .done (by kernel_rfl) hs ?_
  refine nB (nT ?_)
  refine .region (.z zm (.z cA (.z zm (.z gM (.z zg (.z zg (.nil ?_)))))))
  refine nT ?_
  exact ⟨(i+1,_),.cons rfl (.cq rfl (by push_cast;omega) (.cons rfl (.nil rfl rfl))),⟨⟨by dsimp only;omega,h6.step (by omega)⟩,hs⟩,by dsimp only;omega⟩
 ·refine .exit ?_
  refine xT (xT (xB ?_))
  rw [h6.done (by omega)] at hs
  exact Fin.xC Tryz.results128 ⟨_,.inr ⟨b,l.length,cap,sp,rfl,rfl,by simp,by rw [←h3];simp,h4⟩,hs⟩
inductive Er(s:cB)(xs:List Int):Int→Prop
 |bad (h:s.check≠0) (h1:xs=[]):Er s xs s.check
 |sound (h:s.Ok) (h1:s.Sound) (h2:xs=[]):Er s xs 0
 |chain {st:BS} {x:Arc} {z k:Nat} (h:s.Ok) (h1:¬s.Sound) (h2:NearR s.n s.di st (some x)) (h3:z=oM st.by_ x.t (s.n+1)) (h4:1≤k) (h5:k≤s.n) (h6:oM st.by_ z k=z) (h7:xs=(vH st.by_ z k).reverse):Er s xs 0
theorem Er.AA{s:cB}{xs:List Int}(h:Er s xs 0):xs=[]↔s.Sound:=by
 generalize hz:(0:Int)=y at h
 cases h with
 |bad h=>exact (h hz.symm).elim
 |sound _ h1 h2=>exact ⟨fun _=>h1,fun _=>h2⟩
 | @chain st x z k _ h1 _ _ h4 _ _ h7=>exact ⟨fun h=>by
   have:=congrArg List.length (h7.symm.trans h)
   rw [List.length_reverse,ni] at this
   simp at this;omega,fun h=>(h1 h).elim⟩
set_option maxHeartbeats 4000000 in
theorem rX{H:bn}{w:World}{σ:List Ent}{v:Value}{s:cB}(hs:St H w σ)(hr:RSy H v s):
  Cl Tryz.prog 51 [v] w fun u w'=>∃H1 vx xs e,HLe H H1∧u= .tuple #[vx,I e]∧RI H1 vx xs∧Er s xs e∧St H1 w' σ:=by
 obtain ⟨u,rfl,hr⟩:=hr
 obtain ⟨al,cl,rfl⟩:=RL.shape hr
 refine Cl.of Tryz.func51 rfl Tryz.ntmps51 (by simp) (aj (k:=0) rfl (bh)) ?_
 refine .ai ?_
 refine .o (.box hs rfl rfl ?_);intro b1 w hs
 refine .z zg (.z zg (.nil (.seq (.ai (.y hs (zls [_,_] aU aB) ?_)))))
 refine .o (.call Tryz.call125 rfl (jX (s:=s) hs ⟨_,rfl,hr⟩) ?_);rintro _ w ⟨rfl,hs⟩
 refine .z zg (.nil (.ai (.z zm (.z iA (.nil ?_)))))
 refine (.e9 rfl (fun hc14=>?_) (fun hc14=>?_))
 ·refine .ai (.z zm (.z zg (.z zg (.nil ?_))))
  refine .ret (rT (Fin.lg Dy rfl rfl ?_))
  exact ⟨H,_,[],_,HLe.refl H,rfl,RS.nil H 1 none 0,.bad hc14 rfl,hs.out⟩
 ·refine .skip ?_
  refine nT ?_
  refine .seq (.draw mix rfl hs ?_);intro w hs
  refine .z 0 rfl (zfa bE) ?_;refine .y 1 rfl hs af ?_;refine .ys 2 rfl hs [_,_] aU aB ?_
  refine .e1 (i:=3) (by kernel_rfl) rfl rfl .none hs ?_
  have hok:s.Ok:=s.dn.1 (by simpa using hc14)
  have hoka:=hok.di
  have hn:s.n=s.many.toNat+1:=rfl
  have hm0:=hok.m0
  have hm1:=hok.m1
  refine .call Tryz.call127 rfl (jV (s:=s) hs hok ⟨_,rfl,hr⟩) ?_;rintro _ w ⟨H1,b10,hle1,rfl,hit,hs⟩
  refine .go ?_
  refine .e1 (i:=4) (by kernel_rfl) rfl rfl .none hs ?_
  have hnear:=kV (N:=s.many.toNat) hs (by omega) (by rw [←hn];exact hoka) hit Tryz.call203
  rw [Int.toNat_of_nonneg hm0] at hnear
  refine .call Tryz.call126 rfl hnear ?_;rintro _ w ⟨H2,bc,bb,st,ov,vo,hle2,rfl,hov,hnr,hs⟩
  obtain ⟨a',rfl,ha'⟩:=hov.ptr
  refine .go ?_
  refine .z 5 rfl zm ?_;refine .z 6 rfl zex ?_;refine .z 7 rfl zex ?_;refine .z 8 rfl zex ?_;refine .z 9 rfl zg ?_;refine .z 10 rfl zg ?_;refine .z 11 rfl zg ?_;refine .done (by kernel_rfl) hs ?_
  refine .seq (.ai (.z zm ?_))
  refine .q hs (AO rfl rfl tI) ?_
  refine .nil ?_
  refine (.cond rfl (fun hc26=>?_) (fun hc26=>?_))
  ·refine .ai (.z zg (.z zg (.nil ?_)))
   refine .ret (rT (Fin.lg Dy rfl rfl ?_))
   exact ⟨H2,_,[],0,hle1.trans hle2,rfl,RS.nil H2 1 none 0,.sound hok (by
    obtain ⟨r,hN2,hr2⟩:=hnr
    cases ov with
    |none=>exact ⟨_,(hN2.sol (by rw [←hn];exact hoka) (by omega)).1⟩
    |some x=>rw [ha'] at hc26;cases hc26) rfl,hs.out⟩
  ·refine .skip ?_
   refine nT ?_
   refine .ai (.z zm ?_)
   obtain ⟨x,rfl⟩:=OvR.yes ha' hc26
   obtain ⟨b3,e3,hrow⟩:=hov
   cases e3
   have hrowT:cellAt H2 b3 1=some (I x.t):=hrow.at 1
   have hmn:s.many+2=((s.many.toNat+2:Nat):Int):=by omega
   have hns:¬s.Sound:=by
    obtain ⟨r,hN2,hr2⟩:=hnr
    exact hN2.none (by rw [←hn];exact hoka) (by omega) (by have:=hr2 (by simp);omega)
   obtain ⟨hlb,hrg,hxt⟩:st.by_.length=s.many.toNat+1∧(∀v<s.many.toNat+1,(ga st.by_ v).f<s.many.toNat+1)∧x.t<s.many.toNat+1:=by
    obtain ⟨r,hN2,hr2⟩:=hnr
    exact ⟨hN2.lb,fun v hv=>(hN2.rg v hv).1,(hoka.2 x (hN2.ovm x rfl)).2.1⟩
   have hpl:=fun k=>vA hrg hxt k
   refine .z znc (.z (zfa dj) ?_)
   refine .q hs (aM rfl af hrowT) ?_
   refine .z zg (.nil (.seq (.ai (.z (zfa bE) (.y hs (zld af) (.z cA ?_))))))
   rw [hmn]
   refine .z zm (.nil ?_)
   refine .for (N:=s.many.toNat+2) (J:=fun k fr w=>fr=[(8,I (oM st.by_ x.t k)),(6,.slice (some ⟨bb,0,none⟩) (s.many.toNat+1) (s.many.toNat+1))]∧St H2 w (.blk bc (Is st.cost):: .blk bb (iX st.by_):: .blk b1 [I s.many,.slice al s.cz.length cl]::σ)) (by omega) ?_ ?_ ?_
   ·exact .mk ⟨rfl,hs⟩
   ·rintro k fr w hk ⟨rfl,hs⟩
    refine .block (.region (.z zm (.z zm ?_)))
    refine .q hs (uG (k:=oM st.by_ x.t k) rfl rfl aC aI rfl (hpl k)) ?_
    refine .z (zfa dc) ?_
    refine .q hs (dE rfl af (.there .here) (qh (j:=0) (by rw [hlb];exact hpl k) (by decide))) ?_
    refine .z zg (.nil ?_)
    refine nB (nT ?_)
    exact .mk ⟨rfl,hs.out⟩
   ·rintro fr w ⟨rfl,hs⟩
    obtain ⟨pd,hp1,hp2,hp3⟩:=zO hrg hxt (m:=s.many.toNat+2) (by omega)
    have hzl:=hpl (s.many.toNat+2)
    generalize hz:oM st.by_ x.t (s.many.toNat+2)=z at hp3 hzl ⊢
    have hzk:=fun k=>vA hrg hzl k
    refine nT ?_
    refine .ai (.z zg (.nil (.seq (.ai (.z zm (.z zg (.nil (.block ?_))))))))
    refine .loop (fun p:Nat×Value=>⟨62,[],[(9,p.2),(8,I (oM st.by_ z p.1)),(10,I z),(6,.slice (some ⟨bb,0,none⟩) (s.many.toNat+1) (s.many.toNat+1))]⟩)
     (fun p w=>p.1<pd∧∃en,cu 1 p.2 (Is (vH st.by_ z p.1)) en∧St H2 w (en:: .blk bc (Is st.cost):: .blk bb (iX st.by_):: .blk b1 [I s.many,.slice al s.cz.length cl]::σ))
     (fun p=>pd - p.1) (0,.slice none 0 0) (by repeat (first|exact .nil rfl rfl|refine .cons rfl ?_))
     ⟨by omega,_,.nil 1 none,hs.nul⟩ ?_
    rintro ⟨k,v9⟩ w ⟨hk,en,hO,hs⟩
    dsimp only at hk hO ⊢
    refine .block (.ai (.z zm (.z zm (.z zm ?_))))
    refine .q hs (uG (k:=oM st.by_ z k) rfl rfl aC aI rfl (hzk k)) ?_
    refine .z (zfa dM) ?_
    refine .q hs (dE rfl af (.there (.there .here)) (qh (j:=3) (by rw [hlb];exact hzk k) (by decide))) ?_
    refine .o (.buildSlice (cells:=[_]) hs cV rfl rfl ?_);intro b49 w hs
    refine .o (.append (ys:=[I (ga st.by_ (oM st.by_ z k)).l]) hs bP rfl rfl hO (.own .here rfl rfl) (by simp [Value.oneCell']) (fun l' h=>by simp [vH] at h;omega) ?_);intro v50 en50 w hO2 hs
    refine .z zg (.nil (.ai (.z zm (.z zm ?_))))
    refine .q hs (uG (k:=oM st.by_ z k) rfl rfl aC aI rfl (hzk k)) ?_
    refine .z (zfa dc) ?_
    refine .q hs (dE rfl af (by repeat (first|exact .here|refine .there ?_)) (qh (j:=0) (by rw [hlb];exact hzk k) (by decide))) ?_
    refine .z zg (.nil (.ai (.z zm (.z zm (.z fA (.nil ?_))))))
    refine (.bJ rfl (fun hc58=>?_) (fun hc58=>?_))
    ·refine .exit ?_
     refine xN (xT (xB (nT ?_)))
     refine .ai (.z zm ?_)
     have hO3:cu 1 v50 (Is (vH st.by_ z (k+1))) en50:=by rw [uL];simpa [Is] using hO2
     have hkz:oM st.by_ z (k+1)=z:=by
      have h3:((ga st.by_ (oM st.by_ z k)).f:Int)=z:=by simpa using hc58
      show (ga st.by_ (oM st.by_ z k)).f=z
      omega
     refine .o (.call Tryz.call128 rfl (kL hs hO3 (by rw [ni];omega)) ?_);rintro _ w ⟨en',hO4,hs⟩
     refine .nil (.ai (.z zm (.z zg (.z zg (.nil ?_)))))
     refine .ret (Fin.lg Dy rfl rfl ?_)
     obtain ⟨H3,hle3,hRI,hs⟩:=cu.df hO4 (by rw [List.length_reverse,ni];omega) hs .here
     exact ⟨H3,_,_,0,hle1.trans (hle2.trans hle3),rfl,hRI,.chain hok hns (by rw [hn];exact hnr) (by rw [hn];exact hz.symm) (by omega) (by omega) hkz rfl,hs.sub (by repeat (first|exact Sub.refl _|constructor|apply Sub.weaken))⟩
    ·refine .skip ?_
     refine nB (nT ?_)
     exact ⟨(k+1,v50),by repeat (first|exact .nil rfl rfl|refine .cons rfl ?_),⟨by
      dsimp only
      have:k+1≠pd:=fun e=>hc58 (congrArg (Nat.cast:Nat→Int) (show oM st.by_ z (k+1)=z by rw [e];exact hp3))
      omega,en50,by rw [uL];simpa [Is] using hO2,hs.sub (by repeat (first|exact Sub.refl _|constructor|apply Sub.weaken))⟩,by dsimp only;omega⟩
theorem mx{H:bn}{w:World}{σ:List Ent}{v:Value}{s:cB}(hs:St H w σ)(hr:RSy H v s):
  Cl Tryz.prog 210 [v] w fun u w'=>∃H1 vt e,HLe H H1∧u= .tuple #[vt,I e]∧((s.check≠0∧e=s.check∧vt= .slice none 0 0)∨(s.Ok∧¬s.Sound∧e=23∧vt= .slice none 0 0)∨(s.Ok∧s.Sound∧e=0∧∃rs,RT H1 vt rs∧Sq s.n rs∧ir s.n s.di (gt rs)))∧St H1 w' σ:=by
 obtain ⟨ul,rfl,hl⟩:=hr
 obtain ⟨al,cl,rfl⟩:=RL.shape hl
 refine Cl.of Tryz.func210 rfl Tryz.ntmps210 (by simp) (aj (k:=0) rfl (bh)) ?_
 refine .ai ?_
 refine .o (.box hs rfl rfl ?_);intro b1 w hs
 refine .z zg (.z zg (.nil (.ai (.y hs (zls [_,_] aU aB) ?_))))
 refine .o (.call Tryz.call182 rfl (jR (s:=s) hs ⟨_,rfl,hl⟩) ?_);rintro _ w ⟨rfl,hs⟩
 refine .z zg (.nil (.seq (.ai (.z zm (.z iA (.nil ?_))))))
 refine (.e9 rfl (fun hc9=>?_) (fun hc9=>?_))
 ·refine .ai (.z zm (.z zg (.z zg (.nil ?_))))
  refine .ret (rT (Fin.lg BO rfl rfl ?_))
  exact ⟨H,_,_,HLe.refl H,rfl,.inl ⟨hc9,rfl,rfl⟩,hs.out⟩
 ·refine .skip ?_
  refine nT ?_
  refine .ai (.y hs (zls [_,_] aU aB) ?_)
  have hok:s.Ok:=s.dn.1 (by simpa using hc9)
  have hm1:=hok.m1
  refine .o (.call Tryz.call226 rfl (kn (s:=s) hs ⟨_,rfl,hl⟩ hok) ?_);rintro v12 w ⟨H1,rs,hle1,hRT,hSq,hWT,hs⟩
  obtain ⟨at',ct,rfl⟩:=hRT.shape
  refine .z zg (.nil (.seq (.ai (.z zm ?_))))
  refine .o (.call Tryz.call233 rfl (jQ hs hRT hSq (by simp only [cB.n];omega)) ?_);rintro _ w ⟨b,rfl,hb,hs⟩
  have hbs:=hb.trans (qv hok hWT).symm
  refine .z iI (.nil ?_)
  refine (.cond rfl (fun hc15=>?_) (fun hc15=>?_))
  ·refine .ai (.z zg (.z zg (.nil ?_)))
   refine .ret (rT (Fin.lg BO rfl rfl ?_))
   exact ⟨H1,_,_,hle1,rfl,.inr (.inl ⟨hok,fun h=>by simp [hbs.2 h] at hc15,rfl,rfl⟩),hs.out⟩
  ·refine .skip ?_
   refine nT ?_
   refine .ai (.z zm (.z zg (.z zg (.nil ?_))))
   refine .ret (Fin.lg BO rfl rfl ?_)
   exact ⟨H1,_,_,hle1,rfl,.inr (.inr ⟨hok,hbs.1 (by simpa using hc15),rfl,rs,hRT,hSq,hWT⟩),hs.out⟩
end Go.Proofs.YtddaejgfjlneoaaGreat
