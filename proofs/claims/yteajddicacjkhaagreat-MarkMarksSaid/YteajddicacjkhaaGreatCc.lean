/-
  Texts of these claims, joined: Opn Opb Opv Opm Opq Opc Cls Fct Wa Wb Wc Wd We Wf Wg Wn Wp Wt Wu Wy Xf Xh Xi Xj Xn Srt Yc Yd Ye Yf Yq Yr Za Zb Zc Zd.
-/
import Derived.Test.YteajddicacjkhaaGreatCb
import Derived.Test.YteajddicacjkhaaGreatProg
import Derived.KernelRfl
import Derived.JoinedOf
import Derived.Shelf.Sort.Plain
import Derived.Shelf.Slices.CompactI
import Derived.Shelf.Slices.In.SortNone
import Derived.Lib.RowBridge
namespace Go.Proofs.YteajddicacjkhaaGreat
theorem JD:type_of% @Tryz.call117:=@Tryz.call117
theorem B1:type_of% @Tryz.call131:=@Tryz.call131
theorem JC:type_of% @Tryz.call133:=@Tryz.call133
theorem jr:type_of% @Tryz.call141:=@Tryz.call141
theorem gI:type_of% @Tryz.call146:=@Tryz.call146
theorem dK:type_of% @Tryz.call164:=@Tryz.call164
theorem jq:type_of% @Tryz.call167:=@Tryz.call167
theorem B0:type_of% @Tryz.call188:=@Tryz.call188
theorem BZ:type_of% @Tryz.call199:=@Tryz.call199
theorem BY:type_of% @Tryz.call242:=@Tryz.call242
theorem BX:type_of% @Tryz.call253:=@Tryz.call253
theorem eR:type_of% @Tryz.call36:=@Tryz.call36
theorem eC:type_of% @Tryz.call72:=@Tryz.call72
theorem ik:type_of% @Tryz.call74:=@Tryz.call74
theorem dR:type_of% @Tryz.call90:=@Tryz.call90
theorem yg:type_of% @Tryz.call93:=@Tryz.call93
theorem eG:type_of% @Tryz.isAgg100:=@Tryz.isAgg100
theorem HB:type_of% @Tryz.isAgg104:=@Tryz.isAgg104
theorem zG:type_of% @Tryz.isAgg113:=@Tryz.isAgg113
theorem mH:type_of% @Tryz.isAgg140:=@Tryz.isAgg140
theorem HA:type_of% @Tryz.isAgg159:=@Tryz.isAgg159
theorem ed:type_of% @Tryz.isAgg162:=@Tryz.isAgg162
theorem dj:type_of% @Tryz.isAgg175:=@Tryz.isAgg175
theorem bG:type_of% @Tryz.isAgg177:=@Tryz.isAgg177
theorem zF:type_of% @Tryz.isAgg179:=@Tryz.isAgg179
theorem fu:type_of% @Tryz.isAgg193:=@Tryz.isAgg193
theorem dV:type_of% @Tryz.isAgg22:=@Tryz.isAgg22
theorem rE:type_of% @Tryz.isAgg226:=@Tryz.isAgg226
theorem eh:type_of% @Tryz.isAgg23:=@Tryz.isAgg23
theorem rD:type_of% @Tryz.isAgg241:=@Tryz.isAgg241
theorem rC:type_of% @Tryz.isAgg243:=@Tryz.isAgg243
theorem bn:type_of% @Tryz.isAgg25:=@Tryz.isAgg25
theorem cQ:type_of% @Tryz.isAgg26:=@Tryz.isAgg26
theorem ft:type_of% @Tryz.isAgg267:=@Tryz.isAgg267
theorem dw:type_of% @Tryz.isAgg28:=@Tryz.isAgg28
theorem ae:type_of% @Tryz.isAgg3:=@Tryz.isAgg3
theorem ij:type_of% @Tryz.isAgg303:=@Tryz.isAgg303
theorem an:type_of% @Tryz.isAgg34:=@Tryz.isAgg34
theorem bD:type_of% @Tryz.isAgg42:=@Tryz.isAgg42
theorem aV:type_of% @Tryz.isAgg48:=@Tryz.isAgg48
theorem bJ:type_of% @Tryz.isAgg49:=@Tryz.isAgg49
theorem e8:type_of% @Tryz.isAgg50:=@Tryz.isAgg50
theorem aZ:type_of% @Tryz.isAgg52:=@Tryz.isAgg52
theorem vB:type_of% @Tryz.isAgg62:=@Tryz.isAgg62
theorem dU:type_of% @Tryz.isAgg87:=@Tryz.isAgg87
theorem tF:type_of% @Tryz.results111:=@Tryz.results111
theorem jg:type_of% @Tryz.results113:=@Tryz.results113
theorem ku:type_of% @Tryz.results117:=@Tryz.results117
theorem mZ:type_of% @Tryz.results120:=@Tryz.results120
theorem tE:type_of% @Tryz.results134:=@Tryz.results134
theorem mY:type_of% @Tryz.results150:=@Tryz.results150
theorem tD:type_of% @Tryz.results170:=@Tryz.results170
theorem eW:type_of% @Tryz.results18:=@Tryz.results18
theorem fA:type_of% @Tryz.results19:=@Tryz.results19
theorem fw:type_of% @Tryz.results20:=@Tryz.results20
theorem tC:type_of% @Tryz.results217:=@Tryz.results217
theorem tB:type_of% @Tryz.results228:=@Tryz.results228
theorem Ca:type_of% @Tryz.results250:=@Tryz.results250
theorem mX:type_of% @Tryz.results256:=@Tryz.results256
theorem B9:type_of% @Tryz.results259:=@Tryz.results259
theorem o6:type_of% @Tryz.results32:=@Tryz.results32
theorem FR:type_of% @Tryz.results75:=@Tryz.results75
theorem wb:type_of% @Tryz.results76:=@Tryz.results76
theorem vZ:type_of% @Tryz.results79:=@Tryz.results79
theorem fV:type_of% @Tryz.runUnderlying100:=@Tryz.runUnderlying100
theorem qj:type_of% @Tryz.runUnderlying104:=@Tryz.runUnderlying104
theorem D6:type_of% @Tryz.runUnderlying113:=@Tryz.runUnderlying113
theorem qi:type_of% @Tryz.runUnderlying140:=@Tryz.runUnderlying140
theorem iP:type_of% @Tryz.runUnderlying151:=@Tryz.runUnderlying151
theorem iO:type_of% @Tryz.runUnderlying153:=@Tryz.runUnderlying153
theorem bB:type_of% @Tryz.runUnderlying159:=@Tryz.runUnderlying159
theorem iN:type_of% @Tryz.runUnderlying162:=@Tryz.runUnderlying162
theorem aU:type_of% @Tryz.runUnderlying175:=@Tryz.runUnderlying175
theorem D5:type_of% @Tryz.runUnderlying179:=@Tryz.runUnderlying179
theorem D4:type_of% @Tryz.runUnderlying190:=@Tryz.runUnderlying190
theorem qh:type_of% @Tryz.runUnderlying193:=@Tryz.runUnderlying193
theorem aO:type_of% @Tryz.runUnderlying22:=@Tryz.runUnderlying22
theorem bp:type_of% @Tryz.runUnderlying23:=@Tryz.runUnderlying23
theorem D2:type_of% @Tryz.runUnderlying236:=@Tryz.runUnderlying236
theorem eT:type_of% @Tryz.runUnderlying238:=@Tryz.runUnderlying238
theorem D1:type_of% @Tryz.runUnderlying246:=@Tryz.runUnderlying246
theorem sG:type_of% @Tryz.runUnderlying25:=@Tryz.runUnderlying25
theorem aJ:type_of% @Tryz.runUnderlying26:=@Tryz.runUnderlying26
theorem dH:type_of% @Tryz.runUnderlying260:=@Tryz.runUnderlying260
theorem aB:type_of% @Tryz.runUnderlying267:=@Tryz.runUnderlying267
theorem D0:type_of% @Tryz.runUnderlying272:=@Tryz.runUnderlying272
theorem bA:type_of% @Tryz.runUnderlying3:=@Tryz.runUnderlying3
theorem qg:type_of% @Tryz.runUnderlying303:=@Tryz.runUnderlying303
theorem af:type_of% @Tryz.runUnderlying34:=@Tryz.runUnderlying34
theorem az:type_of% @Tryz.runUnderlying37:=@Tryz.runUnderlying37
theorem sF:type_of% @Tryz.runUnderlying39:=@Tryz.runUnderlying39
theorem FQ:type_of% @Tryz.runUnderlying42:=@Tryz.runUnderlying42
theorem FP:type_of% @Tryz.runUnderlying44:=@Tryz.runUnderlying44
theorem lx:type_of% @Tryz.runUnderlying48:=@Tryz.runUnderlying48
theorem au:type_of% @Tryz.runUnderlying49:=@Tryz.runUnderlying49
theorem bw:type_of% @Tryz.runUnderlying50:=@Tryz.runUnderlying50
theorem FO:type_of% @Tryz.runUnderlying52:=@Tryz.runUnderlying52
theorem aE:type_of% @Tryz.runUnderlying62:=@Tryz.runUnderlying62
theorem sE:type_of% @Tryz.runUnderlying66:=@Tryz.runUnderlying66
theorem jo:type_of% @Tryz.runUnderlying76:=@Tryz.runUnderlying76
theorem ff:type_of% @Tryz.runUnderlying80:=@Tryz.runUnderlying80
theorem lr:type_of% @Tryz.runUnderlying87:=@Tryz.runUnderlying87
theorem eA:type_of% @Tryz.runUnderlying96:=@Tryz.runUnderlying96
theorem sD:type_of% @Tryz.runUnderlying97:=@Tryz.runUnderlying97
theorem aF:type_of% @Tryz.sizeOf100:=@Tryz.sizeOf100
theorem ck:type_of% @Tryz.sizeOf104:=@Tryz.sizeOf104
theorem jL:type_of% @Tryz.sizeOf113:=@Tryz.sizeOf113
theorem bu:type_of% @Tryz.sizeOf134:=@Tryz.sizeOf134
theorem db:type_of% @Tryz.sizeOf140:=@Tryz.sizeOf140
theorem vY:type_of% @Tryz.sizeOf151:=@Tryz.sizeOf151
theorem cE:type_of% @Tryz.sizeOf153:=@Tryz.sizeOf153
theorem bL:type_of% @Tryz.sizeOf162:=@Tryz.sizeOf162
theorem o5:type_of% @Tryz.sizeOf175:=@Tryz.sizeOf175
theorem aN:type_of% @Tryz.sizeOf177:=@Tryz.sizeOf177
theorem eV:type_of% @Tryz.sizeOf179:=@Tryz.sizeOf179
theorem oZ:type_of% @Tryz.sizeOf190:=@Tryz.sizeOf190
theorem bq:type_of% @Tryz.sizeOf193:=@Tryz.sizeOf193
theorem lq:type_of% @Tryz.sizeOf241:=@Tryz.sizeOf241
theorem aM:type_of% @Tryz.sizeOf25:=@Tryz.sizeOf25
theorem mG:type_of% @Tryz.sizeOf26:=@Tryz.sizeOf26
theorem vX:type_of% @Tryz.sizeOf267:=@Tryz.sizeOf267
theorem bI:type_of% @Tryz.sizeOf28:=@Tryz.sizeOf28
theorem ai:type_of% @Tryz.sizeOf3:=@Tryz.sizeOf3
theorem aI:type_of% @Tryz.sizeOf303:=@Tryz.sizeOf303
theorem aC:type_of% @Tryz.sizeOf34:=@Tryz.sizeOf34
theorem zE:type_of% @Tryz.sizeOf37:=@Tryz.sizeOf37
theorem vA:type_of% @Tryz.sizeOf4:=@Tryz.sizeOf4
theorem aA:type_of% @Tryz.sizeOf42:=@Tryz.sizeOf42
theorem aH:type_of% @Tryz.sizeOf48:=@Tryz.sizeOf48
theorem rA:type_of% @Tryz.sizeOf49:=@Tryz.sizeOf49
theorem aD:type_of% @Tryz.sizeOf52:=@Tryz.sizeOf52
theorem zD:type_of% @Tryz.sizeOf64:=@Tryz.sizeOf64
theorem aK:type_of% @Tryz.sizeOf87:=@Tryz.sizeOf87
theorem jK:type_of% @Tryz.typeInfo3:=@Tryz.typeInfo3
theorem Az:type_of% @Tryz.typeInfo303:=@Tryz.typeInfo303
theorem fY:type_of% @Tryz.underlying3:=@Tryz.underlying3
theorem oY:type_of% @Tryz.underlying39:=@Tryz.underlying39
theorem kQ:type_of% @Tryz.underlying44:=@Tryz.underlying44
theorem eQ:type_of% @Tryz.zeroValue100:=@Tryz.zeroValue100
theorem oX:type_of% @Tryz.zeroValue104:=@Tryz.zeroValue104
theorem gR:type_of% @Tryz.zeroValue134:=@Tryz.zeroValue134
theorem kP:type_of% @Tryz.zeroValue140:=@Tryz.zeroValue140
theorem yf:type_of% @Tryz.zeroValue153:=@Tryz.zeroValue153
theorem kO:type_of% @Tryz.zeroValue162:=@Tryz.zeroValue162
theorem eg:type_of% @Tryz.zeroValue177:=@Tryz.zeroValue177
theorem ye:type_of% @Tryz.zeroValue179:=@Tryz.zeroValue179
theorem kN:type_of% @Tryz.zeroValue190:=@Tryz.zeroValue190
theorem ef:type_of% @Tryz.zeroValue193:=@Tryz.zeroValue193
theorem JB:type_of% @Tryz.zeroValue236:=@Tryz.zeroValue236
theorem iJ:type_of% @Tryz.zeroValue25:=@Tryz.zeroValue25
theorem jJ:type_of% @Tryz.zeroValue28:=@Tryz.zeroValue28
theorem cB:type_of% @Tryz.zeroValue3:=@Tryz.zeroValue3
theorem ee:type_of% @Tryz.zeroValue303:=@Tryz.zeroValue303
theorem fc:type_of% @Tryz.zeroValue34:=@Tryz.zeroValue34
theorem cO:type_of% @Tryz.zeroValue42:=@Tryz.zeroValue42
theorem jI:type_of% @Tryz.zeroValue48:=@Tryz.zeroValue48
theorem eb:type_of% @Tryz.zeroValue52:=@Tryz.zeroValue52
theorem dm:type_of% @Tryz.zeroValue87:=@Tryz.zeroValue87
end Go.Proofs.YteajddicacjkhaaGreat
namespace Go.Proofs.YteajddicacjkhaaGreat
open Go.MW Go.ChangeShapes Go.WideShapes
set_option maxRecDepth 100000
theorem zk:Tryz.prog.cellsOf 3=1:=by kernel_rfl
theorem DH:Tryz.prog.cellsOf 34=1:=by kernel_rfl
theorem Jo:Tryz.prog.bytesOf 3=8:=by kernel_rfl
theorem ED:reachBytes=140737488351232:=rfl
section
variable{H:Type}{enc:TypeId×Value→H}{w:World}{sp:Nat→Bool}{held:Bool}{n:Nat}{cs:List Value}{y:DataW H×List MemPlace}{v:Value}{d:DataW H}{p:List MemPlace}{r:Reach}{base:Nat}
theorem CU(hw:Wt Tryz.prog 34 y.1)(h:DataW.trod enc Tryz.prog w 0 sp held n 34 cs=some y):∃v xs,cs=[v]∧RI (hp w) v xs∧IsIn xs:=by
 obtain ⟨v,xs,h1,h2,h3,h4⟩:=Gr Tryz.underlying34 fY zk hw h
 rw [Jo,ED] at h3
 exact ⟨v,xs,h1,h2,ak,h4⟩
end
end Go.Proofs.YteajddicacjkhaaGreat
namespace Go.Proofs.YteajddicacjkhaaGreat
open Go.MW Go.ChangeShapes Go.WideShapes
set_option maxRecDepth 100000
theorem c_2:Tryz.prog.cellsOf 76=2:=by kernel_rfl
section
variable{H:Type}{enc:TypeId×Value→H}{w:World}{sp:Nat→Bool}{held:Bool}{n:Nat}{cs:List Value}{y:DataW H×List MemPlace}{v:Value}{d:DataW H}{p:List MemPlace}{r:Reach}{base:Nat}
theorem ER(hv:Value.okWide Tryz.prog w r base 76 v)(h:DataW.Trod enc Tryz.prog w 0 sp held 76 v d p)(_:Wt Tryz.prog 76 d):∃x:Two,v= .agg #[I x.a,I x.b]∧I64 x.a∧I64 x.b:=by
 obtain ⟨cs,n,rfl,hn⟩:=G4 Tryz.underlying76 hv h
 obtain ⟨xs,h1,rfl,h3⟩:=tI Tryz.underlying76 fY zk c_2 hn
 obtain ⟨a,b,rfl⟩:=JH h1
 exact ⟨⟨a,b⟩,rfl,h3 a cu,h3 b cu⟩
end
end Go.Proofs.YteajddicacjkhaaGreat
namespace Go.Proofs.YteajddicacjkhaaGreat
open Go.MW Go.ChangeShapes Go.WideShapes
set_option maxRecDepth 100000
theorem len6{α:Type}{l:List α}(h:l.length=6):∃a b c d e f,l=[a,b,c,d,e,f]:=by match l,h with|[a,b,c,d,e,f],_=>exact ⟨a,b,c,d,e,f,rfl⟩
section
variable{H:Type}{enc:TypeId×Value→H}{w:World}{sp:Nat→Bool}{held:Bool}{n:Nat}{cs:List Value}{y:DataW H×List MemPlace}{v:Value}{d:DataW H}{p:List MemPlace}{r:Reach}{base:Nat}
end
end Go.Proofs.YteajddicacjkhaaGreat
namespace Go.Proofs.YteajddicacjkhaaGreat
open Go.MW Go.ChangeShapes Go.WideShapes
set_option maxRecDepth 100000
theorem FD:Tryz.prog.cellsOf 35=1:=by kernel_rfl
theorem FC:Tryz.prog.cellsOf 36=1:=by kernel_rfl
theorem c_53:Tryz.prog.cellsOf 151=5:=by kernel_rfl
theorem c_43:Tryz.prog.cellsOf 97=4:=by kernel_rfl
theorem IW:Tryz.prog.cellsOf 37=3:=by kernel_rfl
theorem DI:Tryz.prog.cellsOf 39=7:=by kernel_rfl
theorem len7{α:Type}{l:List α}(h:l.length=7):∃a b c d e f g,l=[a,b,c,d,e,f,g]:=by match l,h with|[a,b,c,d,e,f,g],_=>exact ⟨a,b,c,d,e,f,g,rfl⟩
theorem Gc:∀{zs:List (List Int)},(∀z∈zs,z.length=5∧∀y∈z,I64 y)→∃ls:List F5,zs.map Is=ls.map F5.v
 |[],_=>⟨[],rfl⟩
 |z::zs,h=>by
  obtain ⟨ls,h1⟩:=Gc (fun c hc=>h c (.tail _ hc))
  obtain ⟨h3,_⟩:=h z (.head _)
  match z,h3 with
  |[a,b,c,d,e],_=>exact ⟨⟨a,b,c,d,e⟩::ls,by rw [List.map_cons,h1];rfl⟩
theorem Gb:∀{zs:List (List Int)},(∀z∈zs,z.length=4∧∀y∈z,I64 y)→∃ls:List F4,zs.map Is=ls.map F4.v
 |[],_=>⟨[],rfl⟩
 |z::zs,h=>by
  obtain ⟨ls,h1⟩:=Gb (fun c hc=>h c (.tail _ hc))
  obtain ⟨h3,_⟩:=h z (.head _)
  match z,h3 with
  |[a,b,c,d],_=>exact ⟨⟨a,b,c,d⟩::ls,by rw [List.map_cons,h1];rfl⟩
structure JJ where
 sp:List Int
 rs:List F5
 cs:List F4
 pk:List Int
 x:Int
 y:Int
 z:Int
def Jq(H:bV)(v:Value)(r:JJ):Prop:=∃vs v5 v4 vp,v= .agg #[vs,v5,v4,vp,I r.x,I r.y,I r.z]∧RI H vs r.sp∧RF5 H v5 r.rs∧RF4 H v4 r.cs∧RI H vp r.pk
section
variable{H:Type}{enc:TypeId×Value→H}{w:World}{sp:Nat→Bool}{held:Bool}{n:Nat}{cs:List Value}{y:DataW H×List MemPlace}{v:Value}{d:DataW H}{p:List MemPlace}{r:Reach}{base:Nat}
theorem EY(hw:Wt Tryz.prog 35 y.1)(h:DataW.trod enc Tryz.prog w 0 sp held n 35 cs=some y):∃(v:Value) (ls:List F5),cs=[v]∧RF5 (hp w) v ls:=by
 obtain ⟨v,zs,h1,h2,_,h3⟩:=zP (k:=5) Tryz.underlying35 Tryz.underlying151 fY zk dO c_53 hw h
 obtain ⟨ls,h4⟩:=Gc h3
 exact ⟨v,ls,h1,by unfold RF5;rw [←h4];exact h2⟩
theorem EX(hw:Wt Tryz.prog 36 y.1)(h:DataW.trod enc Tryz.prog w 0 sp held n 36 cs=some y):∃(v:Value) (ls:List F4),cs=[v]∧RF4 (hp w) v ls:=by
 obtain ⟨v,zs,h1,h2,_,h3⟩:=zP (k:=4) Tryz.underlying36 Tryz.underlying97 fY zk dO c_43 hw h
 obtain ⟨ls,h4⟩:=Gb h3
 exact ⟨v,ls,h1,by unfold RF4;rw [←h4];exact h2⟩
end
end Go.Proofs.YteajddicacjkhaaGreat
namespace Go.Proofs.YteajddicacjkhaaGreat
open Go.MW Go.ChangeShapes Go.WideShapes
set_option maxRecDepth 100000
theorem Bc:Tryz.prog.cellsOf 42=2:=by kernel_rfl
section
variable{H:Type}{enc:TypeId×Value→H}{w:World}{sp:Nat→Bool}{held:Bool}{n:Nat}{cs:List Value}{y:DataW H×List MemPlace}{v:Value}{d:DataW H}{p:List MemPlace}{r:Reach}{base:Nat}
theorem EZ(h:DataW.trod enc Tryz.prog w 0 sp held n 42 cs=some y):∃a b:Int,cs=[I a,I b]∧I64 a∧I64 b:=by
 obtain ⟨xs,a1,a2,a3⟩:=Ch Tryz.underlying42 (by
  intro i f hf
  match i with
  |0|1=>cases hf;exact ⟨rfl,fY,zk⟩
  |i+2=>simp at hf) (by rw [Bc];rfl) h
 obtain ⟨a,b,rfl⟩:=JH a1
 exact ⟨a,b,a2,a3 a cu,a3 b cu⟩
end
end Go.Proofs.YteajddicacjkhaaGreat
namespace Go.Proofs.YteajddicacjkhaaGreat
open Go.MW Go.ChangeShapes Go.WideShapes
set_option maxRecDepth 100000
theorem FB:Tryz.prog.cellsOf 40=1:=by kernel_rfl
theorem IA:Tryz.prog.cellsOf 96=6:=by kernel_rfl
theorem G3:Tryz.prog.cellsOf 44=14:=by kernel_rfl
theorem Jm{α:Type}{l:List α}(h:l.length=14):∃a b c d e f g i j k m n o p,l=[a,b,c,d,e,f,g,i,j,k,m,n,o,p]:=by match l,h with|[a,b,c,d,e,f,g,i,j,k,m,n,o,p],_=>exact ⟨a,b,c,d,e,f,g,i,j,k,m,n,o,p,rfl⟩
section
variable{H:Type}{enc:TypeId×Value→H}{w:World}{sp:Nat→Bool}{held:Bool}{n:Nat}{cs:List Value}{y:DataW H×List MemPlace}{v:Value}{d:DataW H}{p:List MemPlace}{r:Reach}{base:Nat}
theorem EW(hw:Wt Tryz.prog 40 y.1)(h:DataW.trod enc Tryz.prog w 0 sp held n 40 cs=some y):∃(v:Value) (ls:List Sx),cs=[v]∧RS (hp w) 6 v (ls.map Sx.v):=by
 obtain ⟨v,zs,h1,h2,_,h3⟩:=zP (k:=6) Tryz.underlying40 Tryz.underlying96 fY zk dO IA hw h
 obtain ⟨ls,h4,_⟩:=all_map (f:=Sx.v) (Q:=fun _=>True) (css:=zs.map Is) fun c hc=>by
  obtain ⟨z,hz,rfl⟩:=List.mem_map.1 hc
  obtain ⟨a,b,c,d,e,f,rfl⟩:=len6 (h3 z hz).1
  exact ⟨⟨a,b,c,d,e,f⟩,rfl,trivial⟩
 exact ⟨v,ls,h1,by rw [←h4];exact h2⟩
theorem Ih(hw:Wt Tryz.prog 39 y.1)(h:DataW.trod enc Tryz.prog w 0 sp held n 39 cs=some y):∃q:JJ,Jq (hp w) (.agg cs.toArray) q:=by
 obtain ⟨ys,m,_,rfl,hlen,hyl,hg⟩:=DataW.trod_struct oY h
 rw [DI] at hlen
 obtain ⟨c0,c1,c2,c3,c4,c5,c6,rfl⟩:=len7 hlen
 obtain ⟨_,h0,k0⟩:=fld hg hyl 0 rfl rfl rfl DH oY hw
 obtain ⟨_,h1,k1⟩:=fld hg hyl 1 rfl rfl rfl FD oY hw
 obtain ⟨_,h2,k2⟩:=fld hg hyl 2 rfl rfl rfl FC oY hw
 obtain ⟨_,h3,k3⟩:=fld hg hyl 3 rfl rfl rfl DH oY hw
 obtain ⟨_,h4,k4⟩:=fld hg hyl 4 rfl rfl rfl IW oY hw
 obtain ⟨v0,s0,e0,r0,i0⟩:=CU k0 h0
 obtain ⟨v1,l1,e1,r1⟩:=EY k1 h1
 obtain ⟨v2,l2,e2,r2⟩:=EX k2 h2
 obtain ⟨v3,s3,e3,r3,i3⟩:=CU k3 h3
 obtain ⟨xs,g1,g2,g3⟩:=tI Tryz.underlying37 fY zk IW h4
 obtain ⟨a,b,c,rfl⟩:=JG g1
 cases e0;cases e1;cases e2;cases e3;cases g2
 exact ⟨⟨s0,l1,l2,s3,a,b,c⟩,⟨_,_,_,_,rfl,r0,r1,r2,r3⟩⟩
theorem BE(hv:Value.okWide Tryz.prog w r base 44 v)(h:DataW.Trod enc Tryz.prog w 0 sp held 44 v d p)(hw:Wt Tryz.prog 44 d):∃x:He,(∃vs v5 v4 vp vn vg,v=x.agg vs v5 v4 vp vn vg∧BT (hp w) x vs v5 v4 vp vn vg)∧I64 x.m1∧I64 x.m2:=by
 obtain ⟨cs,n,rfl,hn,_⟩:=BP kQ hv h
 obtain ⟨ys,m,_,e,hlen,hyl,hg⟩:=DataW.trod_struct kQ hn
 cases e
 rw [G3] at hlen
 obtain ⟨c0,c1,c2,c3,c4,c5,c6,c7,c8,c9,c10,c11,c12,c13,rfl⟩:=Jm hlen
 obtain ⟨_,h0,k0⟩:=fld hg hyl 0 rfl rfl rfl DI kQ hw
 obtain ⟨_,h1,k1⟩:=fld hg hyl 1 rfl rfl rfl DH kQ hw
 obtain ⟨_,h2,k2⟩:=fld hg hyl 2 rfl rfl rfl FB kQ hw
 obtain ⟨_,h3,k3⟩:=fld hg hyl 3 rfl rfl rfl Bc kQ hw
 obtain ⟨_,h4,k4⟩:=fld hg hyl 4 rfl rfl rfl IW kQ hw
 obtain ⟨q,vs,v5,v4,vp,e0,r0,r1,r2,r3⟩:=Ih k0 h0
 obtain ⟨vn,ns,e1,r4,_⟩:=CU k1 h1
 obtain ⟨vg,sx,e2,r5⟩:=EW k2 h2
 obtain ⟨m1,m2,e3,i1,i2⟩:=EZ h3
 obtain ⟨xs,g1,e4,g3⟩:=tI Tryz.underlying37 fY zk IW h4
 obtain ⟨a,b,c,rfl⟩:=JG g1
 cases e0;cases e1;cases e2;cases e3;cases e4
 exact ⟨⟨q.sp,q.rs,q.cs,q.pk,q.x,q.y,q.z,ns,sx,m1,m2,a,b,c⟩,⟨_,_,_,_,_,_,rfl,r0,r1,r2,r3,r4,r5⟩,i1,i2⟩
end
end Go.Proofs.YteajddicacjkhaaGreat
namespace Go.Proofs.YteajddicacjkhaaGreat
theorem G1:Tryz.prog.make=some .cut:=by kernel_rfl
theorem Fz:Tryz.prog.mayEnter=true:=by kernel_rfl
theorem Fw:Tryz.prog.liftsFinal=false:=by kernel_rfl
theorem G2:Tryz.prog.plainKeys=true:=by kernel_rfl
theorem DG:laidOutB Tryz.prog=true:=by kernel_rfl
theorem G0:mapsRowed Tryz.prog=true:=by kernel_rfl
theorem Fy:Tryz.prog.stopsHeard=true:=by kernel_rfl
theorem Fv:Tryz.prog.stops=[]:=by kernel_rfl
theorem Fx:Tryz.prog.stopKnobs=[]:=by kernel_rfl
theorem p9{a b:Bool}(h:a=true)(k:b=true):(a&&b)=true:=by rw [h,k];rfl
theorem IC{α:Type}[BEq α][LawfulBEq α]{a b:α}(h:a=b):(a==b)=true:=by rw [h];exact beq_self_eq_true _
theorem Iz:ownKnob Tryz.prog.godebug=none:=by kernel_rfl
end Go.Proofs.YteajddicacjkhaaGreat
namespace Go.Proofs.YteajddicacjkhaaGreat
open Go.MW
theorem mix:Tryz.prog.follows .mixedOrders=true:=by kernel_rfl
theorem dZ:FA Tryz.prog 25 0 0:=by
 have h:=fq (k:=0) sG rfl ai
 exact h
theorem ia:FA Tryz.prog 25 1 1:=by
 have h:=fq (k:=1) sG rfl ai
 exact h
theorem cq:FA Tryz.prog 25 2 2:=by
 have h:=fq (k:=2) sG rfl Tryz.sizeOf22
 exact h
theorem cK:FA Tryz.prog 25 3 3:=by
 have h:=fq (k:=3) sG rfl Tryz.sizeOf23
 exact h
theorem bQ:FA Tryz.prog 28 0 0:=by
 have h:=fq (k:=0) Tryz.runUnderlying28 rfl mG
 exact h
theorem og:FA Tryz.prog 39 0 0:=by
 have h:=fq (k:=0) sF rfl aC
 exact h
theorem iA:FA Tryz.prog 39 1 1:=by
 have h:=fq (k:=1) sF rfl Tryz.sizeOf35
 exact h
theorem j8:FA Tryz.prog 39 2 2:=by
 have h:=fq (k:=2) sF rfl Tryz.sizeOf36
 exact h
theorem oe:FA Tryz.prog 39 3 3:=by
 have h:=fq (k:=3) sF rfl aC
 exact h
theorem od:FA Tryz.prog 39 4 4:=by
 have h:=fq (k:=4) sF rfl zE
 exact h
theorem bX:FA Tryz.prog 42 0 0:=by
 have h:=fq (k:=0) FQ rfl ai
 exact h
theorem cJ:FA Tryz.prog 42 1 1:=by
 have h:=fq (k:=1) FQ rfl ai
 exact h
theorem ob:FA Tryz.prog 44 0 0:=by
 have h:=fq (k:=0) FP rfl Tryz.sizeOf39
 exact h
theorem oa:FA Tryz.prog 44 1 7:=by
 have h:=fq (k:=1) FP rfl aC
 exact h
theorem nZ:FA Tryz.prog 44 2 8:=by
 have h:=fq (k:=2) FP rfl Tryz.sizeOf40
 exact h
theorem nY:FA Tryz.prog 44 4 11:=by
 have h:=fq (k:=4) FP rfl zE
 exact h
theorem jC:FA Tryz.prog 46 0 0:=by
 have h:=fq (k:=0) Tryz.runUnderlying46 rfl ai
 exact h
theorem jB:FA Tryz.prog 46 1 1:=by
 have h:=fq (k:=1) Tryz.runUnderlying46 rfl ai
 exact h
theorem lU:FA Tryz.prog 48 0 0:=by
 have h:=fq (k:=0) lx rfl ai
 exact h
theorem dM:FA Tryz.prog 48 1 1:=by
 have h:=fq (k:=1) lx rfl ai
 exact h
theorem bP:FA Tryz.prog 48 2 2:=by
 have h:=fq (k:=2) lx rfl aC
 exact h
theorem a8:FA Tryz.prog 48 3 3:=by
 have h:=fq (k:=3) lx rfl aC
 exact h
theorem dY:FA Tryz.prog 48 4 4:=by
 have h:=fq (k:=4) lx rfl Tryz.sizeOf46
 exact h
theorem bh:FA Tryz.prog 52 0 0:=by
 have h:=fq (k:=0) FO rfl aH
 exact h
theorem aQ:FA Tryz.prog 52 1 6:=by
 have h:=fq (k:=1) FO rfl rA
 exact h
theorem cD:FA Tryz.prog 52 2 7:=by
 have h:=fq (k:=2) FO rfl Tryz.sizeOf50
 exact h
theorem kF:FA Tryz.prog 64 0 0:=by
 have h:=fq (k:=0) Tryz.runUnderlying64 rfl Tryz.sizeOf62
 exact h
theorem jb:FA Tryz.prog 66 0 0:=by
 have h:=fq (k:=0) sE rfl ai
 exact h
theorem mT:FA Tryz.prog 66 1 1:=by
 have h:=fq (k:=1) sE rfl ai
 exact h
theorem mS:FA Tryz.prog 66 2 2:=by
 have h:=fq (k:=2) sE rfl ai
 exact h
theorem mR:FA Tryz.prog 66 3 3:=by
 have h:=fq (k:=3) sE rfl zD
 exact h
theorem j9:FA Tryz.prog 87 0 0:=by
 have h:=fq (k:=0) lr rfl ai
 exact h
theorem fi:FA Tryz.prog 87 1 1:=by
 have h:=fq (k:=1) lr rfl ai
 exact h
theorem fh:FA Tryz.prog 87 2 2:=by
 have h:=fq (k:=2) lr rfl ai
 exact h
theorem fK:FA Tryz.prog 87 3 3:=by
 have h:=fq (k:=3) lr rfl aA
 exact h
theorem fJ:FA Tryz.prog 87 4 5:=by
 have h:=fq (k:=4) lr rfl aA
 exact h
theorem eF:FA Tryz.prog 100 0 0:=by
 have h:=fq (k:=0) fV rfl ai
 exact h
theorem fE:FA Tryz.prog 100 1 1:=by
 have h:=fq (k:=1) fV rfl ai
 exact h
theorem fD:FA Tryz.prog 100 2 2:=by
 have h:=fq (k:=2) fV rfl ai
 exact h
theorem dn:FA Tryz.prog 100 3 3:=by
 have h:=fq (k:=3) fV rfl ai
 exact h
theorem da:FA Tryz.prog 100 4 4:=by
 have h:=fq (k:=4) fV rfl ai
 exact h
theorem eE:FA Tryz.prog 100 5 5:=by
 have h:=fq (k:=5) fV rfl ai
 exact h
theorem eD:FA Tryz.prog 100 6 6:=by
 have h:=fq (k:=6) fV rfl ai
 exact h
theorem iE:FA Tryz.prog 104 0 0:=by
 have h:=fq (k:=0) qj rfl ai
 exact h
theorem ew:FA Tryz.prog 104 1 1:=by
 have h:=fq (k:=1) qj rfl ai
 exact h
theorem eu:FA Tryz.prog 104 2 2:=by
 have h:=fq (k:=2) qj rfl ai
 exact h
theorem iD:FA Tryz.prog 104 3 3:=by
 have h:=fq (k:=3) qj rfl ai
 exact h
theorem xE:FA Tryz.prog 113 0 0:=by
 have h:=fq (k:=0) D6 rfl ai
 exact h
theorem jA:FA Tryz.prog 113 1 1:=by
 have h:=fq (k:=1) D6 rfl ai
 exact h
theorem gO:FA Tryz.prog 113 2 2:=by
 have h:=fq (k:=2) D6 rfl ai
 exact h
theorem bK:FA Tryz.prog 134 0 0:=by
 have h:=fq (k:=0) Tryz.runUnderlying134 rfl ai
 exact h
theorem dv:FA Tryz.prog 134 1 1:=by
 have h:=fq (k:=1) Tryz.runUnderlying134 rfl ai
 exact h
theorem k7:FA Tryz.prog 140 0 0:=by
 have h:=fq (k:=0) qi rfl aD
 exact h
theorem jz:FA Tryz.prog 140 2 12:=by
 have h:=fq (k:=2) qi rfl mG
 exact h
theorem kZ:FA Tryz.prog 140 3 13:=by
 have h:=fq (k:=3) qi rfl Tryz.sizeOf80
 exact h
theorem iB:FA Tryz.prog 140 4 14:=by
 have h:=fq (k:=4) qi rfl aC
 exact h
theorem jd:FA Tryz.prog 153 0 0:=by
 have h:=fq (k:=0) iO rfl ai
 exact h
theorem kj:FA Tryz.prog 153 1 1:=by
 have h:=fq (k:=1) iO rfl ai
 exact h
theorem jc:FA Tryz.prog 153 2 2:=by
 have h:=fq (k:=2) iO rfl ai
 exact h
theorem gY:FA Tryz.prog 153 3 3:=by
 have h:=fq (k:=3) iO rfl ai
 exact h
theorem gX:FA Tryz.prog 153 4 4:=by
 have h:=fq (k:=4) iO rfl ai
 exact h
theorem gW:FA Tryz.prog 153 5 5:=by
 have h:=fq (k:=5) iO rfl ai
 exact h
theorem mU:FA Tryz.prog 162 0 0:=by
 have h:=fq (k:=0) iN rfl ai
 exact h
theorem ki:FA Tryz.prog 162 1 1:=by
 have h:=fq (k:=1) iN rfl ai
 exact h
theorem cA:FA Tryz.prog 177 0 0:=by
 have h:=fq (k:=0) Tryz.runUnderlying177 rfl ai
 exact h
theorem cf:FA Tryz.prog 177 1 1:=by
 have h:=fq (k:=1) Tryz.runUnderlying177 rfl o5
 exact h
theorem nX:FA Tryz.prog 179 0 0:=by
 have h:=fq (k:=0) D5 rfl aN
 exact h
theorem nW:FA Tryz.prog 179 1 2:=by
 have h:=fq (k:=1) D5 rfl aC
 exact h
theorem j7:FA Tryz.prog 179 2 3:=by
 have h:=fq (k:=2) D5 rfl ai
 exact h
theorem dA:FA Tryz.prog 190 0 0:=by
 have h:=fq (k:=0) D4 rfl ai
 exact h
theorem dc:FA Tryz.prog 190 1 1:=by
 have h:=fq (k:=1) D4 rfl ai
 exact h
theorem eN:FA Tryz.prog 190 2 2:=by
 have h:=fq (k:=2) D4 rfl ai
 exact h
theorem eo:FA Tryz.prog 193 0 0:=by
 have h:=fq (k:=0) qh rfl ai
 exact h
theorem eO:FA Tryz.prog 193 1 1:=by
 have h:=fq (k:=1) qh rfl ai
 exact h
theorem fP:FA Tryz.prog 193 2 2:=by
 have h:=fq (k:=2) qh rfl ai
 exact h
theorem jT:FA Tryz.prog 193 3 3:=by
 have h:=fq (k:=3) qh rfl ai
 exact h
theorem sr:FA Tryz.prog 236 0 0:=by
 have h:=fq (k:=0) D2 rfl Tryz.sizeOf233
 exact h
theorem sq:FA Tryz.prog 236 1 1:=by
 have h:=fq (k:=1) D2 rfl Tryz.sizeOf234
 exact h
theorem so:FA Tryz.prog 236 2 2:=by
 have h:=fq (k:=2) D2 rfl ai
 exact h
theorem cZ:FA Tryz.prog 241 0 0:=by
 have h:=fq (k:=0) Tryz.runUnderlying241 rfl jL
 exact h
theorem fk:FA Tryz.prog 241 1 3:=by
 have h:=fq (k:=1) Tryz.runUnderlying241 rfl aH
 exact h
theorem dG:FA Tryz.prog 246 0 0:=by
 have h:=fq (k:=0) D1 rfl aD
 exact h
theorem fI:FA Tryz.prog 246 1 8:=by
 have h:=fq (k:=1) D1 rfl Tryz.sizeOf159
 exact h
theorem jy:FA Tryz.prog 246 2 9:=by
 have h:=fq (k:=2) D1 rfl o5
 exact h
theorem gz:FA Tryz.prog 272 0 0:=by
 have h:=fq (k:=0) D0 rfl aN
 exact h
theorem iC:FA Tryz.prog 272 1 2:=by
 have h:=fq (k:=1) D0 rfl aC
 exact h
theorem dX:FA Tryz.prog 272 2 3:=by
 have h:=fq (k:=2) D0 rfl aC
 exact h
theorem du:FA Tryz.prog 303 0 0:=by
 have h:=fq (k:=0) qg rfl ai
 exact h
theorem dB:FA Tryz.prog 303 1 1:=by
 have h:=fq (k:=1) qg rfl ai
 exact h
theorem fp:FA Tryz.prog 303 2 2:=by
 have h:=fq (k:=2) qg rfl ai
 exact h
theorem dW:FA Tryz.prog 303 3 3:=by
 have h:=fq (k:=3) qg rfl ai
 exact h
theorem ib:FA Tryz.prog 315 0 0:=by
 have h:=fq (k:=0) Tryz.runUnderlying315 rfl ai
 exact h
theorem jU:FA Tryz.prog 315 1 1:=by
 have h:=fq (k:=1) Tryz.runUnderlying315 rfl ai
 exact h
theorem ph:FA Tryz.prog 317 0 0:=by
 have h:=fq (k:=0) Tryz.runUnderlying317 rfl aC
 exact h
theorem rm:qf Tryz.prog 25 [(0,1),(1,1),(2,1),(3,1)] [.int .i64 0,.int .i64 0,.slice none 0 0,.slice none 0 0]:=jQ iJ rfl sG (by simp [Tryz.sizeOf22,Tryz.sizeOf23,Tryz.sizeOf3])
theorem mC:qf Tryz.prog 28 [(0,1)] [.slice none 0 0]:=jQ jJ rfl Tryz.runUnderlying28 (by simp [Tryz.sizeOf26])
theorem cz:qf Tryz.prog 42 [(0,1),(1,1)] [.int .i64 0,.int .i64 0]:=jQ cO rfl FQ (by simp [Tryz.sizeOf3])
theorem sR:qf Tryz.prog 46 [(0,1),(1,1)] [.int .i64 0,.int .i64 0]:=jQ Tryz.zeroValue46 rfl Tryz.runUnderlying46 (by simp [Tryz.sizeOf3])
theorem rl:qf Tryz.prog 48 [(0,1),(1,1),(2,1),(3,1),(4,2)] [.int .i64 0,.int .i64 0,.slice none 0 0,.slice none 0 0,.int .i64 0,.int .i64 0]:=jQ jI rfl lx (by simp [Tryz.sizeOf3,Tryz.sizeOf34,Tryz.sizeOf46])
theorem pq:qf Tryz.prog 52 [(0,6),(6,1),(7,1)] [.int .i64 0,.int .i64 0,.slice none 0 0,.slice none 0 0,.int .i64 0,.int .i64 0,.slice none 0 0,.slice none 0 0]:=jQ eb rfl FO (by simp [Tryz.sizeOf48,Tryz.sizeOf49,Tryz.sizeOf50])
theorem zq:qf Tryz.prog 64 [(0,1)] [.slice none 0 0]:=jQ Tryz.zeroValue64 rfl Tryz.runUnderlying64 (by simp [Tryz.sizeOf62])
theorem uY:qf Tryz.prog 66 [(0,1),(1,1),(2,1),(3,1)] [.int .i64 0,.int .i64 0,.int .i64 0,.slice none 0 0]:=jQ Tryz.zeroValue66 rfl sE (by simp [Tryz.sizeOf3,Tryz.sizeOf64])
theorem la:qf Tryz.prog 87 [(0,1),(1,1),(2,1),(3,2),(5,2)] [.int .i64 0,.int .i64 0,.int .i64 0,.int .i64 0,.int .i64 0,.int .i64 0,.int .i64 0]:=jQ dm rfl lr (by simp [Tryz.sizeOf3,Tryz.sizeOf42])
theorem iH:qf Tryz.prog 100 [(0,1),(1,1),(2,1),(3,1),(4,1),(5,1),(6,1)] [.int .i64 0,.int .i64 0,.int .i64 0,.int .i64 0,.int .i64 0,.int .i64 0,.int .i64 0]:=jQ eQ rfl fV (by simp [Tryz.sizeOf3])
theorem pv:qf Tryz.prog 104 [(0,1),(1,1),(2,1),(3,1)] [.int .i64 0,.int .i64 0,.int .i64 0,.int .i64 0]:=jQ oX rfl qj (by simp [Tryz.sizeOf3])
theorem zp:qf Tryz.prog 113 [(0,1),(1,1),(2,1)] [.int .i64 0,.int .i64 0,.int .i64 0]:=jQ Tryz.zeroValue113 rfl D6 (by simp [Tryz.sizeOf3])
theorem gD:qf Tryz.prog 134 [(0,1),(1,1)] [.int .i64 0,.int .i64 0]:=jQ gR rfl Tryz.runUnderlying134 (by simp [Tryz.sizeOf3])
theorem fQ:qf Tryz.prog 140 [(0,8),(8,4),(12,1),(13,1),(14,1)] [.int .i64 0,.int .i64 0,.slice none 0 0,.slice none 0 0,.int .i64 0,.int .i64 0,.slice none 0 0,.slice none 0 0,.int .i64 0,.int .i64 0,.slice none 0 0,.slice none 0 0,.slice none 0 0,.slice none 0 0,.slice none 0 0]:=jQ kP rfl qi (by simp [Tryz.sizeOf25,Tryz.sizeOf26,Tryz.sizeOf34,Tryz.sizeOf52,Tryz.sizeOf80])
theorem oo:qf Tryz.prog 153 [(0,1),(1,1),(2,1),(3,1),(4,1),(5,1)] [.int .i64 0,.int .i64 0,.int .i64 0,.int .i64 0,.int .i64 0,.int .i64 0]:=jQ yf rfl iO (by simp [Tryz.sizeOf3])
theorem iG:qf Tryz.prog 162 [(0,1),(1,1)] [.int .i64 0,.int .i64 0]:=jQ kO rfl iN (by simp [Tryz.sizeOf3])
theorem lW:qf Tryz.prog 177 [(0,1),(1,1)] [.int .i64 0,.slice none 0 0]:=jQ eg rfl Tryz.runUnderlying177 (by simp [Tryz.sizeOf175,Tryz.sizeOf3])
theorem gg:qf Tryz.prog 179 [(0,2),(2,1),(3,1)] [.int .i64 0,.slice none 0 0,.slice none 0 0,.int .i64 0]:=jQ ye rfl D5 (by simp [Tryz.sizeOf177,Tryz.sizeOf3,Tryz.sizeOf34])
theorem rk:qf Tryz.prog 190 [(0,1),(1,1),(2,1)] [.int .i64 0,.int .i64 0,.int .i64 0]:=jQ kN rfl D4 (by simp [Tryz.sizeOf3])
theorem eP:qf Tryz.prog 193 [(0,1),(1,1),(2,1),(3,1)] [.int .i64 0,.int .i64 0,.int .i64 0,.int .i64 0]:=jQ ef rfl qh (by simp [Tryz.sizeOf3])
theorem jf:qf Tryz.prog 236 [(0,1),(1,1),(2,1)] [.nilFunc,.nilFunc,.int .i64 0]:=jQ JB rfl D2 (by simp [Tryz.sizeOf233,Tryz.sizeOf234,Tryz.sizeOf3])
theorem tu:qf Tryz.prog 241 [(0,3),(3,6)] [.int .i64 0,.int .i64 0,.int .i64 0,.int .i64 0,.int .i64 0,.slice none 0 0,.slice none 0 0,.int .i64 0,.int .i64 0]:=jQ Tryz.zeroValue241 rfl Tryz.runUnderlying241 (by simp [Tryz.sizeOf113,Tryz.sizeOf48])
theorem sy:qf Tryz.prog 246 [(0,8),(8,1),(9,1)] [.int .i64 0,.int .i64 0,.slice none 0 0,.slice none 0 0,.int .i64 0,.int .i64 0,.slice none 0 0,.slice none 0 0,.slice none 0 0,.slice none 0 0]:=jQ Tryz.zeroValue246 rfl D1 (by simp [Tryz.sizeOf159,Tryz.sizeOf175,Tryz.sizeOf52])
theorem po:qf Tryz.prog 272 [(0,2),(2,1),(3,1)] [.int .i64 0,.slice none 0 0,.slice none 0 0,.slice none 0 0]:=jQ Tryz.zeroValue272 rfl D0 (by simp [Tryz.sizeOf177,Tryz.sizeOf34])
theorem pn:qf Tryz.prog 303 [(0,1),(1,1),(2,1),(3,1)] [.int .i64 0,.int .i64 0,.int .i64 0,.int .i64 0]:=jQ ee rfl qg (by simp [Tryz.sizeOf3])
theorem xR:qf Tryz.prog 315 [(0,1),(1,1)] [.int .i64 0,.int .i64 0]:=jQ Tryz.zeroValue315 rfl Tryz.runUnderlying315 (by simp [Tryz.sizeOf3])
theorem xQ:qf Tryz.prog 317 [(0,1)] [.slice none 0 0]:=jQ Tryz.zeroValue317 rfl Tryz.runUnderlying317 (by simp [Tryz.sizeOf34])
theorem nt:vW Tryz.prog 22 2 2 [.int .i64 0,.int .i64 0,.int .i64 0,.int .i64 0]:=mB aO bu gR dO aq
theorem nr:vW Tryz.prog 22 3 2 [.int .i64 0,.int .i64 0,.int .i64 0,.int .i64 0,.int .i64 0,.int .i64 0]:=mB aO bu gR dO aq
theorem k9:vW Tryz.prog 23 1 4 [.int .i64 0,.int .i64 0,.int .i64 0,.int .i64 0]:=mB bp ck oX dO aq
theorem kr:vW Tryz.prog 26 1 7 [.int .i64 0,.int .i64 0,.int .i64 0,.int .i64 0,.int .i64 0,.int .i64 0,.int .i64 0]:=mB aJ aK dm dO aq
theorem kq:vW Tryz.prog 26 2 7 [.int .i64 0,.int .i64 0,.int .i64 0,.int .i64 0,.int .i64 0,.int .i64 0,.int .i64 0,.int .i64 0,.int .i64 0,.int .i64 0,.int .i64 0,.int .i64 0,.int .i64 0,.int .i64 0]:=mB aJ aK dm dO aq
theorem sQ:vW Tryz.prog 34 0 1 []:=mB af ai cB dO aq
theorem dk:vW Tryz.prog 34 1 1 [.int .i64 0]:=mB af ai cB dO aq
theorem kd:vW Tryz.prog 34 2 1 [.int .i64 0,.int .i64 0]:=mB af ai cB dO aq
theorem zo:vW Tryz.prog 34 3 1 [.int .i64 0,.int .i64 0,.int .i64 0]:=mB af ai cB dO aq
theorem gd:vW Tryz.prog 49 1 7 [.int .i64 0,.int .i64 0,.int .i64 0,.int .i64 0,.int .i64 0,.int .i64 0,.int .i64 0]:=mB au aF eQ dO aq
theorem oV:vW Tryz.prog 49 4 7 [.int .i64 0,.int .i64 0,.int .i64 0,.int .i64 0,.int .i64 0,.int .i64 0,.int .i64 0,.int .i64 0,.int .i64 0,.int .i64 0,.int .i64 0,.int .i64 0,.int .i64 0,.int .i64 0,.int .i64 0,.int .i64 0,.int .i64 0,.int .i64 0,.int .i64 0,.int .i64 0,.int .i64 0,.int .i64 0,.int .i64 0,.int .i64 0,.int .i64 0,.int .i64 0,.int .i64 0,.int .i64 0]:=mB au aF eQ dO aq
theorem kA:vW Tryz.prog 50 1 6 [.int .i64 0,.int .i64 0,.int .i64 0,.int .i64 0,.int .i64 0,.int .i64 0]:=mB bw cE yf dO aq
theorem vS:vW Tryz.prog 62 2 1 [.slice none 0 0,.slice none 0 0]:=mB aE aC fc dO aq
theorem lN:vW Tryz.prog 80 1 2 [.int .i64 0,.int .i64 0]:=mB ff aA cO dO aq
theorem iT:vW Tryz.prog 159 1 2 [.int .i64 0,.int .i64 0]:=mB bB bL kO dO aq
theorem rj:vW Tryz.prog 175 1 4 [.int .i64 0,.int .i64 0,.int .i64 0,.int .i64 0]:=mB aU bq ef dO aq
theorem fL:vW Tryz.prog 175 2 4 [.int .i64 0,.int .i64 0,.int .i64 0,.int .i64 0,.int .i64 0,.int .i64 0,.int .i64 0,.int .i64 0]:=mB aU bq ef dO aq
theorem xP:vW Tryz.prog 247 6 1 [.nilFunc,.nilFunc,.nilFunc,.nilFunc,.nilFunc,.nilFunc]:=mB Tryz.runUnderlying247 Tryz.sizeOf1 Tryz.zeroValue1 dO aq
theorem p8:vW Tryz.prog 267 1 4 [.int .i64 0,.int .i64 0,.int .i64 0,.int .i64 0]:=mB aB aI ee dO aq
theorem kH:DZ Tryz.prog 23 23 104 4 32:=⟨bp,bp,ck,⟨_,Tryz.typeInfo104,rfl,by decide⟩,⟨_,oX,rfl⟩⟩
theorem nu:DZ Tryz.prog 26 26 87 7 56:=⟨aJ,aJ,aK,⟨_,Tryz.typeInfo87,rfl,by decide⟩,⟨_,dm,rfl⟩⟩
theorem df:DZ Tryz.prog 34 34 3 1 8:=⟨af,af,ai,⟨_,jK,rfl,by decide⟩,⟨_,cB,rfl⟩⟩
theorem dS:DZ Tryz.prog 49 49 100 7 56:=⟨au,au,aF,⟨_,Tryz.typeInfo100,rfl,by decide⟩,⟨_,eQ,rfl⟩⟩
theorem ke:DZ Tryz.prog 50 50 153 6 48:=⟨bw,bw,cE,⟨_,Tryz.typeInfo153,rfl,by decide⟩,⟨_,yf,rfl⟩⟩
theorem lk:DZ Tryz.prog 80 80 42 2 16:=⟨ff,ff,aA,⟨_,Tryz.typeInfo42,rfl,by decide⟩,⟨_,cO,rfl⟩⟩
theorem eS:DZ Tryz.prog 159 159 162 2 16:=⟨bB,bB,bL,⟨_,Tryz.typeInfo162,rfl,by decide⟩,⟨_,kO,rfl⟩⟩
theorem cM:DZ Tryz.prog 175 175 193 4 32:=⟨aU,aU,bq,⟨_,Tryz.typeInfo193,rfl,by decide⟩,⟨_,ef,rfl⟩⟩
theorem kG:DZ Tryz.prog 267 267 303 4 32:=⟨aB,aB,aI,⟨_,Az,rfl,by decide⟩,⟨_,ee,rfl⟩⟩
end Go.Proofs.YteajddicacjkhaaGreat
namespace Go.Proofs.YteajddicacjkhaaGreat
open Go.MW
variable{H:bV}{w:World}{σ:List Ent}
theorem fl{a0 a1 a2:Int}(hs:St H w σ):Cl Tryz.prog 199 [I a0,I a1,I a2] w fun v w'=>v= .bool (decide (a1≤a0∧a0≤a2))∧St H w' σ:=by
 refine Cl.o Tryz.func199 Tryz.ntmps199 ag3 ?_
 refine .aj (.z zg (.nil (.aj (.z zm (.z zm (.z oF (.z zm ?_)))))))
 refine .iW (t':=10) rfl (fun hb10=>?_) (fun hb10=>?_)
 ·refine .gT rfl rfl ?_
  refine .z zm ?_
  refine .gT rfl rfl ?_
  refine .z zm ?_
  refine .gT rfl rfl ?_
  refine .z oF (.z zpT (.z zg (.nil ?_)))
  refine .ret (Fin.bE Tryz.results199 rfl ?_)
  exact ⟨by simp [*],hs.out⟩
 ·refine .gFs 3 3 true rfl rfl rfl ?_
  refine .z zpF (.z zg (.nil ?_))
  refine .ret (Fin.bE Tryz.results199 rfl ?_)
  exact ⟨by simp [*],hs.out⟩
theorem re{many:Int}{l:Lim}(hs:St H w σ):Cl Tryz.prog 250 [I many,.agg l.c.toArray] w fun v w'=>v= .bool (l.ok many)∧St H w' σ:=by
 refine Cl.o Tryz.func250 Tryz.ntmps250 ag2 ?_
 refine .aj ?_
 refine .bx hs fun b3 w hs=>?_
 refine .z zg (.nil (.aj (.z (zfa eo) (.y hs (zld ae) (.z zm ?_)))))
 refine .o (.call BZ rfl (fl hs) ?_);rintro _ w ⟨rfl,hs⟩
 refine .z zm ?_
 refine .bif (t':=9) rfl (fun hb9=>?_) (fun hb9=>?_)
 ·refine .gT rfl rfl ?_
  refine .z (zfa eO) ?_
  refine .gT rfl rfl ?_
  refine .y hs (zld ae) ?_
  refine .gT rfl rfl ?_
  refine .z zm ?_
  refine .gT rfl rfl ?_
  refine .o (.call BZ rfl (fl hs) ?_);rintro _ w ⟨rfl,hs⟩
  refine .z zpT (.z zm ?_)
  refine .bif (t':=15) rfl (fun hb15=>?_) (fun hb15=>?_)
  ·refine .gT rfl rfl ?_
   refine .z (zfa eo) ?_
   refine .gT rfl rfl ?_
   refine .y hs (zld ae) ?_
   refine .gT rfl rfl ?_
   refine .z (zfa eO) ?_
   refine .gT rfl rfl ?_
   refine .y hs (zld ae) ?_
   refine .gT rfl rfl ?_
   refine .z gS (.z zpT (.z zm ?_))
   refine .B3 (t':=22) rfl (fun hb22=>?_) (fun hb22=>?_)
   ·refine .gT rfl rfl ?_
    refine .z (zfa fP) ?_
    refine .gT rfl rfl ?_
    refine .y hs (zld ae) ?_
    refine .gT rfl rfl ?_
    refine .o (.call BZ rfl (fl hs) ?_);rintro _ w ⟨rfl,hs⟩
    refine .z zpT (.z zm ?_)
    refine .bif (t':=27) rfl (fun hb27=>?_) (fun hb27=>?_)
    ·refine .gT rfl rfl ?_
     refine .z (zfa jT) ?_
     refine .gT rfl rfl ?_
     refine .y hs (zld ae) ?_
     refine .gT rfl rfl ?_
     refine .o (.call BZ rfl (fl hs) ?_);rintro _ w ⟨rfl,hs⟩
     refine .z zpT (.z zg (.nil ?_))
     refine .ret (Fin.bE Ca rfl ?_)
     exact ⟨by simp [Lim.ok, *],hs.out⟩
    ·refine .gFs 3 22 true rfl rfl rfl ?_
     refine .z zpF (.z zg (.nil ?_))
     refine .ret (Fin.bE Ca rfl ?_)
     exact ⟨by simp [Lim.ok, *],hs.out⟩
   ·refine .gFs 3 17 true rfl rfl rfl ?_
    refine .z zpF (.z zm ?_)
    refine .gFs 3 22 true rfl rfl rfl ?_
    refine .z zpF (.z zg (.nil ?_))
    refine .ret (Fin.bE Ca rfl ?_)
    exact ⟨by simp [Lim.ok, *],hs.out⟩
  ·refine .gFs 5 10 true rfl rfl rfl ?_
   refine .z zpF (.z zm ?_)
   refine .gFs 3 17 true rfl rfl rfl ?_
   refine .z zpF (.z zm ?_)
   refine .gFs 3 22 true rfl rfl rfl ?_
   refine .z zpF (.z zg (.nil ?_))
   refine .ret (Fin.bE Ca rfl ?_)
   exact ⟨by simp [Lim.ok, *],hs.out⟩
 ·refine .gFs 4 4 true rfl rfl rfl ?_
  refine .z zpF (.z zm ?_)
  refine .gFs 5 10 true rfl rfl rfl ?_
  refine .z zpF (.z zm ?_)
  refine .gFs 3 17 true rfl rfl rfl ?_
  refine .z zpF (.z zm ?_)
  refine .gFs 3 22 true rfl rfl rfl ?_
  refine .z zpF (.z zg (.nil ?_))
  refine .ret (Fin.bE Ca rfl ?_)
  exact ⟨by simp [Lim.ok, *],hs.out⟩
theorem xX{v:Value}{ls:List Lim}{g:Nat}{cap:List Value}{p:Lim→Bool}(hs:St H w σ)(hr:RL H v ls)
  (hc:∀args w,(callFunc g args).run Tryz.prog w= .ok (.enter g args) w) (hp:∀w l,St H w σ→Cl Tryz.prog g ([.agg l.c.toArray]++cap) w fun u w'=>u= .bool (p l)∧St H w' σ):
  Cl Tryz.prog 277 [v,.func (.func g) #[] cap.toArray] w fun u w'=>u=I (match ls.findIdx? p with|some k=>(k:Int)|none=> -1)∧St H w' σ:=by
 obtain ⟨a,c,rfl⟩:=RS.shape hr
 have hl:=(RS.len hr).2.2
 refine Cl.o Tryz.func277 Tryz.ntmps277 ag2 ?_
 refine .aj (.z zg (.nil (.seq (.aj (.z zm ?_)))))
 refine .q hs (CJ hr rfl aU) ?_
 refine .z zm (.nil ?_)
 refine .for (N:=(ls.map Lim.c).length) (J:=fun k fr w=>fr=[(1,.func (.func g) #[] cap.toArray),(0,.slice a (ls.map Lim.c).length c)]∧St H w σ∧∀j<k,∀l,ls[j]? =some l→p l=false) ak ?_ ?_ ?_
 ·exact .mk ⟨rfl,hs,fun j hj=>by omega⟩
 ·rintro k fr w hk ⟨rfl,hs,hno⟩
  obtain ⟨l,hl⟩:=nth (l:=ls) (by simpa using hk)
  refine .block (.aj (.z zm (.z zg (.nil (.aj (.z zm (.z zm (.z zm ?_))))))))
  refine .ixX hs hr rfl rfl aU bq hl rfl ?_;intro b14 o14 hc14
  refine .y hs (zls [_,_,_,_] fu bq) ?_
  refine .o (.oS (first:=[]) rfl rfl hc (hp _ _ hs) ?_);rintro _ w ⟨rfl,hs⟩
  refine .nil ?_
  refine (.cond rfl (fun hc16=>?_) (fun hc16=>?_))
  ·refine .aj (.z zm (.z zg (.nil ?_)))
   refine .ret (rB (rT (rB (rT (Fin.bE Tryz.results277 rfl ?_)))))
   exact ⟨by rw [uT hl hc16 hno],hs⟩
  ·refine .skip ?_
   refine nB (nT ?_)
   exact .mk ⟨rfl,hs,fm hno hl hc16⟩
 ·rintro fr w ⟨rfl,hs,hno⟩
  refine nT ?_
  refine .aj (.z zg (.nil ?_))
  refine .ret (Fin.bE Tryz.results277 rfl ?_)
  exact ⟨by rw [sO (by simpa using hno)],hs⟩
theorem tz{v:Value}{ls:List Lim}{g:Nat}{cap:List Value}{p:Lim→Bool}(hs:St H w σ)(hr:RL H v ls)
  (hc:∀args w,(callFunc g args).run Tryz.prog w= .ok (.enter g args) w) (hp:∀w l,St H w σ→Cl Tryz.prog g ([.agg l.c.toArray]++cap) w fun u w'=>u= .bool (p l)∧St H w' σ):
  Cl Tryz.prog 248 [v,.func (.func g) #[] cap.toArray] w fun u w'=>u= .bool (ls.any p)∧St H w' σ:=by
 refine Cl.o Tryz.func248 Tryz.ntmps248 ag2 ?_
 refine .aj (.z zg (.nil (.aj (.z zm (.z zm ?_)))))
 refine .o (.call Tryz.call277 rfl (xX hs hr hc hp) ?_);rintro _ w ⟨rfl,hs⟩
 refine .z uc (.z zg (.nil ?_))
 refine .ret (Fin.bE Tryz.results248 rfl ?_)
 exact ⟨by rw [Ar];cases ls.findIdx? p<;>simp<;>omega,hs⟩
theorem xO{b:Nat}{many:Int}{v:Value}{l:Lim}(hs:St H w σ)(hm:Mem σ (.blk b [I many,v])):Cl Tryz.prog 249 [.agg l.c.toArray,.pointer (some ⟨b,0,none⟩)] w fun v w'=>v= .bool (!l.ok many)∧St H w' σ:=by
 refine Cl.o Tryz.func249 Tryz.ntmps249 ag2 ?_
 refine .aj ?_
 refine .bx hs fun b2 w hs=>?_
 refine .z zg (.nil (.aj (.z (zfa cA) ?_)))
 refine .q hs (iw rfl ae (.there hm) rfl) ?_
 refine .q hs (kV (vs:=l.c) rfl fu bq) ?_
 refine .o (.call Tryz.call250 rfl (re hs) ?_);rintro _ w ⟨rfl,hs⟩
 refine .z fW (.z zg (.nil ?_))
 refine .ret (Fin.bE Tryz.results249 rfl ?_)
 exact ⟨rfl,hs.out⟩
theorem je{v:Value}{s:cU}(hs:St H w σ)(hr:RSy H v s):Cl Tryz.prog 197 [v] w fun v w'=>v=I s.check∧St H w' σ:=by
 obtain ⟨u,rfl,hr⟩:=hr
 obtain ⟨a,c,rfl⟩:=RS.shape hr
 refine Cl.o Tryz.func197 Tryz.ntmps197 ag1 ?_
 refine .aj ?_
 refine .bx hs fun b1 w hs=>?_
 refine .z zg (.nil (.seq (.block (.aj (.z (zfa cA) (.y hs (zld ae) ?_))))))
 refine .o (.call BZ rfl (fl hs) ?_);rintro _ w ⟨rfl,hs⟩
 refine .z fW (.z zg (.nil ?_))
 refine (.cond rfl (fun hc3=>?_) (fun hc3=>?_))
 ·refine .aj (.z zg (.nil ?_))
  refine .ret (rB (rT (Fin.bE Tryz.results197 rfl ?_)))
  exact ⟨congrArg I (by unfold cU.check;(repeat' split)<;>simp_all<;>omega),hs.out⟩
 ·refine .aj (.z (zfa cf) (.y hs (zld dj) ?_))
  refine .q hs (CJ hr rfl aU) ?_
  refine .z mI (.z zg (.nil ?_))
  refine (.bH rfl (fun hc8=>?_) (fun hc8=>?_))
  ·refine .aj (.z zg (.nil ?_))
   refine .ret (rB (rT (Fin.bE Tryz.results197 rfl ?_)))
   exact ⟨congrArg I (by unfold cU.check;(repeat' split)<;>simp_all<;>omega),hs.out⟩
  ·refine .aj (.z (zfa cf) (.y hs (zld dj) ?_))
   refine .q hs (dz (f:=[]) (c:=[_]) rfl rfl) ?_
   refine .o (.call Tryz.call248 rfl (tz (p:=fun l=> !l.ok s.many) hs hr Tryz.call249 (fun w l hs=>xO hs .here)) ?_);rintro _ w ⟨rfl,hs⟩
   refine .z zg (.nil ?_)
   refine (.cond rfl (fun hc13=>?_) (fun hc13=>?_))
   ·refine .aj (.z zg (.nil ?_))
    refine .ret (rB (rT (Fin.bE Tryz.results197 rfl ?_)))
    exact ⟨congrArg I (by unfold cU.check;(repeat' split)<;>simp_all<;>omega),hs.out⟩
   ·refine .skip ?_
    refine nB (nT ?_)
    refine .aj (.z zg (.nil ?_))
    refine .ret (Fin.bE Tryz.results197 rfl ?_)
    exact ⟨congrArg I (by unfold cU.check;(repeat' split)<;>simp_all<;>omega),hs.out⟩
theorem q8{H:bV}{b:Nat}{s:cU}{u:Value}(hok:s.Ok)(hb:Row H b [I s.many,u])(hr:RL H u s.cH):ItA Tryz.prog 295 [.pointer (some ⟨b,0,none⟩)] H s.di:=by
 intro l II Ix _ _ hy H0 σb0 σf w hle hI0 hs
 obtain ⟨a,c,rfl⟩:=RS.shape hr
 have hb1:cellAt H0 b 1=some (.slice a (s.cH.map Lim.c).length c):=cellAt.mono (by rw [hb.cell];rfl) hle
 have hlen:=hok.len
 refine Cl.o Tryz.func295 Tryz.ntmps295 ag2 ?_
 refine .aj (.z (zfa cf) (.y hs (zld dj) ?_))
 refine .q hs (CJ (hr.mono hle) rfl aU) ?_
 refine .z zm (.nil ?_)
 refine .for (N:=(s.cH.map Lim.c).length) (J:=fun k fr w=>fr=[(6,.slice a (s.cH.map Lim.c).length c),(0,.func (.yield l) #[] #[])]∧∃H1 σb,HLe H H1∧HLe H0 H1∧II k H1 σb∧St H1 w (σb++σf)) (by simp;omega) ?_ ?_ ?_
 ·exact .mk ⟨rfl,H0,σb0,hle,HLe.refl _,hI0,hs⟩
 ·rintro k fr w hk ⟨rfl,H1,σb,hle1,hle0,hI,hs⟩
  obtain ⟨x,hx⟩:=nth (l:=s.cH) (by simpa using hk)
  obtain ⟨hA,hB,_⟩:=hok.arc (List.mem_of_getElem? hx) k
  refine .block (.aj (.z zm ?_))
  refine .ixX hs (hr.mono hle1) rfl rfl aU bq hx rfl ?_;intro b11 o11 hc11
  refine .q hs (bY (vs:=x.c) rfl fu bq hc11) ?_
  refine .o (.alloc hs ef rfl fun b4 w hs=>?_)
  refine .z zg ?_
  refine .o (.aP (vs:=x.c) hs rfl rfl bq fun w hs=>?_)
  refine .nil (.aj (.z zm (.z (zfa eo) (.y hs (zld ae) (.z (zfa eO) (.y hs (zld ae) (.z (zfa fP) (.y hs (zld ae) (.z zm ?_)))))))))
  refine .z (zbd [_,_,_,_] pn) ?_
  have hk':k<(s.di.map fun x=>[Value.agg x.v.toArray]).length:=by simp [cU.di,fb];simpa using hk
  have hxk:(s.di.map fun x=>[Value.agg x.v.toArray])[k]=[.agg (x.arc k).v.toArray]:=by
   have:=kM hx
   rw [List.getElem_map];rw [List.getElem?_eq_some_iff] at this;obtain ⟨h1,h2⟩:=this;simp only [cU.di];rw [h2]
  have hyd:=hy k hk' H1 σb σf w hle1 hI hs.tail
  rw [hxk] at hyd
  refine .o (.yield (vs:=[.agg (x.arc k).v.toArray]) rfl (by simp [Arc.v,hA,hB];rfl) hyd ?_);rintro v22 w ⟨H2,σ2,g1,hs,g3⟩
  obtain ⟨bb,rfl,gT,gF⟩:=nv g3
  refine .z fW (.nil ?_)
  refine (.cond rfl (fun hc23=>?_) (fun hc23=>?_))
  ·refine .ret (rB (rT (rB (Fin.Hn Tryz.results295 ?_))))
   exact ⟨H2,σ2,hle0.trans g1,hs,.inr (gF (by simpa using hc23))⟩
  ·refine .skip ?_
   refine nB (nT ?_)
   exact .mk ⟨rfl,H2,σ2,hle1.trans g1,hle0.trans g1,gT (by simpa using hc23),hs⟩
 ·rintro fr w ⟨rfl,H1,σb,hle1,hle0,hI,hs⟩
  exact Fin.zh Tryz.results295 ⟨H1,σb,hle0,hs,.inl (by simpa [cU.di,fb] using hI)⟩
theorem kn{v:Value}{s:cU}(hs:St H w σ)(hok:s.Ok)(hr:RSy H v s):
  Cl Tryz.prog 269 [v] w fun v w'=>∃H1 b,HLe H H1∧v= .func (.func 295) #[] #[.pointer (some ⟨b,0,none⟩)]∧ItA Tryz.prog 295 [.pointer (some ⟨b,0,none⟩)] H1 s.di∧St H1 w' σ:=by
 obtain ⟨u,rfl,hr⟩:=hr
 refine Cl.o Tryz.func269 Tryz.ntmps269 ag1 ?_
 refine .aj ?_
 refine .bx hs fun b1 w hs=>?_
 refine .z zg (.nil (.aj ?_))
 refine .q hs (dz (f:=[]) (c:=[_]) rfl rfl) ?_
 refine .z zg (.nil ?_)
 refine .ret (Fin.bE Tryz.results269 rfl ?_)
 obtain ⟨H1,g1,g2,hs⟩:=hs.cV .here
 exact ⟨H1,b1,g1,rfl,q8 hok g2 (hr.mono g1),hs⟩
theorem lK{N gf:Nat}{ar:List Arc}{cap:List Value}(hs:St H w σ)(hN:N≤64)(hok:ru ar (N+1))(hit:ItA Tryz.prog gf cap H ar)(hc:∀args w,(callFunc gf args).run Tryz.prog w= .ok (.enter gf args) w):
  Cl Tryz.prog 225 [I N,.func (.func gf) #[] cap.toArray] w fun v w'=>∃H1 bc bb s ov vo,HLe H H1∧v= .tuple #[.slice (some ⟨bc,0,none⟩) (N+1) (N+1),.slice (some ⟨bb,0,none⟩) (N+1) (N+1),vo]∧OvR H1 vo ov∧IK (N+1) ar s ov∧St H1 w' (.blk bc (Is s.cost):: .blk bb (jG s.by_)::σ):=by
 refine Cl.o Tryz.func225 Tryz.ntmps225 ag2 ?_
 refine .aj ?_
 refine .o (.alloc hs fc rfl fun b4 w hs=>?_)
 refine .o (.alloc hs Tryz.zeroValue267 rfl fun b5 w hs=>?_)
 refine .o (.alloc hs Tryz.zeroValue268 rfl fun b6 w hs=>?_)
 refine .nil ?_
 refine .cut (fun fs w=>∃bc bb,kJ fs ⟨70,[],[(1,.func (.func gf) #[] cap.toArray),(0,I N),(4,.pointer (some ⟨b4,0,none⟩)),(5,.pointer (some ⟨b5,0,none⟩)),(6,.pointer (some ⟨b6,0,none⟩))]⟩∧St H w (.blk b4 [.slice (some ⟨bc,0,none⟩) (N+1) (N+1)]:: .blk b5 [.slice (some ⟨bb,0,none⟩) (N+1) (N+1)]:: .blk b6 [.pointer none]:: .blk bc (Is (List.replicate (N+1) 0)):: .blk bb (jG (Ab (N+1) 0))::σ)) ?_ ?_
 ·refine .draw mix rfl hs fun w hs=>?_
  refine .z 0 rfl zm ?_;refine .z 1 rfl cP ?_;refine .z 3 rfl zm ?_;refine .z 4 rfl cP ?_
  refine .e2 (i:=2) (j:=5) aq rfl rfl rfl rfl .none .none hs ?_ ?_
  ·refine .yP (N+1) hs rfl rfl af jK rfl ai cB ak ?_;intro b11 w hs
   refine .go ?_
   refine .e2 (i:=5) (j:=6) aq rfl rfl rfl rfl .none .none hs ?_ ?_
   ·refine .E5 (N+1) hs rfl rfl aB Az rfl aI ee ak ?_;intro b14 w hs
    refine .go ?_
    refine .E 6 hs ?_
    refine .store hs rfl rfl aC ?_;intro w hs
    refine .go ?_
    refine .E 7 hs ?_
    refine .store hs rfl rfl vX ?_;intro w hs
    refine .go ?_
    refine .D hs ?_
    exact nT ⟨b11,b14,bj,hs.sb⟩
   ·refine .store hs rfl rfl aC ?_;intro w hs
    refine .go ?_
    refine .E 5 hs ?_
    refine .E5 (N+1) hs rfl rfl aB Az rfl aI ee ak ?_;intro b14 w hs
    refine .go ?_
    refine .E 7 hs ?_
    refine .store hs rfl rfl vX ?_;intro w hs
    refine .go ?_
    refine .D hs ?_
    exact nT ⟨b11,b14,bj,hs.sb⟩
  ·refine .E5 (N+1) hs rfl rfl aB Az rfl aI ee ak ?_;intro b14 w hs
   refine .go ?_
   refine .E 2 hs ?_
   refine .yP (N+1) hs rfl rfl af jK rfl ai cB ak ?_;intro b11 w hs
   refine .go ?_
   refine .E 6 hs ?_
   refine .store hs rfl rfl aC ?_;intro w hs
   refine .go ?_
   refine .E 7 hs ?_
   refine .store hs rfl rfl vX ?_;intro w hs
   refine .go ?_
   refine .D hs ?_
   exact nT ⟨b11,b14,bj,hs.sb⟩
 ·rintro s w ⟨bc,bb,hfs,hs⟩
  refine WE.sub ?_ hfs
  refine .seq (.aj (.y hs (zld ft) (.z (dp aB) (.z zm (.nil ?_)))))
  refine .for (N:=N+1) (J:=fun k fr w=>fr=[(1,.func (.func gf) #[] cap.toArray),(0,I N),(4,.pointer (some ⟨b4,0,none⟩)),(5,.pointer (some ⟨b5,0,none⟩)),(6,.pointer (some ⟨b6,0,none⟩))]∧St H w (.blk b4 [.slice (some ⟨bc,0,none⟩) (N+1) (N+1)]:: .blk b5 [.slice (some ⟨bb,0,none⟩) (N+1) (N+1)]:: .blk b6 [.pointer none]:: .blk bc (Is (List.replicate (N+1) 0)):: .blk bb (jG (Ab (N+1) k))::σ)) ak ?_ ?_ ?_
  ·exact .mk ⟨rfl,hs⟩
  ·rintro k fr w hk ⟨rfl,hs⟩
   have hkl:k<(Ab (N+1) k).length:=by rw [Aa ak];exact hk
   refine .block (.aj (.z zm (.z zg (.nil (.region (.y hs (zld ft) (.z zm ?_)))))))
   first|(refine .ixw hs aB aI ?_;intro b22 o22 hc22)|refine .z (lZ aB aI) ?_
   refine .z (zfa dW) ?_
   refine .o (.store hs rfl rfl ai ?_ dE (Be hkl ak) ((zB hkl _).trans (congrArg jG (E3 hk))));intro w hs
   refine .nil ?_
   refine nB (nT ?_)
   exact .mk ⟨rfl,hs⟩
  ·rintro fr w ⟨rfl,hs⟩
   refine nT ?_
   refine .seq (.aj (.z zm (.z cP (.z zm (.nil ?_)))))
   refine .forD (N:=N+2) (J:=fun r ds fr w=>fr=[(1,.func (.func gf) #[] cap.toArray),(0,I N),(4,.pointer (some ⟨b4,0,none⟩)),(5,.pointer (some ⟨b5,0,none⟩)),(6,.pointer (some ⟨b6,0,none⟩))]∧∃Ds H1 s vo,ds=marks Ds∧HLe H H1∧vF (N+1) ar r 0 none s∧(r=0∨∃x,OvR H1 vo (some x)∧vF (N+1) ar (r - 1) ar.length (some x) s)∧St H1 w (.blk b4 [.slice (some ⟨bc,0,none⟩) (N+1) (N+1)]:: .blk b5 [.slice (some ⟨bb,0,none⟩) (N+1) (N+1)]:: .blk b6 [vo]:: .blk bc (Is s.cost):: .blk bb (jG s.by_)::(mes Ds++σ))) ak ?_ ?_ ?_
   ·exact .mk (ds:=[]) ⟨rfl,[],H,⟨List.replicate (N+1) 0,List.replicate (N+1) ⟨0,0,0,-1⟩⟩,_,rfl,HLe.refl _,vF.init ak,.inl rfl,by rw [C1] at hs;exact hs⟩
   ·rintro r ds fr w hr ⟨rfl,Ds,H1,s,vo,rfl,hle1,hN0,-,hs⟩
    refine .block (.aj ?_)
    refine .o (.store hs rfl rfl Tryz.sizeOf268 fun w hs=>?_)
    refine .nil (.seq (.aj (.z zm (.nil (.block ?_)))))
    refine .rangeFunc (gf:=gf) (cap:=cap) (xs:=ar.map fun x=>[.agg x.v.toArray]) (σb:=[.blk b4 [.slice (some ⟨bc,0,none⟩) (N+1) (N+1)],.blk b5 [.slice (some ⟨bb,0,none⟩) (N+1) (N+1)],.blk b6 [.pointer none],.blk bc (Is s.cost),.blk bb (jG s.by_)]) (σf:=mes Ds++σ) hs trivial rfl (hit.mono hle1) hc cu rfl
     (I:=fun k H' σb=>∃s ov vo,σb=[.blk b4 [.slice (some ⟨bc,0,none⟩) (N+1) (N+1)],.blk b5 [.slice (some ⟨bb,0,none⟩) (N+1) (N+1)],.blk b6 [vo],.blk bc (Is s.cost),.blk bb (jG s.by_)]∧OvR H' vo ov∧vF (N+1) ar r k ov s) (Ix:=fun _ _ _=>False) (by rintro k _ _ σ g1 ⟨s,ov,vo,g2,g3,g4⟩;exact ⟨s,ov,vo,g2,g3.mono g1,g4⟩) (fun _ _ _ _ _ h=>h)
     ⟨s,none,_,rfl,rfl,hN0⟩ ?_ ?_ (fun D c H' σb w _ h _=>h.elim)
    ·rintro l k hk H2 σb2 σf2 w hle2 ⟨s,ov,vo,rfl,hov,hN⟩ hs ⟨rr,hrr⟩
     obtain ⟨x,hx⟩:=nth (l:=ar) (by simpa using hk)
     obtain ⟨c1,c2,c3,c4,c5,c6⟩:=hok.2 x (List.mem_of_getElem? hx)
     have hxk:(ar.map fun x=>[Value.agg x.v.toArray])[k]=[.agg x.v.toArray]:=by rw [List.getElem_map];rw [List.getElem?_eq_some_iff] at hx;obtain ⟨h1,h2⟩:=hx;rw [h2]
     rw [hxk]
     have hkl:k<ar.length:=by simpa using hk
     have hal:=hok.1
     have hlc:=hN.lc
     have hlb:=hN.lb
     have lo1:=hN.lo x.f c1
     have hi1:=hN.hi x.f c1
     refine .region ?_
     refine .o (.alloc hs ee rfl fun b8 w hs=>?_)
     refine .o (.aP (vs:=x.v) hs rfl rfl aI fun w hs=>?_)
     refine .nil ?_
     refine nT ?_
     refine ⟨H2,[.blk b8 x.v,.blk b4 [.slice (some ⟨bc,0,none⟩) (N+1) (N+1)],.blk b5 [.slice (some ⟨bb,0,none⟩) (N+1) (N+1)],.blk b6 [vo],.blk bc (Is s.cost),.blk bb (jG s.by_)],HLe.refl _,hs,?_⟩;rintro w σf2 - hs
     refine .block ?_
     refine .seq (.draw mix rfl hs fun w hs=>?_)
     refine .y 0 rfl hs an ?_;refine .z 1 rfl (zfa du) ?_;refine .y 2 rfl hs ae ?_
     first|(refine .ixv 3 rfl hs af ai ?_;intro b34 o34 hc34)|refine .z 3 rfl (zix af ai) ?_
     refine .y 4 rfl hs ae ?_;refine .z 5 rfl (zfa fp) ?_;refine .y 6 rfl hs ae ?_;refine .z 7 rfl cP ?_;refine .y 8 rfl hs an ?_;refine .z 9 rfl (zfa dB) ?_;refine .y 10 rfl hs ae ?_
     first|(refine .ixv 11 rfl hs af ai ?_;intro b42 o42 hc42)|refine .z 11 rfl (zix af ai) ?_
     refine .y 12 rfl hs ae ?_;refine .z 13 rfl iK ?_;refine .D hs ?_
     refine (.bH rfl (fun hc44=>?_) (fun hc44=>?_))
     ·refine .seq (.draw mix rfl hs fun w hs=>?_)
      refine .y 0 rfl hs an ?_;refine .z 1 rfl (zfa dB) ?_;refine .y 2 rfl hs ae ?_;refine .y 3 rfl hs ft ?_;refine .z 4 rfl (zfa dB) ?_;refine .y 5 rfl hs ae ?_;refine .y 6 rfl hs an ?_;refine .z 7 rfl (zfa du) ?_;refine .y 8 rfl hs ae ?_
      first|(refine .ixv 9 rfl hs af ai ?_;intro b54 o54 hc54)|refine .z 9 rfl (zix af ai) ?_
      refine .y 10 rfl hs ae ?_;refine .z 11 rfl (zfa fp) ?_;refine .y 12 rfl hs ae ?_;refine .z 13 rfl cP ?_
      refine .BH (i:=14) (vs:=x.v) hs rfl aq .none rfl ij aI ?_
      first|(refine .ixv 15 rfl hs af ai ?_;intro b60 o60 hc60)|refine .z 15 rfl (zix af ai) ?_
      refine .E 16 hs ?_
      refine .store hs rfl rfl ai ?_;intro w hs
      refine .go ?_
      first|(refine .ixw 17 rfl hs aB aI ?_;intro b61 o61 hc61)|refine .z 17 rfl (lZ aB aI) ?_
      refine .E 18 hs ?_
      refine .aP (vs:=x.v) hs rfl rfl aI ?_;intro w hs
      refine .go ?_
      refine .D hs ?_
      refine .region ?_
      refine .o (.store hs rfl rfl Tryz.sizeOf268 fun w hs=>?_)
      refine .nil ?_
      refine nB ?_
      obtain ⟨H3,g1,g2,hs⟩:=hs.cV .here
      exact ⟨H3,_,g1,hs,s.rlx x,some x,_,rfl,⟨b8,rfl,g2⟩,hN.yD hok hx hc44⟩
     ·refine .skip ?_
      refine nB ?_
      exact ⟨H2,_,HLe.refl _,hs.tail,s,ov,vo,rfl,hov,hN.skip hok hx (by unfold BS.can;omega)⟩
    ·rintro D H2 σb2 w hle2 ⟨s,ov,vo,rfl,hov,hN⟩ hs
     obtain ⟨a',rfl,ha'⟩:=hov.ptr
     replace hs:St H2 w (.blk b4 [.slice (some ⟨bc,0,none⟩) (N+1) (N+1)]:: .blk b5 [.slice (some ⟨bb,0,none⟩) (N+1) (N+1)]:: .blk b6 [.pointer a']:: .blk bc (Is s.cost):: .blk bb (jG s.by_)::(mes (D::Ds)++σ)):=St.deep (σ1:=[_,_,_,_,_]) hs
     have hN:vF (N+1) ar r ar.length ov s:=by simpa using hN
     refine nB (nT ?_)
     refine .aj (.y hs (zld Tryz.isAgg268) ?_)
     refine .q hs (CM rfl rfl Tryz.runUnderlying268) ?_
     refine .nil ?_
     refine (.cond rfl (fun hc63=>?_) (fun hc63=>?_))
     ·refine .seq (.draw mix rfl hs fun w hs=>?_)
      refine .y 0 rfl hs an ?_;refine .y 1 rfl hs ft ?_
      refine .E 2 hs ?_
      refine .store hs rfl rfl aC ?_;intro w hs
      refine .go ?_
      refine .E 3 hs ?_
      refine .store hs rfl rfl vX ?_;intro w hs
      refine .go ?_
      refine .E 4 hs ?_
      refine .store hs rfl rfl Tryz.sizeOf268 ?_;intro w hs
      refine .go ?_
      refine .D hs ?_
      refine .ret (rB (rT (rB (rT (?_)))))
      obtain ⟨rfl,rfl⟩:=OvR.no ha' hc63
      refine Fin.iZ (D::Ds) [_,_,_,_,_] hs fun w hs=>⟨_,results3 Tryz.results225 (Bx hs rfl an) (Bx hs rfl ft) (Bx hs rfl Tryz.isAgg268),H2,bc,bb,s,none,_,hle1.trans hle2,rfl,hov,⟨r,hN,fun h=>(h rfl).elim⟩,hs.sb⟩
     ·refine .skip ?_
      refine nB (nT ?_)
      obtain ⟨x,rfl⟩:=OvR.yes ha' hc63
      exact .mk (ds:=marks (D::Ds)) ⟨rfl,D::Ds,H2,s,_,rfl,hle1.trans hle2,hN.next hok,.inr ⟨x,hov,hN⟩,hs⟩
   ·rintro ds fr w ⟨rfl,Ds,H1,s,vo,rfl,hle1,hN0,hor,hs⟩
    obtain ⟨x,hov,hN⟩:∃x,OvR H1 vo (some x)∧vF (N+1) ar (N+2 - 1) ar.length (some x) s:=hor.resolve_left ak
    obtain ⟨b3,rfl,hrow⟩:=hov
    refine nT ?_
    refine .seq (.draw mix rfl hs fun w hs=>?_)
    refine .y 0 rfl hs an ?_;refine .y 1 rfl hs ft ?_;refine .y 2 rfl hs Tryz.isAgg268 ?_
    refine .E 3 hs ?_
    refine .store hs rfl rfl aC ?_;intro w hs
    refine .go ?_
    refine .E 4 hs ?_
    refine .store hs rfl rfl vX ?_;intro w hs
    refine .go ?_
    refine .E 5 hs ?_
    refine .store hs rfl rfl Tryz.sizeOf268 ?_;intro w hs
    refine .go ?_
    refine .D hs ?_
    refine .ret ?_
    refine Fin.iZ Ds [_,_,_,_,_] hs fun w hs=>⟨_,results3 Tryz.results225 (Bx hs rfl an) (Bx hs rfl ft) (Bx hs rfl Tryz.isAgg268),H1,bc,bb,s,some x,_,hle1,rfl,⟨b3,rfl,hrow⟩,⟨N+1,hN,fun _=>rfl⟩,hs.sb⟩
theorem jD{v:Value}{s:cU}(hs:St H w σ)(hok:s.Ok)(hr:RSy H v s):
  Cl Tryz.prog 223 [v] w fun v w'=>∃H1 b,HLe H H1∧v= .bool b∧(b=true↔s.Sound)∧St H1 w' σ:=by
 obtain ⟨u,rfl,hr⟩:=hr
 obtain ⟨N,hN⟩:=Int.eq_ofNat_of_zero_le hok.m0
 have hN1:=hok.m1
 have hn:s.n=N+1:=by simp [cU.n,hN]
 have hoka:=hok.di
 rw [hn] at hoka
 rw [hN]
 refine Cl.o Tryz.func223 Tryz.ntmps223 ag1 ?_
 refine .aj ?_
 refine .bx hs fun b1 w hs=>?_
 refine .z zg (.nil ?_)
 refine .seq (.draw mix rfl hs fun w hs=>?_)
 refine .z 0 rfl (zfa cA) ?_;refine .y 1 rfl hs ae ?_;refine .ys 2 rfl hs [_,_] bG aN ?_
 refine .E 3 hs ?_
 refine .call Tryz.call269 rfl (kn (s:=s) hs hok ⟨u,by rw [hN],hr⟩) ?_;rintro _ w ⟨H1,b10,hle1,rfl,hit,hs⟩
 refine .go ?_
 refine .E 4 hs ?_
 refine .call Tryz.call225 rfl (lK hs ak hoka hit Tryz.call295) ?_;rintro _ w ⟨H2,bc,bb,st,ov,vo,hle2,rfl,hov,hnr,hs⟩
 obtain ⟨a',rfl,ha'⟩:=hov.ptr
 refine .go ?_
 refine .z 5 rfl zm ?_;refine .z 6 rfl zex ?_;refine .z 7 rfl zex ?_;refine .z 8 rfl zex ?_;refine .z 9 rfl zg ?_;refine .z 10 rfl zg ?_;refine .z 11 rfl zg ?_;refine .D hs ?_
 refine .aj (.z zm ?_)
 refine .q hs (CM rfl rfl Tryz.runUnderlying268) ?_
 refine .z zg (.nil ?_)
 refine .ret (Fin.bE Tryz.results223 rfl ?_)
 refine ⟨H2,_,hle1.trans hle2,rfl,?_,hs.out⟩
 obtain ⟨r,hN2,hr2⟩:=hnr
 cases ov with
 |none=>
  rw [ha']
  exact ⟨fun _=>⟨_,(hN2.sol hoka ak).1⟩,fun _=>rfl⟩
 |some x=>
  rw [ha']
  exact ⟨fun h=>(by cases h),fun h=>(hN2.none hoka ak (by have:=hr2 cu;omega) h).elim⟩
theorem pT{c:Int}(hs:St H w σ)(hc:0≤c∧c<4294967296):Cl Tryz.prog 313 [.int .u64 1,.int .u64 c] w fun v w'=>v= .tuple #[.int .u64 0,.int .u64 c]∧St H w' σ:=by
 refine Cl.o Tryz.func313 Tryz.ntmps313 ag2 ?_
 refine .aj (.z zg (.z zg (.nil (.aj (.z zm ?_)))))
 first|refine .q hs (GF rfl rfl ⟨ak,ak⟩) ?_|refine .q hs (AK rfl rfl) ?_
 refine .z zg (.nil (.aj (.z zm ?_)))
 first|refine .q hs (yH rfl rfl ⟨ak,ak⟩) ?_|refine .q hs (zZ rfl rfl dO) ?_
 refine .z zg (.nil (.aj (.z zm ?_)))
 first|refine .q hs (GF rfl rfl ⟨ak,ak⟩) ?_|refine .q hs (AK rfl rfl) ?_
 refine .z zg (.nil (.aj (.z zm ?_)))
 first|refine .q hs (yH rfl rfl ⟨ak,ak⟩) ?_|refine .q hs (zZ rfl rfl dO) ?_
 refine .z zg (.nil (.aj (.z zm (.z zm (.z lz (.z zg (.nil (.aj (.z zm ?_)))))))))
 refine .z zm (.z lz (.z zm ?_))
 first|refine .q hs (yH rfl rfl ⟨ak,ak⟩) ?_|refine .q hs (zZ rfl rfl dO) ?_
 refine .z cP (.z zg (.nil (.aj (.z zm ?_))))
 first|refine .q hs (GF rfl rfl ⟨ak,ak⟩) ?_|refine .q hs (AK rfl rfl) ?_
 refine .z zg (.nil (.aj (.z zm ?_)))
 first|refine .q hs (yH rfl rfl ⟨ak,ak⟩) ?_|refine .q hs (zZ rfl rfl dO) ?_
 refine .z zg (.nil (.aj (.z zm (.z zm (.z zm (.z lz (.z cP (.z zg (.nil ?_)))))))))
 refine .aj (.z zm (.z zm (.z lz (.z zm (.z cP (.z zm ?_))))))
 first|refine .q hs (yH rfl rfl ⟨ak,ak⟩) ?_|refine .q hs (zZ rfl rfl dO) ?_
 refine .z cP (.z zg (.nil (.aj (.z zm (.z zm (.z lz (.z zg (.nil ?_))))))))
 refine .ret (Fin.iq Tryz.results313 rfl rfl ?_)
 exact ⟨cu,hs⟩
theorem sc{c:Int}(hs:St H w σ)(hc:0≤c∧c<4294967296):Cl Tryz.prog 306 [.int .u64 1,.int .u64 c] w fun v w'=>v= .tuple #[.int .u64 0,.int .u64 c]∧St H w' σ:=by
 refine Cl.o Tryz.func306 Tryz.ntmps306 ag2 ?_
 refine .aj (.z zg (.z zg (.nil ?_)))
 refine .seq (.cF ?_)
 refine .skip ?_
 refine nT ?_
 refine .aj (.z zm (.z zm ?_))
 refine .o (.call Tryz.call313 rfl (pT hs hc) ?_);rintro _ w ⟨rfl,hs⟩
 refine .z zm (.z zex (.z zex (.z zg (.z zg (.nil (.aj (.z zm (.z zm (.z zg ?_)))))))))
 refine .z zg (.nil ?_)
 refine .ret (Fin.iq Tryz.results306 rfl rfl ?_)
 exact ⟨rfl,hs⟩
theorem Dl{c k:Nat}{z:Int}:let n:=min k (c - k);(List.replicate k z++List.replicate (c - k) 0).take k++List.replicate n z++(List.replicate k z++List.replicate (c - k) 0).drop (k+n)=List.replicate (k+n) z++List.replicate (c - (k+n)) (0:Int):=by
 intro n
 have hn:n≤c - k:=Nat.min_le_right _ _
 have e0:(List.replicate k z).length=k:=by simp
 rw [List.take_left' e0]
 have e1:(List.replicate k z++List.replicate (c - k) 0).drop (k+n)=List.replicate (c - (k+n)) (0:Int):=by
  rw [show k+n=(List.replicate k z).length+n by simp,List.drop_append]
  simp
  omega
 rw [e1,List.replicate_append_replicate]
theorem rM{z:Int}{bx c:Nat}(hs:St H w σ)(hm:Mem σ (.blk bx (Is [z])))(h1:1≤c)(h2:c≤1000000):Cl Tryz.prog 296 [.slice (some ⟨bx,0,none⟩) 1 1,I c] w fun v w'=>∃b,v= .slice (some ⟨b,0,none⟩) c c∧St H w' (.blk b (Is (List.replicate c z))::σ):=by
 refine Cl.o Tryz.func296 Tryz.ntmps296 ag2 ?_
 refine .aj (.z zg (.nil (.seq (.aj (.z zm (.z iK (.nil ?_)))))))
 refine (.bH rfl (fun hc10=>?_) (fun hc10=>?_))
 ·omega
 ·refine .skip ?_
  refine nT ?_
  refine .aj (.z zm (.z (dp af) ?_))
  first|refine .q hs (xi rfl bA dH ⟨ak,ak⟩) ?_|refine .q hs (xh rfl bA dH ⟨ak,ak⟩) ?_|refine .q hs (yJ rfl bA dH) ?_
  refine .z zm ?_
  first|refine .q hs (xi rfl bA dH ⟨ak,ak⟩) ?_|refine .q hs (xh rfl bA dH ⟨ak,ak⟩) ?_|refine .q hs (yJ rfl bA dH) ?_
  refine .o (.call Tryz.call306 rfl (sc (c:=c) hs ak) ?_);rintro _ w ⟨rfl,hs⟩
  refine .z zm (.z zex (.z zex (.z zg (.z zg (.nil (.seq (.aj (.z zm (.z mI ?_)))))))))
  refine .z zm ?_
  refine .iW (t':=23) rfl (fun hb23=>?_) (fun hb23=>?_)
  ·refine .gFs 2 2 false rfl rfl rfl ?_
   refine .z zpT (.nil ?_)
   refine (.cT ?_)
   first|omega|(simp at hc26;omega)
  ·refine .gT rfl rfl ?_
   refine .z zm ?_
   refine .gT rfl rfl ?_
   refine .z mI (.z zpF (.nil ?_))
   refine (.bH rfl (fun hc26=>?_) (fun hc26=>?_))
   ·first|omega|(simp at hc26;omega)
   ·refine .skip ?_
    refine nT ?_
    refine .aj (.z zm ?_)
    first|refine .q hs (xi rfl dH bA ⟨ak,ak⟩) ?_|refine .q hs (xh rfl dH bA ⟨ak,ak⟩) ?_|refine .q hs (yJ rfl dH bA) ?_
    refine .o (.yP c hs rfl rfl af jK rfl ai cB ak fun b30 w hs=>?_)
    refine .z zg (.nil (.aj (.z zm (.z zm ?_))))
    refine .o (.Iw (k:=1) (xs:=List.replicate c 0) (zs:=[z]) hs rfl rfl ⟨_,_,rfl⟩ af ai ak rfl (zd (xs:=[z]) (.there hm) rfl rfl) (by simp;omega) ?_);intro w hs
    refine .z zg (.nil (.seq (.block ?_)))
    refine .loop (fun k:Nat=>⟨48,[],[(8,I k),(7,.slice (some ⟨b30,0,none⟩) c c)]⟩) (fun k w=>(1≤k∧k≤c)∧St H w (.blk b30 (Is (List.replicate k z++List.replicate (c - k) 0))::σ)) (fun k=>c - k) 1 bj ⟨⟨ak,ak⟩,by
      have e:List.take 0 (List.replicate c (0:Int))++[z]++List.drop (0+1) (List.replicate c 0)=List.replicate 1 z++List.replicate (c - 1) 0:=by simp
      rw [e] at hs;exact hs⟩ ?_
    rintro k w ⟨⟨k1,k2⟩,hs⟩
    refine .seq (.aj (.z zm (.z zm (.z (dp af) (.z iK (.nil ?_))))))
    refine (.bH rfl (fun hc37=>?_) (fun hc37=>?_))
    ·refine .skip ?_
     refine nT ?_
     refine .block ?_
     refine .draw mix rfl hs fun w hs=>?_
     refine .z 0 rfl zm ?_;refine .z 1 rfl zm ?_;refine .z 2 rfl zm ?_
     refine .z 3 rfl (yG (k:=k) rfl rfl af ai ak ak) ?_
     refine .z 4 rfl zm ?_;refine .z 5 rfl zm ?_
     refine .z 6 rfl (uI (k:=k) rfl rfl af ai ak) ?_
     refine .E 7 hs ?_
     refine .Iw (k:=min k (c - k)) (xs:=List.replicate k z++List.replicate (c - k) 0) (zs:=List.replicate (min k (c - k)) z) hs rfl rfl ⟨_,_,rfl⟩ af ai rfl cu (zd (xs:=List.replicate k z++List.replicate (c - k) 0) .here (by rw [List.drop_zero,List.take_append_of_le_length (by simp;omega)];simp) cu) (by simp;omega) ?_;intro w hs
     refine .go ?_
     refine .z 8 rfl cP ?_;refine .z 9 rfl zg ?_;refine .D hs ?_
     refine nB (nT ?_)
     exact ⟨k+min k (c - k),bj,⟨⟨ak,ak⟩,by
       have e:=Dl (z:=z) (c:=c) (k:=k)
       simp only [Nat.mul_one,Nat.zero_add] at hs
       rw [e] at hs;exact hs⟩,ak⟩
    ·refine .exit ?_
     refine xT (xT (xB (nT ?_)))
     refine .aj (.z zm (.z zg (.nil ?_)))
     refine .ret (Fin.bE Tryz.results296 rfl ?_)
     obtain rfl:k=c:=by omega
     exact ⟨b30,rfl,by simpa using hs⟩
theorem rN{v:Value}{xs:List Int}(hs:St H w σ)(hr:RI H v xs)(hx:xs.length≤17592186044416):Cl Tryz.prog 171 [v] w fun u w'=>∃en,(Ij v=true→Ij u=true)∧cI 1 u (Is xs) en∧St H w' (en::σ):=by
 obtain ⟨a,c,rfl⟩:=RI.shape hr
 have hl:=(RI.len hr).2.2
 refine Cl.o Tryz.func171 Tryz.ntmps171 ag1 ?_
 refine .aj (.z zg (.nil (.seq (.aj (.z zm ?_)))))
 refine .q hs (Ia rfl rfl af) ?_
 refine .nil ?_
 refine (.cond rfl (fun hc4=>?_) (fun hc4=>?_))
 ·refine .aj (.z zg (.nil ?_))
  refine .ret (rT (Fin.bE Tryz.results171 rfl ?_))
  obtain rfl:a=none:=by simpa using hc4
  obtain rfl:=hr.Jl
  exact ⟨.nul,fun h=>h,.nil 1 none,hs.nul⟩
 ·refine .skip ?_
  refine nT ?_
  refine .aj ?_
  refine .o (.buildSlice (cells:=[]) hs sQ rfl rfl fun b5 w hs=>?_)
  refine .z zm ?_
  refine .o (.DJ (xs:=[]) (ys:=Is xs) hs df rfl rfl (.full rfl) (.ints hr) (by simp [Value.oneCell']) (fun l h=>by simp at h;omega) ?_);intro v7 en7 w hnn hO hs
  refine .z zg (.nil ?_)
  refine .ret (Fin.bE Tryz.results171 rfl ?_)
  exact ⟨en7,fun _=>hnn rfl,hO,hs⟩
theorem mK{v:Value}{xs:List Int}(hs:St H w σ)(hr:RI H v xs)(hx:xs.length≤17592186044416):Cl Tryz.prog 171 [v] w fun v w'=>∃en,cI 1 v (Is xs) en∧St H w' (en::σ):=
 (rN hs hr hx).mono fun _ _ ⟨en,_,h⟩=>⟨en,h⟩
theorem pH{v:Value}{l:List Arc}{en:Ent}(hs:St H w (en::σ))(ho:cI 4 v (jG l) en)(hl:l.length≤1000000):
  Cl Tryz.prog 297 [v] w fun _ w'=>∃en',cI 4 v (jG l.reverse) en'∧St H w' (en'::σ):=by
 rcases ho with ⟨a,rfl,h2,rfl⟩|⟨b,len,cap,sp,rfl,rfl,h2,h3,h4⟩
 ·obtain rfl:l=[]:=by
   have:=congrArg List.length h2
   rw [dQ] at this
   exact List.length_eq_zero_iff.1 (by simp at this;omega)
  have hs:=hs.tail
  refine Cl.o Tryz.func297 Tryz.ntmps297 ag1 ?_
  refine .aj (.z zm (.z (dp aB) (.z gM (.z zg (.z zg (.nil (.block ?_)))))))
  refine .loop (fun _:Unit=>⟨28,[],[(2,I 0),(3,I (-1))]⟩) (fun _ w=>St H w σ) (fun _=>0) () bj hs ?_
  rintro _ w hs
  refine .seq (.aj (.z zm (.z zm (.z iK (.nil ?_)))))
  refine (.bH rfl (fun hc9=>?_) (fun hc9=>?_))
  ·omega
  ·refine .exit ?_
   refine xT (xT (xB ?_))
   exact Fin.zh Tryz.results297 ⟨.nul,.nil 4 a,hs.nul⟩
 obtain rfl:len=l.length:=by rw [dQ] at h2;omega
 refine Cl.o Tryz.func297 Tryz.ntmps297 ag1 ?_
 refine .aj (.z zm (.z (dp aB) (.z gM (.z zg (.z zg (.nil (.block ?_)))))))
 refine .loop (fun p:Nat×List Arc=>⟨28,[],[(2,I p.1),(3,I ((l.length:Int) - 1 - p.1)),(0,.slice (some ⟨b,0,none⟩) l.length cap)]⟩) (fun p w=>(2*p.1≤l.length+1∧sU l p.2 p.1)∧St H w (.blk b (jG p.2++sp)::σ)) (fun p=>l.length - p.1) (0,l) (.cons rfl (.dD rfl cu (.cons rfl (.nil rfl rfl)))) ⟨⟨cu,.start l⟩,hs⟩ ?_
 rintro ⟨i,L⟩ w ⟨⟨h5,h6⟩,hs⟩
 dsimp only at h5 h6 hs ⊢
 have hL:=h6.1
 refine .seq (.aj (.z zm (.z zm (.z iK (.nil ?_)))))
 refine (.bH rfl (fun hc9=>?_) (fun hc9=>?_))
 ·refine .skip ?_
  refine nT ?_
  refine .seq (.block ?_)
  refine .draw mix rfl hs fun w hs=>?_
  refine .z 0 rfl zm ?_;refine .z 1 rfl zm ?_;refine .z 2 rfl zm ?_;refine .z 3 rfl zm ?_;refine .z 4 rfl zm ?_;refine .z 5 rfl zm ?_
  refine .z 6 rfl (wy (k:=l.length - 1 - i) rfl rfl aB aI ak ak) ?_
  refine .BH (i:=7) (vs:=(ga L (l.length - 1 - i)).v) hs rfl aq .none rfl ij aI ?_ (hv:=vk ak sp)
  refine .z 8 rfl zm ?_;refine .z 9 rfl zm ?_
  first|(refine .ixw 10 rfl hs aB aI ?_;intro b24 o24 hc24)|refine .z 10 rfl (lZ aB aI) ?_
  refine .BH (i:=11) (vs:=(ga L i).v) hs rfl aq .none rfl ij aI ?_ (hv:=vk ak sp)
  first|(refine .ixw 12 rfl hs aB aI ?_;intro b26 o26 hc26)|refine .z 12 rfl (lZ aB aI) ?_
  refine .E 13 hs ?_
  refine .aP (vs:=(ga L (l.length - 1 - i)).v) hs rfl rfl aI ?_ dE (uX ak sp) (sJ ak _ sp);intro w hs
  refine .go ?_
  refine .z 14 rfl (wy (k:=l.length - 1 - i) rfl rfl aB aI ak ak) ?_
  refine .E 15 hs ?_
  refine .aP (vs:=(ga L i).v) hs rfl rfl aI ?_ dE (uX (by simp;omega) sp) (sJ (by simp;omega) _ sp);intro w hs
  refine .go ?_
  refine .D hs ?_
  refine nB (nT ?_)
  refine .region (.z zm (.z cP (.z zm (.z gM (.z zg (.z zg (.nil ?_)))))))
  refine nT ?_
  exact ⟨(i+1,_),.cons rfl (.dD rfl (by push_cast;omega) (.cons rfl (.nil rfl rfl))),⟨⟨by dsimp only;omega,h6.step ak⟩,hs⟩,by dsimp only;omega⟩
 ·refine .exit ?_
  refine xT (xT (xB ?_))
  rw [h6.done ak] at hs
  exact Fin.zh Tryz.results297 ⟨_,.inr ⟨b,l.length,cap,sp,rfl,rfl,by rw [dQ];simp,by rw [←h3];simp [dQ],h4⟩,hs⟩
theorem nq{H:bV}{b1 bf bt bl cl:Nat}{s:cU}{ts lf:List Int}{vl:Value}{sp:List Value}(hok:s.Ok)(hb:Row H b1 [.pointer (some ⟨bf,0,none⟩)])(hF:vU H bf s ts lf vl bt bl cl sp)(hlt:ts.length=s.cH.length):
  ItA Tryz.prog 274 [.pointer (some ⟨b1,0,none⟩)] H (dP s.di ts):=by
 intro l II Ix hmI hmX hy H0 σb0 σf w hle hI0 hs
 have hb0:cellAt H0 b1 0=some (.pointer (some ⟨bf,0,none⟩)):=(hb.mono hle).at 0
 have hF0:=hF.mono hle
 have hsys:=hF0.f.cells 0 [I s.many,vl]
 have hlen:s.di.length=ts.length:=by simp [cU.di,fb,hlt]
 refine Cl.o Tryz.func274 Tryz.ntmps274 ag2 ?_
 refine .aj ?_
 refine .bx hs fun b2 w hs=>?_
 refine .nil (.aj (.y hs (zld rE) (.z znc (.z (zfa gz) ?_))))
 refine .q hs (bY (vs:=[I s.many,vl]) rfl bG aN hsys) ?_
 refine .o (.call Tryz.call269 rfl (kn (s:=s) hs hok ⟨vl,rfl,hF0.l⟩) ?_);rintro _ w ⟨H1,b8,hle1,rfl,hit,hs⟩
 refine .nil (.block ?_)
 refine .rangeFunc (gf:=295) (cap:=[.pointer (some ⟨b8,0,none⟩)]) (xs:=s.di.map fun x:Arc=>[Value.agg x.v.toArray]) (σb:= .blk b2 [.func (.yield l) #[] #[]]::σb0) (σf:=σf) hs trivial rfl hit Tryz.call295 cu rfl
  (I:=fun k H' σb=>∃σo,σb= .blk b2 [.func (.yield l) #[] #[]]::σo∧HLe H0 H'∧II (AM s.di ts k) H' σo)
  (Ix:=fun c H' σb=>c= .ret∧∃σo,σb= .blk b2 [.func (.yield l) #[] #[]]::σo∧HLe H0 H'∧Ix H' σo)
  (fun k _ _ σ g1 ⟨σo,g2,g3,g4⟩=>⟨σo,g2,g3.trans g1,hmI _ _ _ _ g1 g4⟩) (fun c _ _ σ g1 ⟨g0,σo,g2,g3,g4⟩=>⟨g0,σo,g2,g3.trans g1,hmX _ _ _ g1 g4⟩)
  ⟨σb0,rfl,hle1,by rw [CS];exact hmI _ _ _ _ hle1 hI0⟩ ?_ ?_ ?_
 ·rintro l2 k hk H2 σb2 σf2 w hle2 ⟨σo,rfl,hle0,hIk⟩ hs ⟨rr,hrr⟩
  obtain ⟨x,hx⟩:=nth (l:=s.di) (by simpa using hk)
  obtain ⟨c1,c2,c3,c4,c5,c6⟩:=hok.di.2 x (List.mem_of_getElem? hx)
  have hxk:(s.di.map fun x=>[Value.agg x.v.toArray])[k]=[.agg x.v.toArray]:=by rw [List.getElem_map];rw [List.getElem?_eq_some_iff] at hx;obtain ⟨h1,h2⟩:=hx;rw [h2]
  rw [hxk]
  have hkt:k<ts.length:=by rw [←hlen];simpa using hk
  have hxl:x.l=(k:Int):=rn hx
  obtain ⟨r1,r2,r3⟩:=CB (ts:=ts) hx hkt
  refine .region ?_
  refine .o (.alloc hs ee rfl fun b3 w hs=>?_)
  refine .o (.aP (vs:=x.v) hs rfl rfl aI fun w hs=>?_)
  refine .nil ?_
  refine nT ?_
  refine ⟨H2,.blk b3 x.v:: .blk b2 [.func (.yield l) #[] #[]]::σo,HLe.refl _,hs,?_⟩;rintro w σf2 - hs
  refine .block (.seq (.aj ?_))
  refine .y hs (zld Tryz.isAgg307) ?_
  refine .q hs (kV (vs:=x.v) rfl ij aI) ?_
  have hyd:=hy (AM s.di ts k) (by simpa using (List.getElem?_eq_some_iff.1 r1).1) H2 σo (.blk b3 x.v:: .blk b2 [.func (.yield l) #[] #[]]::σf2) w (hle.trans hle0) hIk (St.deep (σ1:=σo) (St.deep (σ1:= .blk b3 x.v::σo) (hs.perm (.swap _ _ _))))
  rw [C3 r1] at hyd
  refine .o (.yield (vs:=[.agg x.v.toArray]) rfl rfl hyd ?_);rintro v12 w ⟨H3,σ3,hle3,hs,g3⟩
  obtain ⟨bb,rfl,gT,gF⟩:=nv g3
  replace hs:St H3 w (.blk b3 x.v:: .blk b2 [.func (.yield l) #[] #[]]::(σ3++σf2)):=(St.shallow (σ1:= .blk b3 x.v::σ3) (St.shallow (σ1:=σ3) hs)).perm (.swap _ _ _)
  refine .z fW (.nil ?_)
  refine (.cond rfl (fun hc13=>?_) (fun hc13=>?_))
  ·refine .ret (rT (rB (?_)))
   exact ⟨H3,.blk b2 [.func (.yield l) #[] #[]]::σ3,hle3,hs.tail,rfl,σ3,rfl,hle0.trans hle3,gF (by simpa using hc13)⟩
  ·refine .skip ?_
   refine nT ?_
   refine .seq (.draw mix rfl hs fun w hs=>?_)
   have hb3:cellAt H3 b1 0=some (.pointer (some ⟨bf,0,none⟩)):=cellAt.mono hb0 (hle0.trans hle3)
   have hf3:cellAt H3 bf 2=some (.slice (some ⟨bt,0,none⟩) ts.length ts.length):=((hF0.mono (hle0.trans hle3)).f).at 2
   have ht3:cellAt H3 bt k=some (I (gi ts k)):=((hF0.mono (hle0.trans hle3)).t).at k (jH hkt)
   have hI3:=gT (by simpa using hc13)
   refine .r (i:=0) hs rfl aq .none (aW rfl rE hb3) ?_
   refine .z 1 rfl znc ?_;refine .z 2 rfl (zfa iC) ?_;refine .y 3 rfl hs an ?_;refine .z 4 rfl (zfa dW) ?_;refine .y 5 rfl hs ae ?_
   refine .z 6 rfl (lh (k:=k) rfl rfl af ai hxl hkt) ?_
   refine .r (i:=7) hs rfl aq .none (aW rfl ae ht3) ?_
   refine .z 8 rfl mI ?_;refine .z 9 rfl zm ?_
   refine .iW (t':=23) rfl (fun hb23=>?_) (fun hb23=>?_)
   ·refine .y 10 rfl hs Tryz.isAgg307 ?_
    refine .z 11 rfl (zfa dB) ?_;refine .y 12 rfl hs ae ?_;refine .z 13 rfl (zfa du) ?_;refine .y 14 rfl hs ae ?_;refine .z 15 rfl (zfa fp) ?_;refine .y 16 rfl hs ae ?_;refine .z 17 rfl Ea ?_;refine .z 18 rfl (zfa dW) ?_;refine .y 19 rfl hs ae ?_;refine .z 20 rfl (zbd [_,_,_,_] pn) ?_
    refine .E 21 hs ?_
    obtain ⟨r4,r5⟩:=r2 hb23
    have hyd:=hy (AM s.di ts k+1) (by simpa using (List.getElem?_eq_some_iff.1 r4).1) H3 σ3 (.blk b3 x.v:: .blk b2 [.func (.yield l) #[] #[]]::σf2) w (hle.trans (hle0.trans hle3)) hI3 (St.deep (σ1:=σ3) (St.deep (σ1:= .blk b3 x.v::σ3) (hs.perm (.swap _ _ _))))
    rw [C3 r4] at hyd
    refine .yield (vs:=[.agg x.back.v.toArray]) rfl rfl hyd ?_;rintro v35 w ⟨H4,σ4,hle4,hs,g4⟩
    obtain ⟨bb4,rfl,gT4,gF4⟩:=nv g4
    replace hs:St H4 w (.blk b3 x.v:: .blk b2 [.func (.yield l) #[] #[]]::(σ4++σf2)):=(St.shallow (σ1:= .blk b3 x.v::σ4) (St.shallow (σ1:=σ4) hs)).perm (.swap _ _ _)
    refine .go ?_
    refine .z 22 rfl fW ?_;refine .z 23 rfl zpT ?_;refine .D hs ?_
    refine (.cond rfl (fun hc37=>?_) (fun hc37=>?_))
    ·refine .ret (rB (?_))
     exact ⟨H4,.blk b2 [.func (.yield l) #[] #[]]::σ4,hle3.trans hle4,hs.tail,rfl,σ4,rfl,hle0.trans (hle3.trans hle4),gF4 (by simpa using hc37)⟩
    ·refine .skip ?_
     refine nB ?_
     exact ⟨H4,.blk b2 [.func (.yield l) #[] #[]]::σ4,hle3.trans hle4,hs.tail,σ4,rfl,hle0.trans (hle3.trans hle4),by rw [r5];exact gT4 (by simpa using hc37)⟩
   ·refine .qF (i:=10) rfl aq rfl rfl ?_
    refine .qF (i:=11) rfl aq rfl rfl ?_
    refine .qF (i:=12) rfl aq rfl rfl ?_
    refine .qF (i:=13) rfl aq rfl rfl ?_
    refine .qF (i:=14) rfl aq rfl rfl ?_
    refine .qF (i:=15) rfl aq rfl rfl ?_
    refine .qF (i:=16) rfl aq rfl rfl ?_
    refine .qF (i:=17) rfl aq rfl rfl ?_
    refine .qF (i:=18) rfl aq rfl rfl ?_
    refine .qF (i:=19) rfl aq rfl rfl ?_
    refine .qF (i:=20) rfl aq rfl rfl ?_
    refine .qF (i:=21) rfl aq rfl rfl ?_
    refine .qF (i:=22) rfl aq rfl rfl ?_
    refine .z 23 rfl zpF ?_;refine .D hs ?_
    refine (.cF ?_)
    refine .skip ?_
    refine nB ?_
    exact ⟨H3,.blk b2 [.func (.yield l) #[] #[]]::σ3,hle3,hs.tail,σ3,rfl,hle0.trans hle3,by rw [r3 hb23];exact hI3⟩
 ·rintro D H2 σb2 w hle2 ⟨σo,rfl,hle0,hIk⟩ hs
  refine nB ?_
  exact Fin.IV [D] [] hs.AE fun w hs=>⟨_,results0 Tryz.results274,H2,σo,hle0,hs,.inl (by simpa [EO hlen] using hIk)⟩
 ·rintro D c H2 σb2 w hle2 ⟨rfl,σo,rfl,hle0,hx⟩ hs
  exact .ret (rB (Fin.iZ [D] [] hs.AE fun w hs=>⟨_,results0 Tryz.results274,H2,σo,hle0,hs,.inr hx⟩))
theorem oU{bf bt bl cl:Nat}{s:cU}{ts lf:List Int}{vl:Value}{sp:List Value}(hs:St H w σ)(hok:s.Ok)(hF:vU H bf s ts lf vl bt bl cl sp)(hlt:ts.length=s.cH.length):
  Cl Tryz.prog 226 [.pointer (some ⟨bf,0,none⟩)] w fun v w'=>∃H1 b,HLe H H1∧v= .func (.func 274) #[] #[.pointer (some ⟨b,0,none⟩)]∧ItA Tryz.prog 274 [.pointer (some ⟨b,0,none⟩)] H1 (dP s.di ts)∧St H1 w' σ:=by
 refine Cl.o Tryz.func226 Tryz.ntmps226 ag1 ?_
 refine .aj ?_
 refine .bx hs fun b1 w hs=>?_
 refine .z zg (.nil (.aj ?_))
 refine .q hs (dz (f:=[]) (c:=[_]) rfl rfl) ?_
 refine .z zg (.nil ?_)
 refine .ret (Fin.bE Tryz.results226 rfl ?_)
 obtain ⟨H1,g1,g2,hs⟩:=hs.cV .here
 exact ⟨H1,b1,g1,rfl,nq hok g2 (hF.mono g1) hlt,hs⟩
theorem p5{bf bt bl cl to:Nat}{s:cU}{ts lf:List Int}{vl:Value}{sp:List Value}(hs:St H w σ)(hok:s.Ok)(hF:vU H bf s ts lf vl bt bl cl sp)(hlt:ts.length=s.cH.length)(hll:lf.length=s.n)
  (hD:∃p,fB (dP s.di ts) p) (hto:to<s.n) (hpos:0<gi lf to):
  Cl Tryz.prog 272 [.pointer (some ⟨bf,0,none⟩),I to] w fun v w'=>∃H1 p en,HLe H H1∧cI 4 v (jG p) en∧St H1 w' (en::σ)∧IX s.n s.di ts lf p to:=by
 obtain ⟨N,hN⟩:=Int.eq_ofNat_of_zero_le hok.m0
 have hN1:=hok.m1
 have hn:s.n=N+1:=by simp [cU.n,hN]
 have hoka:=hok.di
 have hlen:s.di.length=ts.length:=by simp [cU.di,fb,hlt]
 rw [hn] at hoka hll hto ⊢
 obtain ⟨D,hg⟩:=AF ak ak hoka hlen hD
 have hf0:cellAt H bf 0=some (I (N:Int)):=by have:=hF.f.at 0 (v:=I s.many);rwa [hN] at this
 have hf3:cellAt H bf 3=some (.slice (some ⟨bl,0,none⟩) lf.length cl):=hF.f.at 3
 refine Cl.o Tryz.func272 Tryz.ntmps272 ag2 ?_
 refine .aj ?_
 refine .bx hs fun b2 w hs=>?_
 refine .z zg (.nil (.aj ?_))
 refine .o (.buildSlice (cells:=[_]) hs dk rfl rfl fun b13 w hs=>?_)
 refine .y hs (zld rE) (.z znc (.z (zfa gz) (.z (zfa cA) (.y hs (zld ae) (.z cP ?_)))))
 refine .o (.call Tryz.call296 rfl (rM (z:=far) (c:=N+1) hs .here ak ak) ?_);rintro _ w ⟨bc,rfl,hs⟩
 refine .o (.alloc hs fc rfl fun b5 w hs=>?_)
 refine .o (.store hs rfl rfl aC fun w hs=>?_)
 refine .nil (.aj (.y hs (zld rE) (.z znc (.z (zfa gz) (.z (zfa cA) (.y hs (zld ae) (.z cP ?_)))))))
 refine .o (.E5 (N+1) hs rfl rfl aB Az rfl aI ee ak fun b27 w hs=>?_)
 refine .o (.alloc hs Tryz.zeroValue267 rfl fun b6 w hs=>?_)
 refine .o (.store hs rfl rfl vX fun w hs=>?_)
 refine .nil (.seq (.aj (.y hs (zld rE) (.z znc (.z (zfa dX) (.y hs (zld an) (.z (dp af) (.z zm (.nil ?_)))))))))
 refine .for (N:=lf.length) (J:=fun k fr w=>fr=[(31,.slice (some ⟨bl,0,none⟩) lf.length cl),(5,.pointer (some ⟨b5,0,none⟩)),(6,.pointer (some ⟨b6,0,none⟩)),(2,.pointer (some ⟨b2,0,none⟩)),(1,I to)]∧∃st,u4 (N+1) lf k st∧St H w (.blk b6 [.slice (some ⟨b27,0,none⟩) (N+1) (N+1)]:: .blk b27 (jG st.by_):: .blk b5 [.slice (some ⟨bc,0,none⟩) (N+1) (N+1)]:: .blk bc (Is st.cost):: .blk b2 [.pointer (some ⟨bf,0,none⟩)]::σ)) ak ?_ ?_ ?_
 ·exact .mk ⟨rfl,_,.start _ _,hs.sb⟩
 ·rintro k fr w hk ⟨rfl,st,hI,hs⟩
  have hck:cellAt H bl k=some (I (gi lf k)):=hF.d.at k (DR (bU hk) sp)
  have hlc:=hI.lc
  have hlb:=hI.lb
  have hkb:k<st.by_.length:=by omega
  refine .block (.aj (.z zm ?_))
  first|(refine .ixv hs af ai ?_;intro b36 o36 hc36)|refine .z (zix af ai) ?_
  refine .q hs (aW rfl ae hck) ?_
  refine .z zg (.z zg (.nil (.aj (.z zm (.z iK (.nil ?_))))))
  refine (.bH rfl (fun hc39=>?_) (fun hc39=>?_))
  ·refine .aj (.y hs (zld an) (.z zm ?_))
   first|(refine .ixv hs af ai ?_;intro b42 o42 hc42)|refine .z (zix af ai) ?_
   refine .o (.store hs rfl rfl ai fun w hs=>?_)
   refine .nil (.region (.y hs (zld ft) (.z zm ?_)))
   first|(refine .ixw hs aB aI ?_;intro b45 o45 hc45)|refine .z (lZ aB aI) ?_
   refine .z (zfa dW) ?_
   refine .o (.store hs rfl rfl ai ?_ dE (Be hkb ak) (zB hkb _));intro w hs
   refine .nil ?_
   refine nB (nT ?_)
   exact .mk ⟨rfl,_,hI.take ak hc39,hs⟩
  ·refine .skip ?_
   refine nB (nT ?_)
   exact .mk ⟨rfl,_,hI.skip hc39,hs⟩
 ·rintro fr w ⟨rfl,st0,hI0,hs⟩
  rw [hll] at hI0
  have hW0:=hI0.inv hg
  refine nT ?_
  refine .seq (.aj ?_)
  refine .o (.alloc hs Tryz.zeroValue4 rfl fun b9 w hs=>?_)
  refine .o (.store hs rfl rfl vA fun w hs=>?_)
  refine .nil (.block ?_)
  refine .loop (fun p:Nat×List Nat×bV×BS×Bool=>⟨141,marks p.2.1,[(9,.pointer (some ⟨p.1,0,none⟩)),(5,.pointer (some ⟨b5,0,none⟩)),(6,.pointer (some ⟨b6,0,none⟩)),(2,.pointer (some ⟨b2,0,none⟩)),(1,I to)]⟩)
   (fun p w=>HLe H p.2.2.1∧(∃j,tZ (N+1) (dP s.di ts) (fun v=>gi lf v<0) D j p.2.2.2.2 p.2.2.2.1∧(p.2.2.2.2=false→j=(dP s.di ts).length))∧
    St p.2.2.1 w (.blk p.1 [.bool p.2.2.2.2]:: .blk b6 [.slice (some ⟨b27,0,none⟩) (N+1) (N+1)]:: .blk b27 (jG p.2.2.2.1.by_):: .blk b5 [.slice (some ⟨bc,0,none⟩) (N+1) (N+1)]:: .blk bc (Is p.2.2.2.1.cost):: .blk b2 [.pointer (some ⟨bf,0,none⟩)]::(mes p.2.1++σ)))
   (fun p=>2*WM (N+1) D p.2.2.2.1+(if p.2.2.2.2=true then 1 else 0)) (b9,[],H,st0,true) bj ⟨HLe.refl _,⟨0,hW0,fun h=>by cases h⟩,hs⟩ ?_
  rintro ⟨b9,Ds,H1,st,ag⟩ w ⟨hle1,⟨j,hW,hj⟩,hs⟩
  dsimp only at hle1 hW hj hs ⊢
  have hlc:=hW.lc
  have hlb:=hW.lb
  refine .seq (.aj (.y hs (zld Tryz.isAgg4) (.nil ?_)))
  refine (.cond rfl (fun hc48=>?_) (fun hc48=>?_))
  ·refine .skip ?_
   refine nT ?_
   refine .seq (.block (.aj ?_))
   subst hc48
   refine .o (.store hs rfl rfl vA fun w hs=>?_)
   refine .nil (.aj (.y hs (zld rE) ?_))
   refine .o (.call Tryz.call226 rfl (oU hs hok (hF.mono hle1) hlt) ?_);rintro _ w ⟨H2,b50,hle2,rfl,hit,hs⟩
   refine .nil (.block ?_)
   refine .rangeFunc (gf:=274) (cap:=[.pointer (some ⟨b50,0,none⟩)]) (xs:=(dP s.di ts).map fun x:Arc=>[Value.agg x.v.toArray])
    (σb:=[.blk b9 [.bool false],.blk b6 [.slice (some ⟨b27,0,none⟩) (N+1) (N+1)],.blk b27 (jG st.by_),.blk b5 [.slice (some ⟨bc,0,none⟩) (N+1) (N+1)],.blk bc (Is st.cost),.blk b2 [.pointer (some ⟨bf,0,none⟩)]]) (σf:=mes Ds++σ) hs trivial rfl hit Tryz.call274 cu rfl
    (I:=fun k H' σb=>HLe H2 H'∧∃st' ag,σb=[.blk b9 [.bool ag],.blk b6 [.slice (some ⟨b27,0,none⟩) (N+1) (N+1)],.blk b27 (jG st'.by_),.blk b5 [.slice (some ⟨bc,0,none⟩) (N+1) (N+1)],.blk bc (Is st'.cost),.blk b2 [.pointer (some ⟨bf,0,none⟩)]]∧
     tZ (N+1) (dP s.di ts) (fun v=>gi lf v<0) D k ag st'∧WM (N+1) D st'≤WM (N+1) D st∧(ag=true→WM (N+1) D st'<WM (N+1) D st)) (Ix:=fun _ _ _=>False)
    (by rintro k _ _ σ g1 ⟨g2,g3⟩;exact ⟨g2.trans g1,g3⟩) (fun _ _ _ _ _ h=>h) ⟨HLe.refl _,st,false,rfl,hW.next,Nat.le_refl _,fun h=>by cases h⟩ ?_ ?_ (fun D c H' σb w _ h _=>h.elim)
   ·rintro l k hk H3 σb3 σf3 w hle3 ⟨hle23,st',ag,rfl,hW',hm1,hm2⟩ hs ⟨rr,hrr⟩
    obtain ⟨x,hx⟩:=nth (l:=dP s.di ts) (by simpa using hk)
    obtain ⟨c1,c2,c3,c4,c5,c6⟩:=hg.ok x (List.mem_of_getElem? hx)
    rw [C3 hx]
    have hlc':=hW'.lc
    have hlb':=hW'.lb
    have lo1:=hW'.lo x.f c1
    have lo2:=hg.d1 x.f c1
    have hx3:cellAt H3 bl x.t=some (I (gi lf x.t)):=((hF.mono (hle1.trans (hle2.trans hle3))).d).at x.t (DR (bU ak) sp)
    have hf33:cellAt H3 bf 3=some (.slice (some ⟨bl,0,none⟩) lf.length cl):=cellAt.mono hf3 (hle1.trans (hle2.trans hle3))
    refine .region ?_
    refine .o (.alloc hs ee rfl fun b10 w hs=>?_)
    refine .o (.aP (vs:=x.v) hs rfl rfl aI fun w hs=>?_)
    refine .nil ?_
    refine nT ?_
    refine ⟨H3,[.blk b10 x.v,.blk b9 [.bool ag],.blk b6 [.slice (some ⟨b27,0,none⟩) (N+1) (N+1)],.blk b27 (jG st'.by_),.blk b5 [.slice (some ⟨bc,0,none⟩) (N+1) (N+1)],.blk bc (Is st'.cost),.blk b2 [.pointer (some ⟨bf,0,none⟩)]],HLe.refl _,hs,?_⟩;rintro w σf4 - hs
    refine .block ?_
    refine .seq (.draw mix rfl hs fun w hs=>?_)
    refine .y 0 rfl hs an ?_;refine .z 1 rfl (zfa du) ?_;refine .y 2 rfl hs ae ?_
    first|(refine .ixv 3 rfl hs af ai ?_;intro b55 o55 hc55)|refine .z 3 rfl (zix af ai) ?_
    refine .y 4 rfl hs ae ?_;refine .z 5 rfl iK ?_;refine .z 6 rfl zm ?_
    refine .iW (t':=58) rfl (fun hb58=>?_) (fun hb58=>?_)
    ·refine .y 7 rfl hs an ?_;refine .z 8 rfl (zfa du) ?_;refine .y 9 rfl hs ae ?_
     first|(refine .ixv 10 rfl hs af ai ?_;intro b62 o62 hc62)|refine .z 10 rfl (zix af ai) ?_
     refine .y 11 rfl hs ae ?_;refine .z 12 rfl (zfa fp) ?_;refine .y 13 rfl hs ae ?_;refine .z 14 rfl cP ?_;refine .y 15 rfl hs an ?_;refine .z 16 rfl (zfa dB) ?_;refine .y 17 rfl hs ae ?_
     first|(refine .ixv 18 rfl hs af ai ?_;intro b70 o70 hc70)|refine .z 18 rfl (zix af ai) ?_
     refine .y 19 rfl hs ae ?_;refine .z 20 rfl iK ?_;refine .z 21 rfl zpT ?_;refine .z 22 rfl zm ?_
     refine .iW (t':=74) rfl (fun hb74=>?_) (fun hb74=>?_)
     ·refine .y 23 rfl hs rE ?_;refine .z 24 rfl znc ?_;refine .z 25 rfl (zfa dX) ?_;refine .y 26 rfl hs an ?_;refine .z 27 rfl (zfa dB) ?_;refine .y 28 rfl hs ae ?_
      first|(refine .ixv 29 rfl hs af ai ?_;intro b81 o81 hc81)|refine .z 29 rfl (zix af ai) ?_
      refine .y 30 rfl hs ae ?_;refine .z 31 rfl uc ?_;refine .z 32 rfl zm ?_
      refine .iW (t':=84) rfl (fun hb84=>?_) (fun hb84=>?_)
      ·refine .qF (i:=33) rfl aq rfl rfl ?_
       refine .qF (i:=34) rfl aq rfl rfl ?_
       refine .qF (i:=35) rfl aq rfl rfl ?_
       refine .qF (i:=36) rfl aq rfl rfl ?_
       refine .qF (i:=37) rfl aq rfl rfl ?_
       refine .qF (i:=38) rfl aq rfl rfl ?_
       refine .qF (i:=39) rfl aq rfl rfl ?_
       refine .qF (i:=40) rfl aq rfl rfl ?_
       refine .qF (i:=41) rfl aq rfl rfl ?_
       refine .z 42 rfl zpT ?_;refine .z 43 rfl zpT ?_;refine .D hs ?_
       refine (.cT ?_)
       refine .draw mix rfl hs fun w hs=>?_
       refine .y 0 rfl hs an ?_;refine .z 1 rfl (zfa dB) ?_;refine .y 2 rfl hs ae ?_;refine .y 3 rfl hs ft ?_;refine .z 4 rfl (zfa dB) ?_;refine .y 5 rfl hs ae ?_;refine .y 6 rfl hs an ?_;refine .z 7 rfl (zfa du) ?_;refine .y 8 rfl hs ae ?_
       first|(refine .ixv 9 rfl hs af ai ?_;intro b105 o105 hc105)|refine .z 9 rfl (zix af ai) ?_
       refine .y 10 rfl hs ae ?_;refine .z 11 rfl (zfa fp) ?_;refine .y 12 rfl hs ae ?_;refine .z 13 rfl cP ?_
       refine .BH (i:=14) (vs:=x.v) hs rfl aq .none rfl ij aI ?_
       first|(refine .ixv 15 rfl hs af ai ?_;intro b111 o111 hc111)|refine .z 15 rfl (zix af ai) ?_
       refine .E 16 hs ?_
       refine .store hs rfl rfl ai ?_;intro w hs
       refine .go ?_
       first|(refine .ixw 17 rfl hs aB aI ?_;intro b112 o112 hc112)|refine .z 17 rfl (lZ aB aI) ?_
       refine .E 18 hs ?_
       refine .aP (vs:=x.v) hs rfl rfl aI ?_;intro w hs
       refine .go ?_
       refine .E 19 hs ?_
       refine .store hs rfl rfl vA ?_;intro w hs
       refine .go ?_
       refine .D hs ?_
       refine nB ?_
       have:=hW'.less hg hx hb58 hb74
       exact ⟨H3,_,HLe.refl _,hs.tail,hle23,st'.rlx x,true,rfl,hW'.yD hg hx hb58 hb74,ak,fun _=>by omega⟩
      ·refine .y 33 rfl hs an ?_;refine .z 34 rfl (zfa du) ?_;refine .y 35 rfl hs ae ?_
       first|(refine .ixv 36 rfl hs af ai ?_;intro b88 o88 hc88)|refine .z 36 rfl (zix af ai) ?_
       refine .y 37 rfl hs ae ?_;refine .z 38 rfl (zfa fp) ?_;refine .y 39 rfl hs ae ?_;refine .z 40 rfl cP ?_;refine .z 41 rfl iK ?_;refine .z 42 rfl zpF ?_;refine .z 43 rfl zpT ?_;refine .D hs ?_
       refine (.bH rfl (fun hc95=>?_) (fun hc95=>?_))
       ·refine .draw mix rfl hs fun w hs=>?_
        refine .y 0 rfl hs an ?_;refine .z 1 rfl (zfa dB) ?_;refine .y 2 rfl hs ae ?_;refine .y 3 rfl hs ft ?_;refine .z 4 rfl (zfa dB) ?_;refine .y 5 rfl hs ae ?_;refine .y 6 rfl hs an ?_;refine .z 7 rfl (zfa du) ?_;refine .y 8 rfl hs ae ?_
        first|(refine .ixv 9 rfl hs af ai ?_;intro b105 o105 hc105)|refine .z 9 rfl (zix af ai) ?_
        refine .y 10 rfl hs ae ?_;refine .z 11 rfl (zfa fp) ?_;refine .y 12 rfl hs ae ?_;refine .z 13 rfl cP ?_
        refine .BH (i:=14) (vs:=x.v) hs rfl aq .none rfl ij aI ?_
        first|(refine .ixv 15 rfl hs af ai ?_;intro b111 o111 hc111)|refine .z 15 rfl (zix af ai) ?_
        refine .E 16 hs ?_
        refine .store hs rfl rfl ai ?_;intro w hs
        refine .go ?_
        first|(refine .ixw 17 rfl hs aB aI ?_;intro b112 o112 hc112)|refine .z 17 rfl (lZ aB aI) ?_
        refine .E 18 hs ?_
        refine .aP (vs:=x.v) hs rfl rfl aI ?_;intro w hs
        refine .go ?_
        refine .E 19 hs ?_
        refine .store hs rfl rfl vA ?_;intro w hs
        refine .go ?_
        refine .D hs ?_
        refine nB ?_
        have:=hW'.less hg hx hb58 hb74
        exact ⟨H3,_,HLe.refl _,hs.tail,hle23,st'.rlx x,true,rfl,hW'.yD hg hx hb58 hb74,ak,fun _=>by omega⟩
       ·refine .skip ?_
        refine nB ?_
        have:=hW'.src x.t c2 ak
        omega
     ·refine .qF (i:=23) rfl aq rfl rfl ?_
      refine .qF (i:=24) rfl aq rfl rfl ?_
      refine .qF (i:=25) rfl aq rfl rfl ?_
      refine .qF (i:=26) rfl aq rfl rfl ?_
      refine .qF (i:=27) rfl aq rfl rfl ?_
      refine .qF (i:=28) rfl aq rfl rfl ?_
      refine .qF (i:=29) rfl aq rfl rfl ?_
      refine .qF (i:=30) rfl aq rfl rfl ?_
      refine .qF (i:=31) rfl aq rfl rfl ?_
      refine .qF (i:=32) rfl aq rfl rfl ?_
      refine .qF (i:=33) rfl aq rfl rfl ?_
      refine .qF (i:=34) rfl aq rfl rfl ?_
      refine .qF (i:=35) rfl aq rfl rfl ?_
      refine .qF (i:=36) rfl aq rfl rfl ?_
      refine .qF (i:=37) rfl aq rfl rfl ?_
      refine .qF (i:=38) rfl aq rfl rfl ?_
      refine .qF (i:=39) rfl aq rfl rfl ?_
      refine .qF (i:=40) rfl aq rfl rfl ?_
      refine .qF (i:=41) rfl aq rfl rfl ?_
      refine .qF (i:=42) rfl aq rfl rfl ?_
      refine .z 43 rfl zpF ?_;refine .D hs ?_
      refine (.cF ?_)
      refine .skip ?_
      refine nB ?_
      exact ⟨H3,_,HLe.refl _,hs.tail,hle23,st',ag,rfl,hW'.skip hx (fun h=>hb74 h.2),hm1,hm2⟩
    ·refine .qF (i:=7) rfl aq rfl rfl ?_
     refine .qF (i:=8) rfl aq rfl rfl ?_
     refine .qF (i:=9) rfl aq rfl rfl ?_
     refine .qF (i:=10) rfl aq rfl rfl ?_
     refine .qF (i:=11) rfl aq rfl rfl ?_
     refine .qF (i:=12) rfl aq rfl rfl ?_
     refine .qF (i:=13) rfl aq rfl rfl ?_
     refine .qF (i:=14) rfl aq rfl rfl ?_
     refine .qF (i:=15) rfl aq rfl rfl ?_
     refine .qF (i:=16) rfl aq rfl rfl ?_
     refine .qF (i:=17) rfl aq rfl rfl ?_
     refine .qF (i:=18) rfl aq rfl rfl ?_
     refine .qF (i:=19) rfl aq rfl rfl ?_
     refine .qF (i:=20) rfl aq rfl rfl ?_
     refine .z 21 rfl zpF ?_;refine .z 22 rfl zm ?_
     refine .qF (i:=23) rfl aq rfl rfl ?_
     refine .qF (i:=24) rfl aq rfl rfl ?_
     refine .qF (i:=25) rfl aq rfl rfl ?_
     refine .qF (i:=26) rfl aq rfl rfl ?_
     refine .qF (i:=27) rfl aq rfl rfl ?_
     refine .qF (i:=28) rfl aq rfl rfl ?_
     refine .qF (i:=29) rfl aq rfl rfl ?_
     refine .qF (i:=30) rfl aq rfl rfl ?_
     refine .qF (i:=31) rfl aq rfl rfl ?_
     refine .qF (i:=32) rfl aq rfl rfl ?_
     refine .qF (i:=33) rfl aq rfl rfl ?_
     refine .qF (i:=34) rfl aq rfl rfl ?_
     refine .qF (i:=35) rfl aq rfl rfl ?_
     refine .qF (i:=36) rfl aq rfl rfl ?_
     refine .qF (i:=37) rfl aq rfl rfl ?_
     refine .qF (i:=38) rfl aq rfl rfl ?_
     refine .qF (i:=39) rfl aq rfl rfl ?_
     refine .qF (i:=40) rfl aq rfl rfl ?_
     refine .qF (i:=41) rfl aq rfl rfl ?_
     refine .qF (i:=42) rfl aq rfl rfl ?_
     refine .z 43 rfl zpF ?_;refine .D hs ?_
     refine (.cF ?_)
     refine .skip ?_
     refine nB ?_
     exact ⟨H3,_,HLe.refl _,hs.tail,hle23,st',ag,rfl,hW'.skip hx (fun h=>hb58 h.1),hm1,hm2⟩
   ·rintro D3 H3 σb3 w hle3 ⟨hle23,st',ag,rfl,hW',hm1,hm2⟩ hs
    replace hs:St H3 w (.blk b9 [.bool ag]:: .blk b6 [.slice (some ⟨b27,0,none⟩) (N+1) (N+1)]:: .blk b27 (jG st'.by_):: .blk b5 [.slice (some ⟨bc,0,none⟩) (N+1) (N+1)]:: .blk bc (Is st'.cost):: .blk b2 [.pointer (some ⟨bf,0,none⟩)]::(mes (D3::Ds)++σ)):=St.deep (σ1:=[_,_,_,_,_,_]) hs
    rw [List.length_map] at hW'
    refine nB (nB (nT ?_))
    refine .aj (.y hs (zld Tryz.isAgg4) (.nil (.region ?_)))
    refine .o (.alloc hs Tryz.zeroValue4 rfl fun b9 w hs=>?_)
    refine .o (.store hs rfl rfl vA fun w hs=>?_)
    refine .nil ?_
    refine nT ?_
    exact ⟨(b9,D3::Ds,H3,st',ag),bj,⟨hle1.trans (hle2.trans hle3),⟨_,hW',fun _=>rfl⟩,hs.sb⟩,by
      dsimp only
      cases ag with
      |false=>simp;omega
      |true=>have:=hm2 rfl;simp;omega⟩
  ·refine .exit ?_
   refine xT (xT (xB (nT ?_)))
   refine .seq (.aj ?_)
   subst hc48
   obtain rfl:=hj rfl
   refine .y hs (zld an) (.z zm ?_)
   first|(refine .ixv hs af ai ?_;intro b116 o116 hc116)|refine .z (zix af ai) ?_
   refine .y hs (zld ae) (.z gj (.nil ?_))
   refine (.bH rfl (fun hc118=>?_) (fun hc118=>?_))
   ·refine .aj (.z zg (.nil ?_))
    refine .ret (rT (?_))
    refine Fin.iZ Ds [_,_,_,_,_,_] hs fun w hs=>⟨_,results1 Tryz.results272 rfl,H1,[],.nul,hle1,.nil 4 none,(hs.sb).nul,hW.none hg hc118⟩
   ·refine .skip ?_
    refine nT ?_
    refine .aj (.z zg (.nil (.seq (.aj (.z zm (.z zg (.nil (.block ?_))))))))
    have hreach:gi st.cost to<far:=by have:=hW.top to hto;have e:far=1152921504606846976:=rfl;omega
    obtain ⟨kk,cc,u,hbk,hroot,hkn,hk0,hcl,hway⟩:=hW.back hg hto hreach hpos
    refine .loop (fun p:Nat×Nat×Value×Ent=>⟨141,marks Ds,[(11,p.2.2.1),(12,I p.2.1),(6,.pointer (some ⟨b6,0,none⟩))]⟩)
     (fun p w=>p.1≤kk∧(p.2.1<N+1∧gi st.cost p.2.1<far)∧cI 4 p.2.2.1 (jG (m9 st.by_ to p.1)) p.2.2.2∧(∃d,gJ st.by_ to p.1 d p.2.1)∧(∃d,gJ st.by_ p.2.1 (kk - p.1) d u)∧
      St H1 w (p.2.2.2:: .blk b9 [.bool false]:: .blk b6 [.slice (some ⟨b27,0,none⟩) (N+1) (N+1)]:: .blk b27 (jG st.by_):: .blk b5 [.slice (some ⟨bc,0,none⟩) (N+1) (N+1)]:: .blk bc (Is st.cost):: .blk b2 [.pointer (some ⟨bf,0,none⟩)]::(mes Ds++σ)))
     (fun p=>kk - p.1) (0,to,.slice none 0 0,.nul) bj ⟨Nat.zero_le _,⟨hto,hreach⟩,.nil 4 none,⟨0,.nil⟩,⟨cc,hbk⟩,hs.nul⟩ ?_
    rintro ⟨i,v,v11,en⟩ w ⟨hik,⟨hv1,hv2⟩,hO,⟨d1,hb1⟩,⟨d2,hb2⟩,hs⟩
    dsimp only at hik hv1 hv2 hO hb1 hb2 hs ⊢
    have hvb:v<st.by_.length:=by omega
    refine .seq (.aj (.y hs (zld ft) (.z zm ?_)))
    first|(refine .ixw hs aB aI ?_;intro b122 o122 hc122)|refine .z (lZ aB aI) ?_
    refine .z (zfa dW) ?_
    refine .q hs (iw rfl ae (hv:=(rq hvb (j:=3) ak).trans rfl)) ?_
    refine .z uc (.nil ?_)
    refine (.bH rfl (fun hc125=>?_) (fun hc125=>?_))
    ·refine .skip ?_
     refine nT ?_
     refine .seq (.block (.region (.z zm (.y hs (zld ft) (.z zm ?_)))))
     first|(refine .ixw hs aB aI ?_;intro b134 o134 hc134)|refine .z (lZ aB aI) ?_
     refine .q hs (kV (vs:=(ga st.by_ v).v) rfl ij aI (hv:=Bi hvb)) ?_
     refine .o (.buildSlice (cells:=(ga st.by_ v).v) hs p8 rfl rfl fun b136 w hs=>?_)
     refine .o (.append (ys:=(ga st.by_ v).v) hs kG rfl rfl hO (.own .here rfl rfl) (by simp [Arc.v,Value.oneCell']) (fun l h=>by rw [dQ,jV] at h;omega) ?_);intro v137 en137 w hO2 hs
     refine .z zg (.nil ?_)
     refine nB (nT ?_)
     refine .region (.y hs (zld ft) (.z zm ?_))
     first|(refine .ixw hs aB aI ?_;intro b128 o128 hc128)|refine .z (lZ aB aI) ?_
     refine .z (zfa du) ?_
     refine .q hs (iw rfl ae (hv:=(rq hvb (j:=0) ak).trans rfl)) ?_
     refine .z zg (.nil ?_)
     refine nT ?_
     obtain ⟨g1,g2⟩:=hcl v hv1 hv2 hc125
     obtain ⟨m,hm⟩:∃m,kk - i=m+1:=by
      refine ⟨kk - i - 1,?_⟩
      rcases Nat.lt_or_ge i kk with h|h
      ·omega
      ·obtain e:kk - i=0:=by omega
       rw [e] at hb2
       cases hb2
       omega
     rw [hm] at hb2
     obtain ⟨d3,hb3⟩:∃d,gJ st.by_ (ga st.by_ v).f m d u:=by cases hb2 with|cons _ t=>exact ⟨_,t⟩
     rw [←DY,←Bo hb1] at hO2
     exact ⟨(i+1,(ga st.by_ v).f,v137,en137),bj,⟨by dsimp only;omega,⟨g1,g2⟩,hO2,⟨_,hb1.trans (.cons hc125 .nil)⟩,⟨d3,by rw [show kk - (i+1)=m by omega];exact hb3⟩,hs.sb⟩,by dsimp only;omega⟩
    ·refine .exit ?_
     refine xT (xT (xB (nT ?_)))
     refine .aj ?_
     obtain rfl:i=kk:=by
      rcases Nat.lt_or_ge i kk with h|h
      ·obtain ⟨m,hm⟩:∃m,kk - i=m+1:=⟨kk - i - 1,ak⟩
       rw [hm] at hb2
       cases hb2 with
       |cons hl _=>omega
      ·omega
     refine .z zm ?_
     refine .o (.call Tryz.call297 rfl (pH hs hO (by rw [jV];omega)) ?_);rintro v139 w ⟨en',hO',hs⟩
     refine .nil (.aj (.z zm (.z zg (.nil ?_))))
     refine .ret ?_
     refine Fin.iZ Ds [_,_,_,_,_,_,_] hs fun w hs=>⟨_,results1 Tryz.results272 rfl,H1,_,en',hle1,hO',hs.sb,hway _ rfl⟩
theorem Bg{s:cU}{x:Arc}(hok:s.Ok)(hx:BU s.di x):∃(i:Nat) (l:Lim),s.cH[i]? =some l∧x.l=(i:Int)∧(l.A=(x.f:Int)↔fwd s.di x)∧i<s.cH.length:=by
 obtain ⟨i,y,h1,h2⟩:=hx
 have hl:=rn h1
 have hlt:i<s.cH.length:=by have:=(List.getElem?_eq_some_iff.1 h1).1;simpa [cU.di,fb] using this
 obtain ⟨l,hl2⟩:=nth hlt
 have h3:=kM hl2
 have h1':(mW s.cH)[i]? =some y:=h1
 rw [h3] at h1'
 cases h1'
 obtain ⟨a1,a2,_⟩:=hok.arc (List.mem_of_getElem? hl2) i
 refine ⟨i,l,hl2,?_,?_,hlt⟩
 ·rcases h2 with rfl|rfl<;>rfl
 ·have hg:ga s.di i=l.arc i:=by simp [ga,cU.di,h3]
  have hxl:x.l.toNat=i:=by rcases h2 with rfl|rfl<;>rfl
  unfold fwd
  rw [hxl,hg,←a1]
  exact ⟨fun e=>by exact_mod_cast e,fun e=>by exact_mod_cast e⟩
theorem kc{bf:Nat}{s:cU}{vl vt vd:Value}{x:Arc}(hs:St H w σ)(hok:s.Ok)(hf:Row H bf [I s.many,vl,vt,vd])(hl:RL H vl s.cH)(hx:BU s.di x):
  Cl Tryz.prog 298 [.pointer (some ⟨bf,0,none⟩),.agg x.v.toArray] w fun v w'=>v= .bool (decide (fwd s.di x))∧St H w' σ:=by
 obtain ⟨i,l,hl1,hxl,hfw,hil⟩:=Bg hok hx
 have hf1:cellAt H bf 1=some vl:=hf.at 1
 refine Cl.o Tryz.func298 Tryz.ntmps298 ag2 ?_
 refine .aj ?_
 refine .bx hs fun b3 w hs=>?_
 refine .z zg (.nil ?_)
 refine .seq (.draw mix rfl hs fun w hs=>?_)
 refine .z 0 rfl zm ?_;refine .z 1 rfl znc ?_;refine .z 2 rfl (zfa gz) ?_;refine .z 3 rfl (zfa cf) ?_;refine .y 4 rfl hs dj ?_;refine .z 5 rfl (zfa dW) ?_;refine .y 6 rfl hs ae ?_
 refine .ixX (i:=7) hs rfl aq .none hl rfl rfl aU bq hl1 hxl ?_;intro b12 o12 hc12
 have hA:cellAt H b12 o12=some (I l.A):=hc12.get 0 rfl
 refine .z 8 rfl (zfa eo) ?_;refine .y 9 rfl hs ae ?_;refine .z 10 rfl (zfa du) ?_;refine .y 11 rfl hs ae ?_;refine .z 12 rfl gj ?_;refine .z 13 rfl zg ?_;refine .D hs ?_
 refine .ret (Fin.bE Tryz.results298 rfl ?_)
 exact ⟨by simp only [decide_eq_decide.2 hfw],hs.out⟩
theorem oT{bf bt bl cl u v:Nat}{s:cU}{ts lf:List Int}{wt:Nat→Int}{vl vp:Value}{sp:List Value}{p:List Arc}(hs:St H w (.blk bt (Is ts):: .blk bl (Is lf++sp)::σ))(hok:s.Ok)
  (hf:Row H bf [I s.many,vl,.slice (some ⟨bt,0,none⟩) ts.length ts.length,.slice (some ⟨bl,0,none⟩) lf.length cl]) (hl:RL H vl s.cH) (hp:RS H 4 vp (p.map Arc.v)) (hI:xZ s.n s.di wt ts lf) (hw:G6 s.di ts lf s.n p u v) (hpn:p≠[]) (hpl:p.length<s.n):
  Cl Tryz.prog 273 [.pointer (some ⟨bf,0,none⟩),vp] w fun _ w'=>St H w' (.blk bt (Is (gL s.di (sL s.di ts lf p u v) ts p)):: .blk bl (Is (Ae lf (sL s.di ts lf p u v) u v)++sp)::σ):=by
 have hN1:=hok.m1
 have hn65:s.n≤65:=by simp only [cU.n];have:=hok.m0;omega
 have hnum:Av s.di:=fun i x hx=>⟨rn hx,(hok.di.2 x (List.mem_of_getElem? hx)).2.2.2.2.2⟩
 have hlt:=hI.lt
 have hll:=hI.ll
 obtain ⟨m0,m1,m2,m3⟩:=xo hlt.symm hnum hw
 have hsu:=hI.sg u hw.un
 have hsv:=hI.sg v hw.vn
 have hun:u<lf.length:=by rw [hll];exact hw.un
 have hvn:v<lf.length:=by rw [hll];exact hw.vn
 obtain ⟨a,cap,hvp⟩:=hp.shape
 rw [List.length_map] at hvp
 subst hvp
 have hp0:0<p.length:=List.length_pos_iff.2 hpn
 obtain ⟨x0,hx0⟩:=nth hp0
 obtain ⟨x1,hx1⟩:=nth (l:=p) (k:=p.length - 1) ak
 have hh:=hw.ch.head hx0
 have hla:=hw.ch.last hx1
 have hf2:cellAt H bf 2=some (.slice (some ⟨bt,0,none⟩) ts.length ts.length):=hf.at 2
 have hf3:cellAt H bf 3=some (.slice (some ⟨bl,0,none⟩) lf.length cl):=hf.at 3
 have hix:∀x∈p,BU s.di x∧x.l.toNat<ts.length∧x.l=(x.l.toNat:Int):=fun x hx=>by
  obtain ⟨g1,g2,_⟩:=mq hlt.symm hnum (hw.mem x hx)
  obtain ⟨i,l,_,g3,_⟩:=Bg hok g1
  exact ⟨g1,g2,by rw [g3];simp⟩
 simp only [FF] at hsu hsv
 have huv:v≠u:=fun e=>by have:=hw.lu;have:=hw.lv;rw [e] at*;omega
 have htt:∀i<ts.length,0≤gi ts i∧gi ts i≤3600000000000:=fun i hi=>by
  have h1:=hI.nn i ak
  have h2:=hI.tb i ak
  have h3:0≤rem s.n lf:=dx fun v _=>by omega
  simp only [FF] at h2
  omega
 have hM:sL s.di ts lf p u v=least s.di ts (min (-gi lf u) (gi lf v)) p:=rfl
 generalize sL s.di ts lf p u v=M at*
 have hgv:gi (lf.set u (gi lf u+M)) v=gi lf v:=by rw [fX hun,if_neg huv]
 refine Cl.o Tryz.func273 Tryz.ntmps273 ag2 ?_
 refine .seq (.draw mix rfl hs fun w hs=>?_)
 refine .z 0 rfl zm ?_
 refine .ixX (i:=1) hs rfl aq .none hp rfl rfl aB aI hx0 rfl ?_;intro b12 o12 hc12
 have h14:cellAt H b12 (o12+0)=some (I u):=by rw [←hh];exact hc12.get 0 rfl
 refine .z 2 rfl (zfa du) ?_;refine .y 3 rfl hs ae ?_;refine .z 4 rfl zm ?_;refine .z 5 rfl zm ?_;refine .z 6 rfl (dp aB) ?_;refine .z 7 rfl gM ?_
 refine .ixX (i:=8) hs rfl aq .none hp rfl rfl aB aI hx1 ak ?_;intro b19 o19 hc19
 have h21:cellAt H b19 (o19+1)=some (I v):=by rw [←hla];exact hc19.get 1 rfl
 refine .z 9 rfl (zfa dB) ?_;refine .y 10 rfl hs ae ?_;refine .z 11 rfl zg ?_;refine .z 12 rfl zg ?_;refine .D hs ?_
 refine .seq (.draw mix rfl hs fun w hs=>?_)
 refine .z 0 rfl zm ?_;refine .z 1 rfl znc ?_;refine .z 2 rfl (zfa dX) ?_;refine .y 3 rfl hs an ?_;refine .z 4 rfl zm ?_
 first|(refine .ixv 5 rfl hs af ai ?_;intro b27 o27 hc27)|refine .z 5 rfl (zix af ai) ?_
 refine .load (i:=6) hs rfl aq .none rfl ae ?_ (hv:=fM hun sp)
 refine .z 7 rfl Ea ?_;refine .z 8 rfl zm ?_;refine .z 9 rfl znc ?_;refine .z 10 rfl (zfa dX) ?_;refine .y 11 rfl hs an ?_;refine .z 12 rfl zm ?_
 first|(refine .ixv 13 rfl hs af ai ?_;intro b35 o35 hc35)|refine .z 13 rfl (zix af ai) ?_
 refine .load (i:=14) hs rfl aq .none rfl ae ?_ (hv:=fM hvn sp)
 refine .z 15 rfl Bk ?_;refine .z 16 rfl zg ?_;refine .D hs ?_
 refine .seq (.aj (.z zm (.z (dp aB) (.z zm (.nil ?_)))))
 refine .for (N:=p.length) (J:=fun k fr w=>fr=[(38,.slice a p.length cap),(6,I (least s.di ts (min (-gi lf u) (gi lf v)) (p.take k))),(0,.pointer (some ⟨bf,0,none⟩)),(1,.slice a p.length cap),(4,I u),(5,I v)]∧St H w (.blk bt (Is ts):: .blk bl (Is lf++sp)::σ)) ak ?_ ?_ ?_
 ·exact .mk ⟨rfl,hs⟩
 ·rintro k fr w hk ⟨rfl,hs⟩
  obtain ⟨x,hx⟩:=nth hk
  obtain ⟨g1,g2,g3⟩:=hix x (List.mem_of_getElem? hx)
  refine .block (.aj ?_)
  refine .ixX hs hp rfl rfl aB aI hx rfl ?_;intro b42 o42 hc42
  refine .q hs (bY (vs:=x.v) rfl ij aI hc42) ?_
  refine .o (.alloc hs ee rfl fun b8 w hs=>?_)
  refine .o (.aP (vs:=x.v) hs rfl rfl aI fun w hs=>?_)
  refine .nil (.aj (.z zm ?_))
  refine .q hs (kV (vs:=x.v) rfl ij aI) ?_
  refine .o (.call Tryz.call298 rfl (kc hs hok hf hl g1) ?_);rintro _ w ⟨rfl,hs⟩
  refine .z fW (.nil ?_)
  refine (.cond rfl (fun hc47=>?_) (fun hc47=>?_))
  ·refine .draw mix rfl hs fun w hs=>?_
   refine .z 0 rfl zm ?_;refine .z 1 rfl zm ?_;refine .z 2 rfl znc ?_;refine .z 3 rfl (zfa iC) ?_;refine .y 4 rfl hs an ?_;refine .z 5 rfl (zfa dW) ?_;refine .y 6 rfl hs ae ?_
   refine .z 7 rfl (lh (k:=x.l.toNat) rfl rfl af ai g3 g2) ?_
   refine .y 8 rfl hs ae ?_;refine .z 9 rfl Bk ?_;refine .z 10 rfl zg ?_;refine .D hs ?_
   refine nB (nT ?_)
   have e:min (least s.di ts (min (-gi lf u) (gi lf v)) (p.take k)) (gi ts x.l.toNat)=least s.di ts (min (-gi lf u) (gi lf v)) (p.take (k+1)):=by rw [dh hx,wE,if_neg (by simpa using hc47)]
   exact .mk ⟨rfl,hs.tail⟩ (hs:= .cons rfl (.cons rfl (.cons rfl (.dD rfl e (.cons rfl (.cons rfl (.cons rfl (.cons rfl (.nil rfl rfl)))))))))
  ·refine .skip ?_
   refine nB (nT ?_)
   have e:least s.di ts (min (-gi lf u) (gi lf v)) (p.take k)=least s.di ts (min (-gi lf u) (gi lf v)) (p.take (k+1)):=by rw [dh hx,wE,if_pos (by simpa using hc47)]
   exact .mk ⟨rfl,hs.tail⟩ (hs:= .cons rfl (.cons rfl (.cons rfl (.dD rfl e (.cons rfl (.cons rfl (.cons rfl (.cons rfl (.nil rfl rfl)))))))))
 ·rintro fr w ⟨rfl,hs⟩
  have e6:least s.di ts (min (-gi lf u) (gi lf v)) (List.take p.length p)=M:=by rw [List.take_length];exact hM.symm
  rw [e6]
  refine nT ?_
  refine .seq (.aj (.z zm (.z (dp aB) (.z zm (.nil ?_)))))
  refine .for (N:=p.length) (J:=fun k fr w=>fr=[(59,.slice a p.length cap),(6,I M),(0,.pointer (some ⟨bf,0,none⟩)),(1,.slice a p.length cap),(4,I u),(5,I v)]∧St H w (.blk bt (Is (gL s.di M ts (p.take k))):: .blk bl (Is lf++sp)::σ)) ak ?_ ?_ ?_
  ·exact .mk ⟨rfl,hs⟩
  ·rintro k fr w hk ⟨rfl,hs⟩
   obtain ⟨x,hx⟩:=nth hk
   obtain ⟨g1,g2,g3⟩:=hix x (List.mem_of_getElem? hx)
   have hpl2:=ml s.di M (p.take k) ts
   have hbd:=CO (es:=s.di) (m:=M) (ts:=ts) (p:=p.take k) ak (by simp only [FF];omega) (by rw [List.length_take];omega) (fun y hy=>(hix y (List.mem_of_mem_take hy)).2.1) x.l.toNat
   have h9:=htt _ g2
   refine .block (.aj ?_)
   refine .ixX hs hp rfl rfl aB aI hx rfl ?_;intro b63 o63 hc63
   refine .q hs (bY (vs:=x.v) rfl ij aI hc63) ?_
   refine .o (.alloc hs ee rfl fun b10 w hs=>?_)
   refine .o (.aP (vs:=x.v) hs rfl rfl aI fun w hs=>?_)
   refine .nil (.aj (.z zm ?_))
   refine .q hs (kV (vs:=x.v) rfl ij aI) ?_
   refine .o (.call Tryz.call298 rfl (kc hs hok hf hl g1) ?_);rintro _ w ⟨rfl,hs⟩
   refine .nil ?_
   refine (.cond rfl (fun hc67=>?_) (fun hc67=>?_))
   ·refine .draw mix rfl hs fun w hs=>?_
    refine .z 0 rfl zm ?_;refine .z 1 rfl znc ?_;refine .z 2 rfl (zfa iC) ?_;refine .y 3 rfl hs an ?_;refine .z 4 rfl (zfa dW) ?_;refine .y 5 rfl hs ae ?_
    refine .z 6 rfl (lh (k:=x.l.toNat) rfl rfl af ai g3 g2) ?_
    refine .y 7 rfl hs ae ?_;refine .z 8 rfl zm ?_;refine .z 9 rfl cP ?_
    refine .z 10 rfl (lh (k:=x.l.toNat) rfl rfl af ai g3 g2) ?_
    refine .E 11 hs ?_
    refine .store hs rfl rfl ai ?_;intro w hs
    refine .go ?_
    refine .D hs ?_
    refine nB (nT ?_)
    have e:gL s.di M ts (p.take (k+1))=(gL s.di M ts (p.take k)).set x.l.toNat (gi (gL s.di M ts (p.take k)) x.l.toNat+M):=by rw [dh hx,uJ,push,if_pos (by simpa using hc67)]
    exact .mk ⟨rfl,by rw [e];exact hs.tail⟩
   ·refine .draw mix rfl hs fun w hs=>?_
    refine .z 0 rfl zm ?_;refine .z 1 rfl znc ?_;refine .z 2 rfl (zfa iC) ?_;refine .y 3 rfl hs an ?_;refine .z 4 rfl (zfa dW) ?_;refine .y 5 rfl hs ae ?_
    refine .z 6 rfl (lh (k:=x.l.toNat) rfl rfl af ai g3 g2) ?_
    refine .y 7 rfl hs ae ?_;refine .z 8 rfl zm ?_;refine .z 9 rfl gM ?_
    refine .z 10 rfl (lh (k:=x.l.toNat) rfl rfl af ai g3 g2) ?_
    refine .E 11 hs ?_
    refine .store hs rfl rfl ai ?_;intro w hs
    refine .go ?_
    refine .D hs ?_
    refine nB (nT ?_)
    have e:gL s.di M ts (p.take (k+1))=(gL s.di M ts (p.take k)).set x.l.toNat (gi (gL s.di M ts (p.take k)) x.l.toNat - M):=by rw [dh hx,uJ,push,if_neg (by simpa using hc67)]
    exact .mk ⟨rfl,by rw [e];exact hs.tail⟩
  ·rintro fr w ⟨rfl,hs⟩
   rw [List.take_length] at hs
   refine nT ?_
   refine .aj (.z zm (.z znc (.z (zfa dX) (.y hs (zld an) (.z zm ?_)))))
   first|(refine .ixv hs af ai ?_;intro b96 o96 hc96)|refine .z (zix af ai) ?_
   refine .q hs (iw rfl ae (hv:=fM hun sp)) ?_
   refine .z zm (.z cP ?_)
   first|(refine .ixv hs af ai ?_;intro b100 o100 hc100)|refine .z (zix af ai) ?_
   refine .o (.store hs rfl rfl ai ?_ dE (k8 hun sp) (jF hun sp _));intro w hs
   refine .nil (.region (.z zm (.z znc (.z (zfa dX) (.y hs (zld an) (.z zm ?_))))))
   first|(refine .ixv hs af ai ?_;intro b106 o106 hc106)|refine .z (zix af ai) ?_
   refine .q hs (iw rfl ae (hv:=fM (by rw [List.length_set];exact hvn) sp)) ?_
   refine .z zm (.z gM ?_)
   first|(refine .ixv hs af ai ?_;intro b110 o110 hc110)|refine .z (zix af ai) ?_
   refine .o (.store hs rfl rfl ai ?_ dE (k8 (by rw [List.length_set];exact hvn) sp) (jF (by rw [List.length_set];exact hvn) sp _));intro w hs
   refine .nil ?_
   exact Fin.zh Tryz.results273 hs
theorem C7{w:List Int}{N k:Nat}(hw:w.length=N+1):gi (w.set 0 (-lB w k)) 0 - gi (w.set 0 (-lB w k)) (k+1)= -lB w (k+1):=by
 rw [fX ak,fX ak,if_pos rfl,if_neg ak]
 simp only [lB,bg];omega
theorem uU{v vw:Value}{s:cU}{ws:List Int}(hs:St H w σ)(hok:s.Ok)(hr:RSy H v s)(hrw:RI H vw ws)(hwl:ws.length=s.n)(hsz:ig ws)(hsnd:s.Sound):
  Cl Tryz.prog 224 [v,vw] w fun v w'=>(v= .tuple #[.pointer none,.bool false]∧qd s.di (qe ws s.n) s.n∧St H w' σ)∨
   (∃H1 bf bt bl cl ts lf vl sp,HLe H H1∧v= .tuple #[.pointer (some ⟨bf,0,none⟩),.bool true]∧vU H1 bf s ts lf vl bt bl cl sp∧sV s.n s.di (qe ws s.n) ts∧St H1 w' σ):=by
 obtain ⟨vl,rfl,hr⟩:=hr
 obtain ⟨al,cpl,rfl⟩:=RL.shape hr
 obtain ⟨aw,cw,rfl⟩:=RI.shape hrw
 obtain ⟨N,hN⟩:=Int.eq_ofNat_of_zero_le hok.m0
 have hN1:=hok.m1
 have hn:s.n=N+1:=by simp [cU.n,hN]
 have hlim:=hok.len
 have hoka:=hok.di
 have hal:s.di.length=s.cH.length:=by simp [cU.di,fb]
 have hnum:Av s.di:=fun i x hx=>⟨rn hx,(hok.di.2 x (List.mem_of_getElem? hx)).2.2.2.2.2⟩
 have hin:∀x∈s.di,x.f<s.n∧x.t<s.n:=fun x hx=>by have:=hoka.2 x hx;omega
 have hwt0:=FU ws (n:=s.n) ak
 unfold ig at hsz
 rw [hwl] at hsz
 refine Cl.o Tryz.func224 Tryz.ntmps224 ag2 ?_
 refine .aj ?_
 refine .bx hs fun b2 w hs=>?_
 refine .z zg (.z zg (.nil ?_))
 refine .scope ?_
 refine .cut (fun fs w=>∃bf bt bl cl sp,kJ fs ⟨73,[],[(6,.pointer (some ⟨bf,0,none⟩))]⟩∧St H w (.blk bf [I s.many,.slice al s.cH.length cpl,.slice (some ⟨bt,0,none⟩) s.cH.length s.cH.length,.slice (some ⟨bl,0,none⟩) ws.length cl]:: .blk bt (Is (List.replicate s.cH.length 0)):: .blk bl (Is ws++sp)::σ)) ?_ ?_
 ·refine .draw mix rfl hs fun w hs=>?_
  refine .ys 0 rfl hs [_,_] bG aN ?_;refine .z 1 rfl (zfa cf) ?_;refine .y 2 rfl hs dj ?_;refine .z 3 rfl (dp aU) ?_;refine .z 5 rfl zm ?_
  refine .e2 (i:=4) (j:=6) aq rfl rfl rfl rfl .none .none hs ?_ ?_
  ·refine .yP s.cH.length hs rfl rfl af jK rfl ai cB ak ?_;intro b15 w hs
   refine .go ?_
   refine .E 6 hs ?_
   refine .call Tryz.call171 rfl (mK hs hrw ak) ?_;rintro v17 w ⟨en17,hO,hs⟩
   obtain ⟨bl,cl,sp,rfl,rfl,hsp⟩:=hO.some ak
   refine .go ?_
   refine .z 7 rfl (zbd [_,_,_,_] po) ?_
   refine .E 8 hs ?_
   refine .box hs rfl rfl ?_;intro b19 w hs
   refine .go ?_
   refine .z 9 rfl zg ?_;refine .D hs ?_
   exact nT ⟨b19,b15,bl,cl,sp,bj,hs.sb⟩
  ·refine .call Tryz.call171 rfl (mK hs hrw ak) ?_;rintro v17 w ⟨en17,hO,hs⟩
   obtain ⟨bl,cl,sp,rfl,rfl,hsp⟩:=hO.some ak
   refine .go ?_
   refine .E 4 hs ?_
   refine .yP s.cH.length hs rfl rfl af jK rfl ai cB ak ?_;intro b15 w hs
   refine .go ?_
   refine .z 7 rfl (zbd [_,_,_,_] po) ?_
   refine .E 8 hs ?_
   refine .box hs rfl rfl ?_;intro b19 w hs
   refine .go ?_
   refine .z 9 rfl zg ?_;refine .D hs ?_
   exact nT ⟨b19,b15,bl,cl,sp,bj,hs.sb⟩
 ·rintro fs w ⟨bf,bt,bl,cl,sp,hfs,hs⟩
  refine WE.sub ?_ hfs
  obtain ⟨H1,hle1,hRf,hs⟩:=hs.cV .here
  have hf0:cellAt H1 bf 0=some (I (N:Int)):=by have:=hRf.at 0 (v:=I s.many);rwa [hN] at this
  have hf3:cellAt H1 bf 3=some (.slice (some ⟨bl,0,none⟩) ws.length cl):=hRf.at 3
  have hrl:=hr.mono hle1
  refine .aj (.z zm (.z znc (.z (zfa dX) (.y hs (zld an) ?_))))
  refine .q hs (lh (k:=0) rfl rfl af ai rfl ak) ?_
  refine .o (.store hs rfl rfl ai ?_ dE (k8 ak sp) (jF ak sp _));intro w hs
  refine .nil (.seq (.aj (.z zm (.z znc (.z (zfa gz) (.z (zfa cA) (.y hs (zld ae) (.z zm (.nil ?_)))))))))
  refine .for (N:=N) (J:=fun k fr w=>fr=[(6,.pointer (some ⟨bf,0,none⟩))]∧St H1 w (.blk bt (Is (List.replicate s.cH.length 0)):: .blk bl (Is (ws.set 0 (-lB ws k))++sp)::σ)) ak ?_ ?_ ?_
  ·exact .mk ⟨rfl,by simpa [lB,bg] using hs⟩
  ·rintro k fr w hk ⟨rfl,hs⟩
   have e:=C7 (w:=ws) (N:=N) (k:=k) ak
   have hb1:=wj ws (k+1)
   have hb2:bN ws (k+1+1)≤bN ws s.n:=rK (fun v=>by omega) ak
   simp only [FF] at hsz
   refine .block (.aj (.z zm (.z zg (.nil ?_))))
   refine .draw mix rfl hs fun w hs=>?_
   refine .z 0 rfl zm ?_;refine .z 1 rfl znc ?_;refine .z 2 rfl (zfa dX) ?_;refine .y 3 rfl hs an ?_
   refine .z 4 rfl (lh (k:=0) rfl rfl af ai rfl ak) ?_
   refine .load (i:=5) hs rfl aq .none rfl ae ?_ (hv:=fM (by rw [List.length_set];omega) sp)
   refine .z 6 rfl zm ?_;refine .z 7 rfl znc ?_;refine .z 8 rfl (zfa dX) ?_;refine .y 9 rfl hs an ?_;refine .z 10 rfl zm ?_;refine .z 11 rfl cP ?_
   refine .z 12 rfl (lh (k:=k+1) rfl rfl af ai ak ak) ?_
   refine .load (i:=13) hs rfl aq .none rfl ae ?_ (hv:=fM (by rw [List.length_set];omega) sp)
   refine .z 14 rfl gM ?_
   refine .z 15 rfl (lh (k:=0) rfl rfl af ai rfl ak) ?_
   refine .E 16 hs ?_
   refine .store hs rfl rfl ai ?_ dE (k8 (by rw [List.length_set];omega) sp) (jF (by rw [List.length_set];omega) sp _);intro w hs
   refine .go ?_
   refine .D hs ?_
   refine nB (nT ?_)
   rw [e,List.set_set] at hs
   exact .mk ⟨rfl,hs⟩
  ·rintro fr w ⟨rfl,hs⟩
   have hI0:xZ s.n s.di (qe ws s.n) (List.replicate s.cH.length 0) (ws.set 0 (-lB ws N)):=by
    rw [←hal,hn]
    rw [hn] at hsz
    refine xZ.start hsz (by rw [List.length_set];omega) (fun v hv=>?_) hsnd
    rw [fX ak]
    cases v with
    |zero=>rw [if_pos rfl,zM]
    |succ v=>rw [if_neg ak,zN]
   refine nT ?_
   refine .seq ?_
   refine .label ?_
   refine nT ?_
   refine .block ?_
   refine .loop (fun _:bV×List Int×List Int=>⟨73,[],[(6,.pointer (some ⟨bf,0,none⟩))]⟩)
    (fun p w=>HLe H1 p.1∧xZ s.n s.di (qe ws s.n) p.2.1 p.2.2∧St p.1 w (.blk bt (Is p.2.1):: .blk bl (Is p.2.2++sp)::σ)) (fun p=>(rem s.n p.2.2).toNat) (H1,List.replicate s.cH.length 0,ws.set 0 (-lB ws N))
    bj ⟨HLe.refl _,hI0,hs⟩ ?_
   rintro ⟨H2,ts,lf⟩ w ⟨hle2,hI,hs⟩
   dsimp only at hle2 hI hs ⊢
   have hlt:=hI.lt
   have hll:=hI.ll
   have hRf2:Row H2 bf [I s.many,.slice al s.cH.length cpl,.slice (some ⟨bt,0,none⟩) ts.length ts.length,.slice (some ⟨bl,0,none⟩) lf.length cl]:=by
    rw [hlt,hal,hll,←hwl];exact hRf.mono hle2
   have hf32:cellAt H2 bf 3=some (.slice (some ⟨bl,0,none⟩) lf.length cl):=hRf2.at 3
   refine .block (.seq (.aj (.z zm (.z znc (.z (zfa dX) (.y hs (zld an) (.z (dp af) (.z zm (.nil ?_)))))))))
   refine .for (N:=lf.length) (J:=fun k fr w=>fr=[(53,.slice (some ⟨bl,0,none⟩) lf.length cl),(6,.pointer (some ⟨bf,0,none⟩))]∧(∀v<k,gi lf v≤0)∧St H2 w (.blk bt (Is ts):: .blk bl (Is lf++sp)::σ)) ak ?_ ?_ ?_
   ·exact .mk ⟨rfl,fun v hv=>by omega,hs⟩
   ·rintro k fr w hk ⟨rfl,hle0,hs⟩
    refine .block (.aj (.z zm ?_))
    first|(refine .ixv hs af ai ?_;intro b58 o58 hc58)|refine .z (zix af ai) ?_
    refine .q hs (iw rfl ae (hv:=fM hk sp)) ?_
    refine .z zg (.z zg (.nil (.seq (.aj (.z zm (.z oF (.nil ?_)))))))
    refine (.bH rfl (fun hc61=>?_) (fun hc61=>?_))
    ·refine .exit ?_
     refine xT (xB (nT ?_))
     exact .mk ⟨rfl,fun v hv=>by
       by_cases e:v=k
       ·subst e;exact hc61
       ·exact hle0 v ak,hs⟩
    ·refine .skip ?_
     refine nT ?_
     refine .aj (.z zm (.z zm ?_))
     obtain ⟨Ha,hla,hra,hsa,-,hba⟩:=hs.AS
     obtain ⟨Hb,hlb,hrb,hsb,-,hbb⟩:=hsa.AS
     refine .o (.call Tryz.call272 rfl (p5 (s:=s) (to:=k) hsb hok ⟨hRf2.mono (hla.trans hlb),hr.mono (hle1.trans (hle2.trans (hla.trans hlb))),hra.mono hlb,hrb⟩ ak ak hI.fe ak ak) ?_);rintro v64 w ⟨Hc,p,en,hlc,hO,hsc,hWR⟩
     have hs:=hba (HLe.refl _) (hbb hlc hsc)
     obtain ⟨ap,lp,cp,rfl,hlp⟩:=hO.shape
     obtain rfl:lp=p.length:=by rw [dQ] at hlp;omega
     refine .z zg (.nil (.seq (.aj (.z zm (.z (dp aB) (.z gj (.nil ?_)))))))
     refine (.bH rfl (fun hc67=>?_) (fun hc67=>?_))
     ·refine .aj (.z zg (.z zg (.nil ?_)))
      refine .ret (rT (rB (rT (rB (rT (rB (rT (rB (rS (Fin.iq Tryz.results224 rfl rfl ?_))))))))))
      rcases hWR with ⟨_,R,hS,hR,hto⟩|⟨hp,_⟩
      ·exact .inl ⟨rfl,hI.open hin hS hR ak hto ak,(hs.le (hle1.trans hle2)).out⟩
      ·exact (hp (List.length_eq_zero_iff.1 ak)).elim
     ·refine .skip ?_
      refine nT ?_
      refine .aj (.z zm (.z zm ?_))
      obtain ⟨hp,hpl,u,hw⟩:=hWR.resolve_left fun h=>by rw [h.1] at hc67;exact hc67 rfl
      obtain ⟨H3,hle3,hRS,hs⟩:=cI.cV (cs:=p.map Arc.v) hO (fun c hc=>by simp only [List.mem_map] at hc;obtain ⟨x,_,rfl⟩:=hc;rfl) ak (by rw [List.length_map];omega) hs dE
      refine .o (.call Tryz.call273 rfl (oT hs hok (hRf2.mono hle3) (hr.mono (hle1.trans (hle2.trans hle3))) hRS hI hw hp hpl) ?_);rintro v70 w hs
      refine .nil ?_
      refine .exit ?_
      refine xN (xT (xN (xT (xB (nT ?_)))))
      obtain ⟨q1,q2⟩:=hI.send hnum hw ak
      have q3:0≤rem s.n (Ae lf (sL s.di ts lf p u k) u k):=dx fun v _=>by omega
      exact ⟨(H3,gL s.di (sL s.di ts lf p u k) ts p,Ae lf (sL s.di ts lf p u k) u k),bj,⟨hle2.trans hle3,q1,hs⟩,by dsimp only;omega⟩
   ·rintro fr w ⟨rfl,hle0,hs⟩
    refine nT ?_
    refine .aj (.z zm (.z zg (.z zg (.nil ?_))))
    refine .ret (rB (rT (rB (rS (Fin.iq Tryz.results224 rfl rfl ?_)))))
    obtain ⟨H3,l3,r3,hs⟩:=hs.cV .here
    obtain ⟨H4,l4,r4,hs⟩:=hs.cV .here
    exact .inr ⟨H4,bf,bt,bl,cl,ts,lf,_,sp,hle1.trans (hle2.trans (l3.trans l4)),rfl,⟨hRf2.mono (l3.trans l4),hr.mono (hle1.trans (hle2.trans (l3.trans l4))),r3.mono l4,r4⟩,hI.ok hin hwt0 (fun v hv=>hle0 v ak),hs⟩
theorem q9{v:Value}{ws:List Int}(hs:St H w σ)(hr:RI H v ws):Cl Tryz.prog 271 [v] w fun v w'=>∃b,v= .bool b∧(b=true↔ig ws)∧St H w' σ:=by
 obtain ⟨a,c,rfl⟩:=RI.shape hr
 have hl:=(RI.len hr).2.2
 refine Cl.o Tryz.func271 Tryz.ntmps271 ag1 ?_
 refine .aj (.z zg (.nil (.aj (.z zg (.nil (.seq (.aj (.z zm (.z (dp af) ?_)))))))))
 refine .z zm (.nil ?_)
 refine .for (N:=ws.length) (J:=fun k fr w=>fr=[(6,.slice a ws.length c),(3,I (3600000000000 - bN ws k))]∧bN ws k≤3600000000000∧St H w σ) ak ?_ ?_ ?_
 ·exact .mk ⟨rfl,by simp [bN,bg],hs⟩
 ·rintro k fr w hk ⟨rfl,hle,hs⟩
  have hx:=bU hk
  have h0:0≤bN ws k:=dx fun v _=>by omega
  have h1:bN ws (k+1)=bN ws k+max (gi ws k) (-gi ws k):=rfl
  refine .block (.aj ?_)
  first|(refine .ixv hs af ai ?_;intro b10 o10 hc10)|refine .z (zix af ai) ?_
  refine .y hs (zld ae) (.z zg (.nil (.seq (.aj (.z zm (.z zm (.z Ea (.z iK (.z zm ?_)))))))))
  refine .iW (t':=16) rfl (fun hb16=>?_) (fun hb16=>?_)
  ·refine .gFs 3 4 false rfl rfl rfl ?_
   refine .z zpT (.nil ?_)
   refine (.cT ?_)
   refine .aj (.z zg (.nil ?_))
   refine .ret (rT (rB (rT (rB (rT (Fin.bE Tryz.results271 rfl ?_))))))
   exact ⟨false,rfl,⟨fun h=>(by cases h),fun h=>(wm (k:=k+1) hk (by simp only [FF];omega) h).elim⟩,hs⟩
  ·refine .gT rfl rfl ?_
   refine .z zm ?_
   refine .gT rfl rfl ?_
   refine .z zm ?_
   refine .gT rfl rfl ?_
   refine .z mI (.z zpF (.nil ?_))
   refine (.bH rfl (fun hc20=>?_) (fun hc20=>?_))
   ·refine .aj (.z zg (.nil ?_))
    refine .ret (rT (rB (rT (rB (rT (Fin.bE Tryz.results271 rfl ?_))))))
    exact ⟨false,rfl,⟨fun h=>(by cases h),fun h=>(wm (k:=k+1) hk (by simp only [FF];omega) h).elim⟩,hs⟩
   ·refine .skip ?_
    refine nT ?_
    refine .region (.z zm (.z zm (.z zm (.z Ea (.z Cb (.z gM (.z zg (.nil ?_))))))))
    refine nB (nT ?_)
    exact .mk ⟨rfl,ak,hs⟩ (hs:= .cons rfl (.cons rfl (.cons rfl (.dD rfl ak (.nil rfl rfl)))))
 ·rintro fr w ⟨rfl,hle,hs⟩
  refine nT ?_
  refine .aj (.z zg (.nil ?_))
  refine .ret (Fin.bE Tryz.results271 rfl ?_)
  exact ⟨true,rfl,⟨fun _=>hle,fun _=>rfl⟩,hs⟩
theorem mA{v vw:Value}{s:cU}{ws:List Int}(hs:St H w σ)(hr:RSy H v s)(hrw:RI H vw ws):Cl Tryz.prog 222 [v,vw] w fun v w'=>v=I (gE s ws)∧St H w' σ:=by
 obtain ⟨vl,rfl,hr⟩:=hr
 obtain ⟨al,cpl,rfl⟩:=RL.shape hr
 obtain ⟨aw,cw,rfl⟩:=RI.shape hrw
 have hlw:=(RI.len hrw).2.2
 have hn:s.check=0→0≤s.many∧s.many≤64∧(s.n:Int)=s.many+1:=fun h=>by
  have h1:=s.dF.1 h
  have:=h1.m0
  have:=h1.m1
  simp only [cU.n];omega
 refine Cl.o Tryz.func222 Tryz.ntmps222 ag2 ?_
 refine .aj ?_
 refine .bx hs fun b2 w hs=>?_
 refine .z zg (.nil (.seq (.aj (.y hs (zls [_,_] bG aN) ?_))))
 refine .o (.call Tryz.call197 rfl (je (s:=s) hs ⟨_,rfl,hr⟩) ?_);rintro _ w ⟨rfl,hs⟩
 refine .z zg (.nil (.aj (.z zm (.z gS (.nil ?_)))))
 refine (.ek rfl (fun hc9=>?_) (fun hc9=>?_))
 ·refine .aj (.z zm (.z zg (.nil ?_)))
  refine .ret (rT (Fin.bE Tryz.results222 rfl ?_))
  exact ⟨by unfold gE;rw [if_pos hc9],hs.tail⟩
 ·refine .skip ?_
  refine nT ?_
  refine .seq (.aj (.z zm ?_))
  obtain ⟨n0,n1,n2⟩:=hn hc9
  refine .z (dp af) (.z (zfa cA) (.y hs (zld ae) (.z cP (.z gS (.z zm ?_)))))
  refine .B3 (t':=17) rfl (fun hb17=>?_) (fun hb17=>?_)
  ·refine .gFs 3 6 false rfl rfl rfl ?_
   refine .z zpT (.nil ?_)
   refine (.cT ?_)
   refine .aj (.z zg (.nil ?_))
   refine .ret (rT (Fin.bE Tryz.results222 rfl ?_))
   exact ⟨by unfold gE;rw [if_neg ak,if_neg ak],hs.tail⟩
  ·refine .gT rfl rfl ?_
   refine .z zm ?_
   refine .gT rfl rfl ?_
   refine .o (.call Tryz.call271 rfl (q9 hs hrw) ?_);rintro _ w ⟨bz,rfl,hbz,hs⟩
   refine .gT rfl rfl ?_
   refine .z fW (.z zpF (.nil ?_))
   refine (.cond rfl (fun hc21=>?_) (fun hc21=>?_))
   ·refine .aj (.z zg (.nil ?_))
    refine .ret (rT (Fin.bE Tryz.results222 rfl ?_))
    exact ⟨by unfold gE;rw [if_neg ak,if_neg (fun h=>by rw [hbz.2 h.2] at hc21;cases hc21)],hs.tail⟩
   ·refine .skip ?_
    refine nT ?_
    refine .aj (.z zg (.nil ?_))
    refine .ret (Fin.bE Tryz.results222 rfl ?_)
    exact ⟨by unfold gE;rw [if_neg ak,if_pos ⟨ak,hbz.1 (by simpa using hc21)⟩],hs.tail⟩
theorem mV{v vw:Value}{s:cU}{ws:List Int}(hs:St H w σ)(hr:RSy H v s)(hrw:RI H vw ws):
  Cl Tryz.prog 179 [v,vw] w fun v w'=>∃H1 e pf,HLe H H1∧v= .tuple #[pf,I e]∧DW s ws e∧St H1 w' σ∧(e≠0→pf= .pointer none)∧
   (e=0→∃bf bt bl cl ts lf vl sp,pf= .pointer (some ⟨bf,0,none⟩)∧vU H1 bf s ts lf vl bt bl cl sp∧sV s.n s.di (qe ws s.n) ts∧s.Ok∧bN ws s.n≤FF):=by
 obtain ⟨vl,rfl,hr⟩:=hr
 refine Cl.o Tryz.func179 Tryz.ntmps179 ag2 ?_
 refine .aj ?_
 refine .bx hs fun b2 w hs=>?_
 refine .z zg (.z zg (.nil (.seq (.aj (.y hs (zls [_,_] bG aN) (.z zm ?_))))))
 refine .o (.call Tryz.call222 rfl (mA (s:=s) hs ⟨_,rfl,hr⟩ hrw) ?_);rintro _ w ⟨rfl,hs⟩
 refine .z zg (.nil (.aj (.z zm (.z gS (.nil ?_)))))
 refine (.ek rfl (fun hc13=>?_) (fun hc13=>?_))
 ·refine .aj (.z zm (.z zg (.z zg (.nil ?_))))
  refine .ret (rT (Fin.iq Tryz.results179 rfl rfl ?_))
  exact ⟨H,_,_,HLe.refl _,rfl,.bad hc13,hs.tail,fun _=>rfl,fun h=>(hc13 h).elim⟩
 ·refine .skip ?_
  refine nT ?_
  refine .seq (.aj (.y hs (zls [_,_] bG aN) ?_))
  obtain ⟨hok,hwl,hsz⟩:=uZ hc13
  refine .o (.call Tryz.call223 rfl (jD (s:=s) hs hok ⟨_,rfl,hr⟩) ?_);rintro _ w ⟨H1,b,hle1,rfl,hb,hs⟩
  refine .z fW (.nil ?_)
  refine (.cond rfl (fun hc17=>?_) (fun hc17=>?_))
  ·refine .aj (.z zg (.z zg (.nil ?_)))
   refine .ret (rT (Fin.iq Tryz.results179 rfl rfl ?_))
   exact ⟨H1,_,_,hle1,rfl,.clash hc13 (fun h=>by rw [hb.2 h] at hc17;cases hc17),hs.tail,fun _=>rfl,fun h=>by cases h⟩
  ·refine .skip ?_
   refine nT ?_
   refine .aj (.y hs (zls [_,_] bG aN) (.z zm ?_))
   have hsnd:s.Sound:=hb.1 (by simpa using hc17)
   refine .o (.call Tryz.call224 rfl (uU (s:=s) hs hok ⟨_,rfl,hr.mono hle1⟩ (hrw.mono hle1) hwl hsz hsnd) ?_);rintro v21 w hcase
   obtain ⟨pf,bb,H2,hle2,rfl,hs,hT,hF⟩:∃pf bb H2,HLe H1 H2∧v21= .tuple #[pf,.bool bb]∧St H2 w (.blk b2 [I s.many,vl]::σ)∧(bb=false→pf= .pointer none∧qd s.di (qe ws s.n) s.n)∧
     (bb=true→∃bf bt bl cl ts lf vl sp,pf= .pointer (some ⟨bf,0,none⟩)∧vU H2 bf s ts lf vl bt bl cl sp∧sV s.n s.di (qe ws s.n) ts):=by
    rcases hcase with ⟨rfl,h1,h2⟩|⟨H2,bf,bt,bl,cl,ts,lf,vl,sp,h1,rfl,h2,h3,h4⟩
    ·exact ⟨_,false,H1,HLe.refl _,rfl,h2,fun _=>⟨rfl,h1⟩,fun h=>by cases h⟩
    ·exact ⟨_,true,H2,h1,rfl,h4,fun h=>(by cases h),fun _=>⟨bf,bt,bl,cl,ts,lf,vl,sp,rfl,h2,h3⟩⟩
   refine .z zm (.z zex (.z zex (.z zg (.z zg (.nil (.seq (.aj (.z zm (.z fW ?_)))))))))
   refine .nil ?_
   refine (.cond rfl (fun hc25=>?_) (fun hc25=>?_))
   ·refine .aj (.z zg (.z zg (.nil ?_)))
    refine .ret (rT (Fin.iq Tryz.results179 rfl rfl ?_))
    exact ⟨H2,_,_,hle1.trans hle2,rfl,.opn hc13 hsnd (hT (by simpa using hc25)).2,hs.tail,fun _=>rfl,fun h=>by cases h⟩
   ·refine .skip ?_
    refine nT ?_
    refine .aj (.z zm (.z zg (.z zg (.nil ?_))))
    refine .ret (Fin.iq Tryz.results179 rfl rfl ?_)
    obtain ⟨bf,bt,bl,cl,ts,lf,vl,sp,rfl,h2,h3⟩:=hF (by simpa using hc25)
    have hn0:0<s.n:=by simp [cU.n]
    have hn1:s.n≤65:=by have:=hok.m0;have:=hok.m1;simp only [cU.n];omega
    have hsz':bN ws s.n≤FF:=by unfold ig at hsz;rwa [hwl] at hsz
    exact ⟨H2,_,_,hle1.trans hle2,rfl,.ok hc13 hsnd (h3.value hn0 hn1 hok.di hsz').2.1,hs.tail,fun h=>(h rfl).elim,fun _=>⟨bf,bt,bl,cl,ts,lf,vl,sp,rfl,h2,h3,hok,hsz'⟩⟩
theorem kb{bf bt bl cl:Nat}{s:cU}{ts lf ws:List Int}{vl:Value}{sp:List Value}(hs:St H w σ)(hok:s.Ok)(hF:vU H bf s ts lf vl bt bl cl sp)(hFo:sV s.n s.di (qe ws s.n) ts)(hsz:bN ws s.n≤FF):
  Cl Tryz.prog 263 [.pointer (some ⟨bf,0,none⟩)] w fun v w'=>v=I (dot s.di ts (·.c))∧B6 s.di (s.wt ws) s.n (dot s.di ts (·.c))∧dot s.di ts (·.c)≤BB∧-BB≤dot s.di ts (·.c)∧St H w' σ:=by
 obtain ⟨hFf,hFl,hFt,hFd⟩:=hF
 obtain ⟨al,cpl,rfl⟩:=RL.shape hFl
 have hlim:=hok.len
 have hal:s.di.length=s.cH.length:=by simp [cU.di,fb]
 have hlt:=hFo.lt
 have hn0:0<s.n:=by simp [cU.n]
 have hn1:s.n≤65:=by have:=hok.m0;have:=hok.m1;simp only [cU.n];omega
 have hv:=hFo.value hn0 hn1 hok.di hsz
 have hd:=Dz (es:=s.di) hlt
 have hf1:cellAt H bf 1=some (.slice al s.cH.length cpl):=hFf.at 1
 have hf2:cellAt H bf 2=some (.slice (some ⟨bt,0,none⟩) ts.length ts.length):=hFf.at 2
 refine Cl.o Tryz.func263 Tryz.ntmps263 ag1 ?_
 refine .aj (.z zg (.nil (.aj (.z zg (.nil (.seq (.aj (.z zm (.z znc ?_)))))))))
 refine .z (zfa gz) (.z (zfa cf) (.y hs (zld dj) (.z (dp aU) (.z zm (.nil ?_)))))
 refine .for (N:=s.cH.length) (J:=fun k fr w=>fr=[(10,.slice al s.cH.length cpl),(3,I (IntKind.i64.wrap (BO s.di ts k))),(0,.pointer (some ⟨bf,0,none⟩))]∧St H w σ) ak ?_ ?_ ?_
 ·exact .mk ⟨rfl,hs⟩ (hs:= .cons rfl (.cons rfl (.cons rfl (.dD rfl (by simp [BO,bg,wG]) (.cons rfl (.nil rfl rfl))))))
 ·rintro k fr w hk ⟨rfl,hs⟩
  obtain ⟨l,hl⟩:=nth hk
  have hg:(ga s.di k).c=l.M:=by simp [ga,cU.di,kM hl,Lim.arc]
  have hlm:=hok.lim l (List.mem_of_getElem? hl)
  have hkt:k<ts.length:=by omega
  have htb:=hFo.nn k ak
  have hct:cellAt H bt k=some (I (gi ts k)):=hFt.at k (jH hkt)
  have hmul:gi ts k*l.M≤72000000000000000∧-72000000000000000≤gi ts k*l.M:=by
   simp only [FF] at htb
   have g1:gi ts k*l.M≤gi ts k*20000:=Int.mul_le_mul_of_nonneg_left hlm.2.2.2.1.2 htb.1
   have g2:gi ts k*(-20000)≤gi ts k*l.M:=Int.mul_le_mul_of_nonneg_left hlm.2.2.2.1.1 htb.1
   omega
  refine .block (.aj (.z zm ?_))
  refine .ixX hs hFl rfl rfl aU bq hl rfl ?_;intro b15 o15 hc15
  refine .q hs (bY (vs:=l.c) rfl fu bq hc15) ?_
  refine .o (.alloc hs ef rfl fun b5 w hs=>?_)
  refine .z zg ?_
  refine .o (.aP (vs:=l.c) hs rfl rfl bq fun w hs=>?_)
  refine .nil ?_
  refine .draw mix rfl hs fun w hs=>?_
  refine .z 0 rfl zm ?_;refine .z 1 rfl zm ?_;refine .z 2 rfl znc ?_;refine .z 3 rfl (zfa iC) ?_;refine .y 4 rfl hs an ?_;refine .z 5 rfl zm ?_
  refine .z 6 rfl (lh (k:=k) rfl rfl af ai rfl hkt) ?_
  refine .r (i:=7) hs rfl aq .none (aW rfl ae hct) ?_
  refine .z 8 rfl (zfa fP) ?_;refine .y 9 rfl hs ae ?_;refine .z 10 rfl lz ?_
  refine .z 11 rfl (EK rfl rfl) ?_
  refine .z 12 rfl zg ?_;refine .D hs ?_
  refine nB (nT ?_)
  exact .mk ⟨rfl,hs.tail⟩ (hs:= .cons rfl (.cons rfl (.cons rfl (.dD rfl (by rw [Ah];simp only [BO,bg,hg]) (.cons rfl (.nil rfl rfl))))))
 ·rintro fr w ⟨rfl,hs⟩
  rw [←hal,←hd,lS (by have:=hv.2.2;simp only [BB] at this;omega)]
  refine nT ?_
  refine .aj (.z zm (.z zg (.nil ?_)))
  refine .ret (Fin.bE Tryz.results263 rfl ?_)
  exact ⟨rfl,hv.1,hv.2.2.1,hv.2.2.2,hs⟩
theorem sw{vw:Value}{ws:List Int}(hs:St H w σ)(hrw:RI H vw ws)(hlw:ws.length≤1000000)(hb:∀k,-9223372036854775807≤gi ws k∧gi ws k≤9223372036854775807):
  Cl Tryz.prog 262 [vw] w fun v w'=>∃H1,HLe H H1∧RI H1 v (yM ws)∧St H1 w' σ:=by
 obtain ⟨aw,cw,rfl⟩:=RI.shape hrw
 refine Cl.o Tryz.func262 Tryz.ntmps262 ag1 ?_
 refine .aj (.z zg (.nil (.aj (.z zm (.z (dp af) ?_)))))
 refine .o (.yP ws.length hs rfl rfl af jK rfl ai cB ak fun b8 w hs=>?_)
 refine .z zg (.nil (.seq (.aj (.z zm (.z (dp af) (.z zm (.nil ?_)))))))
 refine .for (N:=ws.length) (J:=fun k fr w=>fr=[(9,.slice aw ws.length cw),(3,.slice (some ⟨b8,0,none⟩) ws.length ws.length)]∧∃L,(L.length=ws.length∧∀v<ws.length,gi L v=if v<k then -gi ws v else 0)∧St H w (.blk b8 (Is L)::σ)) ak ?_ ?_ ?_
 ·exact .mk ⟨rfl,_,⟨cu,fun v hv=>by rw [dC _ _ hv,if_neg ak]⟩,hs⟩
 ·rintro k fr w hk ⟨rfl,L,⟨hL1,hL2⟩,hs⟩
  have hx:=bU hk
  have hbk:=hb k
  refine .block (.aj (.z zm ?_))
  first|(refine .ixv hs af ai ?_;intro b14 o14 hc14)|refine .z (zix af ai) ?_
  refine .y hs (zld ae) (.z zg (.z zg (.nil (.region (.z zm (.z zm (.z zm (.z Ea ?_))))))))
  first|(refine .ixv hs af ai ?_;intro b20 o20 hc20)|refine .z (zix af ai) ?_
  refine .o (.store hs rfl rfl ai fun w hs=>?_)
  refine .nil ?_
  refine nB (nT ?_)
  refine .mk ⟨rfl,_,⟨by rw [List.length_set];exact hL1,fun v hv=>?_⟩,hs⟩
  rw [fX ak]
  by_cases e:v=k
  ·subst e;rw [if_pos rfl,if_pos ak]
  ·rw [if_neg e,hL2 v hv];congr 1;apply propext;omega
 ·rintro fr w ⟨rfl,L,⟨hL1,hL2⟩,hs⟩
  obtain rfl:L=yM ws:=A3 (by simp [hL1,yM]) (fun k hk=>by rw [hL2 k ak,if_pos ak,Dg])
  refine nT ?_
  refine .aj (.z zm (.z zg (.nil ?_)))
  refine .ret (Fin.bE Tryz.results262 rfl ?_)
  obtain ⟨H1,g1,g2,hs⟩:=hs.cV .here
  refine ⟨H1,g1,?_,hs⟩
  rw [←hL1]
  exact Row.RI (spare:=[]) (by simpa using g2) _ (Nat.le_refl _) ak
theorem tq{v vw:Value}{s:cU}{ws:List Int}(hs:St H w σ)(hr:RSy H v s)(hrw:RI H vw ws):
  Cl Tryz.prog 219 [v,vw] w fun v w'=>∃H1 lo hi e,HLe H H1∧v= .tuple #[I lo,I hi,I e]∧e9 s ws lo hi e∧St H1 w' σ:=by
 obtain ⟨vl,rfl,hr⟩:=hr
 refine Cl.o Tryz.func219 Tryz.ntmps219 ag2 ?_
 refine .aj ?_
 refine .bx hs fun b2 w hs=>?_
 refine .z zg (.z zg (.z zg (.nil (.aj (.y hs (zls [_,_] bG aN) (.z zm ?_))))))
 refine .o (.call Tryz.call179 rfl (mV (s:=s) hs ⟨_,rfl,hr⟩ hrw) ?_);rintro _ w ⟨H1,e,pf,hle1,rfl,hA,hs,hne,heq⟩
 refine .z zm (.z zex (.z zex (.z zg (.z zg (.nil (.seq (.aj (.z zm (.z gS ?_)))))))))
 refine .nil ?_
 refine (.ek rfl (fun hc16=>?_) (fun hc16=>?_))
 ·refine .aj (.z zm (.z zg (.z zg (.z zg (.nil ?_)))))
  refine .ret (rT (Fin.I9 Tryz.results219 rfl rfl rfl ?_))
  exact ⟨H1,_,_,_,hle1,rfl,.first ⟨hA,fun _=>rfl,fun h=>(hc16 h).elim⟩ hc16,hs.tail⟩
 ·refine .skip ?_
  refine nT ?_
  refine .seq (.draw mix rfl hs fun w hs=>?_)
  refine .ys 0 rfl hs [_,_] bG aN ?_;refine .z 1 rfl zm ?_
  refine .E 2 hs ?_
  subst hc16
  obtain ⟨bf,bt,bl,cl,ts,lf,vl',sp,rfl,hF,hFo,hok,hsz⟩:=heq rfl
  have hwl:=(uZ hA.zero.1).2.1
  have hbw:∀k,-9223372036854775807≤gi ws k∧gi ws k≤9223372036854775807:=fun k=>by
   simp only [FF] at hsz
   by_cases hk:k<s.n
   ·have:=ox ws hk;omega
   ·have:gi ws k=0:=by simp [gi,List.getElem?_eq_none (show ws.length≤k by omega)]
    omega
  refine .call Tryz.call262 rfl (sw hs (hrw.mono hle1) (by have:=hok.m1;simp only [cU.n] at hwl;omega) hbw) ?_;rintro v21 w ⟨H2,hle2,hr21,hs⟩
  refine .go ?_
  refine .E 3 hs ?_
  refine .call Tryz.call179 rfl (mV (s:=s) hs ⟨_,rfl,hr.mono (hle1.trans hle2)⟩ hr21) ?_;rintro _ w ⟨H3,e2,pg,hle3,rfl,hA2,hs,hne2,heq2⟩
  refine .go ?_
  refine .z 4 rfl zm ?_;refine .z 5 rfl zex ?_;refine .z 6 rfl zex ?_;refine .z 7 rfl zg ?_;refine .z 8 rfl zg ?_;refine .D hs ?_
  refine .seq (.aj (.z zm (.z gS (.nil ?_))))
  refine (.ek rfl (fun hc26=>?_) (fun hc26=>?_))
  ·refine .aj (.z zm (.z zg (.z zg (.z zg (.nil ?_)))))
   refine .ret (rT (Fin.I9 Tryz.results219 rfl rfl rfl ?_))
   obtain ⟨q1,q2,q3,q4⟩:=hFo.value (by simp [cU.n]) (by have:=hok.m0;have:=hok.m1;simp only [cU.n];omega) hok.di hsz
   exact ⟨H3,_,_,_,hle1.trans (hle2.trans hle3),rfl,.second ⟨hA,fun h=>(h rfl).elim,fun _=>⟨q1,q3,q4⟩⟩ ⟨hA2,fun _=>rfl,fun h=>(hc26 h).elim⟩ hc26,hs.tail⟩
  ·refine .skip ?_
   refine nT ?_
   refine .aj (.z zm ?_)
   subst hc26
   obtain ⟨bf2,bt2,bl2,cl2,ts2,lf2,vl2,sp2,rfl,hF2,hFo2,hok2,hsz2⟩:=heq2 rfl
   refine .o (.call Tryz.call263 rfl (kb hs hok hF2 hFo2 hsz2) ?_);rintro _ w ⟨rfl,a1,a2,a3,hs⟩
   simp only [BB] at a2 a3
   refine .z Ea (.z zm ?_)
   refine .o (.call Tryz.call263 rfl (kb hs hok (hF.mono (hle2.trans hle3)) hFo hsz) ?_);rintro _ w ⟨rfl,c1,c2,c3,hs⟩
   refine .z zg (.z zg (.z zg (.nil ?_)))
   refine .ret (Fin.I9 Tryz.results219 rfl rfl rfl ?_)
   exact ⟨H3,_,_,_,hle1.trans (hle2.trans hle3),rfl,.ok ⟨hA,fun h=>(h rfl).elim,fun _=>⟨c1,c2,c3⟩⟩ ⟨hA2,fun h=>(h rfl).elim,fun _=>⟨a1,by simp only [BB];omega,by simp only [BB];omega⟩⟩,hs.tail⟩
end Go.Proofs.YteajddicacjkhaaGreat
namespace Go.Proofs.YteajddicacjkhaaGreat
open Go.MW
structure Pck where
 probes:List Int
 width:Int
 bound:Int
 uses:List Use
 fails:List (List Int×List Int)
def Pck.none:Pck:=⟨[],0,0,[],[]⟩
def IF(H:bV)(v:Value)(p:Pck):Prop:=∃(vp vu vf:Value) (css:List (List Value)),v= .agg #[vp,I p.width,I p.bound,vu,vf]∧RI H vp p.probes∧RU H vu p.uses∧RS H 2 vf css∧css.length=p.fails.length∧∀(j:Nat) (c:List Value) (t:List Int×List Int),css[j]? =some c→p.fails[j]? =some t→TwC H c t
theorem IF.nil(H:bV):IF H (.agg #[.slice none 0 0,I 0,I 0,.slice none 0 0,.slice none 0 0]) .none:=
 ⟨_,_,_,[],rfl,RS.nil _ _ _ _,RS.nil _ _ _ _,RS.nil _ _ _ _,rfl,fun _ _ _ h=>by simp at h⟩
end Go.Proofs.YteajddicacjkhaaGreat
namespace Go.Proofs.YteajddicacjkhaaGreat
open Go.MW
variable{H:bV}{w:World}{σ:List Ent}
theorem EC{n m:Int}(hm:0<m):(n.tmod m+m).tmod m=n%m:=by
 have h2:=Int.lt_tmod_of_pos n hm
 rw [Int.tmod_eq_emod_of_nonneg ak,Int.tmod_def,show n - m*n.tdiv m+m=n+m*(1 - n.tdiv m) by rw [Int.mul_sub];omega,Int.add_mul_emod_self_left]
theorem uF{v:Value}{l:List Int}{i n:Int}(hs:St H w σ)(hr:RI H v l)(hi:0≤i)(hn:n≤4611686018427387904):Cl Tryz.prog 209 [v,I i,I n] w fun v w'=>v=I (qy l i n)∧St H w' σ:=by
 obtain ⟨a,c,rfl⟩:=RI.shape hr
 have hlen:=(RI.len hr).2.2
 refine Cl.o Tryz.func209 Tryz.ntmps209 ag3 ?_
 refine .aj (.z zg (.nil (.seq (.aj (.z zm (.z (dp af) (.z gj (.z zm ?_))))))))
 refine .iW (t':=10) rfl (fun hb10=>?_) (fun hb10=>?_)
 ·refine .gFs 2 3 false rfl rfl rfl ?_
  refine .z zpT (.nil ?_)
  refine (.cT ?_)
  refine .aj (.z zg (.nil ?_))
  refine .ret (rT (Fin.bE Tryz.results209 rfl ?_))
  exact ⟨by rw [show qy l i n=0 by unfold qy;rw [if_pos (.inl (List.length_eq_zero_iff.1 ak))]],hs⟩
 ·refine .gT rfl rfl ?_
  refine .z zm ?_
  refine .gT rfl rfl ?_
  refine .z iK (.z zpF (.nil ?_))
  refine (.bH rfl (fun hc13=>?_) (fun hc13=>?_))
  ·refine .aj (.z zg (.nil ?_))
   refine .ret (rT (Fin.bE Tryz.results209 rfl ?_))
   exact ⟨by rw [show qy l i n=0 by unfold qy;rw [if_pos (.inr ak)]],hs⟩
  ·refine .skip ?_
   refine nT ?_
   refine .aj (.z zm (.z zm (.z zm (.z (dp af) ?_))))
   have hl0:0<l.length:=by omega
   have h1:=Int.tmod_nonneg (a:=i) (l.length:Int) hi
   have h2:=Int.tmod_lt_of_pos i (b:=(l.length:Int)) ak
   have hx:=bU (l:=l) (i:=(i.tmod (l.length:Int)).toNat) ak
   have h3:=Int.tmod_lt_of_pos (gi l (i.tmod (l.length:Int)).toNat) (b:=n) ak
   have h4:=Int.lt_tmod_of_pos (gi l (i.tmod (l.length:Int)).toNat) (b:=n) ak
   have e:=EC (n:=gi l (i.tmod (l.length:Int)).toNat) (m:=n) ak
   refine .z AA ?_
   refine .ixY hs hr rfl rfl af ai hx ak ?_;intro b19 o19 hc19
   refine .q hs (aW rfl ae hc19) ?_
   refine .z zm (.z AA (.z zm (.z cP (.z zm (.z AA (.z zg (.nil ?_)))))))
   refine .ret (Fin.bE Tryz.results209 rfl ?_)
   exact ⟨by unfold qy;rw [if_neg (fun h=>h.elim (fun h=>by rw [h] at hl0;exact Nat.lt_irrefl _ hl0) (fun h=>by omega)),←e],hs⟩
def wX(i j:Nat):Int:=if i=j then 0 else free
theorem Gl{n:Nat}(es:List Arc){T:Nat→Nat→Int}(h:∀i j,i<n→j<n→T i j=wX i j):G7 n es 0 T:=
 ⟨fun i hi=>by rw [h i i hi hi];simp [wX],fun _ _ h=>by omega,fun i j hi hj hij=> .inl (by rw [h i j hi hj];simp [wX,hij])⟩
set_option maxHeartbeats 4000000 in
theorem uD{v:Value}{s:cU}(hs:St H w σ)(hr:RSy H v s)(hok:s.Ok):
  Cl Tryz.prog 207 [v] w fun u w'=>∃H1 rs,HLe H H1∧RT H1 u rs∧Sq s.n rs∧jv s.n s.di (gt rs)∧St H1 w' σ:=by
 obtain ⟨ul,rfl,hl⟩:=hr
 obtain ⟨al,cl,rfl⟩:=RL.shape hl
 have hm0:=hok.m0
 have hm1:=hok.m1
 have hlen:=hok.len
 have hnp:=s.CY
 have hn65:=hok.n65
 have hinn:=hok.inn
 have hmn:s.many+1=(s.n:Int):=by simp only [cU.n];omega
 generalize hn:s.n=n at hnp hn65 hinn hmn ⊢
 refine Cl.o Tryz.func207 Tryz.ntmps207 ag1 ?_
 refine .aj ?_
 refine .bx hs fun b1 w hs=>?_
 refine .z zg (.nil (.aj (.z (zfa cA) ?_)))
 first|refine .q hs (iw rfl ae (hm:=by repeat (first|exact .here|assumption|exact Mem.row ak ak|refine .there ?_|refine Mem.sS ?_)) (hv:=by first|rfl|exact fN ak|exact lY eU ak ak|exact jH lV)) ?_|refine .q hs (aW rfl ae eU) ?_
 refine .z cP ?_
 rw [hmn]
 refine .z zg (.nil (.aj (.z zm ?_)))
 refine .o (.Ik n hs rfl rfl aE Tryz.typeInfo34 rfl aC fc ak fun b16 w hs=>?_)
 refine .z zg (.nil (.seq (.aj (.z zm (.z (dp aE) (.z zm (.nil ?_)))))))
 refine .for (N:=n) (J:=fun k fr w=>fr=[(3,I (n:Int)),(4,.slice (some ⟨b16,0,none⟩) n n),(1,.pointer (some ⟨b1,0,none⟩))]∧∃bs:List Nat,bs.length=k∧St H w (.blk b16 (bs.map (ptr n)++List.replicate (n - k) (.slice none 0 0))::(lR bs (B2 wX n k)++(.blk b1 [I s.many,.slice al s.cH.length cl]::σ)))) ak ?_ ?_ ?_
 ·exact .mk ⟨rfl,[],rfl,hs⟩
 ·rintro k fr w hk ⟨rfl,bs,hbl,hs⟩
  refine .block (.aj (.z zm (.z zg (.nil (.aj (.z zm (.z zm (.z zm ?_))))))))
  refine .o (.yP n hs rfl rfl af jK rfl ai cB ak fun b25 w hs=>?_)
  first|(refine .ixw hs aE aC ?_;intro b26 o26 hc26)|refine .z (zix aE aC) ?_
  refine .o (.store hs rfl rfl aC ?_ dE (by simp [hbl];omega) (GJ hbl hk));intro w hs
  refine .nil (.aj (.z zm (.z zm ?_)))
  first|(refine .ixw hs aE aC ?_;intro b29 o29 hc29)|refine .z (zix aE aC) ?_
  refine .q hs (iw rfl an (hv:=AL hbl)) ?_
  refine .z (dp af) (.z zm (.nil ?_))
  refine .for (N:=n) (J:=fun j fr w=>fr=[(5,I (k:Int)),(19,I (k:Int)),(18,I (n:Int)),(3,I (n:Int)),(4,.slice (some ⟨b16,0,none⟩) n n),(1,.pointer (some ⟨b1,0,none⟩))]∧St H w (.blk b25 (Is ((List.range n).map fun c=>if c<j∧k≠c then free else 0)):: .blk b16 ((bs++[b25]).map (ptr n)++List.replicate (n - (k+1)) (.slice none 0 0))::(lR bs (B2 wX n k)++(.blk b1 [I s.many,.slice al s.cH.length cl]::σ)))) ak ?_ ?_ ?_
  ·rw [zY (fun c=>if c<0∧k≠c then free else 0) n 0 (fun j _=>by simp)] at hs
   exact .mk ⟨rfl,hs⟩
  ·rintro j fr w hj ⟨rfl,hs⟩
   refine .block (.aj (.z zm (.z zg (.nil (.aj (.z zm (.z zm (.z gS (.nil ?_)))))))))
   refine (.ek rfl (fun hc37=>?_) (fun hc37=>?_))
   ·refine .region (.z zm (.z zm ?_))
    first|(refine .ixw hs aE aC ?_;intro b40 o40 hc40)|refine .z (zix aE aC) ?_
    refine .q hs (iw rfl an (hv:=AL hbl)) ?_
    refine .z zm ?_
    first|(refine .ixv hs af ai ?_;intro b43 o43 hc43)|refine .z (zix af ai) ?_
    refine .o (.store hs rfl rfl ai ?_ dE (Bd (by simp;omega)) (zA _ _ _));intro w hs
    refine .nil ?_
    refine nB (nT ?_)
    rw [CD _ (fun c=>if c<j+1∧k≠c then free else 0) hj 1000000000 (fun c _=>by
     by_cases e:c=j
     ·subst e;rw [if_pos rfl,if_pos ⟨ak,ak⟩]
     ·rw [if_neg e];congr 1;apply propext;omega)] at hs
    exact .mk ⟨rfl,hs⟩
   ·refine .skip ?_
    refine nB (nT ?_)
    rw [uH (g:=fun c=>if c<j+1∧k≠c then free else 0) (fun c _=>by
     by_cases e:c=j
     ·subst e;rw [if_neg ak,if_neg ak]
     ·congr 1;apply propext;omega)] at hs
    exact .mk ⟨rfl,hs⟩
  ·rintro fr w ⟨rfl,hs⟩
   rw [uH (g:=wX k) (fun c hc=>by
    unfold wX
    by_cases e:k=c
    ·rw [if_neg ak,if_pos e]
    ·rw [if_pos ⟨hc,e⟩,if_neg e])] at hs
   replace hs:=hs.I8 (by rw [hbl,zQ])
   rw [←Co] at hs
   refine nB (nT ?_)
   exact .mk ⟨rfl,bs++[b25],by simp [hbl],hs⟩
 ·rintro fr w ⟨rfl,bs,hbl,hs⟩
  rw [Nat.sub_self,List.replicate_zero,List.append_nil] at hs
  refine nT ?_
  refine .seq (.aj (.z (zfa cf) ?_))
  first|refine .q hs (iw rfl dj (hm:=by repeat (first|exact .here|assumption|exact Mem.row ak ak|refine .there ?_|refine Mem.sS ?_)) (hv:=by first|rfl|exact fN ak|exact lY eU ak ak|exact jH lV)) ?_|refine .q hs (aW rfl dj eU) ?_
  refine .z (dp aU) (.z zm (.nil ?_))
  refine .for (N:=s.cH.length) (J:=fun k fr w=>fr=[(47,.slice al s.cH.length cl),(4,.slice (some ⟨b16,0,none⟩) n n)]∧∃rs,Sq n rs∧G7 n s.di k (gt rs)∧St H w (.blk b16 (bs.map (ptr n))::(lR bs rs++(.blk b1 [I s.many,.slice al s.cH.length cl]::σ)))) ak ?_ ?_ ?_
  ·exact .mk ⟨rfl,_,Gt wX n,Gl s.di (fun i j hi hj=>Gu wX hi hj),hs⟩
  ·rintro k fr w hk ⟨rfl,rs,hq,hB,hs⟩
   obtain ⟨x,hx⟩:=nth (l:=s.cH) hk
   have hrl:=hq.1
   obtain ⟨⟨xa0,xa1⟩,⟨xb0,xb1⟩,xne,xM,-⟩:=hok.lim x (List.mem_of_getElem? hx)
   have ha:x.A.toNat<n:=by omega
   have hb:x.B.toNat<n:=by omega
   have hga:=kM hx
   refine .block (.aj ?_)
   refine .ixX (enc:=Lim.c) hs hl rfl rfl aU bq hx rfl ?_;intro b51 o51 hc51
   refine .q hs (bY (vs:=x.c) rfl fu bq hc51) ?_
   refine .o (.alloc hs ef rfl fun b8 w hs=>?_)
   refine .o (.aP (vs:=x.c) hs rfl rfl bq fun w hs=>?_)
   refine .nil ?_
   refine .draw mix rfl hs fun w hs=>?_
   refine .z 0 rfl zm ?_;refine .z 1 rfl (zfa eo) ?_
   first|refine .load (i:=2) hs rfl aq .none rfl ae ?_ (by repeat (first|exact .here|assumption|exact Mem.row ak ak|refine .there ?_|refine Mem.sS ?_)) (by first|rfl|exact fN ak|exact lY eU ak ak|exact jH lV)|refine .r (i:=2) hs rfl aq .none (aW rfl ae eU) ?_
   refine .z 3 rfl (lh (k:=x.A.toNat) rfl rfl aE aC ak ha) ?_
   first|refine .load (i:=4) hs rfl aq .none rfl an ?_ (by repeat (first|exact .here|assumption|exact Mem.row ak ak|refine .there ?_|refine Mem.sS ?_)) (by first|rfl|exact fN ak|exact lY eU ak ak|exact jH lV)|refine .r (i:=4) hs rfl aq .none (aW rfl an eU) ?_
   refine .z 5 rfl (zfa eO) ?_
   first|refine .load (i:=6) hs rfl aq .none rfl ae ?_ (by repeat (first|exact .here|assumption|exact Mem.row ak ak|refine .there ?_|refine Mem.sS ?_)) (by first|rfl|exact fN ak|exact lY eU ak ak|exact jH lV)|refine .r (i:=6) hs rfl aq .none (aW rfl ae eU) ?_
   refine .z 7 rfl zm ?_;refine .z 8 rfl (zfa eo) ?_
   first|refine .load (i:=9) hs rfl aq .none rfl ae ?_ (by repeat (first|exact .here|assumption|exact Mem.row ak ak|refine .there ?_|refine Mem.sS ?_)) (by first|rfl|exact fN ak|exact lY eU ak ak|exact jH lV)|refine .r (i:=9) hs rfl aq .none (aW rfl ae eU) ?_
   refine .z 10 rfl (lh (k:=x.A.toNat) rfl rfl aE aC ak ha) ?_
   first|refine .load (i:=11) hs rfl aq .none rfl an ?_ (by repeat (first|exact .here|assumption|exact Mem.row ak ak|refine .there ?_|refine Mem.sS ?_)) (by first|rfl|exact fN ak|exact lY eU ak ak|exact jH lV)|refine .r (i:=11) hs rfl aq .none (aW rfl an eU) ?_
   refine .z 12 rfl (zfa eO) ?_
   first|refine .load (i:=13) hs rfl aq .none rfl ae ?_ (by repeat (first|exact .here|assumption|exact Mem.row ak ak|refine .there ?_|refine Mem.sS ?_)) (by first|rfl|exact fN ak|exact lY eU ak ak|exact jH lV)|refine .r (i:=13) hs rfl aq .none (aW rfl ae eU) ?_
   refine .z 14 rfl (lh (k:=x.B.toNat) rfl rfl af ai ak hb) ?_
   first|refine .load (i:=15) hs rfl aq .none rfl ae ?_ (by repeat (first|exact .here|assumption|exact Mem.row ak ak|refine .there ?_|refine Mem.sS ?_)) (by first|rfl|exact fN ak|exact lY eU ak ak|exact jH lV)|refine .r (i:=15) hs rfl aq .none (aW rfl ae eU) ?_
   refine .z 16 rfl (zfa fP) ?_
   first|refine .load (i:=17) hs rfl aq .none rfl ae ?_ (by repeat (first|exact .here|assumption|exact Mem.row ak ak|refine .there ?_|refine Mem.sS ?_)) (by first|rfl|exact fN ak|exact lY eU ak ak|exact jH lV)|refine .r (i:=17) hs rfl aq .none (aW rfl ae eU) ?_
   refine .z 18 rfl Bk ?_
   refine .z 19 rfl (lh (k:=x.B.toNat) rfl rfl af ai ak hb) ?_
   refine .ET 20 hs ?_
   refine .store hs rfl rfl ai ?_ (.there (.there (Upd.row _ ak ak))) (Bd (by rw [hq.2 _ ha];exact hb)) (zA _ _ _);intro w hs
   refine .go ?_
   refine .DT hs ?_
   refine nB (nT ?_)
   exact .mk ⟨rfl,_,hq.set ha _,by rw [F8 hq ha hb];exact hB.step hinn hga,hs.tail⟩
  ·rintro fr w ⟨rfl,rs,hq,hB,hs⟩
   rw [←fb] at hB
   have hI:=hB.go hinn hnp
   have hcb:∀x∈s.di,-20000≤x.c∧x.c≤20000:=fun x hx=>by have:=hinn x hx;omega
   refine nT ?_
   refine .seq (.aj (.z zm (.z (dp aE) (.z zm (.nil ?_)))))
   refine .for (N:=n) (J:=fun m fr w=>fr=[(4,.slice (some ⟨b16,0,none⟩) n n)]∧∃rs,Sq n rs∧(m<n→yb n s.di m (fun _ _=>False) (gt rs))∧(m=n→jv n s.di (gt rs))∧St H w (.blk b16 (bs.map (ptr n))::(lR bs rs++(.blk b1 [I s.many,.slice al s.cH.length cl]::σ)))) ak ?_ ?_ ?_
   ·exact .mk ⟨rfl,rs,hq,fun _=>hI,fun e=>by omega,hs⟩
   ·clear hI hB hq
    rintro m fr w hm ⟨rfl,rs,hq,hI,-,hs⟩
    replace hI:=hI hm
    refine .block (.aj (.z zm (.z zg (.nil (.aj (.z zm (.z (dp aE) (.z zm (.nil ?_)))))))))
    refine .for (N:=n) (J:=fun i fr w=>fr=[(9,I (m:Int)),(76,I (m:Int)),(75,I (n:Int)),(4,.slice (some ⟨b16,0,none⟩) n n)]∧∃rs,Sq n rs∧yb n s.di m (fun a _=>a<i) (gt rs)∧St H w (.blk b16 (bs.map (ptr n))::(lR bs rs++(.blk b1 [I s.many,.slice al s.cH.length cl]::σ)))) ak ?_ ?_ ?_
    ·exact .mk ⟨rfl,rs,hq,hI.skip hcb hm (P:=fun _ _=>False) (fun i j h=>by omega) (fun _ _ _ _ h=>h.elim),hs⟩
    ·clear hI hq
     rintro i fr w hi ⟨rfl,rs,hq,hI,hs⟩
     refine .block (.aj (.z zm (.z zg (.nil (.aj (.z zm (.z (dp aE) (.z zm (.nil ?_)))))))))
     refine .for (N:=n) (J:=fun k fr w=>fr=[(10,I (i:Int)),(81,I (i:Int)),(80,I (n:Int)),(9,I (m:Int)),(76,I (m:Int)),(75,I (n:Int)),(4,.slice (some ⟨b16,0,none⟩) n n)]∧∃rs,Sq n rs∧yb n s.di m (fun a b=>a<i∨(a=i∧b<k)) (gt rs)∧St H w (.blk b16 (bs.map (ptr n))::(lR bs rs++(.blk b1 [I s.many,.slice al s.cH.length cl]::σ)))) ak ?_ ?_ ?_
     ·exact .mk ⟨rfl,rs,hq,hI.skip hcb hm (P:=fun _ _=>False) (fun a b h=>by omega) (fun _ _ _ _ h=>h.elim),hs⟩
     ·clear hI hq
      rintro k fr w hk ⟨rfl,rs,hq,hI,hs⟩
      have hrl:=hq.1
      have c1:=hI.cl i m hi hm;have c2:=hI.cl m k hm hk
      have u1:=hI.up i m hi hm;have u2:=hI.up m k hm hk
      refine .block (.aj (.z zm (.z zg (.nil (.aj (.z zm (.z zm ?_)))))))
      first|(refine .ixw hs aE aC ?_;intro b91 o91 hc91)|refine .z (zix aE aC) ?_
      first|refine .q hs (iw rfl an (hm:=by repeat (first|exact .here|assumption|exact Mem.row ak ak|refine .there ?_|refine Mem.sS ?_)) (hv:=by first|rfl|exact fN ak|exact lY eU ak ak|exact jH lV)) ?_|refine .q hs (aW rfl an eU) ?_
      refine .z zm ?_
      first|(refine .ixv hs af ai ?_;intro b94 o94 hc94)|refine .z (zix af ai) ?_
      first|refine .q hs (iw rfl ae (hm:=by repeat (first|exact .here|assumption|exact Mem.row ak ak|refine .there ?_|refine Mem.sS ?_)) (hv:=by first|rfl|exact fN ak|exact lY eU ak ak|exact jH lV)) ?_|refine .q hs (aW rfl ae eU) ?_
      refine .z gS (.z zm ?_)
      refine .B3 (t':=97) rfl (fun hb97=>?_) (fun hb97=>?_)
      ·refine .gT rfl rfl ?_
       refine .z zm ?_
       refine .gT rfl rfl ?_
       refine .z zm ?_
       refine .gT rfl rfl ?_
       first|(refine .ixw hs aE aC ?_;intro b100 o100 hc100)|refine .z (zix aE aC) ?_
       refine .gT rfl rfl ?_
       first|refine .q hs (iw rfl an (hm:=by repeat (first|exact .here|assumption|exact Mem.row ak ak|refine .there ?_|refine Mem.sS ?_)) (hv:=by first|rfl|exact fN ak|exact lY eU ak ak|exact jH lV)) ?_|refine .q hs (aW rfl an eU) ?_
       refine .gT rfl rfl ?_
       refine .z zm ?_
       refine .gT rfl rfl ?_
       first|(refine .ixv hs af ai ?_;intro b103 o103 hc103)|refine .z (zix af ai) ?_
       refine .gT rfl rfl ?_
       first|refine .q hs (iw rfl ae (hm:=by repeat (first|exact .here|assumption|exact Mem.row ak ak|refine .there ?_|refine Mem.sS ?_)) (hv:=by first|rfl|exact fN ak|exact lY eU ak ak|exact jH lV)) ?_|refine .q hs (aW rfl ae eU) ?_
       refine .gT rfl rfl ?_
       refine .z gS (.z zpT (.nil ?_))
       refine (.ek rfl (fun hc106=>?_) (fun hc106=>?_))
       ·refine .draw mix rfl hs fun w hs=>?_
        replace u1:=u1 hb97;replace u2:=u2 hc106
        refine .z 0 rfl zm ?_;refine .z 1 rfl zm ?_
        first|(refine .ixw 2 rfl hs aE aC ?_;intro b109 o109 hc109)|refine .z 2 rfl (zix aE aC) ?_
        first|refine .load (i:=3) hs rfl aq .none rfl an ?_ (by repeat (first|exact .here|assumption|exact Mem.row ak ak|refine .there ?_|refine Mem.sS ?_)) (by first|rfl|exact fN ak|exact lY eU ak ak|exact jH lV)|refine .r (i:=3) hs rfl aq .none (aW rfl an eU) ?_
        refine .z 4 rfl zm ?_;refine .z 5 rfl zm ?_;refine .z 6 rfl zm ?_
        first|(refine .ixw 7 rfl hs aE aC ?_;intro b114 o114 hc114)|refine .z 7 rfl (zix aE aC) ?_
        first|refine .load (i:=8) hs rfl aq .none rfl an ?_ (by repeat (first|exact .here|assumption|exact Mem.row ak ak|refine .there ?_|refine Mem.sS ?_)) (by first|rfl|exact fN ak|exact lY eU ak ak|exact jH lV)|refine .r (i:=8) hs rfl aq .none (aW rfl an eU) ?_
        refine .z 9 rfl zm ?_
        first|(refine .ixv 10 rfl hs af ai ?_;intro b117 o117 hc117)|refine .z 10 rfl (zix af ai) ?_
        first|refine .load (i:=11) hs rfl aq .none rfl ae ?_ (by repeat (first|exact .here|assumption|exact Mem.row ak ak|refine .there ?_|refine Mem.sS ?_)) (by first|rfl|exact fN ak|exact lY eU ak ak|exact jH lV)|refine .r (i:=11) hs rfl aq .none (aW rfl ae eU) ?_
        refine .z 12 rfl zm ?_;refine .z 13 rfl zm ?_
        first|(refine .ixw 14 rfl hs aE aC ?_;intro b121 o121 hc121)|refine .z 14 rfl (zix aE aC) ?_
        first|refine .load (i:=15) hs rfl aq .none rfl an ?_ (by repeat (first|exact .here|assumption|exact Mem.row ak ak|refine .there ?_|refine Mem.sS ?_)) (by first|rfl|exact fN ak|exact lY eU ak ak|exact jH lV)|refine .r (i:=15) hs rfl aq .none (aW rfl an eU) ?_
        refine .z 16 rfl zm ?_
        first|(refine .ixv 17 rfl hs af ai ?_;intro b124 o124 hc124)|refine .z 17 rfl (zix af ai) ?_
        first|refine .load (i:=18) hs rfl aq .none rfl ae ?_ (by repeat (first|exact .here|assumption|exact Mem.row ak ak|refine .there ?_|refine Mem.sS ?_)) (by first|rfl|exact fN ak|exact lY eU ak ak|exact jH lV)|refine .r (i:=18) hs rfl aq .none (aW rfl ae eU) ?_
        refine .z 19 rfl zm ?_;refine .z 20 rfl zm ?_
        first|(refine .ixw 21 rfl hs aE aC ?_;intro b128 o128 hc128)|refine .z 21 rfl (zix aE aC) ?_
        first|refine .load (i:=22) hs rfl aq .none rfl an ?_ (by repeat (first|exact .here|assumption|exact Mem.row ak ak|refine .there ?_|refine Mem.sS ?_)) (by first|rfl|exact fN ak|exact lY eU ak ak|exact jH lV)|refine .r (i:=22) hs rfl aq .none (aW rfl an eU) ?_
        refine .z 23 rfl zm ?_
        first|(refine .ixv 24 rfl hs af ai ?_;intro b131 o131 hc131)|refine .z 24 rfl (zix af ai) ?_
        first|refine .load (i:=25) hs rfl aq .none rfl ae ?_ (by repeat (first|exact .here|assumption|exact Mem.row ak ak|refine .there ?_|refine Mem.sS ?_)) (by first|rfl|exact fN ak|exact lY eU ak ak|exact jH lV)|refine .r (i:=25) hs rfl aq .none (aW rfl ae eU) ?_
        refine .z 26 rfl cP ?_;refine .z 27 rfl Bk ?_;refine .z 28 rfl Cb ?_
        first|(refine .ixv 29 rfl hs af ai ?_;intro b136 o136 hc136)|refine .z 29 rfl (zix af ai) ?_
        refine .ET 30 hs ?_
        refine .store hs rfl rfl ai ?_ (.there (Upd.row _ ak ak)) (Bd (by rw [hq.2 _ hi];exact hk)) (zA _ _ _);intro w hs
        refine .go ?_
        refine .DT hs ?_
        refine nB (nT ?_)
        exact .mk ⟨rfl,_,hq.set hi _,by rw [F8 hq hi hk];exact hI.step hcb hm hi hk (fun a b h=>by omega) hb97 hc106,hs⟩
       ·refine .skip ?_
        refine nB (nT ?_)
        exact .mk ⟨rfl,rs,hq,hI.skip hcb hm (P:=fun a b=>a=i∧b=k) (fun a b h=>by omega) (fun a b _ _ h=>by obtain ⟨rfl,rfl⟩:=h;exact .inr hc106),hs⟩
      ·refine .gFs 8 8 true rfl rfl rfl ?_
       refine .z zpF (.nil ?_)
       refine (.cF ?_)
       refine .skip ?_
       refine nB (nT ?_)
       exact .mk ⟨rfl,rs,hq,hI.skip hcb hm (P:=fun a b=>a=i∧b=k) (fun a b h=>by omega) (fun a b _ _ h=>by obtain ⟨rfl,rfl⟩:=h;exact .inl hb97),hs⟩
     ·rintro fr w ⟨rfl,rs,hq,hI,hs⟩
      refine nB (nT ?_)
      exact .mk ⟨rfl,rs,hq,hI.skip hcb hm (P:=fun a b=>a=i∧n≤b) (fun a b h=>by omega) (fun a b _ hb h=>by omega),hs⟩
    ·rintro fr w ⟨rfl,rs,hq,hI,hs⟩
     replace hI:yb n s.di m (fun _ _=>True) (gt rs):=hI.skip hcb hm (P:=fun a _=>n≤a) (fun a b h=>by omega) (fun a b ha _ h=>by omega)
     refine nB (nT ?_)
     exact .mk ⟨rfl,rs,hq,fun h=>hI.next hcb h hn65,fun h=>hI.done hcb h.symm hn65,hs⟩
   ·rintro fr w ⟨rfl,rs,hq,-,hT,hs⟩
    replace hT:=hT rfl
    refine nT ?_
    refine .aj (.z zm (.z zg (.nil ?_)))
    refine .ret (Fin.bE Tryz.results207 rfl ?_)
    obtain ⟨H1,g1,g2,hs⟩:=xb hq hbl ak hs
    exact ⟨H1,rs,g1,g2,hq,hT,hs.tail⟩
theorem te{vm:Value}{rs:List (List Int)}{n:Nat}(hs:St H w σ)(hM:RT H vm rs)(hq:Sq n rs)(hn:n≤1000):
  Cl Tryz.prog 208 [vm] w fun v w'=>∃b,v= .bool b∧(b=true↔∀i,i<n→¬gt rs i i<0)∧St H w' σ:=by
 obtain ⟨a,c,rfl⟩:=hM.shape
 have hrl:=hq.1
 refine Cl.o Tryz.func208 Tryz.ntmps208 ag1 ?_
 refine .aj (.z zg (.nil (.seq (.aj (.z zm (.z (dp aE) (.z zm (.nil ?_))))))))
 refine .for (N:=rs.length) (J:=fun k fr w=>fr=[(0,.slice a rs.length c)]∧(∀i,i<k→¬gt rs i i<0)∧St H w σ) ak ?_ ?_ ?_
 ·exact .mk ⟨rfl,fun i h=>by omega,hs⟩
 ·rintro k fr w hk ⟨rfl,h0,hs⟩
  refine .block (.aj (.z zm (.z zg (.nil (.aj (.z zm (.z zm ?_)))))))
  refine .ixT hs hM rfl rfl aE aC hk rfl ?_;intro b11 o11 a11 c11 hc11 hR11
  refine .q hs (aW rfl an hc11) ?_
  refine .z zm ?_
  refine .ixY hs hR11 rfl rfl af ai (bU (l:=gr rs k) (i:=k) (by rw [hq.2 k ak];omega)) rfl ?_;intro b14 o14 hc14
  refine .q hs (aW rfl ae hc14) ?_
  refine .z iK (.nil ?_)
  refine (.bH rfl (fun hc16=>?_) (fun hc16=>?_))
  ·refine .aj (.z zg (.nil ?_))
   refine .ret (rB (rT (rB (rT (Fin.bE Tryz.results208 rfl ?_)))))
   exact ⟨false,rfl,⟨fun h=>(by cases h),fun h=>(h k ak hc16).elim⟩,hs⟩
  ·refine .skip ?_
   refine nB (nT ?_)
   exact .mk ⟨rfl,fun i hi=>by
    by_cases e:i=k
    ·subst e;exact hc16
    ·exact h0 i ak,hs⟩
 ·rintro fr w ⟨rfl,h0,hs⟩
  refine nT ?_
  refine .aj (.z zg (.nil ?_))
  refine .ret (Fin.bE Tryz.results208 rfl ?_)
  exact ⟨true,rfl,⟨fun _ i hi=>h0 i ak,fun _=>rfl⟩,hs⟩
theorem jk{p:Prop}[Decidable p]:(!decide p)=true↔¬p:=by simp
theorem iz{p:Prop}[Decidable p]:(!decide p)=false↔p:=by simp
theorem fj{a0 a1 a2:Int}(hs:St H w σ):Cl Tryz.prog 253 [I a0,I a1,I a2] w fun v w'=>v= .bool (decide (a1≤a0∧a0≤a2))∧St H w' σ:=by
 refine Cl.o Tryz.func253 Tryz.ntmps253 ag3 ?_
 refine .aj (.z zg (.nil (.aj (.z zm (.z zm (.z oF (.z zm ?_)))))))
 refine .iW (t':=10) rfl (fun hb10=>?_) (fun hb10=>?_)
 ·refine .gT rfl rfl ?_
  refine .z zm ?_
  refine .gT rfl rfl ?_
  refine .z zm ?_
  refine .gT rfl rfl ?_
  refine .z oF (.z zpT (.z zg (.nil ?_)))
  refine .ret (Fin.bE Tryz.results253 rfl ?_)
  exact ⟨by simp [*],hs.out⟩
 ·refine .gFs 3 3 true rfl rfl rfl ?_
  refine .z zpF (.z zg (.nil ?_))
  refine .ret (Fin.bE Tryz.results253 rfl ?_)
  exact ⟨by simp [*],hs.out⟩
theorem nG{many:Int}{l:Lim}(hs:St H w σ):Cl Tryz.prog 256 [I many,.agg l.c.toArray] w fun v w'=>v=I (if decide (0≤many∧many≤64)&&l.ok many then 0 else 20)∧St H w' σ:=by
 refine Cl.o Tryz.func256 Tryz.ntmps256 ag2 ?_
 refine .aj ?_
 refine .bx hs fun b3 w hs=>?_
 refine .z zg (.nil (.seq (.aj (.z zm ?_))))
 refine .o (.call BX rfl (fj hs) ?_);rintro _ w ⟨rfl,hs⟩
 refine .z fW (.z zm ?_)
 refine .bif (t':=8) rfl (fun hb8=>?_) (fun hb8=>?_)
 ·refine .gFs 5 3 false rfl rfl rfl ?_
  refine .z zpT (.z zm ?_)
  refine .gFs 5 10 false rfl rfl rfl ?_
  refine .z zpT (.z zm ?_)
  refine .gFs 5 17 false rfl rfl rfl ?_
  refine .z zpT (.z zm ?_)
  refine .gFs 4 24 false rfl rfl rfl ?_
  refine .z zpT (.z zm ?_)
  refine .gFs 4 30 false rfl rfl rfl ?_
  refine .z zpT (.nil ?_)
  refine (.cT ?_)
  refine .aj (.z zg (.nil ?_))
  refine .ret (rT (Fin.bE mX rfl ?_))
  (try simp only [jk] at*)
  (try simp only [iz] at*)
  refine ⟨congrArg I ?_,hs.out⟩
  unfold Lim.ok
  first
   |(rw [if_pos (by simp only [Bool.and_eq_true,decide_eq_true_eq];omega)];done)
   |(rw [if_neg (by simp only [Bool.and_eq_true,decide_eq_true_eq];omega)];done)
 ·refine .gT rfl rfl ?_
  refine .z (zfa eo) ?_
  refine .gT rfl rfl ?_
  refine .y hs (zld ae) ?_
  refine .gT rfl rfl ?_
  refine .z zm ?_
  refine .gT rfl rfl ?_
  refine .o (.call BX rfl (fj hs) ?_);rintro _ w ⟨rfl,hs⟩
  refine .gT rfl rfl ?_
  refine .z fW (.z zpF (.z zm ?_))
  refine .bif (t':=15) rfl (fun hb15=>?_) (fun hb15=>?_)
  ·refine .gFs 5 10 false rfl rfl rfl ?_
   refine .z zpT (.z zm ?_)
   refine .gFs 5 17 false rfl rfl rfl ?_
   refine .z zpT (.z zm ?_)
   refine .gFs 4 24 false rfl rfl rfl ?_
   refine .z zpT (.z zm ?_)
   refine .gFs 4 30 false rfl rfl rfl ?_
   refine .z zpT (.nil ?_)
   refine (.cT ?_)
   refine .aj (.z zg (.nil ?_))
   refine .ret (rT (Fin.bE mX rfl ?_))
   (try simp only [jk] at*)
   (try simp only [iz] at*)
   refine ⟨congrArg I ?_,hs.out⟩
   unfold Lim.ok
   first
    |(rw [if_pos (by simp only [Bool.and_eq_true,decide_eq_true_eq];omega)];done)
    |(rw [if_neg (by simp only [Bool.and_eq_true,decide_eq_true_eq];omega)];done)
  ·refine .gT rfl rfl ?_
   refine .z (zfa eO) ?_
   refine .gT rfl rfl ?_
   refine .y hs (zld ae) ?_
   refine .gT rfl rfl ?_
   refine .z zm ?_
   refine .gT rfl rfl ?_
   refine .o (.call BX rfl (fj hs) ?_);rintro _ w ⟨rfl,hs⟩
   refine .gT rfl rfl ?_
   refine .z fW (.z zpF (.z zm ?_))
   refine .bif (t':=22) rfl (fun hb22=>?_) (fun hb22=>?_)
   ·refine .gFs 5 17 false rfl rfl rfl ?_
    refine .z zpT (.z zm ?_)
    refine .gFs 4 24 false rfl rfl rfl ?_
    refine .z zpT (.z zm ?_)
    refine .gFs 4 30 false rfl rfl rfl ?_
    refine .z zpT (.nil ?_)
    refine (.cT ?_)
    refine .aj (.z zg (.nil ?_))
    refine .ret (rT (Fin.bE mX rfl ?_))
    (try simp only [jk] at*)
    (try simp only [iz] at*)
    refine ⟨congrArg I ?_,hs.out⟩
    unfold Lim.ok
    first
     |(rw [if_pos (by simp only [Bool.and_eq_true,decide_eq_true_eq];omega)];done)
     |(rw [if_neg (by simp only [Bool.and_eq_true,decide_eq_true_eq];omega)];done)
   ·refine .gT rfl rfl ?_
    refine .z (zfa eo) ?_
    refine .gT rfl rfl ?_
    refine .y hs (zld ae) ?_
    refine .gT rfl rfl ?_
    refine .z (zfa eO) ?_
    refine .gT rfl rfl ?_
    refine .y hs (zld ae) ?_
    refine .gT rfl rfl ?_
    refine .z gj (.z zpF (.z zm ?_))
    refine .iW (t':=29) rfl (fun hb29=>?_) (fun hb29=>?_)
    ·refine .gFs 4 24 false rfl rfl rfl ?_
     refine .z zpT (.z zm ?_)
     refine .gFs 4 30 false rfl rfl rfl ?_
     refine .z zpT (.nil ?_)
     refine (.cT ?_)
     refine .aj (.z zg (.nil ?_))
     refine .ret (rT (Fin.bE mX rfl ?_))
     (try simp only [jk] at*)
     (try simp only [iz] at*)
     refine ⟨congrArg I ?_,hs.out⟩
     unfold Lim.ok
     first
      |(rw [if_pos (by simp only [Bool.and_eq_true,decide_eq_true_eq];omega)];done)
      |(rw [if_neg (by simp only [Bool.and_eq_true,decide_eq_true_eq];omega)];done)
    ·refine .gT rfl rfl ?_
     refine .z (zfa fP) ?_
     refine .gT rfl rfl ?_
     refine .y hs (zld ae) ?_
     refine .gT rfl rfl ?_
     refine .o (.call BX rfl (fj hs) ?_);rintro _ w ⟨rfl,hs⟩
     refine .gT rfl rfl ?_
     refine .z fW (.z zpF (.z zm ?_))
     refine .bif (t':=35) rfl (fun hb35=>?_) (fun hb35=>?_)
     ·refine .gFs 4 30 false rfl rfl rfl ?_
      refine .z zpT (.nil ?_)
      refine (.cT ?_)
      refine .aj (.z zg (.nil ?_))
      refine .ret (rT (Fin.bE mX rfl ?_))
      (try simp only [jk] at*)
      (try simp only [iz] at*)
      refine ⟨congrArg I ?_,hs.out⟩
      unfold Lim.ok
      first
       |(rw [if_pos (by simp only [Bool.and_eq_true,decide_eq_true_eq];omega)];done)
       |(rw [if_neg (by simp only [Bool.and_eq_true,decide_eq_true_eq];omega)];done)
     ·refine .gT rfl rfl ?_
      refine .z (zfa jT) ?_
      refine .gT rfl rfl ?_
      refine .y hs (zld ae) ?_
      refine .gT rfl rfl ?_
      refine .o (.call BX rfl (fj hs) ?_);rintro _ w ⟨rfl,hs⟩
      refine .gT rfl rfl ?_
      refine .z fW (.z zpF (.nil ?_))
      refine (.cond rfl (fun hc40=>?_) (fun hc40=>?_))
      ·refine .aj (.z zg (.nil ?_))
       refine .ret (rT (Fin.bE mX rfl ?_))
       (try simp only [jk] at*)
       (try simp only [iz] at*)
       refine ⟨congrArg I ?_,hs.out⟩
       unfold Lim.ok
       first
        |(rw [if_pos (by simp only [Bool.and_eq_true,decide_eq_true_eq];omega)];done)
        |(rw [if_neg (by simp only [Bool.and_eq_true,decide_eq_true_eq];omega)];done)
      ·refine .skip ?_
       refine nT ?_
       refine .aj (.z zg (.nil ?_))
       refine .ret (Fin.bE mX rfl ?_)
       (try simp only [jk] at*)
       (try simp only [iz] at*)
       refine ⟨congrArg I ?_,hs.out⟩
       unfold Lim.ok
       first
        |(rw [if_pos (by simp only [Bool.and_eq_true,decide_eq_true_eq];omega)];done)
        |(rw [if_neg (by simp only [Bool.and_eq_true,decide_eq_true_eq];omega)];done)
theorem tf{v:Value}{s:cU}(hs:St H w σ)(hr:RSy H v s):Cl Tryz.prog 206 [v] w fun v w'=>v=I s.check∧St H w' σ:=by
 obtain ⟨u,rfl,hr⟩:=hr
 obtain ⟨a,c,rfl⟩:=RL.shape hr
 have hlen:=(RS.len (RS.Ja hr (Nat.le_refl _) (cap':=s.cH.length))).2.2
 refine Cl.o Tryz.func206 Tryz.ntmps206 ag1 ?_
 refine .aj ?_
 refine .bx hs fun b1 w hs=>?_
 refine .z zg (.nil (.seq (.aj (.z (zfa cA) (.y hs (zld ae) ?_)))))
 refine .o (.call BX rfl (fj hs) ?_);rintro _ w ⟨rfl,hs⟩
 refine .z fW (.nil ?_)
 refine (.cond rfl (fun hc8=>?_) (fun hc8=>?_))
 ·refine .aj (.z zg (.nil ?_))
  refine .ret (rT (Fin.bE Tryz.results206 rfl ?_))
  exact ⟨congrArg I (by unfold cU.check;rw [if_pos (by simp at hc8;omega)]),hs.out⟩
 ·refine .skip ?_
  refine nT ?_
  refine .seq (.aj (.z (zfa cf) (.y hs (zld dj) (.z (dp aU) (.z mI (.nil ?_))))))
  refine (.bH rfl (fun hc12=>?_) (fun hc12=>?_))
  ·refine .aj (.z zg (.nil ?_))
   refine .ret (rT (Fin.bE Tryz.results206 rfl ?_))
   exact ⟨congrArg I (by unfold cU.check;rw [if_neg (by simpa using hc8),if_pos ak]),hs.out⟩
  ·refine .skip ?_
   refine nT ?_
   refine .seq (.aj (.z (zfa cf) (.y hs (zld dj) (.z (dp aU) (.z zm (.nil ?_))))))
   refine .for (N:=s.cH.length) (J:=fun k fr w=>fr=[(14,.slice a s.cH.length c),(1,.pointer (some ⟨b1,0,none⟩))]∧(∀j<k,∀l,s.cH[j]? =some l→l.ok s.many=true)∧St H w (.blk b1 [I s.many,.slice a s.cH.length c]::σ)) ak ?_ ?_ ?_
   ·exact .mk ⟨rfl,fun j hj=>by omega,hs⟩
   ·rintro k fr w hk ⟨rfl,hno,hs⟩
    obtain ⟨x,hx⟩:=nth (l:=s.cH) hk
    refine .block (.aj ?_)
    refine .ixX (enc:=Lim.c) hs hr rfl rfl aU bq hx rfl ?_;intro b18 o18 hc18
    refine .q hs (bY (vs:=x.c) rfl fu bq hc18) ?_
    refine .o (.alloc hs ef rfl fun b4 w hs=>?_)
    refine .o (.aP (vs:=x.c) hs rfl rfl bq fun w hs=>?_)
    refine .nil (.aj (.z (zfa cA) (.y hs (zld ae) ?_)))
    refine .q hs (kV (vs:=x.c) rfl fu bq) ?_
    refine .o (.call Tryz.call256 rfl (nG hs) ?_);rintro _ w ⟨rfl,hs⟩
    have hmm:0≤s.many∧s.many≤64:=by simpa using hc8
    rw [show (decide (0≤s.many∧s.many≤64)&&x.ok s.many)=x.ok s.many by rw [decide_eq_true hmm];rfl]
    refine .z gS (.nil ?_)
    refine (.ek rfl (fun hc24=>?_) (fun hc24=>?_))
    ·refine .aj (.z zg (.nil ?_))
     refine .ret (rB (rT (rB (rT (Fin.bE Tryz.results206 rfl ?_)))))
     exact ⟨congrArg I (by
      have hx0:x.ok s.many=false:=by cases e:x.ok s.many with|false=>rfl|true=>rw [e] at hc24;simp at hc24
      unfold cU.check;rw [if_neg (by simpa using hc8),if_neg ak,if_pos (List.any_eq_true.2 ⟨x,List.mem_of_getElem? hx,by rw [hx0];rfl⟩)]),hs.out⟩
    ·refine .skip ?_
     refine nB (nT ?_)
     exact .mk ⟨rfl,fm hno hx (by cases e:x.ok s.many with|true=>rfl|false=>rw [e] at hc24;simp at hc24),hs.tail⟩
   ·rintro fr w ⟨rfl,hno,hs⟩
    refine nT ?_
    refine .aj (.z zg (.nil ?_))
    refine .ret (Fin.bE Tryz.results206 rfl ?_)
    exact ⟨congrArg I (by
     have hall:(s.cH.any fun l=> !l.ok s.many)=false:=by
      simp only [List.any_eq_false,Bool.not_eq_true',Bool.not_eq_false]
      intro l hl
      obtain ⟨j,hj⟩:=List.getElem?_of_mem hl
      exact hno j (List.getElem?_eq_some_iff.1 hj).1 l hj
     unfold cU.check;rw [if_neg (by simpa using hc8),if_neg ak,hall];rfl),hs.out⟩
theorem lC{v:Value}{l:List Int}{en:Ent}(hs:St H w (en::σ))(ho:cI 1 v (Is l) en)(hl:l.length≤1000000):
  Cl Tryz.prog 270 [v] w fun _ w'=>∃en',cI 1 v (Is l.reverse) en'∧St H w' (en'::σ):=by
 rcases ho with ⟨a,rfl,h2,rfl⟩|⟨b,len,cap,sp,rfl,rfl,h2,h3,h4⟩
 ·obtain rfl:l=[]:=by
   have:=congrArg List.length h2
   exact List.length_eq_zero_iff.1 (by simpa using this)
  have hs:=hs.tail
  refine Cl.o Tryz.func270 Tryz.ntmps270 ag1 ?_
  refine .aj (.z zm (.z (dp af) (.z gM (.z zg (.z zg (.nil (.block ?_)))))))
  refine .loop (fun _:Unit=>⟨28,[],[(2,I 0),(3,I (-1))]⟩) (fun _ w=>St H w σ) (fun _=>0) () bj hs ?_
  rintro _ w hs
  refine .seq (.aj (.z zm (.z zm (.z iK (.nil ?_)))))
  refine (.bH rfl (fun hc9=>?_) (fun hc9=>?_))
  ·omega
  ·refine .exit ?_
   refine xT (xT (xB ?_))
   exact Fin.zh Tryz.results270 ⟨.nul,.nil 1 a,hs.nul⟩
 obtain rfl:len=l.length:=by simpa using h2.symm
 refine Cl.o Tryz.func270 Tryz.ntmps270 ag1 ?_
 refine .aj (.z zm (.z (dp af) (.z gM (.z zg (.z zg (.nil (.block ?_)))))))
 refine .loop (fun p:Nat×List Int=>⟨28,[],[(2,I p.1),(3,I ((l.length:Int) - 1 - p.1)),(0,.slice (some ⟨b,0,none⟩) l.length cap)]⟩) (fun p w=>(2*p.1≤l.length+1∧ot l p.2 p.1)∧St H w (.blk b (Is p.2++sp)::σ)) (fun p=>l.length - p.1) (0,l) (.cons rfl (.dD rfl cu (.cons rfl (.nil rfl rfl)))) ⟨⟨cu,.start l⟩,hs⟩ ?_
 rintro ⟨i,L⟩ w ⟨⟨h5,h6⟩,hs⟩
 dsimp only at h5 h6 hs ⊢
 have hL:=h6.1
 refine .seq (.aj (.z zm (.z zm (.z iK (.nil ?_)))))
 refine (.bH rfl (fun hc9=>?_) (fun hc9=>?_))
 ·refine .skip ?_
  refine nT ?_
  refine .seq (.block ?_)
  refine .draw mix rfl hs fun w hs=>?_
  refine .z 0 rfl zm ?_;refine .z 1 rfl zm ?_;refine .z 2 rfl zm ?_;refine .z 3 rfl zm ?_;refine .z 4 rfl zm ?_;refine .z 5 rfl zm ?_
  refine .z 6 rfl (lh (k:=l.length - 1 - i) rfl rfl af ai ak ak) ?_
  refine .load (i:=7) hs rfl aq .none rfl ae ?_ (hv:=fM ak sp)
  refine .z 8 rfl zm ?_;refine .z 9 rfl zm ?_
  first|(refine .ixv 10 rfl hs af ai ?_;intro b24 o24 hc24)|refine .z 10 rfl (zix af ai) ?_
  refine .load (i:=11) hs rfl aq .none rfl ae ?_ (hv:=fM ak sp)
  first|(refine .ixv 12 rfl hs af ai ?_;intro b26 o26 hc26)|refine .z 12 rfl (zix af ai) ?_
  refine .E 13 hs ?_
  refine .store hs rfl rfl ai ?_ dE (by simp;omega) (jF ak sp _);intro w hs
  refine .go ?_
  refine .z 14 rfl (lh (k:=l.length - 1 - i) rfl rfl af ai ak ak) ?_
  refine .E 15 hs ?_
  refine .store hs rfl rfl ai ?_ dE (by simp;omega) (jF (by simp;omega) sp _);intro w hs
  refine .go ?_
  refine .D hs ?_
  refine nB (nT ?_)
  refine .region (.z zm (.z cP (.z zm (.z gM (.z zg (.z zg (.nil ?_)))))))
  refine nT ?_
  exact ⟨(i+1,_),.cons rfl (.dD rfl (by push_cast;omega) (.cons rfl (.nil rfl rfl))),⟨⟨by dsimp only;omega,h6.step ak⟩,hs⟩,by dsimp only;omega⟩
 ·refine .exit ?_
  refine xT (xT (xB ?_))
  rw [h6.done ak] at hs
  exact Fin.zh Tryz.results270 ⟨_,.inr ⟨b,l.length,cap,sp,rfl,rfl,cu,by rw [←h3];simp,h4⟩,hs⟩
inductive Gj(s:cU)(xs:List Int):Int→Prop
 |bad (h:s.check≠0) (h1:xs=[]):Gj s xs s.check
 |sound (h:s.Ok) (h1:s.Sound) (h2:xs=[]):Gj s xs 0
 |chain {st:BS} {x:Arc} {z k:Nat} (h:s.Ok) (h1:¬s.Sound) (h2:IK s.n s.di st (some x)) (h3:z=pR st.by_ x.t (s.n+1)) (h4:1≤k) (h5:k≤s.n) (h6:pR st.by_ z k=z) (h7:xs=(xx st.by_ z k).reverse):Gj s xs 0
theorem Gj.Ct{s:cU}{xs:List Int}(h:Gj s xs 0):xs=[]↔s.Sound:=by
 generalize hz:(0:Int)=y at h
 cases h with
 |bad h=>exact (h hz.symm).elim
 |sound _ h1 h2=>exact ⟨fun _=>h1,fun _=>h2⟩
 | @chain st x z k _ h1 _ _ h4 _ _ h7=>exact ⟨fun h=>by
   have:=congrArg List.length (h7.symm.trans h)
   rw [List.length_reverse,nP] at this
   simp at this;omega,fun h=>(h1 h).elim⟩
theorem Gj.err{s:cU}{xs:List Int}{e:Int}(h:Gj s xs e):e=s.check:=by
 cases h with
 |bad=>rfl
 |sound h=>exact (s.dF.2 h).symm
 |chain h=>exact (s.dF.2 h).symm
set_option maxHeartbeats 4000000 in
theorem tr{v:Value}{s:cU}(hs:St H w σ)(hr:RSy H v s):
  Cl Tryz.prog 221 [v] w fun u w'=>∃H1 vx xs e,HLe H H1∧u= .tuple #[vx,I e]∧RI H1 vx xs∧Gj s xs e∧St H1 w' σ:=by
 obtain ⟨u,rfl,hr⟩:=hr
 obtain ⟨al,cl,rfl⟩:=RL.shape hr
 refine Cl.o Tryz.func221 Tryz.ntmps221 ag1 ?_
 refine .aj ?_
 refine .bx hs fun b1 w hs=>?_
 refine .z zg (.z zg (.nil (.seq (.aj (.y hs (zls [_,_] bG aN) ?_)))))
 refine .o (.call Tryz.call197 rfl (je (s:=s) hs ⟨_,rfl,hr⟩) ?_);rintro _ w ⟨rfl,hs⟩
 refine .z zg (.nil (.aj (.z zm (.z gS (.nil ?_)))))
 refine (.ek rfl (fun hc14=>?_) (fun hc14=>?_))
 ·refine .aj (.z zm (.z zg (.z zg (.nil ?_))))
  refine .ret (rT (Fin.iq Tryz.results221 rfl rfl ?_))
  exact ⟨H,_,[],_,HLe.refl H,rfl,RS.nil H 1 none 0,.bad hc14 rfl,hs.out⟩
 ·refine .skip ?_
  refine nT ?_
  refine .seq (.draw mix rfl hs fun w hs=>?_)
  refine .z 0 rfl (zfa cA) ?_;refine .y 1 rfl hs ae ?_;refine .ys 2 rfl hs [_,_] bG aN ?_
  refine .E 3 hs ?_
  have hok:s.Ok:=s.dF.1 (by simpa using hc14)
  have hoka:=hok.di
  have hn:s.n=s.many.toNat+1:=rfl
  have hm0:=hok.m0
  have hm1:=hok.m1
  refine .call Tryz.call269 rfl (kn (s:=s) hs hok ⟨_,rfl,hr⟩) ?_;rintro _ w ⟨H1,b10,hle1,rfl,hit,hs⟩
  refine .go ?_
  refine .E 4 hs ?_
  have hnear:=lK (N:=s.many.toNat) hs ak (by rw [←hn];exact hoka) hit Tryz.call295
  rw [Int.toNat_of_nonneg hm0] at hnear
  refine .call Tryz.call225 rfl hnear ?_;rintro _ w ⟨H2,bc,bb,st,ov,vo,hle2,rfl,hov,hnr,hs⟩
  obtain ⟨a',rfl,ha'⟩:=hov.ptr
  refine .go ?_
  refine .z 5 rfl zm ?_;refine .z 6 rfl zex ?_;refine .z 7 rfl zex ?_;refine .z 8 rfl zex ?_;refine .z 9 rfl zg ?_;refine .z 10 rfl zg ?_;refine .z 11 rfl zg ?_;refine .D hs ?_
  refine .seq (.aj (.z zm ?_))
  refine .q hs (CM rfl rfl Tryz.runUnderlying268) ?_
  refine .nil ?_
  refine (.cond rfl (fun hc26=>?_) (fun hc26=>?_))
  ·refine .aj (.z zg (.z zg (.nil ?_)))
   refine .ret (rT (Fin.iq Tryz.results221 rfl rfl ?_))
   exact ⟨H2,_,[],0,hle1.trans hle2,rfl,RS.nil H2 1 none 0,.sound hok (by
    obtain ⟨r,hN2,hr2⟩:=hnr
    cases ov with
    |none=>exact ⟨_,(hN2.sol (by rw [←hn];exact hoka) ak).1⟩
    |some x=>rw [ha'] at hc26;cases hc26) rfl,hs.out⟩
  ·refine .skip ?_
   refine nT ?_
   refine .aj (.z zm ?_)
   obtain ⟨x,rfl⟩:=OvR.yes ha' hc26
   obtain ⟨b3,e3,hrow⟩:=hov
   cases e3
   have hrowT:cellAt H2 b3 1=some (I x.t):=hrow.at 1
   have hmn:s.many+2=((s.many.toNat+2:Nat):Int):=by omega
   have hns:¬s.Sound:=by
    obtain ⟨r,hN2,hr2⟩:=hnr
    exact hN2.none (by rw [←hn];exact hoka) ak (by have:=hr2 cu;omega)
   obtain ⟨hlb,hrg,hxt⟩:st.by_.length=s.many.toNat+1∧(∀v<s.many.toNat+1,(ga st.by_ v).f<s.many.toNat+1)∧x.t<s.many.toNat+1:=by
    obtain ⟨r,hN2,hr2⟩:=hnr
    exact ⟨hN2.lb,fun v hv=>(hN2.rg v hv).1,(hoka.2 x (hN2.ovm x rfl)).2.1⟩
   have hpl:=fun k=>xm hrg hxt k
   refine .z znc (.z (zfa dB) ?_)
   refine .q hs (aW rfl ae hrowT) ?_
   refine .z zg (.nil (.seq (.aj (.z (zfa cA) (.y hs (zld ae) (.z cP ?_))))))
   rw [hmn]
   refine .z zm (.nil ?_)
   refine .for (N:=s.many.toNat+2) (J:=fun k fr w=>fr=[(8,I (pR st.by_ x.t k)),(6,.slice (some ⟨bb,0,none⟩) (s.many.toNat+1) (s.many.toNat+1))]∧St H2 w (.blk bc (Is st.cost):: .blk bb (jG st.by_):: .blk b1 [I s.many,.slice al s.cH.length cl]::σ)) ak ?_ ?_ ?_
   ·exact .mk ⟨rfl,hs⟩
   ·rintro k fr w hk ⟨rfl,hs⟩
    refine .block (.region (.z zm (.z zm ?_)))
    refine .q hs (wy (k:=pR st.by_ x.t k) rfl rfl aB aI rfl (hpl k)) ?_
    refine .z (zfa du) ?_
    refine .q hs (iw rfl ae (.there .here) (rq (j:=0) (by rw [hlb];exact hpl k) dO)) ?_
    refine .z zg (.nil ?_)
    refine nB (nT ?_)
    exact .mk ⟨rfl,hs.out⟩
   ·rintro fr w ⟨rfl,hs⟩
    obtain ⟨pd,hp1,hp2,hp3⟩:=BD hrg hxt (m:=s.many.toNat+2) ak
    have hzl:=hpl (s.many.toNat+2)
    generalize hz:pR st.by_ x.t (s.many.toNat+2)=z at hp3 hzl ⊢
    have hzk:=fun k=>xm hrg hzl k
    refine nT ?_
    refine .aj (.z zg (.nil (.seq (.aj (.z zm (.z zg (.nil (.block ?_))))))))
    refine .loop (fun p:Nat×Value=>⟨62,[],[(9,p.2),(8,I (pR st.by_ z p.1)),(10,I z),(6,.slice (some ⟨bb,0,none⟩) (s.many.toNat+1) (s.many.toNat+1))]⟩)
     (fun p w=>p.1<pd∧∃en,cI 1 p.2 (Is (xx st.by_ z p.1)) en∧St H2 w (en:: .blk bc (Is st.cost):: .blk bb (jG st.by_):: .blk b1 [I s.many,.slice al s.cH.length cl]::σ))
     (fun p=>pd - p.1) (0,.slice none 0 0) bj
     ⟨ak,_,.nil 1 none,hs.nul⟩ ?_
    rintro ⟨k,v9⟩ w ⟨hk,en,hO,hs⟩
    dsimp only at hk hO ⊢
    refine .block (.aj (.z zm (.z zm (.z zm ?_))))
    refine .q hs (wy (k:=pR st.by_ z k) rfl rfl aB aI rfl (hzk k)) ?_
    refine .z (zfa dW) ?_
    refine .q hs (iw rfl ae (.there (.there .here)) (rq (j:=3) (by rw [hlb];exact hzk k) dO)) ?_
    refine .o (.buildSlice (cells:=[_]) hs dk rfl rfl fun b49 w hs=>?_)
    refine .o (.append (ys:=[I (ga st.by_ (pR st.by_ z k)).l]) hs df rfl rfl hO (.own .here rfl rfl) (by simp [Value.oneCell']) (fun l' h=>by simp [xx] at h;omega) ?_);intro v50 en50 w hO2 hs
    refine .z zg (.nil (.aj (.z zm (.z zm ?_))))
    refine .q hs (wy (k:=pR st.by_ z k) rfl rfl aB aI rfl (hzk k)) ?_
    refine .z (zfa du) ?_
    refine .q hs (iw rfl ae (by repeat (first|exact .here|refine .there ?_)) (rq (j:=0) (by rw [hlb];exact hzk k) dO)) ?_
    refine .z zg (.nil (.aj (.z zm (.z zm (.z gj (.nil ?_))))))
    refine (.bH rfl (fun hc58=>?_) (fun hc58=>?_))
    ·refine .exit ?_
     refine xN (xT (xB (nT ?_)))
     refine .aj (.z zm ?_)
     have hO3:cI 1 v50 (Is (xx st.by_ z (k+1))) en50:=by rw [wF];simpa [Is] using hO2
     have hkz:pR st.by_ z (k+1)=z:=by
      have h3:((ga st.by_ (pR st.by_ z k)).f:Int)=z:=by simpa using hc58
      show (ga st.by_ (pR st.by_ z k)).f=z
      omega
     refine .o (.call Tryz.call270 rfl (lC hs hO3 (by rw [nP];omega)) ?_);rintro _ w ⟨en',hO4,hs⟩
     refine .nil (.aj (.z zm (.z zg (.z zg (.nil ?_)))))
     refine .ret (Fin.iq Tryz.results221 rfl rfl ?_)
     obtain ⟨H3,hle3,hRI,hs⟩:=cI.eJ hO4 (by rw [List.length_reverse,nP];omega) hs .here
     exact ⟨H3,_,_,0,hle1.trans (hle2.trans hle3),rfl,hRI,.chain hok hns (by rw [hn];exact hnr) (by rw [hn];exact hz.symm) ak ak hkz rfl,hs.sb⟩
    ·refine .skip ?_
     refine nB (nT ?_)
     exact ⟨(k+1,v50),bj,⟨by
      dsimp only
      have:k+1≠pd:=fun e=>hc58 (congrArg (Nat.cast:Nat→Int) (show pR st.by_ z (k+1)=z by rw [e];exact hp3))
      omega,en50,by rw [wF];simpa [Is] using hO2,hs.sb⟩,by dsimp only;omega⟩
end Go.Proofs.YteajddicacjkhaaGreat
namespace Go.Proofs.YteajddicacjkhaaGreat
open Go.MW
inductive DV(a:kI)(l:List Prb)(vs:List Int):Int→Prop
 |ask {e:Int} (h:tA a l e) (he:e≠0):DV a l vs e
 |size (h:tA a l 0) (h1:vs.length≠l.length):DV a l vs 92
 |ok (h:tA a l 0) (h1:vs.length=l.length):DV a l vs 0
theorem DV.zero{a:kI}{l:List Prb}{vs:List Int}(h:DV a l vs 0):tA a l 0∧vs.length=l.length:=by
 generalize hz:(0:Int)=y at h
 cases h with
 |ask _ he=>exact (he hz.symm).elim
 |size=>omega
 |ok h h1=>exact ⟨h,h1⟩
end Go.Proofs.YteajddicacjkhaaGreat
namespace Go.Proofs.YteajddicacjkhaaGreat
open Go.MW
variable{H:bV}{w:World}{σ:List Ent}
structure DQ(s:cU)(x:List Int):Prop where
 len:x.length=s.n
 zero:gi x 0=0
 free:∀v<s.n,-1000000000≤gi x v∧gi x v≤1000000000
 zK:fB s.di (gi x)
theorem mL{v:Value}{s:cU}(hs:St H w σ)(hr:RSy H v s):
  Cl Tryz.prog 147 [v] w fun u w'=>∃H1 vt e,HLe H H1∧u= .tuple #[vt,I e]∧((s.check≠0∧e=s.check∧vt= .slice none 0 0)∨(s.Ok∧¬s.Sound∧e=23∧vt= .slice none 0 0)∨(s.Ok∧s.Sound∧e=0∧∃rs,RT H1 vt rs∧Sq s.n rs∧jv s.n s.di (gt rs)))∧St H1 w' σ:=by
 obtain ⟨ul,rfl,hl⟩:=hr
 obtain ⟨al,cl,rfl⟩:=RL.shape hl
 refine Cl.o Tryz.func147 Tryz.ntmps147 ag1 ?_
 refine .aj ?_
 refine .bx hs fun b1 w hs=>?_
 refine .z zg (.z zg (.nil (.aj (.y hs (zls [_,_] bG aN) ?_))))
 refine .o (.call Tryz.call206 rfl (tf (s:=s) hs ⟨_,rfl,hl⟩) ?_);rintro _ w ⟨rfl,hs⟩
 refine .z zg (.nil (.seq (.aj (.z zm (.z gS (.nil ?_))))))
 refine (.ek rfl (fun hc9=>?_) (fun hc9=>?_))
 ·refine .aj (.z zm (.z zg (.z zg (.nil ?_))))
  refine .ret (rT (Fin.iq Tryz.results147 rfl rfl ?_))
  exact ⟨H,_,_,HLe.refl H,rfl,.inl ⟨hc9,rfl,rfl⟩,hs.out⟩
 ·refine .skip ?_
  refine nT ?_
  refine .aj (.y hs (zls [_,_] bG aN) ?_)
  have hok:s.Ok:=s.dF.1 (by simpa using hc9)
  have hm1:=hok.m1
  refine .o (.call Tryz.call207 rfl (uD (s:=s) hs ⟨_,rfl,hl⟩ hok) ?_);rintro v12 w ⟨H1,rs,hle1,hRT,hSq,hWT,hs⟩
  obtain ⟨at',ct,rfl⟩:=hRT.shape
  refine .z zg (.nil (.seq (.aj (.z zm ?_))))
  refine .o (.call Tryz.call208 rfl (te hs hRT hSq (by simp only [cU.n];omega)) ?_);rintro _ w ⟨b,rfl,hb,hs⟩
  have hbs:=hb.trans (Bq hok hWT).symm
  refine .z fW (.nil ?_)
  refine (.cond rfl (fun hc15=>?_) (fun hc15=>?_))
  ·refine .aj (.z zg (.z zg (.nil ?_)))
   refine .ret (rT (Fin.iq Tryz.results147 rfl rfl ?_))
   exact ⟨H1,_,_,hle1,rfl,.inr (.inl ⟨hok,fun h=>by simp [hbs.2 h] at hc15,rfl,rfl⟩),hs.out⟩
  ·refine .skip ?_
   refine nT ?_
   refine .aj (.z zm (.z zg (.z zg (.nil ?_))))
   refine .ret (Fin.iq Tryz.results147 rfl rfl ?_)
   exact ⟨H1,_,_,hle1,rfl,.inr (.inr ⟨hok,hbs.1 (by simpa using hc15),rfl,rs,hRT,hSq,hWT⟩),hs.out⟩
end Go.Proofs.YteajddicacjkhaaGreat
namespace Go.Proofs.YteajddicacjkhaaGreat
open Go.MW
inductive I1(s:cU)(x:List Int):Int→Prop
 |bad (h:s.check≠0):I1 s x s.check
 |off (h:s.Ok) (h1:¬DQ s x):I1 s x 25
 |ok (h:s.Ok) (h1:DQ s x):I1 s x 0
end Go.Proofs.YteajddicacjkhaaGreat
namespace Go.Proofs.YteajddicacjkhaaGreat
open Go.MW
variable{H:bV}{w:World}{σ:List Ent}
theorem xW{v:Value}{ls:List Int}{g:Nat}{cap:List Value}{q:Int→Prop}(hs:St H w σ)(hr:RI H v ls)
  (hc:∀args w,(callFunc g args).run Tryz.prog w= .ok (.enter g args) w) (hp:∀w l,St H w σ→Cl Tryz.prog g ([I l]++cap) w fun u w'=>∃b,u= .bool b∧(b=true↔q l)∧St H w' σ):
  Cl Tryz.prog 228 [v,.func (.func g) #[] cap.toArray] w fun u w'=>∃i,u=I i∧(0≤i↔∃p∈ls,q p)∧St H w' σ:=by
 obtain ⟨a,c,rfl⟩:=RI.shape hr
 have hl:=(RI.len hr).2.2
 refine Cl.o Tryz.func228 Tryz.ntmps228 ag2 ?_
 refine .aj (.z zg (.nil (.seq (.aj (.z zm (.z (dp af) (.z zm (.nil ?_))))))))
 refine .for (N:=ls.length) (J:=fun k fr w=>fr=[(1,.func (.func g) #[] cap.toArray),(0,.slice a ls.length c)]∧St H w σ∧∀j<k,∀l,ls[j]? =some l→¬q l) ak ?_ ?_ ?_
 ·exact .mk ⟨rfl,hs,fun j hj=>by omega⟩
 ·rintro k fr w hk ⟨rfl,hs,hno⟩
  obtain ⟨l,hl⟩:=nth hk
  refine .block (.aj (.z zm (.z zg (.nil (.aj (.z zm (.z zm (.z zm ?_))))))))
  first|(refine .ixv hs af ai ?_;intro b14 o14 hc14)|refine .z (zix af ai) ?_
  refine .y hs (zld ae) ?_
  refine .o (.oS (first:=[]) rfl rfl hc (hp _ _ hs) ?_);rintro _ w ⟨b16,rfl,hb16,hs⟩
  refine .nil ?_
  refine (.cond rfl (fun hc16=>?_) (fun hc16=>?_))
  ·refine .aj (.z zm (.z zg (.nil ?_)))
   refine .ret (rB (rT (rB (rT (Fin.bE tB rfl ?_)))))
   exact ⟨_,rfl,⟨fun _=>⟨l,List.mem_of_getElem? hl,hb16.1 hc16⟩,fun _=>by omega⟩,hs⟩
  ·refine .skip ?_
   refine nB (nT ?_)
   exact .mk ⟨rfl,hs,fm hno hl (fun h=>by rw [hb16.2 h] at hc16;cases hc16)⟩
 ·rintro fr w ⟨rfl,hs,hno⟩
  refine nT ?_
  refine .aj (.z zg (.nil ?_))
  refine .ret (Fin.bE tB rfl ?_)
  exact ⟨_,rfl,⟨fun h=>by omega,fun ⟨p,h1,h2⟩=>by
   obtain ⟨j,hj⟩:=List.getElem?_of_mem h1
   exact (hno j (List.getElem?_eq_some_iff.1 hj).1 p hj h2).elim⟩,hs⟩
theorem tx{v:Value}{ls:List Int}{g:Nat}{cap:List Value}{q:Int→Prop}(hs:St H w σ)(hr:RI H v ls)
  (hc:∀args w,(callFunc g args).run Tryz.prog w= .ok (.enter g args) w) (hp:∀w l,St H w σ→Cl Tryz.prog g ([I l]++cap) w fun u w'=>∃b,u= .bool b∧(b=true↔q l)∧St H w' σ):
  Cl Tryz.prog 185 [v,.func (.func g) #[] cap.toArray] w fun u w'=>∃b,u= .bool b∧(b=true↔∃p∈ls,q p)∧St H w' σ:=by
 refine Cl.o Tryz.func185 Tryz.ntmps185 ag2 ?_
 refine .aj (.z zg (.nil (.aj (.z zm (.z zm ?_)))))
 refine .o (.call Tryz.call228 rfl (xW hs hr hc hp) ?_);rintro _ w ⟨i,rfl,hi,hs⟩
 refine .z uc (.z zg (.nil ?_))
 refine .ret (Fin.bE Tryz.results185 rfl ?_)
 exact ⟨_,rfl,by simp only [decide_eq_true_eq];exact hi,hs⟩
theorem rh{n:Int}(hs:St H w σ):Cl Tryz.prog 198 [I n] w fun v w'=>∃b,v= .bool b∧(b=true↔¬(-1000000000≤n∧n≤1000000000))∧St H w' σ:=by
 refine Cl.o Tryz.func198 Tryz.ntmps198 ag1 ?_
 refine .aj (.z zg (.nil (.aj (.z zm ?_))))
 refine .o (.call BZ rfl (fl hs) ?_);rintro _ w ⟨rfl,hs⟩
 refine .z fW (.z zg (.nil ?_))
 refine .ret (Fin.bE Tryz.results198 rfl ?_)
 exact ⟨_,rfl,by simp;omega,hs⟩
theorem om{v vx:Value}{s:cU}{x:List Int}(hs:St H w σ)(hr:RSy H v s)(hx:RI H vx x):
  Cl Tryz.prog 134 [v,vx] w fun u w'=>∃e,u=I e∧I1 s x e∧St H w' σ:=by
 obtain ⟨ul,rfl,hl⟩:=hr
 obtain ⟨al,cl,rfl⟩:=RL.shape hl
 obtain ⟨ax,cx,rfl⟩:=RI.shape hx
 refine Cl.o Tryz.func134 Tryz.ntmps134 ag2 ?_
 refine .aj ?_
 refine .bx hs fun b2 w hs=>?_
 refine .z zg (.nil (.seq (.aj (.y hs (zls [_,_] bG aN) ?_))))
 refine .o (.call Tryz.call197 rfl (je (s:=s) hs ⟨_,rfl,hl⟩) ?_);rintro _ w ⟨rfl,hs⟩
 refine .z zg (.nil (.aj (.z zm (.z gS (.nil ?_)))))
 skip
 refine (.ek rfl (fun hc11=>?_) (fun hc11=>?_))
 ·refine .aj (.z zm (.z zg (.nil ?_)))
  refine .ret (rT (Fin.bE tE rfl ?_))
  exact ⟨_,rfl,.bad hc11,hs.out⟩
 ·refine .skip ?_
  refine nT ?_
  refine .seq (.aj ?_)
  have hok:s.Ok:=s.dF.1 (by simpa using hc11)
  have hm0:=hok.m0
  have hm1:=hok.m1
  have hll:=hok.len
  have hnn:(s.n:Int)=s.many+1:=by simp only [cU.n];omega
  refine .z zm (.z (dp af) (.z (zfa cA) (.y hs (zld ae) (.z cP (.z gS (.z zm ?_))))))
  refine .B3 (t':=19) rfl (fun hb19=>?_) (fun hb19=>?_)
  ·refine .gFs 4 6 false rfl rfl rfl ?_
   refine .z zpT (.z zm ?_)
   refine .gFs 2 12 false rfl rfl rfl ?_
   refine .z zpT (.nil ?_)
   refine (.cT ?_)
   refine .aj (.z zg (.nil ?_))
   refine .ret (rT (Fin.bE tE rfl ?_))
   first
    |exact ⟨_,rfl,.ok hok ⟨ak,by first|omega|(simpa using hb25),fun v hv=>hfree v ak,eX.2 fun y hy=>by
      obtain ⟨i,hi⟩:=List.getElem?_of_mem hy
      exact h1 i (List.getElem?_eq_some_iff.1 hi).1 y hi⟩,hs.out⟩
    |exact ⟨_,rfl,.off hok (fun h=>by have:=h.len;omega),hs.out⟩
    |exact ⟨_,rfl,.off hok (fun h=>by have:=h.zero;first|omega|(simp at hb25;omega)),hs.out⟩
    |exact ⟨_,rfl,.off hok (fun h=>by
      obtain ⟨p,h1,h2⟩:=hb27.1 hc28
      obtain ⟨i,hi⟩:=List.getElem?_of_mem h1
      have hil:=(List.getElem?_eq_some_iff.1 hi).1
      have:=bU hil
      rw [hi] at this
      cases this
      exact h2 (h.free i (by have:=h.len;omega))),hs.out⟩
    |exact ⟨_,rfl,.off hok (fun h=>by
      have h8:=eX.1 h.zK y (List.mem_of_getElem? hy)
      omega),hs.out⟩
  ·refine .gT rfl rfl ?_
   refine .z zm ?_
   refine .gT rfl rfl ?_
   refine .ixX (enc:=fun x=>[I x]) hs hx rfl rfl af ai (bU (l:=x) (i:=0) ak) rfl ?_;intro b21 o21 hc21;replace hc21:=cg.one hc21
   refine .gT rfl rfl ?_
   refine .y hs (zld ae) ?_
   refine .gT rfl rfl ?_
   refine .z gS (.z zpF (.z zm ?_))
   refine .B3 (t':=25) rfl (fun hb25=>?_) (fun hb25=>?_)
   ·refine .gFs 2 12 false rfl rfl rfl ?_
    refine .z zpT (.nil ?_)
    refine (.cT ?_)
    refine .aj (.z zg (.nil ?_))
    refine .ret (rT (Fin.bE tE rfl ?_))
    first
     |exact ⟨_,rfl,.ok hok ⟨ak,by first|omega|(simpa using hb25),fun v hv=>hfree v ak,eX.2 fun y hy=>by
       obtain ⟨i,hi⟩:=List.getElem?_of_mem hy
       exact h1 i (List.getElem?_eq_some_iff.1 hi).1 y hi⟩,hs.out⟩
     |exact ⟨_,rfl,.off hok (fun h=>by have:=h.len;omega),hs.out⟩
     |exact ⟨_,rfl,.off hok (fun h=>by have:=h.zero;first|omega|(simp at hb25;omega)),hs.out⟩
     |exact ⟨_,rfl,.off hok (fun h=>by
       obtain ⟨p,h1,h2⟩:=hb27.1 hc28
       obtain ⟨i,hi⟩:=List.getElem?_of_mem h1
       have hil:=(List.getElem?_eq_some_iff.1 hi).1
       have:=bU hil
       rw [hi] at this
       cases this
       exact h2 (h.free i (by have:=h.len;omega))),hs.out⟩
     |exact ⟨_,rfl,.off hok (fun h=>by
       have h8:=eX.1 h.zK y (List.mem_of_getElem? hy)
       omega),hs.out⟩
   ·refine .gT rfl rfl ?_
    refine .z zm ?_
    refine .gT rfl rfl ?_
    refine .o (.call Tryz.call185 rfl (tx (q:=fun n=>¬(-1000000000≤n∧n≤1000000000)) (cap:=[]) hs hx Tryz.call198 (fun w n hs=>rh hs)) ?_);rintro _ w ⟨b27,rfl,hb27,hs⟩
    refine .z zpF (.nil ?_)
    refine (.cond rfl (fun hc28=>?_) (fun hc28=>?_))
    ·refine .aj (.z zg (.nil ?_))
     refine .ret (rT (Fin.bE tE rfl ?_))
     first
      |exact ⟨_,rfl,.ok hok ⟨ak,by first|omega|(simpa using hb25),fun v hv=>hfree v ak,eX.2 fun y hy=>by
        obtain ⟨i,hi⟩:=List.getElem?_of_mem hy
        exact h1 i (List.getElem?_eq_some_iff.1 hi).1 y hi⟩,hs.out⟩
      |exact ⟨_,rfl,.off hok (fun h=>by have:=h.len;omega),hs.out⟩
      |exact ⟨_,rfl,.off hok (fun h=>by have:=h.zero;first|omega|(simp at hb25;omega)),hs.out⟩
      |exact ⟨_,rfl,.off hok (fun h=>by
        obtain ⟨p,h1,h2⟩:=hb27.1 hc28
        obtain ⟨i,hi⟩:=List.getElem?_of_mem h1
        have hil:=(List.getElem?_eq_some_iff.1 hi).1
        have:=bU hil
        rw [hi] at this
        cases this
        exact h2 (h.free i (by have:=h.len;omega))),hs.out⟩
      |exact ⟨_,rfl,.off hok (fun h=>by
        have h8:=eX.1 h.zK y (List.mem_of_getElem? hy)
        omega),hs.out⟩
    ·refine .skip ?_
     refine nT ?_
     refine .seq (.aj (.z (zfa cf) (.y hs (zld dj) (.z (dp aU) (.z zm (.nil ?_))))))
     refine .for (N:=s.cH.length) (J:=fun k fr w=>fr=[(30,.slice al s.cH.length cl),(1,.slice ax x.length cx)]∧(∀i<k,∀y,s.cH[i]? =some y→gi x y.B.toNat≤gi x y.A.toNat+y.M)∧St H w (.blk b2 [I s.many,.slice al s.cH.length cl]::σ)) ak ?_ ?_ ?_
     ·exact .mk ⟨rfl,fun i hi=>by omega,hs⟩
     ·have hfree:∀v<x.length,-1000000000≤gi x v∧gi x v≤1000000000:=fun v hv=>by
       apply Classical.byContradiction
       intro h
       have:=hb27.2 ⟨gi x v,List.mem_of_getElem? (bU hv),h⟩
       subst this
       simp at hc28
      rintro k fr w hk ⟨rfl,h1,hs⟩
      obtain ⟨y,hy⟩:=nth hk
      obtain ⟨⟨y1,y2⟩,⟨y3,y4⟩,y5,y6,-⟩:=hok.lim y (List.mem_of_getElem? hy)
      have z1:=hfree y.B.toNat ak
      have z2:=hfree y.A.toNat ak
      refine .block (.aj ?_)
      refine .ixX (enc:=Lim.c) hs hl rfl rfl aU bq hy rfl ?_;intro b34 o34 hc34
      refine .q hs (bY (vs:=y.c) rfl fu bq hc34) ?_
      refine .o (.alloc hs ef rfl fun b7 w hs=>?_)
      refine .o (.aP (vs:=y.c) hs rfl rfl bq fun w hs=>?_)
      refine .nil ?_
      refine .seq (.draw mix rfl hs fun w hs=>?_)
      refine .z 0 rfl zm ?_;refine .z 1 rfl (zfa eO) ?_;refine .y 2 rfl hs ae ?_
      refine .ixX (enc:=fun x=>[I x]) (i:=3) hs rfl aq .none hx rfl rfl af ai (bU (l:=x) (i:=y.B.toNat) ak) ak ?_;intro b39 o39 hc39;replace hc39:=cg.one hc39
      refine .r (i:=4) hs rfl aq .none (aW rfl ae hc39) ?_
      refine .z 5 rfl zm ?_;refine .z 6 rfl (zfa eo) ?_;refine .y 7 rfl hs ae ?_
      refine .ixX (enc:=fun x=>[I x]) (i:=8) hs rfl aq .none hx rfl rfl af ai (bU (l:=x) (i:=y.A.toNat) ak) ak ?_;intro b44 o44 hc44;replace hc44:=cg.one hc44
      refine .r (i:=9) hs rfl aq .none (aW rfl ae hc44) ?_
      refine .z 10 rfl gM ?_;refine .z 11 rfl (zfa fP) ?_;refine .y 12 rfl hs ae ?_;refine .z 13 rfl mI ?_;refine .D hs ?_
      refine (.bH rfl (fun hc49=>?_) (fun hc49=>?_))
      ·refine .aj (.z zg (.nil ?_))
       refine .ret (rB (rT (rB (rT (Fin.bE tE rfl ?_)))))
       first
        |exact ⟨_,rfl,.ok hok ⟨ak,by first|omega|(simpa using hb25),fun v hv=>hfree v ak,eX.2 fun y hy=>by
          obtain ⟨i,hi⟩:=List.getElem?_of_mem hy
          exact h1 i (List.getElem?_eq_some_iff.1 hi).1 y hi⟩,hs.out⟩
        |exact ⟨_,rfl,.off hok (fun h=>by have:=h.len;omega),hs.out⟩
        |exact ⟨_,rfl,.off hok (fun h=>by have:=h.zero;first|omega|(simp at hb25;omega)),hs.out⟩
        |exact ⟨_,rfl,.off hok (fun h=>by
          obtain ⟨p,h1,h2⟩:=hb27.1 hc28
          obtain ⟨i,hi⟩:=List.getElem?_of_mem h1
          have hil:=(List.getElem?_eq_some_iff.1 hi).1
          have:=bU hil
          rw [hi] at this
          cases this
          exact h2 (h.free i (by have:=h.len;omega))),hs.out⟩
        |exact ⟨_,rfl,.off hok (fun h=>by
          have h8:=eX.1 h.zK y (List.mem_of_getElem? hy)
          omega),hs.out⟩
      ·refine .skip ?_
       refine nB (nT ?_)
       exact .mk ⟨rfl,fun i hi z hz=>by
        by_cases e:i=k
        ·subst e;rw [hy] at hz;cases hz;omega
        ·exact h1 i ak z hz,hs.out⟩
     ·have hfree:∀v<x.length,-1000000000≤gi x v∧gi x v≤1000000000:=fun v hv=>by
       apply Classical.byContradiction
       intro h
       have:=hb27.2 ⟨gi x v,List.mem_of_getElem? (bU hv),h⟩
       subst this
       simp at hc28
      rintro fr w ⟨rfl,h1,hs⟩
      refine nT ?_
      refine .aj (.z zg (.nil ?_))
      refine .ret (Fin.bE tE rfl ?_)
      first
       |exact ⟨_,rfl,.ok hok ⟨ak,by first|omega|(simpa using hb25),fun v hv=>hfree v ak,eX.2 fun y hy=>by
         obtain ⟨i,hi⟩:=List.getElem?_of_mem hy
         exact h1 i (List.getElem?_eq_some_iff.1 hi).1 y hi⟩,hs.out⟩
       |exact ⟨_,rfl,.off hok (fun h=>by have:=h.len;omega),hs.out⟩
       |exact ⟨_,rfl,.off hok (fun h=>by have:=h.zero;first|omega|(simp at hb25;omega)),hs.out⟩
       |exact ⟨_,rfl,.off hok (fun h=>by
         obtain ⟨p,h1,h2⟩:=hb27.1 hc28
         obtain ⟨i,hi⟩:=List.getElem?_of_mem h1
         have hil:=(List.getElem?_eq_some_iff.1 hi).1
         have:=bU hil
         rw [hi] at this
         cases this
         exact h2 (h.free i (by have:=h.len;omega))),hs.out⟩
       |exact ⟨_,rfl,.off hok (fun h=>by
         have h8:=eX.1 h.zK y (List.mem_of_getElem? hy)
         omega),hs.out⟩
end Go.Proofs.YteajddicacjkhaaGreat
namespace Go.Proofs
open Go.Shelf
def Tryz.Af:Go.Shelf.Ren:=⟨fun|189=>303|125=>311|257=>310|128=>323|129=>324|294=>314|295=>315|296=>316|297=>317|298=>318|299=>319|216=>320|300=>321|301=>322|328=>325|329=>326|330=>327|331=>328|332=>329|215=>330|343=>331|n=>n,fun|28=>34|3=>3|46=>260|0=>0|51=>340|53=>343|4=>4|183=>348|182=>347|131=>165|5=>5|9=>9|218=>354|222=>358|228=>360|229=>293|n=>n,fun|n=>n⟩
theorem Tryz.Da:Go.Proofs.Lays.n189 Tryz.prog Tryz.Af:={
 mixed:=by kernel_rfl
 f125:=Tryz.func311.trans (congrArg some (by kernel_rfl))
 f128:=Tryz.func323.trans (congrArg some (by kernel_rfl))
 f129:=Tryz.func324.trans (congrArg some (by kernel_rfl))
 f189:=Tryz.func303.trans (congrArg some (by kernel_rfl))
 f215:=Tryz.func330.trans (congrArg some (by kernel_rfl))
 f216:=Tryz.func320.trans (congrArg some (by kernel_rfl))
 f257:=Tryz.func310.trans (congrArg some (by kernel_rfl))
 f294:=Tryz.func314.trans (congrArg some (by kernel_rfl))
 f295:=Tryz.func315.trans (congrArg some (by kernel_rfl))
 f296:=Tryz.func316.trans (congrArg some (by kernel_rfl))
 f297:=Tryz.func317.trans (congrArg some (by kernel_rfl))
 f298:=Tryz.func318.trans (congrArg some (by kernel_rfl))
 f299:=Tryz.func319.trans (congrArg some (by kernel_rfl))
 f300:=Tryz.func321.trans (congrArg some (by kernel_rfl))
 f301:=Tryz.func322.trans (congrArg some (by kernel_rfl))
 f328:=Tryz.func325.trans (congrArg some (by kernel_rfl))
 f329:=Tryz.func326.trans (congrArg some (by kernel_rfl))
 f330:=Tryz.func327.trans (congrArg some (by kernel_rfl))
 f331:=Tryz.func328.trans (congrArg some (by kernel_rfl))
 f332:=Tryz.func329.trans (congrArg some (by kernel_rfl))
 f343:=Tryz.func331.trans (congrArg some (by kernel_rfl))
 t0:=Tryz.underlying0
 a0:=Tryz.isAgg0
 z0:=Tryz.sizeOf0
 v0:=Tryz.zeroValue0
 t3:=Tryz.underlying3
 a3:=Tryz.isAgg3
 z3:=Tryz.sizeOf3
 v3:=Tryz.zeroValue3
 t4:=Tryz.underlying4
 a4:=Tryz.isAgg4
 z4:=Tryz.sizeOf4
 v4:=Tryz.zeroValue4
 t5:=Tryz.underlying5
 a5:=Tryz.isAgg5
 z5:=Tryz.sizeOf5
 v5:=Tryz.zeroValue5
 t9:=Tryz.underlying9
 a9:=Tryz.isAgg9
 z9:=Tryz.sizeOf9
 v9:=Tryz.zeroValue9
 t28:=Tryz.underlying34
 a28:=Tryz.isAgg34
 z28:=Tryz.sizeOf34
 v28:=Tryz.zeroValue34
 t46:=Tryz.underlying260
 a46:=Tryz.isAgg260
 z46:=Tryz.sizeOf260
 v46:=Tryz.zeroValue260
 t51:=Tryz.underlying340
 a51:=Tryz.isAgg340
 z51:=Tryz.sizeOf340
 v51:=Tryz.zeroValue340
 t53:=Tryz.underlying343
 a53:=Tryz.isAgg343
 z53:=Tryz.sizeOf343
 v53:=Tryz.zeroValue343
 t131:=Tryz.underlying165
 a131:=Tryz.isAgg165
 z131:=Tryz.sizeOf165
 v131:=Tryz.zeroValue165
 t182:=Tryz.underlying347
 a182:=Tryz.isAgg347
 z182:=Tryz.sizeOf347
 v182:=Tryz.zeroValue347
 t183:=Tryz.underlying348
 a183:=Tryz.isAgg348
 z183:=Tryz.sizeOf348
 v183:=Tryz.zeroValue348
 t218:=Tryz.underlying354
 a218:=Tryz.isAgg354
 z218:=Tryz.sizeOf354
 v218:=Tryz.zeroValue354
 t222:=Tryz.underlying358
 a222:=Tryz.isAgg358
 z222:=Tryz.sizeOf358
 v222:=Tryz.zeroValue358
 t228:=Tryz.underlying360
 a228:=Tryz.isAgg360
 z228:=Tryz.sizeOf360
 v228:=Tryz.zeroValue360
 t229:=Tryz.underlying293
 a229:=Tryz.isAgg293
 z229:=Tryz.sizeOf293
 v229:=Tryz.zeroValue293}
def Tryz.yS:Go.Shelf.Ren:=⟨fun|20=>304|n=>n,fun|22=>34|3=>3|4=>4|0=>0|n=>n,fun|n=>n⟩
theorem Tryz.AT:Go.Proofs.Lays2.n20 Tryz.prog Tryz.yS:={
 mixed:=by kernel_rfl
 f20:=Tryz.func304.trans (congrArg some (by kernel_rfl))
 t0:=Tryz.underlying0
 a0:=Tryz.isAgg0
 z0:=Tryz.sizeOf0
 v0:=Tryz.zeroValue0
 t3:=Tryz.underlying3
 a3:=Tryz.isAgg3
 z3:=Tryz.sizeOf3
 v3:=Tryz.zeroValue3
 t4:=Tryz.underlying4
 a4:=Tryz.isAgg4
 z4:=Tryz.sizeOf4
 v4:=Tryz.zeroValue4
 t22:=Tryz.underlying34
 a22:=Tryz.isAgg34
 z22:=Tryz.sizeOf34
 v22:=Tryz.zeroValue34
 i3:=by kernel_rfl}
end Go.Proofs
namespace Go.Proofs.YteajddicacjkhaaGreat
open Go.Sort Go.RowKit
theorem Eo(blk off cap:Nat)(zs:List Int)(w:World)(hH:Holds (Value.int .i64) w blk off zs.toArray)(hblk:blk<w.heap.size)(hsz:zs.length<4611686018427387904):
  Calls Tryz.prog 303 #[.slice (some ⟨blk,off,none⟩) zs.length cap] w fun e w'=>e= .returned (.tuple #[])∧∃n os,w'=grow (putRow (Value.int .i64) (Sort.ahead w n) blk off (zs.mergeSort fun x y=>decide (x≤y)).toArray) os:=
 Any.slices_Sort_int Tryz.Da blk off cap zs w hH hblk hsz
theorem xc(p:Option Addr)(cap:Nat)(w:World):Calls Tryz.prog 303 #[.slice p 0 cap] w fun e w'=>e= .returned (.tuple #[])∧w'=w:=
 Any.slices_Sort_int_none Tryz.Da p cap w
theorem zR(blk off cap:Nat)(zs:List Int)(w:World)(hH:Holds (Value.int .i64) w blk off zs.toArray)(hsz:zs.length≤9223372036854775807)(hcap:zs.length≤cap):
  Calls Tryz.prog 304 #[.slice (some ⟨blk,off,none⟩) zs.length cap] w fun e w'=>e= .returned (.slice (some ⟨blk,off,none⟩) (Lib.compact zs).length cap)∧∃q,w'=putRow (Value.int .i64) (Sort.ahead w q) blk off (Lib.compact zs++List.replicate (zs.length - (Lib.compact zs).length) 0).toArray:=
 Any.slices_Compact_int Tryz.AT blk off cap zs w hH hsz hcap
theorem sZ(p:Option Addr)(cap:Nat)(w:World):Calls Tryz.prog 304 #[.slice p 0 cap] w fun e w'=>e= .returned (.slice p 0 cap)∧w'=w:=
 Any.slices_Compact_int_empty Tryz.AT p cap w
end Go.Proofs.YteajddicacjkhaaGreat
namespace Go.Proofs.YteajddicacjkhaaGreat
open Go.MW
variable{H:bV}{w:World}{σ:List Ent}
theorem s5{v:Value}{ls:List Int}{x:Int}(hs:St H w σ)(hr:RI H v ls):
  Cl Tryz.prog 305 [v,I x] w fun u w'=>∃i,u=I i∧(0≤i↔x∈ls)∧St H w' σ:=by
 obtain ⟨a,c,rfl⟩:=RI.shape hr
 have hl:=(RI.len hr).2.2
 refine Cl.o Tryz.func305 Tryz.ntmps305 ag2 ?_
 refine .aj (.z zg (.nil (.seq (.aj (.z zm (.z (dp af) (.z zm (.nil ?_))))))))
 refine .for (N:=ls.length) (J:=fun k fr w=>fr=[(1,I x),(0,.slice a ls.length c)]∧St H w σ∧∀j<k,∀y,ls[j]? =some y→¬x=y) ak ?_ ?_ ?_
 ·exact .mk ⟨rfl,hs,fun j hj=>by omega⟩
 ·rintro k fr w hk ⟨rfl,hs,hno⟩
  obtain ⟨y,hy⟩:=nth hk
  refine .block (.aj (.z zm (.z zg (.nil (.aj (.z zm (.z zm (.z zm ?_))))))))
  refine .ixY hs hr rfl rfl af ai hy rfl ?_;intro b14 o14 hc14
  refine .q hs (aW rfl ae hc14) ?_
  refine .z gj (.nil ?_)
  refine (.bH rfl (fun hc16=>?_) (fun hc16=>?_))
  ·refine .aj (.z zm (.z zg (.nil ?_)))
   refine .ret (rB (rT (rB (rT (Fin.bE Tryz.results305 rfl ?_)))))
   exact ⟨_,rfl,⟨fun _=>by rw [hc16];exact List.mem_of_getElem? hy,fun _=>by omega⟩,hs⟩
  ·refine .skip ?_
   refine nB (nT ?_)
   exact .mk ⟨rfl,hs,fm hno hy hc16⟩
 ·rintro fr w ⟨rfl,hs,hno⟩
  refine nT ?_
  refine .aj (.z zg (.nil ?_))
  refine .ret (Fin.bE Tryz.results305 rfl ?_)
  exact ⟨_,rfl,⟨fun h=>by omega,fun h=>by
   obtain ⟨j,hj⟩:=List.getElem?_of_mem h
   exact (hno j (List.getElem?_eq_some_iff.1 hj).1 x hj rfl).elim⟩,hs⟩
theorem pJ{v:Value}{ls:List Int}{x:Int}(hs:St H w σ)(hr:RI H v ls):
  Cl Tryz.prog 294 [v,I x] w fun u w'=>u= .bool (decide (x∈ls))∧St H w' σ:=by
 refine Cl.o Tryz.func294 Tryz.ntmps294 ag2 ?_
 refine .aj (.z zg (.nil (.aj (.z zm (.z zm ?_)))))
 refine .o (.call Tryz.call305 rfl (s5 hs hr) ?_);rintro _ w ⟨i,rfl,hi,hs⟩
 refine .z uc (.z zg (.nil ?_))
 refine .ret (Fin.bE Tryz.results294 rfl ?_)
 exact ⟨by simp only [hi],hs⟩
set_option maxHeartbeats 1000000 in
theorem uV{v:Value}{s:cU}{g:Nat}{cap:List Value}(q:Nat→Lim→Bool)(hs:St H w σ)(hr:RSy H v s)(hlen:s.cH.length≤4398046510976)(hc:∀args w,(callFunc g args).run Tryz.prog w= .ok (.enter g args) w)
  (hp:∀w σ (k:Nat) (l:Lim),s.cH[k]? =some l→St H w σ→Cl Tryz.prog g ([I k,.agg l.c.toArray]++cap) w fun u w'=>u= .bool (q k l)∧St H w' σ):
  Cl Tryz.prog 292 [v,.func (.func g) #[] cap.toArray] w fun u w'=>∃H1,HLe H H1∧RSy H1 u ⟨s.many,kx q s.cH s.cH.length⟩∧St H1 w' σ:=by
 obtain ⟨ul,rfl,hl⟩:=hr
 obtain ⟨al,cl,rfl⟩:=RL.shape hl
 refine Cl.o Tryz.func292 Tryz.ntmps292 ag2 ?_
 refine .aj ?_
 refine .bx hs fun b2 w hs=>?_
 refine .o (.alloc hs eg rfl fun b4 w hs=>?_)
 refine .nil (.aj (.z (zfa cA) (.y hs (zld ae) (.z (zbd [_,_] lW) ?_))))
 refine .o (.alloc hs eg rfl fun b5 w hs=>?_)
 refine .o (.aP (vs:=[_,_]) hs rfl rfl aN fun w hs=>?_)
 refine .nil (.seq (.aj (.z (zfa cf) (.y hs (zld dj) (.z (dp aU) (.z zm (.nil ?_)))))))
 refine .for (N:=s.cH.length) (J:=fun k fr w=>fr=[(12,.slice al s.cH.length cl),(1,.func (.func g) #[] cap.toArray),(5,.pointer (some ⟨b5,0,none⟩)),(4,.pointer (some ⟨b4,0,none⟩))]∧∃vL en,cI 4 vL (gZ (kx q s.cH k)) en∧St H w (.blk b5 [I s.many,vL]:: .blk b4 [I 0,.slice none 0 0]::en::σ)) ak ?_ ?_ ?_
 ·exact .mk ⟨rfl,_,_,.nil 4 none,hs.nul.sb⟩
 ·rintro k fr w hk ⟨rfl,vL,en,hO,hs⟩
  obtain ⟨x,hx⟩:=nth (l:=s.cH) hk
  obtain ⟨aL,lL,cL,rfl,hL⟩:=hO.shape
  have hpl:=mn q s.cH k
  refine .block (.aj (.z zm ?_))
  refine .ixX hs hl rfl rfl aU bq hx rfl ?_;intro b17 o17 hc17
  refine .q hs (bY (vs:=x.c) rfl fu bq hc17) ?_
  refine .o (.alloc hs ef rfl fun b7 w hs=>?_)
  refine .z zg ?_
  refine .o (.aP (vs:=x.c) hs rfl rfl bq fun w hs=>?_)
  refine .nil (.aj (.z zm (.z zm (.y hs (zls [_,_,_,_] fu bq) ?_))))
  refine .o (.oS (first:=[]) (cap:=cap) rfl rfl hc (hp _ _ k x hx hs) ?_);rintro _ w ⟨rfl,hs⟩
  refine .nil ?_
  refine (.cond rfl (fun hc22=>?_) (fun hc22=>?_))
  ·refine .region (.z (zfa cf) (.y hs (zld dj) (.y hs (zls [_,_,_,_] fu bq) ?_)))
   refine .o (.buildSlice (cells:=x.c) hs rj rfl rfl fun b26 w hs=>?_)
   refine .o (.append (ys:=x.c) hs cM rfl rfl hO (.own .here rfl rfl) (by simp [Lim.c,Value.oneCell']) (fun l h=>by rw [e7] at h;omega) ?_);intro v27 en27 w hO2 hs
   obtain ⟨a27,l27,c27,rfl,h27⟩:=hO2.shape
   refine .z (zfa cf) ?_
   refine .o (.store hs rfl rfl o5 fun w hs=>?_)
   refine .nil ?_
   refine nB (nT ?_)
   have e:kx q s.cH (k+1)=kx q s.cH k++[x]:=by rw [pQ hx,if_pos hc22]
   rw [←FK,←iI,←e] at hO2
   exact .mk ⟨rfl,_,_,hO2,hs.sb⟩
  ·refine .skip ?_
   refine nB (nT ?_)
   have e:kx q s.cH (k+1)=kx q s.cH k:=by rw [pQ hx,hc22];simp
   exact .mk ⟨rfl,_,_,by rw [e];exact hO,hs.sb⟩
 ·rintro fr w ⟨rfl,vL,en,hO,hs⟩
  obtain ⟨aL,lL,cL,rfl,hL⟩:=hO.shape
  have hpl:=mn q s.cH s.cH.length
  refine nT ?_
  refine .aj (.y hs (zls [_,_] bG aN) ?_)
  refine .o (.aP (vs:=[_,_]) hs rfl rfl aN fun w hs=>?_)
  refine .nil ?_
  refine .ret ?_
  obtain ⟨H1,g1,r1,hs⟩:=cI.cV (m:=4) (cs:=(kx q s.cH s.cH.length).map Lim.c) hO (fun c hc=>by simp only [List.mem_map] at hc;obtain ⟨x,_,rfl⟩:=hc;rfl) ak (by rw [List.length_map];omega) hs dE
  exact Fin.iZ [] [] hs fun w hs=>⟨_,results1 Tryz.results292 (dJ (vs:=[_,_]) hs rfl bG aN),H1,g1,⟨_,rfl,r1⟩,hs.out⟩
theorem uW{b:Nat}{i:Int}{l:Lim}{vb:Value}{bs:List Int}(hs:St H w σ)(hb:Row H b [vb])(hr:RI H vb bs):
  Cl Tryz.prog 293 [I i,.agg l.c.toArray,.pointer (some ⟨b,0,none⟩)] w fun u w'=>u= .bool (!decide (l.S∈bs))∧St H w' σ:=by
 have hb0:cellAt H b 0=some vb:=by rw [hb.cell];rfl
 refine Cl.o Tryz.func293 Tryz.ntmps293 ag3 ?_
 refine .aj ?_
 refine .bx hs fun b4 w hs=>?_
 refine .z zg (.nil (.aj (.y hs (zld an) (.z (zfa jT) (.y hs (zld ae) ?_)))))
 refine .o (.call Tryz.call294 rfl (pJ hs hr) ?_);rintro _ w ⟨rfl,hs⟩
 refine .z fW (.z zg (.nil ?_))
 refine .ret (Fin.bE Tryz.results293 rfl ?_)
 exact ⟨rfl,hs.out⟩
theorem rf{v vb:Value}{s:cU}{bs:List Int}(hs:St H w σ)(hr:RSy H v s)(hb:RI H vb bs)(hlen:s.cH.length≤4398046510976):
  Cl Tryz.prog 266 [v,vb] w fun u w'=>∃H1,HLe H H1∧RSy H1 u (s.wo bs)∧St H1 w' σ:=by
 obtain ⟨ul,rfl,hl⟩:=hr
 obtain ⟨al,cl,rfl⟩:=RL.shape hl
 obtain ⟨ab,cb,rfl⟩:=RI.shape hb
 refine Cl.o Tryz.func266 Tryz.ntmps266 ag2 ?_
 refine .aj ?_
 refine .bx hs fun b2 w hs=>?_
 refine .bx hs fun b3 w hs=>?_
 refine .o (.alloc hs eg rfl fun b4 w hs=>?_)
 refine .nil (.aj (.y hs (zls [_,_] bG aN) ?_))
 refine .q hs (dz (f:=[]) (c:=[_]) rfl rfl) ?_
 obtain ⟨H1,hle1,r3,hs⟩:=hs.cV (b:=b3) dE
 refine .o (.call Tryz.call292 rfl (uV (g:=293) (cap:=[.pointer (some ⟨b3,0,none⟩)]) (s:=s) (fun _ l=> !decide (l.S∈bs)) hs ⟨_,rfl,hl.mono hle1⟩ hlen Tryz.call293 (fun w σ k l _ hs=>uW hs r3 (hb.mono hle1))) ?_);rintro _ w ⟨H2,hle2,⟨u7,rfl,hL7⟩,hs⟩
 rw [BC] at hL7
 obtain ⟨a7,c7,rfl⟩:=RL.shape hL7
 refine .o (.aP (vs:=[_,_]) hs rfl rfl aN fun w hs=>?_)
 refine .nil ?_
 refine .ret ?_
 exact Fin.iZ [] [] hs fun w hs=>⟨_,results1 Tryz.results266 (dJ (vs:=[_,_]) hs rfl bG aN),H2,hle1.trans hle2,⟨_,rfl,hL7⟩,hs.out⟩
theorem uv{b cap:Nat}{xs:List Int}{sp:List Value}(hs:St H w (.blk b (Is xs++sp)::σ))(hl:xs.length≤17592186044416):
  Cl Tryz.prog 303 [.slice (some ⟨b,0,none⟩) xs.length cap] w fun u w'=>u= .tuple #[]∧St H w' (.blk b (Is (xs.mergeSort fun x y=>decide (x≤y))++sp)::σ):=
 (Eo b 0 cap xs w hs.holds (hs.lt .here) ak).mono fun e w' ⟨he,m,os,hw⟩=>⟨_,he,rfl,by
  rw [hw]
  exact (hs.putRow (List.length_mergeSort _)).grow os⟩
theorem s4{a:Option Addr}{cap:Nat}(hs:St H w σ):
  Cl Tryz.prog 303 [.slice a 0 cap] w fun u w'=>u= .tuple #[]∧St H w' σ:=
 (xc a cap w).mono fun e w' ⟨he,hw⟩=>⟨_,he,rfl,by rw [hw];exact hs⟩
theorem qs{b cap:Nat}{xs:List Int}{sp:List Value}(hs:St H w (.blk b (Is xs++sp)::σ))(hl:xs.length≤17592186044416)(hcap:xs.length≤cap):
  Cl Tryz.prog 304 [.slice (some ⟨b,0,none⟩) xs.length cap] w fun u w'=>u= .slice (some ⟨b,0,none⟩) (Go.Lib.compact xs).length cap∧St H w' (.blk b (Is (Go.Lib.compact xs)++(Is (List.replicate (xs.length - (Go.Lib.compact xs).length) 0)++sp))::σ):=
 (zR b 0 cap xs w hs.holds ak hcap).mono fun e w' ⟨he,m,hw⟩=>⟨_,he,rfl,by
  rw [hw]
  have h:=Go.Lib.compact_length_le xs
  have:=hs.putRow (m:=m) (ys:=Go.Lib.compact xs++List.replicate (xs.length - (Go.Lib.compact xs).length) 0) (by simp;omega)
  have e2:Is (Go.Lib.compact xs++List.replicate (xs.length - (Go.Lib.compact xs).length) 0)=Is (Go.Lib.compact xs)++Is (List.replicate (xs.length - (Go.Lib.compact xs).length) 0):=List.map_append
  rw [e2,List.append_assoc] at this
  exact this⟩
theorem pK{a:Option Addr}{cap:Nat}(hs:St H w σ):
  Cl Tryz.prog 304 [.slice a 0 cap] w fun u w'=>u= .slice a 0 cap∧St H w' σ:=
 (sZ a cap w).mono fun e w' ⟨he,hw⟩=>⟨_,he,rfl,by rw [hw];exact hs⟩
theorem vR{v:Value}{xs:List Int}{en:Ent}(hs:St H w (en::σ))(hO:cI 1 v (Is xs) en)(hl:xs.length≤17592186044416):
  Cl Tryz.prog 290 [v] w fun u w'=>∃L en',cI 1 u (Is L) en'∧L.length≤xs.length∧iX (fun x=>x∈xs) L∧St H w' (en'::σ):=by
 rcases hO with ⟨a,rfl,h0,rfl⟩|⟨b,len,cap,sp,rfl,rfl,h3,h4,h5⟩
 ·have hx:xs=[]:=by simpa using h0
  subst hx
  refine Cl.o Tryz.func290 Tryz.ntmps290 ag1 ?_
  refine .aj (.z zg (.nil (.aj (.z zm ?_))))
  refine .o (.call Tryz.call303 rfl (s4 hs) ?_);rintro _ w ⟨rfl,hs⟩
  refine .nil (.aj (.z zm ?_))
  refine .o (.call Tryz.call304 rfl (pK hs) ?_);rintro _ w ⟨rfl,hs⟩
  refine .z zg (.nil ?_)
  refine .ret (Fin.bE Tryz.results290 rfl ?_)
  exact ⟨[],_,.nil 1 a,cu,.nil cu,hs.out⟩
 ·obtain rfl:len=xs.length:=by simpa using h3.symm
  refine Cl.o Tryz.func290 Tryz.ntmps290 ag1 ?_
  refine .aj (.z zg (.nil (.aj (.z zm ?_))))
  refine .o (.call Tryz.call303 rfl (uv hs hl) ?_);rintro _ w ⟨rfl,hs⟩
  refine .nil (.aj (.z zm ?_))
  have hml:(xs.mergeSort fun x y=>decide (x≤y)).length=xs.length:=List.length_mergeSort _
  rw [←hml]
  refine .o (.call Tryz.call304 rfl (qs hs ak ak) ?_);rintro _ w ⟨rfl,hs⟩
  refine .z zg (.nil ?_)
  refine .ret (Fin.bE Tryz.results290 rfl ?_)
  have hcl:=Go.Lib.compact_length_le (xs.mergeSort fun x y=>decide (x≤y))
  have h4':xs.length+sp.length=cap:=by simpa using h4
  exact ⟨_,_,.inr ⟨b,_,cap,Is (List.replicate ((xs.mergeSort fun x y=>decide (x≤y)).length - (Go.Lib.compact (xs.mergeSort fun x y=>decide (x≤y))).length) 0)++sp,rfl,rfl,cu,by simp;omega,ak⟩,ak,zS,hs⟩
theorem lM{v:Value}{s:cU}(hs:St H w σ)(hr:RSy H v s)(hlen:s.cH.length≤4398046510976):
  Cl Tryz.prog 264 [v] w fun u w'=>∃L en,cI 1 u (Is L) en∧L.length≤s.cH.length∧iX (Ht s.cH) L∧St H w' (en::σ):=by
 obtain ⟨ul,rfl,hl⟩:=hr
 obtain ⟨al,cl,rfl⟩:=RL.shape hl
 refine Cl.o Tryz.func264 Tryz.ntmps264 ag1 ?_
 refine .aj ?_
 refine .bx hs fun b1 w hs=>?_
 refine .z zg (.nil (.aj (.z zg (.nil (.seq (.aj (.z (zfa cf) (.y hs (zld dj) (.z (dp aU) ?_)))))))))
 refine .z zm (.nil ?_)
 refine .for (N:=s.cH.length) (J:=fun k fr w=>∃v3 en,cI 1 v3 (Is ((s.cH.take k).map Lim.S)) en∧fr=[(3,v3),(7,.slice al s.cH.length cl)]∧St H w (en::σ)) ak ?_ ?_ ?_
 ·exact .mk ⟨_,_,.nil 1 none,rfl,hs.nul.sb⟩
 ·rintro k fr w hk ⟨v3,en,hO,rfl,hs⟩
  obtain ⟨x,hx⟩:=nth (l:=s.cH) hk
  obtain ⟨a3,l3,c3,rfl,h3⟩:=hO.shape
  refine .block (.aj ?_)
  refine .ixX hs hl rfl rfl aU bq hx rfl ?_;intro b11 o11 hc11
  refine .q hs (bY (vs:=x.c) rfl fu bq hc11) ?_
  refine .o (.alloc hs ef rfl fun b5 w hs=>?_)
  refine .o (.aP (vs:=x.c) hs rfl rfl bq fun w hs=>?_)
  refine .nil (.region (.z zm (.z (zfa jT) (.y hs (zld ae) ?_))))
  refine .o (.buildSlice (cells:=[_]) hs dk rfl rfl fun b16 w hs=>?_)
  refine .o (.append (ys:=Is [x.S]) hs df rfl rfl hO (.own .here rfl rfl) (jR _) (fun l' h=>by simp at h;omega) ?_);intro v17 en17 w hO2 hs
  rw [←List.map_append] at hO2
  refine .z zg (.nil ?_)
  refine nB (nT ?_)
  exact .mk ⟨_,_,by rw [dh hx,List.map_append];exact hO2,rfl,hs.sb⟩
 ·rintro fr w ⟨v3,en,hO,rfl,hs⟩
  rw [List.take_length] at hO
  refine nT ?_
  refine .aj (.z zm ?_)
  refine .o (.call Tryz.call290 rfl (vR hs hO (by rw [List.length_map];omega)) ?_);rintro v20 w ⟨L,en',hO',hL,hR,hs⟩
  rw [List.length_map] at hL
  refine .z zg (.nil ?_)
  refine .ret (Fin.bE Tryz.results264 rfl ?_)
  exact ⟨L,en',hO',hL,hR.congr fun x=>by simp [Ht],hs⟩
theorem oI{v:Value}{en:Ent}{xs:List Int}{g:Nat}{cap:List Value}(q:Int→Bool)(hs:St H w (en::σ))(hO:cI 1 v (Is xs) en)(hl:xs.length≤17592186044416)(hc:∀args w,(callFunc g args).run Tryz.prog w= .ok (.enter g args) w)
  (hp:∀H' w σ (n:Int),n∈xs→HLe H H'→St H' w σ→Cl Tryz.prog g ([I n]++cap) w fun u w'=>∃H1,HLe H' H1∧u= .bool (q n)∧St H1 w' σ):
  Cl Tryz.prog 228 [v,.func (.func g) #[] cap.toArray] w fun u w'=>∃H1 i,HLe H H1∧u=I i∧((i= -1∧∀x∈xs,q x=false)∨(∃(k:Nat) (x:Int),i=k∧xs[k]? =some x∧q x=true∧∀j<k,∀y,xs[j]? =some y→q y=false))∧St H1 w' (en::σ):=by
 obtain ⟨a,c,rfl⟩:=hO.AD
 refine Cl.o Tryz.func228 Tryz.ntmps228 ag2 ?_
 refine .aj (.z zg (.nil (.seq (.aj (.z zm (.z (dp af) (.z zm (.nil ?_))))))))
 refine .for (N:=xs.length) (J:=fun k fr w=>fr=[(1,.func (.func g) #[] cap.toArray),(0,.slice a xs.length c)]∧∃H1,HLe H H1∧(∀j<k,∀y,xs[j]? =some y→q y=false)∧St H1 w (en::σ)) ak ?_ ?_ ?_
 ·exact .mk ⟨rfl,H,HLe.refl H,fun j hj=>by omega,hs⟩
 ·rintro k fr w hk ⟨rfl,H1,hle1,hno,hs⟩
  have hx:=bU hk
  obtain ⟨b,c',sp,hv,rfl,_⟩:=hO.blk ak
  cases hv
  refine .block (.aj (.z zm (.z zg (.nil (.aj (.z zm (.z zm (.z zm (.z (zix af ai) ?_)))))))))
  refine .q hs (iw rfl ae (hv:=fM hk sp)) ?_
  refine .o (.oS (first:=[]) (cap:=cap) rfl rfl hc (hp _ _ _ (gi xs k) (List.mem_of_getElem? hx) hle1 hs) ?_);rintro _ w ⟨H2,hle2,rfl,hs⟩
  refine .nil ?_
  refine (.cond rfl (fun hc16=>?_) (fun hc16=>?_))
  ·refine .aj (.z zm (.z zg (.nil ?_)))
   refine .ret (rB (rT (rB (rT (Fin.bE tB rfl ?_)))))
   exact ⟨H2,_,hle1.trans hle2,rfl,.inr ⟨k,_,rfl,hx,hc16,hno⟩,hs⟩
  ·refine .skip ?_
   refine nB (nT ?_)
   exact .mk ⟨rfl,H2,hle1.trans hle2,fm hno hx hc16,hs⟩
 ·rintro fr w ⟨rfl,H1,hle1,hno,hs⟩
  refine nT ?_
  refine .aj (.z zg (.nil ?_))
  refine .ret (Fin.bE tB rfl ?_)
  exact ⟨H1,_,hle1,rfl,.inl ⟨rfl,fun x hx=>by
   obtain ⟨j,hj⟩:=List.getElem?_of_mem hx
   exact hno j (List.getElem?_eq_some_iff.1 hj).1 x hj⟩,hs⟩
set_option maxHeartbeats 1000000 in
theorem nb{v:Value}{en:Ent}{xs:List Int}{g:Nat}{cap:List Value}(q:Int→Bool)(hs:St H w (en::σ))(hO:cI 1 v (Is xs) en)(hl:xs.length≤17592186044416)(hc:∀args w,(callFunc g args).run Tryz.prog w= .ok (.enter g args) w)
  (hp:∀H' w σ (n:Int),n∈xs→HLe H H'→St H' w σ→Cl Tryz.prog g ([I n]++cap) w fun u w'=>∃H1,HLe H' H1∧u= .bool (q n)∧St H1 w' σ):
  Cl Tryz.prog 267 [v,.func (.func g) #[] cap.toArray] w fun u w'=>∃H1 en',HLe H H1∧cI 1 u (Is (xs.filter fun x=> !q x)) en'∧St H1 w' (en'::σ):=by
 obtain ⟨a,c,rfl⟩:=hO.AD
 refine Cl.o Tryz.func267 Tryz.ntmps267 ag2 ?_
 refine .aj (.z zg (.nil (.aj (.z zm (.z zm ?_)))))
 refine .o (.call Tryz.call228 rfl (oI q hs hO hl hc hp) ?_);rintro _ w ⟨H1,i0,hle1,rfl,hcase,hs⟩
 refine .z zg (.nil (.seq (.aj (.z zm (.z gj (.nil ?_))))))
 refine (.bH rfl (fun hc12=>?_) (fun hc12=>?_))
 ·refine .aj (.z zm (.z zg (.nil ?_)))
  refine .ret (rT (Fin.bE Tryz.results267 rfl ?_))
  have hno:∀x∈xs,q x=false:=by
   rcases hcase with ⟨_,h⟩|⟨k,x,h,_⟩
   ·exact h
   ·omega
  have e:xs.filter (fun x=> !q x)=xs:=List.filter_eq_self.2 fun x hx=>by simp [hno x hx]
  exact ⟨H1,en,hle1,by rw [e];exact hO,hs⟩
 ·refine .skip ?_
  refine nT ?_
  refine .seq (.aj (.z zm ?_))
  obtain ⟨k0,x0,rfl,hx0,hq0,hno⟩:∃(k:Nat) (x:Int),i0=k∧xs[k]? =some x∧q x=true∧∀j<k,∀y,xs[j]? =some y→q y=false:=hcase.resolve_left fun h=>hc12 h.1
  have hk0:=(List.getElem?_eq_some_iff.1 hx0).1
  obtain ⟨b,c',sp,hv,rfl,hc'⟩:=hO.blk ak
  cases hv
  refine .z cP (.z zg (.nil (.block ?_)))
  refine .loop (fun p:Nat×Nat=>⟨42,[],[(5,I (p.1:Int)),(6,I (p.2:Int)),(1,.func (.func g) #[] cap.toArray),(0,.slice (some ⟨b,0,none⟩) xs.length c)]⟩)
   (fun p w=>k0<p.2∧∃Y H1,HLe H H1∧Aw q xs Y p.1 p.2∧St H1 w (.blk b (Is Y++sp)::σ))
   (fun p=>xs.length - p.2) (k0,k0+1) (.cons rfl (.dD rfl (by dsimp only;omega) bj))
   ⟨by dsimp only;omega,xs,H1,hle1,.start hx0 hq0 hno,hs⟩ ?_
  clear hs hle1 hcase
  rintro ⟨i,j⟩ w ⟨hkj,Y,H1,hle1,hD,hs⟩
  dsimp only at hkj hD ⊢
  have hYl:=hD.len
  have hij:=hD.le
  have hjl:=hD.jl
  have hilt:=hD.lt hx0 hq0 hkj
  refine .seq (.aj (.z zm (.z zm (.z (dp af) (.z iK (.nil ?_))))))
  refine (.bH rfl (fun hc19=>?_) (fun hc19=>?_))
  ·refine .skip ?_
   refine nT ?_
   refine .seq (.block (.aj (.z zm (.z zm ?_))))
   have hj:j<Y.length:=by omega
   have hx:xs[j]? =some (gi Y j):=by rw [hD.rest j (Nat.le_refl _)];exact bU ak
   refine .z (zix af ai) ?_
   refine .q hs (iw rfl ae (hv:=fM hj sp)) ?_
   refine .z zg (.nil (.aj (.z zm (.z zm ?_))))
   refine .o (.oS (first:=[]) (cap:=cap) rfl rfl hc (hp _ _ _ (gi Y j) (List.mem_of_getElem? hx) hle1 hs) ?_);rintro _ w ⟨H2,hle2,rfl,hs⟩
   refine .z fW (.nil ?_)
   refine (.cond rfl (fun hc29=>?_) (fun hc29=>?_))
   ·refine .aj (.z zm (.z zm (.z zm (.z (zix af ai) ?_))))
    refine .o (.store hs rfl rfl ai ?_ .here (k8 (show i<Y.length by omega) sp) (jF (show i<Y.length by omega) sp _));intro w hs
    refine .nil (.region (.z zm (.z cP (.z zg (.nil ?_)))))
    refine nB (nT ?_)
    refine .region (.z zm (.z cP (.z zg (.nil ?_))))
    refine nT ?_
    exact ⟨(i+1,j+1),.dD rfl (by dsimp only;omega) (.dD rfl (by dsimp only;omega) bj),⟨by dsimp only;omega,_,H2,hle1.trans hle2,hD.keep hx (by simpa using hc29),hs⟩,by dsimp only;omega⟩
   ·refine .skip ?_
    refine nB (nT ?_)
    refine .region (.z zm (.z cP (.z zg (.nil ?_))))
    refine nT ?_
    exact ⟨(i,j+1),.cons rfl (.dD rfl (by dsimp only;omega) bj),⟨by dsimp only;omega,_,H2,hle1.trans hle2,hD.skip hx (by simpa using hc29),hs⟩,by dsimp only;omega⟩
  ·refine .exit ?_
   refine xT (xT (xB (nT ?_)))
   refine .aj (.z zm (.z zm ?_))
   obtain rfl:xs.length=j:=by omega
   refine .q hs (yG (k:=i) rfl rfl af ai ak ak) ?_
   rw [show 0+i*1=i by omega]
   refine .o (.Iy (c:=Is Y++sp) hs rfl af cB (by simp;omega) ?_);intro w hs
   rw [hD.done sp] at hs
   have hil:=hD.il
   rw [List.take_length] at hil
   refine .nil (.aj (.z zm (.z zm ?_)))
   refine .q hs (uI (k:=i) rfl rfl af ai ak) ?_
   refine .z zg (.nil ?_)
   refine .ret (Fin.bE Tryz.results267 rfl ?_)
   exact ⟨H1,_,hle1,.inr ⟨b,i,c,List.replicate (xs.length - i) (I 0)++sp,rfl,rfl,by simp [hil],by simp [←hil];omega,ak⟩,hs⟩
def vT(L:List Int):List (List Value):=(List.range L.length).map fun j=>[I ((L.length - 1 - j:Nat):Int),I (gi L (L.length - 1 - j))]
theorem lO(L:List Int):(vT L).length=L.length:=by simp [vT]
theorem zr{L:List Int}{j:Nat}(h:j<(vT L).length):(vT L)[j]=[I ((L.length - 1 - j:Nat):Int),I (gi L (L.length - 1 - j))]:=by simp [vT]
theorem ng{H:bV}{b:Nat}{v:Value}{L:List Int}(hb:Row H b [v])(hr:RI H v L):Iter Tryz.prog 291 [.pointer (some ⟨b,0,none⟩)] H (vT L):=by
 intro l II Ix _ _ hy H0 σb0 σf w hle hI0 hs
 obtain ⟨a,c,rfl⟩:=RI.shape hr
 have hlen:=(RI.len hr).2.2
 have hb0:cellAt H0 b 0=some (.slice a L.length c):=cellAt.mono (hb.at 0) hle
 refine Cl.o Tryz.func291 Tryz.ntmps291 ag2 ?_
 refine .aj (.y hs (zld an) (.z (dp af) (.z gM (.z zg (.nil (.block ?_))))))
 refine .loop (fun j:Nat=>⟨19,[],[(3,I ((L.length:Int) - 1 - (j:Int))),(0,.func (.yield l) #[] #[]),(1,.pointer (some ⟨b,0,none⟩))]⟩)
  (fun j w=>j≤L.length∧∃H1 σb,HLe H H1∧HLe H0 H1∧II j H1 σb∧St H1 w (σb++σf)) (fun j=>L.length - j) 0 (.dD rfl cu bj)
  ⟨Nat.zero_le _,H0,σb0,hle,HLe.refl _,hI0,hs⟩ ?_
 clear hs hI0
 rintro j w ⟨hj,H1,σb,hle1,hle0,hI,hs⟩
 have hb1:cellAt H1 b 0=some (.slice a L.length c):=cellAt.mono hb0 hle0
 refine .seq (.aj (.z zm (.z uc (.nil ?_))))
 refine (.bH rfl (fun hc8=>?_) (fun hc8=>?_))
 ·refine .skip ?_
  refine nT ?_
  refine .seq (.block (.aj (.z zm (.z zm (.y hs (zld an) (.z zm ?_))))))
  refine .ixY hs (hr.mono hle1) rfl rfl af ai (bU (l:=L) (i:=L.length - 1 - j) ak) ak ?_;intro b15 o15 hc15
  refine .q hs (aW rfl ae hc15) ?_
  have hk':j<(vT L).length:=by rw [lO];omega
  have hyd:=hy j hk' H1 σb σf w hle1 hI hs
  rw [zr hk',show ((L.length - 1 - j:Nat):Int)=(L.length:Int) - 1 - (j:Int) by omega] at hyd
  refine .o (.yield rfl rfl hyd ?_);rintro v17 w ⟨H2,σ2,g1,hs,g3⟩
  obtain ⟨bb,rfl,gT,gF⟩:=nv g3
  refine .z fW (.nil ?_)
  refine (.cond rfl (fun hc18=>?_) (fun hc18=>?_))
  ·refine .ret (rB (rT (rT (rB (Fin.Hn Tryz.results291 ?_)))))
   exact ⟨H2,σ2,hle0.trans g1,hs,.inr (gF (by simpa using hc18))⟩
  ·refine .skip ?_
   refine nB (nT ?_)
   refine .region (.z zm (.z gM (.z zg (.nil ?_))))
   refine nT ?_
   exact ⟨j+1,.dD rfl (by simp;omega) bj,⟨ak,H2,σ2,hle1.trans g1,hle0.trans g1,gT (by simpa using hc18),hs⟩,ak⟩
 ·refine .exit ?_
  refine xT (xT (xB ?_))
  obtain rfl:L.length=j:=by omega
  exact Fin.zh Tryz.results291 ⟨H1,σb,hle0,hs,.inl (by rw [lO];exact hI)⟩
theorem oJ{v:Value}{L:List Int}(hs:St H w σ)(hr:RI H v L):
  Cl Tryz.prog 265 [v] w fun u w'=>∃H1 b,HLe H H1∧u= .func (.func 291) #[] #[.pointer (some ⟨b,0,none⟩)]∧Iter Tryz.prog 291 [.pointer (some ⟨b,0,none⟩)] H1 (vT L)∧St H1 w' σ:=by
 obtain ⟨a,c,rfl⟩:=RI.shape hr
 refine Cl.o Tryz.func265 Tryz.ntmps265 ag1 ?_
 refine .aj ?_
 refine .bx hs fun b1 w hs=>?_
 refine .z zg (.nil (.aj ?_))
 refine .q hs (dz (f:=[]) (c:=[_]) rfl rfl) ?_
 refine .z zg (.nil ?_)
 refine .ret (Fin.bE Tryz.results265 rfl ?_)
 obtain ⟨H1,g1,g2,hs⟩:=hs.cV .here
 exact ⟨H1,b1,g1,rfl,ng g2 (hr.mono g1),hs⟩
theorem tt{n m:Int}{b:Nat}(hs:St H w σ)(hb:Row H b [I m]):
  Cl Tryz.prog 268 [I n,.pointer (some ⟨b,0,none⟩)] w fun u w'=>u= .bool (decide (n=m))∧St H w' σ:=by
 have hb0:cellAt H b 0=some (I m):=hb.at 0
 refine Cl.o Tryz.func268 Tryz.ntmps268 ag2 ?_
 refine .aj (.z zg (.nil (.aj (.z zm (.y hs (zld ae) (.z gj (.z zg (.nil ?_))))))))
 refine .ret (Fin.bE Tryz.results268 rfl ?_)
 exact ⟨rfl,hs⟩
set_option maxHeartbeats 1000000 in
theorem p6{v:Value}{s:cU}(hs:St H w σ)(hr:RSy H v s):
  Cl Tryz.prog 220 [v] w fun u w'=>∃H1 vx out e,HLe H H1∧u= .tuple #[vx,I e]∧RI H1 vx out∧Ay s out e∧St H1 w' σ:=by
 obtain ⟨ul,rfl,hl⟩:=hr
 obtain ⟨al,cl,rfl⟩:=RL.shape hl
 refine Cl.o Tryz.func220 Tryz.ntmps220 ag1 ?_
 refine .aj ?_
 refine .bx hs fun b1 w hs=>?_
 refine .z zg (.z zg (.nil (.seq (.aj (.y hs (zls [_,_] bG aN) ?_)))))
 refine .o (.call Tryz.call197 rfl (je (s:=s) hs ⟨_,rfl,hl⟩) ?_);rintro _ w ⟨rfl,hs⟩
 refine .z zg (.nil (.aj (.z zm (.z gS (.nil ?_)))))
 refine (.ek rfl (fun hc12=>?_) (fun hc12=>?_))
 ·refine .aj (.z zm (.z zg (.z zg (.nil ?_))))
  refine .ret (rT (?_))
  exact Fin.iZ [] [] hs fun w hs=>⟨_,results2 Tryz.results220 rfl rfl,H,_,[],_,HLe.refl H,rfl,RS.nil H 1 none 0,.bad hc12,hs.out⟩
 ·refine .skip ?_
  refine nT ?_
  refine .seq (.aj (.y hs (zls [_,_] bG aN) ?_))
  have hok:s.Ok:=s.dF.1 (by simpa using hc12)
  have hll:=hok.len
  refine .o (.call Tryz.call223 rfl (jD (s:=s) hs hok ⟨_,rfl,hl⟩) ?_);rintro _ w ⟨H1,bb,hle1,rfl,hbb,hs⟩
  refine .nil ?_
  refine (.cond rfl (fun hc15=>?_) (fun hc15=>?_))
  ·refine .aj (.z zg (.z zg (.nil ?_)))
   refine .ret (rT (?_))
   exact Fin.iZ [] [] hs fun w hs=>⟨_,results2 Tryz.results220 rfl rfl,H1,_,[],_,hle1,rfl,RS.nil H1 1 none 0,.none hok (hbb.1 hc15),hs.out⟩
  ·refine .skip ?_
   refine nT ?_
   refine .aj (.y hs (zls [_,_] bG aN) ?_)
   have hns:¬s.Sound:=fun h=>by rw [hbb.2 h] at hc15;cases hc15
   refine .o (.call Tryz.call264 rfl (lM (s:=s) hs ⟨_,rfl,hl.mono hle1⟩ ak) ?_);rintro v17 w ⟨L,en,hO,hLl,hRise,hs⟩
   obtain ⟨a17,l17,c17,rfl,h17⟩:=hO.shape
   refine .o (.alloc hs fc rfl fun b5 w hs=>?_)
   refine .o (.store hs rfl rfl aC fun w hs=>?_)
   refine .nil (.seq (.aj (.y hs (zls [_,_] bG aN) ?_)))
   refine .o (.call Tryz.call264 rfl (lM (s:=s) hs ⟨_,rfl,hl.mono hle1⟩ ak) ?_);rintro v19 w ⟨L',en',hO',hLl',hRise',hs⟩
   obtain rfl:L=L':=hRise.uniq hRise'
   obtain ⟨H2,hle2,hR19,hs⟩:=cI.eJ hO' ak hs .here
   refine .o (.call Tryz.call265 rfl (oJ hs hR19) ?_);rintro _ w ⟨H3,b20,hle3,rfl,hit,hs⟩
   have hle03:=hle1.trans (hle2.trans hle3)
   refine .nil (.block ?_)
   refine .rangeFunc (gf:=291) (cap:=[.pointer (some ⟨b20,0,none⟩)]) (xs:=vT L) (σb:=[.blk b1 [I s.many,.slice al s.cH.length cl],.blk b5 [.slice a17 l17 c17],en]) (σf:=σ) (hs.sb:St H3 w (.blk b1 _:: .blk b5 _::en::σ)) trivial rfl hit Tryz.call291 (fun x hx=>by
     simp only [vT,List.mem_map] at hx
     obtain ⟨j,_,rfl⟩:=hx;rfl) rfl
    (I:=fun j H' σb=>∃(t:cU) (ut vo:Value) (out:List Int) (en:Ent),σb=[.blk b1 [I t.many,ut],.blk b5 [vo],en]∧RL H' ut t.cH∧cI 1 vo (Is out) en∧out.length≤L.length∧t.Ok∧vj s L (L.length - j) t out) (Ix:=fun _ _ _=>False)
    (fun j _ _ σ g1 ⟨t,ut,vo,out,en,g2,g3,g4⟩=>⟨t,ut,vo,out,en,g2,g3.mono g1,g4⟩) (fun _ _ _ _ _ h=>h)
    ⟨s,_,_,L,en,rfl,hl.mono hle03,hO,Nat.le_refl _,hok,.start⟩ ?_ ?_ (fun D c H' σb w _ h _=>h.elim)
   ·rintro l j hj H4 σb2 σf2 w hle4 ⟨t,ut,vo,out,en,rfl,hut,hOo,hol,htok,hC⟩ hs ⟨rr,hrr⟩
    rw [zr hj]
    have hjL:j<L.length:=by rw [lO] at hj;exact hj
    obtain ⟨at',ct,rfl⟩:=RL.shape hut
    obtain ⟨ao,lo,co,rfl,hlo⟩:=hOo.shape
    refine .region ?_
    refine .o (.alloc hs cB rfl fun b7 w hs=>?_)
    refine .o (.store hs rfl rfl ai fun w hs=>?_)
    refine .nil ?_
    refine nT ?_
    refine ⟨H4,[.blk b7 [I (gi L (L.length - 1 - j))],.blk b1 [I t.many,.slice at' t.cH.length ct],.blk b5 [.slice ao lo co],en],HLe.refl _,hs,?_⟩;rintro w σf4 - hs
    refine .block (.aj (.y hs (zls [_,_] bG aN) (.y hs (zld ae) ?_)))
    refine .o (.buildSlice (cells:=[_]) hs dk rfl rfl fun b25 w hs=>?_)
    obtain ⟨H5,hle5,r25,hs⟩:=cI.eJ (xs:=[gi L (L.length - 1 - j)]) (v:= .slice (some ⟨b25,0,none⟩) 1 1) (.full (len:=1) rfl) cu hs dE
    refine .o (.call Tryz.call266 rfl (rf (s:=t) hs ⟨_,rfl,hut.mono hle5⟩ r25 (by have:=htok.len;omega)) ?_);rintro _ w ⟨H6,hle6,⟨u26,rfl,hL26⟩,hs⟩
    obtain ⟨a26,c26,rfl⟩:=RL.shape hL26
    refine .o (.alloc hs eg rfl fun b8 w hs=>?_)
    refine .o (.aP (vs:=[_,_]) hs rfl rfl aN fun w hs=>?_)
    refine .nil (.aj (.y hs (zls [_,_] bG aN) ?_))
    refine .o (.call Tryz.call223 rfl (jD (s:=t.wo [gi L (L.length - 1 - j)]) hs (htok.wo _) ⟨_,rfl,hL26⟩) ?_);rintro _ w ⟨H7,b28,hle7,rfl,hb28,hs⟩
    have hle47:=hle5.trans (hle6.trans hle7)
    refine .z fW (.nil ?_)
    refine (.cond rfl (fun hc29=>?_) (fun hc29=>?_))
    ·refine .aj (.y hs (zls [_,_] bG aN) ?_)
     refine .o (.aP (vs:=[_,_]) hs rfl rfl aN fun w hs=>?_)
     refine .nil (.region (.y hs (zld an) ?_))
     refine .q hs (dz (f:=[]) (c:=[_]) rfl rfl) ?_
     obtain ⟨H8,hle8,r7,hs⟩:=hs.cV (b:=b7) dE
     replace hs:St H8 w (en:: .blk b1 [I t.many,.slice a26 (t.wo [gi L (L.length - 1 - j)]).cH.length c26]:: .blk b5 [.slice ao lo co]::σf4):=hs.sb
     refine .o (.call Tryz.call267 rfl (nb (g:=268) (cap:=[.pointer (some ⟨b7,0,none⟩)]) (fun n=>decide (n=gi L (L.length - 1 - j))) hs hOo ak Tryz.call268
      (fun H' w σ n _ hle hs=>(tt hs (r7.mono hle)).mono fun u w' ⟨g1,g2⟩=>⟨H',HLe.refl _,g1,g2⟩)) ?_);rintro v33 w ⟨H9,en9,hle9,hO9,hs⟩
     obtain ⟨a33,l33,c33,rfl,h33⟩:=hO9.shape
     refine .o (.store hs rfl rfl aC fun w hs=>?_)
     refine .nil ?_
     refine nB ?_
     have hfl:=List.length_filter_le (fun n=> !decide (n=gi L (L.length - 1 - j))) out
     have e:L.length - (j+1)=L.length - 1 - j:=by omega
     have hns':¬(t.wo [gi L (L.length - 1 - j)]).Sound:=fun h=>by rw [hb28.2 h] at hc29;cases hc29
     exact ⟨H9,[.blk b1 [I t.many,.slice a26 (t.wo [gi L (L.length - 1 - j)]).cH.length c26],.blk b5 [.slice a33 l33 c33],en9],hle47.trans (hle8.trans hle9),(hs.sb:St H9 w (.blk b1 _:: .blk b5 _::en9::σf4)),t.wo [gi L (L.length - 1 - j)],_,_,_,_,rfl,hL26.mono (hle7.trans (hle8.trans hle9)),hO9,ak,htok.wo _,by
      rw [e]
      exact .drop (by rw [show L.length - 1 - j+1=L.length - j by omega];exact hC) hns'⟩
    ·refine .skip ?_
     refine nB ?_
     have e:L.length - (j+1)=L.length - 1 - j:=by omega
     have hsd':(t.wo [gi L (L.length - 1 - j)]).Sound:=hb28.1 (by simpa using hc29)
     exact ⟨H7,[.blk b1 [I t.many,.slice at' t.cH.length ct],.blk b5 [.slice ao lo co],en],hle47,(hs.sb:St H7 w (.blk b1 _:: .blk b5 _::en::σf4)),t,_,_,_,_,rfl,hut.mono hle47,hOo,hol,htok,by
      rw [e]
      exact .keep (by rw [show L.length - 1 - j+1=L.length - j by omega];exact hC) hsd'⟩
   ·rintro D H4 σb2 w hle4 ⟨t,ut,vo,out,en,rfl,hut,hOo,hol,htok,hC⟩ hs
    rw [lO,Nat.sub_self] at hC
    obtain ⟨ao,lo,co,rfl,hlo⟩:=hOo.shape
    replace hs:St H4 w (.obj D (.deferred (some [])):: .blk b1 [I t.many,ut]:: .blk b5 [.slice ao lo co]::en::σ):=hs
    refine nB (nT ?_)
    refine .aj (.y hs (zld an) (.z zg (.z zg (.nil ?_))))
    refine .ret ?_
    obtain ⟨H5,hle5,hR5,hs⟩:=cI.eJ hOo ak hs dE
    exact Fin.iZ [D] [] hs fun w hs=>⟨_,results2 Tryz.results220 rfl rfl,H5,_,out,0,hle03.trans (hle4.trans hle5),rfl,hR5,.ok hok hns hRise hC,hs.out⟩
theorem na{v:Value}{xs:List Int}{g:Nat}{cap:List Value}(q:Int→Prop)(hs:St H w σ)(hR:RI H v xs)(hc:∀args w,(callFunc g args).run Tryz.prog w= .ok (.enter g args) w)
  (hp:∀H' w σ (n:Int),n∈xs→HLe H H'→St H' w σ→Cl Tryz.prog g ([I n]++cap) w fun u w'=>∃H1 b,HLe H' H1∧u= .bool b∧(b=true↔q n)∧St H1 w' σ):
  Cl Tryz.prog 228 [v,.func (.func g) #[] cap.toArray] w fun u w'=>∃H1 i,HLe H H1∧u=I i∧(0≤i↔∃x∈xs,q x)∧St H1 w' σ:=by
 obtain ⟨a,c,rfl⟩:=RI.shape hR
 have hl:=(RI.len hR).2.2
 refine Cl.o Tryz.func228 Tryz.ntmps228 ag2 ?_
 refine .aj (.z zg (.nil (.seq (.aj (.z zm (.z (dp af) (.z zm (.nil ?_))))))))
 refine .for (N:=xs.length) (J:=fun k fr w=>fr=[(1,.func (.func g) #[] cap.toArray),(0,.slice a xs.length c)]∧∃H1,HLe H H1∧(∀j<k,∀y,xs[j]? =some y→¬q y)∧St H1 w σ) ak ?_ ?_ ?_
 ·exact .mk ⟨rfl,H,HLe.refl H,fun j hj=>by omega,hs⟩
 ·rintro k fr w hk ⟨rfl,H1,hle1,hno,hs⟩
  obtain ⟨x,hx⟩:=nth hk
  refine .block (.aj (.z zm (.z zg (.nil (.aj (.z zm (.z zm (.z zm ?_))))))))
  refine .ixY hs (hR.mono hle1) rfl rfl af ai hx rfl ?_;intro b14 o14 hc14
  refine .q hs (aW rfl ae hc14) ?_
  refine .o (.oS (first:=[]) (cap:=cap) rfl rfl hc (hp _ _ _ x (List.mem_of_getElem? hx) hle1 hs) ?_);rintro _ w ⟨H2,b16,hle2,rfl,hb16,hs⟩
  refine .nil ?_
  refine (.cond rfl (fun hc16=>?_) (fun hc16=>?_))
  ·refine .aj (.z zm (.z zg (.nil ?_)))
   refine .ret (rB (rT (rB (rT (Fin.bE tB rfl ?_)))))
   exact ⟨H2,_,hle1.trans hle2,rfl,⟨fun _=>⟨x,List.mem_of_getElem? hx,hb16.1 hc16⟩,fun _=>by omega⟩,hs⟩
  ·refine .skip ?_
   refine nB (nT ?_)
   exact .mk ⟨rfl,H2,hle1.trans hle2,fm hno hx (fun h=>by rw [hb16.2 h] at hc16;cases hc16),hs⟩
 ·rintro fr w ⟨rfl,H1,hle1,hno,hs⟩
  refine nT ?_
  refine .aj (.z zg (.nil ?_))
  refine .ret (Fin.bE tB rfl ?_)
  exact ⟨H1,_,hle1,rfl,⟨fun h=>by omega,fun ⟨x,h1,h2⟩=>by
   obtain ⟨j,hj⟩:=List.getElem?_of_mem h1
   exact (hno j (List.getElem?_eq_some_iff.1 hj).1 x hj h2).elim⟩,hs⟩
theorem lP{v:Value}{xs:List Int}{g:Nat}{cap:List Value}(q:Int→Prop)(hs:St H w σ)(hR:RI H v xs)(hc:∀args w,(callFunc g args).run Tryz.prog w= .ok (.enter g args) w)
  (hp:∀H' w σ (n:Int),n∈xs→HLe H H'→St H' w σ→Cl Tryz.prog g ([I n]++cap) w fun u w'=>∃H1 b,HLe H' H1∧u= .bool b∧(b=true↔q n)∧St H1 w' σ):
  Cl Tryz.prog 185 [v,.func (.func g) #[] cap.toArray] w fun u w'=>∃H1 b,HLe H H1∧u= .bool b∧(b=true↔∃x∈xs,q x)∧St H1 w' σ:=by
 refine Cl.o Tryz.func185 Tryz.ntmps185 ag2 ?_
 refine .aj (.z zg (.nil (.aj (.z zm (.z zm ?_)))))
 refine .o (.call Tryz.call228 rfl (na q hs hR hc hp) ?_);rintro _ w ⟨H1,i,hle1,rfl,hi,hs⟩
 refine .z uc (.z zg (.nil ?_))
 refine .ret (Fin.bE Tryz.results185 rfl ?_)
 exact ⟨H1,_,hle1,rfl,by simp only [decide_eq_true_eq];exact hi,hs⟩
end Go.Proofs.YteajddicacjkhaaGreat
namespace Go.Proofs.YteajddicacjkhaaGreat
open Go.MW
theorem RI.one{H:bV}{a:Option Addr}{len cap k:Nat}{xs:List Int}(h:RI H (.slice a len cap) xs)(hk:k<len):RI H (.slice (if cap=k then a else a.map (·.add (k*1))) (k+1 - k) (cap - k)) [gi xs k]:=by
 have hl:=(RI.len h).1
 have h1:=RS.part h (lo:=k) (hi:=k+1) ak ak
 have e:(((xs.map fun x=>[I x]).take (k+1)).drop k)=[gi xs k].map fun x=>[I x]:=by
  rw [←List.map_take,←List.map_drop]
  congr 1
  have hx:=bU (l:=xs) (i:=k) ak
  rw [dh hx]
  exact List.drop_left' (by rw [List.length_take];omega)
 rw [e] at h1
 exact h1
end Go.Proofs.YteajddicacjkhaaGreat
namespace Go.Proofs.YteajddicacjkhaaGreat
open Go.MW
variable{H:bV}{w:World}{σ:List Ent}
theorem pB{a0 a1 a2:Int}(hs:St H w σ):Cl Tryz.prog 284 [I a0,I a1,I a2] w fun v w'=>v= .bool (decide (a1≤a0∧a0≤a2))∧St H w' σ:=by
 refine Cl.o Tryz.func284 Tryz.ntmps284 ag3 ?_
 refine .aj (.z zg (.nil (.aj (.z zm (.z zm (.z oF (.z zm ?_)))))))
 refine .iW (t':=10) rfl (fun hb10=>?_) (fun hb10=>?_)
 ·refine .gT rfl rfl ?_
  refine .z zm ?_
  refine .gT rfl rfl ?_
  refine .z zm ?_
  refine .gT rfl rfl ?_
  refine .z oF (.z zpT (.z zg (.nil ?_)))
  refine .ret (Fin.bE Tryz.results284 rfl ?_)
  exact ⟨by simp [*],hs.out⟩
 ·refine .gFs 3 3 true rfl rfl rfl ?_
  refine .z zpF (.z zg (.nil ?_))
  refine .ret (Fin.bE Tryz.results284 rfl ?_)
  exact ⟨by simp [*],hs.out⟩
theorem iQ{v:Value}{l:List Int}{many:Nat}{most:Int}(hs:St H w σ)(hr:RI H v l):
  Cl Tryz.prog 259 [v,I many,I most] w fun v w'=>∃b:Bool,v= .bool b∧(b=true↔fU many most l)∧St H w' σ:=by
 obtain ⟨a,c,rfl⟩:=RI.shape hr
 have hlen:=(RI.len hr).2.2
 refine Cl.o Tryz.func259 Tryz.ntmps259 ag3 ?_
 refine .aj (.z zg (.nil (.seq (.aj (.z zm (.z (dp af) (.z zm ?_)))))))
 refine .o (.call Tryz.call284 rfl (pB hs) ?_);rintro _ w ⟨rfl,hs⟩
 refine .z fW (.z zm ?_)
 refine .bif (t':=14) rfl (fun hb14=>?_) (fun hb14=>?_)
 ·refine .gFs 4 5 false rfl rfl rfl ?_
  refine .z zpT (.z zm ?_)
  refine .gFs 8 11 false rfl rfl rfl ?_
  refine .z zpT (.nil ?_)
  refine (.cT ?_)
  refine .aj (.z zg (.nil ?_))
  refine .ret (rT (Fin.bE B9 rfl ?_))
  exact ⟨false,rfl,⟨fun h=>(by cases h),fun h=>by have:=h.two;have:=h.many;simp at hb14;omega⟩,hs⟩
 ·refine .gT rfl rfl ?_
  refine .z zm ?_
  refine .gT rfl rfl ?_
  have htwo:2≤l.length∧l.length≤many:=by simp at hb14;omega
  refine .ixY hs hr rfl rfl af ai (bU (l:=l) (i:=0) ak) de ?_;intro b16 o16 hc16
  refine .gT rfl rfl ?_
  refine .q hs (aW rfl ae hc16) ?_
  refine .gT rfl rfl ?_
  refine .z iK (.z zpF (.z zm ?_))
  refine .iW (t':=20) rfl (fun hb20=>?_) (fun hb20=>?_)
  ·refine .gFs 8 11 false rfl rfl rfl ?_
   refine .z zpT (.nil ?_)
   refine (.cT ?_)
   refine .aj (.z zg (.nil ?_))
   refine .ret (rT (Fin.bE B9 rfl ?_))
   exact ⟨false,rfl,⟨fun h=>(by cases h),fun h=>by have:=h.low;omega⟩,hs⟩
  ·refine .gT rfl rfl ?_
   refine .z zm ?_
   refine .gT rfl rfl ?_
   refine .z zm ?_
   refine .gT rfl rfl ?_
   refine .z (dp af) ?_
   refine .gT rfl rfl ?_
   refine .z gM ?_
   refine .gT rfl rfl ?_
   refine .ixY hs hr rfl rfl af ai (bU (l:=l) (i:=(l.length - 1)) ak) de ?_;intro b25 o25 hc25
   refine .gT rfl rfl ?_
   refine .q hs (aW rfl ae hc25) ?_
   refine .gT rfl rfl ?_
   refine .z zm ?_
   refine .gT rfl rfl ?_
   refine .z mI (.z zpF (.nil ?_))
   refine (.bH rfl (fun hc29=>?_) (fun hc29=>?_))
   ·refine .aj (.z zg (.nil ?_))
    refine .ret (rT (Fin.bE B9 rfl ?_))
    exact ⟨false,rfl,⟨fun h=>(by cases h),fun h=>by have:=h.high;omega⟩,hs⟩
   ·refine .skip ?_
    refine nT ?_
    refine .seq (.aj (.z zm ?_))
    refine .q hs (CG (k:=1) rfl rfl af ai ak ak) ?_
    refine .z (dp af) (.z zm (.nil ?_))
    refine .for (N:=l.length - 1) (J:=fun k fr w=>fr=[(31,.slice (if c=1 then a else a.map (·.add (1*1))) (l.length - 1) (c - 1)),(0,.slice a l.length c)]∧(∀j<k,gi l j<gi l (j+1))∧St H w σ) ak ?_ ?_ ?_
    ·exact .mk ⟨rfl,fun j hj=>by omega,hs⟩
    ·rintro k fr w hk ⟨rfl,hno,hs⟩
     have ht:=hr.tail (k:=1) ak
     have hx:(l.drop 1)[k]? =some (gi l (k+1)):=by rw [List.getElem?_drop,Nat.add_comm];exact bU ak
     refine .block (.aj (.z zm ?_))
     refine .ixY hs ht rfl rfl af ai hx rfl ?_;intro b36 o36 hc36
     refine .q hs (aW rfl ae hc36) ?_
     refine .z zg (.z zg (.nil (.aj (.z zm (.z zm ?_)))))
     refine .ixY hs hr rfl rfl af ai (bU (l:=l) (i:=k) ak) de ?_;intro b40 o40 hc40
     refine .q hs (aW rfl ae hc40) ?_
     refine .z zm (.z uc (.nil ?_))
     refine (.bH rfl (fun hc43=>?_) (fun hc43=>?_))
     ·refine .aj (.z zg (.nil ?_))
      refine .ret (rB (rT (rB (rT (Fin.bE B9 rfl ?_)))))
      exact ⟨false,rfl,⟨fun h=>(by cases h),fun h=>by have:=h.rise k ak;omega⟩,hs⟩
     ·refine .skip ?_
      refine nB (nT ?_)
      exact .mk ⟨rfl,fun j hj=>by
       by_cases e:j=k
       ·subst e;omega
       ·exact hno j ak,hs⟩
    ·rintro fr w ⟨rfl,hno,hs⟩
     refine nT ?_
     refine .aj (.z zg (.nil ?_))
     refine .ret (Fin.bE B9 rfl ?_)
     exact ⟨true,rfl,⟨fun _=>⟨ak,ak,ak,ak,fun i hi=>hno i ak⟩,fun _=>rfl⟩,hs⟩
theorem m8{v:Value}{l:List Int}(hs:St H w σ)(hr:RI H v l):
  Cl Tryz.prog 299 [v] w fun v w'=>∃e,v=I e∧((fU 9 100000 l∧e=0)∨(¬fU 9 100000 l∧e≠0))∧St H w' σ:=by
 obtain ⟨a,c,rfl⟩:=RI.shape hr
 refine Cl.o Tryz.func299 Tryz.ntmps299 ag1 ?_
 refine .aj (.z zg (.nil (.seq (.aj (.z zm ?_)))))
 refine .o (.call Tryz.call259 rfl (iQ (many:=9) (most:=100000) hs hr) ?_);rintro _ w ⟨b4,rfl,hb4,hs⟩
 refine .z fW (.nil ?_)
 refine (.cond rfl (fun hc5=>?_) (fun hc5=>?_))
 ·refine .aj (.z zg (.nil ?_))
  refine .ret (rT (Fin.bE Tryz.results299 rfl ?_))
  exact ⟨_,rfl,.inr ⟨fun h=>by simp [hb4.2 h] at hc5,by decide⟩,hs⟩
 ·refine .skip ?_
  refine nT ?_
  refine .aj (.z zg (.nil ?_))
  refine .ret (Fin.bE Tryz.results299 rfl ?_)
  exact ⟨_,rfl,.inl ⟨hb4.1 (by simpa using hc5),rfl⟩,hs⟩
theorem iY{a b:Int}(hs:St H w σ)(ha:0<a)(hb:0<b∧b≤100000):
  Cl Tryz.prog 287 [I a,I b] w fun v w'=>v=I (rat a b)∧St H w' σ:=by
 have h1:0≤b.tdiv a:=Int.tdiv_nonneg ak ak
 have h2:b.tdiv a≤b:=by rw [Int.tdiv_eq_ediv_of_nonneg ak];exact Int.ediv_le_self _ ak
 have hw:=lS (m:=b.tdiv a) ⟨ak,ak⟩
 refine Cl.o Tryz.func287 Tryz.ntmps287 ag2 ?_
 refine .aj (.z zg (.nil (.seq (.aj (.z zm (.z zm (.z AA (.z gj (.z zm ?_)))))))))
 refine .iW (t':=9) rfl (fun hb9=>?_) (fun hb9=>?_)
 ·refine .gT rfl rfl ?_
  refine .z zm ?_
  refine .gT rfl rfl ?_
  refine .z zm ?_
  refine .gT rfl rfl ?_
  refine .z Hm ?_
  refine .gT rfl rfl ?_
  refine .z oF (.z zpT (.nil ?_))
  refine (.bH rfl (fun hc14=>?_) (fun hc14=>?_))
  ·refine .aj (.z zm (.z zm (.z Hm (.z zg (.nil ?_)))))
   refine .ret (rT (Fin.bE Tryz.results287 rfl ?_))
   rw [hw] at hc14 ⊢
   exact ⟨by unfold rat;rw [if_pos ⟨by assumption,by assumption⟩],hs⟩
  ·refine .skip ?_
   refine nT ?_
   refine .aj (.z zg (.nil ?_))
   refine .ret (Fin.bE Tryz.results287 rfl ?_)
   rw [hw] at hc14
   exact ⟨by unfold rat;rw [if_neg ak],hs⟩
 ·refine .gFs 4 4 true rfl rfl rfl ?_
  refine .z zpF (.nil ?_)
  refine (.cF ?_)
  refine .skip ?_
  refine nT ?_
  refine .aj (.z zg (.nil ?_))
  refine .ret (Fin.bE Tryz.results287 rfl ?_)
  exact ⟨by unfold rat;rw [if_neg ak],hs⟩
def qS(l:List Int):List (List Value):=(xy l).map fun g=>[Value.agg #[I (g.at_:Int),I (g.n:Int)]]
theorem Cf{l:List Int}(hp:fU 9 100000 l){i:Nat}(h:i+2<l.length):gU l i=true↔0<rat (gi l (i+1) - gi l i) (gi l (i+2) - gi l (i+1))∨0<rat (gi l (i+2) - gi l (i+1)) (gi l (i+1) - gi l i):=by
 have h1:=hp.rise i ak
 have h2:gi l (i+1)<gi l (i+2):=hp.rise (i+1) ak
 unfold gU
 rw [Cm ak ak]
 simp only [Bool.and_eq_true,decide_eq_true_eq]
 omega
theorem pC{H:bV}{b:Nat}{v:Value}{l:List Int}(hp:fU 9 100000 l)(hb:Row H b [v])(hr:RI H v l):Iter Tryz.prog 302 [.pointer (some ⟨b,0,none⟩)] H (qS l):=by
 intro ly II Ix _ _ hy H0 σb0 σf w hle hI0 hs
 obtain ⟨a,c,rfl⟩:=RI.shape hr
 have hlen:=hp.many
 have hb0:cellAt H0 b 0=some (.slice a l.length c):=cellAt.mono (hb.at 0) hle
 refine Cl.o Tryz.func302 Tryz.ntmps302 ag2 ?_
 refine .aj (.z zg (.nil (.block ?_)))
 refine .loop (fun i:Nat=>⟨59,[],[(3,I (i:Int)),(0,.func (.yield ly) #[] #[]),(1,.pointer (some ⟨b,0,none⟩))]⟩)
  (fun i w=>i≤l.length∧∃j,j≤(xy l).length∧(xy l).drop j=pc l i∧∃H1 σb,HLe H H1∧HLe H0 H1∧II j H1 σb∧St H1 w (σb++σf)) (fun i=>l.length - i) 0 (.dD rfl cu bj)
  ⟨Nat.zero_le _,0,Nat.zero_le _,rfl,H0,σb0,hle,HLe.refl _,hI0,hs⟩ ?_
 clear hs hI0
 rintro i w ⟨hil,j,hj,hd,H1,σb,hle1,hle0,hI,hs⟩
 have hb1:cellAt H1 b 0=some (.slice a l.length c):=cellAt.mono hb0 hle0
 refine .seq (.aj (.z zm (.z cP (.y hs (zld an) (.z (dp af) (.z iK (.nil ?_)))))))
 refine (.bH rfl (fun hc11=>?_) (fun hc11=>?_))
 ·refine .skip ?_
  refine nT ?_
  refine .block (.aj (.z zm (.z (zbd [_,_] xR) ?_)))
  refine .o (.alloc hs Tryz.zeroValue315 rfl fun b4 w hs=>?_)
  refine .o (.aP (vs:=[_,_]) hs rfl rfl Tryz.sizeOf315 fun w hs=>?_)
  refine .nil ?_
  refine .cut (fun fs w=>kJ fs ⟨59,[],[(4,.pointer (some ⟨b4,0,none⟩)),(3,I (i:Int)),(0,.func (.yield ly) #[] #[]),(1,.pointer (some ⟨b,0,none⟩))]⟩∧St H1 w (.blk b4 [I (i:Int),I (((if gU l i then 2 else 1:Nat)):Int)]::(σb++σf))) ?_ ?_
  ·refine .aj (.z zm (.z cP (.y hs (zld an) (.z (dp af) (.z iK (.nil ?_))))))
   refine (.bH rfl (fun hc18=>?_) (fun hc18=>?_))
   ·refine .seq (.draw mix rfl hs fun w hs=>?_)
    refine .y 0 rfl hs an ?_;refine .z 1 rfl zm ?_;refine .z 2 rfl cP ?_
    have r1:=hp.rise i ak
    have r2:gi l (i+1)<gi l (i+2):=hp.rise (i+1) ak
    have hiff:=Cf hp (i:=i) ak
    have q1:=hp.bd (i:=i) ak
    have q2:=hp.bd (i:=i+2) ak
    refine .ixX (enc:=fun x=>[I x]) (i:=3) hs rfl aq .none (hr.mono hle1) rfl rfl af ai (bU (l:=l) (i:=(i+1)) ak) de ?_;intro b22 o22 hc22;replace hc22:=cg.one hc22
    refine .r (i:=4) hs rfl aq .none (aW rfl ae hc22) ?_
    refine .y 5 rfl hs an ?_;refine .z 6 rfl zm ?_
    refine .ixX (enc:=fun x=>[I x]) (i:=7) hs rfl aq .none (hr.mono hle1) rfl rfl af ai (bU (l:=l) (i:=i) ak) de ?_;intro b26 o26 hc26;replace hc26:=cg.one hc26
    refine .r (i:=8) hs rfl aq .none (aW rfl ae hc26) ?_
    refine .z 9 rfl gM ?_;refine .y 10 rfl hs an ?_;refine .z 11 rfl zm ?_;refine .z 12 rfl cP ?_
    refine .ixX (enc:=fun x=>[I x]) (i:=13) hs rfl aq .none (hr.mono hle1) rfl rfl af ai (bU (l:=l) (i:=(i+2)) ak) de ?_;intro b32 o32 hc32;replace hc32:=cg.one hc32
    refine .r (i:=14) hs rfl aq .none (aW rfl ae hc32) ?_
    refine .y 15 rfl hs an ?_;refine .z 16 rfl zm ?_;refine .z 17 rfl cP ?_
    refine .ixX (enc:=fun x=>[I x]) (i:=18) hs rfl aq .none (hr.mono hle1) rfl rfl af ai (bU (l:=l) (i:=(i+1)) ak) de ?_;intro b37 o37 hc37;replace hc37:=cg.one hc37
    refine .r (i:=19) hs rfl aq .none (aW rfl ae hc37) ?_
    refine .z 20 rfl gM ?_;refine .z 21 rfl zg ?_;refine .z 22 rfl zg ?_;refine .D hs ?_
    refine .aj (.z zm (.z zm ?_))
    refine .o (.call Tryz.call287 rfl (iY hs ak ak) ?_);rintro _ w ⟨rfl,hs⟩
    refine .z mI (.z zm ?_)
    refine .iW (t':=44) rfl (fun hb44=>?_) (fun hb44=>?_)
    ·refine .gFs 4 4 false rfl rfl rfl ?_
     refine .z zpT (.nil ?_)
     refine (.cT ?_)
     refine .region (.z (zfa jU) ?_)
     refine .o (.store hs rfl rfl ai fun w hs=>?_)
     refine .nil ?_
     refine nT ?_
     rw [hiff.2 (.inl hb44)];exact ⟨bj,hs⟩
    ·refine .gT rfl rfl ?_
     refine .z zm ?_
     refine .gT rfl rfl ?_
     refine .z zm ?_
     refine .gT rfl rfl ?_
     refine .o (.call Tryz.call287 rfl (iY hs ak ak) ?_);rintro _ w ⟨rfl,hs⟩
     refine .gT rfl rfl ?_
     refine .z mI (.z zpF (.nil ?_))
     refine (.bH rfl (fun hc49=>?_) (fun hc49=>?_))
     ·refine .region (.z (zfa jU) ?_)
      refine .o (.store hs rfl rfl ai fun w hs=>?_)
      refine .nil ?_
      refine nT ?_
      rw [hiff.2 (.inr hc49)];exact ⟨bj,hs⟩
     ·refine .skip ?_
      refine nT ?_
      rw [show gU l i=false from Bool.eq_false_iff.2 fun h=>by have:=hiff.1 h;omega];exact ⟨bj,hs⟩
   ·refine .skip ?_
    refine nT ?_
    rw [show gU l i=false by simp [gU];omega];exact ⟨bj,hs⟩
  ·rintro fs w ⟨hfs,hs⟩
   refine WE.sub ?_ hfs
   have hgo:=yZ (l:=l) (i:=i) ak
   rw [hgo] at hd
   have hjl:j<(xy l).length:=by
    have:=congrArg List.length hd
    simp at this;omega
   have hgj:(xy l)[j]=⟨i,gU l i⟩:=by
    rw [List.drop_eq_getElem_cons hjl] at hd
    exact (List.cons.inj hd).1
   have hdj:(xy l).drop (j+1)=pc l (i+(if gU l i then 2 else 1)):=by
    rw [List.drop_eq_getElem_cons hjl] at hd
    exact (List.cons.inj hd).2
   have hn12:(if gU l i then 2 else 1:Nat)=1∨(if gU l i then 2 else 1:Nat)=2:=by split<;>simp
   refine .seq (.aj (.z zm (.y hs (zls [_,_] Tryz.isAgg315 Tryz.sizeOf315) ?_)))
   have hk':j<(qS l).length:=by simpa [qS] using hjl
   have hyd:=hy j hk' H1 σb (.blk b4 [I (i:Int),I (((if gU l i then 2 else 1:Nat)):Int)]::σf) w hle1 hI (St.deep hs)
   rw [show (qS l)[j]=[Value.agg #[I (i:Int),I (((if gU l i then 2 else 1:Nat)):Int)]] by simp only [qS,List.getElem_map,hgj];rfl] at hyd
   refine .o (.yield rfl rfl hyd ?_);rintro v53 w ⟨H2,σ2,g1,hs,g3⟩
   obtain ⟨bb,rfl,gT,gF⟩:=nv g3
   replace hs:=St.shallow hs
   refine .z fW (.nil ?_)
   refine (.cond rfl (fun hc54=>?_) (fun hc54=>?_))
   ·refine .ret (rT (rB (rT (rB (Fin.Hn Tryz.results302 ?_)))))
    exact ⟨H2,σ2,hle0.trans g1,hs.tail,.inr (gF (by simpa using hc54))⟩
   ·refine .skip ?_
    refine nT ?_
    refine .region (.z zm (.z (zfa jU) (.y hs (zld ae) (.z cP (.z zg (.nil ?_))))))
    refine nB (nT ?_)
    generalize (if gU l i then 2 else 1:Nat)=n at*
    exact ⟨i+n,.dD rfl cu bj,⟨ak,j+1,hjl,hdj,H2,σ2,hle1.trans g1,hle0.trans g1,gT (by simpa using hc54),hs.tail⟩,ak⟩
 ·refine .exit ?_
  refine xT (xT (xB ?_))
  rw [wI ak] at hd
  have:(xy l).length≤j:=by simpa using hd
  obtain rfl:j=(xy l).length:=by omega
  exact Fin.zh Tryz.results302 ⟨H1,σb,hle0,hs,.inl (by simpa [qS] using hI)⟩
theorem rI{v:Value}{l:List Int}(hs:St H w σ)(hr:RI H v l)(hp:fU 9 100000 l):
  Cl Tryz.prog 286 [v] w fun u w'=>∃H1 b,HLe H H1∧u= .func (.func 302) #[] #[.pointer (some ⟨b,0,none⟩)]∧Iter Tryz.prog 302 [.pointer (some ⟨b,0,none⟩)] H1 (qS l)∧St H1 w' σ:=by
 obtain ⟨a,c,rfl⟩:=RI.shape hr
 refine Cl.o Tryz.func286 Tryz.ntmps286 ag1 ?_
 refine .aj ?_
 refine .bx hs fun b1 w hs=>?_
 refine .z zg (.nil (.aj ?_))
 refine .q hs (dz (f:=[]) (c:=[_]) rfl rfl) ?_
 refine .z zg (.nil ?_)
 refine .ret (Fin.bE Tryz.results286 rfl ?_)
 obtain ⟨H1,g1,g2,hs⟩:=hs.cV .here
 exact ⟨H1,b1,g1,rfl,pC hp g2 (hr.mono g1),hs⟩
theorem pa{bs bW from_ n:Nat}{W xs:List Int}{v:Value}(hs:St H w (.blk bs [.slice (some ⟨bW,0,none⟩) n n]:: .blk bW (Is W)::σ))(hW:W.length=n)(hr:RI H v xs)(hl:from_+xs.length≤n)(hn:n≤9)
  (hz:bN W n≤1000000000) (ha:wS xs≤1000000000):
  Cl Tryz.prog 285 [.pointer (some ⟨bs,0,none⟩),I (from_:Int),v] w fun _ w'=>St H w' (.blk bs [.slice (some ⟨bW,0,none⟩) n n]:: .blk bW (Is (lX W from_ xs))::σ):=by
 obtain ⟨a,c,rfl⟩:=RI.shape hr
 have hlen:=(RI.len hr).2.2
 refine Cl.o Tryz.func285 Tryz.ntmps285 ag3 ?_
 refine .aj (.z zm (.z (dp af) (.z zm (.nil ?_))))
 refine .for (N:=xs.length) (J:=fun k fr w=>fr=[(8,.slice a xs.length c),(0,.pointer (some ⟨bs,0,none⟩)),(1,I (from_:Int))]∧St H w (.blk bs [.slice (some ⟨bW,0,none⟩) n n]:: .blk bW (Is (lX W from_ (xs.take k)))::σ)) ak ?_ ?_ ?_
 ·exact .mk ⟨rfl,hs⟩
 ·rintro k fr w hk ⟨rfl,hs⟩
  have hal:=oq (xs.take k) W from_
  have hsz:=qb (xs.take k) W from_ (by rw [List.length_take];omega)
  rw [hW] at hsz
  have h1:=zu xs k
  have h2:=DK xs k
  have h3:=ox (lX W from_ (xs.take k)) (v:=from_+k) (n:=n) ak
  have h4:=BR hk W from_
  refine .block (.aj (.z zm ?_))
  refine .ixY hs hr rfl rfl af ai (bU (l:=xs) (i:=k) ak) de ?_;intro b13 o13 hc13
  refine .q hs (aW rfl ae hc13) ?_
  refine .z zg (.z zg (.nil (.region (.z zm (.z znc (.z (zfa ph) (.y hs (zld an) (.z zm (.z zm ?_)))))))))
  refine .z cP ?_
  refine .q hs (lh (k:=from_+k) rfl rfl af ai ak ak) ?_
  refine .y hs (zld ae) (.z zm (.z cP ?_))
  refine .q hs (lh (k:=from_+k) rfl rfl af ai ak ak) ?_
  refine .o (.store hs rfl rfl ai fun w hs=>?_)
  refine .nil ?_
  refine nB (nT ?_)
  exact .mk ⟨rfl,by rw [h4];exact hs⟩
 ·rintro fr w ⟨rfl,hs⟩
  rw [List.take_length] at hs
  exact Fin.zh Tryz.results285 hs
theorem BG{a b:Int}(ha:0<a∧a≤100000)(hb:0<b∧b≤100000):0≤min a b∧min a b≤100000:=by omega
theorem Gs{a b:Int}(h:0<tms a b):tms a b=1∨tms a b=2∨tms a b=3:=by have:=FX a b;omega
set_option maxHeartbeats 1000000 in
theorem jw{v:Value}{l:List Int}(hs:St H w σ)(hr:RI H v l)(hp:fU 9 100000 l):
  Cl Tryz.prog 260 [v] w fun u w'=>∃H1,HLe H H1∧RI H1 u (wts l)∧St H1 w' σ:=by
 obtain ⟨a,c,rfl⟩:=RI.shape hr
 have hln:=hp.many
 have hgl:(xy l).length≤9:=by have:=sM l l.length 0;unfold xy;omega
 refine Cl.o Tryz.func260 Tryz.ntmps260 ag1 ?_
 refine .aj ?_
 refine .bx hs fun b1 w hs=>?_
 refine .z zg (.nil (.aj (.y hs (zld an) (.z (dp af) ?_))))
 refine .o (.yP l.length hs rfl rfl af jK rfl ai cB ak fun b13 w hs=>?_)
 refine .z (zbd [_] xQ) ?_
 refine .o (.alloc hs Tryz.zeroValue317 rfl fun b3 w hs=>?_)
 refine .o (.aP (vs:=[_]) hs rfl rfl Tryz.sizeOf317 fun w hs=>?_)
 refine .nil (.aj ?_)
 refine .q hs (dz (f:=[_]) (c:=[]) rfl rfl) ?_
 refine .o (.alloc hs Tryz.zeroValue318 rfl fun b4 w hs=>?_)
 refine .o (.store hs rfl rfl Tryz.sizeOf318 fun w hs=>?_)
 refine .nil (.seq (.aj (.y hs (zld an) ?_)))
 refine .o (.call Tryz.call286 rfl (rI hs hr hp) ?_);rintro _ w ⟨H1,b17,hle1,rfl,hit,hs⟩
 refine .nil (.block ?_)
 refine .rangeFunc (gf:=302) (cap:=[.pointer (some ⟨b17,0,none⟩)]) (xs:=qS l) (σb:=[.blk b3 [.slice (some ⟨b13,0,none⟩) l.length l.length],.blk b13 (Is (zH l 0)),.blk b4 [.func (.func 285) #[.pointer (some ⟨b3,0,none⟩)] #[]],.blk b1 [.slice a l.length c]]) (σf:=σ) (hs.sb) trivial rfl hit Tryz.call302 (fun x hx=>by
   simp only [qS,List.mem_map] at hx
   obtain ⟨j,_,rfl⟩:=hx;rfl) rfl
  (I:=fun j H' σb=>σb=[.blk b3 [.slice (some ⟨b13,0,none⟩) l.length l.length],.blk b13 (Is (zH l j)),.blk b4 [.func (.func 285) #[.pointer (some ⟨b3,0,none⟩)] #[]],.blk b1 [.slice a l.length c]]) (Ix:=fun _ _ _=>False)
  (fun j _ _ σ g1 g2=>g2) (fun _ _ _ _ _ h=>h) rfl ?_ ?_ (fun D c H' σb w _ h _=>h.elim)
 ·rintro ly j hj H2 σb2 σf2 w hle2 rfl hs ⟨rr,hrr⟩
  have hjl:j<(xy l).length:=by simpa [qS] using hj
  obtain ⟨g,hg⟩:=nth hjl
  rw [show (qS l)[j]=[Value.agg #[I (g.at_:Int),I (g.n:Int)]] by
   rw [List.getElem?_eq_getElem hjl] at hg
   simp only [qS,List.getElem_map,Option.some.inj hg]]
  obtain ⟨i1,i2,i3,i4,i5⟩:=y0 hp (List.mem_of_getElem? hg)
  have hK:=yi hg
  have hKl:=pz l j
  have hKz:=we hp j ak
  have hr2:=hr.mono (hle1.trans hle2)
  have hq0:=hp.bd (i:=g.at_) ak
  have hq1:=hp.bd (i:=g.at_+1) ak
  generalize hA:gi l (g.at_+1) - gi l g.at_=A at*
  refine .region ?_
  refine .o (.alloc hs Tryz.zeroValue315 rfl fun b5 w hs=>?_)
  refine .o (.aP (vs:=[_,_]) hs rfl rfl Tryz.sizeOf315 fun w hs=>?_)
  refine .nil ?_
  refine nT ?_
  refine ⟨H2,[.blk b5 [I (g.at_:Int),I (g.n:Int)],.blk b3 [.slice (some ⟨b13,0,none⟩) l.length l.length],.blk b13 (Is (zH l j)),.blk b4 [.func (.func 285) #[.pointer (some ⟨b3,0,none⟩)] #[]],.blk b1 [.slice a l.length c]],HLe.refl _,hs,?_⟩;rintro w σf4 - hs
  refine .block ?_
  refine .seq (.draw mix rfl hs fun w hs=>?_)
  refine .y 0 rfl hs an ?_;refine .z 1 rfl (zfa ib) ?_;refine .y 2 rfl hs ae ?_;refine .z 3 rfl cP ?_
  refine .ixX (enc:=fun x=>[I x]) (i:=4) hs rfl aq .none hr2 rfl rfl af ai (bU (l:=l) (i:=(g.at_+1)) ak) de ?_;intro b23 o23 hc23;replace hc23:=cg.one hc23
  refine .r (i:=5) hs rfl aq .none (aW rfl ae hc23) ?_
  refine .y 6 rfl hs an ?_;refine .z 7 rfl (zfa ib) ?_;refine .y 8 rfl hs ae ?_
  refine .ixX (enc:=fun x=>[I x]) (i:=9) hs rfl aq .none hr2 rfl rfl af ai (bU (l:=l) (i:=g.at_) ak) de ?_;intro b28 o28 hc28;replace hc28:=cg.one hc28
  refine .r (i:=10) hs rfl aq .none (aW rfl ae hc28) ?_
  refine .z 11 rfl gM ?_
  rw [hA]
  refine .z 12 rfl zg ?_;refine .D hs ?_
  refine .seq (.aj (.z (zfa jU) (.y hs (zld ae) (.z gj ?_))))
  skip
  refine .nil ?_
  refine (.bH rfl (fun hc33=>?_) (fun hc33=>?_))
  ·refine .aj ?_
   refine .y hs (zld Tryz.isAgg318) ?_
   refine .z (zfa ib) (.y hs (zld ae) (.z zm (.z lz (.z zm (.z lz ?_)))))
   refine .o (.buildSlice (cells:=[_,_]) hs kd rfl rfl fun b41 w hs=>?_)
   have h2:g.two=false:=by
    cases e:g.two with
    |false=>rfl
    |true=>simp [Grp.n,e] at hc33
   obtain ⟨H3,hle3,r41,hs⟩:=cI.eJ (xs:=[18*A,18*A]) (v:= .slice (some ⟨b41,0,none⟩) 2 2) (.full (len:=2) rfl) cu hs dE
   have hgw:=Fl h2 hA
   rw [hgw] at hK i5
   replace hs:St H3 w (.blk b3 [.slice (some ⟨b13,0,none⟩) l.length l.length]:: .blk b13 (Is (zH l j)):: .blk b5 [I (g.at_:Int),I (g.n:Int)]:: .blk b4 [.func (.func 285) #[.pointer (some ⟨b3,0,none⟩)] #[]]:: .blk b1 [.slice a l.length c]::σf4):=hs.sb
   refine .o (.oS (first:=[.pointer (some ⟨b3,0,none⟩)]) (cap:=[]) rfl rfl Tryz.call285 (pa (from_:=g.at_) (xs:=[18*A,18*A]) hs hKl r41 (by simp;omega) ak ak ak) ?_);rintro _ w hs
   rw [←hK] at hs
   refine .nil ?_
   refine .exit ?_
   refine xT (xB ?_)
   exact ⟨H3,_,hle3,(hs.sb:St H3 w (.blk b3 _:: .blk b13 _:: .blk b4 _:: .blk b1 _::σf4)),rfl⟩
  ·refine .skip ?_
   refine nT ?_
   refine .seq (.draw mix rfl hs fun w hs=>?_)
   have h2:g.two=true:=by
    cases e:g.two with
    |true=>rfl
    |false=>simp [Grp.n,e] at hc33
   obtain ⟨j1,j2,j3,j4⟩:=i4 h2
   have hq2:=hp.bd (i:=g.at_+2) ak
   generalize hB:gi l (g.at_+2) - gi l (g.at_+1)=B at*
   have hmx:=Cm (a:=A) (b:=B) ak ak
   have hk:=Gs j4
   have hmm:=BG (a:=A) (b:=B) ⟨ak,ak⟩ ⟨ak,ak⟩
   obtain ⟨n1,n2,n3,n4⟩:=Fj hk hmm.1 hmm.2
   obtain ⟨n5,n6,n7,n8,n9⟩:=n4 _ n3.1 n3.2
   generalize hT:tms A B=T at*
   generalize hM:min A B=M at*
   have hgw:=Fk h2 hA hB hT hM
   refine .y 0 rfl hs an ?_;refine .z 1 rfl (zfa ib) ?_;refine .y 2 rfl hs ae ?_;refine .z 3 rfl cP ?_
   refine .ixX (enc:=fun x=>[I x]) (i:=4) hs rfl aq .none hr2 rfl rfl af ai (bU (l:=l) (i:=(g.at_+2)) ak) de ?_;intro b47 o47 hc47;replace hc47:=cg.one hc47
   refine .r (i:=5) hs rfl aq .none (aW rfl ae hc47) ?_
   refine .y 6 rfl hs an ?_;refine .z 7 rfl (zfa ib) ?_;refine .y 8 rfl hs ae ?_;refine .z 9 rfl cP ?_
   refine .ixX (enc:=fun x=>[I x]) (i:=10) hs rfl aq .none hr2 rfl rfl af ai (bU (l:=l) (i:=(g.at_+1)) ak) de ?_;intro b53 o53 hc53;replace hc53:=cg.one hc53
   refine .r (i:=11) hs rfl aq .none (aW rfl ae hc53) ?_
   refine .z 12 rfl gM ?_
   rw [hB]
   refine .z 13 rfl zg ?_;refine .D hs ?_
   refine .aj (.z zm (.z zm ?_))
   refine .o (.call Tryz.call287 rfl (iY hs ak ak) ?_);rintro _ w ⟨rfl,hs⟩
   refine .z zm (.z zm ?_)
   refine .o (.call Tryz.call287 rfl (iY hs ak ak) ?_);rintro _ w ⟨rfl,hs⟩
   refine .z Cb ?_
   rw [←hmx]
   refine .z zg (.nil (.aj (.z zm ?_)))
   refine .q hs (wx rfl rfl ak ak) ?_
   refine .z zm (.z cP (.z lz (.z zm (.z zm (.z Bk ?_)))))
   rw [hM]
   refine .z lz (.z zg (.nil (.aj (.z zm (.z zm (.z lz (.z zm (.z gM (.z lz ?_)))))))))
   refine .z zm (.z zm (.z cP (.z lz (.z zm (.z cP (.z lz (.z zm (.z zm (.z lz ?_)))))))))
   refine .z gM (.z lz ?_)
   refine .o (.buildSlice (cells:=[_,_,_]) hs zo rfl rfl fun b90 w hs=>?_)
   refine .z zg (.nil ?_)
   refine .cut (fun fs w=>∃H3,kJ fs ⟨103,[],[(10,.slice (some ⟨b90,0,none⟩) 3 3),(5,.pointer (some ⟨b5,0,none⟩)),(4,.pointer (some ⟨b4,0,none⟩)),(3,.pointer (some ⟨b3,0,none⟩)),(1,.pointer (some ⟨b1,0,none⟩))]⟩∧HLe H2 H3∧RI H3 (.slice (some ⟨b90,0,none⟩) 3 3) (wJ l g)∧St H3 w (.blk b3 [.slice (some ⟨b13,0,none⟩) l.length l.length]:: .blk b13 (Is (zH l j)):: .blk b5 [I (g.at_:Int),I (g.n:Int)]:: .blk b4 [.func (.func 285) #[.pointer (some ⟨b3,0,none⟩)] #[]]:: .blk b1 [.slice a l.length c]::σf4)) ?_ ?_
   ·refine .aj (.z zm (.z zm (.z mI (.nil ?_))))
    refine (.bH rfl (fun hc93=>?_) (fun hc93=>?_))
    ·refine .region (.z zm ?_)
     refine .o (.call Tryz.call270 rfl (lC (en:= .blk b90 (Is [(6:Int).tdiv T*(1+T)*M*T*(2 - T),(6:Int).tdiv T*(1+T)*M*(1+T)*(1+T),(6:Int).tdiv T*(1+T)*M*(2*T - 1)])) (hs.sb:St H2 w (.blk b90 _:: .blk b3 _:: .blk b13 _:: .blk b5 _:: .blk b4 _:: .blk b1 _::σf4)) (.full rfl) cu) ?_);rintro _ w ⟨en95,hO95,hs⟩
     refine .nil ?_
     refine nT ?_
     obtain ⟨H3,hle3,r90,hs⟩:=cI.eJ hO95 cu hs .here
     rw [if_pos hc93] at hgw
     rw [hgw]
     exact ⟨H3,bj,hle3,r90,hs⟩
    ·refine .skip ?_
     refine nT ?_
     obtain ⟨H3,hle3,r90,hs⟩:=cI.eJ (xs:=[(6:Int).tdiv T*(1+T)*M*T*(2 - T),(6:Int).tdiv T*(1+T)*M*(1+T)*(1+T),(6:Int).tdiv T*(1+T)*M*(2*T - 1)]) (v:= .slice (some ⟨b90,0,none⟩) 3 3) (.full (len:=3) rfl) cu hs dE
     rw [if_neg ak] at hgw
     rw [hgw]
     exact ⟨H3,bj,hle3,r90,hs.sb⟩
   ·rintro fs w ⟨H3,hfs,hle3,r90,hs⟩
    refine WE.sub ?_ hfs
    refine .region ?_
    refine .y hs (zld Tryz.isAgg318) ?_
    refine .z (zfa ib) (.y hs (zld ae) (.z zm ?_))
    refine .o (.oS (first:=[.pointer (some ⟨b3,0,none⟩)]) (cap:=[]) rfl rfl Tryz.call285 (pa (from_:=g.at_) (xs:=wJ l g) hs hKl r90 (by rw [AX,show g.n=2 by unfold Grp.n;rw [h2];rfl];omega) ak ak ak) ?_);rintro _ w hs
    rw [←hK] at hs
    refine .nil ?_
    refine nB ?_
    exact ⟨H3,_,hle3,(hs.sb:St H3 w (.blk b3 _:: .blk b13 _:: .blk b4 _:: .blk b1 _::σf4)),rfl⟩
 ·rintro D H2 σb2 w hle2 rfl hs
  rw [show (qS l).length=(xy l).length by simp [qS],Ee] at hs
  replace hs:St H2 w (.obj D (.deferred (some [])):: .blk b3 [.slice (some ⟨b13,0,none⟩) l.length l.length]:: .blk b13 (Is (wts l)):: .blk b4 [.func (.func 285) #[.pointer (some ⟨b3,0,none⟩)] #[]]:: .blk b1 [.slice a l.length c]::σ):=hs
  refine nB (nT ?_)
  refine .aj (.z (zfa ph) (.y hs (zld an) (.z zg (.nil ?_))))
  refine .ret ?_
  obtain ⟨H3,hle3,hR,hs⟩:=cI.eJ (xs:=wts l) (v:= .slice (some ⟨b13,0,none⟩) l.length l.length) (.full (by simp [Is,js])) (by rw [js];omega) hs dE
  exact Fin.iZ [D] [] hs fun w hs=>⟨_,results1 Tryz.results260 rfl,H3,hle1.trans (hle2.trans hle3),hR,hs.out⟩
def Bs(X Y:List Int)(i:Nat):List Int:=(List.range Y.length).map fun k=>gi X i*gi Y k
def qT(X Y:List Int)(i:Nat):List (List Int):=(List.range i).map (Bs X Y)
theorem pL(X Y:List Int)(i:Nat):(Bs X Y i).length=Y.length:=by simp [Bs]
theorem nR(X Y:List Int)(i:Nat):(qT X Y i).length=i:=by simp [qT]
theorem BL(X Y:List Int)(i:Nat):qT X Y (i+1)=qT X Y i++[Bs X Y i]:=by simp [qT,List.range_succ]
theorem Cz{X Y:List Int}{i k:Nat}(hk:k<Y.length):(Bs X Y i).take (k+1)=(Bs X Y i).take k++[gi X i*gi Y k]:=by
 rw [dh (by simp [Bs,hk]:(Bs X Y i)[k]? =some (gi X i*gi Y k))]
theorem AZ{X Y:List Int}{n i:Nat}(h:i<n):gr (qT X Y n) i=Bs X Y i:=by simp [gr,List.getD,qT,h]
theorem Fm{X Y:List Int}{n i k:Nat}(h:i<n)(hk:k<Y.length):gt (qT X Y n) i k=gi X i*gi Y k:=by
 unfold gt;rw [AZ h];simp [gi,List.getD,Bs,hk]
inductive GrS(X Y:List Int)(b:Nat)(i k:Nat)(H:bV)(σ:List Ent):Prop
 |go (us:List Value) (v:Value) (en:Ent) (h:i<X.length) (h1:RLs H us (qT X Y i)) (h2:cI 1 v (Is ((Bs X Y i).take k)) en) (h3:σ=[.blk b (us++v::List.replicate (X.length - i - 1) (.slice none 0 0)),en])
 |fin (us:List Value) (h:i=X.length) (h1:RLs H us (qT X Y i)) (h3:σ=[.blk b us])
theorem GrS.mono{X Y:List Int}{b i k:Nat}{H H':bV}{σ:List Ent}(h:GrS X Y b i k H σ)(hl:HLe H H'):GrS X Y b i k H' σ:=by
 cases h with
 |go us v en h h1 h2 h3=>exact .go us v en h (h1.mono hl) h2 h3
 |fin us h h1 h3=>exact .fin us h (h1.mono hl) h3
theorem lA{v:Value}{l:List Int}(hs:St H w σ)(hr:RI H v l):
  Cl Tryz.prog 275 [v] w fun u w'=>∃H1 vo e,HLe H H1∧u= .tuple #[vo,I e]∧(fU 9 100000 l→e=0∧RI H1 vo (wts l))∧St H1 w' σ:=by
 obtain ⟨a,c,rfl⟩:=RI.shape hr
 refine Cl.o Tryz.func275 Tryz.ntmps275 ag1 ?_
 refine .aj (.z zg (.z zg (.nil (.seq (.aj (.z zm ?_))))))
 refine .o (.call Tryz.call299 rfl (m8 hs hr) ?_);rintro _ w ⟨e,rfl,he,hs⟩
 refine .z zg (.nil (.aj (.z zm (.z gS (.nil ?_)))))
 refine (.ek rfl (fun hc8=>?_) (fun hc8=>?_))
 ·refine .aj (.z zm (.z zg (.z zg (.nil ?_))))
  refine .ret (rT (Fin.iq Tryz.results275 rfl rfl ?_))
  exact ⟨H,_,_,HLe.refl H,rfl,fun h=>by rcases he with ⟨_,h2⟩|⟨h1,_⟩;exact (hc8 h2).elim;exact (h1 h).elim,hs⟩
 ·refine .skip ?_
  refine nT ?_
  refine .aj (.z zm ?_)
  have hp:fU 9 100000 l:=by rcases he with ⟨h,_⟩|⟨_,h2⟩;exact h;exact (h2 (by simpa using hc8)).elim
  refine .o (.call Tryz.call260 rfl (jw hs hr hp) ?_);rintro v11 w ⟨H1,hle1,hR,hs⟩
  refine .z zg (.z zg (.nil ?_))
  refine .ret (Fin.iq Tryz.results275 rfl rfl ?_)
  exact ⟨H1,_,_,hle1,rfl,fun _=>⟨rfl,hR⟩,hs⟩
theorem rH{v1 v2:Value}{a b:List Int}(hs:St H w σ)(h1:RI H v1 a)(h2:RI H v2 b):
  Cl Tryz.prog 215 [v1,v2] w fun u w'=>∃bb:Bool,u= .bool bb∧(bb=true↔fU 9 100000 a∧fU 7 15000 b)∧St H w' σ:=by
 refine Cl.o Tryz.func215 Tryz.ntmps215 ag2 ?_
 refine .aj (.z zg (.nil (.aj (.z zm ?_))))
 refine .o (.call Tryz.call259 rfl (iQ (many:=9) (most:=100000) hs h1) ?_);rintro _ w ⟨b6,rfl,hb6,hs⟩
 refine .z zm ?_
 refine .bif (t':=7) rfl (fun hb7=>?_) (fun hb7=>?_)
 ·refine .gT rfl rfl ?_
  refine .z zm ?_
  refine .gT rfl rfl ?_
  refine .o (.call Tryz.call259 rfl (iQ (many:=7) (most:=15000) hs h2) ?_);rintro _ w ⟨b9,rfl,hb9,hs⟩
  refine .z zpT (.z zg (.nil ?_))
  refine .ret (Fin.bE Tryz.results215 rfl ?_)
  exact ⟨_,rfl,by rw [hb9];exact ⟨fun h=>⟨hb6.1 hb7,h⟩,fun h=>h.2⟩,hs⟩
 ·refine .gFs 2 2 true rfl rfl rfl ?_
  refine .z zpF (.z zg (.nil ?_))
  refine .ret (Fin.bE Tryz.results215 rfl ?_)
  exact ⟨_,rfl,⟨fun h=>(by cases h),fun h=>by rw [hb6.2 h.1] at hb7;cases hb7⟩,hs⟩
theorem oG{bx by_:Nat}{x y:Int}(hs:St H w σ)(hx:Row H bx [I x])(hy:Row H by_ [I y]):
  Cl Tryz.prog 289 [.pointer (some ⟨bx,0,none⟩),.pointer (some ⟨by_,0,none⟩)] w fun u w'=>u= .tuple #[I x,I y]∧St H w' σ:=by
 have hx0:=hx.at 0
 have hy0:=hy.at 0
 refine Cl.o Tryz.func289 Tryz.ntmps289 ag2 ?_
 refine .aj (.z zg (.z zg (.nil ?_)))
 refine .seq (.draw mix rfl hs fun w hs=>?_)
 refine .y 0 rfl hs ae ?_;refine .y 1 rfl hs ae ?_;refine .z 2 rfl zg ?_;refine .z 3 rfl zg ?_;refine .D hs ?_
 refine .ret (Fin.iq Tryz.results289 rfl rfl ?_)
 exact ⟨rfl,hs⟩
def PrE(X Y:List Int)(p:Nat)(H:bV)(z:List Value):Prop:=
 ∃bx by_,z=[.agg #[I ((p/Y.length:Nat):Int),I ((p%Y.length:Nat):Int)],.func (.func 289) #[] #[.pointer (some ⟨bx,0,none⟩),.pointer (some ⟨by_,0,none⟩)]]∧Row H bx [I (gi X (p/Y.length))]∧Row H by_ [I (gi Y (p%Y.length))]
theorem ql{H:bV}{b1 b2:Nat}{v1 v2:Value}{X Y:List Int}(hb1:Row H b1 [v1])(hb2:Row H b2 [v2])(hX:RI H v1 X)(hY:RI H v2 Y)(hXl:X.length≤1000)(hYl:Y.length≤1000):
  FL Tryz.prog 288 [.pointer (some ⟨b1,0,none⟩),.pointer (some ⟨b2,0,none⟩)] H (X.length*Y.length) (PrE X Y):=by
 intro ly II Ix hmI _ hy H0 σb0 σf w hle hI0 hs
 obtain ⟨a1,c1,rfl⟩:=RI.shape hX
 obtain ⟨a2,c2,rfl⟩:=RI.shape hY
 have h01:cellAt H0 b1 0=some (.slice a1 X.length c1):=cellAt.mono (hb1.at 0) hle
 have h02:cellAt H0 b2 0=some (.slice a2 Y.length c2):=cellAt.mono (hb2.at 0) hle
 refine Cl.o Tryz.func288 Tryz.ntmps288 ag3 ?_
 refine .aj (.y hs (zld an) (.z (dp af) (.z zm (.nil ?_))))
 refine .for (N:=X.length) (J:=fun i fr w=>fr=[(8,.slice a1 X.length c1),(0,.func (.yield ly) #[] #[]),(1,.pointer (some ⟨b1,0,none⟩)),(2,.pointer (some ⟨b2,0,none⟩))]∧∃H1 σb,HLe H H1∧HLe H0 H1∧II (i*Y.length) H1 σb∧St H1 w (σb++σf)) ak ?_ ?_ ?_
 ·exact .mk ⟨rfl,H0,σb0,hle,HLe.refl _,by rw [Nat.zero_mul];exact hI0,hs⟩
 ·rintro i fr w hi ⟨rfl,H1,σb,hle1,hle0,hI,hs⟩
  refine .block (.aj (.z zm ?_))
  refine .ixY hs (hX.mono hle1) rfl rfl af ai (bU (l:=X) (i:=i) ak) de ?_;intro b13 o13 hc13
  refine .q hs (aW rfl ae hc13) ?_
  refine .o (.alloc hs cB rfl fun b5 w hs=>?_)
  refine .z zg ?_
  refine .o (.store hs rfl rfl ai fun w hs=>?_)
  refine .nil (.aj ?_)
  obtain ⟨H2,hle2,r5,hs⟩:=hs.cV (b:=b5) .here
  have h22:=cellAt.mono h02 (hle0.trans hle2)
  refine .y hs (zld an) (.z (dp af) (.z zm (.nil ?_)))
  refine .for (N:=Y.length) (J:=fun k fr w=>fr=[(15,.slice a2 Y.length c2),(4,I (i:Int)),(10,I (i:Int)),(9,I (X.length:Int)),(5,.pointer (some ⟨b5,0,none⟩)),(8,.slice a1 X.length c1),(0,.func (.yield ly) #[] #[]),(1,.pointer (some ⟨b1,0,none⟩)),(2,.pointer (some ⟨b2,0,none⟩))]∧∃H3 σb,HLe H2 H3∧II (i*Y.length+k) H3 σb∧St H3 w (σb++σf)) ak ?_ ?_ ?_
  ·exact .mk ⟨rfl,H2,σb,HLe.refl _,hmI _ _ _ _ hle2 hI,hs⟩
  ·rintro k fr w hk ⟨rfl,H3,σb3,hle3,hI3,hs⟩
   have hle03:=hle0.trans (hle2.trans hle3)
   have hle13:=hle1.trans (hle2.trans hle3)
   refine .block (.aj (.z zm ?_))
   refine .ixY hs (hY.mono hle13) rfl rfl af ai (bU (l:=Y) (i:=k) ak) de ?_;intro b20 o20 hc20
   refine .q hs (aW rfl ae hc20) ?_
   refine .o (.alloc hs cB rfl fun b7 w hs=>?_)
   refine .z zg ?_
   refine .o (.store hs rfl rfl ai fun w hs=>?_)
   refine .nil (.aj (.z zm (.z zm (.z zm ?_))))
   refine .q hs (xj (vs:=[(0,I (i:Int)),(1,I (k:Int))]) (cells:=[I (i:Int),I (k:Int)]) Tryz.zeroValue76 rfl jo ai rfl) ?_
   refine .q hs (dz (f:=[]) (c:=[_,_]) rfl rfl) ?_
   obtain ⟨H4,hle4,r7,hs⟩:=hs.cV (b:=b7) .here
   obtain ⟨d1,d2⟩:=Gq (nw:=Y.length) (i:=i) (k:=k) hk
   have hlt:i*Y.length+k<X.length*Y.length:=by
    have:=Nat.mul_le_mul_right Y.length (show i+1≤X.length by omega)
    rw [Nat.add_mul,Nat.one_mul] at this;omega
   have hyd:=hy (i*Y.length+k) hlt [.agg #[I (i:Int),I (k:Int)],.func (.func 289) #[] #[.pointer (some ⟨b5,0,none⟩),.pointer (some ⟨b7,0,none⟩)]] H4 σb3 σf w (hle13.trans hle4) ⟨b5,b7,by rw [d1,d2],by rw [d1];exact r5.mono (hle3.trans hle4),by rw [d2];exact r7⟩ (hmI _ _ _ _ hle4 hI3) hs
   refine .o (.yield rfl rfl hyd ?_);rintro v27 w ⟨H5,σ5,g1,hs,g3⟩
   obtain ⟨bb,rfl,gT,gF⟩:=nv g3
   refine .z fW (.nil ?_)
   refine (.cond rfl (fun hc28=>?_) (fun hc28=>?_))
   ·refine .ret (rB (rT (rB (rB (rT (rB (Fin.Hn Tryz.results288 ?_)))))))
    exact ⟨H5,σ5,hle03.trans (hle4.trans g1),hs,.inr (gF (by simpa using hc28))⟩
   ·refine .skip ?_
    refine nB (nT ?_)
    exact .mk ⟨rfl,H5,σ5,hle3.trans (hle4.trans g1),gT (by simpa using hc28),hs⟩
  ·rintro fr w ⟨rfl,H3,σb3,hle3,hI3,hs⟩
   refine nB (nT ?_)
   exact .mk ⟨rfl,H3,σb3,hle1.trans (hle2.trans hle3),hle0.trans (hle2.trans hle3),by rw [Nat.add_mul,Nat.one_mul];exact hI3,hs⟩
 ·rintro fr w ⟨rfl,H1,σb,hle1,hle0,hI,hs⟩
  exact Fin.zh Tryz.results288 ⟨H1,σb,hle0,hs,.inl hI⟩
theorem sY{v1 v2:Value}{X Y:List Int}(hs:St H w σ)(hX:RI H v1 X)(hY:RI H v2 Y)(hXl:X.length≤1000)(hYl:Y.length≤1000):
  Cl Tryz.prog 261 [v1,v2] w fun u w'=>∃H1 b1 b2,HLe H H1∧u= .func (.func 288) #[] #[.pointer (some ⟨b1,0,none⟩),.pointer (some ⟨b2,0,none⟩)]∧FL Tryz.prog 288 [.pointer (some ⟨b1,0,none⟩),.pointer (some ⟨b2,0,none⟩)] H1 (X.length*Y.length) (PrE X Y)∧St H1 w' σ:=by
 obtain ⟨a1,c1,rfl⟩:=RI.shape hX
 obtain ⟨a2,c2,rfl⟩:=RI.shape hY
 refine Cl.o Tryz.func261 Tryz.ntmps261 ag2 ?_
 refine .aj ?_
 refine .bx hs fun b2 w hs=>?_
 refine .bx hs fun b3 w hs=>?_
 refine .z zg (.nil (.aj ?_))
 refine .q hs (dz (f:=[]) (c:=[_,_]) rfl rfl) ?_
 refine .z zg (.nil ?_)
 refine .ret (Fin.bE Tryz.results261 rfl ?_)
 obtain ⟨H1,g1,r1,hs⟩:=hs.cV (b:=b2) dE
 obtain ⟨H2,g2,r2,hs⟩:=hs.cV (b:=b3) dE
 exact ⟨H2,b2,b3,g1.trans g2,rfl,ql (r1.mono g2) r2 (hX.mono (g1.trans g2)) (hY.mono (g1.trans g2)) hXl hYl,hs⟩
set_option maxHeartbeats 1000000 in
theorem ue{v1 v2:Value}{l1 l2:List Int}(hs:St H w σ)(hr1:RI H v1 l1)(hr2:RI H v2 l2)(hp1:fU 9 100000 l1)(hp2:fU 7 15000 l2):
  Cl Tryz.prog 216 [v1,v2] w fun u w'=>∃H1,HLe H H1∧RT H1 u (qT (wts l1) (wts l2) l1.length)∧St H1 w' σ:=by
 obtain ⟨a1,c1,rfl⟩:=RI.shape hr1
 obtain ⟨a2,c2,rfl⟩:=RI.shape hr2
 have hn1:=hp1.many
 have hn2:=hp2.many
 have htw1:=hp1.two
 have htw2:=hp2.two
 have hp2':fU 9 100000 l2:=⟨hp2.two,ak,hp2.low,by have:=hp2.high;omega,hp2.rise⟩
 have hXl:=js l1
 have hYl:=js l2
 have hXb:=FT hp1
 have hYb:=FT hp2
 refine Cl.o Tryz.func216 Tryz.ntmps216 ag2 ?_
 refine .aj (.z zg (.nil (.aj (.z zm ?_))))
 refine .o (.call Tryz.call260 rfl (jw hs hr1 hp1) ?_);rintro v13 w ⟨H1,hle1,hX,hs⟩
 refine .z zm ?_
 refine .o (.call Tryz.call260 rfl (jw hs (hr2.mono hle1) hp2') ?_);rintro v15 w ⟨H2,hle2,hY,hs⟩
 replace hX:=hX.mono hle2
 generalize wts l1=X at*
 generalize wts l2=Y at*
 obtain ⟨aX,cX,rfl⟩:=RI.shape hX
 obtain ⟨aY,cY,rfl⟩:=RI.shape hY
 refine .z zg (.z zg (.nil (.aj (.z zm (.z (dp af) ?_)))))
 refine .o (.Ik l1.length hs rfl rfl aE Tryz.typeInfo34 rfl aC fc ak fun b18 w hs=>?_)
 refine .o (.alloc hs Tryz.zeroValue62 rfl fun b7 w hs=>?_)
 refine .o (.store hs rfl rfl Tryz.sizeOf62 fun w hs=>?_)
 refine .nil (.seq (.aj (.z zm (.z zm ?_))))
 refine .o (.call Tryz.call261 rfl (sY hs hX hY ak ak) ?_);rintro _ w ⟨H3,bp1,bp2,hle3,rfl,hit,hs⟩
 have hle03:=hle1.trans (hle2.trans hle3)
 have h0:GrS X Y b18 0 0 H3 [.blk b18 (List.replicate l1.length (.slice none 0 0)),.nul]:=by
  refine .go [] (.slice none 0 0) .nul ak (RLs.nil _) (.nil 1 none) ?_
  rw [hXl]
  obtain ⟨m,hm⟩:∃m,l1.length=m+1:=⟨l1.length - 1,ak⟩
  rw [hm]
  rfl
 refine .nil (.block ?_)
 refine .F1 (gf:=288) (cap:=[.pointer (some ⟨bp1,0,none⟩),.pointer (some ⟨bp2,0,none⟩)]) (N:=X.length*Y.length) (E:=PrE X Y) (σb:= .blk b7 [.slice (some ⟨b18,0,none⟩) l1.length l1.length]::[.blk b18 (List.replicate l1.length (.slice none 0 0)),.nul]) (σf:=σ) (hs.nul.sb) trivial rfl hit Tryz.call288 (fun k H' z ⟨_,_,hz,_⟩=>by rw [hz];rfl) rfl
  (I:=fun p H' σb=>∃σ1,σb= .blk b7 [.slice (some ⟨b18,0,none⟩) l1.length l1.length]::σ1∧GrS X Y b18 (p/Y.length) (p%Y.length) H' σ1) (Ix:=fun _ _ _=>False)
  (fun j _ _ σ g1 ⟨σ1,g2,g3⟩=>⟨σ1,g2,g3.mono g1⟩) (fun _ _ _ _ _ h=>h) ⟨_,rfl,by rw [Nat.zero_div,Nat.zero_mod];exact h0⟩ ?_ ?_ (fun D c H' σb w _ h _=>h.elim)
 ·rintro ly p hp z H4 σb2 σf2 w hle4 ⟨bx,by_,rfl,rx,ry⟩ ⟨σ1,rfl,hG⟩ hs ⟨rr,hrr⟩
  have hnext:=AO (p:=p) (m:=Y.length) ak
  have hkm:=Nat.mod_lt p (show 0<Y.length by omega)
  have hin:p/Y.length<X.length:=Nat.div_lt_of_lt_mul (by rw [Nat.mul_comm];exact hp)
  generalize hi:p/Y.length=i at*
  generalize hk:p%Y.length=k at*
  cases hG with
  |fin us h=>omega
  |go us v en h h1 h2 h3=>
  subst h3
  obtain ⟨av,lv,cv,rfl,hlv⟩:=h2.shape
  have husl:us.length=i:=by rw [h1.1,nR]
  have hb1:=hXb i
  have hb2:=hYb k
  have hpr:=Gg (gi X i) (gi Y k)
  have hprb: -3456000000000≤gi X i*gi Y k∧gi X i*gi Y k≤3456000000000:=kz (A:=4800000) (B:=720000) (by unfold ab at hb1;omega) (by unfold ab at hb2;omega)
  refine .aj ?_
  refine .o (.alloc hs Tryz.zeroValue76 rfl fun b8 w hs=>?_)
  refine .o (.aP (vs:=[_,_]) hs rfl rfl Tryz.sizeOf76 fun w hs=>?_)
  refine .nil (.region (.z zg (.nil ?_)))
  refine nT ?_
  refine ⟨H4,[.blk b8 [I (i:Int),I (k:Int)],.blk b7 [.slice (some ⟨b18,0,none⟩) l1.length l1.length],.blk b18 (us++Value.slice av lv cv::List.replicate (X.length - i - 1) (Value.slice none 0 0)),en],HLe.refl _,hs,?_⟩;rintro w σf4 - hs
  refine .block (.aj (.z zm ?_))
  refine .o (.oS (first:=[]) (cap:=[.pointer (some ⟨bx,0,none⟩),.pointer (some ⟨by_,0,none⟩)]) rfl rfl Tryz.call289 (oG hs rx ry) ?_);rintro _ w ⟨rfl,hs⟩
  refine .z zm (.z zex (.z zex (.z zg (.z zg (.nil ?_)))))
  refine .draw mix rfl hs fun w hs=>?_
  refine .y 0 rfl hs vB ?_
  refine .z 1 rfl (zia 0 jo ai) ?_
  refine .y 2 rfl hs ae ?_;refine .y 3 rfl hs vB ?_
  refine .z 4 rfl (zia 0 jo ai) ?_
  refine .y 5 rfl hs ae ?_
  refine .z 6 rfl (lh (k:=i) rfl rfl aE aC rfl ak) ?_
  refine .load (i:=7) hs rfl aq .none rfl an ?_ (hv:=by rw [List.getElem?_append_right ak,husl,Nat.sub_self];rfl)
  refine .z 8 rfl zm ?_;refine .z 9 rfl zm ?_;refine .z 10 rfl lz ?_
  refine .E 11 hs ?_
  refine .buildSlice (cells:=[_]) hs dk rfl rfl ?_;intro b40 w hs
  refine .go ?_
  refine .E 12 hs ?_
  refine .append (ys:=Is [gi X i*gi Y k]) hs df rfl rfl h2 (.own .here rfl rfl) (jR _) (fun l' h=>by simp at h;omega) ?_;intro v41 en41 w hO hs
  rw [show Is ((Bs X Y i).take k)++Is [gi X i*gi Y k]=Is ((Bs X Y i).take (k+1)) by rw [Cz hkm];simp [Is]] at hO
  obtain ⟨a41,l41,c41,rfl,hl41⟩:=hO.shape
  refine .go ?_
  refine .z 13 rfl (lh (k:=i) rfl rfl aE aC rfl ak) ?_
  refine .E 14 hs ?_
  refine .store (c':=us++ .slice a41 l41 c41::List.replicate (X.length - i - 1) (.slice none 0 0)) hs rfl rfl aC ?_ dE (by simp;omega) (by rw [List.set_append_right _ _ ak,husl,Nat.sub_self];rfl);intro w hs
  refine .go ?_
  refine .D hs ?_
  refine nB ?_
  rcases hnext with ⟨g1,g2,g3⟩|⟨g1,g2,g3⟩
  ·exact ⟨H4,[.blk b7 [.slice (some ⟨b18,0,none⟩) l1.length l1.length],.blk b18 (us++ .slice a41 l41 c41::List.replicate (X.length - i - 1) (.slice none 0 0)),en41],HLe.refl _,(hs.sb:St H4 w (.blk b7 _:: .blk b18 _::en41::σf4)),_,rfl,by rw [g2,g3];exact .go us _ en41 h h1 hO rfl⟩
  ·obtain ⟨H5,hle5,hR,hs⟩:=cI.eJ hO (by rw [List.length_take,pL];omega) hs dE
   rw [List.take_of_length_le (by rw [pL];omega)] at hR
   have h1':RLs H5 (us++[.slice a41 l41 c41]) (qT X Y (i+1)):=by rw [BL];exact (h1.mono hle5).snoc hR
   by_cases e:i+1<X.length
   ·refine ⟨H5,[.blk b7 [.slice (some ⟨b18,0,none⟩) l1.length l1.length],.blk b18 (us++ .slice a41 l41 c41::List.replicate (X.length - i - 1) (.slice none 0 0)),.nul],hle5,(hs.nul.sb:St H5 w (.blk b7 _:: .blk b18 _:: .nul::σf4)),_,rfl,?_⟩
    rw [g2,g3]
    refine .go (us++[.slice a41 l41 c41]) (.slice none 0 0) .nul e h1' (.nil 1 none) ?_
    obtain ⟨m,hm⟩:∃m,X.length - i - 1=m+1:=⟨X.length - i - 2,ak⟩
    rw [hm,show X.length - (i+1) - 1=m by omega,List.append_assoc]
    rfl
   ·refine ⟨H5,[.blk b7 [.slice (some ⟨b18,0,none⟩) l1.length l1.length],.blk b18 (us++ .slice a41 l41 c41::List.replicate (X.length - i - 1) (.slice none 0 0))],hle5,(hs.sb:St H5 w (.blk b7 _:: .blk b18 _::σf4)),_,rfl,?_⟩
    rw [g2,g3]
    refine .fin (us++[.slice a41 l41 c41]) ak h1' ?_
    rw [show X.length - i - 1=0 by omega]
    rfl
 ·rintro D H4 σb2 w hle4 ⟨σ1,rfl,hG⟩ hs
  rw [Nat.mul_div_cancel _ ak,Nat.mul_mod_left] at hG
  cases hG with
  |go us v en h=>omega
  |fin us h h1 h3=>
  subst h3
  replace hs:St H4 w (.obj D (.deferred (some [])):: .blk b7 [.slice (some ⟨b18,0,none⟩) l1.length l1.length]:: .blk b18 us::σ):=hs
  have husl:us.length=l1.length:=by rw [h1.1,nR,hXl]
  refine nB (nT ?_)
  refine .aj (.y hs (zld vB) (.z zg (.nil ?_)))
  refine .ret ?_
  obtain ⟨H5,hle5,hR,hs⟩:=h1.cV (v:= .slice (some ⟨b18,0,none⟩) l1.length l1.length) (en:= .blk b18 us) (.full (by simp [husl])) ak hs dE
  rw [hXl] at hR
  exact Fin.iZ [D] [] hs fun w hs=>⟨_,results1 Tryz.results216 rfl,H5,hle03.trans (hle4.trans hle5),hR,hs.out⟩
theorem nz{v1 v2:Value}{l1 l2:List Int}(hs:St H w σ)(hr1:RI H v1 l1)(hr2:RI H v2 l2):
  Cl Tryz.prog 163 [v1,v2] w fun u w'=>∃H1 vo e,HLe H H1∧u= .tuple #[vo,I e]∧(fU 9 100000 l1∧fU 7 15000 l2→e=0∧RT H1 vo (qT (wts l1) (wts l2) l1.length))∧(e=0→fU 9 100000 l1∧fU 7 15000 l2)∧St H1 w' σ:=by
 refine Cl.o Tryz.func163 Tryz.ntmps163 ag2 ?_
 refine .aj (.z zg (.z zg (.nil (.seq (.aj (.z zm (.z zm ?_)))))))
 refine .o (.call Tryz.call215 rfl (rH hs hr1 hr2) ?_);rintro _ w ⟨b8,rfl,hb8,hs⟩
 refine .z fW (.nil ?_)
 refine (.cond rfl (fun hc9=>?_) (fun hc9=>?_))
 ·refine .aj (.z zg (.z zg (.nil ?_)))
  refine .ret (rT (Fin.iq Tryz.results163 rfl rfl ?_))
  exact ⟨H,_,_,HLe.refl H,rfl,fun h=>(by rw [hb8.2 h] at hc9;cases hc9),fun h=>ak,hs⟩
 ·refine .skip ?_
  refine nT ?_
  refine .aj (.z zm (.z zm ?_))
  have hp:=hb8.1 (by simpa using hc9)
  refine .o (.call Tryz.call216 rfl (ue hs hr1 hr2 hp.1 hp.2) ?_);rintro v12 w ⟨H1,hle1,hR,hs⟩
  refine .z zg (.z zg (.nil ?_))
  refine .ret (Fin.iq Tryz.results163 rfl rfl ?_)
  exact ⟨H1,_,_,hle1,rfl,fun _=>⟨rfl,hR⟩,fun _=>hp,hs⟩
theorem Ic{many:Nat}{most:Int}{l:List Int}(h2:2≤l.length)(hm:l.length≤many)(h:∀j<l.length,0≤gi l j∧gi l j≤most∧(0<j→gi l (j - 1)<gi l j)):fU many most l:=
 ⟨h2,hm,(h 0 ak).1,(h (l.length - 1) ak).2.1,fun i hi=>by have:=(h (i+1) hi).2.2 ak;rwa [Nat.add_sub_cancel] at this⟩
theorem sA{many:Nat}{most:Int}{l:List Int}(h:fU many most l){j:Nat}(hj:j<l.length):0≤gi l j∧gi l j≤most∧(0<j→gi l (j - 1)<gi l j):=
 ⟨(h.bd hj).1,(h.bd hj).2,fun h0=>by have:=h.rise (j - 1) ak;rwa [Nat.sub_add_cancel h0] at this⟩
theorem r8{v:Value}{l:List Int}{many:Nat}{most:Int}(hs:St H w σ)(hr:RI H v l)(hmany:many≤1000):
  Cl Tryz.prog 217 [v,I many,I most] w fun u w'=>∃b:Bool,u= .bool b∧(b=true↔fU many most l)∧St H w' σ:=by
 obtain ⟨a,c,rfl⟩:=RI.shape hr
 have hlen:=(RI.len hr).2.2
 refine Cl.o Tryz.func217 Tryz.ntmps217 ag3 ?_
 refine .aj (.z zg (.nil (.seq (.aj (.z zm (.z (dp af) (.z iK (.z zm ?_))))))))
 refine .iW (t':=11) rfl (fun hb11=>?_) (fun hb11=>?_)
 ·refine .gFs 4 3 false rfl rfl rfl ?_
  refine .z zpT (.nil ?_)
  refine (.cT ?_)
  refine .aj (.z zg (.nil ?_))
  refine .ret (rT (Fin.bE tC rfl ?_))
  exact ⟨false,rfl,⟨fun h=>(by cases h),fun h=>by have:=h.two;omega⟩,hs⟩
 ·refine .gT rfl rfl ?_
  refine .z zm ?_
  refine .gT rfl rfl ?_
  refine .z (dp af) ?_
  refine .gT rfl rfl ?_
  refine .z zm ?_
  refine .gT rfl rfl ?_
  refine .z mI (.z zpF (.nil ?_))
  refine (.bH rfl (fun hc16=>?_) (fun hc16=>?_))
  ·refine .aj (.z zg (.nil ?_))
   refine .ret (rT (Fin.bE tC rfl ?_))
   exact ⟨false,rfl,⟨fun h=>(by cases h),fun h=>by have:=h.many;omega⟩,hs⟩
  ·refine .skip ?_
   refine nT ?_
   refine .seq (.aj (.z zg (.nil (.block ?_))))
   refine .loop (fun k:Nat=>⟨52,[],[(7,I (k:Int)),(0,.slice a l.length c),(1,I (many:Int)),(2,I most)]⟩)
    (fun k w=>k≤l.length∧(∀j<k,0≤gi l j∧gi l j≤most∧(0<j→gi l (j - 1)<gi l j))∧St H w σ) (fun k=>l.length - k) 0 (.dD rfl cu bj)
    ⟨Nat.zero_le _,fun j hj=>by omega,hs⟩ ?_
   rintro k w ⟨hk,hno,hs⟩
   refine .seq (.aj (.z zm (.z zm (.z (dp af) (.z iK (.nil ?_))))))
   refine (.bH rfl (fun hc20=>?_) (fun hc20=>?_))
   ·refine .skip ?_
    refine nT ?_
    refine .seq (.block ?_)
    refine .seq (.draw mix rfl hs fun w hs=>?_)
    refine .z 0 rfl zm ?_;refine .z 1 rfl zm ?_
    refine .ixX (enc:=fun x=>[I x]) (i:=2) hs rfl aq .none hr rfl rfl af ai (bU (l:=l) (i:=k) ak) de ?_;intro b25 o25 hc25;replace hc25:=cg.one hc25
    refine .r (i:=3) hs rfl aq .none (aW rfl ae hc25) ?_
    refine .z 4 rfl iK ?_;refine .z 5 rfl zm ?_
    refine .iW (t':=28) rfl (fun hb28=>?_) (fun hb28=>?_)
    ·refine .qF (i:=6) rfl aq rfl rfl ?_
     refine .qF (i:=7) rfl aq rfl rfl ?_
     refine .qF (i:=8) rfl aq rfl rfl ?_
     refine .qF (i:=9) rfl aq rfl rfl ?_
     refine .qF (i:=10) rfl aq rfl rfl ?_
     refine .qF (i:=11) rfl aq rfl rfl ?_
     refine .z 12 rfl zpT ?_;refine .z 13 rfl zm ?_
     refine .qF (i:=14) rfl aq rfl rfl ?_
     refine .qF (i:=15) rfl aq rfl rfl ?_
     refine .qF (i:=16) rfl aq rfl rfl ?_
     refine .qF (i:=17) rfl aq rfl rfl ?_
     refine .qF (i:=18) rfl aq rfl rfl ?_
     refine .qF (i:=19) rfl aq rfl rfl ?_
     refine .qF (i:=20) rfl aq rfl rfl ?_
     refine .qF (i:=21) rfl aq rfl rfl ?_
     refine .qF (i:=22) rfl aq rfl rfl ?_
     refine .qF (i:=23) rfl aq rfl rfl ?_
     refine .qF (i:=24) rfl aq rfl rfl ?_
     refine .qF (i:=25) rfl aq rfl rfl ?_
     refine .qF (i:=26) rfl aq rfl rfl ?_
     refine .qF (i:=27) rfl aq rfl rfl ?_
     refine .z 28 rfl zpT ?_;refine .D hs ?_
     refine (.cT ?_)
     refine .aj (.z zg (.nil ?_))
     refine .ret (rB (rT (rT (rB (rT (Fin.bE tC rfl ?_))))))
     exact ⟨false,rfl,⟨fun h=>(by cases h),fun h=>by have:=sA h (j:=k) ak;omega⟩,hs⟩
    ·refine .z 6 rfl zm ?_;refine .z 7 rfl zm ?_
     refine .ixX (enc:=fun x=>[I x]) (i:=8) hs rfl aq (.some rfl rfl) hr rfl rfl af ai (bU (l:=l) (i:=k) ak) de ?_;intro b31 o31 hc31;replace hc31:=cg.one hc31
     refine .r (i:=9) hs rfl aq (.some rfl rfl) (aW rfl ae hc31) ?_
     refine .z 10 rfl zm ?_;refine .z 11 rfl mI ?_;refine .z 12 rfl zpF ?_;refine .z 13 rfl zm ?_
     refine .iW (t':=36) rfl (fun hb36=>?_) (fun hb36=>?_)
     ·refine .qF (i:=14) rfl aq rfl rfl ?_
      refine .qF (i:=15) rfl aq rfl rfl ?_
      refine .qF (i:=16) rfl aq rfl rfl ?_
      refine .qF (i:=17) rfl aq rfl rfl ?_
      refine .qF (i:=18) rfl aq rfl rfl ?_
      refine .qF (i:=19) rfl aq rfl rfl ?_
      refine .qF (i:=20) rfl aq rfl rfl ?_
      refine .qF (i:=21) rfl aq rfl rfl ?_
      refine .qF (i:=22) rfl aq rfl rfl ?_
      refine .qF (i:=23) rfl aq rfl rfl ?_
      refine .qF (i:=24) rfl aq rfl rfl ?_
      refine .qF (i:=25) rfl aq rfl rfl ?_
      refine .qF (i:=26) rfl aq rfl rfl ?_
      refine .qF (i:=27) rfl aq rfl rfl ?_
      refine .z 28 rfl zpT ?_;refine .D hs ?_
      refine (.cT ?_)
      refine .aj (.z zg (.nil ?_))
      refine .ret (rB (rT (rT (rB (rT (Fin.bE tC rfl ?_))))))
      exact ⟨false,rfl,⟨fun h=>(by cases h),fun h=>by have:=sA h (j:=k) ak;omega⟩,hs⟩
     ·refine .z 14 rfl zm ?_;refine .z 15 rfl mI ?_;refine .z 16 rfl zm ?_
      refine .iW (t':=39) rfl (fun hb39=>?_) (fun hb39=>?_)
      ·refine .z 17 rfl zm ?_;refine .z 18 rfl zm ?_;refine .z 19 rfl gM ?_
       refine .ixX (enc:=fun x=>[I x]) (i:=20) hs rfl aq (.some rfl rfl) hr rfl rfl af ai (bU (l:=l) (i:=(k-1)) ak) de ?_;intro b43 o43 hc43;replace hc43:=cg.one hc43
       refine .r (i:=21) hs rfl aq (.some rfl rfl) (aW rfl ae hc43) ?_
       refine .z 22 rfl zm ?_;refine .z 23 rfl zm ?_
       refine .ixX (enc:=fun x=>[I x]) (i:=24) hs rfl aq (.some rfl rfl) hr rfl rfl af ai (bU (l:=l) (i:=k) ak) de ?_;intro b47 o47 hc47;replace hc47:=cg.one hc47
       refine .r (i:=25) hs rfl aq (.some rfl rfl) (aW rfl ae hc47) ?_
       refine .z 26 rfl uc ?_;refine .z 27 rfl zpT ?_;refine .z 28 rfl zpF ?_;refine .D hs ?_
       refine (.bH rfl (fun hc51=>?_) (fun hc51=>?_))
       ·refine .aj (.z zg (.nil ?_))
        refine .ret (rB (rT (rT (rB (rT (Fin.bE tC rfl ?_))))))
        exact ⟨false,rfl,⟨fun h=>(by cases h),fun h=>by have:=sA h (j:=k) ak;omega⟩,hs⟩
       ·refine .skip ?_
        refine nB (nT ?_)
        refine .region (.z zm (.z cP (.z zg (.nil ?_))))
        refine nT ?_
        exact ⟨k+1,.dD rfl cu bj,⟨ak,fun j hj=>by
         by_cases e:j=k
         ·subst e;exact ⟨ak,ak,fun _=>by omega⟩
         ·exact hno j ak,hs⟩,ak⟩
      ·refine .qF (i:=17) rfl aq rfl rfl ?_
       refine .qF (i:=18) rfl aq rfl rfl ?_
       refine .qF (i:=19) rfl aq rfl rfl ?_
       refine .qF (i:=20) rfl aq rfl rfl ?_
       refine .qF (i:=21) rfl aq rfl rfl ?_
       refine .qF (i:=22) rfl aq rfl rfl ?_
       refine .qF (i:=23) rfl aq rfl rfl ?_
       refine .qF (i:=24) rfl aq rfl rfl ?_
       refine .qF (i:=25) rfl aq rfl rfl ?_
       refine .qF (i:=26) rfl aq rfl rfl ?_
       refine .z 27 rfl zpF ?_;refine .z 28 rfl zpF ?_;refine .D hs ?_
       refine (.cF ?_)
       refine .skip ?_
       refine nB (nT ?_)
       refine .region (.z zm (.z cP (.z zg (.nil ?_))))
       refine nT ?_
       exact ⟨k+1,.dD rfl cu bj,⟨ak,fun j hj=>by
        by_cases e:j=k
        ·subst e;exact ⟨ak,ak,fun _=>by omega⟩
        ·exact hno j ak,hs⟩,ak⟩
   ·refine .exit ?_
    refine xT (xT (xB (nT ?_)))
    refine .aj (.z zg (.nil ?_))
    refine .ret (Fin.bE tC rfl ?_)
    exact ⟨true,rfl,⟨fun _=>Ic ak ak fun j hj=>hno j ak,fun _=>rfl⟩,hs⟩
theorem jM{v:Value}{l:List Int}(hs:St H w σ)(hr:RI H v l):
  Cl Tryz.prog 168 [v] w fun u w'=>∃e,u=I e∧((fU 9 100000 l∧e=0)∨(¬fU 9 100000 l∧e≠0))∧St H w' σ:=by
 refine Cl.o Tryz.func168 Tryz.ntmps168 ag1 ?_
 refine .aj (.z zg (.nil (.seq (.aj (.z zm ?_)))))
 refine .o (.call Tryz.call217 rfl (r8 (many:=9) (most:=100000) hs hr ak) ?_);rintro _ w ⟨b4,rfl,hb4,hs⟩
 refine .z fW (.nil ?_)
 refine (.cond rfl (fun hc5=>?_) (fun hc5=>?_))
 ·refine .aj (.z zg (.nil ?_))
  refine .ret (rT (Fin.bE Tryz.results168 rfl ?_))
  exact ⟨_,rfl,.inr ⟨fun h=>by simp [hb4.2 h] at hc5,by decide⟩,hs⟩
 ·refine .skip ?_
  refine nT ?_
  refine .aj (.z zg (.nil ?_))
  refine .ret (Fin.bE Tryz.results168 rfl ?_)
  exact ⟨_,rfl,.inl ⟨hb4.1 (by simpa using hc5),rfl⟩,hs⟩
def Grp.c(g:Grp):List Value:=[I (g.at_:Int),I (g.n:Int)]
end Go.Proofs.YteajddicacjkhaaGreat
namespace Go.Proofs.YteajddicacjkhaaGreat
open Go.MW
theorem Df{l:List Int}{i j:Nat}(h:i≠j)(x:Int):gi (l.set i x) j=gi l j:=by
 simp [gi,List.getD,h]
end Go.Proofs.YteajddicacjkhaaGreat
