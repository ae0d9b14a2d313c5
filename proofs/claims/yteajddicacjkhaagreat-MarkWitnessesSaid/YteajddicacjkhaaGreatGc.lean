/-
  Texts of these claims, joined: Opn Opv Opm Opy Opq Opc Ope Cls Fct Wa Wb Wc Wd We Wf Wg Wp Wt Wu Wy Xf Xi Xj Xn Srt Yc Yd Ye Yf Yq Za Zb Zc Zd.
-/
import Derived.Test.YteajddicacjkhaaGreatGb
import Derived.Test.YteajddicacjkhaaGreatProg
import Derived.KernelRfl
import Derived.JoinedOf
import Derived.Shelf.Sort.Plain
import Derived.Shelf.Slices.CompactI
import Derived.Shelf.Slices.In.SortNone
import Derived.Lib.RowBridge
namespace Go.Proofs.YteajddicacjkhaaGreat
theorem Jw:type_of% @Tryz.call117:=@Tryz.call117
theorem CB:type_of% @Tryz.call131:=@Tryz.call131
theorem Jv:type_of% @Tryz.call133:=@Tryz.call133
theorem jJ:type_of% @Tryz.call141:=@Tryz.call141
theorem gU:type_of% @Tryz.call146:=@Tryz.call146
theorem Ju:type_of% @Tryz.call154:=@Tryz.call154
theorem dP:type_of% @Tryz.call164:=@Tryz.call164
theorem eV:type_of% @Tryz.call167:=@Tryz.call167
theorem CA:type_of% @Tryz.call188:=@Tryz.call188
theorem Cz:type_of% @Tryz.call199:=@Tryz.call199
theorem Cy:type_of% @Tryz.call242:=@Tryz.call242
theorem Cx:type_of% @Tryz.call253:=@Tryz.call253
theorem fh:type_of% @Tryz.call36:=@Tryz.call36
theorem eM:type_of% @Tryz.call72:=@Tryz.call72
theorem fg:type_of% @Tryz.call74:=@Tryz.call74
theorem dW:type_of% @Tryz.call90:=@Tryz.call90
theorem jI:type_of% @Tryz.call93:=@Tryz.call93
theorem tx:type_of% @Tryz.call94:=@Tryz.call94
theorem y9:type_of% @Tryz.call96:=@Tryz.call96
theorem ew:type_of% @Tryz.isAgg100:=@Tryz.isAgg100
theorem HF:type_of% @Tryz.isAgg104:=@Tryz.isAgg104
theorem ny:type_of% @Tryz.isAgg113:=@Tryz.isAgg113
theorem nx:type_of% @Tryz.isAgg140:=@Tryz.isAgg140
theorem HE:type_of% @Tryz.isAgg153:=@Tryz.isAgg153
theorem HD:type_of% @Tryz.isAgg159:=@Tryz.isAgg159
theorem eu:type_of% @Tryz.isAgg162:=@Tryz.isAgg162
theorem dr:type_of% @Tryz.isAgg175:=@Tryz.isAgg175
theorem bM:type_of% @Tryz.isAgg177:=@Tryz.isAgg177
theorem Af:type_of% @Tryz.isAgg179:=@Tryz.isAgg179
theorem fw:type_of% @Tryz.isAgg193:=@Tryz.isAgg193
theorem eb:type_of% @Tryz.isAgg22:=@Tryz.isAgg22
theorem sz:type_of% @Tryz.isAgg226:=@Tryz.isAgg226
theorem eF:type_of% @Tryz.isAgg23:=@Tryz.isAgg23
theorem sy:type_of% @Tryz.isAgg241:=@Tryz.isAgg241
theorem sw:type_of% @Tryz.isAgg243:=@Tryz.isAgg243
theorem bB:type_of% @Tryz.isAgg25:=@Tryz.isAgg25
theorem bY:type_of% @Tryz.isAgg26:=@Tryz.isAgg26
theorem fU:type_of% @Tryz.isAgg267:=@Tryz.isAgg267
theorem cH:type_of% @Tryz.isAgg28:=@Tryz.isAgg28
theorem ae:type_of% @Tryz.isAgg3:=@Tryz.isAgg3
theorem iJ:type_of% @Tryz.isAgg303:=@Tryz.isAgg303
theorem an:type_of% @Tryz.isAgg34:=@Tryz.isAgg34
theorem bh:type_of% @Tryz.isAgg42:=@Tryz.isAgg42
theorem aK:type_of% @Tryz.isAgg48:=@Tryz.isAgg48
theorem bG:type_of% @Tryz.isAgg49:=@Tryz.isAgg49
theorem ea:type_of% @Tryz.isAgg50:=@Tryz.isAgg50
theorem aQ:type_of% @Tryz.isAgg52:=@Tryz.isAgg52
theorem fY:type_of% @Tryz.isAgg62:=@Tryz.isAgg62
theorem eU:type_of% @Tryz.isAgg64:=@Tryz.isAgg64
theorem Jt:type_of% @Tryz.isAgg66:=@Tryz.isAgg66
theorem fE:type_of% @Tryz.isAgg87:=@Tryz.isAgg87
theorem CK:type_of% @Tryz.results100:=@Tryz.results100
theorem uE:type_of% @Tryz.results111:=@Tryz.results111
theorem jE:type_of% @Tryz.results113:=@Tryz.results113
theorem kZ:type_of% @Tryz.results117:=@Tryz.results117
theorem nO:type_of% @Tryz.results120:=@Tryz.results120
theorem kY:type_of% @Tryz.results123:=@Tryz.results123
theorem uD:type_of% @Tryz.results134:=@Tryz.results134
theorem nN:type_of% @Tryz.results150:=@Tryz.results150
theorem iA:type_of% @Tryz.results155:=@Tryz.results155
theorem uC:type_of% @Tryz.results170:=@Tryz.results170
theorem kX:type_of% @Tryz.results176:=@Tryz.results176
theorem fu:type_of% @Tryz.results18:=@Tryz.results18
theorem fX:type_of% @Tryz.results19:=@Tryz.results19
theorem fW:type_of% @Tryz.results20:=@Tryz.results20
theorem uB:type_of% @Tryz.results217:=@Tryz.results217
theorem uA:type_of% @Tryz.results228:=@Tryz.results228
theorem CJ:type_of% @Tryz.results250:=@Tryz.results250
theorem nM:type_of% @Tryz.results256:=@Tryz.results256
theorem CI:type_of% @Tryz.results259:=@Tryz.results259
theorem p8:type_of% @Tryz.results32:=@Tryz.results32
theorem p6:type_of% @Tryz.results33:=@Tryz.results33
theorem F2:type_of% @Tryz.results75:=@Tryz.results75
theorem xb:type_of% @Tryz.results76:=@Tryz.results76
theorem xa:type_of% @Tryz.results79:=@Tryz.results79
theorem w9:type_of% @Tryz.results81:=@Tryz.results81
theorem gI:type_of% @Tryz.runUnderlying100:=@Tryz.runUnderlying100
theorem qV:type_of% @Tryz.runUnderlying104:=@Tryz.runUnderlying104
theorem Es:type_of% @Tryz.runUnderlying113:=@Tryz.runUnderlying113
theorem qU:type_of% @Tryz.runUnderlying140:=@Tryz.runUnderlying140
theorem jk:type_of% @Tryz.runUnderlying151:=@Tryz.runUnderlying151
theorem ji:type_of% @Tryz.runUnderlying153:=@Tryz.runUnderlying153
theorem bD:type_of% @Tryz.runUnderlying159:=@Tryz.runUnderlying159
theorem jh:type_of% @Tryz.runUnderlying162:=@Tryz.runUnderlying162
theorem aJ:type_of% @Tryz.runUnderlying175:=@Tryz.runUnderlying175
theorem Er:type_of% @Tryz.runUnderlying179:=@Tryz.runUnderlying179
theorem Ep:type_of% @Tryz.runUnderlying190:=@Tryz.runUnderlying190
theorem qT:type_of% @Tryz.runUnderlying193:=@Tryz.runUnderlying193
theorem aZ:type_of% @Tryz.runUnderlying22:=@Tryz.runUnderlying22
theorem bu:type_of% @Tryz.runUnderlying23:=@Tryz.runUnderlying23
theorem Eo:type_of% @Tryz.runUnderlying236:=@Tryz.runUnderlying236
theorem fo:type_of% @Tryz.runUnderlying238:=@Tryz.runUnderlying238
theorem En:type_of% @Tryz.runUnderlying246:=@Tryz.runUnderlying246
theorem tw:type_of% @Tryz.runUnderlying25:=@Tryz.runUnderlying25
theorem aF:type_of% @Tryz.runUnderlying26:=@Tryz.runUnderlying26
theorem dN:type_of% @Tryz.runUnderlying260:=@Tryz.runUnderlying260
theorem aE:type_of% @Tryz.runUnderlying267:=@Tryz.runUnderlying267
theorem Em:type_of% @Tryz.runUnderlying272:=@Tryz.runUnderlying272
theorem bF:type_of% @Tryz.runUnderlying3:=@Tryz.runUnderlying3
theorem qS:type_of% @Tryz.runUnderlying303:=@Tryz.runUnderlying303
theorem lz:type_of% @Tryz.runUnderlying312:=@Tryz.runUnderlying312
theorem af:type_of% @Tryz.runUnderlying34:=@Tryz.runUnderlying34
theorem aD:type_of% @Tryz.runUnderlying37:=@Tryz.runUnderlying37
theorem tv:type_of% @Tryz.runUnderlying39:=@Tryz.runUnderlying39
theorem F1:type_of% @Tryz.runUnderlying42:=@Tryz.runUnderlying42
theorem tu:type_of% @Tryz.runUnderlying44:=@Tryz.runUnderlying44
theorem mb:type_of% @Tryz.runUnderlying48:=@Tryz.runUnderlying48
theorem au:type_of% @Tryz.runUnderlying49:=@Tryz.runUnderlying49
theorem bk:type_of% @Tryz.runUnderlying50:=@Tryz.runUnderlying50
theorem F0:type_of% @Tryz.runUnderlying52:=@Tryz.runUnderlying52
theorem az:type_of% @Tryz.runUnderlying62:=@Tryz.runUnderlying62
theorem tt:type_of% @Tryz.runUnderlying66:=@Tryz.runUnderlying66
theorem dI:type_of% @Tryz.runUnderlying80:=@Tryz.runUnderlying80
theorem ma:type_of% @Tryz.runUnderlying87:=@Tryz.runUnderlying87
theorem eL:type_of% @Tryz.runUnderlying96:=@Tryz.runUnderlying96
theorem tr:type_of% @Tryz.runUnderlying97:=@Tryz.runUnderlying97
theorem aI:type_of% @Tryz.sizeOf100:=@Tryz.sizeOf100
theorem cE:type_of% @Tryz.sizeOf104:=@Tryz.sizeOf104
theorem gW:type_of% @Tryz.sizeOf113:=@Tryz.sizeOf113
theorem bE:type_of% @Tryz.sizeOf134:=@Tryz.sizeOf134
theorem dm:type_of% @Tryz.sizeOf140:=@Tryz.sizeOf140
theorem w8:type_of% @Tryz.sizeOf151:=@Tryz.sizeOf151
theorem cD:type_of% @Tryz.sizeOf153:=@Tryz.sizeOf153
theorem bP:type_of% @Tryz.sizeOf162:=@Tryz.sizeOf162
theorem p5:type_of% @Tryz.sizeOf175:=@Tryz.sizeOf175
theorem aV:type_of% @Tryz.sizeOf177:=@Tryz.sizeOf177
theorem ft:type_of% @Tryz.sizeOf179:=@Tryz.sizeOf179
theorem pZ:type_of% @Tryz.sizeOf190:=@Tryz.sizeOf190
theorem bg:type_of% @Tryz.sizeOf193:=@Tryz.sizeOf193
theorem l9:type_of% @Tryz.sizeOf241:=@Tryz.sizeOf241
theorem aW:type_of% @Tryz.sizeOf25:=@Tryz.sizeOf25
theorem nv:type_of% @Tryz.sizeOf26:=@Tryz.sizeOf26
theorem w7:type_of% @Tryz.sizeOf267:=@Tryz.sizeOf267
theorem bA:type_of% @Tryz.sizeOf28:=@Tryz.sizeOf28
theorem ai:type_of% @Tryz.sizeOf3:=@Tryz.sizeOf3
theorem aM:type_of% @Tryz.sizeOf303:=@Tryz.sizeOf303
theorem pY:type_of% @Tryz.sizeOf315:=@Tryz.sizeOf315
theorem aB:type_of% @Tryz.sizeOf34:=@Tryz.sizeOf34
theorem Ae:type_of% @Tryz.sizeOf37:=@Tryz.sizeOf37
theorem wH:type_of% @Tryz.sizeOf4:=@Tryz.sizeOf4
theorem aq:type_of% @Tryz.sizeOf42:=@Tryz.sizeOf42
theorem aA:type_of% @Tryz.sizeOf48:=@Tryz.sizeOf48
theorem su:type_of% @Tryz.sizeOf49:=@Tryz.sizeOf49
theorem aC:type_of% @Tryz.sizeOf52:=@Tryz.sizeOf52
theorem dq:type_of% @Tryz.sizeOf64:=@Tryz.sizeOf64
theorem Ad:type_of% @Tryz.sizeOf66:=@Tryz.sizeOf66
theorem aN:type_of% @Tryz.sizeOf87:=@Tryz.sizeOf87
theorem gV:type_of% @Tryz.typeInfo3:=@Tryz.typeInfo3
theorem Ba:type_of% @Tryz.typeInfo303:=@Tryz.typeInfo303
theorem eT:type_of% @Tryz.underlying3:=@Tryz.underlying3
theorem pX:type_of% @Tryz.underlying39:=@Tryz.underlying39
theorem lJ:type_of% @Tryz.underlying44:=@Tryz.underlying44
theorem pW:type_of% @Tryz.underlying66:=@Tryz.underlying66
theorem ff:type_of% @Tryz.zeroValue100:=@Tryz.zeroValue100
theorem pV:type_of% @Tryz.zeroValue104:=@Tryz.zeroValue104
theorem ig:type_of% @Tryz.zeroValue134:=@Tryz.zeroValue134
theorem lI:type_of% @Tryz.zeroValue140:=@Tryz.zeroValue140
theorem y8:type_of% @Tryz.zeroValue153:=@Tryz.zeroValue153
theorem lH:type_of% @Tryz.zeroValue162:=@Tryz.zeroValue162
theorem eE:type_of% @Tryz.zeroValue177:=@Tryz.zeroValue177
theorem y7:type_of% @Tryz.zeroValue179:=@Tryz.zeroValue179
theorem lG:type_of% @Tryz.zeroValue190:=@Tryz.zeroValue190
theorem eD:type_of% @Tryz.zeroValue193:=@Tryz.zeroValue193
theorem Js:type_of% @Tryz.zeroValue236:=@Tryz.zeroValue236
theorem jd:type_of% @Tryz.zeroValue25:=@Tryz.zeroValue25
theorem j5:type_of% @Tryz.zeroValue28:=@Tryz.zeroValue28
theorem cq:type_of% @Tryz.zeroValue3:=@Tryz.zeroValue3
theorem eC:type_of% @Tryz.zeroValue303:=@Tryz.zeroValue303
theorem y0:type_of% @Tryz.zeroValue315:=@Tryz.zeroValue315
theorem ep:type_of% @Tryz.zeroValue34:=@Tryz.zeroValue34
theorem cf:type_of% @Tryz.zeroValue42:=@Tryz.zeroValue42
theorem jc:type_of% @Tryz.zeroValue48:=@Tryz.zeroValue48
theorem dS:type_of% @Tryz.zeroValue52:=@Tryz.zeroValue52
theorem de:type_of% @Tryz.zeroValue87:=@Tryz.zeroValue87
end Go.Proofs.YteajddicacjkhaaGreat
namespace Go.Proofs.YteajddicacjkhaaGreat
open Go.MW Go.ChangeShapes Go.WideShapes
set_option maxRecDepth 100000
theorem wW:Tryz.prog.cellsOf 3=1:=by kernel_rfl
theorem BN:Tryz.prog.cellsOf 34=1:=by kernel_rfl
theorem Jh:Tryz.prog.bytesOf 3=8:=by kernel_rfl
theorem EV:reachBytes=140737488351232:=rfl
section
variable{H:Type}{enc:TypeId×Value→H}{w:World}{sp:Nat→Bool}{held:Bool}{n:Nat}{cs:List Value}{y:DataW H×List MemPlace}{v:Value}{d:DataW H}{p:List MemPlace}{r:Reach}{base:Nat}
theorem Bp(hw:Wt Tryz.prog 34 y.1)(h:DataW.trod enc Tryz.prog w 0 sp held n 34 cs=some y):∃v xs,cs=[v]∧RI (hp w) v xs∧IsIn xs:=by
 obtain ⟨v,xs,h1,h2,h3,h4⟩:=Gu Tryz.underlying34 eT wW hw h
 rw [Jh,EV] at h3
 exact ⟨v,xs,h1,h2,ak,h4⟩
end
end Go.Proofs.YteajddicacjkhaaGreat
namespace Go.Proofs.YteajddicacjkhaaGreat
open Go.MW Go.ChangeShapes Go.WideShapes
set_option maxRecDepth 100000
theorem len6{α:Type}{l:List α}(h:l.length=6):∃a b c d e f,l=[a,b,c,d,e,f]:=by match l,h with|[a,b,c,d,e,f],_=>exact ⟨a,b,c,d,e,f,rfl⟩
section
variable{H:Type}{enc:TypeId×Value→H}{w:World}{sp:Nat→Bool}{held:Bool}{n:Nat}{cs:List Value}{y:DataW H×List MemPlace}{v:Value}{d:DataW H}{p:List MemPlace}{r:Reach}{base:Nat}
end
end Go.Proofs.YteajddicacjkhaaGreat
namespace Go.Proofs.YteajddicacjkhaaGreat
open Go.MW Go.ChangeShapes Go.WideShapes
set_option maxRecDepth 100000
theorem FN:Tryz.prog.cellsOf 35=1:=by kernel_rfl
theorem FM:Tryz.prog.cellsOf 36=1:=by kernel_rfl
theorem c_53:Tryz.prog.cellsOf 151=5:=by kernel_rfl
theorem c_43:Tryz.prog.cellsOf 97=4:=by kernel_rfl
theorem IS:Tryz.prog.cellsOf 37=3:=by kernel_rfl
theorem D9:Tryz.prog.cellsOf 39=7:=by kernel_rfl
theorem len7{α:Type}{l:List α}(h:l.length=7):∃a b c d e f g,l=[a,b,c,d,e,f,g]:=by match l,h with|[a,b,c,d,e,f,g],_=>exact ⟨a,b,c,d,e,f,g,rfl⟩
theorem Gk:∀{zs:List (List Int)},(∀z∈zs,z.length=5∧∀y∈z,I64 y)→∃ls:List F5,zs.map Is=ls.map F5.v
 |[],_=>⟨[],rfl⟩
 |z::zs,h=>by
  obtain ⟨ls,h1⟩:=Gk (fun c hc=>h c (.tail _ hc))
  obtain ⟨h3,_⟩:=h z (.head _)
  match z,h3 with
  |[a,b,c,d,e],_=>exact ⟨⟨a,b,c,d,e⟩::ls,by rw [List.map_cons,h1];rfl⟩
theorem Gj:∀{zs:List (List Int)},(∀z∈zs,z.length=4∧∀y∈z,I64 y)→∃ls:List F4,zs.map Is=ls.map F4.v
 |[],_=>⟨[],rfl⟩
 |z::zs,h=>by
  obtain ⟨ls,h1⟩:=Gj (fun c hc=>h c (.tail _ hc))
  obtain ⟨h3,_⟩:=h z (.head _)
  match z,h3 with
  |[a,b,c,d],_=>exact ⟨⟨a,b,c,d⟩::ls,by rw [List.map_cons,h1];rfl⟩
structure JB where
 sp:List Int
 rs:List F5
 cs:List F4
 pk:List Int
 x:Int
 y:Int
 z:Int
def Jk(H:bV)(v:Value)(r:JB):Prop:=∃vs v5 v4 vp,v= .agg #[vs,v5,v4,vp,I r.x,I r.y,I r.z]∧RI H vs r.sp∧RF5 H v5 r.rs∧RF4 H v4 r.cs∧RI H vp r.pk
section
variable{H:Type}{enc:TypeId×Value→H}{w:World}{sp:Nat→Bool}{held:Bool}{n:Nat}{cs:List Value}{y:DataW H×List MemPlace}{v:Value}{d:DataW H}{p:List MemPlace}{r:Reach}{base:Nat}
theorem Fe(hw:Wt Tryz.prog 35 y.1)(h:DataW.trod enc Tryz.prog w 0 sp held n 35 cs=some y):∃(v:Value) (ls:List F5),cs=[v]∧RF5 (hp w) v ls:=by
 obtain ⟨v,zs,h1,h2,_,h3⟩:=Aq (k:=5) Tryz.underlying35 Tryz.underlying151 eT wW dL c_53 hw h
 obtain ⟨ls,h4⟩:=Gk h3
 exact ⟨v,ls,h1,by unfold RF5;rw [←h4];exact h2⟩
theorem Fc(hw:Wt Tryz.prog 36 y.1)(h:DataW.trod enc Tryz.prog w 0 sp held n 36 cs=some y):∃(v:Value) (ls:List F4),cs=[v]∧RF4 (hp w) v ls:=by
 obtain ⟨v,zs,h1,h2,_,h3⟩:=Aq (k:=4) Tryz.underlying36 Tryz.underlying97 eT wW dL c_43 hw h
 obtain ⟨ls,h4⟩:=Gj h3
 exact ⟨v,ls,h1,by unfold RF4;rw [←h4];exact h2⟩
end
end Go.Proofs.YteajddicacjkhaaGreat
namespace Go.Proofs.YteajddicacjkhaaGreat
open Go.MW Go.ChangeShapes Go.WideShapes
set_option maxRecDepth 100000
theorem Iy:Tryz.prog.cellsOf 62=1:=by kernel_rfl
theorem C2{H:bV}:∀{us:List Value},(∀u∈us,∃xs,RI H u xs)→∃rows:List (List Int),RLs H us rows
 |[],_=>⟨[],.nil H⟩
 |u::us,h=>by
  obtain ⟨rows,h1,h2⟩:=C2 (fun u hu=>h u (.tail _ hu))
  obtain ⟨xs,h3⟩:=h u (.head _)
  refine ⟨xs::rows,by simp [h1],fun i u' r hu hr=>?_⟩
  cases i with
  |zero=>
   simp only [List.getElem?_cons_zero,Option.some.injEq] at hu hr
   subst hu;subst hr;exact h3
  |succ i=>exact h2 i u' r (by simpa using hu) (by simpa using hr)
section
variable{H:Type}{enc:TypeId×Value→H}{w:World}{sp:Nat→Bool}{held:Bool}{n:Nat}{cs:List Value}{y:DataW H×List MemPlace}{v:Value}{d:DataW H}{p:List MemPlace}{r:Reach}{base:Nat}
theorem Ig(hw:Wt Tryz.prog 62 y.1)(h:DataW.trod enc Tryz.prog w 0 sp held n 62 cs=some y):∃v rows,cs=[v]∧RT (hp w) v rows:=by
 obtain ⟨v,css,h1,h2,_,h3⟩:=Ap (k:=1) Tryz.underlying62 BN dL hw h
 obtain ⟨us,rfl,h4⟩:=all_map (f:=fun u:Value=>[u]) (Q:=fun u=>∃xs,RI (hp w) u xs) (fun c hc=>by
  obtain ⟨m,z,hz,hwz⟩:=h3 c hc
  obtain ⟨u,xs,g1,g2,_⟩:=Bp hwz hz
  exact ⟨u,g1,xs,g2⟩)
 obtain ⟨rows,hr⟩:=C2 h4
 exact ⟨v,rows,h1,us,hr.1,h2,hr.2⟩
end
end Go.Proofs.YteajddicacjkhaaGreat
namespace Go.Proofs.YteajddicacjkhaaGreat
open Go.MW Go.ChangeShapes Go.WideShapes
set_option maxRecDepth 100000
theorem BO:Tryz.prog.cellsOf 42=2:=by kernel_rfl
section
variable{H:Type}{enc:TypeId×Value→H}{w:World}{sp:Nat→Bool}{held:Bool}{n:Nat}{cs:List Value}{y:DataW H×List MemPlace}{v:Value}{d:DataW H}{p:List MemPlace}{r:Reach}{base:Nat}
theorem Ff(h:DataW.trod enc Tryz.prog w 0 sp held n 42 cs=some y):∃a b:Int,cs=[I a,I b]∧I64 a∧I64 b:=by
 obtain ⟨xs,a1,a2,a3⟩:=CO Tryz.underlying42 (by
  intro i f hf
  match i with
  |0|1=>cases hf;exact ⟨rfl,eT,wW⟩
  |i+2=>simp at hf) (by rw [BO];rfl) h
 obtain ⟨a,b,rfl⟩:=len2 a1
 exact ⟨a,b,a2,a3 a bT,a3 b bT⟩
end
end Go.Proofs.YteajddicacjkhaaGreat
namespace Go.Proofs.YteajddicacjkhaaGreat
open Go.MW Go.ChangeShapes Go.WideShapes
set_option maxRecDepth 100000
theorem FL:Tryz.prog.cellsOf 40=1:=by kernel_rfl
theorem Iw:Tryz.prog.cellsOf 96=6:=by kernel_rfl
theorem G7:Tryz.prog.cellsOf 44=14:=by kernel_rfl
theorem Je{α:Type}{l:List α}(h:l.length=14):∃a b c d e f g i j k m n o p,l=[a,b,c,d,e,f,g,i,j,k,m,n,o,p]:=by match l,h with|[a,b,c,d,e,f,g,i,j,k,m,n,o,p],_=>exact ⟨a,b,c,d,e,f,g,i,j,k,m,n,o,p,rfl⟩
section
variable{H:Type}{enc:TypeId×Value→H}{w:World}{sp:Nat→Bool}{held:Bool}{n:Nat}{cs:List Value}{y:DataW H×List MemPlace}{v:Value}{d:DataW H}{p:List MemPlace}{r:Reach}{base:Nat}
theorem Fb(hw:Wt Tryz.prog 40 y.1)(h:DataW.trod enc Tryz.prog w 0 sp held n 40 cs=some y):∃(v:Value) (ls:List Sx),cs=[v]∧RS (hp w) 6 v (ls.map Sx.v):=by
 obtain ⟨v,zs,h1,h2,_,h3⟩:=Aq (k:=6) Tryz.underlying40 Tryz.underlying96 eT wW dL Iw hw h
 obtain ⟨ls,h4,_⟩:=all_map (f:=Sx.v) (Q:=fun _=>True) (css:=zs.map Is) fun c hc=>by
  obtain ⟨z,hz,rfl⟩:=List.mem_map.1 hc
  obtain ⟨a,b,c,d,e,f,rfl⟩:=len6 (h3 z hz).1
  exact ⟨⟨a,b,c,d,e,f⟩,rfl,trivial⟩
 exact ⟨v,ls,h1,by rw [←h4];exact h2⟩
theorem Ih(hw:Wt Tryz.prog 39 y.1)(h:DataW.trod enc Tryz.prog w 0 sp held n 39 cs=some y):∃q:JB,Jk (hp w) (.agg cs.toArray) q:=by
 obtain ⟨ys,m,_,rfl,hlen,hyl,hg⟩:=DataW.trod_struct pX h
 rw [D9] at hlen
 obtain ⟨c0,c1,c2,c3,c4,c5,c6,rfl⟩:=len7 hlen
 obtain ⟨_,h0,k0⟩:=fld hg hyl 0 rfl rfl rfl BN pX hw
 obtain ⟨_,h1,k1⟩:=fld hg hyl 1 rfl rfl rfl FN pX hw
 obtain ⟨_,h2,k2⟩:=fld hg hyl 2 rfl rfl rfl FM pX hw
 obtain ⟨_,h3,k3⟩:=fld hg hyl 3 rfl rfl rfl BN pX hw
 obtain ⟨_,h4,k4⟩:=fld hg hyl 4 rfl rfl rfl IS pX hw
 obtain ⟨v0,s0,e0,r0,i0⟩:=Bp k0 h0
 obtain ⟨v1,l1,e1,r1⟩:=Fe k1 h1
 obtain ⟨v2,l2,e2,r2⟩:=Fc k2 h2
 obtain ⟨v3,s3,e3,r3,i3⟩:=Bp k3 h3
 obtain ⟨xs,g1,g2,g3⟩:=xV Tryz.underlying37 eT wW IS h4
 obtain ⟨a,b,c,rfl⟩:=Jz g1
 cases e0;cases e1;cases e2;cases e3;cases g2
 exact ⟨⟨s0,l1,l2,s3,a,b,c⟩,⟨_,_,_,_,rfl,r0,r1,r2,r3⟩⟩
theorem Cg(hv:Value.okWide Tryz.prog w r base 44 v)(h:DataW.Trod enc Tryz.prog w 0 sp held 44 v d p)(hw:Wt Tryz.prog 44 d):∃x:FT,(∃vs v5 v4 vp vn vg,v=x.agg vs v5 v4 vp vn vg∧Cr (hp w) x vs v5 v4 vp vn vg)∧I64 x.m1∧I64 x.m2:=by
 obtain ⟨cs,n,rfl,hn,_⟩:=xE lJ hv h
 obtain ⟨ys,m,_,e,hlen,hyl,hg⟩:=DataW.trod_struct lJ hn
 cases e
 rw [G7] at hlen
 obtain ⟨c0,c1,c2,c3,c4,c5,c6,c7,c8,c9,c10,c11,c12,c13,rfl⟩:=Je hlen
 obtain ⟨_,h0,k0⟩:=fld hg hyl 0 rfl rfl rfl D9 lJ hw
 obtain ⟨_,h1,k1⟩:=fld hg hyl 1 rfl rfl rfl BN lJ hw
 obtain ⟨_,h2,k2⟩:=fld hg hyl 2 rfl rfl rfl FL lJ hw
 obtain ⟨_,h3,k3⟩:=fld hg hyl 3 rfl rfl rfl BO lJ hw
 obtain ⟨_,h4,k4⟩:=fld hg hyl 4 rfl rfl rfl IS lJ hw
 obtain ⟨q,vs,v5,v4,vp,e0,r0,r1,r2,r3⟩:=Ih k0 h0
 obtain ⟨vn,ns,e1,r4,_⟩:=Bp k1 h1
 obtain ⟨vg,sx,e2,r5⟩:=Fb k2 h2
 obtain ⟨m1,m2,e3,i1,i2⟩:=Ff h3
 obtain ⟨xs,g1,e4,g3⟩:=xV Tryz.underlying37 eT wW IS h4
 obtain ⟨a,b,c,rfl⟩:=Jz g1
 cases e0;cases e1;cases e2;cases e3;cases e4
 exact ⟨⟨q.sp,q.rs,q.cs,q.pk,q.x,q.y,q.z,ns,sx,m1,m2,a,b,c⟩,⟨_,_,_,_,_,_,rfl,r0,r1,r2,r3,r4,r5⟩,i1,i2⟩
end
end Go.Proofs.YteajddicacjkhaaGreat
namespace Go.Proofs.YteajddicacjkhaaGreat
open Go.MW Go.ChangeShapes Go.WideShapes
set_option maxRecDepth 100000
theorem Jg:Tryz.prog.cellsOf 66=4:=by kernel_rfl
theorem Ea:Tryz.prog.cellsOf 64=1:=by kernel_rfl
theorem Jd{α:Type}{l:List α}(h:l.length=4):∃a b c d,l=[a,b,c,d]:=by match l,h with|[a,b,c,d],_=>exact ⟨a,b,c,d,rfl⟩
section
variable{H:Type}{enc:TypeId×Value→H}{w:World}{sp:Nat→Bool}{held:Bool}{n:Nat}{cs:List Value}{y:DataW H×List MemPlace}{v:Value}{d:DataW H}{p:List MemPlace}{r:Reach}{base:Nat}
theorem GN(hw:Wt Tryz.prog 64 y.1)(h:DataW.trod enc Tryz.prog w 0 sp held n 64 cs=some y):∃(v:Value) (rows:List (List Int)),cs=[v]∧RT (hp w) v rows:=by
 obtain ⟨ys,m,_,e,hlen,hyl,hg⟩:=DataW.trod_struct Tryz.underlying64 h
 cases e
 rw [Ea] at hlen
 obtain ⟨c0,rfl⟩:=len1 hlen
 obtain ⟨_,h0,k0⟩:=fld hg hyl 0 rfl rfl rfl Iy Tryz.underlying64 hw
 obtain ⟨v0,rows,e0,r0⟩:=Ig k0 h0
 cases e0
 exact ⟨_,rows,rfl,r0⟩
theorem zy(hv:Value.okWide Tryz.prog w r base 66 v)(h:DataW.Trod enc Tryz.prog w 0 sp held 66 v d p)(hw:Wt Tryz.prog 66 d):∃x:Wit,(∃vh,v= .agg #[I x.leg,I x.dense,I x.nZ,vh]∧RT (hp w) vh x.rows)∧True:=by
 obtain ⟨cs,n,rfl,hn,_⟩:=xE pW hv h
 obtain ⟨ys,m,_,e,hlen,hyl,hg⟩:=DataW.trod_struct pW hn
 cases e
 rw [Jg] at hlen
 obtain ⟨c0,c1,c2,c3,rfl⟩:=Jd hlen
 obtain ⟨_,h0,k0⟩:=fld hg hyl 0 rfl rfl rfl wW pW hw
 obtain ⟨_,h1,k1⟩:=fld hg hyl 1 rfl rfl rfl wW pW hw
 obtain ⟨_,h2,k2⟩:=fld hg hyl 2 rfl rfl rfl wW pW hw
 obtain ⟨_,h3,k3⟩:=fld hg hyl 3 rfl rfl rfl Ea pW hw
 obtain ⟨a,e0,_⟩:=xf eT h0
 obtain ⟨b,e1,_⟩:=xf eT h1
 obtain ⟨c,e2,_⟩:=xf eT h2
 obtain ⟨vh,rows,e3,r3⟩:=GN k3 h3
 cases e0;cases e1;cases e2;cases e3
 exact ⟨⟨a,b,c,rows⟩,⟨_,rfl,r3⟩,trivial⟩
end
end Go.Proofs.YteajddicacjkhaaGreat
namespace Go.Proofs.YteajddicacjkhaaGreat
theorem G5:Tryz.prog.make=some .cut:=by kernel_rfl
theorem FK:Tryz.prog.mayEnter=true:=by kernel_rfl
theorem FH:Tryz.prog.liftsFinal=false:=by kernel_rfl
theorem G6:Tryz.prog.plainKeys=true:=by kernel_rfl
theorem D8:laidOutB Tryz.prog=true:=by kernel_rfl
theorem G4:mapsRowed Tryz.prog=true:=by kernel_rfl
theorem FJ:Tryz.prog.stopsHeard=true:=by kernel_rfl
theorem FG:Tryz.prog.stops=[]:=by kernel_rfl
theorem FI:Tryz.prog.stopKnobs=[]:=by kernel_rfl
theorem qL{a b:Bool}(h:a=true)(k:b=true):(a&&b)=true:=by rw [h,k];rfl
theorem Iz{α:Type}[BEq α][LawfulBEq α]{a b:α}(h:a=b):(a==b)=true:=by rw [h];exact beq_self_eq_true _
theorem Iv:ownKnob Tryz.prog.godebug=none:=by kernel_rfl
end Go.Proofs.YteajddicacjkhaaGreat
namespace Go.Proofs.YteajddicacjkhaaGreat
open Go.MW
theorem mix:Tryz.prog.follows .mixedOrders=true:=by kernel_rfl
theorem eg:FA Tryz.prog 25 0 0:=by
 have h:=fP (k:=0) tw rfl ai
 exact h
theorem iC:FA Tryz.prog 25 1 1:=by
 have h:=fP (k:=1) tw rfl ai
 exact h
theorem cK:FA Tryz.prog 25 2 2:=by
 have h:=fP (k:=2) tw rfl Tryz.sizeOf22
 exact h
theorem cU:FA Tryz.prog 25 3 3:=by
 have h:=fP (k:=3) tw rfl Tryz.sizeOf23
 exact h
theorem bH:FA Tryz.prog 28 0 0:=by
 have h:=fP (k:=0) Tryz.runUnderlying28 rfl nv
 exact h
theorem o9:FA Tryz.prog 39 0 0:=by
 have h:=fP (k:=0) tv rfl aB
 exact h
theorem iS:FA Tryz.prog 39 1 1:=by
 have h:=fP (k:=1) tv rfl Tryz.sizeOf35
 exact h
theorem kE:FA Tryz.prog 39 2 2:=by
 have h:=fP (k:=2) tv rfl Tryz.sizeOf36
 exact h
theorem o6:FA Tryz.prog 39 3 3:=by
 have h:=fP (k:=3) tv rfl aB
 exact h
theorem o5:FA Tryz.prog 39 4 4:=by
 have h:=fP (k:=4) tv rfl Ae
 exact h
theorem bN:FA Tryz.prog 42 0 0:=by
 have h:=fP (k:=0) F1 rfl ai
 exact h
theorem cj:FA Tryz.prog 42 1 1:=by
 have h:=fP (k:=1) F1 rfl ai
 exact h
theorem kD:FA Tryz.prog 44 0 0:=by
 have h:=fP (k:=0) tu rfl Tryz.sizeOf39
 exact h
theorem oZ:FA Tryz.prog 44 1 7:=by
 have h:=fP (k:=1) tu rfl aB
 exact h
theorem oY:FA Tryz.prog 44 2 8:=by
 have h:=fP (k:=2) tu rfl Tryz.sizeOf40
 exact h
theorem gw:FA Tryz.prog 44 3 9:=by
 have h:=fP (k:=3) tu rfl aq
 exact h
theorem oX:FA Tryz.prog 44 4 11:=by
 have h:=fP (k:=4) tu rfl Ae
 exact h
theorem jW:FA Tryz.prog 46 0 0:=by
 have h:=fP (k:=0) Tryz.runUnderlying46 rfl ai
 exact h
theorem jV:FA Tryz.prog 46 1 1:=by
 have h:=fP (k:=1) Tryz.runUnderlying46 rfl ai
 exact h
theorem mG:FA Tryz.prog 48 0 0:=by
 have h:=fP (k:=0) mb rfl ai
 exact h
theorem dR:FA Tryz.prog 48 1 1:=by
 have h:=fP (k:=1) mb rfl ai
 exact h
theorem bI:FA Tryz.prog 48 2 2:=by
 have h:=fP (k:=2) mb rfl aB
 exact h
theorem a8:FA Tryz.prog 48 3 3:=by
 have h:=fP (k:=3) mb rfl aB
 exact h
theorem ef:FA Tryz.prog 48 4 4:=by
 have h:=fP (k:=4) mb rfl Tryz.sizeOf46
 exact h
theorem bj:FA Tryz.prog 52 0 0:=by
 have h:=fP (k:=0) F0 rfl aA
 exact h
theorem aO:FA Tryz.prog 52 1 6:=by
 have h:=fP (k:=1) F0 rfl su
 exact h
theorem ck:FA Tryz.prog 52 2 7:=by
 have h:=fP (k:=2) F0 rfl Tryz.sizeOf50
 exact h
theorem eo:FA Tryz.prog 64 0 0:=by
 have h:=fP (k:=0) Tryz.runUnderlying64 rfl Tryz.sizeOf62
 exact h
theorem ek:FA Tryz.prog 66 0 0:=by
 have h:=fP (k:=0) tt rfl ai
 exact h
theorem jA:FA Tryz.prog 66 1 1:=by
 have h:=fP (k:=1) tt rfl ai
 exact h
theorem jz:FA Tryz.prog 66 2 2:=by
 have h:=fP (k:=2) tt rfl ai
 exact h
theorem iq:FA Tryz.prog 66 3 3:=by
 have h:=fP (k:=3) tt rfl dq
 exact h
theorem kF:FA Tryz.prog 87 0 0:=by
 have h:=fP (k:=0) ma rfl ai
 exact h
theorem fl:FA Tryz.prog 87 1 1:=by
 have h:=fP (k:=1) ma rfl ai
 exact h
theorem fk:FA Tryz.prog 87 2 2:=by
 have h:=fP (k:=2) ma rfl ai
 exact h
theorem fj:FA Tryz.prog 87 3 3:=by
 have h:=fP (k:=3) ma rfl aq
 exact h
theorem fH:FA Tryz.prog 87 4 5:=by
 have h:=fP (k:=4) ma rfl aq
 exact h
theorem eQ:FA Tryz.prog 100 0 0:=by
 have h:=fP (k:=0) gI rfl ai
 exact h
theorem gg:FA Tryz.prog 100 1 1:=by
 have h:=fP (k:=1) gI rfl ai
 exact h
theorem gd:FA Tryz.prog 100 2 2:=by
 have h:=fP (k:=2) gI rfl ai
 exact h
theorem du:FA Tryz.prog 100 3 3:=by
 have h:=fP (k:=3) gI rfl ai
 exact h
theorem di:FA Tryz.prog 100 4 4:=by
 have h:=fP (k:=4) gI rfl ai
 exact h
theorem eP:FA Tryz.prog 100 5 5:=by
 have h:=fP (k:=5) gI rfl ai
 exact h
theorem eO:FA Tryz.prog 100 6 6:=by
 have h:=fP (k:=6) gI rfl ai
 exact h
theorem iW:FA Tryz.prog 104 0 0:=by
 have h:=fP (k:=0) qV rfl ai
 exact h
theorem eI:FA Tryz.prog 104 1 1:=by
 have h:=fP (k:=1) qV rfl ai
 exact h
theorem eH:FA Tryz.prog 104 2 2:=by
 have h:=fP (k:=2) qV rfl ai
 exact h
theorem iV:FA Tryz.prog 104 3 3:=by
 have h:=fP (k:=3) qV rfl ai
 exact h
theorem np:FA Tryz.prog 113 0 0:=by
 have h:=fP (k:=0) Es rfl ai
 exact h
theorem fb:FA Tryz.prog 113 1 1:=by
 have h:=fP (k:=1) Es rfl ai
 exact h
theorem dU:FA Tryz.prog 113 2 2:=by
 have h:=fP (k:=2) Es rfl ai
 exact h
theorem bO:FA Tryz.prog 134 0 0:=by
 have h:=fP (k:=0) Tryz.runUnderlying134 rfl ai
 exact h
theorem dB:FA Tryz.prog 134 1 1:=by
 have h:=fP (k:=1) Tryz.runUnderlying134 rfl ai
 exact h
theorem lS:FA Tryz.prog 140 0 0:=by
 have h:=fP (k:=0) qU rfl aC
 exact h
theorem jU:FA Tryz.prog 140 2 12:=by
 have h:=fP (k:=2) qU rfl nv
 exact h
theorem lR:FA Tryz.prog 140 3 13:=by
 have h:=fP (k:=3) qU rfl Tryz.sizeOf80
 exact h
theorem iT:FA Tryz.prog 140 4 14:=by
 have h:=fP (k:=4) qU rfl aB
 exact h
theorem ir:FA Tryz.prog 153 0 0:=by
 have h:=fP (k:=0) ji rfl ai
 exact h
theorem jB:FA Tryz.prog 153 1 1:=by
 have h:=fP (k:=1) ji rfl ai
 exact h
theorem gj:FA Tryz.prog 153 2 2:=by
 have h:=fP (k:=2) ji rfl ai
 exact h
theorem fC:FA Tryz.prog 153 3 3:=by
 have h:=fP (k:=3) ji rfl ai
 exact h
theorem fB:FA Tryz.prog 153 4 4:=by
 have h:=fP (k:=4) ji rfl ai
 exact h
theorem fA:FA Tryz.prog 153 5 5:=by
 have h:=fP (k:=5) ji rfl ai
 exact h
theorem nJ:FA Tryz.prog 162 0 0:=by
 have h:=fP (k:=0) jh rfl ai
 exact h
theorem kR:FA Tryz.prog 162 1 1:=by
 have h:=fP (k:=1) jh rfl ai
 exact h
theorem cM:FA Tryz.prog 177 0 0:=by
 have h:=fP (k:=0) Tryz.runUnderlying177 rfl ai
 exact h
theorem cA:FA Tryz.prog 177 1 1:=by
 have h:=fP (k:=1) Tryz.runUnderlying177 rfl p5
 exact h
theorem oW:FA Tryz.prog 179 0 0:=by
 have h:=fP (k:=0) Er rfl aV
 exact h
theorem oV:FA Tryz.prog 179 1 2:=by
 have h:=fP (k:=1) Er rfl aB
 exact h
theorem kC:FA Tryz.prog 179 2 3:=by
 have h:=fP (k:=2) Er rfl ai
 exact h
theorem dE:FA Tryz.prog 190 0 0:=by
 have h:=fP (k:=0) Ep rfl ai
 exact h
theorem dn:FA Tryz.prog 190 1 1:=by
 have h:=fP (k:=1) Ep rfl ai
 exact h
theorem eX:FA Tryz.prog 190 2 2:=by
 have h:=fP (k:=2) Ep rfl ai
 exact h
theorem dA:FA Tryz.prog 193 0 0:=by
 have h:=fP (k:=0) qT rfl ai
 exact h
theorem dH:FA Tryz.prog 193 1 1:=by
 have h:=fP (k:=1) qT rfl ai
 exact h
theorem eG:FA Tryz.prog 193 2 2:=by
 have h:=fP (k:=2) qT rfl ai
 exact h
theorem km:FA Tryz.prog 193 3 3:=by
 have h:=fP (k:=3) qT rfl ai
 exact h
theorem th:FA Tryz.prog 236 0 0:=by
 have h:=fP (k:=0) Eo rfl Tryz.sizeOf233
 exact h
theorem tg:FA Tryz.prog 236 1 1:=by
 have h:=fP (k:=1) Eo rfl Tryz.sizeOf234
 exact h
theorem tf:FA Tryz.prog 236 2 2:=by
 have h:=fP (k:=2) Eo rfl ai
 exact h
theorem dh:FA Tryz.prog 241 0 0:=by
 have h:=fP (k:=0) Tryz.runUnderlying241 rfl gW
 exact h
theorem fK:FA Tryz.prog 241 1 3:=by
 have h:=fP (k:=1) Tryz.runUnderlying241 rfl aA
 exact h
theorem dJ:FA Tryz.prog 246 0 0:=by
 have h:=fP (k:=0) En rfl aC
 exact h
theorem gv:FA Tryz.prog 246 1 8:=by
 have h:=fP (k:=1) En rfl Tryz.sizeOf159
 exact h
theorem jT:FA Tryz.prog 246 2 9:=by
 have h:=fP (k:=2) En rfl p5
 exact h
theorem gQ:FA Tryz.prog 272 0 0:=by
 have h:=fP (k:=0) Em rfl aV
 exact h
theorem iU:FA Tryz.prog 272 1 2:=by
 have h:=fP (k:=1) Em rfl aB
 exact h
theorem ee:FA Tryz.prog 272 2 3:=by
 have h:=fP (k:=2) Em rfl aB
 exact h
theorem dy:FA Tryz.prog 303 0 0:=by
 have h:=fP (k:=0) qS rfl ai
 exact h
theorem dG:FA Tryz.prog 303 1 1:=by
 have h:=fP (k:=1) qS rfl ai
 exact h
theorem fO:FA Tryz.prog 303 2 2:=by
 have h:=fP (k:=2) qS rfl ai
 exact h
theorem ed:FA Tryz.prog 303 3 3:=by
 have h:=fP (k:=3) qS rfl ai
 exact h
theorem gE:FA Tryz.prog 315 0 0:=by
 have h:=fP (k:=0) Tryz.runUnderlying315 rfl ai
 exact h
theorem jv:FA Tryz.prog 315 1 1:=by
 have h:=fP (k:=1) Tryz.runUnderlying315 rfl ai
 exact h
theorem qc:FA Tryz.prog 317 0 0:=by
 have h:=fP (k:=0) Tryz.runUnderlying317 rfl aB
 exact h
theorem sd:qR Tryz.prog 25 [(0,1),(1,1),(2,1),(3,1)] [I 0,I 0,.slice none 0 0,.slice none 0 0]:=ki jd rfl tw (by simp [Tryz.sizeOf22,Tryz.sizeOf23,Tryz.sizeOf3])
theorem nr:qR Tryz.prog 28 [(0,1)] [.slice none 0 0]:=ki j5 rfl Tryz.runUnderlying28 (by simp [Tryz.sizeOf26])
theorem cB:qR Tryz.prog 42 [(0,1),(1,1)] [I 0,I 0]:=ki cf rfl F1 (by simp [Tryz.sizeOf3])
theorem tK:qR Tryz.prog 46 [(0,1),(1,1)] [I 0,I 0]:=ki Tryz.zeroValue46 rfl Tryz.runUnderlying46 (by simp [Tryz.sizeOf3])
theorem sc:qR Tryz.prog 48 [(0,1),(1,1),(2,1),(3,1),(4,2)] [I 0,I 0,.slice none 0 0,.slice none 0 0,I 0,I 0]:=ki jc rfl mb (by simp [Tryz.sizeOf3,Tryz.sizeOf34,Tryz.sizeOf46])
theorem qh:qR Tryz.prog 52 [(0,6),(6,1),(7,1)] [I 0,I 0,.slice none 0 0,.slice none 0 0,I 0,I 0,.slice none 0 0,.slice none 0 0]:=ki dS rfl F0 (by simp [Tryz.sizeOf48,Tryz.sizeOf49,Tryz.sizeOf50])
theorem zZ:qR Tryz.prog 64 [(0,1)] [.slice none 0 0]:=ki Tryz.zeroValue64 rfl Tryz.runUnderlying64 (by simp [Tryz.sizeOf62])
theorem wv:qR Tryz.prog 66 [(0,1),(1,1),(2,1),(3,1)] [I 0,I 0,I 0,.slice none 0 0]:=ki Tryz.zeroValue66 rfl tt (by simp [Tryz.sizeOf3,Tryz.sizeOf64])
theorem lW:qR Tryz.prog 87 [(0,1),(1,1),(2,1),(3,2),(5,2)] [I 0,I 0,I 0,I 0,I 0,I 0,I 0]:=ki de rfl ma (by simp [Tryz.sizeOf3,Tryz.sizeOf42])
theorem iZ:qR Tryz.prog 100 [(0,1),(1,1),(2,1),(3,1),(4,1),(5,1),(6,1)] [I 0,I 0,I 0,I 0,I 0,I 0,I 0]:=ki ff rfl gI (by simp [Tryz.sizeOf3])
theorem qi:qR Tryz.prog 104 [(0,1),(1,1),(2,1),(3,1)] [I 0,I 0,I 0,I 0]:=ki pV rfl qV (by simp [Tryz.sizeOf3])
theorem tJ:qR Tryz.prog 113 [(0,1),(1,1),(2,1)] [I 0,I 0,I 0]:=ki Tryz.zeroValue113 rfl Es (by simp [Tryz.sizeOf3])
theorem gS:qR Tryz.prog 134 [(0,1),(1,1)] [I 0,I 0]:=ki ig rfl Tryz.runUnderlying134 (by simp [Tryz.sizeOf3])
theorem gG:qR Tryz.prog 140 [(0,8),(8,4),(12,1),(13,1),(14,1)] [I 0,I 0,.slice none 0 0,.slice none 0 0,I 0,I 0,.slice none 0 0,.slice none 0 0,I 0,I 0,.slice none 0 0,.slice none 0 0,.slice none 0 0,.slice none 0 0,.slice none 0 0]:=ki lI rfl qU (by simp [Tryz.sizeOf25,Tryz.sizeOf26,Tryz.sizeOf34,Tryz.sizeOf52,Tryz.sizeOf80])
theorem ph:qR Tryz.prog 153 [(0,1),(1,1),(2,1),(3,1),(4,1),(5,1)] [I 0,I 0,I 0,I 0,I 0,I 0]:=ki y8 rfl ji (by simp [Tryz.sizeOf3])
theorem iY:qR Tryz.prog 162 [(0,1),(1,1)] [I 0,I 0]:=ki lH rfl jh (by simp [Tryz.sizeOf3])
theorem mJ:qR Tryz.prog 177 [(0,1),(1,1)] [I 0,.slice none 0 0]:=ki eE rfl Tryz.runUnderlying177 (by simp [Tryz.sizeOf175,Tryz.sizeOf3])
theorem gK:qR Tryz.prog 179 [(0,2),(2,1),(3,1)] [I 0,.slice none 0 0,.slice none 0 0,I 0]:=ki y7 rfl Er (by simp [Tryz.sizeOf177,Tryz.sizeOf3,Tryz.sizeOf34])
theorem sa:qR Tryz.prog 190 [(0,1),(1,1),(2,1)] [I 0,I 0,I 0]:=ki lG rfl Ep (by simp [Tryz.sizeOf3])
theorem fc:qR Tryz.prog 193 [(0,1),(1,1),(2,1),(3,1)] [I 0,I 0,I 0,I 0]:=ki eD rfl qT (by simp [Tryz.sizeOf3])
theorem jD:qR Tryz.prog 236 [(0,1),(1,1),(2,1)] [.nilFunc,.nilFunc,I 0]:=ki Js rfl Eo (by simp [Tryz.sizeOf233,Tryz.sizeOf234,Tryz.sizeOf3])
theorem uu:qR Tryz.prog 241 [(0,3),(3,6)] [I 0,I 0,I 0,I 0,I 0,.slice none 0 0,.slice none 0 0,I 0,I 0]:=ki Tryz.zeroValue241 rfl Tryz.runUnderlying241 (by simp [Tryz.sizeOf113,Tryz.sizeOf48])
theorem tk:qR Tryz.prog 246 [(0,8),(8,1),(9,1)] [I 0,I 0,.slice none 0 0,.slice none 0 0,I 0,I 0,.slice none 0 0,.slice none 0 0,.slice none 0 0,.slice none 0 0]:=ki Tryz.zeroValue246 rfl En (by simp [Tryz.sizeOf159,Tryz.sizeOf175,Tryz.sizeOf52])
theorem qg:qR Tryz.prog 272 [(0,2),(2,1),(3,1)] [I 0,.slice none 0 0,.slice none 0 0,.slice none 0 0]:=ki Tryz.zeroValue272 rfl Em (by simp [Tryz.sizeOf177,Tryz.sizeOf34])
theorem qf:qR Tryz.prog 303 [(0,1),(1,1),(2,1),(3,1)] [I 0,I 0,I 0,I 0]:=ki eC rfl qS (by simp [Tryz.sizeOf3])
theorem se:qR Tryz.prog 315 [(0,1),(1,1)] [I 0,I 0]:=ki y0 rfl Tryz.runUnderlying315 (by simp [Tryz.sizeOf3])
theorem yL:qR Tryz.prog 317 [(0,1)] [.slice none 0 0]:=ki Tryz.zeroValue317 rfl Tryz.runUnderlying317 (by simp [Tryz.sizeOf34])
theorem oo:wD Tryz.prog 22 2 2 [I 0,I 0,I 0,I 0]:=mI aZ bE ig dL aH
theorem om:wD Tryz.prog 22 3 2 [I 0,I 0,I 0,I 0,I 0,I 0]:=mI aZ bE ig dL aH
theorem lV:wD Tryz.prog 23 1 4 [I 0,I 0,I 0,I 0]:=mI bu cE pV dL aH
theorem kW:wD Tryz.prog 26 1 7 [I 0,I 0,I 0,I 0,I 0,I 0,I 0]:=mI aF aN de dL aH
theorem kV:wD Tryz.prog 26 2 7 [I 0,I 0,I 0,I 0,I 0,I 0,I 0,I 0,I 0,I 0,I 0,I 0,I 0,I 0]:=mI aF aN de dL aH
theorem tI:wD Tryz.prog 34 0 1 []:=mI af ai cq dL aH
theorem dc:wD Tryz.prog 34 1 1 [I 0]:=mI af ai cq dL aH
theorem kI:wD Tryz.prog 34 2 1 [I 0,I 0]:=mI af ai cq dL aH
theorem zY:wD Tryz.prog 34 3 1 [I 0,I 0,I 0]:=mI af ai cq dL aH
theorem gJ:wD Tryz.prog 49 1 7 [I 0,I 0,I 0,I 0,I 0,I 0,I 0]:=mI au aI ff dL aH
theorem pT:wD Tryz.prog 49 4 7 [I 0,I 0,I 0,I 0,I 0,I 0,I 0,I 0,I 0,I 0,I 0,I 0,I 0,I 0,I 0,I 0,I 0,I 0,I 0,I 0,I 0,I 0,I 0,I 0,I 0,I 0,I 0,I 0]:=mI au aI ff dL aH
theorem lh:wD Tryz.prog 50 1 6 [I 0,I 0,I 0,I 0,I 0,I 0]:=mI bk cD y8 dL aH
theorem qe:wD Tryz.prog 62 1 1 [.slice none 0 0]:=mI az aB ep dL aH
theorem wY:wD Tryz.prog 62 2 1 [.slice none 0 0,.slice none 0 0]:=mI az aB ep dL aH
theorem iH:wD Tryz.prog 80 1 2 [I 0,I 0]:=mI dI aq cf dL aH
theorem jr:wD Tryz.prog 159 1 2 [I 0,I 0]:=mI bD bP lH dL aH
theorem r8:wD Tryz.prog 175 1 4 [I 0,I 0,I 0,I 0]:=mI aJ bg eD dL aH
theorem gx:wD Tryz.prog 175 2 4 [I 0,I 0,I 0,I 0,I 0,I 0,I 0,I 0]:=mI aJ bg eD dL aH
theorem yK:wD Tryz.prog 247 6 1 [.nilFunc,.nilFunc,.nilFunc,.nilFunc,.nilFunc,.nilFunc]:=mI Tryz.runUnderlying247 Tryz.sizeOf1 Tryz.zeroValue1 dL aH
theorem qK:wD Tryz.prog 267 1 4 [I 0,I 0,I 0,I 0]:=mI aE aM eC dL aH
theorem r9:wD Tryz.prog 312 1 2 [I 0,I 0]:=mI lz pY y0 dL aH
theorem lx:Cw Tryz.prog 23 23 104 4 32:=⟨bu,bu,cE,⟨_,Tryz.typeInfo104,rfl,by decide⟩,⟨_,pV,rfl⟩⟩
theorem oq:Cw Tryz.prog 26 26 87 7 56:=⟨aF,aF,aN,⟨_,Tryz.typeInfo87,rfl,by decide⟩,⟨_,de,rfl⟩⟩
theorem cV:Cw Tryz.prog 34 34 3 1 8:=⟨af,af,ai,⟨_,gV,rfl,by decide⟩,⟨_,cq,rfl⟩⟩
theorem dY:Cw Tryz.prog 49 49 100 7 56:=⟨au,au,aI,⟨_,Tryz.typeInfo100,rfl,by decide⟩,⟨_,ff,rfl⟩⟩
theorem kJ:Cw Tryz.prog 50 50 153 6 48:=⟨bk,bk,cD,⟨_,Tryz.typeInfo153,rfl,by decide⟩,⟨_,y8,rfl⟩⟩
theorem lX:Cw Tryz.prog 62 62 34 1 24:=⟨az,az,aB,⟨_,Tryz.typeInfo34,rfl,by decide⟩,⟨_,ep,rfl⟩⟩
theorem jg:Cw Tryz.prog 80 80 42 2 16:=⟨dI,dI,aq,⟨_,Tryz.typeInfo42,rfl,by decide⟩,⟨_,cf,rfl⟩⟩
theorem fm:Cw Tryz.prog 159 159 162 2 16:=⟨bD,bD,bP,⟨_,Tryz.typeInfo162,rfl,by decide⟩,⟨_,lH,rfl⟩⟩
theorem cZ:Cw Tryz.prog 175 175 193 4 32:=⟨aJ,aJ,bg,⟨_,Tryz.typeInfo193,rfl,by decide⟩,⟨_,eD,rfl⟩⟩
theorem lr:Cw Tryz.prog 267 267 303 4 32:=⟨aE,aE,aM,⟨_,Ba,rfl,by decide⟩,⟨_,eC,rfl⟩⟩
theorem l7:Cw Tryz.prog 312 312 315 2 16:=⟨lz,lz,pY,⟨_,Tryz.typeInfo315,rfl,by decide⟩,⟨_,y0,rfl⟩⟩
end Go.Proofs.YteajddicacjkhaaGreat
namespace Go.Proofs.YteajddicacjkhaaGreat
open Go.MW
variable{H:bV}{w:World}{σ:List Ent}
theorem fL{a0 a1 a2:Int}(hs:St H w σ):Cl Tryz.prog 199 [I a0,I a1,I a2] w fun v w'=>v= .bool (decide (a1≤a0∧a0≤a2))∧St H w' σ:=by
 refine Cl.o Tryz.func199 Tryz.ntmps199 ag3 ?_
 refine .aj (.zn zg (.aj (.z zm (.z zm (.z nb (.z zm (.ie (t':=10) rfl (fun hb10=>?_) (fun hb10=>?_))))))))
 ·refine .T (.z zm (.T (.z zm (.T (.z nb (.z zpT (.zn zg (.ret (Fin.bq Tryz.results199 rfl ?_)))))))))
  exact ⟨by simp [*],hs.out⟩
 ·refine .Fs 3 3 true (.z zpF (.zn zg (.ret (Fin.bq Tryz.results199 rfl ?_))))
  exact ⟨by simp [*],hs.out⟩
theorem rX{many:Int}{l:Lim}(hs:St H w σ):Cl Tryz.prog 250 [I many,.agg l.c.toArray] w fun v w'=>v= .bool (l.ok many)∧St H w' σ:=by
 refine Cl.o Tryz.func250 Tryz.ntmps250 ag2 ?_
 refine .aj (.bx hs fun b3 w hs=>?_)
 refine .zn zg (.aj (.z (zfa dA) (.y hs (zld ae) (.z zm (.o (.call Cz rfl (fL hs) ?_))))));rintro _ w ⟨rfl,hs⟩
 refine .z zm (.bif (t':=9) rfl (fun hb9=>?_) (fun hb9=>?_))
 ·refine .T (.z (zfa dH) (.T (.y hs (zld ae) (.T (.z zm (.T (.o (.call Cz rfl (fL hs) ?_))))))));rintro _ w ⟨rfl,hs⟩
  refine .z zpT (.z zm (.bif (t':=15) rfl (fun hb15=>?_) (fun hb15=>?_)))
  ·refine .T (.z (zfa dA) (.T (.y hs (zld ae) (.T (.z (zfa dH) (.T (.y hs (zld ae) (.T (.z hZ (.z zpT (.z zm (.CE (t':=22) rfl (fun hb22=>?_) (fun hb22=>?_)))))))))))))
   ·refine .T (.z (zfa eG) (.T (.y hs (zld ae) (.T (.o (.call Cz rfl (fL hs) ?_))))));rintro _ w ⟨rfl,hs⟩
    refine .z zpT (.z zm (.bif (t':=27) rfl (fun hb27=>?_) (fun hb27=>?_)))
    ·refine .T (.z (zfa km) (.T (.y hs (zld ae) (.T (.o (.call Cz rfl (fL hs) ?_))))));rintro _ w ⟨rfl,hs⟩
     refine .z zpT (.zn zg (.ret (Fin.bq CJ rfl ?_)))
     exact ⟨by simp [Lim.ok, *],hs.out⟩
    ·refine .Fs 3 22 true (.z zpF (.zn zg (.ret (Fin.bq CJ rfl ?_))))
     exact ⟨by simp [Lim.ok, *],hs.out⟩
   ·refine .Fs 3 17 true (.z zpF (.z zm (.Fs 3 22 true (.z zpF (.zn zg (.ret (Fin.bq CJ rfl ?_)))))))
    exact ⟨by simp [Lim.ok, *],hs.out⟩
  ·refine .Fs 5 10 true (.z zpF (.z zm (.Fs 3 17 true (.z zpF (.z zm (.Fs 3 22 true (.z zpF (.zn zg (.ret (Fin.bq CJ rfl ?_))))))))))
   exact ⟨by simp [Lim.ok, *],hs.out⟩
 ·refine .Fs 4 4 true (.z zpF (.z zm (.Fs 5 10 true (.z zpF (.z zm (.Fs 3 17 true (.z zpF (.z zm (.Fs 3 22 true (.z zpF (.zn zg (.ret (Fin.bq CJ rfl ?_)))))))))))))
  exact ⟨by simp [Lim.ok, *],hs.out⟩
theorem yS{v:Value}{ls:List Lim}{g:Nat}{cap:List Value}{p:Lim→Bool}(hs:St H w σ)(hr:RL H v ls)
  (hc:∀args w,(callFunc g args).run Tryz.prog w= .ok (.enter g args) w) (hp:∀w l,St H w σ→Cl Tryz.prog g ([.agg l.c.toArray]++cap) w fun u w'=>u= .bool (p l)∧St H w' σ):
  Cl Tryz.prog 277 [v,.func (.func g) #[] cap.toArray] w fun u w'=>u=I (match ls.findIdx? p with|some k=>(k:Int)|none=> -1)∧St H w' σ:=by
 obtain ⟨a,c,rfl⟩:=RS.shape hr
 have hl:=(RS.len hr).2.2
 refine Cl.o Tryz.func277 Tryz.ntmps277 ag2 ?_
 refine .aj (.zn zg (.seq (.aj (.z zm (.q hs (De hr rfl aJ) (.zn zm (.for (N:=(ls.map Lim.c).length) (J:=fun k fr w=>fr=[(1,.func (.func g) #[] cap.toArray),(0,.slice a (ls.map Lim.c).length c)]∧St H w σ∧∀j<k,∀l,ls[j]? =some l→p l=false) ak ?_ ?_ ?_)))))))
 ·exact .mk ⟨rfl,hs,fun j hj=>by omega⟩
 ·rintro k fr w hk ⟨rfl,hs,hno⟩
  obtain ⟨l,hl⟩:=nth (l:=ls) (by simpa using hk)
  refine .block (.aj (.z zm (.zn zg (.aj (.z zm (.z zm (.z zm (.ixX hs hr rfl rfl aJ bg hl rfl ?_))))))));intro b14 o14 hc14
  refine .y hs (zls [_,_,_,_] fw bg) (.o (.pQ (first:=[]) rfl rfl hc (hp _ _ hs) ?_));rintro _ w ⟨rfl,hs⟩
  refine .nil (.cond rfl (fun hc16=>?_) (fun hc16=>?_))
  ·refine .aj (.z zm (.zn zg (.ret (rB (rT (rB (rT (Fin.bq Tryz.results277 rfl ?_))))))))
   exact ⟨by rw [wj hl hc16 hno],hs⟩
  ·refine .skip (nB (nT ?_))
   exact .mk ⟨rfl,hs,fi hno hl hc16⟩
 ·rintro fr w ⟨rfl,hs,hno⟩
  refine nT (.aj (.zn zg (.ret (Fin.bq Tryz.results277 rfl ?_))))
  exact ⟨by rw [tG (by simpa using hno)],hs⟩
theorem uz{v:Value}{ls:List Lim}{g:Nat}{cap:List Value}{p:Lim→Bool}(hs:St H w σ)(hr:RL H v ls)
  (hc:∀args w,(callFunc g args).run Tryz.prog w= .ok (.enter g args) w) (hp:∀w l,St H w σ→Cl Tryz.prog g ([.agg l.c.toArray]++cap) w fun u w'=>u= .bool (p l)∧St H w' σ):
  Cl Tryz.prog 248 [v,.func (.func g) #[] cap.toArray] w fun u w'=>u= .bool (ls.any p)∧St H w' σ:=by
 refine Cl.o Tryz.func248 Tryz.ntmps248 ag2 ?_
 refine .aj (.zn zg (.aj (.z zm (.z zm (.o (.call Tryz.call277 rfl (yS hs hr hc hp) ?_))))));rintro _ w ⟨rfl,hs⟩
 refine .z uF (.zn zg (.ret (Fin.bq Tryz.results248 rfl ?_)))
 exact ⟨by rw [A2];cases ls.findIdx? p<;>simp<;>omega,hs⟩
theorem yJ{b:Nat}{many:Int}{v:Value}{l:Lim}(hs:St H w σ)(hm:Mem σ (.blk b [I many,v])):Cl Tryz.prog 249 [.agg l.c.toArray,Pt b] w fun v w'=>v= .bool (!l.ok many)∧St H w' σ:=by
 refine Cl.o Tryz.func249 Tryz.ntmps249 ag2 ?_
 refine .aj (.bx hs fun b2 w hs=>?_)
 refine .zn zg (.aj (.z (zfa cM) (.q hs (gY rfl ae (.there hm) rfl) (.q hs (kO (vs:=l.c) rfl fw bg) (.o (.call Tryz.call250 rfl (rX hs) ?_))))));rintro _ w ⟨rfl,hs⟩
 refine .z fI (.zn zg (.ret (Fin.bq Tryz.results249 rfl ?_)))
 exact ⟨rfl,hs.out⟩
theorem jC{v:Value}{s:dp}(hs:St H w σ)(hr:RSy H v s):Cl Tryz.prog 197 [v] w fun v w'=>v=I s.check∧St H w' σ:=by
 obtain ⟨u,rfl,hr⟩:=hr
 obtain ⟨a,c,rfl⟩:=RS.shape hr
 refine Cl.o Tryz.func197 Tryz.ntmps197 ag1 ?_
 refine .aj (.bx hs fun b1 w hs=>?_)
 refine .zn zg (.seq (.block (.aj (.z (zfa cM) (.y hs (zld ae) (.o (.call Cz rfl (fL hs) ?_)))))));rintro _ w ⟨rfl,hs⟩
 refine .z fI (.zn zg (.cond rfl (fun hc3=>?_) (fun hc3=>?_)))
 ·refine .aj (.zn zg (.ret (rB (rT (Fin.bq Tryz.results197 rfl ?_)))))
  exact ⟨congrArg I (by unfold dp.check;(repeat' split)<;>simp_all<;>omega),hs.out⟩
 ·refine .aj (.z (zfa cA) (.y hs (zld dr) (.q hs (De hr rfl aJ) (.z k7 (.zn zg (.bn rfl (fun hc8=>?_) (fun hc8=>?_)))))))
  ·refine .aj (.zn zg (.ret (rB (rT (Fin.bq Tryz.results197 rfl ?_)))))
   exact ⟨congrArg I (by unfold dp.check;(repeat' split)<;>simp_all<;>omega),hs.out⟩
  ·refine .aj (.z (zfa cA) (.y hs (zld dr) (.q hs (dD (f:=[]) (c:=[_]) rfl rfl) (.o (.call Tryz.call248 rfl (uz (p:=fun l=> !l.ok s.many) hs hr Tryz.call249 (fun w l hs=>yJ hs .here)) ?_)))));rintro _ w ⟨rfl,hs⟩
   refine .zn zg (.cond rfl (fun hc13=>?_) (fun hc13=>?_))
   ·refine .aj (.zn zg (.ret (rB (rT (Fin.bq Tryz.results197 rfl ?_)))))
    exact ⟨congrArg I (by unfold dp.check;(repeat' split)<;>simp_all<;>omega),hs.out⟩
   ·refine .skip (nB (nT (.aj (.zn zg (.ret (Fin.bq Tryz.results197 rfl ?_))))))
    exact ⟨congrArg I (by unfold dp.check;(repeat' split)<;>simp_all<;>omega),hs.out⟩
theorem rV{H:bV}{b:Nat}{s:dp}{u:Value}(hok:s.Ok)(hb:Row H b [I s.many,u])(hr:RL H u s.cO):ItA Tryz.prog 295 [Pt b] H s.dF:=by
 intro l II Ix _ _ hy H0 σb0 σf w hle hI0 hs
 obtain ⟨a,c,rfl⟩:=RS.shape hr
 have hb1:cellAt H0 b 1=some (.slice a (s.cO.map Lim.c).length c):=cellAt.mono (by rw [hb.cell];rfl) hle
 have hlen:=hok.len
 refine Cl.o Tryz.func295 Tryz.ntmps295 ag2 ?_
 refine .aj (.z (zfa cA) (.y hs (zld dr) (.q hs (De (hr.mono hle) rfl aJ) (.zn zm (.for (N:=(s.cO.map Lim.c).length) (J:=fun k fr w=>fr=[(6,.slice a (s.cO.map Lim.c).length c),(0,.func (.yield l) #[] #[])]∧∃H1 σb,HLe H H1∧HLe H0 H1∧II k H1 σb∧St H1 w (σb++σf)) (by simp;omega) ?_ ?_ ?_)))))
 ·exact .mk ⟨rfl,H0,σb0,hle,HLe.refl _,hI0,hs⟩
 ·rintro k fr w hk ⟨rfl,H1,σb,hle1,hle0,hI,hs⟩
  obtain ⟨x,hx⟩:=nth (l:=s.cO) (by simpa using hk)
  obtain ⟨hA,hB,_⟩:=hok.arc (List.mem_of_getElem? hx) k
  refine .block (.aj (.z zm (.ixX hs (hr.mono hle1) rfl rfl aJ bg hx rfl ?_)));intro b11 o11 hc11
  refine .q hs (bQ (vs:=x.c) rfl fw bg hc11) (.o (.alloc hs eD rfl fun b4 w hs=>?_))
  refine .z zg (.o (.aU (vs:=x.c) hs rfl rfl bg fun w hs=>?_))
  refine .nil (.aj (.z zm (.z (zfa dA) (.y hs (zld ae) (.z (zfa dH) (.y hs (zld ae) (.z (zfa eG) (.y hs (zld ae) (.z zm (.z (zbd [_,_,_,_] qf) ?_))))))))))
  have hk':k<(s.dF.map fun x=>[Value.agg x.v.toArray]).length:=by simp [dp.dF,fG];simpa using hk
  have hxk:(s.dF.map fun x=>[Value.agg x.v.toArray])[k]=[.agg (x.arc k).v.toArray]:=by
   have:=lE hx
   rw [List.getElem_map];rw [List.getElem?_eq_some_iff] at this;obtain ⟨h1,h2⟩:=this;simp only [dp.dF];rw [h2]
  have hyd:=hy k hk' H1 σb σf w hle1 hI hs.tail
  rw [hxk] at hyd
  refine .o (.yield (vs:=[.agg (x.arc k).v.toArray]) rfl (by simp [Arc.v,hA,hB];rfl) hyd ?_);rintro v22 w ⟨H2,σ2,g1,hs,g3⟩
  obtain ⟨bb,rfl,gT,gF⟩:=ot g3
  refine .zn fI (.cond rfl (fun hc23=>?_) (fun hc23=>?_))
  ·refine .ret (rB (rT (rB (Fin.Ho Tryz.results295 ?_))))
   exact ⟨H2,σ2,hle0.trans g1,hs,.inr (gF (by simpa using hc23))⟩
  ·refine .skip (nB (nT ?_))
   exact .mk ⟨rfl,H2,σ2,hle1.trans g1,hle0.trans g1,gT (by simpa using hc23),hs⟩
 ·rintro fr w ⟨rfl,H1,σb,hle1,hle0,hI,hs⟩
  exact Fin.zV Tryz.results295 ⟨H1,σb,hle0,hs,.inl (by simpa [dp.dF,fG] using hI)⟩
theorem kU{v:Value}{s:dp}(hs:St H w σ)(hok:s.Ok)(hr:RSy H v s):
  Cl Tryz.prog 269 [v] w fun v w'=>∃H1 b,HLe H H1∧v= .func (.func 295) #[] #[Pt b]∧ItA Tryz.prog 295 [Pt b] H1 s.dF∧St H1 w' σ:=by
 obtain ⟨u,rfl,hr⟩:=hr
 refine Cl.o Tryz.func269 Tryz.ntmps269 ag1 ?_
 refine .aj (.bx hs fun b1 w hs=>?_)
 refine .zn zg (.aj (.q hs (dD (f:=[]) (c:=[_]) rfl rfl) (.zn zg (.ret (Fin.bq Tryz.results269 rfl ?_)))))
 obtain ⟨H1,g1,g2,hs⟩:=hs.cQ .here
 exact ⟨H1,b1,g1,rfl,rV hok g2 (hr.mono g1),hs⟩
theorem mq{N gf:Nat}{ar:List Arc}{cap:List Value}(hs:St H w σ)(hN:N≤64)(hok:sm ar (N+1))(hit:ItA Tryz.prog gf cap H ar)(hc:∀args w,(callFunc gf args).run Tryz.prog w= .ok (.enter gf args) w):
  Cl Tryz.prog 225 [I N,.func (.func gf) #[] cap.toArray] w fun v w'=>∃H1 bc bb s ov vo,HLe H H1∧v= .tuple #[.slice (some ⟨bc,0,none⟩) (N+1) (N+1),.slice (some ⟨bb,0,none⟩) (N+1) (N+1),vo]∧OvR H1 vo ov∧IC (N+1) ar s ov∧St H1 w' (.blk bc (Is s.cost):: .blk bb (jZ s.by_)::σ):=by
 refine Cl.o Tryz.func225 Tryz.ntmps225 ag2 ?_
 refine .aj (.o (.alloc hs ep rfl fun b4 w hs=>?_))
 refine .o (.alloc hs Tryz.zeroValue267 rfl fun b5 w hs=>?_)
 refine .o (.alloc hs Tryz.zeroValue268 rfl fun b6 w hs=>?_)
 refine .nil (.cut (fun fs w=>∃bc bb,lF fs ⟨70,[],[(1,.func (.func gf) #[] cap.toArray),(0,I N),(4,Pt b4),(5,Pt b5),(6,Pt b6)]⟩∧St H w (.blk b4 [.slice (some ⟨bc,0,none⟩) (N+1) (N+1)]:: .blk b5 [.slice (some ⟨bb,0,none⟩) (N+1) (N+1)]:: .blk b6 [.pointer none]:: .blk bc (Is (List.replicate (N+1) 0)):: .blk bb (jZ (AK (N+1) 0))::σ)) ?_ ?_)
 ·refine .draw mix rfl hs fun w hs=>?_
  refine .zw 0 rfl zm ?_;refine .z 1 rfl cu ?_;refine .z 3 rfl zm ?_;refine .z 4 rfl cu ?_
  refine .e2 (i:=2) (j:=5) aH rfl rfl rfl rfl .none .none hs ?_ ?_
  ·refine .wT (N+1) hs rfl rfl af gV rfl ai cq ak ?_;intro b11 w hs
   refine .go (.e2 (i:=5) (j:=6) aH rfl rfl rfl rfl .none .none hs ?_ ?_)
   ·refine .Fk (N+1) hs rfl rfl aE Ba rfl aM eC ak ?_;intro b14 w hs
    refine .go (.E 6 hs ?_)
    refine .store hs rfl rfl aB ?_;intro w hs
    refine .go (.E 7 hs ?_)
    refine .store hs rfl rfl w7 ?_;intro w hs
    refine .go (.D hs ?_)
    exact nT ⟨b11,b14,a6,hs.sb⟩
   ·refine .store hs rfl rfl aB ?_;intro w hs
    refine .go (.E 5 hs ?_)
    refine .Fk (N+1) hs rfl rfl aE Ba rfl aM eC ak ?_;intro b14 w hs
    refine .go (.E 7 hs ?_)
    refine .store hs rfl rfl w7 ?_;intro w hs
    refine .go (.D hs ?_)
    exact nT ⟨b11,b14,a6,hs.sb⟩
  ·refine .Fk (N+1) hs rfl rfl aE Ba rfl aM eC ak ?_;intro b14 w hs
   refine .go (.E 2 hs ?_)
   refine .wT (N+1) hs rfl rfl af gV rfl ai cq ak ?_;intro b11 w hs
   refine .go (.E 6 hs ?_)
   refine .store hs rfl rfl aB ?_;intro w hs
   refine .go (.E 7 hs ?_)
   refine .store hs rfl rfl w7 ?_;intro w hs
   refine .go (.D hs ?_)
   exact nT ⟨b11,b14,a6,hs.sb⟩
 ·rintro s w ⟨bc,bb,hfs,hs⟩
  refine WE.sub ?_ hfs
  refine .seq (.aj (.y hs (zld fU) (.z (da aE) (.zn zm (.for (N:=N+1) (J:=fun k fr w=>fr=[(1,.func (.func gf) #[] cap.toArray),(0,I N),(4,Pt b4),(5,Pt b5),(6,Pt b6)]∧St H w (.blk b4 [.slice (some ⟨bc,0,none⟩) (N+1) (N+1)]:: .blk b5 [.slice (some ⟨bb,0,none⟩) (N+1) (N+1)]:: .blk b6 [.pointer none]:: .blk bc (Is (List.replicate (N+1) 0)):: .blk bb (jZ (AK (N+1) k))::σ)) ak ?_ ?_ ?_)))))
  ·exact .mk ⟨rfl,hs⟩
  ·rintro k fr w hk ⟨rfl,hs⟩
   have hkl:k<(AK (N+1) k).length:=by rw [AJ ak];exact hk
   refine .block (.aj (.z zm (.zn zg (.region (.y hs (zld fU) (.z zm ?_))))))
   first|(refine .ixw hs aE aM ?_;intro b22 o22 hc22)|refine .z (mw aE aM) ?_
   refine .z (zfa ed) (.o (.store hs rfl rfl ai ?_ dz (BQ hkl ak) ((Ab hkl _).trans (congrArg jZ (Fi hk)))));intro w hs
   refine .nil (nB (nT ?_))
   exact .mk ⟨rfl,hs⟩
  ·rintro fr w ⟨rfl,hs⟩
   refine nT (.seq (.aj (.z zm (.z cu (.zn zm (.forD (N:=N+2) (J:=fun r ds fr w=>fr=[(1,.func (.func gf) #[] cap.toArray),(0,I N),(4,Pt b4),(5,Pt b5),(6,Pt b6)]∧∃Ds H1 s vo,ds=marks Ds∧HLe H H1∧wJ (N+1) ar r 0 none s∧(r=0∨∃x,OvR H1 vo (some x)∧wJ (N+1) ar (r - 1) ar.length (some x) s)∧St H1 w (.blk b4 [.slice (some ⟨bc,0,none⟩) (N+1) (N+1)]:: .blk b5 [.slice (some ⟨bb,0,none⟩) (N+1) (N+1)]:: .blk b6 [vo]:: .blk bc (Is s.cost):: .blk bb (jZ s.by_)::(mes Ds++σ))) ak ?_ ?_ ?_))))))
   ·exact .mk (ds:=[]) ⟨rfl,[],H,⟨List.replicate (N+1) 0,List.replicate (N+1) ⟨0,0,0,-1⟩⟩,_,rfl,HLe.refl _,wJ.init ak,.inl rfl,by rw [Du] at hs;exact hs⟩
   ·rintro r ds fr w hr ⟨rfl,Ds,H1,s,vo,rfl,hle1,hN0,-,hs⟩
    refine .block (.aj (.o (.store hs rfl rfl Tryz.sizeOf268 fun w hs=>?_)))
    refine .nil (.seq (.aj (.zn zm (.block ?_))))
    refine .rangeFunc (gf:=gf) (cap:=cap) (xs:=ar.map fun x=>[.agg x.v.toArray]) (σb:=[.blk b4 [.slice (some ⟨bc,0,none⟩) (N+1) (N+1)],.blk b5 [.slice (some ⟨bb,0,none⟩) (N+1) (N+1)],.blk b6 [.pointer none],.blk bc (Is s.cost),.blk bb (jZ s.by_)]) (σf:=mes Ds++σ) hs trivial rfl (hit.mono hle1) hc bT rfl
     (I:=fun k H' σb=>∃s ov vo,σb=[.blk b4 [.slice (some ⟨bc,0,none⟩) (N+1) (N+1)],.blk b5 [.slice (some ⟨bb,0,none⟩) (N+1) (N+1)],.blk b6 [vo],.blk bc (Is s.cost),.blk bb (jZ s.by_)]∧OvR H' vo ov∧wJ (N+1) ar r k ov s) (Ix:=fun _ _ _=>False) (by rintro k _ _ σ g1 ⟨s,ov,vo,g2,g3,g4⟩;exact ⟨s,ov,vo,g2,g3.mono g1,g4⟩) (fun _ _ _ _ _ h=>h)
     ⟨s,none,_,rfl,rfl,hN0⟩ ?_ ?_ (fun D c H' σb w _ h _=>h.elim)
    ·rintro l k hk H2 σb2 σf2 w hle2 ⟨s,ov,vo,rfl,hov,hN⟩ hs ⟨rr,hrr⟩
     obtain ⟨x,hx⟩:=nth (l:=ar) (by simpa using hk)
     obtain ⟨c1,c2,c3,c4,c5,c6⟩:=hok.2 x (List.mem_of_getElem? hx)
     have hxk:(ar.map fun x=>[Value.agg x.v.toArray])[k]=[.agg x.v.toArray]:=by rw [List.getElem_map];rw [List.getElem?_eq_some_iff] at hx;obtain ⟨h1,h2⟩:=hx;rw [h2]
     rw [hxk]
     have hkl:k<ar.length:=by simpa using hk
     have hal:=hok.1
     have hlc:=hN.lc
     have hlb:=hN.lb
     have lo1:=hN.lo x.f c1
     have hi1:=hN.hi x.f c1
     refine .region (.o (.alloc hs eC rfl fun b8 w hs=>?_))
     refine .o (.aU (vs:=x.v) hs rfl rfl aM fun w hs=>?_)
     refine .nil (nT (⟨H2,[.blk b8 x.v,.blk b4 [.slice (some ⟨bc,0,none⟩) (N+1) (N+1)],.blk b5 [.slice (some ⟨bb,0,none⟩) (N+1) (N+1)],.blk b6 [vo],.blk bc (Is s.cost),.blk bb (jZ s.by_)],HLe.refl _,hs,?_⟩));rintro w σf2 - hs
     refine .block (.seq (.draw mix rfl hs fun w hs=>?_))
     refine .y 0 rfl hs an ?_;refine .z 1 rfl (zfa dy) ?_;refine .y 2 rfl hs ae ?_
     first|(refine .ixv 3 rfl hs af ai ?_;intro b34 o34 hc34)|refine .z 3 rfl (zix af ai) ?_
     refine .y 4 rfl hs ae ?_;refine .z 5 rfl (zfa fO) ?_;refine .y 6 rfl hs ae ?_;refine .z 7 rfl cu ?_;refine .y 8 rfl hs an ?_;refine .z 9 rfl (zfa dG) ?_;refine .y 10 rfl hs ae ?_
     first|(refine .ixv 11 rfl hs af ai ?_;intro b42 o42 hc42)|refine .z 11 rfl (zix af ai) ?_
     refine .y 12 rfl hs ae ?_;refine .z 13 rfl fV ?_;refine .D hs ?_
     refine (.bn rfl (fun hc44=>?_) (fun hc44=>?_))
     ·refine .seq (.draw mix rfl hs fun w hs=>?_)
      refine .y 0 rfl hs an ?_;refine .z 1 rfl (zfa dG) ?_;refine .y 2 rfl hs ae ?_;refine .y 3 rfl hs fU ?_;refine .z 4 rfl (zfa dG) ?_;refine .y 5 rfl hs ae ?_;refine .y 6 rfl hs an ?_;refine .z 7 rfl (zfa dy) ?_;refine .y 8 rfl hs ae ?_
      first|(refine .ixv 9 rfl hs af ai ?_;intro b54 o54 hc54)|refine .z 9 rfl (zix af ai) ?_
      refine .y 10 rfl hs ae ?_;refine .z 11 rfl (zfa fO) ?_;refine .y 12 rfl hs ae ?_;refine .z 13 rfl cu ?_
      refine .Ci (i:=14) (vs:=x.v) hs rfl aH .none rfl iJ aM ?_
      first|(refine .ixv 15 rfl hs af ai ?_;intro b60 o60 hc60)|refine .z 15 rfl (zix af ai) ?_
      refine .E 16 hs ?_
      refine .store hs rfl rfl ai ?_;intro w hs
      refine .go ?_
      first|(refine .ixw 17 rfl hs aE aM ?_;intro b61 o61 hc61)|refine .z 17 rfl (mw aE aM) ?_
      refine .E 18 hs ?_
      refine .aU (vs:=x.v) hs rfl rfl aM ?_;intro w hs
      refine .go (.D hs (.region (.o (.store hs rfl rfl Tryz.sizeOf268 fun w hs=>?_))))
      refine .nil (nB ?_)
      obtain ⟨H3,g1,g2,hs⟩:=hs.cQ .here
      exact ⟨H3,_,g1,hs,s.rlx x,some x,_,rfl,⟨b8,rfl,g2⟩,hN.zq hok hx hc44⟩
     ·refine .skip (nB ?_)
      exact ⟨H2,_,HLe.refl _,hs.tail,s,ov,vo,rfl,hov,hN.skip hok hx (by unfold BS.can;omega)⟩
    ·rintro D H2 σb2 w hle2 ⟨s,ov,vo,rfl,hov,hN⟩ hs
     obtain ⟨a',rfl,ha'⟩:=hov.ptr
     replace hs:St H2 w (.blk b4 [.slice (some ⟨bc,0,none⟩) (N+1) (N+1)]:: .blk b5 [.slice (some ⟨bb,0,none⟩) (N+1) (N+1)]:: .blk b6 [.pointer a']:: .blk bc (Is s.cost):: .blk bb (jZ s.by_)::(mes (D::Ds)++σ)):=St.deep (σ1:=[_,_,_,_,_]) hs
     have hN:wJ (N+1) ar r ar.length ov s:=by simpa using hN
     refine nB (nT (.aj (.y hs (zld Tryz.isAgg268) (.q hs (Dh rfl rfl Tryz.runUnderlying268) (.nil (.cond rfl (fun hc63=>?_) (fun hc63=>?_)))))))
     ·refine .seq (.draw mix rfl hs fun w hs=>?_)
      refine .y 0 rfl hs an ?_;refine .y 1 rfl hs fU ?_
      refine .E 2 hs ?_
      refine .store hs rfl rfl aB ?_;intro w hs
      refine .go (.E 3 hs ?_)
      refine .store hs rfl rfl w7 ?_;intro w hs
      refine .go (.E 4 hs ?_)
      refine .store hs rfl rfl Tryz.sizeOf268 ?_;intro w hs
      refine .go (.D hs (.ret (rB (rT (rB (rT (?_)))))))
      obtain ⟨rfl,rfl⟩:=OvR.no ha' hc63
      refine Fin.jt (D::Ds) [_,_,_,_,_] hs fun w hs=>⟨_,results3 Tryz.results225 (B9 hs rfl an) (B9 hs rfl fU) (B9 hs rfl Tryz.isAgg268),H2,bc,bb,s,none,_,hle1.trans hle2,rfl,hov,⟨r,hN,fun h=>(h rfl).elim⟩,hs.sb⟩
     ·refine .skip (nB (nT ?_))
      obtain ⟨x,rfl⟩:=OvR.yes ha' hc63
      exact .mk (ds:=marks (D::Ds)) ⟨rfl,D::Ds,H2,s,_,rfl,hle1.trans hle2,hN.next hok,.inr ⟨x,hov,hN⟩,hs⟩
   ·rintro ds fr w ⟨rfl,Ds,H1,s,vo,rfl,hle1,hN0,hor,hs⟩
    obtain ⟨x,hov,hN⟩:∃x,OvR H1 vo (some x)∧wJ (N+1) ar (N+2 - 1) ar.length (some x) s:=hor.resolve_left ak
    obtain ⟨b3,rfl,hrow⟩:=hov
    refine nT (.seq (.draw mix rfl hs fun w hs=>?_))
    refine .y 0 rfl hs an ?_;refine .y 1 rfl hs fU ?_;refine .y 2 rfl hs Tryz.isAgg268 ?_
    refine .E 3 hs ?_
    refine .store hs rfl rfl aB ?_;intro w hs
    refine .go (.E 4 hs ?_)
    refine .store hs rfl rfl w7 ?_;intro w hs
    refine .go (.E 5 hs ?_)
    refine .store hs rfl rfl Tryz.sizeOf268 ?_;intro w hs
    refine .go (.D hs (.ret (Fin.jt Ds [_,_,_,_,_] hs fun w hs=>⟨_,results3 Tryz.results225 (B9 hs rfl an) (B9 hs rfl fU) (B9 hs rfl Tryz.isAgg268),H1,bc,bb,s,some x,_,hle1,rfl,⟨b3,rfl,hrow⟩,⟨N+1,hN,fun _=>rfl⟩,hs.sb⟩)))
theorem jX{v:Value}{s:dp}(hs:St H w σ)(hok:s.Ok)(hr:RSy H v s):
  Cl Tryz.prog 223 [v] w fun v w'=>∃H1 b,HLe H H1∧v= .bool b∧(b=true↔s.Sound)∧St H1 w' σ:=by
 obtain ⟨u,rfl,hr⟩:=hr
 obtain ⟨N,hN⟩:=Int.eq_ofNat_of_zero_le hok.m0
 have hN1:=hok.m1
 have hn:s.n=N+1:=by simp [dp.n,hN]
 have hoka:=hok.dF
 rw [hn] at hoka
 rw [hN]
 refine Cl.o Tryz.func223 Tryz.ntmps223 ag1 ?_
 refine .aj (.bx hs fun b1 w hs=>?_)
 refine .zn zg (.seq (.draw mix rfl hs fun w hs=>?_))
 refine .zw 0 rfl (zfa cM) ?_;refine .y 1 rfl hs ae ?_;refine .ys 2 rfl hs [_,_] bM aV ?_
 refine .E 3 hs ?_
 refine .call Tryz.call269 rfl (kU (s:=s) hs hok ⟨u,by rw [hN],hr⟩) ?_;rintro _ w ⟨H1,b10,hle1,rfl,hit,hs⟩
 refine .go (.E 4 hs ?_)
 refine .call Tryz.call225 rfl (mq hs ak hoka hit Tryz.call295) ?_;rintro _ w ⟨H2,bc,bb,st,ov,vo,hle2,rfl,hov,hnr,hs⟩
 obtain ⟨a',rfl,ha'⟩:=hov.ptr
 refine .go (.zw 5 rfl zm ?_);refine .z 6 rfl zex ?_;refine .z 7 rfl zex ?_;refine .z 8 rfl zex ?_;refine .z 9 rfl zg ?_;refine .z 10 rfl zg ?_;refine .z 11 rfl zg ?_;refine .D hs ?_
 refine .aj (.z zm (.q hs (Dh rfl rfl Tryz.runUnderlying268) (.zn zg (.ret (Fin.bq Tryz.results223 rfl (⟨H2,_,hle1.trans hle2,rfl,?_,hs.out⟩))))))
 obtain ⟨r,hN2,hr2⟩:=hnr
 cases ov with
 |none=>
  rw [ha']
  exact ⟨fun _=>⟨_,(hN2.sol hoka ak).1⟩,fun _=>rfl⟩
 |some x=>
  rw [ha']
  exact ⟨fun h=>(by cases h),fun h=>(hN2.none hoka ak (by have:=hr2 bT;omega) h).elim⟩
theorem qA{c:Int}(hs:St H w σ)(hc:0≤c∧c<4294967296):Cl Tryz.prog 313 [.int .u64 1,.int .u64 c] w fun v w'=>v= .tuple #[.int .u64 0,.int .u64 c]∧St H w' σ:=by
 refine Cl.o Tryz.func313 Tryz.ntmps313 ag2 ?_
 refine .aj (.z zg (.zn zg (.aj (.z zm ?_))))
 first|refine .q hs (GG rfl rfl ⟨ak,ak⟩) ?_|refine .q hs (Bl rfl rfl) ?_
 refine .zn zg (.aj (.z zm ?_))
 first|refine .q hs (zt rfl rfl ⟨ak,ak⟩) ?_|refine .q hs (AE rfl rfl dL) ?_
 refine .zn zg (.aj (.z zm ?_))
 first|refine .q hs (GG rfl rfl ⟨ak,ak⟩) ?_|refine .q hs (Bl rfl rfl) ?_
 refine .zn zg (.aj (.z zm ?_))
 first|refine .q hs (zt rfl rfl ⟨ak,ak⟩) ?_|refine .q hs (AE rfl rfl dL) ?_
 refine .zn zg (.aj (.z zm (.z zm (.z jN (.zn zg (.aj (.z zm (.z zm (.z jN (.z zm ?_))))))))))
 first|refine .q hs (zt rfl rfl ⟨ak,ak⟩) ?_|refine .q hs (AE rfl rfl dL) ?_
 refine .z cu (.zn zg (.aj (.z zm ?_)))
 first|refine .q hs (GG rfl rfl ⟨ak,ak⟩) ?_|refine .q hs (Bl rfl rfl) ?_
 refine .zn zg (.aj (.z zm ?_))
 first|refine .q hs (zt rfl rfl ⟨ak,ak⟩) ?_|refine .q hs (AE rfl rfl dL) ?_
 refine .zn zg (.aj (.z zm (.z zm (.z zm (.z jN (.z cu (.zn zg (.aj (.z zm (.z zm (.z jN (.z zm (.z cu (.z zm ?_))))))))))))))
 first|refine .q hs (zt rfl rfl ⟨ak,ak⟩) ?_|refine .q hs (AE rfl rfl dL) ?_
 refine .z cu (.zn zg (.aj (.z zm (.z zm (.z jN (.zn zg (.ret (Fin.ij Tryz.results313 rfl rfl ?_))))))))
 exact ⟨bT,hs⟩
theorem sY{c:Int}(hs:St H w σ)(hc:0≤c∧c<4294967296):Cl Tryz.prog 306 [.int .u64 1,.int .u64 c] w fun v w'=>v= .tuple #[.int .u64 0,.int .u64 c]∧St H w' σ:=by
 refine Cl.o Tryz.func306 Tryz.ntmps306 ag2 ?_
 refine .aj (.z zg (.zn zg (.seq (.cF (.skip (nT (.aj (.z zm (.z zm (.o (.call Tryz.call313 rfl (qA hs hc) ?_)))))))))));rintro _ w ⟨rfl,hs⟩
 refine .z zm (.z zex (.z zex (.z zg (.zn zg (.aj (.z zm (.z zm (.z zg (.zn zg (.ret (Fin.ij Tryz.results306 rfl rfl ?_)))))))))))
 exact ⟨rfl,hs⟩
theorem DN{c k:Nat}{z:Int}:let n:=min k (c - k);(List.replicate k z++List.replicate (c - k) 0).take k++List.replicate n z++(List.replicate k z++List.replicate (c - k) 0).drop (k+n)=List.replicate (k+n) z++List.replicate (c - (k+n)) (0:Int):=by
 intro n
 have hn:n≤c - k:=Nat.min_le_right _ _
 have e0:(List.replicate k z).length=k:=by simp
 rw [List.take_left' e0]
 have e1:(List.replicate k z++List.replicate (c - k) 0).drop (k+n)=List.replicate (c - (k+n)) (0:Int):=by
  rw [show k+n=(List.replicate k z).length+n by simp,List.drop_append]
  simp
  omega
 rw [e1,List.replicate_append_replicate]
theorem sH{z:Int}{bx c:Nat}(hs:St H w σ)(hm:Mem σ (.blk bx (Is [z])))(h1:1≤c)(h2:c≤1000000):Cl Tryz.prog 296 [.slice (some ⟨bx,0,none⟩) 1 1,I c] w fun v w'=>∃b,v= .slice (some ⟨b,0,none⟩) c c∧St H w' (.blk b (Is (List.replicate c z))::σ):=by
 refine Cl.o Tryz.func296 Tryz.ntmps296 ag2 ?_
 refine .aj (.zn zg (.seq (.aj (.z zm (.zn fV (.bn rfl (fun hc10=>?_) (fun hc10=>?_)))))))
 ·omega
 ·refine .skip (nT (.aj (.z zm (.z (da af) ?_))))
  first|refine .q hs (yg rfl bF dN ⟨ak,ak⟩) ?_|refine .q hs (yf rfl bF dN ⟨ak,ak⟩) ?_|refine .q hs (zx rfl bF dN) ?_
  refine .z zm ?_
  first|refine .q hs (yg rfl bF dN ⟨ak,ak⟩) ?_|refine .q hs (yf rfl bF dN ⟨ak,ak⟩) ?_|refine .q hs (zx rfl bF dN) ?_
  refine .o (.call Tryz.call306 rfl (sY (c:=c) hs ak) ?_);rintro _ w ⟨rfl,hs⟩
  refine .z zm (.z zex (.z zex (.z zg (.zn zg (.seq (.aj (.z zm (.z k7 (.z zm (.ie (t':=23) rfl (fun hb23=>?_) (fun hb23=>?_)))))))))))
  ·refine .Fs 2 2 false (.zn zpT (.cT ?_))
   first|omega|(simp at hc26;omega)
  ·refine .T (.z zm (.T (.z k7 (.zn zpF (.bn rfl (fun hc26=>?_) (fun hc26=>?_))))))
   ·first|omega|(simp at hc26;omega)
   ·refine .skip (nT (.aj (.z zm ?_)))
    first|refine .q hs (yg rfl dN bF ⟨ak,ak⟩) ?_|refine .q hs (yf rfl dN bF ⟨ak,ak⟩) ?_|refine .q hs (zx rfl dN bF) ?_
    refine .o (.wT c hs rfl rfl af gV rfl ai cq ak fun b30 w hs=>?_)
    refine .zn zg (.aj (.z zm (.z zm (.o (.It (k:=1) (xs:=List.replicate c 0) (zs:=[z]) hs rfl rfl ⟨_,_,rfl⟩ af ai ak rfl (zR (xs:=[z]) (.there hm) rfl rfl) (by simp;omega) ?_)))));intro w hs
    refine .zn zg (.seq (.block ?_))
    refine .loop (fun k:Nat=>⟨48,[],[(8,I k),(7,.slice (some ⟨b30,0,none⟩) c c)]⟩) (fun k w=>(1≤k∧k≤c)∧St H w (.blk b30 (Is (List.replicate k z++List.replicate (c - k) 0))::σ)) (fun k=>c - k) 1 a6 ⟨⟨ak,ak⟩,by
      have e:List.take 0 (List.replicate c (0:Int))++[z]++List.drop (0+1) (List.replicate c 0)=List.replicate 1 z++List.replicate (c - 1) 0:=by simp
      rw [e] at hs;exact hs⟩ ?_
    rintro k w ⟨⟨k1,k2⟩,hs⟩
    refine .seq (.aj (.z zm (.z zm (.z (da af) (.zn fV (.bn rfl (fun hc37=>?_) (fun hc37=>?_)))))))
    ·refine .skip (nT (.block (.draw mix rfl hs fun w hs=>?_)))
     refine .zw 0 rfl zm ?_;refine .z 1 rfl zm ?_;refine .z 2 rfl zm ?_
     refine .zw 3 rfl (zr (k:=k) rfl rfl af ai ak ak) (.zw 4 rfl zm ?_);refine .z 5 rfl zm ?_
     refine .zw 6 rfl (vS (k:=k) rfl rfl af ai ak) (.E 7 hs ?_)
     refine .It (k:=min k (c - k)) (xs:=List.replicate k z++List.replicate (c - k) 0) (zs:=List.replicate (min k (c - k)) z) hs rfl rfl ⟨_,_,rfl⟩ af ai rfl bT (zR (xs:=List.replicate k z++List.replicate (c - k) 0) .here (by rw [List.drop_zero,List.take_append_of_le_length (by simp;omega)];simp) bT) (by simp;omega) ?_;intro w hs
     refine .go (.zw 8 rfl cu ?_);refine .z 9 rfl zg ?_;refine .D hs ?_
     refine nB (nT ?_)
     exact ⟨k+min k (c - k),a6,⟨⟨ak,ak⟩,by
       have e:=DN (z:=z) (c:=c) (k:=k)
       simp only [Nat.mul_one,Nat.zero_add] at hs
       rw [e] at hs;exact hs⟩,ak⟩
    ·refine .exit (xT (xT (xB (nT (.aj (.z zm (.zn zg (.ret (Fin.bq Tryz.results296 rfl ?_)))))))))
     obtain rfl:k=c:=by omega
     exact ⟨b30,rfl,by simpa using hs⟩
theorem sI{v:Value}{xs:List Int}(hs:St H w σ)(hr:RI H v xs)(hx:xs.length≤17592186044416):Cl Tryz.prog 171 [v] w fun u w'=>∃en,(Ij v=true→Ij u=true)∧cN 1 u (Is xs) en∧St H w' (en::σ):=by
 obtain ⟨a,c,rfl⟩:=RI.shape hr
 have hl:=(RI.len hr).2.2
 refine Cl.o Tryz.func171 Tryz.ntmps171 ag1 ?_
 refine .aj (.zn zg (.seq (.aj (.z zm (.q hs (Ib rfl rfl af) (.nil (.cond rfl (fun hc4=>?_) (fun hc4=>?_))))))))
 ·refine .aj (.zn zg (.ret (rT (Fin.bq Tryz.results171 rfl ?_))))
  obtain rfl:a=none:=by simpa using hc4
  obtain rfl:=hr.Jc
  exact ⟨.nul,fun h=>h,.nil 1 none,hs.nul⟩
 ·refine .skip (nT (.aj (.o (.buildSlice (cells:=[]) hs tI rfl rfl fun b5 w hs=>?_))))
  refine .z zm (.o (.Eb (xs:=[]) (ys:=Is xs) hs cV rfl rfl (.full rfl) (.ints hr) (by simp [Value.oneCell']) (fun l h=>by simp at h;omega) ?_));intro v7 en7 w hnn hO hs
  refine .zn zg (.ret (Fin.bq Tryz.results171 rfl ?_))
  exact ⟨en7,fun _=>hnn rfl,hO,hs⟩
theorem nA{v:Value}{xs:List Int}(hs:St H w σ)(hr:RI H v xs)(hx:xs.length≤17592186044416):Cl Tryz.prog 171 [v] w fun v w'=>∃en,cN 1 v (Is xs) en∧St H w' (en::σ):=
 (sI hs hr hx).mono fun _ _ ⟨en,_,h⟩=>⟨en,h⟩
theorem qo{v:Value}{l:List Arc}{en:Ent}(hs:St H w (en::σ))(ho:cN 4 v (jZ l) en)(hl:l.length≤1000000):
  Cl Tryz.prog 297 [v] w fun _ w'=>∃en',cN 4 v (jZ l.reverse) en'∧St H w' (en'::σ):=by
 rcases ho with ⟨a,rfl,h2,rfl⟩|⟨b,len,cap,sp,rfl,rfl,h2,h3,h4⟩
 ·obtain rfl:l=[]:=by
   have:=congrArg List.length h2
   rw [dV] at this
   exact List.length_eq_zero_iff.1 (by simp at this;omega)
  have hs:=hs.tail
  refine Cl.o Tryz.func297 Tryz.ntmps297 ag1 ?_
  refine .aj (.z zm (.z (da aE) (.z fM (.z zg (.zn zg (.block (.loop (fun _:Unit=>⟨28,[],[(2,I 0),(3,I (-1))]⟩) (fun _ w=>St H w σ) (fun _=>0) () a6 hs ?_)))))))
  rintro _ w hs
  refine .seq (.aj (.z zm (.z zm (.zn fV (.bn rfl (fun hc9=>?_) (fun hc9=>?_))))))
  ·omega
  ·refine .exit (xT (xT (xB ?_)))
   exact Fin.zV Tryz.results297 ⟨.nul,.nil 4 a,hs.nul⟩
 obtain rfl:len=l.length:=by rw [dV] at h2;omega
 refine Cl.o Tryz.func297 Tryz.ntmps297 ag1 ?_
 refine .aj (.z zm (.z (da aE) (.z fM (.z zg (.zn zg (.block (.loop (fun p:Nat×List Arc=>⟨28,[],[(2,I p.1),(3,I ((l.length:Int) - 1 - p.1)),(0,.slice (some ⟨b,0,none⟩) l.length cap)]⟩) (fun p w=>(2*p.1≤l.length+1∧tL l p.2 p.1)∧St H w (.blk b (jZ p.2++sp)::σ)) (fun p=>l.length - p.1) (0,l) (.cons rfl (.cP rfl bT (.cons rfl (.nil rfl rfl)))) ⟨⟨bT,.start l⟩,hs⟩ ?_)))))))
 rintro ⟨i,L⟩ w ⟨⟨h5,h6⟩,hs⟩
 dsimp only at h5 h6 hs ⊢
 have hL:=h6.1
 refine .seq (.aj (.z zm (.z zm (.zn fV (.bn rfl (fun hc9=>?_) (fun hc9=>?_))))))
 ·refine .skip (nT (.seq (.block (.draw mix rfl hs fun w hs=>?_))))
  refine .zw 0 rfl zm ?_;refine .z 1 rfl zm ?_;refine .z 2 rfl zm ?_;refine .z 3 rfl zm ?_;refine .z 4 rfl zm ?_;refine .z 5 rfl zm ?_
  refine .zw 6 rfl (xm (k:=l.length - 1 - i) rfl rfl aE aM ak ak) (.Ci (i:=7) (vs:=(ga L (l.length - 1 - i)).v) hs rfl aH .none rfl iJ aM ?_ (hv:=wE ak sp))
  refine .zw 8 rfl zm ?_;refine .z 9 rfl zm ?_
  first|(refine .ixw 10 rfl hs aE aM ?_;intro b24 o24 hc24)|refine .z 10 rfl (mw aE aM) ?_
  refine .Ci (i:=11) (vs:=(ga L i).v) hs rfl aH .none rfl iJ aM ?_ (hv:=wE ak sp)
  first|(refine .ixw 12 rfl hs aE aM ?_;intro b26 o26 hc26)|refine .z 12 rfl (mw aE aM) ?_
  refine .E 13 hs ?_
  refine .aU (vs:=(ga L (l.length - 1 - i)).v) hs rfl rfl aM ?_ dz (wu ak sp) (tA ak _ sp);intro w hs
  refine .go (.zw 14 rfl (xm (k:=l.length - 1 - i) rfl rfl aE aM ak ak) (.E 15 hs ?_))
  refine .aU (vs:=(ga L i).v) hs rfl rfl aM ?_ dz (wu (by simp;omega) sp) (tA (by simp;omega) _ sp);intro w hs
  refine .go (.D hs (nB (nT (.region (.z zm (.z cu (.z zm (.z fM (.z zg (.zn zg (nT ?_)))))))))))
  exact ⟨(i+1,_),.cons rfl (.cP rfl (by push_cast;omega) (.cons rfl (.nil rfl rfl))),⟨⟨by dsimp only;omega,h6.step ak⟩,hs⟩,by dsimp only;omega⟩
 ·refine .exit (xT (xT (xB ?_)))
  rw [h6.done ak] at hs
  exact Fin.zV Tryz.results297 ⟨_,.inr ⟨b,l.length,cap,sp,rfl,rfl,by rw [dV];simp,by rw [←h3];simp [dV],h4⟩,hs⟩
theorem oh{H:bV}{b1 bf bt bl cl:Nat}{s:dp}{ts lf:List Int}{vl:Value}{sp:List Value}(hok:s.Ok)(hb:Row H b1 [Pt bf])(hF:w6 H bf s ts lf vl bt bl cl sp)(hlt:ts.length=s.cO.length):
  ItA Tryz.prog 274 [Pt b1] H (eR s.dF ts):=by
 intro l II Ix hmI hmX hy H0 σb0 σf w hle hI0 hs
 have hb0:cellAt H0 b1 0=some (Pt bf):=(hb.mono hle).at 0
 have hF0:=hF.mono hle
 have hsys:=hF0.f.cells 0 [I s.many,vl]
 have hlen:s.dF.length=ts.length:=by simp [dp.dF,fG,hlt]
 refine Cl.o Tryz.func274 Tryz.ntmps274 ag2 ?_
 refine .aj (.bx hs fun b2 w hs=>?_)
 refine .nil (.aj (.y hs (zld sz) (.z znc (.z (zfa gQ) (.q hs (bQ (vs:=[I s.many,vl]) rfl bM aV hsys) (.o (.call Tryz.call269 rfl (kU (s:=s) hs hok ⟨vl,rfl,hF0.l⟩) ?_)))))));rintro _ w ⟨H1,b8,hle1,rfl,hit,hs⟩
 refine .nil (.block ?_)
 refine .rangeFunc (gf:=295) (cap:=[Pt b8]) (xs:=s.dF.map fun x:Arc=>[Value.agg x.v.toArray]) (σb:= .blk b2 [.func (.yield l) #[] #[]]::σb0) (σf:=σf) hs trivial rfl hit Tryz.call295 bT rfl
  (I:=fun k H' σb=>∃σo,σb= .blk b2 [.func (.yield l) #[] #[]]::σo∧HLe H0 H'∧II (Bn s.dF ts k) H' σo)
  (Ix:=fun c H' σb=>c= .ret∧∃σo,σb= .blk b2 [.func (.yield l) #[] #[]]::σo∧HLe H0 H'∧Ix H' σo)
  (fun k _ _ σ g1 ⟨σo,g2,g3,g4⟩=>⟨σo,g2,g3.trans g1,hmI _ _ _ _ g1 g4⟩) (fun c _ _ σ g1 ⟨g0,σo,g2,g3,g4⟩=>⟨g0,σo,g2,g3.trans g1,hmX _ _ _ g1 g4⟩)
  ⟨σb0,rfl,hle1,by rw [Dl];exact hmI _ _ _ _ hle1 hI0⟩ ?_ ?_ ?_
 ·rintro l2 k hk H2 σb2 σf2 w hle2 ⟨σo,rfl,hle0,hIk⟩ hs ⟨rr,hrr⟩
  obtain ⟨x,hx⟩:=nth (l:=s.dF) (by simpa using hk)
  obtain ⟨c1,c2,c3,c4,c5,c6⟩:=hok.dF.2 x (List.mem_of_getElem? hx)
  have hxk:(s.dF.map fun x=>[Value.agg x.v.toArray])[k]=[.agg x.v.toArray]:=by rw [List.getElem_map];rw [List.getElem?_eq_some_iff] at hx;obtain ⟨h1,h2⟩:=hx;rw [h2]
  rw [hxk]
  have hkt:k<ts.length:=by rw [←hlen];simpa using hk
  have hxl:x.l=(k:Int):=sf hx
  obtain ⟨r1,r2,r3⟩:=C5 (ts:=ts) hx hkt
  refine .region (.o (.alloc hs eC rfl fun b3 w hs=>?_))
  refine .o (.aU (vs:=x.v) hs rfl rfl aM fun w hs=>?_)
  refine .nil (nT (⟨H2,.blk b3 x.v:: .blk b2 [.func (.yield l) #[] #[]]::σo,HLe.refl _,hs,?_⟩));rintro w σf2 - hs
  refine .block (.seq (.aj (.y hs (zld Tryz.isAgg307) (.q hs (kO (vs:=x.v) rfl iJ aM) ?_))))
  have hyd:=hy (Bn s.dF ts k) (by simpa using (List.getElem?_eq_some_iff.1 r1).1) H2 σo (.blk b3 x.v:: .blk b2 [.func (.yield l) #[] #[]]::σf2) w (hle.trans hle0) hIk (St.deep (σ1:=σo) (St.deep (σ1:= .blk b3 x.v::σo) (hs.perm (.swap _ _ _))))
  rw [Dw r1] at hyd
  refine .o (.yield (vs:=[.agg x.v.toArray]) rfl rfl hyd ?_);rintro v12 w ⟨H3,σ3,hle3,hs,g3⟩
  obtain ⟨bb,rfl,gT,gF⟩:=ot g3
  replace hs:St H3 w (.blk b3 x.v:: .blk b2 [.func (.yield l) #[] #[]]::(σ3++σf2)):=(St.shallow (σ1:= .blk b3 x.v::σ3) (St.shallow (σ1:=σ3) hs)).perm (.swap _ _ _)
  refine .zn fI (.cond rfl (fun hc13=>?_) (fun hc13=>?_))
  ·refine .ret (rT (rB (?_)))
   exact ⟨H3,.blk b2 [.func (.yield l) #[] #[]]::σ3,hle3,hs.tail,rfl,σ3,rfl,hle0.trans hle3,gF (by simpa using hc13)⟩
  ·refine .skip (nT (.seq (.draw mix rfl hs fun w hs=>?_)))
   have hb3:cellAt H3 b1 0=some (Pt bf):=cellAt.mono hb0 (hle0.trans hle3)
   have hf3:cellAt H3 bf 2=some (.slice (some ⟨bt,0,none⟩) ts.length ts.length):=((hF0.mono (hle0.trans hle3)).f).at 2
   have ht3:cellAt H3 bt k=some (I (gi ts k)):=((hF0.mono (hle0.trans hle3)).t).at k (jx hkt)
   have hI3:=gT (by simpa using hc13)
   refine .r (i:=0) hs rfl aH .none (aP rfl sz hb3) ?_
   refine .zw 1 rfl znc ?_;refine .z 2 rfl (zfa iU) ?_;refine .y 3 rfl hs an ?_;refine .z 4 rfl (zfa ed) ?_;refine .y 5 rfl hs ae ?_
   refine .zw 6 rfl (iI (k:=k) rfl rfl af ai hxl hkt) (.r (i:=7) hs rfl aH .none (aP rfl ae ht3) ?_)
   refine .zw 8 rfl k7 ?_;refine .z 9 rfl zm ?_
   refine .ie (t':=23) rfl (fun hb23=>?_) (fun hb23=>?_)
   ·refine .zv 10 rfl hs (od Tryz.isAgg307) (.zw 11 rfl (zfa dG) ?_);refine .y 12 rfl hs ae ?_;refine .z 13 rfl (zfa dy) ?_;refine .y 14 rfl hs ae ?_;refine .z 15 rfl (zfa fO) ?_;refine .y 16 rfl hs ae ?_;refine .z 17 rfl Ev ?_;refine .z 18 rfl (zfa ed) ?_;refine .y 19 rfl hs ae ?_;refine .z 20 rfl (zbd [_,_,_,_] qf) ?_
    refine .E 21 hs ?_
    obtain ⟨r4,r5⟩:=r2 hb23
    have hyd:=hy (Bn s.dF ts k+1) (by simpa using (List.getElem?_eq_some_iff.1 r4).1) H3 σ3 (.blk b3 x.v:: .blk b2 [.func (.yield l) #[] #[]]::σf2) w (hle.trans (hle0.trans hle3)) hI3 (St.deep (σ1:=σ3) (St.deep (σ1:= .blk b3 x.v::σ3) (hs.perm (.swap _ _ _))))
    rw [Dw r4] at hyd
    refine .yield (vs:=[.agg x.back.v.toArray]) rfl rfl hyd ?_;rintro v35 w ⟨H4,σ4,hle4,hs,g4⟩
    obtain ⟨bb4,rfl,gT4,gF4⟩:=ot g4
    replace hs:St H4 w (.blk b3 x.v:: .blk b2 [.func (.yield l) #[] #[]]::(σ4++σf2)):=(St.shallow (σ1:= .blk b3 x.v::σ4) (St.shallow (σ1:=σ4) hs)).perm (.swap _ _ _)
    refine .go (.zw 22 rfl fI ?_);refine .z 23 rfl zpT ?_;refine .D hs ?_
    refine (.cond rfl (fun hc37=>?_) (fun hc37=>?_))
    ·refine .ret (rB (?_))
     exact ⟨H4,.blk b2 [.func (.yield l) #[] #[]]::σ4,hle3.trans hle4,hs.tail,rfl,σ4,rfl,hle0.trans (hle3.trans hle4),gF4 (by simpa using hc37)⟩
    ·refine .skip (nB ?_)
     exact ⟨H4,.blk b2 [.func (.yield l) #[] #[]]::σ4,hle3.trans hle4,hs.tail,σ4,rfl,hle0.trans (hle3.trans hle4),by rw [r5];exact gT4 (by simpa using hc37)⟩
   ·refine .F 10 rfl ?_
    refine .F 11 rfl (.F 12 rfl (.F 13 rfl (.F 14 rfl (.F 15 rfl (.F 16 rfl (.F 17 rfl (.F 18 rfl (.F 19 rfl (.F 20 rfl (.F 21 rfl (.F 22 rfl (.zw 23 rfl zpF ?_))))))))))));refine .D hs ?_
    refine (.cF (.skip (nB ?_)))
    exact ⟨H3,.blk b2 [.func (.yield l) #[] #[]]::σ3,hle3,hs.tail,σ3,rfl,hle0.trans hle3,by rw [r3 hb23];exact hI3⟩
 ·rintro D H2 σb2 w hle2 ⟨σo,rfl,hle0,hIk⟩ hs
  refine nB ?_
  exact Fin.IQ [D] [] hs.Bf fun w hs=>⟨_,results0 Tryz.results274,H2,σo,hle0,hs,.inl (by simpa [E6 hlen] using hIk)⟩
 ·rintro D c H2 σb2 w hle2 ⟨rfl,σo,rfl,hle0,hx⟩ hs
  exact .ret (rB (Fin.jt [D] [] hs.Bf fun w hs=>⟨_,results0 Tryz.results274,H2,σo,hle0,hs,.inr hx⟩))
theorem pS{bf bt bl cl:Nat}{s:dp}{ts lf:List Int}{vl:Value}{sp:List Value}(hs:St H w σ)(hok:s.Ok)(hF:w6 H bf s ts lf vl bt bl cl sp)(hlt:ts.length=s.cO.length):
  Cl Tryz.prog 226 [Pt bf] w fun v w'=>∃H1 b,HLe H H1∧v= .func (.func 274) #[] #[Pt b]∧ItA Tryz.prog 274 [Pt b] H1 (eR s.dF ts)∧St H1 w' σ:=by
 refine Cl.o Tryz.func226 Tryz.ntmps226 ag1 ?_
 refine .aj (.bx hs fun b1 w hs=>?_)
 refine .zn zg (.aj (.q hs (dD (f:=[]) (c:=[_]) rfl rfl) (.zn zg (.ret (Fin.bq Tryz.results226 rfl ?_)))))
 obtain ⟨H1,g1,g2,hs⟩:=hs.cQ .here
 exact ⟨H1,b1,g1,rfl,oh hok g2 (hF.mono g1) hlt,hs⟩
theorem qI{bf bt bl cl to:Nat}{s:dp}{ts lf:List Int}{vl:Value}{sp:List Value}(hs:St H w σ)(hok:s.Ok)(hF:w6 H bf s ts lf vl bt bl cl sp)(hlt:ts.length=s.cO.length)(hll:lf.length=s.n)
  (hD:∃p,jb (eR s.dF ts) p) (hto:to<s.n) (hpos:0<gi lf to):
  Cl Tryz.prog 272 [Pt bf,I to] w fun v w'=>∃H1 p en,HLe H H1∧cN 4 v (jZ p) en∧St H1 w' (en::σ)∧Ji s.n s.dF ts lf p to:=by
 obtain ⟨N,hN⟩:=Int.eq_ofNat_of_zero_le hok.m0
 have hN1:=hok.m1
 have hn:s.n=N+1:=by simp [dp.n,hN]
 have hoka:=hok.dF
 have hlen:s.dF.length=ts.length:=by simp [dp.dF,fG,hlt]
 rw [hn] at hoka hll hto ⊢
 obtain ⟨D,hg⟩:=Bh ak ak hoka hlen hD
 have hf0:cellAt H bf 0=some (I (N:Int)):=by have:=hF.f.at 0 (v:=I s.many);rwa [hN] at this
 have hf3:cellAt H bf 3=some (.slice (some ⟨bl,0,none⟩) lf.length cl):=hF.f.at 3
 refine Cl.o Tryz.func272 Tryz.ntmps272 ag2 ?_
 refine .aj (.bx hs fun b2 w hs=>?_)
 refine .zn zg (.aj (.o (.buildSlice (cells:=[_]) hs dc rfl rfl fun b13 w hs=>?_)))
 refine .y hs (zld sz) (.z znc (.z (zfa gQ) (.z (zfa cM) (.y hs (zld ae) (.z cu (.o (.call Tryz.call296 rfl (sH (z:=far) (c:=N+1) hs .here ak ak) ?_)))))));rintro _ w ⟨bc,rfl,hs⟩
 refine .o (.alloc hs ep rfl fun b5 w hs=>?_)
 refine .o (.store hs rfl rfl aB fun w hs=>?_)
 refine .nil (.aj (.y hs (zld sz) (.z znc (.z (zfa gQ) (.z (zfa cM) (.y hs (zld ae) (.z cu (.o (.Fk (N+1) hs rfl rfl aE Ba rfl aM eC ak fun b27 w hs=>?_)))))))))
 refine .o (.alloc hs Tryz.zeroValue267 rfl fun b6 w hs=>?_)
 refine .o (.store hs rfl rfl w7 fun w hs=>?_)
 refine .nil (.seq (.aj (.y hs (zld sz) (.z znc (.z (zfa ee) (.y hs (zld an) (.z (da af) (.zn zm (.for (N:=lf.length) (J:=fun k fr w=>fr=[(31,.slice (some ⟨bl,0,none⟩) lf.length cl),(5,Pt b5),(6,Pt b6),(2,Pt b2),(1,I to)]∧∃st,wA (N+1) lf k st∧St H w (.blk b6 [.slice (some ⟨b27,0,none⟩) (N+1) (N+1)]:: .blk b27 (jZ st.by_):: .blk b5 [.slice (some ⟨bc,0,none⟩) (N+1) (N+1)]:: .blk bc (Is st.cost):: .blk b2 [Pt bf]::σ)) ak ?_ ?_ ?_)))))))))
 ·exact .mk ⟨rfl,_,.start _ _,hs.sb⟩
 ·rintro k fr w hk ⟨rfl,st,hI,hs⟩
  have hck:cellAt H bl k=some (I (gi lf k)):=hF.d.at k (Ei (bJ hk) sp)
  have hlc:=hI.lc
  have hlb:=hI.lb
  have hkb:k<st.by_.length:=by omega
  refine .block (.aj (.z zm ?_))
  first|(refine .ixv hs af ai ?_;intro b36 o36 hc36)|refine .z (zix af ai) ?_
  refine .q hs (aP rfl ae hck) (.z zg (.zn zg (.aj (.z zm (.zn fV (.bn rfl (fun hc39=>?_) (fun hc39=>?_)))))))
  ·refine .aj (.y hs (zld an) (.z zm ?_))
   first|(refine .ixv hs af ai ?_;intro b42 o42 hc42)|refine .z (zix af ai) ?_
   refine .o (.store hs rfl rfl ai fun w hs=>?_)
   refine .nil (.region (.y hs (zld fU) (.z zm ?_)))
   first|(refine .ixw hs aE aM ?_;intro b45 o45 hc45)|refine .z (mw aE aM) ?_
   refine .z (zfa ed) (.o (.store hs rfl rfl ai ?_ dz (BQ hkb ak) (Ab hkb _)));intro w hs
   refine .nil (nB (nT ?_))
   exact .mk ⟨rfl,_,hI.take ak hc39,hs⟩
  ·refine .skip (nB (nT ?_))
   exact .mk ⟨rfl,_,hI.skip hc39,hs⟩
 ·rintro fr w ⟨rfl,st0,hI0,hs⟩
  rw [hll] at hI0
  have hW0:=hI0.inv hg
  refine nT (.seq (.aj (.o (.alloc hs Tryz.zeroValue4 rfl fun b9 w hs=>?_))))
  refine .o (.store hs rfl rfl wH fun w hs=>?_)
  refine .nil (.block ?_)
  refine .loop (fun p:Nat×List Nat×bV×BS×Bool=>⟨141,marks p.2.1,[(9,.pointer (some ⟨p.1,0,none⟩)),(5,Pt b5),(6,Pt b6),(2,Pt b2),(1,I to)]⟩)
   (fun p w=>HLe H p.2.2.1∧(∃j,uW (N+1) (eR s.dF ts) (fun v=>gi lf v<0) D j p.2.2.2.2 p.2.2.2.1∧(p.2.2.2.2=false→j=(eR s.dF ts).length))∧
    St p.2.2.1 w (.blk p.1 [.bool p.2.2.2.2]:: .blk b6 [.slice (some ⟨b27,0,none⟩) (N+1) (N+1)]:: .blk b27 (jZ p.2.2.2.1.by_):: .blk b5 [.slice (some ⟨bc,0,none⟩) (N+1) (N+1)]:: .blk bc (Is p.2.2.2.1.cost):: .blk b2 [Pt bf]::(mes p.2.1++σ)))
   (fun p=>2*WM (N+1) D p.2.2.2.1+(if p.2.2.2.2=true then 1 else 0)) (b9,[],H,st0,true) a6 ⟨HLe.refl _,⟨0,hW0,fun h=>by cases h⟩,hs⟩ ?_
  rintro ⟨b9,Ds,H1,st,ag⟩ w ⟨hle1,⟨j,hW,hj⟩,hs⟩
  dsimp only at hle1 hW hj hs ⊢
  have hlc:=hW.lc
  have hlb:=hW.lb
  refine .seq (.aj (.y hs (zld Tryz.isAgg4) (.nil (.cond rfl (fun hc48=>?_) (fun hc48=>?_)))))
  ·refine .skip (nT (.seq (.block (.aj ?_))))
   subst hc48
   refine .o (.store hs rfl rfl wH fun w hs=>?_)
   refine .nil (.aj (.y hs (zld sz) (.o (.call Tryz.call226 rfl (pS hs hok (hF.mono hle1) hlt) ?_))));rintro _ w ⟨H2,b50,hle2,rfl,hit,hs⟩
   refine .nil (.block ?_)
   refine .rangeFunc (gf:=274) (cap:=[Pt b50]) (xs:=(eR s.dF ts).map fun x:Arc=>[Value.agg x.v.toArray])
    (σb:=[.blk b9 [.bool false],.blk b6 [.slice (some ⟨b27,0,none⟩) (N+1) (N+1)],.blk b27 (jZ st.by_),.blk b5 [.slice (some ⟨bc,0,none⟩) (N+1) (N+1)],.blk bc (Is st.cost),.blk b2 [Pt bf]]) (σf:=mes Ds++σ) hs trivial rfl hit Tryz.call274 bT rfl
    (I:=fun k H' σb=>HLe H2 H'∧∃st' ag,σb=[.blk b9 [.bool ag],.blk b6 [.slice (some ⟨b27,0,none⟩) (N+1) (N+1)],.blk b27 (jZ st'.by_),.blk b5 [.slice (some ⟨bc,0,none⟩) (N+1) (N+1)],.blk bc (Is st'.cost),.blk b2 [Pt bf]]∧
     uW (N+1) (eR s.dF ts) (fun v=>gi lf v<0) D k ag st'∧WM (N+1) D st'≤WM (N+1) D st∧(ag=true→WM (N+1) D st'<WM (N+1) D st)) (Ix:=fun _ _ _=>False)
    (by rintro k _ _ σ g1 ⟨g2,g3⟩;exact ⟨g2.trans g1,g3⟩) (fun _ _ _ _ _ h=>h) ⟨HLe.refl _,st,false,rfl,hW.next,Nat.le_refl _,fun h=>by cases h⟩ ?_ ?_ (fun D c H' σb w _ h _=>h.elim)
   ·rintro l k hk H3 σb3 σf3 w hle3 ⟨hle23,st',ag,rfl,hW',hm1,hm2⟩ hs ⟨rr,hrr⟩
    obtain ⟨x,hx⟩:=nth (l:=eR s.dF ts) (by simpa using hk)
    obtain ⟨c1,c2,c3,c4,c5,c6⟩:=hg.ok x (List.mem_of_getElem? hx)
    rw [Dw hx]
    have hlc':=hW'.lc
    have hlb':=hW'.lb
    have lo1:=hW'.lo x.f c1
    have lo2:=hg.d1 x.f c1
    have hx3:cellAt H3 bl x.t=some (I (gi lf x.t)):=((hF.mono (hle1.trans (hle2.trans hle3))).d).at x.t (Ei (bJ ak) sp)
    have hf33:cellAt H3 bf 3=some (.slice (some ⟨bl,0,none⟩) lf.length cl):=cellAt.mono hf3 (hle1.trans (hle2.trans hle3))
    refine .region (.o (.alloc hs eC rfl fun b10 w hs=>?_))
    refine .o (.aU (vs:=x.v) hs rfl rfl aM fun w hs=>?_)
    refine .nil (nT (⟨H3,[.blk b10 x.v,.blk b9 [.bool ag],.blk b6 [.slice (some ⟨b27,0,none⟩) (N+1) (N+1)],.blk b27 (jZ st'.by_),.blk b5 [.slice (some ⟨bc,0,none⟩) (N+1) (N+1)],.blk bc (Is st'.cost),.blk b2 [Pt bf]],HLe.refl _,hs,?_⟩));rintro w σf4 - hs
    refine .block (.seq (.draw mix rfl hs fun w hs=>?_))
    refine .y 0 rfl hs an ?_;refine .z 1 rfl (zfa dy) ?_;refine .y 2 rfl hs ae ?_
    first|(refine .ixv 3 rfl hs af ai ?_;intro b55 o55 hc55)|refine .z 3 rfl (zix af ai) ?_
    refine .y 4 rfl hs ae ?_;refine .z 5 rfl fV ?_;refine .z 6 rfl zm ?_
    refine .ie (t':=58) rfl (fun hb58=>?_) (fun hb58=>?_)
    ·refine .y 7 rfl hs an ?_;refine .z 8 rfl (zfa dy) ?_;refine .y 9 rfl hs ae ?_
     first|(refine .ixv 10 rfl hs af ai ?_;intro b62 o62 hc62)|refine .z 10 rfl (zix af ai) ?_
     refine .y 11 rfl hs ae ?_;refine .z 12 rfl (zfa fO) ?_;refine .y 13 rfl hs ae ?_;refine .z 14 rfl cu ?_;refine .y 15 rfl hs an ?_;refine .z 16 rfl (zfa dG) ?_;refine .y 17 rfl hs ae ?_
     first|(refine .ixv 18 rfl hs af ai ?_;intro b70 o70 hc70)|refine .z 18 rfl (zix af ai) ?_
     refine .y 19 rfl hs ae ?_;refine .z 20 rfl fV ?_;refine .z 21 rfl zpT ?_;refine .z 22 rfl zm ?_
     refine .ie (t':=74) rfl (fun hb74=>?_) (fun hb74=>?_)
     ·refine .y 23 rfl hs sz ?_;refine .z 24 rfl znc ?_;refine .z 25 rfl (zfa ee) ?_;refine .y 26 rfl hs an ?_;refine .z 27 rfl (zfa dG) ?_;refine .y 28 rfl hs ae ?_
      first|(refine .ixv 29 rfl hs af ai ?_;intro b81 o81 hc81)|refine .z 29 rfl (zix af ai) ?_
      refine .y 30 rfl hs ae ?_;refine .z 31 rfl uF ?_;refine .z 32 rfl zm ?_
      refine .ie (t':=84) rfl (fun hb84=>?_) (fun hb84=>?_)
      ·refine .F 33 rfl (.F 34 rfl (.F 35 rfl (.F 36 rfl (.F 37 rfl (.F 38 rfl (.F 39 rfl (.F 40 rfl (.F 41 rfl (.zw 42 rfl zpT ?_)))))))));refine .z 43 rfl zpT ?_;refine .D hs ?_
       refine (.cT (.draw mix rfl hs fun w hs=>?_))
       refine .y 0 rfl hs an ?_;refine .z 1 rfl (zfa dG) ?_;refine .y 2 rfl hs ae ?_;refine .y 3 rfl hs fU ?_;refine .z 4 rfl (zfa dG) ?_;refine .y 5 rfl hs ae ?_;refine .y 6 rfl hs an ?_;refine .z 7 rfl (zfa dy) ?_;refine .y 8 rfl hs ae ?_
       first|(refine .ixv 9 rfl hs af ai ?_;intro b105 o105 hc105)|refine .z 9 rfl (zix af ai) ?_
       refine .y 10 rfl hs ae ?_;refine .z 11 rfl (zfa fO) ?_;refine .y 12 rfl hs ae ?_;refine .z 13 rfl cu ?_
       refine .Ci (i:=14) (vs:=x.v) hs rfl aH .none rfl iJ aM ?_
       first|(refine .ixv 15 rfl hs af ai ?_;intro b111 o111 hc111)|refine .z 15 rfl (zix af ai) ?_
       refine .E 16 hs ?_
       refine .store hs rfl rfl ai ?_;intro w hs
       refine .go ?_
       first|(refine .ixw 17 rfl hs aE aM ?_;intro b112 o112 hc112)|refine .z 17 rfl (mw aE aM) ?_
       refine .E 18 hs ?_
       refine .aU (vs:=x.v) hs rfl rfl aM ?_;intro w hs
       refine .go (.E 19 hs ?_)
       refine .store hs rfl rfl wH ?_;intro w hs
       refine .go (.D hs (nB ?_))
       have:=hW'.less hg hx hb58 hb74
       exact ⟨H3,_,HLe.refl _,hs.tail,hle23,st'.rlx x,true,rfl,hW'.zq hg hx hb58 hb74,ak,fun _=>by omega⟩
      ·refine .y 33 rfl hs an ?_;refine .z 34 rfl (zfa dy) ?_;refine .y 35 rfl hs ae ?_
       first|(refine .ixv 36 rfl hs af ai ?_;intro b88 o88 hc88)|refine .z 36 rfl (zix af ai) ?_
       refine .y 37 rfl hs ae ?_;refine .z 38 rfl (zfa fO) ?_;refine .y 39 rfl hs ae ?_;refine .z 40 rfl cu ?_;refine .z 41 rfl fV ?_;refine .z 42 rfl zpF ?_;refine .z 43 rfl zpT ?_;refine .D hs ?_
       refine (.bn rfl (fun hc95=>?_) (fun hc95=>?_))
       ·refine .draw mix rfl hs fun w hs=>?_
        refine .y 0 rfl hs an ?_;refine .z 1 rfl (zfa dG) ?_;refine .y 2 rfl hs ae ?_;refine .y 3 rfl hs fU ?_;refine .z 4 rfl (zfa dG) ?_;refine .y 5 rfl hs ae ?_;refine .y 6 rfl hs an ?_;refine .z 7 rfl (zfa dy) ?_;refine .y 8 rfl hs ae ?_
        first|(refine .ixv 9 rfl hs af ai ?_;intro b105 o105 hc105)|refine .z 9 rfl (zix af ai) ?_
        refine .y 10 rfl hs ae ?_;refine .z 11 rfl (zfa fO) ?_;refine .y 12 rfl hs ae ?_;refine .z 13 rfl cu ?_
        refine .Ci (i:=14) (vs:=x.v) hs rfl aH .none rfl iJ aM ?_
        first|(refine .ixv 15 rfl hs af ai ?_;intro b111 o111 hc111)|refine .z 15 rfl (zix af ai) ?_
        refine .E 16 hs ?_
        refine .store hs rfl rfl ai ?_;intro w hs
        refine .go ?_
        first|(refine .ixw 17 rfl hs aE aM ?_;intro b112 o112 hc112)|refine .z 17 rfl (mw aE aM) ?_
        refine .E 18 hs ?_
        refine .aU (vs:=x.v) hs rfl rfl aM ?_;intro w hs
        refine .go (.E 19 hs ?_)
        refine .store hs rfl rfl wH ?_;intro w hs
        refine .go (.D hs (nB ?_))
        have:=hW'.less hg hx hb58 hb74
        exact ⟨H3,_,HLe.refl _,hs.tail,hle23,st'.rlx x,true,rfl,hW'.zq hg hx hb58 hb74,ak,fun _=>by omega⟩
       ·refine .skip (nB ?_)
        have:=hW'.src x.t c2 ak
        omega
     ·refine .F 23 rfl (.F 24 rfl (.F 25 rfl (.F 26 rfl (.F 27 rfl (.F 28 rfl (.F 29 rfl (.F 30 rfl ?_)))))))
      refine .F 31 rfl (.F 32 rfl (.F 33 rfl (.F 34 rfl (.F 35 rfl (.F 36 rfl (.F 37 rfl (.F 38 rfl (.F 39 rfl (.F 40 rfl (.F 41 rfl (.F 42 rfl (.zw 43 rfl zpF ?_))))))))))));refine .D hs ?_
      refine (.cF (.skip (nB ?_)))
      exact ⟨H3,_,HLe.refl _,hs.tail,hle23,st',ag,rfl,hW'.skip hx (fun h=>hb74 h.2),hm1,hm2⟩
    ·refine .F 7 rfl (.F 8 rfl ?_)
     refine .F 9 rfl (.F 10 rfl (.F 11 rfl (.F 12 rfl (.F 13 rfl (.F 14 rfl (.F 15 rfl (.F 16 rfl (.F 17 rfl (.F 18 rfl (.F 19 rfl (.F 20 rfl (.zw 21 rfl zpF ?_))))))))))));refine .z 22 rfl zm ?_
     refine .F 23 rfl (.F 24 rfl (.F 25 rfl (.F 26 rfl (.F 27 rfl (.F 28 rfl (.F 29 rfl (.F 30 rfl ?_)))))))
     refine .F 31 rfl (.F 32 rfl (.F 33 rfl (.F 34 rfl (.F 35 rfl (.F 36 rfl (.F 37 rfl (.F 38 rfl (.F 39 rfl (.F 40 rfl (.F 41 rfl (.F 42 rfl (.zw 43 rfl zpF ?_))))))))))));refine .D hs ?_
     refine (.cF (.skip (nB ?_)))
     exact ⟨H3,_,HLe.refl _,hs.tail,hle23,st',ag,rfl,hW'.skip hx (fun h=>hb58 h.1),hm1,hm2⟩
   ·rintro D3 H3 σb3 w hle3 ⟨hle23,st',ag,rfl,hW',hm1,hm2⟩ hs
    replace hs:St H3 w (.blk b9 [.bool ag]:: .blk b6 [.slice (some ⟨b27,0,none⟩) (N+1) (N+1)]:: .blk b27 (jZ st'.by_):: .blk b5 [.slice (some ⟨bc,0,none⟩) (N+1) (N+1)]:: .blk bc (Is st'.cost):: .blk b2 [Pt bf]::(mes (D3::Ds)++σ)):=St.deep (σ1:=[_,_,_,_,_,_]) hs
    rw [List.length_map] at hW'
    refine nB (nB (nT (.aj (.y hs (zld Tryz.isAgg4) (.nil (.region (.o (.alloc hs Tryz.zeroValue4 rfl fun b9 w hs=>?_))))))))
    refine .o (.store hs rfl rfl wH fun w hs=>?_)
    refine .nil (nT ?_)
    exact ⟨(b9,D3::Ds,H3,st',ag),a6,⟨hle1.trans (hle2.trans hle3),⟨_,hW',fun _=>rfl⟩,hs.sb⟩,by
      dsimp only
      cases ag with
      |false=>simp;omega
      |true=>have:=hm2 rfl;simp;omega⟩
  ·refine .exit (xT (xT (xB (nT (.seq (.aj ?_))))))
   subst hc48
   obtain rfl:=hj rfl
   refine .y hs (zld an) (.z zm ?_)
   first|(refine .ixv hs af ai ?_;intro b116 o116 hc116)|refine .z (zix af ai) ?_
   refine .y hs (zld ae) (.zn fF (.bn rfl (fun hc118=>?_) (fun hc118=>?_)))
   ·refine .aj (.zn zg (.ret (rT ((Fin.jt Ds [_,_,_,_,_,_] hs fun w hs=>⟨_,results1 Tryz.results272 rfl,H1,[],.nul,hle1,.nil 4 none,(hs.sb).nul,hW.none hg hc118⟩)))))
   ·refine .skip (nT (.aj (.zn zg (.seq (.aj (.z zm (.zn zg (.block ?_))))))))
    have hreach:gi st.cost to<far:=by have:=hW.top to hto;have e:far=1152921504606846976:=rfl;omega
    obtain ⟨kk,cc,u,hbk,hroot,hkn,hk0,hcl,hway⟩:=hW.back hg hto hreach hpos
    refine .loop (fun p:Nat×Nat×Value×Ent=>⟨141,marks Ds,[(11,p.2.2.1),(12,I p.2.1),(6,Pt b6)]⟩)
     (fun p w=>p.1≤kk∧(p.2.1<N+1∧gi st.cost p.2.1<far)∧cN 4 p.2.2.1 (jZ (nQ st.by_ to p.1)) p.2.2.2∧(∃d,ic st.by_ to p.1 d p.2.1)∧(∃d,ic st.by_ p.2.1 (kk - p.1) d u)∧
      St H1 w (p.2.2.2:: .blk b9 [.bool false]:: .blk b6 [.slice (some ⟨b27,0,none⟩) (N+1) (N+1)]:: .blk b27 (jZ st.by_):: .blk b5 [.slice (some ⟨bc,0,none⟩) (N+1) (N+1)]:: .blk bc (Is st.cost):: .blk b2 [Pt bf]::(mes Ds++σ)))
     (fun p=>kk - p.1) (0,to,.slice none 0 0,.nul) a6 ⟨Nat.zero_le _,⟨hto,hreach⟩,.nil 4 none,⟨0,.nil⟩,⟨cc,hbk⟩,hs.nul⟩ ?_
    rintro ⟨i,v,v11,en⟩ w ⟨hik,⟨hv1,hv2⟩,hO,⟨d1,hb1⟩,⟨d2,hb2⟩,hs⟩
    dsimp only at hik hv1 hv2 hO hb1 hb2 hs ⊢
    have hvb:v<st.by_.length:=by omega
    refine .seq (.aj (.y hs (zld fU) (.z zm ?_)))
    first|(refine .ixw hs aE aM ?_;intro b122 o122 hc122)|refine .z (mw aE aM) ?_
    refine .z (zfa ed) (.q hs (gY rfl ae (hv:=(sj hvb (j:=3) ak).trans rfl)) (.zn uF (.bn rfl (fun hc125=>?_) (fun hc125=>?_))))
    ·refine .skip (nT (.seq (.block (.region (.z zm (.y hs (zld fU) (.z zm ?_)))))))
     first|(refine .ixw hs aE aM ?_;intro b134 o134 hc134)|refine .z (mw aE aM) ?_
     refine .q hs (kO (vs:=(ga st.by_ v).v) rfl iJ aM (hv:=BW hvb)) (.o (.buildSlice (cells:=(ga st.by_ v).v) hs qK rfl rfl fun b136 w hs=>?_))
     refine .o (.append (ys:=(ga st.by_ v).v) hs lr rfl rfl hO (.own .here rfl rfl) (by simp [Arc.v,Value.oneCell']) (fun l h=>by rw [dV,kn] at h;omega) ?_);intro v137 en137 w hO2 hs
     refine .zn zg (nB (nT (.region (.y hs (zld fU) (.z zm ?_)))))
     first|(refine .ixw hs aE aM ?_;intro b128 o128 hc128)|refine .z (mw aE aM) ?_
     refine .z (zfa dy) (.q hs (gY rfl ae (hv:=(sj hvb (j:=0) ak).trans rfl)) (.zn zg (nT ?_)))
     obtain ⟨g1,g2⟩:=hcl v hv1 hv2 hc125
     obtain ⟨m,hm⟩:∃m,kk - i=m+1:=by
      refine ⟨kk - i - 1,?_⟩
      rcases Nat.lt_or_ge i kk with h|h
      ·omega
      ·obtain e:kk - i=0:=by omega
       rw [e] at hb2
       cases hb2
       omega
     rw [hm] at hb2
     obtain ⟨d3,hb3⟩:∃d,ic st.by_ (ga st.by_ v).f m d u:=by cases hb2 with|cons _ t=>exact ⟨_,t⟩
     rw [←El,←B0 hb1] at hO2
     exact ⟨(i+1,(ga st.by_ v).f,v137,en137),a6,⟨by dsimp only;omega,⟨g1,g2⟩,hO2,⟨_,hb1.trans (.cons hc125 .nil)⟩,⟨d3,by rw [show kk - (i+1)=m by omega];exact hb3⟩,hs.sb⟩,by dsimp only;omega⟩
    ·refine .exit (xT (xT (xB (nT (.aj ?_)))))
     obtain rfl:i=kk:=by
      rcases Nat.lt_or_ge i kk with h|h
      ·obtain ⟨m,hm⟩:∃m,kk - i=m+1:=⟨kk - i - 1,ak⟩
       rw [hm] at hb2
       cases hb2 with
       |cons hl _=>omega
      ·omega
     refine .z zm (.o (.call Tryz.call297 rfl (qo hs hO (by rw [kn];omega)) ?_));rintro v139 w ⟨en',hO',hs⟩
     refine .nil (.aj (.z zm (.zn zg (.ret (Fin.jt Ds [_,_,_,_,_,_,_] hs fun w hs=>⟨_,results1 Tryz.results272 rfl,H1,_,en',hle1,hO',hs.sb,hway _ rfl⟩)))))
theorem BT{s:dp}{x:Arc}(hok:s.Ok)(hx:Ct s.dF x):∃(i:Nat) (l:Lim),s.cO[i]? =some l∧x.l=(i:Int)∧(l.A=(x.f:Int)↔fwd s.dF x)∧i<s.cO.length:=by
 obtain ⟨i,y,h1,h2⟩:=hx
 have hl:=sf h1
 have hlt:i<s.cO.length:=by have:=(List.getElem?_eq_some_iff.1 h1).1;simpa [dp.dF,fG] using this
 obtain ⟨l,hl2⟩:=nth hlt
 have h3:=lE hl2
 have h1':(nL s.cO)[i]? =some y:=h1
 rw [h3] at h1'
 cases h1'
 obtain ⟨a1,a2,_⟩:=hok.arc (List.mem_of_getElem? hl2) i
 refine ⟨i,l,hl2,?_,?_,hlt⟩
 ·rcases h2 with rfl|rfl<;>rfl
 ·have hg:ga s.dF i=l.arc i:=by simp [ga,dp.dF,h3]
  have hxl:x.l.toNat=i:=by rcases h2 with rfl|rfl<;>rfl
  unfold fwd
  rw [hxl,hg,←a1]
  exact ⟨fun e=>by exact_mod_cast e,fun e=>by exact_mod_cast e⟩
theorem kH{bf:Nat}{s:dp}{vl vt vd:Value}{x:Arc}(hs:St H w σ)(hok:s.Ok)(hf:Row H bf [I s.many,vl,vt,vd])(hl:RL H vl s.cO)(hx:Ct s.dF x):
  Cl Tryz.prog 298 [Pt bf,.agg x.v.toArray] w fun v w'=>v= .bool (decide (fwd s.dF x))∧St H w' σ:=by
 obtain ⟨i,l,hl1,hxl,hfw,hil⟩:=BT hok hx
 have hf1:cellAt H bf 1=some vl:=hf.at 1
 refine Cl.o Tryz.func298 Tryz.ntmps298 ag2 ?_
 refine .aj (.bx hs fun b3 w hs=>?_)
 refine .zn zg (.seq (.draw mix rfl hs fun w hs=>?_))
 refine .zw 0 rfl zm ?_;refine .z 1 rfl znc ?_;refine .z 2 rfl (zfa gQ) ?_;refine .z 3 rfl (zfa cA) ?_;refine .y 4 rfl hs dr ?_;refine .z 5 rfl (zfa ed) ?_;refine .y 6 rfl hs ae ?_
 refine .ixX (i:=7) hs rfl aH .none hl rfl rfl aJ bg hl1 hxl ?_;intro b12 o12 hc12
 have hA:cellAt H b12 o12=some (I l.A):=hc12.get 0 rfl
 refine .zw 8 rfl (zfa dA) ?_;refine .y 9 rfl hs ae ?_;refine .z 10 rfl (zfa dy) ?_;refine .y 11 rfl hs ae ?_;refine .z 12 rfl fF ?_;refine .z 13 rfl zg ?_;refine .D hs ?_
 refine .ret (Fin.bq Tryz.results298 rfl ?_)
 exact ⟨by simp only [decide_eq_decide.2 hfw],hs.out⟩
theorem pR{bf bt bl cl u v:Nat}{s:dp}{ts lf:List Int}{wt:Nat→Int}{vl vp:Value}{sp:List Value}{p:List Arc}(hs:St H w (.blk bt (Is ts):: .blk bl (Is lf++sp)::σ))(hok:s.Ok)
  (hf:Row H bf [I s.many,vl,.slice (some ⟨bt,0,none⟩) ts.length ts.length,.slice (some ⟨bl,0,none⟩) lf.length cl]) (hl:RL H vl s.cO) (hp:RS H 4 vp (p.map Arc.v)) (hI:yU s.n s.dF wt ts lf) (hw:He s.dF ts lf s.n p u v) (hpn:p≠[]) (hpl:p.length<s.n):
  Cl Tryz.prog 273 [Pt bf,vp] w fun _ w'=>St H w' (.blk bt (Is (gZ s.dF (tD s.dF ts lf p u v) ts p)):: .blk bl (Is (AN lf (tD s.dF ts lf p u v) u v)++sp)::σ):=by
 have hN1:=hok.m1
 have hn65:s.n≤65:=by simp only [dp.n];have:=hok.m0;omega
 have hnum:BU s.dF:=fun i x hx=>⟨sf hx,(hok.dF.2 x (List.mem_of_getElem? hx)).2.2.2.2.2⟩
 have hlt:=hI.lt
 have hll:=hI.ll
 obtain ⟨m0,m1,m2,m3⟩:=yo hlt.symm hnum hw
 have hsu:=hI.sg u hw.un
 have hsv:=hI.sg v hw.vn
 have hun:u<lf.length:=by rw [hll];exact hw.un
 have hvn:v<lf.length:=by rw [hll];exact hw.vn
 obtain ⟨a,cap,hvp⟩:=hp.shape
 rw [List.length_map] at hvp
 subst hvp
 have hp0:0<p.length:=List.length_pos_iff.2 hpn
 obtain ⟨x0,hx0⟩:=nth hp0
 obtain ⟨x1,hx1⟩:=nth (l:=p) (k:=p.length - 1) ak
 have hh:=hw.ch.head hx0
 have hla:=hw.ch.last hx1
 have hf2:cellAt H bf 2=some (.slice (some ⟨bt,0,none⟩) ts.length ts.length):=hf.at 2
 have hf3:cellAt H bf 3=some (.slice (some ⟨bl,0,none⟩) lf.length cl):=hf.at 3
 have hix:∀x∈p,Ct s.dF x∧x.l.toNat<ts.length∧x.l=(x.l.toNat:Int):=fun x hx=>by
  obtain ⟨g1,g2,_⟩:=nk hlt.symm hnum (hw.mem x hx)
  obtain ⟨i,l,_,g3,_⟩:=BT hok g1
  exact ⟨g1,g2,by rw [g3];simp⟩
 simp only [FF] at hsu hsv
 have huv:v≠u:=fun e=>by have:=hw.lu;have:=hw.lv;rw [e] at*;omega
 have htt:∀i<ts.length,0≤gi ts i∧gi ts i≤3600000000000:=fun i hi=>by
  have h1:=hI.nn i ak
  have h2:=hI.tb i ak
  have h3:0≤rem s.n lf:=dC fun v _=>by omega
  simp only [FF] at h2
  omega
 have hM:tD s.dF ts lf p u v=least s.dF ts (min (-gi lf u) (gi lf v)) p:=rfl
 generalize tD s.dF ts lf p u v=M at*
 have hgv:gi (lf.set u (gi lf u+M)) v=gi lf v:=by rw [iF hun,if_neg huv]
 refine Cl.o Tryz.func273 Tryz.ntmps273 ag2 ?_
 refine .seq (.draw mix rfl hs fun w hs=>?_)
 refine .zw 0 rfl zm (.ixX (i:=1) hs rfl aH .none hp rfl rfl aE aM hx0 rfl ?_);intro b12 o12 hc12
 have h14:cellAt H b12 (o12+0)=some (I u):=by rw [←hh];exact hc12.get 0 rfl
 refine .zw 2 rfl (zfa dy) ?_;refine .y 3 rfl hs ae ?_;refine .z 4 rfl zm ?_;refine .z 5 rfl zm ?_;refine .z 6 rfl (da aE) ?_;refine .z 7 rfl fM ?_
 refine .ixX (i:=8) hs rfl aH .none hp rfl rfl aE aM hx1 ak ?_;intro b19 o19 hc19
 have h21:cellAt H b19 (o19+1)=some (I v):=by rw [←hla];exact hc19.get 1 rfl
 refine .zw 9 rfl (zfa dG) ?_;refine .y 10 rfl hs ae ?_;refine .z 11 rfl zg ?_;refine .z 12 rfl zg ?_;refine .D hs ?_
 refine .seq (.draw mix rfl hs fun w hs=>?_)
 refine .zw 0 rfl zm ?_;refine .z 1 rfl znc ?_;refine .z 2 rfl (zfa ee) ?_;refine .y 3 rfl hs an ?_;refine .z 4 rfl zm ?_
 first|(refine .ixv 5 rfl hs af ai ?_;intro b27 o27 hc27)|refine .z 5 rfl (zix af ai) ?_
 refine .load (i:=6) hs rfl aH .none rfl ae ?_ (hv:=gy hun sp)
 refine .zw 7 rfl Ev ?_;refine .z 8 rfl zm ?_;refine .z 9 rfl znc ?_;refine .z 10 rfl (zfa ee) ?_;refine .y 11 rfl hs an ?_;refine .z 12 rfl zm ?_
 first|(refine .ixv 13 rfl hs af ai ?_;intro b35 o35 hc35)|refine .z 13 rfl (zix af ai) ?_
 refine .load (i:=14) hs rfl aH .none rfl ae ?_ (hv:=gy hvn sp)
 refine .zw 15 rfl Al ?_;refine .z 16 rfl zg ?_;refine .D hs ?_
 refine .seq (.aj (.z zm (.z (da aE) (.zn zm (.for (N:=p.length) (J:=fun k fr w=>fr=[(38,.slice a p.length cap),(6,I (least s.dF ts (min (-gi lf u) (gi lf v)) (p.take k))),(0,Pt bf),(1,.slice a p.length cap),(4,I u),(5,I v)]∧St H w (.blk bt (Is ts):: .blk bl (Is lf++sp)::σ)) ak ?_ ?_ ?_)))))
 ·exact .mk ⟨rfl,hs⟩
 ·rintro k fr w hk ⟨rfl,hs⟩
  obtain ⟨x,hx⟩:=nth hk
  obtain ⟨g1,g2,g3⟩:=hix x (List.mem_of_getElem? hx)
  refine .block (.aj (.ixX hs hp rfl rfl aE aM hx rfl ?_));intro b42 o42 hc42
  refine .q hs (bQ (vs:=x.v) rfl iJ aM hc42) (.o (.alloc hs eC rfl fun b8 w hs=>?_))
  refine .o (.aU (vs:=x.v) hs rfl rfl aM fun w hs=>?_)
  refine .nil (.aj (.z zm (.q hs (kO (vs:=x.v) rfl iJ aM) (.o (.call Tryz.call298 rfl (kH hs hok hf hl g1) ?_)))));rintro _ w ⟨rfl,hs⟩
  refine .zn fI (.cond rfl (fun hc47=>?_) (fun hc47=>?_))
  ·refine .draw mix rfl hs fun w hs=>?_
   refine .zw 0 rfl zm ?_;refine .z 1 rfl zm ?_;refine .z 2 rfl znc ?_;refine .z 3 rfl (zfa iU) ?_;refine .y 4 rfl hs an ?_;refine .z 5 rfl (zfa ed) ?_;refine .y 6 rfl hs ae ?_
   refine .zw 7 rfl (iI (k:=x.l.toNat) rfl rfl af ai g3 g2) (.y 8 rfl hs ae ?_);refine .z 9 rfl Al ?_;refine .z 10 rfl zg ?_;refine .D hs ?_
   refine nB (nT ?_)
   have e:min (least s.dF ts (min (-gi lf u) (gi lf v)) (p.take k)) (gi ts x.l.toNat)=least s.dF ts (min (-gi lf u) (gi lf v)) (p.take (k+1)):=by rw [dj hx,xt,if_neg (by simpa using hc47)]
   exact .mk ⟨rfl,hs.tail⟩ (hs:= .cons rfl (.cons rfl (.cons rfl (.cP rfl e (.cons rfl (.cons rfl (.cons rfl (.cons rfl (.nil rfl rfl)))))))))
  ·refine .skip (nB (nT ?_))
   have e:least s.dF ts (min (-gi lf u) (gi lf v)) (p.take k)=least s.dF ts (min (-gi lf u) (gi lf v)) (p.take (k+1)):=by rw [dj hx,xt,if_pos (by simpa using hc47)]
   exact .mk ⟨rfl,hs.tail⟩ (hs:= .cons rfl (.cons rfl (.cons rfl (.cP rfl e (.cons rfl (.cons rfl (.cons rfl (.cons rfl (.nil rfl rfl)))))))))
 ·rintro fr w ⟨rfl,hs⟩
  have e6:least s.dF ts (min (-gi lf u) (gi lf v)) (List.take p.length p)=M:=by rw [List.take_length];exact hM.symm
  rw [e6]
  refine nT (.seq (.aj (.z zm (.z (da aE) (.zn zm (.for (N:=p.length) (J:=fun k fr w=>fr=[(59,.slice a p.length cap),(6,I M),(0,Pt bf),(1,.slice a p.length cap),(4,I u),(5,I v)]∧St H w (.blk bt (Is (gZ s.dF M ts (p.take k))):: .blk bl (Is lf++sp)::σ)) ak ?_ ?_ ?_))))))
  ·exact .mk ⟨rfl,hs⟩
  ·rintro k fr w hk ⟨rfl,hs⟩
   obtain ⟨x,hx⟩:=nth hk
   obtain ⟨g1,g2,g3⟩:=hix x (List.mem_of_getElem? hx)
   have hpl2:=nh s.dF M (p.take k) ts
   have hbd:=Dj (es:=s.dF) (m:=M) (ts:=ts) (p:=p.take k) ak (by simp only [FF];omega) (by rw [List.length_take];omega) (fun y hy=>(hix y (List.mem_of_mem_take hy)).2.1) x.l.toNat
   have h9:=htt _ g2
   refine .block (.aj (.ixX hs hp rfl rfl aE aM hx rfl ?_));intro b63 o63 hc63
   refine .q hs (bQ (vs:=x.v) rfl iJ aM hc63) (.o (.alloc hs eC rfl fun b10 w hs=>?_))
   refine .o (.aU (vs:=x.v) hs rfl rfl aM fun w hs=>?_)
   refine .nil (.aj (.z zm (.q hs (kO (vs:=x.v) rfl iJ aM) (.o (.call Tryz.call298 rfl (kH hs hok hf hl g1) ?_)))));rintro _ w ⟨rfl,hs⟩
   refine .nil (.cond rfl (fun hc67=>?_) (fun hc67=>?_))
   ·refine .draw mix rfl hs fun w hs=>?_
    refine .zw 0 rfl zm ?_;refine .z 1 rfl znc ?_;refine .z 2 rfl (zfa iU) ?_;refine .y 3 rfl hs an ?_;refine .z 4 rfl (zfa ed) ?_;refine .y 5 rfl hs ae ?_
    refine .zw 6 rfl (iI (k:=x.l.toNat) rfl rfl af ai g3 g2) (.y 7 rfl hs ae ?_);refine .z 8 rfl zm ?_;refine .z 9 rfl cu ?_
    refine .zw 10 rfl (iI (k:=x.l.toNat) rfl rfl af ai g3 g2) (.E 11 hs ?_)
    refine .store hs rfl rfl ai ?_;intro w hs
    refine .go (.D hs (nB (nT ?_)))
    have e:gZ s.dF M ts (p.take (k+1))=(gZ s.dF M ts (p.take k)).set x.l.toNat (gi (gZ s.dF M ts (p.take k)) x.l.toNat+M):=by rw [dj hx,vT,push,if_pos (by simpa using hc67)]
    exact .mk ⟨rfl,by rw [e];exact hs.tail⟩
   ·refine .draw mix rfl hs fun w hs=>?_
    refine .zw 0 rfl zm ?_;refine .z 1 rfl znc ?_;refine .z 2 rfl (zfa iU) ?_;refine .y 3 rfl hs an ?_;refine .z 4 rfl (zfa ed) ?_;refine .y 5 rfl hs ae ?_
    refine .zw 6 rfl (iI (k:=x.l.toNat) rfl rfl af ai g3 g2) (.y 7 rfl hs ae ?_);refine .z 8 rfl zm ?_;refine .z 9 rfl fM ?_
    refine .zw 10 rfl (iI (k:=x.l.toNat) rfl rfl af ai g3 g2) (.E 11 hs ?_)
    refine .store hs rfl rfl ai ?_;intro w hs
    refine .go (.D hs (nB (nT ?_)))
    have e:gZ s.dF M ts (p.take (k+1))=(gZ s.dF M ts (p.take k)).set x.l.toNat (gi (gZ s.dF M ts (p.take k)) x.l.toNat - M):=by rw [dj hx,vT,push,if_neg (by simpa using hc67)]
    exact .mk ⟨rfl,by rw [e];exact hs.tail⟩
  ·rintro fr w ⟨rfl,hs⟩
   rw [List.take_length] at hs
   refine nT (.aj (.z zm (.z znc (.z (zfa ee) (.y hs (zld an) (.z zm ?_))))))
   first|(refine .ixv hs af ai ?_;intro b96 o96 hc96)|refine .z (zix af ai) ?_
   refine .q hs (gY rfl ae (hv:=gy hun sp)) (.z zm (.z cu ?_))
   first|(refine .ixv hs af ai ?_;intro b100 o100 hc100)|refine .z (zix af ai) ?_
   refine .o (.store hs rfl rfl ai ?_ dz (lU hun sp) (jY hun sp _));intro w hs
   refine .nil (.region (.z zm (.z znc (.z (zfa ee) (.y hs (zld an) (.z zm ?_))))))
   first|(refine .ixv hs af ai ?_;intro b106 o106 hc106)|refine .z (zix af ai) ?_
   refine .q hs (gY rfl ae (hv:=gy (by rw [List.length_set];exact hvn) sp)) ?_
   refine .z zm (.z fM ?_)
   first|(refine .ixv hs af ai ?_;intro b110 o110 hc110)|refine .z (zix af ai) ?_
   refine .o (.store hs rfl rfl ai ?_ dz (lU (by rw [List.length_set];exact hvn) sp) (jY (by rw [List.length_set];exact hvn) sp _));intro w hs
   refine .nil ?_
   exact Fin.zV Tryz.results273 hs
theorem DA{w:List Int}{N k:Nat}(hw:w.length=N+1):gi (w.set 0 (-me w k)) 0 - gi (w.set 0 (-me w k)) (k+1)= -me w (k+1):=by
 rw [iF ak,iF ak,if_pos rfl,if_neg ak]
 simp only [me,bp];omega
theorem wk{v vw:Value}{s:dp}{ws:List Int}(hs:St H w σ)(hok:s.Ok)(hr:RSy H v s)(hrw:RI H vw ws)(hwl:ws.length=s.n)(hsz:j6 ws)(hsnd:s.Sound):
  Cl Tryz.prog 224 [v,vw] w fun v w'=>(v= .tuple #[.pointer none,.bool false]∧qO s.dF (qQ ws s.n) s.n∧St H w' σ)∨
   (∃H1 bf bt bl cl ts lf vl sp,HLe H H1∧v= .tuple #[Pt bf,.bool true]∧w6 H1 bf s ts lf vl bt bl cl sp∧tM s.n s.dF (qQ ws s.n) ts∧St H1 w' σ):=by
 obtain ⟨vl,rfl,hr⟩:=hr
 obtain ⟨al,cpl,rfl⟩:=RL.shape hr
 obtain ⟨aw,cw,rfl⟩:=RI.shape hrw
 obtain ⟨N,hN⟩:=Int.eq_ofNat_of_zero_le hok.m0
 have hN1:=hok.m1
 have hn:s.n=N+1:=by simp [dp.n,hN]
 have hlim:=hok.len
 have hoka:=hok.dF
 have hal:s.dF.length=s.cO.length:=by simp [dp.dF,fG]
 have hnum:BU s.dF:=fun i x hx=>⟨sf hx,(hok.dF.2 x (List.mem_of_getElem? hx)).2.2.2.2.2⟩
 have hin:∀x∈s.dF,x.f<s.n∧x.t<s.n:=fun x hx=>by have:=hoka.2 x hx;omega
 have hwt0:=F3 ws (n:=s.n) ak
 unfold j6 at hsz
 rw [hwl] at hsz
 refine Cl.o Tryz.func224 Tryz.ntmps224 ag2 ?_
 refine .aj (.bx hs fun b2 w hs=>?_)
 refine .z zg (.zn zg (.scope (.cut (fun fs w=>∃bf bt bl cl sp,lF fs ⟨73,[],[(6,Pt bf)]⟩∧St H w (.blk bf [I s.many,.slice al s.cO.length cpl,.slice (some ⟨bt,0,none⟩) s.cO.length s.cO.length,.slice (some ⟨bl,0,none⟩) ws.length cl]:: .blk bt (Is (List.replicate s.cO.length 0)):: .blk bl (Is ws++sp)::σ)) ?_ ?_)))
 ·refine .draw mix rfl hs fun w hs=>?_
  refine .ys 0 rfl hs [_,_] bM aV ?_;refine .z 1 rfl (zfa cA) ?_;refine .y 2 rfl hs dr ?_;refine .z 3 rfl (da aJ) ?_;refine .z 5 rfl zm ?_
  refine .e2 (i:=4) (j:=6) aH rfl rfl rfl rfl .none .none hs ?_ ?_
  ·refine .wT s.cO.length hs rfl rfl af gV rfl ai cq ak ?_;intro b15 w hs
   refine .go (.E 6 hs ?_)
   refine .call Tryz.call171 rfl (nA hs hrw ak) ?_;rintro v17 w ⟨en17,hO,hs⟩
   obtain ⟨bl,cl,sp,rfl,rfl,hsp⟩:=hO.some ak
   refine .go (.zw 7 rfl (zbd [_,_,_,_] qg) (.E 8 hs ?_))
   refine .box hs rfl rfl ?_;intro b19 w hs
   refine .go (.zw 9 rfl zg ?_);refine .D hs ?_
   exact nT ⟨b19,b15,bl,cl,sp,a6,hs.sb⟩
  ·refine .call Tryz.call171 rfl (nA hs hrw ak) ?_;rintro v17 w ⟨en17,hO,hs⟩
   obtain ⟨bl,cl,sp,rfl,rfl,hsp⟩:=hO.some ak
   refine .go (.E 4 hs ?_)
   refine .wT s.cO.length hs rfl rfl af gV rfl ai cq ak ?_;intro b15 w hs
   refine .go (.zw 7 rfl (zbd [_,_,_,_] qg) (.E 8 hs ?_))
   refine .box hs rfl rfl ?_;intro b19 w hs
   refine .go (.zw 9 rfl zg ?_);refine .D hs ?_
   exact nT ⟨b19,b15,bl,cl,sp,a6,hs.sb⟩
 ·rintro fs w ⟨bf,bt,bl,cl,sp,hfs,hs⟩
  refine WE.sub ?_ hfs
  obtain ⟨H1,hle1,hRf,hs⟩:=hs.cQ .here
  have hf0:cellAt H1 bf 0=some (I (N:Int)):=by have:=hRf.at 0 (v:=I s.many);rwa [hN] at this
  have hf3:cellAt H1 bf 3=some (.slice (some ⟨bl,0,none⟩) ws.length cl):=hRf.at 3
  have hrl:=hr.mono hle1
  refine .aj (.z zm (.z znc (.z (zfa ee) (.y hs (zld an) (.q hs (iI (k:=0) rfl rfl af ai rfl ak) (.o (.store hs rfl rfl ai ?_ dz (lU ak sp) (jY ak sp _))))))));intro w hs
  refine .nil (.seq (.aj (.z zm (.z znc (.z (zfa gQ) (.z (zfa cM) (.y hs (zld ae) (.zn zm (.for (N:=N) (J:=fun k fr w=>fr=[(6,Pt bf)]∧St H1 w (.blk bt (Is (List.replicate s.cO.length 0)):: .blk bl (Is (ws.set 0 (-me ws k))++sp)::σ)) ak ?_ ?_ ?_)))))))))
  ·exact .mk ⟨rfl,by simpa [me,bp] using hs⟩
  ·rintro k fr w hk ⟨rfl,hs⟩
   have e:=DA (w:=ws) (N:=N) (k:=k) ak
   have hb1:=xh ws (k+1)
   have hb2:bZ ws (k+1+1)≤bZ ws s.n:=sG (fun v=>by omega) ak
   simp only [FF] at hsz
   refine .block (.aj (.z zm (.zn zg (.draw mix rfl hs fun w hs=>?_))))
   refine .zw 0 rfl zm ?_;refine .z 1 rfl znc ?_;refine .z 2 rfl (zfa ee) ?_;refine .y 3 rfl hs an ?_
   refine .zw 4 rfl (iI (k:=0) rfl rfl af ai rfl ak) (.load (i:=5) hs rfl aH .none rfl ae ?_ (hv:=gy (by rw [List.length_set];omega) sp))
   refine .zw 6 rfl zm ?_;refine .z 7 rfl znc ?_;refine .z 8 rfl (zfa ee) ?_;refine .y 9 rfl hs an ?_;refine .z 10 rfl zm ?_;refine .z 11 rfl cu ?_
   refine .zw 12 rfl (iI (k:=k+1) rfl rfl af ai ak ak) (.load (i:=13) hs rfl aH .none rfl ae ?_ (hv:=gy (by rw [List.length_set];omega) sp))
   refine .zw 14 rfl fM (.zw 15 rfl (iI (k:=0) rfl rfl af ai rfl ak) (.E 16 hs ?_))
   refine .store hs rfl rfl ai ?_ dz (lU (by rw [List.length_set];omega) sp) (jY (by rw [List.length_set];omega) sp _);intro w hs
   refine .go (.D hs (nB (nT ?_)))
   rw [e,List.set_set] at hs
   exact .mk ⟨rfl,hs⟩
  ·rintro fr w ⟨rfl,hs⟩
   have hI0:yU s.n s.dF (qQ ws s.n) (List.replicate s.cO.length 0) (ws.set 0 (-me ws N)):=by
    rw [←hal,hn]
    rw [hn] at hsz
    refine yU.start hsz (by rw [List.length_set];omega) (fun v hv=>?_) hsnd
    rw [iF ak]
    cases v with
    |zero=>rw [if_pos rfl,Am]
    |succ v=>rw [if_neg ak,An]
   refine nT (.seq (.label (nT (.block ?_))))
   refine .loop (fun _:bV×List Int×List Int=>⟨73,[],[(6,Pt bf)]⟩)
    (fun p w=>HLe H1 p.1∧yU s.n s.dF (qQ ws s.n) p.2.1 p.2.2∧St p.1 w (.blk bt (Is p.2.1):: .blk bl (Is p.2.2++sp)::σ)) (fun p=>(rem s.n p.2.2).toNat) (H1,List.replicate s.cO.length 0,ws.set 0 (-me ws N))
    a6 ⟨HLe.refl _,hI0,hs⟩ ?_
   rintro ⟨H2,ts,lf⟩ w ⟨hle2,hI,hs⟩
   dsimp only at hle2 hI hs ⊢
   have hlt:=hI.lt
   have hll:=hI.ll
   have hRf2:Row H2 bf [I s.many,.slice al s.cO.length cpl,.slice (some ⟨bt,0,none⟩) ts.length ts.length,.slice (some ⟨bl,0,none⟩) lf.length cl]:=by
    rw [hlt,hal,hll,←hwl];exact hRf.mono hle2
   have hf32:cellAt H2 bf 3=some (.slice (some ⟨bl,0,none⟩) lf.length cl):=hRf2.at 3
   refine .block (.seq (.aj (.z zm (.z znc (.z (zfa ee) (.y hs (zld an) (.z (da af) (.zn zm (.for (N:=lf.length) (J:=fun k fr w=>fr=[(53,.slice (some ⟨bl,0,none⟩) lf.length cl),(6,Pt bf)]∧(∀v<k,gi lf v≤0)∧St H2 w (.blk bt (Is ts):: .blk bl (Is lf++sp)::σ)) ak ?_ ?_ ?_)))))))))
   ·exact .mk ⟨rfl,fun v hv=>by omega,hs⟩
   ·rintro k fr w hk ⟨rfl,hle0,hs⟩
    refine .block (.aj (.z zm ?_))
    first|(refine .ixv hs af ai ?_;intro b58 o58 hc58)|refine .z (zix af ai) ?_
    refine .q hs (gY rfl ae (hv:=gy hk sp)) (.z zg (.zn zg (.seq (.aj (.z zm (.zn nb (.bn rfl (fun hc61=>?_) (fun hc61=>?_))))))))
    ·refine .exit (xT (xB (nT ?_)))
     exact .mk ⟨rfl,fun v hv=>by
       by_cases e:v=k
       ·subst e;exact hc61
       ·exact hle0 v ak,hs⟩
    ·refine .skip (nT (.aj (.z zm (.z zm ?_))))
     obtain ⟨Ha,hla,hra,hsa,-,hba⟩:=hs.AO
     obtain ⟨Hb,hlb,hrb,hsb,-,hbb⟩:=hsa.AO
     refine .o (.call Tryz.call272 rfl (qI (s:=s) (to:=k) hsb hok ⟨hRf2.mono (hla.trans hlb),hr.mono (hle1.trans (hle2.trans (hla.trans hlb))),hra.mono hlb,hrb⟩ ak ak hI.fe ak ak) ?_);rintro v64 w ⟨Hc,p,en,hlc,hO,hsc,hWR⟩
     have hs:=hba (HLe.refl _) (hbb hlc hsc)
     obtain ⟨ap,lp,cp,rfl,hlp⟩:=hO.shape
     obtain rfl:lp=p.length:=by rw [dV] at hlp;omega
     refine .zn zg (.seq (.aj (.z zm (.z (da aE) (.zn fF (.bn rfl (fun hc67=>?_) (fun hc67=>?_)))))))
     ·refine .aj (.z zg (.zn zg (.ret (rT (rB (rT (rB (rT (rB (rT (rB (rS (Fin.ij Tryz.results224 rfl rfl ?_)))))))))))))
      rcases hWR with ⟨_,R,hS,hR,hto⟩|⟨hp,_⟩
      ·exact .inl ⟨rfl,hI.open hin hS hR ak hto ak,(hs.le (hle1.trans hle2)).out⟩
      ·exact (hp (List.length_eq_zero_iff.1 ak)).elim
     ·refine .skip (nT (.aj (.z zm (.z zm ?_))))
      obtain ⟨hp,hpl,u,hw⟩:=hWR.resolve_left fun h=>by rw [h.1] at hc67;exact hc67 rfl
      obtain ⟨H3,hle3,hRS,hs⟩:=cN.cQ (cs:=p.map Arc.v) hO (fun c hc=>by simp only [List.mem_map] at hc;obtain ⟨x,_,rfl⟩:=hc;rfl) ak (by rw [List.length_map];omega) hs dz
      refine .o (.call Tryz.call273 rfl (pR hs hok (hRf2.mono hle3) (hr.mono (hle1.trans (hle2.trans hle3))) hRS hI hw hp hpl) ?_);rintro v70 w hs
      refine .nil (.exit (xN (xT (xN (xT (xB (nT ?_)))))))
      obtain ⟨q1,q2⟩:=hI.send hnum hw ak
      have q3:0≤rem s.n (AN lf (tD s.dF ts lf p u k) u k):=dC fun v _=>by omega
      exact ⟨(H3,gZ s.dF (tD s.dF ts lf p u k) ts p,AN lf (tD s.dF ts lf p u k) u k),a6,⟨hle2.trans hle3,q1,hs⟩,by dsimp only;omega⟩
   ·rintro fr w ⟨rfl,hle0,hs⟩
    refine nT (.aj (.z zm (.z zg (.zn zg (.ret (rB (rT (rB (rS (Fin.ij Tryz.results224 rfl rfl ?_))))))))))
    obtain ⟨H3,l3,r3,hs⟩:=hs.cQ .here
    obtain ⟨H4,l4,r4,hs⟩:=hs.cQ .here
    exact .inr ⟨H4,bf,bt,bl,cl,ts,lf,_,sp,hle1.trans (hle2.trans (l3.trans l4)),rfl,⟨hRf2.mono (l3.trans l4),hr.mono (hle1.trans (hle2.trans (l3.trans l4))),r3.mono l4,r4⟩,hI.ok hin hwt0 (fun v hv=>hle0 v ak),hs⟩
theorem rW{v:Value}{ws:List Int}(hs:St H w σ)(hr:RI H v ws):Cl Tryz.prog 271 [v] w fun v w'=>∃b,v= .bool b∧(b=true↔j6 ws)∧St H w' σ:=by
 obtain ⟨a,c,rfl⟩:=RI.shape hr
 have hl:=(RI.len hr).2.2
 refine Cl.o Tryz.func271 Tryz.ntmps271 ag1 ?_
 refine .aj (.zn zg (.aj (.zn zg (.seq (.aj (.z zm (.z (da af) (.zn zm (.for (N:=ws.length) (J:=fun k fr w=>fr=[(6,.slice a ws.length c),(3,I (3600000000000 - bZ ws k))]∧bZ ws k≤3600000000000∧St H w σ) ak ?_ ?_ ?_)))))))))
 ·exact .mk ⟨rfl,by simp [bZ,bp],hs⟩
 ·rintro k fr w hk ⟨rfl,hle,hs⟩
  have hx:=bJ hk
  have h0:0≤bZ ws k:=dC fun v _=>by omega
  have h1:bZ ws (k+1)=bZ ws k+max (gi ws k) (-gi ws k):=rfl
  refine .block (.aj ?_)
  first|(refine .ixv hs af ai ?_;intro b10 o10 hc10)|refine .z (zix af ai) ?_
  refine .y hs (zld ae) (.zn zg (.seq (.aj (.z zm (.z zm (.z Ev (.z fV (.z zm (.ie (t':=16) rfl (fun hb16=>?_) (fun hb16=>?_))))))))))
  ·refine .Fs 3 4 false (.zn zpT (.cT (.aj (.zn zg (.ret (rT (rB (rT (rB (rT (Fin.bq Tryz.results271 rfl ?_)))))))))))
   exact ⟨false,rfl,⟨fun h=>(by cases h),fun h=>(xj (k:=k+1) hk (by simp only [FF];omega) h).elim⟩,hs⟩
  ·refine .T (.z zm (.T (.z zm (.T (.z k7 (.zn zpF (.bn rfl (fun hc20=>?_) (fun hc20=>?_))))))))
   ·refine .aj (.zn zg (.ret (rT (rB (rT (rB (rT (Fin.bq Tryz.results271 rfl ?_))))))))
    exact ⟨false,rfl,⟨fun h=>(by cases h),fun h=>(xj (k:=k+1) hk (by simp only [FF];omega) h).elim⟩,hs⟩
   ·refine .skip (nT (.region (.z zm (.z zm (.z zm (.z Ev (.z Bb (.z fM (.zn zg (nB (nT ?_)))))))))))
    exact .mk ⟨rfl,ak,hs⟩ (hs:= .cons rfl (.cons rfl (.cons rfl (.cP rfl ak (.nil rfl rfl)))))
 ·rintro fr w ⟨rfl,hle,hs⟩
  refine nT (.aj (.zn zg (.ret (Fin.bq Tryz.results271 rfl ?_))))
  exact ⟨true,rfl,⟨fun _=>hle,fun _=>rfl⟩,hs⟩
theorem nq{v vw:Value}{s:dp}{ws:List Int}(hs:St H w σ)(hr:RSy H v s)(hrw:RI H vw ws):Cl Tryz.prog 222 [v,vw] w fun v w'=>v=I (iw s ws)∧St H w' σ:=by
 obtain ⟨vl,rfl,hr⟩:=hr
 obtain ⟨al,cpl,rfl⟩:=RL.shape hr
 obtain ⟨aw,cw,rfl⟩:=RI.shape hrw
 have hlw:=(RI.len hrw).2.2
 have hn:s.check=0→0≤s.many∧s.many≤64∧(s.n:Int)=s.many+1:=fun h=>by
  have h1:=s.dT.1 h
  have:=h1.m0
  have:=h1.m1
  simp only [dp.n];omega
 refine Cl.o Tryz.func222 Tryz.ntmps222 ag2 ?_
 refine .aj (.bx hs fun b2 w hs=>?_)
 refine .zn zg (.seq (.aj (.y hs (zls [_,_] bM aV) (.o (.call Tryz.call197 rfl (jC (s:=s) hs ⟨_,rfl,hr⟩) ?_)))));rintro _ w ⟨rfl,hs⟩
 refine .zn zg (.aj (.z zm (.zn hZ (.dZ rfl (fun hc9=>?_) (fun hc9=>?_)))))
 ·refine .aj (.z zm (.zn zg (.ret (rT (Fin.bq Tryz.results222 rfl ?_)))))
  exact ⟨by unfold iw;rw [if_pos hc9],hs.tail⟩
 ·refine .skip (nT (.seq (.aj (.z zm ?_))))
  obtain ⟨n0,n1,n2⟩:=hn hc9
  refine .z (da af) (.z (zfa cM) (.y hs (zld ae) (.z cu (.z hZ (.z zm (.CE (t':=17) rfl (fun hb17=>?_) (fun hb17=>?_)))))))
  ·refine .Fs 3 6 false (.zn zpT (.cT (.aj (.zn zg (.ret (rT (Fin.bq Tryz.results222 rfl ?_)))))))
   exact ⟨by unfold iw;rw [if_neg ak,if_neg ak],hs.tail⟩
  ·refine .T (.z zm (.T (.o (.call Tryz.call271 rfl (rW hs hrw) ?_))));rintro _ w ⟨bz,rfl,hbz,hs⟩
   refine .T (.z fI (.zn zpF (.cond rfl (fun hc21=>?_) (fun hc21=>?_))))
   ·refine .aj (.zn zg (.ret (rT (Fin.bq Tryz.results222 rfl ?_))))
    exact ⟨by unfold iw;rw [if_neg ak,if_neg (fun h=>by rw [hbz.2 h.2] at hc21;cases hc21)],hs.tail⟩
   ·refine .skip (nT (.aj (.zn zg (.ret (Fin.bq Tryz.results222 rfl ?_)))))
    exact ⟨by unfold iw;rw [if_neg ak,if_pos ⟨ak,hbz.1 (by simpa using hc21)⟩],hs.tail⟩
theorem nK{v vw:Value}{s:dp}{ws:List Int}(hs:St H w σ)(hr:RSy H v s)(hrw:RI H vw ws):
  Cl Tryz.prog 179 [v,vw] w fun v w'=>∃H1 e pf,HLe H H1∧v= .tuple #[pf,I e]∧Ek s ws e∧St H1 w' σ∧(e≠0→pf= .pointer none)∧
   (e=0→∃bf bt bl cl ts lf vl sp,pf=Pt bf∧w6 H1 bf s ts lf vl bt bl cl sp∧tM s.n s.dF (qQ ws s.n) ts∧s.Ok∧bZ ws s.n≤FF):=by
 obtain ⟨vl,rfl,hr⟩:=hr
 refine Cl.o Tryz.func179 Tryz.ntmps179 ag2 ?_
 refine .aj (.bx hs fun b2 w hs=>?_)
 refine .z zg (.zn zg (.seq (.aj (.y hs (zls [_,_] bM aV) (.z zm (.o (.call Tryz.call222 rfl (nq (s:=s) hs ⟨_,rfl,hr⟩ hrw) ?_)))))));rintro _ w ⟨rfl,hs⟩
 refine .zn zg (.aj (.z zm (.zn hZ (.dZ rfl (fun hc13=>?_) (fun hc13=>?_)))))
 ·refine .aj (.z zm (.z zg (.zn zg (.ret (rT (Fin.ij Tryz.results179 rfl rfl ?_))))))
  exact ⟨H,_,_,HLe.refl _,rfl,.bad hc13,hs.tail,fun _=>rfl,fun h=>(hc13 h).elim⟩
 ·refine .skip (nT (.seq (.aj (.y hs (zls [_,_] bM aV) ?_))))
  obtain ⟨hok,hwl,hsz⟩:=wy hc13
  refine .o (.call Tryz.call223 rfl (jX (s:=s) hs hok ⟨_,rfl,hr⟩) ?_);rintro _ w ⟨H1,b,hle1,rfl,hb,hs⟩
  refine .zn fI (.cond rfl (fun hc17=>?_) (fun hc17=>?_))
  ·refine .aj (.z zg (.zn zg (.ret (rT (Fin.ij Tryz.results179 rfl rfl ?_)))))
   exact ⟨H1,_,_,hle1,rfl,.clash hc13 (fun h=>by rw [hb.2 h] at hc17;cases hc17),hs.tail,fun _=>rfl,fun h=>by cases h⟩
  ·refine .skip (nT (.aj (.y hs (zls [_,_] bM aV) (.z zm ?_))))
   have hsnd:s.Sound:=hb.1 (by simpa using hc17)
   refine .o (.call Tryz.call224 rfl (wk (s:=s) hs hok ⟨_,rfl,hr.mono hle1⟩ (hrw.mono hle1) hwl hsz hsnd) ?_);rintro v21 w hcase
   obtain ⟨pf,bb,H2,hle2,rfl,hs,hT,hF⟩:∃pf bb H2,HLe H1 H2∧v21= .tuple #[pf,.bool bb]∧St H2 w (.blk b2 [I s.many,vl]::σ)∧(bb=false→pf= .pointer none∧qO s.dF (qQ ws s.n) s.n)∧
     (bb=true→∃bf bt bl cl ts lf vl sp,pf=Pt bf∧w6 H2 bf s ts lf vl bt bl cl sp∧tM s.n s.dF (qQ ws s.n) ts):=by
    rcases hcase with ⟨rfl,h1,h2⟩|⟨H2,bf,bt,bl,cl,ts,lf,vl,sp,h1,rfl,h2,h3,h4⟩
    ·exact ⟨_,false,H1,HLe.refl _,rfl,h2,fun _=>⟨rfl,h1⟩,fun h=>by cases h⟩
    ·exact ⟨_,true,H2,h1,rfl,h4,fun h=>(by cases h),fun _=>⟨bf,bt,bl,cl,ts,lf,vl,sp,rfl,h2,h3⟩⟩
   refine .z zm (.z zex (.z zex (.z zg (.zn zg (.seq (.aj (.z zm (.zn fI (.cond rfl (fun hc25=>?_) (fun hc25=>?_))))))))))
   ·refine .aj (.z zg (.zn zg (.ret (rT (Fin.ij Tryz.results179 rfl rfl ?_)))))
    exact ⟨H2,_,_,hle1.trans hle2,rfl,.opn hc13 hsnd (hT (by simpa using hc25)).2,hs.tail,fun _=>rfl,fun h=>by cases h⟩
   ·refine .skip (nT (.aj (.z zm (.z zg (.zn zg (.ret (Fin.ij Tryz.results179 rfl rfl ?_)))))))
    obtain ⟨bf,bt,bl,cl,ts,lf,vl,sp,rfl,h2,h3⟩:=hF (by simpa using hc25)
    have hn0:0<s.n:=by simp [dp.n]
    have hn1:s.n≤65:=by have:=hok.m0;have:=hok.m1;simp only [dp.n];omega
    have hsz':bZ ws s.n≤FF:=by unfold j6 at hsz;rwa [hwl] at hsz
    exact ⟨H2,_,_,hle1.trans hle2,rfl,.ok hc13 hsnd (h3.value hn0 hn1 hok.dF hsz').2.1,hs.tail,fun h=>(h rfl).elim,fun _=>⟨bf,bt,bl,cl,ts,lf,vl,sp,rfl,h2,h3,hok,hsz'⟩⟩
theorem kG{bf bt bl cl:Nat}{s:dp}{ts lf ws:List Int}{vl:Value}{sp:List Value}(hs:St H w σ)(hok:s.Ok)(hF:w6 H bf s ts lf vl bt bl cl sp)(hFo:tM s.n s.dF (qQ ws s.n) ts)(hsz:bZ ws s.n≤FF):
  Cl Tryz.prog 263 [Pt bf] w fun v w'=>v=I (dot s.dF ts (·.c))∧Ef s.dF (s.wt ws) s.n (dot s.dF ts (·.c))∧dot s.dF ts (·.c)≤BB∧-BB≤dot s.dF ts (·.c)∧St H w' σ:=by
 obtain ⟨hFf,hFl,hFt,hFd⟩:=hF
 obtain ⟨al,cpl,rfl⟩:=RL.shape hFl
 have hlim:=hok.len
 have hal:s.dF.length=s.cO.length:=by simp [dp.dF,fG]
 have hlt:=hFo.lt
 have hn0:0<s.n:=by simp [dp.n]
 have hn1:s.n≤65:=by have:=hok.m0;have:=hok.m1;simp only [dp.n];omega
 have hv:=hFo.value hn0 hn1 hok.dF hsz
 have hd:=D1 (es:=s.dF) hlt
 have hf1:cellAt H bf 1=some (.slice al s.cO.length cpl):=hFf.at 1
 have hf2:cellAt H bf 2=some (.slice (some ⟨bt,0,none⟩) ts.length ts.length):=hFf.at 2
 refine Cl.o Tryz.func263 Tryz.ntmps263 ag1 ?_
 refine .aj (.zn zg (.aj (.zn zg (.seq (.aj (.z zm (.z znc (.z (zfa gQ) (.z (zfa cA) (.y hs (zld dr) (.z (da aJ) (.zn zm (.for (N:=s.cO.length) (J:=fun k fr w=>fr=[(10,.slice al s.cO.length cpl),(3,I (IntKind.i64.wrap (Co s.dF ts k))),(0,Pt bf)]∧St H w σ) ak ?_ ?_ ?_)))))))))))))
 ·exact .mk ⟨rfl,hs⟩ (hs:= .cons rfl (.cons rfl (.cons rfl (.cP rfl (by simp [Co,bp,xv]) (.cons rfl (.nil rfl rfl))))))
 ·rintro k fr w hk ⟨rfl,hs⟩
  obtain ⟨l,hl⟩:=nth hk
  have hg:(ga s.dF k).c=l.M:=by simp [ga,dp.dF,lE hl,Lim.arc]
  have hlm:=hok.lim l (List.mem_of_getElem? hl)
  have hkt:k<ts.length:=by omega
  have htb:=hFo.nn k ak
  have hct:cellAt H bt k=some (I (gi ts k)):=hFt.at k (jx hkt)
  have hmul:gi ts k*l.M≤72000000000000000∧-72000000000000000≤gi ts k*l.M:=by
   simp only [FF] at htb
   have g1:gi ts k*l.M≤gi ts k*20000:=Int.mul_le_mul_of_nonneg_left hlm.2.2.2.1.2 htb.1
   have g2:gi ts k*(-20000)≤gi ts k*l.M:=Int.mul_le_mul_of_nonneg_left hlm.2.2.2.1.1 htb.1
   omega
  refine .block (.aj (.z zm (.ixX hs hFl rfl rfl aJ bg hl rfl ?_)));intro b15 o15 hc15
  refine .q hs (bQ (vs:=l.c) rfl fw bg hc15) (.o (.alloc hs eD rfl fun b5 w hs=>?_))
  refine .z zg (.o (.aU (vs:=l.c) hs rfl rfl bg fun w hs=>?_))
  refine .nil (.draw mix rfl hs fun w hs=>?_)
  refine .zw 0 rfl zm ?_;refine .z 1 rfl zm ?_;refine .z 2 rfl znc ?_;refine .z 3 rfl (zfa iU) ?_;refine .y 4 rfl hs an ?_;refine .z 5 rfl zm ?_
  refine .zw 6 rfl (iI (k:=k) rfl rfl af ai rfl hkt) (.r (i:=7) hs rfl aH .none (aP rfl ae hct) ?_)
  refine .zw 8 rfl (zfa eG) ?_;refine .y 9 rfl hs ae ?_;refine .z 10 rfl jN ?_
  refine .zw 11 rfl (E2 rfl rfl) (.zw 12 rfl zg ?_);refine .D hs ?_
  refine nB (nT ?_)
  exact .mk ⟨rfl,hs.tail⟩ (hs:= .cons rfl (.cons rfl (.cons rfl (.cP rfl (by rw [AR];simp only [Co,bp,hg]) (.cons rfl (.nil rfl rfl))))))
 ·rintro fr w ⟨rfl,hs⟩
  rw [←hal,←hd,mC (by have:=hv.2.2;simp only [BB] at this;omega)]
  refine nT (.aj (.z zm (.zn zg (.ret (Fin.bq Tryz.results263 rfl ?_)))))
  exact ⟨rfl,hv.1,hv.2.2.1,hv.2.2.2,hs⟩
theorem tj{vw:Value}{ws:List Int}(hs:St H w σ)(hrw:RI H vw ws)(hlw:ws.length≤1000000)(hb:∀k,-9223372036854775807≤gi ws k∧gi ws k≤9223372036854775807):
  Cl Tryz.prog 262 [vw] w fun v w'=>∃H1,HLe H H1∧RI H1 v (Aj ws)∧St H1 w' σ:=by
 obtain ⟨aw,cw,rfl⟩:=RI.shape hrw
 refine Cl.o Tryz.func262 Tryz.ntmps262 ag1 ?_
 refine .aj (.zn zg (.aj (.z zm (.z (da af) (.o (.wT ws.length hs rfl rfl af gV rfl ai cq ak fun b8 w hs=>?_))))))
 refine .zn zg (.seq (.aj (.z zm (.z (da af) (.zn zm (.for (N:=ws.length) (J:=fun k fr w=>fr=[(9,.slice aw ws.length cw),(3,.slice (some ⟨b8,0,none⟩) ws.length ws.length)]∧∃L,(L.length=ws.length∧∀v<ws.length,gi L v=if v<k then -gi ws v else 0)∧St H w (.blk b8 (Is L)::σ)) ak ?_ ?_ ?_))))))
 ·exact .mk ⟨rfl,_,⟨bT,fun v hv=>by rw [eN _ _ hv,if_neg ak]⟩,hs⟩
 ·rintro k fr w hk ⟨rfl,L,⟨hL1,hL2⟩,hs⟩
  have hx:=bJ hk
  have hbk:=hb k
  refine .block (.aj (.z zm ?_))
  first|(refine .ixv hs af ai ?_;intro b14 o14 hc14)|refine .z (zix af ai) ?_
  refine .y hs (zld ae) (.z zg (.zn zg (.region (.z zm (.z zm (.z zm (.z Ev ?_)))))))
  first|(refine .ixv hs af ai ?_;intro b20 o20 hc20)|refine .z (zix af ai) ?_
  refine .o (.store hs rfl rfl ai fun w hs=>?_)
  refine .nil (nB (nT (.mk ⟨rfl,_,⟨by rw [List.length_set];exact hL1,fun v hv=>?_⟩,hs⟩)))
  rw [iF ak]
  by_cases e:v=k
  ·subst e;rw [if_pos rfl,if_pos ak]
  ·rw [if_neg e,hL2 v hv];congr 1;apply propext;omega
 ·rintro fr w ⟨rfl,L,⟨hL1,hL2⟩,hs⟩
  obtain rfl:L=Aj ws:=zS (by simp [hL1,Aj]) (fun k hk=>by rw [hL2 k ak,if_pos ak,DI])
  refine nT (.aj (.z zm (.zn zg (.ret (Fin.bq Tryz.results262 rfl ?_)))))
  obtain ⟨H1,g1,g2,hs⟩:=hs.cQ .here
  refine ⟨H1,g1,?_,hs⟩
  rw [←hL1]
  exact Row.RI (spare:=[]) (by simpa using g2) _ (Nat.le_refl _) ak
theorem um{v vw:Value}{s:dp}{ws:List Int}(hs:St H w σ)(hr:RSy H v s)(hrw:RI H vw ws):
  Cl Tryz.prog 219 [v,vw] w fun v w'=>∃H1 lo hi e,HLe H H1∧v= .tuple #[I lo,I hi,I e]∧jw s ws lo hi e∧St H1 w' σ:=by
 obtain ⟨vl,rfl,hr⟩:=hr
 refine Cl.o Tryz.func219 Tryz.ntmps219 ag2 ?_
 refine .aj (.bx hs fun b2 w hs=>?_)
 refine .z zg (.z zg (.zn zg (.aj (.y hs (zls [_,_] bM aV) (.z zm (.o (.call Tryz.call179 rfl (nK (s:=s) hs ⟨_,rfl,hr⟩ hrw) ?_)))))));rintro _ w ⟨H1,e,pf,hle1,rfl,hA,hs,hne,heq⟩
 refine .z zm (.z zex (.z zex (.z zg (.zn zg (.seq (.aj (.z zm (.zn hZ (.dZ rfl (fun hc16=>?_) (fun hc16=>?_))))))))))
 ·refine .aj (.z zm (.z zg (.z zg (.zn zg (.ret (rT (Fin.I2 Tryz.results219 rfl rfl rfl ?_)))))))
  exact ⟨H1,_,_,_,hle1,rfl,.first ⟨hA,fun _=>rfl,fun h=>(hc16 h).elim⟩ hc16,hs.tail⟩
 ·refine .skip (nT (.seq (.draw mix rfl hs fun w hs=>?_)))
  refine .ys 0 rfl hs [_,_] bM aV ?_;refine .z 1 rfl zm ?_
  refine .E 2 hs ?_
  subst hc16
  obtain ⟨bf,bt,bl,cl,ts,lf,vl',sp,rfl,hF,hFo,hok,hsz⟩:=heq rfl
  have hwl:=(wy hA.zero.1).2.1
  have hbw:∀k,-9223372036854775807≤gi ws k∧gi ws k≤9223372036854775807:=fun k=>by
   simp only [FF] at hsz
   by_cases hk:k<s.n
   ·have:=kj ws hk;omega
   ·have:gi ws k=0:=by simp [gi,List.getElem?_eq_none (show ws.length≤k by omega)]
    omega
  refine .call Tryz.call262 rfl (tj hs (hrw.mono hle1) (by have:=hok.m1;simp only [dp.n] at hwl;omega) hbw) ?_;rintro v21 w ⟨H2,hle2,hr21,hs⟩
  refine .go (.E 3 hs ?_)
  refine .call Tryz.call179 rfl (nK (s:=s) hs ⟨_,rfl,hr.mono (hle1.trans hle2)⟩ hr21) ?_;rintro _ w ⟨H3,e2,pg,hle3,rfl,hA2,hs,hne2,heq2⟩
  refine .go (.zw 4 rfl zm ?_);refine .z 5 rfl zex ?_;refine .z 6 rfl zex ?_;refine .z 7 rfl zg ?_;refine .z 8 rfl zg ?_;refine .D hs ?_
  refine .seq (.aj (.z zm (.zn hZ (.dZ rfl (fun hc26=>?_) (fun hc26=>?_)))))
  ·refine .aj (.z zm (.z zg (.z zg (.zn zg (.ret (rT (Fin.I2 Tryz.results219 rfl rfl rfl ?_)))))))
   obtain ⟨q1,q2,q3,q4⟩:=hFo.value (by simp [dp.n]) (by have:=hok.m0;have:=hok.m1;simp only [dp.n];omega) hok.dF hsz
   exact ⟨H3,_,_,_,hle1.trans (hle2.trans hle3),rfl,.second ⟨hA,fun h=>(h rfl).elim,fun _=>⟨q1,q3,q4⟩⟩ ⟨hA2,fun _=>rfl,fun h=>(hc26 h).elim⟩ hc26,hs.tail⟩
  ·refine .skip (nT (.aj (.z zm ?_)))
   subst hc26
   obtain ⟨bf2,bt2,bl2,cl2,ts2,lf2,vl2,sp2,rfl,hF2,hFo2,hok2,hsz2⟩:=heq2 rfl
   refine .o (.call Tryz.call263 rfl (kG hs hok hF2 hFo2 hsz2) ?_);rintro _ w ⟨rfl,a1,a2,a3,hs⟩
   simp only [BB] at a2 a3
   refine .z Ev (.z zm (.o (.call Tryz.call263 rfl (kG hs hok (hF.mono (hle2.trans hle3)) hFo hsz) ?_)));rintro _ w ⟨rfl,c1,c2,c3,hs⟩
   refine .z zg (.z zg (.zn zg (.ret (Fin.I2 Tryz.results219 rfl rfl rfl ?_))))
   exact ⟨H3,_,_,_,hle1.trans (hle2.trans hle3),rfl,.ok ⟨hA,fun h=>(h rfl).elim,fun _=>⟨c1,c2,c3⟩⟩ ⟨hA2,fun h=>(h rfl).elim,fun _=>⟨a1,by simp only [BB];omega,by simp only [BB];omega⟩⟩,hs.tail⟩
theorem EU{n m:Int}(hm:0<m):(n.tmod m+m).tmod m=n%m:=by
 have h2:=Int.lt_tmod_of_pos n hm
 rw [Int.tmod_eq_emod_of_nonneg ak,Int.tmod_def,show n - m*n.tdiv m+m=n+m*(1 - n.tdiv m) by rw [Int.mul_sub];omega,Int.add_mul_emod_self_left]
theorem vP{v:Value}{l:List Int}{i n:Int}(hs:St H w σ)(hr:RI H v l)(hi:0≤i)(hn:n≤4611686018427387904):Cl Tryz.prog 209 [v,I i,I n] w fun v w'=>v=I (rk l i n)∧St H w' σ:=by
 obtain ⟨a,c,rfl⟩:=RI.shape hr
 have hlen:=(RI.len hr).2.2
 refine Cl.o Tryz.func209 Tryz.ntmps209 ag3 ?_
 refine .aj (.zn zg (.seq (.aj (.z zm (.z (da af) (.z fF (.z zm (.ie (t':=10) rfl (fun hb10=>?_) (fun hb10=>?_)))))))))
 ·refine .Fs 2 3 false (.zn zpT (.cT (.aj (.zn zg (.ret (rT (Fin.bq Tryz.results209 rfl ?_)))))))
  exact ⟨by rw [show rk l i n=0 by unfold rk;rw [if_pos (.inl (List.length_eq_zero_iff.1 ak))]],hs⟩
 ·refine .T (.z zm (.T (.z fV (.zn zpF (.bn rfl (fun hc13=>?_) (fun hc13=>?_))))))
  ·refine .aj (.zn zg (.ret (rT (Fin.bq Tryz.results209 rfl ?_))))
   exact ⟨by rw [show rk l i n=0 by unfold rk;rw [if_pos (.inr ak)]],hs⟩
  ·refine .skip (nT (.aj (.z zm (.z zm (.z zm (.z (da af) ?_))))))
   have hl0:0<l.length:=by omega
   have h1:=Int.tmod_nonneg (a:=i) (l.length:Int) hi
   have h2:=Int.tmod_lt_of_pos i (b:=(l.length:Int)) ak
   have hx:=bJ (l:=l) (i:=(i.tmod (l.length:Int)).toNat) ak
   have h3:=Int.tmod_lt_of_pos (gi l (i.tmod (l.length:Int)).toNat) (b:=n) ak
   have h4:=Int.lt_tmod_of_pos (gi l (i.tmod (l.length:Int)).toNat) (b:=n) ak
   have e:=EU (n:=gi l (i.tmod (l.length:Int)).toNat) (m:=n) ak
   refine .z Ag (.ixY hs hr rfl rfl af ai hx ak ?_);intro b19 o19 hc19
   refine .q hs (aP rfl ae hc19) (.z zm (.z Ag (.z zm (.z cu (.z zm (.z Ag (.zn zg (.ret (Fin.bq Tryz.results209 rfl ?_)))))))))
   exact ⟨by unfold rk;rw [if_neg (fun h=>h.elim (fun h=>by rw [h] at hl0;exact Nat.lt_irrefl _ hl0) (fun h=>by omega)),←e],hs⟩
def xO(i j:Nat):Int:=if i=j then 0 else free
theorem Gq{n:Nat}(es:List Arc){T:Nat→Nat→Int}(h:∀i j,i<n→j<n→T i j=xO i j):Hf n es 0 T:=
 ⟨fun i hi=>by rw [h i i hi hi];simp [xO],fun _ _ h=>by omega,fun i j hi hj hij=> .inl (by rw [h i j hi hj];simp [xO,hij])⟩
set_option maxHeartbeats 4000000 in
theorem vN{v:Value}{s:dp}(hs:St H w σ)(hr:RSy H v s)(hok:s.Ok):
  Cl Tryz.prog 207 [v] w fun u w'=>∃H1 rs,HLe H H1∧RT H1 u rs∧Sq s.n rs∧l8 s.n s.dF (gt rs)∧St H1 w' σ:=by
 obtain ⟨ul,rfl,hl⟩:=hr
 obtain ⟨al,cl,rfl⟩:=RL.shape hl
 have hm0:=hok.m0
 have hm1:=hok.m1
 have hlen:=hok.len
 have hnp:=s.Dt
 have hn65:=hok.n65
 have hinn:=hok.inn
 have hmn:s.many+1=(s.n:Int):=by simp only [dp.n];omega
 generalize hn:s.n=n at hnp hn65 hinn hmn ⊢
 refine Cl.o Tryz.func207 Tryz.ntmps207 ag1 ?_
 refine .aj (.bx hs fun b1 w hs=>?_)
 refine .zn zg (.aj (.z (zfa cM) ?_))
 first|refine .q hs (gY rfl ae (hm:=by repeat (first|exact .here|assumption|exact Mem.row ak ak|refine .there ?_|refine Mem.wz ?_)) (hv:=by first|rfl|exact gC ak|exact mK fp ak ak|exact jx mH)) ?_|refine .q hs (aP rfl ae fp) ?_
 refine .z cu ?_
 rw [hmn]
 refine .zn zg (.aj (.z zm (.o (.Ik n hs rfl rfl az Tryz.typeInfo34 rfl aB ep ak fun b16 w hs=>?_))))
 refine .zn zg (.seq (.aj (.z zm (.z (da az) (.zn zm (.for (N:=n) (J:=fun k fr w=>fr=[(3,I (n:Int)),(4,.slice (some ⟨b16,0,none⟩) n n),(1,Pt b1)]∧∃bs:List Nat,bs.length=k∧St H w (.blk b16 (bs.map (ptr n)++List.replicate (n - k) (.slice none 0 0))::(mB bs (CC xO n k)++(.blk b1 [I s.many,.slice al s.cO.length cl]::σ)))) ak ?_ ?_ ?_))))))
 ·exact .mk ⟨rfl,[],rfl,hs⟩
 ·rintro k fr w hk ⟨rfl,bs,hbl,hs⟩
  refine .block (.aj (.z zm (.zn zg (.aj (.z zm (.z zm (.z zm (.o (.wT n hs rfl rfl af gV rfl ai cq ak fun b25 w hs=>?_)))))))))
  first|(refine .ixw hs az aB ?_;intro b26 o26 hc26)|refine .z (zix az aB) ?_
  refine .o (.store hs rfl rfl aB ?_ dz (by simp [hbl];omega) (GK hbl hk));intro w hs
  refine .nil (.aj (.z zm (.z zm ?_)))
  first|(refine .ixw hs az aB ?_;intro b29 o29 hc29)|refine .z (zix az aB) ?_
  refine .q hs (gY rfl an (hv:=Bm hbl)) (.z (da af) (.zn zm (.for (N:=n) (J:=fun j fr w=>fr=[(5,I (k:Int)),(19,I (k:Int)),(18,I (n:Int)),(3,I (n:Int)),(4,.slice (some ⟨b16,0,none⟩) n n),(1,Pt b1)]∧St H w (.blk b25 (Is ((List.range n).map fun c=>if c<j∧k≠c then free else 0)):: .blk b16 ((bs++[b25]).map (ptr n)++List.replicate (n - (k+1)) (.slice none 0 0))::(mB bs (CC xO n k)++(.blk b1 [I s.many,.slice al s.cO.length cl]::σ)))) ak ?_ ?_ ?_)))
  ·rw [AB (fun c=>if c<0∧k≠c then free else 0) n 0 (fun j _=>by simp)] at hs
   exact .mk ⟨rfl,hs⟩
  ·rintro j fr w hj ⟨rfl,hs⟩
   refine .block (.aj (.z zm (.zn zg (.aj (.z zm (.z zm (.zn hZ (.dZ rfl (fun hc37=>?_) (fun hc37=>?_)))))))))
   ·refine .region (.z zm (.z zm ?_))
    first|(refine .ixw hs az aB ?_;intro b40 o40 hc40)|refine .z (zix az aB) ?_
    refine .q hs (gY rfl an (hv:=Bm hbl)) (.z zm ?_)
    first|(refine .ixv hs af ai ?_;intro b43 o43 hc43)|refine .z (zix af ai) ?_
    refine .o (.store hs rfl rfl ai ?_ dz (BP (by simp;omega)) (Aa _ _ _));intro w hs
    refine .nil (nB (nT ?_))
    rw [C8 _ (fun c=>if c<j+1∧k≠c then free else 0) hj 1000000000 (fun c _=>by
     by_cases e:c=j
     ·subst e;rw [if_pos rfl,if_pos ⟨ak,ak⟩]
     ·rw [if_neg e];congr 1;apply propext;omega)] at hs
    exact .mk ⟨rfl,hs⟩
   ·refine .skip (nB (nT ?_))
    rw [vR (g:=fun c=>if c<j+1∧k≠c then free else 0) (fun c _=>by
     by_cases e:c=j
     ·subst e;rw [if_neg ak,if_neg ak]
     ·congr 1;apply propext;omega)] at hs
    exact .mk ⟨rfl,hs⟩
  ·rintro fr w ⟨rfl,hs⟩
   rw [vR (g:=xO k) (fun c hc=>by
    unfold xO
    by_cases e:k=c
    ·rw [if_neg ak,if_pos e]
    ·rw [if_pos ⟨hc,e⟩,if_neg e])] at hs
   replace hs:=hs.I1 (by rw [hbl,As])
   rw [←CT] at hs
   refine nB (nT ?_)
   exact .mk ⟨rfl,bs++[b25],by simp [hbl],hs⟩
 ·rintro fr w ⟨rfl,bs,hbl,hs⟩
  rw [Nat.sub_self,List.replicate_zero,List.append_nil] at hs
  refine nT (.seq (.aj (.z (zfa cA) ?_)))
  first|refine .q hs (gY rfl dr (hm:=by repeat (first|exact .here|assumption|exact Mem.row ak ak|refine .there ?_|refine Mem.wz ?_)) (hv:=by first|rfl|exact gC ak|exact mK fp ak ak|exact jx mH)) ?_|refine .q hs (aP rfl dr fp) ?_
  refine .z (da aJ) (.zn zm (.for (N:=s.cO.length) (J:=fun k fr w=>fr=[(47,.slice al s.cO.length cl),(4,.slice (some ⟨b16,0,none⟩) n n)]∧∃rs,Sq n rs∧Hf n s.dF k (gt rs)∧St H w (.blk b16 (bs.map (ptr n))::(mB bs rs++(.blk b1 [I s.many,.slice al s.cO.length cl]::σ)))) ak ?_ ?_ ?_))
  ·exact .mk ⟨rfl,_,Gv xO n,Gq s.dF (fun i j hi hj=>Gw xO hi hj),hs⟩
  ·rintro k fr w hk ⟨rfl,rs,hq,hB,hs⟩
   obtain ⟨x,hx⟩:=nth (l:=s.cO) hk
   have hrl:=hq.1
   obtain ⟨⟨xa0,xa1⟩,⟨xb0,xb1⟩,xne,xM,-⟩:=hok.lim x (List.mem_of_getElem? hx)
   have ha:x.A.toNat<n:=by omega
   have hb:x.B.toNat<n:=by omega
   have hga:=lE hx
   refine .block (.aj (.ixX (enc:=Lim.c) hs hl rfl rfl aJ bg hx rfl ?_));intro b51 o51 hc51
   refine .q hs (bQ (vs:=x.c) rfl fw bg hc51) (.o (.alloc hs eD rfl fun b8 w hs=>?_))
   refine .o (.aU (vs:=x.c) hs rfl rfl bg fun w hs=>?_)
   refine .nil (.draw mix rfl hs fun w hs=>?_)
   refine .zw 0 rfl zm ?_;refine .z 1 rfl (zfa dA) ?_
   first|refine .load (i:=2) hs rfl aH .none rfl ae ?_ (by repeat (first|exact .here|assumption|exact Mem.row ak ak|refine .there ?_|refine Mem.wz ?_)) (by first|rfl|exact gC ak|exact mK fp ak ak|exact jx mH)|refine .r (i:=2) hs rfl aH .none (aP rfl ae fp) ?_
   refine .zw 3 rfl (iI (k:=x.A.toNat) rfl rfl az aB ak ha) ?_
   first|refine .load (i:=4) hs rfl aH .none rfl an ?_ (by repeat (first|exact .here|assumption|exact Mem.row ak ak|refine .there ?_|refine Mem.wz ?_)) (by first|rfl|exact gC ak|exact mK fp ak ak|exact jx mH)|refine .r (i:=4) hs rfl aH .none (aP rfl an fp) ?_
   refine .zw 5 rfl (zfa dH) ?_
   first|refine .load (i:=6) hs rfl aH .none rfl ae ?_ (by repeat (first|exact .here|assumption|exact Mem.row ak ak|refine .there ?_|refine Mem.wz ?_)) (by first|rfl|exact gC ak|exact mK fp ak ak|exact jx mH)|refine .r (i:=6) hs rfl aH .none (aP rfl ae fp) ?_
   refine .zw 7 rfl zm ?_;refine .z 8 rfl (zfa dA) ?_
   first|refine .load (i:=9) hs rfl aH .none rfl ae ?_ (by repeat (first|exact .here|assumption|exact Mem.row ak ak|refine .there ?_|refine Mem.wz ?_)) (by first|rfl|exact gC ak|exact mK fp ak ak|exact jx mH)|refine .r (i:=9) hs rfl aH .none (aP rfl ae fp) ?_
   refine .zw 10 rfl (iI (k:=x.A.toNat) rfl rfl az aB ak ha) ?_
   first|refine .load (i:=11) hs rfl aH .none rfl an ?_ (by repeat (first|exact .here|assumption|exact Mem.row ak ak|refine .there ?_|refine Mem.wz ?_)) (by first|rfl|exact gC ak|exact mK fp ak ak|exact jx mH)|refine .r (i:=11) hs rfl aH .none (aP rfl an fp) ?_
   refine .zw 12 rfl (zfa dH) ?_
   first|refine .load (i:=13) hs rfl aH .none rfl ae ?_ (by repeat (first|exact .here|assumption|exact Mem.row ak ak|refine .there ?_|refine Mem.wz ?_)) (by first|rfl|exact gC ak|exact mK fp ak ak|exact jx mH)|refine .r (i:=13) hs rfl aH .none (aP rfl ae fp) ?_
   refine .zw 14 rfl (iI (k:=x.B.toNat) rfl rfl af ai ak hb) ?_
   first|refine .load (i:=15) hs rfl aH .none rfl ae ?_ (by repeat (first|exact .here|assumption|exact Mem.row ak ak|refine .there ?_|refine Mem.wz ?_)) (by first|rfl|exact gC ak|exact mK fp ak ak|exact jx mH)|refine .r (i:=15) hs rfl aH .none (aP rfl ae fp) ?_
   refine .zw 16 rfl (zfa eG) ?_
   first|refine .load (i:=17) hs rfl aH .none rfl ae ?_ (by repeat (first|exact .here|assumption|exact Mem.row ak ak|refine .there ?_|refine Mem.wz ?_)) (by first|rfl|exact gC ak|exact mK fp ak ak|exact jx mH)|refine .r (i:=17) hs rfl aH .none (aP rfl ae fp) ?_
   refine .zw 18 rfl Al (.zw 19 rfl (iI (k:=x.B.toNat) rfl rfl af ai ak hb) (.ET 20 hs ?_))
   refine .store hs rfl rfl ai ?_ (.there (.there (Upd.row _ ak ak))) (BP (by rw [hq.2 _ ha];exact hb)) (Aa _ _ _);intro w hs
   refine .go (.DT hs (nB (nT ?_)))
   exact .mk ⟨rfl,_,hq.set ha _,by rw [Gg hq ha hb];exact hB.step hinn hga,hs.tail⟩
  ·rintro fr w ⟨rfl,rs,hq,hB,hs⟩
   rw [←fG] at hB
   have hI:=hB.go hinn hnp
   have hcb:∀x∈s.dF,-20000≤x.c∧x.c≤20000:=fun x hx=>by have:=hinn x hx;omega
   refine nT (.seq (.aj (.z zm (.z (da az) (.zn zm (.for (N:=n) (J:=fun m fr w=>fr=[(4,.slice (some ⟨b16,0,none⟩) n n)]∧∃rs,Sq n rs∧(m<n→yX n s.dF m (fun _ _=>False) (gt rs))∧(m=n→l8 n s.dF (gt rs))∧St H w (.blk b16 (bs.map (ptr n))::(mB bs rs++(.blk b1 [I s.many,.slice al s.cO.length cl]::σ)))) ak ?_ ?_ ?_))))))
   ·exact .mk ⟨rfl,rs,hq,fun _=>hI,fun e=>by omega,hs⟩
   ·clear hI hB hq
    rintro m fr w hm ⟨rfl,rs,hq,hI,-,hs⟩
    replace hI:=hI hm
    refine .block (.aj (.z zm (.zn zg (.aj (.z zm (.z (da az) (.zn zm (.for (N:=n) (J:=fun i fr w=>fr=[(9,I (m:Int)),(76,I (m:Int)),(75,I (n:Int)),(4,.slice (some ⟨b16,0,none⟩) n n)]∧∃rs,Sq n rs∧yX n s.dF m (fun a _=>a<i) (gt rs)∧St H w (.blk b16 (bs.map (ptr n))::(mB bs rs++(.blk b1 [I s.many,.slice al s.cO.length cl]::σ)))) ak ?_ ?_ ?_))))))))
    ·exact .mk ⟨rfl,rs,hq,hI.skip hcb hm (P:=fun _ _=>False) (fun i j h=>by omega) (fun _ _ _ _ h=>h.elim),hs⟩
    ·clear hI hq
     rintro i fr w hi ⟨rfl,rs,hq,hI,hs⟩
     refine .block (.aj (.z zm (.zn zg (.aj (.z zm (.z (da az) (.zn zm (.for (N:=n) (J:=fun k fr w=>fr=[(10,I (i:Int)),(81,I (i:Int)),(80,I (n:Int)),(9,I (m:Int)),(76,I (m:Int)),(75,I (n:Int)),(4,.slice (some ⟨b16,0,none⟩) n n)]∧∃rs,Sq n rs∧yX n s.dF m (fun a b=>a<i∨(a=i∧b<k)) (gt rs)∧St H w (.blk b16 (bs.map (ptr n))::(mB bs rs++(.blk b1 [I s.many,.slice al s.cO.length cl]::σ)))) ak ?_ ?_ ?_))))))))
     ·exact .mk ⟨rfl,rs,hq,hI.skip hcb hm (P:=fun _ _=>False) (fun a b h=>by omega) (fun _ _ _ _ h=>h.elim),hs⟩
     ·clear hI hq
      rintro k fr w hk ⟨rfl,rs,hq,hI,hs⟩
      have hrl:=hq.1
      have c1:=hI.cl i m hi hm;have c2:=hI.cl m k hm hk
      have u1:=hI.up i m hi hm;have u2:=hI.up m k hm hk
      refine .block (.aj (.z zm (.zn zg (.aj (.z zm (.z zm ?_))))))
      first|(refine .ixw hs az aB ?_;intro b91 o91 hc91)|refine .z (zix az aB) ?_
      first|refine .q hs (gY rfl an (hm:=by repeat (first|exact .here|assumption|exact Mem.row ak ak|refine .there ?_|refine Mem.wz ?_)) (hv:=by first|rfl|exact gC ak|exact mK fp ak ak|exact jx mH)) ?_|refine .q hs (aP rfl an fp) ?_
      refine .z zm ?_
      first|(refine .ixv hs af ai ?_;intro b94 o94 hc94)|refine .z (zix af ai) ?_
      first|refine .q hs (gY rfl ae (hm:=by repeat (first|exact .here|assumption|exact Mem.row ak ak|refine .there ?_|refine Mem.wz ?_)) (hv:=by first|rfl|exact gC ak|exact mK fp ak ak|exact jx mH)) ?_|refine .q hs (aP rfl ae fp) ?_
      refine .z hZ (.z zm (.CE (t':=97) rfl (fun hb97=>?_) (fun hb97=>?_)))
      ·refine .T (.z zm (.T (.z zm (.T ?_))))
       first|(refine .ixw hs az aB ?_;intro b100 o100 hc100)|refine .z (zix az aB) ?_
       refine .T ?_
       first|refine .q hs (gY rfl an (hm:=by repeat (first|exact .here|assumption|exact Mem.row ak ak|refine .there ?_|refine Mem.wz ?_)) (hv:=by first|rfl|exact gC ak|exact mK fp ak ak|exact jx mH)) ?_|refine .q hs (aP rfl an fp) ?_
       refine .T (.z zm (.T ?_))
       first|(refine .ixv hs af ai ?_;intro b103 o103 hc103)|refine .z (zix af ai) ?_
       refine .T ?_
       first|refine .q hs (gY rfl ae (hm:=by repeat (first|exact .here|assumption|exact Mem.row ak ak|refine .there ?_|refine Mem.wz ?_)) (hv:=by first|rfl|exact gC ak|exact mK fp ak ak|exact jx mH)) ?_|refine .q hs (aP rfl ae fp) ?_
       refine .T (.z hZ (.zn zpT (.dZ rfl (fun hc106=>?_) (fun hc106=>?_))))
       ·refine .draw mix rfl hs fun w hs=>?_
        replace u1:=u1 hb97;replace u2:=u2 hc106
        refine .zw 0 rfl zm ?_;refine .z 1 rfl zm ?_
        first|(refine .ixw 2 rfl hs az aB ?_;intro b109 o109 hc109)|refine .z 2 rfl (zix az aB) ?_
        first|refine .load (i:=3) hs rfl aH .none rfl an ?_ (by repeat (first|exact .here|assumption|exact Mem.row ak ak|refine .there ?_|refine Mem.wz ?_)) (by first|rfl|exact gC ak|exact mK fp ak ak|exact jx mH)|refine .r (i:=3) hs rfl aH .none (aP rfl an fp) ?_
        refine .zw 4 rfl zm ?_;refine .z 5 rfl zm ?_;refine .z 6 rfl zm ?_
        first|(refine .ixw 7 rfl hs az aB ?_;intro b114 o114 hc114)|refine .z 7 rfl (zix az aB) ?_
        first|refine .load (i:=8) hs rfl aH .none rfl an ?_ (by repeat (first|exact .here|assumption|exact Mem.row ak ak|refine .there ?_|refine Mem.wz ?_)) (by first|rfl|exact gC ak|exact mK fp ak ak|exact jx mH)|refine .r (i:=8) hs rfl aH .none (aP rfl an fp) ?_
        refine .zw 9 rfl zm ?_
        first|(refine .ixv 10 rfl hs af ai ?_;intro b117 o117 hc117)|refine .z 10 rfl (zix af ai) ?_
        first|refine .load (i:=11) hs rfl aH .none rfl ae ?_ (by repeat (first|exact .here|assumption|exact Mem.row ak ak|refine .there ?_|refine Mem.wz ?_)) (by first|rfl|exact gC ak|exact mK fp ak ak|exact jx mH)|refine .r (i:=11) hs rfl aH .none (aP rfl ae fp) ?_
        refine .zw 12 rfl zm ?_;refine .z 13 rfl zm ?_
        first|(refine .ixw 14 rfl hs az aB ?_;intro b121 o121 hc121)|refine .z 14 rfl (zix az aB) ?_
        first|refine .load (i:=15) hs rfl aH .none rfl an ?_ (by repeat (first|exact .here|assumption|exact Mem.row ak ak|refine .there ?_|refine Mem.wz ?_)) (by first|rfl|exact gC ak|exact mK fp ak ak|exact jx mH)|refine .r (i:=15) hs rfl aH .none (aP rfl an fp) ?_
        refine .zw 16 rfl zm ?_
        first|(refine .ixv 17 rfl hs af ai ?_;intro b124 o124 hc124)|refine .z 17 rfl (zix af ai) ?_
        first|refine .load (i:=18) hs rfl aH .none rfl ae ?_ (by repeat (first|exact .here|assumption|exact Mem.row ak ak|refine .there ?_|refine Mem.wz ?_)) (by first|rfl|exact gC ak|exact mK fp ak ak|exact jx mH)|refine .r (i:=18) hs rfl aH .none (aP rfl ae fp) ?_
        refine .zw 19 rfl zm ?_;refine .z 20 rfl zm ?_
        first|(refine .ixw 21 rfl hs az aB ?_;intro b128 o128 hc128)|refine .z 21 rfl (zix az aB) ?_
        first|refine .load (i:=22) hs rfl aH .none rfl an ?_ (by repeat (first|exact .here|assumption|exact Mem.row ak ak|refine .there ?_|refine Mem.wz ?_)) (by first|rfl|exact gC ak|exact mK fp ak ak|exact jx mH)|refine .r (i:=22) hs rfl aH .none (aP rfl an fp) ?_
        refine .zw 23 rfl zm ?_
        first|(refine .ixv 24 rfl hs af ai ?_;intro b131 o131 hc131)|refine .z 24 rfl (zix af ai) ?_
        first|refine .load (i:=25) hs rfl aH .none rfl ae ?_ (by repeat (first|exact .here|assumption|exact Mem.row ak ak|refine .there ?_|refine Mem.wz ?_)) (by first|rfl|exact gC ak|exact mK fp ak ak|exact jx mH)|refine .r (i:=25) hs rfl aH .none (aP rfl ae fp) ?_
        refine .zw 26 rfl cu ?_;refine .z 27 rfl Al ?_;refine .z 28 rfl Bb ?_
        first|(refine .ixv 29 rfl hs af ai ?_;intro b136 o136 hc136)|refine .z 29 rfl (zix af ai) ?_
        refine .ET 30 hs ?_
        refine .store hs rfl rfl ai ?_ (.there (Upd.row _ ak ak)) (BP (by rw [hq.2 _ hi];exact hk)) (Aa _ _ _);intro w hs
        refine .go (.DT hs (nB (nT ?_)))
        exact .mk ⟨rfl,_,hq.set hi _,by rw [Gg hq hi hk];exact hI.step hcb hm hi hk (fun a b h=>by omega) hb97 hc106,hs⟩
       ·refine .skip (nB (nT ?_))
        exact .mk ⟨rfl,rs,hq,hI.skip hcb hm (P:=fun a b=>a=i∧b=k) (fun a b h=>by omega) (fun a b _ _ h=>by obtain ⟨rfl,rfl⟩:=h;exact .inr hc106),hs⟩
      ·refine .Fs 8 8 true (.zn zpF (.cF (.skip (nB (nT ?_)))))
       exact .mk ⟨rfl,rs,hq,hI.skip hcb hm (P:=fun a b=>a=i∧b=k) (fun a b h=>by omega) (fun a b _ _ h=>by obtain ⟨rfl,rfl⟩:=h;exact .inl hb97),hs⟩
     ·rintro fr w ⟨rfl,rs,hq,hI,hs⟩
      refine nB (nT ?_)
      exact .mk ⟨rfl,rs,hq,hI.skip hcb hm (P:=fun a b=>a=i∧n≤b) (fun a b h=>by omega) (fun a b _ hb h=>by omega),hs⟩
    ·rintro fr w ⟨rfl,rs,hq,hI,hs⟩
     replace hI:yX n s.dF m (fun _ _=>True) (gt rs):=hI.skip hcb hm (P:=fun a _=>n≤a) (fun a b h=>by omega) (fun a b ha _ h=>by omega)
     refine nB (nT ?_)
     exact .mk ⟨rfl,rs,hq,fun h=>hI.next hcb h hn65,fun h=>hI.done hcb h.symm hn65,hs⟩
   ·rintro fr w ⟨rfl,rs,hq,-,hT,hs⟩
    replace hT:=hT rfl
    refine nT (.aj (.z zm (.zn zg (.ret (Fin.bq Tryz.results207 rfl ?_)))))
    obtain ⟨H1,g1,g2,hs⟩:=xY hq hbl ak hs
    exact ⟨H1,rs,g1,g2,hq,hT,hs.tail⟩
theorem ub{vm:Value}{rs:List (List Int)}{n:Nat}(hs:St H w σ)(hM:RT H vm rs)(hq:Sq n rs)(hn:n≤1000):
  Cl Tryz.prog 208 [vm] w fun v w'=>∃b,v= .bool b∧(b=true↔∀i,i<n→¬gt rs i i<0)∧St H w' σ:=by
 obtain ⟨a,c,rfl⟩:=hM.shape
 have hrl:=hq.1
 refine Cl.o Tryz.func208 Tryz.ntmps208 ag1 ?_
 refine .aj (.zn zg (.seq (.aj (.z zm (.z (da az) (.zn zm (.for (N:=rs.length) (J:=fun k fr w=>fr=[(0,.slice a rs.length c)]∧(∀i,i<k→¬gt rs i i<0)∧St H w σ) ak ?_ ?_ ?_)))))))
 ·exact .mk ⟨rfl,fun i h=>by omega,hs⟩
 ·rintro k fr w hk ⟨rfl,h0,hs⟩
  refine .block (.aj (.z zm (.zn zg (.aj (.z zm (.z zm (.ixT hs hM rfl rfl az aB hk rfl ?_)))))));intro b11 o11 a11 c11 hc11 hR11
  refine .q hs (aP rfl an hc11) (.z zm (.ixY hs hR11 rfl rfl af ai (bJ (l:=gr rs k) (i:=k) (by rw [hq.2 k ak];omega)) rfl ?_));intro b14 o14 hc14
  refine .q hs (aP rfl ae hc14) (.zn fV (.bn rfl (fun hc16=>?_) (fun hc16=>?_)))
  ·refine .aj (.zn zg (.ret (rB (rT (rB (rT (Fin.bq Tryz.results208 rfl ?_)))))))
   exact ⟨false,rfl,⟨fun h=>(by cases h),fun h=>(h k ak hc16).elim⟩,hs⟩
  ·refine .skip (nB (nT ?_))
   exact .mk ⟨rfl,fun i hi=>by
    by_cases e:i=k
    ·subst e;exact hc16
    ·exact h0 i ak,hs⟩
 ·rintro fr w ⟨rfl,h0,hs⟩
  refine nT (.aj (.zn zg (.ret (Fin.bq Tryz.results208 rfl ?_))))
  exact ⟨true,rfl,⟨fun _ i hi=>h0 i ak,fun _=>rfl⟩,hs⟩
theorem jG{p:Prop}[Decidable p]:(!decide p)=true↔¬p:=by simp
theorem iQ{p:Prop}[Decidable p]:(!decide p)=false↔p:=by simp
theorem fJ{a0 a1 a2:Int}(hs:St H w σ):Cl Tryz.prog 253 [I a0,I a1,I a2] w fun v w'=>v= .bool (decide (a1≤a0∧a0≤a2))∧St H w' σ:=by
 refine Cl.o Tryz.func253 Tryz.ntmps253 ag3 ?_
 refine .aj (.zn zg (.aj (.z zm (.z zm (.z nb (.z zm (.ie (t':=10) rfl (fun hb10=>?_) (fun hb10=>?_))))))))
 ·refine .T (.z zm (.T (.z zm (.T (.z nb (.z zpT (.zn zg (.ret (Fin.bq Tryz.results253 rfl ?_)))))))))
  exact ⟨by simp [*],hs.out⟩
 ·refine .Fs 3 3 true (.z zpF (.zn zg (.ret (Fin.bq Tryz.results253 rfl ?_))))
  exact ⟨by simp [*],hs.out⟩
theorem oI{many:Int}{l:Lim}(hs:St H w σ):Cl Tryz.prog 256 [I many,.agg l.c.toArray] w fun v w'=>v=I (if decide (0≤many∧many≤64)&&l.ok many then 0 else 20)∧St H w' σ:=by
 refine Cl.o Tryz.func256 Tryz.ntmps256 ag2 ?_
 refine .aj (.bx hs fun b3 w hs=>?_)
 refine .zn zg (.seq (.aj (.z zm (.o (.call Cx rfl (fJ hs) ?_)))));rintro _ w ⟨rfl,hs⟩
 refine .z fI (.z zm (.bif (t':=8) rfl (fun hb8=>?_) (fun hb8=>?_)))
 ·refine .Fs 5 3 false (.z zpT (.z zm (.Fs 5 10 false (.z zpT (.z zm (.Fs 5 17 false (.z zpT (.z zm (.Fs 4 24 false (.z zpT (.z zm (.Fs 4 30 false (.zn zpT (.cT (.aj (.zn zg (.ret (rT (Fin.bq nM rfl ?_)))))))))))))))))))
  (try simp only [jG] at*)
  (try simp only [iQ] at*)
  refine ⟨congrArg I ?_,hs.out⟩
  unfold Lim.ok
  first
   |(rw [if_pos (by simp only [Bool.and_eq_true,decide_eq_true_eq];omega)];done)
   |(rw [if_neg (by simp only [Bool.and_eq_true,decide_eq_true_eq];omega)];done)
 ·refine .T (.z (zfa dA) (.T (.y hs (zld ae) (.T (.z zm (.T (.o (.call Cx rfl (fJ hs) ?_))))))));rintro _ w ⟨rfl,hs⟩
  refine .T (.z fI (.z zpF (.z zm (.bif (t':=15) rfl (fun hb15=>?_) (fun hb15=>?_)))))
  ·refine .Fs 5 10 false (.z zpT (.z zm (.Fs 5 17 false (.z zpT (.z zm (.Fs 4 24 false (.z zpT (.z zm (.Fs 4 30 false (.zn zpT (.cT (.aj (.zn zg (.ret (rT (Fin.bq nM rfl ?_))))))))))))))))
   (try simp only [jG] at*)
   (try simp only [iQ] at*)
   refine ⟨congrArg I ?_,hs.out⟩
   unfold Lim.ok
   first
    |(rw [if_pos (by simp only [Bool.and_eq_true,decide_eq_true_eq];omega)];done)
    |(rw [if_neg (by simp only [Bool.and_eq_true,decide_eq_true_eq];omega)];done)
  ·refine .T (.z (zfa dH) (.T (.y hs (zld ae) (.T (.z zm (.T (.o (.call Cx rfl (fJ hs) ?_))))))));rintro _ w ⟨rfl,hs⟩
   refine .T (.z fI (.z zpF (.z zm (.bif (t':=22) rfl (fun hb22=>?_) (fun hb22=>?_)))))
   ·refine .Fs 5 17 false (.z zpT (.z zm (.Fs 4 24 false (.z zpT (.z zm (.Fs 4 30 false (.zn zpT (.cT (.aj (.zn zg (.ret (rT (Fin.bq nM rfl ?_)))))))))))))
    (try simp only [jG] at*)
    (try simp only [iQ] at*)
    refine ⟨congrArg I ?_,hs.out⟩
    unfold Lim.ok
    first
     |(rw [if_pos (by simp only [Bool.and_eq_true,decide_eq_true_eq];omega)];done)
     |(rw [if_neg (by simp only [Bool.and_eq_true,decide_eq_true_eq];omega)];done)
   ·refine .T (.z (zfa dA) (.T (.y hs (zld ae) (.T (.z (zfa dH) (.T (.y hs (zld ae) (.T (.z fF (.z zpF (.z zm (.ie (t':=29) rfl (fun hb29=>?_) (fun hb29=>?_)))))))))))))
    ·refine .Fs 4 24 false (.z zpT (.z zm (.Fs 4 30 false (.zn zpT (.cT (.aj (.zn zg (.ret (rT (Fin.bq nM rfl ?_))))))))))
     (try simp only [jG] at*)
     (try simp only [iQ] at*)
     refine ⟨congrArg I ?_,hs.out⟩
     unfold Lim.ok
     first
      |(rw [if_pos (by simp only [Bool.and_eq_true,decide_eq_true_eq];omega)];done)
      |(rw [if_neg (by simp only [Bool.and_eq_true,decide_eq_true_eq];omega)];done)
    ·refine .T (.z (zfa eG) (.T (.y hs (zld ae) (.T (.o (.call Cx rfl (fJ hs) ?_))))));rintro _ w ⟨rfl,hs⟩
     refine .T (.z fI (.z zpF (.z zm (.bif (t':=35) rfl (fun hb35=>?_) (fun hb35=>?_)))))
     ·refine .Fs 4 30 false (.zn zpT (.cT (.aj (.zn zg (.ret (rT (Fin.bq nM rfl ?_)))))))
      (try simp only [jG] at*)
      (try simp only [iQ] at*)
      refine ⟨congrArg I ?_,hs.out⟩
      unfold Lim.ok
      first
       |(rw [if_pos (by simp only [Bool.and_eq_true,decide_eq_true_eq];omega)];done)
       |(rw [if_neg (by simp only [Bool.and_eq_true,decide_eq_true_eq];omega)];done)
     ·refine .T (.z (zfa km) (.T (.y hs (zld ae) (.T (.o (.call Cx rfl (fJ hs) ?_))))));rintro _ w ⟨rfl,hs⟩
      refine .T (.z fI (.zn zpF (.cond rfl (fun hc40=>?_) (fun hc40=>?_))))
      ·refine .aj (.zn zg (.ret (rT (Fin.bq nM rfl ?_))))
       (try simp only [jG] at*)
       (try simp only [iQ] at*)
       refine ⟨congrArg I ?_,hs.out⟩
       unfold Lim.ok
       first
        |(rw [if_pos (by simp only [Bool.and_eq_true,decide_eq_true_eq];omega)];done)
        |(rw [if_neg (by simp only [Bool.and_eq_true,decide_eq_true_eq];omega)];done)
      ·refine .skip (nT (.aj (.zn zg (.ret (Fin.bq nM rfl ?_)))))
       (try simp only [jG] at*)
       (try simp only [iQ] at*)
       refine ⟨congrArg I ?_,hs.out⟩
       unfold Lim.ok
       first
        |(rw [if_pos (by simp only [Bool.and_eq_true,decide_eq_true_eq];omega)];done)
        |(rw [if_neg (by simp only [Bool.and_eq_true,decide_eq_true_eq];omega)];done)
theorem ud{v:Value}{s:dp}(hs:St H w σ)(hr:RSy H v s):Cl Tryz.prog 206 [v] w fun v w'=>v=I s.check∧St H w' σ:=by
 obtain ⟨u,rfl,hr⟩:=hr
 obtain ⟨a,c,rfl⟩:=RL.shape hr
 have hlen:=(RS.len (RS.I3 hr (Nat.le_refl _) (cap':=s.cO.length))).2.2
 refine Cl.o Tryz.func206 Tryz.ntmps206 ag1 ?_
 refine .aj (.bx hs fun b1 w hs=>?_)
 refine .zn zg (.seq (.aj (.z (zfa cM) (.y hs (zld ae) (.o (.call Cx rfl (fJ hs) ?_))))));rintro _ w ⟨rfl,hs⟩
 refine .zn fI (.cond rfl (fun hc8=>?_) (fun hc8=>?_))
 ·refine .aj (.zn zg (.ret (rT (Fin.bq Tryz.results206 rfl ?_))))
  exact ⟨congrArg I (by unfold dp.check;rw [if_pos (by simp at hc8;omega)]),hs.out⟩
 ·refine .skip (nT (.seq (.aj (.z (zfa cA) (.y hs (zld dr) (.z (da aJ) (.zn k7 (.bn rfl (fun hc12=>?_) (fun hc12=>?_)))))))))
  ·refine .aj (.zn zg (.ret (rT (Fin.bq Tryz.results206 rfl ?_))))
   exact ⟨congrArg I (by unfold dp.check;rw [if_neg (by simpa using hc8),if_pos ak]),hs.out⟩
  ·refine .skip (nT (.seq (.aj (.z (zfa cA) (.y hs (zld dr) (.z (da aJ) (.zn zm (.for (N:=s.cO.length) (J:=fun k fr w=>fr=[(14,.slice a s.cO.length c),(1,Pt b1)]∧(∀j<k,∀l,s.cO[j]? =some l→l.ok s.many=true)∧St H w (.blk b1 [I s.many,.slice a s.cO.length c]::σ)) ak ?_ ?_ ?_))))))))
   ·exact .mk ⟨rfl,fun j hj=>by omega,hs⟩
   ·rintro k fr w hk ⟨rfl,hno,hs⟩
    obtain ⟨x,hx⟩:=nth (l:=s.cO) hk
    refine .block (.aj (.ixX (enc:=Lim.c) hs hr rfl rfl aJ bg hx rfl ?_));intro b18 o18 hc18
    refine .q hs (bQ (vs:=x.c) rfl fw bg hc18) (.o (.alloc hs eD rfl fun b4 w hs=>?_))
    refine .o (.aU (vs:=x.c) hs rfl rfl bg fun w hs=>?_)
    refine .nil (.aj (.z (zfa cM) (.y hs (zld ae) (.q hs (kO (vs:=x.c) rfl fw bg) (.o (.call Tryz.call256 rfl (oI hs) ?_))))));rintro _ w ⟨rfl,hs⟩
    have hmm:0≤s.many∧s.many≤64:=by simpa using hc8
    rw [show (decide (0≤s.many∧s.many≤64)&&x.ok s.many)=x.ok s.many by rw [decide_eq_true hmm];rfl]
    refine .zn hZ (.dZ rfl (fun hc24=>?_) (fun hc24=>?_))
    ·refine .aj (.zn zg (.ret (rB (rT (rB (rT (Fin.bq Tryz.results206 rfl ?_)))))))
     exact ⟨congrArg I (by
      have hx0:x.ok s.many=false:=by cases e:x.ok s.many with|false=>rfl|true=>rw [e] at hc24;simp at hc24
      unfold dp.check;rw [if_neg (by simpa using hc8),if_neg ak,if_pos (List.any_eq_true.2 ⟨x,List.mem_of_getElem? hx,by rw [hx0];rfl⟩)]),hs.out⟩
    ·refine .skip (nB (nT ?_))
     exact .mk ⟨rfl,fi hno hx (by cases e:x.ok s.many with|true=>rfl|false=>rw [e] at hc24;simp at hc24),hs.tail⟩
   ·rintro fr w ⟨rfl,hno,hs⟩
    refine nT (.aj (.zn zg (.ret (Fin.bq Tryz.results206 rfl ?_))))
    exact ⟨congrArg I (by
     have hall:(s.cO.any fun l=> !l.ok s.many)=false:=by
      simp only [List.any_eq_false,Bool.not_eq_true',Bool.not_eq_false]
      intro l hl
      obtain ⟨j,hj⟩:=List.getElem?_of_mem hl
      exact hno j (List.getElem?_eq_some_iff.1 hj).1 l hj
     unfold dp.check;rw [if_neg (by simpa using hc8),if_neg ak,hall];rfl),hs.out⟩
theorem mf{v:Value}{l:List Int}{en:Ent}(hs:St H w (en::σ))(ho:cN 1 v (Is l) en)(hl:l.length≤1000000):
  Cl Tryz.prog 270 [v] w fun _ w'=>∃en',cN 1 v (Is l.reverse) en'∧St H w' (en'::σ):=by
 rcases ho with ⟨a,rfl,h2,rfl⟩|⟨b,len,cap,sp,rfl,rfl,h2,h3,h4⟩
 ·obtain rfl:l=[]:=by
   have:=congrArg List.length h2
   exact List.length_eq_zero_iff.1 (by simpa using this)
  have hs:=hs.tail
  refine Cl.o Tryz.func270 Tryz.ntmps270 ag1 ?_
  refine .aj (.z zm (.z (da af) (.z fM (.z zg (.zn zg (.block (.loop (fun _:Unit=>⟨28,[],[(2,I 0),(3,I (-1))]⟩) (fun _ w=>St H w σ) (fun _=>0) () a6 hs ?_)))))))
  rintro _ w hs
  refine .seq (.aj (.z zm (.z zm (.zn fV (.bn rfl (fun hc9=>?_) (fun hc9=>?_))))))
  ·omega
  ·refine .exit (xT (xT (xB ?_)))
   exact Fin.zV Tryz.results270 ⟨.nul,.nil 1 a,hs.nul⟩
 obtain rfl:len=l.length:=by simpa using h2.symm
 refine Cl.o Tryz.func270 Tryz.ntmps270 ag1 ?_
 refine .aj (.z zm (.z (da af) (.z fM (.z zg (.zn zg (.block (.loop (fun p:Nat×List Int=>⟨28,[],[(2,I p.1),(3,I ((l.length:Int) - 1 - p.1)),(0,.slice (some ⟨b,0,none⟩) l.length cap)]⟩) (fun p w=>(2*p.1≤l.length+1∧pn l p.2 p.1)∧St H w (.blk b (Is p.2++sp)::σ)) (fun p=>l.length - p.1) (0,l) (.cons rfl (.cP rfl bT (.cons rfl (.nil rfl rfl)))) ⟨⟨bT,.start l⟩,hs⟩ ?_)))))))
 rintro ⟨i,L⟩ w ⟨⟨h5,h6⟩,hs⟩
 dsimp only at h5 h6 hs ⊢
 have hL:=h6.1
 refine .seq (.aj (.z zm (.z zm (.zn fV (.bn rfl (fun hc9=>?_) (fun hc9=>?_))))))
 ·refine .skip (nT (.seq (.block (.draw mix rfl hs fun w hs=>?_))))
  refine .zw 0 rfl zm ?_;refine .z 1 rfl zm ?_;refine .z 2 rfl zm ?_;refine .z 3 rfl zm ?_;refine .z 4 rfl zm ?_;refine .z 5 rfl zm ?_
  refine .zw 6 rfl (iI (k:=l.length - 1 - i) rfl rfl af ai ak ak) (.load (i:=7) hs rfl aH .none rfl ae ?_ (hv:=gy ak sp))
  refine .zw 8 rfl zm ?_;refine .z 9 rfl zm ?_
  first|(refine .ixv 10 rfl hs af ai ?_;intro b24 o24 hc24)|refine .z 10 rfl (zix af ai) ?_
  refine .load (i:=11) hs rfl aH .none rfl ae ?_ (hv:=gy ak sp)
  first|(refine .ixv 12 rfl hs af ai ?_;intro b26 o26 hc26)|refine .z 12 rfl (zix af ai) ?_
  refine .E 13 hs ?_
  refine .store hs rfl rfl ai ?_ dz (by simp;omega) (jY ak sp _);intro w hs
  refine .go (.zw 14 rfl (iI (k:=l.length - 1 - i) rfl rfl af ai ak ak) (.E 15 hs ?_))
  refine .store hs rfl rfl ai ?_ dz (by simp;omega) (jY (by simp;omega) sp _);intro w hs
  refine .go (.D hs (nB (nT (.region (.z zm (.z cu (.z zm (.z fM (.z zg (.zn zg (nT ?_)))))))))))
  exact ⟨(i+1,_),.cons rfl (.cP rfl (by push_cast;omega) (.cons rfl (.nil rfl rfl))),⟨⟨by dsimp only;omega,h6.step ak⟩,hs⟩,by dsimp only;omega⟩
 ·refine .exit (xT (xT (xB ?_)))
  rw [h6.done ak] at hs
  exact Fin.zV Tryz.results270 ⟨_,.inr ⟨b,l.length,cap,sp,rfl,rfl,bT,by rw [←h3];simp,h4⟩,hs⟩
inductive HC(s:dp)(xs:List Int):Int→Prop
 |bad (h:s.check≠0) (h1:xs=[]):HC s xs s.check
 |sound (h:s.Ok) (h1:s.Sound) (h2:xs=[]):HC s xs 0
 |chain {st:BS} {x:Arc} {z k:Nat} (h:s.Ok) (h1:¬s.Sound) (h2:IC s.n s.dF st (some x)) (h3:z=qy st.by_ x.t (s.n+1)) (h4:1≤k) (h5:k≤s.n) (h6:qy st.by_ z k=z) (h7:xs=(yw st.by_ z k).reverse):HC s xs 0
theorem HC.CX{s:dp}{xs:List Int}(h:HC s xs 0):xs=[]↔s.Sound:=by
 generalize hz:(0:Int)=y at h
 cases h with
 |bad h=>exact (h hz.symm).elim
 |sound _ h1 h2=>exact ⟨fun _=>h1,fun _=>h2⟩
 | @chain st x z k _ h1 _ _ h4 _ _ h7=>exact ⟨fun h=>by
   have:=congrArg List.length (h7.symm.trans h)
   rw [List.length_reverse,oQ] at this
   simp at this;omega,fun h=>(h1 h).elim⟩
set_option maxHeartbeats 4000000 in
theorem uo{v:Value}{s:dp}(hs:St H w σ)(hr:RSy H v s):
  Cl Tryz.prog 221 [v] w fun u w'=>∃H1 vx xs e,HLe H H1∧u= .tuple #[vx,I e]∧RI H1 vx xs∧HC s xs e∧St H1 w' σ:=by
 obtain ⟨u,rfl,hr⟩:=hr
 obtain ⟨al,cl,rfl⟩:=RL.shape hr
 refine Cl.o Tryz.func221 Tryz.ntmps221 ag1 ?_
 refine .aj (.bx hs fun b1 w hs=>?_)
 refine .z zg (.zn zg (.seq (.aj (.y hs (zls [_,_] bM aV) (.o (.call Tryz.call197 rfl (jC (s:=s) hs ⟨_,rfl,hr⟩) ?_))))));rintro _ w ⟨rfl,hs⟩
 refine .zn zg (.aj (.z zm (.zn hZ (.dZ rfl (fun hc14=>?_) (fun hc14=>?_)))))
 ·refine .aj (.z zm (.z zg (.zn zg (.ret (rT (Fin.ij Tryz.results221 rfl rfl ?_))))))
  exact ⟨H,_,[],_,HLe.refl H,rfl,RS.nil H 1 none 0,.bad hc14 rfl,hs.out⟩
 ·refine .skip (nT (.seq (.draw mix rfl hs fun w hs=>?_)))
  refine .zw 0 rfl (zfa cM) ?_;refine .y 1 rfl hs ae ?_;refine .ys 2 rfl hs [_,_] bM aV ?_
  refine .E 3 hs ?_
  have hok:s.Ok:=s.dT.1 (by simpa using hc14)
  have hoka:=hok.dF
  have hn:s.n=s.many.toNat+1:=rfl
  have hm0:=hok.m0
  have hm1:=hok.m1
  refine .call Tryz.call269 rfl (kU (s:=s) hs hok ⟨_,rfl,hr⟩) ?_;rintro _ w ⟨H1,b10,hle1,rfl,hit,hs⟩
  refine .go (.E 4 hs ?_)
  have hnear:=mq (N:=s.many.toNat) hs ak (by rw [←hn];exact hoka) hit Tryz.call295
  rw [Int.toNat_of_nonneg hm0] at hnear
  refine .call Tryz.call225 rfl hnear ?_;rintro _ w ⟨H2,bc,bb,st,ov,vo,hle2,rfl,hov,hnr,hs⟩
  obtain ⟨a',rfl,ha'⟩:=hov.ptr
  refine .go (.zw 5 rfl zm ?_);refine .z 6 rfl zex ?_;refine .z 7 rfl zex ?_;refine .z 8 rfl zex ?_;refine .z 9 rfl zg ?_;refine .z 10 rfl zg ?_;refine .z 11 rfl zg ?_;refine .D hs ?_
  refine .seq (.aj (.z zm (.q hs (Dh rfl rfl Tryz.runUnderlying268) (.nil (.cond rfl (fun hc26=>?_) (fun hc26=>?_))))))
  ·refine .aj (.z zg (.zn zg (.ret (rT (Fin.ij Tryz.results221 rfl rfl ?_)))))
   exact ⟨H2,_,[],0,hle1.trans hle2,rfl,RS.nil H2 1 none 0,.sound hok (by
    obtain ⟨r,hN2,hr2⟩:=hnr
    cases ov with
    |none=>exact ⟨_,(hN2.sol (by rw [←hn];exact hoka) ak).1⟩
    |some x=>rw [ha'] at hc26;cases hc26) rfl,hs.out⟩
  ·refine .skip (nT (.aj (.z zm ?_)))
   obtain ⟨x,rfl⟩:=OvR.yes ha' hc26
   obtain ⟨b3,e3,hrow⟩:=hov
   cases e3
   have hrowT:cellAt H2 b3 1=some (I x.t):=hrow.at 1
   have hmn:s.many+2=((s.many.toNat+2:Nat):Int):=by omega
   have hns:¬s.Sound:=by
    obtain ⟨r,hN2,hr2⟩:=hnr
    exact hN2.none (by rw [←hn];exact hoka) ak (by have:=hr2 bT;omega)
   obtain ⟨hlb,hrg,hxt⟩:st.by_.length=s.many.toNat+1∧(∀v<s.many.toNat+1,(ga st.by_ v).f<s.many.toNat+1)∧x.t<s.many.toNat+1:=by
    obtain ⟨r,hN2,hr2⟩:=hnr
    exact ⟨hN2.lb,fun v hv=>(hN2.rg v hv).1,(hoka.2 x (hN2.ovm x rfl)).2.1⟩
   have hpl:=fun k=>yk hrg hxt k
   refine .z znc (.z (zfa dG) (.q hs (aP rfl ae hrowT) (.zn zg (.seq (.aj (.z (zfa cM) (.y hs (zld ae) (.z cu ?_))))))))
   rw [hmn]
   refine .zn zm (.for (N:=s.many.toNat+2) (J:=fun k fr w=>fr=[(8,I (qy st.by_ x.t k)),(6,.slice (some ⟨bb,0,none⟩) (s.many.toNat+1) (s.many.toNat+1))]∧St H2 w (.blk bc (Is st.cost):: .blk bb (jZ st.by_):: .blk b1 [I s.many,.slice al s.cO.length cl]::σ)) ak ?_ ?_ ?_)
   ·exact .mk ⟨rfl,hs⟩
   ·rintro k fr w hk ⟨rfl,hs⟩
    refine .block (.region (.z zm (.z zm (.q hs (xm (k:=qy st.by_ x.t k) rfl rfl aE aM rfl (hpl k)) (.z (zfa dy) (.q hs (gY rfl ae (.there .here) (sj (j:=0) (by rw [hlb];exact hpl k) dL)) ?_))))))
    refine .zn zg (nB (nT ?_))
    exact .mk ⟨rfl,hs.out⟩
   ·rintro fr w ⟨rfl,hs⟩
    obtain ⟨pd,hp1,hp2,hp3⟩:=Cf hrg hxt (m:=s.many.toNat+2) ak
    have hzl:=hpl (s.many.toNat+2)
    generalize hz:qy st.by_ x.t (s.many.toNat+2)=z at hp3 hzl ⊢
    have hzk:=fun k=>yk hrg hzl k
    refine nT (.aj (.zn zg (.seq (.aj (.z zm (.zn zg (.block ?_)))))))
    refine .loop (fun p:Nat×Value=>⟨62,[],[(9,p.2),(8,I (qy st.by_ z p.1)),(10,I z),(6,.slice (some ⟨bb,0,none⟩) (s.many.toNat+1) (s.many.toNat+1))]⟩)
     (fun p w=>p.1<pd∧∃en,cN 1 p.2 (Is (yw st.by_ z p.1)) en∧St H2 w (en:: .blk bc (Is st.cost):: .blk bb (jZ st.by_):: .blk b1 [I s.many,.slice al s.cO.length cl]::σ))
     (fun p=>pd - p.1) (0,.slice none 0 0) a6
     ⟨ak,_,.nil 1 none,hs.nul⟩ ?_
    rintro ⟨k,v9⟩ w ⟨hk,en,hO,hs⟩
    dsimp only at hk hO ⊢
    refine .block (.aj (.z zm (.z zm (.z zm (.q hs (xm (k:=qy st.by_ z k) rfl rfl aE aM rfl (hzk k)) (.z (zfa ed) (.q hs (gY rfl ae (.there (.there .here)) (sj (j:=3) (by rw [hlb];exact hzk k) dL)) ?_)))))))
    refine .o (.buildSlice (cells:=[_]) hs dc rfl rfl fun b49 w hs=>?_)
    refine .o (.append (ys:=[I (ga st.by_ (qy st.by_ z k)).l]) hs cV rfl rfl hO (.own .here rfl rfl) (by simp [Value.oneCell']) (fun l' h=>by simp [yw] at h;omega) ?_);intro v50 en50 w hO2 hs
    refine .zn zg (.aj (.z zm (.z zm (.q hs (xm (k:=qy st.by_ z k) rfl rfl aE aM rfl (hzk k)) (.z (zfa dy) (.q hs (gY rfl ae (by repeat (first|exact .here|refine .there ?_)) (sj (j:=0) (by rw [hlb];exact hzk k) dL)) ?_))))))
    refine .zn zg (.aj (.z zm (.z zm (.zn fF (.bn rfl (fun hc58=>?_) (fun hc58=>?_))))))
    ·refine .exit (xN (xT (xB (nT (.aj (.z zm ?_))))))
     have hO3:cN 1 v50 (Is (yw st.by_ z (k+1))) en50:=by rw [xu];simpa [Is] using hO2
     have hkz:qy st.by_ z (k+1)=z:=by
      have h3:((ga st.by_ (qy st.by_ z k)).f:Int)=z:=by simpa using hc58
      show (ga st.by_ (qy st.by_ z k)).f=z
      omega
     refine .o (.call Tryz.call270 rfl (mf hs hO3 (by rw [oQ];omega)) ?_);rintro _ w ⟨en',hO4,hs⟩
     refine .nil (.aj (.z zm (.z zg (.zn zg (.ret (Fin.ij Tryz.results221 rfl rfl ?_))))))
     obtain ⟨H3,hle3,hRI,hs⟩:=cN.dM hO4 (by rw [List.length_reverse,oQ];omega) hs .here
     exact ⟨H3,_,_,0,hle1.trans (hle2.trans hle3),rfl,hRI,.chain hok hns (by rw [hn];exact hnr) (by rw [hn];exact hz.symm) ak ak hkz rfl,hs.sb⟩
    ·refine .skip (nB (nT ?_))
     exact ⟨(k+1,v50),a6,⟨by
      dsimp only
      have:k+1≠pd:=fun e=>hc58 (congrArg (Nat.cast:Nat→Int) (show qy st.by_ z (k+1)=z by rw [e];exact hp3))
      omega,en50,by rw [xu];simpa [Is] using hO2,hs.sb⟩,by dsimp only;omega⟩
structure Eh(s:dp)(x:List Int):Prop where
 len:x.length=s.n
 zero:gi x 0=0
 free:∀v<s.n,-1000000000≤gi x v∧gi x v≤1000000000
 AU:jb s.dF (gi x)
theorem nD{v:Value}{s:dp}(hs:St H w σ)(hr:RSy H v s):
  Cl Tryz.prog 147 [v] w fun u w'=>∃H1 vt e,HLe H H1∧u= .tuple #[vt,I e]∧((s.check≠0∧e=s.check∧vt= .slice none 0 0)∨(s.Ok∧¬s.Sound∧e=23∧vt= .slice none 0 0)∨(s.Ok∧s.Sound∧e=0∧∃rs,RT H1 vt rs∧Sq s.n rs∧l8 s.n s.dF (gt rs)))∧St H1 w' σ:=by
 obtain ⟨ul,rfl,hl⟩:=hr
 obtain ⟨al,cl,rfl⟩:=RL.shape hl
 refine Cl.o Tryz.func147 Tryz.ntmps147 ag1 ?_
 refine .aj (.bx hs fun b1 w hs=>?_)
 refine .z zg (.zn zg (.aj (.y hs (zls [_,_] bM aV) (.o (.call Tryz.call206 rfl (ud (s:=s) hs ⟨_,rfl,hl⟩) ?_)))));rintro _ w ⟨rfl,hs⟩
 refine .zn zg (.seq (.aj (.z zm (.zn hZ (.dZ rfl (fun hc9=>?_) (fun hc9=>?_))))))
 ·refine .aj (.z zm (.z zg (.zn zg (.ret (rT (Fin.ij Tryz.results147 rfl rfl ?_))))))
  exact ⟨H,_,_,HLe.refl H,rfl,.inl ⟨hc9,rfl,rfl⟩,hs.out⟩
 ·refine .skip (nT (.aj (.y hs (zls [_,_] bM aV) ?_)))
  have hok:s.Ok:=s.dT.1 (by simpa using hc9)
  have hm1:=hok.m1
  refine .o (.call Tryz.call207 rfl (vN (s:=s) hs ⟨_,rfl,hl⟩ hok) ?_);rintro v12 w ⟨H1,rs,hle1,hRT,hSq,hWT,hs⟩
  obtain ⟨at',ct,rfl⟩:=hRT.shape
  refine .zn zg (.seq (.aj (.z zm (.o (.call Tryz.call208 rfl (ub hs hRT hSq (by simp only [dp.n];omega)) ?_)))));rintro _ w ⟨b,rfl,hb,hs⟩
  have hbs:=hb.trans (B2 hok hWT).symm
  refine .zn fI (.cond rfl (fun hc15=>?_) (fun hc15=>?_))
  ·refine .aj (.z zg (.zn zg (.ret (rT (Fin.ij Tryz.results147 rfl rfl ?_)))))
   exact ⟨H1,_,_,hle1,rfl,.inr (.inl ⟨hok,fun h=>by simp [hbs.2 h] at hc15,rfl,rfl⟩),hs.out⟩
  ·refine .skip (nT (.aj (.z zm (.z zg (.zn zg (.ret (Fin.ij Tryz.results147 rfl rfl ?_)))))))
   exact ⟨H1,_,_,hle1,rfl,.inr (.inr ⟨hok,hbs.1 (by simpa using hc15),rfl,rs,hRT,hSq,hWT⟩),hs.out⟩
end Go.Proofs.YteajddicacjkhaaGreat
namespace Go.Proofs.YteajddicacjkhaaGreat
open Go.MW
inductive IV(s:dp)(x:List Int):Int→Prop
 |bad (h:s.check≠0):IV s x s.check
 |off (h:s.Ok) (h1:¬Eh s x):IV s x 25
 |ok (h:s.Ok) (h1:Eh s x):IV s x 0
end Go.Proofs.YteajddicacjkhaaGreat
namespace Go.Proofs.YteajddicacjkhaaGreat
open Go.MW
variable{H:bV}{w:World}{σ:List Ent}
theorem yR{v:Value}{ls:List Int}{g:Nat}{cap:List Value}{q:Int→Prop}(hs:St H w σ)(hr:RI H v ls)
  (hc:∀args w,(callFunc g args).run Tryz.prog w= .ok (.enter g args) w) (hp:∀w l,St H w σ→Cl Tryz.prog g ([I l]++cap) w fun u w'=>∃b,u= .bool b∧(b=true↔q l)∧St H w' σ):
  Cl Tryz.prog 228 [v,.func (.func g) #[] cap.toArray] w fun u w'=>∃i,u=I i∧(0≤i↔∃p∈ls,q p)∧St H w' σ:=by
 obtain ⟨a,c,rfl⟩:=RI.shape hr
 have hl:=(RI.len hr).2.2
 refine Cl.o Tryz.func228 Tryz.ntmps228 ag2 ?_
 refine .aj (.zn zg (.seq (.aj (.z zm (.z (da af) (.zn zm (.for (N:=ls.length) (J:=fun k fr w=>fr=[(1,.func (.func g) #[] cap.toArray),(0,.slice a ls.length c)]∧St H w σ∧∀j<k,∀l,ls[j]? =some l→¬q l) ak ?_ ?_ ?_)))))))
 ·exact .mk ⟨rfl,hs,fun j hj=>by omega⟩
 ·rintro k fr w hk ⟨rfl,hs,hno⟩
  obtain ⟨l,hl⟩:=nth hk
  refine .block (.aj (.z zm (.zn zg (.aj (.z zm (.z zm (.z zm ?_)))))))
  first|(refine .ixv hs af ai ?_;intro b14 o14 hc14)|refine .z (zix af ai) ?_
  refine .y hs (zld ae) (.o (.pQ (first:=[]) rfl rfl hc (hp _ _ hs) ?_));rintro _ w ⟨b16,rfl,hb16,hs⟩
  refine .nil (.cond rfl (fun hc16=>?_) (fun hc16=>?_))
  ·refine .aj (.z zm (.zn zg (.ret (rB (rT (rB (rT (Fin.bq uA rfl ?_))))))))
   exact ⟨_,rfl,⟨fun _=>⟨l,List.mem_of_getElem? hl,hb16.1 hc16⟩,fun _=>by omega⟩,hs⟩
  ·refine .skip (nB (nT ?_))
   exact .mk ⟨rfl,hs,fi hno hl (fun h=>by rw [hb16.2 h] at hc16;cases hc16)⟩
 ·rintro fr w ⟨rfl,hs,hno⟩
  refine nT (.aj (.zn zg (.ret (Fin.bq uA rfl ?_))))
  exact ⟨_,rfl,⟨fun h=>by omega,fun ⟨p,h1,h2⟩=>by
   obtain ⟨j,hj⟩:=List.getElem?_of_mem h1
   exact (hno j (List.getElem?_eq_some_iff.1 hj).1 p hj h2).elim⟩,hs⟩
theorem ux{v:Value}{ls:List Int}{g:Nat}{cap:List Value}{q:Int→Prop}(hs:St H w σ)(hr:RI H v ls)
  (hc:∀args w,(callFunc g args).run Tryz.prog w= .ok (.enter g args) w) (hp:∀w l,St H w σ→Cl Tryz.prog g ([I l]++cap) w fun u w'=>∃b,u= .bool b∧(b=true↔q l)∧St H w' σ):
  Cl Tryz.prog 185 [v,.func (.func g) #[] cap.toArray] w fun u w'=>∃b,u= .bool b∧(b=true↔∃p∈ls,q p)∧St H w' σ:=by
 refine Cl.o Tryz.func185 Tryz.ntmps185 ag2 ?_
 refine .aj (.zn zg (.aj (.z zm (.z zm (.o (.call Tryz.call228 rfl (yR hs hr hc hp) ?_))))));rintro _ w ⟨i,rfl,hi,hs⟩
 refine .z uF (.zn zg (.ret (Fin.bq Tryz.results185 rfl ?_)))
 exact ⟨_,rfl,by simp only [decide_eq_true_eq];exact hi,hs⟩
theorem rZ{n:Int}(hs:St H w σ):Cl Tryz.prog 198 [I n] w fun v w'=>∃b,v= .bool b∧(b=true↔¬(-1000000000≤n∧n≤1000000000))∧St H w' σ:=by
 refine Cl.o Tryz.func198 Tryz.ntmps198 ag1 ?_
 refine .aj (.zn zg (.aj (.z zm (.o (.call Cz rfl (fL hs) ?_)))));rintro _ w ⟨rfl,hs⟩
 refine .z fI (.zn zg (.ret (Fin.bq Tryz.results198 rfl ?_)))
 exact ⟨_,rfl,by simp;omega,hs⟩
theorem pc{v vx:Value}{s:dp}{x:List Int}(hs:St H w σ)(hr:RSy H v s)(hx:RI H vx x):
  Cl Tryz.prog 134 [v,vx] w fun u w'=>∃e,u=I e∧IV s x e∧St H w' σ:=by
 obtain ⟨ul,rfl,hl⟩:=hr
 obtain ⟨al,cl,rfl⟩:=RL.shape hl
 obtain ⟨ax,cx,rfl⟩:=RI.shape hx
 refine Cl.o Tryz.func134 Tryz.ntmps134 ag2 ?_
 refine .aj (.bx hs fun b2 w hs=>?_)
 refine .zn zg (.seq (.aj (.y hs (zls [_,_] bM aV) (.o (.call Tryz.call197 rfl (jC (s:=s) hs ⟨_,rfl,hl⟩) ?_)))));rintro _ w ⟨rfl,hs⟩
 refine .zn zg (.aj (.z zm (.zn hZ ?_)))
 skip
 refine (.dZ rfl (fun hc11=>?_) (fun hc11=>?_))
 ·refine .aj (.z zm (.zn zg (.ret (rT (Fin.bq uD rfl ?_)))))
  exact ⟨_,rfl,.bad hc11,hs.out⟩
 ·refine .skip (nT (.seq (.aj ?_)))
  have hok:s.Ok:=s.dT.1 (by simpa using hc11)
  have hm0:=hok.m0
  have hm1:=hok.m1
  have hll:=hok.len
  have hnn:(s.n:Int)=s.many+1:=by simp only [dp.n];omega
  refine .z zm (.z (da af) (.z (zfa cM) (.y hs (zld ae) (.z cu (.z hZ (.z zm (.CE (t':=19) rfl (fun hb19=>?_) (fun hb19=>?_))))))))
  ·refine .Fs 4 6 false (.z zpT (.z zm (.Fs 2 12 false (.zn zpT (.cT (.aj (.zn zg (.ret (rT (Fin.bq uD rfl ?_))))))))))
   first
    |exact ⟨_,rfl,.ok hok ⟨ak,by first|omega|(simpa using hb25),fun v hv=>hfree v ak,fQ.2 fun y hy=>by
      obtain ⟨i,hi⟩:=List.getElem?_of_mem hy
      exact h1 i (List.getElem?_eq_some_iff.1 hi).1 y hi⟩,hs.out⟩
    |exact ⟨_,rfl,.off hok (fun h=>by have:=h.len;omega),hs.out⟩
    |exact ⟨_,rfl,.off hok (fun h=>by have:=h.zero;first|omega|(simp at hb25;omega)),hs.out⟩
    |exact ⟨_,rfl,.off hok (fun h=>by
      obtain ⟨p,h1,h2⟩:=hb27.1 hc28
      obtain ⟨i,hi⟩:=List.getElem?_of_mem h1
      have hil:=(List.getElem?_eq_some_iff.1 hi).1
      have:=bJ hil
      rw [hi] at this
      cases this
      exact h2 (h.free i (by have:=h.len;omega))),hs.out⟩
    |exact ⟨_,rfl,.off hok (fun h=>by
      have h8:=fQ.1 h.AU y (List.mem_of_getElem? hy)
      omega),hs.out⟩
  ·refine .T (.z zm (.T (.ixX (enc:=fun x=>[I x]) hs hx rfl rfl af ai (bJ (l:=x) (i:=0) ak) rfl ?_)));intro b21 o21 hc21;replace hc21:=bL.one hc21
   refine .T (.y hs (zld ae) (.T (.z hZ (.z zpF (.z zm (.CE (t':=25) rfl (fun hb25=>?_) (fun hb25=>?_)))))))
   ·refine .Fs 2 12 false (.zn zpT (.cT (.aj (.zn zg (.ret (rT (Fin.bq uD rfl ?_)))))))
    first
     |exact ⟨_,rfl,.ok hok ⟨ak,by first|omega|(simpa using hb25),fun v hv=>hfree v ak,fQ.2 fun y hy=>by
       obtain ⟨i,hi⟩:=List.getElem?_of_mem hy
       exact h1 i (List.getElem?_eq_some_iff.1 hi).1 y hi⟩,hs.out⟩
     |exact ⟨_,rfl,.off hok (fun h=>by have:=h.len;omega),hs.out⟩
     |exact ⟨_,rfl,.off hok (fun h=>by have:=h.zero;first|omega|(simp at hb25;omega)),hs.out⟩
     |exact ⟨_,rfl,.off hok (fun h=>by
       obtain ⟨p,h1,h2⟩:=hb27.1 hc28
       obtain ⟨i,hi⟩:=List.getElem?_of_mem h1
       have hil:=(List.getElem?_eq_some_iff.1 hi).1
       have:=bJ hil
       rw [hi] at this
       cases this
       exact h2 (h.free i (by have:=h.len;omega))),hs.out⟩
     |exact ⟨_,rfl,.off hok (fun h=>by
       have h8:=fQ.1 h.AU y (List.mem_of_getElem? hy)
       omega),hs.out⟩
   ·refine .T (.z zm (.T (.o (.call Tryz.call185 rfl (ux (q:=fun n=>¬(-1000000000≤n∧n≤1000000000)) (cap:=[]) hs hx Tryz.call198 (fun w n hs=>rZ hs)) ?_))));rintro _ w ⟨b27,rfl,hb27,hs⟩
    refine .zn zpF (.cond rfl (fun hc28=>?_) (fun hc28=>?_))
    ·refine .aj (.zn zg (.ret (rT (Fin.bq uD rfl ?_))))
     first
      |exact ⟨_,rfl,.ok hok ⟨ak,by first|omega|(simpa using hb25),fun v hv=>hfree v ak,fQ.2 fun y hy=>by
        obtain ⟨i,hi⟩:=List.getElem?_of_mem hy
        exact h1 i (List.getElem?_eq_some_iff.1 hi).1 y hi⟩,hs.out⟩
      |exact ⟨_,rfl,.off hok (fun h=>by have:=h.len;omega),hs.out⟩
      |exact ⟨_,rfl,.off hok (fun h=>by have:=h.zero;first|omega|(simp at hb25;omega)),hs.out⟩
      |exact ⟨_,rfl,.off hok (fun h=>by
        obtain ⟨p,h1,h2⟩:=hb27.1 hc28
        obtain ⟨i,hi⟩:=List.getElem?_of_mem h1
        have hil:=(List.getElem?_eq_some_iff.1 hi).1
        have:=bJ hil
        rw [hi] at this
        cases this
        exact h2 (h.free i (by have:=h.len;omega))),hs.out⟩
      |exact ⟨_,rfl,.off hok (fun h=>by
        have h8:=fQ.1 h.AU y (List.mem_of_getElem? hy)
        omega),hs.out⟩
    ·refine .skip (nT (.seq (.aj (.z (zfa cA) (.y hs (zld dr) (.z (da aJ) (.zn zm (.for (N:=s.cO.length) (J:=fun k fr w=>fr=[(30,.slice al s.cO.length cl),(1,.slice ax x.length cx)]∧(∀i<k,∀y,s.cO[i]? =some y→gi x y.B.toNat≤gi x y.A.toNat+y.M)∧St H w (.blk b2 [I s.many,.slice al s.cO.length cl]::σ)) ak ?_ ?_ ?_))))))))
     ·exact .mk ⟨rfl,fun i hi=>by omega,hs⟩
     ·have hfree:∀v<x.length,-1000000000≤gi x v∧gi x v≤1000000000:=fun v hv=>by
       apply Classical.byContradiction
       intro h
       have:=hb27.2 ⟨gi x v,List.mem_of_getElem? (bJ hv),h⟩
       subst this
       simp at hc28
      rintro k fr w hk ⟨rfl,h1,hs⟩
      obtain ⟨y,hy⟩:=nth hk
      obtain ⟨⟨y1,y2⟩,⟨y3,y4⟩,y5,y6,-⟩:=hok.lim y (List.mem_of_getElem? hy)
      have z1:=hfree y.B.toNat ak
      have z2:=hfree y.A.toNat ak
      refine .block (.aj (.ixX (enc:=Lim.c) hs hl rfl rfl aJ bg hy rfl ?_));intro b34 o34 hc34
      refine .q hs (bQ (vs:=y.c) rfl fw bg hc34) (.o (.alloc hs eD rfl fun b7 w hs=>?_))
      refine .o (.aU (vs:=y.c) hs rfl rfl bg fun w hs=>?_)
      refine .nil (.seq (.draw mix rfl hs fun w hs=>?_))
      refine .zw 0 rfl zm ?_;refine .z 1 rfl (zfa dH) ?_;refine .y 2 rfl hs ae ?_
      refine .ixX (enc:=fun x=>[I x]) (i:=3) hs rfl aH .none hx rfl rfl af ai (bJ (l:=x) (i:=y.B.toNat) ak) ak ?_;intro b39 o39 hc39;replace hc39:=bL.one hc39
      refine .r (i:=4) hs rfl aH .none (aP rfl ae hc39) ?_
      refine .zw 5 rfl zm ?_;refine .z 6 rfl (zfa dA) ?_;refine .y 7 rfl hs ae ?_
      refine .ixX (enc:=fun x=>[I x]) (i:=8) hs rfl aH .none hx rfl rfl af ai (bJ (l:=x) (i:=y.A.toNat) ak) ak ?_;intro b44 o44 hc44;replace hc44:=bL.one hc44
      refine .r (i:=9) hs rfl aH .none (aP rfl ae hc44) ?_
      refine .zw 10 rfl fM ?_;refine .z 11 rfl (zfa eG) ?_;refine .y 12 rfl hs ae ?_;refine .z 13 rfl k7 ?_;refine .D hs ?_
      refine (.bn rfl (fun hc49=>?_) (fun hc49=>?_))
      ·refine .aj (.zn zg (.ret (rB (rT (rB (rT (Fin.bq uD rfl ?_)))))))
       first
        |exact ⟨_,rfl,.ok hok ⟨ak,by first|omega|(simpa using hb25),fun v hv=>hfree v ak,fQ.2 fun y hy=>by
          obtain ⟨i,hi⟩:=List.getElem?_of_mem hy
          exact h1 i (List.getElem?_eq_some_iff.1 hi).1 y hi⟩,hs.out⟩
        |exact ⟨_,rfl,.off hok (fun h=>by have:=h.len;omega),hs.out⟩
        |exact ⟨_,rfl,.off hok (fun h=>by have:=h.zero;first|omega|(simp at hb25;omega)),hs.out⟩
        |exact ⟨_,rfl,.off hok (fun h=>by
          obtain ⟨p,h1,h2⟩:=hb27.1 hc28
          obtain ⟨i,hi⟩:=List.getElem?_of_mem h1
          have hil:=(List.getElem?_eq_some_iff.1 hi).1
          have:=bJ hil
          rw [hi] at this
          cases this
          exact h2 (h.free i (by have:=h.len;omega))),hs.out⟩
        |exact ⟨_,rfl,.off hok (fun h=>by
          have h8:=fQ.1 h.AU y (List.mem_of_getElem? hy)
          omega),hs.out⟩
      ·refine .skip (nB (nT ?_))
       exact .mk ⟨rfl,fun i hi z hz=>by
        by_cases e:i=k
        ·subst e;rw [hy] at hz;cases hz;omega
        ·exact h1 i ak z hz,hs.out⟩
     ·have hfree:∀v<x.length,-1000000000≤gi x v∧gi x v≤1000000000:=fun v hv=>by
       apply Classical.byContradiction
       intro h
       have:=hb27.2 ⟨gi x v,List.mem_of_getElem? (bJ hv),h⟩
       subst this
       simp at hc28
      rintro fr w ⟨rfl,h1,hs⟩
      refine nT (.aj (.zn zg (.ret (Fin.bq uD rfl ?_))))
      first
       |exact ⟨_,rfl,.ok hok ⟨ak,by first|omega|(simpa using hb25),fun v hv=>hfree v ak,fQ.2 fun y hy=>by
         obtain ⟨i,hi⟩:=List.getElem?_of_mem hy
         exact h1 i (List.getElem?_eq_some_iff.1 hi).1 y hi⟩,hs.out⟩
       |exact ⟨_,rfl,.off hok (fun h=>by have:=h.len;omega),hs.out⟩
       |exact ⟨_,rfl,.off hok (fun h=>by have:=h.zero;first|omega|(simp at hb25;omega)),hs.out⟩
       |exact ⟨_,rfl,.off hok (fun h=>by
         obtain ⟨p,h1,h2⟩:=hb27.1 hc28
         obtain ⟨i,hi⟩:=List.getElem?_of_mem h1
         have hil:=(List.getElem?_eq_some_iff.1 hi).1
         have:=bJ hil
         rw [hi] at this
         cases this
         exact h2 (h.free i (by have:=h.len;omega))),hs.out⟩
       |exact ⟨_,rfl,.off hok (fun h=>by
         have h8:=fQ.1 h.AU y (List.mem_of_getElem? hy)
         omega),hs.out⟩
end Go.Proofs.YteajddicacjkhaaGreat
namespace Go.Proofs
open Go.Shelf
def Tryz.AP:Go.Shelf.Ren:=⟨fun|189=>303|125=>311|257=>310|128=>323|129=>324|294=>314|295=>315|296=>316|297=>317|298=>318|299=>319|216=>320|300=>321|301=>322|328=>325|329=>326|330=>327|331=>328|332=>329|215=>330|343=>331|n=>n,fun|28=>34|3=>3|46=>260|0=>0|51=>340|53=>343|4=>4|183=>348|182=>347|131=>165|5=>5|9=>9|218=>354|222=>358|228=>360|229=>293|n=>n,fun|n=>n⟩
theorem Tryz.DC:Go.Proofs.Lays.n189 Tryz.prog Tryz.AP:={
 mixed:=by kernel_rfl
 f125:=Tryz.func311.trans (congrArg some (by kernel_rfl))
 f128:=Tryz.func323.trans (congrArg some (by kernel_rfl))
 f129:=Tryz.func324.trans (congrArg some (by kernel_rfl))
 f189:=Tryz.func303.trans (congrArg some (by kernel_rfl))
 f215:=Tryz.func330.trans (congrArg some (by kernel_rfl))
 f216:=Tryz.func320.trans (congrArg some (by kernel_rfl))
 f257:=Tryz.func310.trans (congrArg some (by kernel_rfl))
 f294:=Tryz.func314.trans (congrArg some (by kernel_rfl))
 f295:=Tryz.func315.trans (congrArg some (by kernel_rfl))
 f296:=Tryz.func316.trans (congrArg some (by kernel_rfl))
 f297:=Tryz.func317.trans (congrArg some (by kernel_rfl))
 f298:=Tryz.func318.trans (congrArg some (by kernel_rfl))
 f299:=Tryz.func319.trans (congrArg some (by kernel_rfl))
 f300:=Tryz.func321.trans (congrArg some (by kernel_rfl))
 f301:=Tryz.func322.trans (congrArg some (by kernel_rfl))
 f328:=Tryz.func325.trans (congrArg some (by kernel_rfl))
 f329:=Tryz.func326.trans (congrArg some (by kernel_rfl))
 f330:=Tryz.func327.trans (congrArg some (by kernel_rfl))
 f331:=Tryz.func328.trans (congrArg some (by kernel_rfl))
 f332:=Tryz.func329.trans (congrArg some (by kernel_rfl))
 f343:=Tryz.func331.trans (congrArg some (by kernel_rfl))
 t0:=Tryz.underlying0
 a0:=Tryz.isAgg0
 z0:=Tryz.sizeOf0
 v0:=Tryz.zeroValue0
 t3:=Tryz.underlying3
 a3:=Tryz.isAgg3
 z3:=Tryz.sizeOf3
 v3:=Tryz.zeroValue3
 t4:=Tryz.underlying4
 a4:=Tryz.isAgg4
 z4:=Tryz.sizeOf4
 v4:=Tryz.zeroValue4
 t5:=Tryz.underlying5
 a5:=Tryz.isAgg5
 z5:=Tryz.sizeOf5
 v5:=Tryz.zeroValue5
 t9:=Tryz.underlying9
 a9:=Tryz.isAgg9
 z9:=Tryz.sizeOf9
 v9:=Tryz.zeroValue9
 t28:=Tryz.underlying34
 a28:=Tryz.isAgg34
 z28:=Tryz.sizeOf34
 v28:=Tryz.zeroValue34
 t46:=Tryz.underlying260
 a46:=Tryz.isAgg260
 z46:=Tryz.sizeOf260
 v46:=Tryz.zeroValue260
 t51:=Tryz.underlying340
 a51:=Tryz.isAgg340
 z51:=Tryz.sizeOf340
 v51:=Tryz.zeroValue340
 t53:=Tryz.underlying343
 a53:=Tryz.isAgg343
 z53:=Tryz.sizeOf343
 v53:=Tryz.zeroValue343
 t131:=Tryz.underlying165
 a131:=Tryz.isAgg165
 z131:=Tryz.sizeOf165
 v131:=Tryz.zeroValue165
 t182:=Tryz.underlying347
 a182:=Tryz.isAgg347
 z182:=Tryz.sizeOf347
 v182:=Tryz.zeroValue347
 t183:=Tryz.underlying348
 a183:=Tryz.isAgg348
 z183:=Tryz.sizeOf348
 v183:=Tryz.zeroValue348
 t218:=Tryz.underlying354
 a218:=Tryz.isAgg354
 z218:=Tryz.sizeOf354
 v218:=Tryz.zeroValue354
 t222:=Tryz.underlying358
 a222:=Tryz.isAgg358
 z222:=Tryz.sizeOf358
 v222:=Tryz.zeroValue358
 t228:=Tryz.underlying360
 a228:=Tryz.isAgg360
 z228:=Tryz.sizeOf360
 v228:=Tryz.zeroValue360
 t229:=Tryz.underlying293
 a229:=Tryz.isAgg293
 z229:=Tryz.sizeOf293
 v229:=Tryz.zeroValue293}
def Tryz.zE:Go.Shelf.Ren:=⟨fun|20=>304|n=>n,fun|22=>34|3=>3|4=>4|0=>0|n=>n,fun|n=>n⟩
theorem Tryz.Bv:Go.Proofs.Lays2.n20 Tryz.prog Tryz.zE:={
 mixed:=by kernel_rfl
 f20:=Tryz.func304.trans (congrArg some (by kernel_rfl))
 t0:=Tryz.underlying0
 a0:=Tryz.isAgg0
 z0:=Tryz.sizeOf0
 v0:=Tryz.zeroValue0
 t3:=Tryz.underlying3
 a3:=Tryz.isAgg3
 z3:=Tryz.sizeOf3
 v3:=Tryz.zeroValue3
 t4:=Tryz.underlying4
 a4:=Tryz.isAgg4
 z4:=Tryz.sizeOf4
 v4:=Tryz.zeroValue4
 t22:=Tryz.underlying34
 a22:=Tryz.isAgg34
 z22:=Tryz.sizeOf34
 v22:=Tryz.zeroValue34
 i3:=by kernel_rfl}
end Go.Proofs
namespace Go.Proofs.YteajddicacjkhaaGreat
open Go.Sort Go.RowKit
theorem EI(blk off cap:Nat)(zs:List Int)(w:World)(hH:Holds (Value.int .i64) w blk off zs.toArray)(hblk:blk<w.heap.size)(hsz:zs.length<4611686018427387904):
  Calls Tryz.prog 303 #[.slice (some ⟨blk,off,none⟩) zs.length cap] w fun e w'=>e= .returned (.tuple #[])∧∃n os,w'=grow (putRow (Value.int .i64) (Sort.ahead w n) blk off (zs.mergeSort fun x y=>decide (x≤y)).toArray) os:=
 Any.slices_Sort_int Tryz.DC blk off cap zs w hH hblk hsz
theorem ya(p:Option Addr)(cap:Nat)(w:World):Calls Tryz.prog 303 #[.slice p 0 cap] w fun e w'=>e= .returned (.tuple #[])∧w'=w:=
 Any.slices_Sort_int_none Tryz.DC p cap w
theorem Au(blk off cap:Nat)(zs:List Int)(w:World)(hH:Holds (Value.int .i64) w blk off zs.toArray)(hsz:zs.length≤9223372036854775807)(hcap:zs.length≤cap):
  Calls Tryz.prog 304 #[.slice (some ⟨blk,off,none⟩) zs.length cap] w fun e w'=>e= .returned (.slice (some ⟨blk,off,none⟩) (Lib.compact zs).length cap)∧∃q,w'=putRow (Value.int .i64) (Sort.ahead w q) blk off (Lib.compact zs++List.replicate (zs.length - (Lib.compact zs).length) 0).toArray:=
 Any.slices_Compact_int Tryz.Bv blk off cap zs w hH hsz hcap
theorem tQ(p:Option Addr)(cap:Nat)(w:World):Calls Tryz.prog 304 #[.slice p 0 cap] w fun e w'=>e= .returned (.slice p 0 cap)∧w'=w:=
 Any.slices_Compact_int_empty Tryz.Bv p cap w
end Go.Proofs.YteajddicacjkhaaGreat
namespace Go.Proofs.YteajddicacjkhaaGreat
open Go.MW
variable{H:bV}{w:World}{σ:List Ent}
theorem tS{v:Value}{ls:List Int}{x:Int}(hs:St H w σ)(hr:RI H v ls):
  Cl Tryz.prog 305 [v,I x] w fun u w'=>∃i,u=I i∧(0≤i↔x∈ls)∧St H w' σ:=by
 obtain ⟨a,c,rfl⟩:=RI.shape hr
 have hl:=(RI.len hr).2.2
 refine Cl.o Tryz.func305 Tryz.ntmps305 ag2 ?_
 refine .aj (.zn zg (.seq (.aj (.z zm (.z (da af) (.zn zm (.for (N:=ls.length) (J:=fun k fr w=>fr=[(1,I x),(0,.slice a ls.length c)]∧St H w σ∧∀j<k,∀y,ls[j]? =some y→¬x=y) ak ?_ ?_ ?_)))))))
 ·exact .mk ⟨rfl,hs,fun j hj=>by omega⟩
 ·rintro k fr w hk ⟨rfl,hs,hno⟩
  obtain ⟨y,hy⟩:=nth hk
  refine .block (.aj (.z zm (.zn zg (.aj (.z zm (.z zm (.z zm (.ixY hs hr rfl rfl af ai hy rfl ?_))))))));intro b14 o14 hc14
  refine .q hs (aP rfl ae hc14) (.zn fF (.bn rfl (fun hc16=>?_) (fun hc16=>?_)))
  ·refine .aj (.z zm (.zn zg (.ret (rB (rT (rB (rT (Fin.bq Tryz.results305 rfl ?_))))))))
   exact ⟨_,rfl,⟨fun _=>by rw [hc16];exact List.mem_of_getElem? hy,fun _=>by omega⟩,hs⟩
  ·refine .skip (nB (nT ?_))
   exact .mk ⟨rfl,hs,fi hno hy hc16⟩
 ·rintro fr w ⟨rfl,hs,hno⟩
  refine nT (.aj (.zn zg (.ret (Fin.bq Tryz.results305 rfl ?_))))
  exact ⟨_,rfl,⟨fun h=>by omega,fun h=>by
   obtain ⟨j,hj⟩:=List.getElem?_of_mem h
   exact (hno j (List.getElem?_eq_some_iff.1 hj).1 x hj rfl).elim⟩,hs⟩
theorem qq{v:Value}{ls:List Int}{x:Int}(hs:St H w σ)(hr:RI H v ls):
  Cl Tryz.prog 294 [v,I x] w fun u w'=>u= .bool (decide (x∈ls))∧St H w' σ:=by
 refine Cl.o Tryz.func294 Tryz.ntmps294 ag2 ?_
 refine .aj (.zn zg (.aj (.z zm (.z zm (.o (.call Tryz.call305 rfl (tS hs hr) ?_))))));rintro _ w ⟨i,rfl,hi,hs⟩
 refine .z uF (.zn zg (.ret (Fin.bq Tryz.results294 rfl ?_)))
 exact ⟨by simp only [hi],hs⟩
set_option maxHeartbeats 1000000 in
theorem wm{v:Value}{s:dp}{g:Nat}{cap:List Value}(q:Nat→Lim→Bool)(hs:St H w σ)(hr:RSy H v s)(hlen:s.cO.length≤4398046510976)(hc:∀args w,(callFunc g args).run Tryz.prog w= .ok (.enter g args) w)
  (hp:∀w σ (k:Nat) (l:Lim),s.cO[k]? =some l→St H w σ→Cl Tryz.prog g ([I k,.agg l.c.toArray]++cap) w fun u w'=>u= .bool (q k l)∧St H w' σ):
  Cl Tryz.prog 292 [v,.func (.func g) #[] cap.toArray] w fun u w'=>∃H1,HLe H H1∧RSy H1 u ⟨s.many,k9 q s.cO s.cO.length⟩∧St H1 w' σ:=by
 obtain ⟨ul,rfl,hl⟩:=hr
 obtain ⟨al,cl,rfl⟩:=RL.shape hl
 refine Cl.o Tryz.func292 Tryz.ntmps292 ag2 ?_
 refine .aj (.bx hs fun b2 w hs=>?_)
 refine .o (.alloc hs eE rfl fun b4 w hs=>?_)
 refine .nil (.aj (.z (zfa cM) (.y hs (zld ae) (.z (zbd [_,_] mJ) (.o (.alloc hs eE rfl fun b5 w hs=>?_))))))
 refine .o (.aU (vs:=[_,_]) hs rfl rfl aV fun w hs=>?_)
 refine .nil (.seq (.aj (.z (zfa cA) (.y hs (zld dr) (.z (da aJ) (.zn zm (.for (N:=s.cO.length) (J:=fun k fr w=>fr=[(12,.slice al s.cO.length cl),(1,.func (.func g) #[] cap.toArray),(5,Pt b5),(4,Pt b4)]∧∃vL en,cN 4 vL (iz (k9 q s.cO k)) en∧St H w (.blk b5 [I s.many,vL]:: .blk b4 [I 0,.slice none 0 0]::en::σ)) ak ?_ ?_ ?_)))))))
 ·exact .mk ⟨rfl,_,_,.nil 4 none,hs.nul.sb⟩
 ·rintro k fr w hk ⟨rfl,vL,en,hO,hs⟩
  obtain ⟨x,hx⟩:=nth (l:=s.cO) hk
  obtain ⟨aL,lL,cL,rfl,hL⟩:=hO.shape
  have hpl:=nj q s.cO k
  refine .block (.aj (.z zm (.ixX hs hl rfl rfl aJ bg hx rfl ?_)));intro b17 o17 hc17
  refine .q hs (bQ (vs:=x.c) rfl fw bg hc17) (.o (.alloc hs eD rfl fun b7 w hs=>?_))
  refine .z zg (.o (.aU (vs:=x.c) hs rfl rfl bg fun w hs=>?_))
  refine .nil (.aj (.z zm (.z zm (.y hs (zls [_,_,_,_] fw bg) (.o (.pQ (first:=[]) (cap:=cap) rfl rfl hc (hp _ _ k x hx hs) ?_))))));rintro _ w ⟨rfl,hs⟩
  refine .nil (.cond rfl (fun hc22=>?_) (fun hc22=>?_))
  ·refine .region (.z (zfa cA) (.y hs (zld dr) (.y hs (zls [_,_,_,_] fw bg) (.o (.buildSlice (cells:=x.c) hs r8 rfl rfl fun b26 w hs=>?_)))))
   refine .o (.append (ys:=x.c) hs cZ rfl rfl hO (.own .here rfl rfl) (by simp [Lim.c,Value.oneCell']) (fun l h=>by rw [eZ] at h;omega) ?_);intro v27 en27 w hO2 hs
   obtain ⟨a27,l27,c27,rfl,h27⟩:=hO2.shape
   refine .z (zfa cA) (.o (.store hs rfl rfl p5 fun w hs=>?_))
   refine .nil (nB (nT ?_))
   have e:k9 q s.cO (k+1)=k9 q s.cO k++[x]:=by rw [qx hx,if_pos hc22]
   rw [←FV,←ja,←e] at hO2
   exact .mk ⟨rfl,_,_,hO2,hs.sb⟩
  ·refine .skip (nB (nT ?_))
   have e:k9 q s.cO (k+1)=k9 q s.cO k:=by rw [qx hx,hc22];simp
   exact .mk ⟨rfl,_,_,by rw [e];exact hO,hs.sb⟩
 ·rintro fr w ⟨rfl,vL,en,hO,hs⟩
  obtain ⟨aL,lL,cL,rfl,hL⟩:=hO.shape
  have hpl:=nj q s.cO s.cO.length
  refine nT (.aj (.y hs (zls [_,_] bM aV) (.o (.aU (vs:=[_,_]) hs rfl rfl aV fun w hs=>?_))))
  refine .nil (.ret ?_)
  obtain ⟨H1,g1,r1,hs⟩:=cN.cQ (m:=4) (cs:=(k9 q s.cO s.cO.length).map Lim.c) hO (fun c hc=>by simp only [List.mem_map] at hc;obtain ⟨x,_,rfl⟩:=hc;rfl) ak (by rw [List.length_map];omega) hs dz
  exact Fin.jt [] [] hs fun w hs=>⟨_,results1 Tryz.results292 (dK (vs:=[_,_]) hs rfl bM aV),H1,g1,⟨_,rfl,r1⟩,hs.out⟩
theorem wq{b:Nat}{i:Int}{l:Lim}{vb:Value}{bs:List Int}(hs:St H w σ)(hb:Row H b [vb])(hr:RI H vb bs):
  Cl Tryz.prog 293 [I i,.agg l.c.toArray,Pt b] w fun u w'=>u= .bool (!decide (l.S∈bs))∧St H w' σ:=by
 have hb0:cellAt H b 0=some vb:=by rw [hb.cell];rfl
 refine Cl.o Tryz.func293 Tryz.ntmps293 ag3 ?_
 refine .aj (.bx hs fun b4 w hs=>?_)
 refine .zn zg (.aj (.y hs (zld an) (.z (zfa km) (.y hs (zld ae) (.o (.call Tryz.call294 rfl (qq hs hr) ?_))))));rintro _ w ⟨rfl,hs⟩
 refine .z fI (.zn zg (.ret (Fin.bq Tryz.results293 rfl ?_)))
 exact ⟨rfl,hs.out⟩
theorem rY{v vb:Value}{s:dp}{bs:List Int}(hs:St H w σ)(hr:RSy H v s)(hb:RI H vb bs)(hlen:s.cO.length≤4398046510976):
  Cl Tryz.prog 266 [v,vb] w fun u w'=>∃H1,HLe H H1∧RSy H1 u (s.wo bs)∧St H1 w' σ:=by
 obtain ⟨ul,rfl,hl⟩:=hr
 obtain ⟨al,cl,rfl⟩:=RL.shape hl
 obtain ⟨ab,cb,rfl⟩:=RI.shape hb
 refine Cl.o Tryz.func266 Tryz.ntmps266 ag2 ?_
 refine .aj (.bx hs fun b2 w hs=>?_)
 refine .bx hs fun b3 w hs=>?_
 refine .o (.alloc hs eE rfl fun b4 w hs=>?_)
 refine .nil (.aj (.y hs (zls [_,_] bM aV) (.q hs (dD (f:=[]) (c:=[_]) rfl rfl) ?_)))
 obtain ⟨H1,hle1,r3,hs⟩:=hs.cQ (b:=b3) dz
 refine .o (.call Tryz.call292 rfl (wm (g:=293) (cap:=[Pt b3]) (s:=s) (fun _ l=> !decide (l.S∈bs)) hs ⟨_,rfl,hl.mono hle1⟩ hlen Tryz.call293 (fun w σ k l _ hs=>wq hs r3 (hb.mono hle1))) ?_);rintro _ w ⟨H2,hle2,⟨u7,rfl,hL7⟩,hs⟩
 rw [Ce] at hL7
 obtain ⟨a7,c7,rfl⟩:=RL.shape hL7
 refine .o (.aU (vs:=[_,_]) hs rfl rfl aV fun w hs=>?_)
 refine .nil (.ret ?_)
 exact Fin.jt [] [] hs fun w hs=>⟨_,results1 Tryz.results266 (dK (vs:=[_,_]) hs rfl bM aV),H2,hle1.trans hle2,⟨_,rfl,hL7⟩,hs.out⟩
theorem vC{b cap:Nat}{xs:List Int}{sp:List Value}(hs:St H w (.blk b (Is xs++sp)::σ))(hl:xs.length≤17592186044416):
  Cl Tryz.prog 303 [.slice (some ⟨b,0,none⟩) xs.length cap] w fun u w'=>u= .tuple #[]∧St H w' (.blk b (Is (xs.mergeSort fun x y=>decide (x≤y))++sp)::σ):=
 (EI b 0 cap xs w hs.holds (hs.lt .here) ak).mono fun e w' ⟨he,m,os,hw⟩=>⟨_,he,rfl,by
  rw [hw]
  exact (hs.putRow (List.length_mergeSort _)).grow os⟩
theorem tR{a:Option Addr}{cap:Nat}(hs:St H w σ):
  Cl Tryz.prog 303 [.slice a 0 cap] w fun u w'=>u= .tuple #[]∧St H w' σ:=
 (ya a cap w).mono fun e w' ⟨he,hw⟩=>⟨_,he,rfl,by rw [hw];exact hs⟩
theorem q7{b cap:Nat}{xs:List Int}{sp:List Value}(hs:St H w (.blk b (Is xs++sp)::σ))(hl:xs.length≤17592186044416)(hcap:xs.length≤cap):
  Cl Tryz.prog 304 [.slice (some ⟨b,0,none⟩) xs.length cap] w fun u w'=>u= .slice (some ⟨b,0,none⟩) (Go.Lib.compact xs).length cap∧St H w' (.blk b (Is (Go.Lib.compact xs)++(Is (List.replicate (xs.length - (Go.Lib.compact xs).length) 0)++sp))::σ):=
 (Au b 0 cap xs w hs.holds ak hcap).mono fun e w' ⟨he,m,hw⟩=>⟨_,he,rfl,by
  rw [hw]
  have h:=Go.Lib.compact_length_le xs
  have:=hs.putRow (m:=m) (ys:=Go.Lib.compact xs++List.replicate (xs.length - (Go.Lib.compact xs).length) 0) (by simp;omega)
  have e2:Is (Go.Lib.compact xs++List.replicate (xs.length - (Go.Lib.compact xs).length) 0)=Is (Go.Lib.compact xs)++Is (List.replicate (xs.length - (Go.Lib.compact xs).length) 0):=List.map_append
  rw [e2,List.append_assoc] at this
  exact this⟩
theorem qs{a:Option Addr}{cap:Nat}(hs:St H w σ):
  Cl Tryz.prog 304 [.slice a 0 cap] w fun u w'=>u= .slice a 0 cap∧St H w' σ:=
 (tQ a cap w).mono fun e w' ⟨he,hw⟩=>⟨_,he,rfl,by rw [hw];exact hs⟩
theorem wX{v:Value}{xs:List Int}{en:Ent}(hs:St H w (en::σ))(hO:cN 1 v (Is xs) en)(hl:xs.length≤17592186044416):
  Cl Tryz.prog 290 [v] w fun u w'=>∃L en',cN 1 u (Is L) en'∧L.length≤xs.length∧lZ (fun x=>x∈xs) L∧St H w' (en'::σ):=by
 rcases hO with ⟨a,rfl,h0,rfl⟩|⟨b,len,cap,sp,rfl,rfl,h3,h4,h5⟩
 ·have hx:xs=[]:=by simpa using h0
  subst hx
  refine Cl.o Tryz.func290 Tryz.ntmps290 ag1 ?_
  refine .aj (.zn zg (.aj (.z zm (.o (.call Tryz.call303 rfl (tR hs) ?_)))));rintro _ w ⟨rfl,hs⟩
  refine .nil (.aj (.z zm (.o (.call Tryz.call304 rfl (qs hs) ?_))));rintro _ w ⟨rfl,hs⟩
  refine .zn zg (.ret (Fin.bq Tryz.results290 rfl ?_))
  exact ⟨[],_,.nil 1 a,bT,.nil bT,hs.out⟩
 ·obtain rfl:len=xs.length:=by simpa using h3.symm
  refine Cl.o Tryz.func290 Tryz.ntmps290 ag1 ?_
  refine .aj (.zn zg (.aj (.z zm (.o (.call Tryz.call303 rfl (vC hs hl) ?_)))));rintro _ w ⟨rfl,hs⟩
  refine .nil (.aj (.z zm ?_))
  have hml:(xs.mergeSort fun x y=>decide (x≤y)).length=xs.length:=List.length_mergeSort _
  rw [←hml]
  refine .o (.call Tryz.call304 rfl (q7 hs ak ak) ?_);rintro _ w ⟨rfl,hs⟩
  refine .zn zg (.ret (Fin.bq Tryz.results290 rfl ?_))
  have hcl:=Go.Lib.compact_length_le (xs.mergeSort fun x y=>decide (x≤y))
  have h4':xs.length+sp.length=cap:=by simpa using h4
  exact ⟨_,_,.inr ⟨b,_,cap,Is (List.replicate ((xs.mergeSort fun x y=>decide (x≤y)).length - (Go.Lib.compact (xs.mergeSort fun x y=>decide (x≤y))).length) 0)++sp,rfl,rfl,bT,by simp;omega,ak⟩,ak,Aw,hs⟩
theorem mu{v:Value}{s:dp}(hs:St H w σ)(hr:RSy H v s)(hlen:s.cO.length≤4398046510976):
  Cl Tryz.prog 264 [v] w fun u w'=>∃L en,cN 1 u (Is L) en∧L.length≤s.cO.length∧lZ (Hv s.cO) L∧St H w' (en::σ):=by
 obtain ⟨ul,rfl,hl⟩:=hr
 obtain ⟨al,cl,rfl⟩:=RL.shape hl
 refine Cl.o Tryz.func264 Tryz.ntmps264 ag1 ?_
 refine .aj (.bx hs fun b1 w hs=>?_)
 refine .zn zg (.aj (.zn zg (.seq (.aj (.z (zfa cA) (.y hs (zld dr) (.z (da aJ) (.zn zm (.for (N:=s.cO.length) (J:=fun k fr w=>∃v3 en,cN 1 v3 (Is ((s.cO.take k).map Lim.S)) en∧fr=[(3,v3),(7,.slice al s.cO.length cl)]∧St H w (en::σ)) ak ?_ ?_ ?_)))))))))
 ·exact .mk ⟨_,_,.nil 1 none,rfl,hs.nul.sb⟩
 ·rintro k fr w hk ⟨v3,en,hO,rfl,hs⟩
  obtain ⟨x,hx⟩:=nth (l:=s.cO) hk
  obtain ⟨a3,l3,c3,rfl,h3⟩:=hO.shape
  refine .block (.aj (.ixX hs hl rfl rfl aJ bg hx rfl ?_));intro b11 o11 hc11
  refine .q hs (bQ (vs:=x.c) rfl fw bg hc11) (.o (.alloc hs eD rfl fun b5 w hs=>?_))
  refine .o (.aU (vs:=x.c) hs rfl rfl bg fun w hs=>?_)
  refine .nil (.region (.z zm (.z (zfa km) (.y hs (zld ae) (.o (.buildSlice (cells:=[_]) hs dc rfl rfl fun b16 w hs=>?_))))))
  refine .o (.append (ys:=Is [x.S]) hs cV rfl rfl hO (.own .here rfl rfl) (js _) (fun l' h=>by simp at h;omega) ?_);intro v17 en17 w hO2 hs
  rw [←List.map_append] at hO2
  refine .zn zg (nB (nT ?_))
  exact .mk ⟨_,_,by rw [dj hx,List.map_append];exact hO2,rfl,hs.sb⟩
 ·rintro fr w ⟨v3,en,hO,rfl,hs⟩
  rw [List.take_length] at hO
  refine nT (.aj (.z zm (.o (.call Tryz.call290 rfl (wX hs hO (by rw [List.length_map];omega)) ?_))));rintro v20 w ⟨L,en',hO',hL,hR,hs⟩
  rw [List.length_map] at hL
  refine .zn zg (.ret (Fin.bq Tryz.results264 rfl ?_))
  exact ⟨L,en',hO',hL,hR.congr fun x=>by simp [Hv],hs⟩
theorem pF{v:Value}{en:Ent}{xs:List Int}{g:Nat}{cap:List Value}(q:Int→Bool)(hs:St H w (en::σ))(hO:cN 1 v (Is xs) en)(hl:xs.length≤17592186044416)(hc:∀args w,(callFunc g args).run Tryz.prog w= .ok (.enter g args) w)
  (hp:∀H' w σ (n:Int),n∈xs→HLe H H'→St H' w σ→Cl Tryz.prog g ([I n]++cap) w fun u w'=>∃H1,HLe H' H1∧u= .bool (q n)∧St H1 w' σ):
  Cl Tryz.prog 228 [v,.func (.func g) #[] cap.toArray] w fun u w'=>∃H1 i,HLe H H1∧u=I i∧((i= -1∧∀x∈xs,q x=false)∨(∃(k:Nat) (x:Int),i=k∧xs[k]? =some x∧q x=true∧∀j<k,∀y,xs[j]? =some y→q y=false))∧St H1 w' (en::σ):=by
 obtain ⟨a,c,rfl⟩:=hO.zi
 refine Cl.o Tryz.func228 Tryz.ntmps228 ag2 ?_
 refine .aj (.zn zg (.seq (.aj (.z zm (.z (da af) (.zn zm (.for (N:=xs.length) (J:=fun k fr w=>fr=[(1,.func (.func g) #[] cap.toArray),(0,.slice a xs.length c)]∧∃H1,HLe H H1∧(∀j<k,∀y,xs[j]? =some y→q y=false)∧St H1 w (en::σ)) ak ?_ ?_ ?_)))))))
 ·exact .mk ⟨rfl,H,HLe.refl H,fun j hj=>by omega,hs⟩
 ·rintro k fr w hk ⟨rfl,H1,hle1,hno,hs⟩
  have hx:=bJ hk
  obtain ⟨b,c',sp,hv,rfl,_⟩:=hO.blk ak
  cases hv
  refine .block (.aj (.z zm (.zn zg (.aj (.z zm (.z zm (.z zm (.z (zix af ai) (.q hs (gY rfl ae (hv:=gy hk sp)) (.o (.pQ (first:=[]) (cap:=cap) rfl rfl hc (hp _ _ _ (gi xs k) (List.mem_of_getElem? hx) hle1 hs) ?_)))))))))));rintro _ w ⟨H2,hle2,rfl,hs⟩
  refine .nil (.cond rfl (fun hc16=>?_) (fun hc16=>?_))
  ·refine .aj (.z zm (.zn zg (.ret (rB (rT (rB (rT (Fin.bq uA rfl ?_))))))))
   exact ⟨H2,_,hle1.trans hle2,rfl,.inr ⟨k,_,rfl,hx,hc16,hno⟩,hs⟩
  ·refine .skip (nB (nT ?_))
   exact .mk ⟨rfl,H2,hle1.trans hle2,fi hno hx hc16,hs⟩
 ·rintro fr w ⟨rfl,H1,hle1,hno,hs⟩
  refine nT (.aj (.zn zg (.ret (Fin.bq uA rfl ?_))))
  exact ⟨H1,_,hle1,rfl,.inl ⟨rfl,fun x hx=>by
   obtain ⟨j,hj⟩:=List.getElem?_of_mem hx
   exact hno j (List.getElem?_eq_some_iff.1 hj).1 x hj⟩,hs⟩
set_option maxHeartbeats 1000000 in
theorem nS{v:Value}{en:Ent}{xs:List Int}{g:Nat}{cap:List Value}(q:Int→Bool)(hs:St H w (en::σ))(hO:cN 1 v (Is xs) en)(hl:xs.length≤17592186044416)(hc:∀args w,(callFunc g args).run Tryz.prog w= .ok (.enter g args) w)
  (hp:∀H' w σ (n:Int),n∈xs→HLe H H'→St H' w σ→Cl Tryz.prog g ([I n]++cap) w fun u w'=>∃H1,HLe H' H1∧u= .bool (q n)∧St H1 w' σ):
  Cl Tryz.prog 267 [v,.func (.func g) #[] cap.toArray] w fun u w'=>∃H1 en',HLe H H1∧cN 1 u (Is (xs.filter fun x=> !q x)) en'∧St H1 w' (en'::σ):=by
 obtain ⟨a,c,rfl⟩:=hO.zi
 refine Cl.o Tryz.func267 Tryz.ntmps267 ag2 ?_
 refine .aj (.zn zg (.aj (.z zm (.z zm (.o (.call Tryz.call228 rfl (pF q hs hO hl hc hp) ?_))))));rintro _ w ⟨H1,i0,hle1,rfl,hcase,hs⟩
 refine .zn zg (.seq (.aj (.z zm (.zn fF (.bn rfl (fun hc12=>?_) (fun hc12=>?_))))))
 ·refine .aj (.z zm (.zn zg (.ret (rT (Fin.bq Tryz.results267 rfl ?_)))))
  have hno:∀x∈xs,q x=false:=by
   rcases hcase with ⟨_,h⟩|⟨k,x,h,_⟩
   ·exact h
   ·omega
  have e:xs.filter (fun x=> !q x)=xs:=List.filter_eq_self.2 fun x hx=>by simp [hno x hx]
  exact ⟨H1,en,hle1,by rw [e];exact hO,hs⟩
 ·refine .skip (nT (.seq (.aj (.z zm ?_))))
  obtain ⟨k0,x0,rfl,hx0,hq0,hno⟩:∃(k:Nat) (x:Int),i0=k∧xs[k]? =some x∧q x=true∧∀j<k,∀y,xs[j]? =some y→q y=false:=hcase.resolve_left fun h=>hc12 h.1
  have hk0:=(List.getElem?_eq_some_iff.1 hx0).1
  obtain ⟨b,c',sp,hv,rfl,hc'⟩:=hO.blk ak
  cases hv
  refine .z cu (.zn zg (.block ?_))
  refine .loop (fun p:Nat×Nat=>⟨42,[],[(5,I (p.1:Int)),(6,I (p.2:Int)),(1,.func (.func g) #[] cap.toArray),(0,.slice (some ⟨b,0,none⟩) xs.length c)]⟩)
   (fun p w=>k0<p.2∧∃Y H1,HLe H H1∧A7 q xs Y p.1 p.2∧St H1 w (.blk b (Is Y++sp)::σ))
   (fun p=>xs.length - p.2) (k0,k0+1) (.cons rfl (.cP rfl (by dsimp only;omega) a6))
   ⟨by dsimp only;omega,xs,H1,hle1,.start hx0 hq0 hno,hs⟩ ?_
  clear hs hle1 hcase
  rintro ⟨i,j⟩ w ⟨hkj,Y,H1,hle1,hD,hs⟩
  dsimp only at hkj hD ⊢
  have hYl:=hD.len
  have hij:=hD.le
  have hjl:=hD.jl
  have hilt:=hD.lt hx0 hq0 hkj
  refine .seq (.aj (.z zm (.z zm (.z (da af) (.zn fV (.bn rfl (fun hc19=>?_) (fun hc19=>?_)))))))
  ·refine .skip (nT (.seq (.block (.aj (.z zm (.z zm ?_))))))
   have hj:j<Y.length:=by omega
   have hx:xs[j]? =some (gi Y j):=by rw [hD.rest j (Nat.le_refl _)];exact bJ ak
   refine .z (zix af ai) (.q hs (gY rfl ae (hv:=gy hj sp)) (.zn zg (.aj (.z zm (.z zm (.o (.pQ (first:=[]) (cap:=cap) rfl rfl hc (hp _ _ _ (gi Y j) (List.mem_of_getElem? hx) hle1 hs) ?_)))))));rintro _ w ⟨H2,hle2,rfl,hs⟩
   refine .zn fI (.cond rfl (fun hc29=>?_) (fun hc29=>?_))
   ·refine .aj (.z zm (.z zm (.z zm (.z (zix af ai) (.o (.store hs rfl rfl ai ?_ .here (lU (show i<Y.length by omega) sp) (jY (show i<Y.length by omega) sp _)))))));intro w hs
    refine .nil (.region (.z zm (.z cu (.zn zg (nB (nT (.region (.z zm (.z cu (.zn zg (nT ?_)))))))))))
    exact ⟨(i+1,j+1),.cP rfl (by dsimp only;omega) (.cP rfl (by dsimp only;omega) a6),⟨by dsimp only;omega,_,H2,hle1.trans hle2,hD.keep hx (by simpa using hc29),hs⟩,by dsimp only;omega⟩
   ·refine .skip (nB (nT (.region (.z zm (.z cu (.zn zg (nT ?_)))))))
    exact ⟨(i,j+1),.cons rfl (.cP rfl (by dsimp only;omega) a6),⟨by dsimp only;omega,_,H2,hle1.trans hle2,hD.skip hx (by simpa using hc29),hs⟩,by dsimp only;omega⟩
  ·refine .exit (xT (xT (xB (nT (.aj (.z zm (.z zm ?_)))))))
   obtain rfl:xs.length=j:=by omega
   refine .q hs (zr (k:=i) rfl rfl af ai ak ak) ?_
   rw [show 0+i*1=i by omega]
   refine .o (.Iu (c:=Is Y++sp) hs rfl af cq (by simp;omega) ?_);intro w hs
   rw [hD.done sp] at hs
   have hil:=hD.il
   rw [List.take_length] at hil
   refine .nil (.aj (.z zm (.z zm (.q hs (vS (k:=i) rfl rfl af ai ak) (.zn zg (.ret (Fin.bq Tryz.results267 rfl ?_)))))))
   exact ⟨H1,_,hle1,.inr ⟨b,i,c,List.replicate (xs.length - i) (I 0)++sp,rfl,rfl,by simp [hil],by simp [←hil];omega,ak⟩,hs⟩
def wZ(L:List Int):List (List Value):=(List.range L.length).map fun j=>[I ((L.length - 1 - j:Nat):Int),I (gi L (L.length - 1 - j))]
theorem mv(L:List Int):(wZ L).length=L.length:=by simp [wZ]
theorem z6{L:List Int}{j:Nat}(h:j<(wZ L).length):(wZ L)[j]=[I ((L.length - 1 - j:Nat):Int),I (gi L (L.length - 1 - j))]:=by simp [wZ]
theorem nV{H:bV}{b:Nat}{v:Value}{L:List Int}(hb:Row H b [v])(hr:RI H v L):Iter Tryz.prog 291 [Pt b] H (wZ L):=by
 intro l II Ix _ _ hy H0 σb0 σf w hle hI0 hs
 obtain ⟨a,c,rfl⟩:=RI.shape hr
 have hlen:=(RI.len hr).2.2
 have hb0:cellAt H0 b 0=some (.slice a L.length c):=cellAt.mono (hb.at 0) hle
 refine Cl.o Tryz.func291 Tryz.ntmps291 ag2 ?_
 refine .aj (.y hs (zld an) (.z (da af) (.z fM (.zn zg (.block ?_)))))
 refine .loop (fun j:Nat=>⟨19,[],[(3,I ((L.length:Int) - 1 - (j:Int))),(0,.func (.yield l) #[] #[]),(1,Pt b)]⟩)
  (fun j w=>j≤L.length∧∃H1 σb,HLe H H1∧HLe H0 H1∧II j H1 σb∧St H1 w (σb++σf)) (fun j=>L.length - j) 0 (.cP rfl bT a6)
  ⟨Nat.zero_le _,H0,σb0,hle,HLe.refl _,hI0,hs⟩ ?_
 clear hs hI0
 rintro j w ⟨hj,H1,σb,hle1,hle0,hI,hs⟩
 have hb1:cellAt H1 b 0=some (.slice a L.length c):=cellAt.mono hb0 hle0
 refine .seq (.aj (.z zm (.zn uF (.bn rfl (fun hc8=>?_) (fun hc8=>?_)))))
 ·refine .skip (nT (.seq (.block (.aj (.z zm (.z zm (.y hs (zld an) (.z zm (.ixY hs (hr.mono hle1) rfl rfl af ai (bJ (l:=L) (i:=L.length - 1 - j) ak) ak ?_)))))))));intro b15 o15 hc15
  refine .q hs (aP rfl ae hc15) ?_
  have hk':j<(wZ L).length:=by rw [mv];omega
  have hyd:=hy j hk' H1 σb σf w hle1 hI hs
  rw [z6 hk',show ((L.length - 1 - j:Nat):Int)=(L.length:Int) - 1 - (j:Int) by omega] at hyd
  refine .o (.yield rfl rfl hyd ?_);rintro v17 w ⟨H2,σ2,g1,hs,g3⟩
  obtain ⟨bb,rfl,gT,gF⟩:=ot g3
  refine .zn fI (.cond rfl (fun hc18=>?_) (fun hc18=>?_))
  ·refine .ret (rB (rT (rT (rB (Fin.Ho Tryz.results291 ?_)))))
   exact ⟨H2,σ2,hle0.trans g1,hs,.inr (gF (by simpa using hc18))⟩
  ·refine .skip (nB (nT (.region (.z zm (.z fM (.zn zg (nT ?_)))))))
   exact ⟨j+1,.cP rfl (by simp;omega) a6,⟨ak,H2,σ2,hle1.trans g1,hle0.trans g1,gT (by simpa using hc18),hs⟩,ak⟩
 ·refine .exit (xT (xT (xB ?_)))
  obtain rfl:L.length=j:=by omega
  exact Fin.zV Tryz.results291 ⟨H1,σb,hle0,hs,.inl (by rw [mv];exact hI)⟩
theorem pG{v:Value}{L:List Int}(hs:St H w σ)(hr:RI H v L):
  Cl Tryz.prog 265 [v] w fun u w'=>∃H1 b,HLe H H1∧u= .func (.func 291) #[] #[Pt b]∧Iter Tryz.prog 291 [Pt b] H1 (wZ L)∧St H1 w' σ:=by
 obtain ⟨a,c,rfl⟩:=RI.shape hr
 refine Cl.o Tryz.func265 Tryz.ntmps265 ag1 ?_
 refine .aj (.bx hs fun b1 w hs=>?_)
 refine .zn zg (.aj (.q hs (dD (f:=[]) (c:=[_]) rfl rfl) (.zn zg (.ret (Fin.bq Tryz.results265 rfl ?_)))))
 obtain ⟨H1,g1,g2,hs⟩:=hs.cQ .here
 exact ⟨H1,b1,g1,rfl,nV g2 (hr.mono g1),hs⟩
theorem uq{n m:Int}{b:Nat}(hs:St H w σ)(hb:Row H b [I m]):
  Cl Tryz.prog 268 [I n,Pt b] w fun u w'=>u= .bool (decide (n=m))∧St H w' σ:=by
 have hb0:cellAt H b 0=some (I m):=hb.at 0
 refine Cl.o Tryz.func268 Tryz.ntmps268 ag2 ?_
 refine .aj (.zn zg (.aj (.z zm (.y hs (zld ae) (.z fF (.zn zg (.ret (Fin.bq Tryz.results268 rfl ?_))))))))
 exact ⟨rfl,hs⟩
set_option maxHeartbeats 1000000 in
theorem qJ{v:Value}{s:dp}(hs:St H w σ)(hr:RSy H v s):
  Cl Tryz.prog 220 [v] w fun u w'=>∃H1 vx out e,HLe H H1∧u= .tuple #[vx,I e]∧RI H1 vx out∧A9 s out e∧St H1 w' σ:=by
 obtain ⟨ul,rfl,hl⟩:=hr
 obtain ⟨al,cl,rfl⟩:=RL.shape hl
 refine Cl.o Tryz.func220 Tryz.ntmps220 ag1 ?_
 refine .aj (.bx hs fun b1 w hs=>?_)
 refine .z zg (.zn zg (.seq (.aj (.y hs (zls [_,_] bM aV) (.o (.call Tryz.call197 rfl (jC (s:=s) hs ⟨_,rfl,hl⟩) ?_))))));rintro _ w ⟨rfl,hs⟩
 refine .zn zg (.aj (.z zm (.zn hZ (.dZ rfl (fun hc12=>?_) (fun hc12=>?_)))))
 ·refine .aj (.z zm (.z zg (.zn zg (.ret (rT (?_))))))
  exact Fin.jt [] [] hs fun w hs=>⟨_,results2 Tryz.results220 rfl rfl,H,_,[],_,HLe.refl H,rfl,RS.nil H 1 none 0,.bad hc12,hs.out⟩
 ·refine .skip (nT (.seq (.aj (.y hs (zls [_,_] bM aV) ?_))))
  have hok:s.Ok:=s.dT.1 (by simpa using hc12)
  have hll:=hok.len
  refine .o (.call Tryz.call223 rfl (jX (s:=s) hs hok ⟨_,rfl,hl⟩) ?_);rintro _ w ⟨H1,bb,hle1,rfl,hbb,hs⟩
  refine .nil (.cond rfl (fun hc15=>?_) (fun hc15=>?_))
  ·refine .aj (.z zg (.zn zg (.ret (rT (?_)))))
   exact Fin.jt [] [] hs fun w hs=>⟨_,results2 Tryz.results220 rfl rfl,H1,_,[],_,hle1,rfl,RS.nil H1 1 none 0,.none hok (hbb.1 hc15),hs.out⟩
  ·refine .skip (nT (.aj (.y hs (zls [_,_] bM aV) ?_)))
   have hns:¬s.Sound:=fun h=>by rw [hbb.2 h] at hc15;cases hc15
   refine .o (.call Tryz.call264 rfl (mu (s:=s) hs ⟨_,rfl,hl.mono hle1⟩ ak) ?_);rintro v17 w ⟨L,en,hO,hLl,hRise,hs⟩
   obtain ⟨a17,l17,c17,rfl,h17⟩:=hO.shape
   refine .o (.alloc hs ep rfl fun b5 w hs=>?_)
   refine .o (.store hs rfl rfl aB fun w hs=>?_)
   refine .nil (.seq (.aj (.y hs (zls [_,_] bM aV) (.o (.call Tryz.call264 rfl (mu (s:=s) hs ⟨_,rfl,hl.mono hle1⟩ ak) ?_)))));rintro v19 w ⟨L',en',hO',hLl',hRise',hs⟩
   obtain rfl:L=L':=hRise.uniq hRise'
   obtain ⟨H2,hle2,hR19,hs⟩:=cN.dM hO' ak hs .here
   refine .o (.call Tryz.call265 rfl (pG hs hR19) ?_);rintro _ w ⟨H3,b20,hle3,rfl,hit,hs⟩
   have hle03:=hle1.trans (hle2.trans hle3)
   refine .nil (.block ?_)
   refine .rangeFunc (gf:=291) (cap:=[Pt b20]) (xs:=wZ L) (σb:=[.blk b1 [I s.many,.slice al s.cO.length cl],.blk b5 [.slice a17 l17 c17],en]) (σf:=σ) (hs.sb:St H3 w (.blk b1 _:: .blk b5 _::en::σ)) trivial rfl hit Tryz.call291 (fun x hx=>by
     simp only [wZ,List.mem_map] at hx
     obtain ⟨j,_,rfl⟩:=hx;rfl) rfl
    (I:=fun j H' σb=>∃(t:dp) (ut vo:Value) (out:List Int) (en:Ent),σb=[.blk b1 [I t.many,ut],.blk b5 [vo],en]∧RL H' ut t.cO∧cN 1 vo (Is out) en∧out.length≤L.length∧t.Ok∧wC s L (L.length - j) t out) (Ix:=fun _ _ _=>False)
    (fun j _ _ σ g1 ⟨t,ut,vo,out,en,g2,g3,g4⟩=>⟨t,ut,vo,out,en,g2,g3.mono g1,g4⟩) (fun _ _ _ _ _ h=>h)
    ⟨s,_,_,L,en,rfl,hl.mono hle03,hO,Nat.le_refl _,hok,.start⟩ ?_ ?_ (fun D c H' σb w _ h _=>h.elim)
   ·rintro l j hj H4 σb2 σf2 w hle4 ⟨t,ut,vo,out,en,rfl,hut,hOo,hol,htok,hC⟩ hs ⟨rr,hrr⟩
    rw [z6 hj]
    have hjL:j<L.length:=by rw [mv] at hj;exact hj
    obtain ⟨at',ct,rfl⟩:=RL.shape hut
    obtain ⟨ao,lo,co,rfl,hlo⟩:=hOo.shape
    refine .region (.o (.alloc hs cq rfl fun b7 w hs=>?_))
    refine .o (.store hs rfl rfl ai fun w hs=>?_)
    refine .nil (nT (⟨H4,[.blk b7 [I (gi L (L.length - 1 - j))],.blk b1 [I t.many,.slice at' t.cO.length ct],.blk b5 [.slice ao lo co],en],HLe.refl _,hs,?_⟩));rintro w σf4 - hs
    refine .block (.aj (.y hs (zls [_,_] bM aV) (.y hs (zld ae) (.o (.buildSlice (cells:=[_]) hs dc rfl rfl fun b25 w hs=>?_)))))
    obtain ⟨H5,hle5,r25,hs⟩:=cN.dM (xs:=[gi L (L.length - 1 - j)]) (v:= .slice (some ⟨b25,0,none⟩) 1 1) (.full (len:=1) rfl) bT hs dz
    refine .o (.call Tryz.call266 rfl (rY (s:=t) hs ⟨_,rfl,hut.mono hle5⟩ r25 (by have:=htok.len;omega)) ?_);rintro _ w ⟨H6,hle6,⟨u26,rfl,hL26⟩,hs⟩
    obtain ⟨a26,c26,rfl⟩:=RL.shape hL26
    refine .o (.alloc hs eE rfl fun b8 w hs=>?_)
    refine .o (.aU (vs:=[_,_]) hs rfl rfl aV fun w hs=>?_)
    refine .nil (.aj (.y hs (zls [_,_] bM aV) (.o (.call Tryz.call223 rfl (jX (s:=t.wo [gi L (L.length - 1 - j)]) hs (htok.wo _) ⟨_,rfl,hL26⟩) ?_))));rintro _ w ⟨H7,b28,hle7,rfl,hb28,hs⟩
    have hle47:=hle5.trans (hle6.trans hle7)
    refine .zn fI (.cond rfl (fun hc29=>?_) (fun hc29=>?_))
    ·refine .aj (.y hs (zls [_,_] bM aV) (.o (.aU (vs:=[_,_]) hs rfl rfl aV fun w hs=>?_)))
     refine .nil (.region (.y hs (zld an) (.q hs (dD (f:=[]) (c:=[_]) rfl rfl) ?_)))
     obtain ⟨H8,hle8,r7,hs⟩:=hs.cQ (b:=b7) dz
     replace hs:St H8 w (en:: .blk b1 [I t.many,.slice a26 (t.wo [gi L (L.length - 1 - j)]).cO.length c26]:: .blk b5 [.slice ao lo co]::σf4):=hs.sb
     refine .o (.call Tryz.call267 rfl (nS (g:=268) (cap:=[Pt b7]) (fun n=>decide (n=gi L (L.length - 1 - j))) hs hOo ak Tryz.call268
      (fun H' w σ n _ hle hs=>(uq hs (r7.mono hle)).mono fun u w' ⟨g1,g2⟩=>⟨H',HLe.refl _,g1,g2⟩)) ?_);rintro v33 w ⟨H9,en9,hle9,hO9,hs⟩
     obtain ⟨a33,l33,c33,rfl,h33⟩:=hO9.shape
     refine .o (.store hs rfl rfl aB fun w hs=>?_)
     refine .nil (nB ?_)
     have hfl:=List.length_filter_le (fun n=> !decide (n=gi L (L.length - 1 - j))) out
     have e:L.length - (j+1)=L.length - 1 - j:=by omega
     have hns':¬(t.wo [gi L (L.length - 1 - j)]).Sound:=fun h=>by rw [hb28.2 h] at hc29;cases hc29
     exact ⟨H9,[.blk b1 [I t.many,.slice a26 (t.wo [gi L (L.length - 1 - j)]).cO.length c26],.blk b5 [.slice a33 l33 c33],en9],hle47.trans (hle8.trans hle9),(hs.sb:St H9 w (.blk b1 _:: .blk b5 _::en9::σf4)),t.wo [gi L (L.length - 1 - j)],_,_,_,_,rfl,hL26.mono (hle7.trans (hle8.trans hle9)),hO9,ak,htok.wo _,by
      rw [e]
      exact .drop (by rw [show L.length - 1 - j+1=L.length - j by omega];exact hC) hns'⟩
    ·refine .skip (nB ?_)
     have e:L.length - (j+1)=L.length - 1 - j:=by omega
     have hsd':(t.wo [gi L (L.length - 1 - j)]).Sound:=hb28.1 (by simpa using hc29)
     exact ⟨H7,[.blk b1 [I t.many,.slice at' t.cO.length ct],.blk b5 [.slice ao lo co],en],hle47,(hs.sb:St H7 w (.blk b1 _:: .blk b5 _::en::σf4)),t,_,_,_,_,rfl,hut.mono hle47,hOo,hol,htok,by
      rw [e]
      exact .keep (by rw [show L.length - 1 - j+1=L.length - j by omega];exact hC) hsd'⟩
   ·rintro D H4 σb2 w hle4 ⟨t,ut,vo,out,en,rfl,hut,hOo,hol,htok,hC⟩ hs
    rw [mv,Nat.sub_self] at hC
    obtain ⟨ao,lo,co,rfl,hlo⟩:=hOo.shape
    replace hs:St H4 w (.obj D (.deferred (some [])):: .blk b1 [I t.many,ut]:: .blk b5 [.slice ao lo co]::en::σ):=hs
    refine nB (nT (.aj (.y hs (zld an) (.z zg (.zn zg (.ret ?_))))))
    obtain ⟨H5,hle5,hR5,hs⟩:=cN.dM hOo ak hs dz
    exact Fin.jt [D] [] hs fun w hs=>⟨_,results2 Tryz.results220 rfl rfl,H5,_,out,0,hle03.trans (hle4.trans hle5),rfl,hR5,.ok hok hns hRise hC,hs.out⟩
theorem nR{v:Value}{xs:List Int}{g:Nat}{cap:List Value}(q:Int→Prop)(hs:St H w σ)(hR:RI H v xs)(hc:∀args w,(callFunc g args).run Tryz.prog w= .ok (.enter g args) w)
  (hp:∀H' w σ (n:Int),n∈xs→HLe H H'→St H' w σ→Cl Tryz.prog g ([I n]++cap) w fun u w'=>∃H1 b,HLe H' H1∧u= .bool b∧(b=true↔q n)∧St H1 w' σ):
  Cl Tryz.prog 228 [v,.func (.func g) #[] cap.toArray] w fun u w'=>∃H1 i,HLe H H1∧u=I i∧(0≤i↔∃x∈xs,q x)∧St H1 w' σ:=by
 obtain ⟨a,c,rfl⟩:=RI.shape hR
 have hl:=(RI.len hR).2.2
 refine Cl.o Tryz.func228 Tryz.ntmps228 ag2 ?_
 refine .aj (.zn zg (.seq (.aj (.z zm (.z (da af) (.zn zm (.for (N:=xs.length) (J:=fun k fr w=>fr=[(1,.func (.func g) #[] cap.toArray),(0,.slice a xs.length c)]∧∃H1,HLe H H1∧(∀j<k,∀y,xs[j]? =some y→¬q y)∧St H1 w σ) ak ?_ ?_ ?_)))))))
 ·exact .mk ⟨rfl,H,HLe.refl H,fun j hj=>by omega,hs⟩
 ·rintro k fr w hk ⟨rfl,H1,hle1,hno,hs⟩
  obtain ⟨x,hx⟩:=nth hk
  refine .block (.aj (.z zm (.zn zg (.aj (.z zm (.z zm (.z zm (.ixY hs (hR.mono hle1) rfl rfl af ai hx rfl ?_))))))));intro b14 o14 hc14
  refine .q hs (aP rfl ae hc14) (.o (.pQ (first:=[]) (cap:=cap) rfl rfl hc (hp _ _ _ x (List.mem_of_getElem? hx) hle1 hs) ?_));rintro _ w ⟨H2,b16,hle2,rfl,hb16,hs⟩
  refine .nil (.cond rfl (fun hc16=>?_) (fun hc16=>?_))
  ·refine .aj (.z zm (.zn zg (.ret (rB (rT (rB (rT (Fin.bq uA rfl ?_))))))))
   exact ⟨H2,_,hle1.trans hle2,rfl,⟨fun _=>⟨x,List.mem_of_getElem? hx,hb16.1 hc16⟩,fun _=>by omega⟩,hs⟩
  ·refine .skip (nB (nT ?_))
   exact .mk ⟨rfl,H2,hle1.trans hle2,fi hno hx (fun h=>by rw [hb16.2 h] at hc16;cases hc16),hs⟩
 ·rintro fr w ⟨rfl,H1,hle1,hno,hs⟩
  refine nT (.aj (.zn zg (.ret (Fin.bq uA rfl ?_))))
  exact ⟨H1,_,hle1,rfl,⟨fun h=>by omega,fun ⟨x,h1,h2⟩=>by
   obtain ⟨j,hj⟩:=List.getElem?_of_mem h1
   exact (hno j (List.getElem?_eq_some_iff.1 hj).1 x hj h2).elim⟩,hs⟩
theorem mz{v:Value}{xs:List Int}{g:Nat}{cap:List Value}(q:Int→Prop)(hs:St H w σ)(hR:RI H v xs)(hc:∀args w,(callFunc g args).run Tryz.prog w= .ok (.enter g args) w)
  (hp:∀H' w σ (n:Int),n∈xs→HLe H H'→St H' w σ→Cl Tryz.prog g ([I n]++cap) w fun u w'=>∃H1 b,HLe H' H1∧u= .bool b∧(b=true↔q n)∧St H1 w' σ):
  Cl Tryz.prog 185 [v,.func (.func g) #[] cap.toArray] w fun u w'=>∃H1 b,HLe H H1∧u= .bool b∧(b=true↔∃x∈xs,q x)∧St H1 w' σ:=by
 refine Cl.o Tryz.func185 Tryz.ntmps185 ag2 ?_
 refine .aj (.zn zg (.aj (.z zm (.z zm (.o (.call Tryz.call228 rfl (nR q hs hR hc hp) ?_))))));rintro _ w ⟨H1,i,hle1,rfl,hi,hs⟩
 refine .z uF (.zn zg (.ret (Fin.bq Tryz.results185 rfl ?_)))
 exact ⟨H1,_,hle1,rfl,by simp only [decide_eq_true_eq];exact hi,hs⟩
theorem ql{a0 a1 a2:Int}(hs:St H w σ):Cl Tryz.prog 284 [I a0,I a1,I a2] w fun v w'=>v= .bool (decide (a1≤a0∧a0≤a2))∧St H w' σ:=by
 refine Cl.o Tryz.func284 Tryz.ntmps284 ag3 ?_
 refine .aj (.zn zg (.aj (.z zm (.z zm (.z nb (.z zm (.ie (t':=10) rfl (fun hb10=>?_) (fun hb10=>?_))))))))
 ·refine .T (.z zm (.T (.z zm (.T (.z nb (.z zpT (.zn zg (.ret (Fin.bq Tryz.results284 rfl ?_)))))))))
  exact ⟨by simp [*],hs.out⟩
 ·refine .Fs 3 3 true (.z zpF (.zn zg (.ret (Fin.bq Tryz.results284 rfl ?_))))
  exact ⟨by simp [*],hs.out⟩
theorem jm{v:Value}{l:List Int}{many:Nat}{most:Int}(hs:St H w σ)(hr:RI H v l):
  Cl Tryz.prog 259 [v,I many,I most] w fun v w'=>∃b:Bool,v= .bool b∧(b=true↔fq many most l)∧St H w' σ:=by
 obtain ⟨a,c,rfl⟩:=RI.shape hr
 have hlen:=(RI.len hr).2.2
 refine Cl.o Tryz.func259 Tryz.ntmps259 ag3 ?_
 refine .aj (.zn zg (.seq (.aj (.z zm (.z (da af) (.z zm (.o (.call Tryz.call284 rfl (ql hs) ?_))))))));rintro _ w ⟨rfl,hs⟩
 refine .z fI (.z zm (.bif (t':=14) rfl (fun hb14=>?_) (fun hb14=>?_)))
 ·refine .Fs 4 5 false (.z zpT (.z zm (.Fs 8 11 false (.zn zpT (.cT (.aj (.zn zg (.ret (rT (Fin.bq CI rfl ?_))))))))))
  exact ⟨false,rfl,⟨fun h=>(by cases h),fun h=>by have:=h.two;have:=h.many;simp at hb14;omega⟩,hs⟩
 ·refine .T (.z zm (.T ?_))
  have htwo:2≤l.length∧l.length≤many:=by simp at hb14;omega
  refine .ixY hs hr rfl rfl af ai (bJ (l:=l) (i:=0) ak) cz ?_;intro b16 o16 hc16
  refine .T (.q hs (aP rfl ae hc16) (.T (.z fV (.z zpF (.z zm (.ie (t':=20) rfl (fun hb20=>?_) (fun hb20=>?_)))))))
  ·refine .Fs 8 11 false (.zn zpT (.cT (.aj (.zn zg (.ret (rT (Fin.bq CI rfl ?_)))))))
   exact ⟨false,rfl,⟨fun h=>(by cases h),fun h=>by have:=h.low;omega⟩,hs⟩
  ·refine .T (.z zm (.T (.z zm (.T (.z (da af) (.T (.z fM (.T (.ixY hs hr rfl rfl af ai (bJ (l:=l) (i:=(l.length - 1)) ak) cz ?_)))))))));intro b25 o25 hc25
   refine .T (.q hs (aP rfl ae hc25) (.T (.z zm (.T (.z k7 (.zn zpF (.bn rfl (fun hc29=>?_) (fun hc29=>?_))))))))
   ·refine .aj (.zn zg (.ret (rT (Fin.bq CI rfl ?_))))
    exact ⟨false,rfl,⟨fun h=>(by cases h),fun h=>by have:=h.high;omega⟩,hs⟩
   ·refine .skip (nT (.seq (.aj (.z zm (.q hs (Db (k:=1) rfl rfl af ai ak ak) (.z (da af) (.zn zm (.for (N:=l.length - 1) (J:=fun k fr w=>fr=[(31,.slice (if c=1 then a else a.map (·.add (1*1))) (l.length - 1) (c - 1)),(0,.slice a l.length c)]∧(∀j<k,gi l j<gi l (j+1))∧St H w σ) ak ?_ ?_ ?_))))))))
    ·exact .mk ⟨rfl,fun j hj=>by omega,hs⟩
    ·rintro k fr w hk ⟨rfl,hno,hs⟩
     have ht:=hr.tail (k:=1) ak
     have hx:(l.drop 1)[k]? =some (gi l (k+1)):=by rw [List.getElem?_drop,Nat.add_comm];exact bJ ak
     refine .block (.aj (.z zm (.ixY hs ht rfl rfl af ai hx rfl ?_)));intro b36 o36 hc36
     refine .q hs (aP rfl ae hc36) (.z zg (.zn zg (.aj (.z zm (.z zm (.ixY hs hr rfl rfl af ai (bJ (l:=l) (i:=k) ak) cz ?_))))));intro b40 o40 hc40
     refine .q hs (aP rfl ae hc40) (.z zm (.zn uF (.bn rfl (fun hc43=>?_) (fun hc43=>?_))))
     ·refine .aj (.zn zg (.ret (rB (rT (rB (rT (Fin.bq CI rfl ?_)))))))
      exact ⟨false,rfl,⟨fun h=>(by cases h),fun h=>by have:=h.rise k ak;omega⟩,hs⟩
     ·refine .skip (nB (nT ?_))
      exact .mk ⟨rfl,fun j hj=>by
       by_cases e:j=k
       ·subst e;omega
       ·exact hno j ak,hs⟩
    ·rintro fr w ⟨rfl,hno,hs⟩
     refine nT (.aj (.zn zg (.ret (Fin.bq CI rfl ?_))))
     exact ⟨true,rfl,⟨fun _=>⟨ak,ak,ak,ak,fun i hi=>hno i ak⟩,fun _=>rfl⟩,hs⟩
theorem nP{v:Value}{l:List Int}(hs:St H w σ)(hr:RI H v l):
  Cl Tryz.prog 299 [v] w fun v w'=>∃e,v=I e∧((fq 9 100000 l∧e=0)∨(¬fq 9 100000 l∧e≠0))∧St H w' σ:=by
 obtain ⟨a,c,rfl⟩:=RI.shape hr
 refine Cl.o Tryz.func299 Tryz.ntmps299 ag1 ?_
 refine .aj (.zn zg (.seq (.aj (.z zm (.o (.call Tryz.call259 rfl (jm (many:=9) (most:=100000) hs hr) ?_))))));rintro _ w ⟨b4,rfl,hb4,hs⟩
 refine .zn fI (.cond rfl (fun hc5=>?_) (fun hc5=>?_))
 ·refine .aj (.zn zg (.ret (rT (Fin.bq Tryz.results299 rfl ?_))))
  exact ⟨_,rfl,.inr ⟨fun h=>by simp [hb4.2 h] at hc5,by decide⟩,hs⟩
 ·refine .skip (nT (.aj (.zn zg (.ret (Fin.bq Tryz.results299 rfl ?_)))))
  exact ⟨_,rfl,.inl ⟨hb4.1 (by simpa using hc5),rfl⟩,hs⟩
theorem jy{a b:Int}(hs:St H w σ)(ha:0<a)(hb:0<b∧b≤100000):
  Cl Tryz.prog 287 [I a,I b] w fun v w'=>v=I (rat a b)∧St H w' σ:=by
 have h1:0≤b.tdiv a:=Int.tdiv_nonneg ak ak
 have h2:b.tdiv a≤b:=by rw [Int.tdiv_eq_ediv_of_nonneg ak];exact Int.ediv_le_self _ ak
 have hw:=mC (m:=b.tdiv a) ⟨ak,ak⟩
 refine Cl.o Tryz.func287 Tryz.ntmps287 ag2 ?_
 refine .aj (.zn zg (.seq (.aj (.z zm (.z zm (.z Ag (.z fF (.z zm (.ie (t':=9) rfl (fun hb9=>?_) (fun hb9=>?_))))))))))
 ·refine .T (.z zm (.T (.z zm (.T (.z Hn (.T (.z nb (.zn zpT (.bn rfl (fun hc14=>?_) (fun hc14=>?_))))))))))
  ·refine .aj (.z zm (.z zm (.z Hn (.zn zg (.ret (rT (Fin.bq Tryz.results287 rfl ?_)))))))
   rw [hw] at hc14 ⊢
   exact ⟨by unfold rat;rw [if_pos ⟨by assumption,by assumption⟩],hs⟩
  ·refine .skip (nT (.aj (.zn zg (.ret (Fin.bq Tryz.results287 rfl ?_)))))
   rw [hw] at hc14
   exact ⟨by unfold rat;rw [if_neg ak],hs⟩
 ·refine .Fs 4 4 true (.zn zpF (.cF (.skip (nT (.aj (.zn zg (.ret (Fin.bq Tryz.results287 rfl ?_))))))))
  exact ⟨by unfold rat;rw [if_neg ak],hs⟩
def rL(l:List Int):List (List Value):=(mY l).map fun g=>[Value.agg #[I (g.at_:Int),I (g.n:Int)]]
theorem CN{l:List Int}(hp:fq 9 100000 l){i:Nat}(h:i+2<l.length):e9 l i=true↔0<rat (gi l (i+1) - gi l i) (gi l (i+2) - gi l (i+1))∨0<rat (gi l (i+2) - gi l (i+1)) (gi l (i+1) - gi l i):=by
 have h1:=hp.rise i ak
 have h2:gi l (i+1)<gi l (i+2):=hp.rise (i+1) ak
 unfold e9
 rw [CP ak ak]
 simp only [Bool.and_eq_true,decide_eq_true_eq]
 omega
theorem qm{H:bV}{b:Nat}{v:Value}{l:List Int}(hp:fq 9 100000 l)(hb:Row H b [v])(hr:RI H v l):Iter Tryz.prog 302 [Pt b] H (rL l):=by
 intro ly II Ix _ _ hy H0 σb0 σf w hle hI0 hs
 obtain ⟨a,c,rfl⟩:=RI.shape hr
 have hlen:=hp.many
 have hb0:cellAt H0 b 0=some (.slice a l.length c):=cellAt.mono (hb.at 0) hle
 refine Cl.o Tryz.func302 Tryz.ntmps302 ag2 ?_
 refine .aj (.zn zg (.block ?_))
 refine .loop (fun i:Nat=>⟨59,[],[(3,I (i:Int)),(0,.func (.yield ly) #[] #[]),(1,Pt b)]⟩)
  (fun i w=>i≤l.length∧∃j,j≤(mY l).length∧(mY l).drop j=nI l i∧∃H1 σb,HLe H H1∧HLe H0 H1∧II j H1 σb∧St H1 w (σb++σf)) (fun i=>l.length - i) 0 (.cP rfl bT a6)
  ⟨Nat.zero_le _,0,Nat.zero_le _,rfl,H0,σb0,hle,HLe.refl _,hI0,hs⟩ ?_
 clear hs hI0
 rintro i w ⟨hil,j,hj,hd,H1,σb,hle1,hle0,hI,hs⟩
 have hb1:cellAt H1 b 0=some (.slice a l.length c):=cellAt.mono hb0 hle0
 refine .seq (.aj (.z zm (.z cu (.y hs (zld an) (.z (da af) (.zn fV (.bn rfl (fun hc11=>?_) (fun hc11=>?_))))))))
 ·refine .skip (nT (.block (.aj (.z zm (.z (zbd [_,_] se) (.o (.alloc hs y0 rfl fun b4 w hs=>?_)))))))
  refine .o (.aU (vs:=[_,_]) hs rfl rfl pY fun w hs=>?_)
  refine .nil (.cut (fun fs w=>lF fs ⟨59,[],[(4,Pt b4),(3,I (i:Int)),(0,.func (.yield ly) #[] #[]),(1,Pt b)]⟩∧St H1 w (.blk b4 [I (i:Int),I (((if e9 l i then 2 else 1:Nat)):Int)]::(σb++σf))) ?_ ?_)
  ·refine .aj (.z zm (.z cu (.y hs (zld an) (.z (da af) (.zn fV (.bn rfl (fun hc18=>?_) (fun hc18=>?_)))))))
   ·refine .seq (.draw mix rfl hs fun w hs=>?_)
    refine .y 0 rfl hs an ?_;refine .z 1 rfl zm ?_;refine .z 2 rfl cu ?_
    have r1:=hp.rise i ak
    have r2:gi l (i+1)<gi l (i+2):=hp.rise (i+1) ak
    have hiff:=CN hp (i:=i) ak
    have q1:=hp.bd (i:=i) ak
    have q2:=hp.bd (i:=i+2) ak
    refine .ixX (enc:=fun x=>[I x]) (i:=3) hs rfl aH .none (hr.mono hle1) rfl rfl af ai (bJ (l:=l) (i:=(i+1)) ak) cz ?_;intro b22 o22 hc22;replace hc22:=bL.one hc22
    refine .r (i:=4) hs rfl aH .none (aP rfl ae hc22) ?_
    refine .y 5 rfl hs an ?_;refine .z 6 rfl zm ?_
    refine .ixX (enc:=fun x=>[I x]) (i:=7) hs rfl aH .none (hr.mono hle1) rfl rfl af ai (bJ (l:=l) (i:=i) ak) cz ?_;intro b26 o26 hc26;replace hc26:=bL.one hc26
    refine .r (i:=8) hs rfl aH .none (aP rfl ae hc26) ?_
    refine .zw 9 rfl fM ?_;refine .y 10 rfl hs an ?_;refine .z 11 rfl zm ?_;refine .z 12 rfl cu ?_
    refine .ixX (enc:=fun x=>[I x]) (i:=13) hs rfl aH .none (hr.mono hle1) rfl rfl af ai (bJ (l:=l) (i:=(i+2)) ak) cz ?_;intro b32 o32 hc32;replace hc32:=bL.one hc32
    refine .r (i:=14) hs rfl aH .none (aP rfl ae hc32) ?_
    refine .y 15 rfl hs an ?_;refine .z 16 rfl zm ?_;refine .z 17 rfl cu ?_
    refine .ixX (enc:=fun x=>[I x]) (i:=18) hs rfl aH .none (hr.mono hle1) rfl rfl af ai (bJ (l:=l) (i:=(i+1)) ak) cz ?_;intro b37 o37 hc37;replace hc37:=bL.one hc37
    refine .r (i:=19) hs rfl aH .none (aP rfl ae hc37) ?_
    refine .zw 20 rfl fM ?_;refine .z 21 rfl zg ?_;refine .z 22 rfl zg ?_;refine .D hs ?_
    refine .aj (.z zm (.z zm (.o (.call Tryz.call287 rfl (jy hs ak ak) ?_))));rintro _ w ⟨rfl,hs⟩
    refine .z k7 (.z zm (.ie (t':=44) rfl (fun hb44=>?_) (fun hb44=>?_)))
    ·refine .Fs 4 4 false (.zn zpT (.cT (.region (.z (zfa jv) (.o (.store hs rfl rfl ai fun w hs=>?_))))))
     refine .nil (nT ?_)
     rw [hiff.2 (.inl hb44)];exact ⟨a6,hs⟩
    ·refine .T (.z zm (.T (.z zm (.T (.o (.call Tryz.call287 rfl (jy hs ak ak) ?_))))));rintro _ w ⟨rfl,hs⟩
     refine .T (.z k7 (.zn zpF (.bn rfl (fun hc49=>?_) (fun hc49=>?_))))
     ·refine .region (.z (zfa jv) (.o (.store hs rfl rfl ai fun w hs=>?_)))
      refine .nil (nT ?_)
      rw [hiff.2 (.inr hc49)];exact ⟨a6,hs⟩
     ·refine .skip (nT ?_)
      rw [show e9 l i=false from Bool.eq_false_iff.2 fun h=>by have:=hiff.1 h;omega];exact ⟨a6,hs⟩
   ·refine .skip (nT ?_)
    rw [show e9 l i=false by simp [e9];omega];exact ⟨a6,hs⟩
  ·rintro fs w ⟨hfs,hs⟩
   refine WE.sub ?_ hfs
   have hgo:=wg (l:=l) (i:=i) ak
   rw [hgo] at hd
   have hjl:j<(mY l).length:=by
    have:=congrArg List.length hd
    simp at this;omega
   have hgj:(mY l)[j]=⟨i,e9 l i⟩:=by
    rw [List.drop_eq_getElem_cons hjl] at hd
    exact (List.cons.inj hd).1
   have hdj:(mY l).drop (j+1)=nI l (i+(if e9 l i then 2 else 1)):=by
    rw [List.drop_eq_getElem_cons hjl] at hd
    exact (List.cons.inj hd).2
   have hn12:(if e9 l i then 2 else 1:Nat)=1∨(if e9 l i then 2 else 1:Nat)=2:=by split<;>simp
   refine .seq (.aj (.z zm (.y hs (zls [_,_] Tryz.isAgg315 pY) ?_)))
   have hk':j<(rL l).length:=by simpa [rL] using hjl
   have hyd:=hy j hk' H1 σb (.blk b4 [I (i:Int),I (((if e9 l i then 2 else 1:Nat)):Int)]::σf) w hle1 hI (St.deep hs)
   rw [show (rL l)[j]=[Value.agg #[I (i:Int),I (((if e9 l i then 2 else 1:Nat)):Int)]] by simp only [rL,List.getElem_map,hgj];rfl] at hyd
   refine .o (.yield rfl rfl hyd ?_);rintro v53 w ⟨H2,σ2,g1,hs,g3⟩
   obtain ⟨bb,rfl,gT,gF⟩:=ot g3
   replace hs:=St.shallow hs
   refine .zn fI (.cond rfl (fun hc54=>?_) (fun hc54=>?_))
   ·refine .ret (rT (rB (rT (rB (Fin.Ho Tryz.results302 ?_)))))
    exact ⟨H2,σ2,hle0.trans g1,hs.tail,.inr (gF (by simpa using hc54))⟩
   ·refine .skip (nT (.region (.z zm (.z (zfa jv) (.y hs (zld ae) (.z cu (.zn zg (nB (nT ?_)))))))))
    generalize (if e9 l i then 2 else 1:Nat)=n at*
    exact ⟨i+n,.cP rfl bT a6,⟨ak,j+1,hjl,hdj,H2,σ2,hle1.trans g1,hle0.trans g1,gT (by simpa using hc54),hs.tail⟩,ak⟩
 ·refine .exit (xT (xT (xB ?_)))
  rw [tc ak] at hd
  have:(mY l).length≤j:=by simpa using hd
  obtain rfl:j=(mY l).length:=by omega
  exact Fin.zV Tryz.results302 ⟨H1,σb,hle0,hs,.inl (by simpa [rL] using hI)⟩
theorem sD{v:Value}{l:List Int}(hs:St H w σ)(hr:RI H v l)(hp:fq 9 100000 l):
  Cl Tryz.prog 286 [v] w fun u w'=>∃H1 b,HLe H H1∧u= .func (.func 302) #[] #[Pt b]∧Iter Tryz.prog 302 [Pt b] H1 (rL l)∧St H1 w' σ:=by
 obtain ⟨a,c,rfl⟩:=RI.shape hr
 refine Cl.o Tryz.func286 Tryz.ntmps286 ag1 ?_
 refine .aj (.bx hs fun b1 w hs=>?_)
 refine .zn zg (.aj (.q hs (dD (f:=[]) (c:=[_]) rfl rfl) (.zn zg (.ret (Fin.bq Tryz.results286 rfl ?_)))))
 obtain ⟨H1,g1,g2,hs⟩:=hs.cQ .here
 exact ⟨H1,b1,g1,rfl,qm hp g2 (hr.mono g1),hs⟩
theorem p9{bs bW from_ n:Nat}{W xs:List Int}{v:Value}(hs:St H w (.blk bs [.slice (some ⟨bW,0,none⟩) n n]:: .blk bW (Is W)::σ))(hW:W.length=n)(hr:RI H v xs)(hl:from_+xs.length≤n)(hn:n≤9)
  (hz:bZ W n≤1000000000) (ha:xH xs≤1000000000):
  Cl Tryz.prog 285 [Pt bs,I (from_:Int),v] w fun _ w'=>St H w' (.blk bs [.slice (some ⟨bW,0,none⟩) n n]:: .blk bW (Is (lY W from_ xs))::σ):=by
 obtain ⟨a,c,rfl⟩:=RI.shape hr
 have hlen:=(RI.len hr).2.2
 refine Cl.o Tryz.func285 Tryz.ntmps285 ag3 ?_
 refine .aj (.z zm (.z (da af) (.zn zm (.for (N:=xs.length) (J:=fun k fr w=>fr=[(8,.slice a xs.length c),(0,Pt bs),(1,I (from_:Int))]∧St H w (.blk bs [.slice (some ⟨bW,0,none⟩) n n]:: .blk bW (Is (lY W from_ (xs.take k)))::σ)) ak ?_ ?_ ?_))))
 ·exact .mk ⟨rfl,hs⟩
 ·rintro k fr w hk ⟨rfl,hs⟩
  have hal:=pj (xs.take k) W from_
  have hsz:=qM (xs.take k) W from_ (by rw [List.length_take];omega)
  rw [hW] at hsz
  have h1:=z8 xs k
  have h2:=Ec xs k
  have h3:=kj (lY W from_ (xs.take k)) (v:=from_+k) (n:=n) ak
  have h4:=Cq hk W from_
  refine .block (.aj (.z zm (.ixY hs hr rfl rfl af ai (bJ (l:=xs) (i:=k) ak) cz ?_)));intro b13 o13 hc13
  refine .q hs (aP rfl ae hc13) (.z zg (.zn zg (.region (.z zm (.z znc (.z (zfa qc) (.y hs (zld an) (.z zm (.z zm (.z cu (.q hs (iI (k:=from_+k) rfl rfl af ai ak ak) (.y hs (zld ae) (.z zm (.z cu (.q hs (iI (k:=from_+k) rfl rfl af ai ak ak) (.o (.store hs rfl rfl ai fun w hs=>?_)))))))))))))))))
  refine .nil (nB (nT ?_))
  exact .mk ⟨rfl,by rw [h4];exact hs⟩
 ·rintro fr w ⟨rfl,hs⟩
  rw [List.take_length] at hs
  exact Fin.zV Tryz.results285 hs
theorem xq{a b:Int}(ha:0<a∧a≤100000)(hb:0<b∧b≤100000):0≤min a b∧min a b≤100000:=by omega
theorem CQ{a b:Int}(h:0<tms a b):tms a b=1∨tms a b=2∨tms a b=3:=by have:=F7 a b;omega
set_option maxHeartbeats 1000000 in
theorem jO{v:Value}{l:List Int}(hs:St H w σ)(hr:RI H v l)(hp:fq 9 100000 l):
  Cl Tryz.prog 260 [v] w fun u w'=>∃H1,HLe H H1∧RI H1 u (wts l)∧St H1 w' σ:=by
 obtain ⟨a,c,rfl⟩:=RI.shape hr
 have hln:=hp.many
 have hgl:(mY l).length≤9:=by have:=ml l l.length 0;unfold mY;omega
 refine Cl.o Tryz.func260 Tryz.ntmps260 ag1 ?_
 refine .aj (.bx hs fun b1 w hs=>?_)
 refine .zn zg (.aj (.y hs (zld an) (.z (da af) (.o (.wT l.length hs rfl rfl af gV rfl ai cq ak fun b13 w hs=>?_)))))
 refine .z (zbd [_] yL) (.o (.alloc hs Tryz.zeroValue317 rfl fun b3 w hs=>?_))
 refine .o (.aU (vs:=[_]) hs rfl rfl Tryz.sizeOf317 fun w hs=>?_)
 refine .nil (.aj (.q hs (dD (f:=[_]) (c:=[]) rfl rfl) (.o (.alloc hs Tryz.zeroValue318 rfl fun b4 w hs=>?_))))
 refine .o (.store hs rfl rfl Tryz.sizeOf318 fun w hs=>?_)
 refine .nil (.seq (.aj (.y hs (zld an) (.o (.call Tryz.call286 rfl (sD hs hr hp) ?_)))));rintro _ w ⟨H1,b17,hle1,rfl,hit,hs⟩
 refine .nil (.block ?_)
 refine .rangeFunc (gf:=302) (cap:=[Pt b17]) (xs:=rL l) (σb:=[.blk b3 [.slice (some ⟨b13,0,none⟩) l.length l.length],.blk b13 (Is (uZ l 0)),.blk b4 [.func (.func 285) #[Pt b3] #[]],.blk b1 [.slice a l.length c]]) (σf:=σ) (hs.sb) trivial rfl hit Tryz.call302 (fun x hx=>by
   simp only [rL,List.mem_map] at hx
   obtain ⟨j,_,rfl⟩:=hx;rfl) rfl
  (I:=fun j H' σb=>σb=[.blk b3 [.slice (some ⟨b13,0,none⟩) l.length l.length],.blk b13 (Is (uZ l j)),.blk b4 [.func (.func 285) #[Pt b3] #[]],.blk b1 [.slice a l.length c]]) (Ix:=fun _ _ _=>False)
  (fun j _ _ σ g1 g2=>g2) (fun _ _ _ _ _ h=>h) rfl ?_ ?_ (fun D c H' σb w _ h _=>h.elim)
 ·rintro ly j hj H2 σb2 σf2 w hle2 rfl hs ⟨rr,hrr⟩
  have hjl:j<(mY l).length:=by simpa [rL] using hj
  obtain ⟨g,hg⟩:=nth hjl
  rw [show (rL l)[j]=[Value.agg #[I (g.at_:Int),I (g.n:Int)]] by
   rw [List.getElem?_eq_getElem hjl] at hg
   simp only [rL,List.getElem_map,Option.some.inj hg]]
  obtain ⟨i1,i2,i3,i4,i5⟩:=wh hp (List.mem_of_getElem? hg)
  have hK:=uY hg
  have hKl:=nf l j
  have hKz:=sA hp j ak
  have hr2:=hr.mono (hle1.trans hle2)
  have hq0:=hp.bd (i:=g.at_) ak
  have hq1:=hp.bd (i:=g.at_+1) ak
  generalize hA:gi l (g.at_+1) - gi l g.at_=A at*
  refine .region (.o (.alloc hs y0 rfl fun b5 w hs=>?_))
  refine .o (.aU (vs:=[_,_]) hs rfl rfl pY fun w hs=>?_)
  refine .nil (nT (⟨H2,[.blk b5 [I (g.at_:Int),I (g.n:Int)],.blk b3 [.slice (some ⟨b13,0,none⟩) l.length l.length],.blk b13 (Is (uZ l j)),.blk b4 [.func (.func 285) #[Pt b3] #[]],.blk b1 [.slice a l.length c]],HLe.refl _,hs,?_⟩));rintro w σf4 - hs
  refine .block (.seq (.draw mix rfl hs fun w hs=>?_))
  refine .y 0 rfl hs an ?_;refine .z 1 rfl (zfa gE) ?_;refine .y 2 rfl hs ae ?_;refine .z 3 rfl cu ?_
  refine .ixX (enc:=fun x=>[I x]) (i:=4) hs rfl aH .none hr2 rfl rfl af ai (bJ (l:=l) (i:=(g.at_+1)) ak) cz ?_;intro b23 o23 hc23;replace hc23:=bL.one hc23
  refine .r (i:=5) hs rfl aH .none (aP rfl ae hc23) ?_
  refine .y 6 rfl hs an ?_;refine .z 7 rfl (zfa gE) ?_;refine .y 8 rfl hs ae ?_
  refine .ixX (enc:=fun x=>[I x]) (i:=9) hs rfl aH .none hr2 rfl rfl af ai (bJ (l:=l) (i:=g.at_) ak) cz ?_;intro b28 o28 hc28;replace hc28:=bL.one hc28
  refine .r (i:=10) hs rfl aH .none (aP rfl ae hc28) ?_
  refine .zw 11 rfl fM ?_
  rw [hA]
  refine .zw 12 rfl zg ?_;refine .D hs ?_
  refine .seq (.aj (.z (zfa jv) (.y hs (zld ae) (.z fF ?_))))
  skip
  refine .nil (.bn rfl (fun hc33=>?_) (fun hc33=>?_))
  ·refine .aj (.y hs (zld Tryz.isAgg318) (.z (zfa gE) (.y hs (zld ae) (.z zm (.z jN (.z zm (.z jN (.o (.buildSlice (cells:=[_,_]) hs kI rfl rfl fun b41 w hs=>?_)))))))))
   have h2:g.two=false:=by
    cases e:g.two with
    |false=>rfl
    |true=>simp [Grp.n,e] at hc33
   obtain ⟨H3,hle3,r41,hs⟩:=cN.dM (xs:=[18*A,18*A]) (v:= .slice (some ⟨b41,0,none⟩) 2 2) (.full (len:=2) rfl) bT hs dz
   have hgw:=BA h2 hA
   rw [hgw] at hK i5
   replace hs:St H3 w (.blk b3 [.slice (some ⟨b13,0,none⟩) l.length l.length]:: .blk b13 (Is (uZ l j)):: .blk b5 [I (g.at_:Int),I (g.n:Int)]:: .blk b4 [.func (.func 285) #[Pt b3] #[]]:: .blk b1 [.slice a l.length c]::σf4):=hs.sb
   refine .o (.pQ (first:=[Pt b3]) (cap:=[]) rfl rfl Tryz.call285 (p9 (from_:=g.at_) (xs:=[18*A,18*A]) hs hKl r41 (by simp;omega) ak ak ak) ?_);rintro _ w hs
   rw [←hK] at hs
   refine .nil (.exit (xT (xB ?_)))
   exact ⟨H3,_,hle3,(hs.sb:St H3 w (.blk b3 _:: .blk b13 _:: .blk b4 _:: .blk b1 _::σf4)),rfl⟩
  ·refine .skip (nT (.seq (.draw mix rfl hs fun w hs=>?_)))
   have h2:g.two=true:=by
    cases e:g.two with
    |true=>rfl
    |false=>simp [Grp.n,e] at hc33
   obtain ⟨j1,j2,j3,j4⟩:=i4 h2
   have hq2:=hp.bd (i:=g.at_+2) ak
   generalize hB:gi l (g.at_+2) - gi l (g.at_+1)=B at*
   have hmx:=CP (a:=A) (b:=B) ak ak
   have hk:=CQ j4
   have hmm:=xq (a:=A) (b:=B) ⟨ak,ak⟩ ⟨ak,ak⟩
   obtain ⟨n1,n2,n3,n4⟩:=By hk hmm.1 hmm.2
   obtain ⟨n5,n6,n7,n8,n9⟩:=n4 _ n3.1 n3.2
   generalize hT:tms A B=T at*
   generalize hM:min A B=M at*
   have hgw:=Bz h2 hA hB hT hM
   refine .y 0 rfl hs an ?_;refine .z 1 rfl (zfa gE) ?_;refine .y 2 rfl hs ae ?_;refine .z 3 rfl cu ?_
   refine .ixX (enc:=fun x=>[I x]) (i:=4) hs rfl aH .none hr2 rfl rfl af ai (bJ (l:=l) (i:=(g.at_+2)) ak) cz ?_;intro b47 o47 hc47;replace hc47:=bL.one hc47
   refine .r (i:=5) hs rfl aH .none (aP rfl ae hc47) ?_
   refine .y 6 rfl hs an ?_;refine .z 7 rfl (zfa gE) ?_;refine .y 8 rfl hs ae ?_;refine .z 9 rfl cu ?_
   refine .ixX (enc:=fun x=>[I x]) (i:=10) hs rfl aH .none hr2 rfl rfl af ai (bJ (l:=l) (i:=(g.at_+1)) ak) cz ?_;intro b53 o53 hc53;replace hc53:=bL.one hc53
   refine .r (i:=11) hs rfl aH .none (aP rfl ae hc53) ?_
   refine .zw 12 rfl fM ?_
   rw [hB]
   refine .zw 13 rfl zg ?_;refine .D hs ?_
   refine .aj (.z zm (.z zm (.o (.call Tryz.call287 rfl (jy hs ak ak) ?_))));rintro _ w ⟨rfl,hs⟩
   refine .z zm (.z zm (.o (.call Tryz.call287 rfl (jy hs ak ak) ?_)));rintro _ w ⟨rfl,hs⟩
   refine .z Bb ?_
   rw [←hmx]
   refine .zn zg (.aj (.z zm (.q hs (rh rfl rfl ak ak) (.z zm (.z cu (.z jN (.z zm (.z zm (.z Al ?_)))))))))
   rw [hM]
   refine .z jN (.zn zg (.aj (.z zm (.z zm (.z jN (.z zm (.z fM (.z jN (.z zm (.z zm (.z cu (.z jN (.z zm (.z cu (.z jN (.z zm (.z zm (.z jN (.z fM (.z jN (.o (.buildSlice (cells:=[_,_,_]) hs zY rfl rfl fun b90 w hs=>?_))))))))))))))))))))))
   refine .zn zg (.cut (fun fs w=>∃H3,lF fs ⟨103,[],[(10,.slice (some ⟨b90,0,none⟩) 3 3),(5,Pt b5),(4,Pt b4),(3,Pt b3),(1,Pt b1)]⟩∧HLe H2 H3∧RI H3 (.slice (some ⟨b90,0,none⟩) 3 3) (wU l g)∧St H3 w (.blk b3 [.slice (some ⟨b13,0,none⟩) l.length l.length]:: .blk b13 (Is (uZ l j)):: .blk b5 [I (g.at_:Int),I (g.n:Int)]:: .blk b4 [.func (.func 285) #[Pt b3] #[]]:: .blk b1 [.slice a l.length c]::σf4)) ?_ ?_)
   ·refine .aj (.z zm (.z zm (.zn k7 (.bn rfl (fun hc93=>?_) (fun hc93=>?_)))))
    ·refine .region (.z zm (.o (.call Tryz.call270 rfl (mf (en:= .blk b90 (Is [(6:Int).tdiv T*(1+T)*M*T*(2 - T),(6:Int).tdiv T*(1+T)*M*(1+T)*(1+T),(6:Int).tdiv T*(1+T)*M*(2*T - 1)])) (hs.sb:St H2 w (.blk b90 _:: .blk b3 _:: .blk b13 _:: .blk b5 _:: .blk b4 _:: .blk b1 _::σf4)) (.full rfl) bT) ?_)));rintro _ w ⟨en95,hO95,hs⟩
     refine .nil (nT ?_)
     obtain ⟨H3,hle3,r90,hs⟩:=cN.dM hO95 bT hs .here
     rw [if_pos hc93] at hgw
     rw [hgw]
     exact ⟨H3,a6,hle3,r90,hs⟩
    ·refine .skip (nT ?_)
     obtain ⟨H3,hle3,r90,hs⟩:=cN.dM (xs:=[(6:Int).tdiv T*(1+T)*M*T*(2 - T),(6:Int).tdiv T*(1+T)*M*(1+T)*(1+T),(6:Int).tdiv T*(1+T)*M*(2*T - 1)]) (v:= .slice (some ⟨b90,0,none⟩) 3 3) (.full (len:=3) rfl) bT hs dz
     rw [if_neg ak] at hgw
     rw [hgw]
     exact ⟨H3,a6,hle3,r90,hs.sb⟩
   ·rintro fs w ⟨H3,hfs,hle3,r90,hs⟩
    refine WE.sub ?_ hfs
    refine .region (.y hs (zld Tryz.isAgg318) (.z (zfa gE) (.y hs (zld ae) (.z zm (.o (.pQ (first:=[Pt b3]) (cap:=[]) rfl rfl Tryz.call285 (p9 (from_:=g.at_) (xs:=wU l g) hs hKl r90 (by rw [BC,show g.n=2 by unfold Grp.n;rw [h2];rfl];omega) ak ak ak) ?_))))));rintro _ w hs
    rw [←hK] at hs
    refine .nil (nB ?_)
    exact ⟨H3,_,hle3,(hs.sb:St H3 w (.blk b3 _:: .blk b13 _:: .blk b4 _:: .blk b1 _::σf4)),rfl⟩
 ·rintro D H2 σb2 w hle2 rfl hs
  rw [show (rL l).length=(mY l).length by simp [rL],Be] at hs
  replace hs:St H2 w (.obj D (.deferred (some [])):: .blk b3 [.slice (some ⟨b13,0,none⟩) l.length l.length]:: .blk b13 (Is (wts l)):: .blk b4 [.func (.func 285) #[Pt b3] #[]]:: .blk b1 [.slice a l.length c]::σ):=hs
  refine nB (nT (.aj (.z (zfa qc) (.y hs (zld an) (.zn zg (.ret ?_))))))
  obtain ⟨H3,hle3,hR,hs⟩:=cN.dM (xs:=wts l) (v:= .slice (some ⟨b13,0,none⟩) l.length l.length) (.full (by simp [Is,eW])) (by rw [eW];omega) hs dz
  exact Fin.jt [D] [] hs fun w hs=>⟨_,results1 Tryz.results260 rfl,H3,hle1.trans (hle2.trans hle3),hR,hs.out⟩
def yW(X Y:List Int)(i:Nat):List Int:=(List.range Y.length).map fun k=>gi X i*gi Y k
def mZ(X Y:List Int)(i:Nat):List (List Int):=(List.range i).map (yW X Y)
theorem j8(X Y:List Int)(i:Nat):(yW X Y i).length=Y.length:=by simp [yW]
theorem kz(X Y:List Int)(i:Nat):(mZ X Y i).length=i:=by simp [mZ]
theorem xx(X Y:List Int)(i:Nat):mZ X Y (i+1)=mZ X Y i++[yW X Y i]:=by simp [mZ,List.range_succ]
theorem zp{X Y:List Int}{i k:Nat}(hk:k<Y.length):(yW X Y i).take (k+1)=(yW X Y i).take k++[gi X i*gi Y k]:=by
 rw [dj (by simp [yW,hk]:(yW X Y i)[k]? =some (gi X i*gi Y k))]
theorem yx{X Y:List Int}{n i:Nat}(h:i<n):gr (mZ X Y n) i=yW X Y i:=by simp [gr,List.getD,mZ,h]
theorem BE{X Y:List Int}{n i k:Nat}(h:i<n)(hk:k<Y.length):gt (mZ X Y n) i k=gi X i*gi Y k:=by
 unfold gt;rw [yx h];simp [gi,List.getD,yW,hk]
inductive GrS(X Y:List Int)(b:Nat)(i k:Nat)(H:bV)(σ:List Ent):Prop
 |go (us:List Value) (v:Value) (en:Ent) (h:i<X.length) (h1:RLs H us (mZ X Y i)) (h2:cN 1 v (Is ((yW X Y i).take k)) en) (h3:σ=[.blk b (us++v::List.replicate (X.length - i - 1) (.slice none 0 0)),en])
 |fin (us:List Value) (h:i=X.length) (h1:RLs H us (mZ X Y i)) (h3:σ=[.blk b us])
theorem GrS.mono{X Y:List Int}{b i k:Nat}{H H':bV}{σ:List Ent}(h:GrS X Y b i k H σ)(hl:HLe H H'):GrS X Y b i k H' σ:=by
 cases h with
 |go us v en h h1 h2 h3=>exact .go us v en h (h1.mono hl) h2 h3
 |fin us h h1 h3=>exact .fin us h (h1.mono hl) h3
theorem mc{v:Value}{l:List Int}(hs:St H w σ)(hr:RI H v l):
  Cl Tryz.prog 275 [v] w fun u w'=>∃H1 vo e,HLe H H1∧u= .tuple #[vo,I e]∧(fq 9 100000 l→e=0∧RI H1 vo (wts l))∧St H1 w' σ:=by
 obtain ⟨a,c,rfl⟩:=RI.shape hr
 refine Cl.o Tryz.func275 Tryz.ntmps275 ag1 ?_
 refine .aj (.z zg (.zn zg (.seq (.aj (.z zm (.o (.call Tryz.call299 rfl (nP hs hr) ?_)))))));rintro _ w ⟨e,rfl,he,hs⟩
 refine .zn zg (.aj (.z zm (.zn hZ (.dZ rfl (fun hc8=>?_) (fun hc8=>?_)))))
 ·refine .aj (.z zm (.z zg (.zn zg (.ret (rT (Fin.ij Tryz.results275 rfl rfl ?_))))))
  exact ⟨H,_,_,HLe.refl H,rfl,fun h=>by rcases he with ⟨_,h2⟩|⟨h1,_⟩;exact (hc8 h2).elim;exact (h1 h).elim,hs⟩
 ·refine .skip (nT (.aj (.z zm ?_)))
  have hp:fq 9 100000 l:=by rcases he with ⟨h,_⟩|⟨_,h2⟩;exact h;exact (h2 (by simpa using hc8)).elim
  refine .o (.call Tryz.call260 rfl (jO hs hr hp) ?_);rintro v11 w ⟨H1,hle1,hR,hs⟩
  refine .z zg (.zn zg (.ret (Fin.ij Tryz.results275 rfl rfl ?_)))
  exact ⟨H1,_,_,hle1,rfl,fun _=>⟨rfl,hR⟩,hs⟩
theorem sC{v1 v2:Value}{a b:List Int}(hs:St H w σ)(h1:RI H v1 a)(h2:RI H v2 b):
  Cl Tryz.prog 215 [v1,v2] w fun u w'=>∃bb:Bool,u= .bool bb∧(bb=true↔fq 9 100000 a∧fq 7 15000 b)∧St H w' σ:=by
 refine Cl.o Tryz.func215 Tryz.ntmps215 ag2 ?_
 refine .aj (.zn zg (.aj (.z zm (.o (.call Tryz.call259 rfl (jm (many:=9) (most:=100000) hs h1) ?_)))));rintro _ w ⟨b6,rfl,hb6,hs⟩
 refine .z zm (.bif (t':=7) rfl (fun hb7=>?_) (fun hb7=>?_))
 ·refine .T (.z zm (.T (.o (.call Tryz.call259 rfl (jm (many:=7) (most:=15000) hs h2) ?_))));rintro _ w ⟨b9,rfl,hb9,hs⟩
  refine .z zpT (.zn zg (.ret (Fin.bq Tryz.results215 rfl ?_)))
  exact ⟨_,rfl,by rw [hb9];exact ⟨fun h=>⟨hb6.1 hb7,h⟩,fun h=>h.2⟩,hs⟩
 ·refine .Fs 2 2 true (.z zpF (.zn zg (.ret (Fin.bq Tryz.results215 rfl ?_))))
  exact ⟨_,rfl,⟨fun h=>(by cases h),fun h=>by rw [hb6.2 h.1] at hb7;cases hb7⟩,hs⟩
theorem pC{bx by_:Nat}{x y:Int}(hs:St H w σ)(hx:Row H bx [I x])(hy:Row H by_ [I y]):
  Cl Tryz.prog 289 [Pt bx,Pt by_] w fun u w'=>u= .tuple #[I x,I y]∧St H w' σ:=by
 have hx0:=hx.at 0
 have hy0:=hy.at 0
 refine Cl.o Tryz.func289 Tryz.ntmps289 ag2 ?_
 refine .aj (.z zg (.zn zg (.seq (.draw mix rfl hs fun w hs=>?_))))
 refine .y 0 rfl hs ae ?_;refine .y 1 rfl hs ae ?_;refine .z 2 rfl zg ?_;refine .z 3 rfl zg ?_;refine .D hs ?_
 refine .ret (Fin.ij Tryz.results289 rfl rfl ?_)
 exact ⟨rfl,hs⟩
def PrE(X Y:List Int)(p:Nat)(H:bV)(z:List Value):Prop:=
 ∃bx by_,z=[.agg #[I ((p/Y.length:Nat):Int),I ((p%Y.length:Nat):Int)],.func (.func 289) #[] #[Pt bx,Pt by_]]∧Row H bx [I (gi X (p/Y.length))]∧Row H by_ [I (gi Y (p%Y.length))]
theorem qX{H:bV}{b1 b2:Nat}{v1 v2:Value}{X Y:List Int}(hb1:Row H b1 [v1])(hb2:Row H b2 [v2])(hX:RI H v1 X)(hY:RI H v2 Y)(hXl:X.length≤1000)(hYl:Y.length≤1000):
  FX Tryz.prog 288 [Pt b1,Pt b2] H (X.length*Y.length) (PrE X Y):=by
 intro ly II Ix hmI _ hy H0 σb0 σf w hle hI0 hs
 obtain ⟨a1,c1,rfl⟩:=RI.shape hX
 obtain ⟨a2,c2,rfl⟩:=RI.shape hY
 have h01:cellAt H0 b1 0=some (.slice a1 X.length c1):=cellAt.mono (hb1.at 0) hle
 have h02:cellAt H0 b2 0=some (.slice a2 Y.length c2):=cellAt.mono (hb2.at 0) hle
 refine Cl.o Tryz.func288 Tryz.ntmps288 ag3 ?_
 refine .aj (.y hs (zld an) (.z (da af) (.zn zm (.for (N:=X.length) (J:=fun i fr w=>fr=[(8,.slice a1 X.length c1),(0,.func (.yield ly) #[] #[]),(1,Pt b1),(2,Pt b2)]∧∃H1 σb,HLe H H1∧HLe H0 H1∧II (i*Y.length) H1 σb∧St H1 w (σb++σf)) ak ?_ ?_ ?_))))
 ·exact .mk ⟨rfl,H0,σb0,hle,HLe.refl _,by rw [Nat.zero_mul];exact hI0,hs⟩
 ·rintro i fr w hi ⟨rfl,H1,σb,hle1,hle0,hI,hs⟩
  refine .block (.aj (.z zm (.ixY hs (hX.mono hle1) rfl rfl af ai (bJ (l:=X) (i:=i) ak) cz ?_)));intro b13 o13 hc13
  refine .q hs (aP rfl ae hc13) (.o (.alloc hs cq rfl fun b5 w hs=>?_))
  refine .z zg (.o (.store hs rfl rfl ai fun w hs=>?_))
  refine .nil (.aj ?_)
  obtain ⟨H2,hle2,r5,hs⟩:=hs.cQ (b:=b5) .here
  have h22:=cellAt.mono h02 (hle0.trans hle2)
  refine .y hs (zld an) (.z (da af) (.zn zm (.for (N:=Y.length) (J:=fun k fr w=>fr=[(15,.slice a2 Y.length c2),(4,I (i:Int)),(10,I (i:Int)),(9,I (X.length:Int)),(5,Pt b5),(8,.slice a1 X.length c1),(0,.func (.yield ly) #[] #[]),(1,Pt b1),(2,Pt b2)]∧∃H3 σb,HLe H2 H3∧II (i*Y.length+k) H3 σb∧St H3 w (σb++σf)) ak ?_ ?_ ?_)))
  ·exact .mk ⟨rfl,H2,σb,HLe.refl _,hmI _ _ _ _ hle2 hI,hs⟩
  ·rintro k fr w hk ⟨rfl,H3,σb3,hle3,hI3,hs⟩
   have hle03:=hle0.trans (hle2.trans hle3)
   have hle13:=hle1.trans (hle2.trans hle3)
   refine .block (.aj (.z zm (.ixY hs (hY.mono hle13) rfl rfl af ai (bJ (l:=Y) (i:=k) ak) cz ?_)));intro b20 o20 hc20
   refine .q hs (aP rfl ae hc20) (.o (.alloc hs cq rfl fun b7 w hs=>?_))
   refine .z zg (.o (.store hs rfl rfl ai fun w hs=>?_))
   refine .nil (.aj (.z zm (.z zm (.z zm (.q hs (yi (vs:=[(0,I (i:Int)),(1,I (k:Int))]) (cells:=[I (i:Int),I (k:Int)]) Tryz.zeroValue76 rfl Tryz.runUnderlying76 ai rfl) (.q hs (dD (f:=[]) (c:=[_,_]) rfl rfl) ?_))))))
   obtain ⟨H4,hle4,r7,hs⟩:=hs.cQ (b:=b7) .here
   obtain ⟨d1,d2⟩:=Gt (nw:=Y.length) (i:=i) (k:=k) hk
   have hlt:i*Y.length+k<X.length*Y.length:=by
    have:=Nat.mul_le_mul_right Y.length (show i+1≤X.length by omega)
    rw [Nat.add_mul,Nat.one_mul] at this;omega
   have hyd:=hy (i*Y.length+k) hlt [.agg #[I (i:Int),I (k:Int)],.func (.func 289) #[] #[Pt b5,Pt b7]] H4 σb3 σf w (hle13.trans hle4) ⟨b5,b7,by rw [d1,d2],by rw [d1];exact r5.mono (hle3.trans hle4),by rw [d2];exact r7⟩ (hmI _ _ _ _ hle4 hI3) hs
   refine .o (.yield rfl rfl hyd ?_);rintro v27 w ⟨H5,σ5,g1,hs,g3⟩
   obtain ⟨bb,rfl,gT,gF⟩:=ot g3
   refine .zn fI (.cond rfl (fun hc28=>?_) (fun hc28=>?_))
   ·refine .ret (rB (rT (rB (rB (rT (rB (Fin.Ho Tryz.results288 ?_)))))))
    exact ⟨H5,σ5,hle03.trans (hle4.trans g1),hs,.inr (gF (by simpa using hc28))⟩
   ·refine .skip (nB (nT ?_))
    exact .mk ⟨rfl,H5,σ5,hle3.trans (hle4.trans g1),gT (by simpa using hc28),hs⟩
  ·rintro fr w ⟨rfl,H3,σb3,hle3,hI3,hs⟩
   refine nB (nT ?_)
   exact .mk ⟨rfl,H3,σb3,hle1.trans (hle2.trans hle3),hle0.trans (hle2.trans hle3),by rw [Nat.add_mul,Nat.one_mul];exact hI3,hs⟩
 ·rintro fr w ⟨rfl,H1,σb,hle1,hle0,hI,hs⟩
  exact Fin.zV Tryz.results288 ⟨H1,σb,hle0,hs,.inl hI⟩
theorem tP{v1 v2:Value}{X Y:List Int}(hs:St H w σ)(hX:RI H v1 X)(hY:RI H v2 Y)(hXl:X.length≤1000)(hYl:Y.length≤1000):
  Cl Tryz.prog 261 [v1,v2] w fun u w'=>∃H1 b1 b2,HLe H H1∧u= .func (.func 288) #[] #[Pt b1,Pt b2]∧FX Tryz.prog 288 [Pt b1,Pt b2] H1 (X.length*Y.length) (PrE X Y)∧St H1 w' σ:=by
 obtain ⟨a1,c1,rfl⟩:=RI.shape hX
 obtain ⟨a2,c2,rfl⟩:=RI.shape hY
 refine Cl.o Tryz.func261 Tryz.ntmps261 ag2 ?_
 refine .aj (.bx hs fun b2 w hs=>?_)
 refine .bx hs fun b3 w hs=>?_
 refine .zn zg (.aj (.q hs (dD (f:=[]) (c:=[_,_]) rfl rfl) (.zn zg (.ret (Fin.bq Tryz.results261 rfl ?_)))))
 obtain ⟨H1,g1,r1,hs⟩:=hs.cQ (b:=b2) dz
 obtain ⟨H2,g2,r2,hs⟩:=hs.cQ (b:=b3) dz
 exact ⟨H2,b2,b3,g1.trans g2,rfl,qX (r1.mono g2) r2 (hX.mono (g1.trans g2)) (hY.mono (g1.trans g2)) hXl hYl,hs⟩
set_option maxHeartbeats 1000000 in
theorem u6{v1 v2:Value}{l1 l2:List Int}(hs:St H w σ)(hr1:RI H v1 l1)(hr2:RI H v2 l2)(hp1:fq 9 100000 l1)(hp2:fq 7 15000 l2):
  Cl Tryz.prog 216 [v1,v2] w fun u w'=>∃H1,HLe H H1∧RT H1 u (mZ (wts l1) (wts l2) l1.length)∧St H1 w' σ:=by
 obtain ⟨a1,c1,rfl⟩:=RI.shape hr1
 obtain ⟨a2,c2,rfl⟩:=RI.shape hr2
 have hn1:=hp1.many
 have hn2:=hp2.many
 have htw1:=hp1.two
 have htw2:=hp2.two
 have hp2':fq 9 100000 l2:=⟨hp2.two,ak,hp2.low,by have:=hp2.high;omega,hp2.rise⟩
 have hXl:=eW l1
 have hYl:=eW l2
 have hXb:=Bd hp1
 have hYb:=Bd hp2
 refine Cl.o Tryz.func216 Tryz.ntmps216 ag2 ?_
 refine .aj (.zn zg (.aj (.z zm (.o (.call Tryz.call260 rfl (jO hs hr1 hp1) ?_)))));rintro v13 w ⟨H1,hle1,hX,hs⟩
 refine .z zm (.o (.call Tryz.call260 rfl (jO hs (hr2.mono hle1) hp2') ?_));rintro v15 w ⟨H2,hle2,hY,hs⟩
 replace hX:=hX.mono hle2
 generalize wts l1=X at*
 generalize wts l2=Y at*
 obtain ⟨aX,cX,rfl⟩:=RI.shape hX
 obtain ⟨aY,cY,rfl⟩:=RI.shape hY
 refine .z zg (.zn zg (.aj (.z zm (.z (da af) (.o (.Ik l1.length hs rfl rfl az Tryz.typeInfo34 rfl aB ep ak fun b18 w hs=>?_))))))
 refine .o (.alloc hs Tryz.zeroValue62 rfl fun b7 w hs=>?_)
 refine .o (.store hs rfl rfl Tryz.sizeOf62 fun w hs=>?_)
 refine .nil (.seq (.aj (.z zm (.z zm (.o (.call Tryz.call261 rfl (tP hs hX hY ak ak) ?_))))));rintro _ w ⟨H3,bp1,bp2,hle3,rfl,hit,hs⟩
 have hle03:=hle1.trans (hle2.trans hle3)
 have h0:GrS X Y b18 0 0 H3 [.blk b18 (List.replicate l1.length (.slice none 0 0)),.nul]:=by
  refine .go [] (.slice none 0 0) .nul ak (RLs.nil _) (.nil 1 none) ?_
  rw [hXl]
  obtain ⟨m,hm⟩:∃m,l1.length=m+1:=⟨l1.length - 1,ak⟩
  rw [hm]
  rfl
 refine .nil (.block ?_)
 refine .Gb (gf:=288) (cap:=[Pt bp1,Pt bp2]) (N:=X.length*Y.length) (E:=PrE X Y) (σb:= .blk b7 [.slice (some ⟨b18,0,none⟩) l1.length l1.length]::[.blk b18 (List.replicate l1.length (.slice none 0 0)),.nul]) (σf:=σ) (hs.nul.sb) trivial rfl hit Tryz.call288 (fun k H' z ⟨_,_,hz,_⟩=>by rw [hz];rfl) rfl
  (I:=fun p H' σb=>∃σ1,σb= .blk b7 [.slice (some ⟨b18,0,none⟩) l1.length l1.length]::σ1∧GrS X Y b18 (p/Y.length) (p%Y.length) H' σ1) (Ix:=fun _ _ _=>False)
  (fun j _ _ σ g1 ⟨σ1,g2,g3⟩=>⟨σ1,g2,g3.mono g1⟩) (fun _ _ _ _ _ h=>h) ⟨_,rfl,by rw [Nat.zero_div,Nat.zero_mod];exact h0⟩ ?_ ?_ (fun D c H' σb w _ h _=>h.elim)
 ·rintro ly p hp z H4 σb2 σf2 w hle4 ⟨bx,by_,rfl,rx,ry⟩ ⟨σ1,rfl,hG⟩ hs ⟨rr,hrr⟩
  have hnext:=Bq (p:=p) (m:=Y.length) ak
  have hkm:=Nat.mod_lt p (show 0<Y.length by omega)
  have hin:p/Y.length<X.length:=Nat.div_lt_of_lt_mul (by rw [Nat.mul_comm];exact hp)
  generalize hi:p/Y.length=i at*
  generalize hk:p%Y.length=k at*
  cases hG with
  |fin us h=>omega
  |go us v en h h1 h2 h3=>
  subst h3
  obtain ⟨av,lv,cv,rfl,hlv⟩:=h2.shape
  have husl:us.length=i:=by rw [h1.1,kz]
  have hb1:=hXb i
  have hb2:=hYb k
  have hpr:=Gn (gi X i) (gi Y k)
  have hprb: -3456000000000≤gi X i*gi Y k∧gi X i*gi Y k≤3456000000000:=jK (A:=4800000) (B:=720000) (by unfold ab at hb1;omega) (by unfold ab at hb2;omega)
  refine .aj (.o (.alloc hs Tryz.zeroValue76 rfl fun b8 w hs=>?_))
  refine .o (.aU (vs:=[_,_]) hs rfl rfl Tryz.sizeOf76 fun w hs=>?_)
  refine .nil (.region (.zn zg (nT (⟨H4,[.blk b8 [I (i:Int),I (k:Int)],.blk b7 [.slice (some ⟨b18,0,none⟩) l1.length l1.length],.blk b18 (us++Value.slice av lv cv::List.replicate (X.length - i - 1) (Value.slice none 0 0)),en],HLe.refl _,hs,?_⟩))));rintro w σf4 - hs
  refine .block (.aj (.z zm (.o (.pQ (first:=[]) (cap:=[Pt bx,Pt by_]) rfl rfl Tryz.call289 (pC hs rx ry) ?_))));rintro _ w ⟨rfl,hs⟩
  refine .z zm (.z zex (.z zex (.z zg (.zn zg (.draw mix rfl hs fun w hs=>?_)))))
  refine .zv 0 rfl hs (od fY) (.zw 1 rfl (zia 0 Tryz.runUnderlying76 ai) (.y 2 rfl hs ae ?_));refine .y 3 rfl hs fY ?_
  refine .zw 4 rfl (zia 0 Tryz.runUnderlying76 ai) (.zv 5 rfl hs (od ae) (.zw 6 rfl (iI (k:=i) rfl rfl az aB rfl ak) (.load (i:=7) hs rfl aH .none rfl an ?_ (hv:=by rw [List.getElem?_append_right ak,husl,Nat.sub_self];rfl))))
  refine .zw 8 rfl zm ?_;refine .z 9 rfl zm ?_;refine .z 10 rfl jN ?_
  refine .E 11 hs ?_
  refine .buildSlice (cells:=[_]) hs dc rfl rfl ?_;intro b40 w hs
  refine .go (.E 12 hs ?_)
  refine .append (ys:=Is [gi X i*gi Y k]) hs cV rfl rfl h2 (.own .here rfl rfl) (js _) (fun l' h=>by simp at h;omega) ?_;intro v41 en41 w hO hs
  rw [show Is ((yW X Y i).take k)++Is [gi X i*gi Y k]=Is ((yW X Y i).take (k+1)) by rw [zp hkm];simp [Is]] at hO
  obtain ⟨a41,l41,c41,rfl,hl41⟩:=hO.shape
  refine .go (.zw 13 rfl (iI (k:=i) rfl rfl az aB rfl ak) (.E 14 hs ?_))
  refine .store (c':=us++ .slice a41 l41 c41::List.replicate (X.length - i - 1) (.slice none 0 0)) hs rfl rfl aB ?_ dz (by simp;omega) (by rw [List.set_append_right _ _ ak,husl,Nat.sub_self];rfl);intro w hs
  refine .go (.D hs (nB ?_))
  rcases hnext with ⟨g1,g2,g3⟩|⟨g1,g2,g3⟩
  ·exact ⟨H4,[.blk b7 [.slice (some ⟨b18,0,none⟩) l1.length l1.length],.blk b18 (us++ .slice a41 l41 c41::List.replicate (X.length - i - 1) (.slice none 0 0)),en41],HLe.refl _,(hs.sb:St H4 w (.blk b7 _:: .blk b18 _::en41::σf4)),_,rfl,by rw [g2,g3];exact .go us _ en41 h h1 hO rfl⟩
  ·obtain ⟨H5,hle5,hR,hs⟩:=cN.dM hO (by rw [List.length_take,j8];omega) hs dz
   rw [List.take_of_length_le (by rw [j8];omega)] at hR
   have h1':RLs H5 (us++[.slice a41 l41 c41]) (mZ X Y (i+1)):=by rw [xx];exact (h1.mono hle5).snoc hR
   by_cases e:i+1<X.length
   ·refine ⟨H5,[.blk b7 [.slice (some ⟨b18,0,none⟩) l1.length l1.length],.blk b18 (us++ .slice a41 l41 c41::List.replicate (X.length - i - 1) (.slice none 0 0)),.nul],hle5,(hs.nul.sb:St H5 w (.blk b7 _:: .blk b18 _:: .nul::σf4)),_,rfl,?_⟩
    rw [g2,g3]
    refine .go (us++[.slice a41 l41 c41]) (.slice none 0 0) .nul e h1' (.nil 1 none) ?_
    obtain ⟨m,hm⟩:∃m,X.length - i - 1=m+1:=⟨X.length - i - 2,ak⟩
    rw [hm,show X.length - (i+1) - 1=m by omega,List.append_assoc]
    rfl
   ·refine ⟨H5,[.blk b7 [.slice (some ⟨b18,0,none⟩) l1.length l1.length],.blk b18 (us++ .slice a41 l41 c41::List.replicate (X.length - i - 1) (.slice none 0 0))],hle5,(hs.sb:St H5 w (.blk b7 _:: .blk b18 _::σf4)),_,rfl,?_⟩
    rw [g2,g3]
    refine .fin (us++[.slice a41 l41 c41]) ak h1' ?_
    rw [show X.length - i - 1=0 by omega]
    rfl
 ·rintro D H4 σb2 w hle4 ⟨σ1,rfl,hG⟩ hs
  rw [Nat.mul_div_cancel _ ak,Nat.mul_mod_left] at hG
  cases hG with
  |go us v en h=>omega
  |fin us h h1 h3=>
  subst h3
  replace hs:St H4 w (.obj D (.deferred (some [])):: .blk b7 [.slice (some ⟨b18,0,none⟩) l1.length l1.length]:: .blk b18 us::σ):=hs
  have husl:us.length=l1.length:=by rw [h1.1,kz,hXl]
  refine nB (nT (.aj (.y hs (zld fY) (.zn zg (.ret ?_)))))
  obtain ⟨H5,hle5,hR,hs⟩:=h1.cQ (v:= .slice (some ⟨b18,0,none⟩) l1.length l1.length) (en:= .blk b18 us) (.full (by simp [husl])) ak hs dz
  rw [hXl] at hR
  exact Fin.jt [D] [] hs fun w hs=>⟨_,results1 Tryz.results216 rfl,H5,hle03.trans (hle4.trans hle5),hR,hs.out⟩
theorem oy{v1 v2:Value}{l1 l2:List Int}(hs:St H w σ)(hr1:RI H v1 l1)(hr2:RI H v2 l2):
  Cl Tryz.prog 163 [v1,v2] w fun u w'=>∃H1 vo e,HLe H H1∧u= .tuple #[vo,I e]∧(fq 9 100000 l1∧fq 7 15000 l2→e=0∧RT H1 vo (mZ (wts l1) (wts l2) l1.length))∧(e=0→fq 9 100000 l1∧fq 7 15000 l2)∧St H1 w' σ:=by
 refine Cl.o Tryz.func163 Tryz.ntmps163 ag2 ?_
 refine .aj (.z zg (.zn zg (.seq (.aj (.z zm (.z zm (.o (.call Tryz.call215 rfl (sC hs hr1 hr2) ?_))))))));rintro _ w ⟨b8,rfl,hb8,hs⟩
 refine .zn fI (.cond rfl (fun hc9=>?_) (fun hc9=>?_))
 ·refine .aj (.z zg (.zn zg (.ret (rT (Fin.ij Tryz.results163 rfl rfl ?_)))))
  exact ⟨H,_,_,HLe.refl H,rfl,fun h=>(by rw [hb8.2 h] at hc9;cases hc9),fun h=>ak,hs⟩
 ·refine .skip (nT (.aj (.z zm (.z zm ?_))))
  have hp:=hb8.1 (by simpa using hc9)
  refine .o (.call Tryz.call216 rfl (u6 hs hr1 hr2 hp.1 hp.2) ?_);rintro v12 w ⟨H1,hle1,hR,hs⟩
  refine .z zg (.zn zg (.ret (Fin.ij Tryz.results163 rfl rfl ?_)))
  exact ⟨H1,_,_,hle1,rfl,fun _=>⟨rfl,hR⟩,fun _=>hp,hs⟩
theorem Ie{many:Nat}{most:Int}{l:List Int}(h2:2≤l.length)(hm:l.length≤many)(h:∀j<l.length,0≤gi l j∧gi l j≤most∧(0<j→gi l (j - 1)<gi l j)):fq many most l:=
 ⟨h2,hm,(h 0 ak).1,(h (l.length - 1) ak).2.1,fun i hi=>by have:=(h (i+1) hi).2.2 ak;rwa [Nat.add_sub_cancel] at this⟩
theorem tq{many:Nat}{most:Int}{l:List Int}(h:fq many most l){j:Nat}(hj:j<l.length):0≤gi l j∧gi l j≤most∧(0<j→gi l (j - 1)<gi l j):=
 ⟨(h.bd hj).1,(h.bd hj).2,fun h0=>by have:=h.rise (j - 1) ak;rwa [Nat.sub_add_cancel h0] at this⟩
theorem ka{v:Value}{l:List Int}{many:Nat}{most:Int}(hs:St H w σ)(hr:RI H v l)(hmany:many≤1000):
  Cl Tryz.prog 217 [v,I many,I most] w fun u w'=>∃b:Bool,u= .bool b∧(b=true↔fq many most l)∧St H w' σ:=by
 obtain ⟨a,c,rfl⟩:=RI.shape hr
 have hlen:=(RI.len hr).2.2
 refine Cl.o Tryz.func217 Tryz.ntmps217 ag3 ?_
 refine .aj (.zn zg (.seq (.aj (.z zm (.z (da af) (.z fV (.z zm (.ie (t':=11) rfl (fun hb11=>?_) (fun hb11=>?_)))))))))
 ·refine .Fs 4 3 false (.zn zpT (.cT (.aj (.zn zg (.ret (rT (Fin.bq uB rfl ?_)))))))
  exact ⟨false,rfl,⟨fun h=>(by cases h),fun h=>by have:=h.two;omega⟩,hs⟩
 ·refine .T (.z zm (.T (.z (da af) (.T (.z zm (.T (.z k7 (.zn zpF (.bn rfl (fun hc16=>?_) (fun hc16=>?_))))))))))
  ·refine .aj (.zn zg (.ret (rT (Fin.bq uB rfl ?_))))
   exact ⟨false,rfl,⟨fun h=>(by cases h),fun h=>by have:=h.many;omega⟩,hs⟩
  ·refine .skip (nT (.seq (.aj (.zn zg (.block ?_)))))
   refine .loop (fun k:Nat=>⟨52,[],[(7,I (k:Int)),(0,.slice a l.length c),(1,I (many:Int)),(2,I most)]⟩)
    (fun k w=>k≤l.length∧(∀j<k,0≤gi l j∧gi l j≤most∧(0<j→gi l (j - 1)<gi l j))∧St H w σ) (fun k=>l.length - k) 0 (.cP rfl bT a6)
    ⟨Nat.zero_le _,fun j hj=>by omega,hs⟩ ?_
   rintro k w ⟨hk,hno,hs⟩
   refine .seq (.aj (.z zm (.z zm (.z (da af) (.zn fV (.bn rfl (fun hc20=>?_) (fun hc20=>?_)))))))
   ·refine .skip (nT (.seq (.block (.seq (.draw mix rfl hs fun w hs=>?_)))))
    refine .zw 0 rfl zm ?_;refine .z 1 rfl zm ?_
    refine .ixX (enc:=fun x=>[I x]) (i:=2) hs rfl aH .none hr rfl rfl af ai (bJ (l:=l) (i:=k) ak) cz ?_;intro b25 o25 hc25;replace hc25:=bL.one hc25
    refine .r (i:=3) hs rfl aH .none (aP rfl ae hc25) ?_
    refine .zw 4 rfl fV ?_;refine .z 5 rfl zm ?_
    refine .ie (t':=28) rfl (fun hb28=>?_) (fun hb28=>?_)
    ·refine .F 6 rfl (.F 7 rfl (.F 8 rfl (.F 9 rfl (.F 10 rfl (.F 11 rfl (.zw 12 rfl zpT ?_))))));refine .z 13 rfl zm ?_
     refine .F 14 rfl (.F 15 rfl ?_)
     refine .F 16 rfl (.F 17 rfl (.F 18 rfl (.F 19 rfl (.F 20 rfl (.F 21 rfl (.F 22 rfl (.F 23 rfl (.F 24 rfl (.F 25 rfl (.F 26 rfl (.F 27 rfl (.zw 28 rfl zpT ?_))))))))))));refine .D hs ?_
     refine (.cT (.aj (.zn zg (.ret (rB (rT (rT (rB (rT (Fin.bq uB rfl ?_))))))))))
     exact ⟨false,rfl,⟨fun h=>(by cases h),fun h=>by have:=tq h (j:=k) ak;omega⟩,hs⟩
    ·refine .zw 6 rfl zm ?_;refine .z 7 rfl zm ?_
     refine .ixX (enc:=fun x=>[I x]) (i:=8) hs rfl aH (.some rfl rfl) hr rfl rfl af ai (bJ (l:=l) (i:=k) ak) cz ?_;intro b31 o31 hc31;replace hc31:=bL.one hc31
     refine .r (i:=9) hs rfl aH (.some rfl rfl) (aP rfl ae hc31) ?_
     refine .zw 10 rfl zm ?_;refine .z 11 rfl k7 ?_;refine .z 12 rfl zpF ?_;refine .z 13 rfl zm ?_
     refine .ie (t':=36) rfl (fun hb36=>?_) (fun hb36=>?_)
     ·refine .F 14 rfl (.F 15 rfl ?_)
      refine .F 16 rfl (.F 17 rfl (.F 18 rfl (.F 19 rfl (.F 20 rfl (.F 21 rfl (.F 22 rfl (.F 23 rfl (.F 24 rfl (.F 25 rfl (.F 26 rfl (.F 27 rfl (.zw 28 rfl zpT ?_))))))))))));refine .D hs ?_
      refine (.cT (.aj (.zn zg (.ret (rB (rT (rT (rB (rT (Fin.bq uB rfl ?_))))))))))
      exact ⟨false,rfl,⟨fun h=>(by cases h),fun h=>by have:=tq h (j:=k) ak;omega⟩,hs⟩
     ·refine .zw 14 rfl zm ?_;refine .z 15 rfl k7 ?_;refine .z 16 rfl zm ?_
      refine .ie (t':=39) rfl (fun hb39=>?_) (fun hb39=>?_)
      ·refine .zw 17 rfl zm ?_;refine .z 18 rfl zm ?_;refine .z 19 rfl fM ?_
       refine .ixX (enc:=fun x=>[I x]) (i:=20) hs rfl aH (.some rfl rfl) hr rfl rfl af ai (bJ (l:=l) (i:=(k-1)) ak) cz ?_;intro b43 o43 hc43;replace hc43:=bL.one hc43
       refine .r (i:=21) hs rfl aH (.some rfl rfl) (aP rfl ae hc43) ?_
       refine .zw 22 rfl zm ?_;refine .z 23 rfl zm ?_
       refine .ixX (enc:=fun x=>[I x]) (i:=24) hs rfl aH (.some rfl rfl) hr rfl rfl af ai (bJ (l:=l) (i:=k) ak) cz ?_;intro b47 o47 hc47;replace hc47:=bL.one hc47
       refine .r (i:=25) hs rfl aH (.some rfl rfl) (aP rfl ae hc47) ?_
       refine .zw 26 rfl uF ?_;refine .z 27 rfl zpT ?_;refine .z 28 rfl zpF ?_;refine .D hs ?_
       refine (.bn rfl (fun hc51=>?_) (fun hc51=>?_))
       ·refine .aj (.zn zg (.ret (rB (rT (rT (rB (rT (Fin.bq uB rfl ?_))))))))
        exact ⟨false,rfl,⟨fun h=>(by cases h),fun h=>by have:=tq h (j:=k) ak;omega⟩,hs⟩
       ·refine .skip (nB (nT (.region (.z zm (.z cu (.zn zg (nT ?_)))))))
        exact ⟨k+1,.cP rfl bT a6,⟨ak,fun j hj=>by
         by_cases e:j=k
         ·subst e;exact ⟨ak,ak,fun _=>by omega⟩
         ·exact hno j ak,hs⟩,ak⟩
      ·refine .F 17 rfl (.F 18 rfl (.F 19 rfl (.F 20 rfl (.F 21 rfl (.F 22 rfl (.F 23 rfl (.F 24 rfl (.F 25 rfl (.F 26 rfl (.zw 27 rfl zpF ?_))))))))));refine .z 28 rfl zpF ?_;refine .D hs ?_
       refine (.cF (.skip (nB (nT (.region (.z zm (.z cu (.zn zg (nT ?_)))))))))
       exact ⟨k+1,.cP rfl bT a6,⟨ak,fun j hj=>by
        by_cases e:j=k
        ·subst e;exact ⟨ak,ak,fun _=>by omega⟩
        ·exact hno j ak,hs⟩,ak⟩
   ·refine .exit (xT (xT (xB (nT (.aj (.zn zg (.ret (Fin.bq uB rfl ?_))))))))
    exact ⟨true,rfl,⟨fun _=>Ie ak ak fun j hj=>hno j ak,fun _=>rfl⟩,hs⟩
theorem iD{v:Value}{l:List Int}(hs:St H w σ)(hr:RI H v l):
  Cl Tryz.prog 168 [v] w fun u w'=>∃e,u=I e∧((fq 9 100000 l∧e=0)∨(¬fq 9 100000 l∧e≠0))∧St H w' σ:=by
 refine Cl.o Tryz.func168 Tryz.ntmps168 ag1 ?_
 refine .aj (.zn zg (.seq (.aj (.z zm (.o (.call Tryz.call217 rfl (ka (many:=9) (most:=100000) hs hr ak) ?_))))));rintro _ w ⟨b4,rfl,hb4,hs⟩
 refine .zn fI (.cond rfl (fun hc5=>?_) (fun hc5=>?_))
 ·refine .aj (.zn zg (.ret (rT (Fin.bq Tryz.results168 rfl ?_))))
  exact ⟨_,rfl,.inr ⟨fun h=>by simp [hb4.2 h] at hc5,by decide⟩,hs⟩
 ·refine .skip (nT (.aj (.zn zg (.ret (Fin.bq Tryz.results168 rfl ?_)))))
  exact ⟨_,rfl,.inl ⟨hb4.1 (by simpa using hc5),rfl⟩,hs⟩
theorem F8{a b k:Int}(hk:1≤k∧k≤3)(h:a*k=b∨b*k=a)(hno:∀j:Int,1≤j→j<k→¬(a*j=b∨b*j=a)):tms a b=k:=by
 have h3:k=1∨k=2∨k=3:=by omega
 unfold tms
 rcases h3 with rfl|rfl|rfl
 ·rw [if_pos ak]
 ·have:=hno 1 ak ak
  rw [if_neg ak,if_pos h]
 ·have:=hno 1 ak ak
  have:=hno 2 ak ak
  rw [if_neg ak,if_neg this,if_pos h]
theorem HK{a b:Int}(hno:∀j:Int,1≤j→j<4→¬(a*j=b∨b*j=a)):tms a b=0:=by
 have:=hno 1 ak ak
 have h2:=hno 2 ak ak
 have h3:=hno 3 ak ak
 unfold tms
 rw [if_neg ak,if_neg h2,if_neg h3]
theorem nE{a b:Int}(hs:St H w σ)(ha:0≤a∧a≤100000)(hb:0≤b∧b≤100000):
  Cl Tryz.prog 283 [I a,I b] w fun u w'=>u=I (tms a b)∧St H w' σ:=by
 refine Cl.o Tryz.func283 Tryz.ntmps283 ag2 ?_
 refine .aj (.zn zg (.seq (.aj (.zn zg (.block ?_)))))
 refine .loop (fun k:Nat=>⟨23,[],[(5,I (k:Int)),(0,I a),(1,I b)]⟩)
  (fun k w=>1≤k∧k≤4∧(∀j:Int,1≤j→j<k→¬(a*j=b∨b*j=a))∧St H w σ) (fun k=>4 - k) 1 (.cP rfl bT a6)
  ⟨ak,ak,fun j h1 h2=>by omega,hs⟩ ?_
 rintro k w ⟨hk1,hk4,hno,hs⟩
 have hba:=jK (a:=a) (b:=(k:Int)) (A:=100000) (B:=4) ak ak
 have hbb:=jK (a:=b) (b:=(k:Int)) (A:=100000) (B:=4) ak ak
 refine .seq (.aj (.z zm (.zn nb (.bn rfl (fun hc7=>?_) (fun hc7=>?_)))))
 ·refine .skip (nT (.seq (.block (.aj (.z zm (.z zm (.z jN (.z zm (.z fF (.z zm (.ie (t':=15) rfl (fun hb15=>?_) (fun hb15=>?_))))))))))))
  ·refine .Fs 5 5 false (.zn zpT (.cT (.aj (.z zm (.zn zg (.ret (rB (rT (rT (rB (rT (Fin.bq Tryz.results283 rfl ?_))))))))))))
   exact ⟨by rw [F8 ⟨ak,ak⟩ (.inl hb15) hno],hs⟩
  ·refine .T (.z zm (.T (.z zm (.T (.z jN (.T (.z zm (.T (.z fF (.zn zpF (.bn rfl (fun hc21=>?_) (fun hc21=>?_))))))))))))
   ·refine .aj (.z zm (.zn zg (.ret (rB (rT (rT (rB (rT (Fin.bq Tryz.results283 rfl ?_)))))))))
    exact ⟨by rw [F8 ⟨ak,ak⟩ (.inr hc21) hno],hs⟩
   ·refine .skip (nB (nT (.region (.z zm (.z cu (.zn zg (nT ?_)))))))
    exact ⟨k+1,.cP rfl bT a6,⟨ak,ak,fun j h1 h2=>by
     by_cases e:j=(k:Int)
     ·subst e;omega
     ·exact hno j h1 ak,hs⟩,ak⟩
 ·refine .exit (xT (xT (xB (nT (.aj (.zn zg (.ret (Fin.bq Tryz.results283 rfl ?_))))))))
  obtain rfl:k=4:=by omega
  exact ⟨by rw [HK hno],hs⟩
def Grp.c(g:Grp):List Value:=[I (g.at_:Int),I (g.n:Int)]
def FY(l:List Grp):List Value:=(l.map Grp.c).flatten
theorem A6(a b:List Grp):FY (a++b)=FY a++FY b:=by simp [FY]
theorem wB:∀l:List Grp,(FY l).length=l.length*2
 |[]=>rfl
 |g::l=>by have:=wB l;simp only [FY,List.map_cons,List.flatten_cons,List.length_append,List.length_cons] at this ⊢;rw [this];simp [Grp.c];omega
set_option maxHeartbeats 1000000 in
theorem sU{v:Value}{l:List Int}(hs:St H w σ)(hr:RI H v l)(hp:fq 9 100000 l):
  Cl Tryz.prog 282 [v] w fun u w'=>∃H1,HLe H H1∧RS H1 2 u ((mY l).map Grp.c)∧St H1 w' σ:=by
 obtain ⟨a,c,rfl⟩:=RI.shape hr
 have hlen:=hp.many
 have hgl:(mY l).length≤9:=by have:=ml l l.length 0;unfold mY;omega
 refine Cl.o Tryz.func282 Tryz.ntmps282 ag1 ?_
 refine .aj (.zn zg (.aj (.zn zg (.aj (.zn zg (.seq (.block ?_)))))))
 refine .loop (fun p:Nat×Value=>⟨51,[],[(4,I (p.1:Int)),(3,p.2),(0,.slice a l.length c)]⟩)
  (fun p w=>p.1≤l.length∧∃j en,j≤(mY l).length∧(mY l).drop j=nI l p.1∧cN 2 p.2 (FY ((mY l).take j)) en∧St H w (en::σ)) (fun p=>l.length - p.1) (0,.slice none 0 0) a6
  ⟨Nat.zero_le _,0,_,Nat.zero_le _,rfl,.nil 2 none,hs.nul⟩ ?_
 rintro ⟨i,vo⟩ w ⟨hil,j,en,hj,hd,hO,hs⟩
 dsimp only at hil hd hO ⊢
 have htl:=List.length_take_le j (mY l)
 refine .seq (.aj (.z zm (.z cu (.z zm (.z (da af) (.zn fV (.bn rfl (fun hc10=>?_) (fun hc10=>?_))))))))
 ·refine .skip (nT (.block (.aj (.zn zg (.cut (fun fs w=>lF fs ⟨51,[],[(5,I (((if e9 l i then 2 else 1:Nat)):Int)),(4,I (i:Int)),(3,vo),(0,.slice a l.length c)]⟩∧St H w (en::σ)) ?_ ?_)))))
  ·refine .seq (.draw mix rfl hs fun w hs=>?_)
   refine .zw 0 rfl zm ?_;refine .z 1 rfl cu ?_;refine .z 2 rfl zm ?_;refine .z 3 rfl (da af) ?_;refine .z 4 rfl fV ?_;refine .z 5 rfl zm ?_
   refine .ie (t':=16) rfl (fun hb16=>?_) (fun hb16=>?_)
   ·refine .zw 6 rfl zm ?_;refine .z 7 rfl zm ?_;refine .z 8 rfl cu ?_
    have r1:=hp.rise i ak
    have r2:gi l (i+1)<gi l (i+2):=hp.rise (i+1) ak
    have q1:=hp.bd (i:=i) ak
    have q2:=hp.bd (i:=i+2) ak
    refine .ixX (enc:=fun x=>[I x]) (i:=9) hs rfl aH (.some rfl rfl) hr rfl rfl af ai (bJ (l:=l) (i:=(i+1)) ak) cz ?_;intro b20 o20 hc20;replace hc20:=bL.one hc20
    refine .r (i:=10) hs rfl aH (.some rfl rfl) (aP rfl ae hc20) ?_
    refine .zw 11 rfl zm ?_;refine .z 12 rfl zm ?_
    refine .ixX (enc:=fun x=>[I x]) (i:=13) hs rfl aH (.some rfl rfl) hr rfl rfl af ai (bJ (l:=l) (i:=i) ak) cz ?_;intro b24 o24 hc24;replace hc24:=bL.one hc24
    refine .r (i:=14) hs rfl aH (.some rfl rfl) (aP rfl ae hc24) ?_
    refine .zw 15 rfl fM ?_;refine .z 16 rfl zm ?_;refine .z 17 rfl zm ?_;refine .z 18 rfl cu ?_
    refine .ixX (enc:=fun x=>[I x]) (i:=19) hs rfl aH (.some rfl rfl) hr rfl rfl af ai (bJ (l:=l) (i:=(i+2)) ak) cz ?_;intro b30 o30 hc30;replace hc30:=bL.one hc30
    refine .r (i:=20) hs rfl aH (.some rfl rfl) (aP rfl ae hc30) ?_
    refine .zw 21 rfl zm ?_;refine .z 22 rfl zm ?_;refine .z 23 rfl cu ?_
    refine .ixX (enc:=fun x=>[I x]) (i:=24) hs rfl aH (.some rfl rfl) hr rfl rfl af ai (bJ (l:=l) (i:=(i+1)) ak) cz ?_;intro b35 o35 hc35;replace hc35:=bL.one hc35
    refine .r (i:=25) hs rfl aH (.some rfl rfl) (aP rfl ae hc35) ?_
    refine .zw 26 rfl fM (.E 27 hs ?_)
    refine .call Tryz.call283 rfl (nE hs ak ak) ?_;rintro _ w ⟨rfl,hs⟩
    refine .go (.zw 28 rfl k7 ?_);refine .z 29 rfl zpT ?_;refine .D hs ?_
    refine (.bn rfl (fun hc40=>?_) (fun hc40=>?_))
    ·refine .region (.zn zg (nT ?_))
     have e:e9 l i=true:=by simp [e9];omega
     rw [e];exact ⟨a6,hs⟩
    ·refine .skip (nT ?_)
     have e:e9 l i=false:=by simp [e9];omega
     rw [e];exact ⟨a6,hs⟩
   ·refine .F 6 rfl (.F 7 rfl (.F 8 rfl (.F 9 rfl (.F 10 rfl (.F 11 rfl (.F 12 rfl (.F 13 rfl (.F 14 rfl (.F 15 rfl (.F 16 rfl ?_))))))))))
    refine .F 17 rfl (.F 18 rfl (.F 19 rfl (.F 20 rfl (.F 21 rfl (.F 22 rfl (.F 23 rfl (.F 24 rfl (.F 25 rfl (.F 26 rfl (.F 27 rfl (.F 28 rfl (.zw 29 rfl zpF ?_))))))))))));refine .D hs ?_
    refine (.cF (.skip (nT ?_)))
    have e:e9 l i=false:=by simp [e9];omega
    rw [e];exact ⟨a6,hs⟩
  ·rintro fs w ⟨hfs,hs⟩
   refine WE.sub ?_ hfs
   have hgo:=wg (l:=l) (i:=i) ak
   rw [hgo] at hd
   have hjl:j<(mY l).length:=by
    have:=congrArg List.length hd
    simp at this;omega
   have hgj:(mY l)[j]? =some ⟨i,e9 l i⟩:=by
    rw [List.drop_eq_getElem_cons hjl] at hd
    rw [List.getElem?_eq_getElem hjl,(List.cons.inj hd).1]
   have hdj:(mY l).drop (j+1)=nI l (i+(if e9 l i then 2 else 1)):=by
    rw [List.drop_eq_getElem_cons hjl] at hd
    exact (List.cons.inj hd).2
   have hn12:(if e9 l i then 2 else 1:Nat)=1∨(if e9 l i then 2 else 1:Nat)=2:=by split<;>simp
   have hgc:Grp.c ⟨i,e9 l i⟩=[I (i:Int),I (((if e9 l i then 2 else 1:Nat)):Int)]:=rfl
   generalize (if e9 l i then 2 else 1:Nat)=n at*
   refine .aj (.z zm (.z zm (.z zm (.z (zbd [_,_] se) (.o (.buildSlice (cells:=[_,_]) hs r9 rfl rfl fun b45 w hs=>?_))))))
   refine .o (.append (ys:=[I (i:Int),I (n:Int)]) hs l7 rfl rfl hO (.own .here rfl rfl) (by simp [Value.oneCell']) (fun l' h=>by rw [wB] at h;omega) ?_);intro v46 en46 w hO2 hs
   rw [←hgc,show Grp.c ⟨i,e9 l i⟩=FY [⟨i,e9 l i⟩] by simp [FY],←A6,←dj hgj] at hO2
   refine .zn zg (.region (.z zm (.z zm (.z cu (.zn zg (nB (nT ?_)))))))
   exact ⟨(i+n,v46),.cP rfl bT a6,⟨by dsimp only;omega,j+1,_,hjl,hdj,hO2,hs.sb⟩,by dsimp only;omega⟩
 ·refine .exit (xT (xT (xB (nT (.aj (.z zm (.zn zg (.ret (Fin.bq Tryz.results282 rfl ?_)))))))))
  rw [tc ak] at hd
  have:(mY l).length≤j:=by simpa using hd
  obtain rfl:j=(mY l).length:=by omega
  rw [List.take_length] at hO
  obtain ⟨H1,g1,r1,hs⟩:=cN.cQ (m:=2) (cs:=(mY l).map Grp.c) hO (fun c hc=>by simp only [List.mem_map] at hc;obtain ⟨x,_,rfl⟩:=hc;rfl) ak (by rw [List.length_map];omega) hs .here
  exact ⟨H1,g1,r1,hs⟩
theorem rM{l:List Int}{i j:Nat}(h:i≠j)(x:Int):gi (l.set i x) j=gi l j:=by
 simp [gi,List.getD,h]
set_option maxHeartbeats 1000000 in
theorem jR{v:Value}{l:List Int}(hs:St H w σ)(hr:RI H v l)(hp:fq 9 100000 l):
  Cl Tryz.prog 258 [v] w fun u w'=>∃H1,HLe H H1∧RI H1 u (wts l)∧St H1 w' σ:=by
 obtain ⟨a,c,rfl⟩:=RI.shape hr
 have hln:=hp.many
 have hgl:(mY l).length≤9:=by have:=ml l l.length 0;unfold mY;omega
 refine Cl.o Tryz.func258 Tryz.ntmps258 ag1 ?_
 refine .aj (.zn zg (.aj (.z zm (.z (da af) (.o (.wT l.length hs rfl rfl af gV rfl ai cq ak fun b16 w hs=>?_))))))
 replace hs:St H w (.blk b16 (Is (uZ l 0))::σ):=hs
 refine .zn zg (.aj (.z zm (.o (.call Tryz.call282 rfl (sU hs hr hp) ?_))));rintro v18 w ⟨H1,hle1,hG,hs⟩
 have hrr:=hr.mono hle1
 obtain ⟨ag,cg,rfl⟩:=RS.shape hG
 rw [List.length_map] at hG ⊢
 refine .zn zg (.seq (.aj (.zn zg (.block ?_))))
 refine .loop (fun k:Nat=>⟨133,[],[(5,I (k:Int)),(4,.slice ag (mY l).length cg),(3,.slice (some ⟨b16,0,none⟩) l.length l.length),(0,.slice a l.length c)]⟩)
  (fun k w=>k≤(mY l).length∧St H1 w (.blk b16 (Is (uZ l k))::σ)) (fun k=>(mY l).length - k) 0 (.cP rfl bT a6)
  ⟨Nat.zero_le _,hs⟩ ?_
 rintro k w ⟨hk,hs⟩
 refine .seq (.aj (.z zm (.z zm (.z (da lz) (.zn fV (.bn rfl (fun hc22=>?_) (fun hc22=>?_)))))))
 ·refine .skip (nT (.seq (.block (.aj (.z zm (.z zm ?_))))))
  have hjl:k<(mY l).length:=by omega
  obtain ⟨g,hg⟩:=nth hjl
  obtain ⟨i1,i2,i3,i4,i5⟩:=wh hp (List.mem_of_getElem? hg)
  have hK:=uY hg
  have hKl:=nf l k
  have hKz:=sA hp k ak
  have z0:=kj (uZ l k) (v:=g.at_) (n:=l.length) ak
  have z1:=kj (uZ l k) (v:=g.at_+1) (n:=l.length) ak
  have hq0:=hp.bd (i:=g.at_) ak
  have hq1:=hp.bd (i:=g.at_+1) ak
  have hgm:((mY l).map Grp.c)[k]? =some (Grp.c g):=by rw [List.getElem?_map,hg];rfl
  generalize uZ l k=W at*
  have e1:∀x,gi (W.set g.at_ x) (g.at_+1)=gi W (g.at_+1):=fun x=>rM ak x
  generalize hA:gi l (g.at_+1) - gi l g.at_=A at*
  refine .ixX (enc:=Grp.c) hs hG rfl rfl lz pY hg cz ?_;intro b27 o27 hc27
  have d0:cellAt H1 b27 o27=some (I (g.at_:Int)):=hc27 0 _ rfl
  have d1:cellAt H1 b27 (o27+1)=some (I (g.n:Int)):=hc27 1 _ rfl
  refine .z (zfa gE) (.y hs (zld ae) (.zn zg (.seq (.draw mix rfl hs fun w hs=>?_))))
  refine .zw 0 rfl zm ?_;refine .z 1 rfl zm ?_;refine .z 2 rfl cu ?_
  refine .ixX (enc:=fun x=>[I x]) (i:=3) hs rfl aH .none hrr rfl rfl af ai (bJ (l:=l) (i:=(g.at_+1)) ak) cz ?_;intro b33 o33 hc33;replace hc33:=bL.one hc33
  refine .r (i:=4) hs rfl aH .none (aP rfl ae hc33) ?_
  refine .zw 5 rfl zm ?_;refine .z 6 rfl zm ?_
  refine .ixX (enc:=fun x=>[I x]) (i:=7) hs rfl aH .none hrr rfl rfl af ai (bJ (l:=l) (i:=g.at_) ak) cz ?_;intro b37 o37 hc37;replace hc37:=bL.one hc37
  refine .r (i:=8) hs rfl aH .none (aP rfl ae hc37) ?_
  refine .zw 9 rfl fM ?_
  rw [hA]
  refine .zw 10 rfl zg ?_;refine .D hs ?_
  refine .seq (.aj (.z zm (.z zm (.ixX (enc:=Grp.c) hs hG rfl rfl lz pY hg cz ?_))));intro b42 o42 hc42
  have d2:cellAt H1 b42 (o42+1)=some (I (g.n:Int)):=hc42 1 _ rfl
  refine .z (zfa jv) (.y hs (zld ae) (.zn fF (.bn rfl (fun hc45=>?_) (fun hc45=>?_))))
  ·refine .aj (.z zm (.z zm (.q hs (iI (k:=g.at_) rfl rfl af ai ak ak) (.y hs (zld ae) (.z zm (.z jN (.z cu (.q hs (iI (k:=g.at_) rfl rfl af ai ak ak) (.o (.store hs rfl rfl ai fun w hs=>?_))))))))))
   refine .nil (.aj (.z zm (.z zm (.z cu (.q hs (iI (k:=g.at_+1) rfl rfl af ai ak ak) (.q hs (gY rfl ae (hv:=jx (by rw [List.length_set];omega))) ?_))))))
   rw [e1]
   refine .z zm (.z jN (.z cu (.q hs (iI (k:=g.at_+1) rfl rfl af ai ak ak) (.o (.store hs rfl rfl ai ?_ dz (by simp [Is];omega))))));intro w hs
   refine .nil (.exit (xT (xB (nT (.region (.z zm (.z cu (.zn zg (nT ?_)))))))))
   have h2:g.two=false:=by
    cases e:g.two with
    |false=>rfl
    |true=>simp [Grp.n,e] at hc45
   rw [BA h2 hA] at hK
   have e:uZ l (k+1)=(W.set g.at_ (gi W g.at_+18*A)).set (g.at_+1) (gi W (g.at_+1)+18*A):=by rw [hK];simp only [lY];rw [e1]
   exact ⟨k+1,.cP rfl bT a6,⟨ak,by rw [e];exact hs⟩,ak⟩
  ·refine .skip (nT (.seq (.draw mix rfl hs fun w hs=>?_)))
   have h2:g.two=true:=by
    cases e:g.two with
    |true=>rfl
    |false=>simp [Grp.n,e] at hc45
   obtain ⟨j1,j2,j3,j4⟩:=i4 h2
   have hq2:=hp.bd (i:=g.at_+2) ak
   have z2:=kj W (v:=g.at_+2) (n:=l.length) ak
   have e2:∀x y,gi ((W.set g.at_ x).set (g.at_+1) y) (g.at_+2)=gi W (g.at_+2):=fun x y=>by rw [rM ak,rM ak]
   generalize hB:gi l (g.at_+2) - gi l (g.at_+1)=B at*
   have hk3:=CQ j4
   have hmm:=xq (a:=A) (b:=B) ⟨ak,ak⟩ ⟨ak,ak⟩
   obtain ⟨n1,n2,n3,n4⟩:=By hk3 hmm.1 hmm.2
   obtain ⟨n5,n6,n7,n8,n9⟩:=n4 _ n3.1 n3.2
   have hgw0:=Bz h2 hA hB rfl rfl
   refine .zw 0 rfl zm ?_;refine .z 1 rfl zm ?_;refine .z 2 rfl cu ?_
   refine .ixX (enc:=fun x=>[I x]) (i:=3) hs rfl aH .none hrr rfl rfl af ai (bJ (l:=l) (i:=(g.at_+2)) ak) cz ?_;intro b66 o66 hc66;replace hc66:=bL.one hc66
   refine .r (i:=4) hs rfl aH .none (aP rfl ae hc66) ?_
   refine .zw 5 rfl zm ?_;refine .z 6 rfl zm ?_;refine .z 7 rfl cu ?_
   refine .ixX (enc:=fun x=>[I x]) (i:=8) hs rfl aH .none hrr rfl rfl af ai (bJ (l:=l) (i:=(g.at_+1)) ak) cz ?_;intro b71 o71 hc71;replace hc71:=bL.one hc71
   refine .r (i:=9) hs rfl aH .none (aP rfl ae hc71) ?_
   refine .zw 10 rfl fM ?_
   rw [hB]
   refine .zw 11 rfl zg ?_;refine .D hs ?_
   refine .aj (.z zm (.z zm (.o (.call Tryz.call283 rfl (nE hs ak ak) ?_))));rintro _ w ⟨rfl,hs⟩
   generalize hT:tms A B=T at*
   refine .zn zg (.aj (.z zm (.z zm (.z Al ?_))))
   generalize hM:min A B=M at*
   refine .zn zg (.aj (.z zm (.q hs (rh rfl rfl ak ak) (.z zm (.z cu (.z jN (.z zm (.z jN (.zn zg (.aj (.z zm (.z zm (.z jN (.z zm (.z fM (.z jN (.zn zg (.aj (.z zm (.z zm (.z jN (.z fM (.z jN (.zn zg (.cut (fun fs w=>∃x y:Int,lF fs ⟨133,[],[(13,I y),(12,I x),(11,I ((6:Int).tdiv T*(1+T)*M)),(9,I T),(6,I (g.at_:Int)),(5,I (k:Int)),(4,.slice ag (mY l).length cg),(3,.slice (some ⟨b16,0,none⟩) l.length l.length),(0,.slice a l.length c)]⟩∧(-6000000≤x∧x≤6000000)∧(-6000000≤y∧y≤6000000)∧wU l g=[x,(6:Int).tdiv T*(1+T)*M*(1+T)*(1+T),y]∧St H1 w (.blk b16 (Is W)::σ)) ?_ ?_)))))))))))))))))))))))))
   ·refine .aj (.z zm (.z zm (.zn k7 (.bn rfl (fun hc100=>?_) (fun hc100=>?_)))))
    ·refine .region (.z zm (.z zm (.z zg (.zn zg (nT ?_)))))
     exact ⟨_,_,a6,ak,ak,by rw [hgw0,if_pos hc100],hs⟩
    ·refine .skip (nT ?_)
     exact ⟨_,_,a6,ak,ak,by rw [hgw0,if_neg ak],hs⟩
   ·rintro fs w ⟨x,y,hfs,hx,hy,hgw,hs⟩
    refine WE.sub ?_ hfs
    have e:uZ l (k+1)=((W.set g.at_ (gi W g.at_+x)).set (g.at_+1) (gi W (g.at_+1)+(6:Int).tdiv T*(1+T)*M*(1+T)*(1+T))).set (g.at_+2) (gi W (g.at_+2)+y):=by
     rw [hK,hgw];simp only [lY];rw [e1,show g.at_+1+1=g.at_+2 by omega,e2]
    refine .aj (.z zm (.z zm (.q hs (iI (k:=g.at_) rfl rfl af ai ak ak) (.y hs (zld ae) (.z zm (.z cu (.q hs (iI (k:=g.at_) rfl rfl af ai ak ak) (.o (.store hs rfl rfl ai fun w hs=>?_)))))))))
    refine .nil (.aj (.z zm (.z zm (.z cu (.q hs (iI (k:=g.at_+1) rfl rfl af ai ak ak) (.q hs (gY rfl ae (hv:=jx (by rw [List.length_set];omega))) ?_))))))
    rw [e1]
    refine .z zm (.z zm (.z cu (.z jN (.z zm (.z cu (.z jN (.z cu (.q hs (iI (k:=g.at_+1) rfl rfl af ai ak ak) (.o (.store hs rfl rfl ai ?_ dz (by simp [Is];omega)))))))))));intro w hs
    refine .nil (.region (.z zm (.z zm (.z cu (.q hs (iI (k:=g.at_+2) rfl rfl af ai ak ak) (.q hs (gY rfl ae (hv:=jx (by rw [List.length_set,List.length_set];omega))) ?_))))))
    rw [e2]
    refine .z zm (.z cu (.q hs (iI (k:=g.at_+2) rfl rfl af ai ak ak) (.o (.store hs rfl rfl ai ?_ dz (by simp [Is];omega)))));intro w hs
    refine .nil (nB (nT (.region (.z zm (.z cu (.zn zg (nT ?_)))))))
    exact ⟨k+1,.cP rfl bT a6,⟨ak,by rw [e];exact hs⟩,ak⟩
 ·refine .exit (xT (xT (xB (nT (.aj (.z zm (.zn zg (.ret (Fin.bq Tryz.results258 rfl ?_)))))))))
  obtain rfl:k=(mY l).length:=by omega
  rw [Be] at hs
  obtain ⟨H3,hle3,hR,hs⟩:=cN.dM (xs:=wts l) (v:= .slice (some ⟨b16,0,none⟩) l.length l.length) (.full (by simp [Is,eW])) (by rw [eW];omega) hs .here
  exact ⟨H3,hle1.trans hle3,hR,hs⟩
theorem mg{v:Value}{l:List Int}(hs:St H w σ)(hr:RI H v l)(hp:fq 9 100000 l):
  Cl Tryz.prog 214 [v] w fun u w'=>∃H1 vo,HLe H H1∧u= .tuple #[vo,I 0]∧RI H1 vo (wts l)∧St H1 w' σ:=by
 refine Cl.o Tryz.func214 Tryz.ntmps214 ag1 ?_
 refine .aj (.z zg (.zn zg (.seq (.aj (.z zm (.o (.call Tryz.call168 rfl (iD hs hr) ?_)))))));rintro _ w ⟨e,rfl,he,hs⟩
 obtain rfl:e=0:=he.elim (fun h=>h.2) fun h=>(h.1 hp).elim
 refine .zn hZ (.dZ rfl (fun hc7=>?_) (fun hc7=>?_))
 ·refine .aj (.z zg (.zn zg (.ret (rT (Fin.ij Tryz.results214 rfl rfl ?_)))))
  exact (hc7 rfl).elim
 ·refine .skip (nT (.aj (.z zm (.o (.call Tryz.call258 rfl (jR hs hr hp) ?_)))));rintro v9 w ⟨H1,hle1,hR,hs⟩
  refine .zn zg (.aj (.z zm (.z zg (.zn zg (.ret (Fin.ij Tryz.results214 rfl rfl ?_))))))
  exact ⟨H1,_,hle1,rfl,hR,hs⟩
theorem rf{v1 v2:Value}{a b:List Int}(hs:St H w σ)(h1:RI H v1 a)(h2:RI H v2 b)(hp1:fq 9 100000 a)(hp2:fq 7 15000 b):
  Cl Tryz.prog 257 [v1,v2] w fun u w'=>u= .bool true∧St H w' σ:=by
 refine Cl.o Tryz.func257 Tryz.ntmps257 ag2 ?_
 refine .aj (.zn zg (.aj (.z zm (.o (.call Tryz.call217 rfl (ka (many:=9) (most:=100000) hs h1 ak) ?_)))));rintro _ w ⟨b6,rfl,hb6,hs⟩
 refine .z zm (.bif (t':=7) rfl (fun hb7=>?_) (fun hb7=>?_))
 ·refine .T (.z zm (.T (.o (.call Tryz.call217 rfl (ka (many:=7) (most:=15000) hs h2 ak) ?_))));rintro _ w ⟨b9,rfl,hb9,hs⟩
  refine .z zpT (.zn zg (.ret (Fin.bq Tryz.results257 rfl ?_)))
  exact ⟨by rw [hb9.2 hp2],hs⟩
 ·refine .Fs 2 2 true (.z zpF (.zn zg (.ret (Fin.bq Tryz.results257 rfl ?_))))
  rw [hb6.2 hp1] at hb7;cases hb7
set_option maxHeartbeats 1000000 in
theorem vQ{v1 v2:Value}{l1 l2:List Int}(hs:St H w σ)(hr1:RI H v1 l1)(hr2:RI H v2 l2)(hp1:fq 9 100000 l1)(hp2:fq 7 15000 l2):
  Cl Tryz.prog 213 [v1,v2] w fun u w'=>∃H1 vo,HLe H H1∧u= .tuple #[vo,I 0]∧RT H1 vo (mZ (wts l1) (wts l2) l1.length)∧St H1 w' σ:=by
 obtain ⟨a1,c1,rfl⟩:=RI.shape hr1
 obtain ⟨a2,c2,rfl⟩:=RI.shape hr2
 have hn1:=hp1.many
 have hn2:=hp2.many
 have hp2':fq 9 100000 l2:=⟨hp2.two,ak,hp2.low,by have:=hp2.high;omega,hp2.rise⟩
 have hXl:=eW l1
 have hYl:=eW l2
 have hXb:=Bd hp1
 have hYb:=Bd hp2
 refine Cl.o Tryz.func213 Tryz.ntmps213 ag2 ?_
 refine .aj (.z zg (.zn zg (.seq (.aj (.z zm (.z zm (.o (.call Tryz.call257 rfl (rf hs hr1 hr2 hp1 hp2) ?_))))))));rintro _ w ⟨rfl,hs⟩
 refine .zn fI (.cond rfl (fun hc15=>?_) (fun hc15=>?_))
 ·refine .aj (.z zg (.zn zg (.ret (rT (Fin.ij Tryz.results213 rfl rfl ?_)))))
  cases hc15
 ·refine .skip (nT (.aj (.z zm (.o (.call Tryz.call258 rfl (jR hs hr1 hp1) ?_)))));rintro v17 w ⟨H1,hle1,hX,hs⟩
  refine .zn zg (.aj (.z zm (.o (.call Tryz.call258 rfl (jR hs (hr2.mono hle1) hp2') ?_))));rintro v19 w ⟨H2,hle2,hY,hs⟩
  replace hX:=hX.mono hle2
  generalize wts l1=X at*
  generalize wts l2=Y at*
  obtain ⟨aX,cX,rfl⟩:=RI.shape hX
  obtain ⟨aY,cY,rfl⟩:=RI.shape hY
  refine .zn zg (.aj (.zn zg (.seq (.aj (.zn zg (.block ?_))))))
  refine .loop (fun p:Nat×Value=>⟨49,[],[(9,I (p.1:Int)),(8,p.2),(7,.slice aY Y.length cY),(6,.slice aX X.length cX)]⟩)
   (fun p w=>p.1≤X.length∧∃H3 us en,HLe H2 H3∧RLs H3 us (mZ X Y p.1)∧cN 1 p.2 us en∧St H3 w (en::σ)) (fun p=>X.length - p.1) (0,.slice none 0 0) a6
   ⟨Nat.zero_le _,H2,[],_,HLe.refl _,RLs.nil _,.nil 1 none,hs.nul⟩ ?_
  rintro ⟨i,vo⟩ w ⟨hi,H3,us,en,hle3,hRL,hO,hs⟩
  dsimp only at hi hRL hO ⊢
  have husl:us.length=i:=by rw [hRL.1,kz]
  refine .seq (.aj (.z zm (.z zm (.z (da af) (.zn fV (.bn rfl (fun hc23=>?_) (fun hc23=>?_)))))))
  ·refine .skip (nT (.seq (.block (.aj (.zn zg (.seq (.aj (.zn zg (.block ?_)))))))))
   refine .loop (fun p:Nat×Value=>⟨49,[],[(11,I (p.1:Int)),(10,p.2),(9,I (i:Int)),(8,vo),(7,.slice aY Y.length cY),(6,.slice aX X.length cX)]⟩)
    (fun p w=>p.1≤Y.length∧∃en2,cN 1 p.2 (Is ((yW X Y i).take p.1)) en2∧St H3 w (en2::en::σ)) (fun p=>Y.length - p.1) (0,.slice none 0 0) a6
    ⟨Nat.zero_le _,_,.nil 1 none,hs.nul⟩ ?_
   rintro ⟨k,vr⟩ w ⟨hk,en2,hO2,hs⟩
   dsimp only at hk hO2 ⊢
   refine .seq (.aj (.z zm (.z zm (.z (da af) (.zn fV (.bn rfl (fun hc29=>?_) (fun hc29=>?_)))))))
   ·refine .skip (nT (.seq (.block (.draw mix rfl hs fun w hs=>?_))))
    refine .zw 0 rfl zm ?_;refine .z 1 rfl zm ?_;refine .z 2 rfl zm ?_
    have hkm:k<Y.length:=by omega
    have hb1:=hXb i
    have hb2:=hYb k
    have hprb: -3456000000000≤gi X i*gi Y k∧gi X i*gi Y k≤3456000000000:=jK (A:=4800000) (B:=720000) (by unfold ab at hb1;omega) (by unfold ab at hb2;omega)
    refine .ixX (enc:=fun x=>[I x]) (i:=3) hs rfl aH .none (hX.mono hle3) rfl rfl af ai (bJ (l:=X) (i:=i) ak) cz ?_;intro b35 o35 hc35;replace hc35:=bL.one hc35
    refine .r (i:=4) hs rfl aH .none (aP rfl ae hc35) ?_
    refine .zw 5 rfl zm ?_;refine .z 6 rfl zm ?_
    refine .ixX (enc:=fun x=>[I x]) (i:=7) hs rfl aH .none (hY.mono hle3) rfl rfl af ai (bJ (l:=Y) (i:=k) ak) cz ?_;intro b39 o39 hc39;replace hc39:=bL.one hc39
    refine .r (i:=8) hs rfl aH .none (aP rfl ae hc39) ?_
    refine .zw 9 rfl jN (.E 10 hs ?_)
    refine .buildSlice (cells:=[_]) hs dc rfl rfl ?_;intro b42 w hs
    refine .go (.E 11 hs ?_)
    refine .append (ys:=Is [gi X i*gi Y k]) hs cV rfl rfl hO2 (.own .here rfl rfl) (js _) (fun l' h=>by simp at h;omega) ?_;intro v43 en43 w hO43 hs
    rw [show Is ((yW X Y i).take k)++Is [gi X i*gi Y k]=Is ((yW X Y i).take (k+1)) by rw [zp hkm];simp [Is]] at hO43
    refine .go (.zw 12 rfl zg ?_);refine .D hs ?_
    refine nB (nT (.region (.z zm (.z cu (.zn zg (nT ?_))))))
    exact ⟨(k+1,v43),.cP rfl bT a6,⟨by dsimp only;omega,_,hO43,hs.sb⟩,by dsimp only;omega⟩
   ·refine .exit (xT (xT (xB (nT (.region (.z zm (.z zm ?_)))))))
    obtain ⟨H4,hle4,hR,hs⟩:=cN.dM hO2 (by rw [List.length_take,j8];omega) hs .here
    rw [List.take_of_length_le (by rw [j8];omega)] at hR
    obtain ⟨ar,cr,rfl⟩:=RI.shape hR
    refine .o (.buildSlice (cells:=[_]) hs qe rfl rfl fun b46 w hs=>?_)
    refine .o (.append (ys:=[.slice ar (yW X Y i).length cr]) hs lX rfl rfl hO (.own .here rfl rfl) (by simp [Value.oneCell']) (fun l' h=>by omega) fun v47 en47 w hO47 hs=>?_)
    have hRL':RLs H4 (us++[.slice ar (yW X Y i).length cr]) (mZ X Y (i+1)):=by rw [xx];exact (hRL.mono hle4).snoc hR
    refine .zn zg (nB (nT (.region (.z zm (.z cu (.zn zg (nT ?_)))))))
    exact ⟨(i+1,v47),.cP rfl bT a6,⟨by dsimp only;omega,H4,_,_,hle3.trans hle4,hRL',hO47,hs.sb⟩,by dsimp only;omega⟩
  ·refine .exit (xT (xT (xB (nT (.aj (.z zm (.z zg (.zn zg (.ret (Fin.ij Tryz.results213 rfl rfl ?_))))))))))
   obtain rfl:i=X.length:=by omega
   obtain ⟨H5,hle5,hR,hs⟩:=hRL.cQ hO ak hs .here
   exact ⟨H5,_,hle1.trans (hle2.trans (hle3.trans hle5)),rfl,by rw [←hXl];exact hR,hs⟩
end Go.Proofs.YteajddicacjkhaaGreat
