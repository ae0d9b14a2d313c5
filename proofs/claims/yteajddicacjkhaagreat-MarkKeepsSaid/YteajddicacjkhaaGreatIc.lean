/-
  Texts of these claims, joined: Opn Opv Opm Opq Opc Cls Fct Wa Wb Wc Wd We Wf Wg Wh Wp Wt Wu Wy Xf Xi Xj Xn Srt Yc Yd Ye Yf Yq Za Zb Ze Zf.
-/
import Derived.Test.YteajddicacjkhaaGreatIb
import Derived.Test.YteajddicacjkhaaGreatProg
import Derived.KernelRfl
import Derived.JoinedOf
import Derived.Shelf.Sort.Plain
import Derived.Shelf.Slices.CompactI
import Derived.Shelf.Slices.In.SortNone
import Derived.Lib.RowBridge
namespace Go.Proofs.YteajddicacjkhaaGreat
theorem IM:type_of% @Tryz.call117:=@Tryz.call117
theorem uI:type_of% @Tryz.call131:=@Tryz.call131
theorem IL:type_of% @Tryz.call133:=@Tryz.call133
theorem iG:type_of% @Tryz.call141:=@Tryz.call141
theorem fA:type_of% @Tryz.call146:=@Tryz.call146
theorem dc:type_of% @Tryz.call164:=@Tryz.call164
theorem uH:type_of% @Tryz.call167:=@Tryz.call167
theorem uG:type_of% @Tryz.call188:=@Tryz.call188
theorem Bi:type_of% @Tryz.call199:=@Tryz.call199
theorem Bh:type_of% @Tryz.call242:=@Tryz.call242
theorem Bg:type_of% @Tryz.call253:=@Tryz.call253
theorem gw:type_of% @Tryz.call36:=@Tryz.call36
theorem dM:type_of% @Tryz.call72:=@Tryz.call72
theorem gv:type_of% @Tryz.call90:=@Tryz.call90
theorem rM:type_of% @Tryz.call93:=@Tryz.call93
theorem xu:type_of% @Tryz.call99:=@Tryz.call99
theorem gu:type_of% @Tryz.isAgg100:=@Tryz.isAgg100
theorem qR:type_of% @Tryz.isAgg113:=@Tryz.isAgg113
theorem j8:type_of% @Tryz.isAgg140:=@Tryz.isAgg140
theorem GW:type_of% @Tryz.isAgg159:=@Tryz.isAgg159
theorem dA:type_of% @Tryz.isAgg162:=@Tryz.isAgg162
theorem cz:type_of% @Tryz.isAgg175:=@Tryz.isAgg175
theorem aZ:type_of% @Tryz.isAgg177:=@Tryz.isAgg177
theorem qQ:type_of% @Tryz.isAgg179:=@Tryz.isAgg179
theorem eN:type_of% @Tryz.isAgg193:=@Tryz.isAgg193
theorem jF:type_of% @Tryz.isAgg22:=@Tryz.isAgg22
theorem qP:type_of% @Tryz.isAgg226:=@Tryz.isAgg226
theorem qO:type_of% @Tryz.isAgg241:=@Tryz.isAgg241
theorem qN:type_of% @Tryz.isAgg243:=@Tryz.isAgg243
theorem bp:type_of% @Tryz.isAgg25:=@Tryz.isAgg25
theorem dm:type_of% @Tryz.isAgg26:=@Tryz.isAgg26
theorem eM:type_of% @Tryz.isAgg267:=@Tryz.isAgg267
theorem bR:type_of% @Tryz.isAgg28:=@Tryz.isAgg28
theorem af:type_of% @Tryz.isAgg3:=@Tryz.isAgg3
theorem gq:type_of% @Tryz.isAgg303:=@Tryz.isAgg303
theorem an:type_of% @Tryz.isAgg34:=@Tryz.isAgg34
theorem aR:type_of% @Tryz.isAgg42:=@Tryz.isAgg42
theorem aM:type_of% @Tryz.isAgg48:=@Tryz.isAgg48
theorem cS:type_of% @Tryz.isAgg49:=@Tryz.isAgg49
theorem oG:type_of% @Tryz.isAgg50:=@Tryz.isAgg50
theorem aI:type_of% @Tryz.isAgg52:=@Tryz.isAgg52
theorem iF:type_of% @Tryz.isAgg62:=@Tryz.isAgg62
theorem eR:type_of% @Tryz.isAgg64:=@Tryz.isAgg64
theorem lE:type_of% @Tryz.isAgg66:=@Tryz.isAgg66
theorem dQ:type_of% @Tryz.isAgg87:=@Tryz.isAgg87
theorem sS:type_of% @Tryz.results111:=@Tryz.results111
theorem jW:type_of% @Tryz.results117:=@Tryz.results117
theorem mG:type_of% @Tryz.results120:=@Tryz.results120
theorem sR:type_of% @Tryz.results134:=@Tryz.results134
theorem E4:type_of% @Tryz.results15:=@Tryz.results15
theorem mF:type_of% @Tryz.results150:=@Tryz.results150
theorem sQ:type_of% @Tryz.results170:=@Tryz.results170
theorem ed:type_of% @Tryz.results18:=@Tryz.results18
theorem eQ:type_of% @Tryz.results19:=@Tryz.results19
theorem sP:type_of% @Tryz.results228:=@Tryz.results228
theorem Bq:type_of% @Tryz.results250:=@Tryz.results250
theorem mE:type_of% @Tryz.results256:=@Tryz.results256
theorem Bp:type_of% @Tryz.results259:=@Tryz.results259
theorem oF:type_of% @Tryz.results32:=@Tryz.results32
theorem E3:type_of% @Tryz.results61:=@Tryz.results61
theorem E2:type_of% @Tryz.results75:=@Tryz.results75
theorem vk:type_of% @Tryz.results79:=@Tryz.results79
theorem fj:type_of% @Tryz.runUnderlying100:=@Tryz.runUnderlying100
theorem pP:type_of% @Tryz.runUnderlying104:=@Tryz.runUnderlying104
theorem Dh:type_of% @Tryz.runUnderlying113:=@Tryz.runUnderlying113
theorem pO:type_of% @Tryz.runUnderlying140:=@Tryz.runUnderlying140
theorem gV:type_of% @Tryz.runUnderlying151:=@Tryz.runUnderlying151
theorem gU:type_of% @Tryz.runUnderlying153:=@Tryz.runUnderlying153
theorem a6:type_of% @Tryz.runUnderlying159:=@Tryz.runUnderlying159
theorem gS:type_of% @Tryz.runUnderlying162:=@Tryz.runUnderlying162
theorem aJ:type_of% @Tryz.runUnderlying175:=@Tryz.runUnderlying175
theorem Dg:type_of% @Tryz.runUnderlying179:=@Tryz.runUnderlying179
theorem Df:type_of% @Tryz.runUnderlying190:=@Tryz.runUnderlying190
theorem pN:type_of% @Tryz.runUnderlying193:=@Tryz.runUnderlying193
theorem cu:type_of% @Tryz.runUnderlying22:=@Tryz.runUnderlying22
theorem fC:type_of% @Tryz.runUnderlying23:=@Tryz.runUnderlying23
theorem De:type_of% @Tryz.runUnderlying236:=@Tryz.runUnderlying236
theorem ea:type_of% @Tryz.runUnderlying238:=@Tryz.runUnderlying238
theorem Dd:type_of% @Tryz.runUnderlying246:=@Tryz.runUnderlying246
theorem rL:type_of% @Tryz.runUnderlying25:=@Tryz.runUnderlying25
theorem aS:type_of% @Tryz.runUnderlying26:=@Tryz.runUnderlying26
theorem cW:type_of% @Tryz.runUnderlying260:=@Tryz.runUnderlying260
theorem aA:type_of% @Tryz.runUnderlying267:=@Tryz.runUnderlying267
theorem Dc:type_of% @Tryz.runUnderlying272:=@Tryz.runUnderlying272
theorem aV:type_of% @Tryz.runUnderlying3:=@Tryz.runUnderlying3
theorem pM:type_of% @Tryz.runUnderlying303:=@Tryz.runUnderlying303
theorem ae:type_of% @Tryz.runUnderlying34:=@Tryz.runUnderlying34
theorem E1:type_of% @Tryz.runUnderlying39:=@Tryz.runUnderlying39
theorem E0:type_of% @Tryz.runUnderlying42:=@Tryz.runUnderlying42
theorem EZ:type_of% @Tryz.runUnderlying44:=@Tryz.runUnderlying44
theorem kL:type_of% @Tryz.runUnderlying48:=@Tryz.runUnderlying48
theorem aO:type_of% @Tryz.runUnderlying49:=@Tryz.runUnderlying49
theorem cR:type_of% @Tryz.runUnderlying50:=@Tryz.runUnderlying50
theorem EY:type_of% @Tryz.runUnderlying52:=@Tryz.runUnderlying52
theorem az:type_of% @Tryz.runUnderlying62:=@Tryz.runUnderlying62
theorem rK:type_of% @Tryz.runUnderlying66:=@Tryz.runUnderlying66
theorem dL:type_of% @Tryz.runUnderlying80:=@Tryz.runUnderlying80
theorem kK:type_of% @Tryz.runUnderlying87:=@Tryz.runUnderlying87
theorem dK:type_of% @Tryz.runUnderlying96:=@Tryz.runUnderlying96
theorem rJ:type_of% @Tryz.runUnderlying97:=@Tryz.runUnderlying97
theorem a8:type_of% @Tryz.sizeOf100:=@Tryz.sizeOf100
theorem iY:type_of% @Tryz.sizeOf104:=@Tryz.sizeOf104
theorem gQ:type_of% @Tryz.sizeOf113:=@Tryz.sizeOf113
theorem cQ:type_of% @Tryz.sizeOf134:=@Tryz.sizeOf134
theorem bT:type_of% @Tryz.sizeOf140:=@Tryz.sizeOf140
theorem vj:type_of% @Tryz.sizeOf151:=@Tryz.sizeOf151
theorem eP:type_of% @Tryz.sizeOf153:=@Tryz.sizeOf153
theorem bk:type_of% @Tryz.sizeOf162:=@Tryz.sizeOf162
theorem oE:type_of% @Tryz.sizeOf175:=@Tryz.sizeOf175
theorem aF:type_of% @Tryz.sizeOf177:=@Tryz.sizeOf177
theorem dv:type_of% @Tryz.sizeOf179:=@Tryz.sizeOf179
theorem kJ:type_of% @Tryz.sizeOf190:=@Tryz.sizeOf190
theorem aU:type_of% @Tryz.sizeOf193:=@Tryz.sizeOf193
theorem kI:type_of% @Tryz.sizeOf241:=@Tryz.sizeOf241
theorem aK:type_of% @Tryz.sizeOf25:=@Tryz.sizeOf25
theorem qM:type_of% @Tryz.sizeOf26:=@Tryz.sizeOf26
theorem vi:type_of% @Tryz.sizeOf267:=@Tryz.sizeOf267
theorem aW:type_of% @Tryz.sizeOf28:=@Tryz.sizeOf28
theorem aj:type_of% @Tryz.sizeOf3:=@Tryz.sizeOf3
theorem aC:type_of% @Tryz.sizeOf303:=@Tryz.sizeOf303
theorem au:type_of% @Tryz.sizeOf34:=@Tryz.sizeOf34
theorem uF:type_of% @Tryz.sizeOf4:=@Tryz.sizeOf4
theorem aq:type_of% @Tryz.sizeOf42:=@Tryz.sizeOf42
theorem aD:type_of% @Tryz.sizeOf48:=@Tryz.sizeOf48
theorem GV:type_of% @Tryz.sizeOf49:=@Tryz.sizeOf49
theorem aB:type_of% @Tryz.sizeOf52:=@Tryz.sizeOf52
theorem GU:type_of% @Tryz.sizeOf62:=@Tryz.sizeOf62
theorem bH:type_of% @Tryz.sizeOf64:=@Tryz.sizeOf64
theorem dh:type_of% @Tryz.sizeOf66:=@Tryz.sizeOf66
theorem aN:type_of% @Tryz.sizeOf87:=@Tryz.sizeOf87
theorem iX:type_of% @Tryz.typeInfo3:=@Tryz.typeInfo3
theorem zE:type_of% @Tryz.typeInfo303:=@Tryz.typeInfo303
theorem fl:type_of% @Tryz.underlying3:=@Tryz.underlying3
theorem IK:type_of% @Tryz.underlying37:=@Tryz.underlying37
theorem oD:type_of% @Tryz.underlying39:=@Tryz.underlying39
theorem kh:type_of% @Tryz.underlying44:=@Tryz.underlying44
theorem fN:type_of% @Tryz.zeroValue100:=@Tryz.zeroValue100
theorem xt:type_of% @Tryz.zeroValue104:=@Tryz.zeroValue104
theorem iE:type_of% @Tryz.zeroValue134:=@Tryz.zeroValue134
theorem iD:type_of% @Tryz.zeroValue140:=@Tryz.zeroValue140
theorem xr:type_of% @Tryz.zeroValue153:=@Tryz.zeroValue153
theorem kg:type_of% @Tryz.zeroValue162:=@Tryz.zeroValue162
theorem dG:type_of% @Tryz.zeroValue177:=@Tryz.zeroValue177
theorem oC:type_of% @Tryz.zeroValue179:=@Tryz.zeroValue179
theorem iC:type_of% @Tryz.zeroValue190:=@Tryz.zeroValue190
theorem dF:type_of% @Tryz.zeroValue193:=@Tryz.zeroValue193
theorem IJ:type_of% @Tryz.zeroValue236:=@Tryz.zeroValue236
theorem iW:type_of% @Tryz.zeroValue25:=@Tryz.zeroValue25
theorem lC:type_of% @Tryz.zeroValue28:=@Tryz.zeroValue28
theorem bL:type_of% @Tryz.zeroValue3:=@Tryz.zeroValue3
theorem dE:type_of% @Tryz.zeroValue303:=@Tryz.zeroValue303
theorem dz:type_of% @Tryz.zeroValue34:=@Tryz.zeroValue34
theorem bN:type_of% @Tryz.zeroValue42:=@Tryz.zeroValue42
theorem iV:type_of% @Tryz.zeroValue48:=@Tryz.zeroValue48
theorem ez:type_of% @Tryz.zeroValue52:=@Tryz.zeroValue52
theorem fk:type_of% @Tryz.zeroValue64:=@Tryz.zeroValue64
theorem zD:type_of% @Tryz.zeroValue66:=@Tryz.zeroValue66
theorem cj:type_of% @Tryz.zeroValue87:=@Tryz.zeroValue87
end Go.Proofs.YteajddicacjkhaaGreat
namespace Go.Proofs.YteajddicacjkhaaGreat
open Go.MW Go.ChangeShapes Go.WideShapes
set_option maxRecDepth 100000
theorem yt:Tryz.prog.cellsOf 3=1:=by kernel_rfl
theorem CY:Tryz.prog.cellsOf 34=1:=by kernel_rfl
theorem Iw:Tryz.prog.bytesOf 3=8:=by kernel_rfl
theorem DQ:reachBytes=140737488351232:=rfl
section
variable{H:Type}{enc:TypeId×Value→H}{w:World}{sp:Nat→Bool}{held:Bool}{n:Nat}{cs:List Value}{y:DataW H×List MemPlace}{v:Value}{d:DataW H}{p:List MemPlace}{r:Reach}{base:Nat}
theorem Cb(hw:Wt Tryz.prog 34 y.1)(h:DataW.trod enc Tryz.prog w 0 sp held n 34 cs=some y):∃v xs,cs=[v]∧RI (hp w) v xs∧IsIn xs:=by
 obtain ⟨v,xs,h1,h2,h3,h4⟩:=FD Tryz.underlying34 fl yt hw h
 rw [Iw,DQ] at h3
 exact ⟨v,xs,h1,h2,ak,h4⟩
end
end Go.Proofs.YteajddicacjkhaaGreat
namespace Go.Proofs.YteajddicacjkhaaGreat
open Go.MW Go.ChangeShapes Go.WideShapes
set_option maxRecDepth 100000
theorem len6{α:Type}{l:List α}(h:l.length=6):∃a b c d e f,l=[a,b,c,d,e,f]:=by match l,h with|[a,b,c,d,e,f],_=>exact ⟨a,b,c,d,e,f,rfl⟩
section
variable{H:Type}{enc:TypeId×Value→H}{w:World}{sp:Nat→Bool}{held:Bool}{n:Nat}{cs:List Value}{y:DataW H×List MemPlace}{v:Value}{d:DataW H}{p:List MemPlace}{r:Reach}{base:Nat}
end
end Go.Proofs.YteajddicacjkhaaGreat
namespace Go.Proofs.YteajddicacjkhaaGreat
open Go.MW Go.ChangeShapes Go.WideShapes
set_option maxRecDepth 100000
theorem EO:Tryz.prog.cellsOf 35=1:=by kernel_rfl
theorem EN:Tryz.prog.cellsOf 36=1:=by kernel_rfl
theorem c_53:Tryz.prog.cellsOf 151=5:=by kernel_rfl
theorem c_43:Tryz.prog.cellsOf 97=4:=by kernel_rfl
theorem HF:Tryz.prog.cellsOf 37=3:=by kernel_rfl
theorem CZ:Tryz.prog.cellsOf 39=7:=by kernel_rfl
theorem len7{α:Type}{l:List α}(h:l.length=7):∃a b c d e f g,l=[a,b,c,d,e,f,g]:=by match l,h with|[a,b,c,d,e,f,g],_=>exact ⟨a,b,c,d,e,f,g,rfl⟩
theorem Fl:∀{zs:List (List Int)},(∀z∈zs,z.length=5∧∀y∈z,I64 y)→∃ls:List F5,zs.map Is=ls.map F5.v
 |[],_=>⟨[],rfl⟩
 |z::zs,h=>by
  obtain ⟨ls,h1⟩:=Fl (fun c hc=>h c (.tail _ hc))
  obtain ⟨h3,_⟩:=h z (.head _)
  match z,h3 with
  |[a,b,c,d,e],_=>exact ⟨⟨a,b,c,d,e⟩::ls,by rw [List.map_cons,h1];rfl⟩
theorem Fk:∀{zs:List (List Int)},(∀z∈zs,z.length=4∧∀y∈z,I64 y)→∃ls:List F4,zs.map Is=ls.map F4.v
 |[],_=>⟨[],rfl⟩
 |z::zs,h=>by
  obtain ⟨ls,h1⟩:=Fk (fun c hc=>h c (.tail _ hc))
  obtain ⟨h3,_⟩:=h z (.head _)
  match z,h3 with
  |[a,b,c,d],_=>exact ⟨⟨a,b,c,d⟩::ls,by rw [List.map_cons,h1];rfl⟩
structure IS where
 sp:List Int
 rs:List F5
 cs:List F4
 pk:List Int
 x:Int
 y:Int
 z:Int
def IA(H:bw)(v:Value)(r:IS):Prop:=∃vs v5 v4 vp,v= .agg #[vs,v5,v4,vp,I r.x,I r.y,I r.z]∧RI H vs r.sp∧RF5 H v5 r.rs∧RF4 H v4 r.cs∧RI H vp r.pk
section
variable{H:Type}{enc:TypeId×Value→H}{w:World}{sp:Nat→Bool}{held:Bool}{n:Nat}{cs:List Value}{y:DataW H×List MemPlace}{v:Value}{d:DataW H}{p:List MemPlace}{r:Reach}{base:Nat}
theorem Eb(hw:Wt Tryz.prog 35 y.1)(h:DataW.trod enc Tryz.prog w 0 sp held n 35 cs=some y):∃(v:Value) (ls:List F5),cs=[v]∧RF5 (hp w) v ls:=by
 obtain ⟨v,zs,h1,h2,_,h3⟩:=yQ (k:=5) Tryz.underlying35 Tryz.underlying151 fl yt ew c_53 hw h
 obtain ⟨ls,h4⟩:=Fl h3
 exact ⟨v,ls,h1,by unfold RF5;rw [←h4];exact h2⟩
theorem Ea(hw:Wt Tryz.prog 36 y.1)(h:DataW.trod enc Tryz.prog w 0 sp held n 36 cs=some y):∃(v:Value) (ls:List F4),cs=[v]∧RF4 (hp w) v ls:=by
 obtain ⟨v,zs,h1,h2,_,h3⟩:=yQ (k:=4) Tryz.underlying36 Tryz.underlying97 fl yt ew c_43 hw h
 obtain ⟨ls,h4⟩:=Fk h3
 exact ⟨v,ls,h1,by unfold RF4;rw [←h4];exact h2⟩
theorem y7(hv:Value.okWide Tryz.prog w r base 37 v)(h:DataW.Trod enc Tryz.prog w 0 sp held 37 v d p)(_:Wt Tryz.prog 37 d):∃x:Int×Int×Int,v= .agg #[I x.1,I x.2.1,I x.2.2]∧True:=by
 obtain ⟨cs,n,rfl,hn⟩:=Gt IK hv h
 obtain ⟨xs,h1,rfl,h3⟩:=sV IK fl yt HF hn
 obtain ⟨a,b,c,rfl⟩:=Ir h1
 exact ⟨⟨a,b,c⟩,rfl,trivial⟩
end
end Go.Proofs.YteajddicacjkhaaGreat
namespace Go.Proofs.YteajddicacjkhaaGreat
open Go.MW Go.ChangeShapes Go.WideShapes
set_option maxRecDepth 100000
theorem Al:Tryz.prog.cellsOf 42=2:=by kernel_rfl
section
variable{H:Type}{enc:TypeId×Value→H}{w:World}{sp:Nat→Bool}{held:Bool}{n:Nat}{cs:List Value}{y:DataW H×List MemPlace}{v:Value}{d:DataW H}{p:List MemPlace}{r:Reach}{base:Nat}
theorem Ec(h:DataW.trod enc Tryz.prog w 0 sp held n 42 cs=some y):∃a b:Int,cs=[I a,I b]∧I64 a∧I64 b:=by
 obtain ⟨xs,a1,a2,a3⟩:=Bx Tryz.underlying42 (by
  intro i f hf
  match i with
  |0|1=>cases hf;exact ⟨rfl,fl,yt⟩
  |i+2=>simp at hf) (by rw [Al];rfl) h
 obtain ⟨a,b,rfl⟩:=len2 a1
 exact ⟨a,b,a2,a3 a bV,a3 b bV⟩
end
end Go.Proofs.YteajddicacjkhaaGreat
namespace Go.Proofs.YteajddicacjkhaaGreat
open Go.MW Go.ChangeShapes Go.WideShapes
set_option maxRecDepth 100000
theorem EM:Tryz.prog.cellsOf 40=1:=by kernel_rfl
theorem HE:Tryz.prog.cellsOf 96=6:=by kernel_rfl
theorem Gn:Tryz.prog.cellsOf 44=14:=by kernel_rfl
theorem It{α:Type}{l:List α}(h:l.length=14):∃a b c d e f g i j k m n o p,l=[a,b,c,d,e,f,g,i,j,k,m,n,o,p]:=by match l,h with|[a,b,c,d,e,f,g,i,j,k,m,n,o,p],_=>exact ⟨a,b,c,d,e,f,g,i,j,k,m,n,o,p,rfl⟩
section
variable{H:Type}{enc:TypeId×Value→H}{w:World}{sp:Nat→Bool}{held:Bool}{n:Nat}{cs:List Value}{y:DataW H×List MemPlace}{v:Value}{d:DataW H}{p:List MemPlace}{r:Reach}{base:Nat}
theorem D9(hw:Wt Tryz.prog 40 y.1)(h:DataW.trod enc Tryz.prog w 0 sp held n 40 cs=some y):∃(v:Value) (ls:List Sx),cs=[v]∧RS (hp w) 6 v (ls.map Sx.v):=by
 obtain ⟨v,zs,h1,h2,_,h3⟩:=yQ (k:=6) Tryz.underlying40 Tryz.underlying96 fl yt ew HE hw h
 obtain ⟨ls,h4,_⟩:=all_map (f:=Sx.v) (Q:=fun _=>True) (css:=zs.map Is) fun c hc=>by
  obtain ⟨z,hz,rfl⟩:=List.mem_map.1 hc
  obtain ⟨a,b,c,d,e,f,rfl⟩:=len6 (h3 z hz).1
  exact ⟨⟨a,b,c,d,e,f⟩,rfl,trivial⟩
 exact ⟨v,ls,h1,by rw [←h4];exact h2⟩
theorem Hm(hw:Wt Tryz.prog 39 y.1)(h:DataW.trod enc Tryz.prog w 0 sp held n 39 cs=some y):∃q:IS,IA (hp w) (.agg cs.toArray) q:=by
 obtain ⟨ys,m,_,rfl,hlen,hyl,hg⟩:=DataW.trod_struct oD h
 rw [CZ] at hlen
 obtain ⟨c0,c1,c2,c3,c4,c5,c6,rfl⟩:=len7 hlen
 obtain ⟨_,h0,k0⟩:=fld hg hyl 0 rfl rfl rfl CY oD hw
 obtain ⟨_,h1,k1⟩:=fld hg hyl 1 rfl rfl rfl EO oD hw
 obtain ⟨_,h2,k2⟩:=fld hg hyl 2 rfl rfl rfl EN oD hw
 obtain ⟨_,h3,k3⟩:=fld hg hyl 3 rfl rfl rfl CY oD hw
 obtain ⟨_,h4,k4⟩:=fld hg hyl 4 rfl rfl rfl HF oD hw
 obtain ⟨v0,s0,e0,r0,i0⟩:=Cb k0 h0
 obtain ⟨v1,l1,e1,r1⟩:=Eb k1 h1
 obtain ⟨v2,l2,e2,r2⟩:=Ea k2 h2
 obtain ⟨v3,s3,e3,r3,i3⟩:=Cb k3 h3
 obtain ⟨xs,g1,g2,g3⟩:=sV IK fl yt HF h4
 obtain ⟨a,b,c,rfl⟩:=Ir g1
 cases e0;cases e1;cases e2;cases e3;cases g2
 exact ⟨⟨s0,l1,l2,s3,a,b,c⟩,⟨_,_,_,_,rfl,r0,r1,r2,r3⟩⟩
theorem AU(hv:Value.okWide Tryz.prog w r base 44 v)(h:DataW.Trod enc Tryz.prog w 0 sp held 44 v d p)(hw:Wt Tryz.prog 44 d):∃x:Dl,(∃vs v5 v4 vp vn vg,v=x.agg vs v5 v4 vp vn vg∧zA (hp w) x vs v5 v4 vp vn vg)∧I64 x.m1∧I64 x.m2:=by
 obtain ⟨cs,n,rfl,hn,_⟩:=A6 kh hv h
 obtain ⟨ys,m,_,e,hlen,hyl,hg⟩:=DataW.trod_struct kh hn
 cases e
 rw [Gn] at hlen
 obtain ⟨c0,c1,c2,c3,c4,c5,c6,c7,c8,c9,c10,c11,c12,c13,rfl⟩:=It hlen
 obtain ⟨_,h0,k0⟩:=fld hg hyl 0 rfl rfl rfl CZ kh hw
 obtain ⟨_,h1,k1⟩:=fld hg hyl 1 rfl rfl rfl CY kh hw
 obtain ⟨_,h2,k2⟩:=fld hg hyl 2 rfl rfl rfl EM kh hw
 obtain ⟨_,h3,k3⟩:=fld hg hyl 3 rfl rfl rfl Al kh hw
 obtain ⟨_,h4,k4⟩:=fld hg hyl 4 rfl rfl rfl HF kh hw
 obtain ⟨q,vs,v5,v4,vp,e0,r0,r1,r2,r3⟩:=Hm k0 h0
 obtain ⟨vn,ns,e1,r4,_⟩:=Cb k1 h1
 obtain ⟨vg,sx,e2,r5⟩:=D9 k2 h2
 obtain ⟨m1,m2,e3,i1,i2⟩:=Ec h3
 obtain ⟨xs,g1,e4,g3⟩:=sV IK fl yt HF h4
 obtain ⟨a,b,c,rfl⟩:=Ir g1
 cases e0;cases e1;cases e2;cases e3;cases e4
 exact ⟨⟨q.sp,q.rs,q.cs,q.pk,q.x,q.y,q.z,ns,sx,m1,m2,a,b,c⟩,⟨_,_,_,_,_,_,rfl,r0,r1,r2,r3,r4,r5⟩,i1,i2⟩
end
end Go.Proofs.YteajddicacjkhaaGreat
namespace Go.Proofs.YteajddicacjkhaaGreat
theorem Gl:Tryz.prog.make=some .cut:=by kernel_rfl
theorem EL:Tryz.prog.mayEnter=true:=by kernel_rfl
theorem EI:Tryz.prog.liftsFinal=false:=by kernel_rfl
theorem Gm:Tryz.prog.plainKeys=true:=by kernel_rfl
theorem CX:laidOutB Tryz.prog=true:=by kernel_rfl
theorem Gk:mapsRowed Tryz.prog=true:=by kernel_rfl
theorem EK:Tryz.prog.stopsHeard=true:=by kernel_rfl
theorem EH:Tryz.prog.stops=[]:=by kernel_rfl
theorem EJ:Tryz.prog.stopKnobs=[]:=by kernel_rfl
theorem pH{a b:Bool}(h:a=true)(k:b=true):(a&&b)=true:=by rw [h,k];rfl
theorem HG{α:Type}[BEq α][LawfulBEq α]{a b:α}(h:a=b):(a==b)=true:=by rw [h];exact beq_self_eq_true _
theorem HD:ownKnob Tryz.prog.godebug=none:=by kernel_rfl
end Go.Proofs.YteajddicacjkhaaGreat
namespace Go.Proofs.YteajddicacjkhaaGreat
open Go.MW
theorem mix:Tryz.prog.follows .mixedOrders=true:=by kernel_rfl
theorem jg:FA Tryz.prog 25 0 0:=by
 have h:=eO (k:=0) rL rfl aj
 exact h
theorem lr:FA Tryz.prog 25 1 1:=by
 have h:=eO (k:=1) rL rfl aj
 exact h
theorem dt:FA Tryz.prog 25 2 2:=by
 have h:=eO (k:=2) rL rfl Tryz.sizeOf22
 exact h
theorem ie:FA Tryz.prog 25 3 3:=by
 have h:=eO (k:=3) rL rfl Tryz.sizeOf23
 exact h
theorem cH:FA Tryz.prog 28 0 0:=by
 have h:=eO (k:=0) Tryz.runUnderlying28 rfl qM
 exact h
theorem nD:FA Tryz.prog 39 0 0:=by
 have h:=eO (k:=0) E1 rfl au
 exact h
theorem gH:FA Tryz.prog 39 1 1:=by
 have h:=eO (k:=1) E1 rfl Tryz.sizeOf35
 exact h
theorem jx:FA Tryz.prog 39 2 2:=by
 have h:=eO (k:=2) E1 rfl Tryz.sizeOf36
 exact h
theorem nC:FA Tryz.prog 39 3 3:=by
 have h:=eO (k:=3) E1 rfl au
 exact h
theorem bD:FA Tryz.prog 42 0 0:=by
 have h:=eO (k:=0) E0 rfl aj
 exact h
theorem cg:FA Tryz.prog 42 1 1:=by
 have h:=eO (k:=1) E0 rfl aj
 exact h
theorem nA:FA Tryz.prog 44 0 0:=by
 have h:=eO (k:=0) EZ rfl Tryz.sizeOf39
 exact h
theorem nz:FA Tryz.prog 44 1 7:=by
 have h:=eO (k:=1) EZ rfl au
 exact h
theorem ny:FA Tryz.prog 44 2 8:=by
 have h:=eO (k:=2) EZ rfl Tryz.sizeOf40
 exact h
theorem dY:FA Tryz.prog 44 3 9:=by
 have h:=eO (k:=3) EZ rfl aq
 exact h
theorem mg:FA Tryz.prog 46 0 0:=by
 have h:=eO (k:=0) Tryz.runUnderlying46 rfl aj
 exact h
theorem mf:FA Tryz.prog 46 1 1:=by
 have h:=eO (k:=1) Tryz.runUnderlying46 rfl aj
 exact h
theorem u4:FA Tryz.prog 48 0 0:=by
 have h:=eO (k:=0) kL rfl aj
 exact h
theorem dH:FA Tryz.prog 48 1 1:=by
 have h:=eO (k:=1) kL rfl aj
 exact h
theorem bC:FA Tryz.prog 48 2 2:=by
 have h:=eO (k:=2) kL rfl au
 exact h
theorem bg:FA Tryz.prog 48 3 3:=by
 have h:=eO (k:=3) kL rfl au
 exact h
theorem ff:FA Tryz.prog 48 4 4:=by
 have h:=eO (k:=4) kL rfl Tryz.sizeOf46
 exact h
theorem bj:FA Tryz.prog 52 0 0:=by
 have h:=eO (k:=0) EY rfl aD
 exact h
theorem br:FA Tryz.prog 52 1 6:=by
 have h:=eO (k:=1) EY rfl GV
 exact h
theorem dr:FA Tryz.prog 52 2 7:=by
 have h:=eO (k:=2) EY rfl Tryz.sizeOf50
 exact h
theorem dU:FA Tryz.prog 64 0 0:=by
 have h:=eO (k:=0) Tryz.runUnderlying64 rfl GU
 exact h
theorem cN:FA Tryz.prog 66 0 0:=by
 have h:=eO (k:=0) rK rfl aj
 exact h
theorem fP:FA Tryz.prog 66 1 1:=by
 have h:=eO (k:=1) rK rfl aj
 exact h
theorem jM:FA Tryz.prog 66 2 2:=by
 have h:=eO (k:=2) rK rfl aj
 exact h
theorem jL:FA Tryz.prog 66 3 3:=by
 have h:=eO (k:=3) rK rfl bH
 exact h
theorem rZ:FA Tryz.prog 87 0 0:=by
 have h:=eO (k:=0) kK rfl aj
 exact h
theorem jy:FA Tryz.prog 87 1 1:=by
 have h:=eO (k:=1) kK rfl aj
 exact h
theorem iI:FA Tryz.prog 87 2 2:=by
 have h:=eO (k:=2) kK rfl aj
 exact h
theorem eC:FA Tryz.prog 87 3 3:=by
 have h:=eO (k:=3) kK rfl aq
 exact h
theorem gJ:FA Tryz.prog 87 4 5:=by
 have h:=eO (k:=4) kK rfl aq
 exact h
theorem fS:FA Tryz.prog 100 0 0:=by
 have h:=eO (k:=0) fj rfl aj
 exact h
theorem fR:FA Tryz.prog 100 1 1:=by
 have h:=eO (k:=1) fj rfl aj
 exact h
theorem fQ:FA Tryz.prog 100 2 2:=by
 have h:=eO (k:=2) fj rfl aj
 exact h
theorem ep:FA Tryz.prog 100 3 3:=by
 have h:=eO (k:=3) fj rfl aj
 exact h
theorem de:FA Tryz.prog 100 4 4:=by
 have h:=eO (k:=4) fj rfl aj
 exact h
theorem eo:FA Tryz.prog 100 5 5:=by
 have h:=eO (k:=5) fj rfl aj
 exact h
theorem ek:FA Tryz.prog 100 6 6:=by
 have h:=eO (k:=6) fj rfl aj
 exact h
theorem nF:FA Tryz.prog 104 0 0:=by
 have h:=eO (k:=0) pP rfl aj
 exact h
theorem iQ:FA Tryz.prog 104 1 1:=by
 have h:=eO (k:=1) pP rfl aj
 exact h
theorem iP:FA Tryz.prog 104 2 2:=by
 have h:=eO (k:=2) pP rfl aj
 exact h
theorem nE:FA Tryz.prog 104 3 3:=by
 have h:=eO (k:=3) pP rfl aj
 exact h
theorem wU:FA Tryz.prog 113 0 0:=by
 have h:=eO (k:=0) Dh rfl aj
 exact h
theorem iO:FA Tryz.prog 113 1 1:=by
 have h:=eO (k:=1) Dh rfl aj
 exact h
theorem fL:FA Tryz.prog 113 2 2:=by
 have h:=eO (k:=2) Dh rfl aj
 exact h
theorem dk:FA Tryz.prog 134 0 0:=by
 have h:=eO (k:=0) Tryz.runUnderlying134 rfl aj
 exact h
theorem eX:FA Tryz.prog 134 1 1:=by
 have h:=eO (k:=1) Tryz.runUnderlying134 rfl aj
 exact h
theorem kx:FA Tryz.prog 140 0 0:=by
 have h:=eO (k:=0) pO rfl aB
 exact h
theorem eI:FA Tryz.prog 140 2 12:=by
 have h:=eO (k:=2) pO rfl qM
 exact h
theorem iN:FA Tryz.prog 140 3 13:=by
 have h:=eO (k:=3) pO rfl Tryz.sizeOf80
 exact h
theorem ft:FA Tryz.prog 140 4 14:=by
 have h:=eO (k:=4) pO rfl au
 exact h
theorem iq:FA Tryz.prog 153 0 0:=by
 have h:=eO (k:=0) gU rfl aj
 exact h
theorem jQ:FA Tryz.prog 153 1 1:=by
 have h:=eO (k:=1) gU rfl aj
 exact h
theorem jP:FA Tryz.prog 153 2 2:=by
 have h:=eO (k:=2) gU rfl aj
 exact h
theorem im:FA Tryz.prog 153 3 3:=by
 have h:=eO (k:=3) gU rfl aj
 exact h
theorem jO:FA Tryz.prog 153 4 4:=by
 have h:=eO (k:=4) gU rfl aj
 exact h
theorem ik:FA Tryz.prog 153 5 5:=by
 have h:=eO (k:=5) gU rfl aj
 exact h
theorem mA:FA Tryz.prog 162 0 0:=by
 have h:=eO (k:=0) gS rfl aj
 exact h
theorem jN:FA Tryz.prog 162 1 1:=by
 have h:=eO (k:=1) gS rfl aj
 exact h
theorem bG:FA Tryz.prog 177 0 0:=by
 have h:=eO (k:=0) Tryz.runUnderlying177 rfl aj
 exact h
theorem bF:FA Tryz.prog 177 1 1:=by
 have h:=eO (k:=1) Tryz.runUnderlying177 rfl oE
 exact h
theorem jw:FA Tryz.prog 179 0 0:=by
 have h:=eO (k:=0) Dg rfl aF
 exact h
theorem jv:FA Tryz.prog 179 1 2:=by
 have h:=eO (k:=1) Dg rfl au
 exact h
theorem ju:FA Tryz.prog 179 2 3:=by
 have h:=eO (k:=2) Dg rfl aj
 exact h
theorem cf:FA Tryz.prog 190 0 0:=by
 have h:=eO (k:=0) Df rfl aj
 exact h
theorem bZ:FA Tryz.prog 190 1 1:=by
 have h:=eO (k:=1) Df rfl aj
 exact h
theorem dx:FA Tryz.prog 190 2 2:=by
 have h:=eO (k:=2) Df rfl aj
 exact h
theorem dI:FA Tryz.prog 193 0 0:=by
 have h:=eO (k:=0) pN rfl aj
 exact h
theorem dT:FA Tryz.prog 193 1 1:=by
 have h:=eO (k:=1) pN rfl aj
 exact h
theorem fg:FA Tryz.prog 193 2 2:=by
 have h:=eO (k:=2) pN rfl aj
 exact h
theorem jh:FA Tryz.prog 193 3 3:=by
 have h:=eO (k:=3) pN rfl aj
 exact h
theorem rD:FA Tryz.prog 236 0 0:=by
 have h:=eO (k:=0) De rfl Tryz.sizeOf233
 exact h
theorem rC:FA Tryz.prog 236 1 1:=by
 have h:=eO (k:=1) De rfl Tryz.sizeOf234
 exact h
theorem rA:FA Tryz.prog 236 2 2:=by
 have h:=eO (k:=2) De rfl aj
 exact h
theorem cn:FA Tryz.prog 241 0 0:=by
 have h:=eO (k:=0) Tryz.runUnderlying241 rfl gQ
 exact h
theorem eE:FA Tryz.prog 241 1 3:=by
 have h:=eO (k:=1) Tryz.runUnderlying241 rfl aD
 exact h
theorem cV:FA Tryz.prog 246 0 0:=by
 have h:=eO (k:=0) Dd rfl aB
 exact h
theorem eW:FA Tryz.prog 246 1 8:=by
 have h:=eO (k:=1) Dd rfl Tryz.sizeOf159
 exact h
theorem iM:FA Tryz.prog 246 2 9:=by
 have h:=eO (k:=2) Dd rfl oE
 exact h
theorem eK:FA Tryz.prog 272 0 0:=by
 have h:=eO (k:=0) Dc rfl aF
 exact h
theorem gI:FA Tryz.prog 272 1 2:=by
 have h:=eO (k:=1) Dc rfl au
 exact h
theorem dq:FA Tryz.prog 272 2 3:=by
 have h:=eO (k:=2) Dc rfl au
 exact h
theorem cE:FA Tryz.prog 303 0 0:=by
 have h:=eO (k:=0) pM rfl aj
 exact h
theorem cM:FA Tryz.prog 303 1 1:=by
 have h:=eO (k:=1) pM rfl aj
 exact h
theorem eJ:FA Tryz.prog 303 2 2:=by
 have h:=eO (k:=2) pM rfl aj
 exact h
theorem dp:FA Tryz.prog 303 3 3:=by
 have h:=eO (k:=3) pM rfl aj
 exact h
theorem fV:FA Tryz.prog 315 0 0:=by
 have h:=eO (k:=0) Tryz.runUnderlying315 rfl aj
 exact h
theorem ji:FA Tryz.prog 315 1 1:=by
 have h:=eO (k:=1) Tryz.runUnderlying315 rfl aj
 exact h
theorem oM:FA Tryz.prog 317 0 0:=by
 have h:=eO (k:=0) Tryz.runUnderlying317 rfl au
 exact h
theorem qE:pL Tryz.prog 25 [(0,1),(1,1),(2,1),(3,1)] [I 0,I 0,.slice none 0 0,.slice none 0 0]:=jf iW rfl rL (by simp [Tryz.sizeOf22,Tryz.sizeOf23,Tryz.sizeOf3])
theorem mi:pL Tryz.prog 28 [(0,1)] [.slice none 0 0]:=jf lC rfl Tryz.runUnderlying28 (by simp [Tryz.sizeOf26])
theorem bJ:pL Tryz.prog 42 [(0,1),(1,1)] [I 0,I 0]:=jf bN rfl E0 (by simp [Tryz.sizeOf3])
theorem sc:pL Tryz.prog 46 [(0,1),(1,1)] [I 0,I 0]:=jf Tryz.zeroValue46 rfl Tryz.runUnderlying46 (by simp [Tryz.sizeOf3])
theorem qD:pL Tryz.prog 48 [(0,1),(1,1),(2,1),(3,1),(4,2)] [I 0,I 0,.slice none 0 0,.slice none 0 0,I 0,I 0]:=jf iV rfl kL (by simp [Tryz.sizeOf3,Tryz.sizeOf34,Tryz.sizeOf46])
theorem oR:pL Tryz.prog 52 [(0,6),(6,1),(7,1)] [I 0,I 0,.slice none 0 0,.slice none 0 0,I 0,I 0,.slice none 0 0,.slice none 0 0]:=jf ez rfl EY (by simp [Tryz.sizeOf48,Tryz.sizeOf49,Tryz.sizeOf50])
theorem nM:pL Tryz.prog 64 [(0,1)] [.slice none 0 0]:=jf fk rfl Tryz.runUnderlying64 (by simp [Tryz.sizeOf62])
theorem fu:pL Tryz.prog 66 [(0,1),(1,1),(2,1),(3,1)] [I 0,I 0,I 0,.slice none 0 0]:=jf zD rfl rK (by simp [Tryz.sizeOf3,Tryz.sizeOf64])
theorem kA:pL Tryz.prog 87 [(0,1),(1,1),(2,1),(3,2),(5,2)] [I 0,I 0,I 0,I 0,I 0,I 0,I 0]:=jf cj rfl kK (by simp [Tryz.sizeOf3,Tryz.sizeOf42])
theorem gM:pL Tryz.prog 100 [(0,1),(1,1),(2,1),(3,1),(4,1),(5,1),(6,1)] [I 0,I 0,I 0,I 0,I 0,I 0,I 0]:=jf fN rfl fj (by simp [Tryz.sizeOf3])
theorem oS:pL Tryz.prog 104 [(0,1),(1,1),(2,1),(3,1)] [I 0,I 0,I 0,I 0]:=jf xt rfl pP (by simp [Tryz.sizeOf3])
theorem sa:pL Tryz.prog 113 [(0,1),(1,1),(2,1)] [I 0,I 0,I 0]:=jf Tryz.zeroValue113 rfl Dh (by simp [Tryz.sizeOf3])
theorem fw:pL Tryz.prog 134 [(0,1),(1,1)] [I 0,I 0]:=jf iE rfl Tryz.runUnderlying134 (by simp [Tryz.sizeOf3])
theorem fi:pL Tryz.prog 140 [(0,8),(8,4),(12,1),(13,1),(14,1)] [I 0,I 0,.slice none 0 0,.slice none 0 0,I 0,I 0,.slice none 0 0,.slice none 0 0,I 0,I 0,.slice none 0 0,.slice none 0 0,.slice none 0 0,.slice none 0 0,.slice none 0 0]:=jf iD rfl pO (by simp [Tryz.sizeOf25,Tryz.sizeOf26,Tryz.sizeOf34,Tryz.sizeOf52,Tryz.sizeOf80])
theorem nN:pL Tryz.prog 153 [(0,1),(1,1),(2,1),(3,1),(4,1),(5,1)] [I 0,I 0,I 0,I 0,I 0,I 0]:=jf xr rfl gU (by simp [Tryz.sizeOf3])
theorem gL:pL Tryz.prog 162 [(0,1),(1,1)] [I 0,I 0]:=jf kg rfl gS (by simp [Tryz.sizeOf3])
theorem lz:pL Tryz.prog 177 [(0,1),(1,1)] [I 0,.slice none 0 0]:=jf dG rfl Tryz.runUnderlying177 (by simp [Tryz.sizeOf175,Tryz.sizeOf3])
theorem fo:pL Tryz.prog 179 [(0,2),(2,1),(3,1)] [I 0,.slice none 0 0,.slice none 0 0,I 0]:=jf oC rfl Dg (by simp [Tryz.sizeOf177,Tryz.sizeOf3,Tryz.sizeOf34])
theorem qC:pL Tryz.prog 190 [(0,1),(1,1),(2,1)] [I 0,I 0,I 0]:=jf iC rfl Df (by simp [Tryz.sizeOf3])
theorem dV:pL Tryz.prog 193 [(0,1),(1,1),(2,1),(3,1)] [I 0,I 0,I 0,I 0]:=jf dF rfl pN (by simp [Tryz.sizeOf3])
theorem iw:pL Tryz.prog 236 [(0,1),(1,1),(2,1)] [.nilFunc,.nilFunc,I 0]:=jf IJ rfl De (by simp [Tryz.sizeOf233,Tryz.sizeOf234,Tryz.sizeOf3])
theorem sL:pL Tryz.prog 241 [(0,3),(3,6)] [I 0,I 0,I 0,I 0,I 0,.slice none 0 0,.slice none 0 0,I 0,I 0]:=jf Tryz.zeroValue241 rfl Tryz.runUnderlying241 (by simp [Tryz.sizeOf113,Tryz.sizeOf48])
theorem rF:pL Tryz.prog 246 [(0,8),(8,1),(9,1)] [I 0,I 0,.slice none 0 0,.slice none 0 0,I 0,I 0,.slice none 0 0,.slice none 0 0,.slice none 0 0,.slice none 0 0]:=jf Tryz.zeroValue246 rfl Dd (by simp [Tryz.sizeOf159,Tryz.sizeOf175,Tryz.sizeOf52])
theorem oQ:pL Tryz.prog 272 [(0,2),(2,1),(3,1)] [I 0,.slice none 0 0,.slice none 0 0,.slice none 0 0]:=jf Tryz.zeroValue272 rfl Dc (by simp [Tryz.sizeOf177,Tryz.sizeOf34])
theorem oP:pL Tryz.prog 303 [(0,1),(1,1),(2,1),(3,1)] [I 0,I 0,I 0,I 0]:=jf dE rfl pM (by simp [Tryz.sizeOf3])
theorem xa:pL Tryz.prog 315 [(0,1),(1,1)] [I 0,I 0]:=jf Tryz.zeroValue315 rfl Tryz.runUnderlying315 (by simp [Tryz.sizeOf3])
theorem w9:pL Tryz.prog 317 [(0,1)] [.slice none 0 0]:=jf Tryz.zeroValue317 rfl Tryz.runUnderlying317 (by simp [Tryz.sizeOf34])
theorem mV:uO Tryz.prog 22 2 2 [I 0,I 0,I 0,I 0]:=lY cu cQ iE ew aE
theorem mU:uO Tryz.prog 22 3 2 [I 0,I 0,I 0,I 0,I 0,I 0]:=lY cu cQ iE ew aE
theorem kz:uO Tryz.prog 23 1 4 [I 0,I 0,I 0,I 0]:=lY fC iY xt ew aE
theorem jV:uO Tryz.prog 26 1 7 [I 0,I 0,I 0,I 0,I 0,I 0,I 0]:=lY aS aN cj ew aE
theorem jU:uO Tryz.prog 26 2 7 [I 0,I 0,I 0,I 0,I 0,I 0,I 0,I 0,I 0,I 0,I 0,I 0,I 0,I 0]:=lY aS aN cj ew aE
theorem r9:uO Tryz.prog 34 0 1 []:=lY ae aj bL ew aE
theorem bX:uO Tryz.prog 34 1 1 [I 0]:=lY ae aj bL ew aE
theorem jB:uO Tryz.prog 34 2 1 [I 0,I 0]:=lY ae aj bL ew aE
theorem yv:uO Tryz.prog 34 3 1 [I 0,I 0,I 0]:=lY ae aj bL ew aE
theorem j5:uO Tryz.prog 49 1 7 [I 0,I 0,I 0,I 0,I 0,I 0,I 0]:=lY aO a8 fN ew aE
theorem oz:uO Tryz.prog 49 4 7 [I 0,I 0,I 0,I 0,I 0,I 0,I 0,I 0,I 0,I 0,I 0,I 0,I 0,I 0,I 0,I 0,I 0,I 0,I 0,I 0,I 0,I 0,I 0,I 0,I 0,I 0,I 0,I 0]:=lY aO a8 fN ew aE
theorem j6:uO Tryz.prog 50 1 6 [I 0,I 0,I 0,I 0,I 0,I 0]:=lY cR eP xr ew aE
theorem oO:uO Tryz.prog 62 1 1 [.slice none 0 0]:=lY az au dz ew aE
theorem u9:uO Tryz.prog 62 2 1 [.slice none 0 0,.slice none 0 0]:=lY az au dz ew aE
theorem kZ:uO Tryz.prog 80 1 2 [I 0,I 0]:=lY dL aq bN ew aE
theorem gZ:uO Tryz.prog 159 1 2 [I 0,I 0]:=lY a6 bk kg ew aE
theorem qB:uO Tryz.prog 175 1 4 [I 0,I 0,I 0,I 0]:=lY aJ aU dF ew aE
theorem eY:uO Tryz.prog 175 2 4 [I 0,I 0,I 0,I 0,I 0,I 0,I 0,I 0]:=lY aJ aU dF ew aE
theorem w8:uO Tryz.prog 247 6 1 [.nilFunc,.nilFunc,.nilFunc,.nilFunc,.nilFunc,.nilFunc]:=lY Tryz.runUnderlying247 Tryz.sizeOf1 Tryz.zeroValue1 ew aE
theorem pG:uO Tryz.prog 267 1 4 [I 0,I 0,I 0,I 0]:=lY aA aC dE ew aE
theorem kc:Bo Tryz.prog 23 23 104 4 32:=⟨fC,fC,iY,⟨_,Tryz.typeInfo104,rfl,by decide⟩,⟨_,xt,rfl⟩⟩
theorem mW:Bo Tryz.prog 26 26 87 7 56:=⟨aS,aS,aN,⟨_,Tryz.typeInfo87,rfl,by decide⟩,⟨_,cj,rfl⟩⟩
theorem bP:Bo Tryz.prog 34 34 3 1 8:=⟨ae,ae,aj,⟨_,iX,rfl,by decide⟩,⟨_,bL,rfl⟩⟩
theorem fG:Bo Tryz.prog 49 49 100 7 56:=⟨aO,aO,a8,⟨_,Tryz.typeInfo100,rfl,by decide⟩,⟨_,fN,rfl⟩⟩
theorem jC:Bo Tryz.prog 50 50 153 6 48:=⟨cR,cR,eP,⟨_,Tryz.typeInfo153,rfl,by decide⟩,⟨_,xr,rfl⟩⟩
theorem kB:Bo Tryz.prog 62 62 34 1 24:=⟨az,az,au,⟨_,Tryz.typeInfo34,rfl,by decide⟩,⟨_,dz,rfl⟩⟩
theorem kG:Bo Tryz.prog 80 80 42 2 16:=⟨dL,dL,aq,⟨_,Tryz.typeInfo42,rfl,by decide⟩,⟨_,bN,rfl⟩⟩
theorem dZ:Bo Tryz.prog 159 159 162 2 16:=⟨a6,a6,bk,⟨_,Tryz.typeInfo162,rfl,by decide⟩,⟨_,kg,rfl⟩⟩
theorem bQ:Bo Tryz.prog 175 175 193 4 32:=⟨aJ,aJ,aU,⟨_,Tryz.typeInfo193,rfl,by decide⟩,⟨_,dF,rfl⟩⟩
theorem kb:Bo Tryz.prog 267 267 303 4 32:=⟨aA,aA,aC,⟨_,zE,rfl,by decide⟩,⟨_,dE,rfl⟩⟩
end Go.Proofs.YteajddicacjkhaaGreat
namespace Go.Proofs.YteajddicacjkhaaGreat
open Go.MW
variable{H:bw}{w:World}{σ:List Ent}
theorem eF{a0 a1 a2:Int}(hs:St H w σ):Cl Tryz.prog 199 [I a0,I a1,I a2] w fun v w'=>v= .bool (decide (a1≤a0∧a0≤a2))∧St H w' σ:=by
 refine Cl.o Tryz.func199 Tryz.ntmps199 ag3 ?_
 refine .ai (.zn zg (.ai (.z zm (.z zm (.z uJ (.z zm (.kF (t':=10) rfl (fun hb10=>?_) (fun hb10=>?_))))))))
 ·refine .T (.z zm (.T (.z zm (.T (.z uJ (.z zpT (.zn zg (.ret (Fin.bu Tryz.results199 rfl ?_)))))))))
  exact ⟨by simp [*],hs.out⟩
 ·refine .Fs 3 3 true (.z zpF (.zn zg (.ret (Fin.bu Tryz.results199 rfl ?_))))
  exact ⟨by simp [*],hs.out⟩
theorem qy{many:Int}{l:Lim}(hs:St H w σ):Cl Tryz.prog 250 [I many,.agg l.c.toArray] w fun v w'=>v= .bool (l.ok many)∧St H w' σ:=by
 refine Cl.o Tryz.func250 Tryz.ntmps250 ag2 ?_
 refine .ai (.bx hs fun b3 w hs=>?_)
 refine .zn zg (.ai (.z (zfa dI) (.y hs (zld af) (.z zm (.o (.call Bi rfl (eF hs) ?_))))));rintro _ w ⟨rfl,hs⟩
 refine .z zm (.bif (t':=9) rfl (fun hb9=>?_) (fun hb9=>?_))
 ·refine .T (.z (zfa dT) (.T (.y hs (zld af) (.T (.z zm (.T (.o (.call Bi rfl (eF hs) ?_))))))));rintro _ w ⟨rfl,hs⟩
  refine .z zpT (.z zm (.bif (t':=15) rfl (fun hb15=>?_) (fun hb15=>?_)))
  ·refine .T (.z (zfa dI) (.T (.y hs (zld af) (.T (.z (zfa dT) (.T (.y hs (zld af) (.T (.z gg (.z zpT (.z zm (.Dj (t':=22) rfl (fun hb22=>?_) (fun hb22=>?_)))))))))))))
   ·refine .T (.z (zfa fg) (.T (.y hs (zld af) (.T (.o (.call Bi rfl (eF hs) ?_))))));rintro _ w ⟨rfl,hs⟩
    refine .z zpT (.z zm (.bif (t':=27) rfl (fun hb27=>?_) (fun hb27=>?_)))
    ·refine .T (.z (zfa jh) (.T (.y hs (zld af) (.T (.o (.call Bi rfl (eF hs) ?_))))));rintro _ w ⟨rfl,hs⟩
     refine .z zpT (.zn zg (.ret (Fin.bu Bq rfl ?_)))
     exact ⟨by simp [Lim.ok, *],hs.out⟩
    ·refine .Fs 3 22 true (.z zpF (.zn zg (.ret (Fin.bu Bq rfl ?_))))
     exact ⟨by simp [Lim.ok, *],hs.out⟩
   ·refine .Fs 3 17 true (.z zpF (.z zm (.Fs 3 22 true (.z zpF (.zn zg (.ret (Fin.bu Bq rfl ?_)))))))
    exact ⟨by simp [Lim.ok, *],hs.out⟩
  ·refine .Fs 5 10 true (.z zpF (.z zm (.Fs 3 17 true (.z zpF (.z zm (.Fs 3 22 true (.z zpF (.zn zg (.ret (Fin.bu Bq rfl ?_))))))))))
   exact ⟨by simp [Lim.ok, *],hs.out⟩
 ·refine .Fs 4 4 true (.z zpF (.z zm (.Fs 5 10 true (.z zpF (.z zm (.Fs 3 17 true (.z zpF (.z zm (.Fs 3 22 true (.z zpF (.zn zg (.ret (Fin.bu Bq rfl ?_)))))))))))))
  exact ⟨by simp [Lim.ok, *],hs.out⟩
theorem xi{v:Value}{ls:List Lim}{g:Nat}{cap:List Value}{p:Lim→Bool}(hs:St H w σ)(hr:RL H v ls)
  (hc:∀args w,(callFunc g args).run Tryz.prog w= .ok (.enter g args) w) (hp:∀w l,St H w σ→Cl Tryz.prog g ([.agg l.c.toArray]++cap) w fun u w'=>u= .bool (p l)∧St H w' σ):
  Cl Tryz.prog 277 [v,.func (.func g) #[] cap.toArray] w fun u w'=>u=I (match ls.findIdx? p with|some k=>(k:Int)|none=> -1)∧St H w' σ:=by
 obtain ⟨a,c,rfl⟩:=RS.shape hr
 have hl:=(RS.len hr).2.2
 refine Cl.o Tryz.func277 Tryz.ntmps277 ag2 ?_
 refine .ai (.zn zg (.seq (.ai (.z zm (.q hs (B1 hr rfl aJ) (.zn zm (.for (N:=(ls.map Lim.c).length) (J:=fun k fr w=>fr=[(1,.func (.func g) #[] cap.toArray),(0,.slice a (ls.map Lim.c).length c)]∧St H w σ∧∀j<k,∀l,ls[j]? =some l→p l=false) ak ?_ ?_ ?_)))))))
 ·exact .mk ⟨rfl,hs,fun j hj=>by omega⟩
 ·rintro k fr w hk ⟨rfl,hs,hno⟩
  obtain ⟨l,hl⟩:=nth (l:=ls) (by simpa using hk)
  refine .block (.ai (.z zm (.zn zg (.ai (.z zm (.z zm (.z zm (.ixX hs hr rfl rfl aJ aU hl rfl ?_))))))));intro b14 o14 hc14
  refine .y hs (zls [_,_,_,_] eN aU) (.o (.nI (first:=[]) rfl rfl hc (hp _ _ hs) ?_));rintro _ w ⟨rfl,hs⟩
  refine .nil (.cond rfl (fun hc16=>?_) (fun hc16=>?_))
  ·refine .ai (.z zm (.zn zg (.ret (rB (rT (rB (rT (Fin.bu Tryz.results277 rfl ?_))))))))
   exact ⟨by rw [uf hl hc16 hno],hs⟩
  ·refine .skip (nB (nT ?_))
   exact .mk ⟨rfl,hs,eT hno hl hc16⟩
 ·rintro fr w ⟨rfl,hs,hno⟩
  refine nT (.ai (.zn zg (.ret (Fin.bu Tryz.results277 rfl ?_))))
  exact ⟨by rw [rY (by simpa using hno)],hs⟩
theorem sN{v:Value}{ls:List Lim}{g:Nat}{cap:List Value}{p:Lim→Bool}(hs:St H w σ)(hr:RL H v ls)
  (hc:∀args w,(callFunc g args).run Tryz.prog w= .ok (.enter g args) w) (hp:∀w l,St H w σ→Cl Tryz.prog g ([.agg l.c.toArray]++cap) w fun u w'=>u= .bool (p l)∧St H w' σ):
  Cl Tryz.prog 248 [v,.func (.func g) #[] cap.toArray] w fun u w'=>u= .bool (ls.any p)∧St H w' σ:=by
 refine Cl.o Tryz.func248 Tryz.ntmps248 ag2 ?_
 refine .ai (.zn zg (.ai (.z zm (.z zm (.o (.call Tryz.call277 rfl (xi hs hr hc hp) ?_))))));rintro _ w ⟨rfl,hs⟩
 refine .z yM (.zn zg (.ret (Fin.bu Tryz.results248 rfl ?_)))
 exact ⟨by rw [zy];cases ls.findIdx? p<;>simp<;>omega,hs⟩
theorem w7{b:Nat}{many:Int}{v:Value}{l:Lim}(hs:St H w σ)(hm:Mem σ (.blk b [I many,v])):Cl Tryz.prog 249 [.agg l.c.toArray,Pt b] w fun v w'=>v= .bool (!l.ok many)∧St H w' σ:=by
 refine Cl.o Tryz.func249 Tryz.ntmps249 ag2 ?_
 refine .ai (.bx hs fun b2 w hs=>?_)
 refine .zn zg (.ai (.z (zfa bG) (.q hs (gC rfl af (.there hm) rfl) (.q hs (kn (vs:=l.c) rfl eN aU) (.o (.call Tryz.call250 rfl (qy hs) ?_))))));rintro _ w ⟨rfl,hs⟩
 refine .z gP (.zn zg (.ret (Fin.bu Tryz.results249 rfl ?_)))
 exact ⟨rfl,hs.out⟩
theorem ir{v:Value}{s:ck}(hs:St H w σ)(hr:RSy H v s):Cl Tryz.prog 197 [v] w fun v w'=>v=I s.check∧St H w' σ:=by
 obtain ⟨u,rfl,hr⟩:=hr
 obtain ⟨a,c,rfl⟩:=RS.shape hr
 refine Cl.o Tryz.func197 Tryz.ntmps197 ag1 ?_
 refine .ai (.bx hs fun b1 w hs=>?_)
 refine .zn zg (.seq (.block (.ai (.z (zfa bG) (.y hs (zld af) (.o (.call Bi rfl (eF hs) ?_)))))));rintro _ w ⟨rfl,hs⟩
 refine .z gP (.zn zg (.cond rfl (fun hc3=>?_) (fun hc3=>?_)))
 ·refine .ai (.zn zg (.ret (rB (rT (Fin.bu Tryz.results197 rfl ?_)))))
  exact ⟨congrArg I (by unfold ck.check;(repeat' split)<;>simp_all<;>omega),hs.out⟩
 ·refine .ai (.z (zfa bF) (.y hs (zld cz) (.q hs (B1 hr rfl aJ) (.z pQ (.zn zg (.bO rfl (fun hc8=>?_) (fun hc8=>?_)))))))
  ·refine .ai (.zn zg (.ret (rB (rT (Fin.bu Tryz.results197 rfl ?_)))))
   exact ⟨congrArg I (by unfold ck.check;(repeat' split)<;>simp_all<;>omega),hs.out⟩
  ·refine .ai (.z (zfa bF) (.y hs (zld cz) (.q hs (cJ (f:=[]) (c:=[_]) rfl rfl) (.o (.call Tryz.call248 rfl (sN (p:=fun l=> !l.ok s.many) hs hr Tryz.call249 (fun w l hs=>w7 hs .here)) ?_)))));rintro _ w ⟨rfl,hs⟩
   refine .zn zg (.cond rfl (fun hc13=>?_) (fun hc13=>?_))
   ·refine .ai (.zn zg (.ret (rB (rT (Fin.bu Tryz.results197 rfl ?_)))))
    exact ⟨congrArg I (by unfold ck.check;(repeat' split)<;>simp_all<;>omega),hs.out⟩
   ·refine .skip (nB (nT (.ai (.zn zg (.ret (Fin.bu Tryz.results197 rfl ?_))))))
    exact ⟨congrArg I (by unfold ck.check;(repeat' split)<;>simp_all<;>omega),hs.out⟩
theorem qw{H:bw}{b:Nat}{s:ck}{u:Value}(hok:s.Ok)(hb:Row H b [I s.many,u])(hr:RL H u s.bY):ItA Tryz.prog 295 [Pt b] H s.cA:=by
 intro l II Ix _ _ hy H0 σb0 σf w hle hI0 hs
 obtain ⟨a,c,rfl⟩:=RS.shape hr
 have hb1:cellAt H0 b 1=some (.slice a (s.bY.map Lim.c).length c):=cellAt.mono (by rw [hb.cell];rfl) hle
 have hlen:=hok.len
 refine Cl.o Tryz.func295 Tryz.ntmps295 ag2 ?_
 refine .ai (.z (zfa bF) (.y hs (zld cz) (.q hs (B1 (hr.mono hle) rfl aJ) (.zn zm (.for (N:=(s.bY.map Lim.c).length) (J:=fun k fr w=>fr=[(6,.slice a (s.bY.map Lim.c).length c),(0,.func (.yield l) #[] #[])]∧∃H1 σb,HLe H H1∧HLe H0 H1∧II k H1 σb∧St H1 w (σb++σf)) (by simp;omega) ?_ ?_ ?_)))))
 ·exact .mk ⟨rfl,H0,σb0,hle,HLe.refl _,hI0,hs⟩
 ·rintro k fr w hk ⟨rfl,H1,σb,hle1,hle0,hI,hs⟩
  obtain ⟨x,hx⟩:=nth (l:=s.bY) (by simpa using hk)
  obtain ⟨hA,hB,_⟩:=hok.arc (List.mem_of_getElem? hx) k
  refine .block (.ai (.z zm (.ixX hs (hr.mono hle1) rfl rfl aJ aU hx rfl ?_)));intro b11 o11 hc11
  refine .q hs (bI (vs:=x.c) rfl eN aU hc11) (.o (.alloc hs dF rfl fun b4 w hs=>?_))
  refine .z zg (.o (.aH (vs:=x.c) hs rfl rfl aU fun w hs=>?_))
  refine .nil (.ai (.z zm (.z (zfa dI) (.y hs (zld af) (.z (zfa dT) (.y hs (zld af) (.z (zfa fg) (.y hs (zld af) (.z zm (.z (zbd [_,_,_,_] oP) ?_))))))))))
  have hk':k<(s.cA.map fun x=>[Value.agg x.v.toArray]).length:=by simp [ck.cA,dW];simpa using hk
  have hxk:(s.cA.map fun x=>[Value.agg x.v.toArray])[k]=[.agg (x.arc k).v.toArray]:=by
   have:=kf hx
   rw [List.getElem_map];rw [List.getElem?_eq_some_iff] at this;obtain ⟨h1,h2⟩:=this;simp only [ck.cA];rw [h2]
  have hyd:=hy k hk' H1 σb σf w hle1 hI hs.tail
  rw [hxk] at hyd
  refine .o (.yield (vs:=[.agg (x.arc k).v.toArray]) rfl (by simp [Arc.v,hA,hB];rfl) hyd ?_);rintro v22 w ⟨H2,σ2,g1,hs,g3⟩
  obtain ⟨bb,rfl,gT,gF⟩:=mY g3
  refine .zn gP (.cond rfl (fun hc23=>?_) (fun hc23=>?_))
  ·refine .ret (rB (rT (rB (Fin.GI Tryz.results295 ?_))))
   exact ⟨H2,σ2,hle0.trans g1,hs,.inr (gF (by simpa using hc23))⟩
  ·refine .skip (nB (nT ?_))
   exact .mk ⟨rfl,H2,σ2,hle1.trans g1,hle0.trans g1,gT (by simpa using hc23),hs⟩
 ·rintro fr w ⟨rfl,H1,σb,hle1,hle0,hI,hs⟩
  exact Fin.yq Tryz.results295 ⟨H1,σb,hle0,hs,.inl (by simpa [ck.cA,dW] using hI)⟩
theorem jS{v:Value}{s:ck}(hs:St H w σ)(hok:s.Ok)(hr:RSy H v s):
  Cl Tryz.prog 269 [v] w fun v w'=>∃H1 b,HLe H H1∧v= .func (.func 295) #[] #[Pt b]∧ItA Tryz.prog 295 [Pt b] H1 s.cA∧St H1 w' σ:=by
 obtain ⟨u,rfl,hr⟩:=hr
 refine Cl.o Tryz.func269 Tryz.ntmps269 ag1 ?_
 refine .ai (.bx hs fun b1 w hs=>?_)
 refine .zn zg (.ai (.q hs (cJ (f:=[]) (c:=[_]) rfl rfl) (.zn zg (.ret (Fin.bu Tryz.results269 rfl ?_)))))
 obtain ⟨H1,g1,g2,hs⟩:=hs.bU .here
 exact ⟨H1,b1,g1,rfl,qw hok g2 (hr.mono g1),hs⟩
theorem iR{N gf:Nat}{ar:List Arc}{cap:List Value}(hs:St H w σ)(hN:N≤64)(hok:mD ar (N+1))(hit:ItA Tryz.prog gf cap H ar)(hc:∀args w,(callFunc gf args).run Tryz.prog w= .ok (.enter gf args) w):
  Cl Tryz.prog 225 [I N,.func (.func gf) #[] cap.toArray] w fun v w'=>∃H1 bc bb s ov vo,HLe H H1∧v= .tuple #[.slice (some ⟨bc,0,none⟩) (N+1) (N+1),.slice (some ⟨bb,0,none⟩) (N+1) (N+1),vo]∧OvR H1 vo ov∧HI (N+1) ar s ov∧St H1 w' (.blk bc (Is s.cost):: .blk bb (iU s.by_)::σ):=by
 refine Cl.o Tryz.func225 Tryz.ntmps225 ag2 ?_
 refine .ai (.o (.alloc hs dz rfl fun b4 w hs=>?_))
 refine .o (.alloc hs Tryz.zeroValue267 rfl fun b5 w hs=>?_)
 refine .o (.alloc hs Tryz.zeroValue268 rfl fun b6 w hs=>?_)
 refine .nil (.cut (fun fs w=>∃bc bb,lZ fs ⟨70,[],[(1,.func (.func gf) #[] cap.toArray),(0,I N),(4,Pt b4),(5,Pt b5),(6,Pt b6)]⟩∧St H w (.blk b4 [.slice (some ⟨bc,0,none⟩) (N+1) (N+1)]:: .blk b5 [.slice (some ⟨bb,0,none⟩) (N+1) (N+1)]:: .blk b6 [.pointer none]:: .blk bc (Is (List.replicate (N+1) 0)):: .blk bb (iU (zb (N+1) 0))::σ)) ?_ ?_)
 ·refine .draw mix rfl hs fun w hs=>?_
  refine .zw 0 rfl zm ?_;refine .z 1 rfl cq ?_;refine .z 3 rfl zm ?_;refine .z 4 rfl cq ?_
  refine .e2 (i:=2) (j:=5) aE rfl rfl rfl rfl .none .none hs ?_ ?_
  ·refine .xQ (N+1) hs rfl rfl ae iX rfl aj bL ak ?_;intro b11 w hs
   refine .go (.e2 (i:=5) (j:=6) aE rfl rfl rfl rfl .none .none hs ?_ ?_)
   ·refine .Eg (N+1) hs rfl rfl aA zE rfl aC dE ak ?_;intro b14 w hs
    refine .go (.E 6 hs ?_)
    refine .store hs rfl rfl au ?_;intro w hs
    refine .go (.E 7 hs ?_)
    refine .store hs rfl rfl vi ?_;intro w hs
    refine .go (.D hs ?_)
    exact nT ⟨b11,b14,bn,hs.sb⟩
   ·refine .store hs rfl rfl au ?_;intro w hs
    refine .go (.E 5 hs ?_)
    refine .Eg (N+1) hs rfl rfl aA zE rfl aC dE ak ?_;intro b14 w hs
    refine .go (.E 7 hs ?_)
    refine .store hs rfl rfl vi ?_;intro w hs
    refine .go (.D hs ?_)
    exact nT ⟨b11,b14,bn,hs.sb⟩
  ·refine .Eg (N+1) hs rfl rfl aA zE rfl aC dE ak ?_;intro b14 w hs
   refine .go (.E 2 hs ?_)
   refine .xQ (N+1) hs rfl rfl ae iX rfl aj bL ak ?_;intro b11 w hs
   refine .go (.E 6 hs ?_)
   refine .store hs rfl rfl au ?_;intro w hs
   refine .go (.E 7 hs ?_)
   refine .store hs rfl rfl vi ?_;intro w hs
   refine .go (.D hs ?_)
   exact nT ⟨b11,b14,bn,hs.sb⟩
 ·rintro s w ⟨bc,bb,hfs,hs⟩
  refine WE.sub ?_ hfs
  refine .seq (.ai (.y hs (zld eM) (.z (cU aA) (.zn zm (.for (N:=N+1) (J:=fun k fr w=>fr=[(1,.func (.func gf) #[] cap.toArray),(0,I N),(4,Pt b4),(5,Pt b5),(6,Pt b6)]∧St H w (.blk b4 [.slice (some ⟨bc,0,none⟩) (N+1) (N+1)]:: .blk b5 [.slice (some ⟨bb,0,none⟩) (N+1) (N+1)]:: .blk b6 [.pointer none]:: .blk bc (Is (List.replicate (N+1) 0)):: .blk bb (iU (zb (N+1) k))::σ)) ak ?_ ?_ ?_)))))
  ·exact .mk ⟨rfl,hs⟩
  ·rintro k fr w hk ⟨rfl,hs⟩
   have hkl:k<(zb (N+1) k).length:=by rw [za ak];exact hk
   refine .block (.ai (.z zm (.zn zg (.region (.y hs (zld eM) (.z zm ?_))))))
   first|(refine .ixw hs aA aC ?_;intro b22 o22 hc22)|refine .z (AA aA aC) ?_
   refine .z (zfa dp) (.o (.store hs rfl rfl aj ?_ fh (An hkl ak) ((yF hkl _).trans (congrArg iU (Ee hk)))));intro w hs
   refine .nil (nB (nT ?_))
   exact .mk ⟨rfl,hs⟩
  ·rintro fr w ⟨rfl,hs⟩
   refine nT (.seq (.ai (.z zm (.z cq (.zn zm (.forD (N:=N+2) (J:=fun r ds fr w=>fr=[(1,.func (.func gf) #[] cap.toArray),(0,I N),(4,Pt b4),(5,Pt b5),(6,Pt b6)]∧∃Ds H1 s vo,ds=marks Ds∧HLe H H1∧uN (N+1) ar r 0 none s∧(r=0∨∃x,OvR H1 vo (some x)∧uN (N+1) ar (r - 1) ar.length (some x) s)∧St H1 w (.blk b4 [.slice (some ⟨bc,0,none⟩) (N+1) (N+1)]:: .blk b5 [.slice (some ⟨bb,0,none⟩) (N+1) (N+1)]:: .blk b6 [vo]:: .blk bc (Is s.cost):: .blk bb (iU s.by_)::(mes Ds++σ))) ak ?_ ?_ ?_))))))
   ·exact .mk (ds:=[]) ⟨rfl,[],H,⟨List.replicate (N+1) 0,List.replicate (N+1) ⟨0,0,0,-1⟩⟩,_,rfl,HLe.refl _,uN.init ak,.inl rfl,by rw [Cg] at hs;exact hs⟩
   ·rintro r ds fr w hr ⟨rfl,Ds,H1,s,vo,rfl,hle1,hN0,-,hs⟩
    refine .block (.ai (.o (.store hs rfl rfl Tryz.sizeOf268 fun w hs=>?_)))
    refine .nil (.seq (.ai (.zn zm (.block ?_))))
    refine .rangeFunc (gf:=gf) (cap:=cap) (xs:=ar.map fun x=>[.agg x.v.toArray]) (σb:=[.blk b4 [.slice (some ⟨bc,0,none⟩) (N+1) (N+1)],.blk b5 [.slice (some ⟨bb,0,none⟩) (N+1) (N+1)],.blk b6 [.pointer none],.blk bc (Is s.cost),.blk bb (iU s.by_)]) (σf:=mes Ds++σ) hs trivial rfl (hit.mono hle1) hc bV rfl
     (I:=fun k H' σb=>∃s ov vo,σb=[.blk b4 [.slice (some ⟨bc,0,none⟩) (N+1) (N+1)],.blk b5 [.slice (some ⟨bb,0,none⟩) (N+1) (N+1)],.blk b6 [vo],.blk bc (Is s.cost),.blk bb (iU s.by_)]∧OvR H' vo ov∧uN (N+1) ar r k ov s) (Ix:=fun _ _ _=>False) (by rintro k _ _ σ g1 ⟨s,ov,vo,g2,g3,g4⟩;exact ⟨s,ov,vo,g2,g3.mono g1,g4⟩) (fun _ _ _ _ _ h=>h)
     ⟨s,none,_,rfl,rfl,hN0⟩ ?_ ?_ (fun D c H' σb w _ h _=>h.elim)
    ·rintro l k hk H2 σb2 σf2 w hle2 ⟨s,ov,vo,rfl,hov,hN⟩ hs ⟨rr,hrr⟩
     obtain ⟨x,hx⟩:=nth (l:=ar) (by simpa using hk)
     obtain ⟨c1,c2,c3,c4,c5,c6⟩:=hok.2 x (List.mem_of_getElem? hx)
     have hxk:(ar.map fun x=>[Value.agg x.v.toArray])[k]=[.agg x.v.toArray]:=by rw [List.getElem_map];rw [List.getElem?_eq_some_iff] at hx;obtain ⟨h1,h2⟩:=hx;rw [h2]
     rw [hxk]
     have hkl:k<ar.length:=by simpa using hk
     have hal:=hok.1
     have hlc:=hN.lc
     have hlb:=hN.lb
     have lo1:=hN.lo x.f c1
     have hi1:=hN.hi x.f c1
     refine .region (.o (.alloc hs dE rfl fun b8 w hs=>?_))
     refine .o (.aH (vs:=x.v) hs rfl rfl aC fun w hs=>?_)
     refine .nil (nT (⟨H2,[.blk b8 x.v,.blk b4 [.slice (some ⟨bc,0,none⟩) (N+1) (N+1)],.blk b5 [.slice (some ⟨bb,0,none⟩) (N+1) (N+1)],.blk b6 [vo],.blk bc (Is s.cost),.blk bb (iU s.by_)],HLe.refl _,hs,?_⟩));rintro w σf2 - hs
     refine .block (.seq (.draw mix rfl hs fun w hs=>?_))
     refine .y 0 rfl hs an ?_;refine .z 1 rfl (zfa cE) ?_;refine .y 2 rfl hs af ?_
     first|(refine .ixv 3 rfl hs ae aj ?_;intro b34 o34 hc34)|refine .z 3 rfl (zix ae aj) ?_
     refine .y 4 rfl hs af ?_;refine .z 5 rfl (zfa eJ) ?_;refine .y 6 rfl hs af ?_;refine .z 7 rfl cq ?_;refine .y 8 rfl hs an ?_;refine .z 9 rfl (zfa cM) ?_;refine .y 10 rfl hs af ?_
     first|(refine .ixv 11 rfl hs ae aj ?_;intro b42 o42 hc42)|refine .z 11 rfl (zix ae aj) ?_
     refine .y 12 rfl hs af ?_;refine .z 13 rfl iJ ?_;refine .D hs ?_
     refine (.bO rfl (fun hc44=>?_) (fun hc44=>?_))
     ·refine .seq (.draw mix rfl hs fun w hs=>?_)
      refine .y 0 rfl hs an ?_;refine .z 1 rfl (zfa cM) ?_;refine .y 2 rfl hs af ?_;refine .y 3 rfl hs eM ?_;refine .z 4 rfl (zfa cM) ?_;refine .y 5 rfl hs af ?_;refine .y 6 rfl hs an ?_;refine .z 7 rfl (zfa cE) ?_;refine .y 8 rfl hs af ?_
      first|(refine .ixv 9 rfl hs ae aj ?_;intro b54 o54 hc54)|refine .z 9 rfl (zix ae aj) ?_
      refine .y 10 rfl hs af ?_;refine .z 11 rfl (zfa eJ) ?_;refine .y 12 rfl hs af ?_;refine .z 13 rfl cq ?_
      refine .AX (i:=14) (vs:=x.v) hs rfl aE .none rfl gq aC ?_
      first|(refine .ixv 15 rfl hs ae aj ?_;intro b60 o60 hc60)|refine .z 15 rfl (zix ae aj) ?_
      refine .E 16 hs ?_
      refine .store hs rfl rfl aj ?_;intro w hs
      refine .go ?_
      first|(refine .ixw 17 rfl hs aA aC ?_;intro b61 o61 hc61)|refine .z 17 rfl (AA aA aC) ?_
      refine .E 18 hs ?_
      refine .aH (vs:=x.v) hs rfl rfl aC ?_;intro w hs
      refine .go (.D hs (.region (.o (.store hs rfl rfl Tryz.sizeOf268 fun w hs=>?_))))
      refine .nil (nB ?_)
      obtain ⟨H3,g1,g2,hs⟩:=hs.bU .here
      exact ⟨H3,_,g1,hs,s.rlx x,some x,_,rfl,⟨b8,rfl,g2⟩,hN.xG hok hx hc44⟩
     ·refine .skip (nB ?_)
      exact ⟨H2,_,HLe.refl _,hs.tail,s,ov,vo,rfl,hov,hN.skip hok hx (by unfold BS.can;omega)⟩
    ·rintro D H2 σb2 w hle2 ⟨s,ov,vo,rfl,hov,hN⟩ hs
     obtain ⟨a',rfl,ha'⟩:=hov.ptr
     replace hs:St H2 w (.blk b4 [.slice (some ⟨bc,0,none⟩) (N+1) (N+1)]:: .blk b5 [.slice (some ⟨bb,0,none⟩) (N+1) (N+1)]:: .blk b6 [.pointer a']:: .blk bc (Is s.cost):: .blk bb (iU s.by_)::(mes (D::Ds)++σ)):=St.deep (σ1:=[_,_,_,_,_]) hs
     have hN:uN (N+1) ar r ar.length ov s:=by simpa using hN
     refine nB (nT (.ai (.y hs (zld Tryz.isAgg268) (.q hs (B4 rfl rfl Tryz.runUnderlying268) (.nil (.cond rfl (fun hc63=>?_) (fun hc63=>?_)))))))
     ·refine .seq (.draw mix rfl hs fun w hs=>?_)
      refine .y 0 rfl hs an ?_;refine .y 1 rfl hs eM ?_
      refine .E 2 hs ?_
      refine .store hs rfl rfl au ?_;intro w hs
      refine .go (.E 3 hs ?_)
      refine .store hs rfl rfl vi ?_;intro w hs
      refine .go (.E 4 hs ?_)
      refine .store hs rfl rfl Tryz.sizeOf268 ?_;intro w hs
      refine .go (.D hs (.ret (rB (rT (rB (rT (?_)))))))
      obtain ⟨rfl,rfl⟩:=OvR.no ha' hc63
      refine Fin.gj (D::Ds) [_,_,_,_,_] hs fun w hs=>⟨_,results3 Tryz.results225 (AP hs rfl an) (AP hs rfl eM) (AP hs rfl Tryz.isAgg268),H2,bc,bb,s,none,_,hle1.trans hle2,rfl,hov,⟨r,hN,fun h=>(h rfl).elim⟩,hs.sb⟩
     ·refine .skip (nB (nT ?_))
      obtain ⟨x,rfl⟩:=OvR.yes ha' hc63
      exact .mk (ds:=marks (D::Ds)) ⟨rfl,D::Ds,H2,s,_,rfl,hle1.trans hle2,hN.next hok,.inr ⟨x,hov,hN⟩,hs⟩
   ·rintro ds fr w ⟨rfl,Ds,H1,s,vo,rfl,hle1,hN0,hor,hs⟩
    obtain ⟨x,hov,hN⟩:∃x,OvR H1 vo (some x)∧uN (N+1) ar (N+2 - 1) ar.length (some x) s:=hor.resolve_left ak
    obtain ⟨b3,rfl,hrow⟩:=hov
    refine nT (.seq (.draw mix rfl hs fun w hs=>?_))
    refine .y 0 rfl hs an ?_;refine .y 1 rfl hs eM ?_;refine .y 2 rfl hs Tryz.isAgg268 ?_
    refine .E 3 hs ?_
    refine .store hs rfl rfl au ?_;intro w hs
    refine .go (.E 4 hs ?_)
    refine .store hs rfl rfl vi ?_;intro w hs
    refine .go (.E 5 hs ?_)
    refine .store hs rfl rfl Tryz.sizeOf268 ?_;intro w hs
    refine .go (.D hs (.ret (Fin.gj Ds [_,_,_,_,_] hs fun w hs=>⟨_,results3 Tryz.results225 (AP hs rfl an) (AP hs rfl eM) (AP hs rfl Tryz.isAgg268),H1,bc,bb,s,some x,_,hle1,rfl,⟨b3,rfl,hrow⟩,⟨N+1,hN,fun _=>rfl⟩,hs.sb⟩)))
theorem iS{v:Value}{s:ck}(hs:St H w σ)(hok:s.Ok)(hr:RSy H v s):
  Cl Tryz.prog 223 [v] w fun v w'=>∃H1 b,HLe H H1∧v= .bool b∧(b=true↔s.Sound)∧St H1 w' σ:=by
 obtain ⟨u,rfl,hr⟩:=hr
 obtain ⟨N,hN⟩:=Int.eq_ofNat_of_zero_le hok.m0
 have hN1:=hok.m1
 have hn:s.n=N+1:=by simp [ck.n,hN]
 have hoka:=hok.cA
 rw [hn] at hoka
 rw [hN]
 refine Cl.o Tryz.func223 Tryz.ntmps223 ag1 ?_
 refine .ai (.bx hs fun b1 w hs=>?_)
 refine .zn zg (.seq (.draw mix rfl hs fun w hs=>?_))
 refine .zw 0 rfl (zfa bG) ?_;refine .y 1 rfl hs af ?_;refine .ys 2 rfl hs [_,_] aZ aF ?_
 refine .E 3 hs ?_
 refine .call Tryz.call269 rfl (jS (s:=s) hs hok ⟨u,by rw [hN],hr⟩) ?_;rintro _ w ⟨H1,b10,hle1,rfl,hit,hs⟩
 refine .go (.E 4 hs ?_)
 refine .call Tryz.call225 rfl (iR hs ak hoka hit Tryz.call295) ?_;rintro _ w ⟨H2,bc,bb,st,ov,vo,hle2,rfl,hov,hnr,hs⟩
 obtain ⟨a',rfl,ha'⟩:=hov.ptr
 refine .go (.zw 5 rfl zm ?_);refine .z 6 rfl zex ?_;refine .z 7 rfl zex ?_;refine .z 8 rfl zex ?_;refine .z 9 rfl zg ?_;refine .z 10 rfl zg ?_;refine .z 11 rfl zg ?_;refine .D hs ?_
 refine .ai (.z zm (.q hs (B4 rfl rfl Tryz.runUnderlying268) (.zn zg (.ret (Fin.bu Tryz.results223 rfl (⟨H2,_,hle1.trans hle2,rfl,?_,hs.out⟩))))))
 obtain ⟨r,hN2,hr2⟩:=hnr
 cases ov with
 |none=>
  rw [ha']
  exact ⟨fun _=>⟨_,(hN2.sol hoka ak).1⟩,fun _=>rfl⟩
 |some x=>
  rw [ha']
  exact ⟨fun h=>(by cases h),fun h=>(hN2.none hoka ak (by have:=hr2 bV;omega) h).elim⟩
theorem px{c:Int}(hs:St H w σ)(hc:0≤c∧c<4294967296):Cl Tryz.prog 313 [.int .u64 1,.int .u64 c] w fun v w'=>v= .tuple #[.int .u64 0,.int .u64 c]∧St H w' σ:=by
 refine Cl.o Tryz.func313 Tryz.ntmps313 ag2 ?_
 refine .ai (.z zg (.zn zg (.ai (.z zm ?_))))
 first|refine .q hs (FV rfl rfl ⟨ak,ak⟩) ?_|refine .q hs (zN rfl rfl) ?_
 refine .zn zg (.ai (.z zm ?_))
 first|refine .q hs (xJ rfl rfl ⟨ak,ak⟩) ?_|refine .q hs (yZ rfl rfl ew) ?_
 refine .zn zg (.ai (.z zm ?_))
 first|refine .q hs (FV rfl rfl ⟨ak,ak⟩) ?_|refine .q hs (zN rfl rfl) ?_
 refine .zn zg (.ai (.z zm ?_))
 first|refine .q hs (xJ rfl rfl ⟨ak,ak⟩) ?_|refine .q hs (yZ rfl rfl ew) ?_
 refine .zn zg (.ai (.z zm (.z zm (.z kM (.zn zg (.ai (.z zm (.z zm (.z kM (.z zm ?_))))))))))
 first|refine .q hs (xJ rfl rfl ⟨ak,ak⟩) ?_|refine .q hs (yZ rfl rfl ew) ?_
 refine .z cq (.zn zg (.ai (.z zm ?_)))
 first|refine .q hs (FV rfl rfl ⟨ak,ak⟩) ?_|refine .q hs (zN rfl rfl) ?_
 refine .zn zg (.ai (.z zm ?_))
 first|refine .q hs (xJ rfl rfl ⟨ak,ak⟩) ?_|refine .q hs (yZ rfl rfl ew) ?_
 refine .zn zg (.ai (.z zm (.z zm (.z zm (.z kM (.z cq (.zn zg (.ai (.z zm (.z zm (.z kM (.z zm (.z cq (.z zm ?_))))))))))))))
 first|refine .q hs (xJ rfl rfl ⟨ak,ak⟩) ?_|refine .q hs (yZ rfl rfl ew) ?_
 refine .z cq (.zn zg (.ai (.z zm (.z zm (.z kM (.zn zg (.ret (Fin.jG Tryz.results313 rfl rfl ?_))))))))
 exact ⟨bV,hs⟩
theorem rj{c:Int}(hs:St H w σ)(hc:0≤c∧c<4294967296):Cl Tryz.prog 306 [.int .u64 1,.int .u64 c] w fun v w'=>v= .tuple #[.int .u64 0,.int .u64 c]∧St H w' σ:=by
 refine Cl.o Tryz.func306 Tryz.ntmps306 ag2 ?_
 refine .ai (.z zg (.zn zg (.seq (.cF (.skip (nT (.ai (.z zm (.z zm (.o (.call Tryz.call313 rfl (px hs hc) ?_)))))))))));rintro _ w ⟨rfl,hs⟩
 refine .z zm (.z zex (.z zex (.z zg (.zn zg (.ai (.z zm (.z zm (.z zg (.zn zg (.ret (Fin.jG Tryz.results306 rfl rfl ?_)))))))))))
 exact ⟨rfl,hs⟩
theorem CC{c k:Nat}{z:Int}:let n:=min k (c - k);(List.replicate k z++List.replicate (c - k) 0).take k++List.replicate n z++(List.replicate k z++List.replicate (c - k) 0).drop (k+n)=List.replicate (k+n) z++List.replicate (c - (k+n)) (0:Int):=by
 intro n
 have hn:n≤c - k:=Nat.min_le_right _ _
 have e0:(List.replicate k z).length=k:=by simp
 rw [List.take_left' e0]
 have e1:(List.replicate k z++List.replicate (c - k) 0).drop (k+n)=List.replicate (c - (k+n)) (0:Int):=by
  rw [show k+n=(List.replicate k z).length+n by simp,List.drop_append]
  simp
  omega
 rw [e1,List.replicate_append_replicate]
theorem qZ{z:Int}{bx c:Nat}(hs:St H w σ)(hm:Mem σ (.blk bx (Is [z])))(h1:1≤c)(h2:c≤1000000):Cl Tryz.prog 296 [.slice (some ⟨bx,0,none⟩) 1 1,I c] w fun v w'=>∃b,v= .slice (some ⟨b,0,none⟩) c c∧St H w' (.blk b (Is (List.replicate c z))::σ):=by
 refine Cl.o Tryz.func296 Tryz.ntmps296 ag2 ?_
 refine .ai (.zn zg (.seq (.ai (.z zm (.zn iJ (.bO rfl (fun hc10=>?_) (fun hc10=>?_)))))))
 ·omega
 ·refine .skip (nT (.ai (.z zm (.z (cU ae) ?_))))
  first|refine .q hs (wA rfl aV cW ⟨ak,ak⟩) ?_|refine .q hs (wz rfl aV cW ⟨ak,ak⟩) ?_|refine .q hs (xL rfl aV cW) ?_
  refine .z zm ?_
  first|refine .q hs (wA rfl aV cW ⟨ak,ak⟩) ?_|refine .q hs (wz rfl aV cW ⟨ak,ak⟩) ?_|refine .q hs (xL rfl aV cW) ?_
  refine .o (.call Tryz.call306 rfl (rj (c:=c) hs ak) ?_);rintro _ w ⟨rfl,hs⟩
  refine .z zm (.z zex (.z zex (.z zg (.zn zg (.seq (.ai (.z zm (.z pQ (.z zm (.kF (t':=23) rfl (fun hb23=>?_) (fun hb23=>?_)))))))))))
  ·refine .Fs 2 2 false (.zn zpT (.cT ?_))
   first|omega|(simp at hc26;omega)
  ·refine .T (.z zm (.T (.z pQ (.zn zpF (.bO rfl (fun hc26=>?_) (fun hc26=>?_))))))
   ·first|omega|(simp at hc26;omega)
   ·refine .skip (nT (.ai (.z zm ?_)))
    first|refine .q hs (wA rfl cW aV ⟨ak,ak⟩) ?_|refine .q hs (wz rfl cW aV ⟨ak,ak⟩) ?_|refine .q hs (xL rfl cW aV) ?_
    refine .o (.xQ c hs rfl rfl ae iX rfl aj bL ak fun b30 w hs=>?_)
    refine .zn zg (.ai (.z zm (.z zm (.o (.HB (k:=1) (xs:=List.replicate c 0) (zs:=[z]) hs rfl rfl ⟨_,_,rfl⟩ ae aj ak rfl (yk (xs:=[z]) (.there hm) rfl rfl) (by simp;omega) ?_)))));intro w hs
    refine .zn zg (.seq (.block ?_))
    refine .loop (fun k:Nat=>⟨48,[],[(8,I k),(7,.slice (some ⟨b30,0,none⟩) c c)]⟩) (fun k w=>(1≤k∧k≤c)∧St H w (.blk b30 (Is (List.replicate k z++List.replicate (c - k) 0))::σ)) (fun k=>c - k) 1 bn ⟨⟨ak,ak⟩,by
      have e:List.take 0 (List.replicate c (0:Int))++[z]++List.drop (0+1) (List.replicate c 0)=List.replicate 1 z++List.replicate (c - 1) 0:=by simp
      rw [e] at hs;exact hs⟩ ?_
    rintro k w ⟨⟨k1,k2⟩,hs⟩
    refine .seq (.ai (.z zm (.z zm (.z (cU ae) (.zn iJ (.bO rfl (fun hc37=>?_) (fun hc37=>?_)))))))
    ·refine .skip (nT (.block (.draw mix rfl hs fun w hs=>?_)))
     refine .zw 0 rfl zm ?_;refine .z 1 rfl zm ?_;refine .z 2 rfl zm ?_
     refine .zw 3 rfl (xH (k:=k) rfl rfl ae aj ak ak) (.zw 4 rfl zm ?_);refine .z 5 rfl zm ?_
     refine .zw 6 rfl (tP (k:=k) rfl rfl ae aj ak) (.E 7 hs ?_)
     refine .HB (k:=min k (c - k)) (xs:=List.replicate k z++List.replicate (c - k) 0) (zs:=List.replicate (min k (c - k)) z) hs rfl rfl ⟨_,_,rfl⟩ ae aj rfl bV (yk (xs:=List.replicate k z++List.replicate (c - k) 0) .here (by rw [List.drop_zero,List.take_append_of_le_length (by simp;omega)];simp) bV) (by simp;omega) ?_;intro w hs
     refine .go (.zw 8 rfl cq ?_);refine .z 9 rfl zg ?_;refine .D hs ?_
     refine nB (nT ?_)
     exact ⟨k+min k (c - k),bn,⟨⟨ak,ak⟩,by
       have e:=CC (z:=z) (c:=c) (k:=k)
       simp only [Nat.mul_one,Nat.zero_add] at hs
       rw [e] at hs;exact hs⟩,ak⟩
    ·refine .exit (xT (xT (xB (nT (.ai (.z zm (.zn zg (.ret (Fin.bu Tryz.results296 rfl ?_)))))))))
     obtain rfl:k=c:=by omega
     exact ⟨b30,rfl,by simpa using hs⟩
theorem q5{v:Value}{xs:List Int}(hs:St H w σ)(hr:RI H v xs)(hx:xs.length≤17592186044416):Cl Tryz.prog 171 [v] w fun u w'=>∃en,(Ho v=true→Ho u=true)∧bS 1 u (Is xs) en∧St H w' (en::σ):=by
 obtain ⟨a,c,rfl⟩:=RI.shape hr
 have hl:=(RI.len hr).2.2
 refine Cl.o Tryz.func171 Tryz.ntmps171 ag1 ?_
 refine .ai (.zn zg (.seq (.ai (.z zm (.q hs (Hk rfl rfl ae) (.nil (.cond rfl (fun hc4=>?_) (fun hc4=>?_))))))))
 ·refine .ai (.zn zg (.ret (rT (Fin.bu Tryz.results171 rfl ?_))))
  obtain rfl:a=none:=by simpa using hc4
  obtain rfl:=hr.Iq
  exact ⟨.nul,fun h=>h,.nil 1 none,hs.nul⟩
 ·refine .skip (nT (.ai (.o (.buildSlice (cells:=[]) hs r9 rfl rfl fun b5 w hs=>?_))))
  refine .z zm (.o (.C0 (xs:=[]) (ys:=Is xs) hs bP rfl rfl (.full rfl) (.ints hr) (by simp [Value.oneCell']) (fun l h=>by simp at h;omega) ?_));intro v7 en7 w hnn hO hs
  refine .zn zg (.ret (Fin.bu Tryz.results171 rfl ?_))
  exact ⟨en7,fun _=>hnn rfl,hO,hs⟩
theorem mn{v:Value}{xs:List Int}(hs:St H w σ)(hr:RI H v xs)(hx:xs.length≤17592186044416):Cl Tryz.prog 171 [v] w fun v w'=>∃en,bS 1 v (Is xs) en∧St H w' (en::σ):=
 (q5 hs hr hx).mono fun _ _ ⟨en,_,h⟩=>⟨en,h⟩
theorem o5{v:Value}{l:List Arc}{en:Ent}(hs:St H w (en::σ))(ho:bS 4 v (iU l) en)(hl:l.length≤1000000):
  Cl Tryz.prog 297 [v] w fun _ w'=>∃en',bS 4 v (iU l.reverse) en'∧St H w' (en'::σ):=by
 rcases ho with ⟨a,rfl,h2,rfl⟩|⟨b,len,cap,sp,rfl,rfl,h2,h3,h4⟩
 ·obtain rfl:l=[]:=by
   have:=congrArg List.length h2
   rw [dj] at this
   exact List.length_eq_zero_iff.1 (by simp at this;omega)
  have hs:=hs.tail
  refine Cl.o Tryz.func297 Tryz.ntmps297 ag1 ?_
  refine .ai (.z zm (.z (cU aA) (.z ib (.z zg (.zn zg (.block (.loop (fun _:Unit=>⟨28,[],[(2,I 0),(3,I (-1))]⟩) (fun _ w=>St H w σ) (fun _=>0) () bn hs ?_)))))))
  rintro _ w hs
  refine .seq (.ai (.z zm (.z zm (.zn iJ (.bO rfl (fun hc9=>?_) (fun hc9=>?_))))))
  ·omega
  ·refine .exit (xT (xT (xB ?_)))
   exact Fin.yq Tryz.results297 ⟨.nul,.nil 4 a,hs.nul⟩
 obtain rfl:len=l.length:=by rw [dj] at h2;omega
 refine Cl.o Tryz.func297 Tryz.ntmps297 ag1 ?_
 refine .ai (.z zm (.z (cU aA) (.z ib (.z zg (.zn zg (.block (.loop (fun p:Nat×List Arc=>⟨28,[],[(2,I p.1),(3,I ((l.length:Int) - 1 - p.1)),(0,.slice (some ⟨b,0,none⟩) l.length cap)]⟩) (fun p w=>(2*p.1≤l.length+1∧sd l p.2 p.1)∧St H w (.blk b (iU p.2++sp)::σ)) (fun p=>l.length - p.1) (0,l) (.cons rfl (.dy rfl bV (.cons rfl (.nil rfl rfl)))) ⟨⟨bV,.start l⟩,hs⟩ ?_)))))))
 rintro ⟨i,L⟩ w ⟨⟨h5,h6⟩,hs⟩
 dsimp only at h5 h6 hs ⊢
 have hL:=h6.1
 refine .seq (.ai (.z zm (.z zm (.zn iJ (.bO rfl (fun hc9=>?_) (fun hc9=>?_))))))
 ·refine .skip (nT (.seq (.block (.draw mix rfl hs fun w hs=>?_))))
  refine .zw 0 rfl zm ?_;refine .z 1 rfl zm ?_;refine .z 2 rfl zm ?_;refine .z 3 rfl zm ?_;refine .z 4 rfl zm ?_;refine .z 5 rfl zm ?_
  refine .zw 6 rfl (vI (k:=l.length - 1 - i) rfl rfl aA aC ak ak) (.AX (i:=7) (vs:=(ga L (l.length - 1 - i)).v) hs rfl aE .none rfl gq aC ?_ (hv:=uC ak sp))
  refine .zw 8 rfl zm ?_;refine .z 9 rfl zm ?_
  first|(refine .ixw 10 rfl hs aA aC ?_;intro b24 o24 hc24)|refine .z 10 rfl (AA aA aC) ?_
  refine .AX (i:=11) (vs:=(ga L i).v) hs rfl aE .none rfl gq aC ?_ (hv:=uC ak sp)
  first|(refine .ixw 12 rfl hs aA aC ?_;intro b26 o26 hc26)|refine .z 12 rfl (AA aA aC) ?_
  refine .E 13 hs ?_
  refine .aH (vs:=(ga L (l.length - 1 - i)).v) hs rfl rfl aC ?_ fh (uq ak sp) (rP ak _ sp);intro w hs
  refine .go (.zw 14 rfl (vI (k:=l.length - 1 - i) rfl rfl aA aC ak ak) (.E 15 hs ?_))
  refine .aH (vs:=(ga L i).v) hs rfl rfl aC ?_ fh (uq (by simp;omega) sp) (rP (by simp;omega) _ sp);intro w hs
  refine .go (.D hs (nB (nT (.region (.z zm (.z cq (.z zm (.z ib (.z zg (.zn zg (nT ?_)))))))))))
  exact ⟨(i+1,_),.cons rfl (.dy rfl (by push_cast;omega) (.cons rfl (.nil rfl rfl))),⟨⟨by dsimp only;omega,h6.step ak⟩,hs⟩,by dsimp only;omega⟩
 ·refine .exit (xT (xT (xB ?_)))
  rw [h6.done ak] at hs
  exact Fin.yq Tryz.results297 ⟨_,.inr ⟨b,l.length,cap,sp,rfl,rfl,by rw [dj];simp,by rw [←h3];simp [dj],h4⟩,hs⟩
theorem mT{H:bw}{b1 bf bt bl cl:Nat}{s:ck}{ts lf:List Int}{vl:Value}{sp:List Value}(hok:s.Ok)(hb:Row H b1 [Pt bf])(hF:uA H bf s ts lf vl bt bl cl sp)(hlt:ts.length=s.bY.length):
  ItA Tryz.prog 274 [Pt b1] H (dw s.cA ts):=by
 intro l II Ix hmI hmX hy H0 σb0 σf w hle hI0 hs
 have hb0:cellAt H0 b1 0=some (Pt bf):=(hb.mono hle).at 0
 have hF0:=hF.mono hle
 have hsys:=hF0.f.cells 0 [I s.many,vl]
 have hlen:s.cA.length=ts.length:=by simp [ck.cA,dW,hlt]
 refine Cl.o Tryz.func274 Tryz.ntmps274 ag2 ?_
 refine .ai (.bx hs fun b2 w hs=>?_)
 refine .nil (.ai (.y hs (zld qP) (.z znc (.z (zfa eK) (.q hs (bI (vs:=[I s.many,vl]) rfl aZ aF hsys) (.o (.call Tryz.call269 rfl (jS (s:=s) hs hok ⟨vl,rfl,hF0.l⟩) ?_)))))));rintro _ w ⟨H1,b8,hle1,rfl,hit,hs⟩
 refine .nil (.block ?_)
 refine .rangeFunc (gf:=295) (cap:=[Pt b8]) (xs:=s.cA.map fun x:Arc=>[Value.agg x.v.toArray]) (σb:= .blk b2 [.func (.yield l) #[] #[]]::σb0) (σf:=σf) hs trivial rfl hit Tryz.call295 bV rfl
  (I:=fun k H' σb=>∃σo,σb= .blk b2 [.func (.yield l) #[] #[]]::σo∧HLe H0 H'∧II (zP s.cA ts k) H' σo)
  (Ix:=fun c H' σb=>c= .ret∧∃σo,σb= .blk b2 [.func (.yield l) #[] #[]]::σo∧HLe H0 H'∧Ix H' σo)
  (fun k _ _ σ g1 ⟨σo,g2,g3,g4⟩=>⟨σo,g2,g3.trans g1,hmI _ _ _ _ g1 g4⟩) (fun c _ _ σ g1 ⟨g0,σo,g2,g3,g4⟩=>⟨g0,σo,g2,g3.trans g1,hmX _ _ _ g1 g4⟩)
  ⟨σb0,rfl,hle1,by rw [B8];exact hmI _ _ _ _ hle1 hI0⟩ ?_ ?_ ?_
 ·rintro l2 k hk H2 σb2 σf2 w hle2 ⟨σo,rfl,hle0,hIk⟩ hs ⟨rr,hrr⟩
  obtain ⟨x,hx⟩:=nth (l:=s.cA) (by simpa using hk)
  obtain ⟨c1,c2,c3,c4,c5,c6⟩:=hok.cA.2 x (List.mem_of_getElem? hx)
  have hxk:(s.cA.map fun x=>[Value.agg x.v.toArray])[k]=[.agg x.v.toArray]:=by rw [List.getElem_map];rw [List.getElem?_eq_some_iff] at hx;obtain ⟨h1,h2⟩:=hx;rw [h2]
  rw [hxk]
  have hkt:k<ts.length:=by rw [←hlen];simpa using hk
  have hxl:x.l=(k:Int):=qG hx
  obtain ⟨r1,r2,r3⟩:=BQ (ts:=ts) hx hkt
  refine .region (.o (.alloc hs dE rfl fun b3 w hs=>?_))
  refine .o (.aH (vs:=x.v) hs rfl rfl aC fun w hs=>?_)
  refine .nil (nT (⟨H2,.blk b3 x.v:: .blk b2 [.func (.yield l) #[] #[]]::σo,HLe.refl _,hs,?_⟩));rintro w σf2 - hs
  refine .block (.seq (.ai (.y hs (zld Tryz.isAgg307) (.q hs (kn (vs:=x.v) rfl gq aC) ?_))))
  have hyd:=hy (zP s.cA ts k) (by simpa using (List.getElem?_eq_some_iff.1 r1).1) H2 σo (.blk b3 x.v:: .blk b2 [.func (.yield l) #[] #[]]::σf2) w (hle.trans hle0) hIk (St.deep (σ1:=σo) (St.deep (σ1:= .blk b3 x.v::σo) (hs.perm (.swap _ _ _))))
  rw [Ci r1] at hyd
  refine .o (.yield (vs:=[.agg x.v.toArray]) rfl rfl hyd ?_);rintro v12 w ⟨H3,σ3,hle3,hs,g3⟩
  obtain ⟨bb,rfl,gT,gF⟩:=mY g3
  replace hs:St H3 w (.blk b3 x.v:: .blk b2 [.func (.yield l) #[] #[]]::(σ3++σf2)):=(St.shallow (σ1:= .blk b3 x.v::σ3) (St.shallow (σ1:=σ3) hs)).perm (.swap _ _ _)
  refine .zn gP (.cond rfl (fun hc13=>?_) (fun hc13=>?_))
  ·refine .ret (rT (rB (?_)))
   exact ⟨H3,.blk b2 [.func (.yield l) #[] #[]]::σ3,hle3,hs.tail,rfl,σ3,rfl,hle0.trans hle3,gF (by simpa using hc13)⟩
  ·refine .skip (nT (.seq (.draw mix rfl hs fun w hs=>?_)))
   have hb3:cellAt H3 b1 0=some (Pt bf):=cellAt.mono hb0 (hle0.trans hle3)
   have hf3:cellAt H3 bf 2=some (.slice (some ⟨bt,0,none⟩) ts.length ts.length):=((hF0.mono (hle0.trans hle3)).f).at 2
   have ht3:cellAt H3 bt k=some (I (gi ts k)):=((hF0.mono (hle0.trans hle3)).t).at k (iT hkt)
   have hI3:=gT (by simpa using hc13)
   refine .r (i:=0) hs rfl aE .none (aQ rfl qP hb3) ?_
   refine .zw 1 rfl znc ?_;refine .z 2 rfl (zfa gI) ?_;refine .y 3 rfl hs an ?_;refine .z 4 rfl (zfa dp) ?_;refine .y 5 rfl hs af ?_
   refine .zw 6 rfl (kq (k:=k) rfl rfl ae aj hxl hkt) (.r (i:=7) hs rfl aE .none (aQ rfl af ht3) ?_)
   refine .zw 8 rfl pQ ?_;refine .z 9 rfl zm ?_
   refine .kF (t':=23) rfl (fun hb23=>?_) (fun hb23=>?_)
   ·refine .zv 10 rfl hs (qm Tryz.isAgg307) (.zw 11 rfl (zfa cM) ?_);refine .y 12 rfl hs af ?_;refine .z 13 rfl (zfa cE) ?_;refine .y 14 rfl hs af ?_;refine .z 15 rfl (zfa eJ) ?_;refine .y 16 rfl hs af ?_;refine .z 17 rfl Di ?_;refine .z 18 rfl (zfa dp) ?_;refine .y 19 rfl hs af ?_;refine .z 20 rfl (zbd [_,_,_,_] oP) ?_
    refine .E 21 hs ?_
    obtain ⟨r4,r5⟩:=r2 hb23
    have hyd:=hy (zP s.cA ts k+1) (by simpa using (List.getElem?_eq_some_iff.1 r4).1) H3 σ3 (.blk b3 x.v:: .blk b2 [.func (.yield l) #[] #[]]::σf2) w (hle.trans (hle0.trans hle3)) hI3 (St.deep (σ1:=σ3) (St.deep (σ1:= .blk b3 x.v::σ3) (hs.perm (.swap _ _ _))))
    rw [Ci r4] at hyd
    refine .yield (vs:=[.agg x.back.v.toArray]) rfl rfl hyd ?_;rintro v35 w ⟨H4,σ4,hle4,hs,g4⟩
    obtain ⟨bb4,rfl,gT4,gF4⟩:=mY g4
    replace hs:St H4 w (.blk b3 x.v:: .blk b2 [.func (.yield l) #[] #[]]::(σ4++σf2)):=(St.shallow (σ1:= .blk b3 x.v::σ4) (St.shallow (σ1:=σ4) hs)).perm (.swap _ _ _)
    refine .go (.zw 22 rfl gP ?_);refine .z 23 rfl zpT ?_;refine .D hs ?_
    refine (.cond rfl (fun hc37=>?_) (fun hc37=>?_))
    ·refine .ret (rB (?_))
     exact ⟨H4,.blk b2 [.func (.yield l) #[] #[]]::σ4,hle3.trans hle4,hs.tail,rfl,σ4,rfl,hle0.trans (hle3.trans hle4),gF4 (by simpa using hc37)⟩
    ·refine .skip (nB ?_)
     exact ⟨H4,.blk b2 [.func (.yield l) #[] #[]]::σ4,hle3.trans hle4,hs.tail,σ4,rfl,hle0.trans (hle3.trans hle4),by rw [r5];exact gT4 (by simpa using hc37)⟩
   ·refine .F 10 rfl ?_
    refine .F 11 rfl (.F 12 rfl (.F 13 rfl (.F 14 rfl (.F 15 rfl (.F 16 rfl (.F 17 rfl (.F 18 rfl (.F 19 rfl (.F 20 rfl (.F 21 rfl (.F 22 rfl (.zw 23 rfl zpF ?_))))))))))));refine .D hs ?_
    refine (.cF (.skip (nB ?_)))
    exact ⟨H3,.blk b2 [.func (.yield l) #[] #[]]::σ3,hle3,hs.tail,σ3,rfl,hle0.trans hle3,by rw [r3 hb23];exact hI3⟩
 ·rintro D H2 σb2 w hle2 ⟨σo,rfl,hle0,hIk⟩ hs
  refine nB ?_
  exact Fin.HS [D] [] hs.zG fun w hs=>⟨_,results0 Tryz.results274,H2,σo,hle0,hs,.inl (by simpa [D4 hlen] using hIk)⟩
 ·rintro D c H2 σb2 w hle2 ⟨rfl,σo,rfl,hle0,hx⟩ hs
  exact .ret (rB (Fin.gj [D] [] hs.zG fun w hs=>⟨_,results0 Tryz.results274,H2,σo,hle0,hs,.inr hx⟩))
theorem jZ{bf bt bl cl:Nat}{s:ck}{ts lf:List Int}{vl:Value}{sp:List Value}(hs:St H w σ)(hok:s.Ok)(hF:uA H bf s ts lf vl bt bl cl sp)(hlt:ts.length=s.bY.length):
  Cl Tryz.prog 226 [Pt bf] w fun v w'=>∃H1 b,HLe H H1∧v= .func (.func 274) #[] #[Pt b]∧ItA Tryz.prog 274 [Pt b] H1 (dw s.cA ts)∧St H1 w' σ:=by
 refine Cl.o Tryz.func226 Tryz.ntmps226 ag1 ?_
 refine .ai (.bx hs fun b1 w hs=>?_)
 refine .zn zg (.ai (.q hs (cJ (f:=[]) (c:=[_]) rfl rfl) (.zn zg (.ret (Fin.bu Tryz.results226 rfl ?_)))))
 obtain ⟨H1,g1,g2,hs⟩:=hs.bU .here
 exact ⟨H1,b1,g1,rfl,mT hok g2 (hF.mono g1) hlt,hs⟩
theorem pE{bf bt bl cl to:Nat}{s:ck}{ts lf:List Int}{vl:Value}{sp:List Value}(hs:St H w σ)(hok:s.Ok)(hF:uA H bf s ts lf vl bt bl cl sp)(hlt:ts.length=s.bY.length)(hll:lf.length=s.n)
  (hD:∃p,fW (dw s.cA ts) p) (hto:to<s.n) (hpos:0<gi lf to):
  Cl Tryz.prog 272 [Pt bf,I to] w fun v w'=>∃H1 p en,HLe H H1∧bS 4 v (iU p) en∧St H1 w' (en::σ)∧Iy s.n s.cA ts lf p to:=by
 obtain ⟨N,hN⟩:=Int.eq_ofNat_of_zero_le hok.m0
 have hN1:=hok.m1
 have hn:s.n=N+1:=by simp [ck.n,hN]
 have hoka:=hok.cA
 have hlen:s.cA.length=ts.length:=by simp [ck.cA,dW,hlt]
 rw [hn] at hoka hll hto ⊢
 obtain ⟨D,hg⟩:=zH ak ak hoka hlen hD
 have hf0:cellAt H bf 0=some (I (N:Int)):=by have:=hF.f.at 0 (v:=I s.many);rwa [hN] at this
 have hf3:cellAt H bf 3=some (.slice (some ⟨bl,0,none⟩) lf.length cl):=hF.f.at 3
 refine Cl.o Tryz.func272 Tryz.ntmps272 ag2 ?_
 refine .ai (.bx hs fun b2 w hs=>?_)
 refine .zn zg (.ai (.o (.buildSlice (cells:=[_]) hs bX rfl rfl fun b13 w hs=>?_)))
 refine .y hs (zld qP) (.z znc (.z (zfa eK) (.z (zfa bG) (.y hs (zld af) (.z cq (.o (.call Tryz.call296 rfl (qZ (z:=far) (c:=N+1) hs .here ak ak) ?_)))))));rintro _ w ⟨bc,rfl,hs⟩
 refine .o (.alloc hs dz rfl fun b5 w hs=>?_)
 refine .o (.store hs rfl rfl au fun w hs=>?_)
 refine .nil (.ai (.y hs (zld qP) (.z znc (.z (zfa eK) (.z (zfa bG) (.y hs (zld af) (.z cq (.o (.Eg (N+1) hs rfl rfl aA zE rfl aC dE ak fun b27 w hs=>?_)))))))))
 refine .o (.alloc hs Tryz.zeroValue267 rfl fun b6 w hs=>?_)
 refine .o (.store hs rfl rfl vi fun w hs=>?_)
 refine .nil (.seq (.ai (.y hs (zld qP) (.z znc (.z (zfa dq) (.y hs (zld an) (.z (cU ae) (.zn zm (.for (N:=lf.length) (J:=fun k fr w=>fr=[(31,.slice (some ⟨bl,0,none⟩) lf.length cl),(5,Pt b5),(6,Pt b6),(2,Pt b2),(1,I to)]∧∃st,ux (N+1) lf k st∧St H w (.blk b6 [.slice (some ⟨b27,0,none⟩) (N+1) (N+1)]:: .blk b27 (iU st.by_):: .blk b5 [.slice (some ⟨bc,0,none⟩) (N+1) (N+1)]:: .blk bc (Is st.cost):: .blk b2 [Pt bf]::σ)) ak ?_ ?_ ?_)))))))))
 ·exact .mk ⟨rfl,_,.start _ _,hs.sb⟩
 ·rintro k fr w hk ⟨rfl,st,hI,hs⟩
  have hck:cellAt H bl k=some (I (gi lf k)):=hF.d.at k (C8 (bB hk) sp)
  have hlc:=hI.lc
  have hlb:=hI.lb
  have hkb:k<st.by_.length:=by omega
  refine .block (.ai (.z zm ?_))
  first|(refine .ixv hs ae aj ?_;intro b36 o36 hc36)|refine .z (zix ae aj) ?_
  refine .q hs (aQ rfl af hck) (.z zg (.zn zg (.ai (.z zm (.zn iJ (.bO rfl (fun hc39=>?_) (fun hc39=>?_)))))))
  ·refine .ai (.y hs (zld an) (.z zm ?_))
   first|(refine .ixv hs ae aj ?_;intro b42 o42 hc42)|refine .z (zix ae aj) ?_
   refine .o (.store hs rfl rfl aj fun w hs=>?_)
   refine .nil (.region (.y hs (zld eM) (.z zm ?_)))
   first|(refine .ixw hs aA aC ?_;intro b45 o45 hc45)|refine .z (AA aA aC) ?_
   refine .z (zfa dp) (.o (.store hs rfl rfl aj ?_ fh (An hkb ak) (yF hkb _)));intro w hs
   refine .nil (nB (nT ?_))
   exact .mk ⟨rfl,_,hI.take ak hc39,hs⟩
  ·refine .skip (nB (nT ?_))
   exact .mk ⟨rfl,_,hI.skip hc39,hs⟩
 ·rintro fr w ⟨rfl,st0,hI0,hs⟩
  rw [hll] at hI0
  have hW0:=hI0.inv hg
  refine nT (.seq (.ai (.o (.alloc hs Tryz.zeroValue4 rfl fun b9 w hs=>?_))))
  refine .o (.store hs rfl rfl uF fun w hs=>?_)
  refine .nil (.block ?_)
  refine .loop (fun p:Nat×List Nat×bw×BS×Bool=>⟨141,marks p.2.1,[(9,.pointer (some ⟨p.1,0,none⟩)),(5,Pt b5),(6,Pt b6),(2,Pt b2),(1,I to)]⟩)
   (fun p w=>HLe H p.2.2.1∧(∃j,tg (N+1) (dw s.cA ts) (fun v=>gi lf v<0) D j p.2.2.2.2 p.2.2.2.1∧(p.2.2.2.2=false→j=(dw s.cA ts).length))∧
    St p.2.2.1 w (.blk p.1 [.bool p.2.2.2.2]:: .blk b6 [.slice (some ⟨b27,0,none⟩) (N+1) (N+1)]:: .blk b27 (iU p.2.2.2.1.by_):: .blk b5 [.slice (some ⟨bc,0,none⟩) (N+1) (N+1)]:: .blk bc (Is p.2.2.2.1.cost):: .blk b2 [Pt bf]::(mes p.2.1++σ)))
   (fun p=>2*WM (N+1) D p.2.2.2.1+(if p.2.2.2.2=true then 1 else 0)) (b9,[],H,st0,true) bn ⟨HLe.refl _,⟨0,hW0,fun h=>by cases h⟩,hs⟩ ?_
  rintro ⟨b9,Ds,H1,st,ag⟩ w ⟨hle1,⟨j,hW,hj⟩,hs⟩
  dsimp only at hle1 hW hj hs ⊢
  have hlc:=hW.lc
  have hlb:=hW.lb
  refine .seq (.ai (.y hs (zld Tryz.isAgg4) (.nil (.cond rfl (fun hc48=>?_) (fun hc48=>?_)))))
  ·refine .skip (nT (.seq (.block (.ai ?_))))
   subst hc48
   refine .o (.store hs rfl rfl uF fun w hs=>?_)
   refine .nil (.ai (.y hs (zld qP) (.o (.call Tryz.call226 rfl (jZ hs hok (hF.mono hle1) hlt) ?_))));rintro _ w ⟨H2,b50,hle2,rfl,hit,hs⟩
   refine .nil (.block ?_)
   refine .rangeFunc (gf:=274) (cap:=[Pt b50]) (xs:=(dw s.cA ts).map fun x:Arc=>[Value.agg x.v.toArray])
    (σb:=[.blk b9 [.bool false],.blk b6 [.slice (some ⟨b27,0,none⟩) (N+1) (N+1)],.blk b27 (iU st.by_),.blk b5 [.slice (some ⟨bc,0,none⟩) (N+1) (N+1)],.blk bc (Is st.cost),.blk b2 [Pt bf]]) (σf:=mes Ds++σ) hs trivial rfl hit Tryz.call274 bV rfl
    (I:=fun k H' σb=>HLe H2 H'∧∃st' ag,σb=[.blk b9 [.bool ag],.blk b6 [.slice (some ⟨b27,0,none⟩) (N+1) (N+1)],.blk b27 (iU st'.by_),.blk b5 [.slice (some ⟨bc,0,none⟩) (N+1) (N+1)],.blk bc (Is st'.cost),.blk b2 [Pt bf]]∧
     tg (N+1) (dw s.cA ts) (fun v=>gi lf v<0) D k ag st'∧WM (N+1) D st'≤WM (N+1) D st∧(ag=true→WM (N+1) D st'<WM (N+1) D st)) (Ix:=fun _ _ _=>False)
    (by rintro k _ _ σ g1 ⟨g2,g3⟩;exact ⟨g2.trans g1,g3⟩) (fun _ _ _ _ _ h=>h) ⟨HLe.refl _,st,false,rfl,hW.next,Nat.le_refl _,fun h=>by cases h⟩ ?_ ?_ (fun D c H' σb w _ h _=>h.elim)
   ·rintro l k hk H3 σb3 σf3 w hle3 ⟨hle23,st',ag,rfl,hW',hm1,hm2⟩ hs ⟨rr,hrr⟩
    obtain ⟨x,hx⟩:=nth (l:=dw s.cA ts) (by simpa using hk)
    obtain ⟨c1,c2,c3,c4,c5,c6⟩:=hg.ok x (List.mem_of_getElem? hx)
    rw [Ci hx]
    have hlc':=hW'.lc
    have hlb':=hW'.lb
    have lo1:=hW'.lo x.f c1
    have lo2:=hg.d1 x.f c1
    have hx3:cellAt H3 bl x.t=some (I (gi lf x.t)):=((hF.mono (hle1.trans (hle2.trans hle3))).d).at x.t (C8 (bB ak) sp)
    have hf33:cellAt H3 bf 3=some (.slice (some ⟨bl,0,none⟩) lf.length cl):=cellAt.mono hf3 (hle1.trans (hle2.trans hle3))
    refine .region (.o (.alloc hs dE rfl fun b10 w hs=>?_))
    refine .o (.aH (vs:=x.v) hs rfl rfl aC fun w hs=>?_)
    refine .nil (nT (⟨H3,[.blk b10 x.v,.blk b9 [.bool ag],.blk b6 [.slice (some ⟨b27,0,none⟩) (N+1) (N+1)],.blk b27 (iU st'.by_),.blk b5 [.slice (some ⟨bc,0,none⟩) (N+1) (N+1)],.blk bc (Is st'.cost),.blk b2 [Pt bf]],HLe.refl _,hs,?_⟩));rintro w σf4 - hs
    refine .block (.seq (.draw mix rfl hs fun w hs=>?_))
    refine .y 0 rfl hs an ?_;refine .z 1 rfl (zfa cE) ?_;refine .y 2 rfl hs af ?_
    first|(refine .ixv 3 rfl hs ae aj ?_;intro b55 o55 hc55)|refine .z 3 rfl (zix ae aj) ?_
    refine .y 4 rfl hs af ?_;refine .z 5 rfl iJ ?_;refine .z 6 rfl zm ?_
    refine .kF (t':=58) rfl (fun hb58=>?_) (fun hb58=>?_)
    ·refine .y 7 rfl hs an ?_;refine .z 8 rfl (zfa cE) ?_;refine .y 9 rfl hs af ?_
     first|(refine .ixv 10 rfl hs ae aj ?_;intro b62 o62 hc62)|refine .z 10 rfl (zix ae aj) ?_
     refine .y 11 rfl hs af ?_;refine .z 12 rfl (zfa eJ) ?_;refine .y 13 rfl hs af ?_;refine .z 14 rfl cq ?_;refine .y 15 rfl hs an ?_;refine .z 16 rfl (zfa cM) ?_;refine .y 17 rfl hs af ?_
     first|(refine .ixv 18 rfl hs ae aj ?_;intro b70 o70 hc70)|refine .z 18 rfl (zix ae aj) ?_
     refine .y 19 rfl hs af ?_;refine .z 20 rfl iJ ?_;refine .z 21 rfl zpT ?_;refine .z 22 rfl zm ?_
     refine .kF (t':=74) rfl (fun hb74=>?_) (fun hb74=>?_)
     ·refine .y 23 rfl hs qP ?_;refine .z 24 rfl znc ?_;refine .z 25 rfl (zfa dq) ?_;refine .y 26 rfl hs an ?_;refine .z 27 rfl (zfa cM) ?_;refine .y 28 rfl hs af ?_
      first|(refine .ixv 29 rfl hs ae aj ?_;intro b81 o81 hc81)|refine .z 29 rfl (zix ae aj) ?_
      refine .y 30 rfl hs af ?_;refine .z 31 rfl yM ?_;refine .z 32 rfl zm ?_
      refine .kF (t':=84) rfl (fun hb84=>?_) (fun hb84=>?_)
      ·refine .F 33 rfl (.F 34 rfl (.F 35 rfl (.F 36 rfl (.F 37 rfl (.F 38 rfl (.F 39 rfl (.F 40 rfl (.F 41 rfl (.zw 42 rfl zpT ?_)))))))));refine .z 43 rfl zpT ?_;refine .D hs ?_
       refine (.cT (.draw mix rfl hs fun w hs=>?_))
       refine .y 0 rfl hs an ?_;refine .z 1 rfl (zfa cM) ?_;refine .y 2 rfl hs af ?_;refine .y 3 rfl hs eM ?_;refine .z 4 rfl (zfa cM) ?_;refine .y 5 rfl hs af ?_;refine .y 6 rfl hs an ?_;refine .z 7 rfl (zfa cE) ?_;refine .y 8 rfl hs af ?_
       first|(refine .ixv 9 rfl hs ae aj ?_;intro b105 o105 hc105)|refine .z 9 rfl (zix ae aj) ?_
       refine .y 10 rfl hs af ?_;refine .z 11 rfl (zfa eJ) ?_;refine .y 12 rfl hs af ?_;refine .z 13 rfl cq ?_
       refine .AX (i:=14) (vs:=x.v) hs rfl aE .none rfl gq aC ?_
       first|(refine .ixv 15 rfl hs ae aj ?_;intro b111 o111 hc111)|refine .z 15 rfl (zix ae aj) ?_
       refine .E 16 hs ?_
       refine .store hs rfl rfl aj ?_;intro w hs
       refine .go ?_
       first|(refine .ixw 17 rfl hs aA aC ?_;intro b112 o112 hc112)|refine .z 17 rfl (AA aA aC) ?_
       refine .E 18 hs ?_
       refine .aH (vs:=x.v) hs rfl rfl aC ?_;intro w hs
       refine .go (.E 19 hs ?_)
       refine .store hs rfl rfl uF ?_;intro w hs
       refine .go (.D hs (nB ?_))
       have:=hW'.less hg hx hb58 hb74
       exact ⟨H3,_,HLe.refl _,hs.tail,hle23,st'.rlx x,true,rfl,hW'.xG hg hx hb58 hb74,ak,fun _=>by omega⟩
      ·refine .y 33 rfl hs an ?_;refine .z 34 rfl (zfa cE) ?_;refine .y 35 rfl hs af ?_
       first|(refine .ixv 36 rfl hs ae aj ?_;intro b88 o88 hc88)|refine .z 36 rfl (zix ae aj) ?_
       refine .y 37 rfl hs af ?_;refine .z 38 rfl (zfa eJ) ?_;refine .y 39 rfl hs af ?_;refine .z 40 rfl cq ?_;refine .z 41 rfl iJ ?_;refine .z 42 rfl zpF ?_;refine .z 43 rfl zpT ?_;refine .D hs ?_
       refine (.bO rfl (fun hc95=>?_) (fun hc95=>?_))
       ·refine .draw mix rfl hs fun w hs=>?_
        refine .y 0 rfl hs an ?_;refine .z 1 rfl (zfa cM) ?_;refine .y 2 rfl hs af ?_;refine .y 3 rfl hs eM ?_;refine .z 4 rfl (zfa cM) ?_;refine .y 5 rfl hs af ?_;refine .y 6 rfl hs an ?_;refine .z 7 rfl (zfa cE) ?_;refine .y 8 rfl hs af ?_
        first|(refine .ixv 9 rfl hs ae aj ?_;intro b105 o105 hc105)|refine .z 9 rfl (zix ae aj) ?_
        refine .y 10 rfl hs af ?_;refine .z 11 rfl (zfa eJ) ?_;refine .y 12 rfl hs af ?_;refine .z 13 rfl cq ?_
        refine .AX (i:=14) (vs:=x.v) hs rfl aE .none rfl gq aC ?_
        first|(refine .ixv 15 rfl hs ae aj ?_;intro b111 o111 hc111)|refine .z 15 rfl (zix ae aj) ?_
        refine .E 16 hs ?_
        refine .store hs rfl rfl aj ?_;intro w hs
        refine .go ?_
        first|(refine .ixw 17 rfl hs aA aC ?_;intro b112 o112 hc112)|refine .z 17 rfl (AA aA aC) ?_
        refine .E 18 hs ?_
        refine .aH (vs:=x.v) hs rfl rfl aC ?_;intro w hs
        refine .go (.E 19 hs ?_)
        refine .store hs rfl rfl uF ?_;intro w hs
        refine .go (.D hs (nB ?_))
        have:=hW'.less hg hx hb58 hb74
        exact ⟨H3,_,HLe.refl _,hs.tail,hle23,st'.rlx x,true,rfl,hW'.xG hg hx hb58 hb74,ak,fun _=>by omega⟩
       ·refine .skip (nB ?_)
        have:=hW'.src x.t c2 ak
        omega
     ·refine .F 23 rfl (.F 24 rfl (.F 25 rfl (.F 26 rfl (.F 27 rfl (.F 28 rfl (.F 29 rfl (.F 30 rfl ?_)))))))
      refine .F 31 rfl (.F 32 rfl (.F 33 rfl (.F 34 rfl (.F 35 rfl (.F 36 rfl (.F 37 rfl (.F 38 rfl (.F 39 rfl (.F 40 rfl (.F 41 rfl (.F 42 rfl (.zw 43 rfl zpF ?_))))))))))));refine .D hs ?_
      refine (.cF (.skip (nB ?_)))
      exact ⟨H3,_,HLe.refl _,hs.tail,hle23,st',ag,rfl,hW'.skip hx (fun h=>hb74 h.2),hm1,hm2⟩
    ·refine .F 7 rfl (.F 8 rfl ?_)
     refine .F 9 rfl (.F 10 rfl (.F 11 rfl (.F 12 rfl (.F 13 rfl (.F 14 rfl (.F 15 rfl (.F 16 rfl (.F 17 rfl (.F 18 rfl (.F 19 rfl (.F 20 rfl (.zw 21 rfl zpF ?_))))))))))));refine .z 22 rfl zm ?_
     refine .F 23 rfl (.F 24 rfl (.F 25 rfl (.F 26 rfl (.F 27 rfl (.F 28 rfl (.F 29 rfl (.F 30 rfl ?_)))))))
     refine .F 31 rfl (.F 32 rfl (.F 33 rfl (.F 34 rfl (.F 35 rfl (.F 36 rfl (.F 37 rfl (.F 38 rfl (.F 39 rfl (.F 40 rfl (.F 41 rfl (.F 42 rfl (.zw 43 rfl zpF ?_))))))))))));refine .D hs ?_
     refine (.cF (.skip (nB ?_)))
     exact ⟨H3,_,HLe.refl _,hs.tail,hle23,st',ag,rfl,hW'.skip hx (fun h=>hb58 h.1),hm1,hm2⟩
   ·rintro D3 H3 σb3 w hle3 ⟨hle23,st',ag,rfl,hW',hm1,hm2⟩ hs
    replace hs:St H3 w (.blk b9 [.bool ag]:: .blk b6 [.slice (some ⟨b27,0,none⟩) (N+1) (N+1)]:: .blk b27 (iU st'.by_):: .blk b5 [.slice (some ⟨bc,0,none⟩) (N+1) (N+1)]:: .blk bc (Is st'.cost):: .blk b2 [Pt bf]::(mes (D3::Ds)++σ)):=St.deep (σ1:=[_,_,_,_,_,_]) hs
    rw [List.length_map] at hW'
    refine nB (nB (nT (.ai (.y hs (zld Tryz.isAgg4) (.nil (.region (.o (.alloc hs Tryz.zeroValue4 rfl fun b9 w hs=>?_))))))))
    refine .o (.store hs rfl rfl uF fun w hs=>?_)
    refine .nil (nT ?_)
    exact ⟨(b9,D3::Ds,H3,st',ag),bn,⟨hle1.trans (hle2.trans hle3),⟨_,hW',fun _=>rfl⟩,hs.sb⟩,by
      dsimp only
      cases ag with
      |false=>simp;omega
      |true=>have:=hm2 rfl;simp;omega⟩
  ·refine .exit (xT (xT (xB (nT (.seq (.ai ?_))))))
   subst hc48
   obtain rfl:=hj rfl
   refine .y hs (zld an) (.z zm ?_)
   first|(refine .ixv hs ae aj ?_;intro b116 o116 hc116)|refine .z (zix ae aj) ?_
   refine .y hs (zld af) (.zn kd (.bO rfl (fun hc118=>?_) (fun hc118=>?_)))
   ·refine .ai (.zn zg (.ret (rT ((Fin.gj Ds [_,_,_,_,_,_] hs fun w hs=>⟨_,results1 Tryz.results272 rfl,H1,[],.nul,hle1,.nil 4 none,(hs.sb).nul,hW.none hg hc118⟩)))))
   ·refine .skip (nT (.ai (.zn zg (.seq (.ai (.z zm (.zn zg (.block ?_))))))))
    have hreach:gi st.cost to<far:=by have:=hW.top to hto;have e:far=1152921504606846976:=rfl;omega
    obtain ⟨kk,cc,u,hbk,hroot,hkn,hk0,hcl,hway⟩:=hW.back hg hto hreach hpos
    refine .loop (fun p:Nat×Nat×Value×Ent=>⟨141,marks Ds,[(11,p.2.2.1),(12,I p.2.1),(6,Pt b6)]⟩)
     (fun p w=>p.1≤kk∧(p.2.1<N+1∧gi st.cost p.2.1<far)∧bS 4 p.2.2.1 (iU (mI st.by_ to p.1)) p.2.2.2∧(∃d,fM st.by_ to p.1 d p.2.1)∧(∃d,fM st.by_ p.2.1 (kk - p.1) d u)∧
      St H1 w (p.2.2.2:: .blk b9 [.bool false]:: .blk b6 [.slice (some ⟨b27,0,none⟩) (N+1) (N+1)]:: .blk b27 (iU st.by_):: .blk b5 [.slice (some ⟨bc,0,none⟩) (N+1) (N+1)]:: .blk bc (Is st.cost):: .blk b2 [Pt bf]::(mes Ds++σ)))
     (fun p=>kk - p.1) (0,to,.slice none 0 0,.nul) bn ⟨Nat.zero_le _,⟨hto,hreach⟩,.nil 4 none,⟨0,.nil⟩,⟨cc,hbk⟩,hs.nul⟩ ?_
    rintro ⟨i,v,v11,en⟩ w ⟨hik,⟨hv1,hv2⟩,hO,⟨d1,hb1⟩,⟨d2,hb2⟩,hs⟩
    dsimp only at hik hv1 hv2 hO hb1 hb2 hs ⊢
    have hvb:v<st.by_.length:=by omega
    refine .seq (.ai (.y hs (zld eM) (.z zm ?_)))
    first|(refine .ixw hs aA aC ?_;intro b122 o122 hc122)|refine .z (AA aA aC) ?_
    refine .z (zfa dp) (.q hs (gC rfl af (hv:=(qJ hvb (j:=3) ak).trans rfl)) (.zn yM (.bO rfl (fun hc125=>?_) (fun hc125=>?_))))
    ·refine .skip (nT (.seq (.block (.region (.z zm (.y hs (zld eM) (.z zm ?_)))))))
     first|(refine .ixw hs aA aC ?_;intro b134 o134 hc134)|refine .z (AA aA aC) ?_
     refine .q hs (kn (vs:=(ga st.by_ v).v) rfl gq aC (hv:=Ax hvb)) (.o (.buildSlice (cells:=(ga st.by_ v).v) hs pG rfl rfl fun b136 w hs=>?_))
     refine .o (.append (ys:=(ga st.by_ v).v) hs kb rfl rfl hO (.own .here rfl rfl) (by simp [Arc.v,Value.oneCell']) (fun l h=>by rw [dj,jj] at h;omega) ?_);intro v137 en137 w hO2 hs
     refine .zn zg (nB (nT (.region (.y hs (zld eM) (.z zm ?_)))))
     first|(refine .ixw hs aA aC ?_;intro b128 o128 hc128)|refine .z (AA aA aC) ?_
     refine .z (zfa cE) (.q hs (gC rfl af (hv:=(qJ hvb (j:=0) ak).trans rfl)) (.zn zg (nT ?_)))
     obtain ⟨g1,g2⟩:=hcl v hv1 hv2 hc125
     obtain ⟨m,hm⟩:∃m,kk - i=m+1:=by
      refine ⟨kk - i - 1,?_⟩
      rcases Nat.lt_or_ge i kk with h|h
      ·omega
      ·obtain e:kk - i=0:=by omega
       rw [e] at hb2
       cases hb2
       omega
     rw [hm] at hb2
     obtain ⟨d3,hb3⟩:∃d,fM st.by_ (ga st.by_ v).f m d u:=by cases hb2 with|cons _ t=>exact ⟨_,t⟩
     rw [←Db,←AE hb1] at hO2
     exact ⟨(i+1,(ga st.by_ v).f,v137,en137),bn,⟨by dsimp only;omega,⟨g1,g2⟩,hO2,⟨_,hb1.trans (.cons hc125 .nil)⟩,⟨d3,by rw [show kk - (i+1)=m by omega];exact hb3⟩,hs.sb⟩,by dsimp only;omega⟩
    ·refine .exit (xT (xT (xB (nT (.ai ?_)))))
     obtain rfl:i=kk:=by
      rcases Nat.lt_or_ge i kk with h|h
      ·obtain ⟨m,hm⟩:∃m,kk - i=m+1:=⟨kk - i - 1,ak⟩
       rw [hm] at hb2
       cases hb2 with
       |cons hl _=>omega
      ·omega
     refine .z zm (.o (.call Tryz.call297 rfl (o5 hs hO (by rw [jj];omega)) ?_));rintro v139 w ⟨en',hO',hs⟩
     refine .nil (.ai (.z zm (.zn zg (.ret (Fin.gj Ds [_,_,_,_,_,_,_] hs fun w hs=>⟨_,results1 Tryz.results272 rfl,H1,_,en',hle1,hO',hs.sb,hway _ rfl⟩)))))
theorem As{s:ck}{x:Arc}(hok:s.Ok)(hx:Bb s.cA x):∃(i:Nat) (l:Lim),s.bY[i]? =some l∧x.l=(i:Int)∧(l.A=(x.f:Int)↔fwd s.cA x)∧i<s.bY.length:=by
 obtain ⟨i,y,h1,h2⟩:=hx
 have hl:=qG h1
 have hlt:i<s.bY.length:=by have:=(List.getElem?_eq_some_iff.1 h1).1;simpa [ck.cA,dW] using this
 obtain ⟨l,hl2⟩:=nth hlt
 have h3:=kf hl2
 have h1':(mB s.bY)[i]? =some y:=h1
 rw [h3] at h1'
 cases h1'
 obtain ⟨a1,a2,_⟩:=hok.arc (List.mem_of_getElem? hl2) i
 refine ⟨i,l,hl2,?_,?_,hlt⟩
 ·rcases h2 with rfl|rfl<;>rfl
 ·have hg:ga s.cA i=l.arc i:=by simp [ga,ck.cA,h3]
  have hxl:x.l.toNat=i:=by rcases h2 with rfl|rfl<;>rfl
  unfold fwd
  rw [hxl,hg,←a1]
  exact ⟨fun e=>by exact_mod_cast e,fun e=>by exact_mod_cast e⟩
theorem jA{bf:Nat}{s:ck}{vl vt vd:Value}{x:Arc}(hs:St H w σ)(hok:s.Ok)(hf:Row H bf [I s.many,vl,vt,vd])(hl:RL H vl s.bY)(hx:Bb s.cA x):
  Cl Tryz.prog 298 [Pt bf,.agg x.v.toArray] w fun v w'=>v= .bool (decide (fwd s.cA x))∧St H w' σ:=by
 obtain ⟨i,l,hl1,hxl,hfw,hil⟩:=As hok hx
 have hf1:cellAt H bf 1=some vl:=hf.at 1
 refine Cl.o Tryz.func298 Tryz.ntmps298 ag2 ?_
 refine .ai (.bx hs fun b3 w hs=>?_)
 refine .zn zg (.seq (.draw mix rfl hs fun w hs=>?_))
 refine .zw 0 rfl zm ?_;refine .z 1 rfl znc ?_;refine .z 2 rfl (zfa eK) ?_;refine .z 3 rfl (zfa bF) ?_;refine .y 4 rfl hs cz ?_;refine .z 5 rfl (zfa dp) ?_;refine .y 6 rfl hs af ?_
 refine .ixX (i:=7) hs rfl aE .none hl rfl rfl aJ aU hl1 hxl ?_;intro b12 o12 hc12
 have hA:cellAt H b12 o12=some (I l.A):=hc12.get 0 rfl
 refine .zw 8 rfl (zfa dI) ?_;refine .y 9 rfl hs af ?_;refine .z 10 rfl (zfa cE) ?_;refine .y 11 rfl hs af ?_;refine .z 12 rfl kd ?_;refine .z 13 rfl zg ?_;refine .D hs ?_
 refine .ret (Fin.bu Tryz.results298 rfl ?_)
 exact ⟨by simp only [decide_eq_decide.2 hfw],hs.out⟩
theorem oy{bf bt bl cl u v:Nat}{s:ck}{ts lf:List Int}{wt:Nat→Int}{vl vp:Value}{sp:List Value}{p:List Arc}(hs:St H w (.blk bt (Is ts):: .blk bl (Is lf++sp)::σ))(hok:s.Ok)
  (hf:Row H bf [I s.many,vl,.slice (some ⟨bt,0,none⟩) ts.length ts.length,.slice (some ⟨bl,0,none⟩) lf.length cl]) (hl:RL H vl s.bY) (hp:RS H 4 vp (p.map Arc.v)) (hI:xk s.n s.cA wt ts lf) (hw:Gv s.cA ts lf s.n p u v) (hpn:p≠[]) (hpl:p.length<s.n):
  Cl Tryz.prog 273 [Pt bf,vp] w fun _ w'=>St H w' (.blk bt (Is (fF s.cA (rR s.cA ts lf p u v) ts p)):: .blk bl (Is (zd lf (rR s.cA ts lf p u v) u v)++sp)::σ):=by
 have hN1:=hok.m1
 have hn65:s.n≤65:=by simp only [ck.n];have:=hok.m0;omega
 have hnum:Au s.cA:=fun i x hx=>⟨qG hx,(hok.cA.2 x (List.mem_of_getElem? hx)).2.2.2.2.2⟩
 have hlt:=hI.lt
 have hll:=hI.ll
 obtain ⟨m0,m1,m2,m3⟩:=wG hlt.symm hnum hw
 have hsu:=hI.sg u hw.un
 have hsv:=hI.sg v hw.vn
 have hun:u<lf.length:=by rw [hll];exact hw.un
 have hvn:v<lf.length:=by rw [hll];exact hw.vn
 obtain ⟨a,cap,hvp⟩:=hp.shape
 rw [List.length_map] at hvp
 subst hvp
 have hp0:0<p.length:=List.length_pos_iff.2 hpn
 obtain ⟨x0,hx0⟩:=nth hp0
 obtain ⟨x1,hx1⟩:=nth (l:=p) (k:=p.length - 1) ak
 have hh:=hw.ch.head hx0
 have hla:=hw.ch.last hx1
 have hf2:cellAt H bf 2=some (.slice (some ⟨bt,0,none⟩) ts.length ts.length):=hf.at 2
 have hf3:cellAt H bf 3=some (.slice (some ⟨bl,0,none⟩) lf.length cl):=hf.at 3
 have hix:∀x∈p,Bb s.cA x∧x.l.toNat<ts.length∧x.l=(x.l.toNat:Int):=fun x hx=>by
  obtain ⟨g1,g2,_⟩:=ma hlt.symm hnum (hw.mem x hx)
  obtain ⟨i,l,_,g3,_⟩:=As hok g1
  exact ⟨g1,g2,by rw [g3];simp⟩
 simp only [FF] at hsu hsv
 have huv:v≠u:=fun e=>by have:=hw.lu;have:=hw.lv;rw [e] at*;omega
 have htt:∀i<ts.length,0≤gi ts i∧gi ts i≤3600000000000:=fun i hi=>by
  have h1:=hI.nn i ak
  have h2:=hI.tb i ak
  have h3:0≤rem s.n lf:=cI fun v _=>by omega
  simp only [FF] at h2
  omega
 have hM:rR s.cA ts lf p u v=least s.cA ts (min (-gi lf u) (gi lf v)) p:=rfl
 generalize rR s.cA ts lf p u v=M at*
 have hgv:gi (lf.set u (gi lf u+M)) v=gi lf v:=by rw [fZ hun,if_neg huv]
 refine Cl.o Tryz.func273 Tryz.ntmps273 ag2 ?_
 refine .seq (.draw mix rfl hs fun w hs=>?_)
 refine .zw 0 rfl zm (.ixX (i:=1) hs rfl aE .none hp rfl rfl aA aC hx0 rfl ?_);intro b12 o12 hc12
 have h14:cellAt H b12 (o12+0)=some (I u):=by rw [←hh];exact hc12.get 0 rfl
 refine .zw 2 rfl (zfa cE) ?_;refine .y 3 rfl hs af ?_;refine .z 4 rfl zm ?_;refine .z 5 rfl zm ?_;refine .z 6 rfl (cU aA) ?_;refine .z 7 rfl ib ?_
 refine .ixX (i:=8) hs rfl aE .none hp rfl rfl aA aC hx1 ak ?_;intro b19 o19 hc19
 have h21:cellAt H b19 (o19+1)=some (I v):=by rw [←hla];exact hc19.get 1 rfl
 refine .zw 9 rfl (zfa cM) ?_;refine .y 10 rfl hs af ?_;refine .z 11 rfl zg ?_;refine .z 12 rfl zg ?_;refine .D hs ?_
 refine .seq (.draw mix rfl hs fun w hs=>?_)
 refine .zw 0 rfl zm ?_;refine .z 1 rfl znc ?_;refine .z 2 rfl (zfa dq) ?_;refine .y 3 rfl hs an ?_;refine .z 4 rfl zm ?_
 first|(refine .ixv 5 rfl hs ae aj ?_;intro b27 o27 hc27)|refine .z 5 rfl (zix ae aj) ?_
 refine .load (i:=6) hs rfl aE .none rfl af ?_ (hv:=fa hun sp)
 refine .zw 7 rfl Di ?_;refine .z 8 rfl zm ?_;refine .z 9 rfl znc ?_;refine .z 10 rfl (zfa dq) ?_;refine .y 11 rfl hs an ?_;refine .z 12 rfl zm ?_
 first|(refine .ixv 13 rfl hs ae aj ?_;intro b35 o35 hc35)|refine .z 13 rfl (zix ae aj) ?_
 refine .load (i:=14) hs rfl aE .none rfl af ?_ (hv:=fa hvn sp)
 refine .zw 15 rfl Bj ?_;refine .z 16 rfl zg ?_;refine .D hs ?_
 refine .seq (.ai (.z zm (.z (cU aA) (.zn zm (.for (N:=p.length) (J:=fun k fr w=>fr=[(38,.slice a p.length cap),(6,I (least s.cA ts (min (-gi lf u) (gi lf v)) (p.take k))),(0,Pt bf),(1,.slice a p.length cap),(4,I u),(5,I v)]∧St H w (.blk bt (Is ts):: .blk bl (Is lf++sp)::σ)) ak ?_ ?_ ?_)))))
 ·exact .mk ⟨rfl,hs⟩
 ·rintro k fr w hk ⟨rfl,hs⟩
  obtain ⟨x,hx⟩:=nth hk
  obtain ⟨g1,g2,g3⟩:=hix x (List.mem_of_getElem? hx)
  refine .block (.ai (.ixX hs hp rfl rfl aA aC hx rfl ?_));intro b42 o42 hc42
  refine .q hs (bI (vs:=x.v) rfl gq aC hc42) (.o (.alloc hs dE rfl fun b8 w hs=>?_))
  refine .o (.aH (vs:=x.v) hs rfl rfl aC fun w hs=>?_)
  refine .nil (.ai (.z zm (.q hs (kn (vs:=x.v) rfl gq aC) (.o (.call Tryz.call298 rfl (jA hs hok hf hl g1) ?_)))));rintro _ w ⟨rfl,hs⟩
  refine .zn gP (.cond rfl (fun hc47=>?_) (fun hc47=>?_))
  ·refine .draw mix rfl hs fun w hs=>?_
   refine .zw 0 rfl zm ?_;refine .z 1 rfl zm ?_;refine .z 2 rfl znc ?_;refine .z 3 rfl (zfa gI) ?_;refine .y 4 rfl hs an ?_;refine .z 5 rfl (zfa dp) ?_;refine .y 6 rfl hs af ?_
   refine .zw 7 rfl (kq (k:=x.l.toNat) rfl rfl ae aj g3 g2) (.y 8 rfl hs af ?_);refine .z 9 rfl Bj ?_;refine .z 10 rfl zg ?_;refine .D hs ?_
   refine nB (nT ?_)
   have e:min (least s.cA ts (min (-gi lf u) (gi lf v)) (p.take k)) (gi ts x.l.toNat)=least s.cA ts (min (-gi lf u) (gi lf v)) (p.take (k+1)):=by rw [cZ hx,vM,if_neg (by simpa using hc47)]
   exact .mk ⟨rfl,hs.tail⟩ (hs:= .cons rfl (.cons rfl (.cons rfl (.dy rfl e (.cons rfl (.cons rfl (.cons rfl (.cons rfl (.nil rfl rfl)))))))))
  ·refine .skip (nB (nT ?_))
   have e:least s.cA ts (min (-gi lf u) (gi lf v)) (p.take k)=least s.cA ts (min (-gi lf u) (gi lf v)) (p.take (k+1)):=by rw [cZ hx,vM,if_pos (by simpa using hc47)]
   exact .mk ⟨rfl,hs.tail⟩ (hs:= .cons rfl (.cons rfl (.cons rfl (.dy rfl e (.cons rfl (.cons rfl (.cons rfl (.cons rfl (.nil rfl rfl)))))))))
 ·rintro fr w ⟨rfl,hs⟩
  have e6:least s.cA ts (min (-gi lf u) (gi lf v)) (List.take p.length p)=M:=by rw [List.take_length];exact hM.symm
  rw [e6]
  refine nT (.seq (.ai (.z zm (.z (cU aA) (.zn zm (.for (N:=p.length) (J:=fun k fr w=>fr=[(59,.slice a p.length cap),(6,I M),(0,Pt bf),(1,.slice a p.length cap),(4,I u),(5,I v)]∧St H w (.blk bt (Is (fF s.cA M ts (p.take k))):: .blk bl (Is lf++sp)::σ)) ak ?_ ?_ ?_))))))
  ·exact .mk ⟨rfl,hs⟩
  ·rintro k fr w hk ⟨rfl,hs⟩
   obtain ⟨x,hx⟩:=nth hk
   obtain ⟨g1,g2,g3⟩:=hix x (List.mem_of_getElem? hx)
   have hpl2:=l7 s.cA M (p.take k) ts
   have hbd:=B6 (es:=s.cA) (m:=M) (ts:=ts) (p:=p.take k) ak (by simp only [FF];omega) (by rw [List.length_take];omega) (fun y hy=>(hix y (List.mem_of_mem_take hy)).2.1) x.l.toNat
   have h9:=htt _ g2
   refine .block (.ai (.ixX hs hp rfl rfl aA aC hx rfl ?_));intro b63 o63 hc63
   refine .q hs (bI (vs:=x.v) rfl gq aC hc63) (.o (.alloc hs dE rfl fun b10 w hs=>?_))
   refine .o (.aH (vs:=x.v) hs rfl rfl aC fun w hs=>?_)
   refine .nil (.ai (.z zm (.q hs (kn (vs:=x.v) rfl gq aC) (.o (.call Tryz.call298 rfl (jA hs hok hf hl g1) ?_)))));rintro _ w ⟨rfl,hs⟩
   refine .nil (.cond rfl (fun hc67=>?_) (fun hc67=>?_))
   ·refine .draw mix rfl hs fun w hs=>?_
    refine .zw 0 rfl zm ?_;refine .z 1 rfl znc ?_;refine .z 2 rfl (zfa gI) ?_;refine .y 3 rfl hs an ?_;refine .z 4 rfl (zfa dp) ?_;refine .y 5 rfl hs af ?_
    refine .zw 6 rfl (kq (k:=x.l.toNat) rfl rfl ae aj g3 g2) (.y 7 rfl hs af ?_);refine .z 8 rfl zm ?_;refine .z 9 rfl cq ?_
    refine .zw 10 rfl (kq (k:=x.l.toNat) rfl rfl ae aj g3 g2) (.E 11 hs ?_)
    refine .store hs rfl rfl aj ?_;intro w hs
    refine .go (.D hs (nB (nT ?_)))
    have e:fF s.cA M ts (p.take (k+1))=(fF s.cA M ts (p.take k)).set x.l.toNat (gi (fF s.cA M ts (p.take k)) x.l.toNat+M):=by rw [cZ hx,tQ,push,if_pos (by simpa using hc67)]
    exact .mk ⟨rfl,by rw [e];exact hs.tail⟩
   ·refine .draw mix rfl hs fun w hs=>?_
    refine .zw 0 rfl zm ?_;refine .z 1 rfl znc ?_;refine .z 2 rfl (zfa gI) ?_;refine .y 3 rfl hs an ?_;refine .z 4 rfl (zfa dp) ?_;refine .y 5 rfl hs af ?_
    refine .zw 6 rfl (kq (k:=x.l.toNat) rfl rfl ae aj g3 g2) (.y 7 rfl hs af ?_);refine .z 8 rfl zm ?_;refine .z 9 rfl ib ?_
    refine .zw 10 rfl (kq (k:=x.l.toNat) rfl rfl ae aj g3 g2) (.E 11 hs ?_)
    refine .store hs rfl rfl aj ?_;intro w hs
    refine .go (.D hs (nB (nT ?_)))
    have e:fF s.cA M ts (p.take (k+1))=(fF s.cA M ts (p.take k)).set x.l.toNat (gi (fF s.cA M ts (p.take k)) x.l.toNat - M):=by rw [cZ hx,tQ,push,if_neg (by simpa using hc67)]
    exact .mk ⟨rfl,by rw [e];exact hs.tail⟩
  ·rintro fr w ⟨rfl,hs⟩
   rw [List.take_length] at hs
   refine nT (.ai (.z zm (.z znc (.z (zfa dq) (.y hs (zld an) (.z zm ?_))))))
   first|(refine .ixv hs ae aj ?_;intro b96 o96 hc96)|refine .z (zix ae aj) ?_
   refine .q hs (gC rfl af (hv:=fa hun sp)) (.z zm (.z cq ?_))
   first|(refine .ixv hs ae aj ?_;intro b100 o100 hc100)|refine .z (zix ae aj) ?_
   refine .o (.store hs rfl rfl aj ?_ fh (nL hun sp) (kE hun sp _));intro w hs
   refine .nil (.region (.z zm (.z znc (.z (zfa dq) (.y hs (zld an) (.z zm ?_))))))
   first|(refine .ixv hs ae aj ?_;intro b106 o106 hc106)|refine .z (zix ae aj) ?_
   refine .q hs (gC rfl af (hv:=fa (by rw [List.length_set];exact hvn) sp)) ?_
   refine .z zm (.z ib ?_)
   first|(refine .ixv hs ae aj ?_;intro b110 o110 hc110)|refine .z (zix ae aj) ?_
   refine .o (.store hs rfl rfl aj ?_ fh (nL (by rw [List.length_set];exact hvn) sp) (kE (by rw [List.length_set];exact hvn) sp _));intro w hs
   refine .nil ?_
   exact Fin.yq Tryz.results273 hs
theorem Co{w:List Int}{N k:Nat}(hw:w.length=N+1):gi (w.set 0 (-kO w k)) 0 - gi (w.set 0 (-kO w k)) (k+1)= -kO w (k+1):=by
 rw [fZ ak,fZ ak,if_pos rfl,if_neg ak]
 simp only [kO,aP];omega
theorem uj{v vw:Value}{s:ck}{ws:List Int}(hs:St H w σ)(hok:s.Ok)(hr:RSy H v s)(hrw:RI H vw ws)(hwl:ws.length=s.n)(hsz:iZ ws)(hsnd:s.Sound):
  Cl Tryz.prog 224 [v,vw] w fun v w'=>(v= .tuple #[.pointer none,.bool false]∧pK s.cA (oH ws s.n) s.n∧St H w' σ)∨
   (∃H1 bf bt bl cl ts lf vl sp,HLe H H1∧v= .tuple #[Pt bf,.bool true]∧uA H1 bf s ts lf vl bt bl cl sp∧nR s.n s.cA (oH ws s.n) ts∧St H1 w' σ):=by
 obtain ⟨vl,rfl,hr⟩:=hr
 obtain ⟨al,cpl,rfl⟩:=RL.shape hr
 obtain ⟨aw,cw,rfl⟩:=RI.shape hrw
 obtain ⟨N,hN⟩:=Int.eq_ofNat_of_zero_le hok.m0
 have hN1:=hok.m1
 have hn:s.n=N+1:=by simp [ck.n,hN]
 have hlim:=hok.len
 have hoka:=hok.cA
 have hal:s.cA.length=s.bY.length:=by simp [ck.cA,dW]
 have hnum:Au s.cA:=fun i x hx=>⟨qG hx,(hok.cA.2 x (List.mem_of_getElem? hx)).2.2.2.2.2⟩
 have hin:∀x∈s.cA,x.f<s.n∧x.t<s.n:=fun x hx=>by have:=hoka.2 x hx;omega
 have hwt0:=E6 ws (n:=s.n) ak
 unfold iZ at hsz
 rw [hwl] at hsz
 refine Cl.o Tryz.func224 Tryz.ntmps224 ag2 ?_
 refine .ai (.bx hs fun b2 w hs=>?_)
 refine .z zg (.zn zg (.scope (.cut (fun fs w=>∃bf bt bl cl sp,lZ fs ⟨73,[],[(6,Pt bf)]⟩∧St H w (.blk bf [I s.many,.slice al s.bY.length cpl,.slice (some ⟨bt,0,none⟩) s.bY.length s.bY.length,.slice (some ⟨bl,0,none⟩) ws.length cl]:: .blk bt (Is (List.replicate s.bY.length 0)):: .blk bl (Is ws++sp)::σ)) ?_ ?_)))
 ·refine .draw mix rfl hs fun w hs=>?_
  refine .ys 0 rfl hs [_,_] aZ aF ?_;refine .z 1 rfl (zfa bF) ?_;refine .y 2 rfl hs cz ?_;refine .z 3 rfl (cU aJ) ?_;refine .z 5 rfl zm ?_
  refine .e2 (i:=4) (j:=6) aE rfl rfl rfl rfl .none .none hs ?_ ?_
  ·refine .xQ s.bY.length hs rfl rfl ae iX rfl aj bL ak ?_;intro b15 w hs
   refine .go (.E 6 hs ?_)
   refine .call Tryz.call171 rfl (mn hs hrw ak) ?_;rintro v17 w ⟨en17,hO,hs⟩
   obtain ⟨bl,cl,sp,rfl,rfl,hsp⟩:=hO.some ak
   refine .go (.zw 7 rfl (zbd [_,_,_,_] oQ) (.E 8 hs ?_))
   refine .box hs rfl rfl ?_;intro b19 w hs
   refine .go (.zw 9 rfl zg ?_);refine .D hs ?_
   exact nT ⟨b19,b15,bl,cl,sp,bn,hs.sb⟩
  ·refine .call Tryz.call171 rfl (mn hs hrw ak) ?_;rintro v17 w ⟨en17,hO,hs⟩
   obtain ⟨bl,cl,sp,rfl,rfl,hsp⟩:=hO.some ak
   refine .go (.E 4 hs ?_)
   refine .xQ s.bY.length hs rfl rfl ae iX rfl aj bL ak ?_;intro b15 w hs
   refine .go (.zw 7 rfl (zbd [_,_,_,_] oQ) (.E 8 hs ?_))
   refine .box hs rfl rfl ?_;intro b19 w hs
   refine .go (.zw 9 rfl zg ?_);refine .D hs ?_
   exact nT ⟨b19,b15,bl,cl,sp,bn,hs.sb⟩
 ·rintro fs w ⟨bf,bt,bl,cl,sp,hfs,hs⟩
  refine WE.sub ?_ hfs
  obtain ⟨H1,hle1,hRf,hs⟩:=hs.bU .here
  have hf0:cellAt H1 bf 0=some (I (N:Int)):=by have:=hRf.at 0 (v:=I s.many);rwa [hN] at this
  have hf3:cellAt H1 bf 3=some (.slice (some ⟨bl,0,none⟩) ws.length cl):=hRf.at 3
  have hrl:=hr.mono hle1
  refine .ai (.z zm (.z znc (.z (zfa dq) (.y hs (zld an) (.q hs (kq (k:=0) rfl rfl ae aj rfl ak) (.o (.store hs rfl rfl aj ?_ fh (nL ak sp) (kE ak sp _))))))));intro w hs
  refine .nil (.seq (.ai (.z zm (.z znc (.z (zfa eK) (.z (zfa bG) (.y hs (zld af) (.zn zm (.for (N:=N) (J:=fun k fr w=>fr=[(6,Pt bf)]∧St H1 w (.blk bt (Is (List.replicate s.bY.length 0)):: .blk bl (Is (ws.set 0 (-kO ws k))++sp)::σ)) ak ?_ ?_ ?_)))))))))
  ·exact .mk ⟨rfl,by simpa [kO,aP] using hs⟩
  ·rintro k fr w hk ⟨rfl,hs⟩
   have e:=Co (w:=ws) (N:=N) (k:=k) ak
   have hb1:=vA ws (k+1)
   have hb2:bA ws (k+1+1)≤bA ws s.n:=qX (fun v=>by omega) ak
   simp only [FF] at hsz
   refine .block (.ai (.z zm (.zn zg (.draw mix rfl hs fun w hs=>?_))))
   refine .zw 0 rfl zm ?_;refine .z 1 rfl znc ?_;refine .z 2 rfl (zfa dq) ?_;refine .y 3 rfl hs an ?_
   refine .zw 4 rfl (kq (k:=0) rfl rfl ae aj rfl ak) (.load (i:=5) hs rfl aE .none rfl af ?_ (hv:=fa (by rw [List.length_set];omega) sp))
   refine .zw 6 rfl zm ?_;refine .z 7 rfl znc ?_;refine .z 8 rfl (zfa dq) ?_;refine .y 9 rfl hs an ?_;refine .z 10 rfl zm ?_;refine .z 11 rfl cq ?_
   refine .zw 12 rfl (kq (k:=k+1) rfl rfl ae aj ak ak) (.load (i:=13) hs rfl aE .none rfl af ?_ (hv:=fa (by rw [List.length_set];omega) sp))
   refine .zw 14 rfl ib (.zw 15 rfl (kq (k:=0) rfl rfl ae aj rfl ak) (.E 16 hs ?_))
   refine .store hs rfl rfl aj ?_ fh (nL (by rw [List.length_set];omega) sp) (kE (by rw [List.length_set];omega) sp _);intro w hs
   refine .go (.D hs (nB (nT ?_)))
   rw [e,List.set_set] at hs
   exact .mk ⟨rfl,hs⟩
  ·rintro fr w ⟨rfl,hs⟩
   have hI0:xk s.n s.cA (oH ws s.n) (List.replicate s.bY.length 0) (ws.set 0 (-kO ws N)):=by
    rw [←hal,hn]
    rw [hn] at hsz
    refine xk.start hsz (by rw [List.length_set];omega) (fun v hv=>?_) hsnd
    rw [fZ ak]
    cases v with
    |zero=>rw [if_pos rfl,yN]
    |succ v=>rw [if_neg ak,yO]
   refine nT (.seq (.label (nT (.block ?_))))
   refine .loop (fun _:bw×List Int×List Int=>⟨73,[],[(6,Pt bf)]⟩)
    (fun p w=>HLe H1 p.1∧xk s.n s.cA (oH ws s.n) p.2.1 p.2.2∧St p.1 w (.blk bt (Is p.2.1):: .blk bl (Is p.2.2++sp)::σ)) (fun p=>(rem s.n p.2.2).toNat) (H1,List.replicate s.bY.length 0,ws.set 0 (-kO ws N))
    bn ⟨HLe.refl _,hI0,hs⟩ ?_
   rintro ⟨H2,ts,lf⟩ w ⟨hle2,hI,hs⟩
   dsimp only at hle2 hI hs ⊢
   have hlt:=hI.lt
   have hll:=hI.ll
   have hRf2:Row H2 bf [I s.many,.slice al s.bY.length cpl,.slice (some ⟨bt,0,none⟩) ts.length ts.length,.slice (some ⟨bl,0,none⟩) lf.length cl]:=by
    rw [hlt,hal,hll,←hwl];exact hRf.mono hle2
   have hf32:cellAt H2 bf 3=some (.slice (some ⟨bl,0,none⟩) lf.length cl):=hRf2.at 3
   refine .block (.seq (.ai (.z zm (.z znc (.z (zfa dq) (.y hs (zld an) (.z (cU ae) (.zn zm (.for (N:=lf.length) (J:=fun k fr w=>fr=[(53,.slice (some ⟨bl,0,none⟩) lf.length cl),(6,Pt bf)]∧(∀v<k,gi lf v≤0)∧St H2 w (.blk bt (Is ts):: .blk bl (Is lf++sp)::σ)) ak ?_ ?_ ?_)))))))))
   ·exact .mk ⟨rfl,fun v hv=>by omega,hs⟩
   ·rintro k fr w hk ⟨rfl,hle0,hs⟩
    refine .block (.ai (.z zm ?_))
    first|(refine .ixv hs ae aj ?_;intro b58 o58 hc58)|refine .z (zix ae aj) ?_
    refine .q hs (gC rfl af (hv:=fa hk sp)) (.z zg (.zn zg (.seq (.ai (.z zm (.zn uJ (.bO rfl (fun hc61=>?_) (fun hc61=>?_))))))))
    ·refine .exit (xT (xB (nT ?_)))
     exact .mk ⟨rfl,fun v hv=>by
       by_cases e:v=k
       ·subst e;exact hc61
       ·exact hle0 v ak,hs⟩
    ·refine .skip (nT (.ai (.z zm (.z zm ?_))))
     obtain ⟨Ha,hla,hra,hsa,-,hba⟩:=hs.ze
     obtain ⟨Hb,hlb,hrb,hsb,-,hbb⟩:=hsa.ze
     refine .o (.call Tryz.call272 rfl (pE (s:=s) (to:=k) hsb hok ⟨hRf2.mono (hla.trans hlb),hr.mono (hle1.trans (hle2.trans (hla.trans hlb))),hra.mono hlb,hrb⟩ ak ak hI.fe ak ak) ?_);rintro v64 w ⟨Hc,p,en,hlc,hO,hsc,hWR⟩
     have hs:=hba (HLe.refl _) (hbb hlc hsc)
     obtain ⟨ap,lp,cp,rfl,hlp⟩:=hO.shape
     obtain rfl:lp=p.length:=by rw [dj] at hlp;omega
     refine .zn zg (.seq (.ai (.z zm (.z (cU aA) (.zn kd (.bO rfl (fun hc67=>?_) (fun hc67=>?_)))))))
     ·refine .ai (.z zg (.zn zg (.ret (rT (rB (rT (rB (rT (rB (rT (rB (rS (Fin.jG Tryz.results224 rfl rfl ?_)))))))))))))
      rcases hWR with ⟨_,R,hS,hR,hto⟩|⟨hp,_⟩
      ·exact .inl ⟨rfl,hI.open hin hS hR ak hto ak,(hs.le (hle1.trans hle2)).out⟩
      ·exact (hp (List.length_eq_zero_iff.1 ak)).elim
     ·refine .skip (nT (.ai (.z zm (.z zm ?_))))
      obtain ⟨hp,hpl,u,hw⟩:=hWR.resolve_left fun h=>by rw [h.1] at hc67;exact hc67 rfl
      obtain ⟨H3,hle3,hRS,hs⟩:=bS.bU (cs:=p.map Arc.v) hO (fun c hc=>by simp only [List.mem_map] at hc;obtain ⟨x,_,rfl⟩:=hc;rfl) ak (by rw [List.length_map];omega) hs fh
      refine .o (.call Tryz.call273 rfl (oy hs hok (hRf2.mono hle3) (hr.mono (hle1.trans (hle2.trans hle3))) hRS hI hw hp hpl) ?_);rintro v70 w hs
      refine .nil (.exit (xN (xT (xN (xT (xB (nT ?_)))))))
      obtain ⟨q1,q2⟩:=hI.send hnum hw ak
      have q3:0≤rem s.n (zd lf (rR s.cA ts lf p u k) u k):=cI fun v _=>by omega
      exact ⟨(H3,fF s.cA (rR s.cA ts lf p u k) ts p,zd lf (rR s.cA ts lf p u k) u k),bn,⟨hle2.trans hle3,q1,hs⟩,by dsimp only;omega⟩
   ·rintro fr w ⟨rfl,hle0,hs⟩
    refine nT (.ai (.z zm (.z zg (.zn zg (.ret (rB (rT (rB (rS (Fin.jG Tryz.results224 rfl rfl ?_))))))))))
    obtain ⟨H3,l3,r3,hs⟩:=hs.bU .here
    obtain ⟨H4,l4,r4,hs⟩:=hs.bU .here
    exact .inr ⟨H4,bf,bt,bl,cl,ts,lf,_,sp,hle1.trans (hle2.trans (l3.trans l4)),rfl,⟨hRf2.mono (l3.trans l4),hr.mono (hle1.trans (hle2.trans (l3.trans l4))),r3.mono l4,r4⟩,hI.ok hin hwt0 (fun v hv=>hle0 v ak),hs⟩
theorem qx{v:Value}{ws:List Int}(hs:St H w σ)(hr:RI H v ws):Cl Tryz.prog 271 [v] w fun v w'=>∃b,v= .bool b∧(b=true↔iZ ws)∧St H w' σ:=by
 obtain ⟨a,c,rfl⟩:=RI.shape hr
 have hl:=(RI.len hr).2.2
 refine Cl.o Tryz.func271 Tryz.ntmps271 ag1 ?_
 refine .ai (.zn zg (.ai (.zn zg (.seq (.ai (.z zm (.z (cU ae) (.zn zm (.for (N:=ws.length) (J:=fun k fr w=>fr=[(6,.slice a ws.length c),(3,I (3600000000000 - bA ws k))]∧bA ws k≤3600000000000∧St H w σ) ak ?_ ?_ ?_)))))))))
 ·exact .mk ⟨rfl,by simp [bA,aP],hs⟩
 ·rintro k fr w hk ⟨rfl,hle,hs⟩
  have hx:=bB hk
  have h0:0≤bA ws k:=cI fun v _=>by omega
  have h1:bA ws (k+1)=bA ws k+max (gi ws k) (-gi ws k):=rfl
  refine .block (.ai ?_)
  first|(refine .ixv hs ae aj ?_;intro b10 o10 hc10)|refine .z (zix ae aj) ?_
  refine .y hs (zld af) (.zn zg (.seq (.ai (.z zm (.z zm (.z Di (.z iJ (.z zm (.kF (t':=16) rfl (fun hb16=>?_) (fun hb16=>?_))))))))))
  ·refine .Fs 3 4 false (.zn zpT (.cT (.ai (.zn zg (.ret (rT (rB (rT (rB (rT (Fin.bu Tryz.results271 rfl ?_)))))))))))
   exact ⟨false,rfl,⟨fun h=>(by cases h),fun h=>(vC (k:=k+1) hk (by simp only [FF];omega) h).elim⟩,hs⟩
  ·refine .T (.z zm (.T (.z zm (.T (.z pQ (.zn zpF (.bO rfl (fun hc20=>?_) (fun hc20=>?_))))))))
   ·refine .ai (.zn zg (.ret (rT (rB (rT (rB (rT (Fin.bu Tryz.results271 rfl ?_))))))))
    exact ⟨false,rfl,⟨fun h=>(by cases h),fun h=>(vC (k:=k+1) hk (by simp only [FF];omega) h).elim⟩,hs⟩
   ·refine .skip (nT (.region (.z zm (.z zm (.z zm (.z Di (.z Bk (.z ib (.zn zg (nB (nT ?_)))))))))))
    exact .mk ⟨rfl,ak,hs⟩ (hs:= .cons rfl (.cons rfl (.cons rfl (.dy rfl ak (.nil rfl rfl)))))
 ·rintro fr w ⟨rfl,hle,hs⟩
  refine nT (.ai (.zn zg (.ret (Fin.bu Tryz.results271 rfl ?_))))
  exact ⟨true,rfl,⟨fun _=>hle,fun _=>rfl⟩,hs⟩
theorem mh{v vw:Value}{s:ck}{ws:List Int}(hs:St H w σ)(hr:RSy H v s)(hrw:RI H vw ws):Cl Tryz.prog 222 [v,vw] w fun v w'=>v=I (fy s ws)∧St H w' σ:=by
 obtain ⟨vl,rfl,hr⟩:=hr
 obtain ⟨al,cpl,rfl⟩:=RL.shape hr
 obtain ⟨aw,cw,rfl⟩:=RI.shape hrw
 have hlw:=(RI.len hrw).2.2
 have hn:s.check=0→0≤s.many∧s.many≤64∧(s.n:Int)=s.many+1:=fun h=>by
  have h1:=s.db.1 h
  have:=h1.m0
  have:=h1.m1
  simp only [ck.n];omega
 refine Cl.o Tryz.func222 Tryz.ntmps222 ag2 ?_
 refine .ai (.bx hs fun b2 w hs=>?_)
 refine .zn zg (.seq (.ai (.y hs (zls [_,_] aZ aF) (.o (.call Tryz.call197 rfl (ir (s:=s) hs ⟨_,rfl,hr⟩) ?_)))));rintro _ w ⟨rfl,hs⟩
 refine .zn zg (.ai (.z zm (.zn gg (.dO rfl (fun hc9=>?_) (fun hc9=>?_)))))
 ·refine .ai (.z zm (.zn zg (.ret (rT (Fin.bu Tryz.results222 rfl ?_)))))
  exact ⟨by unfold fy;rw [if_pos hc9],hs.tail⟩
 ·refine .skip (nT (.seq (.ai (.z zm ?_))))
  obtain ⟨n0,n1,n2⟩:=hn hc9
  refine .z (cU ae) (.z (zfa bG) (.y hs (zld af) (.z cq (.z gg (.z zm (.Dj (t':=17) rfl (fun hb17=>?_) (fun hb17=>?_)))))))
  ·refine .Fs 3 6 false (.zn zpT (.cT (.ai (.zn zg (.ret (rT (Fin.bu Tryz.results222 rfl ?_)))))))
   exact ⟨by unfold fy;rw [if_neg ak,if_neg ak],hs.tail⟩
  ·refine .T (.z zm (.T (.o (.call Tryz.call271 rfl (qx hs hrw) ?_))));rintro _ w ⟨bz,rfl,hbz,hs⟩
   refine .T (.z gP (.zn zpF (.cond rfl (fun hc21=>?_) (fun hc21=>?_))))
   ·refine .ai (.zn zg (.ret (rT (Fin.bu Tryz.results222 rfl ?_))))
    exact ⟨by unfold fy;rw [if_neg ak,if_neg (fun h=>by rw [hbz.2 h.2] at hc21;cases hc21)],hs.tail⟩
   ·refine .skip (nT (.ai (.zn zg (.ret (Fin.bu Tryz.results222 rfl ?_)))))
    exact ⟨by unfold fy;rw [if_neg ak,if_pos ⟨ak,hbz.1 (by simpa using hc21)⟩],hs.tail⟩
theorem jT{v vw:Value}{s:ck}{ws:List Int}(hs:St H w σ)(hr:RSy H v s)(hrw:RI H vw ws):
  Cl Tryz.prog 179 [v,vw] w fun v w'=>∃H1 e pf,HLe H H1∧v= .tuple #[pf,I e]∧Bf s ws e∧St H1 w' σ∧(e≠0→pf= .pointer none)∧
   (e=0→∃bf bt bl cl ts lf vl sp,pf=Pt bf∧uA H1 bf s ts lf vl bt bl cl sp∧nR s.n s.cA (oH ws s.n) ts∧s.Ok∧bA ws s.n≤FF):=by
 obtain ⟨vl,rfl,hr⟩:=hr
 refine Cl.o Tryz.func179 Tryz.ntmps179 ag2 ?_
 refine .ai (.bx hs fun b2 w hs=>?_)
 refine .z zg (.zn zg (.seq (.ai (.y hs (zls [_,_] aZ aF) (.z zm (.o (.call Tryz.call222 rfl (mh (s:=s) hs ⟨_,rfl,hr⟩ hrw) ?_)))))));rintro _ w ⟨rfl,hs⟩
 refine .zn zg (.ai (.z zm (.zn gg (.dO rfl (fun hc13=>?_) (fun hc13=>?_)))))
 ·refine .ai (.z zm (.z zg (.zn zg (.ret (rT (Fin.jG Tryz.results179 rfl rfl ?_))))))
  exact ⟨H,_,_,HLe.refl _,rfl,.bad hc13,hs.tail,fun _=>rfl,fun h=>(hc13 h).elim⟩
 ·refine .skip (nT (.seq (.ai (.y hs (zls [_,_] aZ aF) ?_))))
  obtain ⟨hok,hwl,hsz⟩:=uv hc13
  refine .o (.call Tryz.call223 rfl (iS (s:=s) hs hok ⟨_,rfl,hr⟩) ?_);rintro _ w ⟨H1,b,hle1,rfl,hb,hs⟩
  refine .zn gP (.cond rfl (fun hc17=>?_) (fun hc17=>?_))
  ·refine .ai (.z zg (.zn zg (.ret (rT (Fin.jG Tryz.results179 rfl rfl ?_)))))
   exact ⟨H1,_,_,hle1,rfl,.clash hc13 (fun h=>by rw [hb.2 h] at hc17;cases hc17),hs.tail,fun _=>rfl,fun h=>by cases h⟩
  ·refine .skip (nT (.ai (.y hs (zls [_,_] aZ aF) (.z zm ?_))))
   have hsnd:s.Sound:=hb.1 (by simpa using hc17)
   refine .o (.call Tryz.call224 rfl (uj (s:=s) hs hok ⟨_,rfl,hr.mono hle1⟩ (hrw.mono hle1) hwl hsz hsnd) ?_);rintro v21 w hcase
   obtain ⟨pf,bb,H2,hle2,rfl,hs,hT,hF⟩:∃pf bb H2,HLe H1 H2∧v21= .tuple #[pf,.bool bb]∧St H2 w (.blk b2 [I s.many,vl]::σ)∧(bb=false→pf= .pointer none∧pK s.cA (oH ws s.n) s.n)∧
     (bb=true→∃bf bt bl cl ts lf vl sp,pf=Pt bf∧uA H2 bf s ts lf vl bt bl cl sp∧nR s.n s.cA (oH ws s.n) ts):=by
    rcases hcase with ⟨rfl,h1,h2⟩|⟨H2,bf,bt,bl,cl,ts,lf,vl,sp,h1,rfl,h2,h3,h4⟩
    ·exact ⟨_,false,H1,HLe.refl _,rfl,h2,fun _=>⟨rfl,h1⟩,fun h=>by cases h⟩
    ·exact ⟨_,true,H2,h1,rfl,h4,fun h=>(by cases h),fun _=>⟨bf,bt,bl,cl,ts,lf,vl,sp,rfl,h2,h3⟩⟩
   refine .z zm (.z zex (.z zex (.z zg (.zn zg (.seq (.ai (.z zm (.zn gP (.cond rfl (fun hc25=>?_) (fun hc25=>?_))))))))))
   ·refine .ai (.z zg (.zn zg (.ret (rT (Fin.jG Tryz.results179 rfl rfl ?_)))))
    exact ⟨H2,_,_,hle1.trans hle2,rfl,.opn hc13 hsnd (hT (by simpa using hc25)).2,hs.tail,fun _=>rfl,fun h=>by cases h⟩
   ·refine .skip (nT (.ai (.z zm (.z zg (.zn zg (.ret (Fin.jG Tryz.results179 rfl rfl ?_)))))))
    obtain ⟨bf,bt,bl,cl,ts,lf,vl,sp,rfl,h2,h3⟩:=hF (by simpa using hc25)
    have hn0:0<s.n:=by simp [ck.n]
    have hn1:s.n≤65:=by have:=hok.m0;have:=hok.m1;simp only [ck.n];omega
    have hsz':bA ws s.n≤FF:=by unfold iZ at hsz;rwa [hwl] at hsz
    exact ⟨H2,_,_,hle1.trans hle2,rfl,.ok hc13 hsnd (h3.value hn0 hn1 hok.cA hsz').2.1,hs.tail,fun h=>(h rfl).elim,fun _=>⟨bf,bt,bl,cl,ts,lf,vl,sp,rfl,h2,h3,hok,hsz'⟩⟩
theorem jz{bf bt bl cl:Nat}{s:ck}{ts lf ws:List Int}{vl:Value}{sp:List Value}(hs:St H w σ)(hok:s.Ok)(hF:uA H bf s ts lf vl bt bl cl sp)(hFo:nR s.n s.cA (oH ws s.n) ts)(hsz:bA ws s.n≤FF):
  Cl Tryz.prog 263 [Pt bf] w fun v w'=>v=I (dot s.cA ts (·.c))∧Bm s.cA (s.wt ws) s.n (dot s.cA ts (·.c))∧dot s.cA ts (·.c)≤BB∧-BB≤dot s.cA ts (·.c)∧St H w' σ:=by
 obtain ⟨hFf,hFl,hFt,hFd⟩:=hF
 obtain ⟨al,cpl,rfl⟩:=RL.shape hFl
 have hlim:=hok.len
 have hal:s.cA.length=s.bY.length:=by simp [ck.cA,dW]
 have hlt:=hFo.lt
 have hn0:0<s.n:=by simp [ck.n]
 have hn1:s.n≤65:=by have:=hok.m0;have:=hok.m1;simp only [ck.n];omega
 have hv:=hFo.value hn0 hn1 hok.cA hsz
 have hd:=CO (es:=s.cA) hlt
 have hf1:cellAt H bf 1=some (.slice al s.bY.length cpl):=hFf.at 1
 have hf2:cellAt H bf 2=some (.slice (some ⟨bt,0,none⟩) ts.length ts.length):=hFf.at 2
 refine Cl.o Tryz.func263 Tryz.ntmps263 ag1 ?_
 refine .ai (.zn zg (.ai (.zn zg (.seq (.ai (.z zm (.z znc (.z (zfa eK) (.z (zfa bF) (.y hs (zld cz) (.z (cU aJ) (.zn zm (.for (N:=s.bY.length) (J:=fun k fr w=>fr=[(10,.slice al s.bY.length cpl),(3,I (IntKind.i64.wrap (A5 s.cA ts k))),(0,Pt bf)]∧St H w σ) ak ?_ ?_ ?_)))))))))))))
 ·exact .mk ⟨rfl,hs⟩ (hs:= .cons rfl (.cons rfl (.cons rfl (.dy rfl (by simp [A5,aP,vP]) (.cons rfl (.nil rfl rfl))))))
 ·rintro k fr w hk ⟨rfl,hs⟩
  obtain ⟨l,hl⟩:=nth hk
  have hg:(ga s.cA k).c=l.M:=by simp [ga,ck.cA,kf hl,Lim.arc]
  have hlm:=hok.lim l (List.mem_of_getElem? hl)
  have hkt:k<ts.length:=by omega
  have htb:=hFo.nn k ak
  have hct:cellAt H bt k=some (I (gi ts k)):=hFt.at k (iT hkt)
  have hmul:gi ts k*l.M≤72000000000000000∧-72000000000000000≤gi ts k*l.M:=by
   simp only [FF] at htb
   have g1:gi ts k*l.M≤gi ts k*20000:=Int.mul_le_mul_of_nonneg_left hlm.2.2.2.1.2 htb.1
   have g2:gi ts k*(-20000)≤gi ts k*l.M:=Int.mul_le_mul_of_nonneg_left hlm.2.2.2.1.1 htb.1
   omega
  refine .block (.ai (.z zm (.ixX hs hFl rfl rfl aJ aU hl rfl ?_)));intro b15 o15 hc15
  refine .q hs (bI (vs:=l.c) rfl eN aU hc15) (.o (.alloc hs dF rfl fun b5 w hs=>?_))
  refine .z zg (.o (.aH (vs:=l.c) hs rfl rfl aU fun w hs=>?_))
  refine .nil (.draw mix rfl hs fun w hs=>?_)
  refine .zw 0 rfl zm ?_;refine .z 1 rfl zm ?_;refine .z 2 rfl znc ?_;refine .z 3 rfl (zfa gI) ?_;refine .y 4 rfl hs an ?_;refine .z 5 rfl zm ?_
  refine .zw 6 rfl (kq (k:=k) rfl rfl ae aj rfl hkt) (.r (i:=7) hs rfl aE .none (aQ rfl af hct) ?_)
  refine .zw 8 rfl (zfa fg) ?_;refine .y 9 rfl hs af ?_;refine .z 10 rfl kM ?_
  refine .zw 11 rfl (DY rfl rfl) (.zw 12 rfl zg ?_);refine .D hs ?_
  refine nB (nT ?_)
  exact .mk ⟨rfl,hs.tail⟩ (hs:= .cons rfl (.cons rfl (.cons rfl (.dy rfl (by rw [zh];simp only [A5,aP,hg]) (.cons rfl (.nil rfl rfl))))))
 ·rintro fr w ⟨rfl,hs⟩
  rw [←hal,←hd,lq (by have:=hv.2.2;simp only [BB] at this;omega)]
  refine nT (.ai (.z zm (.zn zg (.ret (Fin.bu Tryz.results263 rfl ?_)))))
  exact ⟨rfl,hv.1,hv.2.2.1,hv.2.2.2,hs⟩
theorem rE{vw:Value}{ws:List Int}(hs:St H w σ)(hrw:RI H vw ws)(hlw:ws.length≤1000000)(hb:∀k,-9223372036854775807≤gi ws k∧gi ws k≤9223372036854775807):
  Cl Tryz.prog 262 [vw] w fun v w'=>∃H1,HLe H H1∧RI H1 v (uV ws)∧St H1 w' σ:=by
 obtain ⟨aw,cw,rfl⟩:=RI.shape hrw
 refine Cl.o Tryz.func262 Tryz.ntmps262 ag1 ?_
 refine .ai (.zn zg (.ai (.z zm (.z (cU ae) (.o (.xQ ws.length hs rfl rfl ae iX rfl aj bL ak fun b8 w hs=>?_))))))
 refine .zn zg (.seq (.ai (.z zm (.z (cU ae) (.zn zm (.for (N:=ws.length) (J:=fun k fr w=>fr=[(9,.slice aw ws.length cw),(3,.slice (some ⟨b8,0,none⟩) ws.length ws.length)]∧∃L,(L.length=ws.length∧∀v<ws.length,gi L v=if v<k then -gi ws v else 0)∧St H w (.blk b8 (Is L)::σ)) ak ?_ ?_ ?_))))))
 ·exact .mk ⟨rfl,_,⟨bV,fun v hv=>by rw [eA _ _ hv,if_neg ak]⟩,hs⟩
 ·rintro k fr w hk ⟨rfl,L,⟨hL1,hL2⟩,hs⟩
  have hx:=bB hk
  have hbk:=hb k
  refine .block (.ai (.z zm ?_))
  first|(refine .ixv hs ae aj ?_;intro b14 o14 hc14)|refine .z (zix ae aj) ?_
  refine .y hs (zld af) (.z zg (.zn zg (.region (.z zm (.z zm (.z zm (.z Di ?_)))))))
  first|(refine .ixv hs ae aj ?_;intro b20 o20 hc20)|refine .z (zix ae aj) ?_
  refine .o (.store hs rfl rfl aj fun w hs=>?_)
  refine .nil (nB (nT (.mk ⟨rfl,_,⟨by rw [List.length_set];exact hL1,fun v hv=>?_⟩,hs⟩)))
  rw [fZ ak]
  by_cases e:v=k
  ·subst e;rw [if_pos rfl,if_pos ak]
  ·rw [if_neg e,hL2 v hv];congr 1;apply propext;omega
 ·rintro fr w ⟨rfl,L,⟨hL1,hL2⟩,hs⟩
  obtain rfl:L=uV ws:=Ae (by simp [hL1,uV]) (fun k hk=>by rw [hL2 k ak,if_pos ak,z8])
  refine nT (.ai (.z zm (.zn zg (.ret (Fin.bu Tryz.results262 rfl ?_)))))
  obtain ⟨H1,g1,g2,hs⟩:=hs.bU .here
  refine ⟨H1,g1,?_,hs⟩
  rw [←hL1]
  exact Row.RI (spare:=[]) (by simpa using g2) _ (Nat.le_refl _) ak
theorem sI{v vw:Value}{s:ck}{ws:List Int}(hs:St H w σ)(hr:RSy H v s)(hrw:RI H vw ws):
  Cl Tryz.prog 219 [v,vw] w fun v w'=>∃H1 lo hi e,HLe H H1∧v= .tuple #[I lo,I hi,I e]∧fH s ws lo hi e∧St H1 w' σ:=by
 obtain ⟨vl,rfl,hr⟩:=hr
 refine Cl.o Tryz.func219 Tryz.ntmps219 ag2 ?_
 refine .ai (.bx hs fun b2 w hs=>?_)
 refine .z zg (.z zg (.zn zg (.ai (.y hs (zls [_,_] aZ aF) (.z zm (.o (.call Tryz.call179 rfl (jT (s:=s) hs ⟨_,rfl,hr⟩ hrw) ?_)))))));rintro _ w ⟨H1,e,pf,hle1,rfl,hA,hs,hne,heq⟩
 refine .z zm (.z zex (.z zex (.z zg (.zn zg (.seq (.ai (.z zm (.zn gg (.dO rfl (fun hc16=>?_) (fun hc16=>?_))))))))))
 ·refine .ai (.z zm (.z zg (.z zg (.zn zg (.ret (rT (Fin.Ic Tryz.results219 rfl rfl rfl ?_)))))))
  exact ⟨H1,_,_,_,hle1,rfl,.first ⟨hA,fun _=>rfl,fun h=>(hc16 h).elim⟩ hc16,hs.tail⟩
 ·refine .skip (nT (.seq (.draw mix rfl hs fun w hs=>?_)))
  refine .ys 0 rfl hs [_,_] aZ aF ?_;refine .z 1 rfl zm ?_
  refine .E 2 hs ?_
  subst hc16
  obtain ⟨bf,bt,bl,cl,ts,lf,vl',sp,rfl,hF,hFo,hok,hsz⟩:=heq rfl
  have hwl:=(uv hA.zero.1).2.1
  have hbw:∀k,-9223372036854775807≤gi ws k∧gi ws k≤9223372036854775807:=fun k=>by
   simp only [FF] at hsz
   by_cases hk:k<s.n
   ·have:=l5 ws hk;omega
   ·have:gi ws k=0:=by simp [gi,List.getElem?_eq_none (show ws.length≤k by omega)]
    omega
  refine .call Tryz.call262 rfl (rE hs (hrw.mono hle1) (by have:=hok.m1;simp only [ck.n] at hwl;omega) hbw) ?_;rintro v21 w ⟨H2,hle2,hr21,hs⟩
  refine .go (.E 3 hs ?_)
  refine .call Tryz.call179 rfl (jT (s:=s) hs ⟨_,rfl,hr.mono (hle1.trans hle2)⟩ hr21) ?_;rintro _ w ⟨H3,e2,pg,hle3,rfl,hA2,hs,hne2,heq2⟩
  refine .go (.zw 4 rfl zm ?_);refine .z 5 rfl zex ?_;refine .z 6 rfl zex ?_;refine .z 7 rfl zg ?_;refine .z 8 rfl zg ?_;refine .D hs ?_
  refine .seq (.ai (.z zm (.zn gg (.dO rfl (fun hc26=>?_) (fun hc26=>?_)))))
  ·refine .ai (.z zm (.z zg (.z zg (.zn zg (.ret (rT (Fin.Ic Tryz.results219 rfl rfl rfl ?_)))))))
   obtain ⟨q1,q2,q3,q4⟩:=hFo.value (by simp [ck.n]) (by have:=hok.m0;have:=hok.m1;simp only [ck.n];omega) hok.cA hsz
   exact ⟨H3,_,_,_,hle1.trans (hle2.trans hle3),rfl,.second ⟨hA,fun h=>(h rfl).elim,fun _=>⟨q1,q3,q4⟩⟩ ⟨hA2,fun _=>rfl,fun h=>(hc26 h).elim⟩ hc26,hs.tail⟩
  ·refine .skip (nT (.ai (.z zm ?_)))
   subst hc26
   obtain ⟨bf2,bt2,bl2,cl2,ts2,lf2,vl2,sp2,rfl,hF2,hFo2,hok2,hsz2⟩:=heq2 rfl
   refine .o (.call Tryz.call263 rfl (jz hs hok hF2 hFo2 hsz2) ?_);rintro _ w ⟨rfl,a1,a2,a3,hs⟩
   simp only [BB] at a2 a3
   refine .z Di (.z zm (.o (.call Tryz.call263 rfl (jz hs hok (hF.mono (hle2.trans hle3)) hFo hsz) ?_)));rintro _ w ⟨rfl,c1,c2,c3,hs⟩
   refine .z zg (.z zg (.zn zg (.ret (Fin.Ic Tryz.results219 rfl rfl rfl ?_))))
   exact ⟨H3,_,_,_,hle1.trans (hle2.trans hle3),rfl,.ok ⟨hA,fun h=>(h rfl).elim,fun _=>⟨c1,c2,c3⟩⟩ ⟨hA2,fun h=>(h rfl).elim,fun _=>⟨a1,by simp only [BB];omega,by simp only [BB];omega⟩⟩,hs.tail⟩
theorem nJ{bf bt bl cl:Nat}{s:ck}{ts lf ws:List Int}{vl:Value}{sp:List Value}(hs:St H w σ)(hok:s.Ok)(hF:uA H bf s ts lf vl bt bl cl sp)(hFo:nR s.n s.cA (oH ws s.n) ts)(hsz:bA ws s.n≤FF):
  Cl Tryz.prog 180 [Pt bf] w fun v w'=>∃H1 xs,HLe H H1∧RI H1 v xs∧yE s ws xs∧St H1 w' σ:=by
 obtain ⟨N,hN⟩:=Int.eq_ofNat_of_zero_le hok.m0
 have hN1:=hok.m1
 have hn:s.n=N+1:=by simp [ck.n,hN]
 have hlt:=hFo.lt
 have hal:s.cA.length=s.bY.length:=by simp [ck.cA,dW]
 have hlim:=hok.len
 have hf0:cellAt H bf 0=some (I (N:Int)):=by have:=hF.f.at 0 (v:=I s.many);rwa [hN] at this
 have hoka:=AO hok.cA hlt.symm ak
 rw [hn] at hoka
 refine Cl.o Tryz.func180 Tryz.ntmps180 ag1 ?_
 refine .ai (.zn zg (.seq (.draw mix rfl hs fun w hs=>?_)))
 refine .zw 0 rfl zm ?_;refine .z 1 rfl znc ?_;refine .z 2 rfl (zfa eK) ?_;refine .z 3 rfl (zfa bG) ?_;refine .y 4 rfl hs af ?_;refine .z 5 rfl zm ?_
 refine .E 6 hs ?_
 refine .call Tryz.call226 rfl (jZ hs hok hF ak) ?_;rintro _ w ⟨H1,b15,hle1,rfl,hit,hs⟩
 refine .go (.E 7 hs ?_)
 refine .call Tryz.call225 rfl (iR hs ak hoka hit Tryz.call274) ?_;rintro _ w ⟨H2,bc,bb,st,ov,vo,hle2,rfl,hov,⟨r,hNI,hr⟩,hs⟩
 have hovn:ov=none:=by
  cases ov with
  |none=>rfl
  |some x=>exact (hNI.none hoka ak (by have:=hr bV;omega) hFo.fe).elim
 subst hovn
 obtain ⟨hfe,hbd⟩:=hNI.sol hoka ak
 have hlc:=hNI.lc
 have hb0:=hbd 0 ak
 refine .go (.zw 8 rfl zm ?_);refine .z 9 rfl zex ?_;refine .z 10 rfl zex ?_;refine .z 11 rfl zex ?_;refine .z 12 rfl zg ?_;refine .z 13 rfl zg ?_;refine .z 14 rfl zg ?_;refine .D hs ?_
 refine .ai (.z zm (.q hs (kq (k:=0) rfl rfl ae aj rfl ak) (.y hs (zld af) (.zn zg (.seq (.ai (.z zm (.z (cU ae) (.zn zm (.for (N:=N+1) (J:=fun k fr w=>fr=[(3,.slice (some ⟨bc,0,none⟩) (N+1) (N+1)),(6,I (gi st.cost 0))]∧∃L,(L.length=N+1∧∀v<N+1,gi L v=if v<k then gi st.cost v - gi st.cost 0 else gi st.cost v)∧St H2 w (.blk bc (Is L)::σ)) ak ?_ ?_ ?_))))))))))
 ·exact .mk ⟨rfl,st.cost,⟨hlc,fun v hv=>by rw [if_neg ak]⟩,hs.sb⟩
 ·rintro k fr w hk ⟨rfl,L,⟨hL1,hL2⟩,hs⟩
  have hLk:=hL2 k hk
  rw [if_neg ak] at hLk
  have hbk:=hbd k hk
  refine .block (.ai (.z zm (.zn zg (.region (.z zm (.z zm ?_))))))
  first|(refine .ixv hs ae aj ?_;intro b30 o30 hc30)|refine .z (zix ae aj) ?_
  refine .y hs (zld af) (.z zm (.z ib ?_))
  first|(refine .ixv hs ae aj ?_;intro b34 o34 hc34)|refine .z (zix ae aj) ?_
  refine .o (.store hs rfl rfl aj fun w hs=>?_)
  refine .nil (nB (nT (.mk ⟨rfl,_,⟨by rw [List.length_set];exact hL1,fun v hv=>?_⟩,hs⟩)))
  rw [fZ ak]
  by_cases e:v=k
  ·subst e;rw [if_pos rfl,if_pos ak,hLk]
  ·rw [if_neg e,hL2 v hv];congr 1;apply propext;omega
 ·rintro fr w ⟨rfl,L,⟨hL1,hL2⟩,hs⟩
  refine nT (.ai (.z zm (.zn zg (.ret (Fin.bu Tryz.results180 rfl ?_)))))
  obtain ⟨H3,g1,g2,hs⟩:=hs.bU .here
  have hg:∀v<N+1,gi L v=gi st.cost v - gi st.cost 0:=fun v hv=>by rw [hL2 v hv,if_pos hv]
  obtain ⟨p1,p2⟩:=hFo.Io ak hok.cA hfe
  refine ⟨H3,L,hle1.trans (hle2.trans g1),?_,⟨ak,by rw [hg 0 ak];omega,fun v hv=>?_,fun x hx=>?_,?_⟩,hs⟩
  ·have:=Row.RI (spare:=[]) (by simpa using g2) (N+1) ak ak
   rwa [hL1] at this
  ·have:=hbd v ak
   rw [hg v ak];omega
  ·have h1:=hok.cA.2 x hx
   have h2:=p2 x hx
   rw [hg _ ak,hg _ ak];omega
  ·have h1:=hFo.value ak ak hok.cA hsz
   rw [←p1] at h1
   have e:aP (fun v=>gi ws v*gi L v) s.n=aP (fun v=>gi ws v*(gi st.cost v - gi st.cost 0)) s.n:=bq fun v hv=>by rw [hg v ak]
   rw [e];exact h1.1
theorem uo{v vw:Value}{s:ck}{ws:List Int}(hs:St H w σ)(hr:RSy H v s)(hrw:RI H vw ws):
  Cl Tryz.prog 126 [v,vw] w fun v w'=>∃H1 vx xs e,HLe H H1∧v= .tuple #[vx,I e]∧Bf s ws e∧RI H1 vx xs∧(e≠0→xs=[])∧(e=0→yE s ws xs)∧St H1 w' σ:=by
 obtain ⟨vl,rfl,hr⟩:=hr
 refine Cl.o Tryz.func126 Tryz.ntmps126 ag2 ?_
 refine .ai (.bx hs fun b2 w hs=>?_)
 refine .z zg (.zn zg (.ai (.y hs (zls [_,_] aZ aF) (.z zm (.o (.call Tryz.call179 rfl (jT (s:=s) hs ⟨_,rfl,hr⟩ hrw) ?_))))));rintro _ w ⟨H1,e,pf,hle1,rfl,hA,hs,hne,heq⟩
 refine .z zm (.z zex (.z zex (.z zg (.zn zg (.seq (.ai (.z zm (.zn gg (.dO rfl (fun hc15=>?_) (fun hc15=>?_))))))))))
 ·refine .ai (.z zm (.z zg (.zn zg (.ret (rT (Fin.jG Tryz.results126 rfl rfl ?_))))))
  exact ⟨H1,_,[],_,hle1,rfl,hA,RS.nil H1 1 none 0,fun _=>rfl,fun h=>(hc15 h).elim,hs.tail⟩
 ·refine .skip (nT (.ai (.z zm ?_)))
  subst hc15
  obtain ⟨bf,bt,bl,cl,ts,lf,vl,sp,rfl,hF,hFo,hok,hsz⟩:=heq rfl
  refine .o (.call Tryz.call180 rfl (nJ hs hok hF hFo hsz) ?_);rintro v18 w ⟨H2,xs,hle2,hx,hB,hs⟩
  refine .z zg (.zn zg (.ret (Fin.jG Tryz.results126 rfl rfl ?_)))
  exact ⟨H2,_,xs,_,hle1.trans hle2,rfl,hA,hx,fun h=>(h rfl).elim,fun _=>hB,hs.tail⟩
theorem DP{n m:Int}(hm:0<m):(n.tmod m+m).tmod m=n%m:=by
 have h2:=Int.lt_tmod_of_pos n hm
 rw [Int.tmod_eq_emod_of_nonneg ak,Int.tmod_def,show n - m*n.tdiv m+m=n+m*(1 - n.tdiv m) by rw [Int.mul_sub];omega,Int.add_mul_emod_self_left]
theorem tM{v:Value}{l:List Int}{i n:Int}(hs:St H w σ)(hr:RI H v l)(hi:0≤i)(hn:n≤4611686018427387904):Cl Tryz.prog 209 [v,I i,I n] w fun v w'=>v=I (p9 l i n)∧St H w' σ:=by
 obtain ⟨a,c,rfl⟩:=RI.shape hr
 have hlen:=(RI.len hr).2.2
 refine Cl.o Tryz.func209 Tryz.ntmps209 ag3 ?_
 refine .ai (.zn zg (.seq (.ai (.z zm (.z (cU ae) (.z kd (.z zm (.kF (t':=10) rfl (fun hb10=>?_) (fun hb10=>?_)))))))))
 ·refine .Fs 2 3 false (.zn zpT (.cT (.ai (.zn zg (.ret (rT (Fin.bu Tryz.results209 rfl ?_)))))))
  exact ⟨by rw [show p9 l i n=0 by unfold p9;rw [if_pos (.inl (List.length_eq_zero_iff.1 ak))]],hs⟩
 ·refine .T (.z zm (.T (.z iJ (.zn zpF (.bO rfl (fun hc13=>?_) (fun hc13=>?_))))))
  ·refine .ai (.zn zg (.ret (rT (Fin.bu Tryz.results209 rfl ?_))))
   exact ⟨by rw [show p9 l i n=0 by unfold p9;rw [if_pos (.inr ak)]],hs⟩
  ·refine .skip (nT (.ai (.z zm (.z zm (.z zm (.z (cU ae) ?_))))))
   have hl0:0<l.length:=by omega
   have h1:=Int.tmod_nonneg (a:=i) (l.length:Int) hi
   have h2:=Int.tmod_lt_of_pos i (b:=(l.length:Int)) ak
   have hx:=bB (l:=l) (i:=(i.tmod (l.length:Int)).toNat) ak
   have h3:=Int.tmod_lt_of_pos (gi l (i.tmod (l.length:Int)).toNat) (b:=n) ak
   have h4:=Int.lt_tmod_of_pos (gi l (i.tmod (l.length:Int)).toNat) (b:=n) ak
   have e:=DP (n:=gi l (i.tmod (l.length:Int)).toNat) (m:=n) ak
   refine .z Az (.ixY hs hr rfl rfl ae aj hx ak ?_);intro b19 o19 hc19
   refine .q hs (aQ rfl af hc19) (.z zm (.z Az (.z zm (.z cq (.z zm (.z Az (.zn zg (.ret (Fin.bu Tryz.results209 rfl ?_)))))))))
   exact ⟨by unfold p9;rw [if_neg (fun h=>h.elim (fun h=>by rw [h] at hl0;exact Nat.lt_irrefl _ hl0) (fun h=>by omega)),←e],hs⟩
def wg(i j:Nat):Int:=if i=j then 0 else free
theorem Fx{n:Nat}(es:List Arc){T:Nat→Nat→Int}(h:∀i j,i<n→j<n→T i j=wg i j):Gw n es 0 T:=
 ⟨fun i hi=>by rw [h i i hi hi];simp [wg],fun _ _ h=>by omega,fun i j hi hj hij=> .inl (by rw [h i j hi hj];simp [wg,hij])⟩
set_option maxHeartbeats 4000000 in
theorem tK{v:Value}{s:ck}(hs:St H w σ)(hr:RSy H v s)(hok:s.Ok):
  Cl Tryz.prog 207 [v] w fun u w'=>∃H1 rs,HLe H H1∧RT H1 u rs∧Sq s.n rs∧kH s.n s.cA (gt rs)∧St H1 w' σ:=by
 obtain ⟨ul,rfl,hl⟩:=hr
 obtain ⟨al,cl,rfl⟩:=RL.shape hl
 have hm0:=hok.m0
 have hm1:=hok.m1
 have hlen:=hok.len
 have hnp:=s.Cf
 have hn65:=hok.n65
 have hinn:=hok.inn
 have hmn:s.many+1=(s.n:Int):=by simp only [ck.n];omega
 generalize hn:s.n=n at hnp hn65 hinn hmn ⊢
 refine Cl.o Tryz.func207 Tryz.ntmps207 ag1 ?_
 refine .ai (.bx hs fun b1 w hs=>?_)
 refine .zn zg (.ai (.z (zfa bG) ?_))
 first|refine .q hs (gC rfl af (hm:=by repeat (first|exact .here|assumption|exact Mem.row ak ak|refine .there ?_|refine Mem.uw ?_)) (hv:=by first|rfl|exact fb ak|exact lB eb ak ak|exact iT lx)) ?_|refine .q hs (aQ rfl af eb) ?_
 refine .z cq ?_
 rw [hmn]
 refine .zn zg (.ai (.z zm (.o (.Hp n hs rfl rfl az Tryz.typeInfo34 rfl au dz ak fun b16 w hs=>?_))))
 refine .zn zg (.seq (.ai (.z zm (.z (cU az) (.zn zm (.for (N:=n) (J:=fun k fr w=>fr=[(3,I (n:Int)),(4,.slice (some ⟨b16,0,none⟩) n n),(1,Pt b1)]∧∃bs:List Nat,bs.length=k∧St H w (.blk b16 (bs.map (ptr n)++List.replicate (n - k) (.slice none 0 0))::(lj bs (Bl wg n k)++(.blk b1 [I s.many,.slice al s.bY.length cl]::σ)))) ak ?_ ?_ ?_))))))
 ·exact .mk ⟨rfl,[],rfl,hs⟩
 ·rintro k fr w hk ⟨rfl,bs,hbl,hs⟩
  refine .block (.ai (.z zm (.zn zg (.ai (.z zm (.z zm (.z zm (.o (.xQ n hs rfl rfl ae iX rfl aj bL ak fun b25 w hs=>?_)))))))))
  first|(refine .ixw hs az au ?_;intro b26 o26 hc26)|refine .z (zix az au) ?_
  refine .o (.store hs rfl rfl au ?_ fh (by simp [hbl];omega) (F0 hbl hk));intro w hs
  refine .nil (.ai (.z zm (.z zm ?_)))
  first|(refine .ixw hs az au ?_;intro b29 o29 hc29)|refine .z (zix az au) ?_
  refine .q hs (gC rfl an (hv:=zO hbl)) (.z (cU ae) (.zn zm (.for (N:=n) (J:=fun j fr w=>fr=[(5,I (k:Int)),(19,I (k:Int)),(18,I (n:Int)),(3,I (n:Int)),(4,.slice (some ⟨b16,0,none⟩) n n),(1,Pt b1)]∧St H w (.blk b25 (Is ((List.range n).map fun c=>if c<j∧k≠c then free else 0)):: .blk b16 ((bs++[b25]).map (ptr n)++List.replicate (n - (k+1)) (.slice none 0 0))::(lj bs (Bl wg n k)++(.blk b1 [I s.many,.slice al s.bY.length cl]::σ)))) ak ?_ ?_ ?_)))
  ·rw [yY (fun c=>if c<0∧k≠c then free else 0) n 0 (fun j _=>by simp)] at hs
   exact .mk ⟨rfl,hs⟩
  ·rintro j fr w hj ⟨rfl,hs⟩
   refine .block (.ai (.z zm (.zn zg (.ai (.z zm (.z zm (.zn gg (.dO rfl (fun hc37=>?_) (fun hc37=>?_)))))))))
   ·refine .region (.z zm (.z zm ?_))
    first|(refine .ixw hs az au ?_;intro b40 o40 hc40)|refine .z (zix az au) ?_
    refine .q hs (gC rfl an (hv:=zO hbl)) (.z zm ?_)
    first|(refine .ixv hs ae aj ?_;intro b43 o43 hc43)|refine .z (zix ae aj) ?_
    refine .o (.store hs rfl rfl aj ?_ fh (Am (by simp;omega)) (yC _ _ _));intro w hs
    refine .nil (nB (nT ?_))
    rw [BU _ (fun c=>if c<j+1∧k≠c then free else 0) hj 1000000000 (fun c _=>by
     by_cases e:c=j
     ·subst e;rw [if_pos rfl,if_pos ⟨ak,ak⟩]
     ·rw [if_neg e];congr 1;apply propext;omega)] at hs
    exact .mk ⟨rfl,hs⟩
   ·refine .skip (nB (nT ?_))
    rw [tN (g:=fun c=>if c<j+1∧k≠c then free else 0) (fun c _=>by
     by_cases e:c=j
     ·subst e;rw [if_neg ak,if_neg ak]
     ·congr 1;apply propext;omega)] at hs
    exact .mk ⟨rfl,hs⟩
  ·rintro fr w ⟨rfl,hs⟩
   rw [tN (g:=wg k) (fun c hc=>by
    unfold wg
    by_cases e:k=c
    ·rw [if_neg ak,if_pos e]
    ·rw [if_pos ⟨hc,e⟩,if_neg e])] at hs
   replace hs:=hs.Ib (by rw [hbl,yS])
   rw [←BD] at hs
   refine nB (nT ?_)
   exact .mk ⟨rfl,bs++[b25],by simp [hbl],hs⟩
 ·rintro fr w ⟨rfl,bs,hbl,hs⟩
  rw [Nat.sub_self,List.replicate_zero,List.append_nil] at hs
  refine nT (.seq (.ai (.z (zfa bF) ?_)))
  first|refine .q hs (gC rfl cz (hm:=by repeat (first|exact .here|assumption|exact Mem.row ak ak|refine .there ?_|refine Mem.uw ?_)) (hv:=by first|rfl|exact fb ak|exact lB eb ak ak|exact iT lx)) ?_|refine .q hs (aQ rfl cz eb) ?_
  refine .z (cU aJ) (.zn zm (.for (N:=s.bY.length) (J:=fun k fr w=>fr=[(47,.slice al s.bY.length cl),(4,.slice (some ⟨b16,0,none⟩) n n)]∧∃rs,Sq n rs∧Gw n s.cA k (gt rs)∧St H w (.blk b16 (bs.map (ptr n))::(lj bs rs++(.blk b1 [I s.many,.slice al s.bY.length cl]::σ)))) ak ?_ ?_ ?_))
  ·exact .mk ⟨rfl,_,FG wg n,Fx s.cA (fun i j hi hj=>FH wg hi hj),hs⟩
  ·rintro k fr w hk ⟨rfl,rs,hq,hB,hs⟩
   obtain ⟨x,hx⟩:=nth (l:=s.bY) hk
   have hrl:=hq.1
   obtain ⟨⟨xa0,xa1⟩,⟨xb0,xb1⟩,xne,xM,-⟩:=hok.lim x (List.mem_of_getElem? hx)
   have ha:x.A.toNat<n:=by omega
   have hb:x.B.toNat<n:=by omega
   have hga:=kf hx
   refine .block (.ai (.ixX (enc:=Lim.c) hs hl rfl rfl aJ aU hx rfl ?_));intro b51 o51 hc51
   refine .q hs (bI (vs:=x.c) rfl eN aU hc51) (.o (.alloc hs dF rfl fun b8 w hs=>?_))
   refine .o (.aH (vs:=x.c) hs rfl rfl aU fun w hs=>?_)
   refine .nil (.draw mix rfl hs fun w hs=>?_)
   refine .zw 0 rfl zm ?_;refine .z 1 rfl (zfa dI) ?_
   first|refine .load (i:=2) hs rfl aE .none rfl af ?_ (by repeat (first|exact .here|assumption|exact Mem.row ak ak|refine .there ?_|refine Mem.uw ?_)) (by first|rfl|exact fb ak|exact lB eb ak ak|exact iT lx)|refine .r (i:=2) hs rfl aE .none (aQ rfl af eb) ?_
   refine .zw 3 rfl (kq (k:=x.A.toNat) rfl rfl az au ak ha) ?_
   first|refine .load (i:=4) hs rfl aE .none rfl an ?_ (by repeat (first|exact .here|assumption|exact Mem.row ak ak|refine .there ?_|refine Mem.uw ?_)) (by first|rfl|exact fb ak|exact lB eb ak ak|exact iT lx)|refine .r (i:=4) hs rfl aE .none (aQ rfl an eb) ?_
   refine .zw 5 rfl (zfa dT) ?_
   first|refine .load (i:=6) hs rfl aE .none rfl af ?_ (by repeat (first|exact .here|assumption|exact Mem.row ak ak|refine .there ?_|refine Mem.uw ?_)) (by first|rfl|exact fb ak|exact lB eb ak ak|exact iT lx)|refine .r (i:=6) hs rfl aE .none (aQ rfl af eb) ?_
   refine .zw 7 rfl zm ?_;refine .z 8 rfl (zfa dI) ?_
   first|refine .load (i:=9) hs rfl aE .none rfl af ?_ (by repeat (first|exact .here|assumption|exact Mem.row ak ak|refine .there ?_|refine Mem.uw ?_)) (by first|rfl|exact fb ak|exact lB eb ak ak|exact iT lx)|refine .r (i:=9) hs rfl aE .none (aQ rfl af eb) ?_
   refine .zw 10 rfl (kq (k:=x.A.toNat) rfl rfl az au ak ha) ?_
   first|refine .load (i:=11) hs rfl aE .none rfl an ?_ (by repeat (first|exact .here|assumption|exact Mem.row ak ak|refine .there ?_|refine Mem.uw ?_)) (by first|rfl|exact fb ak|exact lB eb ak ak|exact iT lx)|refine .r (i:=11) hs rfl aE .none (aQ rfl an eb) ?_
   refine .zw 12 rfl (zfa dT) ?_
   first|refine .load (i:=13) hs rfl aE .none rfl af ?_ (by repeat (first|exact .here|assumption|exact Mem.row ak ak|refine .there ?_|refine Mem.uw ?_)) (by first|rfl|exact fb ak|exact lB eb ak ak|exact iT lx)|refine .r (i:=13) hs rfl aE .none (aQ rfl af eb) ?_
   refine .zw 14 rfl (kq (k:=x.B.toNat) rfl rfl ae aj ak hb) ?_
   first|refine .load (i:=15) hs rfl aE .none rfl af ?_ (by repeat (first|exact .here|assumption|exact Mem.row ak ak|refine .there ?_|refine Mem.uw ?_)) (by first|rfl|exact fb ak|exact lB eb ak ak|exact iT lx)|refine .r (i:=15) hs rfl aE .none (aQ rfl af eb) ?_
   refine .zw 16 rfl (zfa fg) ?_
   first|refine .load (i:=17) hs rfl aE .none rfl af ?_ (by repeat (first|exact .here|assumption|exact Mem.row ak ak|refine .there ?_|refine Mem.uw ?_)) (by first|rfl|exact fb ak|exact lB eb ak ak|exact iT lx)|refine .r (i:=17) hs rfl aE .none (aQ rfl af eb) ?_
   refine .zw 18 rfl Bj (.zw 19 rfl (kq (k:=x.B.toNat) rfl rfl ae aj ak hb) (.ET 20 hs ?_))
   refine .store hs rfl rfl aj ?_ (.there (.there (Upd.row _ ak ak))) (Am (by rw [hq.2 _ ha];exact hb)) (yC _ _ _);intro w hs
   refine .go (.DT hs (nB (nT ?_)))
   exact .mk ⟨rfl,_,hq.set ha _,by rw [Fh hq ha hb];exact hB.step hinn hga,hs.tail⟩
  ·rintro fr w ⟨rfl,rs,hq,hB,hs⟩
   rw [←dW] at hB
   have hI:=hB.go hinn hnp
   have hcb:∀x∈s.cA,-20000≤x.c∧x.c≤20000:=fun x hx=>by have:=hinn x hx;omega
   refine nT (.seq (.ai (.z zm (.z (cU az) (.zn zm (.for (N:=n) (J:=fun m fr w=>fr=[(4,.slice (some ⟨b16,0,none⟩) n n)]∧∃rs,Sq n rs∧(m<n→xn n s.cA m (fun _ _=>False) (gt rs))∧(m=n→kH n s.cA (gt rs))∧St H w (.blk b16 (bs.map (ptr n))::(lj bs rs++(.blk b1 [I s.many,.slice al s.bY.length cl]::σ)))) ak ?_ ?_ ?_))))))
   ·exact .mk ⟨rfl,rs,hq,fun _=>hI,fun e=>by omega,hs⟩
   ·clear hI hB hq
    rintro m fr w hm ⟨rfl,rs,hq,hI,-,hs⟩
    replace hI:=hI hm
    refine .block (.ai (.z zm (.zn zg (.ai (.z zm (.z (cU az) (.zn zm (.for (N:=n) (J:=fun i fr w=>fr=[(9,I (m:Int)),(76,I (m:Int)),(75,I (n:Int)),(4,.slice (some ⟨b16,0,none⟩) n n)]∧∃rs,Sq n rs∧xn n s.cA m (fun a _=>a<i) (gt rs)∧St H w (.blk b16 (bs.map (ptr n))::(lj bs rs++(.blk b1 [I s.many,.slice al s.bY.length cl]::σ)))) ak ?_ ?_ ?_))))))))
    ·exact .mk ⟨rfl,rs,hq,hI.skip hcb hm (P:=fun _ _=>False) (fun i j h=>by omega) (fun _ _ _ _ h=>h.elim),hs⟩
    ·clear hI hq
     rintro i fr w hi ⟨rfl,rs,hq,hI,hs⟩
     refine .block (.ai (.z zm (.zn zg (.ai (.z zm (.z (cU az) (.zn zm (.for (N:=n) (J:=fun k fr w=>fr=[(10,I (i:Int)),(81,I (i:Int)),(80,I (n:Int)),(9,I (m:Int)),(76,I (m:Int)),(75,I (n:Int)),(4,.slice (some ⟨b16,0,none⟩) n n)]∧∃rs,Sq n rs∧xn n s.cA m (fun a b=>a<i∨(a=i∧b<k)) (gt rs)∧St H w (.blk b16 (bs.map (ptr n))::(lj bs rs++(.blk b1 [I s.many,.slice al s.bY.length cl]::σ)))) ak ?_ ?_ ?_))))))))
     ·exact .mk ⟨rfl,rs,hq,hI.skip hcb hm (P:=fun _ _=>False) (fun a b h=>by omega) (fun _ _ _ _ h=>h.elim),hs⟩
     ·clear hI hq
      rintro k fr w hk ⟨rfl,rs,hq,hI,hs⟩
      have hrl:=hq.1
      have c1:=hI.cl i m hi hm;have c2:=hI.cl m k hm hk
      have u1:=hI.up i m hi hm;have u2:=hI.up m k hm hk
      refine .block (.ai (.z zm (.zn zg (.ai (.z zm (.z zm ?_))))))
      first|(refine .ixw hs az au ?_;intro b91 o91 hc91)|refine .z (zix az au) ?_
      first|refine .q hs (gC rfl an (hm:=by repeat (first|exact .here|assumption|exact Mem.row ak ak|refine .there ?_|refine Mem.uw ?_)) (hv:=by first|rfl|exact fb ak|exact lB eb ak ak|exact iT lx)) ?_|refine .q hs (aQ rfl an eb) ?_
      refine .z zm ?_
      first|(refine .ixv hs ae aj ?_;intro b94 o94 hc94)|refine .z (zix ae aj) ?_
      first|refine .q hs (gC rfl af (hm:=by repeat (first|exact .here|assumption|exact Mem.row ak ak|refine .there ?_|refine Mem.uw ?_)) (hv:=by first|rfl|exact fb ak|exact lB eb ak ak|exact iT lx)) ?_|refine .q hs (aQ rfl af eb) ?_
      refine .z gg (.z zm (.Dj (t':=97) rfl (fun hb97=>?_) (fun hb97=>?_)))
      ·refine .T (.z zm (.T (.z zm (.T ?_))))
       first|(refine .ixw hs az au ?_;intro b100 o100 hc100)|refine .z (zix az au) ?_
       refine .T ?_
       first|refine .q hs (gC rfl an (hm:=by repeat (first|exact .here|assumption|exact Mem.row ak ak|refine .there ?_|refine Mem.uw ?_)) (hv:=by first|rfl|exact fb ak|exact lB eb ak ak|exact iT lx)) ?_|refine .q hs (aQ rfl an eb) ?_
       refine .T (.z zm (.T ?_))
       first|(refine .ixv hs ae aj ?_;intro b103 o103 hc103)|refine .z (zix ae aj) ?_
       refine .T ?_
       first|refine .q hs (gC rfl af (hm:=by repeat (first|exact .here|assumption|exact Mem.row ak ak|refine .there ?_|refine Mem.uw ?_)) (hv:=by first|rfl|exact fb ak|exact lB eb ak ak|exact iT lx)) ?_|refine .q hs (aQ rfl af eb) ?_
       refine .T (.z gg (.zn zpT (.dO rfl (fun hc106=>?_) (fun hc106=>?_))))
       ·refine .draw mix rfl hs fun w hs=>?_
        replace u1:=u1 hb97;replace u2:=u2 hc106
        refine .zw 0 rfl zm ?_;refine .z 1 rfl zm ?_
        first|(refine .ixw 2 rfl hs az au ?_;intro b109 o109 hc109)|refine .z 2 rfl (zix az au) ?_
        first|refine .load (i:=3) hs rfl aE .none rfl an ?_ (by repeat (first|exact .here|assumption|exact Mem.row ak ak|refine .there ?_|refine Mem.uw ?_)) (by first|rfl|exact fb ak|exact lB eb ak ak|exact iT lx)|refine .r (i:=3) hs rfl aE .none (aQ rfl an eb) ?_
        refine .zw 4 rfl zm ?_;refine .z 5 rfl zm ?_;refine .z 6 rfl zm ?_
        first|(refine .ixw 7 rfl hs az au ?_;intro b114 o114 hc114)|refine .z 7 rfl (zix az au) ?_
        first|refine .load (i:=8) hs rfl aE .none rfl an ?_ (by repeat (first|exact .here|assumption|exact Mem.row ak ak|refine .there ?_|refine Mem.uw ?_)) (by first|rfl|exact fb ak|exact lB eb ak ak|exact iT lx)|refine .r (i:=8) hs rfl aE .none (aQ rfl an eb) ?_
        refine .zw 9 rfl zm ?_
        first|(refine .ixv 10 rfl hs ae aj ?_;intro b117 o117 hc117)|refine .z 10 rfl (zix ae aj) ?_
        first|refine .load (i:=11) hs rfl aE .none rfl af ?_ (by repeat (first|exact .here|assumption|exact Mem.row ak ak|refine .there ?_|refine Mem.uw ?_)) (by first|rfl|exact fb ak|exact lB eb ak ak|exact iT lx)|refine .r (i:=11) hs rfl aE .none (aQ rfl af eb) ?_
        refine .zw 12 rfl zm ?_;refine .z 13 rfl zm ?_
        first|(refine .ixw 14 rfl hs az au ?_;intro b121 o121 hc121)|refine .z 14 rfl (zix az au) ?_
        first|refine .load (i:=15) hs rfl aE .none rfl an ?_ (by repeat (first|exact .here|assumption|exact Mem.row ak ak|refine .there ?_|refine Mem.uw ?_)) (by first|rfl|exact fb ak|exact lB eb ak ak|exact iT lx)|refine .r (i:=15) hs rfl aE .none (aQ rfl an eb) ?_
        refine .zw 16 rfl zm ?_
        first|(refine .ixv 17 rfl hs ae aj ?_;intro b124 o124 hc124)|refine .z 17 rfl (zix ae aj) ?_
        first|refine .load (i:=18) hs rfl aE .none rfl af ?_ (by repeat (first|exact .here|assumption|exact Mem.row ak ak|refine .there ?_|refine Mem.uw ?_)) (by first|rfl|exact fb ak|exact lB eb ak ak|exact iT lx)|refine .r (i:=18) hs rfl aE .none (aQ rfl af eb) ?_
        refine .zw 19 rfl zm ?_;refine .z 20 rfl zm ?_
        first|(refine .ixw 21 rfl hs az au ?_;intro b128 o128 hc128)|refine .z 21 rfl (zix az au) ?_
        first|refine .load (i:=22) hs rfl aE .none rfl an ?_ (by repeat (first|exact .here|assumption|exact Mem.row ak ak|refine .there ?_|refine Mem.uw ?_)) (by first|rfl|exact fb ak|exact lB eb ak ak|exact iT lx)|refine .r (i:=22) hs rfl aE .none (aQ rfl an eb) ?_
        refine .zw 23 rfl zm ?_
        first|(refine .ixv 24 rfl hs ae aj ?_;intro b131 o131 hc131)|refine .z 24 rfl (zix ae aj) ?_
        first|refine .load (i:=25) hs rfl aE .none rfl af ?_ (by repeat (first|exact .here|assumption|exact Mem.row ak ak|refine .there ?_|refine Mem.uw ?_)) (by first|rfl|exact fb ak|exact lB eb ak ak|exact iT lx)|refine .r (i:=25) hs rfl aE .none (aQ rfl af eb) ?_
        refine .zw 26 rfl cq ?_;refine .z 27 rfl Bj ?_;refine .z 28 rfl Bk ?_
        first|(refine .ixv 29 rfl hs ae aj ?_;intro b136 o136 hc136)|refine .z 29 rfl (zix ae aj) ?_
        refine .ET 30 hs ?_
        refine .store hs rfl rfl aj ?_ (.there (Upd.row _ ak ak)) (Am (by rw [hq.2 _ hi];exact hk)) (yC _ _ _);intro w hs
        refine .go (.DT hs (nB (nT ?_)))
        exact .mk ⟨rfl,_,hq.set hi _,by rw [Fh hq hi hk];exact hI.step hcb hm hi hk (fun a b h=>by omega) hb97 hc106,hs⟩
       ·refine .skip (nB (nT ?_))
        exact .mk ⟨rfl,rs,hq,hI.skip hcb hm (P:=fun a b=>a=i∧b=k) (fun a b h=>by omega) (fun a b _ _ h=>by obtain ⟨rfl,rfl⟩:=h;exact .inr hc106),hs⟩
      ·refine .Fs 8 8 true (.zn zpF (.cF (.skip (nB (nT ?_)))))
       exact .mk ⟨rfl,rs,hq,hI.skip hcb hm (P:=fun a b=>a=i∧b=k) (fun a b h=>by omega) (fun a b _ _ h=>by obtain ⟨rfl,rfl⟩:=h;exact .inl hb97),hs⟩
     ·rintro fr w ⟨rfl,rs,hq,hI,hs⟩
      refine nB (nT ?_)
      exact .mk ⟨rfl,rs,hq,hI.skip hcb hm (P:=fun a b=>a=i∧n≤b) (fun a b h=>by omega) (fun a b _ hb h=>by omega),hs⟩
    ·rintro fr w ⟨rfl,rs,hq,hI,hs⟩
     replace hI:xn n s.cA m (fun _ _=>True) (gt rs):=hI.skip hcb hm (P:=fun a _=>n≤a) (fun a b h=>by omega) (fun a b ha _ h=>by omega)
     refine nB (nT ?_)
     exact .mk ⟨rfl,rs,hq,fun h=>hI.next hcb h hn65,fun h=>hI.done hcb h.symm hn65,hs⟩
   ·rintro fr w ⟨rfl,rs,hq,-,hT,hs⟩
    replace hT:=hT rfl
    refine nT (.ai (.z zm (.zn zg (.ret (Fin.bu Tryz.results207 rfl ?_)))))
    obtain ⟨H1,g1,g2,hs⟩:=wq hq hbl ak hs
    exact ⟨H1,rs,g1,g2,hq,hT,hs.tail⟩
theorem su{vm:Value}{rs:List (List Int)}{n:Nat}(hs:St H w σ)(hM:RT H vm rs)(hq:Sq n rs)(hn:n≤1000):
  Cl Tryz.prog 208 [vm] w fun v w'=>∃b,v= .bool b∧(b=true↔∀i,i<n→¬gt rs i i<0)∧St H w' σ:=by
 obtain ⟨a,c,rfl⟩:=hM.shape
 have hrl:=hq.1
 refine Cl.o Tryz.func208 Tryz.ntmps208 ag1 ?_
 refine .ai (.zn zg (.seq (.ai (.z zm (.z (cU az) (.zn zm (.for (N:=rs.length) (J:=fun k fr w=>fr=[(0,.slice a rs.length c)]∧(∀i,i<k→¬gt rs i i<0)∧St H w σ) ak ?_ ?_ ?_)))))))
 ·exact .mk ⟨rfl,fun i h=>by omega,hs⟩
 ·rintro k fr w hk ⟨rfl,h0,hs⟩
  refine .block (.ai (.z zm (.zn zg (.ai (.z zm (.z zm (.ixT hs hM rfl rfl az au hk rfl ?_)))))));intro b11 o11 a11 c11 hc11 hR11
  refine .q hs (aQ rfl an hc11) (.z zm (.ixY hs hR11 rfl rfl ae aj (bB (l:=gr rs k) (i:=k) (by rw [hq.2 k ak];omega)) rfl ?_));intro b14 o14 hc14
  refine .q hs (aQ rfl af hc14) (.zn iJ (.bO rfl (fun hc16=>?_) (fun hc16=>?_)))
  ·refine .ai (.zn zg (.ret (rB (rT (rB (rT (Fin.bu Tryz.results208 rfl ?_)))))))
   exact ⟨false,rfl,⟨fun h=>(by cases h),fun h=>(h k ak hc16).elim⟩,hs⟩
  ·refine .skip (nB (nT ?_))
   exact .mk ⟨rfl,fun i hi=>by
    by_cases e:i=k
    ·subst e;exact hc16
    ·exact h0 i ak,hs⟩
 ·rintro fr w ⟨rfl,h0,hs⟩
  refine nT (.ai (.zn zg (.ret (Fin.bu Tryz.results208 rfl ?_))))
  exact ⟨true,rfl,⟨fun _ i hi=>h0 i ak,fun _=>rfl⟩,hs⟩
theorem iA{p:Prop}[Decidable p]:(!decide p)=true↔¬p:=by simp
theorem gG{p:Prop}[Decidable p]:(!decide p)=false↔p:=by simp
theorem eD{a0 a1 a2:Int}(hs:St H w σ):Cl Tryz.prog 253 [I a0,I a1,I a2] w fun v w'=>v= .bool (decide (a1≤a0∧a0≤a2))∧St H w' σ:=by
 refine Cl.o Tryz.func253 Tryz.ntmps253 ag3 ?_
 refine .ai (.zn zg (.ai (.z zm (.z zm (.z uJ (.z zm (.kF (t':=10) rfl (fun hb10=>?_) (fun hb10=>?_))))))))
 ·refine .T (.z zm (.T (.z zm (.T (.z uJ (.z zpT (.zn zg (.ret (Fin.bu Tryz.results253 rfl ?_)))))))))
  exact ⟨by simp [*],hs.out⟩
 ·refine .Fs 3 3 true (.z zpF (.zn zg (.ret (Fin.bu Tryz.results253 rfl ?_))))
  exact ⟨by simp [*],hs.out⟩
theorem ni{many:Int}{l:Lim}(hs:St H w σ):Cl Tryz.prog 256 [I many,.agg l.c.toArray] w fun v w'=>v=I (if decide (0≤many∧many≤64)&&l.ok many then 0 else 20)∧St H w' σ:=by
 refine Cl.o Tryz.func256 Tryz.ntmps256 ag2 ?_
 refine .ai (.bx hs fun b3 w hs=>?_)
 refine .zn zg (.seq (.ai (.z zm (.o (.call Bg rfl (eD hs) ?_)))));rintro _ w ⟨rfl,hs⟩
 refine .z gP (.z zm (.bif (t':=8) rfl (fun hb8=>?_) (fun hb8=>?_)))
 ·refine .Fs 5 3 false (.z zpT (.z zm (.Fs 5 10 false (.z zpT (.z zm (.Fs 5 17 false (.z zpT (.z zm (.Fs 4 24 false (.z zpT (.z zm (.Fs 4 30 false (.zn zpT (.cT (.ai (.zn zg (.ret (rT (Fin.bu mE rfl ?_)))))))))))))))))))
  (try simp only [iA] at*)
  (try simp only [gG] at*)
  refine ⟨congrArg I ?_,hs.out⟩
  unfold Lim.ok
  first
   |(rw [if_pos (by simp only [Bool.and_eq_true,decide_eq_true_eq];omega)];done)
   |(rw [if_neg (by simp only [Bool.and_eq_true,decide_eq_true_eq];omega)];done)
 ·refine .T (.z (zfa dI) (.T (.y hs (zld af) (.T (.z zm (.T (.o (.call Bg rfl (eD hs) ?_))))))));rintro _ w ⟨rfl,hs⟩
  refine .T (.z gP (.z zpF (.z zm (.bif (t':=15) rfl (fun hb15=>?_) (fun hb15=>?_)))))
  ·refine .Fs 5 10 false (.z zpT (.z zm (.Fs 5 17 false (.z zpT (.z zm (.Fs 4 24 false (.z zpT (.z zm (.Fs 4 30 false (.zn zpT (.cT (.ai (.zn zg (.ret (rT (Fin.bu mE rfl ?_))))))))))))))))
   (try simp only [iA] at*)
   (try simp only [gG] at*)
   refine ⟨congrArg I ?_,hs.out⟩
   unfold Lim.ok
   first
    |(rw [if_pos (by simp only [Bool.and_eq_true,decide_eq_true_eq];omega)];done)
    |(rw [if_neg (by simp only [Bool.and_eq_true,decide_eq_true_eq];omega)];done)
  ·refine .T (.z (zfa dT) (.T (.y hs (zld af) (.T (.z zm (.T (.o (.call Bg rfl (eD hs) ?_))))))));rintro _ w ⟨rfl,hs⟩
   refine .T (.z gP (.z zpF (.z zm (.bif (t':=22) rfl (fun hb22=>?_) (fun hb22=>?_)))))
   ·refine .Fs 5 17 false (.z zpT (.z zm (.Fs 4 24 false (.z zpT (.z zm (.Fs 4 30 false (.zn zpT (.cT (.ai (.zn zg (.ret (rT (Fin.bu mE rfl ?_)))))))))))))
    (try simp only [iA] at*)
    (try simp only [gG] at*)
    refine ⟨congrArg I ?_,hs.out⟩
    unfold Lim.ok
    first
     |(rw [if_pos (by simp only [Bool.and_eq_true,decide_eq_true_eq];omega)];done)
     |(rw [if_neg (by simp only [Bool.and_eq_true,decide_eq_true_eq];omega)];done)
   ·refine .T (.z (zfa dI) (.T (.y hs (zld af) (.T (.z (zfa dT) (.T (.y hs (zld af) (.T (.z kd (.z zpF (.z zm (.kF (t':=29) rfl (fun hb29=>?_) (fun hb29=>?_)))))))))))))
    ·refine .Fs 4 24 false (.z zpT (.z zm (.Fs 4 30 false (.zn zpT (.cT (.ai (.zn zg (.ret (rT (Fin.bu mE rfl ?_))))))))))
     (try simp only [iA] at*)
     (try simp only [gG] at*)
     refine ⟨congrArg I ?_,hs.out⟩
     unfold Lim.ok
     first
      |(rw [if_pos (by simp only [Bool.and_eq_true,decide_eq_true_eq];omega)];done)
      |(rw [if_neg (by simp only [Bool.and_eq_true,decide_eq_true_eq];omega)];done)
    ·refine .T (.z (zfa fg) (.T (.y hs (zld af) (.T (.o (.call Bg rfl (eD hs) ?_))))));rintro _ w ⟨rfl,hs⟩
     refine .T (.z gP (.z zpF (.z zm (.bif (t':=35) rfl (fun hb35=>?_) (fun hb35=>?_)))))
     ·refine .Fs 4 30 false (.zn zpT (.cT (.ai (.zn zg (.ret (rT (Fin.bu mE rfl ?_)))))))
      (try simp only [iA] at*)
      (try simp only [gG] at*)
      refine ⟨congrArg I ?_,hs.out⟩
      unfold Lim.ok
      first
       |(rw [if_pos (by simp only [Bool.and_eq_true,decide_eq_true_eq];omega)];done)
       |(rw [if_neg (by simp only [Bool.and_eq_true,decide_eq_true_eq];omega)];done)
     ·refine .T (.z (zfa jh) (.T (.y hs (zld af) (.T (.o (.call Bg rfl (eD hs) ?_))))));rintro _ w ⟨rfl,hs⟩
      refine .T (.z gP (.zn zpF (.cond rfl (fun hc40=>?_) (fun hc40=>?_))))
      ·refine .ai (.zn zg (.ret (rT (Fin.bu mE rfl ?_))))
       (try simp only [iA] at*)
       (try simp only [gG] at*)
       refine ⟨congrArg I ?_,hs.out⟩
       unfold Lim.ok
       first
        |(rw [if_pos (by simp only [Bool.and_eq_true,decide_eq_true_eq];omega)];done)
        |(rw [if_neg (by simp only [Bool.and_eq_true,decide_eq_true_eq];omega)];done)
      ·refine .skip (nT (.ai (.zn zg (.ret (Fin.bu mE rfl ?_)))))
       (try simp only [iA] at*)
       (try simp only [gG] at*)
       refine ⟨congrArg I ?_,hs.out⟩
       unfold Lim.ok
       first
        |(rw [if_pos (by simp only [Bool.and_eq_true,decide_eq_true_eq];omega)];done)
        |(rw [if_neg (by simp only [Bool.and_eq_true,decide_eq_true_eq];omega)];done)
theorem sw{v:Value}{s:ck}(hs:St H w σ)(hr:RSy H v s):Cl Tryz.prog 206 [v] w fun v w'=>v=I s.check∧St H w' σ:=by
 obtain ⟨u,rfl,hr⟩:=hr
 obtain ⟨a,c,rfl⟩:=RL.shape hr
 have hlen:=(RS.len (RS.Ie hr (Nat.le_refl _) (cap':=s.bY.length))).2.2
 refine Cl.o Tryz.func206 Tryz.ntmps206 ag1 ?_
 refine .ai (.bx hs fun b1 w hs=>?_)
 refine .zn zg (.seq (.ai (.z (zfa bG) (.y hs (zld af) (.o (.call Bg rfl (eD hs) ?_))))));rintro _ w ⟨rfl,hs⟩
 refine .zn gP (.cond rfl (fun hc8=>?_) (fun hc8=>?_))
 ·refine .ai (.zn zg (.ret (rT (Fin.bu Tryz.results206 rfl ?_))))
  exact ⟨congrArg I (by unfold ck.check;rw [if_pos (by simp at hc8;omega)]),hs.out⟩
 ·refine .skip (nT (.seq (.ai (.z (zfa bF) (.y hs (zld cz) (.z (cU aJ) (.zn pQ (.bO rfl (fun hc12=>?_) (fun hc12=>?_)))))))))
  ·refine .ai (.zn zg (.ret (rT (Fin.bu Tryz.results206 rfl ?_))))
   exact ⟨congrArg I (by unfold ck.check;rw [if_neg (by simpa using hc8),if_pos ak]),hs.out⟩
  ·refine .skip (nT (.seq (.ai (.z (zfa bF) (.y hs (zld cz) (.z (cU aJ) (.zn zm (.for (N:=s.bY.length) (J:=fun k fr w=>fr=[(14,.slice a s.bY.length c),(1,Pt b1)]∧(∀j<k,∀l,s.bY[j]? =some l→l.ok s.many=true)∧St H w (.blk b1 [I s.many,.slice a s.bY.length c]::σ)) ak ?_ ?_ ?_))))))))
   ·exact .mk ⟨rfl,fun j hj=>by omega,hs⟩
   ·rintro k fr w hk ⟨rfl,hno,hs⟩
    obtain ⟨x,hx⟩:=nth (l:=s.bY) hk
    refine .block (.ai (.ixX (enc:=Lim.c) hs hr rfl rfl aJ aU hx rfl ?_));intro b18 o18 hc18
    refine .q hs (bI (vs:=x.c) rfl eN aU hc18) (.o (.alloc hs dF rfl fun b4 w hs=>?_))
    refine .o (.aH (vs:=x.c) hs rfl rfl aU fun w hs=>?_)
    refine .nil (.ai (.z (zfa bG) (.y hs (zld af) (.q hs (kn (vs:=x.c) rfl eN aU) (.o (.call Tryz.call256 rfl (ni hs) ?_))))));rintro _ w ⟨rfl,hs⟩
    have hmm:0≤s.many∧s.many≤64:=by simpa using hc8
    rw [show (decide (0≤s.many∧s.many≤64)&&x.ok s.many)=x.ok s.many by rw [decide_eq_true hmm];rfl]
    refine .zn gg (.dO rfl (fun hc24=>?_) (fun hc24=>?_))
    ·refine .ai (.zn zg (.ret (rB (rT (rB (rT (Fin.bu Tryz.results206 rfl ?_)))))))
     exact ⟨congrArg I (by
      have hx0:x.ok s.many=false:=by cases e:x.ok s.many with|false=>rfl|true=>rw [e] at hc24;simp at hc24
      unfold ck.check;rw [if_neg (by simpa using hc8),if_neg ak,if_pos (List.any_eq_true.2 ⟨x,List.mem_of_getElem? hx,by rw [hx0];rfl⟩)]),hs.out⟩
    ·refine .skip (nB (nT ?_))
     exact .mk ⟨rfl,eT hno hx (by cases e:x.ok s.many with|true=>rfl|false=>rw [e] at hc24;simp at hc24),hs.tail⟩
   ·rintro fr w ⟨rfl,hno,hs⟩
    refine nT (.ai (.zn zg (.ret (Fin.bu Tryz.results206 rfl ?_))))
    exact ⟨congrArg I (by
     have hall:(s.bY.any fun l=> !l.ok s.many)=false:=by
      simp only [List.any_eq_false,Bool.not_eq_true',Bool.not_eq_false]
      intro l hl
      obtain ⟨j,hj⟩:=List.getElem?_of_mem hl
      exact hno j (List.getElem?_eq_some_iff.1 hj).1 l hj
     unfold ck.check;rw [if_neg (by simpa using hc8),if_neg ak,hall];rfl),hs.out⟩
theorem kP{v:Value}{l:List Int}{en:Ent}(hs:St H w (en::σ))(ho:bS 1 v (Is l) en)(hl:l.length≤1000000):
  Cl Tryz.prog 270 [v] w fun _ w'=>∃en',bS 1 v (Is l.reverse) en'∧St H w' (en'::σ):=by
 rcases ho with ⟨a,rfl,h2,rfl⟩|⟨b,len,cap,sp,rfl,rfl,h2,h3,h4⟩
 ·obtain rfl:l=[]:=by
   have:=congrArg List.length h2
   exact List.length_eq_zero_iff.1 (by simpa using this)
  have hs:=hs.tail
  refine Cl.o Tryz.func270 Tryz.ntmps270 ag1 ?_
  refine .ai (.z zm (.z (cU ae) (.z ib (.z zg (.zn zg (.block (.loop (fun _:Unit=>⟨28,[],[(2,I 0),(3,I (-1))]⟩) (fun _ w=>St H w σ) (fun _=>0) () bn hs ?_)))))))
  rintro _ w hs
  refine .seq (.ai (.z zm (.z zm (.zn iJ (.bO rfl (fun hc9=>?_) (fun hc9=>?_))))))
  ·omega
  ·refine .exit (xT (xT (xB ?_)))
   exact Fin.yq Tryz.results270 ⟨.nul,.nil 1 a,hs.nul⟩
 obtain rfl:len=l.length:=by simpa using h2.symm
 refine Cl.o Tryz.func270 Tryz.ntmps270 ag1 ?_
 refine .ai (.z zm (.z (cU ae) (.z ib (.z zg (.zn zg (.block (.loop (fun p:Nat×List Int=>⟨28,[],[(2,I p.1),(3,I ((l.length:Int) - 1 - p.1)),(0,.slice (some ⟨b,0,none⟩) l.length cap)]⟩) (fun p w=>(2*p.1≤l.length+1∧nP l p.2 p.1)∧St H w (.blk b (Is p.2++sp)::σ)) (fun p=>l.length - p.1) (0,l) (.cons rfl (.dy rfl bV (.cons rfl (.nil rfl rfl)))) ⟨⟨bV,.start l⟩,hs⟩ ?_)))))))
 rintro ⟨i,L⟩ w ⟨⟨h5,h6⟩,hs⟩
 dsimp only at h5 h6 hs ⊢
 have hL:=h6.1
 refine .seq (.ai (.z zm (.z zm (.zn iJ (.bO rfl (fun hc9=>?_) (fun hc9=>?_))))))
 ·refine .skip (nT (.seq (.block (.draw mix rfl hs fun w hs=>?_))))
  refine .zw 0 rfl zm ?_;refine .z 1 rfl zm ?_;refine .z 2 rfl zm ?_;refine .z 3 rfl zm ?_;refine .z 4 rfl zm ?_;refine .z 5 rfl zm ?_
  refine .zw 6 rfl (kq (k:=l.length - 1 - i) rfl rfl ae aj ak ak) (.load (i:=7) hs rfl aE .none rfl af ?_ (hv:=fa ak sp))
  refine .zw 8 rfl zm ?_;refine .z 9 rfl zm ?_
  first|(refine .ixv 10 rfl hs ae aj ?_;intro b24 o24 hc24)|refine .z 10 rfl (zix ae aj) ?_
  refine .load (i:=11) hs rfl aE .none rfl af ?_ (hv:=fa ak sp)
  first|(refine .ixv 12 rfl hs ae aj ?_;intro b26 o26 hc26)|refine .z 12 rfl (zix ae aj) ?_
  refine .E 13 hs ?_
  refine .store hs rfl rfl aj ?_ fh (by simp;omega) (kE ak sp _);intro w hs
  refine .go (.zw 14 rfl (kq (k:=l.length - 1 - i) rfl rfl ae aj ak ak) (.E 15 hs ?_))
  refine .store hs rfl rfl aj ?_ fh (by simp;omega) (kE (by simp;omega) sp _);intro w hs
  refine .go (.D hs (nB (nT (.region (.z zm (.z cq (.z zm (.z ib (.z zg (.zn zg (nT ?_)))))))))))
  exact ⟨(i+1,_),.cons rfl (.dy rfl (by push_cast;omega) (.cons rfl (.nil rfl rfl))),⟨⟨by dsimp only;omega,h6.step ak⟩,hs⟩,by dsimp only;omega⟩
 ·refine .exit (xT (xT (xB ?_)))
  rw [h6.done ak] at hs
  exact Fin.yq Tryz.results270 ⟨_,.inr ⟨b,l.length,cap,sp,rfl,rfl,bV,by rw [←h3];simp,h4⟩,hs⟩
inductive GS(s:ck)(xs:List Int):Int→Prop
 |bad (h:s.check≠0) (h1:xs=[]):GS s xs s.check
 |sound (h:s.Ok) (h1:s.Sound) (h2:xs=[]):GS s xs 0
 |chain {st:BS} {x:Arc} {z k:Nat} (h:s.Ok) (h1:¬s.Sound) (h2:HI s.n s.cA st (some x)) (h3:z=pv st.by_ x.t (s.n+1)) (h4:1≤k) (h5:k≤s.n) (h6:pv st.by_ z k=z) (h7:xs=(wO st.by_ z k).reverse):GS s xs 0
theorem GS.BH{s:ck}{xs:List Int}(h:GS s xs 0):xs=[]↔s.Sound:=by
 generalize hz:(0:Int)=y at h
 cases h with
 |bad h=>exact (h hz.symm).elim
 |sound _ h1 h2=>exact ⟨fun _=>h1,fun _=>h2⟩
 | @chain st x z k _ h1 _ _ h4 _ _ h7=>exact ⟨fun h=>by
   have:=congrArg List.length (h7.symm.trans h)
   rw [List.length_reverse,nr] at this
   simp at this;omega,fun h=>(h1 h).elim⟩
set_option maxHeartbeats 4000000 in
theorem sJ{v:Value}{s:ck}(hs:St H w σ)(hr:RSy H v s):
  Cl Tryz.prog 221 [v] w fun u w'=>∃H1 vx xs e,HLe H H1∧u= .tuple #[vx,I e]∧RI H1 vx xs∧GS s xs e∧St H1 w' σ:=by
 obtain ⟨u,rfl,hr⟩:=hr
 obtain ⟨al,cl,rfl⟩:=RL.shape hr
 refine Cl.o Tryz.func221 Tryz.ntmps221 ag1 ?_
 refine .ai (.bx hs fun b1 w hs=>?_)
 refine .z zg (.zn zg (.seq (.ai (.y hs (zls [_,_] aZ aF) (.o (.call Tryz.call197 rfl (ir (s:=s) hs ⟨_,rfl,hr⟩) ?_))))));rintro _ w ⟨rfl,hs⟩
 refine .zn zg (.ai (.z zm (.zn gg (.dO rfl (fun hc14=>?_) (fun hc14=>?_)))))
 ·refine .ai (.z zm (.z zg (.zn zg (.ret (rT (Fin.jG Tryz.results221 rfl rfl ?_))))))
  exact ⟨H,_,[],_,HLe.refl H,rfl,RS.nil H 1 none 0,.bad hc14 rfl,hs.out⟩
 ·refine .skip (nT (.seq (.draw mix rfl hs fun w hs=>?_)))
  refine .zw 0 rfl (zfa bG) ?_;refine .y 1 rfl hs af ?_;refine .ys 2 rfl hs [_,_] aZ aF ?_
  refine .E 3 hs ?_
  have hok:s.Ok:=s.db.1 (by simpa using hc14)
  have hoka:=hok.cA
  have hn:s.n=s.many.toNat+1:=rfl
  have hm0:=hok.m0
  have hm1:=hok.m1
  refine .call Tryz.call269 rfl (jS (s:=s) hs hok ⟨_,rfl,hr⟩) ?_;rintro _ w ⟨H1,b10,hle1,rfl,hit,hs⟩
  refine .go (.E 4 hs ?_)
  have hnear:=iR (N:=s.many.toNat) hs ak (by rw [←hn];exact hoka) hit Tryz.call295
  rw [Int.toNat_of_nonneg hm0] at hnear
  refine .call Tryz.call225 rfl hnear ?_;rintro _ w ⟨H2,bc,bb,st,ov,vo,hle2,rfl,hov,hnr,hs⟩
  obtain ⟨a',rfl,ha'⟩:=hov.ptr
  refine .go (.zw 5 rfl zm ?_);refine .z 6 rfl zex ?_;refine .z 7 rfl zex ?_;refine .z 8 rfl zex ?_;refine .z 9 rfl zg ?_;refine .z 10 rfl zg ?_;refine .z 11 rfl zg ?_;refine .D hs ?_
  refine .seq (.ai (.z zm (.q hs (B4 rfl rfl Tryz.runUnderlying268) (.nil (.cond rfl (fun hc26=>?_) (fun hc26=>?_))))))
  ·refine .ai (.z zg (.zn zg (.ret (rT (Fin.jG Tryz.results221 rfl rfl ?_)))))
   exact ⟨H2,_,[],0,hle1.trans hle2,rfl,RS.nil H2 1 none 0,.sound hok (by
    obtain ⟨r,hN2,hr2⟩:=hnr
    cases ov with
    |none=>exact ⟨_,(hN2.sol (by rw [←hn];exact hoka) ak).1⟩
    |some x=>rw [ha'] at hc26;cases hc26) rfl,hs.out⟩
  ·refine .skip (nT (.ai (.z zm ?_)))
   obtain ⟨x,rfl⟩:=OvR.yes ha' hc26
   obtain ⟨b3,e3,hrow⟩:=hov
   cases e3
   have hrowT:cellAt H2 b3 1=some (I x.t):=hrow.at 1
   have hmn:s.many+2=((s.many.toNat+2:Nat):Int):=by omega
   have hns:¬s.Sound:=by
    obtain ⟨r,hN2,hr2⟩:=hnr
    exact hN2.none (by rw [←hn];exact hoka) ak (by have:=hr2 bV;omega)
   obtain ⟨hlb,hrg,hxt⟩:st.by_.length=s.many.toNat+1∧(∀v<s.many.toNat+1,(ga st.by_ v).f<s.many.toNat+1)∧x.t<s.many.toNat+1:=by
    obtain ⟨r,hN2,hr2⟩:=hnr
    exact ⟨hN2.lb,fun v hv=>(hN2.rg v hv).1,(hoka.2 x (hN2.ovm x rfl)).2.1⟩
   have hpl:=fun k=>wE hrg hxt k
   refine .z znc (.z (zfa cM) (.q hs (aQ rfl af hrowT) (.zn zg (.seq (.ai (.z (zfa bG) (.y hs (zld af) (.z cq ?_))))))))
   rw [hmn]
   refine .zn zm (.for (N:=s.many.toNat+2) (J:=fun k fr w=>fr=[(8,I (pv st.by_ x.t k)),(6,.slice (some ⟨bb,0,none⟩) (s.many.toNat+1) (s.many.toNat+1))]∧St H2 w (.blk bc (Is st.cost):: .blk bb (iU st.by_):: .blk b1 [I s.many,.slice al s.bY.length cl]::σ)) ak ?_ ?_ ?_)
   ·exact .mk ⟨rfl,hs⟩
   ·rintro k fr w hk ⟨rfl,hs⟩
    refine .block (.region (.z zm (.z zm (.q hs (vI (k:=pv st.by_ x.t k) rfl rfl aA aC rfl (hpl k)) (.z (zfa cE) (.q hs (gC rfl af (.there .here) (qJ (j:=0) (by rw [hlb];exact hpl k) ew)) ?_))))))
    refine .zn zg (nB (nT ?_))
    exact .mk ⟨rfl,hs.out⟩
   ·rintro fr w ⟨rfl,hs⟩
    obtain ⟨pd,hp1,hp2,hp3⟩:=AT hrg hxt (m:=s.many.toNat+2) ak
    have hzl:=hpl (s.many.toNat+2)
    generalize hz:pv st.by_ x.t (s.many.toNat+2)=z at hp3 hzl ⊢
    have hzk:=fun k=>wE hrg hzl k
    refine nT (.ai (.zn zg (.seq (.ai (.z zm (.zn zg (.block ?_)))))))
    refine .loop (fun p:Nat×Value=>⟨62,[],[(9,p.2),(8,I (pv st.by_ z p.1)),(10,I z),(6,.slice (some ⟨bb,0,none⟩) (s.many.toNat+1) (s.many.toNat+1))]⟩)
     (fun p w=>p.1<pd∧∃en,bS 1 p.2 (Is (wO st.by_ z p.1)) en∧St H2 w (en:: .blk bc (Is st.cost):: .blk bb (iU st.by_):: .blk b1 [I s.many,.slice al s.bY.length cl]::σ))
     (fun p=>pd - p.1) (0,.slice none 0 0) bn
     ⟨ak,_,.nil 1 none,hs.nul⟩ ?_
    rintro ⟨k,v9⟩ w ⟨hk,en,hO,hs⟩
    dsimp only at hk hO ⊢
    refine .block (.ai (.z zm (.z zm (.z zm (.q hs (vI (k:=pv st.by_ z k) rfl rfl aA aC rfl (hzk k)) (.z (zfa dp) (.q hs (gC rfl af (.there (.there .here)) (qJ (j:=3) (by rw [hlb];exact hzk k) ew)) ?_)))))))
    refine .o (.buildSlice (cells:=[_]) hs bX rfl rfl fun b49 w hs=>?_)
    refine .o (.append (ys:=[I (ga st.by_ (pv st.by_ z k)).l]) hs bP rfl rfl hO (.own .here rfl rfl) (by simp [Value.oneCell']) (fun l' h=>by simp [wO] at h;omega) ?_);intro v50 en50 w hO2 hs
    refine .zn zg (.ai (.z zm (.z zm (.q hs (vI (k:=pv st.by_ z k) rfl rfl aA aC rfl (hzk k)) (.z (zfa cE) (.q hs (gC rfl af (by repeat (first|exact .here|refine .there ?_)) (qJ (j:=0) (by rw [hlb];exact hzk k) ew)) ?_))))))
    refine .zn zg (.ai (.z zm (.z zm (.zn kd (.bO rfl (fun hc58=>?_) (fun hc58=>?_))))))
    ·refine .exit (xN (xT (xB (nT (.ai (.z zm ?_))))))
     have hO3:bS 1 v50 (Is (wO st.by_ z (k+1))) en50:=by rw [vO];simpa [Is] using hO2
     have hkz:pv st.by_ z (k+1)=z:=by
      have h3:((ga st.by_ (pv st.by_ z k)).f:Int)=z:=by simpa using hc58
      show (ga st.by_ (pv st.by_ z k)).f=z
      omega
     refine .o (.call Tryz.call270 rfl (kP hs hO3 (by rw [nr];omega)) ?_);rintro _ w ⟨en',hO4,hs⟩
     refine .nil (.ai (.z zm (.z zg (.zn zg (.ret (Fin.jG Tryz.results221 rfl rfl ?_))))))
     obtain ⟨H3,hle3,hRI,hs⟩:=bS.dJ hO4 (by rw [List.length_reverse,nr];omega) hs .here
     exact ⟨H3,_,_,0,hle1.trans (hle2.trans hle3),rfl,hRI,.chain hok hns (by rw [hn];exact hnr) (by rw [hn];exact hz.symm) ak ak hkz rfl,hs.sb⟩
    ·refine .skip (nB (nT ?_))
     exact ⟨(k+1,v50),bn,⟨by
      dsimp only
      have:k+1≠pd:=fun e=>hc58 (congrArg (Nat.cast:Nat→Int) (show pv st.by_ z (k+1)=z by rw [e];exact hp3))
      omega,en50,by rw [vO];simpa [Is] using hO2,hs.sb⟩,by dsimp only;omega⟩
structure C7(s:ck)(x:List Int):Prop where
 len:x.length=s.n
 zero:gi x 0=0
 free:∀v<s.n,-1000000000≤gi x v∧gi x v≤1000000000
 xm:fW s.cA (gi x)
theorem mq{v:Value}{s:ck}(hs:St H w σ)(hr:RSy H v s):
  Cl Tryz.prog 147 [v] w fun u w'=>∃H1 vt e,HLe H H1∧u= .tuple #[vt,I e]∧((s.check≠0∧e=s.check∧vt= .slice none 0 0)∨(s.Ok∧¬s.Sound∧e=23∧vt= .slice none 0 0)∨(s.Ok∧s.Sound∧e=0∧∃rs,RT H1 vt rs∧Sq s.n rs∧kH s.n s.cA (gt rs)))∧St H1 w' σ:=by
 obtain ⟨ul,rfl,hl⟩:=hr
 obtain ⟨al,cl,rfl⟩:=RL.shape hl
 refine Cl.o Tryz.func147 Tryz.ntmps147 ag1 ?_
 refine .ai (.bx hs fun b1 w hs=>?_)
 refine .z zg (.zn zg (.ai (.y hs (zls [_,_] aZ aF) (.o (.call Tryz.call206 rfl (sw (s:=s) hs ⟨_,rfl,hl⟩) ?_)))));rintro _ w ⟨rfl,hs⟩
 refine .zn zg (.seq (.ai (.z zm (.zn gg (.dO rfl (fun hc9=>?_) (fun hc9=>?_))))))
 ·refine .ai (.z zm (.z zg (.zn zg (.ret (rT (Fin.jG Tryz.results147 rfl rfl ?_))))))
  exact ⟨H,_,_,HLe.refl H,rfl,.inl ⟨hc9,rfl,rfl⟩,hs.out⟩
 ·refine .skip (nT (.ai (.y hs (zls [_,_] aZ aF) ?_)))
  have hok:s.Ok:=s.db.1 (by simpa using hc9)
  have hm1:=hok.m1
  refine .o (.call Tryz.call207 rfl (tK (s:=s) hs ⟨_,rfl,hl⟩ hok) ?_);rintro v12 w ⟨H1,rs,hle1,hRT,hSq,hWT,hs⟩
  obtain ⟨at',ct,rfl⟩:=hRT.shape
  refine .zn zg (.seq (.ai (.z zm (.o (.call Tryz.call208 rfl (su hs hRT hSq (by simp only [ck.n];omega)) ?_)))));rintro _ w ⟨b,rfl,hb,hs⟩
  have hbs:=hb.trans (AG hok hWT).symm
  refine .zn gP (.cond rfl (fun hc15=>?_) (fun hc15=>?_))
  ·refine .ai (.z zg (.zn zg (.ret (rT (Fin.jG Tryz.results147 rfl rfl ?_)))))
   exact ⟨H1,_,_,hle1,rfl,.inr (.inl ⟨hok,fun h=>by simp [hbs.2 h] at hc15,rfl,rfl⟩),hs.out⟩
  ·refine .skip (nT (.ai (.z zm (.z zg (.zn zg (.ret (Fin.jG Tryz.results147 rfl rfl ?_)))))))
   exact ⟨H1,_,_,hle1,rfl,.inr (.inr ⟨hok,hbs.1 (by simpa using hc15),rfl,rs,hRT,hSq,hWT⟩),hs.out⟩
end Go.Proofs.YteajddicacjkhaaGreat
namespace Go.Proofs.YteajddicacjkhaaGreat
open Go.MW
inductive HV(s:ck)(x:List Int):Int→Prop
 |bad (h:s.check≠0):HV s x s.check
 |off (h:s.Ok) (h1:¬C7 s x):HV s x 25
 |ok (h:s.Ok) (h1:C7 s x):HV s x 0
end Go.Proofs.YteajddicacjkhaaGreat
namespace Go.Proofs.YteajddicacjkhaaGreat
open Go.MW
variable{H:bw}{w:World}{σ:List Ent}
theorem xh{v:Value}{ls:List Int}{g:Nat}{cap:List Value}{q:Int→Prop}(hs:St H w σ)(hr:RI H v ls)
  (hc:∀args w,(callFunc g args).run Tryz.prog w= .ok (.enter g args) w) (hp:∀w l,St H w σ→Cl Tryz.prog g ([I l]++cap) w fun u w'=>∃b,u= .bool b∧(b=true↔q l)∧St H w' σ):
  Cl Tryz.prog 228 [v,.func (.func g) #[] cap.toArray] w fun u w'=>∃i,u=I i∧(0≤i↔∃p∈ls,q p)∧St H w' σ:=by
 obtain ⟨a,c,rfl⟩:=RI.shape hr
 have hl:=(RI.len hr).2.2
 refine Cl.o Tryz.func228 Tryz.ntmps228 ag2 ?_
 refine .ai (.zn zg (.seq (.ai (.z zm (.z (cU ae) (.zn zm (.for (N:=ls.length) (J:=fun k fr w=>fr=[(1,.func (.func g) #[] cap.toArray),(0,.slice a ls.length c)]∧St H w σ∧∀j<k,∀l,ls[j]? =some l→¬q l) ak ?_ ?_ ?_)))))))
 ·exact .mk ⟨rfl,hs,fun j hj=>by omega⟩
 ·rintro k fr w hk ⟨rfl,hs,hno⟩
  obtain ⟨l,hl⟩:=nth hk
  refine .block (.ai (.z zm (.zn zg (.ai (.z zm (.z zm (.z zm ?_)))))))
  first|(refine .ixv hs ae aj ?_;intro b14 o14 hc14)|refine .z (zix ae aj) ?_
  refine .y hs (zld af) (.o (.nI (first:=[]) rfl rfl hc (hp _ _ hs) ?_));rintro _ w ⟨b16,rfl,hb16,hs⟩
  refine .nil (.cond rfl (fun hc16=>?_) (fun hc16=>?_))
  ·refine .ai (.z zm (.zn zg (.ret (rB (rT (rB (rT (Fin.bu sP rfl ?_))))))))
   exact ⟨_,rfl,⟨fun _=>⟨l,List.mem_of_getElem? hl,hb16.1 hc16⟩,fun _=>by omega⟩,hs⟩
  ·refine .skip (nB (nT ?_))
   exact .mk ⟨rfl,hs,eT hno hl (fun h=>by rw [hb16.2 h] at hc16;cases hc16)⟩
 ·rintro fr w ⟨rfl,hs,hno⟩
  refine nT (.ai (.zn zg (.ret (Fin.bu sP rfl ?_))))
  exact ⟨_,rfl,⟨fun h=>by omega,fun ⟨p,h1,h2⟩=>by
   obtain ⟨j,hj⟩:=List.getElem?_of_mem h1
   exact (hno j (List.getElem?_eq_some_iff.1 hj).1 p hj h2).elim⟩,hs⟩
theorem sM{v:Value}{ls:List Int}{g:Nat}{cap:List Value}{q:Int→Prop}(hs:St H w σ)(hr:RI H v ls)
  (hc:∀args w,(callFunc g args).run Tryz.prog w= .ok (.enter g args) w) (hp:∀w l,St H w σ→Cl Tryz.prog g ([I l]++cap) w fun u w'=>∃b,u= .bool b∧(b=true↔q l)∧St H w' σ):
  Cl Tryz.prog 185 [v,.func (.func g) #[] cap.toArray] w fun u w'=>∃b,u= .bool b∧(b=true↔∃p∈ls,q p)∧St H w' σ:=by
 refine Cl.o Tryz.func185 Tryz.ntmps185 ag2 ?_
 refine .ai (.zn zg (.ai (.z zm (.z zm (.o (.call Tryz.call228 rfl (xh hs hr hc hp) ?_))))));rintro _ w ⟨i,rfl,hi,hs⟩
 refine .z yM (.zn zg (.ret (Fin.bu Tryz.results185 rfl ?_)))
 exact ⟨_,rfl,by simp only [decide_eq_true_eq];exact hi,hs⟩
theorem qA{n:Int}(hs:St H w σ):Cl Tryz.prog 198 [I n] w fun v w'=>∃b,v= .bool b∧(b=true↔¬(-1000000000≤n∧n≤1000000000))∧St H w' σ:=by
 refine Cl.o Tryz.func198 Tryz.ntmps198 ag1 ?_
 refine .ai (.zn zg (.ai (.z zm (.o (.call Bi rfl (eF hs) ?_)))));rintro _ w ⟨rfl,hs⟩
 refine .z gP (.zn zg (.ret (Fin.bu Tryz.results198 rfl ?_)))
 exact ⟨_,rfl,by simp;omega,hs⟩
theorem nK{v vx:Value}{s:ck}{x:List Int}(hs:St H w σ)(hr:RSy H v s)(hx:RI H vx x):
  Cl Tryz.prog 134 [v,vx] w fun u w'=>∃e,u=I e∧HV s x e∧St H w' σ:=by
 obtain ⟨ul,rfl,hl⟩:=hr
 obtain ⟨al,cl,rfl⟩:=RL.shape hl
 obtain ⟨ax,cx,rfl⟩:=RI.shape hx
 refine Cl.o Tryz.func134 Tryz.ntmps134 ag2 ?_
 refine .ai (.bx hs fun b2 w hs=>?_)
 refine .zn zg (.seq (.ai (.y hs (zls [_,_] aZ aF) (.o (.call Tryz.call197 rfl (ir (s:=s) hs ⟨_,rfl,hl⟩) ?_)))));rintro _ w ⟨rfl,hs⟩
 refine .zn zg (.ai (.z zm (.zn gg ?_)))
 skip
 refine (.dO rfl (fun hc11=>?_) (fun hc11=>?_))
 ·refine .ai (.z zm (.zn zg (.ret (rT (Fin.bu sR rfl ?_)))))
  exact ⟨_,rfl,.bad hc11,hs.out⟩
 ·refine .skip (nT (.seq (.ai ?_)))
  have hok:s.Ok:=s.db.1 (by simpa using hc11)
  have hm0:=hok.m0
  have hm1:=hok.m1
  have hll:=hok.len
  have hnn:(s.n:Int)=s.many+1:=by simp only [ck.n];omega
  refine .z zm (.z (cU ae) (.z (zfa bG) (.y hs (zld af) (.z cq (.z gg (.z zm (.Dj (t':=19) rfl (fun hb19=>?_) (fun hb19=>?_))))))))
  ·refine .Fs 4 6 false (.z zpT (.z zm (.Fs 2 12 false (.zn zpT (.cT (.ai (.zn zg (.ret (rT (Fin.bu sR rfl ?_))))))))))
   first
    |exact ⟨_,rfl,.ok hok ⟨ak,by first|omega|(simpa using hb25),fun v hv=>hfree v ak,eL.2 fun y hy=>by
      obtain ⟨i,hi⟩:=List.getElem?_of_mem hy
      exact h1 i (List.getElem?_eq_some_iff.1 hi).1 y hi⟩,hs.out⟩
    |exact ⟨_,rfl,.off hok (fun h=>by have:=h.len;omega),hs.out⟩
    |exact ⟨_,rfl,.off hok (fun h=>by have:=h.zero;first|omega|(simp at hb25;omega)),hs.out⟩
    |exact ⟨_,rfl,.off hok (fun h=>by
      obtain ⟨p,h1,h2⟩:=hb27.1 hc28
      obtain ⟨i,hi⟩:=List.getElem?_of_mem h1
      have hil:=(List.getElem?_eq_some_iff.1 hi).1
      have:=bB hil
      rw [hi] at this
      cases this
      exact h2 (h.free i (by have:=h.len;omega))),hs.out⟩
    |exact ⟨_,rfl,.off hok (fun h=>by
      have h8:=eL.1 h.xm y (List.mem_of_getElem? hy)
      omega),hs.out⟩
  ·refine .T (.z zm (.T (.ixX (enc:=fun x=>[I x]) hs hx rfl rfl ae aj (bB (l:=x) (i:=0) ak) rfl ?_)));intro b21 o21 hc21;replace hc21:=bK.one hc21
   refine .T (.y hs (zld af) (.T (.z gg (.z zpF (.z zm (.Dj (t':=25) rfl (fun hb25=>?_) (fun hb25=>?_)))))))
   ·refine .Fs 2 12 false (.zn zpT (.cT (.ai (.zn zg (.ret (rT (Fin.bu sR rfl ?_)))))))
    first
     |exact ⟨_,rfl,.ok hok ⟨ak,by first|omega|(simpa using hb25),fun v hv=>hfree v ak,eL.2 fun y hy=>by
       obtain ⟨i,hi⟩:=List.getElem?_of_mem hy
       exact h1 i (List.getElem?_eq_some_iff.1 hi).1 y hi⟩,hs.out⟩
     |exact ⟨_,rfl,.off hok (fun h=>by have:=h.len;omega),hs.out⟩
     |exact ⟨_,rfl,.off hok (fun h=>by have:=h.zero;first|omega|(simp at hb25;omega)),hs.out⟩
     |exact ⟨_,rfl,.off hok (fun h=>by
       obtain ⟨p,h1,h2⟩:=hb27.1 hc28
       obtain ⟨i,hi⟩:=List.getElem?_of_mem h1
       have hil:=(List.getElem?_eq_some_iff.1 hi).1
       have:=bB hil
       rw [hi] at this
       cases this
       exact h2 (h.free i (by have:=h.len;omega))),hs.out⟩
     |exact ⟨_,rfl,.off hok (fun h=>by
       have h8:=eL.1 h.xm y (List.mem_of_getElem? hy)
       omega),hs.out⟩
   ·refine .T (.z zm (.T (.o (.call Tryz.call185 rfl (sM (q:=fun n=>¬(-1000000000≤n∧n≤1000000000)) (cap:=[]) hs hx Tryz.call198 (fun w n hs=>qA hs)) ?_))));rintro _ w ⟨b27,rfl,hb27,hs⟩
    refine .zn zpF (.cond rfl (fun hc28=>?_) (fun hc28=>?_))
    ·refine .ai (.zn zg (.ret (rT (Fin.bu sR rfl ?_))))
     first
      |exact ⟨_,rfl,.ok hok ⟨ak,by first|omega|(simpa using hb25),fun v hv=>hfree v ak,eL.2 fun y hy=>by
        obtain ⟨i,hi⟩:=List.getElem?_of_mem hy
        exact h1 i (List.getElem?_eq_some_iff.1 hi).1 y hi⟩,hs.out⟩
      |exact ⟨_,rfl,.off hok (fun h=>by have:=h.len;omega),hs.out⟩
      |exact ⟨_,rfl,.off hok (fun h=>by have:=h.zero;first|omega|(simp at hb25;omega)),hs.out⟩
      |exact ⟨_,rfl,.off hok (fun h=>by
        obtain ⟨p,h1,h2⟩:=hb27.1 hc28
        obtain ⟨i,hi⟩:=List.getElem?_of_mem h1
        have hil:=(List.getElem?_eq_some_iff.1 hi).1
        have:=bB hil
        rw [hi] at this
        cases this
        exact h2 (h.free i (by have:=h.len;omega))),hs.out⟩
      |exact ⟨_,rfl,.off hok (fun h=>by
        have h8:=eL.1 h.xm y (List.mem_of_getElem? hy)
        omega),hs.out⟩
    ·refine .skip (nT (.seq (.ai (.z (zfa bF) (.y hs (zld cz) (.z (cU aJ) (.zn zm (.for (N:=s.bY.length) (J:=fun k fr w=>fr=[(30,.slice al s.bY.length cl),(1,.slice ax x.length cx)]∧(∀i<k,∀y,s.bY[i]? =some y→gi x y.B.toNat≤gi x y.A.toNat+y.M)∧St H w (.blk b2 [I s.many,.slice al s.bY.length cl]::σ)) ak ?_ ?_ ?_))))))))
     ·exact .mk ⟨rfl,fun i hi=>by omega,hs⟩
     ·have hfree:∀v<x.length,-1000000000≤gi x v∧gi x v≤1000000000:=fun v hv=>by
       apply Classical.byContradiction
       intro h
       have:=hb27.2 ⟨gi x v,List.mem_of_getElem? (bB hv),h⟩
       subst this
       simp at hc28
      rintro k fr w hk ⟨rfl,h1,hs⟩
      obtain ⟨y,hy⟩:=nth hk
      obtain ⟨⟨y1,y2⟩,⟨y3,y4⟩,y5,y6,-⟩:=hok.lim y (List.mem_of_getElem? hy)
      have z1:=hfree y.B.toNat ak
      have z2:=hfree y.A.toNat ak
      refine .block (.ai (.ixX (enc:=Lim.c) hs hl rfl rfl aJ aU hy rfl ?_));intro b34 o34 hc34
      refine .q hs (bI (vs:=y.c) rfl eN aU hc34) (.o (.alloc hs dF rfl fun b7 w hs=>?_))
      refine .o (.aH (vs:=y.c) hs rfl rfl aU fun w hs=>?_)
      refine .nil (.seq (.draw mix rfl hs fun w hs=>?_))
      refine .zw 0 rfl zm ?_;refine .z 1 rfl (zfa dT) ?_;refine .y 2 rfl hs af ?_
      refine .ixX (enc:=fun x=>[I x]) (i:=3) hs rfl aE .none hx rfl rfl ae aj (bB (l:=x) (i:=y.B.toNat) ak) ak ?_;intro b39 o39 hc39;replace hc39:=bK.one hc39
      refine .r (i:=4) hs rfl aE .none (aQ rfl af hc39) ?_
      refine .zw 5 rfl zm ?_;refine .z 6 rfl (zfa dI) ?_;refine .y 7 rfl hs af ?_
      refine .ixX (enc:=fun x=>[I x]) (i:=8) hs rfl aE .none hx rfl rfl ae aj (bB (l:=x) (i:=y.A.toNat) ak) ak ?_;intro b44 o44 hc44;replace hc44:=bK.one hc44
      refine .r (i:=9) hs rfl aE .none (aQ rfl af hc44) ?_
      refine .zw 10 rfl ib ?_;refine .z 11 rfl (zfa fg) ?_;refine .y 12 rfl hs af ?_;refine .z 13 rfl pQ ?_;refine .D hs ?_
      refine (.bO rfl (fun hc49=>?_) (fun hc49=>?_))
      ·refine .ai (.zn zg (.ret (rB (rT (rB (rT (Fin.bu sR rfl ?_)))))))
       first
        |exact ⟨_,rfl,.ok hok ⟨ak,by first|omega|(simpa using hb25),fun v hv=>hfree v ak,eL.2 fun y hy=>by
          obtain ⟨i,hi⟩:=List.getElem?_of_mem hy
          exact h1 i (List.getElem?_eq_some_iff.1 hi).1 y hi⟩,hs.out⟩
        |exact ⟨_,rfl,.off hok (fun h=>by have:=h.len;omega),hs.out⟩
        |exact ⟨_,rfl,.off hok (fun h=>by have:=h.zero;first|omega|(simp at hb25;omega)),hs.out⟩
        |exact ⟨_,rfl,.off hok (fun h=>by
          obtain ⟨p,h1,h2⟩:=hb27.1 hc28
          obtain ⟨i,hi⟩:=List.getElem?_of_mem h1
          have hil:=(List.getElem?_eq_some_iff.1 hi).1
          have:=bB hil
          rw [hi] at this
          cases this
          exact h2 (h.free i (by have:=h.len;omega))),hs.out⟩
        |exact ⟨_,rfl,.off hok (fun h=>by
          have h8:=eL.1 h.xm y (List.mem_of_getElem? hy)
          omega),hs.out⟩
      ·refine .skip (nB (nT ?_))
       exact .mk ⟨rfl,fun i hi z hz=>by
        by_cases e:i=k
        ·subst e;rw [hy] at hz;cases hz;omega
        ·exact h1 i ak z hz,hs.out⟩
     ·have hfree:∀v<x.length,-1000000000≤gi x v∧gi x v≤1000000000:=fun v hv=>by
       apply Classical.byContradiction
       intro h
       have:=hb27.2 ⟨gi x v,List.mem_of_getElem? (bB hv),h⟩
       subst this
       simp at hc28
      rintro fr w ⟨rfl,h1,hs⟩
      refine nT (.ai (.zn zg (.ret (Fin.bu sR rfl ?_))))
      first
       |exact ⟨_,rfl,.ok hok ⟨ak,by first|omega|(simpa using hb25),fun v hv=>hfree v ak,eL.2 fun y hy=>by
         obtain ⟨i,hi⟩:=List.getElem?_of_mem hy
         exact h1 i (List.getElem?_eq_some_iff.1 hi).1 y hi⟩,hs.out⟩
       |exact ⟨_,rfl,.off hok (fun h=>by have:=h.len;omega),hs.out⟩
       |exact ⟨_,rfl,.off hok (fun h=>by have:=h.zero;first|omega|(simp at hb25;omega)),hs.out⟩
       |exact ⟨_,rfl,.off hok (fun h=>by
         obtain ⟨p,h1,h2⟩:=hb27.1 hc28
         obtain ⟨i,hi⟩:=List.getElem?_of_mem h1
         have hil:=(List.getElem?_eq_some_iff.1 hi).1
         have:=bB hil
         rw [hi] at this
         cases this
         exact h2 (h.free i (by have:=h.len;omega))),hs.out⟩
       |exact ⟨_,rfl,.off hok (fun h=>by
         have h8:=eL.1 h.xm y (List.mem_of_getElem? hy)
         omega),hs.out⟩
end Go.Proofs.YteajddicacjkhaaGreat
namespace Go.Proofs
open Go.Shelf
def Tryz.zf:Go.Shelf.Ren:=⟨fun|189=>303|125=>311|257=>310|128=>323|129=>324|294=>314|295=>315|296=>316|297=>317|298=>318|299=>319|216=>320|300=>321|301=>322|328=>325|329=>326|330=>327|331=>328|332=>329|215=>330|343=>331|n=>n,fun|28=>34|3=>3|46=>260|0=>0|51=>340|53=>343|4=>4|183=>348|182=>347|131=>165|5=>5|9=>9|218=>354|222=>358|228=>360|229=>293|n=>n,fun|n=>n⟩
theorem Tryz.Cr:Go.Proofs.Lays.n189 Tryz.prog Tryz.zf:={
 mixed:=by kernel_rfl
 f125:=Tryz.func311.trans (congrArg some (by kernel_rfl))
 f128:=Tryz.func323.trans (congrArg some (by kernel_rfl))
 f129:=Tryz.func324.trans (congrArg some (by kernel_rfl))
 f189:=Tryz.func303.trans (congrArg some (by kernel_rfl))
 f215:=Tryz.func330.trans (congrArg some (by kernel_rfl))
 f216:=Tryz.func320.trans (congrArg some (by kernel_rfl))
 f257:=Tryz.func310.trans (congrArg some (by kernel_rfl))
 f294:=Tryz.func314.trans (congrArg some (by kernel_rfl))
 f295:=Tryz.func315.trans (congrArg some (by kernel_rfl))
 f296:=Tryz.func316.trans (congrArg some (by kernel_rfl))
 f297:=Tryz.func317.trans (congrArg some (by kernel_rfl))
 f298:=Tryz.func318.trans (congrArg some (by kernel_rfl))
 f299:=Tryz.func319.trans (congrArg some (by kernel_rfl))
 f300:=Tryz.func321.trans (congrArg some (by kernel_rfl))
 f301:=Tryz.func322.trans (congrArg some (by kernel_rfl))
 f328:=Tryz.func325.trans (congrArg some (by kernel_rfl))
 f329:=Tryz.func326.trans (congrArg some (by kernel_rfl))
 f330:=Tryz.func327.trans (congrArg some (by kernel_rfl))
 f331:=Tryz.func328.trans (congrArg some (by kernel_rfl))
 f332:=Tryz.func329.trans (congrArg some (by kernel_rfl))
 f343:=Tryz.func331.trans (congrArg some (by kernel_rfl))
 t0:=Tryz.underlying0
 a0:=Tryz.isAgg0
 z0:=Tryz.sizeOf0
 v0:=Tryz.zeroValue0
 t3:=Tryz.underlying3
 a3:=Tryz.isAgg3
 z3:=Tryz.sizeOf3
 v3:=Tryz.zeroValue3
 t4:=Tryz.underlying4
 a4:=Tryz.isAgg4
 z4:=Tryz.sizeOf4
 v4:=Tryz.zeroValue4
 t5:=Tryz.underlying5
 a5:=Tryz.isAgg5
 z5:=Tryz.sizeOf5
 v5:=Tryz.zeroValue5
 t9:=Tryz.underlying9
 a9:=Tryz.isAgg9
 z9:=Tryz.sizeOf9
 v9:=Tryz.zeroValue9
 t28:=Tryz.underlying34
 a28:=Tryz.isAgg34
 z28:=Tryz.sizeOf34
 v28:=Tryz.zeroValue34
 t46:=Tryz.underlying260
 a46:=Tryz.isAgg260
 z46:=Tryz.sizeOf260
 v46:=Tryz.zeroValue260
 t51:=Tryz.underlying340
 a51:=Tryz.isAgg340
 z51:=Tryz.sizeOf340
 v51:=Tryz.zeroValue340
 t53:=Tryz.underlying343
 a53:=Tryz.isAgg343
 z53:=Tryz.sizeOf343
 v53:=Tryz.zeroValue343
 t131:=Tryz.underlying165
 a131:=Tryz.isAgg165
 z131:=Tryz.sizeOf165
 v131:=Tryz.zeroValue165
 t182:=Tryz.underlying347
 a182:=Tryz.isAgg347
 z182:=Tryz.sizeOf347
 v182:=Tryz.zeroValue347
 t183:=Tryz.underlying348
 a183:=Tryz.isAgg348
 z183:=Tryz.sizeOf348
 v183:=Tryz.zeroValue348
 t218:=Tryz.underlying354
 a218:=Tryz.isAgg354
 z218:=Tryz.sizeOf354
 v218:=Tryz.zeroValue354
 t222:=Tryz.underlying358
 a222:=Tryz.isAgg358
 z222:=Tryz.sizeOf358
 v222:=Tryz.zeroValue358
 t228:=Tryz.underlying360
 a228:=Tryz.isAgg360
 z228:=Tryz.sizeOf360
 v228:=Tryz.zeroValue360
 t229:=Tryz.underlying293
 a229:=Tryz.isAgg293
 z229:=Tryz.sizeOf293
 v229:=Tryz.zeroValue293}
def Tryz.xU:Go.Shelf.Ren:=⟨fun|20=>304|n=>n,fun|22=>34|3=>3|4=>4|0=>0|n=>n,fun|n=>n⟩
theorem Tryz.zU:Go.Proofs.Lays2.n20 Tryz.prog Tryz.xU:={
 mixed:=by kernel_rfl
 f20:=Tryz.func304.trans (congrArg some (by kernel_rfl))
 t0:=Tryz.underlying0
 a0:=Tryz.isAgg0
 z0:=Tryz.sizeOf0
 v0:=Tryz.zeroValue0
 t3:=Tryz.underlying3
 a3:=Tryz.isAgg3
 z3:=Tryz.sizeOf3
 v3:=Tryz.zeroValue3
 t4:=Tryz.underlying4
 a4:=Tryz.isAgg4
 z4:=Tryz.sizeOf4
 v4:=Tryz.zeroValue4
 t22:=Tryz.underlying34
 a22:=Tryz.isAgg34
 z22:=Tryz.sizeOf34
 v22:=Tryz.zeroValue34
 i3:=by kernel_rfl}
end Go.Proofs
namespace Go.Proofs.YteajddicacjkhaaGreat
open Go.Sort Go.RowKit
theorem DC(blk off cap:Nat)(zs:List Int)(w:World)(hH:Holds (Value.int .i64) w blk off zs.toArray)(hblk:blk<w.heap.size)(hsz:zs.length<4611686018427387904):
  Calls Tryz.prog 303 #[.slice (some ⟨blk,off,none⟩) zs.length cap] w fun e w'=>e= .returned (.tuple #[])∧∃n os,w'=grow (putRow (Value.int .i64) (Sort.ahead w n) blk off (zs.mergeSort fun x y=>decide (x≤y)).toArray) os:=
 Any.slices_Sort_int Tryz.Cr blk off cap zs w hH hblk hsz
theorem wu(p:Option Addr)(cap:Nat)(w:World):Calls Tryz.prog 303 #[.slice p 0 cap] w fun e w'=>e= .returned (.tuple #[])∧w'=w:=
 Any.slices_Sort_int_none Tryz.Cr p cap w
theorem yT(blk off cap:Nat)(zs:List Int)(w:World)(hH:Holds (Value.int .i64) w blk off zs.toArray)(hsz:zs.length≤9223372036854775807)(hcap:zs.length≤cap):
  Calls Tryz.prog 304 #[.slice (some ⟨blk,off,none⟩) zs.length cap] w fun e w'=>e= .returned (.slice (some ⟨blk,off,none⟩) (Lib.compact zs).length cap)∧∃q,w'=putRow (Value.int .i64) (Sort.ahead w q) blk off (Lib.compact zs++List.replicate (zs.length - (Lib.compact zs).length) 0).toArray:=
 Any.slices_Compact_int Tryz.zU blk off cap zs w hH hsz hcap
theorem sj(p:Option Addr)(cap:Nat)(w:World):Calls Tryz.prog 304 #[.slice p 0 cap] w fun e w'=>e= .returned (.slice p 0 cap)∧w'=w:=
 Any.slices_Compact_int_empty Tryz.zU p cap w
end Go.Proofs.YteajddicacjkhaaGreat
namespace Go.Proofs.YteajddicacjkhaaGreat
open Go.MW
variable{H:bw}{w:World}{σ:List Ent}
theorem so{v:Value}{ls:List Int}{x:Int}(hs:St H w σ)(hr:RI H v ls):
  Cl Tryz.prog 305 [v,I x] w fun u w'=>∃i,u=I i∧(0≤i↔x∈ls)∧St H w' σ:=by
 obtain ⟨a,c,rfl⟩:=RI.shape hr
 have hl:=(RI.len hr).2.2
 refine Cl.o Tryz.func305 Tryz.ntmps305 ag2 ?_
 refine .ai (.zn zg (.seq (.ai (.z zm (.z (cU ae) (.zn zm (.for (N:=ls.length) (J:=fun k fr w=>fr=[(1,I x),(0,.slice a ls.length c)]∧St H w σ∧∀j<k,∀y,ls[j]? =some y→¬x=y) ak ?_ ?_ ?_)))))))
 ·exact .mk ⟨rfl,hs,fun j hj=>by omega⟩
 ·rintro k fr w hk ⟨rfl,hs,hno⟩
  obtain ⟨y,hy⟩:=nth hk
  refine .block (.ai (.z zm (.zn zg (.ai (.z zm (.z zm (.z zm (.ixY hs hr rfl rfl ae aj hy rfl ?_))))))));intro b14 o14 hc14
  refine .q hs (aQ rfl af hc14) (.zn kd (.bO rfl (fun hc16=>?_) (fun hc16=>?_)))
  ·refine .ai (.z zm (.zn zg (.ret (rB (rT (rB (rT (Fin.bu Tryz.results305 rfl ?_))))))))
   exact ⟨_,rfl,⟨fun _=>by rw [hc16];exact List.mem_of_getElem? hy,fun _=>by omega⟩,hs⟩
  ·refine .skip (nB (nT ?_))
   exact .mk ⟨rfl,hs,eT hno hy hc16⟩
 ·rintro fr w ⟨rfl,hs,hno⟩
  refine nT (.ai (.zn zg (.ret (Fin.bu Tryz.results305 rfl ?_))))
  exact ⟨_,rfl,⟨fun h=>by omega,fun h=>by
   obtain ⟨j,hj⟩:=List.getElem?_of_mem h
   exact (hno j (List.getElem?_eq_some_iff.1 hj).1 x hj rfl).elim⟩,hs⟩
theorem o9{v:Value}{ls:List Int}{x:Int}(hs:St H w σ)(hr:RI H v ls):
  Cl Tryz.prog 294 [v,I x] w fun u w'=>u= .bool (decide (x∈ls))∧St H w' σ:=by
 refine Cl.o Tryz.func294 Tryz.ntmps294 ag2 ?_
 refine .ai (.zn zg (.ai (.z zm (.z zm (.o (.call Tryz.call305 rfl (so hs hr) ?_))))));rintro _ w ⟨i,rfl,hi,hs⟩
 refine .z yM (.zn zg (.ret (Fin.bu Tryz.results294 rfl ?_)))
 exact ⟨by simp only [hi],hs⟩
set_option maxHeartbeats 1000000 in
theorem uk{v:Value}{s:ck}{g:Nat}{cap:List Value}(q:Nat→Lim→Bool)(hs:St H w σ)(hr:RSy H v s)(hlen:s.bY.length≤4398046510976)(hc:∀args w,(callFunc g args).run Tryz.prog w= .ok (.enter g args) w)
  (hp:∀w σ (k:Nat) (l:Lim),s.bY[k]? =some l→St H w σ→Cl Tryz.prog g ([I k,.agg l.c.toArray]++cap) w fun u w'=>u= .bool (q k l)∧St H w' σ):
  Cl Tryz.prog 292 [v,.func (.func g) #[] cap.toArray] w fun u w'=>∃H1,HLe H H1∧RSy H1 u ⟨s.many,jX q s.bY s.bY.length⟩∧St H1 w' σ:=by
 obtain ⟨ul,rfl,hl⟩:=hr
 obtain ⟨al,cl,rfl⟩:=RL.shape hl
 refine Cl.o Tryz.func292 Tryz.ntmps292 ag2 ?_
 refine .ai (.bx hs fun b2 w hs=>?_)
 refine .o (.alloc hs dG rfl fun b4 w hs=>?_)
 refine .nil (.ai (.z (zfa bG) (.y hs (zld af) (.z (zbd [_,_] lz) (.o (.alloc hs dG rfl fun b5 w hs=>?_))))))
 refine .o (.aH (vs:=[_,_]) hs rfl rfl aF fun w hs=>?_)
 refine .nil (.seq (.ai (.z (zfa bF) (.y hs (zld cz) (.z (cU aJ) (.zn zm (.for (N:=s.bY.length) (J:=fun k fr w=>fr=[(12,.slice al s.bY.length cl),(1,.func (.func g) #[] cap.toArray),(5,Pt b5),(4,Pt b4)]∧∃vL en,bS 4 vL (fT (jX q s.bY k)) en∧St H w (.blk b5 [I s.many,vL]:: .blk b4 [I 0,.slice none 0 0]::en::σ)) ak ?_ ?_ ?_)))))))
 ·exact .mk ⟨rfl,_,_,.nil 4 none,hs.nul.sb⟩
 ·rintro k fr w hk ⟨rfl,vL,en,hO,hs⟩
  obtain ⟨x,hx⟩:=nth (l:=s.bY) hk
  obtain ⟨aL,lL,cL,rfl,hL⟩:=hO.shape
  have hpl:=l9 q s.bY k
  refine .block (.ai (.z zm (.ixX hs hl rfl rfl aJ aU hx rfl ?_)));intro b17 o17 hc17
  refine .q hs (bI (vs:=x.c) rfl eN aU hc17) (.o (.alloc hs dF rfl fun b7 w hs=>?_))
  refine .z zg (.o (.aH (vs:=x.c) hs rfl rfl aU fun w hs=>?_))
  refine .nil (.ai (.z zm (.z zm (.y hs (zls [_,_,_,_] eN aU) (.o (.nI (first:=[]) (cap:=cap) rfl rfl hc (hp _ _ k x hx hs) ?_))))));rintro _ w ⟨rfl,hs⟩
  refine .nil (.cond rfl (fun hc22=>?_) (fun hc22=>?_))
  ·refine .region (.z (zfa bF) (.y hs (zld cz) (.y hs (zls [_,_,_,_] eN aU) (.o (.buildSlice (cells:=x.c) hs qB rfl rfl fun b26 w hs=>?_)))))
   refine .o (.append (ys:=x.c) hs bQ rfl rfl hO (.own .here rfl rfl) (by simp [Lim.c,Value.oneCell']) (fun l h=>by rw [eu] at h;omega) ?_);intro v27 en27 w hO2 hs
   obtain ⟨a27,l27,c27,rfl,h27⟩:=hO2.shape
   refine .z (zfa bF) (.o (.store hs rfl rfl oE fun w hs=>?_))
   refine .nil (nB (nT ?_))
   have e:jX q s.bY (k+1)=jX q s.bY k++[x]:=by rw [pq hx,if_pos hc22]
   rw [←EV,←gO,←e] at hO2
   exact .mk ⟨rfl,_,_,hO2,hs.sb⟩
  ·refine .skip (nB (nT ?_))
   have e:jX q s.bY (k+1)=jX q s.bY k:=by rw [pq hx,hc22];simp
   exact .mk ⟨rfl,_,_,by rw [e];exact hO,hs.sb⟩
 ·rintro fr w ⟨rfl,vL,en,hO,hs⟩
  obtain ⟨aL,lL,cL,rfl,hL⟩:=hO.shape
  have hpl:=l9 q s.bY s.bY.length
  refine nT (.ai (.y hs (zls [_,_] aZ aF) (.o (.aH (vs:=[_,_]) hs rfl rfl aF fun w hs=>?_))))
  refine .nil (.ret ?_)
  obtain ⟨H1,g1,r1,hs⟩:=bS.bU (m:=4) (cs:=(jX q s.bY s.bY.length).map Lim.c) hO (fun c hc=>by simp only [List.mem_map] at hc;obtain ⟨x,_,rfl⟩:=hc;rfl) ak (by rw [List.length_map];omega) hs fh
  exact Fin.gj [] [] hs fun w hs=>⟨_,results1 Tryz.results292 (cC (vs:=[_,_]) hs rfl aZ aF),H1,g1,⟨_,rfl,r1⟩,hs.out⟩
theorem um{b:Nat}{i:Int}{l:Lim}{vb:Value}{bs:List Int}(hs:St H w σ)(hb:Row H b [vb])(hr:RI H vb bs):
  Cl Tryz.prog 293 [I i,.agg l.c.toArray,Pt b] w fun u w'=>u= .bool (!decide (l.S∈bs))∧St H w' σ:=by
 have hb0:cellAt H b 0=some vb:=by rw [hb.cell];rfl
 refine Cl.o Tryz.func293 Tryz.ntmps293 ag3 ?_
 refine .ai (.bx hs fun b4 w hs=>?_)
 refine .zn zg (.ai (.y hs (zld an) (.z (zfa jh) (.y hs (zld af) (.o (.call Tryz.call294 rfl (o9 hs hr) ?_))))));rintro _ w ⟨rfl,hs⟩
 refine .z gP (.zn zg (.ret (Fin.bu Tryz.results293 rfl ?_)))
 exact ⟨rfl,hs.out⟩
theorem qz{v vb:Value}{s:ck}{bs:List Int}(hs:St H w σ)(hr:RSy H v s)(hb:RI H vb bs)(hlen:s.bY.length≤4398046510976):
  Cl Tryz.prog 266 [v,vb] w fun u w'=>∃H1,HLe H H1∧RSy H1 u (s.wo bs)∧St H1 w' σ:=by
 obtain ⟨ul,rfl,hl⟩:=hr
 obtain ⟨al,cl,rfl⟩:=RL.shape hl
 obtain ⟨ab,cb,rfl⟩:=RI.shape hb
 refine Cl.o Tryz.func266 Tryz.ntmps266 ag2 ?_
 refine .ai (.bx hs fun b2 w hs=>?_)
 refine .bx hs fun b3 w hs=>?_
 refine .o (.alloc hs dG rfl fun b4 w hs=>?_)
 refine .nil (.ai (.y hs (zls [_,_] aZ aF) (.q hs (cJ (f:=[]) (c:=[_]) rfl rfl) ?_)))
 obtain ⟨H1,hle1,r3,hs⟩:=hs.bU (b:=b3) fh
 refine .o (.call Tryz.call292 rfl (uk (g:=293) (cap:=[Pt b3]) (s:=s) (fun _ l=> !decide (l.S∈bs)) hs ⟨_,rfl,hl.mono hle1⟩ hlen Tryz.call293 (fun w σ k l _ hs=>um hs r3 (hb.mono hle1))) ?_);rintro _ w ⟨H2,hle2,⟨u7,rfl,hL7⟩,hs⟩
 rw [AS] at hL7
 obtain ⟨a7,c7,rfl⟩:=RL.shape hL7
 refine .o (.aH (vs:=[_,_]) hs rfl rfl aF fun w hs=>?_)
 refine .nil (.ret ?_)
 exact Fin.gj [] [] hs fun w hs=>⟨_,results1 Tryz.results266 (cC (vs:=[_,_]) hs rfl aZ aF),H2,hle1.trans hle2,⟨_,rfl,hL7⟩,hs.out⟩
theorem tz{b cap:Nat}{xs:List Int}{sp:List Value}(hs:St H w (.blk b (Is xs++sp)::σ))(hl:xs.length≤17592186044416):
  Cl Tryz.prog 303 [.slice (some ⟨b,0,none⟩) xs.length cap] w fun u w'=>u= .tuple #[]∧St H w' (.blk b (Is (xs.mergeSort fun x y=>decide (x≤y))++sp)::σ):=
 (DC b 0 cap xs w hs.holds (hs.lt .here) ak).mono fun e w' ⟨he,m,os,hw⟩=>⟨_,he,rfl,by
  rw [hw]
  exact (hs.putRow (List.length_mergeSort _)).grow os⟩
theorem sm{a:Option Addr}{cap:Nat}(hs:St H w σ):
  Cl Tryz.prog 303 [.slice a 0 cap] w fun u w'=>u= .tuple #[]∧St H w' σ:=
 (wu a cap w).mono fun e w' ⟨he,hw⟩=>⟨_,he,rfl,by rw [hw];exact hs⟩
theorem p4{b cap:Nat}{xs:List Int}{sp:List Value}(hs:St H w (.blk b (Is xs++sp)::σ))(hl:xs.length≤17592186044416)(hcap:xs.length≤cap):
  Cl Tryz.prog 304 [.slice (some ⟨b,0,none⟩) xs.length cap] w fun u w'=>u= .slice (some ⟨b,0,none⟩) (Go.Lib.compact xs).length cap∧St H w' (.blk b (Is (Go.Lib.compact xs)++(Is (List.replicate (xs.length - (Go.Lib.compact xs).length) 0)++sp))::σ):=
 (yT b 0 cap xs w hs.holds ak hcap).mono fun e w' ⟨he,m,hw⟩=>⟨_,he,rfl,by
  rw [hw]
  have h:=Go.Lib.compact_length_le xs
  have:=hs.putRow (m:=m) (ys:=Go.Lib.compact xs++List.replicate (xs.length - (Go.Lib.compact xs).length) 0) (by simp;omega)
  have e2:Is (Go.Lib.compact xs++List.replicate (xs.length - (Go.Lib.compact xs).length) 0)=Is (Go.Lib.compact xs)++Is (List.replicate (xs.length - (Go.Lib.compact xs).length) 0):=List.map_append
  rw [e2,List.append_assoc] at this
  exact this⟩
theorem pa{a:Option Addr}{cap:Nat}(hs:St H w σ):
  Cl Tryz.prog 304 [.slice a 0 cap] w fun u w'=>u= .slice a 0 cap∧St H w' σ:=
 (sj a cap w).mono fun e w' ⟨he,hw⟩=>⟨_,he,rfl,by rw [hw];exact hs⟩
theorem u6{v:Value}{xs:List Int}{en:Ent}(hs:St H w (en::σ))(hO:bS 1 v (Is xs) en)(hl:xs.length≤17592186044416):
  Cl Tryz.prog 290 [v] w fun u w'=>∃L en',bS 1 u (Is L) en'∧L.length≤xs.length∧kC (fun x=>x∈xs) L∧St H w' (en'::σ):=by
 rcases hO with ⟨a,rfl,h0,rfl⟩|⟨b,len,cap,sp,rfl,rfl,h3,h4,h5⟩
 ·have hx:xs=[]:=by simpa using h0
  subst hx
  refine Cl.o Tryz.func290 Tryz.ntmps290 ag1 ?_
  refine .ai (.zn zg (.ai (.z zm (.o (.call Tryz.call303 rfl (sm hs) ?_)))));rintro _ w ⟨rfl,hs⟩
  refine .nil (.ai (.z zm (.o (.call Tryz.call304 rfl (pa hs) ?_))));rintro _ w ⟨rfl,hs⟩
  refine .zn zg (.ret (Fin.bu Tryz.results290 rfl ?_))
  exact ⟨[],_,.nil 1 a,bV,.nil bV,hs.out⟩
 ·obtain rfl:len=xs.length:=by simpa using h3.symm
  refine Cl.o Tryz.func290 Tryz.ntmps290 ag1 ?_
  refine .ai (.zn zg (.ai (.z zm (.o (.call Tryz.call303 rfl (tz hs hl) ?_)))));rintro _ w ⟨rfl,hs⟩
  refine .nil (.ai (.z zm ?_))
  have hml:(xs.mergeSort fun x y=>decide (x≤y)).length=xs.length:=List.length_mergeSort _
  rw [←hml]
  refine .o (.call Tryz.call304 rfl (p4 hs ak ak) ?_);rintro _ w ⟨rfl,hs⟩
  refine .zn zg (.ret (Fin.bu Tryz.results290 rfl ?_))
  have hcl:=Go.Lib.compact_length_le (xs.mergeSort fun x y=>decide (x≤y))
  have h4':xs.length+sp.length=cap:=by simpa using h4
  exact ⟨_,_,.inr ⟨b,_,cap,Is (List.replicate ((xs.mergeSort fun x y=>decide (x≤y)).length - (Go.Lib.compact (xs.mergeSort fun x y=>decide (x≤y))).length) 0)++sp,rfl,rfl,bV,by simp;omega,ak⟩,ak,yU,hs⟩
theorem kY{v:Value}{s:ck}(hs:St H w σ)(hr:RSy H v s)(hlen:s.bY.length≤4398046510976):
  Cl Tryz.prog 264 [v] w fun u w'=>∃L en,bS 1 u (Is L) en∧L.length≤s.bY.length∧kC (GP s.bY) L∧St H w' (en::σ):=by
 obtain ⟨ul,rfl,hl⟩:=hr
 obtain ⟨al,cl,rfl⟩:=RL.shape hl
 refine Cl.o Tryz.func264 Tryz.ntmps264 ag1 ?_
 refine .ai (.bx hs fun b1 w hs=>?_)
 refine .zn zg (.ai (.zn zg (.seq (.ai (.z (zfa bF) (.y hs (zld cz) (.z (cU aJ) (.zn zm (.for (N:=s.bY.length) (J:=fun k fr w=>∃v3 en,bS 1 v3 (Is ((s.bY.take k).map Lim.S)) en∧fr=[(3,v3),(7,.slice al s.bY.length cl)]∧St H w (en::σ)) ak ?_ ?_ ?_)))))))))
 ·exact .mk ⟨_,_,.nil 1 none,rfl,hs.nul.sb⟩
 ·rintro k fr w hk ⟨v3,en,hO,rfl,hs⟩
  obtain ⟨x,hx⟩:=nth (l:=s.bY) hk
  obtain ⟨a3,l3,c3,rfl,h3⟩:=hO.shape
  refine .block (.ai (.ixX hs hl rfl rfl aJ aU hx rfl ?_));intro b11 o11 hc11
  refine .q hs (bI (vs:=x.c) rfl eN aU hc11) (.o (.alloc hs dF rfl fun b5 w hs=>?_))
  refine .o (.aH (vs:=x.c) hs rfl rfl aU fun w hs=>?_)
  refine .nil (.region (.z zm (.z (zfa jh) (.y hs (zld af) (.o (.buildSlice (cells:=[_]) hs bX rfl rfl fun b16 w hs=>?_))))))
  refine .o (.append (ys:=Is [x.S]) hs bP rfl rfl hO (.own .here rfl rfl) (ia _) (fun l' h=>by simp at h;omega) ?_);intro v17 en17 w hO2 hs
  rw [←List.map_append] at hO2
  refine .zn zg (nB (nT ?_))
  exact .mk ⟨_,_,by rw [cZ hx,List.map_append];exact hO2,rfl,hs.sb⟩
 ·rintro fr w ⟨v3,en,hO,rfl,hs⟩
  rw [List.take_length] at hO
  refine nT (.ai (.z zm (.o (.call Tryz.call290 rfl (u6 hs hO (by rw [List.length_map];omega)) ?_))));rintro v20 w ⟨L,en',hO',hL,hR,hs⟩
  rw [List.length_map] at hL
  refine .zn zg (.ret (Fin.bu Tryz.results264 rfl ?_))
  exact ⟨L,en',hO',hL,hR.congr fun x=>by simp [GP],hs⟩
theorem oh{v:Value}{en:Ent}{xs:List Int}{g:Nat}{cap:List Value}(q:Int→Bool)(hs:St H w (en::σ))(hO:bS 1 v (Is xs) en)(hl:xs.length≤17592186044416)(hc:∀args w,(callFunc g args).run Tryz.prog w= .ok (.enter g args) w)
  (hp:∀H' w σ (n:Int),n∈xs→HLe H H'→St H' w σ→Cl Tryz.prog g ([I n]++cap) w fun u w'=>∃H1,HLe H' H1∧u= .bool (q n)∧St H1 w' σ):
  Cl Tryz.prog 228 [v,.func (.func g) #[] cap.toArray] w fun u w'=>∃H1 i,HLe H H1∧u=I i∧((i= -1∧∀x∈xs,q x=false)∨(∃(k:Nat) (x:Int),i=k∧xs[k]? =some x∧q x=true∧∀j<k,∀y,xs[j]? =some y→q y=false))∧St H1 w' (en::σ):=by
 obtain ⟨a,c,rfl⟩:=hO.tC
 refine Cl.o Tryz.func228 Tryz.ntmps228 ag2 ?_
 refine .ai (.zn zg (.seq (.ai (.z zm (.z (cU ae) (.zn zm (.for (N:=xs.length) (J:=fun k fr w=>fr=[(1,.func (.func g) #[] cap.toArray),(0,.slice a xs.length c)]∧∃H1,HLe H H1∧(∀j<k,∀y,xs[j]? =some y→q y=false)∧St H1 w (en::σ)) ak ?_ ?_ ?_)))))))
 ·exact .mk ⟨rfl,H,HLe.refl H,fun j hj=>by omega,hs⟩
 ·rintro k fr w hk ⟨rfl,H1,hle1,hno,hs⟩
  have hx:=bB hk
  obtain ⟨b,c',sp,hv,rfl,_⟩:=hO.blk ak
  cases hv
  refine .block (.ai (.z zm (.zn zg (.ai (.z zm (.z zm (.z zm (.z (zix ae aj) (.q hs (gC rfl af (hv:=fa hk sp)) (.o (.nI (first:=[]) (cap:=cap) rfl rfl hc (hp _ _ _ (gi xs k) (List.mem_of_getElem? hx) hle1 hs) ?_)))))))))));rintro _ w ⟨H2,hle2,rfl,hs⟩
  refine .nil (.cond rfl (fun hc16=>?_) (fun hc16=>?_))
  ·refine .ai (.z zm (.zn zg (.ret (rB (rT (rB (rT (Fin.bu sP rfl ?_))))))))
   exact ⟨H2,_,hle1.trans hle2,rfl,.inr ⟨k,_,rfl,hx,hc16,hno⟩,hs⟩
  ·refine .skip (nB (nT ?_))
   exact .mk ⟨rfl,H2,hle1.trans hle2,eT hno hx hc16,hs⟩
 ·rintro fr w ⟨rfl,H1,hle1,hno,hs⟩
  refine nT (.ai (.zn zg (.ret (Fin.bu sP rfl ?_))))
  exact ⟨H1,_,hle1,rfl,.inl ⟨rfl,fun x hx=>by
   obtain ⟨j,hj⟩:=List.getElem?_of_mem hx
   exact hno j (List.getElem?_eq_some_iff.1 hj).1 x hj⟩,hs⟩
set_option maxHeartbeats 1000000 in
theorem mK{v:Value}{en:Ent}{xs:List Int}{g:Nat}{cap:List Value}(q:Int→Bool)(hs:St H w (en::σ))(hO:bS 1 v (Is xs) en)(hl:xs.length≤17592186044416)(hc:∀args w,(callFunc g args).run Tryz.prog w= .ok (.enter g args) w)
  (hp:∀H' w σ (n:Int),n∈xs→HLe H H'→St H' w σ→Cl Tryz.prog g ([I n]++cap) w fun u w'=>∃H1,HLe H' H1∧u= .bool (q n)∧St H1 w' σ):
  Cl Tryz.prog 267 [v,.func (.func g) #[] cap.toArray] w fun u w'=>∃H1 en',HLe H H1∧bS 1 u (Is (xs.filter fun x=> !q x)) en'∧St H1 w' (en'::σ):=by
 obtain ⟨a,c,rfl⟩:=hO.tC
 refine Cl.o Tryz.func267 Tryz.ntmps267 ag2 ?_
 refine .ai (.zn zg (.ai (.z zm (.z zm (.o (.call Tryz.call228 rfl (oh q hs hO hl hc hp) ?_))))));rintro _ w ⟨H1,i0,hle1,rfl,hcase,hs⟩
 refine .zn zg (.seq (.ai (.z zm (.zn kd (.bO rfl (fun hc12=>?_) (fun hc12=>?_))))))
 ·refine .ai (.z zm (.zn zg (.ret (rT (Fin.bu Tryz.results267 rfl ?_)))))
  have hno:∀x∈xs,q x=false:=by
   rcases hcase with ⟨_,h⟩|⟨k,x,h,_⟩
   ·exact h
   ·omega
  have e:xs.filter (fun x=> !q x)=xs:=List.filter_eq_self.2 fun x hx=>by simp [hno x hx]
  exact ⟨H1,en,hle1,by rw [e];exact hO,hs⟩
 ·refine .skip (nT (.seq (.ai (.z zm ?_))))
  obtain ⟨k0,x0,rfl,hx0,hq0,hno⟩:∃(k:Nat) (x:Int),i0=k∧xs[k]? =some x∧q x=true∧∀j<k,∀y,xs[j]? =some y→q y=false:=hcase.resolve_left fun h=>hc12 h.1
  have hk0:=(List.getElem?_eq_some_iff.1 hx0).1
  obtain ⟨b,c',sp,hv,rfl,hc'⟩:=hO.blk ak
  cases hv
  refine .z cq (.zn zg (.block ?_))
  refine .loop (fun p:Nat×Nat=>⟨42,[],[(5,I (p.1:Int)),(6,I (p.2:Int)),(1,.func (.func g) #[] cap.toArray),(0,.slice (some ⟨b,0,none⟩) xs.length c)]⟩)
   (fun p w=>k0<p.2∧∃Y H1,HLe H H1∧zB q xs Y p.1 p.2∧St H1 w (.blk b (Is Y++sp)::σ))
   (fun p=>xs.length - p.2) (k0,k0+1) (.cons rfl (.dy rfl (by dsimp only;omega) bn))
   ⟨by dsimp only;omega,xs,H1,hle1,.start hx0 hq0 hno,hs⟩ ?_
  clear hs hle1 hcase
  rintro ⟨i,j⟩ w ⟨hkj,Y,H1,hle1,hD,hs⟩
  dsimp only at hkj hD ⊢
  have hYl:=hD.len
  have hij:=hD.le
  have hjl:=hD.jl
  have hilt:=hD.lt hx0 hq0 hkj
  refine .seq (.ai (.z zm (.z zm (.z (cU ae) (.zn iJ (.bO rfl (fun hc19=>?_) (fun hc19=>?_)))))))
  ·refine .skip (nT (.seq (.block (.ai (.z zm (.z zm ?_))))))
   have hj:j<Y.length:=by omega
   have hx:xs[j]? =some (gi Y j):=by rw [hD.rest j (Nat.le_refl _)];exact bB ak
   refine .z (zix ae aj) (.q hs (gC rfl af (hv:=fa hj sp)) (.zn zg (.ai (.z zm (.z zm (.o (.nI (first:=[]) (cap:=cap) rfl rfl hc (hp _ _ _ (gi Y j) (List.mem_of_getElem? hx) hle1 hs) ?_)))))));rintro _ w ⟨H2,hle2,rfl,hs⟩
   refine .zn gP (.cond rfl (fun hc29=>?_) (fun hc29=>?_))
   ·refine .ai (.z zm (.z zm (.z zm (.z (zix ae aj) (.o (.store hs rfl rfl aj ?_ .here (nL (show i<Y.length by omega) sp) (kE (show i<Y.length by omega) sp _)))))));intro w hs
    refine .nil (.region (.z zm (.z cq (.zn zg (nB (nT (.region (.z zm (.z cq (.zn zg (nT ?_)))))))))))
    exact ⟨(i+1,j+1),.dy rfl (by dsimp only;omega) (.dy rfl (by dsimp only;omega) bn),⟨by dsimp only;omega,_,H2,hle1.trans hle2,hD.keep hx (by simpa using hc29),hs⟩,by dsimp only;omega⟩
   ·refine .skip (nB (nT (.region (.z zm (.z cq (.zn zg (nT ?_)))))))
    exact ⟨(i,j+1),.cons rfl (.dy rfl (by dsimp only;omega) bn),⟨by dsimp only;omega,_,H2,hle1.trans hle2,hD.skip hx (by simpa using hc29),hs⟩,by dsimp only;omega⟩
  ·refine .exit (xT (xT (xB (nT (.ai (.z zm (.z zm ?_)))))))
   obtain rfl:xs.length=j:=by omega
   refine .q hs (xH (k:=i) rfl rfl ae aj ak ak) ?_
   rw [show 0+i*1=i by omega]
   refine .o (.HC (c:=Is Y++sp) hs rfl ae bL (by simp;omega) ?_);intro w hs
   rw [hD.done sp] at hs
   have hil:=hD.il
   rw [List.take_length] at hil
   refine .nil (.ai (.z zm (.z zm (.q hs (tP (k:=i) rfl rfl ae aj ak) (.zn zg (.ret (Fin.bu Tryz.results267 rfl ?_)))))))
   exact ⟨H1,_,hle1,.inr ⟨b,i,c,List.replicate (xs.length - i) (I 0)++sp,rfl,rfl,by simp [hil],by simp [←hil];omega,ak⟩,hs⟩
def ve(L:List Int):List (List Value):=(List.range L.length).map fun j=>[I ((L.length - 1 - j:Nat):Int),I (gi L (L.length - 1 - j))]
theorem k7(L:List Int):(ve L).length=L.length:=by simp [ve]
theorem yx{L:List Int}{j:Nat}(h:j<(ve L).length):(ve L)[j]=[I ((L.length - 1 - j:Nat):Int),I (gi L (L.length - 1 - j))]:=by simp [ve]
theorem mM{H:bw}{b:Nat}{v:Value}{L:List Int}(hb:Row H b [v])(hr:RI H v L):Iter Tryz.prog 291 [Pt b] H (ve L):=by
 intro l II Ix _ _ hy H0 σb0 σf w hle hI0 hs
 obtain ⟨a,c,rfl⟩:=RI.shape hr
 have hlen:=(RI.len hr).2.2
 have hb0:cellAt H0 b 0=some (.slice a L.length c):=cellAt.mono (hb.at 0) hle
 refine Cl.o Tryz.func291 Tryz.ntmps291 ag2 ?_
 refine .ai (.y hs (zld an) (.z (cU ae) (.z ib (.zn zg (.block ?_)))))
 refine .loop (fun j:Nat=>⟨19,[],[(3,I ((L.length:Int) - 1 - (j:Int))),(0,.func (.yield l) #[] #[]),(1,Pt b)]⟩)
  (fun j w=>j≤L.length∧∃H1 σb,HLe H H1∧HLe H0 H1∧II j H1 σb∧St H1 w (σb++σf)) (fun j=>L.length - j) 0 (.dy rfl bV bn)
  ⟨Nat.zero_le _,H0,σb0,hle,HLe.refl _,hI0,hs⟩ ?_
 clear hs hI0
 rintro j w ⟨hj,H1,σb,hle1,hle0,hI,hs⟩
 have hb1:cellAt H1 b 0=some (.slice a L.length c):=cellAt.mono hb0 hle0
 refine .seq (.ai (.z zm (.zn yM (.bO rfl (fun hc8=>?_) (fun hc8=>?_)))))
 ·refine .skip (nT (.seq (.block (.ai (.z zm (.z zm (.y hs (zld an) (.z zm (.ixY hs (hr.mono hle1) rfl rfl ae aj (bB (l:=L) (i:=L.length - 1 - j) ak) ak ?_)))))))));intro b15 o15 hc15
  refine .q hs (aQ rfl af hc15) ?_
  have hk':j<(ve L).length:=by rw [k7];omega
  have hyd:=hy j hk' H1 σb σf w hle1 hI hs
  rw [yx hk',show ((L.length - 1 - j:Nat):Int)=(L.length:Int) - 1 - (j:Int) by omega] at hyd
  refine .o (.yield rfl rfl hyd ?_);rintro v17 w ⟨H2,σ2,g1,hs,g3⟩
  obtain ⟨bb,rfl,gT,gF⟩:=mY g3
  refine .zn gP (.cond rfl (fun hc18=>?_) (fun hc18=>?_))
  ·refine .ret (rB (rT (rT (rB (Fin.GI Tryz.results291 ?_)))))
   exact ⟨H2,σ2,hle0.trans g1,hs,.inr (gF (by simpa using hc18))⟩
  ·refine .skip (nB (nT (.region (.z zm (.z ib (.zn zg (nT ?_)))))))
   exact ⟨j+1,.dy rfl (by simp;omega) bn,⟨ak,H2,σ2,hle1.trans g1,hle0.trans g1,gT (by simpa using hc18),hs⟩,ak⟩
 ·refine .exit (xT (xT (xB ?_)))
  obtain rfl:L.length=j:=by omega
  exact Fin.yq Tryz.results291 ⟨H1,σb,hle0,hs,.inl (by rw [k7];exact hI)⟩
theorem om{v:Value}{L:List Int}(hs:St H w σ)(hr:RI H v L):
  Cl Tryz.prog 265 [v] w fun u w'=>∃H1 b,HLe H H1∧u= .func (.func 291) #[] #[Pt b]∧Iter Tryz.prog 291 [Pt b] H1 (ve L)∧St H1 w' σ:=by
 obtain ⟨a,c,rfl⟩:=RI.shape hr
 refine Cl.o Tryz.func265 Tryz.ntmps265 ag1 ?_
 refine .ai (.bx hs fun b1 w hs=>?_)
 refine .zn zg (.ai (.q hs (cJ (f:=[]) (c:=[_]) rfl rfl) (.zn zg (.ret (Fin.bu Tryz.results265 rfl ?_)))))
 obtain ⟨H1,g1,g2,hs⟩:=hs.bU .here
 exact ⟨H1,b1,g1,rfl,mM g2 (hr.mono g1),hs⟩
theorem sK{n m:Int}{b:Nat}(hs:St H w σ)(hb:Row H b [I m]):
  Cl Tryz.prog 268 [I n,Pt b] w fun u w'=>u= .bool (decide (n=m))∧St H w' σ:=by
 have hb0:cellAt H b 0=some (I m):=hb.at 0
 refine Cl.o Tryz.func268 Tryz.ntmps268 ag2 ?_
 refine .ai (.zn zg (.ai (.z zm (.y hs (zld af) (.z kd (.zn zg (.ret (Fin.bu Tryz.results268 rfl ?_))))))))
 exact ⟨rfl,hs⟩
set_option maxHeartbeats 1000000 in
theorem pF{v:Value}{s:ck}(hs:St H w σ)(hr:RSy H v s):
  Cl Tryz.prog 220 [v] w fun u w'=>∃H1 vx out e,HLe H H1∧u= .tuple #[vx,I e]∧RI H1 vx out∧zC s out e∧St H1 w' σ:=by
 obtain ⟨ul,rfl,hl⟩:=hr
 obtain ⟨al,cl,rfl⟩:=RL.shape hl
 refine Cl.o Tryz.func220 Tryz.ntmps220 ag1 ?_
 refine .ai (.bx hs fun b1 w hs=>?_)
 refine .z zg (.zn zg (.seq (.ai (.y hs (zls [_,_] aZ aF) (.o (.call Tryz.call197 rfl (ir (s:=s) hs ⟨_,rfl,hl⟩) ?_))))));rintro _ w ⟨rfl,hs⟩
 refine .zn zg (.ai (.z zm (.zn gg (.dO rfl (fun hc12=>?_) (fun hc12=>?_)))))
 ·refine .ai (.z zm (.z zg (.zn zg (.ret (rT (?_))))))
  exact Fin.gj [] [] hs fun w hs=>⟨_,results2 Tryz.results220 rfl rfl,H,_,[],_,HLe.refl H,rfl,RS.nil H 1 none 0,.bad hc12,hs.out⟩
 ·refine .skip (nT (.seq (.ai (.y hs (zls [_,_] aZ aF) ?_))))
  have hok:s.Ok:=s.db.1 (by simpa using hc12)
  have hll:=hok.len
  refine .o (.call Tryz.call223 rfl (iS (s:=s) hs hok ⟨_,rfl,hl⟩) ?_);rintro _ w ⟨H1,bb,hle1,rfl,hbb,hs⟩
  refine .nil (.cond rfl (fun hc15=>?_) (fun hc15=>?_))
  ·refine .ai (.z zg (.zn zg (.ret (rT (?_)))))
   exact Fin.gj [] [] hs fun w hs=>⟨_,results2 Tryz.results220 rfl rfl,H1,_,[],_,hle1,rfl,RS.nil H1 1 none 0,.none hok (hbb.1 hc15),hs.out⟩
  ·refine .skip (nT (.ai (.y hs (zls [_,_] aZ aF) ?_)))
   have hns:¬s.Sound:=fun h=>by rw [hbb.2 h] at hc15;cases hc15
   refine .o (.call Tryz.call264 rfl (kY (s:=s) hs ⟨_,rfl,hl.mono hle1⟩ ak) ?_);rintro v17 w ⟨L,en,hO,hLl,hRise,hs⟩
   obtain ⟨a17,l17,c17,rfl,h17⟩:=hO.shape
   refine .o (.alloc hs dz rfl fun b5 w hs=>?_)
   refine .o (.store hs rfl rfl au fun w hs=>?_)
   refine .nil (.seq (.ai (.y hs (zls [_,_] aZ aF) (.o (.call Tryz.call264 rfl (kY (s:=s) hs ⟨_,rfl,hl.mono hle1⟩ ak) ?_)))));rintro v19 w ⟨L',en',hO',hLl',hRise',hs⟩
   obtain rfl:L=L':=hRise.uniq hRise'
   obtain ⟨H2,hle2,hR19,hs⟩:=bS.dJ hO' ak hs .here
   refine .o (.call Tryz.call265 rfl (om hs hR19) ?_);rintro _ w ⟨H3,b20,hle3,rfl,hit,hs⟩
   have hle03:=hle1.trans (hle2.trans hle3)
   refine .nil (.block ?_)
   refine .rangeFunc (gf:=291) (cap:=[Pt b20]) (xs:=ve L) (σb:=[.blk b1 [I s.many,.slice al s.bY.length cl],.blk b5 [.slice a17 l17 c17],en]) (σf:=σ) (hs.sb:St H3 w (.blk b1 _:: .blk b5 _::en::σ)) trivial rfl hit Tryz.call291 (fun x hx=>by
     simp only [ve,List.mem_map] at hx
     obtain ⟨j,_,rfl⟩:=hx;rfl) rfl
    (I:=fun j H' σb=>∃(t:ck) (ut vo:Value) (out:List Int) (en:Ent),σb=[.blk b1 [I t.many,ut],.blk b5 [vo],en]∧RL H' ut t.bY∧bS 1 vo (Is out) en∧out.length≤L.length∧t.Ok∧uB s L (L.length - j) t out) (Ix:=fun _ _ _=>False)
    (fun j _ _ σ g1 ⟨t,ut,vo,out,en,g2,g3,g4⟩=>⟨t,ut,vo,out,en,g2,g3.mono g1,g4⟩) (fun _ _ _ _ _ h=>h)
    ⟨s,_,_,L,en,rfl,hl.mono hle03,hO,Nat.le_refl _,hok,.start⟩ ?_ ?_ (fun D c H' σb w _ h _=>h.elim)
   ·rintro l j hj H4 σb2 σf2 w hle4 ⟨t,ut,vo,out,en,rfl,hut,hOo,hol,htok,hC⟩ hs ⟨rr,hrr⟩
    rw [yx hj]
    have hjL:j<L.length:=by rw [k7] at hj;exact hj
    obtain ⟨at',ct,rfl⟩:=RL.shape hut
    obtain ⟨ao,lo,co,rfl,hlo⟩:=hOo.shape
    refine .region (.o (.alloc hs bL rfl fun b7 w hs=>?_))
    refine .o (.store hs rfl rfl aj fun w hs=>?_)
    refine .nil (nT (⟨H4,[.blk b7 [I (gi L (L.length - 1 - j))],.blk b1 [I t.many,.slice at' t.bY.length ct],.blk b5 [.slice ao lo co],en],HLe.refl _,hs,?_⟩));rintro w σf4 - hs
    refine .block (.ai (.y hs (zls [_,_] aZ aF) (.y hs (zld af) (.o (.buildSlice (cells:=[_]) hs bX rfl rfl fun b25 w hs=>?_)))))
    obtain ⟨H5,hle5,r25,hs⟩:=bS.dJ (xs:=[gi L (L.length - 1 - j)]) (v:= .slice (some ⟨b25,0,none⟩) 1 1) (.full (len:=1) rfl) bV hs fh
    refine .o (.call Tryz.call266 rfl (qz (s:=t) hs ⟨_,rfl,hut.mono hle5⟩ r25 (by have:=htok.len;omega)) ?_);rintro _ w ⟨H6,hle6,⟨u26,rfl,hL26⟩,hs⟩
    obtain ⟨a26,c26,rfl⟩:=RL.shape hL26
    refine .o (.alloc hs dG rfl fun b8 w hs=>?_)
    refine .o (.aH (vs:=[_,_]) hs rfl rfl aF fun w hs=>?_)
    refine .nil (.ai (.y hs (zls [_,_] aZ aF) (.o (.call Tryz.call223 rfl (iS (s:=t.wo [gi L (L.length - 1 - j)]) hs (htok.wo _) ⟨_,rfl,hL26⟩) ?_))));rintro _ w ⟨H7,b28,hle7,rfl,hb28,hs⟩
    have hle47:=hle5.trans (hle6.trans hle7)
    refine .zn gP (.cond rfl (fun hc29=>?_) (fun hc29=>?_))
    ·refine .ai (.y hs (zls [_,_] aZ aF) (.o (.aH (vs:=[_,_]) hs rfl rfl aF fun w hs=>?_)))
     refine .nil (.region (.y hs (zld an) (.q hs (cJ (f:=[]) (c:=[_]) rfl rfl) ?_)))
     obtain ⟨H8,hle8,r7,hs⟩:=hs.bU (b:=b7) fh
     replace hs:St H8 w (en:: .blk b1 [I t.many,.slice a26 (t.wo [gi L (L.length - 1 - j)]).bY.length c26]:: .blk b5 [.slice ao lo co]::σf4):=hs.sb
     refine .o (.call Tryz.call267 rfl (mK (g:=268) (cap:=[Pt b7]) (fun n=>decide (n=gi L (L.length - 1 - j))) hs hOo ak Tryz.call268
      (fun H' w σ n _ hle hs=>(sK hs (r7.mono hle)).mono fun u w' ⟨g1,g2⟩=>⟨H',HLe.refl _,g1,g2⟩)) ?_);rintro v33 w ⟨H9,en9,hle9,hO9,hs⟩
     obtain ⟨a33,l33,c33,rfl,h33⟩:=hO9.shape
     refine .o (.store hs rfl rfl au fun w hs=>?_)
     refine .nil (nB ?_)
     have hfl:=List.length_filter_le (fun n=> !decide (n=gi L (L.length - 1 - j))) out
     have e:L.length - (j+1)=L.length - 1 - j:=by omega
     have hns':¬(t.wo [gi L (L.length - 1 - j)]).Sound:=fun h=>by rw [hb28.2 h] at hc29;cases hc29
     exact ⟨H9,[.blk b1 [I t.many,.slice a26 (t.wo [gi L (L.length - 1 - j)]).bY.length c26],.blk b5 [.slice a33 l33 c33],en9],hle47.trans (hle8.trans hle9),(hs.sb:St H9 w (.blk b1 _:: .blk b5 _::en9::σf4)),t.wo [gi L (L.length - 1 - j)],_,_,_,_,rfl,hL26.mono (hle7.trans (hle8.trans hle9)),hO9,ak,htok.wo _,by
      rw [e]
      exact .drop (by rw [show L.length - 1 - j+1=L.length - j by omega];exact hC) hns'⟩
    ·refine .skip (nB ?_)
     have e:L.length - (j+1)=L.length - 1 - j:=by omega
     have hsd':(t.wo [gi L (L.length - 1 - j)]).Sound:=hb28.1 (by simpa using hc29)
     exact ⟨H7,[.blk b1 [I t.many,.slice at' t.bY.length ct],.blk b5 [.slice ao lo co],en],hle47,(hs.sb:St H7 w (.blk b1 _:: .blk b5 _::en::σf4)),t,_,_,_,_,rfl,hut.mono hle47,hOo,hol,htok,by
      rw [e]
      exact .keep (by rw [show L.length - 1 - j+1=L.length - j by omega];exact hC) hsd'⟩
   ·rintro D H4 σb2 w hle4 ⟨t,ut,vo,out,en,rfl,hut,hOo,hol,htok,hC⟩ hs
    rw [k7,Nat.sub_self] at hC
    obtain ⟨ao,lo,co,rfl,hlo⟩:=hOo.shape
    replace hs:St H4 w (.obj D (.deferred (some [])):: .blk b1 [I t.many,ut]:: .blk b5 [.slice ao lo co]::en::σ):=hs
    refine nB (nT (.ai (.y hs (zld an) (.z zg (.zn zg (.ret ?_))))))
    obtain ⟨H5,hle5,hR5,hs⟩:=bS.dJ hOo ak hs fh
    exact Fin.gj [D] [] hs fun w hs=>⟨_,results2 Tryz.results220 rfl rfl,H5,_,out,0,hle03.trans (hle4.trans hle5),rfl,hR5,.ok hok hns hRise hC,hs.out⟩
theorem mJ{v:Value}{xs:List Int}{g:Nat}{cap:List Value}(q:Int→Prop)(hs:St H w σ)(hR:RI H v xs)(hc:∀args w,(callFunc g args).run Tryz.prog w= .ok (.enter g args) w)
  (hp:∀H' w σ (n:Int),n∈xs→HLe H H'→St H' w σ→Cl Tryz.prog g ([I n]++cap) w fun u w'=>∃H1 b,HLe H' H1∧u= .bool b∧(b=true↔q n)∧St H1 w' σ):
  Cl Tryz.prog 228 [v,.func (.func g) #[] cap.toArray] w fun u w'=>∃H1 i,HLe H H1∧u=I i∧(0≤i↔∃x∈xs,q x)∧St H1 w' σ:=by
 obtain ⟨a,c,rfl⟩:=RI.shape hR
 have hl:=(RI.len hR).2.2
 refine Cl.o Tryz.func228 Tryz.ntmps228 ag2 ?_
 refine .ai (.zn zg (.seq (.ai (.z zm (.z (cU ae) (.zn zm (.for (N:=xs.length) (J:=fun k fr w=>fr=[(1,.func (.func g) #[] cap.toArray),(0,.slice a xs.length c)]∧∃H1,HLe H H1∧(∀j<k,∀y,xs[j]? =some y→¬q y)∧St H1 w σ) ak ?_ ?_ ?_)))))))
 ·exact .mk ⟨rfl,H,HLe.refl H,fun j hj=>by omega,hs⟩
 ·rintro k fr w hk ⟨rfl,H1,hle1,hno,hs⟩
  obtain ⟨x,hx⟩:=nth hk
  refine .block (.ai (.z zm (.zn zg (.ai (.z zm (.z zm (.z zm (.ixY hs (hR.mono hle1) rfl rfl ae aj hx rfl ?_))))))));intro b14 o14 hc14
  refine .q hs (aQ rfl af hc14) (.o (.nI (first:=[]) (cap:=cap) rfl rfl hc (hp _ _ _ x (List.mem_of_getElem? hx) hle1 hs) ?_));rintro _ w ⟨H2,b16,hle2,rfl,hb16,hs⟩
  refine .nil (.cond rfl (fun hc16=>?_) (fun hc16=>?_))
  ·refine .ai (.z zm (.zn zg (.ret (rB (rT (rB (rT (Fin.bu sP rfl ?_))))))))
   exact ⟨H2,_,hle1.trans hle2,rfl,⟨fun _=>⟨x,List.mem_of_getElem? hx,hb16.1 hc16⟩,fun _=>by omega⟩,hs⟩
  ·refine .skip (nB (nT ?_))
   exact .mk ⟨rfl,H2,hle1.trans hle2,eT hno hx (fun h=>by rw [hb16.2 h] at hc16;cases hc16),hs⟩
 ·rintro fr w ⟨rfl,H1,hle1,hno,hs⟩
  refine nT (.ai (.zn zg (.ret (Fin.bu sP rfl ?_))))
  exact ⟨H1,_,hle1,rfl,⟨fun h=>by omega,fun ⟨x,h1,h2⟩=>by
   obtain ⟨j,hj⟩:=List.getElem?_of_mem h1
   exact (hno j (List.getElem?_eq_some_iff.1 hj).1 x hj h2).elim⟩,hs⟩
theorem ld{v:Value}{xs:List Int}{g:Nat}{cap:List Value}(q:Int→Prop)(hs:St H w σ)(hR:RI H v xs)(hc:∀args w,(callFunc g args).run Tryz.prog w= .ok (.enter g args) w)
  (hp:∀H' w σ (n:Int),n∈xs→HLe H H'→St H' w σ→Cl Tryz.prog g ([I n]++cap) w fun u w'=>∃H1 b,HLe H' H1∧u= .bool b∧(b=true↔q n)∧St H1 w' σ):
  Cl Tryz.prog 185 [v,.func (.func g) #[] cap.toArray] w fun u w'=>∃H1 b,HLe H H1∧u= .bool b∧(b=true↔∃x∈xs,q x)∧St H1 w' σ:=by
 refine Cl.o Tryz.func185 Tryz.ntmps185 ag2 ?_
 refine .ai (.zn zg (.ai (.z zm (.z zm (.o (.call Tryz.call228 rfl (mJ q hs hR hc hp) ?_))))));rintro _ w ⟨H1,i,hle1,rfl,hi,hs⟩
 refine .z yM (.zn zg (.ret (Fin.bu Tryz.results185 rfl ?_)))
 exact ⟨H1,_,hle1,rfl,by simp only [decide_eq_true_eq];exact hi,hs⟩
theorem oW{a0 a1 a2:Int}(hs:St H w σ):Cl Tryz.prog 284 [I a0,I a1,I a2] w fun v w'=>v= .bool (decide (a1≤a0∧a0≤a2))∧St H w' σ:=by
 refine Cl.o Tryz.func284 Tryz.ntmps284 ag3 ?_
 refine .ai (.zn zg (.ai (.z zm (.z zm (.z uJ (.z zm (.kF (t':=10) rfl (fun hb10=>?_) (fun hb10=>?_))))))))
 ·refine .T (.z zm (.T (.z zm (.T (.z uJ (.z zpT (.zn zg (.ret (Fin.bu Tryz.results284 rfl ?_)))))))))
  exact ⟨by simp [*],hs.out⟩
 ·refine .Fs 3 3 true (.z zpF (.zn zg (.ret (Fin.bu Tryz.results284 rfl ?_))))
  exact ⟨by simp [*],hs.out⟩
theorem gW{v:Value}{l:List Int}{many:Nat}{most:Int}(hs:St H w σ)(hr:RI H v l):
  Cl Tryz.prog 259 [v,I many,I most] w fun v w'=>∃b:Bool,v= .bool b∧(b=true↔gN many most l)∧St H w' σ:=by
 obtain ⟨a,c,rfl⟩:=RI.shape hr
 have hlen:=(RI.len hr).2.2
 refine Cl.o Tryz.func259 Tryz.ntmps259 ag3 ?_
 refine .ai (.zn zg (.seq (.ai (.z zm (.z (cU ae) (.z zm (.o (.call Tryz.call284 rfl (oW hs) ?_))))))));rintro _ w ⟨rfl,hs⟩
 refine .z gP (.z zm (.bif (t':=14) rfl (fun hb14=>?_) (fun hb14=>?_)))
 ·refine .Fs 4 5 false (.z zpT (.z zm (.Fs 8 11 false (.zn zpT (.cT (.ai (.zn zg (.ret (rT (Fin.bu Bp rfl ?_))))))))))
  exact ⟨false,rfl,⟨fun h=>(by cases h),fun h=>by have:=h.two;have:=h.many;simp at hb14;omega⟩,hs⟩
 ·refine .T (.z zm (.T ?_))
  have htwo:2≤l.length∧l.length≤many:=by simp at hb14;omega
  refine .ixY hs hr rfl rfl ae aj (bB (l:=l) (i:=0) ak) df ?_;intro b16 o16 hc16
  refine .T (.q hs (aQ rfl af hc16) (.T (.z iJ (.z zpF (.z zm (.kF (t':=20) rfl (fun hb20=>?_) (fun hb20=>?_)))))))
  ·refine .Fs 8 11 false (.zn zpT (.cT (.ai (.zn zg (.ret (rT (Fin.bu Bp rfl ?_)))))))
   exact ⟨false,rfl,⟨fun h=>(by cases h),fun h=>by have:=h.low;omega⟩,hs⟩
  ·refine .T (.z zm (.T (.z zm (.T (.z (cU ae) (.T (.z ib (.T (.ixY hs hr rfl rfl ae aj (bB (l:=l) (i:=(l.length - 1)) ak) df ?_)))))))));intro b25 o25 hc25
   refine .T (.q hs (aQ rfl af hc25) (.T (.z zm (.T (.z pQ (.zn zpF (.bO rfl (fun hc29=>?_) (fun hc29=>?_))))))))
   ·refine .ai (.zn zg (.ret (rT (Fin.bu Bp rfl ?_))))
    exact ⟨false,rfl,⟨fun h=>(by cases h),fun h=>by have:=h.high;omega⟩,hs⟩
   ·refine .skip (nT (.seq (.ai (.z zm (.q hs (BY (k:=1) rfl rfl ae aj ak ak) (.z (cU ae) (.zn zm (.for (N:=l.length - 1) (J:=fun k fr w=>fr=[(31,.slice (if c=1 then a else a.map (·.add (1*1))) (l.length - 1) (c - 1)),(0,.slice a l.length c)]∧(∀j<k,gi l j<gi l (j+1))∧St H w σ) ak ?_ ?_ ?_))))))))
    ·exact .mk ⟨rfl,fun j hj=>by omega,hs⟩
    ·rintro k fr w hk ⟨rfl,hno,hs⟩
     have ht:=hr.tail (k:=1) ak
     have hx:(l.drop 1)[k]? =some (gi l (k+1)):=by rw [List.getElem?_drop,Nat.add_comm];exact bB ak
     refine .block (.ai (.z zm (.ixY hs ht rfl rfl ae aj hx rfl ?_)));intro b36 o36 hc36
     refine .q hs (aQ rfl af hc36) (.z zg (.zn zg (.ai (.z zm (.z zm (.ixY hs hr rfl rfl ae aj (bB (l:=l) (i:=k) ak) df ?_))))));intro b40 o40 hc40
     refine .q hs (aQ rfl af hc40) (.z zm (.zn yM (.bO rfl (fun hc43=>?_) (fun hc43=>?_))))
     ·refine .ai (.zn zg (.ret (rB (rT (rB (rT (Fin.bu Bp rfl ?_)))))))
      exact ⟨false,rfl,⟨fun h=>(by cases h),fun h=>by have:=h.rise k ak;omega⟩,hs⟩
     ·refine .skip (nB (nT ?_))
      exact .mk ⟨rfl,fun j hj=>by
       by_cases e:j=k
       ·subst e;omega
       ·exact hno j ak,hs⟩
    ·rintro fr w ⟨rfl,hno,hs⟩
     refine nT (.ai (.zn zg (.ret (Fin.bu Bp rfl ?_))))
     exact ⟨true,rfl,⟨fun _=>⟨ak,ak,ak,ak,fun i hi=>hno i ak⟩,fun _=>rfl⟩,hs⟩
theorem mH{v:Value}{l:List Int}(hs:St H w σ)(hr:RI H v l):
  Cl Tryz.prog 299 [v] w fun v w'=>∃e,v=I e∧((gN 9 100000 l∧e=0)∨(¬gN 9 100000 l∧e≠0))∧St H w' σ:=by
 obtain ⟨a,c,rfl⟩:=RI.shape hr
 refine Cl.o Tryz.func299 Tryz.ntmps299 ag1 ?_
 refine .ai (.zn zg (.seq (.ai (.z zm (.o (.call Tryz.call259 rfl (gW (many:=9) (most:=100000) hs hr) ?_))))));rintro _ w ⟨b4,rfl,hb4,hs⟩
 refine .zn gP (.cond rfl (fun hc5=>?_) (fun hc5=>?_))
 ·refine .ai (.zn zg (.ret (rT (Fin.bu Tryz.results299 rfl ?_))))
  exact ⟨_,rfl,.inr ⟨fun h=>by simp [hb4.2 h] at hc5,by decide⟩,hs⟩
 ·refine .skip (nT (.ai (.zn zg (.ret (Fin.bu Tryz.results299 rfl ?_)))))
  exact ⟨_,rfl,.inl ⟨hb4.1 (by simpa using hc5),rfl⟩,hs⟩
theorem ig{a b:Int}(hs:St H w σ)(ha:0<a)(hb:0<b∧b≤100000):
  Cl Tryz.prog 287 [I a,I b] w fun v w'=>v=I (rat a b)∧St H w' σ:=by
 have h1:0≤b.tdiv a:=Int.tdiv_nonneg ak ak
 have h2:b.tdiv a≤b:=by rw [Int.tdiv_eq_ediv_of_nonneg ak];exact Int.ediv_le_self _ ak
 have hw:=lq (m:=b.tdiv a) ⟨ak,ak⟩
 refine Cl.o Tryz.func287 Tryz.ntmps287 ag2 ?_
 refine .ai (.zn zg (.seq (.ai (.z zm (.z zm (.z Az (.z kd (.z zm (.kF (t':=9) rfl (fun hb9=>?_) (fun hb9=>?_))))))))))
 ·refine .T (.z zm (.T (.z zm (.T (.z GH (.T (.z uJ (.zn zpT (.bO rfl (fun hc14=>?_) (fun hc14=>?_))))))))))
  ·refine .ai (.z zm (.z zm (.z GH (.zn zg (.ret (rT (Fin.bu Tryz.results287 rfl ?_)))))))
   rw [hw] at hc14 ⊢
   exact ⟨by unfold rat;rw [if_pos ⟨by assumption,by assumption⟩],hs⟩
  ·refine .skip (nT (.ai (.zn zg (.ret (Fin.bu Tryz.results287 rfl ?_)))))
   rw [hw] at hc14
   exact ⟨by unfold rat;rw [if_neg ak],hs⟩
 ·refine .Fs 4 4 true (.zn zpF (.cF (.skip (nT (.ai (.zn zg (.ret (Fin.bu Tryz.results287 rfl ?_))))))))
  exact ⟨by unfold rat;rw [if_neg ak],hs⟩
def qs(l:List Int):List (List Value):=(wP l).map fun g=>[Value.agg #[I (g.at_:Int),I (g.n:Int)]]
theorem Bt{l:List Int}(hp:gN 9 100000 l){i:Nat}(h:i+2<l.length):fO l i=true↔0<rat (gi l (i+1) - gi l i) (gi l (i+2) - gi l (i+1))∨0<rat (gi l (i+2) - gi l (i+1)) (gi l (i+1) - gi l i):=by
 have h1:=hp.rise i ak
 have h2:gi l (i+1)<gi l (i+2):=hp.rise (i+1) ak
 unfold fO
 rw [Bz ak ak]
 simp only [Bool.and_eq_true,decide_eq_true_eq]
 omega
theorem oX{H:bw}{b:Nat}{v:Value}{l:List Int}(hp:gN 9 100000 l)(hb:Row H b [v])(hr:RI H v l):Iter Tryz.prog 302 [Pt b] H (qs l):=by
 intro ly II Ix _ _ hy H0 σb0 σf w hle hI0 hs
 obtain ⟨a,c,rfl⟩:=RI.shape hr
 have hlen:=hp.many
 have hb0:cellAt H0 b 0=some (.slice a l.length c):=cellAt.mono (hb.at 0) hle
 refine Cl.o Tryz.func302 Tryz.ntmps302 ag2 ?_
 refine .ai (.zn zg (.block ?_))
 refine .loop (fun i:Nat=>⟨59,[],[(3,I (i:Int)),(0,.func (.yield ly) #[] #[]),(1,Pt b)]⟩)
  (fun i w=>i≤l.length∧∃j,j≤(wP l).length∧(wP l).drop j=oL l i∧∃H1 σb,HLe H H1∧HLe H0 H1∧II j H1 σb∧St H1 w (σb++σf)) (fun i=>l.length - i) 0 (.dy rfl bV bn)
  ⟨Nat.zero_le _,0,Nat.zero_le _,rfl,H0,σb0,hle,HLe.refl _,hI0,hs⟩ ?_
 clear hs hI0
 rintro i w ⟨hil,j,hj,hd,H1,σb,hle1,hle0,hI,hs⟩
 have hb1:cellAt H1 b 0=some (.slice a l.length c):=cellAt.mono hb0 hle0
 refine .seq (.ai (.z zm (.z cq (.y hs (zld an) (.z (cU ae) (.zn iJ (.bO rfl (fun hc11=>?_) (fun hc11=>?_))))))))
 ·refine .skip (nT (.block (.ai (.z zm (.z (zbd [_,_] xa) (.o (.alloc hs Tryz.zeroValue315 rfl fun b4 w hs=>?_)))))))
  refine .o (.aH (vs:=[_,_]) hs rfl rfl Tryz.sizeOf315 fun w hs=>?_)
  refine .nil (.cut (fun fs w=>lZ fs ⟨59,[],[(4,Pt b4),(3,I (i:Int)),(0,.func (.yield ly) #[] #[]),(1,Pt b)]⟩∧St H1 w (.blk b4 [I (i:Int),I (((if fO l i then 2 else 1:Nat)):Int)]::(σb++σf))) ?_ ?_)
  ·refine .ai (.z zm (.z cq (.y hs (zld an) (.z (cU ae) (.zn iJ (.bO rfl (fun hc18=>?_) (fun hc18=>?_)))))))
   ·refine .seq (.draw mix rfl hs fun w hs=>?_)
    refine .y 0 rfl hs an ?_;refine .z 1 rfl zm ?_;refine .z 2 rfl cq ?_
    have r1:=hp.rise i ak
    have r2:gi l (i+1)<gi l (i+2):=hp.rise (i+1) ak
    have hiff:=Bt hp (i:=i) ak
    have q1:=hp.bd (i:=i) ak
    have q2:=hp.bd (i:=i+2) ak
    refine .ixX (enc:=fun x=>[I x]) (i:=3) hs rfl aE .none (hr.mono hle1) rfl rfl ae aj (bB (l:=l) (i:=(i+1)) ak) df ?_;intro b22 o22 hc22;replace hc22:=bK.one hc22
    refine .r (i:=4) hs rfl aE .none (aQ rfl af hc22) ?_
    refine .y 5 rfl hs an ?_;refine .z 6 rfl zm ?_
    refine .ixX (enc:=fun x=>[I x]) (i:=7) hs rfl aE .none (hr.mono hle1) rfl rfl ae aj (bB (l:=l) (i:=i) ak) df ?_;intro b26 o26 hc26;replace hc26:=bK.one hc26
    refine .r (i:=8) hs rfl aE .none (aQ rfl af hc26) ?_
    refine .zw 9 rfl ib ?_;refine .y 10 rfl hs an ?_;refine .z 11 rfl zm ?_;refine .z 12 rfl cq ?_
    refine .ixX (enc:=fun x=>[I x]) (i:=13) hs rfl aE .none (hr.mono hle1) rfl rfl ae aj (bB (l:=l) (i:=(i+2)) ak) df ?_;intro b32 o32 hc32;replace hc32:=bK.one hc32
    refine .r (i:=14) hs rfl aE .none (aQ rfl af hc32) ?_
    refine .y 15 rfl hs an ?_;refine .z 16 rfl zm ?_;refine .z 17 rfl cq ?_
    refine .ixX (enc:=fun x=>[I x]) (i:=18) hs rfl aE .none (hr.mono hle1) rfl rfl ae aj (bB (l:=l) (i:=(i+1)) ak) df ?_;intro b37 o37 hc37;replace hc37:=bK.one hc37
    refine .r (i:=19) hs rfl aE .none (aQ rfl af hc37) ?_
    refine .zw 20 rfl ib ?_;refine .z 21 rfl zg ?_;refine .z 22 rfl zg ?_;refine .D hs ?_
    refine .ai (.z zm (.z zm (.o (.call Tryz.call287 rfl (ig hs ak ak) ?_))));rintro _ w ⟨rfl,hs⟩
    refine .z pQ (.z zm (.kF (t':=44) rfl (fun hb44=>?_) (fun hb44=>?_)))
    ·refine .Fs 4 4 false (.zn zpT (.cT (.region (.z (zfa ji) (.o (.store hs rfl rfl aj fun w hs=>?_))))))
     refine .nil (nT ?_)
     rw [hiff.2 (.inl hb44)];exact ⟨bn,hs⟩
    ·refine .T (.z zm (.T (.z zm (.T (.o (.call Tryz.call287 rfl (ig hs ak ak) ?_))))));rintro _ w ⟨rfl,hs⟩
     refine .T (.z pQ (.zn zpF (.bO rfl (fun hc49=>?_) (fun hc49=>?_))))
     ·refine .region (.z (zfa ji) (.o (.store hs rfl rfl aj fun w hs=>?_)))
      refine .nil (nT ?_)
      rw [hiff.2 (.inr hc49)];exact ⟨bn,hs⟩
     ·refine .skip (nT ?_)
      rw [show fO l i=false from Bool.eq_false_iff.2 fun h=>by have:=hiff.1 h;omega];exact ⟨bn,hs⟩
   ·refine .skip (nT ?_)
    rw [show fO l i=false by simp [fO];omega];exact ⟨bn,hs⟩
  ·rintro fs w ⟨hfs,hs⟩
   refine WE.sub ?_ hfs
   have hgo:=yc (l:=l) (i:=i) ak
   rw [hgo] at hd
   have hjl:j<(wP l).length:=by
    have:=congrArg List.length hd
    simp at this;omega
   have hgj:(wP l)[j]=⟨i,fO l i⟩:=by
    rw [List.drop_eq_getElem_cons hjl] at hd
    exact (List.cons.inj hd).1
   have hdj:(wP l).drop (j+1)=oL l (i+(if fO l i then 2 else 1)):=by
    rw [List.drop_eq_getElem_cons hjl] at hd
    exact (List.cons.inj hd).2
   have hn12:(if fO l i then 2 else 1:Nat)=1∨(if fO l i then 2 else 1:Nat)=2:=by split<;>simp
   refine .seq (.ai (.z zm (.y hs (zls [_,_] Tryz.isAgg315 Tryz.sizeOf315) ?_)))
   have hk':j<(qs l).length:=by simpa [qs] using hjl
   have hyd:=hy j hk' H1 σb (.blk b4 [I (i:Int),I (((if fO l i then 2 else 1:Nat)):Int)]::σf) w hle1 hI (St.deep hs)
   rw [show (qs l)[j]=[Value.agg #[I (i:Int),I (((if fO l i then 2 else 1:Nat)):Int)]] by simp only [qs,List.getElem_map,hgj];rfl] at hyd
   refine .o (.yield rfl rfl hyd ?_);rintro v53 w ⟨H2,σ2,g1,hs,g3⟩
   obtain ⟨bb,rfl,gT,gF⟩:=mY g3
   replace hs:=St.shallow hs
   refine .zn gP (.cond rfl (fun hc54=>?_) (fun hc54=>?_))
   ·refine .ret (rT (rB (rT (rB (Fin.GI Tryz.results302 ?_)))))
    exact ⟨H2,σ2,hle0.trans g1,hs.tail,.inr (gF (by simpa using hc54))⟩
   ·refine .skip (nT (.region (.z zm (.z (zfa ji) (.y hs (zld af) (.z cq (.zn zg (nB (nT ?_)))))))))
    generalize (if fO l i then 2 else 1:Nat)=n at*
    exact ⟨i+n,.dy rfl bV bn,⟨ak,j+1,hjl,hdj,H2,σ2,hle1.trans g1,hle0.trans g1,gT (by simpa using hc54),hs.tail⟩,ak⟩
 ·refine .exit (xT (xT (xB ?_)))
  rw [vR ak] at hd
  have:(wP l).length≤j:=by simpa using hd
  obtain rfl:j=(wP l).length:=by omega
  exact Fin.yq Tryz.results302 ⟨H1,σb,hle0,hs,.inl (by simpa [qs] using hI)⟩
theorem qV{v:Value}{l:List Int}(hs:St H w σ)(hr:RI H v l)(hp:gN 9 100000 l):
  Cl Tryz.prog 286 [v] w fun u w'=>∃H1 b,HLe H H1∧u= .func (.func 302) #[] #[Pt b]∧Iter Tryz.prog 302 [Pt b] H1 (qs l)∧St H1 w' σ:=by
 obtain ⟨a,c,rfl⟩:=RI.shape hr
 refine Cl.o Tryz.func286 Tryz.ntmps286 ag1 ?_
 refine .ai (.bx hs fun b1 w hs=>?_)
 refine .zn zg (.ai (.q hs (cJ (f:=[]) (c:=[_]) rfl rfl) (.zn zg (.ret (Fin.bu Tryz.results286 rfl ?_)))))
 obtain ⟨H1,g1,g2,hs⟩:=hs.bU .here
 exact ⟨H1,b1,g1,rfl,oX hp g2 (hr.mono g1),hs⟩
theorem oJ{bs bW from_ n:Nat}{W xs:List Int}{v:Value}(hs:St H w (.blk bs [.slice (some ⟨bW,0,none⟩) n n]:: .blk bW (Is W)::σ))(hW:W.length=n)(hr:RI H v xs)(hl:from_+xs.length≤n)(hn:n≤9)
  (hz:bA W n≤1000000000) (ha:vY xs≤1000000000):
  Cl Tryz.prog 285 [Pt bs,I (from_:Int),v] w fun _ w'=>St H w' (.blk bs [.slice (some ⟨bW,0,none⟩) n n]:: .blk bW (Is (lA W from_ xs))::σ):=by
 obtain ⟨a,c,rfl⟩:=RI.shape hr
 have hlen:=(RI.len hr).2.2
 refine Cl.o Tryz.func285 Tryz.ntmps285 ag3 ?_
 refine .ai (.z zm (.z (cU ae) (.zn zm (.for (N:=xs.length) (J:=fun k fr w=>fr=[(8,.slice a xs.length c),(0,Pt bs),(1,I (from_:Int))]∧St H w (.blk bs [.slice (some ⟨bW,0,none⟩) n n]:: .blk bW (Is (lA W from_ (xs.take k)))::σ)) ak ?_ ?_ ?_))))
 ·exact .mk ⟨rfl,hs⟩
 ·rintro k fr w hk ⟨rfl,hs⟩
  have hal:=nO (xs.take k) W from_
  have hsz:=pI (xs.take k) W from_ (by rw [List.length_take];omega)
  rw [hW] at hsz
  have h1:=yA xs k
  have h2:=C2 xs k
  have h3:=l5 (lA W from_ (xs.take k)) (v:=from_+k) (n:=n) ak
  have h4:=A8 hk W from_
  refine .block (.ai (.z zm (.ixY hs hr rfl rfl ae aj (bB (l:=xs) (i:=k) ak) df ?_)));intro b13 o13 hc13
  refine .q hs (aQ rfl af hc13) (.z zg (.zn zg (.region (.z zm (.z znc (.z (zfa oM) (.y hs (zld an) (.z zm (.z zm (.z cq (.q hs (kq (k:=from_+k) rfl rfl ae aj ak ak) (.y hs (zld af) (.z zm (.z cq (.q hs (kq (k:=from_+k) rfl rfl ae aj ak ak) (.o (.store hs rfl rfl aj fun w hs=>?_)))))))))))))))))
  refine .nil (nB (nT ?_))
  exact .mk ⟨rfl,by rw [h4];exact hs⟩
 ·rintro fr w ⟨rfl,hs⟩
  rw [List.take_length] at hs
  exact Fin.yq Tryz.results285 hs
theorem AW{a b:Int}(ha:0<a∧a≤100000)(hb:0<b∧b≤100000):0≤min a b∧min a b≤100000:=by omega
theorem FE{a b:Int}(h:0<tms a b):tms a b=1∨tms a b=2∨tms a b=3:=by have:=E9 a b;omega
set_option maxHeartbeats 1000000 in
theorem iK{v:Value}{l:List Int}(hs:St H w σ)(hr:RI H v l)(hp:gN 9 100000 l):
  Cl Tryz.prog 260 [v] w fun u w'=>∃H1,HLe H H1∧RI H1 u (wts l)∧St H1 w' σ:=by
 obtain ⟨a,c,rfl⟩:=RI.shape hr
 have hln:=hp.many
 have hgl:(wP l).length≤9:=by have:=rV l l.length 0;unfold wP;omega
 refine Cl.o Tryz.func260 Tryz.ntmps260 ag1 ?_
 refine .ai (.bx hs fun b1 w hs=>?_)
 refine .zn zg (.ai (.y hs (zld an) (.z (cU ae) (.o (.xQ l.length hs rfl rfl ae iX rfl aj bL ak fun b13 w hs=>?_)))))
 refine .z (zbd [_] w9) (.o (.alloc hs Tryz.zeroValue317 rfl fun b3 w hs=>?_))
 refine .o (.aH (vs:=[_]) hs rfl rfl Tryz.sizeOf317 fun w hs=>?_)
 refine .nil (.ai (.q hs (cJ (f:=[_]) (c:=[]) rfl rfl) (.o (.alloc hs Tryz.zeroValue318 rfl fun b4 w hs=>?_))))
 refine .o (.store hs rfl rfl Tryz.sizeOf318 fun w hs=>?_)
 refine .nil (.seq (.ai (.y hs (zld an) (.o (.call Tryz.call286 rfl (qV hs hr hp) ?_)))));rintro _ w ⟨H1,b17,hle1,rfl,hit,hs⟩
 refine .nil (.block ?_)
 refine .rangeFunc (gf:=302) (cap:=[Pt b17]) (xs:=qs l) (σb:=[.blk b3 [.slice (some ⟨b13,0,none⟩) l.length l.length],.blk b13 (Is (yH l 0)),.blk b4 [.func (.func 285) #[Pt b3] #[]],.blk b1 [.slice a l.length c]]) (σf:=σ) (hs.sb) trivial rfl hit Tryz.call302 (fun x hx=>by
   simp only [qs,List.mem_map] at hx
   obtain ⟨j,_,rfl⟩:=hx;rfl) rfl
  (I:=fun j H' σb=>σb=[.blk b3 [.slice (some ⟨b13,0,none⟩) l.length l.length],.blk b13 (Is (yH l j)),.blk b4 [.func (.func 285) #[Pt b3] #[]],.blk b1 [.slice a l.length c]]) (Ix:=fun _ _ _=>False)
  (fun j _ _ σ g1 g2=>g2) (fun _ _ _ _ _ h=>h) rfl ?_ ?_ (fun D c H' σb w _ h _=>h.elim)
 ·rintro ly j hj H2 σb2 σf2 w hle2 rfl hs ⟨rr,hrr⟩
  have hjl:j<(wP l).length:=by simpa [qs] using hj
  obtain ⟨g,hg⟩:=nth hjl
  rw [show (qs l)[j]=[Value.agg #[I (g.at_:Int),I (g.n:Int)]] by
   rw [List.getElem?_eq_getElem hjl] at hg
   simp only [qs,List.getElem_map,Option.some.inj hg]]
  obtain ⟨i1,i2,i3,i4,i5⟩:=yd hp (List.mem_of_getElem? hg)
  have hK:=xv hg
  have hKl:=oU l j
  have hKz:=vu hp j ak
  have hr2:=hr.mono (hle1.trans hle2)
  have hq0:=hp.bd (i:=g.at_) ak
  have hq1:=hp.bd (i:=g.at_+1) ak
  generalize hA:gi l (g.at_+1) - gi l g.at_=A at*
  refine .region (.o (.alloc hs Tryz.zeroValue315 rfl fun b5 w hs=>?_))
  refine .o (.aH (vs:=[_,_]) hs rfl rfl Tryz.sizeOf315 fun w hs=>?_)
  refine .nil (nT (⟨H2,[.blk b5 [I (g.at_:Int),I (g.n:Int)],.blk b3 [.slice (some ⟨b13,0,none⟩) l.length l.length],.blk b13 (Is (yH l j)),.blk b4 [.func (.func 285) #[Pt b3] #[]],.blk b1 [.slice a l.length c]],HLe.refl _,hs,?_⟩));rintro w σf4 - hs
  refine .block (.seq (.draw mix rfl hs fun w hs=>?_))
  refine .y 0 rfl hs an ?_;refine .z 1 rfl (zfa fV) ?_;refine .y 2 rfl hs af ?_;refine .z 3 rfl cq ?_
  refine .ixX (enc:=fun x=>[I x]) (i:=4) hs rfl aE .none hr2 rfl rfl ae aj (bB (l:=l) (i:=(g.at_+1)) ak) df ?_;intro b23 o23 hc23;replace hc23:=bK.one hc23
  refine .r (i:=5) hs rfl aE .none (aQ rfl af hc23) ?_
  refine .y 6 rfl hs an ?_;refine .z 7 rfl (zfa fV) ?_;refine .y 8 rfl hs af ?_
  refine .ixX (enc:=fun x=>[I x]) (i:=9) hs rfl aE .none hr2 rfl rfl ae aj (bB (l:=l) (i:=g.at_) ak) df ?_;intro b28 o28 hc28;replace hc28:=bK.one hc28
  refine .r (i:=10) hs rfl aE .none (aQ rfl af hc28) ?_
  refine .zw 11 rfl ib ?_
  rw [hA]
  refine .zw 12 rfl zg ?_;refine .D hs ?_
  refine .seq (.ai (.z (zfa ji) (.y hs (zld af) (.z kd ?_))))
  skip
  refine .nil (.bO rfl (fun hc33=>?_) (fun hc33=>?_))
  ·refine .ai (.y hs (zld Tryz.isAgg318) (.z (zfa fV) (.y hs (zld af) (.z zm (.z kM (.z zm (.z kM (.o (.buildSlice (cells:=[_,_]) hs jB rfl rfl fun b41 w hs=>?_)))))))))
   have h2:g.two=false:=by
    cases e:g.two with
    |false=>rfl
    |true=>simp [Grp.n,e] at hc33
   obtain ⟨H3,hle3,r41,hs⟩:=bS.dJ (xs:=[18*A,18*A]) (v:= .slice (some ⟨b41,0,none⟩) 2 2) (.full (len:=2) rfl) bV hs fh
   have hgw:=EA h2 hA
   rw [hgw] at hK i5
   replace hs:St H3 w (.blk b3 [.slice (some ⟨b13,0,none⟩) l.length l.length]:: .blk b13 (Is (yH l j)):: .blk b5 [I (g.at_:Int),I (g.n:Int)]:: .blk b4 [.func (.func 285) #[Pt b3] #[]]:: .blk b1 [.slice a l.length c]::σf4):=hs.sb
   refine .o (.nI (first:=[Pt b3]) (cap:=[]) rfl rfl Tryz.call285 (oJ (from_:=g.at_) (xs:=[18*A,18*A]) hs hKl r41 (by simp;omega) ak ak ak) ?_);rintro _ w hs
   rw [←hK] at hs
   refine .nil (.exit (xT (xB ?_)))
   exact ⟨H3,_,hle3,(hs.sb:St H3 w (.blk b3 _:: .blk b13 _:: .blk b4 _:: .blk b1 _::σf4)),rfl⟩
  ·refine .skip (nT (.seq (.draw mix rfl hs fun w hs=>?_)))
   have h2:g.two=true:=by
    cases e:g.two with
    |true=>rfl
    |false=>simp [Grp.n,e] at hc33
   obtain ⟨j1,j2,j3,j4⟩:=i4 h2
   have hq2:=hp.bd (i:=g.at_+2) ak
   generalize hB:gi l (g.at_+2) - gi l (g.at_+1)=B at*
   have hmx:=Bz (a:=A) (b:=B) ak ak
   have hk:=FE j4
   have hmm:=AW (a:=A) (b:=B) ⟨ak,ak⟩ ⟨ak,ak⟩
   obtain ⟨n1,n2,n3,n4⟩:=Ey hk hmm.1 hmm.2
   obtain ⟨n5,n6,n7,n8,n9⟩:=n4 _ n3.1 n3.2
   generalize hT:tms A B=T at*
   generalize hM:min A B=M at*
   have hgw:=Ez h2 hA hB hT hM
   refine .y 0 rfl hs an ?_;refine .z 1 rfl (zfa fV) ?_;refine .y 2 rfl hs af ?_;refine .z 3 rfl cq ?_
   refine .ixX (enc:=fun x=>[I x]) (i:=4) hs rfl aE .none hr2 rfl rfl ae aj (bB (l:=l) (i:=(g.at_+2)) ak) df ?_;intro b47 o47 hc47;replace hc47:=bK.one hc47
   refine .r (i:=5) hs rfl aE .none (aQ rfl af hc47) ?_
   refine .y 6 rfl hs an ?_;refine .z 7 rfl (zfa fV) ?_;refine .y 8 rfl hs af ?_;refine .z 9 rfl cq ?_
   refine .ixX (enc:=fun x=>[I x]) (i:=10) hs rfl aE .none hr2 rfl rfl ae aj (bB (l:=l) (i:=(g.at_+1)) ak) df ?_;intro b53 o53 hc53;replace hc53:=bK.one hc53
   refine .r (i:=11) hs rfl aE .none (aQ rfl af hc53) ?_
   refine .zw 12 rfl ib ?_
   rw [hB]
   refine .zw 13 rfl zg ?_;refine .D hs ?_
   refine .ai (.z zm (.z zm (.o (.call Tryz.call287 rfl (ig hs ak ak) ?_))));rintro _ w ⟨rfl,hs⟩
   refine .z zm (.z zm (.o (.call Tryz.call287 rfl (ig hs ak ak) ?_)));rintro _ w ⟨rfl,hs⟩
   refine .z Bk ?_
   rw [←hmx]
   refine .zn zg (.ai (.z zm (.q hs (xI rfl rfl ak ak) (.z zm (.z cq (.z kM (.z zm (.z zm (.z Bj ?_)))))))))
   rw [hM]
   refine .z kM (.zn zg (.ai (.z zm (.z zm (.z kM (.z zm (.z ib (.z kM (.z zm (.z zm (.z cq (.z kM (.z zm (.z cq (.z kM (.z zm (.z zm (.z kM (.z ib (.z kM (.o (.buildSlice (cells:=[_,_,_]) hs yv rfl rfl fun b90 w hs=>?_))))))))))))))))))))))
   refine .zn zg (.cut (fun fs w=>∃H3,lZ fs ⟨103,[],[(10,.slice (some ⟨b90,0,none⟩) 3 3),(5,Pt b5),(4,Pt b4),(3,Pt b3),(1,Pt b1)]⟩∧HLe H2 H3∧RI H3 (.slice (some ⟨b90,0,none⟩) 3 3) (vS l g)∧St H3 w (.blk b3 [.slice (some ⟨b13,0,none⟩) l.length l.length]:: .blk b13 (Is (yH l j)):: .blk b5 [I (g.at_:Int),I (g.n:Int)]:: .blk b4 [.func (.func 285) #[Pt b3] #[]]:: .blk b1 [.slice a l.length c]::σf4)) ?_ ?_)
   ·refine .ai (.z zm (.z zm (.zn pQ (.bO rfl (fun hc93=>?_) (fun hc93=>?_)))))
    ·refine .region (.z zm (.o (.call Tryz.call270 rfl (kP (en:= .blk b90 (Is [(6:Int).tdiv T*(1+T)*M*T*(2 - T),(6:Int).tdiv T*(1+T)*M*(1+T)*(1+T),(6:Int).tdiv T*(1+T)*M*(2*T - 1)])) (hs.sb:St H2 w (.blk b90 _:: .blk b3 _:: .blk b13 _:: .blk b5 _:: .blk b4 _:: .blk b1 _::σf4)) (.full rfl) bV) ?_)));rintro _ w ⟨en95,hO95,hs⟩
     refine .nil (nT ?_)
     obtain ⟨H3,hle3,r90,hs⟩:=bS.dJ hO95 bV hs .here
     rw [if_pos hc93] at hgw
     rw [hgw]
     exact ⟨H3,bn,hle3,r90,hs⟩
    ·refine .skip (nT ?_)
     obtain ⟨H3,hle3,r90,hs⟩:=bS.dJ (xs:=[(6:Int).tdiv T*(1+T)*M*T*(2 - T),(6:Int).tdiv T*(1+T)*M*(1+T)*(1+T),(6:Int).tdiv T*(1+T)*M*(2*T - 1)]) (v:= .slice (some ⟨b90,0,none⟩) 3 3) (.full (len:=3) rfl) bV hs fh
     rw [if_neg ak] at hgw
     rw [hgw]
     exact ⟨H3,bn,hle3,r90,hs.sb⟩
   ·rintro fs w ⟨H3,hfs,hle3,r90,hs⟩
    refine WE.sub ?_ hfs
    refine .region (.y hs (zld Tryz.isAgg318) (.z (zfa fV) (.y hs (zld af) (.z zm (.o (.nI (first:=[Pt b3]) (cap:=[]) rfl rfl Tryz.call285 (oJ (from_:=g.at_) (xs:=vS l g) hs hKl r90 (by rw [zY,show g.n=2 by unfold Grp.n;rw [h2];rfl];omega) ak ak ak) ?_))))));rintro _ w hs
    rw [←hK] at hs
    refine .nil (nB ?_)
    exact ⟨H3,_,hle3,(hs.sb:St H3 w (.blk b3 _:: .blk b13 _:: .blk b4 _:: .blk b1 _::σf4)),rfl⟩
 ·rintro D H2 σb2 w hle2 rfl hs
  rw [show (qs l).length=(wP l).length by simp [qs],Dr] at hs
  replace hs:St H2 w (.obj D (.deferred (some [])):: .blk b3 [.slice (some ⟨b13,0,none⟩) l.length l.length]:: .blk b13 (Is (wts l)):: .blk b4 [.func (.func 285) #[Pt b3] #[]]:: .blk b1 [.slice a l.length c]::σ):=hs
  refine nB (nT (.ai (.z (zfa oM) (.y hs (zld an) (.zn zg (.ret ?_))))))
  obtain ⟨H3,hle3,hR,hs⟩:=bS.dJ (xs:=wts l) (v:= .slice (some ⟨b13,0,none⟩) l.length l.length) (.full (by simp [Is,iH])) (by rw [iH];omega) hs fh
  exact Fin.gj [D] [] hs fun w hs=>⟨_,results1 Tryz.results260 rfl,H3,hle1.trans (hle2.trans hle3),hR,hs.out⟩
def AK(X Y:List Int)(i:Nat):List Int:=(List.range Y.length).map fun k=>gi X i*gi Y k
def qt(X Y:List Int)(i:Nat):List (List Int):=(List.range i).map (AK X Y)
theorem pb(X Y:List Int)(i:Nat):(AK X Y i).length=Y.length:=by simp [AK]
theorem nt(X Y:List Int)(i:Nat):(qt X Y i).length=i:=by simp [qt]
theorem A1(X Y:List Int)(i:Nat):qt X Y (i+1)=qt X Y i++[AK X Y i]:=by simp [qt,List.range_succ]
theorem BO{X Y:List Int}{i k:Nat}(hk:k<Y.length):(AK X Y i).take (k+1)=(AK X Y i).take k++[gi X i*gi Y k]:=by
 rw [cZ (by simp [AK,hk]:(AK X Y i)[k]? =some (gi X i*gi Y k))]
theorem z6{X Y:List Int}{n i:Nat}(h:i<n):gr (qt X Y n) i=AK X Y i:=by simp [gr,List.getD,qt,h]
theorem EB{X Y:List Int}{n i k:Nat}(h:i<n)(hk:k<Y.length):gt (qt X Y n) i k=gi X i*gi Y k:=by
 unfold gt;rw [z6 h];simp [gi,List.getD,AK,hk]
inductive GrS(X Y:List Int)(b:Nat)(i k:Nat)(H:bw)(σ:List Ent):Prop
 |go (us:List Value) (v:Value) (en:Ent) (h:i<X.length) (h1:RLs H us (qt X Y i)) (h2:bS 1 v (Is ((AK X Y i).take k)) en) (h3:σ=[.blk b (us++v::List.replicate (X.length - i - 1) (.slice none 0 0)),en])
 |fin (us:List Value) (h:i=X.length) (h1:RLs H us (qt X Y i)) (h3:σ=[.blk b us])
theorem GrS.mono{X Y:List Int}{b i k:Nat}{H H':bw}{σ:List Ent}(h:GrS X Y b i k H σ)(hl:HLe H H'):GrS X Y b i k H' σ:=by
 cases h with
 |go us v en h h1 h2 h3=>exact .go us v en h (h1.mono hl) h2 h3
 |fin us h h1 h3=>exact .fin us h (h1.mono hl) h3
theorem kN{v:Value}{l:List Int}(hs:St H w σ)(hr:RI H v l):
  Cl Tryz.prog 275 [v] w fun u w'=>∃H1 vo e,HLe H H1∧u= .tuple #[vo,I e]∧(gN 9 100000 l→e=0∧RI H1 vo (wts l))∧St H1 w' σ:=by
 obtain ⟨a,c,rfl⟩:=RI.shape hr
 refine Cl.o Tryz.func275 Tryz.ntmps275 ag1 ?_
 refine .ai (.z zg (.zn zg (.seq (.ai (.z zm (.o (.call Tryz.call299 rfl (mH hs hr) ?_)))))));rintro _ w ⟨e,rfl,he,hs⟩
 refine .zn zg (.ai (.z zm (.zn gg (.dO rfl (fun hc8=>?_) (fun hc8=>?_)))))
 ·refine .ai (.z zm (.z zg (.zn zg (.ret (rT (Fin.jG Tryz.results275 rfl rfl ?_))))))
  exact ⟨H,_,_,HLe.refl H,rfl,fun h=>by rcases he with ⟨_,h2⟩|⟨h1,_⟩;exact (hc8 h2).elim;exact (h1 h).elim,hs⟩
 ·refine .skip (nT (.ai (.z zm ?_)))
  have hp:gN 9 100000 l:=by rcases he with ⟨h,_⟩|⟨_,h2⟩;exact h;exact (h2 (by simpa using hc8)).elim
  refine .o (.call Tryz.call260 rfl (iK hs hr hp) ?_);rintro v11 w ⟨H1,hle1,hR,hs⟩
  refine .z zg (.zn zg (.ret (Fin.jG Tryz.results275 rfl rfl ?_)))
  exact ⟨H1,_,_,hle1,rfl,fun _=>⟨rfl,hR⟩,hs⟩
theorem qU{v1 v2:Value}{a b:List Int}(hs:St H w σ)(h1:RI H v1 a)(h2:RI H v2 b):
  Cl Tryz.prog 215 [v1,v2] w fun u w'=>∃bb:Bool,u= .bool bb∧(bb=true↔gN 9 100000 a∧gN 7 15000 b)∧St H w' σ:=by
 refine Cl.o Tryz.func215 Tryz.ntmps215 ag2 ?_
 refine .ai (.zn zg (.ai (.z zm (.o (.call Tryz.call259 rfl (gW (many:=9) (most:=100000) hs h1) ?_)))));rintro _ w ⟨b6,rfl,hb6,hs⟩
 refine .z zm (.bif (t':=7) rfl (fun hb7=>?_) (fun hb7=>?_))
 ·refine .T (.z zm (.T (.o (.call Tryz.call259 rfl (gW (many:=7) (most:=15000) hs h2) ?_))));rintro _ w ⟨b9,rfl,hb9,hs⟩
  refine .z zpT (.zn zg (.ret (Fin.bu Tryz.results215 rfl ?_)))
  exact ⟨_,rfl,by rw [hb9];exact ⟨fun h=>⟨hb6.1 hb7,h⟩,fun h=>h.2⟩,hs⟩
 ·refine .Fs 2 2 true (.z zpF (.zn zg (.ret (Fin.bu Tryz.results215 rfl ?_))))
  exact ⟨_,rfl,⟨fun h=>(by cases h),fun h=>by rw [hb6.2 h.1] at hb7;cases hb7⟩,hs⟩
theorem oe{bx by_:Nat}{x y:Int}(hs:St H w σ)(hx:Row H bx [I x])(hy:Row H by_ [I y]):
  Cl Tryz.prog 289 [Pt bx,Pt by_] w fun u w'=>u= .tuple #[I x,I y]∧St H w' σ:=by
 have hx0:=hx.at 0
 have hy0:=hy.at 0
 refine Cl.o Tryz.func289 Tryz.ntmps289 ag2 ?_
 refine .ai (.z zg (.zn zg (.seq (.draw mix rfl hs fun w hs=>?_))))
 refine .y 0 rfl hs af ?_;refine .y 1 rfl hs af ?_;refine .z 2 rfl zg ?_;refine .z 3 rfl zg ?_;refine .D hs ?_
 refine .ret (Fin.jG Tryz.results289 rfl rfl ?_)
 exact ⟨rfl,hs⟩
def PrE(X Y:List Int)(p:Nat)(H:bw)(z:List Value):Prop:=
 ∃bx by_,z=[.agg #[I ((p/Y.length:Nat):Int),I ((p%Y.length:Nat):Int)],.func (.func 289) #[] #[Pt bx,Pt by_]]∧Row H bx [I (gi X (p/Y.length))]∧Row H by_ [I (gi Y (p%Y.length))]
theorem pS{H:bw}{b1 b2:Nat}{v1 v2:Value}{X Y:List Int}(hb1:Row H b1 [v1])(hb2:Row H b2 [v2])(hX:RI H v1 X)(hY:RI H v2 Y)(hXl:X.length≤1000)(hYl:Y.length≤1000):
  EW Tryz.prog 288 [Pt b1,Pt b2] H (X.length*Y.length) (PrE X Y):=by
 intro ly II Ix hmI _ hy H0 σb0 σf w hle hI0 hs
 obtain ⟨a1,c1,rfl⟩:=RI.shape hX
 obtain ⟨a2,c2,rfl⟩:=RI.shape hY
 have h01:cellAt H0 b1 0=some (.slice a1 X.length c1):=cellAt.mono (hb1.at 0) hle
 have h02:cellAt H0 b2 0=some (.slice a2 Y.length c2):=cellAt.mono (hb2.at 0) hle
 refine Cl.o Tryz.func288 Tryz.ntmps288 ag3 ?_
 refine .ai (.y hs (zld an) (.z (cU ae) (.zn zm (.for (N:=X.length) (J:=fun i fr w=>fr=[(8,.slice a1 X.length c1),(0,.func (.yield ly) #[] #[]),(1,Pt b1),(2,Pt b2)]∧∃H1 σb,HLe H H1∧HLe H0 H1∧II (i*Y.length) H1 σb∧St H1 w (σb++σf)) ak ?_ ?_ ?_))))
 ·exact .mk ⟨rfl,H0,σb0,hle,HLe.refl _,by rw [Nat.zero_mul];exact hI0,hs⟩
 ·rintro i fr w hi ⟨rfl,H1,σb,hle1,hle0,hI,hs⟩
  refine .block (.ai (.z zm (.ixY hs (hX.mono hle1) rfl rfl ae aj (bB (l:=X) (i:=i) ak) df ?_)));intro b13 o13 hc13
  refine .q hs (aQ rfl af hc13) (.o (.alloc hs bL rfl fun b5 w hs=>?_))
  refine .z zg (.o (.store hs rfl rfl aj fun w hs=>?_))
  refine .nil (.ai ?_)
  obtain ⟨H2,hle2,r5,hs⟩:=hs.bU (b:=b5) .here
  have h22:=cellAt.mono h02 (hle0.trans hle2)
  refine .y hs (zld an) (.z (cU ae) (.zn zm (.for (N:=Y.length) (J:=fun k fr w=>fr=[(15,.slice a2 Y.length c2),(4,I (i:Int)),(10,I (i:Int)),(9,I (X.length:Int)),(5,Pt b5),(8,.slice a1 X.length c1),(0,.func (.yield ly) #[] #[]),(1,Pt b1),(2,Pt b2)]∧∃H3 σb,HLe H2 H3∧II (i*Y.length+k) H3 σb∧St H3 w (σb++σf)) ak ?_ ?_ ?_)))
  ·exact .mk ⟨rfl,H2,σb,HLe.refl _,hmI _ _ _ _ hle2 hI,hs⟩
  ·rintro k fr w hk ⟨rfl,H3,σb3,hle3,hI3,hs⟩
   have hle03:=hle0.trans (hle2.trans hle3)
   have hle13:=hle1.trans (hle2.trans hle3)
   refine .block (.ai (.z zm (.ixY hs (hY.mono hle13) rfl rfl ae aj (bB (l:=Y) (i:=k) ak) df ?_)));intro b20 o20 hc20
   refine .q hs (aQ rfl af hc20) (.o (.alloc hs bL rfl fun b7 w hs=>?_))
   refine .z zg (.o (.store hs rfl rfl aj fun w hs=>?_))
   refine .nil (.ai (.z zm (.z zm (.z zm (.q hs (wB (vs:=[(0,I (i:Int)),(1,I (k:Int))]) (cells:=[I (i:Int),I (k:Int)]) Tryz.zeroValue76 rfl Tryz.runUnderlying76 aj rfl) (.q hs (cJ (f:=[]) (c:=[_,_]) rfl rfl) ?_))))))
   obtain ⟨H4,hle4,r7,hs⟩:=hs.bU (b:=b7) .here
   obtain ⟨d1,d2⟩:=GY (nw:=Y.length) (i:=i) (k:=k) hk
   have hlt:i*Y.length+k<X.length*Y.length:=by
    have:=Nat.mul_le_mul_right Y.length (show i+1≤X.length by omega)
    rw [Nat.add_mul,Nat.one_mul] at this;omega
   have hyd:=hy (i*Y.length+k) hlt [.agg #[I (i:Int),I (k:Int)],.func (.func 289) #[] #[Pt b5,Pt b7]] H4 σb3 σf w (hle13.trans hle4) ⟨b5,b7,by rw [d1,d2],by rw [d1];exact r5.mono (hle3.trans hle4),by rw [d2];exact r7⟩ (hmI _ _ _ _ hle4 hI3) hs
   refine .o (.yield rfl rfl hyd ?_);rintro v27 w ⟨H5,σ5,g1,hs,g3⟩
   obtain ⟨bb,rfl,gT,gF⟩:=mY g3
   refine .zn gP (.cond rfl (fun hc28=>?_) (fun hc28=>?_))
   ·refine .ret (rB (rT (rB (rB (rT (rB (Fin.GI Tryz.results288 ?_)))))))
    exact ⟨H5,σ5,hle03.trans (hle4.trans g1),hs,.inr (gF (by simpa using hc28))⟩
   ·refine .skip (nB (nT ?_))
    exact .mk ⟨rfl,H5,σ5,hle3.trans (hle4.trans g1),gT (by simpa using hc28),hs⟩
  ·rintro fr w ⟨rfl,H3,σb3,hle3,hI3,hs⟩
   refine nB (nT ?_)
   exact .mk ⟨rfl,H3,σb3,hle1.trans (hle2.trans hle3),hle0.trans (hle2.trans hle3),by rw [Nat.add_mul,Nat.one_mul];exact hI3,hs⟩
 ·rintro fr w ⟨rfl,H1,σb,hle1,hle0,hI,hs⟩
  exact Fin.yq Tryz.results288 ⟨H1,σb,hle0,hs,.inl hI⟩
theorem sh{v1 v2:Value}{X Y:List Int}(hs:St H w σ)(hX:RI H v1 X)(hY:RI H v2 Y)(hXl:X.length≤1000)(hYl:Y.length≤1000):
  Cl Tryz.prog 261 [v1,v2] w fun u w'=>∃H1 b1 b2,HLe H H1∧u= .func (.func 288) #[] #[Pt b1,Pt b2]∧EW Tryz.prog 288 [Pt b1,Pt b2] H1 (X.length*Y.length) (PrE X Y)∧St H1 w' σ:=by
 obtain ⟨a1,c1,rfl⟩:=RI.shape hX
 obtain ⟨a2,c2,rfl⟩:=RI.shape hY
 refine Cl.o Tryz.func261 Tryz.ntmps261 ag2 ?_
 refine .ai (.bx hs fun b2 w hs=>?_)
 refine .bx hs fun b3 w hs=>?_
 refine .zn zg (.ai (.q hs (cJ (f:=[]) (c:=[_,_]) rfl rfl) (.zn zg (.ret (Fin.bu Tryz.results261 rfl ?_)))))
 obtain ⟨H1,g1,r1,hs⟩:=hs.bU (b:=b2) fh
 obtain ⟨H2,g2,r2,hs⟩:=hs.bU (b:=b3) fh
 exact ⟨H2,b2,b3,g1.trans g2,rfl,pS (r1.mono g2) r2 (hX.mono (g1.trans g2)) (hY.mono (g1.trans g2)) hXl hYl,hs⟩
set_option maxHeartbeats 1000000 in
theorem tj{v1 v2:Value}{l1 l2:List Int}(hs:St H w σ)(hr1:RI H v1 l1)(hr2:RI H v2 l2)(hp1:gN 9 100000 l1)(hp2:gN 7 15000 l2):
  Cl Tryz.prog 216 [v1,v2] w fun u w'=>∃H1,HLe H H1∧RT H1 u (qt (wts l1) (wts l2) l1.length)∧St H1 w' σ:=by
 obtain ⟨a1,c1,rfl⟩:=RI.shape hr1
 obtain ⟨a2,c2,rfl⟩:=RI.shape hr2
 have hn1:=hp1.many
 have hn2:=hp2.many
 have htw1:=hp1.two
 have htw2:=hp2.two
 have hp2':gN 9 100000 l2:=⟨hp2.two,ak,hp2.low,by have:=hp2.high;omega,hp2.rise⟩
 have hXl:=iH l1
 have hYl:=iH l2
 have hXb:=E5 hp1
 have hYb:=E5 hp2
 refine Cl.o Tryz.func216 Tryz.ntmps216 ag2 ?_
 refine .ai (.zn zg (.ai (.z zm (.o (.call Tryz.call260 rfl (iK hs hr1 hp1) ?_)))));rintro v13 w ⟨H1,hle1,hX,hs⟩
 refine .z zm (.o (.call Tryz.call260 rfl (iK hs (hr2.mono hle1) hp2') ?_));rintro v15 w ⟨H2,hle2,hY,hs⟩
 replace hX:=hX.mono hle2
 generalize wts l1=X at*
 generalize wts l2=Y at*
 obtain ⟨aX,cX,rfl⟩:=RI.shape hX
 obtain ⟨aY,cY,rfl⟩:=RI.shape hY
 refine .z zg (.zn zg (.ai (.z zm (.z (cU ae) (.o (.Hp l1.length hs rfl rfl az Tryz.typeInfo34 rfl au dz ak fun b18 w hs=>?_))))))
 refine .o (.alloc hs Tryz.zeroValue62 rfl fun b7 w hs=>?_)
 refine .o (.store hs rfl rfl GU fun w hs=>?_)
 refine .nil (.seq (.ai (.z zm (.z zm (.o (.call Tryz.call261 rfl (sh hs hX hY ak ak) ?_))))));rintro _ w ⟨H3,bp1,bp2,hle3,rfl,hit,hs⟩
 have hle03:=hle1.trans (hle2.trans hle3)
 have h0:GrS X Y b18 0 0 H3 [.blk b18 (List.replicate l1.length (.slice none 0 0)),.nul]:=by
  refine .go [] (.slice none 0 0) .nul ak (RLs.nil _) (.nil 1 none) ?_
  rw [hXl]
  obtain ⟨m,hm⟩:∃m,l1.length=m+1:=⟨l1.length - 1,ak⟩
  rw [hm]
  rfl
 refine .nil (.block ?_)
 refine .Fc (gf:=288) (cap:=[Pt bp1,Pt bp2]) (N:=X.length*Y.length) (E:=PrE X Y) (σb:= .blk b7 [.slice (some ⟨b18,0,none⟩) l1.length l1.length]::[.blk b18 (List.replicate l1.length (.slice none 0 0)),.nul]) (σf:=σ) (hs.nul.sb) trivial rfl hit Tryz.call288 (fun k H' z ⟨_,_,hz,_⟩=>by rw [hz];rfl) rfl
  (I:=fun p H' σb=>∃σ1,σb= .blk b7 [.slice (some ⟨b18,0,none⟩) l1.length l1.length]::σ1∧GrS X Y b18 (p/Y.length) (p%Y.length) H' σ1) (Ix:=fun _ _ _=>False)
  (fun j _ _ σ g1 ⟨σ1,g2,g3⟩=>⟨σ1,g2,g3.mono g1⟩) (fun _ _ _ _ _ h=>h) ⟨_,rfl,by rw [Nat.zero_div,Nat.zero_mod];exact h0⟩ ?_ ?_ (fun D c H' σb w _ h _=>h.elim)
 ·rintro ly p hp z H4 σb2 σf2 w hle4 ⟨bx,by_,rfl,rx,ry⟩ ⟨σ1,rfl,hG⟩ hs ⟨rr,hrr⟩
  have hnext:=zR (p:=p) (m:=Y.length) ak
  have hkm:=Nat.mod_lt p (show 0<Y.length by omega)
  have hin:p/Y.length<X.length:=Nat.div_lt_of_lt_mul (by rw [Nat.mul_comm];exact hp)
  generalize hi:p/Y.length=i at*
  generalize hk:p%Y.length=k at*
  cases hG with
  |fin us h=>omega
  |go us v en h h1 h2 h3=>
  subst h3
  obtain ⟨av,lv,cv,rfl,hlv⟩:=h2.shape
  have husl:us.length=i:=by rw [h1.1,nt]
  have hb1:=hXb i
  have hb2:=hYb k
  have hpr:=Fq (gi X i) (gi Y k)
  have hprb: -3456000000000≤gi X i*gi Y k∧gi X i*gi Y k≤3456000000000:=kV (A:=4800000) (B:=720000) (by unfold ab at hb1;omega) (by unfold ab at hb2;omega)
  refine .ai (.o (.alloc hs Tryz.zeroValue76 rfl fun b8 w hs=>?_))
  refine .o (.aH (vs:=[_,_]) hs rfl rfl Tryz.sizeOf76 fun w hs=>?_)
  refine .nil (.region (.zn zg (nT (⟨H4,[.blk b8 [I (i:Int),I (k:Int)],.blk b7 [.slice (some ⟨b18,0,none⟩) l1.length l1.length],.blk b18 (us++Value.slice av lv cv::List.replicate (X.length - i - 1) (Value.slice none 0 0)),en],HLe.refl _,hs,?_⟩))));rintro w σf4 - hs
  refine .block (.ai (.z zm (.o (.nI (first:=[]) (cap:=[Pt bx,Pt by_]) rfl rfl Tryz.call289 (oe hs rx ry) ?_))));rintro _ w ⟨rfl,hs⟩
  refine .z zm (.z zex (.z zex (.z zg (.zn zg (.draw mix rfl hs fun w hs=>?_)))))
  refine .zv 0 rfl hs (qm iF) (.zw 1 rfl (zia 0 Tryz.runUnderlying76 aj) (.y 2 rfl hs af ?_));refine .y 3 rfl hs iF ?_
  refine .zw 4 rfl (zia 0 Tryz.runUnderlying76 aj) (.zv 5 rfl hs (qm af) (.zw 6 rfl (kq (k:=i) rfl rfl az au rfl ak) (.load (i:=7) hs rfl aE .none rfl an ?_ (hv:=by rw [List.getElem?_append_right ak,husl,Nat.sub_self];rfl))))
  refine .zw 8 rfl zm ?_;refine .z 9 rfl zm ?_;refine .z 10 rfl kM ?_
  refine .E 11 hs ?_
  refine .buildSlice (cells:=[_]) hs bX rfl rfl ?_;intro b40 w hs
  refine .go (.E 12 hs ?_)
  refine .append (ys:=Is [gi X i*gi Y k]) hs bP rfl rfl h2 (.own .here rfl rfl) (ia _) (fun l' h=>by simp at h;omega) ?_;intro v41 en41 w hO hs
  rw [show Is ((AK X Y i).take k)++Is [gi X i*gi Y k]=Is ((AK X Y i).take (k+1)) by rw [BO hkm];simp [Is]] at hO
  obtain ⟨a41,l41,c41,rfl,hl41⟩:=hO.shape
  refine .go (.zw 13 rfl (kq (k:=i) rfl rfl az au rfl ak) (.E 14 hs ?_))
  refine .store (c':=us++ .slice a41 l41 c41::List.replicate (X.length - i - 1) (.slice none 0 0)) hs rfl rfl au ?_ fh (by simp;omega) (by rw [List.set_append_right _ _ ak,husl,Nat.sub_self];rfl);intro w hs
  refine .go (.D hs (nB ?_))
  rcases hnext with ⟨g1,g2,g3⟩|⟨g1,g2,g3⟩
  ·exact ⟨H4,[.blk b7 [.slice (some ⟨b18,0,none⟩) l1.length l1.length],.blk b18 (us++ .slice a41 l41 c41::List.replicate (X.length - i - 1) (.slice none 0 0)),en41],HLe.refl _,(hs.sb:St H4 w (.blk b7 _:: .blk b18 _::en41::σf4)),_,rfl,by rw [g2,g3];exact .go us _ en41 h h1 hO rfl⟩
  ·obtain ⟨H5,hle5,hR,hs⟩:=bS.dJ hO (by rw [List.length_take,pb];omega) hs fh
   rw [List.take_of_length_le (by rw [pb];omega)] at hR
   have h1':RLs H5 (us++[.slice a41 l41 c41]) (qt X Y (i+1)):=by rw [A1];exact (h1.mono hle5).snoc hR
   by_cases e:i+1<X.length
   ·refine ⟨H5,[.blk b7 [.slice (some ⟨b18,0,none⟩) l1.length l1.length],.blk b18 (us++ .slice a41 l41 c41::List.replicate (X.length - i - 1) (.slice none 0 0)),.nul],hle5,(hs.nul.sb:St H5 w (.blk b7 _:: .blk b18 _:: .nul::σf4)),_,rfl,?_⟩
    rw [g2,g3]
    refine .go (us++[.slice a41 l41 c41]) (.slice none 0 0) .nul e h1' (.nil 1 none) ?_
    obtain ⟨m,hm⟩:∃m,X.length - i - 1=m+1:=⟨X.length - i - 2,ak⟩
    rw [hm,show X.length - (i+1) - 1=m by omega,List.append_assoc]
    rfl
   ·refine ⟨H5,[.blk b7 [.slice (some ⟨b18,0,none⟩) l1.length l1.length],.blk b18 (us++ .slice a41 l41 c41::List.replicate (X.length - i - 1) (.slice none 0 0))],hle5,(hs.sb:St H5 w (.blk b7 _:: .blk b18 _::σf4)),_,rfl,?_⟩
    rw [g2,g3]
    refine .fin (us++[.slice a41 l41 c41]) ak h1' ?_
    rw [show X.length - i - 1=0 by omega]
    rfl
 ·rintro D H4 σb2 w hle4 ⟨σ1,rfl,hG⟩ hs
  rw [Nat.mul_div_cancel _ ak,Nat.mul_mod_left] at hG
  cases hG with
  |go us v en h=>omega
  |fin us h h1 h3=>
  subst h3
  replace hs:St H4 w (.obj D (.deferred (some [])):: .blk b7 [.slice (some ⟨b18,0,none⟩) l1.length l1.length]:: .blk b18 us::σ):=hs
  have husl:us.length=l1.length:=by rw [h1.1,nt,hXl]
  refine nB (nT (.ai (.y hs (zld iF) (.zn zg (.ret ?_)))))
  obtain ⟨H5,hle5,hR,hs⟩:=h1.bU (v:= .slice (some ⟨b18,0,none⟩) l1.length l1.length) (en:= .blk b18 us) (.full (by simp [husl])) ak hs fh
  rw [hXl] at hR
  exact Fin.gj [D] [] hs fun w hs=>⟨_,results1 Tryz.results216 rfl,H5,hle03.trans (hle4.trans hle5),hR,hs.out⟩
theorem m9{v1 v2:Value}{l1 l2:List Int}(hs:St H w σ)(hr1:RI H v1 l1)(hr2:RI H v2 l2):
  Cl Tryz.prog 163 [v1,v2] w fun u w'=>∃H1 vo e,HLe H H1∧u= .tuple #[vo,I e]∧(gN 9 100000 l1∧gN 7 15000 l2→e=0∧RT H1 vo (qt (wts l1) (wts l2) l1.length))∧(e=0→gN 9 100000 l1∧gN 7 15000 l2)∧St H1 w' σ:=by
 refine Cl.o Tryz.func163 Tryz.ntmps163 ag2 ?_
 refine .ai (.z zg (.zn zg (.seq (.ai (.z zm (.z zm (.o (.call Tryz.call215 rfl (qU hs hr1 hr2) ?_))))))));rintro _ w ⟨b8,rfl,hb8,hs⟩
 refine .zn gP (.cond rfl (fun hc9=>?_) (fun hc9=>?_))
 ·refine .ai (.z zg (.zn zg (.ret (rT (Fin.jG Tryz.results163 rfl rfl ?_)))))
  exact ⟨H,_,_,HLe.refl H,rfl,fun h=>(by rw [hb8.2 h] at hc9;cases hc9),fun h=>ak,hs⟩
 ·refine .skip (nT (.ai (.z zm (.z zm ?_))))
  have hp:=hb8.1 (by simpa using hc9)
  refine .o (.call Tryz.call216 rfl (tj hs hr1 hr2 hp.1 hp.2) ?_);rintro v12 w ⟨H1,hle1,hR,hs⟩
  refine .z zg (.zn zg (.ret (Fin.jG Tryz.results163 rfl rfl ?_)))
  exact ⟨H1,_,_,hle1,rfl,fun _=>⟨rfl,hR⟩,fun _=>hp,hs⟩
theorem bh{a0 a1 a2:Int}(hs:St H w σ):Cl Tryz.prog 164 [I a0,I a1,I a2] w fun v w'=>v= .bool (decide (a1≤a0∧a0≤a2))∧St H w' σ:=by
 refine Cl.o Tryz.func164 Tryz.ntmps164 ag3 ?_
 refine .ai (.zn zg (.ai (.z zm (.z zm (.z uJ (.z zm (.kF (t':=10) rfl (fun hb10=>?_) (fun hb10=>?_))))))))
 ·refine .T (.z zm (.T (.z zm (.T (.z uJ (.z zpT (.zn zg (.ret (Fin.bu Tryz.results164 rfl ?_)))))))))
  exact ⟨by simp [*],hs.out⟩
 ·refine .Fs 3 3 true (.z zpF (.zn zg (.ret (Fin.bu Tryz.results164 rfl ?_))))
  exact ⟨by simp [*],hs.out⟩
theorem gD{a0:Int}(hs:St H w σ):Cl Tryz.prog 165 [I a0] w fun v w'=>v= .bool (decide (1≤a0∧a0≤99999))∧St H w' σ:=by
 refine Cl.o Tryz.func165 Tryz.ntmps165 ag1 ?_
 refine .ai (.zn zg (.ai (.z zm (.o (.call dc rfl (bh hs) ?_)))));rintro _ w ⟨rfl,hs⟩
 refine .zn zg (.ret (Fin.bu Tryz.results165 rfl ?_))
 exact ⟨rfl,hs⟩
theorem fJ{s:Spc}{vst vwa:Value}(hs:St H w σ)(h1:RI H vst s.st)(h2:RI H vwa s.wa):
  Cl Tryz.prog 111 [.agg #[I s.id,I s.src,vst,vwa,I s.al,I s.up]] w fun v w'=>∃H1 e,HLe H H1∧v=I e∧((eZ s∧e=0)∨(¬eZ s∧e=30))∧St H1 w' σ:=by
 obtain ⟨ast,cst,rfl⟩:=RI.shape h1
 obtain ⟨awa,cwa,rfl⟩:=RI.shape h2
 refine Cl.o Tryz.func111 Tryz.ntmps111 ag1 ?_
 refine .ai (.bx hs fun b1 w hs=>?_)
 refine .zn zg (.seq (.ai (.z (zfa bC) (.y hs (zld an) (.z (zfa bg) (.y hs (zld an) (.o (.call Tryz.call163 rfl (m9 hs h1 h2) ?_))))))));rintro _ w ⟨H1,vo,e,hle1,rfl,hG,hG',hs⟩
 refine .z zm (.z zex (.z zex (.z zg (.zn zg (.ai (.z zm (.z gg (.z zm (.Dj (t':=15) rfl (fun hb15=>?_) (fun hb15=>?_))))))))))
 ·refine .Fs 4 2 false (.z zpT (.z zm (.Fs 4 8 false (.z zpT (.z zm (.Fs 5 14 false (.z zpT (.z zm (.Fs 5 21 false (.zn zpT (.cT (.ai (.zn zg (.ret (rT (Fin.bu sS rfl ?_))))))))))))))))
  exact ⟨H1,_,hle1,rfl,.inr ⟨fun h=>by have:=(hG ⟨h.st,h.wa⟩).1;simp_all,rfl⟩,hs.out⟩
 ·refine .T (.z (zfa u4) (.T (.y hs (zld af) (.T (.o (.call dc rfl (bh hs) ?_))))));rintro _ w ⟨rfl,hs⟩
  refine .T (.z gP (.z zpF (.z zm (.bif (t':=21) rfl (fun hb21=>?_) (fun hb21=>?_)))))
  ·refine .Fs 4 8 false (.z zpT (.z zm (.Fs 5 14 false (.z zpT (.z zm (.Fs 5 21 false (.zn zpT (.cT (.ai (.zn zg (.ret (rT (Fin.bu sS rfl ?_)))))))))))))
   exact ⟨H1,_,hle1,rfl,.inr ⟨fun h=>by have:=h.id;simp_all,rfl⟩,hs.out⟩
  ·refine .T (.z (zfa dH) (.T (.y hs (zld af) (.T (.o (.call Tryz.call165 rfl (gD hs) ?_))))));rintro _ w ⟨rfl,hs⟩
   refine .T (.z gP (.z zpF (.z zm (.bif (t':=27) rfl (fun hb27=>?_) (fun hb27=>?_)))))
   ·refine .Fs 5 14 false (.z zpT (.z zm (.Fs 5 21 false (.zn zpT (.cT (.ai (.zn zg (.ret (rT (Fin.bu sS rfl ?_))))))))))
    exact ⟨H1,_,hle1,rfl,.inr ⟨fun h=>by have:=h.src;simp_all,rfl⟩,hs.out⟩
   ·refine .T (.z (zfa ff) (.T (.z (zfa mg) (.T (.y hs (zld af) (.T (.o (.call dc rfl (bh hs) ?_))))))));rintro _ w ⟨rfl,hs⟩
    refine .T (.z gP (.z zpF (.z zm (.bif (t':=34) rfl (fun hb34=>?_) (fun hb34=>?_)))))
    ·refine .Fs 5 21 false (.zn zpT (.cT (.ai (.zn zg (.ret (rT (Fin.bu sS rfl ?_)))))))
     exact ⟨H1,_,hle1,rfl,.inr ⟨fun h=>by have:=h.al;simp_all,rfl⟩,hs.out⟩
    ·refine .T (.z (zfa ff) (.T (.z (zfa mf) (.T (.y hs (zld af) (.T (.o (.call dc rfl (bh hs) ?_))))))));rintro _ w ⟨rfl,hs⟩
     refine .T (.z gP (.zn zpF (.cond rfl (fun hc40=>?_) (fun hc40=>?_))))
     ·refine .ai (.zn zg (.ret (rT (Fin.bu sS rfl ?_))))
      exact ⟨H1,_,hle1,rfl,.inr ⟨fun h=>by have:=h.up;simp_all,rfl⟩,hs.out⟩
     ·refine .skip (nT (.ai (.zn zg (.ret (Fin.bu sS rfl ?_)))))
      have hg:=hG' (by simp_all)
      exact ⟨H1,_,hle1,rfl,.inl ⟨⟨hg.1,hg.2,by simp_all,by simp_all,by simp_all,by simp_all⟩,rfl⟩,hs.out⟩
theorem mN{s:Spc}{r:Rdg}{vst vwa:Value}(hs:St H w σ)(h1:RI H vst s.st)(h2:RI H vwa s.wa):
  Cl Tryz.prog 120 [.agg #[I s.id,I s.src,vst,vwa,I s.al,I s.up],.agg #[I r.src,I r.st,I r.wa,I r.val,I r.tol,I r.tape,I r.day]] w fun v w'=>∃b:Bool,v= .bool b∧(b=true↔mX s r)∧St H w' σ:=by
 obtain ⟨ast,cst,rfl⟩:=RI.shape h1
 obtain ⟨awa,cwa,rfl⟩:=RI.shape h2
 have l1:=(RI.len h1).2.2
 have l2:=(RI.len h2).2.2
 refine Cl.o Tryz.func120 Tryz.ntmps120 ag2 ?_
 refine .ai (.bx hs fun b2 w hs=>?_)
 refine .bx hs fun b3 w hs=>?_
 refine .zn zg (.ai (.z (zfa fS) (.y hs (zld af) (.o (.call Tryz.call165 rfl (gD hs) ?_)))));rintro _ w ⟨rfl,hs⟩
 refine .z zm (.bif (t':=8) rfl (fun hb8=>?_) (fun hb8=>?_))
 ·refine .T ?_
  refine .z (zfa fR) (.T (.y hs (zld af) (.T (.z (zfa bC) (.T (.y hs (zld an) (.T (.z (cU ae) (.T (.z ib (.T (.o (.call dc rfl (bh hs) ?_)))))))))))));rintro _ w ⟨rfl,hs⟩
  refine .z zpT (.z zm (.bif (t':=17) rfl (fun hb17=>?_) (fun hb17=>?_)))
  ·refine .T ?_
   refine .z (zfa fQ) (.T (.y hs (zld af) (.T (.z (zfa bg) (.T (.y hs (zld an) (.T (.z (cU ae) (.T (.z ib (.T (.o (.call dc rfl (bh hs) ?_)))))))))))));rintro _ w ⟨rfl,hs⟩
   refine .z zpT (.z zm (.bif (t':=26) rfl (fun hb26=>?_) (fun hb26=>?_)))
   ·refine .T (.z (zfa de) (.T (.y hs (zld af) (.T (.o (.call dc rfl (bh hs) ?_))))));rintro _ w ⟨rfl,hs⟩
    refine .z zpT (.z zm (.bif (t':=31) rfl (fun hb31=>?_) (fun hb31=>?_)))
    ·refine .T (.z (zfa ep) (.T (.y hs (zld af) (.T (.z (zfa de) (.T (.y hs (zld af) (.T ?_))))))))
     have ht:0≤r.tol∧r.tol≤1000:=by simp_all
     refine .z ib (.T (.o (.call dc rfl (bh hs) ?_)));rintro _ w ⟨rfl,hs⟩
     refine .z zpT (.z zm (.bif (t':=39) rfl (fun hb39=>?_) (fun hb39=>?_)))
     ·refine .T (.z (zfa eo) (.T (.y hs (zld af) (.T (.o (.call dc rfl (bh hs) ?_))))));rintro _ w ⟨rfl,hs⟩
      refine .z zpT (.z zm (.bif (t':=44) rfl (fun hb44=>?_) (fun hb44=>?_)))
      ·refine .T (.z (zfa ek) (.T (.y hs (zld af) (.T (.o (.call dc rfl (bh hs) ?_))))));rintro _ w ⟨rfl,hs⟩
       refine .z zpT (.zn zg (.ret (Fin.bu mG rfl ?_)))
       first
       |exact ⟨false,rfl,⟨fun h=>(by cases h),fun h=>(by obtain ⟨g1,g2,g3,g4,g5,g6,g7⟩:=h;simp_all;done)⟩,hs.out⟩
       |exact ⟨_,rfl,⟨fun h=>⟨by simp_all,by simp_all,by simp_all,by simp_all,by simp_all,by simp_all,by simpa using h⟩,fun h=>by simpa using h.day⟩,hs.out⟩
      ·refine .Fs 3 39 true (.z zpF (.zn zg (.ret (Fin.bu mG rfl ?_))))
       first
       |exact ⟨false,rfl,⟨fun h=>(by cases h),fun h=>(by obtain ⟨g1,g2,g3,g4,g5,g6,g7⟩:=h;simp_all;done)⟩,hs.out⟩
       |exact ⟨_,rfl,⟨fun h=>⟨by simp_all,by simp_all,by simp_all,by simp_all,by simp_all,by simp_all,by simpa using h⟩,fun h=>by simpa using h.day⟩,hs.out⟩
     ·refine .Fs 3 34 true (.z zpF (.z zm (.Fs 3 39 true (.z zpF (.zn zg (.ret (Fin.bu mG rfl ?_)))))))
      first
      |exact ⟨false,rfl,⟨fun h=>(by cases h),fun h=>(by obtain ⟨g1,g2,g3,g4,g5,g6,g7⟩:=h;simp_all;done)⟩,hs.out⟩
      |exact ⟨_,rfl,⟨fun h=>⟨by simp_all,by simp_all,by simp_all,by simp_all,by simp_all,by simp_all,by simpa using h⟩,fun h=>by simpa using h.day⟩,hs.out⟩
    ·refine .Fs 6 26 true (.z zpF (.z zm (.Fs 3 34 true (.z zpF (.z zm (.Fs 3 39 true (.z zpF (.zn zg (.ret (Fin.bu mG rfl ?_))))))))))
     first
     |exact ⟨false,rfl,⟨fun h=>(by cases h),fun h=>(by obtain ⟨g1,g2,g3,g4,g5,g6,g7⟩:=h;simp_all;done)⟩,hs.out⟩
     |exact ⟨_,rfl,⟨fun h=>⟨by simp_all,by simp_all,by simp_all,by simp_all,by simp_all,by simp_all,by simpa using h⟩,fun h=>by simpa using h.day⟩,hs.out⟩
   ·refine .Fs 3 21 true (.z zpF (.z zm (.Fs 6 26 true (.z zpF (.z zm (.Fs 3 34 true (.z zpF (.z zm (.Fs 3 39 true (.z zpF (.zn zg (.ret (Fin.bu mG rfl ?_)))))))))))))
    first
    |exact ⟨false,rfl,⟨fun h=>(by cases h),fun h=>(by obtain ⟨g1,g2,g3,g4,g5,g6,g7⟩:=h;simp_all;done)⟩,hs.out⟩
    |exact ⟨_,rfl,⟨fun h=>⟨by simp_all,by simp_all,by simp_all,by simp_all,by simp_all,by simp_all,by simpa using h⟩,fun h=>by simpa using h.day⟩,hs.out⟩
  ·refine .Fs 7 12 true (.z zpF (.z zm (.Fs 3 21 true (.z zpF (.z zm (.Fs 6 26 true (.z zpF (.z zm (.Fs 3 34 true (.z zpF (.z zm (.Fs 3 39 true (.z zpF (.zn zg (.ret (Fin.bu mG rfl ?_))))))))))))))))
   first
   |exact ⟨false,rfl,⟨fun h=>(by cases h),fun h=>(by obtain ⟨g1,g2,g3,g4,g5,g6,g7⟩:=h;simp_all;done)⟩,hs.out⟩
   |exact ⟨_,rfl,⟨fun h=>⟨by simp_all,by simp_all,by simp_all,by simp_all,by simp_all,by simp_all,by simpa using h⟩,fun h=>by simpa using h.day⟩,hs.out⟩
 ·refine .Fs 7 3 true (.z zpF (.z zm (.Fs 7 12 true (.z zpF (.z zm (.Fs 3 21 true (.z zpF (.z zm (.Fs 6 26 true (.z zpF (.z zm (.Fs 3 34 true (.z zpF (.z zm (.Fs 3 39 true (.z zpF (.zn zg (.ret (Fin.bu mG rfl ?_)))))))))))))))))))
  first
  |exact ⟨false,rfl,⟨fun h=>(by cases h),fun h=>(by obtain ⟨g1,g2,g3,g4,g5,g6,g7⟩:=h;simp_all;done)⟩,hs.out⟩
  |exact ⟨_,rfl,⟨fun h=>⟨by simp_all,by simp_all,by simp_all,by simp_all,by simp_all,by simp_all,by simpa using h⟩,fun h=>by simpa using h.day⟩,hs.out⟩
theorem mO{c:Cmp}(hs:St H w σ):
  Cl Tryz.prog 170 [.agg #[I c.src,I c.tape,I c.fr,I c.to,I c.lo,I c.hi]] w fun v w'=>∃b:Bool,v= .bool b∧(b=true↔sO c)∧St H w' σ:=by
 refine Cl.o Tryz.func170 Tryz.ntmps170 ag1 ?_
 refine .ai (.bx hs fun b1 w hs=>?_)
 refine .zn zg (.ai (.z (zfa iq) (.y hs (zld af) (.o (.call Tryz.call165 rfl (gD hs) ?_)))));rintro _ w ⟨rfl,hs⟩
 refine .z zm (.bif (t':=6) rfl (fun hb6=>?_) (fun hb6=>?_))
 ·refine .T (.z (zfa jQ) (.T (.y hs (zld af) (.T (.o (.call dc rfl (bh hs) ?_))))));rintro _ w ⟨rfl,hs⟩
  refine .z zpT (.z zm (.bif (t':=11) rfl (fun hb11=>?_) (fun hb11=>?_)))
  ·refine .T (.z (zfa jP) (.T (.y hs (zld af) (.T (.z (zfa im) (.T (.y hs (zld af) (.T (.o (.call dc rfl (bh hs) ?_))))))))));rintro _ w ⟨rfl,hs⟩
   refine .z zpT (.z zm (.bif (t':=18) rfl (fun hb18=>?_) (fun hb18=>?_)))
   ·refine .T (.z (zfa im) (.T (.y hs (zld af) (.T (.o (.call dc rfl (bh hs) ?_))))));rintro _ w ⟨rfl,hs⟩
    refine .z zpT (.z zm (.bif (t':=23) rfl (fun hb23=>?_) (fun hb23=>?_)))
    ·refine .T (.z (zfa jO) (.T (.y hs (zld af) (.T (.z (zfa ik) (.T (.y hs (zld af) (.T (.o (.call dc rfl (bh hs) ?_))))))))));rintro _ w ⟨rfl,hs⟩
     refine .z zpT (.z zm (.bif (t':=30) rfl (fun hb30=>?_) (fun hb30=>?_)))
     ·refine .T (.z (zfa ik) (.T (.y hs (zld af) (.T (.o (.call dc rfl (bh hs) ?_))))));rintro _ w ⟨rfl,hs⟩
      refine .z zpT (.zn zg (.ret (Fin.bu sQ rfl ?_)))
      first
      |exact ⟨false,rfl,⟨fun h=>(by cases h),fun h=>(by obtain ⟨g1,g2,g3,g4,g5,g6⟩:=h;simp_all;omega)⟩,hs.out⟩
      |exact ⟨false,rfl,⟨fun h=>(by cases h),fun h=>(by obtain ⟨g1,g2,g3,g4,g5,g6⟩:=h;simp_all;done)⟩,hs.out⟩
      |exact ⟨_,rfl,⟨fun h=>⟨by simp_all,by simp_all,by simp_all,by simp_all,by simp_all,(by simpa using h:_∧_).2⟩,fun h=>by have:=h.lo;have:=h.hi;simp;omega⟩,hs.out⟩
     ·refine .Fs 3 27 true (.z zpF (.zn zg (.ret (Fin.bu sQ rfl ?_))))
      first
      |exact ⟨false,rfl,⟨fun h=>(by cases h),fun h=>(by obtain ⟨g1,g2,g3,g4,g5,g6⟩:=h;simp_all;omega)⟩,hs.out⟩
      |exact ⟨false,rfl,⟨fun h=>(by cases h),fun h=>(by obtain ⟨g1,g2,g3,g4,g5,g6⟩:=h;simp_all;done)⟩,hs.out⟩
      |exact ⟨_,rfl,⟨fun h=>⟨by simp_all,by simp_all,by simp_all,by simp_all,by simp_all,(by simpa using h:_∧_).2⟩,fun h=>by have:=h.lo;have:=h.hi;simp;omega⟩,hs.out⟩
    ·refine .Fs 5 20 true (.z zpF (.z zm (.Fs 3 27 true (.z zpF (.zn zg (.ret (Fin.bu sQ rfl ?_)))))))
     first
     |exact ⟨false,rfl,⟨fun h=>(by cases h),fun h=>(by obtain ⟨g1,g2,g3,g4,g5,g6⟩:=h;simp_all;omega)⟩,hs.out⟩
     |exact ⟨false,rfl,⟨fun h=>(by cases h),fun h=>(by obtain ⟨g1,g2,g3,g4,g5,g6⟩:=h;simp_all;done)⟩,hs.out⟩
     |exact ⟨_,rfl,⟨fun h=>⟨by simp_all,by simp_all,by simp_all,by simp_all,by simp_all,(by simpa using h:_∧_).2⟩,fun h=>by have:=h.lo;have:=h.hi;simp;omega⟩,hs.out⟩
   ·refine .Fs 3 15 true (.z zpF (.z zm (.Fs 5 20 true (.z zpF (.z zm (.Fs 3 27 true (.z zpF (.zn zg (.ret (Fin.bu sQ rfl ?_))))))))))
    first
    |exact ⟨false,rfl,⟨fun h=>(by cases h),fun h=>(by obtain ⟨g1,g2,g3,g4,g5,g6⟩:=h;simp_all;omega)⟩,hs.out⟩
    |exact ⟨false,rfl,⟨fun h=>(by cases h),fun h=>(by obtain ⟨g1,g2,g3,g4,g5,g6⟩:=h;simp_all;done)⟩,hs.out⟩
    |exact ⟨_,rfl,⟨fun h=>⟨by simp_all,by simp_all,by simp_all,by simp_all,by simp_all,(by simpa using h:_∧_).2⟩,fun h=>by have:=h.lo;have:=h.hi;simp;omega⟩,hs.out⟩
  ·refine .Fs 5 8 true (.z zpF (.z zm (.Fs 3 15 true (.z zpF (.z zm (.Fs 5 20 true (.z zpF (.z zm (.Fs 3 27 true (.z zpF (.zn zg (.ret (Fin.bu sQ rfl ?_)))))))))))))
   first
   |exact ⟨false,rfl,⟨fun h=>(by cases h),fun h=>(by obtain ⟨g1,g2,g3,g4,g5,g6⟩:=h;simp_all;omega)⟩,hs.out⟩
   |exact ⟨false,rfl,⟨fun h=>(by cases h),fun h=>(by obtain ⟨g1,g2,g3,g4,g5,g6⟩:=h;simp_all;done)⟩,hs.out⟩
   |exact ⟨_,rfl,⟨fun h=>⟨by simp_all,by simp_all,by simp_all,by simp_all,by simp_all,(by simpa using h:_∧_).2⟩,fun h=>by have:=h.lo;have:=h.hi;simp;omega⟩,hs.out⟩
 ·refine .Fs 3 3 true (.z zpF (.z zm (.Fs 5 8 true (.z zpF (.z zm (.Fs 3 15 true (.z zpF (.z zm (.Fs 5 20 true (.z zpF (.z zm (.Fs 3 27 true (.z zpF (.zn zg (.ret (Fin.bu sQ rfl ?_))))))))))))))))
  first
  |exact ⟨false,rfl,⟨fun h=>(by cases h),fun h=>(by obtain ⟨g1,g2,g3,g4,g5,g6⟩:=h;simp_all;omega)⟩,hs.out⟩
  |exact ⟨false,rfl,⟨fun h=>(by cases h),fun h=>(by obtain ⟨g1,g2,g3,g4,g5,g6⟩:=h;simp_all;done)⟩,hs.out⟩
  |exact ⟨_,rfl,⟨fun h=>⟨by simp_all,by simp_all,by simp_all,by simp_all,by simp_all,(by simpa using h:_∧_).2⟩,fun h=>by have:=h.lo;have:=h.hi;simp;omega⟩,hs.out⟩
theorem lN{s:Spc}{vst vwa:Value}(hs:St H w σ)(h1:RI H vst s.st)(h2:RI H vwa s.wa)(hb:s.st.length≤1000∧s.wa.length≤1000):
  Cl Tryz.prog 196 [.agg #[I s.id,I s.src,vst,vwa,I s.al,I s.up]] w fun v w'=>v=I (s.many:Int)∧St H w' σ:=by
 obtain ⟨ast,cst,rfl⟩:=RI.shape h1
 obtain ⟨awa,cwa,rfl⟩:=RI.shape h2
 have hm:=kV (a:=(s.st.length:Int)) (b:=(s.wa.length:Int)) (A:=1000) (B:=1000) ak ak
 refine Cl.o Tryz.func196 Tryz.ntmps196 ag1 ?_
 refine .ai (.bx hs fun b1 w hs=>?_)
 refine .zn zg (.ai (.z (zfa bC) (.y hs (zld an) (.z (cU ae) (.z (zfa bg) (.y hs (zld an) (.z (cU ae) (.z kM (.zn zg (.ret (Fin.bu Tryz.results196 rfl ?_)))))))))))
 exact ⟨by unfold Spc.many;rw [Int.natCast_mul],hs.out⟩
theorem oo{s:Spc}{vst vwa:Value}{a b:Int}(hs:St H w σ)(h2:RI H vwa s.wa)(hb:s.wa.length≤1000)(ha: -1000≤a∧a≤1000)(hb': -1000≤b∧b≤1000):
  Cl Tryz.prog 247 [.agg #[I s.id,I s.src,vst,vwa,I s.al,I s.up],I a,I b] w fun v w'=>v=I (1+a*s.wa.length+b)∧St H w' σ:=by
 obtain ⟨awa,cwa,rfl⟩:=RI.shape h2
 have hm:=kV (a:=a) (b:=(s.wa.length:Int)) (A:=1000) (B:=1000) ak ak
 refine Cl.o Tryz.func247 Tryz.ntmps247 ag3 ?_
 refine .ai (.bx hs fun b3 w hs=>?_)
 refine .zn zg (.ai (.z zm (.z (zfa bg) (.y hs (zld an) (.z (cU ae) (.z kM (.z cq (.z zm (.z cq (.zn zg (.ret (Fin.bu Tryz.results247 rfl ?_))))))))))))
 exact ⟨rfl,hs.out⟩
theorem iy{r:Rdg}(hs:St H w σ):
  Cl Tryz.prog 241 [.agg #[I r.src,I r.st,I r.wa,I r.val,I r.tol,I r.tape,I r.day]] w fun v w'=>v= .agg #[I r.tape,I r.day]∧St H w' σ:=by
 refine Cl.o Tryz.func241 Tryz.ntmps241 ag1 ?_
 refine .ai (.bx hs fun b1 w hs=>?_)
 refine .o (.alloc hs kg rfl fun b2 w hs=>?_)
 refine .nil (.ai (.z (zfa eo) (.y hs (zld af) (.z (zfa ek) (.y hs (zld af) (.z (zbd [_,_] gL) (.o (.aH (vs:=[_,_]) hs rfl rfl bk fun w hs=>?_))))))))
 refine .nil (.ret ?_)
 exact Fin.gj [] [] hs fun w hs=>⟨_,results1 Tryz.results241 (cC (vs:=[_,_]) hs rfl dA bk),rfl,hs.out⟩
theorem lO{a b:Int}(hs:St H w σ)(ha:0≤a∧a≤100000)(hb:0≤b∧b≤100000):
  Cl Tryz.prog 243 [I a,I b] w fun v w'=>v=I (jK a b)∧St H w' σ:=by
 have hm:=kV (a:=a) (b:=b) (A:=100000) (B:=100000) ak ak
 have h0:=Int.mul_nonneg ha.1 hb.1
 have hq0:0≤(a*b+999).tdiv 1000:=Int.tdiv_nonneg ak ak
 have hq1:(a*b+999).tdiv 1000≤a*b+999:=by rw [Int.tdiv_eq_ediv_of_nonneg ak];omega
 refine Cl.o Tryz.func243 Tryz.ntmps243 ag2 ?_
 refine .ai (.zn zg (.ai (.z zm (.z zm (.z kM (.z cq (.q hs (xI rfl rfl ak ak) (.z Bj (.zn zg (.ret (Fin.bu Tryz.results243 rfl ?_)))))))))))
 exact ⟨rfl,hs⟩
def uM(s:Spc):List (List Value):=(List.range s.many).map fun p=>[Value.agg #[I ((p/s.wa.length:Nat):Int),I ((p%s.wa.length:Nat):Int),I ((p+1:Nat):Int)]]
theorem di(s:Spc):(uM s).length=s.many:=by simp [uM]
theorem k8{s:Spc}{p:Nat}(h:p<(uM s).length):(uM s)[p]=[Value.agg #[I ((p/s.wa.length:Nat):Int),I ((p%s.wa.length:Nat):Int),I ((p+1:Nat):Int)]]:=by simp [uM]
theorem qc{H:bw}{b:Nat}{s:Spc}{vst vwa:Value}(hb:Row H b [I s.id,I s.src,vst,vwa,I s.al,I s.up])(h1:RI H vst s.st)(h2:RI H vwa s.wa)(hbd:s.st.length≤1000∧s.wa.length≤1000):
  Iter Tryz.prog 188 [Pt b] H (uM s):=by
 intro ly II Ix hmI _ hy H0 σb0 σf w hle hI0 hs
 obtain ⟨ast,cst,rfl⟩:=RI.shape h1
 obtain ⟨awa,cwa,rfl⟩:=RI.shape h2
 have g2:cellAt H0 b 2=some (.slice ast s.st.length cst):=cellAt.mono (hb.at 2) hle
 have g3:cellAt H0 b 3=some (.slice awa s.wa.length cwa):=cellAt.mono (hb.at 3) hle
 have hm:s.many≤1000000:=Nat.mul_le_mul hbd.1 hbd.2
 refine Cl.o Tryz.func188 Tryz.ntmps188 ag2 ?_
 refine .ai (.zn zg (.ai (.z (zfa bC) (.y hs (zld an) (.z (cU ae) (.zn zm (.for (N:=s.st.length) (J:=fun i fr w=>fr=[(3,I ((i*s.wa.length:Nat):Int)),(0,.func (.yield ly) #[] #[]),(1,Pt b)]∧∃H1 σb,HLe H H1∧HLe H0 H1∧II (i*s.wa.length) H1 σb∧St H1 w (σb++σf)) ak ?_ ?_ ?_)))))))
 ·exact .mk ⟨by rw [Nat.zero_mul],H0,σb0,hle,HLe.refl _,by rw [Nat.zero_mul];exact hI0,hs⟩
 ·rintro i fr w hi ⟨rfl,H1,σb,hle1,hle0,hI,hs⟩
  have h23:=cellAt.mono g3 hle0
  refine .block (.ai (.z zm (.zn zg (.ai (.z (zfa bg) (.y hs (zld an) (.z (cU ae) (.zn zm (.for (N:=s.wa.length) (J:=fun k fr w=>fr=[(3,I ((i*s.wa.length+k:Nat):Int)),(4,I (i:Int)),(9,I (i:Int)),(8,I (s.st.length:Int)),(0,.func (.yield ly) #[] #[]),(1,Pt b)]∧∃H3 σb,HLe H1 H3∧II (i*s.wa.length+k) H3 σb∧St H3 w (σb++σf)) ak ?_ ?_ ?_)))))))))
  ·exact .mk ⟨rfl,H1,σb,HLe.refl _,hI,hs⟩
  ·rintro k fr w hk ⟨rfl,H3,σb3,hle3,hI3,hs⟩
   obtain ⟨d1,d2⟩:=GY (nw:=s.wa.length) (i:=i) (k:=k) hk
   have hlt:=IN hi hk
   refine .block (.ai (.z zm (.zn zg (.ai (.z zm (.z cq (.zn zg (.ai (.z zm (.z zm (.z zm (.z zm (.z (zbd [_,_,_] qC) ?_)))))))))))))
   have hk':i*s.wa.length+k<(uM s).length:=by rw [di];exact hlt
   have hyd:=hy (i*s.wa.length+k) hk' H3 σb3 σf w (hle1.trans hle3) hI3 hs
   rw [k8 hk',d1,d2,show ((i*s.wa.length+k+1:Nat):Int)=((i*s.wa.length+k:Nat):Int)+1 by omega] at hyd
   refine .o (.yield rfl rfl hyd ?_);rintro v25 w ⟨H5,σ5,g1,hs,g3'⟩
   obtain ⟨bb,rfl,gT,gF⟩:=mY g3'
   refine .zn gP (.cond rfl (fun hc26=>?_) (fun hc26=>?_))
   ·refine .ret (rB (rT (rB (rB (rT (rB (Fin.GI Tryz.results188 ?_)))))))
    exact ⟨H5,σ5,hle0.trans (hle3.trans g1),hs,.inr (gF (by simpa using hc26))⟩
   ·refine .skip (nB (nT ?_))
    exact .mk ⟨rfl,H5,σ5,hle3.trans g1,gT (by simpa using hc26),hs⟩
  ·rintro fr w ⟨rfl,H3,σb3,hle3,hI3,hs⟩
   have e:i*s.wa.length+s.wa.length=(i+1)*s.wa.length:=by rw [Nat.add_mul,Nat.one_mul]
   rw [e] at hI3 ⊢
   refine nB (nT ?_)
   exact .mk ⟨rfl,H3,σb3,hle1.trans hle3,hle0.trans hle3,hI3,hs⟩
 ·rintro fr w ⟨rfl,H1,σb,hle1,hle0,hI,hs⟩
  exact Fin.yq Tryz.results188 ⟨H1,σb,hle0,hs,.inl (by rw [di];exact hI)⟩
theorem ef{s:Spc}{vst vwa:Value}(hs:St H w σ)(h1:RI H vst s.st)(h2:RI H vwa s.wa)(hbd:s.st.length≤1000∧s.wa.length≤1000):
  Cl Tryz.prog 131 [.agg #[I s.id,I s.src,vst,vwa,I s.al,I s.up]] w fun u w'=>∃H1 b,HLe H H1∧u= .func (.func 188) #[] #[Pt b]∧Iter Tryz.prog 188 [Pt b] H1 (uM s)∧St H1 w' σ:=by
 obtain ⟨ast,cst,rfl⟩:=RI.shape h1
 obtain ⟨awa,cwa,rfl⟩:=RI.shape h2
 refine Cl.o Tryz.func131 Tryz.ntmps131 ag1 ?_
 refine .ai (.bx hs fun b1 w hs=>?_)
 refine .zn zg (.ai (.q hs (cJ (f:=[]) (c:=[_]) rfl rfl) (.zn zg (.ret (Fin.bu Tryz.results131 rfl ?_)))))
 obtain ⟨H1,g1,g2,hs⟩:=hs.bU .here
 exact ⟨H1,b1,g1,rfl,qc g2 (h1.mono g1) (h2.mono g1) hbd,hs⟩
set_option maxRecDepth 100000 in
theorem sW:Tryz.prog.stoodInHeld 162=false:=by kernel_rfl
set_option maxRecDepth 100000 in
theorem sX:Tryz.prog.eqGuardType Tryz.prog.depth 162=false:=by kernel_rfl
theorem o6{v:Value}{en:Ent}{xs:List TD}{g:Nat}{cap:List Value}(q:TD→Bool)(hs:St H w (en::σ))(hO:bS 2 v (tdc xs).flatten en)(hl:xs.length≤1000000)(hc:∀args w,(callFunc g args).run Tryz.prog w= .ok (.enter g args) w)
  (hp:∀w (t:TD),St H w (en::σ)→Cl Tryz.prog g ([.agg #[I t.tape,I t.day]]++cap) w fun u w'=>u= .bool (q t)∧St H w' (en::σ)):
  Cl Tryz.prog 276 [v,.func (.func g) #[] cap.toArray] w fun u w'=>∃i:Int,u=I i∧(0≤i↔∃x∈xs,q x=true)∧St H w' (en::σ):=by
 obtain ⟨a,c,rfl⟩:=hO.lK (oY xs) ak
 rw [dR] at hO ⊢
 refine Cl.o Tryz.func276 Tryz.ntmps276 ag2 ?_
 refine .ai (.zn zg (.seq (.ai (.z zm (.z (cU a6) (.zn zm (.for (N:=xs.length) (J:=fun k fr w=>fr=[(1,.func (.func g) #[] cap.toArray),(0,.slice a xs.length c)]∧(∀j<k,∀y,xs[j]? =some y→¬q y=true)∧St H w (en::σ)) ak ?_ ?_ ?_)))))))
 ·exact .mk ⟨rfl,fun j hj=>by omega,hs⟩
 ·rintro k fr w hk ⟨rfl,hno,hs⟩
  obtain ⟨x,hx⟩:=nth hk
  obtain ⟨b,c',sp,hv,rfl,_⟩:=hO.Iv (oY xs) ak (by rw [dR];omega)
  rw [dR] at hv
  cases hv
  refine .block (.ai (.z zm (.zn zg (.ai (.z zm (.z zm (.z zm (.z (AA a6 bk) (.q hs (kn (vs:=x.c) rfl dA bk .here (Ca (oY xs) (BA hx) sp)) (.o (.nI (first:=[]) (cap:=cap) rfl rfl hc (hp _ x hs) ?_)))))))))));rintro _ w ⟨rfl,hs⟩
  refine .nil (.cond rfl (fun hc16=>?_) (fun hc16=>?_))
  ·refine .ai (.z zm (.zn zg (.ret (rB (rT (rB (rT (Fin.bu Tryz.results276 rfl ?_))))))))
   exact ⟨_,rfl,⟨fun _=>⟨x,List.mem_of_getElem? hx,hc16⟩,fun _=>by omega⟩,hs⟩
  ·refine .skip (nB (nT ?_))
   exact .mk ⟨rfl,eT hno hx (by simpa using hc16),hs⟩
 ·rintro fr w ⟨rfl,hno,hs⟩
  refine nT (.ai (.zn zg (.ret (Fin.bu Tryz.results276 rfl ?_))))
  exact ⟨_,rfl,⟨fun h=>by omega,fun ⟨x,h1,h2⟩=>by
   obtain ⟨j,hj⟩:=List.getElem?_of_mem h1
   exact (hno j (List.getElem?_eq_some_iff.1 hj).1 x hj h2).elim⟩,hs⟩
theorem mL{v:Value}{en:Ent}{xs:List TD}{g:Nat}{cap:List Value}(q:TD→Bool)(hs:St H w (en::σ))(hO:bS 2 v (tdc xs).flatten en)(hl:xs.length≤1000000)(hc:∀args w,(callFunc g args).run Tryz.prog w= .ok (.enter g args) w)
  (hp:∀w (t:TD),St H w (en::σ)→Cl Tryz.prog g ([.agg #[I t.tape,I t.day]]++cap) w fun u w'=>u= .bool (q t)∧St H w' (en::σ)):
  Cl Tryz.prog 239 [v,.func (.func g) #[] cap.toArray] w fun u w'=>∃b:Bool,u= .bool b∧(b=true↔∃x∈xs,q x=true)∧St H w' (en::σ):=by
 refine Cl.o Tryz.func239 Tryz.ntmps239 ag2 ?_
 refine .ai (.zn zg (.ai (.z zm (.z zm (.o (.call Tryz.call276 rfl (o6 q hs hO hl hc hp) ?_))))));rintro _ w ⟨i,rfl,hi,hs⟩
 refine .z yM (.zn zg (.ret (Fin.bu Tryz.results239 rfl ?_)))
 exact ⟨_,rfl,by simp only [decide_eq_true_eq];exact hi,hs⟩
theorem tA{v:Value}{xs:List TD}{t:TD}(hs:St H w σ)(hr:RTd H v xs)(hl:xs.length≤1000000):
  Cl Tryz.prog 246 [v,.agg #[I t.tape,I t.day]] w fun u w'=>u=I (jH xs t)∧St H w' σ:=by
 obtain ⟨a,c,rfl⟩:=RTd.shape hr
 refine Cl.o Tryz.func246 Tryz.ntmps246 ag2 ?_
 refine .ai (.bx hs fun b3 w hs=>?_)
 refine .zn zg (.seq (.ai (.z zm (.z (cU a6) (.zn zm (.for (N:=xs.length) (J:=fun k fr w=>fr=[(0,.slice a xs.length c),(3,Pt b3)]∧(∀j<k,∀y,xs[j]? =some y→¬y=t)∧St H w (.blk b3 [I t.tape,I t.day]::σ)) ak ?_ ?_ ?_))))))
 ·exact .mk ⟨rfl,fun j hj=>by omega,hs⟩
 ·rintro k fr w hk ⟨rfl,hno,hs⟩
  obtain ⟨x,hx⟩:=nth hk
  refine .block (.ai (.z zm (.zn zg (.seq (.draw mix rfl hs fun w hs=>?_)))))
  refine .ys 0 rfl hs [_,_] dA bk ?_;refine .z 1 rfl zm ?_;refine .z 2 rfl zm ?_
  refine .ixX (enc:=TD.c) (i:=3) hs rfl aE .none hr rfl rfl a6 bk hx df ?_;intro b14 o14 hc14
  refine .r (i:=4) hs rfl aE .none (bI (vs:=x.c) rfl dA bk hc14) ?_
  refine .z 5 rfl (xK sW sX gS (fun f hf=>by
   simp only [List.mem_cons,List.not_mem_nil,or_false] at hf
   rcases hf with rfl|rfl<;>exact ⟨by decide,aV,af⟩) rfl rfl) ?_
  refine .D hs (.cond rfl (fun hc16=>?_) (fun hc16=>?_))
  ·refine .ai (.z zm (.zn zg (.ret (rB (rT (rB (rT (Fin.bu Tryz.results246 rfl ?_))))))))
   have e:x=t:=Dz.1 (by have:=of_decide_eq_true hc16;exact ⟨this.1.symm,this.2.symm⟩)
   subst e
   exact ⟨by rw [pV hx fun j hj h=>hno j hj _ h rfl],hs.tail⟩
  ·refine .skip (nB (nT ?_))
   exact .mk ⟨rfl,eT hno hx (fun e=>by subst e;simp at hc16),hs⟩
 ·rintro fr w ⟨rfl,hno,hs⟩
  refine nT (.ai (.zn zg (.ret (Fin.bu Tryz.results246 rfl ?_))))
  exact ⟨by rw [wm hno],hs.tail⟩
theorem oq{t:TD}{r:Rdg}{b:Nat}(hs:St H w σ)(hb:Row H b r.c):
  Cl Tryz.prog 240 [.agg #[I t.tape,I t.day],Pt b] w fun u w'=>u= .bool (decide (t=r.td))∧St H w' σ:=by
 have hb0:bK H b 0 r.c:=hb.cells 0 r.c
 refine Cl.o Tryz.func240 Tryz.ntmps240 ag2 ?_
 refine .ai (.bx hs fun b2 w hs=>?_)
 refine .zn zg (.seq (.draw mix rfl hs fun w hs=>?_))
 refine .ys 0 rfl hs [_,_] dA bk ?_;refine .ys 1 rfl hs [_,_,_,_,_,_,_] gu a8 ?_
 refine .E 2 hs ?_
 refine .call Tryz.call241 rfl (iy hs) ?_;rintro _ w ⟨rfl,hs⟩
 refine .go ?_
 refine .z 3 rfl (xK sW sX gS (fun f hf=>by
  simp only [List.mem_cons,List.not_mem_nil,or_false] at hf
  rcases hf with rfl|rfl<;>exact ⟨by decide,aV,af⟩) rfl rfl) ?_
 refine .zw 4 rfl zg ?_;refine .D hs ?_
 refine .ret (Fin.bu Tryz.results240 rfl ?_)
 exact ⟨by congr 1;rw [decide_eq_decide];exact Dz (t:=t) (u:=r.td),hs.tail⟩
set_option maxHeartbeats 1000000 in
theorem rf{s:Srv}{vst vwa vr vc:Value}(hs:St H w σ)(hr:RRd H vr s.rs)(hl:s.rs.length≤1000000):
  Cl Tryz.prog 189 [.agg #[I s.sp.id,I s.sp.src,vst,vwa,I s.sp.al,I s.sp.up,vr,vc]] w fun u w'=>∃H1 en,HLe H H1∧bS 2 u (tdc s.bM).flatten en∧St H1 w' (en::σ):=by
 obtain ⟨ar,cr,rfl⟩:=RRd.shape hr
 refine Cl.o Tryz.func189 Tryz.ntmps189 ag1 ?_
 refine .ai (.bx hs fun b1 w hs=>?_)
 refine .zn zg (.ai (.zn zg (.seq (.ai (.z (zfa br) (.y hs (zld cS) (.z (cU aO) (.zn zm (.for (N:=s.rs.length) (J:=fun k fr w=>∃vo en H1,fr=[(7,.slice ar s.rs.length cr),(3,vo)]∧HLe H H1∧bS 2 vo (tdc (aT (s.rs.take k))).flatten en∧St H1 w (en::σ)) ak ?_ ?_ ?_)))))))))
 ·exact .mk ⟨_,.nul,H,rfl,HLe.refl _,.nil 2 none,hs.tail.nul⟩
 ·rintro k fr w hk ⟨vo,en,H1,rfl,hle1,hO,hs⟩
  obtain ⟨r,hx⟩:=nth hk
  have htk:=jk hx
  have htl:=kj s.rs k ak
  obtain ⟨ao,co,rfl⟩:=hO.lK (oY _) ak
  rw [dR] at hO ⊢
  refine .block (.ai (.ixX (enc:=Rdg.c) hs (hr.mono hle1) rfl rfl aO a8 hx df ?_));intro b11 o11 hc11
  refine .q hs (bI (vs:=(Rdg.c r)) rfl gu a8 hc11) (.o (.alloc hs fN rfl fun b5 w hs=>?_))
  refine .o (.aH (vs:=r.c) hs rfl rfl a8 fun w hs=>?_)
  obtain ⟨H2,hle2,r5,hs⟩:=hs.bU (b:=b5) (c:=r.c) .here
  have c5:bK H2 b5 0 r.c:=r5.cells 0 r.c
  refine .nil (.ai (.z zm (.q hs (cJ (f:=[]) (c:=[_]) rfl rfl) (.o (.call Tryz.call239 rfl (mL (g:=240) (cap:=[Pt b5]) (fun t=>decide (t=r.td)) hs hO ak Tryz.call240 (fun w t hs=>oq hs r5)) ?_)))));rintro _ w ⟨b15,rfl,hb15,hs⟩
  refine .zn gP (.cond rfl (fun hc16=>?_) (fun hc16=>?_))
  ·refine .region (.z zm (.q hs (bI (vs:=r.c) rfl gu a8 c5) (.o (.call Tryz.call241 rfl (iy (r:=r) hs) ?_))));rintro _ w ⟨rfl,hs⟩
   refine .o (.buildSlice (cells:=[_,_]) hs gZ rfl rfl fun b20 w hs=>?_)
   refine .o (.append (ys:=r.td.c) hs dZ rfl rfl hO (.own .here rfl rfl) (by simp [TD.c,Value.oneCell']) (fun l h=>by rw [cK _ (oY _),dR] at h;omega) ?_);intro v21 en21 w hO2 hs
   refine .zn zg (nB (nT ?_))
   have hn:r.td∉aT (s.rs.take k):=fun hm=>by
    rw [hb15.2 ⟨_,hm,bV⟩] at hc16;cases hc16
   rw [←wk,show aT (s.rs.take k)++[r.td]=aT (s.rs.take (k+1)) by rw [htk];unfold qH;rw [if_neg hn]] at hO2
   exact .mk ⟨_,_,H2,rfl,hle1.trans hle2,hO2,hs.sb⟩
  ·refine .skip (nB (nT ?_))
   have hm:r.td∈aT (s.rs.take k):=by
    obtain ⟨x,h1,h2⟩:=hb15.1 (by simpa using hc16)
    rw [←of_decide_eq_true h2];exact h1
   exact .mk ⟨_,_,H2,rfl,hle1.trans hle2,by rw [htk];unfold qH;rw [if_pos hm];exact hO,hs⟩
 ·rintro fr w ⟨vo,en,H1,rfl,hle1,hO,hs⟩
  rw [List.take_length] at hO
  refine nT (.ai (.z zm (.zn zg (.ret (Fin.bu Tryz.results189 rfl ?_)))))
  exact ⟨H1,en,hle1,hO,hs⟩
theorem qa{s:Srv}{vst vwa vr vc:Value}(hs:St H w σ)(hr:RRd H vr s.rs)(hl:s.rs.length≤1000000):
  Cl Tryz.prog 189 [.agg #[I s.sp.id,I s.sp.src,vst,vwa,I s.sp.al,I s.sp.up,vr,vc]] w fun u w'=>∃H1,HLe H H1∧RTd H1 u s.bM∧St H1 w' σ:=by
 refine (rf hs hr hl).mono ?_
 rintro u w' ⟨H1,en,hle1,hO,hs⟩
 have htl:=dn s.rs
 have htl':s.bM.length≤1000000:=by unfold Srv.bM;omega
 obtain ⟨H2,hle2,hR,hs⟩:=bS.bU (m:=2) hO (oY _) ak (by rw [dR];omega) hs .here
 exact ⟨H2,hle1.trans hle2,hR,hs⟩
end Go.Proofs.YteajddicacjkhaaGreat
