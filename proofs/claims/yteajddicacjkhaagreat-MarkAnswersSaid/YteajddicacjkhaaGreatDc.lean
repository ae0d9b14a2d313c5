/-
  Texts of these claims, joined: Opn Opv Opm Opq Opc Cls Fct Wa Wb Wc Wd We Wf Wg Wp Wt Wu Wv Wx Wy Xf Xi Xj Xn Srt Yc Yd Ye Yf Yq.
-/
import Derived.Test.YteajddicacjkhaaGreatDb
import Derived.Test.YteajddicacjkhaaGreatProg
import Derived.KernelRfl
import Derived.JoinedOf
import Derived.Shelf.Sort.Plain
import Derived.Shelf.Slices.CompactI
import Derived.Shelf.Slices.In.SortNone
import Derived.Lib.RowBridge
namespace Go.Proofs.YteajddicacjkhaaGreat
theorem Ki:type_of% @Tryz.call117:=@Tryz.call117
theorem Dm:type_of% @Tryz.call131:=@Tryz.call131
theorem Kh:type_of% @Tryz.call133:=@Tryz.call133
theorem jQ:type_of% @Tryz.call141:=@Tryz.call141
theorem im:type_of% @Tryz.call146:=@Tryz.call146
theorem dZ:type_of% @Tryz.call164:=@Tryz.call164
theorem fL:type_of% @Tryz.call167:=@Tryz.call167
theorem Dl:type_of% @Tryz.call188:=@Tryz.call188
theorem Dk:type_of% @Tryz.call199:=@Tryz.call199
theorem Dj:type_of% @Tryz.call242:=@Tryz.call242
theorem Di:type_of% @Tryz.call253:=@Tryz.call253
theorem fl:type_of% @Tryz.call36:=@Tryz.call36
theorem eS:type_of% @Tryz.call72:=@Tryz.call72
theorem ir:type_of% @Tryz.call74:=@Tryz.call74
theorem eo:type_of% @Tryz.call90:=@Tryz.call90
theorem kH:type_of% @Tryz.call93:=@Tryz.call93
theorem G0:type_of% @Tryz.call94:=@Tryz.call94
theorem GZ:type_of% @Tryz.call96:=@Tryz.call96
theorem eI:type_of% @Tryz.isAgg100:=@Tryz.isAgg100
theorem IH:type_of% @Tryz.isAgg104:=@Tryz.isAgg104
theorem lK:type_of% @Tryz.isAgg113:=@Tryz.isAgg113
theorem nW:type_of% @Tryz.isAgg140:=@Tryz.isAgg140
theorem IG:type_of% @Tryz.isAgg153:=@Tryz.isAgg153
theorem IF:type_of% @Tryz.isAgg159:=@Tryz.isAgg159
theorem eH:type_of% @Tryz.isAgg162:=@Tryz.isAgg162
theorem dz:type_of% @Tryz.isAgg175:=@Tryz.isAgg175
theorem bq:type_of% @Tryz.isAgg177:=@Tryz.isAgg177
theorem A1:type_of% @Tryz.isAgg179:=@Tryz.isAgg179
theorem gw:type_of% @Tryz.isAgg193:=@Tryz.isAgg193
theorem ew:type_of% @Tryz.isAgg22:=@Tryz.isAgg22
theorem tg:type_of% @Tryz.isAgg226:=@Tryz.isAgg226
theorem eM:type_of% @Tryz.isAgg23:=@Tryz.isAgg23
theorem tf:type_of% @Tryz.isAgg241:=@Tryz.isAgg241
theorem te:type_of% @Tryz.isAgg243:=@Tryz.isAgg243
theorem bw:type_of% @Tryz.isAgg25:=@Tryz.isAgg25
theorem cu:type_of% @Tryz.isAgg26:=@Tryz.isAgg26
theorem gv:type_of% @Tryz.isAgg267:=@Tryz.isAgg267
theorem cA:type_of% @Tryz.isAgg28:=@Tryz.isAgg28
theorem af:type_of% @Tryz.isAgg3:=@Tryz.isAgg3
theorem iR:type_of% @Tryz.isAgg303:=@Tryz.isAgg303
theorem aq:type_of% @Tryz.isAgg34:=@Tryz.isAgg34
theorem ui:type_of% @Tryz.isAgg4:=@Tryz.isAgg4
theorem aW:type_of% @Tryz.isAgg42:=@Tryz.isAgg42
theorem bg:type_of% @Tryz.isAgg48:=@Tryz.isAgg48
theorem bQ:type_of% @Tryz.isAgg49:=@Tryz.isAgg49
theorem eu:type_of% @Tryz.isAgg50:=@Tryz.isAgg50
theorem aN:type_of% @Tryz.isAgg52:=@Tryz.isAgg52
theorem xx:type_of% @Tryz.isAgg62:=@Tryz.isAgg62
theorem gC:type_of% @Tryz.isAgg87:=@Tryz.isAgg87
theorem vF:type_of% @Tryz.results111:=@Tryz.results111
theorem jK:type_of% @Tryz.results113:=@Tryz.results113
theorem lC:type_of% @Tryz.results117:=@Tryz.results117
theorem oD:type_of% @Tryz.results120:=@Tryz.results120
theorem lB:type_of% @Tryz.results123:=@Tryz.results123
theorem vE:type_of% @Tryz.results134:=@Tryz.results134
theorem oC:type_of% @Tryz.results150:=@Tryz.results150
theorem iG:type_of% @Tryz.results155:=@Tryz.results155
theorem vD:type_of% @Tryz.results170:=@Tryz.results170
theorem lA:type_of% @Tryz.results176:=@Tryz.results176
theorem fF:type_of% @Tryz.results18:=@Tryz.results18
theorem gz:type_of% @Tryz.results19:=@Tryz.results19
theorem gy:type_of% @Tryz.results20:=@Tryz.results20
theorem vC:type_of% @Tryz.results217:=@Tryz.results217
theorem vB:type_of% @Tryz.results228:=@Tryz.results228
theorem Dt:type_of% @Tryz.results250:=@Tryz.results250
theorem oB:type_of% @Tryz.results256:=@Tryz.results256
theorem Dr:type_of% @Tryz.results259:=@Tryz.results259
theorem qB:type_of% @Tryz.results32:=@Tryz.results32
theorem GY:type_of% @Tryz.results75:=@Tryz.results75
theorem yf:type_of% @Tryz.results76:=@Tryz.results76
theorem ye:type_of% @Tryz.results79:=@Tryz.results79
theorem yd:type_of% @Tryz.results81:=@Tryz.results81
theorem gZ:type_of% @Tryz.runUnderlying100:=@Tryz.runUnderlying100
theorem rJ:type_of% @Tryz.runUnderlying104:=@Tryz.runUnderlying104
theorem Fl:type_of% @Tryz.runUnderlying113:=@Tryz.runUnderlying113
theorem rI:type_of% @Tryz.runUnderlying140:=@Tryz.runUnderlying140
theorem ju:type_of% @Tryz.runUnderlying151:=@Tryz.runUnderlying151
theorem jt:type_of% @Tryz.runUnderlying153:=@Tryz.runUnderlying153
theorem bO:type_of% @Tryz.runUnderlying159:=@Tryz.runUnderlying159
theorem js:type_of% @Tryz.runUnderlying162:=@Tryz.runUnderlying162
theorem a8:type_of% @Tryz.runUnderlying175:=@Tryz.runUnderlying175
theorem Fk:type_of% @Tryz.runUnderlying179:=@Tryz.runUnderlying179
theorem Fj:type_of% @Tryz.runUnderlying190:=@Tryz.runUnderlying190
theorem rH:type_of% @Tryz.runUnderlying193:=@Tryz.runUnderlying193
theorem a6:type_of% @Tryz.runUnderlying22:=@Tryz.runUnderlying22
theorem bD:type_of% @Tryz.runUnderlying23:=@Tryz.runUnderlying23
theorem Fi:type_of% @Tryz.runUnderlying236:=@Tryz.runUnderlying236
theorem fy:type_of% @Tryz.runUnderlying238:=@Tryz.runUnderlying238
theorem Fh:type_of% @Tryz.runUnderlying246:=@Tryz.runUnderlying246
theorem uh:type_of% @Tryz.runUnderlying25:=@Tryz.runUnderlying25
theorem aF:type_of% @Tryz.runUnderlying26:=@Tryz.runUnderlying26
theorem dW:type_of% @Tryz.runUnderlying260:=@Tryz.runUnderlying260
theorem aH:type_of% @Tryz.runUnderlying267:=@Tryz.runUnderlying267
theorem Fg:type_of% @Tryz.runUnderlying272:=@Tryz.runUnderlying272
theorem bM:type_of% @Tryz.runUnderlying3:=@Tryz.runUnderlying3
theorem rG:type_of% @Tryz.runUnderlying303:=@Tryz.runUnderlying303
theorem lT:type_of% @Tryz.runUnderlying312:=@Tryz.runUnderlying312
theorem dL:type_of% @Tryz.runUnderlying332:=@Tryz.runUnderlying332
theorem ae:type_of% @Tryz.runUnderlying34:=@Tryz.runUnderlying34
theorem aE:type_of% @Tryz.runUnderlying37:=@Tryz.runUnderlying37
theorem ug:type_of% @Tryz.runUnderlying39:=@Tryz.runUnderlying39
theorem GX:type_of% @Tryz.runUnderlying42:=@Tryz.runUnderlying42
theorem uf:type_of% @Tryz.runUnderlying44:=@Tryz.runUnderlying44
theorem mF:type_of% @Tryz.runUnderlying48:=@Tryz.runUnderlying48
theorem aB:type_of% @Tryz.runUnderlying49:=@Tryz.runUnderlying49
theorem bu:type_of% @Tryz.runUnderlying50:=@Tryz.runUnderlying50
theorem GW:type_of% @Tryz.runUnderlying52:=@Tryz.runUnderlying52
theorem az:type_of% @Tryz.runUnderlying62:=@Tryz.runUnderlying62
theorem ue:type_of% @Tryz.runUnderlying66:=@Tryz.runUnderlying66
theorem ek:type_of% @Tryz.runUnderlying80:=@Tryz.runUnderlying80
theorem mE:type_of% @Tryz.runUnderlying87:=@Tryz.runUnderlying87
theorem eR:type_of% @Tryz.runUnderlying96:=@Tryz.runUnderlying96
theorem ud:type_of% @Tryz.runUnderlying97:=@Tryz.runUnderlying97
theorem aK:type_of% @Tryz.sizeOf100:=@Tryz.sizeOf100
theorem cP:type_of% @Tryz.sizeOf104:=@Tryz.sizeOf104
theorem gx:type_of% @Tryz.sizeOf113:=@Tryz.sizeOf113
theorem bK:type_of% @Tryz.sizeOf134:=@Tryz.sizeOf134
theorem dv:type_of% @Tryz.sizeOf140:=@Tryz.sizeOf140
theorem yc:type_of% @Tryz.sizeOf151:=@Tryz.sizeOf151
theorem cO:type_of% @Tryz.sizeOf153:=@Tryz.sizeOf153
theorem bZ:type_of% @Tryz.sizeOf162:=@Tryz.sizeOf162
theorem qA:type_of% @Tryz.sizeOf175:=@Tryz.sizeOf175
theorem aI:type_of% @Tryz.sizeOf177:=@Tryz.sizeOf177
theorem fE:type_of% @Tryz.sizeOf179:=@Tryz.sizeOf179
theorem qz:type_of% @Tryz.sizeOf190:=@Tryz.sizeOf190
theorem bJ:type_of% @Tryz.sizeOf193:=@Tryz.sizeOf193
theorem mD:type_of% @Tryz.sizeOf241:=@Tryz.sizeOf241
theorem aV:type_of% @Tryz.sizeOf25:=@Tryz.sizeOf25
theorem nV:type_of% @Tryz.sizeOf26:=@Tryz.sizeOf26
theorem yb:type_of% @Tryz.sizeOf267:=@Tryz.sizeOf267
theorem bp:type_of% @Tryz.sizeOf28:=@Tryz.sizeOf28
theorem ai:type_of% @Tryz.sizeOf3:=@Tryz.sizeOf3
theorem aO:type_of% @Tryz.sizeOf303:=@Tryz.sizeOf303
theorem qy:type_of% @Tryz.sizeOf315:=@Tryz.sizeOf315
theorem du:type_of% @Tryz.sizeOf337:=@Tryz.sizeOf337
theorem aA:type_of% @Tryz.sizeOf34:=@Tryz.sizeOf34
theorem A0:type_of% @Tryz.sizeOf37:=@Tryz.sizeOf37
theorem mZ:type_of% @Tryz.sizeOf4:=@Tryz.sizeOf4
theorem au:type_of% @Tryz.sizeOf42:=@Tryz.sizeOf42
theorem aM:type_of% @Tryz.sizeOf48:=@Tryz.sizeOf48
theorem tc:type_of% @Tryz.sizeOf49:=@Tryz.sizeOf49
theorem aC:type_of% @Tryz.sizeOf52:=@Tryz.sizeOf52
theorem AZ:type_of% @Tryz.sizeOf64:=@Tryz.sizeOf64
theorem aQ:type_of% @Tryz.sizeOf87:=@Tryz.sizeOf87
theorem fD:type_of% @Tryz.typeInfo3:=@Tryz.typeInfo3
theorem BP:type_of% @Tryz.typeInfo303:=@Tryz.typeInfo303
theorem jm:type_of% @Tryz.underlying3:=@Tryz.underlying3
theorem qx:type_of% @Tryz.underlying39:=@Tryz.underlying39
theorem l5:type_of% @Tryz.underlying44:=@Tryz.underlying44
theorem fk:type_of% @Tryz.zeroValue100:=@Tryz.zeroValue100
theorem qw:type_of% @Tryz.zeroValue104:=@Tryz.zeroValue104
theorem iA:type_of% @Tryz.zeroValue134:=@Tryz.zeroValue134
theorem lZ:type_of% @Tryz.zeroValue140:=@Tryz.zeroValue140
theorem zZ:type_of% @Tryz.zeroValue153:=@Tryz.zeroValue153
theorem lY:type_of% @Tryz.zeroValue162:=@Tryz.zeroValue162
theorem dD:type_of% @Tryz.zeroValue177:=@Tryz.zeroValue177
theorem zY:type_of% @Tryz.zeroValue179:=@Tryz.zeroValue179
theorem lX:type_of% @Tryz.zeroValue190:=@Tryz.zeroValue190
theorem eL:type_of% @Tryz.zeroValue193:=@Tryz.zeroValue193
theorem Kg:type_of% @Tryz.zeroValue236:=@Tryz.zeroValue236
theorem jk:type_of% @Tryz.zeroValue25:=@Tryz.zeroValue25
theorem ki:type_of% @Tryz.zeroValue28:=@Tryz.zeroValue28
theorem cB:type_of% @Tryz.zeroValue3:=@Tryz.zeroValue3
theorem eK:type_of% @Tryz.zeroValue303:=@Tryz.zeroValue303
theorem zX:type_of% @Tryz.zeroValue315:=@Tryz.zeroValue315
theorem Kf:type_of% @Tryz.zeroValue337:=@Tryz.zeroValue337
theorem ee:type_of% @Tryz.zeroValue34:=@Tryz.zeroValue34
theorem bP:type_of% @Tryz.zeroValue42:=@Tryz.zeroValue42
theorem kh:type_of% @Tryz.zeroValue48:=@Tryz.zeroValue48
theorem eG:type_of% @Tryz.zeroValue52:=@Tryz.zeroValue52
theorem dB:type_of% @Tryz.zeroValue87:=@Tryz.zeroValue87
end Go.Proofs.YteajddicacjkhaaGreat
namespace Go.Proofs.YteajddicacjkhaaGreat
open Go.MW Go.ChangeShapes Go.WideShapes
set_option maxRecDepth 100000
theorem BF:Tryz.prog.cellsOf 3=1:=by kernel_rfl
theorem E0:Tryz.prog.cellsOf 34=1:=by kernel_rfl
theorem J3:Tryz.prog.bytesOf 3=8:=by kernel_rfl
theorem FR:reachBytes=140737488351232:=rfl
section
variable{H:Type}{enc:TypeId×Value→H}{w:World}{sp:Nat→Bool}{held:Bool}{n:Nat}{cs:List Value}{y:DataW H×List MemPlace}{v:Value}{d:DataW H}{p:List MemPlace}{r:Reach}{base:Nat}
theorem Ef(hw:Wt Tryz.prog 34 y.1)(h:DataW.trod enc Tryz.prog w 0 sp held n 34 cs=some y):∃v xs,cs=[v]∧RI (hp w) v xs∧IsIn xs:=by
 obtain ⟨v,xs,h1,h2,h3,h4⟩:=Hs Tryz.underlying34 jm BF hw h
 rw [J3,FR] at h3
 exact ⟨v,xs,h1,h2,an,h4⟩
end
end Go.Proofs.YteajddicacjkhaaGreat
namespace Go.Proofs.YteajddicacjkhaaGreat
open Go.MW Go.ChangeShapes Go.WideShapes
set_option maxRecDepth 100000
theorem len6{α:Type}{l:List α}(h:l.length=6):∃a b c d e f,l=[a,b,c,d,e,f]:=by match l,h with|[a,b,c,d,e,f],_=>exact ⟨a,b,c,d,e,f,rfl⟩
section
variable{H:Type}{enc:TypeId×Value→H}{w:World}{sp:Nat→Bool}{held:Bool}{n:Nat}{cs:List Value}{y:DataW H×List MemPlace}{v:Value}{d:DataW H}{p:List MemPlace}{r:Reach}{base:Nat}
end
end Go.Proofs.YteajddicacjkhaaGreat
namespace Go.Proofs.YteajddicacjkhaaGreat
open Go.MW Go.ChangeShapes Go.WideShapes
set_option maxRecDepth 100000
theorem GK:Tryz.prog.cellsOf 35=1:=by kernel_rfl
theorem GJ:Tryz.prog.cellsOf 36=1:=by kernel_rfl
theorem c_53:Tryz.prog.cellsOf 151=5:=by kernel_rfl
theorem c_43:Tryz.prog.cellsOf 97=4:=by kernel_rfl
theorem JF:Tryz.prog.cellsOf 37=3:=by kernel_rfl
theorem E1:Tryz.prog.cellsOf 39=7:=by kernel_rfl
theorem len7{α:Type}{l:List α}(h:l.length=7):∃a b c d e f g,l=[a,b,c,d,e,f,g]:=by match l,h with|[a,b,c,d,e,f,g],_=>exact ⟨a,b,c,d,e,f,g,rfl⟩
theorem Hh:∀{zs:List (List Int)},(∀z∈zs,z.length=5∧∀y∈z,I64 y)→∃ls:List F5,zs.map Is=ls.map F5.v
 |[],_=>⟨[],rfl⟩
 |z::zs,h=>by
  obtain ⟨ls,h1⟩:=Hh (fun c hc=>h c (.tail _ hc))
  obtain ⟨h3,_⟩:=h z (.head _)
  match z,h3 with
  |[a,b,c,d,e],_=>exact ⟨⟨a,b,c,d,e⟩::ls,by rw [List.map_cons,h1];rfl⟩
theorem Hg:∀{zs:List (List Int)},(∀z∈zs,z.length=4∧∀y∈z,I64 y)→∃ls:List F4,zs.map Is=ls.map F4.v
 |[],_=>⟨[],rfl⟩
 |z::zs,h=>by
  obtain ⟨ls,h1⟩:=Hg (fun c hc=>h c (.tail _ hc))
  obtain ⟨h3,_⟩:=h z (.head _)
  match z,h3 with
  |[a,b,c,d],_=>exact ⟨⟨a,b,c,d⟩::ls,by rw [List.map_cons,h1];rfl⟩
structure Kn where
 sp:List Int
 rs:List F5
 cs:List F4
 pk:List Int
 x:Int
 y:Int
 z:Int
def J6(H:cD)(v:Value)(r:Kn):Prop:=∃vs v5 v4 vp,v= .agg #[vs,v5,v4,vp,I r.x,I r.y,I r.z]∧RI H vs r.sp∧RF5 H v5 r.rs∧RF4 H v4 r.cs∧RI H vp r.pk
section
variable{H:Type}{enc:TypeId×Value→H}{w:World}{sp:Nat→Bool}{held:Bool}{n:Nat}{cs:List Value}{y:DataW H×List MemPlace}{v:Value}{d:DataW H}{p:List MemPlace}{r:Reach}{base:Nat}
theorem Gd(hw:Wt Tryz.prog 35 y.1)(h:DataW.trod enc Tryz.prog w 0 sp held n 35 cs=some y):∃(v:Value) (ls:List F5),cs=[v]∧RF5 (hp w) v ls:=by
 obtain ⟨v,zs,h1,h2,_,h3⟩:=A7 (k:=5) Tryz.underlying35 Tryz.underlying151 jm BF dY c_53 hw h
 obtain ⟨ls,h4⟩:=Hh h3
 exact ⟨v,ls,h1,by unfold RF5;rw [←h4];exact h2⟩
theorem Gc(hw:Wt Tryz.prog 36 y.1)(h:DataW.trod enc Tryz.prog w 0 sp held n 36 cs=some y):∃(v:Value) (ls:List F4),cs=[v]∧RF4 (hp w) v ls:=by
 obtain ⟨v,zs,h1,h2,_,h3⟩:=A7 (k:=4) Tryz.underlying36 Tryz.underlying97 jm BF dY c_43 hw h
 obtain ⟨ls,h4⟩:=Hg h3
 exact ⟨v,ls,h1,by unfold RF4;rw [←h4];exact h2⟩
end
end Go.Proofs.YteajddicacjkhaaGreat
namespace Go.Proofs.YteajddicacjkhaaGreat
open Go.MW Go.ChangeShapes Go.WideShapes
set_option maxRecDepth 100000
theorem Cz:Tryz.prog.cellsOf 42=2:=by kernel_rfl
section
variable{H:Type}{enc:TypeId×Value→H}{w:World}{sp:Nat→Bool}{held:Bool}{n:Nat}{cs:List Value}{y:DataW H×List MemPlace}{v:Value}{d:DataW H}{p:List MemPlace}{r:Reach}{base:Nat}
theorem Ge(h:DataW.trod enc Tryz.prog w 0 sp held n 42 cs=some y):∃a b:Int,cs=[I a,I b]∧I64 a∧I64 b:=by
 obtain ⟨xs,a1,a2,a3⟩:=Dz Tryz.underlying42 (by
  intro i f hf
  match i with
  |0|1=>cases hf;exact ⟨rfl,jm,BF⟩
  |i+2=>simp at hf) (by rw [Cz];rfl) h
 obtain ⟨a,b,rfl⟩:=JZ a1
 exact ⟨a,b,a2,a3 a cq,a3 b cq⟩
end
end Go.Proofs.YteajddicacjkhaaGreat
namespace Go.Proofs.YteajddicacjkhaaGreat
open Go.MW Go.ChangeShapes Go.WideShapes
set_option maxRecDepth 100000
theorem GI:Tryz.prog.cellsOf 40=1:=by kernel_rfl
theorem Jp:Tryz.prog.cellsOf 96=6:=by kernel_rfl
theorem Ih:Tryz.prog.cellsOf 44=14:=by kernel_rfl
theorem J0{α:Type}{l:List α}(h:l.length=14):∃a b c d e f g i j k m n o p,l=[a,b,c,d,e,f,g,i,j,k,m,n,o,p]:=by match l,h with|[a,b,c,d,e,f,g,i,j,k,m,n,o,p],_=>exact ⟨a,b,c,d,e,f,g,i,j,k,m,n,o,p,rfl⟩
section
variable{H:Type}{enc:TypeId×Value→H}{w:World}{sp:Nat→Bool}{held:Bool}{n:Nat}{cs:List Value}{y:DataW H×List MemPlace}{v:Value}{d:DataW H}{p:List MemPlace}{r:Reach}{base:Nat}
theorem Gb(hw:Wt Tryz.prog 40 y.1)(h:DataW.trod enc Tryz.prog w 0 sp held n 40 cs=some y):∃(v:Value) (ls:List Sx),cs=[v]∧RS (hp w) 6 v (ls.map Sx.v):=by
 obtain ⟨v,zs,h1,h2,_,h3⟩:=A7 (k:=6) Tryz.underlying40 Tryz.underlying96 jm BF dY Jp hw h
 obtain ⟨ls,h4,_⟩:=all_map (f:=Sx.v) (Q:=fun _=>True) (css:=zs.map Is) fun c hc=>by
  obtain ⟨z,hz,rfl⟩:=List.mem_map.1 hc
  obtain ⟨a,b,c,d,e,f,rfl⟩:=len6 (h3 z hz).1
  exact ⟨⟨a,b,c,d,e,f⟩,rfl,trivial⟩
 exact ⟨v,ls,h1,by rw [←h4];exact h2⟩
theorem Ja(hw:Wt Tryz.prog 39 y.1)(h:DataW.trod enc Tryz.prog w 0 sp held n 39 cs=some y):∃q:Kn,J6 (hp w) (.agg cs.toArray) q:=by
 obtain ⟨ys,m,_,rfl,hlen,hyl,hg⟩:=DataW.trod_struct qx h
 rw [E1] at hlen
 obtain ⟨c0,c1,c2,c3,c4,c5,c6,rfl⟩:=len7 hlen
 obtain ⟨_,h0,k0⟩:=fld hg hyl 0 rfl rfl rfl E0 qx hw
 obtain ⟨_,h1,k1⟩:=fld hg hyl 1 rfl rfl rfl GK qx hw
 obtain ⟨_,h2,k2⟩:=fld hg hyl 2 rfl rfl rfl GJ qx hw
 obtain ⟨_,h3,k3⟩:=fld hg hyl 3 rfl rfl rfl E0 qx hw
 obtain ⟨_,h4,k4⟩:=fld hg hyl 4 rfl rfl rfl JF qx hw
 obtain ⟨v0,s0,e0,r0,i0⟩:=Ef k0 h0
 obtain ⟨v1,l1,e1,r1⟩:=Gd k1 h1
 obtain ⟨v2,l2,e2,r2⟩:=Gc k2 h2
 obtain ⟨v3,s3,e3,r3,i3⟩:=Ef k3 h3
 obtain ⟨xs,g1,g2,g3⟩:=yV Tryz.underlying37 jm BF JF h4
 obtain ⟨a,b,c,rfl⟩:=Kl g1
 cases e0;cases e1;cases e2;cases e3;cases g2
 exact ⟨⟨s0,l1,l2,s3,a,b,c⟩,⟨_,_,_,_,rfl,r0,r1,r2,r3⟩⟩
theorem CX(hv:Value.okWide Tryz.prog w r base 44 v)(h:DataW.Trod enc Tryz.prog w 0 sp held 44 v d p)(hw:Wt Tryz.prog 44 d):∃x:GO,(∃vs v5 v4 vp vn vg,v=x.agg vs v5 v4 vp vn vg∧Dc (hp w) x vs v5 v4 vp vn vg)∧I64 x.m1∧I64 x.m2:=by
 obtain ⟨cs,n,rfl,hn,_⟩:=C8 l5 hv h
 obtain ⟨ys,m,_,e,hlen,hyl,hg⟩:=DataW.trod_struct l5 hn
 cases e
 rw [Ih] at hlen
 obtain ⟨c0,c1,c2,c3,c4,c5,c6,c7,c8,c9,c10,c11,c12,c13,rfl⟩:=J0 hlen
 obtain ⟨_,h0,k0⟩:=fld hg hyl 0 rfl rfl rfl E1 l5 hw
 obtain ⟨_,h1,k1⟩:=fld hg hyl 1 rfl rfl rfl E0 l5 hw
 obtain ⟨_,h2,k2⟩:=fld hg hyl 2 rfl rfl rfl GI l5 hw
 obtain ⟨_,h3,k3⟩:=fld hg hyl 3 rfl rfl rfl Cz l5 hw
 obtain ⟨_,h4,k4⟩:=fld hg hyl 4 rfl rfl rfl JF l5 hw
 obtain ⟨q,vs,v5,v4,vp,e0,r0,r1,r2,r3⟩:=Ja k0 h0
 obtain ⟨vn,ns,e1,r4,_⟩:=Ef k1 h1
 obtain ⟨vg,sx,e2,r5⟩:=Gb k2 h2
 obtain ⟨m1,m2,e3,i1,i2⟩:=Ge h3
 obtain ⟨xs,g1,e4,g3⟩:=yV Tryz.underlying37 jm BF JF h4
 obtain ⟨a,b,c,rfl⟩:=Kl g1
 cases e0;cases e1;cases e2;cases e3;cases e4
 exact ⟨⟨q.sp,q.rs,q.cs,q.pk,q.x,q.y,q.z,ns,sx,m1,m2,a,b,c⟩,⟨_,_,_,_,_,_,rfl,r0,r1,r2,r3,r4,r5⟩,i1,i2⟩
end
end Go.Proofs.YteajddicacjkhaaGreat
namespace Go.Proofs.YteajddicacjkhaaGreat
theorem Ie:Tryz.prog.make=some .cut:=by kernel_rfl
theorem GH:Tryz.prog.mayEnter=true:=by kernel_rfl
theorem GD:Tryz.prog.liftsFinal=false:=by kernel_rfl
theorem Ig:Tryz.prog.plainKeys=true:=by kernel_rfl
theorem EZ:laidOutB Tryz.prog=true:=by kernel_rfl
theorem Ic:mapsRowed Tryz.prog=true:=by kernel_rfl
theorem GG:Tryz.prog.stopsHeard=true:=by kernel_rfl
theorem GC:Tryz.prog.stops=[]:=by kernel_rfl
theorem GF:Tryz.prog.stopKnobs=[]:=by kernel_rfl
theorem rz{a b:Bool}(h:a=true)(k:b=true):(a&&b)=true:=by rw [h,k];rfl
theorem Jq{α:Type}[BEq α][LawfulBEq α]{a b:α}(h:a=b):(a==b)=true:=by rw [h];exact beq_self_eq_true _
theorem Jo:ownKnob Tryz.prog.godebug=none:=by kernel_rfl
end Go.Proofs.YteajddicacjkhaaGreat
namespace Go.Proofs.YteajddicacjkhaaGreat
open Go.MW
theorem mix:Tryz.prog.follows .mixedOrders=true:=by kernel_rfl
theorem eD:FA Tryz.prog 25 0 0:=by
 have h:=fW (k:=0) uh rfl ai
 exact h
theorem iI:FA Tryz.prog 25 1 1:=by
 have h:=fW (k:=1) uh rfl ai
 exact h
theorem cU:FA Tryz.prog 25 2 2:=by
 have h:=fW (k:=2) uh rfl Tryz.sizeOf22
 exact h
theorem de:FA Tryz.prog 25 3 3:=by
 have h:=fW (k:=3) uh rfl Tryz.sizeOf23
 exact h
theorem bI:FA Tryz.prog 28 0 0:=by
 have h:=fW (k:=0) Tryz.runUnderlying28 rfl nV
 exact h
theorem pN:FA Tryz.prog 39 0 0:=by
 have h:=fW (k:=0) ug rfl aA
 exact h
theorem iZ:FA Tryz.prog 39 1 1:=by
 have h:=fW (k:=1) ug rfl Tryz.sizeOf35
 exact h
theorem kR:FA Tryz.prog 39 2 2:=by
 have h:=fW (k:=2) ug rfl Tryz.sizeOf36
 exact h
theorem pM:FA Tryz.prog 39 3 3:=by
 have h:=fW (k:=3) ug rfl aA
 exact h
theorem pL:FA Tryz.prog 39 4 4:=by
 have h:=fW (k:=4) ug rfl A0
 exact h
theorem bG:FA Tryz.prog 42 0 0:=by
 have h:=fW (k:=0) GX rfl ai
 exact h
theorem cf:FA Tryz.prog 42 1 1:=by
 have h:=fW (k:=1) GX rfl ai
 exact h
theorem pK:FA Tryz.prog 44 0 0:=by
 have h:=fW (k:=0) uf rfl Tryz.sizeOf39
 exact h
theorem pJ:FA Tryz.prog 44 1 7:=by
 have h:=fW (k:=1) uf rfl aA
 exact h
theorem pI:FA Tryz.prog 44 2 8:=by
 have h:=fW (k:=2) uf rfl Tryz.sizeOf40
 exact h
theorem gP:FA Tryz.prog 44 3 9:=by
 have h:=fW (k:=3) uf rfl au
 exact h
theorem pH:FA Tryz.prog 44 4 11:=by
 have h:=fW (k:=4) uf rfl A0
 exact h
theorem kb:FA Tryz.prog 46 0 0:=by
 have h:=fW (k:=0) Tryz.runUnderlying46 rfl ai
 exact h
theorem ka:FA Tryz.prog 46 1 1:=by
 have h:=fW (k:=1) Tryz.runUnderlying46 rfl ai
 exact h
theorem mX:FA Tryz.prog 48 0 0:=by
 have h:=fW (k:=0) mF rfl ai
 exact h
theorem ed:FA Tryz.prog 48 1 1:=by
 have h:=fW (k:=1) mF rfl ai
 exact h
theorem bV:FA Tryz.prog 48 2 2:=by
 have h:=fW (k:=2) mF rfl aA
 exact h
theorem bh:FA Tryz.prog 48 3 3:=by
 have h:=fW (k:=3) mF rfl aA
 exact h
theorem eC:FA Tryz.prog 48 4 4:=by
 have h:=fW (k:=4) mF rfl Tryz.sizeOf46
 exact h
theorem bn:FA Tryz.prog 52 0 0:=by
 have h:=fW (k:=0) GW rfl aM
 exact h
theorem aZ:FA Tryz.prog 52 1 6:=by
 have h:=fW (k:=1) GW rfl tc
 exact h
theorem cH:FA Tryz.prog 52 2 7:=by
 have h:=fW (k:=2) GW rfl Tryz.sizeOf50
 exact h
theorem lP:FA Tryz.prog 64 0 0:=by
 have h:=fW (k:=0) Tryz.runUnderlying64 rfl Tryz.sizeOf62
 exact h
theorem jG:FA Tryz.prog 66 0 0:=by
 have h:=fW (k:=0) ue rfl ai
 exact h
theorem ow:FA Tryz.prog 66 1 1:=by
 have h:=fW (k:=1) ue rfl ai
 exact h
theorem ou:FA Tryz.prog 66 2 2:=by
 have h:=fW (k:=2) ue rfl ai
 exact h
theorem ot:FA Tryz.prog 66 3 3:=by
 have h:=fW (k:=3) ue rfl AZ
 exact h
theorem kS:FA Tryz.prog 87 0 0:=by
 have h:=fW (k:=0) mE rfl ai
 exact h
theorem fu:FA Tryz.prog 87 1 1:=by
 have h:=fW (k:=1) mE rfl ai
 exact h
theorem ft:FA Tryz.prog 87 2 2:=by
 have h:=fW (k:=2) mE rfl ai
 exact h
theorem fq:FA Tryz.prog 87 3 3:=by
 have h:=fW (k:=3) mE rfl au
 exact h
theorem fp:FA Tryz.prog 87 4 5:=by
 have h:=fW (k:=4) mE rfl au
 exact h
theorem eV:FA Tryz.prog 100 0 0:=by
 have h:=fW (k:=0) gZ rfl ai
 exact h
theorem gI:FA Tryz.prog 100 1 1:=by
 have h:=fW (k:=1) gZ rfl ai
 exact h
theorem gH:FA Tryz.prog 100 2 2:=by
 have h:=fW (k:=2) gZ rfl ai
 exact h
theorem dC:FA Tryz.prog 100 3 3:=by
 have h:=fW (k:=3) gZ rfl ai
 exact h
theorem dr:FA Tryz.prog 100 4 4:=by
 have h:=fW (k:=4) gZ rfl ai
 exact h
theorem eU:FA Tryz.prog 100 5 5:=by
 have h:=fW (k:=5) gZ rfl ai
 exact h
theorem eT:FA Tryz.prog 100 6 6:=by
 have h:=fW (k:=6) gZ rfl ai
 exact h
theorem jd:FA Tryz.prog 104 0 0:=by
 have h:=fW (k:=0) rJ rfl ai
 exact h
theorem eP:FA Tryz.prog 104 1 1:=by
 have h:=fW (k:=1) rJ rfl ai
 exact h
theorem eO:FA Tryz.prog 104 2 2:=by
 have h:=fW (k:=2) rJ rfl ai
 exact h
theorem jc:FA Tryz.prog 104 3 3:=by
 have h:=fW (k:=3) rJ rfl ai
 exact h
theorem nN:FA Tryz.prog 113 0 0:=by
 have h:=fW (k:=0) Fl rfl ai
 exact h
theorem fh:FA Tryz.prog 113 1 1:=by
 have h:=fW (k:=1) Fl rfl ai
 exact h
theorem ef:FA Tryz.prog 113 2 2:=by
 have h:=fW (k:=2) Fl rfl ai
 exact h
theorem bY:FA Tryz.prog 134 0 0:=by
 have h:=fW (k:=0) Tryz.runUnderlying134 rfl ai
 exact h
theorem dJ:FA Tryz.prog 134 1 1:=by
 have h:=fW (k:=1) Tryz.runUnderlying134 rfl ai
 exact h
theorem mi:FA Tryz.prog 140 0 0:=by
 have h:=fW (k:=0) rI rfl aC
 exact h
theorem j9:FA Tryz.prog 140 2 12:=by
 have h:=fW (k:=2) rI rfl nV
 exact h
theorem mh:FA Tryz.prog 140 3 13:=by
 have h:=fW (k:=3) rI rfl Tryz.sizeOf80
 exact h
theorem ja:FA Tryz.prog 140 4 14:=by
 have h:=fW (k:=4) rI rfl aA
 exact h
theorem iD:FA Tryz.prog 153 0 0:=by
 have h:=fW (k:=0) jt rfl ai
 exact h
theorem jH:FA Tryz.prog 153 1 1:=by
 have h:=fW (k:=1) jt rfl ai
 exact h
theorem gJ:FA Tryz.prog 153 2 2:=by
 have h:=fW (k:=2) jt rfl ai
 exact h
theorem fK:FA Tryz.prog 153 3 3:=by
 have h:=fW (k:=3) jt rfl ai
 exact h
theorem fJ:FA Tryz.prog 153 4 4:=by
 have h:=fW (k:=4) jt rfl ai
 exact h
theorem fI:FA Tryz.prog 153 5 5:=by
 have h:=fW (k:=5) jt rfl ai
 exact h
theorem ox:FA Tryz.prog 162 0 0:=by
 have h:=fW (k:=0) js rfl ai
 exact h
theorem lj:FA Tryz.prog 162 1 1:=by
 have h:=fW (k:=1) js rfl ai
 exact h
theorem cE:FA Tryz.prog 177 0 0:=by
 have h:=fW (k:=0) Tryz.runUnderlying177 rfl ai
 exact h
theorem cN:FA Tryz.prog 177 1 1:=by
 have h:=fW (k:=1) Tryz.runUnderlying177 rfl qA
 exact h
theorem pG:FA Tryz.prog 179 0 0:=by
 have h:=fW (k:=0) Fk rfl aI
 exact h
theorem pF:FA Tryz.prog 179 1 2:=by
 have h:=fW (k:=1) Fk rfl aA
 exact h
theorem kQ:FA Tryz.prog 179 2 3:=by
 have h:=fW (k:=2) Fk rfl ai
 exact h
theorem dO:FA Tryz.prog 190 0 0:=by
 have h:=fW (k:=0) Fj rfl ai
 exact h
theorem dw:FA Tryz.prog 190 1 1:=by
 have h:=fW (k:=1) Fj rfl ai
 exact h
theorem e9:FA Tryz.prog 190 2 2:=by
 have h:=fW (k:=2) Fj rfl ai
 exact h
theorem eN:FA Tryz.prog 193 0 0:=by
 have h:=fW (k:=0) rH rfl ai
 exact h
theorem fi:FA Tryz.prog 193 1 1:=by
 have h:=fW (k:=1) rH rfl ai
 exact h
theorem gU:FA Tryz.prog 193 2 2:=by
 have h:=fW (k:=2) rH rfl ai
 exact h
theorem kG:FA Tryz.prog 193 3 3:=by
 have h:=fW (k:=3) rH rfl ai
 exact h
theorem tT:FA Tryz.prog 236 0 0:=by
 have h:=fW (k:=0) Fi rfl Tryz.sizeOf233
 exact h
theorem tS:FA Tryz.prog 236 1 1:=by
 have h:=fW (k:=1) Fi rfl Tryz.sizeOf234
 exact h
theorem tR:FA Tryz.prog 236 2 2:=by
 have h:=fW (k:=2) Fi rfl ai
 exact h
theorem dq:FA Tryz.prog 241 0 0:=by
 have h:=fW (k:=0) Tryz.runUnderlying241 rfl gx
 exact h
theorem fV:FA Tryz.prog 241 1 3:=by
 have h:=fW (k:=1) Tryz.runUnderlying241 rfl aM
 exact h
theorem dT:FA Tryz.prog 246 0 0:=by
 have h:=fW (k:=0) Fh rfl aC
 exact h
theorem gO:FA Tryz.prog 246 1 8:=by
 have h:=fW (k:=1) Fh rfl Tryz.sizeOf159
 exact h
theorem j8:FA Tryz.prog 246 2 9:=by
 have h:=fW (k:=2) Fh rfl qA
 exact h
theorem ig:FA Tryz.prog 272 0 0:=by
 have h:=fW (k:=0) Fg rfl aI
 exact h
theorem jb:FA Tryz.prog 272 1 2:=by
 have h:=fW (k:=1) Fg rfl aA
 exact h
theorem eA:FA Tryz.prog 272 2 3:=by
 have h:=fW (k:=2) Fg rfl aA
 exact h
theorem dI:FA Tryz.prog 303 0 0:=by
 have h:=fW (k:=0) rG rfl ai
 exact h
theorem dQ:FA Tryz.prog 303 1 1:=by
 have h:=fW (k:=1) rG rfl ai
 exact h
theorem gj:FA Tryz.prog 303 2 2:=by
 have h:=fW (k:=2) rG rfl ai
 exact h
theorem ez:FA Tryz.prog 303 3 3:=by
 have h:=fW (k:=3) rG rfl ai
 exact h
theorem gV:FA Tryz.prog 315 0 0:=by
 have h:=fW (k:=0) Tryz.runUnderlying315 rfl ai
 exact h
theorem jB:FA Tryz.prog 315 1 1:=by
 have h:=fW (k:=1) Tryz.runUnderlying315 rfl ai
 exact h
theorem qI:FA Tryz.prog 317 0 0:=by
 have h:=fW (k:=0) Tryz.runUnderlying317 rfl aA
 exact h
theorem dA:FA Tryz.prog 337 0 0:=by
 have h:=fW (k:=0) Tryz.runUnderlying337 rfl ai
 exact h
theorem kj:FA Tryz.prog 337 1 1:=by
 have h:=fW (k:=1) Tryz.runUnderlying337 rfl mZ
 exact h
theorem sX:rF Tryz.prog 25 [(0,1),(1,1),(2,1),(3,1)] [I 0,I 0,.slice none 0 0,.slice none 0 0]:=kg jk rfl uh (by simp [Tryz.sizeOf22,Tryz.sizeOf23,Tryz.sizeOf3])
theorem nP:rF Tryz.prog 28 [(0,1)] [.slice none 0 0]:=kg ki rfl Tryz.runUnderlying28 (by simp [Tryz.sizeOf26])
theorem bU:rF Tryz.prog 42 [(0,1),(1,1)] [I 0,I 0]:=kg bP rfl GX (by simp [Tryz.sizeOf3])
theorem uA:rF Tryz.prog 46 [(0,1),(1,1)] [I 0,I 0]:=kg Tryz.zeroValue46 rfl Tryz.runUnderlying46 (by simp [Tryz.sizeOf3])
theorem sW:rF Tryz.prog 48 [(0,1),(1,1),(2,1),(3,1),(4,2)] [I 0,I 0,.slice none 0 0,.slice none 0 0,I 0,I 0]:=kg kh rfl mF (by simp [Tryz.sizeOf3,Tryz.sizeOf34,Tryz.sizeOf46])
theorem qM:rF Tryz.prog 52 [(0,6),(6,1),(7,1)] [I 0,I 0,.slice none 0 0,.slice none 0 0,I 0,I 0,.slice none 0 0,.slice none 0 0]:=kg eG rfl GW (by simp [Tryz.sizeOf48,Tryz.sizeOf49,Tryz.sizeOf50])
theorem AR:rF Tryz.prog 64 [(0,1)] [.slice none 0 0]:=kg Tryz.zeroValue64 rfl Tryz.runUnderlying64 (by simp [Tryz.sizeOf62])
theorem xn:rF Tryz.prog 66 [(0,1),(1,1),(2,1),(3,1)] [I 0,I 0,I 0,.slice none 0 0]:=kg Tryz.zeroValue66 rfl ue (by simp [Tryz.sizeOf3,Tryz.sizeOf64])
theorem mn:rF Tryz.prog 87 [(0,1),(1,1),(2,1),(3,2),(5,2)] [I 0,I 0,I 0,I 0,I 0,I 0,I 0]:=kg dB rfl mE (by simp [Tryz.sizeOf3,Tryz.sizeOf42])
theorem jh:rF Tryz.prog 100 [(0,1),(1,1),(2,1),(3,1),(4,1),(5,1),(6,1)] [I 0,I 0,I 0,I 0,I 0,I 0,I 0]:=kg fk rfl gZ (by simp [Tryz.sizeOf3])
theorem qN:rF Tryz.prog 104 [(0,1),(1,1),(2,1),(3,1)] [I 0,I 0,I 0,I 0]:=kg qw rfl rJ (by simp [Tryz.sizeOf3])
theorem uz:rF Tryz.prog 113 [(0,1),(1,1),(2,1)] [I 0,I 0,I 0]:=kg Tryz.zeroValue113 rfl Fl (by simp [Tryz.sizeOf3])
theorem ik:rF Tryz.prog 134 [(0,1),(1,1)] [I 0,I 0]:=kg iA rfl Tryz.runUnderlying134 (by simp [Tryz.sizeOf3])
theorem gW:rF Tryz.prog 140 [(0,8),(8,4),(12,1),(13,1),(14,1)] [I 0,I 0,.slice none 0 0,.slice none 0 0,I 0,I 0,.slice none 0 0,.slice none 0 0,I 0,I 0,.slice none 0 0,.slice none 0 0,.slice none 0 0,.slice none 0 0,.slice none 0 0]:=kg lZ rfl rI (by simp [Tryz.sizeOf25,Tryz.sizeOf26,Tryz.sizeOf34,Tryz.sizeOf52,Tryz.sizeOf80])
theorem pR:rF Tryz.prog 153 [(0,1),(1,1),(2,1),(3,1),(4,1),(5,1)] [I 0,I 0,I 0,I 0,I 0,I 0]:=kg zZ rfl jt (by simp [Tryz.sizeOf3])
theorem jg:rF Tryz.prog 162 [(0,1),(1,1)] [I 0,I 0]:=kg lY rfl js (by simp [Tryz.sizeOf3])
theorem jC:rF Tryz.prog 177 [(0,1),(1,1)] [I 0,.slice none 0 0]:=kg dD rfl Tryz.runUnderlying177 (by simp [Tryz.sizeOf175,Tryz.sizeOf3])
theorem ia:rF Tryz.prog 179 [(0,2),(2,1),(3,1)] [I 0,.slice none 0 0,.slice none 0 0,I 0]:=kg zY rfl Fk (by simp [Tryz.sizeOf177,Tryz.sizeOf3,Tryz.sizeOf34])
theorem sV:rF Tryz.prog 190 [(0,1),(1,1),(2,1)] [I 0,I 0,I 0]:=kg lX rfl Fj (by simp [Tryz.sizeOf3])
theorem fj:rF Tryz.prog 193 [(0,1),(1,1),(2,1),(3,1)] [I 0,I 0,I 0,I 0]:=kg eL rfl rH (by simp [Tryz.sizeOf3])
theorem jJ:rF Tryz.prog 236 [(0,1),(1,1),(2,1)] [.nilFunc,.nilFunc,I 0]:=kg Kg rfl Fi (by simp [Tryz.sizeOf233,Tryz.sizeOf234,Tryz.sizeOf3])
theorem vj:rF Tryz.prog 241 [(0,3),(3,6)] [I 0,I 0,I 0,I 0,I 0,.slice none 0 0,.slice none 0 0,I 0,I 0]:=kg Tryz.zeroValue241 rfl Tryz.runUnderlying241 (by simp [Tryz.sizeOf113,Tryz.sizeOf48])
theorem tW:rF Tryz.prog 246 [(0,8),(8,1),(9,1)] [I 0,I 0,.slice none 0 0,.slice none 0 0,I 0,I 0,.slice none 0 0,.slice none 0 0,.slice none 0 0,.slice none 0 0]:=kg Tryz.zeroValue246 rfl Fh (by simp [Tryz.sizeOf159,Tryz.sizeOf175,Tryz.sizeOf52])
theorem qL:rF Tryz.prog 272 [(0,2),(2,1),(3,1)] [I 0,.slice none 0 0,.slice none 0 0,.slice none 0 0]:=kg Tryz.zeroValue272 rfl Fg (by simp [Tryz.sizeOf177,Tryz.sizeOf34])
theorem qK:rF Tryz.prog 303 [(0,1),(1,1),(2,1),(3,1)] [I 0,I 0,I 0,I 0]:=kg eK rfl rG (by simp [Tryz.sizeOf3])
theorem sY:rF Tryz.prog 315 [(0,1),(1,1)] [I 0,I 0]:=kg zX rfl Tryz.runUnderlying315 (by simp [Tryz.sizeOf3])
theorem zJ:rF Tryz.prog 317 [(0,1)] [.slice none 0 0]:=kg Tryz.zeroValue317 rfl Tryz.runUnderlying317 (by simp [Tryz.sizeOf34])
theorem jf:rF Tryz.prog 337 [(0,1),(1,1)] [I 0,.bool false]:=kg Kf rfl Tryz.runUnderlying337 (by simp [Tryz.sizeOf3,Tryz.sizeOf4])
theorem oR:xt Tryz.prog 22 2 2 [I 0,I 0,I 0,I 0]:=mY a6 bK iA dY aD
theorem oQ:xt Tryz.prog 22 3 2 [I 0,I 0,I 0,I 0,I 0,I 0]:=mY a6 bK iA dY aD
theorem mm:xt Tryz.prog 23 1 4 [I 0,I 0,I 0,I 0]:=mY bD cP qw dY aD
theorem lz:xt Tryz.prog 26 1 7 [I 0,I 0,I 0,I 0,I 0,I 0,I 0]:=mY aF aQ dB dY aD
theorem lx:xt Tryz.prog 26 2 7 [I 0,I 0,I 0,I 0,I 0,I 0,I 0,I 0,I 0,I 0,I 0,I 0,I 0,I 0]:=mY aF aQ dB dY aD
theorem pQ:xt Tryz.prog 34 0 1 []:=mY ae ai cB dY aD
theorem db:xt Tryz.prog 34 1 1 [I 0]:=mY ae ai cB dY aD
theorem kV:xt Tryz.prog 34 2 1 [I 0,I 0]:=mY ae ai cB dY aD
theorem AQ:xt Tryz.prog 34 3 1 [I 0,I 0,I 0]:=mY ae ai cB dY aD
theorem hZ:xt Tryz.prog 49 1 7 [I 0,I 0,I 0,I 0,I 0,I 0,I 0]:=mY aB aK fk dY aD
theorem qv:xt Tryz.prog 49 4 7 [I 0,I 0,I 0,I 0,I 0,I 0,I 0,I 0,I 0,I 0,I 0,I 0,I 0,I 0,I 0,I 0,I 0,I 0,I 0,I 0,I 0,I 0,I 0,I 0,I 0,I 0,I 0,I 0]:=mY aB aK fk dY aD
theorem lJ:xt Tryz.prog 50 1 6 [I 0,I 0,I 0,I 0,I 0,I 0]:=mY bu cO zZ dY aD
theorem xU:xt Tryz.prog 62 1 1 [.slice none 0 0]:=mY az aA ee dY aD
theorem xS:xt Tryz.prog 62 2 1 [.slice none 0 0,.slice none 0 0]:=mY az aA ee dY aD
theorem iO:xt Tryz.prog 80 1 2 [I 0,I 0]:=mY ek au bP dY aD
theorem jy:xt Tryz.prog 159 1 2 [I 0,I 0]:=mY bO bZ lY dY aD
theorem sS:xt Tryz.prog 175 1 4 [I 0,I 0,I 0,I 0]:=mY a8 bJ eL dY aD
theorem gQ:xt Tryz.prog 175 2 4 [I 0,I 0,I 0,I 0,I 0,I 0,I 0,I 0]:=mY a8 bJ eL dY aD
theorem zI:xt Tryz.prog 247 6 1 [.nilFunc,.nilFunc,.nilFunc,.nilFunc,.nilFunc,.nilFunc]:=mY Tryz.runUnderlying247 Tryz.sizeOf1 Tryz.zeroValue1 dY aD
theorem ru:xt Tryz.prog 267 1 4 [I 0,I 0,I 0,I 0]:=mY aH aO eK dY aD
theorem sU:xt Tryz.prog 312 1 2 [I 0,I 0]:=mY lT qy zX dY aD
theorem lR:Dh Tryz.prog 23 23 104 4 32:=⟨bD,bD,cP,⟨_,Tryz.typeInfo104,rfl,by decide⟩,⟨_,qw,rfl⟩⟩
theorem oS:Dh Tryz.prog 26 26 87 7 56:=⟨aF,aF,aQ,⟨_,Tryz.typeInfo87,rfl,by decide⟩,⟨_,dB,rfl⟩⟩
theorem cM:Dh Tryz.prog 34 34 3 1 8:=⟨ae,ae,ai,⟨_,fD,rfl,by decide⟩,⟨_,cB,rfl⟩⟩
theorem ep:Dh Tryz.prog 49 49 100 7 56:=⟨aB,aB,aK,⟨_,Tryz.typeInfo100,rfl,by decide⟩,⟨_,fk,rfl⟩⟩
theorem kW:Dh Tryz.prog 50 50 153 6 48:=⟨bu,bu,cO,⟨_,Tryz.typeInfo153,rfl,by decide⟩,⟨_,zZ,rfl⟩⟩
theorem rA:Dh Tryz.prog 62 62 34 1 24:=⟨az,az,aA,⟨_,Tryz.typeInfo34,rfl,by decide⟩,⟨_,ee,rfl⟩⟩
theorem jr:Dh Tryz.prog 80 80 42 2 16:=⟨ek,ek,au,⟨_,Tryz.typeInfo42,rfl,by decide⟩,⟨_,bP,rfl⟩⟩
theorem fw:Dh Tryz.prog 159 159 162 2 16:=⟨bO,bO,bZ,⟨_,Tryz.typeInfo162,rfl,by decide⟩,⟨_,lY,rfl⟩⟩
theorem dh:Dh Tryz.prog 175 175 193 4 32:=⟨a8,a8,bJ,⟨_,Tryz.typeInfo193,rfl,by decide⟩,⟨_,eL,rfl⟩⟩
theorem lQ:Dh Tryz.prog 267 267 303 4 32:=⟨aH,aH,aO,⟨_,BP,rfl,by decide⟩,⟨_,eK,rfl⟩⟩
theorem mC:Dh Tryz.prog 312 312 315 2 16:=⟨lT,lT,qy,⟨_,Tryz.typeInfo315,rfl,by decide⟩,⟨_,zX,rfl⟩⟩
end Go.Proofs.YteajddicacjkhaaGreat
namespace Go.Proofs.YteajddicacjkhaaGreat
open Go.MW
variable{H:cD}{w:World}{σ:List Ent}
theorem fX{a0 a1 a2:Int}(hs:St H w σ):Cl Tryz.prog 199 [I a0,I a1,I a2] w fun v w'=>v= .bool (decide (a1≤a0∧a0≤a2))∧St H w' σ:=by
 refine Cl.o Tryz.func199 Tryz.ntmps199 ag3 ?_
 refine .aj (.zn zg (.aj (.z zm (.z zm (.z nF (.z zm (.gX (t':=10) rfl (fun hb10=>?_) (fun hb10=>?_))))))))
 ·refine .T (.z zm (.T (.z zm (.T (.z nF (.z zpT (.zn zg (.ret (Fin.bE Tryz.results199 rfl ?_)))))))))
  exact ⟨by simp [*],hs.out⟩
 ·refine .Fs 3 3 true (.z zpF (.zn zg (.ret (Fin.bE Tryz.results199 rfl ?_))))
  exact ⟨by simp [*],hs.out⟩
theorem sP{many:Int}{l:Lim}(hs:St H w σ):Cl Tryz.prog 250 [I many,.agg l.c.toArray] w fun v w'=>v= .bool (l.ok many)∧St H w' σ:=by
 refine Cl.o Tryz.func250 Tryz.ntmps250 ag2 ?_
 refine .aj (.bx hs fun b3 w hs=>?_)
 refine .zn zg (.aj (.z (zfa eN) (.y hs (zld af) (.z zm (.o (.call Dk rfl (fX hs) ?_))))));rintro _ w ⟨rfl,hs⟩
 refine .z zm (.bif (t':=9) rfl (fun hb9=>?_) (fun hb9=>?_))
 ·refine .T (.z (zfa fi) (.T (.y hs (zld af) (.T (.z zm (.T (.o (.call Dk rfl (fX hs) ?_))))))));rintro _ w ⟨rfl,hs⟩
  refine .z zpT (.z zm (.bif (t':=15) rfl (fun hb15=>?_) (fun hb15=>?_)))
  ·refine .T (.z (zfa eN) (.T (.y hs (zld af) (.T (.z (zfa fi) (.T (.y hs (zld af) (.T (.z gE (.z zpT (.z zm (.AS (t':=22) rfl (fun hb22=>?_) (fun hb22=>?_)))))))))))))
   ·refine .T (.z (zfa gU) (.T (.y hs (zld af) (.T (.o (.call Dk rfl (fX hs) ?_))))));rintro _ w ⟨rfl,hs⟩
    refine .z zpT (.z zm (.bif (t':=27) rfl (fun hb27=>?_) (fun hb27=>?_)))
    ·refine .T (.z (zfa kG) (.T (.y hs (zld af) (.T (.o (.call Dk rfl (fX hs) ?_))))));rintro _ w ⟨rfl,hs⟩
     refine .z zpT (.zn zg (.ret (Fin.bE Dt rfl ?_)))
     exact ⟨by simp [Lim.ok, *],hs.out⟩
    ·refine .Fs 3 22 true (.z zpF (.zn zg (.ret (Fin.bE Dt rfl ?_))))
     exact ⟨by simp [Lim.ok, *],hs.out⟩
   ·refine .Fs 3 17 true (.z zpF (.z zm (.Fs 3 22 true (.z zpF (.zn zg (.ret (Fin.bE Dt rfl ?_)))))))
    exact ⟨by simp [Lim.ok, *],hs.out⟩
  ·refine .Fs 5 10 true (.z zpF (.z zm (.Fs 3 17 true (.z zpF (.z zm (.Fs 3 22 true (.z zpF (.zn zg (.ret (Fin.bE Dt rfl ?_))))))))))
   exact ⟨by simp [Lim.ok, *],hs.out⟩
 ·refine .Fs 4 4 true (.z zpF (.z zm (.Fs 5 10 true (.z zpF (.z zm (.Fs 3 17 true (.z zpF (.z zm (.Fs 3 22 true (.z zpF (.zn zg (.ret (Fin.bE Dt rfl ?_)))))))))))))
  exact ⟨by simp [Lim.ok, *],hs.out⟩
theorem zO{v:Value}{ls:List Lim}{g:Nat}{cap:List Value}{p:Lim→Bool}(hs:St H w σ)(hr:RL H v ls)
  (hc:∀args w,(callFunc g args).run Tryz.prog w= .ok (.enter g args) w) (hp:∀w l,St H w σ→Cl Tryz.prog g ([.agg l.c.toArray]++cap) w fun u w'=>u= .bool (p l)∧St H w' σ):
  Cl Tryz.prog 277 [v,.func (.func g) #[] cap.toArray] w fun u w'=>u=I (match ls.findIdx? p with|some k=>(k:Int)|none=> -1)∧St H w' σ:=by
 obtain ⟨a,c,rfl⟩:=RS.shape hr
 have hl:=(RS.len hr).2.2
 refine Cl.o Tryz.func277 Tryz.ntmps277 ag2 ?_
 refine .aj (.zn zg (.seq (.aj (.z zm (.q hs (D5 hr rfl a8) (.zn zm (.for (N:=(ls.map Lim.c).length) (J:=fun k fr w=>fr=[(1,.func (.func g) #[] cap.toArray),(0,.slice a (ls.map Lim.c).length c)]∧St H w σ∧∀j<k,∀l,ls[j]? =some l→p l=false) an ?_ ?_ ?_)))))))
 ·exact .mk ⟨rfl,hs,fun j hj=>by omega⟩
 ·rintro k fr w hk ⟨rfl,hs,hno⟩
  obtain ⟨l,hl⟩:=nth (l:=ls) (by simpa using hk)
  refine .block (.aj (.z zm (.zn zg (.aj (.z zm (.z zm (.z zm (.ixX hs hr rfl rfl a8 bJ hl rfl ?_))))))));intro b14 o14 hc14
  refine .y hs (zls [_,_,_,_] gw bJ) (.o (.qs (first:=[]) rfl rfl hc (hp _ _ hs) ?_));rintro _ w ⟨rfl,hs⟩
  refine .nil (.cond rfl (fun hc16=>?_) (fun hc16=>?_))
  ·refine .aj (.z zm (.zn zg (.ret (rB (rT (rB (rT (Fin.bE Tryz.results277 rfl ?_))))))))
   exact ⟨by rw [xg hl hc16 hno],hs⟩
  ·refine .skip (nB (nT ?_))
   exact .mk ⟨rfl,hs,fo hno hl hc16⟩
 ·rintro fr w ⟨rfl,hs,hno⟩
  refine nT (.aj (.zn zg (.ret (Fin.bE Tryz.results277 rfl ?_))))
  exact ⟨by rw [ux (by simpa using hno)],hs⟩
theorem vA{v:Value}{ls:List Lim}{g:Nat}{cap:List Value}{p:Lim→Bool}(hs:St H w σ)(hr:RL H v ls)
  (hc:∀args w,(callFunc g args).run Tryz.prog w= .ok (.enter g args) w) (hp:∀w l,St H w σ→Cl Tryz.prog g ([.agg l.c.toArray]++cap) w fun u w'=>u= .bool (p l)∧St H w' σ):
  Cl Tryz.prog 248 [v,.func (.func g) #[] cap.toArray] w fun u w'=>u= .bool (ls.any p)∧St H w' σ:=by
 refine Cl.o Tryz.func248 Tryz.ntmps248 ag2 ?_
 refine .aj (.zn zg (.aj (.z zm (.z zm (.o (.call Tryz.call277 rfl (zO hs hr hc hp) ?_))))));rintro _ w ⟨rfl,hs⟩
 refine .z uj (.zn zg (.ret (Fin.bE Tryz.results248 rfl ?_)))
 exact ⟨by rw [BG];cases ls.findIdx? p<;>simp<;>omega,hs⟩
theorem zH{b:Nat}{many:Int}{v:Value}{l:Lim}(hs:St H w σ)(hm:Mem σ (.blk b [I many,v])):Cl Tryz.prog 249 [.agg l.c.toArray,Pt b] w fun v w'=>v= .bool (!l.ok many)∧St H w' σ:=by
 refine Cl.o Tryz.func249 Tryz.ntmps249 ag2 ?_
 refine .aj (.bx hs fun b2 w hs=>?_)
 refine .zn zg (.aj (.z (zfa cE) (.q hs (eg rfl af (.there hm) rfl) (.q hs (k9 (vs:=l.c) rfl gw bJ) (.o (.call Tryz.call250 rfl (sP hs) ?_))))));rintro _ w ⟨rfl,hs⟩
 refine .z fZ (.zn zg (.ret (Fin.bE Tryz.results249 rfl ?_)))
 exact ⟨rfl,hs.out⟩
theorem jI{v:Value}{s:dp}(hs:St H w σ)(hr:RSy H v s):Cl Tryz.prog 197 [v] w fun v w'=>v=I s.check∧St H w' σ:=by
 obtain ⟨u,rfl,hr⟩:=hr
 obtain ⟨a,c,rfl⟩:=RS.shape hr
 refine Cl.o Tryz.func197 Tryz.ntmps197 ag1 ?_
 refine .aj (.bx hs fun b1 w hs=>?_)
 refine .zn zg (.seq (.block (.aj (.z (zfa cE) (.y hs (zld af) (.o (.call Dk rfl (fX hs) ?_)))))));rintro _ w ⟨rfl,hs⟩
 refine .z fZ (.zn zg (.cond rfl (fun hc3=>?_) (fun hc3=>?_)))
 ·refine .aj (.zn zg (.ret (rB (rT (Fin.bE Tryz.results197 rfl ?_)))))
  exact ⟨congrArg I (by unfold dp.check;(repeat' split)<;>simp_all<;>omega),hs.out⟩
 ·refine .aj (.z (zfa cN) (.y hs (zld dz) (.q hs (D5 hr rfl a8) (.z km (.zn zg (.bA rfl (fun hc8=>?_) (fun hc8=>?_)))))))
  ·refine .aj (.zn zg (.ret (rB (rT (Fin.bE Tryz.results197 rfl ?_)))))
   exact ⟨congrArg I (by unfold dp.check;(repeat' split)<;>simp_all<;>omega),hs.out⟩
  ·refine .aj (.z (zfa cN) (.y hs (zld dz) (.q hs (dM (f:=[]) (c:=[_]) rfl rfl) (.o (.call Tryz.call248 rfl (vA (p:=fun l=> !l.ok s.many) hs hr Tryz.call249 (fun w l hs=>zH hs .here)) ?_)))));rintro _ w ⟨rfl,hs⟩
   refine .zn zg (.cond rfl (fun hc13=>?_) (fun hc13=>?_))
   ·refine .aj (.zn zg (.ret (rB (rT (Fin.bE Tryz.results197 rfl ?_)))))
    exact ⟨congrArg I (by unfold dp.check;(repeat' split)<;>simp_all<;>omega),hs.out⟩
   ·refine .skip (nB (nT (.aj (.zn zg (.ret (Fin.bE Tryz.results197 rfl ?_))))))
    exact ⟨congrArg I (by unfold dp.check;(repeat' split)<;>simp_all<;>omega),hs.out⟩
theorem sN{H:cD}{b:Nat}{s:dp}{u:Value}(hok:s.Ok)(hb:Row H b [I s.many,u])(hr:RL H u s.dk):ItA Tryz.prog 295 [Pt b] H s.dK:=by
 intro l II Ix _ _ hy H0 σb0 σf w hle hI0 hs
 obtain ⟨a,c,rfl⟩:=RS.shape hr
 have hb1:cellAt H0 b 1=some (.slice a (s.dk.map Lim.c).length c):=cellAt.mono (by rw [hb.cell];rfl) hle
 have hlen:=hok.len
 refine Cl.o Tryz.func295 Tryz.ntmps295 ag2 ?_
 refine .aj (.z (zfa cN) (.y hs (zld dz) (.q hs (D5 (hr.mono hle) rfl a8) (.zn zm (.for (N:=(s.dk.map Lim.c).length) (J:=fun k fr w=>fr=[(6,.slice a (s.dk.map Lim.c).length c),(0,.func (.yield l) #[] #[])]∧∃H1 σb,HLe H H1∧HLe H0 H1∧II k H1 σb∧St H1 w (σb++σf)) (by simp;omega) ?_ ?_ ?_)))))
 ·exact .mk ⟨rfl,H0,σb0,hle,HLe.refl _,hI0,hs⟩
 ·rintro k fr w hk ⟨rfl,H1,σb,hle1,hle0,hI,hs⟩
  obtain ⟨x,hx⟩:=nth (l:=s.dk) (by simpa using hk)
  obtain ⟨hA,hB,_⟩:=hok.arc (List.mem_of_getElem? hx) k
  refine .block (.aj (.z zm (.ixX hs (hr.mono hle1) rfl rfl a8 bJ hx rfl ?_)));intro b11 o11 hc11
  refine .q hs (cj (vs:=x.c) rfl gw bJ hc11) (.o (.alloc hs eL rfl fun b4 w hs=>?_))
  refine .z zg (.o (.aP (vs:=x.c) hs rfl rfl bJ fun w hs=>?_))
  refine .nil (.aj (.z zm (.z (zfa eN) (.y hs (zld af) (.z (zfa fi) (.y hs (zld af) (.z (zfa gU) (.y hs (zld af) (.z zm (.z (zbd [_,_,_,_] qK) ?_))))))))))
  have hk':k<(s.dK.map fun x=>[Value.agg x.v.toArray]).length:=by simp [dp.dK,fP];simpa using hk
  have hxk:(s.dK.map fun x=>[Value.agg x.v.toArray])[k]=[.agg (x.arc k).v.toArray]:=by
   have:=lW hx
   rw [List.getElem_map];rw [List.getElem?_eq_some_iff] at this;obtain ⟨h1,h2⟩:=this;simp only [dp.dK];rw [h2]
  have hyd:=hy k hk' H1 σb σf w hle1 hI hs.tail
  rw [hxk] at hyd
  refine .o (.yield (vs:=[.agg (x.arc k).v.toArray]) rfl (by simp [Arc.v,hA,hB];rfl) hyd ?_);rintro v22 w ⟨H2,σ2,g1,hs,g3⟩
  obtain ⟨bb,rfl,gT,gF⟩:=oU g3
  refine .zn fZ (.cond rfl (fun hc23=>?_) (fun hc23=>?_))
  ·refine .ret (rB (rT (rB (Fin.It Tryz.results295 ?_))))
   exact ⟨H2,σ2,hle0.trans g1,hs,.inr (gF (by simpa using hc23))⟩
  ·refine .skip (nB (nT ?_))
   exact .mk ⟨rfl,H2,σ2,hle1.trans g1,hle0.trans g1,gT (by simpa using hc23),hs⟩
 ·rintro fr w ⟨rfl,H1,σb,hle1,hle0,hI,hs⟩
  exact Fin.AL Tryz.results295 ⟨H1,σb,hle0,hs,.inl (by simpa [dp.dK,fP] using hI)⟩
theorem lr{v:Value}{s:dp}(hs:St H w σ)(hok:s.Ok)(hr:RSy H v s):
  Cl Tryz.prog 269 [v] w fun v w'=>∃H1 b,HLe H H1∧v= .func (.func 295) #[] #[Pt b]∧ItA Tryz.prog 295 [Pt b] H1 s.dK∧St H1 w' σ:=by
 obtain ⟨u,rfl,hr⟩:=hr
 refine Cl.o Tryz.func269 Tryz.ntmps269 ag1 ?_
 refine .aj (.bx hs fun b1 w hs=>?_)
 refine .zn zg (.aj (.q hs (dM (f:=[]) (c:=[_]) rfl rfl) (.zn zg (.ret (Fin.bE Tryz.results269 rfl ?_)))))
 obtain ⟨H1,g1,g2,hs⟩:=hs.di .here
 exact ⟨H1,b1,g1,rfl,sN hok g2 (hr.mono g1),hs⟩
theorem mP{N gf:Nat}{ar:List Arc}{cap:List Value}(hs:St H w σ)(hN:N≤64)(hok:s7 ar (N+1))(hit:ItA Tryz.prog gf cap H ar)(hc:∀args w,(callFunc gf args).run Tryz.prog w= .ok (.enter gf args) w):
  Cl Tryz.prog 225 [I N,.func (.func gf) #[] cap.toArray] w fun v w'=>∃H1 bc bb s ov vo,HLe H H1∧v= .tuple #[.slice (some ⟨bc,0,none⟩) (N+1) (N+1),.slice (some ⟨bb,0,none⟩) (N+1) (N+1),vo]∧OvR H1 vo ov∧Jt (N+1) ar s ov∧St H1 w' (.blk bc (Is s.cost):: .blk bb (kf s.by_)::σ):=by
 refine Cl.o Tryz.func225 Tryz.ntmps225 ag2 ?_
 refine .aj (.o (.alloc hs ee rfl fun b4 w hs=>?_))
 refine .o (.alloc hs Tryz.zeroValue267 rfl fun b5 w hs=>?_)
 refine .o (.alloc hs Tryz.zeroValue268 rfl fun b6 w hs=>?_)
 refine .nil (.cut (fun fs w=>∃bc bb,ke fs ⟨70,[],[(1,.func (.func gf) #[] cap.toArray),(0,I N),(4,Pt b4),(5,Pt b5),(6,Pt b6)]⟩∧St H w (.blk b4 [.slice (some ⟨bc,0,none⟩) (N+1) (N+1)]:: .blk b5 [.slice (some ⟨bb,0,none⟩) (N+1) (N+1)]:: .blk b6 [.pointer none]:: .blk bc (Is (List.replicate (N+1) 0)):: .blk bb (kf (Bo (N+1) 0))::σ)) ?_ ?_)
 ·refine .draw mix rfl hs fun w hs=>?_
  refine .zw 0 rfl zm ?_;refine .z 1 rfl cK ?_;refine .z 3 rfl zm ?_;refine .z 4 rfl cK ?_
  refine .e2 (i:=2) (j:=5) aD rfl rfl rfl rfl .none .none hs ?_ ?_
  ·refine .va (N+1) hs rfl rfl ae fD rfl ai cB an ?_;intro b11 w hs
   refine .go (.e2 (i:=5) (j:=6) aD rfl rfl rfl rfl .none .none hs ?_ ?_)
   ·refine .Gj (N+1) hs rfl rfl aH BP rfl aO eK an ?_;intro b14 w hs
    refine .go (.E 6 hs ?_)
    refine .store hs rfl rfl aA ?_;intro w hs
    refine .go (.E 7 hs ?_)
    refine .store hs rfl rfl yb ?_;intro w hs
    refine .go (.D hs ?_)
    exact nT ⟨b11,b14,aU,hs.sb⟩
   ·refine .store hs rfl rfl aA ?_;intro w hs
    refine .go (.E 5 hs ?_)
    refine .Gj (N+1) hs rfl rfl aH BP rfl aO eK an ?_;intro b14 w hs
    refine .go (.E 7 hs ?_)
    refine .store hs rfl rfl yb ?_;intro w hs
    refine .go (.D hs ?_)
    exact nT ⟨b11,b14,aU,hs.sb⟩
  ·refine .Gj (N+1) hs rfl rfl aH BP rfl aO eK an ?_;intro b14 w hs
   refine .go (.E 2 hs ?_)
   refine .va (N+1) hs rfl rfl ae fD rfl ai cB an ?_;intro b11 w hs
   refine .go (.E 6 hs ?_)
   refine .store hs rfl rfl aA ?_;intro w hs
   refine .go (.E 7 hs ?_)
   refine .store hs rfl rfl yb ?_;intro w hs
   refine .go (.D hs ?_)
   exact nT ⟨b11,b14,aU,hs.sb⟩
 ·rintro s w ⟨bc,bb,hfs,hs⟩
  refine WE.sub ?_ hfs
  refine .seq (.aj (.y hs (zld gv) (.z (dc aH) (.zn zm (.for (N:=N+1) (J:=fun k fr w=>fr=[(1,.func (.func gf) #[] cap.toArray),(0,I N),(4,Pt b4),(5,Pt b5),(6,Pt b6)]∧St H w (.blk b4 [.slice (some ⟨bc,0,none⟩) (N+1) (N+1)]:: .blk b5 [.slice (some ⟨bb,0,none⟩) (N+1) (N+1)]:: .blk b6 [.pointer none]:: .blk bc (Is (List.replicate (N+1) 0)):: .blk bb (kf (Bo (N+1) k))::σ)) an ?_ ?_ ?_)))))
  ·exact .mk ⟨rfl,hs⟩
  ·rintro k fr w hk ⟨rfl,hs⟩
   have hkl:k<(Bo (N+1) k).length:=by rw [Bn an];exact hk
   refine .block (.aj (.z zm (.zn zg (.region (.y hs (zld gv) (.z zm ?_))))))
   first|(refine .ixw hs aH aO ?_;intro b22 o22 hc22)|refine .z (mA aH aO) ?_
   refine .z (zfa ez) (.o (.store hs rfl rfl ai ?_ dn (CA hkl an) ((AX hkl _).trans (congrArg kf (Gh hk)))));intro w hs
   refine .nil (nB (nT ?_))
   exact .mk ⟨rfl,hs⟩
  ·rintro fr w ⟨rfl,hs⟩
   refine nT (.seq (.aj (.z zm (.z cK (.zn zm (.forD (N:=N+2) (J:=fun r ds fr w=>fr=[(1,.func (.func gf) #[] cap.toArray),(0,I N),(4,Pt b4),(5,Pt b5),(6,Pt b6)]∧∃Ds H1 s vo,ds=marks Ds∧HLe H H1∧xD (N+1) ar r 0 none s∧(r=0∨∃x,OvR H1 vo (some x)∧xD (N+1) ar (r - 1) ar.length (some x) s)∧St H1 w (.blk b4 [.slice (some ⟨bc,0,none⟩) (N+1) (N+1)]:: .blk b5 [.slice (some ⟨bb,0,none⟩) (N+1) (N+1)]:: .blk b6 [vo]:: .blk bc (Is s.cost):: .blk bb (kf s.by_)::(mes Ds++σ))) an ?_ ?_ ?_))))))
   ·exact .mk (ds:=[]) ⟨rfl,[],H,⟨List.replicate (N+1) 0,List.replicate (N+1) ⟨0,0,0,-1⟩⟩,_,rfl,HLe.refl _,xD.init an,.inl rfl,by rw [El] at hs;exact hs⟩
   ·rintro r ds fr w hr ⟨rfl,Ds,H1,s,vo,rfl,hle1,hN0,-,hs⟩
    refine .block (.aj (.o (.store hs rfl rfl Tryz.sizeOf268 fun w hs=>?_)))
    refine .nil (.seq (.aj (.zn zm (.block ?_))))
    refine .rangeFunc (gf:=gf) (cap:=cap) (xs:=ar.map fun x=>[.agg x.v.toArray]) (σb:=[.blk b4 [.slice (some ⟨bc,0,none⟩) (N+1) (N+1)],.blk b5 [.slice (some ⟨bb,0,none⟩) (N+1) (N+1)],.blk b6 [.pointer none],.blk bc (Is s.cost),.blk bb (kf s.by_)]) (σf:=mes Ds++σ) hs trivial rfl (hit.mono hle1) hc cq rfl
     (I:=fun k H' σb=>∃s ov vo,σb=[.blk b4 [.slice (some ⟨bc,0,none⟩) (N+1) (N+1)],.blk b5 [.slice (some ⟨bb,0,none⟩) (N+1) (N+1)],.blk b6 [vo],.blk bc (Is s.cost),.blk bb (kf s.by_)]∧OvR H' vo ov∧xD (N+1) ar r k ov s) (Ix:=fun _ _ _=>False) (by rintro k _ _ σ g1 ⟨s,ov,vo,g2,g3,g4⟩;exact ⟨s,ov,vo,g2,g3.mono g1,g4⟩) (fun _ _ _ _ _ h=>h)
     ⟨s,none,_,rfl,rfl,hN0⟩ ?_ ?_ (fun D c H' σb w _ h _=>h.elim)
    ·rintro l k hk H2 σb2 σf2 w hle2 ⟨s,ov,vo,rfl,hov,hN⟩ hs ⟨rr,hrr⟩
     obtain ⟨x,hx⟩:=nth (l:=ar) (by simpa using hk)
     obtain ⟨c1,c2,c3,c4,c5,c6⟩:=hok.2 x (List.mem_of_getElem? hx)
     have hxk:(ar.map fun x=>[Value.agg x.v.toArray])[k]=[.agg x.v.toArray]:=by rw [List.getElem_map];rw [List.getElem?_eq_some_iff] at hx;obtain ⟨h1,h2⟩:=hx;rw [h2]
     rw [hxk]
     have hkl:k<ar.length:=by simpa using hk
     have hal:=hok.1
     have hlc:=hN.lc
     have hlb:=hN.lb
     have lo1:=hN.lo x.f c1
     have hi1:=hN.hi x.f c1
     refine .region (.o (.alloc hs eK rfl fun b8 w hs=>?_))
     refine .o (.aP (vs:=x.v) hs rfl rfl aO fun w hs=>?_)
     refine .nil (nT (⟨H2,[.blk b8 x.v,.blk b4 [.slice (some ⟨bc,0,none⟩) (N+1) (N+1)],.blk b5 [.slice (some ⟨bb,0,none⟩) (N+1) (N+1)],.blk b6 [vo],.blk bc (Is s.cost),.blk bb (kf s.by_)],HLe.refl _,hs,?_⟩));rintro w σf2 - hs
     refine .block (.seq (.draw mix rfl hs fun w hs=>?_))
     refine .y 0 rfl hs aq ?_;refine .z 1 rfl (zfa dI) ?_;refine .y 2 rfl hs af ?_
     first|(refine .ixv 3 rfl hs ae ai ?_;intro b34 o34 hc34)|refine .z 3 rfl (zix ae ai) ?_
     refine .y 4 rfl hs af ?_;refine .z 5 rfl (zfa gj) ?_;refine .y 6 rfl hs af ?_;refine .z 7 rfl cK ?_;refine .y 8 rfl hs aq ?_;refine .z 9 rfl (zfa dQ) ?_;refine .y 10 rfl hs af ?_
     first|(refine .ixv 11 rfl hs ae ai ?_;intro b42 o42 hc42)|refine .z 11 rfl (zix ae ai) ?_
     refine .y 12 rfl hs af ?_;refine .z 13 rfl fM ?_;refine .D hs ?_
     refine (.bA rfl (fun hc44=>?_) (fun hc44=>?_))
     ·refine .seq (.draw mix rfl hs fun w hs=>?_)
      refine .y 0 rfl hs aq ?_;refine .z 1 rfl (zfa dQ) ?_;refine .y 2 rfl hs af ?_;refine .y 3 rfl hs gv ?_;refine .z 4 rfl (zfa dQ) ?_;refine .y 5 rfl hs af ?_;refine .y 6 rfl hs aq ?_;refine .z 7 rfl (zfa dI) ?_;refine .y 8 rfl hs af ?_
      first|(refine .ixv 9 rfl hs ae ai ?_;intro b54 o54 hc54)|refine .z 9 rfl (zix ae ai) ?_
      refine .y 10 rfl hs af ?_;refine .z 11 rfl (zfa gj) ?_;refine .y 12 rfl hs af ?_;refine .z 13 rfl cK ?_
      refine .C1 (i:=14) (vs:=x.v) hs rfl aD .none rfl iR aO ?_
      first|(refine .ixv 15 rfl hs ae ai ?_;intro b60 o60 hc60)|refine .z 15 rfl (zix ae ai) ?_
      refine .E 16 hs ?_
      refine .store hs rfl rfl ai ?_;intro w hs
      refine .go ?_
      first|(refine .ixw 17 rfl hs aH aO ?_;intro b61 o61 hc61)|refine .z 17 rfl (mA aH aO) ?_
      refine .E 18 hs ?_
      refine .aP (vs:=x.v) hs rfl rfl aO ?_;intro w hs
      refine .go (.D hs (.region (.o (.store hs rfl rfl Tryz.sizeOf268 fun w hs=>?_))))
      refine .nil (nB ?_)
      obtain ⟨H3,g1,g2,hs⟩:=hs.di .here
      exact ⟨H3,_,g1,hs,s.rlx x,some x,_,rfl,⟨b8,rfl,g2⟩,hN.xI hok hx hc44⟩
     ·refine .skip (nB ?_)
      exact ⟨H2,_,HLe.refl _,hs.tail,s,ov,vo,rfl,hov,hN.skip hok hx (by unfold BS.can;omega)⟩
    ·rintro D H2 σb2 w hle2 ⟨s,ov,vo,rfl,hov,hN⟩ hs
     obtain ⟨a',rfl,ha'⟩:=hov.ptr
     replace hs:St H2 w (.blk b4 [.slice (some ⟨bc,0,none⟩) (N+1) (N+1)]:: .blk b5 [.slice (some ⟨bb,0,none⟩) (N+1) (N+1)]:: .blk b6 [.pointer a']:: .blk bc (Is s.cost):: .blk bb (kf s.by_)::(mes (D::Ds)++σ)):=St.deep (σ1:=[_,_,_,_,_]) hs
     have hN:xD (N+1) ar r ar.length ov s:=by simpa using hN
     refine nB (nT (.aj (.y hs (zld Tryz.isAgg268) (.q hs (D8 rfl rfl Tryz.runUnderlying268) (.nil (.cond rfl (fun hc63=>?_) (fun hc63=>?_)))))))
     ·refine .seq (.draw mix rfl hs fun w hs=>?_)
      refine .y 0 rfl hs aq ?_;refine .y 1 rfl hs gv ?_
      refine .E 2 hs ?_
      refine .store hs rfl rfl aA ?_;intro w hs
      refine .go (.E 3 hs ?_)
      refine .store hs rfl rfl yb ?_;intro w hs
      refine .go (.E 4 hs ?_)
      refine .store hs rfl rfl Tryz.sizeOf268 ?_;intro w hs
      refine .go (.D hs (.ret (rB (rT (rB (rT (?_)))))))
      obtain ⟨rfl,rfl⟩:=OvR.no ha' hc63
      refine Fin.iM (D::Ds) [_,_,_,_,_] hs fun w hs=>⟨_,results3 Tryz.results225 (CQ hs rfl aq) (CQ hs rfl gv) (CQ hs rfl Tryz.isAgg268),H2,bc,bb,s,none,_,hle1.trans hle2,rfl,hov,⟨r,hN,fun h=>(h rfl).elim⟩,hs.sb⟩
     ·refine .skip (nB (nT ?_))
      obtain ⟨x,rfl⟩:=OvR.yes ha' hc63
      exact .mk (ds:=marks (D::Ds)) ⟨rfl,D::Ds,H2,s,_,rfl,hle1.trans hle2,hN.next hok,.inr ⟨x,hov,hN⟩,hs⟩
   ·rintro ds fr w ⟨rfl,Ds,H1,s,vo,rfl,hle1,hN0,hor,hs⟩
    obtain ⟨x,hov,hN⟩:∃x,OvR H1 vo (some x)∧xD (N+1) ar (N+2 - 1) ar.length (some x) s:=hor.resolve_left an
    obtain ⟨b3,rfl,hrow⟩:=hov
    refine nT (.seq (.draw mix rfl hs fun w hs=>?_))
    refine .y 0 rfl hs aq ?_;refine .y 1 rfl hs gv ?_;refine .y 2 rfl hs Tryz.isAgg268 ?_
    refine .E 3 hs ?_
    refine .store hs rfl rfl aA ?_;intro w hs
    refine .go (.E 4 hs ?_)
    refine .store hs rfl rfl yb ?_;intro w hs
    refine .go (.E 5 hs ?_)
    refine .store hs rfl rfl Tryz.sizeOf268 ?_;intro w hs
    refine .go (.D hs (.ret (Fin.iM Ds [_,_,_,_,_] hs fun w hs=>⟨_,results3 Tryz.results225 (CQ hs rfl aq) (CQ hs rfl gv) (CQ hs rfl Tryz.isAgg268),H1,bc,bb,s,some x,_,hle1,rfl,⟨b3,rfl,hrow⟩,⟨N+1,hN,fun _=>rfl⟩,hs.sb⟩)))
theorem kc{v:Value}{s:dp}(hs:St H w σ)(hok:s.Ok)(hr:RSy H v s):
  Cl Tryz.prog 223 [v] w fun v w'=>∃H1 b,HLe H H1∧v= .bool b∧(b=true↔s.Sound)∧St H1 w' σ:=by
 obtain ⟨u,rfl,hr⟩:=hr
 obtain ⟨N,hN⟩:=Int.eq_ofNat_of_zero_le hok.m0
 have hN1:=hok.m1
 have hn:s.n=N+1:=by simp [dp.n,hN]
 have hoka:=hok.dK
 rw [hn] at hoka
 rw [hN]
 refine Cl.o Tryz.func223 Tryz.ntmps223 ag1 ?_
 refine .aj (.bx hs fun b1 w hs=>?_)
 refine .zn zg (.seq (.draw mix rfl hs fun w hs=>?_))
 refine .zw 0 rfl (zfa cE) ?_;refine .y 1 rfl hs af ?_;refine .ys 2 rfl hs [_,_] bq aI ?_
 refine .E 3 hs ?_
 refine .call Tryz.call269 rfl (lr (s:=s) hs hok ⟨u,by rw [hN],hr⟩) ?_;rintro _ w ⟨H1,b10,hle1,rfl,hit,hs⟩
 refine .go (.E 4 hs ?_)
 refine .call Tryz.call225 rfl (mP hs an hoka hit Tryz.call295) ?_;rintro _ w ⟨H2,bc,bb,st,ov,vo,hle2,rfl,hov,hnr,hs⟩
 obtain ⟨a',rfl,ha'⟩:=hov.ptr
 refine .go (.zw 5 rfl zm ?_);refine .z 6 rfl zex ?_;refine .z 7 rfl zex ?_;refine .z 8 rfl zex ?_;refine .z 9 rfl zg ?_;refine .z 10 rfl zg ?_;refine .z 11 rfl zg ?_;refine .D hs ?_
 refine .aj (.z zm (.q hs (D8 rfl rfl Tryz.runUnderlying268) (.zn zg (.ret (Fin.bE Tryz.results223 rfl (⟨H2,_,hle1.trans hle2,rfl,?_,hs.out⟩))))))
 obtain ⟨r,hN2,hr2⟩:=hnr
 cases ov with
 |none=>
  rw [ha']
  exact ⟨fun _=>⟨_,(hN2.sol hoka an).1⟩,fun _=>rfl⟩
 |some x=>
  rw [ha']
  exact ⟨fun h=>(by cases h),fun h=>(hN2.none hoka an (by have:=hr2 cq;omega) h).elim⟩
theorem rf{c:Int}(hs:St H w σ)(hc:0≤c∧c<4294967296):Cl Tryz.prog 313 [.int .u64 1,.int .u64 c] w fun v w'=>v= .tuple #[.int .u64 0,.int .u64 c]∧St H w' σ:=by
 refine Cl.o Tryz.func313 Tryz.ntmps313 ag2 ?_
 refine .aj (.z zg (.zn zg (.aj (.z zm ?_))))
 first|refine .q hs (HE rfl rfl ⟨an,an⟩) ?_|refine .q hs (B4 rfl rfl) ?_
 refine .zn zg (.aj (.z zm ?_))
 first|refine .q hs (Ai rfl rfl ⟨an,an⟩) ?_|refine .q hs (Bi rfl rfl dY) ?_
 refine .zn zg (.aj (.z zm ?_))
 first|refine .q hs (HE rfl rfl ⟨an,an⟩) ?_|refine .q hs (B4 rfl rfl) ?_
 refine .zn zg (.aj (.z zm ?_))
 first|refine .q hs (Ai rfl rfl ⟨an,an⟩) ?_|refine .q hs (Bi rfl rfl dY) ?_
 refine .zn zg (.aj (.z zm (.z zm (.z kd (.zn zg (.aj (.z zm (.z zm (.z kd (.z zm ?_))))))))))
 first|refine .q hs (Ai rfl rfl ⟨an,an⟩) ?_|refine .q hs (Bi rfl rfl dY) ?_
 refine .z cK (.zn zg (.aj (.z zm ?_)))
 first|refine .q hs (HE rfl rfl ⟨an,an⟩) ?_|refine .q hs (B4 rfl rfl) ?_
 refine .zn zg (.aj (.z zm ?_))
 first|refine .q hs (Ai rfl rfl ⟨an,an⟩) ?_|refine .q hs (Bi rfl rfl dY) ?_
 refine .zn zg (.aj (.z zm (.z zm (.z zm (.z kd (.z cK (.zn zg (.aj (.z zm (.z zm (.z kd (.z zm (.z cK (.z zm ?_))))))))))))))
 first|refine .q hs (Ai rfl rfl ⟨an,an⟩) ?_|refine .q hs (Bi rfl rfl dY) ?_
 refine .z cK (.zn zg (.aj (.z zm (.z zm (.z kd (.zn zg (.ret (Fin.gL Tryz.results313 rfl rfl ?_))))))))
 exact ⟨cq,hs⟩
theorem tI{c:Int}(hs:St H w σ)(hc:0≤c∧c<4294967296):Cl Tryz.prog 306 [.int .u64 1,.int .u64 c] w fun v w'=>v= .tuple #[.int .u64 0,.int .u64 c]∧St H w' σ:=by
 refine Cl.o Tryz.func306 Tryz.ntmps306 ag2 ?_
 refine .aj (.z zg (.zn zg (.seq (.cF (.skip (nT (.aj (.z zm (.z zm (.o (.call Tryz.call313 rfl (rf hs hc) ?_)))))))))));rintro _ w ⟨rfl,hs⟩
 refine .z zm (.z zex (.z zex (.z zg (.zn zg (.aj (.z zm (.z zm (.z zg (.zn zg (.ret (Fin.gL Tryz.results306 rfl rfl ?_)))))))))))
 exact ⟨rfl,hs⟩
theorem EG{c k:Nat}{z:Int}:let n:=min k (c - k);(List.replicate k z++List.replicate (c - k) 0).take k++List.replicate n z++(List.replicate k z++List.replicate (c - k) 0).drop (k+n)=List.replicate (k+n) z++List.replicate (c - (k+n)) (0:Int):=by
 intro n
 have hn:n≤c - k:=Nat.min_le_right _ _
 have e0:(List.replicate k z).length=k:=by simp
 rw [List.take_left' e0]
 have e1:(List.replicate k z++List.replicate (c - k) 0).drop (k+n)=List.replicate (c - (k+n)) (0:Int):=by
  rw [show k+n=(List.replicate k z).length+n by simp,List.drop_append]
  simp
  omega
 rw [e1,List.replicate_append_replicate]
theorem tt{z:Int}{bx c:Nat}(hs:St H w σ)(hm:Mem σ (.blk bx (Is [z])))(h1:1≤c)(h2:c≤1000000):Cl Tryz.prog 296 [.slice (some ⟨bx,0,none⟩) 1 1,I c] w fun v w'=>∃b,v= .slice (some ⟨b,0,none⟩) c c∧St H w' (.blk b (Is (List.replicate c z))::σ):=by
 refine Cl.o Tryz.func296 Tryz.ntmps296 ag2 ?_
 refine .aj (.zn zg (.seq (.aj (.z zm (.zn fM (.bA rfl (fun hc10=>?_) (fun hc10=>?_)))))))
 ·omega
 ·refine .skip (nT (.aj (.z zm (.z (dc ae) ?_))))
  first|refine .q hs (zd rfl bM dW ⟨an,an⟩) ?_|refine .q hs (zc rfl bM dW ⟨an,an⟩) ?_|refine .q hs (Ak rfl bM dW) ?_
  refine .z zm ?_
  first|refine .q hs (zd rfl bM dW ⟨an,an⟩) ?_|refine .q hs (zc rfl bM dW ⟨an,an⟩) ?_|refine .q hs (Ak rfl bM dW) ?_
  refine .o (.call Tryz.call306 rfl (tI (c:=c) hs an) ?_);rintro _ w ⟨rfl,hs⟩
  refine .z zm (.z zex (.z zex (.z zg (.zn zg (.seq (.aj (.z zm (.z km (.z zm (.gX (t':=23) rfl (fun hb23=>?_) (fun hb23=>?_)))))))))))
  ·refine .Fs 2 2 false (.zn zpT (.cT ?_))
   first|omega|(simp at hc26;omega)
  ·refine .T (.z zm (.T (.z km (.zn zpF (.bA rfl (fun hc26=>?_) (fun hc26=>?_))))))
   ·first|omega|(simp at hc26;omega)
   ·refine .skip (nT (.aj (.z zm ?_)))
    first|refine .q hs (zd rfl dW bM ⟨an,an⟩) ?_|refine .q hs (zc rfl dW bM ⟨an,an⟩) ?_|refine .q hs (Ak rfl dW bM) ?_
    refine .o (.va c hs rfl rfl ae fD rfl ai cB an fun b30 w hs=>?_)
    refine .zn zg (.aj (.z zm (.z zm (.o (.Jl (k:=1) (xs:=List.replicate c 0) (zs:=[z]) hs rfl rfl ⟨_,_,rfl⟩ ae ai an rfl (AI (xs:=[z]) (.there hm) rfl rfl) (by simp;omega) ?_)))));intro w hs
    refine .zn zg (.seq (.block ?_))
    refine .loop (fun k:Nat=>⟨48,[],[(8,I k),(7,.slice (some ⟨b30,0,none⟩) c c)]⟩) (fun k w=>(1≤k∧k≤c)∧St H w (.blk b30 (Is (List.replicate k z++List.replicate (c - k) 0))::σ)) (fun k=>c - k) 1 aU ⟨⟨an,an⟩,by
      have e:List.take 0 (List.replicate c (0:Int))++[z]++List.drop (0+1) (List.replicate c 0)=List.replicate 1 z++List.replicate (c - 1) 0:=by simp
      rw [e] at hs;exact hs⟩ ?_
    rintro k w ⟨⟨k1,k2⟩,hs⟩
    refine .seq (.aj (.z zm (.z zm (.z (dc ae) (.zn fM (.bA rfl (fun hc37=>?_) (fun hc37=>?_)))))))
    ·refine .skip (nT (.block (.draw mix rfl hs fun w hs=>?_)))
     refine .zw 0 rfl zm ?_;refine .z 1 rfl zm ?_;refine .z 2 rfl zm ?_
     refine .zw 3 rfl (Ah (k:=k) rfl rfl ae ai an an) (.zw 4 rfl zm ?_);refine .z 5 rfl zm ?_
     refine .zw 6 rfl (wS (k:=k) rfl rfl ae ai an) (.E 7 hs ?_)
     refine .Jl (k:=min k (c - k)) (xs:=List.replicate k z++List.replicate (c - k) 0) (zs:=List.replicate (min k (c - k)) z) hs rfl rfl ⟨_,_,rfl⟩ ae ai rfl cq (AI (xs:=List.replicate k z++List.replicate (c - k) 0) .here (by rw [List.drop_zero,List.take_append_of_le_length (by simp;omega)];simp) cq) (by simp;omega) ?_;intro w hs
     refine .go (.zw 8 rfl cK ?_);refine .z 9 rfl zg ?_;refine .D hs ?_
     refine nB (nT ?_)
     exact ⟨k+min k (c - k),aU,⟨⟨an,an⟩,by
       have e:=EG (z:=z) (c:=c) (k:=k)
       simp only [Nat.mul_one,Nat.zero_add] at hs
       rw [e] at hs;exact hs⟩,an⟩
    ·refine .exit (xT (xT (xB (nT (.aj (.z zm (.zn zg (.ret (Fin.bE Tryz.results296 rfl ?_)))))))))
     obtain rfl:k=c:=by omega
     exact ⟨b30,rfl,by simpa using hs⟩
theorem tu{v:Value}{xs:List Int}(hs:St H w σ)(hr:RI H v xs)(hx:xs.length≤17592186044416):Cl Tryz.prog 171 [v] w fun u w'=>∃en,(Jc v=true→Jc u=true)∧cZ 1 u (Is xs) en∧St H w' (en::σ):=by
 obtain ⟨a,c,rfl⟩:=RI.shape hr
 have hl:=(RI.len hr).2.2
 refine Cl.o Tryz.func171 Tryz.ntmps171 ag1 ?_
 refine .aj (.zn zg (.seq (.aj (.z zm (.q hs (I7 rfl rfl ae) (.nil (.cond rfl (fun hc4=>?_) (fun hc4=>?_))))))))
 ·refine .aj (.zn zg (.ret (rT (Fin.bE Tryz.results171 rfl ?_))))
  obtain rfl:a=none:=by simpa using hc4
  obtain rfl:=hr.JX
  exact ⟨.nul,fun h=>h,.nil 1 none,hs.nul⟩
 ·refine .skip (nT (.aj (.o (.buildSlice (cells:=[]) hs pQ rfl rfl fun b5 w hs=>?_))))
  refine .z zm (.o (.E2 (xs:=[]) (ys:=Is xs) hs cM rfl rfl (.full rfl) (.ints hr) (by simp [Value.oneCell']) (fun l h=>by simp at h;omega) ?_));intro v7 en7 w hnn hO hs
  refine .zn zg (.ret (Fin.bE Tryz.results171 rfl ?_))
  exact ⟨en7,fun _=>hnn rfl,hO,hs⟩
theorem nY{v:Value}{xs:List Int}(hs:St H w σ)(hr:RI H v xs)(hx:xs.length≤17592186044416):Cl Tryz.prog 171 [v] w fun v w'=>∃en,cZ 1 v (Is xs) en∧St H w' (en::σ):=
 (tu hs hr hx).mono fun _ _ ⟨en,_,h⟩=>⟨en,h⟩
theorem qT{v:Value}{l:List Arc}{en:Ent}(hs:St H w (en::σ))(ho:cZ 4 v (kf l) en)(hl:l.length≤1000000):
  Cl Tryz.prog 297 [v] w fun _ w'=>∃en',cZ 4 v (kf l.reverse) en'∧St H w' (en'::σ):=by
 rcases ho with ⟨a,rfl,h2,rfl⟩|⟨b,len,cap,sp,rfl,rfl,h2,h3,h4⟩
 ·obtain rfl:l=[]:=by
   have:=congrArg List.length h2
   rw [eh] at this
   exact List.length_eq_zero_iff.1 (by simp at this;omega)
  have hs:=hs.tail
  refine Cl.o Tryz.func297 Tryz.ntmps297 ag1 ?_
  refine .aj (.z zm (.z (dc aH) (.z fY (.z zg (.zn zg (.block (.loop (fun _:Unit=>⟨28,[],[(2,I 0),(3,I (-1))]⟩) (fun _ w=>St H w σ) (fun _=>0) () aU hs ?_)))))))
  rintro _ w hs
  refine .seq (.aj (.z zm (.z zm (.zn fM (.bA rfl (fun hc9=>?_) (fun hc9=>?_))))))
  ·omega
  ·refine .exit (xT (xT (xB ?_)))
   exact Fin.AL Tryz.results297 ⟨.nul,.nil 4 a,hs.nul⟩
 obtain rfl:len=l.length:=by rw [eh] at h2;omega
 refine Cl.o Tryz.func297 Tryz.ntmps297 ag1 ?_
 refine .aj (.z zm (.z (dc aH) (.z fY (.z zg (.zn zg (.block (.loop (fun p:Nat×List Arc=>⟨28,[],[(2,I p.1),(3,I ((l.length:Int) - 1 - p.1)),(0,.slice (some ⟨b,0,none⟩) l.length cap)]⟩) (fun p w=>(2*p.1≤l.length+1∧uB l p.2 p.1)∧St H w (.blk b (kf p.2++sp)::σ)) (fun p=>l.length - p.1) (0,l) (.cons rfl (.cJ rfl cq (.cons rfl (.nil rfl rfl)))) ⟨⟨cq,.start l⟩,hs⟩ ?_)))))))
 rintro ⟨i,L⟩ w ⟨⟨h5,h6⟩,hs⟩
 dsimp only at h5 h6 hs ⊢
 have hL:=h6.1
 refine .seq (.aj (.z zm (.z zm (.zn fM (.bA rfl (fun hc9=>?_) (fun hc9=>?_))))))
 ·refine .skip (nT (.seq (.block (.draw mix rfl hs fun w hs=>?_))))
  refine .zw 0 rfl zm ?_;refine .z 1 rfl zm ?_;refine .z 2 rfl zm ?_;refine .z 3 rfl zm ?_;refine .z 4 rfl zm ?_;refine .z 5 rfl zm ?_
  refine .zw 6 rfl (yu (k:=l.length - 1 - i) rfl rfl aH aO an an) (.C1 (i:=7) (vs:=(ga L (l.length - 1 - i)).v) hs rfl aD .none rfl iR aO ?_ (hv:=xu an sp))
  refine .zw 8 rfl zm ?_;refine .z 9 rfl zm ?_
  first|(refine .ixw 10 rfl hs aH aO ?_;intro b24 o24 hc24)|refine .z 10 rfl (mA aH aO) ?_
  refine .C1 (i:=11) (vs:=(ga L i).v) hs rfl aD .none rfl iR aO ?_ (hv:=xu an sp)
  first|(refine .ixw 12 rfl hs aH aO ?_;intro b26 o26 hc26)|refine .z 12 rfl (mA aH aO) ?_
  refine .E 13 hs ?_
  refine .aP (vs:=(ga L (l.length - 1 - i)).v) hs rfl rfl aO ?_ dn (xm an sp) (uq an _ sp);intro w hs
  refine .go (.zw 14 rfl (yu (k:=l.length - 1 - i) rfl rfl aH aO an an) (.E 15 hs ?_))
  refine .aP (vs:=(ga L i).v) hs rfl rfl aO ?_ dn (xm (by simp;omega) sp) (uq (by simp;omega) _ sp);intro w hs
  refine .go (.D hs (nB (nT (.region (.z zm (.z cK (.z zm (.z fY (.z zg (.zn zg (nT ?_)))))))))))
  exact ⟨(i+1,_),.cons rfl (.cJ rfl (by push_cast;omega) (.cons rfl (.nil rfl rfl))),⟨⟨by dsimp only;omega,h6.step an⟩,hs⟩,by dsimp only;omega⟩
 ·refine .exit (xT (xT (xB ?_)))
  rw [h6.done an] at hs
  exact Fin.AL Tryz.results297 ⟨_,.inr ⟨b,l.length,cap,sp,rfl,rfl,by rw [eh];simp,by rw [←h3];simp [eh],h4⟩,hs⟩
theorem oP{H:cD}{b1 bf bt bl cl:Nat}{s:dp}{ts lf:List Int}{vl:Value}{sp:List Value}(hok:s.Ok)(hb:Row H b1 [Pt bf])(hF:xZ H bf s ts lf vl bt bl cl sp)(hlt:ts.length=s.dk.length):
  ItA Tryz.prog 274 [Pt b1] H (dx s.dK ts):=by
 intro l II Ix hmI hmX hy H0 σb0 σf w hle hI0 hs
 have hb0:cellAt H0 b1 0=some (Pt bf):=(hb.mono hle).at 0
 have hF0:=hF.mono hle
 have hsys:=hF0.f.cells 0 [I s.many,vl]
 have hlen:s.dK.length=ts.length:=by simp [dp.dK,fP,hlt]
 refine Cl.o Tryz.func274 Tryz.ntmps274 ag2 ?_
 refine .aj (.bx hs fun b2 w hs=>?_)
 refine .nil (.aj (.y hs (zld tg) (.z znc (.z (zfa ig) (.q hs (cj (vs:=[I s.many,vl]) rfl bq aI hsys) (.o (.call Tryz.call269 rfl (lr (s:=s) hs hok ⟨vl,rfl,hF0.l⟩) ?_)))))));rintro _ w ⟨H1,b8,hle1,rfl,hit,hs⟩
 refine .nil (.block ?_)
 refine .rangeFunc (gf:=295) (cap:=[Pt b8]) (xs:=s.dK.map fun x:Arc=>[Value.agg x.v.toArray]) (σb:= .blk b2 [.func (.yield l) #[] #[]]::σb0) (σf:=σf) hs trivial rfl hit Tryz.call295 cq rfl
  (I:=fun k H' σb=>∃σo,σb= .blk b2 [.func (.yield l) #[] #[]]::σo∧HLe H0 H'∧II (B6 s.dK ts k) H' σo)
  (Ix:=fun c H' σb=>c= .ret∧∃σo,σb= .blk b2 [.func (.yield l) #[] #[]]::σo∧HLe H0 H'∧Ix H' σo)
  (fun k _ _ σ g1 ⟨σo,g2,g3,g4⟩=>⟨σo,g2,g3.trans g1,hmI _ _ _ _ g1 g4⟩) (fun c _ _ σ g1 ⟨g0,σo,g2,g3,g4⟩=>⟨g0,σo,g2,g3.trans g1,hmX _ _ _ g1 g4⟩)
  ⟨σb0,rfl,hle1,by rw [Ed];exact hmI _ _ _ _ hle1 hI0⟩ ?_ ?_ ?_
 ·rintro l2 k hk H2 σb2 σf2 w hle2 ⟨σo,rfl,hle0,hIk⟩ hs ⟨rr,hrr⟩
  obtain ⟨x,hx⟩:=nth (l:=s.dK) (by simpa using hk)
  obtain ⟨c1,c2,c3,c4,c5,c6⟩:=hok.dK.2 x (List.mem_of_getElem? hx)
  have hxk:(s.dK.map fun x=>[Value.agg x.v.toArray])[k]=[.agg x.v.toArray]:=by rw [List.getElem_map];rw [List.getElem?_eq_some_iff] at hx;obtain ⟨h1,h2⟩:=hx;rw [h2]
  rw [hxk]
  have hkt:k<ts.length:=by rw [←hlen];simpa using hk
  have hxl:x.l=(k:Int):=sZ hx
  obtain ⟨r1,r2,r3⟩:=DV (ts:=ts) hx hkt
  refine .region (.o (.alloc hs eK rfl fun b3 w hs=>?_))
  refine .o (.aP (vs:=x.v) hs rfl rfl aO fun w hs=>?_)
  refine .nil (nT (⟨H2,.blk b3 x.v:: .blk b2 [.func (.yield l) #[] #[]]::σo,HLe.refl _,hs,?_⟩));rintro w σf2 - hs
  refine .block (.seq (.aj (.y hs (zld Tryz.isAgg307) (.q hs (k9 (vs:=x.v) rfl iR aO) ?_))))
  have hyd:=hy (B6 s.dK ts k) (by simpa using (List.getElem?_eq_some_iff.1 r1).1) H2 σo (.blk b3 x.v:: .blk b2 [.func (.yield l) #[] #[]]::σf2) w (hle.trans hle0) hIk (St.deep (σ1:=σo) (St.deep (σ1:= .blk b3 x.v::σo) (hs.perm (.swap _ _ _))))
  rw [En r1] at hyd
  refine .o (.yield (vs:=[.agg x.v.toArray]) rfl rfl hyd ?_);rintro v12 w ⟨H3,σ3,hle3,hs,g3⟩
  obtain ⟨bb,rfl,gT,gF⟩:=oU g3
  replace hs:St H3 w (.blk b3 x.v:: .blk b2 [.func (.yield l) #[] #[]]::(σ3++σf2)):=(St.shallow (σ1:= .blk b3 x.v::σ3) (St.shallow (σ1:=σ3) hs)).perm (.swap _ _ _)
  refine .zn fZ (.cond rfl (fun hc13=>?_) (fun hc13=>?_))
  ·refine .ret (rT (rB (?_)))
   exact ⟨H3,.blk b2 [.func (.yield l) #[] #[]]::σ3,hle3,hs.tail,rfl,σ3,rfl,hle0.trans hle3,gF (by simpa using hc13)⟩
  ·refine .skip (nT (.seq (.draw mix rfl hs fun w hs=>?_)))
   have hb3:cellAt H3 b1 0=some (Pt bf):=cellAt.mono hb0 (hle0.trans hle3)
   have hf3:cellAt H3 bf 2=some (.slice (some ⟨bt,0,none⟩) ts.length ts.length):=((hF0.mono (hle0.trans hle3)).f).at 2
   have ht3:cellAt H3 bt k=some (I (gi ts k)):=((hF0.mono (hle0.trans hle3)).t).at k (fC hkt)
   have hI3:=gT (by simpa using hc13)
   refine .r (i:=0) hs rfl aD .none (aJ rfl tg hb3) ?_
   refine .zw 1 rfl znc ?_;refine .z 2 rfl (zfa jb) ?_;refine .y 3 rfl hs aq ?_;refine .z 4 rfl (zfa ez) ?_;refine .y 5 rfl hs af ?_
   refine .zw 6 rfl (eF (k:=k) rfl rfl ae ai hxl hkt) (.r (i:=7) hs rfl aD .none (aJ rfl af ht3) ?_)
   refine .zw 8 rfl km ?_;refine .z 9 rfl zm ?_
   refine .gX (t':=23) rfl (fun hb23=>?_) (fun hb23=>?_)
   ·refine .zv 10 rfl hs (nx Tryz.isAgg307) (.zw 11 rfl (zfa dQ) ?_);refine .y 12 rfl hs af ?_;refine .z 13 rfl (zfa dI) ?_;refine .y 14 rfl hs af ?_;refine .z 15 rfl (zfa gj) ?_;refine .y 16 rfl hs af ?_;refine .z 17 rfl BQ ?_;refine .z 18 rfl (zfa ez) ?_;refine .y 19 rfl hs af ?_;refine .z 20 rfl (zbd [_,_,_,_] qK) ?_
    refine .E 21 hs ?_
    obtain ⟨r4,r5⟩:=r2 hb23
    have hyd:=hy (B6 s.dK ts k+1) (by simpa using (List.getElem?_eq_some_iff.1 r4).1) H3 σ3 (.blk b3 x.v:: .blk b2 [.func (.yield l) #[] #[]]::σf2) w (hle.trans (hle0.trans hle3)) hI3 (St.deep (σ1:=σ3) (St.deep (σ1:= .blk b3 x.v::σ3) (hs.perm (.swap _ _ _))))
    rw [En r4] at hyd
    refine .yield (vs:=[.agg x.back.v.toArray]) rfl rfl hyd ?_;rintro v35 w ⟨H4,σ4,hle4,hs,g4⟩
    obtain ⟨bb4,rfl,gT4,gF4⟩:=oU g4
    replace hs:St H4 w (.blk b3 x.v:: .blk b2 [.func (.yield l) #[] #[]]::(σ4++σf2)):=(St.shallow (σ1:= .blk b3 x.v::σ4) (St.shallow (σ1:=σ4) hs)).perm (.swap _ _ _)
    refine .go (.zw 22 rfl fZ ?_);refine .z 23 rfl zpT ?_;refine .D hs ?_
    refine (.cond rfl (fun hc37=>?_) (fun hc37=>?_))
    ·refine .ret (rB (?_))
     exact ⟨H4,.blk b2 [.func (.yield l) #[] #[]]::σ4,hle3.trans hle4,hs.tail,rfl,σ4,rfl,hle0.trans (hle3.trans hle4),gF4 (by simpa using hc37)⟩
    ·refine .skip (nB ?_)
     exact ⟨H4,.blk b2 [.func (.yield l) #[] #[]]::σ4,hle3.trans hle4,hs.tail,σ4,rfl,hle0.trans (hle3.trans hle4),by rw [r5];exact gT4 (by simpa using hc37)⟩
   ·refine .F 10 rfl ?_
    refine .F 11 rfl (.F 12 rfl (.F 13 rfl (.F 14 rfl (.F 15 rfl (.F 16 rfl (.F 17 rfl (.F 18 rfl (.F 19 rfl (.F 20 rfl (.F 21 rfl (.F 22 rfl (.zw 23 rfl zpF ?_))))))))))));refine .D hs ?_
    refine (.cF (.skip (nB ?_)))
    exact ⟨H3,.blk b2 [.func (.yield l) #[] #[]]::σ3,hle3,hs.tail,σ3,rfl,hle0.trans hle3,by rw [r3 hb23];exact hI3⟩
 ·rintro D H2 σb2 w hle2 ⟨σo,rfl,hle0,hIk⟩ hs
  refine nB ?_
  exact Fin.JE [D] [] hs.BW fun w hs=>⟨_,results0 Tryz.results274,H2,σo,hle0,hs,.inl (by simpa [F6 hlen] using hIk)⟩
 ·rintro D c H2 σb2 w hle2 ⟨rfl,σo,rfl,hle0,hx⟩ hs
  exact .ret (rB (Fin.iM [D] [] hs.BW fun w hs=>⟨_,results0 Tryz.results274,H2,σo,hle0,hs,.inr hx⟩))
theorem qu{bf bt bl cl:Nat}{s:dp}{ts lf:List Int}{vl:Value}{sp:List Value}(hs:St H w σ)(hok:s.Ok)(hF:xZ H bf s ts lf vl bt bl cl sp)(hlt:ts.length=s.dk.length):
  Cl Tryz.prog 226 [Pt bf] w fun v w'=>∃H1 b,HLe H H1∧v= .func (.func 274) #[] #[Pt b]∧ItA Tryz.prog 274 [Pt b] H1 (dx s.dK ts)∧St H1 w' σ:=by
 refine Cl.o Tryz.func226 Tryz.ntmps226 ag1 ?_
 refine .aj (.bx hs fun b1 w hs=>?_)
 refine .zn zg (.aj (.q hs (dM (f:=[]) (c:=[_]) rfl rfl) (.zn zg (.ret (Fin.bE Tryz.results226 rfl ?_)))))
 obtain ⟨H1,g1,g2,hs⟩:=hs.di .here
 exact ⟨H1,b1,g1,rfl,oP hok g2 (hF.mono g1) hlt,hs⟩
theorem rp{bf bt bl cl to:Nat}{s:dp}{ts lf:List Int}{vl:Value}{sp:List Value}(hs:St H w σ)(hok:s.Ok)(hF:xZ H bf s ts lf vl bt bl cl sp)(hlt:ts.length=s.dk.length)(hll:lf.length=s.n)
  (hD:∃p,iQ (dx s.dK ts) p) (hto:to<s.n) (hpos:0<gi lf to):
  Cl Tryz.prog 272 [Pt bf,I to] w fun v w'=>∃H1 p en,HLe H H1∧cZ 4 v (kf p) en∧St H1 w' (en::σ)∧J4 s.n s.dK ts lf p to:=by
 obtain ⟨N,hN⟩:=Int.eq_ofNat_of_zero_le hok.m0
 have hN1:=hok.m1
 have hn:s.n=N+1:=by simp [dp.n,hN]
 have hoka:=hok.dK
 have hlen:s.dK.length=ts.length:=by simp [dp.dK,fP,hlt]
 rw [hn] at hoka hll hto ⊢
 obtain ⟨D,hg⟩:=BZ an an hoka hlen hD
 have hf0:cellAt H bf 0=some (I (N:Int)):=by have:=hF.f.at 0 (v:=I s.many);rwa [hN] at this
 have hf3:cellAt H bf 3=some (.slice (some ⟨bl,0,none⟩) lf.length cl):=hF.f.at 3
 refine Cl.o Tryz.func272 Tryz.ntmps272 ag2 ?_
 refine .aj (.bx hs fun b2 w hs=>?_)
 refine .zn zg (.aj (.o (.buildSlice (cells:=[_]) hs db rfl rfl fun b13 w hs=>?_)))
 refine .y hs (zld tg) (.z znc (.z (zfa ig) (.z (zfa cE) (.y hs (zld af) (.z cK (.o (.call Tryz.call296 rfl (tt (z:=far) (c:=N+1) hs .here an an) ?_)))))));rintro _ w ⟨bc,rfl,hs⟩
 refine .o (.alloc hs ee rfl fun b5 w hs=>?_)
 refine .o (.store hs rfl rfl aA fun w hs=>?_)
 refine .nil (.aj (.y hs (zld tg) (.z znc (.z (zfa ig) (.z (zfa cE) (.y hs (zld af) (.z cK (.o (.Gj (N+1) hs rfl rfl aH BP rfl aO eK an fun b27 w hs=>?_)))))))))
 refine .o (.alloc hs Tryz.zeroValue267 rfl fun b6 w hs=>?_)
 refine .o (.store hs rfl rfl yb fun w hs=>?_)
 refine .nil (.seq (.aj (.y hs (zld tg) (.z znc (.z (zfa eA) (.y hs (zld aq) (.z (dc ae) (.zn zm (.for (N:=lf.length) (J:=fun k fr w=>fr=[(31,.slice (some ⟨bl,0,none⟩) lf.length cl),(5,Pt b5),(6,Pt b6),(2,Pt b2),(1,I to)]∧∃st,xp (N+1) lf k st∧St H w (.blk b6 [.slice (some ⟨b27,0,none⟩) (N+1) (N+1)]:: .blk b27 (kf st.by_):: .blk b5 [.slice (some ⟨bc,0,none⟩) (N+1) (N+1)]:: .blk bc (Is st.cost):: .blk b2 [Pt bf]::σ)) an ?_ ?_ ?_)))))))))
 ·exact .mk ⟨rfl,_,.start _ _,hs.sb⟩
 ·rintro k fr w hk ⟨rfl,st,hI,hs⟩
  have hck:cellAt H bl k=some (I (gi lf k)):=hF.d.at k (pU (bB hk) sp)
  have hlc:=hI.lc
  have hlb:=hI.lb
  have hkb:k<st.by_.length:=by omega
  refine .block (.aj (.z zm ?_))
  first|(refine .ixv hs ae ai ?_;intro b36 o36 hc36)|refine .z (zix ae ai) ?_
  refine .q hs (aJ rfl af hck) (.z zg (.zn zg (.aj (.z zm (.zn fM (.bA rfl (fun hc39=>?_) (fun hc39=>?_)))))))
  ·refine .aj (.y hs (zld aq) (.z zm ?_))
   first|(refine .ixv hs ae ai ?_;intro b42 o42 hc42)|refine .z (zix ae ai) ?_
   refine .o (.store hs rfl rfl ai fun w hs=>?_)
   refine .nil (.region (.y hs (zld gv) (.z zm ?_)))
   first|(refine .ixw hs aH aO ?_;intro b45 o45 hc45)|refine .z (mA aH aO) ?_
   refine .z (zfa ez) (.o (.store hs rfl rfl ai ?_ dn (CA hkb an) (AX hkb _)));intro w hs
   refine .nil (nB (nT ?_))
   exact .mk ⟨rfl,_,hI.take an hc39,hs⟩
  ·refine .skip (nB (nT ?_))
   exact .mk ⟨rfl,_,hI.skip hc39,hs⟩
 ·rintro fr w ⟨rfl,st0,hI0,hs⟩
  rw [hll] at hI0
  have hW0:=hI0.inv hg
  refine nT (.seq (.aj (.o (.alloc hs Tryz.zeroValue4 rfl fun b9 w hs=>?_))))
  refine .o (.store hs rfl rfl mZ fun w hs=>?_)
  refine .nil (.block ?_)
  refine .loop (fun p:Nat×List Nat×cD×BS×Bool=>⟨141,marks p.2.1,[(9,.pointer (some ⟨p.1,0,none⟩)),(5,Pt b5),(6,Pt b6),(2,Pt b2),(1,I to)]⟩)
   (fun p w=>HLe H p.2.2.1∧(∃j,vW (N+1) (dx s.dK ts) (fun v=>gi lf v<0) D j p.2.2.2.2 p.2.2.2.1∧(p.2.2.2.2=false→j=(dx s.dK ts).length))∧
    St p.2.2.1 w (.blk p.1 [.bool p.2.2.2.2]:: .blk b6 [.slice (some ⟨b27,0,none⟩) (N+1) (N+1)]:: .blk b27 (kf p.2.2.2.1.by_):: .blk b5 [.slice (some ⟨bc,0,none⟩) (N+1) (N+1)]:: .blk bc (Is p.2.2.2.1.cost):: .blk b2 [Pt bf]::(mes p.2.1++σ)))
   (fun p=>2*WM (N+1) D p.2.2.2.1+(if p.2.2.2.2=true then 1 else 0)) (b9,[],H,st0,true) aU ⟨HLe.refl _,⟨0,hW0,fun h=>by cases h⟩,hs⟩ ?_
  rintro ⟨b9,Ds,H1,st,ag⟩ w ⟨hle1,⟨j,hW,hj⟩,hs⟩
  dsimp only at hle1 hW hj hs ⊢
  have hlc:=hW.lc
  have hlb:=hW.lb
  refine .seq (.aj (.y hs (zld ui) (.nil (.cond rfl (fun hc48=>?_) (fun hc48=>?_)))))
  ·refine .skip (nT (.seq (.block (.aj ?_))))
   subst hc48
   refine .o (.store hs rfl rfl mZ fun w hs=>?_)
   refine .nil (.aj (.y hs (zld tg) (.o (.call Tryz.call226 rfl (qu hs hok (hF.mono hle1) hlt) ?_))));rintro _ w ⟨H2,b50,hle2,rfl,hit,hs⟩
   refine .nil (.block ?_)
   refine .rangeFunc (gf:=274) (cap:=[Pt b50]) (xs:=(dx s.dK ts).map fun x:Arc=>[Value.agg x.v.toArray])
    (σb:=[.blk b9 [.bool false],.blk b6 [.slice (some ⟨b27,0,none⟩) (N+1) (N+1)],.blk b27 (kf st.by_),.blk b5 [.slice (some ⟨bc,0,none⟩) (N+1) (N+1)],.blk bc (Is st.cost),.blk b2 [Pt bf]]) (σf:=mes Ds++σ) hs trivial rfl hit Tryz.call274 cq rfl
    (I:=fun k H' σb=>HLe H2 H'∧∃st' ag,σb=[.blk b9 [.bool ag],.blk b6 [.slice (some ⟨b27,0,none⟩) (N+1) (N+1)],.blk b27 (kf st'.by_),.blk b5 [.slice (some ⟨bc,0,none⟩) (N+1) (N+1)],.blk bc (Is st'.cost),.blk b2 [Pt bf]]∧
     vW (N+1) (dx s.dK ts) (fun v=>gi lf v<0) D k ag st'∧WM (N+1) D st'≤WM (N+1) D st∧(ag=true→WM (N+1) D st'<WM (N+1) D st)) (Ix:=fun _ _ _=>False)
    (by rintro k _ _ σ g1 ⟨g2,g3⟩;exact ⟨g2.trans g1,g3⟩) (fun _ _ _ _ _ h=>h) ⟨HLe.refl _,st,false,rfl,hW.next,Nat.le_refl _,fun h=>by cases h⟩ ?_ ?_ (fun D c H' σb w _ h _=>h.elim)
   ·rintro l k hk H3 σb3 σf3 w hle3 ⟨hle23,st',ag,rfl,hW',hm1,hm2⟩ hs ⟨rr,hrr⟩
    obtain ⟨x,hx⟩:=nth (l:=dx s.dK ts) (by simpa using hk)
    obtain ⟨c1,c2,c3,c4,c5,c6⟩:=hg.ok x (List.mem_of_getElem? hx)
    rw [En hx]
    have hlc':=hW'.lc
    have hlb':=hW'.lb
    have lo1:=hW'.lo x.f c1
    have lo2:=hg.d1 x.f c1
    have hx3:cellAt H3 bl x.t=some (I (gi lf x.t)):=((hF.mono (hle1.trans (hle2.trans hle3))).d).at x.t (pU (bB an) sp)
    have hf33:cellAt H3 bf 3=some (.slice (some ⟨bl,0,none⟩) lf.length cl):=cellAt.mono hf3 (hle1.trans (hle2.trans hle3))
    refine .region (.o (.alloc hs eK rfl fun b10 w hs=>?_))
    refine .o (.aP (vs:=x.v) hs rfl rfl aO fun w hs=>?_)
    refine .nil (nT (⟨H3,[.blk b10 x.v,.blk b9 [.bool ag],.blk b6 [.slice (some ⟨b27,0,none⟩) (N+1) (N+1)],.blk b27 (kf st'.by_),.blk b5 [.slice (some ⟨bc,0,none⟩) (N+1) (N+1)],.blk bc (Is st'.cost),.blk b2 [Pt bf]],HLe.refl _,hs,?_⟩));rintro w σf4 - hs
    refine .block (.seq (.draw mix rfl hs fun w hs=>?_))
    refine .y 0 rfl hs aq ?_;refine .z 1 rfl (zfa dI) ?_;refine .y 2 rfl hs af ?_
    first|(refine .ixv 3 rfl hs ae ai ?_;intro b55 o55 hc55)|refine .z 3 rfl (zix ae ai) ?_
    refine .y 4 rfl hs af ?_;refine .z 5 rfl fM ?_;refine .z 6 rfl zm ?_
    refine .gX (t':=58) rfl (fun hb58=>?_) (fun hb58=>?_)
    ·refine .y 7 rfl hs aq ?_;refine .z 8 rfl (zfa dI) ?_;refine .y 9 rfl hs af ?_
     first|(refine .ixv 10 rfl hs ae ai ?_;intro b62 o62 hc62)|refine .z 10 rfl (zix ae ai) ?_
     refine .y 11 rfl hs af ?_;refine .z 12 rfl (zfa gj) ?_;refine .y 13 rfl hs af ?_;refine .z 14 rfl cK ?_;refine .y 15 rfl hs aq ?_;refine .z 16 rfl (zfa dQ) ?_;refine .y 17 rfl hs af ?_
     first|(refine .ixv 18 rfl hs ae ai ?_;intro b70 o70 hc70)|refine .z 18 rfl (zix ae ai) ?_
     refine .y 19 rfl hs af ?_;refine .z 20 rfl fM ?_;refine .z 21 rfl zpT ?_;refine .z 22 rfl zm ?_
     refine .gX (t':=74) rfl (fun hb74=>?_) (fun hb74=>?_)
     ·refine .y 23 rfl hs tg ?_;refine .z 24 rfl znc ?_;refine .z 25 rfl (zfa eA) ?_;refine .y 26 rfl hs aq ?_;refine .z 27 rfl (zfa dQ) ?_;refine .y 28 rfl hs af ?_
      first|(refine .ixv 29 rfl hs ae ai ?_;intro b81 o81 hc81)|refine .z 29 rfl (zix ae ai) ?_
      refine .y 30 rfl hs af ?_;refine .z 31 rfl uj ?_;refine .z 32 rfl zm ?_
      refine .gX (t':=84) rfl (fun hb84=>?_) (fun hb84=>?_)
      ·refine .F 33 rfl (.F 34 rfl (.F 35 rfl (.F 36 rfl (.F 37 rfl (.F 38 rfl (.F 39 rfl (.F 40 rfl (.F 41 rfl (.zw 42 rfl zpT ?_)))))))));refine .z 43 rfl zpT ?_;refine .D hs ?_
       refine (.cT (.draw mix rfl hs fun w hs=>?_))
       refine .y 0 rfl hs aq ?_;refine .z 1 rfl (zfa dQ) ?_;refine .y 2 rfl hs af ?_;refine .y 3 rfl hs gv ?_;refine .z 4 rfl (zfa dQ) ?_;refine .y 5 rfl hs af ?_;refine .y 6 rfl hs aq ?_;refine .z 7 rfl (zfa dI) ?_;refine .y 8 rfl hs af ?_
       first|(refine .ixv 9 rfl hs ae ai ?_;intro b105 o105 hc105)|refine .z 9 rfl (zix ae ai) ?_
       refine .y 10 rfl hs af ?_;refine .z 11 rfl (zfa gj) ?_;refine .y 12 rfl hs af ?_;refine .z 13 rfl cK ?_
       refine .C1 (i:=14) (vs:=x.v) hs rfl aD .none rfl iR aO ?_
       first|(refine .ixv 15 rfl hs ae ai ?_;intro b111 o111 hc111)|refine .z 15 rfl (zix ae ai) ?_
       refine .E 16 hs ?_
       refine .store hs rfl rfl ai ?_;intro w hs
       refine .go ?_
       first|(refine .ixw 17 rfl hs aH aO ?_;intro b112 o112 hc112)|refine .z 17 rfl (mA aH aO) ?_
       refine .E 18 hs ?_
       refine .aP (vs:=x.v) hs rfl rfl aO ?_;intro w hs
       refine .go (.E 19 hs ?_)
       refine .store hs rfl rfl mZ ?_;intro w hs
       refine .go (.D hs (nB ?_))
       have:=hW'.less hg hx hb58 hb74
       exact ⟨H3,_,HLe.refl _,hs.tail,hle23,st'.rlx x,true,rfl,hW'.xI hg hx hb58 hb74,an,fun _=>by omega⟩
      ·refine .y 33 rfl hs aq ?_;refine .z 34 rfl (zfa dI) ?_;refine .y 35 rfl hs af ?_
       first|(refine .ixv 36 rfl hs ae ai ?_;intro b88 o88 hc88)|refine .z 36 rfl (zix ae ai) ?_
       refine .y 37 rfl hs af ?_;refine .z 38 rfl (zfa gj) ?_;refine .y 39 rfl hs af ?_;refine .z 40 rfl cK ?_;refine .z 41 rfl fM ?_;refine .z 42 rfl zpF ?_;refine .z 43 rfl zpT ?_;refine .D hs ?_
       refine (.bA rfl (fun hc95=>?_) (fun hc95=>?_))
       ·refine .draw mix rfl hs fun w hs=>?_
        refine .y 0 rfl hs aq ?_;refine .z 1 rfl (zfa dQ) ?_;refine .y 2 rfl hs af ?_;refine .y 3 rfl hs gv ?_;refine .z 4 rfl (zfa dQ) ?_;refine .y 5 rfl hs af ?_;refine .y 6 rfl hs aq ?_;refine .z 7 rfl (zfa dI) ?_;refine .y 8 rfl hs af ?_
        first|(refine .ixv 9 rfl hs ae ai ?_;intro b105 o105 hc105)|refine .z 9 rfl (zix ae ai) ?_
        refine .y 10 rfl hs af ?_;refine .z 11 rfl (zfa gj) ?_;refine .y 12 rfl hs af ?_;refine .z 13 rfl cK ?_
        refine .C1 (i:=14) (vs:=x.v) hs rfl aD .none rfl iR aO ?_
        first|(refine .ixv 15 rfl hs ae ai ?_;intro b111 o111 hc111)|refine .z 15 rfl (zix ae ai) ?_
        refine .E 16 hs ?_
        refine .store hs rfl rfl ai ?_;intro w hs
        refine .go ?_
        first|(refine .ixw 17 rfl hs aH aO ?_;intro b112 o112 hc112)|refine .z 17 rfl (mA aH aO) ?_
        refine .E 18 hs ?_
        refine .aP (vs:=x.v) hs rfl rfl aO ?_;intro w hs
        refine .go (.E 19 hs ?_)
        refine .store hs rfl rfl mZ ?_;intro w hs
        refine .go (.D hs (nB ?_))
        have:=hW'.less hg hx hb58 hb74
        exact ⟨H3,_,HLe.refl _,hs.tail,hle23,st'.rlx x,true,rfl,hW'.xI hg hx hb58 hb74,an,fun _=>by omega⟩
       ·refine .skip (nB ?_)
        have:=hW'.src x.t c2 an
        omega
     ·refine .F 23 rfl (.F 24 rfl (.F 25 rfl (.F 26 rfl (.F 27 rfl (.F 28 rfl (.F 29 rfl (.F 30 rfl ?_)))))))
      refine .F 31 rfl (.F 32 rfl (.F 33 rfl (.F 34 rfl (.F 35 rfl (.F 36 rfl (.F 37 rfl (.F 38 rfl (.F 39 rfl (.F 40 rfl (.F 41 rfl (.F 42 rfl (.zw 43 rfl zpF ?_))))))))))));refine .D hs ?_
      refine (.cF (.skip (nB ?_)))
      exact ⟨H3,_,HLe.refl _,hs.tail,hle23,st',ag,rfl,hW'.skip hx (fun h=>hb74 h.2),hm1,hm2⟩
    ·refine .F 7 rfl (.F 8 rfl ?_)
     refine .F 9 rfl (.F 10 rfl (.F 11 rfl (.F 12 rfl (.F 13 rfl (.F 14 rfl (.F 15 rfl (.F 16 rfl (.F 17 rfl (.F 18 rfl (.F 19 rfl (.F 20 rfl (.zw 21 rfl zpF ?_))))))))))));refine .z 22 rfl zm ?_
     refine .F 23 rfl (.F 24 rfl (.F 25 rfl (.F 26 rfl (.F 27 rfl (.F 28 rfl (.F 29 rfl (.F 30 rfl ?_)))))))
     refine .F 31 rfl (.F 32 rfl (.F 33 rfl (.F 34 rfl (.F 35 rfl (.F 36 rfl (.F 37 rfl (.F 38 rfl (.F 39 rfl (.F 40 rfl (.F 41 rfl (.F 42 rfl (.zw 43 rfl zpF ?_))))))))))));refine .D hs ?_
     refine (.cF (.skip (nB ?_)))
     exact ⟨H3,_,HLe.refl _,hs.tail,hle23,st',ag,rfl,hW'.skip hx (fun h=>hb58 h.1),hm1,hm2⟩
   ·rintro D3 H3 σb3 w hle3 ⟨hle23,st',ag,rfl,hW',hm1,hm2⟩ hs
    replace hs:St H3 w (.blk b9 [.bool ag]:: .blk b6 [.slice (some ⟨b27,0,none⟩) (N+1) (N+1)]:: .blk b27 (kf st'.by_):: .blk b5 [.slice (some ⟨bc,0,none⟩) (N+1) (N+1)]:: .blk bc (Is st'.cost):: .blk b2 [Pt bf]::(mes (D3::Ds)++σ)):=St.deep (σ1:=[_,_,_,_,_,_]) hs
    rw [List.length_map] at hW'
    refine nB (nB (nT (.aj (.y hs (zld ui) (.nil (.region (.o (.alloc hs Tryz.zeroValue4 rfl fun b9 w hs=>?_))))))))
    refine .o (.store hs rfl rfl mZ fun w hs=>?_)
    refine .nil (nT ?_)
    exact ⟨(b9,D3::Ds,H3,st',ag),aU,⟨hle1.trans (hle2.trans hle3),⟨_,hW',fun _=>rfl⟩,hs.sb⟩,by
      dsimp only
      cases ag with
      |false=>simp;omega
      |true=>have:=hm2 rfl;simp;omega⟩
  ·refine .exit (xT (xT (xB (nT (.seq (.aj ?_))))))
   subst hc48
   obtain rfl:=hj rfl
   refine .y hs (zld aq) (.z zm ?_)
   first|(refine .ixv hs ae ai ?_;intro b116 o116 hc116)|refine .z (zix ae ai) ?_
   refine .y hs (zld af) (.zn fm (.bA rfl (fun hc118=>?_) (fun hc118=>?_)))
   ·refine .aj (.zn zg (.ret (rT ((Fin.iM Ds [_,_,_,_,_,_] hs fun w hs=>⟨_,results1 Tryz.results272 rfl,H1,[],.nul,hle1,.nil 4 none,(hs.sb).nul,hW.none hg hc118⟩)))))
   ·refine .skip (nT (.aj (.zn zg (.seq (.aj (.z zm (.zn zg (.block ?_))))))))
    have hreach:gi st.cost to<far:=by have:=hW.top to hto;have e:far=1152921504606846976:=rfl;omega
    obtain ⟨kk,cc,u,hbk,hroot,hkn,hk0,hcl,hway⟩:=hW.back hg hto hreach hpos
    refine .loop (fun p:Nat×Nat×Value×Ent=>⟨141,marks Ds,[(11,p.2.2.1),(12,I p.2.1),(6,Pt b6)]⟩)
     (fun p w=>p.1≤kk∧(p.2.1<N+1∧gi st.cost p.2.1<far)∧cZ 4 p.2.2.1 (kf (jL st.by_ to p.1)) p.2.2.2∧(∃d,iq st.by_ to p.1 d p.2.1)∧(∃d,iq st.by_ p.2.1 (kk - p.1) d u)∧
      St H1 w (p.2.2.2:: .blk b9 [.bool false]:: .blk b6 [.slice (some ⟨b27,0,none⟩) (N+1) (N+1)]:: .blk b27 (kf st.by_):: .blk b5 [.slice (some ⟨bc,0,none⟩) (N+1) (N+1)]:: .blk bc (Is st.cost):: .blk b2 [Pt bf]::(mes Ds++σ)))
     (fun p=>kk - p.1) (0,to,.slice none 0 0,.nul) aU ⟨Nat.zero_le _,⟨hto,hreach⟩,.nil 4 none,⟨0,.nil⟩,⟨cc,hbk⟩,hs.nul⟩ ?_
    rintro ⟨i,v,v11,en⟩ w ⟨hik,⟨hv1,hv2⟩,hO,⟨d1,hb1⟩,⟨d2,hb2⟩,hs⟩
    dsimp only at hik hv1 hv2 hO hb1 hb2 hs ⊢
    have hvb:v<st.by_.length:=by omega
    refine .seq (.aj (.y hs (zld gv) (.z zm ?_)))
    first|(refine .ixw hs aH aO ?_;intro b122 o122 hc122)|refine .z (mA aH aO) ?_
    refine .z (zfa ez) (.q hs (eg rfl af (hv:=(s6 hvb (j:=3) an).trans rfl)) (.zn uj (.bA rfl (fun hc125=>?_) (fun hc125=>?_))))
    ·refine .skip (nT (.seq (.block (.region (.z zm (.y hs (zld gv) (.z zm ?_)))))))
     first|(refine .ixw hs aH aO ?_;intro b134 o134 hc134)|refine .z (mA aH aO) ?_
     refine .q hs (k9 (vs:=(ga st.by_ v).v) rfl iR aO (hv:=CG hvb)) (.o (.buildSlice (cells:=(ga st.by_ v).v) hs ru rfl rfl fun b136 w hs=>?_))
     refine .o (.append (ys:=(ga st.by_ v).v) hs lQ rfl rfl hO (.own .here rfl rfl) (by simp [Arc.v,Value.oneCell']) (fun l h=>by rw [eh,iS] at h;omega) ?_);intro v137 en137 w hO2 hs
     refine .zn zg (nB (nT (.region (.y hs (zld gv) (.z zm ?_)))))
     first|(refine .ixw hs aH aO ?_;intro b128 o128 hc128)|refine .z (mA aH aO) ?_
     refine .z (zfa dI) (.q hs (eg rfl af (hv:=(s6 hvb (j:=0) an).trans rfl)) (.zn zg (nT ?_)))
     obtain ⟨g1,g2⟩:=hcl v hv1 hv2 hc125
     obtain ⟨m,hm⟩:∃m,kk - i=m+1:=by
      refine ⟨kk - i - 1,?_⟩
      rcases Nat.lt_or_ge i kk with h|h
      ·omega
      ·obtain e:kk - i=0:=by omega
       rw [e] at hb2
       cases hb2
       omega
     rw [hm] at hb2
     obtain ⟨d3,hb3⟩:∃d,iq st.by_ (ga st.by_ v).f m d u:=by cases hb2 with|cons _ t=>exact ⟨_,t⟩
     rw [←Fe,←yk hb1] at hO2
     exact ⟨(i+1,(ga st.by_ v).f,v137,en137),aU,⟨by dsimp only;omega,⟨g1,g2⟩,hO2,⟨_,hb1.trans (.cons hc125 .nil)⟩,⟨d3,by rw [show kk - (i+1)=m by omega];exact hb3⟩,hs.sb⟩,by dsimp only;omega⟩
    ·refine .exit (xT (xT (xB (nT (.aj ?_)))))
     obtain rfl:i=kk:=by
      rcases Nat.lt_or_ge i kk with h|h
      ·obtain ⟨m,hm⟩:∃m,kk - i=m+1:=⟨kk - i - 1,an⟩
       rw [hm] at hb2
       cases hb2 with
       |cons hl _=>omega
      ·omega
     refine .z zm (.o (.call Tryz.call297 rfl (qT hs hO (by rw [iS];omega)) ?_));rintro v139 w ⟨en',hO',hs⟩
     refine .nil (.aj (.z zm (.zn zg (.ret (Fin.iM Ds [_,_,_,_,_,_,_] hs fun w hs=>⟨_,results1 Tryz.results272 rfl,H1,_,en',hle1,hO',hs.sb,hway _ rfl⟩)))))
theorem CE{s:dp}{x:Arc}(hok:s.Ok)(hx:Df s.dK x):∃(i:Nat) (l:Lim),s.dk[i]? =some l∧x.l=(i:Int)∧(l.A=(x.f:Int)↔fwd s.dK x)∧i<s.dk.length:=by
 obtain ⟨i,y,h1,h2⟩:=hx
 have hl:=sZ h1
 have hlt:i<s.dk.length:=by have:=(List.getElem?_eq_some_iff.1 h1).1;simpa [dp.dK,fP] using this
 obtain ⟨l,hl2⟩:=nth hlt
 have h3:=lW hl2
 have h1':(oA s.dk)[i]? =some y:=h1
 rw [h3] at h1'
 cases h1'
 obtain ⟨a1,a2,_⟩:=hok.arc (List.mem_of_getElem? hl2) i
 refine ⟨i,l,hl2,?_,?_,hlt⟩
 ·rcases h2 with rfl|rfl<;>rfl
 ·have hg:ga s.dK i=l.arc i:=by simp [ga,dp.dK,h3]
  have hxl:x.l.toNat=i:=by rcases h2 with rfl|rfl<;>rfl
  unfold fwd
  rw [hxl,hg,←a1]
  exact ⟨fun e=>by exact_mod_cast e,fun e=>by exact_mod_cast e⟩
theorem kU{bf:Nat}{s:dp}{vl vt vd:Value}{x:Arc}(hs:St H w σ)(hok:s.Ok)(hf:Row H bf [I s.many,vl,vt,vd])(hl:RL H vl s.dk)(hx:Df s.dK x):
  Cl Tryz.prog 298 [Pt bf,.agg x.v.toArray] w fun v w'=>v= .bool (decide (fwd s.dK x))∧St H w' σ:=by
 obtain ⟨i,l,hl1,hxl,hfw,hil⟩:=CE hok hx
 have hf1:cellAt H bf 1=some vl:=hf.at 1
 refine Cl.o Tryz.func298 Tryz.ntmps298 ag2 ?_
 refine .aj (.bx hs fun b3 w hs=>?_)
 refine .zn zg (.seq (.draw mix rfl hs fun w hs=>?_))
 refine .zw 0 rfl zm ?_;refine .z 1 rfl znc ?_;refine .z 2 rfl (zfa ig) ?_;refine .z 3 rfl (zfa cN) ?_;refine .y 4 rfl hs dz ?_;refine .z 5 rfl (zfa ez) ?_;refine .y 6 rfl hs af ?_
 refine .ixX (i:=7) hs rfl aD .none hl rfl rfl a8 bJ hl1 hxl ?_;intro b12 o12 hc12
 have hA:cellAt H b12 o12=some (I l.A):=hc12.get 0 rfl
 refine .zw 8 rfl (zfa eN) ?_;refine .y 9 rfl hs af ?_;refine .z 10 rfl (zfa dI) ?_;refine .y 11 rfl hs af ?_;refine .z 12 rfl fm ?_;refine .z 13 rfl zg ?_;refine .D hs ?_
 refine .ret (Fin.bE Tryz.results298 rfl ?_)
 exact ⟨by simp only [decide_eq_decide.2 hfw],hs.out⟩
theorem qt{bf bt bl cl u v:Nat}{s:dp}{ts lf:List Int}{wt:Nat→Int}{vl vp:Value}{sp:List Value}{p:List Arc}(hs:St H w (.blk bt (Is ts):: .blk bl (Is lf++sp)::σ))(hok:s.Ok)
  (hf:Row H bf [I s.many,vl,.slice (some ⟨bt,0,none⟩) ts.length ts.length,.slice (some ⟨bl,0,none⟩) lf.length cl]) (hl:RL H vl s.dk) (hp:RS H 4 vp (p.map Arc.v)) (hI:ya s.n s.dK wt ts lf) (hw:Ik s.dK ts lf s.n p u v) (hpn:p≠[]) (hpl:p.length<s.n):
  Cl Tryz.prog 273 [Pt bf,vp] w fun _ w'=>St H w' (.blk bt (Is (fQ s.dK (su s.dK ts lf p u v) ts p)):: .blk bl (Is (Ao lf (su s.dK ts lf p u v) u v)++sp)::σ):=by
 have hN1:=hok.m1
 have hn65:s.n≤65:=by simp only [dp.n];have:=hok.m0;omega
 have hnum:BI s.dK:=fun i x hx=>⟨sZ hx,(hok.dK.2 x (List.mem_of_getElem? hx)).2.2.2.2.2⟩
 have hlt:=hI.lt
 have hll:=hI.ll
 obtain ⟨m0,m1,m2,m3⟩:=vM hlt.symm hnum hw
 have hsu:=hI.sg u hw.un
 have hsv:=hI.sg v hw.vn
 have hun:u<lf.length:=by rw [hll];exact hw.un
 have hvn:v<lf.length:=by rw [hll];exact hw.vn
 obtain ⟨a,cap,hvp⟩:=hp.shape
 rw [List.length_map] at hvp
 subst hvp
 have hp0:0<p.length:=List.length_pos_iff.2 hpn
 obtain ⟨x0,hx0⟩:=nth hp0
 obtain ⟨x1,hx1⟩:=nth (l:=p) (k:=p.length - 1) an
 have hh:=hw.ch.head hx0
 have hla:=hw.ch.last hx1
 have hf2:cellAt H bf 2=some (.slice (some ⟨bt,0,none⟩) ts.length ts.length):=hf.at 2
 have hf3:cellAt H bf 3=some (.slice (some ⟨bl,0,none⟩) lf.length cl):=hf.at 3
 have hix:∀x∈p,Df s.dK x∧x.l.toNat<ts.length∧x.l=(x.l.toNat:Int):=fun x hx=>by
  obtain ⟨g1,g2,_⟩:=kF hlt.symm hnum (hw.mem x hx)
  obtain ⟨i,l,_,g3,_⟩:=CE hok g1
  exact ⟨g1,g2,by rw [g3];simp⟩
 simp only [FF] at hsu hsv
 have huv:v≠u:=fun e=>by have:=hw.lu;have:=hw.lv;rw [e] at*;omega
 have htt:∀i<ts.length,0≤gi ts i∧gi ts i≤3600000000000:=fun i hi=>by
  have h1:=hI.nn i an
  have h2:=hI.tb i an
  have h3:0≤rem s.n lf:=dm fun v _=>by omega
  simp only [FF] at h2
  omega
 have hM:su s.dK ts lf p u v=least s.dK ts (min (-gi lf u) (gi lf v)) p:=rfl
 generalize su s.dK ts lf p u v=M at*
 have hgv:gi (lf.set u (gi lf u+M)) v=gi lf v:=by rw [fb hun,if_neg huv]
 refine Cl.o Tryz.func273 Tryz.ntmps273 ag2 ?_
 refine .seq (.draw mix rfl hs fun w hs=>?_)
 refine .zw 0 rfl zm (.ixX (i:=1) hs rfl aD .none hp rfl rfl aH aO hx0 rfl ?_);intro b12 o12 hc12
 have h14:cellAt H b12 (o12+0)=some (I u):=by rw [←hh];exact hc12.get 0 rfl
 refine .zw 2 rfl (zfa dI) ?_;refine .y 3 rfl hs af ?_;refine .z 4 rfl zm ?_;refine .z 5 rfl zm ?_;refine .z 6 rfl (dc aH) ?_;refine .z 7 rfl fY ?_
 refine .ixX (i:=8) hs rfl aD .none hp rfl rfl aH aO hx1 an ?_;intro b19 o19 hc19
 have h21:cellAt H b19 (o19+1)=some (I v):=by rw [←hla];exact hc19.get 1 rfl
 refine .zw 9 rfl (zfa dQ) ?_;refine .y 10 rfl hs af ?_;refine .z 11 rfl zg ?_;refine .z 12 rfl zg ?_;refine .D hs ?_
 refine .seq (.draw mix rfl hs fun w hs=>?_)
 refine .zw 0 rfl zm ?_;refine .z 1 rfl znc ?_;refine .z 2 rfl (zfa eA) ?_;refine .y 3 rfl hs aq ?_;refine .z 4 rfl zm ?_
 first|(refine .ixv 5 rfl hs ae ai ?_;intro b27 o27 hc27)|refine .z 5 rfl (zix ae ai) ?_
 refine .load (i:=6) hs rfl aD .none rfl af ?_ (hv:=gu hun sp)
 refine .zw 7 rfl BQ ?_;refine .z 8 rfl zm ?_;refine .z 9 rfl znc ?_;refine .z 10 rfl (zfa eA) ?_;refine .y 11 rfl hs aq ?_;refine .z 12 rfl zm ?_
 first|(refine .ixv 13 rfl hs ae ai ?_;intro b35 o35 hc35)|refine .z 13 rfl (zix ae ai) ?_
 refine .load (i:=14) hs rfl aD .none rfl af ?_ (hv:=gu hvn sp)
 refine .zw 15 rfl zR ?_;refine .z 16 rfl zg ?_;refine .D hs ?_
 refine .seq (.aj (.z zm (.z (dc aH) (.zn zm (.for (N:=p.length) (J:=fun k fr w=>fr=[(38,.slice a p.length cap),(6,I (least s.dK ts (min (-gi lf u) (gi lf v)) (p.take k))),(0,Pt bf),(1,.slice a p.length cap),(4,I u),(5,I v)]∧St H w (.blk bt (Is ts):: .blk bl (Is lf++sp)::σ)) an ?_ ?_ ?_)))))
 ·exact .mk ⟨rfl,hs⟩
 ·rintro k fr w hk ⟨rfl,hs⟩
  obtain ⟨x,hx⟩:=nth hk
  obtain ⟨g1,g2,g3⟩:=hix x (List.mem_of_getElem? hx)
  refine .block (.aj (.ixX hs hp rfl rfl aH aO hx rfl ?_));intro b42 o42 hc42
  refine .q hs (cj (vs:=x.v) rfl iR aO hc42) (.o (.alloc hs eK rfl fun b8 w hs=>?_))
  refine .o (.aP (vs:=x.v) hs rfl rfl aO fun w hs=>?_)
  refine .nil (.aj (.z zm (.q hs (k9 (vs:=x.v) rfl iR aO) (.o (.call Tryz.call298 rfl (kU hs hok hf hl g1) ?_)))));rintro _ w ⟨rfl,hs⟩
  refine .zn fZ (.cond rfl (fun hc47=>?_) (fun hc47=>?_))
  ·refine .draw mix rfl hs fun w hs=>?_
   refine .zw 0 rfl zm ?_;refine .z 1 rfl zm ?_;refine .z 2 rfl znc ?_;refine .z 3 rfl (zfa jb) ?_;refine .y 4 rfl hs aq ?_;refine .z 5 rfl (zfa ez) ?_;refine .y 6 rfl hs af ?_
   refine .zw 7 rfl (eF (k:=x.l.toNat) rfl rfl ae ai g3 g2) (.y 8 rfl hs af ?_);refine .z 9 rfl zR ?_;refine .z 10 rfl zg ?_;refine .D hs ?_
   refine nB (nT ?_)
   have e:min (least s.dK ts (min (-gi lf u) (gi lf v)) (p.take k)) (gi ts x.l.toNat)=least s.dK ts (min (-gi lf u) (gi lf v)) (p.take (k+1)):=by rw [dP hx,nv,if_neg (by simpa using hc47)]
   exact .mk ⟨rfl,hs.tail⟩ (hs:= .cons rfl (.cons rfl (.cons rfl (.cJ rfl e (.cons rfl (.cons rfl (.cons rfl (.cons rfl (.nil rfl rfl)))))))))
  ·refine .skip (nB (nT ?_))
   have e:least s.dK ts (min (-gi lf u) (gi lf v)) (p.take k)=least s.dK ts (min (-gi lf u) (gi lf v)) (p.take (k+1)):=by rw [dP hx,nv,if_pos (by simpa using hc47)]
   exact .mk ⟨rfl,hs.tail⟩ (hs:= .cons rfl (.cons rfl (.cons rfl (.cJ rfl e (.cons rfl (.cons rfl (.cons rfl (.cons rfl (.nil rfl rfl)))))))))
 ·rintro fr w ⟨rfl,hs⟩
  have e6:least s.dK ts (min (-gi lf u) (gi lf v)) (List.take p.length p)=M:=by rw [List.take_length];exact hM.symm
  rw [e6]
  refine nT (.seq (.aj (.z zm (.z (dc aH) (.zn zm (.for (N:=p.length) (J:=fun k fr w=>fr=[(59,.slice a p.length cap),(6,I M),(0,Pt bf),(1,.slice a p.length cap),(4,I u),(5,I v)]∧St H w (.blk bt (Is (fQ s.dK M ts (p.take k))):: .blk bl (Is lf++sp)::σ)) an ?_ ?_ ?_))))))
  ·exact .mk ⟨rfl,hs⟩
  ·rintro k fr w hk ⟨rfl,hs⟩
   obtain ⟨x,hx⟩:=nth hk
   obtain ⟨g1,g2,g3⟩:=hix x (List.mem_of_getElem? hx)
   have hpl2:=jY s.dK M (p.take k) ts
   have hbd:=Al (es:=s.dK) (m:=M) (ts:=ts) (p:=p.take k) an (by simp only [FF];omega) (by rw [List.length_take];omega) (fun y hy=>(hix y (List.mem_of_mem_take hy)).2.1) x.l.toNat
   have h9:=htt _ g2
   refine .block (.aj (.ixX hs hp rfl rfl aH aO hx rfl ?_));intro b63 o63 hc63
   refine .q hs (cj (vs:=x.v) rfl iR aO hc63) (.o (.alloc hs eK rfl fun b10 w hs=>?_))
   refine .o (.aP (vs:=x.v) hs rfl rfl aO fun w hs=>?_)
   refine .nil (.aj (.z zm (.q hs (k9 (vs:=x.v) rfl iR aO) (.o (.call Tryz.call298 rfl (kU hs hok hf hl g1) ?_)))));rintro _ w ⟨rfl,hs⟩
   refine .nil (.cond rfl (fun hc67=>?_) (fun hc67=>?_))
   ·refine .draw mix rfl hs fun w hs=>?_
    refine .zw 0 rfl zm ?_;refine .z 1 rfl znc ?_;refine .z 2 rfl (zfa jb) ?_;refine .y 3 rfl hs aq ?_;refine .z 4 rfl (zfa ez) ?_;refine .y 5 rfl hs af ?_
    refine .zw 6 rfl (eF (k:=x.l.toNat) rfl rfl ae ai g3 g2) (.y 7 rfl hs af ?_);refine .z 8 rfl zm ?_;refine .z 9 rfl cK ?_
    refine .zw 10 rfl (eF (k:=x.l.toNat) rfl rfl ae ai g3 g2) (.E 11 hs ?_)
    refine .store hs rfl rfl ai ?_;intro w hs
    refine .go (.D hs (nB (nT ?_)))
    have e:fQ s.dK M ts (p.take (k+1))=(fQ s.dK M ts (p.take k)).set x.l.toNat (gi (fQ s.dK M ts (p.take k)) x.l.toNat+M):=by rw [dP hx,nJ,push,if_pos (by simpa using hc67)]
    exact .mk ⟨rfl,by rw [e];exact hs.tail⟩
   ·refine .draw mix rfl hs fun w hs=>?_
    refine .zw 0 rfl zm ?_;refine .z 1 rfl znc ?_;refine .z 2 rfl (zfa jb) ?_;refine .y 3 rfl hs aq ?_;refine .z 4 rfl (zfa ez) ?_;refine .y 5 rfl hs af ?_
    refine .zw 6 rfl (eF (k:=x.l.toNat) rfl rfl ae ai g3 g2) (.y 7 rfl hs af ?_);refine .z 8 rfl zm ?_;refine .z 9 rfl fY ?_
    refine .zw 10 rfl (eF (k:=x.l.toNat) rfl rfl ae ai g3 g2) (.E 11 hs ?_)
    refine .store hs rfl rfl ai ?_;intro w hs
    refine .go (.D hs (nB (nT ?_)))
    have e:fQ s.dK M ts (p.take (k+1))=(fQ s.dK M ts (p.take k)).set x.l.toNat (gi (fQ s.dK M ts (p.take k)) x.l.toNat - M):=by rw [dP hx,nJ,push,if_neg (by simpa using hc67)]
    exact .mk ⟨rfl,by rw [e];exact hs.tail⟩
  ·rintro fr w ⟨rfl,hs⟩
   rw [List.take_length] at hs
   refine nT (.aj (.z zm (.z znc (.z (zfa eA) (.y hs (zld aq) (.z zm ?_))))))
   first|(refine .ixv hs ae ai ?_;intro b96 o96 hc96)|refine .z (zix ae ai) ?_
   refine .q hs (eg rfl af (hv:=gu hun sp)) (.z zm (.z cK ?_))
   first|(refine .ixv hs ae ai ?_;intro b100 o100 hc100)|refine .z (zix ae ai) ?_
   refine .o (.store hs rfl rfl ai ?_ dn (ml hun sp) (jD hun sp _));intro w hs
   refine .nil (.region (.z zm (.z znc (.z (zfa eA) (.y hs (zld aq) (.z zm ?_))))))
   first|(refine .ixv hs ae ai ?_;intro b106 o106 hc106)|refine .z (zix ae ai) ?_
   refine .q hs (eg rfl af (hv:=gu (by rw [List.length_set];exact hvn) sp)) ?_
   refine .z zm (.z fY ?_)
   first|(refine .ixv hs ae ai ?_;intro b110 o110 hc110)|refine .z (zix ae ai) ?_
   refine .o (.store hs rfl rfl ai ?_ dn (ml (by rw [List.length_set];exact hvn) sp) (jD (by rw [List.length_set];exact hvn) sp _));intro w hs
   refine .nil ?_
   exact Fin.AL Tryz.results273 hs
theorem Es{w:List Int}{N k:Nat}(hw:w.length=N+1):gi (w.set 0 (-lE w k)) 0 - gi (w.set 0 (-lE w k)) (k+1)= -lE w (k+1):=by
 rw [fb an,fb an,if_pos rfl,if_neg an]
 simp only [lE,bj];omega
theorem xi{v vw:Value}{s:dp}{ws:List Int}(hs:St H w σ)(hok:s.Ok)(hr:RSy H v s)(hrw:RI H vw ws)(hwl:ws.length=s.n)(hsz:iP ws)(hsnd:s.Sound):
  Cl Tryz.prog 224 [v,vw] w fun v w'=>(v= .tuple #[.pointer none,.bool false]∧nE s.dK (oW ws s.n) s.n∧St H w' σ)∨
   (∃H1 bf bt bl cl ts lf vl sp,HLe H H1∧v= .tuple #[Pt bf,.bool true]∧xZ H1 bf s ts lf vl bt bl cl sp∧uC s.n s.dK (oW ws s.n) ts∧St H1 w' σ):=by
 obtain ⟨vl,rfl,hr⟩:=hr
 obtain ⟨al,cpl,rfl⟩:=RL.shape hr
 obtain ⟨aw,cw,rfl⟩:=RI.shape hrw
 obtain ⟨N,hN⟩:=Int.eq_ofNat_of_zero_le hok.m0
 have hN1:=hok.m1
 have hn:s.n=N+1:=by simp [dp.n,hN]
 have hlim:=hok.len
 have hoka:=hok.dK
 have hal:s.dK.length=s.dk.length:=by simp [dp.dK,fP]
 have hnum:BI s.dK:=fun i x hx=>⟨sZ hx,(hok.dK.2 x (List.mem_of_getElem? hx)).2.2.2.2.2⟩
 have hin:∀x∈s.dK,x.f<s.n∧x.t<s.n:=fun x hx=>by have:=hoka.2 x hx;omega
 have hwt0:=Du ws (n:=s.n) an
 unfold iP at hsz
 rw [hwl] at hsz
 refine Cl.o Tryz.func224 Tryz.ntmps224 ag2 ?_
 refine .aj (.bx hs fun b2 w hs=>?_)
 refine .z zg (.zn zg (.scope (.cut (fun fs w=>∃bf bt bl cl sp,ke fs ⟨73,[],[(6,Pt bf)]⟩∧St H w (.blk bf [I s.many,.slice al s.dk.length cpl,.slice (some ⟨bt,0,none⟩) s.dk.length s.dk.length,.slice (some ⟨bl,0,none⟩) ws.length cl]:: .blk bt (Is (List.replicate s.dk.length 0)):: .blk bl (Is ws++sp)::σ)) ?_ ?_)))
 ·refine .draw mix rfl hs fun w hs=>?_
  refine .ys 0 rfl hs [_,_] bq aI ?_;refine .z 1 rfl (zfa cN) ?_;refine .y 2 rfl hs dz ?_;refine .z 3 rfl (dc a8) ?_;refine .z 5 rfl zm ?_
  refine .e2 (i:=4) (j:=6) aD rfl rfl rfl rfl .none .none hs ?_ ?_
  ·refine .va s.dk.length hs rfl rfl ae fD rfl ai cB an ?_;intro b15 w hs
   refine .go (.E 6 hs ?_)
   refine .call Tryz.call171 rfl (nY hs hrw an) ?_;rintro v17 w ⟨en17,hO,hs⟩
   obtain ⟨bl,cl,sp,rfl,rfl,hsp⟩:=hO.some an
   refine .go (.zw 7 rfl (zbd [_,_,_,_] qL) (.E 8 hs ?_))
   refine .box hs rfl rfl ?_;intro b19 w hs
   refine .go (.zw 9 rfl zg ?_);refine .D hs ?_
   exact nT ⟨b19,b15,bl,cl,sp,aU,hs.sb⟩
  ·refine .call Tryz.call171 rfl (nY hs hrw an) ?_;rintro v17 w ⟨en17,hO,hs⟩
   obtain ⟨bl,cl,sp,rfl,rfl,hsp⟩:=hO.some an
   refine .go (.E 4 hs ?_)
   refine .va s.dk.length hs rfl rfl ae fD rfl ai cB an ?_;intro b15 w hs
   refine .go (.zw 7 rfl (zbd [_,_,_,_] qL) (.E 8 hs ?_))
   refine .box hs rfl rfl ?_;intro b19 w hs
   refine .go (.zw 9 rfl zg ?_);refine .D hs ?_
   exact nT ⟨b19,b15,bl,cl,sp,aU,hs.sb⟩
 ·rintro fs w ⟨bf,bt,bl,cl,sp,hfs,hs⟩
  refine WE.sub ?_ hfs
  obtain ⟨H1,hle1,hRf,hs⟩:=hs.di .here
  have hf0:cellAt H1 bf 0=some (I (N:Int)):=by have:=hRf.at 0 (v:=I s.many);rwa [hN] at this
  have hf3:cellAt H1 bf 3=some (.slice (some ⟨bl,0,none⟩) ws.length cl):=hRf.at 3
  have hrl:=hr.mono hle1
  refine .aj (.z zm (.z znc (.z (zfa eA) (.y hs (zld aq) (.q hs (eF (k:=0) rfl rfl ae ai rfl an) (.o (.store hs rfl rfl ai ?_ dn (ml an sp) (jD an sp _))))))));intro w hs
  refine .nil (.seq (.aj (.z zm (.z znc (.z (zfa ig) (.z (zfa cE) (.y hs (zld af) (.zn zm (.for (N:=N) (J:=fun k fr w=>fr=[(6,Pt bf)]∧St H1 w (.blk bt (Is (List.replicate s.dk.length 0)):: .blk bl (Is (ws.set 0 (-lE ws k))++sp)::σ)) an ?_ ?_ ?_)))))))))
  ·exact .mk ⟨rfl,by simpa [lE,bj] using hs⟩
  ·rintro k fr w hk ⟨rfl,hs⟩
   have e:=Es (w:=ws) (N:=N) (k:=k) an
   have hb1:=tq ws (k+1)
   have hb2:bX ws (k+1+1)≤bX ws s.n:=pW (fun v=>by omega) an
   simp only [FF] at hsz
   refine .block (.aj (.z zm (.zn zg (.draw mix rfl hs fun w hs=>?_))))
   refine .zw 0 rfl zm ?_;refine .z 1 rfl znc ?_;refine .z 2 rfl (zfa eA) ?_;refine .y 3 rfl hs aq ?_
   refine .zw 4 rfl (eF (k:=0) rfl rfl ae ai rfl an) (.load (i:=5) hs rfl aD .none rfl af ?_ (hv:=gu (by rw [List.length_set];omega) sp))
   refine .zw 6 rfl zm ?_;refine .z 7 rfl znc ?_;refine .z 8 rfl (zfa eA) ?_;refine .y 9 rfl hs aq ?_;refine .z 10 rfl zm ?_;refine .z 11 rfl cK ?_
   refine .zw 12 rfl (eF (k:=k+1) rfl rfl ae ai an an) (.load (i:=13) hs rfl aD .none rfl af ?_ (hv:=gu (by rw [List.length_set];omega) sp))
   refine .zw 14 rfl fY (.zw 15 rfl (eF (k:=0) rfl rfl ae ai rfl an) (.E 16 hs ?_))
   refine .store hs rfl rfl ai ?_ dn (ml (by rw [List.length_set];omega) sp) (jD (by rw [List.length_set];omega) sp _);intro w hs
   refine .go (.D hs (nB (nT ?_)))
   rw [e,List.set_set] at hs
   exact .mk ⟨rfl,hs⟩
  ·rintro fr w ⟨rfl,hs⟩
   have hI0:ya s.n s.dK (oW ws s.n) (List.replicate s.dk.length 0) (ws.set 0 (-lE ws N)):=by
    rw [←hal,hn]
    rw [hn] at hsz
    refine ya.start hsz (by rw [List.length_set];omega) (fun v hv=>?_) hsnd
    rw [fb an]
    cases v with
    |zero=>rw [if_pos rfl,yO]
    |succ v=>rw [if_neg an,yP]
   refine nT (.seq (.label (nT (.block ?_))))
   refine .loop (fun _:cD×List Int×List Int=>⟨73,[],[(6,Pt bf)]⟩)
    (fun p w=>HLe H1 p.1∧ya s.n s.dK (oW ws s.n) p.2.1 p.2.2∧St p.1 w (.blk bt (Is p.2.1):: .blk bl (Is p.2.2++sp)::σ)) (fun p=>(rem s.n p.2.2).toNat) (H1,List.replicate s.dk.length 0,ws.set 0 (-lE ws N))
    aU ⟨HLe.refl _,hI0,hs⟩ ?_
   rintro ⟨H2,ts,lf⟩ w ⟨hle2,hI,hs⟩
   dsimp only at hle2 hI hs ⊢
   have hlt:=hI.lt
   have hll:=hI.ll
   have hRf2:Row H2 bf [I s.many,.slice al s.dk.length cpl,.slice (some ⟨bt,0,none⟩) ts.length ts.length,.slice (some ⟨bl,0,none⟩) lf.length cl]:=by
    rw [hlt,hal,hll,←hwl];exact hRf.mono hle2
   have hf32:cellAt H2 bf 3=some (.slice (some ⟨bl,0,none⟩) lf.length cl):=hRf2.at 3
   refine .block (.seq (.aj (.z zm (.z znc (.z (zfa eA) (.y hs (zld aq) (.z (dc ae) (.zn zm (.for (N:=lf.length) (J:=fun k fr w=>fr=[(53,.slice (some ⟨bl,0,none⟩) lf.length cl),(6,Pt bf)]∧(∀v<k,gi lf v≤0)∧St H2 w (.blk bt (Is ts):: .blk bl (Is lf++sp)::σ)) an ?_ ?_ ?_)))))))))
   ·exact .mk ⟨rfl,fun v hv=>by omega,hs⟩
   ·rintro k fr w hk ⟨rfl,hle0,hs⟩
    refine .block (.aj (.z zm ?_))
    first|(refine .ixv hs ae ai ?_;intro b58 o58 hc58)|refine .z (zix ae ai) ?_
    refine .q hs (eg rfl af (hv:=gu hk sp)) (.z zg (.zn zg (.seq (.aj (.z zm (.zn nF (.bA rfl (fun hc61=>?_) (fun hc61=>?_))))))))
    ·refine .exit (xT (xB (nT ?_)))
     exact .mk ⟨rfl,fun v hv=>by
       by_cases e:v=k
       ·subst e;exact hc61
       ·exact hle0 v an,hs⟩
    ·refine .skip (nT (.aj (.z zm (.z zm ?_))))
     obtain ⟨Ha,hla,hra,hsa,-,hba⟩:=hs.Cc
     obtain ⟨Hb,hlb,hrb,hsb,-,hbb⟩:=hsa.Cc
     refine .o (.call Tryz.call272 rfl (rp (s:=s) (to:=k) hsb hok ⟨hRf2.mono (hla.trans hlb),hr.mono (hle1.trans (hle2.trans (hla.trans hlb))),hra.mono hlb,hrb⟩ an an hI.fe an an) ?_);rintro v64 w ⟨Hc,p,en,hlc,hO,hsc,hWR⟩
     have hs:=hba (HLe.refl _) (hbb hlc hsc)
     obtain ⟨ap,lp,cp,rfl,hlp⟩:=hO.shape
     obtain rfl:lp=p.length:=by rw [eh] at hlp;omega
     refine .zn zg (.seq (.aj (.z zm (.z (dc aH) (.zn fm (.bA rfl (fun hc67=>?_) (fun hc67=>?_)))))))
     ·refine .aj (.z zg (.zn zg (.ret (rT (rB (rT (rB (rT (rB (rT (rB (rS (Fin.gL Tryz.results224 rfl rfl ?_)))))))))))))
      rcases hWR with ⟨_,R,hS,hR,hto⟩|⟨hp,_⟩
      ·exact .inl ⟨rfl,hI.open hin hS hR an hto an,(hs.le (hle1.trans hle2)).out⟩
      ·exact (hp (List.length_eq_zero_iff.1 an)).elim
     ·refine .skip (nT (.aj (.z zm (.z zm ?_))))
      obtain ⟨hp,hpl,u,hw⟩:=hWR.resolve_left fun h=>by rw [h.1] at hc67;exact hc67 rfl
      obtain ⟨H3,hle3,hRS,hs⟩:=cZ.di (cs:=p.map Arc.v) hO (fun c hc=>by simp only [List.mem_map] at hc;obtain ⟨x,_,rfl⟩:=hc;rfl) an (by rw [List.length_map];omega) hs dn
      refine .o (.call Tryz.call273 rfl (qt hs hok (hRf2.mono hle3) (hr.mono (hle1.trans (hle2.trans hle3))) hRS hI hw hp hpl) ?_);rintro v70 w hs
      refine .nil (.exit (xN (xT (xN (xT (xB (nT ?_)))))))
      obtain ⟨q1,q2⟩:=hI.send hnum hw an
      have q3:0≤rem s.n (Ao lf (su s.dK ts lf p u k) u k):=dm fun v _=>by omega
      exact ⟨(H3,fQ s.dK (su s.dK ts lf p u k) ts p,Ao lf (su s.dK ts lf p u k) u k),aU,⟨hle2.trans hle3,q1,hs⟩,by dsimp only;omega⟩
   ·rintro fr w ⟨rfl,hle0,hs⟩
    refine nT (.aj (.z zm (.z zg (.zn zg (.ret (rB (rT (rB (rS (Fin.gL Tryz.results224 rfl rfl ?_))))))))))
    obtain ⟨H3,l3,r3,hs⟩:=hs.di .here
    obtain ⟨H4,l4,r4,hs⟩:=hs.di .here
    exact .inr ⟨H4,bf,bt,bl,cl,ts,lf,_,sp,hle1.trans (hle2.trans (l3.trans l4)),rfl,⟨hRf2.mono (l3.trans l4),hr.mono (hle1.trans (hle2.trans (l3.trans l4))),r3.mono l4,r4⟩,hI.ok hin hwt0 (fun v hv=>hle0 v an),hs⟩
theorem sO{v:Value}{ws:List Int}(hs:St H w σ)(hr:RI H v ws):Cl Tryz.prog 271 [v] w fun v w'=>∃b,v= .bool b∧(b=true↔iP ws)∧St H w' σ:=by
 obtain ⟨a,c,rfl⟩:=RI.shape hr
 have hl:=(RI.len hr).2.2
 refine Cl.o Tryz.func271 Tryz.ntmps271 ag1 ?_
 refine .aj (.zn zg (.aj (.zn zg (.seq (.aj (.z zm (.z (dc ae) (.zn zm (.for (N:=ws.length) (J:=fun k fr w=>fr=[(6,.slice a ws.length c),(3,I (3600000000000 - bX ws k))]∧bX ws k≤3600000000000∧St H w σ) an ?_ ?_ ?_)))))))))
 ·exact .mk ⟨rfl,by simp [bX,bj],hs⟩
 ·rintro k fr w hk ⟨rfl,hle,hs⟩
  have hx:=bB hk
  have h0:0≤bX ws k:=dm fun v _=>by omega
  have h1:bX ws (k+1)=bX ws k+max (gi ws k) (-gi ws k):=rfl
  refine .block (.aj ?_)
  first|(refine .ixv hs ae ai ?_;intro b10 o10 hc10)|refine .z (zix ae ai) ?_
  refine .y hs (zld af) (.zn zg (.seq (.aj (.z zm (.z zm (.z BQ (.z fM (.z zm (.gX (t':=16) rfl (fun hb16=>?_) (fun hb16=>?_))))))))))
  ·refine .Fs 3 4 false (.zn zpT (.cT (.aj (.zn zg (.ret (rT (rB (rT (rB (rT (Fin.bE Tryz.results271 rfl ?_)))))))))))
   exact ⟨false,rfl,⟨fun h=>(by cases h),fun h=>(nh (k:=k+1) hk (by simp only [FF];omega) h).elim⟩,hs⟩
  ·refine .T (.z zm (.T (.z zm (.T (.z km (.zn zpF (.bA rfl (fun hc20=>?_) (fun hc20=>?_))))))))
   ·refine .aj (.zn zg (.ret (rT (rB (rT (rB (rT (Fin.bE Tryz.results271 rfl ?_))))))))
    exact ⟨false,rfl,⟨fun h=>(by cases h),fun h=>(nh (k:=k+1) hk (by simp only [FF];omega) h).elim⟩,hs⟩
   ·refine .skip (nT (.region (.z zm (.z zm (.z zm (.z BQ (.z A5 (.z fY (.zn zg (nB (nT ?_)))))))))))
    exact .mk ⟨rfl,an,hs⟩ (hs:= .cons rfl (.cons rfl (.cons rfl (.cJ rfl an (.nil rfl rfl)))))
 ·rintro fr w ⟨rfl,hle,hs⟩
  refine nT (.aj (.zn zg (.ret (Fin.bE Tryz.results271 rfl ?_))))
  exact ⟨true,rfl,⟨fun _=>hle,fun _=>rfl⟩,hs⟩
theorem nO{v vw:Value}{s:dp}{ws:List Int}(hs:St H w σ)(hr:RSy H v s)(hrw:RI H vw ws):Cl Tryz.prog 222 [v,vw] w fun v w'=>v=I (fc s ws)∧St H w' σ:=by
 obtain ⟨vl,rfl,hr⟩:=hr
 obtain ⟨al,cpl,rfl⟩:=RL.shape hr
 obtain ⟨aw,cw,rfl⟩:=RI.shape hrw
 have hlw:=(RI.len hrw).2.2
 have hn:s.check=0→0≤s.many∧s.many≤64∧(s.n:Int)=s.many+1:=fun h=>by
  have h1:=s.dU.1 h
  have:=h1.m0
  have:=h1.m1
  simp only [dp.n];omega
 refine Cl.o Tryz.func222 Tryz.ntmps222 ag2 ?_
 refine .aj (.bx hs fun b2 w hs=>?_)
 refine .zn zg (.seq (.aj (.y hs (zls [_,_] bq aI) (.o (.call Tryz.call197 rfl (jI (s:=s) hs ⟨_,rfl,hr⟩) ?_)))));rintro _ w ⟨rfl,hs⟩
 refine .zn zg (.aj (.z zm (.zn gE (.dV rfl (fun hc9=>?_) (fun hc9=>?_)))))
 ·refine .aj (.z zm (.zn zg (.ret (rT (Fin.bE Tryz.results222 rfl ?_)))))
  exact ⟨by unfold fc;rw [if_pos hc9],hs.tail⟩
 ·refine .skip (nT (.seq (.aj (.z zm ?_))))
  obtain ⟨n0,n1,n2⟩:=hn hc9
  refine .z (dc ae) (.z (zfa cE) (.y hs (zld af) (.z cK (.z gE (.z zm (.AS (t':=17) rfl (fun hb17=>?_) (fun hb17=>?_)))))))
  ·refine .Fs 3 6 false (.zn zpT (.cT (.aj (.zn zg (.ret (rT (Fin.bE Tryz.results222 rfl ?_)))))))
   exact ⟨by unfold fc;rw [if_neg an,if_neg an],hs.tail⟩
  ·refine .T (.z zm (.T (.o (.call Tryz.call271 rfl (sO hs hrw) ?_))));rintro _ w ⟨bz,rfl,hbz,hs⟩
   refine .T (.z fZ (.zn zpF (.cond rfl (fun hc21=>?_) (fun hc21=>?_))))
   ·refine .aj (.zn zg (.ret (rT (Fin.bE Tryz.results222 rfl ?_))))
    exact ⟨by unfold fc;rw [if_neg an,if_neg (fun h=>by rw [hbz.2 h.2] at hc21;cases hc21)],hs.tail⟩
   ·refine .skip (nT (.aj (.zn zg (.ret (Fin.bE Tryz.results222 rfl ?_)))))
    exact ⟨by unfold fc;rw [if_neg an,if_pos ⟨an,hbz.1 (by simpa using hc21)⟩],hs.tail⟩
theorem oz{v vw:Value}{s:dp}{ws:List Int}(hs:St H w σ)(hr:RSy H v s)(hrw:RI H vw ws):
  Cl Tryz.prog 179 [v,vw] w fun v w'=>∃H1 e pf,HLe H H1∧v= .tuple #[pf,I e]∧Fc s ws e∧St H1 w' σ∧(e≠0→pf= .pointer none)∧
   (e=0→∃bf bt bl cl ts lf vl sp,pf=Pt bf∧xZ H1 bf s ts lf vl bt bl cl sp∧uC s.n s.dK (oW ws s.n) ts∧s.Ok∧bX ws s.n≤FF):=by
 obtain ⟨vl,rfl,hr⟩:=hr
 refine Cl.o Tryz.func179 Tryz.ntmps179 ag2 ?_
 refine .aj (.bx hs fun b2 w hs=>?_)
 refine .z zg (.zn zg (.seq (.aj (.y hs (zls [_,_] bq aI) (.z zm (.o (.call Tryz.call222 rfl (nO (s:=s) hs ⟨_,rfl,hr⟩ hrw) ?_)))))));rintro _ w ⟨rfl,hs⟩
 refine .zn zg (.aj (.z zm (.zn gE (.dV rfl (fun hc13=>?_) (fun hc13=>?_)))))
 ·refine .aj (.z zm (.z zg (.zn zg (.ret (rT (Fin.gL Tryz.results179 rfl rfl ?_))))))
  exact ⟨H,_,_,HLe.refl _,rfl,.bad hc13,hs.tail,fun _=>rfl,fun h=>(hc13 h).elim⟩
 ·refine .skip (nT (.seq (.aj (.y hs (zls [_,_] bq aI) ?_))))
  obtain ⟨hok,hwl,hsz⟩:=mq hc13
  refine .o (.call Tryz.call223 rfl (kc (s:=s) hs hok ⟨_,rfl,hr⟩) ?_);rintro _ w ⟨H1,b,hle1,rfl,hb,hs⟩
  refine .zn fZ (.cond rfl (fun hc17=>?_) (fun hc17=>?_))
  ·refine .aj (.z zg (.zn zg (.ret (rT (Fin.gL Tryz.results179 rfl rfl ?_)))))
   exact ⟨H1,_,_,hle1,rfl,.clash hc13 (fun h=>by rw [hb.2 h] at hc17;cases hc17),hs.tail,fun _=>rfl,fun h=>by cases h⟩
  ·refine .skip (nT (.aj (.y hs (zls [_,_] bq aI) (.z zm ?_))))
   have hsnd:s.Sound:=hb.1 (by simpa using hc17)
   refine .o (.call Tryz.call224 rfl (xi (s:=s) hs hok ⟨_,rfl,hr.mono hle1⟩ (hrw.mono hle1) hwl hsz hsnd) ?_);rintro v21 w hcase
   obtain ⟨pf,bb,H2,hle2,rfl,hs,hT,hF⟩:∃pf bb H2,HLe H1 H2∧v21= .tuple #[pf,.bool bb]∧St H2 w (.blk b2 [I s.many,vl]::σ)∧(bb=false→pf= .pointer none∧nE s.dK (oW ws s.n) s.n)∧
     (bb=true→∃bf bt bl cl ts lf vl sp,pf=Pt bf∧xZ H2 bf s ts lf vl bt bl cl sp∧uC s.n s.dK (oW ws s.n) ts):=by
    rcases hcase with ⟨rfl,h1,h2⟩|⟨H2,bf,bt,bl,cl,ts,lf,vl,sp,h1,rfl,h2,h3,h4⟩
    ·exact ⟨_,false,H1,HLe.refl _,rfl,h2,fun _=>⟨rfl,h1⟩,fun h=>by cases h⟩
    ·exact ⟨_,true,H2,h1,rfl,h4,fun h=>(by cases h),fun _=>⟨bf,bt,bl,cl,ts,lf,vl,sp,rfl,h2,h3⟩⟩
   refine .z zm (.z zex (.z zex (.z zg (.zn zg (.seq (.aj (.z zm (.zn fZ (.cond rfl (fun hc25=>?_) (fun hc25=>?_))))))))))
   ·refine .aj (.z zg (.zn zg (.ret (rT (Fin.gL Tryz.results179 rfl rfl ?_)))))
    exact ⟨H2,_,_,hle1.trans hle2,rfl,.opn hc13 hsnd (hT (by simpa using hc25)).2,hs.tail,fun _=>rfl,fun h=>by cases h⟩
   ·refine .skip (nT (.aj (.z zm (.z zg (.zn zg (.ret (Fin.gL Tryz.results179 rfl rfl ?_)))))))
    obtain ⟨bf,bt,bl,cl,ts,lf,vl,sp,rfl,h2,h3⟩:=hF (by simpa using hc25)
    have hn0:0<s.n:=by simp [dp.n]
    have hn1:s.n≤65:=by have:=hok.m0;have:=hok.m1;simp only [dp.n];omega
    have hsz':bX ws s.n≤FF:=by unfold iP at hsz;rwa [hwl] at hsz
    exact ⟨H2,_,_,hle1.trans hle2,rfl,.ok hc13 hsnd (h3.value hn0 hn1 hok.dK hsz').2.1,hs.tail,fun h=>(h rfl).elim,fun _=>⟨bf,bt,bl,cl,ts,lf,vl,sp,rfl,h2,h3,hok,hsz'⟩⟩
theorem kT{bf bt bl cl:Nat}{s:dp}{ts lf ws:List Int}{vl:Value}{sp:List Value}(hs:St H w σ)(hok:s.Ok)(hF:xZ H bf s ts lf vl bt bl cl sp)(hFo:uC s.n s.dK (oW ws s.n) ts)(hsz:bX ws s.n≤FF):
  Cl Tryz.prog 263 [Pt bf] w fun v w'=>v=I (dot s.dK ts (·.c))∧zW s.dK (s.wt ws) s.n (dot s.dK ts (·.c))∧dot s.dK ts (·.c)≤BB∧-BB≤dot s.dK ts (·.c)∧St H w' σ:=by
 obtain ⟨hFf,hFl,hFt,hFd⟩:=hF
 obtain ⟨al,cpl,rfl⟩:=RL.shape hFl
 have hlim:=hok.len
 have hal:s.dK.length=s.dk.length:=by simp [dp.dK,fP]
 have hlt:=hFo.lt
 have hn0:0<s.n:=by simp [dp.n]
 have hn1:s.n≤65:=by have:=hok.m0;have:=hok.m1;simp only [dp.n];omega
 have hv:=hFo.value hn0 hn1 hok.dK hsz
 have hd:=ES (es:=s.dK) hlt
 have hf1:cellAt H bf 1=some (.slice al s.dk.length cpl):=hFf.at 1
 have hf2:cellAt H bf 2=some (.slice (some ⟨bt,0,none⟩) ts.length ts.length):=hFf.at 2
 refine Cl.o Tryz.func263 Tryz.ntmps263 ag1 ?_
 refine .aj (.zn zg (.aj (.zn zg (.seq (.aj (.z zm (.z znc (.z (zfa ig) (.z (zfa cN) (.y hs (zld dz) (.z (dc a8) (.zn zm (.for (N:=s.dk.length) (J:=fun k fr w=>fr=[(10,.slice al s.dk.length cpl),(3,I (IntKind.i64.wrap (C7 s.dK ts k))),(0,Pt bf)]∧St H w σ) an ?_ ?_ ?_)))))))))))))
 ·exact .mk ⟨rfl,hs⟩ (hs:= .cons rfl (.cons rfl (.cons rfl (.cJ rfl (by simp [C7,bj,qa]) (.cons rfl (.nil rfl rfl))))))
 ·rintro k fr w hk ⟨rfl,hs⟩
  obtain ⟨l,hl⟩:=nth hk
  have hg:(ga s.dK k).c=l.M:=by simp [ga,dp.dK,lW hl,Lim.arc]
  have hlm:=hok.lim l (List.mem_of_getElem? hl)
  have hkt:k<ts.length:=by omega
  have htb:=hFo.nn k an
  have hct:cellAt H bt k=some (I (gi ts k)):=hFt.at k (fC hkt)
  have hmul:gi ts k*l.M≤72000000000000000∧-72000000000000000≤gi ts k*l.M:=by
   simp only [FF] at htb
   have g1:gi ts k*l.M≤gi ts k*20000:=Int.mul_le_mul_of_nonneg_left hlm.2.2.2.1.2 htb.1
   have g2:gi ts k*(-20000)≤gi ts k*l.M:=Int.mul_le_mul_of_nonneg_left hlm.2.2.2.1.1 htb.1
   omega
  refine .block (.aj (.z zm (.ixX hs hFl rfl rfl a8 bJ hl rfl ?_)));intro b15 o15 hc15
  refine .q hs (cj (vs:=l.c) rfl gw bJ hc15) (.o (.alloc hs eL rfl fun b5 w hs=>?_))
  refine .z zg (.o (.aP (vs:=l.c) hs rfl rfl bJ fun w hs=>?_))
  refine .nil (.draw mix rfl hs fun w hs=>?_)
  refine .zw 0 rfl zm ?_;refine .z 1 rfl zm ?_;refine .z 2 rfl znc ?_;refine .z 3 rfl (zfa jb) ?_;refine .y 4 rfl hs aq ?_;refine .z 5 rfl zm ?_
  refine .zw 6 rfl (eF (k:=k) rfl rfl ae ai rfl hkt) (.r (i:=7) hs rfl aD .none (aJ rfl af hct) ?_)
  refine .zw 8 rfl (zfa gU) ?_;refine .y 9 rfl hs af ?_;refine .z 10 rfl kd ?_
  refine .zw 11 rfl (Ea rfl rfl) (.zw 12 rfl zg ?_);refine .D hs ?_
  refine nB (nT ?_)
  exact .mk ⟨rfl,hs.tail⟩ (hs:= .cons rfl (.cons rfl (.cons rfl (.cJ rfl (by rw [xb];simp only [C7,bj,hg]) (.cons rfl (.nil rfl rfl))))))
 ·rintro fr w ⟨rfl,hs⟩
  rw [←hal,←hd,mg (by have:=hv.2.2;simp only [BB] at this;omega)]
  refine nT (.aj (.z zm (.zn zg (.ret (Fin.bE Tryz.results263 rfl ?_)))))
  exact ⟨rfl,hv.1,hv.2.2.1,hv.2.2.2,hs⟩
theorem tV{vw:Value}{ws:List Int}(hs:St H w σ)(hrw:RI H vw ws)(hlw:ws.length≤1000000)(hb:∀k,-9223372036854775807≤gi ws k∧gi ws k≤9223372036854775807):
  Cl Tryz.prog 262 [vw] w fun v w'=>∃H1,HLe H H1∧RI H1 v (uX ws)∧St H1 w' σ:=by
 obtain ⟨aw,cw,rfl⟩:=RI.shape hrw
 refine Cl.o Tryz.func262 Tryz.ntmps262 ag1 ?_
 refine .aj (.zn zg (.aj (.z zm (.z (dc ae) (.o (.va ws.length hs rfl rfl ae fD rfl ai cB an fun b8 w hs=>?_))))))
 refine .zn zg (.seq (.aj (.z zm (.z (dc ae) (.zn zm (.for (N:=ws.length) (J:=fun k fr w=>fr=[(9,.slice aw ws.length cw),(3,.slice (some ⟨b8,0,none⟩) ws.length ws.length)]∧∃L,(L.length=ws.length∧∀v<ws.length,gi L v=if v<k then -gi ws v else 0)∧St H w (.blk b8 (Is L)::σ)) an ?_ ?_ ?_))))))
 ·exact .mk ⟨rfl,_,⟨cq,fun v hv=>by rw [eJ _ _ hv,if_neg an]⟩,hs⟩
 ·rintro k fr w hk ⟨rfl,L,⟨hL1,hL2⟩,hs⟩
  have hx:=bB hk
  have hbk:=hb k
  refine .block (.aj (.z zm ?_))
  first|(refine .ixv hs ae ai ?_;intro b14 o14 hc14)|refine .z (zix ae ai) ?_
  refine .y hs (zld af) (.z zg (.zn zg (.region (.z zm (.z zm (.z zm (.z BQ ?_)))))))
  first|(refine .ixv hs ae ai ?_;intro b20 o20 hc20)|refine .z (zix ae ai) ?_
  refine .o (.store hs rfl rfl ai fun w hs=>?_)
  refine .nil (nB (nT (.mk ⟨rfl,_,⟨by rw [List.length_set];exact hL1,fun v hv=>?_⟩,hs⟩)))
  rw [fb an]
  by_cases e:v=k
  ·subst e;rw [if_pos rfl,if_pos an]
  ·rw [if_neg e,hL2 v hv];congr 1;apply propext;omega
 ·rintro fr w ⟨rfl,L,⟨hL1,hL2⟩,hs⟩
  obtain rfl:L=uX ws:=xh (by simp [hL1,uX]) (fun k hk=>by rw [hL2 k an,if_pos an,EB])
  refine nT (.aj (.z zm (.zn zg (.ret (Fin.bE Tryz.results262 rfl ?_)))))
  obtain ⟨H1,g1,g2,hs⟩:=hs.di .here
  refine ⟨H1,g1,?_,hs⟩
  rw [←hL1]
  exact Row.RI (spare:=[]) (by simpa using g2) _ (Nat.le_refl _) an
theorem ve{v vw:Value}{s:dp}{ws:List Int}(hs:St H w σ)(hr:RSy H v s)(hrw:RI H vw ws):
  Cl Tryz.prog 219 [v,vw] w fun v w'=>∃H1 lo hi e,HLe H H1∧v= .tuple #[I lo,I hi,I e]∧iE s ws lo hi e∧St H1 w' σ:=by
 obtain ⟨vl,rfl,hr⟩:=hr
 refine Cl.o Tryz.func219 Tryz.ntmps219 ag2 ?_
 refine .aj (.bx hs fun b2 w hs=>?_)
 refine .z zg (.z zg (.zn zg (.aj (.y hs (zls [_,_] bq aI) (.z zm (.o (.call Tryz.call179 rfl (oz (s:=s) hs ⟨_,rfl,hr⟩ hrw) ?_)))))));rintro _ w ⟨H1,e,pf,hle1,rfl,hA,hs,hne,heq⟩
 refine .z zm (.z zex (.z zex (.z zg (.zn zg (.seq (.aj (.z zm (.zn gE (.dV rfl (fun hc16=>?_) (fun hc16=>?_))))))))))
 ·refine .aj (.z zm (.z zg (.z zg (.zn zg (.ret (rT (Fin.G5 Tryz.results219 rfl rfl rfl ?_)))))))
  exact ⟨H1,_,_,_,hle1,rfl,.first ⟨hA,fun _=>rfl,fun h=>(hc16 h).elim⟩ hc16,hs.tail⟩
 ·refine .skip (nT (.seq (.draw mix rfl hs fun w hs=>?_)))
  refine .ys 0 rfl hs [_,_] bq aI ?_;refine .z 1 rfl zm ?_
  refine .E 2 hs ?_
  subst hc16
  obtain ⟨bf,bt,bl,cl,ts,lf,vl',sp,rfl,hF,hFo,hok,hsz⟩:=heq rfl
  have hwl:=(mq hA.zero.1).2.1
  have hbw:∀k,-9223372036854775807≤gi ws k∧gi ws k≤9223372036854775807:=fun k=>by
   simp only [FF] at hsz
   by_cases hk:k<s.n
   ·have:=jF ws hk;omega
   ·have:gi ws k=0:=by simp [gi,List.getElem?_eq_none (show ws.length≤k by omega)]
    omega
  refine .call Tryz.call262 rfl (tV hs (hrw.mono hle1) (by have:=hok.m1;simp only [dp.n] at hwl;omega) hbw) ?_;rintro v21 w ⟨H2,hle2,hr21,hs⟩
  refine .go (.E 3 hs ?_)
  refine .call Tryz.call179 rfl (oz (s:=s) hs ⟨_,rfl,hr.mono (hle1.trans hle2)⟩ hr21) ?_;rintro _ w ⟨H3,e2,pg,hle3,rfl,hA2,hs,hne2,heq2⟩
  refine .go (.zw 4 rfl zm ?_);refine .z 5 rfl zex ?_;refine .z 6 rfl zex ?_;refine .z 7 rfl zg ?_;refine .z 8 rfl zg ?_;refine .D hs ?_
  refine .seq (.aj (.z zm (.zn gE (.dV rfl (fun hc26=>?_) (fun hc26=>?_)))))
  ·refine .aj (.z zm (.z zg (.z zg (.zn zg (.ret (rT (Fin.G5 Tryz.results219 rfl rfl rfl ?_)))))))
   obtain ⟨q1,q2,q3,q4⟩:=hFo.value (by simp [dp.n]) (by have:=hok.m0;have:=hok.m1;simp only [dp.n];omega) hok.dK hsz
   exact ⟨H3,_,_,_,hle1.trans (hle2.trans hle3),rfl,.second ⟨hA,fun h=>(h rfl).elim,fun _=>⟨q1,q3,q4⟩⟩ ⟨hA2,fun _=>rfl,fun h=>(hc26 h).elim⟩ hc26,hs.tail⟩
  ·refine .skip (nT (.aj (.z zm ?_)))
   subst hc26
   obtain ⟨bf2,bt2,bl2,cl2,ts2,lf2,vl2,sp2,rfl,hF2,hFo2,hok2,hsz2⟩:=heq2 rfl
   refine .o (.call Tryz.call263 rfl (kT hs hok hF2 hFo2 hsz2) ?_);rintro _ w ⟨rfl,a1,a2,a3,hs⟩
   simp only [BB] at a2 a3
   refine .z BQ (.z zm (.o (.call Tryz.call263 rfl (kT hs hok (hF.mono (hle2.trans hle3)) hFo hsz) ?_)));rintro _ w ⟨rfl,c1,c2,c3,hs⟩
   refine .z zg (.z zg (.zn zg (.ret (Fin.G5 Tryz.results219 rfl rfl rfl ?_))))
   exact ⟨H3,_,_,_,hle1.trans (hle2.trans hle3),rfl,.ok ⟨hA,fun h=>(h rfl).elim,fun _=>⟨c1,c2,c3⟩⟩ ⟨hA2,fun h=>(h rfl).elim,fun _=>⟨a1,by simp only [BB];omega,by simp only [BB];omega⟩⟩,hs.tail⟩
theorem FQ{n m:Int}(hm:0<m):(n.tmod m+m).tmod m=n%m:=by
 have h2:=Int.lt_tmod_of_pos n hm
 rw [Int.tmod_eq_emod_of_nonneg an,Int.tmod_def,show n - m*n.tdiv m+m=n+m*(1 - n.tdiv m) by rw [Int.mul_sub];omega,Int.add_mul_emod_self_left]
theorem wO{v:Value}{l:List Int}{i n:Int}(hs:St H w σ)(hr:RI H v l)(hi:0≤i)(hn:n≤4611686018427387904):Cl Tryz.prog 209 [v,I i,I n] w fun v w'=>v=I (r9 l i n)∧St H w' σ:=by
 obtain ⟨a,c,rfl⟩:=RI.shape hr
 have hlen:=(RI.len hr).2.2
 refine Cl.o Tryz.func209 Tryz.ntmps209 ag3 ?_
 refine .aj (.zn zg (.seq (.aj (.z zm (.z (dc ae) (.z fm (.z zm (.gX (t':=10) rfl (fun hb10=>?_) (fun hb10=>?_)))))))))
 ·refine .Fs 2 3 false (.zn zpT (.cT (.aj (.zn zg (.ret (rT (Fin.bE Tryz.results209 rfl ?_)))))))
  exact ⟨by rw [show r9 l i n=0 by unfold r9;rw [if_pos (.inl (List.length_eq_zero_iff.1 an))]],hs⟩
 ·refine .T (.z zm (.T (.z fM (.zn zpF (.bA rfl (fun hc13=>?_) (fun hc13=>?_))))))
  ·refine .aj (.zn zg (.ret (rT (Fin.bE Tryz.results209 rfl ?_))))
   exact ⟨by rw [show r9 l i n=0 by unfold r9;rw [if_pos (.inr an)]],hs⟩
  ·refine .skip (nT (.aj (.z zm (.z zm (.z zm (.z (dc ae) ?_))))))
   have hl0:0<l.length:=by omega
   have h1:=Int.tmod_nonneg (a:=i) (l.length:Int) hi
   have h2:=Int.tmod_lt_of_pos i (b:=(l.length:Int)) an
   have hx:=bB (l:=l) (i:=(i.tmod (l.length:Int)).toNat) an
   have h3:=Int.tmod_lt_of_pos (gi l (i.tmod (l.length:Int)).toNat) (b:=n) an
   have h4:=Int.lt_tmod_of_pos (gi l (i.tmod (l.length:Int)).toNat) (b:=n) an
   have e:=FQ (n:=gi l (i.tmod (l.length:Int)).toNat) (m:=n) an
   refine .z A4 (.ixY hs hr rfl rfl ae ai hx an ?_);intro b19 o19 hc19
   refine .q hs (aJ rfl af hc19) (.z zm (.z A4 (.z zm (.z cK (.z zm (.z A4 (.zn zg (.ret (Fin.bE Tryz.results209 rfl ?_)))))))))
   exact ⟨by unfold r9;rw [if_neg (fun h=>h.elim (fun h=>by rw [h] at hl0;exact Nat.lt_irrefl _ hl0) (fun h=>by omega)),←e],hs⟩
def yR(i j:Nat):Int:=if i=j then 0 else free
theorem Ho{n:Nat}(es:List Arc){T:Nat→Nat→Int}(h:∀i j,i<n→j<n→T i j=yR i j):Il n es 0 T:=
 ⟨fun i hi=>by rw [h i i hi hi];simp [yR],fun _ _ h=>by omega,fun i j hi hj hij=> .inl (by rw [h i j hi hj];simp [yR,hij])⟩
set_option maxHeartbeats 4000000 in
theorem po{v:Value}{s:dp}(hs:St H w σ)(hr:RSy H v s)(hok:s.Ok):
  Cl Tryz.prog 207 [v] w fun u w'=>∃H1 rs,HLe H H1∧RT H1 u rs∧Sq s.n rs∧jP s.n s.dK (gt rs)∧St H1 w' σ:=by
 obtain ⟨ul,rfl,hl⟩:=hr
 obtain ⟨al,cl,rfl⟩:=RL.shape hl
 have hm0:=hok.m0
 have hm1:=hok.m1
 have hlen:=hok.len
 have hnp:=s.CY
 have hn65:=hok.n65
 have hinn:=hok.inn
 have hmn:s.many+1=(s.n:Int):=by simp only [dp.n];omega
 generalize hn:s.n=n at hnp hn65 hinn hmn ⊢
 refine Cl.o Tryz.func207 Tryz.ntmps207 ag1 ?_
 refine .aj (.bx hs fun b1 w hs=>?_)
 refine .zn zg (.aj (.z (zfa cE) ?_))
 first|refine .q hs (eg rfl af (hm:=by repeat (first|exact .here|assumption|exact Mem.row an an|refine .there ?_|refine Mem.kl ?_)) (hv:=by first|rfl|exact dt an|exact gR df an an|exact fC fO)) ?_|refine .q hs (aJ rfl af df) ?_
 refine .z cK ?_
 rw [hmn]
 refine .zn zg (.aj (.z zm (.o (.HM n hs rfl rfl az Tryz.typeInfo34 rfl aA ee an fun b16 w hs=>?_))))
 refine .zn zg (.seq (.aj (.z zm (.z (dc az) (.zn zm (.for (N:=n) (J:=fun k fr w=>fr=[(3,I (n:Int)),(4,.slice (some ⟨b16,0,none⟩) n n),(1,Pt b1)]∧∃bs:List Nat,bs.length=k∧St H w (.blk b16 (bs.map (ptr n)++List.replicate (n - k) (.slice none 0 0))::(jU bs (Ba yR n k)++(.blk b1 [I s.many,.slice al s.dk.length cl]::σ)))) an ?_ ?_ ?_))))))
 ·exact .mk ⟨rfl,[],rfl,hs⟩
 ·rintro k fr w hk ⟨rfl,bs,hbl,hs⟩
  refine .block (.aj (.z zm (.zn zg (.aj (.z zm (.z zm (.z zm (.o (.va n hs rfl rfl ae fD rfl ai cB an fun b25 w hs=>?_)))))))))
  first|(refine .ixw hs az aA ?_;intro b26 o26 hc26)|refine .z (zix az aA) ?_
  refine .o (.store hs rfl rfl aA ?_ dn (by simp [hbl];omega) (Eb hbl hk));intro w hs
  refine .nil (.aj (.z zm (.z zm ?_)))
  first|(refine .ixw hs az aA ?_;intro b29 o29 hc29)|refine .z (zix az aA) ?_
  refine .q hs (eg rfl aq (hv:=B5 hbl)) (.z (dc ae) (.zn zm (.for (N:=n) (J:=fun j fr w=>fr=[(5,I (k:Int)),(19,I (k:Int)),(18,I (n:Int)),(3,I (n:Int)),(4,.slice (some ⟨b16,0,none⟩) n n),(1,Pt b1)]∧St H w (.blk b25 (Is ((List.range n).map fun c=>if c<j∧k≠c then free else 0)):: .blk b16 ((bs++[b25]).map (ptr n)++List.replicate (n - (k+1)) (.slice none 0 0))::(jU bs (Ba yR n k)++(.blk b1 [I s.many,.slice al s.dk.length cl]::σ)))) an ?_ ?_ ?_)))
  ·rw [wQ (fun c=>if c<0∧k≠c then free else 0) n 0 (fun j _=>by simp)] at hs
   exact .mk ⟨rfl,hs⟩
  ·rintro j fr w hj ⟨rfl,hs⟩
   refine .block (.aj (.z zm (.zn zg (.aj (.z zm (.z zm (.zn gE (.dV rfl (fun hc37=>?_) (fun hc37=>?_)))))))))
   ·refine .region (.z zm (.z zm ?_))
    first|(refine .ixw hs az aA ?_;intro b40 o40 hc40)|refine .z (zix az aA) ?_
    refine .q hs (eg rfl aq (hv:=B5 hbl)) (.z zm ?_)
    first|(refine .ixv hs ae ai ?_;intro b43 o43 hc43)|refine .z (zix ae ai) ?_
    refine .o (.store hs rfl rfl ai ?_ dn (xl (by simp;omega)) (s5 _ _ _));intro w hs
    refine .nil (nB (nT ?_))
    rw [DY _ (fun c=>if c<j+1∧k≠c then free else 0) hj 1000000000 (fun c _=>by
     by_cases e:c=j
     ·subst e;rw [if_pos rfl,if_pos ⟨an,an⟩]
     ·rw [if_neg e];congr 1;apply propext;omega)] at hs
    exact .mk ⟨rfl,hs⟩
   ·refine .skip (nB (nT ?_))
    rw [wR (g:=fun c=>if c<j+1∧k≠c then free else 0) (fun c _=>by
     by_cases e:c=j
     ·subst e;rw [if_neg an,if_neg an]
     ·congr 1;apply propext;omega)] at hs
    exact .mk ⟨rfl,hs⟩
  ·rintro fr w ⟨rfl,hs⟩
   rw [wR (g:=yR k) (fun c hc=>by
    unfold yR
    by_cases e:k=c
    ·rw [if_neg an,if_pos e]
    ·rw [if_pos ⟨hc,e⟩,if_neg e])] at hs
   replace hs:=hs.IQ (by rw [hbl,wk])
   rw [←Aa] at hs
   refine nB (nT ?_)
   exact .mk ⟨rfl,bs++[b25],by simp [hbl],hs⟩
 ·rintro fr w ⟨rfl,bs,hbl,hs⟩
  rw [Nat.sub_self,List.replicate_zero,List.append_nil] at hs
  refine nT (.seq (.aj (.z (zfa cN) ?_)))
  first|refine .q hs (eg rfl dz (hm:=by repeat (first|exact .here|assumption|exact Mem.row an an|refine .there ?_|refine Mem.kl ?_)) (hv:=by first|rfl|exact dt an|exact gR df an an|exact fC fO)) ?_|refine .q hs (aJ rfl dz df) ?_
  refine .z (dc a8) (.zn zm (.for (N:=s.dk.length) (J:=fun k fr w=>fr=[(47,.slice al s.dk.length cl),(4,.slice (some ⟨b16,0,none⟩) n n)]∧∃rs,Sq n rs∧Il n s.dK k (gt rs)∧St H w (.blk b16 (bs.map (ptr n))::(jU bs rs++(.blk b1 [I s.many,.slice al s.dk.length cl]::σ)))) an ?_ ?_ ?_))
  ·exact .mk ⟨rfl,_,DG yR n,Ho s.dK (fun i j hi hj=>A9 yR hi hj),hs⟩
  ·rintro k fr w hk ⟨rfl,rs,hq,hB,hs⟩
   obtain ⟨x,hx⟩:=nth (l:=s.dk) hk
   have hrl:=hq.1
   obtain ⟨⟨xa0,xa1⟩,⟨xb0,xb1⟩,xne,xM,-⟩:=hok.lim x (List.mem_of_getElem? hx)
   have ha:x.A.toNat<n:=by omega
   have hb:x.B.toNat<n:=by omega
   have hga:=lW hx
   refine .block (.aj (.ixX (enc:=Lim.c) hs hl rfl rfl a8 bJ hx rfl ?_));intro b51 o51 hc51
   refine .q hs (cj (vs:=x.c) rfl gw bJ hc51) (.o (.alloc hs eL rfl fun b8 w hs=>?_))
   refine .o (.aP (vs:=x.c) hs rfl rfl bJ fun w hs=>?_)
   refine .nil (.draw mix rfl hs fun w hs=>?_)
   refine .zw 0 rfl zm ?_;refine .z 1 rfl (zfa eN) ?_
   first|refine .load (i:=2) hs rfl aD .none rfl af ?_ (by repeat (first|exact .here|assumption|exact Mem.row an an|refine .there ?_|refine Mem.kl ?_)) (by first|rfl|exact dt an|exact gR df an an|exact fC fO)|refine .r (i:=2) hs rfl aD .none (aJ rfl af df) ?_
   refine .zw 3 rfl (eF (k:=x.A.toNat) rfl rfl az aA an ha) ?_
   first|refine .load (i:=4) hs rfl aD .none rfl aq ?_ (by repeat (first|exact .here|assumption|exact Mem.row an an|refine .there ?_|refine Mem.kl ?_)) (by first|rfl|exact dt an|exact gR df an an|exact fC fO)|refine .r (i:=4) hs rfl aD .none (aJ rfl aq df) ?_
   refine .zw 5 rfl (zfa fi) ?_
   first|refine .load (i:=6) hs rfl aD .none rfl af ?_ (by repeat (first|exact .here|assumption|exact Mem.row an an|refine .there ?_|refine Mem.kl ?_)) (by first|rfl|exact dt an|exact gR df an an|exact fC fO)|refine .r (i:=6) hs rfl aD .none (aJ rfl af df) ?_
   refine .zw 7 rfl zm ?_;refine .z 8 rfl (zfa eN) ?_
   first|refine .load (i:=9) hs rfl aD .none rfl af ?_ (by repeat (first|exact .here|assumption|exact Mem.row an an|refine .there ?_|refine Mem.kl ?_)) (by first|rfl|exact dt an|exact gR df an an|exact fC fO)|refine .r (i:=9) hs rfl aD .none (aJ rfl af df) ?_
   refine .zw 10 rfl (eF (k:=x.A.toNat) rfl rfl az aA an ha) ?_
   first|refine .load (i:=11) hs rfl aD .none rfl aq ?_ (by repeat (first|exact .here|assumption|exact Mem.row an an|refine .there ?_|refine Mem.kl ?_)) (by first|rfl|exact dt an|exact gR df an an|exact fC fO)|refine .r (i:=11) hs rfl aD .none (aJ rfl aq df) ?_
   refine .zw 12 rfl (zfa fi) ?_
   first|refine .load (i:=13) hs rfl aD .none rfl af ?_ (by repeat (first|exact .here|assumption|exact Mem.row an an|refine .there ?_|refine Mem.kl ?_)) (by first|rfl|exact dt an|exact gR df an an|exact fC fO)|refine .r (i:=13) hs rfl aD .none (aJ rfl af df) ?_
   refine .zw 14 rfl (eF (k:=x.B.toNat) rfl rfl ae ai an hb) ?_
   first|refine .load (i:=15) hs rfl aD .none rfl af ?_ (by repeat (first|exact .here|assumption|exact Mem.row an an|refine .there ?_|refine Mem.kl ?_)) (by first|rfl|exact dt an|exact gR df an an|exact fC fO)|refine .r (i:=15) hs rfl aD .none (aJ rfl af df) ?_
   refine .zw 16 rfl (zfa gU) ?_
   first|refine .load (i:=17) hs rfl aD .none rfl af ?_ (by repeat (first|exact .here|assumption|exact Mem.row an an|refine .there ?_|refine Mem.kl ?_)) (by first|rfl|exact dt an|exact gR df an an|exact fC fO)|refine .r (i:=17) hs rfl aD .none (aJ rfl af df) ?_
   refine .zw 18 rfl zR (.zw 19 rfl (eF (k:=x.B.toNat) rfl rfl ae ai an hb) (.ET 20 hs ?_))
   refine .store hs rfl rfl ai ?_ (.there (.there (Upd.row _ an an))) (xl (by rw [hq.2 _ ha];exact hb)) (s5 _ _ _);intro w hs
   refine .go (.DT hs (nB (nT ?_)))
   exact .mk ⟨rfl,_,hq.set ha _,by rw [Ch hq ha hb];exact hB.step hinn hga,hs.tail⟩
  ·rintro fr w ⟨rfl,rs,hq,hB,hs⟩
   rw [←fP] at hB
   have hI:=hB.go hinn hnp
   have hcb:∀x∈s.dK,-20000≤x.c∧x.c≤20000:=fun x hx=>by have:=hinn x hx;omega
   refine nT (.seq (.aj (.z zm (.z (dc az) (.zn zm (.for (N:=n) (J:=fun m fr w=>fr=[(4,.slice (some ⟨b16,0,none⟩) n n)]∧∃rs,Sq n rs∧(m<n→zU n s.dK m (fun _ _=>False) (gt rs))∧(m=n→jP n s.dK (gt rs))∧St H w (.blk b16 (bs.map (ptr n))::(jU bs rs++(.blk b1 [I s.many,.slice al s.dk.length cl]::σ)))) an ?_ ?_ ?_))))))
   ·exact .mk ⟨rfl,rs,hq,fun _=>hI,fun e=>by omega,hs⟩
   ·clear hI hB hq
    rintro m fr w hm ⟨rfl,rs,hq,hI,-,hs⟩
    replace hI:=hI hm
    refine .block (.aj (.z zm (.zn zg (.aj (.z zm (.z (dc az) (.zn zm (.for (N:=n) (J:=fun i fr w=>fr=[(9,I (m:Int)),(76,I (m:Int)),(75,I (n:Int)),(4,.slice (some ⟨b16,0,none⟩) n n)]∧∃rs,Sq n rs∧zU n s.dK m (fun a _=>a<i) (gt rs)∧St H w (.blk b16 (bs.map (ptr n))::(jU bs rs++(.blk b1 [I s.many,.slice al s.dk.length cl]::σ)))) an ?_ ?_ ?_))))))))
    ·exact .mk ⟨rfl,rs,hq,hI.skip hcb hm (P:=fun _ _=>False) (fun i j h=>by omega) (fun _ _ _ _ h=>h.elim),hs⟩
    ·clear hI hq
     rintro i fr w hi ⟨rfl,rs,hq,hI,hs⟩
     refine .block (.aj (.z zm (.zn zg (.aj (.z zm (.z (dc az) (.zn zm (.for (N:=n) (J:=fun k fr w=>fr=[(10,I (i:Int)),(81,I (i:Int)),(80,I (n:Int)),(9,I (m:Int)),(76,I (m:Int)),(75,I (n:Int)),(4,.slice (some ⟨b16,0,none⟩) n n)]∧∃rs,Sq n rs∧zU n s.dK m (fun a b=>a<i∨(a=i∧b<k)) (gt rs)∧St H w (.blk b16 (bs.map (ptr n))::(jU bs rs++(.blk b1 [I s.many,.slice al s.dk.length cl]::σ)))) an ?_ ?_ ?_))))))))
     ·exact .mk ⟨rfl,rs,hq,hI.skip hcb hm (P:=fun _ _=>False) (fun a b h=>by omega) (fun _ _ _ _ h=>h.elim),hs⟩
     ·clear hI hq
      rintro k fr w hk ⟨rfl,rs,hq,hI,hs⟩
      have hrl:=hq.1
      have c1:=hI.cl i m hi hm;have c2:=hI.cl m k hm hk
      have u1:=hI.up i m hi hm;have u2:=hI.up m k hm hk
      refine .block (.aj (.z zm (.zn zg (.aj (.z zm (.z zm ?_))))))
      first|(refine .ixw hs az aA ?_;intro b91 o91 hc91)|refine .z (zix az aA) ?_
      first|refine .q hs (eg rfl aq (hm:=by repeat (first|exact .here|assumption|exact Mem.row an an|refine .there ?_|refine Mem.kl ?_)) (hv:=by first|rfl|exact dt an|exact gR df an an|exact fC fO)) ?_|refine .q hs (aJ rfl aq df) ?_
      refine .z zm ?_
      first|(refine .ixv hs ae ai ?_;intro b94 o94 hc94)|refine .z (zix ae ai) ?_
      first|refine .q hs (eg rfl af (hm:=by repeat (first|exact .here|assumption|exact Mem.row an an|refine .there ?_|refine Mem.kl ?_)) (hv:=by first|rfl|exact dt an|exact gR df an an|exact fC fO)) ?_|refine .q hs (aJ rfl af df) ?_
      refine .z gE (.z zm (.AS (t':=97) rfl (fun hb97=>?_) (fun hb97=>?_)))
      ·refine .T (.z zm (.T (.z zm (.T ?_))))
       first|(refine .ixw hs az aA ?_;intro b100 o100 hc100)|refine .z (zix az aA) ?_
       refine .T ?_
       first|refine .q hs (eg rfl aq (hm:=by repeat (first|exact .here|assumption|exact Mem.row an an|refine .there ?_|refine Mem.kl ?_)) (hv:=by first|rfl|exact dt an|exact gR df an an|exact fC fO)) ?_|refine .q hs (aJ rfl aq df) ?_
       refine .T (.z zm (.T ?_))
       first|(refine .ixv hs ae ai ?_;intro b103 o103 hc103)|refine .z (zix ae ai) ?_
       refine .T ?_
       first|refine .q hs (eg rfl af (hm:=by repeat (first|exact .here|assumption|exact Mem.row an an|refine .there ?_|refine Mem.kl ?_)) (hv:=by first|rfl|exact dt an|exact gR df an an|exact fC fO)) ?_|refine .q hs (aJ rfl af df) ?_
       refine .T (.z gE (.zn zpT (.dV rfl (fun hc106=>?_) (fun hc106=>?_))))
       ·refine .draw mix rfl hs fun w hs=>?_
        replace u1:=u1 hb97;replace u2:=u2 hc106
        refine .zw 0 rfl zm ?_;refine .z 1 rfl zm ?_
        first|(refine .ixw 2 rfl hs az aA ?_;intro b109 o109 hc109)|refine .z 2 rfl (zix az aA) ?_
        first|refine .load (i:=3) hs rfl aD .none rfl aq ?_ (by repeat (first|exact .here|assumption|exact Mem.row an an|refine .there ?_|refine Mem.kl ?_)) (by first|rfl|exact dt an|exact gR df an an|exact fC fO)|refine .r (i:=3) hs rfl aD .none (aJ rfl aq df) ?_
        refine .zw 4 rfl zm ?_;refine .z 5 rfl zm ?_;refine .z 6 rfl zm ?_
        first|(refine .ixw 7 rfl hs az aA ?_;intro b114 o114 hc114)|refine .z 7 rfl (zix az aA) ?_
        first|refine .load (i:=8) hs rfl aD .none rfl aq ?_ (by repeat (first|exact .here|assumption|exact Mem.row an an|refine .there ?_|refine Mem.kl ?_)) (by first|rfl|exact dt an|exact gR df an an|exact fC fO)|refine .r (i:=8) hs rfl aD .none (aJ rfl aq df) ?_
        refine .zw 9 rfl zm ?_
        first|(refine .ixv 10 rfl hs ae ai ?_;intro b117 o117 hc117)|refine .z 10 rfl (zix ae ai) ?_
        first|refine .load (i:=11) hs rfl aD .none rfl af ?_ (by repeat (first|exact .here|assumption|exact Mem.row an an|refine .there ?_|refine Mem.kl ?_)) (by first|rfl|exact dt an|exact gR df an an|exact fC fO)|refine .r (i:=11) hs rfl aD .none (aJ rfl af df) ?_
        refine .zw 12 rfl zm ?_;refine .z 13 rfl zm ?_
        first|(refine .ixw 14 rfl hs az aA ?_;intro b121 o121 hc121)|refine .z 14 rfl (zix az aA) ?_
        first|refine .load (i:=15) hs rfl aD .none rfl aq ?_ (by repeat (first|exact .here|assumption|exact Mem.row an an|refine .there ?_|refine Mem.kl ?_)) (by first|rfl|exact dt an|exact gR df an an|exact fC fO)|refine .r (i:=15) hs rfl aD .none (aJ rfl aq df) ?_
        refine .zw 16 rfl zm ?_
        first|(refine .ixv 17 rfl hs ae ai ?_;intro b124 o124 hc124)|refine .z 17 rfl (zix ae ai) ?_
        first|refine .load (i:=18) hs rfl aD .none rfl af ?_ (by repeat (first|exact .here|assumption|exact Mem.row an an|refine .there ?_|refine Mem.kl ?_)) (by first|rfl|exact dt an|exact gR df an an|exact fC fO)|refine .r (i:=18) hs rfl aD .none (aJ rfl af df) ?_
        refine .zw 19 rfl zm ?_;refine .z 20 rfl zm ?_
        first|(refine .ixw 21 rfl hs az aA ?_;intro b128 o128 hc128)|refine .z 21 rfl (zix az aA) ?_
        first|refine .load (i:=22) hs rfl aD .none rfl aq ?_ (by repeat (first|exact .here|assumption|exact Mem.row an an|refine .there ?_|refine Mem.kl ?_)) (by first|rfl|exact dt an|exact gR df an an|exact fC fO)|refine .r (i:=22) hs rfl aD .none (aJ rfl aq df) ?_
        refine .zw 23 rfl zm ?_
        first|(refine .ixv 24 rfl hs ae ai ?_;intro b131 o131 hc131)|refine .z 24 rfl (zix ae ai) ?_
        first|refine .load (i:=25) hs rfl aD .none rfl af ?_ (by repeat (first|exact .here|assumption|exact Mem.row an an|refine .there ?_|refine Mem.kl ?_)) (by first|rfl|exact dt an|exact gR df an an|exact fC fO)|refine .r (i:=25) hs rfl aD .none (aJ rfl af df) ?_
        refine .zw 26 rfl cK ?_;refine .z 27 rfl zR ?_;refine .z 28 rfl A5 ?_
        first|(refine .ixv 29 rfl hs ae ai ?_;intro b136 o136 hc136)|refine .z 29 rfl (zix ae ai) ?_
        refine .ET 30 hs ?_
        refine .store hs rfl rfl ai ?_ (.there (Upd.row _ an an)) (xl (by rw [hq.2 _ hi];exact hk)) (s5 _ _ _);intro w hs
        refine .go (.DT hs (nB (nT ?_)))
        exact .mk ⟨rfl,_,hq.set hi _,by rw [Ch hq hi hk];exact hI.step hcb hm hi hk (fun a b h=>by omega) hb97 hc106,hs⟩
       ·refine .skip (nB (nT ?_))
        exact .mk ⟨rfl,rs,hq,hI.skip hcb hm (P:=fun a b=>a=i∧b=k) (fun a b h=>by omega) (fun a b _ _ h=>by obtain ⟨rfl,rfl⟩:=h;exact .inr hc106),hs⟩
      ·refine .Fs 8 8 true (.zn zpF (.cF (.skip (nB (nT ?_)))))
       exact .mk ⟨rfl,rs,hq,hI.skip hcb hm (P:=fun a b=>a=i∧b=k) (fun a b h=>by omega) (fun a b _ _ h=>by obtain ⟨rfl,rfl⟩:=h;exact .inl hb97),hs⟩
     ·rintro fr w ⟨rfl,rs,hq,hI,hs⟩
      refine nB (nT ?_)
      exact .mk ⟨rfl,rs,hq,hI.skip hcb hm (P:=fun a b=>a=i∧n≤b) (fun a b h=>by omega) (fun a b _ hb h=>by omega),hs⟩
    ·rintro fr w ⟨rfl,rs,hq,hI,hs⟩
     replace hI:zU n s.dK m (fun _ _=>True) (gt rs):=hI.skip hcb hm (P:=fun a _=>n≤a) (fun a b h=>by omega) (fun a b ha _ h=>by omega)
     refine nB (nT ?_)
     exact .mk ⟨rfl,rs,hq,fun h=>hI.next hcb h hn65,fun h=>hI.done hcb h.symm hn65,hs⟩
   ·rintro fr w ⟨rfl,rs,hq,-,hT,hs⟩
    replace hT:=hT rfl
    refine nT (.aj (.z zm (.zn zg (.ret (Fin.bE Tryz.results207 rfl ?_)))))
    obtain ⟨H1,g1,g2,hs⟩:=yY hq hbl an hs
    exact ⟨H1,rs,g1,g2,hq,hT,hs.tail⟩
theorem od{vm:Value}{rs:List (List Int)}{n:Nat}(hs:St H w σ)(hM:RT H vm rs)(hq:Sq n rs)(hn:n≤1000):
  Cl Tryz.prog 208 [vm] w fun v w'=>∃b,v= .bool b∧(b=true↔∀i,i<n→¬gt rs i i<0)∧St H w' σ:=by
 obtain ⟨a,c,rfl⟩:=hM.shape
 have hrl:=hq.1
 refine Cl.o Tryz.func208 Tryz.ntmps208 ag1 ?_
 refine .aj (.zn zg (.seq (.aj (.z zm (.z (dc az) (.zn zm (.for (N:=rs.length) (J:=fun k fr w=>fr=[(0,.slice a rs.length c)]∧(∀i,i<k→¬gt rs i i<0)∧St H w σ) an ?_ ?_ ?_)))))))
 ·exact .mk ⟨rfl,fun i h=>by omega,hs⟩
 ·rintro k fr w hk ⟨rfl,h0,hs⟩
  refine .block (.aj (.z zm (.zn zg (.aj (.z zm (.z zm (.ixT hs hM rfl rfl az aA hk rfl ?_)))))));intro b11 o11 a11 c11 hc11 hR11
  refine .q hs (aJ rfl aq hc11) (.z zm (.ixY hs hR11 rfl rfl ae ai (bB (l:=gr rs k) (i:=k) (by rw [hq.2 k an];omega)) rfl ?_));intro b14 o14 hc14
  refine .q hs (aJ rfl af hc14) (.zn fM (.bA rfl (fun hc16=>?_) (fun hc16=>?_)))
  ·refine .aj (.zn zg (.ret (rB (rT (rB (rT (Fin.bE Tryz.results208 rfl ?_)))))))
   exact ⟨false,rfl,⟨fun h=>(by cases h),fun h=>(h k an hc16).elim⟩,hs⟩
  ·refine .skip (nB (nT ?_))
   exact .mk ⟨rfl,fun i hi=>by
    by_cases e:i=k
    ·subst e;exact hc16
    ·exact h0 i an,hs⟩
 ·rintro fr w ⟨rfl,h0,hs⟩
  refine nT (.aj (.zn zg (.ret (Fin.bE Tryz.results208 rfl ?_))))
  exact ⟨true,rfl,⟨fun _ i hi=>h0 i an,fun _=>rfl⟩,hs⟩
theorem rX{v:Value}{ws:List Int}{n:Nat}(hs:St H w σ)(hr:RI H v ws)(hl:ws.length=n+1)(hn:n≤1000)(hz:bX ws (n+1)≤FF):
  Cl Tryz.prog 307 [v] w fun u w'=>∃b cap sp lf,u= .slice (some ⟨b,0,none⟩) (n+1) cap∧lf.length=n+1∧(∀v<n+1,gi lf v=oW ws (n+1) v)∧St H w' (.blk b (Is lf++sp)::σ):=by
 obtain ⟨a,c,rfl⟩:=RI.shape hr
 have hFF:FF=3600000000000:=rfl
 refine Cl.o Tryz.func307 Tryz.ntmps307 ag1 ?_
 refine .aj (.zn zg (.aj (.o (.buildSlice (cells:=[]) hs pQ rfl rfl fun b6 w hs=>?_))))
 refine .z zm (.o (.append (xs:=[]) hs cM rfl rfl (.full (len:=0) rfl) (.ints hr) (iL ws) (fun l' h=>by simp at h;obtain rfl:l'=0:=an;omega) ?_));intro v8 en8 w hO hs
 rw [List.nil_append] at hO
 rcases hO with ⟨_,_,h0,_⟩|⟨b8,l8,c8,sp,rfl,rfl,h5,h6,h7⟩
 ·exfalso
  have h1:ws.length=0:=by simpa using congrArg List.length h0
  omega
 obtain rfl:l8=n+1:=by simp at h5;omega
 refine .zn zg (.aj (.z zm (.q hs (eF (k:=0) rfl rfl ae ai rfl an) (.o (.store hs rfl rfl ai ?_ dn (by simp;omega) (BX an 0 sp))))));intro w hs
 refine .nil (.seq (.aj (.z zm (.q hs (Ag (k:=1) rfl rfl ae ai rfl an) ?_))))
 have hT:=RI.tail hr (k:=1) an
 have hTl:(ws.drop 1).length=n:=by rw [List.length_drop];omega
 refine .z (dc ae) (.zn zm (.for (N:=n) (J:=fun k fr w=>fr=[(12,.slice (if c=1 then a else a.map (·.add (1*1))) (ws.length - 1) (c - 1)),(3,.slice (some ⟨b8,0,none⟩) (n+1) c8)]∧∃lf,(lf.length=n+1∧gi lf 0= -lE ws k∧∀v,0<v→gi lf v=gi ws v)∧St H w (.blk b8 (Is lf++sp)::σ)) an ?_ ?_ ?_))
 ·exact .mk ⟨rfl,_,⟨by simp [hl],by rw [fb an,if_pos rfl];rfl,fun v hv=>by rw [fb an,if_neg an]⟩,hs⟩ (hs:= .cJ rfl rfl (.cJ rfl an aU))
 ·rintro k fr w hk ⟨rfl,lf,⟨h8,h9,h10⟩,hs⟩
  have hx:=bB (l:=ws.drop 1) (i:=k) an
  have e1:gi (ws.drop 1) k=gi ws (k+1):=by simp [gi,List.getD]
  have hb1:=tq ws k
  have hb2:=jF ws (v:=k+1) (n:=n+1) an
  have hb3:=pW (f:=fun v=>max (gi ws v) (-gi ws v)) (fun v=>by omega) (k:=k+1) (n:=n+1) an
  change bX ws (k+1)≤bX ws (n+1) at hb3
  refine .block (.aj (.ixY hs hT rfl rfl ae ai hx rfl ?_));intro b16 o16 hc16
  refine .q hs (aJ rfl af hc16) ?_
  rw [e1]
  refine .zn zg (.region (.z zm (.q hs (eF (k:=0) rfl rfl ae ai rfl an) (.q hs (eg rfl af (hv:=pU (bB (l:=lf) (i:=0) an) sp)) ?_))))
  refine .z zm (.z fY (.q hs (eF (k:=0) rfl rfl ae ai rfl an) (.o (.store hs rfl rfl ai ?_ dn (by simp;omega) (BX an _ sp)))));intro w hs
  refine .nil (nB (nT ?_))
  exact .mk ⟨rfl,_,⟨by simp [h8],by rw [fb an,if_pos rfl,h9];simp only [lE,bj];omega,fun v hv=>by rw [fb an,if_neg an];exact h10 v hv⟩,hs⟩
 ·rintro fr w ⟨rfl,lf,⟨h8,h9,h10⟩,hs⟩
  refine nT (.aj (.z zm (.zn zg (.ret (Fin.bE Tryz.results307 rfl ?_)))))
  exact ⟨b8,c8,sp,lf,rfl,h8,fun v hv=>by
   cases v with
   |zero=>rw [h9,yO]
   |succ v=>rw [h10 _ an,yP],hs⟩
theorem wM{vm:Value}{Ms Fs:List (List Int)}{n bF:Nat}{bs:List Nat}(hs:St H w σ)(hM:RT H vm Ms)(hqM:Sq n Ms)(hn:n≤1000)(hF0:Mem σ (.blk bF (bs.map (ptr n))))(hbl:bs.length=n)(hqF:Sq n Fs)(hF:∀i,i<n→Mem σ (.blk (gb bs i) (Is (gr Fs i)))):
  Cl Tryz.prog 309 [vm,.slice (some ⟨bF,0,none⟩) n n] w fun v w'=>v=I (IntKind.i64.wrap (bj (fun a=>bj (fun b=>cell (gt Ms) (gt Fs) a b) n) n))∧St H w' σ:=by
 obtain ⟨am,cm,rfl⟩:=hM.shape
 have hml:=hqM.1
 have hfl:=hqF.1
 refine Cl.o Tryz.func309 Tryz.ntmps309 ag2 ?_
 refine .aj (.zn zg (.aj (.zn zg (.seq (.aj (.z zm (.z (dc az) (.zn zm (.for (N:=n) (J:=fun k fr w=>fr=[(5,I (IntKind.i64.wrap (bj (fun a=>bj (fun b=>cell (gt Ms) (gt Fs) a b) n) k))),(0,.slice am Ms.length cm),(1,.slice (some ⟨bF,0,none⟩) n n)]∧St H w σ) an ?_ ?_ ?_)))))))))
 ·exact .mk ⟨rfl,hs⟩ (hs:= .cJ rfl rfl (.cJ rfl an (.cJ rfl (by simp [bj,qa]) aU)))
 ·rintro i fr w hi ⟨rfl,hs⟩
  have hMi:i<Ms.length:=by omega
  refine .block (.aj (.z zm (.zn zg (.aj (.z zm (.z (dc az) (.zn zm (.for (N:=n) (J:=fun k fr w=>fr=[(5,I (IntKind.i64.wrap (bj (fun a=>bj (fun b=>cell (gt Ms) (gt Fs) a b) n) i+bj (fun b=>cell (gt Ms) (gt Fs) i b) k))),(6,I (i:Int)),(10,I (i:Int)),(9,I (n:Int)),(0,.slice am Ms.length cm),(1,.slice (some ⟨bF,0,none⟩) n n)]∧St H w σ) an ?_ ?_ ?_))))))))
  ·exact .mk ⟨rfl,hs⟩ (hs:= .cJ rfl rfl (.cJ rfl an (.cJ rfl (by simp [bj]) aU)))
  ·rintro k fr w hk ⟨rfl,hs⟩
   have hrM:(gr Ms i).length=n:=hqM.2 i hi
   have hFi:=hF i hi
   have hgi:∀z,0<gt Fs i k→z=gt Fs i k*gt Ms i k→z=cell (gt Ms) (gt Fs) i k:=fun z h e=>by unfold cell;rw [if_pos h,e]
   refine .block (.aj (.z zm (.zn zg (.aj (.z zm (.z zm (.q hs (eF (k:=i) rfl rfl az aA rfl hi) (.q hs (eg rfl aq (hm:=hF0) (hv:=dt an)) (.z zm (.q hs (eF (k:=k) rfl rfl ae ai rfl hk) (.q hs (eg rfl af (hm:=hF i hi) (hv:=gR hqF hi hk)) (.zn km (.bA rfl (fun hc25=>?_) (fun hc25=>?_))))))))))))))
   ·refine .draw mix rfl hs fun w hs=>?_
    refine .zw 0 rfl zm ?_;refine .z 1 rfl zm ?_;refine .z 2 rfl zm ?_
    refine .zw 3 rfl (eF (k:=i) rfl rfl az aA rfl hi) (.load (i:=4) hs rfl aD .none rfl aq ?_ hF0 (dt an))
    refine .zw 5 rfl zm (.zw 6 rfl (eF (k:=k) rfl rfl ae ai rfl hk) (.load (i:=7) hs rfl aD .none rfl af ?_ (hF i hi) (gR hqF hi hk)))
    refine .zw 8 rfl zm ?_;refine .z 9 rfl zm ?_
    refine .ixT (i:=10) hs rfl aD .none hM rfl rfl az aA hMi rfl ?_;intro b36 o36 a36 c36 hc36 hR36
    refine .r (i:=11) hs rfl aD .none (aJ rfl aq hc36) ?_
    refine .zw 12 rfl zm (.ixX (enc:=fun x=>[I x]) (i:=13) hs rfl aD .none hR36 rfl rfl ae ai (bB (l:=gr Ms i) (i:=k) an) rfl ?_);intro b39 o39 hc39;replace hc39:=bL.one hc39
    refine .r (i:=14) hs rfl aD .none (aJ rfl af hc39) ?_
    refine .zw 15 rfl (FY rfl rfl) (.zw 16 rfl (Ea rfl rfl) (.zw 17 rfl zg (.DT hs (nB (nT ?_)))))
    exact .mk ⟨rfl,hs⟩ (hs:= .cJ rfl an (.cJ rfl rfl (.cJ rfl (by
     rw [AA,xb,show gt Fs i k*gi (gr Ms i) k=cell (gt Ms) (gt Fs) i k from hgi _ hc25 rfl]
     simp only [bj]
     congr 1;omega) aU)))
   ·refine .skip (nB (nT ?_))
    exact .mk ⟨rfl,hs⟩ (hs:= .cJ rfl an (.cJ rfl rfl (.cJ rfl (by
     have:cell (gt Ms) (gt Fs) i k=0:=by unfold cell;rw [if_neg hc25]
     simp only [bj,this]
     congr 1;omega) aU)))
  ·rintro fr w ⟨rfl,hs⟩
   refine nB (nT ?_)
   exact .mk ⟨rfl,hs⟩ (hs:= .cJ rfl an (.cJ rfl rfl (.cJ rfl (by simp only [bj]) aU)))
 ·rintro fr w ⟨rfl,hs⟩
  refine nT (.aj (.z zm (.zn zg (.ret (Fin.bE Tryz.results309 rfl ?_)))))
  exact ⟨rfl,hs⟩
set_option maxHeartbeats 8000000 in
theorem uS{vm:Value}{Ms Fs:List (List Int)}{n bF bN capN:Nat}{bs:List Nat}{spN:List Value}{need ts:List Int}{es:List Arc}{D:Nat→Int}(hs:St H w σ)(hM:RT H vm Ms)(hqM:Sq n Ms)
  (hF0:Mem σ (.blk bF (bs.map (ptr n)))) (hbl:bs.length=n) (hqF:Sq n Fs) (hF:∀i,i<n→Mem σ (.blk (gb bs i) (Is (gr Fs i)))) (hN:Mem σ (.blk bN (Is need++spN))) (hNl:need.length=n)
  (hT:Tab n (gt Ms) es) (hC:xE n es ts (gt Fs)) (hg:VG n (dx es ts) D):
  Cl Tryz.prog 308 [vm,.slice (some ⟨bF,0,none⟩) n n,.slice (some ⟨bN,0,none⟩) n capN] w fun u w'=>∃H1 vd vb s,HLe H H1∧u= .tuple #[vd,vb]∧RI H1 vd s.cost∧RS H1 2 vb (s.by_.map (nf es))∧mv n (dx es ts) (fun v=>gi need v<0) D (fun _=>True) false s∧St H1 w' σ:=by
 obtain ⟨am,cm,rfl⟩:=hM.shape
 obtain rfl:n=Ms.length:=hqM.1.symm
 have hfl:=hqF.1
 have hn0:=hg.n0
 have hfree:free=1000000000:=rfl
 have hn65:=hg.n1
 have hD0:=hg.d0
 have hD1:=hg.d1
 have harc:∀x∈es,-1400000≤x.c∧x.c≤1400000:=fun x hx=>by have:=hg.ok x ((ni hT hC).2 (.inl hx));omega
 refine Cl.o Tryz.func308 Tryz.ntmps308 ag3 ?_
 refine .aj (.z zg (.zn zg (.aj (.z zm (.z (dc az) (.o (.va Ms.length hs rfl rfl ae fD rfl ai cB an fun b16 w hs=>?_)))))))
 refine .zn zg (.aj (.z zm (.z (dc az) (.o (.JY Ms.length hs rfl rfl dL Tryz.typeInfo337 rfl du Kf an fun b19 w hs=>?_)))))
 refine .zn zg (.seq (.aj (.z zm (.z (dc ae) (.zn zm (.for (N:=Ms.length) (J:=fun k fr w=>fr=[(8,.slice (some ⟨b16,0,none⟩) Ms.length Ms.length),(9,.slice (some ⟨b19,0,none⟩) Ms.length Ms.length),(0,.slice am Ms.length cm),(1,.slice (some ⟨bF,0,none⟩) Ms.length Ms.length),(2,.slice (some ⟨bN,0,none⟩) Ms.length capN)]∧∃C,(C.length=Ms.length∧∀v<k,gi C v=if gi need v<0 then 0 else free)∧St H w (.blk b19 (List.replicate k [I (-1),Value.bool false]++List.replicate (Ms.length - k) [I 0,Value.bool false]).flatten:: .blk b16 (Is C)::σ)) an ?_ ?_ ?_))))))
 ·exact .mk ⟨rfl,_,⟨cq,fun v hv=>by omega⟩,hs⟩
 ·rintro k fr w hk ⟨rfl,C,⟨hC1,hC2⟩,hs⟩
  have hstp:=FP Ms.length hk [I (-1),Value.bool false] rfl [I 0,Value.bool false] rfl
  refine .block (.aj (.z zm (.zn zg (.aj (.z zm (.z zm ?_))))))
  first|(refine .ixv hs ae ai ?_;intro b27 o27 hc27)|refine .z (zix ae ai) ?_
  refine .o (.store hs rfl rfl ai fun w hs=>?_)
  refine .nil (.aj (.z zm (.z zm (.z (zbd [_,_] jf) ?_))))
  first|(refine .ixw hs dL du ?_;intro b31 o31 hc31)|refine .z (mA dL du) ?_
  refine .o (.aP (vs:=[I (-1),Value.bool false]) hs rfl rfl du ?_ dn (by simp;omega) hstp);intro w hs
  refine .nil (.aj (.z zm (.z zm ?_)))
  first|(refine .ixv hs ae ai ?_;intro b34 o34 hc34)|refine .z (zix ae ai) ?_
  refine .q hs (eg rfl af (hm:= .there (.there hN)) (hv:=pU (bB (l:=need) (i:=k) an) spN)) ?_
  refine .zn fM (.bA rfl (fun hc36=>?_) (fun hc36=>?_))
  ·refine .region (.z zm (.z zm ?_))
   first|(refine .ixv hs ae ai ?_;intro b39 o39 hc39)|refine .z (zix ae ai) ?_
   refine .o (.store hs rfl rfl ai ?_ dn (xl (by rw [List.length_set];omega)) (s5 _ _ _));intro w hs
   refine .nil (nB (nT ?_))
   exact .mk ⟨rfl,_,⟨by simp [hC1],fun v hv=>by
    rw [fb (by rw [List.length_set];omega)]
    by_cases e:v=k
    ·subst e;rw [if_pos rfl,if_pos hc36]
    ·rw [if_neg e,fb an,if_neg e];exact hC2 v an⟩,hs⟩
  ·refine .skip (nB (nT ?_))
   exact .mk ⟨rfl,_,⟨by simp [hC1],fun v hv=>by
    rw [fb an]
    by_cases e:v=k
    ·subst e;rw [if_pos rfl,if_neg hc36]
    ·rw [if_neg e];exact hC2 v an⟩,hs⟩
 ·rintro fr w ⟨rfl,C,⟨hC1,hC2⟩,hs⟩
  rw [Nat.sub_self,List.replicate_zero,List.append_nil,Db es] at hs
  have hI:GN Ms.length need Ms.length ⟨C,List.replicate Ms.length ⟨0,0,0,-1⟩⟩:=⟨hC1,cq,hC2,fun v hv=>jR _ _ hv⟩
  have hV0:=hI.inv (Dn:=fun _=>True) hg
  refine nT (.seq (.aj (.zn zg (.block (.loop (fun p:Bool×BS=>⟨160,[],[(11,.bool p.1),(8,.slice (some ⟨b16,0,none⟩) Ms.length Ms.length),(9,.slice (some ⟨b19,0,none⟩) Ms.length Ms.length),(0,.slice am Ms.length cm),(1,.slice (some ⟨bF,0,none⟩) Ms.length Ms.length),(2,.slice (some ⟨bN,0,none⟩) Ms.length capN)]⟩) (fun p w=>mv Ms.length (dx es ts) (fun v=>gi need v<0) D (fun _=>True) p.1 p.2∧St H w (.blk b19 (jS es p.2.by_):: .blk b16 (Is p.2.cost)::σ)) (fun p=>2*WMv Ms.length D p.2+(if p.1 then 1 else 0)) (true,⟨C,List.replicate Ms.length ⟨0,0,0,-1⟩⟩) aU ⟨hV0,hs⟩ ?_)))))
  rintro ⟨ag,s⟩ w ⟨hV,hs⟩
  dsimp only at hV hs ⊢
  refine .seq (.aj (.zn zm (.cond rfl (fun hc41=>?_) (fun hc41=>?_))))
  ·refine .skip (nT (.block (.aj (.zn zg (.aj (.z zm (.z (dc az) (.zn zm (.for (N:=Ms.length) (J:=fun a fr w=>∃ag s',fr=[(11,.bool ag),(8,.slice (some ⟨b16,0,none⟩) Ms.length Ms.length),(9,.slice (some ⟨b19,0,none⟩) Ms.length Ms.length),(0,.slice am Ms.length cm),(1,.slice (some ⟨bF,0,none⟩) Ms.length Ms.length),(2,.slice (some ⟨bN,0,none⟩) Ms.length capN)]∧mv Ms.length (dx es ts) (fun v=>gi need v<0) D (zV a 0) ag s'∧(WMv Ms.length D s'≤WMv Ms.length D s∧(ag=true→WMv Ms.length D s'<WMv Ms.length D s))∧St H w (.blk b19 (jS es s'.by_):: .blk b16 (Is s'.cost)::σ)) an ?_ ?_ ?_)))))))))
   ·exact .mk ⟨false,s,rfl,hV.next.zero,⟨Nat.le_refl _,fun h=>by cases h⟩,hs⟩
   ·rintro a fr w ha ⟨ag',s',rfl,hV',hW,hs⟩
    have hlc:=hV'.lc
    have htop:=hV'.top a ha
    refine .block (.aj (.z zm (.zn zg (.seq (.aj (.z zm (.z zm ?_)))))))
    first|(refine .ixv hs ae ai ?_;intro b49 o49 hc49)|refine .z (zix ae ai) ?_
    first|refine .q hs (eg rfl af (hm:=by repeat (first|exact .here|assumption|exact Mem.row an an|refine .there ?_|refine Mem.kl ?_)) (hv:=by first|rfl|exact dt an|exact gR df an an|exact fC fO)) ?_|refine .q hs (aJ rfl af df) ?_
    refine .zn fm (.bA rfl (fun hc51=>?_) (fun hc51=>?_))
    ·refine .exit (xT (xB (nT ?_)))
     exact .mk ⟨ag',s',rfl,hV'.far hc51,hW,hs⟩
    ·refine .skip (nT (.aj (.z zm (.z (dc az) (.zn zm (.for (N:=Ms.length) (J:=fun b fr w=>∃ag s',fr=[(11,.bool ag),(12,I (a:Int)),(44,I (a:Int)),(43,I (Ms.length:Int)),(8,.slice (some ⟨b16,0,none⟩) Ms.length Ms.length),(9,.slice (some ⟨b19,0,none⟩) Ms.length Ms.length),(0,.slice am Ms.length cm),(1,.slice (some ⟨bF,0,none⟩) Ms.length Ms.length),(2,.slice (some ⟨bN,0,none⟩) Ms.length capN)]∧mv Ms.length (dx es ts) (fun v=>gi need v<0) D (zV a b) ag s'∧(WMv Ms.length D s'≤WMv Ms.length D s∧(ag=true→WMv Ms.length D s'<WMv Ms.length D s))∧gi s'.cost a<free∧St H w (.blk b19 (jS es s'.by_):: .blk b16 (Is s'.cost)::σ)) an ?_ ?_ ?_))))))
     ·exact .mk ⟨ag',s',rfl,hV',hW,by simp only [free];omega,hs⟩
     ·clear hV' hlc htop hW
      rintro b fr w hb ⟨ag',s',rfl,hV',hW,hfa,hs⟩
      have hlc:=hV'.lc
      have hlow:=hV'.low hg ha hfa
      have hlo:=hV'.lo a ha
      have hDa:=hD1 a ha
      have htop:=hV'.top b hb
      have hrowA:(gr Ms a).length=Ms.length:=hqM.2 a ha
      have hrowB:(gr Ms b).length=Ms.length:=hqM.2 b hb
      have hFb:=hF b hb
      refine .block (.aj (.z zm (.zn zg (.cut (fun fs w=>∃ag s',ke fs ⟨160,[],[(11,.bool ag),(13,I (b:Int)),(54,I (b:Int)),(53,I (Ms.length:Int)),(12,I (a:Int)),(44,I (a:Int)),(43,I (Ms.length:Int)),(8,.slice (some ⟨b16,0,none⟩) Ms.length Ms.length),(9,.slice (some ⟨b19,0,none⟩) Ms.length Ms.length),(0,.slice am Ms.length cm),(1,.slice (some ⟨bF,0,none⟩) Ms.length Ms.length),(2,.slice (some ⟨bN,0,none⟩) Ms.length capN)]⟩∧mv Ms.length (dx es ts) (fun v=>gi need v<0) D (E4 es a b) ag s'∧(WMv Ms.length D s'≤WMv Ms.length D s∧(ag=true→WMv Ms.length D s'<WMv Ms.length D s))∧gi s'.cost a<free∧St H w (.blk b19 (jS es s'.by_):: .blk b16 (Is s'.cost)::σ)) ?_ ?_))))
      ·refine .cut (fun fs w=>∃p,ke fs ⟨160,[],[(88,.bool p),(11,.bool ag'),(13,I (b:Int)),(54,I (b:Int)),(53,I (Ms.length:Int)),(12,I (a:Int)),(44,I (a:Int)),(43,I (Ms.length:Int)),(8,.slice (some ⟨b16,0,none⟩) Ms.length Ms.length),(9,.slice (some ⟨b19,0,none⟩) Ms.length Ms.length),(0,.slice am Ms.length cm),(1,.slice (some ⟨bF,0,none⟩) Ms.length Ms.length),(2,.slice (some ⟨bN,0,none⟩) Ms.length capN)]⟩∧(p=true→a≠b∧gt Ms a b≠free∧gi s'.cost a+gt Ms a b<gi s'.cost b)∧(p=false→a=b∨gt Ms a b=free∨¬gi s'.cost a+gt Ms a b<gi s'.cost b)∧St H w (.blk b19 (jS es s'.by_):: .blk b16 (Is s'.cost)::σ)) ?_ ?_
       ·refine .draw mix rfl hs fun w hs=>?_
        refine .zw 0 rfl zm ?_;refine .z 1 rfl zm ?_;refine .z 2 rfl gE ?_;refine .z 3 rfl zm ?_
        refine .AS (t':=60) rfl (fun hb60=>?_) (fun hb60=>?_)
        ·refine .zw 4 rfl zm ?_;refine .z 5 rfl zm ?_
         refine .ixT (i:=6) hs rfl aD (.some rfl rfl) hM rfl rfl az aA ha rfl ?_;intro b63 o63 a63 c63 hc63 hR63
         refine .r (i:=7) hs rfl aD (.some rfl rfl) (aJ rfl aq hc63) ?_
         refine .zw 8 rfl zm (.ixX (enc:=fun x=>[I x]) (i:=9) hs rfl aD (.some rfl rfl) hR63 rfl rfl ae ai (bB (l:=_) (i:=b) an) rfl ?_);intro b66 o66 hc66;replace hc66:=bL.one hc66
         refine .r (i:=10) hs rfl aD (.some rfl rfl) (aJ rfl af hc66) ?_
         refine .zw 11 rfl gE ?_;refine .z 12 rfl zpT ?_;refine .z 13 rfl zm ?_
         refine .AS (t':=70) rfl (fun hb70=>?_) (fun hb70=>?_)
         ·refine .zw 14 rfl zm ?_;refine .z 15 rfl zm ?_
          have hfin:gt Ms a b≠free:=hb70
          have hMb: -1400000≤gi (gr Ms a) b∧gi (gr Ms a) b≤1400000:=by
           obtain ⟨x,hx,e1,e2⟩:=hT.all a b ha hb (fun e=>hb60 (by rw [e])) hfin
           have h1:=harc x hx
           have h2:=(hT.ok x hx).2.2.2.1
           rw [e1,e2] at h2
           change gi (gr Ms a) b=x.c at h2
           omega
          first|(refine .ixv 16 rfl hs ae ai ?_;intro b73 o73 hc73)|refine .z 16 rfl (zix ae ai) ?_
          first|refine .load (i:=17) hs rfl aD (.some rfl rfl) rfl af ?_ (by repeat (first|exact .here|assumption|exact Mem.row an an|refine .there ?_|refine Mem.kl ?_)) (by first|rfl|exact dt an|exact gR df an an|exact fC fO)|refine .r (i:=17) hs rfl aD (.some rfl rfl) (aJ rfl af df) ?_
          refine .zw 18 rfl zm ?_;refine .z 19 rfl zm ?_
          refine .ixT (i:=20) hs rfl aD (.some rfl rfl) hM rfl rfl az aA ha rfl ?_;intro b77 o77 a77 c77 hc77 hR77
          refine .r (i:=21) hs rfl aD (.some rfl rfl) (aJ rfl aq hc77) ?_
          refine .zw 22 rfl zm (.ixX (enc:=fun x=>[I x]) (i:=23) hs rfl aD (.some rfl rfl) hR77 rfl rfl ae ai (bB (l:=_) (i:=b) an) rfl ?_);intro b80 o80 hc80;replace hc80:=bL.one hc80
          refine .r (i:=24) hs rfl aD (.some rfl rfl) (aJ rfl af hc80) ?_
          refine .zw 25 rfl cK ?_;refine .z 26 rfl zm ?_;refine .z 27 rfl zm ?_
          first|(refine .ixv 28 rfl hs ae ai ?_;intro b85 o85 hc85)|refine .z 28 rfl (zix ae ai) ?_
          first|refine .load (i:=29) hs rfl aD (.some rfl rfl) rfl af ?_ (by repeat (first|exact .here|assumption|exact Mem.row an an|refine .there ?_|refine Mem.kl ?_)) (by first|rfl|exact dt an|exact gR df an an|exact fC fO)|refine .r (i:=29) hs rfl aD (.some rfl rfl) (aJ rfl af df) ?_
          refine .zw 30 rfl fM ?_;refine .z 31 rfl zpT ?_
          refine .DT hs ?_
          exact nT ⟨_,aU,by
           intro hp
           first
            |(cases hp;done)
            |exact ⟨fun e=>hb60 (by rw [e]),hb70,of_decide_eq_true hp⟩,by
           intro hp
           first
            |(cases hp;done)
            |exact .inl an
            |exact .inr (.inl hb70)
            |exact .inr (.inr (of_decide_eq_false hp)),hs⟩
         ·refine .F 14 rfl (.F 15 rfl (.F 16 rfl (.F 17 rfl (.F 18 rfl (.F 19 rfl ?_)))))
          refine .F 20 rfl (.F 21 rfl (.F 22 rfl (.F 23 rfl (.F 24 rfl (.F 25 rfl (.F 26 rfl (.F 27 rfl (.F 28 rfl (.F 29 rfl (.F 30 rfl (.zw 31 rfl zpF (.DT hs ?_))))))))))))
          exact nT ⟨_,aU,by
           intro hp
           first
            |(cases hp;done)
            |exact ⟨fun e=>hb60 (by rw [e]),hb70,of_decide_eq_true hp⟩,by
           intro hp
           first
            |(cases hp;done)
            |exact .inl an
            |exact .inr (.inl hb70)
            |exact .inr (.inr (of_decide_eq_false hp)),hs⟩
        ·refine .F 4 rfl (.F 5 rfl (.F 6 rfl (.F 7 rfl (.F 8 rfl (.F 9 rfl (.F 10 rfl (.F 11 rfl (.zw 12 rfl zpF ?_))))))));refine .z 13 rfl zm ?_
         refine .F 14 rfl (.F 15 rfl (.F 16 rfl (.F 17 rfl (.F 18 rfl (.F 19 rfl ?_)))))
         refine .F 20 rfl (.F 21 rfl (.F 22 rfl (.F 23 rfl (.F 24 rfl (.F 25 rfl (.F 26 rfl (.F 27 rfl (.F 28 rfl (.F 29 rfl (.F 30 rfl (.zw 31 rfl zpF (.DT hs ?_))))))))))))
         exact nT ⟨_,aU,by
          intro hp
          first
           |(cases hp;done)
           |exact ⟨fun e=>hb60 (by rw [e]),hb70,of_decide_eq_true hp⟩,by
          intro hp
          first
           |(cases hp;done)
           |exact .inl an
           |exact .inr (.inl hb70)
           |exact .inr (.inr (of_decide_eq_false hp)),hs⟩
       ·rintro fs w ⟨p,hfs,hp1,hp2,hs⟩
        refine WE.sub ?_ hfs
        refine (.cond rfl (fun hc88=>?_) (fun hc88=>?_))
        ·refine .seq (.draw mix rfl hs fun w hs=>?_)
         obtain ⟨hab,hfin,hlt⟩:=hp1 hc88
         obtain ⟨x,hx,e1,e2⟩:=hT.all a b ha hb hab hfin
         have e3:gi (gr Ms a) b=x.c:=by
          have h2:=(hT.ok x hx).2.2.2.1
          rw [e1,e2] at h2;exact h2
         have hxc:=harc x hx
         have hxl:¬x.l<0:=by have:=(hT.at hx).2;omega
         have hstp:nf es x=[I (a:Int),.bool false]:=by
          unfold nf
          rw [if_neg hxl,e1]
          simp [(hT.tP hx).1]
         have hset:qD (jS es s'.by_) (b*2) [I (a:Int),Value.bool false]=jS es (s'.by_.set b x):=by rw [←hstp];exact y8 (by have:=hV'.lb;omega) x
         have hsr:s'.rlx x=⟨s'.cost.set b (gi s'.cost a+gi (gr Ms a) b),s'.by_.set b x⟩:=by unfold BS.rlx;rw [e1,e2,e3]
         have hcan:s'.can x:=by unfold BS.can;rw [e1,e2,←e3];exact hlt
         have hxm:x∈dx es ts:=(ni hT hC).2 (.inl hx)
         have hlb:=hV'.lb
         refine .zw 0 rfl zm ?_;refine .z 1 rfl zm ?_;refine .z 2 rfl zm ?_;refine .z 3 rfl zm ?_
         first|(refine .ixv 4 rfl hs ae ai ?_;intro b93 o93 hc93)|refine .z 4 rfl (zix ae ai) ?_
         first|refine .load (i:=5) hs rfl aD .none rfl af ?_ (by repeat (first|exact .here|assumption|exact Mem.row an an|refine .there ?_|refine Mem.kl ?_)) (by first|rfl|exact dt an|exact gR df an an|exact fC fO)|refine .r (i:=5) hs rfl aD .none (aJ rfl af df) ?_
         refine .zw 6 rfl zm ?_;refine .z 7 rfl zm ?_
         refine .ixT (i:=8) hs rfl aD .none hM rfl rfl az aA ha rfl ?_;intro b97 o97 a97 c97 hc97 hR97
         refine .r (i:=9) hs rfl aD .none (aJ rfl aq hc97) ?_
         refine .zw 10 rfl zm (.ixX (enc:=fun x=>[I x]) (i:=11) hs rfl aD .none hR97 rfl rfl ae ai (bB (l:=_) (i:=b) an) rfl ?_);intro b100 o100 hc100;replace hc100:=bL.one hc100
         refine .r (i:=12) hs rfl aD .none (aJ rfl af hc100) ?_
         refine .zw 13 rfl cK ?_
         first|(refine .ixv 14 rfl hs ae ai ?_;intro b103 o103 hc103)|refine .z 14 rfl (zix ae ai) ?_
         refine .ET 15 hs ?_
         refine .store hs rfl rfl ai ?_;intro w hs
         refine .go (.DT hs (.aj (.z zm (.z zm (.z zm (.z (zbd [_,_] jf) ?_))))))
         first|(refine .ixw hs dL du ?_;intro b108 o108 hc108)|refine .z (mA dL du) ?_
         refine .o (.aP (vs:=[I (a:Int),Value.bool false]) hs rfl rfl du ?_ dn (by rw [nS];simp<;>omega) hset);intro w hs
         refine .nil (.region (.zn zg (nT ?_)))
         have hR:=hV'.xI (Dn':=E4 es a b) hg hxm (by rw [e1];exact hfa) hcan
         have hL:=hV'.less hg hxm (by rw [e1];exact hfa) hcan
         rw [hsr] at hR hL
         exact ⟨true,_,aU,hR,⟨an,fun _=>by omega⟩,by dsimp only;rw [fb an,if_neg hab];exact hfa,hs⟩
        ·refine .skip (nT ?_)
         exact ⟨ag',s',aU,hV'.noF (fun x hx e1 e2 hc=>by
          obtain ⟨b1,b2,b3,b4,b5⟩:=hT.ok x hx
          rw [e1,e2] at b4
          rcases hp2 hc88 with h|h|h
          ·exact b3 (by rw [e1,e2,h])
          ·exact b5 (by rw [←b4,h])
          ·exact h (by rw [b4];exact hc.2)),hW,hfa,hs⟩
      ·clear hV' hW hlc hlow hlo htop hfa
       rintro fs w ⟨ag',s',hfs,hV',hW,hfa,hs⟩
       refine WE.sub ?_ hfs
       have hlc:=hV'.lc
       have hlow:=hV'.low hg ha hfa
       have hlo:=hV'.lo a ha
       have htop:=hV'.top b hb
       refine .cut (fun fs w=>∃p,ke fs ⟨160,[],[(135,.bool p),(11,.bool ag'),(13,I (b:Int)),(54,I (b:Int)),(53,I (Ms.length:Int)),(12,I (a:Int)),(44,I (a:Int)),(43,I (Ms.length:Int)),(8,.slice (some ⟨b16,0,none⟩) Ms.length Ms.length),(9,.slice (some ⟨b19,0,none⟩) Ms.length Ms.length),(0,.slice am Ms.length cm),(1,.slice (some ⟨bF,0,none⟩) Ms.length Ms.length),(2,.slice (some ⟨bN,0,none⟩) Ms.length capN)]⟩∧(p=true→0<gt Fs b a∧gi s'.cost a - gt Ms b a<gi s'.cost b)∧(p=false→¬0<gt Fs b a∨¬gi s'.cost a - gt Ms b a<gi s'.cost b)∧St H w (.blk b19 (jS es s'.by_):: .blk b16 (Is s'.cost)::σ)) ?_ ?_
       ·refine .draw mix rfl hs fun w hs=>?_
        refine .zw 0 rfl zm ?_;refine .z 1 rfl zm ?_
        refine .zw 2 rfl (eF (k:=b) rfl rfl az aA rfl hb) (.load (i:=3) hs rfl aD .none rfl aq ?_ (.there (.there hF0)) (dt an))
        refine .zw 4 rfl zm (.zw 5 rfl (eF (k:=a) rfl rfl ae ai rfl ha) (.load (i:=6) hs rfl aD .none rfl af ?_ (.there (.there (hF b hb))) (gR hqF hb ha)))
        refine .zw 7 rfl km ?_;refine .z 8 rfl zm ?_
        refine .gX (t':=117) rfl (fun hb117=>?_) (fun hb117=>?_)
        ·refine .zw 9 rfl zm ?_;refine .z 10 rfl zm ?_
         have hMb: -1400000≤gi (gr Ms b) a∧gi (gr Ms b) a≤1400000:=by
          obtain ⟨x,hx,e1,e2⟩:=hC.pos hb ha hb117
          have h1:=harc x hx
          have h2:=(hT.ok x hx).2.2.2.1
          rw [e1,e2] at h2
          change gi (gr Ms b) a=x.c at h2
          omega
         first|(refine .ixv 11 rfl hs ae ai ?_;intro b120 o120 hc120)|refine .z 11 rfl (zix ae ai) ?_
         first|refine .load (i:=12) hs rfl aD (.some rfl rfl) rfl af ?_ (by repeat (first|exact .here|assumption|exact Mem.row an an|refine .there ?_|refine Mem.kl ?_)) (by first|rfl|exact dt an|exact gR df an an|exact fC fO)|refine .r (i:=12) hs rfl aD (.some rfl rfl) (aJ rfl af df) ?_
         refine .zw 13 rfl zm ?_;refine .z 14 rfl zm ?_
         refine .ixT (i:=15) hs rfl aD (.some rfl rfl) hM rfl rfl az aA hb rfl ?_;intro b124 o124 a124 c124 hc124 hR124
         refine .r (i:=16) hs rfl aD (.some rfl rfl) (aJ rfl aq hc124) ?_
         refine .zw 17 rfl zm (.ixX (enc:=fun x=>[I x]) (i:=18) hs rfl aD (.some rfl rfl) hR124 rfl rfl ae ai (bB (l:=_) (i:=a) an) rfl ?_);intro b127 o127 hc127;replace hc127:=bL.one hc127
         refine .r (i:=19) hs rfl aD (.some rfl rfl) (aJ rfl af hc127) ?_
         refine .zw 20 rfl fY ?_;refine .z 21 rfl zm ?_;refine .z 22 rfl zm ?_
         first|(refine .ixv 23 rfl hs ae ai ?_;intro b132 o132 hc132)|refine .z 23 rfl (zix ae ai) ?_
         first|refine .load (i:=24) hs rfl aD (.some rfl rfl) rfl af ?_ (by repeat (first|exact .here|assumption|exact Mem.row an an|refine .there ?_|refine Mem.kl ?_)) (by first|rfl|exact dt an|exact gR df an an|exact fC fO)|refine .r (i:=24) hs rfl aD (.some rfl rfl) (aJ rfl af df) ?_
         refine .zw 25 rfl fM ?_;refine .z 26 rfl zpT ?_
         refine .DT hs ?_
         exact nT ⟨_,aU,by
          intro hp
          first
           |(cases hp;done)
           |exact ⟨hb117,of_decide_eq_true hp⟩,by
          intro hp
          first
           |(cases hp;done)
           |exact .inl hb117
           |exact .inr (of_decide_eq_false hp),hs⟩
        ·refine .F 9 rfl (.F 10 rfl (.F 11 rfl (.F 12 rfl (.F 13 rfl (.F 14 rfl ?_)))))
         refine .F 15 rfl (.F 16 rfl (.F 17 rfl (.F 18 rfl (.F 19 rfl (.F 20 rfl (.F 21 rfl (.F 22 rfl (.F 23 rfl (.F 24 rfl (.F 25 rfl (.zw 26 rfl zpF (.DT hs ?_))))))))))))
         exact nT ⟨_,aU,by
          intro hp
          first
           |(cases hp;done)
           |exact ⟨hb117,of_decide_eq_true hp⟩,by
          intro hp
          first
           |(cases hp;done)
           |exact .inl hb117
           |exact .inr (of_decide_eq_false hp),hs⟩
       ·rintro fs w ⟨p,hfs,hp1,hp2,hs⟩
        refine WE.sub ?_ hfs
        refine (.cond rfl (fun hc135=>?_) (fun hc135=>?_))
        ·refine .seq (.draw mix rfl hs fun w hs=>?_)
         obtain ⟨hpos,hlt⟩:=hp1 hc135
         obtain ⟨x,hx,e1,e2⟩:=hC.pos hb ha hpos
         have e3:gi (gr Ms b) a=x.c:=by
          have h2:=(hT.ok x hx).2.2.2.1
          rw [e1,e2] at h2;exact h2
         have hxc:=harc x hx
         have hab:a≠b:=fun e=>(hT.ok x hx).2.2.1 (by rw [e1,e2,e])
         have hxl:¬x.back.l<0:=by have:=(hT.at hx).2;show ¬x.l<0;omega
         have e4:x.back.f=a:=e2
         have e5:x.back.t=b:=e1
         have hstp:nf es x.back=[I (a:Int),.bool true]:=by
          unfold nf
          rw [if_neg hxl,e4]
          simp [(hT.tP hx).2]
         have hset:qD (jS es s'.by_) (b*2) [I (a:Int),Value.bool true]=jS es (s'.by_.set b x.back):=by rw [←hstp];exact y8 (by have:=hV'.lb;omega) x.back
         have hsr:s'.rlx x.back=⟨s'.cost.set b (gi s'.cost a - gi (gr Ms b) a),s'.by_.set b x.back⟩:=by
          unfold BS.rlx
          rw [e4,e5,e3];rfl
         have hcan:s'.can x.back:=by
          unfold BS.can
          rw [e4,e5]
          show gi s'.cost a+ -x.c<_
          rw [←e3]
          exact hlt
         have hxm:x.back∈dx es ts:=(ni hT hC).2 (.inr ⟨x,hx,by rw [e1,e2];exact hpos,rfl⟩)
         have hlb:=hV'.lb
         refine .zw 0 rfl zm ?_;refine .z 1 rfl zm ?_;refine .z 2 rfl zm ?_;refine .z 3 rfl zm ?_
         first|(refine .ixv 4 rfl hs ae ai ?_;intro b140 o140 hc140)|refine .z 4 rfl (zix ae ai) ?_
         first|refine .load (i:=5) hs rfl aD .none rfl af ?_ (by repeat (first|exact .here|assumption|exact Mem.row an an|refine .there ?_|refine Mem.kl ?_)) (by first|rfl|exact dt an|exact gR df an an|exact fC fO)|refine .r (i:=5) hs rfl aD .none (aJ rfl af df) ?_
         refine .zw 6 rfl zm ?_;refine .z 7 rfl zm ?_
         refine .ixT (i:=8) hs rfl aD .none hM rfl rfl az aA hb rfl ?_;intro b144 o144 a144 c144 hc144 hR144
         refine .r (i:=9) hs rfl aD .none (aJ rfl aq hc144) ?_
         refine .zw 10 rfl zm (.ixX (enc:=fun x=>[I x]) (i:=11) hs rfl aD .none hR144 rfl rfl ae ai (bB (l:=_) (i:=a) an) rfl ?_);intro b147 o147 hc147;replace hc147:=bL.one hc147
         refine .r (i:=12) hs rfl aD .none (aJ rfl af hc147) ?_
         refine .zw 13 rfl fY ?_
         first|(refine .ixv 14 rfl hs ae ai ?_;intro b150 o150 hc150)|refine .z 14 rfl (zix ae ai) ?_
         refine .ET 15 hs ?_
         refine .store hs rfl rfl ai ?_;intro w hs
         refine .go (.DT hs (.aj (.z zm (.z zm (.z zm (.z (zbd [_,_] jf) ?_))))))
         first|(refine .ixw hs dL du ?_;intro b155 o155 hc155)|refine .z (mA dL du) ?_
         refine .o (.aP (vs:=[I (a:Int),Value.bool true]) hs rfl rfl du ?_ dn (by rw [nS];simp<;>omega) hset);intro w hs
         refine .nil (.region (.zn zg (nB (nT ?_))))
         have hR:=hV'.xI (Dn':=zV a (b+1)) hg hxm (by rw [e4];exact hfa) hcan
         have hL:=hV'.less hg hxm (by rw [e4];exact hfa) hcan
         rw [hsr] at hR hL
         exact .mk ⟨true,_,rfl,hR,⟨an,fun _=>by omega⟩,by dsimp only;rw [fb an,if_neg hab];exact hfa,hs⟩
        ·refine .skip (nB (nT ?_))
         exact .mk ⟨ag',s',rfl,hV'.noB hT hC (fun x hx e1 e2 hpos hc=>by
          have h2:=(hT.ok x hx).2.2.2.1
          rw [e1,e2] at h2
          rcases hp2 hc135 with h|h
          ·exact h hpos
          ·exact h (by rw [h2];exact hc.2)),hW,hfa,hs⟩
     ·rintro fr w ⟨ag',s',rfl,hV',hW,-,hs⟩
      refine nB (nT ?_)
      exact .mk ⟨ag',s',rfl,hV'.row hg,hW,hs⟩
   ·rintro fr w ⟨ag',s',rfl,hV',hW,hs⟩
    refine nB (nT ?_)
    exact ⟨(ag',s'),aU,⟨hV'.all hg,hs⟩,by
     subst hc41
     dsimp only
     cases ag' with
     |true=>have:=hW.2 rfl;simp only [if_true];omega
     |false=>have:=hW.1;simp;omega⟩
  ·refine .exit (xT (xT (xB (nT (.aj (.z zm (.z zm (.z zg (.zn zg (.ret (Fin.gL Tryz.results308 rfl rfl ?_)))))))))))
   subst hc41
   obtain ⟨H2,g1,g2,hs⟩:=cZ.di (m:=2) (v:= .slice (some ⟨b19,0,none⟩) Ms.length Ms.length) (cs:=s.by_.map (nf es)) (en:= .blk b19 (jS es s.by_)) (.full (by show (jS es s.by_).length=_;rw [nS,hV.lb])) (fun c hc=>by simp only [List.mem_map] at hc;obtain ⟨x,_,rfl⟩:=hc;exact um es x) an (by rw [List.length_map,hV.lb];omega) hs .here
   obtain ⟨H3,g3,g4,hs⟩:=cZ.dS (v:= .slice (some ⟨b16,0,none⟩) Ms.length Ms.length) (xs:=s.cost) (.full (by simp [hV.lc])) (by rw [hV.lc];omega) hs .here
   exact ⟨H3,_,_,s,g1.trans g3,rfl,g4,RS.mono g2 g3,hV,hs⟩
set_option maxHeartbeats 8000000 in
theorem uV{vm vw:Value}{Ms:List (List Int)}{ws:List Int}{n:Nat}{es:List Arc}(hs:St H w σ)(hM:RT H vm Ms)(hqM:Sq (n+1) Ms)(hw:RI H vw ws)(hl:ws.length=n+1)(hn:n+1≤65)(hz:bX ws (n+1)≤FF)
  (hT:Tab (n+1) (gt Ms) es) (hfe:∃p,iQ es p) (hcb:∀x∈es,-1400000≤x.c∧x.c≤1400000) (hbd:∀m,zW es (oW ws (n+1)) (n+1) m→-BB≤m∧m≤BB):
  Cl Tryz.prog 301 [vm,vw] w fun u w'=>∃H1 v b,HLe H H1∧u= .tuple #[I v,.bool b]∧((b=true∧zW es (oW ws (n+1)) (n+1) v)∨(b=false∧nE es (oW ws (n+1)) (n+1)))∧St H1 w' σ:=by
 obtain ⟨am,cm,rfl⟩:=hM.shape
 have hml:Ms.length=n+1:=hqM.1
 rw [hml] at hM ⊢
 have hnum:=hT.Iv
 have hC0:GV es (n+1):=fun x hx=>by
  have h1:=hT.ok x hx
  have h2:=(hT.at hx).2
  have h3:=hcb x hx
  exact ⟨h1.1,h1.2.1,h3.1,h3.2,an,h1.2.2.1⟩
 have hin:∀x∈es,x.f<n+1∧x.t<n+1:=fun x hx=>by have:=hC0 x hx;omega
 have hw0:=Du ws (n:=n+1) an
 have hFF:FF=3600000000000:=rfl
 have hBB:BB=4608000000000000000:=rfl
 have hfree:free=1000000000:=rfl
 refine Cl.o Tryz.func301 Tryz.ntmps301 ag2 ?_
 refine .aj (.z zg (.zn zg (.aj (.z zm (.o (.call Tryz.call307 rfl (rX hs hw hl an hz) ?_))))));rintro _ w ⟨b21,cap,sp,lf0,rfl,hlf1,hlf2,hs⟩
 refine .zn zg (.aj (.z zm (.z (dc az) (.o (.HM (n+1) hs rfl rfl az Tryz.typeInfo34 rfl aA ee an fun b24 w hs=>?_)))))
 refine .zn zg (.seq (.aj (.z zm (.z (dc az) (.zn zm (.for (N:=n+1) (J:=fun k fr w=>fr=[(7,.slice (some ⟨b24,0,none⟩) (n+1) (n+1)),(0,.slice am (n+1) cm),(6,.slice (some ⟨b21,0,none⟩) (n+1) cap)]∧∃bs:List Nat,bs.length=k∧St H w (.blk b24 (bs.map (ptr (n+1))++List.replicate (n+1 - k) (.slice none 0 0))::(jU bs (Ba (fun _ _=>0) (n+1) k)++(.blk b21 (Is lf0++sp)::σ)))) an ?_ ?_ ?_))))))
 ·exact .mk ⟨rfl,[],rfl,hs⟩
 ·rintro k fr w hk ⟨rfl,bs,hbl,hs⟩
  refine .block (.aj (.z zm (.zn zg (.region (.z zm (.z zm (.z zm (.z (dc az) (.o (.va (n+1) hs rfl rfl ae fD rfl ai cB an fun b34 w hs=>?_))))))))))
  first|(refine .ixw hs az aA ?_;intro b35 o35 hc35)|refine .z (zix az aA) ?_
  refine .o (.store hs rfl rfl aA ?_ dn (by simp [hbl];omega) (Eb hbl hk));intro w hs
  refine .nil (nB (nT ?_))
  rw [wQ (fun _=>0) (n+1) 0 (fun _ _=>rfl)] at hs
  replace hs:=hs.IQ (by rw [hbl,wk])
  rw [←Aa (fun _ _=>0)] at hs
  exact .mk ⟨rfl,bs++[b34],by simp [hbl],hs⟩
 ·rintro fr w ⟨rfl,bs,hbl,hs⟩
  rw [Nat.sub_self,List.replicate_zero,List.append_nil] at hs
  have hq0:=DG (fun _ _=>0) (n+1)
  have hc0:xE (n+1) es (List.replicate es.length 0) (gt (Ba (fun _ _=>0) (n+1) (n+1))):=by
   have h:=xE.zero (n+1) hT
   exact ⟨h.len,fun x hx=>by rw [h.arc x hx,A9 _ (hin x hx).1 (hin x hx).2],fun a b ha hb _=>A9 _ ha hb⟩
  have hF0:=ya.start (es:=es) hz hlf1 hlf2 hfe
  refine nT (.block (.loop (fun _:List (List Int)×List Int×List Int=>⟨183,[],[(7,.slice (some ⟨b24,0,none⟩) (n+1) (n+1)),(0,.slice am (n+1) cm),(6,.slice (some ⟨b21,0,none⟩) (n+1) cap)]⟩) (fun p w=>(Sq (n+1) p.1∧xE (n+1) es p.2.1 (gt p.1)∧ya (n+1) es (oW ws (n+1)) p.2.1 p.2.2)∧∃H1,HLe H H1∧St H1 w (.blk b24 (bs.map (ptr (n+1)))::(jU bs p.1++(.blk b21 (Is p.2.2++sp)::σ)))) (fun p=>(rem (n+1) p.2.2).toNat) (Ba (fun _ _=>0) (n+1) (n+1),List.replicate es.length 0,lf0) aU ⟨⟨hq0,hc0,hF0⟩,H,HLe.refl H,hs⟩ ?_))
  clear hq0 hc0 hF0 hlf1 hlf2 hs
  rintro ⟨Fs,ts,lf⟩ w ⟨⟨hqF,hC,hI⟩,H1,hle1,hs⟩
  dsimp only at hqF hC hI hs ⊢
  obtain ⟨D,hg⟩:=B0 an hn hC0 hI.lt.symm hI.fe
  have hfl:=hqF.1
  have hll:=hI.ll
  refine .block (.aj (.z zm (.z zm (.z zm (.o (.call Tryz.call308 rfl (uS (need:=lf) (spN:=sp) hs (hM.mono hle1) hqM .here hbl hqF (fun i hi=> .there (Mem.row an an)) (.there (Mem.kl .here)) hll hT hC hg) ?_))))));rintro _ w ⟨H2,vd,vb,s,hle2,rfl,hRd,hRb,hV,hs⟩
  obtain ⟨ad,cd,rfl⟩:=RI.shape hRd
  obtain ⟨ab,cb,eb⟩:=hRb.shape
  rw [List.length_map] at eb
  subst eb
  have hlc:=hV.lc
  have hlb:=hV.lb
  have hle02:=hle1.trans hle2
  refine .z zm (.z zex (.z zex (.z zg (.zn zg (.aj (.zn zg (.aj (.zn zg (.seq (.aj (.z zm (.z (dc ae) (.zn zm (.for (N:=n+1) (J:=fun k fr w=>∃to left,fr=[(11,I to),(12,.bool left),(44,.slice (some ⟨b21,0,none⟩) (n+1) cap),(7,.slice (some ⟨b24,0,none⟩) (n+1) (n+1)),(0,.slice am (n+1) cm),(6,.slice (some ⟨b21,0,none⟩) (n+1) cap),(9,.slice ad s.cost.length cd),(10,.slice ab s.by_.length cb)]∧Scan lf s.cost k to left∧St H2 w (.blk b24 (bs.map (ptr (n+1)))::(jU bs Fs++(.blk b21 (Is lf++sp)::σ)))) an ?_ ?_ ?_))))))))))))))
  ·exact .mk ⟨-1,false,rfl,.start lf s.cost,hs⟩
  ·rintro k fr w hk ⟨to,left,rfl,hSc,hs⟩
   have hto:=hSc.lo
   have hto2:=hSc.som
   have hcap:k<n+1:=hk
   refine .block (.aj (.z zm (.q hs (eF (k:=k) rfl rfl ae ai rfl hk) (.q hs (eg rfl af (hm:= .there (Mem.kl .here)) (hv:=pU (bB (l:=lf) (i:=k) an) sp)) ?_))))
   refine .z zg (.zn zg (.aj (.z zm (.z zm (.bif (t':=52) rfl (fun hb52=>?_) (fun hb52=>?_))))))
   ·refine .Fs 2 1 false (.z zpT (.zn zg (WE.sub (t:=⟨183,[],[(12,.bool (left||decide (0<gi lf k))),(13,I (k:Int)),(14,I (gi lf k)),(11,I to),(46,I (k:Int)),(45,I ((n+1:Nat):Int)),(44,.slice (some ⟨b21,0,none⟩) (n+1) cap),(7,.slice (some ⟨b24,0,none⟩) (n+1) (n+1)),(0,.slice am (n+1) cm),(6,.slice (some ⟨b21,0,none⟩) (n+1) cap),(9,.slice ad s.cost.length cd),(10,.slice ab s.by_.length cb)]⟩) ?_ (by first|exact .Jm rfl (by simp_all) aU|repeat (first|exact .nil rfl rfl|refine .cons rfl ?_)))))
    refine .cut (fun fs w=>∃p,ke fs ⟨183,[],[(79,.bool p),(12,.bool (left||decide (0<gi lf k))),(13,I (k:Int)),(11,I to),(46,I (k:Int)),(45,I ((n+1:Nat):Int)),(44,.slice (some ⟨b21,0,none⟩) (n+1) cap),(7,.slice (some ⟨b24,0,none⟩) (n+1) (n+1)),(0,.slice am (n+1) cm),(6,.slice (some ⟨b21,0,none⟩) (n+1) cap),(9,.slice ad s.cost.length cd),(10,.slice ab s.by_.length cb)]⟩∧(p=true→0<gi lf k∧gi s.cost k≠free)∧(p=false→¬0<gi lf k∨gi s.cost k=free∨0≤to)∧St H2 w (.blk b24 (bs.map (ptr (n+1)))::(jU bs Fs++(.blk b21 (Is lf++sp)::σ)))) ?_ ?_
    ·refine .draw mix rfl hs fun w hs=>?_
     refine .zw 0 rfl zm ?_;refine .z 1 rfl km ?_;refine .z 2 rfl zm ?_
     refine .gX (t':=58) rfl (fun hb58=>?_) (fun hb58=>?_)
     ·refine .zw 3 rfl zm ?_;refine .z 4 rfl zm ?_
      refine .ixX (enc:=fun x=>[I x]) (i:=5) hs rfl aD (.some rfl rfl) hRd rfl rfl ae ai (bB (l:=s.cost) (i:=k) an) rfl ?_;intro b61 o61 hc61;replace hc61:=bL.one hc61
      refine .r (i:=6) hs rfl aD (.some rfl rfl) (aJ rfl af hc61) ?_
      refine .zw 7 rfl gE ?_;refine .z 8 rfl zpT ?_;refine .z 9 rfl zm ?_
      refine .AS (t':=65) rfl (fun hb65=>?_) (fun hb65=>?_)
      ·refine .zw 10 rfl zm ?_;refine .z 11 rfl fM ?_;refine .z 12 rfl zm ?_
       refine .gX (t':=68) rfl (fun hb68=>?_) (fun hb68=>?_)
       ·refine .F 13 rfl (.F 14 rfl (.F 15 rfl (.F 16 rfl (.F 17 rfl (.F 18 rfl (.F 19 rfl (.F 20 rfl (.F 21 rfl (.zw 22 rfl zpT ?_)))))))));refine .z 23 rfl zpT ?_
        refine .DT hs ?_
        exact nT ⟨_,aU,by
         intro hp
         first
          |(cases hp;done)
          |exact ⟨by assumption,by assumption⟩,by
         intro hp
         first
          |(cases hp;done)
          |exact .inl df
          |exact .inr (.inl fO)
          |exact .inr (.inr an),hs⟩
       ·refine .zw 13 rfl zm ?_;refine .z 14 rfl zm ?_
        refine .ixX (enc:=fun x=>[I x]) (i:=15) hs rfl aD (.some rfl rfl) hRd rfl rfl ae ai (bB (l:=s.cost) (i:=k) an) rfl ?_;intro b71 o71 hc71;replace hc71:=bL.one hc71
        refine .r (i:=16) hs rfl aD (.some rfl rfl) (aJ rfl af hc71) ?_
        refine .zw 17 rfl zm ?_;refine .z 18 rfl zm ?_
        refine .ixX (enc:=fun x=>[I x]) (i:=19) hs rfl aD (.some rfl rfl) hRd rfl rfl ae ai (bB (l:=s.cost) (i:=to.toNat) an) an ?_;intro b75 o75 hc75;replace hc75:=bL.one hc75
        refine .r (i:=20) hs rfl aD (.some rfl rfl) (aJ rfl af hc75) ?_
        refine .zw 21 rfl fM ?_;refine .z 22 rfl zpF ?_;refine .z 23 rfl zpT ?_
        refine .DT hs ?_
        exact nT ⟨_,aU,by
         intro hp
         first
          |(cases hp;done)
          |exact ⟨by assumption,by assumption⟩,by
         intro hp
         first
          |(cases hp;done)
          |exact .inl df
          |exact .inr (.inl fO)
          |exact .inr (.inr an),hs⟩
      ·refine .F 10 rfl (.F 11 rfl ?_)
       refine .F 12 rfl (.F 13 rfl (.F 14 rfl (.F 15 rfl (.F 16 rfl (.F 17 rfl (.F 18 rfl (.F 19 rfl (.F 20 rfl (.F 21 rfl (.F 22 rfl (.zw 23 rfl zpF (.DT hs ?_))))))))))))
       exact nT ⟨_,aU,by
        intro hp
        first
         |(cases hp;done)
         |exact ⟨by assumption,by assumption⟩,by
        intro hp
        first
         |(cases hp;done)
         |exact .inl df
         |exact .inr (.inl fO)
         |exact .inr (.inr an),hs⟩
     ·refine .F 3 rfl (.F 4 rfl (.F 5 rfl (.F 6 rfl (.F 7 rfl (.zw 8 rfl zpF ?_)))));refine .z 9 rfl zm ?_
      refine .F 10 rfl (.F 11 rfl ?_)
      refine .F 12 rfl (.F 13 rfl (.F 14 rfl (.F 15 rfl (.F 16 rfl (.F 17 rfl (.F 18 rfl (.F 19 rfl (.F 20 rfl (.F 21 rfl (.F 22 rfl (.zw 23 rfl zpF (.DT hs ?_))))))))))))
      exact nT ⟨_,aU,by
       intro hp
       first
        |(cases hp;done)
        |exact ⟨by assumption,by assumption⟩,by
       intro hp
       first
        |(cases hp;done)
        |exact .inl df
        |exact .inr (.inl fO)
        |exact .inr (.inr an),hs⟩
    ·rintro fs w ⟨p,hfs,hp1,hp2,hs⟩
     refine WE.sub ?_ hfs
     refine (.cond rfl (fun hc79=>?_) (fun hc79=>?_))
     ·refine .region (.z zm (.zn zg (nB (nT ?_))))
      obtain ⟨g1,g2⟩:=hp1 hc79
      exact .mk ⟨(k:Int),_,rfl,hSc.take g1 g2,hs⟩
     ·refine .skip (nB (nT ?_))
      exact .mk ⟨to,_,rfl,hSc.skip (hp2 hc79),hs⟩
   ·refine .T (.z zm (.T (.z km (.z zpF (.zn zg (WE.sub (t:=⟨183,[],[(12,.bool (left||decide (0<gi lf k))),(13,I (k:Int)),(14,I (gi lf k)),(11,I to),(46,I (k:Int)),(45,I ((n+1:Nat):Int)),(44,.slice (some ⟨b21,0,none⟩) (n+1) cap),(7,.slice (some ⟨b24,0,none⟩) (n+1) (n+1)),(0,.slice am (n+1) cm),(6,.slice (some ⟨b21,0,none⟩) (n+1) cap),(9,.slice ad s.cost.length cd),(10,.slice ab s.by_.length cb)]⟩) ?_ (by first|exact .Jm rfl (by simp_all) aU|repeat (first|exact .nil rfl rfl|refine .cons rfl ?_))))))))
    refine .cut (fun fs w=>∃p,ke fs ⟨183,[],[(79,.bool p),(12,.bool (left||decide (0<gi lf k))),(13,I (k:Int)),(11,I to),(46,I (k:Int)),(45,I ((n+1:Nat):Int)),(44,.slice (some ⟨b21,0,none⟩) (n+1) cap),(7,.slice (some ⟨b24,0,none⟩) (n+1) (n+1)),(0,.slice am (n+1) cm),(6,.slice (some ⟨b21,0,none⟩) (n+1) cap),(9,.slice ad s.cost.length cd),(10,.slice ab s.by_.length cb)]⟩∧(p=true→0<gi lf k∧gi s.cost k≠free)∧(p=false→¬0<gi lf k∨gi s.cost k=free∨0≤to)∧St H2 w (.blk b24 (bs.map (ptr (n+1)))::(jU bs Fs++(.blk b21 (Is lf++sp)::σ)))) ?_ ?_
    ·refine .draw mix rfl hs fun w hs=>?_
     refine .zw 0 rfl zm ?_;refine .z 1 rfl km ?_;refine .z 2 rfl zm ?_
     refine .gX (t':=58) rfl (fun hb58=>?_) (fun hb58=>?_)
     ·refine .zw 3 rfl zm ?_;refine .z 4 rfl zm ?_
      refine .ixX (enc:=fun x=>[I x]) (i:=5) hs rfl aD (.some rfl rfl) hRd rfl rfl ae ai (bB (l:=s.cost) (i:=k) an) rfl ?_;intro b61 o61 hc61;replace hc61:=bL.one hc61
      refine .r (i:=6) hs rfl aD (.some rfl rfl) (aJ rfl af hc61) ?_
      refine .zw 7 rfl gE ?_;refine .z 8 rfl zpT ?_;refine .z 9 rfl zm ?_
      refine .AS (t':=65) rfl (fun hb65=>?_) (fun hb65=>?_)
      ·refine .zw 10 rfl zm ?_;refine .z 11 rfl fM ?_;refine .z 12 rfl zm ?_
       refine .gX (t':=68) rfl (fun hb68=>?_) (fun hb68=>?_)
       ·refine .F 13 rfl (.F 14 rfl (.F 15 rfl (.F 16 rfl (.F 17 rfl (.F 18 rfl (.F 19 rfl (.F 20 rfl (.F 21 rfl (.zw 22 rfl zpT ?_)))))))));refine .z 23 rfl zpT ?_
        refine .DT hs ?_
        exact nT ⟨_,aU,by
         intro hp
         first
          |(cases hp;done)
          |exact ⟨by assumption,by assumption⟩,by
         intro hp
         first
          |(cases hp;done)
          |exact .inl df
          |exact .inr (.inl fO)
          |exact .inr (.inr an),hs⟩
       ·refine .zw 13 rfl zm ?_;refine .z 14 rfl zm ?_
        refine .ixX (enc:=fun x=>[I x]) (i:=15) hs rfl aD (.some rfl rfl) hRd rfl rfl ae ai (bB (l:=s.cost) (i:=k) an) rfl ?_;intro b71 o71 hc71;replace hc71:=bL.one hc71
        refine .r (i:=16) hs rfl aD (.some rfl rfl) (aJ rfl af hc71) ?_
        refine .zw 17 rfl zm ?_;refine .z 18 rfl zm ?_
        refine .ixX (enc:=fun x=>[I x]) (i:=19) hs rfl aD (.some rfl rfl) hRd rfl rfl ae ai (bB (l:=s.cost) (i:=to.toNat) an) an ?_;intro b75 o75 hc75;replace hc75:=bL.one hc75
        refine .r (i:=20) hs rfl aD (.some rfl rfl) (aJ rfl af hc75) ?_
        refine .zw 21 rfl fM ?_;refine .z 22 rfl zpF ?_;refine .z 23 rfl zpT ?_
        refine .DT hs ?_
        exact nT ⟨_,aU,by
         intro hp
         first
          |(cases hp;done)
          |exact ⟨by assumption,by assumption⟩,by
         intro hp
         first
          |(cases hp;done)
          |exact .inl df
          |exact .inr (.inl fO)
          |exact .inr (.inr an),hs⟩
      ·refine .F 10 rfl (.F 11 rfl ?_)
       refine .F 12 rfl (.F 13 rfl (.F 14 rfl (.F 15 rfl (.F 16 rfl (.F 17 rfl (.F 18 rfl (.F 19 rfl (.F 20 rfl (.F 21 rfl (.F 22 rfl (.zw 23 rfl zpF (.DT hs ?_))))))))))))
       exact nT ⟨_,aU,by
        intro hp
        first
         |(cases hp;done)
         |exact ⟨by assumption,by assumption⟩,by
        intro hp
        first
         |(cases hp;done)
         |exact .inl df
         |exact .inr (.inl fO)
         |exact .inr (.inr an),hs⟩
     ·refine .F 3 rfl (.F 4 rfl (.F 5 rfl (.F 6 rfl (.F 7 rfl (.zw 8 rfl zpF ?_)))));refine .z 9 rfl zm ?_
      refine .F 10 rfl (.F 11 rfl ?_)
      refine .F 12 rfl (.F 13 rfl (.F 14 rfl (.F 15 rfl (.F 16 rfl (.F 17 rfl (.F 18 rfl (.F 19 rfl (.F 20 rfl (.F 21 rfl (.F 22 rfl (.zw 23 rfl zpF (.DT hs ?_))))))))))))
      exact nT ⟨_,aU,by
       intro hp
       first
        |(cases hp;done)
        |exact ⟨by assumption,by assumption⟩,by
       intro hp
       first
        |(cases hp;done)
        |exact .inl df
        |exact .inr (.inl fO)
        |exact .inr (.inr an),hs⟩
    ·rintro fs w ⟨p,hfs,hp1,hp2,hs⟩
     refine WE.sub ?_ hfs
     refine (.cond rfl (fun hc79=>?_) (fun hc79=>?_))
     ·refine .region (.z zm (.zn zg (nB (nT ?_))))
      obtain ⟨g1,g2⟩:=hp1 hc79
      exact .mk ⟨(k:Int),_,rfl,hSc.take g1 g2,hs⟩
     ·refine .skip (nB (nT ?_))
      exact .mk ⟨to,_,rfl,hSc.skip (hp2 hc79),hs⟩
  ·rintro fr w ⟨to,left,rfl,hSc,hs⟩
   refine nT (.seq (.aj (.z zm (.zn fM (.bA rfl (fun hc83=>?_) (fun hc83=>?_))))))
   ·refine .aj (.z zm (.z zm (.o (.call Tryz.call309 rfl (wM hs (hM.mono hle02) hqM an .here hbl hqF (fun i hi=> .there (Mem.row an an))) ?_))));rintro _ w ⟨rfl,hs⟩
    refine .z zm (.z fZ (.z zg (.zn zg (.ret (rT (rB (rT (rB (Fin.gL Tryz.results301 rfl rfl ?_)))))))))
    rw [←Gy hT hC hI.nn]
    cases left with
    |false=>
     have hno:∀v<n+1,gi lf v≤0:=fun v hv=>Int.not_lt.1 fun h=>by have:=hSc.left_.2 ⟨v,hv,h⟩;cases this
     have hok:=hI.ok hin hw0 hno
     obtain ⟨q,hqf⟩:=hok.fe
     have hO:=(Cq hin hok.lt (fun i hi=>(hok.nn i hi).1) hok.full hqf).1
     have hb:=hbd _ hO
     rw [mg an]
     exact ⟨H2,_,true,hle02,rfl,.inl ⟨rfl,hO⟩,hs.tail.kl.tail⟩
    |true=>
     obtain ⟨v,hv,hp⟩:=hSc.left_.1 rfl
     have hf:=hSc.non an v hv hp
     have hO:=hI.open hin (R:=fun v=>gi s.cost v<free) (fun v hv hl=>by have:=hV.src v hv hl;omega) (hV.closed hg) hv (by rw [hf];omega) hp
     exact ⟨H2,_,false,hle02,rfl,.inr ⟨rfl,hO⟩,hs.tail.kl.tail⟩
   ·refine .skip (nT (.aj ?_))
    obtain ⟨t,rfl⟩:=Int.eq_ofNat_of_zero_le (show 0≤to by omega)
    obtain ⟨ht,htp,htf⟩:=hSc.som an
    rw [Int.toNat_natCast] at ht htp htf
    have htl:gi s.cost t<free:=by have:=hV.top t ht;omega
    obtain ⟨kk,cc,u,hB,hu,hk1,hk0,hcl,hway⟩:=hV.back hg ht htl htp
    have hW:=hway _ rfl
    have hsg:=hI.sg
    refine .z zm (.z zm (.q hs (eF (k:=t) rfl rfl ae ai rfl ht) (.q hs (eg rfl af (hm:= .there (Mem.kl .here)) (hv:=pU (bB (l:=lf) (i:=t) an) sp)) ?_)))
    refine .zn zg (.aj (.z zm (.zn zg (.seq (.block (.loop (fun p:Nat×Nat=>⟨183,[],[(16,I (p.2:Int)),(15,I (least es ts (gi lf t) (jL s.by_ t p.1))),(11,I (t:Int)),(7,.slice (some ⟨b24,0,none⟩) (n+1) (n+1)),(0,.slice am (n+1) cm),(6,.slice (some ⟨b21,0,none⟩) (n+1) cap),(9,.slice ad s.cost.length cd),(10,.slice ab s.by_.length cb)]⟩) (fun p w=>AtW s.by_ t kk u p.1 p.2∧(p.2<n+1∧gi s.cost p.2<free)∧St H2 w (.blk b24 (bs.map (ptr (n+1)))::(jU bs Fs++(.blk b21 (Is lf++sp)::σ)))) (fun p=>kk - p.1) (0,t) aU ⟨.start hB,⟨ht,htl⟩,hs⟩ ?_))))))
    rintro ⟨i,v⟩ w ⟨hA,⟨hv,hvf⟩,hs⟩
    dsimp only at hA hv hvf ⊢
    have hby:=hV.by1 v hv hvf
    refine .cut (fun fs w=>ke fs ⟨183,[],[(16,I (v:Int)),(15,I (least es ts (gi lf t) (jL s.by_ t i))),(11,I (t:Int)),(7,.slice (some ⟨b24,0,none⟩) (n+1) (n+1)),(0,.slice am (n+1) cm),(6,.slice (some ⟨b21,0,none⟩) (n+1) cap),(9,.slice ad s.cost.length cd),(10,.slice ab s.by_.length cb)]⟩∧0≤(ga s.by_ v).l∧St H2 w (.blk b24 (bs.map (ptr (n+1)))::(jU bs Fs++(.blk b21 (Is lf++sp)::σ)))) ?_ ?_
    ·refine .aj (.z zm (.z zm (.q hs (eF (k:=v) rfl rfl ae ai rfl hv) (.q hs (eg rfl af (hm:= .there (Mem.kl .here)) (hv:=pU (bB (l:=lf) (i:=v) an) sp)) ?_))))
     refine .z uj (.z zm (.gX (t':=99) rfl (fun hb99=>?_) (fun hb99=>?_)))
     ·refine .Fs 6 5 false (.zn zpT (.cT (.skip (nT ?_))))
      exact ⟨aU,by
       rcases hby with ⟨_,h,_⟩|h
       ·omega
       ·exact h.1,hs⟩
     ·refine .T (.z zm (.T (.z zm (.T (.ixX (enc:=nf es) hs hRb rfl rfl dL du (xf (l:=s.by_) (i:=v) an) rfl ?_)))));intro b102 o102 hc102
      rw [rQ] at hc102
      refine .T (.z (zfa dA) (.T (.q hs (aJ rfl af (hc102.get 0 rfl)) (.T (.z uj (.zn zpF (.bA rfl (fun hc106=>?_) (fun hc106=>?_))))))))
      ·refine .skip (nT ?_)
       exact ⟨aU,FD hc106,hs⟩
      ·refine .exit (xT (xT (xB (nT (.aj ?_)))))
       obtain ⟨ei,ev⟩:=hA.stop (DI hc106)
       subst ei;subst ev
       obtain ⟨m0,m1,m2,m3⟩:=vM hI.lt.symm hnum hW
       have hsv:=hsg v hv
       have hst:=hsg t ht
       have hmu:min (least es ts (gi lf t) (jL s.by_ t i)) (-gi lf v)=su es ts lf (jL s.by_ t i).reverse v t:=by
        unfold su
        rw [Et,←Aq,Int.min_comm]
       have hsend:=hI.send hnum hW (by rw [List.length_reverse,iS];omega)
       have hmem:∀x∈jL s.by_ t i,x∈dx es ts:=fun x hx=>hW.mem x (List.mem_reverse.2 hx)
       rw [CT (fun x hx=>(kF hI.lt.symm hnum (hmem x hx)).2.1)] at hsend
       generalize hm:su es ts lf (jL s.by_ t i).reverse v t=m at*
       have hvt:v≠t:=fun e=>by have:=hW.lu;rw [e] at this;omega
       refine .z zm (.z zm (.z zm (.q hs (eF (k:=v) rfl rfl ae ai rfl hv) (.q hs (eg rfl af (hm:= .there (Mem.kl .here)) (hv:=pU (bB (l:=lf) (i:=v) an) sp)) ?_))))
       refine .z BQ (.z zR ?_)
       rw [hmu]
       refine .zn zg (.seq (.aj (.z zm (.zn zg (.block (.loop (fun p:Nat×Nat×List (List Int)=>⟨183,[],[(18,I (p.2.1:Int)),(16,I (v:Int)),(15,I m),(11,I (t:Int)),(7,.slice (some ⟨b24,0,none⟩) (n+1) (n+1)),(0,.slice am (n+1) cm),(6,.slice (some ⟨b21,0,none⟩) (n+1) cap),(9,.slice ad s.cost.length cd),(10,.slice ab s.by_.length cb)]⟩) (fun p w=>AtW s.by_ t i v p.1 p.2.1∧(p.2.1<n+1∧gi s.cost p.2.1<free)∧(Sq (n+1) p.2.2∧xE (n+1) es (fQ es m ts (jL s.by_ t p.1)) (gt p.2.2))∧St H2 w (.blk b24 (bs.map (ptr (n+1)))::(jU bs p.2.2++(.blk b21 (Is lf++sp)::σ)))) (fun p=>i - p.1) (0,t,Fs) aU ⟨.start hB,⟨ht,htl⟩,⟨hqF,hC⟩,hs⟩ ?_))))))
       clear hA hby
       rintro ⟨j,y,Fs'⟩ w ⟨hA,⟨hy,hyf⟩,⟨hqF',hC'⟩,hs⟩
       dsimp only at hA hy hyf hqF' hC' hs ⊢
       have hfl':=hqF'.1
       refine .seq (.aj (.z zm (.z zm (.zn gE (.dV rfl (fun hc135=>?_) (fun hc135=>?_))))))
       ·refine .skip (nT (.seq (.block (.aj ?_))))
        have hl0:=hA.ne an
        obtain ⟨hik,hA',htr⟩:=hA.next hl0 hu
        obtain ⟨hxm,hxt,hxf⟩:ga s.by_ y∈dx es ts∧(ga s.by_ y).t=y∧gi s.cost (ga s.by_ y).f<free:=by
         rcases hV.by1 y hy hyf with ⟨h,_⟩|⟨_,h1,h2,h3,_⟩
         ·omega
         ·exact ⟨h1,h2,h3⟩
        have hxn:=(hg.ok _ hxm).1
        have hsF:=wy hl0
        have hxb:(ga s.by_ y).l.toNat<ts.length:=(kF hI.lt.symm hnum hxm).2.1
        have hpb:=Al (es:=es) (ts:=ts) (p:=jL s.by_ t j) (m:=m) an an (by rw [iS];omega) (fun x hx=>by
         have h1:=o5 (A:=fun v=>v<n+1∧gi s.cost v<free) (B:=fun x=>x∈dx es ts) (fun v hv hl=>by
          rcases hV.by1 v hv.1 hv.2 with ⟨h,_⟩|⟨_,h1,h2,h3,_⟩
          ·omega
          ·exact ⟨h1,(hg.ok _ h1).1,h3⟩) hA.bk.choose_spec ⟨ht,htl⟩ x hx
         exact (kF hI.lt.symm hnum h1).2.1) (ga s.by_ y).l.toNat
        have hnn:=hI.nn (ga s.by_ y).l.toNat (by rw [←hI.lt];exact hxb)
        have htb:=hI.tb (ga s.by_ y).l.toNat (by rw [←hI.lt];exact hxb)
        have hrm:0≤rem (n+1) lf:=dm fun v _=>by omega
        generalize hgx:ga s.by_ y=x at*
        refine .z zm (.z zm (.ixX (enc:=nf es) hs hRb rfl rfl dL du (xf (l:=s.by_) (i:=y) an) rfl ?_));intro b143 o143 hc143
        rw [hgx,rQ] at hc143
        refine .q hs (cj (vs:=[I (wz x),.bool (xH es x)]) rfl Tryz.isAgg337 du hc143) (.o (.alloc hs Kf rfl fun b19 w hs=>?_))
        refine .o (.aP (vs:=[I (wz x),.bool (xH es x)]) hs rfl rfl du fun w hs=>?_)
        refine .nil (.aj (.z (zfa kj) ?_))
        first|refine .q hs (eg rfl ui (hm:=by repeat (first|exact .here|assumption|exact Mem.row an an|refine .there ?_|refine Mem.kl ?_)) (hv:=by first|rfl|exact dt an|exact gR df an an|exact fC fO)) ?_|refine .q hs (aJ rfl ui df) ?_
        refine .nil (.cond rfl (fun hc146=>?_) (fun hc146=>?_))
        ·refine .draw mix rfl hs fun w hs=>?_
         have hnf:=DJ hc146
         obtain ⟨hcb,z,hz1,hz2⟩:=hC.back hT hxm hnf
         have hgz:gt Fs' y x.f=gi (fQ es m ts (jL s.by_ t j)) x.l.toNat:=by
          have:=hC'.arc z hz1
          rw [hz2] at hxt ⊢
          rw [←hxt];exact this.symm
         have hpu:=(hC'.push hT (y:=x) (.inr ⟨z,hz1,hz2⟩) m).2 hnf
         rw [hxt] at hpu
         rw [←nJ,←htr] at hpu
         refine .zw 0 rfl zm ?_;refine .z 1 rfl zm ?_
         refine .zw 2 rfl (eF (k:=y) rfl rfl az aA rfl hy) ?_
         first|refine .load (i:=3) hs rfl aD .none rfl aq ?_ (by repeat (first|exact .here|assumption|exact Mem.row an an|refine .there ?_|refine Mem.kl ?_)) (by first|rfl|exact dt an|exact gR df an an|exact fC fO)|refine .r (i:=3) hs rfl aD .none (aJ rfl aq df) ?_
         refine .zw 4 rfl (zfa dA) ?_
         first|refine .load (i:=5) hs rfl aD .none rfl af ?_ (by repeat (first|exact .here|assumption|exact Mem.row an an|refine .there ?_|refine Mem.kl ?_)) (by first|rfl|exact dt an|exact gR df an an|exact fC fO)|refine .r (i:=5) hs rfl aD .none (aJ rfl af df) ?_
         rw [hsF] at hs ⊢
         refine .zw 6 rfl (eF (k:=x.f) rfl rfl ae ai rfl hxn) ?_
         first|refine .load (i:=7) hs rfl aD .none rfl af ?_ (by repeat (first|exact .here|assumption|exact Mem.row an an|refine .there ?_|refine Mem.kl ?_)) (by first|rfl|exact dt an|exact gR df an an|exact fC fO)|refine .r (i:=7) hs rfl aD .none (aJ rfl af df) ?_
         refine .zw 8 rfl zm ?_;refine .z 9 rfl fY ?_
         refine .zw 10 rfl (eF (k:=x.f) rfl rfl ae ai rfl hxn) (.ET 11 hs ?_)
         refine .store hs rfl rfl ai ?_ (.there (.there (Upd.row _ an an))) (xl (by rw [hqF'.2 _ hy];exact hxn)) (s5 _ _ _);intro w hs
         refine .go (.DT hs (nB (nT (.region (.z zm (.z zm (.ixX (enc:=nf es) hs hRb rfl rfl dL du (xf (l:=s.by_) (i:=y) an) rfl ?_)))))));intro b138 o138 hc138
         rw [hgx,rQ] at hc138
         refine .z (zfa dA) (.q hs (aJ rfl af (hc138.get 0 rfl)) ?_)
         rw [hsF]
         refine .zn zg (nT ?_)
         exact ⟨(j+1,x.f,_),aU,⟨hA',⟨hxn,hxf⟩,⟨hqF'.set hy _,by rw [Ch hqF' hy hxn];exact hpu⟩,hs.tail⟩,by dsimp only;omega⟩
        ·refine .region ?_
         have hnf:=DK hl0 (by simpa using hc146)
         have hxe:=hC.J2 hT hxm hnf
         have hgz:gt Fs' x.f y=gi (fQ es m ts (jL s.by_ t j)) x.l.toNat:=by
          have:=hC'.arc x hxe
          rw [hxt] at this;exact this.symm
         have hpu:=(hC'.push hT (y:=x) (.inl hxe) m).1 hnf
         rw [hxt] at hpu
         rw [←nJ,←htr] at hpu
         refine .z zm (.z (zfa dA) ?_)
         first|refine .q hs (eg rfl af (hm:=by repeat (first|exact .here|assumption|exact Mem.row an an|refine .there ?_|refine Mem.kl ?_)) (hv:=by first|rfl|exact dt an|exact gR df an an|exact fC fO)) ?_|refine .q hs (aJ rfl af df) ?_
         rw [hsF]
         refine .q hs (eF (k:=x.f) rfl rfl az aA rfl hxn) ?_
         first|refine .q hs (eg rfl aq (hm:=by repeat (first|exact .here|assumption|exact Mem.row an an|refine .there ?_|refine Mem.kl ?_)) (hv:=by first|rfl|exact dt an|exact gR df an an|exact fC fO)) ?_|refine .q hs (aJ rfl aq df) ?_
         refine .z zm (.q hs (eF (k:=y) rfl rfl ae ai rfl hy) ?_)
         first|refine .q hs (eg rfl af (hm:=by repeat (first|exact .here|assumption|exact Mem.row an an|refine .there ?_|refine Mem.kl ?_)) (hv:=by first|rfl|exact dt an|exact gR df an an|exact fC fO)) ?_|refine .q hs (aJ rfl af df) ?_
         refine .z zm (.z cK (.q hs (eF (k:=y) rfl rfl ae ai rfl hy) (.o (.store hs rfl rfl ai ?_ (.there (.there (Upd.row _ an an))) (xl (by rw [hqF'.2 _ hxn];exact hy)) (s5 _ _ _)))));intro w hs
         refine .nil (nB (nT (.region (.z zm (.z zm (.ixX (enc:=nf es) hs hRb rfl rfl dL du (xf (l:=s.by_) (i:=y) an) rfl ?_))))));intro b138 o138 hc138
         rw [hgx,rQ] at hc138
         refine .z (zfa dA) (.q hs (aJ rfl af (hc138.get 0 rfl)) ?_)
         rw [hsF]
         refine .zn zg (nT ?_)
         exact ⟨(j+1,x.f,_),aU,⟨hA',⟨hxn,hxf⟩,⟨hqF'.set hxn _,by rw [Ch hqF' hxn hy];exact hpu⟩,hs.tail⟩,by dsimp only;omega⟩
       ·refine .exit (xT (xT (xB (nT (.aj ?_)))))
        have hyv:y=v:=by omega
        subst hyv
        obtain ⟨ej,-⟩:=hA.stop hu
        subst ej
        refine .z zm (.z zm (.q hs (eF (k:=y) rfl rfl ae ai rfl hv) (.q hs (eg rfl af (hm:= .there (Mem.kl .here)) (hv:=pU (bB (l:=lf) (i:=y) an) sp)) ?_)))
        refine .z zm (.z cK (.q hs (eF (k:=y) rfl rfl ae ai rfl hv) (.o (.store hs rfl rfl ai ?_ (.there (Upd.kl .here)) (by simp;omega) (BX an _ sp)))));intro w hs
        refine .nil (.region (.z zm (.z zm (.q hs (eF (k:=t) rfl rfl ae ai rfl ht) ?_))))
        have hgt:gi (lf.set y (gi lf y+m)) t=gi lf t:=by rw [fb an,if_neg (Ne.symm hvt)]
        refine .q hs (eg rfl af (hm:= .there (Mem.kl .here)) (hv:=pU (bB (l:=lf.set y (gi lf y+m)) (i:=t) (by rw [List.length_set];omega)) sp)) ?_
        refine .z zm (.z fY (.q hs (eF (k:=t) rfl rfl ae ai rfl ht) (.o (.store hs rfl rfl ai ?_ (.there (Upd.kl .here)) (by simp;omega) (BX (by rw [List.length_set];omega) _ sp)))));intro w hs
        refine .nil (nB (nT ?_))
        have hrm:0≤rem (n+1) (Ao lf m y t):=dm fun v _=>by omega
        exact ⟨(Fs',fQ es m ts (jL s.by_ t j),Ao lf m y t),aU,⟨⟨hqF',hC',hsend.1⟩,H2,hle02,hs⟩,by dsimp only;have:=hsend.2;omega⟩
    ·rintro fs w ⟨hfs,hl0,hs⟩
     refine WE.sub ?_ hfs
     obtain ⟨hik,hA',htr⟩:=hA.next hl0 hu
     obtain ⟨hxm,hxt,hxf⟩:ga s.by_ v∈dx es ts∧(ga s.by_ v).t=v∧gi s.cost (ga s.by_ v).f<free:=by
      rcases hby with ⟨h,_⟩|⟨_,h1,h2,h3,_⟩
      ·omega
      ·exact ⟨h1,h2,h3⟩
     have hxn:=(hg.ok _ hxm).1
     have hsF:=wy hl0
     generalize hgx:ga s.by_ v=x at*
     refine .block (.aj (.z zm (.z zm (.ixX (enc:=nf es) hs hRb rfl rfl dL du (xf (l:=s.by_) (i:=v) an) rfl ?_))));intro b109 o109 hc109
     rw [hgx,rQ] at hc109
     refine .q hs (cj (vs:=[I (wz x),.bool (xH es x)]) rfl Tryz.isAgg337 du hc109) (.o (.alloc hs Kf rfl fun b17 w hs=>?_))
     refine .o (.aP (vs:=[I (wz x),.bool (xH es x)]) hs rfl rfl du fun w hs=>?_)
     refine .nil (.seq (.aj (.z (zfa kj) ?_)))
     first|refine .q hs (eg rfl ui (hm:=by repeat (first|exact .here|assumption|exact Mem.row an an|refine .there ?_|refine Mem.kl ?_)) (hv:=by first|rfl|exact dt an|exact gR df an an|exact fC fO)) ?_|refine .q hs (aJ rfl ui df) ?_
     refine .nil (.cond rfl (fun hc112=>?_) (fun hc112=>?_))
     ·refine .draw mix rfl hs fun w hs=>?_
      refine .zw 0 rfl zm ?_;refine .z 1 rfl zm ?_;refine .z 2 rfl zm ?_
      refine .zw 3 rfl (eF (k:=v) rfl rfl az aA rfl hv) ?_
      first|refine .load (i:=4) hs rfl aD .none rfl aq ?_ (by repeat (first|exact .here|assumption|exact Mem.row an an|refine .there ?_|refine Mem.kl ?_)) (by first|rfl|exact dt an|exact gR df an an|exact fC fO)|refine .r (i:=4) hs rfl aD .none (aJ rfl aq df) ?_
      refine .zw 5 rfl (zfa dA) ?_
      first|refine .load (i:=6) hs rfl aD .none rfl af ?_ (by repeat (first|exact .here|assumption|exact Mem.row an an|refine .there ?_|refine Mem.kl ?_)) (by first|rfl|exact dt an|exact gR df an an|exact fC fO)|refine .r (i:=6) hs rfl aD .none (aJ rfl af df) ?_
      rw [hsF] at hs ⊢
      refine .zw 7 rfl (eF (k:=x.f) rfl rfl ae ai rfl hxn) ?_
      first|refine .load (i:=8) hs rfl aD .none rfl af ?_ (by repeat (first|exact .here|assumption|exact Mem.row an an|refine .there ?_|refine Mem.kl ?_)) (by first|rfl|exact dt an|exact gR df an an|exact fC fO)|refine .r (i:=8) hs rfl aD .none (aJ rfl af df) ?_
      refine .zw 9 rfl zR ?_;refine .z 10 rfl zg ?_
      refine .DT hs (nT (.region (.z (zfa dA) ?_)))
      first|refine .q hs (eg rfl af (hm:=by repeat (first|exact .here|assumption|exact Mem.row an an|refine .there ?_|refine Mem.kl ?_)) (hv:=by first|rfl|exact dt an|exact gR df an an|exact fC fO)) ?_|refine .q hs (aJ rfl af df) ?_
      try rw [hsF]
      refine .zn zg (nB (nT ?_))
      have hnf:=DJ hc112
      have hcb:=(hC.back hT hxm hnf).1
      rw [hxt] at hcb
      exact ⟨(i+1,x.f),.cons rfl (.cJ rfl (by dsimp only;rw [htr,nv,if_neg hnf,hcb]) aU),⟨hA',⟨hxn,hxf⟩,hs.tail⟩,by dsimp only;omega⟩
     ·refine .skip (nT (.region (.z (zfa dA) ?_)))
      first|refine .q hs (eg rfl af (hm:=by repeat (first|exact .here|assumption|exact Mem.row an an|refine .there ?_|refine Mem.kl ?_)) (hv:=by first|rfl|exact dt an|exact gR df an an|exact fC fO)) ?_|refine .q hs (aJ rfl af df) ?_
      try rw [hsF]
      refine .zn zg (nB (nT ?_))
      have hnf:=DK hl0 (by simpa using hc112)
      exact ⟨(i+1,x.f),.cons rfl (.cJ rfl (by dsimp only;rw [htr,nv,if_pos hnf]) aU),⟨hA',⟨hxn,hxf⟩,hs.tail⟩,by dsimp only;omega⟩
theorem jN{p:Prop}[Decidable p]:(!decide p)=true↔¬p:=by simp
theorem iY{p:Prop}[Decidable p]:(!decide p)=false↔p:=by simp
theorem fU{a0 a1 a2:Int}(hs:St H w σ):Cl Tryz.prog 253 [I a0,I a1,I a2] w fun v w'=>v= .bool (decide (a1≤a0∧a0≤a2))∧St H w' σ:=by
 refine Cl.o Tryz.func253 Tryz.ntmps253 ag3 ?_
 refine .aj (.zn zg (.aj (.z zm (.z zm (.z nF (.z zm (.gX (t':=10) rfl (fun hb10=>?_) (fun hb10=>?_))))))))
 ·refine .T (.z zm (.T (.z zm (.T (.z nF (.z zpT (.zn zg (.ret (Fin.bE Tryz.results253 rfl ?_)))))))))
  exact ⟨by simp [*],hs.out⟩
 ·refine .Fs 3 3 true (.z zpF (.zn zg (.ret (Fin.bE Tryz.results253 rfl ?_))))
  exact ⟨by simp [*],hs.out⟩
theorem pq{many:Int}{l:Lim}(hs:St H w σ):Cl Tryz.prog 256 [I many,.agg l.c.toArray] w fun v w'=>v=I (if decide (0≤many∧many≤64)&&l.ok many then 0 else 20)∧St H w' σ:=by
 refine Cl.o Tryz.func256 Tryz.ntmps256 ag2 ?_
 refine .aj (.bx hs fun b3 w hs=>?_)
 refine .zn zg (.seq (.aj (.z zm (.o (.call Di rfl (fU hs) ?_)))));rintro _ w ⟨rfl,hs⟩
 refine .z fZ (.z zm (.bif (t':=8) rfl (fun hb8=>?_) (fun hb8=>?_)))
 ·refine .Fs 5 3 false (.z zpT (.z zm (.Fs 5 10 false (.z zpT (.z zm (.Fs 5 17 false (.z zpT (.z zm (.Fs 4 24 false (.z zpT (.z zm (.Fs 4 30 false (.zn zpT (.cT (.aj (.zn zg (.ret (rT (Fin.bE oB rfl ?_)))))))))))))))))))
  (try simp only [jN] at*)
  (try simp only [iY] at*)
  refine ⟨congrArg I ?_,hs.out⟩
  unfold Lim.ok
  first
   |(rw [if_pos (by simp only [Bool.and_eq_true,decide_eq_true_eq];omega)];done)
   |(rw [if_neg (by simp only [Bool.and_eq_true,decide_eq_true_eq];omega)];done)
 ·refine .T (.z (zfa eN) (.T (.y hs (zld af) (.T (.z zm (.T (.o (.call Di rfl (fU hs) ?_))))))));rintro _ w ⟨rfl,hs⟩
  refine .T (.z fZ (.z zpF (.z zm (.bif (t':=15) rfl (fun hb15=>?_) (fun hb15=>?_)))))
  ·refine .Fs 5 10 false (.z zpT (.z zm (.Fs 5 17 false (.z zpT (.z zm (.Fs 4 24 false (.z zpT (.z zm (.Fs 4 30 false (.zn zpT (.cT (.aj (.zn zg (.ret (rT (Fin.bE oB rfl ?_))))))))))))))))
   (try simp only [jN] at*)
   (try simp only [iY] at*)
   refine ⟨congrArg I ?_,hs.out⟩
   unfold Lim.ok
   first
    |(rw [if_pos (by simp only [Bool.and_eq_true,decide_eq_true_eq];omega)];done)
    |(rw [if_neg (by simp only [Bool.and_eq_true,decide_eq_true_eq];omega)];done)
  ·refine .T (.z (zfa fi) (.T (.y hs (zld af) (.T (.z zm (.T (.o (.call Di rfl (fU hs) ?_))))))));rintro _ w ⟨rfl,hs⟩
   refine .T (.z fZ (.z zpF (.z zm (.bif (t':=22) rfl (fun hb22=>?_) (fun hb22=>?_)))))
   ·refine .Fs 5 17 false (.z zpT (.z zm (.Fs 4 24 false (.z zpT (.z zm (.Fs 4 30 false (.zn zpT (.cT (.aj (.zn zg (.ret (rT (Fin.bE oB rfl ?_)))))))))))))
    (try simp only [jN] at*)
    (try simp only [iY] at*)
    refine ⟨congrArg I ?_,hs.out⟩
    unfold Lim.ok
    first
     |(rw [if_pos (by simp only [Bool.and_eq_true,decide_eq_true_eq];omega)];done)
     |(rw [if_neg (by simp only [Bool.and_eq_true,decide_eq_true_eq];omega)];done)
   ·refine .T (.z (zfa eN) (.T (.y hs (zld af) (.T (.z (zfa fi) (.T (.y hs (zld af) (.T (.z fm (.z zpF (.z zm (.gX (t':=29) rfl (fun hb29=>?_) (fun hb29=>?_)))))))))))))
    ·refine .Fs 4 24 false (.z zpT (.z zm (.Fs 4 30 false (.zn zpT (.cT (.aj (.zn zg (.ret (rT (Fin.bE oB rfl ?_))))))))))
     (try simp only [jN] at*)
     (try simp only [iY] at*)
     refine ⟨congrArg I ?_,hs.out⟩
     unfold Lim.ok
     first
      |(rw [if_pos (by simp only [Bool.and_eq_true,decide_eq_true_eq];omega)];done)
      |(rw [if_neg (by simp only [Bool.and_eq_true,decide_eq_true_eq];omega)];done)
    ·refine .T (.z (zfa gU) (.T (.y hs (zld af) (.T (.o (.call Di rfl (fU hs) ?_))))));rintro _ w ⟨rfl,hs⟩
     refine .T (.z fZ (.z zpF (.z zm (.bif (t':=35) rfl (fun hb35=>?_) (fun hb35=>?_)))))
     ·refine .Fs 4 30 false (.zn zpT (.cT (.aj (.zn zg (.ret (rT (Fin.bE oB rfl ?_)))))))
      (try simp only [jN] at*)
      (try simp only [iY] at*)
      refine ⟨congrArg I ?_,hs.out⟩
      unfold Lim.ok
      first
       |(rw [if_pos (by simp only [Bool.and_eq_true,decide_eq_true_eq];omega)];done)
       |(rw [if_neg (by simp only [Bool.and_eq_true,decide_eq_true_eq];omega)];done)
     ·refine .T (.z (zfa kG) (.T (.y hs (zld af) (.T (.o (.call Di rfl (fU hs) ?_))))));rintro _ w ⟨rfl,hs⟩
      refine .T (.z fZ (.zn zpF (.cond rfl (fun hc40=>?_) (fun hc40=>?_))))
      ·refine .aj (.zn zg (.ret (rT (Fin.bE oB rfl ?_))))
       (try simp only [jN] at*)
       (try simp only [iY] at*)
       refine ⟨congrArg I ?_,hs.out⟩
       unfold Lim.ok
       first
        |(rw [if_pos (by simp only [Bool.and_eq_true,decide_eq_true_eq];omega)];done)
        |(rw [if_neg (by simp only [Bool.and_eq_true,decide_eq_true_eq];omega)];done)
      ·refine .skip (nT (.aj (.zn zg (.ret (Fin.bE oB rfl ?_)))))
       (try simp only [jN] at*)
       (try simp only [iY] at*)
       refine ⟨congrArg I ?_,hs.out⟩
       unfold Lim.ok
       first
        |(rw [if_pos (by simp only [Bool.and_eq_true,decide_eq_true_eq];omega)];done)
        |(rw [if_neg (by simp only [Bool.and_eq_true,decide_eq_true_eq];omega)];done)
theorem oe{v:Value}{s:dp}(hs:St H w σ)(hr:RSy H v s):Cl Tryz.prog 206 [v] w fun v w'=>v=I s.check∧St H w' σ:=by
 obtain ⟨u,rfl,hr⟩:=hr
 obtain ⟨a,c,rfl⟩:=RL.shape hr
 have hlen:=(RS.len (RS.JO hr (Nat.le_refl _) (cap':=s.dk.length))).2.2
 refine Cl.o Tryz.func206 Tryz.ntmps206 ag1 ?_
 refine .aj (.bx hs fun b1 w hs=>?_)
 refine .zn zg (.seq (.aj (.z (zfa cE) (.y hs (zld af) (.o (.call Di rfl (fU hs) ?_))))));rintro _ w ⟨rfl,hs⟩
 refine .zn fZ (.cond rfl (fun hc8=>?_) (fun hc8=>?_))
 ·refine .aj (.zn zg (.ret (rT (Fin.bE Tryz.results206 rfl ?_))))
  exact ⟨congrArg I (by unfold dp.check;rw [if_pos (by simp at hc8;omega)]),hs.out⟩
 ·refine .skip (nT (.seq (.aj (.z (zfa cN) (.y hs (zld dz) (.z (dc a8) (.zn km (.bA rfl (fun hc12=>?_) (fun hc12=>?_)))))))))
  ·refine .aj (.zn zg (.ret (rT (Fin.bE Tryz.results206 rfl ?_))))
   exact ⟨congrArg I (by unfold dp.check;rw [if_neg (by simpa using hc8),if_pos an]),hs.out⟩
  ·refine .skip (nT (.seq (.aj (.z (zfa cN) (.y hs (zld dz) (.z (dc a8) (.zn zm (.for (N:=s.dk.length) (J:=fun k fr w=>fr=[(14,.slice a s.dk.length c),(1,Pt b1)]∧(∀j<k,∀l,s.dk[j]? =some l→l.ok s.many=true)∧St H w (.blk b1 [I s.many,.slice a s.dk.length c]::σ)) an ?_ ?_ ?_))))))))
   ·exact .mk ⟨rfl,fun j hj=>by omega,hs⟩
   ·rintro k fr w hk ⟨rfl,hno,hs⟩
    obtain ⟨x,hx⟩:=nth (l:=s.dk) hk
    refine .block (.aj (.ixX (enc:=Lim.c) hs hr rfl rfl a8 bJ hx rfl ?_));intro b18 o18 hc18
    refine .q hs (cj (vs:=x.c) rfl gw bJ hc18) (.o (.alloc hs eL rfl fun b4 w hs=>?_))
    refine .o (.aP (vs:=x.c) hs rfl rfl bJ fun w hs=>?_)
    refine .nil (.aj (.z (zfa cE) (.y hs (zld af) (.q hs (k9 (vs:=x.c) rfl gw bJ) (.o (.call Tryz.call256 rfl (pq hs) ?_))))));rintro _ w ⟨rfl,hs⟩
    have hmm:0≤s.many∧s.many≤64:=by simpa using hc8
    rw [show (decide (0≤s.many∧s.many≤64)&&x.ok s.many)=x.ok s.many by rw [decide_eq_true hmm];rfl]
    refine .zn gE (.dV rfl (fun hc24=>?_) (fun hc24=>?_))
    ·refine .aj (.zn zg (.ret (rB (rT (rB (rT (Fin.bE Tryz.results206 rfl ?_)))))))
     exact ⟨congrArg I (by
      have hx0:x.ok s.many=false:=by cases e:x.ok s.many with|false=>rfl|true=>rw [e] at hc24;simp at hc24
      unfold dp.check;rw [if_neg (by simpa using hc8),if_neg an,if_pos (List.any_eq_true.2 ⟨x,List.mem_of_getElem? hx,by rw [hx0];rfl⟩)]),hs.out⟩
    ·refine .skip (nB (nT ?_))
     exact .mk ⟨rfl,fo hno hx (by cases e:x.ok s.many with|true=>rfl|false=>rw [e] at hc24;simp at hc24),hs.tail⟩
   ·rintro fr w ⟨rfl,hno,hs⟩
    refine nT (.aj (.zn zg (.ret (Fin.bE Tryz.results206 rfl ?_))))
    exact ⟨congrArg I (by
     have hall:(s.dk.any fun l=> !l.ok s.many)=false:=by
      simp only [List.any_eq_false,Bool.not_eq_true',Bool.not_eq_false]
      intro l hl
      obtain ⟨j,hj⟩:=List.getElem?_of_mem hl
      exact hno j (List.getElem?_eq_some_iff.1 hj).1 l hj
     unfold dp.check;rw [if_neg (by simpa using hc8),if_neg an,hall];rfl),hs.out⟩
theorem uR{v:Value}{ws:List Int}(hs:St H w σ)(hr:RI H v ws):Cl Tryz.prog 300 [v] w fun v w'=>∃b,v= .bool b∧(b=true↔iP ws)∧St H w' σ:=by
 obtain ⟨a,c,rfl⟩:=RI.shape hr
 have hl:=(RI.len hr).2.2
 refine Cl.o Tryz.func300 Tryz.ntmps300 ag1 ?_
 refine .aj (.zn zg (.aj (.zn zg (.seq (.aj (.z zm (.z (dc ae) (.zn zm (.for (N:=ws.length) (J:=fun k fr w=>fr=[(6,.slice a ws.length c),(3,I (bX ws k))]∧bX ws k≤3600000000000∧St H w σ) an ?_ ?_ ?_)))))))))
 ·exact .mk ⟨rfl,by simp [bX,bj],hs⟩
 ·rintro k fr w hk ⟨rfl,hle,hs⟩
  have hx:=bB hk
  have h0:0≤bX ws k:=dm fun v _=>by omega
  have h1:bX ws (k+1)=bX ws k+max (gi ws k) (-gi ws k):=rfl
  refine .block (.aj ?_)
  first|(refine .ixv hs ae ai ?_;intro b10 o10 hc10)|refine .z (zix ae ai) ?_
  refine .y hs (zld af) (.zn zg (.seq (.aj (.z zm (.z fM (.z zm (.gX (t':=14) rfl (fun hb14=>?_) (fun hb14=>?_))))))))
  ·refine .Fs 2 2 false (.zn zpT (.cT (.aj (.zn zg (.ret (rT (rB (rT (rB (rT (Fin.bE Tryz.results300 rfl ?_)))))))))))
   exact ⟨false,rfl,⟨fun h=>(by cases h),fun h=>(nh (k:=k+1) hk (by simp only [FF];omega) h).elim⟩,hs⟩
  ·refine .T (.z zm (.T (.z km (.zn zpF (.bA rfl (fun hc17=>?_) (fun hc17=>?_))))))
   ·refine .aj (.zn zg (.ret (rT (rB (rT (rB (rT (Fin.bE Tryz.results300 rfl ?_))))))))
    exact ⟨false,rfl,⟨fun h=>(by cases h),fun h=>(nh (k:=k+1) hk (by simp only [FF];omega) h).elim⟩,hs⟩
   ·refine .skip (nT (.aj (.z zm (.z zm (.z zm (.z BQ (.z A5 (.z cK (.zn zg (.aj (.z zm (.zn km (.bA rfl (fun hc25=>?_) (fun hc25=>?_))))))))))))))
    ·refine .aj (.zn zg (.ret (rB (rT (rB (rT (Fin.bE Tryz.results300 rfl ?_)))))))
     exact ⟨false,rfl,⟨fun h=>(by cases h),fun h=>(nh (k:=k+1) hk (by simp only [FF];omega) h).elim⟩,hs⟩
    ·refine .skip (nB (nT ?_))
     exact .mk ⟨rfl,an,hs⟩ (hs:= .cons rfl (.cons rfl (.cons rfl (.cJ rfl an (.nil rfl rfl)))))
 ·rintro fr w ⟨rfl,hle,hs⟩
  refine nT (.aj (.zn zg (.ret (Fin.bE Tryz.results300 rfl ?_))))
  exact ⟨true,rfl,⟨fun _=>hle,fun _=>rfl⟩,hs⟩
theorem rY{v vw:Value}{s:dp}{ws:List Int}(hs:St H w σ)(hr:RSy H v s)(hrw:RI H vw ws)(hm:0≤s.many∧s.many≤64):Cl Tryz.prog 278 [v,vw] w fun v w'=>∃b,v= .bool b∧(b=true↔(ws.length=s.n∧iP ws))∧St H w' σ:=by
 obtain ⟨u,rfl,hr⟩:=hr
 obtain ⟨aw,cw,rfl⟩:=RI.shape hrw
 have hn:(s.n:Int)=s.many+1:=by simp only [dp.n];omega
 refine Cl.o Tryz.func278 Tryz.ntmps278 ag2 ?_
 refine .aj (.bx hs fun b2 w hs=>?_)
 refine .zn zg (.aj (.z zm (.z (dc ae) (.z (zfa cE) (.y hs (zld af) (.z cK (.z fm (.z zm (.gX (t':=11) rfl (fun hb11=>?_) (fun hb11=>?_))))))))))
 ·refine .T (.z zm (.T (.o (.call Tryz.call300 rfl (uR hs hrw) ?_))));rintro _ w ⟨b,rfl,hb,hs⟩
  refine .z zpT (.zn zg (.ret (Fin.bE Tryz.results278 rfl ?_)))
  first
   |exact ⟨b,rfl,⟨fun h=>⟨an,hb.1 h⟩,fun h=>hb.2 h.2⟩,hs.out⟩
   |exact ⟨false,rfl,⟨fun h=>(by cases h),fun h=>by omega⟩,hs.out⟩
 ·refine .Fs 2 6 true (.z zpF (.zn zg (.ret (Fin.bE Tryz.results278 rfl ?_))))
  first
   |exact ⟨b,rfl,⟨fun h=>⟨an,hb.1 h⟩,fun h=>hb.2 h.2⟩,hs.out⟩
   |exact ⟨false,rfl,⟨fun h=>(by cases h),fun h=>by omega⟩,hs.out⟩
theorem uT{v vw:Value}{s:dp}{ws:List Int}(hs:St H w σ)(hr:RSy H v s)(hrw:RI H vw ws):Cl Tryz.prog 252 [v,vw] w fun v w'=>v=I (fc s ws)∧St H w' σ:=by
 obtain ⟨u,rfl,hr⟩:=hr
 obtain ⟨al,cl,rfl⟩:=RL.shape hr
 obtain ⟨aw,cw,rfl⟩:=RI.shape hrw
 refine Cl.o Tryz.func252 Tryz.ntmps252 ag2 ?_
 refine .aj (.bx hs fun b2 w hs=>?_)
 refine .zn zg (.aj (.y hs (zls [_,_] bq aI) (.o (.call Tryz.call206 rfl (oe (s:=s) hs ⟨_,rfl,hr⟩) ?_))));rintro _ w ⟨rfl,hs⟩
 refine .zn zg (.seq (.aj (.z zm (.z fm (.z zm (.gX (t':=10) rfl (fun hb10=>?_) (fun hb10=>?_)))))))
 ·refine .T ?_
  have hok:=s.dU.1 hb10
  have hm0:=hok.m0;have hm1:=hok.m1
  refine .y hs (zls [_,_] bq aI) (.T (.z zm (.T (.o (.call Tryz.call278 rfl (rY (s:=s) hs ⟨_,rfl,hr⟩ hrw ⟨hm0,hm1⟩) ?_)))));rintro _ w ⟨b,rfl,hb,hs⟩
  refine .T (.z fZ (.zn zpT (.cond rfl (fun hc15=>?_) (fun hc15=>?_))))
  ·refine .region (.zn zg (nT (.aj (.z zm (.zn zg (.ret (Fin.bE Tryz.results252 rfl (⟨congrArg I ?_,hs.out⟩))))))))
   unfold fc
   first
    |(rw [if_neg an,if_neg (fun h=>by have:=hb.2 h;simp_all)];done)
    |(rw [if_neg an,if_pos (hb.1 (by simpa using hc15))];omega)
    |(rw [if_pos df];done)
  ·refine .skip (nT (.aj (.z zm (.zn zg (.ret (Fin.bE Tryz.results252 rfl (⟨congrArg I ?_,hs.out⟩)))))))
   unfold fc
   first
    |(rw [if_neg an,if_neg (fun h=>by have:=hb.2 h;simp_all)];done)
    |(rw [if_neg an,if_pos (hb.1 (by simpa using hc15))];omega)
    |(rw [if_pos df];done)
 ·refine .Fs 4 2 true (.zn zpF (.cF (.skip (nT (.aj (.z zm (.zn zg (.ret (Fin.bE Tryz.results252 rfl (⟨congrArg I ?_,hs.out⟩))))))))))
  unfold fc
  first
   |(rw [if_neg an,if_neg (fun h=>by have:=hb.2 h;simp_all)];done)
   |(rw [if_neg an,if_pos (hb.1 (by simpa using hc15))];omega)
   |(rw [if_pos df];done)
theorem q7{v:Value}{ws:List Int}(hs:St H w σ)(hr:RI H v ws)(hl:ws.length≤1000)(hz:iP ws):Cl Tryz.prog 281 [v] w fun u w'=>∃H1,HLe H H1∧RI H1 u (uX ws)∧St H1 w' σ:=by
 obtain ⟨a,c,rfl⟩:=RI.shape hr
 have hFF:FF=3600000000000:=rfl
 unfold iP at hz
 refine Cl.o Tryz.func281 Tryz.ntmps281 ag1 ?_
 refine .aj (.zn zg (.aj (.zn zg (.seq (.aj (.z zm (.z (dc ae) (.zn zm (.for (N:=ws.length) (J:=fun k fr w=>∃v3 en,cZ 1 v3 (Is (uX (ws.take k))) en∧fr=[(3,v3),(6,.slice a ws.length c)]∧St H w (en::σ)) an ?_ ?_ ?_)))))))))
 ·exact .mk ⟨_,_,.nil 1 none,rfl,hs.nul⟩
 ·rintro k fr w hk ⟨v3,en,hO,rfl,hs⟩
  have hx:=bB hk
  have hsz:=jF ws (v:=k) (n:=ws.length) hk
  refine .block (.aj (.ixY hs hr rfl rfl ae ai hx rfl ?_));intro b10 o10 hc10
  refine .q hs (aJ rfl af hc10) (.zn zg (.region (.z zm (.z zm (.z BQ (.o (.buildSlice (cells:=[_]) hs db rfl rfl fun b15 w hs=>?_)))))))
  refine .o (.append (ys:=[I (-gi ws k)]) hs cM rfl rfl hO (.own .here rfl rfl) (by simp [Value.oneCell']) (fun l' h=>by simp [uX] at h;omega) ?_);intro v16 en16 w hO2 hs
  refine .zn zg (nB (nT ?_))
  exact .mk ⟨v16,en16,by rw [dP hx];simpa [uX] using hO2,rfl,hs.sb⟩
 ·rintro fr w ⟨v3,en,hO,rfl,hs⟩
  rw [List.take_length] at hO
  refine nT (.aj (.z zm (.zn zg (.ret (Fin.bE Tryz.results281 rfl ?_)))))
  obtain ⟨H2,g1,g2,hs⟩:=hO.dS (by simp [uX];omega) hs .here
  exact ⟨H2,g1,g2,hs⟩
theorem pn{vm vw:Value}{s:dp}{Ms:List (List Int)}{ws:List Int}(hs:St H w σ)(hM:RT H vm Ms)(hqM:Sq s.n Ms)(hT:jP s.n s.dK (gt Ms))(hrw:RI H vw ws)(hA:fc s ws=0):
  Cl Tryz.prog 280 [vm,vw] w fun u w'=>∃H1 n e,HLe H H1∧u= .tuple #[I n,I e]∧oT s ws n e∧St H1 w' σ:=by
 obtain ⟨hok,hwl,hz⟩:=mq hA
 have hinn:=hok.inn
 have hn65:=hok.n65
 have hnp:=s.CY
 obtain ⟨fs,hF⟩:=CK s.n (gt Ms)
 have hsd:=yp hok hT
 have hz2:bX ws s.n≤FF:=by unfold iP at hz;rwa [hwl] at hz
 refine Cl.o Tryz.func280 Tryz.ntmps280 ag2 ?_
 refine .aj (.z zg (.zn zg (.seq (.aj (.z zm (.o (.call Tryz.call208 rfl (od hs hM hqM an) ?_)))))));rintro _ w ⟨b,rfl,hb,hs⟩
 refine .zn fZ (.cond rfl (fun hc10=>?_) (fun hc10=>?_))
 ·refine .aj (.z zg (.zn zg (.ret (rT (Fin.gL Tryz.results280 rfl rfl ?_)))))
  have hb0:b=false:=by simpa using hc10
  exact ⟨H,0,23,HLe.refl H,rfl,wV hA (fun h=>by have:=hb.2 (hsd.1 h);rw [hb0] at this;cases this),hs⟩
 ·refine .skip (nT (.aj (.z zm (.z zm ?_))))
  have hso:s.Sound:=hsd.2 (hb.1 (by simpa using hc10))
  refine .o (.call Tryz.call301 rfl (uV (n:=s.many.toNat) (es:=fs) hs hM hqM hrw hwl hn65 hz2 hF (by obtain ⟨p,hp⟩:=hso;exact ⟨p,(hT.zT hinn hF).2 hp⟩)
   (fun x hx=>by
    obtain ⟨b1,b2,b3,b4,b5⟩:=hF.ok x hx
    have h1:=hT.up x.f x.t b1 b2 (by rw [b4];exact b5)
    have h2:=hT.low hnp hn65 hinn hso b1 b2 (by rw [b4];exact b5)
    rw [b4] at h1 h2
    exact ⟨h2,h1⟩)
   (fun m hm=>by
    have:=(hok.bd hwl hz ((hT.opt hinn hF).1 hm)).2
    exact ⟨this.2,this.1⟩)) ?_);rintro _ w ⟨H1,n,ok,hle1,rfl,hcase,hs⟩
  refine .z zm (.z zex (.z zex (.z zg (.zn zg (.seq (.aj (.z zm (.zn fZ (.cond rfl (fun hc18=>?_) (fun hc18=>?_))))))))))
  ·refine .aj (.z zg (.zn zg (.ret (rT (Fin.gL Tryz.results280 rfl rfl ?_)))))
   have hk0:ok=false:=by simpa using hc18
   rcases hcase with ⟨h,_⟩|⟨_,h⟩
   ·rw [hk0] at h;cases h
   ·exact ⟨H1,0,22,hle1,rfl,C0 hA hso hT hF h,hs⟩
  ·refine .skip (nT (.aj (.z zm (.z zg (.zn zg (.ret (Fin.gL Tryz.results280 rfl rfl ?_)))))))
   have hk0:ok=true:=by simpa using hc18
   rcases hcase with ⟨_,h⟩|⟨h,_⟩
   ·exact ⟨H1,n,0,hle1,rfl,Ek hA hT hF h,hs⟩
   ·rw [hk0] at h;cases h
theorem wL{v vw:Value}{s:dp}{ws:List Int}(hs:St H w σ)(hr:RSy H v s)(hrw:RI H vw ws)(hA:fc s ws=0):
  Cl Tryz.prog 255 [v,vw] w fun u w'=>∃H1 lo hi e,HLe H H1∧u= .tuple #[I lo,I hi,I e]∧iE s ws lo hi e∧St H1 w' σ:=by
 obtain ⟨u,rfl,hr⟩:=hr
 obtain ⟨al,cl,rfl⟩:=RL.shape hr
 obtain ⟨hok,hwl,hz⟩:=mq hA
 have hn65:=hok.n65
 have hBB:BB=4608000000000000000:=rfl
 refine Cl.o Tryz.func255 Tryz.ntmps255 ag2 ?_
 refine .aj (.bx hs fun b2 w hs=>?_)
 refine .z zg (.z zg (.zn zg (.aj (.y hs (zls [_,_] bq aI) (.o (.call Tryz.call207 rfl (po (s:=s) hs ⟨_,rfl,hr⟩ hok) ?_))))));rintro _ w ⟨H1,Ms,hle1,hM,hqM,hT,hs⟩
 refine .zn zg (.aj (.z zm (.z zm (.o (.call Tryz.call280 rfl (pn (s:=s) hs hM hqM hT (hrw.mono hle1) hA) ?_)))));rintro _ w ⟨H2,n,e,hle2,rfl,hR,hs⟩
 refine .z zm (.z zex (.z zex (.z zg (.zn zg (.seq (.aj (.z zm (.zn gE (.dV rfl (fun hc20=>?_) (fun hc20=>?_))))))))))
 ·refine .aj (.z zm (.z zg (.z zg (.zn zg (.ret (rT (Fin.G5 Tryz.results255 rfl rfl rfl ?_)))))))
  exact ⟨H2,0,0,e,hle1.trans hle2,rfl,.first hR hc20,hs.out⟩
 ·refine .skip (nT (.aj (.z zm (.z zm ?_))))
  obtain rfl:e=0:=by simpa using hc20
  refine .o (.call Tryz.call281 rfl (q7 hs ((hrw.mono hle1).mono hle2) an hz) ?_);rintro _ w ⟨H3,hle3,hN,hs⟩
  refine .o (.call Tryz.call280 rfl (pn (s:=s) (ws:=uX ws) hs ((hM.mono hle2).mono hle3) hqM hT hN (by rw [tX];exact hA)) ?_);rintro _ w ⟨H4,n2,e2,hle4,rfl,hR2,hs⟩
  refine .z zm (.z zex (.z zex (.z zg (.zn zg (.seq (.aj (.z zm (.zn gE (.dV rfl (fun hc30=>?_) (fun hc30=>?_))))))))))
  ·refine .aj (.z zm (.z zg (.z zg (.zn zg (.ret (rT (Fin.G5 Tryz.results255 rfl rfl rfl ?_)))))))
   exact ⟨H4,0,0,e2,hle1.trans (hle2.trans (hle3.trans hle4)),rfl,.second hR hR2 hc30,hs.out⟩
  ·refine .skip (nT (.aj (.z zm ?_)))
   obtain rfl:e2=0:=by simpa using hc30
   have hbd:=(hR2.2.2 rfl).2
   refine .z BQ (.z zm (.z zg (.z zg (.zn zg (.ret (Fin.G5 Tryz.results255 rfl rfl rfl ?_))))))
   exact ⟨H4,-n2,n,0,hle1.trans (hle2.trans (hle3.trans hle4)),rfl,.ok hR hR2,hs.out⟩
theorem uU{v vw:Value}{s:dp}{ws:List Int}(hs:St H w σ)(hr:RSy H v s)(hrw:RI H vw ws):
  Cl Tryz.prog 204 [v,vw] w fun u w'=>∃H1 lo hi e,HLe H H1∧u= .tuple #[I lo,I hi,I e]∧iE s ws lo hi e∧St H1 w' σ:=by
 obtain ⟨u,rfl,hr⟩:=hr
 obtain ⟨al,cl,rfl⟩:=RL.shape hr
 obtain ⟨aw,cw,rfl⟩:=RI.shape hrw
 refine Cl.o Tryz.func204 Tryz.ntmps204 ag2 ?_
 refine .aj (.bx hs fun b2 w hs=>?_)
 refine .z zg (.z zg (.zn zg (.aj (.y hs (zls [_,_] bq aI) (.z zm (.o (.call Tryz.call252 rfl (uT (s:=s) hs ⟨_,rfl,hr⟩ hrw) ?_)))))));rintro _ w ⟨rfl,hs⟩
 refine .zn zg (.seq (.aj (.z zm (.zn gE (.dV rfl (fun hc12=>?_) (fun hc12=>?_))))))
 ·refine .aj (.z zm (.z zg (.z zg (.zn zg (.ret (rT (Fin.G5 Tryz.results204 rfl rfl rfl ?_)))))))
  exact ⟨H,0,0,_,HLe.refl H,rfl,.first ⟨.bad hc12,fun _=>rfl,fun h=>(hc12 h).elim⟩ hc12,hs.out⟩
 ·refine .skip (nT (.aj (.y hs (zls [_,_] bq aI) (.z zm ?_))))
  have hA:fc s ws=0:=by simpa using hc12
  refine .o (.call Tryz.call255 rfl (wL (s:=s) hs ⟨_,rfl,hr⟩ hrw hA) ?_);rintro _ w ⟨H1,lo,hi,e,hle1,rfl,hR,hs⟩
  refine .z zex (.z zex (.z zex (.z zg (.z zg (.zn zg (.ret (Fin.G5 Tryz.results204 rfl rfl rfl ?_)))))))
  exact ⟨H1,lo,hi,e,hle1,rfl,hR,hs.out⟩
theorem mH{v:Value}{l:List Int}{en:Ent}(hs:St H w (en::σ))(ho:cZ 1 v (Is l) en)(hl:l.length≤1000000):
  Cl Tryz.prog 270 [v] w fun _ w'=>∃en',cZ 1 v (Is l.reverse) en'∧St H w' (en'::σ):=by
 rcases ho with ⟨a,rfl,h2,rfl⟩|⟨b,len,cap,sp,rfl,rfl,h2,h3,h4⟩
 ·obtain rfl:l=[]:=by
   have:=congrArg List.length h2
   exact List.length_eq_zero_iff.1 (by simpa using this)
  have hs:=hs.tail
  refine Cl.o Tryz.func270 Tryz.ntmps270 ag1 ?_
  refine .aj (.z zm (.z (dc ae) (.z fY (.z zg (.zn zg (.block (.loop (fun _:Unit=>⟨28,[],[(2,I 0),(3,I (-1))]⟩) (fun _ w=>St H w σ) (fun _=>0) () aU hs ?_)))))))
  rintro _ w hs
  refine .seq (.aj (.z zm (.z zm (.zn fM (.bA rfl (fun hc9=>?_) (fun hc9=>?_))))))
  ·omega
  ·refine .exit (xT (xT (xB ?_)))
   exact Fin.AL Tryz.results270 ⟨.nul,.nil 1 a,hs.nul⟩
 obtain rfl:len=l.length:=by simpa using h2.symm
 refine Cl.o Tryz.func270 Tryz.ntmps270 ag1 ?_
 refine .aj (.z zm (.z (dc ae) (.z fY (.z zg (.zn zg (.block (.loop (fun p:Nat×List Int=>⟨28,[],[(2,I p.1),(3,I ((l.length:Int) - 1 - p.1)),(0,.slice (some ⟨b,0,none⟩) l.length cap)]⟩) (fun p w=>(2*p.1≤l.length+1∧pT l p.2 p.1)∧St H w (.blk b (Is p.2++sp)::σ)) (fun p=>l.length - p.1) (0,l) (.cons rfl (.cJ rfl cq (.cons rfl (.nil rfl rfl)))) ⟨⟨cq,.start l⟩,hs⟩ ?_)))))))
 rintro ⟨i,L⟩ w ⟨⟨h5,h6⟩,hs⟩
 dsimp only at h5 h6 hs ⊢
 have hL:=h6.1
 refine .seq (.aj (.z zm (.z zm (.zn fM (.bA rfl (fun hc9=>?_) (fun hc9=>?_))))))
 ·refine .skip (nT (.seq (.block (.draw mix rfl hs fun w hs=>?_))))
  refine .zw 0 rfl zm ?_;refine .z 1 rfl zm ?_;refine .z 2 rfl zm ?_;refine .z 3 rfl zm ?_;refine .z 4 rfl zm ?_;refine .z 5 rfl zm ?_
  refine .zw 6 rfl (eF (k:=l.length - 1 - i) rfl rfl ae ai an an) (.load (i:=7) hs rfl aD .none rfl af ?_ (hv:=gu an sp))
  refine .zw 8 rfl zm ?_;refine .z 9 rfl zm ?_
  first|(refine .ixv 10 rfl hs ae ai ?_;intro b24 o24 hc24)|refine .z 10 rfl (zix ae ai) ?_
  refine .load (i:=11) hs rfl aD .none rfl af ?_ (hv:=gu an sp)
  first|(refine .ixv 12 rfl hs ae ai ?_;intro b26 o26 hc26)|refine .z 12 rfl (zix ae ai) ?_
  refine .E 13 hs ?_
  refine .store hs rfl rfl ai ?_ dn (by simp;omega) (jD an sp _);intro w hs
  refine .go (.zw 14 rfl (eF (k:=l.length - 1 - i) rfl rfl ae ai an an) (.E 15 hs ?_))
  refine .store hs rfl rfl ai ?_ dn (by simp;omega) (jD (by simp;omega) sp _);intro w hs
  refine .go (.D hs (nB (nT (.region (.z zm (.z cK (.z zm (.z fY (.z zg (.zn zg (nT ?_)))))))))))
  exact ⟨(i+1,_),.cons rfl (.cJ rfl (by push_cast;omega) (.cons rfl (.nil rfl rfl))),⟨⟨by dsimp only;omega,h6.step an⟩,hs⟩,by dsimp only;omega⟩
 ·refine .exit (xT (xT (xB ?_)))
  rw [h6.done an] at hs
  exact Fin.AL Tryz.results270 ⟨_,.inr ⟨b,l.length,cap,sp,rfl,rfl,cq,by rw [←h3];simp,h4⟩,hs⟩
inductive IE(s:dp)(xs:List Int):Int→Prop
 |bad (h:s.check≠0) (h1:xs=[]):IE s xs s.check
 |sound (h:s.Ok) (h1:s.Sound) (h2:xs=[]):IE s xs 0
 |chain {st:BS} {x:Arc} {z k:Nat} (h:s.Ok) (h1:¬s.Sound) (h2:Jt s.n s.dK st (some x)) (h3:z=q9 st.by_ x.t (s.n+1)) (h4:1≤k) (h5:k≤s.n) (h6:q9 st.by_ z k=z) (h7:xs=(zt st.by_ z k).reverse):IE s xs 0
theorem IE.DN{s:dp}{xs:List Int}(h:IE s xs 0):xs=[]↔s.Sound:=by
 generalize hz:(0:Int)=y at h
 cases h with
 |bad h=>exact (h hz.symm).elim
 |sound _ h1 h2=>exact ⟨fun _=>h1,fun _=>h2⟩
 | @chain st x z k _ h1 _ _ h4 _ _ h7=>exact ⟨fun h=>by
   have:=congrArg List.length (h7.symm.trans h)
   rw [List.length_reverse,pB] at this
   simp at this;omega,fun h=>(h1 h).elim⟩
set_option maxHeartbeats 4000000 in
theorem vf{v:Value}{s:dp}(hs:St H w σ)(hr:RSy H v s):
  Cl Tryz.prog 221 [v] w fun u w'=>∃H1 vx xs e,HLe H H1∧u= .tuple #[vx,I e]∧RI H1 vx xs∧IE s xs e∧St H1 w' σ:=by
 obtain ⟨u,rfl,hr⟩:=hr
 obtain ⟨al,cl,rfl⟩:=RL.shape hr
 refine Cl.o Tryz.func221 Tryz.ntmps221 ag1 ?_
 refine .aj (.bx hs fun b1 w hs=>?_)
 refine .z zg (.zn zg (.seq (.aj (.y hs (zls [_,_] bq aI) (.o (.call Tryz.call197 rfl (jI (s:=s) hs ⟨_,rfl,hr⟩) ?_))))));rintro _ w ⟨rfl,hs⟩
 refine .zn zg (.aj (.z zm (.zn gE (.dV rfl (fun hc14=>?_) (fun hc14=>?_)))))
 ·refine .aj (.z zm (.z zg (.zn zg (.ret (rT (Fin.gL Tryz.results221 rfl rfl ?_))))))
  exact ⟨H,_,[],_,HLe.refl H,rfl,RS.nil H 1 none 0,.bad hc14 rfl,hs.out⟩
 ·refine .skip (nT (.seq (.draw mix rfl hs fun w hs=>?_)))
  refine .zw 0 rfl (zfa cE) ?_;refine .y 1 rfl hs af ?_;refine .ys 2 rfl hs [_,_] bq aI ?_
  refine .E 3 hs ?_
  have hok:s.Ok:=s.dU.1 (by simpa using hc14)
  have hoka:=hok.dK
  have hn:s.n=s.many.toNat+1:=rfl
  have hm0:=hok.m0
  have hm1:=hok.m1
  refine .call Tryz.call269 rfl (lr (s:=s) hs hok ⟨_,rfl,hr⟩) ?_;rintro _ w ⟨H1,b10,hle1,rfl,hit,hs⟩
  refine .go (.E 4 hs ?_)
  have hnear:=mP (N:=s.many.toNat) hs an (by rw [←hn];exact hoka) hit Tryz.call295
  rw [Int.toNat_of_nonneg hm0] at hnear
  refine .call Tryz.call225 rfl hnear ?_;rintro _ w ⟨H2,bc,bb,st,ov,vo,hle2,rfl,hov,hnr,hs⟩
  obtain ⟨a',rfl,ha'⟩:=hov.ptr
  refine .go (.zw 5 rfl zm ?_);refine .z 6 rfl zex ?_;refine .z 7 rfl zex ?_;refine .z 8 rfl zex ?_;refine .z 9 rfl zg ?_;refine .z 10 rfl zg ?_;refine .z 11 rfl zg ?_;refine .D hs ?_
  refine .seq (.aj (.z zm (.q hs (D8 rfl rfl Tryz.runUnderlying268) (.nil (.cond rfl (fun hc26=>?_) (fun hc26=>?_))))))
  ·refine .aj (.z zg (.zn zg (.ret (rT (Fin.gL Tryz.results221 rfl rfl ?_)))))
   exact ⟨H2,_,[],0,hle1.trans hle2,rfl,RS.nil H2 1 none 0,.sound hok (by
    obtain ⟨r,hN2,hr2⟩:=hnr
    cases ov with
    |none=>exact ⟨_,(hN2.sol (by rw [←hn];exact hoka) an).1⟩
    |some x=>rw [ha'] at hc26;cases hc26) rfl,hs.out⟩
  ·refine .skip (nT (.aj (.z zm ?_)))
   obtain ⟨x,rfl⟩:=OvR.yes ha' hc26
   obtain ⟨b3,e3,hrow⟩:=hov
   cases e3
   have hrowT:cellAt H2 b3 1=some (I x.t):=hrow.at 1
   have hmn:s.many+2=((s.many.toNat+2:Nat):Int):=by omega
   have hns:¬s.Sound:=by
    obtain ⟨r,hN2,hr2⟩:=hnr
    exact hN2.none (by rw [←hn];exact hoka) an (by have:=hr2 cq;omega)
   obtain ⟨hlb,hrg,hxt⟩:st.by_.length=s.many.toNat+1∧(∀v<s.many.toNat+1,(ga st.by_ v).f<s.many.toNat+1)∧x.t<s.many.toNat+1:=by
    obtain ⟨r,hN2,hr2⟩:=hnr
    exact ⟨hN2.lb,fun v hv=>(hN2.rg v hv).1,(hoka.2 x (hN2.ovm x rfl)).2.1⟩
   have hpl:=fun k=>zh hrg hxt k
   refine .z znc (.z (zfa dQ) (.q hs (aJ rfl af hrowT) (.zn zg (.seq (.aj (.z (zfa cE) (.y hs (zld af) (.z cK ?_))))))))
   rw [hmn]
   refine .zn zm (.for (N:=s.many.toNat+2) (J:=fun k fr w=>fr=[(8,I (q9 st.by_ x.t k)),(6,.slice (some ⟨bb,0,none⟩) (s.many.toNat+1) (s.many.toNat+1))]∧St H2 w (.blk bc (Is st.cost):: .blk bb (kf st.by_):: .blk b1 [I s.many,.slice al s.dk.length cl]::σ)) an ?_ ?_ ?_)
   ·exact .mk ⟨rfl,hs⟩
   ·rintro k fr w hk ⟨rfl,hs⟩
    refine .block (.region (.z zm (.z zm (.q hs (yu (k:=q9 st.by_ x.t k) rfl rfl aH aO rfl (hpl k)) (.z (zfa dI) (.q hs (eg rfl af (.there .here) (s6 (j:=0) (by rw [hlb];exact hpl k) dY)) ?_))))))
    refine .zn zg (nB (nT ?_))
    exact .mk ⟨rfl,hs.out⟩
   ·rintro fr w ⟨rfl,hs⟩
    obtain ⟨pd,hp1,hp2,hp3⟩:=CW hrg hxt (m:=s.many.toNat+2) an
    have hzl:=hpl (s.many.toNat+2)
    generalize hz:q9 st.by_ x.t (s.many.toNat+2)=z at hp3 hzl ⊢
    have hzk:=fun k=>zh hrg hzl k
    refine nT (.aj (.zn zg (.seq (.aj (.z zm (.zn zg (.block ?_)))))))
    refine .loop (fun p:Nat×Value=>⟨62,[],[(9,p.2),(8,I (q9 st.by_ z p.1)),(10,I z),(6,.slice (some ⟨bb,0,none⟩) (s.many.toNat+1) (s.many.toNat+1))]⟩)
     (fun p w=>p.1<pd∧∃en,cZ 1 p.2 (Is (zt st.by_ z p.1)) en∧St H2 w (en:: .blk bc (Is st.cost):: .blk bb (kf st.by_):: .blk b1 [I s.many,.slice al s.dk.length cl]::σ))
     (fun p=>pd - p.1) (0,.slice none 0 0) aU
     ⟨an,_,.nil 1 none,hs.nul⟩ ?_
    rintro ⟨k,v9⟩ w ⟨hk,en,hO,hs⟩
    dsimp only at hk hO ⊢
    refine .block (.aj (.z zm (.z zm (.z zm (.q hs (yu (k:=q9 st.by_ z k) rfl rfl aH aO rfl (hzk k)) (.z (zfa ez) (.q hs (eg rfl af (.there (.there .here)) (s6 (j:=3) (by rw [hlb];exact hzk k) dY)) ?_)))))))
    refine .o (.buildSlice (cells:=[_]) hs db rfl rfl fun b49 w hs=>?_)
    refine .o (.append (ys:=[I (ga st.by_ (q9 st.by_ z k)).l]) hs cM rfl rfl hO (.own .here rfl rfl) (by simp [Value.oneCell']) (fun l' h=>by simp [zt] at h;omega) ?_);intro v50 en50 w hO2 hs
    refine .zn zg (.aj (.z zm (.z zm (.q hs (yu (k:=q9 st.by_ z k) rfl rfl aH aO rfl (hzk k)) (.z (zfa dI) (.q hs (eg rfl af (by repeat (first|exact .here|refine .there ?_)) (s6 (j:=0) (by rw [hlb];exact hzk k) dY)) ?_))))))
    refine .zn zg (.aj (.z zm (.z zm (.zn fm (.bA rfl (fun hc58=>?_) (fun hc58=>?_))))))
    ·refine .exit (xN (xT (xB (nT (.aj (.z zm ?_))))))
     have hO3:cZ 1 v50 (Is (zt st.by_ z (k+1))) en50:=by rw [yA];simpa [Is] using hO2
     have hkz:q9 st.by_ z (k+1)=z:=by
      have h3:((ga st.by_ (q9 st.by_ z k)).f:Int)=z:=by simpa using hc58
      show (ga st.by_ (q9 st.by_ z k)).f=z
      omega
     refine .o (.call Tryz.call270 rfl (mH hs hO3 (by rw [pB];omega)) ?_);rintro _ w ⟨en',hO4,hs⟩
     refine .nil (.aj (.z zm (.z zg (.zn zg (.ret (Fin.gL Tryz.results221 rfl rfl ?_))))))
     obtain ⟨H3,hle3,hRI,hs⟩:=cZ.dS hO4 (by rw [List.length_reverse,pB];omega) hs .here
     exact ⟨H3,_,_,0,hle1.trans (hle2.trans hle3),rfl,hRI,.chain hok hns (by rw [hn];exact hnr) (by rw [hn];exact hz.symm) an an hkz rfl,hs.sb⟩
    ·refine .skip (nB (nT ?_))
     exact ⟨(k+1,v50),aU,⟨by
      dsimp only
      have:k+1≠pd:=fun e=>hc58 (congrArg (Nat.cast:Nat→Int) (show q9 st.by_ z (k+1)=z by rw [e];exact hp3))
      omega,en50,by rw [yA];simpa [Is] using hO2,hs.sb⟩,by dsimp only;omega⟩
structure E8(s:dp)(x:List Int):Prop where
 len:x.length=s.n
 zero:gi x 0=0
 free:∀v<s.n,-1000000000≤gi x v∧gi x v≤1000000000
 zT:iQ s.dK (gi x)
theorem k7{v:Value}{s:dp}(hs:St H w σ)(hr:RSy H v s):
  Cl Tryz.prog 147 [v] w fun u w'=>∃H1 vt e,HLe H H1∧u= .tuple #[vt,I e]∧((s.check≠0∧e=s.check∧vt= .slice none 0 0)∨(s.Ok∧¬s.Sound∧e=23∧vt= .slice none 0 0)∨(s.Ok∧s.Sound∧e=0∧∃rs,RT H1 vt rs∧Sq s.n rs∧jP s.n s.dK (gt rs)))∧St H1 w' σ:=by
 obtain ⟨ul,rfl,hl⟩:=hr
 obtain ⟨al,cl,rfl⟩:=RL.shape hl
 refine Cl.o Tryz.func147 Tryz.ntmps147 ag1 ?_
 refine .aj (.bx hs fun b1 w hs=>?_)
 refine .z zg (.zn zg (.aj (.y hs (zls [_,_] bq aI) (.o (.call Tryz.call206 rfl (oe (s:=s) hs ⟨_,rfl,hl⟩) ?_)))));rintro _ w ⟨rfl,hs⟩
 refine .zn zg (.seq (.aj (.z zm (.zn gE (.dV rfl (fun hc9=>?_) (fun hc9=>?_))))))
 ·refine .aj (.z zm (.z zg (.zn zg (.ret (rT (Fin.gL Tryz.results147 rfl rfl ?_))))))
  exact ⟨H,_,_,HLe.refl H,rfl,.inl ⟨hc9,rfl,rfl⟩,hs.out⟩
 ·refine .skip (nT (.aj (.y hs (zls [_,_] bq aI) ?_)))
  have hok:s.Ok:=s.dU.1 (by simpa using hc9)
  have hm1:=hok.m1
  refine .o (.call Tryz.call207 rfl (po (s:=s) hs ⟨_,rfl,hl⟩ hok) ?_);rintro v12 w ⟨H1,rs,hle1,hRT,hSq,hWT,hs⟩
  obtain ⟨at',ct,rfl⟩:=hRT.shape
  refine .zn zg (.seq (.aj (.z zm (.o (.call Tryz.call208 rfl (od hs hRT hSq (by simp only [dp.n];omega)) ?_)))));rintro _ w ⟨b,rfl,hb,hs⟩
  have hbs:=hb.trans (yp hok hWT).symm
  refine .zn fZ (.cond rfl (fun hc15=>?_) (fun hc15=>?_))
  ·refine .aj (.z zg (.zn zg (.ret (rT (Fin.gL Tryz.results147 rfl rfl ?_)))))
   exact ⟨H1,_,_,hle1,rfl,.inr (.inl ⟨hok,fun h=>by simp [hbs.2 h] at hc15,rfl,rfl⟩),hs.out⟩
  ·refine .skip (nT (.aj (.z zm (.z zg (.zn zg (.ret (Fin.gL Tryz.results147 rfl rfl ?_)))))))
   exact ⟨H1,_,_,hle1,rfl,.inr (.inr ⟨hok,hbs.1 (by simpa using hc15),rfl,rs,hRT,hSq,hWT⟩),hs.out⟩
end Go.Proofs.YteajddicacjkhaaGreat
namespace Go.Proofs.YteajddicacjkhaaGreat
open Go.MW
inductive JI(s:dp)(x:List Int):Int→Prop
 |bad (h:s.check≠0):JI s x s.check
 |off (h:s.Ok) (h1:¬E8 s x):JI s x 25
 |ok (h:s.Ok) (h1:E8 s x):JI s x 0
end Go.Proofs.YteajddicacjkhaaGreat
namespace Go.Proofs.YteajddicacjkhaaGreat
open Go.MW
variable{H:cD}{w:World}{σ:List Ent}
theorem zN{v:Value}{ls:List Int}{g:Nat}{cap:List Value}{q:Int→Prop}(hs:St H w σ)(hr:RI H v ls)
  (hc:∀args w,(callFunc g args).run Tryz.prog w= .ok (.enter g args) w) (hp:∀w l,St H w σ→Cl Tryz.prog g ([I l]++cap) w fun u w'=>∃b,u= .bool b∧(b=true↔q l)∧St H w' σ):
  Cl Tryz.prog 228 [v,.func (.func g) #[] cap.toArray] w fun u w'=>∃i,u=I i∧(0≤i↔∃p∈ls,q p)∧St H w' σ:=by
 obtain ⟨a,c,rfl⟩:=RI.shape hr
 have hl:=(RI.len hr).2.2
 refine Cl.o Tryz.func228 Tryz.ntmps228 ag2 ?_
 refine .aj (.zn zg (.seq (.aj (.z zm (.z (dc ae) (.zn zm (.for (N:=ls.length) (J:=fun k fr w=>fr=[(1,.func (.func g) #[] cap.toArray),(0,.slice a ls.length c)]∧St H w σ∧∀j<k,∀l,ls[j]? =some l→¬q l) an ?_ ?_ ?_)))))))
 ·exact .mk ⟨rfl,hs,fun j hj=>by omega⟩
 ·rintro k fr w hk ⟨rfl,hs,hno⟩
  obtain ⟨l,hl⟩:=nth hk
  refine .block (.aj (.z zm (.zn zg (.aj (.z zm (.z zm (.z zm ?_)))))))
  first|(refine .ixv hs ae ai ?_;intro b14 o14 hc14)|refine .z (zix ae ai) ?_
  refine .y hs (zld af) (.o (.qs (first:=[]) rfl rfl hc (hp _ _ hs) ?_));rintro _ w ⟨b16,rfl,hb16,hs⟩
  refine .nil (.cond rfl (fun hc16=>?_) (fun hc16=>?_))
  ·refine .aj (.z zm (.zn zg (.ret (rB (rT (rB (rT (Fin.bE vB rfl ?_))))))))
   exact ⟨_,rfl,⟨fun _=>⟨l,List.mem_of_getElem? hl,hb16.1 hc16⟩,fun _=>by omega⟩,hs⟩
  ·refine .skip (nB (nT ?_))
   exact .mk ⟨rfl,hs,fo hno hl (fun h=>by rw [hb16.2 h] at hc16;cases hc16)⟩
 ·rintro fr w ⟨rfl,hs,hno⟩
  refine nT (.aj (.zn zg (.ret (Fin.bE vB rfl ?_))))
  exact ⟨_,rfl,⟨fun h=>by omega,fun ⟨p,h1,h2⟩=>by
   obtain ⟨j,hj⟩:=List.getElem?_of_mem h1
   exact (hno j (List.getElem?_eq_some_iff.1 hj).1 p hj h2).elim⟩,hs⟩
theorem vz{v:Value}{ls:List Int}{g:Nat}{cap:List Value}{q:Int→Prop}(hs:St H w σ)(hr:RI H v ls)
  (hc:∀args w,(callFunc g args).run Tryz.prog w= .ok (.enter g args) w) (hp:∀w l,St H w σ→Cl Tryz.prog g ([I l]++cap) w fun u w'=>∃b,u= .bool b∧(b=true↔q l)∧St H w' σ):
  Cl Tryz.prog 185 [v,.func (.func g) #[] cap.toArray] w fun u w'=>∃b,u= .bool b∧(b=true↔∃p∈ls,q p)∧St H w' σ:=by
 refine Cl.o Tryz.func185 Tryz.ntmps185 ag2 ?_
 refine .aj (.zn zg (.aj (.z zm (.z zm (.o (.call Tryz.call228 rfl (zN hs hr hc hp) ?_))))));rintro _ w ⟨i,rfl,hi,hs⟩
 refine .z uj (.zn zg (.ret (Fin.bE Tryz.results185 rfl ?_)))
 exact ⟨_,rfl,by simp only [decide_eq_true_eq];exact hi,hs⟩
theorem sR{n:Int}(hs:St H w σ):Cl Tryz.prog 198 [I n] w fun v w'=>∃b,v= .bool b∧(b=true↔¬(-1000000000≤n∧n≤1000000000))∧St H w' σ:=by
 refine Cl.o Tryz.func198 Tryz.ntmps198 ag1 ?_
 refine .aj (.zn zg (.aj (.z zm (.o (.call Dk rfl (fX hs) ?_)))));rintro _ w ⟨rfl,hs⟩
 refine .z fZ (.zn zg (.ret (Fin.bE Tryz.results198 rfl ?_)))
 exact ⟨_,rfl,by simp;omega,hs⟩
theorem pP{v vx:Value}{s:dp}{x:List Int}(hs:St H w σ)(hr:RSy H v s)(hx:RI H vx x):
  Cl Tryz.prog 134 [v,vx] w fun u w'=>∃e,u=I e∧JI s x e∧St H w' σ:=by
 obtain ⟨ul,rfl,hl⟩:=hr
 obtain ⟨al,cl,rfl⟩:=RL.shape hl
 obtain ⟨ax,cx,rfl⟩:=RI.shape hx
 refine Cl.o Tryz.func134 Tryz.ntmps134 ag2 ?_
 refine .aj (.bx hs fun b2 w hs=>?_)
 refine .zn zg (.seq (.aj (.y hs (zls [_,_] bq aI) (.o (.call Tryz.call197 rfl (jI (s:=s) hs ⟨_,rfl,hl⟩) ?_)))));rintro _ w ⟨rfl,hs⟩
 refine .zn zg (.aj (.z zm (.zn gE ?_)))
 skip
 refine (.dV rfl (fun hc11=>?_) (fun hc11=>?_))
 ·refine .aj (.z zm (.zn zg (.ret (rT (Fin.bE vE rfl ?_)))))
  exact ⟨_,rfl,.bad hc11,hs.out⟩
 ·refine .skip (nT (.seq (.aj ?_)))
  have hok:s.Ok:=s.dU.1 (by simpa using hc11)
  have hm0:=hok.m0
  have hm1:=hok.m1
  have hll:=hok.len
  have hnn:(s.n:Int)=s.many+1:=by simp only [dp.n];omega
  refine .z zm (.z (dc ae) (.z (zfa cE) (.y hs (zld af) (.z cK (.z gE (.z zm (.AS (t':=19) rfl (fun hb19=>?_) (fun hb19=>?_))))))))
  ·refine .Fs 4 6 false (.z zpT (.z zm (.Fs 2 12 false (.zn zpT (.cT (.aj (.zn zg (.ret (rT (Fin.bE vE rfl ?_))))))))))
   first
    |exact ⟨_,rfl,.ok hok ⟨an,by first|omega|(simpa using hb25),fun v hv=>hfree v an,gq.2 fun y hy=>by
      obtain ⟨i,hi⟩:=List.getElem?_of_mem hy
      exact h1 i (List.getElem?_eq_some_iff.1 hi).1 y hi⟩,hs.out⟩
    |exact ⟨_,rfl,.off hok (fun h=>by have:=h.len;omega),hs.out⟩
    |exact ⟨_,rfl,.off hok (fun h=>by have:=h.zero;first|omega|(simp at hb25;omega)),hs.out⟩
    |exact ⟨_,rfl,.off hok (fun h=>by
      obtain ⟨p,h1,h2⟩:=hb27.1 hc28
      obtain ⟨i,hi⟩:=List.getElem?_of_mem h1
      have hil:=(List.getElem?_eq_some_iff.1 hi).1
      have:=bB hil
      rw [hi] at this
      cases this
      exact h2 (h.free i (by have:=h.len;omega))),hs.out⟩
    |exact ⟨_,rfl,.off hok (fun h=>by
      have h8:=gq.1 h.zT y (List.mem_of_getElem? hy)
      omega),hs.out⟩
  ·refine .T (.z zm (.T (.ixX (enc:=fun x=>[I x]) hs hx rfl rfl ae ai (bB (l:=x) (i:=0) an) rfl ?_)));intro b21 o21 hc21;replace hc21:=bL.one hc21
   refine .T (.y hs (zld af) (.T (.z gE (.z zpF (.z zm (.AS (t':=25) rfl (fun hb25=>?_) (fun hb25=>?_)))))))
   ·refine .Fs 2 12 false (.zn zpT (.cT (.aj (.zn zg (.ret (rT (Fin.bE vE rfl ?_)))))))
    first
     |exact ⟨_,rfl,.ok hok ⟨an,by first|omega|(simpa using hb25),fun v hv=>hfree v an,gq.2 fun y hy=>by
       obtain ⟨i,hi⟩:=List.getElem?_of_mem hy
       exact h1 i (List.getElem?_eq_some_iff.1 hi).1 y hi⟩,hs.out⟩
     |exact ⟨_,rfl,.off hok (fun h=>by have:=h.len;omega),hs.out⟩
     |exact ⟨_,rfl,.off hok (fun h=>by have:=h.zero;first|omega|(simp at hb25;omega)),hs.out⟩
     |exact ⟨_,rfl,.off hok (fun h=>by
       obtain ⟨p,h1,h2⟩:=hb27.1 hc28
       obtain ⟨i,hi⟩:=List.getElem?_of_mem h1
       have hil:=(List.getElem?_eq_some_iff.1 hi).1
       have:=bB hil
       rw [hi] at this
       cases this
       exact h2 (h.free i (by have:=h.len;omega))),hs.out⟩
     |exact ⟨_,rfl,.off hok (fun h=>by
       have h8:=gq.1 h.zT y (List.mem_of_getElem? hy)
       omega),hs.out⟩
   ·refine .T (.z zm (.T (.o (.call Tryz.call185 rfl (vz (q:=fun n=>¬(-1000000000≤n∧n≤1000000000)) (cap:=[]) hs hx Tryz.call198 (fun w n hs=>sR hs)) ?_))));rintro _ w ⟨b27,rfl,hb27,hs⟩
    refine .zn zpF (.cond rfl (fun hc28=>?_) (fun hc28=>?_))
    ·refine .aj (.zn zg (.ret (rT (Fin.bE vE rfl ?_))))
     first
      |exact ⟨_,rfl,.ok hok ⟨an,by first|omega|(simpa using hb25),fun v hv=>hfree v an,gq.2 fun y hy=>by
        obtain ⟨i,hi⟩:=List.getElem?_of_mem hy
        exact h1 i (List.getElem?_eq_some_iff.1 hi).1 y hi⟩,hs.out⟩
      |exact ⟨_,rfl,.off hok (fun h=>by have:=h.len;omega),hs.out⟩
      |exact ⟨_,rfl,.off hok (fun h=>by have:=h.zero;first|omega|(simp at hb25;omega)),hs.out⟩
      |exact ⟨_,rfl,.off hok (fun h=>by
        obtain ⟨p,h1,h2⟩:=hb27.1 hc28
        obtain ⟨i,hi⟩:=List.getElem?_of_mem h1
        have hil:=(List.getElem?_eq_some_iff.1 hi).1
        have:=bB hil
        rw [hi] at this
        cases this
        exact h2 (h.free i (by have:=h.len;omega))),hs.out⟩
      |exact ⟨_,rfl,.off hok (fun h=>by
        have h8:=gq.1 h.zT y (List.mem_of_getElem? hy)
        omega),hs.out⟩
    ·refine .skip (nT (.seq (.aj (.z (zfa cN) (.y hs (zld dz) (.z (dc a8) (.zn zm (.for (N:=s.dk.length) (J:=fun k fr w=>fr=[(30,.slice al s.dk.length cl),(1,.slice ax x.length cx)]∧(∀i<k,∀y,s.dk[i]? =some y→gi x y.B.toNat≤gi x y.A.toNat+y.M)∧St H w (.blk b2 [I s.many,.slice al s.dk.length cl]::σ)) an ?_ ?_ ?_))))))))
     ·exact .mk ⟨rfl,fun i hi=>by omega,hs⟩
     ·have hfree:∀v<x.length,-1000000000≤gi x v∧gi x v≤1000000000:=fun v hv=>by
       apply Classical.byContradiction
       intro h
       have:=hb27.2 ⟨gi x v,List.mem_of_getElem? (bB hv),h⟩
       subst this
       simp at hc28
      rintro k fr w hk ⟨rfl,h1,hs⟩
      obtain ⟨y,hy⟩:=nth hk
      obtain ⟨⟨y1,y2⟩,⟨y3,y4⟩,y5,y6,-⟩:=hok.lim y (List.mem_of_getElem? hy)
      have z1:=hfree y.B.toNat an
      have z2:=hfree y.A.toNat an
      refine .block (.aj (.ixX (enc:=Lim.c) hs hl rfl rfl a8 bJ hy rfl ?_));intro b34 o34 hc34
      refine .q hs (cj (vs:=y.c) rfl gw bJ hc34) (.o (.alloc hs eL rfl fun b7 w hs=>?_))
      refine .o (.aP (vs:=y.c) hs rfl rfl bJ fun w hs=>?_)
      refine .nil (.seq (.draw mix rfl hs fun w hs=>?_))
      refine .zw 0 rfl zm ?_;refine .z 1 rfl (zfa fi) ?_;refine .y 2 rfl hs af ?_
      refine .ixX (enc:=fun x=>[I x]) (i:=3) hs rfl aD .none hx rfl rfl ae ai (bB (l:=x) (i:=y.B.toNat) an) an ?_;intro b39 o39 hc39;replace hc39:=bL.one hc39
      refine .r (i:=4) hs rfl aD .none (aJ rfl af hc39) ?_
      refine .zw 5 rfl zm ?_;refine .z 6 rfl (zfa eN) ?_;refine .y 7 rfl hs af ?_
      refine .ixX (enc:=fun x=>[I x]) (i:=8) hs rfl aD .none hx rfl rfl ae ai (bB (l:=x) (i:=y.A.toNat) an) an ?_;intro b44 o44 hc44;replace hc44:=bL.one hc44
      refine .r (i:=9) hs rfl aD .none (aJ rfl af hc44) ?_
      refine .zw 10 rfl fY ?_;refine .z 11 rfl (zfa gU) ?_;refine .y 12 rfl hs af ?_;refine .z 13 rfl km ?_;refine .D hs ?_
      refine (.bA rfl (fun hc49=>?_) (fun hc49=>?_))
      ·refine .aj (.zn zg (.ret (rB (rT (rB (rT (Fin.bE vE rfl ?_)))))))
       first
        |exact ⟨_,rfl,.ok hok ⟨an,by first|omega|(simpa using hb25),fun v hv=>hfree v an,gq.2 fun y hy=>by
          obtain ⟨i,hi⟩:=List.getElem?_of_mem hy
          exact h1 i (List.getElem?_eq_some_iff.1 hi).1 y hi⟩,hs.out⟩
        |exact ⟨_,rfl,.off hok (fun h=>by have:=h.len;omega),hs.out⟩
        |exact ⟨_,rfl,.off hok (fun h=>by have:=h.zero;first|omega|(simp at hb25;omega)),hs.out⟩
        |exact ⟨_,rfl,.off hok (fun h=>by
          obtain ⟨p,h1,h2⟩:=hb27.1 hc28
          obtain ⟨i,hi⟩:=List.getElem?_of_mem h1
          have hil:=(List.getElem?_eq_some_iff.1 hi).1
          have:=bB hil
          rw [hi] at this
          cases this
          exact h2 (h.free i (by have:=h.len;omega))),hs.out⟩
        |exact ⟨_,rfl,.off hok (fun h=>by
          have h8:=gq.1 h.zT y (List.mem_of_getElem? hy)
          omega),hs.out⟩
      ·refine .skip (nB (nT ?_))
       exact .mk ⟨rfl,fun i hi z hz=>by
        by_cases e:i=k
        ·subst e;rw [hy] at hz;cases hz;omega
        ·exact h1 i an z hz,hs.out⟩
     ·have hfree:∀v<x.length,-1000000000≤gi x v∧gi x v≤1000000000:=fun v hv=>by
       apply Classical.byContradiction
       intro h
       have:=hb27.2 ⟨gi x v,List.mem_of_getElem? (bB hv),h⟩
       subst this
       simp at hc28
      rintro fr w ⟨rfl,h1,hs⟩
      refine nT (.aj (.zn zg (.ret (Fin.bE vE rfl ?_))))
      first
       |exact ⟨_,rfl,.ok hok ⟨an,by first|omega|(simpa using hb25),fun v hv=>hfree v an,gq.2 fun y hy=>by
         obtain ⟨i,hi⟩:=List.getElem?_of_mem hy
         exact h1 i (List.getElem?_eq_some_iff.1 hi).1 y hi⟩,hs.out⟩
       |exact ⟨_,rfl,.off hok (fun h=>by have:=h.len;omega),hs.out⟩
       |exact ⟨_,rfl,.off hok (fun h=>by have:=h.zero;first|omega|(simp at hb25;omega)),hs.out⟩
       |exact ⟨_,rfl,.off hok (fun h=>by
         obtain ⟨p,h1,h2⟩:=hb27.1 hc28
         obtain ⟨i,hi⟩:=List.getElem?_of_mem h1
         have hil:=(List.getElem?_eq_some_iff.1 hi).1
         have:=bB hil
         rw [hi] at this
         cases this
         exact h2 (h.free i (by have:=h.len;omega))),hs.out⟩
       |exact ⟨_,rfl,.off hok (fun h=>by
         have h8:=gq.1 h.zT y (List.mem_of_getElem? hy)
         omega),hs.out⟩
end Go.Proofs.YteajddicacjkhaaGreat
namespace Go.Proofs
open Go.Shelf
def Tryz.Br:Go.Shelf.Ren:=⟨fun|189=>303|125=>311|257=>310|128=>323|129=>324|294=>314|295=>315|296=>316|297=>317|298=>318|299=>319|216=>320|300=>321|301=>322|328=>325|329=>326|330=>327|331=>328|332=>329|215=>330|343=>331|n=>n,fun|28=>34|3=>3|46=>260|0=>0|51=>340|53=>343|4=>4|183=>348|182=>347|131=>165|5=>5|9=>9|218=>354|222=>358|228=>360|229=>293|n=>n,fun|n=>n⟩
theorem Tryz.Ev:Go.Proofs.Lays.n189 Tryz.prog Tryz.Br:={
 mixed:=by kernel_rfl
 f125:=Tryz.func311.trans (congrArg some (by kernel_rfl))
 f128:=Tryz.func323.trans (congrArg some (by kernel_rfl))
 f129:=Tryz.func324.trans (congrArg some (by kernel_rfl))
 f189:=Tryz.func303.trans (congrArg some (by kernel_rfl))
 f215:=Tryz.func330.trans (congrArg some (by kernel_rfl))
 f216:=Tryz.func320.trans (congrArg some (by kernel_rfl))
 f257:=Tryz.func310.trans (congrArg some (by kernel_rfl))
 f294:=Tryz.func314.trans (congrArg some (by kernel_rfl))
 f295:=Tryz.func315.trans (congrArg some (by kernel_rfl))
 f296:=Tryz.func316.trans (congrArg some (by kernel_rfl))
 f297:=Tryz.func317.trans (congrArg some (by kernel_rfl))
 f298:=Tryz.func318.trans (congrArg some (by kernel_rfl))
 f299:=Tryz.func319.trans (congrArg some (by kernel_rfl))
 f300:=Tryz.func321.trans (congrArg some (by kernel_rfl))
 f301:=Tryz.func322.trans (congrArg some (by kernel_rfl))
 f328:=Tryz.func325.trans (congrArg some (by kernel_rfl))
 f329:=Tryz.func326.trans (congrArg some (by kernel_rfl))
 f330:=Tryz.func327.trans (congrArg some (by kernel_rfl))
 f331:=Tryz.func328.trans (congrArg some (by kernel_rfl))
 f332:=Tryz.func329.trans (congrArg some (by kernel_rfl))
 f343:=Tryz.func331.trans (congrArg some (by kernel_rfl))
 t0:=Tryz.underlying0
 a0:=Tryz.isAgg0
 z0:=Tryz.sizeOf0
 v0:=Tryz.zeroValue0
 t3:=Tryz.underlying3
 a3:=Tryz.isAgg3
 z3:=Tryz.sizeOf3
 v3:=Tryz.zeroValue3
 t4:=Tryz.underlying4
 a4:=Tryz.isAgg4
 z4:=Tryz.sizeOf4
 v4:=Tryz.zeroValue4
 t5:=Tryz.underlying5
 a5:=Tryz.isAgg5
 z5:=Tryz.sizeOf5
 v5:=Tryz.zeroValue5
 t9:=Tryz.underlying9
 a9:=Tryz.isAgg9
 z9:=Tryz.sizeOf9
 v9:=Tryz.zeroValue9
 t28:=Tryz.underlying34
 a28:=Tryz.isAgg34
 z28:=Tryz.sizeOf34
 v28:=Tryz.zeroValue34
 t46:=Tryz.underlying260
 a46:=Tryz.isAgg260
 z46:=Tryz.sizeOf260
 v46:=Tryz.zeroValue260
 t51:=Tryz.underlying340
 a51:=Tryz.isAgg340
 z51:=Tryz.sizeOf340
 v51:=Tryz.zeroValue340
 t53:=Tryz.underlying343
 a53:=Tryz.isAgg343
 z53:=Tryz.sizeOf343
 v53:=Tryz.zeroValue343
 t131:=Tryz.underlying165
 a131:=Tryz.isAgg165
 z131:=Tryz.sizeOf165
 v131:=Tryz.zeroValue165
 t182:=Tryz.underlying347
 a182:=Tryz.isAgg347
 z182:=Tryz.sizeOf347
 v182:=Tryz.zeroValue347
 t183:=Tryz.underlying348
 a183:=Tryz.isAgg348
 z183:=Tryz.sizeOf348
 v183:=Tryz.zeroValue348
 t218:=Tryz.underlying354
 a218:=Tryz.isAgg354
 z218:=Tryz.sizeOf354
 v218:=Tryz.zeroValue354
 t222:=Tryz.underlying358
 a222:=Tryz.isAgg358
 z222:=Tryz.sizeOf358
 v222:=Tryz.zeroValue358
 t228:=Tryz.underlying360
 a228:=Tryz.isAgg360
 z228:=Tryz.sizeOf360
 v228:=Tryz.zeroValue360
 t229:=Tryz.underlying293
 a229:=Tryz.isAgg293
 z229:=Tryz.sizeOf293
 v229:=Tryz.zeroValue293}
def Tryz.As:Go.Shelf.Ren:=⟨fun|20=>304|n=>n,fun|22=>34|3=>3|4=>4|0=>0|n=>n,fun|n=>n⟩
theorem Tryz.Ce:Go.Proofs.Lays2.n20 Tryz.prog Tryz.As:={
 mixed:=by kernel_rfl
 f20:=Tryz.func304.trans (congrArg some (by kernel_rfl))
 t0:=Tryz.underlying0
 a0:=Tryz.isAgg0
 z0:=Tryz.sizeOf0
 v0:=Tryz.zeroValue0
 t3:=Tryz.underlying3
 a3:=Tryz.isAgg3
 z3:=Tryz.sizeOf3
 v3:=Tryz.zeroValue3
 t4:=Tryz.underlying4
 a4:=Tryz.isAgg4
 z4:=Tryz.sizeOf4
 v4:=Tryz.zeroValue4
 t22:=Tryz.underlying34
 a22:=Tryz.isAgg34
 z22:=Tryz.sizeOf34
 v22:=Tryz.zeroValue34
 i3:=by kernel_rfl}
end Go.Proofs
namespace Go.Proofs.YteajddicacjkhaaGreat
open Go.Sort Go.RowKit
theorem FG(blk off cap:Nat)(zs:List Int)(w:World)(hH:Holds (Value.int .i64) w blk off zs.toArray)(hblk:blk<w.heap.size)(hsz:zs.length<4611686018427387904):
  Calls Tryz.prog 303 #[.slice (some ⟨blk,off,none⟩) zs.length cap] w fun e w'=>e= .returned (.tuple #[])∧∃n os,w'=grow (putRow (Value.int .i64) (Sort.ahead w n) blk off (zs.mergeSort fun x y=>decide (x≤y)).toArray) os:=
 Any.slices_Sort_int Tryz.Ev blk off cap zs w hH hblk hsz
theorem y0(p:Option Addr)(cap:Nat)(w:World):Calls Tryz.prog 303 #[.slice p 0 cap] w fun e w'=>e= .returned (.tuple #[])∧w'=w:=
 Any.slices_Sort_int_none Tryz.Ev p cap w
theorem Bb(blk off cap:Nat)(zs:List Int)(w:World)(hH:Holds (Value.int .i64) w blk off zs.toArray)(hsz:zs.length≤9223372036854775807)(hcap:zs.length≤cap):
  Calls Tryz.prog 304 #[.slice (some ⟨blk,off,none⟩) zs.length cap] w fun e w'=>e= .returned (.slice (some ⟨blk,off,none⟩) (Lib.compact zs).length cap)∧∃q,w'=putRow (Value.int .i64) (Sort.ahead w q) blk off (Lib.compact zs++List.replicate (zs.length - (Lib.compact zs).length) 0).toArray:=
 Any.slices_Compact_int Tryz.Ce blk off cap zs w hH hsz hcap
theorem uG(p:Option Addr)(cap:Nat)(w:World):Calls Tryz.prog 304 #[.slice p 0 cap] w fun e w'=>e= .returned (.slice p 0 cap)∧w'=w:=
 Any.slices_Compact_int_empty Tryz.Ce p cap w
end Go.Proofs.YteajddicacjkhaaGreat
namespace Go.Proofs.YteajddicacjkhaaGreat
open Go.MW
variable{H:cD}{w:World}{σ:List Ent}
theorem uI{v:Value}{ls:List Int}{x:Int}(hs:St H w σ)(hr:RI H v ls):
  Cl Tryz.prog 305 [v,I x] w fun u w'=>∃i,u=I i∧(0≤i↔x∈ls)∧St H w' σ:=by
 obtain ⟨a,c,rfl⟩:=RI.shape hr
 have hl:=(RI.len hr).2.2
 refine Cl.o Tryz.func305 Tryz.ntmps305 ag2 ?_
 refine .aj (.zn zg (.seq (.aj (.z zm (.z (dc ae) (.zn zm (.for (N:=ls.length) (J:=fun k fr w=>fr=[(1,I x),(0,.slice a ls.length c)]∧St H w σ∧∀j<k,∀y,ls[j]? =some y→¬x=y) an ?_ ?_ ?_)))))))
 ·exact .mk ⟨rfl,hs,fun j hj=>by omega⟩
 ·rintro k fr w hk ⟨rfl,hs,hno⟩
  obtain ⟨y,hy⟩:=nth hk
  refine .block (.aj (.z zm (.zn zg (.aj (.z zm (.z zm (.z zm (.ixY hs hr rfl rfl ae ai hy rfl ?_))))))));intro b14 o14 hc14
  refine .q hs (aJ rfl af hc14) (.zn fm (.bA rfl (fun hc16=>?_) (fun hc16=>?_)))
  ·refine .aj (.z zm (.zn zg (.ret (rB (rT (rB (rT (Fin.bE Tryz.results305 rfl ?_))))))))
   exact ⟨_,rfl,⟨fun _=>by rw [hc16];exact List.mem_of_getElem? hy,fun _=>by omega⟩,hs⟩
  ·refine .skip (nB (nT ?_))
   exact .mk ⟨rfl,hs,fo hno hy hc16⟩
 ·rintro fr w ⟨rfl,hs,hno⟩
  refine nT (.aj (.zn zg (.ret (Fin.bE Tryz.results305 rfl ?_))))
  exact ⟨_,rfl,⟨fun h=>by omega,fun h=>by
   obtain ⟨j,hj⟩:=List.getElem?_of_mem h
   exact (hno j (List.getElem?_eq_some_iff.1 hj).1 x hj rfl).elim⟩,hs⟩
theorem qV{v:Value}{ls:List Int}{x:Int}(hs:St H w σ)(hr:RI H v ls):
  Cl Tryz.prog 294 [v,I x] w fun u w'=>u= .bool (decide (x∈ls))∧St H w' σ:=by
 refine Cl.o Tryz.func294 Tryz.ntmps294 ag2 ?_
 refine .aj (.zn zg (.aj (.z zm (.z zm (.o (.call Tryz.call305 rfl (uI hs hr) ?_))))));rintro _ w ⟨i,rfl,hi,hs⟩
 refine .z uj (.zn zg (.ret (Fin.bE Tryz.results294 rfl ?_)))
 exact ⟨by simp only [hi],hs⟩
set_option maxHeartbeats 1000000 in
theorem xj{v:Value}{s:dp}{g:Nat}{cap:List Value}(q:Nat→Lim→Bool)(hs:St H w σ)(hr:RSy H v s)(hlen:s.dk.length≤4398046510976)(hc:∀args w,(callFunc g args).run Tryz.prog w= .ok (.enter g args) w)
  (hp:∀w σ (k:Nat) (l:Lim),s.dk[k]? =some l→St H w σ→Cl Tryz.prog g ([I k,.agg l.c.toArray]++cap) w fun u w'=>u= .bool (q k l)∧St H w' σ):
  Cl Tryz.prog 292 [v,.func (.func g) #[] cap.toArray] w fun u w'=>∃H1,HLe H H1∧RSy H1 u ⟨s.many,lG q s.dk s.dk.length⟩∧St H1 w' σ:=by
 obtain ⟨ul,rfl,hl⟩:=hr
 obtain ⟨al,cl,rfl⟩:=RL.shape hl
 refine Cl.o Tryz.func292 Tryz.ntmps292 ag2 ?_
 refine .aj (.bx hs fun b2 w hs=>?_)
 refine .o (.alloc hs dD rfl fun b4 w hs=>?_)
 refine .nil (.aj (.z (zfa cE) (.y hs (zld af) (.z (zbd [_,_] jC) (.o (.alloc hs dD rfl fun b5 w hs=>?_))))))
 refine .o (.aP (vs:=[_,_]) hs rfl rfl aI fun w hs=>?_)
 refine .nil (.seq (.aj (.z (zfa cN) (.y hs (zld dz) (.z (dc a8) (.zn zm (.for (N:=s.dk.length) (J:=fun k fr w=>fr=[(12,.slice al s.dk.length cl),(1,.func (.func g) #[] cap.toArray),(5,Pt b5),(4,Pt b4)]∧∃vL en,cZ 4 vL (iF (lG q s.dk k)) en∧St H w (.blk b5 [I s.many,vL]:: .blk b4 [I 0,.slice none 0 0]::en::σ)) an ?_ ?_ ?_)))))))
 ·exact .mk ⟨rfl,_,_,.nil 4 none,hs.nul.sb⟩
 ·rintro k fr w hk ⟨rfl,vL,en,hO,hs⟩
  obtain ⟨x,hx⟩:=nth (l:=s.dk) hk
  obtain ⟨aL,lL,cL,rfl,hL⟩:=hO.shape
  have hpl:=nL q s.dk k
  refine .block (.aj (.z zm (.ixX hs hl rfl rfl a8 bJ hx rfl ?_)));intro b17 o17 hc17
  refine .q hs (cj (vs:=x.c) rfl gw bJ hc17) (.o (.alloc hs eL rfl fun b7 w hs=>?_))
  refine .z zg (.o (.aP (vs:=x.c) hs rfl rfl bJ fun w hs=>?_))
  refine .nil (.aj (.z zm (.z zm (.y hs (zls [_,_,_,_] gw bJ) (.o (.qs (first:=[]) (cap:=cap) rfl rfl hc (hp _ _ k x hx hs) ?_))))));rintro _ w ⟨rfl,hs⟩
  refine .nil (.cond rfl (fun hc22=>?_) (fun hc22=>?_))
  ·refine .region (.z (zfa cN) (.y hs (zld dz) (.y hs (zls [_,_,_,_] gw bJ) (.o (.buildSlice (cells:=x.c) hs sS rfl rfl fun b26 w hs=>?_)))))
   refine .o (.append (ys:=x.c) hs dh rfl rfl hO (.own .here rfl rfl) (by simp [Lim.c,Value.oneCell']) (fun l h=>by rw [fa] at h;omega) ?_);intro v27 en27 w hO2 hs
   obtain ⟨a27,l27,c27,rfl,h27⟩:=hO2.shape
   refine .z (zfa cN) (.o (.store hs rfl rfl qA fun w hs=>?_))
   refine .nil (nB (nT ?_))
   have e:lG q s.dk (k+1)=lG q s.dk k++[x]:=by rw [q8 hx,if_pos hc22]
   rw [←GP,←ji,←e] at hO2
   exact .mk ⟨rfl,_,_,hO2,hs.sb⟩
  ·refine .skip (nB (nT ?_))
   have e:lG q s.dk (k+1)=lG q s.dk k:=by rw [q8 hx,hc22];simp
   exact .mk ⟨rfl,_,_,by rw [e];exact hO,hs.sb⟩
 ·rintro fr w ⟨rfl,vL,en,hO,hs⟩
  obtain ⟨aL,lL,cL,rfl,hL⟩:=hO.shape
  have hpl:=nL q s.dk s.dk.length
  refine nT (.aj (.y hs (zls [_,_] bq aI) (.o (.aP (vs:=[_,_]) hs rfl rfl aI fun w hs=>?_))))
  refine .nil (.ret ?_)
  obtain ⟨H1,g1,r1,hs⟩:=cZ.di (m:=4) (cs:=(lG q s.dk s.dk.length).map Lim.c) hO (fun c hc=>by simp only [List.mem_map] at hc;obtain ⟨x,_,rfl⟩:=hc;rfl) an (by rw [List.length_map];omega) hs dn
  exact Fin.iM [] [] hs fun w hs=>⟨_,results1 Tryz.results292 (dy (vs:=[_,_]) hs rfl bq aI),H1,g1,⟨_,rfl,r1⟩,hs.out⟩
theorem xk{b:Nat}{i:Int}{l:Lim}{vb:Value}{bs:List Int}(hs:St H w σ)(hb:Row H b [vb])(hr:RI H vb bs):
  Cl Tryz.prog 293 [I i,.agg l.c.toArray,Pt b] w fun u w'=>u= .bool (!decide (l.S∈bs))∧St H w' σ:=by
 have hb0:cellAt H b 0=some vb:=by rw [hb.cell];rfl
 refine Cl.o Tryz.func293 Tryz.ntmps293 ag3 ?_
 refine .aj (.bx hs fun b4 w hs=>?_)
 refine .zn zg (.aj (.y hs (zld aq) (.z (zfa kG) (.y hs (zld af) (.o (.call Tryz.call294 rfl (qV hs hr) ?_))))));rintro _ w ⟨rfl,hs⟩
 refine .z fZ (.zn zg (.ret (Fin.bE Tryz.results293 rfl ?_)))
 exact ⟨rfl,hs.out⟩
theorem sQ{v vb:Value}{s:dp}{bs:List Int}(hs:St H w σ)(hr:RSy H v s)(hb:RI H vb bs)(hlen:s.dk.length≤4398046510976):
  Cl Tryz.prog 266 [v,vb] w fun u w'=>∃H1,HLe H H1∧RSy H1 u (s.wo bs)∧St H1 w' σ:=by
 obtain ⟨ul,rfl,hl⟩:=hr
 obtain ⟨al,cl,rfl⟩:=RL.shape hl
 obtain ⟨ab,cb,rfl⟩:=RI.shape hb
 refine Cl.o Tryz.func266 Tryz.ntmps266 ag2 ?_
 refine .aj (.bx hs fun b2 w hs=>?_)
 refine .bx hs fun b3 w hs=>?_
 refine .o (.alloc hs dD rfl fun b4 w hs=>?_)
 refine .nil (.aj (.y hs (zls [_,_] bq aI) (.q hs (dM (f:=[]) (c:=[_]) rfl rfl) ?_)))
 obtain ⟨H1,hle1,r3,hs⟩:=hs.di (b:=b3) dn
 refine .o (.call Tryz.call292 rfl (xj (g:=293) (cap:=[Pt b3]) (s:=s) (fun _ l=> !decide (l.S∈bs)) hs ⟨_,rfl,hl.mono hle1⟩ hlen Tryz.call293 (fun w σ k l _ hs=>xk hs r3 (hb.mono hle1))) ?_);rintro _ w ⟨H2,hle2,⟨u7,rfl,hL7⟩,hs⟩
 rw [CV] at hL7
 obtain ⟨a7,c7,rfl⟩:=RL.shape hL7
 refine .o (.aP (vs:=[_,_]) hs rfl rfl aI fun w hs=>?_)
 refine .nil (.ret ?_)
 exact Fin.iM [] [] hs fun w hs=>⟨_,results1 Tryz.results266 (dy (vs:=[_,_]) hs rfl bq aI),H2,hle1.trans hle2,⟨_,rfl,hL7⟩,hs.out⟩
theorem wA{b cap:Nat}{xs:List Int}{sp:List Value}(hs:St H w (.blk b (Is xs++sp)::σ))(hl:xs.length≤17592186044416):
  Cl Tryz.prog 303 [.slice (some ⟨b,0,none⟩) xs.length cap] w fun u w'=>u= .tuple #[]∧St H w' (.blk b (Is (xs.mergeSort fun x y=>decide (x≤y))++sp)::σ):=
 (FG b 0 cap xs w hs.holds (hs.lt .here) an).mono fun e w' ⟨he,m,os,hw⟩=>⟨_,he,rfl,by
  rw [hw]
  exact (hs.putRow (List.length_mergeSort _)).grow os⟩
theorem uH{a:Option Addr}{cap:Nat}(hs:St H w σ):
  Cl Tryz.prog 303 [.slice a 0 cap] w fun u w'=>u= .tuple #[]∧St H w' σ:=
 (y0 a cap w).mono fun e w' ⟨he,hw⟩=>⟨_,he,rfl,by rw [hw];exact hs⟩
theorem rR{b cap:Nat}{xs:List Int}{sp:List Value}(hs:St H w (.blk b (Is xs++sp)::σ))(hl:xs.length≤17592186044416)(hcap:xs.length≤cap):
  Cl Tryz.prog 304 [.slice (some ⟨b,0,none⟩) xs.length cap] w fun u w'=>u= .slice (some ⟨b,0,none⟩) (Go.Lib.compact xs).length cap∧St H w' (.blk b (Is (Go.Lib.compact xs)++(Is (List.replicate (xs.length - (Go.Lib.compact xs).length) 0)++sp))::σ):=
 (Bb b 0 cap xs w hs.holds an hcap).mono fun e w' ⟨he,m,hw⟩=>⟨_,he,rfl,by
  rw [hw]
  have h:=Go.Lib.compact_length_le xs
  have:=hs.putRow (m:=m) (ys:=Go.Lib.compact xs++List.replicate (xs.length - (Go.Lib.compact xs).length) 0) (by simp;omega)
  have e2:Is (Go.Lib.compact xs++List.replicate (xs.length - (Go.Lib.compact xs).length) 0)=Is (Go.Lib.compact xs)++Is (List.replicate (xs.length - (Go.Lib.compact xs).length) 0):=List.map_append
  rw [e2,List.append_assoc] at this
  exact this⟩
theorem qW{a:Option Addr}{cap:Nat}(hs:St H w σ):
  Cl Tryz.prog 304 [.slice a 0 cap] w fun u w'=>u= .slice a 0 cap∧St H w' σ:=
 (uG a cap w).mono fun e w' ⟨he,hw⟩=>⟨_,he,rfl,by rw [hw];exact hs⟩
theorem xR{v:Value}{xs:List Int}{en:Ent}(hs:St H w (en::σ))(hO:cZ 1 v (Is xs) en)(hl:xs.length≤17592186044416):
  Cl Tryz.prog 290 [v] w fun u w'=>∃L en',cZ 1 u (Is L) en'∧L.length≤xs.length∧mw (fun x=>x∈xs) L∧St H w' (en'::σ):=by
 rcases hO with ⟨a,rfl,h0,rfl⟩|⟨b,len,cap,sp,rfl,rfl,h3,h4,h5⟩
 ·have hx:xs=[]:=by simpa using h0
  subst hx
  refine Cl.o Tryz.func290 Tryz.ntmps290 ag1 ?_
  refine .aj (.zn zg (.aj (.z zm (.o (.call Tryz.call303 rfl (uH hs) ?_)))));rintro _ w ⟨rfl,hs⟩
  refine .nil (.aj (.z zm (.o (.call Tryz.call304 rfl (qW hs) ?_))));rintro _ w ⟨rfl,hs⟩
  refine .zn zg (.ret (Fin.bE Tryz.results290 rfl ?_))
  exact ⟨[],_,.nil 1 a,cq,.nil cq,hs.out⟩
 ·obtain rfl:len=xs.length:=by simpa using h3.symm
  refine Cl.o Tryz.func290 Tryz.ntmps290 ag1 ?_
  refine .aj (.zn zg (.aj (.z zm (.o (.call Tryz.call303 rfl (wA hs hl) ?_)))));rintro _ w ⟨rfl,hs⟩
  refine .nil (.aj (.z zm ?_))
  have hml:(xs.mergeSort fun x y=>decide (x≤y)).length=xs.length:=List.length_mergeSort _
  rw [←hml]
  refine .o (.call Tryz.call304 rfl (rR hs an an) ?_);rintro _ w ⟨rfl,hs⟩
  refine .zn zg (.ret (Fin.bE Tryz.results290 rfl ?_))
  have hcl:=Go.Lib.compact_length_le (xs.mergeSort fun x y=>decide (x≤y))
  have h4':xs.length+sp.length=cap:=by simpa using h4
  exact ⟨_,_,.inr ⟨b,_,cap,Is (List.replicate ((xs.mergeSort fun x y=>decide (x≤y)).length - (Go.Lib.compact (xs.mergeSort fun x y=>decide (x≤y))).length) 0)++sp,rfl,rfl,cq,by simp;omega,an⟩,an,Bd,hs⟩
theorem mQ{v:Value}{s:dp}(hs:St H w σ)(hr:RSy H v s)(hlen:s.dk.length≤4398046510976):
  Cl Tryz.prog 264 [v] w fun u w'=>∃L en,cZ 1 u (Is L) en∧L.length≤s.dk.length∧mw (IB s.dk) L∧St H w' (en::σ):=by
 obtain ⟨ul,rfl,hl⟩:=hr
 obtain ⟨al,cl,rfl⟩:=RL.shape hl
 refine Cl.o Tryz.func264 Tryz.ntmps264 ag1 ?_
 refine .aj (.bx hs fun b1 w hs=>?_)
 refine .zn zg (.aj (.zn zg (.seq (.aj (.z (zfa cN) (.y hs (zld dz) (.z (dc a8) (.zn zm (.for (N:=s.dk.length) (J:=fun k fr w=>∃v3 en,cZ 1 v3 (Is ((s.dk.take k).map Lim.S)) en∧fr=[(3,v3),(7,.slice al s.dk.length cl)]∧St H w (en::σ)) an ?_ ?_ ?_)))))))))
 ·exact .mk ⟨_,_,.nil 1 none,rfl,hs.nul.sb⟩
 ·rintro k fr w hk ⟨v3,en,hO,rfl,hs⟩
  obtain ⟨x,hx⟩:=nth (l:=s.dk) hk
  obtain ⟨a3,l3,c3,rfl,h3⟩:=hO.shape
  refine .block (.aj (.ixX hs hl rfl rfl a8 bJ hx rfl ?_));intro b11 o11 hc11
  refine .q hs (cj (vs:=x.c) rfl gw bJ hc11) (.o (.alloc hs eL rfl fun b5 w hs=>?_))
  refine .o (.aP (vs:=x.c) hs rfl rfl bJ fun w hs=>?_)
  refine .nil (.region (.z zm (.z (zfa kG) (.y hs (zld af) (.o (.buildSlice (cells:=[_]) hs db rfl rfl fun b16 w hs=>?_))))))
  refine .o (.append (ys:=Is [x.S]) hs cM rfl rfl hO (.own .here rfl rfl) (iL _) (fun l' h=>by simp at h;omega) ?_);intro v17 en17 w hO2 hs
  rw [←List.map_append] at hO2
  refine .zn zg (nB (nT ?_))
  exact .mk ⟨_,_,by rw [dP hx,List.map_append];exact hO2,rfl,hs.sb⟩
 ·rintro fr w ⟨v3,en,hO,rfl,hs⟩
  rw [List.take_length] at hO
  refine nT (.aj (.z zm (.o (.call Tryz.call290 rfl (xR hs hO (by rw [List.length_map];omega)) ?_))));rintro v20 w ⟨L,en',hO',hL,hR,hs⟩
  rw [List.length_map] at hL
  refine .zn zg (.ret (Fin.bE Tryz.results264 rfl ?_))
  exact ⟨L,en',hO',hL,hR.congr fun x=>by simp [IB],hs⟩
theorem qh{v:Value}{en:Ent}{xs:List Int}{g:Nat}{cap:List Value}(q:Int→Bool)(hs:St H w (en::σ))(hO:cZ 1 v (Is xs) en)(hl:xs.length≤17592186044416)(hc:∀args w,(callFunc g args).run Tryz.prog w= .ok (.enter g args) w)
  (hp:∀H' w σ (n:Int),n∈xs→HLe H H'→St H' w σ→Cl Tryz.prog g ([I n]++cap) w fun u w'=>∃H1,HLe H' H1∧u= .bool (q n)∧St H1 w' σ):
  Cl Tryz.prog 228 [v,.func (.func g) #[] cap.toArray] w fun u w'=>∃H1 i,HLe H H1∧u=I i∧((i= -1∧∀x∈xs,q x=false)∨(∃(k:Nat) (x:Int),i=k∧xs[k]? =some x∧q x=true∧∀j<k,∀y,xs[j]? =some y→q y=false))∧St H1 w' (en::σ):=by
 obtain ⟨a,c,rfl⟩:=hO.BV
 refine Cl.o Tryz.func228 Tryz.ntmps228 ag2 ?_
 refine .aj (.zn zg (.seq (.aj (.z zm (.z (dc ae) (.zn zm (.for (N:=xs.length) (J:=fun k fr w=>fr=[(1,.func (.func g) #[] cap.toArray),(0,.slice a xs.length c)]∧∃H1,HLe H H1∧(∀j<k,∀y,xs[j]? =some y→q y=false)∧St H1 w (en::σ)) an ?_ ?_ ?_)))))))
 ·exact .mk ⟨rfl,H,HLe.refl H,fun j hj=>by omega,hs⟩
 ·rintro k fr w hk ⟨rfl,H1,hle1,hno,hs⟩
  have hx:=bB hk
  obtain ⟨b,c',sp,hv,rfl,_⟩:=hO.blk an
  cases hv
  refine .block (.aj (.z zm (.zn zg (.aj (.z zm (.z zm (.z zm (.z (zix ae ai) (.q hs (eg rfl af (hv:=gu hk sp)) (.o (.qs (first:=[]) (cap:=cap) rfl rfl hc (hp _ _ _ (gi xs k) (List.mem_of_getElem? hx) hle1 hs) ?_)))))))))));rintro _ w ⟨H2,hle2,rfl,hs⟩
  refine .nil (.cond rfl (fun hc16=>?_) (fun hc16=>?_))
  ·refine .aj (.z zm (.zn zg (.ret (rB (rT (rB (rT (Fin.bE vB rfl ?_))))))))
   exact ⟨H2,_,hle1.trans hle2,rfl,.inr ⟨k,_,rfl,hx,hc16,hno⟩,hs⟩
  ·refine .skip (nB (nT ?_))
   exact .mk ⟨rfl,H2,hle1.trans hle2,fo hno hx hc16,hs⟩
 ·rintro fr w ⟨rfl,H1,hle1,hno,hs⟩
  refine nT (.aj (.zn zg (.ret (Fin.bE vB rfl ?_))))
  exact ⟨H1,_,hle1,rfl,.inl ⟨rfl,fun x hx=>by
   obtain ⟨j,hj⟩:=List.getElem?_of_mem hx
   exact hno j (List.getElem?_eq_some_iff.1 hj).1 x hj⟩,hs⟩
set_option maxHeartbeats 1000000 in
theorem oG{v:Value}{en:Ent}{xs:List Int}{g:Nat}{cap:List Value}(q:Int→Bool)(hs:St H w (en::σ))(hO:cZ 1 v (Is xs) en)(hl:xs.length≤17592186044416)(hc:∀args w,(callFunc g args).run Tryz.prog w= .ok (.enter g args) w)
  (hp:∀H' w σ (n:Int),n∈xs→HLe H H'→St H' w σ→Cl Tryz.prog g ([I n]++cap) w fun u w'=>∃H1,HLe H' H1∧u= .bool (q n)∧St H1 w' σ):
  Cl Tryz.prog 267 [v,.func (.func g) #[] cap.toArray] w fun u w'=>∃H1 en',HLe H H1∧cZ 1 u (Is (xs.filter fun x=> !q x)) en'∧St H1 w' (en'::σ):=by
 obtain ⟨a,c,rfl⟩:=hO.BV
 refine Cl.o Tryz.func267 Tryz.ntmps267 ag2 ?_
 refine .aj (.zn zg (.aj (.z zm (.z zm (.o (.call Tryz.call228 rfl (qh q hs hO hl hc hp) ?_))))));rintro _ w ⟨H1,i0,hle1,rfl,hcase,hs⟩
 refine .zn zg (.seq (.aj (.z zm (.zn fm (.bA rfl (fun hc12=>?_) (fun hc12=>?_))))))
 ·refine .aj (.z zm (.zn zg (.ret (rT (Fin.bE Tryz.results267 rfl ?_)))))
  have hno:∀x∈xs,q x=false:=by
   rcases hcase with ⟨_,h⟩|⟨k,x,h,_⟩
   ·exact h
   ·omega
  have e:xs.filter (fun x=> !q x)=xs:=List.filter_eq_self.2 fun x hx=>by simp [hno x hx]
  exact ⟨H1,en,hle1,by rw [e];exact hO,hs⟩
 ·refine .skip (nT (.seq (.aj (.z zm ?_))))
  obtain ⟨k0,x0,rfl,hx0,hq0,hno⟩:∃(k:Nat) (x:Int),i0=k∧xs[k]? =some x∧q x=true∧∀j<k,∀y,xs[j]? =some y→q y=false:=hcase.resolve_left fun h=>hc12 h.1
  have hk0:=(List.getElem?_eq_some_iff.1 hx0).1
  obtain ⟨b,c',sp,hv,rfl,hc'⟩:=hO.blk an
  cases hv
  refine .z cK (.zn zg (.block ?_))
  refine .loop (fun p:Nat×Nat=>⟨42,[],[(5,I (p.1:Int)),(6,I (p.2:Int)),(1,.func (.func g) #[] cap.toArray),(0,.slice (some ⟨b,0,none⟩) xs.length c)]⟩)
   (fun p w=>k0<p.2∧∃Y H1,HLe H H1∧BM q xs Y p.1 p.2∧St H1 w (.blk b (Is Y++sp)::σ))
   (fun p=>xs.length - p.2) (k0,k0+1) (.cons rfl (.cJ rfl (by dsimp only;omega) aU))
   ⟨by dsimp only;omega,xs,H1,hle1,.start hx0 hq0 hno,hs⟩ ?_
  clear hs hle1 hcase
  rintro ⟨i,j⟩ w ⟨hkj,Y,H1,hle1,hD,hs⟩
  dsimp only at hkj hD ⊢
  have hYl:=hD.len
  have hij:=hD.le
  have hjl:=hD.jl
  have hilt:=hD.lt hx0 hq0 hkj
  refine .seq (.aj (.z zm (.z zm (.z (dc ae) (.zn fM (.bA rfl (fun hc19=>?_) (fun hc19=>?_)))))))
  ·refine .skip (nT (.seq (.block (.aj (.z zm (.z zm ?_))))))
   have hj:j<Y.length:=by omega
   have hx:xs[j]? =some (gi Y j):=by rw [hD.rest j (Nat.le_refl _)];exact bB an
   refine .z (zix ae ai) (.q hs (eg rfl af (hv:=gu hj sp)) (.zn zg (.aj (.z zm (.z zm (.o (.qs (first:=[]) (cap:=cap) rfl rfl hc (hp _ _ _ (gi Y j) (List.mem_of_getElem? hx) hle1 hs) ?_)))))));rintro _ w ⟨H2,hle2,rfl,hs⟩
   refine .zn fZ (.cond rfl (fun hc29=>?_) (fun hc29=>?_))
   ·refine .aj (.z zm (.z zm (.z zm (.z (zix ae ai) (.o (.store hs rfl rfl ai ?_ .here (ml (show i<Y.length by omega) sp) (jD (show i<Y.length by omega) sp _)))))));intro w hs
    refine .nil (.region (.z zm (.z cK (.zn zg (nB (nT (.region (.z zm (.z cK (.zn zg (nT ?_)))))))))))
    exact ⟨(i+1,j+1),.cJ rfl (by dsimp only;omega) (.cJ rfl (by dsimp only;omega) aU),⟨by dsimp only;omega,_,H2,hle1.trans hle2,hD.keep hx (by simpa using hc29),hs⟩,by dsimp only;omega⟩
   ·refine .skip (nB (nT (.region (.z zm (.z cK (.zn zg (nT ?_)))))))
    exact ⟨(i,j+1),.cons rfl (.cJ rfl (by dsimp only;omega) aU),⟨by dsimp only;omega,_,H2,hle1.trans hle2,hD.skip hx (by simpa using hc29),hs⟩,by dsimp only;omega⟩
  ·refine .exit (xT (xT (xB (nT (.aj (.z zm (.z zm ?_)))))))
   obtain rfl:xs.length=j:=by omega
   refine .q hs (Ah (k:=i) rfl rfl ae ai an an) ?_
   rw [show 0+i*1=i by omega]
   refine .o (.Jn (c:=Is Y++sp) hs rfl ae cB (by simp;omega) ?_);intro w hs
   rw [hD.done sp] at hs
   have hil:=hD.il
   rw [List.take_length] at hil
   refine .nil (.aj (.z zm (.z zm (.q hs (wS (k:=i) rfl rfl ae ai an) (.zn zg (.ret (Fin.bE Tryz.results267 rfl ?_)))))))
   exact ⟨H1,_,hle1,.inr ⟨b,i,c,List.replicate (xs.length - i) (I 0)++sp,rfl,rfl,by simp [hil],by simp [←hil];omega,an⟩,hs⟩
def xV(L:List Int):List (List Value):=(List.range L.length).map fun j=>[I ((L.length - 1 - j:Nat):Int),I (gi L (L.length - 1 - j))]
theorem mR(L:List Int):(xV L).length=L.length:=by simp [xV]
theorem AT{L:List Int}{j:Nat}(h:j<(xV L).length):(xV L)[j]=[I ((L.length - 1 - j:Nat):Int),I (gi L (L.length - 1 - j))]:=by simp [xV]
theorem oI{H:cD}{b:Nat}{v:Value}{L:List Int}(hb:Row H b [v])(hr:RI H v L):Iter Tryz.prog 291 [Pt b] H (xV L):=by
 intro l II Ix _ _ hy H0 σb0 σf w hle hI0 hs
 obtain ⟨a,c,rfl⟩:=RI.shape hr
 have hlen:=(RI.len hr).2.2
 have hb0:cellAt H0 b 0=some (.slice a L.length c):=cellAt.mono (hb.at 0) hle
 refine Cl.o Tryz.func291 Tryz.ntmps291 ag2 ?_
 refine .aj (.y hs (zld aq) (.z (dc ae) (.z fY (.zn zg (.block ?_)))))
 refine .loop (fun j:Nat=>⟨19,[],[(3,I ((L.length:Int) - 1 - (j:Int))),(0,.func (.yield l) #[] #[]),(1,Pt b)]⟩)
  (fun j w=>j≤L.length∧∃H1 σb,HLe H H1∧HLe H0 H1∧II j H1 σb∧St H1 w (σb++σf)) (fun j=>L.length - j) 0 (.cJ rfl cq aU)
  ⟨Nat.zero_le _,H0,σb0,hle,HLe.refl _,hI0,hs⟩ ?_
 clear hs hI0
 rintro j w ⟨hj,H1,σb,hle1,hle0,hI,hs⟩
 have hb1:cellAt H1 b 0=some (.slice a L.length c):=cellAt.mono hb0 hle0
 refine .seq (.aj (.z zm (.zn uj (.bA rfl (fun hc8=>?_) (fun hc8=>?_)))))
 ·refine .skip (nT (.seq (.block (.aj (.z zm (.z zm (.y hs (zld aq) (.z zm (.ixY hs (hr.mono hle1) rfl rfl ae ai (bB (l:=L) (i:=L.length - 1 - j) an) an ?_)))))))));intro b15 o15 hc15
  refine .q hs (aJ rfl af hc15) ?_
  have hk':j<(xV L).length:=by rw [mR];omega
  have hyd:=hy j hk' H1 σb σf w hle1 hI hs
  rw [AT hk',show ((L.length - 1 - j:Nat):Int)=(L.length:Int) - 1 - (j:Int) by omega] at hyd
  refine .o (.yield rfl rfl hyd ?_);rintro v17 w ⟨H2,σ2,g1,hs,g3⟩
  obtain ⟨bb,rfl,gT,gF⟩:=oU g3
  refine .zn fZ (.cond rfl (fun hc18=>?_) (fun hc18=>?_))
  ·refine .ret (rB (rT (rT (rB (Fin.It Tryz.results291 ?_)))))
   exact ⟨H2,σ2,hle0.trans g1,hs,.inr (gF (by simpa using hc18))⟩
  ·refine .skip (nB (nT (.region (.z zm (.z fY (.zn zg (nT ?_)))))))
   exact ⟨j+1,.cJ rfl (by simp;omega) aU,⟨an,H2,σ2,hle1.trans g1,hle0.trans g1,gT (by simpa using hc18),hs⟩,an⟩
 ·refine .exit (xT (xT (xB ?_)))
  obtain rfl:L.length=j:=by omega
  exact Fin.AL Tryz.results291 ⟨H1,σb,hle0,hs,.inl (by rw [mR];exact hI)⟩
theorem qi{v:Value}{L:List Int}(hs:St H w σ)(hr:RI H v L):
  Cl Tryz.prog 265 [v] w fun u w'=>∃H1 b,HLe H H1∧u= .func (.func 291) #[] #[Pt b]∧Iter Tryz.prog 291 [Pt b] H1 (xV L)∧St H1 w' σ:=by
 obtain ⟨a,c,rfl⟩:=RI.shape hr
 refine Cl.o Tryz.func265 Tryz.ntmps265 ag1 ?_
 refine .aj (.bx hs fun b1 w hs=>?_)
 refine .zn zg (.aj (.q hs (dM (f:=[]) (c:=[_]) rfl rfl) (.zn zg (.ret (Fin.bE Tryz.results265 rfl ?_)))))
 obtain ⟨H1,g1,g2,hs⟩:=hs.di .here
 exact ⟨H1,b1,g1,rfl,oI g2 (hr.mono g1),hs⟩
theorem vi{n m:Int}{b:Nat}(hs:St H w σ)(hb:Row H b [I m]):
  Cl Tryz.prog 268 [I n,Pt b] w fun u w'=>u= .bool (decide (n=m))∧St H w' σ:=by
 have hb0:cellAt H b 0=some (I m):=hb.at 0
 refine Cl.o Tryz.func268 Tryz.ntmps268 ag2 ?_
 refine .aj (.zn zg (.aj (.z zm (.y hs (zld af) (.z fm (.zn zg (.ret (Fin.bE Tryz.results268 rfl ?_))))))))
 exact ⟨rfl,hs⟩
set_option maxHeartbeats 1000000 in
theorem rq{v:Value}{s:dp}(hs:St H w σ)(hr:RSy H v s):
  Cl Tryz.prog 220 [v] w fun u w'=>∃H1 vx out e,HLe H H1∧u= .tuple #[vx,I e]∧RI H1 vx out∧BO s out e∧St H1 w' σ:=by
 obtain ⟨ul,rfl,hl⟩:=hr
 obtain ⟨al,cl,rfl⟩:=RL.shape hl
 refine Cl.o Tryz.func220 Tryz.ntmps220 ag1 ?_
 refine .aj (.bx hs fun b1 w hs=>?_)
 refine .z zg (.zn zg (.seq (.aj (.y hs (zls [_,_] bq aI) (.o (.call Tryz.call197 rfl (jI (s:=s) hs ⟨_,rfl,hl⟩) ?_))))));rintro _ w ⟨rfl,hs⟩
 refine .zn zg (.aj (.z zm (.zn gE (.dV rfl (fun hc12=>?_) (fun hc12=>?_)))))
 ·refine .aj (.z zm (.z zg (.zn zg (.ret (rT (?_))))))
  exact Fin.iM [] [] hs fun w hs=>⟨_,results2 Tryz.results220 rfl rfl,H,_,[],_,HLe.refl H,rfl,RS.nil H 1 none 0,.bad hc12,hs.out⟩
 ·refine .skip (nT (.seq (.aj (.y hs (zls [_,_] bq aI) ?_))))
  have hok:s.Ok:=s.dU.1 (by simpa using hc12)
  have hll:=hok.len
  refine .o (.call Tryz.call223 rfl (kc (s:=s) hs hok ⟨_,rfl,hl⟩) ?_);rintro _ w ⟨H1,bb,hle1,rfl,hbb,hs⟩
  refine .nil (.cond rfl (fun hc15=>?_) (fun hc15=>?_))
  ·refine .aj (.z zg (.zn zg (.ret (rT (?_)))))
   exact Fin.iM [] [] hs fun w hs=>⟨_,results2 Tryz.results220 rfl rfl,H1,_,[],_,hle1,rfl,RS.nil H1 1 none 0,.none hok (hbb.1 hc15),hs.out⟩
  ·refine .skip (nT (.aj (.y hs (zls [_,_] bq aI) ?_)))
   have hns:¬s.Sound:=fun h=>by rw [hbb.2 h] at hc15;cases hc15
   refine .o (.call Tryz.call264 rfl (mQ (s:=s) hs ⟨_,rfl,hl.mono hle1⟩ an) ?_);rintro v17 w ⟨L,en,hO,hLl,hRise,hs⟩
   obtain ⟨a17,l17,c17,rfl,h17⟩:=hO.shape
   refine .o (.alloc hs ee rfl fun b5 w hs=>?_)
   refine .o (.store hs rfl rfl aA fun w hs=>?_)
   refine .nil (.seq (.aj (.y hs (zls [_,_] bq aI) (.o (.call Tryz.call264 rfl (mQ (s:=s) hs ⟨_,rfl,hl.mono hle1⟩ an) ?_)))));rintro v19 w ⟨L',en',hO',hLl',hRise',hs⟩
   obtain rfl:L=L':=hRise.uniq hRise'
   obtain ⟨H2,hle2,hR19,hs⟩:=cZ.dS hO' an hs .here
   refine .o (.call Tryz.call265 rfl (qi hs hR19) ?_);rintro _ w ⟨H3,b20,hle3,rfl,hit,hs⟩
   have hle03:=hle1.trans (hle2.trans hle3)
   refine .nil (.block ?_)
   refine .rangeFunc (gf:=291) (cap:=[Pt b20]) (xs:=xV L) (σb:=[.blk b1 [I s.many,.slice al s.dk.length cl],.blk b5 [.slice a17 l17 c17],en]) (σf:=σ) (hs.sb:St H3 w (.blk b1 _:: .blk b5 _::en::σ)) trivial rfl hit Tryz.call291 (fun x hx=>by
     simp only [xV,List.mem_map] at hx
     obtain ⟨j,_,rfl⟩:=hx;rfl) rfl
    (I:=fun j H' σb=>∃(t:dp) (ut vo:Value) (out:List Int) (en:Ent),σb=[.blk b1 [I t.many,ut],.blk b5 [vo],en]∧RL H' ut t.dk∧cZ 1 vo (Is out) en∧out.length≤L.length∧t.Ok∧xr s L (L.length - j) t out) (Ix:=fun _ _ _=>False)
    (fun j _ _ σ g1 ⟨t,ut,vo,out,en,g2,g3,g4⟩=>⟨t,ut,vo,out,en,g2,g3.mono g1,g4⟩) (fun _ _ _ _ _ h=>h)
    ⟨s,_,_,L,en,rfl,hl.mono hle03,hO,Nat.le_refl _,hok,.start⟩ ?_ ?_ (fun D c H' σb w _ h _=>h.elim)
   ·rintro l j hj H4 σb2 σf2 w hle4 ⟨t,ut,vo,out,en,rfl,hut,hOo,hol,htok,hC⟩ hs ⟨rr,hrr⟩
    rw [AT hj]
    have hjL:j<L.length:=by rw [mR] at hj;exact hj
    obtain ⟨at',ct,rfl⟩:=RL.shape hut
    obtain ⟨ao,lo,co,rfl,hlo⟩:=hOo.shape
    refine .region (.o (.alloc hs cB rfl fun b7 w hs=>?_))
    refine .o (.store hs rfl rfl ai fun w hs=>?_)
    refine .nil (nT (⟨H4,[.blk b7 [I (gi L (L.length - 1 - j))],.blk b1 [I t.many,.slice at' t.dk.length ct],.blk b5 [.slice ao lo co],en],HLe.refl _,hs,?_⟩));rintro w σf4 - hs
    refine .block (.aj (.y hs (zls [_,_] bq aI) (.y hs (zld af) (.o (.buildSlice (cells:=[_]) hs db rfl rfl fun b25 w hs=>?_)))))
    obtain ⟨H5,hle5,r25,hs⟩:=cZ.dS (xs:=[gi L (L.length - 1 - j)]) (v:= .slice (some ⟨b25,0,none⟩) 1 1) (.full (len:=1) rfl) cq hs dn
    refine .o (.call Tryz.call266 rfl (sQ (s:=t) hs ⟨_,rfl,hut.mono hle5⟩ r25 (by have:=htok.len;omega)) ?_);rintro _ w ⟨H6,hle6,⟨u26,rfl,hL26⟩,hs⟩
    obtain ⟨a26,c26,rfl⟩:=RL.shape hL26
    refine .o (.alloc hs dD rfl fun b8 w hs=>?_)
    refine .o (.aP (vs:=[_,_]) hs rfl rfl aI fun w hs=>?_)
    refine .nil (.aj (.y hs (zls [_,_] bq aI) (.o (.call Tryz.call223 rfl (kc (s:=t.wo [gi L (L.length - 1 - j)]) hs (htok.wo _) ⟨_,rfl,hL26⟩) ?_))));rintro _ w ⟨H7,b28,hle7,rfl,hb28,hs⟩
    have hle47:=hle5.trans (hle6.trans hle7)
    refine .zn fZ (.cond rfl (fun hc29=>?_) (fun hc29=>?_))
    ·refine .aj (.y hs (zls [_,_] bq aI) (.o (.aP (vs:=[_,_]) hs rfl rfl aI fun w hs=>?_)))
     refine .nil (.region (.y hs (zld aq) (.q hs (dM (f:=[]) (c:=[_]) rfl rfl) ?_)))
     obtain ⟨H8,hle8,r7,hs⟩:=hs.di (b:=b7) dn
     replace hs:St H8 w (en:: .blk b1 [I t.many,.slice a26 (t.wo [gi L (L.length - 1 - j)]).dk.length c26]:: .blk b5 [.slice ao lo co]::σf4):=hs.sb
     refine .o (.call Tryz.call267 rfl (oG (g:=268) (cap:=[Pt b7]) (fun n=>decide (n=gi L (L.length - 1 - j))) hs hOo an Tryz.call268
      (fun H' w σ n _ hle hs=>(vi hs (r7.mono hle)).mono fun u w' ⟨g1,g2⟩=>⟨H',HLe.refl _,g1,g2⟩)) ?_);rintro v33 w ⟨H9,en9,hle9,hO9,hs⟩
     obtain ⟨a33,l33,c33,rfl,h33⟩:=hO9.shape
     refine .o (.store hs rfl rfl aA fun w hs=>?_)
     refine .nil (nB ?_)
     have hfl:=List.length_filter_le (fun n=> !decide (n=gi L (L.length - 1 - j))) out
     have e:L.length - (j+1)=L.length - 1 - j:=by omega
     have hns':¬(t.wo [gi L (L.length - 1 - j)]).Sound:=fun h=>by rw [hb28.2 h] at hc29;cases hc29
     exact ⟨H9,[.blk b1 [I t.many,.slice a26 (t.wo [gi L (L.length - 1 - j)]).dk.length c26],.blk b5 [.slice a33 l33 c33],en9],hle47.trans (hle8.trans hle9),(hs.sb:St H9 w (.blk b1 _:: .blk b5 _::en9::σf4)),t.wo [gi L (L.length - 1 - j)],_,_,_,_,rfl,hL26.mono (hle7.trans (hle8.trans hle9)),hO9,an,htok.wo _,by
      rw [e]
      exact .drop (by rw [show L.length - 1 - j+1=L.length - j by omega];exact hC) hns'⟩
    ·refine .skip (nB ?_)
     have e:L.length - (j+1)=L.length - 1 - j:=by omega
     have hsd':(t.wo [gi L (L.length - 1 - j)]).Sound:=hb28.1 (by simpa using hc29)
     exact ⟨H7,[.blk b1 [I t.many,.slice at' t.dk.length ct],.blk b5 [.slice ao lo co],en],hle47,(hs.sb:St H7 w (.blk b1 _:: .blk b5 _::en::σf4)),t,_,_,_,_,rfl,hut.mono hle47,hOo,hol,htok,by
      rw [e]
      exact .keep (by rw [show L.length - 1 - j+1=L.length - j by omega];exact hC) hsd'⟩
   ·rintro D H4 σb2 w hle4 ⟨t,ut,vo,out,en,rfl,hut,hOo,hol,htok,hC⟩ hs
    rw [mR,Nat.sub_self] at hC
    obtain ⟨ao,lo,co,rfl,hlo⟩:=hOo.shape
    replace hs:St H4 w (.obj D (.deferred (some [])):: .blk b1 [I t.many,ut]:: .blk b5 [.slice ao lo co]::en::σ):=hs
    refine nB (nT (.aj (.y hs (zld aq) (.z zg (.zn zg (.ret ?_))))))
    obtain ⟨H5,hle5,hR5,hs⟩:=cZ.dS hOo an hs dn
    exact Fin.iM [D] [] hs fun w hs=>⟨_,results2 Tryz.results220 rfl rfl,H5,_,out,0,hle03.trans (hle4.trans hle5),rfl,hR5,.ok hok hns hRise hC,hs.out⟩
theorem oF{v:Value}{xs:List Int}{g:Nat}{cap:List Value}(q:Int→Prop)(hs:St H w σ)(hR:RI H v xs)(hc:∀args w,(callFunc g args).run Tryz.prog w= .ok (.enter g args) w)
  (hp:∀H' w σ (n:Int),n∈xs→HLe H H'→St H' w σ→Cl Tryz.prog g ([I n]++cap) w fun u w'=>∃H1 b,HLe H' H1∧u= .bool b∧(b=true↔q n)∧St H1 w' σ):
  Cl Tryz.prog 228 [v,.func (.func g) #[] cap.toArray] w fun u w'=>∃H1 i,HLe H H1∧u=I i∧(0≤i↔∃x∈xs,q x)∧St H1 w' σ:=by
 obtain ⟨a,c,rfl⟩:=RI.shape hR
 have hl:=(RI.len hR).2.2
 refine Cl.o Tryz.func228 Tryz.ntmps228 ag2 ?_
 refine .aj (.zn zg (.seq (.aj (.z zm (.z (dc ae) (.zn zm (.for (N:=xs.length) (J:=fun k fr w=>fr=[(1,.func (.func g) #[] cap.toArray),(0,.slice a xs.length c)]∧∃H1,HLe H H1∧(∀j<k,∀y,xs[j]? =some y→¬q y)∧St H1 w σ) an ?_ ?_ ?_)))))))
 ·exact .mk ⟨rfl,H,HLe.refl H,fun j hj=>by omega,hs⟩
 ·rintro k fr w hk ⟨rfl,H1,hle1,hno,hs⟩
  obtain ⟨x,hx⟩:=nth hk
  refine .block (.aj (.z zm (.zn zg (.aj (.z zm (.z zm (.z zm (.ixY hs (hR.mono hle1) rfl rfl ae ai hx rfl ?_))))))));intro b14 o14 hc14
  refine .q hs (aJ rfl af hc14) (.o (.qs (first:=[]) (cap:=cap) rfl rfl hc (hp _ _ _ x (List.mem_of_getElem? hx) hle1 hs) ?_));rintro _ w ⟨H2,b16,hle2,rfl,hb16,hs⟩
  refine .nil (.cond rfl (fun hc16=>?_) (fun hc16=>?_))
  ·refine .aj (.z zm (.zn zg (.ret (rB (rT (rB (rT (Fin.bE vB rfl ?_))))))))
   exact ⟨H2,_,hle1.trans hle2,rfl,⟨fun _=>⟨x,List.mem_of_getElem? hx,hb16.1 hc16⟩,fun _=>by omega⟩,hs⟩
  ·refine .skip (nB (nT ?_))
   exact .mk ⟨rfl,H2,hle1.trans hle2,fo hno hx (fun h=>by rw [hb16.2 h] at hc16;cases hc16),hs⟩
 ·rintro fr w ⟨rfl,H1,hle1,hno,hs⟩
  refine nT (.aj (.zn zg (.ret (Fin.bE vB rfl ?_))))
  exact ⟨H1,_,hle1,rfl,⟨fun h=>by omega,fun ⟨x,h1,h2⟩=>by
   obtain ⟨j,hj⟩:=List.getElem?_of_mem h1
   exact (hno j (List.getElem?_eq_some_iff.1 hj).1 x hj h2).elim⟩,hs⟩
theorem mT{v:Value}{xs:List Int}{g:Nat}{cap:List Value}(q:Int→Prop)(hs:St H w σ)(hR:RI H v xs)(hc:∀args w,(callFunc g args).run Tryz.prog w= .ok (.enter g args) w)
  (hp:∀H' w σ (n:Int),n∈xs→HLe H H'→St H' w σ→Cl Tryz.prog g ([I n]++cap) w fun u w'=>∃H1 b,HLe H' H1∧u= .bool b∧(b=true↔q n)∧St H1 w' σ):
  Cl Tryz.prog 185 [v,.func (.func g) #[] cap.toArray] w fun u w'=>∃H1 b,HLe H H1∧u= .bool b∧(b=true↔∃x∈xs,q x)∧St H1 w' σ:=by
 refine Cl.o Tryz.func185 Tryz.ntmps185 ag2 ?_
 refine .aj (.zn zg (.aj (.z zm (.z zm (.o (.call Tryz.call228 rfl (oF q hs hR hc hp) ?_))))));rintro _ w ⟨H1,i,hle1,rfl,hi,hs⟩
 refine .z uj (.zn zg (.ret (Fin.bE Tryz.results185 rfl ?_)))
 exact ⟨H1,_,hle1,rfl,by simp only [decide_eq_true_eq];exact hi,hs⟩
end Go.Proofs.YteajddicacjkhaaGreat
