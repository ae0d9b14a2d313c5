/-
  Texts of these claims, joined: Opn Opi Opv Opm Opq Opc Cls Fct Wa Wb Wc Wd We Wf Wg Wn Wp Wt Wu Wy Wz Xb Xe Xf Xh Xi Xj Xl Xn Xo Xq Xt Xu Xw Srt Yc Yd Ye Yf Yq Yr Za Zb Zc Zd.
-/
import Derived.Test.YteajddicacjkhaaGreatEc
import Derived.Test.YteajddicacjkhaaGreatProg
import Derived.KernelRfl
import Derived.OpenShut
import Derived.ProofKit
import Derived.ShutString
import Derived.ChangeOld
import Derived.JoinedOf
import Derived.Shelf.Sort.Plain
import Derived.Shelf.Slices.CompactI
import Derived.Shelf.Slices.In.SortNone
import Derived.Lib.RowBridge
namespace Go.Proofs.YteajddicacjkhaaGreat
theorem JS:type_of% @Tryz.call117:=@Tryz.call117
theorem BD:type_of% @Tryz.call131:=@Tryz.call131
theorem JR:type_of% @Tryz.call133:=@Tryz.call133
theorem ik:type_of% @Tryz.call141:=@Tryz.call141
theorem fk:type_of% @Tryz.call146:=@Tryz.call146
theorem db:type_of% @Tryz.call164:=@Tryz.call164
theorem uk:type_of% @Tryz.call167:=@Tryz.call167
theorem BC:type_of% @Tryz.call188:=@Tryz.call188
theorem BA:type_of% @Tryz.call199:=@Tryz.call199
theorem Bz:type_of% @Tryz.call242:=@Tryz.call242
theorem By:type_of% @Tryz.call253:=@Tryz.call253
theorem Fz:type_of% @Tryz.call26:=@Tryz.call26
theorem fU:type_of% @Tryz.call36:=@Tryz.call36
theorem dF:type_of% @Tryz.call72:=@Tryz.call72
theorem fT:type_of% @Tryz.call90:=@Tryz.call90
theorem xp:type_of% @Tryz.call93:=@Tryz.call93
theorem fS:type_of% @Tryz.isAgg100:=@Tryz.isAgg100
theorem yU:type_of% @Tryz.isAgg113:=@Tryz.isAgg113
theorem lQ:type_of% @Tryz.isAgg140:=@Tryz.isAgg140
theorem Hs:type_of% @Tryz.isAgg159:=@Tryz.isAgg159
theorem dv:type_of% @Tryz.isAgg162:=@Tryz.isAgg162
theorem cu:type_of% @Tryz.isAgg175:=@Tryz.isAgg175
theorem bg:type_of% @Tryz.isAgg177:=@Tryz.isAgg177
theorem yT:type_of% @Tryz.isAgg179:=@Tryz.isAgg179
theorem eE:type_of% @Tryz.isAgg193:=@Tryz.isAgg193
theorem jq:type_of% @Tryz.isAgg22:=@Tryz.isAgg22
theorem qG:type_of% @Tryz.isAgg226:=@Tryz.isAgg226
theorem qE:type_of% @Tryz.isAgg241:=@Tryz.isAgg241
theorem qD:type_of% @Tryz.isAgg243:=@Tryz.isAgg243
theorem bE:type_of% @Tryz.isAgg25:=@Tryz.isAgg25
theorem fj:type_of% @Tryz.isAgg26:=@Tryz.isAgg26
theorem eD:type_of% @Tryz.isAgg267:=@Tryz.isAgg267
theorem bQ:type_of% @Tryz.isAgg28:=@Tryz.isAgg28
theorem af:type_of% @Tryz.isAgg3:=@Tryz.isAgg3
theorem fR:type_of% @Tryz.isAgg303:=@Tryz.isAgg303
theorem an:type_of% @Tryz.isAgg34:=@Tryz.isAgg34
theorem bh:type_of% @Tryz.isAgg42:=@Tryz.isAgg42
theorem aT:type_of% @Tryz.isAgg48:=@Tryz.isAgg48
theorem cS:type_of% @Tryz.isAgg49:=@Tryz.isAgg49
theorem oa:type_of% @Tryz.isAgg50:=@Tryz.isAgg50
theorem aJ:type_of% @Tryz.isAgg52:=@Tryz.isAgg52
theorem uj:type_of% @Tryz.isAgg62:=@Tryz.isAgg62
theorem fQ:type_of% @Tryz.isAgg87:=@Tryz.isAgg87
theorem sH:type_of% @Tryz.results111:=@Tryz.results111
theorem jD:type_of% @Tryz.results117:=@Tryz.results117
theorem ma:type_of% @Tryz.results120:=@Tryz.results120
theorem sG:type_of% @Tryz.results134:=@Tryz.results134
theorem l9:type_of% @Tryz.results150:=@Tryz.results150
theorem sF:type_of% @Tryz.results170:=@Tryz.results170
theorem dT:type_of% @Tryz.results18:=@Tryz.results18
theorem eG:type_of% @Tryz.results19:=@Tryz.results19
theorem sE:type_of% @Tryz.results228:=@Tryz.results228
theorem BK:type_of% @Tryz.results250:=@Tryz.results250
theorem l8:type_of% @Tryz.results256:=@Tryz.results256
theorem BJ:type_of% @Tryz.results259:=@Tryz.results259
theorem nZ:type_of% @Tryz.results32:=@Tryz.results32
theorem yS:type_of% @Tryz.results6:=@Tryz.results6
theorem Fy:type_of% @Tryz.results75:=@Tryz.results75
theorem uQ:type_of% @Tryz.results79:=@Tryz.results79
theorem eY:type_of% @Tryz.runUnderlying100:=@Tryz.runUnderlying100
theorem pC:type_of% @Tryz.runUnderlying104:=@Tryz.runUnderlying104
theorem DN:type_of% @Tryz.runUnderlying113:=@Tryz.runUnderlying113
theorem pB:type_of% @Tryz.runUnderlying140:=@Tryz.runUnderlying140
theorem gD:type_of% @Tryz.runUnderlying151:=@Tryz.runUnderlying151
theorem gC:type_of% @Tryz.runUnderlying153:=@Tryz.runUnderlying153
theorem aV:type_of% @Tryz.runUnderlying159:=@Tryz.runUnderlying159
theorem gz:type_of% @Tryz.runUnderlying162:=@Tryz.runUnderlying162
theorem aH:type_of% @Tryz.runUnderlying175:=@Tryz.runUnderlying175
theorem DM:type_of% @Tryz.runUnderlying179:=@Tryz.runUnderlying179
theorem DL:type_of% @Tryz.runUnderlying190:=@Tryz.runUnderlying190
theorem pA:type_of% @Tryz.runUnderlying193:=@Tryz.runUnderlying193
theorem cq:type_of% @Tryz.runUnderlying22:=@Tryz.runUnderlying22
theorem fo:type_of% @Tryz.runUnderlying23:=@Tryz.runUnderlying23
theorem DK:type_of% @Tryz.runUnderlying236:=@Tryz.runUnderlying236
theorem dR:type_of% @Tryz.runUnderlying238:=@Tryz.runUnderlying238
theorem DJ:type_of% @Tryz.runUnderlying246:=@Tryz.runUnderlying246
theorem rz:type_of% @Tryz.runUnderlying25:=@Tryz.runUnderlying25
theorem bn:type_of% @Tryz.runUnderlying26:=@Tryz.runUnderlying26
theorem cW:type_of% @Tryz.runUnderlying260:=@Tryz.runUnderlying260
theorem au:type_of% @Tryz.runUnderlying267:=@Tryz.runUnderlying267
theorem DI:type_of% @Tryz.runUnderlying272:=@Tryz.runUnderlying272
theorem aS:type_of% @Tryz.runUnderlying3:=@Tryz.runUnderlying3
theorem pz:type_of% @Tryz.runUnderlying303:=@Tryz.runUnderlying303
theorem ae:type_of% @Tryz.runUnderlying34:=@Tryz.runUnderlying34
theorem Fx:type_of% @Tryz.runUnderlying39:=@Tryz.runUnderlying39
theorem Fw:type_of% @Tryz.runUnderlying42:=@Tryz.runUnderlying42
theorem ki:type_of% @Tryz.runUnderlying48:=@Tryz.runUnderlying48
theorem aN:type_of% @Tryz.runUnderlying49:=@Tryz.runUnderlying49
theorem cR:type_of% @Tryz.runUnderlying50:=@Tryz.runUnderlying50
theorem Fv:type_of% @Tryz.runUnderlying52:=@Tryz.runUnderlying52
theorem aC:type_of% @Tryz.runUnderlying62:=@Tryz.runUnderlying62
theorem ru:type_of% @Tryz.runUnderlying66:=@Tryz.runUnderlying66
theorem eg:type_of% @Tryz.runUnderlying80:=@Tryz.runUnderlying80
theorem kh:type_of% @Tryz.runUnderlying87:=@Tryz.runUnderlying87
theorem dE:type_of% @Tryz.runUnderlying96:=@Tryz.runUnderlying96
theorem rq:type_of% @Tryz.runUnderlying97:=@Tryz.runUnderlying97
theorem aW:type_of% @Tryz.sizeOf100:=@Tryz.sizeOf100
theorem iS:type_of% @Tryz.sizeOf104:=@Tryz.sizeOf104
theorem iR:type_of% @Tryz.sizeOf113:=@Tryz.sizeOf113
theorem cQ:type_of% @Tryz.sizeOf134:=@Tryz.sizeOf134
theorem bZ:type_of% @Tryz.sizeOf140:=@Tryz.sizeOf140
theorem uP:type_of% @Tryz.sizeOf151:=@Tryz.sizeOf151
theorem eF:type_of% @Tryz.sizeOf153:=@Tryz.sizeOf153
theorem bj:type_of% @Tryz.sizeOf162:=@Tryz.sizeOf162
theorem nY:type_of% @Tryz.sizeOf175:=@Tryz.sizeOf175
theorem aE:type_of% @Tryz.sizeOf177:=@Tryz.sizeOf177
theorem dS:type_of% @Tryz.sizeOf179:=@Tryz.sizeOf179
theorem nX:type_of% @Tryz.sizeOf190:=@Tryz.sizeOf190
theorem aQ:type_of% @Tryz.sizeOf193:=@Tryz.sizeOf193
theorem kg:type_of% @Tryz.sizeOf241:=@Tryz.sizeOf241
theorem aO:type_of% @Tryz.sizeOf25:=@Tryz.sizeOf25
theorem qC:type_of% @Tryz.sizeOf26:=@Tryz.sizeOf26
theorem uO:type_of% @Tryz.sizeOf267:=@Tryz.sizeOf267
theorem aU:type_of% @Tryz.sizeOf28:=@Tryz.sizeOf28
theorem aj:type_of% @Tryz.sizeOf3:=@Tryz.sizeOf3
theorem aD:type_of% @Tryz.sizeOf303:=@Tryz.sizeOf303
theorem aA:type_of% @Tryz.sizeOf34:=@Tryz.sizeOf34
theorem ui:type_of% @Tryz.sizeOf4:=@Tryz.sizeOf4
theorem az:type_of% @Tryz.sizeOf42:=@Tryz.sizeOf42
theorem aF:type_of% @Tryz.sizeOf48:=@Tryz.sizeOf48
theorem Hr:type_of% @Tryz.sizeOf49:=@Tryz.sizeOf49
theorem aB:type_of% @Tryz.sizeOf52:=@Tryz.sizeOf52
theorem yR:type_of% @Tryz.sizeOf64:=@Tryz.sizeOf64
theorem aZ:type_of% @Tryz.sizeOf87:=@Tryz.sizeOf87
theorem iQ:type_of% @Tryz.typeInfo3:=@Tryz.typeInfo3
theorem zX:type_of% @Tryz.typeInfo303:=@Tryz.typeInfo303
theorem e8:type_of% @Tryz.underlying3:=@Tryz.underlying3
theorem nW:type_of% @Tryz.underlying39:=@Tryz.underlying39
theorem jT:type_of% @Tryz.underlying44:=@Tryz.underlying44
theorem fD:type_of% @Tryz.zeroValue100:=@Tryz.zeroValue100
theorem xo:type_of% @Tryz.zeroValue104:=@Tryz.zeroValue104
theorem ij:type_of% @Tryz.zeroValue134:=@Tryz.zeroValue134
theorem jS:type_of% @Tryz.zeroValue140:=@Tryz.zeroValue140
theorem xn:type_of% @Tryz.zeroValue153:=@Tryz.zeroValue153
theorem jR:type_of% @Tryz.zeroValue162:=@Tryz.zeroValue162
theorem dz:type_of% @Tryz.zeroValue177:=@Tryz.zeroValue177
theorem xm:type_of% @Tryz.zeroValue179:=@Tryz.zeroValue179
theorem jQ:type_of% @Tryz.zeroValue190:=@Tryz.zeroValue190
theorem dy:type_of% @Tryz.zeroValue193:=@Tryz.zeroValue193
theorem JQ:type_of% @Tryz.zeroValue236:=@Tryz.zeroValue236
theorem iP:type_of% @Tryz.zeroValue25:=@Tryz.zeroValue25
theorem kR:type_of% @Tryz.zeroValue28:=@Tryz.zeroValue28
theorem bN:type_of% @Tryz.zeroValue3:=@Tryz.zeroValue3
theorem dx:type_of% @Tryz.zeroValue303:=@Tryz.zeroValue303
theorem ef:type_of% @Tryz.zeroValue34:=@Tryz.zeroValue34
theorem bS:type_of% @Tryz.zeroValue42:=@Tryz.zeroValue42
theorem iO:type_of% @Tryz.zeroValue48:=@Tryz.zeroValue48
theorem ee:type_of% @Tryz.zeroValue52:=@Tryz.zeroValue52
theorem cB:type_of% @Tryz.zeroValue87:=@Tryz.zeroValue87
end Go.Proofs.YteajddicacjkhaaGreat
namespace Go.Proofs.YteajddicacjkhaaGreat
open Go.MW Go.ChangeShapes Go.WideShapes
set_option maxRecDepth 100000
theorem zL:Tryz.prog.cellsOf 3=1:=by kernel_rfl
theorem Dg:Tryz.prog.cellsOf 34=1:=by kernel_rfl
theorem JA:Tryz.prog.bytesOf 3=8:=by kernel_rfl
theorem El:reachBytes=140737488351232:=rfl
section
variable{H:Type}{enc:TypeId×Value→H}{w:World}{sp:Nat→Bool}{held:Bool}{n:Nat}{cs:List Value}{y:DataW H×List MemPlace}{v:Value}{d:DataW H}{p:List MemPlace}{r:Reach}{base:Nat}
theorem Cu(hw:Wt Tryz.prog 34 y.1)(h:DataW.trod enc Tryz.prog w 0 sp held n 34 cs=some y):∃v xs,cs=[v]∧RI (hp w) v xs∧IsIn xs:=by
 obtain ⟨v,xs,h1,h2,h3,h4⟩:=Gc Tryz.underlying34 e8 zL hw h
 rw [JA,El] at h3
 exact ⟨v,xs,h1,h2,ak,h4⟩
end
end Go.Proofs.YteajddicacjkhaaGreat
namespace Go.Proofs.YteajddicacjkhaaGreat
open Go.MW Go.ChangeShapes Go.WideShapes Go.ChangeAt Go.RowKit
set_option maxRecDepth 100000 in
theorem HX{H:Type}{enc:TypeId×Value→H}{w:World}{sp:Nat→Bool}{held:Bool}{v:Value}{d:DataW H}{p:List MemPlace}{r:Reach}{base:Nat}
  (hv:Value.okWide Tryz.prog w r base 3 v) (h:DataW.Trod enc Tryz.prog w 0 sp held 3 v d p):∃a,v=I a∧I64 a:=by
 obtain ⟨a,rfl,rfl,rfl,wa⟩:=open_int e8 hv h
 exact ⟨a,rfl,JT wa⟩
open Go.MW Go.ChangeShapes Go.WideShapes
set_option maxRecDepth 100000
theorem len6{α:Type}{l:List α}(h:l.length=6):∃a b c d e f,l=[a,b,c,d,e,f]:=by match l,h with|[a,b,c,d,e,f],_=>exact ⟨a,b,c,d,e,f,rfl⟩
section
variable{H:Type}{enc:TypeId×Value→H}{w:World}{sp:Nat→Bool}{held:Bool}{n:Nat}{cs:List Value}{y:DataW H×List MemPlace}{v:Value}{d:DataW H}{p:List MemPlace}{r:Reach}{base:Nat}
end
end Go.Proofs.YteajddicacjkhaaGreat
namespace Go.Proofs.YteajddicacjkhaaGreat
open Go.MW Go.ChangeShapes Go.WideShapes
set_option maxRecDepth 100000
theorem Fj:Tryz.prog.cellsOf 35=1:=by kernel_rfl
theorem Fi:Tryz.prog.cellsOf 36=1:=by kernel_rfl
theorem c_53:Tryz.prog.cellsOf 151=5:=by kernel_rfl
theorem c_43:Tryz.prog.cellsOf 97=4:=by kernel_rfl
theorem I1:Tryz.prog.cellsOf 37=3:=by kernel_rfl
theorem Dh:Tryz.prog.cellsOf 39=7:=by kernel_rfl
theorem len7{α:Type}{l:List α}(h:l.length=7):∃a b c d e f g,l=[a,b,c,d,e,f,g]:=by match l,h with|[a,b,c,d,e,f,g],_=>exact ⟨a,b,c,d,e,f,g,rfl⟩
theorem FT:∀{zs:List (List Int)},(∀z∈zs,z.length=5∧∀y∈z,I64 y)→∃ls:List F5,zs.map Is=ls.map F5.v
 |[],_=>⟨[],rfl⟩
 |z::zs,h=>by
  obtain ⟨ls,h1⟩:=FT (fun c hc=>h c (.tail _ hc))
  obtain ⟨h3,_⟩:=h z (.head _)
  match z,h3 with
  |[a,b,c,d,e],_=>exact ⟨⟨a,b,c,d,e⟩::ls,by rw [List.map_cons,h1];rfl⟩
theorem FR:∀{zs:List (List Int)},(∀z∈zs,z.length=4∧∀y∈z,I64 y)→∃ls:List F4,zs.map Is=ls.map F4.v
 |[],_=>⟨[],rfl⟩
 |z::zs,h=>by
  obtain ⟨ls,h1⟩:=FR (fun c hc=>h c (.tail _ hc))
  obtain ⟨h3,_⟩:=h z (.head _)
  match z,h3 with
  |[a,b,c,d],_=>exact ⟨⟨a,b,c,d⟩::ls,by rw [List.map_cons,h1];rfl⟩
structure JY where
 sp:List Int
 rs:List F5
 cs:List F4
 pk:List Int
 x:Int
 y:Int
 z:Int
def JF(H:bB)(v:Value)(r:JY):Prop:=∃vs v5 v4 vp,v= .agg #[vs,v5,v4,vp,I r.x,I r.y,I r.z]∧RI H vs r.sp∧RF5 H v5 r.rs∧RF4 H v4 r.cs∧RI H vp r.pk
section
variable{H:Type}{enc:TypeId×Value→H}{w:World}{sp:Nat→Bool}{held:Bool}{n:Nat}{cs:List Value}{y:DataW H×List MemPlace}{v:Value}{d:DataW H}{p:List MemPlace}{r:Reach}{base:Nat}
theorem EG(hw:Wt Tryz.prog 35 y.1)(h:DataW.trod enc Tryz.prog w 0 sp held n 35 cs=some y):∃(v:Value) (ls:List F5),cs=[v]∧RF5 (hp w) v ls:=by
 obtain ⟨v,zs,h1,h2,_,h3⟩:=zb (k:=5) Tryz.underlying35 Tryz.underlying151 e8 zL eW c_53 hw h
 obtain ⟨ls,h4⟩:=FT h3
 exact ⟨v,ls,h1,by unfold RF5;rw [←h4];exact h2⟩
theorem EF(hw:Wt Tryz.prog 36 y.1)(h:DataW.trod enc Tryz.prog w 0 sp held n 36 cs=some y):∃(v:Value) (ls:List F4),cs=[v]∧RF4 (hp w) v ls:=by
 obtain ⟨v,zs,h1,h2,_,h3⟩:=zb (k:=4) Tryz.underlying36 Tryz.underlying97 e8 zL eW c_43 hw h
 obtain ⟨ls,h4⟩:=FR h3
 exact ⟨v,ls,h1,by unfold RF4;rw [←h4];exact h2⟩
end
end Go.Proofs.YteajddicacjkhaaGreat
namespace Go.Proofs.YteajddicacjkhaaGreat
open Go.MW Go.ChangeShapes Go.WideShapes
set_option maxRecDepth 100000
theorem AK:Tryz.prog.cellsOf 42=2:=by kernel_rfl
section
variable{H:Type}{enc:TypeId×Value→H}{w:World}{sp:Nat→Bool}{held:Bool}{n:Nat}{cs:List Value}{y:DataW H×List MemPlace}{v:Value}{d:DataW H}{p:List MemPlace}{r:Reach}{base:Nat}
theorem EH(h:DataW.trod enc Tryz.prog w 0 sp held n 42 cs=some y):∃a b:Int,cs=[I a,I b]∧I64 a∧I64 b:=by
 obtain ⟨xs,a1,a2,a3⟩:=BQ Tryz.underlying42 (by
  intro i f hf
  match i with
  |0|1=>cases hf;exact ⟨rfl,e8,zL⟩
  |i+2=>simp at hf) (by rw [AK];rfl) h
 obtain ⟨a,b,rfl⟩:=len2 a1
 exact ⟨a,b,a2,a3 a bV,a3 b bV⟩
end
end Go.Proofs.YteajddicacjkhaaGreat
namespace Go.Proofs.YteajddicacjkhaaGreat
open Go.MW Go.ChangeShapes Go.WideShapes
set_option maxRecDepth 100000
theorem Fh:Tryz.prog.cellsOf 40=1:=by kernel_rfl
theorem IE:Tryz.prog.cellsOf 96=6:=by kernel_rfl
theorem GR:Tryz.prog.cellsOf 44=14:=by kernel_rfl
theorem Jx{α:Type}{l:List α}(h:l.length=14):∃a b c d e f g i j k m n o p,l=[a,b,c,d,e,f,g,i,j,k,m,n,o,p]:=by match l,h with|[a,b,c,d,e,f,g,i,j,k,m,n,o,p],_=>exact ⟨a,b,c,d,e,f,g,i,j,k,m,n,o,p,rfl⟩
section
variable{H:Type}{enc:TypeId×Value→H}{w:World}{sp:Nat→Bool}{held:Bool}{n:Nat}{cs:List Value}{y:DataW H×List MemPlace}{v:Value}{d:DataW H}{p:List MemPlace}{r:Reach}{base:Nat}
theorem EE(hw:Wt Tryz.prog 40 y.1)(h:DataW.trod enc Tryz.prog w 0 sp held n 40 cs=some y):∃(v:Value) (ls:List Sx),cs=[v]∧RS (hp w) 6 v (ls.map Sx.v):=by
 obtain ⟨v,zs,h1,h2,_,h3⟩:=zb (k:=6) Tryz.underlying40 Tryz.underlying96 e8 zL eW IE hw h
 obtain ⟨ls,h4,_⟩:=all_map (f:=Sx.v) (Q:=fun _=>True) (css:=zs.map Is) fun c hc=>by
  obtain ⟨z,hz,rfl⟩:=List.mem_map.1 hc
  obtain ⟨a,b,c,d,e,f,rfl⟩:=len6 (h3 z hz).1
  exact ⟨⟨a,b,c,d,e,f⟩,rfl,trivial⟩
 exact ⟨v,ls,h1,by rw [←h4];exact h2⟩
theorem HZ(hw:Wt Tryz.prog 39 y.1)(h:DataW.trod enc Tryz.prog w 0 sp held n 39 cs=some y):∃q:JY,JF (hp w) (.agg cs.toArray) q:=by
 obtain ⟨ys,m,_,rfl,hlen,hyl,hg⟩:=DataW.trod_struct nW h
 rw [Dh] at hlen
 obtain ⟨c0,c1,c2,c3,c4,c5,c6,rfl⟩:=len7 hlen
 obtain ⟨_,h0,k0⟩:=fld hg hyl 0 rfl rfl rfl Dg nW hw
 obtain ⟨_,h1,k1⟩:=fld hg hyl 1 rfl rfl rfl Fj nW hw
 obtain ⟨_,h2,k2⟩:=fld hg hyl 2 rfl rfl rfl Fi nW hw
 obtain ⟨_,h3,k3⟩:=fld hg hyl 3 rfl rfl rfl Dg nW hw
 obtain ⟨_,h4,k4⟩:=fld hg hyl 4 rfl rfl rfl I1 nW hw
 obtain ⟨v0,s0,e0,r0,i0⟩:=Cu k0 h0
 obtain ⟨v1,l1,e1,r1⟩:=EG k1 h1
 obtain ⟨v2,l2,e2,r2⟩:=EF k2 h2
 obtain ⟨v3,s3,e3,r3,i3⟩:=Cu k3 h3
 obtain ⟨xs,g1,g2,g3⟩:=vY Tryz.underlying37 e8 zL I1 h4
 obtain ⟨a,b,c,rfl⟩:=JW g1
 cases e0;cases e1;cases e2;cases e3;cases g2
 exact ⟨⟨s0,l1,l2,s3,a,b,c⟩,⟨_,_,_,_,rfl,r0,r1,r2,r3⟩⟩
theorem Be(hv:Value.okWide Tryz.prog w r base 44 v)(h:DataW.Trod enc Tryz.prog w 0 sp held 44 v d p)(hw:Wt Tryz.prog 44 d):∃x:F1,(∃vs v5 v4 vp vn vg,v=x.agg vs v5 v4 vp vn vg∧zS (hp w) x vs v5 v4 vp vn vg)∧I64 x.m1∧I64 x.m2:=by
 obtain ⟨cs,n,rfl,hn,_⟩:=Bq jT hv h
 obtain ⟨ys,m,_,e,hlen,hyl,hg⟩:=DataW.trod_struct jT hn
 cases e
 rw [GR] at hlen
 obtain ⟨c0,c1,c2,c3,c4,c5,c6,c7,c8,c9,c10,c11,c12,c13,rfl⟩:=Jx hlen
 obtain ⟨_,h0,k0⟩:=fld hg hyl 0 rfl rfl rfl Dh jT hw
 obtain ⟨_,h1,k1⟩:=fld hg hyl 1 rfl rfl rfl Dg jT hw
 obtain ⟨_,h2,k2⟩:=fld hg hyl 2 rfl rfl rfl Fh jT hw
 obtain ⟨_,h3,k3⟩:=fld hg hyl 3 rfl rfl rfl AK jT hw
 obtain ⟨_,h4,k4⟩:=fld hg hyl 4 rfl rfl rfl I1 jT hw
 obtain ⟨q,vs,v5,v4,vp,e0,r0,r1,r2,r3⟩:=HZ k0 h0
 obtain ⟨vn,ns,e1,r4,_⟩:=Cu k1 h1
 obtain ⟨vg,sx,e2,r5⟩:=EE k2 h2
 obtain ⟨m1,m2,e3,i1,i2⟩:=EH h3
 obtain ⟨xs,g1,e4,g3⟩:=vY Tryz.underlying37 e8 zL I1 h4
 obtain ⟨a,b,c,rfl⟩:=JW g1
 cases e0;cases e1;cases e2;cases e3;cases e4
 exact ⟨⟨q.sp,q.rs,q.cs,q.pk,q.x,q.y,q.z,ns,sx,m1,m2,a,b,c⟩,⟨_,_,_,_,_,_,rfl,r0,r1,r2,r3,r4,r5⟩,i1,i2⟩
end
end Go.Proofs.YteajddicacjkhaaGreat
namespace Go.Proofs.YteajddicacjkhaaGreat
theorem GP:Tryz.prog.make=some .cut:=by kernel_rfl
theorem Fg:Tryz.prog.mayEnter=true:=by kernel_rfl
theorem Fc:Tryz.prog.liftsFinal=false:=by kernel_rfl
theorem GQ:Tryz.prog.plainKeys=true:=by kernel_rfl
theorem Df:laidOutB Tryz.prog=true:=by kernel_rfl
theorem GO:mapsRowed Tryz.prog=true:=by kernel_rfl
theorem Ff:Tryz.prog.stopsHeard=true:=by kernel_rfl
theorem Fb:Tryz.prog.stops=[]:=by kernel_rfl
theorem Fe:Tryz.prog.stopKnobs=[]:=by kernel_rfl
theorem pj{a b:Bool}(h:a=true)(k:b=true):(a&&b)=true:=by rw [h,k];rfl
theorem IF{α:Type}[BEq α][LawfulBEq α]{a b:α}(h:a=b):(a==b)=true:=by rw [h];exact beq_self_eq_true _
theorem IC:ownKnob Tryz.prog.godebug=none:=by kernel_rfl
end Go.Proofs.YteajddicacjkhaaGreat
namespace Go.Proofs.YteajddicacjkhaaGreat
open Go.MW
theorem mix:Tryz.prog.follows .mixedOrders=true:=by kernel_rfl
theorem iZ:FA Tryz.prog 25 0 0:=by
 have h:=eH (k:=0) rz rfl aj
 exact h
theorem kK:FA Tryz.prog 25 1 1:=by
 have h:=eH (k:=1) rz rfl aj
 exact h
theorem dt:FA Tryz.prog 25 2 2:=by
 have h:=eH (k:=2) rz rfl Tryz.sizeOf22
 exact h
theorem gO:FA Tryz.prog 25 3 3:=by
 have h:=eH (k:=3) rz rfl Tryz.sizeOf23
 exact h
theorem de:FA Tryz.prog 28 0 0:=by
 have h:=eH (k:=0) Tryz.runUnderlying28 rfl qC
 exact h
theorem m9:FA Tryz.prog 39 0 0:=by
 have h:=eH (k:=0) Fx rfl aA
 exact h
theorem fZ:FA Tryz.prog 39 1 1:=by
 have h:=eH (k:=1) Fx rfl Tryz.sizeOf35
 exact h
theorem jh:FA Tryz.prog 39 2 2:=by
 have h:=eH (k:=2) Fx rfl Tryz.sizeOf36
 exact h
theorem m8:FA Tryz.prog 39 3 3:=by
 have h:=eH (k:=3) Fx rfl aA
 exact h
theorem bR:FA Tryz.prog 42 0 0:=by
 have h:=eH (k:=0) Fw rfl aj
 exact h
theorem dh:FA Tryz.prog 42 1 1:=by
 have h:=eH (k:=1) Fw rfl aj
 exact h
theorem mZ:FA Tryz.prog 44 0 0:=by
 have h:=eH (k:=0) Tryz.runUnderlying44 rfl Tryz.sizeOf39
 exact h
theorem mY:FA Tryz.prog 44 1 7:=by
 have h:=eH (k:=1) Tryz.runUnderlying44 rfl aA
 exact h
theorem mX:FA Tryz.prog 44 2 8:=by
 have h:=eH (k:=2) Tryz.runUnderlying44 rfl Tryz.sizeOf40
 exact h
theorem lG:FA Tryz.prog 46 0 0:=by
 have h:=eH (k:=0) Tryz.runUnderlying46 rfl aj
 exact h
theorem lF:FA Tryz.prog 46 1 1:=by
 have h:=eH (k:=1) Tryz.runUnderlying46 rfl aj
 exact h
theorem uD:FA Tryz.prog 48 0 0:=by
 have h:=eH (k:=0) ki rfl aj
 exact h
theorem dB:FA Tryz.prog 48 1 1:=by
 have h:=eH (k:=1) ki rfl aj
 exact h
theorem bH:FA Tryz.prog 48 2 2:=by
 have h:=eH (k:=2) ki rfl aA
 exact h
theorem a8:FA Tryz.prog 48 3 3:=by
 have h:=eH (k:=3) ki rfl aA
 exact h
theorem eU:FA Tryz.prog 48 4 4:=by
 have h:=eH (k:=4) ki rfl Tryz.sizeOf46
 exact h
theorem bC:FA Tryz.prog 52 0 0:=by
 have h:=eH (k:=0) Fv rfl aF
 exact h
theorem br:FA Tryz.prog 52 1 6:=by
 have h:=eH (k:=1) Fv rfl Hr
 exact h
theorem dr:FA Tryz.prog 52 2 7:=by
 have h:=eH (k:=2) Fv rfl Tryz.sizeOf50
 exact h
theorem jL:FA Tryz.prog 64 0 0:=by
 have h:=eH (k:=0) Tryz.runUnderlying64 rfl Tryz.sizeOf62
 exact h
theorem gS:FA Tryz.prog 66 0 0:=by
 have h:=eH (k:=0) ru rfl aj
 exact h
theorem lZ:FA Tryz.prog 66 1 1:=by
 have h:=eH (k:=1) ru rfl aj
 exact h
theorem lY:FA Tryz.prog 66 2 2:=by
 have h:=eH (k:=2) ru rfl aj
 exact h
theorem lX:FA Tryz.prog 66 3 3:=by
 have h:=eH (k:=3) ru rfl yR
 exact h
theorem rK:FA Tryz.prog 87 0 0:=by
 have h:=eH (k:=0) kh rfl aj
 exact h
theorem ji:FA Tryz.prog 87 1 1:=by
 have h:=eH (k:=1) kh rfl aj
 exact h
theorem iz:FA Tryz.prog 87 2 2:=by
 have h:=eH (k:=2) kh rfl aj
 exact h
theorem iy:FA Tryz.prog 87 3 3:=by
 have h:=eH (k:=3) kh rfl az
 exact h
theorem iw:FA Tryz.prog 87 4 5:=by
 have h:=eH (k:=4) kh rfl az
 exact h
theorem fI:FA Tryz.prog 100 0 0:=by
 have h:=eH (k:=0) eY rfl aj
 exact h
theorem fH:FA Tryz.prog 100 1 1:=by
 have h:=eH (k:=1) eY rfl aj
 exact h
theorem fG:FA Tryz.prog 100 2 2:=by
 have h:=eH (k:=2) eY rfl aj
 exact h
theorem dZ:FA Tryz.prog 100 3 3:=by
 have h:=eH (k:=3) eY rfl aj
 exact h
theorem df:FA Tryz.prog 100 4 4:=by
 have h:=eH (k:=4) eY rfl aj
 exact h
theorem dY:FA Tryz.prog 100 5 5:=by
 have h:=eH (k:=5) eY rfl aj
 exact h
theorem dX:FA Tryz.prog 100 6 6:=by
 have h:=eH (k:=6) eY rfl aj
 exact h
theorem nb:FA Tryz.prog 104 0 0:=by
 have h:=eH (k:=0) pC rfl aj
 exact h
theorem iH:FA Tryz.prog 104 1 1:=by
 have h:=eH (k:=1) pC rfl aj
 exact h
theorem iG:FA Tryz.prog 104 2 2:=by
 have h:=eH (k:=2) pC rfl aj
 exact h
theorem na:FA Tryz.prog 104 3 3:=by
 have h:=eH (k:=3) pC rfl aj
 exact h
theorem wR:FA Tryz.prog 113 0 0:=by
 have h:=eH (k:=0) DN rfl aj
 exact h
theorem iF:FA Tryz.prog 113 1 1:=by
 have h:=eH (k:=1) DN rfl aj
 exact h
theorem fB:FA Tryz.prog 113 2 2:=by
 have h:=eH (k:=2) DN rfl aj
 exact h
theorem dm:FA Tryz.prog 134 0 0:=by
 have h:=eH (k:=0) Tryz.runUnderlying134 rfl aj
 exact h
theorem eO:FA Tryz.prog 134 1 1:=by
 have h:=eH (k:=1) Tryz.runUnderlying134 rfl aj
 exact h
theorem j9:FA Tryz.prog 140 0 0:=by
 have h:=eH (k:=0) pB rfl aB
 exact h
theorem iE:FA Tryz.prog 140 2 12:=by
 have h:=eH (k:=2) pB rfl qC
 exact h
theorem j8:FA Tryz.prog 140 3 13:=by
 have h:=eH (k:=3) pB rfl Tryz.sizeOf80
 exact h
theorem gd:FA Tryz.prog 140 4 14:=by
 have h:=eH (k:=4) pB rfl aA
 exact h
theorem gW:FA Tryz.prog 153 0 0:=by
 have h:=eH (k:=0) gC rfl aj
 exact h
theorem jy:FA Tryz.prog 153 1 1:=by
 have h:=eH (k:=1) gC rfl aj
 exact h
theorem jx:FA Tryz.prog 153 2 2:=by
 have h:=eH (k:=2) gC rfl aj
 exact h
theorem gV:FA Tryz.prog 153 3 3:=by
 have h:=eH (k:=3) gC rfl aj
 exact h
theorem jw:FA Tryz.prog 153 4 4:=by
 have h:=eH (k:=4) gC rfl aj
 exact h
theorem gU:FA Tryz.prog 153 5 5:=by
 have h:=eH (k:=5) gC rfl aj
 exact h
theorem l5:FA Tryz.prog 162 0 0:=by
 have h:=eH (k:=0) gz rfl aj
 exact h
theorem jv:FA Tryz.prog 162 1 1:=by
 have h:=eH (k:=1) gz rfl aj
 exact h
theorem bM:FA Tryz.prog 177 0 0:=by
 have h:=eH (k:=0) Tryz.runUnderlying177 rfl aj
 exact h
theorem bJ:FA Tryz.prog 177 1 1:=by
 have h:=eH (k:=1) Tryz.runUnderlying177 rfl nY
 exact h
theorem mW:FA Tryz.prog 179 0 0:=by
 have h:=eH (k:=0) DM rfl aE
 exact h
theorem mV:FA Tryz.prog 179 1 2:=by
 have h:=eH (k:=1) DM rfl aA
 exact h
theorem jg:FA Tryz.prog 179 2 3:=by
 have h:=eH (k:=2) DM rfl aj
 exact h
theorem cM:FA Tryz.prog 190 0 0:=by
 have h:=eH (k:=0) DL rfl aj
 exact h
theorem ck:FA Tryz.prog 190 1 1:=by
 have h:=eH (k:=1) DL rfl aj
 exact h
theorem dL:FA Tryz.prog 190 2 2:=by
 have h:=eH (k:=2) DL rfl aj
 exact h
theorem dC:FA Tryz.prog 193 0 0:=by
 have h:=eH (k:=0) pA rfl aj
 exact h
theorem dN:FA Tryz.prog 193 1 1:=by
 have h:=eH (k:=1) pA rfl aj
 exact h
theorem eV:FA Tryz.prog 193 2 2:=by
 have h:=eH (k:=2) pA rfl aj
 exact h
theorem ja:FA Tryz.prog 193 3 3:=by
 have h:=eH (k:=3) pA rfl aj
 exact h
theorem rj:FA Tryz.prog 236 0 0:=by
 have h:=eH (k:=0) DK rfl Tryz.sizeOf233
 exact h
theorem rh:FA Tryz.prog 236 1 1:=by
 have h:=eH (k:=1) DK rfl Tryz.sizeOf234
 exact h
theorem rf:FA Tryz.prog 236 2 2:=by
 have h:=eH (k:=2) DK rfl aj
 exact h
theorem bX:FA Tryz.prog 241 0 0:=by
 have h:=eH (k:=0) Tryz.runUnderlying241 rfl iR
 exact h
theorem eo:FA Tryz.prog 241 1 3:=by
 have h:=eH (k:=1) Tryz.runUnderlying241 rfl aF
 exact h
theorem cV:FA Tryz.prog 246 0 0:=by
 have h:=eH (k:=0) DJ rfl aB
 exact h
theorem eN:FA Tryz.prog 246 1 8:=by
 have h:=eH (k:=1) DJ rfl Tryz.sizeOf159
 exact h
theorem iD:FA Tryz.prog 246 2 9:=by
 have h:=eH (k:=2) DJ rfl nY
 exact h
theorem fh:FA Tryz.prog 272 0 0:=by
 have h:=eH (k:=0) DI rfl aE
 exact h
theorem gg:FA Tryz.prog 272 1 2:=by
 have h:=eH (k:=1) DI rfl aA
 exact h
theorem dq:FA Tryz.prog 272 2 3:=by
 have h:=eH (k:=2) DI rfl aA
 exact h
theorem cH:FA Tryz.prog 303 0 0:=by
 have h:=eH (k:=0) pz rfl aj
 exact h
theorem cN:FA Tryz.prog 303 1 1:=by
 have h:=eH (k:=1) pz rfl aj
 exact h
theorem eA:FA Tryz.prog 303 2 2:=by
 have h:=eH (k:=2) pz rfl aj
 exact h
theorem dp:FA Tryz.prog 303 3 3:=by
 have h:=eH (k:=3) pz rfl aj
 exact h
theorem fM:FA Tryz.prog 315 0 0:=by
 have h:=eH (k:=0) Tryz.runUnderlying315 rfl aj
 exact h
theorem jb:FA Tryz.prog 315 1 1:=by
 have h:=eH (k:=1) Tryz.runUnderlying315 rfl aj
 exact h
theorem om:FA Tryz.prog 317 0 0:=by
 have h:=eH (k:=0) Tryz.runUnderlying317 rfl aA
 exact h
theorem qs:py Tryz.prog 25 [(0,1),(1,1),(2,1),(3,1)] [.int .i64 0,.int .i64 0,.slice none 0 0,.slice none 0 0]:=iW iP rfl rz (by simp [Tryz.sizeOf22,Tryz.sizeOf23,Tryz.sizeOf3])
theorem lM:py Tryz.prog 28 [(0,1)] [.slice none 0 0]:=iW kR rfl Tryz.runUnderlying28 (by simp [Tryz.sizeOf26])
theorem bA:py Tryz.prog 42 [(0,1),(1,1)] [.int .i64 0,.int .i64 0]:=iW bS rfl Fw (by simp [Tryz.sizeOf3])
theorem rN:py Tryz.prog 46 [(0,1),(1,1)] [.int .i64 0,.int .i64 0]:=iW Tryz.zeroValue46 rfl Tryz.runUnderlying46 (by simp [Tryz.sizeOf3])
theorem qq:py Tryz.prog 48 [(0,1),(1,1),(2,1),(3,1),(4,2)] [.int .i64 0,.int .i64 0,.slice none 0 0,.slice none 0 0,.int .i64 0,.int .i64 0]:=iW iO rfl ki (by simp [Tryz.sizeOf3,Tryz.sizeOf34,Tryz.sizeOf46])
theorem ow:py Tryz.prog 52 [(0,6),(6,1),(7,1)] [.int .i64 0,.int .i64 0,.slice none 0 0,.slice none 0 0,.int .i64 0,.int .i64 0,.slice none 0 0,.slice none 0 0]:=iW ee rfl Fv (by simp [Tryz.sizeOf48,Tryz.sizeOf49,Tryz.sizeOf50])
theorem yE:py Tryz.prog 64 [(0,1)] [.slice none 0 0]:=iW Tryz.zeroValue64 rfl Tryz.runUnderlying64 (by simp [Tryz.sizeOf62])
theorem tV:py Tryz.prog 66 [(0,1),(1,1),(2,1),(3,1)] [.int .i64 0,.int .i64 0,.int .i64 0,.slice none 0 0]:=iW Tryz.zeroValue66 rfl ru (by simp [Tryz.sizeOf3,Tryz.sizeOf64])
theorem kb:py Tryz.prog 87 [(0,1),(1,1),(2,1),(3,2),(5,2)] [.int .i64 0,.int .i64 0,.int .i64 0,.int .i64 0,.int .i64 0,.int .i64 0,.int .i64 0]:=iW cB rfl kh (by simp [Tryz.sizeOf3,Tryz.sizeOf42])
theorem gv:py Tryz.prog 100 [(0,1),(1,1),(2,1),(3,1),(4,1),(5,1),(6,1)] [.int .i64 0,.int .i64 0,.int .i64 0,.int .i64 0,.int .i64 0,.int .i64 0,.int .i64 0]:=iW fD rfl eY (by simp [Tryz.sizeOf3])
theorem ox:py Tryz.prog 104 [(0,1),(1,1),(2,1),(3,1)] [.int .i64 0,.int .i64 0,.int .i64 0,.int .i64 0]:=iW xo rfl pC (by simp [Tryz.sizeOf3])
theorem yD:py Tryz.prog 113 [(0,1),(1,1),(2,1)] [.int .i64 0,.int .i64 0,.int .i64 0]:=iW Tryz.zeroValue113 rfl DN (by simp [Tryz.sizeOf3])
theorem fi:py Tryz.prog 134 [(0,1),(1,1)] [.int .i64 0,.int .i64 0]:=iW ij rfl Tryz.runUnderlying134 (by simp [Tryz.sizeOf3])
theorem eX:py Tryz.prog 140 [(0,8),(8,4),(12,1),(13,1),(14,1)] [.int .i64 0,.int .i64 0,.slice none 0 0,.slice none 0 0,.int .i64 0,.int .i64 0,.slice none 0 0,.slice none 0 0,.int .i64 0,.int .i64 0,.slice none 0 0,.slice none 0 0,.slice none 0 0,.slice none 0 0,.slice none 0 0]:=iW jS rfl pB (by simp [Tryz.sizeOf25,Tryz.sizeOf26,Tryz.sizeOf34,Tryz.sizeOf52,Tryz.sizeOf80])
theorem ni:py Tryz.prog 153 [(0,1),(1,1),(2,1),(3,1),(4,1),(5,1)] [.int .i64 0,.int .i64 0,.int .i64 0,.int .i64 0,.int .i64 0,.int .i64 0]:=iW xn rfl gC (by simp [Tryz.sizeOf3])
theorem gq:py Tryz.prog 162 [(0,1),(1,1)] [.int .i64 0,.int .i64 0]:=iW jR rfl gz (by simp [Tryz.sizeOf3])
theorem kM:py Tryz.prog 177 [(0,1),(1,1)] [.int .i64 0,.slice none 0 0]:=iW dz rfl Tryz.runUnderlying177 (by simp [Tryz.sizeOf175,Tryz.sizeOf3])
theorem e9:py Tryz.prog 179 [(0,2),(2,1),(3,1)] [.int .i64 0,.slice none 0 0,.slice none 0 0,.int .i64 0]:=iW xm rfl DM (by simp [Tryz.sizeOf177,Tryz.sizeOf3,Tryz.sizeOf34])
theorem qp:py Tryz.prog 190 [(0,1),(1,1),(2,1)] [.int .i64 0,.int .i64 0,.int .i64 0]:=iW jQ rfl DL (by simp [Tryz.sizeOf3])
theorem dO:py Tryz.prog 193 [(0,1),(1,1),(2,1),(3,1)] [.int .i64 0,.int .i64 0,.int .i64 0,.int .i64 0]:=iW dy rfl pA (by simp [Tryz.sizeOf3])
theorem gY:py Tryz.prog 236 [(0,1),(1,1),(2,1)] [.nilFunc,.nilFunc,.int .i64 0]:=iW JQ rfl DK (by simp [Tryz.sizeOf233,Tryz.sizeOf234,Tryz.sizeOf3])
theorem sy:py Tryz.prog 241 [(0,3),(3,6)] [.int .i64 0,.int .i64 0,.int .i64 0,.int .i64 0,.int .i64 0,.slice none 0 0,.slice none 0 0,.int .i64 0,.int .i64 0]:=iW Tryz.zeroValue241 rfl Tryz.runUnderlying241 (by simp [Tryz.sizeOf113,Tryz.sizeOf48])
theorem rm:py Tryz.prog 246 [(0,8),(8,1),(9,1)] [.int .i64 0,.int .i64 0,.slice none 0 0,.slice none 0 0,.int .i64 0,.int .i64 0,.slice none 0 0,.slice none 0 0,.slice none 0 0,.slice none 0 0]:=iW Tryz.zeroValue246 rfl DJ (by simp [Tryz.sizeOf159,Tryz.sizeOf175,Tryz.sizeOf52])
theorem ou:py Tryz.prog 272 [(0,2),(2,1),(3,1)] [.int .i64 0,.slice none 0 0,.slice none 0 0,.slice none 0 0]:=iW Tryz.zeroValue272 rfl DI (by simp [Tryz.sizeOf177,Tryz.sizeOf34])
theorem oq:py Tryz.prog 303 [(0,1),(1,1),(2,1),(3,1)] [.int .i64 0,.int .i64 0,.int .i64 0,.int .i64 0]:=iW dx rfl pz (by simp [Tryz.sizeOf3])
theorem w6:py Tryz.prog 315 [(0,1),(1,1)] [.int .i64 0,.int .i64 0]:=iW Tryz.zeroValue315 rfl Tryz.runUnderlying315 (by simp [Tryz.sizeOf3])
theorem w5:py Tryz.prog 317 [(0,1)] [.slice none 0 0]:=iW Tryz.zeroValue317 rfl Tryz.runUnderlying317 (by simp [Tryz.sizeOf34])
theorem mA:uM Tryz.prog 22 2 2 [.int .i64 0,.int .i64 0,.int .i64 0,.int .i64 0]:=lK cq cQ ij eW aq
theorem mz:uM Tryz.prog 22 3 2 [.int .i64 0,.int .i64 0,.int .i64 0,.int .i64 0,.int .i64 0,.int .i64 0]:=lK cq cQ ij eW aq
theorem ka:uM Tryz.prog 23 1 4 [.int .i64 0,.int .i64 0,.int .i64 0,.int .i64 0]:=lK fo iS xo eW aq
theorem jC:uM Tryz.prog 26 1 7 [.int .i64 0,.int .i64 0,.int .i64 0,.int .i64 0,.int .i64 0,.int .i64 0,.int .i64 0]:=lK bn aZ cB eW aq
theorem jB:uM Tryz.prog 26 2 7 [.int .i64 0,.int .i64 0,.int .i64 0,.int .i64 0,.int .i64 0,.int .i64 0,.int .i64 0,.int .i64 0,.int .i64 0,.int .i64 0,.int .i64 0,.int .i64 0,.int .i64 0,.int .i64 0]:=lK bn aZ cB eW aq
theorem rM:uM Tryz.prog 34 0 1 []:=lK ae aj bN eW aq
theorem cA:uM Tryz.prog 34 1 1 [.int .i64 0]:=lK ae aj bN eW aq
theorem jn:uM Tryz.prog 34 2 1 [.int .i64 0,.int .i64 0]:=lK ae aj bN eW aq
theorem yC:uM Tryz.prog 34 3 1 [.int .i64 0,.int .i64 0,.int .i64 0]:=lK ae aj bN eW aq
theorem jH:uM Tryz.prog 49 1 7 [.int .i64 0,.int .i64 0,.int .i64 0,.int .i64 0,.int .i64 0,.int .i64 0,.int .i64 0]:=lK aN aW fD eW aq
theorem nR:uM Tryz.prog 49 4 7 [.int .i64 0,.int .i64 0,.int .i64 0,.int .i64 0,.int .i64 0,.int .i64 0,.int .i64 0,.int .i64 0,.int .i64 0,.int .i64 0,.int .i64 0,.int .i64 0,.int .i64 0,.int .i64 0,.int .i64 0,.int .i64 0,.int .i64 0,.int .i64 0,.int .i64 0,.int .i64 0,.int .i64 0,.int .i64 0,.int .i64 0,.int .i64 0,.int .i64 0,.int .i64 0,.int .i64 0,.int .i64 0]:=lK aN aW fD eW aq
theorem jI:uM Tryz.prog 50 1 6 [.int .i64 0,.int .i64 0,.int .i64 0,.int .i64 0,.int .i64 0,.int .i64 0]:=lK cR eF xn eW aq
theorem uG:uM Tryz.prog 62 2 1 [.slice none 0 0,.slice none 0 0]:=lK aC aA ef eW aq
theorem kE:uM Tryz.prog 80 1 2 [.int .i64 0,.int .i64 0]:=lK eg az bS eW aq
theorem gK:uM Tryz.prog 159 1 2 [.int .i64 0,.int .i64 0]:=lK aV bj jR eW aq
theorem qo:uM Tryz.prog 175 1 4 [.int .i64 0,.int .i64 0,.int .i64 0,.int .i64 0]:=lK aH aQ dy eW aq
theorem eP:uM Tryz.prog 175 2 4 [.int .i64 0,.int .i64 0,.int .i64 0,.int .i64 0,.int .i64 0,.int .i64 0,.int .i64 0,.int .i64 0]:=lK aH aQ dy eW aq
theorem wZ:uM Tryz.prog 247 6 1 [.nilFunc,.nilFunc,.nilFunc,.nilFunc,.nilFunc,.nilFunc]:=lK Tryz.runUnderlying247 Tryz.sizeOf1 Tryz.zeroValue1 eW aq
theorem ph:uM Tryz.prog 267 1 4 [.int .i64 0,.int .i64 0,.int .i64 0,.int .i64 0]:=lK au aD dx eW aq
theorem jO:DH Tryz.prog 23 23 104 4 32:=⟨fo,fo,iS,⟨_,Tryz.typeInfo104,rfl,by decide⟩,⟨_,xo,rfl⟩⟩
theorem mB:DH Tryz.prog 26 26 87 7 56:=⟨bn,bn,aZ,⟨_,Tryz.typeInfo87,rfl,by decide⟩,⟨_,cB,rfl⟩⟩
theorem cn:DH Tryz.prog 34 34 3 1 8:=⟨ae,ae,aj,⟨_,iQ,rfl,by decide⟩,⟨_,bN,rfl⟩⟩
theorem ft:DH Tryz.prog 49 49 100 7 56:=⟨aN,aN,aW,⟨_,Tryz.typeInfo100,rfl,by decide⟩,⟨_,fD,rfl⟩⟩
theorem jo:DH Tryz.prog 50 50 153 6 48:=⟨cR,cR,eF,⟨_,Tryz.typeInfo153,rfl,by decide⟩,⟨_,xn,rfl⟩⟩
theorem kf:DH Tryz.prog 80 80 42 2 16:=⟨eg,eg,az,⟨_,Tryz.typeInfo42,rfl,by decide⟩,⟨_,bS,rfl⟩⟩
theorem dQ:DH Tryz.prog 159 159 162 2 16:=⟨aV,aV,bj,⟨_,Tryz.typeInfo162,rfl,by decide⟩,⟨_,jR,rfl⟩⟩
theorem bP:DH Tryz.prog 175 175 193 4 32:=⟨aH,aH,aQ,⟨_,Tryz.typeInfo193,rfl,by decide⟩,⟨_,dy,rfl⟩⟩
theorem jN:DH Tryz.prog 267 267 303 4 32:=⟨au,au,aD,⟨_,zX,rfl,by decide⟩,⟨_,dx,rfl⟩⟩
end Go.Proofs.YteajddicacjkhaaGreat
namespace Go.Proofs.YteajddicacjkhaaGreat
open Go.MW
variable{H:bB}{w:World}{σ:List Ent}
theorem eu{a0 a1 a2:Int}(hs:St H w σ):Cl Tryz.prog 199 [I a0,I a1,I a2] w fun v w'=>v= .bool (decide (a1≤a0∧a0≤a2))∧St H w' σ:=by
 refine Cl.o Tryz.func199 Tryz.ntmps199 ag3 ?_
 refine .ai (.z zg (.nil (.ai (.z zm (.z zm (.z um (.z zm ?_)))))))
 refine .jM (t':=10) rfl (fun hb10=>?_) (fun hb10=>?_)
 ·refine .gT rfl rfl ?_
  refine .z zm ?_
  refine .gT rfl rfl ?_
  refine .z zm ?_
  refine .gT rfl rfl ?_
  refine .z um (.z zpT (.z zg (.nil ?_)))
  refine .ret (Fin.bw Tryz.results199 rfl ?_)
  exact ⟨by simp [*],hs.out⟩
 ·refine .gFs 3 3 true rfl rfl rfl ?_
  refine .z zpF (.z zg (.nil ?_))
  refine .ret (Fin.bw Tryz.results199 rfl ?_)
  exact ⟨by simp [*],hs.out⟩
theorem ql{many:Int}{l:Lim}(hs:St H w σ):Cl Tryz.prog 250 [I many,.agg l.c.toArray] w fun v w'=>v= .bool (l.ok many)∧St H w' σ:=by
 refine Cl.o Tryz.func250 Tryz.ntmps250 ag2 ?_
 refine .ai ?_
 refine .bx hs fun b3 w hs=>?_
 refine .z zg (.nil (.ai (.z (zfa dC) (.y hs (zld af) (.z zm ?_)))))
 refine .o (.call BA rfl (eu hs) ?_);rintro _ w ⟨rfl,hs⟩
 refine .z zm ?_
 refine .bif (t':=9) rfl (fun hb9=>?_) (fun hb9=>?_)
 ·refine .gT rfl rfl ?_
  refine .z (zfa dN) ?_
  refine .gT rfl rfl ?_
  refine .y hs (zld af) ?_
  refine .gT rfl rfl ?_
  refine .z zm ?_
  refine .gT rfl rfl ?_
  refine .o (.call BA rfl (eu hs) ?_);rintro _ w ⟨rfl,hs⟩
  refine .z zpT (.z zm ?_)
  refine .bif (t':=15) rfl (fun hb15=>?_) (fun hb15=>?_)
  ·refine .gT rfl rfl ?_
   refine .z (zfa dC) ?_
   refine .gT rfl rfl ?_
   refine .y hs (zld af) ?_
   refine .gT rfl rfl ?_
   refine .z (zfa dN) ?_
   refine .gT rfl rfl ?_
   refine .y hs (zld af) ?_
   refine .gT rfl rfl ?_
   refine .z gE (.z zpT (.z zm ?_))
   refine .DQ (t':=22) rfl (fun hb22=>?_) (fun hb22=>?_)
   ·refine .gT rfl rfl ?_
    refine .z (zfa eV) ?_
    refine .gT rfl rfl ?_
    refine .y hs (zld af) ?_
    refine .gT rfl rfl ?_
    refine .o (.call BA rfl (eu hs) ?_);rintro _ w ⟨rfl,hs⟩
    refine .z zpT (.z zm ?_)
    refine .bif (t':=27) rfl (fun hb27=>?_) (fun hb27=>?_)
    ·refine .gT rfl rfl ?_
     refine .z (zfa ja) ?_
     refine .gT rfl rfl ?_
     refine .y hs (zld af) ?_
     refine .gT rfl rfl ?_
     refine .o (.call BA rfl (eu hs) ?_);rintro _ w ⟨rfl,hs⟩
     refine .z zpT (.z zg (.nil ?_))
     refine .ret (Fin.bw BK rfl ?_)
     exact ⟨by simp [Lim.ok, *],hs.out⟩
    ·refine .gFs 3 22 true rfl rfl rfl ?_
     refine .z zpF (.z zg (.nil ?_))
     refine .ret (Fin.bw BK rfl ?_)
     exact ⟨by simp [Lim.ok, *],hs.out⟩
   ·refine .gFs 3 17 true rfl rfl rfl ?_
    refine .z zpF (.z zm ?_)
    refine .gFs 3 22 true rfl rfl rfl ?_
    refine .z zpF (.z zg (.nil ?_))
    refine .ret (Fin.bw BK rfl ?_)
    exact ⟨by simp [Lim.ok, *],hs.out⟩
  ·refine .gFs 5 10 true rfl rfl rfl ?_
   refine .z zpF (.z zm ?_)
   refine .gFs 3 17 true rfl rfl rfl ?_
   refine .z zpF (.z zm ?_)
   refine .gFs 3 22 true rfl rfl rfl ?_
   refine .z zpF (.z zg (.nil ?_))
   refine .ret (Fin.bw BK rfl ?_)
   exact ⟨by simp [Lim.ok, *],hs.out⟩
 ·refine .gFs 4 4 true rfl rfl rfl ?_
  refine .z zpF (.z zm ?_)
  refine .gFs 5 10 true rfl rfl rfl ?_
  refine .z zpF (.z zm ?_)
  refine .gFs 3 17 true rfl rfl rfl ?_
  refine .z zpF (.z zm ?_)
  refine .gFs 3 22 true rfl rfl rfl ?_
  refine .z zpF (.z zg (.nil ?_))
  refine .ret (Fin.bw BK rfl ?_)
  exact ⟨by simp [Lim.ok, *],hs.out⟩
theorem xe{v:Value}{ls:List Lim}{g:Nat}{cap:List Value}{p:Lim→Bool}(hs:St H w σ)(hr:RL H v ls)
  (hc:∀args w,(callFunc g args).run Tryz.prog w= .ok (.enter g args) w) (hp:∀w l,St H w σ→Cl Tryz.prog g ([.agg l.c.toArray]++cap) w fun u w'=>u= .bool (p l)∧St H w' σ):
  Cl Tryz.prog 277 [v,.func (.func g) #[] cap.toArray] w fun u w'=>u=I (match ls.findIdx? p with|some k=>(k:Int)|none=> -1)∧St H w' σ:=by
 obtain ⟨a,c,rfl⟩:=RS.shape hr
 have hl:=(RS.len hr).2.2
 refine Cl.o Tryz.func277 Tryz.ntmps277 ag2 ?_
 refine .ai (.z zg (.nil (.seq (.ai (.z zm ?_)))))
 refine .q hs (Ci hr rfl aH) ?_
 refine .z zm (.nil ?_)
 refine .for (N:=(ls.map Lim.c).length) (J:=fun k fr w=>fr=[(1,.func (.func g) #[] cap.toArray),(0,.slice a (ls.map Lim.c).length c)]∧St H w σ∧∀j<k,∀l,ls[j]? =some l→p l=false) ak ?_ ?_ ?_
 ·exact .mk ⟨rfl,hs,fun j hj=>by omega⟩
 ·rintro k fr w hk ⟨rfl,hs,hno⟩
  obtain ⟨l,hl⟩:=nth (l:=ls) (by simpa using hk)
  refine .block (.ai (.z zm (.z zg (.nil (.ai (.z zm (.z zm (.z zm ?_))))))))
  refine .ixX hs hr rfl rfl aH aQ hl rfl ?_;intro b14 o14 hc14
  refine .y hs (zls [_,_,_,_] eE aQ) ?_
  refine .o (.nO (first:=[]) rfl rfl hc (hp _ _ hs) ?_);rintro _ w ⟨rfl,hs⟩
  refine .nil ?_
  refine (.cond rfl (fun hc16=>?_) (fun hc16=>?_))
  ·refine .ai (.z zm (.z zg (.nil ?_)))
   refine .ret (rB (rT (rB (rT (Fin.bw Tryz.results277 rfl ?_)))))
   exact ⟨by rw [tM hl hc16 hno],hs⟩
  ·refine .skip ?_
   refine nB (nT ?_)
   exact .mk ⟨rfl,hs,eK hno hl hc16⟩
 ·rintro fr w ⟨rfl,hs,hno⟩
  refine nT ?_
  refine .ai (.z zg (.nil ?_))
  refine .ret (Fin.bw Tryz.results277 rfl ?_)
  exact ⟨by rw [rJ (by simpa using hno)],hs⟩
theorem sC{v:Value}{ls:List Lim}{g:Nat}{cap:List Value}{p:Lim→Bool}(hs:St H w σ)(hr:RL H v ls)
  (hc:∀args w,(callFunc g args).run Tryz.prog w= .ok (.enter g args) w) (hp:∀w l,St H w σ→Cl Tryz.prog g ([.agg l.c.toArray]++cap) w fun u w'=>u= .bool (p l)∧St H w' σ):
  Cl Tryz.prog 248 [v,.func (.func g) #[] cap.toArray] w fun u w'=>u= .bool (ls.any p)∧St H w' σ:=by
 refine Cl.o Tryz.func248 Tryz.ntmps248 ag2 ?_
 refine .ai (.z zg (.nil (.ai (.z zm (.z zm ?_)))))
 refine .o (.call Tryz.call277 rfl (xe hs hr hc hp) ?_);rintro _ w ⟨rfl,hs⟩
 refine .z y7 (.z zg (.nil ?_))
 refine .ret (Fin.bw Tryz.results248 rfl ?_)
 exact ⟨by rw [zN];cases ls.findIdx? p<;>simp<;>omega,hs⟩
theorem wY{b:Nat}{many:Int}{v:Value}{l:Lim}(hs:St H w σ)(hm:Mem σ (.blk b [I many,v])):Cl Tryz.prog 249 [.agg l.c.toArray,.pointer (some ⟨b,0,none⟩)] w fun v w'=>v= .bool (!l.ok many)∧St H w' σ:=by
 refine Cl.o Tryz.func249 Tryz.ntmps249 ag2 ?_
 refine .ai ?_
 refine .bx hs fun b2 w hs=>?_
 refine .z zg (.nil (.ai (.z (zfa bM) ?_)))
 refine .q hs (fW rfl af (.there hm) rfl) ?_
 refine .q hs (jZ (vs:=l.c) rfl eE aQ) ?_
 refine .o (.call Tryz.call250 rfl (ql hs) ?_);rintro _ w ⟨rfl,hs⟩
 refine .z gy (.z zg (.nil ?_))
 refine .ret (Fin.bw Tryz.results249 rfl ?_)
 exact ⟨rfl,hs.out⟩
theorem gX{v:Value}{s:bI}(hs:St H w σ)(hr:RSy H v s):Cl Tryz.prog 197 [v] w fun v w'=>v=I s.check∧St H w' σ:=by
 obtain ⟨u,rfl,hr⟩:=hr
 obtain ⟨a,c,rfl⟩:=RS.shape hr
 refine Cl.o Tryz.func197 Tryz.ntmps197 ag1 ?_
 refine .ai ?_
 refine .bx hs fun b1 w hs=>?_
 refine .z zg (.nil (.seq (.block (.ai (.z (zfa bM) (.y hs (zld af) ?_))))))
 refine .o (.call BA rfl (eu hs) ?_);rintro _ w ⟨rfl,hs⟩
 refine .z gy (.z zg (.nil ?_))
 refine (.cond rfl (fun hc3=>?_) (fun hc3=>?_))
 ·refine .ai (.z zg (.nil ?_))
  refine .ret (rB (rT (Fin.bw Tryz.results197 rfl ?_)))
  exact ⟨congrArg I (by unfold bI.check;(repeat' split)<;>simp_all<;>omega),hs.out⟩
 ·refine .ai (.z (zfa bJ) (.y hs (zld cu) ?_))
  refine .q hs (Ci hr rfl aH) ?_
  refine .z qH (.z zg (.nil ?_))
  refine (.bT rfl (fun hc8=>?_) (fun hc8=>?_))
  ·refine .ai (.z zg (.nil ?_))
   refine .ret (rB (rT (Fin.bw Tryz.results197 rfl ?_)))
   exact ⟨congrArg I (by unfold bI.check;(repeat' split)<;>simp_all<;>omega),hs.out⟩
  ·refine .ai (.z (zfa bJ) (.y hs (zld cu) ?_))
   refine .q hs (cJ (f:=[]) (c:=[_]) rfl rfl) ?_
   refine .o (.call Tryz.call248 rfl (sC (p:=fun l=> !l.ok s.many) hs hr Tryz.call249 (fun w l hs=>wY hs .here)) ?_);rintro _ w ⟨rfl,hs⟩
   refine .z zg (.nil ?_)
   refine (.cond rfl (fun hc13=>?_) (fun hc13=>?_))
   ·refine .ai (.z zg (.nil ?_))
    refine .ret (rB (rT (Fin.bw Tryz.results197 rfl ?_)))
    exact ⟨congrArg I (by unfold bI.check;(repeat' split)<;>simp_all<;>omega),hs.out⟩
   ·refine .skip ?_
    refine nB (nT ?_)
    refine .ai (.z zg (.nil ?_))
    refine .ret (Fin.bw Tryz.results197 rfl ?_)
    exact ⟨congrArg I (by unfold bI.check;(repeat' split)<;>simp_all<;>omega),hs.out⟩
theorem qj{H:bB}{b:Nat}{s:bI}{u:Value}(hok:s.Ok)(hb:Row H b [I s.many,u])(hr:RL H u s.bL):ItA Tryz.prog 295 [.pointer (some ⟨b,0,none⟩)] H s.bY:=by
 intro l II Ix _ _ hy H0 σb0 σf w hle hI0 hs
 obtain ⟨a,c,rfl⟩:=RS.shape hr
 have hb1:cellAt H0 b 1=some (.slice a (s.bL.map Lim.c).length c):=cellAt.mono (by rw [hb.cell];rfl) hle
 have hlen:=hok.len
 refine Cl.o Tryz.func295 Tryz.ntmps295 ag2 ?_
 refine .ai (.z (zfa bJ) (.y hs (zld cu) ?_))
 refine .q hs (Ci (hr.mono hle) rfl aH) ?_
 refine .z zm (.nil ?_)
 refine .for (N:=(s.bL.map Lim.c).length) (J:=fun k fr w=>fr=[(6,.slice a (s.bL.map Lim.c).length c),(0,.func (.yield l) #[] #[])]∧∃H1 σb,HLe H H1∧HLe H0 H1∧II k H1 σb∧St H1 w (σb++σf)) (by simp;omega) ?_ ?_ ?_
 ·exact .mk ⟨rfl,H0,σb0,hle,HLe.refl _,hI0,hs⟩
 ·rintro k fr w hk ⟨rfl,H1,σb,hle1,hle0,hI,hs⟩
  obtain ⟨x,hx⟩:=nth (l:=s.bL) (by simpa using hk)
  obtain ⟨hA,hB,_⟩:=hok.arc (List.mem_of_getElem? hx) k
  refine .block (.ai (.z zm ?_))
  refine .ixX hs (hr.mono hle1) rfl rfl aH aQ hx rfl ?_;intro b11 o11 hc11
  refine .q hs (bK (vs:=x.c) rfl eE aQ hc11) ?_
  refine .o (.alloc hs dy rfl fun b4 w hs=>?_)
  refine .z zg ?_
  refine .o (.aI (vs:=x.c) hs rfl rfl aQ fun w hs=>?_)
  refine .nil (.ai (.z zm (.z (zfa dC) (.y hs (zld af) (.z (zfa dN) (.y hs (zld af) (.z (zfa eV) (.y hs (zld af) (.z zm ?_)))))))))
  refine .z (zbd [_,_,_,_] oq) ?_
  have hk':k<(s.bY.map fun x=>[Value.agg x.v.toArray]).length:=by simp [bI.bY,ed];simpa using hk
  have hxk:(s.bY.map fun x=>[Value.agg x.v.toArray])[k]=[.agg (x.arc k).v.toArray]:=by
   have:=jP hx
   rw [List.getElem_map];rw [List.getElem?_eq_some_iff] at this;obtain ⟨h1,h2⟩:=this;simp only [bI.bY];rw [h2]
  have hyd:=hy k hk' H1 σb σf w hle1 hI hs.tail
  rw [hxk] at hyd
  refine .o (.yield (vs:=[.agg (x.arc k).v.toArray]) rfl (by simp [Arc.v,hA,hB];rfl) hyd ?_);rintro v22 w ⟨H2,σ2,g1,hs,g3⟩
  obtain ⟨bb,rfl,gT,gF⟩:=mC g3
  refine .z gy (.nil ?_)
  refine (.cond rfl (fun hc23=>?_) (fun hc23=>?_))
  ·refine .ret (rB (rT (rB (Fin.Hg Tryz.results295 ?_))))
   exact ⟨H2,σ2,hle0.trans g1,hs,.inr (gF (by simpa using hc23))⟩
  ·refine .skip ?_
   refine nB (nT ?_)
   exact .mk ⟨rfl,H2,σ2,hle1.trans g1,hle0.trans g1,gT (by simpa using hc23),hs⟩
 ·rintro fr w ⟨rfl,H1,σb,hle1,hle0,hI,hs⟩
  exact Fin.yx Tryz.results295 ⟨H1,σb,hle0,hs,.inl (by simpa [bI.bY,ed] using hI)⟩
theorem jA{v:Value}{s:bI}(hs:St H w σ)(hok:s.Ok)(hr:RSy H v s):
  Cl Tryz.prog 269 [v] w fun v w'=>∃H1 b,HLe H H1∧v= .func (.func 295) #[] #[.pointer (some ⟨b,0,none⟩)]∧ItA Tryz.prog 295 [.pointer (some ⟨b,0,none⟩)] H1 s.bY∧St H1 w' σ:=by
 obtain ⟨u,rfl,hr⟩:=hr
 refine Cl.o Tryz.func269 Tryz.ntmps269 ag1 ?_
 refine .ai ?_
 refine .bx hs fun b1 w hs=>?_
 refine .z zg (.nil (.ai ?_))
 refine .q hs (cJ (f:=[]) (c:=[_]) rfl rfl) ?_
 refine .z zg (.nil ?_)
 refine .ret (Fin.bw Tryz.results269 rfl ?_)
 obtain ⟨H1,g1,g2,hs⟩:=hs.cg .here
 exact ⟨H1,b1,g1,rfl,qj hok g2 (hr.mono g1),hs⟩
theorem kC{N gf:Nat}{ar:List Arc}{cap:List Value}(hs:St H w σ)(hN:N≤64)(hok:qA ar (N+1))(hit:ItA Tryz.prog gf cap H ar)(hc:∀args w,(callFunc gf args).run Tryz.prog w= .ok (.enter gf args) w):
  Cl Tryz.prog 225 [I N,.func (.func gf) #[] cap.toArray] w fun v w'=>∃H1 bc bb s ov vo,HLe H H1∧v= .tuple #[.slice (some ⟨bc,0,none⟩) (N+1) (N+1),.slice (some ⟨bb,0,none⟩) (N+1) (N+1),vo]∧OvR H1 vo ov∧IP (N+1) ar s ov∧St H1 w' (.blk bc (Is s.cost):: .blk bb (iL s.by_)::σ):=by
 refine Cl.o Tryz.func225 Tryz.ntmps225 ag2 ?_
 refine .ai ?_
 refine .o (.alloc hs ef rfl fun b4 w hs=>?_)
 refine .o (.alloc hs Tryz.zeroValue267 rfl fun b5 w hs=>?_)
 refine .o (.alloc hs Tryz.zeroValue268 rfl fun b6 w hs=>?_)
 refine .nil ?_
 refine .cut (fun fs w=>∃bc bb,kQ fs ⟨70,[],[(1,.func (.func gf) #[] cap.toArray),(0,I N),(4,.pointer (some ⟨b4,0,none⟩)),(5,.pointer (some ⟨b5,0,none⟩)),(6,.pointer (some ⟨b6,0,none⟩))]⟩∧St H w (.blk b4 [.slice (some ⟨bc,0,none⟩) (N+1) (N+1)]:: .blk b5 [.slice (some ⟨bb,0,none⟩) (N+1) (N+1)]:: .blk b6 [.pointer none]:: .blk bc (Is (List.replicate (N+1) 0)):: .blk bb (iL (zv (N+1) 0))::σ)) ?_ ?_
 ·refine .draw mix rfl hs fun w hs=>?_
  refine .z 0 rfl zm ?_;refine .z 1 rfl cf ?_;refine .z 3 rfl zm ?_;refine .z 4 rfl cf ?_
  refine .e2 (i:=2) (j:=5) aq rfl rfl rfl rfl .none .none hs ?_ ?_
  ·refine .xX (N+1) hs rfl rfl ae iQ rfl aj bN ak ?_;intro b11 w hs
   refine .go ?_
   refine .e2 (i:=5) (j:=6) aq rfl rfl rfl rfl .none .none hs ?_ ?_
   ·refine .EN (N+1) hs rfl rfl au zX rfl aD dx ak ?_;intro b14 w hs
    refine .go ?_
    refine .E 6 hs ?_
    refine .store hs rfl rfl aA ?_;intro w hs
    refine .go ?_
    refine .E 7 hs ?_
    refine .store hs rfl rfl uO ?_;intro w hs
    refine .go ?_
    refine .D hs ?_
    exact nT ⟨b11,b14,bD,hs.sb⟩
   ·refine .store hs rfl rfl aA ?_;intro w hs
    refine .go ?_
    refine .E 5 hs ?_
    refine .EN (N+1) hs rfl rfl au zX rfl aD dx ak ?_;intro b14 w hs
    refine .go ?_
    refine .E 7 hs ?_
    refine .store hs rfl rfl uO ?_;intro w hs
    refine .go ?_
    refine .D hs ?_
    exact nT ⟨b11,b14,bD,hs.sb⟩
  ·refine .EN (N+1) hs rfl rfl au zX rfl aD dx ak ?_;intro b14 w hs
   refine .go ?_
   refine .E 2 hs ?_
   refine .xX (N+1) hs rfl rfl ae iQ rfl aj bN ak ?_;intro b11 w hs
   refine .go ?_
   refine .E 6 hs ?_
   refine .store hs rfl rfl aA ?_;intro w hs
   refine .go ?_
   refine .E 7 hs ?_
   refine .store hs rfl rfl uO ?_;intro w hs
   refine .go ?_
   refine .D hs ?_
   exact nT ⟨b11,b14,bD,hs.sb⟩
 ·rintro s w ⟨bc,bb,hfs,hs⟩
  refine WE.sub ?_ hfs
  refine .seq (.ai (.y hs (zld eD) (.z (cZ au) (.z zm (.nil ?_)))))
  refine .for (N:=N+1) (J:=fun k fr w=>fr=[(1,.func (.func gf) #[] cap.toArray),(0,I N),(4,.pointer (some ⟨b4,0,none⟩)),(5,.pointer (some ⟨b5,0,none⟩)),(6,.pointer (some ⟨b6,0,none⟩))]∧St H w (.blk b4 [.slice (some ⟨bc,0,none⟩) (N+1) (N+1)]:: .blk b5 [.slice (some ⟨bb,0,none⟩) (N+1) (N+1)]:: .blk b6 [.pointer none]:: .blk bc (Is (List.replicate (N+1) 0)):: .blk bb (iL (zv (N+1) k))::σ)) ak ?_ ?_ ?_
  ·exact .mk ⟨rfl,hs⟩
  ·rintro k fr w hk ⟨rfl,hs⟩
   have hkl:k<(zv (N+1) k).length:=by rw [zu ak];exact hk
   refine .block (.ai (.z zm (.z zg (.nil (.region (.y hs (zld eD) (.z zm ?_)))))))
   first|(refine .ixw hs au aD ?_;intro b22 o22 hc22)|refine .z (AV au aD) ?_
   refine .z (zfa dp) ?_
   refine .o (.store hs rfl rfl aj ?_ e7 (AM hkl ak) ((yP hkl _).trans (congrArg iL (EL hk))));intro w hs
   refine .nil ?_
   refine nB (nT ?_)
   exact .mk ⟨rfl,hs⟩
  ·rintro fr w ⟨rfl,hs⟩
   refine nT ?_
   refine .seq (.ai (.z zm (.z cf (.z zm (.nil ?_)))))
   refine .forD (N:=N+2) (J:=fun r ds fr w=>fr=[(1,.func (.func gf) #[] cap.toArray),(0,I N),(4,.pointer (some ⟨b4,0,none⟩)),(5,.pointer (some ⟨b5,0,none⟩)),(6,.pointer (some ⟨b6,0,none⟩))]∧∃Ds H1 s vo,ds=marks Ds∧HLe H H1∧uu (N+1) ar r 0 none s∧(r=0∨∃x,OvR H1 vo (some x)∧uu (N+1) ar (r - 1) ar.length (some x) s)∧St H1 w (.blk b4 [.slice (some ⟨bc,0,none⟩) (N+1) (N+1)]:: .blk b5 [.slice (some ⟨bb,0,none⟩) (N+1) (N+1)]:: .blk b6 [vo]:: .blk bc (Is s.cost):: .blk bb (iL s.by_)::(mes Ds++σ))) ak ?_ ?_ ?_
   ·exact .mk (ds:=[]) ⟨rfl,[],H,⟨List.replicate (N+1) 0,List.replicate (N+1) ⟨0,0,0,-1⟩⟩,_,rfl,HLe.refl _,uu.init ak,.inl rfl,by rw [CB] at hs;exact hs⟩
   ·rintro r ds fr w hr ⟨rfl,Ds,H1,s,vo,rfl,hle1,hN0,-,hs⟩
    refine .block (.ai ?_)
    refine .o (.store hs rfl rfl Tryz.sizeOf268 fun w hs=>?_)
    refine .nil (.seq (.ai (.z zm (.nil (.block ?_)))))
    refine .rangeFunc (gf:=gf) (cap:=cap) (xs:=ar.map fun x=>[.agg x.v.toArray]) (σb:=[.blk b4 [.slice (some ⟨bc,0,none⟩) (N+1) (N+1)],.blk b5 [.slice (some ⟨bb,0,none⟩) (N+1) (N+1)],.blk b6 [.pointer none],.blk bc (Is s.cost),.blk bb (iL s.by_)]) (σf:=mes Ds++σ) hs trivial rfl (hit.mono hle1) hc bV rfl
     (I:=fun k H' σb=>∃s ov vo,σb=[.blk b4 [.slice (some ⟨bc,0,none⟩) (N+1) (N+1)],.blk b5 [.slice (some ⟨bb,0,none⟩) (N+1) (N+1)],.blk b6 [vo],.blk bc (Is s.cost),.blk bb (iL s.by_)]∧OvR H' vo ov∧uu (N+1) ar r k ov s) (Ix:=fun _ _ _=>False) (by rintro k _ _ σ g1 ⟨s,ov,vo,g2,g3,g4⟩;exact ⟨s,ov,vo,g2,g3.mono g1,g4⟩) (fun _ _ _ _ _ h=>h)
     ⟨s,none,_,rfl,rfl,hN0⟩ ?_ ?_ (fun D c H' σb w _ h _=>h.elim)
    ·rintro l k hk H2 σb2 σf2 w hle2 ⟨s,ov,vo,rfl,hov,hN⟩ hs ⟨rr,hrr⟩
     obtain ⟨x,hx⟩:=nth (l:=ar) (by simpa using hk)
     obtain ⟨c1,c2,c3,c4,c5,c6⟩:=hok.2 x (List.mem_of_getElem? hx)
     have hxk:(ar.map fun x=>[Value.agg x.v.toArray])[k]=[.agg x.v.toArray]:=by rw [List.getElem_map];rw [List.getElem?_eq_some_iff] at hx;obtain ⟨h1,h2⟩:=hx;rw [h2]
     rw [hxk]
     have hkl:k<ar.length:=by simpa using hk
     have hal:=hok.1
     have hlc:=hN.lc
     have hlb:=hN.lb
     have lo1:=hN.lo x.f c1
     have hi1:=hN.hi x.f c1
     refine .region ?_
     refine .o (.alloc hs dx rfl fun b8 w hs=>?_)
     refine .o (.aI (vs:=x.v) hs rfl rfl aD fun w hs=>?_)
     refine .nil ?_
     refine nT ?_
     refine ⟨H2,[.blk b8 x.v,.blk b4 [.slice (some ⟨bc,0,none⟩) (N+1) (N+1)],.blk b5 [.slice (some ⟨bb,0,none⟩) (N+1) (N+1)],.blk b6 [vo],.blk bc (Is s.cost),.blk bb (iL s.by_)],HLe.refl _,hs,?_⟩;rintro w σf2 - hs
     refine .block ?_
     refine .seq (.draw mix rfl hs fun w hs=>?_)
     refine .y 0 rfl hs an ?_;refine .z 1 rfl (zfa cH) ?_;refine .y 2 rfl hs af ?_
     first|(refine .ixv 3 rfl hs ae aj ?_;intro b34 o34 hc34)|refine .z 3 rfl (zix ae aj) ?_
     refine .y 4 rfl hs af ?_;refine .z 5 rfl (zfa eA) ?_;refine .y 6 rfl hs af ?_;refine .z 7 rfl cf ?_;refine .y 8 rfl hs an ?_;refine .z 9 rfl (zfa cN) ?_;refine .y 10 rfl hs af ?_
     first|(refine .ixv 11 rfl hs ae aj ?_;intro b42 o42 hc42)|refine .z 11 rfl (zix ae aj) ?_
     refine .y 12 rfl hs af ?_;refine .z 13 rfl iM ?_;refine .D hs ?_
     refine (.bT rfl (fun hc44=>?_) (fun hc44=>?_))
     ·refine .seq (.draw mix rfl hs fun w hs=>?_)
      refine .y 0 rfl hs an ?_;refine .z 1 rfl (zfa cN) ?_;refine .y 2 rfl hs af ?_;refine .y 3 rfl hs eD ?_;refine .z 4 rfl (zfa cN) ?_;refine .y 5 rfl hs af ?_;refine .y 6 rfl hs an ?_;refine .z 7 rfl (zfa cH) ?_;refine .y 8 rfl hs af ?_
      first|(refine .ixv 9 rfl hs ae aj ?_;intro b54 o54 hc54)|refine .z 9 rfl (zix ae aj) ?_
      refine .y 10 rfl hs af ?_;refine .z 11 rfl (zfa eA) ?_;refine .y 12 rfl hs af ?_;refine .z 13 rfl cf ?_
      refine .Bh (i:=14) (vs:=x.v) hs rfl aq .none rfl fR aD ?_
      first|(refine .ixv 15 rfl hs ae aj ?_;intro b60 o60 hc60)|refine .z 15 rfl (zix ae aj) ?_
      refine .E 16 hs ?_
      refine .store hs rfl rfl aj ?_;intro w hs
      refine .go ?_
      first|(refine .ixw 17 rfl hs au aD ?_;intro b61 o61 hc61)|refine .z 17 rfl (AV au aD) ?_
      refine .E 18 hs ?_
      refine .aI (vs:=x.v) hs rfl rfl aD ?_;intro w hs
      refine .go ?_
      refine .D hs ?_
      refine .region ?_
      refine .o (.store hs rfl rfl Tryz.sizeOf268 fun w hs=>?_)
      refine .nil ?_
      refine nB ?_
      obtain ⟨H3,g1,g2,hs⟩:=hs.cg .here
      exact ⟨H3,_,g1,hs,s.rlx x,some x,_,rfl,⟨b8,rfl,g2⟩,hN.xJ hok hx hc44⟩
     ·refine .skip ?_
      refine nB ?_
      exact ⟨H2,_,HLe.refl _,hs.tail,s,ov,vo,rfl,hov,hN.skip hok hx (by unfold BS.can;omega)⟩
    ·rintro D H2 σb2 w hle2 ⟨s,ov,vo,rfl,hov,hN⟩ hs
     obtain ⟨a',rfl,ha'⟩:=hov.ptr
     replace hs:St H2 w (.blk b4 [.slice (some ⟨bc,0,none⟩) (N+1) (N+1)]:: .blk b5 [.slice (some ⟨bb,0,none⟩) (N+1) (N+1)]:: .blk b6 [.pointer a']:: .blk bc (Is s.cost):: .blk bb (iL s.by_)::(mes (D::Ds)++σ)):=St.deep (σ1:=[_,_,_,_,_]) hs
     have hN:uu (N+1) ar r ar.length ov s:=by simpa using hN
     refine nB (nT ?_)
     refine .ai (.y hs (zld Tryz.isAgg268) ?_)
     refine .q hs (Cm rfl rfl Tryz.runUnderlying268) ?_
     refine .nil ?_
     refine (.cond rfl (fun hc63=>?_) (fun hc63=>?_))
     ·refine .seq (.draw mix rfl hs fun w hs=>?_)
      refine .y 0 rfl hs an ?_;refine .y 1 rfl hs eD ?_
      refine .E 2 hs ?_
      refine .store hs rfl rfl aA ?_;intro w hs
      refine .go ?_
      refine .E 3 hs ?_
      refine .store hs rfl rfl uO ?_;intro w hs
      refine .go ?_
      refine .E 4 hs ?_
      refine .store hs rfl rfl Tryz.sizeOf268 ?_;intro w hs
      refine .go ?_
      refine .D hs ?_
      refine .ret (rB (rT (rB (rT (?_)))))
      obtain ⟨rfl,rfl⟩:=OvR.no ha' hc63
      refine Fin.ia (D::Ds) [_,_,_,_,_] hs fun w hs=>⟨_,results3 Tryz.results225 (A8 hs rfl an) (A8 hs rfl eD) (A8 hs rfl Tryz.isAgg268),H2,bc,bb,s,none,_,hle1.trans hle2,rfl,hov,⟨r,hN,fun h=>(h rfl).elim⟩,hs.sb⟩
     ·refine .skip ?_
      refine nB (nT ?_)
      obtain ⟨x,rfl⟩:=OvR.yes ha' hc63
      exact .mk (ds:=marks (D::Ds)) ⟨rfl,D::Ds,H2,s,_,rfl,hle1.trans hle2,hN.next hok,.inr ⟨x,hov,hN⟩,hs⟩
   ·rintro ds fr w ⟨rfl,Ds,H1,s,vo,rfl,hle1,hN0,hor,hs⟩
    obtain ⟨x,hov,hN⟩:∃x,OvR H1 vo (some x)∧uu (N+1) ar (N+2 - 1) ar.length (some x) s:=hor.resolve_left ak
    obtain ⟨b3,rfl,hrow⟩:=hov
    refine nT ?_
    refine .seq (.draw mix rfl hs fun w hs=>?_)
    refine .y 0 rfl hs an ?_;refine .y 1 rfl hs eD ?_;refine .y 2 rfl hs Tryz.isAgg268 ?_
    refine .E 3 hs ?_
    refine .store hs rfl rfl aA ?_;intro w hs
    refine .go ?_
    refine .E 4 hs ?_
    refine .store hs rfl rfl uO ?_;intro w hs
    refine .go ?_
    refine .E 5 hs ?_
    refine .store hs rfl rfl Tryz.sizeOf268 ?_;intro w hs
    refine .go ?_
    refine .D hs ?_
    refine .ret ?_
    refine Fin.ia Ds [_,_,_,_,_] hs fun w hs=>⟨_,results3 Tryz.results225 (A8 hs rfl an) (A8 hs rfl eD) (A8 hs rfl Tryz.isAgg268),H1,bc,bb,s,some x,_,hle1,rfl,⟨b3,rfl,hrow⟩,⟨N+1,hN,fun _=>rfl⟩,hs.sb⟩
theorem iI{v:Value}{s:bI}(hs:St H w σ)(hok:s.Ok)(hr:RSy H v s):
  Cl Tryz.prog 223 [v] w fun v w'=>∃H1 b,HLe H H1∧v= .bool b∧(b=true↔s.Sound)∧St H1 w' σ:=by
 obtain ⟨u,rfl,hr⟩:=hr
 obtain ⟨N,hN⟩:=Int.eq_ofNat_of_zero_le hok.m0
 have hN1:=hok.m1
 have hn:s.n=N+1:=by simp [bI.n,hN]
 have hoka:=hok.bY
 rw [hn] at hoka
 rw [hN]
 refine Cl.o Tryz.func223 Tryz.ntmps223 ag1 ?_
 refine .ai ?_
 refine .bx hs fun b1 w hs=>?_
 refine .z zg (.nil ?_)
 refine .seq (.draw mix rfl hs fun w hs=>?_)
 refine .z 0 rfl (zfa bM) ?_;refine .y 1 rfl hs af ?_;refine .ys 2 rfl hs [_,_] bg aE ?_
 refine .E 3 hs ?_
 refine .call Tryz.call269 rfl (jA (s:=s) hs hok ⟨u,by rw [hN],hr⟩) ?_;rintro _ w ⟨H1,b10,hle1,rfl,hit,hs⟩
 refine .go ?_
 refine .E 4 hs ?_
 refine .call Tryz.call225 rfl (kC hs ak hoka hit Tryz.call295) ?_;rintro _ w ⟨H2,bc,bb,st,ov,vo,hle2,rfl,hov,hnr,hs⟩
 obtain ⟨a',rfl,ha'⟩:=hov.ptr
 refine .go ?_
 refine .z 5 rfl zm ?_;refine .z 6 rfl zex ?_;refine .z 7 rfl zex ?_;refine .z 8 rfl zex ?_;refine .z 9 rfl zg ?_;refine .z 10 rfl zg ?_;refine .z 11 rfl zg ?_;refine .D hs ?_
 refine .ai (.z zm ?_)
 refine .q hs (Cm rfl rfl Tryz.runUnderlying268) ?_
 refine .z zg (.nil ?_)
 refine .ret (Fin.bw Tryz.results223 rfl ?_)
 refine ⟨H2,_,hle1.trans hle2,rfl,?_,hs.out⟩
 obtain ⟨r,hN2,hr2⟩:=hnr
 cases ov with
 |none=>
  rw [ha']
  exact ⟨fun _=>⟨_,(hN2.sol hoka ak).1⟩,fun _=>rfl⟩
 |some x=>
  rw [ha']
  exact ⟨fun h=>(by cases h),fun h=>(hN2.none hoka ak (by have:=hr2 bV;omega) h).elim⟩
theorem oX{c:Int}(hs:St H w σ)(hc:0≤c∧c<4294967296):Cl Tryz.prog 313 [.int .u64 1,.int .u64 c] w fun v w'=>v= .tuple #[.int .u64 0,.int .u64 c]∧St H w' σ:=by
 refine Cl.o Tryz.func313 Tryz.ntmps313 ag2 ?_
 refine .ai (.z zg (.z zg (.nil (.ai (.z zm ?_)))))
 first|refine .q hs (Gs rfl rfl ⟨ak,ak⟩) ?_|refine .q hs (Ah rfl rfl) ?_
 refine .z zg (.nil (.ai (.z zm ?_)))
 first|refine .q hs (xQ rfl rfl ⟨ak,ak⟩) ?_|refine .q hs (zp rfl rfl eW) ?_
 refine .z zg (.nil (.ai (.z zm ?_)))
 first|refine .q hs (Gs rfl rfl ⟨ak,ak⟩) ?_|refine .q hs (Ah rfl rfl) ?_
 refine .z zg (.nil (.ai (.z zm ?_)))
 first|refine .q hs (xQ rfl rfl ⟨ak,ak⟩) ?_|refine .q hs (zp rfl rfl eW) ?_
 refine .z zg (.nil (.ai (.z zm (.z zm (.z kS (.z zg (.nil (.ai (.z zm ?_)))))))))
 refine .z zm (.z kS (.z zm ?_))
 first|refine .q hs (xQ rfl rfl ⟨ak,ak⟩) ?_|refine .q hs (zp rfl rfl eW) ?_
 refine .z cf (.z zg (.nil (.ai (.z zm ?_))))
 first|refine .q hs (Gs rfl rfl ⟨ak,ak⟩) ?_|refine .q hs (Ah rfl rfl) ?_
 refine .z zg (.nil (.ai (.z zm ?_)))
 first|refine .q hs (xQ rfl rfl ⟨ak,ak⟩) ?_|refine .q hs (zp rfl rfl eW) ?_
 refine .z zg (.nil (.ai (.z zm (.z zm (.z zm (.z kS (.z cf (.z zg (.nil ?_)))))))))
 refine .ai (.z zm (.z zm (.z kS (.z zm (.z cf (.z zm ?_))))))
 first|refine .q hs (xQ rfl rfl ⟨ak,ak⟩) ?_|refine .q hs (zp rfl rfl eW) ?_
 refine .z cf (.z zg (.nil (.ai (.z zm (.z zm (.z kS (.z zg (.nil ?_))))))))
 refine .ret (Fin.kn Tryz.results313 rfl rfl ?_)
 exact ⟨bV,hs⟩
theorem qY{c:Int}(hs:St H w σ)(hc:0≤c∧c<4294967296):Cl Tryz.prog 306 [.int .u64 1,.int .u64 c] w fun v w'=>v= .tuple #[.int .u64 0,.int .u64 c]∧St H w' σ:=by
 refine Cl.o Tryz.func306 Tryz.ntmps306 ag2 ?_
 refine .ai (.z zg (.z zg (.nil ?_)))
 refine .seq (.cF ?_)
 refine .skip ?_
 refine nT ?_
 refine .ai (.z zm (.z zm ?_))
 refine .o (.call Tryz.call313 rfl (oX hs hc) ?_);rintro _ w ⟨rfl,hs⟩
 refine .z zm (.z zex (.z zex (.z zg (.z zg (.nil (.ai (.z zm (.z zm (.z zg ?_)))))))))
 refine .z zg (.nil ?_)
 refine .ret (Fin.kn Tryz.results306 rfl rfl ?_)
 exact ⟨rfl,hs⟩
theorem CX{c k:Nat}{z:Int}:let n:=min k (c - k);(List.replicate k z++List.replicate (c - k) 0).take k++List.replicate n z++(List.replicate k z++List.replicate (c - k) 0).drop (k+n)=List.replicate (k+n) z++List.replicate (c - (k+n)) (0:Int):=by
 intro n
 have hn:n≤c - k:=Nat.min_le_right _ _
 have e0:(List.replicate k z).length=k:=by simp
 rw [List.take_left' e0]
 have e1:(List.replicate k z++List.replicate (c - k) 0).drop (k+n)=List.replicate (c - (k+n)) (0:Int):=by
  rw [show k+n=(List.replicate k z).length+n by simp,List.drop_append]
  simp
  omega
 rw [e1,List.replicate_append_replicate]
theorem qP{z:Int}{bx c:Nat}(hs:St H w σ)(hm:Mem σ (.blk bx (Is [z])))(h1:1≤c)(h2:c≤1000000):Cl Tryz.prog 296 [.slice (some ⟨bx,0,none⟩) 1 1,I c] w fun v w'=>∃b,v= .slice (some ⟨b,0,none⟩) c c∧St H w' (.blk b (Is (List.replicate c z))::σ):=by
 refine Cl.o Tryz.func296 Tryz.ntmps296 ag2 ?_
 refine .ai (.z zg (.nil (.seq (.ai (.z zm (.z iM (.nil ?_)))))))
 refine (.bT rfl (fun hc10=>?_) (fun hc10=>?_))
 ·omega
 ·refine .skip ?_
  refine nT ?_
  refine .ai (.z zm (.z (cZ ae) ?_))
  first|refine .q hs (wu rfl aS cW ⟨ak,ak⟩) ?_|refine .q hs (wq rfl aS cW ⟨ak,ak⟩) ?_|refine .q hs (xS rfl aS cW) ?_
  refine .z zm ?_
  first|refine .q hs (wu rfl aS cW ⟨ak,ak⟩) ?_|refine .q hs (wq rfl aS cW ⟨ak,ak⟩) ?_|refine .q hs (xS rfl aS cW) ?_
  refine .o (.call Tryz.call306 rfl (qY (c:=c) hs ak) ?_);rintro _ w ⟨rfl,hs⟩
  refine .z zm (.z zex (.z zex (.z zg (.z zg (.nil (.seq (.ai (.z zm (.z qH ?_)))))))))
  refine .z zm ?_
  refine .jM (t':=23) rfl (fun hb23=>?_) (fun hb23=>?_)
  ·refine .gFs 2 2 false rfl rfl rfl ?_
   refine .z zpT (.nil ?_)
   refine (.cT ?_)
   first|omega|(simp at hc26;omega)
  ·refine .gT rfl rfl ?_
   refine .z zm ?_
   refine .gT rfl rfl ?_
   refine .z qH (.z zpF (.nil ?_))
   refine (.bT rfl (fun hc26=>?_) (fun hc26=>?_))
   ·first|omega|(simp at hc26;omega)
   ·refine .skip ?_
    refine nT ?_
    refine .ai (.z zm ?_)
    first|refine .q hs (wu rfl cW aS ⟨ak,ak⟩) ?_|refine .q hs (wq rfl cW aS ⟨ak,ak⟩) ?_|refine .q hs (xS rfl cW aS) ?_
    refine .o (.xX c hs rfl rfl ae iQ rfl aj bN ak fun b30 w hs=>?_)
    refine .z zg (.nil (.ai (.z zm (.z zm ?_))))
    refine .o (.IA (k:=1) (xs:=List.replicate c 0) (zs:=[z]) hs rfl rfl ⟨_,_,rfl⟩ ae aj ak rfl (yt (xs:=[z]) (.there hm) rfl rfl) (by simp;omega) ?_);intro w hs
    refine .z zg (.nil (.seq (.block ?_)))
    refine .loop (fun k:Nat=>⟨48,[],[(8,I k),(7,.slice (some ⟨b30,0,none⟩) c c)]⟩) (fun k w=>(1≤k∧k≤c)∧St H w (.blk b30 (Is (List.replicate k z++List.replicate (c - k) 0))::σ)) (fun k=>c - k) 1 bD ⟨⟨ak,ak⟩,by
      have e:List.take 0 (List.replicate c (0:Int))++[z]++List.drop (0+1) (List.replicate c 0)=List.replicate 1 z++List.replicate (c - 1) 0:=by simp
      rw [e] at hs;exact hs⟩ ?_
    rintro k w ⟨⟨k1,k2⟩,hs⟩
    refine .seq (.ai (.z zm (.z zm (.z (cZ ae) (.z iM (.nil ?_))))))
    refine (.bT rfl (fun hc37=>?_) (fun hc37=>?_))
    ·refine .skip ?_
     refine nT ?_
     refine .block ?_
     refine .draw mix rfl hs fun w hs=>?_
     refine .z 0 rfl zm ?_;refine .z 1 rfl zm ?_;refine .z 2 rfl zm ?_
     refine .z 3 rfl (xO (k:=k) rfl rfl ae aj ak ak) ?_
     refine .z 4 rfl zm ?_;refine .z 5 rfl zm ?_
     refine .z 6 rfl (tx (k:=k) rfl rfl ae aj ak) ?_
     refine .E 7 hs ?_
     refine .IA (k:=min k (c - k)) (xs:=List.replicate k z++List.replicate (c - k) 0) (zs:=List.replicate (min k (c - k)) z) hs rfl rfl ⟨_,_,rfl⟩ ae aj rfl bV (yt (xs:=List.replicate k z++List.replicate (c - k) 0) .here (by rw [List.drop_zero,List.take_append_of_le_length (by simp;omega)];simp) bV) (by simp;omega) ?_;intro w hs
     refine .go ?_
     refine .z 8 rfl cf ?_;refine .z 9 rfl zg ?_;refine .D hs ?_
     refine nB (nT ?_)
     exact ⟨k+min k (c - k),bD,⟨⟨ak,ak⟩,by
       have e:=CX (z:=z) (c:=c) (k:=k)
       simp only [Nat.mul_one,Nat.zero_add] at hs
       rw [e] at hs;exact hs⟩,ak⟩
    ·refine .exit ?_
     refine xT (xT (xB (nT ?_)))
     refine .ai (.z zm (.z zg (.nil ?_)))
     refine .ret (Fin.bw Tryz.results296 rfl ?_)
     obtain rfl:k=c:=by omega
     exact ⟨b30,rfl,by simpa using hs⟩
theorem qQ{v:Value}{xs:List Int}(hs:St H w σ)(hr:RI H v xs)(hx:xs.length≤17592186044416):Cl Tryz.prog 171 [v] w fun u w'=>∃en,(Ib v=true→Ib u=true)∧bU 1 u (Is xs) en∧St H w' (en::σ):=by
 obtain ⟨a,c,rfl⟩:=RI.shape hr
 have hl:=(RI.len hr).2.2
 refine Cl.o Tryz.func171 Tryz.ntmps171 ag1 ?_
 refine .ai (.z zg (.nil (.seq (.ai (.z zm ?_)))))
 refine .q hs (HV rfl rfl ae) ?_
 refine .nil ?_
 refine (.cond rfl (fun hc4=>?_) (fun hc4=>?_))
 ·refine .ai (.z zg (.nil ?_))
  refine .ret (rT (Fin.bw Tryz.results171 rfl ?_))
  obtain rfl:a=none:=by simpa using hc4
  obtain rfl:=hr.Jw
  exact ⟨.nul,fun h=>h,.nil 1 none,hs.nul⟩
 ·refine .skip ?_
  refine nT ?_
  refine .ai ?_
  refine .o (.buildSlice (cells:=[]) hs rM rfl rfl fun b5 w hs=>?_)
  refine .z zm ?_
  refine .o (.Di (xs:=[]) (ys:=Is xs) hs cn rfl rfl (.full rfl) (.ints hr) (by simp [Value.oneCell']) (fun l h=>by simp at h;omega) ?_);intro v7 en7 w hnn hO hs
  refine .z zg (.nil ?_)
  refine .ret (Fin.bw Tryz.results171 rfl ?_)
  exact ⟨en7,fun _=>hnn rfl,hO,hs⟩
theorem lS{v:Value}{xs:List Int}(hs:St H w σ)(hr:RI H v xs)(hx:xs.length≤17592186044416):Cl Tryz.prog 171 [v] w fun v w'=>∃en,bU 1 v (Is xs) en∧St H w' (en::σ):=
 (qQ hs hr hx).mono fun _ _ ⟨en,_,h⟩=>⟨en,h⟩
theorem oK{v:Value}{l:List Arc}{en:Ent}(hs:St H w (en::σ))(ho:bU 4 v (iL l) en)(hl:l.length≤1000000):
  Cl Tryz.prog 297 [v] w fun _ w'=>∃en',bU 4 v (iL l.reverse) en'∧St H w' (en'::σ):=by
 rcases ho with ⟨a,rfl,h2,rfl⟩|⟨b,len,cap,sp,rfl,rfl,h2,h3,h4⟩
 ·obtain rfl:l=[]:=by
   have:=congrArg List.length h2
   rw [dk] at this
   exact List.length_eq_zero_iff.1 (by simp at this;omega)
  have hs:=hs.tail
  refine Cl.o Tryz.func297 Tryz.ntmps297 ag1 ?_
  refine .ai (.z zm (.z (cZ au) (.z gZ (.z zg (.z zg (.nil (.block ?_)))))))
  refine .loop (fun _:Unit=>⟨28,[],[(2,I 0),(3,I (-1))]⟩) (fun _ w=>St H w σ) (fun _=>0) () bD hs ?_
  rintro _ w hs
  refine .seq (.ai (.z zm (.z zm (.z iM (.nil ?_)))))
  refine (.bT rfl (fun hc9=>?_) (fun hc9=>?_))
  ·omega
  ·refine .exit ?_
   refine xT (xT (xB ?_))
   exact Fin.yx Tryz.results297 ⟨.nul,.nil 4 a,hs.nul⟩
 obtain rfl:len=l.length:=by rw [dk] at h2;omega
 refine Cl.o Tryz.func297 Tryz.ntmps297 ag1 ?_
 refine .ai (.z zm (.z (cZ au) (.z gZ (.z zg (.z zg (.nil (.block ?_)))))))
 refine .loop (fun p:Nat×List Arc=>⟨28,[],[(2,I p.1),(3,I ((l.length:Int) - 1 - p.1)),(0,.slice (some ⟨b,0,none⟩) l.length cap)]⟩) (fun p w=>(2*p.1≤l.length+1∧rQ l p.2 p.1)∧St H w (.blk b (iL p.2++sp)::σ)) (fun p=>l.length - p.1) (0,l) (.cons rfl (.dA rfl bV (.cons rfl (.nil rfl rfl)))) ⟨⟨bV,.start l⟩,hs⟩ ?_
 rintro ⟨i,L⟩ w ⟨⟨h5,h6⟩,hs⟩
 dsimp only at h5 h6 hs ⊢
 have hL:=h6.1
 refine .seq (.ai (.z zm (.z zm (.z iM (.nil ?_)))))
 refine (.bT rfl (fun hc9=>?_) (fun hc9=>?_))
 ·refine .skip ?_
  refine nT ?_
  refine .seq (.block ?_)
  refine .draw mix rfl hs fun w hs=>?_
  refine .z 0 rfl zm ?_;refine .z 1 rfl zm ?_;refine .z 2 rfl zm ?_;refine .z 3 rfl zm ?_;refine .z 4 rfl zm ?_;refine .z 5 rfl zm ?_
  refine .z 6 rfl (u6 (k:=l.length - 1 - i) rfl rfl au aD ak ak) ?_
  refine .Bh (i:=7) (vs:=(ga L (l.length - 1 - i)).v) hs rfl aq .none rfl fR aD ?_ (hv:=uf ak sp)
  refine .z 8 rfl zm ?_;refine .z 9 rfl zm ?_
  first|(refine .ixw 10 rfl hs au aD ?_;intro b24 o24 hc24)|refine .z 10 rfl (AV au aD) ?_
  refine .Bh (i:=11) (vs:=(ga L i).v) hs rfl aq .none rfl fR aD ?_ (hv:=uf ak sp)
  first|(refine .ixw 12 rfl hs au aD ?_;intro b26 o26 hc26)|refine .z 12 rfl (AV au aD) ?_
  refine .E 13 hs ?_
  refine .aI (vs:=(ga L (l.length - 1 - i)).v) hs rfl rfl aD ?_ e7 (tU ak sp) (rD ak _ sp);intro w hs
  refine .go ?_
  refine .z 14 rfl (u6 (k:=l.length - 1 - i) rfl rfl au aD ak ak) ?_
  refine .E 15 hs ?_
  refine .aI (vs:=(ga L i).v) hs rfl rfl aD ?_ e7 (tU (by simp;omega) sp) (rD (by simp;omega) _ sp);intro w hs
  refine .go ?_
  refine .D hs ?_
  refine nB (nT ?_)
  refine .region (.z zm (.z cf (.z zm (.z gZ (.z zg (.z zg (.nil ?_)))))))
  refine nT ?_
  exact ⟨(i+1,_),.cons rfl (.dA rfl (by push_cast;omega) (.cons rfl (.nil rfl rfl))),⟨⟨by dsimp only;omega,h6.step ak⟩,hs⟩,by dsimp only;omega⟩
 ·refine .exit ?_
  refine xT (xT (xB ?_))
  rw [h6.done ak] at hs
  exact Fin.yx Tryz.results297 ⟨_,.inr ⟨b,l.length,cap,sp,rfl,rfl,by rw [dk];simp,by rw [←h3];simp [dk],h4⟩,hs⟩
theorem my{H:bB}{b1 bf bt bl cl:Nat}{s:bI}{ts lf:List Int}{vl:Value}{sp:List Value}(hok:s.Ok)(hb:Row H b1 [.pointer (some ⟨bf,0,none⟩)])(hF:uK H bf s ts lf vl bt bl cl sp)(hlt:ts.length=s.bL.length):
  ItA Tryz.prog 274 [.pointer (some ⟨b1,0,none⟩)] H (dj s.bY ts):=by
 intro l II Ix hmI hmX hy H0 σb0 σf w hle hI0 hs
 have hb0:cellAt H0 b1 0=some (.pointer (some ⟨bf,0,none⟩)):=(hb.mono hle).at 0
 have hF0:=hF.mono hle
 have hsys:=hF0.f.cells 0 [I s.many,vl]
 have hlen:s.bY.length=ts.length:=by simp [bI.bY,ed,hlt]
 refine Cl.o Tryz.func274 Tryz.ntmps274 ag2 ?_
 refine .ai ?_
 refine .bx hs fun b2 w hs=>?_
 refine .nil (.ai (.y hs (zld qG) (.z znc (.z (zfa fh) ?_))))
 refine .q hs (bK (vs:=[I s.many,vl]) rfl bg aE hsys) ?_
 refine .o (.call Tryz.call269 rfl (jA (s:=s) hs hok ⟨vl,rfl,hF0.l⟩) ?_);rintro _ w ⟨H1,b8,hle1,rfl,hit,hs⟩
 refine .nil (.block ?_)
 refine .rangeFunc (gf:=295) (cap:=[.pointer (some ⟨b8,0,none⟩)]) (xs:=s.bY.map fun x:Arc=>[Value.agg x.v.toArray]) (σb:= .blk b2 [.func (.yield l) #[] #[]]::σb0) (σf:=σf) hs trivial rfl hit Tryz.call295 bV rfl
  (I:=fun k H' σb=>∃σo,σb= .blk b2 [.func (.yield l) #[] #[]]::σo∧HLe H0 H'∧II (Aj s.bY ts k) H' σo)
  (Ix:=fun c H' σb=>c= .ret∧∃σo,σb= .blk b2 [.func (.yield l) #[] #[]]::σo∧HLe H0 H'∧Ix H' σo)
  (fun k _ _ σ g1 ⟨σo,g2,g3,g4⟩=>⟨σo,g2,g3.trans g1,hmI _ _ _ _ g1 g4⟩) (fun c _ _ σ g1 ⟨g0,σo,g2,g3,g4⟩=>⟨g0,σo,g2,g3.trans g1,hmX _ _ _ g1 g4⟩)
  ⟨σb0,rfl,hle1,by rw [Cr];exact hmI _ _ _ _ hle1 hI0⟩ ?_ ?_ ?_
 ·rintro l2 k hk H2 σb2 σf2 w hle2 ⟨σo,rfl,hle0,hIk⟩ hs ⟨rr,hrr⟩
  obtain ⟨x,hx⟩:=nth (l:=s.bY) (by simpa using hk)
  obtain ⟨c1,c2,c3,c4,c5,c6⟩:=hok.bY.2 x (List.mem_of_getElem? hx)
  have hxk:(s.bY.map fun x=>[Value.agg x.v.toArray])[k]=[.agg x.v.toArray]:=by rw [List.getElem_map];rw [List.getElem?_eq_some_iff] at hx;obtain ⟨h1,h2⟩:=hx;rw [h2]
  rw [hxk]
  have hkt:k<ts.length:=by rw [←hlen];simpa using hk
  have hxl:x.l=(k:Int):=qu hx
  obtain ⟨r1,r2,r3⟩:=Ca (ts:=ts) hx hkt
  refine .region ?_
  refine .o (.alloc hs dx rfl fun b3 w hs=>?_)
  refine .o (.aI (vs:=x.v) hs rfl rfl aD fun w hs=>?_)
  refine .nil ?_
  refine nT ?_
  refine ⟨H2,.blk b3 x.v:: .blk b2 [.func (.yield l) #[] #[]]::σo,HLe.refl _,hs,?_⟩;rintro w σf2 - hs
  refine .block (.seq (.ai ?_))
  refine .y hs (zld Tryz.isAgg307) ?_
  refine .q hs (jZ (vs:=x.v) rfl fR aD) ?_
  have hyd:=hy (Aj s.bY ts k) (by simpa using (List.getElem?_eq_some_iff.1 r1).1) H2 σo (.blk b3 x.v:: .blk b2 [.func (.yield l) #[] #[]]::σf2) w (hle.trans hle0) hIk (St.deep (σ1:=σo) (St.deep (σ1:= .blk b3 x.v::σo) (hs.perm (.swap _ _ _))))
  rw [CD r1] at hyd
  refine .o (.yield (vs:=[.agg x.v.toArray]) rfl rfl hyd ?_);rintro v12 w ⟨H3,σ3,hle3,hs,g3⟩
  obtain ⟨bb,rfl,gT,gF⟩:=mC g3
  replace hs:St H3 w (.blk b3 x.v:: .blk b2 [.func (.yield l) #[] #[]]::(σ3++σf2)):=(St.shallow (σ1:= .blk b3 x.v::σ3) (St.shallow (σ1:=σ3) hs)).perm (.swap _ _ _)
  refine .z gy (.nil ?_)
  refine (.cond rfl (fun hc13=>?_) (fun hc13=>?_))
  ·refine .ret (rT (rB (?_)))
   exact ⟨H3,.blk b2 [.func (.yield l) #[] #[]]::σ3,hle3,hs.tail,rfl,σ3,rfl,hle0.trans hle3,gF (by simpa using hc13)⟩
  ·refine .skip ?_
   refine nT ?_
   refine .seq (.draw mix rfl hs fun w hs=>?_)
   have hb3:cellAt H3 b1 0=some (.pointer (some ⟨bf,0,none⟩)):=cellAt.mono hb0 (hle0.trans hle3)
   have hf3:cellAt H3 bf 2=some (.slice (some ⟨bt,0,none⟩) ts.length ts.length):=((hF0.mono (hle0.trans hle3)).f).at 2
   have ht3:cellAt H3 bt k=some (I (gi ts k)):=((hF0.mono (hle0.trans hle3)).t).at k (iJ hkt)
   have hI3:=gT (by simpa using hc13)
   refine .r (i:=0) hs rfl aq .none (aR rfl qG hb3) ?_
   refine .z 1 rfl znc ?_;refine .z 2 rfl (zfa gg) ?_;refine .y 3 rfl hs an ?_;refine .z 4 rfl (zfa dp) ?_;refine .y 5 rfl hs af ?_
   refine .z 6 rfl (ke (k:=k) rfl rfl ae aj hxl hkt) ?_
   refine .r (i:=7) hs rfl aq .none (aR rfl af ht3) ?_
   refine .z 8 rfl qH ?_;refine .z 9 rfl zm ?_
   refine .jM (t':=23) rfl (fun hb23=>?_) (fun hb23=>?_)
   ·refine .y 10 rfl hs Tryz.isAgg307 ?_
    refine .z 11 rfl (zfa cN) ?_;refine .y 12 rfl hs af ?_;refine .z 13 rfl (zfa cH) ?_;refine .y 14 rfl hs af ?_;refine .z 15 rfl (zfa eA) ?_;refine .y 16 rfl hs af ?_;refine .z 17 rfl DS ?_;refine .z 18 rfl (zfa dp) ?_;refine .y 19 rfl hs af ?_;refine .z 20 rfl (zbd [_,_,_,_] oq) ?_
    refine .E 21 hs ?_
    obtain ⟨r4,r5⟩:=r2 hb23
    have hyd:=hy (Aj s.bY ts k+1) (by simpa using (List.getElem?_eq_some_iff.1 r4).1) H3 σ3 (.blk b3 x.v:: .blk b2 [.func (.yield l) #[] #[]]::σf2) w (hle.trans (hle0.trans hle3)) hI3 (St.deep (σ1:=σ3) (St.deep (σ1:= .blk b3 x.v::σ3) (hs.perm (.swap _ _ _))))
    rw [CD r4] at hyd
    refine .yield (vs:=[.agg x.back.v.toArray]) rfl rfl hyd ?_;rintro v35 w ⟨H4,σ4,hle4,hs,g4⟩
    obtain ⟨bb4,rfl,gT4,gF4⟩:=mC g4
    replace hs:St H4 w (.blk b3 x.v:: .blk b2 [.func (.yield l) #[] #[]]::(σ4++σf2)):=(St.shallow (σ1:= .blk b3 x.v::σ4) (St.shallow (σ1:=σ4) hs)).perm (.swap _ _ _)
    refine .go ?_
    refine .z 22 rfl gy ?_;refine .z 23 rfl zpT ?_;refine .D hs ?_
    refine (.cond rfl (fun hc37=>?_) (fun hc37=>?_))
    ·refine .ret (rB (?_))
     exact ⟨H4,.blk b2 [.func (.yield l) #[] #[]]::σ4,hle3.trans hle4,hs.tail,rfl,σ4,rfl,hle0.trans (hle3.trans hle4),gF4 (by simpa using hc37)⟩
    ·refine .skip ?_
     refine nB ?_
     exact ⟨H4,.blk b2 [.func (.yield l) #[] #[]]::σ4,hle3.trans hle4,hs.tail,σ4,rfl,hle0.trans (hle3.trans hle4),by rw [r5];exact gT4 (by simpa using hc37)⟩
   ·refine .qF (i:=10) rfl aq rfl rfl ?_
    refine .qF (i:=11) rfl aq rfl rfl ?_
    refine .qF (i:=12) rfl aq rfl rfl ?_
    refine .qF (i:=13) rfl aq rfl rfl ?_
    refine .qF (i:=14) rfl aq rfl rfl ?_
    refine .qF (i:=15) rfl aq rfl rfl ?_
    refine .qF (i:=16) rfl aq rfl rfl ?_
    refine .qF (i:=17) rfl aq rfl rfl ?_
    refine .qF (i:=18) rfl aq rfl rfl ?_
    refine .qF (i:=19) rfl aq rfl rfl ?_
    refine .qF (i:=20) rfl aq rfl rfl ?_
    refine .qF (i:=21) rfl aq rfl rfl ?_
    refine .qF (i:=22) rfl aq rfl rfl ?_
    refine .z 23 rfl zpF ?_;refine .D hs ?_
    refine (.cF ?_)
    refine .skip ?_
    refine nB ?_
    exact ⟨H3,.blk b2 [.func (.yield l) #[] #[]]::σ3,hle3,hs.tail,σ3,rfl,hle0.trans hle3,by rw [r3 hb23];exact hI3⟩
 ·rintro D H2 σb2 w hle2 ⟨σo,rfl,hle0,hIk⟩ hs
  refine nB ?_
  exact Fin.I0 [D] [] hs.Aa fun w hs=>⟨_,results0 Tryz.results274,H2,σo,hle0,hs,.inl (by simpa [Ey hlen] using hIk)⟩
 ·rintro D c H2 σb2 w hle2 ⟨rfl,σo,rfl,hle0,hx⟩ hs
  exact .ret (rB (Fin.ia [D] [] hs.Aa fun w hs=>⟨_,results0 Tryz.results274,H2,σo,hle0,hs,.inr hx⟩))
theorem nQ{bf bt bl cl:Nat}{s:bI}{ts lf:List Int}{vl:Value}{sp:List Value}(hs:St H w σ)(hok:s.Ok)(hF:uK H bf s ts lf vl bt bl cl sp)(hlt:ts.length=s.bL.length):
  Cl Tryz.prog 226 [.pointer (some ⟨bf,0,none⟩)] w fun v w'=>∃H1 b,HLe H H1∧v= .func (.func 274) #[] #[.pointer (some ⟨b,0,none⟩)]∧ItA Tryz.prog 274 [.pointer (some ⟨b,0,none⟩)] H1 (dj s.bY ts)∧St H1 w' σ:=by
 refine Cl.o Tryz.func226 Tryz.ntmps226 ag1 ?_
 refine .ai ?_
 refine .bx hs fun b1 w hs=>?_
 refine .z zg (.nil (.ai ?_))
 refine .q hs (cJ (f:=[]) (c:=[_]) rfl rfl) ?_
 refine .z zg (.nil ?_)
 refine .ret (Fin.bw Tryz.results226 rfl ?_)
 obtain ⟨H1,g1,g2,hs⟩:=hs.cg .here
 exact ⟨H1,b1,g1,rfl,my hok g2 (hF.mono g1) hlt,hs⟩
theorem pb{bf bt bl cl to:Nat}{s:bI}{ts lf:List Int}{vl:Value}{sp:List Value}(hs:St H w σ)(hok:s.Ok)(hF:uK H bf s ts lf vl bt bl cl sp)(hlt:ts.length=s.bL.length)(hll:lf.length=s.n)
  (hD:∃p,ew (dj s.bY ts) p) (hto:to<s.n) (hpos:0<gi lf to):
  Cl Tryz.prog 272 [.pointer (some ⟨bf,0,none⟩),I to] w fun v w'=>∃H1 p en,HLe H H1∧bU 4 v (iL p) en∧St H1 w' (en::σ)∧I2 s.n s.bY ts lf p to:=by
 obtain ⟨N,hN⟩:=Int.eq_ofNat_of_zero_le hok.m0
 have hN1:=hok.m1
 have hn:s.n=N+1:=by simp [bI.n,hN]
 have hoka:=hok.bY
 have hlen:s.bY.length=ts.length:=by simp [bI.bY,ed,hlt]
 rw [hn] at hoka hll hto ⊢
 obtain ⟨D,hg⟩:=Ab ak ak hoka hlen hD
 have hf0:cellAt H bf 0=some (I (N:Int)):=by have:=hF.f.at 0 (v:=I s.many);rwa [hN] at this
 have hf3:cellAt H bf 3=some (.slice (some ⟨bl,0,none⟩) lf.length cl):=hF.f.at 3
 refine Cl.o Tryz.func272 Tryz.ntmps272 ag2 ?_
 refine .ai ?_
 refine .bx hs fun b2 w hs=>?_
 refine .z zg (.nil (.ai ?_))
 refine .o (.buildSlice (cells:=[_]) hs cA rfl rfl fun b13 w hs=>?_)
 refine .y hs (zld qG) (.z znc (.z (zfa fh) (.z (zfa bM) (.y hs (zld af) (.z cf ?_)))))
 refine .o (.call Tryz.call296 rfl (qP (z:=far) (c:=N+1) hs .here ak ak) ?_);rintro _ w ⟨bc,rfl,hs⟩
 refine .o (.alloc hs ef rfl fun b5 w hs=>?_)
 refine .o (.store hs rfl rfl aA fun w hs=>?_)
 refine .nil (.ai (.y hs (zld qG) (.z znc (.z (zfa fh) (.z (zfa bM) (.y hs (zld af) (.z cf ?_)))))))
 refine .o (.EN (N+1) hs rfl rfl au zX rfl aD dx ak fun b27 w hs=>?_)
 refine .o (.alloc hs Tryz.zeroValue267 rfl fun b6 w hs=>?_)
 refine .o (.store hs rfl rfl uO fun w hs=>?_)
 refine .nil (.seq (.ai (.y hs (zld qG) (.z znc (.z (zfa dq) (.y hs (zld an) (.z (cZ ae) (.z zm (.nil ?_)))))))))
 refine .for (N:=lf.length) (J:=fun k fr w=>fr=[(31,.slice (some ⟨bl,0,none⟩) lf.length cl),(5,.pointer (some ⟨b5,0,none⟩)),(6,.pointer (some ⟨b6,0,none⟩)),(2,.pointer (some ⟨b2,0,none⟩)),(1,I to)]∧∃st,tX (N+1) lf k st∧St H w (.blk b6 [.slice (some ⟨b27,0,none⟩) (N+1) (N+1)]:: .blk b27 (iL st.by_):: .blk b5 [.slice (some ⟨bc,0,none⟩) (N+1) (N+1)]:: .blk bc (Is st.cost):: .blk b2 [.pointer (some ⟨bf,0,none⟩)]::σ)) ak ?_ ?_ ?_
 ·exact .mk ⟨rfl,_,.start _ _,hs.sb⟩
 ·rintro k fr w hk ⟨rfl,st,hI,hs⟩
  have hck:cellAt H bl k=some (I (gi lf k)):=hF.d.at k (Dx (bF hk) sp)
  have hlc:=hI.lc
  have hlb:=hI.lb
  have hkb:k<st.by_.length:=by omega
  refine .block (.ai (.z zm ?_))
  first|(refine .ixv hs ae aj ?_;intro b36 o36 hc36)|refine .z (zix ae aj) ?_
  refine .q hs (aR rfl af hck) ?_
  refine .z zg (.z zg (.nil (.ai (.z zm (.z iM (.nil ?_))))))
  refine (.bT rfl (fun hc39=>?_) (fun hc39=>?_))
  ·refine .ai (.y hs (zld an) (.z zm ?_))
   first|(refine .ixv hs ae aj ?_;intro b42 o42 hc42)|refine .z (zix ae aj) ?_
   refine .o (.store hs rfl rfl aj fun w hs=>?_)
   refine .nil (.region (.y hs (zld eD) (.z zm ?_)))
   first|(refine .ixw hs au aD ?_;intro b45 o45 hc45)|refine .z (AV au aD) ?_
   refine .z (zfa dp) ?_
   refine .o (.store hs rfl rfl aj ?_ e7 (AM hkb ak) (yP hkb _));intro w hs
   refine .nil ?_
   refine nB (nT ?_)
   exact .mk ⟨rfl,_,hI.take ak hc39,hs⟩
  ·refine .skip ?_
   refine nB (nT ?_)
   exact .mk ⟨rfl,_,hI.skip hc39,hs⟩
 ·rintro fr w ⟨rfl,st0,hI0,hs⟩
  rw [hll] at hI0
  have hW0:=hI0.inv hg
  refine nT ?_
  refine .seq (.ai ?_)
  refine .o (.alloc hs Tryz.zeroValue4 rfl fun b9 w hs=>?_)
  refine .o (.store hs rfl rfl ui fun w hs=>?_)
  refine .nil (.block ?_)
  refine .loop (fun p:Nat×List Nat×bB×BS×Bool=>⟨141,marks p.2.1,[(9,.pointer (some ⟨p.1,0,none⟩)),(5,.pointer (some ⟨b5,0,none⟩)),(6,.pointer (some ⟨b6,0,none⟩)),(2,.pointer (some ⟨b2,0,none⟩)),(1,I to)]⟩)
   (fun p w=>HLe H p.2.2.1∧(∃j,sY (N+1) (dj s.bY ts) (fun v=>gi lf v<0) D j p.2.2.2.2 p.2.2.2.1∧(p.2.2.2.2=false→j=(dj s.bY ts).length))∧
    St p.2.2.1 w (.blk p.1 [.bool p.2.2.2.2]:: .blk b6 [.slice (some ⟨b27,0,none⟩) (N+1) (N+1)]:: .blk b27 (iL p.2.2.2.1.by_):: .blk b5 [.slice (some ⟨bc,0,none⟩) (N+1) (N+1)]:: .blk bc (Is p.2.2.2.1.cost):: .blk b2 [.pointer (some ⟨bf,0,none⟩)]::(mes p.2.1++σ)))
   (fun p=>2*WM (N+1) D p.2.2.2.1+(if p.2.2.2.2=true then 1 else 0)) (b9,[],H,st0,true) bD ⟨HLe.refl _,⟨0,hW0,fun h=>by cases h⟩,hs⟩ ?_
  rintro ⟨b9,Ds,H1,st,ag⟩ w ⟨hle1,⟨j,hW,hj⟩,hs⟩
  dsimp only at hle1 hW hj hs ⊢
  have hlc:=hW.lc
  have hlb:=hW.lb
  refine .seq (.ai (.y hs (zld Tryz.isAgg4) (.nil ?_)))
  refine (.cond rfl (fun hc48=>?_) (fun hc48=>?_))
  ·refine .skip ?_
   refine nT ?_
   refine .seq (.block (.ai ?_))
   subst hc48
   refine .o (.store hs rfl rfl ui fun w hs=>?_)
   refine .nil (.ai (.y hs (zld qG) ?_))
   refine .o (.call Tryz.call226 rfl (nQ hs hok (hF.mono hle1) hlt) ?_);rintro _ w ⟨H2,b50,hle2,rfl,hit,hs⟩
   refine .nil (.block ?_)
   refine .rangeFunc (gf:=274) (cap:=[.pointer (some ⟨b50,0,none⟩)]) (xs:=(dj s.bY ts).map fun x:Arc=>[Value.agg x.v.toArray])
    (σb:=[.blk b9 [.bool false],.blk b6 [.slice (some ⟨b27,0,none⟩) (N+1) (N+1)],.blk b27 (iL st.by_),.blk b5 [.slice (some ⟨bc,0,none⟩) (N+1) (N+1)],.blk bc (Is st.cost),.blk b2 [.pointer (some ⟨bf,0,none⟩)]]) (σf:=mes Ds++σ) hs trivial rfl hit Tryz.call274 bV rfl
    (I:=fun k H' σb=>HLe H2 H'∧∃st' ag,σb=[.blk b9 [.bool ag],.blk b6 [.slice (some ⟨b27,0,none⟩) (N+1) (N+1)],.blk b27 (iL st'.by_),.blk b5 [.slice (some ⟨bc,0,none⟩) (N+1) (N+1)],.blk bc (Is st'.cost),.blk b2 [.pointer (some ⟨bf,0,none⟩)]]∧
     sY (N+1) (dj s.bY ts) (fun v=>gi lf v<0) D k ag st'∧WM (N+1) D st'≤WM (N+1) D st∧(ag=true→WM (N+1) D st'<WM (N+1) D st)) (Ix:=fun _ _ _=>False)
    (by rintro k _ _ σ g1 ⟨g2,g3⟩;exact ⟨g2.trans g1,g3⟩) (fun _ _ _ _ _ h=>h) ⟨HLe.refl _,st,false,rfl,hW.next,Nat.le_refl _,fun h=>by cases h⟩ ?_ ?_ (fun D c H' σb w _ h _=>h.elim)
   ·rintro l k hk H3 σb3 σf3 w hle3 ⟨hle23,st',ag,rfl,hW',hm1,hm2⟩ hs ⟨rr,hrr⟩
    obtain ⟨x,hx⟩:=nth (l:=dj s.bY ts) (by simpa using hk)
    obtain ⟨c1,c2,c3,c4,c5,c6⟩:=hg.ok x (List.mem_of_getElem? hx)
    rw [CD hx]
    have hlc':=hW'.lc
    have hlb':=hW'.lb
    have lo1:=hW'.lo x.f c1
    have lo2:=hg.d1 x.f c1
    have hx3:cellAt H3 bl x.t=some (I (gi lf x.t)):=((hF.mono (hle1.trans (hle2.trans hle3))).d).at x.t (Dx (bF ak) sp)
    have hf33:cellAt H3 bf 3=some (.slice (some ⟨bl,0,none⟩) lf.length cl):=cellAt.mono hf3 (hle1.trans (hle2.trans hle3))
    refine .region ?_
    refine .o (.alloc hs dx rfl fun b10 w hs=>?_)
    refine .o (.aI (vs:=x.v) hs rfl rfl aD fun w hs=>?_)
    refine .nil ?_
    refine nT ?_
    refine ⟨H3,[.blk b10 x.v,.blk b9 [.bool ag],.blk b6 [.slice (some ⟨b27,0,none⟩) (N+1) (N+1)],.blk b27 (iL st'.by_),.blk b5 [.slice (some ⟨bc,0,none⟩) (N+1) (N+1)],.blk bc (Is st'.cost),.blk b2 [.pointer (some ⟨bf,0,none⟩)]],HLe.refl _,hs,?_⟩;rintro w σf4 - hs
    refine .block ?_
    refine .seq (.draw mix rfl hs fun w hs=>?_)
    refine .y 0 rfl hs an ?_;refine .z 1 rfl (zfa cH) ?_;refine .y 2 rfl hs af ?_
    first|(refine .ixv 3 rfl hs ae aj ?_;intro b55 o55 hc55)|refine .z 3 rfl (zix ae aj) ?_
    refine .y 4 rfl hs af ?_;refine .z 5 rfl iM ?_;refine .z 6 rfl zm ?_
    refine .jM (t':=58) rfl (fun hb58=>?_) (fun hb58=>?_)
    ·refine .y 7 rfl hs an ?_;refine .z 8 rfl (zfa cH) ?_;refine .y 9 rfl hs af ?_
     first|(refine .ixv 10 rfl hs ae aj ?_;intro b62 o62 hc62)|refine .z 10 rfl (zix ae aj) ?_
     refine .y 11 rfl hs af ?_;refine .z 12 rfl (zfa eA) ?_;refine .y 13 rfl hs af ?_;refine .z 14 rfl cf ?_;refine .y 15 rfl hs an ?_;refine .z 16 rfl (zfa cN) ?_;refine .y 17 rfl hs af ?_
     first|(refine .ixv 18 rfl hs ae aj ?_;intro b70 o70 hc70)|refine .z 18 rfl (zix ae aj) ?_
     refine .y 19 rfl hs af ?_;refine .z 20 rfl iM ?_;refine .z 21 rfl zpT ?_;refine .z 22 rfl zm ?_
     refine .jM (t':=74) rfl (fun hb74=>?_) (fun hb74=>?_)
     ·refine .y 23 rfl hs qG ?_;refine .z 24 rfl znc ?_;refine .z 25 rfl (zfa dq) ?_;refine .y 26 rfl hs an ?_;refine .z 27 rfl (zfa cN) ?_;refine .y 28 rfl hs af ?_
      first|(refine .ixv 29 rfl hs ae aj ?_;intro b81 o81 hc81)|refine .z 29 rfl (zix ae aj) ?_
      refine .y 30 rfl hs af ?_;refine .z 31 rfl y7 ?_;refine .z 32 rfl zm ?_
      refine .jM (t':=84) rfl (fun hb84=>?_) (fun hb84=>?_)
      ·refine .qF (i:=33) rfl aq rfl rfl ?_
       refine .qF (i:=34) rfl aq rfl rfl ?_
       refine .qF (i:=35) rfl aq rfl rfl ?_
       refine .qF (i:=36) rfl aq rfl rfl ?_
       refine .qF (i:=37) rfl aq rfl rfl ?_
       refine .qF (i:=38) rfl aq rfl rfl ?_
       refine .qF (i:=39) rfl aq rfl rfl ?_
       refine .qF (i:=40) rfl aq rfl rfl ?_
       refine .qF (i:=41) rfl aq rfl rfl ?_
       refine .z 42 rfl zpT ?_;refine .z 43 rfl zpT ?_;refine .D hs ?_
       refine (.cT ?_)
       refine .draw mix rfl hs fun w hs=>?_
       refine .y 0 rfl hs an ?_;refine .z 1 rfl (zfa cN) ?_;refine .y 2 rfl hs af ?_;refine .y 3 rfl hs eD ?_;refine .z 4 rfl (zfa cN) ?_;refine .y 5 rfl hs af ?_;refine .y 6 rfl hs an ?_;refine .z 7 rfl (zfa cH) ?_;refine .y 8 rfl hs af ?_
       first|(refine .ixv 9 rfl hs ae aj ?_;intro b105 o105 hc105)|refine .z 9 rfl (zix ae aj) ?_
       refine .y 10 rfl hs af ?_;refine .z 11 rfl (zfa eA) ?_;refine .y 12 rfl hs af ?_;refine .z 13 rfl cf ?_
       refine .Bh (i:=14) (vs:=x.v) hs rfl aq .none rfl fR aD ?_
       first|(refine .ixv 15 rfl hs ae aj ?_;intro b111 o111 hc111)|refine .z 15 rfl (zix ae aj) ?_
       refine .E 16 hs ?_
       refine .store hs rfl rfl aj ?_;intro w hs
       refine .go ?_
       first|(refine .ixw 17 rfl hs au aD ?_;intro b112 o112 hc112)|refine .z 17 rfl (AV au aD) ?_
       refine .E 18 hs ?_
       refine .aI (vs:=x.v) hs rfl rfl aD ?_;intro w hs
       refine .go ?_
       refine .E 19 hs ?_
       refine .store hs rfl rfl ui ?_;intro w hs
       refine .go ?_
       refine .D hs ?_
       refine nB ?_
       have:=hW'.less hg hx hb58 hb74
       exact ⟨H3,_,HLe.refl _,hs.tail,hle23,st'.rlx x,true,rfl,hW'.xJ hg hx hb58 hb74,ak,fun _=>by omega⟩
      ·refine .y 33 rfl hs an ?_;refine .z 34 rfl (zfa cH) ?_;refine .y 35 rfl hs af ?_
       first|(refine .ixv 36 rfl hs ae aj ?_;intro b88 o88 hc88)|refine .z 36 rfl (zix ae aj) ?_
       refine .y 37 rfl hs af ?_;refine .z 38 rfl (zfa eA) ?_;refine .y 39 rfl hs af ?_;refine .z 40 rfl cf ?_;refine .z 41 rfl iM ?_;refine .z 42 rfl zpF ?_;refine .z 43 rfl zpT ?_;refine .D hs ?_
       refine (.bT rfl (fun hc95=>?_) (fun hc95=>?_))
       ·refine .draw mix rfl hs fun w hs=>?_
        refine .y 0 rfl hs an ?_;refine .z 1 rfl (zfa cN) ?_;refine .y 2 rfl hs af ?_;refine .y 3 rfl hs eD ?_;refine .z 4 rfl (zfa cN) ?_;refine .y 5 rfl hs af ?_;refine .y 6 rfl hs an ?_;refine .z 7 rfl (zfa cH) ?_;refine .y 8 rfl hs af ?_
        first|(refine .ixv 9 rfl hs ae aj ?_;intro b105 o105 hc105)|refine .z 9 rfl (zix ae aj) ?_
        refine .y 10 rfl hs af ?_;refine .z 11 rfl (zfa eA) ?_;refine .y 12 rfl hs af ?_;refine .z 13 rfl cf ?_
        refine .Bh (i:=14) (vs:=x.v) hs rfl aq .none rfl fR aD ?_
        first|(refine .ixv 15 rfl hs ae aj ?_;intro b111 o111 hc111)|refine .z 15 rfl (zix ae aj) ?_
        refine .E 16 hs ?_
        refine .store hs rfl rfl aj ?_;intro w hs
        refine .go ?_
        first|(refine .ixw 17 rfl hs au aD ?_;intro b112 o112 hc112)|refine .z 17 rfl (AV au aD) ?_
        refine .E 18 hs ?_
        refine .aI (vs:=x.v) hs rfl rfl aD ?_;intro w hs
        refine .go ?_
        refine .E 19 hs ?_
        refine .store hs rfl rfl ui ?_;intro w hs
        refine .go ?_
        refine .D hs ?_
        refine nB ?_
        have:=hW'.less hg hx hb58 hb74
        exact ⟨H3,_,HLe.refl _,hs.tail,hle23,st'.rlx x,true,rfl,hW'.xJ hg hx hb58 hb74,ak,fun _=>by omega⟩
       ·refine .skip ?_
        refine nB ?_
        have:=hW'.src x.t c2 ak
        omega
     ·refine .qF (i:=23) rfl aq rfl rfl ?_
      refine .qF (i:=24) rfl aq rfl rfl ?_
      refine .qF (i:=25) rfl aq rfl rfl ?_
      refine .qF (i:=26) rfl aq rfl rfl ?_
      refine .qF (i:=27) rfl aq rfl rfl ?_
      refine .qF (i:=28) rfl aq rfl rfl ?_
      refine .qF (i:=29) rfl aq rfl rfl ?_
      refine .qF (i:=30) rfl aq rfl rfl ?_
      refine .qF (i:=31) rfl aq rfl rfl ?_
      refine .qF (i:=32) rfl aq rfl rfl ?_
      refine .qF (i:=33) rfl aq rfl rfl ?_
      refine .qF (i:=34) rfl aq rfl rfl ?_
      refine .qF (i:=35) rfl aq rfl rfl ?_
      refine .qF (i:=36) rfl aq rfl rfl ?_
      refine .qF (i:=37) rfl aq rfl rfl ?_
      refine .qF (i:=38) rfl aq rfl rfl ?_
      refine .qF (i:=39) rfl aq rfl rfl ?_
      refine .qF (i:=40) rfl aq rfl rfl ?_
      refine .qF (i:=41) rfl aq rfl rfl ?_
      refine .qF (i:=42) rfl aq rfl rfl ?_
      refine .z 43 rfl zpF ?_;refine .D hs ?_
      refine (.cF ?_)
      refine .skip ?_
      refine nB ?_
      exact ⟨H3,_,HLe.refl _,hs.tail,hle23,st',ag,rfl,hW'.skip hx (fun h=>hb74 h.2),hm1,hm2⟩
    ·refine .qF (i:=7) rfl aq rfl rfl ?_
     refine .qF (i:=8) rfl aq rfl rfl ?_
     refine .qF (i:=9) rfl aq rfl rfl ?_
     refine .qF (i:=10) rfl aq rfl rfl ?_
     refine .qF (i:=11) rfl aq rfl rfl ?_
     refine .qF (i:=12) rfl aq rfl rfl ?_
     refine .qF (i:=13) rfl aq rfl rfl ?_
     refine .qF (i:=14) rfl aq rfl rfl ?_
     refine .qF (i:=15) rfl aq rfl rfl ?_
     refine .qF (i:=16) rfl aq rfl rfl ?_
     refine .qF (i:=17) rfl aq rfl rfl ?_
     refine .qF (i:=18) rfl aq rfl rfl ?_
     refine .qF (i:=19) rfl aq rfl rfl ?_
     refine .qF (i:=20) rfl aq rfl rfl ?_
     refine .z 21 rfl zpF ?_;refine .z 22 rfl zm ?_
     refine .qF (i:=23) rfl aq rfl rfl ?_
     refine .qF (i:=24) rfl aq rfl rfl ?_
     refine .qF (i:=25) rfl aq rfl rfl ?_
     refine .qF (i:=26) rfl aq rfl rfl ?_
     refine .qF (i:=27) rfl aq rfl rfl ?_
     refine .qF (i:=28) rfl aq rfl rfl ?_
     refine .qF (i:=29) rfl aq rfl rfl ?_
     refine .qF (i:=30) rfl aq rfl rfl ?_
     refine .qF (i:=31) rfl aq rfl rfl ?_
     refine .qF (i:=32) rfl aq rfl rfl ?_
     refine .qF (i:=33) rfl aq rfl rfl ?_
     refine .qF (i:=34) rfl aq rfl rfl ?_
     refine .qF (i:=35) rfl aq rfl rfl ?_
     refine .qF (i:=36) rfl aq rfl rfl ?_
     refine .qF (i:=37) rfl aq rfl rfl ?_
     refine .qF (i:=38) rfl aq rfl rfl ?_
     refine .qF (i:=39) rfl aq rfl rfl ?_
     refine .qF (i:=40) rfl aq rfl rfl ?_
     refine .qF (i:=41) rfl aq rfl rfl ?_
     refine .qF (i:=42) rfl aq rfl rfl ?_
     refine .z 43 rfl zpF ?_;refine .D hs ?_
     refine (.cF ?_)
     refine .skip ?_
     refine nB ?_
     exact ⟨H3,_,HLe.refl _,hs.tail,hle23,st',ag,rfl,hW'.skip hx (fun h=>hb58 h.1),hm1,hm2⟩
   ·rintro D3 H3 σb3 w hle3 ⟨hle23,st',ag,rfl,hW',hm1,hm2⟩ hs
    replace hs:St H3 w (.blk b9 [.bool ag]:: .blk b6 [.slice (some ⟨b27,0,none⟩) (N+1) (N+1)]:: .blk b27 (iL st'.by_):: .blk b5 [.slice (some ⟨bc,0,none⟩) (N+1) (N+1)]:: .blk bc (Is st'.cost):: .blk b2 [.pointer (some ⟨bf,0,none⟩)]::(mes (D3::Ds)++σ)):=St.deep (σ1:=[_,_,_,_,_,_]) hs
    rw [List.length_map] at hW'
    refine nB (nB (nT ?_))
    refine .ai (.y hs (zld Tryz.isAgg4) (.nil (.region ?_)))
    refine .o (.alloc hs Tryz.zeroValue4 rfl fun b9 w hs=>?_)
    refine .o (.store hs rfl rfl ui fun w hs=>?_)
    refine .nil ?_
    refine nT ?_
    exact ⟨(b9,D3::Ds,H3,st',ag),bD,⟨hle1.trans (hle2.trans hle3),⟨_,hW',fun _=>rfl⟩,hs.sb⟩,by
      dsimp only
      cases ag with
      |false=>simp;omega
      |true=>have:=hm2 rfl;simp;omega⟩
  ·refine .exit ?_
   refine xT (xT (xB (nT ?_)))
   refine .seq (.ai ?_)
   subst hc48
   obtain rfl:=hj rfl
   refine .y hs (zld an) (.z zm ?_)
   first|(refine .ixv hs ae aj ?_;intro b116 o116 hc116)|refine .z (zix ae aj) ?_
   refine .y hs (zld af) (.z jU (.nil ?_))
   refine (.bT rfl (fun hc118=>?_) (fun hc118=>?_))
   ·refine .ai (.z zg (.nil ?_))
    refine .ret (rT (?_))
    refine Fin.ia Ds [_,_,_,_,_,_] hs fun w hs=>⟨_,results1 Tryz.results272 rfl,H1,[],.nul,hle1,.nil 4 none,(hs.sb).nul,hW.none hg hc118⟩
   ·refine .skip ?_
    refine nT ?_
    refine .ai (.z zg (.nil (.seq (.ai (.z zm (.z zg (.nil (.block ?_))))))))
    have hreach:gi st.cost to<far:=by have:=hW.top to hto;have e:far=1152921504606846976:=rfl;omega
    obtain ⟨kk,cc,u,hbk,hroot,hkn,hk0,hcl,hway⟩:=hW.back hg hto hreach hpos
    refine .loop (fun p:Nat×Nat×Value×Ent=>⟨141,marks Ds,[(11,p.2.2.1),(12,I p.2.1),(6,.pointer (some ⟨b6,0,none⟩))]⟩)
     (fun p w=>p.1≤kk∧(p.2.1<N+1∧gi st.cost p.2.1<far)∧bU 4 p.2.2.1 (iL (mc st.by_ to p.1)) p.2.2.2∧(∃d,fl st.by_ to p.1 d p.2.1)∧(∃d,fl st.by_ p.2.1 (kk - p.1) d u)∧
      St H1 w (p.2.2.2:: .blk b9 [.bool false]:: .blk b6 [.slice (some ⟨b27,0,none⟩) (N+1) (N+1)]:: .blk b27 (iL st.by_):: .blk b5 [.slice (some ⟨bc,0,none⟩) (N+1) (N+1)]:: .blk bc (Is st.cost):: .blk b2 [.pointer (some ⟨bf,0,none⟩)]::(mes Ds++σ)))
     (fun p=>kk - p.1) (0,to,.slice none 0 0,.nul) bD ⟨Nat.zero_le _,⟨hto,hreach⟩,.nil 4 none,⟨0,.nil⟩,⟨cc,hbk⟩,hs.nul⟩ ?_
    rintro ⟨i,v,v11,en⟩ w ⟨hik,⟨hv1,hv2⟩,hO,⟨d1,hb1⟩,⟨d2,hb2⟩,hs⟩
    dsimp only at hik hv1 hv2 hO hb1 hb2 hs ⊢
    have hvb:v<st.by_.length:=by omega
    refine .seq (.ai (.y hs (zld eD) (.z zm ?_)))
    first|(refine .ixw hs au aD ?_;intro b122 o122 hc122)|refine .z (AV au aD) ?_
    refine .z (zfa dp) ?_
    refine .q hs (fW rfl af (hv:=(qz hvb (j:=3) ak).trans rfl)) ?_
    refine .z y7 (.nil ?_)
    refine (.bT rfl (fun hc125=>?_) (fun hc125=>?_))
    ·refine .skip ?_
     refine nT ?_
     refine .seq (.block (.region (.z zm (.y hs (zld eD) (.z zm ?_)))))
     first|(refine .ixw hs au aD ?_;intro b134 o134 hc134)|refine .z (AV au aD) ?_
     refine .q hs (jZ (vs:=(ga st.by_ v).v) rfl fR aD (hv:=AS hvb)) ?_
     refine .o (.buildSlice (cells:=(ga st.by_ v).v) hs ph rfl rfl fun b136 w hs=>?_)
     refine .o (.append (ys:=(ga st.by_ v).v) hs jN rfl rfl hO (.own .here rfl rfl) (by simp [Arc.v,Value.oneCell']) (fun l h=>by rw [dk,jc] at h;omega) ?_);intro v137 en137 w hO2 hs
     refine .z zg (.nil ?_)
     refine nB (nT ?_)
     refine .region (.y hs (zld eD) (.z zm ?_))
     first|(refine .ixw hs au aD ?_;intro b128 o128 hc128)|refine .z (AV au aD) ?_
     refine .z (zfa cH) ?_
     refine .q hs (fW rfl af (hv:=(qz hvb (j:=0) ak).trans rfl)) ?_
     refine .z zg (.nil ?_)
     refine nT ?_
     obtain ⟨g1,g2⟩:=hcl v hv1 hv2 hc125
     obtain ⟨m,hm⟩:∃m,kk - i=m+1:=by
      refine ⟨kk - i - 1,?_⟩
      rcases Nat.lt_or_ge i kk with h|h
      ·omega
      ·obtain e:kk - i=0:=by omega
       rw [e] at hb2
       cases hb2
       omega
     rw [hm] at hb2
     obtain ⟨d3,hb3⟩:∃d,fl st.by_ (ga st.by_ v).f m d u:=by cases hb2 with|cons _ t=>exact ⟨_,t⟩
     rw [←DG,←AZ hb1] at hO2
     exact ⟨(i+1,(ga st.by_ v).f,v137,en137),bD,⟨by dsimp only;omega,⟨g1,g2⟩,hO2,⟨_,hb1.trans (.cons hc125 .nil)⟩,⟨d3,by rw [show kk - (i+1)=m by omega];exact hb3⟩,hs.sb⟩,by dsimp only;omega⟩
    ·refine .exit ?_
     refine xT (xT (xB (nT ?_)))
     refine .ai ?_
     obtain rfl:i=kk:=by
      rcases Nat.lt_or_ge i kk with h|h
      ·obtain ⟨m,hm⟩:∃m,kk - i=m+1:=⟨kk - i - 1,ak⟩
       rw [hm] at hb2
       cases hb2 with
       |cons hl _=>omega
      ·omega
     refine .z zm ?_
     refine .o (.call Tryz.call297 rfl (oK hs hO (by rw [jc];omega)) ?_);rintro v139 w ⟨en',hO',hs⟩
     refine .nil (.ai (.z zm (.z zg (.nil ?_))))
     refine .ret ?_
     refine Fin.ia Ds [_,_,_,_,_,_,_] hs fun w hs=>⟨_,results1 Tryz.results272 rfl,H1,_,en',hle1,hO',hs.sb,hway _ rfl⟩
theorem AQ{s:bI}{x:Arc}(hok:s.Ok)(hx:Bv s.bY x):∃(i:Nat) (l:Lim),s.bL[i]? =some l∧x.l=(i:Int)∧(l.A=(x.f:Int)↔fwd s.bY x)∧i<s.bL.length:=by
 obtain ⟨i,y,h1,h2⟩:=hx
 have hl:=qu h1
 have hlt:i<s.bL.length:=by have:=(List.getElem?_eq_some_iff.1 h1).1;simpa [bI.bY,ed] using this
 obtain ⟨l,hl2⟩:=nth hlt
 have h3:=jP hl2
 have h1':(l7 s.bL)[i]? =some y:=h1
 rw [h3] at h1'
 cases h1'
 obtain ⟨a1,a2,_⟩:=hok.arc (List.mem_of_getElem? hl2) i
 refine ⟨i,l,hl2,?_,?_,hlt⟩
 ·rcases h2 with rfl|rfl<;>rfl
 ·have hg:ga s.bY i=l.arc i:=by simp [ga,bI.bY,h3]
  have hxl:x.l.toNat=i:=by rcases h2 with rfl|rfl<;>rfl
  unfold fwd
  rw [hxl,hg,←a1]
  exact ⟨fun e=>by exact_mod_cast e,fun e=>by exact_mod_cast e⟩
theorem jm{bf:Nat}{s:bI}{vl vt vd:Value}{x:Arc}(hs:St H w σ)(hok:s.Ok)(hf:Row H bf [I s.many,vl,vt,vd])(hl:RL H vl s.bL)(hx:Bv s.bY x):
  Cl Tryz.prog 298 [.pointer (some ⟨bf,0,none⟩),.agg x.v.toArray] w fun v w'=>v= .bool (decide (fwd s.bY x))∧St H w' σ:=by
 obtain ⟨i,l,hl1,hxl,hfw,hil⟩:=AQ hok hx
 have hf1:cellAt H bf 1=some vl:=hf.at 1
 refine Cl.o Tryz.func298 Tryz.ntmps298 ag2 ?_
 refine .ai ?_
 refine .bx hs fun b3 w hs=>?_
 refine .z zg (.nil ?_)
 refine .seq (.draw mix rfl hs fun w hs=>?_)
 refine .z 0 rfl zm ?_;refine .z 1 rfl znc ?_;refine .z 2 rfl (zfa fh) ?_;refine .z 3 rfl (zfa bJ) ?_;refine .y 4 rfl hs cu ?_;refine .z 5 rfl (zfa dp) ?_;refine .y 6 rfl hs af ?_
 refine .ixX (i:=7) hs rfl aq .none hl rfl rfl aH aQ hl1 hxl ?_;intro b12 o12 hc12
 have hA:cellAt H b12 o12=some (I l.A):=hc12.get 0 rfl
 refine .z 8 rfl (zfa dC) ?_;refine .y 9 rfl hs af ?_;refine .z 10 rfl (zfa cH) ?_;refine .y 11 rfl hs af ?_;refine .z 12 rfl jU ?_;refine .z 13 rfl zg ?_;refine .D hs ?_
 refine .ret (Fin.bw Tryz.results298 rfl ?_)
 exact ⟨by simp only [decide_eq_decide.2 hfw],hs.out⟩
theorem nP{bf bt bl cl u v:Nat}{s:bI}{ts lf:List Int}{wt:Nat→Int}{vl vp:Value}{sp:List Value}{p:List Arc}(hs:St H w (.blk bt (Is ts):: .blk bl (Is lf++sp)::σ))(hok:s.Ok)
  (hf:Row H bf [I s.many,vl,.slice (some ⟨bt,0,none⟩) ts.length ts.length,.slice (some ⟨bl,0,none⟩) lf.length cl]) (hl:RL H vl s.bL) (hp:RS H 4 vp (p.map Arc.v)) (hI:xf s.n s.bY wt ts lf) (hw:GX s.bY ts lf s.n p u v) (hpn:p≠[]) (hpl:p.length<s.n):
  Cl Tryz.prog 273 [.pointer (some ⟨bf,0,none⟩),vp] w fun _ w'=>St H w' (.blk bt (Is (fq s.bY (rF s.bY ts lf p u v) ts p)):: .blk bl (Is (zx lf (rF s.bY ts lf p u v) u v)++sp)::σ):=by
 have hN1:=hok.m1
 have hn65:s.n≤65:=by simp only [bI.n];have:=hok.m0;omega
 have hnum:zU s.bY:=fun i x hx=>⟨qu hx,(hok.bY.2 x (List.mem_of_getElem? hx)).2.2.2.2.2⟩
 have hlt:=hI.lt
 have hll:=hI.ll
 obtain ⟨m0,m1,m2,m3⟩:=wB hlt.symm hnum hw
 have hsu:=hI.sg u hw.un
 have hsv:=hI.sg v hw.vn
 have hun:u<lf.length:=by rw [hll];exact hw.un
 have hvn:v<lf.length:=by rw [hll];exact hw.vn
 obtain ⟨a,cap,hvp⟩:=hp.shape
 rw [List.length_map] at hvp
 subst hvp
 have hp0:0<p.length:=List.length_pos_iff.2 hpn
 obtain ⟨x0,hx0⟩:=nth hp0
 obtain ⟨x1,hx1⟩:=nth (l:=p) (k:=p.length - 1) ak
 have hh:=hw.ch.head hx0
 have hla:=hw.ch.last hx1
 have hf2:cellAt H bf 2=some (.slice (some ⟨bt,0,none⟩) ts.length ts.length):=hf.at 2
 have hf3:cellAt H bf 3=some (.slice (some ⟨bl,0,none⟩) lf.length cl):=hf.at 3
 have hix:∀x∈p,Bv s.bY x∧x.l.toNat<ts.length∧x.l=(x.l.toNat:Int):=fun x hx=>by
  obtain ⟨g1,g2,_⟩:=lA hlt.symm hnum (hw.mem x hx)
  obtain ⟨i,l,_,g3,_⟩:=AQ hok g1
  exact ⟨g1,g2,by rw [g3];simp⟩
 simp only [FF] at hsu hsv
 have huv:v≠u:=fun e=>by have:=hw.lu;have:=hw.lv;rw [e] at*;omega
 have htt:∀i<ts.length,0≤gi ts i∧gi ts i≤3600000000000:=fun i hi=>by
  have h1:=hI.nn i ak
  have h2:=hI.tb i ak
  have h3:0≤rem s.n lf:=cz fun v _=>by omega
  simp only [FF] at h2
  omega
 have hM:rF s.bY ts lf p u v=least s.bY ts (min (-gi lf u) (gi lf v)) p:=rfl
 generalize rF s.bY ts lf p u v=M at*
 have hgv:gi (lf.set u (gi lf u+M)) v=gi lf v:=by rw [eZ hun,if_neg huv]
 refine Cl.o Tryz.func273 Tryz.ntmps273 ag2 ?_
 refine .seq (.draw mix rfl hs fun w hs=>?_)
 refine .z 0 rfl zm ?_
 refine .ixX (i:=1) hs rfl aq .none hp rfl rfl au aD hx0 rfl ?_;intro b12 o12 hc12
 have h14:cellAt H b12 (o12+0)=some (I u):=by rw [←hh];exact hc12.get 0 rfl
 refine .z 2 rfl (zfa cH) ?_;refine .y 3 rfl hs af ?_;refine .z 4 rfl zm ?_;refine .z 5 rfl zm ?_;refine .z 6 rfl (cZ au) ?_;refine .z 7 rfl gZ ?_
 refine .ixX (i:=8) hs rfl aq .none hp rfl rfl au aD hx1 ak ?_;intro b19 o19 hc19
 have h21:cellAt H b19 (o19+1)=some (I v):=by rw [←hla];exact hc19.get 1 rfl
 refine .z 9 rfl (zfa cN) ?_;refine .y 10 rfl hs af ?_;refine .z 11 rfl zg ?_;refine .z 12 rfl zg ?_;refine .D hs ?_
 refine .seq (.draw mix rfl hs fun w hs=>?_)
 refine .z 0 rfl zm ?_;refine .z 1 rfl znc ?_;refine .z 2 rfl (zfa dq) ?_;refine .y 3 rfl hs an ?_;refine .z 4 rfl zm ?_
 first|(refine .ixv 5 rfl hs ae aj ?_;intro b27 o27 hc27)|refine .z 5 rfl (zix ae aj) ?_
 refine .load (i:=6) hs rfl aq .none rfl af ?_ (hv:=eR hun sp)
 refine .z 7 rfl DS ?_;refine .z 8 rfl zm ?_;refine .z 9 rfl znc ?_;refine .z 10 rfl (zfa dq) ?_;refine .y 11 rfl hs an ?_;refine .z 12 rfl zm ?_
 first|(refine .ixv 13 rfl hs ae aj ?_;intro b35 o35 hc35)|refine .z 13 rfl (zix ae aj) ?_
 refine .load (i:=14) hs rfl aq .none rfl af ?_ (hv:=eR hvn sp)
 refine .z 15 rfl BE ?_;refine .z 16 rfl zg ?_;refine .D hs ?_
 refine .seq (.ai (.z zm (.z (cZ au) (.z zm (.nil ?_)))))
 refine .for (N:=p.length) (J:=fun k fr w=>fr=[(38,.slice a p.length cap),(6,I (least s.bY ts (min (-gi lf u) (gi lf v)) (p.take k))),(0,.pointer (some ⟨bf,0,none⟩)),(1,.slice a p.length cap),(4,I u),(5,I v)]∧St H w (.blk bt (Is ts):: .blk bl (Is lf++sp)::σ)) ak ?_ ?_ ?_
 ·exact .mk ⟨rfl,hs⟩
 ·rintro k fr w hk ⟨rfl,hs⟩
  obtain ⟨x,hx⟩:=nth hk
  obtain ⟨g1,g2,g3⟩:=hix x (List.mem_of_getElem? hx)
  refine .block (.ai ?_)
  refine .ixX hs hp rfl rfl au aD hx rfl ?_;intro b42 o42 hc42
  refine .q hs (bK (vs:=x.v) rfl fR aD hc42) ?_
  refine .o (.alloc hs dx rfl fun b8 w hs=>?_)
  refine .o (.aI (vs:=x.v) hs rfl rfl aD fun w hs=>?_)
  refine .nil (.ai (.z zm ?_))
  refine .q hs (jZ (vs:=x.v) rfl fR aD) ?_
  refine .o (.call Tryz.call298 rfl (jm hs hok hf hl g1) ?_);rintro _ w ⟨rfl,hs⟩
  refine .z gy (.nil ?_)
  refine (.cond rfl (fun hc47=>?_) (fun hc47=>?_))
  ·refine .draw mix rfl hs fun w hs=>?_
   refine .z 0 rfl zm ?_;refine .z 1 rfl zm ?_;refine .z 2 rfl znc ?_;refine .z 3 rfl (zfa gg) ?_;refine .y 4 rfl hs an ?_;refine .z 5 rfl (zfa dp) ?_;refine .y 6 rfl hs af ?_
   refine .z 7 rfl (ke (k:=x.l.toNat) rfl rfl ae aj g3 g2) ?_
   refine .y 8 rfl hs af ?_;refine .z 9 rfl BE ?_;refine .z 10 rfl zg ?_;refine .D hs ?_
   refine nB (nT ?_)
   have e:min (least s.bY ts (min (-gi lf u) (gi lf v)) (p.take k)) (gi ts x.l.toNat)=least s.bY ts (min (-gi lf u) (gi lf v)) (p.take (k+1)):=by rw [cC hx,vk,if_neg (by simpa using hc47)]
   exact .mk ⟨rfl,hs.tail⟩ (hs:= .cons rfl (.cons rfl (.cons rfl (.dA rfl e (.cons rfl (.cons rfl (.cons rfl (.cons rfl (.nil rfl rfl)))))))))
  ·refine .skip ?_
   refine nB (nT ?_)
   have e:least s.bY ts (min (-gi lf u) (gi lf v)) (p.take k)=least s.bY ts (min (-gi lf u) (gi lf v)) (p.take (k+1)):=by rw [cC hx,vk,if_pos (by simpa using hc47)]
   exact .mk ⟨rfl,hs.tail⟩ (hs:= .cons rfl (.cons rfl (.cons rfl (.dA rfl e (.cons rfl (.cons rfl (.cons rfl (.cons rfl (.nil rfl rfl)))))))))
 ·rintro fr w ⟨rfl,hs⟩
  have e6:least s.bY ts (min (-gi lf u) (gi lf v)) (List.take p.length p)=M:=by rw [List.take_length];exact hM.symm
  rw [e6]
  refine nT ?_
  refine .seq (.ai (.z zm (.z (cZ au) (.z zm (.nil ?_)))))
  refine .for (N:=p.length) (J:=fun k fr w=>fr=[(59,.slice a p.length cap),(6,I M),(0,.pointer (some ⟨bf,0,none⟩)),(1,.slice a p.length cap),(4,I u),(5,I v)]∧St H w (.blk bt (Is (fq s.bY M ts (p.take k))):: .blk bl (Is lf++sp)::σ)) ak ?_ ?_ ?_
  ·exact .mk ⟨rfl,hs⟩
  ·rintro k fr w hk ⟨rfl,hs⟩
   obtain ⟨x,hx⟩:=nth hk
   obtain ⟨g1,g2,g3⟩:=hix x (List.mem_of_getElem? hx)
   have hpl2:=lr s.bY M (p.take k) ts
   have hbd:=Co (es:=s.bY) (m:=M) (ts:=ts) (p:=p.take k) ak (by simp only [FF];omega) (by rw [List.length_take];omega) (fun y hy=>(hix y (List.mem_of_mem_take hy)).2.1) x.l.toNat
   have h9:=htt _ g2
   refine .block (.ai ?_)
   refine .ixX hs hp rfl rfl au aD hx rfl ?_;intro b63 o63 hc63
   refine .q hs (bK (vs:=x.v) rfl fR aD hc63) ?_
   refine .o (.alloc hs dx rfl fun b10 w hs=>?_)
   refine .o (.aI (vs:=x.v) hs rfl rfl aD fun w hs=>?_)
   refine .nil (.ai (.z zm ?_))
   refine .q hs (jZ (vs:=x.v) rfl fR aD) ?_
   refine .o (.call Tryz.call298 rfl (jm hs hok hf hl g1) ?_);rintro _ w ⟨rfl,hs⟩
   refine .nil ?_
   refine (.cond rfl (fun hc67=>?_) (fun hc67=>?_))
   ·refine .draw mix rfl hs fun w hs=>?_
    refine .z 0 rfl zm ?_;refine .z 1 rfl znc ?_;refine .z 2 rfl (zfa gg) ?_;refine .y 3 rfl hs an ?_;refine .z 4 rfl (zfa dp) ?_;refine .y 5 rfl hs af ?_
    refine .z 6 rfl (ke (k:=x.l.toNat) rfl rfl ae aj g3 g2) ?_
    refine .y 7 rfl hs af ?_;refine .z 8 rfl zm ?_;refine .z 9 rfl cf ?_
    refine .z 10 rfl (ke (k:=x.l.toNat) rfl rfl ae aj g3 g2) ?_
    refine .E 11 hs ?_
    refine .store hs rfl rfl aj ?_;intro w hs
    refine .go ?_
    refine .D hs ?_
    refine nB (nT ?_)
    have e:fq s.bY M ts (p.take (k+1))=(fq s.bY M ts (p.take k)).set x.l.toNat (gi (fq s.bY M ts (p.take k)) x.l.toNat+M):=by rw [cC hx,tz,push,if_pos (by simpa using hc67)]
    exact .mk ⟨rfl,by rw [e];exact hs.tail⟩
   ·refine .draw mix rfl hs fun w hs=>?_
    refine .z 0 rfl zm ?_;refine .z 1 rfl znc ?_;refine .z 2 rfl (zfa gg) ?_;refine .y 3 rfl hs an ?_;refine .z 4 rfl (zfa dp) ?_;refine .y 5 rfl hs af ?_
    refine .z 6 rfl (ke (k:=x.l.toNat) rfl rfl ae aj g3 g2) ?_
    refine .y 7 rfl hs af ?_;refine .z 8 rfl zm ?_;refine .z 9 rfl gZ ?_
    refine .z 10 rfl (ke (k:=x.l.toNat) rfl rfl ae aj g3 g2) ?_
    refine .E 11 hs ?_
    refine .store hs rfl rfl aj ?_;intro w hs
    refine .go ?_
    refine .D hs ?_
    refine nB (nT ?_)
    have e:fq s.bY M ts (p.take (k+1))=(fq s.bY M ts (p.take k)).set x.l.toNat (gi (fq s.bY M ts (p.take k)) x.l.toNat - M):=by rw [cC hx,tz,push,if_neg (by simpa using hc67)]
    exact .mk ⟨rfl,by rw [e];exact hs.tail⟩
  ·rintro fr w ⟨rfl,hs⟩
   rw [List.take_length] at hs
   refine nT ?_
   refine .ai (.z zm (.z znc (.z (zfa dq) (.y hs (zld an) (.z zm ?_)))))
   first|(refine .ixv hs ae aj ?_;intro b96 o96 hc96)|refine .z (zix ae aj) ?_
   refine .q hs (fW rfl af (hv:=eR hun sp)) ?_
   refine .z zm (.z cf ?_)
   first|(refine .ixv hs ae aj ?_;intro b100 o100 hc100)|refine .z (zix ae aj) ?_
   refine .o (.store hs rfl rfl aj ?_ e7 (nh hun sp) (kd hun sp _));intro w hs
   refine .nil (.region (.z zm (.z znc (.z (zfa dq) (.y hs (zld an) (.z zm ?_))))))
   first|(refine .ixv hs ae aj ?_;intro b106 o106 hc106)|refine .z (zix ae aj) ?_
   refine .q hs (fW rfl af (hv:=eR (by rw [List.length_set];exact hvn) sp)) ?_
   refine .z zm (.z gZ ?_)
   first|(refine .ixv hs ae aj ?_;intro b110 o110 hc110)|refine .z (zix ae aj) ?_
   refine .o (.store hs rfl rfl aj ?_ e7 (nh (by rw [List.length_set];exact hvn) sp) (kd (by rw [List.length_set];exact hvn) sp _));intro w hs
   refine .nil ?_
   exact Fin.yx Tryz.results273 hs
theorem CI{w:List Int}{N k:Nat}(hw:w.length=N+1):gi (w.set 0 (-kl w k)) 0 - gi (w.set 0 (-kl w k)) (k+1)= -kl w (k+1):=by
 rw [eZ ak,eZ ak,if_pos rfl,if_neg ak]
 simp only [kl,aM];omega
theorem tR{v vw:Value}{s:bI}{ws:List Int}(hs:St H w σ)(hok:s.Ok)(hr:RSy H v s)(hrw:RI H vw ws)(hwl:ws.length=s.n)(hsz:fJ ws)(hsnd:s.Sound):
  Cl Tryz.prog 224 [v,vw] w fun v w'=>(v= .tuple #[.pointer none,.bool false]∧nV s.bY (px ws s.n) s.n∧St H w' σ)∨
   (∃H1 bf bt bl cl ts lf vl sp,HLe H H1∧v= .tuple #[.pointer (some ⟨bf,0,none⟩),.bool true]∧uK H1 bf s ts lf vl bt bl cl sp∧rU s.n s.bY (px ws s.n) ts∧St H1 w' σ):=by
 obtain ⟨vl,rfl,hr⟩:=hr
 obtain ⟨al,cpl,rfl⟩:=RL.shape hr
 obtain ⟨aw,cw,rfl⟩:=RI.shape hrw
 obtain ⟨N,hN⟩:=Int.eq_ofNat_of_zero_le hok.m0
 have hN1:=hok.m1
 have hn:s.n=N+1:=by simp [bI.n,hN]
 have hlim:=hok.len
 have hoka:=hok.bY
 have hal:s.bY.length=s.bL.length:=by simp [bI.bY,ed]
 have hnum:zU s.bY:=fun i x hx=>⟨qu hx,(hok.bY.2 x (List.mem_of_getElem? hx)).2.2.2.2.2⟩
 have hin:∀x∈s.bY,x.f<s.n∧x.t<s.n:=fun x hx=>by have:=hoka.2 x hx;omega
 have hwt0:=FC ws (n:=s.n) ak
 unfold fJ at hsz
 rw [hwl] at hsz
 refine Cl.o Tryz.func224 Tryz.ntmps224 ag2 ?_
 refine .ai ?_
 refine .bx hs fun b2 w hs=>?_
 refine .z zg (.z zg (.nil ?_))
 refine .scope ?_
 refine .cut (fun fs w=>∃bf bt bl cl sp,kQ fs ⟨73,[],[(6,.pointer (some ⟨bf,0,none⟩))]⟩∧St H w (.blk bf [I s.many,.slice al s.bL.length cpl,.slice (some ⟨bt,0,none⟩) s.bL.length s.bL.length,.slice (some ⟨bl,0,none⟩) ws.length cl]:: .blk bt (Is (List.replicate s.bL.length 0)):: .blk bl (Is ws++sp)::σ)) ?_ ?_
 ·refine .draw mix rfl hs fun w hs=>?_
  refine .ys 0 rfl hs [_,_] bg aE ?_;refine .z 1 rfl (zfa bJ) ?_;refine .y 2 rfl hs cu ?_;refine .z 3 rfl (cZ aH) ?_;refine .z 5 rfl zm ?_
  refine .e2 (i:=4) (j:=6) aq rfl rfl rfl rfl .none .none hs ?_ ?_
  ·refine .xX s.bL.length hs rfl rfl ae iQ rfl aj bN ak ?_;intro b15 w hs
   refine .go ?_
   refine .E 6 hs ?_
   refine .call Tryz.call171 rfl (lS hs hrw ak) ?_;rintro v17 w ⟨en17,hO,hs⟩
   obtain ⟨bl,cl,sp,rfl,rfl,hsp⟩:=hO.some ak
   refine .go ?_
   refine .z 7 rfl (zbd [_,_,_,_] ou) ?_
   refine .E 8 hs ?_
   refine .box hs rfl rfl ?_;intro b19 w hs
   refine .go ?_
   refine .z 9 rfl zg ?_;refine .D hs ?_
   exact nT ⟨b19,b15,bl,cl,sp,bD,hs.sb⟩
  ·refine .call Tryz.call171 rfl (lS hs hrw ak) ?_;rintro v17 w ⟨en17,hO,hs⟩
   obtain ⟨bl,cl,sp,rfl,rfl,hsp⟩:=hO.some ak
   refine .go ?_
   refine .E 4 hs ?_
   refine .xX s.bL.length hs rfl rfl ae iQ rfl aj bN ak ?_;intro b15 w hs
   refine .go ?_
   refine .z 7 rfl (zbd [_,_,_,_] ou) ?_
   refine .E 8 hs ?_
   refine .box hs rfl rfl ?_;intro b19 w hs
   refine .go ?_
   refine .z 9 rfl zg ?_;refine .D hs ?_
   exact nT ⟨b19,b15,bl,cl,sp,bD,hs.sb⟩
 ·rintro fs w ⟨bf,bt,bl,cl,sp,hfs,hs⟩
  refine WE.sub ?_ hfs
  obtain ⟨H1,hle1,hRf,hs⟩:=hs.cg .here
  have hf0:cellAt H1 bf 0=some (I (N:Int)):=by have:=hRf.at 0 (v:=I s.many);rwa [hN] at this
  have hf3:cellAt H1 bf 3=some (.slice (some ⟨bl,0,none⟩) ws.length cl):=hRf.at 3
  have hrl:=hr.mono hle1
  refine .ai (.z zm (.z znc (.z (zfa dq) (.y hs (zld an) ?_))))
  refine .q hs (ke (k:=0) rfl rfl ae aj rfl ak) ?_
  refine .o (.store hs rfl rfl aj ?_ e7 (nh ak sp) (kd ak sp _));intro w hs
  refine .nil (.seq (.ai (.z zm (.z znc (.z (zfa fh) (.z (zfa bM) (.y hs (zld af) (.z zm (.nil ?_)))))))))
  refine .for (N:=N) (J:=fun k fr w=>fr=[(6,.pointer (some ⟨bf,0,none⟩))]∧St H1 w (.blk bt (Is (List.replicate s.bL.length 0)):: .blk bl (Is (ws.set 0 (-kl ws k))++sp)::σ)) ak ?_ ?_ ?_
  ·exact .mk ⟨rfl,by simpa [kl,aM] using hs⟩
  ·rintro k fr w hk ⟨rfl,hs⟩
   have e:=CI (w:=ws) (N:=N) (k:=k) ak
   have hb1:=uW ws (k+1)
   have hb2:bu ws (k+1+1)≤bu ws s.n:=qN (fun v=>by omega) ak
   simp only [FF] at hsz
   refine .block (.ai (.z zm (.z zg (.nil ?_))))
   refine .draw mix rfl hs fun w hs=>?_
   refine .z 0 rfl zm ?_;refine .z 1 rfl znc ?_;refine .z 2 rfl (zfa dq) ?_;refine .y 3 rfl hs an ?_
   refine .z 4 rfl (ke (k:=0) rfl rfl ae aj rfl ak) ?_
   refine .load (i:=5) hs rfl aq .none rfl af ?_ (hv:=eR (by rw [List.length_set];omega) sp)
   refine .z 6 rfl zm ?_;refine .z 7 rfl znc ?_;refine .z 8 rfl (zfa dq) ?_;refine .y 9 rfl hs an ?_;refine .z 10 rfl zm ?_;refine .z 11 rfl cf ?_
   refine .z 12 rfl (ke (k:=k+1) rfl rfl ae aj ak ak) ?_
   refine .load (i:=13) hs rfl aq .none rfl af ?_ (hv:=eR (by rw [List.length_set];omega) sp)
   refine .z 14 rfl gZ ?_
   refine .z 15 rfl (ke (k:=0) rfl rfl ae aj rfl ak) ?_
   refine .E 16 hs ?_
   refine .store hs rfl rfl aj ?_ e7 (nh (by rw [List.length_set];omega) sp) (kd (by rw [List.length_set];omega) sp _);intro w hs
   refine .go ?_
   refine .D hs ?_
   refine nB (nT ?_)
   rw [e,List.set_set] at hs
   exact .mk ⟨rfl,hs⟩
  ·rintro fr w ⟨rfl,hs⟩
   have hI0:xf s.n s.bY (px ws s.n) (List.replicate s.bL.length 0) (ws.set 0 (-kl ws N)):=by
    rw [←hal,hn]
    rw [hn] at hsz
    refine xf.start hsz (by rw [List.length_set];omega) (fun v hv=>?_) hsnd
    rw [eZ ak]
    cases v with
    |zero=>rw [if_pos rfl,y8]
    |succ v=>rw [if_neg ak,y9]
   refine nT ?_
   refine .seq ?_
   refine .label ?_
   refine nT ?_
   refine .block ?_
   refine .loop (fun _:bB×List Int×List Int=>⟨73,[],[(6,.pointer (some ⟨bf,0,none⟩))]⟩)
    (fun p w=>HLe H1 p.1∧xf s.n s.bY (px ws s.n) p.2.1 p.2.2∧St p.1 w (.blk bt (Is p.2.1):: .blk bl (Is p.2.2++sp)::σ)) (fun p=>(rem s.n p.2.2).toNat) (H1,List.replicate s.bL.length 0,ws.set 0 (-kl ws N))
    bD ⟨HLe.refl _,hI0,hs⟩ ?_
   rintro ⟨H2,ts,lf⟩ w ⟨hle2,hI,hs⟩
   dsimp only at hle2 hI hs ⊢
   have hlt:=hI.lt
   have hll:=hI.ll
   have hRf2:Row H2 bf [I s.many,.slice al s.bL.length cpl,.slice (some ⟨bt,0,none⟩) ts.length ts.length,.slice (some ⟨bl,0,none⟩) lf.length cl]:=by
    rw [hlt,hal,hll,←hwl];exact hRf.mono hle2
   have hf32:cellAt H2 bf 3=some (.slice (some ⟨bl,0,none⟩) lf.length cl):=hRf2.at 3
   refine .block (.seq (.ai (.z zm (.z znc (.z (zfa dq) (.y hs (zld an) (.z (cZ ae) (.z zm (.nil ?_)))))))))
   refine .for (N:=lf.length) (J:=fun k fr w=>fr=[(53,.slice (some ⟨bl,0,none⟩) lf.length cl),(6,.pointer (some ⟨bf,0,none⟩))]∧(∀v<k,gi lf v≤0)∧St H2 w (.blk bt (Is ts):: .blk bl (Is lf++sp)::σ)) ak ?_ ?_ ?_
   ·exact .mk ⟨rfl,fun v hv=>by omega,hs⟩
   ·rintro k fr w hk ⟨rfl,hle0,hs⟩
    refine .block (.ai (.z zm ?_))
    first|(refine .ixv hs ae aj ?_;intro b58 o58 hc58)|refine .z (zix ae aj) ?_
    refine .q hs (fW rfl af (hv:=eR hk sp)) ?_
    refine .z zg (.z zg (.nil (.seq (.ai (.z zm (.z um (.nil ?_)))))))
    refine (.bT rfl (fun hc61=>?_) (fun hc61=>?_))
    ·refine .exit ?_
     refine xT (xB (nT ?_))
     exact .mk ⟨rfl,fun v hv=>by
       by_cases e:v=k
       ·subst e;exact hc61
       ·exact hle0 v ak,hs⟩
    ·refine .skip ?_
     refine nT ?_
     refine .ai (.z zm (.z zm ?_))
     obtain ⟨Ha,hla,hra,hsa,-,hba⟩:=hs.zy
     obtain ⟨Hb,hlb,hrb,hsb,-,hbb⟩:=hsa.zy
     refine .o (.call Tryz.call272 rfl (pb (s:=s) (to:=k) hsb hok ⟨hRf2.mono (hla.trans hlb),hr.mono (hle1.trans (hle2.trans (hla.trans hlb))),hra.mono hlb,hrb⟩ ak ak hI.fe ak ak) ?_);rintro v64 w ⟨Hc,p,en,hlc,hO,hsc,hWR⟩
     have hs:=hba (HLe.refl _) (hbb hlc hsc)
     obtain ⟨ap,lp,cp,rfl,hlp⟩:=hO.shape
     obtain rfl:lp=p.length:=by rw [dk] at hlp;omega
     refine .z zg (.nil (.seq (.ai (.z zm (.z (cZ au) (.z jU (.nil ?_)))))))
     refine (.bT rfl (fun hc67=>?_) (fun hc67=>?_))
     ·refine .ai (.z zg (.z zg (.nil ?_)))
      refine .ret (rT (rB (rT (rB (rT (rB (rT (rB (rS (Fin.kn Tryz.results224 rfl rfl ?_))))))))))
      rcases hWR with ⟨_,R,hS,hR,hto⟩|⟨hp,_⟩
      ·exact .inl ⟨rfl,hI.open hin hS hR ak hto ak,(hs.le (hle1.trans hle2)).out⟩
      ·exact (hp (List.length_eq_zero_iff.1 ak)).elim
     ·refine .skip ?_
      refine nT ?_
      refine .ai (.z zm (.z zm ?_))
      obtain ⟨hp,hpl,u,hw⟩:=hWR.resolve_left fun h=>by rw [h.1] at hc67;exact hc67 rfl
      obtain ⟨H3,hle3,hRS,hs⟩:=bU.cg (cs:=p.map Arc.v) hO (fun c hc=>by simp only [List.mem_map] at hc;obtain ⟨x,_,rfl⟩:=hc;rfl) ak (by rw [List.length_map];omega) hs e7
      refine .o (.call Tryz.call273 rfl (nP hs hok (hRf2.mono hle3) (hr.mono (hle1.trans (hle2.trans hle3))) hRS hI hw hp hpl) ?_);rintro v70 w hs
      refine .nil ?_
      refine .exit ?_
      refine xN (xT (xN (xT (xB (nT ?_)))))
      obtain ⟨q1,q2⟩:=hI.send hnum hw ak
      have q3:0≤rem s.n (zx lf (rF s.bY ts lf p u k) u k):=cz fun v _=>by omega
      exact ⟨(H3,fq s.bY (rF s.bY ts lf p u k) ts p,zx lf (rF s.bY ts lf p u k) u k),bD,⟨hle2.trans hle3,q1,hs⟩,by dsimp only;omega⟩
   ·rintro fr w ⟨rfl,hle0,hs⟩
    refine nT ?_
    refine .ai (.z zm (.z zg (.z zg (.nil ?_))))
    refine .ret (rB (rT (rB (rS (Fin.kn Tryz.results224 rfl rfl ?_)))))
    obtain ⟨H3,l3,r3,hs⟩:=hs.cg .here
    obtain ⟨H4,l4,r4,hs⟩:=hs.cg .here
    exact .inr ⟨H4,bf,bt,bl,cl,ts,lf,_,sp,hle1.trans (hle2.trans (l3.trans l4)),rfl,⟨hRf2.mono (l3.trans l4),hr.mono (hle1.trans (hle2.trans (l3.trans l4))),r3.mono l4,r4⟩,hI.ok hin hwt0 (fun v hv=>hle0 v ak),hs⟩
theorem qk{v:Value}{ws:List Int}(hs:St H w σ)(hr:RI H v ws):Cl Tryz.prog 271 [v] w fun v w'=>∃b,v= .bool b∧(b=true↔fJ ws)∧St H w' σ:=by
 obtain ⟨a,c,rfl⟩:=RI.shape hr
 have hl:=(RI.len hr).2.2
 refine Cl.o Tryz.func271 Tryz.ntmps271 ag1 ?_
 refine .ai (.z zg (.nil (.ai (.z zg (.nil (.seq (.ai (.z zm (.z (cZ ae) ?_)))))))))
 refine .z zm (.nil ?_)
 refine .for (N:=ws.length) (J:=fun k fr w=>fr=[(6,.slice a ws.length c),(3,I (3600000000000 - bu ws k))]∧bu ws k≤3600000000000∧St H w σ) ak ?_ ?_ ?_
 ·exact .mk ⟨rfl,by simp [bu,aM],hs⟩
 ·rintro k fr w hk ⟨rfl,hle,hs⟩
  have hx:=bF hk
  have h0:0≤bu ws k:=cz fun v _=>by omega
  have h1:bu ws (k+1)=bu ws k+max (gi ws k) (-gi ws k):=rfl
  refine .block (.ai ?_)
  first|(refine .ixv hs ae aj ?_;intro b10 o10 hc10)|refine .z (zix ae aj) ?_
  refine .y hs (zld af) (.z zg (.nil (.seq (.ai (.z zm (.z zm (.z DS (.z iM (.z zm ?_)))))))))
  refine .jM (t':=16) rfl (fun hb16=>?_) (fun hb16=>?_)
  ·refine .gFs 3 4 false rfl rfl rfl ?_
   refine .z zpT (.nil ?_)
   refine (.cT ?_)
   refine .ai (.z zg (.nil ?_))
   refine .ret (rT (rB (rT (rB (rT (Fin.bw Tryz.results271 rfl ?_))))))
   exact ⟨false,rfl,⟨fun h=>(by cases h),fun h=>(uY (k:=k+1) hk (by simp only [FF];omega) h).elim⟩,hs⟩
  ·refine .gT rfl rfl ?_
   refine .z zm ?_
   refine .gT rfl rfl ?_
   refine .z zm ?_
   refine .gT rfl rfl ?_
   refine .z qH (.z zpF (.nil ?_))
   refine (.bT rfl (fun hc20=>?_) (fun hc20=>?_))
   ·refine .ai (.z zg (.nil ?_))
    refine .ret (rT (rB (rT (rB (rT (Fin.bw Tryz.results271 rfl ?_))))))
    exact ⟨false,rfl,⟨fun h=>(by cases h),fun h=>(uY (k:=k+1) hk (by simp only [FF];omega) h).elim⟩,hs⟩
   ·refine .skip ?_
    refine nT ?_
    refine .region (.z zm (.z zm (.z zm (.z DS (.z DP (.z gZ (.z zg (.nil ?_))))))))
    refine nB (nT ?_)
    exact .mk ⟨rfl,ak,hs⟩ (hs:= .cons rfl (.cons rfl (.cons rfl (.dA rfl ak (.nil rfl rfl)))))
 ·rintro fr w ⟨rfl,hle,hs⟩
  refine nT ?_
  refine .ai (.z zg (.nil ?_))
  refine .ret (Fin.bw Tryz.results271 rfl ?_)
  exact ⟨true,rfl,⟨fun _=>hle,fun _=>rfl⟩,hs⟩
theorem lJ{v vw:Value}{s:bI}{ws:List Int}(hs:St H w σ)(hr:RSy H v s)(hrw:RI H vw ws):Cl Tryz.prog 222 [v,vw] w fun v w'=>v=I (eC s ws)∧St H w' σ:=by
 obtain ⟨vl,rfl,hr⟩:=hr
 obtain ⟨al,cpl,rfl⟩:=RL.shape hr
 obtain ⟨aw,cw,rfl⟩:=RI.shape hrw
 have hlw:=(RI.len hrw).2.2
 have hn:s.check=0→0≤s.many∧s.many≤64∧(s.n:Int)=s.many+1:=fun h=>by
  have h1:=s.aP.1 h
  have:=h1.m0
  have:=h1.m1
  simp only [bI.n];omega
 refine Cl.o Tryz.func222 Tryz.ntmps222 ag2 ?_
 refine .ai ?_
 refine .bx hs fun b2 w hs=>?_
 refine .z zg (.nil (.seq (.ai (.y hs (zls [_,_] bg aE) ?_))))
 refine .o (.call Tryz.call197 rfl (gX (s:=s) hs ⟨_,rfl,hr⟩) ?_);rintro _ w ⟨rfl,hs⟩
 refine .z zg (.nil (.ai (.z zm (.z gE (.nil ?_)))))
 refine (.ep rfl (fun hc9=>?_) (fun hc9=>?_))
 ·refine .ai (.z zm (.z zg (.nil ?_)))
  refine .ret (rT (Fin.bw Tryz.results222 rfl ?_))
  exact ⟨by unfold eC;rw [if_pos hc9],hs.tail⟩
 ·refine .skip ?_
  refine nT ?_
  refine .seq (.ai (.z zm ?_))
  obtain ⟨n0,n1,n2⟩:=hn hc9
  refine .z (cZ ae) (.z (zfa bM) (.y hs (zld af) (.z cf (.z gE (.z zm ?_)))))
  refine .DQ (t':=17) rfl (fun hb17=>?_) (fun hb17=>?_)
  ·refine .gFs 3 6 false rfl rfl rfl ?_
   refine .z zpT (.nil ?_)
   refine (.cT ?_)
   refine .ai (.z zg (.nil ?_))
   refine .ret (rT (Fin.bw Tryz.results222 rfl ?_))
   exact ⟨by unfold eC;rw [if_neg ak,if_neg ak],hs.tail⟩
  ·refine .gT rfl rfl ?_
   refine .z zm ?_
   refine .gT rfl rfl ?_
   refine .o (.call Tryz.call271 rfl (qk hs hrw) ?_);rintro _ w ⟨bz,rfl,hbz,hs⟩
   refine .gT rfl rfl ?_
   refine .z gy (.z zpF (.nil ?_))
   refine (.cond rfl (fun hc21=>?_) (fun hc21=>?_))
   ·refine .ai (.z zg (.nil ?_))
    refine .ret (rT (Fin.bw Tryz.results222 rfl ?_))
    exact ⟨by unfold eC;rw [if_neg ak,if_neg (fun h=>by rw [hbz.2 h.2] at hc21;cases hc21)],hs.tail⟩
   ·refine .skip ?_
    refine nT ?_
    refine .ai (.z zg (.nil ?_))
    refine .ret (Fin.bw Tryz.results222 rfl ?_)
    exact ⟨by unfold eC;rw [if_neg ak,if_pos ⟨ak,hbz.1 (by simpa using hc21)⟩],hs.tail⟩
theorem l6{v vw:Value}{s:bI}{ws:List Int}(hs:St H w σ)(hr:RSy H v s)(hrw:RI H vw ws):
  Cl Tryz.prog 179 [v,vw] w fun v w'=>∃H1 e pf,HLe H H1∧v= .tuple #[pf,I e]∧DF s ws e∧St H1 w' σ∧(e≠0→pf= .pointer none)∧
   (e=0→∃bf bt bl cl ts lf vl sp,pf= .pointer (some ⟨bf,0,none⟩)∧uK H1 bf s ts lf vl bt bl cl sp∧rU s.n s.bY (px ws s.n) ts∧s.Ok∧bu ws s.n≤FF):=by
 obtain ⟨vl,rfl,hr⟩:=hr
 refine Cl.o Tryz.func179 Tryz.ntmps179 ag2 ?_
 refine .ai ?_
 refine .bx hs fun b2 w hs=>?_
 refine .z zg (.z zg (.nil (.seq (.ai (.y hs (zls [_,_] bg aE) (.z zm ?_))))))
 refine .o (.call Tryz.call222 rfl (lJ (s:=s) hs ⟨_,rfl,hr⟩ hrw) ?_);rintro _ w ⟨rfl,hs⟩
 refine .z zg (.nil (.ai (.z zm (.z gE (.nil ?_)))))
 refine (.ep rfl (fun hc13=>?_) (fun hc13=>?_))
 ·refine .ai (.z zm (.z zg (.z zg (.nil ?_))))
  refine .ret (rT (Fin.kn Tryz.results179 rfl rfl ?_))
  exact ⟨H,_,_,HLe.refl _,rfl,.bad hc13,hs.tail,fun _=>rfl,fun h=>(hc13 h).elim⟩
 ·refine .skip ?_
  refine nT ?_
  refine .seq (.ai (.y hs (zls [_,_] bg aE) ?_))
  obtain ⟨hok,hwl,hsz⟩:=qt hc13
  refine .o (.call Tryz.call223 rfl (iI (s:=s) hs hok ⟨_,rfl,hr⟩) ?_);rintro _ w ⟨H1,b,hle1,rfl,hb,hs⟩
  refine .z gy (.nil ?_)
  refine (.cond rfl (fun hc17=>?_) (fun hc17=>?_))
  ·refine .ai (.z zg (.z zg (.nil ?_)))
   refine .ret (rT (Fin.kn Tryz.results179 rfl rfl ?_))
   exact ⟨H1,_,_,hle1,rfl,.clash hc13 (fun h=>by rw [hb.2 h] at hc17;cases hc17),hs.tail,fun _=>rfl,fun h=>by cases h⟩
  ·refine .skip ?_
   refine nT ?_
   refine .ai (.y hs (zls [_,_] bg aE) (.z zm ?_))
   have hsnd:s.Sound:=hb.1 (by simpa using hc17)
   refine .o (.call Tryz.call224 rfl (tR (s:=s) hs hok ⟨_,rfl,hr.mono hle1⟩ (hrw.mono hle1) hwl hsz hsnd) ?_);rintro v21 w hcase
   obtain ⟨pf,bb,H2,hle2,rfl,hs,hT,hF⟩:∃pf bb H2,HLe H1 H2∧v21= .tuple #[pf,.bool bb]∧St H2 w (.blk b2 [I s.many,vl]::σ)∧(bb=false→pf= .pointer none∧nV s.bY (px ws s.n) s.n)∧
     (bb=true→∃bf bt bl cl ts lf vl sp,pf= .pointer (some ⟨bf,0,none⟩)∧uK H2 bf s ts lf vl bt bl cl sp∧rU s.n s.bY (px ws s.n) ts):=by
    rcases hcase with ⟨rfl,h1,h2⟩|⟨H2,bf,bt,bl,cl,ts,lf,vl,sp,h1,rfl,h2,h3,h4⟩
    ·exact ⟨_,false,H1,HLe.refl _,rfl,h2,fun _=>⟨rfl,h1⟩,fun h=>by cases h⟩
    ·exact ⟨_,true,H2,h1,rfl,h4,fun h=>(by cases h),fun _=>⟨bf,bt,bl,cl,ts,lf,vl,sp,rfl,h2,h3⟩⟩
   refine .z zm (.z zex (.z zex (.z zg (.z zg (.nil (.seq (.ai (.z zm (.z gy ?_)))))))))
   refine .nil ?_
   refine (.cond rfl (fun hc25=>?_) (fun hc25=>?_))
   ·refine .ai (.z zg (.z zg (.nil ?_)))
    refine .ret (rT (Fin.kn Tryz.results179 rfl rfl ?_))
    exact ⟨H2,_,_,hle1.trans hle2,rfl,.opn hc13 hsnd (hT (by simpa using hc25)).2,hs.tail,fun _=>rfl,fun h=>by cases h⟩
   ·refine .skip ?_
    refine nT ?_
    refine .ai (.z zm (.z zg (.z zg (.nil ?_))))
    refine .ret (Fin.kn Tryz.results179 rfl rfl ?_)
    obtain ⟨bf,bt,bl,cl,ts,lf,vl,sp,rfl,h2,h3⟩:=hF (by simpa using hc25)
    have hn0:0<s.n:=by simp [bI.n]
    have hn1:s.n≤65:=by have:=hok.m0;have:=hok.m1;simp only [bI.n];omega
    have hsz':bu ws s.n≤FF:=by unfold fJ at hsz;rwa [hwl] at hsz
    exact ⟨H2,_,_,hle1.trans hle2,rfl,.ok hc13 hsnd (h3.value hn0 hn1 hok.bY hsz').2.1,hs.tail,fun h=>(h rfl).elim,fun _=>⟨bf,bt,bl,cl,ts,lf,vl,sp,rfl,h2,h3,hok,hsz'⟩⟩
theorem jk{bf bt bl cl:Nat}{s:bI}{ts lf ws:List Int}{vl:Value}{sp:List Value}(hs:St H w σ)(hok:s.Ok)(hF:uK H bf s ts lf vl bt bl cl sp)(hFo:rU s.n s.bY (px ws s.n) ts)(hsz:bu ws s.n≤FF):
  Cl Tryz.prog 263 [.pointer (some ⟨bf,0,none⟩)] w fun v w'=>v=I (dot s.bY ts (·.c))∧yX s.bY (s.wt ws) s.n (dot s.bY ts (·.c))∧dot s.bY ts (·.c)≤BB∧-BB≤dot s.bY ts (·.c)∧St H w' σ:=by
 obtain ⟨hFf,hFl,hFt,hFd⟩:=hF
 obtain ⟨al,cpl,rfl⟩:=RL.shape hFl
 have hlim:=hok.len
 have hal:s.bY.length=s.bL.length:=by simp [bI.bY,ed]
 have hlt:=hFo.lt
 have hn0:0<s.n:=by simp [bI.n]
 have hn1:s.n≤65:=by have:=hok.m0;have:=hok.m1;simp only [bI.n];omega
 have hv:=hFo.value hn0 hn1 hok.bY hsz
 have hd:=C8 (es:=s.bY) hlt
 have hf1:cellAt H bf 1=some (.slice al s.bL.length cpl):=hFf.at 1
 have hf2:cellAt H bf 2=some (.slice (some ⟨bt,0,none⟩) ts.length ts.length):=hFf.at 2
 refine Cl.o Tryz.func263 Tryz.ntmps263 ag1 ?_
 refine .ai (.z zg (.nil (.ai (.z zg (.nil (.seq (.ai (.z zm (.z znc ?_)))))))))
 refine .z (zfa fh) (.z (zfa bJ) (.y hs (zld cu) (.z (cZ aH) (.z zm (.nil ?_)))))
 refine .for (N:=s.bL.length) (J:=fun k fr w=>fr=[(10,.slice al s.bL.length cpl),(3,I (IntKind.i64.wrap (Bp s.bY ts k))),(0,.pointer (some ⟨bf,0,none⟩))]∧St H w σ) ak ?_ ?_ ?_
 ·exact .mk ⟨rfl,hs⟩ (hs:= .cons rfl (.cons rfl (.cons rfl (.dA rfl (by simp [Bp,aM,vv]) (.cons rfl (.nil rfl rfl))))))
 ·rintro k fr w hk ⟨rfl,hs⟩
  obtain ⟨l,hl⟩:=nth hk
  have hg:(ga s.bY k).c=l.M:=by simp [ga,bI.bY,jP hl,Lim.arc]
  have hlm:=hok.lim l (List.mem_of_getElem? hl)
  have hkt:k<ts.length:=by omega
  have htb:=hFo.nn k ak
  have hct:cellAt H bt k=some (I (gi ts k)):=hFt.at k (iJ hkt)
  have hmul:gi ts k*l.M≤72000000000000000∧-72000000000000000≤gi ts k*l.M:=by
   simp only [FF] at htb
   have g1:gi ts k*l.M≤gi ts k*20000:=Int.mul_le_mul_of_nonneg_left hlm.2.2.2.1.2 htb.1
   have g2:gi ts k*(-20000)≤gi ts k*l.M:=Int.mul_le_mul_of_nonneg_left hlm.2.2.2.1.1 htb.1
   omega
  refine .block (.ai (.z zm ?_))
  refine .ixX hs hFl rfl rfl aH aQ hl rfl ?_;intro b15 o15 hc15
  refine .q hs (bK (vs:=l.c) rfl eE aQ hc15) ?_
  refine .o (.alloc hs dy rfl fun b5 w hs=>?_)
  refine .z zg ?_
  refine .o (.aI (vs:=l.c) hs rfl rfl aQ fun w hs=>?_)
  refine .nil ?_
  refine .draw mix rfl hs fun w hs=>?_
  refine .z 0 rfl zm ?_;refine .z 1 rfl zm ?_;refine .z 2 rfl znc ?_;refine .z 3 rfl (zfa gg) ?_;refine .y 4 rfl hs an ?_;refine .z 5 rfl zm ?_
  refine .z 6 rfl (ke (k:=k) rfl rfl ae aj rfl hkt) ?_
  refine .r (i:=7) hs rfl aq .none (aR rfl af hct) ?_
  refine .z 8 rfl (zfa eV) ?_;refine .y 9 rfl hs af ?_;refine .z 10 rfl kS ?_
  refine .z 11 rfl (Et rfl rfl) ?_
  refine .z 12 rfl zg ?_;refine .D hs ?_
  refine nB (nT ?_)
  exact .mk ⟨rfl,hs.tail⟩ (hs:= .cons rfl (.cons rfl (.cons rfl (.dA rfl (by rw [zB];simp only [Bp,aM,hg]) (.cons rfl (.nil rfl rfl))))))
 ·rintro fr w ⟨rfl,hs⟩
  rw [←hal,←hd,j7 (by have:=hv.2.2;simp only [BB] at this;omega)]
  refine nT ?_
  refine .ai (.z zm (.z zg (.nil ?_)))
  refine .ret (Fin.bw Tryz.results263 rfl ?_)
  exact ⟨rfl,hv.1,hv.2.2.1,hv.2.2.2,hs⟩
theorem rl{vw:Value}{ws:List Int}(hs:St H w σ)(hrw:RI H vw ws)(hlw:ws.length≤1000000)(hb:∀k,-9223372036854775807≤gi ws k∧gi ws k≤9223372036854775807):
  Cl Tryz.prog 262 [vw] w fun v w'=>∃H1,HLe H H1∧RI H1 v (xh ws)∧St H1 w' σ:=by
 obtain ⟨aw,cw,rfl⟩:=RI.shape hrw
 refine Cl.o Tryz.func262 Tryz.ntmps262 ag1 ?_
 refine .ai (.z zg (.nil (.ai (.z zm (.z (cZ ae) ?_)))))
 refine .o (.xX ws.length hs rfl rfl ae iQ rfl aj bN ak fun b8 w hs=>?_)
 refine .z zg (.nil (.seq (.ai (.z zm (.z (cZ ae) (.z zm (.nil ?_)))))))
 refine .for (N:=ws.length) (J:=fun k fr w=>fr=[(9,.slice aw ws.length cw),(3,.slice (some ⟨b8,0,none⟩) ws.length ws.length)]∧∃L,(L.length=ws.length∧∀v<ws.length,gi L v=if v<k then -gi ws v else 0)∧St H w (.blk b8 (Is L)::σ)) ak ?_ ?_ ?_
 ·exact .mk ⟨rfl,_,⟨bV,fun v hv=>by rw [cU _ _ hv,if_neg ak]⟩,hs⟩
 ·rintro k fr w hk ⟨rfl,L,⟨hL1,hL2⟩,hs⟩
  have hx:=bF hk
  have hbk:=hb k
  refine .block (.ai (.z zm ?_))
  first|(refine .ixv hs ae aj ?_;intro b14 o14 hc14)|refine .z (zix ae aj) ?_
  refine .y hs (zld af) (.z zg (.z zg (.nil (.region (.z zm (.z zm (.z zm (.z DS ?_))))))))
  first|(refine .ixv hs ae aj ?_;intro b20 o20 hc20)|refine .z (zix ae aj) ?_
  refine .o (.store hs rfl rfl aj fun w hs=>?_)
  refine .nil ?_
  refine nB (nT ?_)
  refine .mk ⟨rfl,_,⟨by rw [List.length_set];exact hL1,fun v hv=>?_⟩,hs⟩
  rw [eZ ak]
  by_cases e:v=k
  ·subst e;rw [if_pos rfl,if_pos ak]
  ·rw [if_neg e,hL2 v hv];congr 1;apply propext;omega
 ·rintro fr w ⟨rfl,L,⟨hL1,hL2⟩,hs⟩
  obtain rfl:L=xh ws:=AB (by simp [hL1,xh]) (fun k hk=>by rw [hL2 k ak,if_pos ak,CS])
  refine nT ?_
  refine .ai (.z zm (.z zg (.nil ?_)))
  refine .ret (Fin.bw Tryz.results262 rfl ?_)
  obtain ⟨H1,g1,g2,hs⟩:=hs.cg .here
  refine ⟨H1,g1,?_,hs⟩
  rw [←hL1]
  exact Row.RI (spare:=[]) (by simpa using g2) _ (Nat.le_refl _) ak
theorem sr{v vw:Value}{s:bI}{ws:List Int}(hs:St H w σ)(hr:RSy H v s)(hrw:RI H vw ws):
  Cl Tryz.prog 219 [v,vw] w fun v w'=>∃H1 lo hi e,HLe H H1∧v= .tuple #[I lo,I hi,I e]∧dw s ws lo hi e∧St H1 w' σ:=by
 obtain ⟨vl,rfl,hr⟩:=hr
 refine Cl.o Tryz.func219 Tryz.ntmps219 ag2 ?_
 refine .ai ?_
 refine .bx hs fun b2 w hs=>?_
 refine .z zg (.z zg (.z zg (.nil (.ai (.y hs (zls [_,_] bg aE) (.z zm ?_))))))
 refine .o (.call Tryz.call179 rfl (l6 (s:=s) hs ⟨_,rfl,hr⟩ hrw) ?_);rintro _ w ⟨H1,e,pf,hle1,rfl,hA,hs,hne,heq⟩
 refine .z zm (.z zex (.z zex (.z zg (.z zg (.nil (.seq (.ai (.z zm (.z gE ?_)))))))))
 refine .nil ?_
 refine (.ep rfl (fun hc16=>?_) (fun hc16=>?_))
 ·refine .ai (.z zm (.z zg (.z zg (.z zg (.nil ?_)))))
  refine .ret (rT (Fin.Jh Tryz.results219 rfl rfl rfl ?_))
  exact ⟨H1,_,_,_,hle1,rfl,.first ⟨hA,fun _=>rfl,fun h=>(hc16 h).elim⟩ hc16,hs.tail⟩
 ·refine .skip ?_
  refine nT ?_
  refine .seq (.draw mix rfl hs fun w hs=>?_)
  refine .ys 0 rfl hs [_,_] bg aE ?_;refine .z 1 rfl zm ?_
  refine .E 2 hs ?_
  subst hc16
  obtain ⟨bf,bt,bl,cl,ts,lf,vl',sp,rfl,hF,hFo,hok,hsz⟩:=heq rfl
  have hwl:=(qt hA.zero.1).2.1
  have hbw:∀k,-9223372036854775807≤gi ws k∧gi ws k≤9223372036854775807:=fun k=>by
   simp only [FF] at hsz
   by_cases hk:k<s.n
   ·have:=nr ws hk;omega
   ·have:gi ws k=0:=by simp [gi,List.getElem?_eq_none (show ws.length≤k by omega)]
    omega
  refine .call Tryz.call262 rfl (rl hs (hrw.mono hle1) (by have:=hok.m1;simp only [bI.n] at hwl;omega) hbw) ?_;rintro v21 w ⟨H2,hle2,hr21,hs⟩
  refine .go ?_
  refine .E 3 hs ?_
  refine .call Tryz.call179 rfl (l6 (s:=s) hs ⟨_,rfl,hr.mono (hle1.trans hle2)⟩ hr21) ?_;rintro _ w ⟨H3,e2,pg,hle3,rfl,hA2,hs,hne2,heq2⟩
  refine .go ?_
  refine .z 4 rfl zm ?_;refine .z 5 rfl zex ?_;refine .z 6 rfl zex ?_;refine .z 7 rfl zg ?_;refine .z 8 rfl zg ?_;refine .D hs ?_
  refine .seq (.ai (.z zm (.z gE (.nil ?_))))
  refine (.ep rfl (fun hc26=>?_) (fun hc26=>?_))
  ·refine .ai (.z zm (.z zg (.z zg (.z zg (.nil ?_)))))
   refine .ret (rT (Fin.Jh Tryz.results219 rfl rfl rfl ?_))
   obtain ⟨q1,q2,q3,q4⟩:=hFo.value (by simp [bI.n]) (by have:=hok.m0;have:=hok.m1;simp only [bI.n];omega) hok.bY hsz
   exact ⟨H3,_,_,_,hle1.trans (hle2.trans hle3),rfl,.second ⟨hA,fun h=>(h rfl).elim,fun _=>⟨q1,q3,q4⟩⟩ ⟨hA2,fun _=>rfl,fun h=>(hc26 h).elim⟩ hc26,hs.tail⟩
  ·refine .skip ?_
   refine nT ?_
   refine .ai (.z zm ?_)
   subst hc26
   obtain ⟨bf2,bt2,bl2,cl2,ts2,lf2,vl2,sp2,rfl,hF2,hFo2,hok2,hsz2⟩:=heq2 rfl
   refine .o (.call Tryz.call263 rfl (jk hs hok hF2 hFo2 hsz2) ?_);rintro _ w ⟨rfl,a1,a2,a3,hs⟩
   simp only [BB] at a2 a3
   refine .z DS (.z zm ?_)
   refine .o (.call Tryz.call263 rfl (jk hs hok (hF.mono (hle2.trans hle3)) hFo hsz) ?_);rintro _ w ⟨rfl,c1,c2,c3,hs⟩
   refine .z zg (.z zg (.z zg (.nil ?_)))
   refine .ret (Fin.Jh Tryz.results219 rfl rfl rfl ?_)
   exact ⟨H3,_,_,_,hle1.trans (hle2.trans hle3),rfl,.ok ⟨hA,fun h=>(h rfl).elim,fun _=>⟨c1,c2,c3⟩⟩ ⟨hA2,fun h=>(h rfl).elim,fun _=>⟨a1,by simp only [BB];omega,by simp only [BB];omega⟩⟩,hs.tail⟩
end Go.Proofs.YteajddicacjkhaaGreat
namespace Go.Proofs.YteajddicacjkhaaGreat
open Go.MW
structure Pck where
 probes:List Int
 width:Int
 bound:Int
 uses:List Use
 fails:List (List Int×List Int)
def Pck.none:Pck:=⟨[],0,0,[],[]⟩
def IL(H:bB)(v:Value)(p:Pck):Prop:=∃(vp vu vf:Value) (css:List (List Value)),v= .agg #[vp,I p.width,I p.bound,vu,vf]∧RI H vp p.probes∧RU H vu p.uses∧RS H 2 vf css∧css.length=p.fails.length∧∀(j:Nat) (c:List Value) (t:List Int×List Int),css[j]? =some c→p.fails[j]? =some t→TwC H c t
theorem IL.nil(H:bB):IL H (.agg #[.slice none 0 0,I 0,I 0,.slice none 0 0,.slice none 0 0]) .none:=
 ⟨_,_,_,[],rfl,RS.nil _ _ _ _,RS.nil _ _ _ _,RS.nil _ _ _ _,rfl,fun _ _ _ h=>by simp at h⟩
end Go.Proofs.YteajddicacjkhaaGreat
namespace Go.Proofs.YteajddicacjkhaaGreat
open Go.MW
variable{H:bB}{w:World}{σ:List Ent}
theorem Ek{n m:Int}(hm:0<m):(n.tmod m+m).tmod m=n%m:=by
 have h2:=Int.lt_tmod_of_pos n hm
 rw [Int.tmod_eq_emod_of_nonneg ak,Int.tmod_def,show n - m*n.tdiv m+m=n+m*(1 - n.tdiv m) by rw [Int.mul_sub];omega,Int.add_mul_emod_self_left]
theorem tu{v:Value}{l:List Int}{i n:Int}(hs:St H w σ)(hr:RI H v l)(hi:0≤i)(hn:n≤4611686018427387904):Cl Tryz.prog 209 [v,I i,I n] w fun v w'=>v=I (pP l i n)∧St H w' σ:=by
 obtain ⟨a,c,rfl⟩:=RI.shape hr
 have hlen:=(RI.len hr).2.2
 refine Cl.o Tryz.func209 Tryz.ntmps209 ag3 ?_
 refine .ai (.z zg (.nil (.seq (.ai (.z zm (.z (cZ ae) (.z jU (.z zm ?_))))))))
 refine .jM (t':=10) rfl (fun hb10=>?_) (fun hb10=>?_)
 ·refine .gFs 2 3 false rfl rfl rfl ?_
  refine .z zpT (.nil ?_)
  refine (.cT ?_)
  refine .ai (.z zg (.nil ?_))
  refine .ret (rT (Fin.bw Tryz.results209 rfl ?_))
  exact ⟨by rw [show pP l i n=0 by unfold pP;rw [if_pos (.inl (List.length_eq_zero_iff.1 ak))]],hs⟩
 ·refine .gT rfl rfl ?_
  refine .z zm ?_
  refine .gT rfl rfl ?_
  refine .z iM (.z zpF (.nil ?_))
  refine (.bT rfl (fun hc13=>?_) (fun hc13=>?_))
  ·refine .ai (.z zg (.nil ?_))
   refine .ret (rT (Fin.bw Tryz.results209 rfl ?_))
   exact ⟨by rw [show pP l i n=0 by unfold pP;rw [if_pos (.inr ak)]],hs⟩
  ·refine .skip ?_
   refine nT ?_
   refine .ai (.z zm (.z zm (.z zm (.z (cZ ae) ?_))))
   have hl0:0<l.length:=by omega
   have h1:=Int.tmod_nonneg (a:=i) (l.length:Int) hi
   have h2:=Int.tmod_lt_of_pos i (b:=(l.length:Int)) ak
   have hx:=bF (l:=l) (i:=(i.tmod (l.length:Int)).toNat) ak
   have h3:=Int.tmod_lt_of_pos (gi l (i.tmod (l.length:Int)).toNat) (b:=n) ak
   have h4:=Int.lt_tmod_of_pos (gi l (i.tmod (l.length:Int)).toNat) (b:=n) ak
   have e:=Ek (n:=gi l (i.tmod (l.length:Int)).toNat) (m:=n) ak
   refine .z AU ?_
   refine .ixY hs hr rfl rfl ae aj hx ak ?_;intro b19 o19 hc19
   refine .q hs (aR rfl af hc19) ?_
   refine .z zm (.z AU (.z zm (.z cf (.z zm (.z AU (.z zg (.nil ?_)))))))
   refine .ret (Fin.bw Tryz.results209 rfl ?_)
   exact ⟨by unfold pP;rw [if_neg (fun h=>h.elim (fun h=>by rw [h] at hl0;exact Nat.lt_irrefl _ hl0) (fun h=>by omega)),←e],hs⟩
def vS(i j:Nat):Int:=if i=j then 0 else free
theorem F7{n:Nat}(es:List Arc){T:Nat→Nat→Int}(h:∀i j,i<n→j<n→T i j=vS i j):GY n es 0 T:=
 ⟨fun i hi=>by rw [h i i hi hi];simp [vS],fun _ _ h=>by omega,fun i j hi hj hij=> .inl (by rw [h i j hi hj];simp [vS,hij])⟩
set_option maxHeartbeats 4000000 in
theorem tr{v:Value}{s:bI}(hs:St H w σ)(hr:RSy H v s)(hok:s.Ok):
  Cl Tryz.prog 207 [v] w fun u w'=>∃H1 rs,HLe H H1∧RT H1 u rs∧Sq s.n rs∧fm s.n s.bY (gt rs)∧St H1 w' σ:=by
 obtain ⟨ul,rfl,hl⟩:=hr
 obtain ⟨al,cl,rfl⟩:=RL.shape hl
 have hm0:=hok.m0
 have hm1:=hok.m1
 have hlen:=hok.len
 have hnp:=s.Cy
 have hn65:=hok.n65
 have hinn:=hok.inn
 have hmn:s.many+1=(s.n:Int):=by simp only [bI.n];omega
 generalize hn:s.n=n at hnp hn65 hinn hmn ⊢
 refine Cl.o Tryz.func207 Tryz.ntmps207 ag1 ?_
 refine .ai ?_
 refine .bx hs fun b1 w hs=>?_
 refine .z zg (.nil (.ai (.z (zfa bM) ?_)))
 first|refine .q hs (fW rfl af (hm:=by repeat (first|exact .here|assumption|exact Mem.row ak ak|refine .there ?_|refine Mem.rO ?_)) (hv:=by first|rfl|exact eS ak|exact kP ea ak ak|exact iJ kL)) ?_|refine .q hs (aR rfl af ea) ?_
 refine .z cf ?_
 rw [hmn]
 refine .z zg (.nil (.ai (.z zm ?_)))
 refine .o (.Ig n hs rfl rfl aC Tryz.typeInfo34 rfl aA ef ak fun b16 w hs=>?_)
 refine .z zg (.nil (.seq (.ai (.z zm (.z (cZ aC) (.z zm (.nil ?_)))))))
 refine .for (N:=n) (J:=fun k fr w=>fr=[(3,I (n:Int)),(4,.slice (some ⟨b16,0,none⟩) n n),(1,.pointer (some ⟨b1,0,none⟩))]∧∃bs:List Nat,bs.length=k∧St H w (.blk b16 (bs.map (ptr n)++List.replicate (n - k) (.slice none 0 0))::(kJ bs (BF vS n k)++(.blk b1 [I s.many,.slice al s.bL.length cl]::σ)))) ak ?_ ?_ ?_
 ·exact .mk ⟨rfl,[],rfl,hs⟩
 ·rintro k fr w hk ⟨rfl,bs,hbl,hs⟩
  refine .block (.ai (.z zm (.z zg (.nil (.ai (.z zm (.z zm (.z zm ?_))))))))
  refine .o (.xX n hs rfl rfl ae iQ rfl aj bN ak fun b25 w hs=>?_)
  first|(refine .ixw hs aC aA ?_;intro b26 o26 hc26)|refine .z (zix aC aA) ?_
  refine .o (.store hs rfl rfl aA ?_ e7 (by simp [hbl];omega) (Gw hbl hk));intro w hs
  refine .nil (.ai (.z zm (.z zm ?_)))
  first|(refine .ixw hs aC aA ?_;intro b29 o29 hc29)|refine .z (zix aC aA) ?_
  refine .q hs (fW rfl an (hv:=Ai hbl)) ?_
  refine .z (cZ ae) (.z zm (.nil ?_))
  refine .for (N:=n) (J:=fun j fr w=>fr=[(5,I (k:Int)),(19,I (k:Int)),(18,I (n:Int)),(3,I (n:Int)),(4,.slice (some ⟨b16,0,none⟩) n n),(1,.pointer (some ⟨b1,0,none⟩))]∧St H w (.blk b25 (Is ((List.range n).map fun c=>if c<j∧k≠c then free else 0)):: .blk b16 ((bs++[b25]).map (ptr n)++List.replicate (n - (k+1)) (.slice none 0 0))::(kJ bs (BF vS n k)++(.blk b1 [I s.many,.slice al s.bL.length cl]::σ)))) ak ?_ ?_ ?_
  ·rw [zo (fun c=>if c<0∧k≠c then free else 0) n 0 (fun j _=>by simp)] at hs
   exact .mk ⟨rfl,hs⟩
  ·rintro j fr w hj ⟨rfl,hs⟩
   refine .block (.ai (.z zm (.z zg (.nil (.ai (.z zm (.z zm (.z gE (.nil ?_)))))))))
   refine (.ep rfl (fun hc37=>?_) (fun hc37=>?_))
   ·refine .region (.z zm (.z zm ?_))
    first|(refine .ixw hs aC aA ?_;intro b40 o40 hc40)|refine .z (zix aC aA) ?_
    refine .q hs (fW rfl an (hv:=Ai hbl)) ?_
    refine .z zm ?_
    first|(refine .ixv hs ae aj ?_;intro b43 o43 hc43)|refine .z (zix ae aj) ?_
    refine .o (.store hs rfl rfl aj ?_ e7 (AL (by simp;omega)) (yL _ _ _));intro w hs
    refine .nil ?_
    refine nB (nT ?_)
    rw [Cc _ (fun c=>if c<j+1∧k≠c then free else 0) hj 1000000000 (fun c _=>by
     by_cases e:c=j
     ·subst e;rw [if_pos rfl,if_pos ⟨ak,ak⟩]
     ·rw [if_neg e];congr 1;apply propext;omega)] at hs
    exact .mk ⟨rfl,hs⟩
   ·refine .skip ?_
    refine nB (nT ?_)
    rw [tw (g:=fun c=>if c<j+1∧k≠c then free else 0) (fun c _=>by
     by_cases e:c=j
     ·subst e;rw [if_neg ak,if_neg ak]
     ·congr 1;apply propext;omega)] at hs
    exact .mk ⟨rfl,hs⟩
  ·rintro fr w ⟨rfl,hs⟩
   rw [tw (g:=vS k) (fun c hc=>by
    unfold vS
    by_cases e:k=c
    ·rw [if_neg ak,if_pos e]
    ·rw [if_pos ⟨hc,e⟩,if_neg e])] at hs
   replace hs:=hs.Jg (by rw [hbl,zd])
   rw [←BX] at hs
   refine nB (nT ?_)
   exact .mk ⟨rfl,bs++[b25],by simp [hbl],hs⟩
 ·rintro fr w ⟨rfl,bs,hbl,hs⟩
  rw [Nat.sub_self,List.replicate_zero,List.append_nil] at hs
  refine nT ?_
  refine .seq (.ai (.z (zfa bJ) ?_))
  first|refine .q hs (fW rfl cu (hm:=by repeat (first|exact .here|assumption|exact Mem.row ak ak|refine .there ?_|refine Mem.rO ?_)) (hv:=by first|rfl|exact eS ak|exact kP ea ak ak|exact iJ kL)) ?_|refine .q hs (aR rfl cu ea) ?_
  refine .z (cZ aH) (.z zm (.nil ?_))
  refine .for (N:=s.bL.length) (J:=fun k fr w=>fr=[(47,.slice al s.bL.length cl),(4,.slice (some ⟨b16,0,none⟩) n n)]∧∃rs,Sq n rs∧GY n s.bY k (gt rs)∧St H w (.blk b16 (bs.map (ptr n))::(kJ bs rs++(.blk b1 [I s.many,.slice al s.bL.length cl]::σ)))) ak ?_ ?_ ?_
  ·exact .mk ⟨rfl,_,Ge vS n,F7 s.bY (fun i j hi hj=>Gf vS hi hj),hs⟩
  ·rintro k fr w hk ⟨rfl,rs,hq,hB,hs⟩
   obtain ⟨x,hx⟩:=nth (l:=s.bL) hk
   have hrl:=hq.1
   obtain ⟨⟨xa0,xa1⟩,⟨xb0,xb1⟩,xne,xM,-⟩:=hok.lim x (List.mem_of_getElem? hx)
   have ha:x.A.toNat<n:=by omega
   have hb:x.B.toNat<n:=by omega
   have hga:=jP hx
   refine .block (.ai ?_)
   refine .ixX (enc:=Lim.c) hs hl rfl rfl aH aQ hx rfl ?_;intro b51 o51 hc51
   refine .q hs (bK (vs:=x.c) rfl eE aQ hc51) ?_
   refine .o (.alloc hs dy rfl fun b8 w hs=>?_)
   refine .o (.aI (vs:=x.c) hs rfl rfl aQ fun w hs=>?_)
   refine .nil ?_
   refine .draw mix rfl hs fun w hs=>?_
   refine .z 0 rfl zm ?_;refine .z 1 rfl (zfa dC) ?_
   first|refine .load (i:=2) hs rfl aq .none rfl af ?_ (by repeat (first|exact .here|assumption|exact Mem.row ak ak|refine .there ?_|refine Mem.rO ?_)) (by first|rfl|exact eS ak|exact kP ea ak ak|exact iJ kL)|refine .r (i:=2) hs rfl aq .none (aR rfl af ea) ?_
   refine .z 3 rfl (ke (k:=x.A.toNat) rfl rfl aC aA ak ha) ?_
   first|refine .load (i:=4) hs rfl aq .none rfl an ?_ (by repeat (first|exact .here|assumption|exact Mem.row ak ak|refine .there ?_|refine Mem.rO ?_)) (by first|rfl|exact eS ak|exact kP ea ak ak|exact iJ kL)|refine .r (i:=4) hs rfl aq .none (aR rfl an ea) ?_
   refine .z 5 rfl (zfa dN) ?_
   first|refine .load (i:=6) hs rfl aq .none rfl af ?_ (by repeat (first|exact .here|assumption|exact Mem.row ak ak|refine .there ?_|refine Mem.rO ?_)) (by first|rfl|exact eS ak|exact kP ea ak ak|exact iJ kL)|refine .r (i:=6) hs rfl aq .none (aR rfl af ea) ?_
   refine .z 7 rfl zm ?_;refine .z 8 rfl (zfa dC) ?_
   first|refine .load (i:=9) hs rfl aq .none rfl af ?_ (by repeat (first|exact .here|assumption|exact Mem.row ak ak|refine .there ?_|refine Mem.rO ?_)) (by first|rfl|exact eS ak|exact kP ea ak ak|exact iJ kL)|refine .r (i:=9) hs rfl aq .none (aR rfl af ea) ?_
   refine .z 10 rfl (ke (k:=x.A.toNat) rfl rfl aC aA ak ha) ?_
   first|refine .load (i:=11) hs rfl aq .none rfl an ?_ (by repeat (first|exact .here|assumption|exact Mem.row ak ak|refine .there ?_|refine Mem.rO ?_)) (by first|rfl|exact eS ak|exact kP ea ak ak|exact iJ kL)|refine .r (i:=11) hs rfl aq .none (aR rfl an ea) ?_
   refine .z 12 rfl (zfa dN) ?_
   first|refine .load (i:=13) hs rfl aq .none rfl af ?_ (by repeat (first|exact .here|assumption|exact Mem.row ak ak|refine .there ?_|refine Mem.rO ?_)) (by first|rfl|exact eS ak|exact kP ea ak ak|exact iJ kL)|refine .r (i:=13) hs rfl aq .none (aR rfl af ea) ?_
   refine .z 14 rfl (ke (k:=x.B.toNat) rfl rfl ae aj ak hb) ?_
   first|refine .load (i:=15) hs rfl aq .none rfl af ?_ (by repeat (first|exact .here|assumption|exact Mem.row ak ak|refine .there ?_|refine Mem.rO ?_)) (by first|rfl|exact eS ak|exact kP ea ak ak|exact iJ kL)|refine .r (i:=15) hs rfl aq .none (aR rfl af ea) ?_
   refine .z 16 rfl (zfa eV) ?_
   first|refine .load (i:=17) hs rfl aq .none rfl af ?_ (by repeat (first|exact .here|assumption|exact Mem.row ak ak|refine .there ?_|refine Mem.rO ?_)) (by first|rfl|exact eS ak|exact kP ea ak ak|exact iJ kL)|refine .r (i:=17) hs rfl aq .none (aR rfl af ea) ?_
   refine .z 18 rfl BE ?_
   refine .z 19 rfl (ke (k:=x.B.toNat) rfl rfl ae aj ak hb) ?_
   refine .ET 20 hs ?_
   refine .store hs rfl rfl aj ?_ (.there (.there (Upd.row _ ak ak))) (AL (by rw [hq.2 _ ha];exact hb)) (yL _ _ _);intro w hs
   refine .go ?_
   refine .DT hs ?_
   refine nB (nT ?_)
   exact .mk ⟨rfl,_,hq.set ha _,by rw [FO hq ha hb];exact hB.step hinn hga,hs.tail⟩
  ·rintro fr w ⟨rfl,rs,hq,hB,hs⟩
   rw [←ed] at hB
   have hI:=hB.go hinn hnp
   have hcb:∀x∈s.bY,-20000≤x.c∧x.c≤20000:=fun x hx=>by have:=hinn x hx;omega
   refine nT ?_
   refine .seq (.ai (.z zm (.z (cZ aC) (.z zm (.nil ?_)))))
   refine .for (N:=n) (J:=fun m fr w=>fr=[(4,.slice (some ⟨b16,0,none⟩) n n)]∧∃rs,Sq n rs∧(m<n→xj n s.bY m (fun _ _=>False) (gt rs))∧(m=n→fm n s.bY (gt rs))∧St H w (.blk b16 (bs.map (ptr n))::(kJ bs rs++(.blk b1 [I s.many,.slice al s.bL.length cl]::σ)))) ak ?_ ?_ ?_
   ·exact .mk ⟨rfl,rs,hq,fun _=>hI,fun e=>by omega,hs⟩
   ·clear hI hB hq
    rintro m fr w hm ⟨rfl,rs,hq,hI,-,hs⟩
    replace hI:=hI hm
    refine .block (.ai (.z zm (.z zg (.nil (.ai (.z zm (.z (cZ aC) (.z zm (.nil ?_)))))))))
    refine .for (N:=n) (J:=fun i fr w=>fr=[(9,I (m:Int)),(76,I (m:Int)),(75,I (n:Int)),(4,.slice (some ⟨b16,0,none⟩) n n)]∧∃rs,Sq n rs∧xj n s.bY m (fun a _=>a<i) (gt rs)∧St H w (.blk b16 (bs.map (ptr n))::(kJ bs rs++(.blk b1 [I s.many,.slice al s.bL.length cl]::σ)))) ak ?_ ?_ ?_
    ·exact .mk ⟨rfl,rs,hq,hI.skip hcb hm (P:=fun _ _=>False) (fun i j h=>by omega) (fun _ _ _ _ h=>h.elim),hs⟩
    ·clear hI hq
     rintro i fr w hi ⟨rfl,rs,hq,hI,hs⟩
     refine .block (.ai (.z zm (.z zg (.nil (.ai (.z zm (.z (cZ aC) (.z zm (.nil ?_)))))))))
     refine .for (N:=n) (J:=fun k fr w=>fr=[(10,I (i:Int)),(81,I (i:Int)),(80,I (n:Int)),(9,I (m:Int)),(76,I (m:Int)),(75,I (n:Int)),(4,.slice (some ⟨b16,0,none⟩) n n)]∧∃rs,Sq n rs∧xj n s.bY m (fun a b=>a<i∨(a=i∧b<k)) (gt rs)∧St H w (.blk b16 (bs.map (ptr n))::(kJ bs rs++(.blk b1 [I s.many,.slice al s.bL.length cl]::σ)))) ak ?_ ?_ ?_
     ·exact .mk ⟨rfl,rs,hq,hI.skip hcb hm (P:=fun _ _=>False) (fun a b h=>by omega) (fun _ _ _ _ h=>h.elim),hs⟩
     ·clear hI hq
      rintro k fr w hk ⟨rfl,rs,hq,hI,hs⟩
      have hrl:=hq.1
      have c1:=hI.cl i m hi hm;have c2:=hI.cl m k hm hk
      have u1:=hI.up i m hi hm;have u2:=hI.up m k hm hk
      refine .block (.ai (.z zm (.z zg (.nil (.ai (.z zm (.z zm ?_)))))))
      first|(refine .ixw hs aC aA ?_;intro b91 o91 hc91)|refine .z (zix aC aA) ?_
      first|refine .q hs (fW rfl an (hm:=by repeat (first|exact .here|assumption|exact Mem.row ak ak|refine .there ?_|refine Mem.rO ?_)) (hv:=by first|rfl|exact eS ak|exact kP ea ak ak|exact iJ kL)) ?_|refine .q hs (aR rfl an ea) ?_
      refine .z zm ?_
      first|(refine .ixv hs ae aj ?_;intro b94 o94 hc94)|refine .z (zix ae aj) ?_
      first|refine .q hs (fW rfl af (hm:=by repeat (first|exact .here|assumption|exact Mem.row ak ak|refine .there ?_|refine Mem.rO ?_)) (hv:=by first|rfl|exact eS ak|exact kP ea ak ak|exact iJ kL)) ?_|refine .q hs (aR rfl af ea) ?_
      refine .z gE (.z zm ?_)
      refine .DQ (t':=97) rfl (fun hb97=>?_) (fun hb97=>?_)
      ·refine .gT rfl rfl ?_
       refine .z zm ?_
       refine .gT rfl rfl ?_
       refine .z zm ?_
       refine .gT rfl rfl ?_
       first|(refine .ixw hs aC aA ?_;intro b100 o100 hc100)|refine .z (zix aC aA) ?_
       refine .gT rfl rfl ?_
       first|refine .q hs (fW rfl an (hm:=by repeat (first|exact .here|assumption|exact Mem.row ak ak|refine .there ?_|refine Mem.rO ?_)) (hv:=by first|rfl|exact eS ak|exact kP ea ak ak|exact iJ kL)) ?_|refine .q hs (aR rfl an ea) ?_
       refine .gT rfl rfl ?_
       refine .z zm ?_
       refine .gT rfl rfl ?_
       first|(refine .ixv hs ae aj ?_;intro b103 o103 hc103)|refine .z (zix ae aj) ?_
       refine .gT rfl rfl ?_
       first|refine .q hs (fW rfl af (hm:=by repeat (first|exact .here|assumption|exact Mem.row ak ak|refine .there ?_|refine Mem.rO ?_)) (hv:=by first|rfl|exact eS ak|exact kP ea ak ak|exact iJ kL)) ?_|refine .q hs (aR rfl af ea) ?_
       refine .gT rfl rfl ?_
       refine .z gE (.z zpT (.nil ?_))
       refine (.ep rfl (fun hc106=>?_) (fun hc106=>?_))
       ·refine .draw mix rfl hs fun w hs=>?_
        replace u1:=u1 hb97;replace u2:=u2 hc106
        refine .z 0 rfl zm ?_;refine .z 1 rfl zm ?_
        first|(refine .ixw 2 rfl hs aC aA ?_;intro b109 o109 hc109)|refine .z 2 rfl (zix aC aA) ?_
        first|refine .load (i:=3) hs rfl aq .none rfl an ?_ (by repeat (first|exact .here|assumption|exact Mem.row ak ak|refine .there ?_|refine Mem.rO ?_)) (by first|rfl|exact eS ak|exact kP ea ak ak|exact iJ kL)|refine .r (i:=3) hs rfl aq .none (aR rfl an ea) ?_
        refine .z 4 rfl zm ?_;refine .z 5 rfl zm ?_;refine .z 6 rfl zm ?_
        first|(refine .ixw 7 rfl hs aC aA ?_;intro b114 o114 hc114)|refine .z 7 rfl (zix aC aA) ?_
        first|refine .load (i:=8) hs rfl aq .none rfl an ?_ (by repeat (first|exact .here|assumption|exact Mem.row ak ak|refine .there ?_|refine Mem.rO ?_)) (by first|rfl|exact eS ak|exact kP ea ak ak|exact iJ kL)|refine .r (i:=8) hs rfl aq .none (aR rfl an ea) ?_
        refine .z 9 rfl zm ?_
        first|(refine .ixv 10 rfl hs ae aj ?_;intro b117 o117 hc117)|refine .z 10 rfl (zix ae aj) ?_
        first|refine .load (i:=11) hs rfl aq .none rfl af ?_ (by repeat (first|exact .here|assumption|exact Mem.row ak ak|refine .there ?_|refine Mem.rO ?_)) (by first|rfl|exact eS ak|exact kP ea ak ak|exact iJ kL)|refine .r (i:=11) hs rfl aq .none (aR rfl af ea) ?_
        refine .z 12 rfl zm ?_;refine .z 13 rfl zm ?_
        first|(refine .ixw 14 rfl hs aC aA ?_;intro b121 o121 hc121)|refine .z 14 rfl (zix aC aA) ?_
        first|refine .load (i:=15) hs rfl aq .none rfl an ?_ (by repeat (first|exact .here|assumption|exact Mem.row ak ak|refine .there ?_|refine Mem.rO ?_)) (by first|rfl|exact eS ak|exact kP ea ak ak|exact iJ kL)|refine .r (i:=15) hs rfl aq .none (aR rfl an ea) ?_
        refine .z 16 rfl zm ?_
        first|(refine .ixv 17 rfl hs ae aj ?_;intro b124 o124 hc124)|refine .z 17 rfl (zix ae aj) ?_
        first|refine .load (i:=18) hs rfl aq .none rfl af ?_ (by repeat (first|exact .here|assumption|exact Mem.row ak ak|refine .there ?_|refine Mem.rO ?_)) (by first|rfl|exact eS ak|exact kP ea ak ak|exact iJ kL)|refine .r (i:=18) hs rfl aq .none (aR rfl af ea) ?_
        refine .z 19 rfl zm ?_;refine .z 20 rfl zm ?_
        first|(refine .ixw 21 rfl hs aC aA ?_;intro b128 o128 hc128)|refine .z 21 rfl (zix aC aA) ?_
        first|refine .load (i:=22) hs rfl aq .none rfl an ?_ (by repeat (first|exact .here|assumption|exact Mem.row ak ak|refine .there ?_|refine Mem.rO ?_)) (by first|rfl|exact eS ak|exact kP ea ak ak|exact iJ kL)|refine .r (i:=22) hs rfl aq .none (aR rfl an ea) ?_
        refine .z 23 rfl zm ?_
        first|(refine .ixv 24 rfl hs ae aj ?_;intro b131 o131 hc131)|refine .z 24 rfl (zix ae aj) ?_
        first|refine .load (i:=25) hs rfl aq .none rfl af ?_ (by repeat (first|exact .here|assumption|exact Mem.row ak ak|refine .there ?_|refine Mem.rO ?_)) (by first|rfl|exact eS ak|exact kP ea ak ak|exact iJ kL)|refine .r (i:=25) hs rfl aq .none (aR rfl af ea) ?_
        refine .z 26 rfl cf ?_;refine .z 27 rfl BE ?_;refine .z 28 rfl DP ?_
        first|(refine .ixv 29 rfl hs ae aj ?_;intro b136 o136 hc136)|refine .z 29 rfl (zix ae aj) ?_
        refine .ET 30 hs ?_
        refine .store hs rfl rfl aj ?_ (.there (Upd.row _ ak ak)) (AL (by rw [hq.2 _ hi];exact hk)) (yL _ _ _);intro w hs
        refine .go ?_
        refine .DT hs ?_
        refine nB (nT ?_)
        exact .mk ⟨rfl,_,hq.set hi _,by rw [FO hq hi hk];exact hI.step hcb hm hi hk (fun a b h=>by omega) hb97 hc106,hs⟩
       ·refine .skip ?_
        refine nB (nT ?_)
        exact .mk ⟨rfl,rs,hq,hI.skip hcb hm (P:=fun a b=>a=i∧b=k) (fun a b h=>by omega) (fun a b _ _ h=>by obtain ⟨rfl,rfl⟩:=h;exact .inr hc106),hs⟩
      ·refine .gFs 8 8 true rfl rfl rfl ?_
       refine .z zpF (.nil ?_)
       refine (.cF ?_)
       refine .skip ?_
       refine nB (nT ?_)
       exact .mk ⟨rfl,rs,hq,hI.skip hcb hm (P:=fun a b=>a=i∧b=k) (fun a b h=>by omega) (fun a b _ _ h=>by obtain ⟨rfl,rfl⟩:=h;exact .inl hb97),hs⟩
     ·rintro fr w ⟨rfl,rs,hq,hI,hs⟩
      refine nB (nT ?_)
      exact .mk ⟨rfl,rs,hq,hI.skip hcb hm (P:=fun a b=>a=i∧n≤b) (fun a b h=>by omega) (fun a b _ hb h=>by omega),hs⟩
    ·rintro fr w ⟨rfl,rs,hq,hI,hs⟩
     replace hI:xj n s.bY m (fun _ _=>True) (gt rs):=hI.skip hcb hm (P:=fun a _=>n≤a) (fun a b h=>by omega) (fun a b ha _ h=>by omega)
     refine nB (nT ?_)
     exact .mk ⟨rfl,rs,hq,fun h=>hI.next hcb h hn65,fun h=>hI.done hcb h.symm hn65,hs⟩
   ·rintro fr w ⟨rfl,rs,hq,-,hT,hs⟩
    replace hT:=hT rfl
    refine nT ?_
    refine .ai (.z zm (.z zg (.nil ?_)))
    refine .ret (Fin.bw Tryz.results207 rfl ?_)
    obtain ⟨H1,g1,g2,hs⟩:=wg hq hbl ak hs
    exact ⟨H1,rs,g1,g2,hq,hT,hs.tail⟩
theorem sd{vm:Value}{rs:List (List Int)}{n:Nat}(hs:St H w σ)(hM:RT H vm rs)(hq:Sq n rs)(hn:n≤1000):
  Cl Tryz.prog 208 [vm] w fun v w'=>∃b,v= .bool b∧(b=true↔∀i,i<n→¬gt rs i i<0)∧St H w' σ:=by
 obtain ⟨a,c,rfl⟩:=hM.shape
 have hrl:=hq.1
 refine Cl.o Tryz.func208 Tryz.ntmps208 ag1 ?_
 refine .ai (.z zg (.nil (.seq (.ai (.z zm (.z (cZ aC) (.z zm (.nil ?_))))))))
 refine .for (N:=rs.length) (J:=fun k fr w=>fr=[(0,.slice a rs.length c)]∧(∀i,i<k→¬gt rs i i<0)∧St H w σ) ak ?_ ?_ ?_
 ·exact .mk ⟨rfl,fun i h=>by omega,hs⟩
 ·rintro k fr w hk ⟨rfl,h0,hs⟩
  refine .block (.ai (.z zm (.z zg (.nil (.ai (.z zm (.z zm ?_)))))))
  refine .ixT hs hM rfl rfl aC aA hk rfl ?_;intro b11 o11 a11 c11 hc11 hR11
  refine .q hs (aR rfl an hc11) ?_
  refine .z zm ?_
  refine .ixY hs hR11 rfl rfl ae aj (bF (l:=gr rs k) (i:=k) (by rw [hq.2 k ak];omega)) rfl ?_;intro b14 o14 hc14
  refine .q hs (aR rfl af hc14) ?_
  refine .z iM (.nil ?_)
  refine (.bT rfl (fun hc16=>?_) (fun hc16=>?_))
  ·refine .ai (.z zg (.nil ?_))
   refine .ret (rB (rT (rB (rT (Fin.bw Tryz.results208 rfl ?_)))))
   exact ⟨false,rfl,⟨fun h=>(by cases h),fun h=>(h k ak hc16).elim⟩,hs⟩
  ·refine .skip ?_
   refine nB (nT ?_)
   exact .mk ⟨rfl,fun i hi=>by
    by_cases e:i=k
    ·subst e;exact hc16
    ·exact h0 i ak,hs⟩
 ·rintro fr w ⟨rfl,h0,hs⟩
  refine nT ?_
  refine .ai (.z zg (.nil ?_))
  refine .ret (Fin.bw Tryz.results208 rfl ?_)
  exact ⟨true,rfl,⟨fun _ i hi=>h0 i ak,fun _=>rfl⟩,hs⟩
theorem ic{p:Prop}[Decidable p]:(!decide p)=true↔¬p:=by simp
theorem fY{p:Prop}[Decidable p]:(!decide p)=false↔p:=by simp
theorem ek{a0 a1 a2:Int}(hs:St H w σ):Cl Tryz.prog 253 [I a0,I a1,I a2] w fun v w'=>v= .bool (decide (a1≤a0∧a0≤a2))∧St H w' σ:=by
 refine Cl.o Tryz.func253 Tryz.ntmps253 ag3 ?_
 refine .ai (.z zg (.nil (.ai (.z zm (.z zm (.z um (.z zm ?_)))))))
 refine .jM (t':=10) rfl (fun hb10=>?_) (fun hb10=>?_)
 ·refine .gT rfl rfl ?_
  refine .z zm ?_
  refine .gT rfl rfl ?_
  refine .z zm ?_
  refine .gT rfl rfl ?_
  refine .z um (.z zpT (.z zg (.nil ?_)))
  refine .ret (Fin.bw Tryz.results253 rfl ?_)
  exact ⟨by simp [*],hs.out⟩
 ·refine .gFs 3 3 true rfl rfl rfl ?_
  refine .z zpF (.z zg (.nil ?_))
  refine .ret (Fin.bw Tryz.results253 rfl ?_)
  exact ⟨by simp [*],hs.out⟩
theorem mJ{many:Int}{l:Lim}(hs:St H w σ):Cl Tryz.prog 256 [I many,.agg l.c.toArray] w fun v w'=>v=I (if decide (0≤many∧many≤64)&&l.ok many then 0 else 20)∧St H w' σ:=by
 refine Cl.o Tryz.func256 Tryz.ntmps256 ag2 ?_
 refine .ai ?_
 refine .bx hs fun b3 w hs=>?_
 refine .z zg (.nil (.seq (.ai (.z zm ?_))))
 refine .o (.call By rfl (ek hs) ?_);rintro _ w ⟨rfl,hs⟩
 refine .z gy (.z zm ?_)
 refine .bif (t':=8) rfl (fun hb8=>?_) (fun hb8=>?_)
 ·refine .gFs 5 3 false rfl rfl rfl ?_
  refine .z zpT (.z zm ?_)
  refine .gFs 5 10 false rfl rfl rfl ?_
  refine .z zpT (.z zm ?_)
  refine .gFs 5 17 false rfl rfl rfl ?_
  refine .z zpT (.z zm ?_)
  refine .gFs 4 24 false rfl rfl rfl ?_
  refine .z zpT (.z zm ?_)
  refine .gFs 4 30 false rfl rfl rfl ?_
  refine .z zpT (.nil ?_)
  refine (.cT ?_)
  refine .ai (.z zg (.nil ?_))
  refine .ret (rT (Fin.bw l8 rfl ?_))
  (try simp only [ic] at*)
  (try simp only [fY] at*)
  refine ⟨congrArg I ?_,hs.out⟩
  unfold Lim.ok
  first
   |(rw [if_pos (by simp only [Bool.and_eq_true,decide_eq_true_eq];omega)];done)
   |(rw [if_neg (by simp only [Bool.and_eq_true,decide_eq_true_eq];omega)];done)
 ·refine .gT rfl rfl ?_
  refine .z (zfa dC) ?_
  refine .gT rfl rfl ?_
  refine .y hs (zld af) ?_
  refine .gT rfl rfl ?_
  refine .z zm ?_
  refine .gT rfl rfl ?_
  refine .o (.call By rfl (ek hs) ?_);rintro _ w ⟨rfl,hs⟩
  refine .gT rfl rfl ?_
  refine .z gy (.z zpF (.z zm ?_))
  refine .bif (t':=15) rfl (fun hb15=>?_) (fun hb15=>?_)
  ·refine .gFs 5 10 false rfl rfl rfl ?_
   refine .z zpT (.z zm ?_)
   refine .gFs 5 17 false rfl rfl rfl ?_
   refine .z zpT (.z zm ?_)
   refine .gFs 4 24 false rfl rfl rfl ?_
   refine .z zpT (.z zm ?_)
   refine .gFs 4 30 false rfl rfl rfl ?_
   refine .z zpT (.nil ?_)
   refine (.cT ?_)
   refine .ai (.z zg (.nil ?_))
   refine .ret (rT (Fin.bw l8 rfl ?_))
   (try simp only [ic] at*)
   (try simp only [fY] at*)
   refine ⟨congrArg I ?_,hs.out⟩
   unfold Lim.ok
   first
    |(rw [if_pos (by simp only [Bool.and_eq_true,decide_eq_true_eq];omega)];done)
    |(rw [if_neg (by simp only [Bool.and_eq_true,decide_eq_true_eq];omega)];done)
  ·refine .gT rfl rfl ?_
   refine .z (zfa dN) ?_
   refine .gT rfl rfl ?_
   refine .y hs (zld af) ?_
   refine .gT rfl rfl ?_
   refine .z zm ?_
   refine .gT rfl rfl ?_
   refine .o (.call By rfl (ek hs) ?_);rintro _ w ⟨rfl,hs⟩
   refine .gT rfl rfl ?_
   refine .z gy (.z zpF (.z zm ?_))
   refine .bif (t':=22) rfl (fun hb22=>?_) (fun hb22=>?_)
   ·refine .gFs 5 17 false rfl rfl rfl ?_
    refine .z zpT (.z zm ?_)
    refine .gFs 4 24 false rfl rfl rfl ?_
    refine .z zpT (.z zm ?_)
    refine .gFs 4 30 false rfl rfl rfl ?_
    refine .z zpT (.nil ?_)
    refine (.cT ?_)
    refine .ai (.z zg (.nil ?_))
    refine .ret (rT (Fin.bw l8 rfl ?_))
    (try simp only [ic] at*)
    (try simp only [fY] at*)
    refine ⟨congrArg I ?_,hs.out⟩
    unfold Lim.ok
    first
     |(rw [if_pos (by simp only [Bool.and_eq_true,decide_eq_true_eq];omega)];done)
     |(rw [if_neg (by simp only [Bool.and_eq_true,decide_eq_true_eq];omega)];done)
   ·refine .gT rfl rfl ?_
    refine .z (zfa dC) ?_
    refine .gT rfl rfl ?_
    refine .y hs (zld af) ?_
    refine .gT rfl rfl ?_
    refine .z (zfa dN) ?_
    refine .gT rfl rfl ?_
    refine .y hs (zld af) ?_
    refine .gT rfl rfl ?_
    refine .z jU (.z zpF (.z zm ?_))
    refine .jM (t':=29) rfl (fun hb29=>?_) (fun hb29=>?_)
    ·refine .gFs 4 24 false rfl rfl rfl ?_
     refine .z zpT (.z zm ?_)
     refine .gFs 4 30 false rfl rfl rfl ?_
     refine .z zpT (.nil ?_)
     refine (.cT ?_)
     refine .ai (.z zg (.nil ?_))
     refine .ret (rT (Fin.bw l8 rfl ?_))
     (try simp only [ic] at*)
     (try simp only [fY] at*)
     refine ⟨congrArg I ?_,hs.out⟩
     unfold Lim.ok
     first
      |(rw [if_pos (by simp only [Bool.and_eq_true,decide_eq_true_eq];omega)];done)
      |(rw [if_neg (by simp only [Bool.and_eq_true,decide_eq_true_eq];omega)];done)
    ·refine .gT rfl rfl ?_
     refine .z (zfa eV) ?_
     refine .gT rfl rfl ?_
     refine .y hs (zld af) ?_
     refine .gT rfl rfl ?_
     refine .o (.call By rfl (ek hs) ?_);rintro _ w ⟨rfl,hs⟩
     refine .gT rfl rfl ?_
     refine .z gy (.z zpF (.z zm ?_))
     refine .bif (t':=35) rfl (fun hb35=>?_) (fun hb35=>?_)
     ·refine .gFs 4 30 false rfl rfl rfl ?_
      refine .z zpT (.nil ?_)
      refine (.cT ?_)
      refine .ai (.z zg (.nil ?_))
      refine .ret (rT (Fin.bw l8 rfl ?_))
      (try simp only [ic] at*)
      (try simp only [fY] at*)
      refine ⟨congrArg I ?_,hs.out⟩
      unfold Lim.ok
      first
       |(rw [if_pos (by simp only [Bool.and_eq_true,decide_eq_true_eq];omega)];done)
       |(rw [if_neg (by simp only [Bool.and_eq_true,decide_eq_true_eq];omega)];done)
     ·refine .gT rfl rfl ?_
      refine .z (zfa ja) ?_
      refine .gT rfl rfl ?_
      refine .y hs (zld af) ?_
      refine .gT rfl rfl ?_
      refine .o (.call By rfl (ek hs) ?_);rintro _ w ⟨rfl,hs⟩
      refine .gT rfl rfl ?_
      refine .z gy (.z zpF (.nil ?_))
      refine (.cond rfl (fun hc40=>?_) (fun hc40=>?_))
      ·refine .ai (.z zg (.nil ?_))
       refine .ret (rT (Fin.bw l8 rfl ?_))
       (try simp only [ic] at*)
       (try simp only [fY] at*)
       refine ⟨congrArg I ?_,hs.out⟩
       unfold Lim.ok
       first
        |(rw [if_pos (by simp only [Bool.and_eq_true,decide_eq_true_eq];omega)];done)
        |(rw [if_neg (by simp only [Bool.and_eq_true,decide_eq_true_eq];omega)];done)
      ·refine .skip ?_
       refine nT ?_
       refine .ai (.z zg (.nil ?_))
       refine .ret (Fin.bw l8 rfl ?_)
       (try simp only [ic] at*)
       (try simp only [fY] at*)
       refine ⟨congrArg I ?_,hs.out⟩
       unfold Lim.ok
       first
        |(rw [if_pos (by simp only [Bool.and_eq_true,decide_eq_true_eq];omega)];done)
        |(rw [if_neg (by simp only [Bool.and_eq_true,decide_eq_true_eq];omega)];done)
theorem se{v:Value}{s:bI}(hs:St H w σ)(hr:RSy H v s):Cl Tryz.prog 206 [v] w fun v w'=>v=I s.check∧St H w' σ:=by
 obtain ⟨u,rfl,hr⟩:=hr
 obtain ⟨a,c,rfl⟩:=RL.shape hr
 have hlen:=(RS.len (RS.Ji hr (Nat.le_refl _) (cap':=s.bL.length))).2.2
 refine Cl.o Tryz.func206 Tryz.ntmps206 ag1 ?_
 refine .ai ?_
 refine .bx hs fun b1 w hs=>?_
 refine .z zg (.nil (.seq (.ai (.z (zfa bM) (.y hs (zld af) ?_)))))
 refine .o (.call By rfl (ek hs) ?_);rintro _ w ⟨rfl,hs⟩
 refine .z gy (.nil ?_)
 refine (.cond rfl (fun hc8=>?_) (fun hc8=>?_))
 ·refine .ai (.z zg (.nil ?_))
  refine .ret (rT (Fin.bw Tryz.results206 rfl ?_))
  exact ⟨congrArg I (by unfold bI.check;rw [if_pos (by simp at hc8;omega)]),hs.out⟩
 ·refine .skip ?_
  refine nT ?_
  refine .seq (.ai (.z (zfa bJ) (.y hs (zld cu) (.z (cZ aH) (.z qH (.nil ?_))))))
  refine (.bT rfl (fun hc12=>?_) (fun hc12=>?_))
  ·refine .ai (.z zg (.nil ?_))
   refine .ret (rT (Fin.bw Tryz.results206 rfl ?_))
   exact ⟨congrArg I (by unfold bI.check;rw [if_neg (by simpa using hc8),if_pos ak]),hs.out⟩
  ·refine .skip ?_
   refine nT ?_
   refine .seq (.ai (.z (zfa bJ) (.y hs (zld cu) (.z (cZ aH) (.z zm (.nil ?_))))))
   refine .for (N:=s.bL.length) (J:=fun k fr w=>fr=[(14,.slice a s.bL.length c),(1,.pointer (some ⟨b1,0,none⟩))]∧(∀j<k,∀l,s.bL[j]? =some l→l.ok s.many=true)∧St H w (.blk b1 [I s.many,.slice a s.bL.length c]::σ)) ak ?_ ?_ ?_
   ·exact .mk ⟨rfl,fun j hj=>by omega,hs⟩
   ·rintro k fr w hk ⟨rfl,hno,hs⟩
    obtain ⟨x,hx⟩:=nth (l:=s.bL) hk
    refine .block (.ai ?_)
    refine .ixX (enc:=Lim.c) hs hr rfl rfl aH aQ hx rfl ?_;intro b18 o18 hc18
    refine .q hs (bK (vs:=x.c) rfl eE aQ hc18) ?_
    refine .o (.alloc hs dy rfl fun b4 w hs=>?_)
    refine .o (.aI (vs:=x.c) hs rfl rfl aQ fun w hs=>?_)
    refine .nil (.ai (.z (zfa bM) (.y hs (zld af) ?_)))
    refine .q hs (jZ (vs:=x.c) rfl eE aQ) ?_
    refine .o (.call Tryz.call256 rfl (mJ hs) ?_);rintro _ w ⟨rfl,hs⟩
    have hmm:0≤s.many∧s.many≤64:=by simpa using hc8
    rw [show (decide (0≤s.many∧s.many≤64)&&x.ok s.many)=x.ok s.many by rw [decide_eq_true hmm];rfl]
    refine .z gE (.nil ?_)
    refine (.ep rfl (fun hc24=>?_) (fun hc24=>?_))
    ·refine .ai (.z zg (.nil ?_))
     refine .ret (rB (rT (rB (rT (Fin.bw Tryz.results206 rfl ?_)))))
     exact ⟨congrArg I (by
      have hx0:x.ok s.many=false:=by cases e:x.ok s.many with|false=>rfl|true=>rw [e] at hc24;simp at hc24
      unfold bI.check;rw [if_neg (by simpa using hc8),if_neg ak,if_pos (List.any_eq_true.2 ⟨x,List.mem_of_getElem? hx,by rw [hx0];rfl⟩)]),hs.out⟩
    ·refine .skip ?_
     refine nB (nT ?_)
     exact .mk ⟨rfl,eK hno hx (by cases e:x.ok s.many with|true=>rfl|false=>rw [e] at hc24;simp at hc24),hs.tail⟩
   ·rintro fr w ⟨rfl,hno,hs⟩
    refine nT ?_
    refine .ai (.z zg (.nil ?_))
    refine .ret (Fin.bw Tryz.results206 rfl ?_)
    exact ⟨congrArg I (by
     have hall:(s.bL.any fun l=> !l.ok s.many)=false:=by
      simp only [List.any_eq_false,Bool.not_eq_true',Bool.not_eq_false]
      intro l hl
      obtain ⟨j,hj⟩:=List.getElem?_of_mem hl
      exact hno j (List.getElem?_eq_some_iff.1 hj).1 l hj
     unfold bI.check;rw [if_neg (by simpa using hc8),if_neg ak,hall];rfl),hs.out⟩
end Go.Proofs.YteajddicacjkhaaGreat
namespace Go.Proofs.YteajddicacjkhaaGreat
open Go.MW
def w9(a:dH)(b:Bool)(e:Int):Prop:=(iN a e∧e≠0∧b=false)∨(uN a∧e=0∧∃lo hi,dw a.sys a.ws lo hi 0∧b=decide (hi - lo≤a.width))
def G2(a:dH)(z x e:Int):Prop:=(iN a e∧e≠0∧x=0)∨(uN a∧e=0∧∃lo hi,dw a.sys a.ws lo hi 0∧x=if z≤lo then 1 else if hi<z then 0 else 2)
theorem Dl.uniq{a:dH}{n m e f:Int}(h:Dl a n e)(g:Dl a m f):n=m∧e=f:=by
 rcases h with ⟨h1,h2,h3⟩|⟨h1,h2,lo,hi,h3,h4⟩<;>rcases g with ⟨g1,g2,g3⟩|⟨g1,g2,lo',hi',g3,g4⟩
 ·exact ⟨by rw [h3,g3],h1.uniq g1⟩
 ·exact (h2 (h1.uniq (iN.zero.2 g1))).elim
 ·exact (g2 (g1.uniq (iN.zero.2 h1))).elim
 ·obtain ⟨rfl,rfl,-⟩:=h3.uniq g3;exact ⟨by rw [h4,g4],by rw [h2,g2]⟩
theorem w9.uniq{a:dH}{n m:Bool}{e f:Int}(h:w9 a n e)(g:w9 a m f):n=m∧e=f:=by
 rcases h with ⟨h1,h2,h3⟩|⟨h1,h2,lo,hi,h3,h4⟩<;>rcases g with ⟨g1,g2,g3⟩|⟨g1,g2,lo',hi',g3,g4⟩
 ·exact ⟨by rw [h3,g3],h1.uniq g1⟩
 ·exact (h2 (h1.uniq (iN.zero.2 g1))).elim
 ·exact (g2 (g1.uniq (iN.zero.2 h1))).elim
 ·obtain ⟨rfl,rfl,-⟩:=h3.uniq g3;exact ⟨by rw [h4,g4],by rw [h2,g2]⟩
theorem G2.uniq{a:dH}{z n m e f:Int}(h:G2 a z n e)(g:G2 a z m f):n=m∧e=f:=by
 rcases h with ⟨h1,h2,h3⟩|⟨h1,h2,lo,hi,h3,h4⟩<;>rcases g with ⟨g1,g2,g3⟩|⟨g1,g2,lo',hi',g3,g4⟩
 ·exact ⟨by rw [h3,g3],h1.uniq g1⟩
 ·exact (h2 (h1.uniq (iN.zero.2 g1))).elim
 ·exact (g2 (g1.uniq (iN.zero.2 h1))).elim
 ·obtain ⟨rfl,rfl,-⟩:=h3.uniq g3;exact ⟨by rw [h4,g4],by rw [h2,g2]⟩
def Dr(a:dH)(l:List Prb)(S:bI)(W:List Int)(e:Int):Prop:=(iK a l e∧e≠0∧S=⟨0,[]⟩∧W=[])∨(iK a l 0∧e=0∧S=Iy a l∧W=Iw a.ws)
theorem Dr.uniq{a:dH}{l:List Prb}{S T:bI}{W V:List Int}{e f:Int}(h:Dr a l S W e)(g:Dr a l T V f):S=T∧W=V∧e=f:=by
 rcases h with ⟨h1,h2,h3,h4⟩|⟨h1,h2,h3,h4⟩<;>rcases g with ⟨g1,g2,g3,g4⟩|⟨g1,g2,g3,g4⟩
 ·exact ⟨by rw [h3,g3],by rw [h4,g4],h1.uniq g1⟩
 ·exact (h2 (h1.uniq g1)).elim
 ·exact (g2 (g1.uniq h1)).elim
 ·exact ⟨by rw [h3,g3],by rw [h4,g4],by rw [h2,g2]⟩
def Dk(a:dH)(l:List Prb)(n e:Int):Prop:=(iK a l e∧e≠0∧n=0)∨(iK a l 0∧e=0∧sA a l n)
theorem Dk.uniq{a:dH}{l:List Prb}{n m e f:Int}(h:Dk a l n e)(g:Dk a l m f):n=m∧e=f:=by
 rcases h with ⟨h1,h2,h3⟩|⟨h1,h2,h3⟩<;>rcases g with ⟨g1,g2,g3⟩|⟨g1,g2,g3⟩
 ·exact ⟨by rw [h3,g3],h1.uniq g1⟩
 ·exact (h2 (h1.uniq g1)).elim
 ·exact (g2 (g1.uniq h1)).elim
 ·exact ⟨h3.uniq g3,by rw [h2,g2]⟩
inductive CWR(a:dH)(l:List Prb)(n m:Int)(us:List Use):Int→Prop
 |ask {e:Int} (h:iK a l e) (he:e≠0):CWR a l n m us e
 |bad {e:Int} (h:iK a l 0) (h1:kG (Iy a l) (Iw a.ws) m us e) (he:e≠0):CWR a l n m us 24
 |more (h:iK a l 0) (h1:kG (Iy a l) (Iw a.ws) m us 0) (he:n<m):CWR a l n m us 94
 |ok (h:iK a l 0) (h1:kG (Iy a l) (Iw a.ws) m us 0) (he:¬n<m):CWR a l n m us 0
theorem CWR.uniq{a:dH}{l:List Prb}{n m:Int}{us:List Use}{e f:Int}(h:CWR a l n m us e)(g:CWR a l n m us f):e=f:=by
 cases h with
 |ask h he=>
  cases g with
  |ask g _=>exact h.uniq g
  |bad g _ _=>exact (he (h.uniq g)).elim
  |more g _ _=>exact (he (h.uniq g)).elim
  |ok g _ _=>exact (he (h.uniq g)).elim
 |bad h h1 he=>
  cases g with
  |ask g ge=>exact (ge (g.uniq h)).elim
  |bad g _ _=>rfl
  |more g g1 _=>exact (he (h1.uniq g1)).elim
  |ok g g1 _=>exact (he (h1.uniq g1)).elim
 |more h h1 he=>
  cases g with
  |ask g ge=>exact (ge (g.uniq h)).elim
  |bad g g1 ge=>exact (ge (g1.uniq h1)).elim
  |more g _ _=>rfl
  |ok g _ ge=>exact (ge he).elim
 |ok h h1 he=>
  cases g with
  |ask g ge=>exact (ge (g.uniq h)).elim
  |bad g g1 ge=>exact (ge (g1.uniq h1)).elim
  |more g _ ge=>exact (he ge).elim
  |ok g _ _=>rfl
end Go.Proofs.YteajddicacjkhaaGreat
namespace Go.Proofs.YteajddicacjkhaaGreat
open Go.MW
variable{H:bB}{w:World}{σ:List Ent}
theorem km{v:Value}{l:List Int}{en:Ent}(hs:St H w (en::σ))(ho:bU 1 v (Is l) en)(hl:l.length≤1000000):
  Cl Tryz.prog 270 [v] w fun _ w'=>∃en',bU 1 v (Is l.reverse) en'∧St H w' (en'::σ):=by
 rcases ho with ⟨a,rfl,h2,rfl⟩|⟨b,len,cap,sp,rfl,rfl,h2,h3,h4⟩
 ·obtain rfl:l=[]:=by
   have:=congrArg List.length h2
   exact List.length_eq_zero_iff.1 (by simpa using this)
  have hs:=hs.tail
  refine Cl.o Tryz.func270 Tryz.ntmps270 ag1 ?_
  refine .ai (.z zm (.z (cZ ae) (.z gZ (.z zg (.z zg (.nil (.block ?_)))))))
  refine .loop (fun _:Unit=>⟨28,[],[(2,I 0),(3,I (-1))]⟩) (fun _ w=>St H w σ) (fun _=>0) () bD hs ?_
  rintro _ w hs
  refine .seq (.ai (.z zm (.z zm (.z iM (.nil ?_)))))
  refine (.bT rfl (fun hc9=>?_) (fun hc9=>?_))
  ·omega
  ·refine .exit ?_
   refine xT (xT (xB ?_))
   exact Fin.yx Tryz.results270 ⟨.nul,.nil 1 a,hs.nul⟩
 obtain rfl:len=l.length:=by simpa using h2.symm
 refine Cl.o Tryz.func270 Tryz.ntmps270 ag1 ?_
 refine .ai (.z zm (.z (cZ ae) (.z gZ (.z zg (.z zg (.nil (.block ?_)))))))
 refine .loop (fun p:Nat×List Int=>⟨28,[],[(2,I p.1),(3,I ((l.length:Int) - 1 - p.1)),(0,.slice (some ⟨b,0,none⟩) l.length cap)]⟩) (fun p w=>(2*p.1≤l.length+1∧nk l p.2 p.1)∧St H w (.blk b (Is p.2++sp)::σ)) (fun p=>l.length - p.1) (0,l) (.cons rfl (.dA rfl bV (.cons rfl (.nil rfl rfl)))) ⟨⟨bV,.start l⟩,hs⟩ ?_
 rintro ⟨i,L⟩ w ⟨⟨h5,h6⟩,hs⟩
 dsimp only at h5 h6 hs ⊢
 have hL:=h6.1
 refine .seq (.ai (.z zm (.z zm (.z iM (.nil ?_)))))
 refine (.bT rfl (fun hc9=>?_) (fun hc9=>?_))
 ·refine .skip ?_
  refine nT ?_
  refine .seq (.block ?_)
  refine .draw mix rfl hs fun w hs=>?_
  refine .z 0 rfl zm ?_;refine .z 1 rfl zm ?_;refine .z 2 rfl zm ?_;refine .z 3 rfl zm ?_;refine .z 4 rfl zm ?_;refine .z 5 rfl zm ?_
  refine .z 6 rfl (ke (k:=l.length - 1 - i) rfl rfl ae aj ak ak) ?_
  refine .load (i:=7) hs rfl aq .none rfl af ?_ (hv:=eR ak sp)
  refine .z 8 rfl zm ?_;refine .z 9 rfl zm ?_
  first|(refine .ixv 10 rfl hs ae aj ?_;intro b24 o24 hc24)|refine .z 10 rfl (zix ae aj) ?_
  refine .load (i:=11) hs rfl aq .none rfl af ?_ (hv:=eR ak sp)
  first|(refine .ixv 12 rfl hs ae aj ?_;intro b26 o26 hc26)|refine .z 12 rfl (zix ae aj) ?_
  refine .E 13 hs ?_
  refine .store hs rfl rfl aj ?_ e7 (by simp;omega) (kd ak sp _);intro w hs
  refine .go ?_
  refine .z 14 rfl (ke (k:=l.length - 1 - i) rfl rfl ae aj ak ak) ?_
  refine .E 15 hs ?_
  refine .store hs rfl rfl aj ?_ e7 (by simp;omega) (kd (by simp;omega) sp _);intro w hs
  refine .go ?_
  refine .D hs ?_
  refine nB (nT ?_)
  refine .region (.z zm (.z cf (.z zm (.z gZ (.z zg (.z zg (.nil ?_)))))))
  refine nT ?_
  exact ⟨(i+1,_),.cons rfl (.dA rfl (by push_cast;omega) (.cons rfl (.nil rfl rfl))),⟨⟨by dsimp only;omega,h6.step ak⟩,hs⟩,by dsimp only;omega⟩
 ·refine .exit ?_
  refine xT (xT (xB ?_))
  rw [h6.done ak] at hs
  exact Fin.yx Tryz.results270 ⟨_,.inr ⟨b,l.length,cap,sp,rfl,rfl,bV,by rw [←h3];simp,h4⟩,hs⟩
inductive F3(s:bI)(xs:List Int):Int→Prop
 |bad (h:s.check≠0) (h1:xs=[]):F3 s xs s.check
 |sound (h:s.Ok) (h1:s.Sound) (h2:xs=[]):F3 s xs 0
 |chain {st:BS} {x:Arc} {z k:Nat} (h:s.Ok) (h1:¬s.Sound) (h2:IP s.n s.bY st (some x)) (h3:z=oV st.by_ x.t (s.n+1)) (h4:1≤k) (h5:k≤s.n) (h6:oV st.by_ z k=z) (h7:xs=(wK st.by_ z k).reverse):F3 s xs 0
theorem F3.B1{s:bI}{xs:List Int}(h:F3 s xs 0):xs=[]↔s.Sound:=by
 generalize hz:(0:Int)=y at h
 cases h with
 |bad h=>exact (h hz.symm).elim
 |sound _ h1 h2=>exact ⟨fun _=>h1,fun _=>h2⟩
 | @chain st x z k _ h1 _ _ h4 _ _ h7=>exact ⟨fun h=>by
   have:=congrArg List.length (h7.symm.trans h)
   rw [List.length_reverse,mP] at this
   simp at this;omega,fun h=>(h1 h).elim⟩
theorem F3.err{s:bI}{xs:List Int}{e:Int}(h:F3 s xs e):e=s.check:=by
 cases h with
 |bad=>rfl
 |sound h=>exact (s.aP.2 h).symm
 |chain h=>exact (s.aP.2 h).symm
set_option maxHeartbeats 4000000 in
theorem su{v:Value}{s:bI}(hs:St H w σ)(hr:RSy H v s):
  Cl Tryz.prog 221 [v] w fun u w'=>∃H1 vx xs e,HLe H H1∧u= .tuple #[vx,I e]∧RI H1 vx xs∧F3 s xs e∧St H1 w' σ:=by
 obtain ⟨u,rfl,hr⟩:=hr
 obtain ⟨al,cl,rfl⟩:=RL.shape hr
 refine Cl.o Tryz.func221 Tryz.ntmps221 ag1 ?_
 refine .ai ?_
 refine .bx hs fun b1 w hs=>?_
 refine .z zg (.z zg (.nil (.seq (.ai (.y hs (zls [_,_] bg aE) ?_)))))
 refine .o (.call Tryz.call197 rfl (gX (s:=s) hs ⟨_,rfl,hr⟩) ?_);rintro _ w ⟨rfl,hs⟩
 refine .z zg (.nil (.ai (.z zm (.z gE (.nil ?_)))))
 refine (.ep rfl (fun hc14=>?_) (fun hc14=>?_))
 ·refine .ai (.z zm (.z zg (.z zg (.nil ?_))))
  refine .ret (rT (Fin.kn Tryz.results221 rfl rfl ?_))
  exact ⟨H,_,[],_,HLe.refl H,rfl,RS.nil H 1 none 0,.bad hc14 rfl,hs.out⟩
 ·refine .skip ?_
  refine nT ?_
  refine .seq (.draw mix rfl hs fun w hs=>?_)
  refine .z 0 rfl (zfa bM) ?_;refine .y 1 rfl hs af ?_;refine .ys 2 rfl hs [_,_] bg aE ?_
  refine .E 3 hs ?_
  have hok:s.Ok:=s.aP.1 (by simpa using hc14)
  have hoka:=hok.bY
  have hn:s.n=s.many.toNat+1:=rfl
  have hm0:=hok.m0
  have hm1:=hok.m1
  refine .call Tryz.call269 rfl (jA (s:=s) hs hok ⟨_,rfl,hr⟩) ?_;rintro _ w ⟨H1,b10,hle1,rfl,hit,hs⟩
  refine .go ?_
  refine .E 4 hs ?_
  have hnear:=kC (N:=s.many.toNat) hs ak (by rw [←hn];exact hoka) hit Tryz.call295
  rw [Int.toNat_of_nonneg hm0] at hnear
  refine .call Tryz.call225 rfl hnear ?_;rintro _ w ⟨H2,bc,bb,st,ov,vo,hle2,rfl,hov,hnr,hs⟩
  obtain ⟨a',rfl,ha'⟩:=hov.ptr
  refine .go ?_
  refine .z 5 rfl zm ?_;refine .z 6 rfl zex ?_;refine .z 7 rfl zex ?_;refine .z 8 rfl zex ?_;refine .z 9 rfl zg ?_;refine .z 10 rfl zg ?_;refine .z 11 rfl zg ?_;refine .D hs ?_
  refine .seq (.ai (.z zm ?_))
  refine .q hs (Cm rfl rfl Tryz.runUnderlying268) ?_
  refine .nil ?_
  refine (.cond rfl (fun hc26=>?_) (fun hc26=>?_))
  ·refine .ai (.z zg (.z zg (.nil ?_)))
   refine .ret (rT (Fin.kn Tryz.results221 rfl rfl ?_))
   exact ⟨H2,_,[],0,hle1.trans hle2,rfl,RS.nil H2 1 none 0,.sound hok (by
    obtain ⟨r,hN2,hr2⟩:=hnr
    cases ov with
    |none=>exact ⟨_,(hN2.sol (by rw [←hn];exact hoka) ak).1⟩
    |some x=>rw [ha'] at hc26;cases hc26) rfl,hs.out⟩
  ·refine .skip ?_
   refine nT ?_
   refine .ai (.z zm ?_)
   obtain ⟨x,rfl⟩:=OvR.yes ha' hc26
   obtain ⟨b3,e3,hrow⟩:=hov
   cases e3
   have hrowT:cellAt H2 b3 1=some (I x.t):=hrow.at 1
   have hmn:s.many+2=((s.many.toNat+2:Nat):Int):=by omega
   have hns:¬s.Sound:=by
    obtain ⟨r,hN2,hr2⟩:=hnr
    exact hN2.none (by rw [←hn];exact hoka) ak (by have:=hr2 bV;omega)
   obtain ⟨hlb,hrg,hxt⟩:st.by_.length=s.many.toNat+1∧(∀v<s.many.toNat+1,(ga st.by_ v).f<s.many.toNat+1)∧x.t<s.many.toNat+1:=by
    obtain ⟨r,hN2,hr2⟩:=hnr
    exact ⟨hN2.lb,fun v hv=>(hN2.rg v hv).1,(hoka.2 x (hN2.ovm x rfl)).2.1⟩
   have hpl:=fun k=>wz hrg hxt k
   refine .z znc (.z (zfa cN) ?_)
   refine .q hs (aR rfl af hrowT) ?_
   refine .z zg (.nil (.seq (.ai (.z (zfa bM) (.y hs (zld af) (.z cf ?_))))))
   rw [hmn]
   refine .z zm (.nil ?_)
   refine .for (N:=s.many.toNat+2) (J:=fun k fr w=>fr=[(8,I (oV st.by_ x.t k)),(6,.slice (some ⟨bb,0,none⟩) (s.many.toNat+1) (s.many.toNat+1))]∧St H2 w (.blk bc (Is st.cost):: .blk bb (iL st.by_):: .blk b1 [I s.many,.slice al s.bL.length cl]::σ)) ak ?_ ?_ ?_
   ·exact .mk ⟨rfl,hs⟩
   ·rintro k fr w hk ⟨rfl,hs⟩
    refine .block (.region (.z zm (.z zm ?_)))
    refine .q hs (u6 (k:=oV st.by_ x.t k) rfl rfl au aD rfl (hpl k)) ?_
    refine .z (zfa cH) ?_
    refine .q hs (fW rfl af (.there .here) (qz (j:=0) (by rw [hlb];exact hpl k) eW)) ?_
    refine .z zg (.nil ?_)
    refine nB (nT ?_)
    exact .mk ⟨rfl,hs.out⟩
   ·rintro fr w ⟨rfl,hs⟩
    obtain ⟨pd,hp1,hp2,hp3⟩:=Bd hrg hxt (m:=s.many.toNat+2) ak
    have hzl:=hpl (s.many.toNat+2)
    generalize hz:oV st.by_ x.t (s.many.toNat+2)=z at hp3 hzl ⊢
    have hzk:=fun k=>wz hrg hzl k
    refine nT ?_
    refine .ai (.z zg (.nil (.seq (.ai (.z zm (.z zg (.nil (.block ?_))))))))
    refine .loop (fun p:Nat×Value=>⟨62,[],[(9,p.2),(8,I (oV st.by_ z p.1)),(10,I z),(6,.slice (some ⟨bb,0,none⟩) (s.many.toNat+1) (s.many.toNat+1))]⟩)
     (fun p w=>p.1<pd∧∃en,bU 1 p.2 (Is (wK st.by_ z p.1)) en∧St H2 w (en:: .blk bc (Is st.cost):: .blk bb (iL st.by_):: .blk b1 [I s.many,.slice al s.bL.length cl]::σ))
     (fun p=>pd - p.1) (0,.slice none 0 0) bD
     ⟨ak,_,.nil 1 none,hs.nul⟩ ?_
    rintro ⟨k,v9⟩ w ⟨hk,en,hO,hs⟩
    dsimp only at hk hO ⊢
    refine .block (.ai (.z zm (.z zm (.z zm ?_))))
    refine .q hs (u6 (k:=oV st.by_ z k) rfl rfl au aD rfl (hzk k)) ?_
    refine .z (zfa dp) ?_
    refine .q hs (fW rfl af (.there (.there .here)) (qz (j:=3) (by rw [hlb];exact hzk k) eW)) ?_
    refine .o (.buildSlice (cells:=[_]) hs cA rfl rfl fun b49 w hs=>?_)
    refine .o (.append (ys:=[I (ga st.by_ (oV st.by_ z k)).l]) hs cn rfl rfl hO (.own .here rfl rfl) (by simp [Value.oneCell']) (fun l' h=>by simp [wK] at h;omega) ?_);intro v50 en50 w hO2 hs
    refine .z zg (.nil (.ai (.z zm (.z zm ?_))))
    refine .q hs (u6 (k:=oV st.by_ z k) rfl rfl au aD rfl (hzk k)) ?_
    refine .z (zfa cH) ?_
    refine .q hs (fW rfl af (by repeat (first|exact .here|refine .there ?_)) (qz (j:=0) (by rw [hlb];exact hzk k) eW)) ?_
    refine .z zg (.nil (.ai (.z zm (.z zm (.z jU (.nil ?_))))))
    refine (.bT rfl (fun hc58=>?_) (fun hc58=>?_))
    ·refine .exit ?_
     refine xN (xT (xB (nT ?_)))
     refine .ai (.z zm ?_)
     have hO3:bU 1 v50 (Is (wK st.by_ z (k+1))) en50:=by rw [vq];simpa [Is] using hO2
     have hkz:oV st.by_ z (k+1)=z:=by
      have h3:((ga st.by_ (oV st.by_ z k)).f:Int)=z:=by simpa using hc58
      show (ga st.by_ (oV st.by_ z k)).f=z
      omega
     refine .o (.call Tryz.call270 rfl (km hs hO3 (by rw [mP];omega)) ?_);rintro _ w ⟨en',hO4,hs⟩
     refine .nil (.ai (.z zm (.z zg (.z zg (.nil ?_)))))
     refine .ret (Fin.kn Tryz.results221 rfl rfl ?_)
     obtain ⟨H3,hle3,hRI,hs⟩:=bU.dM hO4 (by rw [List.length_reverse,mP];omega) hs .here
     exact ⟨H3,_,_,0,hle1.trans (hle2.trans hle3),rfl,hRI,.chain hok hns (by rw [hn];exact hnr) (by rw [hn];exact hz.symm) ak ak hkz rfl,hs.sb⟩
    ·refine .skip ?_
     refine nB (nT ?_)
     exact ⟨(k+1,v50),bD,⟨by
      dsimp only
      have:k+1≠pd:=fun e=>hc58 (congrArg (Nat.cast:Nat→Int) (show oV st.by_ z (k+1)=z by rw [e];exact hp3))
      omega,en50,by rw [vq];simpa [Is] using hO2,hs.sb⟩,by dsimp only;omega⟩
end Go.Proofs.YteajddicacjkhaaGreat
namespace Go.Proofs.YteajddicacjkhaaGreat
open Go.MW
inductive yO(a:dH)(l:List Prb)(vs:List Int):Int→Prop
 |ask {e:Int} (h:iK a l e) (he:e≠0):yO a l vs e
 |size (h:iK a l 0) (h1:vs.length≠l.length):yO a l vs 92
 |ok (h:iK a l 0) (h1:vs.length=l.length):yO a l vs 0
theorem yO.zero{a:dH}{l:List Prb}{vs:List Int}(h:yO a l vs 0):iK a l 0∧vs.length=l.length:=by
 generalize hz:(0:Int)=y at h
 cases h with
 |ask _ he=>exact (he hz.symm).elim
 |size=>omega
 |ok h h1=>exact ⟨h,h1⟩
theorem yO.uniq{a:dH}{l:List Prb}{vs:List Int}{e f:Int}(h:yO a l vs e)(g:yO a l vs f):e=f:=by
 cases h with
 |ask h he=>
  cases g with
  |ask g _=>exact h.uniq g
  |size g _=>exact (he (h.uniq g)).elim
  |ok g _=>exact (he (h.uniq g)).elim
 |size h h1=>
  cases g with
  |ask g ge=>exact (ge (g.uniq h)).elim
  |size=>rfl
  |ok _ g1=>exact (h1 g1).elim
 |ok h h1=>
  cases g with
  |ask g ge=>exact (ge (g.uniq h)).elim
  |size _ g1=>exact (g1 h1).elim
  |ok=>rfl
end Go.Proofs.YteajddicacjkhaaGreat
namespace Go.Proofs.YteajddicacjkhaaGreat
open Go.MW
variable{H:bB}{w:World}{σ:List Ent}
structure nm(s:bI)(x:List Int):Prop where
 len:x.length=s.n
 zero:gi x 0=0
 free:∀v<s.n,-1000000000≤gi x v∧gi x v≤1000000000
 wP:ew s.bY (gi x)
theorem lT{v:Value}{s:bI}(hs:St H w σ)(hr:RSy H v s):
  Cl Tryz.prog 147 [v] w fun u w'=>∃H1 vt e,HLe H H1∧u= .tuple #[vt,I e]∧((s.check≠0∧e=s.check∧vt= .slice none 0 0)∨(s.Ok∧¬s.Sound∧e=23∧vt= .slice none 0 0)∨(s.Ok∧s.Sound∧e=0∧∃rs,RT H1 vt rs∧Sq s.n rs∧fm s.n s.bY (gt rs)))∧St H1 w' σ:=by
 obtain ⟨ul,rfl,hl⟩:=hr
 obtain ⟨al,cl,rfl⟩:=RL.shape hl
 refine Cl.o Tryz.func147 Tryz.ntmps147 ag1 ?_
 refine .ai ?_
 refine .bx hs fun b1 w hs=>?_
 refine .z zg (.z zg (.nil (.ai (.y hs (zls [_,_] bg aE) ?_))))
 refine .o (.call Tryz.call206 rfl (se (s:=s) hs ⟨_,rfl,hl⟩) ?_);rintro _ w ⟨rfl,hs⟩
 refine .z zg (.nil (.seq (.ai (.z zm (.z gE (.nil ?_))))))
 refine (.ep rfl (fun hc9=>?_) (fun hc9=>?_))
 ·refine .ai (.z zm (.z zg (.z zg (.nil ?_))))
  refine .ret (rT (Fin.kn Tryz.results147 rfl rfl ?_))
  exact ⟨H,_,_,HLe.refl H,rfl,.inl ⟨hc9,rfl,rfl⟩,hs.out⟩
 ·refine .skip ?_
  refine nT ?_
  refine .ai (.y hs (zls [_,_] bg aE) ?_)
  have hok:s.Ok:=s.aP.1 (by simpa using hc9)
  have hm1:=hok.m1
  refine .o (.call Tryz.call207 rfl (tr (s:=s) hs ⟨_,rfl,hl⟩ hok) ?_);rintro v12 w ⟨H1,rs,hle1,hRT,hSq,hWT,hs⟩
  obtain ⟨at',ct,rfl⟩:=hRT.shape
  refine .z zg (.nil (.seq (.ai (.z zm ?_))))
  refine .o (.call Tryz.call208 rfl (sd hs hRT hSq (by simp only [bI.n];omega)) ?_);rintro _ w ⟨b,rfl,hb,hs⟩
  have hbs:=hb.trans (A1 hok hWT).symm
  refine .z gy (.nil ?_)
  refine (.cond rfl (fun hc15=>?_) (fun hc15=>?_))
  ·refine .ai (.z zg (.z zg (.nil ?_)))
   refine .ret (rT (Fin.kn Tryz.results147 rfl rfl ?_))
   exact ⟨H1,_,_,hle1,rfl,.inr (.inl ⟨hok,fun h=>by simp [hbs.2 h] at hc15,rfl,rfl⟩),hs.out⟩
  ·refine .skip ?_
   refine nT ?_
   refine .ai (.z zm (.z zg (.z zg (.nil ?_))))
   refine .ret (Fin.kn Tryz.results147 rfl rfl ?_)
   exact ⟨H1,_,_,hle1,rfl,.inr (.inr ⟨hok,hbs.1 (by simpa using hc15),rfl,rs,hRT,hSq,hWT⟩),hs.out⟩
end Go.Proofs.YteajddicacjkhaaGreat
namespace Go.Proofs.YteajddicacjkhaaGreat
open Go.MW
inductive G9(s:bI)(x:List Int):Int→Prop
 |bad (h:s.check≠0):G9 s x s.check
 |off (h:s.Ok) (h1:¬nm s x):G9 s x 25
 |ok (h:s.Ok) (h1:nm s x):G9 s x 0
theorem G9.uniq{s:bI}{x:List Int}{e f:Int}(h:G9 s x e)(g:G9 s x f):e=f:=by
 cases h with
 |bad h=>
  cases g with
  |bad=>rfl
  |off g _=>exact (h (s.aP.2 g)).elim
  |ok g _=>exact (h (s.aP.2 g)).elim
 |off h h1=>
  cases g with
  |bad g=>exact (g (s.aP.2 h)).elim
  |off=>rfl
  |ok _ g1=>exact (h1 g1).elim
 |ok h h1=>
  cases g with
  |bad g=>exact (g (s.aP.2 h)).elim
  |off _ g1=>exact (g1 h1).elim
  |ok=>rfl
def JB(a:dH)(p:Prb)(lo hi e:Int):Prop:=(iK a [p] e∧e≠0∧lo=0∧hi=0)∨(iK a [p] 0∧e=0∧∃l h,dw a.sys (Hh a.sys.many p.u) l h 0∧lo=l - p.t∧hi=h+p.t)
theorem JB.uniq{a:dH}{p:Prb}{lo hi e lo' hi' e':Int}(h:JB a p lo hi e)(g:JB a p lo' hi' e'):lo=lo'∧hi=hi'∧e=e':=by
 rcases h with ⟨h1,h2,h3,h4⟩|⟨h1,h2,l,u,h3,h4,h5⟩
 ·rcases g with ⟨g1,g2,g3,g4⟩|⟨g1,g2,_⟩
  ·exact ⟨ak,ak,h1.uniq g1⟩
  ·exact (h2 (h1.uniq g1)).elim
 ·rcases g with ⟨g1,g2,g3,g4⟩|⟨g1,g2,l',u',g3,g4,g5⟩
  ·exact (g2 (g1.uniq h1)).elim
  ·obtain ⟨rfl,rfl,_⟩:=h3.uniq g3
   exact ⟨ak,ak,ak⟩
end Go.Proofs.YteajddicacjkhaaGreat
namespace Go.Proofs.YteajddicacjkhaaGreat
open Go.MW
variable{H:bB}{w:World}{σ:List Ent}
theorem xd{v:Value}{ls:List Int}{g:Nat}{cap:List Value}{q:Int→Prop}(hs:St H w σ)(hr:RI H v ls)
  (hc:∀args w,(callFunc g args).run Tryz.prog w= .ok (.enter g args) w) (hp:∀w l,St H w σ→Cl Tryz.prog g ([I l]++cap) w fun u w'=>∃b,u= .bool b∧(b=true↔q l)∧St H w' σ):
  Cl Tryz.prog 228 [v,.func (.func g) #[] cap.toArray] w fun u w'=>∃i,u=I i∧(0≤i↔∃p∈ls,q p)∧St H w' σ:=by
 obtain ⟨a,c,rfl⟩:=RI.shape hr
 have hl:=(RI.len hr).2.2
 refine Cl.o Tryz.func228 Tryz.ntmps228 ag2 ?_
 refine .ai (.z zg (.nil (.seq (.ai (.z zm (.z (cZ ae) (.z zm (.nil ?_))))))))
 refine .for (N:=ls.length) (J:=fun k fr w=>fr=[(1,.func (.func g) #[] cap.toArray),(0,.slice a ls.length c)]∧St H w σ∧∀j<k,∀l,ls[j]? =some l→¬q l) ak ?_ ?_ ?_
 ·exact .mk ⟨rfl,hs,fun j hj=>by omega⟩
 ·rintro k fr w hk ⟨rfl,hs,hno⟩
  obtain ⟨l,hl⟩:=nth hk
  refine .block (.ai (.z zm (.z zg (.nil (.ai (.z zm (.z zm (.z zm ?_))))))))
  first|(refine .ixv hs ae aj ?_;intro b14 o14 hc14)|refine .z (zix ae aj) ?_
  refine .y hs (zld af) ?_
  refine .o (.nO (first:=[]) rfl rfl hc (hp _ _ hs) ?_);rintro _ w ⟨b16,rfl,hb16,hs⟩
  refine .nil ?_
  refine (.cond rfl (fun hc16=>?_) (fun hc16=>?_))
  ·refine .ai (.z zm (.z zg (.nil ?_)))
   refine .ret (rB (rT (rB (rT (Fin.bw sE rfl ?_)))))
   exact ⟨_,rfl,⟨fun _=>⟨l,List.mem_of_getElem? hl,hb16.1 hc16⟩,fun _=>by omega⟩,hs⟩
  ·refine .skip ?_
   refine nB (nT ?_)
   exact .mk ⟨rfl,hs,eK hno hl (fun h=>by rw [hb16.2 h] at hc16;cases hc16)⟩
 ·rintro fr w ⟨rfl,hs,hno⟩
  refine nT ?_
  refine .ai (.z zg (.nil ?_))
  refine .ret (Fin.bw sE rfl ?_)
  exact ⟨_,rfl,⟨fun h=>by omega,fun ⟨p,h1,h2⟩=>by
   obtain ⟨j,hj⟩:=List.getElem?_of_mem h1
   exact (hno j (List.getElem?_eq_some_iff.1 hj).1 p hj h2).elim⟩,hs⟩
theorem sB{v:Value}{ls:List Int}{g:Nat}{cap:List Value}{q:Int→Prop}(hs:St H w σ)(hr:RI H v ls)
  (hc:∀args w,(callFunc g args).run Tryz.prog w= .ok (.enter g args) w) (hp:∀w l,St H w σ→Cl Tryz.prog g ([I l]++cap) w fun u w'=>∃b,u= .bool b∧(b=true↔q l)∧St H w' σ):
  Cl Tryz.prog 185 [v,.func (.func g) #[] cap.toArray] w fun u w'=>∃b,u= .bool b∧(b=true↔∃p∈ls,q p)∧St H w' σ:=by
 refine Cl.o Tryz.func185 Tryz.ntmps185 ag2 ?_
 refine .ai (.z zg (.nil (.ai (.z zm (.z zm ?_)))))
 refine .o (.call Tryz.call228 rfl (xd hs hr hc hp) ?_);rintro _ w ⟨i,rfl,hi,hs⟩
 refine .z y7 (.z zg (.nil ?_))
 refine .ret (Fin.bw Tryz.results185 rfl ?_)
 exact ⟨_,rfl,by simp only [decide_eq_true_eq];exact hi,hs⟩
theorem qn{n:Int}(hs:St H w σ):Cl Tryz.prog 198 [I n] w fun v w'=>∃b,v= .bool b∧(b=true↔¬(-1000000000≤n∧n≤1000000000))∧St H w' σ:=by
 refine Cl.o Tryz.func198 Tryz.ntmps198 ag1 ?_
 refine .ai (.z zg (.nil (.ai (.z zm ?_))))
 refine .o (.call BA rfl (eu hs) ?_);rintro _ w ⟨rfl,hs⟩
 refine .z gy (.z zg (.nil ?_))
 refine .ret (Fin.bw Tryz.results198 rfl ?_)
 exact ⟨_,rfl,by simp;omega,hs⟩
theorem ng{v vx:Value}{s:bI}{x:List Int}(hs:St H w σ)(hr:RSy H v s)(hx:RI H vx x):
  Cl Tryz.prog 134 [v,vx] w fun u w'=>∃e,u=I e∧G9 s x e∧St H w' σ:=by
 obtain ⟨ul,rfl,hl⟩:=hr
 obtain ⟨al,cl,rfl⟩:=RL.shape hl
 obtain ⟨ax,cx,rfl⟩:=RI.shape hx
 refine Cl.o Tryz.func134 Tryz.ntmps134 ag2 ?_
 refine .ai ?_
 refine .bx hs fun b2 w hs=>?_
 refine .z zg (.nil (.seq (.ai (.y hs (zls [_,_] bg aE) ?_))))
 refine .o (.call Tryz.call197 rfl (gX (s:=s) hs ⟨_,rfl,hl⟩) ?_);rintro _ w ⟨rfl,hs⟩
 refine .z zg (.nil (.ai (.z zm (.z gE (.nil ?_)))))
 skip
 refine (.ep rfl (fun hc11=>?_) (fun hc11=>?_))
 ·refine .ai (.z zm (.z zg (.nil ?_)))
  refine .ret (rT (Fin.bw sG rfl ?_))
  exact ⟨_,rfl,.bad hc11,hs.out⟩
 ·refine .skip ?_
  refine nT ?_
  refine .seq (.ai ?_)
  have hok:s.Ok:=s.aP.1 (by simpa using hc11)
  have hm0:=hok.m0
  have hm1:=hok.m1
  have hll:=hok.len
  have hnn:(s.n:Int)=s.many+1:=by simp only [bI.n];omega
  refine .z zm (.z (cZ ae) (.z (zfa bM) (.y hs (zld af) (.z cf (.z gE (.z zm ?_))))))
  refine .DQ (t':=19) rfl (fun hb19=>?_) (fun hb19=>?_)
  ·refine .gFs 4 6 false rfl rfl rfl ?_
   refine .z zpT (.z zm ?_)
   refine .gFs 2 12 false rfl rfl rfl ?_
   refine .z zpT (.nil ?_)
   refine (.cT ?_)
   refine .ai (.z zg (.nil ?_))
   refine .ret (rT (Fin.bw sG rfl ?_))
   first
    |exact ⟨_,rfl,.ok hok ⟨ak,by first|omega|(simpa using hb25),fun v hv=>hfree v ak,dU.2 fun y hy=>by
      obtain ⟨i,hi⟩:=List.getElem?_of_mem hy
      exact h1 i (List.getElem?_eq_some_iff.1 hi).1 y hi⟩,hs.out⟩
    |exact ⟨_,rfl,.off hok (fun h=>by have:=h.len;omega),hs.out⟩
    |exact ⟨_,rfl,.off hok (fun h=>by have:=h.zero;first|omega|(simp at hb25;omega)),hs.out⟩
    |exact ⟨_,rfl,.off hok (fun h=>by
      obtain ⟨p,h1,h2⟩:=hb27.1 hc28
      obtain ⟨i,hi⟩:=List.getElem?_of_mem h1
      have hil:=(List.getElem?_eq_some_iff.1 hi).1
      have:=bF hil
      rw [hi] at this
      cases this
      exact h2 (h.free i (by have:=h.len;omega))),hs.out⟩
    |exact ⟨_,rfl,.off hok (fun h=>by
      have h8:=dU.1 h.wP y (List.mem_of_getElem? hy)
      omega),hs.out⟩
  ·refine .gT rfl rfl ?_
   refine .z zm ?_
   refine .gT rfl rfl ?_
   refine .ixX (enc:=fun x=>[I x]) hs hx rfl rfl ae aj (bF (l:=x) (i:=0) ak) rfl ?_;intro b21 o21 hc21;replace hc21:=bO.one hc21
   refine .gT rfl rfl ?_
   refine .y hs (zld af) ?_
   refine .gT rfl rfl ?_
   refine .z gE (.z zpF (.z zm ?_))
   refine .DQ (t':=25) rfl (fun hb25=>?_) (fun hb25=>?_)
   ·refine .gFs 2 12 false rfl rfl rfl ?_
    refine .z zpT (.nil ?_)
    refine (.cT ?_)
    refine .ai (.z zg (.nil ?_))
    refine .ret (rT (Fin.bw sG rfl ?_))
    first
     |exact ⟨_,rfl,.ok hok ⟨ak,by first|omega|(simpa using hb25),fun v hv=>hfree v ak,dU.2 fun y hy=>by
       obtain ⟨i,hi⟩:=List.getElem?_of_mem hy
       exact h1 i (List.getElem?_eq_some_iff.1 hi).1 y hi⟩,hs.out⟩
     |exact ⟨_,rfl,.off hok (fun h=>by have:=h.len;omega),hs.out⟩
     |exact ⟨_,rfl,.off hok (fun h=>by have:=h.zero;first|omega|(simp at hb25;omega)),hs.out⟩
     |exact ⟨_,rfl,.off hok (fun h=>by
       obtain ⟨p,h1,h2⟩:=hb27.1 hc28
       obtain ⟨i,hi⟩:=List.getElem?_of_mem h1
       have hil:=(List.getElem?_eq_some_iff.1 hi).1
       have:=bF hil
       rw [hi] at this
       cases this
       exact h2 (h.free i (by have:=h.len;omega))),hs.out⟩
     |exact ⟨_,rfl,.off hok (fun h=>by
       have h8:=dU.1 h.wP y (List.mem_of_getElem? hy)
       omega),hs.out⟩
   ·refine .gT rfl rfl ?_
    refine .z zm ?_
    refine .gT rfl rfl ?_
    refine .o (.call Tryz.call185 rfl (sB (q:=fun n=>¬(-1000000000≤n∧n≤1000000000)) (cap:=[]) hs hx Tryz.call198 (fun w n hs=>qn hs)) ?_);rintro _ w ⟨b27,rfl,hb27,hs⟩
    refine .z zpF (.nil ?_)
    refine (.cond rfl (fun hc28=>?_) (fun hc28=>?_))
    ·refine .ai (.z zg (.nil ?_))
     refine .ret (rT (Fin.bw sG rfl ?_))
     first
      |exact ⟨_,rfl,.ok hok ⟨ak,by first|omega|(simpa using hb25),fun v hv=>hfree v ak,dU.2 fun y hy=>by
        obtain ⟨i,hi⟩:=List.getElem?_of_mem hy
        exact h1 i (List.getElem?_eq_some_iff.1 hi).1 y hi⟩,hs.out⟩
      |exact ⟨_,rfl,.off hok (fun h=>by have:=h.len;omega),hs.out⟩
      |exact ⟨_,rfl,.off hok (fun h=>by have:=h.zero;first|omega|(simp at hb25;omega)),hs.out⟩
      |exact ⟨_,rfl,.off hok (fun h=>by
        obtain ⟨p,h1,h2⟩:=hb27.1 hc28
        obtain ⟨i,hi⟩:=List.getElem?_of_mem h1
        have hil:=(List.getElem?_eq_some_iff.1 hi).1
        have:=bF hil
        rw [hi] at this
        cases this
        exact h2 (h.free i (by have:=h.len;omega))),hs.out⟩
      |exact ⟨_,rfl,.off hok (fun h=>by
        have h8:=dU.1 h.wP y (List.mem_of_getElem? hy)
        omega),hs.out⟩
    ·refine .skip ?_
     refine nT ?_
     refine .seq (.ai (.z (zfa bJ) (.y hs (zld cu) (.z (cZ aH) (.z zm (.nil ?_))))))
     refine .for (N:=s.bL.length) (J:=fun k fr w=>fr=[(30,.slice al s.bL.length cl),(1,.slice ax x.length cx)]∧(∀i<k,∀y,s.bL[i]? =some y→gi x y.B.toNat≤gi x y.A.toNat+y.M)∧St H w (.blk b2 [I s.many,.slice al s.bL.length cl]::σ)) ak ?_ ?_ ?_
     ·exact .mk ⟨rfl,fun i hi=>by omega,hs⟩
     ·have hfree:∀v<x.length,-1000000000≤gi x v∧gi x v≤1000000000:=fun v hv=>by
       apply Classical.byContradiction
       intro h
       have:=hb27.2 ⟨gi x v,List.mem_of_getElem? (bF hv),h⟩
       subst this
       simp at hc28
      rintro k fr w hk ⟨rfl,h1,hs⟩
      obtain ⟨y,hy⟩:=nth hk
      obtain ⟨⟨y1,y2⟩,⟨y3,y4⟩,y5,y6,-⟩:=hok.lim y (List.mem_of_getElem? hy)
      have z1:=hfree y.B.toNat ak
      have z2:=hfree y.A.toNat ak
      refine .block (.ai ?_)
      refine .ixX (enc:=Lim.c) hs hl rfl rfl aH aQ hy rfl ?_;intro b34 o34 hc34
      refine .q hs (bK (vs:=y.c) rfl eE aQ hc34) ?_
      refine .o (.alloc hs dy rfl fun b7 w hs=>?_)
      refine .o (.aI (vs:=y.c) hs rfl rfl aQ fun w hs=>?_)
      refine .nil ?_
      refine .seq (.draw mix rfl hs fun w hs=>?_)
      refine .z 0 rfl zm ?_;refine .z 1 rfl (zfa dN) ?_;refine .y 2 rfl hs af ?_
      refine .ixX (enc:=fun x=>[I x]) (i:=3) hs rfl aq .none hx rfl rfl ae aj (bF (l:=x) (i:=y.B.toNat) ak) ak ?_;intro b39 o39 hc39;replace hc39:=bO.one hc39
      refine .r (i:=4) hs rfl aq .none (aR rfl af hc39) ?_
      refine .z 5 rfl zm ?_;refine .z 6 rfl (zfa dC) ?_;refine .y 7 rfl hs af ?_
      refine .ixX (enc:=fun x=>[I x]) (i:=8) hs rfl aq .none hx rfl rfl ae aj (bF (l:=x) (i:=y.A.toNat) ak) ak ?_;intro b44 o44 hc44;replace hc44:=bO.one hc44
      refine .r (i:=9) hs rfl aq .none (aR rfl af hc44) ?_
      refine .z 10 rfl gZ ?_;refine .z 11 rfl (zfa eV) ?_;refine .y 12 rfl hs af ?_;refine .z 13 rfl qH ?_;refine .D hs ?_
      refine (.bT rfl (fun hc49=>?_) (fun hc49=>?_))
      ·refine .ai (.z zg (.nil ?_))
       refine .ret (rB (rT (rB (rT (Fin.bw sG rfl ?_)))))
       first
        |exact ⟨_,rfl,.ok hok ⟨ak,by first|omega|(simpa using hb25),fun v hv=>hfree v ak,dU.2 fun y hy=>by
          obtain ⟨i,hi⟩:=List.getElem?_of_mem hy
          exact h1 i (List.getElem?_eq_some_iff.1 hi).1 y hi⟩,hs.out⟩
        |exact ⟨_,rfl,.off hok (fun h=>by have:=h.len;omega),hs.out⟩
        |exact ⟨_,rfl,.off hok (fun h=>by have:=h.zero;first|omega|(simp at hb25;omega)),hs.out⟩
        |exact ⟨_,rfl,.off hok (fun h=>by
          obtain ⟨p,h1,h2⟩:=hb27.1 hc28
          obtain ⟨i,hi⟩:=List.getElem?_of_mem h1
          have hil:=(List.getElem?_eq_some_iff.1 hi).1
          have:=bF hil
          rw [hi] at this
          cases this
          exact h2 (h.free i (by have:=h.len;omega))),hs.out⟩
        |exact ⟨_,rfl,.off hok (fun h=>by
          have h8:=dU.1 h.wP y (List.mem_of_getElem? hy)
          omega),hs.out⟩
      ·refine .skip ?_
       refine nB (nT ?_)
       exact .mk ⟨rfl,fun i hi z hz=>by
        by_cases e:i=k
        ·subst e;rw [hy] at hz;cases hz;omega
        ·exact h1 i ak z hz,hs.out⟩
     ·have hfree:∀v<x.length,-1000000000≤gi x v∧gi x v≤1000000000:=fun v hv=>by
       apply Classical.byContradiction
       intro h
       have:=hb27.2 ⟨gi x v,List.mem_of_getElem? (bF hv),h⟩
       subst this
       simp at hc28
      rintro fr w ⟨rfl,h1,hs⟩
      refine nT ?_
      refine .ai (.z zg (.nil ?_))
      refine .ret (Fin.bw sG rfl ?_)
      first
       |exact ⟨_,rfl,.ok hok ⟨ak,by first|omega|(simpa using hb25),fun v hv=>hfree v ak,dU.2 fun y hy=>by
         obtain ⟨i,hi⟩:=List.getElem?_of_mem hy
         exact h1 i (List.getElem?_eq_some_iff.1 hi).1 y hi⟩,hs.out⟩
       |exact ⟨_,rfl,.off hok (fun h=>by have:=h.len;omega),hs.out⟩
       |exact ⟨_,rfl,.off hok (fun h=>by have:=h.zero;first|omega|(simp at hb25;omega)),hs.out⟩
       |exact ⟨_,rfl,.off hok (fun h=>by
         obtain ⟨p,h1,h2⟩:=hb27.1 hc28
         obtain ⟨i,hi⟩:=List.getElem?_of_mem h1
         have hil:=(List.getElem?_eq_some_iff.1 hi).1
         have:=bF hil
         rw [hi] at this
         cases this
         exact h2 (h.free i (by have:=h.len;omega))),hs.out⟩
       |exact ⟨_,rfl,.off hok (fun h=>by
         have h8:=dU.1 h.wP y (List.mem_of_getElem? hy)
         omega),hs.out⟩
end Go.Proofs.YteajddicacjkhaaGreat
namespace Go.Proofs.YteajddicacjkhaaGreat
open Go.MW
def AN(a:dH)(A B:List Int)(k:Nat):Int:=aM (fun i=>gi a.ws i*(gi B i - gi A i)) k
inductive ApR(a:dH)(l:List Prb)(A B:List Int):Int→Int→Prop
 |Ez (h1:¬(nm a.sys A∧nm a.sys B)):ApR a l A B 0 25
 |far (h1:nm a.sys A) (h2:nm a.sys B) (h3:¬I5 l (gi A) (gi B)):ApR a l A B 0 92
 |ok (h1:nm a.sys A) (h2:nm a.sys B) (h3:I5 l (gi A) (gi B)):ApR a l A B (IntKind.i64.wrap (AN a A B a.ws.length)) 0
theorem ApR.uniq{a:dH}{l:List Prb}{A B:List Int}{n m e f:Int}(h:ApR a l A B n e)(g:ApR a l A B m f):n=m∧e=f:=by
 cases h with
 |Ez h1=>
  cases g with
  |Ez=>exact ⟨rfl,rfl⟩
  |far g1 g2 _=>exact (h1 ⟨g1,g2⟩).elim
  |ok g1 g2 _=>exact (h1 ⟨g1,g2⟩).elim
 |far h1 h2 h3=>
  cases g with
  |Ez g1=>exact (g1 ⟨h1,h2⟩).elim
  |far=>exact ⟨rfl,rfl⟩
  |ok _ _ g3=>exact (h3 g3).elim
 |ok h1 h2 h3=>
  cases g with
  |Ez g1=>exact (g1 ⟨h1,h2⟩).elim
  |far _ _ g3=>exact (g3 h3).elim
  |ok=>exact ⟨rfl,rfl⟩
def JC(a:dH)(l:List Prb)(A B:List Int)(n e:Int):Prop:=(iK a l e∧e≠0∧n=0)∨(iK a l 0∧ApR a l A B n e)
theorem JC.uniq{a:dH}{l:List Prb}{A B:List Int}{n m e f:Int}(h:JC a l A B n e)(g:JC a l A B m f):n=m∧e=f:=by
 rcases h with ⟨h1,h2,h3⟩|⟨h1,h2⟩
 ·rcases g with ⟨g1,g2,g3⟩|⟨g1,g2⟩
  ·exact ⟨ak,h1.uniq g1⟩
  ·exact (h2 (h1.uniq g1)).elim
 ·rcases g with ⟨g1,g2,g3⟩|⟨g1,g2⟩
  ·exact (g2 (g1.uniq h1)).elim
  ·exact h2.uniq g2
structure IK(a:dH)(l:List Prb)(A B:List Int):Prop where
 kA:nm a.sys A
 kB:nm a.sys B
 near:I5 l (gi A) (gi B)
 most:sA a l (AN a A B a.ws.length)
 meet:GB A B l=0
theorem Hd.uniq{a:dH}{l:List Prb}{x y e f:Int}(h:Hd a l x e)(g:Hd a l y f):x=y∧e=f:=by
 rcases h with ⟨h1,h2,h3⟩|⟨i,n,h1,h2,h3⟩
 ·rcases g with ⟨g1,g2,g3⟩|⟨j,m,g1,g2,g3⟩
  ·exact ⟨ak,ak⟩
  ·subst h1;have:=g3.lt;simp at this
 ·rcases g with ⟨g1,g2,g3⟩|⟨j,m,g1,g2,g3⟩
  ·subst g1;have:=h3.lt;simp at this
  ·refine ⟨?_,ak⟩
   have e1:=h3.le j g3.lt m g3.here
   have e2:=g3.le i h3.lt n h3.here
   rcases Nat.lt_trichotomy i j with e|e|e
   ·have:=g3.first i e n h3.here;omega
   ·omega
   ·have:=h3.first j e m g3.here;omega
theorem IK.wrap{a:dH}{l:List Prb}{A B:List Int}(hok:uN a)(h:IK a l A B)(hin:∀p∈l,Fp a p):IntKind.i64.wrap (AN a A B a.ws.length)=AN a A B a.ws.length:=by
 obtain ⟨lo,hi,hR⟩:=hok.range
 have hb:=hR.bd
 obtain ⟨⟨x,y,g1,g2⟩,g3⟩:=h.most
 have h1:=Fq.le hR g1
 obtain ⟨z,hz⟩:=Fq.some hok hin
 have h2:=g3 z z hz
 exact j7 ak
def gtw(p:Pck)(j:Nat):List Int×List Int:=p.fails.getD j ([],[])
structure IT(a:dH)(l:List Prb)(p:Pck)(k:Nat):Prop where
 here:(qg l.length)[k]? =some p.probes
 len:p.fails.length=k
 width:p.width≤a.width
 worst:CWR a (rk l p.probes) p.width p.bound p.uses 0
 fails:∀(j:Nat) (cj:List Int),j<k→(qg l.length)[j]? =some cj→∃n,ApR a (rk l cj) (gtw p j).1 (gtw p j).2 n 0∧a.width<n
def G3(a:dH)(l:List Prb)(p:Pck)(e:Int):Prop:=(iK a l e∧e≠0)∨(iK a l 0∧((e=0∧∃k,IT a l p k)∨(e=93∧¬∃k,IT a l p k)))
theorem G3.uniq{a:dH}{l:List Prb}{p:Pck}{e f:Int}(h:G3 a l p e)(g:G3 a l p f):e=f:=by
 rcases h with ⟨h1,h2⟩|⟨h1,h2⟩
 ·rcases g with ⟨g1,g2⟩|⟨g1,g2⟩
  ·exact h1.uniq g1
  ·exact (h2 (h1.uniq g1)).elim
 ·rcases g with ⟨g1,g2⟩|⟨g1,g2⟩
  ·exact (g2 (g1.uniq h1)).elim
  ·rcases h2 with ⟨h2,h3⟩|⟨h2,h3⟩<;>rcases g2 with ⟨g2,g3⟩|⟨g2,g3⟩
   ·omega
   ·exact (g3 h3).elim
   ·exact (h3 g3).elim
   ·omega
end Go.Proofs.YteajddicacjkhaaGreat
namespace Go.Proofs
open Go.Shelf
def Tryz.zA:Go.Shelf.Ren:=⟨fun|189=>303|125=>311|257=>310|128=>323|129=>324|294=>314|295=>315|296=>316|297=>317|298=>318|299=>319|216=>320|300=>321|301=>322|328=>325|329=>326|330=>327|331=>328|332=>329|215=>330|343=>331|n=>n,fun|28=>34|3=>3|46=>260|0=>0|51=>340|53=>343|4=>4|183=>348|182=>347|131=>165|5=>5|9=>9|218=>354|222=>358|228=>360|229=>293|n=>n,fun|n=>n⟩
theorem Tryz.CL:Go.Proofs.Lays.n189 Tryz.prog Tryz.zA:={
 mixed:=by kernel_rfl
 f125:=Tryz.func311.trans (congrArg some (by kernel_rfl))
 f128:=Tryz.func323.trans (congrArg some (by kernel_rfl))
 f129:=Tryz.func324.trans (congrArg some (by kernel_rfl))
 f189:=Tryz.func303.trans (congrArg some (by kernel_rfl))
 f215:=Tryz.func330.trans (congrArg some (by kernel_rfl))
 f216:=Tryz.func320.trans (congrArg some (by kernel_rfl))
 f257:=Tryz.func310.trans (congrArg some (by kernel_rfl))
 f294:=Tryz.func314.trans (congrArg some (by kernel_rfl))
 f295:=Tryz.func315.trans (congrArg some (by kernel_rfl))
 f296:=Tryz.func316.trans (congrArg some (by kernel_rfl))
 f297:=Tryz.func317.trans (congrArg some (by kernel_rfl))
 f298:=Tryz.func318.trans (congrArg some (by kernel_rfl))
 f299:=Tryz.func319.trans (congrArg some (by kernel_rfl))
 f300:=Tryz.func321.trans (congrArg some (by kernel_rfl))
 f301:=Tryz.func322.trans (congrArg some (by kernel_rfl))
 f328:=Tryz.func325.trans (congrArg some (by kernel_rfl))
 f329:=Tryz.func326.trans (congrArg some (by kernel_rfl))
 f330:=Tryz.func327.trans (congrArg some (by kernel_rfl))
 f331:=Tryz.func328.trans (congrArg some (by kernel_rfl))
 f332:=Tryz.func329.trans (congrArg some (by kernel_rfl))
 f343:=Tryz.func331.trans (congrArg some (by kernel_rfl))
 t0:=Tryz.underlying0
 a0:=Tryz.isAgg0
 z0:=Tryz.sizeOf0
 v0:=Tryz.zeroValue0
 t3:=Tryz.underlying3
 a3:=Tryz.isAgg3
 z3:=Tryz.sizeOf3
 v3:=Tryz.zeroValue3
 t4:=Tryz.underlying4
 a4:=Tryz.isAgg4
 z4:=Tryz.sizeOf4
 v4:=Tryz.zeroValue4
 t5:=Tryz.underlying5
 a5:=Tryz.isAgg5
 z5:=Tryz.sizeOf5
 v5:=Tryz.zeroValue5
 t9:=Tryz.underlying9
 a9:=Tryz.isAgg9
 z9:=Tryz.sizeOf9
 v9:=Tryz.zeroValue9
 t28:=Tryz.underlying34
 a28:=Tryz.isAgg34
 z28:=Tryz.sizeOf34
 v28:=Tryz.zeroValue34
 t46:=Tryz.underlying260
 a46:=Tryz.isAgg260
 z46:=Tryz.sizeOf260
 v46:=Tryz.zeroValue260
 t51:=Tryz.underlying340
 a51:=Tryz.isAgg340
 z51:=Tryz.sizeOf340
 v51:=Tryz.zeroValue340
 t53:=Tryz.underlying343
 a53:=Tryz.isAgg343
 z53:=Tryz.sizeOf343
 v53:=Tryz.zeroValue343
 t131:=Tryz.underlying165
 a131:=Tryz.isAgg165
 z131:=Tryz.sizeOf165
 v131:=Tryz.zeroValue165
 t182:=Tryz.underlying347
 a182:=Tryz.isAgg347
 z182:=Tryz.sizeOf347
 v182:=Tryz.zeroValue347
 t183:=Tryz.underlying348
 a183:=Tryz.isAgg348
 z183:=Tryz.sizeOf348
 v183:=Tryz.zeroValue348
 t218:=Tryz.underlying354
 a218:=Tryz.isAgg354
 z218:=Tryz.sizeOf354
 v218:=Tryz.zeroValue354
 t222:=Tryz.underlying358
 a222:=Tryz.isAgg358
 z222:=Tryz.sizeOf358
 v222:=Tryz.zeroValue358
 t228:=Tryz.underlying360
 a228:=Tryz.isAgg360
 z228:=Tryz.sizeOf360
 v228:=Tryz.zeroValue360
 t229:=Tryz.underlying293
 a229:=Tryz.isAgg293
 z229:=Tryz.sizeOf293
 v229:=Tryz.zeroValue293}
def Tryz.ya:Go.Shelf.Ren:=⟨fun|20=>304|n=>n,fun|22=>34|3=>3|4=>4|0=>0|n=>n,fun|n=>n⟩
theorem Tryz.Ao:Go.Proofs.Lays2.n20 Tryz.prog Tryz.ya:={
 mixed:=by kernel_rfl
 f20:=Tryz.func304.trans (congrArg some (by kernel_rfl))
 t0:=Tryz.underlying0
 a0:=Tryz.isAgg0
 z0:=Tryz.sizeOf0
 v0:=Tryz.zeroValue0
 t3:=Tryz.underlying3
 a3:=Tryz.isAgg3
 z3:=Tryz.sizeOf3
 v3:=Tryz.zeroValue3
 t4:=Tryz.underlying4
 a4:=Tryz.isAgg4
 z4:=Tryz.sizeOf4
 v4:=Tryz.zeroValue4
 t22:=Tryz.underlying34
 a22:=Tryz.isAgg34
 z22:=Tryz.sizeOf34
 v22:=Tryz.zeroValue34
 i3:=by kernel_rfl}
end Go.Proofs
namespace Go.Proofs.YteajddicacjkhaaGreat
open Go.Sort Go.RowKit
theorem D8(blk off cap:Nat)(zs:List Int)(w:World)(hH:Holds (Value.int .i64) w blk off zs.toArray)(hblk:blk<w.heap.size)(hsz:zs.length<4611686018427387904):
  Calls Tryz.prog 303 #[.slice (some ⟨blk,off,none⟩) zs.length cap] w fun e w'=>e= .returned (.tuple #[])∧∃n os,w'=grow (putRow (Value.int .i64) (Sort.ahead w n) blk off (zs.mergeSort fun x y=>decide (x≤y)).toArray) os:=
 Any.slices_Sort_int Tryz.CL blk off cap zs w hH hblk hsz
theorem wh(p:Option Addr)(cap:Nat)(w:World):Calls Tryz.prog 303 #[.slice p 0 cap] w fun e w'=>e= .returned (.tuple #[])∧w'=w:=
 Any.slices_Sort_int_none Tryz.CL p cap w
theorem ze(blk off cap:Nat)(zs:List Int)(w:World)(hH:Holds (Value.int .i64) w blk off zs.toArray)(hsz:zs.length≤9223372036854775807)(hcap:zs.length≤cap):
  Calls Tryz.prog 304 #[.slice (some ⟨blk,off,none⟩) zs.length cap] w fun e w'=>e= .returned (.slice (some ⟨blk,off,none⟩) (Lib.compact zs).length cap)∧∃q,w'=putRow (Value.int .i64) (Sort.ahead w q) blk off (Lib.compact zs++List.replicate (zs.length - (Lib.compact zs).length) 0).toArray:=
 Any.slices_Compact_int Tryz.Ao blk off cap zs w hH hsz hcap
theorem rY(p:Option Addr)(cap:Nat)(w:World):Calls Tryz.prog 304 #[.slice p 0 cap] w fun e w'=>e= .returned (.slice p 0 cap)∧w'=w:=
 Any.slices_Compact_int_empty Tryz.Ao p cap w
end Go.Proofs.YteajddicacjkhaaGreat
namespace Go.Proofs.YteajddicacjkhaaGreat
open Go.MW
variable{H:bB}{w:World}{σ:List Ent}
theorem r8{v:Value}{ls:List Int}{x:Int}(hs:St H w σ)(hr:RI H v ls):
  Cl Tryz.prog 305 [v,I x] w fun u w'=>∃i,u=I i∧(0≤i↔x∈ls)∧St H w' σ:=by
 obtain ⟨a,c,rfl⟩:=RI.shape hr
 have hl:=(RI.len hr).2.2
 refine Cl.o Tryz.func305 Tryz.ntmps305 ag2 ?_
 refine .ai (.z zg (.nil (.seq (.ai (.z zm (.z (cZ ae) (.z zm (.nil ?_))))))))
 refine .for (N:=ls.length) (J:=fun k fr w=>fr=[(1,I x),(0,.slice a ls.length c)]∧St H w σ∧∀j<k,∀y,ls[j]? =some y→¬x=y) ak ?_ ?_ ?_
 ·exact .mk ⟨rfl,hs,fun j hj=>by omega⟩
 ·rintro k fr w hk ⟨rfl,hs,hno⟩
  obtain ⟨y,hy⟩:=nth hk
  refine .block (.ai (.z zm (.z zg (.nil (.ai (.z zm (.z zm (.z zm ?_))))))))
  refine .ixY hs hr rfl rfl ae aj hy rfl ?_;intro b14 o14 hc14
  refine .q hs (aR rfl af hc14) ?_
  refine .z jU (.nil ?_)
  refine (.bT rfl (fun hc16=>?_) (fun hc16=>?_))
  ·refine .ai (.z zm (.z zg (.nil ?_)))
   refine .ret (rB (rT (rB (rT (Fin.bw Tryz.results305 rfl ?_)))))
   exact ⟨_,rfl,⟨fun _=>by rw [hc16];exact List.mem_of_getElem? hy,fun _=>by omega⟩,hs⟩
  ·refine .skip ?_
   refine nB (nT ?_)
   exact .mk ⟨rfl,hs,eK hno hy hc16⟩
 ·rintro fr w ⟨rfl,hs,hno⟩
  refine nT ?_
  refine .ai (.z zg (.nil ?_))
  refine .ret (Fin.bw Tryz.results305 rfl ?_)
  exact ⟨_,rfl,⟨fun h=>by omega,fun h=>by
   obtain ⟨j,hj⟩:=List.getElem?_of_mem h
   exact (hno j (List.getElem?_eq_some_iff.1 hj).1 x hj rfl).elim⟩,hs⟩
theorem oM{v:Value}{ls:List Int}{x:Int}(hs:St H w σ)(hr:RI H v ls):
  Cl Tryz.prog 294 [v,I x] w fun u w'=>u= .bool (decide (x∈ls))∧St H w' σ:=by
 refine Cl.o Tryz.func294 Tryz.ntmps294 ag2 ?_
 refine .ai (.z zg (.nil (.ai (.z zm (.z zm ?_)))))
 refine .o (.call Tryz.call305 rfl (r8 hs hr) ?_);rintro _ w ⟨i,rfl,hi,hs⟩
 refine .z y7 (.z zg (.nil ?_))
 refine .ret (Fin.bw Tryz.results294 rfl ?_)
 exact ⟨by simp only [hi],hs⟩
set_option maxHeartbeats 1000000 in
theorem tS{v:Value}{s:bI}{g:Nat}{cap:List Value}(q:Nat→Lim→Bool)(hs:St H w σ)(hr:RSy H v s)(hlen:s.bL.length≤4398046510976)(hc:∀args w,(callFunc g args).run Tryz.prog w= .ok (.enter g args) w)
  (hp:∀w σ (k:Nat) (l:Lim),s.bL[k]? =some l→St H w σ→Cl Tryz.prog g ([I k,.agg l.c.toArray]++cap) w fun u w'=>u= .bool (q k l)∧St H w' σ):
  Cl Tryz.prog 292 [v,.func (.func g) #[] cap.toArray] w fun u w'=>∃H1,HLe H H1∧RSy H1 u ⟨s.many,jE q s.bL s.bL.length⟩∧St H1 w' σ:=by
 obtain ⟨ul,rfl,hl⟩:=hr
 obtain ⟨al,cl,rfl⟩:=RL.shape hl
 refine Cl.o Tryz.func292 Tryz.ntmps292 ag2 ?_
 refine .ai ?_
 refine .bx hs fun b2 w hs=>?_
 refine .o (.alloc hs dz rfl fun b4 w hs=>?_)
 refine .nil (.ai (.z (zfa bM) (.y hs (zld af) (.z (zbd [_,_] kM) ?_))))
 refine .o (.alloc hs dz rfl fun b5 w hs=>?_)
 refine .o (.aI (vs:=[_,_]) hs rfl rfl aE fun w hs=>?_)
 refine .nil (.seq (.ai (.z (zfa bJ) (.y hs (zld cu) (.z (cZ aH) (.z zm (.nil ?_)))))))
 refine .for (N:=s.bL.length) (J:=fun k fr w=>fr=[(12,.slice al s.bL.length cl),(1,.func (.func g) #[] cap.toArray),(5,.pointer (some ⟨b5,0,none⟩)),(4,.pointer (some ⟨b4,0,none⟩))]∧∃vL en,bU 4 vL (fK (jE q s.bL k)) en∧St H w (.blk b5 [I s.many,vL]:: .blk b4 [I 0,.slice none 0 0]::en::σ)) ak ?_ ?_ ?_
 ·exact .mk ⟨rfl,_,_,.nil 4 none,hs.nul.sb⟩
 ·rintro k fr w hk ⟨rfl,vL,en,hO,hs⟩
  obtain ⟨x,hx⟩:=nth (l:=s.bL) hk
  obtain ⟨aL,lL,cL,rfl,hL⟩:=hO.shape
  have hpl:=lz q s.bL k
  refine .block (.ai (.z zm ?_))
  refine .ixX hs hl rfl rfl aH aQ hx rfl ?_;intro b17 o17 hc17
  refine .q hs (bK (vs:=x.c) rfl eE aQ hc17) ?_
  refine .o (.alloc hs dy rfl fun b7 w hs=>?_)
  refine .z zg ?_
  refine .o (.aI (vs:=x.c) hs rfl rfl aQ fun w hs=>?_)
  refine .nil (.ai (.z zm (.z zm (.y hs (zls [_,_,_,_] eE aQ) ?_))))
  refine .o (.nO (first:=[]) (cap:=cap) rfl rfl hc (hp _ _ k x hx hs) ?_);rintro _ w ⟨rfl,hs⟩
  refine .nil ?_
  refine (.cond rfl (fun hc22=>?_) (fun hc22=>?_))
  ·refine .region (.z (zfa bJ) (.y hs (zld cu) (.y hs (zls [_,_,_,_] eE aQ) ?_)))
   refine .o (.buildSlice (cells:=x.c) hs qo rfl rfl fun b26 w hs=>?_)
   refine .o (.append (ys:=x.c) hs bP rfl rfl hO (.own .here rfl rfl) (by simp [Lim.c,Value.oneCell']) (fun l h=>by rw [eb] at h;omega) ?_);intro v27 en27 w hO2 hs
   obtain ⟨a27,l27,c27,rfl,h27⟩:=hO2.shape
   refine .z (zfa bJ) ?_
   refine .o (.store hs rfl rfl nY fun w hs=>?_)
   refine .nil ?_
   refine nB (nT ?_)
   have e:jE q s.bL (k+1)=jE q s.bL k++[x]:=by rw [oU hx,if_pos hc22]
   rw [←Ft,←gx,←e] at hO2
   exact .mk ⟨rfl,_,_,hO2,hs.sb⟩
  ·refine .skip ?_
   refine nB (nT ?_)
   have e:jE q s.bL (k+1)=jE q s.bL k:=by rw [oU hx,hc22];simp
   exact .mk ⟨rfl,_,_,by rw [e];exact hO,hs.sb⟩
 ·rintro fr w ⟨rfl,vL,en,hO,hs⟩
  obtain ⟨aL,lL,cL,rfl,hL⟩:=hO.shape
  have hpl:=lz q s.bL s.bL.length
  refine nT ?_
  refine .ai (.y hs (zls [_,_] bg aE) ?_)
  refine .o (.aI (vs:=[_,_]) hs rfl rfl aE fun w hs=>?_)
  refine .nil ?_
  refine .ret ?_
  obtain ⟨H1,g1,r1,hs⟩:=bU.cg (m:=4) (cs:=(jE q s.bL s.bL.length).map Lim.c) hO (fun c hc=>by simp only [List.mem_map] at hc;obtain ⟨x,_,rfl⟩:=hc;rfl) ak (by rw [List.length_map];omega) hs e7
  exact Fin.ia [] [] hs fun w hs=>⟨_,results1 Tryz.results292 (di (vs:=[_,_]) hs rfl bg aE),H1,g1,⟨_,rfl,r1⟩,hs.out⟩
theorem tT{b:Nat}{i:Int}{l:Lim}{vb:Value}{bs:List Int}(hs:St H w σ)(hb:Row H b [vb])(hr:RI H vb bs):
  Cl Tryz.prog 293 [I i,.agg l.c.toArray,.pointer (some ⟨b,0,none⟩)] w fun u w'=>u= .bool (!decide (l.S∈bs))∧St H w' σ:=by
 have hb0:cellAt H b 0=some vb:=by rw [hb.cell];rfl
 refine Cl.o Tryz.func293 Tryz.ntmps293 ag3 ?_
 refine .ai ?_
 refine .bx hs fun b4 w hs=>?_
 refine .z zg (.nil (.ai (.y hs (zld an) (.z (zfa ja) (.y hs (zld af) ?_)))))
 refine .o (.call Tryz.call294 rfl (oM hs hr) ?_);rintro _ w ⟨rfl,hs⟩
 refine .z gy (.z zg (.nil ?_))
 refine .ret (Fin.bw Tryz.results293 rfl ?_)
 exact ⟨rfl,hs.out⟩
theorem qm{v vb:Value}{s:bI}{bs:List Int}(hs:St H w σ)(hr:RSy H v s)(hb:RI H vb bs)(hlen:s.bL.length≤4398046510976):
  Cl Tryz.prog 266 [v,vb] w fun u w'=>∃H1,HLe H H1∧RSy H1 u (s.wo bs)∧St H1 w' σ:=by
 obtain ⟨ul,rfl,hl⟩:=hr
 obtain ⟨al,cl,rfl⟩:=RL.shape hl
 obtain ⟨ab,cb,rfl⟩:=RI.shape hb
 refine Cl.o Tryz.func266 Tryz.ntmps266 ag2 ?_
 refine .ai ?_
 refine .bx hs fun b2 w hs=>?_
 refine .bx hs fun b3 w hs=>?_
 refine .o (.alloc hs dz rfl fun b4 w hs=>?_)
 refine .nil (.ai (.y hs (zls [_,_] bg aE) ?_))
 refine .q hs (cJ (f:=[]) (c:=[_]) rfl rfl) ?_
 obtain ⟨H1,hle1,r3,hs⟩:=hs.cg (b:=b3) e7
 refine .o (.call Tryz.call292 rfl (tS (g:=293) (cap:=[.pointer (some ⟨b3,0,none⟩)]) (s:=s) (fun _ l=> !decide (l.S∈bs)) hs ⟨_,rfl,hl.mono hle1⟩ hlen Tryz.call293 (fun w σ k l _ hs=>tT hs r3 (hb.mono hle1))) ?_);rintro _ w ⟨H2,hle2,⟨u7,rfl,hL7⟩,hs⟩
 rw [Bc] at hL7
 obtain ⟨a7,c7,rfl⟩:=RL.shape hL7
 refine .o (.aI (vs:=[_,_]) hs rfl rfl aE fun w hs=>?_)
 refine .nil ?_
 refine .ret ?_
 exact Fin.ia [] [] hs fun w hs=>⟨_,results1 Tryz.results266 (di (vs:=[_,_]) hs rfl bg aE),H2,hle1.trans hle2,⟨_,rfl,hL7⟩,hs.out⟩
theorem th{b cap:Nat}{xs:List Int}{sp:List Value}(hs:St H w (.blk b (Is xs++sp)::σ))(hl:xs.length≤17592186044416):
  Cl Tryz.prog 303 [.slice (some ⟨b,0,none⟩) xs.length cap] w fun u w'=>u= .tuple #[]∧St H w' (.blk b (Is (xs.mergeSort fun x y=>decide (x≤y))++sp)::σ):=
 (D8 b 0 cap xs w hs.holds (hs.lt .here) ak).mono fun e w' ⟨he,m,os,hw⟩=>⟨_,he,rfl,by
  rw [hw]
  exact (hs.putRow (List.length_mergeSort _)).grow os⟩
theorem rZ{a:Option Addr}{cap:Nat}(hs:St H w σ):
  Cl Tryz.prog 303 [.slice a 0 cap] w fun u w'=>u= .tuple #[]∧St H w' σ:=
 (wh a cap w).mono fun e w' ⟨he,hw⟩=>⟨_,he,rfl,by rw [hw];exact hs⟩
theorem pL{b cap:Nat}{xs:List Int}{sp:List Value}(hs:St H w (.blk b (Is xs++sp)::σ))(hl:xs.length≤17592186044416)(hcap:xs.length≤cap):
  Cl Tryz.prog 304 [.slice (some ⟨b,0,none⟩) xs.length cap] w fun u w'=>u= .slice (some ⟨b,0,none⟩) (Go.Lib.compact xs).length cap∧St H w' (.blk b (Is (Go.Lib.compact xs)++(Is (List.replicate (xs.length - (Go.Lib.compact xs).length) 0)++sp))::σ):=
 (ze b 0 cap xs w hs.holds ak hcap).mono fun e w' ⟨he,m,hw⟩=>⟨_,he,rfl,by
  rw [hw]
  have h:=Go.Lib.compact_length_le xs
  have:=hs.putRow (m:=m) (ys:=Go.Lib.compact xs++List.replicate (xs.length - (Go.Lib.compact xs).length) 0) (by simp;omega)
  have e2:Is (Go.Lib.compact xs++List.replicate (xs.length - (Go.Lib.compact xs).length) 0)=Is (Go.Lib.compact xs)++Is (List.replicate (xs.length - (Go.Lib.compact xs).length) 0):=List.map_append
  rw [e2,List.append_assoc] at this
  exact this⟩
theorem oN{a:Option Addr}{cap:Nat}(hs:St H w σ):
  Cl Tryz.prog 304 [.slice a 0 cap] w fun u w'=>u= .slice a 0 cap∧St H w' σ:=
 (rY a cap w).mono fun e w' ⟨he,hw⟩=>⟨_,he,rfl,by rw [hw];exact hs⟩
theorem uF{v:Value}{xs:List Int}{en:Ent}(hs:St H w (en::σ))(hO:bU 1 v (Is xs) en)(hl:xs.length≤17592186044416):
  Cl Tryz.prog 290 [v] w fun u w'=>∃L en',bU 1 u (Is L) en'∧L.length≤xs.length∧fu (fun x=>x∈xs) L∧St H w' (en'::σ):=by
 rcases hO with ⟨a,rfl,h0,rfl⟩|⟨b,len,cap,sp,rfl,rfl,h3,h4,h5⟩
 ·have hx:xs=[]:=by simpa using h0
  subst hx
  refine Cl.o Tryz.func290 Tryz.ntmps290 ag1 ?_
  refine .ai (.z zg (.nil (.ai (.z zm ?_))))
  refine .o (.call Tryz.call303 rfl (rZ hs) ?_);rintro _ w ⟨rfl,hs⟩
  refine .nil (.ai (.z zm ?_))
  refine .o (.call Tryz.call304 rfl (oN hs) ?_);rintro _ w ⟨rfl,hs⟩
  refine .z zg (.nil ?_)
  refine .ret (Fin.bw Tryz.results290 rfl ?_)
  exact ⟨[],_,.nil 1 a,bV,.nil bV,hs.out⟩
 ·obtain rfl:len=xs.length:=by simpa using h3.symm
  refine Cl.o Tryz.func290 Tryz.ntmps290 ag1 ?_
  refine .ai (.z zg (.nil (.ai (.z zm ?_))))
  refine .o (.call Tryz.call303 rfl (th hs hl) ?_);rintro _ w ⟨rfl,hs⟩
  refine .nil (.ai (.z zm ?_))
  have hml:(xs.mergeSort fun x y=>decide (x≤y)).length=xs.length:=List.length_mergeSort _
  rw [←hml]
  refine .o (.call Tryz.call304 rfl (pL hs ak ak) ?_);rintro _ w ⟨rfl,hs⟩
  refine .z zg (.nil ?_)
  refine .ret (Fin.bw Tryz.results290 rfl ?_)
  have hcl:=Go.Lib.compact_length_le (xs.mergeSort fun x y=>decide (x≤y))
  have h4':xs.length+sp.length=cap:=by simpa using h4
  exact ⟨_,_,.inr ⟨b,_,cap,Is (List.replicate ((xs.mergeSort fun x y=>decide (x≤y)).length - (Go.Lib.compact (xs.mergeSort fun x y=>decide (x≤y))).length) 0)++sp,rfl,rfl,bV,by simp;omega,ak⟩,ak,zf,hs⟩
theorem kD{v:Value}{s:bI}(hs:St H w σ)(hr:RSy H v s)(hlen:s.bL.length≤4398046510976):
  Cl Tryz.prog 264 [v] w fun u w'=>∃L en,bU 1 u (Is L) en∧L.length≤s.bL.length∧fu (G1 s.bL) L∧St H w' (en::σ):=by
 obtain ⟨ul,rfl,hl⟩:=hr
 obtain ⟨al,cl,rfl⟩:=RL.shape hl
 refine Cl.o Tryz.func264 Tryz.ntmps264 ag1 ?_
 refine .ai ?_
 refine .bx hs fun b1 w hs=>?_
 refine .z zg (.nil (.ai (.z zg (.nil (.seq (.ai (.z (zfa bJ) (.y hs (zld cu) (.z (cZ aH) ?_)))))))))
 refine .z zm (.nil ?_)
 refine .for (N:=s.bL.length) (J:=fun k fr w=>∃v3 en,bU 1 v3 (Is ((s.bL.take k).map Lim.S)) en∧fr=[(3,v3),(7,.slice al s.bL.length cl)]∧St H w (en::σ)) ak ?_ ?_ ?_
 ·exact .mk ⟨_,_,.nil 1 none,rfl,hs.nul.sb⟩
 ·rintro k fr w hk ⟨v3,en,hO,rfl,hs⟩
  obtain ⟨x,hx⟩:=nth (l:=s.bL) hk
  obtain ⟨a3,l3,c3,rfl,h3⟩:=hO.shape
  refine .block (.ai ?_)
  refine .ixX hs hl rfl rfl aH aQ hx rfl ?_;intro b11 o11 hc11
  refine .q hs (bK (vs:=x.c) rfl eE aQ hc11) ?_
  refine .o (.alloc hs dy rfl fun b5 w hs=>?_)
  refine .o (.aI (vs:=x.c) hs rfl rfl aQ fun w hs=>?_)
  refine .nil (.region (.z zm (.z (zfa ja) (.y hs (zld af) ?_))))
  refine .o (.buildSlice (cells:=[_]) hs cA rfl rfl fun b16 w hs=>?_)
  refine .o (.append (ys:=Is [x.S]) hs cn rfl rfl hO (.own .here rfl rfl) (iX _) (fun l' h=>by simp at h;omega) ?_);intro v17 en17 w hO2 hs
  rw [←List.map_append] at hO2
  refine .z zg (.nil ?_)
  refine nB (nT ?_)
  exact .mk ⟨_,_,by rw [cC hx,List.map_append];exact hO2,rfl,hs.sb⟩
 ·rintro fr w ⟨v3,en,hO,rfl,hs⟩
  rw [List.take_length] at hO
  refine nT ?_
  refine .ai (.z zm ?_)
  refine .o (.call Tryz.call290 rfl (uF hs hO (by rw [List.length_map];omega)) ?_);rintro v20 w ⟨L,en',hO',hL,hR,hs⟩
  rw [List.length_map] at hL
  refine .z zg (.nil ?_)
  refine .ret (Fin.bw Tryz.results264 rfl ?_)
  exact ⟨L,en',hO',hL,hR.congr fun x=>by simp [G1],hs⟩
theorem nF{v:Value}{en:Ent}{xs:List Int}{g:Nat}{cap:List Value}(q:Int→Bool)(hs:St H w (en::σ))(hO:bU 1 v (Is xs) en)(hl:xs.length≤17592186044416)(hc:∀args w,(callFunc g args).run Tryz.prog w= .ok (.enter g args) w)
  (hp:∀H' w σ (n:Int),n∈xs→HLe H H'→St H' w σ→Cl Tryz.prog g ([I n]++cap) w fun u w'=>∃H1,HLe H' H1∧u= .bool (q n)∧St H1 w' σ):
  Cl Tryz.prog 228 [v,.func (.func g) #[] cap.toArray] w fun u w'=>∃H1 i,HLe H H1∧u=I i∧((i= -1∧∀x∈xs,q x=false)∨(∃(k:Nat) (x:Int),i=k∧xs[k]? =some x∧q x=true∧∀j<k,∀y,xs[j]? =some y→q y=false))∧St H1 w' (en::σ):=by
 obtain ⟨a,c,rfl⟩:=hO.z8
 refine Cl.o Tryz.func228 Tryz.ntmps228 ag2 ?_
 refine .ai (.z zg (.nil (.seq (.ai (.z zm (.z (cZ ae) (.z zm (.nil ?_))))))))
 refine .for (N:=xs.length) (J:=fun k fr w=>fr=[(1,.func (.func g) #[] cap.toArray),(0,.slice a xs.length c)]∧∃H1,HLe H H1∧(∀j<k,∀y,xs[j]? =some y→q y=false)∧St H1 w (en::σ)) ak ?_ ?_ ?_
 ·exact .mk ⟨rfl,H,HLe.refl H,fun j hj=>by omega,hs⟩
 ·rintro k fr w hk ⟨rfl,H1,hle1,hno,hs⟩
  have hx:=bF hk
  obtain ⟨b,c',sp,hv,rfl,_⟩:=hO.blk ak
  cases hv
  refine .block (.ai (.z zm (.z zg (.nil (.ai (.z zm (.z zm (.z zm (.z (zix ae aj) ?_)))))))))
  refine .q hs (fW rfl af (hv:=eR hk sp)) ?_
  refine .o (.nO (first:=[]) (cap:=cap) rfl rfl hc (hp _ _ _ (gi xs k) (List.mem_of_getElem? hx) hle1 hs) ?_);rintro _ w ⟨H2,hle2,rfl,hs⟩
  refine .nil ?_
  refine (.cond rfl (fun hc16=>?_) (fun hc16=>?_))
  ·refine .ai (.z zm (.z zg (.nil ?_)))
   refine .ret (rB (rT (rB (rT (Fin.bw sE rfl ?_)))))
   exact ⟨H2,_,hle1.trans hle2,rfl,.inr ⟨k,_,rfl,hx,hc16,hno⟩,hs⟩
  ·refine .skip ?_
   refine nB (nT ?_)
   exact .mk ⟨rfl,H2,hle1.trans hle2,eK hno hx hc16,hs⟩
 ·rintro fr w ⟨rfl,H1,hle1,hno,hs⟩
  refine nT ?_
  refine .ai (.z zg (.nil ?_))
  refine .ret (Fin.bw sE rfl ?_)
  exact ⟨H1,_,hle1,rfl,.inl ⟨rfl,fun x hx=>by
   obtain ⟨j,hj⟩:=List.getElem?_of_mem hx
   exact hno j (List.getElem?_eq_some_iff.1 hj).1 x hj⟩,hs⟩
set_option maxHeartbeats 1000000 in
theorem mf{v:Value}{en:Ent}{xs:List Int}{g:Nat}{cap:List Value}(q:Int→Bool)(hs:St H w (en::σ))(hO:bU 1 v (Is xs) en)(hl:xs.length≤17592186044416)(hc:∀args w,(callFunc g args).run Tryz.prog w= .ok (.enter g args) w)
  (hp:∀H' w σ (n:Int),n∈xs→HLe H H'→St H' w σ→Cl Tryz.prog g ([I n]++cap) w fun u w'=>∃H1,HLe H' H1∧u= .bool (q n)∧St H1 w' σ):
  Cl Tryz.prog 267 [v,.func (.func g) #[] cap.toArray] w fun u w'=>∃H1 en',HLe H H1∧bU 1 u (Is (xs.filter fun x=> !q x)) en'∧St H1 w' (en'::σ):=by
 obtain ⟨a,c,rfl⟩:=hO.z8
 refine Cl.o Tryz.func267 Tryz.ntmps267 ag2 ?_
 refine .ai (.z zg (.nil (.ai (.z zm (.z zm ?_)))))
 refine .o (.call Tryz.call228 rfl (nF q hs hO hl hc hp) ?_);rintro _ w ⟨H1,i0,hle1,rfl,hcase,hs⟩
 refine .z zg (.nil (.seq (.ai (.z zm (.z jU (.nil ?_))))))
 refine (.bT rfl (fun hc12=>?_) (fun hc12=>?_))
 ·refine .ai (.z zm (.z zg (.nil ?_)))
  refine .ret (rT (Fin.bw Tryz.results267 rfl ?_))
  have hno:∀x∈xs,q x=false:=by
   rcases hcase with ⟨_,h⟩|⟨k,x,h,_⟩
   ·exact h
   ·omega
  have e:xs.filter (fun x=> !q x)=xs:=List.filter_eq_self.2 fun x hx=>by simp [hno x hx]
  exact ⟨H1,en,hle1,by rw [e];exact hO,hs⟩
 ·refine .skip ?_
  refine nT ?_
  refine .seq (.ai (.z zm ?_))
  obtain ⟨k0,x0,rfl,hx0,hq0,hno⟩:∃(k:Nat) (x:Int),i0=k∧xs[k]? =some x∧q x=true∧∀j<k,∀y,xs[j]? =some y→q y=false:=hcase.resolve_left fun h=>hc12 h.1
  have hk0:=(List.getElem?_eq_some_iff.1 hx0).1
  obtain ⟨b,c',sp,hv,rfl,hc'⟩:=hO.blk ak
  cases hv
  refine .z cf (.z zg (.nil (.block ?_)))
  refine .loop (fun p:Nat×Nat=>⟨42,[],[(5,I (p.1:Int)),(6,I (p.2:Int)),(1,.func (.func g) #[] cap.toArray),(0,.slice (some ⟨b,0,none⟩) xs.length c)]⟩)
   (fun p w=>k0<p.2∧∃Y H1,HLe H H1∧zV q xs Y p.1 p.2∧St H1 w (.blk b (Is Y++sp)::σ))
   (fun p=>xs.length - p.2) (k0,k0+1) (.cons rfl (.dA rfl (by dsimp only;omega) bD))
   ⟨by dsimp only;omega,xs,H1,hle1,.start hx0 hq0 hno,hs⟩ ?_
  clear hs hle1 hcase
  rintro ⟨i,j⟩ w ⟨hkj,Y,H1,hle1,hD,hs⟩
  dsimp only at hkj hD ⊢
  have hYl:=hD.len
  have hij:=hD.le
  have hjl:=hD.jl
  have hilt:=hD.lt hx0 hq0 hkj
  refine .seq (.ai (.z zm (.z zm (.z (cZ ae) (.z iM (.nil ?_))))))
  refine (.bT rfl (fun hc19=>?_) (fun hc19=>?_))
  ·refine .skip ?_
   refine nT ?_
   refine .seq (.block (.ai (.z zm (.z zm ?_))))
   have hj:j<Y.length:=by omega
   have hx:xs[j]? =some (gi Y j):=by rw [hD.rest j (Nat.le_refl _)];exact bF ak
   refine .z (zix ae aj) ?_
   refine .q hs (fW rfl af (hv:=eR hj sp)) ?_
   refine .z zg (.nil (.ai (.z zm (.z zm ?_))))
   refine .o (.nO (first:=[]) (cap:=cap) rfl rfl hc (hp _ _ _ (gi Y j) (List.mem_of_getElem? hx) hle1 hs) ?_);rintro _ w ⟨H2,hle2,rfl,hs⟩
   refine .z gy (.nil ?_)
   refine (.cond rfl (fun hc29=>?_) (fun hc29=>?_))
   ·refine .ai (.z zm (.z zm (.z zm (.z (zix ae aj) ?_))))
    refine .o (.store hs rfl rfl aj ?_ .here (nh (show i<Y.length by omega) sp) (kd (show i<Y.length by omega) sp _));intro w hs
    refine .nil (.region (.z zm (.z cf (.z zg (.nil ?_)))))
    refine nB (nT ?_)
    refine .region (.z zm (.z cf (.z zg (.nil ?_))))
    refine nT ?_
    exact ⟨(i+1,j+1),.dA rfl (by dsimp only;omega) (.dA rfl (by dsimp only;omega) bD),⟨by dsimp only;omega,_,H2,hle1.trans hle2,hD.keep hx (by simpa using hc29),hs⟩,by dsimp only;omega⟩
   ·refine .skip ?_
    refine nB (nT ?_)
    refine .region (.z zm (.z cf (.z zg (.nil ?_))))
    refine nT ?_
    exact ⟨(i,j+1),.cons rfl (.dA rfl (by dsimp only;omega) bD),⟨by dsimp only;omega,_,H2,hle1.trans hle2,hD.skip hx (by simpa using hc29),hs⟩,by dsimp only;omega⟩
  ·refine .exit ?_
   refine xT (xT (xB (nT ?_)))
   refine .ai (.z zm (.z zm ?_))
   obtain rfl:xs.length=j:=by omega
   refine .q hs (xO (k:=i) rfl rfl ae aj ak ak) ?_
   rw [show 0+i*1=i by omega]
   refine .o (.IB (c:=Is Y++sp) hs rfl ae bN (by simp;omega) ?_);intro w hs
   rw [hD.done sp] at hs
   have hil:=hD.il
   rw [List.take_length] at hil
   refine .nil (.ai (.z zm (.z zm ?_)))
   refine .q hs (tx (k:=i) rfl rfl ae aj ak) ?_
   refine .z zg (.nil ?_)
   refine .ret (Fin.bw Tryz.results267 rfl ?_)
   exact ⟨H1,_,hle1,.inr ⟨b,i,c,List.replicate (xs.length - i) (I 0)++sp,rfl,rfl,by simp [hil],by simp [←hil];omega,ak⟩,hs⟩
def uH(L:List Int):List (List Value):=(List.range L.length).map fun j=>[I ((L.length - 1 - j:Nat):Int),I (gi L (L.length - 1 - j))]
theorem kF(L:List Int):(uH L).length=L.length:=by simp [uH]
theorem yF{L:List Int}{j:Nat}(h:j<(uH L).length):(uH L)[j]=[I ((L.length - 1 - j:Nat):Int),I (gi L (L.length - 1 - j))]:=by simp [uH]
theorem mh{H:bB}{b:Nat}{v:Value}{L:List Int}(hb:Row H b [v])(hr:RI H v L):Iter Tryz.prog 291 [.pointer (some ⟨b,0,none⟩)] H (uH L):=by
 intro l II Ix _ _ hy H0 σb0 σf w hle hI0 hs
 obtain ⟨a,c,rfl⟩:=RI.shape hr
 have hlen:=(RI.len hr).2.2
 have hb0:cellAt H0 b 0=some (.slice a L.length c):=cellAt.mono (hb.at 0) hle
 refine Cl.o Tryz.func291 Tryz.ntmps291 ag2 ?_
 refine .ai (.y hs (zld an) (.z (cZ ae) (.z gZ (.z zg (.nil (.block ?_))))))
 refine .loop (fun j:Nat=>⟨19,[],[(3,I ((L.length:Int) - 1 - (j:Int))),(0,.func (.yield l) #[] #[]),(1,.pointer (some ⟨b,0,none⟩))]⟩)
  (fun j w=>j≤L.length∧∃H1 σb,HLe H H1∧HLe H0 H1∧II j H1 σb∧St H1 w (σb++σf)) (fun j=>L.length - j) 0 (.dA rfl bV bD)
  ⟨Nat.zero_le _,H0,σb0,hle,HLe.refl _,hI0,hs⟩ ?_
 clear hs hI0
 rintro j w ⟨hj,H1,σb,hle1,hle0,hI,hs⟩
 have hb1:cellAt H1 b 0=some (.slice a L.length c):=cellAt.mono hb0 hle0
 refine .seq (.ai (.z zm (.z y7 (.nil ?_))))
 refine (.bT rfl (fun hc8=>?_) (fun hc8=>?_))
 ·refine .skip ?_
  refine nT ?_
  refine .seq (.block (.ai (.z zm (.z zm (.y hs (zld an) (.z zm ?_))))))
  refine .ixY hs (hr.mono hle1) rfl rfl ae aj (bF (l:=L) (i:=L.length - 1 - j) ak) ak ?_;intro b15 o15 hc15
  refine .q hs (aR rfl af hc15) ?_
  have hk':j<(uH L).length:=by rw [kF];omega
  have hyd:=hy j hk' H1 σb σf w hle1 hI hs
  rw [yF hk',show ((L.length - 1 - j:Nat):Int)=(L.length:Int) - 1 - (j:Int) by omega] at hyd
  refine .o (.yield rfl rfl hyd ?_);rintro v17 w ⟨H2,σ2,g1,hs,g3⟩
  obtain ⟨bb,rfl,gT,gF⟩:=mC g3
  refine .z gy (.nil ?_)
  refine (.cond rfl (fun hc18=>?_) (fun hc18=>?_))
  ·refine .ret (rB (rT (rT (rB (Fin.Hg Tryz.results291 ?_)))))
   exact ⟨H2,σ2,hle0.trans g1,hs,.inr (gF (by simpa using hc18))⟩
  ·refine .skip ?_
   refine nB (nT ?_)
   refine .region (.z zm (.z gZ (.z zg (.nil ?_))))
   refine nT ?_
   exact ⟨j+1,.dA rfl (by simp;omega) bD,⟨ak,H2,σ2,hle1.trans g1,hle0.trans g1,gT (by simpa using hc18),hs⟩,ak⟩
 ·refine .exit ?_
  refine xT (xT (xB ?_))
  obtain rfl:L.length=j:=by omega
  exact Fin.yx Tryz.results291 ⟨H1,σb,hle0,hs,.inl (by rw [kF];exact hI)⟩
theorem nG{v:Value}{L:List Int}(hs:St H w σ)(hr:RI H v L):
  Cl Tryz.prog 265 [v] w fun u w'=>∃H1 b,HLe H H1∧u= .func (.func 291) #[] #[.pointer (some ⟨b,0,none⟩)]∧Iter Tryz.prog 291 [.pointer (some ⟨b,0,none⟩)] H1 (uH L)∧St H1 w' σ:=by
 obtain ⟨a,c,rfl⟩:=RI.shape hr
 refine Cl.o Tryz.func265 Tryz.ntmps265 ag1 ?_
 refine .ai ?_
 refine .bx hs fun b1 w hs=>?_
 refine .z zg (.nil (.ai ?_))
 refine .q hs (cJ (f:=[]) (c:=[_]) rfl rfl) ?_
 refine .z zg (.nil ?_)
 refine .ret (Fin.bw Tryz.results265 rfl ?_)
 obtain ⟨H1,g1,g2,hs⟩:=hs.cg .here
 exact ⟨H1,b1,g1,rfl,mh g2 (hr.mono g1),hs⟩
theorem sw{n m:Int}{b:Nat}(hs:St H w σ)(hb:Row H b [I m]):
  Cl Tryz.prog 268 [I n,.pointer (some ⟨b,0,none⟩)] w fun u w'=>u= .bool (decide (n=m))∧St H w' σ:=by
 have hb0:cellAt H b 0=some (I m):=hb.at 0
 refine Cl.o Tryz.func268 Tryz.ntmps268 ag2 ?_
 refine .ai (.z zg (.nil (.ai (.z zm (.y hs (zld af) (.z jU (.z zg (.nil ?_))))))))
 refine .ret (Fin.bw Tryz.results268 rfl ?_)
 exact ⟨rfl,hs⟩
set_option maxHeartbeats 1000000 in
theorem pc{v:Value}{s:bI}(hs:St H w σ)(hr:RSy H v s):
  Cl Tryz.prog 220 [v] w fun u w'=>∃H1 vx out e,HLe H H1∧u= .tuple #[vx,I e]∧RI H1 vx out∧uL s out e∧St H1 w' σ:=by
 obtain ⟨ul,rfl,hl⟩:=hr
 obtain ⟨al,cl,rfl⟩:=RL.shape hl
 refine Cl.o Tryz.func220 Tryz.ntmps220 ag1 ?_
 refine .ai ?_
 refine .bx hs fun b1 w hs=>?_
 refine .z zg (.z zg (.nil (.seq (.ai (.y hs (zls [_,_] bg aE) ?_)))))
 refine .o (.call Tryz.call197 rfl (gX (s:=s) hs ⟨_,rfl,hl⟩) ?_);rintro _ w ⟨rfl,hs⟩
 refine .z zg (.nil (.ai (.z zm (.z gE (.nil ?_)))))
 refine (.ep rfl (fun hc12=>?_) (fun hc12=>?_))
 ·refine .ai (.z zm (.z zg (.z zg (.nil ?_))))
  refine .ret (rT (?_))
  exact Fin.ia [] [] hs fun w hs=>⟨_,results2 Tryz.results220 rfl rfl,H,_,[],_,HLe.refl H,rfl,RS.nil H 1 none 0,.bad hc12,hs.out⟩
 ·refine .skip ?_
  refine nT ?_
  refine .seq (.ai (.y hs (zls [_,_] bg aE) ?_))
  have hok:s.Ok:=s.aP.1 (by simpa using hc12)
  have hll:=hok.len
  refine .o (.call Tryz.call223 rfl (iI (s:=s) hs hok ⟨_,rfl,hl⟩) ?_);rintro _ w ⟨H1,bb,hle1,rfl,hbb,hs⟩
  refine .nil ?_
  refine (.cond rfl (fun hc15=>?_) (fun hc15=>?_))
  ·refine .ai (.z zg (.z zg (.nil ?_)))
   refine .ret (rT (?_))
   exact Fin.ia [] [] hs fun w hs=>⟨_,results2 Tryz.results220 rfl rfl,H1,_,[],_,hle1,rfl,RS.nil H1 1 none 0,.none hok (hbb.1 hc15),hs.out⟩
  ·refine .skip ?_
   refine nT ?_
   refine .ai (.y hs (zls [_,_] bg aE) ?_)
   have hns:¬s.Sound:=fun h=>by rw [hbb.2 h] at hc15;cases hc15
   refine .o (.call Tryz.call264 rfl (kD (s:=s) hs ⟨_,rfl,hl.mono hle1⟩ ak) ?_);rintro v17 w ⟨L,en,hO,hLl,hRise,hs⟩
   obtain ⟨a17,l17,c17,rfl,h17⟩:=hO.shape
   refine .o (.alloc hs ef rfl fun b5 w hs=>?_)
   refine .o (.store hs rfl rfl aA fun w hs=>?_)
   refine .nil (.seq (.ai (.y hs (zls [_,_] bg aE) ?_)))
   refine .o (.call Tryz.call264 rfl (kD (s:=s) hs ⟨_,rfl,hl.mono hle1⟩ ak) ?_);rintro v19 w ⟨L',en',hO',hLl',hRise',hs⟩
   obtain rfl:L=L':=hRise.uniq hRise'
   obtain ⟨H2,hle2,hR19,hs⟩:=bU.dM hO' ak hs .here
   refine .o (.call Tryz.call265 rfl (nG hs hR19) ?_);rintro _ w ⟨H3,b20,hle3,rfl,hit,hs⟩
   have hle03:=hle1.trans (hle2.trans hle3)
   refine .nil (.block ?_)
   refine .rangeFunc (gf:=291) (cap:=[.pointer (some ⟨b20,0,none⟩)]) (xs:=uH L) (σb:=[.blk b1 [I s.many,.slice al s.bL.length cl],.blk b5 [.slice a17 l17 c17],en]) (σf:=σ) (hs.sb:St H3 w (.blk b1 _:: .blk b5 _::en::σ)) trivial rfl hit Tryz.call291 (fun x hx=>by
     simp only [uH,List.mem_map] at hx
     obtain ⟨j,_,rfl⟩:=hx;rfl) rfl
    (I:=fun j H' σb=>∃(t:bI) (ut vo:Value) (out:List Int) (en:Ent),σb=[.blk b1 [I t.many,ut],.blk b5 [vo],en]∧RL H' ut t.bL∧bU 1 vo (Is out) en∧out.length≤L.length∧t.Ok∧qy s L (L.length - j) t out) (Ix:=fun _ _ _=>False)
    (fun j _ _ σ g1 ⟨t,ut,vo,out,en,g2,g3,g4⟩=>⟨t,ut,vo,out,en,g2,g3.mono g1,g4⟩) (fun _ _ _ _ _ h=>h)
    ⟨s,_,_,L,en,rfl,hl.mono hle03,hO,Nat.le_refl _,hok,.start⟩ ?_ ?_ (fun D c H' σb w _ h _=>h.elim)
   ·rintro l j hj H4 σb2 σf2 w hle4 ⟨t,ut,vo,out,en,rfl,hut,hOo,hol,htok,hC⟩ hs ⟨rr,hrr⟩
    rw [yF hj]
    have hjL:j<L.length:=by rw [kF] at hj;exact hj
    obtain ⟨at',ct,rfl⟩:=RL.shape hut
    obtain ⟨ao,lo,co,rfl,hlo⟩:=hOo.shape
    refine .region ?_
    refine .o (.alloc hs bN rfl fun b7 w hs=>?_)
    refine .o (.store hs rfl rfl aj fun w hs=>?_)
    refine .nil ?_
    refine nT ?_
    refine ⟨H4,[.blk b7 [I (gi L (L.length - 1 - j))],.blk b1 [I t.many,.slice at' t.bL.length ct],.blk b5 [.slice ao lo co],en],HLe.refl _,hs,?_⟩;rintro w σf4 - hs
    refine .block (.ai (.y hs (zls [_,_] bg aE) (.y hs (zld af) ?_)))
    refine .o (.buildSlice (cells:=[_]) hs cA rfl rfl fun b25 w hs=>?_)
    obtain ⟨H5,hle5,r25,hs⟩:=bU.dM (xs:=[gi L (L.length - 1 - j)]) (v:= .slice (some ⟨b25,0,none⟩) 1 1) (.full (len:=1) rfl) bV hs e7
    refine .o (.call Tryz.call266 rfl (qm (s:=t) hs ⟨_,rfl,hut.mono hle5⟩ r25 (by have:=htok.len;omega)) ?_);rintro _ w ⟨H6,hle6,⟨u26,rfl,hL26⟩,hs⟩
    obtain ⟨a26,c26,rfl⟩:=RL.shape hL26
    refine .o (.alloc hs dz rfl fun b8 w hs=>?_)
    refine .o (.aI (vs:=[_,_]) hs rfl rfl aE fun w hs=>?_)
    refine .nil (.ai (.y hs (zls [_,_] bg aE) ?_))
    refine .o (.call Tryz.call223 rfl (iI (s:=t.wo [gi L (L.length - 1 - j)]) hs (htok.wo _) ⟨_,rfl,hL26⟩) ?_);rintro _ w ⟨H7,b28,hle7,rfl,hb28,hs⟩
    have hle47:=hle5.trans (hle6.trans hle7)
    refine .z gy (.nil ?_)
    refine (.cond rfl (fun hc29=>?_) (fun hc29=>?_))
    ·refine .ai (.y hs (zls [_,_] bg aE) ?_)
     refine .o (.aI (vs:=[_,_]) hs rfl rfl aE fun w hs=>?_)
     refine .nil (.region (.y hs (zld an) ?_))
     refine .q hs (cJ (f:=[]) (c:=[_]) rfl rfl) ?_
     obtain ⟨H8,hle8,r7,hs⟩:=hs.cg (b:=b7) e7
     replace hs:St H8 w (en:: .blk b1 [I t.many,.slice a26 (t.wo [gi L (L.length - 1 - j)]).bL.length c26]:: .blk b5 [.slice ao lo co]::σf4):=hs.sb
     refine .o (.call Tryz.call267 rfl (mf (g:=268) (cap:=[.pointer (some ⟨b7,0,none⟩)]) (fun n=>decide (n=gi L (L.length - 1 - j))) hs hOo ak Tryz.call268
      (fun H' w σ n _ hle hs=>(sw hs (r7.mono hle)).mono fun u w' ⟨g1,g2⟩=>⟨H',HLe.refl _,g1,g2⟩)) ?_);rintro v33 w ⟨H9,en9,hle9,hO9,hs⟩
     obtain ⟨a33,l33,c33,rfl,h33⟩:=hO9.shape
     refine .o (.store hs rfl rfl aA fun w hs=>?_)
     refine .nil ?_
     refine nB ?_
     have hfl:=List.length_filter_le (fun n=> !decide (n=gi L (L.length - 1 - j))) out
     have e:L.length - (j+1)=L.length - 1 - j:=by omega
     have hns':¬(t.wo [gi L (L.length - 1 - j)]).Sound:=fun h=>by rw [hb28.2 h] at hc29;cases hc29
     exact ⟨H9,[.blk b1 [I t.many,.slice a26 (t.wo [gi L (L.length - 1 - j)]).bL.length c26],.blk b5 [.slice a33 l33 c33],en9],hle47.trans (hle8.trans hle9),(hs.sb:St H9 w (.blk b1 _:: .blk b5 _::en9::σf4)),t.wo [gi L (L.length - 1 - j)],_,_,_,_,rfl,hL26.mono (hle7.trans (hle8.trans hle9)),hO9,ak,htok.wo _,by
      rw [e]
      exact .drop (by rw [show L.length - 1 - j+1=L.length - j by omega];exact hC) hns'⟩
    ·refine .skip ?_
     refine nB ?_
     have e:L.length - (j+1)=L.length - 1 - j:=by omega
     have hsd':(t.wo [gi L (L.length - 1 - j)]).Sound:=hb28.1 (by simpa using hc29)
     exact ⟨H7,[.blk b1 [I t.many,.slice at' t.bL.length ct],.blk b5 [.slice ao lo co],en],hle47,(hs.sb:St H7 w (.blk b1 _:: .blk b5 _::en::σf4)),t,_,_,_,_,rfl,hut.mono hle47,hOo,hol,htok,by
      rw [e]
      exact .keep (by rw [show L.length - 1 - j+1=L.length - j by omega];exact hC) hsd'⟩
   ·rintro D H4 σb2 w hle4 ⟨t,ut,vo,out,en,rfl,hut,hOo,hol,htok,hC⟩ hs
    rw [kF,Nat.sub_self] at hC
    obtain ⟨ao,lo,co,rfl,hlo⟩:=hOo.shape
    replace hs:St H4 w (.obj D (.deferred (some [])):: .blk b1 [I t.many,ut]:: .blk b5 [.slice ao lo co]::en::σ):=hs
    refine nB (nT ?_)
    refine .ai (.y hs (zld an) (.z zg (.z zg (.nil ?_))))
    refine .ret ?_
    obtain ⟨H5,hle5,hR5,hs⟩:=bU.dM hOo ak hs e7
    exact Fin.ia [D] [] hs fun w hs=>⟨_,results2 Tryz.results220 rfl rfl,H5,_,out,0,hle03.trans (hle4.trans hle5),rfl,hR5,.ok hok hns hRise hC,hs.out⟩
theorem me{v:Value}{xs:List Int}{g:Nat}{cap:List Value}(q:Int→Prop)(hs:St H w σ)(hR:RI H v xs)(hc:∀args w,(callFunc g args).run Tryz.prog w= .ok (.enter g args) w)
  (hp:∀H' w σ (n:Int),n∈xs→HLe H H'→St H' w σ→Cl Tryz.prog g ([I n]++cap) w fun u w'=>∃H1 b,HLe H' H1∧u= .bool b∧(b=true↔q n)∧St H1 w' σ):
  Cl Tryz.prog 228 [v,.func (.func g) #[] cap.toArray] w fun u w'=>∃H1 i,HLe H H1∧u=I i∧(0≤i↔∃x∈xs,q x)∧St H1 w' σ:=by
 obtain ⟨a,c,rfl⟩:=RI.shape hR
 have hl:=(RI.len hR).2.2
 refine Cl.o Tryz.func228 Tryz.ntmps228 ag2 ?_
 refine .ai (.z zg (.nil (.seq (.ai (.z zm (.z (cZ ae) (.z zm (.nil ?_))))))))
 refine .for (N:=xs.length) (J:=fun k fr w=>fr=[(1,.func (.func g) #[] cap.toArray),(0,.slice a xs.length c)]∧∃H1,HLe H H1∧(∀j<k,∀y,xs[j]? =some y→¬q y)∧St H1 w σ) ak ?_ ?_ ?_
 ·exact .mk ⟨rfl,H,HLe.refl H,fun j hj=>by omega,hs⟩
 ·rintro k fr w hk ⟨rfl,H1,hle1,hno,hs⟩
  obtain ⟨x,hx⟩:=nth hk
  refine .block (.ai (.z zm (.z zg (.nil (.ai (.z zm (.z zm (.z zm ?_))))))))
  refine .ixY hs (hR.mono hle1) rfl rfl ae aj hx rfl ?_;intro b14 o14 hc14
  refine .q hs (aR rfl af hc14) ?_
  refine .o (.nO (first:=[]) (cap:=cap) rfl rfl hc (hp _ _ _ x (List.mem_of_getElem? hx) hle1 hs) ?_);rintro _ w ⟨H2,b16,hle2,rfl,hb16,hs⟩
  refine .nil ?_
  refine (.cond rfl (fun hc16=>?_) (fun hc16=>?_))
  ·refine .ai (.z zm (.z zg (.nil ?_)))
   refine .ret (rB (rT (rB (rT (Fin.bw sE rfl ?_)))))
   exact ⟨H2,_,hle1.trans hle2,rfl,⟨fun _=>⟨x,List.mem_of_getElem? hx,hb16.1 hc16⟩,fun _=>by omega⟩,hs⟩
  ·refine .skip ?_
   refine nB (nT ?_)
   exact .mk ⟨rfl,H2,hle1.trans hle2,eK hno hx (fun h=>by rw [hb16.2 h] at hc16;cases hc16),hs⟩
 ·rintro fr w ⟨rfl,H1,hle1,hno,hs⟩
  refine nT ?_
  refine .ai (.z zg (.nil ?_))
  refine .ret (Fin.bw sE rfl ?_)
  exact ⟨H1,_,hle1,rfl,⟨fun h=>by omega,fun ⟨x,h1,h2⟩=>by
   obtain ⟨j,hj⟩:=List.getElem?_of_mem h1
   exact (hno j (List.getElem?_eq_some_iff.1 hj).1 x hj h2).elim⟩,hs⟩
theorem kH{v:Value}{xs:List Int}{g:Nat}{cap:List Value}(q:Int→Prop)(hs:St H w σ)(hR:RI H v xs)(hc:∀args w,(callFunc g args).run Tryz.prog w= .ok (.enter g args) w)
  (hp:∀H' w σ (n:Int),n∈xs→HLe H H'→St H' w σ→Cl Tryz.prog g ([I n]++cap) w fun u w'=>∃H1 b,HLe H' H1∧u= .bool b∧(b=true↔q n)∧St H1 w' σ):
  Cl Tryz.prog 185 [v,.func (.func g) #[] cap.toArray] w fun u w'=>∃H1 b,HLe H H1∧u= .bool b∧(b=true↔∃x∈xs,q x)∧St H1 w' σ:=by
 refine Cl.o Tryz.func185 Tryz.ntmps185 ag2 ?_
 refine .ai (.z zg (.nil (.ai (.z zm (.z zm ?_)))))
 refine .o (.call Tryz.call228 rfl (me q hs hR hc hp) ?_);rintro _ w ⟨H1,i,hle1,rfl,hi,hs⟩
 refine .z y7 (.z zg (.nil ?_))
 refine .ret (Fin.bw Tryz.results185 rfl ?_)
 exact ⟨H1,_,hle1,rfl,by simp only [decide_eq_true_eq];exact hi,hs⟩
end Go.Proofs.YteajddicacjkhaaGreat
namespace Go.Proofs.YteajddicacjkhaaGreat
open Go.MW
theorem RI.one{H:bB}{a:Option Addr}{len cap k:Nat}{xs:List Int}(h:RI H (.slice a len cap) xs)(hk:k<len):RI H (.slice (if cap=k then a else a.map (·.add (k*1))) (k+1 - k) (cap - k)) [gi xs k]:=by
 have hl:=(RI.len h).1
 have h1:=RS.part h (lo:=k) (hi:=k+1) ak ak
 have e:(((xs.map fun x=>[I x]).take (k+1)).drop k)=[gi xs k].map fun x=>[I x]:=by
  rw [←List.map_take,←List.map_drop]
  congr 1
  have hx:=bF (l:=xs) (i:=k) ak
  rw [cC hx]
  exact List.drop_left' (by rw [List.length_take];omega)
 rw [e] at h1
 exact h1
end Go.Proofs.YteajddicacjkhaaGreat
namespace Go.Proofs.YteajddicacjkhaaGreat
open Go.MW
variable{H:bB}{w:World}{σ:List Ent}
theorem oD{a0 a1 a2:Int}(hs:St H w σ):Cl Tryz.prog 284 [I a0,I a1,I a2] w fun v w'=>v= .bool (decide (a1≤a0∧a0≤a2))∧St H w' σ:=by
 refine Cl.o Tryz.func284 Tryz.ntmps284 ag3 ?_
 refine .ai (.z zg (.nil (.ai (.z zm (.z zm (.z um (.z zm ?_)))))))
 refine .jM (t':=10) rfl (fun hb10=>?_) (fun hb10=>?_)
 ·refine .gT rfl rfl ?_
  refine .z zm ?_
  refine .gT rfl rfl ?_
  refine .z zm ?_
  refine .gT rfl rfl ?_
  refine .z um (.z zpT (.z zg (.nil ?_)))
  refine .ret (Fin.bw Tryz.results284 rfl ?_)
  exact ⟨by simp [*],hs.out⟩
 ·refine .gFs 3 3 true rfl rfl rfl ?_
  refine .z zpF (.z zg (.nil ?_))
  refine .ret (Fin.bw Tryz.results284 rfl ?_)
  exact ⟨by simp [*],hs.out⟩
theorem gG{v:Value}{l:List Int}{many:Nat}{most:Int}(hs:St H w σ)(hr:RI H v l):
  Cl Tryz.prog 259 [v,I many,I most] w fun v w'=>∃b:Bool,v= .bool b∧(b=true↔gw many most l)∧St H w' σ:=by
 obtain ⟨a,c,rfl⟩:=RI.shape hr
 have hlen:=(RI.len hr).2.2
 refine Cl.o Tryz.func259 Tryz.ntmps259 ag3 ?_
 refine .ai (.z zg (.nil (.seq (.ai (.z zm (.z (cZ ae) (.z zm ?_)))))))
 refine .o (.call Tryz.call284 rfl (oD hs) ?_);rintro _ w ⟨rfl,hs⟩
 refine .z gy (.z zm ?_)
 refine .bif (t':=14) rfl (fun hb14=>?_) (fun hb14=>?_)
 ·refine .gFs 4 5 false rfl rfl rfl ?_
  refine .z zpT (.z zm ?_)
  refine .gFs 8 11 false rfl rfl rfl ?_
  refine .z zpT (.nil ?_)
  refine (.cT ?_)
  refine .ai (.z zg (.nil ?_))
  refine .ret (rT (Fin.bw BJ rfl ?_))
  exact ⟨false,rfl,⟨fun h=>(by cases h),fun h=>by have:=h.two;have:=h.many;simp at hb14;omega⟩,hs⟩
 ·refine .gT rfl rfl ?_
  refine .z zm ?_
  refine .gT rfl rfl ?_
  have htwo:2≤l.length∧l.length≤many:=by simp at hb14;omega
  refine .ixY hs hr rfl rfl ae aj (bF (l:=l) (i:=0) ak) dn ?_;intro b16 o16 hc16
  refine .gT rfl rfl ?_
  refine .q hs (aR rfl af hc16) ?_
  refine .gT rfl rfl ?_
  refine .z iM (.z zpF (.z zm ?_))
  refine .jM (t':=20) rfl (fun hb20=>?_) (fun hb20=>?_)
  ·refine .gFs 8 11 false rfl rfl rfl ?_
   refine .z zpT (.nil ?_)
   refine (.cT ?_)
   refine .ai (.z zg (.nil ?_))
   refine .ret (rT (Fin.bw BJ rfl ?_))
   exact ⟨false,rfl,⟨fun h=>(by cases h),fun h=>by have:=h.low;omega⟩,hs⟩
  ·refine .gT rfl rfl ?_
   refine .z zm ?_
   refine .gT rfl rfl ?_
   refine .z zm ?_
   refine .gT rfl rfl ?_
   refine .z (cZ ae) ?_
   refine .gT rfl rfl ?_
   refine .z gZ ?_
   refine .gT rfl rfl ?_
   refine .ixY hs hr rfl rfl ae aj (bF (l:=l) (i:=(l.length - 1)) ak) dn ?_;intro b25 o25 hc25
   refine .gT rfl rfl ?_
   refine .q hs (aR rfl af hc25) ?_
   refine .gT rfl rfl ?_
   refine .z zm ?_
   refine .gT rfl rfl ?_
   refine .z qH (.z zpF (.nil ?_))
   refine (.bT rfl (fun hc29=>?_) (fun hc29=>?_))
   ·refine .ai (.z zg (.nil ?_))
    refine .ret (rT (Fin.bw BJ rfl ?_))
    exact ⟨false,rfl,⟨fun h=>(by cases h),fun h=>by have:=h.high;omega⟩,hs⟩
   ·refine .skip ?_
    refine nT ?_
    refine .seq (.ai (.z zm ?_))
    refine .q hs (Cf (k:=1) rfl rfl ae aj ak ak) ?_
    refine .z (cZ ae) (.z zm (.nil ?_))
    refine .for (N:=l.length - 1) (J:=fun k fr w=>fr=[(31,.slice (if c=1 then a else a.map (·.add (1*1))) (l.length - 1) (c - 1)),(0,.slice a l.length c)]∧(∀j<k,gi l j<gi l (j+1))∧St H w σ) ak ?_ ?_ ?_
    ·exact .mk ⟨rfl,fun j hj=>by omega,hs⟩
    ·rintro k fr w hk ⟨rfl,hno,hs⟩
     have ht:=hr.tail (k:=1) ak
     have hx:(l.drop 1)[k]? =some (gi l (k+1)):=by rw [List.getElem?_drop,Nat.add_comm];exact bF ak
     refine .block (.ai (.z zm ?_))
     refine .ixY hs ht rfl rfl ae aj hx rfl ?_;intro b36 o36 hc36
     refine .q hs (aR rfl af hc36) ?_
     refine .z zg (.z zg (.nil (.ai (.z zm (.z zm ?_)))))
     refine .ixY hs hr rfl rfl ae aj (bF (l:=l) (i:=k) ak) dn ?_;intro b40 o40 hc40
     refine .q hs (aR rfl af hc40) ?_
     refine .z zm (.z y7 (.nil ?_))
     refine (.bT rfl (fun hc43=>?_) (fun hc43=>?_))
     ·refine .ai (.z zg (.nil ?_))
      refine .ret (rB (rT (rB (rT (Fin.bw BJ rfl ?_)))))
      exact ⟨false,rfl,⟨fun h=>(by cases h),fun h=>by have:=h.rise k ak;omega⟩,hs⟩
     ·refine .skip ?_
      refine nB (nT ?_)
      exact .mk ⟨rfl,fun j hj=>by
       by_cases e:j=k
       ·subst e;omega
       ·exact hno j ak,hs⟩
    ·rintro fr w ⟨rfl,hno,hs⟩
     refine nT ?_
     refine .ai (.z zg (.nil ?_))
     refine .ret (Fin.bw BJ rfl ?_)
     exact ⟨true,rfl,⟨fun _=>⟨ak,ak,ak,ak,fun i hi=>hno i ak⟩,fun _=>rfl⟩,hs⟩
theorem mb{v:Value}{l:List Int}(hs:St H w σ)(hr:RI H v l):
  Cl Tryz.prog 299 [v] w fun v w'=>∃e,v=I e∧((gw 9 100000 l∧e=0)∨(¬gw 9 100000 l∧e≠0))∧St H w' σ:=by
 obtain ⟨a,c,rfl⟩:=RI.shape hr
 refine Cl.o Tryz.func299 Tryz.ntmps299 ag1 ?_
 refine .ai (.z zg (.nil (.seq (.ai (.z zm ?_)))))
 refine .o (.call Tryz.call259 rfl (gG (many:=9) (most:=100000) hs hr) ?_);rintro _ w ⟨b4,rfl,hb4,hs⟩
 refine .z gy (.nil ?_)
 refine (.cond rfl (fun hc5=>?_) (fun hc5=>?_))
 ·refine .ai (.z zg (.nil ?_))
  refine .ret (rT (Fin.bw Tryz.results299 rfl ?_))
  exact ⟨_,rfl,.inr ⟨fun h=>by simp [hb4.2 h] at hc5,by decide⟩,hs⟩
 ·refine .skip ?_
  refine nT ?_
  refine .ai (.z zg (.nil ?_))
  refine .ret (Fin.bw Tryz.results299 rfl ?_)
  exact ⟨_,rfl,.inl ⟨hb4.1 (by simpa using hc5),rfl⟩,hs⟩
theorem gQ{a b:Int}(hs:St H w σ)(ha:0<a)(hb:0<b∧b≤100000):
  Cl Tryz.prog 287 [I a,I b] w fun v w'=>v=I (rat a b)∧St H w' σ:=by
 have h1:0≤b.tdiv a:=Int.tdiv_nonneg ak ak
 have h2:b.tdiv a≤b:=by rw [Int.tdiv_eq_ediv_of_nonneg ak];exact Int.ediv_le_self _ ak
 have hw:=j7 (m:=b.tdiv a) ⟨ak,ak⟩
 refine Cl.o Tryz.func287 Tryz.ntmps287 ag2 ?_
 refine .ai (.z zg (.nil (.seq (.ai (.z zm (.z zm (.z AU (.z jU (.z zm ?_)))))))))
 refine .jM (t':=9) rfl (fun hb9=>?_) (fun hb9=>?_)
 ·refine .gT rfl rfl ?_
  refine .z zm ?_
  refine .gT rfl rfl ?_
  refine .z zm ?_
  refine .gT rfl rfl ?_
  refine .z Hf ?_
  refine .gT rfl rfl ?_
  refine .z um (.z zpT (.nil ?_))
  refine (.bT rfl (fun hc14=>?_) (fun hc14=>?_))
  ·refine .ai (.z zm (.z zm (.z Hf (.z zg (.nil ?_)))))
   refine .ret (rT (Fin.bw Tryz.results287 rfl ?_))
   rw [hw] at hc14 ⊢
   exact ⟨by unfold rat;rw [if_pos ⟨by assumption,by assumption⟩],hs⟩
  ·refine .skip ?_
   refine nT ?_
   refine .ai (.z zg (.nil ?_))
   refine .ret (Fin.bw Tryz.results287 rfl ?_)
   rw [hw] at hc14
   exact ⟨by unfold rat;rw [if_neg ak],hs⟩
 ·refine .gFs 4 4 true rfl rfl rfl ?_
  refine .z zpF (.nil ?_)
  refine (.cF ?_)
  refine .skip ?_
  refine nT ?_
  refine .ai (.z zg (.nil ?_))
  refine .ret (Fin.bw Tryz.results287 rfl ?_)
  exact ⟨by unfold rat;rw [if_neg ak],hs⟩
def qb(l:List Int):List (List Value):=(wL l).map fun g=>[Value.agg #[I (g.at_:Int),I (g.n:Int)]]
theorem BO{l:List Int}(hp:gw 9 100000 l){i:Nat}(h:i+2<l.length):fE l i=true↔0<rat (gi l (i+1) - gi l i) (gi l (i+2) - gi l (i+1))∨0<rat (gi l (i+2) - gi l (i+1)) (gi l (i+1) - gi l i):=by
 have h1:=hp.rise i ak
 have h2:gi l (i+1)<gi l (i+2):=hp.rise (i+1) ak
 unfold fE
 rw [BV ak ak]
 simp only [Bool.and_eq_true,decide_eq_true_eq]
 omega
theorem oE{H:bB}{b:Nat}{v:Value}{l:List Int}(hp:gw 9 100000 l)(hb:Row H b [v])(hr:RI H v l):Iter Tryz.prog 302 [.pointer (some ⟨b,0,none⟩)] H (qb l):=by
 intro ly II Ix _ _ hy H0 σb0 σf w hle hI0 hs
 obtain ⟨a,c,rfl⟩:=RI.shape hr
 have hlen:=hp.many
 have hb0:cellAt H0 b 0=some (.slice a l.length c):=cellAt.mono (hb.at 0) hle
 refine Cl.o Tryz.func302 Tryz.ntmps302 ag2 ?_
 refine .ai (.z zg (.nil (.block ?_)))
 refine .loop (fun i:Nat=>⟨59,[],[(3,I (i:Int)),(0,.func (.yield ly) #[] #[]),(1,.pointer (some ⟨b,0,none⟩))]⟩)
  (fun i w=>i≤l.length∧∃j,j≤(wL l).length∧(wL l).drop j=oh l i∧∃H1 σb,HLe H H1∧HLe H0 H1∧II j H1 σb∧St H1 w (σb++σf)) (fun i=>l.length - i) 0 (.dA rfl bV bD)
  ⟨Nat.zero_le _,0,Nat.zero_le _,rfl,H0,σb0,hle,HLe.refl _,hI0,hs⟩ ?_
 clear hs hI0
 rintro i w ⟨hil,j,hj,hd,H1,σb,hle1,hle0,hI,hs⟩
 have hb1:cellAt H1 b 0=some (.slice a l.length c):=cellAt.mono hb0 hle0
 refine .seq (.ai (.z zm (.z cf (.y hs (zld an) (.z (cZ ae) (.z iM (.nil ?_)))))))
 refine (.bT rfl (fun hc11=>?_) (fun hc11=>?_))
 ·refine .skip ?_
  refine nT ?_
  refine .block (.ai (.z zm (.z (zbd [_,_] w6) ?_)))
  refine .o (.alloc hs Tryz.zeroValue315 rfl fun b4 w hs=>?_)
  refine .o (.aI (vs:=[_,_]) hs rfl rfl Tryz.sizeOf315 fun w hs=>?_)
  refine .nil ?_
  refine .cut (fun fs w=>kQ fs ⟨59,[],[(4,.pointer (some ⟨b4,0,none⟩)),(3,I (i:Int)),(0,.func (.yield ly) #[] #[]),(1,.pointer (some ⟨b,0,none⟩))]⟩∧St H1 w (.blk b4 [I (i:Int),I (((if fE l i then 2 else 1:Nat)):Int)]::(σb++σf))) ?_ ?_
  ·refine .ai (.z zm (.z cf (.y hs (zld an) (.z (cZ ae) (.z iM (.nil ?_))))))
   refine (.bT rfl (fun hc18=>?_) (fun hc18=>?_))
   ·refine .seq (.draw mix rfl hs fun w hs=>?_)
    refine .y 0 rfl hs an ?_;refine .z 1 rfl zm ?_;refine .z 2 rfl cf ?_
    have r1:=hp.rise i ak
    have r2:gi l (i+1)<gi l (i+2):=hp.rise (i+1) ak
    have hiff:=BO hp (i:=i) ak
    have q1:=hp.bd (i:=i) ak
    have q2:=hp.bd (i:=i+2) ak
    refine .ixX (enc:=fun x=>[I x]) (i:=3) hs rfl aq .none (hr.mono hle1) rfl rfl ae aj (bF (l:=l) (i:=(i+1)) ak) dn ?_;intro b22 o22 hc22;replace hc22:=bO.one hc22
    refine .r (i:=4) hs rfl aq .none (aR rfl af hc22) ?_
    refine .y 5 rfl hs an ?_;refine .z 6 rfl zm ?_
    refine .ixX (enc:=fun x=>[I x]) (i:=7) hs rfl aq .none (hr.mono hle1) rfl rfl ae aj (bF (l:=l) (i:=i) ak) dn ?_;intro b26 o26 hc26;replace hc26:=bO.one hc26
    refine .r (i:=8) hs rfl aq .none (aR rfl af hc26) ?_
    refine .z 9 rfl gZ ?_;refine .y 10 rfl hs an ?_;refine .z 11 rfl zm ?_;refine .z 12 rfl cf ?_
    refine .ixX (enc:=fun x=>[I x]) (i:=13) hs rfl aq .none (hr.mono hle1) rfl rfl ae aj (bF (l:=l) (i:=(i+2)) ak) dn ?_;intro b32 o32 hc32;replace hc32:=bO.one hc32
    refine .r (i:=14) hs rfl aq .none (aR rfl af hc32) ?_
    refine .y 15 rfl hs an ?_;refine .z 16 rfl zm ?_;refine .z 17 rfl cf ?_
    refine .ixX (enc:=fun x=>[I x]) (i:=18) hs rfl aq .none (hr.mono hle1) rfl rfl ae aj (bF (l:=l) (i:=(i+1)) ak) dn ?_;intro b37 o37 hc37;replace hc37:=bO.one hc37
    refine .r (i:=19) hs rfl aq .none (aR rfl af hc37) ?_
    refine .z 20 rfl gZ ?_;refine .z 21 rfl zg ?_;refine .z 22 rfl zg ?_;refine .D hs ?_
    refine .ai (.z zm (.z zm ?_))
    refine .o (.call Tryz.call287 rfl (gQ hs ak ak) ?_);rintro _ w ⟨rfl,hs⟩
    refine .z qH (.z zm ?_)
    refine .jM (t':=44) rfl (fun hb44=>?_) (fun hb44=>?_)
    ·refine .gFs 4 4 false rfl rfl rfl ?_
     refine .z zpT (.nil ?_)
     refine (.cT ?_)
     refine .region (.z (zfa jb) ?_)
     refine .o (.store hs rfl rfl aj fun w hs=>?_)
     refine .nil ?_
     refine nT ?_
     rw [hiff.2 (.inl hb44)];exact ⟨bD,hs⟩
    ·refine .gT rfl rfl ?_
     refine .z zm ?_
     refine .gT rfl rfl ?_
     refine .z zm ?_
     refine .gT rfl rfl ?_
     refine .o (.call Tryz.call287 rfl (gQ hs ak ak) ?_);rintro _ w ⟨rfl,hs⟩
     refine .gT rfl rfl ?_
     refine .z qH (.z zpF (.nil ?_))
     refine (.bT rfl (fun hc49=>?_) (fun hc49=>?_))
     ·refine .region (.z (zfa jb) ?_)
      refine .o (.store hs rfl rfl aj fun w hs=>?_)
      refine .nil ?_
      refine nT ?_
      rw [hiff.2 (.inr hc49)];exact ⟨bD,hs⟩
     ·refine .skip ?_
      refine nT ?_
      rw [show fE l i=false from Bool.eq_false_iff.2 fun h=>by have:=hiff.1 h;omega];exact ⟨bD,hs⟩
   ·refine .skip ?_
    refine nT ?_
    rw [show fE l i=false by simp [fE];omega];exact ⟨bD,hs⟩
  ·rintro fs w ⟨hfs,hs⟩
   refine WE.sub ?_ hfs
   have hgo:=yj (l:=l) (i:=i) ak
   rw [hgo] at hd
   have hjl:j<(wL l).length:=by
    have:=congrArg List.length hd
    simp at this;omega
   have hgj:(wL l)[j]=⟨i,fE l i⟩:=by
    rw [List.drop_eq_getElem_cons hjl] at hd
    exact (List.cons.inj hd).1
   have hdj:(wL l).drop (j+1)=oh l (i+(if fE l i then 2 else 1)):=by
    rw [List.drop_eq_getElem_cons hjl] at hd
    exact (List.cons.inj hd).2
   have hn12:(if fE l i then 2 else 1:Nat)=1∨(if fE l i then 2 else 1:Nat)=2:=by split<;>simp
   refine .seq (.ai (.z zm (.y hs (zls [_,_] Tryz.isAgg315 Tryz.sizeOf315) ?_)))
   have hk':j<(qb l).length:=by simpa [qb] using hjl
   have hyd:=hy j hk' H1 σb (.blk b4 [I (i:Int),I (((if fE l i then 2 else 1:Nat)):Int)]::σf) w hle1 hI (St.deep hs)
   rw [show (qb l)[j]=[Value.agg #[I (i:Int),I (((if fE l i then 2 else 1:Nat)):Int)]] by simp only [qb,List.getElem_map,hgj];rfl] at hyd
   refine .o (.yield rfl rfl hyd ?_);rintro v53 w ⟨H2,σ2,g1,hs,g3⟩
   obtain ⟨bb,rfl,gT,gF⟩:=mC g3
   replace hs:=St.shallow hs
   refine .z gy (.nil ?_)
   refine (.cond rfl (fun hc54=>?_) (fun hc54=>?_))
   ·refine .ret (rT (rB (rT (rB (Fin.Hg Tryz.results302 ?_)))))
    exact ⟨H2,σ2,hle0.trans g1,hs.tail,.inr (gF (by simpa using hc54))⟩
   ·refine .skip ?_
    refine nT ?_
    refine .region (.z zm (.z (zfa jb) (.y hs (zld af) (.z cf (.z zg (.nil ?_))))))
    refine nB (nT ?_)
    generalize (if fE l i then 2 else 1:Nat)=n at*
    exact ⟨i+n,.dA rfl bV bD,⟨ak,j+1,hjl,hdj,H2,σ2,hle1.trans g1,hle0.trans g1,gT (by simpa using hc54),hs.tail⟩,ak⟩
 ·refine .exit ?_
  refine xT (xT (xB ?_))
  rw [vA ak] at hd
  have:(wL l).length≤j:=by simpa using hd
  obtain rfl:j=(wL l).length:=by omega
  exact Fin.yx Tryz.results302 ⟨H1,σb,hle0,hs,.inl (by simpa [qb] using hI)⟩
theorem qL{v:Value}{l:List Int}(hs:St H w σ)(hr:RI H v l)(hp:gw 9 100000 l):
  Cl Tryz.prog 286 [v] w fun u w'=>∃H1 b,HLe H H1∧u= .func (.func 302) #[] #[.pointer (some ⟨b,0,none⟩)]∧Iter Tryz.prog 302 [.pointer (some ⟨b,0,none⟩)] H1 (qb l)∧St H1 w' σ:=by
 obtain ⟨a,c,rfl⟩:=RI.shape hr
 refine Cl.o Tryz.func286 Tryz.ntmps286 ag1 ?_
 refine .ai ?_
 refine .bx hs fun b1 w hs=>?_
 refine .z zg (.nil (.ai ?_))
 refine .q hs (cJ (f:=[]) (c:=[_]) rfl rfl) ?_
 refine .z zg (.nil ?_)
 refine .ret (Fin.bw Tryz.results286 rfl ?_)
 obtain ⟨H1,g1,g2,hs⟩:=hs.cg .here
 exact ⟨H1,b1,g1,rfl,oE hp g2 (hr.mono g1),hs⟩
theorem od{bs bW from_ n:Nat}{W xs:List Int}{v:Value}(hs:St H w (.blk bs [.slice (some ⟨bW,0,none⟩) n n]:: .blk bW (Is W)::σ))(hW:W.length=n)(hr:RI H v xs)(hl:from_+xs.length≤n)(hn:n≤9)
  (hz:bu W n≤1000000000) (ha:vK xs≤1000000000):
  Cl Tryz.prog 285 [.pointer (some ⟨bs,0,none⟩),I (from_:Int),v] w fun _ w'=>St H w' (.blk bs [.slice (some ⟨bW,0,none⟩) n n]:: .blk bW (Is (kN W from_ xs))::σ):=by
 obtain ⟨a,c,rfl⟩:=RI.shape hr
 have hlen:=(RI.len hr).2.2
 refine Cl.o Tryz.func285 Tryz.ntmps285 ag3 ?_
 refine .ai (.z zm (.z (cZ ae) (.z zm (.nil ?_))))
 refine .for (N:=xs.length) (J:=fun k fr w=>fr=[(8,.slice a xs.length c),(0,.pointer (some ⟨bs,0,none⟩)),(1,I (from_:Int))]∧St H w (.blk bs [.slice (some ⟨bW,0,none⟩) n n]:: .blk bW (Is (kN W from_ (xs.take k)))::σ)) ak ?_ ?_ ?_
 ·exact .mk ⟨rfl,hs⟩
 ·rintro k fr w hk ⟨rfl,hs⟩
  have hal:=nj (xs.take k) W from_
  have hsz:=po (xs.take k) W from_ (by rw [List.length_take];omega)
  rw [hW] at hsz
  have h1:=yH xs k
  have h2:=Dj xs k
  have h3:=nr (kN W from_ (xs.take k)) (v:=from_+k) (n:=n) ak
  have h4:=Bs hk W from_
  refine .block (.ai (.z zm ?_))
  refine .ixY hs hr rfl rfl ae aj (bF (l:=xs) (i:=k) ak) dn ?_;intro b13 o13 hc13
  refine .q hs (aR rfl af hc13) ?_
  refine .z zg (.z zg (.nil (.region (.z zm (.z znc (.z (zfa om) (.y hs (zld an) (.z zm (.z zm ?_)))))))))
  refine .z cf ?_
  refine .q hs (ke (k:=from_+k) rfl rfl ae aj ak ak) ?_
  refine .y hs (zld af) (.z zm (.z cf ?_))
  refine .q hs (ke (k:=from_+k) rfl rfl ae aj ak ak) ?_
  refine .o (.store hs rfl rfl aj fun w hs=>?_)
  refine .nil ?_
  refine nB (nT ?_)
  exact .mk ⟨rfl,by rw [h4];exact hs⟩
 ·rintro fr w ⟨rfl,hs⟩
  rw [List.take_length] at hs
  exact Fin.yx Tryz.results285 hs
theorem Bg{a b:Int}(ha:0<a∧a≤100000)(hb:0<b∧b≤100000):0≤min a b∧min a b≤100000:=by omega
theorem Gd{a b:Int}(h:0<tms a b):tms a b=1∨tms a b=2∨tms a b=3:=by have:=FE a b;omega
set_option maxHeartbeats 1000000 in
theorem iA{v:Value}{l:List Int}(hs:St H w σ)(hr:RI H v l)(hp:gw 9 100000 l):
  Cl Tryz.prog 260 [v] w fun u w'=>∃H1,HLe H H1∧RI H1 u (wts l)∧St H1 w' σ:=by
 obtain ⟨a,c,rfl⟩:=RI.shape hr
 have hln:=hp.many
 have hgl:(wL l).length≤9:=by have:=rH l l.length 0;unfold wL;omega
 refine Cl.o Tryz.func260 Tryz.ntmps260 ag1 ?_
 refine .ai ?_
 refine .bx hs fun b1 w hs=>?_
 refine .z zg (.nil (.ai (.y hs (zld an) (.z (cZ ae) ?_))))
 refine .o (.xX l.length hs rfl rfl ae iQ rfl aj bN ak fun b13 w hs=>?_)
 refine .z (zbd [_] w5) ?_
 refine .o (.alloc hs Tryz.zeroValue317 rfl fun b3 w hs=>?_)
 refine .o (.aI (vs:=[_]) hs rfl rfl Tryz.sizeOf317 fun w hs=>?_)
 refine .nil (.ai ?_)
 refine .q hs (cJ (f:=[_]) (c:=[]) rfl rfl) ?_
 refine .o (.alloc hs Tryz.zeroValue318 rfl fun b4 w hs=>?_)
 refine .o (.store hs rfl rfl Tryz.sizeOf318 fun w hs=>?_)
 refine .nil (.seq (.ai (.y hs (zld an) ?_)))
 refine .o (.call Tryz.call286 rfl (qL hs hr hp) ?_);rintro _ w ⟨H1,b17,hle1,rfl,hit,hs⟩
 refine .nil (.block ?_)
 refine .rangeFunc (gf:=302) (cap:=[.pointer (some ⟨b17,0,none⟩)]) (xs:=qb l) (σb:=[.blk b3 [.slice (some ⟨b13,0,none⟩) l.length l.length],.blk b13 (Is (yV l 0)),.blk b4 [.func (.func 285) #[.pointer (some ⟨b3,0,none⟩)] #[]],.blk b1 [.slice a l.length c]]) (σf:=σ) (hs.sb) trivial rfl hit Tryz.call302 (fun x hx=>by
   simp only [qb,List.mem_map] at hx
   obtain ⟨j,_,rfl⟩:=hx;rfl) rfl
  (I:=fun j H' σb=>σb=[.blk b3 [.slice (some ⟨b13,0,none⟩) l.length l.length],.blk b13 (Is (yV l j)),.blk b4 [.func (.func 285) #[.pointer (some ⟨b3,0,none⟩)] #[]],.blk b1 [.slice a l.length c]]) (Ix:=fun _ _ _=>False)
  (fun j _ _ σ g1 g2=>g2) (fun _ _ _ _ _ h=>h) rfl ?_ ?_ (fun D c H' σb w _ h _=>h.elim)
 ·rintro ly j hj H2 σb2 σf2 w hle2 rfl hs ⟨rr,hrr⟩
  have hjl:j<(wL l).length:=by simpa [qb] using hj
  obtain ⟨g,hg⟩:=nth hjl
  rw [show (qb l)[j]=[Value.agg #[I (g.at_:Int),I (g.n:Int)]] by
   rw [List.getElem?_eq_getElem hjl] at hg
   simp only [qb,List.getElem_map,Option.some.inj hg]]
  obtain ⟨i1,i2,i3,i4,i5⟩:=yk hp (List.mem_of_getElem? hg)
  have hK:=xq hg
  have hKl:=oB l j
  have hKz:=uS hp j ak
  have hr2:=hr.mono (hle1.trans hle2)
  have hq0:=hp.bd (i:=g.at_) ak
  have hq1:=hp.bd (i:=g.at_+1) ak
  generalize hA:gi l (g.at_+1) - gi l g.at_=A at*
  refine .region ?_
  refine .o (.alloc hs Tryz.zeroValue315 rfl fun b5 w hs=>?_)
  refine .o (.aI (vs:=[_,_]) hs rfl rfl Tryz.sizeOf315 fun w hs=>?_)
  refine .nil ?_
  refine nT ?_
  refine ⟨H2,[.blk b5 [I (g.at_:Int),I (g.n:Int)],.blk b3 [.slice (some ⟨b13,0,none⟩) l.length l.length],.blk b13 (Is (yV l j)),.blk b4 [.func (.func 285) #[.pointer (some ⟨b3,0,none⟩)] #[]],.blk b1 [.slice a l.length c]],HLe.refl _,hs,?_⟩;rintro w σf4 - hs
  refine .block ?_
  refine .seq (.draw mix rfl hs fun w hs=>?_)
  refine .y 0 rfl hs an ?_;refine .z 1 rfl (zfa fM) ?_;refine .y 2 rfl hs af ?_;refine .z 3 rfl cf ?_
  refine .ixX (enc:=fun x=>[I x]) (i:=4) hs rfl aq .none hr2 rfl rfl ae aj (bF (l:=l) (i:=(g.at_+1)) ak) dn ?_;intro b23 o23 hc23;replace hc23:=bO.one hc23
  refine .r (i:=5) hs rfl aq .none (aR rfl af hc23) ?_
  refine .y 6 rfl hs an ?_;refine .z 7 rfl (zfa fM) ?_;refine .y 8 rfl hs af ?_
  refine .ixX (enc:=fun x=>[I x]) (i:=9) hs rfl aq .none hr2 rfl rfl ae aj (bF (l:=l) (i:=g.at_) ak) dn ?_;intro b28 o28 hc28;replace hc28:=bO.one hc28
  refine .r (i:=10) hs rfl aq .none (aR rfl af hc28) ?_
  refine .z 11 rfl gZ ?_
  rw [hA]
  refine .z 12 rfl zg ?_;refine .D hs ?_
  refine .seq (.ai (.z (zfa jb) (.y hs (zld af) (.z jU ?_))))
  skip
  refine .nil ?_
  refine (.bT rfl (fun hc33=>?_) (fun hc33=>?_))
  ·refine .ai ?_
   refine .y hs (zld Tryz.isAgg318) ?_
   refine .z (zfa fM) (.y hs (zld af) (.z zm (.z kS (.z zm (.z kS ?_)))))
   refine .o (.buildSlice (cells:=[_,_]) hs jn rfl rfl fun b41 w hs=>?_)
   have h2:g.two=false:=by
    cases e:g.two with
    |false=>rfl
    |true=>simp [Grp.n,e] at hc33
   obtain ⟨H3,hle3,r41,hs⟩:=bU.dM (xs:=[18*A,18*A]) (v:= .slice (some ⟨b41,0,none⟩) 2 2) (.full (len:=2) rfl) bV hs e7
   have hgw:=E4 h2 hA
   rw [hgw] at hK i5
   replace hs:St H3 w (.blk b3 [.slice (some ⟨b13,0,none⟩) l.length l.length]:: .blk b13 (Is (yV l j)):: .blk b5 [I (g.at_:Int),I (g.n:Int)]:: .blk b4 [.func (.func 285) #[.pointer (some ⟨b3,0,none⟩)] #[]]:: .blk b1 [.slice a l.length c]::σf4):=hs.sb
   refine .o (.nO (first:=[.pointer (some ⟨b3,0,none⟩)]) (cap:=[]) rfl rfl Tryz.call285 (od (from_:=g.at_) (xs:=[18*A,18*A]) hs hKl r41 (by simp;omega) ak ak ak) ?_);rintro _ w hs
   rw [←hK] at hs
   refine .nil ?_
   refine .exit ?_
   refine xT (xB ?_)
   exact ⟨H3,_,hle3,(hs.sb:St H3 w (.blk b3 _:: .blk b13 _:: .blk b4 _:: .blk b1 _::σf4)),rfl⟩
  ·refine .skip ?_
   refine nT ?_
   refine .seq (.draw mix rfl hs fun w hs=>?_)
   have h2:g.two=true:=by
    cases e:g.two with
    |true=>rfl
    |false=>simp [Grp.n,e] at hc33
   obtain ⟨j1,j2,j3,j4⟩:=i4 h2
   have hq2:=hp.bd (i:=g.at_+2) ak
   generalize hB:gi l (g.at_+2) - gi l (g.at_+1)=B at*
   have hmx:=BV (a:=A) (b:=B) ak ak
   have hk:=Gd j4
   have hmm:=Bg (a:=A) (b:=B) ⟨ak,ak⟩ ⟨ak,ak⟩
   obtain ⟨n1,n2,n3,n4⟩:=E2 hk hmm.1 hmm.2
   obtain ⟨n5,n6,n7,n8,n9⟩:=n4 _ n3.1 n3.2
   generalize hT:tms A B=T at*
   generalize hM:min A B=M at*
   have hgw:=E3 h2 hA hB hT hM
   refine .y 0 rfl hs an ?_;refine .z 1 rfl (zfa fM) ?_;refine .y 2 rfl hs af ?_;refine .z 3 rfl cf ?_
   refine .ixX (enc:=fun x=>[I x]) (i:=4) hs rfl aq .none hr2 rfl rfl ae aj (bF (l:=l) (i:=(g.at_+2)) ak) dn ?_;intro b47 o47 hc47;replace hc47:=bO.one hc47
   refine .r (i:=5) hs rfl aq .none (aR rfl af hc47) ?_
   refine .y 6 rfl hs an ?_;refine .z 7 rfl (zfa fM) ?_;refine .y 8 rfl hs af ?_;refine .z 9 rfl cf ?_
   refine .ixX (enc:=fun x=>[I x]) (i:=10) hs rfl aq .none hr2 rfl rfl ae aj (bF (l:=l) (i:=(g.at_+1)) ak) dn ?_;intro b53 o53 hc53;replace hc53:=bO.one hc53
   refine .r (i:=11) hs rfl aq .none (aR rfl af hc53) ?_
   refine .z 12 rfl gZ ?_
   rw [hB]
   refine .z 13 rfl zg ?_;refine .D hs ?_
   refine .ai (.z zm (.z zm ?_))
   refine .o (.call Tryz.call287 rfl (gQ hs ak ak) ?_);rintro _ w ⟨rfl,hs⟩
   refine .z zm (.z zm ?_)
   refine .o (.call Tryz.call287 rfl (gQ hs ak ak) ?_);rintro _ w ⟨rfl,hs⟩
   refine .z DP ?_
   rw [←hmx]
   refine .z zg (.nil (.ai (.z zm ?_)))
   refine .q hs (xP rfl rfl ak ak) ?_
   refine .z zm (.z cf (.z kS (.z zm (.z zm (.z BE ?_)))))
   rw [hM]
   refine .z kS (.z zg (.nil (.ai (.z zm (.z zm (.z kS (.z zm (.z gZ (.z kS ?_)))))))))
   refine .z zm (.z zm (.z cf (.z kS (.z zm (.z cf (.z kS (.z zm (.z zm (.z kS ?_)))))))))
   refine .z gZ (.z kS ?_)
   refine .o (.buildSlice (cells:=[_,_,_]) hs yC rfl rfl fun b90 w hs=>?_)
   refine .z zg (.nil ?_)
   refine .cut (fun fs w=>∃H3,kQ fs ⟨103,[],[(10,.slice (some ⟨b90,0,none⟩) 3 3),(5,.pointer (some ⟨b5,0,none⟩)),(4,.pointer (some ⟨b4,0,none⟩)),(3,.pointer (some ⟨b3,0,none⟩)),(1,.pointer (some ⟨b1,0,none⟩))]⟩∧HLe H2 H3∧RI H3 (.slice (some ⟨b90,0,none⟩) 3 3) (vB l g)∧St H3 w (.blk b3 [.slice (some ⟨b13,0,none⟩) l.length l.length]:: .blk b13 (Is (yV l j)):: .blk b5 [I (g.at_:Int),I (g.n:Int)]:: .blk b4 [.func (.func 285) #[.pointer (some ⟨b3,0,none⟩)] #[]]:: .blk b1 [.slice a l.length c]::σf4)) ?_ ?_
   ·refine .ai (.z zm (.z zm (.z qH (.nil ?_))))
    refine (.bT rfl (fun hc93=>?_) (fun hc93=>?_))
    ·refine .region (.z zm ?_)
     refine .o (.call Tryz.call270 rfl (km (en:= .blk b90 (Is [(6:Int).tdiv T*(1+T)*M*T*(2 - T),(6:Int).tdiv T*(1+T)*M*(1+T)*(1+T),(6:Int).tdiv T*(1+T)*M*(2*T - 1)])) (hs.sb:St H2 w (.blk b90 _:: .blk b3 _:: .blk b13 _:: .blk b5 _:: .blk b4 _:: .blk b1 _::σf4)) (.full rfl) bV) ?_);rintro _ w ⟨en95,hO95,hs⟩
     refine .nil ?_
     refine nT ?_
     obtain ⟨H3,hle3,r90,hs⟩:=bU.dM hO95 bV hs .here
     rw [if_pos hc93] at hgw
     rw [hgw]
     exact ⟨H3,bD,hle3,r90,hs⟩
    ·refine .skip ?_
     refine nT ?_
     obtain ⟨H3,hle3,r90,hs⟩:=bU.dM (xs:=[(6:Int).tdiv T*(1+T)*M*T*(2 - T),(6:Int).tdiv T*(1+T)*M*(1+T)*(1+T),(6:Int).tdiv T*(1+T)*M*(2*T - 1)]) (v:= .slice (some ⟨b90,0,none⟩) 3 3) (.full (len:=3) rfl) bV hs e7
     rw [if_neg ak] at hgw
     rw [hgw]
     exact ⟨H3,bD,hle3,r90,hs.sb⟩
   ·rintro fs w ⟨H3,hfs,hle3,r90,hs⟩
    refine WE.sub ?_ hfs
    refine .region ?_
    refine .y hs (zld Tryz.isAgg318) ?_
    refine .z (zfa fM) (.y hs (zld af) (.z zm ?_))
    refine .o (.nO (first:=[.pointer (some ⟨b3,0,none⟩)]) (cap:=[]) rfl rfl Tryz.call285 (od (from_:=g.at_) (xs:=vB l g) hs hKl r90 (by rw [As,show g.n=2 by unfold Grp.n;rw [h2];rfl];omega) ak ak ak) ?_);rintro _ w hs
    rw [←hK] at hs
    refine .nil ?_
    refine nB ?_
    exact ⟨H3,_,hle3,(hs.sb:St H3 w (.blk b3 _:: .blk b13 _:: .blk b4 _:: .blk b1 _::σf4)),rfl⟩
 ·rintro D H2 σb2 w hle2 rfl hs
  rw [show (qb l).length=(wL l).length by simp [qb],DX] at hs
  replace hs:St H2 w (.obj D (.deferred (some [])):: .blk b3 [.slice (some ⟨b13,0,none⟩) l.length l.length]:: .blk b13 (Is (wts l)):: .blk b4 [.func (.func 285) #[.pointer (some ⟨b3,0,none⟩)] #[]]:: .blk b1 [.slice a l.length c]::σ):=hs
  refine nB (nT ?_)
  refine .ai (.z (zfa om) (.y hs (zld an) (.z zg (.nil ?_))))
  refine .ret ?_
  obtain ⟨H3,hle3,hR,hs⟩:=bU.dM (xs:=wts l) (v:= .slice (some ⟨b13,0,none⟩) l.length l.length) (.full (by simp [Is,im])) (by rw [im];omega) hs e7
  exact Fin.ia [D] [] hs fun w hs=>⟨_,results1 Tryz.results260 rfl,H3,hle1.trans (hle2.trans hle3),hR,hs.out⟩
def A3(X Y:List Int)(i:Nat):List Int:=(List.range Y.length).map fun k=>gi X i*gi Y k
def qc(X Y:List Int)(i:Nat):List (List Int):=(List.range i).map (A3 X Y)
theorem oO(X Y:List Int)(i:Nat):(A3 X Y i).length=Y.length:=by simp [A3]
theorem mR(X Y:List Int)(i:Nat):(qc X Y i).length=i:=by simp [qc]
theorem Bl(X Y:List Int)(i:Nat):qc X Y (i+1)=qc X Y i++[A3 X Y i]:=by simp [qc,List.range_succ]
theorem B8{X Y:List Int}{i k:Nat}(hk:k<Y.length):(A3 X Y i).take (k+1)=(A3 X Y i).take k++[gi X i*gi Y k]:=by
 rw [cC (by simp [A3,hk]:(A3 X Y i)[k]? =some (gi X i*gi Y k))]
theorem Av{X Y:List Int}{n i:Nat}(h:i<n):gr (qc X Y n) i=A3 X Y i:=by simp [gr,List.getD,qc,h]
theorem E5{X Y:List Int}{n i k:Nat}(h:i<n)(hk:k<Y.length):gt (qc X Y n) i k=gi X i*gi Y k:=by
 unfold gt;rw [Av h];simp [gi,List.getD,A3,hk]
inductive GrS(X Y:List Int)(b:Nat)(i k:Nat)(H:bB)(σ:List Ent):Prop
 |go (us:List Value) (v:Value) (en:Ent) (h:i<X.length) (h1:RLs H us (qc X Y i)) (h2:bU 1 v (Is ((A3 X Y i).take k)) en) (h3:σ=[.blk b (us++v::List.replicate (X.length - i - 1) (.slice none 0 0)),en])
 |fin (us:List Value) (h:i=X.length) (h1:RLs H us (qc X Y i)) (h3:σ=[.blk b us])
theorem GrS.mono{X Y:List Int}{b i k:Nat}{H H':bB}{σ:List Ent}(h:GrS X Y b i k H σ)(hl:HLe H H'):GrS X Y b i k H' σ:=by
 cases h with
 |go us v en h h1 h2 h3=>exact .go us v en h (h1.mono hl) h2 h3
 |fin us h h1 h3=>exact .fin us h (h1.mono hl) h3
theorem kj{v:Value}{l:List Int}(hs:St H w σ)(hr:RI H v l):
  Cl Tryz.prog 275 [v] w fun u w'=>∃H1 vo e,HLe H H1∧u= .tuple #[vo,I e]∧(gw 9 100000 l→e=0∧RI H1 vo (wts l))∧St H1 w' σ:=by
 obtain ⟨a,c,rfl⟩:=RI.shape hr
 refine Cl.o Tryz.func275 Tryz.ntmps275 ag1 ?_
 refine .ai (.z zg (.z zg (.nil (.seq (.ai (.z zm ?_))))))
 refine .o (.call Tryz.call299 rfl (mb hs hr) ?_);rintro _ w ⟨e,rfl,he,hs⟩
 refine .z zg (.nil (.ai (.z zm (.z gE (.nil ?_)))))
 refine (.ep rfl (fun hc8=>?_) (fun hc8=>?_))
 ·refine .ai (.z zm (.z zg (.z zg (.nil ?_))))
  refine .ret (rT (Fin.kn Tryz.results275 rfl rfl ?_))
  exact ⟨H,_,_,HLe.refl H,rfl,fun h=>by rcases he with ⟨_,h2⟩|⟨h1,_⟩;exact (hc8 h2).elim;exact (h1 h).elim,hs⟩
 ·refine .skip ?_
  refine nT ?_
  refine .ai (.z zm ?_)
  have hp:gw 9 100000 l:=by rcases he with ⟨h,_⟩|⟨_,h2⟩;exact h;exact (h2 (by simpa using hc8)).elim
  refine .o (.call Tryz.call260 rfl (iA hs hr hp) ?_);rintro v11 w ⟨H1,hle1,hR,hs⟩
  refine .z zg (.z zg (.nil ?_))
  refine .ret (Fin.kn Tryz.results275 rfl rfl ?_)
  exact ⟨H1,_,_,hle1,rfl,fun _=>⟨rfl,hR⟩,hs⟩
theorem qK{v1 v2:Value}{a b:List Int}(hs:St H w σ)(h1:RI H v1 a)(h2:RI H v2 b):
  Cl Tryz.prog 215 [v1,v2] w fun u w'=>∃bb:Bool,u= .bool bb∧(bb=true↔gw 9 100000 a∧gw 7 15000 b)∧St H w' σ:=by
 refine Cl.o Tryz.func215 Tryz.ntmps215 ag2 ?_
 refine .ai (.z zg (.nil (.ai (.z zm ?_))))
 refine .o (.call Tryz.call259 rfl (gG (many:=9) (most:=100000) hs h1) ?_);rintro _ w ⟨b6,rfl,hb6,hs⟩
 refine .z zm ?_
 refine .bif (t':=7) rfl (fun hb7=>?_) (fun hb7=>?_)
 ·refine .gT rfl rfl ?_
  refine .z zm ?_
  refine .gT rfl rfl ?_
  refine .o (.call Tryz.call259 rfl (gG (many:=7) (most:=15000) hs h2) ?_);rintro _ w ⟨b9,rfl,hb9,hs⟩
  refine .z zpT (.z zg (.nil ?_))
  refine .ret (Fin.bw Tryz.results215 rfl ?_)
  exact ⟨_,rfl,by rw [hb9];exact ⟨fun h=>⟨hb6.1 hb7,h⟩,fun h=>h.2⟩,hs⟩
 ·refine .gFs 2 2 true rfl rfl rfl ?_
  refine .z zpF (.z zg (.nil ?_))
  refine .ret (Fin.bw Tryz.results215 rfl ?_)
  exact ⟨_,rfl,⟨fun h=>(by cases h),fun h=>by rw [hb6.2 h.1] at hb7;cases hb7⟩,hs⟩
theorem nD{bx by_:Nat}{x y:Int}(hs:St H w σ)(hx:Row H bx [I x])(hy:Row H by_ [I y]):
  Cl Tryz.prog 289 [.pointer (some ⟨bx,0,none⟩),.pointer (some ⟨by_,0,none⟩)] w fun u w'=>u= .tuple #[I x,I y]∧St H w' σ:=by
 have hx0:=hx.at 0
 have hy0:=hy.at 0
 refine Cl.o Tryz.func289 Tryz.ntmps289 ag2 ?_
 refine .ai (.z zg (.z zg (.nil ?_)))
 refine .seq (.draw mix rfl hs fun w hs=>?_)
 refine .y 0 rfl hs af ?_;refine .y 1 rfl hs af ?_;refine .z 2 rfl zg ?_;refine .z 3 rfl zg ?_;refine .D hs ?_
 refine .ret (Fin.kn Tryz.results289 rfl rfl ?_)
 exact ⟨rfl,hs⟩
def PrE(X Y:List Int)(p:Nat)(H:bB)(z:List Value):Prop:=
 ∃bx by_,z=[.agg #[I ((p/Y.length:Nat):Int),I ((p%Y.length:Nat):Int)],.func (.func 289) #[] #[.pointer (some ⟨bx,0,none⟩),.pointer (some ⟨by_,0,none⟩)]]∧Row H bx [I (gi X (p/Y.length))]∧Row H by_ [I (gi Y (p%Y.length))]
theorem pE{H:bB}{b1 b2:Nat}{v1 v2:Value}{X Y:List Int}(hb1:Row H b1 [v1])(hb2:Row H b2 [v2])(hX:RI H v1 X)(hY:RI H v2 Y)(hXl:X.length≤1000)(hYl:Y.length≤1000):
  Fu Tryz.prog 288 [.pointer (some ⟨b1,0,none⟩),.pointer (some ⟨b2,0,none⟩)] H (X.length*Y.length) (PrE X Y):=by
 intro ly II Ix hmI _ hy H0 σb0 σf w hle hI0 hs
 obtain ⟨a1,c1,rfl⟩:=RI.shape hX
 obtain ⟨a2,c2,rfl⟩:=RI.shape hY
 have h01:cellAt H0 b1 0=some (.slice a1 X.length c1):=cellAt.mono (hb1.at 0) hle
 have h02:cellAt H0 b2 0=some (.slice a2 Y.length c2):=cellAt.mono (hb2.at 0) hle
 refine Cl.o Tryz.func288 Tryz.ntmps288 ag3 ?_
 refine .ai (.y hs (zld an) (.z (cZ ae) (.z zm (.nil ?_))))
 refine .for (N:=X.length) (J:=fun i fr w=>fr=[(8,.slice a1 X.length c1),(0,.func (.yield ly) #[] #[]),(1,.pointer (some ⟨b1,0,none⟩)),(2,.pointer (some ⟨b2,0,none⟩))]∧∃H1 σb,HLe H H1∧HLe H0 H1∧II (i*Y.length) H1 σb∧St H1 w (σb++σf)) ak ?_ ?_ ?_
 ·exact .mk ⟨rfl,H0,σb0,hle,HLe.refl _,by rw [Nat.zero_mul];exact hI0,hs⟩
 ·rintro i fr w hi ⟨rfl,H1,σb,hle1,hle0,hI,hs⟩
  refine .block (.ai (.z zm ?_))
  refine .ixY hs (hX.mono hle1) rfl rfl ae aj (bF (l:=X) (i:=i) ak) dn ?_;intro b13 o13 hc13
  refine .q hs (aR rfl af hc13) ?_
  refine .o (.alloc hs bN rfl fun b5 w hs=>?_)
  refine .z zg ?_
  refine .o (.store hs rfl rfl aj fun w hs=>?_)
  refine .nil (.ai ?_)
  obtain ⟨H2,hle2,r5,hs⟩:=hs.cg (b:=b5) .here
  have h22:=cellAt.mono h02 (hle0.trans hle2)
  refine .y hs (zld an) (.z (cZ ae) (.z zm (.nil ?_)))
  refine .for (N:=Y.length) (J:=fun k fr w=>fr=[(15,.slice a2 Y.length c2),(4,I (i:Int)),(10,I (i:Int)),(9,I (X.length:Int)),(5,.pointer (some ⟨b5,0,none⟩)),(8,.slice a1 X.length c1),(0,.func (.yield ly) #[] #[]),(1,.pointer (some ⟨b1,0,none⟩)),(2,.pointer (some ⟨b2,0,none⟩))]∧∃H3 σb,HLe H2 H3∧II (i*Y.length+k) H3 σb∧St H3 w (σb++σf)) ak ?_ ?_ ?_
  ·exact .mk ⟨rfl,H2,σb,HLe.refl _,hmI _ _ _ _ hle2 hI,hs⟩
  ·rintro k fr w hk ⟨rfl,H3,σb3,hle3,hI3,hs⟩
   have hle03:=hle0.trans (hle2.trans hle3)
   have hle13:=hle1.trans (hle2.trans hle3)
   refine .block (.ai (.z zm ?_))
   refine .ixY hs (hY.mono hle13) rfl rfl ae aj (bF (l:=Y) (i:=k) ak) dn ?_;intro b20 o20 hc20
   refine .q hs (aR rfl af hc20) ?_
   refine .o (.alloc hs bN rfl fun b7 w hs=>?_)
   refine .z zg ?_
   refine .o (.store hs rfl rfl aj fun w hs=>?_)
   refine .nil (.ai (.z zm (.z zm (.z zm ?_))))
   refine .q hs (wv (vs:=[(0,I (i:Int)),(1,I (k:Int))]) (cells:=[I (i:Int),I (k:Int)]) Tryz.zeroValue76 rfl Tryz.runUnderlying76 aj rfl) ?_
   refine .q hs (cJ (f:=[]) (c:=[_,_]) rfl rfl) ?_
   obtain ⟨H4,hle4,r7,hs⟩:=hs.cg (b:=b7) .here
   obtain ⟨d1,d2⟩:=Gb (nw:=Y.length) (i:=i) (k:=k) hk
   have hlt:i*Y.length+k<X.length*Y.length:=by
    have:=Nat.mul_le_mul_right Y.length (show i+1≤X.length by omega)
    rw [Nat.add_mul,Nat.one_mul] at this;omega
   have hyd:=hy (i*Y.length+k) hlt [.agg #[I (i:Int),I (k:Int)],.func (.func 289) #[] #[.pointer (some ⟨b5,0,none⟩),.pointer (some ⟨b7,0,none⟩)]] H4 σb3 σf w (hle13.trans hle4) ⟨b5,b7,by rw [d1,d2],by rw [d1];exact r5.mono (hle3.trans hle4),by rw [d2];exact r7⟩ (hmI _ _ _ _ hle4 hI3) hs
   refine .o (.yield rfl rfl hyd ?_);rintro v27 w ⟨H5,σ5,g1,hs,g3⟩
   obtain ⟨bb,rfl,gT,gF⟩:=mC g3
   refine .z gy (.nil ?_)
   refine (.cond rfl (fun hc28=>?_) (fun hc28=>?_))
   ·refine .ret (rB (rT (rB (rB (rT (rB (Fin.Hg Tryz.results288 ?_)))))))
    exact ⟨H5,σ5,hle03.trans (hle4.trans g1),hs,.inr (gF (by simpa using hc28))⟩
   ·refine .skip ?_
    refine nB (nT ?_)
    exact .mk ⟨rfl,H5,σ5,hle3.trans (hle4.trans g1),gT (by simpa using hc28),hs⟩
  ·rintro fr w ⟨rfl,H3,σb3,hle3,hI3,hs⟩
   refine nB (nT ?_)
   exact .mk ⟨rfl,H3,σb3,hle1.trans (hle2.trans hle3),hle0.trans (hle2.trans hle3),by rw [Nat.add_mul,Nat.one_mul];exact hI3,hs⟩
 ·rintro fr w ⟨rfl,H1,σb,hle1,hle0,hI,hs⟩
  exact Fin.yx Tryz.results288 ⟨H1,σb,hle0,hs,.inl hI⟩
theorem rX{v1 v2:Value}{X Y:List Int}(hs:St H w σ)(hX:RI H v1 X)(hY:RI H v2 Y)(hXl:X.length≤1000)(hYl:Y.length≤1000):
  Cl Tryz.prog 261 [v1,v2] w fun u w'=>∃H1 b1 b2,HLe H H1∧u= .func (.func 288) #[] #[.pointer (some ⟨b1,0,none⟩),.pointer (some ⟨b2,0,none⟩)]∧Fu Tryz.prog 288 [.pointer (some ⟨b1,0,none⟩),.pointer (some ⟨b2,0,none⟩)] H1 (X.length*Y.length) (PrE X Y)∧St H1 w' σ:=by
 obtain ⟨a1,c1,rfl⟩:=RI.shape hX
 obtain ⟨a2,c2,rfl⟩:=RI.shape hY
 refine Cl.o Tryz.func261 Tryz.ntmps261 ag2 ?_
 refine .ai ?_
 refine .bx hs fun b2 w hs=>?_
 refine .bx hs fun b3 w hs=>?_
 refine .z zg (.nil (.ai ?_))
 refine .q hs (cJ (f:=[]) (c:=[_,_]) rfl rfl) ?_
 refine .z zg (.nil ?_)
 refine .ret (Fin.bw Tryz.results261 rfl ?_)
 obtain ⟨H1,g1,r1,hs⟩:=hs.cg (b:=b2) e7
 obtain ⟨H2,g2,r2,hs⟩:=hs.cg (b:=b3) e7
 exact ⟨H2,b2,b3,g1.trans g2,rfl,pE (r1.mono g2) r2 (hX.mono (g1.trans g2)) (hY.mono (g1.trans g2)) hXl hYl,hs⟩
set_option maxHeartbeats 1000000 in
theorem s4{v1 v2:Value}{l1 l2:List Int}(hs:St H w σ)(hr1:RI H v1 l1)(hr2:RI H v2 l2)(hp1:gw 9 100000 l1)(hp2:gw 7 15000 l2):
  Cl Tryz.prog 216 [v1,v2] w fun u w'=>∃H1,HLe H H1∧RT H1 u (qc (wts l1) (wts l2) l1.length)∧St H1 w' σ:=by
 obtain ⟨a1,c1,rfl⟩:=RI.shape hr1
 obtain ⟨a2,c2,rfl⟩:=RI.shape hr2
 have hn1:=hp1.many
 have hn2:=hp2.many
 have htw1:=hp1.two
 have htw2:=hp2.two
 have hp2':gw 9 100000 l2:=⟨hp2.two,ak,hp2.low,by have:=hp2.high;omega,hp2.rise⟩
 have hXl:=im l1
 have hYl:=im l2
 have hXb:=FB hp1
 have hYb:=FB hp2
 refine Cl.o Tryz.func216 Tryz.ntmps216 ag2 ?_
 refine .ai (.z zg (.nil (.ai (.z zm ?_))))
 refine .o (.call Tryz.call260 rfl (iA hs hr1 hp1) ?_);rintro v13 w ⟨H1,hle1,hX,hs⟩
 refine .z zm ?_
 refine .o (.call Tryz.call260 rfl (iA hs (hr2.mono hle1) hp2') ?_);rintro v15 w ⟨H2,hle2,hY,hs⟩
 replace hX:=hX.mono hle2
 generalize wts l1=X at*
 generalize wts l2=Y at*
 obtain ⟨aX,cX,rfl⟩:=RI.shape hX
 obtain ⟨aY,cY,rfl⟩:=RI.shape hY
 refine .z zg (.z zg (.nil (.ai (.z zm (.z (cZ ae) ?_)))))
 refine .o (.Ig l1.length hs rfl rfl aC Tryz.typeInfo34 rfl aA ef ak fun b18 w hs=>?_)
 refine .o (.alloc hs Tryz.zeroValue62 rfl fun b7 w hs=>?_)
 refine .o (.store hs rfl rfl Tryz.sizeOf62 fun w hs=>?_)
 refine .nil (.seq (.ai (.z zm (.z zm ?_))))
 refine .o (.call Tryz.call261 rfl (rX hs hX hY ak ak) ?_);rintro _ w ⟨H3,bp1,bp2,hle3,rfl,hit,hs⟩
 have hle03:=hle1.trans (hle2.trans hle3)
 have h0:GrS X Y b18 0 0 H3 [.blk b18 (List.replicate l1.length (.slice none 0 0)),.nul]:=by
  refine .go [] (.slice none 0 0) .nul ak (RLs.nil _) (.nil 1 none) ?_
  rw [hXl]
  obtain ⟨m,hm⟩:∃m,l1.length=m+1:=⟨l1.length - 1,ak⟩
  rw [hm]
  rfl
 refine .nil (.block ?_)
 refine .FJ (gf:=288) (cap:=[.pointer (some ⟨bp1,0,none⟩),.pointer (some ⟨bp2,0,none⟩)]) (N:=X.length*Y.length) (E:=PrE X Y) (σb:= .blk b7 [.slice (some ⟨b18,0,none⟩) l1.length l1.length]::[.blk b18 (List.replicate l1.length (.slice none 0 0)),.nul]) (σf:=σ) (hs.nul.sb) trivial rfl hit Tryz.call288 (fun k H' z ⟨_,_,hz,_⟩=>by rw [hz];rfl) rfl
  (I:=fun p H' σb=>∃σ1,σb= .blk b7 [.slice (some ⟨b18,0,none⟩) l1.length l1.length]::σ1∧GrS X Y b18 (p/Y.length) (p%Y.length) H' σ1) (Ix:=fun _ _ _=>False)
  (fun j _ _ σ g1 ⟨σ1,g2,g3⟩=>⟨σ1,g2,g3.mono g1⟩) (fun _ _ _ _ _ h=>h) ⟨_,rfl,by rw [Nat.zero_div,Nat.zero_mod];exact h0⟩ ?_ ?_ (fun D c H' σb w _ h _=>h.elim)
 ·rintro ly p hp z H4 σb2 σf2 w hle4 ⟨bx,by_,rfl,rx,ry⟩ ⟨σ1,rfl,hG⟩ hs ⟨rr,hrr⟩
  have hnext:=Ak (p:=p) (m:=Y.length) ak
  have hkm:=Nat.mod_lt p (show 0<Y.length by omega)
  have hin:p/Y.length<X.length:=Nat.div_lt_of_lt_mul (by rw [Nat.mul_comm];exact hp)
  generalize hi:p/Y.length=i at*
  generalize hk:p%Y.length=k at*
  cases hG with
  |fin us h=>omega
  |go us v en h h1 h2 h3=>
  subst h3
  obtain ⟨av,lv,cv,rfl,hlv⟩:=h2.shape
  have husl:us.length=i:=by rw [h1.1,mR]
  have hb1:=hXb i
  have hb2:=hYb k
  have hpr:=FX (gi X i) (gi Y k)
  have hprb: -3456000000000≤gi X i*gi Y k∧gi X i*gi Y k≤3456000000000:=kv (A:=4800000) (B:=720000) (by unfold ab at hb1;omega) (by unfold ab at hb2;omega)
  refine .ai ?_
  refine .o (.alloc hs Tryz.zeroValue76 rfl fun b8 w hs=>?_)
  refine .o (.aI (vs:=[_,_]) hs rfl rfl Tryz.sizeOf76 fun w hs=>?_)
  refine .nil (.region (.z zg (.nil ?_)))
  refine nT ?_
  refine ⟨H4,[.blk b8 [I (i:Int),I (k:Int)],.blk b7 [.slice (some ⟨b18,0,none⟩) l1.length l1.length],.blk b18 (us++Value.slice av lv cv::List.replicate (X.length - i - 1) (Value.slice none 0 0)),en],HLe.refl _,hs,?_⟩;rintro w σf4 - hs
  refine .block (.ai (.z zm ?_))
  refine .o (.nO (first:=[]) (cap:=[.pointer (some ⟨bx,0,none⟩),.pointer (some ⟨by_,0,none⟩)]) rfl rfl Tryz.call289 (nD hs rx ry) ?_);rintro _ w ⟨rfl,hs⟩
  refine .z zm (.z zex (.z zex (.z zg (.z zg (.nil ?_)))))
  refine .draw mix rfl hs fun w hs=>?_
  refine .y 0 rfl hs uj ?_
  refine .z 1 rfl (zia 0 Tryz.runUnderlying76 aj) ?_
  refine .y 2 rfl hs af ?_;refine .y 3 rfl hs uj ?_
  refine .z 4 rfl (zia 0 Tryz.runUnderlying76 aj) ?_
  refine .y 5 rfl hs af ?_
  refine .z 6 rfl (ke (k:=i) rfl rfl aC aA rfl ak) ?_
  refine .load (i:=7) hs rfl aq .none rfl an ?_ (hv:=by rw [List.getElem?_append_right ak,husl,Nat.sub_self];rfl)
  refine .z 8 rfl zm ?_;refine .z 9 rfl zm ?_;refine .z 10 rfl kS ?_
  refine .E 11 hs ?_
  refine .buildSlice (cells:=[_]) hs cA rfl rfl ?_;intro b40 w hs
  refine .go ?_
  refine .E 12 hs ?_
  refine .append (ys:=Is [gi X i*gi Y k]) hs cn rfl rfl h2 (.own .here rfl rfl) (iX _) (fun l' h=>by simp at h;omega) ?_;intro v41 en41 w hO hs
  rw [show Is ((A3 X Y i).take k)++Is [gi X i*gi Y k]=Is ((A3 X Y i).take (k+1)) by rw [B8 hkm];simp [Is]] at hO
  obtain ⟨a41,l41,c41,rfl,hl41⟩:=hO.shape
  refine .go ?_
  refine .z 13 rfl (ke (k:=i) rfl rfl aC aA rfl ak) ?_
  refine .E 14 hs ?_
  refine .store (c':=us++ .slice a41 l41 c41::List.replicate (X.length - i - 1) (.slice none 0 0)) hs rfl rfl aA ?_ e7 (by simp;omega) (by rw [List.set_append_right _ _ ak,husl,Nat.sub_self];rfl);intro w hs
  refine .go ?_
  refine .D hs ?_
  refine nB ?_
  rcases hnext with ⟨g1,g2,g3⟩|⟨g1,g2,g3⟩
  ·exact ⟨H4,[.blk b7 [.slice (some ⟨b18,0,none⟩) l1.length l1.length],.blk b18 (us++ .slice a41 l41 c41::List.replicate (X.length - i - 1) (.slice none 0 0)),en41],HLe.refl _,(hs.sb:St H4 w (.blk b7 _:: .blk b18 _::en41::σf4)),_,rfl,by rw [g2,g3];exact .go us _ en41 h h1 hO rfl⟩
  ·obtain ⟨H5,hle5,hR,hs⟩:=bU.dM hO (by rw [List.length_take,oO];omega) hs e7
   rw [List.take_of_length_le (by rw [oO];omega)] at hR
   have h1':RLs H5 (us++[.slice a41 l41 c41]) (qc X Y (i+1)):=by rw [Bl];exact (h1.mono hle5).snoc hR
   by_cases e:i+1<X.length
   ·refine ⟨H5,[.blk b7 [.slice (some ⟨b18,0,none⟩) l1.length l1.length],.blk b18 (us++ .slice a41 l41 c41::List.replicate (X.length - i - 1) (.slice none 0 0)),.nul],hle5,(hs.nul.sb:St H5 w (.blk b7 _:: .blk b18 _:: .nul::σf4)),_,rfl,?_⟩
    rw [g2,g3]
    refine .go (us++[.slice a41 l41 c41]) (.slice none 0 0) .nul e h1' (.nil 1 none) ?_
    obtain ⟨m,hm⟩:∃m,X.length - i - 1=m+1:=⟨X.length - i - 2,ak⟩
    rw [hm,show X.length - (i+1) - 1=m by omega,List.append_assoc]
    rfl
   ·refine ⟨H5,[.blk b7 [.slice (some ⟨b18,0,none⟩) l1.length l1.length],.blk b18 (us++ .slice a41 l41 c41::List.replicate (X.length - i - 1) (.slice none 0 0))],hle5,(hs.sb:St H5 w (.blk b7 _:: .blk b18 _::σf4)),_,rfl,?_⟩
    rw [g2,g3]
    refine .fin (us++[.slice a41 l41 c41]) ak h1' ?_
    rw [show X.length - i - 1=0 by omega]
    rfl
 ·rintro D H4 σb2 w hle4 ⟨σ1,rfl,hG⟩ hs
  rw [Nat.mul_div_cancel _ ak,Nat.mul_mod_left] at hG
  cases hG with
  |go us v en h=>omega
  |fin us h h1 h3=>
  subst h3
  replace hs:St H4 w (.obj D (.deferred (some [])):: .blk b7 [.slice (some ⟨b18,0,none⟩) l1.length l1.length]:: .blk b18 us::σ):=hs
  have husl:us.length=l1.length:=by rw [h1.1,mR,hXl]
  refine nB (nT ?_)
  refine .ai (.y hs (zld uj) (.z zg (.nil ?_)))
  refine .ret ?_
  obtain ⟨H5,hle5,hR,hs⟩:=h1.cg (v:= .slice (some ⟨b18,0,none⟩) l1.length l1.length) (en:= .blk b18 us) (.full (by simp [husl])) ak hs e7
  rw [hXl] at hR
  exact Fin.ia [D] [] hs fun w hs=>⟨_,results1 Tryz.results216 rfl,H5,hle03.trans (hle4.trans hle5),hR,hs.out⟩
theorem mF{v1 v2:Value}{l1 l2:List Int}(hs:St H w σ)(hr1:RI H v1 l1)(hr2:RI H v2 l2):
  Cl Tryz.prog 163 [v1,v2] w fun u w'=>∃H1 vo e,HLe H H1∧u= .tuple #[vo,I e]∧(gw 9 100000 l1∧gw 7 15000 l2→e=0∧RT H1 vo (qc (wts l1) (wts l2) l1.length))∧(e=0→gw 9 100000 l1∧gw 7 15000 l2)∧St H1 w' σ:=by
 refine Cl.o Tryz.func163 Tryz.ntmps163 ag2 ?_
 refine .ai (.z zg (.z zg (.nil (.seq (.ai (.z zm (.z zm ?_)))))))
 refine .o (.call Tryz.call215 rfl (qK hs hr1 hr2) ?_);rintro _ w ⟨b8,rfl,hb8,hs⟩
 refine .z gy (.nil ?_)
 refine (.cond rfl (fun hc9=>?_) (fun hc9=>?_))
 ·refine .ai (.z zg (.z zg (.nil ?_)))
  refine .ret (rT (Fin.kn Tryz.results163 rfl rfl ?_))
  exact ⟨H,_,_,HLe.refl H,rfl,fun h=>(by rw [hb8.2 h] at hc9;cases hc9),fun h=>ak,hs⟩
 ·refine .skip ?_
  refine nT ?_
  refine .ai (.z zm (.z zm ?_))
  have hp:=hb8.1 (by simpa using hc9)
  refine .o (.call Tryz.call216 rfl (s4 hs hr1 hr2 hp.1 hp.2) ?_);rintro v12 w ⟨H1,hle1,hR,hs⟩
  refine .z zg (.z zg (.nil ?_))
  refine .ret (Fin.kn Tryz.results163 rfl rfl ?_)
  exact ⟨H1,_,_,hle1,rfl,fun _=>⟨rfl,hR⟩,fun _=>hp,hs⟩
end Go.Proofs.YteajddicacjkhaaGreat
namespace Go.Proofs.YteajddicacjkhaaGreat
open Go.MW
def Grp.c(g:Grp):List Value:=[I (g.at_:Int),I (g.n:Int)]
theorem CR{l:List Int}{i j:Nat}(h:i≠j)(x:Int):gi (l.set i x) j=gi l j:=by
 simp [gi,List.getD,h]
end Go.Proofs.YteajddicacjkhaaGreat
