/-
  Texts of these claims, joined: Opn Opb Opq Cls Fct Wa Wb Wc Wd We Wf Wg Wn Wz Xb Xe Xf Xh Xi Xj Xl Xn Xo Xq Xt Xu Xw Srt Yc Yd Ye Yf Yq Yr Za Zb Zc Zd Ze Zf.
-/
import Derived.Test.YteajddicacjkhaaGreatBb
import Derived.Test.YteajddicacjkhaaGreatProg
import Derived.KernelRfl
import Derived.JoinedOf
import Derived.Shelf.Sort.Plain
import Derived.Shelf.Slices.CompactI
import Derived.Shelf.Slices.In.SortNone
import Derived.Lib.RowBridge
namespace Go.Proofs.YteajddicacjkhaaGreat
theorem GP:type_of% @Tryz.call117:=@Tryz.call117
theorem zp:type_of% @Tryz.call131:=@Tryz.call131
theorem GO:type_of% @Tryz.call133:=@Tryz.call133
theorem cD:type_of% @Tryz.call164:=@Tryz.call164
theorem zo:type_of% @Tryz.call188:=@Tryz.call188
theorem zn:type_of% @Tryz.call199:=@Tryz.call199
theorem zk:type_of% @Tryz.call242:=@Tryz.call242
theorem di:type_of% @Tryz.call72:=@Tryz.call72
theorem eh:type_of% @Tryz.call74:=@Tryz.call74
theorem oI:type_of% @Tryz.isAgg100:=@Tryz.isAgg100
theorem Er:type_of% @Tryz.isAgg104:=@Tryz.isAgg104
theorem wz:type_of% @Tryz.isAgg113:=@Tryz.isAgg113
theorem jZ:type_of% @Tryz.isAgg140:=@Tryz.isAgg140
theorem Ep:type_of% @Tryz.isAgg159:=@Tryz.isAgg159
theorem wy:type_of% @Tryz.isAgg162:=@Tryz.isAgg162
theorem dw:type_of% @Tryz.isAgg175:=@Tryz.isAgg175
theorem bh:type_of% @Tryz.isAgg177:=@Tryz.isAgg177
theorem wx:type_of% @Tryz.isAgg179:=@Tryz.isAgg179
theorem fJ:type_of% @Tryz.isAgg193:=@Tryz.isAgg193
theorem dy:type_of% @Tryz.isAgg22:=@Tryz.isAgg22
theorem oH:type_of% @Tryz.isAgg226:=@Tryz.isAgg226
theorem gP:type_of% @Tryz.isAgg23:=@Tryz.isAgg23
theorem oG:type_of% @Tryz.isAgg241:=@Tryz.isAgg241
theorem oF:type_of% @Tryz.isAgg243:=@Tryz.isAgg243
theorem aN:type_of% @Tryz.isAgg25:=@Tryz.isAgg25
theorem cZ:type_of% @Tryz.isAgg26:=@Tryz.isAgg26
theorem dJ:type_of% @Tryz.isAgg267:=@Tryz.isAgg267
theorem cW:type_of% @Tryz.isAgg28:=@Tryz.isAgg28
theorem ae:type_of% @Tryz.isAgg3:=@Tryz.isAgg3
theorem eR:type_of% @Tryz.isAgg303:=@Tryz.isAgg303
theorem aq:type_of% @Tryz.isAgg34:=@Tryz.isAgg34
theorem aB:type_of% @Tryz.isAgg42:=@Tryz.isAgg42
theorem bI:type_of% @Tryz.isAgg48:=@Tryz.isAgg48
theorem aS:type_of% @Tryz.isAgg52:=@Tryz.isAgg52
theorem rU:type_of% @Tryz.isAgg62:=@Tryz.isAgg62
theorem gO:type_of% @Tryz.isAgg87:=@Tryz.isAgg87
theorem qt:type_of% @Tryz.results111:=@Tryz.results111
theorem hZ:type_of% @Tryz.results117:=@Tryz.results117
theorem kr:type_of% @Tryz.results120:=@Tryz.results120
theorem qs:type_of% @Tryz.results134:=@Tryz.results134
theorem qq:type_of% @Tryz.results170:=@Tryz.results170
theorem dv:type_of% @Tryz.results18:=@Tryz.results18
theorem dM:type_of% @Tryz.results19:=@Tryz.results19
theorem dL:type_of% @Tryz.results20:=@Tryz.results20
theorem qp:type_of% @Tryz.results228:=@Tryz.results228
theorem zB:type_of% @Tryz.results250:=@Tryz.results250
theorem zA:type_of% @Tryz.results259:=@Tryz.results259
theorem mh:type_of% @Tryz.results32:=@Tryz.results32
theorem CK:type_of% @Tryz.results75:=@Tryz.results75
theorem sB:type_of% @Tryz.results76:=@Tryz.results76
theorem sA:type_of% @Tryz.results79:=@Tryz.results79
theorem dW:type_of% @Tryz.runUnderlying100:=@Tryz.runUnderlying100
theorem nt:type_of% @Tryz.runUnderlying104:=@Tryz.runUnderlying104
theorem Bn:type_of% @Tryz.runUnderlying113:=@Tryz.runUnderlying113
theorem ns:type_of% @Tryz.runUnderlying140:=@Tryz.runUnderlying140
theorem fc:type_of% @Tryz.runUnderlying153:=@Tryz.runUnderlying153
theorem cB:type_of% @Tryz.runUnderlying159:=@Tryz.runUnderlying159
theorem nr:type_of% @Tryz.runUnderlying162:=@Tryz.runUnderlying162
theorem aK:type_of% @Tryz.runUnderlying175:=@Tryz.runUnderlying175
theorem Bm:type_of% @Tryz.runUnderlying179:=@Tryz.runUnderlying179
theorem Bl:type_of% @Tryz.runUnderlying190:=@Tryz.runUnderlying190
theorem nq:type_of% @Tryz.runUnderlying193:=@Tryz.runUnderlying193
theorem aD:type_of% @Tryz.runUnderlying22:=@Tryz.runUnderlying22
theorem bP:type_of% @Tryz.runUnderlying23:=@Tryz.runUnderlying23
theorem Bk:type_of% @Tryz.runUnderlying236:=@Tryz.runUnderlying236
theorem dq:type_of% @Tryz.runUnderlying238:=@Tryz.runUnderlying238
theorem Bj:type_of% @Tryz.runUnderlying246:=@Tryz.runUnderlying246
theorem pD:type_of% @Tryz.runUnderlying25:=@Tryz.runUnderlying25
theorem aO:type_of% @Tryz.runUnderlying26:=@Tryz.runUnderlying26
theorem cA:type_of% @Tryz.runUnderlying260:=@Tryz.runUnderlying260
theorem ay:type_of% @Tryz.runUnderlying267:=@Tryz.runUnderlying267
theorem Bi:type_of% @Tryz.runUnderlying272:=@Tryz.runUnderlying272
theorem aM:type_of% @Tryz.runUnderlying3:=@Tryz.runUnderlying3
theorem np:type_of% @Tryz.runUnderlying303:=@Tryz.runUnderlying303
theorem af:type_of% @Tryz.runUnderlying34:=@Tryz.runUnderlying34
theorem pC:type_of% @Tryz.runUnderlying42:=@Tryz.runUnderlying42
theorem iX:type_of% @Tryz.runUnderlying48:=@Tryz.runUnderlying48
theorem eg:type_of% @Tryz.runUnderlying49:=@Tryz.runUnderlying49
theorem iW:type_of% @Tryz.runUnderlying50:=@Tryz.runUnderlying50
theorem CJ:type_of% @Tryz.runUnderlying52:=@Tryz.runUnderlying52
theorem dh:type_of% @Tryz.runUnderlying62:=@Tryz.runUnderlying62
theorem pB:type_of% @Tryz.runUnderlying66:=@Tryz.runUnderlying66
theorem cI:type_of% @Tryz.runUnderlying76:=@Tryz.runUnderlying76
theorem bB:type_of% @Tryz.runUnderlying80:=@Tryz.runUnderlying80
theorem iV:type_of% @Tryz.runUnderlying87:=@Tryz.runUnderlying87
theorem df:type_of% @Tryz.sizeOf100:=@Tryz.sizeOf100
theorem cO:type_of% @Tryz.sizeOf104:=@Tryz.sizeOf104
theorem gd:type_of% @Tryz.sizeOf113:=@Tryz.sizeOf113
theorem aQ:type_of% @Tryz.sizeOf134:=@Tryz.sizeOf134
theorem bM:type_of% @Tryz.sizeOf140:=@Tryz.sizeOf140
theorem iU:type_of% @Tryz.sizeOf153:=@Tryz.sizeOf153
theorem du:type_of% @Tryz.sizeOf162:=@Tryz.sizeOf162
theorem sz:type_of% @Tryz.sizeOf175:=@Tryz.sizeOf175
theorem aC:type_of% @Tryz.sizeOf177:=@Tryz.sizeOf177
theorem dt:type_of% @Tryz.sizeOf179:=@Tryz.sizeOf179
theorem mg:type_of% @Tryz.sizeOf190:=@Tryz.sizeOf190
theorem aW:type_of% @Tryz.sizeOf193:=@Tryz.sizeOf193
theorem iT:type_of% @Tryz.sizeOf241:=@Tryz.sizeOf241
theorem aA:type_of% @Tryz.sizeOf25:=@Tryz.sizeOf25
theorem sy:type_of% @Tryz.sizeOf267:=@Tryz.sizeOf267
theorem bJ:type_of% @Tryz.sizeOf28:=@Tryz.sizeOf28
theorem aj:type_of% @Tryz.sizeOf3:=@Tryz.sizeOf3
theorem az:type_of% @Tryz.sizeOf303:=@Tryz.sizeOf303
theorem aJ:type_of% @Tryz.sizeOf34:=@Tryz.sizeOf34
theorem rR:type_of% @Tryz.sizeOf4:=@Tryz.sizeOf4
theorem au:type_of% @Tryz.sizeOf42:=@Tryz.sizeOf42
theorem aV:type_of% @Tryz.sizeOf48:=@Tryz.sizeOf48
theorem aF:type_of% @Tryz.sizeOf52:=@Tryz.sizeOf52
theorem wv:type_of% @Tryz.sizeOf64:=@Tryz.sizeOf64
theorem aZ:type_of% @Tryz.sizeOf87:=@Tryz.sizeOf87
theorem iS:type_of% @Tryz.typeInfo3:=@Tryz.typeInfo3
theorem xA:type_of% @Tryz.typeInfo303:=@Tryz.typeInfo303
theorem mf:type_of% @Tryz.underlying25:=@Tryz.underlying25
theorem dA:type_of% @Tryz.underlying3:=@Tryz.underlying3
theorem me:type_of% @Tryz.underlying87:=@Tryz.underlying87
theorem uK:type_of% @Tryz.zeroValue100:=@Tryz.zeroValue100
theorem uJ:type_of% @Tryz.zeroValue104:=@Tryz.zeroValue104
theorem fD:type_of% @Tryz.zeroValue134:=@Tryz.zeroValue134
theorem iA:type_of% @Tryz.zeroValue140:=@Tryz.zeroValue140
theorem GN:type_of% @Tryz.zeroValue153:=@Tryz.zeroValue153
theorem uI:type_of% @Tryz.zeroValue162:=@Tryz.zeroValue162
theorem ez:type_of% @Tryz.zeroValue177:=@Tryz.zeroValue177
theorem uH:type_of% @Tryz.zeroValue179:=@Tryz.zeroValue179
theorem iz:type_of% @Tryz.zeroValue190:=@Tryz.zeroValue190
theorem dK:type_of% @Tryz.zeroValue193:=@Tryz.zeroValue193
theorem GM:type_of% @Tryz.zeroValue236:=@Tryz.zeroValue236
theorem bA:type_of% @Tryz.zeroValue3:=@Tryz.zeroValue3
theorem cV:type_of% @Tryz.zeroValue303:=@Tryz.zeroValue303
theorem dY:type_of% @Tryz.zeroValue34:=@Tryz.zeroValue34
theorem br:type_of% @Tryz.zeroValue42:=@Tryz.zeroValue42
theorem e8:type_of% @Tryz.zeroValue87:=@Tryz.zeroValue87
end Go.Proofs.YteajddicacjkhaaGreat
namespace Go.Proofs.YteajddicacjkhaaGreat
open Go.MW Go.ChangeShapes Go.WideShapes
set_option maxRecDepth 100000
theorem ud:Tryz.prog.cellsOf 3=1:=by kernel_rfl
section
variable{H:Type}{enc:TypeId×Value→H}{w:World}{sp:Nat→Bool}{held:Bool}{n:Nat}{cs:List Value}{y:DataW H×List MemPlace}{v:Value}{d:DataW H}{p:List MemPlace}{r:Reach}{base:Nat}
end
end Go.Proofs.YteajddicacjkhaaGreat
namespace Go.Proofs.YteajddicacjkhaaGreat
open Go.MW Go.ChangeShapes Go.WideShapes
set_option maxRecDepth 100000
theorem c_2:Tryz.prog.cellsOf 76=2:=by kernel_rfl
section
variable{H:Type}{enc:TypeId×Value→H}{w:World}{sp:Nat→Bool}{held:Bool}{n:Nat}{cs:List Value}{y:DataW H×List MemPlace}{v:Value}{d:DataW H}{p:List MemPlace}{r:Reach}{base:Nat}
theorem B9(hv:Value.okWide Tryz.prog w r base 76 v)(h:DataW.Trod enc Tryz.prog w 0 sp held 76 v d p)(_:Wt Tryz.prog 76 d):∃x:Two,v= .agg #[I x.a,I x.b]∧I64 x.a∧I64 x.b:=by
 obtain ⟨cs,n,rfl,hn⟩:=DW Tryz.underlying76 hv h
 obtain ⟨xs,h1,rfl,h3⟩:=BD Tryz.underlying76 dA ud c_2 hn
 obtain ⟨a,b,rfl⟩:=Gq h1
 exact ⟨⟨a,b⟩,rfl,h3 a db,h3 b db⟩
end
end Go.Proofs.YteajddicacjkhaaGreat
namespace Go.Proofs.YteajddicacjkhaaGreat
open Go.MW Go.ChangeShapes Go.WideShapes
set_option maxRecDepth 100000
theorem ue:Tryz.prog.cellsOf 42=2:=by kernel_rfl
theorem xo:Tryz.prog.cellsOf 134=2:=by kernel_rfl
theorem CB:Tryz.prog.cellsOf 104=4:=by kernel_rfl
theorem Fp:Tryz.prog.cellsOf 87=7:=by kernel_rfl
theorem DQ:Tryz.prog.cellsOf 25=4:=by kernel_rfl
theorem DP:Tryz.prog.cellsOf 28=1:=by kernel_rfl
theorem Gv:Tryz.prog.cellsOf 22=1:=by kernel_rfl
theorem Gu:Tryz.prog.cellsOf 23=1:=by kernel_rfl
theorem Fo:Tryz.prog.cellsOf 26=1:=by kernel_rfl
theorem Gp{α:Type}{l:List α}(h:l.length=7):∃a b c d e f g,l=[a,b,c,d,e,f,g]:=by match l,h with|[a,b,c,d,e,f,g],_=>exact ⟨a,b,c,d,e,f,g,rfl⟩
section
variable{H:Type}{enc:TypeId×Value→H}{w:World}{sp:Nat→Bool}{held:Bool}{n:Nat}{cs:List Value}{y:DataW H×List MemPlace}{v:Value}{d:DataW H}{p:List MemPlace}{r:Reach}{base:Nat}
theorem tD(h:DataW.trod enc Tryz.prog w 0 sp held n 42 cs=some y):∃a b:Int,cs=[I a,I b]∧I64 a∧I64 b:=by
 obtain ⟨xs,a1,a2,a3⟩:=uP Tryz.underlying42 (by
  intro i f hf
  match i with
  |0|1=>cases hf;exact ⟨rfl,dA,ud⟩
  |i+2=>simp at hf) (by rw [ue];rfl) h
 obtain ⟨a,b,rfl⟩:=Gq a1
 exact ⟨a,b,a2,a3 a db,a3 b db⟩
theorem wX(hv:Value.okWide Tryz.prog w r base 42 v)(h:DataW.Trod enc Tryz.prog w 0 sp held 42 v d p)(_:Wt Tryz.prog 42 d):∃m:Rng,v=rgA m∧I64 m.lo∧I64 m.hi:=by
 obtain ⟨cs,n,rfl,hn,_⟩:=py Tryz.underlying42 hv h
 obtain ⟨a,b,rfl,h1,h2⟩:=tD hn
 exact ⟨⟨a,b⟩,rfl,h1,h2⟩
theorem Gi(hw:Wt Tryz.prog 22 y.1)(h:DataW.trod enc Tryz.prog w 0 sp held n 22 cs=some y):∃v ls,cs=[v]∧RFb (hp w) v ls:=by
 obtain ⟨v,zs,h1,h2,h9,h3⟩:=zH (k:=2) Tryz.underlying22 Tryz.underlying134 rfl ef (by
  intro i f hf
  match i with
  |0|1=>cases hf;exact ⟨rfl,dA,ud⟩
  |i+2=>simp at hf) xo hw h
 obtain ⟨ls,h4,_⟩:=all_map (f:=Fbd.c) (Q:=fun _=>True) (css:=zs.map Is) fun c hc=>by
  obtain ⟨z,hz,rfl⟩:=List.mem_map.1 hc
  obtain ⟨a,b,rfl⟩:=Gq (h3 z hz).1
  exact ⟨⟨a,b⟩,rfl,trivial⟩
 exact ⟨v,ls,h1,by unfold RFb;rw [←h4];exact h2⟩
theorem Gh(hw:Wt Tryz.prog 23 y.1)(h:DataW.trod enc Tryz.prog w 0 sp held n 23 cs=some y):∃v ls,cs=[v]∧RSn (hp w) v ls:=by
 obtain ⟨v,zs,h1,h2,h9,h3⟩:=zH (k:=4) Tryz.underlying23 Tryz.underlying104 rfl ef (by
  intro i f hf
  match i with
  |0|1|2|3=>cases hf;exact ⟨rfl,dA,ud⟩
  |i+4=>simp at hf) CB hw h
 obtain ⟨ls,h4,_⟩:=all_map (f:=Ssn.c) (Q:=fun _=>True) (css:=zs.map Is) fun c hc=>by
  obtain ⟨z,hz,rfl⟩:=List.mem_map.1 hc
  obtain ⟨a,b,c,d,rfl⟩:=GV (h3 z hz).1
  exact ⟨⟨a,b,c,d⟩,rfl,trivial⟩
 exact ⟨v,ls,h1,by unfold RSn;rw [←h4];exact h2⟩
theorem Gj(hw:Wt Tryz.prog 87 y.1)(h:DataW.trod enc Tryz.prog w 0 sp held n 87 cs=some y):∃x:Lg,cs=x.c:=by
 obtain ⟨ys,m,_,e,hlen,hyl,hg⟩:=DataW.trod_struct me h
 cases e
 rw [Fp] at hlen
 obtain ⟨c0,c1,c2,c3,c4,c5,c6,rfl⟩:=Gp hlen
 obtain ⟨_,h0,k0⟩:=fld hg hyl 0 rfl rfl rfl ud me hw
 obtain ⟨_,h1,k1⟩:=fld hg hyl 1 rfl rfl rfl ud me hw
 obtain ⟨_,h2,k2⟩:=fld hg hyl 2 rfl rfl rfl ud me hw
 obtain ⟨_,h3,k3⟩:=fld hg hyl 3 rfl rfl rfl ue me hw
 obtain ⟨_,h4,k4⟩:=fld hg hyl 4 rfl rfl rfl ue me hw
 obtain ⟨a,e0,_⟩:=qJ dA h0
 obtain ⟨b,e1,_⟩:=qJ dA h1
 obtain ⟨c,e2,_⟩:=qJ dA h2
 obtain ⟨x1,x2,e3,_⟩:=tD h3
 obtain ⟨x3,x4,e4,_⟩:=tD h4
 cases e0;cases e1;cases e2;cases e3;cases e4
 exact ⟨⟨a,b,c,x1,x2,x3,x4⟩,rfl⟩
theorem EW(hw:Wt Tryz.prog 26 y.1)(h:DataW.trod enc Tryz.prog w 0 sp held n 26 cs=some y):∃v ls,cs=[v]∧RLg (hp w) v ls:=by
 obtain ⟨v,css,h1,h2,_,h3⟩:=zG Tryz.underlying26 Fp ef hw h
 obtain ⟨ls,rfl,_⟩:=all_map (f:=Lg.c) (Q:=fun _=>True) fun c hc=>by
  obtain ⟨n,y,hy,hk⟩:=h3 c hc
  obtain ⟨x,hx⟩:=Gj hk hy
  exact ⟨x,hx,trivial⟩
 exact ⟨v,ls,h1,h2⟩
theorem yX(hv:Value.okWide Tryz.prog w r base 25 v)(h:DataW.Trod enc Tryz.prog w 0 sp held 25 v d p)(hw:Wt Tryz.prog 25 d):∃l:Lns,(∃vt vs,v=lnA l vt vs∧LnM (hp w) l vt vs)∧True:=by
 obtain ⟨cs,n,rfl,hn,_⟩:=py mf hv h
 obtain ⟨ys,m,_,e,hlen,hyl,hg⟩:=DataW.trod_struct mf hn
 cases e
 rw [DQ] at hlen
 obtain ⟨c0,c1,c2,c3,rfl⟩:=GV hlen
 obtain ⟨_,h0,k0⟩:=fld hg hyl 0 rfl rfl rfl ud mf hw
 obtain ⟨_,h1,k1⟩:=fld hg hyl 1 rfl rfl rfl ud mf hw
 obtain ⟨_,h2,k2⟩:=fld hg hyl 2 rfl rfl rfl Gv mf hw
 obtain ⟨_,h3,k3⟩:=fld hg hyl 3 rfl rfl rfl Gu mf hw
 obtain ⟨a,e0,_⟩:=qJ dA h0
 obtain ⟨b,e1,_⟩:=qJ dA h1
 obtain ⟨v2,l2,e2,r2⟩:=Gi k2 h2
 obtain ⟨v3,l3,e3,r3⟩:=Gh k3 h3
 cases e0;cases e1;cases e2;cases e3
 exact ⟨⟨a,b,l2,l3⟩,⟨_,_,rfl,r2,r3⟩,trivial⟩
theorem yW(hv:Value.okWide Tryz.prog w r base 28 v)(h:DataW.Trod enc Tryz.prog w 0 sp held 28 v d p)(hw:Wt Tryz.prog 28 d):∃l:List Lg,(∃vl,v= .agg #[vl]∧RLg (hp w) vl l)∧True:=by
 obtain ⟨cs,n,rfl,hn,_⟩:=py Tryz.underlying28 hv h
 obtain ⟨ys,m,_,e,hlen,hyl,hg⟩:=DataW.trod_struct Tryz.underlying28 hn
 cases e
 rw [DP] at hlen
 obtain ⟨c0,rfl⟩:=len1 hlen
 obtain ⟨_,h0,k0⟩:=fld hg hyl 0 rfl rfl rfl Fo Tryz.underlying28 hw
 obtain ⟨v0,l0,e0,r0⟩:=EW k0 h0
 cases e0
 exact ⟨l0,⟨_,rfl,r0⟩,trivial⟩
end
end Go.Proofs.YteajddicacjkhaaGreat
namespace Go.Proofs.YteajddicacjkhaaGreat
theorem AZ:Tryz.prog.make=some .cut:=by kernel_rfl
theorem yv:Tryz.prog.mayEnter=true:=by kernel_rfl
theorem yr:Tryz.prog.liftsFinal=false:=by kernel_rfl
theorem A0:Tryz.prog.plainKeys=true:=by kernel_rfl
theorem ub:laidOutB Tryz.prog=true:=by kernel_rfl
theorem AY:mapsRowed Tryz.prog=true:=by kernel_rfl
theorem yu:Tryz.prog.stopsHeard=true:=by kernel_rfl
theorem yq:Tryz.prog.stops=[]:=by kernel_rfl
theorem yt:Tryz.prog.stopKnobs=[]:=by kernel_rfl
theorem fI{a b:Bool}(h:a=true)(k:b=true):(a&&b)=true:=by rw [h,k];rfl
theorem Bp{α:Type}[BEq α][LawfulBEq α]{a b:α}(h:a=b):(a==b)=true:=by rw [h];exact beq_self_eq_true _
theorem C2:ownKnob Tryz.prog.godebug=none:=by kernel_rfl
end Go.Proofs.YteajddicacjkhaaGreat
namespace Go.Proofs.YteajddicacjkhaaGreat
open Go.MW
theorem mix:Tryz.prog.follows .mixedOrders=true:=by kernel_rfl
theorem c9:FA Tryz.prog 25 0 0:=by
 have h:=dX (k:=0) pD rfl aj
 exact h
theorem fj:FA Tryz.prog 25 1 1:=by
 have h:=dX (k:=1) pD rfl aj
 exact h
theorem bO:FA Tryz.prog 25 2 2:=by
 have h:=dX (k:=2) pD rfl Tryz.sizeOf22
 exact h
theorem c8:FA Tryz.prog 25 3 3:=by
 have h:=dX (k:=3) pD rfl Tryz.sizeOf23
 exact h
theorem cg:FA Tryz.prog 28 0 0:=by
 have h:=dX (k:=0) Tryz.runUnderlying28 rfl Tryz.sizeOf26
 exact h
theorem a8:FA Tryz.prog 42 0 0:=by
 have h:=dX (k:=0) pC rfl aj
 exact h
theorem bw:FA Tryz.prog 42 1 1:=by
 have h:=dX (k:=1) pC rfl aj
 exact h
theorem nY:FA Tryz.prog 46 0 0:=by
 have h:=dX (k:=0) Tryz.runUnderlying46 rfl aj
 exact h
theorem nX:FA Tryz.prog 46 1 1:=by
 have h:=dX (k:=1) Tryz.runUnderlying46 rfl aj
 exact h
theorem se:FA Tryz.prog 48 0 0:=by
 have h:=dX (k:=0) iX rfl aj
 exact h
theorem fi:FA Tryz.prog 48 1 1:=by
 have h:=dX (k:=1) iX rfl aj
 exact h
theorem cM:FA Tryz.prog 48 2 2:=by
 have h:=dX (k:=2) iX rfl aJ
 exact h
theorem bF:FA Tryz.prog 48 3 3:=by
 have h:=dX (k:=3) iX rfl aJ
 exact h
theorem gz:FA Tryz.prog 48 4 4:=by
 have h:=dX (k:=4) iX rfl Tryz.sizeOf46
 exact h
theorem bC:FA Tryz.prog 52 0 0:=by
 have h:=dX (k:=0) CJ rfl aV
 exact h
theorem fR:FA Tryz.prog 52 1 6:=by
 have h:=dX (k:=1) CJ rfl Tryz.sizeOf49
 exact h
theorem iN:FA Tryz.prog 52 2 7:=by
 have h:=dX (k:=2) CJ rfl Tryz.sizeOf50
 exact h
theorem iq:FA Tryz.prog 64 0 0:=by
 have h:=dX (k:=0) Tryz.runUnderlying64 rfl Tryz.sizeOf62
 exact h
theorem fo:FA Tryz.prog 66 0 0:=by
 have h:=dX (k:=0) pB rfl aj
 exact h
theorem kc:FA Tryz.prog 66 1 1:=by
 have h:=dX (k:=1) pB rfl aj
 exact h
theorem kb:FA Tryz.prog 66 2 2:=by
 have h:=dX (k:=2) pB rfl aj
 exact h
theorem ka:FA Tryz.prog 66 3 3:=by
 have h:=dX (k:=3) pB rfl wv
 exact h
theorem lj:FA Tryz.prog 87 0 0:=by
 have h:=dX (k:=0) iV rfl aj
 exact h
theorem eZ:FA Tryz.prog 87 1 1:=by
 have h:=dX (k:=1) iV rfl aj
 exact h
theorem eY:FA Tryz.prog 87 2 2:=by
 have h:=dX (k:=2) iV rfl aj
 exact h
theorem fH:FA Tryz.prog 87 3 3:=by
 have h:=dX (k:=3) iV rfl au
 exact h
theorem eX:FA Tryz.prog 87 4 5:=by
 have h:=dX (k:=4) iV rfl au
 exact h
theorem kh:FA Tryz.prog 100 0 0:=by
 have h:=dX (k:=0) dW rfl aj
 exact h
theorem kg:FA Tryz.prog 100 1 1:=by
 have h:=dX (k:=1) dW rfl aj
 exact h
theorem kf:FA Tryz.prog 100 2 2:=by
 have h:=dX (k:=2) dW rfl aj
 exact h
theorem gV:FA Tryz.prog 100 3 3:=by
 have h:=dX (k:=3) dW rfl aj
 exact h
theorem fp:FA Tryz.prog 100 4 4:=by
 have h:=dX (k:=4) dW rfl aj
 exact h
theorem ke:FA Tryz.prog 100 5 5:=by
 have h:=dX (k:=5) dW rfl aj
 exact h
theorem kd:FA Tryz.prog 100 6 6:=by
 have h:=dX (k:=6) dW rfl aj
 exact h
theorem fT:FA Tryz.prog 104 0 0:=by
 have h:=dX (k:=0) nt rfl aj
 exact h
theorem dn:FA Tryz.prog 104 1 1:=by
 have h:=dX (k:=1) nt rfl aj
 exact h
theorem dm:FA Tryz.prog 104 2 2:=by
 have h:=dX (k:=2) nt rfl aj
 exact h
theorem fS:FA Tryz.prog 104 3 3:=by
 have h:=dX (k:=3) nt rfl aj
 exact h
theorem tT:FA Tryz.prog 113 0 0:=by
 have h:=dX (k:=0) Bn rfl aj
 exact h
theorem fQ:FA Tryz.prog 113 1 1:=by
 have h:=dX (k:=1) Bn rfl aj
 exact h
theorem eu:FA Tryz.prog 113 2 2:=by
 have h:=dX (k:=2) Bn rfl aj
 exact h
theorem aT:FA Tryz.prog 134 0 0:=by
 have h:=dX (k:=0) Tryz.runUnderlying134 rfl aj
 exact h
theorem cu:FA Tryz.prog 134 1 1:=by
 have h:=dX (k:=1) Tryz.runUnderlying134 rfl aj
 exact h
theorem iM:FA Tryz.prog 140 0 0:=by
 have h:=dX (k:=0) ns rfl aF
 exact h
theorem fP:FA Tryz.prog 140 2 12:=by
 have h:=dX (k:=2) ns rfl Tryz.sizeOf26
 exact h
theorem iL:FA Tryz.prog 140 3 13:=by
 have h:=dX (k:=3) ns rfl Tryz.sizeOf80
 exact h
theorem eV:FA Tryz.prog 140 4 14:=by
 have h:=dX (k:=4) ns rfl aJ
 exact h
theorem km:FA Tryz.prog 153 0 0:=by
 have h:=dX (k:=0) fc rfl aj
 exact h
theorem kl:FA Tryz.prog 153 1 1:=by
 have h:=dX (k:=1) fc rfl aj
 exact h
theorem kj:FA Tryz.prog 153 2 2:=by
 have h:=dX (k:=2) fc rfl aj
 exact h
theorem gX:FA Tryz.prog 153 3 3:=by
 have h:=dX (k:=3) fc rfl aj
 exact h
theorem ki:FA Tryz.prog 153 4 4:=by
 have h:=dX (k:=4) fc rfl aj
 exact h
theorem gW:FA Tryz.prog 153 5 5:=by
 have h:=dX (k:=5) fc rfl aj
 exact h
theorem qe:FA Tryz.prog 162 0 0:=by
 have h:=dX (k:=0) nr rfl aj
 exact h
theorem qd:FA Tryz.prog 162 1 1:=by
 have h:=dX (k:=1) nr rfl aj
 exact h
theorem bL:FA Tryz.prog 177 0 0:=by
 have h:=dX (k:=0) Tryz.runUnderlying177 rfl aj
 exact h
theorem bR:FA Tryz.prog 177 1 1:=by
 have h:=dX (k:=1) Tryz.runUnderlying177 rfl sz
 exact h
theorem lh:FA Tryz.prog 179 0 0:=by
 have h:=dX (k:=0) Bm rfl aC
 exact h
theorem ld:FA Tryz.prog 179 1 2:=by
 have h:=dX (k:=1) Bm rfl aJ
 exact h
theorem gI:FA Tryz.prog 179 2 3:=by
 have h:=dX (k:=2) Bm rfl aj
 exact h
theorem bY:FA Tryz.prog 190 0 0:=by
 have h:=dX (k:=0) Bl rfl aj
 exact h
theorem bN:FA Tryz.prog 190 1 1:=by
 have h:=dX (k:=1) Bl rfl aj
 exact h
theorem dk:FA Tryz.prog 190 2 2:=by
 have h:=dX (k:=2) Bl rfl aj
 exact h
theorem eJ:FA Tryz.prog 193 0 0:=by
 have h:=dX (k:=0) nq rfl aj
 exact h
theorem fl:FA Tryz.prog 193 1 1:=by
 have h:=dX (k:=1) nq rfl aj
 exact h
theorem fk:FA Tryz.prog 193 2 2:=by
 have h:=dX (k:=2) nq rfl aj
 exact h
theorem jt:FA Tryz.prog 193 3 3:=by
 have h:=dX (k:=3) nq rfl aj
 exact h
theorem po:FA Tryz.prog 236 0 0:=by
 have h:=dX (k:=0) Bk rfl Tryz.sizeOf233
 exact h
theorem pn:FA Tryz.prog 236 1 1:=by
 have h:=dX (k:=1) Bk rfl Tryz.sizeOf234
 exact h
theorem pk:FA Tryz.prog 236 2 2:=by
 have h:=dX (k:=2) Bk rfl aj
 exact h
theorem bK:FA Tryz.prog 241 0 0:=by
 have h:=dX (k:=0) Tryz.runUnderlying241 rfl gd
 exact h
theorem dC:FA Tryz.prog 241 1 3:=by
 have h:=dX (k:=1) Tryz.runUnderlying241 rfl aV
 exact h
theorem cq:FA Tryz.prog 246 0 0:=by
 have h:=dX (k:=0) Bj rfl aF
 exact h
theorem dR:FA Tryz.prog 246 1 8:=by
 have h:=dX (k:=1) Bj rfl Tryz.sizeOf159
 exact h
theorem fO:FA Tryz.prog 246 2 9:=by
 have h:=dX (k:=2) Bj rfl sz
 exact h
theorem ec:FA Tryz.prog 272 0 0:=by
 have h:=dX (k:=0) Bi rfl aC
 exact h
theorem eW:FA Tryz.prog 272 1 2:=by
 have h:=dX (k:=1) Bi rfl aJ
 exact h
theorem cK:FA Tryz.prog 272 2 3:=by
 have h:=dX (k:=2) Bi rfl aJ
 exact h
theorem bQ:FA Tryz.prog 303 0 0:=by
 have h:=dX (k:=0) np rfl aj
 exact h
theorem bZ:FA Tryz.prog 303 1 1:=by
 have h:=dX (k:=1) np rfl aj
 exact h
theorem dF:FA Tryz.prog 303 2 2:=by
 have h:=dX (k:=2) np rfl aj
 exact h
theorem cJ:FA Tryz.prog 303 3 3:=by
 have h:=dX (k:=3) np rfl aj
 exact h
theorem eK:FA Tryz.prog 315 0 0:=by
 have h:=dX (k:=0) Tryz.runUnderlying315 rfl aj
 exact h
theorem gC:FA Tryz.prog 315 1 1:=by
 have h:=dX (k:=1) Tryz.runUnderlying315 rfl aj
 exact h
theorem mn:FA Tryz.prog 317 0 0:=by
 have h:=dX (k:=0) Tryz.runUnderlying317 rfl aJ
 exact h
theorem uk:nm Tryz.prog 25 [(0,1),(1,1),(2,1),(3,1)] [.int .i64 0,.int .i64 0,.slice none 0 0,.slice none 0 0]:=gy Tryz.zeroValue25 rfl pD (by simp [Tryz.sizeOf22,Tryz.sizeOf23,Tryz.sizeOf3])
theorem jV:nm Tryz.prog 28 [(0,1)] [.slice none 0 0]:=gy Tryz.zeroValue28 rfl Tryz.runUnderlying28 (by simp [Tryz.sizeOf26])
theorem bu:nm Tryz.prog 42 [(0,1),(1,1)] [.int .i64 0,.int .i64 0]:=gy br rfl pC (by simp [Tryz.sizeOf3])
theorem vZ:nm Tryz.prog 46 [(0,1),(1,1)] [.int .i64 0,.int .i64 0]:=gy Tryz.zeroValue46 rfl Tryz.runUnderlying46 (by simp [Tryz.sizeOf3])
theorem uj:nm Tryz.prog 48 [(0,1),(1,1),(2,1),(3,1),(4,2)] [.int .i64 0,.int .i64 0,.slice none 0 0,.slice none 0 0,.int .i64 0,.int .i64 0]:=gy Tryz.zeroValue48 rfl iX (by simp [Tryz.sizeOf3,Tryz.sizeOf34,Tryz.sizeOf46])
theorem so:nm Tryz.prog 52 [(0,6),(6,1),(7,1)] [.int .i64 0,.int .i64 0,.slice none 0 0,.slice none 0 0,.int .i64 0,.int .i64 0,.slice none 0 0,.slice none 0 0]:=gy Tryz.zeroValue52 rfl CJ (by simp [Tryz.sizeOf48,Tryz.sizeOf49,Tryz.sizeOf50])
theorem vY:nm Tryz.prog 64 [(0,1)] [.slice none 0 0]:=gy Tryz.zeroValue64 rfl Tryz.runUnderlying64 (by simp [Tryz.sizeOf62])
theorem ru:nm Tryz.prog 66 [(0,1),(1,1),(2,1),(3,1)] [.int .i64 0,.int .i64 0,.int .i64 0,.slice none 0 0]:=gy Tryz.zeroValue66 rfl pB (by simp [Tryz.sizeOf3,Tryz.sizeOf64])
theorem rA:nm Tryz.prog 87 [(0,1),(1,1),(2,1),(3,2),(5,2)] [.int .i64 0,.int .i64 0,.int .i64 0,.int .i64 0,.int .i64 0,.int .i64 0,.int .i64 0]:=gy e8 rfl iV (by simp [Tryz.sizeOf3,Tryz.sizeOf42])
theorem fV:nm Tryz.prog 100 [(0,1),(1,1),(2,1),(3,1),(4,1),(5,1),(6,1)] [.int .i64 0,.int .i64 0,.int .i64 0,.int .i64 0,.int .i64 0,.int .i64 0,.int .i64 0]:=gy uK rfl dW (by simp [Tryz.sizeOf3])
theorem sq:nm Tryz.prog 104 [(0,1),(1,1),(2,1),(3,1)] [.int .i64 0,.int .i64 0,.int .i64 0,.int .i64 0]:=gy uJ rfl nt (by simp [Tryz.sizeOf3])
theorem vX:nm Tryz.prog 113 [(0,1),(1,1),(2,1)] [.int .i64 0,.int .i64 0,.int .i64 0]:=gy Tryz.zeroValue113 rfl Bn (by simp [Tryz.sizeOf3])
theorem jG:nm Tryz.prog 134 [(0,1),(1,1)] [.int .i64 0,.int .i64 0]:=gy fD rfl Tryz.runUnderlying134 (by simp [Tryz.sizeOf3])
theorem dV:nm Tryz.prog 140 [(0,8),(8,4),(12,1),(13,1),(14,1)] [.int .i64 0,.int .i64 0,.slice none 0 0,.slice none 0 0,.int .i64 0,.int .i64 0,.slice none 0 0,.slice none 0 0,.int .i64 0,.int .i64 0,.slice none 0 0,.slice none 0 0,.slice none 0 0,.slice none 0 0,.slice none 0 0]:=gy iA rfl ns (by simp [Tryz.sizeOf25,Tryz.sizeOf26,Tryz.sizeOf34,Tryz.sizeOf52,Tryz.sizeOf80])
theorem rC:nm Tryz.prog 153 [(0,1),(1,1),(2,1),(3,1),(4,1),(5,1)] [.int .i64 0,.int .i64 0,.int .i64 0,.int .i64 0,.int .i64 0,.int .i64 0]:=gy GN rfl fc (by simp [Tryz.sizeOf3])
theorem rz:nm Tryz.prog 162 [(0,1),(1,1)] [.int .i64 0,.int .i64 0]:=gy uI rfl nr (by simp [Tryz.sizeOf3])
theorem my:nm Tryz.prog 177 [(0,1),(1,1)] [.int .i64 0,.slice none 0 0]:=gy ez rfl Tryz.runUnderlying177 (by simp [Tryz.sizeOf175,Tryz.sizeOf3])
theorem dZ:nm Tryz.prog 179 [(0,2),(2,1),(3,1)] [.int .i64 0,.slice none 0 0,.slice none 0 0,.int .i64 0]:=gy uH rfl Bm (by simp [Tryz.sizeOf177,Tryz.sizeOf3,Tryz.sizeOf34])
theorem ox:nm Tryz.prog 190 [(0,1),(1,1),(2,1)] [.int .i64 0,.int .i64 0,.int .i64 0]:=gy iz rfl Bl (by simp [Tryz.sizeOf3])
theorem oy:nm Tryz.prog 193 [(0,1),(1,1),(2,1),(3,1)] [.int .i64 0,.int .i64 0,.int .i64 0,.int .i64 0]:=gy dK rfl nq (by simp [Tryz.sizeOf3])
theorem ft:nm Tryz.prog 236 [(0,1),(1,1),(2,1)] [.nilFunc,.nilFunc,.int .i64 0]:=gy GM rfl Bk (by simp [Tryz.sizeOf233,Tryz.sizeOf234,Tryz.sizeOf3])
theorem qi:nm Tryz.prog 241 [(0,3),(3,6)] [.int .i64 0,.int .i64 0,.int .i64 0,.int .i64 0,.int .i64 0,.slice none 0 0,.slice none 0 0,.int .i64 0,.int .i64 0]:=gy Tryz.zeroValue241 rfl Tryz.runUnderlying241 (by simp [Tryz.sizeOf113,Tryz.sizeOf48])
theorem px:nm Tryz.prog 246 [(0,8),(8,1),(9,1)] [.int .i64 0,.int .i64 0,.slice none 0 0,.slice none 0 0,.int .i64 0,.int .i64 0,.slice none 0 0,.slice none 0 0,.slice none 0 0,.slice none 0 0]:=gy Tryz.zeroValue246 rfl Bj (by simp [Tryz.sizeOf159,Tryz.sizeOf175,Tryz.sizeOf52])
theorem mw:nm Tryz.prog 272 [(0,2),(2,1),(3,1)] [.int .i64 0,.slice none 0 0,.slice none 0 0,.slice none 0 0]:=gy Tryz.zeroValue272 rfl Bi (by simp [Tryz.sizeOf177,Tryz.sizeOf34])
theorem mu:nm Tryz.prog 303 [(0,1),(1,1),(2,1),(3,1)] [.int .i64 0,.int .i64 0,.int .i64 0,.int .i64 0]:=gy cV rfl np (by simp [Tryz.sizeOf3])
theorem um:nm Tryz.prog 315 [(0,1),(1,1)] [.int .i64 0,.int .i64 0]:=gy Tryz.zeroValue315 rfl Tryz.runUnderlying315 (by simp [Tryz.sizeOf3])
theorem ui:nm Tryz.prog 317 [(0,1)] [.slice none 0 0]:=gy Tryz.zeroValue317 rfl Tryz.runUnderlying317 (by simp [Tryz.sizeOf34])
theorem kL:uG Tryz.prog 22 2 2 [.int .i64 0,.int .i64 0,.int .i64 0,.int .i64 0]:=ma aD aQ fD ef an
theorem nf:uG Tryz.prog 23 1 4 [.int .i64 0,.int .i64 0,.int .i64 0,.int .i64 0]:=ma bP cO uJ ef an
theorem gZ:uG Tryz.prog 26 2 7 [.int .i64 0,.int .i64 0,.int .i64 0,.int .i64 0,.int .i64 0,.int .i64 0,.int .i64 0,.int .i64 0,.int .i64 0,.int .i64 0,.int .i64 0,.int .i64 0,.int .i64 0,.int .i64 0]:=ma aO aZ e8 ef an
theorem vW:uG Tryz.prog 34 0 1 []:=ma af aj bA ef an
theorem cP:uG Tryz.prog 34 1 1 [.int .i64 0]:=ma af aj bA ef an
theorem gL:uG Tryz.prog 34 2 1 [.int .i64 0,.int .i64 0]:=ma af aj bA ef an
theorem vV:uG Tryz.prog 34 3 1 [.int .i64 0,.int .i64 0,.int .i64 0]:=ma af aj bA ef an
theorem l8:uG Tryz.prog 49 4 7 [.int .i64 0,.int .i64 0,.int .i64 0,.int .i64 0,.int .i64 0,.int .i64 0,.int .i64 0,.int .i64 0,.int .i64 0,.int .i64 0,.int .i64 0,.int .i64 0,.int .i64 0,.int .i64 0,.int .i64 0,.int .i64 0,.int .i64 0,.int .i64 0,.int .i64 0,.int .i64 0,.int .i64 0,.int .i64 0,.int .i64 0,.int .i64 0,.int .i64 0,.int .i64 0,.int .i64 0,.int .i64 0]:=ma eg df uK ef an
theorem l9:uG Tryz.prog 50 1 6 [.int .i64 0,.int .i64 0,.int .i64 0,.int .i64 0,.int .i64 0,.int .i64 0]:=ma iW iU GN ef an
theorem sm:uG Tryz.prog 62 2 1 [.slice none 0 0,.slice none 0 0]:=ma dh aJ dY ef an
theorem eO:uG Tryz.prog 80 1 2 [.int .i64 0,.int .i64 0]:=ma bB au br ef an
theorem l7:uG Tryz.prog 159 1 2 [.int .i64 0,.int .i64 0]:=ma cB du uI ef an
theorem ow:uG Tryz.prog 175 1 4 [.int .i64 0,.int .i64 0,.int .i64 0,.int .i64 0]:=ma aK aW dK ef an
theorem ou:uG Tryz.prog 175 2 4 [.int .i64 0,.int .i64 0,.int .i64 0,.int .i64 0,.int .i64 0,.int .i64 0,.int .i64 0,.int .i64 0]:=ma aK aW dK ef an
theorem uh:uG Tryz.prog 247 6 1 [.nilFunc,.nilFunc,.nilFunc,.nilFunc,.nilFunc,.nilFunc]:=ma Tryz.runUnderlying247 Tryz.sizeOf1 Tryz.zeroValue1 ef an
theorem nb:uG Tryz.prog 267 1 4 [.int .i64 0,.int .i64 0,.int .i64 0,.int .i64 0]:=ma ay az cV ef an
theorem da:Ed Tryz.prog 34 34 3 1 8:=⟨af,af,aj,⟨_,iS,rfl,by decide⟩,⟨_,bA,rfl⟩⟩
theorem fa:Ed Tryz.prog 80 80 42 2 16:=⟨bB,bB,au,⟨_,Tryz.typeInfo42,rfl,by decide⟩,⟨_,br,rfl⟩⟩
theorem gN:Ed Tryz.prog 159 159 162 2 16:=⟨cB,cB,du,⟨_,Tryz.typeInfo162,rfl,by decide⟩,⟨_,uI,rfl⟩⟩
theorem fb:Ed Tryz.prog 175 175 193 4 32:=⟨aK,aK,aW,⟨_,Tryz.typeInfo193,rfl,by decide⟩,⟨_,dK,rfl⟩⟩
theorem ir:Ed Tryz.prog 267 267 303 4 32:=⟨ay,ay,az,⟨_,xA,rfl,by decide⟩,⟨_,cV,rfl⟩⟩
end Go.Proofs.YteajddicacjkhaaGreat
namespace Go.Proofs.YteajddicacjkhaaGreat
open Go.MW
variable{H:bp}{w:World}{σ:List Ent}
theorem dD{a0 a1 a2:Int}(hs:St H w σ):Cl Tryz.prog 199 [I a0,I a1,I a2] w fun v w'=>v= .bool (decide (a1≤a0∧a0≤a2))∧St H w' σ:=by
 refine Cl.o Tryz.func199 Tryz.ntmps199 ag3 ?_
 refine .ai (.z zg (.nil (.ai (.z zm (.z zm (.z oJ (.z zm ?_)))))))
 refine .gM (t':=10) rfl (fun hb10=>?_) (fun hb10=>?_)
 ·refine .gT rfl rfl ?_
  refine .z zm ?_
  refine .gT rfl rfl ?_
  refine .z zm ?_
  refine .gT rfl rfl ?_
  refine .z oJ (.z zpT (.z zg (.nil ?_)))
  refine .ret (Fin.bg Tryz.results199 rfl ?_)
  exact ⟨by simp [*],hs.out⟩
 ·refine .gFs 3 3 true rfl rfl rfl ?_
  refine .z zpF (.z zg (.nil ?_))
  refine .ret (Fin.bg Tryz.results199 rfl ?_)
  exact ⟨by simp [*],hs.out⟩
theorem om{many:Int}{l:Lim}(hs:St H w σ):Cl Tryz.prog 250 [I many,.agg l.c.toArray] w fun v w'=>v= .bool (l.ok many)∧St H w' σ:=by
 refine Cl.o Tryz.func250 Tryz.ntmps250 ag2 ?_
 refine .ai ?_
 refine .bx hs fun b3 w hs=>?_
 refine .z zg (.nil (.ai (.z (zfa eJ) (.y hs (zld ae) (.z zm ?_)))))
 refine .o (.call zn rfl (dD hs) ?_);rintro _ w ⟨rfl,hs⟩
 refine .z zm ?_
 refine .bif (t':=9) rfl (fun hb9=>?_) (fun hb9=>?_)
 ·refine .gT rfl rfl ?_
  refine .z (zfa fl) ?_
  refine .gT rfl rfl ?_
  refine .y hs (zld ae) ?_
  refine .gT rfl rfl ?_
  refine .z zm ?_
  refine .gT rfl rfl ?_
  refine .o (.call zn rfl (dD hs) ?_);rintro _ w ⟨rfl,hs⟩
  refine .z zpT (.z zm ?_)
  refine .bif (t':=15) rfl (fun hb15=>?_) (fun hb15=>?_)
  ·refine .gT rfl rfl ?_
   refine .z (zfa eJ) ?_
   refine .gT rfl rfl ?_
   refine .y hs (zld ae) ?_
   refine .gT rfl rfl ?_
   refine .z (zfa fl) ?_
   refine .gT rfl rfl ?_
   refine .y hs (zld ae) ?_
   refine .gT rfl rfl ?_
   refine .z ia (.z zpT (.z zm ?_))
   refine .DV (t':=22) rfl (fun hb22=>?_) (fun hb22=>?_)
   ·refine .gT rfl rfl ?_
    refine .z (zfa fk) ?_
    refine .gT rfl rfl ?_
    refine .y hs (zld ae) ?_
    refine .gT rfl rfl ?_
    refine .o (.call zn rfl (dD hs) ?_);rintro _ w ⟨rfl,hs⟩
    refine .z zpT (.z zm ?_)
    refine .bif (t':=27) rfl (fun hb27=>?_) (fun hb27=>?_)
    ·refine .gT rfl rfl ?_
     refine .z (zfa jt) ?_
     refine .gT rfl rfl ?_
     refine .y hs (zld ae) ?_
     refine .gT rfl rfl ?_
     refine .o (.call zn rfl (dD hs) ?_);rintro _ w ⟨rfl,hs⟩
     refine .z zpT (.z zg (.nil ?_))
     refine .ret (Fin.bg zB rfl ?_)
     exact ⟨by simp [Lim.ok, *],hs.out⟩
    ·refine .gFs 3 22 true rfl rfl rfl ?_
     refine .z zpF (.z zg (.nil ?_))
     refine .ret (Fin.bg zB rfl ?_)
     exact ⟨by simp [Lim.ok, *],hs.out⟩
   ·refine .gFs 3 17 true rfl rfl rfl ?_
    refine .z zpF (.z zm ?_)
    refine .gFs 3 22 true rfl rfl rfl ?_
    refine .z zpF (.z zg (.nil ?_))
    refine .ret (Fin.bg zB rfl ?_)
    exact ⟨by simp [Lim.ok, *],hs.out⟩
  ·refine .gFs 5 10 true rfl rfl rfl ?_
   refine .z zpF (.z zm ?_)
   refine .gFs 3 17 true rfl rfl rfl ?_
   refine .z zpF (.z zm ?_)
   refine .gFs 3 22 true rfl rfl rfl ?_
   refine .z zpF (.z zg (.nil ?_))
   refine .ret (Fin.bg zB rfl ?_)
   exact ⟨by simp [Lim.ok, *],hs.out⟩
 ·refine .gFs 4 4 true rfl rfl rfl ?_
  refine .z zpF (.z zm ?_)
  refine .gFs 5 10 true rfl rfl rfl ?_
  refine .z zpF (.z zm ?_)
  refine .gFs 3 17 true rfl rfl rfl ?_
  refine .z zpF (.z zm ?_)
  refine .gFs 3 22 true rfl rfl rfl ?_
  refine .z zpF (.z zg (.nil ?_))
  refine .ret (Fin.bg zB rfl ?_)
  exact ⟨by simp [Lim.ok, *],hs.out⟩
theorem uz{v:Value}{ls:List Lim}{g:Nat}{cap:List Value}{p:Lim→Bool}(hs:St H w σ)(hr:RL H v ls)
  (hc:∀args w,(callFunc g args).run Tryz.prog w= .ok (.enter g args) w) (hp:∀w l,St H w σ→Cl Tryz.prog g ([.agg l.c.toArray]++cap) w fun u w'=>u= .bool (p l)∧St H w' σ):
  Cl Tryz.prog 277 [v,.func (.func g) #[] cap.toArray] w fun u w'=>u=I (match ls.findIdx? p with|some k=>(k:Int)|none=> -1)∧St H w' σ:=by
 obtain ⟨a,c,rfl⟩:=RS.shape hr
 have hl:=(RS.len hr).2.2
 refine Cl.o Tryz.func277 Tryz.ntmps277 ag2 ?_
 refine .ai (.z zg (.nil (.seq (.ai (.z zm ?_)))))
 refine .q hs (Ad hr rfl aK) ?_
 refine .z zm (.nil ?_)
 refine .for (N:=(ls.map Lim.c).length) (J:=fun k fr w=>fr=[(1,.func (.func g) #[] cap.toArray),(0,.slice a (ls.map Lim.c).length c)]∧St H w σ∧∀j<k,∀l,ls[j]? =some l→p l=false) ak ?_ ?_ ?_
 ·exact .mk ⟨rfl,hs,fun j hj=>by omega⟩
 ·rintro k fr w hk ⟨rfl,hs,hno⟩
  obtain ⟨l,hl⟩:=nth (l:=ls) (by simpa using hk)
  refine .block (.ai (.z zm (.z zg (.nil (.ai (.z zm (.z zm (.z zm ?_))))))))
  refine .ixX hs hr rfl rfl aK aW hl rfl ?_;intro b14 o14 hc14
  refine .y hs (zls [_,_,_,_] fJ aW) ?_
  refine .o (.lZ (first:=[]) rfl rfl hc (hp _ _ hs) ?_);rintro _ w ⟨rfl,hs⟩
  refine .nil ?_
  refine (.cond rfl (fun hc16=>?_) (fun hc16=>?_))
  ·refine .ai (.z zm (.z zg (.nil ?_)))
   refine .ret (rB (rT (rB (rT (Fin.bg Tryz.results277 rfl ?_)))))
   exact ⟨by rw [rj hl hc16 hno],hs⟩
  ·refine .skip ?_
   refine nB (nT ?_)
   exact .mk ⟨rfl,hs,eA hno hl hc16⟩
 ·rintro fr w ⟨rfl,hs,hno⟩
  refine nT ?_
  refine .ai (.z zg (.nil ?_))
  refine .ret (Fin.bg Tryz.results277 rfl ?_)
  exact ⟨by rw [pK (by simpa using hno)],hs⟩
theorem qn{v:Value}{ls:List Lim}{g:Nat}{cap:List Value}{p:Lim→Bool}(hs:St H w σ)(hr:RL H v ls)
  (hc:∀args w,(callFunc g args).run Tryz.prog w= .ok (.enter g args) w) (hp:∀w l,St H w σ→Cl Tryz.prog g ([.agg l.c.toArray]++cap) w fun u w'=>u= .bool (p l)∧St H w' σ):
  Cl Tryz.prog 248 [v,.func (.func g) #[] cap.toArray] w fun u w'=>u= .bool (ls.any p)∧St H w' σ:=by
 refine Cl.o Tryz.func248 Tryz.ntmps248 ag2 ?_
 refine .ai (.z zg (.nil (.ai (.z zm (.z zm ?_)))))
 refine .o (.call Tryz.call277 rfl (uz hs hr hc hp) ?_);rintro _ w ⟨rfl,hs⟩
 refine .z sC (.z zg (.nil ?_))
 refine .ret (Fin.bg Tryz.results248 rfl ?_)
 exact ⟨by rw [xq];cases ls.findIdx? p<;>simp<;>omega,hs⟩
theorem ug{b:Nat}{many:Int}{v:Value}{l:Lim}(hs:St H w σ)(hm:Mem σ (.blk b [I many,v])):Cl Tryz.prog 249 [.agg l.c.toArray,.pointer (some ⟨b,0,none⟩)] w fun v w'=>v= .bool (!l.ok many)∧St H w' σ:=by
 refine Cl.o Tryz.func249 Tryz.ntmps249 ag2 ?_
 refine .ai ?_
 refine .bx hs fun b2 w hs=>?_
 refine .z zg (.nil (.ai (.z (zfa bL) ?_)))
 refine .q hs (iD rfl ae (.there hm) rfl) ?_
 refine .q hs (iC (vs:=l.c) rfl fJ aW) ?_
 refine .o (.call Tryz.call250 rfl (om hs) ?_);rintro _ w ⟨rfl,hs⟩
 refine .z eL (.z zg (.nil ?_))
 refine .ret (Fin.bg Tryz.results249 rfl ?_)
 exact ⟨rfl,hs.out⟩
theorem fq{v:Value}{s:bq}(hs:St H w σ)(hr:RSy H v s):Cl Tryz.prog 197 [v] w fun v w'=>v=I s.check∧St H w' σ:=by
 obtain ⟨u,rfl,hr⟩:=hr
 obtain ⟨a,c,rfl⟩:=RS.shape hr
 refine Cl.o Tryz.func197 Tryz.ntmps197 ag1 ?_
 refine .ai ?_
 refine .bx hs fun b1 w hs=>?_
 refine .z zg (.nil (.seq (.block (.ai (.z (zfa bL) (.y hs (zld ae) ?_))))))
 refine .o (.call zn rfl (dD hs) ?_);rintro _ w ⟨rfl,hs⟩
 refine .z eL (.z zg (.nil ?_))
 refine (.cond rfl (fun hc3=>?_) (fun hc3=>?_))
 ·refine .ai (.z zg (.nil ?_))
  refine .ret (rB (rT (Fin.bg Tryz.results197 rfl ?_)))
  exact ⟨congrArg I (by unfold bq.check;(repeat' split)<;>simp_all<;>omega),hs.out⟩
 ·refine .ai (.z (zfa bR) (.y hs (zld dw) ?_))
  refine .q hs (Ad hr rfl aK) ?_
  refine .z nu (.z zg (.nil ?_))
  refine (.cz rfl (fun hc8=>?_) (fun hc8=>?_))
  ·refine .ai (.z zg (.nil ?_))
   refine .ret (rB (rT (Fin.bg Tryz.results197 rfl ?_)))
   exact ⟨congrArg I (by unfold bq.check;(repeat' split)<;>simp_all<;>omega),hs.out⟩
  ·refine .ai (.z (zfa bR) (.y hs (zld dw) ?_))
   refine .q hs (bX (f:=[]) (c:=[_]) rfl rfl) ?_
   refine .o (.call Tryz.call248 rfl (qn (p:=fun l=> !l.ok s.many) hs hr Tryz.call249 (fun w l hs=>ug hs .here)) ?_);rintro _ w ⟨rfl,hs⟩
   refine .z zg (.nil ?_)
   refine (.cond rfl (fun hc13=>?_) (fun hc13=>?_))
   ·refine .ai (.z zg (.nil ?_))
    refine .ret (rB (rT (Fin.bg Tryz.results197 rfl ?_)))
    exact ⟨congrArg I (by unfold bq.check;(repeat' split)<;>simp_all<;>omega),hs.out⟩
   ·refine .skip ?_
    refine nB (nT ?_)
    refine .ai (.z zg (.nil ?_))
    refine .ret (Fin.bg Tryz.results197 rfl ?_)
    exact ⟨congrArg I (by unfold bq.check;(repeat' split)<;>simp_all<;>omega),hs.out⟩
theorem og{H:bp}{b:Nat}{s:bq}{u:Value}(hok:s.Ok)(hb:Row H b [I s.many,u])(hr:RL H u s.bD):ItA Tryz.prog 295 [.pointer (some ⟨b,0,none⟩)] H s.bT:=by
 intro l II Ix _ _ hy H0 σb0 σf w hle hI0 hs
 obtain ⟨a,c,rfl⟩:=RS.shape hr
 have hb1:cellAt H0 b 1=some (.slice a (s.bD.map Lim.c).length c):=cellAt.mono (by rw [hb.cell];rfl) hle
 have hlen:=hok.len
 refine Cl.o Tryz.func295 Tryz.ntmps295 ag2 ?_
 refine .ai (.z (zfa bR) (.y hs (zld dw) ?_))
 refine .q hs (Ad (hr.mono hle) rfl aK) ?_
 refine .z zm (.nil ?_)
 refine .for (N:=(s.bD.map Lim.c).length) (J:=fun k fr w=>fr=[(6,.slice a (s.bD.map Lim.c).length c),(0,.func (.yield l) #[] #[])]∧∃H1 σb,HLe H H1∧HLe H0 H1∧II k H1 σb∧St H1 w (σb++σf)) (by simp;omega) ?_ ?_ ?_
 ·exact .mk ⟨rfl,H0,σb0,hle,HLe.refl _,hI0,hs⟩
 ·rintro k fr w hk ⟨rfl,H1,σb,hle1,hle0,hI,hs⟩
  obtain ⟨x,hx⟩:=nth (l:=s.bD) (by simpa using hk)
  obtain ⟨hA,hB,_⟩:=hok.arc (List.mem_of_getElem? hx) k
  refine .block (.ai (.z zm ?_))
  refine .ixX hs (hr.mono hle1) rfl rfl aK aW hx rfl ?_;intro b11 o11 hc11
  refine .q hs (bG (vs:=x.c) rfl fJ aW hc11) ?_
  refine .o (.alloc hs dK rfl fun b4 w hs=>?_)
  refine .z zg ?_
  refine .o (.aI (vs:=x.c) hs rfl rfl aW fun w hs=>?_)
  refine .nil (.ai (.z zm (.z (zfa eJ) (.y hs (zld ae) (.z (zfa fl) (.y hs (zld ae) (.z (zfa fk) (.y hs (zld ae) (.z zm ?_)))))))))
  refine .z (zbd [_,_,_,_] mu) ?_
  have hk':k<(s.bT.map fun x=>[Value.agg x.v.toArray]).length:=by simp [bq.bT,dS];simpa using hk
  have hxk:(s.bT.map fun x=>[Value.agg x.v.toArray])[k]=[.agg (x.arc k).v.toArray]:=by
   have:=jH hx
   rw [List.getElem_map];rw [List.getElem?_eq_some_iff] at this;obtain ⟨h1,h2⟩:=this;simp only [bq.bT];rw [h2]
  have hyd:=hy k hk' H1 σb σf w hle1 hI hs.tail
  rw [hxk] at hyd
  refine .o (.yield (vs:=[.agg (x.arc k).v.toArray]) rfl (by simp [Arc.v,hA,hB];rfl) hyd ?_);rintro v22 w ⟨H2,σ2,g1,hs,g3⟩
  obtain ⟨bb,rfl,gT,gF⟩:=kN g3
  refine .z eL (.nil ?_)
  refine (.cond rfl (fun hc23=>?_) (fun hc23=>?_))
  ·refine .ret (rB (rT (rB (Fin.Ee Tryz.results295 ?_))))
   exact ⟨H2,σ2,hle0.trans g1,hs,.inr (gF (by simpa using hc23))⟩
  ·refine .skip ?_
   refine nB (nT ?_)
   exact .mk ⟨rfl,H2,σ2,hle1.trans g1,hle0.trans g1,gT (by simpa using hc23),hs⟩
 ·rintro fr w ⟨rfl,H1,σb,hle1,hle0,hI,hs⟩
  exact Fin.vR Tryz.results295 ⟨H1,σb,hle0,hs,.inl (by simpa [bq.bT,dS] using hI)⟩
theorem gY{v:Value}{s:bq}(hs:St H w σ)(hok:s.Ok)(hr:RSy H v s):
  Cl Tryz.prog 269 [v] w fun v w'=>∃H1 b,HLe H H1∧v= .func (.func 295) #[] #[.pointer (some ⟨b,0,none⟩)]∧ItA Tryz.prog 295 [.pointer (some ⟨b,0,none⟩)] H1 s.bT∧St H1 w' σ:=by
 obtain ⟨u,rfl,hr⟩:=hr
 refine Cl.o Tryz.func269 Tryz.ntmps269 ag1 ?_
 refine .ai ?_
 refine .bx hs fun b1 w hs=>?_
 refine .z zg (.nil (.ai ?_))
 refine .q hs (bX (f:=[]) (c:=[_]) rfl rfl) ?_
 refine .z zg (.nil ?_)
 refine .ret (Fin.bg Tryz.results269 rfl ?_)
 obtain ⟨H1,g1,g2,hs⟩:=hs.ck .here
 exact ⟨H1,b1,g1,rfl,og hok g2 (hr.mono g1),hs⟩
theorem ji{N gf:Nat}{ar:List Arc}{cap:List Value}(hs:St H w σ)(hN:N≤64)(hok:oD ar (N+1))(hit:ItA Tryz.prog gf cap H ar)(hc:∀args w,(callFunc gf args).run Tryz.prog w= .ok (.enter gf args) w):
  Cl Tryz.prog 225 [I N,.func (.func gf) #[] cap.toArray] w fun v w'=>∃H1 bc bb s ov vo,HLe H H1∧v= .tuple #[.slice (some ⟨bc,0,none⟩) (N+1) (N+1),.slice (some ⟨bb,0,none⟩) (N+1) (N+1),vo]∧OvR H1 vo ov∧FC (N+1) ar s ov∧St H1 w' (.blk bc (Is s.cost):: .blk bb (fX s.by_)::σ):=by
 refine Cl.o Tryz.func225 Tryz.ntmps225 ag2 ?_
 refine .ai ?_
 refine .o (.alloc hs dY rfl fun b4 w hs=>?_)
 refine .o (.alloc hs Tryz.zeroValue267 rfl fun b5 w hs=>?_)
 refine .o (.alloc hs Tryz.zeroValue268 rfl fun b6 w hs=>?_)
 refine .nil ?_
 refine .cut (fun fs w=>∃bc bb,kq fs ⟨70,[],[(1,.func (.func gf) #[] cap.toArray),(0,I N),(4,.pointer (some ⟨b4,0,none⟩)),(5,.pointer (some ⟨b5,0,none⟩)),(6,.pointer (some ⟨b6,0,none⟩))]⟩∧St H w (.blk b4 [.slice (some ⟨bc,0,none⟩) (N+1) (N+1)]:: .blk b5 [.slice (some ⟨bb,0,none⟩) (N+1) (N+1)]:: .blk b6 [.pointer none]:: .blk bc (Is (List.replicate (N+1) 0)):: .blk bb (fX (w8 (N+1) 0))::σ)) ?_ ?_
 ·refine .draw mix rfl hs fun w hs=>?_
  refine .z 0 rfl zm ?_;refine .z 1 rfl dP ?_;refine .z 3 rfl zm ?_;refine .z 4 rfl dP ?_
  refine .e2 (i:=2) (j:=5) an rfl rfl rfl rfl .none .none hs ?_ ?_
  ·refine .w9 (N+1) hs rfl rfl af iS rfl aj bA ak ?_;intro b11 w hs
   refine .go ?_
   refine .e2 (i:=5) (j:=6) an rfl rfl rfl rfl .none .none hs ?_ ?_
   ·refine .Ch (N+1) hs rfl rfl ay xA rfl az cV ak ?_;intro b14 w hs
    refine .go ?_
    refine .E 6 hs ?_
    refine .store hs rfl rfl aJ ?_;intro w hs
    refine .go ?_
    refine .E 7 hs ?_
    refine .store hs rfl rfl sy ?_;intro w hs
    refine .go ?_
    refine .D hs ?_
    exact nT ⟨b11,b14,bS,hs.sb⟩
   ·refine .store hs rfl rfl aJ ?_;intro w hs
    refine .go ?_
    refine .E 5 hs ?_
    refine .Ch (N+1) hs rfl rfl ay xA rfl az cV ak ?_;intro b14 w hs
    refine .go ?_
    refine .E 7 hs ?_
    refine .store hs rfl rfl sy ?_;intro w hs
    refine .go ?_
    refine .D hs ?_
    exact nT ⟨b11,b14,bS,hs.sb⟩
  ·refine .Ch (N+1) hs rfl rfl ay xA rfl az cV ak ?_;intro b14 w hs
   refine .go ?_
   refine .E 2 hs ?_
   refine .w9 (N+1) hs rfl rfl af iS rfl aj bA ak ?_;intro b11 w hs
   refine .go ?_
   refine .E 6 hs ?_
   refine .store hs rfl rfl aJ ?_;intro w hs
   refine .go ?_
   refine .E 7 hs ?_
   refine .store hs rfl rfl sy ?_;intro w hs
   refine .go ?_
   refine .D hs ?_
   exact nT ⟨b11,b14,bS,hs.sb⟩
 ·rintro s w ⟨bc,bb,hfs,hs⟩
  refine WE.sub ?_ hfs
  refine .seq (.ai (.y hs (zld dJ) (.z (dp ay) (.z zm (.nil ?_)))))
  refine .for (N:=N+1) (J:=fun k fr w=>fr=[(1,.func (.func gf) #[] cap.toArray),(0,I N),(4,.pointer (some ⟨b4,0,none⟩)),(5,.pointer (some ⟨b5,0,none⟩)),(6,.pointer (some ⟨b6,0,none⟩))]∧St H w (.blk b4 [.slice (some ⟨bc,0,none⟩) (N+1) (N+1)]:: .blk b5 [.slice (some ⟨bb,0,none⟩) (N+1) (N+1)]:: .blk b6 [.pointer none]:: .blk bc (Is (List.replicate (N+1) 0)):: .blk bb (fX (w8 (N+1) k))::σ)) ak ?_ ?_ ?_
  ·exact .mk ⟨rfl,hs⟩
  ·rintro k fr w hk ⟨rfl,hs⟩
   have hkl:k<(w8 (N+1) k).length:=by rw [w7 ak];exact hk
   refine .block (.ai (.z zm (.z zg (.nil (.region (.y hs (zld dJ) (.z zm ?_)))))))
   first|(refine .ixw hs ay az ?_;intro b22 o22 hc22)|refine .z (zq ay az) ?_
   refine .z (zfa cJ) ?_
   refine .o (.store hs rfl rfl aj ?_ eF (yw hkl ak) ((wq hkl _).trans (congrArg fX (Cf hk))));intro w hs
   refine .nil ?_
   refine nB (nT ?_)
   exact .mk ⟨rfl,hs⟩
  ·rintro fr w ⟨rfl,hs⟩
   refine nT ?_
   refine .seq (.ai (.z zm (.z dP (.z zm (.nil ?_)))))
   refine .forD (N:=N+2) (J:=fun r ds fr w=>fr=[(1,.func (.func gf) #[] cap.toArray),(0,I N),(4,.pointer (some ⟨b4,0,none⟩)),(5,.pointer (some ⟨b5,0,none⟩)),(6,.pointer (some ⟨b6,0,none⟩))]∧∃Ds H1 s vo,ds=marks Ds∧HLe H H1∧rX (N+1) ar r 0 none s∧(r=0∨∃x,OvR H1 vo (some x)∧rX (N+1) ar (r - 1) ar.length (some x) s)∧St H1 w (.blk b4 [.slice (some ⟨bc,0,none⟩) (N+1) (N+1)]:: .blk b5 [.slice (some ⟨bb,0,none⟩) (N+1) (N+1)]:: .blk b6 [vo]:: .blk bc (Is s.cost):: .blk bb (fX s.by_)::(mes Ds++σ))) ak ?_ ?_ ?_
   ·exact .mk (ds:=[]) ⟨rfl,[],H,⟨List.replicate (N+1) 0,List.replicate (N+1) ⟨0,0,0,-1⟩⟩,_,rfl,HLe.refl _,rX.init ak,.inl rfl,by rw [Aq] at hs;exact hs⟩
   ·rintro r ds fr w hr ⟨rfl,Ds,H1,s,vo,rfl,hle1,hN0,-,hs⟩
    refine .block (.ai ?_)
    refine .o (.store hs rfl rfl Tryz.sizeOf268 fun w hs=>?_)
    refine .nil (.seq (.ai (.z zm (.nil (.block ?_)))))
    refine .rangeFunc (gf:=gf) (cap:=cap) (xs:=ar.map fun x=>[.agg x.v.toArray]) (σb:=[.blk b4 [.slice (some ⟨bc,0,none⟩) (N+1) (N+1)],.blk b5 [.slice (some ⟨bb,0,none⟩) (N+1) (N+1)],.blk b6 [.pointer none],.blk bc (Is s.cost),.blk bb (fX s.by_)]) (σf:=mes Ds++σ) hs trivial rfl (hit.mono hle1) hc db rfl
     (I:=fun k H' σb=>∃s ov vo,σb=[.blk b4 [.slice (some ⟨bc,0,none⟩) (N+1) (N+1)],.blk b5 [.slice (some ⟨bb,0,none⟩) (N+1) (N+1)],.blk b6 [vo],.blk bc (Is s.cost),.blk bb (fX s.by_)]∧OvR H' vo ov∧rX (N+1) ar r k ov s) (Ix:=fun _ _ _=>False) (by rintro k _ _ σ g1 ⟨s,ov,vo,g2,g3,g4⟩;exact ⟨s,ov,vo,g2,g3.mono g1,g4⟩) (fun _ _ _ _ _ h=>h)
     ⟨s,none,_,rfl,rfl,hN0⟩ ?_ ?_ (fun D c H' σb w _ h _=>h.elim)
    ·rintro l k hk H2 σb2 σf2 w hle2 ⟨s,ov,vo,rfl,hov,hN⟩ hs ⟨rr,hrr⟩
     obtain ⟨x,hx⟩:=nth (l:=ar) (by simpa using hk)
     obtain ⟨c1,c2,c3,c4,c5,c6⟩:=hok.2 x (List.mem_of_getElem? hx)
     have hxk:(ar.map fun x=>[Value.agg x.v.toArray])[k]=[.agg x.v.toArray]:=by rw [List.getElem_map];rw [List.getElem?_eq_some_iff] at hx;obtain ⟨h1,h2⟩:=hx;rw [h2]
     rw [hxk]
     have hkl:k<ar.length:=by simpa using hk
     have hal:=hok.1
     have hlc:=hN.lc
     have hlb:=hN.lb
     have lo1:=hN.lo x.f c1
     have hi1:=hN.hi x.f c1
     refine .region ?_
     refine .o (.alloc hs cV rfl fun b8 w hs=>?_)
     refine .o (.aI (vs:=x.v) hs rfl rfl az fun w hs=>?_)
     refine .nil ?_
     refine nT ?_
     refine ⟨H2,[.blk b8 x.v,.blk b4 [.slice (some ⟨bc,0,none⟩) (N+1) (N+1)],.blk b5 [.slice (some ⟨bb,0,none⟩) (N+1) (N+1)],.blk b6 [vo],.blk bc (Is s.cost),.blk bb (fX s.by_)],HLe.refl _,hs,?_⟩;rintro w σf2 - hs
     refine .block ?_
     refine .seq (.draw mix rfl hs fun w hs=>?_)
     refine .y 0 rfl hs aq ?_;refine .z 1 rfl (zfa bQ) ?_;refine .y 2 rfl hs ae ?_
     first|(refine .ixv 3 rfl hs af aj ?_;intro b34 o34 hc34)|refine .z 3 rfl (zix af aj) ?_
     refine .y 4 rfl hs ae ?_;refine .z 5 rfl (zfa dF) ?_;refine .y 6 rfl hs ae ?_;refine .z 7 rfl dP ?_;refine .y 8 rfl hs aq ?_;refine .z 9 rfl (zfa bZ) ?_;refine .y 10 rfl hs ae ?_
     first|(refine .ixv 11 rfl hs af aj ?_;intro b42 o42 hc42)|refine .z 11 rfl (zix af aj) ?_
     refine .y 12 rfl hs ae ?_;refine .z 13 rfl kM ?_;refine .D hs ?_
     refine (.cz rfl (fun hc44=>?_) (fun hc44=>?_))
     ·refine .seq (.draw mix rfl hs fun w hs=>?_)
      refine .y 0 rfl hs aq ?_;refine .z 1 rfl (zfa bZ) ?_;refine .y 2 rfl hs ae ?_;refine .y 3 rfl hs dJ ?_;refine .z 4 rfl (zfa bZ) ?_;refine .y 5 rfl hs ae ?_;refine .y 6 rfl hs aq ?_;refine .z 7 rfl (zfa bQ) ?_;refine .y 8 rfl hs ae ?_
      first|(refine .ixv 9 rfl hs af aj ?_;intro b54 o54 hc54)|refine .z 9 rfl (zix af aj) ?_
      refine .y 10 rfl hs ae ?_;refine .z 11 rfl (zfa dF) ?_;refine .y 12 rfl hs ae ?_;refine .z 13 rfl dP ?_
      refine .Au (i:=14) (vs:=x.v) hs rfl an .none rfl eR az ?_
      first|(refine .ixv 15 rfl hs af aj ?_;intro b60 o60 hc60)|refine .z 15 rfl (zix af aj) ?_
      refine .E 16 hs ?_
      refine .store hs rfl rfl aj ?_;intro w hs
      refine .go ?_
      first|(refine .ixw 17 rfl hs ay az ?_;intro b61 o61 hc61)|refine .z 17 rfl (zq ay az) ?_
      refine .E 18 hs ?_
      refine .aI (vs:=x.v) hs rfl rfl az ?_;intro w hs
      refine .go ?_
      refine .D hs ?_
      refine .region ?_
      refine .o (.store hs rfl rfl Tryz.sizeOf268 fun w hs=>?_)
      refine .nil ?_
      refine nB ?_
      obtain ⟨H3,g1,g2,hs⟩:=hs.ck .here
      exact ⟨H3,_,g1,hs,s.rlx x,some x,_,rfl,⟨b8,rfl,g2⟩,hN.u5 hok hx hc44⟩
     ·refine .skip ?_
      refine nB ?_
      exact ⟨H2,_,HLe.refl _,hs.tail,s,ov,vo,rfl,hov,hN.skip hok hx (by unfold BS.can;omega)⟩
    ·rintro D H2 σb2 w hle2 ⟨s,ov,vo,rfl,hov,hN⟩ hs
     obtain ⟨a',rfl,ha'⟩:=hov.ptr
     replace hs:St H2 w (.blk b4 [.slice (some ⟨bc,0,none⟩) (N+1) (N+1)]:: .blk b5 [.slice (some ⟨bb,0,none⟩) (N+1) (N+1)]:: .blk b6 [.pointer a']:: .blk bc (Is s.cost):: .blk bb (fX s.by_)::(mes (D::Ds)++σ)):=St.deep (σ1:=[_,_,_,_,_]) hs
     have hN:rX (N+1) ar r ar.length ov s:=by simpa using hN
     refine nB (nT ?_)
     refine .ai (.y hs (zld Tryz.isAgg268) ?_)
     refine .q hs (Ag rfl rfl Tryz.runUnderlying268) ?_
     refine .nil ?_
     refine (.cond rfl (fun hc63=>?_) (fun hc63=>?_))
     ·refine .seq (.draw mix rfl hs fun w hs=>?_)
      refine .y 0 rfl hs aq ?_;refine .y 1 rfl hs dJ ?_
      refine .E 2 hs ?_
      refine .store hs rfl rfl aJ ?_;intro w hs
      refine .go ?_
      refine .E 3 hs ?_
      refine .store hs rfl rfl sy ?_;intro w hs
      refine .go ?_
      refine .E 4 hs ?_
      refine .store hs rfl rfl Tryz.sizeOf268 ?_;intro w hs
      refine .go ?_
      refine .D hs ?_
      refine .ret (rB (rT (rB (rT (?_)))))
      obtain ⟨rfl,rfl⟩:=OvR.no ha' hc63
      refine Fin.gQ (D::Ds) [_,_,_,_,_] hs fun w hs=>⟨_,results3 Tryz.results225 (yQ hs rfl aq) (yQ hs rfl dJ) (yQ hs rfl Tryz.isAgg268),H2,bc,bb,s,none,_,hle1.trans hle2,rfl,hov,⟨r,hN,fun h=>(h rfl).elim⟩,hs.sb⟩
     ·refine .skip ?_
      refine nB (nT ?_)
      obtain ⟨x,rfl⟩:=OvR.yes ha' hc63
      exact .mk (ds:=marks (D::Ds)) ⟨rfl,D::Ds,H2,s,_,rfl,hle1.trans hle2,hN.next hok,.inr ⟨x,hov,hN⟩,hs⟩
   ·rintro ds fr w ⟨rfl,Ds,H1,s,vo,rfl,hle1,hN0,hor,hs⟩
    obtain ⟨x,hov,hN⟩:∃x,OvR H1 vo (some x)∧rX (N+1) ar (N+2 - 1) ar.length (some x) s:=hor.resolve_left ak
    obtain ⟨b3,rfl,hrow⟩:=hov
    refine nT ?_
    refine .seq (.draw mix rfl hs fun w hs=>?_)
    refine .y 0 rfl hs aq ?_;refine .y 1 rfl hs dJ ?_;refine .y 2 rfl hs Tryz.isAgg268 ?_
    refine .E 3 hs ?_
    refine .store hs rfl rfl aJ ?_;intro w hs
    refine .go ?_
    refine .E 4 hs ?_
    refine .store hs rfl rfl sy ?_;intro w hs
    refine .go ?_
    refine .E 5 hs ?_
    refine .store hs rfl rfl Tryz.sizeOf268 ?_;intro w hs
    refine .go ?_
    refine .D hs ?_
    refine .ret ?_
    refine Fin.gQ Ds [_,_,_,_,_] hs fun w hs=>⟨_,results3 Tryz.results225 (yQ hs rfl aq) (yQ hs rfl dJ) (yQ hs rfl Tryz.isAgg268),H1,bc,bb,s,some x,_,hle1,rfl,⟨b3,rfl,hrow⟩,⟨N+1,hN,fun _=>rfl⟩,hs.sb⟩
theorem fU{v:Value}{s:bq}(hs:St H w σ)(hok:s.Ok)(hr:RSy H v s):
  Cl Tryz.prog 223 [v] w fun v w'=>∃H1 b,HLe H H1∧v= .bool b∧(b=true↔s.Sound)∧St H1 w' σ:=by
 obtain ⟨u,rfl,hr⟩:=hr
 obtain ⟨N,hN⟩:=Int.eq_ofNat_of_zero_le hok.m0
 have hN1:=hok.m1
 have hn:s.n=N+1:=by simp [bq.n,hN]
 have hoka:=hok.bT
 rw [hn] at hoka
 rw [hN]
 refine Cl.o Tryz.func223 Tryz.ntmps223 ag1 ?_
 refine .ai ?_
 refine .bx hs fun b1 w hs=>?_
 refine .z zg (.nil ?_)
 refine .seq (.draw mix rfl hs fun w hs=>?_)
 refine .z 0 rfl (zfa bL) ?_;refine .y 1 rfl hs ae ?_;refine .ys 2 rfl hs [_,_] bh aC ?_
 refine .E 3 hs ?_
 refine .call Tryz.call269 rfl (gY (s:=s) hs hok ⟨u,by rw [hN],hr⟩) ?_;rintro _ w ⟨H1,b10,hle1,rfl,hit,hs⟩
 refine .go ?_
 refine .E 4 hs ?_
 refine .call Tryz.call225 rfl (ji hs ak hoka hit Tryz.call295) ?_;rintro _ w ⟨H2,bc,bb,st,ov,vo,hle2,rfl,hov,hnr,hs⟩
 obtain ⟨a',rfl,ha'⟩:=hov.ptr
 refine .go ?_
 refine .z 5 rfl zm ?_;refine .z 6 rfl zex ?_;refine .z 7 rfl zex ?_;refine .z 8 rfl zex ?_;refine .z 9 rfl zg ?_;refine .z 10 rfl zg ?_;refine .z 11 rfl zg ?_;refine .D hs ?_
 refine .ai (.z zm ?_)
 refine .q hs (Ag rfl rfl Tryz.runUnderlying268) ?_
 refine .z zg (.nil ?_)
 refine .ret (Fin.bg Tryz.results223 rfl ?_)
 refine ⟨H2,_,hle1.trans hle2,rfl,?_,hs.out⟩
 obtain ⟨r,hN2,hr2⟩:=hnr
 cases ov with
 |none=>
  rw [ha']
  exact ⟨fun _=>⟨_,(hN2.sol hoka ak).1⟩,fun _=>rfl⟩
 |some x=>
  rw [ha']
  exact ⟨fun h=>(by cases h),fun h=>(hN2.none hoka ak (by have:=hr2 db;omega) h).elim⟩
theorem mW{c:Int}(hs:St H w σ)(hc:0≤c∧c<4294967296):Cl Tryz.prog 313 [.int .u64 1,.int .u64 c] w fun v w'=>v= .tuple #[.int .u64 0,.int .u64 c]∧St H w' σ:=by
 refine Cl.o Tryz.func313 Tryz.ntmps313 ag2 ?_
 refine .ai (.z zg (.z zg (.nil (.ai (.z zm ?_)))))
 first|refine .q hs (Dt rfl rfl ⟨ak,ak⟩) ?_|refine .q hs (xP rfl rfl) ?_
 refine .z zg (.nil (.ai (.z zm ?_)))
 first|refine .q hs (vi rfl rfl ⟨ak,ak⟩) ?_|refine .q hs (wT rfl rfl ef) ?_
 refine .z zg (.nil (.ai (.z zm ?_)))
 first|refine .q hs (Dt rfl rfl ⟨ak,ak⟩) ?_|refine .q hs (xP rfl rfl) ?_
 refine .z zg (.nil (.ai (.z zm ?_)))
 first|refine .q hs (vi rfl rfl ⟨ak,ak⟩) ?_|refine .q hs (wT rfl rfl ef) ?_
 refine .z zg (.nil (.ai (.z zm (.z zm (.z pR (.z zg (.nil (.ai (.z zm ?_)))))))))
 refine .z zm (.z pR (.z zm ?_))
 first|refine .q hs (vi rfl rfl ⟨ak,ak⟩) ?_|refine .q hs (wT rfl rfl ef) ?_
 refine .z dP (.z zg (.nil (.ai (.z zm ?_))))
 first|refine .q hs (Dt rfl rfl ⟨ak,ak⟩) ?_|refine .q hs (xP rfl rfl) ?_
 refine .z zg (.nil (.ai (.z zm ?_)))
 first|refine .q hs (vi rfl rfl ⟨ak,ak⟩) ?_|refine .q hs (wT rfl rfl ef) ?_
 refine .z zg (.nil (.ai (.z zm (.z zm (.z zm (.z pR (.z dP (.z zg (.nil ?_)))))))))
 refine .ai (.z zm (.z zm (.z pR (.z zm (.z dP (.z zm ?_))))))
 first|refine .q hs (vi rfl rfl ⟨ak,ak⟩) ?_|refine .q hs (wT rfl rfl ef) ?_
 refine .z dP (.z zg (.nil (.ai (.z zm (.z zm (.z pR (.z zg (.nil ?_))))))))
 refine .ret (Fin.fY Tryz.results313 rfl rfl ?_)
 exact ⟨db,hs⟩
theorem oZ{c:Int}(hs:St H w σ)(hc:0≤c∧c<4294967296):Cl Tryz.prog 306 [.int .u64 1,.int .u64 c] w fun v w'=>v= .tuple #[.int .u64 0,.int .u64 c]∧St H w' σ:=by
 refine Cl.o Tryz.func306 Tryz.ntmps306 ag2 ?_
 refine .ai (.z zg (.z zg (.nil ?_)))
 refine .seq (.cF ?_)
 refine .skip ?_
 refine nT ?_
 refine .ai (.z zm (.z zm ?_))
 refine .o (.call Tryz.call313 rfl (mW hs hc) ?_);rintro _ w ⟨rfl,hs⟩
 refine .z zm (.z zex (.z zex (.z zg (.z zg (.nil (.ai (.z zm (.z zm (.z zg ?_)))))))))
 refine .z zg (.nil ?_)
 refine .ret (Fin.fY Tryz.results306 rfl rfl ?_)
 exact ⟨rfl,hs⟩
theorem AI{c k:Nat}{z:Int}:let n:=min k (c - k);(List.replicate k z++List.replicate (c - k) 0).take k++List.replicate n z++(List.replicate k z++List.replicate (c - k) 0).drop (k+n)=List.replicate (k+n) z++List.replicate (c - (k+n)) (0:Int):=by
 intro n
 have hn:n≤c - k:=Nat.min_le_right _ _
 have e0:(List.replicate k z).length=k:=by simp
 rw [List.take_left' e0]
 have e1:(List.replicate k z++List.replicate (c - k) 0).drop (k+n)=List.replicate (c - (k+n)) (0:Int):=by
  rw [show k+n=(List.replicate k z).length+n by simp,List.drop_append]
  simp
  omega
 rw [e1,List.replicate_append_replicate]
theorem oQ{z:Int}{bx c:Nat}(hs:St H w σ)(hm:Mem σ (.blk bx (Is [z])))(h1:1≤c)(h2:c≤1000000):Cl Tryz.prog 296 [.slice (some ⟨bx,0,none⟩) 1 1,I c] w fun v w'=>∃b,v= .slice (some ⟨b,0,none⟩) c c∧St H w' (.blk b (Is (List.replicate c z))::σ):=by
 refine Cl.o Tryz.func296 Tryz.ntmps296 ag2 ?_
 refine .ai (.z zg (.nil (.seq (.ai (.z zm (.z kM (.nil ?_)))))))
 refine (.cz rfl (fun hc10=>?_) (fun hc10=>?_))
 ·omega
 ·refine .skip ?_
  refine nT ?_
  refine .ai (.z zm (.z (dp af) ?_))
  first|refine .q hs (tA rfl aM cA ⟨ak,ak⟩) ?_|refine .q hs (tz rfl aM cA ⟨ak,ak⟩) ?_|refine .q hs (vj rfl aM cA) ?_
  refine .z zm ?_
  first|refine .q hs (tA rfl aM cA ⟨ak,ak⟩) ?_|refine .q hs (tz rfl aM cA ⟨ak,ak⟩) ?_|refine .q hs (vj rfl aM cA) ?_
  refine .o (.call Tryz.call306 rfl (oZ (c:=c) hs ak) ?_);rintro _ w ⟨rfl,hs⟩
  refine .z zm (.z zex (.z zex (.z zg (.z zg (.nil (.seq (.ai (.z zm (.z nu ?_)))))))))
  refine .z zm ?_
  refine .gM (t':=23) rfl (fun hb23=>?_) (fun hb23=>?_)
  ·refine .gFs 2 2 false rfl rfl rfl ?_
   refine .z zpT (.nil ?_)
   refine (.cT ?_)
   first|omega|(simp at hc26;omega)
  ·refine .gT rfl rfl ?_
   refine .z zm ?_
   refine .gT rfl rfl ?_
   refine .z nu (.z zpF (.nil ?_))
   refine (.cz rfl (fun hc26=>?_) (fun hc26=>?_))
   ·first|omega|(simp at hc26;omega)
   ·refine .skip ?_
    refine nT ?_
    refine .ai (.z zm ?_)
    first|refine .q hs (tA rfl cA aM ⟨ak,ak⟩) ?_|refine .q hs (tz rfl cA aM ⟨ak,ak⟩) ?_|refine .q hs (vj rfl cA aM) ?_
    refine .o (.w9 c hs rfl rfl af iS rfl aj bA ak fun b30 w hs=>?_)
    refine .z zg (.nil (.ai (.z zm (.z zm ?_))))
    refine .o (.Fk (k:=1) (xs:=List.replicate c 0) (zs:=[z]) hs rfl rfl ⟨_,_,rfl⟩ af aj ak rfl (vO (xs:=[z]) (.there hm) rfl rfl) (by simp;omega) ?_);intro w hs
    refine .z zg (.nil (.seq (.block ?_)))
    refine .loop (fun k:Nat=>⟨48,[],[(8,I k),(7,.slice (some ⟨b30,0,none⟩) c c)]⟩) (fun k w=>(1≤k∧k≤c)∧St H w (.blk b30 (Is (List.replicate k z++List.replicate (c - k) 0))::σ)) (fun k=>c - k) 1 bS ⟨⟨ak,ak⟩,by
      have e:List.take 0 (List.replicate c (0:Int))++[z]++List.drop (0+1) (List.replicate c 0)=List.replicate 1 z++List.replicate (c - 1) 0:=by simp
      rw [e] at hs;exact hs⟩ ?_
    rintro k w ⟨⟨k1,k2⟩,hs⟩
    refine .seq (.ai (.z zm (.z zm (.z (dp af) (.z kM (.nil ?_))))))
    refine (.cz rfl (fun hc37=>?_) (fun hc37=>?_))
    ·refine .skip ?_
     refine nT ?_
     refine .block ?_
     refine .draw mix rfl hs fun w hs=>?_
     refine .z 0 rfl zm ?_;refine .z 1 rfl zm ?_;refine .z 2 rfl zm ?_
     refine .z 3 rfl (ve (k:=k) rfl rfl af aj ak ak) ?_
     refine .z 4 rfl zm ?_;refine .z 5 rfl zm ?_
     refine .z 6 rfl (qX (k:=k) rfl rfl af aj ak) ?_
     refine .E 7 hs ?_
     refine .Fk (k:=min k (c - k)) (xs:=List.replicate k z++List.replicate (c - k) 0) (zs:=List.replicate (min k (c - k)) z) hs rfl rfl ⟨_,_,rfl⟩ af aj rfl db (vO (xs:=List.replicate k z++List.replicate (c - k) 0) .here (by rw [List.drop_zero,List.take_append_of_le_length (by simp;omega)];simp) db) (by simp;omega) ?_;intro w hs
     refine .go ?_
     refine .z 8 rfl dP ?_;refine .z 9 rfl zg ?_;refine .D hs ?_
     refine nB (nT ?_)
     exact ⟨k+min k (c - k),bS,⟨⟨ak,ak⟩,by
       have e:=AI (z:=z) (c:=c) (k:=k)
       simp only [Nat.mul_one,Nat.zero_add] at hs
       rw [e] at hs;exact hs⟩,ak⟩
    ·refine .exit ?_
     refine xT (xT (xB (nT ?_)))
     refine .ai (.z zm (.z zg (.nil ?_)))
     refine .ret (Fin.bg Tryz.results296 rfl ?_)
     obtain rfl:k=c:=by omega
     exact ⟨b30,rfl,by simpa using hs⟩
theorem oR{v:Value}{xs:List Int}(hs:St H w σ)(hr:RI H v xs)(hx:xs.length≤17592186044416):Cl Tryz.prog 171 [v] w fun u w'=>∃en,(EY v=true→EY u=true)∧cR 1 u (Is xs) en∧St H w' (en::σ):=by
 obtain ⟨a,c,rfl⟩:=RI.shape hr
 have hl:=(RI.len hr).2.2
 refine Cl.o Tryz.func171 Tryz.ntmps171 ag1 ?_
 refine .ai (.z zg (.nil (.seq (.ai (.z zm ?_)))))
 refine .q hs (ES rfl rfl af) ?_
 refine .nil ?_
 refine (.cond rfl (fun hc4=>?_) (fun hc4=>?_))
 ·refine .ai (.z zg (.nil ?_))
  refine .ret (rT (Fin.bg Tryz.results171 rfl ?_))
  obtain rfl:a=none:=by simpa using hc4
  obtain rfl:=hr.Gl
  exact ⟨.nul,fun h=>h,.nil 1 none,hs.nul⟩
 ·refine .skip ?_
  refine nT ?_
  refine .ai ?_
  refine .o (.buildSlice (cells:=[]) hs vW rfl rfl fun b5 w hs=>?_)
  refine .z zm ?_
  refine .o (.A1 (xs:=[]) (ys:=Is xs) hs da rfl rfl (.full rfl) (.ints hr) (by simp [Value.oneCell']) (fun l h=>by simp at h;omega) ?_);intro v7 en7 w hnn hO hs
  refine .z zg (.nil ?_)
  refine .ret (Fin.bg Tryz.results171 rfl ?_)
  exact ⟨en7,fun _=>hnn rfl,hO,hs⟩
theorem j6{v:Value}{xs:List Int}(hs:St H w σ)(hr:RI H v xs)(hx:xs.length≤17592186044416):Cl Tryz.prog 171 [v] w fun v w'=>∃en,cR 1 v (Is xs) en∧St H w' (en::σ):=
 (oR hs hr hx).mono fun _ _ ⟨en,_,h⟩=>⟨en,h⟩
theorem mN{v:Value}{l:List Arc}{en:Ent}(hs:St H w (en::σ))(ho:cR 4 v (fX l) en)(hl:l.length≤1000000):
  Cl Tryz.prog 297 [v] w fun _ w'=>∃en',cR 4 v (fX l.reverse) en'∧St H w' (en'::σ):=by
 rcases ho with ⟨a,rfl,h2,rfl⟩|⟨b,len,cap,sp,rfl,rfl,h2,h3,h4⟩
 ·obtain rfl:l=[]:=by
   have:=congrArg List.length h2
   rw [cH] at this
   exact List.length_eq_zero_iff.1 (by simp at this;omega)
  have hs:=hs.tail
  refine Cl.o Tryz.func297 Tryz.ntmps297 ag1 ?_
  refine .ai (.z zm (.z (dp ay) (.z fu (.z zg (.z zg (.nil (.block ?_)))))))
  refine .loop (fun _:Unit=>⟨28,[],[(2,I 0),(3,I (-1))]⟩) (fun _ w=>St H w σ) (fun _=>0) () bS hs ?_
  rintro _ w hs
  refine .seq (.ai (.z zm (.z zm (.z kM (.nil ?_)))))
  refine (.cz rfl (fun hc9=>?_) (fun hc9=>?_))
  ·omega
  ·refine .exit ?_
   refine xT (xT (xB ?_))
   exact Fin.vR Tryz.results297 ⟨.nul,.nil 4 a,hs.nul⟩
 obtain rfl:len=l.length:=by rw [cH] at h2;omega
 refine Cl.o Tryz.func297 Tryz.ntmps297 ag1 ?_
 refine .ai (.z zm (.z (dp ay) (.z fu (.z zg (.z zg (.nil (.block ?_)))))))
 refine .loop (fun p:Nat×List Arc=>⟨28,[],[(2,I p.1),(3,I ((l.length:Int) - 1 - p.1)),(0,.slice (some ⟨b,0,none⟩) l.length cap)]⟩) (fun p w=>(2*p.1≤l.length+1∧pN l p.2 p.1)∧St H w (.blk b (fX p.2++sp)::σ)) (fun p=>l.length - p.1) (0,l) (.cons rfl (.eP rfl db (.cons rfl (.nil rfl rfl)))) ⟨⟨db,.start l⟩,hs⟩ ?_
 rintro ⟨i,L⟩ w ⟨⟨h5,h6⟩,hs⟩
 dsimp only at h5 h6 hs ⊢
 have hL:=h6.1
 refine .seq (.ai (.z zm (.z zm (.z kM (.nil ?_)))))
 refine (.cz rfl (fun hc9=>?_) (fun hc9=>?_))
 ·refine .skip ?_
  refine nT ?_
  refine .seq (.block ?_)
  refine .draw mix rfl hs fun w hs=>?_
  refine .z 0 rfl zm ?_;refine .z 1 rfl zm ?_;refine .z 2 rfl zm ?_;refine .z 3 rfl zm ?_;refine .z 4 rfl zm ?_;refine .z 5 rfl zm ?_
  refine .z 6 rfl (sP (k:=l.length - 1 - i) rfl rfl ay az ak ak) ?_
  refine .Au (i:=7) (vs:=(ga L (l.length - 1 - i)).v) hs rfl an .none rfl eR az ?_ (hv:=rO ak sp)
  refine .z 8 rfl zm ?_;refine .z 9 rfl zm ?_
  first|(refine .ixw 10 rfl hs ay az ?_;intro b24 o24 hc24)|refine .z 10 rfl (zq ay az) ?_
  refine .Au (i:=11) (vs:=(ga L i).v) hs rfl an .none rfl eR az ?_ (hv:=rO ak sp)
  first|(refine .ixw 12 rfl hs ay az ?_;intro b26 o26 hc26)|refine .z 12 rfl (zq ay az) ?_
  refine .E 13 hs ?_
  refine .aI (vs:=(ga L (l.length - 1 - i)).v) hs rfl rfl az ?_ eF (rq ak sp) (pF ak _ sp);intro w hs
  refine .go ?_
  refine .z 14 rfl (sP (k:=l.length - 1 - i) rfl rfl ay az ak ak) ?_
  refine .E 15 hs ?_
  refine .aI (vs:=(ga L i).v) hs rfl rfl az ?_ eF (rq (by simp;omega) sp) (pF (by simp;omega) _ sp);intro w hs
  refine .go ?_
  refine .D hs ?_
  refine nB (nT ?_)
  refine .region (.z zm (.z dP (.z zm (.z fu (.z zg (.z zg (.nil ?_)))))))
  refine nT ?_
  exact ⟨(i+1,_),.cons rfl (.eP rfl (by push_cast;omega) (.cons rfl (.nil rfl rfl))),⟨⟨by dsimp only;omega,h6.step ak⟩,hs⟩,by dsimp only;omega⟩
 ·refine .exit ?_
  refine xT (xT (xB ?_))
  rw [h6.done ak] at hs
  exact Fin.vR Tryz.results297 ⟨_,.inr ⟨b,l.length,cap,sp,rfl,rfl,by rw [cH];simp,by rw [←h3];simp [cH],h4⟩,hs⟩
theorem kK{H:bp}{b1 bf bt bl cl:Nat}{s:bq}{ts lf:List Int}{vl:Value}{sp:List Value}(hok:s.Ok)(hb:Row H b1 [.pointer (some ⟨bf,0,none⟩)])(hF:sw H bf s ts lf vl bt bl cl sp)(hlt:ts.length=s.bD.length):
  ItA Tryz.prog 274 [.pointer (some ⟨b1,0,none⟩)] H (cE s.bT ts):=by
 intro l II Ix hmI hmX hy H0 σb0 σf w hle hI0 hs
 have hb0:cellAt H0 b1 0=some (.pointer (some ⟨bf,0,none⟩)):=(hb.mono hle).at 0
 have hF0:=hF.mono hle
 have hsys:=hF0.f.cells 0 [I s.many,vl]
 have hlen:s.bT.length=ts.length:=by simp [bq.bT,dS,hlt]
 refine Cl.o Tryz.func274 Tryz.ntmps274 ag2 ?_
 refine .ai ?_
 refine .bx hs fun b2 w hs=>?_
 refine .nil (.ai (.y hs (zld oH) (.z znc (.z (zfa ec) ?_))))
 refine .q hs (bG (vs:=[I s.many,vl]) rfl bh aC hsys) ?_
 refine .o (.call Tryz.call269 rfl (gY (s:=s) hs hok ⟨vl,rfl,hF0.l⟩) ?_);rintro _ w ⟨H1,b8,hle1,rfl,hit,hs⟩
 refine .nil (.block ?_)
 refine .rangeFunc (gf:=295) (cap:=[.pointer (some ⟨b8,0,none⟩)]) (xs:=s.bT.map fun x:Arc=>[Value.agg x.v.toArray]) (σb:= .blk b2 [.func (.yield l) #[] #[]]::σb0) (σf:=σf) hs trivial rfl hit Tryz.call295 db rfl
  (I:=fun k H' σb=>∃σo,σb= .blk b2 [.func (.yield l) #[] #[]]::σo∧HLe H0 H'∧II (xQ s.bT ts k) H' σo)
  (Ix:=fun c H' σb=>c= .ret∧∃σo,σb= .blk b2 [.func (.yield l) #[] #[]]::σo∧HLe H0 H'∧Ix H' σo)
  (fun k _ _ σ g1 ⟨σo,g2,g3,g4⟩=>⟨σo,g2,g3.trans g1,hmI _ _ _ _ g1 g4⟩) (fun c _ _ σ g1 ⟨g0,σo,g2,g3,g4⟩=>⟨g0,σo,g2,g3.trans g1,hmX _ _ _ g1 g4⟩)
  ⟨σb0,rfl,hle1,by rw [Al];exact hmI _ _ _ _ hle1 hI0⟩ ?_ ?_ ?_
 ·rintro l2 k hk H2 σb2 σf2 w hle2 ⟨σo,rfl,hle0,hIk⟩ hs ⟨rr,hrr⟩
  obtain ⟨x,hx⟩:=nth (l:=s.bT) (by simpa using hk)
  obtain ⟨c1,c2,c3,c4,c5,c6⟩:=hok.bT.2 x (List.mem_of_getElem? hx)
  have hxk:(s.bT.map fun x=>[Value.agg x.v.toArray])[k]=[.agg x.v.toArray]:=by rw [List.getElem_map];rw [List.getElem?_eq_some_iff] at hx;obtain ⟨h1,h2⟩:=hx;rw [h2]
  rw [hxk]
  have hkt:k<ts.length:=by rw [←hlen];simpa using hk
  have hxl:x.l=(k:Int):=oA hx
  obtain ⟨r1,r2,r3⟩:=zZ (ts:=ts) hx hkt
  refine .region ?_
  refine .o (.alloc hs cV rfl fun b3 w hs=>?_)
  refine .o (.aI (vs:=x.v) hs rfl rfl az fun w hs=>?_)
  refine .nil ?_
  refine nT ?_
  refine ⟨H2,.blk b3 x.v:: .blk b2 [.func (.yield l) #[] #[]]::σo,HLe.refl _,hs,?_⟩;rintro w σf2 - hs
  refine .block (.seq (.ai ?_))
  refine .y hs (zld Tryz.isAgg307) ?_
  refine .q hs (iC (vs:=x.v) rfl eR az) ?_
  have hyd:=hy (xQ s.bT ts k) (by simpa using (List.getElem?_eq_some_iff.1 r1).1) H2 σo (.blk b3 x.v:: .blk b2 [.func (.yield l) #[] #[]]::σf2) w (hle.trans hle0) hIk (St.deep (σ1:=σo) (St.deep (σ1:= .blk b3 x.v::σo) (hs.perm (.swap _ _ _))))
  rw [As r1] at hyd
  refine .o (.yield (vs:=[.agg x.v.toArray]) rfl rfl hyd ?_);rintro v12 w ⟨H3,σ3,hle3,hs,g3⟩
  obtain ⟨bb,rfl,gT,gF⟩:=kN g3
  replace hs:St H3 w (.blk b3 x.v:: .blk b2 [.func (.yield l) #[] #[]]::(σ3++σf2)):=(St.shallow (σ1:= .blk b3 x.v::σ3) (St.shallow (σ1:=σ3) hs)).perm (.swap _ _ _)
  refine .z eL (.nil ?_)
  refine (.cond rfl (fun hc13=>?_) (fun hc13=>?_))
  ·refine .ret (rT (rB (?_)))
   exact ⟨H3,.blk b2 [.func (.yield l) #[] #[]]::σ3,hle3,hs.tail,rfl,σ3,rfl,hle0.trans hle3,gF (by simpa using hc13)⟩
  ·refine .skip ?_
   refine nT ?_
   refine .seq (.draw mix rfl hs fun w hs=>?_)
   have hb3:cellAt H3 b1 0=some (.pointer (some ⟨bf,0,none⟩)):=cellAt.mono hb0 (hle0.trans hle3)
   have hf3:cellAt H3 bf 2=some (.slice (some ⟨bt,0,none⟩) ts.length ts.length):=((hF0.mono (hle0.trans hle3)).f).at 2
   have ht3:cellAt H3 bt k=some (I (gi ts k)):=((hF0.mono (hle0.trans hle3)).t).at k (zi hkt)
   have hI3:=gT (by simpa using hc13)
   refine .r (i:=0) hs rfl an .none (a6 rfl oH hb3) ?_
   refine .z 1 rfl znc ?_;refine .z 2 rfl (zfa eW) ?_;refine .y 3 rfl hs aq ?_;refine .z 4 rfl (zfa cJ) ?_;refine .y 5 rfl hs ae ?_
   refine .z 6 rfl (kD (k:=k) rfl rfl af aj hxl hkt) ?_
   refine .r (i:=7) hs rfl an .none (a6 rfl ae ht3) ?_
   refine .z 8 rfl nu ?_;refine .z 9 rfl zm ?_
   refine .gM (t':=23) rfl (fun hb23=>?_) (fun hb23=>?_)
   ·refine .y 10 rfl hs Tryz.isAgg307 ?_
    refine .z 11 rfl (zfa bZ) ?_;refine .y 12 rfl hs ae ?_;refine .z 13 rfl (zfa bQ) ?_;refine .y 14 rfl hs ae ?_;refine .z 15 rfl (zfa dF) ?_;refine .y 16 rfl hs ae ?_;refine .z 17 rfl CL ?_;refine .z 18 rfl (zfa cJ) ?_;refine .y 19 rfl hs ae ?_;refine .z 20 rfl (zbd [_,_,_,_] mu) ?_
    refine .E 21 hs ?_
    obtain ⟨r4,r5⟩:=r2 hb23
    have hyd:=hy (xQ s.bT ts k+1) (by simpa using (List.getElem?_eq_some_iff.1 r4).1) H3 σ3 (.blk b3 x.v:: .blk b2 [.func (.yield l) #[] #[]]::σf2) w (hle.trans (hle0.trans hle3)) hI3 (St.deep (σ1:=σ3) (St.deep (σ1:= .blk b3 x.v::σ3) (hs.perm (.swap _ _ _))))
    rw [As r4] at hyd
    refine .yield (vs:=[.agg x.back.v.toArray]) rfl rfl hyd ?_;rintro v35 w ⟨H4,σ4,hle4,hs,g4⟩
    obtain ⟨bb4,rfl,gT4,gF4⟩:=kN g4
    replace hs:St H4 w (.blk b3 x.v:: .blk b2 [.func (.yield l) #[] #[]]::(σ4++σf2)):=(St.shallow (σ1:= .blk b3 x.v::σ4) (St.shallow (σ1:=σ4) hs)).perm (.swap _ _ _)
    refine .go ?_
    refine .z 22 rfl eL ?_;refine .z 23 rfl zpT ?_;refine .D hs ?_
    refine (.cond rfl (fun hc37=>?_) (fun hc37=>?_))
    ·refine .ret (rB (?_))
     exact ⟨H4,.blk b2 [.func (.yield l) #[] #[]]::σ4,hle3.trans hle4,hs.tail,rfl,σ4,rfl,hle0.trans (hle3.trans hle4),gF4 (by simpa using hc37)⟩
    ·refine .skip ?_
     refine nB ?_
     exact ⟨H4,.blk b2 [.func (.yield l) #[] #[]]::σ4,hle3.trans hle4,hs.tail,σ4,rfl,hle0.trans (hle3.trans hle4),by rw [r5];exact gT4 (by simpa using hc37)⟩
   ·refine .qF (i:=10) rfl an rfl rfl ?_
    refine .qF (i:=11) rfl an rfl rfl ?_
    refine .qF (i:=12) rfl an rfl rfl ?_
    refine .qF (i:=13) rfl an rfl rfl ?_
    refine .qF (i:=14) rfl an rfl rfl ?_
    refine .qF (i:=15) rfl an rfl rfl ?_
    refine .qF (i:=16) rfl an rfl rfl ?_
    refine .qF (i:=17) rfl an rfl rfl ?_
    refine .qF (i:=18) rfl an rfl rfl ?_
    refine .qF (i:=19) rfl an rfl rfl ?_
    refine .qF (i:=20) rfl an rfl rfl ?_
    refine .qF (i:=21) rfl an rfl rfl ?_
    refine .qF (i:=22) rfl an rfl rfl ?_
    refine .z 23 rfl zpF ?_;refine .D hs ?_
    refine (.cF ?_)
    refine .skip ?_
    refine nB ?_
    exact ⟨H3,.blk b2 [.func (.yield l) #[] #[]]::σ3,hle3,hs.tail,σ3,rfl,hle0.trans hle3,by rw [r3 hb23];exact hI3⟩
 ·rintro D H2 σb2 w hle2 ⟨σo,rfl,hle0,hIk⟩ hs
  refine nB ?_
  exact Fin.FM [D] [] hs.xG fun w hs=>⟨_,results0 Tryz.results274,H2,σo,hle0,hs,.inl (by simpa [B5 hlen] using hIk)⟩
 ·rintro D c H2 σb2 w hle2 ⟨rfl,σo,rfl,hle0,hx⟩ hs
  exact .ret (rB (Fin.gQ [D] [] hs.xG fun w hs=>⟨_,results0 Tryz.results274,H2,σo,hle0,hs,.inr hx⟩))
theorem l6{bf bt bl cl:Nat}{s:bq}{ts lf:List Int}{vl:Value}{sp:List Value}(hs:St H w σ)(hok:s.Ok)(hF:sw H bf s ts lf vl bt bl cl sp)(hlt:ts.length=s.bD.length):
  Cl Tryz.prog 226 [.pointer (some ⟨bf,0,none⟩)] w fun v w'=>∃H1 b,HLe H H1∧v= .func (.func 274) #[] #[.pointer (some ⟨b,0,none⟩)]∧ItA Tryz.prog 274 [.pointer (some ⟨b,0,none⟩)] H1 (cE s.bT ts)∧St H1 w' σ:=by
 refine Cl.o Tryz.func226 Tryz.ntmps226 ag1 ?_
 refine .ai ?_
 refine .bx hs fun b1 w hs=>?_
 refine .z zg (.nil (.ai ?_))
 refine .q hs (bX (f:=[]) (c:=[_]) rfl rfl) ?_
 refine .z zg (.nil ?_)
 refine .ret (Fin.bg Tryz.results226 rfl ?_)
 obtain ⟨H1,g1,g2,hs⟩:=hs.ck .here
 exact ⟨H1,b1,g1,rfl,kK hok g2 (hF.mono g1) hlt,hs⟩
theorem m9{bf bt bl cl to:Nat}{s:bq}{ts lf:List Int}{vl:Value}{sp:List Value}(hs:St H w σ)(hok:s.Ok)(hF:sw H bf s ts lf vl bt bl cl sp)(hlt:ts.length=s.bD.length)(hll:lf.length=s.n)
  (hD:∃p,dI (cE s.bT ts) p) (hto:to<s.n) (hpos:0<gi lf to):
  Cl Tryz.prog 272 [.pointer (some ⟨bf,0,none⟩),I to] w fun v w'=>∃H1 p en,HLe H H1∧cR 4 v (fX p) en∧St H1 w' (en::σ)∧FN s.n s.bT ts lf p to:=by
 obtain ⟨N,hN⟩:=Int.eq_ofNat_of_zero_le hok.m0
 have hN1:=hok.m1
 have hn:s.n=N+1:=by simp [bq.n,hN]
 have hoka:=hok.bT
 have hlen:s.bT.length=ts.length:=by simp [bq.bT,dS,hlt]
 rw [hn] at hoka hll hto ⊢
 obtain ⟨D,hg⟩:=xI ak ak hoka hlen hD
 have hf0:cellAt H bf 0=some (I (N:Int)):=by have:=hF.f.at 0 (v:=I s.many);rwa [hN] at this
 have hf3:cellAt H bf 3=some (.slice (some ⟨bl,0,none⟩) lf.length cl):=hF.f.at 3
 refine Cl.o Tryz.func272 Tryz.ntmps272 ag2 ?_
 refine .ai ?_
 refine .bx hs fun b2 w hs=>?_
 refine .z zg (.nil (.ai ?_))
 refine .o (.buildSlice (cells:=[_]) hs cP rfl rfl fun b13 w hs=>?_)
 refine .y hs (zld oH) (.z znc (.z (zfa ec) (.z (zfa bL) (.y hs (zld ae) (.z dP ?_)))))
 refine .o (.call Tryz.call296 rfl (oQ (z:=far) (c:=N+1) hs .here ak ak) ?_);rintro _ w ⟨bc,rfl,hs⟩
 refine .o (.alloc hs dY rfl fun b5 w hs=>?_)
 refine .o (.store hs rfl rfl aJ fun w hs=>?_)
 refine .nil (.ai (.y hs (zld oH) (.z znc (.z (zfa ec) (.z (zfa bL) (.y hs (zld ae) (.z dP ?_)))))))
 refine .o (.Ch (N+1) hs rfl rfl ay xA rfl az cV ak fun b27 w hs=>?_)
 refine .o (.alloc hs Tryz.zeroValue267 rfl fun b6 w hs=>?_)
 refine .o (.store hs rfl rfl sy fun w hs=>?_)
 refine .nil (.seq (.ai (.y hs (zld oH) (.z znc (.z (zfa cK) (.y hs (zld aq) (.z (dp af) (.z zm (.nil ?_)))))))))
 refine .for (N:=lf.length) (J:=fun k fr w=>fr=[(31,.slice (some ⟨bl,0,none⟩) lf.length cl),(5,.pointer (some ⟨b5,0,none⟩)),(6,.pointer (some ⟨b6,0,none⟩)),(2,.pointer (some ⟨b2,0,none⟩)),(1,I to)]∧∃st,rE (N+1) lf k st∧St H w (.blk b6 [.slice (some ⟨b27,0,none⟩) (N+1) (N+1)]:: .blk b27 (fX st.by_):: .blk b5 [.slice (some ⟨bc,0,none⟩) (N+1) (N+1)]:: .blk bc (Is st.cost):: .blk b2 [.pointer (some ⟨bf,0,none⟩)]::σ)) ak ?_ ?_ ?_
 ·exact .mk ⟨rfl,_,.start _ _,hs.sb⟩
 ·rintro k fr w hk ⟨rfl,st,hI,hs⟩
  have hck:cellAt H bl k=some (I (gi lf k)):=hF.d.at k (Ba (bE hk) sp)
  have hlc:=hI.lc
  have hlb:=hI.lb
  have hkb:k<st.by_.length:=by omega
  refine .block (.ai (.z zm ?_))
  first|(refine .ixv hs af aj ?_;intro b36 o36 hc36)|refine .z (zix af aj) ?_
  refine .q hs (a6 rfl ae hck) ?_
  refine .z zg (.z zg (.nil (.ai (.z zm (.z kM (.nil ?_))))))
  refine (.cz rfl (fun hc39=>?_) (fun hc39=>?_))
  ·refine .ai (.y hs (zld aq) (.z zm ?_))
   first|(refine .ixv hs af aj ?_;intro b42 o42 hc42)|refine .z (zix af aj) ?_
   refine .o (.store hs rfl rfl aj fun w hs=>?_)
   refine .nil (.region (.y hs (zld dJ) (.z zm ?_)))
   first|(refine .ixw hs ay az ?_;intro b45 o45 hc45)|refine .z (zq ay az) ?_
   refine .z (zfa cJ) ?_
   refine .o (.store hs rfl rfl aj ?_ eF (yw hkb ak) (wq hkb _));intro w hs
   refine .nil ?_
   refine nB (nT ?_)
   exact .mk ⟨rfl,_,hI.take ak hc39,hs⟩
  ·refine .skip ?_
   refine nB (nT ?_)
   exact .mk ⟨rfl,_,hI.skip hc39,hs⟩
 ·rintro fr w ⟨rfl,st0,hI0,hs⟩
  rw [hll] at hI0
  have hW0:=hI0.inv hg
  refine nT ?_
  refine .seq (.ai ?_)
  refine .o (.alloc hs Tryz.zeroValue4 rfl fun b9 w hs=>?_)
  refine .o (.store hs rfl rfl rR fun w hs=>?_)
  refine .nil (.block ?_)
  refine .loop (fun p:Nat×List Nat×bp×BS×Bool=>⟨141,marks p.2.1,[(9,.pointer (some ⟨p.1,0,none⟩)),(5,.pointer (some ⟨b5,0,none⟩)),(6,.pointer (some ⟨b6,0,none⟩)),(2,.pointer (some ⟨b2,0,none⟩)),(1,I to)]⟩)
   (fun p w=>HLe H p.2.2.1∧(∃j,qE (N+1) (cE s.bT ts) (fun v=>gi lf v<0) D j p.2.2.2.2 p.2.2.2.1∧(p.2.2.2.2=false→j=(cE s.bT ts).length))∧
    St p.2.2.1 w (.blk p.1 [.bool p.2.2.2.2]:: .blk b6 [.slice (some ⟨b27,0,none⟩) (N+1) (N+1)]:: .blk b27 (fX p.2.2.2.1.by_):: .blk b5 [.slice (some ⟨bc,0,none⟩) (N+1) (N+1)]:: .blk bc (Is p.2.2.2.1.cost):: .blk b2 [.pointer (some ⟨bf,0,none⟩)]::(mes p.2.1++σ)))
   (fun p=>2*WM (N+1) D p.2.2.2.1+(if p.2.2.2.2=true then 1 else 0)) (b9,[],H,st0,true) bS ⟨HLe.refl _,⟨0,hW0,fun h=>by cases h⟩,hs⟩ ?_
  rintro ⟨b9,Ds,H1,st,ag⟩ w ⟨hle1,⟨j,hW,hj⟩,hs⟩
  dsimp only at hle1 hW hj hs ⊢
  have hlc:=hW.lc
  have hlb:=hW.lb
  refine .seq (.ai (.y hs (zld Tryz.isAgg4) (.nil ?_)))
  refine (.cond rfl (fun hc48=>?_) (fun hc48=>?_))
  ·refine .skip ?_
   refine nT ?_
   refine .seq (.block (.ai ?_))
   subst hc48
   refine .o (.store hs rfl rfl rR fun w hs=>?_)
   refine .nil (.ai (.y hs (zld oH) ?_))
   refine .o (.call Tryz.call226 rfl (l6 hs hok (hF.mono hle1) hlt) ?_);rintro _ w ⟨H2,b50,hle2,rfl,hit,hs⟩
   refine .nil (.block ?_)
   refine .rangeFunc (gf:=274) (cap:=[.pointer (some ⟨b50,0,none⟩)]) (xs:=(cE s.bT ts).map fun x:Arc=>[Value.agg x.v.toArray])
    (σb:=[.blk b9 [.bool false],.blk b6 [.slice (some ⟨b27,0,none⟩) (N+1) (N+1)],.blk b27 (fX st.by_),.blk b5 [.slice (some ⟨bc,0,none⟩) (N+1) (N+1)],.blk bc (Is st.cost),.blk b2 [.pointer (some ⟨bf,0,none⟩)]]) (σf:=mes Ds++σ) hs trivial rfl hit Tryz.call274 db rfl
    (I:=fun k H' σb=>HLe H2 H'∧∃st' ag,σb=[.blk b9 [.bool ag],.blk b6 [.slice (some ⟨b27,0,none⟩) (N+1) (N+1)],.blk b27 (fX st'.by_),.blk b5 [.slice (some ⟨bc,0,none⟩) (N+1) (N+1)],.blk bc (Is st'.cost),.blk b2 [.pointer (some ⟨bf,0,none⟩)]]∧
     qE (N+1) (cE s.bT ts) (fun v=>gi lf v<0) D k ag st'∧WM (N+1) D st'≤WM (N+1) D st∧(ag=true→WM (N+1) D st'<WM (N+1) D st)) (Ix:=fun _ _ _=>False)
    (by rintro k _ _ σ g1 ⟨g2,g3⟩;exact ⟨g2.trans g1,g3⟩) (fun _ _ _ _ _ h=>h) ⟨HLe.refl _,st,false,rfl,hW.next,Nat.le_refl _,fun h=>by cases h⟩ ?_ ?_ (fun D c H' σb w _ h _=>h.elim)
   ·rintro l k hk H3 σb3 σf3 w hle3 ⟨hle23,st',ag,rfl,hW',hm1,hm2⟩ hs ⟨rr,hrr⟩
    obtain ⟨x,hx⟩:=nth (l:=cE s.bT ts) (by simpa using hk)
    obtain ⟨c1,c2,c3,c4,c5,c6⟩:=hg.ok x (List.mem_of_getElem? hx)
    rw [As hx]
    have hlc':=hW'.lc
    have hlb':=hW'.lb
    have lo1:=hW'.lo x.f c1
    have lo2:=hg.d1 x.f c1
    have hx3:cellAt H3 bl x.t=some (I (gi lf x.t)):=((hF.mono (hle1.trans (hle2.trans hle3))).d).at x.t (Ba (bE ak) sp)
    have hf33:cellAt H3 bf 3=some (.slice (some ⟨bl,0,none⟩) lf.length cl):=cellAt.mono hf3 (hle1.trans (hle2.trans hle3))
    refine .region ?_
    refine .o (.alloc hs cV rfl fun b10 w hs=>?_)
    refine .o (.aI (vs:=x.v) hs rfl rfl az fun w hs=>?_)
    refine .nil ?_
    refine nT ?_
    refine ⟨H3,[.blk b10 x.v,.blk b9 [.bool ag],.blk b6 [.slice (some ⟨b27,0,none⟩) (N+1) (N+1)],.blk b27 (fX st'.by_),.blk b5 [.slice (some ⟨bc,0,none⟩) (N+1) (N+1)],.blk bc (Is st'.cost),.blk b2 [.pointer (some ⟨bf,0,none⟩)]],HLe.refl _,hs,?_⟩;rintro w σf4 - hs
    refine .block ?_
    refine .seq (.draw mix rfl hs fun w hs=>?_)
    refine .y 0 rfl hs aq ?_;refine .z 1 rfl (zfa bQ) ?_;refine .y 2 rfl hs ae ?_
    first|(refine .ixv 3 rfl hs af aj ?_;intro b55 o55 hc55)|refine .z 3 rfl (zix af aj) ?_
    refine .y 4 rfl hs ae ?_;refine .z 5 rfl kM ?_;refine .z 6 rfl zm ?_
    refine .gM (t':=58) rfl (fun hb58=>?_) (fun hb58=>?_)
    ·refine .y 7 rfl hs aq ?_;refine .z 8 rfl (zfa bQ) ?_;refine .y 9 rfl hs ae ?_
     first|(refine .ixv 10 rfl hs af aj ?_;intro b62 o62 hc62)|refine .z 10 rfl (zix af aj) ?_
     refine .y 11 rfl hs ae ?_;refine .z 12 rfl (zfa dF) ?_;refine .y 13 rfl hs ae ?_;refine .z 14 rfl dP ?_;refine .y 15 rfl hs aq ?_;refine .z 16 rfl (zfa bZ) ?_;refine .y 17 rfl hs ae ?_
     first|(refine .ixv 18 rfl hs af aj ?_;intro b70 o70 hc70)|refine .z 18 rfl (zix af aj) ?_
     refine .y 19 rfl hs ae ?_;refine .z 20 rfl kM ?_;refine .z 21 rfl zpT ?_;refine .z 22 rfl zm ?_
     refine .gM (t':=74) rfl (fun hb74=>?_) (fun hb74=>?_)
     ·refine .y 23 rfl hs oH ?_;refine .z 24 rfl znc ?_;refine .z 25 rfl (zfa cK) ?_;refine .y 26 rfl hs aq ?_;refine .z 27 rfl (zfa bZ) ?_;refine .y 28 rfl hs ae ?_
      first|(refine .ixv 29 rfl hs af aj ?_;intro b81 o81 hc81)|refine .z 29 rfl (zix af aj) ?_
      refine .y 30 rfl hs ae ?_;refine .z 31 rfl sC ?_;refine .z 32 rfl zm ?_
      refine .gM (t':=84) rfl (fun hb84=>?_) (fun hb84=>?_)
      ·refine .qF (i:=33) rfl an rfl rfl ?_
       refine .qF (i:=34) rfl an rfl rfl ?_
       refine .qF (i:=35) rfl an rfl rfl ?_
       refine .qF (i:=36) rfl an rfl rfl ?_
       refine .qF (i:=37) rfl an rfl rfl ?_
       refine .qF (i:=38) rfl an rfl rfl ?_
       refine .qF (i:=39) rfl an rfl rfl ?_
       refine .qF (i:=40) rfl an rfl rfl ?_
       refine .qF (i:=41) rfl an rfl rfl ?_
       refine .z 42 rfl zpT ?_;refine .z 43 rfl zpT ?_;refine .D hs ?_
       refine (.cT ?_)
       refine .draw mix rfl hs fun w hs=>?_
       refine .y 0 rfl hs aq ?_;refine .z 1 rfl (zfa bZ) ?_;refine .y 2 rfl hs ae ?_;refine .y 3 rfl hs dJ ?_;refine .z 4 rfl (zfa bZ) ?_;refine .y 5 rfl hs ae ?_;refine .y 6 rfl hs aq ?_;refine .z 7 rfl (zfa bQ) ?_;refine .y 8 rfl hs ae ?_
       first|(refine .ixv 9 rfl hs af aj ?_;intro b105 o105 hc105)|refine .z 9 rfl (zix af aj) ?_
       refine .y 10 rfl hs ae ?_;refine .z 11 rfl (zfa dF) ?_;refine .y 12 rfl hs ae ?_;refine .z 13 rfl dP ?_
       refine .Au (i:=14) (vs:=x.v) hs rfl an .none rfl eR az ?_
       first|(refine .ixv 15 rfl hs af aj ?_;intro b111 o111 hc111)|refine .z 15 rfl (zix af aj) ?_
       refine .E 16 hs ?_
       refine .store hs rfl rfl aj ?_;intro w hs
       refine .go ?_
       first|(refine .ixw 17 rfl hs ay az ?_;intro b112 o112 hc112)|refine .z 17 rfl (zq ay az) ?_
       refine .E 18 hs ?_
       refine .aI (vs:=x.v) hs rfl rfl az ?_;intro w hs
       refine .go ?_
       refine .E 19 hs ?_
       refine .store hs rfl rfl rR ?_;intro w hs
       refine .go ?_
       refine .D hs ?_
       refine nB ?_
       have:=hW'.less hg hx hb58 hb74
       exact ⟨H3,_,HLe.refl _,hs.tail,hle23,st'.rlx x,true,rfl,hW'.u5 hg hx hb58 hb74,ak,fun _=>by omega⟩
      ·refine .y 33 rfl hs aq ?_;refine .z 34 rfl (zfa bQ) ?_;refine .y 35 rfl hs ae ?_
       first|(refine .ixv 36 rfl hs af aj ?_;intro b88 o88 hc88)|refine .z 36 rfl (zix af aj) ?_
       refine .y 37 rfl hs ae ?_;refine .z 38 rfl (zfa dF) ?_;refine .y 39 rfl hs ae ?_;refine .z 40 rfl dP ?_;refine .z 41 rfl kM ?_;refine .z 42 rfl zpF ?_;refine .z 43 rfl zpT ?_;refine .D hs ?_
       refine (.cz rfl (fun hc95=>?_) (fun hc95=>?_))
       ·refine .draw mix rfl hs fun w hs=>?_
        refine .y 0 rfl hs aq ?_;refine .z 1 rfl (zfa bZ) ?_;refine .y 2 rfl hs ae ?_;refine .y 3 rfl hs dJ ?_;refine .z 4 rfl (zfa bZ) ?_;refine .y 5 rfl hs ae ?_;refine .y 6 rfl hs aq ?_;refine .z 7 rfl (zfa bQ) ?_;refine .y 8 rfl hs ae ?_
        first|(refine .ixv 9 rfl hs af aj ?_;intro b105 o105 hc105)|refine .z 9 rfl (zix af aj) ?_
        refine .y 10 rfl hs ae ?_;refine .z 11 rfl (zfa dF) ?_;refine .y 12 rfl hs ae ?_;refine .z 13 rfl dP ?_
        refine .Au (i:=14) (vs:=x.v) hs rfl an .none rfl eR az ?_
        first|(refine .ixv 15 rfl hs af aj ?_;intro b111 o111 hc111)|refine .z 15 rfl (zix af aj) ?_
        refine .E 16 hs ?_
        refine .store hs rfl rfl aj ?_;intro w hs
        refine .go ?_
        first|(refine .ixw 17 rfl hs ay az ?_;intro b112 o112 hc112)|refine .z 17 rfl (zq ay az) ?_
        refine .E 18 hs ?_
        refine .aI (vs:=x.v) hs rfl rfl az ?_;intro w hs
        refine .go ?_
        refine .E 19 hs ?_
        refine .store hs rfl rfl rR ?_;intro w hs
        refine .go ?_
        refine .D hs ?_
        refine nB ?_
        have:=hW'.less hg hx hb58 hb74
        exact ⟨H3,_,HLe.refl _,hs.tail,hle23,st'.rlx x,true,rfl,hW'.u5 hg hx hb58 hb74,ak,fun _=>by omega⟩
       ·refine .skip ?_
        refine nB ?_
        have:=hW'.src x.t c2 ak
        omega
     ·refine .qF (i:=23) rfl an rfl rfl ?_
      refine .qF (i:=24) rfl an rfl rfl ?_
      refine .qF (i:=25) rfl an rfl rfl ?_
      refine .qF (i:=26) rfl an rfl rfl ?_
      refine .qF (i:=27) rfl an rfl rfl ?_
      refine .qF (i:=28) rfl an rfl rfl ?_
      refine .qF (i:=29) rfl an rfl rfl ?_
      refine .qF (i:=30) rfl an rfl rfl ?_
      refine .qF (i:=31) rfl an rfl rfl ?_
      refine .qF (i:=32) rfl an rfl rfl ?_
      refine .qF (i:=33) rfl an rfl rfl ?_
      refine .qF (i:=34) rfl an rfl rfl ?_
      refine .qF (i:=35) rfl an rfl rfl ?_
      refine .qF (i:=36) rfl an rfl rfl ?_
      refine .qF (i:=37) rfl an rfl rfl ?_
      refine .qF (i:=38) rfl an rfl rfl ?_
      refine .qF (i:=39) rfl an rfl rfl ?_
      refine .qF (i:=40) rfl an rfl rfl ?_
      refine .qF (i:=41) rfl an rfl rfl ?_
      refine .qF (i:=42) rfl an rfl rfl ?_
      refine .z 43 rfl zpF ?_;refine .D hs ?_
      refine (.cF ?_)
      refine .skip ?_
      refine nB ?_
      exact ⟨H3,_,HLe.refl _,hs.tail,hle23,st',ag,rfl,hW'.skip hx (fun h=>hb74 h.2),hm1,hm2⟩
    ·refine .qF (i:=7) rfl an rfl rfl ?_
     refine .qF (i:=8) rfl an rfl rfl ?_
     refine .qF (i:=9) rfl an rfl rfl ?_
     refine .qF (i:=10) rfl an rfl rfl ?_
     refine .qF (i:=11) rfl an rfl rfl ?_
     refine .qF (i:=12) rfl an rfl rfl ?_
     refine .qF (i:=13) rfl an rfl rfl ?_
     refine .qF (i:=14) rfl an rfl rfl ?_
     refine .qF (i:=15) rfl an rfl rfl ?_
     refine .qF (i:=16) rfl an rfl rfl ?_
     refine .qF (i:=17) rfl an rfl rfl ?_
     refine .qF (i:=18) rfl an rfl rfl ?_
     refine .qF (i:=19) rfl an rfl rfl ?_
     refine .qF (i:=20) rfl an rfl rfl ?_
     refine .z 21 rfl zpF ?_;refine .z 22 rfl zm ?_
     refine .qF (i:=23) rfl an rfl rfl ?_
     refine .qF (i:=24) rfl an rfl rfl ?_
     refine .qF (i:=25) rfl an rfl rfl ?_
     refine .qF (i:=26) rfl an rfl rfl ?_
     refine .qF (i:=27) rfl an rfl rfl ?_
     refine .qF (i:=28) rfl an rfl rfl ?_
     refine .qF (i:=29) rfl an rfl rfl ?_
     refine .qF (i:=30) rfl an rfl rfl ?_
     refine .qF (i:=31) rfl an rfl rfl ?_
     refine .qF (i:=32) rfl an rfl rfl ?_
     refine .qF (i:=33) rfl an rfl rfl ?_
     refine .qF (i:=34) rfl an rfl rfl ?_
     refine .qF (i:=35) rfl an rfl rfl ?_
     refine .qF (i:=36) rfl an rfl rfl ?_
     refine .qF (i:=37) rfl an rfl rfl ?_
     refine .qF (i:=38) rfl an rfl rfl ?_
     refine .qF (i:=39) rfl an rfl rfl ?_
     refine .qF (i:=40) rfl an rfl rfl ?_
     refine .qF (i:=41) rfl an rfl rfl ?_
     refine .qF (i:=42) rfl an rfl rfl ?_
     refine .z 43 rfl zpF ?_;refine .D hs ?_
     refine (.cF ?_)
     refine .skip ?_
     refine nB ?_
     exact ⟨H3,_,HLe.refl _,hs.tail,hle23,st',ag,rfl,hW'.skip hx (fun h=>hb58 h.1),hm1,hm2⟩
   ·rintro D3 H3 σb3 w hle3 ⟨hle23,st',ag,rfl,hW',hm1,hm2⟩ hs
    replace hs:St H3 w (.blk b9 [.bool ag]:: .blk b6 [.slice (some ⟨b27,0,none⟩) (N+1) (N+1)]:: .blk b27 (fX st'.by_):: .blk b5 [.slice (some ⟨bc,0,none⟩) (N+1) (N+1)]:: .blk bc (Is st'.cost):: .blk b2 [.pointer (some ⟨bf,0,none⟩)]::(mes (D3::Ds)++σ)):=St.deep (σ1:=[_,_,_,_,_,_]) hs
    rw [List.length_map] at hW'
    refine nB (nB (nT ?_))
    refine .ai (.y hs (zld Tryz.isAgg4) (.nil (.region ?_)))
    refine .o (.alloc hs Tryz.zeroValue4 rfl fun b9 w hs=>?_)
    refine .o (.store hs rfl rfl rR fun w hs=>?_)
    refine .nil ?_
    refine nT ?_
    exact ⟨(b9,D3::Ds,H3,st',ag),bS,⟨hle1.trans (hle2.trans hle3),⟨_,hW',fun _=>rfl⟩,hs.sb⟩,by
      dsimp only
      cases ag with
      |false=>simp;omega
      |true=>have:=hm2 rfl;simp;omega⟩
  ·refine .exit ?_
   refine xT (xT (xB (nT ?_)))
   refine .seq (.ai ?_)
   subst hc48
   obtain rfl:=hj rfl
   refine .y hs (zld aq) (.z zm ?_)
   first|(refine .ixv hs af aj ?_;intro b116 o116 hc116)|refine .z (zix af aj) ?_
   refine .y hs (zld ae) (.z iP (.nil ?_))
   refine (.cz rfl (fun hc118=>?_) (fun hc118=>?_))
   ·refine .ai (.z zg (.nil ?_))
    refine .ret (rT (?_))
    refine Fin.gQ Ds [_,_,_,_,_,_] hs fun w hs=>⟨_,results1 Tryz.results272 rfl,H1,[],.nul,hle1,.nil 4 none,(hs.sb).nul,hW.none hg hc118⟩
   ·refine .skip ?_
    refine nT ?_
    refine .ai (.z zg (.nil (.seq (.ai (.z zm (.z zg (.nil (.block ?_))))))))
    have hreach:gi st.cost to<far:=by have:=hW.top to hto;have e:far=1152921504606846976:=rfl;omega
    obtain ⟨kk,cc,u,hbk,hroot,hkn,hk0,hcl,hway⟩:=hW.back hg hto hreach hpos
    refine .loop (fun p:Nat×Nat×Value×Ent=>⟨141,marks Ds,[(11,p.2.2.1),(12,I p.2.1),(6,.pointer (some ⟨b6,0,none⟩))]⟩)
     (fun p w=>p.1≤kk∧(p.2.1<N+1∧gi st.cost p.2.1<far)∧cR 4 p.2.2.1 (fX (kv st.by_ to p.1)) p.2.2.2∧(∃d,ee st.by_ to p.1 d p.2.1)∧(∃d,ee st.by_ p.2.1 (kk - p.1) d u)∧
      St H1 w (p.2.2.2:: .blk b9 [.bool false]:: .blk b6 [.slice (some ⟨b27,0,none⟩) (N+1) (N+1)]:: .blk b27 (fX st.by_):: .blk b5 [.slice (some ⟨bc,0,none⟩) (N+1) (N+1)]:: .blk bc (Is st.cost):: .blk b2 [.pointer (some ⟨bf,0,none⟩)]::(mes Ds++σ)))
     (fun p=>kk - p.1) (0,to,.slice none 0 0,.nul) bS ⟨Nat.zero_le _,⟨hto,hreach⟩,.nil 4 none,⟨0,.nil⟩,⟨cc,hbk⟩,hs.nul⟩ ?_
    rintro ⟨i,v,v11,en⟩ w ⟨hik,⟨hv1,hv2⟩,hO,⟨d1,hb1⟩,⟨d2,hb2⟩,hs⟩
    dsimp only at hik hv1 hv2 hO hb1 hb2 hs ⊢
    have hvb:v<st.by_.length:=by omega
    refine .seq (.ai (.y hs (zld dJ) (.z zm ?_)))
    first|(refine .ixw hs ay az ?_;intro b122 o122 hc122)|refine .z (zq ay az) ?_
    refine .z (zfa cJ) ?_
    refine .q hs (iD rfl ae (hv:=(oC hvb (j:=3) ak).trans rfl)) ?_
    refine .z sC (.nil ?_)
    refine (.cz rfl (fun hc125=>?_) (fun hc125=>?_))
    ·refine .skip ?_
     refine nT ?_
     refine .seq (.block (.region (.z zm (.y hs (zld dJ) (.z zm ?_)))))
     first|(refine .ixw hs ay az ?_;intro b134 o134 hc134)|refine .z (zq ay az) ?_
     refine .q hs (iC (vs:=(ga st.by_ v).v) rfl eR az (hv:=yD hvb)) ?_
     refine .o (.buildSlice (cells:=(ga st.by_ v).v) hs nb rfl rfl fun b136 w hs=>?_)
     refine .o (.append (ys:=(ga st.by_ v).v) hs ir rfl rfl hO (.own .here rfl rfl) (by simp [Arc.v,Value.oneCell']) (fun l h=>by rw [cH,gD] at h;omega) ?_);intro v137 en137 w hO2 hs
     refine .z zg (.nil ?_)
     refine nB (nT ?_)
     refine .region (.y hs (zld dJ) (.z zm ?_))
     first|(refine .ixw hs ay az ?_;intro b128 o128 hc128)|refine .z (zq ay az) ?_
     refine .z (zfa bQ) ?_
     refine .q hs (iD rfl ae (hv:=(oC hvb (j:=0) ak).trans rfl)) ?_
     refine .z zg (.nil ?_)
     refine nT ?_
     obtain ⟨g1,g2⟩:=hcl v hv1 hv2 hc125
     obtain ⟨m,hm⟩:∃m,kk - i=m+1:=by
      refine ⟨kk - i - 1,?_⟩
      rcases Nat.lt_or_ge i kk with h|h
      ·omega
      ·obtain e:kk - i=0:=by omega
       rw [e] at hb2
       cases hb2
       omega
     rw [hm] at hb2
     obtain ⟨d3,hb3⟩:∃d,ee st.by_ (ga st.by_ v).f m d u:=by cases hb2 with|cons _ t=>exact ⟨_,t⟩
     rw [←Bh,←yI hb1] at hO2
     exact ⟨(i+1,(ga st.by_ v).f,v137,en137),bS,⟨by dsimp only;omega,⟨g1,g2⟩,hO2,⟨_,hb1.trans (.cons hc125 .nil)⟩,⟨d3,by rw [show kk - (i+1)=m by omega];exact hb3⟩,hs.sb⟩,by dsimp only;omega⟩
    ·refine .exit ?_
     refine xT (xT (xB (nT ?_)))
     refine .ai ?_
     obtain rfl:i=kk:=by
      rcases Nat.lt_or_ge i kk with h|h
      ·obtain ⟨m,hm⟩:∃m,kk - i=m+1:=⟨kk - i - 1,ak⟩
       rw [hm] at hb2
       cases hb2 with
       |cons hl _=>omega
      ·omega
     refine .z zm ?_
     refine .o (.call Tryz.call297 rfl (mN hs hO (by rw [gD];omega)) ?_);rintro v139 w ⟨en',hO',hs⟩
     refine .nil (.ai (.z zm (.z zg (.nil ?_))))
     refine .ret ?_
     refine Fin.gQ Ds [_,_,_,_,_,_,_] hs fun w hs=>⟨_,results1 Tryz.results272 rfl,H1,_,en',hle1,hO',hs.sb,hway _ rfl⟩
theorem yA{s:bq}{x:Arc}(hok:s.Ok)(hx:zh s.bT x):∃(i:Nat) (l:Lim),s.bD[i]? =some l∧x.l=(i:Int)∧(l.A=(x.f:Int)↔fwd s.bT x)∧i<s.bD.length:=by
 obtain ⟨i,y,h1,h2⟩:=hx
 have hl:=oA h1
 have hlt:i<s.bD.length:=by have:=(List.getElem?_eq_some_iff.1 h1).1;simpa [bq.bT,dS] using this
 obtain ⟨l,hl2⟩:=nth hlt
 have h3:=jH hl2
 have h1':(mA s.bD)[i]? =some y:=h1
 rw [h3] at h1'
 cases h1'
 obtain ⟨a1,a2,_⟩:=hok.arc (List.mem_of_getElem? hl2) i
 refine ⟨i,l,hl2,?_,?_,hlt⟩
 ·rcases h2 with rfl|rfl<;>rfl
 ·have hg:ga s.bT i=l.arc i:=by simp [ga,bq.bT,h3]
  have hxl:x.l.toNat=i:=by rcases h2 with rfl|rfl<;>rfl
  unfold fwd
  rw [hxl,hg,←a1]
  exact ⟨fun e=>by exact_mod_cast e,fun e=>by exact_mod_cast e⟩
theorem gK{bf:Nat}{s:bq}{vl vt vd:Value}{x:Arc}(hs:St H w σ)(hok:s.Ok)(hf:Row H bf [I s.many,vl,vt,vd])(hl:RL H vl s.bD)(hx:zh s.bT x):
  Cl Tryz.prog 298 [.pointer (some ⟨bf,0,none⟩),.agg x.v.toArray] w fun v w'=>v= .bool (decide (fwd s.bT x))∧St H w' σ:=by
 obtain ⟨i,l,hl1,hxl,hfw,hil⟩:=yA hok hx
 have hf1:cellAt H bf 1=some vl:=hf.at 1
 refine Cl.o Tryz.func298 Tryz.ntmps298 ag2 ?_
 refine .ai ?_
 refine .bx hs fun b3 w hs=>?_
 refine .z zg (.nil ?_)
 refine .seq (.draw mix rfl hs fun w hs=>?_)
 refine .z 0 rfl zm ?_;refine .z 1 rfl znc ?_;refine .z 2 rfl (zfa ec) ?_;refine .z 3 rfl (zfa bR) ?_;refine .y 4 rfl hs dw ?_;refine .z 5 rfl (zfa cJ) ?_;refine .y 6 rfl hs ae ?_
 refine .ixX (i:=7) hs rfl an .none hl rfl rfl aK aW hl1 hxl ?_;intro b12 o12 hc12
 have hA:cellAt H b12 o12=some (I l.A):=hc12.get 0 rfl
 refine .z 8 rfl (zfa eJ) ?_;refine .y 9 rfl hs ae ?_;refine .z 10 rfl (zfa bQ) ?_;refine .y 11 rfl hs ae ?_;refine .z 12 rfl iP ?_;refine .z 13 rfl zg ?_;refine .D hs ?_
 refine .ret (Fin.bg Tryz.results298 rfl ?_)
 exact ⟨by simp only [decide_eq_decide.2 hfw],hs.out⟩
theorem l5{bf bt bl cl u v:Nat}{s:bq}{ts lf:List Int}{wt:Nat→Int}{vl vp:Value}{sp:List Value}{p:List Arc}(hs:St H w (.blk bt (Is ts):: .blk bl (Is lf++sp)::σ))(hok:s.Ok)
  (hf:Row H bf [I s.many,vl,.slice (some ⟨bt,0,none⟩) ts.length ts.length,.slice (some ⟨bl,0,none⟩) lf.length cl]) (hl:RL H vl s.bD) (hp:RS H 4 vp (p.map Arc.v)) (hI:uB s.n s.bT wt ts lf) (hw:DX s.bT ts lf s.n p u v) (hpn:p≠[]) (hpl:p.length<s.n):
  Cl Tryz.prog 273 [.pointer (some ⟨bf,0,none⟩),vp] w fun _ w'=>St H w' (.blk bt (Is (eo s.bT (pG s.bT ts lf p u v) ts p)):: .blk bl (Is (xb lf (pG s.bT ts lf p u v) u v)++sp)::σ):=by
 have hN1:=hok.m1
 have hn65:s.n≤65:=by simp only [bq.n];have:=hok.m0;omega
 have hnum:xx s.bT:=fun i x hx=>⟨oA hx,(hok.bT.2 x (List.mem_of_getElem? hx)).2.2.2.2.2⟩
 have hlt:=hI.lt
 have hll:=hI.ll
 obtain ⟨m0,m1,m2,m3⟩:=tE hlt.symm hnum hw
 have hsu:=hI.sg u hw.un
 have hsv:=hI.sg v hw.vn
 have hun:u<lf.length:=by rw [hll];exact hw.un
 have hvn:v<lf.length:=by rw [hll];exact hw.vn
 obtain ⟨a,cap,hvp⟩:=hp.shape
 rw [List.length_map] at hvp
 subst hvp
 have hp0:0<p.length:=List.length_pos_iff.2 hpn
 obtain ⟨x0,hx0⟩:=nth hp0
 obtain ⟨x1,hx1⟩:=nth (l:=p) (k:=p.length - 1) ak
 have hh:=hw.ch.head hx0
 have hla:=hw.ch.last hx1
 have hf2:cellAt H bf 2=some (.slice (some ⟨bt,0,none⟩) ts.length ts.length):=hf.at 2
 have hf3:cellAt H bf 3=some (.slice (some ⟨bl,0,none⟩) lf.length cl):=hf.at 3
 have hix:∀x∈p,zh s.bT x∧x.l.toNat<ts.length∧x.l=(x.l.toNat:Int):=fun x hx=>by
  obtain ⟨g1,g2,_⟩:=jN hlt.symm hnum (hw.mem x hx)
  obtain ⟨i,l,_,g3,_⟩:=yA hok g1
  exact ⟨g1,g2,by rw [g3];simp⟩
 simp only [FF] at hsu hsv
 have huv:v≠u:=fun e=>by have:=hw.lu;have:=hw.lv;rw [e] at*;omega
 have htt:∀i<ts.length,0≤gi ts i∧gi ts i≤3600000000000:=fun i hi=>by
  have h1:=hI.nn i ak
  have h2:=hI.tb i ak
  have h3:0≤rem s.n lf:=bV fun v _=>by omega
  simp only [FF] at h2
  omega
 have hM:pG s.bT ts lf p u v=least s.bT ts (min (-gi lf u) (gi lf v)) p:=rfl
 generalize pG s.bT ts lf p u v=M at*
 have hgv:gi (lf.set u (gi lf u+M)) v=gi lf v:=by rw [ep hun,if_neg huv]
 refine Cl.o Tryz.func273 Tryz.ntmps273 ag2 ?_
 refine .seq (.draw mix rfl hs fun w hs=>?_)
 refine .z 0 rfl zm ?_
 refine .ixX (i:=1) hs rfl an .none hp rfl rfl ay az hx0 rfl ?_;intro b12 o12 hc12
 have h14:cellAt H b12 (o12+0)=some (I u):=by rw [←hh];exact hc12.get 0 rfl
 refine .z 2 rfl (zfa bQ) ?_;refine .y 3 rfl hs ae ?_;refine .z 4 rfl zm ?_;refine .z 5 rfl zm ?_;refine .z 6 rfl (dp ay) ?_;refine .z 7 rfl fu ?_
 refine .ixX (i:=8) hs rfl an .none hp rfl rfl ay az hx1 ak ?_;intro b19 o19 hc19
 have h21:cellAt H b19 (o19+1)=some (I v):=by rw [←hla];exact hc19.get 1 rfl
 refine .z 9 rfl (zfa bZ) ?_;refine .y 10 rfl hs ae ?_;refine .z 11 rfl zg ?_;refine .z 12 rfl zg ?_;refine .D hs ?_
 refine .seq (.draw mix rfl hs fun w hs=>?_)
 refine .z 0 rfl zm ?_;refine .z 1 rfl znc ?_;refine .z 2 rfl (zfa cK) ?_;refine .y 3 rfl hs aq ?_;refine .z 4 rfl zm ?_
 first|(refine .ixv 5 rfl hs af aj ?_;intro b27 o27 hc27)|refine .z 5 rfl (zix af aj) ?_
 refine .load (i:=6) hs rfl an .none rfl ae ?_ (hv:=ew hun sp)
 refine .z 7 rfl CL ?_;refine .z 8 rfl zm ?_;refine .z 9 rfl znc ?_;refine .z 10 rfl (zfa cK) ?_;refine .y 11 rfl hs aq ?_;refine .z 12 rfl zm ?_
 first|(refine .ixv 13 rfl hs af aj ?_;intro b35 o35 hc35)|refine .z 13 rfl (zix af aj) ?_
 refine .load (i:=14) hs rfl an .none rfl ae ?_ (hv:=ew hvn sp)
 refine .z 15 rfl CM ?_;refine .z 16 rfl zg ?_;refine .D hs ?_
 refine .seq (.ai (.z zm (.z (dp ay) (.z zm (.nil ?_)))))
 refine .for (N:=p.length) (J:=fun k fr w=>fr=[(38,.slice a p.length cap),(6,I (least s.bT ts (min (-gi lf u) (gi lf v)) (p.take k))),(0,.pointer (some ⟨bf,0,none⟩)),(1,.slice a p.length cap),(4,I u),(5,I v)]∧St H w (.blk bt (Is ts):: .blk bl (Is lf++sp)::σ)) ak ?_ ?_ ?_
 ·exact .mk ⟨rfl,hs⟩
 ·rintro k fr w hk ⟨rfl,hs⟩
  obtain ⟨x,hx⟩:=nth hk
  obtain ⟨g1,g2,g3⟩:=hix x (List.mem_of_getElem? hx)
  refine .block (.ai ?_)
  refine .ixX hs hp rfl rfl ay az hx rfl ?_;intro b42 o42 hc42
  refine .q hs (bG (vs:=x.v) rfl eR az hc42) ?_
  refine .o (.alloc hs cV rfl fun b8 w hs=>?_)
  refine .o (.aI (vs:=x.v) hs rfl rfl az fun w hs=>?_)
  refine .nil (.ai (.z zm ?_))
  refine .q hs (iC (vs:=x.v) rfl eR az) ?_
  refine .o (.call Tryz.call298 rfl (gK hs hok hf hl g1) ?_);rintro _ w ⟨rfl,hs⟩
  refine .z eL (.nil ?_)
  refine (.cond rfl (fun hc47=>?_) (fun hc47=>?_))
  ·refine .draw mix rfl hs fun w hs=>?_
   refine .z 0 rfl zm ?_;refine .z 1 rfl zm ?_;refine .z 2 rfl znc ?_;refine .z 3 rfl (zfa eW) ?_;refine .y 4 rfl hs aq ?_;refine .z 5 rfl (zfa cJ) ?_;refine .y 6 rfl hs ae ?_
   refine .z 7 rfl (kD (k:=x.l.toNat) rfl rfl af aj g3 g2) ?_
   refine .y 8 rfl hs ae ?_;refine .z 9 rfl CM ?_;refine .z 10 rfl zg ?_;refine .D hs ?_
   refine nB (nT ?_)
   have e:min (least s.bT ts (min (-gi lf u) (gi lf v)) (p.take k)) (gi ts x.l.toNat)=least s.bT ts (min (-gi lf u) (gi lf v)) (p.take (k+1)):=by rw [bU hx,sV,if_neg (by simpa using hc47)]
   exact .mk ⟨rfl,hs.tail⟩ (hs:= .cons rfl (.cons rfl (.cons rfl (.eP rfl e (.cons rfl (.cons rfl (.cons rfl (.cons rfl (.nil rfl rfl)))))))))
  ·refine .skip ?_
   refine nB (nT ?_)
   have e:least s.bT ts (min (-gi lf u) (gi lf v)) (p.take k)=least s.bT ts (min (-gi lf u) (gi lf v)) (p.take (k+1)):=by rw [bU hx,sV,if_pos (by simpa using hc47)]
   exact .mk ⟨rfl,hs.tail⟩ (hs:= .cons rfl (.cons rfl (.cons rfl (.eP rfl e (.cons rfl (.cons rfl (.cons rfl (.cons rfl (.nil rfl rfl)))))))))
 ·rintro fr w ⟨rfl,hs⟩
  have e6:least s.bT ts (min (-gi lf u) (gi lf v)) (List.take p.length p)=M:=by rw [List.take_length];exact hM.symm
  rw [e6]
  refine nT ?_
  refine .seq (.ai (.z zm (.z (dp ay) (.z zm (.nil ?_)))))
  refine .for (N:=p.length) (J:=fun k fr w=>fr=[(59,.slice a p.length cap),(6,I M),(0,.pointer (some ⟨bf,0,none⟩)),(1,.slice a p.length cap),(4,I u),(5,I v)]∧St H w (.blk bt (Is (eo s.bT M ts (p.take k))):: .blk bl (Is lf++sp)::σ)) ak ?_ ?_ ?_
  ·exact .mk ⟨rfl,hs⟩
  ·rintro k fr w hk ⟨rfl,hs⟩
   obtain ⟨x,hx⟩:=nth hk
   obtain ⟨g1,g2,g3⟩:=hix x (List.mem_of_getElem? hx)
   have hpl2:=jK s.bT M (p.take k) ts
   have hbd:=Ai (es:=s.bT) (m:=M) (ts:=ts) (p:=p.take k) ak (by simp only [FF];omega) (by rw [List.length_take];omega) (fun y hy=>(hix y (List.mem_of_mem_take hy)).2.1) x.l.toNat
   have h9:=htt _ g2
   refine .block (.ai ?_)
   refine .ixX hs hp rfl rfl ay az hx rfl ?_;intro b63 o63 hc63
   refine .q hs (bG (vs:=x.v) rfl eR az hc63) ?_
   refine .o (.alloc hs cV rfl fun b10 w hs=>?_)
   refine .o (.aI (vs:=x.v) hs rfl rfl az fun w hs=>?_)
   refine .nil (.ai (.z zm ?_))
   refine .q hs (iC (vs:=x.v) rfl eR az) ?_
   refine .o (.call Tryz.call298 rfl (gK hs hok hf hl g1) ?_);rintro _ w ⟨rfl,hs⟩
   refine .nil ?_
   refine (.cond rfl (fun hc67=>?_) (fun hc67=>?_))
   ·refine .draw mix rfl hs fun w hs=>?_
    refine .z 0 rfl zm ?_;refine .z 1 rfl znc ?_;refine .z 2 rfl (zfa eW) ?_;refine .y 3 rfl hs aq ?_;refine .z 4 rfl (zfa cJ) ?_;refine .y 5 rfl hs ae ?_
    refine .z 6 rfl (kD (k:=x.l.toNat) rfl rfl af aj g3 g2) ?_
    refine .y 7 rfl hs ae ?_;refine .z 8 rfl zm ?_;refine .z 9 rfl dP ?_
    refine .z 10 rfl (kD (k:=x.l.toNat) rfl rfl af aj g3 g2) ?_
    refine .E 11 hs ?_
    refine .store hs rfl rfl aj ?_;intro w hs
    refine .go ?_
    refine .D hs ?_
    refine nB (nT ?_)
    have e:eo s.bT M ts (p.take (k+1))=(eo s.bT M ts (p.take k)).set x.l.toNat (gi (eo s.bT M ts (p.take k)) x.l.toNat+M):=by rw [bU hx,qY,push,if_pos (by simpa using hc67)]
    exact .mk ⟨rfl,by rw [e];exact hs.tail⟩
   ·refine .draw mix rfl hs fun w hs=>?_
    refine .z 0 rfl zm ?_;refine .z 1 rfl znc ?_;refine .z 2 rfl (zfa eW) ?_;refine .y 3 rfl hs aq ?_;refine .z 4 rfl (zfa cJ) ?_;refine .y 5 rfl hs ae ?_
    refine .z 6 rfl (kD (k:=x.l.toNat) rfl rfl af aj g3 g2) ?_
    refine .y 7 rfl hs ae ?_;refine .z 8 rfl zm ?_;refine .z 9 rfl fu ?_
    refine .z 10 rfl (kD (k:=x.l.toNat) rfl rfl af aj g3 g2) ?_
    refine .E 11 hs ?_
    refine .store hs rfl rfl aj ?_;intro w hs
    refine .go ?_
    refine .D hs ?_
    refine nB (nT ?_)
    have e:eo s.bT M ts (p.take (k+1))=(eo s.bT M ts (p.take k)).set x.l.toNat (gi (eo s.bT M ts (p.take k)) x.l.toNat - M):=by rw [bU hx,qY,push,if_neg (by simpa using hc67)]
    exact .mk ⟨rfl,by rw [e];exact hs.tail⟩
  ·rintro fr w ⟨rfl,hs⟩
   rw [List.take_length] at hs
   refine nT ?_
   refine .ai (.z zm (.z znc (.z (zfa cK) (.y hs (zld aq) (.z zm ?_)))))
   first|(refine .ixv hs af aj ?_;intro b96 o96 hc96)|refine .z (zix af aj) ?_
   refine .q hs (iD rfl ae (hv:=ew hun sp)) ?_
   refine .z zm (.z dP ?_)
   first|(refine .ixv hs af aj ?_;intro b100 o100 hc100)|refine .z (zix af aj) ?_
   refine .o (.store hs rfl rfl aj ?_ eF (lx hun sp) (iO hun sp _));intro w hs
   refine .nil (.region (.z zm (.z znc (.z (zfa cK) (.y hs (zld aq) (.z zm ?_))))))
   first|(refine .ixv hs af aj ?_;intro b106 o106 hc106)|refine .z (zix af aj) ?_
   refine .q hs (iD rfl ae (hv:=ew (by rw [List.length_set];exact hvn) sp)) ?_
   refine .z zm (.z fu ?_)
   first|(refine .ixv hs af aj ?_;intro b110 o110 hc110)|refine .z (zix af aj) ?_
   refine .o (.store hs rfl rfl aj ?_ eF (lx (by rw [List.length_set];exact hvn) sp) (iO (by rw [List.length_set];exact hvn) sp _));intro w hs
   refine .nil ?_
   exact Fin.vR Tryz.results273 hs
theorem Ax{w:List Int}{N k:Nat}(hw:w.length=N+1):gi (w.set 0 (-ja w k)) 0 - gi (w.set 0 (-ja w k)) (k+1)= -ja w (k+1):=by
 rw [ep ak,ep ak,if_pos rfl,if_neg ak]
 simp only [ja,aE];omega
theorem rm{v vw:Value}{s:bq}{ws:List Int}(hs:St H w σ)(hok:s.Ok)(hr:RSy H v s)(hrw:RI H vw ws)(hwl:ws.length=s.n)(hsz:eG ws)(hsnd:s.Sound):
  Cl Tryz.prog 224 [v,vw] w fun v w'=>(v= .tuple #[.pointer none,.bool false]∧mc s.bT (nk ws s.n) s.n∧St H w' σ)∨
   (∃H1 bf bt bl cl ts lf vl sp,HLe H H1∧v= .tuple #[.pointer (some ⟨bf,0,none⟩),.bool true]∧sw H1 bf s ts lf vl bt bl cl sp∧pQ s.n s.bT (nk ws s.n) ts∧St H1 w' σ):=by
 obtain ⟨vl,rfl,hr⟩:=hr
 obtain ⟨al,cpl,rfl⟩:=RL.shape hr
 obtain ⟨aw,cw,rfl⟩:=RI.shape hrw
 obtain ⟨N,hN⟩:=Int.eq_ofNat_of_zero_le hok.m0
 have hN1:=hok.m1
 have hn:s.n=N+1:=by simp [bq.n,hN]
 have hlim:=hok.len
 have hoka:=hok.bT
 have hal:s.bT.length=s.bD.length:=by simp [bq.bT,dS]
 have hnum:xx s.bT:=fun i x hx=>⟨oA hx,(hok.bT.2 x (List.mem_of_getElem? hx)).2.2.2.2.2⟩
 have hin:∀x∈s.bT,x.f<s.n∧x.t<s.n:=fun x hx=>by have:=hoka.2 x hx;omega
 have hwt0:=CO ws (n:=s.n) ak
 unfold eG at hsz
 rw [hwl] at hsz
 refine Cl.o Tryz.func224 Tryz.ntmps224 ag2 ?_
 refine .ai ?_
 refine .bx hs fun b2 w hs=>?_
 refine .z zg (.z zg (.nil ?_))
 refine .scope ?_
 refine .cut (fun fs w=>∃bf bt bl cl sp,kq fs ⟨73,[],[(6,.pointer (some ⟨bf,0,none⟩))]⟩∧St H w (.blk bf [I s.many,.slice al s.bD.length cpl,.slice (some ⟨bt,0,none⟩) s.bD.length s.bD.length,.slice (some ⟨bl,0,none⟩) ws.length cl]:: .blk bt (Is (List.replicate s.bD.length 0)):: .blk bl (Is ws++sp)::σ)) ?_ ?_
 ·refine .draw mix rfl hs fun w hs=>?_
  refine .ys 0 rfl hs [_,_] bh aC ?_;refine .z 1 rfl (zfa bR) ?_;refine .y 2 rfl hs dw ?_;refine .z 3 rfl (dp aK) ?_;refine .z 5 rfl zm ?_
  refine .e2 (i:=4) (j:=6) an rfl rfl rfl rfl .none .none hs ?_ ?_
  ·refine .w9 s.bD.length hs rfl rfl af iS rfl aj bA ak ?_;intro b15 w hs
   refine .go ?_
   refine .E 6 hs ?_
   refine .call Tryz.call171 rfl (j6 hs hrw ak) ?_;rintro v17 w ⟨en17,hO,hs⟩
   obtain ⟨bl,cl,sp,rfl,rfl,hsp⟩:=hO.some ak
   refine .go ?_
   refine .z 7 rfl (zbd [_,_,_,_] mw) ?_
   refine .E 8 hs ?_
   refine .box hs rfl rfl ?_;intro b19 w hs
   refine .go ?_
   refine .z 9 rfl zg ?_;refine .D hs ?_
   exact nT ⟨b19,b15,bl,cl,sp,bS,hs.sb⟩
  ·refine .call Tryz.call171 rfl (j6 hs hrw ak) ?_;rintro v17 w ⟨en17,hO,hs⟩
   obtain ⟨bl,cl,sp,rfl,rfl,hsp⟩:=hO.some ak
   refine .go ?_
   refine .E 4 hs ?_
   refine .w9 s.bD.length hs rfl rfl af iS rfl aj bA ak ?_;intro b15 w hs
   refine .go ?_
   refine .z 7 rfl (zbd [_,_,_,_] mw) ?_
   refine .E 8 hs ?_
   refine .box hs rfl rfl ?_;intro b19 w hs
   refine .go ?_
   refine .z 9 rfl zg ?_;refine .D hs ?_
   exact nT ⟨b19,b15,bl,cl,sp,bS,hs.sb⟩
 ·rintro fs w ⟨bf,bt,bl,cl,sp,hfs,hs⟩
  refine WE.sub ?_ hfs
  obtain ⟨H1,hle1,hRf,hs⟩:=hs.ck .here
  have hf0:cellAt H1 bf 0=some (I (N:Int)):=by have:=hRf.at 0 (v:=I s.many);rwa [hN] at this
  have hf3:cellAt H1 bf 3=some (.slice (some ⟨bl,0,none⟩) ws.length cl):=hRf.at 3
  have hrl:=hr.mono hle1
  refine .ai (.z zm (.z znc (.z (zfa cK) (.y hs (zld aq) ?_))))
  refine .q hs (kD (k:=0) rfl rfl af aj rfl ak) ?_
  refine .o (.store hs rfl rfl aj ?_ eF (lx ak sp) (iO ak sp _));intro w hs
  refine .nil (.seq (.ai (.z zm (.z znc (.z (zfa ec) (.z (zfa bL) (.y hs (zld ae) (.z zm (.nil ?_)))))))))
  refine .for (N:=N) (J:=fun k fr w=>fr=[(6,.pointer (some ⟨bf,0,none⟩))]∧St H1 w (.blk bt (Is (List.replicate s.bD.length 0)):: .blk bl (Is (ws.set 0 (-ja ws k))++sp)::σ)) ak ?_ ?_ ?_
  ·exact .mk ⟨rfl,by simpa [ja,aE] using hs⟩
  ·rintro k fr w hk ⟨rfl,hs⟩
   have e:=Ax (w:=ws) (N:=N) (k:=k) ak
   have hb1:=sI ws (k+1)
   have hb2:aU ws (k+1+1)≤aU ws s.n:=oP (fun v=>by omega) ak
   simp only [FF] at hsz
   refine .block (.ai (.z zm (.z zg (.nil ?_))))
   refine .draw mix rfl hs fun w hs=>?_
   refine .z 0 rfl zm ?_;refine .z 1 rfl znc ?_;refine .z 2 rfl (zfa cK) ?_;refine .y 3 rfl hs aq ?_
   refine .z 4 rfl (kD (k:=0) rfl rfl af aj rfl ak) ?_
   refine .load (i:=5) hs rfl an .none rfl ae ?_ (hv:=ew (by rw [List.length_set];omega) sp)
   refine .z 6 rfl zm ?_;refine .z 7 rfl znc ?_;refine .z 8 rfl (zfa cK) ?_;refine .y 9 rfl hs aq ?_;refine .z 10 rfl zm ?_;refine .z 11 rfl dP ?_
   refine .z 12 rfl (kD (k:=k+1) rfl rfl af aj ak ak) ?_
   refine .load (i:=13) hs rfl an .none rfl ae ?_ (hv:=ew (by rw [List.length_set];omega) sp)
   refine .z 14 rfl fu ?_
   refine .z 15 rfl (kD (k:=0) rfl rfl af aj rfl ak) ?_
   refine .E 16 hs ?_
   refine .store hs rfl rfl aj ?_ eF (lx (by rw [List.length_set];omega) sp) (iO (by rw [List.length_set];omega) sp _);intro w hs
   refine .go ?_
   refine .D hs ?_
   refine nB (nT ?_)
   rw [e,List.set_set] at hs
   exact .mk ⟨rfl,hs⟩
  ·rintro fr w ⟨rfl,hs⟩
   have hI0:uB s.n s.bT (nk ws s.n) (List.replicate s.bD.length 0) (ws.set 0 (-ja ws N)):=by
    rw [←hal,hn]
    rw [hn] at hsz
    refine uB.start hsz (by rw [List.length_set];omega) (fun v hv=>?_) hsnd
    rw [ep ak]
    cases v with
    |zero=>rw [if_pos rfl,wF]
    |succ v=>rw [if_neg ak,wG]
   refine nT ?_
   refine .seq ?_
   refine .label ?_
   refine nT ?_
   refine .block ?_
   refine .loop (fun _:bp×List Int×List Int=>⟨73,[],[(6,.pointer (some ⟨bf,0,none⟩))]⟩)
    (fun p w=>HLe H1 p.1∧uB s.n s.bT (nk ws s.n) p.2.1 p.2.2∧St p.1 w (.blk bt (Is p.2.1):: .blk bl (Is p.2.2++sp)::σ)) (fun p=>(rem s.n p.2.2).toNat) (H1,List.replicate s.bD.length 0,ws.set 0 (-ja ws N))
    bS ⟨HLe.refl _,hI0,hs⟩ ?_
   rintro ⟨H2,ts,lf⟩ w ⟨hle2,hI,hs⟩
   dsimp only at hle2 hI hs ⊢
   have hlt:=hI.lt
   have hll:=hI.ll
   have hRf2:Row H2 bf [I s.many,.slice al s.bD.length cpl,.slice (some ⟨bt,0,none⟩) ts.length ts.length,.slice (some ⟨bl,0,none⟩) lf.length cl]:=by
    rw [hlt,hal,hll,←hwl];exact hRf.mono hle2
   have hf32:cellAt H2 bf 3=some (.slice (some ⟨bl,0,none⟩) lf.length cl):=hRf2.at 3
   refine .block (.seq (.ai (.z zm (.z znc (.z (zfa cK) (.y hs (zld aq) (.z (dp af) (.z zm (.nil ?_)))))))))
   refine .for (N:=lf.length) (J:=fun k fr w=>fr=[(53,.slice (some ⟨bl,0,none⟩) lf.length cl),(6,.pointer (some ⟨bf,0,none⟩))]∧(∀v<k,gi lf v≤0)∧St H2 w (.blk bt (Is ts):: .blk bl (Is lf++sp)::σ)) ak ?_ ?_ ?_
   ·exact .mk ⟨rfl,fun v hv=>by omega,hs⟩
   ·rintro k fr w hk ⟨rfl,hle0,hs⟩
    refine .block (.ai (.z zm ?_))
    first|(refine .ixv hs af aj ?_;intro b58 o58 hc58)|refine .z (zix af aj) ?_
    refine .q hs (iD rfl ae (hv:=ew hk sp)) ?_
    refine .z zg (.z zg (.nil (.seq (.ai (.z zm (.z oJ (.nil ?_)))))))
    refine (.cz rfl (fun hc61=>?_) (fun hc61=>?_))
    ·refine .exit ?_
     refine xT (xB (nT ?_))
     exact .mk ⟨rfl,fun v hv=>by
       by_cases e:v=k
       ·subst e;exact hc61
       ·exact hle0 v ak,hs⟩
    ·refine .skip ?_
     refine nT ?_
     refine .ai (.z zm (.z zm ?_))
     obtain ⟨Ha,hla,hra,hsa,-,hba⟩:=hs.GU
     obtain ⟨Hb,hlb,hrb,hsb,-,hbb⟩:=hsa.GU
     refine .o (.call Tryz.call272 rfl (m9 (s:=s) (to:=k) hsb hok ⟨hRf2.mono (hla.trans hlb),hr.mono (hle1.trans (hle2.trans (hla.trans hlb))),hra.mono hlb,hrb⟩ ak ak hI.fe ak ak) ?_);rintro v64 w ⟨Hc,p,en,hlc,hO,hsc,hWR⟩
     have hs:=hba (HLe.refl _) (hbb hlc hsc)
     obtain ⟨ap,lp,cp,rfl,hlp⟩:=hO.shape
     obtain rfl:lp=p.length:=by rw [cH] at hlp;omega
     refine .z zg (.nil (.seq (.ai (.z zm (.z (dp ay) (.z iP (.nil ?_)))))))
     refine (.cz rfl (fun hc67=>?_) (fun hc67=>?_))
     ·refine .ai (.z zg (.z zg (.nil ?_)))
      refine .ret (rT (rB (rT (rB (rT (rB (rT (rB (rS (Fin.fY Tryz.results224 rfl rfl ?_))))))))))
      rcases hWR with ⟨_,R,hS,hR,hto⟩|⟨hp,_⟩
      ·exact .inl ⟨rfl,hI.open hin hS hR ak hto ak,(hs.le (hle1.trans hle2)).out⟩
      ·exact (hp (List.length_eq_zero_iff.1 ak)).elim
     ·refine .skip ?_
      refine nT ?_
      refine .ai (.z zm (.z zm ?_))
      obtain ⟨hp,hpl,u,hw⟩:=hWR.resolve_left fun h=>by rw [h.1] at hc67;exact hc67 rfl
      obtain ⟨H3,hle3,hRS,hs⟩:=cR.ck (cs:=p.map Arc.v) hO (fun c hc=>by simp only [List.mem_map] at hc;obtain ⟨x,_,rfl⟩:=hc;rfl) ak (by rw [List.length_map];omega) hs eF
      refine .o (.call Tryz.call273 rfl (l5 hs hok (hRf2.mono hle3) (hr.mono (hle1.trans (hle2.trans hle3))) hRS hI hw hp hpl) ?_);rintro v70 w hs
      refine .nil ?_
      refine .exit ?_
      refine xN (xT (xN (xT (xB (nT ?_)))))
      obtain ⟨q1,q2⟩:=hI.send hnum hw ak
      have q3:0≤rem s.n (xb lf (pG s.bT ts lf p u k) u k):=bV fun v _=>by omega
      exact ⟨(H3,eo s.bT (pG s.bT ts lf p u k) ts p,xb lf (pG s.bT ts lf p u k) u k),bS,⟨hle2.trans hle3,q1,hs⟩,by dsimp only;omega⟩
   ·rintro fr w ⟨rfl,hle0,hs⟩
    refine nT ?_
    refine .ai (.z zm (.z zg (.z zg (.nil ?_))))
    refine .ret (rB (rT (rB (rS (Fin.fY Tryz.results224 rfl rfl ?_)))))
    obtain ⟨H3,l3,r3,hs⟩:=hs.ck .here
    obtain ⟨H4,l4,r4,hs⟩:=hs.ck .here
    exact .inr ⟨H4,bf,bt,bl,cl,ts,lf,_,sp,hle1.trans (hle2.trans (l3.trans l4)),rfl,⟨hRf2.mono (l3.trans l4),hr.mono (hle1.trans (hle2.trans (l3.trans l4))),r3.mono l4,r4⟩,hI.ok hin hwt0 (fun v hv=>hle0 v ak),hs⟩
theorem oh{v:Value}{ws:List Int}(hs:St H w σ)(hr:RI H v ws):Cl Tryz.prog 271 [v] w fun v w'=>∃b,v= .bool b∧(b=true↔eG ws)∧St H w' σ:=by
 obtain ⟨a,c,rfl⟩:=RI.shape hr
 have hl:=(RI.len hr).2.2
 refine Cl.o Tryz.func271 Tryz.ntmps271 ag1 ?_
 refine .ai (.z zg (.nil (.ai (.z zg (.nil (.seq (.ai (.z zm (.z (dp af) ?_)))))))))
 refine .z zm (.nil ?_)
 refine .for (N:=ws.length) (J:=fun k fr w=>fr=[(6,.slice a ws.length c),(3,I (3600000000000 - aU ws k))]∧aU ws k≤3600000000000∧St H w σ) ak ?_ ?_ ?_
 ·exact .mk ⟨rfl,by simp [aU,aE],hs⟩
 ·rintro k fr w hk ⟨rfl,hle,hs⟩
  have hx:=bE hk
  have h0:0≤aU ws k:=bV fun v _=>by omega
  have h1:aU ws (k+1)=aU ws k+max (gi ws k) (-gi ws k):=rfl
  refine .block (.ai ?_)
  first|(refine .ixv hs af aj ?_;intro b10 o10 hc10)|refine .z (zix af aj) ?_
  refine .y hs (zld ae) (.z zg (.nil (.seq (.ai (.z zm (.z zm (.z CL (.z kM (.z zm ?_)))))))))
  refine .gM (t':=16) rfl (fun hb16=>?_) (fun hb16=>?_)
  ·refine .gFs 3 4 false rfl rfl rfl ?_
   refine .z zpT (.nil ?_)
   refine (.cT ?_)
   refine .ai (.z zg (.nil ?_))
   refine .ret (rT (rB (rT (rB (rT (Fin.bg Tryz.results271 rfl ?_))))))
   exact ⟨false,rfl,⟨fun h=>(by cases h),fun h=>(sK (k:=k+1) hk (by simp only [FF];omega) h).elim⟩,hs⟩
  ·refine .gT rfl rfl ?_
   refine .z zm ?_
   refine .gT rfl rfl ?_
   refine .z zm ?_
   refine .gT rfl rfl ?_
   refine .z nu (.z zpF (.nil ?_))
   refine (.cz rfl (fun hc20=>?_) (fun hc20=>?_))
   ·refine .ai (.z zg (.nil ?_))
    refine .ret (rT (rB (rT (rB (rT (Fin.bg Tryz.results271 rfl ?_))))))
    exact ⟨false,rfl,⟨fun h=>(by cases h),fun h=>(sK (k:=k+1) hk (by simp only [FF];omega) h).elim⟩,hs⟩
   ·refine .skip ?_
    refine nT ?_
    refine .region (.z zm (.z zm (.z zm (.z CL (.z zC (.z fu (.z zg (.nil ?_))))))))
    refine nB (nT ?_)
    exact .mk ⟨rfl,ak,hs⟩ (hs:= .cons rfl (.cons rfl (.cons rfl (.eP rfl ak (.nil rfl rfl)))))
 ·rintro fr w ⟨rfl,hle,hs⟩
  refine nT ?_
  refine .ai (.z zg (.nil ?_))
  refine .ret (Fin.bg Tryz.results271 rfl ?_)
  exact ⟨true,rfl,⟨fun _=>hle,fun _=>rfl⟩,hs⟩
theorem jU{v vw:Value}{s:bq}{ws:List Int}(hs:St H w σ)(hr:RSy H v s)(hrw:RI H vw ws):Cl Tryz.prog 222 [v,vw] w fun v w'=>v=I (dG s ws)∧St H w' σ:=by
 obtain ⟨vl,rfl,hr⟩:=hr
 obtain ⟨al,cpl,rfl⟩:=RL.shape hr
 obtain ⟨aw,cw,rfl⟩:=RI.shape hrw
 have hlw:=(RI.len hrw).2.2
 have hn:s.check=0→0≤s.many∧s.many≤64∧(s.n:Int)=s.many+1:=fun h=>by
  have h1:=s.aH.1 h
  have:=h1.m0
  have:=h1.m1
  simp only [bq.n];omega
 refine Cl.o Tryz.func222 Tryz.ntmps222 ag2 ?_
 refine .ai ?_
 refine .bx hs fun b2 w hs=>?_
 refine .z zg (.nil (.seq (.ai (.y hs (zls [_,_] bh aC) ?_))))
 refine .o (.call Tryz.call197 rfl (fq (s:=s) hs ⟨_,rfl,hr⟩) ?_);rintro _ w ⟨rfl,hs⟩
 refine .z zg (.nil (.ai (.z zm (.z ia (.nil ?_)))))
 refine (.dU rfl (fun hc9=>?_) (fun hc9=>?_))
 ·refine .ai (.z zm (.z zg (.nil ?_)))
  refine .ret (rT (Fin.bg Tryz.results222 rfl ?_))
  exact ⟨by unfold dG;rw [if_pos hc9],hs.tail⟩
 ·refine .skip ?_
  refine nT ?_
  refine .seq (.ai (.z zm ?_))
  obtain ⟨n0,n1,n2⟩:=hn hc9
  refine .z (dp af) (.z (zfa bL) (.y hs (zld ae) (.z dP (.z ia (.z zm ?_)))))
  refine .DV (t':=17) rfl (fun hb17=>?_) (fun hb17=>?_)
  ·refine .gFs 3 6 false rfl rfl rfl ?_
   refine .z zpT (.nil ?_)
   refine (.cT ?_)
   refine .ai (.z zg (.nil ?_))
   refine .ret (rT (Fin.bg Tryz.results222 rfl ?_))
   exact ⟨by unfold dG;rw [if_neg ak,if_neg ak],hs.tail⟩
  ·refine .gT rfl rfl ?_
   refine .z zm ?_
   refine .gT rfl rfl ?_
   refine .o (.call Tryz.call271 rfl (oh hs hrw) ?_);rintro _ w ⟨bz,rfl,hbz,hs⟩
   refine .gT rfl rfl ?_
   refine .z eL (.z zpF (.nil ?_))
   refine (.cond rfl (fun hc21=>?_) (fun hc21=>?_))
   ·refine .ai (.z zg (.nil ?_))
    refine .ret (rT (Fin.bg Tryz.results222 rfl ?_))
    exact ⟨by unfold dG;rw [if_neg ak,if_neg (fun h=>by rw [hbz.2 h.2] at hc21;cases hc21)],hs.tail⟩
   ·refine .skip ?_
    refine nT ?_
    refine .ai (.z zg (.nil ?_))
    refine .ret (Fin.bg Tryz.results222 rfl ?_)
    exact ⟨by unfold dG;rw [if_neg ak,if_pos ⟨ak,hbz.1 (by simpa using hc21)⟩],hs.tail⟩
theorem kn{v vw:Value}{s:bq}{ws:List Int}(hs:St H w σ)(hr:RSy H v s)(hrw:RI H vw ws):
  Cl Tryz.prog 179 [v,vw] w fun v w'=>∃H1 e pf,HLe H H1∧v= .tuple #[pf,I e]∧Bg s ws e∧St H1 w' σ∧(e≠0→pf= .pointer none)∧
   (e=0→∃bf bt bl cl ts lf vl sp,pf= .pointer (some ⟨bf,0,none⟩)∧sw H1 bf s ts lf vl bt bl cl sp∧pQ s.n s.bT (nk ws s.n) ts∧s.Ok∧aU ws s.n≤FF):=by
 obtain ⟨vl,rfl,hr⟩:=hr
 refine Cl.o Tryz.func179 Tryz.ntmps179 ag2 ?_
 refine .ai ?_
 refine .bx hs fun b2 w hs=>?_
 refine .z zg (.z zg (.nil (.seq (.ai (.y hs (zls [_,_] bh aC) (.z zm ?_))))))
 refine .o (.call Tryz.call222 rfl (jU (s:=s) hs ⟨_,rfl,hr⟩ hrw) ?_);rintro _ w ⟨rfl,hs⟩
 refine .z zg (.nil (.ai (.z zm (.z ia (.nil ?_)))))
 refine (.dU rfl (fun hc13=>?_) (fun hc13=>?_))
 ·refine .ai (.z zm (.z zg (.z zg (.nil ?_))))
  refine .ret (rT (Fin.fY Tryz.results179 rfl rfl ?_))
  exact ⟨H,_,_,HLe.refl _,rfl,.bad hc13,hs.tail,fun _=>rfl,fun h=>(hc13 h).elim⟩
 ·refine .skip ?_
  refine nT ?_
  refine .seq (.ai (.y hs (zls [_,_] bh aC) ?_))
  obtain ⟨hok,hwl,hsz⟩:=oz hc13
  refine .o (.call Tryz.call223 rfl (fU (s:=s) hs hok ⟨_,rfl,hr⟩) ?_);rintro _ w ⟨H1,b,hle1,rfl,hb,hs⟩
  refine .z eL (.nil ?_)
  refine (.cond rfl (fun hc17=>?_) (fun hc17=>?_))
  ·refine .ai (.z zg (.z zg (.nil ?_)))
   refine .ret (rT (Fin.fY Tryz.results179 rfl rfl ?_))
   exact ⟨H1,_,_,hle1,rfl,.clash hc13 (fun h=>by rw [hb.2 h] at hc17;cases hc17),hs.tail,fun _=>rfl,fun h=>by cases h⟩
  ·refine .skip ?_
   refine nT ?_
   refine .ai (.y hs (zls [_,_] bh aC) (.z zm ?_))
   have hsnd:s.Sound:=hb.1 (by simpa using hc17)
   refine .o (.call Tryz.call224 rfl (rm (s:=s) hs hok ⟨_,rfl,hr.mono hle1⟩ (hrw.mono hle1) hwl hsz hsnd) ?_);rintro v21 w hcase
   obtain ⟨pf,bb,H2,hle2,rfl,hs,hT,hF⟩:∃pf bb H2,HLe H1 H2∧v21= .tuple #[pf,.bool bb]∧St H2 w (.blk b2 [I s.many,vl]::σ)∧(bb=false→pf= .pointer none∧mc s.bT (nk ws s.n) s.n)∧
     (bb=true→∃bf bt bl cl ts lf vl sp,pf= .pointer (some ⟨bf,0,none⟩)∧sw H2 bf s ts lf vl bt bl cl sp∧pQ s.n s.bT (nk ws s.n) ts):=by
    rcases hcase with ⟨rfl,h1,h2⟩|⟨H2,bf,bt,bl,cl,ts,lf,vl,sp,h1,rfl,h2,h3,h4⟩
    ·exact ⟨_,false,H1,HLe.refl _,rfl,h2,fun _=>⟨rfl,h1⟩,fun h=>by cases h⟩
    ·exact ⟨_,true,H2,h1,rfl,h4,fun h=>(by cases h),fun _=>⟨bf,bt,bl,cl,ts,lf,vl,sp,rfl,h2,h3⟩⟩
   refine .z zm (.z zex (.z zex (.z zg (.z zg (.nil (.seq (.ai (.z zm (.z eL ?_)))))))))
   refine .nil ?_
   refine (.cond rfl (fun hc25=>?_) (fun hc25=>?_))
   ·refine .ai (.z zg (.z zg (.nil ?_)))
    refine .ret (rT (Fin.fY Tryz.results179 rfl rfl ?_))
    exact ⟨H2,_,_,hle1.trans hle2,rfl,.opn hc13 hsnd (hT (by simpa using hc25)).2,hs.tail,fun _=>rfl,fun h=>by cases h⟩
   ·refine .skip ?_
    refine nT ?_
    refine .ai (.z zm (.z zg (.z zg (.nil ?_))))
    refine .ret (Fin.fY Tryz.results179 rfl rfl ?_)
    obtain ⟨bf,bt,bl,cl,ts,lf,vl,sp,rfl,h2,h3⟩:=hF (by simpa using hc25)
    have hn0:0<s.n:=by simp [bq.n]
    have hn1:s.n≤65:=by have:=hok.m0;have:=hok.m1;simp only [bq.n];omega
    have hsz':aU ws s.n≤FF:=by unfold eG at hsz;rwa [hwl] at hsz
    exact ⟨H2,_,_,hle1.trans hle2,rfl,.ok hc13 hsnd (h3.value hn0 hn1 hok.bT hsz').2.1,hs.tail,fun h=>(h rfl).elim,fun _=>⟨bf,bt,bl,cl,ts,lf,vl,sp,rfl,h2,h3,hok,hsz'⟩⟩
theorem gJ{bf bt bl cl:Nat}{s:bq}{ts lf ws:List Int}{vl:Value}{sp:List Value}(hs:St H w σ)(hok:s.Ok)(hF:sw H bf s ts lf vl bt bl cl sp)(hFo:pQ s.n s.bT (nk ws s.n) ts)(hsz:aU ws s.n≤FF):
  Cl Tryz.prog 263 [.pointer (some ⟨bf,0,none⟩)] w fun v w'=>v=I (dot s.bT ts (·.c))∧wC s.bT (s.wt ws) s.n (dot s.bT ts (·.c))∧dot s.bT ts (·.c)≤BB∧-BB≤dot s.bT ts (·.c)∧St H w' σ:=by
 obtain ⟨hFf,hFl,hFt,hFd⟩:=hF
 obtain ⟨al,cpl,rfl⟩:=RL.shape hFl
 have hlim:=hok.len
 have hal:s.bT.length=s.bD.length:=by simp [bq.bT,dS]
 have hlt:=hFo.lt
 have hn0:0<s.n:=by simp [bq.n]
 have hn1:s.n≤65:=by have:=hok.m0;have:=hok.m1;simp only [bq.n];omega
 have hv:=hFo.value hn0 hn1 hok.bT hsz
 have hd:=AT (es:=s.bT) hlt
 have hf1:cellAt H bf 1=some (.slice al s.bD.length cpl):=hFf.at 1
 have hf2:cellAt H bf 2=some (.slice (some ⟨bt,0,none⟩) ts.length ts.length):=hFf.at 2
 refine Cl.o Tryz.func263 Tryz.ntmps263 ag1 ?_
 refine .ai (.z zg (.nil (.ai (.z zg (.nil (.seq (.ai (.z zm (.z znc ?_)))))))))
 refine .z (zfa ec) (.z (zfa bR) (.y hs (zld dw) (.z (dp aK) (.z zm (.nil ?_)))))
 refine .for (N:=s.bD.length) (J:=fun k fr w=>fr=[(10,.slice al s.bD.length cpl),(3,I (IntKind.i64.wrap (za s.bT ts k))),(0,.pointer (some ⟨bf,0,none⟩))]∧St H w σ) ak ?_ ?_ ?_
 ·exact .mk ⟨rfl,hs⟩ (hs:= .cons rfl (.cons rfl (.cons rfl (.eP rfl (by simp [za,aE,sX]) (.cons rfl (.nil rfl rfl))))))
 ·rintro k fr w hk ⟨rfl,hs⟩
  obtain ⟨l,hl⟩:=nth hk
  have hg:(ga s.bT k).c=l.M:=by simp [ga,bq.bT,jH hl,Lim.arc]
  have hlm:=hok.lim l (List.mem_of_getElem? hl)
  have hkt:k<ts.length:=by omega
  have htb:=hFo.nn k ak
  have hct:cellAt H bt k=some (I (gi ts k)):=hFt.at k (zi hkt)
  have hmul:gi ts k*l.M≤72000000000000000∧-72000000000000000≤gi ts k*l.M:=by
   simp only [FF] at htb
   have g1:gi ts k*l.M≤gi ts k*20000:=Int.mul_le_mul_of_nonneg_left hlm.2.2.2.1.2 htb.1
   have g2:gi ts k*(-20000)≤gi ts k*l.M:=Int.mul_le_mul_of_nonneg_left hlm.2.2.2.1.1 htb.1
   omega
  refine .block (.ai (.z zm ?_))
  refine .ixX hs hFl rfl rfl aK aW hl rfl ?_;intro b15 o15 hc15
  refine .q hs (bG (vs:=l.c) rfl fJ aW hc15) ?_
  refine .o (.alloc hs dK rfl fun b5 w hs=>?_)
  refine .z zg ?_
  refine .o (.aI (vs:=l.c) hs rfl rfl aW fun w hs=>?_)
  refine .nil ?_
  refine .draw mix rfl hs fun w hs=>?_
  refine .z 0 rfl zm ?_;refine .z 1 rfl zm ?_;refine .z 2 rfl znc ?_;refine .z 3 rfl (zfa eW) ?_;refine .y 4 rfl hs aq ?_;refine .z 5 rfl zm ?_
  refine .z 6 rfl (kD (k:=k) rfl rfl af aj rfl hkt) ?_
  refine .r (i:=7) hs rfl an .none (a6 rfl ae hct) ?_
  refine .z 8 rfl (zfa fk) ?_;refine .y 9 rfl hs ae ?_;refine .z 10 rfl pR ?_
  refine .z 11 rfl (B0 rfl rfl) ?_
  refine .z 12 rfl zg ?_;refine .D hs ?_
  refine nB (nT ?_)
  exact .mk ⟨rfl,hs.tail⟩ (hs:= .cons rfl (.cons rfl (.cons rfl (.eP rfl (by rw [xf];simp only [za,aE,hg]) (.cons rfl (.nil rfl rfl))))))
 ·rintro fr w ⟨rfl,hs⟩
  rw [←hal,←hd,iK (by have:=hv.2.2;simp only [BB] at this;omega)]
  refine nT ?_
  refine .ai (.z zm (.z zg (.nil ?_)))
  refine .ret (Fin.bg Tryz.results263 rfl ?_)
  exact ⟨rfl,hv.1,hv.2.2.1,hv.2.2.2,hs⟩
theorem pw{vw:Value}{ws:List Int}(hs:St H w σ)(hrw:RI H vw ws)(hlw:ws.length≤1000000)(hb:∀k,-9223372036854775807≤gi ws k∧gi ws k≤9223372036854775807):
  Cl Tryz.prog 262 [vw] w fun v w'=>∃H1,HLe H H1∧RI H1 v (uD ws)∧St H1 w' σ:=by
 obtain ⟨aw,cw,rfl⟩:=RI.shape hrw
 refine Cl.o Tryz.func262 Tryz.ntmps262 ag1 ?_
 refine .ai (.z zg (.nil (.ai (.z zm (.z (dp af) ?_)))))
 refine .o (.w9 ws.length hs rfl rfl af iS rfl aj bA ak fun b8 w hs=>?_)
 refine .z zg (.nil (.seq (.ai (.z zm (.z (dp af) (.z zm (.nil ?_)))))))
 refine .for (N:=ws.length) (J:=fun k fr w=>fr=[(9,.slice aw ws.length cw),(3,.slice (some ⟨b8,0,none⟩) ws.length ws.length)]∧∃L,(L.length=ws.length∧∀v<ws.length,gi L v=if v<k then -gi ws v else 0)∧St H w (.blk b8 (Is L)::σ)) ak ?_ ?_ ?_
 ·exact .mk ⟨rfl,_,⟨db,fun v hv=>by rw [cC _ _ hv,if_neg ak]⟩,hs⟩
 ·rintro k fr w hk ⟨rfl,L,⟨hL1,hL2⟩,hs⟩
  have hx:=bE hk
  have hbk:=hb k
  refine .block (.ai (.z zm ?_))
  first|(refine .ixv hs af aj ?_;intro b14 o14 hc14)|refine .z (zix af aj) ?_
  refine .y hs (zld ae) (.z zg (.z zg (.nil (.region (.z zm (.z zm (.z zm (.z CL ?_))))))))
  first|(refine .ixv hs af aj ?_;intro b20 o20 hc20)|refine .z (zix af aj) ?_
  refine .o (.store hs rfl rfl aj fun w hs=>?_)
  refine .nil ?_
  refine nB (nT ?_)
  refine .mk ⟨rfl,_,⟨by rw [List.length_set];exact hL1,fun v hv=>?_⟩,hs⟩
  rw [ep ak]
  by_cases e:v=k
  ·subst e;rw [if_pos rfl,if_pos ak]
  ·rw [if_neg e,hL2 v hv];congr 1;apply propext;omega
 ·rintro fr w ⟨rfl,L,⟨hL1,hL2⟩,hs⟩
  obtain rfl:L=uD ws:=yg (by simp [hL1,uD]) (fun k hk=>by rw [hL2 k ak,if_pos ak,AG])
  refine nT ?_
  refine .ai (.z zm (.z zg (.nil ?_)))
  refine .ret (Fin.bg Tryz.results262 rfl ?_)
  obtain ⟨H1,g1,g2,hs⟩:=hs.ck .here
  refine ⟨H1,g1,?_,hs⟩
  rw [←hL1]
  exact Row.RI (spare:=[]) (by simpa using g2) _ (Nat.le_refl _) ak
theorem qf{v vw:Value}{s:bq}{ws:List Int}(hs:St H w σ)(hr:RSy H v s)(hrw:RI H vw ws):
  Cl Tryz.prog 219 [v,vw] w fun v w'=>∃H1 lo hi e,HLe H H1∧v= .tuple #[I lo,I hi,I e]∧cQ s ws lo hi e∧St H1 w' σ:=by
 obtain ⟨vl,rfl,hr⟩:=hr
 refine Cl.o Tryz.func219 Tryz.ntmps219 ag2 ?_
 refine .ai ?_
 refine .bx hs fun b2 w hs=>?_
 refine .z zg (.z zg (.z zg (.nil (.ai (.y hs (zls [_,_] bh aC) (.z zm ?_))))))
 refine .o (.call Tryz.call179 rfl (kn (s:=s) hs ⟨_,rfl,hr⟩ hrw) ?_);rintro _ w ⟨H1,e,pf,hle1,rfl,hA,hs,hne,heq⟩
 refine .z zm (.z zex (.z zex (.z zg (.z zg (.nil (.seq (.ai (.z zm (.z ia ?_)))))))))
 refine .nil ?_
 refine (.dU rfl (fun hc16=>?_) (fun hc16=>?_))
 ·refine .ai (.z zm (.z zg (.z zg (.z zg (.nil ?_)))))
  refine .ret (rT (Fin.F3 Tryz.results219 rfl rfl rfl ?_))
  exact ⟨H1,_,_,_,hle1,rfl,.first ⟨hA,fun _=>rfl,fun h=>(hc16 h).elim⟩ hc16,hs.tail⟩
 ·refine .skip ?_
  refine nT ?_
  refine .seq (.draw mix rfl hs fun w hs=>?_)
  refine .ys 0 rfl hs [_,_] bh aC ?_;refine .z 1 rfl zm ?_
  refine .E 2 hs ?_
  subst hc16
  obtain ⟨bf,bt,bl,cl,ts,lf,vl',sp,rfl,hF,hFo,hok,hsz⟩:=heq rfl
  have hwl:=(oz hA.zero.1).2.1
  have hbw:∀k,-9223372036854775807≤gi ws k∧gi ws k≤9223372036854775807:=fun k=>by
   simp only [FF] at hsz
   by_cases hk:k<s.n
   ·have:=lG ws hk;omega
   ·have:gi ws k=0:=by simp [gi,List.getElem?_eq_none (show ws.length≤k by omega)]
    omega
  refine .call Tryz.call262 rfl (pw hs (hrw.mono hle1) (by have:=hok.m1;simp only [bq.n] at hwl;omega) hbw) ?_;rintro v21 w ⟨H2,hle2,hr21,hs⟩
  refine .go ?_
  refine .E 3 hs ?_
  refine .call Tryz.call179 rfl (kn (s:=s) hs ⟨_,rfl,hr.mono (hle1.trans hle2)⟩ hr21) ?_;rintro _ w ⟨H3,e2,pg,hle3,rfl,hA2,hs,hne2,heq2⟩
  refine .go ?_
  refine .z 4 rfl zm ?_;refine .z 5 rfl zex ?_;refine .z 6 rfl zex ?_;refine .z 7 rfl zg ?_;refine .z 8 rfl zg ?_;refine .D hs ?_
  refine .seq (.ai (.z zm (.z ia (.nil ?_))))
  refine (.dU rfl (fun hc26=>?_) (fun hc26=>?_))
  ·refine .ai (.z zm (.z zg (.z zg (.z zg (.nil ?_)))))
   refine .ret (rT (Fin.F3 Tryz.results219 rfl rfl rfl ?_))
   obtain ⟨q1,q2,q3,q4⟩:=hFo.value (by simp [bq.n]) (by have:=hok.m0;have:=hok.m1;simp only [bq.n];omega) hok.bT hsz
   exact ⟨H3,_,_,_,hle1.trans (hle2.trans hle3),rfl,.second ⟨hA,fun h=>(h rfl).elim,fun _=>⟨q1,q3,q4⟩⟩ ⟨hA2,fun _=>rfl,fun h=>(hc26 h).elim⟩ hc26,hs.tail⟩
  ·refine .skip ?_
   refine nT ?_
   refine .ai (.z zm ?_)
   subst hc26
   obtain ⟨bf2,bt2,bl2,cl2,ts2,lf2,vl2,sp2,rfl,hF2,hFo2,hok2,hsz2⟩:=heq2 rfl
   refine .o (.call Tryz.call263 rfl (gJ hs hok hF2 hFo2 hsz2) ?_);rintro _ w ⟨rfl,a1,a2,a3,hs⟩
   simp only [BB] at a2 a3
   refine .z CL (.z zm ?_)
   refine .o (.call Tryz.call263 rfl (gJ hs hok (hF.mono (hle2.trans hle3)) hFo hsz) ?_);rintro _ w ⟨rfl,c1,c2,c3,hs⟩
   refine .z zg (.z zg (.z zg (.nil ?_)))
   refine .ret (Fin.F3 Tryz.results219 rfl rfl rfl ?_)
   exact ⟨H3,_,_,_,hle1.trans (hle2.trans hle3),rfl,.ok ⟨hA,fun h=>(h rfl).elim,fun _=>⟨c1,c2,c3⟩⟩ ⟨hA2,fun h=>(h rfl).elim,fun _=>⟨a1,by simp only [BB];omega,by simp only [BB];omega⟩⟩,hs.tail⟩
end Go.Proofs.YteajddicacjkhaaGreat
namespace Go.Proofs.YteajddicacjkhaaGreat
open Go.MW
structure Pck where
 probes:List Int
 width:Int
 bound:Int
 uses:List Use
 fails:List (List Int×List Int)
def Pck.none:Pck:=⟨[],0,0,[],[]⟩
def Fy(H:bp)(v:Value)(p:Pck):Prop:=∃(vp vu vf:Value) (css:List (List Value)),v= .agg #[vp,I p.width,I p.bound,vu,vf]∧RI H vp p.probes∧RU H vu p.uses∧RS H 2 vf css∧css.length=p.fails.length∧∀(j:Nat) (c:List Value) (t:List Int×List Int),css[j]? =some c→p.fails[j]? =some t→TwC H c t
theorem Fy.nil(H:bp):Fy H (.agg #[.slice none 0 0,I 0,I 0,.slice none 0 0,.slice none 0 0]) .none:=
 ⟨_,_,_,[],rfl,RS.nil _ _ _ _,RS.nil _ _ _ _,RS.nil _ _ _ _,rfl,fun _ _ _ h=>by simp at h⟩
def uu(a:de)(b:Bool)(e:Int):Prop:=(fZ a e∧e≠0∧b=false)∨(rN a∧e=0∧∃lo hi,cQ a.sys a.ws lo hi 0∧b=decide (hi - lo≤a.width))
def D1(a:de)(z x e:Int):Prop:=(fZ a e∧e≠0∧x=0)∨(rN a∧e=0∧∃lo hi,cQ a.sys a.ws lo hi 0∧x=if z≤lo then 1 else if hi<z then 0 else 2)
theorem A4.uniq{a:de}{n m e f:Int}(h:A4 a n e)(g:A4 a m f):n=m∧e=f:=by
 rcases h with ⟨h1,h2,h3⟩|⟨h1,h2,lo,hi,h3,h4⟩<;>rcases g with ⟨g1,g2,g3⟩|⟨g1,g2,lo',hi',g3,g4⟩
 ·exact ⟨by rw [h3,g3],h1.uniq g1⟩
 ·exact (h2 (h1.uniq (fZ.zero.2 g1))).elim
 ·exact (g2 (g1.uniq (fZ.zero.2 h1))).elim
 ·obtain ⟨rfl,rfl,-⟩:=h3.uniq g3;exact ⟨by rw [h4,g4],by rw [h2,g2]⟩
theorem uu.uniq{a:de}{n m:Bool}{e f:Int}(h:uu a n e)(g:uu a m f):n=m∧e=f:=by
 rcases h with ⟨h1,h2,h3⟩|⟨h1,h2,lo,hi,h3,h4⟩<;>rcases g with ⟨g1,g2,g3⟩|⟨g1,g2,lo',hi',g3,g4⟩
 ·exact ⟨by rw [h3,g3],h1.uniq g1⟩
 ·exact (h2 (h1.uniq (fZ.zero.2 g1))).elim
 ·exact (g2 (g1.uniq (fZ.zero.2 h1))).elim
 ·obtain ⟨rfl,rfl,-⟩:=h3.uniq g3;exact ⟨by rw [h4,g4],by rw [h2,g2]⟩
theorem D1.uniq{a:de}{z n m e f:Int}(h:D1 a z n e)(g:D1 a z m f):n=m∧e=f:=by
 rcases h with ⟨h1,h2,h3⟩|⟨h1,h2,lo,hi,h3,h4⟩<;>rcases g with ⟨g1,g2,g3⟩|⟨g1,g2,lo',hi',g3,g4⟩
 ·exact ⟨by rw [h3,g3],h1.uniq g1⟩
 ·exact (h2 (h1.uniq (fZ.zero.2 g1))).elim
 ·exact (g2 (g1.uniq (fZ.zero.2 h1))).elim
 ·obtain ⟨rfl,rfl,-⟩:=h3.uniq g3;exact ⟨by rw [h4,g4],by rw [h2,g2]⟩
def A8(a:de)(l:List Prb)(S:bq)(W:List Int)(e:Int):Prop:=(fW a l e∧e≠0∧S=⟨0,[]⟩∧W=[])∨(fW a l 0∧e=0∧S=Fi a l∧W=Fh a.ws)
theorem A8.uniq{a:de}{l:List Prb}{S T:bq}{W V:List Int}{e f:Int}(h:A8 a l S W e)(g:A8 a l T V f):S=T∧W=V∧e=f:=by
 rcases h with ⟨h1,h2,h3,h4⟩|⟨h1,h2,h3,h4⟩<;>rcases g with ⟨g1,g2,g3,g4⟩|⟨g1,g2,g3,g4⟩
 ·exact ⟨by rw [h3,g3],by rw [h4,g4],h1.uniq g1⟩
 ·exact (h2 (h1.uniq g1)).elim
 ·exact (g2 (g1.uniq h1)).elim
 ·exact ⟨by rw [h3,g3],by rw [h4,g4],by rw [h2,g2]⟩
def A3(a:de)(l:List Prb)(n e:Int):Prop:=(fW a l e∧e≠0∧n=0)∨(fW a l 0∧e=0∧ql a l n)
theorem A3.uniq{a:de}{l:List Prb}{n m e f:Int}(h:A3 a l n e)(g:A3 a l m f):n=m∧e=f:=by
 rcases h with ⟨h1,h2,h3⟩|⟨h1,h2,h3⟩<;>rcases g with ⟨g1,g2,g3⟩|⟨g1,g2,g3⟩
 ·exact ⟨by rw [h3,g3],h1.uniq g1⟩
 ·exact (h2 (h1.uniq g1)).elim
 ·exact (g2 (g1.uniq h1)).elim
 ·exact ⟨h3.uniq g3,by rw [h2,g2]⟩
inductive CWR(a:de)(l:List Prb)(n m:Int)(us:List Use):Int→Prop
 |ask {e:Int} (h:fW a l e) (he:e≠0):CWR a l n m us e
 |bad {e:Int} (h:fW a l 0) (h1:jm (Fi a l) (Fh a.ws) m us e) (he:e≠0):CWR a l n m us 24
 |more (h:fW a l 0) (h1:jm (Fi a l) (Fh a.ws) m us 0) (he:n<m):CWR a l n m us 94
 |ok (h:fW a l 0) (h1:jm (Fi a l) (Fh a.ws) m us 0) (he:¬n<m):CWR a l n m us 0
theorem CWR.uniq{a:de}{l:List Prb}{n m:Int}{us:List Use}{e f:Int}(h:CWR a l n m us e)(g:CWR a l n m us f):e=f:=by
 cases h with
 |ask h he=>
  cases g with
  |ask g _=>exact h.uniq g
  |bad g _ _=>exact (he (h.uniq g)).elim
  |more g _ _=>exact (he (h.uniq g)).elim
  |ok g _ _=>exact (he (h.uniq g)).elim
 |bad h h1 he=>
  cases g with
  |ask g ge=>exact (ge (g.uniq h)).elim
  |bad g _ _=>rfl
  |more g g1 _=>exact (he (h1.uniq g1)).elim
  |ok g g1 _=>exact (he (h1.uniq g1)).elim
 |more h h1 he=>
  cases g with
  |ask g ge=>exact (ge (g.uniq h)).elim
  |bad g g1 ge=>exact (ge (g1.uniq h1)).elim
  |more g _ _=>rfl
  |ok g _ ge=>exact (ge he).elim
 |ok h h1 he=>
  cases g with
  |ask g ge=>exact (ge (g.uniq h)).elim
  |bad g g1 ge=>exact (ge (g1.uniq h1)).elim
  |more g _ ge=>exact (he ge).elim
  |ok g _ _=>rfl
end Go.Proofs.YteajddicacjkhaaGreat
namespace Go.Proofs.YteajddicacjkhaaGreat
open Go.MW
variable{H:bp}{w:World}{σ:List Ent}
theorem jb{v:Value}{l:List Int}{en:Ent}(hs:St H w (en::σ))(ho:cR 1 v (Is l) en)(hl:l.length≤1000000):
  Cl Tryz.prog 270 [v] w fun _ w'=>∃en',cR 1 v (Is l.reverse) en'∧St H w' (en'::σ):=by
 rcases ho with ⟨a,rfl,h2,rfl⟩|⟨b,len,cap,sp,rfl,rfl,h2,h3,h4⟩
 ·obtain rfl:l=[]:=by
   have:=congrArg List.length h2
   exact List.length_eq_zero_iff.1 (by simpa using this)
  have hs:=hs.tail
  refine Cl.o Tryz.func270 Tryz.ntmps270 ag1 ?_
  refine .ai (.z zm (.z (dp af) (.z fu (.z zg (.z zg (.nil (.block ?_)))))))
  refine .loop (fun _:Unit=>⟨28,[],[(2,I 0),(3,I (-1))]⟩) (fun _ w=>St H w σ) (fun _=>0) () bS hs ?_
  rintro _ w hs
  refine .seq (.ai (.z zm (.z zm (.z kM (.nil ?_)))))
  refine (.cz rfl (fun hc9=>?_) (fun hc9=>?_))
  ·omega
  ·refine .exit ?_
   refine xT (xT (xB ?_))
   exact Fin.vR Tryz.results270 ⟨.nul,.nil 1 a,hs.nul⟩
 obtain rfl:len=l.length:=by simpa using h2.symm
 refine Cl.o Tryz.func270 Tryz.ntmps270 ag1 ?_
 refine .ai (.z zm (.z (dp af) (.z fu (.z zg (.z zg (.nil (.block ?_)))))))
 refine .loop (fun p:Nat×List Int=>⟨28,[],[(2,I p.1),(3,I ((l.length:Int) - 1 - p.1)),(0,.slice (some ⟨b,0,none⟩) l.length cap)]⟩) (fun p w=>(2*p.1≤l.length+1∧lA l p.2 p.1)∧St H w (.blk b (Is p.2++sp)::σ)) (fun p=>l.length - p.1) (0,l) (.cons rfl (.eP rfl db (.cons rfl (.nil rfl rfl)))) ⟨⟨db,.start l⟩,hs⟩ ?_
 rintro ⟨i,L⟩ w ⟨⟨h5,h6⟩,hs⟩
 dsimp only at h5 h6 hs ⊢
 have hL:=h6.1
 refine .seq (.ai (.z zm (.z zm (.z kM (.nil ?_)))))
 refine (.cz rfl (fun hc9=>?_) (fun hc9=>?_))
 ·refine .skip ?_
  refine nT ?_
  refine .seq (.block ?_)
  refine .draw mix rfl hs fun w hs=>?_
  refine .z 0 rfl zm ?_;refine .z 1 rfl zm ?_;refine .z 2 rfl zm ?_;refine .z 3 rfl zm ?_;refine .z 4 rfl zm ?_;refine .z 5 rfl zm ?_
  refine .z 6 rfl (kD (k:=l.length - 1 - i) rfl rfl af aj ak ak) ?_
  refine .load (i:=7) hs rfl an .none rfl ae ?_ (hv:=ew ak sp)
  refine .z 8 rfl zm ?_;refine .z 9 rfl zm ?_
  first|(refine .ixv 10 rfl hs af aj ?_;intro b24 o24 hc24)|refine .z 10 rfl (zix af aj) ?_
  refine .load (i:=11) hs rfl an .none rfl ae ?_ (hv:=ew ak sp)
  first|(refine .ixv 12 rfl hs af aj ?_;intro b26 o26 hc26)|refine .z 12 rfl (zix af aj) ?_
  refine .E 13 hs ?_
  refine .store hs rfl rfl aj ?_ eF (by simp;omega) (iO ak sp _);intro w hs
  refine .go ?_
  refine .z 14 rfl (kD (k:=l.length - 1 - i) rfl rfl af aj ak ak) ?_
  refine .E 15 hs ?_
  refine .store hs rfl rfl aj ?_ eF (by simp;omega) (iO (by simp;omega) sp _);intro w hs
  refine .go ?_
  refine .D hs ?_
  refine nB (nT ?_)
  refine .region (.z zm (.z dP (.z zm (.z fu (.z zg (.z zg (.nil ?_)))))))
  refine nT ?_
  exact ⟨(i+1,_),.cons rfl (.eP rfl (by push_cast;omega) (.cons rfl (.nil rfl rfl))),⟨⟨by dsimp only;omega,h6.step ak⟩,hs⟩,by dsimp only;omega⟩
 ·refine .exit ?_
  refine xT (xT (xB ?_))
  rw [h6.done ak] at hs
  exact Fin.vR Tryz.results270 ⟨_,.inr ⟨b,l.length,cap,sp,rfl,rfl,db,by rw [←h3];simp,h4⟩,hs⟩
inductive C9(s:bq)(xs:List Int):Int→Prop
 |bad (h:s.check≠0) (h1:xs=[]):C9 s xs s.check
 |sound (h:s.Ok) (h1:s.Sound) (h2:xs=[]):C9 s xs 0
 |chain {st:BS} {x:Arc} {z k:Nat} (h:s.Ok) (h1:¬s.Sound) (h2:FC s.n s.bT st (some x)) (h3:z=mU st.by_ x.t (s.n+1)) (h4:1≤k) (h5:k≤s.n) (h6:mU st.by_ z k=z) (h7:xs=(tN st.by_ z k).reverse):C9 s xs 0
theorem C9.zP{s:bq}{xs:List Int}(h:C9 s xs 0):xs=[]↔s.Sound:=by
 generalize hz:(0:Int)=y at h
 cases h with
 |bad h=>exact (h hz.symm).elim
 |sound _ h1 h2=>exact ⟨fun _=>h1,fun _=>h2⟩
 | @chain st x z k _ h1 _ _ h4 _ _ h7=>exact ⟨fun h=>by
   have:=congrArg List.length (h7.symm.trans h)
   rw [List.length_reverse,k8] at this
   simp at this;omega,fun h=>(h1 h).elim⟩
theorem C9.err{s:bq}{xs:List Int}{e:Int}(h:C9 s xs e):e=s.check:=by
 cases h with
 |bad=>rfl
 |sound h=>exact (s.aH.2 h).symm
 |chain h=>exact (s.aH.2 h).symm
set_option maxHeartbeats 4000000 in
theorem qg{v:Value}{s:bq}(hs:St H w σ)(hr:RSy H v s):
  Cl Tryz.prog 221 [v] w fun u w'=>∃H1 vx xs e,HLe H H1∧u= .tuple #[vx,I e]∧RI H1 vx xs∧C9 s xs e∧St H1 w' σ:=by
 obtain ⟨u,rfl,hr⟩:=hr
 obtain ⟨al,cl,rfl⟩:=RL.shape hr
 refine Cl.o Tryz.func221 Tryz.ntmps221 ag1 ?_
 refine .ai ?_
 refine .bx hs fun b1 w hs=>?_
 refine .z zg (.z zg (.nil (.seq (.ai (.y hs (zls [_,_] bh aC) ?_)))))
 refine .o (.call Tryz.call197 rfl (fq (s:=s) hs ⟨_,rfl,hr⟩) ?_);rintro _ w ⟨rfl,hs⟩
 refine .z zg (.nil (.ai (.z zm (.z ia (.nil ?_)))))
 refine (.dU rfl (fun hc14=>?_) (fun hc14=>?_))
 ·refine .ai (.z zm (.z zg (.z zg (.nil ?_))))
  refine .ret (rT (Fin.fY Tryz.results221 rfl rfl ?_))
  exact ⟨H,_,[],_,HLe.refl H,rfl,RS.nil H 1 none 0,.bad hc14 rfl,hs.out⟩
 ·refine .skip ?_
  refine nT ?_
  refine .seq (.draw mix rfl hs fun w hs=>?_)
  refine .z 0 rfl (zfa bL) ?_;refine .y 1 rfl hs ae ?_;refine .ys 2 rfl hs [_,_] bh aC ?_
  refine .E 3 hs ?_
  have hok:s.Ok:=s.aH.1 (by simpa using hc14)
  have hoka:=hok.bT
  have hn:s.n=s.many.toNat+1:=rfl
  have hm0:=hok.m0
  have hm1:=hok.m1
  refine .call Tryz.call269 rfl (gY (s:=s) hs hok ⟨_,rfl,hr⟩) ?_;rintro _ w ⟨H1,b10,hle1,rfl,hit,hs⟩
  refine .go ?_
  refine .E 4 hs ?_
  have hnear:=ji (N:=s.many.toNat) hs ak (by rw [←hn];exact hoka) hit Tryz.call295
  rw [Int.toNat_of_nonneg hm0] at hnear
  refine .call Tryz.call225 rfl hnear ?_;rintro _ w ⟨H2,bc,bb,st,ov,vo,hle2,rfl,hov,hnr,hs⟩
  obtain ⟨a',rfl,ha'⟩:=hov.ptr
  refine .go ?_
  refine .z 5 rfl zm ?_;refine .z 6 rfl zex ?_;refine .z 7 rfl zex ?_;refine .z 8 rfl zex ?_;refine .z 9 rfl zg ?_;refine .z 10 rfl zg ?_;refine .z 11 rfl zg ?_;refine .D hs ?_
  refine .seq (.ai (.z zm ?_))
  refine .q hs (Ag rfl rfl Tryz.runUnderlying268) ?_
  refine .nil ?_
  refine (.cond rfl (fun hc26=>?_) (fun hc26=>?_))
  ·refine .ai (.z zg (.z zg (.nil ?_)))
   refine .ret (rT (Fin.fY Tryz.results221 rfl rfl ?_))
   exact ⟨H2,_,[],0,hle1.trans hle2,rfl,RS.nil H2 1 none 0,.sound hok (by
    obtain ⟨r,hN2,hr2⟩:=hnr
    cases ov with
    |none=>exact ⟨_,(hN2.sol (by rw [←hn];exact hoka) ak).1⟩
    |some x=>rw [ha'] at hc26;cases hc26) rfl,hs.out⟩
  ·refine .skip ?_
   refine nT ?_
   refine .ai (.z zm ?_)
   obtain ⟨x,rfl⟩:=OvR.yes ha' hc26
   obtain ⟨b3,e3,hrow⟩:=hov
   cases e3
   have hrowT:cellAt H2 b3 1=some (I x.t):=hrow.at 1
   have hmn:s.many+2=((s.many.toNat+2:Nat):Int):=by omega
   have hns:¬s.Sound:=by
    obtain ⟨r,hN2,hr2⟩:=hnr
    exact hN2.none (by rw [←hn];exact hoka) ak (by have:=hr2 db;omega)
   obtain ⟨hlb,hrg,hxt⟩:st.by_.length=s.many.toNat+1∧(∀v<s.many.toNat+1,(ga st.by_ v).f<s.many.toNat+1)∧x.t<s.many.toNat+1:=by
    obtain ⟨r,hN2,hr2⟩:=hnr
    exact ⟨hN2.lb,fun v hv=>(hN2.rg v hv).1,(hoka.2 x (hN2.ovm x rfl)).2.1⟩
   have hpl:=fun k=>tB hrg hxt k
   refine .z znc (.z (zfa bZ) ?_)
   refine .q hs (a6 rfl ae hrowT) ?_
   refine .z zg (.nil (.seq (.ai (.z (zfa bL) (.y hs (zld ae) (.z dP ?_))))))
   rw [hmn]
   refine .z zm (.nil ?_)
   refine .for (N:=s.many.toNat+2) (J:=fun k fr w=>fr=[(8,I (mU st.by_ x.t k)),(6,.slice (some ⟨bb,0,none⟩) (s.many.toNat+1) (s.many.toNat+1))]∧St H2 w (.blk bc (Is st.cost):: .blk bb (fX st.by_):: .blk b1 [I s.many,.slice al s.bD.length cl]::σ)) ak ?_ ?_ ?_
   ·exact .mk ⟨rfl,hs⟩
   ·rintro k fr w hk ⟨rfl,hs⟩
    refine .block (.region (.z zm (.z zm ?_)))
    refine .q hs (sP (k:=mU st.by_ x.t k) rfl rfl ay az rfl (hpl k)) ?_
    refine .z (zfa bQ) ?_
    refine .q hs (iD rfl ae (.there .here) (oC (j:=0) (by rw [hlb];exact hpl k) ef)) ?_
    refine .z zg (.nil ?_)
    refine nB (nT ?_)
    exact .mk ⟨rfl,hs.out⟩
   ·rintro fr w ⟨rfl,hs⟩
    obtain ⟨pd,hp1,hp2,hp3⟩:=yV hrg hxt (m:=s.many.toNat+2) ak
    have hzl:=hpl (s.many.toNat+2)
    generalize hz:mU st.by_ x.t (s.many.toNat+2)=z at hp3 hzl ⊢
    have hzk:=fun k=>tB hrg hzl k
    refine nT ?_
    refine .ai (.z zg (.nil (.seq (.ai (.z zm (.z zg (.nil (.block ?_))))))))
    refine .loop (fun p:Nat×Value=>⟨62,[],[(9,p.2),(8,I (mU st.by_ z p.1)),(10,I z),(6,.slice (some ⟨bb,0,none⟩) (s.many.toNat+1) (s.many.toNat+1))]⟩)
     (fun p w=>p.1<pd∧∃en,cR 1 p.2 (Is (tN st.by_ z p.1)) en∧St H2 w (en:: .blk bc (Is st.cost):: .blk bb (fX st.by_):: .blk b1 [I s.many,.slice al s.bD.length cl]::σ))
     (fun p=>pd - p.1) (0,.slice none 0 0) bS
     ⟨ak,_,.nil 1 none,hs.nul⟩ ?_
    rintro ⟨k,v9⟩ w ⟨hk,en,hO,hs⟩
    dsimp only at hk hO ⊢
    refine .block (.ai (.z zm (.z zm (.z zm ?_))))
    refine .q hs (sP (k:=mU st.by_ z k) rfl rfl ay az rfl (hzk k)) ?_
    refine .z (zfa cJ) ?_
    refine .q hs (iD rfl ae (.there (.there .here)) (oC (j:=3) (by rw [hlb];exact hzk k) ef)) ?_
    refine .o (.buildSlice (cells:=[_]) hs cP rfl rfl fun b49 w hs=>?_)
    refine .o (.append (ys:=[I (ga st.by_ (mU st.by_ z k)).l]) hs da rfl rfl hO (.own .here rfl rfl) (by simp [Value.oneCell']) (fun l' h=>by simp [tN] at h;omega) ?_);intro v50 en50 w hO2 hs
    refine .z zg (.nil (.ai (.z zm (.z zm ?_))))
    refine .q hs (sP (k:=mU st.by_ z k) rfl rfl ay az rfl (hzk k)) ?_
    refine .z (zfa bQ) ?_
    refine .q hs (iD rfl ae (by repeat (first|exact .here|refine .there ?_)) (oC (j:=0) (by rw [hlb];exact hzk k) ef)) ?_
    refine .z zg (.nil (.ai (.z zm (.z zm (.z iP (.nil ?_))))))
    refine (.cz rfl (fun hc58=>?_) (fun hc58=>?_))
    ·refine .exit ?_
     refine xN (xT (xB (nT ?_)))
     refine .ai (.z zm ?_)
     have hO3:cR 1 v50 (Is (tN st.by_ z (k+1))) en50:=by rw [sW];simpa [Is] using hO2
     have hkz:mU st.by_ z (k+1)=z:=by
      have h3:((ga st.by_ (mU st.by_ z k)).f:Int)=z:=by simpa using hc58
      show (ga st.by_ (mU st.by_ z k)).f=z
      omega
     refine .o (.call Tryz.call270 rfl (jb hs hO3 (by rw [k8];omega)) ?_);rintro _ w ⟨en',hO4,hs⟩
     refine .nil (.ai (.z zm (.z zg (.z zg (.nil ?_)))))
     refine .ret (Fin.fY Tryz.results221 rfl rfl ?_)
     obtain ⟨H3,hle3,hRI,hs⟩:=cR.dH hO4 (by rw [List.length_reverse,k8];omega) hs .here
     exact ⟨H3,_,_,0,hle1.trans (hle2.trans hle3),rfl,hRI,.chain hok hns (by rw [hn];exact hnr) (by rw [hn];exact hz.symm) ak ak hkz rfl,hs.sb⟩
    ·refine .skip ?_
     refine nB (nT ?_)
     exact ⟨(k+1,v50),bS,⟨by
      dsimp only
      have:k+1≠pd:=fun e=>hc58 (congrArg (Nat.cast:Nat→Int) (show mU st.by_ z (k+1)=z by rw [e];exact hp3))
      omega,en50,by rw [sW];simpa [Is] using hO2,hs.sb⟩,by dsimp only;omega⟩
end Go.Proofs.YteajddicacjkhaaGreat
namespace Go.Proofs.YteajddicacjkhaaGreat
open Go.MW
inductive wm(a:de)(l:List Prb)(vs:List Int):Int→Prop
 |ask {e:Int} (h:fW a l e) (he:e≠0):wm a l vs e
 |size (h:fW a l 0) (h1:vs.length≠l.length):wm a l vs 92
 |ok (h:fW a l 0) (h1:vs.length=l.length):wm a l vs 0
theorem wm.zero{a:de}{l:List Prb}{vs:List Int}(h:wm a l vs 0):fW a l 0∧vs.length=l.length:=by
 generalize hz:(0:Int)=y at h
 cases h with
 |ask _ he=>exact (he hz.symm).elim
 |size=>omega
 |ok h h1=>exact ⟨h,h1⟩
theorem wm.uniq{a:de}{l:List Prb}{vs:List Int}{e f:Int}(h:wm a l vs e)(g:wm a l vs f):e=f:=by
 cases h with
 |ask h he=>
  cases g with
  |ask g _=>exact h.uniq g
  |size g _=>exact (he (h.uniq g)).elim
  |ok g _=>exact (he (h.uniq g)).elim
 |size h h1=>
  cases g with
  |ask g ge=>exact (ge (g.uniq h)).elim
  |size=>rfl
  |ok _ g1=>exact (h1 g1).elim
 |ok h h1=>
  cases g with
  |ask g ge=>exact (ge (g.uniq h)).elim
  |size _ g1=>exact (g1 h1).elim
  |ok=>rfl
structure lB(s:bq)(x:List Int):Prop where
 len:x.length=s.n
 zero:gi x 0=0
 free:∀v<s.n,-1000000000≤gi x v∧gi x v≤1000000000
 uE:dI s.bT (gi x)
inductive Ea(s:bq)(x:List Int):Int→Prop
 |bad (h:s.check≠0):Ea s x s.check
 |off (h:s.Ok) (h1:¬lB s x):Ea s x 25
 |ok (h:s.Ok) (h1:lB s x):Ea s x 0
theorem Ea.uniq{s:bq}{x:List Int}{e f:Int}(h:Ea s x e)(g:Ea s x f):e=f:=by
 cases h with
 |bad h=>
  cases g with
  |bad=>rfl
  |off g _=>exact (h (s.aH.2 g)).elim
  |ok g _=>exact (h (s.aH.2 g)).elim
 |off h h1=>
  cases g with
  |bad g=>exact (g (s.aH.2 h)).elim
  |off=>rfl
  |ok _ g1=>exact (h1 g1).elim
 |ok h h1=>
  cases g with
  |bad g=>exact (g (s.aH.2 h)).elim
  |off _ g1=>exact (g1 h1).elim
  |ok=>rfl
def Gw(a:de)(p:Prb)(lo hi e:Int):Prop:=(fW a [p] e∧e≠0∧lo=0∧hi=0)∨(fW a [p] 0∧e=0∧∃l h,cQ a.sys (Ef a.sys.many p.u) l h 0∧lo=l - p.t∧hi=h+p.t)
theorem Gw.uniq{a:de}{p:Prb}{lo hi e lo' hi' e':Int}(h:Gw a p lo hi e)(g:Gw a p lo' hi' e'):lo=lo'∧hi=hi'∧e=e':=by
 rcases h with ⟨h1,h2,h3,h4⟩|⟨h1,h2,l,u,h3,h4,h5⟩
 ·rcases g with ⟨g1,g2,g3,g4⟩|⟨g1,g2,_⟩
  ·exact ⟨ak,ak,h1.uniq g1⟩
  ·exact (h2 (h1.uniq g1)).elim
 ·rcases g with ⟨g1,g2,g3,g4⟩|⟨g1,g2,l',u',g3,g4,g5⟩
  ·exact (g2 (g1.uniq h1)).elim
  ·obtain ⟨rfl,rfl,_⟩:=h3.uniq g3
   exact ⟨ak,ak,ak⟩
end Go.Proofs.YteajddicacjkhaaGreat
namespace Go.Proofs.YteajddicacjkhaaGreat
open Go.MW
variable{H:bp}{w:World}{σ:List Ent}
theorem uy{v:Value}{ls:List Int}{g:Nat}{cap:List Value}{q:Int→Prop}(hs:St H w σ)(hr:RI H v ls)
  (hc:∀args w,(callFunc g args).run Tryz.prog w= .ok (.enter g args) w) (hp:∀w l,St H w σ→Cl Tryz.prog g ([I l]++cap) w fun u w'=>∃b,u= .bool b∧(b=true↔q l)∧St H w' σ):
  Cl Tryz.prog 228 [v,.func (.func g) #[] cap.toArray] w fun u w'=>∃i,u=I i∧(0≤i↔∃p∈ls,q p)∧St H w' σ:=by
 obtain ⟨a,c,rfl⟩:=RI.shape hr
 have hl:=(RI.len hr).2.2
 refine Cl.o Tryz.func228 Tryz.ntmps228 ag2 ?_
 refine .ai (.z zg (.nil (.seq (.ai (.z zm (.z (dp af) (.z zm (.nil ?_))))))))
 refine .for (N:=ls.length) (J:=fun k fr w=>fr=[(1,.func (.func g) #[] cap.toArray),(0,.slice a ls.length c)]∧St H w σ∧∀j<k,∀l,ls[j]? =some l→¬q l) ak ?_ ?_ ?_
 ·exact .mk ⟨rfl,hs,fun j hj=>by omega⟩
 ·rintro k fr w hk ⟨rfl,hs,hno⟩
  obtain ⟨l,hl⟩:=nth hk
  refine .block (.ai (.z zm (.z zg (.nil (.ai (.z zm (.z zm (.z zm ?_))))))))
  first|(refine .ixv hs af aj ?_;intro b14 o14 hc14)|refine .z (zix af aj) ?_
  refine .y hs (zld ae) ?_
  refine .o (.lZ (first:=[]) rfl rfl hc (hp _ _ hs) ?_);rintro _ w ⟨b16,rfl,hb16,hs⟩
  refine .nil ?_
  refine (.cond rfl (fun hc16=>?_) (fun hc16=>?_))
  ·refine .ai (.z zm (.z zg (.nil ?_)))
   refine .ret (rB (rT (rB (rT (Fin.bg qp rfl ?_)))))
   exact ⟨_,rfl,⟨fun _=>⟨l,List.mem_of_getElem? hl,hb16.1 hc16⟩,fun _=>by omega⟩,hs⟩
  ·refine .skip ?_
   refine nB (nT ?_)
   exact .mk ⟨rfl,hs,eA hno hl (fun h=>by rw [hb16.2 h] at hc16;cases hc16)⟩
 ·rintro fr w ⟨rfl,hs,hno⟩
  refine nT ?_
  refine .ai (.z zg (.nil ?_))
  refine .ret (Fin.bg qp rfl ?_)
  exact ⟨_,rfl,⟨fun h=>by omega,fun ⟨p,h1,h2⟩=>by
   obtain ⟨j,hj⟩:=List.getElem?_of_mem h1
   exact (hno j (List.getElem?_eq_some_iff.1 hj).1 p hj h2).elim⟩,hs⟩
theorem qm{v:Value}{ls:List Int}{g:Nat}{cap:List Value}{q:Int→Prop}(hs:St H w σ)(hr:RI H v ls)
  (hc:∀args w,(callFunc g args).run Tryz.prog w= .ok (.enter g args) w) (hp:∀w l,St H w σ→Cl Tryz.prog g ([I l]++cap) w fun u w'=>∃b,u= .bool b∧(b=true↔q l)∧St H w' σ):
  Cl Tryz.prog 185 [v,.func (.func g) #[] cap.toArray] w fun u w'=>∃b,u= .bool b∧(b=true↔∃p∈ls,q p)∧St H w' σ:=by
 refine Cl.o Tryz.func185 Tryz.ntmps185 ag2 ?_
 refine .ai (.z zg (.nil (.ai (.z zm (.z zm ?_)))))
 refine .o (.call Tryz.call228 rfl (uy hs hr hc hp) ?_);rintro _ w ⟨i,rfl,hi,hs⟩
 refine .z sC (.z zg (.nil ?_))
 refine .ret (Fin.bg Tryz.results185 rfl ?_)
 exact ⟨_,rfl,by simp only [decide_eq_true_eq];exact hi,hs⟩
theorem oq{n:Int}(hs:St H w σ):Cl Tryz.prog 198 [I n] w fun v w'=>∃b,v= .bool b∧(b=true↔¬(-1000000000≤n∧n≤1000000000))∧St H w' σ:=by
 refine Cl.o Tryz.func198 Tryz.ntmps198 ag1 ?_
 refine .ai (.z zg (.nil (.ai (.z zm ?_))))
 refine .o (.call zn rfl (dD hs) ?_);rintro _ w ⟨rfl,hs⟩
 refine .z eL (.z zg (.nil ?_))
 refine .ret (Fin.bg Tryz.results198 rfl ?_)
 exact ⟨_,rfl,by simp;omega,hs⟩
theorem lr{v vx:Value}{s:bq}{x:List Int}(hs:St H w σ)(hr:RSy H v s)(hx:RI H vx x):
  Cl Tryz.prog 134 [v,vx] w fun u w'=>∃e,u=I e∧Ea s x e∧St H w' σ:=by
 obtain ⟨ul,rfl,hl⟩:=hr
 obtain ⟨al,cl,rfl⟩:=RL.shape hl
 obtain ⟨ax,cx,rfl⟩:=RI.shape hx
 refine Cl.o Tryz.func134 Tryz.ntmps134 ag2 ?_
 refine .ai ?_
 refine .bx hs fun b2 w hs=>?_
 refine .z zg (.nil (.seq (.ai (.y hs (zls [_,_] bh aC) ?_))))
 refine .o (.call Tryz.call197 rfl (fq (s:=s) hs ⟨_,rfl,hl⟩) ?_);rintro _ w ⟨rfl,hs⟩
 refine .z zg (.nil (.ai (.z zm (.z ia (.nil ?_)))))
 skip
 refine (.dU rfl (fun hc11=>?_) (fun hc11=>?_))
 ·refine .ai (.z zm (.z zg (.nil ?_)))
  refine .ret (rT (Fin.bg qs rfl ?_))
  exact ⟨_,rfl,.bad hc11,hs.out⟩
 ·refine .skip ?_
  refine nT ?_
  refine .seq (.ai ?_)
  have hok:s.Ok:=s.aH.1 (by simpa using hc11)
  have hm0:=hok.m0
  have hm1:=hok.m1
  have hll:=hok.len
  have hnn:(s.n:Int)=s.many+1:=by simp only [bq.n];omega
  refine .z zm (.z (dp af) (.z (zfa bL) (.y hs (zld ae) (.z dP (.z ia (.z zm ?_))))))
  refine .DV (t':=19) rfl (fun hb19=>?_) (fun hb19=>?_)
  ·refine .gFs 4 6 false rfl rfl rfl ?_
   refine .z zpT (.z zm ?_)
   refine .gFs 2 12 false rfl rfl rfl ?_
   refine .z zpT (.nil ?_)
   refine (.cT ?_)
   refine .ai (.z zg (.nil ?_))
   refine .ret (rT (Fin.bg qs rfl ?_))
   first
    |exact ⟨_,rfl,.ok hok ⟨ak,by first|omega|(simpa using hb25),fun v hv=>hfree v ak,dz.2 fun y hy=>by
      obtain ⟨i,hi⟩:=List.getElem?_of_mem hy
      exact h1 i (List.getElem?_eq_some_iff.1 hi).1 y hi⟩,hs.out⟩
    |exact ⟨_,rfl,.off hok (fun h=>by have:=h.len;omega),hs.out⟩
    |exact ⟨_,rfl,.off hok (fun h=>by have:=h.zero;first|omega|(simp at hb25;omega)),hs.out⟩
    |exact ⟨_,rfl,.off hok (fun h=>by
      obtain ⟨p,h1,h2⟩:=hb27.1 hc28
      obtain ⟨i,hi⟩:=List.getElem?_of_mem h1
      have hil:=(List.getElem?_eq_some_iff.1 hi).1
      have:=bE hil
      rw [hi] at this
      cases this
      exact h2 (h.free i (by have:=h.len;omega))),hs.out⟩
    |exact ⟨_,rfl,.off hok (fun h=>by
      have h8:=dz.1 h.uE y (List.mem_of_getElem? hy)
      omega),hs.out⟩
  ·refine .gT rfl rfl ?_
   refine .z zm ?_
   refine .gT rfl rfl ?_
   refine .ixX (enc:=fun x=>[I x]) hs hx rfl rfl af aj (bE (l:=x) (i:=0) ak) rfl ?_;intro b21 o21 hc21;replace hc21:=bH.one hc21
   refine .gT rfl rfl ?_
   refine .y hs (zld ae) ?_
   refine .gT rfl rfl ?_
   refine .z ia (.z zpF (.z zm ?_))
   refine .DV (t':=25) rfl (fun hb25=>?_) (fun hb25=>?_)
   ·refine .gFs 2 12 false rfl rfl rfl ?_
    refine .z zpT (.nil ?_)
    refine (.cT ?_)
    refine .ai (.z zg (.nil ?_))
    refine .ret (rT (Fin.bg qs rfl ?_))
    first
     |exact ⟨_,rfl,.ok hok ⟨ak,by first|omega|(simpa using hb25),fun v hv=>hfree v ak,dz.2 fun y hy=>by
       obtain ⟨i,hi⟩:=List.getElem?_of_mem hy
       exact h1 i (List.getElem?_eq_some_iff.1 hi).1 y hi⟩,hs.out⟩
     |exact ⟨_,rfl,.off hok (fun h=>by have:=h.len;omega),hs.out⟩
     |exact ⟨_,rfl,.off hok (fun h=>by have:=h.zero;first|omega|(simp at hb25;omega)),hs.out⟩
     |exact ⟨_,rfl,.off hok (fun h=>by
       obtain ⟨p,h1,h2⟩:=hb27.1 hc28
       obtain ⟨i,hi⟩:=List.getElem?_of_mem h1
       have hil:=(List.getElem?_eq_some_iff.1 hi).1
       have:=bE hil
       rw [hi] at this
       cases this
       exact h2 (h.free i (by have:=h.len;omega))),hs.out⟩
     |exact ⟨_,rfl,.off hok (fun h=>by
       have h8:=dz.1 h.uE y (List.mem_of_getElem? hy)
       omega),hs.out⟩
   ·refine .gT rfl rfl ?_
    refine .z zm ?_
    refine .gT rfl rfl ?_
    refine .o (.call Tryz.call185 rfl (qm (q:=fun n=>¬(-1000000000≤n∧n≤1000000000)) (cap:=[]) hs hx Tryz.call198 (fun w n hs=>oq hs)) ?_);rintro _ w ⟨b27,rfl,hb27,hs⟩
    refine .z zpF (.nil ?_)
    refine (.cond rfl (fun hc28=>?_) (fun hc28=>?_))
    ·refine .ai (.z zg (.nil ?_))
     refine .ret (rT (Fin.bg qs rfl ?_))
     first
      |exact ⟨_,rfl,.ok hok ⟨ak,by first|omega|(simpa using hb25),fun v hv=>hfree v ak,dz.2 fun y hy=>by
        obtain ⟨i,hi⟩:=List.getElem?_of_mem hy
        exact h1 i (List.getElem?_eq_some_iff.1 hi).1 y hi⟩,hs.out⟩
      |exact ⟨_,rfl,.off hok (fun h=>by have:=h.len;omega),hs.out⟩
      |exact ⟨_,rfl,.off hok (fun h=>by have:=h.zero;first|omega|(simp at hb25;omega)),hs.out⟩
      |exact ⟨_,rfl,.off hok (fun h=>by
        obtain ⟨p,h1,h2⟩:=hb27.1 hc28
        obtain ⟨i,hi⟩:=List.getElem?_of_mem h1
        have hil:=(List.getElem?_eq_some_iff.1 hi).1
        have:=bE hil
        rw [hi] at this
        cases this
        exact h2 (h.free i (by have:=h.len;omega))),hs.out⟩
      |exact ⟨_,rfl,.off hok (fun h=>by
        have h8:=dz.1 h.uE y (List.mem_of_getElem? hy)
        omega),hs.out⟩
    ·refine .skip ?_
     refine nT ?_
     refine .seq (.ai (.z (zfa bR) (.y hs (zld dw) (.z (dp aK) (.z zm (.nil ?_))))))
     refine .for (N:=s.bD.length) (J:=fun k fr w=>fr=[(30,.slice al s.bD.length cl),(1,.slice ax x.length cx)]∧(∀i<k,∀y,s.bD[i]? =some y→gi x y.B.toNat≤gi x y.A.toNat+y.M)∧St H w (.blk b2 [I s.many,.slice al s.bD.length cl]::σ)) ak ?_ ?_ ?_
     ·exact .mk ⟨rfl,fun i hi=>by omega,hs⟩
     ·have hfree:∀v<x.length,-1000000000≤gi x v∧gi x v≤1000000000:=fun v hv=>by
       apply Classical.byContradiction
       intro h
       have:=hb27.2 ⟨gi x v,List.mem_of_getElem? (bE hv),h⟩
       subst this
       simp at hc28
      rintro k fr w hk ⟨rfl,h1,hs⟩
      obtain ⟨y,hy⟩:=nth hk
      obtain ⟨⟨y1,y2⟩,⟨y3,y4⟩,y5,y6,-⟩:=hok.lim y (List.mem_of_getElem? hy)
      have z1:=hfree y.B.toNat ak
      have z2:=hfree y.A.toNat ak
      refine .block (.ai ?_)
      refine .ixX (enc:=Lim.c) hs hl rfl rfl aK aW hy rfl ?_;intro b34 o34 hc34
      refine .q hs (bG (vs:=y.c) rfl fJ aW hc34) ?_
      refine .o (.alloc hs dK rfl fun b7 w hs=>?_)
      refine .o (.aI (vs:=y.c) hs rfl rfl aW fun w hs=>?_)
      refine .nil ?_
      refine .seq (.draw mix rfl hs fun w hs=>?_)
      refine .z 0 rfl zm ?_;refine .z 1 rfl (zfa fl) ?_;refine .y 2 rfl hs ae ?_
      refine .ixX (enc:=fun x=>[I x]) (i:=3) hs rfl an .none hx rfl rfl af aj (bE (l:=x) (i:=y.B.toNat) ak) ak ?_;intro b39 o39 hc39;replace hc39:=bH.one hc39
      refine .r (i:=4) hs rfl an .none (a6 rfl ae hc39) ?_
      refine .z 5 rfl zm ?_;refine .z 6 rfl (zfa eJ) ?_;refine .y 7 rfl hs ae ?_
      refine .ixX (enc:=fun x=>[I x]) (i:=8) hs rfl an .none hx rfl rfl af aj (bE (l:=x) (i:=y.A.toNat) ak) ak ?_;intro b44 o44 hc44;replace hc44:=bH.one hc44
      refine .r (i:=9) hs rfl an .none (a6 rfl ae hc44) ?_
      refine .z 10 rfl fu ?_;refine .z 11 rfl (zfa fk) ?_;refine .y 12 rfl hs ae ?_;refine .z 13 rfl nu ?_;refine .D hs ?_
      refine (.cz rfl (fun hc49=>?_) (fun hc49=>?_))
      ·refine .ai (.z zg (.nil ?_))
       refine .ret (rB (rT (rB (rT (Fin.bg qs rfl ?_)))))
       first
        |exact ⟨_,rfl,.ok hok ⟨ak,by first|omega|(simpa using hb25),fun v hv=>hfree v ak,dz.2 fun y hy=>by
          obtain ⟨i,hi⟩:=List.getElem?_of_mem hy
          exact h1 i (List.getElem?_eq_some_iff.1 hi).1 y hi⟩,hs.out⟩
        |exact ⟨_,rfl,.off hok (fun h=>by have:=h.len;omega),hs.out⟩
        |exact ⟨_,rfl,.off hok (fun h=>by have:=h.zero;first|omega|(simp at hb25;omega)),hs.out⟩
        |exact ⟨_,rfl,.off hok (fun h=>by
          obtain ⟨p,h1,h2⟩:=hb27.1 hc28
          obtain ⟨i,hi⟩:=List.getElem?_of_mem h1
          have hil:=(List.getElem?_eq_some_iff.1 hi).1
          have:=bE hil
          rw [hi] at this
          cases this
          exact h2 (h.free i (by have:=h.len;omega))),hs.out⟩
        |exact ⟨_,rfl,.off hok (fun h=>by
          have h8:=dz.1 h.uE y (List.mem_of_getElem? hy)
          omega),hs.out⟩
      ·refine .skip ?_
       refine nB (nT ?_)
       exact .mk ⟨rfl,fun i hi z hz=>by
        by_cases e:i=k
        ·subst e;rw [hy] at hz;cases hz;omega
        ·exact h1 i ak z hz,hs.out⟩
     ·have hfree:∀v<x.length,-1000000000≤gi x v∧gi x v≤1000000000:=fun v hv=>by
       apply Classical.byContradiction
       intro h
       have:=hb27.2 ⟨gi x v,List.mem_of_getElem? (bE hv),h⟩
       subst this
       simp at hc28
      rintro fr w ⟨rfl,h1,hs⟩
      refine nT ?_
      refine .ai (.z zg (.nil ?_))
      refine .ret (Fin.bg qs rfl ?_)
      first
       |exact ⟨_,rfl,.ok hok ⟨ak,by first|omega|(simpa using hb25),fun v hv=>hfree v ak,dz.2 fun y hy=>by
         obtain ⟨i,hi⟩:=List.getElem?_of_mem hy
         exact h1 i (List.getElem?_eq_some_iff.1 hi).1 y hi⟩,hs.out⟩
       |exact ⟨_,rfl,.off hok (fun h=>by have:=h.len;omega),hs.out⟩
       |exact ⟨_,rfl,.off hok (fun h=>by have:=h.zero;first|omega|(simp at hb25;omega)),hs.out⟩
       |exact ⟨_,rfl,.off hok (fun h=>by
         obtain ⟨p,h1,h2⟩:=hb27.1 hc28
         obtain ⟨i,hi⟩:=List.getElem?_of_mem h1
         have hil:=(List.getElem?_eq_some_iff.1 hi).1
         have:=bE hil
         rw [hi] at this
         cases this
         exact h2 (h.free i (by have:=h.len;omega))),hs.out⟩
       |exact ⟨_,rfl,.off hok (fun h=>by
         have h8:=dz.1 h.uE y (List.mem_of_getElem? hy)
         omega),hs.out⟩
end Go.Proofs.YteajddicacjkhaaGreat
namespace Go.Proofs.YteajddicacjkhaaGreat
open Go.MW
def yx(a:de)(A B:List Int)(k:Nat):Int:=aE (fun i=>gi a.ws i*(gi B i - gi A i)) k
inductive ApR(a:de)(l:List Prb)(A B:List Int):Int→Int→Prop
 |B6 (h1:¬(lB a.sys A∧lB a.sys B)):ApR a l A B 0 25
 |far (h1:lB a.sys A) (h2:lB a.sys B) (h3:¬FP l (gi A) (gi B)):ApR a l A B 0 92
 |ok (h1:lB a.sys A) (h2:lB a.sys B) (h3:FP l (gi A) (gi B)):ApR a l A B (IntKind.i64.wrap (yx a A B a.ws.length)) 0
theorem ApR.uniq{a:de}{l:List Prb}{A B:List Int}{n m e f:Int}(h:ApR a l A B n e)(g:ApR a l A B m f):n=m∧e=f:=by
 cases h with
 |B6 h1=>
  cases g with
  |B6=>exact ⟨rfl,rfl⟩
  |far g1 g2 _=>exact (h1 ⟨g1,g2⟩).elim
  |ok g1 g2 _=>exact (h1 ⟨g1,g2⟩).elim
 |far h1 h2 h3=>
  cases g with
  |B6 g1=>exact (g1 ⟨h1,h2⟩).elim
  |far=>exact ⟨rfl,rfl⟩
  |ok _ _ g3=>exact (h3 g3).elim
 |ok h1 h2 h3=>
  cases g with
  |B6 g1=>exact (g1 ⟨h1,h2⟩).elim
  |far _ _ g3=>exact (g3 h3).elim
  |ok=>exact ⟨rfl,rfl⟩
def Gx(a:de)(l:List Prb)(A B:List Int)(n e:Int):Prop:=(fW a l e∧e≠0∧n=0)∨(fW a l 0∧ApR a l A B n e)
theorem Gx.uniq{a:de}{l:List Prb}{A B:List Int}{n m e f:Int}(h:Gx a l A B n e)(g:Gx a l A B m f):n=m∧e=f:=by
 rcases h with ⟨h1,h2,h3⟩|⟨h1,h2⟩
 ·rcases g with ⟨g1,g2,g3⟩|⟨g1,g2⟩
  ·exact ⟨ak,h1.uniq g1⟩
  ·exact (h2 (h1.uniq g1)).elim
 ·rcases g with ⟨g1,g2,g3⟩|⟨g1,g2⟩
  ·exact (g2 (g1.uniq h1)).elim
  ·exact h2.uniq g2
structure Fw(a:de)(l:List Prb)(A B:List Int):Prop where
 kA:lB a.sys A
 kB:lB a.sys B
 near:FP l (gi A) (gi B)
 most:ql a l (yx a A B a.ws.length)
 meet:DC A B l=0
theorem Eb.uniq{a:de}{l:List Prb}{x y e f:Int}(h:Eb a l x e)(g:Eb a l y f):x=y∧e=f:=by
 rcases h with ⟨h1,h2,h3⟩|⟨i,n,h1,h2,h3⟩
 ·rcases g with ⟨g1,g2,g3⟩|⟨j,m,g1,g2,g3⟩
  ·exact ⟨ak,ak⟩
  ·subst h1;have:=g3.lt;simp at this
 ·rcases g with ⟨g1,g2,g3⟩|⟨j,m,g1,g2,g3⟩
  ·subst g1;have:=h3.lt;simp at this
  ·refine ⟨?_,ak⟩
   have e1:=h3.le j g3.lt m g3.here
   have e2:=g3.le i h3.lt n h3.here
   rcases Nat.lt_trichotomy i j with e|e|e
   ·have:=g3.first i e n h3.here;omega
   ·omega
   ·have:=h3.first j e m g3.here;omega
theorem Fw.wrap{a:de}{l:List Prb}{A B:List Int}(hok:rN a)(h:Fw a l A B)(hin:∀p∈l,A7 a p):IntKind.i64.wrap (yx a A B a.ws.length)=yx a A B a.ws.length:=by
 obtain ⟨lo,hi,hR⟩:=hok.range
 have hb:=hR.bd
 obtain ⟨⟨x,y,g1,g2⟩,g3⟩:=h.most
 have h1:=zv.le hR g1
 obtain ⟨z,hz⟩:=zv.some hok hin
 have h2:=g3 z z hz
 exact iK ak
def gtw(p:Pck)(j:Nat):List Int×List Int:=p.fails.getD j ([],[])
structure FG(a:de)(l:List Prb)(p:Pck)(k:Nat):Prop where
 here:(od l.length)[k]? =some p.probes
 len:p.fails.length=k
 width:p.width≤a.width
 worst:CWR a (pv l p.probes) p.width p.bound p.uses 0
 fails:∀(j:Nat) (cj:List Int),j<k→(od l.length)[j]? =some cj→∃n,ApR a (pv l cj) (gtw p j).1 (gtw p j).2 n 0∧a.width<n
def D2(a:de)(l:List Prb)(p:Pck)(e:Int):Prop:=(fW a l e∧e≠0)∨(fW a l 0∧((e=0∧∃k,FG a l p k)∨(e=93∧¬∃k,FG a l p k)))
theorem D2.uniq{a:de}{l:List Prb}{p:Pck}{e f:Int}(h:D2 a l p e)(g:D2 a l p f):e=f:=by
 rcases h with ⟨h1,h2⟩|⟨h1,h2⟩
 ·rcases g with ⟨g1,g2⟩|⟨g1,g2⟩
  ·exact h1.uniq g1
  ·exact (h2 (h1.uniq g1)).elim
 ·rcases g with ⟨g1,g2⟩|⟨g1,g2⟩
  ·exact (g2 (g1.uniq h1)).elim
  ·rcases h2 with ⟨h2,h3⟩|⟨h2,h3⟩<;>rcases g2 with ⟨g2,g3⟩|⟨g2,g3⟩
   ·omega
   ·exact (g3 h3).elim
   ·exact (h3 g3).elim
   ·omega
end Go.Proofs.YteajddicacjkhaaGreat
namespace Go.Proofs
open Go.Shelf
def Tryz.xd:Go.Shelf.Ren:=⟨fun|189=>303|125=>311|257=>310|128=>323|129=>324|294=>314|295=>315|296=>316|297=>317|298=>318|299=>319|216=>320|300=>321|301=>322|328=>325|329=>326|330=>327|331=>328|332=>329|215=>330|343=>331|n=>n,fun|28=>34|3=>3|46=>260|0=>0|51=>340|53=>343|4=>4|183=>348|182=>347|131=>165|5=>5|9=>9|218=>354|222=>358|228=>360|229=>293|n=>n,fun|n=>n⟩
theorem Tryz.Az:Go.Proofs.Lays.n189 Tryz.prog Tryz.xd:={
 mixed:=by kernel_rfl
 f125:=Tryz.func311.trans (congrArg some (by kernel_rfl))
 f128:=Tryz.func323.trans (congrArg some (by kernel_rfl))
 f129:=Tryz.func324.trans (congrArg some (by kernel_rfl))
 f189:=Tryz.func303.trans (congrArg some (by kernel_rfl))
 f215:=Tryz.func330.trans (congrArg some (by kernel_rfl))
 f216:=Tryz.func320.trans (congrArg some (by kernel_rfl))
 f257:=Tryz.func310.trans (congrArg some (by kernel_rfl))
 f294:=Tryz.func314.trans (congrArg some (by kernel_rfl))
 f295:=Tryz.func315.trans (congrArg some (by kernel_rfl))
 f296:=Tryz.func316.trans (congrArg some (by kernel_rfl))
 f297:=Tryz.func317.trans (congrArg some (by kernel_rfl))
 f298:=Tryz.func318.trans (congrArg some (by kernel_rfl))
 f299:=Tryz.func319.trans (congrArg some (by kernel_rfl))
 f300:=Tryz.func321.trans (congrArg some (by kernel_rfl))
 f301:=Tryz.func322.trans (congrArg some (by kernel_rfl))
 f328:=Tryz.func325.trans (congrArg some (by kernel_rfl))
 f329:=Tryz.func326.trans (congrArg some (by kernel_rfl))
 f330:=Tryz.func327.trans (congrArg some (by kernel_rfl))
 f331:=Tryz.func328.trans (congrArg some (by kernel_rfl))
 f332:=Tryz.func329.trans (congrArg some (by kernel_rfl))
 f343:=Tryz.func331.trans (congrArg some (by kernel_rfl))
 t0:=Tryz.underlying0
 a0:=Tryz.isAgg0
 z0:=Tryz.sizeOf0
 v0:=Tryz.zeroValue0
 t3:=Tryz.underlying3
 a3:=Tryz.isAgg3
 z3:=Tryz.sizeOf3
 v3:=Tryz.zeroValue3
 t4:=Tryz.underlying4
 a4:=Tryz.isAgg4
 z4:=Tryz.sizeOf4
 v4:=Tryz.zeroValue4
 t5:=Tryz.underlying5
 a5:=Tryz.isAgg5
 z5:=Tryz.sizeOf5
 v5:=Tryz.zeroValue5
 t9:=Tryz.underlying9
 a9:=Tryz.isAgg9
 z9:=Tryz.sizeOf9
 v9:=Tryz.zeroValue9
 t28:=Tryz.underlying34
 a28:=Tryz.isAgg34
 z28:=Tryz.sizeOf34
 v28:=Tryz.zeroValue34
 t46:=Tryz.underlying260
 a46:=Tryz.isAgg260
 z46:=Tryz.sizeOf260
 v46:=Tryz.zeroValue260
 t51:=Tryz.underlying340
 a51:=Tryz.isAgg340
 z51:=Tryz.sizeOf340
 v51:=Tryz.zeroValue340
 t53:=Tryz.underlying343
 a53:=Tryz.isAgg343
 z53:=Tryz.sizeOf343
 v53:=Tryz.zeroValue343
 t131:=Tryz.underlying165
 a131:=Tryz.isAgg165
 z131:=Tryz.sizeOf165
 v131:=Tryz.zeroValue165
 t182:=Tryz.underlying347
 a182:=Tryz.isAgg347
 z182:=Tryz.sizeOf347
 v182:=Tryz.zeroValue347
 t183:=Tryz.underlying348
 a183:=Tryz.isAgg348
 z183:=Tryz.sizeOf348
 v183:=Tryz.zeroValue348
 t218:=Tryz.underlying354
 a218:=Tryz.isAgg354
 z218:=Tryz.sizeOf354
 v218:=Tryz.zeroValue354
 t222:=Tryz.underlying358
 a222:=Tryz.isAgg358
 z222:=Tryz.sizeOf358
 v222:=Tryz.zeroValue358
 t228:=Tryz.underlying360
 a228:=Tryz.isAgg360
 z228:=Tryz.sizeOf360
 v228:=Tryz.zeroValue360
 t229:=Tryz.underlying293
 a229:=Tryz.isAgg293
 z229:=Tryz.sizeOf293
 v229:=Tryz.zeroValue293}
def Tryz.vz:Go.Shelf.Ren:=⟨fun|20=>304|n=>n,fun|22=>34|3=>3|4=>4|0=>0|n=>n,fun|n=>n⟩
theorem Tryz.xX:Go.Proofs.Lays2.n20 Tryz.prog Tryz.vz:={
 mixed:=by kernel_rfl
 f20:=Tryz.func304.trans (congrArg some (by kernel_rfl))
 t0:=Tryz.underlying0
 a0:=Tryz.isAgg0
 z0:=Tryz.sizeOf0
 v0:=Tryz.zeroValue0
 t3:=Tryz.underlying3
 a3:=Tryz.isAgg3
 z3:=Tryz.sizeOf3
 v3:=Tryz.zeroValue3
 t4:=Tryz.underlying4
 a4:=Tryz.isAgg4
 z4:=Tryz.sizeOf4
 v4:=Tryz.zeroValue4
 t22:=Tryz.underlying34
 a22:=Tryz.isAgg34
 z22:=Tryz.sizeOf34
 v22:=Tryz.zeroValue34
 i3:=by kernel_rfl}
end Go.Proofs
namespace Go.Proofs.YteajddicacjkhaaGreat
open Go.Sort Go.RowKit
theorem BI(blk off cap:Nat)(zs:List Int)(w:World)(hH:Holds (Value.int .i64) w blk off zs.toArray)(hblk:blk<w.heap.size)(hsz:zs.length<4611686018427387904):
  Calls Tryz.prog 303 #[.slice (some ⟨blk,off,none⟩) zs.length cap] w fun e w'=>e= .returned (.tuple #[])∧∃n os,w'=grow (putRow (Value.int .i64) (Sort.ahead w n) blk off (zs.mergeSort fun x y=>decide (x≤y)).toArray) os:=
 Any.slices_Sort_int Tryz.Az blk off cap zs w hH hblk hsz
theorem tr(p:Option Addr)(cap:Nat)(w:World):Calls Tryz.prog 303 #[.slice p 0 cap] w fun e w'=>e= .returned (.tuple #[])∧w'=w:=
 Any.slices_Sort_int_none Tryz.Az p cap w
theorem wL(blk off cap:Nat)(zs:List Int)(w:World)(hH:Holds (Value.int .i64) w blk off zs.toArray)(hsz:zs.length≤9223372036854775807)(hcap:zs.length≤cap):
  Calls Tryz.prog 304 #[.slice (some ⟨blk,off,none⟩) zs.length cap] w fun e w'=>e= .returned (.slice (some ⟨blk,off,none⟩) (Lib.compact zs).length cap)∧∃q,w'=putRow (Value.int .i64) (Sort.ahead w q) blk off (Lib.compact zs++List.replicate (zs.length - (Lib.compact zs).length) 0).toArray:=
 Any.slices_Compact_int Tryz.xX blk off cap zs w hH hsz hcap
theorem pV(p:Option Addr)(cap:Nat)(w:World):Calls Tryz.prog 304 #[.slice p 0 cap] w fun e w'=>e= .returned (.slice p 0 cap)∧w'=w:=
 Any.slices_Compact_int_empty Tryz.xX p cap w
end Go.Proofs.YteajddicacjkhaaGreat
namespace Go.Proofs.YteajddicacjkhaaGreat
open Go.MW
variable{H:bp}{w:World}{σ:List Ent}
theorem pX{v:Value}{ls:List Int}{x:Int}(hs:St H w σ)(hr:RI H v ls):
  Cl Tryz.prog 305 [v,I x] w fun u w'=>∃i,u=I i∧(0≤i↔x∈ls)∧St H w' σ:=by
 obtain ⟨a,c,rfl⟩:=RI.shape hr
 have hl:=(RI.len hr).2.2
 refine Cl.o Tryz.func305 Tryz.ntmps305 ag2 ?_
 refine .ai (.z zg (.nil (.seq (.ai (.z zm (.z (dp af) (.z zm (.nil ?_))))))))
 refine .for (N:=ls.length) (J:=fun k fr w=>fr=[(1,I x),(0,.slice a ls.length c)]∧St H w σ∧∀j<k,∀y,ls[j]? =some y→¬x=y) ak ?_ ?_ ?_
 ·exact .mk ⟨rfl,hs,fun j hj=>by omega⟩
 ·rintro k fr w hk ⟨rfl,hs,hno⟩
  obtain ⟨y,hy⟩:=nth hk
  refine .block (.ai (.z zm (.z zg (.nil (.ai (.z zm (.z zm (.z zm ?_))))))))
  refine .ixY hs hr rfl rfl af aj hy rfl ?_;intro b14 o14 hc14
  refine .q hs (a6 rfl ae hc14) ?_
  refine .z iP (.nil ?_)
  refine (.cz rfl (fun hc16=>?_) (fun hc16=>?_))
  ·refine .ai (.z zm (.z zg (.nil ?_)))
   refine .ret (rB (rT (rB (rT (Fin.bg Tryz.results305 rfl ?_)))))
   exact ⟨_,rfl,⟨fun _=>by rw [hc16];exact List.mem_of_getElem? hy,fun _=>by omega⟩,hs⟩
  ·refine .skip ?_
   refine nB (nT ?_)
   exact .mk ⟨rfl,hs,eA hno hy hc16⟩
 ·rintro fr w ⟨rfl,hs,hno⟩
  refine nT ?_
  refine .ai (.z zg (.nil ?_))
  refine .ret (Fin.bg Tryz.results305 rfl ?_)
  exact ⟨_,rfl,⟨fun h=>by omega,fun h=>by
   obtain ⟨j,hj⟩:=List.getElem?_of_mem h
   exact (hno j (List.getElem?_eq_some_iff.1 hj).1 x hj rfl).elim⟩,hs⟩
theorem mP{v:Value}{ls:List Int}{x:Int}(hs:St H w σ)(hr:RI H v ls):
  Cl Tryz.prog 294 [v,I x] w fun u w'=>u= .bool (decide (x∈ls))∧St H w' σ:=by
 refine Cl.o Tryz.func294 Tryz.ntmps294 ag2 ?_
 refine .ai (.z zg (.nil (.ai (.z zm (.z zm ?_)))))
 refine .o (.call Tryz.call305 rfl (pX hs hr) ?_);rintro _ w ⟨i,rfl,hi,hs⟩
 refine .z sC (.z zg (.nil ?_))
 refine .ret (Fin.bg Tryz.results294 rfl ?_)
 exact ⟨by simp only [hi],hs⟩
set_option maxHeartbeats 1000000 in
theorem rn{v:Value}{s:bq}{g:Nat}{cap:List Value}(q:Nat→Lim→Bool)(hs:St H w σ)(hr:RSy H v s)(hlen:s.bD.length≤4398046510976)(hc:∀args w,(callFunc g args).run Tryz.prog w= .ok (.enter g args) w)
  (hp:∀w σ (k:Nat) (l:Lim),s.bD[k]? =some l→St H w σ→Cl Tryz.prog g ([I k,.agg l.c.toArray]++cap) w fun u w'=>u= .bool (q k l)∧St H w' σ):
  Cl Tryz.prog 292 [v,.func (.func g) #[] cap.toArray] w fun u w'=>∃H1,HLe H H1∧RSy H1 u ⟨s.many,ic q s.bD s.bD.length⟩∧St H1 w' σ:=by
 obtain ⟨ul,rfl,hl⟩:=hr
 obtain ⟨al,cl,rfl⟩:=RL.shape hl
 refine Cl.o Tryz.func292 Tryz.ntmps292 ag2 ?_
 refine .ai ?_
 refine .bx hs fun b2 w hs=>?_
 refine .o (.alloc hs ez rfl fun b4 w hs=>?_)
 refine .nil (.ai (.z (zfa bL) (.y hs (zld ae) (.z (zbd [_,_] my) ?_))))
 refine .o (.alloc hs ez rfl fun b5 w hs=>?_)
 refine .o (.aI (vs:=[_,_]) hs rfl rfl aC fun w hs=>?_)
 refine .nil (.seq (.ai (.z (zfa bR) (.y hs (zld dw) (.z (dp aK) (.z zm (.nil ?_)))))))
 refine .for (N:=s.bD.length) (J:=fun k fr w=>fr=[(12,.slice al s.bD.length cl),(1,.func (.func g) #[] cap.toArray),(5,.pointer (some ⟨b5,0,none⟩)),(4,.pointer (some ⟨b4,0,none⟩))]∧∃vL en,cR 4 vL (jn (ic q s.bD k)) en∧St H w (.blk b5 [I s.many,vL]:: .blk b4 [I 0,.slice none 0 0]::en::σ)) ak ?_ ?_ ?_
 ·exact .mk ⟨rfl,_,_,.nil 4 none,hs.nul.sb⟩
 ·rintro k fr w hk ⟨rfl,vL,en,hO,hs⟩
  obtain ⟨x,hx⟩:=nth (l:=s.bD) hk
  obtain ⟨aL,lL,cL,rfl,hL⟩:=hO.shape
  have hpl:=jM q s.bD k
  refine .block (.ai (.z zm ?_))
  refine .ixX hs hl rfl rfl aK aW hx rfl ?_;intro b17 o17 hc17
  refine .q hs (bG (vs:=x.c) rfl fJ aW hc17) ?_
  refine .o (.alloc hs dK rfl fun b7 w hs=>?_)
  refine .z zg ?_
  refine .o (.aI (vs:=x.c) hs rfl rfl aW fun w hs=>?_)
  refine .nil (.ai (.z zm (.z zm (.y hs (zls [_,_,_,_] fJ aW) ?_))))
  refine .o (.lZ (first:=[]) (cap:=cap) rfl rfl hc (hp _ _ k x hx hs) ?_);rintro _ w ⟨rfl,hs⟩
  refine .nil ?_
  refine (.cond rfl (fun hc22=>?_) (fun hc22=>?_))
  ·refine .region (.z (zfa bR) (.y hs (zld dw) (.y hs (zls [_,_,_,_] fJ aW) ?_)))
   refine .o (.buildSlice (cells:=x.c) hs ow rfl rfl fun b26 w hs=>?_)
   refine .o (.append (ys:=x.c) hs fb rfl rfl hO (.own .here rfl rfl) (by simp [Lim.c,Value.oneCell']) (fun l h=>by rw [rH] at h;omega) ?_);intro v27 en27 w hO2 hs
   obtain ⟨a27,l27,c27,rfl,h27⟩:=hO2.shape
   refine .z (zfa bR) ?_
   refine .o (.store hs rfl rfl sz fun w hs=>?_)
   refine .nil ?_
   refine nB (nT ?_)
   have e:ic q s.bD (k+1)=ic q s.bD k++[x]:=by rw [mT hx,if_pos hc22]
   rw [←CG,←rI,←e] at hO2
   exact .mk ⟨rfl,_,_,hO2,hs.sb⟩
  ·refine .skip ?_
   refine nB (nT ?_)
   have e:ic q s.bD (k+1)=ic q s.bD k:=by rw [mT hx,hc22];simp
   exact .mk ⟨rfl,_,_,by rw [e];exact hO,hs.sb⟩
 ·rintro fr w ⟨rfl,vL,en,hO,hs⟩
  obtain ⟨aL,lL,cL,rfl,hL⟩:=hO.shape
  have hpl:=jM q s.bD s.bD.length
  refine nT ?_
  refine .ai (.y hs (zls [_,_] bh aC) ?_)
  refine .o (.aI (vs:=[_,_]) hs rfl rfl aC fun w hs=>?_)
  refine .nil ?_
  refine .ret ?_
  obtain ⟨H1,g1,r1,hs⟩:=cR.ck (m:=4) (cs:=(ic q s.bD s.bD.length).map Lim.c) hO (fun c hc=>by simp only [List.mem_map] at hc;obtain ⟨x,_,rfl⟩:=hc;rfl) ak (by rw [List.length_map];omega) hs eF
  exact Fin.gQ [] [] hs fun w hs=>⟨_,results1 Tryz.results292 (dB (vs:=[_,_]) hs rfl bh aC),H1,g1,⟨_,rfl,r1⟩,hs.out⟩
theorem rp{b:Nat}{i:Int}{l:Lim}{vb:Value}{bs:List Int}(hs:St H w σ)(hb:Row H b [vb])(hr:RI H vb bs):
  Cl Tryz.prog 293 [I i,.agg l.c.toArray,.pointer (some ⟨b,0,none⟩)] w fun u w'=>u= .bool (!decide (l.S∈bs))∧St H w' σ:=by
 have hb0:cellAt H b 0=some vb:=by rw [hb.cell];rfl
 refine Cl.o Tryz.func293 Tryz.ntmps293 ag3 ?_
 refine .ai ?_
 refine .bx hs fun b4 w hs=>?_
 refine .z zg (.nil (.ai (.y hs (zld aq) (.z (zfa jt) (.y hs (zld ae) ?_)))))
 refine .o (.call Tryz.call294 rfl (mP hs hr) ?_);rintro _ w ⟨rfl,hs⟩
 refine .z eL (.z zg (.nil ?_))
 refine .ret (Fin.bg Tryz.results293 rfl ?_)
 exact ⟨rfl,hs.out⟩
theorem oo{v vb:Value}{s:bq}{bs:List Int}(hs:St H w σ)(hr:RSy H v s)(hb:RI H vb bs)(hlen:s.bD.length≤4398046510976):
  Cl Tryz.prog 266 [v,vb] w fun u w'=>∃H1,HLe H H1∧RSy H1 u (s.wo bs)∧St H1 w' σ:=by
 obtain ⟨ul,rfl,hl⟩:=hr
 obtain ⟨al,cl,rfl⟩:=RL.shape hl
 obtain ⟨ab,cb,rfl⟩:=RI.shape hb
 refine Cl.o Tryz.func266 Tryz.ntmps266 ag2 ?_
 refine .ai ?_
 refine .bx hs fun b2 w hs=>?_
 refine .bx hs fun b3 w hs=>?_
 refine .o (.alloc hs ez rfl fun b4 w hs=>?_)
 refine .nil (.ai (.y hs (zls [_,_] bh aC) ?_))
 refine .q hs (bX (f:=[]) (c:=[_]) rfl rfl) ?_
 obtain ⟨H1,hle1,r3,hs⟩:=hs.ck (b:=b3) eF
 refine .o (.call Tryz.call292 rfl (rn (g:=293) (cap:=[.pointer (some ⟨b3,0,none⟩)]) (s:=s) (fun _ l=> !decide (l.S∈bs)) hs ⟨_,rfl,hl.mono hle1⟩ hlen Tryz.call293 (fun w σ k l _ hs=>rp hs r3 (hb.mono hle1))) ?_);rintro _ w ⟨H2,hle2,⟨u7,rfl,hL7⟩,hs⟩
 rw [yU] at hL7
 obtain ⟨a7,c7,rfl⟩:=RL.shape hL7
 refine .o (.aI (vs:=[_,_]) hs rfl rfl aC fun w hs=>?_)
 refine .nil ?_
 refine .ret ?_
 exact Fin.gQ [] [] hs fun w hs=>⟨_,results1 Tryz.results266 (dB (vs:=[_,_]) hs rfl bh aC),H2,hle1.trans hle2,⟨_,rfl,hL7⟩,hs.out⟩
theorem qT{b cap:Nat}{xs:List Int}{sp:List Value}(hs:St H w (.blk b (Is xs++sp)::σ))(hl:xs.length≤17592186044416):
  Cl Tryz.prog 303 [.slice (some ⟨b,0,none⟩) xs.length cap] w fun u w'=>u= .tuple #[]∧St H w' (.blk b (Is (xs.mergeSort fun x y=>decide (x≤y))++sp)::σ):=
 (BI b 0 cap xs w hs.holds (hs.lt .here) ak).mono fun e w' ⟨he,m,os,hw⟩=>⟨_,he,rfl,by
  rw [hw]
  exact (hs.putRow (List.length_mergeSort _)).grow os⟩
theorem pW{a:Option Addr}{cap:Nat}(hs:St H w σ):
  Cl Tryz.prog 303 [.slice a 0 cap] w fun u w'=>u= .tuple #[]∧St H w' σ:=
 (tr a cap w).mono fun e w' ⟨he,hw⟩=>⟨_,he,rfl,by rw [hw];exact hs⟩
theorem nD{b cap:Nat}{xs:List Int}{sp:List Value}(hs:St H w (.blk b (Is xs++sp)::σ))(hl:xs.length≤17592186044416)(hcap:xs.length≤cap):
  Cl Tryz.prog 304 [.slice (some ⟨b,0,none⟩) xs.length cap] w fun u w'=>u= .slice (some ⟨b,0,none⟩) (Go.Lib.compact xs).length cap∧St H w' (.blk b (Is (Go.Lib.compact xs)++(Is (List.replicate (xs.length - (Go.Lib.compact xs).length) 0)++sp))::σ):=
 (wL b 0 cap xs w hs.holds ak hcap).mono fun e w' ⟨he,m,hw⟩=>⟨_,he,rfl,by
  rw [hw]
  have h:=Go.Lib.compact_length_le xs
  have:=hs.putRow (m:=m) (ys:=Go.Lib.compact xs++List.replicate (xs.length - (Go.Lib.compact xs).length) 0) (by simp;omega)
  have e2:Is (Go.Lib.compact xs++List.replicate (xs.length - (Go.Lib.compact xs).length) 0)=Is (Go.Lib.compact xs)++Is (List.replicate (xs.length - (Go.Lib.compact xs).length) 0):=List.map_append
  rw [e2,List.append_assoc] at this
  exact this⟩
theorem mQ{a:Option Addr}{cap:Nat}(hs:St H w σ):
  Cl Tryz.prog 304 [.slice a 0 cap] w fun u w'=>u= .slice a 0 cap∧St H w' σ:=
 (pV a cap w).mono fun e w' ⟨he,hw⟩=>⟨_,he,rfl,by rw [hw];exact hs⟩
theorem sj{v:Value}{xs:List Int}{en:Ent}(hs:St H w (en::σ))(hO:cR 1 v (Is xs) en)(hl:xs.length≤17592186044416):
  Cl Tryz.prog 290 [v] w fun u w'=>∃L en',cR 1 u (Is L) en'∧L.length≤xs.length∧er (fun x=>x∈xs) L∧St H w' (en'::σ):=by
 rcases hO with ⟨a,rfl,h0,rfl⟩|⟨b,len,cap,sp,rfl,rfl,h3,h4,h5⟩
 ·have hx:xs=[]:=by simpa using h0
  subst hx
  refine Cl.o Tryz.func290 Tryz.ntmps290 ag1 ?_
  refine .ai (.z zg (.nil (.ai (.z zm ?_))))
  refine .o (.call Tryz.call303 rfl (pW hs) ?_);rintro _ w ⟨rfl,hs⟩
  refine .nil (.ai (.z zm ?_))
  refine .o (.call Tryz.call304 rfl (mQ hs) ?_);rintro _ w ⟨rfl,hs⟩
  refine .z zg (.nil ?_)
  refine .ret (Fin.bg Tryz.results290 rfl ?_)
  exact ⟨[],_,.nil 1 a,db,.nil db,hs.out⟩
 ·obtain rfl:len=xs.length:=by simpa using h3.symm
  refine Cl.o Tryz.func290 Tryz.ntmps290 ag1 ?_
  refine .ai (.z zg (.nil (.ai (.z zm ?_))))
  refine .o (.call Tryz.call303 rfl (qT hs hl) ?_);rintro _ w ⟨rfl,hs⟩
  refine .nil (.ai (.z zm ?_))
  have hml:(xs.mergeSort fun x y=>decide (x≤y)).length=xs.length:=List.length_mergeSort _
  rw [←hml]
  refine .o (.call Tryz.call304 rfl (nD hs ak ak) ?_);rintro _ w ⟨rfl,hs⟩
  refine .z zg (.nil ?_)
  refine .ret (Fin.bg Tryz.results290 rfl ?_)
  have hcl:=Go.Lib.compact_length_le (xs.mergeSort fun x y=>decide (x≤y))
  have h4':xs.length+sp.length=cap:=by simpa using h4
  exact ⟨_,_,.inr ⟨b,_,cap,Is (List.replicate ((xs.mergeSort fun x y=>decide (x≤y)).length - (Go.Lib.compact (xs.mergeSort fun x y=>decide (x≤y))).length) 0)++sp,rfl,rfl,db,by simp;omega,ak⟩,ak,wM,hs⟩
theorem jj{v:Value}{s:bq}(hs:St H w σ)(hr:RSy H v s)(hlen:s.bD.length≤4398046510976):
  Cl Tryz.prog 264 [v] w fun u w'=>∃L en,cR 1 u (Is L) en∧L.length≤s.bD.length∧er (D0 s.bD) L∧St H w' (en::σ):=by
 obtain ⟨ul,rfl,hl⟩:=hr
 obtain ⟨al,cl,rfl⟩:=RL.shape hl
 refine Cl.o Tryz.func264 Tryz.ntmps264 ag1 ?_
 refine .ai ?_
 refine .bx hs fun b1 w hs=>?_
 refine .z zg (.nil (.ai (.z zg (.nil (.seq (.ai (.z (zfa bR) (.y hs (zld dw) (.z (dp aK) ?_)))))))))
 refine .z zm (.nil ?_)
 refine .for (N:=s.bD.length) (J:=fun k fr w=>∃v3 en,cR 1 v3 (Is ((s.bD.take k).map Lim.S)) en∧fr=[(3,v3),(7,.slice al s.bD.length cl)]∧St H w (en::σ)) ak ?_ ?_ ?_
 ·exact .mk ⟨_,_,.nil 1 none,rfl,hs.nul.sb⟩
 ·rintro k fr w hk ⟨v3,en,hO,rfl,hs⟩
  obtain ⟨x,hx⟩:=nth (l:=s.bD) hk
  obtain ⟨a3,l3,c3,rfl,h3⟩:=hO.shape
  refine .block (.ai ?_)
  refine .ixX hs hl rfl rfl aK aW hx rfl ?_;intro b11 o11 hc11
  refine .q hs (bG (vs:=x.c) rfl fJ aW hc11) ?_
  refine .o (.alloc hs dK rfl fun b5 w hs=>?_)
  refine .o (.aI (vs:=x.c) hs rfl rfl aW fun w hs=>?_)
  refine .nil (.region (.z zm (.z (zfa jt) (.y hs (zld ae) ?_))))
  refine .o (.buildSlice (cells:=[_]) hs cP rfl rfl fun b16 w hs=>?_)
  refine .o (.append (ys:=Is [x.S]) hs da rfl rfl hO (.own .here rfl rfl) (lC _) (fun l' h=>by simp at h;omega) ?_);intro v17 en17 w hO2 hs
  rw [←List.map_append] at hO2
  refine .z zg (.nil ?_)
  refine nB (nT ?_)
  exact .mk ⟨_,_,by rw [bU hx,List.map_append];exact hO2,rfl,hs.sb⟩
 ·rintro fr w ⟨v3,en,hO,rfl,hs⟩
  rw [List.take_length] at hO
  refine nT ?_
  refine .ai (.z zm ?_)
  refine .o (.call Tryz.call290 rfl (sj hs hO (by rw [List.length_map];omega)) ?_);rintro v20 w ⟨L,en',hO',hL,hR,hs⟩
  rw [List.length_map] at hL
  refine .z zg (.nil ?_)
  refine .ret (Fin.bg Tryz.results264 rfl ?_)
  exact ⟨L,en',hO',hL,hR.congr fun x=>by simp [D0],hs⟩
theorem lQ{v:Value}{en:Ent}{xs:List Int}{g:Nat}{cap:List Value}(q:Int→Bool)(hs:St H w (en::σ))(hO:cR 1 v (Is xs) en)(hl:xs.length≤17592186044416)(hc:∀args w,(callFunc g args).run Tryz.prog w= .ok (.enter g args) w)
  (hp:∀H' w σ (n:Int),n∈xs→HLe H H'→St H' w σ→Cl Tryz.prog g ([I n]++cap) w fun u w'=>∃H1,HLe H' H1∧u= .bool (q n)∧St H1 w' σ):
  Cl Tryz.prog 228 [v,.func (.func g) #[] cap.toArray] w fun u w'=>∃H1 i,HLe H H1∧u=I i∧((i= -1∧∀x∈xs,q x=false)∨(∃(k:Nat) (x:Int),i=k∧xs[k]? =some x∧q x=true∧∀j<k,∀y,xs[j]? =some y→q y=false))∧St H1 w' (en::σ):=by
 obtain ⟨a,c,rfl⟩:=hO.xF
 refine Cl.o Tryz.func228 Tryz.ntmps228 ag2 ?_
 refine .ai (.z zg (.nil (.seq (.ai (.z zm (.z (dp af) (.z zm (.nil ?_))))))))
 refine .for (N:=xs.length) (J:=fun k fr w=>fr=[(1,.func (.func g) #[] cap.toArray),(0,.slice a xs.length c)]∧∃H1,HLe H H1∧(∀j<k,∀y,xs[j]? =some y→q y=false)∧St H1 w (en::σ)) ak ?_ ?_ ?_
 ·exact .mk ⟨rfl,H,HLe.refl H,fun j hj=>by omega,hs⟩
 ·rintro k fr w hk ⟨rfl,H1,hle1,hno,hs⟩
  have hx:=bE hk
  obtain ⟨b,c',sp,hv,rfl,_⟩:=hO.blk ak
  cases hv
  refine .block (.ai (.z zm (.z zg (.nil (.ai (.z zm (.z zm (.z zm (.z (zix af aj) ?_)))))))))
  refine .q hs (iD rfl ae (hv:=ew hk sp)) ?_
  refine .o (.lZ (first:=[]) (cap:=cap) rfl rfl hc (hp _ _ _ (gi xs k) (List.mem_of_getElem? hx) hle1 hs) ?_);rintro _ w ⟨H2,hle2,rfl,hs⟩
  refine .nil ?_
  refine (.cond rfl (fun hc16=>?_) (fun hc16=>?_))
  ·refine .ai (.z zm (.z zg (.nil ?_)))
   refine .ret (rB (rT (rB (rT (Fin.bg qp rfl ?_)))))
   exact ⟨H2,_,hle1.trans hle2,rfl,.inr ⟨k,_,rfl,hx,hc16,hno⟩,hs⟩
  ·refine .skip ?_
   refine nB (nT ?_)
   exact .mk ⟨rfl,H2,hle1.trans hle2,eA hno hx hc16,hs⟩
 ·rintro fr w ⟨rfl,H1,hle1,hno,hs⟩
  refine nT ?_
  refine .ai (.z zg (.nil ?_))
  refine .ret (Fin.bg qp rfl ?_)
  exact ⟨H1,_,hle1,rfl,.inl ⟨rfl,fun x hx=>by
   obtain ⟨j,hj⟩:=List.getElem?_of_mem hx
   exact hno j (List.getElem?_eq_some_iff.1 hj).1 x hj⟩,hs⟩
set_option maxHeartbeats 1000000 in
theorem ky{v:Value}{en:Ent}{xs:List Int}{g:Nat}{cap:List Value}(q:Int→Bool)(hs:St H w (en::σ))(hO:cR 1 v (Is xs) en)(hl:xs.length≤17592186044416)(hc:∀args w,(callFunc g args).run Tryz.prog w= .ok (.enter g args) w)
  (hp:∀H' w σ (n:Int),n∈xs→HLe H H'→St H' w σ→Cl Tryz.prog g ([I n]++cap) w fun u w'=>∃H1,HLe H' H1∧u= .bool (q n)∧St H1 w' σ):
  Cl Tryz.prog 267 [v,.func (.func g) #[] cap.toArray] w fun u w'=>∃H1 en',HLe H H1∧cR 1 u (Is (xs.filter fun x=> !q x)) en'∧St H1 w' (en'::σ):=by
 obtain ⟨a,c,rfl⟩:=hO.xF
 refine Cl.o Tryz.func267 Tryz.ntmps267 ag2 ?_
 refine .ai (.z zg (.nil (.ai (.z zm (.z zm ?_)))))
 refine .o (.call Tryz.call228 rfl (lQ q hs hO hl hc hp) ?_);rintro _ w ⟨H1,i0,hle1,rfl,hcase,hs⟩
 refine .z zg (.nil (.seq (.ai (.z zm (.z iP (.nil ?_))))))
 refine (.cz rfl (fun hc12=>?_) (fun hc12=>?_))
 ·refine .ai (.z zm (.z zg (.nil ?_)))
  refine .ret (rT (Fin.bg Tryz.results267 rfl ?_))
  have hno:∀x∈xs,q x=false:=by
   rcases hcase with ⟨_,h⟩|⟨k,x,h,_⟩
   ·exact h
   ·omega
  have e:xs.filter (fun x=> !q x)=xs:=List.filter_eq_self.2 fun x hx=>by simp [hno x hx]
  exact ⟨H1,en,hle1,by rw [e];exact hO,hs⟩
 ·refine .skip ?_
  refine nT ?_
  refine .seq (.ai (.z zm ?_))
  obtain ⟨k0,x0,rfl,hx0,hq0,hno⟩:∃(k:Nat) (x:Int),i0=k∧xs[k]? =some x∧q x=true∧∀j<k,∀y,xs[j]? =some y→q y=false:=hcase.resolve_left fun h=>hc12 h.1
  have hk0:=(List.getElem?_eq_some_iff.1 hx0).1
  obtain ⟨b,c',sp,hv,rfl,hc'⟩:=hO.blk ak
  cases hv
  refine .z dP (.z zg (.nil (.block ?_)))
  refine .loop (fun p:Nat×Nat=>⟨42,[],[(5,I (p.1:Int)),(6,I (p.2:Int)),(1,.func (.func g) #[] cap.toArray),(0,.slice (some ⟨b,0,none⟩) xs.length c)]⟩)
   (fun p w=>k0<p.2∧∃Y H1,HLe H H1∧xy q xs Y p.1 p.2∧St H1 w (.blk b (Is Y++sp)::σ))
   (fun p=>xs.length - p.2) (k0,k0+1) (.cons rfl (.eP rfl (by dsimp only;omega) bS))
   ⟨by dsimp only;omega,xs,H1,hle1,.start hx0 hq0 hno,hs⟩ ?_
  clear hs hle1 hcase
  rintro ⟨i,j⟩ w ⟨hkj,Y,H1,hle1,hD,hs⟩
  dsimp only at hkj hD ⊢
  have hYl:=hD.len
  have hij:=hD.le
  have hjl:=hD.jl
  have hilt:=hD.lt hx0 hq0 hkj
  refine .seq (.ai (.z zm (.z zm (.z (dp af) (.z kM (.nil ?_))))))
  refine (.cz rfl (fun hc19=>?_) (fun hc19=>?_))
  ·refine .skip ?_
   refine nT ?_
   refine .seq (.block (.ai (.z zm (.z zm ?_))))
   have hj:j<Y.length:=by omega
   have hx:xs[j]? =some (gi Y j):=by rw [hD.rest j (Nat.le_refl _)];exact bE ak
   refine .z (zix af aj) ?_
   refine .q hs (iD rfl ae (hv:=ew hj sp)) ?_
   refine .z zg (.nil (.ai (.z zm (.z zm ?_))))
   refine .o (.lZ (first:=[]) (cap:=cap) rfl rfl hc (hp _ _ _ (gi Y j) (List.mem_of_getElem? hx) hle1 hs) ?_);rintro _ w ⟨H2,hle2,rfl,hs⟩
   refine .z eL (.nil ?_)
   refine (.cond rfl (fun hc29=>?_) (fun hc29=>?_))
   ·refine .ai (.z zm (.z zm (.z zm (.z (zix af aj) ?_))))
    refine .o (.store hs rfl rfl aj ?_ .here (lx (show i<Y.length by omega) sp) (iO (show i<Y.length by omega) sp _));intro w hs
    refine .nil (.region (.z zm (.z dP (.z zg (.nil ?_)))))
    refine nB (nT ?_)
    refine .region (.z zm (.z dP (.z zg (.nil ?_))))
    refine nT ?_
    exact ⟨(i+1,j+1),.eP rfl (by dsimp only;omega) (.eP rfl (by dsimp only;omega) bS),⟨by dsimp only;omega,_,H2,hle1.trans hle2,hD.keep hx (by simpa using hc29),hs⟩,by dsimp only;omega⟩
   ·refine .skip ?_
    refine nB (nT ?_)
    refine .region (.z zm (.z dP (.z zg (.nil ?_))))
    refine nT ?_
    exact ⟨(i,j+1),.cons rfl (.eP rfl (by dsimp only;omega) bS),⟨by dsimp only;omega,_,H2,hle1.trans hle2,hD.skip hx (by simpa using hc29),hs⟩,by dsimp only;omega⟩
  ·refine .exit ?_
   refine xT (xT (xB (nT ?_)))
   refine .ai (.z zm (.z zm ?_))
   obtain rfl:xs.length=j:=by omega
   refine .q hs (ve (k:=i) rfl rfl af aj ak ak) ?_
   rw [show 0+i*1=i by omega]
   refine .o (.Fl (c:=Is Y++sp) hs rfl af bA (by simp;omega) ?_);intro w hs
   rw [hD.done sp] at hs
   have hil:=hD.il
   rw [List.take_length] at hil
   refine .nil (.ai (.z zm (.z zm ?_)))
   refine .q hs (qX (k:=i) rfl rfl af aj ak) ?_
   refine .z zg (.nil ?_)
   refine .ret (Fin.bg Tryz.results267 rfl ?_)
   exact ⟨H1,_,hle1,.inr ⟨b,i,c,List.replicate (xs.length - i) (I 0)++sp,rfl,rfl,by simp [hil],by simp [←hil];omega,ak⟩,hs⟩
def sr(L:List Int):List (List Value):=(List.range L.length).map fun j=>[I ((L.length - 1 - j:Nat):Int),I (gi L (L.length - 1 - j))]
theorem jk(L:List Int):(sr L).length=L.length:=by simp [sr]
theorem wb{L:List Int}{j:Nat}(h:j<(sr L).length):(sr L)[j]=[I ((L.length - 1 - j:Nat):Int),I (gi L (L.length - 1 - j))]:=by simp [sr]
theorem kC{H:bp}{b:Nat}{v:Value}{L:List Int}(hb:Row H b [v])(hr:RI H v L):Iter Tryz.prog 291 [.pointer (some ⟨b,0,none⟩)] H (sr L):=by
 intro l II Ix _ _ hy H0 σb0 σf w hle hI0 hs
 obtain ⟨a,c,rfl⟩:=RI.shape hr
 have hlen:=(RI.len hr).2.2
 have hb0:cellAt H0 b 0=some (.slice a L.length c):=cellAt.mono (hb.at 0) hle
 refine Cl.o Tryz.func291 Tryz.ntmps291 ag2 ?_
 refine .ai (.y hs (zld aq) (.z (dp af) (.z fu (.z zg (.nil (.block ?_))))))
 refine .loop (fun j:Nat=>⟨19,[],[(3,I ((L.length:Int) - 1 - (j:Int))),(0,.func (.yield l) #[] #[]),(1,.pointer (some ⟨b,0,none⟩))]⟩)
  (fun j w=>j≤L.length∧∃H1 σb,HLe H H1∧HLe H0 H1∧II j H1 σb∧St H1 w (σb++σf)) (fun j=>L.length - j) 0 (.eP rfl db bS)
  ⟨Nat.zero_le _,H0,σb0,hle,HLe.refl _,hI0,hs⟩ ?_
 clear hs hI0
 rintro j w ⟨hj,H1,σb,hle1,hle0,hI,hs⟩
 have hb1:cellAt H1 b 0=some (.slice a L.length c):=cellAt.mono hb0 hle0
 refine .seq (.ai (.z zm (.z sC (.nil ?_))))
 refine (.cz rfl (fun hc8=>?_) (fun hc8=>?_))
 ·refine .skip ?_
  refine nT ?_
  refine .seq (.block (.ai (.z zm (.z zm (.y hs (zld aq) (.z zm ?_))))))
  refine .ixY hs (hr.mono hle1) rfl rfl af aj (bE (l:=L) (i:=L.length - 1 - j) ak) ak ?_;intro b15 o15 hc15
  refine .q hs (a6 rfl ae hc15) ?_
  have hk':j<(sr L).length:=by rw [jk];omega
  have hyd:=hy j hk' H1 σb σf w hle1 hI hs
  rw [wb hk',show ((L.length - 1 - j:Nat):Int)=(L.length:Int) - 1 - (j:Int) by omega] at hyd
  refine .o (.yield rfl rfl hyd ?_);rintro v17 w ⟨H2,σ2,g1,hs,g3⟩
  obtain ⟨bb,rfl,gT,gF⟩:=kN g3
  refine .z eL (.nil ?_)
  refine (.cond rfl (fun hc18=>?_) (fun hc18=>?_))
  ·refine .ret (rB (rT (rT (rB (Fin.Ee Tryz.results291 ?_)))))
   exact ⟨H2,σ2,hle0.trans g1,hs,.inr (gF (by simpa using hc18))⟩
  ·refine .skip ?_
   refine nB (nT ?_)
   refine .region (.z zm (.z fu (.z zg (.nil ?_))))
   refine nT ?_
   exact ⟨j+1,.eP rfl (by simp;omega) bS,⟨ak,H2,σ2,hle1.trans g1,hle0.trans g1,gT (by simpa using hc18),hs⟩,ak⟩
 ·refine .exit ?_
  refine xT (xT (xB ?_))
  obtain rfl:L.length=j:=by omega
  exact Fin.vR Tryz.results291 ⟨H1,σb,hle0,hs,.inl (by rw [jk];exact hI)⟩
theorem lR{v:Value}{L:List Int}(hs:St H w σ)(hr:RI H v L):
  Cl Tryz.prog 265 [v] w fun u w'=>∃H1 b,HLe H H1∧u= .func (.func 291) #[] #[.pointer (some ⟨b,0,none⟩)]∧Iter Tryz.prog 291 [.pointer (some ⟨b,0,none⟩)] H1 (sr L)∧St H1 w' σ:=by
 obtain ⟨a,c,rfl⟩:=RI.shape hr
 refine Cl.o Tryz.func265 Tryz.ntmps265 ag1 ?_
 refine .ai ?_
 refine .bx hs fun b1 w hs=>?_
 refine .z zg (.nil (.ai ?_))
 refine .q hs (bX (f:=[]) (c:=[_]) rfl rfl) ?_
 refine .z zg (.nil ?_)
 refine .ret (Fin.bg Tryz.results265 rfl ?_)
 obtain ⟨H1,g1,g2,hs⟩:=hs.ck .here
 exact ⟨H1,b1,g1,rfl,kC g2 (hr.mono g1),hs⟩
theorem qh{n m:Int}{b:Nat}(hs:St H w σ)(hb:Row H b [I m]):
  Cl Tryz.prog 268 [I n,.pointer (some ⟨b,0,none⟩)] w fun u w'=>u= .bool (decide (n=m))∧St H w' σ:=by
 have hb0:cellAt H b 0=some (I m):=hb.at 0
 refine Cl.o Tryz.func268 Tryz.ntmps268 ag2 ?_
 refine .ai (.z zg (.nil (.ai (.z zm (.y hs (zld ae) (.z iP (.z zg (.nil ?_))))))))
 refine .ret (Fin.bg Tryz.results268 rfl ?_)
 exact ⟨rfl,hs⟩
set_option maxHeartbeats 1000000 in
theorem na{v:Value}{s:bq}(hs:St H w σ)(hr:RSy H v s):
  Cl Tryz.prog 220 [v] w fun u w'=>∃H1 vx out e,HLe H H1∧u= .tuple #[vx,I e]∧RI H1 vx out∧sx s out e∧St H1 w' σ:=by
 obtain ⟨ul,rfl,hl⟩:=hr
 obtain ⟨al,cl,rfl⟩:=RL.shape hl
 refine Cl.o Tryz.func220 Tryz.ntmps220 ag1 ?_
 refine .ai ?_
 refine .bx hs fun b1 w hs=>?_
 refine .z zg (.z zg (.nil (.seq (.ai (.y hs (zls [_,_] bh aC) ?_)))))
 refine .o (.call Tryz.call197 rfl (fq (s:=s) hs ⟨_,rfl,hl⟩) ?_);rintro _ w ⟨rfl,hs⟩
 refine .z zg (.nil (.ai (.z zm (.z ia (.nil ?_)))))
 refine (.dU rfl (fun hc12=>?_) (fun hc12=>?_))
 ·refine .ai (.z zm (.z zg (.z zg (.nil ?_))))
  refine .ret (rT (?_))
  exact Fin.gQ [] [] hs fun w hs=>⟨_,results2 Tryz.results220 rfl rfl,H,_,[],_,HLe.refl H,rfl,RS.nil H 1 none 0,.bad hc12,hs.out⟩
 ·refine .skip ?_
  refine nT ?_
  refine .seq (.ai (.y hs (zls [_,_] bh aC) ?_))
  have hok:s.Ok:=s.aH.1 (by simpa using hc12)
  have hll:=hok.len
  refine .o (.call Tryz.call223 rfl (fU (s:=s) hs hok ⟨_,rfl,hl⟩) ?_);rintro _ w ⟨H1,bb,hle1,rfl,hbb,hs⟩
  refine .nil ?_
  refine (.cond rfl (fun hc15=>?_) (fun hc15=>?_))
  ·refine .ai (.z zg (.z zg (.nil ?_)))
   refine .ret (rT (?_))
   exact Fin.gQ [] [] hs fun w hs=>⟨_,results2 Tryz.results220 rfl rfl,H1,_,[],_,hle1,rfl,RS.nil H1 1 none 0,.none hok (hbb.1 hc15),hs.out⟩
  ·refine .skip ?_
   refine nT ?_
   refine .ai (.y hs (zls [_,_] bh aC) ?_)
   have hns:¬s.Sound:=fun h=>by rw [hbb.2 h] at hc15;cases hc15
   refine .o (.call Tryz.call264 rfl (jj (s:=s) hs ⟨_,rfl,hl.mono hle1⟩ ak) ?_);rintro v17 w ⟨L,en,hO,hLl,hRise,hs⟩
   obtain ⟨a17,l17,c17,rfl,h17⟩:=hO.shape
   refine .o (.alloc hs dY rfl fun b5 w hs=>?_)
   refine .o (.store hs rfl rfl aJ fun w hs=>?_)
   refine .nil (.seq (.ai (.y hs (zls [_,_] bh aC) ?_)))
   refine .o (.call Tryz.call264 rfl (jj (s:=s) hs ⟨_,rfl,hl.mono hle1⟩ ak) ?_);rintro v19 w ⟨L',en',hO',hLl',hRise',hs⟩
   obtain rfl:L=L':=hRise.uniq hRise'
   obtain ⟨H2,hle2,hR19,hs⟩:=cR.dH hO' ak hs .here
   refine .o (.call Tryz.call265 rfl (lR hs hR19) ?_);rintro _ w ⟨H3,b20,hle3,rfl,hit,hs⟩
   have hle03:=hle1.trans (hle2.trans hle3)
   refine .nil (.block ?_)
   refine .rangeFunc (gf:=291) (cap:=[.pointer (some ⟨b20,0,none⟩)]) (xs:=sr L) (σb:=[.blk b1 [I s.many,.slice al s.bD.length cl],.blk b5 [.slice a17 l17 c17],en]) (σf:=σ) (hs.sb:St H3 w (.blk b1 _:: .blk b5 _::en::σ)) trivial rfl hit Tryz.call291 (fun x hx=>by
     simp only [sr,List.mem_map] at hx
     obtain ⟨j,_,rfl⟩:=hx;rfl) rfl
    (I:=fun j H' σb=>∃(t:bq) (ut vo:Value) (out:List Int) (en:Ent),σb=[.blk b1 [I t.many,ut],.blk b5 [vo],en]∧RL H' ut t.bD∧cR 1 vo (Is out) en∧out.length≤L.length∧t.Ok∧oB s L (L.length - j) t out) (Ix:=fun _ _ _=>False)
    (fun j _ _ σ g1 ⟨t,ut,vo,out,en,g2,g3,g4⟩=>⟨t,ut,vo,out,en,g2,g3.mono g1,g4⟩) (fun _ _ _ _ _ h=>h)
    ⟨s,_,_,L,en,rfl,hl.mono hle03,hO,Nat.le_refl _,hok,.start⟩ ?_ ?_ (fun D c H' σb w _ h _=>h.elim)
   ·rintro l j hj H4 σb2 σf2 w hle4 ⟨t,ut,vo,out,en,rfl,hut,hOo,hol,htok,hC⟩ hs ⟨rr,hrr⟩
    rw [wb hj]
    have hjL:j<L.length:=by rw [jk] at hj;exact hj
    obtain ⟨at',ct,rfl⟩:=RL.shape hut
    obtain ⟨ao,lo,co,rfl,hlo⟩:=hOo.shape
    refine .region ?_
    refine .o (.alloc hs bA rfl fun b7 w hs=>?_)
    refine .o (.store hs rfl rfl aj fun w hs=>?_)
    refine .nil ?_
    refine nT ?_
    refine ⟨H4,[.blk b7 [I (gi L (L.length - 1 - j))],.blk b1 [I t.many,.slice at' t.bD.length ct],.blk b5 [.slice ao lo co],en],HLe.refl _,hs,?_⟩;rintro w σf4 - hs
    refine .block (.ai (.y hs (zls [_,_] bh aC) (.y hs (zld ae) ?_)))
    refine .o (.buildSlice (cells:=[_]) hs cP rfl rfl fun b25 w hs=>?_)
    obtain ⟨H5,hle5,r25,hs⟩:=cR.dH (xs:=[gi L (L.length - 1 - j)]) (v:= .slice (some ⟨b25,0,none⟩) 1 1) (.full (len:=1) rfl) db hs eF
    refine .o (.call Tryz.call266 rfl (oo (s:=t) hs ⟨_,rfl,hut.mono hle5⟩ r25 (by have:=htok.len;omega)) ?_);rintro _ w ⟨H6,hle6,⟨u26,rfl,hL26⟩,hs⟩
    obtain ⟨a26,c26,rfl⟩:=RL.shape hL26
    refine .o (.alloc hs ez rfl fun b8 w hs=>?_)
    refine .o (.aI (vs:=[_,_]) hs rfl rfl aC fun w hs=>?_)
    refine .nil (.ai (.y hs (zls [_,_] bh aC) ?_))
    refine .o (.call Tryz.call223 rfl (fU (s:=t.wo [gi L (L.length - 1 - j)]) hs (htok.wo _) ⟨_,rfl,hL26⟩) ?_);rintro _ w ⟨H7,b28,hle7,rfl,hb28,hs⟩
    have hle47:=hle5.trans (hle6.trans hle7)
    refine .z eL (.nil ?_)
    refine (.cond rfl (fun hc29=>?_) (fun hc29=>?_))
    ·refine .ai (.y hs (zls [_,_] bh aC) ?_)
     refine .o (.aI (vs:=[_,_]) hs rfl rfl aC fun w hs=>?_)
     refine .nil (.region (.y hs (zld aq) ?_))
     refine .q hs (bX (f:=[]) (c:=[_]) rfl rfl) ?_
     obtain ⟨H8,hle8,r7,hs⟩:=hs.ck (b:=b7) eF
     replace hs:St H8 w (en:: .blk b1 [I t.many,.slice a26 (t.wo [gi L (L.length - 1 - j)]).bD.length c26]:: .blk b5 [.slice ao lo co]::σf4):=hs.sb
     refine .o (.call Tryz.call267 rfl (ky (g:=268) (cap:=[.pointer (some ⟨b7,0,none⟩)]) (fun n=>decide (n=gi L (L.length - 1 - j))) hs hOo ak Tryz.call268
      (fun H' w σ n _ hle hs=>(qh hs (r7.mono hle)).mono fun u w' ⟨g1,g2⟩=>⟨H',HLe.refl _,g1,g2⟩)) ?_);rintro v33 w ⟨H9,en9,hle9,hO9,hs⟩
     obtain ⟨a33,l33,c33,rfl,h33⟩:=hO9.shape
     refine .o (.store hs rfl rfl aJ fun w hs=>?_)
     refine .nil ?_
     refine nB ?_
     have hfl:=List.length_filter_le (fun n=> !decide (n=gi L (L.length - 1 - j))) out
     have e:L.length - (j+1)=L.length - 1 - j:=by omega
     have hns':¬(t.wo [gi L (L.length - 1 - j)]).Sound:=fun h=>by rw [hb28.2 h] at hc29;cases hc29
     exact ⟨H9,[.blk b1 [I t.many,.slice a26 (t.wo [gi L (L.length - 1 - j)]).bD.length c26],.blk b5 [.slice a33 l33 c33],en9],hle47.trans (hle8.trans hle9),(hs.sb:St H9 w (.blk b1 _:: .blk b5 _::en9::σf4)),t.wo [gi L (L.length - 1 - j)],_,_,_,_,rfl,hL26.mono (hle7.trans (hle8.trans hle9)),hO9,ak,htok.wo _,by
      rw [e]
      exact .drop (by rw [show L.length - 1 - j+1=L.length - j by omega];exact hC) hns'⟩
    ·refine .skip ?_
     refine nB ?_
     have e:L.length - (j+1)=L.length - 1 - j:=by omega
     have hsd':(t.wo [gi L (L.length - 1 - j)]).Sound:=hb28.1 (by simpa using hc29)
     exact ⟨H7,[.blk b1 [I t.many,.slice at' t.bD.length ct],.blk b5 [.slice ao lo co],en],hle47,(hs.sb:St H7 w (.blk b1 _:: .blk b5 _::en::σf4)),t,_,_,_,_,rfl,hut.mono hle47,hOo,hol,htok,by
      rw [e]
      exact .keep (by rw [show L.length - 1 - j+1=L.length - j by omega];exact hC) hsd'⟩
   ·rintro D H4 σb2 w hle4 ⟨t,ut,vo,out,en,rfl,hut,hOo,hol,htok,hC⟩ hs
    rw [jk,Nat.sub_self] at hC
    obtain ⟨ao,lo,co,rfl,hlo⟩:=hOo.shape
    replace hs:St H4 w (.obj D (.deferred (some [])):: .blk b1 [I t.many,ut]:: .blk b5 [.slice ao lo co]::en::σ):=hs
    refine nB (nT ?_)
    refine .ai (.y hs (zld aq) (.z zg (.z zg (.nil ?_))))
    refine .ret ?_
    obtain ⟨H5,hle5,hR5,hs⟩:=cR.dH hOo ak hs eF
    exact Fin.gQ [D] [] hs fun w hs=>⟨_,results2 Tryz.results220 rfl rfl,H5,_,out,0,hle03.trans (hle4.trans hle5),rfl,hR5,.ok hok hns hRise hC,hs.out⟩
theorem kx{v:Value}{xs:List Int}{g:Nat}{cap:List Value}(q:Int→Prop)(hs:St H w σ)(hR:RI H v xs)(hc:∀args w,(callFunc g args).run Tryz.prog w= .ok (.enter g args) w)
  (hp:∀H' w σ (n:Int),n∈xs→HLe H H'→St H' w σ→Cl Tryz.prog g ([I n]++cap) w fun u w'=>∃H1 b,HLe H' H1∧u= .bool b∧(b=true↔q n)∧St H1 w' σ):
  Cl Tryz.prog 228 [v,.func (.func g) #[] cap.toArray] w fun u w'=>∃H1 i,HLe H H1∧u=I i∧(0≤i↔∃x∈xs,q x)∧St H1 w' σ:=by
 obtain ⟨a,c,rfl⟩:=RI.shape hR
 have hl:=(RI.len hR).2.2
 refine Cl.o Tryz.func228 Tryz.ntmps228 ag2 ?_
 refine .ai (.z zg (.nil (.seq (.ai (.z zm (.z (dp af) (.z zm (.nil ?_))))))))
 refine .for (N:=xs.length) (J:=fun k fr w=>fr=[(1,.func (.func g) #[] cap.toArray),(0,.slice a xs.length c)]∧∃H1,HLe H H1∧(∀j<k,∀y,xs[j]? =some y→¬q y)∧St H1 w σ) ak ?_ ?_ ?_
 ·exact .mk ⟨rfl,H,HLe.refl H,fun j hj=>by omega,hs⟩
 ·rintro k fr w hk ⟨rfl,H1,hle1,hno,hs⟩
  obtain ⟨x,hx⟩:=nth hk
  refine .block (.ai (.z zm (.z zg (.nil (.ai (.z zm (.z zm (.z zm ?_))))))))
  refine .ixY hs (hR.mono hle1) rfl rfl af aj hx rfl ?_;intro b14 o14 hc14
  refine .q hs (a6 rfl ae hc14) ?_
  refine .o (.lZ (first:=[]) (cap:=cap) rfl rfl hc (hp _ _ _ x (List.mem_of_getElem? hx) hle1 hs) ?_);rintro _ w ⟨H2,b16,hle2,rfl,hb16,hs⟩
  refine .nil ?_
  refine (.cond rfl (fun hc16=>?_) (fun hc16=>?_))
  ·refine .ai (.z zm (.z zg (.nil ?_)))
   refine .ret (rB (rT (rB (rT (Fin.bg qp rfl ?_)))))
   exact ⟨H2,_,hle1.trans hle2,rfl,⟨fun _=>⟨x,List.mem_of_getElem? hx,hb16.1 hc16⟩,fun _=>by omega⟩,hs⟩
  ·refine .skip ?_
   refine nB (nT ?_)
   exact .mk ⟨rfl,H2,hle1.trans hle2,eA hno hx (fun h=>by rw [hb16.2 h] at hc16;cases hc16),hs⟩
 ·rintro fr w ⟨rfl,H1,hle1,hno,hs⟩
  refine nT ?_
  refine .ai (.z zg (.nil ?_))
  refine .ret (Fin.bg qp rfl ?_)
  exact ⟨H1,_,hle1,rfl,⟨fun h=>by omega,fun ⟨x,h1,h2⟩=>by
   obtain ⟨j,hj⟩:=List.getElem?_of_mem h1
   exact (hno j (List.getElem?_eq_some_iff.1 hj).1 x hj h2).elim⟩,hs⟩
theorem jo{v:Value}{xs:List Int}{g:Nat}{cap:List Value}(q:Int→Prop)(hs:St H w σ)(hR:RI H v xs)(hc:∀args w,(callFunc g args).run Tryz.prog w= .ok (.enter g args) w)
  (hp:∀H' w σ (n:Int),n∈xs→HLe H H'→St H' w σ→Cl Tryz.prog g ([I n]++cap) w fun u w'=>∃H1 b,HLe H' H1∧u= .bool b∧(b=true↔q n)∧St H1 w' σ):
  Cl Tryz.prog 185 [v,.func (.func g) #[] cap.toArray] w fun u w'=>∃H1 b,HLe H H1∧u= .bool b∧(b=true↔∃x∈xs,q x)∧St H1 w' σ:=by
 refine Cl.o Tryz.func185 Tryz.ntmps185 ag2 ?_
 refine .ai (.z zg (.nil (.ai (.z zm (.z zm ?_)))))
 refine .o (.call Tryz.call228 rfl (kx q hs hR hc hp) ?_);rintro _ w ⟨H1,i,hle1,rfl,hi,hs⟩
 refine .z sC (.z zg (.nil ?_))
 refine .ret (Fin.bg Tryz.results185 rfl ?_)
 exact ⟨H1,_,hle1,rfl,by simp only [decide_eq_true_eq];exact hi,hs⟩
end Go.Proofs.YteajddicacjkhaaGreat
namespace Go.Proofs.YteajddicacjkhaaGreat
open Go.MW
theorem RI.one{H:bp}{a:Option Addr}{len cap k:Nat}{xs:List Int}(h:RI H (.slice a len cap) xs)(hk:k<len):RI H (.slice (if cap=k then a else a.map (·.add (k*1))) (k+1 - k) (cap - k)) [gi xs k]:=by
 have hl:=(RI.len h).1
 have h1:=RS.part h (lo:=k) (hi:=k+1) ak ak
 have e:(((xs.map fun x=>[I x]).take (k+1)).drop k)=[gi xs k].map fun x=>[I x]:=by
  rw [←List.map_take,←List.map_drop]
  congr 1
  have hx:=bE (l:=xs) (i:=k) ak
  rw [bU hx]
  exact List.drop_left' (by rw [List.length_take];omega)
 rw [e] at h1
 exact h1
end Go.Proofs.YteajddicacjkhaaGreat
namespace Go.Proofs.YteajddicacjkhaaGreat
open Go.MW
variable{H:bp}{w:World}{σ:List Ent}
theorem mF{a0 a1 a2:Int}(hs:St H w σ):Cl Tryz.prog 284 [I a0,I a1,I a2] w fun v w'=>v= .bool (decide (a1≤a0∧a0≤a2))∧St H w' σ:=by
 refine Cl.o Tryz.func284 Tryz.ntmps284 ag3 ?_
 refine .ai (.z zg (.nil (.ai (.z zm (.z zm (.z oJ (.z zm ?_)))))))
 refine .gM (t':=10) rfl (fun hb10=>?_) (fun hb10=>?_)
 ·refine .gT rfl rfl ?_
  refine .z zm ?_
  refine .gT rfl rfl ?_
  refine .z zm ?_
  refine .gT rfl rfl ?_
  refine .z oJ (.z zpT (.z zg (.nil ?_)))
  refine .ret (Fin.bg Tryz.results284 rfl ?_)
  exact ⟨by simp [*],hs.out⟩
 ·refine .gFs 3 3 true rfl rfl rfl ?_
  refine .z zpF (.z zg (.nil ?_))
  refine .ret (Fin.bg Tryz.results284 rfl ?_)
  exact ⟨by simp [*],hs.out⟩
theorem ff{v:Value}{l:List Int}{many:Nat}{most:Int}(hs:St H w σ)(hr:RI H v l):
  Cl Tryz.prog 259 [v,I many,I most] w fun v w'=>∃b:Bool,v= .bool b∧(b=true↔e9 many most l)∧St H w' σ:=by
 obtain ⟨a,c,rfl⟩:=RI.shape hr
 have hlen:=(RI.len hr).2.2
 refine Cl.o Tryz.func259 Tryz.ntmps259 ag3 ?_
 refine .ai (.z zg (.nil (.seq (.ai (.z zm (.z (dp af) (.z zm ?_)))))))
 refine .o (.call Tryz.call284 rfl (mF hs) ?_);rintro _ w ⟨rfl,hs⟩
 refine .z eL (.z zm ?_)
 refine .bif (t':=14) rfl (fun hb14=>?_) (fun hb14=>?_)
 ·refine .gFs 4 5 false rfl rfl rfl ?_
  refine .z zpT (.z zm ?_)
  refine .gFs 8 11 false rfl rfl rfl ?_
  refine .z zpT (.nil ?_)
  refine (.cT ?_)
  refine .ai (.z zg (.nil ?_))
  refine .ret (rT (Fin.bg zA rfl ?_))
  exact ⟨false,rfl,⟨fun h=>(by cases h),fun h=>by have:=h.two;have:=h.many;simp at hb14;omega⟩,hs⟩
 ·refine .gT rfl rfl ?_
  refine .z zm ?_
  refine .gT rfl rfl ?_
  have htwo:2≤l.length∧l.length≤many:=by simp at hb14;omega
  refine .ixY hs hr rfl rfl af aj (bE (l:=l) (i:=0) ak) cU ?_;intro b16 o16 hc16
  refine .gT rfl rfl ?_
  refine .q hs (a6 rfl ae hc16) ?_
  refine .gT rfl rfl ?_
  refine .z kM (.z zpF (.z zm ?_))
  refine .gM (t':=20) rfl (fun hb20=>?_) (fun hb20=>?_)
  ·refine .gFs 8 11 false rfl rfl rfl ?_
   refine .z zpT (.nil ?_)
   refine (.cT ?_)
   refine .ai (.z zg (.nil ?_))
   refine .ret (rT (Fin.bg zA rfl ?_))
   exact ⟨false,rfl,⟨fun h=>(by cases h),fun h=>by have:=h.low;omega⟩,hs⟩
  ·refine .gT rfl rfl ?_
   refine .z zm ?_
   refine .gT rfl rfl ?_
   refine .z zm ?_
   refine .gT rfl rfl ?_
   refine .z (dp af) ?_
   refine .gT rfl rfl ?_
   refine .z fu ?_
   refine .gT rfl rfl ?_
   refine .ixY hs hr rfl rfl af aj (bE (l:=l) (i:=(l.length - 1)) ak) cU ?_;intro b25 o25 hc25
   refine .gT rfl rfl ?_
   refine .q hs (a6 rfl ae hc25) ?_
   refine .gT rfl rfl ?_
   refine .z zm ?_
   refine .gT rfl rfl ?_
   refine .z nu (.z zpF (.nil ?_))
   refine (.cz rfl (fun hc29=>?_) (fun hc29=>?_))
   ·refine .ai (.z zg (.nil ?_))
    refine .ret (rT (Fin.bg zA rfl ?_))
    exact ⟨false,rfl,⟨fun h=>(by cases h),fun h=>by have:=h.high;omega⟩,hs⟩
   ·refine .skip ?_
    refine nT ?_
    refine .seq (.ai (.z zm ?_))
    refine .q hs (z8 (k:=1) rfl rfl af aj ak ak) ?_
    refine .z (dp af) (.z zm (.nil ?_))
    refine .for (N:=l.length - 1) (J:=fun k fr w=>fr=[(31,.slice (if c=1 then a else a.map (·.add (1*1))) (l.length - 1) (c - 1)),(0,.slice a l.length c)]∧(∀j<k,gi l j<gi l (j+1))∧St H w σ) ak ?_ ?_ ?_
    ·exact .mk ⟨rfl,fun j hj=>by omega,hs⟩
    ·rintro k fr w hk ⟨rfl,hno,hs⟩
     have ht:=hr.tail (k:=1) ak
     have hx:(l.drop 1)[k]? =some (gi l (k+1)):=by rw [List.getElem?_drop,Nat.add_comm];exact bE ak
     refine .block (.ai (.z zm ?_))
     refine .ixY hs ht rfl rfl af aj hx rfl ?_;intro b36 o36 hc36
     refine .q hs (a6 rfl ae hc36) ?_
     refine .z zg (.z zg (.nil (.ai (.z zm (.z zm ?_)))))
     refine .ixY hs hr rfl rfl af aj (bE (l:=l) (i:=k) ak) cU ?_;intro b40 o40 hc40
     refine .q hs (a6 rfl ae hc40) ?_
     refine .z zm (.z sC (.nil ?_))
     refine (.cz rfl (fun hc43=>?_) (fun hc43=>?_))
     ·refine .ai (.z zg (.nil ?_))
      refine .ret (rB (rT (rB (rT (Fin.bg zA rfl ?_)))))
      exact ⟨false,rfl,⟨fun h=>(by cases h),fun h=>by have:=h.rise k ak;omega⟩,hs⟩
     ·refine .skip ?_
      refine nB (nT ?_)
      exact .mk ⟨rfl,fun j hj=>by
       by_cases e:j=k
       ·subst e;omega
       ·exact hno j ak,hs⟩
    ·rintro fr w ⟨rfl,hno,hs⟩
     refine nT ?_
     refine .ai (.z zg (.nil ?_))
     refine .ret (Fin.bg zA rfl ?_)
     exact ⟨true,rfl,⟨fun _=>⟨ak,ak,ak,ak,fun i hi=>hno i ak⟩,fun _=>rfl⟩,hs⟩
theorem ku{v:Value}{l:List Int}(hs:St H w σ)(hr:RI H v l):
  Cl Tryz.prog 299 [v] w fun v w'=>∃e,v=I e∧((e9 9 100000 l∧e=0)∨(¬e9 9 100000 l∧e≠0))∧St H w' σ:=by
 obtain ⟨a,c,rfl⟩:=RI.shape hr
 refine Cl.o Tryz.func299 Tryz.ntmps299 ag1 ?_
 refine .ai (.z zg (.nil (.seq (.ai (.z zm ?_)))))
 refine .o (.call Tryz.call259 rfl (ff (many:=9) (most:=100000) hs hr) ?_);rintro _ w ⟨b4,rfl,hb4,hs⟩
 refine .z eL (.nil ?_)
 refine (.cond rfl (fun hc5=>?_) (fun hc5=>?_))
 ·refine .ai (.z zg (.nil ?_))
  refine .ret (rT (Fin.bg Tryz.results299 rfl ?_))
  exact ⟨_,rfl,.inr ⟨fun h=>by simp [hb4.2 h] at hc5,by decide⟩,hs⟩
 ·refine .skip ?_
  refine nT ?_
  refine .ai (.z zg (.nil ?_))
  refine .ret (Fin.bg Tryz.results299 rfl ?_)
  exact ⟨_,rfl,.inl ⟨hb4.1 (by simpa using hc5),rfl⟩,hs⟩
theorem fm{a b:Int}(hs:St H w σ)(ha:0<a)(hb:0<b∧b≤100000):
  Cl Tryz.prog 287 [I a,I b] w fun v w'=>v=I (rat a b)∧St H w' σ:=by
 have h1:0≤b.tdiv a:=Int.tdiv_nonneg ak ak
 have h2:b.tdiv a≤b:=by rw [Int.tdiv_eq_ediv_of_nonneg ak];exact Int.ediv_le_self _ ak
 have hw:=iK (m:=b.tdiv a) ⟨ak,ak⟩
 refine Cl.o Tryz.func287 Tryz.ntmps287 ag2 ?_
 refine .ai (.z zg (.nil (.seq (.ai (.z zm (.z zm (.z Es (.z iP (.z zm ?_)))))))))
 refine .gM (t':=9) rfl (fun hb9=>?_) (fun hb9=>?_)
 ·refine .gT rfl rfl ?_
  refine .z zm ?_
  refine .gT rfl rfl ?_
  refine .z zm ?_
  refine .gT rfl rfl ?_
  refine .z GQ ?_
  refine .gT rfl rfl ?_
  refine .z oJ (.z zpT (.nil ?_))
  refine (.cz rfl (fun hc14=>?_) (fun hc14=>?_))
  ·refine .ai (.z zm (.z zm (.z GQ (.z zg (.nil ?_)))))
   refine .ret (rT (Fin.bg Tryz.results287 rfl ?_))
   rw [hw] at hc14 ⊢
   exact ⟨by unfold rat;rw [if_pos ⟨by assumption,by assumption⟩],hs⟩
  ·refine .skip ?_
   refine nT ?_
   refine .ai (.z zg (.nil ?_))
   refine .ret (Fin.bg Tryz.results287 rfl ?_)
   rw [hw] at hc14
   exact ⟨by unfold rat;rw [if_neg ak],hs⟩
 ·refine .gFs 4 4 true rfl rfl rfl ?_
  refine .z zpF (.nil ?_)
  refine (.cF ?_)
  refine .skip ?_
  refine nT ?_
  refine .ai (.z zg (.nil ?_))
  refine .ret (Fin.bg Tryz.results287 rfl ?_)
  exact ⟨by unfold rat;rw [if_neg ak],hs⟩
def nV(l:List Int):List (List Value):=(tO l).map fun g=>[Value.agg #[I (g.at_:Int),I (g.n:Int)]]
theorem zF{l:List Int}(hp:e9 9 100000 l){i:Nat}(h:i+2<l.length):eC l i=true↔0<rat (gi l (i+1) - gi l i) (gi l (i+2) - gi l (i+1))∨0<rat (gi l (i+2) - gi l (i+1)) (gi l (i+1) - gi l i):=by
 have h1:=hp.rise i ak
 have h2:gi l (i+1)<gi l (i+2):=hp.rise (i+1) ak
 unfold eC
 rw [zL ak ak]
 simp only [Bool.and_eq_true,decide_eq_true_eq]
 omega
theorem mG{H:bp}{b:Nat}{v:Value}{l:List Int}(hp:e9 9 100000 l)(hb:Row H b [v])(hr:RI H v l):Iter Tryz.prog 302 [.pointer (some ⟨b,0,none⟩)] H (nV l):=by
 intro ly II Ix _ _ hy H0 σb0 σf w hle hI0 hs
 obtain ⟨a,c,rfl⟩:=RI.shape hr
 have hlen:=hp.many
 have hb0:cellAt H0 b 0=some (.slice a l.length c):=cellAt.mono (hb.at 0) hle
 refine Cl.o Tryz.func302 Tryz.ntmps302 ag2 ?_
 refine .ai (.z zg (.nil (.block ?_)))
 refine .loop (fun i:Nat=>⟨59,[],[(3,I (i:Int)),(0,.func (.yield ly) #[] #[]),(1,.pointer (some ⟨b,0,none⟩))]⟩)
  (fun i w=>i≤l.length∧∃j,j≤(tO l).length∧(tO l).drop j=mm l i∧∃H1 σb,HLe H H1∧HLe H0 H1∧II j H1 σb∧St H1 w (σb++σf)) (fun i=>l.length - i) 0 (.eP rfl db bS)
  ⟨Nat.zero_le _,0,Nat.zero_le _,rfl,H0,σb0,hle,HLe.refl _,hI0,hs⟩ ?_
 clear hs hI0
 rintro i w ⟨hil,j,hj,hd,H1,σb,hle1,hle0,hI,hs⟩
 have hb1:cellAt H1 b 0=some (.slice a l.length c):=cellAt.mono hb0 hle0
 refine .seq (.ai (.z zm (.z dP (.y hs (zld aq) (.z (dp af) (.z kM (.nil ?_)))))))
 refine (.cz rfl (fun hc11=>?_) (fun hc11=>?_))
 ·refine .skip ?_
  refine nT ?_
  refine .block (.ai (.z zm (.z (zbd [_,_] um) ?_)))
  refine .o (.alloc hs Tryz.zeroValue315 rfl fun b4 w hs=>?_)
  refine .o (.aI (vs:=[_,_]) hs rfl rfl Tryz.sizeOf315 fun w hs=>?_)
  refine .nil ?_
  refine .cut (fun fs w=>kq fs ⟨59,[],[(4,.pointer (some ⟨b4,0,none⟩)),(3,I (i:Int)),(0,.func (.yield ly) #[] #[]),(1,.pointer (some ⟨b,0,none⟩))]⟩∧St H1 w (.blk b4 [I (i:Int),I (((if eC l i then 2 else 1:Nat)):Int)]::(σb++σf))) ?_ ?_
  ·refine .ai (.z zm (.z dP (.y hs (zld aq) (.z (dp af) (.z kM (.nil ?_))))))
   refine (.cz rfl (fun hc18=>?_) (fun hc18=>?_))
   ·refine .seq (.draw mix rfl hs fun w hs=>?_)
    refine .y 0 rfl hs aq ?_;refine .z 1 rfl zm ?_;refine .z 2 rfl dP ?_
    have r1:=hp.rise i ak
    have r2:gi l (i+1)<gi l (i+2):=hp.rise (i+1) ak
    have hiff:=zF hp (i:=i) ak
    have q1:=hp.bd (i:=i) ak
    have q2:=hp.bd (i:=i+2) ak
    refine .ixX (enc:=fun x=>[I x]) (i:=3) hs rfl an .none (hr.mono hle1) rfl rfl af aj (bE (l:=l) (i:=(i+1)) ak) cU ?_;intro b22 o22 hc22;replace hc22:=bH.one hc22
    refine .r (i:=4) hs rfl an .none (a6 rfl ae hc22) ?_
    refine .y 5 rfl hs aq ?_;refine .z 6 rfl zm ?_
    refine .ixX (enc:=fun x=>[I x]) (i:=7) hs rfl an .none (hr.mono hle1) rfl rfl af aj (bE (l:=l) (i:=i) ak) cU ?_;intro b26 o26 hc26;replace hc26:=bH.one hc26
    refine .r (i:=8) hs rfl an .none (a6 rfl ae hc26) ?_
    refine .z 9 rfl fu ?_;refine .y 10 rfl hs aq ?_;refine .z 11 rfl zm ?_;refine .z 12 rfl dP ?_
    refine .ixX (enc:=fun x=>[I x]) (i:=13) hs rfl an .none (hr.mono hle1) rfl rfl af aj (bE (l:=l) (i:=(i+2)) ak) cU ?_;intro b32 o32 hc32;replace hc32:=bH.one hc32
    refine .r (i:=14) hs rfl an .none (a6 rfl ae hc32) ?_
    refine .y 15 rfl hs aq ?_;refine .z 16 rfl zm ?_;refine .z 17 rfl dP ?_
    refine .ixX (enc:=fun x=>[I x]) (i:=18) hs rfl an .none (hr.mono hle1) rfl rfl af aj (bE (l:=l) (i:=(i+1)) ak) cU ?_;intro b37 o37 hc37;replace hc37:=bH.one hc37
    refine .r (i:=19) hs rfl an .none (a6 rfl ae hc37) ?_
    refine .z 20 rfl fu ?_;refine .z 21 rfl zg ?_;refine .z 22 rfl zg ?_;refine .D hs ?_
    refine .ai (.z zm (.z zm ?_))
    refine .o (.call Tryz.call287 rfl (fm hs ak ak) ?_);rintro _ w ⟨rfl,hs⟩
    refine .z nu (.z zm ?_)
    refine .gM (t':=44) rfl (fun hb44=>?_) (fun hb44=>?_)
    ·refine .gFs 4 4 false rfl rfl rfl ?_
     refine .z zpT (.nil ?_)
     refine (.cT ?_)
     refine .region (.z (zfa gC) ?_)
     refine .o (.store hs rfl rfl aj fun w hs=>?_)
     refine .nil ?_
     refine nT ?_
     rw [hiff.2 (.inl hb44)];exact ⟨bS,hs⟩
    ·refine .gT rfl rfl ?_
     refine .z zm ?_
     refine .gT rfl rfl ?_
     refine .z zm ?_
     refine .gT rfl rfl ?_
     refine .o (.call Tryz.call287 rfl (fm hs ak ak) ?_);rintro _ w ⟨rfl,hs⟩
     refine .gT rfl rfl ?_
     refine .z nu (.z zpF (.nil ?_))
     refine (.cz rfl (fun hc49=>?_) (fun hc49=>?_))
     ·refine .region (.z (zfa gC) ?_)
      refine .o (.store hs rfl rfl aj fun w hs=>?_)
      refine .nil ?_
      refine nT ?_
      rw [hiff.2 (.inr hc49)];exact ⟨bS,hs⟩
     ·refine .skip ?_
      refine nT ?_
      rw [show eC l i=false from Bool.eq_false_iff.2 fun h=>by have:=hiff.1 h;omega];exact ⟨bS,hs⟩
   ·refine .skip ?_
    refine nT ?_
    rw [show eC l i=false by simp [eC];omega];exact ⟨bS,hs⟩
  ·rintro fs w ⟨hfs,hs⟩
   refine WE.sub ?_ hfs
   have hgo:=vG (l:=l) (i:=i) ak
   rw [hgo] at hd
   have hjl:j<(tO l).length:=by
    have:=congrArg List.length hd
    simp at this;omega
   have hgj:(tO l)[j]=⟨i,eC l i⟩:=by
    rw [List.drop_eq_getElem_cons hjl] at hd
    exact (List.cons.inj hd).1
   have hdj:(tO l).drop (j+1)=mm l (i+(if eC l i then 2 else 1)):=by
    rw [List.drop_eq_getElem_cons hjl] at hd
    exact (List.cons.inj hd).2
   have hn12:(if eC l i then 2 else 1:Nat)=1∨(if eC l i then 2 else 1:Nat)=2:=by split<;>simp
   refine .seq (.ai (.z zm (.y hs (zls [_,_] Tryz.isAgg315 Tryz.sizeOf315) ?_)))
   have hk':j<(nV l).length:=by simpa [nV] using hjl
   have hyd:=hy j hk' H1 σb (.blk b4 [I (i:Int),I (((if eC l i then 2 else 1:Nat)):Int)]::σf) w hle1 hI (St.deep hs)
   rw [show (nV l)[j]=[Value.agg #[I (i:Int),I (((if eC l i then 2 else 1:Nat)):Int)]] by simp only [nV,List.getElem_map,hgj];rfl] at hyd
   refine .o (.yield rfl rfl hyd ?_);rintro v53 w ⟨H2,σ2,g1,hs,g3⟩
   obtain ⟨bb,rfl,gT,gF⟩:=kN g3
   replace hs:=St.shallow hs
   refine .z eL (.nil ?_)
   refine (.cond rfl (fun hc54=>?_) (fun hc54=>?_))
   ·refine .ret (rT (rB (rT (rB (Fin.Ee Tryz.results302 ?_)))))
    exact ⟨H2,σ2,hle0.trans g1,hs.tail,.inr (gF (by simpa using hc54))⟩
   ·refine .skip ?_
    refine nT ?_
    refine .region (.z zm (.z (zfa gC) (.y hs (zld ae) (.z dP (.z zg (.nil ?_))))))
    refine nB (nT ?_)
    generalize (if eC l i then 2 else 1:Nat)=n at*
    exact ⟨i+n,.eP rfl db bS,⟨ak,j+1,hjl,hdj,H2,σ2,hle1.trans g1,hle0.trans g1,gT (by simpa using hc54),hs.tail⟩,ak⟩
 ·refine .exit ?_
  refine xT (xT (xB ?_))
  rw [sZ ak] at hd
  have:(tO l).length≤j:=by simpa using hd
  obtain rfl:j=(tO l).length:=by omega
  exact Fin.vR Tryz.results302 ⟨H1,σb,hle0,hs,.inl (by simpa [nV] using hI)⟩
theorem oN{v:Value}{l:List Int}(hs:St H w σ)(hr:RI H v l)(hp:e9 9 100000 l):
  Cl Tryz.prog 286 [v] w fun u w'=>∃H1 b,HLe H H1∧u= .func (.func 302) #[] #[.pointer (some ⟨b,0,none⟩)]∧Iter Tryz.prog 302 [.pointer (some ⟨b,0,none⟩)] H1 (nV l)∧St H1 w' σ:=by
 obtain ⟨a,c,rfl⟩:=RI.shape hr
 refine Cl.o Tryz.func286 Tryz.ntmps286 ag1 ?_
 refine .ai ?_
 refine .bx hs fun b1 w hs=>?_
 refine .z zg (.nil (.ai ?_))
 refine .q hs (bX (f:=[]) (c:=[_]) rfl rfl) ?_
 refine .z zg (.nil ?_)
 refine .ret (Fin.bg Tryz.results286 rfl ?_)
 obtain ⟨H1,g1,g2,hs⟩:=hs.ck .here
 exact ⟨H1,b1,g1,rfl,mG hp g2 (hr.mono g1),hs⟩
theorem mj{bs bW from_ n:Nat}{W xs:List Int}{v:Value}(hs:St H w (.blk bs [.slice (some ⟨bW,0,none⟩) n n]:: .blk bW (Is W)::σ))(hW:W.length=n)(hr:RI H v xs)(hl:from_+xs.length≤n)(hn:n≤9)
  (hz:aU W n≤1000000000) (ha:tc xs≤1000000000):
  Cl Tryz.prog 285 [.pointer (some ⟨bs,0,none⟩),I (from_:Int),v] w fun _ w'=>St H w' (.blk bs [.slice (some ⟨bW,0,none⟩) n n]:: .blk bW (Is (ju W from_ xs))::σ):=by
 obtain ⟨a,c,rfl⟩:=RI.shape hr
 have hlen:=(RI.len hr).2.2
 refine Cl.o Tryz.func285 Tryz.ntmps285 ag3 ?_
 refine .ai (.z zm (.z (dp af) (.z zm (.nil ?_))))
 refine .for (N:=xs.length) (J:=fun k fr w=>fr=[(8,.slice a xs.length c),(0,.pointer (some ⟨bs,0,none⟩)),(1,I (from_:Int))]∧St H w (.blk bs [.slice (some ⟨bW,0,none⟩) n n]:: .blk bW (Is (ju W from_ (xs.take k)))::σ)) ak ?_ ?_ ?_
 ·exact .mk ⟨rfl,hs⟩
 ·rintro k fr w hk ⟨rfl,hs⟩
  have hal:=lz (xs.take k) W from_
  have hsz:=ng (xs.take k) W from_ (by rw [List.length_take];omega)
  rw [hW] at hsz
  have h1:=we xs k
  have h2:=A2 xs k
  have h3:=lG (ju W from_ (xs.take k)) (v:=from_+k) (n:=n) ak
  have h4:=zd hk W from_
  refine .block (.ai (.z zm ?_))
  refine .ixY hs hr rfl rfl af aj (bE (l:=xs) (i:=k) ak) cU ?_;intro b13 o13 hc13
  refine .q hs (a6 rfl ae hc13) ?_
  refine .z zg (.z zg (.nil (.region (.z zm (.z znc (.z (zfa mn) (.y hs (zld aq) (.z zm (.z zm ?_)))))))))
  refine .z dP ?_
  refine .q hs (kD (k:=from_+k) rfl rfl af aj ak ak) ?_
  refine .y hs (zld ae) (.z zm (.z dP ?_))
  refine .q hs (kD (k:=from_+k) rfl rfl af aj ak ak) ?_
  refine .o (.store hs rfl rfl aj fun w hs=>?_)
  refine .nil ?_
  refine nB (nT ?_)
  exact .mk ⟨rfl,by rw [h4];exact hs⟩
 ·rintro fr w ⟨rfl,hs⟩
  rw [List.take_length] at hs
  exact Fin.vR Tryz.results285 hs
theorem yZ{a b:Int}(ha:0<a∧a≤100000)(hb:0<b∧b≤100000):0≤min a b∧min a b≤100000:=by omega
theorem De{a b:Int}(h:0<tms a b):tms a b=1∨tms a b=2∨tms a b=3:=by have:=CQ a b;omega
set_option maxHeartbeats 1000000 in
theorem fL{v:Value}{l:List Int}(hs:St H w σ)(hr:RI H v l)(hp:e9 9 100000 l):
  Cl Tryz.prog 260 [v] w fun u w'=>∃H1,HLe H H1∧RI H1 u (wts l)∧St H1 w' σ:=by
 obtain ⟨a,c,rfl⟩:=RI.shape hr
 have hln:=hp.many
 have hgl:(tO l).length≤9:=by have:=pH l l.length 0;unfold tO;omega
 refine Cl.o Tryz.func260 Tryz.ntmps260 ag1 ?_
 refine .ai ?_
 refine .bx hs fun b1 w hs=>?_
 refine .z zg (.nil (.ai (.y hs (zld aq) (.z (dp af) ?_))))
 refine .o (.w9 l.length hs rfl rfl af iS rfl aj bA ak fun b13 w hs=>?_)
 refine .z (zbd [_] ui) ?_
 refine .o (.alloc hs Tryz.zeroValue317 rfl fun b3 w hs=>?_)
 refine .o (.aI (vs:=[_]) hs rfl rfl Tryz.sizeOf317 fun w hs=>?_)
 refine .nil (.ai ?_)
 refine .q hs (bX (f:=[_]) (c:=[]) rfl rfl) ?_
 refine .o (.alloc hs Tryz.zeroValue318 rfl fun b4 w hs=>?_)
 refine .o (.store hs rfl rfl Tryz.sizeOf318 fun w hs=>?_)
 refine .nil (.seq (.ai (.y hs (zld aq) ?_)))
 refine .o (.call Tryz.call286 rfl (oN hs hr hp) ?_);rintro _ w ⟨H1,b17,hle1,rfl,hit,hs⟩
 refine .nil (.block ?_)
 refine .rangeFunc (gf:=302) (cap:=[.pointer (some ⟨b17,0,none⟩)]) (xs:=nV l) (σb:=[.blk b3 [.slice (some ⟨b13,0,none⟩) l.length l.length],.blk b13 (Is (wA l 0)),.blk b4 [.func (.func 285) #[.pointer (some ⟨b3,0,none⟩)] #[]],.blk b1 [.slice a l.length c]]) (σf:=σ) (hs.sb) trivial rfl hit Tryz.call302 (fun x hx=>by
   simp only [nV,List.mem_map] at hx
   obtain ⟨j,_,rfl⟩:=hx;rfl) rfl
  (I:=fun j H' σb=>σb=[.blk b3 [.slice (some ⟨b13,0,none⟩) l.length l.length],.blk b13 (Is (wA l j)),.blk b4 [.func (.func 285) #[.pointer (some ⟨b3,0,none⟩)] #[]],.blk b1 [.slice a l.length c]]) (Ix:=fun _ _ _=>False)
  (fun j _ _ σ g1 g2=>g2) (fun _ _ _ _ _ h=>h) rfl ?_ ?_ (fun D c H' σb w _ h _=>h.elim)
 ·rintro ly j hj H2 σb2 σf2 w hle2 rfl hs ⟨rr,hrr⟩
  have hjl:j<(tO l).length:=by simpa [nV] using hj
  obtain ⟨g,hg⟩:=nth hjl
  rw [show (nV l)[j]=[Value.agg #[I (g.at_:Int),I (g.n:Int)]] by
   rw [List.getElem?_eq_getElem hjl] at hg
   simp only [nV,List.getElem_map,Option.some.inj hg]]
  obtain ⟨i1,i2,i3,i4,i5⟩:=vH hp (List.mem_of_getElem? hg)
  have hK:=uL hg
  have hKl:=mD l j
  have hKz:=sE hp j ak
  have hr2:=hr.mono (hle1.trans hle2)
  have hq0:=hp.bd (i:=g.at_) ak
  have hq1:=hp.bd (i:=g.at_+1) ak
  generalize hA:gi l (g.at_+1) - gi l g.at_=A at*
  refine .region ?_
  refine .o (.alloc hs Tryz.zeroValue315 rfl fun b5 w hs=>?_)
  refine .o (.aI (vs:=[_,_]) hs rfl rfl Tryz.sizeOf315 fun w hs=>?_)
  refine .nil ?_
  refine nT ?_
  refine ⟨H2,[.blk b5 [I (g.at_:Int),I (g.n:Int)],.blk b3 [.slice (some ⟨b13,0,none⟩) l.length l.length],.blk b13 (Is (wA l j)),.blk b4 [.func (.func 285) #[.pointer (some ⟨b3,0,none⟩)] #[]],.blk b1 [.slice a l.length c]],HLe.refl _,hs,?_⟩;rintro w σf4 - hs
  refine .block ?_
  refine .seq (.draw mix rfl hs fun w hs=>?_)
  refine .y 0 rfl hs aq ?_;refine .z 1 rfl (zfa eK) ?_;refine .y 2 rfl hs ae ?_;refine .z 3 rfl dP ?_
  refine .ixX (enc:=fun x=>[I x]) (i:=4) hs rfl an .none hr2 rfl rfl af aj (bE (l:=l) (i:=(g.at_+1)) ak) cU ?_;intro b23 o23 hc23;replace hc23:=bH.one hc23
  refine .r (i:=5) hs rfl an .none (a6 rfl ae hc23) ?_
  refine .y 6 rfl hs aq ?_;refine .z 7 rfl (zfa eK) ?_;refine .y 8 rfl hs ae ?_
  refine .ixX (enc:=fun x=>[I x]) (i:=9) hs rfl an .none hr2 rfl rfl af aj (bE (l:=l) (i:=g.at_) ak) cU ?_;intro b28 o28 hc28;replace hc28:=bH.one hc28
  refine .r (i:=10) hs rfl an .none (a6 rfl ae hc28) ?_
  refine .z 11 rfl fu ?_
  rw [hA]
  refine .z 12 rfl zg ?_;refine .D hs ?_
  refine .seq (.ai (.z (zfa gC) (.y hs (zld ae) (.z iP ?_))))
  skip
  refine .nil ?_
  refine (.cz rfl (fun hc33=>?_) (fun hc33=>?_))
  ·refine .ai ?_
   refine .y hs (zld Tryz.isAgg318) ?_
   refine .z (zfa eK) (.y hs (zld ae) (.z zm (.z pR (.z zm (.z pR ?_)))))
   refine .o (.buildSlice (cells:=[_,_]) hs gL rfl rfl fun b41 w hs=>?_)
   have h2:g.two=false:=by
    cases e:g.two with
    |false=>rfl
    |true=>simp [Grp.n,e] at hc33
   obtain ⟨H3,hle3,r41,hs⟩:=cR.dH (xs:=[18*A,18*A]) (v:= .slice (some ⟨b41,0,none⟩) 2 2) (.full (len:=2) rfl) db hs eF
   have hgw:=Cv h2 hA
   rw [hgw] at hK i5
   replace hs:St H3 w (.blk b3 [.slice (some ⟨b13,0,none⟩) l.length l.length]:: .blk b13 (Is (wA l j)):: .blk b5 [I (g.at_:Int),I (g.n:Int)]:: .blk b4 [.func (.func 285) #[.pointer (some ⟨b3,0,none⟩)] #[]]:: .blk b1 [.slice a l.length c]::σf4):=hs.sb
   refine .o (.lZ (first:=[.pointer (some ⟨b3,0,none⟩)]) (cap:=[]) rfl rfl Tryz.call285 (mj (from_:=g.at_) (xs:=[18*A,18*A]) hs hKl r41 (by simp;omega) ak ak ak) ?_);rintro _ w hs
   rw [←hK] at hs
   refine .nil ?_
   refine .exit ?_
   refine xT (xB ?_)
   exact ⟨H3,_,hle3,(hs.sb:St H3 w (.blk b3 _:: .blk b13 _:: .blk b4 _:: .blk b1 _::σf4)),rfl⟩
  ·refine .skip ?_
   refine nT ?_
   refine .seq (.draw mix rfl hs fun w hs=>?_)
   have h2:g.two=true:=by
    cases e:g.two with
    |true=>rfl
    |false=>simp [Grp.n,e] at hc33
   obtain ⟨j1,j2,j3,j4⟩:=i4 h2
   have hq2:=hp.bd (i:=g.at_+2) ak
   generalize hB:gi l (g.at_+2) - gi l (g.at_+1)=B at*
   have hmx:=zL (a:=A) (b:=B) ak ak
   have hk:=De j4
   have hmm:=yZ (a:=A) (b:=B) ⟨ak,ak⟩ ⟨ak,ak⟩
   obtain ⟨n1,n2,n3,n4⟩:=Ct hk hmm.1 hmm.2
   obtain ⟨n5,n6,n7,n8,n9⟩:=n4 _ n3.1 n3.2
   generalize hT:tms A B=T at*
   generalize hM:min A B=M at*
   have hgw:=Cu h2 hA hB hT hM
   refine .y 0 rfl hs aq ?_;refine .z 1 rfl (zfa eK) ?_;refine .y 2 rfl hs ae ?_;refine .z 3 rfl dP ?_
   refine .ixX (enc:=fun x=>[I x]) (i:=4) hs rfl an .none hr2 rfl rfl af aj (bE (l:=l) (i:=(g.at_+2)) ak) cU ?_;intro b47 o47 hc47;replace hc47:=bH.one hc47
   refine .r (i:=5) hs rfl an .none (a6 rfl ae hc47) ?_
   refine .y 6 rfl hs aq ?_;refine .z 7 rfl (zfa eK) ?_;refine .y 8 rfl hs ae ?_;refine .z 9 rfl dP ?_
   refine .ixX (enc:=fun x=>[I x]) (i:=10) hs rfl an .none hr2 rfl rfl af aj (bE (l:=l) (i:=(g.at_+1)) ak) cU ?_;intro b53 o53 hc53;replace hc53:=bH.one hc53
   refine .r (i:=11) hs rfl an .none (a6 rfl ae hc53) ?_
   refine .z 12 rfl fu ?_
   rw [hB]
   refine .z 13 rfl zg ?_;refine .D hs ?_
   refine .ai (.z zm (.z zm ?_))
   refine .o (.call Tryz.call287 rfl (fm hs ak ak) ?_);rintro _ w ⟨rfl,hs⟩
   refine .z zm (.z zm ?_)
   refine .o (.call Tryz.call287 rfl (fm hs ak ak) ?_);rintro _ w ⟨rfl,hs⟩
   refine .z zC ?_
   rw [←hmx]
   refine .z zg (.nil (.ai (.z zm ?_)))
   refine .q hs (vg rfl rfl ak ak) ?_
   refine .z zm (.z dP (.z pR (.z zm (.z zm (.z CM ?_)))))
   rw [hM]
   refine .z pR (.z zg (.nil (.ai (.z zm (.z zm (.z pR (.z zm (.z fu (.z pR ?_)))))))))
   refine .z zm (.z zm (.z dP (.z pR (.z zm (.z dP (.z pR (.z zm (.z zm (.z pR ?_)))))))))
   refine .z fu (.z pR ?_)
   refine .o (.buildSlice (cells:=[_,_,_]) hs vV rfl rfl fun b90 w hs=>?_)
   refine .z zg (.nil ?_)
   refine .cut (fun fs w=>∃H3,kq fs ⟨103,[],[(10,.slice (some ⟨b90,0,none⟩) 3 3),(5,.pointer (some ⟨b5,0,none⟩)),(4,.pointer (some ⟨b4,0,none⟩)),(3,.pointer (some ⟨b3,0,none⟩)),(1,.pointer (some ⟨b1,0,none⟩))]⟩∧HLe H2 H3∧RI H3 (.slice (some ⟨b90,0,none⟩) 3 3) (s3 l g)∧St H3 w (.blk b3 [.slice (some ⟨b13,0,none⟩) l.length l.length]:: .blk b13 (Is (wA l j)):: .blk b5 [I (g.at_:Int),I (g.n:Int)]:: .blk b4 [.func (.func 285) #[.pointer (some ⟨b3,0,none⟩)] #[]]:: .blk b1 [.slice a l.length c]::σf4)) ?_ ?_
   ·refine .ai (.z zm (.z zm (.z nu (.nil ?_))))
    refine (.cz rfl (fun hc93=>?_) (fun hc93=>?_))
    ·refine .region (.z zm ?_)
     refine .o (.call Tryz.call270 rfl (jb (en:= .blk b90 (Is [(6:Int).tdiv T*(1+T)*M*T*(2 - T),(6:Int).tdiv T*(1+T)*M*(1+T)*(1+T),(6:Int).tdiv T*(1+T)*M*(2*T - 1)])) (hs.sb:St H2 w (.blk b90 _:: .blk b3 _:: .blk b13 _:: .blk b5 _:: .blk b4 _:: .blk b1 _::σf4)) (.full rfl) db) ?_);rintro _ w ⟨en95,hO95,hs⟩
     refine .nil ?_
     refine nT ?_
     obtain ⟨H3,hle3,r90,hs⟩:=cR.dH hO95 db hs .here
     rw [if_pos hc93] at hgw
     rw [hgw]
     exact ⟨H3,bS,hle3,r90,hs⟩
    ·refine .skip ?_
     refine nT ?_
     obtain ⟨H3,hle3,r90,hs⟩:=cR.dH (xs:=[(6:Int).tdiv T*(1+T)*M*T*(2 - T),(6:Int).tdiv T*(1+T)*M*(1+T)*(1+T),(6:Int).tdiv T*(1+T)*M*(2*T - 1)]) (v:= .slice (some ⟨b90,0,none⟩) 3 3) (.full (len:=3) rfl) db hs eF
     rw [if_neg ak] at hgw
     rw [hgw]
     exact ⟨H3,bS,hle3,r90,hs.sb⟩
   ·rintro fs w ⟨H3,hfs,hle3,r90,hs⟩
    refine WE.sub ?_ hfs
    refine .region ?_
    refine .y hs (zld Tryz.isAgg318) ?_
    refine .z (zfa eK) (.y hs (zld ae) (.z zm ?_))
    refine .o (.lZ (first:=[.pointer (some ⟨b3,0,none⟩)]) (cap:=[]) rfl rfl Tryz.call285 (mj (from_:=g.at_) (xs:=s3 l g) hs hKl r90 (by rw [ya,show g.n=2 by unfold Grp.n;rw [h2];rfl];omega) ak ak ak) ?_);rintro _ w hs
    rw [←hK] at hs
    refine .nil ?_
    refine nB ?_
    exact ⟨H3,_,hle3,(hs.sb:St H3 w (.blk b3 _:: .blk b13 _:: .blk b4 _:: .blk b1 _::σf4)),rfl⟩
 ·rintro D H2 σb2 w hle2 rfl hs
  rw [show (nV l).length=(tO l).length by simp [nV],Bv] at hs
  replace hs:St H2 w (.obj D (.deferred (some [])):: .blk b3 [.slice (some ⟨b13,0,none⟩) l.length l.length]:: .blk b13 (Is (wts l)):: .blk b4 [.func (.func 285) #[.pointer (some ⟨b3,0,none⟩)] #[]]:: .blk b1 [.slice a l.length c]::σ):=hs
  refine nB (nT ?_)
  refine .ai (.z (zfa mn) (.y hs (zld aq) (.z zg (.nil ?_))))
  refine .ret ?_
  obtain ⟨H3,hle3,hR,hs⟩:=cR.dH (xs:=wts l) (v:= .slice (some ⟨b13,0,none⟩) l.length l.length) (.full (by simp [Is,fE])) (by rw [fE];omega) hs eF
  exact Fin.gQ [D] [] hs fun w hs=>⟨_,results1 Tryz.results260 rfl,H3,hle1.trans (hle2.trans hle3),hR,hs.out⟩
def yN(X Y:List Int)(i:Nat):List Int:=(List.range Y.length).map fun k=>gi X i*gi Y k
def nW(X Y:List Int)(i:Nat):List (List Int):=(List.range i).map (yN X Y)
theorem mR(X Y:List Int)(i:Nat):(yN X Y i).length=Y.length:=by simp [yN]
theorem la(X Y:List Int)(i:Nat):(nW X Y i).length=i:=by simp [nW]
theorem y7(X Y:List Int)(i:Nat):nW X Y (i+1)=nW X Y i++[yN X Y i]:=by simp [nW,List.range_succ]
theorem zX{X Y:List Int}{i k:Nat}(hk:k<Y.length):(yN X Y i).take (k+1)=(yN X Y i).take k++[gi X i*gi Y k]:=by
 rw [bU (by simp [yN,hk]:(yN X Y i)[k]? =some (gi X i*gi Y k))]
theorem yc{X Y:List Int}{n i:Nat}(h:i<n):gr (nW X Y n) i=yN X Y i:=by simp [gr,List.getD,nW,h]
theorem Cw{X Y:List Int}{n i k:Nat}(h:i<n)(hk:k<Y.length):gt (nW X Y n) i k=gi X i*gi Y k:=by
 unfold gt;rw [yc h];simp [gi,List.getD,yN,hk]
inductive GrS(X Y:List Int)(b:Nat)(i k:Nat)(H:bp)(σ:List Ent):Prop
 |go (us:List Value) (v:Value) (en:Ent) (h:i<X.length) (h1:RLs H us (nW X Y i)) (h2:cR 1 v (Is ((yN X Y i).take k)) en) (h3:σ=[.blk b (us++v::List.replicate (X.length - i - 1) (.slice none 0 0)),en])
 |fin (us:List Value) (h:i=X.length) (h1:RLs H us (nW X Y i)) (h3:σ=[.blk b us])
theorem GrS.mono{X Y:List Int}{b i k:Nat}{H H':bp}{σ:List Ent}(h:GrS X Y b i k H σ)(hl:HLe H H'):GrS X Y b i k H' σ:=by
 cases h with
 |go us v en h h1 h2 h3=>exact .go us v en h (h1.mono hl) h2 h3
 |fin us h h1 h3=>exact .fin us h (h1.mono hl) h3
theorem iY{v:Value}{l:List Int}(hs:St H w σ)(hr:RI H v l):
  Cl Tryz.prog 275 [v] w fun u w'=>∃H1 vo e,HLe H H1∧u= .tuple #[vo,I e]∧(e9 9 100000 l→e=0∧RI H1 vo (wts l))∧St H1 w' σ:=by
 obtain ⟨a,c,rfl⟩:=RI.shape hr
 refine Cl.o Tryz.func275 Tryz.ntmps275 ag1 ?_
 refine .ai (.z zg (.z zg (.nil (.seq (.ai (.z zm ?_))))))
 refine .o (.call Tryz.call299 rfl (ku hs hr) ?_);rintro _ w ⟨e,rfl,he,hs⟩
 refine .z zg (.nil (.ai (.z zm (.z ia (.nil ?_)))))
 refine (.dU rfl (fun hc8=>?_) (fun hc8=>?_))
 ·refine .ai (.z zm (.z zg (.z zg (.nil ?_))))
  refine .ret (rT (Fin.fY Tryz.results275 rfl rfl ?_))
  exact ⟨H,_,_,HLe.refl H,rfl,fun h=>by rcases he with ⟨_,h2⟩|⟨h1,_⟩;exact (hc8 h2).elim;exact (h1 h).elim,hs⟩
 ·refine .skip ?_
  refine nT ?_
  refine .ai (.z zm ?_)
  have hp:e9 9 100000 l:=by rcases he with ⟨h,_⟩|⟨_,h2⟩;exact h;exact (h2 (by simpa using hc8)).elim
  refine .o (.call Tryz.call260 rfl (fL hs hr hp) ?_);rintro v11 w ⟨H1,hle1,hR,hs⟩
  refine .z zg (.z zg (.nil ?_))
  refine .ret (Fin.fY Tryz.results275 rfl rfl ?_)
  exact ⟨H1,_,_,hle1,rfl,fun _=>⟨rfl,hR⟩,hs⟩
theorem oM{v1 v2:Value}{a b:List Int}(hs:St H w σ)(h1:RI H v1 a)(h2:RI H v2 b):
  Cl Tryz.prog 215 [v1,v2] w fun u w'=>∃bb:Bool,u= .bool bb∧(bb=true↔e9 9 100000 a∧e9 7 15000 b)∧St H w' σ:=by
 refine Cl.o Tryz.func215 Tryz.ntmps215 ag2 ?_
 refine .ai (.z zg (.nil (.ai (.z zm ?_))))
 refine .o (.call Tryz.call259 rfl (ff (many:=9) (most:=100000) hs h1) ?_);rintro _ w ⟨b6,rfl,hb6,hs⟩
 refine .z zm ?_
 refine .bif (t':=7) rfl (fun hb7=>?_) (fun hb7=>?_)
 ·refine .gT rfl rfl ?_
  refine .z zm ?_
  refine .gT rfl rfl ?_
  refine .o (.call Tryz.call259 rfl (ff (many:=7) (most:=15000) hs h2) ?_);rintro _ w ⟨b9,rfl,hb9,hs⟩
  refine .z zpT (.z zg (.nil ?_))
  refine .ret (Fin.bg Tryz.results215 rfl ?_)
  exact ⟨_,rfl,by rw [hb9];exact ⟨fun h=>⟨hb6.1 hb7,h⟩,fun h=>h.2⟩,hs⟩
 ·refine .gFs 2 2 true rfl rfl rfl ?_
  refine .z zpF (.z zg (.nil ?_))
  refine .ret (Fin.bg Tryz.results215 rfl ?_)
  exact ⟨_,rfl,⟨fun h=>(by cases h),fun h=>by rw [hb6.2 h.1] at hb7;cases hb7⟩,hs⟩
theorem lO{bx by_:Nat}{x y:Int}(hs:St H w σ)(hx:Row H bx [I x])(hy:Row H by_ [I y]):
  Cl Tryz.prog 289 [.pointer (some ⟨bx,0,none⟩),.pointer (some ⟨by_,0,none⟩)] w fun u w'=>u= .tuple #[I x,I y]∧St H w' σ:=by
 have hx0:=hx.at 0
 have hy0:=hy.at 0
 refine Cl.o Tryz.func289 Tryz.ntmps289 ag2 ?_
 refine .ai (.z zg (.z zg (.nil ?_)))
 refine .seq (.draw mix rfl hs fun w hs=>?_)
 refine .y 0 rfl hs ae ?_;refine .y 1 rfl hs ae ?_;refine .z 2 rfl zg ?_;refine .z 3 rfl zg ?_;refine .D hs ?_
 refine .ret (Fin.fY Tryz.results289 rfl rfl ?_)
 exact ⟨rfl,hs⟩
def PrE(X Y:List Int)(p:Nat)(H:bp)(z:List Value):Prop:=
 ∃bx by_,z=[.agg #[I ((p/Y.length:Nat):Int),I ((p%Y.length:Nat):Int)],.func (.func 289) #[] #[.pointer (some ⟨bx,0,none⟩),.pointer (some ⟨by_,0,none⟩)]]∧Row H bx [I (gi X (p/Y.length))]∧Row H by_ [I (gi Y (p%Y.length))]
theorem nx{H:bp}{b1 b2:Nat}{v1 v2:Value}{X Y:List Int}(hb1:Row H b1 [v1])(hb2:Row H b2 [v2])(hX:RI H v1 X)(hY:RI H v2 Y)(hXl:X.length≤1000)(hYl:Y.length≤1000):
  CH Tryz.prog 288 [.pointer (some ⟨b1,0,none⟩),.pointer (some ⟨b2,0,none⟩)] H (X.length*Y.length) (PrE X Y):=by
 intro ly II Ix hmI _ hy H0 σb0 σf w hle hI0 hs
 obtain ⟨a1,c1,rfl⟩:=RI.shape hX
 obtain ⟨a2,c2,rfl⟩:=RI.shape hY
 have h01:cellAt H0 b1 0=some (.slice a1 X.length c1):=cellAt.mono (hb1.at 0) hle
 have h02:cellAt H0 b2 0=some (.slice a2 Y.length c2):=cellAt.mono (hb2.at 0) hle
 refine Cl.o Tryz.func288 Tryz.ntmps288 ag3 ?_
 refine .ai (.y hs (zld aq) (.z (dp af) (.z zm (.nil ?_))))
 refine .for (N:=X.length) (J:=fun i fr w=>fr=[(8,.slice a1 X.length c1),(0,.func (.yield ly) #[] #[]),(1,.pointer (some ⟨b1,0,none⟩)),(2,.pointer (some ⟨b2,0,none⟩))]∧∃H1 σb,HLe H H1∧HLe H0 H1∧II (i*Y.length) H1 σb∧St H1 w (σb++σf)) ak ?_ ?_ ?_
 ·exact .mk ⟨rfl,H0,σb0,hle,HLe.refl _,by rw [Nat.zero_mul];exact hI0,hs⟩
 ·rintro i fr w hi ⟨rfl,H1,σb,hle1,hle0,hI,hs⟩
  refine .block (.ai (.z zm ?_))
  refine .ixY hs (hX.mono hle1) rfl rfl af aj (bE (l:=X) (i:=i) ak) cU ?_;intro b13 o13 hc13
  refine .q hs (a6 rfl ae hc13) ?_
  refine .o (.alloc hs bA rfl fun b5 w hs=>?_)
  refine .z zg ?_
  refine .o (.store hs rfl rfl aj fun w hs=>?_)
  refine .nil (.ai ?_)
  obtain ⟨H2,hle2,r5,hs⟩:=hs.ck (b:=b5) .here
  have h22:=cellAt.mono h02 (hle0.trans hle2)
  refine .y hs (zld aq) (.z (dp af) (.z zm (.nil ?_)))
  refine .for (N:=Y.length) (J:=fun k fr w=>fr=[(15,.slice a2 Y.length c2),(4,I (i:Int)),(10,I (i:Int)),(9,I (X.length:Int)),(5,.pointer (some ⟨b5,0,none⟩)),(8,.slice a1 X.length c1),(0,.func (.yield ly) #[] #[]),(1,.pointer (some ⟨b1,0,none⟩)),(2,.pointer (some ⟨b2,0,none⟩))]∧∃H3 σb,HLe H2 H3∧II (i*Y.length+k) H3 σb∧St H3 w (σb++σf)) ak ?_ ?_ ?_
  ·exact .mk ⟨rfl,H2,σb,HLe.refl _,hmI _ _ _ _ hle2 hI,hs⟩
  ·rintro k fr w hk ⟨rfl,H3,σb3,hle3,hI3,hs⟩
   have hle03:=hle0.trans (hle2.trans hle3)
   have hle13:=hle1.trans (hle2.trans hle3)
   refine .block (.ai (.z zm ?_))
   refine .ixY hs (hY.mono hle13) rfl rfl af aj (bE (l:=Y) (i:=k) ak) cU ?_;intro b20 o20 hc20
   refine .q hs (a6 rfl ae hc20) ?_
   refine .o (.alloc hs bA rfl fun b7 w hs=>?_)
   refine .z zg ?_
   refine .o (.store hs rfl rfl aj fun w hs=>?_)
   refine .nil (.ai (.z zm (.z zm (.z zm ?_))))
   refine .q hs (BY (vs:=[(0,I (i:Int)),(1,I (k:Int))]) (cells:=[I (i:Int),I (k:Int)]) Tryz.zeroValue76 rfl cI aj rfl) ?_
   refine .q hs (bX (f:=[]) (c:=[_,_]) rfl rfl) ?_
   obtain ⟨H4,hle4,r7,hs⟩:=hs.ck (b:=b7) .here
   obtain ⟨d1,d2⟩:=Dd (nw:=Y.length) (i:=i) (k:=k) hk
   have hlt:i*Y.length+k<X.length*Y.length:=by
    have:=Nat.mul_le_mul_right Y.length (show i+1≤X.length by omega)
    rw [Nat.add_mul,Nat.one_mul] at this;omega
   have hyd:=hy (i*Y.length+k) hlt [.agg #[I (i:Int),I (k:Int)],.func (.func 289) #[] #[.pointer (some ⟨b5,0,none⟩),.pointer (some ⟨b7,0,none⟩)]] H4 σb3 σf w (hle13.trans hle4) ⟨b5,b7,by rw [d1,d2],by rw [d1];exact r5.mono (hle3.trans hle4),by rw [d2];exact r7⟩ (hmI _ _ _ _ hle4 hI3) hs
   refine .o (.yield rfl rfl hyd ?_);rintro v27 w ⟨H5,σ5,g1,hs,g3⟩
   obtain ⟨bb,rfl,gT,gF⟩:=kN g3
   refine .z eL (.nil ?_)
   refine (.cond rfl (fun hc28=>?_) (fun hc28=>?_))
   ·refine .ret (rB (rT (rB (rB (rT (rB (Fin.Ee Tryz.results288 ?_)))))))
    exact ⟨H5,σ5,hle03.trans (hle4.trans g1),hs,.inr (gF (by simpa using hc28))⟩
   ·refine .skip ?_
    refine nB (nT ?_)
    exact .mk ⟨rfl,H5,σ5,hle3.trans (hle4.trans g1),gT (by simpa using hc28),hs⟩
  ·rintro fr w ⟨rfl,H3,σb3,hle3,hI3,hs⟩
   refine nB (nT ?_)
   exact .mk ⟨rfl,H3,σb3,hle1.trans (hle2.trans hle3),hle0.trans (hle2.trans hle3),by rw [Nat.add_mul,Nat.one_mul];exact hI3,hs⟩
 ·rintro fr w ⟨rfl,H1,σb,hle1,hle0,hI,hs⟩
  exact Fin.vR Tryz.results288 ⟨H1,σb,hle0,hs,.inl hI⟩
theorem pU{v1 v2:Value}{X Y:List Int}(hs:St H w σ)(hX:RI H v1 X)(hY:RI H v2 Y)(hXl:X.length≤1000)(hYl:Y.length≤1000):
  Cl Tryz.prog 261 [v1,v2] w fun u w'=>∃H1 b1 b2,HLe H H1∧u= .func (.func 288) #[] #[.pointer (some ⟨b1,0,none⟩),.pointer (some ⟨b2,0,none⟩)]∧CH Tryz.prog 288 [.pointer (some ⟨b1,0,none⟩),.pointer (some ⟨b2,0,none⟩)] H1 (X.length*Y.length) (PrE X Y)∧St H1 w' σ:=by
 obtain ⟨a1,c1,rfl⟩:=RI.shape hX
 obtain ⟨a2,c2,rfl⟩:=RI.shape hY
 refine Cl.o Tryz.func261 Tryz.ntmps261 ag2 ?_
 refine .ai ?_
 refine .bx hs fun b2 w hs=>?_
 refine .bx hs fun b3 w hs=>?_
 refine .z zg (.nil (.ai ?_))
 refine .q hs (bX (f:=[]) (c:=[_,_]) rfl rfl) ?_
 refine .z zg (.nil ?_)
 refine .ret (Fin.bg Tryz.results261 rfl ?_)
 obtain ⟨H1,g1,r1,hs⟩:=hs.ck (b:=b2) eF
 obtain ⟨H2,g2,r2,hs⟩:=hs.ck (b:=b3) eF
 exact ⟨H2,b2,b3,g1.trans g2,rfl,nx (r1.mono g2) r2 (hX.mono (g1.trans g2)) (hY.mono (g1.trans g2)) hXl hYl,hs⟩
set_option maxHeartbeats 1000000 in
theorem qH{v1 v2:Value}{l1 l2:List Int}(hs:St H w σ)(hr1:RI H v1 l1)(hr2:RI H v2 l2)(hp1:e9 9 100000 l1)(hp2:e9 7 15000 l2):
  Cl Tryz.prog 216 [v1,v2] w fun u w'=>∃H1,HLe H H1∧RT H1 u (nW (wts l1) (wts l2) l1.length)∧St H1 w' σ:=by
 obtain ⟨a1,c1,rfl⟩:=RI.shape hr1
 obtain ⟨a2,c2,rfl⟩:=RI.shape hr2
 have hn1:=hp1.many
 have hn2:=hp2.many
 have htw1:=hp1.two
 have htw2:=hp2.two
 have hp2':e9 9 100000 l2:=⟨hp2.two,ak,hp2.low,by have:=hp2.high;omega,hp2.rise⟩
 have hXl:=fE l1
 have hYl:=fE l2
 have hXb:=CN hp1
 have hYb:=CN hp2
 refine Cl.o Tryz.func216 Tryz.ntmps216 ag2 ?_
 refine .ai (.z zg (.nil (.ai (.z zm ?_))))
 refine .o (.call Tryz.call260 rfl (fL hs hr1 hp1) ?_);rintro v13 w ⟨H1,hle1,hX,hs⟩
 refine .z zm ?_
 refine .o (.call Tryz.call260 rfl (fL hs (hr2.mono hle1) hp2') ?_);rintro v15 w ⟨H2,hle2,hY,hs⟩
 replace hX:=hX.mono hle2
 generalize wts l1=X at*
 generalize wts l2=Y at*
 obtain ⟨aX,cX,rfl⟩:=RI.shape hX
 obtain ⟨aY,cY,rfl⟩:=RI.shape hY
 refine .z zg (.z zg (.nil (.ai (.z zm (.z (dp af) ?_)))))
 refine .o (.Gm l1.length hs rfl rfl dh Tryz.typeInfo34 rfl aJ dY ak fun b18 w hs=>?_)
 refine .o (.alloc hs Tryz.zeroValue62 rfl fun b7 w hs=>?_)
 refine .o (.store hs rfl rfl Tryz.sizeOf62 fun w hs=>?_)
 refine .nil (.seq (.ai (.z zm (.z zm ?_))))
 refine .o (.call Tryz.call261 rfl (pU hs hX hY ak ak) ?_);rintro _ w ⟨H3,bp1,bp2,hle3,rfl,hit,hs⟩
 have hle03:=hle1.trans (hle2.trans hle3)
 have h0:GrS X Y b18 0 0 H3 [.blk b18 (List.replicate l1.length (.slice none 0 0)),.nul]:=by
  refine .go [] (.slice none 0 0) .nul ak (RLs.nil _) (.nil 1 none) ?_
  rw [hXl]
  obtain ⟨m,hm⟩:∃m,l1.length=m+1:=⟨l1.length - 1,ak⟩
  rw [hm]
  rfl
 refine .nil (.block ?_)
 refine .CT (gf:=288) (cap:=[.pointer (some ⟨bp1,0,none⟩),.pointer (some ⟨bp2,0,none⟩)]) (N:=X.length*Y.length) (E:=PrE X Y) (σb:= .blk b7 [.slice (some ⟨b18,0,none⟩) l1.length l1.length]::[.blk b18 (List.replicate l1.length (.slice none 0 0)),.nul]) (σf:=σ) (hs.nul.sb) trivial rfl hit Tryz.call288 (fun k H' z ⟨_,_,hz,_⟩=>by rw [hz];rfl) rfl
  (I:=fun p H' σb=>∃σ1,σb= .blk b7 [.slice (some ⟨b18,0,none⟩) l1.length l1.length]::σ1∧GrS X Y b18 (p/Y.length) (p%Y.length) H' σ1) (Ix:=fun _ _ _=>False)
  (fun j _ _ σ g1 ⟨σ1,g2,g3⟩=>⟨σ1,g2,g3.mono g1⟩) (fun _ _ _ _ _ h=>h) ⟨_,rfl,by rw [Nat.zero_div,Nat.zero_mod];exact h0⟩ ?_ ?_ (fun D c H' σb w _ h _=>h.elim)
 ·rintro ly p hp z H4 σb2 σf2 w hle4 ⟨bx,by_,rfl,rx,ry⟩ ⟨σ1,rfl,hG⟩ hs ⟨rr,hrr⟩
  have hnext:=xR (p:=p) (m:=Y.length) ak
  have hkm:=Nat.mod_lt p (show 0<Y.length by omega)
  have hin:p/Y.length<X.length:=Nat.div_lt_of_lt_mul (by rw [Nat.mul_comm];exact hp)
  generalize hi:p/Y.length=i at*
  generalize hk:p%Y.length=k at*
  cases hG with
  |fin us h=>omega
  |go us v en h h1 h2 h3=>
  subst h3
  obtain ⟨av,lv,cv,rfl,hlv⟩:=h2.shape
  have husl:us.length=i:=by rw [h1.1,la]
  have hb1:=hXb i
  have hb2:=hYb k
  have hpr:=C3 (gi X i) (gi Y k)
  have hprb: -3456000000000≤gi X i*gi Y k∧gi X i*gi Y k≤3456000000000:=kU (A:=4800000) (B:=720000) (by unfold ab at hb1;omega) (by unfold ab at hb2;omega)
  refine .ai ?_
  refine .o (.alloc hs Tryz.zeroValue76 rfl fun b8 w hs=>?_)
  refine .o (.aI (vs:=[_,_]) hs rfl rfl Tryz.sizeOf76 fun w hs=>?_)
  refine .nil (.region (.z zg (.nil ?_)))
  refine nT ?_
  refine ⟨H4,[.blk b8 [I (i:Int),I (k:Int)],.blk b7 [.slice (some ⟨b18,0,none⟩) l1.length l1.length],.blk b18 (us++Value.slice av lv cv::List.replicate (X.length - i - 1) (Value.slice none 0 0)),en],HLe.refl _,hs,?_⟩;rintro w σf4 - hs
  refine .block (.ai (.z zm ?_))
  refine .o (.lZ (first:=[]) (cap:=[.pointer (some ⟨bx,0,none⟩),.pointer (some ⟨by_,0,none⟩)]) rfl rfl Tryz.call289 (lO hs rx ry) ?_);rintro _ w ⟨rfl,hs⟩
  refine .z zm (.z zex (.z zex (.z zg (.z zg (.nil ?_)))))
  refine .draw mix rfl hs fun w hs=>?_
  refine .y 0 rfl hs rU ?_
  refine .z 1 rfl (zia 0 cI aj) ?_
  refine .y 2 rfl hs ae ?_;refine .y 3 rfl hs rU ?_
  refine .z 4 rfl (zia 0 cI aj) ?_
  refine .y 5 rfl hs ae ?_
  refine .z 6 rfl (kD (k:=i) rfl rfl dh aJ rfl ak) ?_
  refine .load (i:=7) hs rfl an .none rfl aq ?_ (hv:=by rw [List.getElem?_append_right ak,husl,Nat.sub_self];rfl)
  refine .z 8 rfl zm ?_;refine .z 9 rfl zm ?_;refine .z 10 rfl pR ?_
  refine .E 11 hs ?_
  refine .buildSlice (cells:=[_]) hs cP rfl rfl ?_;intro b40 w hs
  refine .go ?_
  refine .E 12 hs ?_
  refine .append (ys:=Is [gi X i*gi Y k]) hs da rfl rfl h2 (.own .here rfl rfl) (lC _) (fun l' h=>by simp at h;omega) ?_;intro v41 en41 w hO hs
  rw [show Is ((yN X Y i).take k)++Is [gi X i*gi Y k]=Is ((yN X Y i).take (k+1)) by rw [zX hkm];simp [Is]] at hO
  obtain ⟨a41,l41,c41,rfl,hl41⟩:=hO.shape
  refine .go ?_
  refine .z 13 rfl (kD (k:=i) rfl rfl dh aJ rfl ak) ?_
  refine .E 14 hs ?_
  refine .store (c':=us++ .slice a41 l41 c41::List.replicate (X.length - i - 1) (.slice none 0 0)) hs rfl rfl aJ ?_ eF (by simp;omega) (by rw [List.set_append_right _ _ ak,husl,Nat.sub_self];rfl);intro w hs
  refine .go ?_
  refine .D hs ?_
  refine nB ?_
  rcases hnext with ⟨g1,g2,g3⟩|⟨g1,g2,g3⟩
  ·exact ⟨H4,[.blk b7 [.slice (some ⟨b18,0,none⟩) l1.length l1.length],.blk b18 (us++ .slice a41 l41 c41::List.replicate (X.length - i - 1) (.slice none 0 0)),en41],HLe.refl _,(hs.sb:St H4 w (.blk b7 _:: .blk b18 _::en41::σf4)),_,rfl,by rw [g2,g3];exact .go us _ en41 h h1 hO rfl⟩
  ·obtain ⟨H5,hle5,hR,hs⟩:=cR.dH hO (by rw [List.length_take,mR];omega) hs eF
   rw [List.take_of_length_le (by rw [mR];omega)] at hR
   have h1':RLs H5 (us++[.slice a41 l41 c41]) (nW X Y (i+1)):=by rw [y7];exact (h1.mono hle5).snoc hR
   by_cases e:i+1<X.length
   ·refine ⟨H5,[.blk b7 [.slice (some ⟨b18,0,none⟩) l1.length l1.length],.blk b18 (us++ .slice a41 l41 c41::List.replicate (X.length - i - 1) (.slice none 0 0)),.nul],hle5,(hs.nul.sb:St H5 w (.blk b7 _:: .blk b18 _:: .nul::σf4)),_,rfl,?_⟩
    rw [g2,g3]
    refine .go (us++[.slice a41 l41 c41]) (.slice none 0 0) .nul e h1' (.nil 1 none) ?_
    obtain ⟨m,hm⟩:∃m,X.length - i - 1=m+1:=⟨X.length - i - 2,ak⟩
    rw [hm,show X.length - (i+1) - 1=m by omega,List.append_assoc]
    rfl
   ·refine ⟨H5,[.blk b7 [.slice (some ⟨b18,0,none⟩) l1.length l1.length],.blk b18 (us++ .slice a41 l41 c41::List.replicate (X.length - i - 1) (.slice none 0 0))],hle5,(hs.sb:St H5 w (.blk b7 _:: .blk b18 _::σf4)),_,rfl,?_⟩
    rw [g2,g3]
    refine .fin (us++[.slice a41 l41 c41]) ak h1' ?_
    rw [show X.length - i - 1=0 by omega]
    rfl
 ·rintro D H4 σb2 w hle4 ⟨σ1,rfl,hG⟩ hs
  rw [Nat.mul_div_cancel _ ak,Nat.mul_mod_left] at hG
  cases hG with
  |go us v en h=>omega
  |fin us h h1 h3=>
  subst h3
  replace hs:St H4 w (.obj D (.deferred (some [])):: .blk b7 [.slice (some ⟨b18,0,none⟩) l1.length l1.length]:: .blk b18 us::σ):=hs
  have husl:us.length=l1.length:=by rw [h1.1,la,hXl]
  refine nB (nT ?_)
  refine .ai (.y hs (zld rU) (.z zg (.nil ?_)))
  refine .ret ?_
  obtain ⟨H5,hle5,hR,hs⟩:=h1.ck (v:= .slice (some ⟨b18,0,none⟩) l1.length l1.length) (en:= .blk b18 us) (.full (by simp [husl])) ak hs eF
  rw [hXl] at hR
  exact Fin.gQ [D] [] hs fun w hs=>⟨_,results1 Tryz.results216 rfl,H5,hle03.trans (hle4.trans hle5),hR,hs.out⟩
theorem kQ{v1 v2:Value}{l1 l2:List Int}(hs:St H w σ)(hr1:RI H v1 l1)(hr2:RI H v2 l2):
  Cl Tryz.prog 163 [v1,v2] w fun u w'=>∃H1 vo e,HLe H H1∧u= .tuple #[vo,I e]∧(e9 9 100000 l1∧e9 7 15000 l2→e=0∧RT H1 vo (nW (wts l1) (wts l2) l1.length))∧(e=0→e9 9 100000 l1∧e9 7 15000 l2)∧St H1 w' σ:=by
 refine Cl.o Tryz.func163 Tryz.ntmps163 ag2 ?_
 refine .ai (.z zg (.z zg (.nil (.seq (.ai (.z zm (.z zm ?_)))))))
 refine .o (.call Tryz.call215 rfl (oM hs hr1 hr2) ?_);rintro _ w ⟨b8,rfl,hb8,hs⟩
 refine .z eL (.nil ?_)
 refine (.cond rfl (fun hc9=>?_) (fun hc9=>?_))
 ·refine .ai (.z zg (.z zg (.nil ?_)))
  refine .ret (rT (Fin.fY Tryz.results163 rfl rfl ?_))
  exact ⟨H,_,_,HLe.refl H,rfl,fun h=>(by rw [hb8.2 h] at hc9;cases hc9),fun h=>ak,hs⟩
 ·refine .skip ?_
  refine nT ?_
  refine .ai (.z zm (.z zm ?_))
  have hp:=hb8.1 (by simpa using hc9)
  refine .o (.call Tryz.call216 rfl (qH hs hr1 hr2 hp.1 hp.2) ?_);rintro v12 w ⟨H1,hle1,hR,hs⟩
  refine .z zg (.z zg (.nil ?_))
  refine .ret (Fin.fY Tryz.results163 rfl rfl ?_)
  exact ⟨H1,_,_,hle1,rfl,fun _=>⟨rfl,hR⟩,fun _=>hp,hs⟩
end Go.Proofs.YteajddicacjkhaaGreat
namespace Go.Proofs.YteajddicacjkhaaGreat
open Go.MW
def Grp.c(g:Grp):List Value:=[I (g.at_:Int),I (g.n:Int)]
theorem AF{l:List Int}{i j:Nat}(h:i≠j)(x:Int):gi (l.set i x) j=gi l j:=by
 simp [gi,List.getD,h]
end Go.Proofs.YteajddicacjkhaaGreat
namespace Go.Proofs.YteajddicacjkhaaGreat
open Go.MW
variable{H:bp}{w:World}{σ:List Ent}
theorem aP{a0 a1 a2:Int}(hs:St H w σ):Cl Tryz.prog 164 [I a0,I a1,I a2] w fun v w'=>v= .bool (decide (a1≤a0∧a0≤a2))∧St H w' σ:=by
 refine Cl.o Tryz.func164 Tryz.ntmps164 ag3 ?_
 refine .ai (.z zg (.nil (.ai (.z zm (.z zm (.z oJ (.z zm ?_)))))))
 refine .gM (t':=10) rfl (fun hb10=>?_) (fun hb10=>?_)
 ·refine .gT rfl rfl ?_
  refine .z zm ?_
  refine .gT rfl rfl ?_
  refine .z zm ?_
  refine .gT rfl rfl ?_
  refine .z oJ (.z zpT (.z zg (.nil ?_)))
  refine .ret (Fin.bg Tryz.results164 rfl ?_)
  exact ⟨by simp [*],hs.out⟩
 ·refine .gFs 3 3 true rfl rfl rfl ?_
  refine .z zpF (.z zg (.nil ?_))
  refine .ret (Fin.bg Tryz.results164 rfl ?_)
  exact ⟨by simp [*],hs.out⟩
theorem eT{a0:Int}(hs:St H w σ):Cl Tryz.prog 165 [I a0] w fun v w'=>v= .bool (decide (1≤a0∧a0≤99999))∧St H w' σ:=by
 refine Cl.o Tryz.func165 Tryz.ntmps165 ag1 ?_
 refine .ai (.z zg (.nil (.ai (.z zm ?_))))
 refine .o (.call cD rfl (aP hs) ?_);rintro _ w ⟨rfl,hs⟩
 refine .z zg (.nil ?_)
 refine .ret (Fin.bg Tryz.results165 rfl ?_)
 exact ⟨rfl,hs⟩
def Spc.agg(s:Spc)(vst vwa:Value):Value:= .agg #[I s.id,I s.src,vst,vwa,I s.al,I s.up]
theorem fN{s:Spc}{vst vwa:Value}(hs:St H w σ)(h1:RI H vst s.st)(h2:RI H vwa s.wa):
  Cl Tryz.prog 111 [.agg #[I s.id,I s.src,vst,vwa,I s.al,I s.up]] w fun v w'=>∃H1 e,HLe H H1∧v=I e∧((dr s∧e=0)∨(¬dr s∧e=30))∧St H1 w' σ:=by
 obtain ⟨ast,cst,rfl⟩:=RI.shape h1
 obtain ⟨awa,cwa,rfl⟩:=RI.shape h2
 refine Cl.o Tryz.func111 Tryz.ntmps111 ag1 ?_
 refine .ai ?_
 refine .bx hs fun b1 w hs=>?_
 refine .z zg (.nil (.seq (.ai (.z (zfa cM) (.y hs (zld aq) (.z (zfa bF) (.y hs (zld aq) ?_)))))))
 refine .o (.call Tryz.call163 rfl (kQ hs h1 h2) ?_);rintro _ w ⟨H1,vo,e,hle1,rfl,hG,hG',hs⟩
 refine .z zm (.z zex (.z zex (.z zg (.z zg (.nil (.ai (.z zm (.z ia (.z zm ?_)))))))))
 refine .DV (t':=15) rfl (fun hb15=>?_) (fun hb15=>?_)
 ·refine .gFs 4 2 false rfl rfl rfl ?_
  refine .z zpT (.z zm ?_)
  refine .gFs 4 8 false rfl rfl rfl ?_
  refine .z zpT (.z zm ?_)
  refine .gFs 5 14 false rfl rfl rfl ?_
  refine .z zpT (.z zm ?_)
  refine .gFs 5 21 false rfl rfl rfl ?_
  refine .z zpT (.nil ?_)
  refine (.cT ?_)
  refine .ai (.z zg (.nil ?_))
  refine .ret (rT (Fin.bg qt rfl ?_))
  exact ⟨H1,_,hle1,rfl,.inr ⟨fun h=>by have:=(hG ⟨h.st,h.wa⟩).1;simp_all,rfl⟩,hs.out⟩
 ·refine .gT rfl rfl ?_
  refine .z (zfa se) ?_
  refine .gT rfl rfl ?_
  refine .y hs (zld ae) ?_
  refine .gT rfl rfl ?_
  refine .o (.call cD rfl (aP hs) ?_);rintro _ w ⟨rfl,hs⟩
  refine .gT rfl rfl ?_
  refine .z eL (.z zpF (.z zm ?_))
  refine .bif (t':=21) rfl (fun hb21=>?_) (fun hb21=>?_)
  ·refine .gFs 4 8 false rfl rfl rfl ?_
   refine .z zpT (.z zm ?_)
   refine .gFs 5 14 false rfl rfl rfl ?_
   refine .z zpT (.z zm ?_)
   refine .gFs 5 21 false rfl rfl rfl ?_
   refine .z zpT (.nil ?_)
   refine (.cT ?_)
   refine .ai (.z zg (.nil ?_))
   refine .ret (rT (Fin.bg qt rfl ?_))
   exact ⟨H1,_,hle1,rfl,.inr ⟨fun h=>by have:=h.id;simp_all,rfl⟩,hs.out⟩
  ·refine .gT rfl rfl ?_
   refine .z (zfa fi) ?_
   refine .gT rfl rfl ?_
   refine .y hs (zld ae) ?_
   refine .gT rfl rfl ?_
   refine .o (.call Tryz.call165 rfl (eT hs) ?_);rintro _ w ⟨rfl,hs⟩
   refine .gT rfl rfl ?_
   refine .z eL (.z zpF (.z zm ?_))
   refine .bif (t':=27) rfl (fun hb27=>?_) (fun hb27=>?_)
   ·refine .gFs 5 14 false rfl rfl rfl ?_
    refine .z zpT (.z zm ?_)
    refine .gFs 5 21 false rfl rfl rfl ?_
    refine .z zpT (.nil ?_)
    refine (.cT ?_)
    refine .ai (.z zg (.nil ?_))
    refine .ret (rT (Fin.bg qt rfl ?_))
    exact ⟨H1,_,hle1,rfl,.inr ⟨fun h=>by have:=h.src;simp_all,rfl⟩,hs.out⟩
   ·refine .gT rfl rfl ?_
    refine .z (zfa gz) ?_
    refine .gT rfl rfl ?_
    refine .z (zfa nY) ?_
    refine .gT rfl rfl ?_
    refine .y hs (zld ae) ?_
    refine .gT rfl rfl ?_
    refine .o (.call cD rfl (aP hs) ?_);rintro _ w ⟨rfl,hs⟩
    refine .gT rfl rfl ?_
    refine .z eL (.z zpF (.z zm ?_))
    refine .bif (t':=34) rfl (fun hb34=>?_) (fun hb34=>?_)
    ·refine .gFs 5 21 false rfl rfl rfl ?_
     refine .z zpT (.nil ?_)
     refine (.cT ?_)
     refine .ai (.z zg (.nil ?_))
     refine .ret (rT (Fin.bg qt rfl ?_))
     exact ⟨H1,_,hle1,rfl,.inr ⟨fun h=>by have:=h.al;simp_all,rfl⟩,hs.out⟩
    ·refine .gT rfl rfl ?_
     refine .z (zfa gz) ?_
     refine .gT rfl rfl ?_
     refine .z (zfa nX) ?_
     refine .gT rfl rfl ?_
     refine .y hs (zld ae) ?_
     refine .gT rfl rfl ?_
     refine .o (.call cD rfl (aP hs) ?_);rintro _ w ⟨rfl,hs⟩
     refine .gT rfl rfl ?_
     refine .z eL (.z zpF (.nil ?_))
     refine (.cond rfl (fun hc40=>?_) (fun hc40=>?_))
     ·refine .ai (.z zg (.nil ?_))
      refine .ret (rT (Fin.bg qt rfl ?_))
      exact ⟨H1,_,hle1,rfl,.inr ⟨fun h=>by have:=h.up;simp_all,rfl⟩,hs.out⟩
     ·refine .skip ?_
      refine nT ?_
      refine .ai (.z zg (.nil ?_))
      refine .ret (Fin.bg qt rfl ?_)
      have hg:=hG' (by simp_all)
      exact ⟨H1,_,hle1,rfl,.inl ⟨⟨hg.1,hg.2,by simp_all,by simp_all,by simp_all,by simp_all⟩,rfl⟩,hs.out⟩
theorem kE{s:Spc}{r:Rdg}{vst vwa:Value}(hs:St H w σ)(h1:RI H vst s.st)(h2:RI H vwa s.wa):
  Cl Tryz.prog 120 [.agg #[I s.id,I s.src,vst,vwa,I s.al,I s.up],.agg #[I r.src,I r.st,I r.wa,I r.val,I r.tol,I r.tape,I r.day]] w fun v w'=>∃b:Bool,v= .bool b∧(b=true↔iR s r)∧St H w' σ:=by
 obtain ⟨ast,cst,rfl⟩:=RI.shape h1
 obtain ⟨awa,cwa,rfl⟩:=RI.shape h2
 have l1:=(RI.len h1).2.2
 have l2:=(RI.len h2).2.2
 refine Cl.o Tryz.func120 Tryz.ntmps120 ag2 ?_
 refine .ai ?_
 refine .bx hs fun b2 w hs=>?_
 refine .bx hs fun b3 w hs=>?_
 refine .z zg (.nil (.ai (.z (zfa kh) (.y hs (zld ae) ?_))))
 refine .o (.call Tryz.call165 rfl (eT hs) ?_);rintro _ w ⟨rfl,hs⟩
 refine .z zm ?_
 refine .bif (t':=8) rfl (fun hb8=>?_) (fun hb8=>?_)
 ·refine .gT rfl rfl ?_
  refine .z (zfa kg) ?_
  refine .gT rfl rfl ?_
  refine .y hs (zld ae) ?_
  refine .gT rfl rfl ?_
  refine .z (zfa cM) ?_
  refine .gT rfl rfl ?_
  refine .y hs (zld aq) ?_
  refine .gT rfl rfl ?_
  refine .z (dp af) ?_
  refine .gT rfl rfl ?_
  refine .z fu ?_
  refine .gT rfl rfl ?_
  refine .o (.call cD rfl (aP hs) ?_);rintro _ w ⟨rfl,hs⟩
  refine .z zpT (.z zm ?_)
  refine .bif (t':=17) rfl (fun hb17=>?_) (fun hb17=>?_)
  ·refine .gT rfl rfl ?_
   refine .z (zfa kf) ?_
   refine .gT rfl rfl ?_
   refine .y hs (zld ae) ?_
   refine .gT rfl rfl ?_
   refine .z (zfa bF) ?_
   refine .gT rfl rfl ?_
   refine .y hs (zld aq) ?_
   refine .gT rfl rfl ?_
   refine .z (dp af) ?_
   refine .gT rfl rfl ?_
   refine .z fu ?_
   refine .gT rfl rfl ?_
   refine .o (.call cD rfl (aP hs) ?_);rintro _ w ⟨rfl,hs⟩
   refine .z zpT (.z zm ?_)
   refine .bif (t':=26) rfl (fun hb26=>?_) (fun hb26=>?_)
   ·refine .gT rfl rfl ?_
    refine .z (zfa fp) ?_
    refine .gT rfl rfl ?_
    refine .y hs (zld ae) ?_
    refine .gT rfl rfl ?_
    refine .o (.call cD rfl (aP hs) ?_);rintro _ w ⟨rfl,hs⟩
    refine .z zpT (.z zm ?_)
    refine .bif (t':=31) rfl (fun hb31=>?_) (fun hb31=>?_)
    ·refine .gT rfl rfl ?_
     refine .z (zfa gV) ?_
     refine .gT rfl rfl ?_
     refine .y hs (zld ae) ?_
     refine .gT rfl rfl ?_
     refine .z (zfa fp) ?_
     refine .gT rfl rfl ?_
     refine .y hs (zld ae) ?_
     refine .gT rfl rfl ?_
     have ht:0≤r.tol∧r.tol≤1000:=by simp_all
     refine .z fu ?_
     refine .gT rfl rfl ?_
     refine .o (.call cD rfl (aP hs) ?_);rintro _ w ⟨rfl,hs⟩
     refine .z zpT (.z zm ?_)
     refine .bif (t':=39) rfl (fun hb39=>?_) (fun hb39=>?_)
     ·refine .gT rfl rfl ?_
      refine .z (zfa ke) ?_
      refine .gT rfl rfl ?_
      refine .y hs (zld ae) ?_
      refine .gT rfl rfl ?_
      refine .o (.call cD rfl (aP hs) ?_);rintro _ w ⟨rfl,hs⟩
      refine .z zpT (.z zm ?_)
      refine .bif (t':=44) rfl (fun hb44=>?_) (fun hb44=>?_)
      ·refine .gT rfl rfl ?_
       refine .z (zfa kd) ?_
       refine .gT rfl rfl ?_
       refine .y hs (zld ae) ?_
       refine .gT rfl rfl ?_
       refine .o (.call cD rfl (aP hs) ?_);rintro _ w ⟨rfl,hs⟩
       refine .z zpT (.z zg (.nil ?_))
       refine .ret (Fin.bg kr rfl ?_)
       first
       |exact ⟨false,rfl,⟨fun h=>(by cases h),fun h=>(by obtain ⟨g1,g2,g3,g4,g5,g6,g7⟩:=h;simp_all;done)⟩,hs.out⟩
       |exact ⟨_,rfl,⟨fun h=>⟨by simp_all,by simp_all,by simp_all,by simp_all,by simp_all,by simp_all,by simpa using h⟩,fun h=>by simpa using h.day⟩,hs.out⟩
      ·refine .gFs 3 39 true rfl rfl rfl ?_
       refine .z zpF (.z zg (.nil ?_))
       refine .ret (Fin.bg kr rfl ?_)
       first
       |exact ⟨false,rfl,⟨fun h=>(by cases h),fun h=>(by obtain ⟨g1,g2,g3,g4,g5,g6,g7⟩:=h;simp_all;done)⟩,hs.out⟩
       |exact ⟨_,rfl,⟨fun h=>⟨by simp_all,by simp_all,by simp_all,by simp_all,by simp_all,by simp_all,by simpa using h⟩,fun h=>by simpa using h.day⟩,hs.out⟩
     ·refine .gFs 3 34 true rfl rfl rfl ?_
      refine .z zpF (.z zm ?_)
      refine .gFs 3 39 true rfl rfl rfl ?_
      refine .z zpF (.z zg (.nil ?_))
      refine .ret (Fin.bg kr rfl ?_)
      first
      |exact ⟨false,rfl,⟨fun h=>(by cases h),fun h=>(by obtain ⟨g1,g2,g3,g4,g5,g6,g7⟩:=h;simp_all;done)⟩,hs.out⟩
      |exact ⟨_,rfl,⟨fun h=>⟨by simp_all,by simp_all,by simp_all,by simp_all,by simp_all,by simp_all,by simpa using h⟩,fun h=>by simpa using h.day⟩,hs.out⟩
    ·refine .gFs 6 26 true rfl rfl rfl ?_
     refine .z zpF (.z zm ?_)
     refine .gFs 3 34 true rfl rfl rfl ?_
     refine .z zpF (.z zm ?_)
     refine .gFs 3 39 true rfl rfl rfl ?_
     refine .z zpF (.z zg (.nil ?_))
     refine .ret (Fin.bg kr rfl ?_)
     first
     |exact ⟨false,rfl,⟨fun h=>(by cases h),fun h=>(by obtain ⟨g1,g2,g3,g4,g5,g6,g7⟩:=h;simp_all;done)⟩,hs.out⟩
     |exact ⟨_,rfl,⟨fun h=>⟨by simp_all,by simp_all,by simp_all,by simp_all,by simp_all,by simp_all,by simpa using h⟩,fun h=>by simpa using h.day⟩,hs.out⟩
   ·refine .gFs 3 21 true rfl rfl rfl ?_
    refine .z zpF (.z zm ?_)
    refine .gFs 6 26 true rfl rfl rfl ?_
    refine .z zpF (.z zm ?_)
    refine .gFs 3 34 true rfl rfl rfl ?_
    refine .z zpF (.z zm ?_)
    refine .gFs 3 39 true rfl rfl rfl ?_
    refine .z zpF (.z zg (.nil ?_))
    refine .ret (Fin.bg kr rfl ?_)
    first
    |exact ⟨false,rfl,⟨fun h=>(by cases h),fun h=>(by obtain ⟨g1,g2,g3,g4,g5,g6,g7⟩:=h;simp_all;done)⟩,hs.out⟩
    |exact ⟨_,rfl,⟨fun h=>⟨by simp_all,by simp_all,by simp_all,by simp_all,by simp_all,by simp_all,by simpa using h⟩,fun h=>by simpa using h.day⟩,hs.out⟩
  ·refine .gFs 7 12 true rfl rfl rfl ?_
   refine .z zpF (.z zm ?_)
   refine .gFs 3 21 true rfl rfl rfl ?_
   refine .z zpF (.z zm ?_)
   refine .gFs 6 26 true rfl rfl rfl ?_
   refine .z zpF (.z zm ?_)
   refine .gFs 3 34 true rfl rfl rfl ?_
   refine .z zpF (.z zm ?_)
   refine .gFs 3 39 true rfl rfl rfl ?_
   refine .z zpF (.z zg (.nil ?_))
   refine .ret (Fin.bg kr rfl ?_)
   first
   |exact ⟨false,rfl,⟨fun h=>(by cases h),fun h=>(by obtain ⟨g1,g2,g3,g4,g5,g6,g7⟩:=h;simp_all;done)⟩,hs.out⟩
   |exact ⟨_,rfl,⟨fun h=>⟨by simp_all,by simp_all,by simp_all,by simp_all,by simp_all,by simp_all,by simpa using h⟩,fun h=>by simpa using h.day⟩,hs.out⟩
 ·refine .gFs 7 3 true rfl rfl rfl ?_
  refine .z zpF (.z zm ?_)
  refine .gFs 7 12 true rfl rfl rfl ?_
  refine .z zpF (.z zm ?_)
  refine .gFs 3 21 true rfl rfl rfl ?_
  refine .z zpF (.z zm ?_)
  refine .gFs 6 26 true rfl rfl rfl ?_
  refine .z zpF (.z zm ?_)
  refine .gFs 3 34 true rfl rfl rfl ?_
  refine .z zpF (.z zm ?_)
  refine .gFs 3 39 true rfl rfl rfl ?_
  refine .z zpF (.z zg (.nil ?_))
  refine .ret (Fin.bg kr rfl ?_)
  first
  |exact ⟨false,rfl,⟨fun h=>(by cases h),fun h=>(by obtain ⟨g1,g2,g3,g4,g5,g6,g7⟩:=h;simp_all;done)⟩,hs.out⟩
  |exact ⟨_,rfl,⟨fun h=>⟨by simp_all,by simp_all,by simp_all,by simp_all,by simp_all,by simp_all,by simpa using h⟩,fun h=>by simpa using h.day⟩,hs.out⟩
theorem kF{c:Cmp}(hs:St H w σ):
  Cl Tryz.prog 170 [.agg #[I c.src,I c.tape,I c.fr,I c.to,I c.lo,I c.hi]] w fun v w'=>∃b:Bool,v= .bool b∧(b=true↔wj c)∧St H w' σ:=by
 refine Cl.o Tryz.func170 Tryz.ntmps170 ag1 ?_
 refine .ai ?_
 refine .bx hs fun b1 w hs=>?_
 refine .z zg (.nil (.ai (.z (zfa km) (.y hs (zld ae) ?_))))
 refine .o (.call Tryz.call165 rfl (eT hs) ?_);rintro _ w ⟨rfl,hs⟩
 refine .z zm ?_
 refine .bif (t':=6) rfl (fun hb6=>?_) (fun hb6=>?_)
 ·refine .gT rfl rfl ?_
  refine .z (zfa kl) ?_
  refine .gT rfl rfl ?_
  refine .y hs (zld ae) ?_
  refine .gT rfl rfl ?_
  refine .o (.call cD rfl (aP hs) ?_);rintro _ w ⟨rfl,hs⟩
  refine .z zpT (.z zm ?_)
  refine .bif (t':=11) rfl (fun hb11=>?_) (fun hb11=>?_)
  ·refine .gT rfl rfl ?_
   refine .z (zfa kj) ?_
   refine .gT rfl rfl ?_
   refine .y hs (zld ae) ?_
   refine .gT rfl rfl ?_
   refine .z (zfa gX) ?_
   refine .gT rfl rfl ?_
   refine .y hs (zld ae) ?_
   refine .gT rfl rfl ?_
   refine .o (.call cD rfl (aP hs) ?_);rintro _ w ⟨rfl,hs⟩
   refine .z zpT (.z zm ?_)
   refine .bif (t':=18) rfl (fun hb18=>?_) (fun hb18=>?_)
   ·refine .gT rfl rfl ?_
    refine .z (zfa gX) ?_
    refine .gT rfl rfl ?_
    refine .y hs (zld ae) ?_
    refine .gT rfl rfl ?_
    refine .o (.call cD rfl (aP hs) ?_);rintro _ w ⟨rfl,hs⟩
    refine .z zpT (.z zm ?_)
    refine .bif (t':=23) rfl (fun hb23=>?_) (fun hb23=>?_)
    ·refine .gT rfl rfl ?_
     refine .z (zfa ki) ?_
     refine .gT rfl rfl ?_
     refine .y hs (zld ae) ?_
     refine .gT rfl rfl ?_
     refine .z (zfa gW) ?_
     refine .gT rfl rfl ?_
     refine .y hs (zld ae) ?_
     refine .gT rfl rfl ?_
     refine .o (.call cD rfl (aP hs) ?_);rintro _ w ⟨rfl,hs⟩
     refine .z zpT (.z zm ?_)
     refine .bif (t':=30) rfl (fun hb30=>?_) (fun hb30=>?_)
     ·refine .gT rfl rfl ?_
      refine .z (zfa gW) ?_
      refine .gT rfl rfl ?_
      refine .y hs (zld ae) ?_
      refine .gT rfl rfl ?_
      refine .o (.call cD rfl (aP hs) ?_);rintro _ w ⟨rfl,hs⟩
      refine .z zpT (.z zg (.nil ?_))
      refine .ret (Fin.bg qq rfl ?_)
      first
      |exact ⟨false,rfl,⟨fun h=>(by cases h),fun h=>(by obtain ⟨g1,g2,g3,g4,g5,g6⟩:=h;simp_all;omega)⟩,hs.out⟩
      |exact ⟨false,rfl,⟨fun h=>(by cases h),fun h=>(by obtain ⟨g1,g2,g3,g4,g5,g6⟩:=h;simp_all;done)⟩,hs.out⟩
      |exact ⟨_,rfl,⟨fun h=>⟨by simp_all,by simp_all,by simp_all,by simp_all,by simp_all,(by simpa using h:_∧_).2⟩,fun h=>by have:=h.lo;have:=h.hi;simp;omega⟩,hs.out⟩
     ·refine .gFs 3 27 true rfl rfl rfl ?_
      refine .z zpF (.z zg (.nil ?_))
      refine .ret (Fin.bg qq rfl ?_)
      first
      |exact ⟨false,rfl,⟨fun h=>(by cases h),fun h=>(by obtain ⟨g1,g2,g3,g4,g5,g6⟩:=h;simp_all;omega)⟩,hs.out⟩
      |exact ⟨false,rfl,⟨fun h=>(by cases h),fun h=>(by obtain ⟨g1,g2,g3,g4,g5,g6⟩:=h;simp_all;done)⟩,hs.out⟩
      |exact ⟨_,rfl,⟨fun h=>⟨by simp_all,by simp_all,by simp_all,by simp_all,by simp_all,(by simpa using h:_∧_).2⟩,fun h=>by have:=h.lo;have:=h.hi;simp;omega⟩,hs.out⟩
    ·refine .gFs 5 20 true rfl rfl rfl ?_
     refine .z zpF (.z zm ?_)
     refine .gFs 3 27 true rfl rfl rfl ?_
     refine .z zpF (.z zg (.nil ?_))
     refine .ret (Fin.bg qq rfl ?_)
     first
     |exact ⟨false,rfl,⟨fun h=>(by cases h),fun h=>(by obtain ⟨g1,g2,g3,g4,g5,g6⟩:=h;simp_all;omega)⟩,hs.out⟩
     |exact ⟨false,rfl,⟨fun h=>(by cases h),fun h=>(by obtain ⟨g1,g2,g3,g4,g5,g6⟩:=h;simp_all;done)⟩,hs.out⟩
     |exact ⟨_,rfl,⟨fun h=>⟨by simp_all,by simp_all,by simp_all,by simp_all,by simp_all,(by simpa using h:_∧_).2⟩,fun h=>by have:=h.lo;have:=h.hi;simp;omega⟩,hs.out⟩
   ·refine .gFs 3 15 true rfl rfl rfl ?_
    refine .z zpF (.z zm ?_)
    refine .gFs 5 20 true rfl rfl rfl ?_
    refine .z zpF (.z zm ?_)
    refine .gFs 3 27 true rfl rfl rfl ?_
    refine .z zpF (.z zg (.nil ?_))
    refine .ret (Fin.bg qq rfl ?_)
    first
    |exact ⟨false,rfl,⟨fun h=>(by cases h),fun h=>(by obtain ⟨g1,g2,g3,g4,g5,g6⟩:=h;simp_all;omega)⟩,hs.out⟩
    |exact ⟨false,rfl,⟨fun h=>(by cases h),fun h=>(by obtain ⟨g1,g2,g3,g4,g5,g6⟩:=h;simp_all;done)⟩,hs.out⟩
    |exact ⟨_,rfl,⟨fun h=>⟨by simp_all,by simp_all,by simp_all,by simp_all,by simp_all,(by simpa using h:_∧_).2⟩,fun h=>by have:=h.lo;have:=h.hi;simp;omega⟩,hs.out⟩
  ·refine .gFs 5 8 true rfl rfl rfl ?_
   refine .z zpF (.z zm ?_)
   refine .gFs 3 15 true rfl rfl rfl ?_
   refine .z zpF (.z zm ?_)
   refine .gFs 5 20 true rfl rfl rfl ?_
   refine .z zpF (.z zm ?_)
   refine .gFs 3 27 true rfl rfl rfl ?_
   refine .z zpF (.z zg (.nil ?_))
   refine .ret (Fin.bg qq rfl ?_)
   first
   |exact ⟨false,rfl,⟨fun h=>(by cases h),fun h=>(by obtain ⟨g1,g2,g3,g4,g5,g6⟩:=h;simp_all;omega)⟩,hs.out⟩
   |exact ⟨false,rfl,⟨fun h=>(by cases h),fun h=>(by obtain ⟨g1,g2,g3,g4,g5,g6⟩:=h;simp_all;done)⟩,hs.out⟩
   |exact ⟨_,rfl,⟨fun h=>⟨by simp_all,by simp_all,by simp_all,by simp_all,by simp_all,(by simpa using h:_∧_).2⟩,fun h=>by have:=h.lo;have:=h.hi;simp;omega⟩,hs.out⟩
 ·refine .gFs 3 3 true rfl rfl rfl ?_
  refine .z zpF (.z zm ?_)
  refine .gFs 5 8 true rfl rfl rfl ?_
  refine .z zpF (.z zm ?_)
  refine .gFs 3 15 true rfl rfl rfl ?_
  refine .z zpF (.z zm ?_)
  refine .gFs 5 20 true rfl rfl rfl ?_
  refine .z zpF (.z zm ?_)
  refine .gFs 3 27 true rfl rfl rfl ?_
  refine .z zpF (.z zg (.nil ?_))
  refine .ret (Fin.bg qq rfl ?_)
  first
  |exact ⟨false,rfl,⟨fun h=>(by cases h),fun h=>(by obtain ⟨g1,g2,g3,g4,g5,g6⟩:=h;simp_all;omega)⟩,hs.out⟩
  |exact ⟨false,rfl,⟨fun h=>(by cases h),fun h=>(by obtain ⟨g1,g2,g3,g4,g5,g6⟩:=h;simp_all;done)⟩,hs.out⟩
  |exact ⟨_,rfl,⟨fun h=>⟨by simp_all,by simp_all,by simp_all,by simp_all,by simp_all,(by simpa using h:_∧_).2⟩,fun h=>by have:=h.lo;have:=h.hi;simp;omega⟩,hs.out⟩
theorem jA{s:Spc}{vst vwa:Value}(hs:St H w σ)(h1:RI H vst s.st)(h2:RI H vwa s.wa)(hb:s.st.length≤1000∧s.wa.length≤1000):
  Cl Tryz.prog 196 [.agg #[I s.id,I s.src,vst,vwa,I s.al,I s.up]] w fun v w'=>v=I (s.many:Int)∧St H w' σ:=by
 obtain ⟨ast,cst,rfl⟩:=RI.shape h1
 obtain ⟨awa,cwa,rfl⟩:=RI.shape h2
 have hm:=kU (a:=(s.st.length:Int)) (b:=(s.wa.length:Int)) (A:=1000) (B:=1000) ak ak
 refine Cl.o Tryz.func196 Tryz.ntmps196 ag1 ?_
 refine .ai ?_
 refine .bx hs fun b1 w hs=>?_
 refine .z zg (.nil (.ai (.z (zfa cM) (.y hs (zld aq) (.z (dp af) (.z (zfa bF) (.y hs (zld aq) (.z (dp af) (.z pR ?_)))))))))
 refine .z zg (.nil ?_)
 refine .ret (Fin.bg Tryz.results196 rfl ?_)
 exact ⟨by unfold Spc.many;rw [Int.natCast_mul],hs.out⟩
theorem lT{s:Spc}{vst vwa:Value}{a b:Int}(hs:St H w σ)(h2:RI H vwa s.wa)(hb:s.wa.length≤1000)(ha: -1000≤a∧a≤1000)(hb': -1000≤b∧b≤1000):
  Cl Tryz.prog 247 [.agg #[I s.id,I s.src,vst,vwa,I s.al,I s.up],I a,I b] w fun v w'=>v=I (1+a*s.wa.length+b)∧St H w' σ:=by
 obtain ⟨awa,cwa,rfl⟩:=RI.shape h2
 have hm:=kU (a:=a) (b:=(s.wa.length:Int)) (A:=1000) (B:=1000) ak ak
 refine Cl.o Tryz.func247 Tryz.ntmps247 ag3 ?_
 refine .ai ?_
 refine .bx hs fun b3 w hs=>?_
 refine .z zg (.nil (.ai (.z zm (.z (zfa bF) (.y hs (zld aq) (.z (dp af) (.z pR (.z dP (.z zm ?_)))))))))
 refine .z dP (.z zg (.nil ?_))
 refine .ret (Fin.bg Tryz.results247 rfl ?_)
 exact ⟨rfl,hs.out⟩
theorem fA{r:Rdg}(hs:St H w σ):
  Cl Tryz.prog 241 [.agg #[I r.src,I r.st,I r.wa,I r.val,I r.tol,I r.tape,I r.day]] w fun v w'=>v= .agg #[I r.tape,I r.day]∧St H w' σ:=by
 refine Cl.o Tryz.func241 Tryz.ntmps241 ag1 ?_
 refine .ai ?_
 refine .bx hs fun b1 w hs=>?_
 refine .o (.alloc hs uI rfl fun b2 w hs=>?_)
 refine .nil (.ai (.z (zfa ke) (.y hs (zld ae) (.z (zfa kd) (.y hs (zld ae) (.z (zbd [_,_] rz) ?_))))))
 refine .o (.aI (vs:=[_,_]) hs rfl rfl du fun w hs=>?_)
 refine .nil ?_
 refine .ret ?_
 exact Fin.gQ [] [] hs fun w hs=>⟨_,results1 Tryz.results241 (dB (vs:=[_,_]) hs rfl wy du),rfl,hs.out⟩
theorem jB{a b:Int}(hs:St H w σ)(ha:0≤a∧a≤100000)(hb:0≤b∧b≤100000):
  Cl Tryz.prog 243 [I a,I b] w fun v w'=>v=I (im a b)∧St H w' σ:=by
 have hm:=kU (a:=a) (b:=b) (A:=100000) (B:=100000) ak ak
 have h0:=Int.mul_nonneg ha.1 hb.1
 have hq0:0≤(a*b+999).tdiv 1000:=Int.tdiv_nonneg ak ak
 have hq1:(a*b+999).tdiv 1000≤a*b+999:=by rw [Int.tdiv_eq_ediv_of_nonneg ak];omega
 refine Cl.o Tryz.func243 Tryz.ntmps243 ag2 ?_
 refine .ai (.z zg (.nil (.ai (.z zm (.z zm (.z pR (.z dP ?_)))))))
 refine .q hs (vg rfl rfl ak ak) ?_
 refine .z CM (.z zg (.nil ?_))
 refine .ret (Fin.bg Tryz.results243 rfl ?_)
 exact ⟨rfl,hs⟩
def s9(s:Spc):List (List Value):=(List.range s.many).map fun p=>[Value.agg #[I ((p/s.wa.length:Nat):Int),I ((p%s.wa.length:Nat):Int),I ((p+1:Nat):Int)]]
theorem dc(s:Spc):(s9 s).length=s.many:=by simp [s9]
theorem jX{s:Spc}{p:Nat}(h:p<(s9 s).length):(s9 s)[p]=[Value.agg #[I ((p/s.wa.length:Nat):Int),I ((p%s.wa.length:Nat):Int),I ((p+1:Nat):Int)]]:=by simp [s9]
theorem nJ{H:bp}{b:Nat}{s:Spc}{vst vwa:Value}(hb:Row H b [I s.id,I s.src,vst,vwa,I s.al,I s.up])(h1:RI H vst s.st)(h2:RI H vwa s.wa)(hbd:s.st.length≤1000∧s.wa.length≤1000):
  Iter Tryz.prog 188 [.pointer (some ⟨b,0,none⟩)] H (s9 s):=by
 intro ly II Ix hmI _ hy H0 σb0 σf w hle hI0 hs
 obtain ⟨ast,cst,rfl⟩:=RI.shape h1
 obtain ⟨awa,cwa,rfl⟩:=RI.shape h2
 have g2:cellAt H0 b 2=some (.slice ast s.st.length cst):=cellAt.mono (hb.at 2) hle
 have g3:cellAt H0 b 3=some (.slice awa s.wa.length cwa):=cellAt.mono (hb.at 3) hle
 have hm:s.many≤1000000:=Nat.mul_le_mul hbd.1 hbd.2
 refine Cl.o Tryz.func188 Tryz.ntmps188 ag2 ?_
 refine .ai (.z zg (.nil (.ai (.z (zfa cM) (.y hs (zld aq) (.z (dp af) (.z zm (.nil ?_))))))))
 refine .for (N:=s.st.length) (J:=fun i fr w=>fr=[(3,I ((i*s.wa.length:Nat):Int)),(0,.func (.yield ly) #[] #[]),(1,.pointer (some ⟨b,0,none⟩))]∧∃H1 σb,HLe H H1∧HLe H0 H1∧II (i*s.wa.length) H1 σb∧St H1 w (σb++σf)) ak ?_ ?_ ?_
 ·exact .mk ⟨by rw [Nat.zero_mul],H0,σb0,hle,HLe.refl _,by rw [Nat.zero_mul];exact hI0,hs⟩
 ·rintro i fr w hi ⟨rfl,H1,σb,hle1,hle0,hI,hs⟩
  have h23:=cellAt.mono g3 hle0
  refine .block (.ai (.z zm (.z zg (.nil (.ai (.z (zfa bF) (.y hs (zld aq) (.z (dp af) (.z zm ?_)))))))))
  refine .nil ?_
  refine .for (N:=s.wa.length) (J:=fun k fr w=>fr=[(3,I ((i*s.wa.length+k:Nat):Int)),(4,I (i:Int)),(9,I (i:Int)),(8,I (s.st.length:Int)),(0,.func (.yield ly) #[] #[]),(1,.pointer (some ⟨b,0,none⟩))]∧∃H3 σb,HLe H1 H3∧II (i*s.wa.length+k) H3 σb∧St H3 w (σb++σf)) ak ?_ ?_ ?_
  ·exact .mk ⟨rfl,H1,σb,HLe.refl _,hI,hs⟩
  ·rintro k fr w hk ⟨rfl,H3,σb3,hle3,hI3,hs⟩
   obtain ⟨d1,d2⟩:=Dd (nw:=s.wa.length) (i:=i) (k:=k) hk
   have hlt:=GR hi hk
   refine .block (.ai (.z zm (.z zg (.nil (.ai (.z zm (.z dP (.z zg (.nil ?_)))))))))
   refine .ai (.z zm (.z zm (.z zm (.z zm (.z (zbd [_,_,_] ox) ?_)))))
   have hk':i*s.wa.length+k<(s9 s).length:=by rw [dc];exact hlt
   have hyd:=hy (i*s.wa.length+k) hk' H3 σb3 σf w (hle1.trans hle3) hI3 hs
   rw [jX hk',d1,d2,show ((i*s.wa.length+k+1:Nat):Int)=((i*s.wa.length+k:Nat):Int)+1 by omega] at hyd
   refine .o (.yield rfl rfl hyd ?_);rintro v25 w ⟨H5,σ5,g1,hs,g3'⟩
   obtain ⟨bb,rfl,gT,gF⟩:=kN g3'
   refine .z eL (.nil ?_)
   refine (.cond rfl (fun hc26=>?_) (fun hc26=>?_))
   ·refine .ret (rB (rT (rB (rB (rT (rB (Fin.Ee Tryz.results188 ?_)))))))
    exact ⟨H5,σ5,hle0.trans (hle3.trans g1),hs,.inr (gF (by simpa using hc26))⟩
   ·refine .skip ?_
    refine nB (nT ?_)
    exact .mk ⟨rfl,H5,σ5,hle3.trans g1,gT (by simpa using hc26),hs⟩
  ·rintro fr w ⟨rfl,H3,σb3,hle3,hI3,hs⟩
   have e:i*s.wa.length+s.wa.length=(i+1)*s.wa.length:=by rw [Nat.add_mul,Nat.one_mul]
   rw [e] at hI3 ⊢
   refine nB (nT ?_)
   exact .mk ⟨rfl,H3,σb3,hle1.trans hle3,hle0.trans hle3,hI3,hs⟩
 ·rintro fr w ⟨rfl,H1,σb,hle1,hle0,hI,hs⟩
  exact Fin.vR Tryz.results188 ⟨H1,σb,hle0,hs,.inl (by rw [dc];exact hI)⟩
theorem dO{s:Spc}{vst vwa:Value}(hs:St H w σ)(h1:RI H vst s.st)(h2:RI H vwa s.wa)(hbd:s.st.length≤1000∧s.wa.length≤1000):
  Cl Tryz.prog 131 [.agg #[I s.id,I s.src,vst,vwa,I s.al,I s.up]] w fun u w'=>∃H1 b,HLe H H1∧u= .func (.func 188) #[] #[.pointer (some ⟨b,0,none⟩)]∧Iter Tryz.prog 188 [.pointer (some ⟨b,0,none⟩)] H1 (s9 s)∧St H1 w' σ:=by
 obtain ⟨ast,cst,rfl⟩:=RI.shape h1
 obtain ⟨awa,cwa,rfl⟩:=RI.shape h2
 refine Cl.o Tryz.func131 Tryz.ntmps131 ag1 ?_
 refine .ai ?_
 refine .bx hs fun b1 w hs=>?_
 refine .z zg (.nil (.ai ?_))
 refine .q hs (bX (f:=[]) (c:=[_]) rfl rfl) ?_
 refine .z zg (.nil ?_)
 refine .ret (Fin.bg Tryz.results131 rfl ?_)
 obtain ⟨H1,g1,g2,hs⟩:=hs.ck .here
 exact ⟨H1,b1,g1,rfl,nJ g2 (h1.mono g1) (h2.mono g1) hbd,hs⟩
set_option maxRecDepth 100000 in
theorem xD:Tryz.prog.stoodInHeld 162=false:=by kernel_rfl
set_option maxRecDepth 100000 in
theorem xE:Tryz.prog.eqGuardType Tryz.prog.depth 162=false:=by kernel_rfl
theorem mO{v:Value}{en:Ent}{xs:List TD}{g:Nat}{cap:List Value}(q:TD→Bool)(hs:St H w (en::σ))(hO:cR 2 v (tdc xs).flatten en)(hl:xs.length≤1000000)(hc:∀args w,(callFunc g args).run Tryz.prog w= .ok (.enter g args) w)
  (hp:∀w (t:TD),St H w (en::σ)→Cl Tryz.prog g ([.agg #[I t.tape,I t.day]]++cap) w fun u w'=>u= .bool (q t)∧St H w' (en::σ)):
  Cl Tryz.prog 276 [v,.func (.func g) #[] cap.toArray] w fun u w'=>∃i:Int,u=I i∧(0≤i↔∃x∈xs,q x=true)∧St H w' (en::σ):=by
 obtain ⟨a,c,rfl⟩:=hO.zT (yJ xs) ak
 rw [iw] at hO ⊢
 refine Cl.o Tryz.func276 Tryz.ntmps276 ag2 ?_
 refine .ai (.z zg (.nil (.seq (.ai (.z zm (.z (dp cB) (.z zm (.nil ?_))))))))
 refine .for (N:=xs.length) (J:=fun k fr w=>fr=[(1,.func (.func g) #[] cap.toArray),(0,.slice a xs.length c)]∧(∀j<k,∀y,xs[j]? =some y→¬q y=true)∧St H w (en::σ)) ak ?_ ?_ ?_
 ·exact .mk ⟨rfl,fun j hj=>by omega,hs⟩
 ·rintro k fr w hk ⟨rfl,hno,hs⟩
  obtain ⟨x,hx⟩:=nth hk
  obtain ⟨b,c',sp,hv,rfl,_⟩:=hO.GX (yJ xs) ak (by rw [iw];omega)
  rw [iw] at hv
  cases hv
  refine .block (.ai (.z zm (.z zg (.nil (.ai (.z zm (.z zm (.z zm (.z (zq cB du) ?_)))))))))
  refine .q hs (iC (vs:=x.c) rfl wy du .here (CW (yJ xs) (Df hx) sp)) ?_
  refine .o (.lZ (first:=[]) (cap:=cap) rfl rfl hc (hp _ x hs) ?_);rintro _ w ⟨rfl,hs⟩
  refine .nil ?_
  refine (.cond rfl (fun hc16=>?_) (fun hc16=>?_))
  ·refine .ai (.z zm (.z zg (.nil ?_)))
   refine .ret (rB (rT (rB (rT (Fin.bg Tryz.results276 rfl ?_)))))
   exact ⟨_,rfl,⟨fun _=>⟨x,List.mem_of_getElem? hx,hc16⟩,fun _=>by omega⟩,hs⟩
  ·refine .skip ?_
   refine nB (nT ?_)
   exact .mk ⟨rfl,eA hno hx (by simpa using hc16),hs⟩
 ·rintro fr w ⟨rfl,hno,hs⟩
  refine nT ?_
  refine .ai (.z zg (.nil ?_))
  refine .ret (Fin.bg Tryz.results276 rfl ?_)
  exact ⟨_,rfl,⟨fun h=>by omega,fun ⟨x,h1,h2⟩=>by
   obtain ⟨j,hj⟩:=List.getElem?_of_mem h1
   exact (hno j (List.getElem?_eq_some_iff.1 hj).1 x hj h2).elim⟩,hs⟩
theorem kz{v:Value}{en:Ent}{xs:List TD}{g:Nat}{cap:List Value}(q:TD→Bool)(hs:St H w (en::σ))(hO:cR 2 v (tdc xs).flatten en)(hl:xs.length≤1000000)(hc:∀args w,(callFunc g args).run Tryz.prog w= .ok (.enter g args) w)
  (hp:∀w (t:TD),St H w (en::σ)→Cl Tryz.prog g ([.agg #[I t.tape,I t.day]]++cap) w fun u w'=>u= .bool (q t)∧St H w' (en::σ)):
  Cl Tryz.prog 239 [v,.func (.func g) #[] cap.toArray] w fun u w'=>∃b:Bool,u= .bool b∧(b=true↔∃x∈xs,q x=true)∧St H w' (en::σ):=by
 refine Cl.o Tryz.func239 Tryz.ntmps239 ag2 ?_
 refine .ai (.z zg (.nil (.ai (.z zm (.z zm ?_)))))
 refine .o (.call Tryz.call276 rfl (mO q hs hO hl hc hp) ?_);rintro _ w ⟨i,rfl,hi,hs⟩
 refine .z sC (.z zg (.nil ?_))
 refine .ret (Fin.bg Tryz.results239 rfl ?_)
 exact ⟨_,rfl,by simp only [decide_eq_true_eq];exact hi,hs⟩
theorem qU{v:Value}{xs:List TD}{t:TD}(hs:St H w σ)(hr:RTd H v xs)(hl:xs.length≤1000000):
  Cl Tryz.prog 246 [v,.agg #[I t.tape,I t.day]] w fun u w'=>u=I (mJ xs t)∧St H w' σ:=by
 obtain ⟨a,c,rfl⟩:=RTd.shape hr
 refine Cl.o Tryz.func246 Tryz.ntmps246 ag2 ?_
 refine .ai ?_
 refine .bx hs fun b3 w hs=>?_
 refine .z zg (.nil (.seq (.ai (.z zm (.z (dp cB) (.z zm (.nil ?_)))))))
 refine .for (N:=xs.length) (J:=fun k fr w=>fr=[(0,.slice a xs.length c),(3,.pointer (some ⟨b3,0,none⟩))]∧(∀j<k,∀y,xs[j]? =some y→¬y=t)∧St H w (.blk b3 [I t.tape,I t.day]::σ)) ak ?_ ?_ ?_
 ·exact .mk ⟨rfl,fun j hj=>by omega,hs⟩
 ·rintro k fr w hk ⟨rfl,hno,hs⟩
  obtain ⟨x,hx⟩:=nth hk
  refine .block (.ai (.z zm (.z zg (.nil ?_))))
  refine .seq (.draw mix rfl hs fun w hs=>?_)
  refine .ys 0 rfl hs [_,_] wy du ?_;refine .z 1 rfl zm ?_;refine .z 2 rfl zm ?_
  refine .ixX (enc:=TD.c) (i:=3) hs rfl an .none hr rfl rfl cB du hx cU ?_;intro b14 o14 hc14
  refine .r (i:=4) hs rfl an .none (bG (vs:=x.c) rfl wy du hc14) ?_
  refine .z 5 rfl (xO xD xE nr (fun f hf=>by
   simp only [List.mem_cons,List.not_mem_nil,or_false] at hf
   rcases hf with rfl|rfl<;>exact ⟨by decide,aM,ae⟩) rfl rfl) ?_
  refine .D hs ?_
  refine (.cond rfl (fun hc16=>?_) (fun hc16=>?_))
  ·refine .ai (.z zm (.z zg (.nil ?_)))
   refine .ret (rB (rT (rB (rT (Fin.bg Tryz.results246 rfl ?_)))))
   have e:x=t:=Ew.1 (by have:=of_decide_eq_true hc16;exact ⟨this.1.symm,this.2.symm⟩)
   subst e
   exact ⟨by rw [uQ hx fun j hj h=>hno j hj _ h rfl],hs.tail⟩
  ·refine .skip ?_
   refine nB (nT ?_)
   exact .mk ⟨rfl,eA hno hx (fun e=>by subst e;simp at hc16),hs⟩
 ·rintro fr w ⟨rfl,hno,hs⟩
  refine nT ?_
  refine .ai (.z zg (.nil ?_))
  refine .ret (Fin.bg Tryz.results246 rfl ?_)
  exact ⟨by rw [BF hno],hs.tail⟩
theorem lU{t:TD}{r:Rdg}{b:Nat}(hs:St H w σ)(hb:Row H b r.c):
  Cl Tryz.prog 240 [.agg #[I t.tape,I t.day],.pointer (some ⟨b,0,none⟩)] w fun u w'=>u= .bool (decide (t=r.td))∧St H w' σ:=by
 have hb0:bH H b 0 r.c:=hb.cells 0 r.c
 refine Cl.o Tryz.func240 Tryz.ntmps240 ag2 ?_
 refine .ai ?_
 refine .bx hs fun b2 w hs=>?_
 refine .z zg (.nil ?_)
 refine .seq (.draw mix rfl hs fun w hs=>?_)
 refine .ys 0 rfl hs [_,_] wy du ?_;refine .ys 1 rfl hs [_,_,_,_,_,_,_] oI df ?_
 refine .E 2 hs ?_
 refine .call Tryz.call241 rfl (fA hs) ?_;rintro _ w ⟨rfl,hs⟩
 refine .go ?_
 refine .z 3 rfl (xO xD xE nr (fun f hf=>by
  simp only [List.mem_cons,List.not_mem_nil,or_false] at hf
  rcases hf with rfl|rfl<;>exact ⟨by decide,aM,ae⟩) rfl rfl) ?_
 refine .z 4 rfl zg ?_;refine .D hs ?_
 refine .ret (Fin.bg Tryz.results240 rfl ?_)
 exact ⟨by congr 1;rw [decide_eq_decide];exact Ew (t:=t) (u:=r.td),hs.tail⟩
set_option maxHeartbeats 1000000 in
theorem oY{s:Srv}{vst vwa vr vc:Value}(hs:St H w σ)(hr:RRd H vr s.rs)(hl:s.rs.length≤1000000):
  Cl Tryz.prog 189 [.agg #[I s.sp.id,I s.sp.src,vst,vwa,I s.sp.al,I s.sp.up,vr,vc]] w fun u w'=>∃H1 en,HLe H H1∧cR 2 u (tdc s.bn).flatten en∧St H1 w' (en::σ):=by
 obtain ⟨ar,cr,rfl⟩:=RRd.shape hr
 refine Cl.o Tryz.func189 Tryz.ntmps189 ag1 ?_
 refine .ai ?_
 refine .bx hs fun b1 w hs=>?_
 refine .z zg (.nil (.ai (.z zg (.nil (.seq (.ai (.z (zfa fR) (.y hs (zld Tryz.isAgg49) (.z (dp eg) ?_)))))))))
 refine .z zm (.nil ?_)
 refine .for (N:=s.rs.length) (J:=fun k fr w=>∃vo en H1,fr=[(7,.slice ar s.rs.length cr),(3,vo)]∧HLe H H1∧cR 2 vo (tdc (cS (s.rs.take k))).flatten en∧St H1 w (en::σ)) ak ?_ ?_ ?_
 ·exact .mk ⟨_,.nul,H,rfl,HLe.refl _,.nil 2 none,hs.tail.nul⟩
 ·rintro k fr w hk ⟨vo,en,H1,rfl,hle1,hO,hs⟩
  obtain ⟨r,hx⟩:=nth hk
  have htk:=iZ hx
  have htl:=mK s.rs k ak
  obtain ⟨ao,co,rfl⟩:=hO.zT (yJ _) ak
  rw [iw] at hO ⊢
  refine .block (.ai ?_)
  refine .ixX (enc:=Rdg.c) hs (hr.mono hle1) rfl rfl eg df hx cU ?_;intro b11 o11 hc11
  refine .q hs (bG (vs:=(Rdg.c r)) rfl oI df hc11) ?_
  refine .o (.alloc hs uK rfl fun b5 w hs=>?_)
  refine .o (.aI (vs:=r.c) hs rfl rfl df fun w hs=>?_)
  obtain ⟨H2,hle2,r5,hs⟩:=hs.ck (b:=b5) (c:=r.c) .here
  have c5:bH H2 b5 0 r.c:=r5.cells 0 r.c
  refine .nil (.ai (.z zm ?_))
  refine .q hs (bX (f:=[]) (c:=[_]) rfl rfl) ?_
  refine .o (.call Tryz.call239 rfl (kz (g:=240) (cap:=[.pointer (some ⟨b5,0,none⟩)]) (fun t=>decide (t=r.td)) hs hO ak Tryz.call240 (fun w t hs=>lU hs r5)) ?_);rintro _ w ⟨b15,rfl,hb15,hs⟩
  refine .z eL (.nil ?_)
  refine (.cond rfl (fun hc16=>?_) (fun hc16=>?_))
  ·refine .region (.z zm ?_)
   refine .q hs (bG (vs:=r.c) rfl oI df c5) ?_
   refine .o (.call Tryz.call241 rfl (fA (r:=r) hs) ?_);rintro _ w ⟨rfl,hs⟩
   refine .o (.buildSlice (cells:=[_,_]) hs l7 rfl rfl fun b20 w hs=>?_)
   refine .o (.append (ys:=r.td.c) hs gN rfl rfl hO (.own .here rfl rfl) (by simp [TD.c,Value.oneCell']) (fun l h=>by rw [fC _ (yJ _),iw] at h;omega) ?_);intro v21 en21 w hO2 hs
   refine .z zg (.nil ?_)
   refine nB (nT ?_)
   have hn:r.td∉cS (s.rs.take k):=fun hm=>by
    rw [hb15.2 ⟨_,hm,db⟩] at hc16;cases hc16
   rw [←BE,show cS (s.rs.take k)++[r.td]=cS (s.rs.take (k+1)) by rw [htk];unfold rD;rw [if_neg hn]] at hO2
   exact .mk ⟨_,_,H2,rfl,hle1.trans hle2,hO2,hs.sb⟩
  ·refine .skip ?_
   refine nB (nT ?_)
   have hm:r.td∈cS (s.rs.take k):=by
    obtain ⟨x,h1,h2⟩:=hb15.1 (by simpa using hc16)
    rw [←of_decide_eq_true h2];exact h1
   exact .mk ⟨_,_,H2,rfl,hle1.trans hle2,by rw [htk];unfold rD;rw [if_pos hm];exact hO,hs⟩
 ·rintro fr w ⟨vo,en,H1,rfl,hle1,hO,hs⟩
  rw [List.take_length] at hO
  refine nT ?_
  refine .ai (.z zm (.z zg (.nil ?_)))
  refine .ret (Fin.bg Tryz.results189 rfl ?_)
  exact ⟨H1,en,hle1,hO,hs⟩
theorem nG{s:Srv}{vst vwa vr vc:Value}(hs:St H w σ)(hr:RRd H vr s.rs)(hl:s.rs.length≤1000000):
  Cl Tryz.prog 189 [.agg #[I s.sp.id,I s.sp.src,vst,vwa,I s.sp.al,I s.sp.up,vr,vc]] w fun u w'=>∃H1,HLe H H1∧RTd H1 u s.bn∧St H1 w' σ:=by
 refine (oY hs hr hl).mono ?_
 rintro u w' ⟨H1,en,hle1,hO,hs⟩
 have htl:=eH s.rs
 have htl':s.bn.length≤1000000:=by unfold Srv.bn;omega
 obtain ⟨H2,hle2,hR,hs⟩:=cR.ck (m:=2) hO (yJ _) ak (by rw [iw];omega) hs .here
 exact ⟨H2,hle1.trans hle2,hR,hs⟩
end Go.Proofs.YteajddicacjkhaaGreat
