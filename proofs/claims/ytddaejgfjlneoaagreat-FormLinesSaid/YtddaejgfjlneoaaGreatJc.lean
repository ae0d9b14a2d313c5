/-
  Texts of these claims, joined: Opn Opi Cls Fct Wa Wb Wc Wd We Wf Wg Wn Wz Xb Xe Xf Xh Xi Xj Xl Xo Xq Xt Xu Xw Srt Yc Yd Ye Yf Yq Yr Za Zb Zc Zd Ze Zf Zg.
-/
import Derived.Test.YtddaejgfjlneoaaGreatJb
import Derived.Test.YtddaejgfjlneoaaGreatProg
import Derived.KernelRfl
import Derived.OpenShut
import Derived.ProofKit
import Derived.ShutString
import Derived.ChangeOld
import Derived.JoinedOf
import Derived.Shelf.Sort.Plain
import Derived.Shelf.Slices.CompactI
import Derived.Shelf.Slices.In.SortNone
import Derived.Lib.RowBridge
namespace Go.Proofs.YtddaejgfjlneoaaGreat
theorem dz:type_of% @Tryz.call100:=@Tryz.call100
theorem CJ:type_of% @Tryz.call103:=@Tryz.call103
theorem bN:type_of% @Tryz.call105:=@Tryz.call105
theorem CI:type_of% @Tryz.call114:=@Tryz.call114
theorem oV:type_of% @Tryz.call115:=@Tryz.call115
theorem CH:type_of% @Tryz.call161:=@Tryz.call161
theorem CG:type_of% @Tryz.call190:=@Tryz.call190
theorem yT:type_of% @Tryz.call92:=@Tryz.call92
theorem sw:type_of% @Tryz.isAgg140:=@Tryz.isAgg140
theorem iF:type_of% @Tryz.isAgg160:=@Tryz.isAgg160
theorem mf:type_of% @Tryz.isAgg170:=@Tryz.isAgg170
theorem cZ:type_of% @Tryz.isAgg182:=@Tryz.isAgg182
theorem dW:type_of% @Tryz.isAgg189:=@Tryz.isAgg189
theorem me:type_of% @Tryz.isAgg211:=@Tryz.isAgg211
theorem ak:type_of% @Tryz.isAgg22:=@Tryz.isAgg22
theorem mc:type_of% @Tryz.isAgg236:=@Tryz.isAgg236
theorem CF:type_of% @Tryz.isAgg29:=@Tryz.isAgg29
theorem af:type_of% @Tryz.isAgg3:=@Tryz.isAgg3
theorem aK:type_of% @Tryz.isAgg34:=@Tryz.isAgg34
theorem CE:type_of% @Tryz.isAgg35:=@Tryz.isAgg35
theorem bg:type_of% @Tryz.isAgg38:=@Tryz.isAgg38
theorem cg:type_of% @Tryz.isAgg44:=@Tryz.isAgg44
theorem gZ:type_of% @Tryz.isAgg49:=@Tryz.isAgg49
theorem CD:type_of% @Tryz.isAgg51:=@Tryz.isAgg51
theorem oU:type_of% @Tryz.isAgg61:=@Tryz.isAgg61
theorem oT:type_of% @Tryz.isAgg63:=@Tryz.isAgg63
theorem cK:type_of% @Tryz.isAgg68:=@Tryz.isAgg68
theorem aV:type_of% @Tryz.isAgg70:=@Tryz.isAgg70
theorem fw:type_of% @Tryz.isAgg80:=@Tryz.isAgg80
theorem iQ:type_of% @Tryz.results107:=@Tryz.results107
theorem nD:type_of% @Tryz.results108:=@Tryz.results108
theorem ve:type_of% @Tryz.results202:=@Tryz.results202
theorem ee:type_of% @Tryz.results22:=@Tryz.results22
theorem u9:type_of% @Tryz.results247:=@Tryz.results247
theorem pv:type_of% @Tryz.results41:=@Tryz.results41
theorem gz:type_of% @Tryz.results42:=@Tryz.results42
theorem jS:type_of% @Tryz.results46:=@Tryz.results46
theorem eg:type_of% @Tryz.runUnderlying108:=@Tryz.runUnderlying108
theorem xd:type_of% @Tryz.runUnderlying140:=@Tryz.runUnderlying140
theorem xc:type_of% @Tryz.runUnderlying158:=@Tryz.runUnderlying158
theorem kW:type_of% @Tryz.runUnderlying160:=@Tryz.runUnderlying160
theorem xb:type_of% @Tryz.runUnderlying172:=@Tryz.runUnderlying172
theorem an:type_of% @Tryz.runUnderlying182:=@Tryz.runUnderlying182
theorem kV:type_of% @Tryz.runUnderlying189:=@Tryz.runUnderlying189
theorem ad:type_of% @Tryz.runUnderlying22:=@Tryz.runUnderlying22
theorem xa:type_of% @Tryz.runUnderlying231:=@Tryz.runUnderlying231
theorem cB:type_of% @Tryz.runUnderlying233:=@Tryz.runUnderlying233
theorem cA:type_of% @Tryz.runUnderlying250:=@Tryz.runUnderlying250
theorem w9:type_of% @Tryz.runUnderlying259:=@Tryz.runUnderlying259
theorem yS:type_of% @Tryz.runUnderlying29:=@Tryz.runUnderlying29
theorem aC:type_of% @Tryz.runUnderlying3:=@Tryz.runUnderlying3
theorem gy:type_of% @Tryz.runUnderlying34:=@Tryz.runUnderlying34
theorem bI:type_of% @Tryz.runUnderlying35:=@Tryz.runUnderlying35
theorem gx:type_of% @Tryz.runUnderlying36:=@Tryz.runUnderlying36
theorem yR:type_of% @Tryz.runUnderlying38:=@Tryz.runUnderlying38
theorem gw:type_of% @Tryz.runUnderlying44:=@Tryz.runUnderlying44
theorem gv:type_of% @Tryz.runUnderlying49:=@Tryz.runUnderlying49
theorem aW:type_of% @Tryz.runUnderlying51:=@Tryz.runUnderlying51
theorem bH:type_of% @Tryz.runUnderlying61:=@Tryz.runUnderlying61
theorem aN:type_of% @Tryz.runUnderlying68:=@Tryz.runUnderlying68
theorem dC:type_of% @Tryz.runUnderlying80:=@Tryz.runUnderlying80
theorem gq:type_of% @Tryz.sizeOf108:=@Tryz.sizeOf108
theorem cD:type_of% @Tryz.sizeOf140:=@Tryz.sizeOf140
theorem pq:type_of% @Tryz.sizeOf158:=@Tryz.sizeOf158
theorem bh:type_of% @Tryz.sizeOf160:=@Tryz.sizeOf160
theorem po:type_of% @Tryz.sizeOf182:=@Tryz.sizeOf182
theorem aq:type_of% @Tryz.sizeOf189:=@Tryz.sizeOf189
theorem aE:type_of% @Tryz.sizeOf22:=@Tryz.sizeOf22
theorem gp:type_of% @Tryz.sizeOf236:=@Tryz.sizeOf236
theorem mb:type_of% @Tryz.sizeOf29:=@Tryz.sizeOf29
theorem ae:type_of% @Tryz.sizeOf3:=@Tryz.sizeOf3
theorem az:type_of% @Tryz.sizeOf34:=@Tryz.sizeOf34
theorem aM:type_of% @Tryz.sizeOf38:=@Tryz.sizeOf38
theorem oS:type_of% @Tryz.sizeOf4:=@Tryz.sizeOf4
theorem aD:type_of% @Tryz.sizeOf44:=@Tryz.sizeOf44
theorem bP:type_of% @Tryz.sizeOf49:=@Tryz.sizeOf49
theorem eI:type_of% @Tryz.sizeOf63:=@Tryz.sizeOf63
theorem ma:type_of% @Tryz.sizeOf68:=@Tryz.sizeOf68
theorem aA:type_of% @Tryz.sizeOf70:=@Tryz.sizeOf70
theorem bu:type_of% @Tryz.sizeOf80:=@Tryz.sizeOf80
theorem tu:type_of% @Tryz.typeInfo189:=@Tryz.typeInfo189
theorem dB:type_of% @Tryz.typeInfo3:=@Tryz.typeInfo3
theorem CC:type_of% @Tryz.underlying22:=@Tryz.underlying22
theorem CB:type_of% @Tryz.zeroValue108:=@Tryz.zeroValue108
theorem q9:type_of% @Tryz.zeroValue140:=@Tryz.zeroValue140
theorem jR:type_of% @Tryz.zeroValue158:=@Tryz.zeroValue158
theorem eC:type_of% @Tryz.zeroValue160:=@Tryz.zeroValue160
theorem cf:type_of% @Tryz.zeroValue189:=@Tryz.zeroValue189
theorem cO:type_of% @Tryz.zeroValue22:=@Tryz.zeroValue22
theorem CA:type_of% @Tryz.zeroValue231:=@Tryz.zeroValue231
theorem aR:type_of% @Tryz.zeroValue3:=@Tryz.zeroValue3
theorem gY:type_of% @Tryz.zeroValue34:=@Tryz.zeroValue34
theorem eX:type_of% @Tryz.zeroValue44:=@Tryz.zeroValue44
theorem tt:type_of% @Tryz.zeroValue49:=@Tryz.zeroValue49
theorem tr:type_of% @Tryz.zeroValue63:=@Tryz.zeroValue63
theorem ec:type_of% @Tryz.zeroValue70:=@Tryz.zeroValue70
theorem eW:type_of% @Tryz.zeroValue80:=@Tryz.zeroValue80
end Go.Proofs.YtddaejgfjlneoaaGreat
namespace Go.Proofs.YtddaejgfjlneoaaGreat
open Go.MW Go.ChangeShapes Go.WideShapes
set_option maxRecDepth 100000
theorem Ch:Tryz.prog.cellsOf 3=1:=by kernel_rfl
theorem Ci:Tryz.prog.bytesOf 3=8:=by kernel_rfl
theorem xG:reachBytes=140737488351232:=rfl
section
variable{H:Type}{enc:TypeId×Value→H}{w:World}{sp:Nat→Bool}{held:Bool}{n:Nat}{cs:List Value}{y:DataW H×List MemPlace}{v:Value}{d:DataW H}{p:List MemPlace}{r:Reach}{base:Nat}
theorem A5(hw:Wt Tryz.prog 22 y.1)(h:DataW.trod enc Tryz.prog w 0 sp held n 22 cs=some y):∃v xs,cs=[v]∧RI (hp w) v xs∧Cu xs:=by
 obtain ⟨v,xs,h1,h2,h3,h4⟩:=zt CC Tryz.underlying3 Ch hw h
 rw [Ci,xG] at h3
 exact ⟨v,xs,h1,h2,aj,h4⟩
theorem open_ints(hv:Value.okWide Tryz.prog w r base 22 v)(h:DataW.Trod enc Tryz.prog w 0 sp held 22 v d p)(hw:Wt Tryz.prog 22 d):∃l,RI (hp w) v l∧Cu l:=by
 obtain ⟨n,hn⟩:=wO CC hv h
 obtain ⟨v,ls,h1,h2,h3⟩:=A5 hw hn
 cases h1
 exact ⟨ls,h2,h3⟩
end
end Go.Proofs.YtddaejgfjlneoaaGreat
namespace Go.Proofs.YtddaejgfjlneoaaGreat
open Go.MW Go.ChangeShapes Go.WideShapes Go.ChangeAt Go.RowKit
set_option maxRecDepth 100000 in
theorem y8{H:Type}{enc:TypeId×Value→H}{w:World}{sp:Nat→Bool}{held:Bool}{v:Value}{d:DataW H}{p:List MemPlace}{r:Reach}{base:Nat}
  (hv:Value.okWide Tryz.prog w r base 3 v) (h:DataW.Trod enc Tryz.prog w 0 sp held 3 v d p):∃a,v=I a∧I64 a:=by
 obtain ⟨a,rfl,rfl,rfl,wa⟩:=open_int Tryz.underlying3 hv h
 exact ⟨a,rfl,CK wa⟩
theorem Ad:Tryz.prog.make=some .cut:=by kernel_rfl
theorem yI:Tryz.prog.mayEnter=true:=by kernel_rfl
theorem yF:Tryz.prog.liftsFinal=false:=by kernel_rfl
theorem Ae:Tryz.prog.plainKeys=true:=by kernel_rfl
theorem wN:laidOutB Tryz.prog=true:=by kernel_rfl
theorem Ac:mapsRowed Tryz.prog=true:=by kernel_rfl
theorem yH:Tryz.prog.stopsHeard=true:=by kernel_rfl
theorem yE:Tryz.prog.stops=[]:=by kernel_rfl
theorem yG:Tryz.prog.stopKnobs=[]:=by kernel_rfl
theorem kL{a b:Bool}(h:a=true)(k:b=true):(a&&b)=true:=by rw [h,k];rfl
theorem Bw{α:Type}[BEq α][LawfulBEq α]{a b:α}(h:a=b):(a==b)=true:=by rw [h];exact beq_self_eq_true _
theorem Bs:ownKnob Tryz.prog.godebug=none:=by kernel_rfl
end Go.Proofs.YtddaejgfjlneoaaGreat
namespace Go.Proofs.YtddaejgfjlneoaaGreat
open Go.MW
theorem mix:Tryz.prog.follows .mixedOrders=true:=by kernel_rfl
theorem qE:FA Tryz.prog 29 0 0:=by
 have h:=eH (k:=0) yS rfl ae
 exact h
theorem eP:FA Tryz.prog 29 1 1:=by
 have h:=eH (k:=1) yS rfl ae
 exact h
theorem dK:FA Tryz.prog 29 2 2:=by
 have h:=eH (k:=2) yS rfl ae
 exact h
theorem lJ:FA Tryz.prog 32 0 0:=by
 have h:=eH (k:=0) Tryz.runUnderlying32 rfl ae
 exact h
theorem lI:FA Tryz.prog 32 1 1:=by
 have h:=eH (k:=1) Tryz.runUnderlying32 rfl ae
 exact h
theorem o8:FA Tryz.prog 34 0 0:=by
 have h:=eH (k:=0) gy rfl ae
 exact h
theorem dO:FA Tryz.prog 34 1 1:=by
 have h:=eH (k:=1) gy rfl ae
 exact h
theorem aU:FA Tryz.prog 34 2 2:=by
 have h:=eH (k:=2) gy rfl aE
 exact h
theorem aO:FA Tryz.prog 34 3 3:=by
 have h:=eH (k:=3) gy rfl aE
 exact h
theorem eo:FA Tryz.prog 34 4 4:=by
 have h:=eH (k:=4) gy rfl Tryz.sizeOf32
 exact h
theorem aS:FA Tryz.prog 38 0 0:=by
 have h:=eH (k:=0) yR rfl az
 exact h
theorem dv:FA Tryz.prog 38 1 6:=by
 have h:=eH (k:=1) yR rfl Tryz.sizeOf35
 exact h
theorem fW:FA Tryz.prog 38 2 7:=by
 have h:=eH (k:=2) yR rfl Tryz.sizeOf36
 exact h
theorem pa:FA Tryz.prog 44 0 0:=by
 have h:=eH (k:=0) gw rfl ae
 exact h
theorem o9:FA Tryz.prog 44 1 1:=by
 have h:=eH (k:=1) gw rfl ae
 exact h
theorem nt:FA Tryz.prog 49 0 0:=by
 have h:=eH (k:=0) gv rfl ae
 exact h
theorem ns:FA Tryz.prog 49 1 1:=by
 have h:=eH (k:=1) gv rfl ae
 exact h
theorem eQ:FA Tryz.prog 63 0 0:=by
 have h:=eH (k:=0) Tryz.runUnderlying63 rfl Tryz.sizeOf61
 exact h
theorem aZ:FA Tryz.prog 70 0 0:=by
 have h:=eH (k:=0) Tryz.runUnderlying70 rfl ae
 exact h
theorem bp:FA Tryz.prog 70 1 1:=by
 have h:=eH (k:=1) Tryz.runUnderlying70 rfl ma
 exact h
theorem iK:FA Tryz.prog 80 0 0:=by
 have h:=eH (k:=0) dC rfl ae
 exact h
theorem fB:FA Tryz.prog 80 1 1:=by
 have h:=eH (k:=1) dC rfl ae
 exact h
theorem fA:FA Tryz.prog 80 2 2:=by
 have h:=eH (k:=2) dC rfl ae
 exact h
theorem eu:FA Tryz.prog 80 3 3:=by
 have h:=eH (k:=3) dC rfl ae
 exact h
theorem cI:FA Tryz.prog 80 4 4:=by
 have h:=eH (k:=4) dC rfl ae
 exact h
theorem iJ:FA Tryz.prog 80 5 5:=by
 have h:=eH (k:=5) dC rfl ae
 exact h
theorem iI:FA Tryz.prog 80 6 6:=by
 have h:=eH (k:=6) dC rfl ae
 exact h
theorem iO:FA Tryz.prog 108 0 0:=by
 have h:=eH (k:=0) eg rfl ae
 exact h
theorem iN:FA Tryz.prog 108 1 1:=by
 have h:=eH (k:=1) eg rfl ae
 exact h
theorem iM:FA Tryz.prog 108 2 2:=by
 have h:=eH (k:=2) eg rfl ae
 exact h
theorem fD:FA Tryz.prog 108 3 3:=by
 have h:=eH (k:=3) eg rfl ae
 exact h
theorem iL:FA Tryz.prog 108 4 4:=by
 have h:=eH (k:=4) eg rfl ae
 exact h
theorem fC:FA Tryz.prog 108 5 5:=by
 have h:=eH (k:=5) eg rfl ae
 exact h
theorem jn:FA Tryz.prog 140 0 0:=by
 have h:=eH (k:=0) xd rfl aA
 exact h
theorem jm:FA Tryz.prog 140 1 2:=by
 have h:=eH (k:=1) xd rfl aE
 exact h
theorem fo:FA Tryz.prog 140 2 3:=by
 have h:=eH (k:=2) xd rfl ae
 exact h
theorem bM:FA Tryz.prog 158 0 0:=by
 have h:=eH (k:=0) xc rfl ae
 exact h
theorem bE:FA Tryz.prog 158 1 1:=by
 have h:=eH (k:=1) xc rfl ae
 exact h
theorem cu:FA Tryz.prog 158 2 2:=by
 have h:=eH (k:=2) xc rfl ae
 exact h
theorem fg:FA Tryz.prog 160 0 0:=by
 have h:=eH (k:=0) kW rfl ae
 exact h
theorem gX:FA Tryz.prog 160 1 1:=by
 have h:=eH (k:=1) kW rfl ae
 exact h
theorem gW:FA Tryz.prog 160 2 2:=by
 have h:=eH (k:=2) kW rfl ae
 exact h
theorem gV:FA Tryz.prog 160 3 3:=by
 have h:=eH (k:=3) kW rfl ae
 exact h
theorem bL:FA Tryz.prog 172 0 0:=by
 have h:=eH (k:=0) xb rfl aM
 exact h
theorem dd:FA Tryz.prog 172 1 8:=by
 have h:=eH (k:=1) xb rfl Tryz.sizeOf51
 exact h
theorem dT:FA Tryz.prog 172 2 9:=by
 have h:=eH (k:=2) xb rfl ma
 exact h
theorem bC:FA Tryz.prog 189 0 0:=by
 have h:=eH (k:=0) kV rfl ae
 exact h
theorem bG:FA Tryz.prog 189 1 1:=by
 have h:=eH (k:=1) kV rfl ae
 exact h
theorem cV:FA Tryz.prog 189 2 2:=by
 have h:=eH (k:=2) kV rfl ae
 exact h
theorem bT:FA Tryz.prog 189 3 3:=by
 have h:=eH (k:=3) kV rfl ae
 exact h
theorem mJ:FA Tryz.prog 231 0 0:=by
 have h:=eH (k:=0) xa rfl Tryz.sizeOf228
 exact h
theorem mI:FA Tryz.prog 231 1 1:=by
 have h:=eH (k:=1) xa rfl Tryz.sizeOf229
 exact h
theorem mH:FA Tryz.prog 231 2 2:=by
 have h:=eH (k:=2) xa rfl ae
 exact h
theorem bo:FA Tryz.prog 236 0 0:=by
 have h:=eH (k:=0) Tryz.runUnderlying236 rfl mb
 exact h
theorem cQ:FA Tryz.prog 236 1 3:=by
 have h:=eH (k:=1) Tryz.runUnderlying236 rfl az
 exact h
theorem du:FA Tryz.prog 259 0 0:=by
 have h:=eH (k:=0) w9 rfl aA
 exact h
theorem dZ:FA Tryz.prog 259 1 2:=by
 have h:=eH (k:=1) w9 rfl aE
 exact h
theorem bU:FA Tryz.prog 259 2 3:=by
 have h:=eH (k:=2) w9 rfl aE
 exact h
theorem jV:FA Tryz.prog 294 0 0:=by
 have h:=eH (k:=0) Tryz.runUnderlying294 rfl aE
 exact h
theorem dP:FA Tryz.prog 300 0 0:=by
 have h:=eH (k:=0) Tryz.runUnderlying300 rfl ae
 exact h
theorem fh:FA Tryz.prog 300 1 1:=by
 have h:=eH (k:=1) Tryz.runUnderlying300 rfl ae
 exact h
theorem ft:oN Tryz.prog 29 [(0,1),(1,1),(2,1)] [.int .i64 0,.int .i64 0,.int .i64 0]:=ij Tryz.zeroValue29 rfl yS (by simp [Tryz.sizeOf3])
theorem mY:oN Tryz.prog 32 [(0,1),(1,1)] [.int .i64 0,.int .i64 0]:=ij Tryz.zeroValue32 rfl Tryz.runUnderlying32 (by simp [Tryz.sizeOf3])
theorem lX:oN Tryz.prog 34 [(0,1),(1,1),(2,1),(3,1),(4,2)] [.int .i64 0,.int .i64 0,.slice none 0 0,.slice none 0 0,.int .i64 0,.int .i64 0]:=ij gY rfl gy (by simp [Tryz.sizeOf22,Tryz.sizeOf3,Tryz.sizeOf32])
theorem pj:oN Tryz.prog 38 [(0,6),(6,1),(7,1)] [.int .i64 0,.int .i64 0,.slice none 0 0,.slice none 0 0,.int .i64 0,.int .i64 0,.slice none 0 0,.slice none 0 0]:=ij Tryz.zeroValue38 rfl yR (by simp [Tryz.sizeOf34,Tryz.sizeOf35,Tryz.sizeOf36])
theorem bq:oN Tryz.prog 44 [(0,1),(1,1)] [.int .i64 0,.int .i64 0]:=ij eX rfl gw (by simp [Tryz.sizeOf3])
theorem jr:oN Tryz.prog 49 [(0,1),(1,1)] [.int .i64 0,.int .i64 0]:=ij tt rfl gv (by simp [Tryz.sizeOf3])
theorem se:oN Tryz.prog 63 [(0,1)] [.slice none 0 0]:=ij tr rfl Tryz.runUnderlying63 (by simp [Tryz.sizeOf61])
theorem jY:oN Tryz.prog 70 [(0,1),(1,1)] [.int .i64 0,.slice none 0 0]:=ij ec rfl Tryz.runUnderlying70 (by simp [Tryz.sizeOf3,Tryz.sizeOf68])
theorem dx:oN Tryz.prog 80 [(0,1),(1,1),(2,1),(3,1),(4,1),(5,1),(6,1)] [.int .i64 0,.int .i64 0,.int .i64 0,.int .i64 0,.int .i64 0,.int .i64 0,.int .i64 0]:=ij eW rfl dC (by simp [Tryz.sizeOf3])
theorem oH:oN Tryz.prog 108 [(0,1),(1,1),(2,1),(3,1),(4,1),(5,1)] [.int .i64 0,.int .i64 0,.int .i64 0,.int .i64 0,.int .i64 0,.int .i64 0]:=ij CB rfl eg (by simp [Tryz.sizeOf3])
theorem dp:oN Tryz.prog 140 [(0,2),(2,1),(3,1)] [.int .i64 0,.slice none 0 0,.slice none 0 0,.int .i64 0]:=ij q9 rfl xd (by simp [Tryz.sizeOf22,Tryz.sizeOf3,Tryz.sizeOf70])
theorem lW:oN Tryz.prog 158 [(0,1),(1,1),(2,1)] [.int .i64 0,.int .i64 0,.int .i64 0]:=ij jR rfl xc (by simp [Tryz.sizeOf3])
theorem lY:oN Tryz.prog 160 [(0,1),(1,1),(2,1),(3,1)] [.int .i64 0,.int .i64 0,.int .i64 0,.int .i64 0]:=ij eC rfl kW (by simp [Tryz.sizeOf3])
theorem ig:oN Tryz.prog 172 [(0,8),(8,1),(9,1)] [.int .i64 0,.int .i64 0,.slice none 0 0,.slice none 0 0,.int .i64 0,.int .i64 0,.slice none 0 0,.slice none 0 0,.slice none 0 0,.slice none 0 0]:=ij Tryz.zeroValue172 rfl xb (by simp [Tryz.sizeOf38,Tryz.sizeOf51,Tryz.sizeOf68])
theorem jW:oN Tryz.prog 189 [(0,1),(1,1),(2,1),(3,1)] [.int .i64 0,.int .i64 0,.int .i64 0,.int .i64 0]:=ij cf rfl kV (by simp [Tryz.sizeOf3])
theorem ew:oN Tryz.prog 231 [(0,1),(1,1),(2,1)] [.nilFunc,.nilFunc,.int .i64 0]:=ij CA rfl xa (by simp [Tryz.sizeOf228,Tryz.sizeOf229,Tryz.sizeOf3])
theorem ny:oN Tryz.prog 236 [(0,3),(3,6)] [.int .i64 0,.int .i64 0,.int .i64 0,.int .i64 0,.int .i64 0,.slice none 0 0,.slice none 0 0,.int .i64 0,.int .i64 0]:=ij Tryz.zeroValue236 rfl Tryz.runUnderlying236 (by simp [Tryz.sizeOf29,Tryz.sizeOf34])
theorem jX:oN Tryz.prog 259 [(0,2),(2,1),(3,1)] [.int .i64 0,.slice none 0 0,.slice none 0 0,.slice none 0 0]:=ij Tryz.zeroValue259 rfl w9 (by simp [Tryz.sizeOf22,Tryz.sizeOf70])
theorem qP:oN Tryz.prog 294 [(0,1)] [.slice none 0 0]:=ij Tryz.zeroValue294 rfl Tryz.runUnderlying294 (by simp [Tryz.sizeOf22])
theorem qQ:oN Tryz.prog 300 [(0,1),(1,1)] [.int .i64 0,.int .i64 0]:=ij Tryz.zeroValue300 rfl Tryz.runUnderlying300 (by simp [Tryz.sizeOf3])
theorem sd:ss Tryz.prog 22 0 1 []:=kK ad ae aR ed ay
theorem cz:ss Tryz.prog 22 1 1 [.int .i64 0]:=kK ad ae aR ed ay
theorem eG:ss Tryz.prog 22 2 1 [.int .i64 0,.int .i64 0]:=kK ad ae aR ed ay
theorem sc:ss Tryz.prog 22 3 1 [.int .i64 0,.int .i64 0,.int .i64 0]:=kK ad ae aR ed ay
theorem jN:ss Tryz.prog 35 0 7 []:=kK bI bu eW ed ay
theorem jM:ss Tryz.prog 35 1 7 [.int .i64 0,.int .i64 0,.int .i64 0,.int .i64 0,.int .i64 0,.int .i64 0,.int .i64 0]:=kK bI bu eW ed ay
theorem jL:ss Tryz.prog 35 4 7 [.int .i64 0,.int .i64 0,.int .i64 0,.int .i64 0,.int .i64 0,.int .i64 0,.int .i64 0,.int .i64 0,.int .i64 0,.int .i64 0,.int .i64 0,.int .i64 0,.int .i64 0,.int .i64 0,.int .i64 0,.int .i64 0,.int .i64 0,.int .i64 0,.int .i64 0,.int .i64 0,.int .i64 0,.int .i64 0,.int .i64 0,.int .i64 0,.int .i64 0,.int .i64 0,.int .i64 0,.int .i64 0]:=kK bI bu eW ed ay
theorem jO:ss Tryz.prog 36 1 6 [.int .i64 0,.int .i64 0,.int .i64 0,.int .i64 0,.int .i64 0,.int .i64 0]:=kK gx gq CB ed ay
theorem fK:ss Tryz.prog 51 1 2 [.int .i64 0,.int .i64 0]:=kK aW bP tt ed ay
theorem ph:ss Tryz.prog 61 1 1 [.slice none 0 0]:=kK bH aE cO ed ay
theorem pc:ss Tryz.prog 61 2 1 [.slice none 0 0,.slice none 0 0]:=kK bH aE cO ed ay
theorem lV:ss Tryz.prog 68 1 4 [.int .i64 0,.int .i64 0,.int .i64 0,.int .i64 0]:=kK aN bh eC ed ay
theorem lU:ss Tryz.prog 68 2 4 [.int .i64 0,.int .i64 0,.int .i64 0,.int .i64 0,.int .i64 0,.int .i64 0,.int .i64 0,.int .i64 0]:=kK aN bh eC ed ay
theorem kJ:ss Tryz.prog 182 1 4 [.int .i64 0,.int .i64 0,.int .i64 0,.int .i64 0]:=kK an aq cf ed ay
theorem qO:ss Tryz.prog 223 6 1 [.nilFunc,.nilFunc,.nilFunc,.nilFunc,.nilFunc,.nilFunc]:=kK Tryz.runUnderlying223 Tryz.sizeOf1 Tryz.zeroValue1 ed ay
theorem cy:zj Tryz.prog 22 22 3 1 8:=⟨ad,ad,ae,⟨_,dB,rfl,by decide⟩,⟨_,aR,rfl⟩⟩
theorem dI:zj Tryz.prog 35 35 80 7 56:=⟨bI,bI,bu,⟨_,Tryz.typeInfo80,rfl,by decide⟩,⟨_,eW,rfl⟩⟩
theorem dH:zj Tryz.prog 51 51 49 2 16:=⟨aW,aW,bP,⟨_,Tryz.typeInfo49,rfl,by decide⟩,⟨_,tt,rfl⟩⟩
theorem kM:zj Tryz.prog 61 61 22 1 24:=⟨bH,bH,aE,⟨_,Tryz.typeInfo22,rfl,by decide⟩,⟨_,cO,rfl⟩⟩
theorem da:zj Tryz.prog 68 68 160 4 32:=⟨aN,aN,bh,⟨_,Tryz.typeInfo160,rfl,by decide⟩,⟨_,eC,rfl⟩⟩
theorem fP:zj Tryz.prog 182 182 189 4 32:=⟨an,an,aq,⟨_,tu,rfl,by decide⟩,⟨_,cf,rfl⟩⟩
end Go.Proofs.YtddaejgfjlneoaaGreat
namespace Go.Proofs.YtddaejgfjlneoaaGreat
open Go.MW
variable{H:a8}{w:World}{σ:List Ent}
theorem dw{a0 a1 a2:Int}(hs:St H w σ):Cl Tryz.prog 161 [I a0,I a1,I a2] w fun v w'=>v= .bool (decide (a1≤a0∧a0≤a2))∧St H w' σ:=by
 refine Cl.o Tryz.func161 Tryz.ntmps161 ag3 ?_
 refine .ai (.z zg (.nil (.ai (.z zm (.z zm (.z yU (.z zm ?_)))))))
 refine .mM (t':=10) rfl (fun hb10=>?_) (fun hb10=>?_)
 ·refine .gT rfl rfl ?_
  refine .z zm ?_
  refine .gT rfl rfl ?_
  refine .z zm ?_
  refine .gT rfl rfl ?_
  refine .z yU (.z zpT (.z zg (.nil ?_)))
  refine .ret (Fin.bF Tryz.results161 rfl ?_)
  exact ⟨by simp [*],hs.out⟩
 ·refine .gFs 3 3 true rfl rfl rfl ?_
  refine .z zpF (.z zg (.nil ?_))
  refine .ret (Fin.bF Tryz.results161 rfl ?_)
  exact ⟨by simp [*],hs.out⟩
theorem lS{many:Int}{l:Lim}(hs:St H w σ):Cl Tryz.prog 202 [I many,.agg l.c.toArray] w fun v w'=>v= .bool (l.ok many)∧St H w' σ:=by
 refine Cl.o Tryz.func202 Tryz.ntmps202 ag2 ?_
 refine .ai ?_
 refine .bx hs fun b3 w hs=>?_
 refine .z zg (.nil (.ai (.z (zfa fg) (.y hs (zld af) (.z zm ?_)))))
 refine .o (.call CH rfl (dw hs) ?_);rintro _ w ⟨rfl,hs⟩
 refine .z zm ?_
 refine .bif (t':=9) rfl (fun hb9=>?_) (fun hb9=>?_)
 ·refine .gT rfl rfl ?_
  refine .z (zfa gX) ?_
  refine .gT rfl rfl ?_
  refine .y hs (zld af) ?_
  refine .gT rfl rfl ?_
  refine .z zm ?_
  refine .gT rfl rfl ?_
  refine .o (.call CH rfl (dw hs) ?_);rintro _ w ⟨rfl,hs⟩
  refine .z zpT (.z zm ?_)
  refine .bif (t':=15) rfl (fun hb15=>?_) (fun hb15=>?_)
  ·refine .gT rfl rfl ?_
   refine .z (zfa fg) ?_
   refine .gT rfl rfl ?_
   refine .y hs (zld af) ?_
   refine .gT rfl rfl ?_
   refine .z (zfa gX) ?_
   refine .gT rfl rfl ?_
   refine .y hs (zld af) ?_
   refine .gT rfl rfl ?_
   refine .z m9 (.z zpT (.z zm ?_))
   refine .Bv (t':=22) rfl (fun hb22=>?_) (fun hb22=>?_)
   ·refine .gT rfl rfl ?_
    refine .z (zfa gW) ?_
    refine .gT rfl rfl ?_
    refine .y hs (zld af) ?_
    refine .gT rfl rfl ?_
    refine .o (.call CH rfl (dw hs) ?_);rintro _ w ⟨rfl,hs⟩
    refine .z zpT (.z zm ?_)
    refine .bif (t':=27) rfl (fun hb27=>?_) (fun hb27=>?_)
    ·refine .gT rfl rfl ?_
     refine .z (zfa gV) ?_
     refine .gT rfl rfl ?_
     refine .y hs (zld af) ?_
     refine .gT rfl rfl ?_
     refine .o (.call CH rfl (dw hs) ?_);rintro _ w ⟨rfl,hs⟩
     refine .z zpT (.z zg (.nil ?_))
     refine .ret (Fin.bF ve rfl ?_)
     exact ⟨by simp [Lim.ok, *],hs.out⟩
    ·refine .gFs 3 22 true rfl rfl rfl ?_
     refine .z zpF (.z zg (.nil ?_))
     refine .ret (Fin.bF ve rfl ?_)
     exact ⟨by simp [Lim.ok, *],hs.out⟩
   ·refine .gFs 3 17 true rfl rfl rfl ?_
    refine .z zpF (.z zm ?_)
    refine .gFs 3 22 true rfl rfl rfl ?_
    refine .z zpF (.z zg (.nil ?_))
    refine .ret (Fin.bF ve rfl ?_)
    exact ⟨by simp [Lim.ok, *],hs.out⟩
  ·refine .gFs 5 10 true rfl rfl rfl ?_
   refine .z zpF (.z zm ?_)
   refine .gFs 3 17 true rfl rfl rfl ?_
   refine .z zpF (.z zm ?_)
   refine .gFs 3 22 true rfl rfl rfl ?_
   refine .z zpF (.z zg (.nil ?_))
   refine .ret (Fin.bF ve rfl ?_)
   exact ⟨by simp [Lim.ok, *],hs.out⟩
 ·refine .gFs 4 4 true rfl rfl rfl ?_
  refine .z zpF (.z zm ?_)
  refine .gFs 5 10 true rfl rfl rfl ?_
  refine .z zpF (.z zm ?_)
  refine .gFs 3 17 true rfl rfl rfl ?_
  refine .z zpF (.z zm ?_)
  refine .gFs 3 22 true rfl rfl rfl ?_
  refine .z zpF (.z zg (.nil ?_))
  refine .ret (Fin.bF ve rfl ?_)
  exact ⟨by simp [Lim.ok, *],hs.out⟩
theorem qW{v:Value}{ls:List Lim}{g:Nat}{cap:List Value}{p:Lim→Bool}(hs:St H w σ)(hr:RL H v ls)
  (hc:∀args w,(callFunc g args).run Tryz.prog w= .ok (.enter g args) w) (hp:∀w l,St H w σ→Cl Tryz.prog g ([.agg l.c.toArray]++cap) w fun u w'=>u= .bool (p l)∧St H w' σ):
  Cl Tryz.prog 252 [v,.func (.func g) #[] cap.toArray] w fun u w'=>u=I (match ls.findIdx? p with|some k=>(k:Int)|none=> -1)∧St H w' σ:=by
 obtain ⟨a,c,rfl⟩:=RS.shape hr
 have hl:=(RS.len hr).2.2
 refine Cl.o Tryz.func252 Tryz.ntmps252 ag2 ?_
 refine .ai (.z zg (.nil (.seq (.ai (.z zm ?_)))))
 refine .q hs (vS hr rfl aN) ?_
 refine .z zm (.nil ?_)
 refine .for (N:=(ls.map Lim.c).length) (J:=fun k fr w=>fr=[(1,.func (.func g) #[] cap.toArray),(0,.slice a (ls.map Lim.c).length c)]∧St H w σ∧∀j<k,∀l,ls[j]? =some l→p l=false) aj ?_ ?_ ?_
 ·exact .mk ⟨rfl,hs,fun j hj=>by omega⟩
 ·rintro k fr w hk ⟨rfl,hs,hno⟩
  obtain ⟨l,hl⟩:=nth (l:=ls) (by simpa using hk)
  refine .block (.ai (.z zm (.z zg (.nil (.ai (.z zm (.z zm (.z zm ?_))))))))
  refine .ixX hs hr rfl rfl aN bh hl rfl ?_;intro b14 o14 hc14
  refine .y hs (zls [_,_,_,_] iF bh) ?_
  refine .o (.lP (first:=[]) rfl rfl hc (hp _ _ hs) ?_);rintro _ w ⟨rfl,hs⟩
  refine .nil ?_
  refine (.cond rfl (fun hc16=>?_) (fun hc16=>?_))
  ·refine .ai (.z zm (.z zg (.nil ?_)))
   refine .ret (rB (rT (rB (rT (Fin.bF Tryz.results252 rfl ?_)))))
   exact ⟨by rw [oA hl hc16 hno],hs⟩
  ·refine .skip ?_
   refine nB (nT ?_)
   exact .mk ⟨rfl,hs,ek hno hl hc16⟩
 ·rintro fr w ⟨rfl,hs,hno⟩
  refine nT ?_
  refine .ai (.z zg (.nil ?_))
  refine .ret (Fin.bF Tryz.results252 rfl ?_)
  exact ⟨by rw [mW (by simpa using hno)],hs⟩
theorem nA{v:Value}{ls:List Lim}{g:Nat}{cap:List Value}{p:Lim→Bool}(hs:St H w σ)(hr:RL H v ls)
  (hc:∀args w,(callFunc g args).run Tryz.prog w= .ok (.enter g args) w) (hp:∀w l,St H w σ→Cl Tryz.prog g ([.agg l.c.toArray]++cap) w fun u w'=>u= .bool (p l)∧St H w' σ):
  Cl Tryz.prog 200 [v,.func (.func g) #[] cap.toArray] w fun u w'=>u= .bool (ls.any p)∧St H w' σ:=by
 refine Cl.o Tryz.func200 Tryz.ntmps200 ag2 ?_
 refine .ai (.z zg (.nil (.ai (.z zm (.z zm ?_)))))
 refine .o (.call Tryz.call252 rfl (qW hs hr hc hp) ?_);rintro _ w ⟨rfl,hs⟩
 refine .z xi (.z zg (.nil ?_))
 refine .ret (Fin.bF Tryz.results200 rfl ?_)
 exact ⟨by rw [ti];cases ls.findIdx? p<;>simp<;>omega,hs⟩
theorem qN{b:Nat}{many:Int}{v:Value}{l:Lim}(hs:St H w σ)(hm:Mem σ (.blk b [I many,v])):Cl Tryz.prog 201 [.agg l.c.toArray,.pointer (some ⟨b,0,none⟩)] w fun v w'=>v= .bool (!l.ok many)∧St H w' σ:=by
 refine Cl.o Tryz.func201 Tryz.ntmps201 ag2 ?_
 refine .ai ?_
 refine .bx hs fun b2 w hs=>?_
 refine .z zg (.nil (.ai (.z (zfa aZ) ?_)))
 refine .q hs (fT rfl af (.there hm) rfl) ?_
 refine .q hs (gS (vs:=l.c) rfl iF bh) ?_
 refine .o (.call Tryz.call202 rfl (lS hs) ?_);rintro _ w ⟨rfl,hs⟩
 refine .z jb (.z zg (.nil ?_))
 refine .ret (Fin.bF Tryz.results201 rfl ?_)
 exact ⟨rfl,hs.out⟩
theorem fG{v:Value}{s:aQ}(hs:St H w σ)(hr:RSy H v s):Cl Tryz.prog 125 [v] w fun v w'=>v=I s.check∧St H w' σ:=by
 obtain ⟨u,rfl,hr⟩:=hr
 obtain ⟨a,c,rfl⟩:=RS.shape hr
 refine Cl.o Tryz.func125 Tryz.ntmps125 ag1 ?_
 refine .ai ?_
 refine .bx hs fun b1 w hs=>?_
 refine .z zg (.nil (.seq (.block (.ai (.z (zfa aZ) (.y hs (zld af) ?_))))))
 refine .o (.call CH rfl (dw hs) ?_);rintro _ w ⟨rfl,hs⟩
 refine .z jb (.z zg (.nil ?_))
 refine (.cond rfl (fun hc3=>?_) (fun hc3=>?_))
 ·refine .ai (.z zg (.nil ?_))
  refine .ret (rB (rT (Fin.bF Tryz.results125 rfl ?_)))
  exact ⟨congrArg I (by unfold aQ.check;(repeat' split)<;>simp_all<;>omega),hs.out⟩
 ·refine .ai (.z (zfa bp) (.y hs (zld cK) ?_))
  refine .q hs (vS hr rfl aN) ?_
  refine .z qZ (.z zg (.nil ?_))
  refine (.cW rfl (fun hc8=>?_) (fun hc8=>?_))
  ·refine .ai (.z zg (.nil ?_))
   refine .ret (rB (rT (Fin.bF Tryz.results125 rfl ?_)))
   exact ⟨congrArg I (by unfold aQ.check;(repeat' split)<;>simp_all<;>omega),hs.out⟩
  ·refine .ai (.z (zfa bp) (.y hs (zld cK) ?_))
   refine .q hs (bO (f:=[]) (c:=[_]) rfl rfl) ?_
   refine .o (.call Tryz.call200 rfl (nA (p:=fun l=> !l.ok s.many) hs hr Tryz.call201 (fun w l hs=>qN hs .here)) ?_);rintro _ w ⟨rfl,hs⟩
   refine .z zg (.nil ?_)
   refine (.cond rfl (fun hc13=>?_) (fun hc13=>?_))
   ·refine .ai (.z zg (.nil ?_))
    refine .ret (rB (rT (Fin.bF Tryz.results125 rfl ?_)))
    exact ⟨congrArg I (by unfold aQ.check;(repeat' split)<;>simp_all<;>omega),hs.out⟩
   ·refine .skip ?_
    refine nB (nT ?_)
    refine .ai (.z zg (.nil ?_))
    refine .ret (Fin.bF Tryz.results125 rfl ?_)
    exact ⟨congrArg I (by unfold aQ.check;(repeat' split)<;>simp_all<;>omega),hs.out⟩
theorem lQ{H:a8}{b:Nat}{s:aQ}{u:Value}(hok:s.Ok)(hb:Row H b [I s.many,u])(hr:RL H u s.bn):ItA Tryz.prog 203 [.pointer (some ⟨b,0,none⟩)] H s.bD:=by
 intro l II Ix _ _ hy H0 σb0 σf w hle hI0 hs
 obtain ⟨a,c,rfl⟩:=RS.shape hr
 have hb1:cellAt H0 b 1=some (.slice a (s.bn.map Lim.c).length c):=cellAt.mono (by rw [hb.cell];rfl) hle
 have hlen:=hok.len
 refine Cl.o Tryz.func203 Tryz.ntmps203 ag2 ?_
 refine .ai (.z (zfa bp) (.y hs (zld cK) ?_))
 refine .q hs (vS (hr.mono hle) rfl aN) ?_
 refine .z zm (.nil ?_)
 refine .for (N:=(s.bn.map Lim.c).length) (J:=fun k fr w=>fr=[(6,.slice a (s.bn.map Lim.c).length c),(0,.func (.yield l) #[] #[])]∧∃H1 σb,HLe H H1∧HLe H0 H1∧II k H1 σb∧St H1 w (σb++σf)) (by simp;omega) ?_ ?_ ?_
 ·exact .mk ⟨rfl,H0,σb0,hle,HLe.refl _,hI0,hs⟩
 ·rintro k fr w hk ⟨rfl,H1,σb,hle1,hle0,hI,hs⟩
  obtain ⟨x,hx⟩:=nth (l:=s.bn) (by simpa using hk)
  obtain ⟨hA,hB,_⟩:=hok.arc (List.mem_of_getElem? hx) k
  refine .block (.ai (.z zm ?_))
  refine .ixX hs (hr.mono hle1) rfl rfl aN bh hx rfl ?_;intro b11 o11 hc11
  refine .q hs (dc (vs:=x.c) rfl iF bh hc11) ?_
  refine .o (.alloc hs eC rfl fun b4 w hs=>?_)
  refine .z zg ?_
  refine .o (.aP (vs:=x.c) hs rfl rfl bh fun w hs=>?_)
  refine .nil (.ai (.z zm (.z (zfa fg) (.y hs (zld af) (.z (zfa gX) (.y hs (zld af) (.z (zfa gW) (.y hs (zld af) (.z zm ?_)))))))))
  refine .z (zbd [_,_,_,_] jW) ?_
  have hk':k<(s.bD.map fun x=>[Value.agg x.v.toArray]).length:=by simp [aQ.bD,de];simpa using hk
  have hxk:(s.bD.map fun x=>[Value.agg x.v.toArray])[k]=[.agg (x.arc k).v.toArray]:=by
   have:=ik hx
   rw [List.getElem_map];rw [List.getElem?_eq_some_iff] at this;obtain ⟨h1,h2⟩:=this;simp only [aQ.bD];rw [h2]
  have hyd:=hy k hk' H1 σb σf w hle1 hI hs.tail
  rw [hxk] at hyd
  refine .o (.yield (vs:=[.agg (x.arc k).v.toArray]) rfl (by simp [Arc.v,hA,hB];rfl) hyd ?_);rintro v22 w ⟨H2,σ2,g1,hs,g3⟩
  obtain ⟨bb,rfl,gT,gF⟩:=ka g3
  refine .z jb (.nil ?_)
  refine (.cond rfl (fun hc23=>?_) (fun hc23=>?_))
  ·refine .ret (rB (rT (rB (Fin.AN Tryz.results203 ?_))))
   exact ⟨H2,σ2,hle0.trans g1,hs,.inr (gF (by simpa using hc23))⟩
  ·refine .skip ?_
   refine nB (nT ?_)
   exact .mk ⟨rfl,H2,σ2,hle1.trans g1,hle0.trans g1,gT (by simpa using hc23),hs⟩
 ·rintro fr w ⟨rfl,H1,σb,hle1,hle0,hI,hs⟩
  exact Fin.sy Tryz.results203 ⟨H1,σb,hle0,hs,.inl (by simpa [aQ.bD,de] using hI)⟩
theorem fE{v:Value}{s:aQ}(hs:St H w σ)(hok:s.Ok)(hr:RSy H v s):
  Cl Tryz.prog 127 [v] w fun v w'=>∃H1 b,HLe H H1∧v= .func (.func 203) #[] #[.pointer (some ⟨b,0,none⟩)]∧ItA Tryz.prog 203 [.pointer (some ⟨b,0,none⟩)] H1 s.bD∧St H1 w' σ:=by
 obtain ⟨u,rfl,hr⟩:=hr
 refine Cl.o Tryz.func127 Tryz.ntmps127 ag1 ?_
 refine .ai ?_
 refine .bx hs fun b1 w hs=>?_
 refine .z zg (.nil (.ai ?_))
 refine .q hs (bO (f:=[]) (c:=[_]) rfl rfl) ?_
 refine .z zg (.nil ?_)
 refine .ret (Fin.bF Tryz.results127 rfl ?_)
 obtain ⟨H1,g1,g2,hs⟩:=hs.bK .here
 exact ⟨H1,b1,g1,rfl,lQ hok g2 (hr.mono g1),hs⟩
theorem gK{N gf:Nat}{ar:List Arc}{cap:List Value}(hs:St H w σ)(hN:N≤64)(hok:l8 ar (N+1))(hit:ItA Tryz.prog gf cap H ar)(hc:∀args w,(callFunc gf args).run Tryz.prog w= .ok (.enter gf args) w):
  Cl Tryz.prog 126 [I N,.func (.func gf) #[] cap.toArray] w fun v w'=>∃H1 bc bb s ov vo,HLe H H1∧v= .tuple #[.slice (some ⟨bc,0,none⟩) (N+1) (N+1),.slice (some ⟨bb,0,none⟩) (N+1) (N+1),vo]∧OvR H1 vo ov∧BF (N+1) ar s ov∧St H1 w' (.blk bc (Is s.cost):: .blk bb (eT s.by_)::σ):=by
 refine Cl.o Tryz.func126 Tryz.ntmps126 ag2 ?_
 refine .ai ?_
 refine .o (.alloc hs cO rfl fun b4 w hs=>?_)
 refine .o (.alloc hs Tryz.zeroValue182 rfl fun b5 w hs=>?_)
 refine .o (.alloc hs Tryz.zeroValue183 rfl fun b6 w hs=>?_)
 refine .nil ?_
 refine .cut (fun fs w=>∃bc bb,kT fs ⟨70,[],[(1,.func (.func gf) #[] cap.toArray),(0,I N),(4,.pointer (some ⟨b4,0,none⟩)),(5,.pointer (some ⟨b5,0,none⟩)),(6,.pointer (some ⟨b6,0,none⟩))]⟩∧St H w (.blk b4 [.slice (some ⟨bc,0,none⟩) (N+1) (N+1)]:: .blk b5 [.slice (some ⟨bb,0,none⟩) (N+1) (N+1)]:: .blk b6 [.pointer none]:: .blk bc (Is (List.replicate (N+1) 0)):: .blk bb (eT (sZ (N+1) 0))::σ)) ?_ ?_
 ·refine .draw mix rfl hs fun w hs=>?_
  refine .z 0 rfl zm ?_;refine .z 1 rfl cR ?_;refine .z 3 rfl zm ?_;refine .z 4 rfl cR ?_
  refine .e2 (i:=2) (j:=5) ay rfl rfl rfl rfl .none .none hs ?_ ?_
  ·refine .o7 (N+1) hs rfl rfl ad dB rfl ae aR aj ?_;intro b11 w hs
   refine .go ?_
   refine .e2 (i:=5) (j:=6) ay rfl rfl rfl rfl .none .none hs ?_ ?_
   ·refine .yg (N+1) hs rfl rfl an tu rfl aq cf aj ?_;intro b14 w hs
    refine .go ?_
    refine .E 6 hs ?_
    refine .store hs rfl rfl aE ?_;intro w hs
    refine .go ?_
    refine .E 7 hs ?_
    refine .store hs rfl rfl po ?_;intro w hs
    refine .go ?_
    refine .D hs ?_
    exact nT ⟨b11,b14,cC,hs.sb⟩
   ·refine .store hs rfl rfl aE ?_;intro w hs
    refine .go ?_
    refine .E 5 hs ?_
    refine .yg (N+1) hs rfl rfl an tu rfl aq cf aj ?_;intro b14 w hs
    refine .go ?_
    refine .E 7 hs ?_
    refine .store hs rfl rfl po ?_;intro w hs
    refine .go ?_
    refine .D hs ?_
    exact nT ⟨b11,b14,cC,hs.sb⟩
  ·refine .yg (N+1) hs rfl rfl an tu rfl aq cf aj ?_;intro b14 w hs
   refine .go ?_
   refine .E 2 hs ?_
   refine .o7 (N+1) hs rfl rfl ad dB rfl ae aR aj ?_;intro b11 w hs
   refine .go ?_
   refine .E 6 hs ?_
   refine .store hs rfl rfl aE ?_;intro w hs
   refine .go ?_
   refine .E 7 hs ?_
   refine .store hs rfl rfl po ?_;intro w hs
   refine .go ?_
   refine .D hs ?_
   exact nT ⟨b11,b14,cC,hs.sb⟩
 ·rintro s w ⟨bc,bb,hfs,hs⟩
  refine WE.sub ?_ hfs
  refine .seq (.ai (.y hs (zld cZ) (.z (df an) (.z zm (.nil ?_)))))
  refine .for (N:=N+1) (J:=fun k fr w=>fr=[(1,.func (.func gf) #[] cap.toArray),(0,I N),(4,.pointer (some ⟨b4,0,none⟩)),(5,.pointer (some ⟨b5,0,none⟩)),(6,.pointer (some ⟨b6,0,none⟩))]∧St H w (.blk b4 [.slice (some ⟨bc,0,none⟩) (N+1) (N+1)]:: .blk b5 [.slice (some ⟨bb,0,none⟩) (N+1) (N+1)]:: .blk b6 [.pointer none]:: .blk bc (Is (List.replicate (N+1) 0)):: .blk bb (eT (sZ (N+1) k))::σ)) aj ?_ ?_ ?_
  ·exact .mk ⟨rfl,hs⟩
  ·rintro k fr w hk ⟨rfl,hs⟩
   have hkl:k<(sZ (N+1) k).length:=by rw [sY aj];exact hk
   refine .block (.ai (.z zm (.z zg (.nil (.region (.y hs (zld cZ) (.z zm ?_)))))))
   first|(refine .ixw hs an aq ?_;intro b22 o22 hc22)|refine .z (uW an aq) ?_
   refine .z (zfa bT) ?_
   refine .o (.store hs rfl rfl ae ?_ c9 (uc hkl aj) ((su hkl _).trans (congrArg eT (ye hk))));intro w hs
   refine .nil ?_
   refine nB (nT ?_)
   exact .mk ⟨rfl,hs⟩
  ·rintro fr w ⟨rfl,hs⟩
   refine nT ?_
   refine .seq (.ai (.z zm (.z cR (.z zm (.nil ?_)))))
   refine .forD (N:=N+2) (J:=fun r ds fr w=>fr=[(1,.func (.func gf) #[] cap.toArray),(0,I N),(4,.pointer (some ⟨b4,0,none⟩)),(5,.pointer (some ⟨b5,0,none⟩)),(6,.pointer (some ⟨b6,0,none⟩))]∧∃Ds H1 s vo,ds=marks Ds∧HLe H H1∧oX (N+1) ar r 0 none s∧(r=0∨∃x,OvR H1 vo (some x)∧oX (N+1) ar (r - 1) ar.length (some x) s)∧St H1 w (.blk b4 [.slice (some ⟨bc,0,none⟩) (N+1) (N+1)]:: .blk b5 [.slice (some ⟨bb,0,none⟩) (N+1) (N+1)]:: .blk b6 [vo]:: .blk bc (Is s.cost):: .blk bb (eT s.by_)::(mes Ds++σ))) aj ?_ ?_ ?_
   ·exact .mk (ds:=[]) ⟨rfl,[],H,⟨List.replicate (N+1) 0,List.replicate (N+1) ⟨0,0,0,-1⟩⟩,_,rfl,HLe.refl _,oX.init aj,.inl rfl,by rw [wh] at hs;exact hs⟩
   ·rintro r ds fr w hr ⟨rfl,Ds,H1,s,vo,rfl,hle1,hN0,-,hs⟩
    refine .block (.ai ?_)
    refine .o (.store hs rfl rfl Tryz.sizeOf183 fun w hs=>?_)
    refine .nil (.seq (.ai (.z zm (.nil (.block ?_)))))
    refine .rangeFunc (gf:=gf) (cap:=cap) (xs:=ar.map fun x=>[.agg x.v.toArray]) (σb:=[.blk b4 [.slice (some ⟨bc,0,none⟩) (N+1) (N+1)],.blk b5 [.slice (some ⟨bb,0,none⟩) (N+1) (N+1)],.blk b6 [.pointer none],.blk bc (Is s.cost),.blk bb (eT s.by_)]) (σf:=mes Ds++σ) hs trivial rfl (hit.mono hle1) hc cN rfl
     (I:=fun k H' σb=>∃s ov vo,σb=[.blk b4 [.slice (some ⟨bc,0,none⟩) (N+1) (N+1)],.blk b5 [.slice (some ⟨bb,0,none⟩) (N+1) (N+1)],.blk b6 [vo],.blk bc (Is s.cost),.blk bb (eT s.by_)]∧OvR H' vo ov∧oX (N+1) ar r k ov s) (Ix:=fun _ _ _=>False) (by rintro k _ _ σ g1 ⟨s,ov,vo,g2,g3,g4⟩;exact ⟨s,ov,vo,g2,g3.mono g1,g4⟩) (fun _ _ _ _ _ h=>h)
     ⟨s,none,_,rfl,rfl,hN0⟩ ?_ ?_ (fun D c H' σb w _ h _=>h.elim)
    ·rintro l k hk H2 σb2 σf2 w hle2 ⟨s,ov,vo,rfl,hov,hN⟩ hs ⟨rr,hrr⟩
     obtain ⟨x,hx⟩:=nth (l:=ar) (by simpa using hk)
     obtain ⟨c1,c2,c3,c4,c5,c6⟩:=hok.2 x (List.mem_of_getElem? hx)
     have hxk:(ar.map fun x=>[Value.agg x.v.toArray])[k]=[.agg x.v.toArray]:=by rw [List.getElem_map];rw [List.getElem?_eq_some_iff] at hx;obtain ⟨h1,h2⟩:=hx;rw [h2]
     rw [hxk]
     have hkl:k<ar.length:=by simpa using hk
     have hal:=hok.1
     have hlc:=hN.lc
     have hlb:=hN.lb
     have lo1:=hN.lo x.f c1
     have hi1:=hN.hi x.f c1
     refine .region ?_
     refine .o (.alloc hs cf rfl fun b8 w hs=>?_)
     refine .o (.aP (vs:=x.v) hs rfl rfl aq fun w hs=>?_)
     refine .nil ?_
     refine nT ?_
     refine ⟨H2,[.blk b8 x.v,.blk b4 [.slice (some ⟨bc,0,none⟩) (N+1) (N+1)],.blk b5 [.slice (some ⟨bb,0,none⟩) (N+1) (N+1)],.blk b6 [vo],.blk bc (Is s.cost),.blk bb (eT s.by_)],HLe.refl _,hs,?_⟩;rintro w σf2 - hs
     refine .block ?_
     refine .seq (.draw mix rfl hs fun w hs=>?_)
     refine .y 0 rfl hs ak ?_;refine .z 1 rfl (zfa bC) ?_;refine .y 2 rfl hs af ?_
     first|(refine .ixv 3 rfl hs ad ae ?_;intro b34 o34 hc34)|refine .z 3 rfl (zix ad ae) ?_
     refine .y 4 rfl hs af ?_;refine .z 5 rfl (zfa cV) ?_;refine .y 6 rfl hs af ?_;refine .z 7 rfl cR ?_;refine .y 8 rfl hs ak ?_;refine .z 9 rfl (zfa bG) ?_;refine .y 10 rfl hs af ?_
     first|(refine .ixv 11 rfl hs ad ae ?_;intro b42 o42 hc42)|refine .z 11 rfl (zix ad ae) ?_
     refine .y 12 rfl hs af ?_;refine .z 13 rfl kX ?_;refine .D hs ?_
     refine (.cW rfl (fun hc44=>?_) (fun hc44=>?_))
     ·refine .seq (.draw mix rfl hs fun w hs=>?_)
      refine .y 0 rfl hs ak ?_;refine .z 1 rfl (zfa bG) ?_;refine .y 2 rfl hs af ?_;refine .y 3 rfl hs cZ ?_;refine .z 4 rfl (zfa bG) ?_;refine .y 5 rfl hs af ?_;refine .y 6 rfl hs ak ?_;refine .z 7 rfl (zfa bC) ?_;refine .y 8 rfl hs af ?_
      first|(refine .ixv 9 rfl hs ad ae ?_;intro b54 o54 hc54)|refine .z 9 rfl (zix ad ae) ?_
      refine .y 10 rfl hs af ?_;refine .z 11 rfl (zfa cV) ?_;refine .y 12 rfl hs af ?_;refine .z 13 rfl cR ?_
      refine .uH (i:=14) (vs:=x.v) hs rfl ay .none rfl dW aq ?_
      first|(refine .ixv 15 rfl hs ad ae ?_;intro b60 o60 hc60)|refine .z 15 rfl (zix ad ae) ?_
      refine .E 16 hs ?_
      refine .store hs rfl rfl ae ?_;intro w hs
      refine .go ?_
      first|(refine .ixw 17 rfl hs an aq ?_;intro b61 o61 hc61)|refine .z 17 rfl (uW an aq) ?_
      refine .E 18 hs ?_
      refine .aP (vs:=x.v) hs rfl rfl aq ?_;intro w hs
      refine .go ?_
      refine .D hs ?_
      refine .region ?_
      refine .o (.store hs rfl rfl Tryz.sizeOf183 fun w hs=>?_)
      refine .nil ?_
      refine nB ?_
      obtain ⟨H3,g1,g2,hs⟩:=hs.bK .here
      exact ⟨H3,_,g1,hs,s.rlx x,some x,_,rfl,⟨b8,rfl,g2⟩,hN.ru hok hx hc44⟩
     ·refine .skip ?_
      refine nB ?_
      exact ⟨H2,_,HLe.refl _,hs.tail,s,ov,vo,rfl,hov,hN.skip hok hx (by unfold BS.can;omega)⟩
    ·rintro D H2 σb2 w hle2 ⟨s,ov,vo,rfl,hov,hN⟩ hs
     obtain ⟨a',rfl,ha'⟩:=hov.ptr
     replace hs:St H2 w (.blk b4 [.slice (some ⟨bc,0,none⟩) (N+1) (N+1)]:: .blk b5 [.slice (some ⟨bb,0,none⟩) (N+1) (N+1)]:: .blk b6 [.pointer a']:: .blk bc (Is s.cost):: .blk bb (eT s.by_)::(mes (D::Ds)++σ)):=St.deep (σ1:=[_,_,_,_,_]) hs
     have hN:oX (N+1) ar r ar.length ov s:=by simpa using hN
     refine nB (nT ?_)
     refine .ai (.y hs (zld Tryz.isAgg183) ?_)
     refine .q hs (vV rfl rfl Tryz.runUnderlying183) ?_
     refine .nil ?_
     refine (.cond rfl (fun hc63=>?_) (fun hc63=>?_))
     ·refine .seq (.draw mix rfl hs fun w hs=>?_)
      refine .y 0 rfl hs ak ?_;refine .y 1 rfl hs cZ ?_
      refine .E 2 hs ?_
      refine .store hs rfl rfl aE ?_;intro w hs
      refine .go ?_
      refine .E 3 hs ?_
      refine .store hs rfl rfl po ?_;intro w hs
      refine .go ?_
      refine .E 4 hs ?_
      refine .store hs rfl rfl Tryz.sizeOf183 ?_;intro w hs
      refine .go ?_
      refine .D hs ?_
      refine .ret (rB (rT (rB (rT (?_)))))
      obtain ⟨rfl,rfl⟩:=OvR.no ha' hc63
      refine Fin.gR (D::Ds) [_,_,_,_,_] hs fun w hs=>⟨_,results3 Tryz.results126 (uz hs rfl ak) (uz hs rfl cZ) (uz hs rfl Tryz.isAgg183),H2,bc,bb,s,none,_,hle1.trans hle2,rfl,hov,⟨r,hN,fun h=>(h rfl).elim⟩,hs.sb⟩
     ·refine .skip ?_
      refine nB (nT ?_)
      obtain ⟨x,rfl⟩:=OvR.yes ha' hc63
      exact .mk (ds:=marks (D::Ds)) ⟨rfl,D::Ds,H2,s,_,rfl,hle1.trans hle2,hN.next hok,.inr ⟨x,hov,hN⟩,hs⟩
   ·rintro ds fr w ⟨rfl,Ds,H1,s,vo,rfl,hle1,hN0,hor,hs⟩
    obtain ⟨x,hov,hN⟩:∃x,OvR H1 vo (some x)∧oX (N+1) ar (N+2 - 1) ar.length (some x) s:=hor.resolve_left aj
    obtain ⟨b3,rfl,hrow⟩:=hov
    refine nT ?_
    refine .seq (.draw mix rfl hs fun w hs=>?_)
    refine .y 0 rfl hs ak ?_;refine .y 1 rfl hs cZ ?_;refine .y 2 rfl hs Tryz.isAgg183 ?_
    refine .E 3 hs ?_
    refine .store hs rfl rfl aE ?_;intro w hs
    refine .go ?_
    refine .E 4 hs ?_
    refine .store hs rfl rfl po ?_;intro w hs
    refine .go ?_
    refine .E 5 hs ?_
    refine .store hs rfl rfl Tryz.sizeOf183 ?_;intro w hs
    refine .go ?_
    refine .D hs ?_
    refine .ret ?_
    refine Fin.gR Ds [_,_,_,_,_] hs fun w hs=>⟨_,results3 Tryz.results126 (uz hs rfl ak) (uz hs rfl cZ) (uz hs rfl Tryz.isAgg183),H1,bc,bb,s,some x,_,hle1,rfl,⟨b3,rfl,hrow⟩,⟨N+1,hN,fun _=>rfl⟩,hs.sb⟩
theorem eR{v:Value}{s:aQ}(hs:St H w σ)(hok:s.Ok)(hr:RSy H v s):
  Cl Tryz.prog 133 [v] w fun v w'=>∃H1 b,HLe H H1∧v= .bool b∧(b=true↔s.Sound)∧St H1 w' σ:=by
 obtain ⟨u,rfl,hr⟩:=hr
 obtain ⟨N,hN⟩:=Int.eq_ofNat_of_zero_le hok.m0
 have hN1:=hok.m1
 have hn:s.n=N+1:=by simp [aQ.n,hN]
 have hoka:=hok.bD
 rw [hn] at hoka
 rw [hN]
 refine Cl.o Tryz.func133 Tryz.ntmps133 ag1 ?_
 refine .ai ?_
 refine .bx hs fun b1 w hs=>?_
 refine .z zg (.nil ?_)
 refine .seq (.draw mix rfl hs fun w hs=>?_)
 refine .z 0 rfl (zfa aZ) ?_;refine .y 1 rfl hs af ?_;refine .ys 2 rfl hs [_,_] aV aA ?_
 refine .E 3 hs ?_
 refine .call Tryz.call127 rfl (fE (s:=s) hs hok ⟨u,by rw [hN],hr⟩) ?_;rintro _ w ⟨H1,b10,hle1,rfl,hit,hs⟩
 refine .go ?_
 refine .E 4 hs ?_
 refine .call Tryz.call126 rfl (gK hs aj hoka hit Tryz.call203) ?_;rintro _ w ⟨H2,bc,bb,st,ov,vo,hle2,rfl,hov,hnr,hs⟩
 obtain ⟨a',rfl,ha'⟩:=hov.ptr
 refine .go ?_
 refine .z 5 rfl zm ?_;refine .z 6 rfl zex ?_;refine .z 7 rfl zex ?_;refine .z 8 rfl zex ?_;refine .z 9 rfl zg ?_;refine .z 10 rfl zg ?_;refine .z 11 rfl zg ?_;refine .D hs ?_
 refine .ai (.z zm ?_)
 refine .q hs (vV rfl rfl Tryz.runUnderlying183) ?_
 refine .z zg (.nil ?_)
 refine .ret (Fin.bF Tryz.results133 rfl ?_)
 refine ⟨H2,_,hle1.trans hle2,rfl,?_,hs.out⟩
 obtain ⟨r,hN2,hr2⟩:=hnr
 cases ov with
 |none=>
  rw [ha']
  exact ⟨fun _=>⟨_,(hN2.sol hoka aj).1⟩,fun _=>rfl⟩
 |some x=>
  rw [ha']
  exact ⟨fun h=>(by cases h),fun h=>(hN2.none hoka aj (by have:=hr2 cN;omega) h).elim⟩
theorem kC{c:Int}(hs:St H w σ)(hc:0≤c∧c<4294967296):Cl Tryz.prog 299 [.int .u64 1,.int .u64 c] w fun v w'=>v= .tuple #[.int .u64 0,.int .u64 c]∧St H w' σ:=by
 refine Cl.o Tryz.func299 Tryz.ntmps299 ag2 ?_
 refine .ai (.z zg (.z zg (.nil (.ai (.z zm ?_)))))
 first|refine .q hs (zI rfl rfl ⟨aj,aj⟩) ?_|refine .q hs (tE rfl rfl) ?_
 refine .z zg (.nil (.ai (.z zm ?_)))
 first|refine .q hs (rD rfl rfl ⟨aj,aj⟩) ?_|refine .q hs (uA rfl rfl ed) ?_
 refine .z zg (.nil (.ai (.z zm ?_)))
 first|refine .q hs (zI rfl rfl ⟨aj,aj⟩) ?_|refine .q hs (tE rfl rfl) ?_
 refine .z zg (.nil (.ai (.z zm ?_)))
 first|refine .q hs (rD rfl rfl ⟨aj,aj⟩) ?_|refine .q hs (uA rfl rfl ed) ?_
 refine .z zg (.nil (.ai (.z zm (.z zm (.z iq (.z zg (.nil (.ai (.z zm ?_)))))))))
 refine .z zm (.z iq (.z zm ?_))
 first|refine .q hs (rD rfl rfl ⟨aj,aj⟩) ?_|refine .q hs (uA rfl rfl ed) ?_
 refine .z cR (.z zg (.nil (.ai (.z zm ?_))))
 first|refine .q hs (zI rfl rfl ⟨aj,aj⟩) ?_|refine .q hs (tE rfl rfl) ?_
 refine .z zg (.nil (.ai (.z zm ?_)))
 first|refine .q hs (rD rfl rfl ⟨aj,aj⟩) ?_|refine .q hs (uA rfl rfl ed) ?_
 refine .z zg (.nil (.ai (.z zm (.z zm (.z zm (.z iq (.z cR (.z zg (.nil ?_)))))))))
 refine .ai (.z zm (.z zm (.z iq (.z zm (.z cR (.z zm ?_))))))
 first|refine .q hs (rD rfl rfl ⟨aj,aj⟩) ?_|refine .q hs (uA rfl rfl ed) ?_
 refine .z cR (.z zg (.nil (.ai (.z zm (.z zm (.z iq (.z zg (.nil ?_))))))))
 refine .ret (Fin.q5 Tryz.results299 rfl rfl ?_)
 exact ⟨cN,hs⟩
theorem mE{c:Int}(hs:St H w σ)(hc:0≤c∧c<4294967296):Cl Tryz.prog 297 [.int .u64 1,.int .u64 c] w fun v w'=>v= .tuple #[.int .u64 0,.int .u64 c]∧St H w' σ:=by
 refine Cl.o Tryz.func297 Tryz.ntmps297 ag2 ?_
 refine .ai (.z zg (.z zg (.nil ?_)))
 refine .seq (.cF ?_)
 refine .skip ?_
 refine nT ?_
 refine .ai (.z zm (.z zm ?_))
 refine .o (.call Tryz.call299 rfl (kC hs hc) ?_);rintro _ w ⟨rfl,hs⟩
 refine .z zm (.z zex (.z zex (.z zg (.z zg (.nil (.ai (.z zm (.z zm (.z zg ?_)))))))))
 refine .z zg (.nil ?_)
 refine .ret (Fin.q5 Tryz.results297 rfl rfl ?_)
 exact ⟨rfl,hs⟩
theorem wC{c k:Nat}{z:Int}:let n:=min k (c - k);(List.replicate k z++List.replicate (c - k) 0).take k++List.replicate n z++(List.replicate k z++List.replicate (c - k) 0).drop (k+n)=List.replicate (k+n) z++List.replicate (c - (k+n)) (0:Int):=by
 intro n
 have hn:n≤c - k:=Nat.min_le_right _ _
 have e0:(List.replicate k z).length=k:=by simp
 rw [List.take_left' e0]
 have e1:(List.replicate k z++List.replicate (c - k) 0).drop (k+n)=List.replicate (c - (k+n)) (0:Int):=by
  rw [show k+n=(List.replicate k z).length+n by simp,List.drop_append]
  simp
  omega
 rw [e1,List.replicate_append_replicate]
theorem mr{z:Int}{bx c:Nat}(hs:St H w σ)(hm:Mem σ (.blk bx (Is [z])))(h1:1≤c)(h2:c≤1000000):Cl Tryz.prog 288 [.slice (some ⟨bx,0,none⟩) 1 1,I c] w fun v w'=>∃b,v= .slice (some ⟨b,0,none⟩) c c∧St H w' (.blk b (Is (List.replicate c z))::σ):=by
 refine Cl.o Tryz.func288 Tryz.ntmps288 ag2 ?_
 refine .ai (.z zg (.nil (.seq (.ai (.z zm (.z kX (.nil ?_)))))))
 refine (.cW rfl (fun hc10=>?_) (fun hc10=>?_))
 ·omega
 ·refine .skip ?_
  refine nT ?_
  refine .ai (.z zm (.z (df ad) ?_))
  first|refine .q hs (sR rfl aC cA ⟨aj,aj⟩) ?_|refine .q hs (sQ rfl aC cA ⟨aj,aj⟩) ?_|refine .q hs (rE rfl aC cA) ?_
  refine .z zm ?_
  first|refine .q hs (sR rfl aC cA ⟨aj,aj⟩) ?_|refine .q hs (sQ rfl aC cA ⟨aj,aj⟩) ?_|refine .q hs (rE rfl aC cA) ?_
  refine .o (.call Tryz.call297 rfl (mE (c:=c) hs aj) ?_);rintro _ w ⟨rfl,hs⟩
  refine .z zm (.z zex (.z zex (.z zg (.z zg (.nil (.seq (.ai (.z zm (.z qZ ?_)))))))))
  refine .z zm ?_
  refine .mM (t':=23) rfl (fun hb23=>?_) (fun hb23=>?_)
  ·refine .gFs 2 2 false rfl rfl rfl ?_
   refine .z zpT (.nil ?_)
   refine (.cT ?_)
   first|omega|(simp at hc26;omega)
  ·refine .gT rfl rfl ?_
   refine .z zm ?_
   refine .gT rfl rfl ?_
   refine .z qZ (.z zpF (.nil ?_))
   refine (.cW rfl (fun hc26=>?_) (fun hc26=>?_))
   ·first|omega|(simp at hc26;omega)
   ·refine .skip ?_
    refine nT ?_
    refine .ai (.z zm ?_)
    first|refine .q hs (sR rfl cA aC ⟨aj,aj⟩) ?_|refine .q hs (sQ rfl cA aC ⟨aj,aj⟩) ?_|refine .q hs (rE rfl cA aC) ?_
    refine .o (.o7 c hs rfl rfl ad dB rfl ae aR aj fun b30 w hs=>?_)
    refine .z zg (.nil (.ai (.z zm (.z zm ?_))))
    refine .o (.Bq (k:=1) (xs:=List.replicate c 0) (zs:=[z]) hs rfl rfl ⟨_,_,rfl⟩ ad ae aj rfl (rY (xs:=[z]) (.there hm) rfl rfl) (by simp;omega) ?_);intro w hs
    refine .z zg (.nil (.seq (.block ?_)))
    refine .loop (fun k:Nat=>⟨48,[],[(8,I k),(7,.slice (some ⟨b30,0,none⟩) c c)]⟩) (fun k w=>(1≤k∧k≤c)∧St H w (.blk b30 (Is (List.replicate k z++List.replicate (c - k) 0))::σ)) (fun k=>c - k) 1 cC ⟨⟨aj,aj⟩,by
      have e:List.take 0 (List.replicate c (0:Int))++[z]++List.drop (0+1) (List.replicate c 0)=List.replicate 1 z++List.replicate (c - 1) 0:=by simp
      rw [e] at hs;exact hs⟩ ?_
    rintro k w ⟨⟨k1,k2⟩,hs⟩
    refine .seq (.ai (.z zm (.z zm (.z (df ad) (.z kX (.nil ?_))))))
    refine (.cW rfl (fun hc37=>?_) (fun hc37=>?_))
    ·refine .skip ?_
     refine nT ?_
     refine .block ?_
     refine .draw mix rfl hs fun w hs=>?_
     refine .z 0 rfl zm ?_;refine .z 1 rfl zm ?_;refine .z 2 rfl zm ?_
     refine .z 3 rfl (rC (k:=k) rfl rfl ad ae aj aj) ?_
     refine .z 4 rfl zm ?_;refine .z 5 rfl zm ?_
     refine .z 6 rfl (oe (k:=k) rfl rfl ad ae aj) ?_
     refine .E 7 hs ?_
     refine .Bq (k:=min k (c - k)) (xs:=List.replicate k z++List.replicate (c - k) 0) (zs:=List.replicate (min k (c - k)) z) hs rfl rfl ⟨_,_,rfl⟩ ad ae rfl cN (rY (xs:=List.replicate k z++List.replicate (c - k) 0) .here (by rw [List.drop_zero,List.take_append_of_le_length (by simp;omega)];simp) cN) (by simp;omega) ?_;intro w hs
     refine .go ?_
     refine .z 8 rfl cR ?_;refine .z 9 rfl zg ?_;refine .D hs ?_
     refine nB (nT ?_)
     exact ⟨k+min k (c - k),cC,⟨⟨aj,aj⟩,by
       have e:=wC (z:=z) (c:=c) (k:=k)
       simp only [Nat.mul_one,Nat.zero_add] at hs
       rw [e] at hs;exact hs⟩,aj⟩
    ·refine .exit ?_
     refine xT (xT (xB (nT ?_)))
     refine .ai (.z zm (.z zg (.nil ?_)))
     refine .ret (Fin.bF Tryz.results288 rfl ?_)
     obtain rfl:k=c:=by omega
     exact ⟨b30,rfl,by simpa using hs⟩
theorem mu{v:Value}{xs:List Int}(hs:St H w σ)(hr:RI H v xs)(hx:xs.length≤17592186044416):Cl Tryz.prog 197 [v] w fun u w'=>∃en,(A7 v=true→A7 u=true)∧bX 1 u (Is xs) en∧St H w' (en::σ):=by
 obtain ⟨a,c,rfl⟩:=RI.shape hr
 have hl:=(RI.len hr).2.2
 refine Cl.o Tryz.func197 Tryz.ntmps197 ag1 ?_
 refine .ai (.z zg (.nil (.seq (.ai (.z zm ?_)))))
 refine .q hs (A2 rfl rfl ad) ?_
 refine .nil ?_
 refine (.cond rfl (fun hc4=>?_) (fun hc4=>?_))
 ·refine .ai (.z zg (.nil ?_))
  refine .ret (rT (Fin.bF Tryz.results197 rfl ?_))
  obtain rfl:a=none:=by simpa using hc4
  obtain rfl:=hr.Ce
  exact ⟨.nul,fun h=>h,.nil 1 none,hs.nul⟩
 ·refine .skip ?_
  refine nT ?_
  refine .ai ?_
  refine .o (.buildSlice (cells:=[]) hs sd rfl rfl fun b5 w hs=>?_)
  refine .z zm ?_
  refine .o (.wP (xs:=[]) (ys:=Is xs) hs cy rfl rfl (.full rfl) (.ints hr) (by simp [Value.oneCell']) (fun l h=>by simp at h;omega) ?_);intro v7 en7 w hnn hO hs
  refine .z zg (.nil ?_)
  refine .ret (Fin.bF Tryz.results197 rfl ?_)
  exact ⟨en7,fun _=>hnn rfl,hO,hs⟩
theorem iG{v:Value}{xs:List Int}(hs:St H w σ)(hr:RI H v xs)(hx:xs.length≤17592186044416):Cl Tryz.prog 197 [v] w fun v w'=>∃en,bX 1 v (Is xs) en∧St H w' (en::σ):=
 (mu hs hr hx).mono fun _ _ ⟨en,_,h⟩=>⟨en,h⟩
theorem kl{v:Value}{l:List Arc}{en:Ent}(hs:St H w (en::σ))(ho:bX 4 v (eT l) en)(hl:l.length≤1000000):
  Cl Tryz.prog 289 [v] w fun _ w'=>∃en',bX 4 v (eT l.reverse) en'∧St H w' (en'::σ):=by
 rcases ho with ⟨a,rfl,h2,rfl⟩|⟨b,len,cap,sp,rfl,rfl,h2,h3,h4⟩
 ·obtain rfl:l=[]:=by
   have:=congrArg List.length h2
   rw [bS] at this
   exact List.length_eq_zero_iff.1 (by simp at this;omega)
  have hs:=hs.tail
  refine Cl.o Tryz.func289 Tryz.ntmps289 ag1 ?_
  refine .ai (.z zm (.z (df an) (.z iR (.z zg (.z zg (.nil (.block ?_)))))))
  refine .loop (fun _:Unit=>⟨28,[],[(2,I 0),(3,I (-1))]⟩) (fun _ w=>St H w σ) (fun _=>0) () cC hs ?_
  rintro _ w hs
  refine .seq (.ai (.z zm (.z zm (.z kX (.nil ?_)))))
  refine (.cW rfl (fun hc9=>?_) (fun hc9=>?_))
  ·omega
  ·refine .exit ?_
   refine xT (xT (xB ?_))
   exact Fin.sy Tryz.results289 ⟨.nul,.nil 4 a,hs.nul⟩
 obtain rfl:len=l.length:=by rw [bS] at h2;omega
 refine Cl.o Tryz.func289 Tryz.ntmps289 ag1 ?_
 refine .ai (.z zm (.z (df an) (.z iR (.z zg (.z zg (.nil (.block ?_)))))))
 refine .loop (fun p:Nat×List Arc=>⟨28,[],[(2,I p.1),(3,I ((l.length:Int) - 1 - p.1)),(0,.slice (some ⟨b,0,none⟩) l.length cap)]⟩) (fun p w=>(2*p.1≤l.length+1∧m6 l p.2 p.1)∧St H w (.blk b (eT p.2++sp)::σ)) (fun p=>l.length - p.1) (0,l) (.cons rfl (.eU rfl cN (.cons rfl (.nil rfl rfl)))) ⟨⟨cN,.start l⟩,hs⟩ ?_
 rintro ⟨i,L⟩ w ⟨⟨h5,h6⟩,hs⟩
 dsimp only at h5 h6 hs ⊢
 have hL:=h6.1
 refine .seq (.ai (.z zm (.z zm (.z kX (.nil ?_)))))
 refine (.cW rfl (fun hc9=>?_) (fun hc9=>?_))
 ·refine .skip ?_
  refine nT ?_
  refine .seq (.block ?_)
  refine .draw mix rfl hs fun w hs=>?_
  refine .z 0 rfl zm ?_;refine .z 1 rfl zm ?_;refine .z 2 rfl zm ?_;refine .z 3 rfl zm ?_;refine .z 4 rfl zm ?_;refine .z 5 rfl zm ?_
  refine .z 6 rfl (pI (k:=l.length - 1 - i) rfl rfl an aq aj aj) ?_
  refine .uH (i:=7) (vs:=(ga L (l.length - 1 - i)).v) hs rfl ay .none rfl dW aq ?_ (hv:=oP aj sp)
  refine .z 8 rfl zm ?_;refine .z 9 rfl zm ?_
  first|(refine .ixw 10 rfl hs an aq ?_;intro b24 o24 hc24)|refine .z 10 rfl (uW an aq) ?_
  refine .uH (i:=11) (vs:=(ga L i).v) hs rfl ay .none rfl dW aq ?_ (hv:=oP aj sp)
  first|(refine .ixw 12 rfl hs an aq ?_;intro b26 o26 hc26)|refine .z 12 rfl (uW an aq) ?_
  refine .E 13 hs ?_
  refine .aP (vs:=(ga L (l.length - 1 - i)).v) hs rfl rfl aq ?_ c9 (oG aj sp) (mQ aj _ sp);intro w hs
  refine .go ?_
  refine .z 14 rfl (pI (k:=l.length - 1 - i) rfl rfl an aq aj aj) ?_
  refine .E 15 hs ?_
  refine .aP (vs:=(ga L i).v) hs rfl rfl aq ?_ c9 (oG (by simp;omega) sp) (mQ (by simp;omega) _ sp);intro w hs
  refine .go ?_
  refine .D hs ?_
  refine nB (nT ?_)
  refine .region (.z zm (.z cR (.z zm (.z iR (.z zg (.z zg (.nil ?_)))))))
  refine nT ?_
  exact ⟨(i+1,_),.cons rfl (.eU rfl (by push_cast;omega) (.cons rfl (.nil rfl rfl))),⟨⟨by dsimp only;omega,h6.step aj⟩,hs⟩,by dsimp only;omega⟩
 ·refine .exit ?_
  refine xT (xT (xB ?_))
  rw [h6.done aj] at hs
  exact Fin.sy Tryz.results289 ⟨_,.inr ⟨b,l.length,cap,sp,rfl,rfl,by rw [bS];simp,by rw [←h3];simp [bS],h4⟩,hs⟩
theorem ja{H:a8}{b1 bf bt bl cl:Nat}{s:aQ}{ts lf:List Int}{vl:Value}{sp:List Value}(hok:s.Ok)(hb:Row H b1 [.pointer (some ⟨bf,0,none⟩)])(hF:pn H bf s ts lf vl bt bl cl sp)(hlt:ts.length=s.bn.length):
  ItA Tryz.prog 270 [.pointer (some ⟨b1,0,none⟩)] H (bR s.bD ts):=by
 intro l II Ix hmI hmX hy H0 σb0 σf w hle hI0 hs
 have hb0:cellAt H0 b1 0=some (.pointer (some ⟨bf,0,none⟩)):=(hb.mono hle).at 0
 have hF0:=hF.mono hle
 have hsys:=hF0.f.cells 0 [I s.many,vl]
 have hlen:s.bD.length=ts.length:=by simp [aQ.bD,de,hlt]
 refine Cl.o Tryz.func270 Tryz.ntmps270 ag2 ?_
 refine .ai ?_
 refine .bx hs fun b2 w hs=>?_
 refine .nil (.ai (.y hs (zld me) (.z znc (.z (zfa du) ?_))))
 refine .q hs (dc (vs:=[I s.many,vl]) rfl aV aA hsys) ?_
 refine .o (.call Tryz.call127 rfl (fE (s:=s) hs hok ⟨vl,rfl,hF0.l⟩) ?_);rintro _ w ⟨H1,b8,hle1,rfl,hit,hs⟩
 refine .nil (.block ?_)
 refine .rangeFunc (gf:=203) (cap:=[.pointer (some ⟨b8,0,none⟩)]) (xs:=s.bD.map fun x:Arc=>[Value.agg x.v.toArray]) (σb:= .blk b2 [.func (.yield l) #[] #[]]::σb0) (σf:=σf) hs trivial rfl hit Tryz.call203 cN rfl
  (I:=fun k H' σb=>∃σo,σb= .blk b2 [.func (.yield l) #[] #[]]::σo∧HLe H0 H'∧II (tF s.bD ts k) H' σo)
  (Ix:=fun c H' σb=>c= .ret∧∃σo,σb= .blk b2 [.func (.yield l) #[] #[]]::σo∧HLe H0 H'∧Ix H' σo)
  (fun k _ _ σ g1 ⟨σo,g2,g3,g4⟩=>⟨σo,g2,g3.trans g1,hmI _ _ _ _ g1 g4⟩) (fun c _ _ σ g1 ⟨g0,σo,g2,g3,g4⟩=>⟨g0,σo,g2,g3.trans g1,hmX _ _ _ g1 g4⟩)
  ⟨σb0,rfl,hle1,by rw [vZ];exact hmI _ _ _ _ hle1 hI0⟩ ?_ ?_ ?_
 ·rintro l2 k hk H2 σb2 σf2 w hle2 ⟨σo,rfl,hle0,hIk⟩ hs ⟨rr,hrr⟩
  obtain ⟨x,hx⟩:=nth (l:=s.bD) (by simpa using hk)
  obtain ⟨c1,c2,c3,c4,c5,c6⟩:=hok.bD.2 x (List.mem_of_getElem? hx)
  have hxk:(s.bD.map fun x=>[Value.agg x.v.toArray])[k]=[.agg x.v.toArray]:=by rw [List.getElem_map];rw [List.getElem?_eq_some_iff] at hx;obtain ⟨h1,h2⟩:=hx;rw [h2]
  rw [hxk]
  have hkt:k<ts.length:=by rw [←hlen];simpa using hk
  have hxl:x.l=(k:Int):=l5 hx
  obtain ⟨r1,r2,r3⟩:=vN (ts:=ts) hx hkt
  refine .region ?_
  refine .o (.alloc hs cf rfl fun b3 w hs=>?_)
  refine .o (.aP (vs:=x.v) hs rfl rfl aq fun w hs=>?_)
  refine .nil ?_
  refine nT ?_
  refine ⟨H2,.blk b3 x.v:: .blk b2 [.func (.yield l) #[] #[]]::σo,HLe.refl _,hs,?_⟩;rintro w σf2 - hs
  refine .block (.seq (.ai ?_))
  refine .y hs (zld Tryz.isAgg245) ?_
  refine .q hs (gS (vs:=x.v) rfl dW aq) ?_
  have hyd:=hy (tF s.bD ts k) (by simpa using (List.getElem?_eq_some_iff.1 r1).1) H2 σo (.blk b3 x.v:: .blk b2 [.func (.yield l) #[] #[]]::σf2) w (hle.trans hle0) hIk (St.deep (σ1:=σo) (St.deep (σ1:= .blk b3 x.v::σo) (hs.perm (.swap _ _ _))))
  rw [wj r1] at hyd
  refine .o (.yield (vs:=[.agg x.v.toArray]) rfl rfl hyd ?_);rintro v12 w ⟨H3,σ3,hle3,hs,g3⟩
  obtain ⟨bb,rfl,gT,gF⟩:=ka g3
  replace hs:St H3 w (.blk b3 x.v:: .blk b2 [.func (.yield l) #[] #[]]::(σ3++σf2)):=(St.shallow (σ1:= .blk b3 x.v::σ3) (St.shallow (σ1:=σ3) hs)).perm (.swap _ _ _)
  refine .z jb (.nil ?_)
  refine (.cond rfl (fun hc13=>?_) (fun hc13=>?_))
  ·refine .ret (rT (rB (?_)))
   exact ⟨H3,.blk b2 [.func (.yield l) #[] #[]]::σ3,hle3,hs.tail,rfl,σ3,rfl,hle0.trans hle3,gF (by simpa using hc13)⟩
  ·refine .skip ?_
   refine nT ?_
   refine .seq (.draw mix rfl hs fun w hs=>?_)
   have hb3:cellAt H3 b1 0=some (.pointer (some ⟨bf,0,none⟩)):=cellAt.mono hb0 (hle0.trans hle3)
   have hf3:cellAt H3 bf 2=some (.slice (some ⟨bt,0,none⟩) ts.length ts.length):=((hF0.mono (hle0.trans hle3)).f).at 2
   have ht3:cellAt H3 bt k=some (I (gi ts k)):=((hF0.mono (hle0.trans hle3)).t).at k (uU hkt)
   have hI3:=gT (by simpa using hc13)
   refine .r (i:=0) hs rfl ay .none (bj rfl me hb3) ?_
   refine .z 1 rfl znc ?_;refine .z 2 rfl (zfa dZ) ?_;refine .y 3 rfl hs ak ?_;refine .z 4 rfl (zfa bT) ?_;refine .y 5 rfl hs af ?_
   refine .z 6 rfl (gh (k:=k) rfl rfl ad ae hxl hkt) ?_
   refine .r (i:=7) hs rfl ay .none (bj rfl af ht3) ?_
   refine .z 8 rfl qZ ?_;refine .z 9 rfl zm ?_
   refine .mM (t':=23) rfl (fun hb23=>?_) (fun hb23=>?_)
   ·refine .y 10 rfl hs Tryz.isAgg245 ?_
    refine .z 11 rfl (zfa bG) ?_;refine .y 12 rfl hs af ?_;refine .z 13 rfl (zfa bC) ?_;refine .y 14 rfl hs af ?_;refine .z 15 rfl (zfa cV) ?_;refine .y 16 rfl hs af ?_;refine .z 17 rfl xh ?_;refine .z 18 rfl (zfa bT) ?_;refine .y 19 rfl hs af ?_;refine .z 20 rfl (zbd [_,_,_,_] jW) ?_
    refine .E 21 hs ?_
    obtain ⟨r4,r5⟩:=r2 hb23
    have hyd:=hy (tF s.bD ts k+1) (by simpa using (List.getElem?_eq_some_iff.1 r4).1) H3 σ3 (.blk b3 x.v:: .blk b2 [.func (.yield l) #[] #[]]::σf2) w (hle.trans (hle0.trans hle3)) hI3 (St.deep (σ1:=σ3) (St.deep (σ1:= .blk b3 x.v::σ3) (hs.perm (.swap _ _ _))))
    rw [wj r4] at hyd
    refine .yield (vs:=[.agg x.back.v.toArray]) rfl rfl hyd ?_;rintro v35 w ⟨H4,σ4,hle4,hs,g4⟩
    obtain ⟨bb4,rfl,gT4,gF4⟩:=ka g4
    replace hs:St H4 w (.blk b3 x.v:: .blk b2 [.func (.yield l) #[] #[]]::(σ4++σf2)):=(St.shallow (σ1:= .blk b3 x.v::σ4) (St.shallow (σ1:=σ4) hs)).perm (.swap _ _ _)
    refine .go ?_
    refine .z 22 rfl jb ?_;refine .z 23 rfl zpT ?_;refine .D hs ?_
    refine (.cond rfl (fun hc37=>?_) (fun hc37=>?_))
    ·refine .ret (rB (?_))
     exact ⟨H4,.blk b2 [.func (.yield l) #[] #[]]::σ4,hle3.trans hle4,hs.tail,rfl,σ4,rfl,hle0.trans (hle3.trans hle4),gF4 (by simpa using hc37)⟩
    ·refine .skip ?_
     refine nB ?_
     exact ⟨H4,.blk b2 [.func (.yield l) #[] #[]]::σ4,hle3.trans hle4,hs.tail,σ4,rfl,hle0.trans (hle3.trans hle4),by rw [r5];exact gT4 (by simpa using hc37)⟩
   ·refine .qF (i:=10) rfl ay rfl rfl ?_
    refine .qF (i:=11) rfl ay rfl rfl ?_
    refine .qF (i:=12) rfl ay rfl rfl ?_
    refine .qF (i:=13) rfl ay rfl rfl ?_
    refine .qF (i:=14) rfl ay rfl rfl ?_
    refine .qF (i:=15) rfl ay rfl rfl ?_
    refine .qF (i:=16) rfl ay rfl rfl ?_
    refine .qF (i:=17) rfl ay rfl rfl ?_
    refine .qF (i:=18) rfl ay rfl rfl ?_
    refine .qF (i:=19) rfl ay rfl rfl ?_
    refine .qF (i:=20) rfl ay rfl rfl ?_
    refine .qF (i:=21) rfl ay rfl rfl ?_
    refine .qF (i:=22) rfl ay rfl rfl ?_
    refine .z 23 rfl zpF ?_;refine .D hs ?_
    refine (.cF ?_)
    refine .skip ?_
    refine nB ?_
    exact ⟨H3,.blk b2 [.func (.yield l) #[] #[]]::σ3,hle3,hs.tail,σ3,rfl,hle0.trans hle3,by rw [r3 hb23];exact hI3⟩
 ·rintro D H2 σb2 w hle2 ⟨σo,rfl,hle0,hIk⟩ hs
  refine nB ?_
  exact Fin.BO [D] [] hs.tz fun w hs=>⟨_,results0 Tryz.results270,H2,σo,hle0,hs,.inl (by simpa [xX hlen] using hIk)⟩
 ·rintro D c H2 σb2 w hle2 ⟨rfl,σo,rfl,hle0,hx⟩ hs
  exact .ret (rB (Fin.gR [D] [] hs.tz fun w hs=>⟨_,results0 Tryz.results270,H2,σo,hle0,hs,.inr hx⟩))
theorem jK{bf bt bl cl:Nat}{s:aQ}{ts lf:List Int}{vl:Value}{sp:List Value}(hs:St H w σ)(hok:s.Ok)(hF:pn H bf s ts lf vl bt bl cl sp)(hlt:ts.length=s.bn.length):
  Cl Tryz.prog 223 [.pointer (some ⟨bf,0,none⟩)] w fun v w'=>∃H1 b,HLe H H1∧v= .func (.func 270) #[] #[.pointer (some ⟨b,0,none⟩)]∧ItA Tryz.prog 270 [.pointer (some ⟨b,0,none⟩)] H1 (bR s.bD ts)∧St H1 w' σ:=by
 refine Cl.o Tryz.func223 Tryz.ntmps223 ag1 ?_
 refine .ai ?_
 refine .bx hs fun b1 w hs=>?_
 refine .z zg (.nil (.ai ?_))
 refine .q hs (bO (f:=[]) (c:=[_]) rfl rfl) ?_
 refine .z zg (.nil ?_)
 refine .ret (Fin.bF Tryz.results223 rfl ?_)
 obtain ⟨H1,g1,g2,hs⟩:=hs.bK .here
 exact ⟨H1,b1,g1,rfl,ja hok g2 (hF.mono g1) hlt,hs⟩
theorem kH{bf bt bl cl to:Nat}{s:aQ}{ts lf:List Int}{vl:Value}{sp:List Value}(hs:St H w σ)(hok:s.Ok)(hF:pn H bf s ts lf vl bt bl cl sp)(hlt:ts.length=s.bn.length)(hll:lf.length=s.n)
  (hD:∃p,c8 (bR s.bD ts) p) (hto:to<s.n) (hpos:0<gi lf to):
  Cl Tryz.prog 268 [.pointer (some ⟨bf,0,none⟩),I to] w fun v w'=>∃H1 p en,HLe H H1∧bX 4 v (eT p) en∧St H1 w' (en::σ)∧BP s.n s.bD ts lf p to:=by
 obtain ⟨N,hN⟩:=Int.eq_ofNat_of_zero_le hok.m0
 have hN1:=hok.m1
 have hn:s.n=N+1:=by simp [aQ.n,hN]
 have hoka:=hok.bD
 have hlen:s.bD.length=ts.length:=by simp [aQ.bD,de,hlt]
 rw [hn] at hoka hll hto ⊢
 obtain ⟨D,hg⟩:=tA aj aj hoka hlen hD
 have hf0:cellAt H bf 0=some (I (N:Int)):=by have:=hF.f.at 0 (v:=I s.many);rwa [hN] at this
 have hf3:cellAt H bf 3=some (.slice (some ⟨bl,0,none⟩) lf.length cl):=hF.f.at 3
 refine Cl.o Tryz.func268 Tryz.ntmps268 ag2 ?_
 refine .ai ?_
 refine .bx hs fun b2 w hs=>?_
 refine .z zg (.nil (.ai ?_))
 refine .o (.buildSlice (cells:=[_]) hs cz rfl rfl fun b13 w hs=>?_)
 refine .y hs (zld me) (.z znc (.z (zfa du) (.z (zfa aZ) (.y hs (zld af) (.z cR ?_)))))
 refine .o (.call Tryz.call288 rfl (mr (z:=far) (c:=N+1) hs .here aj aj) ?_);rintro _ w ⟨bc,rfl,hs⟩
 refine .o (.alloc hs cO rfl fun b5 w hs=>?_)
 refine .o (.store hs rfl rfl aE fun w hs=>?_)
 refine .nil (.ai (.y hs (zld me) (.z znc (.z (zfa du) (.z (zfa aZ) (.y hs (zld af) (.z cR ?_)))))))
 refine .o (.yg (N+1) hs rfl rfl an tu rfl aq cf aj fun b27 w hs=>?_)
 refine .o (.alloc hs Tryz.zeroValue182 rfl fun b6 w hs=>?_)
 refine .o (.store hs rfl rfl po fun w hs=>?_)
 refine .nil (.seq (.ai (.y hs (zld me) (.z znc (.z (zfa bU) (.y hs (zld ak) (.z (df ad) (.z zm (.nil ?_)))))))))
 refine .for (N:=lf.length) (J:=fun k fr w=>fr=[(31,.slice (some ⟨bl,0,none⟩) lf.length cl),(5,.pointer (some ⟨b5,0,none⟩)),(6,.pointer (some ⟨b6,0,none⟩)),(2,.pointer (some ⟨b2,0,none⟩)),(1,I to)]∧∃st,oJ (N+1) lf k st∧St H w (.blk b6 [.slice (some ⟨b27,0,none⟩) (N+1) (N+1)]:: .blk b27 (eT st.by_):: .blk b5 [.slice (some ⟨bc,0,none⟩) (N+1) (N+1)]:: .blk bc (Is st.cost):: .blk b2 [.pointer (some ⟨bf,0,none⟩)]::σ)) aj ?_ ?_ ?_
 ·exact .mk ⟨rfl,_,.start _ _,hs.sb⟩
 ·rintro k fr w hk ⟨rfl,st,hI,hs⟩
  have hck:cellAt H bl k=some (I (gi lf k)):=hF.d.at k (wY (bB hk) sp)
  have hlc:=hI.lc
  have hlb:=hI.lb
  have hkb:k<st.by_.length:=by omega
  refine .block (.ai (.z zm ?_))
  first|(refine .ixv hs ad ae ?_;intro b36 o36 hc36)|refine .z (zix ad ae) ?_
  refine .q hs (bj rfl af hck) ?_
  refine .z zg (.z zg (.nil (.ai (.z zm (.z kX (.nil ?_))))))
  refine (.cW rfl (fun hc39=>?_) (fun hc39=>?_))
  ·refine .ai (.y hs (zld ak) (.z zm ?_))
   first|(refine .ixv hs ad ae ?_;intro b42 o42 hc42)|refine .z (zix ad ae) ?_
   refine .o (.store hs rfl rfl ae fun w hs=>?_)
   refine .nil (.region (.y hs (zld cZ) (.z zm ?_)))
   first|(refine .ixw hs an aq ?_;intro b45 o45 hc45)|refine .z (uW an aq) ?_
   refine .z (zfa bT) ?_
   refine .o (.store hs rfl rfl ae ?_ c9 (uc hkb aj) (su hkb _));intro w hs
   refine .nil ?_
   refine nB (nT ?_)
   exact .mk ⟨rfl,_,hI.take aj hc39,hs⟩
  ·refine .skip ?_
   refine nB (nT ?_)
   exact .mk ⟨rfl,_,hI.skip hc39,hs⟩
 ·rintro fr w ⟨rfl,st0,hI0,hs⟩
  rw [hll] at hI0
  have hW0:=hI0.inv hg
  refine nT ?_
  refine .seq (.ai ?_)
  refine .o (.alloc hs Tryz.zeroValue4 rfl fun b9 w hs=>?_)
  refine .o (.store hs rfl rfl oS fun w hs=>?_)
  refine .nil (.block ?_)
  refine .loop (fun p:Nat×List Nat×a8×BS×Bool=>⟨141,marks p.2.1,[(9,.pointer (some ⟨p.1,0,none⟩)),(5,.pointer (some ⟨b5,0,none⟩)),(6,.pointer (some ⟨b6,0,none⟩)),(2,.pointer (some ⟨b2,0,none⟩)),(1,I to)]⟩)
   (fun p w=>HLe H p.2.2.1∧(∃j,nM (N+1) (bR s.bD ts) (fun v=>gi lf v<0) D j p.2.2.2.2 p.2.2.2.1∧(p.2.2.2.2=false→j=(bR s.bD ts).length))∧
    St p.2.2.1 w (.blk p.1 [.bool p.2.2.2.2]:: .blk b6 [.slice (some ⟨b27,0,none⟩) (N+1) (N+1)]:: .blk b27 (eT p.2.2.2.1.by_):: .blk b5 [.slice (some ⟨bc,0,none⟩) (N+1) (N+1)]:: .blk bc (Is p.2.2.2.1.cost):: .blk b2 [.pointer (some ⟨bf,0,none⟩)]::(mes p.2.1++σ)))
   (fun p=>2*WM (N+1) D p.2.2.2.1+(if p.2.2.2.2=true then 1 else 0)) (b9,[],H,st0,true) cC ⟨HLe.refl _,⟨0,hW0,fun h=>by cases h⟩,hs⟩ ?_
  rintro ⟨b9,Ds,H1,st,ag⟩ w ⟨hle1,⟨j,hW,hj⟩,hs⟩
  dsimp only at hle1 hW hj hs ⊢
  have hlc:=hW.lc
  have hlb:=hW.lb
  refine .seq (.ai (.y hs (zld Tryz.isAgg4) (.nil ?_)))
  refine (.cond rfl (fun hc48=>?_) (fun hc48=>?_))
  ·refine .skip ?_
   refine nT ?_
   refine .seq (.block (.ai ?_))
   subst hc48
   refine .o (.store hs rfl rfl oS fun w hs=>?_)
   refine .nil (.ai (.y hs (zld me) ?_))
   refine .o (.call Tryz.call223 rfl (jK hs hok (hF.mono hle1) hlt) ?_);rintro _ w ⟨H2,b50,hle2,rfl,hit,hs⟩
   refine .nil (.block ?_)
   refine .rangeFunc (gf:=270) (cap:=[.pointer (some ⟨b50,0,none⟩)]) (xs:=(bR s.bD ts).map fun x:Arc=>[Value.agg x.v.toArray])
    (σb:=[.blk b9 [.bool false],.blk b6 [.slice (some ⟨b27,0,none⟩) (N+1) (N+1)],.blk b27 (eT st.by_),.blk b5 [.slice (some ⟨bc,0,none⟩) (N+1) (N+1)],.blk bc (Is st.cost),.blk b2 [.pointer (some ⟨bf,0,none⟩)]]) (σf:=mes Ds++σ) hs trivial rfl hit Tryz.call270 cN rfl
    (I:=fun k H' σb=>HLe H2 H'∧∃st' ag,σb=[.blk b9 [.bool ag],.blk b6 [.slice (some ⟨b27,0,none⟩) (N+1) (N+1)],.blk b27 (eT st'.by_),.blk b5 [.slice (some ⟨bc,0,none⟩) (N+1) (N+1)],.blk bc (Is st'.cost),.blk b2 [.pointer (some ⟨bf,0,none⟩)]]∧
     nM (N+1) (bR s.bD ts) (fun v=>gi lf v<0) D k ag st'∧WM (N+1) D st'≤WM (N+1) D st∧(ag=true→WM (N+1) D st'<WM (N+1) D st)) (Ix:=fun _ _ _=>False)
    (by rintro k _ _ σ g1 ⟨g2,g3⟩;exact ⟨g2.trans g1,g3⟩) (fun _ _ _ _ _ h=>h) ⟨HLe.refl _,st,false,rfl,hW.next,Nat.le_refl _,fun h=>by cases h⟩ ?_ ?_ (fun D c H' σb w _ h _=>h.elim)
   ·rintro l k hk H3 σb3 σf3 w hle3 ⟨hle23,st',ag,rfl,hW',hm1,hm2⟩ hs ⟨rr,hrr⟩
    obtain ⟨x,hx⟩:=nth (l:=bR s.bD ts) (by simpa using hk)
    obtain ⟨c1,c2,c3,c4,c5,c6⟩:=hg.ok x (List.mem_of_getElem? hx)
    rw [wj hx]
    have hlc':=hW'.lc
    have hlb':=hW'.lb
    have lo1:=hW'.lo x.f c1
    have lo2:=hg.d1 x.f c1
    have hx3:cellAt H3 bl x.t=some (I (gi lf x.t)):=((hF.mono (hle1.trans (hle2.trans hle3))).d).at x.t (wY (bB aj) sp)
    have hf33:cellAt H3 bf 3=some (.slice (some ⟨bl,0,none⟩) lf.length cl):=cellAt.mono hf3 (hle1.trans (hle2.trans hle3))
    refine .region ?_
    refine .o (.alloc hs cf rfl fun b10 w hs=>?_)
    refine .o (.aP (vs:=x.v) hs rfl rfl aq fun w hs=>?_)
    refine .nil ?_
    refine nT ?_
    refine ⟨H3,[.blk b10 x.v,.blk b9 [.bool ag],.blk b6 [.slice (some ⟨b27,0,none⟩) (N+1) (N+1)],.blk b27 (eT st'.by_),.blk b5 [.slice (some ⟨bc,0,none⟩) (N+1) (N+1)],.blk bc (Is st'.cost),.blk b2 [.pointer (some ⟨bf,0,none⟩)]],HLe.refl _,hs,?_⟩;rintro w σf4 - hs
    refine .block ?_
    refine .seq (.draw mix rfl hs fun w hs=>?_)
    refine .y 0 rfl hs ak ?_;refine .z 1 rfl (zfa bC) ?_;refine .y 2 rfl hs af ?_
    first|(refine .ixv 3 rfl hs ad ae ?_;intro b55 o55 hc55)|refine .z 3 rfl (zix ad ae) ?_
    refine .y 4 rfl hs af ?_;refine .z 5 rfl kX ?_;refine .z 6 rfl zm ?_
    refine .mM (t':=58) rfl (fun hb58=>?_) (fun hb58=>?_)
    ·refine .y 7 rfl hs ak ?_;refine .z 8 rfl (zfa bC) ?_;refine .y 9 rfl hs af ?_
     first|(refine .ixv 10 rfl hs ad ae ?_;intro b62 o62 hc62)|refine .z 10 rfl (zix ad ae) ?_
     refine .y 11 rfl hs af ?_;refine .z 12 rfl (zfa cV) ?_;refine .y 13 rfl hs af ?_;refine .z 14 rfl cR ?_;refine .y 15 rfl hs ak ?_;refine .z 16 rfl (zfa bG) ?_;refine .y 17 rfl hs af ?_
     first|(refine .ixv 18 rfl hs ad ae ?_;intro b70 o70 hc70)|refine .z 18 rfl (zix ad ae) ?_
     refine .y 19 rfl hs af ?_;refine .z 20 rfl kX ?_;refine .z 21 rfl zpT ?_;refine .z 22 rfl zm ?_
     refine .mM (t':=74) rfl (fun hb74=>?_) (fun hb74=>?_)
     ·refine .y 23 rfl hs me ?_;refine .z 24 rfl znc ?_;refine .z 25 rfl (zfa bU) ?_;refine .y 26 rfl hs ak ?_;refine .z 27 rfl (zfa bG) ?_;refine .y 28 rfl hs af ?_
      first|(refine .ixv 29 rfl hs ad ae ?_;intro b81 o81 hc81)|refine .z 29 rfl (zix ad ae) ?_
      refine .y 30 rfl hs af ?_;refine .z 31 rfl xi ?_;refine .z 32 rfl zm ?_
      refine .mM (t':=84) rfl (fun hb84=>?_) (fun hb84=>?_)
      ·refine .qF (i:=33) rfl ay rfl rfl ?_
       refine .qF (i:=34) rfl ay rfl rfl ?_
       refine .qF (i:=35) rfl ay rfl rfl ?_
       refine .qF (i:=36) rfl ay rfl rfl ?_
       refine .qF (i:=37) rfl ay rfl rfl ?_
       refine .qF (i:=38) rfl ay rfl rfl ?_
       refine .qF (i:=39) rfl ay rfl rfl ?_
       refine .qF (i:=40) rfl ay rfl rfl ?_
       refine .qF (i:=41) rfl ay rfl rfl ?_
       refine .z 42 rfl zpT ?_;refine .z 43 rfl zpT ?_;refine .D hs ?_
       refine (.cT ?_)
       refine .draw mix rfl hs fun w hs=>?_
       refine .y 0 rfl hs ak ?_;refine .z 1 rfl (zfa bG) ?_;refine .y 2 rfl hs af ?_;refine .y 3 rfl hs cZ ?_;refine .z 4 rfl (zfa bG) ?_;refine .y 5 rfl hs af ?_;refine .y 6 rfl hs ak ?_;refine .z 7 rfl (zfa bC) ?_;refine .y 8 rfl hs af ?_
       first|(refine .ixv 9 rfl hs ad ae ?_;intro b105 o105 hc105)|refine .z 9 rfl (zix ad ae) ?_
       refine .y 10 rfl hs af ?_;refine .z 11 rfl (zfa cV) ?_;refine .y 12 rfl hs af ?_;refine .z 13 rfl cR ?_
       refine .uH (i:=14) (vs:=x.v) hs rfl ay .none rfl dW aq ?_
       first|(refine .ixv 15 rfl hs ad ae ?_;intro b111 o111 hc111)|refine .z 15 rfl (zix ad ae) ?_
       refine .E 16 hs ?_
       refine .store hs rfl rfl ae ?_;intro w hs
       refine .go ?_
       first|(refine .ixw 17 rfl hs an aq ?_;intro b112 o112 hc112)|refine .z 17 rfl (uW an aq) ?_
       refine .E 18 hs ?_
       refine .aP (vs:=x.v) hs rfl rfl aq ?_;intro w hs
       refine .go ?_
       refine .E 19 hs ?_
       refine .store hs rfl rfl oS ?_;intro w hs
       refine .go ?_
       refine .D hs ?_
       refine nB ?_
       have:=hW'.less hg hx hb58 hb74
       exact ⟨H3,_,HLe.refl _,hs.tail,hle23,st'.rlx x,true,rfl,hW'.ru hg hx hb58 hb74,aj,fun _=>by omega⟩
      ·refine .y 33 rfl hs ak ?_;refine .z 34 rfl (zfa bC) ?_;refine .y 35 rfl hs af ?_
       first|(refine .ixv 36 rfl hs ad ae ?_;intro b88 o88 hc88)|refine .z 36 rfl (zix ad ae) ?_
       refine .y 37 rfl hs af ?_;refine .z 38 rfl (zfa cV) ?_;refine .y 39 rfl hs af ?_;refine .z 40 rfl cR ?_;refine .z 41 rfl kX ?_;refine .z 42 rfl zpF ?_;refine .z 43 rfl zpT ?_;refine .D hs ?_
       refine (.cW rfl (fun hc95=>?_) (fun hc95=>?_))
       ·refine .draw mix rfl hs fun w hs=>?_
        refine .y 0 rfl hs ak ?_;refine .z 1 rfl (zfa bG) ?_;refine .y 2 rfl hs af ?_;refine .y 3 rfl hs cZ ?_;refine .z 4 rfl (zfa bG) ?_;refine .y 5 rfl hs af ?_;refine .y 6 rfl hs ak ?_;refine .z 7 rfl (zfa bC) ?_;refine .y 8 rfl hs af ?_
        first|(refine .ixv 9 rfl hs ad ae ?_;intro b105 o105 hc105)|refine .z 9 rfl (zix ad ae) ?_
        refine .y 10 rfl hs af ?_;refine .z 11 rfl (zfa cV) ?_;refine .y 12 rfl hs af ?_;refine .z 13 rfl cR ?_
        refine .uH (i:=14) (vs:=x.v) hs rfl ay .none rfl dW aq ?_
        first|(refine .ixv 15 rfl hs ad ae ?_;intro b111 o111 hc111)|refine .z 15 rfl (zix ad ae) ?_
        refine .E 16 hs ?_
        refine .store hs rfl rfl ae ?_;intro w hs
        refine .go ?_
        first|(refine .ixw 17 rfl hs an aq ?_;intro b112 o112 hc112)|refine .z 17 rfl (uW an aq) ?_
        refine .E 18 hs ?_
        refine .aP (vs:=x.v) hs rfl rfl aq ?_;intro w hs
        refine .go ?_
        refine .E 19 hs ?_
        refine .store hs rfl rfl oS ?_;intro w hs
        refine .go ?_
        refine .D hs ?_
        refine nB ?_
        have:=hW'.less hg hx hb58 hb74
        exact ⟨H3,_,HLe.refl _,hs.tail,hle23,st'.rlx x,true,rfl,hW'.ru hg hx hb58 hb74,aj,fun _=>by omega⟩
       ·refine .skip ?_
        refine nB ?_
        have:=hW'.src x.t c2 aj
        omega
     ·refine .qF (i:=23) rfl ay rfl rfl ?_
      refine .qF (i:=24) rfl ay rfl rfl ?_
      refine .qF (i:=25) rfl ay rfl rfl ?_
      refine .qF (i:=26) rfl ay rfl rfl ?_
      refine .qF (i:=27) rfl ay rfl rfl ?_
      refine .qF (i:=28) rfl ay rfl rfl ?_
      refine .qF (i:=29) rfl ay rfl rfl ?_
      refine .qF (i:=30) rfl ay rfl rfl ?_
      refine .qF (i:=31) rfl ay rfl rfl ?_
      refine .qF (i:=32) rfl ay rfl rfl ?_
      refine .qF (i:=33) rfl ay rfl rfl ?_
      refine .qF (i:=34) rfl ay rfl rfl ?_
      refine .qF (i:=35) rfl ay rfl rfl ?_
      refine .qF (i:=36) rfl ay rfl rfl ?_
      refine .qF (i:=37) rfl ay rfl rfl ?_
      refine .qF (i:=38) rfl ay rfl rfl ?_
      refine .qF (i:=39) rfl ay rfl rfl ?_
      refine .qF (i:=40) rfl ay rfl rfl ?_
      refine .qF (i:=41) rfl ay rfl rfl ?_
      refine .qF (i:=42) rfl ay rfl rfl ?_
      refine .z 43 rfl zpF ?_;refine .D hs ?_
      refine (.cF ?_)
      refine .skip ?_
      refine nB ?_
      exact ⟨H3,_,HLe.refl _,hs.tail,hle23,st',ag,rfl,hW'.skip hx (fun h=>hb74 h.2),hm1,hm2⟩
    ·refine .qF (i:=7) rfl ay rfl rfl ?_
     refine .qF (i:=8) rfl ay rfl rfl ?_
     refine .qF (i:=9) rfl ay rfl rfl ?_
     refine .qF (i:=10) rfl ay rfl rfl ?_
     refine .qF (i:=11) rfl ay rfl rfl ?_
     refine .qF (i:=12) rfl ay rfl rfl ?_
     refine .qF (i:=13) rfl ay rfl rfl ?_
     refine .qF (i:=14) rfl ay rfl rfl ?_
     refine .qF (i:=15) rfl ay rfl rfl ?_
     refine .qF (i:=16) rfl ay rfl rfl ?_
     refine .qF (i:=17) rfl ay rfl rfl ?_
     refine .qF (i:=18) rfl ay rfl rfl ?_
     refine .qF (i:=19) rfl ay rfl rfl ?_
     refine .qF (i:=20) rfl ay rfl rfl ?_
     refine .z 21 rfl zpF ?_;refine .z 22 rfl zm ?_
     refine .qF (i:=23) rfl ay rfl rfl ?_
     refine .qF (i:=24) rfl ay rfl rfl ?_
     refine .qF (i:=25) rfl ay rfl rfl ?_
     refine .qF (i:=26) rfl ay rfl rfl ?_
     refine .qF (i:=27) rfl ay rfl rfl ?_
     refine .qF (i:=28) rfl ay rfl rfl ?_
     refine .qF (i:=29) rfl ay rfl rfl ?_
     refine .qF (i:=30) rfl ay rfl rfl ?_
     refine .qF (i:=31) rfl ay rfl rfl ?_
     refine .qF (i:=32) rfl ay rfl rfl ?_
     refine .qF (i:=33) rfl ay rfl rfl ?_
     refine .qF (i:=34) rfl ay rfl rfl ?_
     refine .qF (i:=35) rfl ay rfl rfl ?_
     refine .qF (i:=36) rfl ay rfl rfl ?_
     refine .qF (i:=37) rfl ay rfl rfl ?_
     refine .qF (i:=38) rfl ay rfl rfl ?_
     refine .qF (i:=39) rfl ay rfl rfl ?_
     refine .qF (i:=40) rfl ay rfl rfl ?_
     refine .qF (i:=41) rfl ay rfl rfl ?_
     refine .qF (i:=42) rfl ay rfl rfl ?_
     refine .z 43 rfl zpF ?_;refine .D hs ?_
     refine (.cF ?_)
     refine .skip ?_
     refine nB ?_
     exact ⟨H3,_,HLe.refl _,hs.tail,hle23,st',ag,rfl,hW'.skip hx (fun h=>hb58 h.1),hm1,hm2⟩
   ·rintro D3 H3 σb3 w hle3 ⟨hle23,st',ag,rfl,hW',hm1,hm2⟩ hs
    replace hs:St H3 w (.blk b9 [.bool ag]:: .blk b6 [.slice (some ⟨b27,0,none⟩) (N+1) (N+1)]:: .blk b27 (eT st'.by_):: .blk b5 [.slice (some ⟨bc,0,none⟩) (N+1) (N+1)]:: .blk bc (Is st'.cost):: .blk b2 [.pointer (some ⟨bf,0,none⟩)]::(mes (D3::Ds)++σ)):=St.deep (σ1:=[_,_,_,_,_,_]) hs
    rw [List.length_map] at hW'
    refine nB (nB (nT ?_))
    refine .ai (.y hs (zld Tryz.isAgg4) (.nil (.region ?_)))
    refine .o (.alloc hs Tryz.zeroValue4 rfl fun b9 w hs=>?_)
    refine .o (.store hs rfl rfl oS fun w hs=>?_)
    refine .nil ?_
    refine nT ?_
    exact ⟨(b9,D3::Ds,H3,st',ag),cC,⟨hle1.trans (hle2.trans hle3),⟨_,hW',fun _=>rfl⟩,hs.sb⟩,by
      dsimp only
      cases ag with
      |false=>simp;omega
      |true=>have:=hm2 rfl;simp;omega⟩
  ·refine .exit ?_
   refine xT (xT (xB (nT ?_)))
   refine .seq (.ai ?_)
   subst hc48
   obtain rfl:=hj rfl
   refine .y hs (zld ak) (.z zm ?_)
   first|(refine .ixv hs ad ae ?_;intro b116 o116 hc116)|refine .z (zix ad ae) ?_
   refine .y hs (zld af) (.z j9 (.nil ?_))
   refine (.cW rfl (fun hc118=>?_) (fun hc118=>?_))
   ·refine .ai (.z zg (.nil ?_))
    refine .ret (rT (?_))
    refine Fin.gR Ds [_,_,_,_,_,_] hs fun w hs=>⟨_,results1 Tryz.results268 rfl,H1,[],.nul,hle1,.nil 4 none,(hs.sb).nul,hW.none hg hc118⟩
   ·refine .skip ?_
    refine nT ?_
    refine .ai (.z zg (.nil (.seq (.ai (.z zm (.z zg (.nil (.block ?_))))))))
    have hreach:gi st.cost to<far:=by have:=hW.top to hto;have e:far=1152921504606846976:=rfl;omega
    obtain ⟨kk,cc,u,hbk,hroot,hkn,hk0,hcl,hway⟩:=hW.back hg hto hreach hpos
    refine .loop (fun p:Nat×Nat×Value×Ent=>⟨141,marks Ds,[(11,p.2.2.1),(12,I p.2.1),(6,.pointer (some ⟨b6,0,none⟩))]⟩)
     (fun p w=>p.1≤kk∧(p.2.1<N+1∧gi st.cost p.2.1<far)∧bX 4 p.2.2.1 (eT (iT st.by_ to p.1)) p.2.2.2∧(∃d,dA st.by_ to p.1 d p.2.1)∧(∃d,dA st.by_ p.2.1 (kk - p.1) d u)∧
      St H1 w (p.2.2.2:: .blk b9 [.bool false]:: .blk b6 [.slice (some ⟨b27,0,none⟩) (N+1) (N+1)]:: .blk b27 (eT st.by_):: .blk b5 [.slice (some ⟨bc,0,none⟩) (N+1) (N+1)]:: .blk bc (Is st.cost):: .blk b2 [.pointer (some ⟨bf,0,none⟩)]::(mes Ds++σ)))
     (fun p=>kk - p.1) (0,to,.slice none 0 0,.nul) cC ⟨Nat.zero_le _,⟨hto,hreach⟩,.nil 4 none,⟨0,.nil⟩,⟨cc,hbk⟩,hs.nul⟩ ?_
    rintro ⟨i,v,v11,en⟩ w ⟨hik,⟨hv1,hv2⟩,hO,⟨d1,hb1⟩,⟨d2,hb2⟩,hs⟩
    dsimp only at hik hv1 hv2 hO hb1 hb2 hs ⊢
    have hvb:v<st.by_.length:=by omega
    refine .seq (.ai (.y hs (zld cZ) (.z zm ?_)))
    first|(refine .ixw hs an aq ?_;intro b122 o122 hc122)|refine .z (uW an aq) ?_
    refine .z (zfa bT) ?_
    refine .q hs (fT rfl af (hv:=(l7 hvb (j:=3) aj).trans rfl)) ?_
    refine .z xi (.nil ?_)
    refine (.cW rfl (fun hc125=>?_) (fun hc125=>?_))
    ·refine .skip ?_
     refine nT ?_
     refine .seq (.block (.region (.z zm (.y hs (zld cZ) (.z zm ?_)))))
     first|(refine .ixw hs an aq ?_;intro b134 o134 hc134)|refine .z (uW an aq) ?_
     refine .q hs (gS (vs:=(ga st.by_ v).v) rfl dW aq (hv:=uh hvb)) ?_
     refine .o (.buildSlice (cells:=(ga st.by_ v).v) hs kJ rfl rfl fun b136 w hs=>?_)
     refine .o (.append (ys:=(ga st.by_ v).v) hs fP rfl rfl hO (.own .here rfl rfl) (by simp [Arc.v,Value.oneCell']) (fun l h=>by rw [bS,fj] at h;omega) ?_);intro v137 en137 w hO2 hs
     refine .z zg (.nil ?_)
     refine nB (nT ?_)
     refine .region (.y hs (zld cZ) (.z zm ?_))
     first|(refine .ixw hs an aq ?_;intro b128 o128 hc128)|refine .z (uW an aq) ?_
     refine .z (zfa bC) ?_
     refine .q hs (fT rfl af (hv:=(l7 hvb (j:=0) aj).trans rfl)) ?_
     refine .z zg (.nil ?_)
     refine nT ?_
     obtain ⟨g1,g2⟩:=hcl v hv1 hv2 hc125
     obtain ⟨m,hm⟩:∃m,kk - i=m+1:=by
      refine ⟨kk - i - 1,?_⟩
      rcases Nat.lt_or_ge i kk with h|h
      ·omega
      ·obtain e:kk - i=0:=by omega
       rw [e] at hb2
       cases hb2
       omega
     rw [hm] at hb2
     obtain ⟨d3,hb3⟩:∃d,dA st.by_ (ga st.by_ v).f m d u:=by cases hb2 with|cons _ t=>exact ⟨_,t⟩
     rw [←w8,←uo hb1] at hO2
     exact ⟨(i+1,(ga st.by_ v).f,v137,en137),cC,⟨by dsimp only;omega,⟨g1,g2⟩,hO2,⟨_,hb1.trans (.cons hc125 .nil)⟩,⟨d3,by rw [show kk - (i+1)=m by omega];exact hb3⟩,hs.sb⟩,by dsimp only;omega⟩
    ·refine .exit ?_
     refine xT (xT (xB (nT ?_)))
     refine .ai ?_
     obtain rfl:i=kk:=by
      rcases Nat.lt_or_ge i kk with h|h
      ·obtain ⟨m,hm⟩:∃m,kk - i=m+1:=⟨kk - i - 1,aj⟩
       rw [hm] at hb2
       cases hb2 with
       |cons hl _=>omega
      ·omega
     refine .z zm ?_
     refine .o (.call Tryz.call289 rfl (kl hs hO (by rw [fj];omega)) ?_);rintro v139 w ⟨en',hO',hs⟩
     refine .nil (.ai (.z zm (.z zg (.nil ?_))))
     refine .ret ?_
     refine Fin.gR Ds [_,_,_,_,_,_,_] hs fun w hs=>⟨_,results1 Tryz.results268 rfl,H1,_,en',hle1,hO',hs.sb,hway _ rfl⟩
theorem uf{s:aQ}{x:Arc}(hok:s.Ok)(hx:uT s.bD x):∃(i:Nat) (l:Lim),s.bn[i]? =some l∧x.l=(i:Int)∧(l.A=(x.f:Int)↔fwd s.bD x)∧i<s.bn.length:=by
 obtain ⟨i,y,h1,h2⟩:=hx
 have hl:=l5 h1
 have hlt:i<s.bn.length:=by have:=(List.getElem?_eq_some_iff.1 h1).1;simpa [aQ.bD,de] using this
 obtain ⟨l,hl2⟩:=nth hlt
 have h3:=ik hl2
 have h1':(j5 s.bn)[i]? =some y:=h1
 rw [h3] at h1'
 cases h1'
 obtain ⟨a1,a2,_⟩:=hok.arc (List.mem_of_getElem? hl2) i
 refine ⟨i,l,hl2,?_,?_,hlt⟩
 ·rcases h2 with rfl|rfl<;>rfl
 ·have hg:ga s.bD i=l.arc i:=by simp [ga,aQ.bD,h3]
  have hxl:x.l.toNat=i:=by rcases h2 with rfl|rfl<;>rfl
  unfold fwd
  rw [hxl,hg,←a1]
  exact ⟨fun e=>by exact_mod_cast e,fun e=>by exact_mod_cast e⟩
theorem fq{bf:Nat}{s:aQ}{vl vt vd:Value}{x:Arc}(hs:St H w σ)(hok:s.Ok)(hf:Row H bf [I s.many,vl,vt,vd])(hl:RL H vl s.bn)(hx:uT s.bD x):
  Cl Tryz.prog 290 [.pointer (some ⟨bf,0,none⟩),.agg x.v.toArray] w fun v w'=>v= .bool (decide (fwd s.bD x))∧St H w' σ:=by
 obtain ⟨i,l,hl1,hxl,hfw,hil⟩:=uf hok hx
 have hf1:cellAt H bf 1=some vl:=hf.at 1
 refine Cl.o Tryz.func290 Tryz.ntmps290 ag2 ?_
 refine .ai ?_
 refine .bx hs fun b3 w hs=>?_
 refine .z zg (.nil ?_)
 refine .seq (.draw mix rfl hs fun w hs=>?_)
 refine .z 0 rfl zm ?_;refine .z 1 rfl znc ?_;refine .z 2 rfl (zfa du) ?_;refine .z 3 rfl (zfa bp) ?_;refine .y 4 rfl hs cK ?_;refine .z 5 rfl (zfa bT) ?_;refine .y 6 rfl hs af ?_
 refine .ixX (i:=7) hs rfl ay .none hl rfl rfl aN bh hl1 hxl ?_;intro b12 o12 hc12
 have hA:cellAt H b12 o12=some (I l.A):=hc12.get 0 rfl
 refine .z 8 rfl (zfa fg) ?_;refine .y 9 rfl hs af ?_;refine .z 10 rfl (zfa bC) ?_;refine .y 11 rfl hs af ?_;refine .z 12 rfl j9 ?_;refine .z 13 rfl zg ?_;refine .D hs ?_
 refine .ret (Fin.bF Tryz.results290 rfl ?_)
 exact ⟨by simp only [decide_eq_decide.2 hfw],hs.out⟩
theorem jJ{bf bt bl cl u v:Nat}{s:aQ}{ts lf:List Int}{wt:Nat→Int}{vl vp:Value}{sp:List Value}{p:List Arc}(hs:St H w (.blk bt (Is ts):: .blk bl (Is lf++sp)::σ))(hok:s.Ok)
  (hf:Row H bf [I s.many,vl,.slice (some ⟨bt,0,none⟩) ts.length ts.length,.slice (some ⟨bl,0,none⟩) lf.length cl]) (hl:RL H vl s.bn) (hp:RS H 4 vp (p.map Arc.v)) (hI:qX s.n s.bD wt ts lf) (hw:Ah s.bD ts lf s.n p u v) (hpn:p≠[]) (hpl:p.length<s.n):
  Cl Tryz.prog 269 [.pointer (some ⟨bf,0,none⟩),vp] w fun _ w'=>St H w' (.blk bt (Is (dG s.bD (mR s.bD ts lf p u v) ts p)):: .blk bl (Is (s3 lf (mR s.bD ts lf p u v) u v)++sp)::σ):=by
 have hN1:=hok.m1
 have hn65:s.n≤65:=by simp only [aQ.n];have:=hok.m0;omega
 have hnum:tn s.bD:=fun i x hx=>⟨l5 hx,(hok.bD.2 x (List.mem_of_getElem? hx)).2.2.2.2.2⟩
 have hlt:=hI.lt
 have hll:=hI.ll
 obtain ⟨m0,m1,m2,m3⟩:=qo hlt.symm hnum hw
 have hsu:=hI.sg u hw.un
 have hsv:=hI.sg v hw.vn
 have hun:u<lf.length:=by rw [hll];exact hw.un
 have hvn:v<lf.length:=by rw [hll];exact hw.vn
 obtain ⟨a,cap,hvp⟩:=hp.shape
 rw [List.length_map] at hvp
 subst hvp
 have hp0:0<p.length:=List.length_pos_iff.2 hpn
 obtain ⟨x0,hx0⟩:=nth hp0
 obtain ⟨x1,hx1⟩:=nth (l:=p) (k:=p.length - 1) aj
 have hh:=hw.ch.head hx0
 have hla:=hw.ch.last hx1
 have hf2:cellAt H bf 2=some (.slice (some ⟨bt,0,none⟩) ts.length ts.length):=hf.at 2
 have hf3:cellAt H bf 3=some (.slice (some ⟨bl,0,none⟩) lf.length cl):=hf.at 3
 have hix:∀x∈p,uT s.bD x∧x.l.toNat<ts.length∧x.l=(x.l.toNat:Int):=fun x hx=>by
  obtain ⟨g1,g2,_⟩:=iB hlt.symm hnum (hw.mem x hx)
  obtain ⟨i,l,_,g3,_⟩:=uf hok g1
  exact ⟨g1,g2,by rw [g3];simp⟩
 simp only [FF] at hsu hsv
 have huv:v≠u:=fun e=>by have:=hw.lu;have:=hw.lv;rw [e] at*;omega
 have htt:∀i<ts.length,0≤gi ts i∧gi ts i≤3600000000000:=fun i hi=>by
  have h1:=hI.nn i aj
  have h2:=hI.tb i aj
  have h3:0≤rem s.n lf:=bJ fun v _=>by omega
  simp only [FF] at h2
  omega
 have hM:mR s.bD ts lf p u v=least s.bD ts (min (-gi lf u) (gi lf v)) p:=rfl
 generalize mR s.bD ts lf p u v=M at*
 have hgv:gi (lf.set u (gi lf u+M)) v=gi lf v:=by rw [dk hun,if_neg huv]
 refine Cl.o Tryz.func269 Tryz.ntmps269 ag2 ?_
 refine .seq (.draw mix rfl hs fun w hs=>?_)
 refine .z 0 rfl zm ?_
 refine .ixX (i:=1) hs rfl ay .none hp rfl rfl an aq hx0 rfl ?_;intro b12 o12 hc12
 have h14:cellAt H b12 (o12+0)=some (I u):=by rw [←hh];exact hc12.get 0 rfl
 refine .z 2 rfl (zfa bC) ?_;refine .y 3 rfl hs af ?_;refine .z 4 rfl zm ?_;refine .z 5 rfl zm ?_;refine .z 6 rfl (df an) ?_;refine .z 7 rfl iR ?_
 refine .ixX (i:=8) hs rfl ay .none hp rfl rfl an aq hx1 aj ?_;intro b19 o19 hc19
 have h21:cellAt H b19 (o19+1)=some (I v):=by rw [←hla];exact hc19.get 1 rfl
 refine .z 9 rfl (zfa bG) ?_;refine .y 10 rfl hs af ?_;refine .z 11 rfl zg ?_;refine .z 12 rfl zg ?_;refine .D hs ?_
 refine .seq (.draw mix rfl hs fun w hs=>?_)
 refine .z 0 rfl zm ?_;refine .z 1 rfl znc ?_;refine .z 2 rfl (zfa bU) ?_;refine .y 3 rfl hs ak ?_;refine .z 4 rfl zm ?_
 first|(refine .ixv 5 rfl hs ad ae ?_;intro b27 o27 hc27)|refine .z 5 rfl (zix ad ae) ?_
 refine .load (i:=6) hs rfl ay .none rfl af ?_ (hv:=dV hun sp)
 refine .z 7 rfl xh ?_;refine .z 8 rfl zm ?_;refine .z 9 rfl znc ?_;refine .z 10 rfl (zfa bU) ?_;refine .y 11 rfl hs ak ?_;refine .z 12 rfl zm ?_
 first|(refine .ixv 13 rfl hs ad ae ?_;intro b35 o35 hc35)|refine .z 13 rfl (zix ad ae) ?_
 refine .load (i:=14) hs rfl ay .none rfl af ?_ (hv:=dV hvn sp)
 refine .z 15 rfl AE ?_;refine .z 16 rfl zg ?_;refine .D hs ?_
 refine .seq (.ai (.z zm (.z (df an) (.z zm (.nil ?_)))))
 refine .for (N:=p.length) (J:=fun k fr w=>fr=[(38,.slice a p.length cap),(6,I (least s.bD ts (min (-gi lf u) (gi lf v)) (p.take k))),(0,.pointer (some ⟨bf,0,none⟩)),(1,.slice a p.length cap),(4,I u),(5,I v)]∧St H w (.blk bt (Is ts):: .blk bl (Is lf++sp)::σ)) aj ?_ ?_ ?_
 ·exact .mk ⟨rfl,hs⟩
 ·rintro k fr w hk ⟨rfl,hs⟩
  obtain ⟨x,hx⟩:=nth hk
  obtain ⟨g1,g2,g3⟩:=hix x (List.mem_of_getElem? hx)
  refine .block (.ai ?_)
  refine .ixX hs hp rfl rfl an aq hx rfl ?_;intro b42 o42 hc42
  refine .q hs (dc (vs:=x.v) rfl dW aq hc42) ?_
  refine .o (.alloc hs cf rfl fun b8 w hs=>?_)
  refine .o (.aP (vs:=x.v) hs rfl rfl aq fun w hs=>?_)
  refine .nil (.ai (.z zm ?_))
  refine .q hs (gS (vs:=x.v) rfl dW aq) ?_
  refine .o (.call Tryz.call290 rfl (fq hs hok hf hl g1) ?_);rintro _ w ⟨rfl,hs⟩
  refine .z jb (.nil ?_)
  refine (.cond rfl (fun hc47=>?_) (fun hc47=>?_))
  ·refine .draw mix rfl hs fun w hs=>?_
   refine .z 0 rfl zm ?_;refine .z 1 rfl zm ?_;refine .z 2 rfl znc ?_;refine .z 3 rfl (zfa dZ) ?_;refine .y 4 rfl hs ak ?_;refine .z 5 rfl (zfa bT) ?_;refine .y 6 rfl hs af ?_
   refine .z 7 rfl (gh (k:=x.l.toNat) rfl rfl ad ae g3 g2) ?_
   refine .y 8 rfl hs af ?_;refine .z 9 rfl AE ?_;refine .z 10 rfl zg ?_;refine .D hs ?_
   refine nB (nT ?_)
   have e:min (least s.bD ts (min (-gi lf u) (gi lf v)) (p.take k)) (gi ts x.l.toNat)=least s.bD ts (min (-gi lf u) (gi lf v)) (p.take (k+1)):=by rw [bZ hx,pN,if_neg (by simpa using hc47)]
   exact .mk ⟨rfl,hs.tail⟩ (hs:= .cons rfl (.cons rfl (.cons rfl (.eU rfl e (.cons rfl (.cons rfl (.cons rfl (.cons rfl (.nil rfl rfl)))))))))
  ·refine .skip ?_
   refine nB (nT ?_)
   have e:least s.bD ts (min (-gi lf u) (gi lf v)) (p.take k)=least s.bD ts (min (-gi lf u) (gi lf v)) (p.take (k+1)):=by rw [bZ hx,pN,if_pos (by simpa using hc47)]
   exact .mk ⟨rfl,hs.tail⟩ (hs:= .cons rfl (.cons rfl (.cons rfl (.eU rfl e (.cons rfl (.cons rfl (.cons rfl (.cons rfl (.nil rfl rfl)))))))))
 ·rintro fr w ⟨rfl,hs⟩
  have e6:least s.bD ts (min (-gi lf u) (gi lf v)) (List.take p.length p)=M:=by rw [List.take_length];exact hM.symm
  rw [e6]
  refine nT ?_
  refine .seq (.ai (.z zm (.z (df an) (.z zm (.nil ?_)))))
  refine .for (N:=p.length) (J:=fun k fr w=>fr=[(59,.slice a p.length cap),(6,I M),(0,.pointer (some ⟨bf,0,none⟩)),(1,.slice a p.length cap),(4,I u),(5,I v)]∧St H w (.blk bt (Is (dG s.bD M ts (p.take k))):: .blk bl (Is lf++sp)::σ)) aj ?_ ?_ ?_
  ·exact .mk ⟨rfl,hs⟩
  ·rintro k fr w hk ⟨rfl,hs⟩
   obtain ⟨x,hx⟩:=nth hk
   obtain ⟨g1,g2,g3⟩:=hix x (List.mem_of_getElem? hx)
   have hpl2:=iy s.bD M (p.take k) ts
   have hbd:=vX (es:=s.bD) (m:=M) (ts:=ts) (p:=p.take k) aj (by simp only [FF];omega) (by rw [List.length_take];omega) (fun y hy=>(hix y (List.mem_of_mem_take hy)).2.1) x.l.toNat
   have h9:=htt _ g2
   refine .block (.ai ?_)
   refine .ixX hs hp rfl rfl an aq hx rfl ?_;intro b63 o63 hc63
   refine .q hs (dc (vs:=x.v) rfl dW aq hc63) ?_
   refine .o (.alloc hs cf rfl fun b10 w hs=>?_)
   refine .o (.aP (vs:=x.v) hs rfl rfl aq fun w hs=>?_)
   refine .nil (.ai (.z zm ?_))
   refine .q hs (gS (vs:=x.v) rfl dW aq) ?_
   refine .o (.call Tryz.call290 rfl (fq hs hok hf hl g1) ?_);rintro _ w ⟨rfl,hs⟩
   refine .nil ?_
   refine (.cond rfl (fun hc67=>?_) (fun hc67=>?_))
   ·refine .draw mix rfl hs fun w hs=>?_
    refine .z 0 rfl zm ?_;refine .z 1 rfl znc ?_;refine .z 2 rfl (zfa dZ) ?_;refine .y 3 rfl hs ak ?_;refine .z 4 rfl (zfa bT) ?_;refine .y 5 rfl hs af ?_
    refine .z 6 rfl (gh (k:=x.l.toNat) rfl rfl ad ae g3 g2) ?_
    refine .y 7 rfl hs af ?_;refine .z 8 rfl zm ?_;refine .z 9 rfl cR ?_
    refine .z 10 rfl (gh (k:=x.l.toNat) rfl rfl ad ae g3 g2) ?_
    refine .E 11 hs ?_
    refine .store hs rfl rfl ae ?_;intro w hs
    refine .go ?_
    refine .D hs ?_
    refine nB (nT ?_)
    have e:dG s.bD M ts (p.take (k+1))=(dG s.bD M ts (p.take k)).set x.l.toNat (gi (dG s.bD M ts (p.take k)) x.l.toNat+M):=by rw [bZ hx,og,push,if_pos (by simpa using hc67)]
    exact .mk ⟨rfl,by rw [e];exact hs.tail⟩
   ·refine .draw mix rfl hs fun w hs=>?_
    refine .z 0 rfl zm ?_;refine .z 1 rfl znc ?_;refine .z 2 rfl (zfa dZ) ?_;refine .y 3 rfl hs ak ?_;refine .z 4 rfl (zfa bT) ?_;refine .y 5 rfl hs af ?_
    refine .z 6 rfl (gh (k:=x.l.toNat) rfl rfl ad ae g3 g2) ?_
    refine .y 7 rfl hs af ?_;refine .z 8 rfl zm ?_;refine .z 9 rfl iR ?_
    refine .z 10 rfl (gh (k:=x.l.toNat) rfl rfl ad ae g3 g2) ?_
    refine .E 11 hs ?_
    refine .store hs rfl rfl ae ?_;intro w hs
    refine .go ?_
    refine .D hs ?_
    refine nB (nT ?_)
    have e:dG s.bD M ts (p.take (k+1))=(dG s.bD M ts (p.take k)).set x.l.toNat (gi (dG s.bD M ts (p.take k)) x.l.toNat - M):=by rw [bZ hx,og,push,if_neg (by simpa using hc67)]
    exact .mk ⟨rfl,by rw [e];exact hs.tail⟩
  ·rintro fr w ⟨rfl,hs⟩
   rw [List.take_length] at hs
   refine nT ?_
   refine .ai (.z zm (.z znc (.z (zfa bU) (.y hs (zld ak) (.z zm ?_)))))
   first|(refine .ixv hs ad ae ?_;intro b96 o96 hc96)|refine .z (zix ad ae) ?_
   refine .q hs (fT rfl af (hv:=dV hun sp)) ?_
   refine .z zm (.z cR ?_)
   first|(refine .ixv hs ad ae ?_;intro b100 o100 hc100)|refine .z (zix ad ae) ?_
   refine .o (.store hs rfl rfl ae ?_ c9 (jq hun sp) (fZ hun sp _));intro w hs
   refine .nil (.region (.z zm (.z znc (.z (zfa bU) (.y hs (zld ak) (.z zm ?_))))))
   first|(refine .ixv hs ad ae ?_;intro b106 o106 hc106)|refine .z (zix ad ae) ?_
   refine .q hs (fT rfl af (hv:=dV (by rw [List.length_set];exact hvn) sp)) ?_
   refine .z zm (.z iR ?_)
   first|(refine .ixv hs ad ae ?_;intro b110 o110 hc110)|refine .z (zix ad ae) ?_
   refine .o (.store hs rfl rfl ae ?_ c9 (jq (by rw [List.length_set];exact hvn) sp) (fZ (by rw [List.length_set];exact hvn) sp _));intro w hs
   refine .nil ?_
   exact Fin.sy Tryz.results269 hs
theorem wq{w:List Int}{N k:Nat}(hw:w.length=N+1):gi (w.set 0 (-gC w k)) 0 - gi (w.set 0 (-gC w k)) (k+1)= -gC w (k+1):=by
 rw [dk aj,dk aj,if_pos rfl,if_neg aj]
 simp only [gC,au];omega
theorem oD{v vw:Value}{s:aQ}{ws:List Int}(hs:St H w σ)(hok:s.Ok)(hr:RSy H v s)(hrw:RI H vw ws)(hwl:ws.length=s.n)(hsz:dJ ws)(hsnd:s.Sound):
  Cl Tryz.prog 222 [v,vw] w fun v w'=>(v= .tuple #[.pointer none,.bool false]∧jP s.bD (kU ws s.n) s.n∧St H w' σ)∨
   (∃H1 bf bt bl cl ts lf vl sp,HLe H H1∧v= .tuple #[.pointer (some ⟨bf,0,none⟩),.bool true]∧pn H1 bf s ts lf vl bt bl cl sp∧m8 s.n s.bD (kU ws s.n) ts∧St H1 w' σ):=by
 obtain ⟨vl,rfl,hr⟩:=hr
 obtain ⟨al,cpl,rfl⟩:=RL.shape hr
 obtain ⟨aw,cw,rfl⟩:=RI.shape hrw
 obtain ⟨N,hN⟩:=Int.eq_ofNat_of_zero_le hok.m0
 have hN1:=hok.m1
 have hn:s.n=N+1:=by simp [aQ.n,hN]
 have hlim:=hok.len
 have hoka:=hok.bD
 have hal:s.bD.length=s.bn.length:=by simp [aQ.bD,de]
 have hnum:tn s.bD:=fun i x hx=>⟨l5 hx,(hok.bD.2 x (List.mem_of_getElem? hx)).2.2.2.2.2⟩
 have hin:∀x∈s.bD,x.f<s.n∧x.t<s.n:=fun x hx=>by have:=hoka.2 x hx;omega
 have hwt0:=yW ws (n:=s.n) aj
 unfold dJ at hsz
 rw [hwl] at hsz
 refine Cl.o Tryz.func222 Tryz.ntmps222 ag2 ?_
 refine .ai ?_
 refine .bx hs fun b2 w hs=>?_
 refine .z zg (.z zg (.nil ?_))
 refine .scope ?_
 refine .cut (fun fs w=>∃bf bt bl cl sp,kT fs ⟨73,[],[(6,.pointer (some ⟨bf,0,none⟩))]⟩∧St H w (.blk bf [I s.many,.slice al s.bn.length cpl,.slice (some ⟨bt,0,none⟩) s.bn.length s.bn.length,.slice (some ⟨bl,0,none⟩) ws.length cl]:: .blk bt (Is (List.replicate s.bn.length 0)):: .blk bl (Is ws++sp)::σ)) ?_ ?_
 ·refine .draw mix rfl hs fun w hs=>?_
  refine .ys 0 rfl hs [_,_] aV aA ?_;refine .z 1 rfl (zfa bp) ?_;refine .y 2 rfl hs cK ?_;refine .z 3 rfl (df aN) ?_;refine .z 5 rfl zm ?_
  refine .e2 (i:=4) (j:=6) ay rfl rfl rfl rfl .none .none hs ?_ ?_
  ·refine .o7 s.bn.length hs rfl rfl ad dB rfl ae aR aj ?_;intro b15 w hs
   refine .go ?_
   refine .E 6 hs ?_
   refine .call Tryz.call197 rfl (iG hs hrw aj) ?_;rintro v17 w ⟨en17,hO,hs⟩
   obtain ⟨bl,cl,sp,rfl,rfl,hsp⟩:=hO.some aj
   refine .go ?_
   refine .z 7 rfl (zbd [_,_,_,_] jX) ?_
   refine .E 8 hs ?_
   refine .box hs rfl rfl ?_;intro b19 w hs
   refine .go ?_
   refine .z 9 rfl zg ?_;refine .D hs ?_
   exact nT ⟨b19,b15,bl,cl,sp,cC,hs.sb⟩
  ·refine .call Tryz.call197 rfl (iG hs hrw aj) ?_;rintro v17 w ⟨en17,hO,hs⟩
   obtain ⟨bl,cl,sp,rfl,rfl,hsp⟩:=hO.some aj
   refine .go ?_
   refine .E 4 hs ?_
   refine .o7 s.bn.length hs rfl rfl ad dB rfl ae aR aj ?_;intro b15 w hs
   refine .go ?_
   refine .z 7 rfl (zbd [_,_,_,_] jX) ?_
   refine .E 8 hs ?_
   refine .box hs rfl rfl ?_;intro b19 w hs
   refine .go ?_
   refine .z 9 rfl zg ?_;refine .D hs ?_
   exact nT ⟨b19,b15,bl,cl,sp,cC,hs.sb⟩
 ·rintro fs w ⟨bf,bt,bl,cl,sp,hfs,hs⟩
  refine WE.sub ?_ hfs
  obtain ⟨H1,hle1,hRf,hs⟩:=hs.bK .here
  have hf0:cellAt H1 bf 0=some (I (N:Int)):=by have:=hRf.at 0 (v:=I s.many);rwa [hN] at this
  have hf3:cellAt H1 bf 3=some (.slice (some ⟨bl,0,none⟩) ws.length cl):=hRf.at 3
  have hrl:=hr.mono hle1
  refine .ai (.z zm (.z znc (.z (zfa bU) (.y hs (zld ak) ?_))))
  refine .q hs (gh (k:=0) rfl rfl ad ae rfl aj) ?_
  refine .o (.store hs rfl rfl ae ?_ c9 (jq aj sp) (fZ aj sp _));intro w hs
  refine .nil (.seq (.ai (.z zm (.z znc (.z (zfa du) (.z (zfa aZ) (.y hs (zld af) (.z zm (.nil ?_)))))))))
  refine .for (N:=N) (J:=fun k fr w=>fr=[(6,.pointer (some ⟨bf,0,none⟩))]∧St H1 w (.blk bt (Is (List.replicate s.bn.length 0)):: .blk bl (Is (ws.set 0 (-gC ws k))++sp)::σ)) aj ?_ ?_ ?_
  ·exact .mk ⟨rfl,by simpa [gC,au] using hs⟩
  ·rintro k fr w hk ⟨rfl,hs⟩
   have e:=wq (w:=ws) (N:=N) (k:=k) aj
   have hb1:=pC ws (k+1)
   have hb2:aJ ws (k+1+1)≤aJ ws s.n:=mq (fun v=>by omega) aj
   simp only [FF] at hsz
   refine .block (.ai (.z zm (.z zg (.nil ?_))))
   refine .draw mix rfl hs fun w hs=>?_
   refine .z 0 rfl zm ?_;refine .z 1 rfl znc ?_;refine .z 2 rfl (zfa bU) ?_;refine .y 3 rfl hs ak ?_
   refine .z 4 rfl (gh (k:=0) rfl rfl ad ae rfl aj) ?_
   refine .load (i:=5) hs rfl ay .none rfl af ?_ (hv:=dV (by rw [List.length_set];omega) sp)
   refine .z 6 rfl zm ?_;refine .z 7 rfl znc ?_;refine .z 8 rfl (zfa bU) ?_;refine .y 9 rfl hs ak ?_;refine .z 10 rfl zm ?_;refine .z 11 rfl cR ?_
   refine .z 12 rfl (gh (k:=k+1) rfl rfl ad ae aj aj) ?_
   refine .load (i:=13) hs rfl ay .none rfl af ?_ (hv:=dV (by rw [List.length_set];omega) sp)
   refine .z 14 rfl iR ?_
   refine .z 15 rfl (gh (k:=0) rfl rfl ad ae rfl aj) ?_
   refine .E 16 hs ?_
   refine .store hs rfl rfl ae ?_ c9 (jq (by rw [List.length_set];omega) sp) (fZ (by rw [List.length_set];omega) sp _);intro w hs
   refine .go ?_
   refine .D hs ?_
   refine nB (nT ?_)
   rw [e,List.set_set] at hs
   exact .mk ⟨rfl,hs⟩
  ·rintro fr w ⟨rfl,hs⟩
   have hI0:qX s.n s.bD (kU ws s.n) (List.replicate s.bn.length 0) (ws.set 0 (-gC ws N)):=by
    rw [←hal,hn]
    rw [hn] at hsz
    refine qX.start hsz (by rw [List.length_set];omega) (fun v hv=>?_) hsnd
    rw [dk aj]
    cases v with
    |zero=>rw [if_pos rfl,sC]
    |succ v=>rw [if_neg aj,sD]
   refine nT ?_
   refine .seq ?_
   refine .label ?_
   refine nT ?_
   refine .block ?_
   refine .loop (fun _:a8×List Int×List Int=>⟨73,[],[(6,.pointer (some ⟨bf,0,none⟩))]⟩)
    (fun p w=>HLe H1 p.1∧qX s.n s.bD (kU ws s.n) p.2.1 p.2.2∧St p.1 w (.blk bt (Is p.2.1):: .blk bl (Is p.2.2++sp)::σ)) (fun p=>(rem s.n p.2.2).toNat) (H1,List.replicate s.bn.length 0,ws.set 0 (-gC ws N))
    cC ⟨HLe.refl _,hI0,hs⟩ ?_
   rintro ⟨H2,ts,lf⟩ w ⟨hle2,hI,hs⟩
   dsimp only at hle2 hI hs ⊢
   have hlt:=hI.lt
   have hll:=hI.ll
   have hRf2:Row H2 bf [I s.many,.slice al s.bn.length cpl,.slice (some ⟨bt,0,none⟩) ts.length ts.length,.slice (some ⟨bl,0,none⟩) lf.length cl]:=by
    rw [hlt,hal,hll,←hwl];exact hRf.mono hle2
   have hf32:cellAt H2 bf 3=some (.slice (some ⟨bl,0,none⟩) lf.length cl):=hRf2.at 3
   refine .block (.seq (.ai (.z zm (.z znc (.z (zfa bU) (.y hs (zld ak) (.z (df ad) (.z zm (.nil ?_)))))))))
   refine .for (N:=lf.length) (J:=fun k fr w=>fr=[(53,.slice (some ⟨bl,0,none⟩) lf.length cl),(6,.pointer (some ⟨bf,0,none⟩))]∧(∀v<k,gi lf v≤0)∧St H2 w (.blk bt (Is ts):: .blk bl (Is lf++sp)::σ)) aj ?_ ?_ ?_
   ·exact .mk ⟨rfl,fun v hv=>by omega,hs⟩
   ·rintro k fr w hk ⟨rfl,hle0,hs⟩
    refine .block (.ai (.z zm ?_))
    first|(refine .ixv hs ad ae ?_;intro b58 o58 hc58)|refine .z (zix ad ae) ?_
    refine .q hs (fT rfl af (hv:=dV hk sp)) ?_
    refine .z zg (.z zg (.nil (.seq (.ai (.z zm (.z yU (.nil ?_)))))))
    refine (.cW rfl (fun hc61=>?_) (fun hc61=>?_))
    ·refine .exit ?_
     refine xT (xB (nT ?_))
     exact .mk ⟨rfl,fun v hv=>by
       by_cases e:v=k
       ·subst e;exact hc61
       ·exact hle0 v aj,hs⟩
    ·refine .skip ?_
     refine nT ?_
     refine .ai (.z zm (.z zm ?_))
     obtain ⟨Ha,hla,hra,hsa,-,hba⟩:=hs.CN
     obtain ⟨Hb,hlb,hrb,hsb,-,hbb⟩:=hsa.CN
     refine .o (.call Tryz.call268 rfl (kH (s:=s) (to:=k) hsb hok ⟨hRf2.mono (hla.trans hlb),hr.mono (hle1.trans (hle2.trans (hla.trans hlb))),hra.mono hlb,hrb⟩ aj aj hI.fe aj aj) ?_);rintro v64 w ⟨Hc,p,en,hlc,hO,hsc,hWR⟩
     have hs:=hba (HLe.refl _) (hbb hlc hsc)
     obtain ⟨ap,lp,cp,rfl,hlp⟩:=hO.shape
     obtain rfl:lp=p.length:=by rw [bS] at hlp;omega
     refine .z zg (.nil (.seq (.ai (.z zm (.z (df an) (.z j9 (.nil ?_)))))))
     refine (.cW rfl (fun hc67=>?_) (fun hc67=>?_))
     ·refine .ai (.z zg (.z zg (.nil ?_)))
      refine .ret (rT (rB (rT (rB (rT (rB (rT (rB (rS (Fin.q5 Tryz.results222 rfl rfl ?_))))))))))
      rcases hWR with ⟨_,R,hS,hR,hto⟩|⟨hp,_⟩
      ·exact .inl ⟨rfl,hI.open hin hS hR aj hto aj,(hs.le (hle1.trans hle2)).out⟩
      ·exact (hp (List.length_eq_zero_iff.1 aj)).elim
     ·refine .skip ?_
      refine nT ?_
      refine .ai (.z zm (.z zm ?_))
      obtain ⟨hp,hpl,u,hw⟩:=hWR.resolve_left fun h=>by rw [h.1] at hc67;exact hc67 rfl
      obtain ⟨H3,hle3,hRS,hs⟩:=bX.bK (cs:=p.map Arc.v) hO (fun c hc=>by simp only [List.mem_map] at hc;obtain ⟨x,_,rfl⟩:=hc;rfl) aj (by rw [List.length_map];omega) hs c9
      refine .o (.call Tryz.call269 rfl (jJ hs hok (hRf2.mono hle3) (hr.mono (hle1.trans (hle2.trans hle3))) hRS hI hw hp hpl) ?_);rintro v70 w hs
      refine .nil ?_
      refine .exit ?_
      refine xN (xT (xN (xT (xB (nT ?_)))))
      obtain ⟨q1,q2⟩:=hI.send hnum hw aj
      have q3:0≤rem s.n (s3 lf (mR s.bD ts lf p u k) u k):=bJ fun v _=>by omega
      exact ⟨(H3,dG s.bD (mR s.bD ts lf p u k) ts p,s3 lf (mR s.bD ts lf p u k) u k),cC,⟨hle2.trans hle3,q1,hs⟩,by dsimp only;omega⟩
   ·rintro fr w ⟨rfl,hle0,hs⟩
    refine nT ?_
    refine .ai (.z zm (.z zg (.z zg (.nil ?_))))
    refine .ret (rB (rT (rB (rS (Fin.q5 Tryz.results222 rfl rfl ?_)))))
    obtain ⟨H3,l3,r3,hs⟩:=hs.bK .here
    obtain ⟨H4,l4,r4,hs⟩:=hs.bK .here
    exact .inr ⟨H4,bf,bt,bl,cl,ts,lf,_,sp,hle1.trans (hle2.trans (l3.trans l4)),rfl,⟨hRf2.mono (l3.trans l4),hr.mono (hle1.trans (hle2.trans (l3.trans l4))),r3.mono l4,r4⟩,hI.ok hin hwt0 (fun v hv=>hle0 v aj),hs⟩
theorem lR{v:Value}{ws:List Int}(hs:St H w σ)(hr:RI H v ws):Cl Tryz.prog 164 [v] w fun v w'=>∃b,v= .bool b∧(b=true↔dJ ws)∧St H w' σ:=by
 obtain ⟨a,c,rfl⟩:=RI.shape hr
 have hl:=(RI.len hr).2.2
 refine Cl.o Tryz.func164 Tryz.ntmps164 ag1 ?_
 refine .ai (.z zg (.nil (.ai (.z zg (.nil (.seq (.ai (.z zm (.z (df ad) ?_)))))))))
 refine .z zm (.nil ?_)
 refine .for (N:=ws.length) (J:=fun k fr w=>fr=[(6,.slice a ws.length c),(3,I (3600000000000 - aJ ws k))]∧aJ ws k≤3600000000000∧St H w σ) aj ?_ ?_ ?_
 ·exact .mk ⟨rfl,by simp [aJ,au],hs⟩
 ·rintro k fr w hk ⟨rfl,hle,hs⟩
  have hx:=bB hk
  have h0:0≤aJ ws k:=bJ fun v _=>by omega
  have h1:aJ ws (k+1)=aJ ws k+max (gi ws k) (-gi ws k):=rfl
  refine .block (.ai ?_)
  first|(refine .ixv hs ad ae ?_;intro b10 o10 hc10)|refine .z (zix ad ae) ?_
  refine .y hs (zld af) (.z zg (.nil (.seq (.ai (.z zm (.z zm (.z xh (.z kX (.z zm ?_)))))))))
  refine .mM (t':=16) rfl (fun hb16=>?_) (fun hb16=>?_)
  ·refine .gFs 3 4 false rfl rfl rfl ?_
   refine .z zpT (.nil ?_)
   refine (.cT ?_)
   refine .ai (.z zg (.nil ?_))
   refine .ret (rT (rB (rT (rB (rT (Fin.bF Tryz.results164 rfl ?_))))))
   exact ⟨false,rfl,⟨fun h=>(by cases h),fun h=>(pE (k:=k+1) hk (by simp only [FF];omega) h).elim⟩,hs⟩
  ·refine .gT rfl rfl ?_
   refine .z zm ?_
   refine .gT rfl rfl ?_
   refine .z zm ?_
   refine .gT rfl rfl ?_
   refine .z qZ (.z zpF (.nil ?_))
   refine (.cW rfl (fun hc20=>?_) (fun hc20=>?_))
   ·refine .ai (.z zg (.nil ?_))
    refine .ret (rT (rB (rT (rB (rT (Fin.bF Tryz.results164 rfl ?_))))))
    exact ⟨false,rfl,⟨fun h=>(by cases h),fun h=>(pE (k:=k+1) hk (by simp only [FF];omega) h).elim⟩,hs⟩
   ·refine .skip ?_
    refine nT ?_
    refine .region (.z zm (.z zm (.z zm (.z xh (.z BX (.z iR (.z zg (.nil ?_))))))))
    refine nB (nT ?_)
    exact .mk ⟨rfl,aj,hs⟩ (hs:= .cons rfl (.cons rfl (.cons rfl (.eU rfl aj (.nil rfl rfl)))))
 ·rintro fr w ⟨rfl,hle,hs⟩
  refine nT ?_
  refine .ai (.z zg (.nil ?_))
  refine .ret (Fin.bF Tryz.results164 rfl ?_)
  exact ⟨true,rfl,⟨fun _=>hle,fun _=>rfl⟩,hs⟩
theorem iD{v vw:Value}{s:aQ}{ws:List Int}(hs:St H w σ)(hr:RSy H v s)(hrw:RI H vw ws):Cl Tryz.prog 219 [v,vw] w fun v w'=>v=I (cE s ws)∧St H w' σ:=by
 obtain ⟨vl,rfl,hr⟩:=hr
 obtain ⟨al,cpl,rfl⟩:=RL.shape hr
 obtain ⟨aw,cw,rfl⟩:=RI.shape hrw
 have hlw:=(RI.len hrw).2.2
 have hn:s.check=0→0≤s.many∧s.many≤64∧(s.n:Int)=s.many+1:=fun h=>by
  have h1:=s.aH.1 h
  have:=h1.m0
  have:=h1.m1
  simp only [aQ.n];omega
 refine Cl.o Tryz.func219 Tryz.ntmps219 ag2 ?_
 refine .ai ?_
 refine .bx hs fun b2 w hs=>?_
 refine .z zg (.nil (.seq (.ai (.y hs (zls [_,_] aV aA) ?_))))
 refine .o (.call Tryz.call125 rfl (fG (s:=s) hs ⟨_,rfl,hr⟩) ?_);rintro _ w ⟨rfl,hs⟩
 refine .z zg (.nil (.ai (.z zm (.z m9 (.nil ?_)))))
 refine (.ie rfl (fun hc9=>?_) (fun hc9=>?_))
 ·refine .ai (.z zm (.z zg (.nil ?_)))
  refine .ret (rT (Fin.bF Tryz.results219 rfl ?_))
  exact ⟨by unfold cE;rw [if_pos hc9],hs.tail⟩
 ·refine .skip ?_
  refine nT ?_
  refine .seq (.ai (.z zm ?_))
  obtain ⟨n0,n1,n2⟩:=hn hc9
  refine .z (df ad) (.z (zfa aZ) (.y hs (zld af) (.z cR (.z m9 (.z zm ?_)))))
  refine .Bv (t':=17) rfl (fun hb17=>?_) (fun hb17=>?_)
  ·refine .gFs 3 6 false rfl rfl rfl ?_
   refine .z zpT (.nil ?_)
   refine (.cT ?_)
   refine .ai (.z zg (.nil ?_))
   refine .ret (rT (Fin.bF Tryz.results219 rfl ?_))
   exact ⟨by unfold cE;rw [if_neg aj,if_neg aj],hs.tail⟩
  ·refine .gT rfl rfl ?_
   refine .z zm ?_
   refine .gT rfl rfl ?_
   refine .o (.call Tryz.call164 rfl (lR hs hrw) ?_);rintro _ w ⟨bz,rfl,hbz,hs⟩
   refine .gT rfl rfl ?_
   refine .z jb (.z zpF (.nil ?_))
   refine (.cond rfl (fun hc21=>?_) (fun hc21=>?_))
   ·refine .ai (.z zg (.nil ?_))
    refine .ret (rT (Fin.bF Tryz.results219 rfl ?_))
    exact ⟨by unfold cE;rw [if_neg aj,if_neg (fun h=>by rw [hbz.2 h.2] at hc21;cases hc21)],hs.tail⟩
   ·refine .skip ?_
    refine nT ?_
    refine .ai (.z zg (.nil ?_))
    refine .ret (Fin.bF Tryz.results219 rfl ?_)
    exact ⟨by unfold cE;rw [if_neg aj,if_pos ⟨aj,hbz.1 (by simpa using hc21)⟩],hs.tail⟩
theorem iP{v vw:Value}{s:aQ}{ws:List Int}(hs:St H w σ)(hr:RSy H v s)(hrw:RI H vw ws):
  Cl Tryz.prog 158 [v,vw] w fun v w'=>∃H1 e pf,HLe H H1∧v= .tuple #[pf,I e]∧w7 s ws e∧St H1 w' σ∧(e≠0→pf= .pointer none)∧
   (e=0→∃bf bt bl cl ts lf vl sp,pf= .pointer (some ⟨bf,0,none⟩)∧pn H1 bf s ts lf vl bt bl cl sp∧m8 s.n s.bD (kU ws s.n) ts∧s.Ok∧aJ ws s.n≤FF):=by
 obtain ⟨vl,rfl,hr⟩:=hr
 refine Cl.o Tryz.func158 Tryz.ntmps158 ag2 ?_
 refine .ai ?_
 refine .bx hs fun b2 w hs=>?_
 refine .z zg (.z zg (.nil (.seq (.ai (.y hs (zls [_,_] aV aA) (.z zm ?_))))))
 refine .o (.call Tryz.call219 rfl (iD (s:=s) hs ⟨_,rfl,hr⟩ hrw) ?_);rintro _ w ⟨rfl,hs⟩
 refine .z zg (.nil (.ai (.z zm (.z m9 (.nil ?_)))))
 refine (.ie rfl (fun hc13=>?_) (fun hc13=>?_))
 ·refine .ai (.z zm (.z zg (.z zg (.nil ?_))))
  refine .ret (rT (Fin.q5 Tryz.results158 rfl rfl ?_))
  exact ⟨H,_,_,HLe.refl _,rfl,.bad hc13,hs.tail,fun _=>rfl,fun h=>(hc13 h).elim⟩
 ·refine .skip ?_
  refine nT ?_
  refine .seq (.ai (.y hs (zls [_,_] aV aA) ?_))
  obtain ⟨hok,hwl,hsz⟩:=lZ hc13
  refine .o (.call Tryz.call133 rfl (eR (s:=s) hs hok ⟨_,rfl,hr⟩) ?_);rintro _ w ⟨H1,b,hle1,rfl,hb,hs⟩
  refine .z jb (.nil ?_)
  refine (.cond rfl (fun hc17=>?_) (fun hc17=>?_))
  ·refine .ai (.z zg (.z zg (.nil ?_)))
   refine .ret (rT (Fin.q5 Tryz.results158 rfl rfl ?_))
   exact ⟨H1,_,_,hle1,rfl,.clash hc13 (fun h=>by rw [hb.2 h] at hc17;cases hc17),hs.tail,fun _=>rfl,fun h=>by cases h⟩
  ·refine .skip ?_
   refine nT ?_
   refine .ai (.y hs (zls [_,_] aV aA) (.z zm ?_))
   have hsnd:s.Sound:=hb.1 (by simpa using hc17)
   refine .o (.call Tryz.call222 rfl (oD (s:=s) hs hok ⟨_,rfl,hr.mono hle1⟩ (hrw.mono hle1) hwl hsz hsnd) ?_);rintro v21 w hcase
   obtain ⟨pf,bb,H2,hle2,rfl,hs,hT,hF⟩:∃pf bb H2,HLe H1 H2∧v21= .tuple #[pf,.bool bb]∧St H2 w (.blk b2 [I s.many,vl]::σ)∧(bb=false→pf= .pointer none∧jP s.bD (kU ws s.n) s.n)∧
     (bb=true→∃bf bt bl cl ts lf vl sp,pf= .pointer (some ⟨bf,0,none⟩)∧pn H2 bf s ts lf vl bt bl cl sp∧m8 s.n s.bD (kU ws s.n) ts):=by
    rcases hcase with ⟨rfl,h1,h2⟩|⟨H2,bf,bt,bl,cl,ts,lf,vl,sp,h1,rfl,h2,h3,h4⟩
    ·exact ⟨_,false,H1,HLe.refl _,rfl,h2,fun _=>⟨rfl,h1⟩,fun h=>by cases h⟩
    ·exact ⟨_,true,H2,h1,rfl,h4,fun h=>(by cases h),fun _=>⟨bf,bt,bl,cl,ts,lf,vl,sp,rfl,h2,h3⟩⟩
   refine .z zm (.z zex (.z zex (.z zg (.z zg (.nil (.seq (.ai (.z zm (.z jb ?_)))))))))
   refine .nil ?_
   refine (.cond rfl (fun hc25=>?_) (fun hc25=>?_))
   ·refine .ai (.z zg (.z zg (.nil ?_)))
    refine .ret (rT (Fin.q5 Tryz.results158 rfl rfl ?_))
    exact ⟨H2,_,_,hle1.trans hle2,rfl,.opn hc13 hsnd (hT (by simpa using hc25)).2,hs.tail,fun _=>rfl,fun h=>by cases h⟩
   ·refine .skip ?_
    refine nT ?_
    refine .ai (.z zm (.z zg (.z zg (.nil ?_))))
    refine .ret (Fin.q5 Tryz.results158 rfl rfl ?_)
    obtain ⟨bf,bt,bl,cl,ts,lf,vl,sp,rfl,h2,h3⟩:=hF (by simpa using hc25)
    have hn0:0<s.n:=by simp [aQ.n]
    have hn1:s.n≤65:=by have:=hok.m0;have:=hok.m1;simp only [aQ.n];omega
    have hsz':aJ ws s.n≤FF:=by unfold dJ at hsz;rwa [hwl] at hsz
    exact ⟨H2,_,_,hle1.trans hle2,rfl,.ok hc13 hsnd (h3.value hn0 hn1 hok.bD hsz').2.1,hs.tail,fun h=>(h rfl).elim,fun _=>⟨bf,bt,bl,cl,ts,lf,vl,sp,rfl,h2,h3,hok,hsz'⟩⟩
theorem fp{bf bt bl cl:Nat}{s:aQ}{ts lf ws:List Int}{vl:Value}{sp:List Value}(hs:St H w σ)(hok:s.Ok)(hF:pn H bf s ts lf vl bt bl cl sp)(hFo:m8 s.n s.bD (kU ws s.n) ts)(hsz:aJ ws s.n≤FF):
  Cl Tryz.prog 160 [.pointer (some ⟨bf,0,none⟩)] w fun v w'=>v=I (dot s.bD ts (·.c))∧sA s.bD (s.wt ws) s.n (dot s.bD ts (·.c))∧dot s.bD ts (·.c)≤BB∧-BB≤dot s.bD ts (·.c)∧St H w' σ:=by
 obtain ⟨hFf,hFl,hFt,hFd⟩:=hF
 obtain ⟨al,cpl,rfl⟩:=RL.shape hFl
 have hlim:=hok.len
 have hal:s.bD.length=s.bn.length:=by simp [aQ.bD,de]
 have hlt:=hFo.lt
 have hn0:0<s.n:=by simp [aQ.n]
 have hn1:s.n≤65:=by have:=hok.m0;have:=hok.m1;simp only [aQ.n];omega
 have hv:=hFo.value hn0 hn1 hok.bD hsz
 have hd:=wJ (es:=s.bD) hlt
 have hf1:cellAt H bf 1=some (.slice al s.bn.length cpl):=hFf.at 1
 have hf2:cellAt H bf 2=some (.slice (some ⟨bt,0,none⟩) ts.length ts.length):=hFf.at 2
 refine Cl.o Tryz.func160 Tryz.ntmps160 ag1 ?_
 refine .ai (.z zg (.nil (.ai (.z zg (.nil (.seq (.ai (.z zm (.z znc ?_)))))))))
 refine .z (zfa du) (.z (zfa bp) (.y hs (zld cK) (.z (df aN) (.z zm (.nil ?_)))))
 refine .for (N:=s.bn.length) (J:=fun k fr w=>fr=[(10,.slice al s.bn.length cpl),(3,I (IntKind.i64.wrap (uO s.bD ts k))),(0,.pointer (some ⟨bf,0,none⟩))]∧St H w σ) aj ?_ ?_ ?_
 ·exact .mk ⟨rfl,hs⟩ (hs:= .cons rfl (.cons rfl (.cons rfl (.eU rfl (by simp [uO,au,pP]) (.cons rfl (.nil rfl rfl))))))
 ·rintro k fr w hk ⟨rfl,hs⟩
  obtain ⟨l,hl⟩:=nth hk
  have hg:(ga s.bD k).c=l.M:=by simp [ga,aQ.bD,ik hl,Lim.arc]
  have hlm:=hok.lim l (List.mem_of_getElem? hl)
  have hkt:k<ts.length:=by omega
  have htb:=hFo.nn k aj
  have hct:cellAt H bt k=some (I (gi ts k)):=hFt.at k (uU hkt)
  have hmul:gi ts k*l.M≤72000000000000000∧-72000000000000000≤gi ts k*l.M:=by
   simp only [FF] at htb
   have g1:gi ts k*l.M≤gi ts k*20000:=Int.mul_le_mul_of_nonneg_left hlm.2.2.2.1.2 htb.1
   have g2:gi ts k*(-20000)≤gi ts k*l.M:=Int.mul_le_mul_of_nonneg_left hlm.2.2.2.1.1 htb.1
   omega
  refine .block (.ai (.z zm ?_))
  refine .ixX hs hFl rfl rfl aN bh hl rfl ?_;intro b15 o15 hc15
  refine .q hs (dc (vs:=l.c) rfl iF bh hc15) ?_
  refine .o (.alloc hs eC rfl fun b5 w hs=>?_)
  refine .z zg ?_
  refine .o (.aP (vs:=l.c) hs rfl rfl bh fun w hs=>?_)
  refine .nil ?_
  refine .draw mix rfl hs fun w hs=>?_
  refine .z 0 rfl zm ?_;refine .z 1 rfl zm ?_;refine .z 2 rfl znc ?_;refine .z 3 rfl (zfa dZ) ?_;refine .y 4 rfl hs ak ?_;refine .z 5 rfl zm ?_
  refine .z 6 rfl (gh (k:=k) rfl rfl ad ae rfl hkt) ?_
  refine .r (i:=7) hs rfl ay .none (bj rfl af hct) ?_
  refine .z 8 rfl (zfa gW) ?_;refine .y 9 rfl hs af ?_;refine .z 10 rfl iq ?_
  refine .z 11 rfl (xR rfl rfl) ?_
  refine .z 12 rfl zg ?_;refine .D hs ?_
  refine nB (nT ?_)
  exact .mk ⟨rfl,hs.tail⟩ (hs:= .cons rfl (.cons rfl (.cons rfl (.eU rfl (by rw [s6];simp only [uO,au,hg]) (.cons rfl (.nil rfl rfl))))))
 ·rintro fr w ⟨rfl,hs⟩
  rw [←hal,←hd,eO (by have:=hv.2.2;simp only [BB] at this;omega)]
  refine nT ?_
  refine .ai (.z zm (.z zg (.nil ?_)))
  refine .ret (Fin.bF Tryz.results160 rfl ?_)
  exact ⟨rfl,hv.1,hv.2.2.1,hv.2.2.2,hs⟩
theorem mL{vw:Value}{ws:List Int}(hs:St H w σ)(hrw:RI H vw ws)(hlw:ws.length≤1000000)(hb:∀k,-9223372036854775807≤gi ws k∧gi ws k≤9223372036854775807):
  Cl Tryz.prog 159 [vw] w fun v w'=>∃H1,HLe H H1∧RI H1 v (q6 ws)∧St H1 w' σ:=by
 obtain ⟨aw,cw,rfl⟩:=RI.shape hrw
 refine Cl.o Tryz.func159 Tryz.ntmps159 ag1 ?_
 refine .ai (.z zg (.nil (.ai (.z zm (.z (df ad) ?_)))))
 refine .o (.o7 ws.length hs rfl rfl ad dB rfl ae aR aj fun b8 w hs=>?_)
 refine .z zg (.nil (.seq (.ai (.z zm (.z (df ad) (.z zm (.nil ?_)))))))
 refine .for (N:=ws.length) (J:=fun k fr w=>fr=[(9,.slice aw ws.length cw),(3,.slice (some ⟨b8,0,none⟩) ws.length ws.length)]∧∃L,(L.length=ws.length∧∀v<ws.length,gi L v=if v<k then -gi ws v else 0)∧St H w (.blk b8 (Is L)::σ)) aj ?_ ?_ ?_
 ·exact .mk ⟨rfl,_,⟨cN,fun v hv=>by rw [bw _ _ hv,if_neg aj]⟩,hs⟩
 ·rintro k fr w hk ⟨rfl,L,⟨hL1,hL2⟩,hs⟩
  have hx:=bB hk
  have hbk:=hb k
  refine .block (.ai (.z zm ?_))
  first|(refine .ixv hs ad ae ?_;intro b14 o14 hc14)|refine .z (zix ad ae) ?_
  refine .y hs (zld af) (.z zg (.z zg (.nil (.region (.z zm (.z zm (.z zm (.z xh ?_))))))))
  first|(refine .ixv hs ad ae ?_;intro b20 o20 hc20)|refine .z (zix ad ae) ?_
  refine .o (.store hs rfl rfl ae fun w hs=>?_)
  refine .nil ?_
  refine nB (nT ?_)
  refine .mk ⟨rfl,_,⟨by rw [List.length_set];exact hL1,fun v hv=>?_⟩,hs⟩
  rw [dk aj]
  by_cases e:v=k
  ·subst e;rw [if_pos rfl,if_pos aj]
  ·rw [if_neg e,hL2 v hv];congr 1;apply propext;omega
 ·rintro fr w ⟨rfl,L,⟨hL1,hL2⟩,hs⟩
  obtain rfl:L=q6 ws:=wD (by simp [hL1,q6]) (fun k hk=>by rw [hL2 k aj,if_pos aj,wB])
  refine nT ?_
  refine .ai (.z zm (.z zg (.nil ?_)))
  refine .ret (Fin.bF Tryz.results159 rfl ?_)
  obtain ⟨H1,g1,g2,hs⟩:=hs.bK .here
  refine ⟨H1,g1,?_,hs⟩
  rw [←hL1]
  exact Row.RI (spare:=[]) (by simpa using g2) _ (Nat.le_refl _) aj
theorem fF{v vw:Value}{s:aQ}{ws:List Int}(hs:St H w σ)(hr:RSy H v s)(hrw:RI H vw ws):
  Cl Tryz.prog 74 [v,vw] w fun v w'=>∃H1 lo hi e,HLe H H1∧v= .tuple #[I lo,I hi,I e]∧bQ s ws lo hi e∧St H1 w' σ:=by
 obtain ⟨vl,rfl,hr⟩:=hr
 refine Cl.o Tryz.func74 Tryz.ntmps74 ag2 ?_
 refine .ai ?_
 refine .bx hs fun b2 w hs=>?_
 refine .z zg (.z zg (.z zg (.nil (.ai (.y hs (zls [_,_] aV aA) (.z zm ?_))))))
 refine .o (.call Tryz.call158 rfl (iP (s:=s) hs ⟨_,rfl,hr⟩ hrw) ?_);rintro _ w ⟨H1,e,pf,hle1,rfl,hA,hs,hne,heq⟩
 refine .z zm (.z zex (.z zex (.z zg (.z zg (.nil (.seq (.ai (.z zm (.z m9 ?_)))))))))
 refine .nil ?_
 refine (.ie rfl (fun hc16=>?_) (fun hc16=>?_))
 ·refine .ai (.z zm (.z zg (.z zg (.z zg (.nil ?_)))))
  refine .ret (rT (Fin.B2 Tryz.results74 rfl rfl rfl ?_))
  exact ⟨H1,_,_,_,hle1,rfl,.first ⟨hA,fun _=>rfl,fun h=>(hc16 h).elim⟩ hc16,hs.tail⟩
 ·refine .skip ?_
  refine nT ?_
  refine .seq (.draw mix rfl hs fun w hs=>?_)
  refine .ys 0 rfl hs [_,_] aV aA ?_;refine .z 1 rfl zm ?_
  refine .E 2 hs ?_
  subst hc16
  obtain ⟨bf,bt,bl,cl,ts,lf,vl',sp,rfl,hF,hFo,hok,hsz⟩:=heq rfl
  have hwl:=(lZ hA.zero.1).2.1
  have hbw:∀k,-9223372036854775807≤gi ws k∧gi ws k≤9223372036854775807:=fun k=>by
   simp only [FF] at hsz
   by_cases hk:k<s.n
   ·have:=jv ws hk;omega
   ·have:gi ws k=0:=by simp [gi,List.getElem?_eq_none (show ws.length≤k by omega)]
    omega
  refine .call Tryz.call159 rfl (mL hs (hrw.mono hle1) (by have:=hok.m1;simp only [aQ.n] at hwl;omega) hbw) ?_;rintro v21 w ⟨H2,hle2,hr21,hs⟩
  refine .go ?_
  refine .E 3 hs ?_
  refine .call Tryz.call158 rfl (iP (s:=s) hs ⟨_,rfl,hr.mono (hle1.trans hle2)⟩ hr21) ?_;rintro _ w ⟨H3,e2,pg,hle3,rfl,hA2,hs,hne2,heq2⟩
  refine .go ?_
  refine .z 4 rfl zm ?_;refine .z 5 rfl zex ?_;refine .z 6 rfl zex ?_;refine .z 7 rfl zg ?_;refine .z 8 rfl zg ?_;refine .D hs ?_
  refine .seq (.ai (.z zm (.z m9 (.nil ?_))))
  refine (.ie rfl (fun hc26=>?_) (fun hc26=>?_))
  ·refine .ai (.z zm (.z zg (.z zg (.z zg (.nil ?_)))))
   refine .ret (rT (Fin.B2 Tryz.results74 rfl rfl rfl ?_))
   obtain ⟨q1,q2,q3,q4⟩:=hFo.value (by simp [aQ.n]) (by have:=hok.m0;have:=hok.m1;simp only [aQ.n];omega) hok.bD hsz
   exact ⟨H3,_,_,_,hle1.trans (hle2.trans hle3),rfl,.second ⟨hA,fun h=>(h rfl).elim,fun _=>⟨q1,q3,q4⟩⟩ ⟨hA2,fun _=>rfl,fun h=>(hc26 h).elim⟩ hc26,hs.tail⟩
  ·refine .skip ?_
   refine nT ?_
   refine .ai (.z zm ?_)
   subst hc26
   obtain ⟨bf2,bt2,bl2,cl2,ts2,lf2,vl2,sp2,rfl,hF2,hFo2,hok2,hsz2⟩:=heq2 rfl
   refine .o (.call Tryz.call160 rfl (fp hs hok hF2 hFo2 hsz2) ?_);rintro _ w ⟨rfl,a1,a2,a3,hs⟩
   simp only [BB] at a2 a3
   refine .z xh (.z zm ?_)
   refine .o (.call Tryz.call160 rfl (fp hs hok (hF.mono (hle2.trans hle3)) hFo hsz) ?_);rintro _ w ⟨rfl,c1,c2,c3,hs⟩
   refine .z zg (.z zg (.z zg (.nil ?_)))
   refine .ret (Fin.B2 Tryz.results74 rfl rfl rfl ?_)
   exact ⟨H3,_,_,_,hle1.trans (hle2.trans hle3),rfl,.ok ⟨hA,fun h=>(h rfl).elim,fun _=>⟨c1,c2,c3⟩⟩ ⟨hA2,fun h=>(h rfl).elim,fun _=>⟨a1,by simp only [BB];omega,by simp only [BB];omega⟩⟩,hs.tail⟩
end Go.Proofs.YtddaejgfjlneoaaGreat
namespace Go.Proofs.YtddaejgfjlneoaaGreat
open Go.MW
structure Pck where
 probes:List Int
 width:Int
 bound:Int
 uses:List Use
 fails:List (List Int×List Int)
def Pck.none:Pck:=⟨[],0,0,[],[]⟩
def BC(H:a8)(v:Value)(p:Pck):Prop:=∃(vp vu vf:Value) (css:List (List Value)),v= .agg #[vp,I p.width,I p.bound,vu,vf]∧RI H vp p.probes∧RU H vu p.uses∧RS H 2 vf css∧css.length=p.fails.length∧∀(j:Nat) (c:List Value) (t:List Int×List Int),css[j]? =some c→p.fails[j]? =some t→TwC H c t
theorem BC.nil(H:a8):BC H (.agg #[.slice none 0 0,I 0,I 0,.slice none 0 0,.slice none 0 0]) .none:=
 ⟨_,_,_,[],rfl,RS.nil _ _ _ _,RS.nil _ _ _ _,RS.nil _ _ _ _,rfl,fun _ _ _ h=>by simp at h⟩
def qT(a:ck)(b:Bool)(e:Int):Prop:=(eV a e∧e≠0∧b=false)∨(oO a∧e=0∧∃lo hi,bQ a.sys a.ws lo hi 0∧b=decide (hi - lo≤a.width))
def Ak(a:ck)(z x e:Int):Prop:=(eV a e∧e≠0∧x=0)∨(oO a∧e=0∧∃lo hi,bQ a.sys a.ws lo hi 0∧x=if z≤lo then 1 else if hi<z then 0 else 2)
theorem wT.uniq{a:ck}{n m e f:Int}(h:wT a n e)(g:wT a m f):n=m∧e=f:=by
 rcases h with ⟨h1,h2,h3⟩|⟨h1,h2,lo,hi,h3,h4⟩<;>rcases g with ⟨g1,g2,g3⟩|⟨g1,g2,lo',hi',g3,g4⟩
 ·exact ⟨by rw [h3,g3],h1.uniq g1⟩
 ·exact (h2 (h1.uniq (eV.zero.2 g1))).elim
 ·exact (g2 (g1.uniq (eV.zero.2 h1))).elim
 ·obtain ⟨rfl,rfl,-⟩:=h3.uniq g3;exact ⟨by rw [h4,g4],by rw [h2,g2]⟩
theorem qT.uniq{a:ck}{n m:Bool}{e f:Int}(h:qT a n e)(g:qT a m f):n=m∧e=f:=by
 rcases h with ⟨h1,h2,h3⟩|⟨h1,h2,lo,hi,h3,h4⟩<;>rcases g with ⟨g1,g2,g3⟩|⟨g1,g2,lo',hi',g3,g4⟩
 ·exact ⟨by rw [h3,g3],h1.uniq g1⟩
 ·exact (h2 (h1.uniq (eV.zero.2 g1))).elim
 ·exact (g2 (g1.uniq (eV.zero.2 h1))).elim
 ·obtain ⟨rfl,rfl,-⟩:=h3.uniq g3;exact ⟨by rw [h4,g4],by rw [h2,g2]⟩
theorem Ak.uniq{a:ck}{z n m e f:Int}(h:Ak a z n e)(g:Ak a z m f):n=m∧e=f:=by
 rcases h with ⟨h1,h2,h3⟩|⟨h1,h2,lo,hi,h3,h4⟩<;>rcases g with ⟨g1,g2,g3⟩|⟨g1,g2,lo',hi',g3,g4⟩
 ·exact ⟨by rw [h3,g3],h1.uniq g1⟩
 ·exact (h2 (h1.uniq (eV.zero.2 g1))).elim
 ·exact (g2 (g1.uniq (eV.zero.2 h1))).elim
 ·obtain ⟨rfl,rfl,-⟩:=h3.uniq g3;exact ⟨by rw [h4,g4],by rw [h2,g2]⟩
def wX(a:ck)(l:List Prb)(S:aQ)(W:List Int)(e:Int):Prop:=(eS a l e∧e≠0∧S=⟨0,[]⟩∧W=[])∨(eS a l 0∧e=0∧S=Bo a l∧W=Bn a.ws)
theorem wX.uniq{a:ck}{l:List Prb}{S T:aQ}{W V:List Int}{e f:Int}(h:wX a l S W e)(g:wX a l T V f):S=T∧W=V∧e=f:=by
 rcases h with ⟨h1,h2,h3,h4⟩|⟨h1,h2,h3,h4⟩<;>rcases g with ⟨g1,g2,g3,g4⟩|⟨g1,g2,g3,g4⟩
 ·exact ⟨by rw [h3,g3],by rw [h4,g4],h1.uniq g1⟩
 ·exact (h2 (h1.uniq g1)).elim
 ·exact (g2 (g1.uniq h1)).elim
 ·exact ⟨by rw [h3,g3],by rw [h4,g4],by rw [h2,g2]⟩
def wS(a:ck)(l:List Prb)(n e:Int):Prop:=(eS a l e∧e≠0∧n=0)∨(eS a l 0∧e=0∧nz a l n)
theorem wS.uniq{a:ck}{l:List Prb}{n m e f:Int}(h:wS a l n e)(g:wS a l m f):n=m∧e=f:=by
 rcases h with ⟨h1,h2,h3⟩|⟨h1,h2,h3⟩<;>rcases g with ⟨g1,g2,g3⟩|⟨g1,g2,g3⟩
 ·exact ⟨by rw [h3,g3],h1.uniq g1⟩
 ·exact (h2 (h1.uniq g1)).elim
 ·exact (g2 (g1.uniq h1)).elim
 ·exact ⟨h3.uniq g3,by rw [h2,g2]⟩
inductive CWR(a:ck)(l:List Prb)(n m:Int)(us:List Use):Int→Prop
 |ask {e:Int} (h:eS a l e) (he:e≠0):CWR a l n m us e
 |bad {e:Int} (h:eS a l 0) (h1:gO (Bo a l) (Bn a.ws) m us e) (he:e≠0):CWR a l n m us 24
 |more (h:eS a l 0) (h1:gO (Bo a l) (Bn a.ws) m us 0) (he:n<m):CWR a l n m us 94
 |ok (h:eS a l 0) (h1:gO (Bo a l) (Bn a.ws) m us 0) (he:¬n<m):CWR a l n m us 0
theorem CWR.uniq{a:ck}{l:List Prb}{n m:Int}{us:List Use}{e f:Int}(h:CWR a l n m us e)(g:CWR a l n m us f):e=f:=by
 cases h with
 |ask h he=>
  cases g with
  |ask g _=>exact h.uniq g
  |bad g _ _=>exact (he (h.uniq g)).elim
  |more g _ _=>exact (he (h.uniq g)).elim
  |ok g _ _=>exact (he (h.uniq g)).elim
 |bad h h1 he=>
  cases g with
  |ask g ge=>exact (ge (g.uniq h)).elim
  |bad g _ _=>rfl
  |more g g1 _=>exact (he (h1.uniq g1)).elim
  |ok g g1 _=>exact (he (h1.uniq g1)).elim
 |more h h1 he=>
  cases g with
  |ask g ge=>exact (ge (g.uniq h)).elim
  |bad g g1 ge=>exact (ge (g1.uniq h1)).elim
  |more g _ _=>rfl
  |ok g _ ge=>exact (ge he).elim
 |ok h h1 he=>
  cases g with
  |ask g ge=>exact (ge (g.uniq h)).elim
  |bad g g1 ge=>exact (ge (g1.uniq h1)).elim
  |more g _ ge=>exact (he ge).elim
  |ok g _ _=>rfl
end Go.Proofs.YtddaejgfjlneoaaGreat
namespace Go.Proofs.YtddaejgfjlneoaaGreat
open Go.MW
variable{H:a8}{w:World}{σ:List Ent}
theorem gD{v:Value}{l:List Int}{en:Ent}(hs:St H w (en::σ))(ho:bX 1 v (Is l) en)(hl:l.length≤1000000):
  Cl Tryz.prog 128 [v] w fun _ w'=>∃en',bX 1 v (Is l.reverse) en'∧St H w' (en'::σ):=by
 rcases ho with ⟨a,rfl,h2,rfl⟩|⟨b,len,cap,sp,rfl,rfl,h2,h3,h4⟩
 ·obtain rfl:l=[]:=by
   have:=congrArg List.length h2
   exact List.length_eq_zero_iff.1 (by simpa using this)
  have hs:=hs.tail
  refine Cl.o Tryz.func128 Tryz.ntmps128 ag1 ?_
  refine .ai (.z zm (.z (df ad) (.z iR (.z zg (.z zg (.nil (.block ?_)))))))
  refine .loop (fun _:Unit=>⟨28,[],[(2,I 0),(3,I (-1))]⟩) (fun _ w=>St H w σ) (fun _=>0) () cC hs ?_
  rintro _ w hs
  refine .seq (.ai (.z zm (.z zm (.z kX (.nil ?_)))))
  refine (.cW rfl (fun hc9=>?_) (fun hc9=>?_))
  ·omega
  ·refine .exit ?_
   refine xT (xT (xB ?_))
   exact Fin.sy Tryz.results128 ⟨.nul,.nil 1 a,hs.nul⟩
 obtain rfl:len=l.length:=by simpa using h2.symm
 refine Cl.o Tryz.func128 Tryz.ntmps128 ag1 ?_
 refine .ai (.z zm (.z (df ad) (.z iR (.z zg (.z zg (.nil (.block ?_)))))))
 refine .loop (fun p:Nat×List Int=>⟨28,[],[(2,I p.1),(3,I ((l.length:Int) - 1 - p.1)),(0,.slice (some ⟨b,0,none⟩) l.length cap)]⟩) (fun p w=>(2*p.1≤l.length+1∧js l p.2 p.1)∧St H w (.blk b (Is p.2++sp)::σ)) (fun p=>l.length - p.1) (0,l) (.cons rfl (.eU rfl cN (.cons rfl (.nil rfl rfl)))) ⟨⟨cN,.start l⟩,hs⟩ ?_
 rintro ⟨i,L⟩ w ⟨⟨h5,h6⟩,hs⟩
 dsimp only at h5 h6 hs ⊢
 have hL:=h6.1
 refine .seq (.ai (.z zm (.z zm (.z kX (.nil ?_)))))
 refine (.cW rfl (fun hc9=>?_) (fun hc9=>?_))
 ·refine .skip ?_
  refine nT ?_
  refine .seq (.block ?_)
  refine .draw mix rfl hs fun w hs=>?_
  refine .z 0 rfl zm ?_;refine .z 1 rfl zm ?_;refine .z 2 rfl zm ?_;refine .z 3 rfl zm ?_;refine .z 4 rfl zm ?_;refine .z 5 rfl zm ?_
  refine .z 6 rfl (gh (k:=l.length - 1 - i) rfl rfl ad ae aj aj) ?_
  refine .load (i:=7) hs rfl ay .none rfl af ?_ (hv:=dV aj sp)
  refine .z 8 rfl zm ?_;refine .z 9 rfl zm ?_
  first|(refine .ixv 10 rfl hs ad ae ?_;intro b24 o24 hc24)|refine .z 10 rfl (zix ad ae) ?_
  refine .load (i:=11) hs rfl ay .none rfl af ?_ (hv:=dV aj sp)
  first|(refine .ixv 12 rfl hs ad ae ?_;intro b26 o26 hc26)|refine .z 12 rfl (zix ad ae) ?_
  refine .E 13 hs ?_
  refine .store hs rfl rfl ae ?_ c9 (by simp;omega) (fZ aj sp _);intro w hs
  refine .go ?_
  refine .z 14 rfl (gh (k:=l.length - 1 - i) rfl rfl ad ae aj aj) ?_
  refine .E 15 hs ?_
  refine .store hs rfl rfl ae ?_ c9 (by simp;omega) (fZ (by simp;omega) sp _);intro w hs
  refine .go ?_
  refine .D hs ?_
  refine nB (nT ?_)
  refine .region (.z zm (.z cR (.z zm (.z iR (.z zg (.z zg (.nil ?_)))))))
  refine nT ?_
  exact ⟨(i+1,_),.cons rfl (.eU rfl (by push_cast;omega) (.cons rfl (.nil rfl rfl))),⟨⟨by dsimp only;omega,h6.step aj⟩,hs⟩,by dsimp only;omega⟩
 ·refine .exit ?_
  refine xT (xT (xB ?_))
  rw [h6.done aj] at hs
  exact Fin.sy Tryz.results128 ⟨_,.inr ⟨b,l.length,cap,sp,rfl,rfl,cN,by rw [←h3];simp,h4⟩,hs⟩
inductive zh(s:aQ)(xs:List Int):Int→Prop
 |bad (h:s.check≠0) (h1:xs=[]):zh s xs s.check
 |sound (h:s.Ok) (h1:s.Sound) (h2:xs=[]):zh s xs 0
 |chain {st:BS} {x:Arc} {z k:Nat} (h:s.Ok) (h1:¬s.Sound) (h2:BF s.n s.bD st (some x)) (h3:z=kx st.by_ x.t (s.n+1)) (h4:1≤k) (h5:k≤s.n) (h6:kx st.by_ z k=z) (h7:xs=(qx st.by_ z k).reverse):zh s xs 0
theorem zh.vE{s:aQ}{xs:List Int}(h:zh s xs 0):xs=[]↔s.Sound:=by
 generalize hz:(0:Int)=y at h
 cases h with
 |bad h=>exact (h hz.symm).elim
 |sound _ h1 h2=>exact ⟨fun _=>h1,fun _=>h2⟩
 | @chain st x z k _ h1 _ _ h4 _ _ h7=>exact ⟨fun h=>by
   have:=congrArg List.length (h7.symm.trans h)
   rw [List.length_reverse,jj] at this
   simp at this;omega,fun h=>(h1 h).elim⟩
theorem zh.err{s:aQ}{xs:List Int}{e:Int}(h:zh s xs e):e=s.check:=by
 cases h with
 |bad=>rfl
 |sound h=>exact (s.aH.2 h).symm
 |chain h=>exact (s.aH.2 h).symm
set_option maxHeartbeats 4000000 in
theorem nv{v:Value}{s:aQ}(hs:St H w σ)(hr:RSy H v s):
  Cl Tryz.prog 51 [v] w fun u w'=>∃H1 vx xs e,HLe H H1∧u= .tuple #[vx,I e]∧RI H1 vx xs∧zh s xs e∧St H1 w' σ:=by
 obtain ⟨u,rfl,hr⟩:=hr
 obtain ⟨al,cl,rfl⟩:=RL.shape hr
 refine Cl.o Tryz.func51 Tryz.ntmps51 ag1 ?_
 refine .ai ?_
 refine .bx hs fun b1 w hs=>?_
 refine .z zg (.z zg (.nil (.seq (.ai (.y hs (zls [_,_] aV aA) ?_)))))
 refine .o (.call Tryz.call125 rfl (fG (s:=s) hs ⟨_,rfl,hr⟩) ?_);rintro _ w ⟨rfl,hs⟩
 refine .z zg (.nil (.ai (.z zm (.z m9 (.nil ?_)))))
 refine (.ie rfl (fun hc14=>?_) (fun hc14=>?_))
 ·refine .ai (.z zm (.z zg (.z zg (.nil ?_))))
  refine .ret (rT (Fin.q5 Tryz.results51 rfl rfl ?_))
  exact ⟨H,_,[],_,HLe.refl H,rfl,RS.nil H 1 none 0,.bad hc14 rfl,hs.out⟩
 ·refine .skip ?_
  refine nT ?_
  refine .seq (.draw mix rfl hs fun w hs=>?_)
  refine .z 0 rfl (zfa aZ) ?_;refine .y 1 rfl hs af ?_;refine .ys 2 rfl hs [_,_] aV aA ?_
  refine .E 3 hs ?_
  have hok:s.Ok:=s.aH.1 (by simpa using hc14)
  have hoka:=hok.bD
  have hn:s.n=s.many.toNat+1:=rfl
  have hm0:=hok.m0
  have hm1:=hok.m1
  refine .call Tryz.call127 rfl (fE (s:=s) hs hok ⟨_,rfl,hr⟩) ?_;rintro _ w ⟨H1,b10,hle1,rfl,hit,hs⟩
  refine .go ?_
  refine .E 4 hs ?_
  have hnear:=gK (N:=s.many.toNat) hs aj (by rw [←hn];exact hoka) hit Tryz.call203
  rw [Int.toNat_of_nonneg hm0] at hnear
  refine .call Tryz.call126 rfl hnear ?_;rintro _ w ⟨H2,bc,bb,st,ov,vo,hle2,rfl,hov,hnr,hs⟩
  obtain ⟨a',rfl,ha'⟩:=hov.ptr
  refine .go ?_
  refine .z 5 rfl zm ?_;refine .z 6 rfl zex ?_;refine .z 7 rfl zex ?_;refine .z 8 rfl zex ?_;refine .z 9 rfl zg ?_;refine .z 10 rfl zg ?_;refine .z 11 rfl zg ?_;refine .D hs ?_
  refine .seq (.ai (.z zm ?_))
  refine .q hs (vV rfl rfl Tryz.runUnderlying183) ?_
  refine .nil ?_
  refine (.cond rfl (fun hc26=>?_) (fun hc26=>?_))
  ·refine .ai (.z zg (.z zg (.nil ?_)))
   refine .ret (rT (Fin.q5 Tryz.results51 rfl rfl ?_))
   exact ⟨H2,_,[],0,hle1.trans hle2,rfl,RS.nil H2 1 none 0,.sound hok (by
    obtain ⟨r,hN2,hr2⟩:=hnr
    cases ov with
    |none=>exact ⟨_,(hN2.sol (by rw [←hn];exact hoka) aj).1⟩
    |some x=>rw [ha'] at hc26;cases hc26) rfl,hs.out⟩
  ·refine .skip ?_
   refine nT ?_
   refine .ai (.z zm ?_)
   obtain ⟨x,rfl⟩:=OvR.yes ha' hc26
   obtain ⟨b3,e3,hrow⟩:=hov
   cases e3
   have hrowT:cellAt H2 b3 1=some (I x.t):=hrow.at 1
   have hmn:s.many+2=((s.many.toNat+2:Nat):Int):=by omega
   have hns:¬s.Sound:=by
    obtain ⟨r,hN2,hr2⟩:=hnr
    exact hN2.none (by rw [←hn];exact hoka) aj (by have:=hr2 cN;omega)
   obtain ⟨hlb,hrg,hxt⟩:st.by_.length=s.many.toNat+1∧(∀v<s.many.toNat+1,(ga st.by_ v).f<s.many.toNat+1)∧x.t<s.many.toNat+1:=by
    obtain ⟨r,hN2,hr2⟩:=hnr
    exact ⟨hN2.lb,fun v hv=>(hN2.rg v hv).1,(hoka.2 x (hN2.ovm x rfl)).2.1⟩
   have hpl:=fun k=>qm hrg hxt k
   refine .z znc (.z (zfa bG) ?_)
   refine .q hs (bj rfl af hrowT) ?_
   refine .z zg (.nil (.seq (.ai (.z (zfa aZ) (.y hs (zld af) (.z cR ?_))))))
   rw [hmn]
   refine .z zm (.nil ?_)
   refine .for (N:=s.many.toNat+2) (J:=fun k fr w=>fr=[(8,I (kx st.by_ x.t k)),(6,.slice (some ⟨bb,0,none⟩) (s.many.toNat+1) (s.many.toNat+1))]∧St H2 w (.blk bc (Is st.cost):: .blk bb (eT st.by_):: .blk b1 [I s.many,.slice al s.bn.length cl]::σ)) aj ?_ ?_ ?_
   ·exact .mk ⟨rfl,hs⟩
   ·rintro k fr w hk ⟨rfl,hs⟩
    refine .block (.region (.z zm (.z zm ?_)))
    refine .q hs (pI (k:=kx st.by_ x.t k) rfl rfl an aq rfl (hpl k)) ?_
    refine .z (zfa bC) ?_
    refine .q hs (fT rfl af (.there .here) (l7 (j:=0) (by rw [hlb];exact hpl k) ed)) ?_
    refine .z zg (.nil ?_)
    refine nB (nT ?_)
    exact .mk ⟨rfl,hs.out⟩
   ·rintro fr w ⟨rfl,hs⟩
    obtain ⟨pd,hp1,hp2,hp3⟩:=uE hrg hxt (m:=s.many.toNat+2) aj
    have hzl:=hpl (s.many.toNat+2)
    generalize hz:kx st.by_ x.t (s.many.toNat+2)=z at hp3 hzl ⊢
    have hzk:=fun k=>qm hrg hzl k
    refine nT ?_
    refine .ai (.z zg (.nil (.seq (.ai (.z zm (.z zg (.nil (.block ?_))))))))
    refine .loop (fun p:Nat×Value=>⟨62,[],[(9,p.2),(8,I (kx st.by_ z p.1)),(10,I z),(6,.slice (some ⟨bb,0,none⟩) (s.many.toNat+1) (s.many.toNat+1))]⟩)
     (fun p w=>p.1<pd∧∃en,bX 1 p.2 (Is (qx st.by_ z p.1)) en∧St H2 w (en:: .blk bc (Is st.cost):: .blk bb (eT st.by_):: .blk b1 [I s.many,.slice al s.bn.length cl]::σ))
     (fun p=>pd - p.1) (0,.slice none 0 0) cC
     ⟨aj,_,.nil 1 none,hs.nul⟩ ?_
    rintro ⟨k,v9⟩ w ⟨hk,en,hO,hs⟩
    dsimp only at hk hO ⊢
    refine .block (.ai (.z zm (.z zm (.z zm ?_))))
    refine .q hs (pI (k:=kx st.by_ z k) rfl rfl an aq rfl (hzk k)) ?_
    refine .z (zfa bT) ?_
    refine .q hs (fT rfl af (.there (.there .here)) (l7 (j:=3) (by rw [hlb];exact hzk k) ed)) ?_
    refine .o (.buildSlice (cells:=[_]) hs cz rfl rfl fun b49 w hs=>?_)
    refine .o (.append (ys:=[I (ga st.by_ (kx st.by_ z k)).l]) hs cy rfl rfl hO (.own .here rfl rfl) (by simp [Value.oneCell']) (fun l' h=>by simp [qx] at h;omega) ?_);intro v50 en50 w hO2 hs
    refine .z zg (.nil (.ai (.z zm (.z zm ?_))))
    refine .q hs (pI (k:=kx st.by_ z k) rfl rfl an aq rfl (hzk k)) ?_
    refine .z (zfa bC) ?_
    refine .q hs (fT rfl af (by repeat (first|exact .here|refine .there ?_)) (l7 (j:=0) (by rw [hlb];exact hzk k) ed)) ?_
    refine .z zg (.nil (.ai (.z zm (.z zm (.z j9 (.nil ?_))))))
    refine (.cW rfl (fun hc58=>?_) (fun hc58=>?_))
    ·refine .exit ?_
     refine xN (xT (xB (nT ?_)))
     refine .ai (.z zm ?_)
     have hO3:bX 1 v50 (Is (qx st.by_ z (k+1))) en50:=by rw [pO];simpa [Is] using hO2
     have hkz:kx st.by_ z (k+1)=z:=by
      have h3:((ga st.by_ (kx st.by_ z k)).f:Int)=z:=by simpa using hc58
      show (ga st.by_ (kx st.by_ z k)).f=z
      omega
     refine .o (.call Tryz.call128 rfl (gD hs hO3 (by rw [jj];omega)) ?_);rintro _ w ⟨en',hO4,hs⟩
     refine .nil (.ai (.z zm (.z zg (.z zg (.nil ?_)))))
     refine .ret (Fin.q5 Tryz.results51 rfl rfl ?_)
     obtain ⟨H3,hle3,hRI,hs⟩:=bX.cn hO4 (by rw [List.length_reverse,jj];omega) hs .here
     exact ⟨H3,_,_,0,hle1.trans (hle2.trans hle3),rfl,hRI,.chain hok hns (by rw [hn];exact hnr) (by rw [hn];exact hz.symm) aj aj hkz rfl,hs.sb⟩
    ·refine .skip ?_
     refine nB (nT ?_)
     exact ⟨(k+1,v50),cC,⟨by
      dsimp only
      have:k+1≠pd:=fun e=>hc58 (congrArg (Nat.cast:Nat→Int) (show kx st.by_ z (k+1)=z by rw [e];exact hp3))
      omega,en50,by rw [pO];simpa [Is] using hO2,hs.sb⟩,by dsimp only;omega⟩
end Go.Proofs.YtddaejgfjlneoaaGreat
namespace Go.Proofs.YtddaejgfjlneoaaGreat
open Go.MW
inductive sr(a:ck)(l:List Prb)(vs:List Int):Int→Prop
 |ask {e:Int} (h:eS a l e) (he:e≠0):sr a l vs e
 |size (h:eS a l 0) (h1:vs.length≠l.length):sr a l vs 92
 |ok (h:eS a l 0) (h1:vs.length=l.length):sr a l vs 0
theorem sr.zero{a:ck}{l:List Prb}{vs:List Int}(h:sr a l vs 0):eS a l 0∧vs.length=l.length:=by
 generalize hz:(0:Int)=y at h
 cases h with
 |ask _ he=>exact (he hz.symm).elim
 |size=>omega
 |ok h h1=>exact ⟨h,h1⟩
theorem sr.uniq{a:ck}{l:List Prb}{vs:List Int}{e f:Int}(h:sr a l vs e)(g:sr a l vs f):e=f:=by
 cases h with
 |ask h he=>
  cases g with
  |ask g _=>exact h.uniq g
  |size g _=>exact (he (h.uniq g)).elim
  |ok g _=>exact (he (h.uniq g)).elim
 |size h h1=>
  cases g with
  |ask g ge=>exact (ge (g.uniq h)).elim
  |size=>rfl
  |ok _ g1=>exact (h1 g1).elim
 |ok h h1=>
  cases g with
  |ask g ge=>exact (ge (g.uniq h)).elim
  |size _ g1=>exact (g1 h1).elim
  |ok=>rfl
structure j8(s:aQ)(x:List Int):Prop where
 len:x.length=s.n
 zero:gi x 0=0
 free:∀v<s.n,-1000000000≤gi x v∧gi x v≤1000000000
 uZ:c8 s.bD (gi x)
inductive AA(s:aQ)(x:List Int):Int→Prop
 |bad (h:s.check≠0):AA s x s.check
 |off (h:s.Ok) (h1:¬j8 s x):AA s x 25
 |ok (h:s.Ok) (h1:j8 s x):AA s x 0
theorem AA.uniq{s:aQ}{x:List Int}{e f:Int}(h:AA s x e)(g:AA s x f):e=f:=by
 cases h with
 |bad h=>
  cases g with
  |bad=>rfl
  |off g _=>exact (h (s.aH.2 g)).elim
  |ok g _=>exact (h (s.aH.2 g)).elim
 |off h h1=>
  cases g with
  |bad g=>exact (g (s.aH.2 h)).elim
  |off=>rfl
  |ok _ g1=>exact (h1 g1).elim
 |ok h h1=>
  cases g with
  |bad g=>exact (g (s.aH.2 h)).elim
  |off _ g1=>exact (g1 h1).elim
  |ok=>rfl
def Cj(a:ck)(p:Prb)(lo hi e:Int):Prop:=(eS a [p] e∧e≠0∧lo=0∧hi=0)∨(eS a [p] 0∧e=0∧∃l h,bQ a.sys (As a.sys.many p.u) l h 0∧lo=l - p.t∧hi=h+p.t)
theorem Cj.uniq{a:ck}{p:Prb}{lo hi e lo' hi' e':Int}(h:Cj a p lo hi e)(g:Cj a p lo' hi' e'):lo=lo'∧hi=hi'∧e=e':=by
 rcases h with ⟨h1,h2,h3,h4⟩|⟨h1,h2,l,u,h3,h4,h5⟩
 ·rcases g with ⟨g1,g2,g3,g4⟩|⟨g1,g2,_⟩
  ·exact ⟨aj,aj,h1.uniq g1⟩
  ·exact (h2 (h1.uniq g1)).elim
 ·rcases g with ⟨g1,g2,g3,g4⟩|⟨g1,g2,l',u',g3,g4,g5⟩
  ·exact (g2 (g1.uniq h1)).elim
  ·obtain ⟨rfl,rfl,_⟩:=h3.uniq g3
   exact ⟨aj,aj,aj⟩
def ud(a:ck)(A B:List Int)(k:Nat):Int:=au (fun i=>gi a.ws i*(gi B i - gi A i)) k
inductive ApR(a:ck)(l:List Prb)(A B:List Int):Int→Int→Prop
 |xY (h1:¬(j8 a.sys A∧j8 a.sys B)):ApR a l A B 0 25
 |far (h1:j8 a.sys A) (h2:j8 a.sys B) (h3:¬BR l (gi A) (gi B)):ApR a l A B 0 92
 |ok (h1:j8 a.sys A) (h2:j8 a.sys B) (h3:BR l (gi A) (gi B)):ApR a l A B (IntKind.i64.wrap (ud a A B a.ws.length)) 0
theorem ApR.uniq{a:ck}{l:List Prb}{A B:List Int}{n m e f:Int}(h:ApR a l A B n e)(g:ApR a l A B m f):n=m∧e=f:=by
 cases h with
 |xY h1=>
  cases g with
  |xY=>exact ⟨rfl,rfl⟩
  |far g1 g2 _=>exact (h1 ⟨g1,g2⟩).elim
  |ok g1 g2 _=>exact (h1 ⟨g1,g2⟩).elim
 |far h1 h2 h3=>
  cases g with
  |xY g1=>exact (g1 ⟨h1,h2⟩).elim
  |far=>exact ⟨rfl,rfl⟩
  |ok _ _ g3=>exact (h3 g3).elim
 |ok h1 h2 h3=>
  cases g with
  |xY g1=>exact (g1 ⟨h1,h2⟩).elim
  |far _ _ g3=>exact (g3 h3).elim
  |ok=>exact ⟨rfl,rfl⟩
def Ck(a:ck)(l:List Prb)(A B:List Int)(n e:Int):Prop:=(eS a l e∧e≠0∧n=0)∨(eS a l 0∧ApR a l A B n e)
theorem Ck.uniq{a:ck}{l:List Prb}{A B:List Int}{n m e f:Int}(h:Ck a l A B n e)(g:Ck a l A B m f):n=m∧e=f:=by
 rcases h with ⟨h1,h2,h3⟩|⟨h1,h2⟩
 ·rcases g with ⟨g1,g2,g3⟩|⟨g1,g2⟩
  ·exact ⟨aj,h1.uniq g1⟩
  ·exact (h2 (h1.uniq g1)).elim
 ·rcases g with ⟨g1,g2,g3⟩|⟨g1,g2⟩
  ·exact (g2 (g1.uniq h1)).elim
  ·exact h2.uniq g2
structure BA(a:ck)(l:List Prb)(A B:List Int):Prop where
 kA:j8 a.sys A
 kB:j8 a.sys B
 near:BR l (gi A) (gi B)
 most:nz a l (ud a A B a.ws.length)
 meet:zR A B l=0
theorem Aq.uniq{a:ck}{l:List Prb}{x y e f:Int}(h:Aq a l x e)(g:Aq a l y f):x=y∧e=f:=by
 rcases h with ⟨h1,h2,h3⟩|⟨i,n,h1,h2,h3⟩
 ·rcases g with ⟨g1,g2,g3⟩|⟨j,m,g1,g2,g3⟩
  ·exact ⟨aj,aj⟩
  ·subst h1;have:=g3.lt;simp at this
 ·rcases g with ⟨g1,g2,g3⟩|⟨j,m,g1,g2,g3⟩
  ·subst g1;have:=h3.lt;simp at this
  ·refine ⟨?_,aj⟩
   have e1:=h3.le j g3.lt m g3.here
   have e2:=g3.le i h3.lt n h3.here
   rcases Nat.lt_trichotomy i j with e|e|e
   ·have:=g3.first i e n h3.here;omega
   ·omega
   ·have:=h3.first j e m g3.here;omega
theorem BA.wrap{a:ck}{l:List Prb}{A B:List Int}(hok:oO a)(h:BA a l A B)(hin:∀p∈l,wW a p):IntKind.i64.wrap (ud a A B a.ws.length)=ud a A B a.ws.length:=by
 obtain ⟨lo,hi,hR⟩:=hok.range
 have hb:=hR.bd
 obtain ⟨⟨x,y,g1,g2⟩,g3⟩:=h.most
 have h1:=u5.le hR g1
 obtain ⟨z,hz⟩:=u5.some hok hin
 have h2:=g3 z z hz
 exact eO aj
def gtw(p:Pck)(j:Nat):List Int×List Int:=p.fails.getD j ([],[])
structure BI(a:ck)(l:List Prb)(p:Pck)(k:Nat):Prop where
 here:(lO l.length)[k]? =some p.probes
 len:p.fails.length=k
 width:p.width≤a.width
 worst:CWR a (mK l p.probes) p.width p.bound p.uses 0
 fails:∀(j:Nat) (cj:List Int),j<k→(lO l.length)[j]? =some cj→∃n,ApR a (mK l cj) (gtw p j).1 (gtw p j).2 n 0∧a.width<n
def Al(a:ck)(l:List Prb)(p:Pck)(e:Int):Prop:=(eS a l e∧e≠0)∨(eS a l 0∧((e=0∧∃k,BI a l p k)∨(e=93∧¬∃k,BI a l p k)))
theorem Al.uniq{a:ck}{l:List Prb}{p:Pck}{e f:Int}(h:Al a l p e)(g:Al a l p f):e=f:=by
 rcases h with ⟨h1,h2⟩|⟨h1,h2⟩
 ·rcases g with ⟨g1,g2⟩|⟨g1,g2⟩
  ·exact h1.uniq g1
  ·exact (h2 (h1.uniq g1)).elim
 ·rcases g with ⟨g1,g2⟩|⟨g1,g2⟩
  ·exact (g2 (g1.uniq h1)).elim
  ·rcases h2 with ⟨h2,h3⟩|⟨h2,h3⟩<;>rcases g2 with ⟨g2,g3⟩|⟨g2,g3⟩
   ·omega
   ·exact (g3 h3).elim
   ·exact (h3 g3).elim
   ·omega
end Go.Proofs.YtddaejgfjlneoaaGreat
namespace Go.Proofs
open Go.Shelf
def Tryz.s5:Go.Shelf.Ren:=⟨fun|189=>138|125=>209|257=>208|128=>262|129=>263|294=>253|295=>254|296=>255|297=>256|298=>257|299=>258|216=>259|300=>260|301=>261|328=>282|329=>283|330=>284|331=>285|332=>286|215=>287|343=>296|n=>n,fun|28=>22|3=>3|46=>250|0=>0|51=>285|53=>287|4=>4|183=>279|182=>278|131=>282|5=>5|9=>9|218=>304|222=>308|228=>318|229=>275|n=>n,fun|n=>n⟩
theorem Tryz.wv:Go.Proofs.Lays.n189 Tryz.prog Tryz.s5:={
 mixed:=by kernel_rfl
 f125:=Tryz.func209.trans (congrArg some (by kernel_rfl))
 f128:=Tryz.func262.trans (congrArg some (by kernel_rfl))
 f129:=Tryz.func263.trans (congrArg some (by kernel_rfl))
 f189:=Tryz.func138.trans (congrArg some (by kernel_rfl))
 f215:=Tryz.func287.trans (congrArg some (by kernel_rfl))
 f216:=Tryz.func259.trans (congrArg some (by kernel_rfl))
 f257:=Tryz.func208.trans (congrArg some (by kernel_rfl))
 f294:=Tryz.func253.trans (congrArg some (by kernel_rfl))
 f295:=Tryz.func254.trans (congrArg some (by kernel_rfl))
 f296:=Tryz.func255.trans (congrArg some (by kernel_rfl))
 f297:=Tryz.func256.trans (congrArg some (by kernel_rfl))
 f298:=Tryz.func257.trans (congrArg some (by kernel_rfl))
 f299:=Tryz.func258.trans (congrArg some (by kernel_rfl))
 f300:=Tryz.func260.trans (congrArg some (by kernel_rfl))
 f301:=Tryz.func261.trans (congrArg some (by kernel_rfl))
 f328:=Tryz.func282.trans (congrArg some (by kernel_rfl))
 f329:=Tryz.func283.trans (congrArg some (by kernel_rfl))
 f330:=Tryz.func284.trans (congrArg some (by kernel_rfl))
 f331:=Tryz.func285.trans (congrArg some (by kernel_rfl))
 f332:=Tryz.func286.trans (congrArg some (by kernel_rfl))
 f343:=Tryz.func296.trans (congrArg some (by kernel_rfl))
 t0:=Tryz.underlying0
 a0:=Tryz.isAgg0
 z0:=Tryz.sizeOf0
 v0:=Tryz.zeroValue0
 t3:=Tryz.underlying3
 a3:=Tryz.isAgg3
 z3:=Tryz.sizeOf3
 v3:=Tryz.zeroValue3
 t4:=Tryz.underlying4
 a4:=Tryz.isAgg4
 z4:=Tryz.sizeOf4
 v4:=Tryz.zeroValue4
 t5:=Tryz.underlying5
 a5:=Tryz.isAgg5
 z5:=Tryz.sizeOf5
 v5:=Tryz.zeroValue5
 t9:=Tryz.underlying9
 a9:=Tryz.isAgg9
 z9:=Tryz.sizeOf9
 v9:=Tryz.zeroValue9
 t28:=Tryz.underlying22
 a28:=Tryz.isAgg22
 z28:=Tryz.sizeOf22
 v28:=Tryz.zeroValue22
 t46:=Tryz.underlying250
 a46:=Tryz.isAgg250
 z46:=Tryz.sizeOf250
 v46:=Tryz.zeroValue250
 t51:=Tryz.underlying285
 a51:=Tryz.isAgg285
 z51:=Tryz.sizeOf285
 v51:=Tryz.zeroValue285
 t53:=Tryz.underlying287
 a53:=Tryz.isAgg287
 z53:=Tryz.sizeOf287
 v53:=Tryz.zeroValue287
 t131:=Tryz.underlying282
 a131:=Tryz.isAgg282
 z131:=Tryz.sizeOf282
 v131:=Tryz.zeroValue282
 t182:=Tryz.underlying278
 a182:=Tryz.isAgg278
 z182:=Tryz.sizeOf278
 v182:=Tryz.zeroValue278
 t183:=Tryz.underlying279
 a183:=Tryz.isAgg279
 z183:=Tryz.sizeOf279
 v183:=Tryz.zeroValue279
 t218:=Tryz.underlying304
 a218:=Tryz.isAgg304
 z218:=Tryz.sizeOf304
 v218:=Tryz.zeroValue304
 t222:=Tryz.underlying308
 a222:=Tryz.isAgg308
 z222:=Tryz.sizeOf308
 v222:=Tryz.zeroValue308
 t228:=Tryz.underlying318
 a228:=Tryz.isAgg318
 z228:=Tryz.sizeOf318
 v228:=Tryz.zeroValue318
 t229:=Tryz.underlying275
 a229:=Tryz.isAgg275
 z229:=Tryz.sizeOf275
 v229:=Tryz.zeroValue275}
def Tryz.rK:Go.Shelf.Ren:=⟨fun|20=>139|n=>n,fun|22=>22|3=>3|4=>4|0=>0|n=>n,fun|n=>n⟩
theorem Tryz.tL:Go.Proofs.Lays2.n20 Tryz.prog Tryz.rK:={
 mixed:=by kernel_rfl
 f20:=Tryz.func139.trans (congrArg some (by kernel_rfl))
 t0:=Tryz.underlying0
 a0:=Tryz.isAgg0
 z0:=Tryz.sizeOf0
 v0:=Tryz.zeroValue0
 t3:=Tryz.underlying3
 a3:=Tryz.isAgg3
 z3:=Tryz.sizeOf3
 v3:=Tryz.zeroValue3
 t4:=Tryz.underlying4
 a4:=Tryz.isAgg4
 z4:=Tryz.sizeOf4
 v4:=Tryz.zeroValue4
 t22:=Tryz.underlying22
 a22:=Tryz.isAgg22
 z22:=Tryz.sizeOf22
 v22:=Tryz.zeroValue22
 i3:=by kernel_rfl}
end Go.Proofs
namespace Go.Proofs.YtddaejgfjlneoaaGreat
open Go.Sort Go.RowKit
theorem xv(blk off cap:Nat)(zs:List Int)(w:World)(hH:Holds (Value.int .i64) w blk off zs.toArray)(hblk:blk<w.heap.size)(hsz:zs.length<4611686018427387904):
  Calls Tryz.prog 138 #[.slice (some ⟨blk,off,none⟩) zs.length cap] w fun e w'=>e= .returned (.tuple #[])∧∃n os,w'=grow (putRow (Value.int .i64) (Sort.ahead w n) blk off (zs.mergeSort fun x y=>decide (x≤y)).toArray) os:=
 Any.slices_Sort_int Tryz.wv blk off cap zs w hH hblk hsz
theorem qh(p:Option Addr)(cap:Nat)(w:World):Calls Tryz.prog 138 #[.slice p 0 cap] w fun e w'=>e= .returned (.tuple #[])∧w'=w:=
 Any.slices_Sort_int_none Tryz.wv p cap w
theorem sJ(blk off cap:Nat)(zs:List Int)(w:World)(hH:Holds (Value.int .i64) w blk off zs.toArray)(hsz:zs.length≤9223372036854775807)(hcap:zs.length≤cap):
  Calls Tryz.prog 139 #[.slice (some ⟨blk,off,none⟩) zs.length cap] w fun e w'=>e= .returned (.slice (some ⟨blk,off,none⟩) (Lib.compact zs).length cap)∧∃q,w'=putRow (Value.int .i64) (Sort.ahead w q) blk off (Lib.compact zs++List.replicate (zs.length - (Lib.compact zs).length) 0).toArray:=
 Any.slices_Compact_int Tryz.tL blk off cap zs w hH hsz hcap
theorem ni(p:Option Addr)(cap:Nat)(w:World):Calls Tryz.prog 139 #[.slice p 0 cap] w fun e w'=>e= .returned (.slice p 0 cap)∧w'=w:=
 Any.slices_Compact_int_empty Tryz.tL p cap w
end Go.Proofs.YtddaejgfjlneoaaGreat
namespace Go.Proofs.YtddaejgfjlneoaaGreat
open Go.MW
variable{H:a8}{w:World}{σ:List Ent}
theorem nk{v:Value}{ls:List Int}{x:Int}(hs:St H w σ)(hr:RI H v ls):
  Cl Tryz.prog 205 [v,I x] w fun u w'=>∃i,u=I i∧(0≤i↔x∈ls)∧St H w' σ:=by
 obtain ⟨a,c,rfl⟩:=RI.shape hr
 have hl:=(RI.len hr).2.2
 refine Cl.o Tryz.func205 Tryz.ntmps205 ag2 ?_
 refine .ai (.z zg (.nil (.seq (.ai (.z zm (.z (df ad) (.z zm (.nil ?_))))))))
 refine .for (N:=ls.length) (J:=fun k fr w=>fr=[(1,I x),(0,.slice a ls.length c)]∧St H w σ∧∀j<k,∀y,ls[j]? =some y→¬x=y) aj ?_ ?_ ?_
 ·exact .mk ⟨rfl,hs,fun j hj=>by omega⟩
 ·rintro k fr w hk ⟨rfl,hs,hno⟩
  obtain ⟨y,hy⟩:=nth hk
  refine .block (.ai (.z zm (.z zg (.nil (.ai (.z zm (.z zm (.z zm ?_))))))))
  refine .ixY hs hr rfl rfl ad ae hy rfl ?_;intro b14 o14 hc14
  refine .q hs (bj rfl af hc14) ?_
  refine .z j9 (.nil ?_)
  refine (.cW rfl (fun hc16=>?_) (fun hc16=>?_))
  ·refine .ai (.z zm (.z zg (.nil ?_)))
   refine .ret (rB (rT (rB (rT (Fin.bF Tryz.results205 rfl ?_)))))
   exact ⟨_,rfl,⟨fun _=>by rw [hc16];exact List.mem_of_getElem? hy,fun _=>by omega⟩,hs⟩
  ·refine .skip ?_
   refine nB (nT ?_)
   exact .mk ⟨rfl,hs,ek hno hy hc16⟩
 ·rintro fr w ⟨rfl,hs,hno⟩
  refine nT ?_
  refine .ai (.z zg (.nil ?_))
  refine .ret (Fin.bF Tryz.results205 rfl ?_)
  exact ⟨_,rfl,⟨fun h=>by omega,fun h=>by
   obtain ⟨j,hj⟩:=List.getElem?_of_mem h
   exact (hno j (List.getElem?_eq_some_iff.1 hj).1 x hj rfl).elim⟩,hs⟩
theorem kn{v:Value}{ls:List Int}{x:Int}(hs:St H w σ)(hr:RI H v ls):
  Cl Tryz.prog 130 [v,I x] w fun u w'=>u= .bool (decide (x∈ls))∧St H w' σ:=by
 refine Cl.o Tryz.func130 Tryz.ntmps130 ag2 ?_
 refine .ai (.z zg (.nil (.ai (.z zm (.z zm ?_)))))
 refine .o (.call Tryz.call205 rfl (nk hs hr) ?_);rintro _ w ⟨i,rfl,hi,hs⟩
 refine .z xi (.z zg (.nil ?_))
 refine .ret (Fin.bF Tryz.results130 rfl ?_)
 exact ⟨by simp only [hi],hs⟩
set_option maxHeartbeats 1000000 in
theorem oE{v:Value}{s:aQ}{g:Nat}{cap:List Value}(q:Nat→Lim→Bool)(hs:St H w σ)(hr:RSy H v s)(hlen:s.bn.length≤4398046510976)(hc:∀args w,(callFunc g args).run Tryz.prog w= .ok (.enter g args) w)
  (hp:∀w σ (k:Nat) (l:Lim),s.bn[k]? =some l→St H w σ→Cl Tryz.prog g ([I k,.agg l.c.toArray]++cap) w fun u w'=>u= .bool (q k l)∧St H w' σ):
  Cl Tryz.prog 131 [v,.func (.func g) #[] cap.toArray] w fun u w'=>∃H1,HLe H H1∧RSy H1 u ⟨s.many,fH q s.bn s.bn.length⟩∧St H1 w' σ:=by
 obtain ⟨ul,rfl,hl⟩:=hr
 obtain ⟨al,cl,rfl⟩:=RL.shape hl
 refine Cl.o Tryz.func131 Tryz.ntmps131 ag2 ?_
 refine .ai ?_
 refine .bx hs fun b2 w hs=>?_
 refine .o (.alloc hs ec rfl fun b4 w hs=>?_)
 refine .nil (.ai (.z (zfa aZ) (.y hs (zld af) (.z (zbd [_,_] jY) ?_))))
 refine .o (.alloc hs ec rfl fun b5 w hs=>?_)
 refine .o (.aP (vs:=[_,_]) hs rfl rfl aA fun w hs=>?_)
 refine .nil (.seq (.ai (.z (zfa bp) (.y hs (zld cK) (.z (df aN) (.z zm (.nil ?_)))))))
 refine .for (N:=s.bn.length) (J:=fun k fr w=>fr=[(12,.slice al s.bn.length cl),(1,.func (.func g) #[] cap.toArray),(5,.pointer (some ⟨b5,0,none⟩)),(4,.pointer (some ⟨b4,0,none⟩))]∧∃vL en,bX 4 vL (gd (fH q s.bn k)) en∧St H w (.blk b5 [I s.many,vL]:: .blk b4 [I 0,.slice none 0 0]::en::σ)) aj ?_ ?_ ?_
 ·exact .mk ⟨rfl,_,_,.nil 4 none,hs.nul.sb⟩
 ·rintro k fr w hk ⟨rfl,vL,en,hO,hs⟩
  obtain ⟨x,hx⟩:=nth (l:=s.bn) hk
  obtain ⟨aL,lL,cL,rfl,hL⟩:=hO.shape
  have hpl:=iA q s.bn k
  refine .block (.ai (.z zm ?_))
  refine .ixX hs hl rfl rfl aN bh hx rfl ?_;intro b17 o17 hc17
  refine .q hs (dc (vs:=x.c) rfl iF bh hc17) ?_
  refine .o (.alloc hs eC rfl fun b7 w hs=>?_)
  refine .z zg ?_
  refine .o (.aP (vs:=x.c) hs rfl rfl bh fun w hs=>?_)
  refine .nil (.ai (.z zm (.z zm (.y hs (zls [_,_,_,_] iF bh) ?_))))
  refine .o (.lP (first:=[]) (cap:=cap) rfl rfl hc (hp _ _ k x hx hs) ?_);rintro _ w ⟨rfl,hs⟩
  refine .nil ?_
  refine (.cond rfl (fun hc22=>?_) (fun hc22=>?_))
  ·refine .region (.z (zfa bp) (.y hs (zld cK) (.y hs (zls [_,_,_,_] iF bh) ?_)))
   refine .o (.buildSlice (cells:=x.c) hs lV rfl rfl fun b26 w hs=>?_)
   refine .o (.append (ys:=x.c) hs da rfl rfl hO (.own .here rfl rfl) (by simp [Lim.c,Value.oneCell']) (fun l h=>by rw [fc] at h;omega) ?_);intro v27 en27 w hO2 hs
   obtain ⟨a27,l27,c27,rfl,h27⟩:=hO2.shape
   refine .z (zfa bp) ?_
   refine .o (.store hs rfl rfl ma fun w hs=>?_)
   refine .nil ?_
   refine nB (nT ?_)
   have e:fH q s.bn (k+1)=fH q s.bn k++[x]:=by rw [kv hx,if_pos hc22]
   rw [←yO,←kR,←e] at hO2
   exact .mk ⟨rfl,_,_,hO2,hs.sb⟩
  ·refine .skip ?_
   refine nB (nT ?_)
   have e:fH q s.bn (k+1)=fH q s.bn k:=by rw [kv hx,hc22];simp
   exact .mk ⟨rfl,_,_,by rw [e];exact hO,hs.sb⟩
 ·rintro fr w ⟨rfl,vL,en,hO,hs⟩
  obtain ⟨aL,lL,cL,rfl,hL⟩:=hO.shape
  have hpl:=iA q s.bn s.bn.length
  refine nT ?_
  refine .ai (.y hs (zls [_,_] aV aA) ?_)
  refine .o (.aP (vs:=[_,_]) hs rfl rfl aA fun w hs=>?_)
  refine .nil ?_
  refine .ret ?_
  obtain ⟨H1,g1,r1,hs⟩:=bX.bK (m:=4) (cs:=(fH q s.bn s.bn.length).map Lim.c) hO (fun c hc=>by simp only [List.mem_map] at hc;obtain ⟨x,_,rfl⟩:=hc;rfl) aj (by rw [List.length_map];omega) hs c9
  exact Fin.gR [] [] hs fun w hs=>⟨_,results1 Tryz.results131 (dF (vs:=[_,_]) hs rfl aV aA),H1,g1,⟨_,rfl,r1⟩,hs.out⟩
theorem oF{b:Nat}{i:Int}{l:Lim}{vb:Value}{bs:List Int}(hs:St H w σ)(hb:Row H b [vb])(hr:RI H vb bs):
  Cl Tryz.prog 207 [I i,.agg l.c.toArray,.pointer (some ⟨b,0,none⟩)] w fun u w'=>u= .bool (!decide (l.S∈bs))∧St H w' σ:=by
 have hb0:cellAt H b 0=some vb:=by rw [hb.cell];rfl
 refine Cl.o Tryz.func207 Tryz.ntmps207 ag3 ?_
 refine .ai ?_
 refine .bx hs fun b4 w hs=>?_
 refine .z zg (.nil (.ai (.y hs (zld ak) (.z (zfa gV) (.y hs (zld af) ?_)))))
 refine .o (.call Tryz.call130 rfl (kn hs hr) ?_);rintro _ w ⟨rfl,hs⟩
 refine .z jb (.z zg (.nil ?_))
 refine .ret (Fin.bF Tryz.results207 rfl ?_)
 exact ⟨rfl,hs.out⟩
theorem lT{v vb:Value}{s:aQ}{bs:List Int}(hs:St H w σ)(hr:RSy H v s)(hb:RI H vb bs)(hlen:s.bn.length≤4398046510976):
  Cl Tryz.prog 136 [v,vb] w fun u w'=>∃H1,HLe H H1∧RSy H1 u (s.wo bs)∧St H1 w' σ:=by
 obtain ⟨ul,rfl,hl⟩:=hr
 obtain ⟨al,cl,rfl⟩:=RL.shape hl
 obtain ⟨ab,cb,rfl⟩:=RI.shape hb
 refine Cl.o Tryz.func136 Tryz.ntmps136 ag2 ?_
 refine .ai ?_
 refine .bx hs fun b2 w hs=>?_
 refine .bx hs fun b3 w hs=>?_
 refine .o (.alloc hs ec rfl fun b4 w hs=>?_)
 refine .nil (.ai (.y hs (zls [_,_] aV aA) ?_))
 refine .q hs (bO (f:=[]) (c:=[_]) rfl rfl) ?_
 obtain ⟨H1,hle1,r3,hs⟩:=hs.bK (b:=b3) c9
 refine .o (.call Tryz.call131 rfl (oE (g:=207) (cap:=[.pointer (some ⟨b3,0,none⟩)]) (s:=s) (fun _ l=> !decide (l.S∈bs)) hs ⟨_,rfl,hl.mono hle1⟩ hlen Tryz.call207 (fun w σ k l _ hs=>oF hs r3 (hb.mono hle1))) ?_);rintro _ w ⟨H2,hle2,⟨u7,rfl,hL7⟩,hs⟩
 rw [uD] at hL7
 obtain ⟨a7,c7,rfl⟩:=RL.shape hL7
 refine .o (.aP (vs:=[_,_]) hs rfl rfl aA fun w hs=>?_)
 refine .nil ?_
 refine .ret ?_
 exact Fin.gR [] [] hs fun w hs=>⟨_,results1 Tryz.results136 (dF (vs:=[_,_]) hs rfl aV aA),H2,hle1.trans hle2,⟨_,rfl,hL7⟩,hs.out⟩
theorem oa{b cap:Nat}{xs:List Int}{sp:List Value}(hs:St H w (.blk b (Is xs++sp)::σ))(hl:xs.length≤17592186044416):
  Cl Tryz.prog 138 [.slice (some ⟨b,0,none⟩) xs.length cap] w fun u w'=>u= .tuple #[]∧St H w' (.blk b (Is (xs.mergeSort fun x y=>decide (x≤y))++sp)::σ):=
 (xv b 0 cap xs w hs.holds (hs.lt .here) aj).mono fun e w' ⟨he,m,os,hw⟩=>⟨_,he,rfl,by
  rw [hw]
  exact (hs.putRow (List.length_mergeSort _)).grow os⟩
theorem nj{a:Option Addr}{cap:Nat}(hs:St H w σ):
  Cl Tryz.prog 138 [.slice a 0 cap] w fun u w'=>u= .tuple #[]∧St H w' σ:=
 (qh a cap w).mono fun e w' ⟨he,hw⟩=>⟨_,he,rfl,by rw [hw];exact hs⟩
theorem lh{b cap:Nat}{xs:List Int}{sp:List Value}(hs:St H w (.blk b (Is xs++sp)::σ))(hl:xs.length≤17592186044416)(hcap:xs.length≤cap):
  Cl Tryz.prog 139 [.slice (some ⟨b,0,none⟩) xs.length cap] w fun u w'=>u= .slice (some ⟨b,0,none⟩) (Go.Lib.compact xs).length cap∧St H w' (.blk b (Is (Go.Lib.compact xs)++(Is (List.replicate (xs.length - (Go.Lib.compact xs).length) 0)++sp))::σ):=
 (sJ b 0 cap xs w hs.holds aj hcap).mono fun e w' ⟨he,m,hw⟩=>⟨_,he,rfl,by
  rw [hw]
  have h:=Go.Lib.compact_length_le xs
  have:=hs.putRow (m:=m) (ys:=Go.Lib.compact xs++List.replicate (xs.length - (Go.Lib.compact xs).length) 0) (by simp;omega)
  have e2:Is (Go.Lib.compact xs++List.replicate (xs.length - (Go.Lib.compact xs).length) 0)=Is (Go.Lib.compact xs)++Is (List.replicate (xs.length - (Go.Lib.compact xs).length) 0):=List.map_append
  rw [e2,List.append_assoc] at this
  exact this⟩
theorem kq{a:Option Addr}{cap:Nat}(hs:St H w σ):
  Cl Tryz.prog 139 [.slice a 0 cap] w fun u w'=>u= .slice a 0 cap∧St H w' σ:=
 (ni a cap w).mono fun e w' ⟨he,hw⟩=>⟨_,he,rfl,by rw [hw];exact hs⟩
theorem pb{v:Value}{xs:List Int}{en:Ent}(hs:St H w (en::σ))(hO:bX 1 v (Is xs) en)(hl:xs.length≤17592186044416):
  Cl Tryz.prog 204 [v] w fun u w'=>∃L en',bX 1 u (Is L) en'∧L.length≤xs.length∧dy (fun x=>x∈xs) L∧St H w' (en'::σ):=by
 rcases hO with ⟨a,rfl,h0,rfl⟩|⟨b,len,cap,sp,rfl,rfl,h3,h4,h5⟩
 ·have hx:xs=[]:=by simpa using h0
  subst hx
  refine Cl.o Tryz.func204 Tryz.ntmps204 ag1 ?_
  refine .ai (.z zg (.nil (.ai (.z zm ?_))))
  refine .o (.call Tryz.call138 rfl (nj hs) ?_);rintro _ w ⟨rfl,hs⟩
  refine .nil (.ai (.z zm ?_))
  refine .o (.call Tryz.call139 rfl (kq hs) ?_);rintro _ w ⟨rfl,hs⟩
  refine .z zg (.nil ?_)
  refine .ret (Fin.bF Tryz.results204 rfl ?_)
  exact ⟨[],_,.nil 1 a,cN,.nil cN,hs.out⟩
 ·obtain rfl:len=xs.length:=by simpa using h3.symm
  refine Cl.o Tryz.func204 Tryz.ntmps204 ag1 ?_
  refine .ai (.z zg (.nil (.ai (.z zm ?_))))
  refine .o (.call Tryz.call138 rfl (oa hs hl) ?_);rintro _ w ⟨rfl,hs⟩
  refine .nil (.ai (.z zm ?_))
  have hml:(xs.mergeSort fun x y=>decide (x≤y)).length=xs.length:=List.length_mergeSort _
  rw [←hml]
  refine .o (.call Tryz.call139 rfl (lh hs aj aj) ?_);rintro _ w ⟨rfl,hs⟩
  refine .z zg (.nil ?_)
  refine .ret (Fin.bF Tryz.results204 rfl ?_)
  have hcl:=Go.Lib.compact_length_le (xs.mergeSort fun x y=>decide (x≤y))
  have h4':xs.length+sp.length=cap:=by simpa using h4
  exact ⟨_,_,.inr ⟨b,_,cap,Is (List.replicate ((xs.mergeSort fun x y=>decide (x≤y)).length - (Go.Lib.compact (xs.mergeSort fun x y=>decide (x≤y))).length) 0)++sp,rfl,rfl,cN,by simp;omega,aj⟩,aj,sK,hs⟩
theorem gL{v:Value}{s:aQ}(hs:St H w σ)(hr:RSy H v s)(hlen:s.bn.length≤4398046510976):
  Cl Tryz.prog 129 [v] w fun u w'=>∃L en,bX 1 u (Is L) en∧L.length≤s.bn.length∧dy (yM s.bn) L∧St H w' (en::σ):=by
 obtain ⟨ul,rfl,hl⟩:=hr
 obtain ⟨al,cl,rfl⟩:=RL.shape hl
 refine Cl.o Tryz.func129 Tryz.ntmps129 ag1 ?_
 refine .ai ?_
 refine .bx hs fun b1 w hs=>?_
 refine .z zg (.nil (.ai (.z zg (.nil (.seq (.ai (.z (zfa bp) (.y hs (zld cK) (.z (df aN) ?_)))))))))
 refine .z zm (.nil ?_)
 refine .for (N:=s.bn.length) (J:=fun k fr w=>∃v3 en,bX 1 v3 (Is ((s.bn.take k).map Lim.S)) en∧fr=[(3,v3),(7,.slice al s.bn.length cl)]∧St H w (en::σ)) aj ?_ ?_ ?_
 ·exact .mk ⟨_,_,.nil 1 none,rfl,hs.nul.sb⟩
 ·rintro k fr w hk ⟨v3,en,hO,rfl,hs⟩
  obtain ⟨x,hx⟩:=nth (l:=s.bn) hk
  obtain ⟨a3,l3,c3,rfl,h3⟩:=hO.shape
  refine .block (.ai ?_)
  refine .ixX hs hl rfl rfl aN bh hx rfl ?_;intro b11 o11 hc11
  refine .q hs (dc (vs:=x.c) rfl iF bh hc11) ?_
  refine .o (.alloc hs eC rfl fun b5 w hs=>?_)
  refine .o (.aP (vs:=x.c) hs rfl rfl bh fun w hs=>?_)
  refine .nil (.region (.z zm (.z (zfa gV) (.y hs (zld af) ?_))))
  refine .o (.buildSlice (cells:=[_]) hs cz rfl rfl fun b16 w hs=>?_)
  refine .o (.append (ys:=Is [x.S]) hs cy rfl rfl hO (.own .here rfl rfl) (kS _) (fun l' h=>by simp at h;omega) ?_);intro v17 en17 w hO2 hs
  rw [←List.map_append] at hO2
  refine .z zg (.nil ?_)
  refine nB (nT ?_)
  exact .mk ⟨_,_,by rw [bZ hx,List.map_append];exact hO2,rfl,hs.sb⟩
 ·rintro fr w ⟨v3,en,hO,rfl,hs⟩
  rw [List.take_length] at hO
  refine nT ?_
  refine .ai (.z zm ?_)
  refine .o (.call Tryz.call204 rfl (pb hs hO (by rw [List.length_map];omega)) ?_);rintro v20 w ⟨L,en',hO',hL,hR,hs⟩
  rw [List.length_map] at hL
  refine .z zg (.nil ?_)
  refine .ret (Fin.bF Tryz.results129 rfl ?_)
  exact ⟨L,en',hO',hL,hR.congr fun x=>by simp [yM],hs⟩
theorem jE{v:Value}{en:Ent}{xs:List Int}{g:Nat}{cap:List Value}(q:Int→Bool)(hs:St H w (en::σ))(hO:bX 1 v (Is xs) en)(hl:xs.length≤17592186044416)(hc:∀args w,(callFunc g args).run Tryz.prog w= .ok (.enter g args) w)
  (hp:∀H' w σ (n:Int),n∈xs→HLe H H'→St H' w σ→Cl Tryz.prog g ([I n]++cap) w fun u w'=>∃H1,HLe H' H1∧u= .bool (q n)∧St H1 w' σ):
  Cl Tryz.prog 206 [v,.func (.func g) #[] cap.toArray] w fun u w'=>∃H1 i,HLe H H1∧u=I i∧((i= -1∧∀x∈xs,q x=false)∨(∃(k:Nat) (x:Int),i=k∧xs[k]? =some x∧q x=true∧∀j<k,∀y,xs[j]? =some y→q y=false))∧St H1 w' (en::σ):=by
 obtain ⟨a,c,rfl⟩:=hO.tx
 refine Cl.o Tryz.func206 Tryz.ntmps206 ag2 ?_
 refine .ai (.z zg (.nil (.seq (.ai (.z zm (.z (df ad) (.z zm (.nil ?_))))))))
 refine .for (N:=xs.length) (J:=fun k fr w=>fr=[(1,.func (.func g) #[] cap.toArray),(0,.slice a xs.length c)]∧∃H1,HLe H H1∧(∀j<k,∀y,xs[j]? =some y→q y=false)∧St H1 w (en::σ)) aj ?_ ?_ ?_
 ·exact .mk ⟨rfl,H,HLe.refl H,fun j hj=>by omega,hs⟩
 ·rintro k fr w hk ⟨rfl,H1,hle1,hno,hs⟩
  have hx:=bB hk
  obtain ⟨b,c',sp,hv,rfl,_⟩:=hO.blk aj
  cases hv
  refine .block (.ai (.z zm (.z zg (.nil (.ai (.z zm (.z zm (.z zm (.z (zix ad ae) ?_)))))))))
  refine .q hs (fT rfl af (hv:=dV hk sp)) ?_
  refine .o (.lP (first:=[]) (cap:=cap) rfl rfl hc (hp _ _ _ (gi xs k) (List.mem_of_getElem? hx) hle1 hs) ?_);rintro _ w ⟨H2,hle2,rfl,hs⟩
  refine .nil ?_
  refine (.cond rfl (fun hc16=>?_) (fun hc16=>?_))
  ·refine .ai (.z zm (.z zg (.nil ?_)))
   refine .ret (rB (rT (rB (rT (Fin.bF Tryz.results206 rfl ?_)))))
   exact ⟨H2,_,hle1.trans hle2,rfl,.inr ⟨k,_,rfl,hx,hc16,hno⟩,hs⟩
  ·refine .skip ?_
   refine nB (nT ?_)
   exact .mk ⟨rfl,H2,hle1.trans hle2,ek hno hx hc16,hs⟩
 ·rintro fr w ⟨rfl,H1,hle1,hno,hs⟩
  refine nT ?_
  refine .ai (.z zg (.nil ?_))
  refine .ret (Fin.bF Tryz.results206 rfl ?_)
  exact ⟨H1,_,hle1,rfl,.inl ⟨rfl,fun x hx=>by
   obtain ⟨j,hj⟩:=List.getElem?_of_mem hx
   exact hno j (List.getElem?_eq_some_iff.1 hj).1 x hj⟩,hs⟩
set_option maxHeartbeats 1000000 in
theorem iV{v:Value}{en:Ent}{xs:List Int}{g:Nat}{cap:List Value}(q:Int→Bool)(hs:St H w (en::σ))(hO:bX 1 v (Is xs) en)(hl:xs.length≤17592186044416)(hc:∀args w,(callFunc g args).run Tryz.prog w= .ok (.enter g args) w)
  (hp:∀H' w σ (n:Int),n∈xs→HLe H H'→St H' w σ→Cl Tryz.prog g ([I n]++cap) w fun u w'=>∃H1,HLe H' H1∧u= .bool (q n)∧St H1 w' σ):
  Cl Tryz.prog 150 [v,.func (.func g) #[] cap.toArray] w fun u w'=>∃H1 en',HLe H H1∧bX 1 u (Is (xs.filter fun x=> !q x)) en'∧St H1 w' (en'::σ):=by
 obtain ⟨a,c,rfl⟩:=hO.tx
 refine Cl.o Tryz.func150 Tryz.ntmps150 ag2 ?_
 refine .ai (.z zg (.nil (.ai (.z zm (.z zm ?_)))))
 refine .o (.call Tryz.call206 rfl (jE q hs hO hl hc hp) ?_);rintro _ w ⟨H1,i0,hle1,rfl,hcase,hs⟩
 refine .z zg (.nil (.seq (.ai (.z zm (.z j9 (.nil ?_))))))
 refine (.cW rfl (fun hc12=>?_) (fun hc12=>?_))
 ·refine .ai (.z zm (.z zg (.nil ?_)))
  refine .ret (rT (Fin.bF Tryz.results150 rfl ?_))
  have hno:∀x∈xs,q x=false:=by
   rcases hcase with ⟨_,h⟩|⟨k,x,h,_⟩
   ·exact h
   ·omega
  have e:xs.filter (fun x=> !q x)=xs:=List.filter_eq_self.2 fun x hx=>by simp [hno x hx]
  exact ⟨H1,en,hle1,by rw [e];exact hO,hs⟩
 ·refine .skip ?_
  refine nT ?_
  refine .seq (.ai (.z zm ?_))
  obtain ⟨k0,x0,rfl,hx0,hq0,hno⟩:∃(k:Nat) (x:Int),i0=k∧xs[k]? =some x∧q x=true∧∀j<k,∀y,xs[j]? =some y→q y=false:=hcase.resolve_left fun h=>hc12 h.1
  have hk0:=(List.getElem?_eq_some_iff.1 hx0).1
  obtain ⟨b,c',sp,hv,rfl,hc'⟩:=hO.blk aj
  cases hv
  refine .z cR (.z zg (.nil (.block ?_)))
  refine .loop (fun p:Nat×Nat=>⟨42,[],[(5,I (p.1:Int)),(6,I (p.2:Int)),(1,.func (.func g) #[] cap.toArray),(0,.slice (some ⟨b,0,none⟩) xs.length c)]⟩)
   (fun p w=>k0<p.2∧∃Y H1,HLe H H1∧tp q xs Y p.1 p.2∧St H1 w (.blk b (Is Y++sp)::σ))
   (fun p=>xs.length - p.2) (k0,k0+1) (.cons rfl (.eU rfl (by dsimp only;omega) cC))
   ⟨by dsimp only;omega,xs,H1,hle1,.start hx0 hq0 hno,hs⟩ ?_
  clear hs hle1 hcase
  rintro ⟨i,j⟩ w ⟨hkj,Y,H1,hle1,hD,hs⟩
  dsimp only at hkj hD ⊢
  have hYl:=hD.len
  have hij:=hD.le
  have hjl:=hD.jl
  have hilt:=hD.lt hx0 hq0 hkj
  refine .seq (.ai (.z zm (.z zm (.z (df ad) (.z kX (.nil ?_))))))
  refine (.cW rfl (fun hc19=>?_) (fun hc19=>?_))
  ·refine .skip ?_
   refine nT ?_
   refine .seq (.block (.ai (.z zm (.z zm ?_))))
   have hj:j<Y.length:=by omega
   have hx:xs[j]? =some (gi Y j):=by rw [hD.rest j (Nat.le_refl _)];exact bB aj
   refine .z (zix ad ae) ?_
   refine .q hs (fT rfl af (hv:=dV hj sp)) ?_
   refine .z zg (.nil (.ai (.z zm (.z zm ?_))))
   refine .o (.lP (first:=[]) (cap:=cap) rfl rfl hc (hp _ _ _ (gi Y j) (List.mem_of_getElem? hx) hle1 hs) ?_);rintro _ w ⟨H2,hle2,rfl,hs⟩
   refine .z jb (.nil ?_)
   refine (.cond rfl (fun hc29=>?_) (fun hc29=>?_))
   ·refine .ai (.z zm (.z zm (.z zm (.z (zix ad ae) ?_))))
    refine .o (.store hs rfl rfl ae ?_ .here (jq (show i<Y.length by omega) sp) (fZ (show i<Y.length by omega) sp _));intro w hs
    refine .nil (.region (.z zm (.z cR (.z zg (.nil ?_)))))
    refine nB (nT ?_)
    refine .region (.z zm (.z cR (.z zg (.nil ?_))))
    refine nT ?_
    exact ⟨(i+1,j+1),.eU rfl (by dsimp only;omega) (.eU rfl (by dsimp only;omega) cC),⟨by dsimp only;omega,_,H2,hle1.trans hle2,hD.keep hx (by simpa using hc29),hs⟩,by dsimp only;omega⟩
   ·refine .skip ?_
    refine nB (nT ?_)
    refine .region (.z zm (.z cR (.z zg (.nil ?_))))
    refine nT ?_
    exact ⟨(i,j+1),.cons rfl (.eU rfl (by dsimp only;omega) cC),⟨by dsimp only;omega,_,H2,hle1.trans hle2,hD.skip hx (by simpa using hc29),hs⟩,by dsimp only;omega⟩
  ·refine .exit ?_
   refine xT (xT (xB (nT ?_)))
   refine .ai (.z zm (.z zm ?_))
   obtain rfl:xs.length=j:=by omega
   refine .q hs (rC (k:=i) rfl rfl ad ae aj aj) ?_
   rw [show 0+i*1=i by omega]
   refine .o (.Br (c:=Is Y++sp) hs rfl ad aR (by simp;omega) ?_);intro w hs
   rw [hD.done sp] at hs
   have hil:=hD.il
   rw [List.take_length] at hil
   refine .nil (.ai (.z zm (.z zm ?_)))
   refine .q hs (oe (k:=i) rfl rfl ad ae aj) ?_
   refine .z zg (.nil ?_)
   refine .ret (Fin.bF Tryz.results150 rfl ?_)
   exact ⟨H1,_,hle1,.inr ⟨b,i,c,List.replicate (xs.length - i) (I 0)++sp,rfl,rfl,by simp [hil],by simp [←hil];omega,aj⟩,hs⟩
def pk(L:List Int):List (List Value):=(List.range L.length).map fun j=>[I ((L.length - 1 - j:Nat):Int),I (gi L (L.length - 1 - j))]
theorem gM(L:List Int):(pk L).length=L.length:=by simp [pk]
theorem sf{L:List Int}{j:Nat}(h:j<(pk L).length):(pk L)[j]=[I ((L.length - 1 - j:Nat):Int),I (gi L (L.length - 1 - j))]:=by simp [pk]
theorem iX{H:a8}{b:Nat}{v:Value}{L:List Int}(hb:Row H b [v])(hr:RI H v L):Iter Tryz.prog 231 [.pointer (some ⟨b,0,none⟩)] H (pk L):=by
 intro l II Ix _ _ hy H0 σb0 σf w hle hI0 hs
 obtain ⟨a,c,rfl⟩:=RI.shape hr
 have hlen:=(RI.len hr).2.2
 have hb0:cellAt H0 b 0=some (.slice a L.length c):=cellAt.mono (hb.at 0) hle
 refine Cl.o Tryz.func231 Tryz.ntmps231 ag2 ?_
 refine .ai (.y hs (zld ak) (.z (df ad) (.z iR (.z zg (.nil (.block ?_))))))
 refine .loop (fun j:Nat=>⟨19,[],[(3,I ((L.length:Int) - 1 - (j:Int))),(0,.func (.yield l) #[] #[]),(1,.pointer (some ⟨b,0,none⟩))]⟩)
  (fun j w=>j≤L.length∧∃H1 σb,HLe H H1∧HLe H0 H1∧II j H1 σb∧St H1 w (σb++σf)) (fun j=>L.length - j) 0 (.eU rfl cN cC)
  ⟨Nat.zero_le _,H0,σb0,hle,HLe.refl _,hI0,hs⟩ ?_
 clear hs hI0
 rintro j w ⟨hj,H1,σb,hle1,hle0,hI,hs⟩
 have hb1:cellAt H1 b 0=some (.slice a L.length c):=cellAt.mono hb0 hle0
 refine .seq (.ai (.z zm (.z xi (.nil ?_))))
 refine (.cW rfl (fun hc8=>?_) (fun hc8=>?_))
 ·refine .skip ?_
  refine nT ?_
  refine .seq (.block (.ai (.z zm (.z zm (.y hs (zld ak) (.z zm ?_))))))
  refine .ixY hs (hr.mono hle1) rfl rfl ad ae (bB (l:=L) (i:=L.length - 1 - j) aj) aj ?_;intro b15 o15 hc15
  refine .q hs (bj rfl af hc15) ?_
  have hk':j<(pk L).length:=by rw [gM];omega
  have hyd:=hy j hk' H1 σb σf w hle1 hI hs
  rw [sf hk',show ((L.length - 1 - j:Nat):Int)=(L.length:Int) - 1 - (j:Int) by omega] at hyd
  refine .o (.yield rfl rfl hyd ?_);rintro v17 w ⟨H2,σ2,g1,hs,g3⟩
  obtain ⟨bb,rfl,gT,gF⟩:=ka g3
  refine .z jb (.nil ?_)
  refine (.cond rfl (fun hc18=>?_) (fun hc18=>?_))
  ·refine .ret (rB (rT (rT (rB (Fin.AN Tryz.results231 ?_)))))
   exact ⟨H2,σ2,hle0.trans g1,hs,.inr (gF (by simpa using hc18))⟩
  ·refine .skip ?_
   refine nB (nT ?_)
   refine .region (.z zm (.z iR (.z zg (.nil ?_))))
   refine nT ?_
   exact ⟨j+1,.eU rfl (by simp;omega) cC,⟨aj,H2,σ2,hle1.trans g1,hle0.trans g1,gT (by simpa using hc18),hs⟩,aj⟩
 ·refine .exit ?_
  refine xT (xT (xB ?_))
  obtain rfl:L.length=j:=by omega
  exact Fin.sy Tryz.results231 ⟨H1,σb,hle0,hs,.inl (by rw [gM];exact hI)⟩
theorem jF{v:Value}{L:List Int}(hs:St H w σ)(hr:RI H v L):
  Cl Tryz.prog 180 [v] w fun u w'=>∃H1 b,HLe H H1∧u= .func (.func 231) #[] #[.pointer (some ⟨b,0,none⟩)]∧Iter Tryz.prog 231 [.pointer (some ⟨b,0,none⟩)] H1 (pk L)∧St H1 w' σ:=by
 obtain ⟨a,c,rfl⟩:=RI.shape hr
 refine Cl.o Tryz.func180 Tryz.ntmps180 ag1 ?_
 refine .ai ?_
 refine .bx hs fun b1 w hs=>?_
 refine .z zg (.nil (.ai ?_))
 refine .q hs (bO (f:=[]) (c:=[_]) rfl rfl) ?_
 refine .z zg (.nil ?_)
 refine .ret (Fin.bF Tryz.results180 rfl ?_)
 obtain ⟨H1,g1,g2,hs⟩:=hs.bK .here
 exact ⟨H1,b1,g1,rfl,iX g2 (hr.mono g1),hs⟩
theorem nx{n m:Int}{b:Nat}(hs:St H w σ)(hb:Row H b [I m]):
  Cl Tryz.prog 181 [I n,.pointer (some ⟨b,0,none⟩)] w fun u w'=>u= .bool (decide (n=m))∧St H w' σ:=by
 have hb0:cellAt H b 0=some (I m):=hb.at 0
 refine Cl.o Tryz.func181 Tryz.ntmps181 ag2 ?_
 refine .ai (.z zg (.nil (.ai (.z zm (.y hs (zld af) (.z j9 (.z zg (.nil ?_))))))))
 refine .ret (Fin.bF Tryz.results181 rfl ?_)
 exact ⟨rfl,hs⟩
set_option maxHeartbeats 1000000 in
theorem kI{v:Value}{s:aQ}(hs:St H w σ)(hr:RSy H v s):
  Cl Tryz.prog 98 [v] w fun u w'=>∃H1 vx out e,HLe H H1∧u= .tuple #[vx,I e]∧RI H1 vx out∧qY s out e∧St H1 w' σ:=by
 obtain ⟨ul,rfl,hl⟩:=hr
 obtain ⟨al,cl,rfl⟩:=RL.shape hl
 refine Cl.o Tryz.func98 Tryz.ntmps98 ag1 ?_
 refine .ai ?_
 refine .bx hs fun b1 w hs=>?_
 refine .z zg (.z zg (.nil (.seq (.ai (.y hs (zls [_,_] aV aA) ?_)))))
 refine .o (.call Tryz.call125 rfl (fG (s:=s) hs ⟨_,rfl,hl⟩) ?_);rintro _ w ⟨rfl,hs⟩
 refine .z zg (.nil (.ai (.z zm (.z m9 (.nil ?_)))))
 refine (.ie rfl (fun hc12=>?_) (fun hc12=>?_))
 ·refine .ai (.z zm (.z zg (.z zg (.nil ?_))))
  refine .ret (rT (?_))
  exact Fin.gR [] [] hs fun w hs=>⟨_,results2 Tryz.results98 rfl rfl,H,_,[],_,HLe.refl H,rfl,RS.nil H 1 none 0,.bad hc12,hs.out⟩
 ·refine .skip ?_
  refine nT ?_
  refine .seq (.ai (.y hs (zls [_,_] aV aA) ?_))
  have hok:s.Ok:=s.aH.1 (by simpa using hc12)
  have hll:=hok.len
  refine .o (.call Tryz.call133 rfl (eR (s:=s) hs hok ⟨_,rfl,hl⟩) ?_);rintro _ w ⟨H1,bb,hle1,rfl,hbb,hs⟩
  refine .nil ?_
  refine (.cond rfl (fun hc15=>?_) (fun hc15=>?_))
  ·refine .ai (.z zg (.z zg (.nil ?_)))
   refine .ret (rT (?_))
   exact Fin.gR [] [] hs fun w hs=>⟨_,results2 Tryz.results98 rfl rfl,H1,_,[],_,hle1,rfl,RS.nil H1 1 none 0,.none hok (hbb.1 hc15),hs.out⟩
  ·refine .skip ?_
   refine nT ?_
   refine .ai (.y hs (zls [_,_] aV aA) ?_)
   have hns:¬s.Sound:=fun h=>by rw [hbb.2 h] at hc15;cases hc15
   refine .o (.call Tryz.call129 rfl (gL (s:=s) hs ⟨_,rfl,hl.mono hle1⟩ aj) ?_);rintro v17 w ⟨L,en,hO,hLl,hRise,hs⟩
   obtain ⟨a17,l17,c17,rfl,h17⟩:=hO.shape
   refine .o (.alloc hs cO rfl fun b5 w hs=>?_)
   refine .o (.store hs rfl rfl aE fun w hs=>?_)
   refine .nil (.seq (.ai (.y hs (zls [_,_] aV aA) ?_)))
   refine .o (.call Tryz.call129 rfl (gL (s:=s) hs ⟨_,rfl,hl.mono hle1⟩ aj) ?_);rintro v19 w ⟨L',en',hO',hLl',hRise',hs⟩
   obtain rfl:L=L':=hRise.uniq hRise'
   obtain ⟨H2,hle2,hR19,hs⟩:=bX.cn hO' aj hs .here
   refine .o (.call Tryz.call180 rfl (jF hs hR19) ?_);rintro _ w ⟨H3,b20,hle3,rfl,hit,hs⟩
   have hle03:=hle1.trans (hle2.trans hle3)
   refine .nil (.block ?_)
   refine .rangeFunc (gf:=231) (cap:=[.pointer (some ⟨b20,0,none⟩)]) (xs:=pk L) (σb:=[.blk b1 [I s.many,.slice al s.bn.length cl],.blk b5 [.slice a17 l17 c17],en]) (σf:=σ) (hs.sb:St H3 w (.blk b1 _:: .blk b5 _::en::σ)) trivial rfl hit Tryz.call231 (fun x hx=>by
     simp only [pk,List.mem_map] at hx
     obtain ⟨j,_,rfl⟩:=hx;rfl) rfl
    (I:=fun j H' σb=>∃(t:aQ) (ut vo:Value) (out:List Int) (en:Ent),σb=[.blk b1 [I t.many,ut],.blk b5 [vo],en]∧RL H' ut t.bn∧bX 1 vo (Is out) en∧out.length≤L.length∧t.Ok∧gn s L (L.length - j) t out) (Ix:=fun _ _ _=>False)
    (fun j _ _ σ g1 ⟨t,ut,vo,out,en,g2,g3,g4⟩=>⟨t,ut,vo,out,en,g2,g3.mono g1,g4⟩) (fun _ _ _ _ _ h=>h)
    ⟨s,_,_,L,en,rfl,hl.mono hle03,hO,Nat.le_refl _,hok,.start⟩ ?_ ?_ (fun D c H' σb w _ h _=>h.elim)
   ·rintro l j hj H4 σb2 σf2 w hle4 ⟨t,ut,vo,out,en,rfl,hut,hOo,hol,htok,hC⟩ hs ⟨rr,hrr⟩
    rw [sf hj]
    have hjL:j<L.length:=by rw [gM] at hj;exact hj
    obtain ⟨at',ct,rfl⟩:=RL.shape hut
    obtain ⟨ao,lo,co,rfl,hlo⟩:=hOo.shape
    refine .region ?_
    refine .o (.alloc hs aR rfl fun b7 w hs=>?_)
    refine .o (.store hs rfl rfl ae fun w hs=>?_)
    refine .nil ?_
    refine nT ?_
    refine ⟨H4,[.blk b7 [I (gi L (L.length - 1 - j))],.blk b1 [I t.many,.slice at' t.bn.length ct],.blk b5 [.slice ao lo co],en],HLe.refl _,hs,?_⟩;rintro w σf4 - hs
    refine .block (.ai (.y hs (zls [_,_] aV aA) (.y hs (zld af) ?_)))
    refine .o (.buildSlice (cells:=[_]) hs cz rfl rfl fun b25 w hs=>?_)
    obtain ⟨H5,hle5,r25,hs⟩:=bX.cn (xs:=[gi L (L.length - 1 - j)]) (v:= .slice (some ⟨b25,0,none⟩) 1 1) (.full (len:=1) rfl) cN hs c9
    refine .o (.call Tryz.call136 rfl (lT (s:=t) hs ⟨_,rfl,hut.mono hle5⟩ r25 (by have:=htok.len;omega)) ?_);rintro _ w ⟨H6,hle6,⟨u26,rfl,hL26⟩,hs⟩
    obtain ⟨a26,c26,rfl⟩:=RL.shape hL26
    refine .o (.alloc hs ec rfl fun b8 w hs=>?_)
    refine .o (.aP (vs:=[_,_]) hs rfl rfl aA fun w hs=>?_)
    refine .nil (.ai (.y hs (zls [_,_] aV aA) ?_))
    refine .o (.call Tryz.call133 rfl (eR (s:=t.wo [gi L (L.length - 1 - j)]) hs (htok.wo _) ⟨_,rfl,hL26⟩) ?_);rintro _ w ⟨H7,b28,hle7,rfl,hb28,hs⟩
    have hle47:=hle5.trans (hle6.trans hle7)
    refine .z jb (.nil ?_)
    refine (.cond rfl (fun hc29=>?_) (fun hc29=>?_))
    ·refine .ai (.y hs (zls [_,_] aV aA) ?_)
     refine .o (.aP (vs:=[_,_]) hs rfl rfl aA fun w hs=>?_)
     refine .nil (.region (.y hs (zld ak) ?_))
     refine .q hs (bO (f:=[]) (c:=[_]) rfl rfl) ?_
     obtain ⟨H8,hle8,r7,hs⟩:=hs.bK (b:=b7) c9
     replace hs:St H8 w (en:: .blk b1 [I t.many,.slice a26 (t.wo [gi L (L.length - 1 - j)]).bn.length c26]:: .blk b5 [.slice ao lo co]::σf4):=hs.sb
     refine .o (.call Tryz.call150 rfl (iV (g:=181) (cap:=[.pointer (some ⟨b7,0,none⟩)]) (fun n=>decide (n=gi L (L.length - 1 - j))) hs hOo aj Tryz.call181
      (fun H' w σ n _ hle hs=>(nx hs (r7.mono hle)).mono fun u w' ⟨g1,g2⟩=>⟨H',HLe.refl _,g1,g2⟩)) ?_);rintro v33 w ⟨H9,en9,hle9,hO9,hs⟩
     obtain ⟨a33,l33,c33,rfl,h33⟩:=hO9.shape
     refine .o (.store hs rfl rfl aE fun w hs=>?_)
     refine .nil ?_
     refine nB ?_
     have hfl:=List.length_filter_le (fun n=> !decide (n=gi L (L.length - 1 - j))) out
     have e:L.length - (j+1)=L.length - 1 - j:=by omega
     have hns':¬(t.wo [gi L (L.length - 1 - j)]).Sound:=fun h=>by rw [hb28.2 h] at hc29;cases hc29
     exact ⟨H9,[.blk b1 [I t.many,.slice a26 (t.wo [gi L (L.length - 1 - j)]).bn.length c26],.blk b5 [.slice a33 l33 c33],en9],hle47.trans (hle8.trans hle9),(hs.sb:St H9 w (.blk b1 _:: .blk b5 _::en9::σf4)),t.wo [gi L (L.length - 1 - j)],_,_,_,_,rfl,hL26.mono (hle7.trans (hle8.trans hle9)),hO9,aj,htok.wo _,by
      rw [e]
      exact .drop (by rw [show L.length - 1 - j+1=L.length - j by omega];exact hC) hns'⟩
    ·refine .skip ?_
     refine nB ?_
     have e:L.length - (j+1)=L.length - 1 - j:=by omega
     have hsd':(t.wo [gi L (L.length - 1 - j)]).Sound:=hb28.1 (by simpa using hc29)
     exact ⟨H7,[.blk b1 [I t.many,.slice at' t.bn.length ct],.blk b5 [.slice ao lo co],en],hle47,(hs.sb:St H7 w (.blk b1 _:: .blk b5 _::en::σf4)),t,_,_,_,_,rfl,hut.mono hle47,hOo,hol,htok,by
      rw [e]
      exact .keep (by rw [show L.length - 1 - j+1=L.length - j by omega];exact hC) hsd'⟩
   ·rintro D H4 σb2 w hle4 ⟨t,ut,vo,out,en,rfl,hut,hOo,hol,htok,hC⟩ hs
    rw [gM,Nat.sub_self] at hC
    obtain ⟨ao,lo,co,rfl,hlo⟩:=hOo.shape
    replace hs:St H4 w (.obj D (.deferred (some [])):: .blk b1 [I t.many,ut]:: .blk b5 [.slice ao lo co]::en::σ):=hs
    refine nB (nT ?_)
    refine .ai (.y hs (zld ak) (.z zg (.z zg (.nil ?_))))
    refine .ret ?_
    obtain ⟨H5,hle5,hR5,hs⟩:=bX.cn hOo aj hs c9
    exact Fin.gR [D] [] hs fun w hs=>⟨_,results2 Tryz.results98 rfl rfl,H5,_,out,0,hle03.trans (hle4.trans hle5),rfl,hR5,.ok hok hns hRise hC,hs.out⟩
theorem iU{v:Value}{xs:List Int}{g:Nat}{cap:List Value}(q:Int→Prop)(hs:St H w σ)(hR:RI H v xs)(hc:∀args w,(callFunc g args).run Tryz.prog w= .ok (.enter g args) w)
  (hp:∀H' w σ (n:Int),n∈xs→HLe H H'→St H' w σ→Cl Tryz.prog g ([I n]++cap) w fun u w'=>∃H1 b,HLe H' H1∧u= .bool b∧(b=true↔q n)∧St H1 w' σ):
  Cl Tryz.prog 206 [v,.func (.func g) #[] cap.toArray] w fun u w'=>∃H1 i,HLe H H1∧u=I i∧(0≤i↔∃x∈xs,q x)∧St H1 w' σ:=by
 obtain ⟨a,c,rfl⟩:=RI.shape hR
 have hl:=(RI.len hR).2.2
 refine Cl.o Tryz.func206 Tryz.ntmps206 ag2 ?_
 refine .ai (.z zg (.nil (.seq (.ai (.z zm (.z (df ad) (.z zm (.nil ?_))))))))
 refine .for (N:=xs.length) (J:=fun k fr w=>fr=[(1,.func (.func g) #[] cap.toArray),(0,.slice a xs.length c)]∧∃H1,HLe H H1∧(∀j<k,∀y,xs[j]? =some y→¬q y)∧St H1 w σ) aj ?_ ?_ ?_
 ·exact .mk ⟨rfl,H,HLe.refl H,fun j hj=>by omega,hs⟩
 ·rintro k fr w hk ⟨rfl,H1,hle1,hno,hs⟩
  obtain ⟨x,hx⟩:=nth hk
  refine .block (.ai (.z zm (.z zg (.nil (.ai (.z zm (.z zm (.z zm ?_))))))))
  refine .ixY hs (hR.mono hle1) rfl rfl ad ae hx rfl ?_;intro b14 o14 hc14
  refine .q hs (bj rfl af hc14) ?_
  refine .o (.lP (first:=[]) (cap:=cap) rfl rfl hc (hp _ _ _ x (List.mem_of_getElem? hx) hle1 hs) ?_);rintro _ w ⟨H2,b16,hle2,rfl,hb16,hs⟩
  refine .nil ?_
  refine (.cond rfl (fun hc16=>?_) (fun hc16=>?_))
  ·refine .ai (.z zm (.z zg (.nil ?_)))
   refine .ret (rB (rT (rB (rT (Fin.bF Tryz.results206 rfl ?_)))))
   exact ⟨H2,_,hle1.trans hle2,rfl,⟨fun _=>⟨x,List.mem_of_getElem? hx,hb16.1 hc16⟩,fun _=>by omega⟩,hs⟩
  ·refine .skip ?_
   refine nB (nT ?_)
   exact .mk ⟨rfl,H2,hle1.trans hle2,ek hno hx (fun h=>by rw [hb16.2 h] at hc16;cases hc16),hs⟩
 ·rintro fr w ⟨rfl,H1,hle1,hno,hs⟩
  refine nT ?_
  refine .ai (.z zg (.nil ?_))
  refine .ret (Fin.bF Tryz.results206 rfl ?_)
  exact ⟨H1,_,hle1,rfl,⟨fun h=>by omega,fun ⟨x,h1,h2⟩=>by
   obtain ⟨j,hj⟩:=List.getElem?_of_mem h1
   exact (hno j (List.getElem?_eq_some_iff.1 hj).1 x hj h2).elim⟩,hs⟩
theorem gP{v:Value}{xs:List Int}{g:Nat}{cap:List Value}(q:Int→Prop)(hs:St H w σ)(hR:RI H v xs)(hc:∀args w,(callFunc g args).run Tryz.prog w= .ok (.enter g args) w)
  (hp:∀H' w σ (n:Int),n∈xs→HLe H H'→St H' w σ→Cl Tryz.prog g ([I n]++cap) w fun u w'=>∃H1 b,HLe H' H1∧u= .bool b∧(b=true↔q n)∧St H1 w' σ):
  Cl Tryz.prog 134 [v,.func (.func g) #[] cap.toArray] w fun u w'=>∃H1 b,HLe H H1∧u= .bool b∧(b=true↔∃x∈xs,q x)∧St H1 w' σ:=by
 refine Cl.o Tryz.func134 Tryz.ntmps134 ag2 ?_
 refine .ai (.z zg (.nil (.ai (.z zm (.z zm ?_)))))
 refine .o (.call Tryz.call206 rfl (iU q hs hR hc hp) ?_);rintro _ w ⟨H1,i,hle1,rfl,hi,hs⟩
 refine .z xi (.z zg (.nil ?_))
 refine .ret (Fin.bF Tryz.results134 rfl ?_)
 exact ⟨H1,_,hle1,rfl,by simp only [decide_eq_true_eq];exact hi,hs⟩
end Go.Proofs.YtddaejgfjlneoaaGreat
namespace Go.Proofs.YtddaejgfjlneoaaGreat
open Go.MW
theorem RI.one{H:a8}{a:Option Addr}{len cap k:Nat}{xs:List Int}(h:RI H (.slice a len cap) xs)(hk:k<len):RI H (.slice (if cap=k then a else a.map (·.add (k*1))) (k+1 - k) (cap - k)) [gi xs k]:=by
 have hl:=(RI.len h).1
 have h1:=RS.part h (lo:=k) (hi:=k+1) aj aj
 have e:(((xs.map fun x=>[I x]).take (k+1)).drop k)=[gi xs k].map fun x=>[I x]:=by
  rw [←List.map_take,←List.map_drop]
  congr 1
  have hx:=bB (l:=xs) (i:=k) aj
  rw [bZ hx]
  exact List.drop_left' (by rw [List.length_take];omega)
 rw [e] at h1
 exact h1
end Go.Proofs.YtddaejgfjlneoaaGreat
namespace Go.Proofs.YtddaejgfjlneoaaGreat
open Go.MW
variable{H:a8}{w:World}{σ:List Ent}
theorem ke{a0 a1 a2:Int}(hs:St H w σ):Cl Tryz.prog 274 [I a0,I a1,I a2] w fun v w'=>v= .bool (decide (a1≤a0∧a0≤a2))∧St H w' σ:=by
 refine Cl.o Tryz.func274 Tryz.ntmps274 ag3 ?_
 refine .ai (.z zg (.nil (.ai (.z zm (.z zm (.z yU (.z zm ?_)))))))
 refine .mM (t':=10) rfl (fun hb10=>?_) (fun hb10=>?_)
 ·refine .gT rfl rfl ?_
  refine .z zm ?_
  refine .gT rfl rfl ?_
  refine .z zm ?_
  refine .gT rfl rfl ?_
  refine .z yU (.z zpT (.z zg (.nil ?_)))
  refine .ret (Fin.bF Tryz.results274 rfl ?_)
  exact ⟨by simp [*],hs.out⟩
 ·refine .gFs 3 3 true rfl rfl rfl ?_
  refine .z zpF (.z zg (.nil ?_))
  refine .ret (Fin.bF Tryz.results274 rfl ?_)
  exact ⟨by simp [*],hs.out⟩
theorem eh{v:Value}{l:List Int}{many:Nat}{most:Int}(hs:St H w σ)(hr:RI H v l):
  Cl Tryz.prog 247 [v,I many,I most] w fun v w'=>∃b:Bool,v= .bool b∧(b=true↔eb many most l)∧St H w' σ:=by
 obtain ⟨a,c,rfl⟩:=RI.shape hr
 have hlen:=(RI.len hr).2.2
 refine Cl.o Tryz.func247 Tryz.ntmps247 ag3 ?_
 refine .ai (.z zg (.nil (.seq (.ai (.z zm (.z (df ad) (.z zm ?_)))))))
 refine .o (.call Tryz.call274 rfl (ke hs) ?_);rintro _ w ⟨rfl,hs⟩
 refine .z jb (.z zm ?_)
 refine .bif (t':=14) rfl (fun hb14=>?_) (fun hb14=>?_)
 ·refine .gFs 4 5 false rfl rfl rfl ?_
  refine .z zpT (.z zm ?_)
  refine .gFs 8 11 false rfl rfl rfl ?_
  refine .z zpT (.nil ?_)
  refine (.cT ?_)
  refine .ai (.z zg (.nil ?_))
  refine .ret (rT (Fin.bF u9 rfl ?_))
  exact ⟨false,rfl,⟨fun h=>(by cases h),fun h=>by have:=h.two;have:=h.many;simp at hb14;omega⟩,hs⟩
 ·refine .gT rfl rfl ?_
  refine .z zm ?_
  refine .gT rfl rfl ?_
  have htwo:2≤l.length∧l.length≤many:=by simp at hb14;omega
  refine .ixY hs hr rfl rfl ad ae (bB (l:=l) (i:=0) aj) dm ?_;intro b16 o16 hc16
  refine .gT rfl rfl ?_
  refine .q hs (bj rfl af hc16) ?_
  refine .gT rfl rfl ?_
  refine .z kX (.z zpF (.z zm ?_))
  refine .mM (t':=20) rfl (fun hb20=>?_) (fun hb20=>?_)
  ·refine .gFs 8 11 false rfl rfl rfl ?_
   refine .z zpT (.nil ?_)
   refine (.cT ?_)
   refine .ai (.z zg (.nil ?_))
   refine .ret (rT (Fin.bF u9 rfl ?_))
   exact ⟨false,rfl,⟨fun h=>(by cases h),fun h=>by have:=h.low;omega⟩,hs⟩
  ·refine .gT rfl rfl ?_
   refine .z zm ?_
   refine .gT rfl rfl ?_
   refine .z zm ?_
   refine .gT rfl rfl ?_
   refine .z (df ad) ?_
   refine .gT rfl rfl ?_
   refine .z iR ?_
   refine .gT rfl rfl ?_
   refine .ixY hs hr rfl rfl ad ae (bB (l:=l) (i:=(l.length - 1)) aj) dm ?_;intro b25 o25 hc25
   refine .gT rfl rfl ?_
   refine .q hs (bj rfl af hc25) ?_
   refine .gT rfl rfl ?_
   refine .z zm ?_
   refine .gT rfl rfl ?_
   refine .z qZ (.z zpF (.nil ?_))
   refine (.cW rfl (fun hc29=>?_) (fun hc29=>?_))
   ·refine .ai (.z zg (.nil ?_))
    refine .ret (rT (Fin.bF u9 rfl ?_))
    exact ⟨false,rfl,⟨fun h=>(by cases h),fun h=>by have:=h.high;omega⟩,hs⟩
   ·refine .skip ?_
    refine nT ?_
    refine .seq (.ai (.z zm ?_))
    refine .q hs (vO (k:=1) rfl rfl ad ae aj aj) ?_
    refine .z (df ad) (.z zm (.nil ?_))
    refine .for (N:=l.length - 1) (J:=fun k fr w=>fr=[(31,.slice (if c=1 then a else a.map (·.add (1*1))) (l.length - 1) (c - 1)),(0,.slice a l.length c)]∧(∀j<k,gi l j<gi l (j+1))∧St H w σ) aj ?_ ?_ ?_
    ·exact .mk ⟨rfl,fun j hj=>by omega,hs⟩
    ·rintro k fr w hk ⟨rfl,hno,hs⟩
     have ht:=hr.tail (k:=1) aj
     have hx:(l.drop 1)[k]? =some (gi l (k+1)):=by rw [List.getElem?_drop,Nat.add_comm];exact bB aj
     refine .block (.ai (.z zm ?_))
     refine .ixY hs ht rfl rfl ad ae hx rfl ?_;intro b36 o36 hc36
     refine .q hs (bj rfl af hc36) ?_
     refine .z zg (.z zg (.nil (.ai (.z zm (.z zm ?_)))))
     refine .ixY hs hr rfl rfl ad ae (bB (l:=l) (i:=k) aj) dm ?_;intro b40 o40 hc40
     refine .q hs (bj rfl af hc40) ?_
     refine .z zm (.z xi (.nil ?_))
     refine (.cW rfl (fun hc43=>?_) (fun hc43=>?_))
     ·refine .ai (.z zg (.nil ?_))
      refine .ret (rB (rT (rB (rT (Fin.bF u9 rfl ?_)))))
      exact ⟨false,rfl,⟨fun h=>(by cases h),fun h=>by have:=h.rise k aj;omega⟩,hs⟩
     ·refine .skip ?_
      refine nB (nT ?_)
      exact .mk ⟨rfl,fun j hj=>by
       by_cases e:j=k
       ·subst e;omega
       ·exact hno j aj,hs⟩
    ·rintro fr w ⟨rfl,hno,hs⟩
     refine nT ?_
     refine .ai (.z zg (.nil ?_))
     refine .ret (Fin.bF u9 rfl ?_)
     exact ⟨true,rfl,⟨fun _=>⟨aj,aj,aj,aj,fun i hi=>hno i aj⟩,fun _=>rfl⟩,hs⟩
theorem iS{v:Value}{l:List Int}(hs:St H w σ)(hr:RI H v l):
  Cl Tryz.prog 294 [v] w fun v w'=>∃e,v=I e∧((eb 9 100000 l∧e=0)∨(¬eb 9 100000 l∧e≠0))∧St H w' σ:=by
 obtain ⟨a,c,rfl⟩:=RI.shape hr
 refine Cl.o Tryz.func294 Tryz.ntmps294 ag1 ?_
 refine .ai (.z zg (.nil (.seq (.ai (.z zm ?_)))))
 refine .o (.call Tryz.call247 rfl (eh (many:=9) (most:=100000) hs hr) ?_);rintro _ w ⟨b4,rfl,hb4,hs⟩
 refine .z jb (.nil ?_)
 refine (.cond rfl (fun hc5=>?_) (fun hc5=>?_))
 ·refine .ai (.z zg (.nil ?_))
  refine .ret (rT (Fin.bF Tryz.results294 rfl ?_))
  exact ⟨_,rfl,.inr ⟨fun h=>by simp [hb4.2 h] at hc5,by decide⟩,hs⟩
 ·refine .skip ?_
  refine nT ?_
  refine .ai (.z zg (.nil ?_))
  refine .ret (Fin.bF Tryz.results294 rfl ?_)
  exact ⟨_,rfl,.inl ⟨hb4.1 (by simpa using hc5),rfl⟩,hs⟩
theorem ep{a b:Int}(hs:St H w σ)(ha:0<a)(hb:0<b∧b≤100000):
  Cl Tryz.prog 277 [I a,I b] w fun v w'=>v=I (rat a b)∧St H w' σ:=by
 have h1:0≤b.tdiv a:=Int.tdiv_nonneg aj aj
 have h2:b.tdiv a≤b:=by rw [Int.tdiv_eq_ediv_of_nonneg aj];exact Int.ediv_le_self _ aj
 have hw:=eO (m:=b.tdiv a) ⟨aj,aj⟩
 refine Cl.o Tryz.func277 Tryz.ntmps277 ag2 ?_
 refine .ai (.z zg (.nil (.seq (.ai (.z zm (.z zm (.z AB (.z j9 (.z zm ?_)))))))))
 refine .mM (t':=9) rfl (fun hb9=>?_) (fun hb9=>?_)
 ·refine .gT rfl rfl ?_
  refine .z zm ?_
  refine .gT rfl rfl ?_
  refine .z zm ?_
  refine .gT rfl rfl ?_
  refine .z AD ?_
  refine .gT rfl rfl ?_
  refine .z yU (.z zpT (.nil ?_))
  refine (.cW rfl (fun hc14=>?_) (fun hc14=>?_))
  ·refine .ai (.z zm (.z zm (.z AD (.z zg (.nil ?_)))))
   refine .ret (rT (Fin.bF Tryz.results277 rfl ?_))
   rw [hw] at hc14 ⊢
   exact ⟨by unfold rat;rw [if_pos ⟨by assumption,by assumption⟩],hs⟩
  ·refine .skip ?_
   refine nT ?_
   refine .ai (.z zg (.nil ?_))
   refine .ret (Fin.bF Tryz.results277 rfl ?_)
   rw [hw] at hc14
   exact ⟨by unfold rat;rw [if_neg aj],hs⟩
 ·refine .gFs 4 4 true rfl rfl rfl ?_
  refine .z zpF (.nil ?_)
  refine (.cF ?_)
  refine .skip ?_
  refine nT ?_
  refine .ai (.z zg (.nil ?_))
  refine .ret (Fin.bF Tryz.results277 rfl ?_)
  exact ⟨by unfold rat;rw [if_neg aj],hs⟩
def lG(l:List Int):List (List Value):=(qy l).map fun g=>[Value.agg #[I (g.at_:Int),I (g.n:Int)]]
theorem vk{l:List Int}(hp:eb 9 100000 l){i:Nat}(h:i+2<l.length):cM l i=true↔0<rat (gi l (i+1) - gi l i) (gi l (i+2) - gi l (i+1))∨0<rat (gi l (i+2) - gi l (i+1)) (gi l (i+1) - gi l i):=by
 have h1:=hp.rise i aj
 have h2:gi l (i+1)<gi l (i+2):=hp.rise (i+1) aj
 unfold cM
 rw [vy aj aj]
 simp only [Bool.and_eq_true,decide_eq_true_eq]
 omega
theorem kf{H:a8}{b:Nat}{v:Value}{l:List Int}(hp:eb 9 100000 l)(hb:Row H b [v])(hr:RI H v l):Iter Tryz.prog 295 [.pointer (some ⟨b,0,none⟩)] H (lG l):=by
 intro ly II Ix _ _ hy H0 σb0 σf w hle hI0 hs
 obtain ⟨a,c,rfl⟩:=RI.shape hr
 have hlen:=hp.many
 have hb0:cellAt H0 b 0=some (.slice a l.length c):=cellAt.mono (hb.at 0) hle
 refine Cl.o Tryz.func295 Tryz.ntmps295 ag2 ?_
 refine .ai (.z zg (.nil (.block ?_)))
 refine .loop (fun i:Nat=>⟨59,[],[(3,I (i:Int)),(0,.func (.yield ly) #[] #[]),(1,.pointer (some ⟨b,0,none⟩))]⟩)
  (fun i w=>i≤l.length∧∃j,j≤(qy l).length∧(qy l).drop j=iH l i∧∃H1 σb,HLe H H1∧HLe H0 H1∧II j H1 σb∧St H1 w (σb++σf)) (fun i=>l.length - i) 0 (.eU rfl cN cC)
  ⟨Nat.zero_le _,0,Nat.zero_le _,rfl,H0,σb0,hle,HLe.refl _,hI0,hs⟩ ?_
 clear hs hI0
 rintro i w ⟨hil,j,hj,hd,H1,σb,hle1,hle0,hI,hs⟩
 have hb1:cellAt H1 b 0=some (.slice a l.length c):=cellAt.mono hb0 hle0
 refine .seq (.ai (.z zm (.z cR (.y hs (zld ak) (.z (df ad) (.z kX (.nil ?_)))))))
 refine (.cW rfl (fun hc11=>?_) (fun hc11=>?_))
 ·refine .skip ?_
  refine nT ?_
  refine .block (.ai (.z zm (.z (zbd [_,_] qQ) ?_)))
  refine .o (.alloc hs Tryz.zeroValue300 rfl fun b4 w hs=>?_)
  refine .o (.aP (vs:=[_,_]) hs rfl rfl Tryz.sizeOf300 fun w hs=>?_)
  refine .nil ?_
  refine .cut (fun fs w=>kT fs ⟨59,[],[(4,.pointer (some ⟨b4,0,none⟩)),(3,I (i:Int)),(0,.func (.yield ly) #[] #[]),(1,.pointer (some ⟨b,0,none⟩))]⟩∧St H1 w (.blk b4 [I (i:Int),I (((if cM l i then 2 else 1:Nat)):Int)]::(σb++σf))) ?_ ?_
  ·refine .ai (.z zm (.z cR (.y hs (zld ak) (.z (df ad) (.z kX (.nil ?_))))))
   refine (.cW rfl (fun hc18=>?_) (fun hc18=>?_))
   ·refine .seq (.draw mix rfl hs fun w hs=>?_)
    refine .y 0 rfl hs ak ?_;refine .z 1 rfl zm ?_;refine .z 2 rfl cR ?_
    have r1:=hp.rise i aj
    have r2:gi l (i+1)<gi l (i+2):=hp.rise (i+1) aj
    have hiff:=vk hp (i:=i) aj
    have q1:=hp.bd (i:=i) aj
    have q2:=hp.bd (i:=i+2) aj
    refine .ixX (enc:=fun x=>[I x]) (i:=3) hs rfl ay .none (hr.mono hle1) rfl rfl ad ae (bB (l:=l) (i:=(i+1)) aj) dm ?_;intro b22 o22 hc22;replace hc22:=br.one hc22
    refine .r (i:=4) hs rfl ay .none (bj rfl af hc22) ?_
    refine .y 5 rfl hs ak ?_;refine .z 6 rfl zm ?_
    refine .ixX (enc:=fun x=>[I x]) (i:=7) hs rfl ay .none (hr.mono hle1) rfl rfl ad ae (bB (l:=l) (i:=i) aj) dm ?_;intro b26 o26 hc26;replace hc26:=br.one hc26
    refine .r (i:=8) hs rfl ay .none (bj rfl af hc26) ?_
    refine .z 9 rfl iR ?_;refine .y 10 rfl hs ak ?_;refine .z 11 rfl zm ?_;refine .z 12 rfl cR ?_
    refine .ixX (enc:=fun x=>[I x]) (i:=13) hs rfl ay .none (hr.mono hle1) rfl rfl ad ae (bB (l:=l) (i:=(i+2)) aj) dm ?_;intro b32 o32 hc32;replace hc32:=br.one hc32
    refine .r (i:=14) hs rfl ay .none (bj rfl af hc32) ?_
    refine .y 15 rfl hs ak ?_;refine .z 16 rfl zm ?_;refine .z 17 rfl cR ?_
    refine .ixX (enc:=fun x=>[I x]) (i:=18) hs rfl ay .none (hr.mono hle1) rfl rfl ad ae (bB (l:=l) (i:=(i+1)) aj) dm ?_;intro b37 o37 hc37;replace hc37:=br.one hc37
    refine .r (i:=19) hs rfl ay .none (bj rfl af hc37) ?_
    refine .z 20 rfl iR ?_;refine .z 21 rfl zg ?_;refine .z 22 rfl zg ?_;refine .D hs ?_
    refine .ai (.z zm (.z zm ?_))
    refine .o (.call Tryz.call277 rfl (ep hs aj aj) ?_);rintro _ w ⟨rfl,hs⟩
    refine .z qZ (.z zm ?_)
    refine .mM (t':=44) rfl (fun hb44=>?_) (fun hb44=>?_)
    ·refine .gFs 4 4 false rfl rfl rfl ?_
     refine .z zpT (.nil ?_)
     refine (.cT ?_)
     refine .region (.z (zfa fh) ?_)
     refine .o (.store hs rfl rfl ae fun w hs=>?_)
     refine .nil ?_
     refine nT ?_
     rw [hiff.2 (.inl hb44)];exact ⟨cC,hs⟩
    ·refine .gT rfl rfl ?_
     refine .z zm ?_
     refine .gT rfl rfl ?_
     refine .z zm ?_
     refine .gT rfl rfl ?_
     refine .o (.call Tryz.call277 rfl (ep hs aj aj) ?_);rintro _ w ⟨rfl,hs⟩
     refine .gT rfl rfl ?_
     refine .z qZ (.z zpF (.nil ?_))
     refine (.cW rfl (fun hc49=>?_) (fun hc49=>?_))
     ·refine .region (.z (zfa fh) ?_)
      refine .o (.store hs rfl rfl ae fun w hs=>?_)
      refine .nil ?_
      refine nT ?_
      rw [hiff.2 (.inr hc49)];exact ⟨cC,hs⟩
     ·refine .skip ?_
      refine nT ?_
      rw [show cM l i=false from Bool.eq_false_iff.2 fun h=>by have:=hiff.1 h;omega];exact ⟨cC,hs⟩
   ·refine .skip ?_
    refine nT ?_
    rw [show cM l i=false by simp [cM];omega];exact ⟨cC,hs⟩
  ·rintro fs w ⟨hfs,hs⟩
   refine WE.sub ?_ hfs
   have hgo:=ow (l:=l) (i:=i) aj
   rw [hgo] at hd
   have hjl:j<(qy l).length:=by
    have:=congrArg List.length hd
    simp at this;omega
   have hgj:(qy l)[j]=⟨i,cM l i⟩:=by
    rw [List.drop_eq_getElem_cons hjl] at hd
    exact (List.cons.inj hd).1
   have hdj:(qy l).drop (j+1)=iH l (i+(if cM l i then 2 else 1)):=by
    rw [List.drop_eq_getElem_cons hjl] at hd
    exact (List.cons.inj hd).2
   have hn12:(if cM l i then 2 else 1:Nat)=1∨(if cM l i then 2 else 1:Nat)=2:=by split<;>simp
   refine .seq (.ai (.z zm (.y hs (zls [_,_] Tryz.isAgg300 Tryz.sizeOf300) ?_)))
   have hk':j<(lG l).length:=by simpa [lG] using hjl
   have hyd:=hy j hk' H1 σb (.blk b4 [I (i:Int),I (((if cM l i then 2 else 1:Nat)):Int)]::σf) w hle1 hI (St.deep hs)
   rw [show (lG l)[j]=[Value.agg #[I (i:Int),I (((if cM l i then 2 else 1:Nat)):Int)]] by simp only [lG,List.getElem_map,hgj];rfl] at hyd
   refine .o (.yield rfl rfl hyd ?_);rintro v53 w ⟨H2,σ2,g1,hs,g3⟩
   obtain ⟨bb,rfl,gT,gF⟩:=ka g3
   replace hs:=St.shallow hs
   refine .z jb (.nil ?_)
   refine (.cond rfl (fun hc54=>?_) (fun hc54=>?_))
   ·refine .ret (rT (rB (rT (rB (Fin.AN Tryz.results295 ?_)))))
    exact ⟨H2,σ2,hle0.trans g1,hs.tail,.inr (gF (by simpa using hc54))⟩
   ·refine .skip ?_
    refine nT ?_
    refine .region (.z zm (.z (zfa fh) (.y hs (zld af) (.z cR (.z zg (.nil ?_))))))
    refine nB (nT ?_)
    generalize (if cM l i then 2 else 1:Nat)=n at*
    exact ⟨i+n,.eU rfl cN cC,⟨aj,j+1,hjl,hdj,H2,σ2,hle1.trans g1,hle0.trans g1,gT (by simpa using hc54),hs.tail⟩,aj⟩
 ·refine .exit ?_
  refine xT (xT (xB ?_))
  rw [mG aj] at hd
  have:(qy l).length≤j:=by simpa using hd
  obtain rfl:j=(qy l).length:=by omega
  exact Fin.sy Tryz.results295 ⟨H1,σb,hle0,hs,.inl (by simpa [lG] using hI)⟩
theorem ml{v:Value}{l:List Int}(hs:St H w σ)(hr:RI H v l)(hp:eb 9 100000 l):
  Cl Tryz.prog 276 [v] w fun u w'=>∃H1 b,HLe H H1∧u= .func (.func 295) #[] #[.pointer (some ⟨b,0,none⟩)]∧Iter Tryz.prog 295 [.pointer (some ⟨b,0,none⟩)] H1 (lG l)∧St H1 w' σ:=by
 obtain ⟨a,c,rfl⟩:=RI.shape hr
 refine Cl.o Tryz.func276 Tryz.ntmps276 ag1 ?_
 refine .ai ?_
 refine .bx hs fun b1 w hs=>?_
 refine .z zg (.nil (.ai ?_))
 refine .q hs (bO (f:=[]) (c:=[_]) rfl rfl) ?_
 refine .z zg (.nil ?_)
 refine .ret (Fin.bF Tryz.results276 rfl ?_)
 obtain ⟨H1,g1,g2,hs⟩:=hs.bK .here
 exact ⟨H1,b1,g1,rfl,kf hp g2 (hr.mono g1),hs⟩
theorem jT{bs bW from_ n:Nat}{W xs:List Int}{v:Value}(hs:St H w (.blk bs [.slice (some ⟨bW,0,none⟩) n n]:: .blk bW (Is W)::σ))(hW:W.length=n)(hr:RI H v xs)(hl:from_+xs.length≤n)(hn:n≤9)
  (hz:aJ W n≤1000000000) (ha:pV xs≤1000000000):
  Cl Tryz.prog 275 [.pointer (some ⟨bs,0,none⟩),I (from_:Int),v] w fun _ w'=>St H w' (.blk bs [.slice (some ⟨bW,0,none⟩) n n]:: .blk bW (Is (fu W from_ xs))::σ):=by
 obtain ⟨a,c,rfl⟩:=RI.shape hr
 have hlen:=(RI.len hr).2.2
 refine Cl.o Tryz.func275 Tryz.ntmps275 ag3 ?_
 refine .ai (.z zm (.z (df ad) (.z zm (.nil ?_))))
 refine .for (N:=xs.length) (J:=fun k fr w=>fr=[(8,.slice a xs.length c),(0,.pointer (some ⟨bs,0,none⟩)),(1,I (from_:Int))]∧St H w (.blk bs [.slice (some ⟨bW,0,none⟩) n n]:: .blk bW (Is (fu W from_ (xs.take k)))::σ)) aj ?_ ?_ ?_
 ·exact .mk ⟨rfl,hs⟩
 ·rintro k fr w hk ⟨rfl,hs⟩
  have hal:=gN (xs.take k) W from_
  have hsz:=kN (xs.take k) W from_ (by rw [List.length_take];omega)
  rw [hW] at hsz
  have h1:=si xs k
  have h2:=wR xs k
  have h3:=jv (fu W from_ (xs.take k)) (v:=from_+k) (n:=n) aj
  have h4:=uR hk W from_
  refine .block (.ai (.z zm ?_))
  refine .ixY hs hr rfl rfl ad ae (bB (l:=xs) (i:=k) aj) dm ?_;intro b13 o13 hc13
  refine .q hs (bj rfl af hc13) ?_
  refine .z zg (.z zg (.nil (.region (.z zm (.z znc (.z (zfa jV) (.y hs (zld ak) (.z zm (.z zm ?_)))))))))
  refine .z cR ?_
  refine .q hs (gh (k:=from_+k) rfl rfl ad ae aj aj) ?_
  refine .y hs (zld af) (.z zm (.z cR ?_))
  refine .q hs (gh (k:=from_+k) rfl rfl ad ae aj aj) ?_
  refine .o (.store hs rfl rfl ae fun w hs=>?_)
  refine .nil ?_
  refine nB (nT ?_)
  exact .mk ⟨rfl,by rw [h4];exact hs⟩
 ·rintro fr w ⟨rfl,hs⟩
  rw [List.take_length] at hs
  exact Fin.sy Tryz.results275 hs
theorem uG{a b:Int}(ha:0<a∧a≤100000)(hb:0<b∧b≤100000):0≤min a b∧min a b≤100000:=by omega
theorem zu{a b:Int}(h:0<tms a b):tms a b=1∨tms a b=2∨tms a b=3:=by have:=yY a b;omega
set_option maxHeartbeats 1000000 in
theorem eJ{v:Value}{l:List Int}(hs:St H w σ)(hr:RI H v l)(hp:eb 9 100000 l):
  Cl Tryz.prog 248 [v] w fun u w'=>∃H1,HLe H H1∧RI H1 u (wts l)∧St H1 w' σ:=by
 obtain ⟨a,c,rfl⟩:=RI.shape hr
 have hln:=hp.many
 have hgl:(qy l).length≤9:=by have:=mT l l.length 0;unfold qy;omega
 refine Cl.o Tryz.func248 Tryz.ntmps248 ag1 ?_
 refine .ai ?_
 refine .bx hs fun b1 w hs=>?_
 refine .z zg (.nil (.ai (.y hs (zld ak) (.z (df ad) ?_))))
 refine .o (.o7 l.length hs rfl rfl ad dB rfl ae aR aj fun b13 w hs=>?_)
 refine .z (zbd [_] qP) ?_
 refine .o (.alloc hs Tryz.zeroValue294 rfl fun b3 w hs=>?_)
 refine .o (.aP (vs:=[_]) hs rfl rfl Tryz.sizeOf294 fun w hs=>?_)
 refine .nil (.ai ?_)
 refine .q hs (bO (f:=[_]) (c:=[]) rfl rfl) ?_
 refine .o (.alloc hs Tryz.zeroValue295 rfl fun b4 w hs=>?_)
 refine .o (.store hs rfl rfl Tryz.sizeOf295 fun w hs=>?_)
 refine .nil (.seq (.ai (.y hs (zld ak) ?_)))
 refine .o (.call Tryz.call276 rfl (ml hs hr hp) ?_);rintro _ w ⟨H1,b17,hle1,rfl,hit,hs⟩
 refine .nil (.block ?_)
 refine .rangeFunc (gf:=295) (cap:=[.pointer (some ⟨b17,0,none⟩)]) (xs:=lG l) (σb:=[.blk b3 [.slice (some ⟨b13,0,none⟩) l.length l.length],.blk b13 (Is (sx l 0)),.blk b4 [.func (.func 275) #[.pointer (some ⟨b3,0,none⟩)] #[]],.blk b1 [.slice a l.length c]]) (σf:=σ) (hs.sb) trivial rfl hit Tryz.call295 (fun x hx=>by
   simp only [lG,List.mem_map] at hx
   obtain ⟨j,_,rfl⟩:=hx;rfl) rfl
  (I:=fun j H' σb=>σb=[.blk b3 [.slice (some ⟨b13,0,none⟩) l.length l.length],.blk b13 (Is (sx l j)),.blk b4 [.func (.func 275) #[.pointer (some ⟨b3,0,none⟩)] #[]],.blk b1 [.slice a l.length c]]) (Ix:=fun _ _ _=>False)
  (fun j _ _ σ g1 g2=>g2) (fun _ _ _ _ _ h=>h) rfl ?_ ?_ (fun D c H' σb w _ h _=>h.elim)
 ·rintro ly j hj H2 σb2 σf2 w hle2 rfl hs ⟨rr,hrr⟩
  have hjl:j<(qy l).length:=by simpa [lG] using hj
  obtain ⟨g,hg⟩:=nth hjl
  rw [show (lG l)[j]=[Value.agg #[I (g.at_:Int),I (g.n:Int)]] by
   rw [List.getElem?_eq_getElem hjl] at hg
   simp only [lG,List.getElem_map,Option.some.inj hg]]
  obtain ⟨i1,i2,i3,i4,i5⟩:=rQ hp (List.mem_of_getElem? hg)
  have hK:=ra hg
  have hKl:=kb l j
  have hKz:=pw hp j aj
  have hr2:=hr.mono (hle1.trans hle2)
  have hq0:=hp.bd (i:=g.at_) aj
  have hq1:=hp.bd (i:=g.at_+1) aj
  generalize hA:gi l (g.at_+1) - gi l g.at_=A at*
  refine .region ?_
  refine .o (.alloc hs Tryz.zeroValue300 rfl fun b5 w hs=>?_)
  refine .o (.aP (vs:=[_,_]) hs rfl rfl Tryz.sizeOf300 fun w hs=>?_)
  refine .nil ?_
  refine nT ?_
  refine ⟨H2,[.blk b5 [I (g.at_:Int),I (g.n:Int)],.blk b3 [.slice (some ⟨b13,0,none⟩) l.length l.length],.blk b13 (Is (sx l j)),.blk b4 [.func (.func 275) #[.pointer (some ⟨b3,0,none⟩)] #[]],.blk b1 [.slice a l.length c]],HLe.refl _,hs,?_⟩;rintro w σf4 - hs
  refine .block ?_
  refine .seq (.draw mix rfl hs fun w hs=>?_)
  refine .y 0 rfl hs ak ?_;refine .z 1 rfl (zfa dP) ?_;refine .y 2 rfl hs af ?_;refine .z 3 rfl cR ?_
  refine .ixX (enc:=fun x=>[I x]) (i:=4) hs rfl ay .none hr2 rfl rfl ad ae (bB (l:=l) (i:=(g.at_+1)) aj) dm ?_;intro b23 o23 hc23;replace hc23:=br.one hc23
  refine .r (i:=5) hs rfl ay .none (bj rfl af hc23) ?_
  refine .y 6 rfl hs ak ?_;refine .z 7 rfl (zfa dP) ?_;refine .y 8 rfl hs af ?_
  refine .ixX (enc:=fun x=>[I x]) (i:=9) hs rfl ay .none hr2 rfl rfl ad ae (bB (l:=l) (i:=g.at_) aj) dm ?_;intro b28 o28 hc28;replace hc28:=br.one hc28
  refine .r (i:=10) hs rfl ay .none (bj rfl af hc28) ?_
  refine .z 11 rfl iR ?_
  rw [hA]
  refine .z 12 rfl zg ?_;refine .D hs ?_
  refine .seq (.ai (.z (zfa fh) (.y hs (zld af) (.z j9 ?_))))
  skip
  refine .nil ?_
  refine (.cW rfl (fun hc33=>?_) (fun hc33=>?_))
  ·refine .ai ?_
   refine .y hs (zld Tryz.isAgg295) ?_
   refine .z (zfa dP) (.y hs (zld af) (.z zm (.z iq (.z zm (.z iq ?_)))))
   refine .o (.buildSlice (cells:=[_,_]) hs eG rfl rfl fun b41 w hs=>?_)
   have h2:g.two=false:=by
    cases e:g.two with
    |false=>rfl
    |true=>simp [Grp.n,e] at hc33
   obtain ⟨H3,hle3,r41,hs⟩:=bX.cn (xs:=[18*A,18*A]) (v:= .slice (some ⟨b41,0,none⟩) 2 2) (.full (len:=2) rfl) cN hs c9
   have hgw:=yu h2 hA
   rw [hgw] at hK i5
   replace hs:St H3 w (.blk b3 [.slice (some ⟨b13,0,none⟩) l.length l.length]:: .blk b13 (Is (sx l j)):: .blk b5 [I (g.at_:Int),I (g.n:Int)]:: .blk b4 [.func (.func 275) #[.pointer (some ⟨b3,0,none⟩)] #[]]:: .blk b1 [.slice a l.length c]::σf4):=hs.sb
   refine .o (.lP (first:=[.pointer (some ⟨b3,0,none⟩)]) (cap:=[]) rfl rfl Tryz.call275 (jT (from_:=g.at_) (xs:=[18*A,18*A]) hs hKl r41 (by simp;omega) aj aj aj) ?_);rintro _ w hs
   rw [←hK] at hs
   refine .nil ?_
   refine .exit ?_
   refine xT (xB ?_)
   exact ⟨H3,_,hle3,(hs.sb:St H3 w (.blk b3 _:: .blk b13 _:: .blk b4 _:: .blk b1 _::σf4)),rfl⟩
  ·refine .skip ?_
   refine nT ?_
   refine .seq (.draw mix rfl hs fun w hs=>?_)
   have h2:g.two=true:=by
    cases e:g.two with
    |true=>rfl
    |false=>simp [Grp.n,e] at hc33
   obtain ⟨j1,j2,j3,j4⟩:=i4 h2
   have hq2:=hp.bd (i:=g.at_+2) aj
   generalize hB:gi l (g.at_+2) - gi l (g.at_+1)=B at*
   have hmx:=vy (a:=A) (b:=B) aj aj
   have hk:=zu j4
   have hmm:=uG (a:=A) (b:=B) ⟨aj,aj⟩ ⟨aj,aj⟩
   obtain ⟨n1,n2,n3,n4⟩:=yq hk hmm.1 hmm.2
   obtain ⟨n5,n6,n7,n8,n9⟩:=n4 _ n3.1 n3.2
   generalize hT:tms A B=T at*
   generalize hM:min A B=M at*
   have hgw:=yr h2 hA hB hT hM
   refine .y 0 rfl hs ak ?_;refine .z 1 rfl (zfa dP) ?_;refine .y 2 rfl hs af ?_;refine .z 3 rfl cR ?_
   refine .ixX (enc:=fun x=>[I x]) (i:=4) hs rfl ay .none hr2 rfl rfl ad ae (bB (l:=l) (i:=(g.at_+2)) aj) dm ?_;intro b47 o47 hc47;replace hc47:=br.one hc47
   refine .r (i:=5) hs rfl ay .none (bj rfl af hc47) ?_
   refine .y 6 rfl hs ak ?_;refine .z 7 rfl (zfa dP) ?_;refine .y 8 rfl hs af ?_;refine .z 9 rfl cR ?_
   refine .ixX (enc:=fun x=>[I x]) (i:=10) hs rfl ay .none hr2 rfl rfl ad ae (bB (l:=l) (i:=(g.at_+1)) aj) dm ?_;intro b53 o53 hc53;replace hc53:=br.one hc53
   refine .r (i:=11) hs rfl ay .none (bj rfl af hc53) ?_
   refine .z 12 rfl iR ?_
   rw [hB]
   refine .z 13 rfl zg ?_;refine .D hs ?_
   refine .ai (.z zm (.z zm ?_))
   refine .o (.call Tryz.call277 rfl (ep hs aj aj) ?_);rintro _ w ⟨rfl,hs⟩
   refine .z zm (.z zm ?_)
   refine .o (.call Tryz.call277 rfl (ep hs aj aj) ?_);rintro _ w ⟨rfl,hs⟩
   refine .z BX ?_
   rw [←hmx]
   refine .z zg (.nil (.ai (.z zm ?_)))
   refine .q hs (vQ rfl rfl aj aj) ?_
   refine .z zm (.z cR (.z iq (.z zm (.z zm (.z AE ?_)))))
   rw [hM]
   refine .z iq (.z zg (.nil (.ai (.z zm (.z zm (.z iq (.z zm (.z iR (.z iq ?_)))))))))
   refine .z zm (.z zm (.z cR (.z iq (.z zm (.z cR (.z iq (.z zm (.z zm (.z iq ?_)))))))))
   refine .z iR (.z iq ?_)
   refine .o (.buildSlice (cells:=[_,_,_]) hs sc rfl rfl fun b90 w hs=>?_)
   refine .z zg (.nil ?_)
   refine .cut (fun fs w=>∃H3,kT fs ⟨103,[],[(10,.slice (some ⟨b90,0,none⟩) 3 3),(5,.pointer (some ⟨b5,0,none⟩)),(4,.pointer (some ⟨b4,0,none⟩)),(3,.pointer (some ⟨b3,0,none⟩)),(1,.pointer (some ⟨b1,0,none⟩))]⟩∧HLe H2 H3∧RI H3 (.slice (some ⟨b90,0,none⟩) 3 3) (nr l g)∧St H3 w (.blk b3 [.slice (some ⟨b13,0,none⟩) l.length l.length]:: .blk b13 (Is (sx l j)):: .blk b5 [I (g.at_:Int),I (g.n:Int)]:: .blk b4 [.func (.func 275) #[.pointer (some ⟨b3,0,none⟩)] #[]]:: .blk b1 [.slice a l.length c]::σf4)) ?_ ?_
   ·refine .ai (.z zm (.z zm (.z qZ (.nil ?_))))
    refine (.cW rfl (fun hc93=>?_) (fun hc93=>?_))
    ·refine .region (.z zm ?_)
     refine .o (.call Tryz.call128 rfl (gD (en:= .blk b90 (Is [(6:Int).tdiv T*(1+T)*M*T*(2 - T),(6:Int).tdiv T*(1+T)*M*(1+T)*(1+T),(6:Int).tdiv T*(1+T)*M*(2*T - 1)])) (hs.sb:St H2 w (.blk b90 _:: .blk b3 _:: .blk b13 _:: .blk b5 _:: .blk b4 _:: .blk b1 _::σf4)) (.full rfl) cN) ?_);rintro _ w ⟨en95,hO95,hs⟩
     refine .nil ?_
     refine nT ?_
     obtain ⟨H3,hle3,r90,hs⟩:=bX.cn hO95 cN hs .here
     rw [if_pos hc93] at hgw
     rw [hgw]
     exact ⟨H3,cC,hle3,r90,hs⟩
    ·refine .skip ?_
     refine nT ?_
     obtain ⟨H3,hle3,r90,hs⟩:=bX.cn (xs:=[(6:Int).tdiv T*(1+T)*M*T*(2 - T),(6:Int).tdiv T*(1+T)*M*(1+T)*(1+T),(6:Int).tdiv T*(1+T)*M*(2*T - 1)]) (v:= .slice (some ⟨b90,0,none⟩) 3 3) (.full (len:=3) rfl) cN hs c9
     rw [if_neg aj] at hgw
     rw [hgw]
     exact ⟨H3,cC,hle3,r90,hs.sb⟩
   ·rintro fs w ⟨H3,hfs,hle3,r90,hs⟩
    refine WE.sub ?_ hfs
    refine .region ?_
    refine .y hs (zld Tryz.isAgg295) ?_
    refine .z (zfa dP) (.y hs (zld af) (.z zm ?_))
    refine .o (.lP (first:=[.pointer (some ⟨b3,0,none⟩)]) (cap:=[]) rfl rfl Tryz.call275 (jT (from_:=g.at_) (xs:=nr l g) hs hKl r90 (by rw [qz,show g.n=2 by unfold Grp.n;rw [h2];rfl];omega) aj aj aj) ?_);rintro _ w hs
    rw [←hK] at hs
    refine .nil ?_
    refine nB ?_
    exact ⟨H3,_,hle3,(hs.sb:St H3 w (.blk b3 _:: .blk b13 _:: .blk b4 _:: .blk b1 _::σf4)),rfl⟩
 ·rintro D H2 σb2 w hle2 rfl hs
  rw [show (lG l).length=(qy l).length by simp [lG],xj] at hs
  replace hs:St H2 w (.obj D (.deferred (some [])):: .blk b3 [.slice (some ⟨b13,0,none⟩) l.length l.length]:: .blk b13 (Is (wts l)):: .blk b4 [.func (.func 275) #[.pointer (some ⟨b3,0,none⟩)] #[]]:: .blk b1 [.slice a l.length c]::σ):=hs
  refine nB (nT ?_)
  refine .ai (.z (zfa jV) (.y hs (zld ak) (.z zg (.nil ?_))))
  refine .ret ?_
  obtain ⟨H3,hle3,hR,hs⟩:=bX.cn (xs:=wts l) (v:= .slice (some ⟨b13,0,none⟩) l.length l.length) (.full (by simp [Is,eD])) (by rw [eD];omega) hs c9
  exact Fin.gR [D] [] hs fun w hs=>⟨_,results1 Tryz.results248 rfl,H3,hle1.trans (hle2.trans hle3),hR,hs.out⟩
def uw(X Y:List Int)(i:Nat):List Int:=(List.range Y.length).map fun k=>gi X i*gi Y k
def lH(X Y:List Int)(i:Nat):List (List Int):=(List.range i).map (uw X Y)
theorem kr(X Y:List Int)(i:Nat):(uw X Y i).length=Y.length:=by simp [uw]
theorem jk(X Y:List Int)(i:Nat):(lH X Y i).length=i:=by simp [lH]
theorem uI(X Y:List Int)(i:Nat):lH X Y (i+1)=lH X Y i++[uw X Y i]:=by simp [lH,List.range_succ]
theorem vK{X Y:List Int}{i k:Nat}(hk:k<Y.length):(uw X Y i).take (k+1)=(uw X Y i).take k++[gi X i*gi Y k]:=by
 rw [bZ (by simp [uw,hk]:(uw X Y i)[k]? =some (gi X i*gi Y k))]
theorem tP{X Y:List Int}{n i:Nat}(h:i<n):gr (lH X Y n) i=uw X Y i:=by simp [gr,List.getD,lH,h]
theorem yv{X Y:List Int}{n i k:Nat}(h:i<n)(hk:k<Y.length):gt (lH X Y n) i k=gi X i*gi Y k:=by
 unfold gt;rw [tP h];simp [gi,List.getD,uw,hk]
inductive GrS(X Y:List Int)(b:Nat)(i k:Nat)(H:a8)(σ:List Ent):Prop
 |go (us:List Value) (v:Value) (en:Ent) (h:i<X.length) (h1:RLs H us (lH X Y i)) (h2:bX 1 v (Is ((uw X Y i).take k)) en) (h3:σ=[.blk b (us++v::List.replicate (X.length - i - 1) (.slice none 0 0)),en])
 |fin (us:List Value) (h:i=X.length) (h1:RLs H us (lH X Y i)) (h3:σ=[.blk b us])
theorem GrS.mono{X Y:List Int}{b i k:Nat}{H H':a8}{σ:List Ent}(h:GrS X Y b i k H σ)(hl:HLe H H'):GrS X Y b i k H' σ:=by
 cases h with
 |go us v en h h1 h2 h3=>exact .go us v en h (h1.mono hl) h2 h3
 |fin us h h1 h3=>exact .fin us h (h1.mono hl) h3
theorem gA{v:Value}{l:List Int}(hs:St H w σ)(hr:RI H v l):
  Cl Tryz.prog 273 [v] w fun u w'=>∃H1 vo e,HLe H H1∧u= .tuple #[vo,I e]∧(eb 9 100000 l→e=0∧RI H1 vo (wts l))∧St H1 w' σ:=by
 obtain ⟨a,c,rfl⟩:=RI.shape hr
 refine Cl.o Tryz.func273 Tryz.ntmps273 ag1 ?_
 refine .ai (.z zg (.z zg (.nil (.seq (.ai (.z zm ?_))))))
 refine .o (.call Tryz.call294 rfl (iS hs hr) ?_);rintro _ w ⟨e,rfl,he,hs⟩
 refine .z zg (.nil (.ai (.z zm (.z m9 (.nil ?_)))))
 refine (.ie rfl (fun hc8=>?_) (fun hc8=>?_))
 ·refine .ai (.z zm (.z zg (.z zg (.nil ?_))))
  refine .ret (rT (Fin.q5 Tryz.results273 rfl rfl ?_))
  exact ⟨H,_,_,HLe.refl H,rfl,fun h=>by rcases he with ⟨_,h2⟩|⟨h1,_⟩;exact (hc8 h2).elim;exact (h1 h).elim,hs⟩
 ·refine .skip ?_
  refine nT ?_
  refine .ai (.z zm ?_)
  have hp:eb 9 100000 l:=by rcases he with ⟨h,_⟩|⟨_,h2⟩;exact h;exact (h2 (by simpa using hc8)).elim
  refine .o (.call Tryz.call248 rfl (eJ hs hr hp) ?_);rintro v11 w ⟨H1,hle1,hR,hs⟩
  refine .z zg (.z zg (.nil ?_))
  refine .ret (Fin.q5 Tryz.results273 rfl rfl ?_)
  exact ⟨H1,_,_,hle1,rfl,fun _=>⟨rfl,hR⟩,hs⟩
theorem mj{v1 v2:Value}{a b:List Int}(hs:St H w σ)(h1:RI H v1 a)(h2:RI H v2 b):
  Cl Tryz.prog 191 [v1,v2] w fun u w'=>∃bb:Bool,u= .bool bb∧(bb=true↔eb 9 100000 a∧eb 7 15000 b)∧St H w' σ:=by
 refine Cl.o Tryz.func191 Tryz.ntmps191 ag2 ?_
 refine .ai (.z zg (.nil (.ai (.z zm ?_))))
 refine .o (.call Tryz.call247 rfl (eh (many:=9) (most:=100000) hs h1) ?_);rintro _ w ⟨b6,rfl,hb6,hs⟩
 refine .z zm ?_
 refine .bif (t':=7) rfl (fun hb7=>?_) (fun hb7=>?_)
 ·refine .gT rfl rfl ?_
  refine .z zm ?_
  refine .gT rfl rfl ?_
  refine .o (.call Tryz.call247 rfl (eh (many:=7) (most:=15000) hs h2) ?_);rintro _ w ⟨b9,rfl,hb9,hs⟩
  refine .z zpT (.z zg (.nil ?_))
  refine .ret (Fin.bF Tryz.results191 rfl ?_)
  exact ⟨_,rfl,by rw [hb9];exact ⟨fun h=>⟨hb6.1 hb7,h⟩,fun h=>h.2⟩,hs⟩
 ·refine .gFs 2 2 true rfl rfl rfl ?_
  refine .z zpF (.z zg (.nil ?_))
  refine .ret (Fin.bF Tryz.results191 rfl ?_)
  exact ⟨_,rfl,⟨fun h=>(by cases h),fun h=>by rw [hb6.2 h.1] at hb7;cases hb7⟩,hs⟩
theorem jC{bx by_:Nat}{x y:Int}(hs:St H w σ)(hx:Row H bx [I x])(hy:Row H by_ [I y]):
  Cl Tryz.prog 279 [.pointer (some ⟨bx,0,none⟩),.pointer (some ⟨by_,0,none⟩)] w fun u w'=>u= .tuple #[I x,I y]∧St H w' σ:=by
 have hx0:=hx.at 0
 have hy0:=hy.at 0
 refine Cl.o Tryz.func279 Tryz.ntmps279 ag2 ?_
 refine .ai (.z zg (.z zg (.nil ?_)))
 refine .seq (.draw mix rfl hs fun w hs=>?_)
 refine .y 0 rfl hs af ?_;refine .y 1 rfl hs af ?_;refine .z 2 rfl zg ?_;refine .z 3 rfl zg ?_;refine .D hs ?_
 refine .ret (Fin.q5 Tryz.results279 rfl rfl ?_)
 exact ⟨rfl,hs⟩
def PrE(X Y:List Int)(p:Nat)(H:a8)(z:List Value):Prop:=
 ∃bx by_,z=[.agg #[I ((p/Y.length:Nat):Int),I ((p%Y.length:Nat):Int)],.func (.func 279) #[] #[.pointer (some ⟨bx,0,none⟩),.pointer (some ⟨by_,0,none⟩)]]∧Row H bx [I (gi X (p/Y.length))]∧Row H by_ [I (gi Y (p%Y.length))]
theorem kZ{H:a8}{b1 b2:Nat}{v1 v2:Value}{X Y:List Int}(hb1:Row H b1 [v1])(hb2:Row H b2 [v2])(hX:RI H v1 X)(hY:RI H v2 Y)(hXl:X.length≤1000)(hYl:Y.length≤1000):
  yP Tryz.prog 278 [.pointer (some ⟨b1,0,none⟩),.pointer (some ⟨b2,0,none⟩)] H (X.length*Y.length) (PrE X Y):=by
 intro ly II Ix hmI _ hy H0 σb0 σf w hle hI0 hs
 obtain ⟨a1,c1,rfl⟩:=RI.shape hX
 obtain ⟨a2,c2,rfl⟩:=RI.shape hY
 have h01:cellAt H0 b1 0=some (.slice a1 X.length c1):=cellAt.mono (hb1.at 0) hle
 have h02:cellAt H0 b2 0=some (.slice a2 Y.length c2):=cellAt.mono (hb2.at 0) hle
 refine Cl.o Tryz.func278 Tryz.ntmps278 ag3 ?_
 refine .ai (.y hs (zld ak) (.z (df ad) (.z zm (.nil ?_))))
 refine .for (N:=X.length) (J:=fun i fr w=>fr=[(8,.slice a1 X.length c1),(0,.func (.yield ly) #[] #[]),(1,.pointer (some ⟨b1,0,none⟩)),(2,.pointer (some ⟨b2,0,none⟩))]∧∃H1 σb,HLe H H1∧HLe H0 H1∧II (i*Y.length) H1 σb∧St H1 w (σb++σf)) aj ?_ ?_ ?_
 ·exact .mk ⟨rfl,H0,σb0,hle,HLe.refl _,by rw [Nat.zero_mul];exact hI0,hs⟩
 ·rintro i fr w hi ⟨rfl,H1,σb,hle1,hle0,hI,hs⟩
  refine .block (.ai (.z zm ?_))
  refine .ixY hs (hX.mono hle1) rfl rfl ad ae (bB (l:=X) (i:=i) aj) dm ?_;intro b13 o13 hc13
  refine .q hs (bj rfl af hc13) ?_
  refine .o (.alloc hs aR rfl fun b5 w hs=>?_)
  refine .z zg ?_
  refine .o (.store hs rfl rfl ae fun w hs=>?_)
  refine .nil (.ai ?_)
  obtain ⟨H2,hle2,r5,hs⟩:=hs.bK (b:=b5) .here
  have h22:=cellAt.mono h02 (hle0.trans hle2)
  refine .y hs (zld ak) (.z (df ad) (.z zm (.nil ?_)))
  refine .for (N:=Y.length) (J:=fun k fr w=>fr=[(15,.slice a2 Y.length c2),(4,I (i:Int)),(10,I (i:Int)),(9,I (X.length:Int)),(5,.pointer (some ⟨b5,0,none⟩)),(8,.slice a1 X.length c1),(0,.func (.yield ly) #[] #[]),(1,.pointer (some ⟨b1,0,none⟩)),(2,.pointer (some ⟨b2,0,none⟩))]∧∃H3 σb,HLe H2 H3∧II (i*Y.length+k) H3 σb∧St H3 w (σb++σf)) aj ?_ ?_ ?_
  ·exact .mk ⟨rfl,H2,σb,HLe.refl _,hmI _ _ _ _ hle2 hI,hs⟩
  ·rintro k fr w hk ⟨rfl,H3,σb3,hle3,hI3,hs⟩
   have hle03:=hle0.trans (hle2.trans hle3)
   have hle13:=hle1.trans (hle2.trans hle3)
   refine .block (.ai (.z zm ?_))
   refine .ixY hs (hY.mono hle13) rfl rfl ad ae (bB (l:=Y) (i:=k) aj) dm ?_;intro b20 o20 hc20
   refine .q hs (bj rfl af hc20) ?_
   refine .o (.alloc hs aR rfl fun b7 w hs=>?_)
   refine .z zg ?_
   refine .o (.store hs rfl rfl ae fun w hs=>?_)
   refine .nil (.ai (.z zm (.z zm (.z zm ?_))))
   refine .q hs (xP (vs:=[(0,I (i:Int)),(1,I (k:Int))]) (cells:=[I (i:Int),I (k:Int)]) Tryz.zeroValue90 rfl Tryz.runUnderlying90 ae rfl) ?_
   refine .q hs (bO (f:=[]) (c:=[_,_]) rfl rfl) ?_
   obtain ⟨H4,hle4,r7,hs⟩:=hs.bK (b:=b7) .here
   obtain ⟨d1,d2⟩:=zq (nw:=Y.length) (i:=i) (k:=k) hk
   have hlt:i*Y.length+k<X.length*Y.length:=by
    have:=Nat.mul_le_mul_right Y.length (show i+1≤X.length by omega)
    rw [Nat.add_mul,Nat.one_mul] at this;omega
   have hyd:=hy (i*Y.length+k) hlt [.agg #[I (i:Int),I (k:Int)],.func (.func 279) #[] #[.pointer (some ⟨b5,0,none⟩),.pointer (some ⟨b7,0,none⟩)]] H4 σb3 σf w (hle13.trans hle4) ⟨b5,b7,by rw [d1,d2],by rw [d1];exact r5.mono (hle3.trans hle4),by rw [d2];exact r7⟩ (hmI _ _ _ _ hle4 hI3) hs
   refine .o (.yield rfl rfl hyd ?_);rintro v27 w ⟨H5,σ5,g1,hs,g3⟩
   obtain ⟨bb,rfl,gT,gF⟩:=ka g3
   refine .z jb (.nil ?_)
   refine (.cond rfl (fun hc28=>?_) (fun hc28=>?_))
   ·refine .ret (rB (rT (rB (rB (rT (rB (Fin.AN Tryz.results278 ?_)))))))
    exact ⟨H5,σ5,hle03.trans (hle4.trans g1),hs,.inr (gF (by simpa using hc28))⟩
   ·refine .skip ?_
    refine nB (nT ?_)
    exact .mk ⟨rfl,H5,σ5,hle3.trans (hle4.trans g1),gT (by simpa using hc28),hs⟩
  ·rintro fr w ⟨rfl,H3,σb3,hle3,hI3,hs⟩
   refine nB (nT ?_)
   exact .mk ⟨rfl,H3,σb3,hle1.trans (hle2.trans hle3),hle0.trans (hle2.trans hle3),by rw [Nat.add_mul,Nat.one_mul];exact hI3,hs⟩
 ·rintro fr w ⟨rfl,H1,σb,hle1,hle0,hI,hs⟩
  exact Fin.sy Tryz.results278 ⟨H1,σb,hle0,hs,.inl hI⟩
theorem nf{v1 v2:Value}{X Y:List Int}(hs:St H w σ)(hX:RI H v1 X)(hY:RI H v2 Y)(hXl:X.length≤1000)(hYl:Y.length≤1000):
  Cl Tryz.prog 249 [v1,v2] w fun u w'=>∃H1 b1 b2,HLe H H1∧u= .func (.func 278) #[] #[.pointer (some ⟨b1,0,none⟩),.pointer (some ⟨b2,0,none⟩)]∧yP Tryz.prog 278 [.pointer (some ⟨b1,0,none⟩),.pointer (some ⟨b2,0,none⟩)] H1 (X.length*Y.length) (PrE X Y)∧St H1 w' σ:=by
 obtain ⟨a1,c1,rfl⟩:=RI.shape hX
 obtain ⟨a2,c2,rfl⟩:=RI.shape hY
 refine Cl.o Tryz.func249 Tryz.ntmps249 ag2 ?_
 refine .ai ?_
 refine .bx hs fun b2 w hs=>?_
 refine .bx hs fun b3 w hs=>?_
 refine .z zg (.nil (.ai ?_))
 refine .q hs (bO (f:=[]) (c:=[_,_]) rfl rfl) ?_
 refine .z zg (.nil ?_)
 refine .ret (Fin.bF Tryz.results249 rfl ?_)
 obtain ⟨H1,g1,r1,hs⟩:=hs.bK (b:=b2) c9
 obtain ⟨H2,g2,r2,hs⟩:=hs.bK (b:=b3) c9
 exact ⟨H2,b2,b3,g1.trans g2,rfl,kZ (r1.mono g2) r2 (hX.mono (g1.trans g2)) (hY.mono (g1.trans g2)) hXl hYl,hs⟩
set_option maxHeartbeats 1000000 in
theorem nQ{v1 v2:Value}{l1 l2:List Int}(hs:St H w σ)(hr1:RI H v1 l1)(hr2:RI H v2 l2)(hp1:eb 9 100000 l1)(hp2:eb 7 15000 l2):
  Cl Tryz.prog 192 [v1,v2] w fun u w'=>∃H1,HLe H H1∧RT H1 u (lH (wts l1) (wts l2) l1.length)∧St H1 w' σ:=by
 obtain ⟨a1,c1,rfl⟩:=RI.shape hr1
 obtain ⟨a2,c2,rfl⟩:=RI.shape hr2
 have hn1:=hp1.many
 have hn2:=hp2.many
 have htw1:=hp1.two
 have htw2:=hp2.two
 have hp2':eb 9 100000 l2:=⟨hp2.two,aj,hp2.low,by have:=hp2.high;omega,hp2.rise⟩
 have hXl:=eD l1
 have hYl:=eD l2
 have hXb:=yV hp1
 have hYb:=yV hp2
 refine Cl.o Tryz.func192 Tryz.ntmps192 ag2 ?_
 refine .ai (.z zg (.nil (.ai (.z zm ?_))))
 refine .o (.call Tryz.call248 rfl (eJ hs hr1 hp1) ?_);rintro v13 w ⟨H1,hle1,hX,hs⟩
 refine .z zm ?_
 refine .o (.call Tryz.call248 rfl (eJ hs (hr2.mono hle1) hp2') ?_);rintro v15 w ⟨H2,hle2,hY,hs⟩
 replace hX:=hX.mono hle2
 generalize wts l1=X at*
 generalize wts l2=Y at*
 obtain ⟨aX,cX,rfl⟩:=RI.shape hX
 obtain ⟨aY,cY,rfl⟩:=RI.shape hY
 refine .z zg (.z zg (.nil (.ai (.z zm (.z (df ad) ?_)))))
 refine .o (.Cf l1.length hs rfl rfl bH Tryz.typeInfo22 rfl aE cO aj fun b18 w hs=>?_)
 refine .o (.alloc hs Tryz.zeroValue61 rfl fun b7 w hs=>?_)
 refine .o (.store hs rfl rfl Tryz.sizeOf61 fun w hs=>?_)
 refine .nil (.seq (.ai (.z zm (.z zm ?_))))
 refine .o (.call Tryz.call249 rfl (nf hs hX hY aj aj) ?_);rintro _ w ⟨H3,bp1,bp2,hle3,rfl,hit,hs⟩
 have hle03:=hle1.trans (hle2.trans hle3)
 have h0:GrS X Y b18 0 0 H3 [.blk b18 (List.replicate l1.length (.slice none 0 0)),.nul]:=by
  refine .go [] (.slice none 0 0) .nul aj (RLs.nil _) (.nil 1 none) ?_
  rw [hXl]
  obtain ⟨m,hm⟩:∃m,l1.length=m+1:=⟨l1.length - 1,aj⟩
  rw [hm]
  rfl
 refine .nil (.block ?_)
 refine .y0 (gf:=278) (cap:=[.pointer (some ⟨bp1,0,none⟩),.pointer (some ⟨bp2,0,none⟩)]) (N:=X.length*Y.length) (E:=PrE X Y) (σb:= .blk b7 [.slice (some ⟨b18,0,none⟩) l1.length l1.length]::[.blk b18 (List.replicate l1.length (.slice none 0 0)),.nul]) (σf:=σ) (hs.nul.sb) trivial rfl hit Tryz.call278 (fun k H' z ⟨_,_,hz,_⟩=>by rw [hz];rfl) rfl
  (I:=fun p H' σb=>∃σ1,σb= .blk b7 [.slice (some ⟨b18,0,none⟩) l1.length l1.length]::σ1∧GrS X Y b18 (p/Y.length) (p%Y.length) H' σ1) (Ix:=fun _ _ _=>False)
  (fun j _ _ σ g1 ⟨σ1,g2,g3⟩=>⟨σ1,g2,g3.mono g1⟩) (fun _ _ _ _ _ h=>h) ⟨_,rfl,by rw [Nat.zero_div,Nat.zero_mod];exact h0⟩ ?_ ?_ (fun D c H' σb w _ h _=>h.elim)
 ·rintro ly p hp z H4 σb2 σf2 w hle4 ⟨bx,by_,rfl,rx,ry⟩ ⟨σ1,rfl,hG⟩ hs ⟨rr,hrr⟩
  have hnext:=tG (p:=p) (m:=Y.length) aj
  have hkm:=Nat.mod_lt p (show 0<Y.length by omega)
  have hin:p/Y.length<X.length:=Nat.div_lt_of_lt_mul (by rw [Nat.mul_comm];exact hp)
  generalize hi:p/Y.length=i at*
  generalize hk:p%Y.length=k at*
  cases hG with
  |fin us h=>omega
  |go us v en h h1 h2 h3=>
  subst h3
  obtain ⟨av,lv,cv,rfl,hlv⟩:=h2.shape
  have husl:us.length=i:=by rw [h1.1,jk]
  have hb1:=hXb i
  have hb2:=hYb k
  have hpr:=zc (gi X i) (gi Y k)
  have hprb: -3456000000000≤gi X i*gi Y k∧gi X i*gi Y k≤3456000000000:=gI (A:=4800000) (B:=720000) (by unfold ab at hb1;omega) (by unfold ab at hb2;omega)
  refine .ai ?_
  refine .o (.alloc hs Tryz.zeroValue90 rfl fun b8 w hs=>?_)
  refine .o (.aP (vs:=[_,_]) hs rfl rfl Tryz.sizeOf90 fun w hs=>?_)
  refine .nil (.region (.z zg (.nil ?_)))
  refine nT ?_
  refine ⟨H4,[.blk b8 [I (i:Int),I (k:Int)],.blk b7 [.slice (some ⟨b18,0,none⟩) l1.length l1.length],.blk b18 (us++Value.slice av lv cv::List.replicate (X.length - i - 1) (Value.slice none 0 0)),en],HLe.refl _,hs,?_⟩;rintro w σf4 - hs
  refine .block (.ai (.z zm ?_))
  refine .o (.lP (first:=[]) (cap:=[.pointer (some ⟨bx,0,none⟩),.pointer (some ⟨by_,0,none⟩)]) rfl rfl Tryz.call279 (jC hs rx ry) ?_);rintro _ w ⟨rfl,hs⟩
  refine .z zm (.z zex (.z zex (.z zg (.z zg (.nil ?_)))))
  refine .draw mix rfl hs fun w hs=>?_
  refine .y 0 rfl hs oU ?_
  refine .z 1 rfl (zia 0 Tryz.runUnderlying90 ae) ?_
  refine .y 2 rfl hs af ?_;refine .y 3 rfl hs oU ?_
  refine .z 4 rfl (zia 0 Tryz.runUnderlying90 ae) ?_
  refine .y 5 rfl hs af ?_
  refine .z 6 rfl (gh (k:=i) rfl rfl bH aE rfl aj) ?_
  refine .load (i:=7) hs rfl ay .none rfl ak ?_ (hv:=by rw [List.getElem?_append_right aj,husl,Nat.sub_self];rfl)
  refine .z 8 rfl zm ?_;refine .z 9 rfl zm ?_;refine .z 10 rfl iq ?_
  refine .E 11 hs ?_
  refine .buildSlice (cells:=[_]) hs cz rfl rfl ?_;intro b40 w hs
  refine .go ?_
  refine .E 12 hs ?_
  refine .append (ys:=Is [gi X i*gi Y k]) hs cy rfl rfl h2 (.own .here rfl rfl) (kS _) (fun l' h=>by simp at h;omega) ?_;intro v41 en41 w hO hs
  rw [show Is ((uw X Y i).take k)++Is [gi X i*gi Y k]=Is ((uw X Y i).take (k+1)) by rw [vK hkm];simp [Is]] at hO
  obtain ⟨a41,l41,c41,rfl,hl41⟩:=hO.shape
  refine .go ?_
  refine .z 13 rfl (gh (k:=i) rfl rfl bH aE rfl aj) ?_
  refine .E 14 hs ?_
  refine .store (c':=us++ .slice a41 l41 c41::List.replicate (X.length - i - 1) (.slice none 0 0)) hs rfl rfl aE ?_ c9 (by simp;omega) (by rw [List.set_append_right _ _ aj,husl,Nat.sub_self];rfl);intro w hs
  refine .go ?_
  refine .D hs ?_
  refine nB ?_
  rcases hnext with ⟨g1,g2,g3⟩|⟨g1,g2,g3⟩
  ·exact ⟨H4,[.blk b7 [.slice (some ⟨b18,0,none⟩) l1.length l1.length],.blk b18 (us++ .slice a41 l41 c41::List.replicate (X.length - i - 1) (.slice none 0 0)),en41],HLe.refl _,(hs.sb:St H4 w (.blk b7 _:: .blk b18 _::en41::σf4)),_,rfl,by rw [g2,g3];exact .go us _ en41 h h1 hO rfl⟩
  ·obtain ⟨H5,hle5,hR,hs⟩:=bX.cn hO (by rw [List.length_take,kr];omega) hs c9
   rw [List.take_of_length_le (by rw [kr];omega)] at hR
   have h1':RLs H5 (us++[.slice a41 l41 c41]) (lH X Y (i+1)):=by rw [uI];exact (h1.mono hle5).snoc hR
   by_cases e:i+1<X.length
   ·refine ⟨H5,[.blk b7 [.slice (some ⟨b18,0,none⟩) l1.length l1.length],.blk b18 (us++ .slice a41 l41 c41::List.replicate (X.length - i - 1) (.slice none 0 0)),.nul],hle5,(hs.nul.sb:St H5 w (.blk b7 _:: .blk b18 _:: .nul::σf4)),_,rfl,?_⟩
    rw [g2,g3]
    refine .go (us++[.slice a41 l41 c41]) (.slice none 0 0) .nul e h1' (.nil 1 none) ?_
    obtain ⟨m,hm⟩:∃m,X.length - i - 1=m+1:=⟨X.length - i - 2,aj⟩
    rw [hm,show X.length - (i+1) - 1=m by omega,List.append_assoc]
    rfl
   ·refine ⟨H5,[.blk b7 [.slice (some ⟨b18,0,none⟩) l1.length l1.length],.blk b18 (us++ .slice a41 l41 c41::List.replicate (X.length - i - 1) (.slice none 0 0))],hle5,(hs.sb:St H5 w (.blk b7 _:: .blk b18 _::σf4)),_,rfl,?_⟩
    rw [g2,g3]
    refine .fin (us++[.slice a41 l41 c41]) aj h1' ?_
    rw [show X.length - i - 1=0 by omega]
    rfl
 ·rintro D H4 σb2 w hle4 ⟨σ1,rfl,hG⟩ hs
  rw [Nat.mul_div_cancel _ aj,Nat.mul_mod_left] at hG
  cases hG with
  |go us v en h=>omega
  |fin us h h1 h3=>
  subst h3
  replace hs:St H4 w (.obj D (.deferred (some [])):: .blk b7 [.slice (some ⟨b18,0,none⟩) l1.length l1.length]:: .blk b18 us::σ):=hs
  have husl:us.length=l1.length:=by rw [h1.1,jk,hXl]
  refine nB (nT ?_)
  refine .ai (.y hs (zld oU) (.z zg (.nil ?_)))
  refine .ret ?_
  obtain ⟨H5,hle5,hR,hs⟩:=h1.bK (v:= .slice (some ⟨b18,0,none⟩) l1.length l1.length) (en:= .blk b18 us) (.full (by simp [husl])) aj hs c9
  rw [hXl] at hR
  exact Fin.gR [D] [] hs fun w hs=>⟨_,results1 Tryz.results192 rfl,H5,hle03.trans (hle4.trans hle5),hR,hs.out⟩
theorem je{v1 v2:Value}{l1 l2:List Int}(hs:St H w σ)(hr1:RI H v1 l1)(hr2:RI H v2 l2):
  Cl Tryz.prog 104 [v1,v2] w fun u w'=>∃H1 vo e,HLe H H1∧u= .tuple #[vo,I e]∧(eb 9 100000 l1∧eb 7 15000 l2→e=0∧RT H1 vo (lH (wts l1) (wts l2) l1.length))∧(e=0→eb 9 100000 l1∧eb 7 15000 l2)∧St H1 w' σ:=by
 refine Cl.o Tryz.func104 Tryz.ntmps104 ag2 ?_
 refine .ai (.z zg (.z zg (.nil (.seq (.ai (.z zm (.z zm ?_)))))))
 refine .o (.call Tryz.call191 rfl (mj hs hr1 hr2) ?_);rintro _ w ⟨b8,rfl,hb8,hs⟩
 refine .z jb (.nil ?_)
 refine (.cond rfl (fun hc9=>?_) (fun hc9=>?_))
 ·refine .ai (.z zg (.z zg (.nil ?_)))
  refine .ret (rT (Fin.q5 Tryz.results104 rfl rfl ?_))
  exact ⟨H,_,_,HLe.refl H,rfl,fun h=>(by rw [hb8.2 h] at hc9;cases hc9),fun h=>aj,hs⟩
 ·refine .skip ?_
  refine nT ?_
  refine .ai (.z zm (.z zm ?_))
  have hp:=hb8.1 (by simpa using hc9)
  refine .o (.call Tryz.call192 rfl (nQ hs hr1 hr2 hp.1 hp.2) ?_);rintro v12 w ⟨H1,hle1,hR,hs⟩
  refine .z zg (.z zg (.nil ?_))
  refine .ret (Fin.q5 Tryz.results104 rfl rfl ?_)
  exact ⟨H1,_,_,hle1,rfl,fun _=>⟨rfl,hR⟩,fun _=>hp,hs⟩
end Go.Proofs.YtddaejgfjlneoaaGreat
namespace Go.Proofs.YtddaejgfjlneoaaGreat
open Go.MW
def Grp.c(g:Grp):List Value:=[I (g.at_:Int),I (g.n:Int)]
theorem wA{l:List Int}{i j:Nat}(h:i≠j)(x:Int):gi (l.set i x) j=gi l j:=by
 simp [gi,List.getD,h]
end Go.Proofs.YtddaejgfjlneoaaGreat
namespace Go.Proofs.YtddaejgfjlneoaaGreat
open Go.MW
variable{H:a8}{w:World}{σ:List Ent}
theorem aF{a0 a1 a2:Int}(hs:St H w σ):Cl Tryz.prog 105 [I a0,I a1,I a2] w fun v w'=>v= .bool (decide (a1≤a0∧a0≤a2))∧St H w' σ:=by
 refine Cl.o Tryz.func105 Tryz.ntmps105 ag3 ?_
 refine .ai (.z zg (.nil (.ai (.z zm (.z zm (.z yU (.z zm ?_)))))))
 refine .mM (t':=10) rfl (fun hb10=>?_) (fun hb10=>?_)
 ·refine .gT rfl rfl ?_
  refine .z zm ?_
  refine .gT rfl rfl ?_
  refine .z zm ?_
  refine .gT rfl rfl ?_
  refine .z yU (.z zpT (.z zg (.nil ?_)))
  refine .ret (Fin.bF Tryz.results105 rfl ?_)
  exact ⟨by simp [*],hs.out⟩
 ·refine .gFs 3 3 true rfl rfl rfl ?_
  refine .z zpF (.z zg (.nil ?_))
  refine .ret (Fin.bF Tryz.results105 rfl ?_)
  exact ⟨by simp [*],hs.out⟩
theorem dX{a0:Int}(hs:St H w σ):Cl Tryz.prog 106 [I a0] w fun v w'=>v= .bool (decide (1≤a0∧a0≤99999))∧St H w' σ:=by
 refine Cl.o Tryz.func106 Tryz.ntmps106 ag1 ?_
 refine .ai (.z zg (.nil (.ai (.z zm ?_))))
 refine .o (.call bN rfl (aF hs) ?_);rintro _ w ⟨rfl,hs⟩
 refine .z zg (.nil ?_)
 refine .ret (Fin.bF Tryz.results106 rfl ?_)
 exact ⟨rfl,hs⟩
def Spc.agg(s:Spc)(vst vwa:Value):Value:= .agg #[I s.id,I s.src,vst,vwa,I s.al,I s.up]
theorem eM{s:Spc}{vst vwa:Value}(hs:St H w σ)(h1:RI H vst s.st)(h2:RI H vwa s.wa):
  Cl Tryz.prog 41 [.agg #[I s.id,I s.src,vst,vwa,I s.al,I s.up]] w fun v w'=>∃H1 e,HLe H H1∧v=I e∧((dj s∧e=0)∨(¬dj s∧e=30))∧St H1 w' σ:=by
 obtain ⟨ast,cst,rfl⟩:=RI.shape h1
 obtain ⟨awa,cwa,rfl⟩:=RI.shape h2
 refine Cl.o Tryz.func41 Tryz.ntmps41 ag1 ?_
 refine .ai ?_
 refine .bx hs fun b1 w hs=>?_
 refine .z zg (.nil (.seq (.ai (.z (zfa aU) (.y hs (zld ak) (.z (zfa aO) (.y hs (zld ak) ?_)))))))
 refine .o (.call Tryz.call104 rfl (je hs h1 h2) ?_);rintro _ w ⟨H1,vo,e,hle1,rfl,hG,hG',hs⟩
 refine .z zm (.z zex (.z zex (.z zg (.z zg (.nil (.ai (.z zm (.z m9 (.z zm ?_)))))))))
 refine .Bv (t':=15) rfl (fun hb15=>?_) (fun hb15=>?_)
 ·refine .gFs 4 2 false rfl rfl rfl ?_
  refine .z zpT (.z zm ?_)
  refine .gFs 4 8 false rfl rfl rfl ?_
  refine .z zpT (.z zm ?_)
  refine .gFs 5 14 false rfl rfl rfl ?_
  refine .z zpT (.z zm ?_)
  refine .gFs 5 21 false rfl rfl rfl ?_
  refine .z zpT (.nil ?_)
  refine (.cT ?_)
  refine .ai (.z zg (.nil ?_))
  refine .ret (rT (Fin.bF pv rfl ?_))
  exact ⟨H1,_,hle1,rfl,.inr ⟨fun h=>by have:=(hG ⟨h.st,h.wa⟩).1;simp_all,rfl⟩,hs.out⟩
 ·refine .gT rfl rfl ?_
  refine .z (zfa o8) ?_
  refine .gT rfl rfl ?_
  refine .y hs (zld af) ?_
  refine .gT rfl rfl ?_
  refine .o (.call bN rfl (aF hs) ?_);rintro _ w ⟨rfl,hs⟩
  refine .gT rfl rfl ?_
  refine .z jb (.z zpF (.z zm ?_))
  refine .bif (t':=21) rfl (fun hb21=>?_) (fun hb21=>?_)
  ·refine .gFs 4 8 false rfl rfl rfl ?_
   refine .z zpT (.z zm ?_)
   refine .gFs 5 14 false rfl rfl rfl ?_
   refine .z zpT (.z zm ?_)
   refine .gFs 5 21 false rfl rfl rfl ?_
   refine .z zpT (.nil ?_)
   refine (.cT ?_)
   refine .ai (.z zg (.nil ?_))
   refine .ret (rT (Fin.bF pv rfl ?_))
   exact ⟨H1,_,hle1,rfl,.inr ⟨fun h=>by have:=h.id;simp_all,rfl⟩,hs.out⟩
  ·refine .gT rfl rfl ?_
   refine .z (zfa dO) ?_
   refine .gT rfl rfl ?_
   refine .y hs (zld af) ?_
   refine .gT rfl rfl ?_
   refine .o (.call Tryz.call106 rfl (dX hs) ?_);rintro _ w ⟨rfl,hs⟩
   refine .gT rfl rfl ?_
   refine .z jb (.z zpF (.z zm ?_))
   refine .bif (t':=27) rfl (fun hb27=>?_) (fun hb27=>?_)
   ·refine .gFs 5 14 false rfl rfl rfl ?_
    refine .z zpT (.z zm ?_)
    refine .gFs 5 21 false rfl rfl rfl ?_
    refine .z zpT (.nil ?_)
    refine (.cT ?_)
    refine .ai (.z zg (.nil ?_))
    refine .ret (rT (Fin.bF pv rfl ?_))
    exact ⟨H1,_,hle1,rfl,.inr ⟨fun h=>by have:=h.src;simp_all,rfl⟩,hs.out⟩
   ·refine .gT rfl rfl ?_
    refine .z (zfa eo) ?_
    refine .gT rfl rfl ?_
    refine .z (zfa lJ) ?_
    refine .gT rfl rfl ?_
    refine .y hs (zld af) ?_
    refine .gT rfl rfl ?_
    refine .o (.call bN rfl (aF hs) ?_);rintro _ w ⟨rfl,hs⟩
    refine .gT rfl rfl ?_
    refine .z jb (.z zpF (.z zm ?_))
    refine .bif (t':=34) rfl (fun hb34=>?_) (fun hb34=>?_)
    ·refine .gFs 5 21 false rfl rfl rfl ?_
     refine .z zpT (.nil ?_)
     refine (.cT ?_)
     refine .ai (.z zg (.nil ?_))
     refine .ret (rT (Fin.bF pv rfl ?_))
     exact ⟨H1,_,hle1,rfl,.inr ⟨fun h=>by have:=h.al;simp_all,rfl⟩,hs.out⟩
    ·refine .gT rfl rfl ?_
     refine .z (zfa eo) ?_
     refine .gT rfl rfl ?_
     refine .z (zfa lI) ?_
     refine .gT rfl rfl ?_
     refine .y hs (zld af) ?_
     refine .gT rfl rfl ?_
     refine .o (.call bN rfl (aF hs) ?_);rintro _ w ⟨rfl,hs⟩
     refine .gT rfl rfl ?_
     refine .z jb (.z zpF (.nil ?_))
     refine (.cond rfl (fun hc40=>?_) (fun hc40=>?_))
     ·refine .ai (.z zg (.nil ?_))
      refine .ret (rT (Fin.bF pv rfl ?_))
      exact ⟨H1,_,hle1,rfl,.inr ⟨fun h=>by have:=h.up;simp_all,rfl⟩,hs.out⟩
     ·refine .skip ?_
      refine nT ?_
      refine .ai (.z zg (.nil ?_))
      refine .ret (Fin.bF pv rfl ?_)
      have hg:=hG' (by simp_all)
      exact ⟨H1,_,hle1,rfl,.inl ⟨⟨hg.1,hg.2,by simp_all,by simp_all,by simp_all,by simp_all⟩,rfl⟩,hs.out⟩
theorem eY{s:Spc}{r:Rdg}{vst vwa:Value}(hs:St H w σ)(h1:RI H vst s.st)(h2:RI H vwa s.wa):
  Cl Tryz.prog 107 [.agg #[I s.id,I s.src,vst,vwa,I s.al,I s.up],.agg #[I r.src,I r.st,I r.wa,I r.val,I r.tol,I r.tape,I r.day]] w fun v w'=>∃b:Bool,v= .bool b∧(b=true↔fQ s r)∧St H w' σ:=by
 obtain ⟨ast,cst,rfl⟩:=RI.shape h1
 obtain ⟨awa,cwa,rfl⟩:=RI.shape h2
 have l1:=(RI.len h1).2.2
 have l2:=(RI.len h2).2.2
 refine Cl.o Tryz.func107 Tryz.ntmps107 ag2 ?_
 refine .ai ?_
 refine .bx hs fun b2 w hs=>?_
 refine .bx hs fun b3 w hs=>?_
 refine .z zg (.nil (.ai (.z (zfa iK) (.y hs (zld af) ?_))))
 refine .o (.call Tryz.call106 rfl (dX hs) ?_);rintro _ w ⟨rfl,hs⟩
 refine .z zm ?_
 refine .bif (t':=8) rfl (fun hb8=>?_) (fun hb8=>?_)
 ·refine .gT rfl rfl ?_
  refine .z (zfa fB) ?_
  refine .gT rfl rfl ?_
  refine .y hs (zld af) ?_
  refine .gT rfl rfl ?_
  refine .z (zfa aU) ?_
  refine .gT rfl rfl ?_
  refine .y hs (zld ak) ?_
  refine .gT rfl rfl ?_
  refine .z (df ad) ?_
  refine .gT rfl rfl ?_
  refine .z iR ?_
  refine .gT rfl rfl ?_
  refine .o (.call bN rfl (aF hs) ?_);rintro _ w ⟨rfl,hs⟩
  refine .z zpT (.z zm ?_)
  refine .bif (t':=17) rfl (fun hb17=>?_) (fun hb17=>?_)
  ·refine .gT rfl rfl ?_
   refine .z (zfa fA) ?_
   refine .gT rfl rfl ?_
   refine .y hs (zld af) ?_
   refine .gT rfl rfl ?_
   refine .z (zfa aO) ?_
   refine .gT rfl rfl ?_
   refine .y hs (zld ak) ?_
   refine .gT rfl rfl ?_
   refine .z (df ad) ?_
   refine .gT rfl rfl ?_
   refine .z iR ?_
   refine .gT rfl rfl ?_
   refine .o (.call bN rfl (aF hs) ?_);rintro _ w ⟨rfl,hs⟩
   refine .z zpT (.z zm ?_)
   refine .bif (t':=26) rfl (fun hb26=>?_) (fun hb26=>?_)
   ·refine .gT rfl rfl ?_
    refine .z (zfa cI) ?_
    refine .gT rfl rfl ?_
    refine .y hs (zld af) ?_
    refine .gT rfl rfl ?_
    refine .o (.call bN rfl (aF hs) ?_);rintro _ w ⟨rfl,hs⟩
    refine .z zpT (.z zm ?_)
    refine .bif (t':=31) rfl (fun hb31=>?_) (fun hb31=>?_)
    ·refine .gT rfl rfl ?_
     refine .z (zfa eu) ?_
     refine .gT rfl rfl ?_
     refine .y hs (zld af) ?_
     refine .gT rfl rfl ?_
     refine .z (zfa cI) ?_
     refine .gT rfl rfl ?_
     refine .y hs (zld af) ?_
     refine .gT rfl rfl ?_
     have ht:0≤r.tol∧r.tol≤1000:=by simp_all
     refine .z iR ?_
     refine .gT rfl rfl ?_
     refine .o (.call bN rfl (aF hs) ?_);rintro _ w ⟨rfl,hs⟩
     refine .z zpT (.z zm ?_)
     refine .bif (t':=39) rfl (fun hb39=>?_) (fun hb39=>?_)
     ·refine .gT rfl rfl ?_
      refine .z (zfa iJ) ?_
      refine .gT rfl rfl ?_
      refine .y hs (zld af) ?_
      refine .gT rfl rfl ?_
      refine .o (.call bN rfl (aF hs) ?_);rintro _ w ⟨rfl,hs⟩
      refine .z zpT (.z zm ?_)
      refine .bif (t':=44) rfl (fun hb44=>?_) (fun hb44=>?_)
      ·refine .gT rfl rfl ?_
       refine .z (zfa iI) ?_
       refine .gT rfl rfl ?_
       refine .y hs (zld af) ?_
       refine .gT rfl rfl ?_
       refine .o (.call bN rfl (aF hs) ?_);rintro _ w ⟨rfl,hs⟩
       refine .z zpT (.z zg (.nil ?_))
       refine .ret (Fin.bF iQ rfl ?_)
       first
       |exact ⟨false,rfl,⟨fun h=>(by cases h),fun h=>(by obtain ⟨g1,g2,g3,g4,g5,g6,g7⟩:=h;simp_all;done)⟩,hs.out⟩
       |exact ⟨_,rfl,⟨fun h=>⟨by simp_all,by simp_all,by simp_all,by simp_all,by simp_all,by simp_all,by simpa using h⟩,fun h=>by simpa using h.day⟩,hs.out⟩
      ·refine .gFs 3 39 true rfl rfl rfl ?_
       refine .z zpF (.z zg (.nil ?_))
       refine .ret (Fin.bF iQ rfl ?_)
       first
       |exact ⟨false,rfl,⟨fun h=>(by cases h),fun h=>(by obtain ⟨g1,g2,g3,g4,g5,g6,g7⟩:=h;simp_all;done)⟩,hs.out⟩
       |exact ⟨_,rfl,⟨fun h=>⟨by simp_all,by simp_all,by simp_all,by simp_all,by simp_all,by simp_all,by simpa using h⟩,fun h=>by simpa using h.day⟩,hs.out⟩
     ·refine .gFs 3 34 true rfl rfl rfl ?_
      refine .z zpF (.z zm ?_)
      refine .gFs 3 39 true rfl rfl rfl ?_
      refine .z zpF (.z zg (.nil ?_))
      refine .ret (Fin.bF iQ rfl ?_)
      first
      |exact ⟨false,rfl,⟨fun h=>(by cases h),fun h=>(by obtain ⟨g1,g2,g3,g4,g5,g6,g7⟩:=h;simp_all;done)⟩,hs.out⟩
      |exact ⟨_,rfl,⟨fun h=>⟨by simp_all,by simp_all,by simp_all,by simp_all,by simp_all,by simp_all,by simpa using h⟩,fun h=>by simpa using h.day⟩,hs.out⟩
    ·refine .gFs 6 26 true rfl rfl rfl ?_
     refine .z zpF (.z zm ?_)
     refine .gFs 3 34 true rfl rfl rfl ?_
     refine .z zpF (.z zm ?_)
     refine .gFs 3 39 true rfl rfl rfl ?_
     refine .z zpF (.z zg (.nil ?_))
     refine .ret (Fin.bF iQ rfl ?_)
     first
     |exact ⟨false,rfl,⟨fun h=>(by cases h),fun h=>(by obtain ⟨g1,g2,g3,g4,g5,g6,g7⟩:=h;simp_all;done)⟩,hs.out⟩
     |exact ⟨_,rfl,⟨fun h=>⟨by simp_all,by simp_all,by simp_all,by simp_all,by simp_all,by simp_all,by simpa using h⟩,fun h=>by simpa using h.day⟩,hs.out⟩
   ·refine .gFs 3 21 true rfl rfl rfl ?_
    refine .z zpF (.z zm ?_)
    refine .gFs 6 26 true rfl rfl rfl ?_
    refine .z zpF (.z zm ?_)
    refine .gFs 3 34 true rfl rfl rfl ?_
    refine .z zpF (.z zm ?_)
    refine .gFs 3 39 true rfl rfl rfl ?_
    refine .z zpF (.z zg (.nil ?_))
    refine .ret (Fin.bF iQ rfl ?_)
    first
    |exact ⟨false,rfl,⟨fun h=>(by cases h),fun h=>(by obtain ⟨g1,g2,g3,g4,g5,g6,g7⟩:=h;simp_all;done)⟩,hs.out⟩
    |exact ⟨_,rfl,⟨fun h=>⟨by simp_all,by simp_all,by simp_all,by simp_all,by simp_all,by simp_all,by simpa using h⟩,fun h=>by simpa using h.day⟩,hs.out⟩
  ·refine .gFs 7 12 true rfl rfl rfl ?_
   refine .z zpF (.z zm ?_)
   refine .gFs 3 21 true rfl rfl rfl ?_
   refine .z zpF (.z zm ?_)
   refine .gFs 6 26 true rfl rfl rfl ?_
   refine .z zpF (.z zm ?_)
   refine .gFs 3 34 true rfl rfl rfl ?_
   refine .z zpF (.z zm ?_)
   refine .gFs 3 39 true rfl rfl rfl ?_
   refine .z zpF (.z zg (.nil ?_))
   refine .ret (Fin.bF iQ rfl ?_)
   first
   |exact ⟨false,rfl,⟨fun h=>(by cases h),fun h=>(by obtain ⟨g1,g2,g3,g4,g5,g6,g7⟩:=h;simp_all;done)⟩,hs.out⟩
   |exact ⟨_,rfl,⟨fun h=>⟨by simp_all,by simp_all,by simp_all,by simp_all,by simp_all,by simp_all,by simpa using h⟩,fun h=>by simpa using h.day⟩,hs.out⟩
 ·refine .gFs 7 3 true rfl rfl rfl ?_
  refine .z zpF (.z zm ?_)
  refine .gFs 7 12 true rfl rfl rfl ?_
  refine .z zpF (.z zm ?_)
  refine .gFs 3 21 true rfl rfl rfl ?_
  refine .z zpF (.z zm ?_)
  refine .gFs 6 26 true rfl rfl rfl ?_
  refine .z zpF (.z zm ?_)
  refine .gFs 3 34 true rfl rfl rfl ?_
  refine .z zpF (.z zm ?_)
  refine .gFs 3 39 true rfl rfl rfl ?_
  refine .z zpF (.z zg (.nil ?_))
  refine .ret (Fin.bF iQ rfl ?_)
  first
  |exact ⟨false,rfl,⟨fun h=>(by cases h),fun h=>(by obtain ⟨g1,g2,g3,g4,g5,g6,g7⟩:=h;simp_all;done)⟩,hs.out⟩
  |exact ⟨_,rfl,⟨fun h=>⟨by simp_all,by simp_all,by simp_all,by simp_all,by simp_all,by simp_all,by simpa using h⟩,fun h=>by simpa using h.day⟩,hs.out⟩
theorem iY{c:Cmp}(hs:St H w σ):
  Cl Tryz.prog 108 [.agg #[I c.src,I c.tape,I c.fr,I c.to,I c.lo,I c.hi]] w fun v w'=>∃b:Bool,v= .bool b∧(b=true↔so c)∧St H w' σ:=by
 refine Cl.o Tryz.func108 Tryz.ntmps108 ag1 ?_
 refine .ai ?_
 refine .bx hs fun b1 w hs=>?_
 refine .z zg (.nil (.ai (.z (zfa iO) (.y hs (zld af) ?_))))
 refine .o (.call Tryz.call106 rfl (dX hs) ?_);rintro _ w ⟨rfl,hs⟩
 refine .z zm ?_
 refine .bif (t':=6) rfl (fun hb6=>?_) (fun hb6=>?_)
 ·refine .gT rfl rfl ?_
  refine .z (zfa iN) ?_
  refine .gT rfl rfl ?_
  refine .y hs (zld af) ?_
  refine .gT rfl rfl ?_
  refine .o (.call bN rfl (aF hs) ?_);rintro _ w ⟨rfl,hs⟩
  refine .z zpT (.z zm ?_)
  refine .bif (t':=11) rfl (fun hb11=>?_) (fun hb11=>?_)
  ·refine .gT rfl rfl ?_
   refine .z (zfa iM) ?_
   refine .gT rfl rfl ?_
   refine .y hs (zld af) ?_
   refine .gT rfl rfl ?_
   refine .z (zfa fD) ?_
   refine .gT rfl rfl ?_
   refine .y hs (zld af) ?_
   refine .gT rfl rfl ?_
   refine .o (.call bN rfl (aF hs) ?_);rintro _ w ⟨rfl,hs⟩
   refine .z zpT (.z zm ?_)
   refine .bif (t':=18) rfl (fun hb18=>?_) (fun hb18=>?_)
   ·refine .gT rfl rfl ?_
    refine .z (zfa fD) ?_
    refine .gT rfl rfl ?_
    refine .y hs (zld af) ?_
    refine .gT rfl rfl ?_
    refine .o (.call bN rfl (aF hs) ?_);rintro _ w ⟨rfl,hs⟩
    refine .z zpT (.z zm ?_)
    refine .bif (t':=23) rfl (fun hb23=>?_) (fun hb23=>?_)
    ·refine .gT rfl rfl ?_
     refine .z (zfa iL) ?_
     refine .gT rfl rfl ?_
     refine .y hs (zld af) ?_
     refine .gT rfl rfl ?_
     refine .z (zfa fC) ?_
     refine .gT rfl rfl ?_
     refine .y hs (zld af) ?_
     refine .gT rfl rfl ?_
     refine .o (.call bN rfl (aF hs) ?_);rintro _ w ⟨rfl,hs⟩
     refine .z zpT (.z zm ?_)
     refine .bif (t':=30) rfl (fun hb30=>?_) (fun hb30=>?_)
     ·refine .gT rfl rfl ?_
      refine .z (zfa fC) ?_
      refine .gT rfl rfl ?_
      refine .y hs (zld af) ?_
      refine .gT rfl rfl ?_
      refine .o (.call bN rfl (aF hs) ?_);rintro _ w ⟨rfl,hs⟩
      refine .z zpT (.z zg (.nil ?_))
      refine .ret (Fin.bF nD rfl ?_)
      first
      |exact ⟨false,rfl,⟨fun h=>(by cases h),fun h=>(by obtain ⟨g1,g2,g3,g4,g5,g6⟩:=h;simp_all;omega)⟩,hs.out⟩
      |exact ⟨false,rfl,⟨fun h=>(by cases h),fun h=>(by obtain ⟨g1,g2,g3,g4,g5,g6⟩:=h;simp_all;done)⟩,hs.out⟩
      |exact ⟨_,rfl,⟨fun h=>⟨by simp_all,by simp_all,by simp_all,by simp_all,by simp_all,(by simpa using h:_∧_).2⟩,fun h=>by have:=h.lo;have:=h.hi;simp;omega⟩,hs.out⟩
     ·refine .gFs 3 27 true rfl rfl rfl ?_
      refine .z zpF (.z zg (.nil ?_))
      refine .ret (Fin.bF nD rfl ?_)
      first
      |exact ⟨false,rfl,⟨fun h=>(by cases h),fun h=>(by obtain ⟨g1,g2,g3,g4,g5,g6⟩:=h;simp_all;omega)⟩,hs.out⟩
      |exact ⟨false,rfl,⟨fun h=>(by cases h),fun h=>(by obtain ⟨g1,g2,g3,g4,g5,g6⟩:=h;simp_all;done)⟩,hs.out⟩
      |exact ⟨_,rfl,⟨fun h=>⟨by simp_all,by simp_all,by simp_all,by simp_all,by simp_all,(by simpa using h:_∧_).2⟩,fun h=>by have:=h.lo;have:=h.hi;simp;omega⟩,hs.out⟩
    ·refine .gFs 5 20 true rfl rfl rfl ?_
     refine .z zpF (.z zm ?_)
     refine .gFs 3 27 true rfl rfl rfl ?_
     refine .z zpF (.z zg (.nil ?_))
     refine .ret (Fin.bF nD rfl ?_)
     first
     |exact ⟨false,rfl,⟨fun h=>(by cases h),fun h=>(by obtain ⟨g1,g2,g3,g4,g5,g6⟩:=h;simp_all;omega)⟩,hs.out⟩
     |exact ⟨false,rfl,⟨fun h=>(by cases h),fun h=>(by obtain ⟨g1,g2,g3,g4,g5,g6⟩:=h;simp_all;done)⟩,hs.out⟩
     |exact ⟨_,rfl,⟨fun h=>⟨by simp_all,by simp_all,by simp_all,by simp_all,by simp_all,(by simpa using h:_∧_).2⟩,fun h=>by have:=h.lo;have:=h.hi;simp;omega⟩,hs.out⟩
   ·refine .gFs 3 15 true rfl rfl rfl ?_
    refine .z zpF (.z zm ?_)
    refine .gFs 5 20 true rfl rfl rfl ?_
    refine .z zpF (.z zm ?_)
    refine .gFs 3 27 true rfl rfl rfl ?_
    refine .z zpF (.z zg (.nil ?_))
    refine .ret (Fin.bF nD rfl ?_)
    first
    |exact ⟨false,rfl,⟨fun h=>(by cases h),fun h=>(by obtain ⟨g1,g2,g3,g4,g5,g6⟩:=h;simp_all;omega)⟩,hs.out⟩
    |exact ⟨false,rfl,⟨fun h=>(by cases h),fun h=>(by obtain ⟨g1,g2,g3,g4,g5,g6⟩:=h;simp_all;done)⟩,hs.out⟩
    |exact ⟨_,rfl,⟨fun h=>⟨by simp_all,by simp_all,by simp_all,by simp_all,by simp_all,(by simpa using h:_∧_).2⟩,fun h=>by have:=h.lo;have:=h.hi;simp;omega⟩,hs.out⟩
  ·refine .gFs 5 8 true rfl rfl rfl ?_
   refine .z zpF (.z zm ?_)
   refine .gFs 3 15 true rfl rfl rfl ?_
   refine .z zpF (.z zm ?_)
   refine .gFs 5 20 true rfl rfl rfl ?_
   refine .z zpF (.z zm ?_)
   refine .gFs 3 27 true rfl rfl rfl ?_
   refine .z zpF (.z zg (.nil ?_))
   refine .ret (Fin.bF nD rfl ?_)
   first
   |exact ⟨false,rfl,⟨fun h=>(by cases h),fun h=>(by obtain ⟨g1,g2,g3,g4,g5,g6⟩:=h;simp_all;omega)⟩,hs.out⟩
   |exact ⟨false,rfl,⟨fun h=>(by cases h),fun h=>(by obtain ⟨g1,g2,g3,g4,g5,g6⟩:=h;simp_all;done)⟩,hs.out⟩
   |exact ⟨_,rfl,⟨fun h=>⟨by simp_all,by simp_all,by simp_all,by simp_all,by simp_all,(by simpa using h:_∧_).2⟩,fun h=>by have:=h.lo;have:=h.hi;simp;omega⟩,hs.out⟩
 ·refine .gFs 3 3 true rfl rfl rfl ?_
  refine .z zpF (.z zm ?_)
  refine .gFs 5 8 true rfl rfl rfl ?_
  refine .z zpF (.z zm ?_)
  refine .gFs 3 15 true rfl rfl rfl ?_
  refine .z zpF (.z zm ?_)
  refine .gFs 5 20 true rfl rfl rfl ?_
  refine .z zpF (.z zm ?_)
  refine .gFs 3 27 true rfl rfl rfl ?_
  refine .z zpF (.z zg (.nil ?_))
  refine .ret (Fin.bF nD rfl ?_)
  first
  |exact ⟨false,rfl,⟨fun h=>(by cases h),fun h=>(by obtain ⟨g1,g2,g3,g4,g5,g6⟩:=h;simp_all;omega)⟩,hs.out⟩
  |exact ⟨false,rfl,⟨fun h=>(by cases h),fun h=>(by obtain ⟨g1,g2,g3,g4,g5,g6⟩:=h;simp_all;done)⟩,hs.out⟩
  |exact ⟨_,rfl,⟨fun h=>⟨by simp_all,by simp_all,by simp_all,by simp_all,by simp_all,(by simpa using h:_∧_).2⟩,fun h=>by have:=h.lo;have:=h.hi;simp;omega⟩,hs.out⟩
theorem dq{s:Spc}{vst vwa:Value}(hs:St H w σ)(h1:RI H vst s.st)(h2:RI H vwa s.wa)(hb:s.st.length≤1000∧s.wa.length≤1000):
  Cl Tryz.prog 91 [.agg #[I s.id,I s.src,vst,vwa,I s.al,I s.up]] w fun v w'=>v=I (s.many:Int)∧St H w' σ:=by
 obtain ⟨ast,cst,rfl⟩:=RI.shape h1
 obtain ⟨awa,cwa,rfl⟩:=RI.shape h2
 have hm:=gI (a:=(s.st.length:Int)) (b:=(s.wa.length:Int)) (A:=1000) (B:=1000) aj aj
 refine Cl.o Tryz.func91 Tryz.ntmps91 ag1 ?_
 refine .ai ?_
 refine .bx hs fun b1 w hs=>?_
 refine .z zg (.nil (.ai (.z (zfa aU) (.y hs (zld ak) (.z (df ad) (.z (zfa aO) (.y hs (zld ak) (.z (df ad) (.z iq ?_)))))))))
 refine .z zg (.nil ?_)
 refine .ret (Fin.bF Tryz.results91 rfl ?_)
 exact ⟨by unfold Spc.many;rw [Int.natCast_mul],hs.out⟩
theorem fJ{s:Spc}{vst vwa:Value}{a b:Int}(hs:St H w σ)(h2:RI H vwa s.wa)(hb:s.wa.length≤1000)(ha: -1000≤a∧a≤1000)(hb': -1000≤b∧b≤1000):
  Cl Tryz.prog 118 [.agg #[I s.id,I s.src,vst,vwa,I s.al,I s.up],I a,I b] w fun v w'=>v=I (1+a*s.wa.length+b)∧St H w' σ:=by
 obtain ⟨awa,cwa,rfl⟩:=RI.shape h2
 have hm:=gI (a:=a) (b:=(s.wa.length:Int)) (A:=1000) (B:=1000) aj aj
 refine Cl.o Tryz.func118 Tryz.ntmps118 ag3 ?_
 refine .ai ?_
 refine .bx hs fun b3 w hs=>?_
 refine .z zg (.nil (.ai (.z zm (.z (zfa aO) (.y hs (zld ak) (.z (df ad) (.z iq (.z cR (.z zm ?_)))))))))
 refine .z cR (.z zg (.nil ?_))
 refine .ret (Fin.bF Tryz.results118 rfl ?_)
 exact ⟨rfl,hs.out⟩
theorem cS{r:Rdg}(hs:St H w σ):
  Cl Tryz.prog 114 [.agg #[I r.src,I r.st,I r.wa,I r.val,I r.tol,I r.tape,I r.day]] w fun v w'=>v= .agg #[I r.tape,I r.day]∧St H w' σ:=by
 refine Cl.o Tryz.func114 Tryz.ntmps114 ag1 ?_
 refine .ai ?_
 refine .bx hs fun b1 w hs=>?_
 refine .o (.alloc hs tt rfl fun b2 w hs=>?_)
 refine .nil (.ai (.z (zfa iJ) (.y hs (zld af) (.z (zfa iI) (.y hs (zld af) (.z (zbd [_,_] jr) ?_))))))
 refine .o (.aP (vs:=[_,_]) hs rfl rfl bP fun w hs=>?_)
 refine .nil ?_
 refine .ret ?_
 exact Fin.gR [] [] hs fun w hs=>⟨_,results1 Tryz.results114 (dF (vs:=[_,_]) hs rfl gZ bP),rfl,hs.out⟩
theorem ib{a b:Int}(hs:St H w σ)(ha:0≤a∧a≤100000)(hb:0≤b∧b≤100000):
  Cl Tryz.prog 230 [I a,I b] w fun v w'=>v=I (fO a b)∧St H w' σ:=by
 have hm:=gI (a:=a) (b:=b) (A:=100000) (B:=100000) aj aj
 have h0:=Int.mul_nonneg ha.1 hb.1
 have hq0:0≤(a*b+999).tdiv 1000:=Int.tdiv_nonneg aj aj
 have hq1:(a*b+999).tdiv 1000≤a*b+999:=by rw [Int.tdiv_eq_ediv_of_nonneg aj];omega
 refine Cl.o Tryz.func230 Tryz.ntmps230 ag2 ?_
 refine .ai (.z zg (.nil (.ai (.z zm (.z zm (.z iq (.z cR ?_)))))))
 refine .q hs (vQ rfl rfl aj aj) ?_
 refine .z AE (.z zg (.nil ?_))
 refine .ret (Fin.bF Tryz.results230 rfl ?_)
 exact ⟨rfl,hs⟩
def q7(s:Spc):List (List Value):=(List.range s.many).map fun p=>[Value.agg #[I ((p/s.wa.length:Nat):Int),I ((p%s.wa.length:Nat):Int),I ((p+1:Nat):Int)]]
theorem cJ(s:Spc):(q7 s).length=s.many:=by simp [q7]
theorem jB{s:Spc}{p:Nat}(h:p<(q7 s).length):(q7 s)[p]=[Value.agg #[I ((p/s.wa.length:Nat):Int),I ((p%s.wa.length:Nat):Int),I ((p+1:Nat):Int)]]:=by simp [q7]
theorem lr{H:a8}{b:Nat}{s:Spc}{vst vwa:Value}(hb:Row H b [I s.id,I s.src,vst,vwa,I s.al,I s.up])(h1:RI H vst s.st)(h2:RI H vwa s.wa)(hbd:s.st.length≤1000∧s.wa.length≤1000):
  Iter Tryz.prog 190 [.pointer (some ⟨b,0,none⟩)] H (q7 s):=by
 intro ly II Ix hmI _ hy H0 σb0 σf w hle hI0 hs
 obtain ⟨ast,cst,rfl⟩:=RI.shape h1
 obtain ⟨awa,cwa,rfl⟩:=RI.shape h2
 have g2:cellAt H0 b 2=some (.slice ast s.st.length cst):=cellAt.mono (hb.at 2) hle
 have g3:cellAt H0 b 3=some (.slice awa s.wa.length cwa):=cellAt.mono (hb.at 3) hle
 have hm:s.many≤1000000:=Nat.mul_le_mul hbd.1 hbd.2
 refine Cl.o Tryz.func190 Tryz.ntmps190 ag2 ?_
 refine .ai (.z zg (.nil (.ai (.z (zfa aU) (.y hs (zld ak) (.z (df ad) (.z zm (.nil ?_))))))))
 refine .for (N:=s.st.length) (J:=fun i fr w=>fr=[(3,I ((i*s.wa.length:Nat):Int)),(0,.func (.yield ly) #[] #[]),(1,.pointer (some ⟨b,0,none⟩))]∧∃H1 σb,HLe H H1∧HLe H0 H1∧II (i*s.wa.length) H1 σb∧St H1 w (σb++σf)) aj ?_ ?_ ?_
 ·exact .mk ⟨by rw [Nat.zero_mul],H0,σb0,hle,HLe.refl _,by rw [Nat.zero_mul];exact hI0,hs⟩
 ·rintro i fr w hi ⟨rfl,H1,σb,hle1,hle0,hI,hs⟩
  have h23:=cellAt.mono g3 hle0
  refine .block (.ai (.z zm (.z zg (.nil (.ai (.z (zfa aO) (.y hs (zld ak) (.z (df ad) (.z zm ?_)))))))))
  refine .nil ?_
  refine .for (N:=s.wa.length) (J:=fun k fr w=>fr=[(3,I ((i*s.wa.length+k:Nat):Int)),(4,I (i:Int)),(9,I (i:Int)),(8,I (s.st.length:Int)),(0,.func (.yield ly) #[] #[]),(1,.pointer (some ⟨b,0,none⟩))]∧∃H3 σb,HLe H1 H3∧II (i*s.wa.length+k) H3 σb∧St H3 w (σb++σf)) aj ?_ ?_ ?_
  ·exact .mk ⟨rfl,H1,σb,HLe.refl _,hI,hs⟩
  ·rintro k fr w hk ⟨rfl,H3,σb3,hle3,hI3,hs⟩
   obtain ⟨d1,d2⟩:=zq (nw:=s.wa.length) (i:=i) (k:=k) hk
   have hlt:=CL hi hk
   refine .block (.ai (.z zm (.z zg (.nil (.ai (.z zm (.z cR (.z zg (.nil ?_)))))))))
   refine .ai (.z zm (.z zm (.z zm (.z zm (.z (zbd [_,_,_] lW) ?_)))))
   have hk':i*s.wa.length+k<(q7 s).length:=by rw [cJ];exact hlt
   have hyd:=hy (i*s.wa.length+k) hk' H3 σb3 σf w (hle1.trans hle3) hI3 hs
   rw [jB hk',d1,d2,show ((i*s.wa.length+k+1:Nat):Int)=((i*s.wa.length+k:Nat):Int)+1 by omega] at hyd
   refine .o (.yield rfl rfl hyd ?_);rintro v25 w ⟨H5,σ5,g1,hs,g3'⟩
   obtain ⟨bb,rfl,gT,gF⟩:=ka g3'
   refine .z jb (.nil ?_)
   refine (.cond rfl (fun hc26=>?_) (fun hc26=>?_))
   ·refine .ret (rB (rT (rB (rB (rT (rB (Fin.AN Tryz.results190 ?_)))))))
    exact ⟨H5,σ5,hle0.trans (hle3.trans g1),hs,.inr (gF (by simpa using hc26))⟩
   ·refine .skip ?_
    refine nB (nT ?_)
    exact .mk ⟨rfl,H5,σ5,hle3.trans g1,gT (by simpa using hc26),hs⟩
  ·rintro fr w ⟨rfl,H3,σb3,hle3,hI3,hs⟩
   have e:i*s.wa.length+s.wa.length=(i+1)*s.wa.length:=by rw [Nat.add_mul,Nat.one_mul]
   rw [e] at hI3 ⊢
   refine nB (nT ?_)
   exact .mk ⟨rfl,H3,σb3,hle1.trans hle3,hle0.trans hle3,hI3,hs⟩
 ·rintro fr w ⟨rfl,H1,σb,hle1,hle0,hI,hs⟩
  exact Fin.sy Tryz.results190 ⟨H1,σb,hle0,hs,.inl (by rw [cJ];exact hI)⟩
theorem dN{s:Spc}{vst vwa:Value}(hs:St H w σ)(h1:RI H vst s.st)(h2:RI H vwa s.wa)(hbd:s.st.length≤1000∧s.wa.length≤1000):
  Cl Tryz.prog 103 [.agg #[I s.id,I s.src,vst,vwa,I s.al,I s.up]] w fun u w'=>∃H1 b,HLe H H1∧u= .func (.func 190) #[] #[.pointer (some ⟨b,0,none⟩)]∧Iter Tryz.prog 190 [.pointer (some ⟨b,0,none⟩)] H1 (q7 s)∧St H1 w' σ:=by
 obtain ⟨ast,cst,rfl⟩:=RI.shape h1
 obtain ⟨awa,cwa,rfl⟩:=RI.shape h2
 refine Cl.o Tryz.func103 Tryz.ntmps103 ag1 ?_
 refine .ai ?_
 refine .bx hs fun b1 w hs=>?_
 refine .z zg (.nil (.ai ?_))
 refine .q hs (bO (f:=[]) (c:=[_]) rfl rfl) ?_
 refine .z zg (.nil ?_)
 refine .ret (Fin.bF Tryz.results103 rfl ?_)
 obtain ⟨H1,g1,g2,hs⟩:=hs.bK .here
 exact ⟨H1,b1,g1,rfl,lr g2 (h1.mono g1) (h2.mono g1) hbd,hs⟩
set_option maxRecDepth 100000 in
theorem qe:Tryz.prog.stoodInHeld 49=false:=by kernel_rfl
set_option maxRecDepth 100000 in
theorem qf:Tryz.prog.eqGuardType Tryz.prog.depth 49=false:=by kernel_rfl
theorem km{v:Value}{en:Ent}{xs:List TD}{g:Nat}{cap:List Value}(q:TD→Bool)(hs:St H w (en::σ))(hO:bX 2 v (tdc xs).flatten en)(hl:xs.length≤1000000)(hc:∀args w,(callFunc g args).run Tryz.prog w= .ok (.enter g args) w)
  (hp:∀w (t:TD),St H w (en::σ)→Cl Tryz.prog g ([.agg #[I t.tape,I t.day]]++cap) w fun u w'=>u= .bool (q t)∧St H w' (en::σ)):
  Cl Tryz.prog 229 [v,.func (.func g) #[] cap.toArray] w fun u w'=>∃i:Int,u=I i∧(0≤i↔∃x∈xs,q x=true)∧St H w' (en::σ):=by
 obtain ⟨a,c,rfl⟩:=hO.rl (ng xs) aj
 rw [db] at hO ⊢
 refine Cl.o Tryz.func229 Tryz.ntmps229 ag2 ?_
 refine .ai (.z zg (.nil (.seq (.ai (.z zm (.z (df aW) (.z zm (.nil ?_))))))))
 refine .for (N:=xs.length) (J:=fun k fr w=>fr=[(1,.func (.func g) #[] cap.toArray),(0,.slice a xs.length c)]∧(∀j<k,∀y,xs[j]? =some y→¬q y=true)∧St H w (en::σ)) aj ?_ ?_ ?_
 ·exact .mk ⟨rfl,fun j hj=>by omega,hs⟩
 ·rintro k fr w hk ⟨rfl,hno,hs⟩
  obtain ⟨x,hx⟩:=nth hk
  obtain ⟨b,c',sp,hv,rfl,_⟩:=hO.CP (ng xs) aj (by rw [db];omega)
  rw [db] at hv
  cases hv
  refine .block (.ai (.z zm (.z zg (.nil (.ai (.z zm (.z zm (.z zm (.z (uW aW bP) ?_)))))))))
  refine .q hs (gS (vs:=x.c) rfl gZ bP .here (y7 (ng xs) (vz hx) sp)) ?_
  refine .o (.lP (first:=[]) (cap:=cap) rfl rfl hc (hp _ x hs) ?_);rintro _ w ⟨rfl,hs⟩
  refine .nil ?_
  refine (.cond rfl (fun hc16=>?_) (fun hc16=>?_))
  ·refine .ai (.z zm (.z zg (.nil ?_)))
   refine .ret (rB (rT (rB (rT (Fin.bF Tryz.results229 rfl ?_)))))
   exact ⟨_,rfl,⟨fun _=>⟨x,List.mem_of_getElem? hx,hc16⟩,fun _=>by omega⟩,hs⟩
  ·refine .skip ?_
   refine nB (nT ?_)
   exact .mk ⟨rfl,ek hno hx (by simpa using hc16),hs⟩
 ·rintro fr w ⟨rfl,hno,hs⟩
  refine nT ?_
  refine .ai (.z zg (.nil ?_))
  refine .ret (Fin.bF Tryz.results229 rfl ?_)
  exact ⟨_,rfl,⟨fun h=>by omega,fun ⟨x,h1,h2⟩=>by
   obtain ⟨j,hj⟩:=List.getElem?_of_mem h1
   exact (hno j (List.getElem?_eq_some_iff.1 hj).1 x hj h2).elim⟩,hs⟩
theorem iW{v:Value}{en:Ent}{xs:List TD}{g:Nat}{cap:List Value}(q:TD→Bool)(hs:St H w (en::σ))(hO:bX 2 v (tdc xs).flatten en)(hl:xs.length≤1000000)(hc:∀args w,(callFunc g args).run Tryz.prog w= .ok (.enter g args) w)
  (hp:∀w (t:TD),St H w (en::σ)→Cl Tryz.prog g ([.agg #[I t.tape,I t.day]]++cap) w fun u w'=>u= .bool (q t)∧St H w' (en::σ)):
  Cl Tryz.prog 172 [v,.func (.func g) #[] cap.toArray] w fun u w'=>∃b:Bool,u= .bool b∧(b=true↔∃x∈xs,q x=true)∧St H w' (en::σ):=by
 refine Cl.o Tryz.func172 Tryz.ntmps172 ag2 ?_
 refine .ai (.z zg (.nil (.ai (.z zm (.z zm ?_)))))
 refine .o (.call Tryz.call229 rfl (km q hs hO hl hc hp) ?_);rintro _ w ⟨i,rfl,hi,hs⟩
 refine .z xi (.z zg (.nil ?_))
 refine .ret (Fin.bF Tryz.results172 rfl ?_)
 exact ⟨_,rfl,by simp only [decide_eq_true_eq];exact hi,hs⟩
theorem jg{v:Value}{xs:List TD}{t:TD}(hs:St H w σ)(hr:RTd H v xs)(hl:xs.length≤1000000):
  Cl Tryz.prog 89 [v,.agg #[I t.tape,I t.day]] w fun u w'=>u=I (iw xs t)∧St H w' σ:=by
 obtain ⟨a,c,rfl⟩:=RTd.shape hr
 refine Cl.o Tryz.func89 Tryz.ntmps89 ag2 ?_
 refine .ai ?_
 refine .bx hs fun b3 w hs=>?_
 refine .z zg (.nil (.seq (.ai (.z zm (.z (df aW) (.z zm (.nil ?_)))))))
 refine .for (N:=xs.length) (J:=fun k fr w=>fr=[(0,.slice a xs.length c),(3,.pointer (some ⟨b3,0,none⟩))]∧(∀j<k,∀y,xs[j]? =some y→¬y=t)∧St H w (.blk b3 [I t.tape,I t.day]::σ)) aj ?_ ?_ ?_
 ·exact .mk ⟨rfl,fun j hj=>by omega,hs⟩
 ·rintro k fr w hk ⟨rfl,hno,hs⟩
  obtain ⟨x,hx⟩:=nth hk
  refine .block (.ai (.z zm (.z zg (.nil ?_))))
  refine .seq (.draw mix rfl hs fun w hs=>?_)
  refine .ys 0 rfl hs [_,_] gZ bP ?_;refine .z 1 rfl zm ?_;refine .z 2 rfl zm ?_
  refine .ixX (enc:=TD.c) (i:=3) hs rfl ay .none hr rfl rfl aW bP hx dm ?_;intro b14 o14 hc14
  refine .r (i:=4) hs rfl ay .none (dc (vs:=x.c) rfl gZ bP hc14) ?_
  refine .z 5 rfl (pJ qe qf gv (fun f hf=>by
   simp only [List.mem_cons,List.not_mem_nil,or_false] at hf
   rcases hf with rfl|rfl<;>exact ⟨by decide,aC,af⟩) rfl rfl) ?_
  refine .D hs ?_
  refine (.cond rfl (fun hc16=>?_) (fun hc16=>?_))
  ·refine .ai (.z zm (.z zg (.nil ?_)))
   refine .ret (rB (rT (rB (rT (Fin.bF Tryz.results89 rfl ?_)))))
   have e:x=t:=zv.1 (by have:=of_decide_eq_true hc16;exact ⟨this.1.symm,this.2.symm⟩)
   subst e
   exact ⟨by rw [nU hx fun j hj h=>hno j hj _ h rfl],hs.tail⟩
  ·refine .skip ?_
   refine nB (nT ?_)
   exact .mk ⟨rfl,ek hno hx (fun e=>by subst e;simp at hc16),hs⟩
 ·rintro fr w ⟨rfl,hno,hs⟩
  refine nT ?_
  refine .ai (.z zg (.nil ?_))
  refine .ret (Fin.bF Tryz.results89 rfl ?_)
  exact ⟨by rw [tw hno],hs.tail⟩
theorem jG{t:TD}{r:Rdg}{b:Nat}(hs:St H w σ)(hb:Row H b r.c):
  Cl Tryz.prog 173 [.agg #[I t.tape,I t.day],.pointer (some ⟨b,0,none⟩)] w fun u w'=>u= .bool (decide (t=r.td))∧St H w' σ:=by
 have hb0:br H b 0 r.c:=hb.cells 0 r.c
 refine Cl.o Tryz.func173 Tryz.ntmps173 ag2 ?_
 refine .ai ?_
 refine .bx hs fun b2 w hs=>?_
 refine .z zg (.nil ?_)
 refine .seq (.draw mix rfl hs fun w hs=>?_)
 refine .ys 0 rfl hs [_,_] gZ bP ?_;refine .ys 1 rfl hs [_,_,_,_,_,_,_] fw bu ?_
 refine .E 2 hs ?_
 refine .call CI rfl (cS hs) ?_;rintro _ w ⟨rfl,hs⟩
 refine .go ?_
 refine .z 3 rfl (pJ qe qf gv (fun f hf=>by
  simp only [List.mem_cons,List.not_mem_nil,or_false] at hf
  rcases hf with rfl|rfl<;>exact ⟨by decide,aC,af⟩) rfl rfl) ?_
 refine .z 4 rfl zg ?_;refine .D hs ?_
 refine .ret (Fin.bF Tryz.results173 rfl ?_)
 exact ⟨by congr 1;rw [decide_eq_decide];exact zv (t:=t) (u:=r.td),hs.tail⟩
set_option maxHeartbeats 1000000 in
theorem ia{s:Srv}{vst vwa vr vc:Value}(hs:St H w σ)(hr:RRd H vr s.rs)(hl:s.rs.length≤1000000):
  Cl Tryz.prog 90 [.agg #[I s.sp.id,I s.sp.src,vst,vwa,I s.sp.al,I s.sp.up,vr,vc]] w fun u w'=>∃H1 en,HLe H H1∧bX 2 u (tdc s.aI).flatten en∧St H1 w' (en::σ):=by
 obtain ⟨ar,cr,rfl⟩:=RRd.shape hr
 refine Cl.o Tryz.func90 Tryz.ntmps90 ag1 ?_
 refine .ai ?_
 refine .bx hs fun b1 w hs=>?_
 refine .z zg (.nil (.ai (.z zg (.nil (.seq (.ai (.z (zfa dv) (.y hs (zld CE) (.z (df bI) ?_)))))))))
 refine .z zm (.nil ?_)
 refine .for (N:=s.rs.length) (J:=fun k fr w=>∃vo en H1,fr=[(7,.slice ar s.rs.length cr),(3,vo)]∧HLe H H1∧bX 2 vo (tdc (cd (s.rs.take k))).flatten en∧St H1 w (en::σ)) aj ?_ ?_ ?_
 ·exact .mk ⟨_,.nul,H,rfl,HLe.refl _,.nil 2 none,hs.tail.nul⟩
 ·rintro k fr w hk ⟨vo,en,H1,rfl,hle1,hO,hs⟩
  obtain ⟨r,hx⟩:=nth hk
  have htk:=gB hx
  have htl:=ki s.rs k aj
  obtain ⟨ao,co,rfl⟩:=hO.rl (ng _) aj
  rw [db] at hO ⊢
  refine .block (.ai ?_)
  refine .ixX (enc:=Rdg.c) hs (hr.mono hle1) rfl rfl bI bu hx dm ?_;intro b11 o11 hc11
  refine .q hs (dc (vs:=(Rdg.c r)) rfl fw bu hc11) ?_
  refine .o (.alloc hs eW rfl fun b5 w hs=>?_)
  refine .o (.aP (vs:=r.c) hs rfl rfl bu fun w hs=>?_)
  obtain ⟨H2,hle2,r5,hs⟩:=hs.bK (b:=b5) (c:=r.c) .here
  have c5:br H2 b5 0 r.c:=r5.cells 0 r.c
  refine .nil (.ai (.z zm ?_))
  refine .q hs (bO (f:=[]) (c:=[_]) rfl rfl) ?_
  refine .o (.call Tryz.call172 rfl (iW (g:=173) (cap:=[.pointer (some ⟨b5,0,none⟩)]) (fun t=>decide (t=r.td)) hs hO aj Tryz.call173 (fun w t hs=>jG hs r5)) ?_);rintro _ w ⟨b15,rfl,hb15,hs⟩
  refine .z jb (.nil ?_)
  refine (.cond rfl (fun hc16=>?_) (fun hc16=>?_))
  ·refine .region (.z zm ?_)
   refine .q hs (dc (vs:=r.c) rfl fw bu c5) ?_
   refine .o (.call CI rfl (cS (r:=r) hs) ?_);rintro _ w ⟨rfl,hs⟩
   refine .o (.buildSlice (cells:=[_,_]) hs fK rfl rfl fun b20 w hs=>?_)
   refine .o (.append (ys:=r.td.c) hs dH rfl rfl hO (.own .here rfl rfl) (by simp [TD.c,Value.oneCell']) (fun l h=>by rw [eB _ (ng _),db] at h;omega) ?_);intro v21 en21 w hO2 hs
   refine .z zg (.nil ?_)
   refine nB (nT ?_)
   have hn:r.td∉cd (s.rs.take k):=fun hm=>by
    rw [hb15.2 ⟨_,hm,cN⟩] at hc16;cases hc16
   rw [←tv,show cd (s.rs.take k)++[r.td]=cd (s.rs.take (k+1)) by rw [htk];unfold oI;rw [if_neg hn]] at hO2
   exact .mk ⟨_,_,H2,rfl,hle1.trans hle2,hO2,hs.sb⟩
  ·refine .skip ?_
   refine nB (nT ?_)
   have hm:r.td∈cd (s.rs.take k):=by
    obtain ⟨x,h1,h2⟩:=hb15.1 (by simpa using hc16)
    rw [←of_decide_eq_true h2];exact h1
   exact .mk ⟨_,_,H2,rfl,hle1.trans hle2,by rw [htk];unfold oI;rw [if_pos hm];exact hO,hs⟩
 ·rintro fr w ⟨vo,en,H1,rfl,hle1,hO,hs⟩
  rw [List.take_length] at hO
  refine nT ?_
  refine .ai (.z zm (.z zg (.nil ?_)))
  refine .ret (Fin.bF Tryz.results90 rfl ?_)
  exact ⟨H1,en,hle1,hO,hs⟩
theorem eL{s:Srv}{vst vwa vr vc:Value}(hs:St H w σ)(hr:RRd H vr s.rs)(hl:s.rs.length≤1000000):
  Cl Tryz.prog 90 [.agg #[I s.sp.id,I s.sp.src,vst,vwa,I s.sp.al,I s.sp.up,vr,vc]] w fun u w'=>∃H1,HLe H H1∧RTd H1 u s.aI∧St H1 w' σ:=by
 refine (ia hs hr hl).mono ?_
 rintro u w' ⟨H1,en,hle1,hO,hs⟩
 have htl:=cP s.rs
 have htl':s.aI.length≤1000000:=by unfold Srv.aI;omega
 obtain ⟨H2,hle2,hR,hs⟩:=bX.bK (m:=2) hO (ng _) aj (by rw [db];omega) hs .here
 exact ⟨H2,hle1.trans hle2,hR,hs⟩
theorem lg{v:Value}{en:Ent}{xs:List TD}{t:TD}(hs:St H w (en::σ))(hO:bX 2 v (tdc xs).flatten en)(hl:xs.length≤1000000):
  Cl Tryz.prog 89 [v,.agg #[I t.tape,I t.day]] w fun u w'=>u=I (iw xs t)∧St H w' (en::σ):=by
 obtain ⟨a,c,rfl⟩:=hO.rl (ng xs) aj
 rw [db] at hO ⊢
 refine Cl.o Tryz.func89 Tryz.ntmps89 ag2 ?_
 refine .ai ?_
 refine .bx hs fun b3 w hs=>?_
 refine .z zg (.nil (.seq (.ai (.z zm (.z (df aW) (.z zm (.nil ?_)))))))
 refine .for (N:=xs.length) (J:=fun k fr w=>fr=[(0,.slice a xs.length c),(3,.pointer (some ⟨b3,0,none⟩))]∧(∀j<k,∀y,xs[j]? =some y→¬y=t)∧St H w (.blk b3 [I t.tape,I t.day]::en::σ)) aj ?_ ?_ ?_
 ·exact .mk ⟨rfl,fun j hj=>by omega,hs⟩
 ·rintro k fr w hk ⟨rfl,hno,hs⟩
  obtain ⟨x,hx⟩:=nth hk
  obtain ⟨b,c',sp,hv,rfl,_⟩:=hO.CP (ng xs) aj (by rw [db];omega)
  rw [db] at hv
  cases hv
  refine .block (.ai (.z zm (.z zg (.nil ?_))))
  refine .seq (.draw mix rfl hs fun w hs=>?_)
  refine .ys 0 rfl hs [_,_] gZ bP ?_;refine .z 1 rfl zm ?_;refine .z 2 rfl zm ?_;refine .z 3 rfl (uW aW bP) ?_
  refine .uH (i:=4) (vs:=x.c) hs rfl ay .none rfl gZ bP ?_ (hv:=y7 (ng xs) (vz hx) sp)
  refine .z 5 rfl (pJ qe qf gv (fun f hf=>by
   simp only [List.mem_cons,List.not_mem_nil,or_false] at hf
   rcases hf with rfl|rfl<;>exact ⟨by decide,aC,af⟩) rfl rfl) ?_
  refine .D hs ?_
  refine (.cond rfl (fun hc16=>?_) (fun hc16=>?_))
  ·refine .ai (.z zm (.z zg (.nil ?_)))
   refine .ret (rB (rT (rB (rT (Fin.bF Tryz.results89 rfl ?_)))))
   have e:x=t:=zv.1 (by have:=of_decide_eq_true hc16;exact ⟨this.1.symm,this.2.symm⟩)
   subst e
   exact ⟨by rw [nU hx fun j hj h=>hno j hj _ h rfl],hs.tail⟩
  ·refine .skip ?_
   refine nB (nT ?_)
   exact .mk ⟨rfl,ek hno hx (fun e=>by subst e;simp at hc16),hs⟩
 ·rintro fr w ⟨rfl,hno,hs⟩
  refine nT ?_
  refine .ai (.z zg (.nil ?_))
  refine .ret (Fin.bF Tryz.results89 rfl ?_)
  exact ⟨by rw [tw hno],hs.tail⟩
theorem dh{x0 x1 x2 x3 x4 x5 x6 x7 x8 vl:Value}{en:Ent}{bm:Nat}{ls:List Lim}{a b hi lo by_:Int}(hs:St H w (.blk bm [x0,x1,x2,x3,x4,x5,x6,x7,x8,vl]::en::σ))(hO:bX 4 vl (gd ls) en)(hl:ls.length≤100000):
  Cl Tryz.prog 115 [.pointer (some ⟨bm,0,none⟩),I a,I b,I hi,I lo,I by_] w fun _ w'=>∃vl' en',bX 4 vl' (gd (ls++two a b hi lo by_)) en'∧St H w' (.blk bm [x0,x1,x2,x3,x4,x5,x6,x7,x8,vl']::en'::σ):=by
 obtain ⟨al,ll,cl,rfl,h⟩:=hO.shape
 refine Cl.of Tryz.func115 rfl Tryz.ntmps115 cN (bV (k:=0) rfl (bV (k:=1) rfl (bV (k:=2) rfl (bV (k:=3) rfl (bV (k:=4) rfl (bV (k:=5) rfl (qR))))))) ?_
 refine .region (.z zm (.z zm (.z znc (.z (zfa dT) (.y hs (zld cK) (.z zm (.z zm (.z zm (.z zm ?_)))))))))
 refine .z (zbd [_,_,_,_] lY) (.z zm (.z zm (.z zm (.z zm (.z (zbd [_,_,_,_] lY) ?_)))))
 refine .o (.buildSlice (cells:=gd (two a b hi lo by_)) hs lU rfl ay fun b27 w hs=>?_)
 refine .o (.append (ys:=gd (two a b hi lo by_)) hs da rfl rfl hO (.own .here rfl rfl) (sn _) (fun l h=>by rw [fc] at h;omega) ?_);intro v28 en28 w hO2 hs
 rw [←kR] at hO2
 obtain ⟨a28,l28,c28,rfl,h28⟩:=hO2.shape
 refine .z znc (.z (zfa dT) ?_)
 refine .o (.store hs rfl rfl ma fun w hs=>?_)
 refine .nil ?_
 exact Fin.sy Tryz.results115 ⟨_,_,hO2,hs.sb⟩
theorem eN{s:Spc}{vst vwa x6 x7 x8 vl:Value}{bm:Nat}{j:Int}(hs:St H w σ)(hm:Mem σ (.blk bm [I s.id,I s.src,vst,vwa,I s.al,I s.up,x6,x7,x8,vl]))(h1:RI H vst s.st)(h2:RI H vwa s.wa)(hb:s.st.length≤1000∧s.wa.length≤1000)(hj: -1≤j∧j≤1000):
  Cl Tryz.prog 116 [.pointer (some ⟨bm,0,none⟩),I j] w fun u w'=>u=I ((s.many:Int)+1+j)∧St H w' σ:=by
 have hmm:s.many≤1000000:=Nat.mul_le_mul hb.1 hb.2
 refine Cl.o Tryz.func116 Tryz.ntmps116 ag2 ?_
 refine .ai (.z zg (.nil (.ai (.z zm (.z znc (.z (zfa bL) (.z (zfa aS) ?_)))))))
 refine .q hs (gS (vs:=[I s.id,I s.src,vst,vwa,I s.al,I s.up]) rfl aK az hm) ?_
 refine .o (.call Tryz.call91 rfl (dq (s:=s) hs h1 h2 hb) ?_);rintro _ w ⟨rfl,hs⟩
 refine .z cR (.z zm (.z cR (.z zg (.nil ?_))))
 refine .ret (Fin.bF Tryz.results116 rfl ?_)
 exact ⟨rfl,hs⟩
theorem dM{s:Spc}(h:dj s):s.st.length≤1000∧s.wa.length≤1000∧0<s.wa.length∧s.many≤63:=by
 have h1:=h.st.many;have h2:=h.wa.many;have h3:=h.wa.two
 have:s.many≤9*7:=Nat.mul_le_mul h1 h2
 omega
theorem kE{s:Srv}{ts:List TD}{vst vwa vr vc vt vl:Value}{en:Ent}{bm:Nat}{ls:List Lim}(hs:St H w (.blk bm [I s.sp.id,I s.sp.src,vst,vwa,I s.sp.al,I s.sp.up,vr,vc,vt,vl]::en::σ))(hk:MkK H s ts vst vwa vr vc vt)(hO:bX 4 vl (gd ls) en)(hl:ls.length≤10000)(hok:dj s.sp):
  Cl Tryz.prog 174 [.pointer (some ⟨bm,0,none⟩)] w fun _ w'=>∃H1 vl' en',HLe H H1∧bX 4 vl' (gd (ls++ic (uP s.sp) s.sp.wa.length s.sp.st.length)) en'∧St H1 w' (.blk bm [I s.sp.id,I s.sp.src,vst,vwa,I s.sp.al,I s.sp.up,vr,vc,vt,vl']::en'::σ):=by
 have hsm:=dM hok
 refine Cl.o Tryz.func174 Tryz.ntmps174 ag1 ?_
 refine .ai ?_
 refine .bx hs fun b1 w hs=>?_
 refine .nil (.ai (.y hs (zld mf) (.z znc (.z (zfa bL) (.z (zfa aS) (.y hs (zls [_,_,_,_,_,_] aK az) ?_))))))
 refine .o (.call CJ rfl (dN (s:=s.sp) hs hk.st hk.wa ⟨aj,aj⟩) ?_);rintro _ w ⟨H1,ba,hle1,rfl,hit,hs⟩
 refine .nil (.block ?_)
 refine .rangeFunc (gf:=190) (cap:=[.pointer (some ⟨ba,0,none⟩)]) (xs:=q7 s.sp) (σb:=[.blk bm [I s.sp.id,I s.sp.src,vst,vwa,I s.sp.al,I s.sp.up,vr,vc,vt,vl],en,.blk b1 [.pointer (some ⟨bm,0,none⟩)]]) (σf:=σ) (hs.sb) trivial rfl hit CG (fun x hx=>by
   simp only [q7,List.mem_map] at hx
   obtain ⟨j,_,rfl⟩:=hx;rfl) rfl
  (I:=fun p H' σb=>∃vl en,σb=[.blk bm [I s.sp.id,I s.sp.src,vst,vwa,I s.sp.al,I s.sp.up,vr,vc,vt,vl],en,.blk b1 [.pointer (some ⟨bm,0,none⟩)]]∧bX 4 vl (gd (ls++lB (uP s.sp) s.sp.wa.length p)) en) (Ix:=fun _ _ _=>False)
  (fun j _ _ σ g1 g2=>g2) (fun _ _ _ _ _ h=>h) ⟨vl,en,rfl,by rw [jx,List.append_nil];exact hO⟩ ?_ ?_ (fun D c H' σb w _ h _=>h.elim)
 ·rintro ly p hp H2 σb2 σf2 w hle2 ⟨vl,en,rfl,hO⟩ hs ⟨rr,hrr⟩
  have hpm:p<s.sp.many:=by rw [cJ] at hp;exact hp
  have hsucc:=jy (uP s.sp) (p:=p) hsm.2.2.1
  have hpl:=fm (qM s.sp) hsm.2.2.1 p
  have hin:p/s.sp.wa.length<s.sp.st.length:=Nat.div_lt_of_lt_mul (by rw [Nat.mul_comm];exact hpm)
  have hkm:=Nat.mod_lt p hsm.2.2.1
  have hdm:=Nat.div_add_mod p s.sp.wa.length
  rw [Nat.mul_comm] at hdm
  have hu:(s.sp.u (p/s.sp.wa.length) (p%s.sp.wa.length):Int)=(p:Int)+1:=by unfold Spc.u;omega
  rw [jB hp]
  obtain ⟨al,ll,cl,rfl,hll⟩:=hO.shape
  generalize p/s.sp.wa.length=i at*
  generalize p%s.sp.wa.length=k at*
  have hk2:=hk.mono (hle1.trans hle2)
  refine .region ?_
  refine .o (.alloc hs jR rfl fun b2 w hs=>?_)
  refine .o (.aP (vs:=[_,_,_]) hs rfl rfl pq fun w hs=>?_)
  refine .nil ?_
  refine nT ?_
  refine ⟨H2,[.blk b2 [I (i:Int),I (k:Int),I ((p+1:Nat):Int)],.blk bm [I s.sp.id,I s.sp.src,vst,vwa,I s.sp.al,I s.sp.up,vr,vc,vt,.slice al ll cl],en,.blk b1 [.pointer (some ⟨bm,0,none⟩)]],HLe.refl _,hs,?_⟩;rintro w σf4 - hs
  refine .block ?_
  refine .draw mix rfl hs fun w hs=>?_
  refine .y 0 rfl hs mf ?_;refine .z 1 rfl (zfa cu) ?_;refine .y 2 rfl hs af ?_;refine .y 3 rfl hs mf ?_;refine .z 4 rfl znc ?_;refine .z 5 rfl (zfa bL) ?_;refine .z 6 rfl (zfa aS) ?_;refine .z 7 rfl (zfa dO) ?_;refine .y 8 rfl hs af ?_
  refine .E 9 hs ?_
  refine .call oV rfl (dh (ls:=ls++lB (uP s.sp) s.sp.wa.length p) (hs.sb:St H2 w (.blk bm _::en:: .blk b1 _::σf4)) hO (by rw [List.length_append];omega)) ?_;rintro _ w ⟨vl3,en3,hO3,hs⟩
  rw [show two 0 ((p+1:Nat):Int) 20000 0 s.sp.src=uP s.sp i k by unfold uP;rw [hu];rfl,List.append_assoc,←hsucc] at hO3
  refine .go ?_
  refine .D hs ?_
  refine nB ?_
  exact ⟨H2,_,HLe.refl _,hs,_,_,rfl,hO3⟩
 ·rintro D H2 σb2 w hle2 ⟨vl,en,rfl,hO⟩ hs
  rw [cJ,show s.sp.many=s.sp.st.length*s.sp.wa.length from rfl,lA _ hsm.2.2.1] at hO
  refine nB ?_
  exact Fin.BO [D] [] hs fun w hs=>⟨_,results0 Tryz.results174,H2,vl,en,hle1.trans hle2,hO,(hs.sb:St H2 w (.blk bm _::en::σ))⟩
theorem np{s:Srv}{ts:List TD}{vst vwa vr vc vt vl:Value}{en:Ent}{bm:Nat}{ls:List Lim}(hs:St H w (.blk bm [I s.sp.id,I s.sp.src,vst,vwa,I s.sp.al,I s.sp.up,vr,vc,vt,vl]::en::σ))(hk:MkK H s ts vst vwa vr vc vt)(hO:bX 4 vl (gd ls) en)(hl:ls.length≤10000)(hok:dj s.sp):
  Cl Tryz.prog 175 [.pointer (some ⟨bm,0,none⟩)] w fun _ w'=>∃H1 vl' en',HLe H H1∧bX 4 vl' (gd (ls++ic (alL s.sp) s.sp.wa.length s.sp.st.length)) en'∧St H1 w' (.blk bm [I s.sp.id,I s.sp.src,vst,vwa,I s.sp.al,I s.sp.up,vr,vc,vt,vl']::en'::σ):=by
 have hsm:=dM hok
 obtain ⟨ast,cst,rfl⟩:=RI.shape hk.st
 obtain ⟨awa,cwa,rfl⟩:=RI.shape hk.wa
 refine Cl.o Tryz.func175 Tryz.ntmps175 ag1 ?_
 refine .ai ?_
 refine .bx hs fun b1 w hs=>?_
 refine .nil (.ai (.y hs (zld mf) (.z znc (.z (zfa bL) (.z (zfa aS) (.y hs (zls [_,_,_,_,_,_] aK az) ?_))))))
 refine .o (.alloc hs gY rfl fun b2 w hs=>?_)
 refine .o (.aP (vs:=[_,_,_,_,_,_]) hs rfl rfl az fun w hs=>?_)
 refine .nil (.ai (.y hs (zls [_,_,_,_,_,_] aK az) ?_))
 refine .o (.call CJ rfl (dN (s:=s.sp) hs hk.st hk.wa ⟨aj,aj⟩) ?_);rintro _ w ⟨H1,ba,hle1,rfl,hit,hs⟩
 refine .nil (.block ?_)
 refine .rangeFunc (gf:=190) (cap:=[.pointer (some ⟨ba,0,none⟩)]) (xs:=q7 s.sp) (σb:=[.blk bm [I s.sp.id,I s.sp.src,.slice ast s.sp.st.length cst,.slice awa s.sp.wa.length cwa,I s.sp.al,I s.sp.up,vr,vc,vt,vl],en,.blk b1 [.pointer (some ⟨bm,0,none⟩)],.blk b2 [I s.sp.id,I s.sp.src,.slice ast s.sp.st.length cst,.slice awa s.sp.wa.length cwa,I s.sp.al,I s.sp.up]]) (σf:=σ) (hs.sb) trivial rfl hit CG (fun x hx=>by
   simp only [q7,List.mem_map] at hx
   obtain ⟨j,_,rfl⟩:=hx;rfl) rfl
  (I:=fun p H' σb=>∃vl en,σb=[.blk bm [I s.sp.id,I s.sp.src,.slice ast s.sp.st.length cst,.slice awa s.sp.wa.length cwa,I s.sp.al,I s.sp.up,vr,vc,vt,vl],en,.blk b1 [.pointer (some ⟨bm,0,none⟩)],.blk b2 [I s.sp.id,I s.sp.src,.slice ast s.sp.st.length cst,.slice awa s.sp.wa.length cwa,I s.sp.al,I s.sp.up]]∧bX 4 vl (gd (ls++lB (alL s.sp) s.sp.wa.length p)) en) (Ix:=fun _ _ _=>False)
  (fun j _ _ σ g1 g2=>g2) (fun _ _ _ _ _ h=>h) ⟨vl,en,rfl,by rw [jx,List.append_nil];exact hO⟩ ?_ ?_ (fun D c H' σb w _ h _=>h.elim)
 ·rintro ly p hp H2 σb2 σf2 w hle2 ⟨vl,en,rfl,hO⟩ hs ⟨rr,hrr⟩
  have hpm:p<s.sp.many:=by rw [cJ] at hp;exact hp
  have hsucc:=jy (alL s.sp) (p:=p) hsm.2.2.1
  have hpl:=fm (tj s.sp) hsm.2.2.1 p
  have hin:p/s.sp.wa.length<s.sp.st.length:=Nat.div_lt_of_lt_mul (by rw [Nat.mul_comm];exact hpm)
  have hkm:=Nat.mod_lt p hsm.2.2.1
  have hdm:=Nat.div_add_mod p s.sp.wa.length
  rw [Nat.mul_comm] at hdm
  have hu:(s.sp.u (p/s.sp.wa.length) (p%s.sp.wa.length):Int)=(p:Int)+1:=by unfold Spc.u;omega
  rw [jB hp]
  obtain ⟨al,ll,cl,rfl,hll⟩:=hO.shape
  generalize p/s.sp.wa.length=i at*
  generalize p%s.sp.wa.length=k at*
  have hk2:=hk.mono (hle1.trans hle2)
  refine .region ?_
  refine .o (.alloc hs jR rfl fun b3 w hs=>?_)
  refine .o (.aP (vs:=[_,_,_]) hs rfl rfl pq fun w hs=>?_)
  refine .nil ?_
  refine nT ?_
  refine ⟨H2,[.blk b3 [I (i:Int),I (k:Int),I ((p+1:Nat):Int)],.blk bm [I s.sp.id,I s.sp.src,.slice ast s.sp.st.length cst,.slice awa s.sp.wa.length cwa,I s.sp.al,I s.sp.up,vr,vc,vt,.slice al ll cl],en,.blk b1 [.pointer (some ⟨bm,0,none⟩)],.blk b2 [I s.sp.id,I s.sp.src,.slice ast s.sp.st.length cst,.slice awa s.sp.wa.length cwa,I s.sp.al,I s.sp.up]],HLe.refl _,hs,?_⟩;rintro w σf4 - hs
  refine .block (.ai (.z (zfa bM) (.y hs (zld af) (.z cR (.z (zfa aU) (.y hs (zld ak) (.z (df ad) (.z kX (.nil ?_)))))))))
  refine (.cW rfl (fun hc19=>?_) (fun hc19=>?_))
  ·refine .seq (.draw mix rfl hs fun w hs=>?_)
   refine .z 0 rfl (zfa eo) ?_;refine .z 1 rfl (zfa lJ) ?_;refine .y 2 rfl hs af ?_;refine .z 3 rfl (zfa aU) ?_;refine .y 4 rfl hs ak ?_;refine .z 5 rfl (zfa bM) ?_;refine .y 6 rfl hs af ?_;refine .z 7 rfl cR ?_
   have hris:=hok.st.rise i aj
   have hq0:=hok.st.bd (i:=i) aj
   have hq1:=hok.st.bd (i:=i+1) aj
   have hal:=hok.al
   refine .ixX (enc:=fun x=>[I x]) (i:=8) hs rfl ay .none hk2.st rfl rfl ad ae (bB (l:=s.sp.st) (i:=(i+1)) aj) dm ?_;intro b28 o28 hc28;replace hc28:=br.one hc28
   refine .r (i:=9) hs rfl ay .none (bj rfl af hc28) ?_
   refine .z 10 rfl (zfa aU) ?_;refine .y 11 rfl hs ak ?_;refine .z 12 rfl (zfa bM) ?_;refine .y 13 rfl hs af ?_
   refine .ixX (enc:=fun x=>[I x]) (i:=14) hs rfl ay .none hk2.st rfl rfl ad ae (bB (l:=s.sp.st) (i:=i) aj) dm ?_;intro b34 o34 hc34;replace hc34:=br.one hc34
   refine .r (i:=15) hs rfl ay .none (bj rfl af hc34) ?_
   refine .z 16 rfl iR ?_
   refine .E 17 hs ?_
   refine .call Tryz.call230 rfl (ib hs aj aj) ?_;rintro _ w ⟨rfl,hs⟩
   refine .go ?_
   refine .z 18 rfl zg ?_;refine .D hs ?_
   refine .region (.y hs (zld mf) (.z (zfa cu) (.y hs (zld af) (.z (zfa cu) (.y hs (zld af) (.z (zfa aO) (.y hs (zld ak) (.z (df ad) (.z cR ?_)))))))))
   refine .z zm (.z zm (.z (zfa dO) (.y hs (zld af) ?_)))
   refine .o (.call oV rfl (dh (ls:=ls++lB (alL s.sp) s.sp.wa.length p) (hs.sb:St H2 w (.blk bm _::en:: .blk b1 _:: .blk b2 _::σf4)) hO (by rw [List.length_append];omega)) ?_);rintro _ w ⟨vl3,en3,hO3,hs⟩
   have hu2:(s.sp.u (i+1) k:Int)=((p+1:Nat):Int)+(s.sp.wa.length:Int):=by unfold Spc.u at hu ⊢;rw [Nat.add_mul];omega
   rw [show two ((p+1:Nat):Int) (((p+1:Nat):Int)+(s.sp.wa.length:Int)) (fO s.sp.al (gi s.sp.st (i+1) - gi s.sp.st i)) (fO s.sp.al (gi s.sp.st (i+1) - gi s.sp.st i)) s.sp.src=alL s.sp i k by unfold alL;rw [if_pos aj,hu,hu2];rfl,List.append_assoc,←hsucc] at hO3
   refine .nil ?_
   refine nB ?_
   exact ⟨H2,_,HLe.refl _,hs,_,_,rfl,hO3⟩
  ·refine .skip ?_
   refine nB ?_
   rw [show alL s.sp i k=[] by unfold alL;rw [if_neg aj],List.append_nil] at hsucc
   exact ⟨H2,_,HLe.refl _,(hs.sb:St H2 w (.blk bm _::en:: .blk b1 _:: .blk b2 _::σf4)),_,_,rfl,by rw [hsucc];exact hO⟩
 ·rintro D H2 σb2 w hle2 ⟨vl,en,rfl,hO⟩ hs
  rw [cJ,show s.sp.many=s.sp.st.length*s.sp.wa.length from rfl,lA _ hsm.2.2.1] at hO
  refine nB ?_
  exact Fin.BO [D] [] hs fun w hs=>⟨_,results0 Tryz.results175,H2,vl,en,hle1.trans hle2,hO,(hs.sb:St H2 w (.blk bm _::en::σ))⟩
theorem qt{s:Srv}{ts:List TD}{vst vwa vr vc vt vl:Value}{en:Ent}{bm:Nat}{ls:List Lim}(hs:St H w (.blk bm [I s.sp.id,I s.sp.src,vst,vwa,I s.sp.al,I s.sp.up,vr,vc,vt,vl]::en::σ))(hk:MkK H s ts vst vwa vr vc vt)(hO:bX 4 vl (gd ls) en)(hl:ls.length≤10000)(hok:dj s.sp):
  Cl Tryz.prog 176 [.pointer (some ⟨bm,0,none⟩)] w fun _ w'=>∃H1 vl' en',HLe H H1∧bX 4 vl' (gd (ls++ic (upL s.sp) s.sp.wa.length s.sp.st.length)) en'∧St H1 w' (.blk bm [I s.sp.id,I s.sp.src,vst,vwa,I s.sp.al,I s.sp.up,vr,vc,vt,vl']::en'::σ):=by
 have hsm:=dM hok
 obtain ⟨ast,cst,rfl⟩:=RI.shape hk.st
 obtain ⟨awa,cwa,rfl⟩:=RI.shape hk.wa
 refine Cl.o Tryz.func176 Tryz.ntmps176 ag1 ?_
 refine .ai ?_
 refine .bx hs fun b1 w hs=>?_
 refine .nil (.ai (.y hs (zld mf) (.z znc (.z (zfa bL) (.z (zfa aS) (.y hs (zls [_,_,_,_,_,_] aK az) ?_))))))
 refine .o (.alloc hs gY rfl fun b2 w hs=>?_)
 refine .o (.aP (vs:=[_,_,_,_,_,_]) hs rfl rfl az fun w hs=>?_)
 refine .nil (.ai (.y hs (zls [_,_,_,_,_,_] aK az) ?_))
 refine .o (.call CJ rfl (dN (s:=s.sp) hs hk.st hk.wa ⟨aj,aj⟩) ?_);rintro _ w ⟨H1,ba,hle1,rfl,hit,hs⟩
 refine .nil (.block ?_)
 refine .rangeFunc (gf:=190) (cap:=[.pointer (some ⟨ba,0,none⟩)]) (xs:=q7 s.sp) (σb:=[.blk bm [I s.sp.id,I s.sp.src,.slice ast s.sp.st.length cst,.slice awa s.sp.wa.length cwa,I s.sp.al,I s.sp.up,vr,vc,vt,vl],en,.blk b1 [.pointer (some ⟨bm,0,none⟩)],.blk b2 [I s.sp.id,I s.sp.src,.slice ast s.sp.st.length cst,.slice awa s.sp.wa.length cwa,I s.sp.al,I s.sp.up]]) (σf:=σ) (hs.sb) trivial rfl hit CG (fun x hx=>by
   simp only [q7,List.mem_map] at hx
   obtain ⟨j,_,rfl⟩:=hx;rfl) rfl
  (I:=fun p H' σb=>∃vl en,σb=[.blk bm [I s.sp.id,I s.sp.src,.slice ast s.sp.st.length cst,.slice awa s.sp.wa.length cwa,I s.sp.al,I s.sp.up,vr,vc,vt,vl],en,.blk b1 [.pointer (some ⟨bm,0,none⟩)],.blk b2 [I s.sp.id,I s.sp.src,.slice ast s.sp.st.length cst,.slice awa s.sp.wa.length cwa,I s.sp.al,I s.sp.up]]∧bX 4 vl (gd (ls++lB (upL s.sp) s.sp.wa.length p)) en) (Ix:=fun _ _ _=>False)
  (fun j _ _ σ g1 g2=>g2) (fun _ _ _ _ _ h=>h) ⟨vl,en,rfl,by rw [jx,List.append_nil];exact hO⟩ ?_ ?_ (fun D c H' σb w _ h _=>h.elim)
 ·rintro ly p hp H2 σb2 σf2 w hle2 ⟨vl,en,rfl,hO⟩ hs ⟨rr,hrr⟩
  have hpm:p<s.sp.many:=by rw [cJ] at hp;exact hp
  have hsucc:=jy (upL s.sp) (p:=p) hsm.2.2.1
  have hpl:=fm (sF s.sp) hsm.2.2.1 p
  have hin:p/s.sp.wa.length<s.sp.st.length:=Nat.div_lt_of_lt_mul (by rw [Nat.mul_comm];exact hpm)
  have hkm:=Nat.mod_lt p hsm.2.2.1
  have hdm:=Nat.div_add_mod p s.sp.wa.length
  rw [Nat.mul_comm] at hdm
  have hu:(s.sp.u (p/s.sp.wa.length) (p%s.sp.wa.length):Int)=(p:Int)+1:=by unfold Spc.u;omega
  rw [jB hp]
  obtain ⟨al,ll,cl,rfl,hll⟩:=hO.shape
  generalize p/s.sp.wa.length=i at*
  generalize p%s.sp.wa.length=k at*
  have hk2:=hk.mono (hle1.trans hle2)
  refine .region ?_
  refine .o (.alloc hs jR rfl fun b3 w hs=>?_)
  refine .o (.aP (vs:=[_,_,_]) hs rfl rfl pq fun w hs=>?_)
  refine .nil ?_
  refine nT ?_
  refine ⟨H2,[.blk b3 [I (i:Int),I (k:Int),I ((p+1:Nat):Int)],.blk bm [I s.sp.id,I s.sp.src,.slice ast s.sp.st.length cst,.slice awa s.sp.wa.length cwa,I s.sp.al,I s.sp.up,vr,vc,vt,.slice al ll cl],en,.blk b1 [.pointer (some ⟨bm,0,none⟩)],.blk b2 [I s.sp.id,I s.sp.src,.slice ast s.sp.st.length cst,.slice awa s.sp.wa.length cwa,I s.sp.al,I s.sp.up]],HLe.refl _,hs,?_⟩;rintro w σf4 - hs
  refine .block (.ai (.z (zfa bE) (.y hs (zld af) (.z cR (.z (zfa aO) (.y hs (zld ak) (.z (df ad) (.z kX (.nil ?_)))))))))
  refine (.cW rfl (fun hc19=>?_) (fun hc19=>?_))
  ·refine .seq (.draw mix rfl hs fun w hs=>?_)
   refine .z 0 rfl (zfa eo) ?_;refine .z 1 rfl (zfa lI) ?_;refine .y 2 rfl hs af ?_;refine .z 3 rfl (zfa aO) ?_;refine .y 4 rfl hs ak ?_;refine .z 5 rfl (zfa bE) ?_;refine .y 6 rfl hs af ?_;refine .z 7 rfl cR ?_
   have hris:=hok.wa.rise k aj
   have hq0:=hok.wa.bd (i:=k) aj
   have hq1:=hok.wa.bd (i:=k+1) aj
   have hal:=hok.up
   refine .ixX (enc:=fun x=>[I x]) (i:=8) hs rfl ay .none hk2.wa rfl rfl ad ae (bB (l:=s.sp.wa) (i:=(k+1)) aj) dm ?_;intro b28 o28 hc28;replace hc28:=br.one hc28
   refine .r (i:=9) hs rfl ay .none (bj rfl af hc28) ?_
   refine .z 10 rfl (zfa aO) ?_;refine .y 11 rfl hs ak ?_;refine .z 12 rfl (zfa bE) ?_;refine .y 13 rfl hs af ?_
   refine .ixX (enc:=fun x=>[I x]) (i:=14) hs rfl ay .none hk2.wa rfl rfl ad ae (bB (l:=s.sp.wa) (i:=k) aj) dm ?_;intro b34 o34 hc34;replace hc34:=br.one hc34
   refine .r (i:=15) hs rfl ay .none (bj rfl af hc34) ?_
   refine .z 16 rfl iR ?_
   refine .E 17 hs ?_
   refine .call Tryz.call230 rfl (ib hs aj aj) ?_;rintro _ w ⟨rfl,hs⟩
   refine .go ?_
   refine .z 18 rfl zg ?_;refine .D hs ?_
   refine .region (.y hs (zld mf) (.z (zfa cu) (.y hs (zld af) (.z (zfa cu) (.y hs (zld af) (.z cR (.z zm (.z zm (.z (zfa dO) ?_)))))))))
   refine .y hs (zld af) ?_
   refine .o (.call oV rfl (dh (ls:=ls++lB (upL s.sp) s.sp.wa.length p) (hs.sb:St H2 w (.blk bm _::en:: .blk b1 _:: .blk b2 _::σf4)) hO (by rw [List.length_append];omega)) ?_);rintro _ w ⟨vl3,en3,hO3,hs⟩
   have hu2:(s.sp.u i (k+1):Int)=((p+1:Nat):Int)+1:=by unfold Spc.u at hu ⊢;omega
   rw [show two ((p+1:Nat):Int) (((p+1:Nat):Int)+1) (fO s.sp.up (gi s.sp.wa (k+1) - gi s.sp.wa k)) (fO s.sp.up (gi s.sp.wa (k+1) - gi s.sp.wa k)) s.sp.src=upL s.sp i k by unfold upL;rw [if_pos aj,hu,hu2];rfl,List.append_assoc,←hsucc] at hO3
   refine .nil ?_
   refine nB ?_
   exact ⟨H2,_,HLe.refl _,hs,_,_,rfl,hO3⟩
  ·refine .skip ?_
   refine nB ?_
   rw [show upL s.sp i k=[] by unfold upL;rw [if_neg aj],List.append_nil] at hsucc
   exact ⟨H2,_,HLe.refl _,(hs.sb:St H2 w (.blk bm _::en:: .blk b1 _:: .blk b2 _::σf4)),_,_,rfl,by rw [hsucc];exact hO⟩
 ·rintro D H2 σb2 w hle2 ⟨vl,en,rfl,hO⟩ hs
  rw [cJ,show s.sp.many=s.sp.st.length*s.sp.wa.length from rfl,lA _ hsm.2.2.1] at hO
  refine nB ?_
  exact Fin.BO [D] [] hs fun w hs=>⟨_,results0 Tryz.results176,H2,vl,en,hle1.trans hle2,hO,(hs.sb:St H2 w (.blk bm _::en::σ))⟩
theorem mF{s:Srv}{ts:List TD}{vst vwa vr vc vt vl:Value}{en:Ent}{bm:Nat}{ls:List Lim}(hs:St H w (.blk bm [I s.sp.id,I s.sp.src,vst,vwa,I s.sp.al,I s.sp.up,vr,vc,vt,vl]::en::σ))(hk:MkK H s ts vst vwa vr vc vt)(hO:bX 4 vl (gd ls) en)(hl:ls.length≤10000)(hok:dj s.sp)(htl:ts.length≤100):
  Cl Tryz.prog 177 [.pointer (some ⟨bm,0,none⟩)] w fun _ w'=>∃H1 vl' en',HLe H H1∧bX 4 vl' (gd (ls++u4 s.sp ts.length)) en'∧St H1 w' (.blk bm [I s.sp.id,I s.sp.src,vst,vwa,I s.sp.al,I s.sp.up,vr,vc,vt,vl']::en'::σ):=by
 have hsm:=dM hok
 obtain ⟨at_,ct,rfl⟩:=RTd.shape hk.ts
 refine Cl.o Tryz.func177 Tryz.ntmps177 ag1 ?_
 refine .ai (.z zm (.z znc (.z (zfa dd) (.y hs (zld CD) (.z (df aW) (.z zm (.nil ?_)))))))
 refine .for (N:=ts.length) (J:=fun j fr w=>fr=[(0,.pointer (some ⟨bm,0,none⟩))]∧∃vl en,bX 4 vl (gd (ls++u4 s.sp j)) en∧St H w (.blk bm [I s.sp.id,I s.sp.src,vst,vwa,I s.sp.al,I s.sp.up,vr,vc,.slice at_ ts.length ct,vl]::en::σ)) aj ?_ ?_ ?_
 ·exact .mk ⟨rfl,vl,en,by show bX 4 vl (gd (ls++[])) en;rw [List.append_nil];exact hO,hs⟩
 ·rintro j fr w hj ⟨rfl,vl,en,hO,hs⟩
  have hel:=fb s.sp j
  obtain ⟨al,ll,cl,rfl,hll⟩:=hO.shape
  refine .block (.ai (.z zm (.z zg (.nil ?_))))
  refine .draw mix rfl hs fun w hs=>?_
  refine .z 0 rfl zm ?_;refine .z 1 rfl zm ?_;refine .z 2 rfl zm ?_;refine .z 4 rfl zm ?_;refine .z 5 rfl znc ?_;refine .z 6 rfl (zfa bL) ?_;refine .z 7 rfl (zfa aS) ?_;refine .z 8 rfl (zfa dO) ?_;refine .y 9 rfl hs af ?_
  refine .E 3 hs ?_
  refine .call Tryz.call116 rfl (eN (s:=s.sp) hs .here hk.st hk.wa ⟨aj,aj⟩ ⟨aj,aj⟩) ?_;rintro _ w ⟨rfl,hs⟩
  refine .go ?_
  refine .E 10 hs ?_
  refine .call oV rfl (dh (ls:=ls++u4 s.sp j) hs hO (by rw [List.length_append];omega)) ?_;rintro _ w ⟨vl3,en3,hO3,hs⟩
  rw [show (s.sp.many:Int)+1+(j:Int)=((s.sp.many+1+j:Nat):Int) by omega,List.append_assoc] at hO3
  refine .go ?_
  refine .D hs ?_
  refine nB (nT ?_)
  exact .mk ⟨rfl,vl3,en3,hO3,hs⟩
 ·rintro fr w ⟨rfl,vl,en,hO,hs⟩
  exact Fin.sy Tryz.results177 ⟨H,vl,en,HLe.refl _,hO,hs⟩
set_option maxHeartbeats 1000000 in
theorem fV{s:Srv}{ts:List TD}{vst vwa vr vc vt vl:Value}{en:Ent}{bm:Nat}{ls:List Lim}(hs:St H w (.blk bm [I s.sp.id,I s.sp.src,vst,vwa,I s.sp.al,I s.sp.up,vr,vc,vt,vl]::en::σ))(hk:MkK H s ts vst vwa vr vc vt)(hO:bX 4 vl (gd ls) en)(hl:ls.length≤10000)(hok:dj s.sp)(htl:ts.length≤100)(hcl:s.cs.length≤20)(hc:∀c∈s.cs,so c){j0:Nat}(hj0:j0≤ts.length):
  Cl Tryz.prog 117 [.pointer (some ⟨bm,0,none⟩),I (j0:Int)] w fun _ w'=>∃H1 vl' en',HLe H H1∧bX 4 vl' (gd (ls++oC s.sp ts s.cs j0 s.cs.length)) en'∧St H1 w' (.blk bm [I s.sp.id,I s.sp.src,vst,vwa,I s.sp.al,I s.sp.up,vr,vc,vt,vl']::en'::σ):=by
 have hsm:=dM hok
 obtain ⟨at_,ct,rfl⟩:=RTd.shape hk.ts
 obtain ⟨ac,cc,rfl⟩:=RCm.shape hk.cs
 refine Cl.o Tryz.func117 Tryz.ntmps117 ag2 ?_
 refine .ai (.z zm (.z znc (.z (zfa bL) (.z (zfa fW) (.y hs (zld Tryz.isAgg36) (.z (df gx) (.z zm (.nil ?_))))))))
 refine .for (N:=s.cs.length) (J:=fun i fr w=>fr=[(12,.slice ac s.cs.length cc),(0,.pointer (some ⟨bm,0,none⟩)),(1,I (j0:Int))]∧∃vl en,bX 4 vl (gd (ls++oC s.sp ts s.cs j0 i)) en∧St H w (.blk bm [I s.sp.id,I s.sp.src,vst,vwa,I s.sp.al,I s.sp.up,vr,.slice ac s.cs.length cc,.slice at_ ts.length ct,vl]::en::σ)) aj ?_ ?_ ?_
 ·exact .mk ⟨rfl,vl,en,by show bX 4 vl (gd (ls++[])) en;rw [List.append_nil];exact hO,hs⟩
 ·rintro i fr w hi ⟨rfl,vl,en,hO,hs⟩
  obtain ⟨c,hx⟩:=nth hi
  obtain ⟨g1,g2,g3,g4,g5,g6⟩:=hc c (List.mem_of_getElem? hx)
  have hcl1:=fX s.sp ts s.cs j0 i
  have hcl2:i*(2*(ts.length - j0))≤20*(2*100):=Nat.mul_le_mul aj aj
  refine .block (.ai ?_)
  refine .ixX (enc:=Cmp.c) hs hk.cs rfl rfl gx gq hx dm ?_;intro b16 o16 hc16
  refine .q hs (dc (vs:=(Cmp.c c)) rfl Tryz.isAgg108 gq hc16) ?_
  refine .o (.alloc hs CB rfl fun b5 w hs=>?_)
  refine .o (.aP (vs:=c.c) hs rfl rfl gq fun w hs=>?_)
  replace hs:St H w (.blk bm [I s.sp.id,I s.sp.src,vst,vwa,I s.sp.al,I s.sp.up,vr,.slice ac s.cs.length cc,.slice at_ ts.length ct,vl]::en:: .blk b5 [I c.src,I c.tape,I c.fr,I c.to,I c.lo,I c.hi]::σ):=hs.sb
  refine .nil (.ai (.z zm (.z zg (.nil (.block ?_)))))
  refine .loop (fun j:Nat=>⟨62,[],[(6,I ((j0+j:Nat):Int)),(5,.pointer (some ⟨b5,0,none⟩)),(14,I (i:Int)),(13,I (s.cs.length:Int)),(12,.slice ac s.cs.length cc),(0,.pointer (some ⟨bm,0,none⟩)),(1,I (j0:Int))]⟩)
   (fun j w=>j0+j≤ts.length∧∃vl en,bX 4 vl (gd (ls++oC s.sp ts s.cs j0 i++gk s.sp ts c j0 j)) en∧St H w (.blk bm [I s.sp.id,I s.sp.src,vst,vwa,I s.sp.al,I s.sp.up,vr,.slice ac s.cs.length cc,.slice at_ ts.length ct,vl]::en:: .blk b5 [I c.src,I c.tape,I c.fr,I c.to,I c.lo,I c.hi]::σ)) (fun j=>ts.length - (j0+j)) 0 cC
   ⟨aj,vl,en,by show bX 4 vl (gd (_++[])) en;rw [List.append_nil];exact hO,hs⟩ ?_
  clear hO hs
  rintro j w ⟨hj,vl,en,hO,hs⟩
  have hl1:=jo s.sp ts c j0 j
  obtain ⟨al,ll,cl,rfl,hll⟩:=hO.shape
  refine .seq (.ai (.z zm (.z zm (.z znc (.z (zfa dd) (.y hs (zld CD) (.z (df aW) (.z kX (.nil ?_)))))))))
  refine (.cW rfl (fun hc25=>?_) (fun hc25=>?_))
  ·refine .skip ?_
   refine nT ?_
   refine .seq (.block (.ai (.z zm (.z znc (.z (zfa dd) (.y hs (zld CD) (.z zm ?_)))))))
   obtain ⟨t,ht⟩:=nth (l:=ts) (k:=j0+j) aj
   have ht0:=AJ ht
   refine .ixX (enc:=TD.c) hs hk.ts rfl rfl aW bP ht dm ?_;intro b33 o33 hc33
   refine .q hs (dc (vs:=(TD.c t)) rfl gZ bP hc33) ?_
   refine .o (.alloc hs tt rfl fun b7 w hs=>?_)
   refine .o (.aP (vs:=t.c) hs rfl rfl bP fun w hs=>?_)
   change St _ _ (.blk b7 [I t.tape,I t.day]::_) at hs
   refine .nil (.ai (.z (zfa nt) (.y hs (zld af) (.z (zfa iN) (.y hs (zld af) (.z j9 (.z zm ?_)))))))
   refine .mM (t':=40) rfl (fun hb40=>?_) (fun hb40=>?_)
   ·refine .gT rfl rfl ?_
    refine .z (zfa ns) ?_
    refine .gT rfl rfl ?_
    refine .y hs (zld af) ?_
    refine .gT rfl rfl ?_
    refine .z (zfa iM) ?_
    refine .gT rfl rfl ?_
    refine .y hs (zld af) ?_
    refine .gT rfl rfl ?_
    refine .z (zfa fD) ?_
    refine .gT rfl rfl ?_
    refine .y hs (zld af) ?_
    refine .gT rfl rfl ?_
    refine .o (.call bN rfl (aF hs) ?_);rintro _ w ⟨rfl,hs⟩
    refine .z zpT (.nil ?_)
    refine (.cond rfl (fun hc48=>?_) (fun hc48=>?_))
    ·refine .draw mix rfl hs fun w hs=>?_
     refine .z 0 rfl zm ?_;refine .z 1 rfl zm ?_;refine .z 2 rfl zm ?_;refine .z 4 rfl (zfa iL) ?_;refine .y 5 rfl hs af ?_;refine .z 6 rfl xh ?_;refine .z 7 rfl (zfa fC) ?_;refine .y 8 rfl hs af ?_;refine .z 9 rfl (zfa iO) ?_;refine .y 10 rfl hs af ?_
     refine .E 3 hs ?_
     refine .call Tryz.call116 rfl (eN (s:=s.sp) hs (.there .here) hk.st hk.wa ⟨aj,aj⟩ ⟨aj,aj⟩) ?_;rintro _ w ⟨rfl,hs⟩
     refine .go ?_
     refine .E 11 hs ?_
     refine .call oV rfl (dh (ls:=ls++oC s.sp ts s.cs j0 i++gk s.sp ts c j0 j) (hs.tail:St H w (.blk bm _::en:: .blk b5 _::σ)) hO (by rw [List.length_append,List.length_append];omega)) ?_;rintro _ w ⟨vl3,en3,hO3,hs⟩
     refine .go ?_
     refine .D hs ?_
     refine nB (nT ?_)
     refine .region (.z zm (.z cR (.z zg (.nil ?_))))
     refine nT ?_
     have e:gk s.sp ts c j0 (j+1)=gk s.sp ts c j0 j++two 0 ((s.sp.many:Int)+1+((j0+j:Nat):Int)) (-c.lo) c.hi c.src:=by
      show _++kg c (td0 ts (j0+j)) _=_
      rw [ht0];unfold kg;rw [if_pos (by simp at hc48;omega)]
      rw [show ((s.sp.many+1+(j0+j):Nat):Int)=(s.sp.many:Int)+1+((j0+j:Nat):Int) by omega]
     rw [List.append_assoc _ (gk _ _ _ _ _),←e] at hO3
     exact ⟨j+1,.eU rfl (by simp;omega) cC,⟨aj,vl3,en3,hO3,hs⟩,aj⟩
    ·refine .skip ?_
     refine nB (nT ?_)
     refine .region (.z zm (.z cR (.z zg (.nil ?_))))
     refine nT ?_
     have e:gk s.sp ts c j0 (j+1)=gk s.sp ts c j0 j:=by
      show _++kg c (td0 ts (j0+j)) _=_
      rw [ht0];unfold kg;rw [if_neg (by simp at hc48;omega),List.append_nil]
     exact ⟨j+1,.eU rfl (by simp;omega) cC,⟨aj,_,en,by rw [e];exact hO,hs.tail⟩,aj⟩
   ·refine .gFs 7 5 true rfl rfl rfl ?_
    refine .z zpF (.nil ?_)
    refine (.cF ?_)
    refine .skip ?_
    refine nB (nT ?_)
    refine .region (.z zm (.z cR (.z zg (.nil ?_))))
    refine nT ?_
    have e:gk s.sp ts c j0 (j+1)=gk s.sp ts c j0 j:=by
     show _++kg c (td0 ts (j0+j)) _=_
     rw [ht0];unfold kg;rw [if_neg aj,List.append_nil]
    exact ⟨j+1,.eU rfl (by simp;omega) cC,⟨aj,_,en,by rw [e];exact hO,hs.tail⟩,aj⟩
  ·refine .exit ?_
   refine xT (xT (xB (nB (nT ?_))))
   obtain rfl:j=ts.length - j0:=by omega
   rw [List.append_assoc,show oC s.sp ts s.cs j0 i++gk s.sp ts c j0 (ts.length - j0)=oC s.sp ts s.cs j0 (i+1) by rw [←Ab hx];rfl] at hO
   exact .mk ⟨rfl,_,en,hO,hs.sb⟩
 ·rintro fr w ⟨rfl,vl,en,hO,hs⟩
  exact Fin.sy Tryz.results117 ⟨H,vl,en,HLe.refl _,hO,hs⟩
end Go.Proofs.YtddaejgfjlneoaaGreat
